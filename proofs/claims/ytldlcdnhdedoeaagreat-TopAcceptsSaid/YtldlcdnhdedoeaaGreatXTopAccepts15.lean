/- Part 26 of what follows is proved here: what the statement TopAccepts needs of functions and plain laws. -/
import Derived.Test.YtldlcdnhdedoeaaGreatXTopAccepts14
import Derived.Test.YtldlcdnhdedoeaaGreatXTopAccepts9
import Derived.KernelRfl
set_option linter.unusedVariables false
set_option linter.unusedSimpArgs false
set_option maxRecDepth 1000000
namespace Go.Proofs.YtldlcdnhdedoeaaGreat
open Go Go.VC
theorem chk31:aChk 31=true:=by kernel_rfl
theorem chk32:aChk 32=true:=by kernel_rfl
theorem chk33:aChk 33=true:=by kernel_rfl
theorem chk34:aChk 34=true:=by kernel_rfl
theorem chk35:aChk 35=true:=by kernel_rfl
theorem chk36:aChk 36=true:=by kernel_rfl
theorem chk37:aChk 37=true:=by kernel_rfl
theorem chk38:aChk 38=true:=by kernel_rfl
theorem chk39:aChk 39=true:=by kernel_rfl
theorem chk40:aChk 40=true:=by kernel_rfl
end Go.Proofs.YtldlcdnhdedoeaaGreat
