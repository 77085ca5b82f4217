/- Part 24 of what follows is proved here: what the statement TopAccepts needs of functions and plain laws. -/
import Derived.Test.YtldlcdnhdedoeaaGreatXTopAccepts12
import Derived.Test.YtldlcdnhdedoeaaGreatXTopAccepts9
import Derived.KernelRfl
set_option linter.unusedVariables false
set_option linter.unusedSimpArgs false
set_option maxRecDepth 1000000
namespace Go.Proofs.YtldlcdnhdedoeaaGreat
open Go Go.VC
theorem chk11:aChk 11=true:=by kernel_rfl
theorem chk12:aChk 12=true:=by kernel_rfl
theorem chk13:aChk 13=true:=by kernel_rfl
theorem chk14:aChk 14=true:=by kernel_rfl
theorem chk15:aChk 15=true:=by kernel_rfl
theorem chk16:aChk 16=true:=by kernel_rfl
theorem chk17:aChk 17=true:=by kernel_rfl
theorem chk18:aChk 18=true:=by kernel_rfl
theorem chk19:aChk 19=true:=by kernel_rfl
theorem chk20:aChk 20=true:=by kernel_rfl
end Go.Proofs.YtldlcdnhdedoeaaGreat
