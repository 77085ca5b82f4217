/- Part 23 of what follows is proved here: what the statement TopAccepts needs of functions and plain laws. -/
import Derived.Test.YtldlcdnhdedoeaaGreatXTopAccepts11
import Derived.Test.YtldlcdnhdedoeaaGreatXTopAccepts9
import Derived.KernelRfl
set_option linter.unusedVariables false
set_option linter.unusedSimpArgs false
set_option maxRecDepth 1000000
namespace Go.Proofs.YtldlcdnhdedoeaaGreat
open Go Go.VC
theorem chk1:aChk 1=true:=by kernel_rfl
theorem chk2:aChk 2=true:=by kernel_rfl
theorem chk3:aChk 3=true:=by kernel_rfl
theorem chk4:aChk 4=true:=by kernel_rfl
theorem chk5:aChk 5=true:=by kernel_rfl
theorem chk6:aChk 6=true:=by kernel_rfl
theorem chk7:aChk 7=true:=by kernel_rfl
theorem chk8:aChk 8=true:=by kernel_rfl
theorem chk9:aChk 9=true:=by kernel_rfl
theorem chk10:aChk 10=true:=by kernel_rfl
end Go.Proofs.YtldlcdnhdedoeaaGreat
