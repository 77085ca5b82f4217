/- Part 25 of what follows is proved here: what the statement TopAccepts needs of functions and plain laws. -/
import Derived.Test.YtldlcdnhdedoeaaGreatXTopAccepts13
import Derived.Test.YtldlcdnhdedoeaaGreatXTopAccepts9
import Derived.KernelRfl
set_option linter.unusedVariables false
set_option linter.unusedSimpArgs false
set_option maxRecDepth 1000000
namespace Go.Proofs.YtldlcdnhdedoeaaGreat
open Go Go.VC
theorem chk21:aChk 21=true:=by kernel_rfl
theorem chk22:aChk 22=true:=by kernel_rfl
theorem chk23:aChk 23=true:=by kernel_rfl
theorem chk24:aChk 24=true:=by kernel_rfl
theorem chk25:aChk 25=true:=by kernel_rfl
theorem chk26:aChk 26=true:=by kernel_rfl
theorem chk27:aChk 27=true:=by kernel_rfl
theorem chk28:aChk 28=true:=by kernel_rfl
theorem chk29:aChk 29=true:=by kernel_rfl
theorem chk30:aChk 30=true:=by kernel_rfl
end Go.Proofs.YtldlcdnhdedoeaaGreat
