/- Part 27 of what follows is proved here: what the statement TopAccepts needs of functions and plain laws. -/
import Derived.Test.YtldlcdnhdedoeaaGreatXTopAccepts15
import Derived.Test.YtldlcdnhdedoeaaGreatXTopAccepts9
import Derived.KernelRfl
set_option linter.unusedVariables false
set_option linter.unusedSimpArgs false
set_option maxRecDepth 1000000
namespace Go.Proofs.YtldlcdnhdedoeaaGreat
open Go Go.VC
theorem chk41:aChk 41=true:=by kernel_rfl
theorem chk42:aChk 42=true:=by kernel_rfl
theorem chk43:aChk 43=true:=by kernel_rfl
theorem chk44:aChk 44=true:=by kernel_rfl
theorem chk45:aChk 45=true:=by kernel_rfl
theorem chk46:aChk 46=true:=by kernel_rfl
theorem chk47:aChk 47=true:=by kernel_rfl
theorem chk48:aChk 48=true:=by kernel_rfl
theorem chk49:aChk 49=true:=by kernel_rfl
theorem chk50:aChk 50=true:=by kernel_rfl
end Go.Proofs.YtldlcdnhdedoeaaGreat
