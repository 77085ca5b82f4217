/- Part 19 of what follows is proved here: what the statement TopBack needs of functions and plain laws. -/
import Derived.Test.YtfnaclhllopoeaaGreatXTopBack7
set_option linter.unusedVariables false
set_option linter.unusedSimpArgs false
namespace Go.VC
/-! Short names for what function walks say often. -/
end Go.VC
