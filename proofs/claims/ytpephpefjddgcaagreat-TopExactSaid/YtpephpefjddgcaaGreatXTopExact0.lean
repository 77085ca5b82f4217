/- Part 11 of what follows is proved here: what the statement TopExact needs of functions and plain laws. -/
import Derived.Test.YtpephpefjddgcaaGreatV9
import Derived.Test.YtpephpefjddgcaaGreatV8
set_option linter.unusedVariables false
set_option linter.unusedSimpArgs false
namespace Go.VC
/-! Loops that answer something of which more is known. -/
section
variable {α β σ R : Type}
theorem lp_ex {body : (σ → Option R) → σ → Option R} (m : σ → Nat) (I : σ → Prop) (P : R → Prop) (step : ∀ (nx : σ → Option R) (v : σ), I v → (∀ v', I v' → m v' < m v → ∃ r, nx v' = some r ∧ P r) → ∃ r, body nx v = some r ∧ P r) :
    ∀ (n : Nat) (v : σ), I v → m v < n → ∃ r, lp body n v = some r ∧ P r
  | 0, v, _, h => by omega
  | n + 1, v, hI, h => by
    rw [lp_succ]
    exact step _ v hI fun v' hI' hlt => lp_ex m I P step n v' hI' (by omega)
end
end Go.VC
