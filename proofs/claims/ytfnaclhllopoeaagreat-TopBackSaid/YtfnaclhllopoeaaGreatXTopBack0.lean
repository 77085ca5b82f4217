/- Part 11 of what follows is proved here: what the statement TopBack needs of functions and plain laws. -/
import Derived.Test.YtfnaclhllopoeaaGreatV9
import Derived.Test.YtfnaclhllopoeaaGreatV8
set_option linter.unusedVariables false
set_option linter.unusedSimpArgs false
namespace Go.VC
/-! Loops that answer something of which more is known. -/
section
variable {α β σ R : Type}
theorem lp_ex {body : (σ → Option R) → σ → Option R} (m : σ → Nat) (I : σ → Prop) (P : R → Prop) (step : ∀ (nx : σ → Option R) (v : σ), I v → (∀ v', I v' → m v' < m v → ∃ r, nx v' = some r ∧ P r) → ∃ r, body nx v = some r ∧ P r) :
    ∀ (n : Nat) (v : σ), I v → m v < n → ∃ r, lp body n v = some r ∧ P r
  | 0, v, _, h => by omega
  | n + 1, v, hI, h => by
    rw [lp_succ]
    exact step _ v hI fun v' hI' hlt => lp_ex m I P step n v' hI' (by omega)
theorem lp_up_ex {body : (Int → Option R) → Int → Option R} (N : Nat) (hN : N < FU) (J : Nat → Prop) (P : R → Prop) (h0 : J 0)
    (step : ∀ (nx : Int → Option R) (k : Nat), k ≤ N → J k → (k < N → J (k + 1) → ∃ r, nx ((k + 1 : Nat) : Int) = some r ∧ P r) → ∃ r, body nx (k : Int) = some r ∧ P r) : ∃ r, lp body FU (0 : Int) = some r ∧ P r := by
  refine lp_ex (fun v => N - v.toNat) (fun v => ∃ k : Nat, v = (k : Int) ∧ k ≤ N ∧ J k) P ?_ FU _ ⟨0, rfl, Nat.zero_le _, h0⟩ (by simp; omega)
  rintro nx v ⟨k, rfl, hk, hJ⟩ hnx
  exact step nx k hk hJ fun hlt hJ' => hnx _ ⟨k + 1, rfl, hlt, hJ'⟩ (by simp only [Int.toNat_natCast]; omega)
end
end Go.VC
