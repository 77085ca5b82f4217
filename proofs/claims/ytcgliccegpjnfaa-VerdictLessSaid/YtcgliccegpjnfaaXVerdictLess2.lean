/- It is proved that the law VerdictLess returns true at every input that the row lets in; there is no condition beside the row's own. -/
import Derived.Test.YtcgliccegpjnfaaXVerdictLess1
import Derived.Test.YtcgliccegpjnfaaRows
set_option linter.unusedVariables false
set_option linter.unusedSimpArgs false
set_option maxRecDepth 100000
namespace Go.Proofs.Ytcgliccegpjnfaa
open Go Go.VC

/-! The first tick for which tasks don't fit. -/
def badB (l : List Task) (f : Face) (t : Nat) : Bool := decide (needV l t > supV f t)
def badV (l : List Task) (f : Face) (e : Nat) : Option Nat := (List.range (e + 1)).find? (badB l f)
theorem badV_some {l : List Task} {f : Face} {e t : Nat} : badV l f e = some t ↔ t ≤ e ∧ needV l t > supV f t ∧ ∀ j, j < t → needV l j ≤ supV f j := by
  unfold badV
  rw [List.find?_range_eq_some]
  unfold badB
  simp only [decide_eq_true_eq, List.mem_range, Bool.not_eq_true', decide_eq_false_iff_not]
  constructor
  · rintro ⟨h1, h2, h3⟩; exact ⟨by omega, h1, fun j hj => by have := h3 j hj; omega⟩
  · rintro ⟨h1, h2, h3⟩; exact ⟨h2, by omega, fun j hj => by have := h3 j hj; omega⟩
theorem badV_none {l : List Task} {f : Face} {e : Nat} : badV l f e = none ↔ ∀ t, t ≤ e → needV l t ≤ supV f t := by
  unfold badV
  rw [List.find?_range_eq_none]
  unfold badB
  simp only [Bool.not_eq_true', decide_eq_false_iff_not]
  exact ⟨fun h t ht => by have := h t (by omega); omega, fun h t ht => by have := h t (by omega); omega⟩
theorem scan_eq {R : Type} (l : List Task) (f : Face) (e : Nat) (he : e ≤ 1000000) (A : Int → Option R) (B : Option R) (r : R) (h1 : ∀ t, badV l f e = some t → A (t : Int) = some r) (h2 : badV l f e = none → B = some r) {body : (Int → Option R) → Int → Option R}
    (hb : ∀ nx (k : Nat), k ≤ e + 1 → body nx (k : Int) = fk (decide ((k : Int) ≤ (e : Int))) (fk (decide (needV l k > supV f k)) (A k) (nx ((k + 1 : Nat) : Int))) B) : lp body FU 0 = some r := by
  refine lp_up (e + 1) (by unfold FU; omega) (fun k => ∀ j : Nat, j < k → needV l j ≤ supV f j) (fun j h => by omega) ?_
  intro nx k hk J hnx
  rw [hb nx k hk]
  by_cases c : (k : Int) ≤ (e : Int)
  · rw [decide_eq_true c, fk_t]
    by_cases d : needV l k > supV f k
    · rw [decide_eq_true d, fk_t]
      exact h1 k (badV_some.2 ⟨by omega, d, J⟩)
    · rw [decide_eq_false d, fk_f]
      refine hnx (by omega) fun j hj => ?_
      by_cases e2 : j = k
      · subst e2; omega
      · exact J j (by omega)
  · rw [decide_eq_false c, fk_f]
    exact h2 (badV_none.2 fun t ht => J t (by omega))
theorem okC_end {l : List Task} {f : Face} (h : okC l f) : ∃ e : Nat, (e : Int) = (cyc l f : Int) + farv l f ∧ e ≤ 3000 := by
  have h1 := farv_b h.1 h.2.1
  have h2 := h.2.2
  have h3 := h.2.1
  unfold faceP at h3
  exact ⟨((cyc l f : Int) + farv l f).toNat, by omega, by omega⟩
def endN (l : List Task) (f : Face) : Nat := ((cyc l f : Int) + farv l f).toNat
theorem endN_eq {l : List Task} {f : Face} (h : okC l f) : ((endN l f : Nat) : Int) = (cyc l f : Int) + farv l f ∧ endN l f ≤ 3000 := by
  obtain ⟨e, h1, h2⟩ := okC_end h
  unfold endN; omega
noncomputable def firstV (l : List Task) (f : Face) : Int × Bool × Int := if okC l f then (match badV l f (endN l f) with | some t => ((t : Int), true, 0) | none => (0, false, 0)) else (0, false, errC l f)
theorem errC_ne {l : List Task} {f : Face} (h : ¬ okC l f) : errC l f ≠ 0 := by
  unfold errC; rw [if_neg h]; split <;> omega
theorem verdict_First_eq (l : List Task) (f : Face) (hl : l.length ≤ 4611686018427387904) : verdict_First l f = some (firstV l f) := by
  unfold verdict_First firstV
  rw [bnd_eq (verdict_Cycle_eq l f hl)]
  by_cases h : okC l f
  rotate_left
  · have := errC_ne h
    rw [cycV, if_neg h, if_neg h]
    simp only
    rw [decide_eq_false this, Bool.not_false, fk_t]
  obtain ⟨e1, e2⟩ := endN_eq h
  rw [cycV, if_pos h, if_pos h]
  rw [show (!decide (((cyc l f : Int), (cyc l f : Int) + farv l f, (0 : Int)).2.2 = 0)) = false from rfl, fk_f, show ((cyc l f : Int), (cyc l f : Int) + farv l f, (0 : Int)).2.1 = (cyc l f : Int) + farv l f from rfl, ← e1]
  have : verdict_fails l f ((endN l f : Nat) : Int) = some ((badV l f (endN l f)).map fun t => (t : Int)) := by
    unfold verdict_fails
    refine scan_eq l f (endN l f) (by omega) (fun v => some (some v)) (some none) _ (fun t ht => by rw [ht]; rfl) (fun ht => by rw [ht]; rfl) ?_
    intro nx k hk
    by_cases c : (k : Int) ≤ ((endN l f : Nat) : Int)
    · rw [decide_eq_true c, fk_t, fk_t, bnd_eq (verdict_Need_eq l k hl (by omega)), bnd_eq (supply_Bound_eq f k), if_pos ⟨h.1, by omega⟩, if_pos (show faceP f ∧ 0 ≤ (k : Int) ∧ (k : Int) ≤ 4611686018427387903 from ⟨h.2.1, by omega, by omega⟩), wr_in _ (by omega)]
      rfl
    · rw [decide_eq_false c, fk_f, fk_f]
  rw [bnd_eq this]
  cases badV l f (endN l f) with
  | none => rfl
  | some t => rfl
theorem ref10_First_eq (l : List Task) (f : Face) (h : okC l f) : ref10_First l f ((endN l f : Nat) : Int) = some ((firstV l f).1, (firstV l f).2.1) := by
  unfold ref10_First firstV
  rw [if_pos h]
  obtain ⟨e1, e2⟩ := endN_eq h
  refine scan_eq l f (endN l f) (by omega) (fun v => some (v, true)) (some (0, false)) _ (fun t ht => by rw [ht]) (fun ht => by rw [ht]) ?_
  intro nx k hk
  by_cases c : (k : Int) ≤ ((endN l f : Nat) : Int)
  · rw [decide_eq_true c, fk_t, fk_t, bnd_eq (ref10_Need_eq l k h.1 (by omega) (by omega)), bnd_eq (ref09_Bound_eq f k h.2.1 (by omega) (by omega)), wr_in _ (by omega)]
    rfl
  · rw [decide_eq_false c, fk_f, fk_f]
/-! What is asked for in a cycle. -/
def askC (c : Int) (t : Task) : Int := t.C * (c / t.T)
def asked (l : List Task) (c : Int) : Int := sumI (askC c) l
def givenC (f : Face) (c : Int) : Int := f.B * (c / f.P)
theorem div_b {c T : Int} (hc : 0 ≤ c) (hT : 1 ≤ T) : 0 ≤ c / T ∧ c / T ≤ c := ⟨Int.ediv_nonneg hc (by omega), Int.ediv_le_self _ hc⟩
theorem asked_b {l : List Task} (ha : AllP l) {c : Int} (h0 : 0 ≤ c) (h1 : c ≤ 3000) (k : Nat) : 0 ≤ asked (l.take k) c ∧ asked (l.take k) c ≤ 600000 * 8 := by
  have hx : ∀ t ∈ l.take k, 0 ≤ askC c t ∧ askC c t ≤ 600000 := fun t ht => by
    have hT := ha.T (List.mem_of_mem_take ht)
    have hd := div_b h0 hT.1
    unfold askC
    refine ⟨Int.mul_nonneg (by omega) hd.1, ?_⟩
    have := Int.mul_le_mul (show t.C ≤ 200 by omega) (show c / t.T ≤ 3000 by omega) hd.1 (by omega)
    omega
  refine ⟨sumI_nonneg fun t ht => (hx t ht).1, ?_⟩
  have h2 := sumI_bound (l := l.take k) fun t ht => (hx t ht).2
  have h3 : (l.take k).length ≤ 8 := by rw [List.length_take]; have := ha.2; omega
  unfold asked
  have h4 : (600000 : Int) * ((l.take k).length : Int) ≤ 600000 * 8 := Int.mul_le_mul_of_nonneg_left (by omega) (by omega)
  omega
theorem givenC_b {f : Face} (hf : faceP f) {c : Int} (h0 : 0 ≤ c) (h1 : c ≤ 3000) : 0 ≤ givenC f c ∧ givenC f c ≤ 600000 := by
  unfold faceP at hf
  have hd := div_b h0 (show 1 ≤ f.P by omega)
  unfold givenC
  refine ⟨Int.mul_nonneg (by omega) hd.1, ?_⟩
  have := Int.mul_le_mul (show f.B ≤ 200 by omega) (show c / f.P ≤ 3000 by omega) hd.1 (by omega)
  omega
theorem cyc_b {l : List Task} {f : Face} (h : okC l f) : 1 ≤ (cyc l f : Int) ∧ (cyc l f : Int) ≤ 3000 := by
  have h1 := farv_b h.1 h.2.1
  have h2 := h.2.2
  have h3 := h.2.1
  have h4 := (cyc_take h.1 h.2.1 l.length).1
  rw [List.take_length] at h4
  unfold faceP at h3
  have : 0 < cyc l f := h4
  omega
theorem ref10_Asked_eq (l : List Task) (f : Face) (h : okC l f) : ref10_Asked l f (cyc l f : Int) = some (asked l (cyc l f), givenC f (cyc l f)) := by
  unfold ref10_Asked
  have h8 := h.1.2
  have hc := cyc_b h
  refine lp_upS l.length (by unfold FU; omega) (fun k v => v = asked (l.take k) (cyc l f)) 0 (by simp [asked, sumI]) ?_
  rintro nx k v hk rfl hnx
  simp only
  rw [lt_nat]
  by_cases hh : k < l.length
  · have hT := h.1.T (List.getElem_mem hh)
    have hd := div_b (show 0 ≤ (cyc l f : Int) by omega) hT.1
    have hb := asked_b h.1 (show 0 ≤ (cyc l f : Int) by omega) hc.2 k
    have hb2 := asked_b h.1 (show 0 ≤ (cyc l f : Int) by omega) hc.2 (k + 1)
    have hs : asked (l.take (k + 1)) (cyc l f) = asked (l.take k) (cyc l f) + askC (cyc l f) l[k] := sumI_succ _ _ _ hh
    have hm : 0 ≤ l[k].C * ((cyc l f : Int) / l[k].T) := Int.mul_nonneg (by omega) hd.1
    unfold askC at hs
    rw [decide_eq_true hh, fk_t]
    simp only [ix_lt hh]
    rw [ck_t (decide_eq_true (by omega)), Int.tdiv_eq_ediv_of_nonneg (by omega), wr_in ((cyc l f : Int) / l[k].T) (by omega), wr_in (l[k].C * ((cyc l f : Int) / l[k].T)) (by omega), wr_in _ (by omega), wr_succ k _ hh (by omega)]
    exact hnx _ hh hs.symm
  · have hf := h.2.1
    unfold faceP at hf
    have hd := div_b (show 0 ≤ (cyc l f : Int) by omega) (show 1 ≤ f.P by omega)
    have hg := givenC_b h.2.1 (show 0 ≤ (cyc l f : Int) by omega) hc.2
    unfold givenC at hg ⊢
    rw [decide_eq_false hh, fk_f, ck_t (decide_eq_true (by omega)), Int.tdiv_eq_ediv_of_nonneg (by omega), wr_in ((cyc l f : Int) / f.P) (by omega), wr_in _ (by omega)]
    have : k = l.length := by omega
    rw [this, List.take_length]
def fitsF (l : List Task) (f : Face) : Prop := okC l f ∧ asked l (cyc l f) ≤ givenC f (cyc l f) ∧ badV l f (endN l f) = none
noncomputable instance (l : List Task) (f : Face) : Decidable (fitsF l f) := Classical.propDecidable _
theorem verdict_Fits_eq (l : List Task) (f : Face) (hl : l.length ≤ 4611686018427387904) : verdict_Fits l f = some (decide (fitsF l f), errC l f) := by
  unfold verdict_Fits
  rw [bnd_eq (verdict_Cycle_eq l f hl)]
  by_cases h : okC l f
  rotate_left
  · have := errC_ne h
    rw [cycV, if_neg h]
    simp only
    rw [decide_eq_false this, Bool.not_false, fk_t, decide_eq_false (fun hh => h hh.1)]
  have e0 : errC l f = 0 := by unfold errC; rw [if_pos h]
  have h8 := h.1.2
  have hc := cyc_b h
  rw [cycV, if_pos h]
  rw [show (!decide (((cyc l f : Int), (cyc l f : Int) + farv l f, (0 : Int)).2.2 = 0)) = false from rfl, fk_f]
  refine lp_upS l.length (by unfold FU; omega) (fun k v => v = asked (l.take k) (cyc l f)) 0 (by simp [asked, sumI]) ?_
  rintro nx k v hk rfl hnx
  simp only
  rw [lt_nat]
  by_cases hh : k < l.length
  · have hT := h.1.T (List.getElem_mem hh)
    have hd := div_b (show 0 ≤ (cyc l f : Int) by omega) hT.1
    have hb := asked_b h.1 (show 0 ≤ (cyc l f : Int) by omega) hc.2 k
    have hb2 := asked_b h.1 (show 0 ≤ (cyc l f : Int) by omega) hc.2 (k + 1)
    have hs : asked (l.take (k + 1)) (cyc l f) = asked (l.take k) (cyc l f) + askC (cyc l f) l[k] := sumI_succ _ _ _ hh
    have hm : 0 ≤ l[k].C * ((cyc l f : Int) / l[k].T) := Int.mul_nonneg (by omega) hd.1
    unfold askC at hs
    rw [Int.mul_comm] at hs hm
    rw [decide_eq_true hh, fk_t, ix_lt hh, ck_t (decide_eq_true (by omega)), Int.tdiv_eq_ediv_of_nonneg (by omega), wr_in ((cyc l f : Int) / l[k].T) (by omega), wr_in ((cyc l f : Int) / l[k].T * l[k].C) (by omega), wr_in _ (by omega), wr_succ k _ hh (by omega)]
    exact hnx _ hh hs.symm
  · have hf := h.2.1
    unfold faceP at hf
    have hd := div_b (show 0 ≤ (cyc l f : Int) by omega) (show 1 ≤ f.P by omega)
    have hg := givenC_b h.2.1 (show 0 ≤ (cyc l f : Int) by omega) hc.2
    have : k = l.length := by omega
    subst this
    have eg : (cyc l f : Int) / f.P * f.B = givenC f (cyc l f) := by unfold givenC; rw [Int.mul_comm]
    rw [decide_eq_false hh, fk_f, ck_t (decide_eq_true (by omega)), Int.tdiv_eq_ediv_of_nonneg (by omega), wr_in ((cyc l f : Int) / f.P) (by omega), eg, wr_in _ (by omega), List.take_length, e0]
    by_cases c : asked l (cyc l f) > givenC f (cyc l f)
    · rw [decide_eq_true c, fk_t, decide_eq_false (fun hx => by have := hx.2.1; omega)]
    rw [decide_eq_false c, fk_f, bnd_eq (verdict_First_eq l f hl)]
    unfold firstV
    rw [if_pos h]
    cases hb : badV l f (endN l f) with
    | none => rw [show decide (fitsF l f) = true from decide_eq_true ⟨h, by omega, hb⟩]; rfl
    | some t => rw [show decide (fitsF l f) = false from decide_eq_false fun hx => by rw [hx.2.2] at hb; cases hb]; rfl
theorem ref10_Fits_eq (l : List Task) (f : Face) (hl : l.length ≤ 4611686018427387904) (hs : ∀ t ∈ l, t.Secs.length ≤ 4611686018427387904) (h : okC l f) : ref10_Fits l f = some (decide (fitsF l f)) := by
  unfold ref10_Fits
  obtain ⟨e1, e2⟩ := endN_eq h
  rw [bnd_eq (ref10_Cycle_eq l f hl hs), cycV, if_pos h]
  simp only
  rw [bnd_eq (ref10_Asked_eq l f h), ← e1, bnd_eq (ref10_First_eq l f h)]
  simp only
  by_cases c : asked l (cyc l f) ≤ givenC f (cyc l f)
  · rw [decide_eq_true c, fk_t]
    unfold firstV
    rw [if_pos h]
    cases hb : badV l f (endN l f) with
    | none => rw [show decide (fitsF l f) = true from decide_eq_true ⟨h, c, hb⟩]; rfl
    | some t => rw [show decide (fitsF l f) = false from decide_eq_false fun hx => by rw [hx.2.2] at hb; cases hb]; rfl
  · rw [decide_eq_false c, fk_f, decide_eq_false (fun hx => c hx.2.1)]
end Go.Proofs.Ytcgliccegpjnfaa
namespace Go.Proofs.Ytcgliccegpjnfaa
open Go Go.VC

/-! From the end on all goes on by cycles. -/
theorem jobsN_steps {t : Task} (h : RightP t) {k : Int} (h0 : t.D ≤ k) : ∀ n : Nat, jobsN t (k + t.T * (n : Int)) = jobsN t k + (n : Int)
  | 0 => by simp
  | n + 1 => by
    have hT := h.1
    unfold ownP at hT
    have hm : 0 ≤ t.T * (n : Int) := Int.mul_nonneg (by omega) (by omega)
    have e : k + t.T * ((n + 1 : Nat) : Int) = (k + t.T * (n : Int)) + t.T := by
      rw [show ((n + 1 : Nat) : Int) = (n : Int) + 1 by omega, Int.mul_add]; omega
    rw [e, jobsN_step h (by omega), jobsN_steps h h0 n]; omega
theorem sumI_congr {α : Type} {f g : α → Int} : ∀ {l : List α}, (∀ x ∈ l, f x = g x) → sumI f l = sumI g l
  | [], _ => rfl
  | x :: r, h => by simp only [sumI, h x List.mem_cons_self, sumI_congr fun y hy => h y (List.mem_cons_of_mem _ hy)]
theorem sumI_add {α : Type} (f g : α → Int) : ∀ (l : List α), sumI (fun x => f x + g x) l = sumI f l + sumI g l
  | [] => rfl
  | x :: r => by simp only [sumI, sumI_add f g r]; omega
theorem sumI_mul {α : Type} (f : α → Int) (n : Int) : ∀ (l : List α), sumI (fun x => n * f x) l = n * sumI f l
  | [] => by simp [sumI]
  | x :: r => by simp only [sumI, sumI_mul f n r, Int.mul_add]
/-- c is a number that all periods divide. -/
def cycleP (l : List Task) (c : Int) : Prop := 0 ≤ c ∧ ∀ t ∈ l, t.T * (c / t.T) = c
theorem sumB_cycle {l : List Task} (ha : AllP l) {c k : Int} (hc : cycleP l c) (h0 : ∀ t ∈ l, t.D ≤ k) (n : Nat) : sumB l (k + c * (n : Int)) = sumB l k + (n : Int) * asked l c := by
  unfold sumB asked
  rw [← sumI_mul, ← sumI_add]
  refine sumI_congr fun t ht => ?_
  have hT := ha.T ht
  have hd := div_b hc.1 hT.1
  have e : c * (n : Int) = t.T * (((c / t.T).toNat * n : Nat) : Int) := by
    have h1 := hc.2 t ht
    have h2 : (((c / t.T).toNat * n : Nat) : Int) = (c / t.T) * (n : Int) := by
      rw [Int.natCast_mul, Int.toNat_of_nonneg hd.1]
    rw [h2, ← Int.mul_assoc, h1]
  unfold costN askC
  rw [e, jobsN_steps (ha.1 t ht) (h0 t ht), Int.mul_add, Int.natCast_mul, Int.toNat_of_nonneg hd.1, Int.mul_comm (c / t.T), Int.mul_left_comm]
theorem supV_cycle {f : Face} (hf : faceP f) {c k : Int} (hc : 0 ≤ c ∧ f.P * (c / f.P) = c) (h0 : f.P - f.B ≤ k) (n : Nat) : supV f (k + c * (n : Int)) = supV f k + (n : Int) * givenC f c := by
  obtain ⟨q, r, ht, hq, hr, hr2⟩ := qr_of hf h0
  have hf' := hf
  unfold faceP at hf'
  have hd := div_b hc.1 (show 1 ≤ f.P by omega)
  have hm : 0 ≤ (n : Int) * (c / f.P) := Int.mul_nonneg (by omega) hd.1
  have e : k + c * (n : Int) = (f.P - f.B) + (q + (n : Int) * (c / f.P)) * f.P + r := by
    have : c * (n : Int) = (n : Int) * (c / f.P) * f.P := by
      conv => lhs; rw [← hc.2]
      rw [Int.mul_comm f.P, Int.mul_comm _ (n : Int), Int.mul_assoc]
    rw [this, ht, Int.add_mul]; omega
  rw [supV_qr hf e (by omega) hr hr2, supV_qr hf ht hq hr hr2, Int.add_mul]
  unfold givenC
  have : (n : Int) * (c / f.P) * f.B = (n : Int) * (f.B * (c / f.P)) := by rw [Int.mul_assoc, Int.mul_comm (c / f.P)]
  omega
theorem cyc_cycle {l : List Task} {f : Face} (ha : AllP l) (hf : faceP f) {n : Nat} (hn : cyc l f ∣ n) : cycleP l (n : Int) ∧ 0 ≤ (n : Int) ∧ f.P * ((n : Int) / f.P) = (n : Int) := by
  unfold faceP at hf
  have h1 := (lcmL_dvd l f.P.toNat n).1 hn
  have key : ∀ T : Int, 1 ≤ T → T.toNat ∣ n → T * ((n : Int) / T) = (n : Int) := by
    intro T hT hd
    have e : T = ((T.toNat : Nat) : Int) := by omega
    have hd2 : T ∣ (n : Int) := by rw [e]; exact Int.natCast_dvd_natCast.2 hd
    exact Int.mul_ediv_cancel' hd2
  exact ⟨⟨by omega, fun t ht => key _ (ha.T ht).1 (h1.2 t ht)⟩, by omega, key _ (by omega) h1.1⟩
theorem blockV_far {l : List Task} {t : Int} (h : ∀ x ∈ l, x.D ≤ t) : blockV l t = 0 := by
  unfold blockV
  exact maxL_zero fun x hx => by unfold taskN; rw [if_pos (h x hx)]
/-- Tasks that fit do so for each tick, however many. -/
theorem fits_all {l : List Task} {f : Face} (h : fitsF l f) : ∀ t : Nat, needV l t ≤ supV f t := by
  obtain ⟨hok, has, hb⟩ := h
  obtain ⟨e1, e2⟩ := endN_eq hok
  have hc := cyc_b hok
  have hfv := farv_b hok.1 hok.2.1
  have hf := hok.2.1
  unfold faceP at hf
  obtain ⟨hcl, hcf⟩ := cyc_cycle hok.1 hok.2.1 (Nat.dvd_refl (cyc l f))
  have main : ∀ m t : Nat, t ≤ m → needV l t ≤ supV f t := by
    intro m
    induction m with
    | zero => intro t ht; exact badV_none.1 hb t (by omega)
    | succ m ih =>
      intro t ht
      by_cases c : t ≤ endN l f
      · exact badV_none.1 hb t c
      · have hk : ((t - cyc l f : Nat) : Int) = (t : Int) - (cyc l f : Int) := by omega
        have h1 := ih (t - cyc l f) (by omega)
        have hD : ∀ x ∈ l, x.D ≤ ((t - cyc l f : Nat) : Int) := fun x hx => by have := hfv.2.2 x hx; omega
        have hD2 : ∀ x ∈ l, x.D ≤ (t : Int) := fun x hx => by have := hD x hx; omega
        have e : (t : Int) = ((t - cyc l f : Nat) : Int) + (cyc l f : Int) * ((1 : Nat) : Int) := by omega
        have s1 := sumB_cycle hok.1 hcl hD 1
        have s2 := supV_cycle hok.2.1 hcf (k := ((t - cyc l f : Nat) : Int)) (by omega) 1
        rw [← e] at s1 s2
        unfold needV at *
        rw [blockV_far hD] at h1
        rw [blockV_far hD2, s1, s2]
        omega
  exact fun t => main t t (Nat.le_refl _)
theorem fits_int {l : List Task} {f : Face} (h : fitsF l f) {t : Int} (h0 : 0 ≤ t) : needV l t ≤ supV f t := by
  have := fits_all h t.toNat
  rwa [Int.toNat_of_nonneg h0] at this
/-! Fewer tasks; more of a budget. -/
theorem lcmL_sub {l l' : List Task} (h : ∀ t ∈ l', t ∈ l) (P : Nat) : lcmL P l' ∣ lcmL P l := by
  have h1 := (lcmL_dvd l P (lcmL P l)).1 (Nat.dvd_refl _)
  exact (lcmL_dvd l' P _).2 ⟨h1.1, fun t ht => h1.2 t (h t ht)⟩
theorem sumI_sub {α : Type} {f : α → Int} {l' l : List α} (h : l'.Sublist l) (h0 : ∀ x ∈ l, 0 ≤ f x) : sumI f l' ≤ sumI f l := by
  induction h with
  | slnil => exact Int.le_refl _
  | cons a _ ih =>
    have := ih fun x hx => h0 x (List.mem_cons_of_mem _ hx)
    have := h0 _ List.mem_cons_self
    simp only [sumI]; omega
  | cons_cons a _ ih =>
    have := ih fun x hx => h0 x (List.mem_cons_of_mem _ hx)
    simp only [sumI]; omega
theorem AllP.sub {l l' : List Task} (h : AllP l) (hs : l'.Sublist l) : AllP l' := ⟨fun t ht => h.1 t (hs.subset ht), Nat.le_trans hs.length_le h.2⟩
theorem needV_sub {l l' : List Task} (ha : AllP l) (hs : l'.Sublist l) {t : Int} (h0 : 0 ≤ t) : needV l' t ≤ needV l t := by
  have h1 := sumI_sub (f := costN t) hs fun x hx => costN_nonneg (ha.1 x hx) h0
  have h2 := blockV_mono (l := l') (l' := l) (t := t) fun x hx => hs.subset hx
  unfold needV sumB; omega
theorem fits_sub {l l' : List Task} {f : Face} (h : fitsF l f) (hs : l'.Sublist l) : fitsF l' f := by
  have hok := h.1
  have ha' := hok.1.sub hs
  have hc := cyc_b hok
  have hdv : cyc l' f ∣ cyc l f := lcmL_sub (fun t ht => hs.subset ht) _
  have hle : cyc l' f ≤ cyc l f := Nat.le_of_dvd (by omega) hdv
  have hpos : 0 < cyc l' f := by have := (cyc_take ha' hok.2.1 l'.length).1; rwa [List.take_length] at this
  have hfar : farv l' f ≤ farv l f := (farL_b l' (2 * f.P)).2.2 _ (farL_b l (2 * f.P)).1 fun t ht => (farL_b l (2 * f.P)).2.1 t (hs.subset ht)
  have hok' : okC l' f := ⟨ha', hok.2.1, by have := hok.2.2; omega⟩
  refine ⟨hok', ?_, badV_none.2 fun t _ => Int.le_trans (needV_sub hok.1 hs (by omega)) (fits_all h t)⟩
  obtain ⟨m, hm⟩ := hdv
  have hm0 : 0 < m := by
    rcases Nat.eq_zero_or_pos m with e | e
    · subst e; simp at hm; omega
    · exact e
  obtain ⟨c1, _, c2⟩ := cyc_cycle ha' hok.2.1 (Nat.dvd_refl (cyc l' f))
  have hf := hok.2.1
  unfold faceP at hf
  have key : ∀ T : Int, 1 ≤ T → T * ((cyc l' f : Int) / T) = (cyc l' f : Int) → (cyc l f : Int) / T = (m : Int) * ((cyc l' f : Int) / T) := by
    intro T hT he
    have : (cyc l f : Int) = T * ((m : Int) * ((cyc l' f : Int) / T)) := by
      rw [Int.mul_left_comm, he, hm, Int.natCast_mul, Int.mul_comm]
    rw [this, Int.mul_ediv_cancel_left _ (by omega), ]
  have a1 : asked l' (cyc l f) = (m : Int) * asked l' (cyc l' f) := by
    unfold asked
    rw [← sumI_mul]
    refine sumI_congr fun t ht => ?_
    unfold askC
    rw [key t.T (ha'.T ht).1 (c1.2 t ht), Int.mul_left_comm]
  have a2 : givenC f (cyc l f) = (m : Int) * givenC f (cyc l' f) := by
    unfold givenC
    rw [key f.P (by omega) c2, Int.mul_left_comm]
  have a3 : asked l' (cyc l f) ≤ asked l (cyc l f) := sumI_sub hs fun t ht => by
    have hT := hok.1.T ht
    have := div_b (show 0 ≤ (cyc l f : Int) by omega) hT.1
    exact Int.mul_nonneg (by omega) this.1
  have a4 := h.2.1
  rw [a2] at a4
  rw [a1] at a3
  exact Int.le_of_mul_le_mul_left (Int.le_trans a3 a4) (by omega)
theorem supV_more {f : Face} (hf : faceP f) (hf2 : faceP ⟨f.P, f.B + 1⟩) {t : Int} (h0 : 0 ≤ t) : supV f t ≤ supV ⟨f.P, f.B + 1⟩ t := by
  have hf' := hf
  unfold faceP at hf'
  by_cases c : t < f.P - f.B
  · rw [supV_low c]; exact (supV_b hf2 h0).1
  · obtain ⟨q, r, ht, hq, hr, hr2⟩ := qr_of hf (show f.P - f.B ≤ t by omega)
    rw [supV_qr hf ht hq hr hr2]
    have hq1 : q * (f.B + 1) = q * f.B + q := by rw [Int.mul_add, Int.mul_one]
    by_cases c2 : r + 1 < f.P
    · rw [supV_qr hf2 (t := t) (q := q) (r := r + 1) (by simp only; omega) hq (by omega) c2]
      simp only
      rw [hq1]
      unfold max0; split <;> split <;> omega
    · have hq2 : (q + 1) * f.P = q * f.P + f.P := by rw [Int.add_mul, Int.one_mul]
      have hq3 : (q + 1) * (f.B + 1) = q * f.B + q + f.B + 1 := by rw [Int.add_mul, Int.one_mul, hq1]; omega
      rw [supV_qr hf2 (t := t) (q := q + 1) (r := 0) (by simp only; rw [hq2]; omega) (by omega) (by omega) (by simp only; omega)]
      simp only
      rw [hq3]
      unfold max0; split <;> split <;> omega
theorem fits_more {l : List Task} {f : Face} (h : fitsF l f) (hb : f.B + 1 ≤ f.P) : fitsF l ⟨f.P, f.B + 1⟩ := by
  have hok := h.1
  have hf := hok.2.1
  unfold faceP at hf
  have hf2 : faceP ⟨f.P, f.B + 1⟩ := by unfold faceP; simp only; omega
  have hc := cyc_b hok
  refine ⟨⟨hok.1, hf2, hok.2.2⟩, ?_, badV_none.2 fun t _ => Int.le_trans (fits_all h t) (supV_more hok.2.1 hf2 (by omega))⟩
  have := h.2.1
  have e : cyc l ⟨f.P, f.B + 1⟩ = cyc l f := rfl
  rw [e]
  have hd := div_b (show 0 ≤ (cyc l f : Int) by omega) (show 1 ≤ f.P by omega)
  unfold givenC at *
  simp only
  rw [Int.add_mul, Int.one_mul]; omega
/-- Where tasks don't fit, there is a tick for which they don't. -/
def someT (l : List Task) (f : Face) : Int := match badV l f (endN l f) with | some t => (t : Int) | none => (endN l f : Int) + (cyc l f : Int) * (supV f (endN l f) + 1)
theorem someT_bad {l : List Task} {f : Face} (hok : okC l f) (h : ¬ fitsF l f) : 0 ≤ someT l f ∧ someT l f ≤ 2199023255552 ∧ sumB l (someT l f) ≤ needV l (someT l f) ∧ needV l (someT l f) > supV f (someT l f) := by
  obtain ⟨e1, e2⟩ := endN_eq hok
  have hc := cyc_b hok
  have hfv := farv_b hok.1 hok.2.1
  have hf := hok.2.1
  unfold faceP at hf
  have hge : ∀ t, sumB l t ≤ needV l t := fun t => by unfold needV; omega
  unfold someT
  cases hb : badV l f (endN l f) with
  | some t =>
    obtain ⟨h1, h2, _⟩ := badV_some.1 hb
    exact ⟨by simp only; omega, by simp only; omega, hge _, h2⟩
  | none =>
    have hask : ¬ asked l (cyc l f) ≤ givenC f (cyc l f) := fun hh => h ⟨hok, hh, hb⟩
    have hs := supV_b hok.2.1 (t := (endN l f : Int)) (by omega)
    have en : supV f (endN l f) + 1 = (((supV f (endN l f) + 1).toNat : Nat) : Int) := by omega
    obtain ⟨hcl, hcf⟩ := cyc_cycle hok.1 hok.2.1 (Nat.dvd_refl (cyc l f))
    have s1 := sumB_cycle hok.1 hcl (k := (endN l f : Int)) (fun x hx => by have := hfv.2.2 x hx; omega) (supV f (endN l f) + 1).toNat
    have s2 := supV_cycle hok.2.1 hcf (k := (endN l f : Int)) (by omega) (supV f (endN l f) + 1).toNat
    rw [← en] at s1 s2
    have hm : (cyc l f : Int) * (supV f (endN l f) + 1) ≤ 3000 * 3001 := Int.mul_le_mul hc.2 (by omega) (by omega) (by omega)
    have hm0 : 0 ≤ (cyc l f : Int) * (supV f (endN l f) + 1) := Int.mul_nonneg (by omega) (by omega)
    have hB := sumB_nonneg hok.1 (k := (endN l f : Int)) (by omega)
    have hx : (supV f (endN l f) + 1) * (givenC f (cyc l f) + 1) ≤ (supV f (endN l f) + 1) * asked l (cyc l f) := Int.mul_le_mul_of_nonneg_left (by omega) (by omega)
    rw [Int.mul_add, Int.mul_one] at hx
    refine ⟨by simp only; omega, by simp only; omega, hge _, ?_⟩
    have := hge ((endN l f : Int) + (cyc l f : Int) * (supV f (endN l f) + 1))
    simp only
    omega
end Go.Proofs.Ytcgliccegpjnfaa
namespace Go.Proofs.Ytcgliccegpjnfaa
open Go Go.VC
theorem law10_knows_eq : law10_knows = some true := by kernel_rfl
theorem errC_cases (l : List Task) (f : Face) : errC l f = 0 ∨ errC l f = 1 ∨ errC l f = 5 := by
  unfold errC; split
  · exact .inl rfl
  · split
    · exact .inr (.inr rfl)
    · exact .inr (.inl rfl)
theorem errC_ok {l : List Task} {f : Face} (h : okC l f) : errC l f = 0 := by unfold errC; rw [if_pos h]
theorem err3 (l : List Task) (f : Face) (x : Option Bool) : fk (decide (errC l f = (0 : Int))) (some true) (fk (decide (errC l f = (1 : Int))) (some true) (fk (decide (errC l f = (5 : Int))) (some true) x)) = some true := by
  rcases errC_cases l f with h | h | h <;> rw [h] <;> rfl
theorem firstV_err {l : List Task} {f : Face} (h : ¬ okC l f) : firstV l f = (0, false, errC l f) := by unfold firstV; rw [if_neg h]
theorem firstV_ok {l : List Task} {f : Face} (h : okC l f) : (firstV l f).2.2 = 0 := by unfold firstV; rw [if_pos h]; cases badV l f (endN l f) <;> rfl
end Go.Proofs.Ytcgliccegpjnfaa
namespace Go.Proofs.Ytcgliccegpjnfaa
open Go Go.VC
theorem proofVerdictLess : PureVerdictLess := by
  intro l f i hl hf hi
  have hll : l.length ≤ 4611686018427387904 := wf_len hl.1 (Nat.le_refl _)
  have hsl : ∀ t ∈ l, t.Secs.length ≤ 4611686018427387904 := fun t ht => (hl.2 t ht).len
  unfold law10_VerdictLess
  simp only [jn_eq, law10_knows_eq, bnd_some]
  rw [bnd_eq (law05_Great_eq l hll)]
  by_cases hg : GreatP l
  · rw [decide_eq_true hg, fk_t, fk_t]
  rw [decide_eq_false hg, fk_f]
  by_cases h0 : (l.length : Int) = 0
  · rw [decide_eq_true h0, fk_t]
  rw [decide_eq_false h0, fk_f, bnd_eq (verdict_Fits_eq l f hll)]
  by_cases hfit : fitsF l f
  rotate_left
  · rw [decide_eq_false hfit, Bool.not_false, fk_t]
    exact err3 l f _
  have h8 := hfit.1.1.2
  have hfp := hfit.1.2.1
  unfold faceP at hfp
  rw [decide_eq_true hfit, Bool.not_true, fk_f, ck_t (decide_eq_true h0), errC_ok hfit.1]
  refine lp_inv (fun v => l.length - v.2.2.toNat) (fun v => ∃ (k : Nat) (ls : List Task) (p : Bool), v = (ls, p, (k : Int)) ∧ k ≤ l.length ∧ ls.Sublist (l.take k)) ?_ FU _ ⟨0, [], true, rfl, Nat.zero_le _, List.nil_sublist _⟩ (by unfold FU; simp; omega)
  rintro nx v ⟨k, ls, p, rfl, hk, hs⟩ hnx
  simp only
  rw [lt_nat]
  by_cases h : k < l.length
  · have hlen := hs.length_le
    rw [List.length_take] at hlen
    rw [decide_eq_true h, fk_t]
    simp only [ix_lt h]
    rw [wr_succ k _ h (by omega)]
    have et : l.take (k + 1) = l.take k ++ [l[k]] := (List.take_append_getElem h).symm
    have fin : ∀ w10 : Bool, fk (!decide ((k : Int) = ((IntKind.i64.wrap i).tmod (l.length : Int)))) (ck (decide ((ls.length + ([l[k]] : List Task).length) * 48 ≤ 140737488355328)) (nx (ls ++ ([l[k]] : List Task), w10, ((k + 1 : Nat) : Int)))) (nx (ls, w10, ((k + 1 : Nat) : Int))) = some true := by
      intro w10
      cases hd : decide ((k : Int) = ((IntKind.i64.wrap i).tmod (l.length : Int))) with
      | true =>
        rw [Bool.not_true, fk_f]
        refine hnx _ ⟨k + 1, ls, w10, rfl, by omega, ?_⟩ (by simp only [Int.toNat_natCast]; omega)
        rw [et]; exact hs.trans (List.sublist_append_left _ _)
      | false =>
        rw [Bool.not_false, fk_t, ck_t (by simp; omega)]
        refine hnx _ ⟨k + 1, ls ++ [l[k]], w10, rfl, by omega, ?_⟩ (by simp only [Int.toNat_natCast]; omega)
        rw [et]; exact hs.append (List.Sublist.refl _)
    cases p with
    | true => rw [fk_t]; exact fin _
    | false => rw [fk_f]; exact fin _
  have : k = l.length := by omega
  subst this
  rw [List.take_length] at hs
  have hlen := hs.length_le
  rw [decide_eq_false h, fk_f, wr_in (f.B + 1) (by omega), bnd_eq (verdict_Fits_eq ls f (by omega)), bnd_eq (verdict_Fits_eq l _ hll), decide_eq_true (fits_sub hfit hs)]
  have rest : fk false (some false) (fk (decide ((0 : Int) = 0)) (fk (!p) (some true) (fk true (some true) (fk (decide (errC ls f = (5 : Int))) (some true) (some false)))) (some false)) = some true := by
    rw [fk_f, decide_eq_true rfl, fk_t, fk_t]
    cases p <;> rfl
  by_cases hb : f.B + 1 ≤ f.P
  · have hm := fits_more hfit hb
    rw [decide_eq_true hb, fk_t, decide_eq_true hm, Bool.not_true, fk_f, errC_ok hm.1, show (!decide ((0 : Int) = 0)) = false from rfl]
    exact rest
  · rw [decide_eq_false hb, fk_f]
    exact rest
end Go.Proofs.Ytcgliccegpjnfaa
namespace Go.Proofs.Ytcgliccegpjnfaa.verdictLess
open Go Go.VC Go.ChangeShapes Go.WideShapes Go.ChangeAt Go.RowKit
theorem own : ownKnob Try.prog.godebug = none := by kernel_rfl
theorem laidOut : laidOutB Try.prog = true := by kernel_rfl
theorem lifted (os : Os) (started : os.Started) (H : Type) (enc : TypeId × Value → H) :
    ReturnsInHanded {} Try.checked os 14 .any (Rows.verdictLessSpec.pre6 enc Try.prog Try.f14 Rows.verdictLessRow.domain false) (Rows.verdictLessSpec.post enc Try.prog Try.f14 false true false false) := by
  refine returnsInHanded_of_change_sized (C := Try.checked) own started (by kernel_rfl) Try.func14
    (ChangeSpec.witness6 (enc := enc) (C := Try.checked) false ⟨#[], #[.slice none 0 0, .agg #[.int .i64 0, .int .i64 0], .int .u8 0], []⟩ 8 (by kernel_rfl) (by kernel_rfl) (by kernel_rfl) (by kernel_rfl)) ?_
  intro W base args ds gs before hval0 hW hcnd hsz0 _
  have hsz : (DataW.weightsEach Try.prog (Try.f14.params.toList ++ Rows.verdictLessSpec.plain.varTypes Try.prog) (ds ++ gs)).all (· ≤ reachBytes) = true := hsz0
  have hval : ∀ (j : Nat) t v, Try.f14.params[j]? = some t → args[j]? = some v → Value.okWide Try.prog W .any base t v := hval0
  have hW' := hW
  obtain ⟨p, q, hA0, hV, rfl, hfz, hnd⟩ := hW
  have hA : DataW.TrodAll enc Try.prog W 0 (fun _ => true) true Try.f14.params.toList args.toList ds p := hA0
  rw [Try.params14] at hA hval hsz
  obtain ⟨v0, vs0, d0, ds0, p0, q0, hargs, rfl, rfl, h0, r0⟩ := trodAll_cons hA
  obtain ⟨v1, vs1, d1, ds1, p1, q1, rfl, rfl, rfl, h1, r1⟩ := trodAll_cons r0
  obtain ⟨v2, vs2, d2, ds2, p2, q2, rfl, rfl, rfl, h2, r2⟩ := trodAll_cons r1
  obtain ⟨rfl, rfl, rfl⟩ := trodAll_nil r2
  obtain rfl : args = #[v0, v1, v2] := by cases args; simp_all
  obtain ⟨rfl, rfl⟩ := trodVars_none hV
  have lt0 : ∀ x ∈ p0, x.block < W.heap.size := by obtain ⟨m, hm⟩ := h0; exact DataW.trod_lt m _ _ _ hm
  have wt0 : ∀ k ∈ d0.weights Try.prog 22, k ≤ BB := fun k hk => of_decide_eq_true (List.all_eq_true.1 hsz _ (DataW.weights_mem_each (j := 0) rfl rfl k hk))
  obtain ⟨c0, s0, g0⟩ := open_cv tab (m := 8) (t := 22) rfl (hval 0 22 v0 rfl rfl) h0 wt0
  have g0 := g0 _ T22
  obtain ⟨a0, rfl, w0⟩ := (s0.l (f := Task.enc) (W := (fun x => Task.wf x)) T22 T32 (fun _ _ h => (Task.of h)))
  have lt1 : ∀ x ∈ p1, x.block < W.heap.size := by obtain ⟨m, hm⟩ := h1; exact DataW.trod_lt m _ _ _ hm
  have wt1 : ∀ k ∈ d1.weights Try.prog 42, k ≤ BB := fun k hk => of_decide_eq_true (List.all_eq_true.1 hsz _ (DataW.weights_mem_each (j := 1) rfl rfl k hk))
  obtain ⟨c1, s1, g1⟩ := open_cv tab (m := 8) (t := 42) rfl (hval 1 42 v1 rfl rfl) h1 wt1
  have g1 := g1 _ T42
  obtain ⟨a1, rfl, w1⟩ := (Face.of s1)
  have lt2 : ∀ x ∈ p2, x.block < W.heap.size := by obtain ⟨m, hm⟩ := h2; exact DataW.trod_lt m _ _ _ hm
  have wt2 : ∀ k ∈ d2.weights Try.prog 5, k ≤ BB := fun k hk => of_decide_eq_true (List.all_eq_true.1 hsz _ (DataW.weights_mem_each (j := 2) rfl rfl k hk))
  obtain ⟨c2, s2, g2⟩ := open_cv tab (m := 8) (t := 5) rfl (hval 2 5 v2 rfl rfl) h2 wt2
  have g2 := g2 _ T5
  obtain ⟨a2, rfl, w2⟩ := (s2.i T5)
  clear hA0 hval0 hsz0 hsz
  have pure := proofVerdictLess a0 a1 a2 w0 w1 w2
  refine ((law10_VerdictLess_w a0 a1 a2 true pure).2 W (pw W) [v0, v1, v2] (fun _ h => h) (All2.cons g0 (All2.cons g1 (All2.cons g2 All2.nil)))).mono fun e W' ⟨v, rs, p', he, hR, hrep, bel, _⟩ => ?_
  subst hR he
  obtain rfl := RepD_bool hrep
  exact ⟨_, rfl, _, _, _, [], _, [], hW', trodAll_mk1 (shut_bool Try.underlying4 _), (trodAll_cons_mk (Below.trod laidOut (by kernel_rfl) (of_decide_eq_true (by kernel_rfl)) h0 bel lt0) (trodAll_cons_mk (Below.trod laidOut (by kernel_rfl) (of_decide_eq_true (by kernel_rfl)) h1 bel lt1) (trodAll_cons_mk (Below.trod laidOut (by kernel_rfl) (of_decide_eq_true (by kernel_rfl)) h2 bel lt2) trodAll_mk0))), rfl, bel.frame _, fun h => by cases h⟩
theorem over : Rows.verdictLessRow.holds Try.pinned (OpenSpec.ofChange Rows.verdictLessSpec) :=
  OpenClaim.holds_of_wide 14 Try.f14 rfl rfl rfl rfl rfl rfl rfl ⟨rfl, rfl, rfl, rfl, rfl⟩ rfl rfl rfl rfl rfl (by kernel_rfl) Try.func14 (by kernel_rfl)
    (of_decide_eq_true (by kernel_rfl)) (by unfold Func.isWrapper; first | (rw [if_pos (by decide +kernel)]; kernel_rfl) | (rw [if_neg (by decide +kernel)]; exact ⟨rfl, rfl⟩))
    (fun os started H enc _ => lifted os started H enc)
end Go.Proofs.Ytcgliccegpjnfaa.verdictLess
namespace Go.Proofs.Ytcgliccegpjnfaa
theorem verdictLess_holds : Rows.VerdictLessSaid := verdictLess.over
end Go.Proofs.Ytcgliccegpjnfaa
