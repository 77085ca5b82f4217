/- Part 19 of what follows is proved here: what the statement TopExact needs of functions and plain laws. -/
import Derived.Test.YtpephpefjddgcaaGreatXTopExact0
import Derived.Test.YtpephpefjddgcaaGreatXTopExact7
set_option linter.unusedVariables false
set_option linter.unusedSimpArgs false
set_option maxRecDepth 100000
set_option maxHeartbeats 40000000
namespace Go.Proofs.YtpephpefjddgcaaGreat
open Go Go.VC

/-! ### Tasks -/
def fitsP (a b : Sec) : Prop := a.At + a.Len ≤ b.At ∨ (a.At ≤ b.At ∧ b.At + b.Len ≤ a.At + a.Len ∧ a.Res ≠ b.Res)
def secP (C : Int) (s : Sec) : Prop := 0 ≤ s.Res ∧ s.Res < 4 ∧ 0 ≤ s.At ∧ s.At < C ∧ 1 ≤ s.Len ∧ s.Len ≤ C - s.At
def ownP (t : Task) : Prop := 1 ≤ t.C ∧ t.C ≤ t.D ∧ t.D ≤ t.T ∧ t.T ≤ 200 ∧ t.Secs.length ≤ 4
def RightP (t : Task) : Prop := ownP t ∧ (∀ s ∈ t.Secs, secP t.C s) ∧ t.Secs.Pairwise fitsP
instance (a b : Sec) : Decidable (fitsP a b) := by unfold fitsP; infer_instance
instance (C : Int) (s : Sec) : Decidable (secP C s) := by unfold secP; infer_instance
instance (t : Task) : Decidable (ownP t) := by unfold ownP; infer_instance
instance (t : Task) : Decidable (RightP t) := by unfold RightP; infer_instance
def right (t : Task) : Bool := decide (RightP t)

theorem task_own_eq (t : Task) : task_own t = some (decide (ownP t)) := by
  unfold task_own
  simp only [fk_if, decide_eq_true_eq]
  repeat' split
  · exact dec_iff (by unfold ownP; omega)
  all_goals exact dec_f (by unfold ownP; omega)

theorem task_may_eq (t : Task) (s : Sec) (h : ownP t) : task_may t s = some (decide (secP t.C s)) := by
  unfold ownP at h
  unfold task_may
  simp only [fk_if, decide_eq_true_eq]
  repeat' split
  · rw [wr_in _ (by omega)]
    exact dec_iff (by unfold secP; omega)
  all_goals exact dec_f (by unfold secP; omega)

theorem task_fits_eq (C : Int) (a b : Sec) (hC : C ≤ 200) (ha : secP C a) (hb : secP C b) : task_fits a b = some (decide (fitsP a b)) := by
  unfold secP at ha hb
  unfold task_fits
  rw [wr_in _ (by omega), wr_in _ (by omega)]
  simp only [fk_if, decide_eq_true_eq]
  repeat' split
  · exact dec_t (by unfold fitsP; omega)
  · exact dec_f (by unfold fitsP; omega)
  · exact dec_not (by unfold fitsP; omega)
  · exact dec_f (by unfold fitsP; omega)

theorem task_Right_eq (t : Task) : task_Right t = some (right t) := by
  unfold task_Right
  rw [bnd_eq (task_own_eq t)]
  by_cases ho : ownP t
  rotate_left
  · simp [ho, right, RightP, fk_if]
  simp only [ho, decide_true, Bool.not_true, fk_f]
  have hlen : t.Secs.length ≤ 4 := ho.2.2.2.2
  have hC : t.C ≤ 200 := by unfold ownP at ho; omega
  refine lp_up t.Secs.length (by unfold FU; omega) (fun k => (∀ j (h : j < t.Secs.length), j < k → secP t.C t.Secs[j]) ∧ (∀ i j (hi : i < t.Secs.length) (hj : j < t.Secs.length), i < j → j < k → fitsP t.Secs[i] t.Secs[j])) ⟨fun j _ h => by omega, fun i j _ _ _ h => by omega⟩ ?_
  rintro nx k hk ⟨J1, J2⟩ hnx
  rw [lt_nat]
  by_cases h : k < t.Secs.length
  · rw [decide_eq_true h, fk_t, ix_lt h, bnd_eq (task_may_eq t _ ho)]
    by_cases hs : secP t.C t.Secs[k]
    rotate_left
    · have : right t = false := decide_eq_false fun hr => hs (hr.2.1 _ (List.getElem_mem h))
      simp [hs, this, fk_if]
    simp only [hs, decide_true, Bool.not_true, fk_f]
    rw [ck_t (by simp; omega)]
    have e : (t.Secs.take (k : Int).toNat).drop (0 : Int).toNat = t.Secs.take k := by simp
    rw [e]
    have el : (t.Secs.take k).length = k := by simp; omega
    refine lp_up k (by unfold FU; omega) (fun j => ∀ i (hi : i < t.Secs.length), i < j → fitsP t.Secs[i] t.Secs[k]) (fun i _ h => by omega) ?_
    intro nx2 j hj J3 hnx2
    rw [el, lt_nat]
    by_cases h2 : j < k
    · have hjl : j < t.Secs.length := by omega
      rw [decide_eq_true h2, fk_t, ix_lt (by omega), List.getElem_take, bnd_eq (task_fits_eq t.C _ _ hC (J1 j hjl h2) hs)]
      by_cases hf : fitsP t.Secs[j] t.Secs[k]
      · rw [decide_eq_true hf, fk_t, wr_succ j k h2 (by omega)]
        refine hnx2 h2 fun i hi hij => ?_
        by_cases e : i = j
        · subst e; exact hf
        · exact J3 i hi (by omega)
      · have : right t = false := decide_eq_false fun hr => hf (List.pairwise_iff_getElem.1 hr.2.2 j k hjl h h2)
        rw [decide_eq_false hf, fk_f, this]; rfl
    · have hjk : j = k := by omega
      subst hjk
      rw [decide_eq_false h2, fk_f, wr_succ j _ h (by omega)]
      refine hnx h ⟨fun i hi hij => ?_, fun a b ha hb hab hbj => ?_⟩
      · by_cases e : i = j
        · subst e; exact hs
        · exact J1 i hi (by omega)
      · by_cases e : b = j
        · subst e; exact J3 a ha hab
        · exact J2 a b ha hb hab (by omega)
  · have hk2 : k = t.Secs.length := by omega
    rw [decide_eq_false h, fk_f]
    have : right t = true := decide_eq_true ⟨ho, fun s hs => by
      obtain ⟨j, hj, rfl⟩ := List.getElem_of_mem hs
      exact J1 j hj (by omega), List.pairwise_iff_getElem.2 fun i j hi hj hij => J2 i j hi hj hij (by omega)⟩
    rw [this]
    unfold ownP at ho
    simp; omega


def AllP (l : List Task) : Prop := (∀ t ∈ l, RightP t) ∧ l.length ≤ 8
instance (l : List Task) : Decidable (AllP l) := by unfold AllP; infer_instance
theorem right_t {t : Task} : right t = true ↔ RightP t := decide_eq_true_iff
theorem right_f {t : Task} : right t = false ↔ ¬ RightP t := decide_eq_false_iff_not

theorem task_All_eq (l : List Task) (hl : l.length ≤ 4611686018427387904) : task_All l = some (decide (AllP l)) := by
  unfold task_All
  refine lp_up l.length (by unfold FU; omega) (fun k => ∀ j (h : j < l.length), j < k → RightP l[j]) (fun j _ h => by omega) ?_
  intro nx k hk J hnx
  rw [lt_nat]
  by_cases h : k < l.length
  · rw [decide_eq_true h, fk_t, ix_lt h, bnd_eq (task_Right_eq _)]
    by_cases hr : RightP l[k]
    · rw [right_t.2 hr, Bool.not_true, fk_f, wr_succ k _ h hl]
      refine hnx h fun j hj hjk => ?_
      by_cases e : j = k
      · subst e; exact hr
      · exact J j hj (by omega)
    · rw [right_f.2 hr, Bool.not_false, fk_t]
      exact dec_f fun ha => hr (ha.1 _ (List.getElem_mem h))
  · rw [decide_eq_false h, fk_f]
    refine dec_iff ⟨fun h8 => ⟨fun t ht => ?_, by omega⟩, fun ha => by have := ha.2; omega⟩
    obtain ⟨j, hj, rfl⟩ := List.getElem_of_mem ht
    exact J j hj (by omega)

def holds (had : Int) (s : Sec) : Bool := decide (s.At < had) && decide (had < s.At + s.Len)
def heldL (had : Int) (l : List Sec) : List Int := (l.filter (holds had)).map (·.Res)
def held (t : Task) (had : Int) : List Int := if right t = true then heldL had t.Secs else []
theorem RightP.len {t : Task} (h : RightP t) : t.Secs.length ≤ 4 := h.1.2.2.2.2
theorem RightP.c {t : Task} (h : RightP t) : 1 ≤ t.C ∧ t.C ≤ t.D ∧ t.D ≤ t.T ∧ t.T ≤ 200 := ⟨h.1.1, h.1.2.1, h.1.2.2.1, h.1.2.2.2.1⟩

def usesP (t : Task) (res : Int) : Prop := RightP t ∧ ∃ s ∈ t.Secs, s.Res = res
instance (t : Task) (res : Int) : Decidable (usesP t res) := by unfold usesP; infer_instance
theorem task_Uses_eq (t : Task) (res : Int) : task_Uses t res = some (decide (usesP t res)) := by
  unfold task_Uses
  rw [bnd_eq (task_Right_eq _)]
  by_cases hr : RightP t
  rotate_left
  · rw [right_f.2 hr, Bool.not_false, fk_t]; exact dec_f fun h => hr h.1
  have hl := hr.len
  rw [right_t.2 hr, Bool.not_true, fk_f]
  refine lp_up t.Secs.length (by unfold FU; omega) (fun k => ∀ j (h : j < t.Secs.length), j < k → t.Secs[j].Res ≠ res) (fun j _ h => by omega) ?_
  intro nx k hk J hnx
  rw [lt_nat]
  by_cases h : k < t.Secs.length
  · rw [decide_eq_true h, fk_t, ix_lt h]
    by_cases e : t.Secs[k].Res = res
    · rw [decide_eq_true e, fk_t]; exact dec_t ⟨hr, _, List.getElem_mem h, e⟩
    · rw [decide_eq_false e, fk_f, wr_succ k _ h (by omega)]
      refine hnx h fun j hj hjk => ?_
      by_cases e2 : j = k
      · subst e2; exact e
      · exact J j hj (by omega)
  · rw [decide_eq_false h, fk_f]
    refine dec_f ?_
    rintro ⟨_, s, hs, e⟩
    obtain ⟨j, hj, rfl⟩ := List.getElem_of_mem hs
    exact J j hj (by omega) e


theorem ref05_Right_eq (t : Task) (hlt : t.Secs.length ≤ 4611686018427387904) : ref05_Right t = some (right t) := by
  unfold ref05_Right
  simp only [jn_eq, fk_t, fk_f]
  by_cases ho : ownP t
  rotate_left
  · have hr : right t = false := right_f.2 fun h => ho h.1
    by_cases c0 : t.C < 1
    · rw [decide_eq_true c0, fk_t, hr]
    rw [decide_eq_false c0, fk_f]
    by_cases c1 : t.D < t.C
    · rw [decide_eq_true c1, fk_t, hr]
    rw [decide_eq_false c1, fk_f]
    by_cases c2 : t.T < t.D
    · rw [decide_eq_true c2, fk_t, hr]
    rw [decide_eq_false c2, fk_f]
    by_cases c3 : t.T > 200
    · rw [decide_eq_true c3, fk_t, hr]
    rw [decide_eq_false c3, fk_f]
    by_cases c4 : (t.Secs.length : Int) > 4
    · rw [decide_eq_true c4, fk_t, hr]
    rw [decide_eq_false c4, fk_f]
    exact absurd (by unfold ownP; omega) ho
  have ho' := ho
  unfold ownP at ho'
  rw [decide_eq_false (by omega), fk_f, decide_eq_false (by omega), fk_f, decide_eq_false (by omega), fk_f, decide_eq_false (by omega), fk_f, decide_eq_false (by omega), fk_f]
  refine lp_up t.Secs.length (by unfold FU; omega) (fun k => (∀ j (h : j < t.Secs.length), j < k → secP t.C t.Secs[j]) ∧ (∀ i j (hi : i < t.Secs.length) (hj : j < t.Secs.length), i < j → j < k → fitsP t.Secs[i] t.Secs[j])) ⟨fun j _ h => by omega, fun i j _ _ _ h => by omega⟩ ?_
  rintro nx k hk ⟨J1, J2⟩ hnx
  rw [lt_nat]
  by_cases h : k < t.Secs.length
  rotate_left
  · rw [decide_eq_false h, fk_f]
    have : right t = true := right_t.2 ⟨ho, fun s hs => by
      obtain ⟨j, hj, rfl⟩ := List.getElem_of_mem hs
      exact J1 j hj (by omega), List.pairwise_iff_getElem.2 fun i j hi hj hij => J2 i j hi hj hij (by omega)⟩
    rw [this]
  rw [decide_eq_true h, fk_t, ix_lt h]
  have hn := hnx h
  clear hnx
  generalize hs : t.Secs[k] = s at *
  by_cases hsec : secP t.C s
  rotate_left
  · have hr : right t = false := right_f.2 fun hr => hsec (hs ▸ hr.2.1 _ (List.getElem_mem h))
    by_cases c0 : s.Res < 0
    · rw [decide_eq_true c0, fk_t, hr]
    rw [decide_eq_false c0, fk_f]
    by_cases c1 : s.Res > 3
    · rw [decide_eq_true c1, fk_t, hr]
    rw [decide_eq_false c1, fk_f]
    by_cases c2 : s.At < 0
    · rw [decide_eq_true c2, fk_t, hr]
    rw [decide_eq_false c2, fk_f]
    by_cases c3 : s.Len < 1
    · rw [decide_eq_true c3, fk_t, hr]
    rw [decide_eq_false c3, fk_f]
    by_cases c4 : s.At > t.C
    · rw [decide_eq_true c4, fk_t, hr]
    rw [decide_eq_false c4, fk_f]
    by_cases c5 : s.Len > t.C
    · rw [decide_eq_true c5, fk_t, hr]
    rw [decide_eq_false c5, fk_f]
    have hw : wr (s.At + s.Len) = s.At + s.Len := wr_in _ (by omega)
    rw [hw]
    by_cases c6 : s.At + s.Len > t.C
    · rw [decide_eq_true c6, fk_t, hr]
    exact absurd (by unfold secP; omega) hsec
  have hsec' := hsec
  unfold secP at hsec'
  have hw : wr (s.At + s.Len) = s.At + s.Len := wr_in _ (by omega)
  rw [hw]
  rw [decide_eq_false (by omega), fk_f, decide_eq_false (by omega), fk_f, decide_eq_false (by omega), fk_f, decide_eq_false (by omega), fk_f, decide_eq_false (by omega), fk_f, decide_eq_false (by omega), fk_f, decide_eq_false (by omega), fk_f]
  refine lp_up k (by unfold FU; omega) (fun j => ∀ i (hi : i < t.Secs.length), i < j → fitsP t.Secs[i] s) (fun i _ h => by omega) ?_
  intro nx2 j hj J3 hnx2
  rw [lt_nat]
  by_cases h2 : j < k
  rotate_left
  · have hjk : j = k := by omega
    subst hjk
    rw [decide_eq_false h2, fk_f, wr_succ j _ h (by omega)]
    refine hn ⟨fun i hi hij => ?_, fun a b ha hb hab hbj => ?_⟩
    · by_cases e : i = j
      · subst e; rw [hs]; exact hsec
      · exact J1 i hi (by omega)
    · by_cases e : b = j
      · subst e; rw [hs]; exact J3 a ha hab
      · exact J2 a b ha hb hab (by omega)
  have hjl : j < t.Secs.length := by omega
  rw [decide_eq_true h2, fk_t, ix_lt hjl]
  have ha := J1 j hjl h2
  have good : fitsP t.Secs[j] s → nx2 (wr ((j : Int) + 1)) = some (right t) := fun hf => by
    rw [wr_succ j k h2 (by omega)]
    refine hnx2 h2 fun i hi hij => ?_
    by_cases e : i = j
    · subst e; exact hf
    · exact J3 i hi (by omega)
  have bad : ¬ fitsP t.Secs[j] s → some false = some (right t) := fun hf => by
    rw [right_f.2 fun hr => hf (hs ▸ List.pairwise_iff_getElem.1 hr.2.2 j k hjl h h2)]
  generalize t.Secs[j] = a at *
  unfold secP at ha
  have hwa : wr (a.At + a.Len) = a.At + a.Len := wr_in _ (by omega)
  rw [hwa]
  have ticks : a.At ≤ s.At → lp (fun nx8 (v8 : Int × Int × Int) => fk (decide (v8.2.2 < s.At + s.Len)) (fk (decide (v8.2.2 < a.At + a.Len)) (nx8 (wr (v8.1 + 1), v8.2.1, wr (v8.2.2 + 1))) (nx8 (v8.1, wr (v8.2.1 + 1), wr (v8.2.2 + 1))))
      (fk (decide (v8.1 > 0)) (fk (decide (v8.2.1 > 0)) (some false) (fk (decide (a.Res = s.Res)) (some false) (nx2 (wr ((j : Int) + 1))))) (nx2 (wr ((j : Int) + 1))))) FU (0, 0, s.At) = some (right t) := by
    intro hle
    refine lp_inv (fun v => (s.At + s.Len - v.2.2).toNat) (fun v => s.At ≤ v.2.2 ∧ v.2.2 ≤ s.At + s.Len ∧ v.1 = max 0 (min v.2.2 (a.At + a.Len) - s.At) ∧ v.2.1 = v.2.2 - s.At - v.1) ?_ FU _ ⟨by simp, by simp; omega, by simp; omega, by simp⟩ (by simp only [FU]; omega)
    rintro nx8 ⟨m, o, q⟩ ⟨i1, i2, i3, i4⟩ hn8
    simp only at i1 i2 i3 i4
    by_cases c1 : q < s.At + s.Len
    · rw [decide_eq_true c1, fk_t]
      by_cases c2 : q < a.At + a.Len
      · rw [decide_eq_true c2, fk_t, wr_in (m + 1) (by omega), wr_in (q + 1) (by omega)]
        exact hn8 _ ⟨by simp only; omega, by simp only; omega, by simp only; omega, by simp only; omega⟩ (by simp only; omega)
      · rw [decide_eq_false c2, fk_f, wr_in (o + 1) (by omega), wr_in (q + 1) (by omega)]
        exact hn8 _ ⟨by simp only; omega, by simp only; omega, by simp only; omega, by simp only; omega⟩ (by simp only; omega)
    · rw [decide_eq_false c1, fk_f]
      by_cases c3 : m > 0
      · rw [decide_eq_true c3, fk_t]
        by_cases c4 : o > 0
        · rw [decide_eq_true c4, fk_t]; exact bad (by unfold fitsP; omega)
        · rw [decide_eq_false c4, fk_f]
          by_cases c5 : a.Res = s.Res
          · rw [decide_eq_true c5, fk_t]; exact bad (by unfold fitsP; omega)
          · rw [decide_eq_false c5, fk_f]; exact good (by unfold fitsP; omega)
      · rw [decide_eq_false c3, fk_f]; exact good (by unfold fitsP; omega)
  by_cases d1 : s.At < a.At
  · rw [decide_eq_true d1, fk_t]; exact bad (by unfold fitsP; omega)
  · rw [decide_eq_false d1, fk_f]
    by_cases d2 : s.At = a.At
    · rw [decide_eq_true d2, fk_t]
      by_cases d3 : s.Len > a.Len
      · rw [decide_eq_true d3, fk_t]; exact bad (by unfold fitsP; omega)
      · rw [decide_eq_false d3, fk_f]; exact ticks (by omega)
    · rw [decide_eq_false d2, fk_f]; exact ticks (by omega)


theorem ref05_All_eq (l : List Task) (hl : l.length ≤ 4611686018427387904) (hs : ∀ t ∈ l, t.Secs.length ≤ 4611686018427387904) : ref05_All l = some (decide (AllP l)) := by
  unfold ref05_All
  refine lp_upS l.length (by unfold FU; omega) (fun k n => ∃ m : Nat, n = (m : Int) ∧ m ≤ k ∧ ((m = k) ↔ ∀ j (h : j < l.length), j < k → RightP l[j])) 0 ⟨0, rfl, Nat.le_refl _, by simp⟩ ?_
  rintro nx k n hk ⟨m, rfl, hm, J⟩ hnx
  rw [lt_nat]
  by_cases h : k < l.length
  · rw [decide_eq_true h, fk_t, jn_eq, ix_lt h, bnd_eq (ref05_Right_eq _ (hs _ (List.getElem_mem h)))]
    rw [wr_succ k _ h hl, wr_in ((m : Int) + 1) (by omega)]
    by_cases hr : RightP l[k]
    · rw [right_t.2 hr, fk_t]
      refine hnx _ h ⟨m + 1, rfl, by omega, ?_⟩
      constructor
      · intro e j hj hjk
        by_cases e2 : j = k
        · subst e2; exact hr
        · exact J.1 (by omega) j hj (by omega)
      · intro ha
        have := J.2 fun j hj hjk => ha j hj (by omega)
        omega
    · rw [right_f.2 hr, fk_f]
      refine hnx _ h ⟨m, rfl, by omega, ?_⟩
      constructor
      · intro e; omega
      · intro ha; exact absurd (ha k h (by omega)) hr
  · have hkl : k = l.length := by omega
    subst hkl
    rw [decide_eq_false h, fk_f]
    have key : (m = l.length) ↔ ∀ t ∈ l, RightP t := by
      rw [J]
      constructor
      · intro ha t ht
        obtain ⟨j, hj, rfl⟩ := List.getElem_of_mem ht
        exact ha j hj hj
      · intro ha j hj _; exact ha _ (List.getElem_mem hj)
    by_cases e : m = l.length
    · rw [decide_eq_true (by omega), fk_t]
      exact dec_iff ⟨fun h8 => ⟨key.1 e, by omega⟩, fun ha => by have := ha.2; omega⟩
    · rw [decide_eq_false (by omega), fk_f]
      exact dec_f fun ha => e (key.2 ha.1)

def GreatP (l : List Task) : Prop := (∃ t ∈ l, 20 < t.Secs.length) ∨ 20 < l.length
instance (l : List Task) : Decidable (GreatP l) := by unfold GreatP; infer_instance
theorem law05_Great_eq (l : List Task) (hl : l.length ≤ 4611686018427387904) : law05_Great l = some (decide (GreatP l)) := by
  unfold law05_Great
  refine lp_up l.length (by unfold FU; omega) (fun k => ∀ j (h : j < l.length), j < k → l[j].Secs.length ≤ 20) (fun j _ h => by omega) ?_
  intro nx k hk J hnx
  rw [lt_nat]
  by_cases h : k < l.length
  · rw [decide_eq_true h, fk_t, ix_lt h]
    by_cases e : (l[k].Secs.length : Int) > 20
    · rw [decide_eq_true e, fk_t]; exact dec_t (.inl ⟨_, List.getElem_mem h, by omega⟩)
    · rw [decide_eq_false e, fk_f, wr_succ k _ h hl]
      refine hnx h fun j hj hjk => ?_
      by_cases e2 : j = k
      · subst e2; omega
      · exact J j hj (by omega)
  · rw [decide_eq_false h, fk_f]
    refine dec_iff ⟨fun h20 => .inr (by omega), ?_⟩
    rintro (⟨t, ht, h20⟩ | h20)
    · obtain ⟨j, hj, rfl⟩ := List.getElem_of_mem ht
      have := J j hj (by omega)
      omega
    · omega

theorem wf_len {l : List Task} {n : Nat} (h : l.length * 48 ≤ n) (hn : n ≤ BB) : l.length ≤ 4611686018427387904 := by unfold BB at hn; omega
theorem Task.wf.len {t : Task} (h : t.wf) : t.Secs.length ≤ 4611686018427387904 := by have := h.2.2.2.1; unfold BB at this; omega
/-! ### Levels -/
def maxL {α : Type} (f : α → Nat) : List α → Nat
  | [] => 0
  | x :: r => max (f x) (maxL f r)
theorem maxL_append {α : Type} (f : α → Nat) (a b : List α) : maxL f (a ++ b) = max (maxL f a) (maxL f b) := by
  induction a with
  | nil => simp [maxL]
  | cons x r ih => simp only [List.cons_append, maxL, ih]; omega
theorem maxL_le {α : Type} {f : α → Nat} {l : List α} {n : Nat} : maxL f l ≤ n ↔ ∀ x ∈ l, f x ≤ n := by
  induction l with
  | nil => simp [maxL]
  | cons x r ih => simp only [maxL, List.mem_cons, forall_eq_or_imp, ← ih]; omega
theorem maxL_succ {α : Type} (f : α → Nat) (l : List α) (k : Nat) (h : k < l.length) : maxL f (l.take (k + 1)) = max (maxL f (l.take k)) (f l[k]) := by
  rw [← List.take_append_getElem h, maxL_append]; simp [maxL]
theorem maxL_zero {α : Type} {f : α → Nat} {l : List α} (h : ∀ x ∈ l, f x = 0) : maxL f l = 0 := Nat.le_zero.1 (maxL_le.2 fun x hx => by rw [h x hx]; exact Nat.le_refl _)
theorem countP_succ {α : Type} (p : α → Bool) (l : List α) (k : Nat) (h : k < l.length) : (l.take (k + 1)).countP p = (l.take k).countP p + (if p l[k] = true then 1 else 0) := by
  rw [← List.take_append_getElem h, List.countP_append, List.countP_singleton]
/-! The document's. -/
theorem AllP.len {l : List Task} (h : AllP l) : l.length ≤ 4611686018427387904 := by have := h.2; omega
def sumI {α : Type} (f : α → Int) : List α → Int
  | [] => 0
  | x :: r => f x + sumI f r
theorem sumI_append {α : Type} (f : α → Int) (a b : List α) : sumI f (a ++ b) = sumI f a + sumI f b := by
  induction a with
  | nil => simp [sumI]
  | cons x r ih => simp only [List.cons_append, sumI, ih]; omega
theorem sumI_succ {α : Type} (f : α → Int) (l : List α) (k : Nat) (h : k < l.length) : sumI f (l.take (k + 1)) = sumI f (l.take k) + f l[k] := by
  rw [← List.take_append_getElem h, sumI_append]; simp [sumI]
theorem sumI_nonneg {α : Type} {f : α → Int} : ∀ {l : List α}, (∀ x ∈ l, 0 ≤ f x) → 0 ≤ sumI f l
  | [], _ => Int.le_refl _
  | x :: r, h => by
    have h1 := h x List.mem_cons_self
    have h2 := sumI_nonneg (f := f) (l := r) fun y hy => h y (List.mem_cons_of_mem _ hy)
    simp only [sumI]; omega
theorem sumI_bound {α : Type} {f : α → Int} {n : Int} : ∀ {l : List α}, (∀ x ∈ l, f x ≤ n) → sumI f l ≤ n * (l.length : Int)
  | [], _ => by simp [sumI]
  | x :: r, h => by
    have h1 := h x List.mem_cons_self
    have h2 := sumI_bound (f := f) (l := r) fun y hy => h y (List.mem_cons_of_mem _ hy)
    have e : n * ((x :: r).length : Int) = n + n * (r.length : Int) := by
      rw [List.length_cons, Int.natCast_add, Int.mul_add, Int.add_comm]; simp
    simp only [sumI]; omega

def inM (x : Int) : Prop := -4611686018427387903 ≤ x ∧ x ≤ 4611686018427387903
instance (x : Int) : Decidable (inM x) := by unfold inM; infer_instance
theorem arith_may_eq (l : List Int) (hl : l.length ≤ 1000) : arith_may l = some (decide (∀ x ∈ l, inM x)) := by
  unfold arith_may
  refine lp_up l.length (by unfold FU; omega) (fun k => ∀ j (h : j < l.length), j < k → inM l[j]) (fun j _ h => by omega) ?_
  intro nx k hk J hnx
  simp only [jn_eq]
  rw [lt_nat]
  by_cases h : k < l.length
  · rw [decide_eq_true h, fk_t, ix_lt h, wr_succ k _ h (by omega), fk_t]
    have bad : ¬ inM l[k] → some false = some (decide (∀ x ∈ l, inM x)) := fun hb => dec_f fun ha => hb (ha _ (List.getElem_mem h))
    by_cases c1 : l[k] > 4611686018427387903
    · rw [decide_eq_true c1, fk_t]; exact bad fun hh => by unfold inM at hh; omega
    rw [decide_eq_false c1, fk_f]
    by_cases c2 : l[k] < -4611686018427387903
    · rw [decide_eq_true c2, fk_t]; exact bad fun hh => by unfold inM at hh; omega
    rw [decide_eq_false c2, fk_f]
    refine hnx h fun j hj hjk => ?_
    by_cases e : j = k
    · subst e; unfold inM; omega
    · exact J j hj (by omega)
  · rw [decide_eq_false h, fk_f]
    refine dec_t fun x hx => ?_
    obtain ⟨j, hj, rfl⟩ := List.getElem_of_mem hx
    exact J j hj (by omega)
theorem arith_may2 (a b : Int) : arith_may [a, b] = some (decide (inM a ∧ inM b)) := by
  rw [arith_may_eq _ (by simp)]; refine dec_iff ?_; simp
theorem arith_may1 (a : Int) : arith_may [a] = some (decide (inM a)) := by
  rw [arith_may_eq _ (by simp)]; refine dec_iff ?_; simp
theorem arith_Floor_eq (a b : Int) (ha : 0 ≤ a) (ha2 : a ≤ 4611686018427387903) (hb : 1 ≤ b) (hb2 : b ≤ 200) : arith_Floor a b = some (a / b, 0) := by
  unfold arith_Floor
  simp only [jn_eq, fk_t]
  have hq0 : 0 ≤ a / b := Int.ediv_nonneg ha (by omega)
  have hq1 : a / b ≤ a := Int.ediv_le_self _ ha
  rw [bnd_eq (arith_may2 a b), decide_eq_true ⟨by unfold inM; omega, by unfold inM; omega⟩, Bool.not_true, fk_f, decide_eq_false (by omega : ¬ b < 1), fk_f, ck_t (by simp; omega), ck_t (by simp; omega)]
  rw [Int.tmod_eq_emod_of_nonneg ha, Int.tdiv_eq_ediv_of_nonneg ha]
  have := Int.emod_nonneg a (b := b) (by omega)
  rw [decide_eq_false (by omega), fk_f, wr_in _ (by omega)]
def jobsN (t : Task) (k : Int) : Int := if k < t.D then 0 else (k - t.D) / t.T + 1
theorem jobsN_b {t : Task} (h : RightP t) {k : Int} (h0 : 0 ≤ k) : 0 ≤ jobsN t k ∧ jobsN t k ≤ k := by
  have hc := h.c
  unfold jobsN
  by_cases c : k < t.D
  · rw [if_pos c]; omega
  · rw [if_neg c]
    have h1 := Int.ediv_nonneg (a := k - t.D) (b := t.T) (by omega) (by omega)
    have h2 := Int.ediv_le_self (a := k - t.D) t.T (by omega)
    omega
theorem demand_jobs_eq (t : Task) (k : Int) (h : RightP t) (h0 : 0 ≤ k) (h1 : k ≤ 4611686018427387903) : demand_jobs t k = some (jobsN t k) := by
  have hc := h.c
  have hj := jobsN_b h h0
  unfold demand_jobs
  unfold jobsN at *
  by_cases c : k < t.D
  · rw [decide_eq_true c, fk_t, if_pos c]
  · rw [if_neg c] at *
    rw [decide_eq_false c, fk_f, wr_in (k - t.D) (by omega), bnd_eq (arith_Floor_eq _ _ (by omega) (by omega) (by omega) (by omega)), wr_in _ (by simp only; omega)]
theorem arith_Mul_eq (a b : Int) (ha : 1 ≤ a) (ha2 : a ≤ 200) (hb : 0 ≤ b) (hb2 : b ≤ 4611686018427387903) : arith_Mul a b = some (if a * b ≤ 4611686018427387903 then a * b else 0, if a * b ≤ 4611686018427387903 then 0 else 5) := by
  unfold arith_Mul
  simp only [jn_eq, fk_t]
  rw [bnd_eq (arith_may2 a b), decide_eq_true ⟨by unfold inM; omega, by unfold inM; omega⟩, Bool.not_true, fk_f, decide_eq_false (by omega : ¬ a = 0), fk_f]
  by_cases c : b = 0
  · subst c; rw [decide_eq_true rfl, fk_t]; simp
  rw [decide_eq_false c, fk_f]
  have e1 : IntKind.i64.wrap (0 - b) = 0 - b := wr_in _ (by omega)
  have e2 : IntKind.i64.wrap (0 - a) = 0 - a := wr_in _ (by omega)
  rw [e1, e2, if_neg (by omega : ¬ (0 - b > b)), if_neg (by omega : ¬ (0 - a > a)), ck_t (by simp; omega), Int.tdiv_eq_ediv_of_nonneg (by decide)]
  have hq : (4611686018427387903 : Int) / b ≤ 4611686018427387903 := Int.ediv_le_self _ (by decide)
  have hq0 : 0 ≤ (4611686018427387903 : Int) / b := Int.ediv_nonneg (by decide) hb
  rw [wr_in _ (by omega)]
  have key : a > (4611686018427387903 : Int) / b ↔ ¬ a * b ≤ 4611686018427387903 := by
    rw [← Int.le_ediv_iff_mul_le (by omega)]; omega
  by_cases d : a * b ≤ 4611686018427387903
  · have : 0 ≤ a * b := Int.mul_nonneg (by omega) hb
    rw [decide_eq_false (fun h => key.1 h d), fk_f, if_pos d, if_pos d, wr_in _ (by omega)]
  · rw [decide_eq_true (key.2 d), fk_t, if_neg d, if_neg d]
theorem arith_Add_eq (a b : Int) (ha : 0 ≤ a) (ha2 : a ≤ 4611686018427387903) (hb : 0 ≤ b) (hb2 : b ≤ 4611686018427387903) : arith_Add a b = some (if a + b ≤ 4611686018427387903 then a + b else 0, if a + b ≤ 4611686018427387903 then 0 else 5) := by
  unfold arith_Add
  rw [bnd_eq (arith_may2 a b), decide_eq_true ⟨by unfold inM; omega, by unfold inM; omega⟩, Bool.not_true, fk_f, wr_in _ (by omega), bnd_eq (arith_may1 _)]
  by_cases d : a + b ≤ 4611686018427387903
  · rw [decide_eq_true (by unfold inM; omega), Bool.not_true, fk_f, if_pos d, if_pos d]
  · rw [decide_eq_false (by unfold inM; omega), Bool.not_false, fk_t, if_neg d, if_neg d]
def costN (k : Int) (t : Task) : Int := t.C * jobsN t k
def sumB (l : List Task) (k : Int) : Int := sumI (costN k) l
theorem costN_nonneg {t : Task} (h : RightP t) {k : Int} (h0 : 0 ≤ k) : 0 ≤ costN k t := Int.mul_nonneg (by have := h.c; omega) (jobsN_b h h0).1
theorem costN_le {t : Task} (h : RightP t) {k : Int} (h0 : 0 ≤ k) : costN k t ≤ 200 * k := by
  have hc := h.c
  have hj := jobsN_b h h0
  exact Int.mul_le_mul (by omega) hj.2 hj.1 (by omega)
def askP (l : List Task) (k : Int) : Prop := AllP l ∧ 0 ≤ k ∧ k ≤ 4611686018427387903
instance (l : List Task) (k : Int) : Decidable (askP l k) := by unfold askP; infer_instance
theorem demand_Bound_eq (l : List Task) (k : Int) (hl : l.length ≤ 4611686018427387904) : demand_Bound l k = some (if askP l k ∧ sumB l k ≤ 4611686018427387903 then sumB l k else 0, if askP l k then (if sumB l k ≤ 4611686018427387903 then 0 else 5) else 1) := by
  unfold demand_Bound
  simp only [jn_eq, fk_t]
  rw [bnd_eq (task_All_eq l hl)]
  have no : ¬ askP l k → some ((0 : Int), (1 : Int)) = some (if askP l k ∧ sumB l k ≤ 4611686018427387903 then sumB l k else 0, if askP l k then (if sumB l k ≤ 4611686018427387903 then (0 : Int) else 5) else 1) := fun h => by
    rw [if_neg (fun h2 => h h2.1), if_neg h]
  by_cases ha : AllP l
  rotate_left
  · rw [decide_eq_false ha, Bool.not_false, fk_t]; exact no fun h => ha h.1
  rw [decide_eq_true ha, Bool.not_true, fk_f]
  by_cases c1 : k < 0
  · rw [decide_eq_true c1, fk_t]; exact no fun h => by have := h.2.1; omega
  rw [decide_eq_false c1, fk_f]
  by_cases c2 : k > 4611686018427387903
  · rw [decide_eq_true c2, fk_t]; exact no fun h => by have := h.2.2; omega
  rw [decide_eq_false c2, fk_f]
  have hask : askP l k := ⟨ha, by omega, by omega⟩
  rw [if_pos hask]
  refine lp_inv (fun v => l.length - v.2.2.toNat) (fun v => ∃ i : Nat, v.2.2 = (i : Int) ∧ i ≤ l.length ∧ 0 ≤ v.1 ∧ v.1 ≤ 4611686018427387903 ∧ 0 ≤ sumI (costN k) (l.take i) ∧ ((v.2.1 = 0 ∧ v.1 = sumI (costN k) (l.take i)) ∨ (v.2.1 = 5 ∧ sumI (costN k) (l.take i) > 4611686018427387903))) ?_ FU _ ⟨0, rfl, Nat.zero_le _, by decide, by decide, by simp [sumI], .inl ⟨rfl, by simp [sumI]⟩⟩ (by show l.length - 0 < FU; unfold FU; omega)
  rintro nx ⟨w, s, iv⟩ ⟨i, hi, hil, hw0, hw1, hS0, J⟩ hnx
  simp only at hi hw0 hw1 J
  subst hi
  simp only
  rw [lt_nat]
  by_cases h : i < l.length
  · have hr := ha.1 _ (List.getElem_mem h)
    have hcc := hr.c
    have hj := jobsN_b hr (k := k) (by omega)
    have hcn := costN_nonneg hr (k := k) (by omega)
    have hS := sumI_succ (costN k) l i h
    have hce : costN k l[i] = l[i].C * jobsN l[i] k := rfl
    rw [decide_eq_true h, fk_t, ix_lt h, bnd_eq (demand_jobs_eq _ _ hr (by omega) (by omega)), bnd_eq (arith_Mul_eq _ _ hcc.1 (by omega) hj.1 (by omega)), wr_succ i _ h hl]
    rw [← hce]
    by_cases c3 : costN k l[i] ≤ 4611686018427387903
    · rw [if_pos c3, if_pos c3, bnd_eq (arith_Add_eq w (costN k l[i]) hw0 hw1 hcn c3), decide_eq_true rfl, Bool.not_true, fk_f]
      by_cases c4 : w + costN k l[i] ≤ 4611686018427387903
      · rw [if_pos c4, if_pos c4, decide_eq_true rfl, Bool.not_true, fk_f]
        refine hnx _ ⟨i + 1, rfl, h, by simp only; omega, by simp only; omega, by omega, ?_⟩ (by simp only [Int.toNat_natCast]; omega)
        rcases J with ⟨j1, j2⟩ | ⟨j1, j2⟩
        · exact .inl ⟨j1, by simp only; omega⟩
        · exact .inr ⟨j1, by omega⟩
      · rw [if_neg c4, if_neg c4, show decide ((5 : Int) = 0) = false from rfl, Bool.not_false, fk_t]
        refine hnx _ ⟨i + 1, rfl, h, hw0, hw1, by omega, .inr ⟨rfl, ?_⟩⟩ (by simp only [Int.toNat_natCast]; omega)
        rcases J with ⟨j1, j2⟩ | ⟨j1, j2⟩ <;> omega
    · rw [if_neg c3, if_neg c3, bnd_eq (arith_Add_eq w 0 hw0 hw1 (by decide) (by decide)), show decide ((5 : Int) = 0) = false from rfl, Bool.not_false, fk_t]
      refine hnx _ ⟨i + 1, rfl, h, hw0, hw1, by omega, .inr ⟨rfl, ?_⟩⟩ (by simp only [Int.toNat_natCast]; omega)
      rcases J with ⟨j1, j2⟩ | ⟨j1, j2⟩ <;> omega
  · rw [decide_eq_false h, fk_f]
    have : i = l.length := by omega
    subst this
    rw [List.take_length] at J hS0
    have hsB : sumB l k = sumI (costN k) l := rfl
    rcases J with ⟨j1, j2⟩ | ⟨j1, j2⟩
    · rw [j1, decide_eq_true rfl, Bool.not_true, fk_f, if_pos ⟨hask, by omega⟩, if_pos (by omega), j2]; rfl
    · rw [j1, show decide ((5 : Int) = 0) = false from rfl, Bool.not_false, fk_t, if_neg (by omega), if_neg (by omega)]
theorem sumB_le {l : List Task} (ha : AllP l) {k : Int} (h0 : 0 ≤ k) : sumB l k ≤ 1600 * k := by
  have h := sumI_bound (f := costN k) (l := l) fun x hx => costN_le (ha.1 x hx) h0
  have h2 : 200 * k * (l.length : Int) ≤ 200 * k * 8 := Int.mul_le_mul_of_nonneg_left (by have := ha.2; omega) (by omega)
  unfold sumB
  omega
theorem sumB_nonneg {l : List Task} (ha : AllP l) {k : Int} (h0 : 0 ≤ k) : 0 ≤ sumB l k := sumI_nonneg fun x hx => costN_nonneg (ha.1 x hx) h0
theorem demand_Bound_small (l : List Task) (k : Int) (ha : AllP l) (h0 : 0 ≤ k) (h1 : k ≤ 2199023255552) : demand_Bound l k = some (sumB l k, 0) := by
  have hb := sumB_le ha h0
  have hk : askP l k := ⟨ha, h0, by omega⟩
  rw [demand_Bound_eq l k (by have := ha.2; omega), if_pos ⟨hk, by omega⟩, if_pos hk, if_pos (by omega)]
theorem jobsN_step {t : Task} (h : RightP t) {k : Int} (h0 : t.D ≤ k) : jobsN t (k + t.T) = jobsN t k + 1 := by
  have hc := h.c
  unfold jobsN
  rw [if_neg (by omega), if_neg (by omega), show k + t.T - t.D = (k - t.D) + t.T from by omega, Int.add_ediv_of_dvd_right (Int.dvd_refl _), Int.ediv_self (by omega)]
/-! ### Patterns -/
def rowP (T : Int) (r : List Int) : Prop := r.length ≤ 1000 ∧ ∀ j (h : j < r.length), 0 ≤ r[j] ∧ r[j] ≤ 4611686018427387903 ∧ (0 < j → r[j - 1] + T ≤ r[j])
def patP (l : List Task) (a : List (List Int)) : Prop := AllP l ∧ a.length = l.length ∧ ∀ i (h : i < a.length) (h2 : i < l.length), rowP l[i].T a[i]
noncomputable instance (l : List Task) (a : List (List Int)) : Decidable (patP l a) := Classical.propDecidable _
theorem demand_Legal_eq (l : List Task) (a : List (List Int)) (hl : l.length ≤ 4611686018427387904) (hla : a.length ≤ 4611686018427387904) : demand_Legal l a = some (decide (patP l a)) := by
  unfold demand_Legal
  simp only [jn_eq, fk_t, fk_f]
  rw [bnd_eq (task_All_eq l hl)]
  by_cases ha : AllP l
  rotate_left
  · rw [decide_eq_false ha, Bool.not_false, fk_t]; exact dec_f fun h => ha h.1
  rw [decide_eq_true ha, Bool.not_true, fk_f]
  by_cases hn : (a.length : Int) = (l.length : Int)
  rotate_left
  · rw [decide_eq_false hn, Bool.not_false, fk_t]; exact dec_f fun h => hn (by have := h.2.1; omega)
  rw [decide_eq_true hn, Bool.not_true, fk_f]
  have hn2 : a.length = l.length := by omega
  refine lp_up a.length (by unfold FU; omega) (fun k => ∀ i (h : i < a.length) (h2 : i < l.length), i < k → rowP l[i].T a[i]) (fun i _ _ h => by omega) ?_
  intro nx k hk J hnx
  rw [lt_nat]
  by_cases h : k < a.length
  rotate_left
  · rw [decide_eq_false h, fk_f]
    exact dec_t ⟨ha, hn2, fun i h1 h2 => J i h1 h2 (by omega)⟩
  have h' : k < l.length := by omega
  rw [decide_eq_true h, fk_t, ix_lt h]
  have bad : ¬ rowP l[k].T a[k] → some false = some (decide (patP l a)) := fun hb => dec_f fun hp => hb (hp.2.2 k h h')
  by_cases c1 : (a[k].length : Int) > 1000
  · rw [decide_eq_true c1, fk_t]; exact bad fun hp => by have := hp.1; omega
  rw [decide_eq_false c1, fk_f]
  have hcT := (ha.1 _ (List.getElem_mem h')).c
  refine lp_up a[k].length (by unfold FU; omega) (fun q => ∀ j (hj : j < a[k].length), j < q → 0 ≤ a[k][j] ∧ a[k][j] ≤ 4611686018427387903 ∧ (0 < j → a[k][j - 1] + l[k].T ≤ a[k][j])) (fun j _ h => by omega) ?_
  intro nx2 q hq K hnx2
  rw [lt_nat]
  by_cases h2 : q < a[k].length
  rotate_left
  · rw [decide_eq_false h2, fk_f, wr_succ k _ h hla]
    refine hnx h fun i hi hi2 hik => ?_
    by_cases e : i = k
    · subst e; exact ⟨by omega, fun j hj => K j hj (by omega)⟩
    · exact J i hi hi2 (by omega)
  rw [decide_eq_true h2, fk_t, ix_lt h2, wr_succ q _ h2 (by omega)]
  by_cases c2 : a[k][q] < 0
  · rw [decide_eq_true c2, fk_t]; exact bad fun hp => by have := hp.2 q h2; omega
  rw [decide_eq_false c2, fk_f]
  by_cases c3 : a[k][q] > 4611686018427387903
  · rw [decide_eq_true c3, fk_t]; exact bad fun hp => by have := hp.2 q h2; omega
  rw [decide_eq_false c3, fk_f]
  have go : (0 < q → a[k][q - 1] + l[k].T ≤ a[k][q]) → nx2 ((q + 1 : Nat) : Int) = some (decide (patP l a)) := fun hgo => hnx2 h2 fun j hj hjq => by
    by_cases e : j = q
    · subst e; exact ⟨by omega, by omega, hgo⟩
    · exact K j hj (by omega)
  by_cases c4 : (q : Int) > 0
  rotate_left
  · rw [decide_eq_false c4, fk_f]; exact go fun h => by omega
  rw [decide_eq_true c4, fk_t, wr_in _ (by omega), ix_int (by omega) (by omega), ix_lt h']
  have e1 : ((q : Int) - 1).toNat = q - 1 := by omega
  simp only [e1]
  have hp := K (q - 1) (by omega) (by omega)
  rw [wr_in _ (by omega)]
  by_cases c5 : a[k][q] - a[k][q - 1] < l[k].T
  · rw [decide_eq_true c5, fk_t]; exact bad fun hp => by have := (hp.2 q h2).2.2 (by omega); omega
  · rw [decide_eq_false c5, fk_f]; exact go fun _ => by omega
theorem ref07_Legal_eq (l : List Task) (a : List (List Int)) (hl : l.length ≤ 4611686018427387904) (hs : ∀ t ∈ l, t.Secs.length ≤ 4611686018427387904) (hla : a.length ≤ 4611686018427387904) : ref07_Legal l a = some (decide (patP l a)) := by
  unfold ref07_Legal
  simp only [jn_eq, fk_t, fk_f]
  rw [bnd_eq (ref05_All_eq l hl hs)]
  by_cases ha : AllP l
  rotate_left
  · rw [decide_eq_false ha, Bool.not_false, fk_t]; exact dec_f fun h => ha h.1
  rw [decide_eq_true ha, Bool.not_true, fk_f]
  by_cases hn : (a.length : Int) = (l.length : Int)
  rotate_left
  · rw [decide_eq_false hn, Bool.not_false, fk_t]; exact dec_f fun h => hn (by have := h.2.1; omega)
  rw [decide_eq_true hn, Bool.not_true, fk_f]
  have hn2 : a.length = l.length := by omega
  refine lp_up a.length (by unfold FU; omega) (fun k => ∀ i (h : i < a.length) (h2 : i < l.length), i < k → rowP l[i].T a[i]) (fun i _ _ h => by omega) ?_
  intro nx k hk J hnx
  rw [lt_nat]
  by_cases h : k < a.length
  rotate_left
  · rw [decide_eq_false h, fk_f]
    exact dec_t ⟨ha, hn2, fun i h1 h2 => J i h1 h2 (by omega)⟩
  have h' : k < l.length := by omega
  rw [decide_eq_true h, fk_t]
  simp only [ix_lt h, ix_lt h']
  have bad : ¬ rowP l[k].T a[k] → some false = some (decide (patP l a)) := fun hb => dec_f fun hp => hb (hp.2.2 k h h')
  by_cases c1 : (a[k].length : Int) > 1000
  · rw [decide_eq_true c1, fk_t]; exact bad fun hp => by have := hp.1; omega
  rw [decide_eq_false c1, fk_f]
  have hcT := (ha.1 _ (List.getElem_mem h')).c
  refine lp_up a[k].length (by unfold FU; omega) (fun q => ∀ j (hj : j < a[k].length), j < q → 0 ≤ a[k][j] ∧ a[k][j] ≤ 4611686018427387903 ∧ (0 < j → a[k][j - 1] + l[k].T ≤ a[k][j])) (fun j _ h => by omega) ?_
  intro nx2 q hq K hnx2
  rw [lt_nat]
  by_cases h2 : q < a[k].length
  rotate_left
  · rw [decide_eq_false h2, fk_f, wr_succ k _ h hla]
    refine hnx h fun i hi hi2 hik => ?_
    by_cases e : i = k
    · subst e; exact ⟨by omega, fun j hj => K j hj (by omega)⟩
    · exact J i hi hi2 (by omega)
  rw [decide_eq_true h2, fk_t, ix_lt h2, wr_succ q _ h2 (by omega)]
  by_cases c2 : a[k][q] < 0
  · rw [decide_eq_true c2, fk_t]; exact bad fun hp => by have := hp.2 q h2; omega
  rw [decide_eq_false c2, fk_f]
  by_cases c3 : a[k][q] > 4611686018427387903
  · rw [decide_eq_true c3, fk_t]; exact bad fun hp => by have := hp.2 q h2; omega
  rw [decide_eq_false c3, fk_f]
  have go : (0 < q → a[k][q - 1] + l[k].T ≤ a[k][q]) → nx2 ((q + 1 : Nat) : Int) = some (decide (patP l a)) := fun hgo => hnx2 h2 fun j hj hjq => by
    by_cases e : j = q
    · subst e; exact ⟨by omega, by omega, hgo⟩
    · exact K j hj (by omega)
  by_cases c4 : (q : Int) > 0
  rotate_left
  · rw [decide_eq_false c4, fk_f]; exact go fun h => by omega
  rw [decide_eq_true c4, fk_t, wr_in ((q : Int) - 1) (by omega), ix_int (by omega) (by omega)]
  have e1 : ((q : Int) - 1).toNat = q - 1 := by omega
  simp only [e1]
  have hp := K (q - 1) (by omega) (by omega)
  rw [wr_in _ (by omega)]
  by_cases c5 : a[k][q] < a[k][q - 1] + l[k].T
  · rw [decide_eq_true c5, fk_t]; exact bad fun hp => by have := (hp.2 q h2).2.2 (by omega); omega
  · rw [decide_eq_false c5, fk_f]; exact go fun _ => by omega
/-- what one row asks -/
def hitP (D s e : Int) (x : Int) : Bool := decide (s ≤ x) && decide (x + D ≤ e)
def rowV (t : Task) (s e : Int) (r : List Int) : Int := t.C * (r.countP (hitP t.D s e) : Int)
def ofV (s e : Int) : List Task → List (List Int) → Int
  | t :: l, r :: a => rowV t s e r + ofV s e l a
  | _, _ => 0
theorem ofV_append (s e : Int) : ∀ (l l2 : List Task) (a a2 : List (List Int)), l.length = a.length → ofV s e (l ++ l2) (a ++ a2) = ofV s e l a + ofV s e l2 a2
  | [], l2, [], a2, _ => by simp [ofV]
  | t :: l, l2, r :: a, a2, h => by
    have := ofV_append s e l l2 a a2 (by simpa using h)
    simp only [List.cons_append, ofV, this]; omega
theorem ofV_succ (s e : Int) (l : List Task) (a : List (List Int)) (h : a.length = l.length) (k : Nat) (hk : k < l.length) : ofV s e (l.take (k + 1)) (a.take (k + 1)) = ofV s e (l.take k) (a.take k) + rowV l[k] s e (a[k]'(by omega)) := by
  rw [← List.take_append_getElem hk, ← List.take_append_getElem (show k < a.length by omega), ofV_append _ _ _ _ _ _ (by rw [List.length_take, List.length_take, h])]
  simp [ofV]
theorem rowV_b {t : Task} {s e : Int} {r : List Int} (ht : RightP t) (h : r.length ≤ 1000) : 0 ≤ rowV t s e r ∧ rowV t s e r ≤ 200000 := by
  have hc := ht.c
  have := List.countP_le_length (p := hitP t.D s e) (l := r)
  refine ⟨Int.mul_nonneg (by omega) (by omega), Int.mul_le_mul (a := t.C) (c := 200) (b := (r.countP (hitP t.D s e) : Int)) (d := 1000) (by omega) (by omega) (by omega) (by omega)⟩
theorem ofV_b {s e : Int} : ∀ {l : List Task} {a : List (List Int)}, (∀ t ∈ l, RightP t) → (∀ r ∈ a, r.length ≤ 1000) → 0 ≤ ofV s e l a ∧ ofV s e l a ≤ 200000 * (l.length : Int)
  | [], a, _, _ => by simp [ofV]
  | t :: l, [], _, _ => by simp [ofV]; omega
  | t :: l, r :: a, h1, h2 => by
    have := rowV_b (s := s) (e := e) (h1 t List.mem_cons_self) (h2 r List.mem_cons_self)
    have := ofV_b (s := s) (e := e) (l := l) (a := a) (fun t ht => h1 t (List.mem_cons_of_mem _ ht)) (fun t ht => h2 t (List.mem_cons_of_mem _ ht))
    simp only [ofV, List.length_cons]; omega


/-! ### Blocking -/
def sharedP (l : List Task) (t res : Int) : Prop := ∃ x ∈ l, x.D ≤ t ∧ usesP x res
instance (l : List Task) (t res : Int) : Decidable (sharedP l t res) := by unfold sharedP; infer_instance
theorem block_shared_eq (l : List Task) (t res : Int) (hl : l.length ≤ 4611686018427387904) : block_shared l t res = some (decide (sharedP l t res)) := by
  unfold block_shared
  refine lp_up l.length (by unfold FU; omega) (fun k => ∀ j (h : j < l.length), j < k → ¬ (l[j].D ≤ t ∧ usesP l[j] res)) (fun j _ h => by omega) ?_
  intro nx k hk J hnx
  rw [lt_nat]
  by_cases h : k < l.length
  · simp only [jn_eq]
    rw [decide_eq_true h, fk_t, ix_lt h, bnd_eq (task_Uses_eq _ _), wr_succ k _ h hl, fk_f]
    have go : ¬ (l[k].D ≤ t ∧ usesP l[k] res) → nx ((k + 1 : Nat) : Int) = some (decide (sharedP l t res)) := fun hn => hnx h fun j hj hjk => by
      by_cases e : j = k
      · subst e; exact hn
      · exact J j hj (by omega)
    by_cases c1 : l[k].D ≤ t
    · rw [decide_eq_true c1, fk_t]
      by_cases c2 : usesP l[k] res
      · rw [decide_eq_true c2, fk_t]; exact dec_t ⟨_, List.getElem_mem h, c1, c2⟩
      · rw [decide_eq_false c2, fk_f]; exact go fun hh => c2 hh.2
    · rw [decide_eq_false c1, fk_f]; exact go fun hh => c1 hh.1
  · rw [decide_eq_false h, fk_f]
    refine dec_f ?_
    rintro ⟨x, hx, hh⟩
    obtain ⟨j, hj, rfl⟩ := List.getElem_of_mem hx
    exact J j hj (by omega) hh
def secN (l : List Task) (t : Int) (s : Sec) : Nat := if sharedP l t s.Res then s.Len.toNat else 0
def taskN (l : List Task) (t : Int) (x : Task) : Nat := if x.D ≤ t then 0 else maxL (secN l t) x.Secs
def blockV (l : List Task) (t : Int) : Nat := maxL (taskN l t) l
theorem RightP.sl {t : Task} (h : RightP t) {s : Sec} (hs : s ∈ t.Secs) : 1 ≤ s.Len ∧ s.Len ≤ 200 := by
  have h1 := h.2.1 s hs
  have h2 := h.c
  unfold secP at h1
  omega
theorem maxL_bound {α : Type} {f : α → Nat} {l : List α} {n : Nat} (h : ∀ x ∈ l, f x ≤ n) : maxL f l ≤ n := maxL_le.2 h
theorem block_Of_eq (l : List Task) (t : Int) (hl : l.length ≤ 4611686018427387904) : block_Of l t = some (if AllP l then ((blockV l t : Nat) : Int) else 0, if AllP l then 0 else 1) := by
  unfold block_Of
  rw [bnd_eq (task_All_eq l hl)]
  by_cases ha : AllP l
  rotate_left
  · rw [decide_eq_false ha, Bool.not_false, fk_t, if_neg ha, if_neg ha]
  rw [decide_eq_true ha, Bool.not_true, fk_f, if_pos ha, if_pos ha]
  refine lp_upS l.length (by unfold FU; omega) (fun k n => n = ((maxL (taskN l t) (l.take k) : Nat) : Int)) 0 rfl ?_
  rintro nx k n hk rfl hnx
  simp only [jn_eq]
  rw [lt_nat]
  by_cases h : k < l.length
  · have hm := maxL_succ (taskN l t) l k h
    have hx : l[k] ∈ l := List.getElem_mem h
    have hr := ha.1 _ hx
    have hsl := hr.len
    rw [decide_eq_true h, fk_t, ix_lt h, wr_succ k _ h hl]
    by_cases c1 : l[k].D ≤ t
    · rw [decide_eq_true c1, fk_t]
      refine hnx _ h ?_
      rw [hm, taskN, if_pos c1]; omega
    rw [decide_eq_false c1, fk_f]
    rw [taskN, if_neg c1] at hm
    generalize hA : maxL (taskN l t) (l.take k) = A at *
    refine lp_upS l[k].Secs.length (by unfold FU; omega) (fun j n => n = ((max A (maxL (secN l t) (l[k].Secs.take j)) : Nat) : Int)) _ (by simp [maxL]) ?_
    rintro nx2 j n hj rfl hnx2
    simp only
    rw [lt_nat]
    by_cases h2 : j < l[k].Secs.length
    · have hm2 := maxL_succ (secN l t) l[k].Secs j h2
      have hlen := hr.sl (List.getElem_mem h2)
      rw [decide_eq_true h2, fk_t, ix_lt h2, bnd_eq (block_shared_eq _ _ _ hl), wr_succ j _ h2 (by omega), fk_f]
      unfold secN at hm2
      by_cases c2 : l[k].Secs[j].Len > ((max A (maxL (secN l t) (l[k].Secs.take j)) : Nat) : Int)
      · rw [decide_eq_true c2, fk_t]
        by_cases c3 : sharedP l t l[k].Secs[j].Res
        · rw [decide_eq_true c3, fk_t]
          refine hnx2 _ h2 ?_
          rw [if_pos c3] at hm2
          unfold secN at c2 ⊢
          rw [hm2]; omega
        · rw [decide_eq_false c3, fk_f]
          refine hnx2 _ h2 ?_
          rw [if_neg c3] at hm2
          unfold secN
          rw [hm2]; omega
      · rw [decide_eq_false c2, fk_f]
        refine hnx2 _ h2 ?_
        unfold secN at c2 ⊢
        rw [hm2]
        split <;> omega
    · rw [decide_eq_false h2, fk_f]
      have : j = l[k].Secs.length := by omega
      rw [this, List.take_length]
      exact hnx _ h (by rw [hm])
  · rw [decide_eq_false h, fk_f]
    have : k = l.length := by omega
    rw [this, List.take_length]; rfl
/-! Where it may change. -/
/-! The least supply. -/
def faceP (f : Face) : Prop := 1 ≤ f.B ∧ f.B ≤ f.P ∧ f.P ≤ 200
instance (f : Face) : Decidable (faceP f) := by unfold faceP; infer_instance
theorem supply_Right_eq (f : Face) : supply_Right f = some (decide (faceP f)) := by
  unfold supply_Right
  simp only [fk_if, decide_eq_true_eq]
  repeat' split
  all_goals first
    | exact dec_iff (by unfold faceP; omega)
    | exact dec_f (by unfold faceP; omega)
theorem ref09_Right_eq (f : Face) : ref09_Right f = some (decide (faceP f)) := by
  unfold ref09_Right
  simp only [fk_if, decide_eq_true_eq]
  repeat' split
  all_goals first
    | exact dec_iff (by unfold faceP; omega)
    | exact dec_f (by unfold faceP; omega)
def max0 (x : Int) : Int := if x > 0 then x else 0
def supV (f : Face) (t : Int) : Int := if t < f.P - f.B then 0 else ((t - (f.P - f.B)) / f.P) * f.B + max0 (t - 2 * (f.P - f.B) - ((t - (f.P - f.B)) / f.P) * f.P)
theorem supV_qr {f : Face} (hf : faceP f) {t q r : Int} (ht : t = (f.P - f.B) + q * f.P + r) (hq : 0 ≤ q) (hr : 0 ≤ r) (hr2 : r < f.P) : supV f t = q * f.B + max0 (r - (f.P - f.B)) := by
  unfold faceP at hf
  have hqP : 0 ≤ q * f.P := Int.mul_nonneg hq (by omega)
  have e : (t - (f.P - f.B)) / f.P = q := by
    rw [ht, show f.P - f.B + q * f.P + r - (f.P - f.B) = r + q * f.P by omega, Int.add_mul_ediv_right _ _ (by omega), Int.ediv_eq_zero_of_lt hr hr2]; omega
  unfold supV
  rw [if_neg (by omega), e, show t - 2 * (f.P - f.B) - q * f.P = r - (f.P - f.B) by omega]
theorem supV_low {f : Face} {t : Int} (h : t < f.P - f.B) : supV f t = 0 := by unfold supV; rw [if_pos h]
theorem qr_of {f : Face} (hf : faceP f) {t : Int} (h : f.P - f.B ≤ t) : ∃ q r, t = (f.P - f.B) + q * f.P + r ∧ 0 ≤ q ∧ 0 ≤ r ∧ r < f.P := by
  unfold faceP at hf
  refine ⟨(t - (f.P - f.B)) / f.P, (t - (f.P - f.B)) % f.P, ?_, Int.ediv_nonneg (by omega) (by omega), Int.emod_nonneg _ (by omega), Int.emod_lt_of_pos _ (by omega)⟩
  have := Int.mul_ediv_add_emod (t - (f.P - f.B)) f.P
  rw [Int.mul_comm] at this
  omega
theorem max0_b (x : Int) : 0 ≤ max0 x ∧ x ≤ max0 x ∧ (max0 x = 0 ∨ max0 x = x) := by unfold max0; split <;> omega
theorem supV_b {f : Face} (hf : faceP f) {t : Int} (h0 : 0 ≤ t) : 0 ≤ supV f t ∧ supV f t ≤ t := by
  by_cases c : t < f.P - f.B
  · rw [supV_low c]; omega
  · obtain ⟨q, r, ht, hq, hr, hr2⟩ := qr_of hf (show f.P - f.B ≤ t by omega)
    rw [supV_qr hf ht hq hr hr2]
    unfold faceP at hf
    have h1 : 0 ≤ q * f.B := Int.mul_nonneg hq (by omega)
    have h2 : q * f.B ≤ q * f.P := Int.mul_le_mul_of_nonneg_left (by omega) hq
    have h3 := max0_b (r - (f.P - f.B))
    omega
theorem supply_Bound_eq (f : Face) (t : Int) : supply_Bound f t = some (if faceP f ∧ 0 ≤ t ∧ t ≤ 4611686018427387903 then supV f t else 0, if faceP f ∧ 0 ≤ t ∧ t ≤ 4611686018427387903 then 0 else 1) := by
  unfold supply_Bound
  simp only [jn_eq, fk_t, fk_f]
  rw [bnd_eq (supply_Right_eq f)]
  by_cases hf : faceP f
  rotate_left
  · rw [decide_eq_false hf, Bool.not_false, fk_t, if_neg (fun h => hf h.1), if_neg (fun h => hf h.1)]
  rw [decide_eq_true hf, Bool.not_true, fk_f]
  by_cases c1 : t < 0
  · rw [decide_eq_true c1, fk_t, if_neg (fun h => by omega), if_neg (fun h => by omega)]
  rw [decide_eq_false c1, fk_f]
  by_cases c2 : t > 4611686018427387903
  · rw [decide_eq_true c2, fk_t, if_neg (fun h => by omega), if_neg (fun h => by omega)]
  have hf' := hf
  unfold faceP at hf'
  have hA : faceP f ∧ 0 ≤ t ∧ t ≤ 4611686018427387903 := ⟨hf, by omega, by omega⟩
  rw [show (if faceP f ∧ 0 ≤ t ∧ t ≤ 4611686018427387903 then supV f t else 0) = supV f t from if_pos hA, show (if faceP f ∧ 0 ≤ t ∧ t ≤ 4611686018427387903 then (0 : Int) else 1) = 0 from if_pos hA]
  rw [decide_eq_false c2, fk_f, wr_in (f.P - f.B) (by omega)]
  by_cases c3 : t < f.P - f.B
  · rw [decide_eq_true c3, fk_t, supV_low c3]
  obtain ⟨q, r, ht, hq, hr, hr2⟩ := qr_of hf (show f.P - f.B ≤ t by omega)
  have h1 : 0 ≤ q * f.B := Int.mul_nonneg hq (by omega)
  have h2 : q * f.B ≤ q * f.P := Int.mul_le_mul_of_nonneg_left (by omega) hq
  have h3 := max0_b (r - (f.P - f.B))
  have e : (t - (f.P - f.B)).tdiv f.P = q := by
    rw [Int.tdiv_eq_ediv_of_nonneg (by omega), ht, show f.P - f.B + q * f.P + r - (f.P - f.B) = r + q * f.P by omega, Int.add_mul_ediv_right _ _ (by omega), Int.ediv_eq_zero_of_lt hr hr2]; omega
  have hqq : q ≤ q * f.P := by
    have := Int.mul_le_mul_of_nonneg_left (show (1 : Int) ≤ f.P by omega) hq
    omega
  rw [decide_eq_false c3, fk_f, ck_t (decide_eq_true (by omega)), wr_in (t - (f.P - f.B)) (by omega), e, wr_in q (by omega), wr_in (2 * (f.P - f.B)) (by omega), wr_in (t - 2 * (f.P - f.B)) (by omega), wr_in (q * f.P) (by omega), wr_in (q * f.B) (by omega), wr_in (t - 2 * (f.P - f.B) - q * f.P) (by omega), supV_qr hf ht hq hr hr2]
  have e2 : t - 2 * (f.P - f.B) - q * f.P = r - (f.P - f.B) := by omega
  rw [e2]
  show some (wr (q * f.B + max0 (r - (f.P - f.B))), (0 : Int)) = _
  rw [wr_in _ (by omega)]
/-- One tick more. -/
def worstP (f : Face) (i : Int) : Prop := if i < f.P then i < f.B else i % f.P ≥ f.P - f.B
instance (f : Face) (i : Int) : Decidable (worstP f i) := by unfold worstP; infer_instance
/-! Need. -/
def needV (l : List Task) (t : Int) : Int := sumB l t + (blockV l t : Int)
theorem blockV_le {l : List Task} (ha : AllP l) (t : Int) : blockV l t ≤ 200 := by
  unfold blockV
  refine maxL_bound fun x hx => ?_
  unfold taskN
  split
  · omega
  · refine maxL_bound fun s hs => ?_
    unfold secN
    have := (ha.1 x hx).sl hs
    split <;> omega
theorem verdict_Need_eq (l : List Task) (t : Int) (hl : l.length ≤ 4611686018427387904) (h1 : t ≤ 2199023255552) : verdict_Need l t = some (if AllP l ∧ 0 ≤ t then needV l t else 0, if AllP l ∧ 0 ≤ t then 0 else 1) := by
  unfold verdict_Need
  by_cases ha : AllP l ∧ 0 ≤ t
  · have h2 := sumB_le ha.1 ha.2
    have h3 := sumB_nonneg ha.1 ha.2
    have h4 := blockV_le ha.1 t
    rw [bnd_eq (demand_Bound_small l t ha.1 ha.2 h1), decide_eq_true rfl, Bool.not_true, fk_f, bnd_eq (block_Of_eq l t hl), if_pos ha.1]
    simp only
    rw [bnd_eq (arith_Add_eq _ _ h3 (by omega) (by omega) (by omega)), if_pos (by omega), if_pos (by omega), if_pos ha, if_pos ha]
    rfl
  · have : ¬ askP l t := fun h => ha ⟨h.1, h.2.1⟩
    rw [bnd_eq (demand_Bound_eq l t hl), if_neg (fun h => this h.1), if_neg this, if_neg ha, if_neg ha]
    rfl

/-! Cycles. -/
theorem arith_Gcd_eq (a b : Int) (ha : 0 ≤ a) (ha2 : a ≤ 4611686018427387903) (hb : 0 ≤ b) (hb2 : b ≤ 4611686018427387903) : arith_Gcd a b = some (((Nat.gcd a.toNat b.toNat : Nat) : Int), 0) := by
  unfold arith_Gcd
  simp only [jn_eq, fk_t, fk_f]
  rw [bnd_eq (arith_may2 a b), decide_eq_true (by unfold inM; omega), Bool.not_true, fk_f, decide_eq_false (show ¬ a < 0 by omega), fk_f, decide_eq_false (show ¬ b < 0 by omega), fk_f]
  refine lp_inv (fun v => v.2.toNat) (fun v => ∃ x y : Nat, v = ((x : Int), (y : Int)) ∧ Nat.gcd x y = Nat.gcd a.toNat b.toNat) ?_ FU _ ⟨a.toNat, b.toNat, by rw [Int.toNat_of_nonneg ha, Int.toNat_of_nonneg hb], rfl⟩ (by unfold FU; simp only; omega)
  rintro nx v ⟨x, y, rfl, hg⟩ hnx
  simp only
  by_cases h : (y : Int) > 0
  · rw [decide_eq_true h, fk_t, ck_t (decide_eq_true (by omega)), Int.tmod_eq_emod_of_nonneg (by omega)]
    have e : (x : Int) % (y : Int) = ((x % y : Nat) : Int) := rfl
    rw [e]
    refine hnx _ ⟨y, x % y, rfl, ?_⟩ (by simp only [Int.toNat_natCast]; exact Nat.mod_lt _ (by omega))
    rw [← hg, Nat.gcd_comm x y, Nat.gcd_rec y x, Nat.gcd_comm]
  · rw [decide_eq_false h, fk_f]
    have : y = 0 := by omega
    subst this
    rw [← hg, Nat.gcd_zero_right]
theorem arith_Mul_small (a b : Int) (ha : 1 ≤ a) (ha2 : a ≤ 3000) (hb : 1 ≤ b) (hb2 : b ≤ 200) : arith_Mul a b = some (a * b, 0) := by
  unfold arith_Mul
  simp only [jn_eq, fk_t, fk_f]
  have h1 : a * b ≤ 3000 * 200 := Int.mul_le_mul ha2 hb2 (by omega) (by omega)
  have h2 : 0 ≤ a * b := Int.mul_nonneg (by omega) (by omega)
  have h3 : 4611686018427387903 / b ≥ 23058430092136939 := by
    exact (Int.le_ediv_iff_mul_le (by omega)).2 (by omega)
  rw [bnd_eq (arith_may2 a b), decide_eq_true (by unfold inM; omega), Bool.not_true, fk_f, decide_eq_false (show ¬ a = 0 by omega), fk_f, decide_eq_false (show ¬ b = 0 by omega), fk_f]
  have wa : IntKind.i64.wrap (0 - a) = 0 - a := wr_in _ (by omega)
  have wb : IntKind.i64.wrap (0 - b) = 0 - b := wr_in _ (by omega)
  rw [wa, wb, if_neg (show ¬ 0 - b > b by omega), if_neg (show ¬ 0 - a > a by omega), ck_t (decide_eq_true (by omega)), Int.tdiv_eq_ediv_of_nonneg (by omega)]
  have h4 : 4611686018427387903 / b ≤ 4611686018427387903 := Int.ediv_le_self _ (by omega)
  rw [wr_in (4611686018427387903 / b) (by omega), decide_eq_false (by omega), fk_f, wr_in _ (by omega)]
theorem arith_Lcm_eq (a b : Nat) (ha : 1 ≤ a) (ha2 : a ≤ 3000) (hb : 1 ≤ b) (hb2 : b ≤ 200) : arith_Lcm (a : Int) (b : Int) = some (((Nat.lcm a b : Nat) : Int), 0) := by
  unfold arith_Lcm
  simp only [jn_eq, fk_t, fk_f]
  rw [decide_eq_false (show ¬ (a : Int) < 1 by omega), fk_f, decide_eq_false (show ¬ (b : Int) < 1 by omega), fk_f, bnd_eq (arith_Gcd_eq _ _ (by omega) (by omega) (by omega) (by omega)), decide_eq_true rfl, Bool.not_true, fk_f]
  simp only [Int.toNat_natCast]
  have hg : 0 < Nat.gcd a b := Nat.gcd_pos_of_pos_left _ (by omega)
  have hd := Nat.gcd_dvd_left a b
  have hk : 1 ≤ a / Nat.gcd a b := Nat.div_pos (Nat.le_of_dvd (by omega) hd) hg
  have hk2 : a / Nat.gcd a b ≤ a := Nat.div_le_self _ _
  have e : (a : Int).tdiv (Nat.gcd a b : Int) = ((a / Nat.gcd a b : Nat) : Int) := by rw [Int.tdiv_eq_ediv_of_nonneg (by omega)]; rfl
  rw [ck_t (decide_eq_true (by omega)), e, wr_in _ (by omega), bnd_eq (arith_Mul_small _ _ (by omega) (by omega) (by omega) (by omega))]
  have : Nat.lcm a b = a / Nat.gcd a b * b := by
    unfold Nat.lcm
    exact (Nat.div_mul_right_comm hd b).symm
  rw [this]; simp
def lcmL (P : Nat) (l : List Task) : Nat := l.foldl (fun c t => Nat.lcm c t.T.toNat) P
def farL (x : Int) (l : List Task) : Int := l.foldl (fun m t => if t.D > m then t.D else m) x
theorem lcmL_succ (P : Nat) (l : List Task) (k : Nat) (h : k < l.length) : lcmL P (l.take (k + 1)) = Nat.lcm (lcmL P (l.take k)) l[k].T.toNat := by
  unfold lcmL; rw [← List.take_append_getElem h, List.foldl_append]; rfl
theorem farL_succ (x : Int) (l : List Task) (k : Nat) (h : k < l.length) : farL x (l.take (k + 1)) = if l[k].D > farL x (l.take k) then l[k].D else farL x (l.take k) := by
  unfold farL; rw [← List.take_append_getElem h, List.foldl_append]; rfl
theorem lcmL_dvd : ∀ (l : List Task) (P n : Nat), lcmL P l ∣ n ↔ P ∣ n ∧ ∀ t ∈ l, t.T.toNat ∣ n
  | [], P, n => by simp [lcmL]
  | t :: l, P, n => by
    have ih := lcmL_dvd l (Nat.lcm P t.T.toNat) n
    show lcmL (Nat.lcm P t.T.toNat) l ∣ n ↔ _
    rw [ih]
    constructor
    · rintro ⟨h1, h2⟩
      refine ⟨Nat.dvd_trans (Nat.dvd_lcm_left _ _) h1, fun x hx => ?_⟩
      rcases List.mem_cons.1 hx with rfl | hx
      · exact Nat.dvd_trans (Nat.dvd_lcm_right _ _) h1
      · exact h2 x hx
    · rintro ⟨h1, h2⟩
      exact ⟨Nat.lcm_dvd h1 (h2 t List.mem_cons_self), fun x hx => h2 x (List.mem_cons_of_mem _ hx)⟩
theorem lcmL_pos : ∀ (l : List Task) (P : Nat), 0 < P → (∀ t ∈ l, 1 ≤ t.T) → 0 < lcmL P l
  | [], P, hP, _ => hP
  | t :: l, P, hP, h => lcmL_pos l _ (Nat.lcm_pos hP (by have := h t List.mem_cons_self; omega)) fun x hx => h x (List.mem_cons_of_mem _ hx)
theorem farL_b : ∀ (l : List Task) (x : Int), x ≤ farL x l ∧ (∀ t ∈ l, t.D ≤ farL x l) ∧ ∀ m, x ≤ m → (∀ t ∈ l, t.D ≤ m) → farL x l ≤ m
  | [], x => ⟨Int.le_refl _, fun t ht => (List.not_mem_nil ht).elim, fun m h _ => h⟩
  | t :: l, x => by
    obtain ⟨h1, h2, h3⟩ := farL_b l (if t.D > x then t.D else x)
    show _ ∧ _ ∧ _
    have e : farL x (t :: l) = farL (if t.D > x then t.D else x) l := rfl
    rw [e]
    refine ⟨?_, fun y hy => ?_, fun m hm hl => h3 m ?_ fun y hy => hl y (List.mem_cons_of_mem _ hy)⟩
    · exact Int.le_trans (show x ≤ (if t.D > x then t.D else x) by split <;> omega) h1
    · rcases List.mem_cons.1 hy with rfl | hy
      · exact Int.le_trans (show y.D ≤ (if y.D > x then y.D else x) by split <;> omega) h1
      · exact h2 y hy
    · have := hl t List.mem_cons_self
      split <;> omega
theorem AllP.T {l : List Task} (h : AllP l) {t : Task} (ht : t ∈ l) : 1 ≤ t.T ∧ t.T ≤ 200 ∧ 1 ≤ t.C ∧ t.C ≤ 200 ∧ 1 ≤ t.D ∧ t.D ≤ 200 ∧ t.C ≤ t.D ∧ t.D ≤ t.T := by
  have := (h.1 t ht).1
  unfold ownP at this
  omega
def cyc (l : List Task) (f : Face) : Nat := lcmL f.P.toNat l
def farv (l : List Task) (f : Face) : Int := farL (2 * f.P) l
theorem cyc_take {l : List Task} {f : Face} (ha : AllP l) (hf : faceP f) (k : Nat) : 0 < lcmL f.P.toNat (l.take k) ∧ lcmL f.P.toNat (l.take k) ≤ cyc l f := by
  unfold faceP at hf
  have h1 := lcmL_pos (l.take k) f.P.toNat (by omega) fun t ht => (ha.T (List.mem_of_mem_take ht)).1
  have h2 := lcmL_pos l f.P.toNat (by omega) fun t ht => (ha.T ht).1
  refine ⟨h1, Nat.le_of_dvd h2 ?_⟩
  have h3 := (lcmL_dvd l f.P.toNat (lcmL f.P.toNat l)).1 (Nat.dvd_refl _)
  exact (lcmL_dvd _ _ _).2 ⟨h3.1, fun t ht => h3.2 t (List.mem_of_mem_take ht)⟩
theorem farv_b {l : List Task} {f : Face} (ha : AllP l) (hf : faceP f) : 2 * f.P ≤ farv l f ∧ farv l f ≤ 400 ∧ ∀ t ∈ l, t.D ≤ farv l f := by
  unfold faceP at hf
  obtain ⟨h1, h2, h3⟩ := farL_b l (2 * f.P)
  exact ⟨h1, h3 400 (by omega) (fun t ht => by have := ha.T ht; omega), h2⟩
theorem farL_take {l : List Task} {f : Face} (ha : AllP l) (hf : faceP f) (k : Nat) : 0 ≤ farL (2 * f.P) (l.take k) ∧ farL (2 * f.P) (l.take k) ≤ 400 := by
  unfold faceP at hf
  obtain ⟨h1, h2, h3⟩ := farL_b (l.take k) (2 * f.P)
  exact ⟨by omega, h3 400 (by omega) (fun t ht => by have := ha.T (List.mem_of_mem_take ht); omega)⟩
def okC (l : List Task) (f : Face) : Prop := AllP l ∧ faceP f ∧ (cyc l f : Int) + farv l f ≤ 3000
noncomputable instance (l : List Task) (f : Face) : Decidable (okC l f) := Classical.propDecidable _
noncomputable def errC (l : List Task) (f : Face) : Int := if okC l f then 0 else if AllP l ∧ faceP f then 5 else 1
noncomputable def cycV (l : List Task) (f : Face) : Int × Int × Int := if okC l f then ((cyc l f : Int), (cyc l f : Int) + farv l f, 0) else (0, 0, errC l f)
theorem cycV_arg {l : List Task} {f : Face} (h : ¬ (AllP l ∧ faceP f)) : cycV l f = (0, 0, 1) := by
  have h2 : ¬ okC l f := fun hh => h ⟨hh.1, hh.2.1⟩
  unfold cycV errC; rw [if_neg h2, if_neg h2, if_neg h]
theorem cycV_big {l : List Task} {f : Face} (h : AllP l ∧ faceP f) (h2 : ¬ (cyc l f : Int) + farv l f ≤ 3000) : cycV l f = (0, 0, 5) := by
  have h3 : ¬ okC l f := fun hh => h2 hh.2.2
  unfold cycV errC; rw [if_neg h3, if_neg h3, if_pos h]
theorem verdict_Cycle_eq (l : List Task) (f : Face) (hl : l.length ≤ 4611686018427387904) : verdict_Cycle l f = some (cycV l f) := by
  unfold verdict_Cycle
  simp only [jn_eq, fk_t, fk_f]
  rw [bnd_eq (task_All_eq l hl)]
  by_cases ha : AllP l
  rotate_left
  · rw [decide_eq_false ha, Bool.not_false, fk_t, cycV_arg (fun h => ha h.1)]
  rw [decide_eq_true ha, Bool.not_true, fk_f, bnd_eq (supply_Right_eq f)]
  by_cases hf : faceP f
  rotate_left
  · rw [decide_eq_false hf, Bool.not_false, fk_t, cycV_arg (fun h => hf h.2)]
  have hf' := hf
  unfold faceP at hf'
  have h8 := ha.2
  rw [decide_eq_true hf, Bool.not_true, fk_f, wr_in (2 * f.P) (by omega)]
  refine lp_inv (fun v => l.length - v.2.2.toNat) (fun v => ∃ k : Nat, v = (((lcmL f.P.toNat (l.take k) : Nat) : Int), farL (2 * f.P) (l.take k), (k : Int)) ∧ k ≤ l.length ∧ lcmL f.P.toNat (l.take k) ≤ 3000) ?_ FU _ ⟨0, by simp [lcmL, farL]; omega, Nat.zero_le _, by simp [lcmL]; omega⟩ (by unfold FU; simp; omega)
  rintro nx v ⟨k, rfl, hk, hc⟩ hnx
  simp only
  rw [lt_nat]
  obtain ⟨c1, c2⟩ := cyc_take ha hf k
  have hfr := farL_take ha hf k
  by_cases h : k < l.length
  · obtain ⟨t1, t2, _⟩ := ha.T (List.getElem_mem h)
    have eT : l[k].T = ((l[k].T.toNat : Nat) : Int) := by omega
    rw [decide_eq_true h, fk_t, ix_lt h, wr_succ k _ h (by omega), eT, bnd_eq (arith_Lcm_eq _ _ c1 hc (by omega) (by omega)), decide_eq_true rfl, Bool.not_true, fk_f, ← lcmL_succ _ _ _ h, ← farL_succ _ _ _ h]
    obtain ⟨d1, d2⟩ := cyc_take ha hf (k + 1)
    have hfv := farv_b ha hf
    by_cases c : ((lcmL f.P.toNat (l.take (k + 1)) : Nat) : Int) > 3000
    · rw [decide_eq_true c, fk_t, cycV_big ⟨ha, hf⟩ (by omega)]
    · rw [decide_eq_false c, fk_f]
      exact hnx _ ⟨k + 1, rfl, by omega, by omega⟩ (by simp only [Int.toNat_natCast]; omega)
  · have : k = l.length := by omega
    subst this
    rw [decide_eq_false h, fk_f, wr_in _ (by omega), List.take_length]
    show fk (decide (((cyc l f : Nat) : Int) + farv l f > 3000)) _ (some (((cyc l f : Nat) : Int), ((cyc l f : Nat) : Int) + farv l f, 0)) = _
    by_cases c : ((cyc l f : Nat) : Int) + farv l f > 3000
    · rw [decide_eq_true c, fk_t, cycV_big ⟨ha, hf⟩ (by omega)]
    · rw [decide_eq_false c, fk_f, cycV, if_pos ⟨ha, hf, by omega⟩]

/-! The first tick for which tasks don't fit. -/
def badB (l : List Task) (f : Face) (t : Nat) : Bool := decide (needV l t > supV f t)
def badV (l : List Task) (f : Face) (e : Nat) : Option Nat := (List.range (e + 1)).find? (badB l f)
theorem badV_some {l : List Task} {f : Face} {e t : Nat} : badV l f e = some t ↔ t ≤ e ∧ needV l t > supV f t ∧ ∀ j, j < t → needV l j ≤ supV f j := by
  unfold badV
  rw [List.find?_range_eq_some]
  unfold badB
  simp only [decide_eq_true_eq, List.mem_range, Bool.not_eq_true', decide_eq_false_iff_not]
  constructor
  · rintro ⟨h1, h2, h3⟩; exact ⟨by omega, h1, fun j hj => by have := h3 j hj; omega⟩
  · rintro ⟨h1, h2, h3⟩; exact ⟨h2, by omega, fun j hj => by have := h3 j hj; omega⟩
theorem badV_none {l : List Task} {f : Face} {e : Nat} : badV l f e = none ↔ ∀ t, t ≤ e → needV l t ≤ supV f t := by
  unfold badV
  rw [List.find?_range_eq_none]
  unfold badB
  simp only [Bool.not_eq_true', decide_eq_false_iff_not]
  exact ⟨fun h t ht => by have := h t (by omega); omega, fun h t ht => by have := h t (by omega); omega⟩
theorem scan_eq {R : Type} (l : List Task) (f : Face) (e : Nat) (he : e ≤ 1000000) (A : Int → Option R) (B : Option R) (r : R) (h1 : ∀ t, badV l f e = some t → A (t : Int) = some r) (h2 : badV l f e = none → B = some r) {body : (Int → Option R) → Int → Option R}
    (hb : ∀ nx (k : Nat), k ≤ e + 1 → body nx (k : Int) = fk (decide ((k : Int) ≤ (e : Int))) (fk (decide (needV l k > supV f k)) (A k) (nx ((k + 1 : Nat) : Int))) B) : lp body FU 0 = some r := by
  refine lp_up (e + 1) (by unfold FU; omega) (fun k => ∀ j : Nat, j < k → needV l j ≤ supV f j) (fun j h => by omega) ?_
  intro nx k hk J hnx
  rw [hb nx k hk]
  by_cases c : (k : Int) ≤ (e : Int)
  · rw [decide_eq_true c, fk_t]
    by_cases d : needV l k > supV f k
    · rw [decide_eq_true d, fk_t]
      exact h1 k (badV_some.2 ⟨by omega, d, J⟩)
    · rw [decide_eq_false d, fk_f]
      refine hnx (by omega) fun j hj => ?_
      by_cases e2 : j = k
      · subst e2; omega
      · exact J j (by omega)
  · rw [decide_eq_false c, fk_f]
    exact h2 (badV_none.2 fun t ht => J t (by omega))
theorem okC_end {l : List Task} {f : Face} (h : okC l f) : ∃ e : Nat, (e : Int) = (cyc l f : Int) + farv l f ∧ e ≤ 3000 := by
  have h1 := farv_b h.1 h.2.1
  have h2 := h.2.2
  have h3 := h.2.1
  unfold faceP at h3
  exact ⟨((cyc l f : Int) + farv l f).toNat, by omega, by omega⟩
def endN (l : List Task) (f : Face) : Nat := ((cyc l f : Int) + farv l f).toNat
theorem endN_eq {l : List Task} {f : Face} (h : okC l f) : ((endN l f : Nat) : Int) = (cyc l f : Int) + farv l f ∧ endN l f ≤ 3000 := by
  obtain ⟨e, h1, h2⟩ := okC_end h
  unfold endN; omega
noncomputable def firstV (l : List Task) (f : Face) : Int × Bool × Int := if okC l f then (match badV l f (endN l f) with | some t => ((t : Int), true, 0) | none => (0, false, 0)) else (0, false, errC l f)
theorem errC_ne {l : List Task} {f : Face} (h : ¬ okC l f) : errC l f ≠ 0 := by
  unfold errC; rw [if_neg h]; split <;> omega
theorem verdict_First_eq (l : List Task) (f : Face) (hl : l.length ≤ 4611686018427387904) : verdict_First l f = some (firstV l f) := by
  unfold verdict_First firstV
  rw [bnd_eq (verdict_Cycle_eq l f hl)]
  by_cases h : okC l f
  rotate_left
  · have := errC_ne h
    rw [cycV, if_neg h, if_neg h]
    simp only
    rw [decide_eq_false this, Bool.not_false, fk_t]
  obtain ⟨e1, e2⟩ := endN_eq h
  rw [cycV, if_pos h, if_pos h]
  rw [show (!decide (((cyc l f : Int), (cyc l f : Int) + farv l f, (0 : Int)).2.2 = 0)) = false from rfl, fk_f, show ((cyc l f : Int), (cyc l f : Int) + farv l f, (0 : Int)).2.1 = (cyc l f : Int) + farv l f from rfl, ← e1]
  have : verdict_fails l f ((endN l f : Nat) : Int) = some ((badV l f (endN l f)).map fun t => (t : Int)) := by
    unfold verdict_fails
    refine scan_eq l f (endN l f) (by omega) (fun v => some (some v)) (some none) _ (fun t ht => by rw [ht]; rfl) (fun ht => by rw [ht]; rfl) ?_
    intro nx k hk
    by_cases c : (k : Int) ≤ ((endN l f : Nat) : Int)
    · rw [decide_eq_true c, fk_t, fk_t, bnd_eq (verdict_Need_eq l k hl (by omega)), bnd_eq (supply_Bound_eq f k), if_pos ⟨h.1, by omega⟩, if_pos (show faceP f ∧ 0 ≤ (k : Int) ∧ (k : Int) ≤ 4611686018427387903 from ⟨h.2.1, by omega, by omega⟩), wr_in _ (by omega)]
      rfl
    · rw [decide_eq_false c, fk_f, fk_f]
  rw [bnd_eq this]
  cases badV l f (endN l f) with
  | none => rfl
  | some t => rfl
/-! What is asked for in a cycle. -/
def askC (c : Int) (t : Task) : Int := t.C * (c / t.T)
def asked (l : List Task) (c : Int) : Int := sumI (askC c) l
def givenC (f : Face) (c : Int) : Int := f.B * (c / f.P)
theorem div_b {c T : Int} (hc : 0 ≤ c) (hT : 1 ≤ T) : 0 ≤ c / T ∧ c / T ≤ c := ⟨Int.ediv_nonneg hc (by omega), Int.ediv_le_self _ hc⟩
theorem asked_b {l : List Task} (ha : AllP l) {c : Int} (h0 : 0 ≤ c) (h1 : c ≤ 3000) (k : Nat) : 0 ≤ asked (l.take k) c ∧ asked (l.take k) c ≤ 600000 * 8 := by
  have hx : ∀ t ∈ l.take k, 0 ≤ askC c t ∧ askC c t ≤ 600000 := fun t ht => by
    have hT := ha.T (List.mem_of_mem_take ht)
    have hd := div_b h0 hT.1
    unfold askC
    refine ⟨Int.mul_nonneg (by omega) hd.1, ?_⟩
    have := Int.mul_le_mul (show t.C ≤ 200 by omega) (show c / t.T ≤ 3000 by omega) hd.1 (by omega)
    omega
  refine ⟨sumI_nonneg fun t ht => (hx t ht).1, ?_⟩
  have h2 := sumI_bound (l := l.take k) fun t ht => (hx t ht).2
  have h3 : (l.take k).length ≤ 8 := by rw [List.length_take]; have := ha.2; omega
  unfold asked
  have h4 : (600000 : Int) * ((l.take k).length : Int) ≤ 600000 * 8 := Int.mul_le_mul_of_nonneg_left (by omega) (by omega)
  omega
theorem givenC_b {f : Face} (hf : faceP f) {c : Int} (h0 : 0 ≤ c) (h1 : c ≤ 3000) : 0 ≤ givenC f c ∧ givenC f c ≤ 600000 := by
  unfold faceP at hf
  have hd := div_b h0 (show 1 ≤ f.P by omega)
  unfold givenC
  refine ⟨Int.mul_nonneg (by omega) hd.1, ?_⟩
  have := Int.mul_le_mul (show f.B ≤ 200 by omega) (show c / f.P ≤ 3000 by omega) hd.1 (by omega)
  omega
theorem cyc_b {l : List Task} {f : Face} (h : okC l f) : 1 ≤ (cyc l f : Int) ∧ (cyc l f : Int) ≤ 3000 := by
  have h1 := farv_b h.1 h.2.1
  have h2 := h.2.2
  have h3 := h.2.1
  have h4 := (cyc_take h.1 h.2.1 l.length).1
  rw [List.take_length] at h4
  unfold faceP at h3
  have : 0 < cyc l f := h4
  omega
def fitsF (l : List Task) (f : Face) : Prop := okC l f ∧ asked l (cyc l f) ≤ givenC f (cyc l f) ∧ badV l f (endN l f) = none
noncomputable instance (l : List Task) (f : Face) : Decidable (fitsF l f) := Classical.propDecidable _
theorem verdict_Fits_eq (l : List Task) (f : Face) (hl : l.length ≤ 4611686018427387904) : verdict_Fits l f = some (decide (fitsF l f), errC l f) := by
  unfold verdict_Fits
  rw [bnd_eq (verdict_Cycle_eq l f hl)]
  by_cases h : okC l f
  rotate_left
  · have := errC_ne h
    rw [cycV, if_neg h]
    simp only
    rw [decide_eq_false this, Bool.not_false, fk_t, decide_eq_false (fun hh => h hh.1)]
  have e0 : errC l f = 0 := by unfold errC; rw [if_pos h]
  have h8 := h.1.2
  have hc := cyc_b h
  rw [cycV, if_pos h]
  rw [show (!decide (((cyc l f : Int), (cyc l f : Int) + farv l f, (0 : Int)).2.2 = 0)) = false from rfl, fk_f]
  refine lp_upS l.length (by unfold FU; omega) (fun k v => v = asked (l.take k) (cyc l f)) 0 (by simp [asked, sumI]) ?_
  rintro nx k v hk rfl hnx
  simp only
  rw [lt_nat]
  by_cases hh : k < l.length
  · have hT := h.1.T (List.getElem_mem hh)
    have hd := div_b (show 0 ≤ (cyc l f : Int) by omega) hT.1
    have hb := asked_b h.1 (show 0 ≤ (cyc l f : Int) by omega) hc.2 k
    have hb2 := asked_b h.1 (show 0 ≤ (cyc l f : Int) by omega) hc.2 (k + 1)
    have hs : asked (l.take (k + 1)) (cyc l f) = asked (l.take k) (cyc l f) + askC (cyc l f) l[k] := sumI_succ _ _ _ hh
    have hm : 0 ≤ l[k].C * ((cyc l f : Int) / l[k].T) := Int.mul_nonneg (by omega) hd.1
    unfold askC at hs
    rw [Int.mul_comm] at hs hm
    rw [decide_eq_true hh, fk_t, ix_lt hh, ck_t (decide_eq_true (by omega)), Int.tdiv_eq_ediv_of_nonneg (by omega), wr_in ((cyc l f : Int) / l[k].T) (by omega), wr_in ((cyc l f : Int) / l[k].T * l[k].C) (by omega), wr_in _ (by omega), wr_succ k _ hh (by omega)]
    exact hnx _ hh hs.symm
  · have hf := h.2.1
    unfold faceP at hf
    have hd := div_b (show 0 ≤ (cyc l f : Int) by omega) (show 1 ≤ f.P by omega)
    have hg := givenC_b h.2.1 (show 0 ≤ (cyc l f : Int) by omega) hc.2
    have : k = l.length := by omega
    subst this
    have eg : (cyc l f : Int) / f.P * f.B = givenC f (cyc l f) := by unfold givenC; rw [Int.mul_comm]
    rw [decide_eq_false hh, fk_f, ck_t (decide_eq_true (by omega)), Int.tdiv_eq_ediv_of_nonneg (by omega), wr_in ((cyc l f : Int) / f.P) (by omega), eg, wr_in _ (by omega), List.take_length, e0]
    by_cases c : asked l (cyc l f) > givenC f (cyc l f)
    · rw [decide_eq_true c, fk_t, decide_eq_false (fun hx => by have := hx.2.1; omega)]
    rw [decide_eq_false c, fk_f, bnd_eq (verdict_First_eq l f hl)]
    unfold firstV
    rw [if_pos h]
    cases hb : badV l f (endN l f) with
    | none => rw [show decide (fitsF l f) = true from decide_eq_true ⟨h, by omega, hb⟩]; rfl
    | some t => rw [show decide (fitsF l f) = false from decide_eq_false fun hx => by rw [hx.2.2] at hb; cases hb]; rfl

/-! From the end on all goes on by cycles. -/
theorem jobsN_steps {t : Task} (h : RightP t) {k : Int} (h0 : t.D ≤ k) : ∀ n : Nat, jobsN t (k + t.T * (n : Int)) = jobsN t k + (n : Int)
  | 0 => by simp
  | n + 1 => by
    have hT := h.1
    unfold ownP at hT
    have hm : 0 ≤ t.T * (n : Int) := Int.mul_nonneg (by omega) (by omega)
    have e : k + t.T * ((n + 1 : Nat) : Int) = (k + t.T * (n : Int)) + t.T := by
      rw [show ((n + 1 : Nat) : Int) = (n : Int) + 1 by omega, Int.mul_add]; omega
    rw [e, jobsN_step h (by omega), jobsN_steps h h0 n]; omega
theorem sumI_congr {α : Type} {f g : α → Int} : ∀ {l : List α}, (∀ x ∈ l, f x = g x) → sumI f l = sumI g l
  | [], _ => rfl
  | x :: r, h => by simp only [sumI, h x List.mem_cons_self, sumI_congr fun y hy => h y (List.mem_cons_of_mem _ hy)]
theorem sumI_add {α : Type} (f g : α → Int) : ∀ (l : List α), sumI (fun x => f x + g x) l = sumI f l + sumI g l
  | [] => rfl
  | x :: r => by simp only [sumI, sumI_add f g r]; omega
theorem sumI_mul {α : Type} (f : α → Int) (n : Int) : ∀ (l : List α), sumI (fun x => n * f x) l = n * sumI f l
  | [] => by simp [sumI]
  | x :: r => by simp only [sumI, sumI_mul f n r, Int.mul_add]
/-- c is a number that all periods divide. -/
def cycleP (l : List Task) (c : Int) : Prop := 0 ≤ c ∧ ∀ t ∈ l, t.T * (c / t.T) = c
theorem sumB_cycle {l : List Task} (ha : AllP l) {c k : Int} (hc : cycleP l c) (h0 : ∀ t ∈ l, t.D ≤ k) (n : Nat) : sumB l (k + c * (n : Int)) = sumB l k + (n : Int) * asked l c := by
  unfold sumB asked
  rw [← sumI_mul, ← sumI_add]
  refine sumI_congr fun t ht => ?_
  have hT := ha.T ht
  have hd := div_b hc.1 hT.1
  have e : c * (n : Int) = t.T * (((c / t.T).toNat * n : Nat) : Int) := by
    have h1 := hc.2 t ht
    have h2 : (((c / t.T).toNat * n : Nat) : Int) = (c / t.T) * (n : Int) := by
      rw [Int.natCast_mul, Int.toNat_of_nonneg hd.1]
    rw [h2, ← Int.mul_assoc, h1]
  unfold costN askC
  rw [e, jobsN_steps (ha.1 t ht) (h0 t ht), Int.mul_add, Int.natCast_mul, Int.toNat_of_nonneg hd.1, Int.mul_comm (c / t.T), Int.mul_left_comm]
theorem supV_cycle {f : Face} (hf : faceP f) {c k : Int} (hc : 0 ≤ c ∧ f.P * (c / f.P) = c) (h0 : f.P - f.B ≤ k) (n : Nat) : supV f (k + c * (n : Int)) = supV f k + (n : Int) * givenC f c := by
  obtain ⟨q, r, ht, hq, hr, hr2⟩ := qr_of hf h0
  have hf' := hf
  unfold faceP at hf'
  have hd := div_b hc.1 (show 1 ≤ f.P by omega)
  have hm : 0 ≤ (n : Int) * (c / f.P) := Int.mul_nonneg (by omega) hd.1
  have e : k + c * (n : Int) = (f.P - f.B) + (q + (n : Int) * (c / f.P)) * f.P + r := by
    have : c * (n : Int) = (n : Int) * (c / f.P) * f.P := by
      conv => lhs; rw [← hc.2]
      rw [Int.mul_comm f.P, Int.mul_comm _ (n : Int), Int.mul_assoc]
    rw [this, ht, Int.add_mul]; omega
  rw [supV_qr hf e (by omega) hr hr2, supV_qr hf ht hq hr hr2, Int.add_mul]
  unfold givenC
  have : (n : Int) * (c / f.P) * f.B = (n : Int) * (f.B * (c / f.P)) := by rw [Int.mul_assoc, Int.mul_comm (c / f.P)]
  omega
theorem cyc_cycle {l : List Task} {f : Face} (ha : AllP l) (hf : faceP f) {n : Nat} (hn : cyc l f ∣ n) : cycleP l (n : Int) ∧ 0 ≤ (n : Int) ∧ f.P * ((n : Int) / f.P) = (n : Int) := by
  unfold faceP at hf
  have h1 := (lcmL_dvd l f.P.toNat n).1 hn
  have key : ∀ T : Int, 1 ≤ T → T.toNat ∣ n → T * ((n : Int) / T) = (n : Int) := by
    intro T hT hd
    have e : T = ((T.toNat : Nat) : Int) := by omega
    have hd2 : T ∣ (n : Int) := by rw [e]; exact Int.natCast_dvd_natCast.2 hd
    exact Int.mul_ediv_cancel' hd2
  exact ⟨⟨by omega, fun t ht => key _ (ha.T ht).1 (h1.2 t ht)⟩, by omega, key _ (by omega) h1.1⟩
theorem blockV_far {l : List Task} {t : Int} (h : ∀ x ∈ l, x.D ≤ t) : blockV l t = 0 := by
  unfold blockV
  exact maxL_zero fun x hx => by unfold taskN; rw [if_pos (h x hx)]
/-- Tasks that fit do so for each tick, however many. -/
theorem fits_all {l : List Task} {f : Face} (h : fitsF l f) : ∀ t : Nat, needV l t ≤ supV f t := by
  obtain ⟨hok, has, hb⟩ := h
  obtain ⟨e1, e2⟩ := endN_eq hok
  have hc := cyc_b hok
  have hfv := farv_b hok.1 hok.2.1
  have hf := hok.2.1
  unfold faceP at hf
  obtain ⟨hcl, hcf⟩ := cyc_cycle hok.1 hok.2.1 (Nat.dvd_refl (cyc l f))
  have main : ∀ m t : Nat, t ≤ m → needV l t ≤ supV f t := by
    intro m
    induction m with
    | zero => intro t ht; exact badV_none.1 hb t (by omega)
    | succ m ih =>
      intro t ht
      by_cases c : t ≤ endN l f
      · exact badV_none.1 hb t c
      · have hk : ((t - cyc l f : Nat) : Int) = (t : Int) - (cyc l f : Int) := by omega
        have h1 := ih (t - cyc l f) (by omega)
        have hD : ∀ x ∈ l, x.D ≤ ((t - cyc l f : Nat) : Int) := fun x hx => by have := hfv.2.2 x hx; omega
        have hD2 : ∀ x ∈ l, x.D ≤ (t : Int) := fun x hx => by have := hD x hx; omega
        have e : (t : Int) = ((t - cyc l f : Nat) : Int) + (cyc l f : Int) * ((1 : Nat) : Int) := by omega
        have s1 := sumB_cycle hok.1 hcl hD 1
        have s2 := supV_cycle hok.2.1 hcf (k := ((t - cyc l f : Nat) : Int)) (by omega) 1
        rw [← e] at s1 s2
        unfold needV at *
        rw [blockV_far hD] at h1
        rw [blockV_far hD2, s1, s2]
        omega
  exact fun t => main t t (Nat.le_refl _)
theorem fits_int {l : List Task} {f : Face} (h : fitsF l f) {t : Int} (h0 : 0 ≤ t) : needV l t ≤ supV f t := by
  have := fits_all h t.toNat
  rwa [Int.toNat_of_nonneg h0] at this
/-! Fewer tasks; more of a budget. -/
theorem AllP.sub {l l' : List Task} (h : AllP l) (hs : l'.Sublist l) : AllP l' := ⟨fun t ht => h.1 t (hs.subset ht), Nat.le_trans hs.length_le h.2⟩
theorem supV_more {f : Face} (hf : faceP f) (hf2 : faceP ⟨f.P, f.B + 1⟩) {t : Int} (h0 : 0 ≤ t) : supV f t ≤ supV ⟨f.P, f.B + 1⟩ t := by
  have hf' := hf
  unfold faceP at hf'
  by_cases c : t < f.P - f.B
  · rw [supV_low c]; exact (supV_b hf2 h0).1
  · obtain ⟨q, r, ht, hq, hr, hr2⟩ := qr_of hf (show f.P - f.B ≤ t by omega)
    rw [supV_qr hf ht hq hr hr2]
    have hq1 : q * (f.B + 1) = q * f.B + q := by rw [Int.mul_add, Int.mul_one]
    by_cases c2 : r + 1 < f.P
    · rw [supV_qr hf2 (t := t) (q := q) (r := r + 1) (by simp only; omega) hq (by omega) c2]
      simp only
      rw [hq1]
      unfold max0; split <;> split <;> omega
    · have hq2 : (q + 1) * f.P = q * f.P + f.P := by rw [Int.add_mul, Int.one_mul]
      have hq3 : (q + 1) * (f.B + 1) = q * f.B + q + f.B + 1 := by rw [Int.add_mul, Int.one_mul, hq1]; omega
      rw [supV_qr hf2 (t := t) (q := q + 1) (r := 0) (by simp only; rw [hq2]; omega) (by omega) (by omega) (by simp only; omega)]
      simp only
      rw [hq3]
      unfold max0; split <;> split <;> omega
theorem fits_more {l : List Task} {f : Face} (h : fitsF l f) (hb : f.B + 1 ≤ f.P) : fitsF l ⟨f.P, f.B + 1⟩ := by
  have hok := h.1
  have hf := hok.2.1
  unfold faceP at hf
  have hf2 : faceP ⟨f.P, f.B + 1⟩ := by unfold faceP; simp only; omega
  have hc := cyc_b hok
  refine ⟨⟨hok.1, hf2, hok.2.2⟩, ?_, badV_none.2 fun t _ => Int.le_trans (fits_all h t) (supV_more hok.2.1 hf2 (by omega))⟩
  have := h.2.1
  have e : cyc l ⟨f.P, f.B + 1⟩ = cyc l f := rfl
  rw [e]
  have hd := div_b (show 0 ≤ (cyc l f : Int) by omega) (show 1 ≤ f.P by omega)
  unfold givenC at *
  simp only
  rw [Int.add_mul, Int.one_mul]; omega
theorem errC_ok {l : List Task} {f : Face} (h : okC l f) : errC l f = 0 := by unfold errC; rw [if_pos h]
end Go.Proofs.YtpephpefjddgcaaGreat
namespace Go.Proofs.YtpephpefjddgcaaGreat
open Go Go.VC
/-! The least interface of a period. -/
theorem jn_to {σ R : Type} {Y : σ → Option R} {X : (σ → Option R) → Option R} {r : Option R} (v : σ) (hX : ∀ k, X k = k v) (hY : Y v = r) : jn Y X = r := by
  rw [jn_eq, hX]; exact hY
theorem fits_b {l : List Task} {p b : Int} (h : fitsF l ⟨p, b⟩) : 1 ≤ b ∧ b ≤ p ∧ p ≤ 200 := h.1.2.1
theorem fits_up {l : List Task} {p b : Int} (h : fitsF l ⟨p, b⟩) : ∀ (n : Nat), b + (n : Int) ≤ p → fitsF l ⟨p, b + (n : Int)⟩
  | 0, _ => by rw [show b + ((0 : Nat) : Int) = b by omega]; exact h
  | n + 1, hn => by
    have := fits_more (fits_up h n (by omega)) (show b + (n : Int) + 1 ≤ p by omega)
    rw [show b + ((n + 1 : Nat) : Int) = b + (n : Int) + 1 by omega]
    exact this
theorem fits_le {l : List Task} {p b c : Int} (h : fitsF l ⟨p, b⟩) (h1 : b ≤ c) (h2 : c ≤ p) : fitsF l ⟨p, c⟩ := by
  have := fits_up h (c - b).toNat (by omega)
  rwa [show b + ((c - b).toNat : Int) = c by omega] at this
def isLeast (l : List Task) (p b : Int) : Prop := fitsF l ⟨p, b⟩ ∧ ∀ c, c < b → ¬ fitsF l ⟨p, c⟩
theorem least_ex {l : List Task} {p : Int} : ∀ (n : Nat) (b : Int), b.toNat ≤ n → fitsF l ⟨p, b⟩ → ∃ b, isLeast l p b
  | 0, b, h, hf => by have := (fits_b hf).1; omega
  | n + 1, b, h, hf => by
    by_cases c : fitsF l ⟨p, b - 1⟩
    · exact least_ex n (b - 1) (by have := (fits_b hf).1; omega) c
    · refine ⟨b, hf, fun d hd hfd => c (fits_le hfd (by omega) ?_)⟩
      have := (fits_b hf).2.1
      omega
open Classical in
noncomputable def leastN (l : List Task) (p : Int) : Int := if h : ∃ b, isLeast l p b then Classical.choose h else 0
theorem leastN_is {l : List Task} {p b : Int} (h : fitsF l ⟨p, b⟩) : isLeast l p (leastN l p) := by
  have hx := least_ex _ b (Nat.le_refl _) h
  unfold leastN
  rw [dif_pos hx]
  exact Classical.choose_spec hx
theorem leastN_eq {l : List Task} {p b : Int} (h : isLeast l p b) : leastN l p = b := by
  have hl := leastN_is h.1
  have h1 : ¬ leastN l p < b := fun c => h.2 _ c hl.1
  have h2 : ¬ b < leastN l p := fun c => hl.2 _ c h.1
  omega
theorem face_Least_1_eq (b : Int) (l : List Task) (p : Int) (hl : l.length ≤ 4611686018427387904) : face_Least_1 b l p = some (decide (fitsF l ⟨p, b⟩)) := by
  unfold face_Least_1
  rw [bnd_eq (verdict_Fits_eq l ⟨p, b⟩ hl)]
theorem face_least_eq (l : List Task) (p : Int) (hl : l.length ≤ 4611686018427387904) (h1 : 1 ≤ p) (h2 : p ≤ 200) : face_least_int 1 p l p = some (if fitsF l ⟨p, p⟩ then (leastN l p, true) else (0, false)) := by
  unfold face_least_int
  rw [bnd_eq (face_Least_1_eq p l p hl)]
  by_cases h : fitsF l ⟨p, p⟩
  rotate_left
  · rw [decide_eq_false h, Bool.not_false, fk_t, if_neg h]
  rw [decide_eq_true h, Bool.not_true, fk_f, if_pos h]
  refine lp_inv (fun v => (v.2 - v.1).toNat) (fun v => ∃ a b : Int, v = (a, b) ∧ 1 ≤ a ∧ a ≤ b ∧ b ≤ p ∧ fitsF l ⟨p, b⟩ ∧ ∀ c, c < a → ¬ fitsF l ⟨p, c⟩) ?_ FU _ ⟨1, p, rfl, by omega, h1, by omega, h, fun c hc hf => by have := (fits_b hf).1; omega⟩ (by unfold FU; simp only; omega)
  rintro nx v ⟨a, b, rfl, ha, hab, hb, hf, hn⟩ hnx
  dsimp only
  by_cases hlt : a < b
  rotate_left
  · have e : a = b := by omega
    subst e
    rw [decide_eq_false hlt, fk_f, leastN_eq ⟨hf, hn⟩]
  have e1 : wr (a + wr ((wr (b - a)).tdiv 2)) = a + (b - a) / 2 := by
    rw [wr_in (b - a) (by omega), Int.tdiv_eq_ediv_of_nonneg (by omega), wr_in ((b - a) / 2) (by omega), wr_in _ (by omega)]
  rw [decide_eq_true hlt, fk_t, ck_t (by decide), e1, bnd_eq (face_Least_1_eq _ l p hl)]
  have e2 : wr (a + (b - a) / 2 + 1) = a + (b - a) / 2 + 1 := wr_in _ (by omega)
  by_cases c : fitsF l ⟨p, a + (b - a) / 2⟩
  · rw [decide_eq_true c, fk_t]
    exact hnx _ ⟨a, _, rfl, ha, by omega, by omega, c, hn⟩ (by simp only; omega)
  · rw [decide_eq_false c, fk_f, e2]
    refine hnx _ ⟨_, b, rfl, by omega, by omega, hb, hf, fun d hd hfd => ?_⟩ (by simp only; omega)
    exact c (fits_le hfd (by omega) (by omega))
noncomputable def leastV (l : List Task) (p : Int) : Face × Int :=
  if AllP l ∧ 1 ≤ p ∧ p ≤ 200 then (if errC l ⟨p, 1⟩ = 0 then (if fitsF l ⟨p, p⟩ then (⟨p, leastN l p⟩, 0) else (⟨0, 0⟩, 7)) else (⟨0, 0⟩, errC l ⟨p, 1⟩)) else (⟨0, 0⟩, 1)
theorem face_Least_eq (l : List Task) (p : Int) (hl : l.length ≤ 4611686018427387904) : face_Least l p = some (leastV l p) := by
  unfold face_Least leastV
  refine jn_to (!decide (AllP l ∧ 1 ≤ p ∧ p ≤ 200)) (fun k => ?_) ?_
  · rw [bnd_eq (task_All_eq l hl)]
    by_cases h1 : AllP l
    rotate_left
    · rw [decide_eq_false h1, Bool.not_false, fk_t, decide_eq_false (fun h => h1 h.1)]; rfl
    rw [decide_eq_true h1, Bool.not_true, fk_f]
    by_cases h2 : p < 1
    · rw [decide_eq_true h2, fk_t, decide_eq_false (by omega)]; rfl
    rw [decide_eq_false h2, fk_f]
    by_cases h3 : p > 200
    · rw [decide_eq_true h3, decide_eq_false (by omega)]; rfl
    · rw [decide_eq_false h3, decide_eq_true ⟨h1, by omega, by omega⟩]; rfl
  by_cases h : AllP l ∧ 1 ≤ p ∧ p ≤ 200
  rotate_left
  · rw [decide_eq_false h, Bool.not_false, fk_t, if_neg h]
  rw [decide_eq_true h, Bool.not_true, fk_f, if_pos h, bnd_eq (verdict_Fits_eq l ⟨p, 1⟩ hl)]
  by_cases h2 : errC l ⟨p, 1⟩ = 0
  rotate_left
  · rw [decide_eq_false h2, Bool.not_false, fk_t, if_neg h2]
  rw [decide_eq_true h2, Bool.not_true, fk_f, if_pos h2, bnd_eq (face_least_eq l p hl h.2.1 h.2.2)]
  by_cases h3 : fitsF l ⟨p, p⟩
  · rw [if_pos h3, if_pos h3]; rfl
  · rw [if_neg h3, if_neg h3]; rfl
theorem errC_zero {l : List Task} {f : Face} : errC l f = 0 ↔ okC l f := ⟨fun h => Classical.byContradiction fun hc => errC_ne hc h, fun h => errC_ok h⟩
theorem okC_b {l : List Task} {p b c : Int} (h : okC l ⟨p, b⟩) (h1 : 1 ≤ c) (h2 : c ≤ p) : okC l ⟨p, c⟩ := ⟨h.1, ⟨h1, h2, h.2.1.2.2⟩, h.2.2⟩
/-! Tables. -/
def inW (w : Window) (x : Int) : Prop := w.From ≤ x ∧ x < w.From + w.Len
instance (w : Window) (x : Int) : Decidable (inW w x) := by unfold inW; infer_instance
def whoV : List Window → Int → Int
  | [], _ => -1
  | w :: r, x => if inW w x then w.Part else whoV r x
def winP (F : Int) (w : Window) : Prop := 0 ≤ w.Part ∧ w.Part < 4 ∧ 0 ≤ w.From ∧ 1 ≤ w.Len ∧ w.From + w.Len ≤ F
structure tabP (t : TableTable) : Prop where
  f1 : 1 ≤ t.Frame
  f2 : t.Frame ≤ 240
  w : ∀ w ∈ t.Windows, winP t.Frame w
  p : t.Windows.Pairwise fun a b => a.From + a.Len ≤ b.From
  c : ∀ (i : Nat) (a b : Window), t.Windows[i]? = some a → t.Windows[i + 1]? = some b → ¬ (a.From + a.Len = b.From ∧ b.Part = a.Part)
  l : t.Windows.length ≤ 240
/-- The table of ticks. -/
structure ofI (n : Int) (ts : List Int) (k : Nat) (last : Int) (W : List Window) : Prop where
  w : ∀ w ∈ W, winP n w ∧ w.From + w.Len ≤ (k : Int)
  p : W.Pairwise fun a b => a.From + a.Len ≤ b.From
  c : ∀ (i : Nat) (a b : Window), W[i]? = some a → W[i + 1]? = some b → ¬ (a.From + a.Len = b.From ∧ b.Part = a.Part)
  l : W.length ≤ k
  v : ∀ x : Nat, x < k → ∀ y, ts[x]? = some y → whoV W (x : Int) = y
  e1 : last ≠ -1 → ∃ W0 w, W = W0 ++ [w] ∧ w.Part = last ∧ w.From + w.Len = (k : Int)
  e2 : ∀ W0 w, W = W0 ++ [w] → w.From + w.Len = (k : Int) → w.Part = last
/-! The frame. -/
def facesP (l : List Face) : Prop := (∀ f ∈ l, faceP f) ∧ l.length ≤ 4
noncomputable instance (l : List Face) : Decidable (facesP l) := Classical.propDecidable _
theorem faceP.P {f : Face} (h : faceP f) : 1 ≤ f.P ∧ f.P ≤ 200 ∧ 1 ≤ f.B ∧ f.B ≤ 200 := by unfold faceP at h; omega
def allD (l : List Face) (n : Nat) : Prop := ∀ f ∈ l, f.P.toNat ∣ n
instance (l : List Face) (n : Nat) : Decidable (allD l n) := by unfold allD; infer_instance
/-! The ticks. -/
def wv (w : List Int) (i : Nat) : Int := (w[i]?).getD 0
def begun (l : List Face) (w : List Int) (t : Nat) : List Int := (List.range l.length).map fun i => match l[i]? with | some f => if f.P.toNat ∣ t then f.B else wv w i | none => 0
def denyP (l : List Face) (w : List Int) (t : Nat) : Prop := ∃ (i : Nat) (f : Face), l[i]? = some f ∧ f.P.toNat ∣ t ∧ 0 < wv w i
def byV (f : Face) (t : Nat) : Nat := (t / f.P.toNat + 1) * f.P.toNat
def isNext (l : List Face) (w : List Int) (t k : Nat) (r : Int) : Prop :=
  (r = -1 ∧ ∀ i, i < k → wv w i ≤ 0) ∨ ∃ (i : Nat) (f : Face), i < k ∧ r = (i : Int) ∧ l[i]? = some f ∧ 0 < wv w i ∧ ∀ (j : Nat) (g : Face), j < k → l[j]? = some g → 0 < wv w j → byV f t < byV g t ∨ (byV f t = byV g t ∧ i ≤ j)
def dec (w : List Int) (r : Int) : List Int := if r = -1 then w else w.set r.toNat (wv w r.toNat - 1)
inductive LayR (l : List Face) : Nat → List Int → List Int → Prop
  | zero : LayR l 0 [] (List.replicate l.length 0)
  | step {t : Nat} {out w : List Int} {r : Int} (h : LayR l t out w) (hd : ¬ denyP l w t) (hn : isNext l (begun l w t) t l.length r) : LayR l (t + 1) (out ++ [r]) (dec (begun l w t) r)
theorem LayR.before {l : List Face} {t : Nat} {o w : List Int} (h : LayR l t o w) : ∀ s, s < t → ∃ o' w', LayR l s o' w' ∧ ¬ denyP l w' s := by
  induction h with
  | zero => intro s hs; omega
  | step h hd hn ih =>
    rename_i t out w r
    intro s hs
    by_cases e : s = t
    · subst e; exact ⟨_, _, h, hd⟩
    · exact ih s (by omega)
theorem begun_len (l : List Face) (w : List Int) (t : Nat) : (begun l w t).length = l.length := by unfold begun; simp
theorem begun_at {l : List Face} {w : List Int} {t i : Nat} {f : Face} (h : l[i]? = some f) : wv (begun l w t) i = if f.P.toNat ∣ t then f.B else wv w i := by
  have hi := (List.getElem?_eq_some_iff.1 h).1
  unfold begun
  unfold wv
  rw [List.getElem?_map, List.getElem?_range hi]
  simp only [Option.map_some, h, Option.getD_some]
/-- What is kept: sizes. -/
theorem LayR.ok {l : List Face} (hl : facesP l) {t : Nat} {o w : List Int} (h : LayR l t o w) : o.length = t ∧ w.length = l.length ∧ (∀ i, 0 ≤ wv w i ∧ wv w i ≤ 200) ∧ ∀ x ∈ o, -1 ≤ x ∧ x < (l.length : Int) := by
  induction h with
  | zero =>
    refine ⟨rfl, by simp, fun i => ?_, fun x h => (List.not_mem_nil h).elim⟩
    unfold wv
    rw [List.getElem?_replicate]
    split <;> simp
  | step h hd hn ih =>
    rename_i t out w r
    obtain ⟨a, b, c, d⟩ := ih
    have hb : ∀ i, 0 ≤ wv (begun l w t) i ∧ wv (begun l w t) i ≤ 200 := fun i => by
      cases hf : l[i]? with
      | some f =>
        rw [begun_at hf]
        have := (hl.1 f (List.mem_of_getElem? hf)).P
        split
        · omega
        · exact c i
      | none =>
        have : (begun l w t)[i]? = none := List.getElem?_eq_none (by rw [begun_len]; exact List.getElem?_eq_none_iff.1 hf)
        unfold wv; rw [this]; simp
    refine ⟨by simp [a], ?_, fun i => ?_, fun x hx => ?_⟩
    · unfold dec; split
      · exact begun_len _ _ _
      · rw [List.length_set]; exact begun_len _ _ _
    · rcases hn with ⟨rfl, _⟩ | ⟨j, f, hj, rfl, hf, hw, _⟩
      · unfold dec; rw [if_pos rfl]; exact hb i
      · unfold dec
        rw [if_neg (by omega), Int.toNat_natCast]
        by_cases e : j = i
        · subst e
          have : wv ((begun l w t).set j (wv (begun l w t) j - 1)) j = wv (begun l w t) j - 1 := by
            unfold wv
            rw [List.getElem?_set_self (by rw [begun_len]; exact hj)]; rfl
          rw [this]
          have := hb j; omega
        · have : wv ((begun l w t).set j (wv (begun l w t) j - 1)) i = wv (begun l w t) i := by
            unfold wv
            rw [List.getElem?_set_ne e]
          rw [this]; exact hb i
    · rcases List.mem_append.1 hx with h' | h'
      · exact d x h'
      · rw [List.mem_singleton.1 h']
        rcases hn with ⟨rfl, _⟩ | ⟨j, f, hj, rfl, _⟩ <;> omega

theorem eq_of_wv {u v : List Int} (hl : u.length = v.length) (h : ∀ i, wv u i = wv v i) : u = v := by
  refine List.ext_getElem hl fun i h1 h2 => ?_
  have := h i
  unfold wv at this
  rw [List.getElem?_eq_getElem h1, List.getElem?_eq_getElem h2] at this
  exact this
theorem wv_set {w : List Int} {i : Nat} {x : Int} (h : i < w.length) (j : Nat) : wv (w.set i x) j = if j = i then x else wv w j := by
  unfold wv
  by_cases e : j = i
  · subst e; rw [if_pos rfl, List.getElem?_set_self h]; rfl
  · rw [if_neg e, List.getElem?_set_ne (fun c => e c.symm)]
/-- What a round of 'begin' comes to, so far. -/
structure begI (l : List Face) (w : List Int) (t k : Nat) (u : List Int) : Prop where
  len : u.length = l.length
  v : ∀ i, wv u i = if i < k then wv (begun l w t) i else wv w i
  d : ∀ (i : Nat) (f : Face), i < k → l[i]? = some f → ¬ (f.P.toNat ∣ t ∧ 0 < wv w i)
theorem begI.zero {l : List Face} {w : List Int} {t : Nat} (h : w.length = l.length) : begI l w t 0 w := ⟨h, fun i => by rw [if_neg (by omega)], fun i f h => by omega⟩
theorem begI.keep {l : List Face} {w : List Int} {t k : Nat} {u : List Int} (h : begI l w t k u) (hk : k < l.length) (hn : ¬ l[k].P.toNat ∣ t) : begI l w t (k + 1) u := by
  have hf : l[k]? = some l[k] := List.getElem?_eq_getElem hk
  refine ⟨h.len, fun i => ?_, fun i f hi hfi => ?_⟩
  · rw [h.v i]
    by_cases e : i = k
    · subst e
      rw [if_neg (by omega), if_pos (by omega), begun_at hf, if_neg hn]
    · by_cases c : i < k
      · rw [if_pos c, if_pos (by omega)]
      · rw [if_neg c, if_neg (by omega)]
  · by_cases e : i = k
    · subst e; rw [hf] at hfi; cases hfi; exact fun hh => hn hh.1
    · exact h.d i f (by omega) hfi
theorem begI.set {l : List Face} {w : List Int} {t k : Nat} {u : List Int} (h : begI l w t k u) (hk : k < l.length) (hn : l[k].P.toNat ∣ t) (hw : ¬ 0 < wv w k) : begI l w t (k + 1) (u.set k l[k].B) := by
  have hf : l[k]? = some l[k] := List.getElem?_eq_getElem hk
  have hku : k < u.length := by rw [h.len]; exact hk
  refine ⟨by rw [List.length_set]; exact h.len, fun i => ?_, fun i f hi hfi => ?_⟩
  · rw [wv_set hku]
    by_cases e : i = k
    · subst e
      rw [if_pos rfl, if_pos (by omega), begun_at hf, if_pos hn]
    · rw [if_neg e, h.v i]
      by_cases c : i < k
      · rw [if_pos c, if_pos (by omega)]
      · rw [if_neg c, if_neg (by omega)]
  · by_cases e : i = k
    · subst e; exact fun hh => hw hh.2
    · exact h.d i f (by omega) hfi
theorem begI.at {l : List Face} {w : List Int} {t k : Nat} {u : List Int} (h : begI l w t k u) : wv u k = wv w k := by rw [h.v k, if_neg (by omega)]
theorem begI.end {l : List Face} {w : List Int} {t : Nat} {u : List Int} (h : begI l w t l.length u) : u = begun l w t ∧ ¬ denyP l w t := by
  refine ⟨eq_of_wv (by rw [h.len, begun_len]) fun i => ?_, ?_⟩
  · rw [h.v i]
    by_cases c : i < l.length
    · rw [if_pos c]
    · rw [if_neg c]
      have hb : (begun l w t)[i]? = none := List.getElem?_eq_none (by rw [begun_len]; omega)
      have hu := h.v i
      rw [if_neg c] at hu
      have hu2 : u[i]? = none := List.getElem?_eq_none (by rw [h.len]; omega)
      rw [← hu]
      unfold wv
      rw [hb, hu2]
  · rintro ⟨i, f, hf, a, b⟩
    exact h.d i f (List.getElem?_eq_some_iff.1 hf).1 hf ⟨a, b⟩
/-- Who is next, so far: with its time. -/
structure nxI (l : List Face) (u : List Int) (t k : Nat) (out due : Int) : Prop where
  n : isNext l u t k out
  d : ∀ (i : Nat) (f : Face), out = (i : Int) → l[i]? = some f → due = ((byV f t : Nat) : Int)
theorem nxI.zero {l : List Face} {u : List Int} {t : Nat} : nxI l u t 0 (-1) 0 := ⟨.inl ⟨rfl, fun i h => by omega⟩, fun i f h => by omega⟩
theorem nxI.keep {l : List Face} {u : List Int} {t k : Nat} {out due : Int} (h : nxI l u t k out due) (hk : k < l.length) (hc : ¬ (0 < wv u k ∧ (out = -1 ∨ ((byV l[k] t : Nat) : Int) < due))) : nxI l u t (k + 1) out due := by
  have hfk : l[k]? = some l[k] := List.getElem?_eq_getElem hk
  refine ⟨?_, h.d⟩
  rcases h.n with ⟨rfl, a⟩ | ⟨i, f, hi, rfl, hf, hw, a⟩
  · refine .inl ⟨rfl, fun i hi => ?_⟩
    by_cases e : i = k
    · subst e; exact Int.not_lt.1 fun hh => hc ⟨hh, .inl rfl⟩
    · exact a i (by omega)
  · refine .inr ⟨i, f, by omega, rfl, hf, hw, fun j g hj hg hwj => ?_⟩
    by_cases e : j = k
    · subst e
      rw [hfk] at hg; cases hg
      have hd := h.d i f rfl hf
      have : ¬ ((byV l[j] t : Nat) : Int) < due := fun hh => hc ⟨hwj, .inr hh⟩
      omega
    · exact a j g (by omega) hg hwj
theorem nxI.take {l : List Face} {u : List Int} {t k : Nat} {out due : Int} (h : nxI l u t k out due) (hk : k < l.length) (hw : 0 < wv u k) (hc : out = -1 ∨ ((byV l[k] t : Nat) : Int) < due) : nxI l u t (k + 1) (k : Int) ((byV l[k] t : Nat) : Int) := by
  have hfk : l[k]? = some l[k] := List.getElem?_eq_getElem hk
  refine ⟨.inr ⟨k, l[k], by omega, rfl, hfk, hw, fun j g hj hg hwj => ?_⟩, fun i f hi hf => ?_⟩
  · by_cases e : j = k
    · subst e; rw [hfk] at hg; cases hg; exact .inr ⟨rfl, Nat.le_refl _⟩
    · rcases h.n with ⟨rfl, a⟩ | ⟨i, f, hi, rfl, hf, hw', a⟩
      · have := a j (by omega); omega
      · have hd := h.d i f rfl hf
        have hlt := hc.resolve_left (by omega)
        have := a j g (by omega) hg hwj
        omega
  · have : i = k := by omega
    subst this
    rw [hfk] at hf; cases hf; rfl
end Go.Proofs.YtpephpefjddgcaaGreat
namespace Go.Proofs.YtpephpefjddgcaaGreat
open Go Go.VC
/-! What is given in a window. -/
def gcnt (g : Nat → Bool) (a : Nat) : Nat → Nat
  | 0 => 0
  | n + 1 => gcnt g a n + (if g (a + n) = true then 1 else 0)
theorem gcnt_add (g : Nat → Bool) (a m : Nat) : ∀ n, gcnt g a (m + n) = gcnt g a m + gcnt g (a + m) n
  | 0 => rfl
  | n + 1 => by
    show gcnt g a (m + n) + (if g (a + (m + n)) = true then 1 else 0) = gcnt g a m + (gcnt g (a + m) n + (if g (a + m + n) = true then 1 else 0))
    rw [gcnt_add g a m n, Nat.add_assoc a m n]; omega
theorem gcnt_le (g : Nat → Bool) (a : Nat) : ∀ n, gcnt g a n ≤ n
  | 0 => Nat.le_refl _
  | n + 1 => by
    have := gcnt_le g a n
    show gcnt g a n + (if g (a + n) = true then 1 else 0) ≤ n + 1
    split <;> omega
def legalN (P B : Nat) (g : Nat → Bool) (N : Nat) : Prop := ∀ q, (q + 1) * P ≤ N → B ≤ gcnt g (q * P) P
/-- Within one period. -/
theorem gcnt_in {P B : Nat} {g : Nat → Bool} {N : Nat} (h : legalN P B g N) (q x n : Nat) (hq : (q + 1) * P ≤ N) (hx : x + n ≤ P) : n + B ≤ gcnt g (q * P + x) n + P := by
  have hB := h q hq
  obtain ⟨r, hr⟩ : ∃ r, P = x + (n + r) := ⟨P - x - n, by omega⟩
  have e1 : gcnt g (q * P) P = gcnt g (q * P) x + (gcnt g (q * P + x) n + gcnt g (q * P + x + n) r) := by
    rw [← gcnt_add, ← gcnt_add, ← hr]
  have := gcnt_le g (q * P) x
  have := gcnt_le g (q * P + x + n) r
  omega
theorem gcnt_full {P B : Nat} {g : Nat → Bool} {N : Nat} (h : legalN P B g N) (q : Nat) : ∀ k, (q + k) * P ≤ N → k * B ≤ gcnt g (q * P) (k * P)
  | 0, _ => by omega
  | k + 1, hN => by
    have h1 : (q + k) * P + P ≤ N := by rw [← Nat.succ_mul]; exact hN
    have hk := gcnt_full h q k (by omega)
    have hB := h (q + k) hN
    rw [Nat.succ_mul k P, gcnt_add, ← Nat.add_mul, Nat.succ_mul]
    omega
theorem sup_split {f : Face} (hf : faceP f) {x y k : Int} (hx : 0 ≤ x) (hx2 : x ≤ f.P) (hy : 0 ≤ y) (hy2 : y < f.P) (hk : 0 ≤ k) : supV f (x + k * f.P + y) ≤ max0 (x - (f.P - f.B)) + k * f.B + max0 (y - (f.P - f.B)) := by
  have hf' := hf
  unfold faceP at hf'
  have b1 := max0_b (x - (f.P - f.B))
  have b2 := max0_b (y - (f.P - f.B))
  have hkB : 0 ≤ k * f.B := Int.mul_nonneg hk (by omega)
  have hkP : 0 ≤ k * f.P := Int.mul_nonneg hk (by omega)
  by_cases c1 : x + y < f.P - f.B
  · by_cases c0 : k = 0
    · subst c0
      rw [supV_low (by rw [Int.zero_mul]; omega)]
      omega
    · have e : x + k * f.P + y = (f.P - f.B) + (k - 1) * f.P + (x + y - (f.P - f.B) + f.P) := by rw [Int.sub_mul]; omega
      have h1 : (k - 1) * f.B = k * f.B - f.B := by rw [Int.sub_mul, Int.one_mul]
      rw [supV_qr hf e (by omega) (by omega) (by omega), h1]
      have b3 := max0_b (x + y - (f.P - f.B) + f.P - (f.P - f.B))
      omega
  by_cases c2 : x + y < f.P - f.B + f.P
  · have e : x + k * f.P + y = (f.P - f.B) + k * f.P + (x + y - (f.P - f.B)) := by omega
    rw [supV_qr hf e (by omega) (by omega) (by omega)]
    have b3 := max0_b (x + y - (f.P - f.B) - (f.P - f.B))
    omega
  · have e : x + k * f.P + y = (f.P - f.B) + (k + 1) * f.P + (x + y - (f.P - f.B) - f.P) := by rw [Int.add_mul]; omega
    have h1 : (k + 1) * f.B = k * f.B + f.B := by rw [Int.add_mul, Int.one_mul]
    rw [supV_qr hf e (by omega) (by omega) (by omega), h1]
    have b3 := max0_b (x + y - (f.P - f.B) - f.P - (f.P - f.B))
    omega
theorem window {f : Face} (hf : faceP f) {P B : Nat} (hP : f.P = (P : Int)) (hB : f.B = (B : Int)) {g : Nat → Bool} {K : Nat} (hl : legalN P B g (K * P)) (a n : Nat) (h : a + n ≤ K * P) : supV f (n : Int) ≤ (gcnt g a n : Int) := by
  have hf' := hf
  unfold faceP at hf'
  have hP0 : 0 < P := by omega
  have hBP : B ≤ P := by omega
  obtain ⟨q, x', ea, hx'⟩ : ∃ q x', a = q * P + x' ∧ x' < P := ⟨a / P, a % P, by rw [Nat.mul_comm]; exact (Nat.div_add_mod a P).symm, Nat.mod_lt _ hP0⟩
  have up : ∀ q r : Nat, 0 < r → q * P + r ≤ K * P → (q + 1) * P ≤ K * P := by
    intro q r hr hq
    refine Nat.mul_le_mul_right P ?_
    refine Nat.lt_of_mul_lt_mul_right (a := P) ?_
    omega
  by_cases c : x' + n ≤ P
  · have hs := sup_split hf (x := (n : Int)) (y := 0) (k := 0) (by omega) (by omega) (Int.le_refl _) (by omega) (Int.le_refl _)
    rw [Int.zero_mul, Int.add_zero, Int.add_zero, Int.zero_mul, Int.add_zero] at hs
    have b1 := max0_b ((n : Int) - (f.P - f.B))
    have b2 := max0_b ((0 : Int) - (f.P - f.B))
    by_cases hn : n = 0
    · subst hn; omega
    have := gcnt_in hl q x' n (up q (x' + n) (by omega) (by omega)) c
    rw [ea]
    omega
  obtain ⟨k, y, en, hy⟩ : ∃ k y, n = (P - x') + (k * P + y) ∧ y < P := ⟨(n - (P - x')) / P, (n - (P - x')) % P, by
    have := Nat.div_add_mod (n - (P - x')) P
    rw [Nat.mul_comm] at this; omega, Nat.mod_lt _ hP0⟩
  have hq1 : (q + 1) * P = q * P + P := Nat.succ_mul _ _
  have hqk : (q + 1 + k) * P = q * P + P + k * P := by rw [Nat.add_mul, hq1]
  have hs := sup_split hf (x := ((P - x' : Nat) : Int)) (y := (y : Int)) (k := (k : Int)) (by omega) (by omega) (by omega) (by omega) (by omega)
  have e1 : ((P - x' : Nat) : Int) + (k : Int) * f.P + (y : Int) = (n : Int) := by
    rw [hP, en]; simp only [Int.natCast_add, Int.natCast_mul]; omega
  rw [e1] at hs
  have h1 := gcnt_in hl q x' (P - x') (up q x'.succ (by omega) (by omega)) (by omega)
  have h2 := gcnt_full hl (q + 1) k (by omega)
  have h3 : y + B ≤ gcnt g ((q + 1 + k) * P) y + P := by
    by_cases hy0 : y = 0
    · omega
    · have := gcnt_in hl (q + 1 + k) 0 y (up (q + 1 + k) y (by omega) (by omega)) (by omega)
      rwa [Nat.add_zero] at this
  have e2 : gcnt g a n = gcnt g (q * P + x') (P - x') + (gcnt g ((q + 1) * P) (k * P) + gcnt g ((q + 1 + k) * P) y) := by
    rw [en, ea, gcnt_add, gcnt_add, show q * P + x' + (P - x') = (q + 1) * P by omega, ← Nat.add_mul]
  have hkB : ((k * B : Nat) : Int) = (k : Int) * f.B := by rw [hB, Int.natCast_mul]
  have b1 := max0_b (((P - x' : Nat) : Int) - (f.P - f.B))
  have b2 := max0_b ((y : Int) - (f.P - f.B))
  rw [e2]
  omega

/-! The same, by what was given. -/
def hadN (o : List Int) (i : Int) (s : Nat) : Nat := (o.drop s).count i
theorem div_same {P t : Nat} (hP : 1 ≤ P) (ht : 0 < t) (h : ¬ P ∣ t) : (t - 1) / P = t / P := by
  have h1 := Nat.div_add_mod t P
  have h2 : t % P ≠ 0 := fun e => h (Nat.dvd_of_mod_eq_zero e)
  have h3 := Nat.mod_lt t hP
  refine Nat.div_eq_of_lt_le ?_ ?_
  · rw [Nat.mul_comm]; omega
  · rw [Nat.succ_mul, Nat.mul_comm]; omega
theorem hadN_snoc {o : List Int} {r i : Int} {s : Nat} (hs : s ≤ o.length) : hadN (o ++ [r]) i s = hadN o i s + (if r = i then 1 else 0) := by
  unfold hadN
  rw [List.drop_append_of_le_length hs, List.count_append, List.count_singleton]
  congr 1
  by_cases e : r = i
  · rw [if_pos e, if_pos (by rw [e]; exact beq_self_eq_true _)]
  · rw [if_neg e, if_neg (by rw [beq_iff_eq]; exact e)]
theorem wv_dec {w : List Int} {r : Int} {t k : Nat} {l : List Face} (hn : isNext l w t l.length r) (hw : w.length = l.length) (i : Nat) : wv (dec w r) i = wv w i - (if r = (i : Int) then 1 else 0) := by
  unfold dec
  rcases hn with ⟨rfl, _⟩ | ⟨j, f, hj, rfl, _⟩
  · rw [if_pos rfl, if_neg (by omega)]; omega
  · rw [if_neg (by omega), Int.toNat_natCast, wv_set (by omega)]
    by_cases e : i = j
    · subst e; rw [if_pos rfl, if_pos rfl]
    · rw [if_neg e, if_neg (by omega)]; omega
theorem LayR.wants {l : List Face} (hl : facesP l) {t : Nat} {o w : List Int} (h : LayR l t o w) : (t = 0 → ∀ i, wv w i = 0) ∧ (0 < t → ∀ (i : Nat) (f : Face), l[i]? = some f → wv w i = f.B - ((hadN o (i : Int) ((t - 1) / f.P.toNat * f.P.toNat) : Nat) : Int)) ∧ ∀ (i : Nat) (f : Face), l[i]? = some f → wv (begun l w t) i = f.B - ((hadN o (i : Int) (t / f.P.toNat * f.P.toNat) : Nat) : Int) := by
  have fin : ∀ {t : Nat} {o w : List Int}, LayR l t o w → ((t = 0 → ∀ i, wv w i = 0) ∧ (0 < t → ∀ (i : Nat) (f : Face), l[i]? = some f → wv w i = f.B - ((hadN o (i : Int) ((t - 1) / f.P.toNat * f.P.toNat) : Nat) : Int))) → ∀ (i : Nat) (f : Face), l[i]? = some f → wv (begun l w t) i = f.B - ((hadN o (i : Int) (t / f.P.toNat * f.P.toNat) : Nat) : Int) := by
    intro t o w h ih i f hf
    have hp := (hl.1 f (List.mem_of_getElem? hf)).P
    rw [begun_at hf]
    by_cases cd : f.P.toNat ∣ t
    · rw [if_pos cd, Nat.div_mul_cancel cd]
      unfold hadN
      rw [List.drop_eq_nil_of_le (by rw [(h.ok hl).1]; exact Nat.le_refl _)]
      simp
    · rw [if_neg cd]
      have ht : 0 < t := Nat.pos_of_ne_zero fun e => cd (by rw [e]; exact Nat.dvd_zero _)
      rw [ih.2 ht i f hf, div_same (by omega) ht cd]
  have main : (t = 0 → ∀ i, wv w i = 0) ∧ (0 < t → ∀ (i : Nat) (f : Face), l[i]? = some f → wv w i = f.B - ((hadN o (i : Int) ((t - 1) / f.P.toNat * f.P.toNat) : Nat) : Int)) := by
    induction h with
    | zero =>
      refine ⟨fun _ i => ?_, fun h => by omega⟩
      unfold wv
      rw [List.getElem?_replicate]
      split <;> rfl
    | step h hd hn ih =>
      rename_i t out w r
      refine ⟨fun h => by omega, fun _ i f hf => ?_⟩
      have hol := (h.ok hl).1
      have hle : t / f.P.toNat * f.P.toNat ≤ t := Nat.div_mul_le_self _ _
      rw [wv_dec (t := t) (k := 0) hn (begun_len _ _ _), fin h ih i f hf, Nat.add_sub_cancel, hadN_snoc (by omega)]
      split <;> omega
  exact ⟨main.1, main.2, fin h main⟩
/-- Who is next, downward. -/
structure dnI (l : List Face) (u : List Int) (t k : Nat) (who : Int) : Prop where
  n : (who = -1 ∧ ∀ i, k ≤ i → i < l.length → wv u i ≤ 0) ∨ ∃ (i : Nat) (f : Face), k ≤ i ∧ i < l.length ∧ who = (i : Int) ∧ l[i]? = some f ∧ 0 < wv u i ∧ ∀ (j : Nat) (g : Face), k ≤ j → l[j]? = some g → 0 < wv u j → byV f t < byV g t ∨ (byV f t = byV g t ∧ i ≤ j)
theorem dnI.end {l : List Face} {u : List Int} {t : Nat} {who : Int} (h : dnI l u t 0 who) : isNext l u t l.length who := by
  rcases h.n with ⟨rfl, a⟩ | ⟨i, f, _, hi, rfl, hf, hw, a⟩
  · exact .inl ⟨rfl, fun i hi => a i (Nat.zero_le _) hi⟩
  · exact .inr ⟨i, f, hi, rfl, hf, hw, fun j g _ hg hwj => a j g (Nat.zero_le _) hg hwj⟩
theorem dnI.keep {l : List Face} {u : List Int} {t k : Nat} {who : Int} (h : dnI l u t (k + 1) who) (hk : k < l.length) (hc : ¬ 0 < wv u k ∨ ∃ (i : Nat) (f : Face), who = (i : Int) ∧ l[i]? = some f ∧ byV f t < byV l[k] t) : dnI l u t k who := by
  have hfk : l[k]? = some l[k] := List.getElem?_eq_getElem hk
  refine ⟨?_⟩
  rcases h.n with ⟨rfl, a⟩ | ⟨i, f, hi, hil, rfl, hf, hw, a⟩
  · refine .inl ⟨rfl, fun i hi hil => ?_⟩
    by_cases e : i = k
    · subst e
      rcases hc with hc | ⟨j, f, hj, _⟩
      · exact Int.not_lt.1 hc
      · omega
    · exact a i (by omega) hil
  · refine .inr ⟨i, f, by omega, hil, rfl, hf, hw, fun j g hj hg hwj => ?_⟩
    by_cases e : j = k
    · subst e
      rw [hfk] at hg; cases hg
      rcases hc with hc | ⟨i', f', hi', hf', hlt⟩
      · exact absurd hwj hc
      · have : i' = i := by omega
        subst this
        rw [hf] at hf'; cases hf'
        exact .inl hlt
    · exact a j g (by omega) hg hwj
theorem dnI.take {l : List Face} {u : List Int} {t k : Nat} {who : Int} (h : dnI l u t (k + 1) who) (hk : k < l.length) (hw : 0 < wv u k) (hc : who = -1 ∨ ∃ (i : Nat) (f : Face), who = (i : Int) ∧ l[i]? = some f ∧ byV l[k] t ≤ byV f t) : dnI l u t k (k : Int) := by
  have hfk : l[k]? = some l[k] := List.getElem?_eq_getElem hk
  refine ⟨.inr ⟨k, l[k], Nat.le_refl _, hk, rfl, hfk, hw, fun j g hj hg hwj => ?_⟩⟩
  by_cases e : j = k
  · subst e; rw [hfk] at hg; cases hg; exact .inr ⟨rfl, Nat.le_refl _⟩
  · rcases h.n with ⟨rfl, a⟩ | ⟨i, f, hi, hil, rfl, hf, hw', a⟩
    · have := a j (by omega) (List.getElem?_eq_some_iff.1 hg).1; omega
    · have h1 := a j g (by omega) hg hwj
      rcases hc with hc | ⟨i', f', hi', hf', hle⟩
      · omega
      · have : i' = i := by omega
        subst this
        rw [hf] at hf'; cases hf'
        omega
/-! Sums over places. -/
def sumN (g : Nat → Int) : Nat → Int
  | 0 => 0
  | n + 1 => sumN g n + g n
theorem sumN_le {g h : Nat → Int} : ∀ n, (∀ i, i < n → g i ≤ h i) → sumN g n ≤ sumN h n
  | 0, _ => Int.le_refl _
  | n + 1, H => by
    have a := sumN_le n fun i hi => H i (by omega)
    have b := H n (by omega)
    show sumN g n + g n ≤ sumN h n + h n
    omega
theorem sumN_eq {g h : Nat → Int} (n : Nat) (H : ∀ i, i < n → g i = h i) : sumN g n = sumN h n :=
  Int.le_antisymm (sumN_le n fun i hi => Int.le_of_eq (H i hi)) (sumN_le n fun i hi => Int.le_of_eq (H i hi).symm)
theorem sumN_dec {g h : Nat → Int} {j : Nat} : ∀ n, j < n → (∀ i, i < n → i ≠ j → h i = g i) → h j = g j - 1 → sumN h n = sumN g n - 1
  | 0, hj, _, _ => by omega
  | n + 1, hj, hne, he => by
    show sumN h n + h n = sumN g n + g n - 1
    by_cases e : j = n
    · subst e
      rw [sumN_eq j fun i hi => hne i (by omega) (by omega), he]; omega
    · rw [sumN_dec n (by omega) (fun i hi => hne i (by omega)) he, hne n (by omega) (fun h => e h.symm)]; omega
/-! Whom the table is laid for. -/
def fB (l : List Face) (i : Nat) : Int := match l[i]? with | some f => f.B | none => 0
def fP (l : List Face) (i : Nat) : Nat := match l[i]? with | some f => f.P.toNat | none => 1
theorem fB_at {l : List Face} {i : Nat} {f : Face} (h : l[i]? = some f) : fB l i = f.B := by unfold fB; rw [h]
theorem fP_at {l : List Face} {i : Nat} {f : Face} (h : l[i]? = some f) : fP l i = f.P.toNat := by unfold fP; rw [h]
theorem fPB {l : List Face} (hl : facesP l) {i : Nat} (hi : i < l.length) : 1 ≤ fP l i ∧ fP l i ≤ 200 ∧ 1 ≤ fB l i ∧ fB l i ≤ 200 := by
  have h := List.getElem?_eq_getElem hi
  have := (hl.1 _ (List.getElem_mem hi)).P
  rw [fB_at h, fP_at h]; omega
theorem begun_v {l : List Face} {w : List Int} {t i : Nat} (hi : i < l.length) : wv (begun l w t) i = if fP l i ∣ t then fB l i else wv w i := by
  have h := List.getElem?_eq_getElem hi
  rw [begun_at h, fB_at h, fP_at h]
def utilP (l : List Face) : Prop := ∀ x : Nat, sumN (fun i => fB l i * ((x / fP l i : Nat) : Int)) l.length ≤ (x : Int)
/-- What must still be given up to 'd', of what began, and what will. -/
def termQ (l : List Face) (w : List Int) (t d i : Nat) : Int := (if (t / fP l i + 1) * fP l i ≤ d then wv w i else 0) + fB l i * ((d / fP l i - (t / fP l i + 1) : Nat) : Int)
theorem mul_int_succ (B : Int) (a : Nat) : B * ((a + 1 : Nat) : Int) = B + B * (a : Int) := by rw [Int.natCast_add, Int.mul_add]; show B * a + B * 1 = _; omega
theorem termQ_first {l : List Face} (hl : facesP l) (w : List Int) (d : Nat) {i : Nat} (hi : i < l.length) : termQ l (begun l w 0) 0 d i = fB l i * ((d / fP l i : Nat) : Int) := by
  obtain ⟨p1, _⟩ := fPB hl hi
  unfold termQ
  rw [begun_v hi, if_pos (Nat.dvd_zero _), Nat.zero_div, Nat.zero_add, Nat.one_mul]
  by_cases c : fP l i ≤ d
  · rw [if_pos c]
    have h1 : 1 ≤ d / fP l i := (Nat.le_div_iff_mul_le p1).2 (by omega)
    have : d / fP l i = (d / fP l i - 1) + 1 := by omega
    conv => rhs; rw [this]
    rw [mul_int_succ]
  · rw [if_neg c, Nat.div_eq_of_lt (by omega)]; simp
theorem termQ_next {l : List Face} (hl : facesP l) {w : List Int} {t d i : Nat} (hi : i < l.length) (h0 : ∀ i, 0 ≤ wv w i) (hd : ¬ denyP l w (t + 1)) : termQ l (begun l w (t + 1)) (t + 1) d i = termQ l w t d i := by
  obtain ⟨p1, _⟩ := fPB hl hi
  have hf := List.getElem?_eq_getElem hi
  unfold termQ
  rw [begun_v hi]
  have hdm := Nat.div_add_mod t (fP l i)
  have hml := Nat.mod_lt t (show fP l i > 0 by omega)
  by_cases c : fP l i ∣ t + 1
  · have hw : wv w i = 0 := by
      have h := h0 i
      have : ¬ 0 < wv w i := fun g => hd ⟨i, _, hf, by rw [← fP_at hf]; exact c, g⟩
      omega
    have e : (t + 1) / fP l i = t / fP l i + 1 := by
      obtain ⟨q, hq⟩ := c
      have h1 : t / fP l i < q := (Nat.div_lt_iff_lt_mul p1).2 (by rw [Nat.mul_comm]; omega)
      have h2 : q ≤ t / fP l i + 1 := by
        have : q - 1 ≤ t / fP l i := (Nat.le_div_iff_mul_le p1).2 (by rw [Nat.mul_comm, Nat.mul_sub, ← hq]; omega)
        omega
      rw [hq, Nat.mul_div_cancel_left _ p1]; omega
    rw [if_pos c, hw, e]
    have hz : (if (t / fP l i + 1) * fP l i ≤ d then (0 : Int) else 0) = 0 := by split <;> rfl
    rw [hz]
    by_cases cd : (t / fP l i + 1 + 1) * fP l i ≤ d
    · rw [if_pos cd]
      have h1 : t / fP l i + 1 + 1 ≤ d / fP l i := (Nat.le_div_iff_mul_le p1).2 cd
      have e2 : d / fP l i - (t / fP l i + 1) = (d / fP l i - (t / fP l i + 1 + 1)) + 1 := by omega
      rw [e2, mul_int_succ]; omega
    · rw [if_neg cd]
      have h1 : ¬ t / fP l i + 1 + 1 ≤ d / fP l i := fun h => cd ((Nat.le_div_iff_mul_le p1).1 h)
      rw [show d / fP l i - (t / fP l i + 1 + 1) = 0 by omega, show d / fP l i - (t / fP l i + 1) = 0 by omega]
  · rw [if_neg c]
    have e : (t + 1) / fP l i = t / fP l i := by
      have h1 : t % fP l i + 1 < fP l i := by
        rcases Nat.lt_or_ge (t % fP l i + 1) (fP l i) with h | h
        · exact h
        · exact absurd ⟨t / fP l i + 1, by rw [Nat.mul_add, Nat.mul_one]; omega⟩ c
      refine (Nat.div_eq_of_lt_le ?_ ?_)
      · rw [Nat.mul_comm]; omega
      · rw [Nat.add_mul, Nat.one_mul, Nat.mul_comm]; omega
    rw [e]
theorem sub_div_le {P d t : Nat} (hP : 1 ≤ P) : d / P - (t / P + 1) ≤ (d - (t + 1)) / P := by
  have hdm := Nat.div_add_mod t P
  have hml := Nat.mod_lt t (show P > 0 by omega)
  by_cases c : t / P + 1 ≤ d / P
  · refine (Nat.le_div_iff_mul_le hP).2 ?_
    have h2 := Nat.div_mul_le_self d P
    have h3 : t + 1 ≤ (t / P + 1) * P := by rw [Nat.add_mul, Nat.one_mul, Nat.mul_comm]; omega
    rw [Nat.sub_mul]; omega
  · rw [show d / P - (t / P + 1) = 0 by omega]; exact Nat.zero_le _
theorem step_K {l : List Face} (hl : facesP l) (hU : utilP l) {u : List Int} {t : Nat} {r : Int} (hu : u.length = l.length) (h0 : ∀ i, 0 ≤ wv u i) (hK : ∀ d, t ≤ d → sumN (termQ l u t d) l.length ≤ (d : Int) - t) (hn : isNext l u t l.length r) : ∀ d, t + 1 ≤ d → sumN (termQ l (dec u r) t d) l.length ≤ (d : Int) - ((t + 1 : Nat) : Int) := by
  intro d hd
  have idle : (∀ i, i < l.length → (if (t / fP l i + 1) * fP l i ≤ d then wv (dec u r) i else 0) ≤ 0) → sumN (termQ l (dec u r) t d) l.length ≤ (d : Int) - ((t + 1 : Nat) : Int) := by
    intro hz
    refine Int.le_trans (sumN_le l.length (h := fun i => fB l i * (((d - (t + 1)) / fP l i : Nat) : Int)) fun i hi => ?_) (Int.le_trans (hU (d - (t + 1))) (by omega))
    obtain ⟨p1, _, b1, _⟩ := fPB hl hi
    have h1 := hz i hi
    have h2 := sub_div_le (d := d) (t := t) p1
    have h3 : fB l i * ((d / fP l i - (t / fP l i + 1) : Nat) : Int) ≤ fB l i * (((d - (t + 1)) / fP l i : Nat) : Int) := Int.mul_le_mul_of_nonneg_left (by omega) (by omega)
    unfold termQ
    omega
  rcases hn with ⟨rfl, a⟩ | ⟨j, f, hj, rfl, hf, hw, a⟩
  · refine idle fun i hi => ?_
    unfold dec
    rw [if_pos rfl]
    have := a i hi
    split <;> omega
  have hfP := fP_at hf
  have hdv : ∀ i, wv (dec u (j : Int)) i = if i = j then wv u j - 1 else wv u i := fun i => by
    unfold dec
    rw [if_neg (by omega), Int.toNat_natCast, wv_set (by rw [hu]; exact hj)]
  by_cases c : (t / fP l j + 1) * fP l j ≤ d
  · have hs : sumN (termQ l (dec u (j : Int)) t d) l.length = sumN (termQ l u t d) l.length - 1 := by
      refine sumN_dec l.length hj (fun i hi ne => ?_) ?_
      · unfold termQ; rw [hdv, if_neg ne]
      · unfold termQ; rw [hdv, if_pos rfl, if_pos c, if_pos c]; omega
    rw [hs]
    have := hK d (by omega)
    omega
  · refine idle fun i hi => ?_
    rw [hdv]
    by_cases ei : i = j
    · subst ei; rw [if_neg c]; exact Int.le_refl _
    rw [if_neg ei]
    split
    · rename_i ci
      have hg := List.getElem?_eq_getElem hi
      have hnw : ¬ 0 < wv u i := fun h => by
        have := a i _ hi hg h
        unfold byV at this
        rw [← hfP, ← fP_at hg] at this
        omega
      omega
    · exact Int.le_refl _
theorem LayR.K {l : List Face} (hl : facesP l) (hU : utilP l) {t : Nat} {o w : List Int} (h : LayR l t o w) : ∀ s, t = s + 1 → ∀ d, s + 1 ≤ d → sumN (termQ l w s d) l.length ≤ (d : Int) - ((s + 1 : Nat) : Int) := by
  induction h with
  | zero => intro s hs; omega
  | step h hd hn ih =>
    rename_i t out w r
    intro s hs
    obtain rfl : t = s := by omega
    obtain ⟨k1, k2, k3, _⟩ := h.ok hl
    have hb0 : ∀ i, 0 ≤ wv (begun l w t) i := fun i => by
      cases hf : l[i]? with
      | some f =>
        rw [begun_at hf]
        have := (hl.1 f (List.mem_of_getElem? hf)).P
        have := k3 i
        split <;> omega
      | none =>
        have : (begun l w t)[i]? = none := List.getElem?_eq_none (by rw [begun_len]; exact List.getElem?_eq_none_iff.1 hf)
        unfold wv; rw [this]; exact Int.le_refl _
    refine step_K hl hU (begun_len _ _ _) hb0 ?_ hn
    intro d hdt
    cases t with
    | zero =>
      rw [sumN_eq l.length fun i hi => termQ_first hl w d hi]
      have := hU d
      omega
    | succ s' =>
      rw [sumN_eq l.length fun i hi => termQ_next hl hi (fun i => (k3 i).1) hd]
      exact ih s' rfl d hdt
/-! What is given. -/
end Go.Proofs.YtpephpefjddgcaaGreat
namespace Go.Proofs.YtpephpefjddgcaaGreat
open Go Go.VC
theorem patP.rows {l : List Task} {a : List (List Int)} (h : patP l a) : ∀ r ∈ a, r.length ≤ 1000 := by
  intro r hr
  obtain ⟨i, hi, rfl⟩ := List.getElem_of_mem hr
  exact (h.2.2 i hi (by have := h.2.1; omega)).1
theorem demand_Of_eq (l : List Task) (a : List (List Int)) (s e : Int) (hl : l.length ≤ 4611686018427387904) (hla : a.length ≤ 4611686018427387904) : demand_Of l a s e = some (if patP l a then ofV s e l a else 0, if patP l a then 0 else 1) := by
  unfold demand_Of
  rw [bnd_eq (demand_Legal_eq l a hl hla)]
  by_cases hp : patP l a
  rotate_left
  · rw [decide_eq_false hp, Bool.not_false, fk_t, if_neg hp, if_neg hp]
  rw [decide_eq_true hp, Bool.not_true, fk_f, if_pos hp, if_pos hp]
  simp only [jn_eq]
  have hn := hp.2.1
  have h8 := hp.1.2
  refine lp_upS a.length (by unfold FU; omega) (fun k w => w = ofV s e (l.take k) (a.take k)) 0 (by simp [ofV]) ?_
  rintro nx k w hk rfl hnx
  simp only
  rw [lt_nat]
  by_cases h : k < a.length
  rotate_left
  · rw [decide_eq_false h, fk_f]
    have : k = a.length := by omega
    subst this
    rw [List.take_length, hn, List.take_length]
  have h' : k < l.length := by omega
  rw [decide_eq_true h, fk_t, ix_lt h]
  simp only [ix_lt h']
  have hr := hp.1.1 _ (List.getElem_mem h')
  have hc := hr.c
  obtain ⟨hr1, hr2⟩ := hp.2.2 k h h'
  have hS := ofV_succ s e l a hn k h'
  have hb := ofV_b (s := s) (e := e) (l := l.take k) (a := a.take k) (fun t ht => hp.1.1 t (List.mem_of_mem_take ht)) (fun t ht => hp.rows t (List.mem_of_mem_take ht))
  have hb2 : ((l.take k).length : Int) ≤ 8 := by rw [List.length_take]; omega
  generalize ofV s e (l.take k) (a.take k) = A at *
  refine lp_upS a[k].length (by unfold FU; omega) (fun j w => w = A + rowV l[k] s e (a[k].take j)) A (by simp [rowV]) ?_
  rintro nx2 j w hj rfl hnx2
  simp only
  rw [lt_nat]
  by_cases h2 : j < a[k].length
  rotate_left
  · rw [decide_eq_false h2, fk_f, wr_succ k _ h (by omega)]
    refine hnx _ h ?_
    have : j = a[k].length := by omega
    subst this
    rw [List.take_length, hS]
  rw [decide_eq_true h2, fk_t, ix_lt h2, wr_succ j _ h2 (by omega)]
  have hv := hr2 j h2
  have hrb := rowV_b (s := s) (e := e) hr (r := a[k].take j) (by rw [List.length_take]; omega)
  have hs := countP_succ (hitP l[k].D s e) a[k] j h2
  have step : rowV l[k] s e (a[k].take (j + 1)) = rowV l[k] s e (a[k].take j) + (if hitP l[k].D s e a[k][j] = true then l[k].C else 0) := by
    unfold rowV
    rw [hs]
    by_cases c : hitP l[k].D s e a[k][j] = true
    · rw [if_pos c, if_pos c, Int.natCast_add, Int.mul_add]; simp
    · rw [if_neg c, if_neg c]; simp
  rw [wr_in (a[k][j] + l[k].D) (by omega)]
  by_cases c1 : a[k][j] ≥ s
  · rw [decide_eq_true c1, fk_t]
    by_cases c2 : a[k][j] + l[k].D ≤ e
    · rw [decide_eq_true c2, fk_t, wr_in _ (by omega)]
      refine hnx2 _ h2 ?_
      rw [step, if_pos (by unfold hitP; rw [decide_eq_true c1, decide_eq_true c2]; rfl)]; omega
    · rw [decide_eq_false c2, fk_f]
      refine hnx2 _ h2 ?_
      rw [step, if_neg (by unfold hitP; rw [decide_eq_false c2]; simp)]; omega
  · rw [decide_eq_false c1, fk_f]
    refine hnx2 _ h2 ?_
    rw [step, if_neg (by unfold hitP; rw [decide_eq_false c1]; simp)]; omega
def great7 (l : List Task) (a : List (List Int)) : Prop := (∃ r ∈ a, 1100 < r.length) ∨ GreatP l ∨ 20 < a.length
instance (l : List Task) (a : List (List Int)) : Decidable (great7 l a) := by unfold great7; infer_instance
theorem cnt_low {t : Task} (ht : RightP t) {s e : Int} {r : List Int} (hr : rowP t.T r) : ∀ k, k ≤ r.length → (r.take k).countP (hitP t.D s e) = 0 ∨ (0 < k ∧ ∃ h : k - 1 < r.length, s + t.T * (((r.take k).countP (hitP t.D s e) : Int) - 1) ≤ r[k - 1] ∧ s + t.T * (((r.take k).countP (hitP t.D s e) : Int) - 1) + t.D ≤ e)
  | 0, _ => .inl (by simp)
  | k + 1, hk => by
    have hc := ht.c
    have h : k < r.length := by omega
    have ih := cnt_low ht (s := s) (e := e) hr k (by omega)
    have hs := countP_succ (hitP t.D s e) r k h
    have hstep := (hr.2 k h).2.2
    by_cases c : hitP t.D s e r[k] = true
    · rw [if_pos c] at hs
      have c1 : s ≤ r[k] ∧ r[k] + t.D ≤ e := by unfold hitP at c; simpa using c
      refine .inr ⟨by omega, by simpa using h, ?_⟩
      rw [hs]
      simp only [Nat.add_sub_cancel]
      rcases ih with ih | ⟨i0, i1, i2, i3⟩
      · rw [ih]; simp; omega
      · have := hstep i0
        generalize List.countP (hitP t.D s e) (r.take k) = n at *
        have e1 : t.T * (((n + 1 : Nat) : Int) - 1) = t.T * ((n : Int) - 1) + t.T := by
          rw [show (((n + 1 : Nat) : Int) - 1) = ((n : Int) - 1) + 1 from by omega, Int.mul_add, Int.mul_one]
        rw [e1]; omega
    · have hs' : (r.take (k + 1)).countP (hitP t.D s e) = (r.take k).countP (hitP t.D s e) := by rw [hs, if_neg c]; rfl
      rw [hs']
      rcases ih with ih | ⟨i0, i1, i2, i3⟩
      · exact .inl ih
      · refine .inr ⟨by omega, by simpa using h, ?_, i3⟩
        have := hstep i0
        simp only [Nat.add_sub_cancel]
        omega
theorem cnt_le {t : Task} (ht : RightP t) {s e : Int} {r : List Int} (hr : rowP t.T r) (hse : s ≤ e) : (r.countP (hitP t.D s e) : Int) ≤ jobsN t (e - s) := by
  have hc := ht.c
  have h := cnt_low ht (s := s) (e := e) hr r.length (Nat.le_refl _)
  rw [List.take_length] at h
  have hj := jobsN_b ht (k := e - s) (by omega)
  rcases h with h | ⟨_, _, _, h⟩
  · rw [h]; simpa using hj.1
  · generalize List.countP (hitP t.D s e) r = n at *
    by_cases z : n = 0
    · subst z; simpa using hj.1
    have h0 := Int.mul_nonneg (a := t.T) (b := (n : Int) - 1) (by omega) (by omega)
    unfold jobsN
    rw [if_neg (by omega)]
    have : (n : Int) - 1 ≤ (e - s - t.D) / t.T := (Int.le_ediv_iff_mul_le (by omega)).2 (by rw [Int.mul_comm]; omega)
    omega
theorem ofV_le {s e : Int} (hse : s ≤ e) : ∀ {l : List Task} {a : List (List Int)}, (∀ t ∈ l, RightP t) → (∀ i (h : i < a.length) (h2 : i < l.length), rowP l[i].T a[i]) → ofV s e l a ≤ sumB l (e - s)
  | [], a, _, _ => by simp [ofV, sumB, sumI]
  | t :: l, [], h1, _ => by
    have := sumI_nonneg (f := costN (e - s)) (l := t :: l) fun x hx => costN_nonneg (h1 x hx) (by omega)
    simp only [ofV]; exact this
  | t :: l, r :: a, h1, h2 => by
    have ht := h1 t List.mem_cons_self
    have := ofV_le hse (l := l) (a := a) (fun t ht => h1 t (List.mem_cons_of_mem _ ht)) (fun i h h' => h2 (i + 1) (by simp; omega) (by simp; omega))
    have hm : rowV t s e r ≤ costN (e - s) t := Int.mul_le_mul_of_nonneg_left (cnt_le ht (h2 0 (by simp) (by simp)) hse) (by have := ht.c; omega)
    simp only [ofV, sumB, sumI] at *; omega

def gOf (gs : List Bool) (i : Nat) : Bool := (gs[i]?).getD false
theorem ref09_Legal_ex (f : Face) (gs : List Bool) (hl : gs.length ≤ 1000000) : ∃ b, ref09_Legal f gs = some b ∧ (b = true → faceP f ∧ legalN f.P.toNat f.B.toNat (gOf gs) (gs.length / f.P.toNat * f.P.toNat)) := by
  unfold ref09_Legal
  rw [bnd_eq (ref09_Right_eq f)]
  by_cases hf : faceP f
  rotate_left
  · exact ⟨false, by rw [decide_eq_false hf, Bool.not_false, fk_t], fun h => by cases h⟩
  have hf' := hf
  unfold faceP at hf'
  rw [decide_eq_true hf, Bool.not_true, fk_f]
  obtain ⟨P, hP⟩ : ∃ P : Nat, f.P = (P : Int) := ⟨f.P.toNat, by omega⟩
  obtain ⟨B, hB⟩ : ∃ B : Nat, f.B = (B : Int) := ⟨f.B.toNat, by omega⟩
  have hP0 : 0 < P := by omega
  refine lp_ex (fun v => gs.length - v.2.toNat) (fun v => ∃ q x : Nat, v = ((gcnt (gOf gs) (q * P) x : Int), ((q * P + x : Nat) : Int)) ∧ x < P ∧ q * P + x ≤ gs.length ∧ ∀ p, p < q → B ≤ gcnt (gOf gs) (p * P) P) (fun b => b = true → faceP f ∧ legalN f.P.toNat f.B.toNat (gOf gs) (gs.length / f.P.toNat * f.P.toNat)) ?_ FU _ ⟨0, 0, by simp [gcnt], hP0, by omega, fun p h => by omega⟩ (by unfold FU; simp only; omega)
  rintro nx v ⟨q, x, rfl, hx, hle, hq⟩ hnx
  dsimp only
  rw [lt_nat]
  by_cases h : q * P + x < gs.length
  rotate_left
  · refine ⟨true, by rw [decide_eq_false h, fk_f], fun _ => ⟨hf, fun p hp => ?_⟩⟩
    rw [hP, hB, Int.toNat_natCast, Int.toNat_natCast] at *
    refine hq p ?_
    have e : gs.length = q * P + x := by omega
    have h2 : gs.length / P = q := by rw [e, Nat.mul_comm, Nat.mul_add_div hP0, Nat.div_eq_of_lt hx]; omega
    rw [h2] at hp
    exact Nat.lt_of_succ_le (Nat.le_of_mul_le_mul_right hp hP0)
  rw [decide_eq_true h, fk_t, jn_eq, jn_eq, ix_lt h]
  have hcl := gcnt_le (gOf gs) (q * P) x
  have hc : gcnt (gOf gs) (q * P) (x + 1) = gcnt (gOf gs) (q * P) x + (if gs[q * P + x] = true then 1 else 0) := by
    show _ + (if gOf gs (q * P + x) = true then 1 else 0) = _
    unfold gOf
    rw [List.getElem?_eq_getElem h]; rfl
  have e1 : fk gs[q * P + x] ((fun w4 : Int => ck (decide (f.P ≠ 0)) (fk (decide ((((q * P + x : Nat) : Int)).tmod f.P = wr (f.P - 1))) (fk (decide (w4 < f.B)) (some false) (nx (0, wr (((q * P + x : Nat) : Int) + 1)))) (nx (w4, wr (((q * P + x : Nat) : Int) + 1))))) (wr ((gcnt (gOf gs) (q * P) x : Int) + 1))) ((fun w4 : Int => ck (decide (f.P ≠ 0)) (fk (decide ((((q * P + x : Nat) : Int)).tmod f.P = wr (f.P - 1))) (fk (decide (w4 < f.B)) (some false) (nx (0, wr (((q * P + x : Nat) : Int) + 1)))) (nx (w4, wr (((q * P + x : Nat) : Int) + 1))))) (gcnt (gOf gs) (q * P) x : Int))
      = ck (decide (f.P ≠ 0)) (fk (decide ((((q * P + x : Nat) : Int)).tmod f.P = wr (f.P - 1))) (fk (decide ((gcnt (gOf gs) (q * P) (x + 1) : Int) < f.B)) (some false) (nx (0, wr (((q * P + x : Nat) : Int) + 1)))) (nx ((gcnt (gOf gs) (q * P) (x + 1) : Int), wr (((q * P + x : Nat) : Int) + 1)))) := by
    rw [hc]
    cases gs[q * P + x] with
    | true => rw [fk_t, wr_in ((gcnt (gOf gs) (q * P) x : Int) + 1) (by omega), if_pos rfl]; rfl
    | false => rw [fk_f, if_neg (by simp)]; rfl
  suffices hh : ∃ b, ck (decide (f.P ≠ 0)) (fk (decide ((((q * P + x : Nat) : Int)).tmod f.P = wr (f.P - 1))) (fk (decide ((gcnt (gOf gs) (q * P) (x + 1) : Int) < f.B)) (some false) (nx (0, wr (((q * P + x : Nat) : Int) + 1)))) (nx ((gcnt (gOf gs) (q * P) (x + 1) : Int), wr (((q * P + x : Nat) : Int) + 1)))) = some b ∧ (b = true → faceP f ∧ legalN f.P.toNat f.B.toNat (gOf gs) (gs.length / f.P.toNat * f.P.toNat)) by
    obtain ⟨b, hb1, hb2⟩ := hh
    exact ⟨b, e1.trans hb1, hb2⟩
  have hm : (((q * P + x : Nat) : Int)).tmod f.P = (x : Int) := by
    rw [hP, Int.tmod_eq_emod_of_nonneg (by omega)]
    have : (q * P + x) % P = x := by rw [Nat.mul_comm, Nat.mul_add_mod, Nat.mod_eq_of_lt hx]
    omega
  rw [ck_t (decide_eq_true (by omega)), hm, wr_in (f.P - 1) (by omega), wr_succ (q * P + x) gs.length h (by omega)]
  by_cases hlast : x + 1 = P
  · rw [decide_eq_true (by omega), fk_t]
    by_cases hb : gcnt (gOf gs) (q * P) (x + 1) < B
    · exact ⟨false, by rw [decide_eq_true (by omega), fk_t], fun h => by cases h⟩
    rw [decide_eq_false (by omega), fk_f]
    refine hnx _ ⟨q + 1, 0, ?_, hP0, ?_, fun p hp => ?_⟩ ?_
    · rw [Nat.succ_mul, Nat.add_zero, Nat.add_assoc, hlast]; rfl
    · rw [Nat.succ_mul]; omega
    · by_cases e : p = q
      · subst e; rw [hlast] at hb; omega
      · exact hq p (by omega)
    · simp only [Int.toNat_natCast]; omega
  · rw [decide_eq_false (by omega), fk_f]
    exact hnx _ ⟨q, x + 1, by rw [Nat.add_assoc], by omega, by omega, hq⟩ (by simp only [Int.toNat_natCast]; omega)

end Go.Proofs.YtpephpefjddgcaaGreat
namespace Go.Proofs.YtpephpefjddgcaaGreat
open Go Go.VC
noncomputable def port_may_1 (a0 : Int) : Option Bool :=
  fk (decide (a0 ≥ (0 : Int))) (some (decide (a0 < (4 : Int)))) (some false)
theorem port_may_1_w (a0 : Int) (r : Bool) (h : port_may_1 a0 = some r) : Go.VC.Spec Tryz.prog 107 [.d (.int .i64 a0)] (fun y => y = E_Bool r) := by
  refine Go.VC.Spec.of_xc (args := [.d (.int .i64 a0)]) (fn := Tryz.f107) tab ⟨[(0, [0]), (1, [2])], [], [], []⟩ 9 [.tmp 2] rfl rfl rfl rfl rfl rfl ?_
  conv => whnf
  refine fkS h (fun h => ?_) (fun h => ?_)
  · conv => whnf
    exact rt (E := E_Bool) h rfl
  conv => whnf
  exact rt (E := E_Bool) h rfl

end Go.Proofs.YtpephpefjddgcaaGreat
namespace Go.Proofs.YtpephpefjddgcaaGreat
open Go Go.VC
noncomputable def port_may (a0 : Port) : Option Bool :=
  bnd (port_may_1 a0.From) fun x1 => fk x1 (bnd (port_may_1 a0.To) fun x2 => fk x2 (fk (!decide (a0.From = a0.To)) (fk (decide (a0.Cap ≥ (1 : Int))) (some (decide (a0.Cap ≤ (4 : Int)))) (some false)) (some false)) (some false)) (some false)
theorem port_may_w (a0 : Port) (r : Bool) (h : port_may a0 = some r) : Go.VC.Spec Tryz.prog 72 [.agg (Port.enc a0)] (fun y => y = E_Bool r) := by
  refine Go.VC.Spec.of_xc (args := [.agg (Port.enc a0)]) (fn := Tryz.f72) tab ⟨[(0, [1]), (1, [1, 3]), (2, [2])], [], [], []⟩ 31 [.tmp 2] rfl rfl rfl rfl rfl rfl ?_
  conv => whnf
  refine caS (E := E_Bool) h (port_may_1_w a0.From) rfl (fun _ => rfl) (fun x1 h => ?_)
  conv => whnf
  refine fkS h (fun h => ?_) (fun h => ?_)
  · conv => whnf
    refine caS (E := E_Bool) h (port_may_1_w a0.To) rfl (fun _ => rfl) (fun x2 h => ?_)
    conv => whnf
    refine fkS h (fun h => ?_) (fun h => ?_)
    · conv => whnf
      refine fkS h (fun h => ?_) (fun h => ?_)
      · conv => whnf
        refine fkS h (fun h => ?_) (fun h => ?_)
        · conv => whnf
          exact rt (E := E_Bool) h rfl
        conv => whnf
        exact rt (E := E_Bool) h rfl
      conv => whnf
      exact rt (E := E_Bool) h rfl
    conv => whnf
    exact rt (E := E_Bool) h rfl
  conv => whnf
  exact rt (E := E_Bool) h rfl

end Go.Proofs.YtpephpefjddgcaaGreat
namespace Go.Proofs.YtpephpefjddgcaaGreat
open Go Go.VC
noncomputable def ring_New (a0 : Int) : Option (RingRing × Int) :=
  jn (fun (w1 : Bool) => fk w1 (some (⟨[], (0 : Int), (0 : Int)⟩, (1 : Int))) (ck (decide ((0 : Int) ≤ a0) && decide (a0 * ((8 : Nat) : Int) ≤ 140737488355328) && decide (a0 ≤ 1000000000000)) (some (⟨List.replicate a0.toNat ((0 : Int) : Int), (0 : Int), (0 : Int)⟩, (0 : Int))))) (fun k1 => fk (decide (a0 < (1 : Int))) (k1 true) (k1 (decide (a0 > (4 : Int)))))
theorem ring_New_w (a0 : Int) (r : RingRing × Int) (h : ring_New a0 = some r) : Go.VC.Spec Tryz.prog 73 [.d (.int .i64 a0)] (fun y => y = E_RingRing_Int r) := by
  refine Go.VC.Spec.of_xc (args := [.d (.int .i64 a0)]) (fn := Tryz.f73) tab ⟨[(0, [0, 2]), (1, [0, 2, 9]), (2, [2, 3]), (3, [2, 3])], [], [100009], []⟩ 14 [.cell 2 155, .tmp 3] rfl rfl rfl rfl rfl rfl ?_
  conv => whnf
  refine jnS (fun w1 => ⟨[(0, .l (.d (.int .i64 a0))), (2, .l (.ptr 3 0)), (9, .l (.d (.bool w1)))], 14, [], [(3, [.nil, .d (.int .i64 (0 : Int)), .d (.int .i64 (0 : Int))])], []⟩) h (fun k1 hk1 h => ?_) (fun w1 h => ?_)
  · conv => whnf
    refine fkS h (fun h => ?_) (fun h => ?_)
    · conv => whnf
      exact jeS hk1 h (Weak.refl _)
    conv => whnf
    exact jeS hk1 h (Weak.refl _)
  conv => whnf
  refine fkS h (fun h => ?_) (fun h => ?_)
  · conv => whnf
    exact rt (E := E_RingRing_Int) h rfl
  conv => whnf
  refine mkS ((0 : Int) : Int) (eI .i64) h rfl rfl (fun h => ?_)
  conv => whnf
  exact rt (E := E_RingRing_Int) h rfl

end Go.Proofs.YtpephpefjddgcaaGreat
namespace Go.Proofs.YtpephpefjddgcaaGreat
open Go Go.VC
noncomputable def port_Open (a0 : List Port) : Option ((List PortLine) × Int) :=
  lp (fun nx1 (v1 : (List PortLine) × Int) => fk (decide (v1.2 < (a0.length : Int))) (ix a0 v1.2 fun x2 => bnd (port_may x2) fun x3 => fk (!x3) (some ([], (1 : Int))) (bnd (ring_New x2.Cap) fun x4 => bnd (ring_New x2.Cap) fun x5 => ck (decide ((v1.1.length + ([⟨x2, x4.1, x5.1⟩] : List PortLine).length) * 104 ≤ 140737488355328)) (nx1 (v1.1 ++ ([⟨x2, x4.1, x5.1⟩] : List PortLine), (wr (v1.2 + (1 : Int))))))) (fk (decide ((v1.1.length : Int) > (4 : Int))) (some ([], (1 : Int))) (some (v1.1, (0 : Int))))) FU ([], (0 : Int))
theorem port_Open_w (a0 : List Port) (r : (List PortLine) × Int) (h : port_Open a0 = some r) : Go.VC.Spec Tryz.prog 51 [.d (.sl (a0.map Port.enc))] (fun y => y = E_ListPortLine_Int r) := by
  refine Go.VC.Spec.of_xc (args := [.d (.sl (a0.map Port.enc))]) (fn := Tryz.f51) tab ⟨[(0, [0]), (1, [0, 4]), (2, [4, 11, 12, 13]), (3, [4, 11, 12, 13, 14]), (4, [4, 6, 11, 12, 13]), (5, [4, 6, 11, 12, 13, 19]), (6, [2, 3]), (7, [4, 6, 7, 11, 12, 13]), (8, [4, 6, 7, 9, 11, 12, 13]), (9, [4, 11, 12, 13]), (10, [4, 11, 12, 13]), (11, [4, 42]), (12, [2, 3]), (13, [2, 3])], [], [], []⟩ 44 [.tmp 2, .tmp 3] rfl rfl rfl rfl rfl rfl ?_
  conv => whnf
  refine lenS a0 Port.enc rfl ?_
  conv => whnf
  refine lpS (fun v1 => ⟨[(4, .l (.own 5)), (11, .l (.d (.sl (a0.map Port.enc)))), (12, .l (.d (.int .i64 (a0.length : Int)))), (13, .l (.d (.int .i64 v1.2)))], 44, [], [], [(5, 159, 9, v1.1.map PortLine.enc)]⟩) h (Weak.trans (Weak.nilO _ 4 5 159 9 rfl) (Weak.refl _)) (fun _ nx1 hn1 v1 h => ?_)
  conv => whnf
  refine fkS h (fun h => ?_) (fun h => ?_)
  · conv => whnf
    refine ixS (enc := Port.enc) h rfl (fun _ => rfl) (fun x2 h => ?_)
    conv => whnf
    refine caS (E := E_Bool) h (port_may_w x2) rfl (fun _ => rfl) (fun x3 h => ?_)
    conv => whnf
    refine fkS h (fun h => ?_) (fun h => ?_)
    · conv => whnf
      exact rt (E := E_ListPortLine_Int) h rfl
    conv => whnf
    refine ccS (E := E_RingRing_Int) h (ring_New_w x2.Cap) rfl rfl (fun x4 h => ?_)
    conv => whnf
    refine ccS (E := E_RingRing_Int) h (ring_New_w x2.Cap) rfl rfl (fun x5 h => ?_)
    conv => whnf
    refine liS ([⟨x2, x4.1, x5.1⟩] : List PortLine) PortLine.enc rfl rfl ?_
    conv => whnf
    refine apS (enc := PortLine.enc) (l1 := v1.1) (l2 := ([⟨x2, x4.1, x5.1⟩] : List PortLine)) h rfl rfl (fun _ => rfl) (fun h => ?_)
    conv => whnf
    exact leS hn1 h (Weak.refl _)
  conv => whnf
  refine lenS v1.1 PortLine.enc rfl ?_
  conv => whnf
  refine fkS h (fun h => ?_) (fun h => ?_)
  · conv => whnf
    exact rt (E := E_ListPortLine_Int) h rfl
  conv => whnf
  exact rt (E := E_ListPortLine_Int) h rfl

end Go.Proofs.YtpephpefjddgcaaGreat
namespace Go.Proofs.YtpephpefjddgcaaGreat
open Go Go.VC
noncomputable def image_Right (a0 : Config) : Option Bool :=
  lp (fun nx1 (v1 : Int) => fk (decide (v1 < (a0.Parts.length : Int))) (ix a0.Parts v1 fun x2 => jn (fun (w3 : Bool) => fk w3 (some false) (nx1 (wr (v1 + (1 : Int))))) (fun k3 => bnd (supply_Right x2.Face) fun x4 => fk (!x4) (k3 true) (bnd (task_All x2.Tasks) fun x5 => k3 (!x5)))) (lp (fun nx6 (v6 : Int) => fk (decide (v6 < (a0.Ports.length : Int))) (ix a0.Ports v6 fun x7 => jn (fun (w8 : Bool) => fk w8 (some false) (nx6 (wr (v6 + (1 : Int))))) (fun k8 => fk (decide (x7.From ≥ (a0.Parts.length : Int))) (k8 true) (k8 (decide (x7.To ≥ (a0.Parts.length : Int)))))) (bnd (port_Open a0.Ports) fun x9 => fk (decide (x9.2 = (0 : Int))) (some (decide ((a0.Parts.length : Int) ≤ (4 : Int)))) (some false))) FU (0 : Int))) FU (0 : Int)
theorem image_Right_w (a0 : Config) (r : Bool) (h : image_Right a0 = some r) : Go.VC.Spec Tryz.prog 49 [.agg (Config.enc a0)] (fun y => y = E_Bool r) := by
  refine Go.VC.Spec.of_xc (args := [.agg (Config.enc a0)]) (fn := Tryz.f49) tab ⟨[(0, [1]), (1, [1, 10, 11, 12]), (2, [1, 10, 11, 12, 13]), (3, [1, 4, 10, 11, 12]), (4, [1, 10, 11, 12, 25]), (5, [2]), (6, [1, 10, 11, 12]), (7, [1, 28, 29, 30]), (8, [1, 28, 29, 30, 31]), (9, [1, 6, 28, 29, 30]), (10, [1, 28, 29, 30, 47]), (11, [2]), (12, [1, 28, 29, 30]), (13, [1, 8]), (14, [2])], [], [100025, 100047], []⟩ 63 [.tmp 2] rfl rfl rfl rfl rfl rfl ?_
  conv => whnf
  refine lenS a0.Parts Part.enc rfl ?_
  conv => whnf
  refine lpS (fun v1 => ⟨[(1, .l (.ptr 2 0)), (10, .l (.d (.sl (a0.Parts.map Part.enc)))), (11, .l (.d (.int .i64 (a0.Parts.length : Int)))), (12, .l (.d (.int .i64 v1)))], 63, [], [(2, [.d (.sl (a0.Parts.map Part.enc)), .d (.sl (a0.Ports.map Port.enc))])], []⟩) h (Weak.refl _) (fun _ nx1 hn1 v1 h => ?_)
  conv => whnf
  refine fkS h (fun h => ?_) (fun h => ?_)
  · conv => whnf
    refine ixS (enc := Part.enc) h rfl (fun _ => rfl) (fun x2 h => ?_)
    conv => whnf
    refine jnS (fun w3 => ⟨[(1, .l (.ptr 2 0)), (10, .l (.d (.sl (a0.Parts.map Part.enc)))), (11, .l (.d (.int .i64 (a0.Parts.length : Int)))), (12, .l (.d (.int .i64 v1))), (25, .l (.d (.bool w3)))], 63, [], [(2, [.d (.sl (a0.Parts.map Part.enc)), .d (.sl (a0.Ports.map Port.enc))])], []⟩) h (fun k3 hk3 h => ?_) (fun w3 h => ?_)
    · conv => whnf
      refine caS (E := E_Bool) h (supply_Right_w x2.Face) rfl (fun _ => rfl) (fun x4 h => ?_)
      conv => whnf
      refine fkS h (fun h => ?_) (fun h => ?_)
      · conv => whnf
        exact jeS hk3 h (Weak.refl _)
      conv => whnf
      refine caS (E := E_Bool) h (task_All_w x2.Tasks) rfl (fun _ => rfl) (fun x5 h => ?_)
      conv => whnf
      exact jeS hk3 h (Weak.refl _)
    conv => whnf
    refine fkS h (fun h => ?_) (fun h => ?_)
    · conv => whnf
      exact rt (E := E_Bool) h rfl
    conv => whnf
    exact leS hn1 h (Weak.refl _)
  conv => whnf
  refine lenS a0.Ports Port.enc rfl ?_
  conv => whnf
  refine lpS (fun v6 => ⟨[(1, .l (.ptr 2 0)), (28, .l (.d (.sl (a0.Ports.map Port.enc)))), (29, .l (.d (.int .i64 (a0.Ports.length : Int)))), (30, .l (.d (.int .i64 v6)))], 63, [], [(2, [.d (.sl (a0.Parts.map Part.enc)), .d (.sl (a0.Ports.map Port.enc))])], []⟩) h (Weak.refl _) (fun _ nx6 hn6 v6 h => ?_)
  conv => whnf
  refine fkS h (fun h => ?_) (fun h => ?_)
  · conv => whnf
    refine ixS (enc := Port.enc) h rfl (fun _ => rfl) (fun x7 h => ?_)
    conv => whnf
    refine jnS (fun w8 => ⟨[(1, .l (.ptr 2 0)), (28, .l (.d (.sl (a0.Ports.map Port.enc)))), (29, .l (.d (.int .i64 (a0.Ports.length : Int)))), (30, .l (.d (.int .i64 v6))), (47, .l (.d (.bool w8)))], 63, [], [(2, [.d (.sl (a0.Parts.map Part.enc)), .d (.sl (a0.Ports.map Port.enc))])], []⟩) h (fun k8 hk8 h => ?_) (fun w8 h => ?_)
    · conv => whnf
      refine lenS a0.Parts Part.enc rfl ?_
      conv => whnf
      refine fkS h (fun h => ?_) (fun h => ?_)
      · conv => whnf
        exact jeS hk8 h (Weak.refl _)
      conv => whnf
      refine lenS a0.Parts Part.enc rfl ?_
      conv => whnf
      exact jeS hk8 h (Weak.refl _)
    conv => whnf
    refine fkS h (fun h => ?_) (fun h => ?_)
    · conv => whnf
      exact rt (E := E_Bool) h rfl
    conv => whnf
    exact leS hn6 h (Weak.refl _)
  conv => whnf
  refine ccS (E := E_ListPortLine_Int) h (port_Open_w a0.Ports) rfl rfl (fun x9 h => ?_)
  conv => whnf
  refine fkS h (fun h => ?_) (fun h => ?_)
  · conv => whnf
    refine lenS a0.Parts Part.enc rfl ?_
    conv => whnf
    exact rt (E := E_Bool) h rfl
  conv => whnf
  exact rt (E := E_Bool) h rfl

end Go.Proofs.YtpephpefjddgcaaGreat
