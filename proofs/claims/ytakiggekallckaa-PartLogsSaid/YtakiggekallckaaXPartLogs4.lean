/- Part 15 of what follows is proved here: what the statement PartLogs needs of functions and plain laws. -/
import Derived.Test.YtakiggekallckaaXPartLogs0
import Derived.Test.YtakiggekallckaaXPartLogs3
set_option linter.unusedVariables false
set_option linter.unusedSimpArgs false
set_option maxRecDepth 100000
set_option maxHeartbeats 4000000
namespace Go.Proofs.Ytakiggekallckaa
open Go Go.VC

/-! ### Tasks -/
def fitsP (a b : Sec) : Prop := a.At + a.Len ≤ b.At ∨ (a.At ≤ b.At ∧ b.At + b.Len ≤ a.At + a.Len ∧ a.Res ≠ b.Res)
def secP (C : Int) (s : Sec) : Prop := 0 ≤ s.Res ∧ s.Res < 4 ∧ 0 ≤ s.At ∧ s.At < C ∧ 1 ≤ s.Len ∧ s.Len ≤ C - s.At
def ownP (t : Task) : Prop := 1 ≤ t.C ∧ t.C ≤ t.D ∧ t.D ≤ t.T ∧ t.T ≤ 200 ∧ t.Secs.length ≤ 4
def RightP (t : Task) : Prop := ownP t ∧ (∀ s ∈ t.Secs, secP t.C s) ∧ t.Secs.Pairwise fitsP
instance (a b : Sec) : Decidable (fitsP a b) := by unfold fitsP; infer_instance
instance (C : Int) (s : Sec) : Decidable (secP C s) := by unfold secP; infer_instance
instance (t : Task) : Decidable (ownP t) := by unfold ownP; infer_instance
instance (t : Task) : Decidable (RightP t) := by unfold RightP; infer_instance
def right (t : Task) : Bool := decide (RightP t)

theorem task_own_eq (t : Task) : task_own t = some (decide (ownP t)) := by
  unfold task_own
  simp only [fk_if, decide_eq_true_eq]
  repeat' split
  · exact dec_iff (by unfold ownP; omega)
  all_goals exact dec_f (by unfold ownP; omega)

theorem task_may_eq (t : Task) (s : Sec) (h : ownP t) : task_may t s = some (decide (secP t.C s)) := by
  unfold ownP at h
  unfold task_may
  simp only [fk_if, decide_eq_true_eq]
  repeat' split
  · rw [wr_in _ (by omega)]
    exact dec_iff (by unfold secP; omega)
  all_goals exact dec_f (by unfold secP; omega)

theorem task_fits_eq (C : Int) (a b : Sec) (hC : C ≤ 200) (ha : secP C a) (hb : secP C b) : task_fits a b = some (decide (fitsP a b)) := by
  unfold secP at ha hb
  unfold task_fits
  rw [wr_in _ (by omega), wr_in _ (by omega)]
  simp only [fk_if, decide_eq_true_eq]
  repeat' split
  · exact dec_t (by unfold fitsP; omega)
  · exact dec_f (by unfold fitsP; omega)
  · exact dec_not (by unfold fitsP; omega)
  · exact dec_f (by unfold fitsP; omega)

theorem task_Right_eq (t : Task) : task_Right t = some (right t) := by
  unfold task_Right
  rw [bnd_eq (task_own_eq t)]
  by_cases ho : ownP t
  rotate_left
  · simp [ho, right, RightP, fk_if]
  simp only [ho, decide_true, Bool.not_true, fk_f]
  have hlen : t.Secs.length ≤ 4 := ho.2.2.2.2
  have hC : t.C ≤ 200 := by unfold ownP at ho; omega
  refine lp_up t.Secs.length (by unfold FU; omega) (fun k => (∀ j (h : j < t.Secs.length), j < k → secP t.C t.Secs[j]) ∧ (∀ i j (hi : i < t.Secs.length) (hj : j < t.Secs.length), i < j → j < k → fitsP t.Secs[i] t.Secs[j])) ⟨fun j _ h => by omega, fun i j _ _ _ h => by omega⟩ ?_
  rintro nx k hk ⟨J1, J2⟩ hnx
  rw [lt_nat]
  by_cases h : k < t.Secs.length
  · rw [decide_eq_true h, fk_t, ix_lt h, bnd_eq (task_may_eq t _ ho)]
    by_cases hs : secP t.C t.Secs[k]
    rotate_left
    · have : right t = false := decide_eq_false fun hr => hs (hr.2.1 _ (List.getElem_mem h))
      simp [hs, this, fk_if]
    simp only [hs, decide_true, Bool.not_true, fk_f]
    rw [ck_t (by simp; omega)]
    have e : (t.Secs.take (k : Int).toNat).drop (0 : Int).toNat = t.Secs.take k := by simp
    rw [e]
    have el : (t.Secs.take k).length = k := by simp; omega
    refine lp_up k (by unfold FU; omega) (fun j => ∀ i (hi : i < t.Secs.length), i < j → fitsP t.Secs[i] t.Secs[k]) (fun i _ h => by omega) ?_
    intro nx2 j hj J3 hnx2
    rw [el, lt_nat]
    by_cases h2 : j < k
    · have hjl : j < t.Secs.length := by omega
      rw [decide_eq_true h2, fk_t, ix_lt (by omega), List.getElem_take, bnd_eq (task_fits_eq t.C _ _ hC (J1 j hjl h2) hs)]
      by_cases hf : fitsP t.Secs[j] t.Secs[k]
      · rw [decide_eq_true hf, fk_t, wr_succ j k h2 (by omega)]
        refine hnx2 h2 fun i hi hij => ?_
        by_cases e : i = j
        · subst e; exact hf
        · exact J3 i hi (by omega)
      · have : right t = false := decide_eq_false fun hr => hf (List.pairwise_iff_getElem.1 hr.2.2 j k hjl h h2)
        rw [decide_eq_false hf, fk_f, this]; rfl
    · have hjk : j = k := by omega
      subst hjk
      rw [decide_eq_false h2, fk_f, wr_succ j _ h (by omega)]
      refine hnx h ⟨fun i hi hij => ?_, fun a b ha hb hab hbj => ?_⟩
      · by_cases e : i = j
        · subst e; exact hs
        · exact J1 i hi (by omega)
      · by_cases e : b = j
        · subst e; exact J3 a ha hab
        · exact J2 a b ha hb hab (by omega)
  · have hk2 : k = t.Secs.length := by omega
    rw [decide_eq_false h, fk_f]
    have : right t = true := decide_eq_true ⟨ho, fun s hs => by
      obtain ⟨j, hj, rfl⟩ := List.getElem_of_mem hs
      exact J1 j hj (by omega), List.pairwise_iff_getElem.2 fun i j hi hj hij => J2 i j hi hj hij (by omega)⟩
    rw [this]
    unfold ownP at ho
    simp; omega


def AllP (l : List Task) : Prop := (∀ t ∈ l, RightP t) ∧ l.length ≤ 8
instance (l : List Task) : Decidable (AllP l) := by unfold AllP; infer_instance
theorem right_t {t : Task} : right t = true ↔ RightP t := decide_eq_true_iff
theorem right_f {t : Task} : right t = false ↔ ¬ RightP t := decide_eq_false_iff_not

theorem task_All_eq (l : List Task) (hl : l.length ≤ 4611686018427387904) : task_All l = some (decide (AllP l)) := by
  unfold task_All
  refine lp_up l.length (by unfold FU; omega) (fun k => ∀ j (h : j < l.length), j < k → RightP l[j]) (fun j _ h => by omega) ?_
  intro nx k hk J hnx
  rw [lt_nat]
  by_cases h : k < l.length
  · rw [decide_eq_true h, fk_t, ix_lt h, bnd_eq (task_Right_eq _)]
    by_cases hr : RightP l[k]
    · rw [right_t.2 hr, Bool.not_true, fk_f, wr_succ k _ h hl]
      refine hnx h fun j hj hjk => ?_
      by_cases e : j = k
      · subst e; exact hr
      · exact J j hj (by omega)
    · rw [right_f.2 hr, Bool.not_false, fk_t]
      exact dec_f fun ha => hr (ha.1 _ (List.getElem_mem h))
  · rw [decide_eq_false h, fk_f]
    refine dec_iff ⟨fun h8 => ⟨fun t ht => ?_, by omega⟩, fun ha => by have := ha.2; omega⟩
    obtain ⟨j, hj, rfl⟩ := List.getElem_of_mem ht
    exact J j hj (by omega)

def holds (had : Int) (s : Sec) : Bool := decide (s.At < had) && decide (had < s.At + s.Len)
def heldL (had : Int) (l : List Sec) : List Int := (l.filter (holds had)).map (·.Res)
def held (t : Task) (had : Int) : List Int := if right t = true then heldL had t.Secs else []
theorem heldL_succ (had : Int) (l : List Sec) (i : Nat) (h : i < l.length) : heldL had (l.take (i + 1)) = heldL had (l.take i) ++ (if holds had l[i] = true then [l[i].Res] else []) := by
  rw [← List.take_append_getElem h, heldL, heldL, List.filter_append, List.map_append]
  congr 1
  by_cases e : holds had l[i] = true
  · rw [if_pos e, List.filter_cons_of_pos e]; rfl
  · rw [if_neg e, List.filter_cons_of_neg e]; rfl
theorem heldL_len (had : Int) (l : List Sec) : (heldL had l).length ≤ l.length := by
  rw [heldL, List.length_map]; exact List.length_filter_le _ _
theorem RightP.sec {t : Task} (h : RightP t) {k : Nat} (hk : k < t.Secs.length) : secP t.C t.Secs[k] := h.2.1 _ (List.getElem_mem hk)
theorem RightP.len {t : Task} (h : RightP t) : t.Secs.length ≤ 4 := h.1.2.2.2.2
theorem RightP.c {t : Task} (h : RightP t) : 1 ≤ t.C ∧ t.C ≤ t.D ∧ t.D ≤ t.T ∧ t.T ≤ 200 := ⟨h.1.1, h.1.2.1, h.1.2.2.1, h.1.2.2.2.1⟩

theorem task_Held_eq (t : Task) (had : Int) : task_Held t had = some (held t had) := by
  unfold task_Held
  rw [bnd_eq (task_Right_eq _)]
  by_cases hr : RightP t
  rotate_left
  · rw [right_f.2 hr, Bool.not_false, fk_t, held, right_f.2 hr]; rfl
  have hl := hr.len
  have hc := hr.c
  rw [right_t.2 hr, Bool.not_true, fk_f]
  refine lp_upS t.Secs.length (by unfold FU; omega) (fun k out => out = heldL had (t.Secs.take k)) [] rfl ?_
  intro nx k out hk J hnx
  subst J
  rw [lt_nat]
  by_cases h : k < t.Secs.length
  · have hs := hr.sec h
    unfold secP at hs
    have hn := fun s' => hnx s' h
    have hlen := heldL_len had (t.Secs.take k)
    rw [List.length_take] at hlen
    rw [decide_eq_true h, fk_t, jn_eq, ix_lt h]
    simp only [jn_eq]
    rw [wr_succ k _ h (by omega), wr_in _ (by omega)]
    simp only [fk_if, decide_eq_true_eq]
    split
    · split
      · rw [ck_t (by simp; omega)]
        refine hn _ ?_
        rw [heldL_succ _ _ _ h, if_pos]
        simp [holds, *]
      · refine hn _ ?_
        rw [heldL_succ _ _ _ h, if_neg, List.append_nil]
        simp [holds, *]
    · rw [if_neg (by simp)]
      refine hn _ ?_
      rw [heldL_succ _ _ _ h, if_neg, List.append_nil]
      simp [holds, *]
  · rw [decide_eq_false h, fk_f, held, right_t.2 hr, if_pos rfl]
    have : k = t.Secs.length := by omega
    rw [this, List.take_length]

def usesP (t : Task) (res : Int) : Prop := RightP t ∧ ∃ s ∈ t.Secs, s.Res = res
instance (t : Task) (res : Int) : Decidable (usesP t res) := by unfold usesP; infer_instance
theorem task_Uses_eq (t : Task) (res : Int) : task_Uses t res = some (decide (usesP t res)) := by
  unfold task_Uses
  rw [bnd_eq (task_Right_eq _)]
  by_cases hr : RightP t
  rotate_left
  · rw [right_f.2 hr, Bool.not_false, fk_t]; exact dec_f fun h => hr h.1
  have hl := hr.len
  rw [right_t.2 hr, Bool.not_true, fk_f]
  refine lp_up t.Secs.length (by unfold FU; omega) (fun k => ∀ j (h : j < t.Secs.length), j < k → t.Secs[j].Res ≠ res) (fun j _ h => by omega) ?_
  intro nx k hk J hnx
  rw [lt_nat]
  by_cases h : k < t.Secs.length
  · rw [decide_eq_true h, fk_t, ix_lt h]
    by_cases e : t.Secs[k].Res = res
    · rw [decide_eq_true e, fk_t]; exact dec_t ⟨hr, _, List.getElem_mem h, e⟩
    · rw [decide_eq_false e, fk_f, wr_succ k _ h (by omega)]
      refine hnx h fun j hj hjk => ?_
      by_cases e2 : j = k
      · subst e2; exact e
      · exact J j hj (by omega)
  · rw [decide_eq_false h, fk_f]
    refine dec_f ?_
    rintro ⟨_, s, hs, e⟩
    obtain ⟨j, hj, rfl⟩ := List.getElem_of_mem hs
    exact J j hj (by omega) e


theorem ref05_Right_eq (t : Task) (hlt : t.Secs.length ≤ 4611686018427387904) : ref05_Right t = some (right t) := by
  unfold ref05_Right
  simp only [jn_eq, fk_t, fk_f]
  by_cases ho : ownP t
  rotate_left
  · have hr : right t = false := right_f.2 fun h => ho h.1
    by_cases c0 : t.C < 1
    · rw [decide_eq_true c0, fk_t, hr]
    rw [decide_eq_false c0, fk_f]
    by_cases c1 : t.D < t.C
    · rw [decide_eq_true c1, fk_t, hr]
    rw [decide_eq_false c1, fk_f]
    by_cases c2 : t.T < t.D
    · rw [decide_eq_true c2, fk_t, hr]
    rw [decide_eq_false c2, fk_f]
    by_cases c3 : t.T > 200
    · rw [decide_eq_true c3, fk_t, hr]
    rw [decide_eq_false c3, fk_f]
    by_cases c4 : (t.Secs.length : Int) > 4
    · rw [decide_eq_true c4, fk_t, hr]
    rw [decide_eq_false c4, fk_f]
    exact absurd (by unfold ownP; omega) ho
  have ho' := ho
  unfold ownP at ho'
  rw [decide_eq_false (by omega), fk_f, decide_eq_false (by omega), fk_f, decide_eq_false (by omega), fk_f, decide_eq_false (by omega), fk_f, decide_eq_false (by omega), fk_f]
  refine lp_up t.Secs.length (by unfold FU; omega) (fun k => (∀ j (h : j < t.Secs.length), j < k → secP t.C t.Secs[j]) ∧ (∀ i j (hi : i < t.Secs.length) (hj : j < t.Secs.length), i < j → j < k → fitsP t.Secs[i] t.Secs[j])) ⟨fun j _ h => by omega, fun i j _ _ _ h => by omega⟩ ?_
  rintro nx k hk ⟨J1, J2⟩ hnx
  rw [lt_nat]
  by_cases h : k < t.Secs.length
  rotate_left
  · rw [decide_eq_false h, fk_f]
    have : right t = true := right_t.2 ⟨ho, fun s hs => by
      obtain ⟨j, hj, rfl⟩ := List.getElem_of_mem hs
      exact J1 j hj (by omega), List.pairwise_iff_getElem.2 fun i j hi hj hij => J2 i j hi hj hij (by omega)⟩
    rw [this]
  rw [decide_eq_true h, fk_t, ix_lt h]
  have hn := hnx h
  clear hnx
  generalize hs : t.Secs[k] = s at *
  by_cases hsec : secP t.C s
  rotate_left
  · have hr : right t = false := right_f.2 fun hr => hsec (hs ▸ hr.2.1 _ (List.getElem_mem h))
    by_cases c0 : s.Res < 0
    · rw [decide_eq_true c0, fk_t, hr]
    rw [decide_eq_false c0, fk_f]
    by_cases c1 : s.Res > 3
    · rw [decide_eq_true c1, fk_t, hr]
    rw [decide_eq_false c1, fk_f]
    by_cases c2 : s.At < 0
    · rw [decide_eq_true c2, fk_t, hr]
    rw [decide_eq_false c2, fk_f]
    by_cases c3 : s.Len < 1
    · rw [decide_eq_true c3, fk_t, hr]
    rw [decide_eq_false c3, fk_f]
    by_cases c4 : s.At > t.C
    · rw [decide_eq_true c4, fk_t, hr]
    rw [decide_eq_false c4, fk_f]
    by_cases c5 : s.Len > t.C
    · rw [decide_eq_true c5, fk_t, hr]
    rw [decide_eq_false c5, fk_f]
    have hw : wr (s.At + s.Len) = s.At + s.Len := wr_in _ (by omega)
    rw [hw]
    by_cases c6 : s.At + s.Len > t.C
    · rw [decide_eq_true c6, fk_t, hr]
    exact absurd (by unfold secP; omega) hsec
  have hsec' := hsec
  unfold secP at hsec'
  have hw : wr (s.At + s.Len) = s.At + s.Len := wr_in _ (by omega)
  rw [hw]
  rw [decide_eq_false (by omega), fk_f, decide_eq_false (by omega), fk_f, decide_eq_false (by omega), fk_f, decide_eq_false (by omega), fk_f, decide_eq_false (by omega), fk_f, decide_eq_false (by omega), fk_f, decide_eq_false (by omega), fk_f]
  refine lp_up k (by unfold FU; omega) (fun j => ∀ i (hi : i < t.Secs.length), i < j → fitsP t.Secs[i] s) (fun i _ h => by omega) ?_
  intro nx2 j hj J3 hnx2
  rw [lt_nat]
  by_cases h2 : j < k
  rotate_left
  · have hjk : j = k := by omega
    subst hjk
    rw [decide_eq_false h2, fk_f, wr_succ j _ h (by omega)]
    refine hn ⟨fun i hi hij => ?_, fun a b ha hb hab hbj => ?_⟩
    · by_cases e : i = j
      · subst e; rw [hs]; exact hsec
      · exact J1 i hi (by omega)
    · by_cases e : b = j
      · subst e; rw [hs]; exact J3 a ha hab
      · exact J2 a b ha hb hab (by omega)
  have hjl : j < t.Secs.length := by omega
  rw [decide_eq_true h2, fk_t, ix_lt hjl]
  have ha := J1 j hjl h2
  have good : fitsP t.Secs[j] s → nx2 (wr ((j : Int) + 1)) = some (right t) := fun hf => by
    rw [wr_succ j k h2 (by omega)]
    refine hnx2 h2 fun i hi hij => ?_
    by_cases e : i = j
    · subst e; exact hf
    · exact J3 i hi (by omega)
  have bad : ¬ fitsP t.Secs[j] s → some false = some (right t) := fun hf => by
    rw [right_f.2 fun hr => hf (hs ▸ List.pairwise_iff_getElem.1 hr.2.2 j k hjl h h2)]
  generalize t.Secs[j] = a at *
  unfold secP at ha
  have hwa : wr (a.At + a.Len) = a.At + a.Len := wr_in _ (by omega)
  rw [hwa]
  have ticks : a.At ≤ s.At → lp (fun nx8 (v8 : Int × Int × Int) => fk (decide (v8.2.2 < s.At + s.Len)) (fk (decide (v8.2.2 < a.At + a.Len)) (nx8 (wr (v8.1 + 1), v8.2.1, wr (v8.2.2 + 1))) (nx8 (v8.1, wr (v8.2.1 + 1), wr (v8.2.2 + 1))))
      (fk (decide (v8.1 > 0)) (fk (decide (v8.2.1 > 0)) (some false) (fk (decide (a.Res = s.Res)) (some false) (nx2 (wr ((j : Int) + 1))))) (nx2 (wr ((j : Int) + 1))))) FU (0, 0, s.At) = some (right t) := by
    intro hle
    refine lp_inv (fun v => (s.At + s.Len - v.2.2).toNat) (fun v => s.At ≤ v.2.2 ∧ v.2.2 ≤ s.At + s.Len ∧ v.1 = max 0 (min v.2.2 (a.At + a.Len) - s.At) ∧ v.2.1 = v.2.2 - s.At - v.1) ?_ FU _ ⟨by simp, by simp; omega, by simp; omega, by simp⟩ (by simp only [FU]; omega)
    rintro nx8 ⟨m, o, q⟩ ⟨i1, i2, i3, i4⟩ hn8
    simp only at i1 i2 i3 i4
    by_cases c1 : q < s.At + s.Len
    · rw [decide_eq_true c1, fk_t]
      by_cases c2 : q < a.At + a.Len
      · rw [decide_eq_true c2, fk_t, wr_in (m + 1) (by omega), wr_in (q + 1) (by omega)]
        exact hn8 _ ⟨by simp only; omega, by simp only; omega, by simp only; omega, by simp only; omega⟩ (by simp only; omega)
      · rw [decide_eq_false c2, fk_f, wr_in (o + 1) (by omega), wr_in (q + 1) (by omega)]
        exact hn8 _ ⟨by simp only; omega, by simp only; omega, by simp only; omega, by simp only; omega⟩ (by simp only; omega)
    · rw [decide_eq_false c1, fk_f]
      by_cases c3 : m > 0
      · rw [decide_eq_true c3, fk_t]
        by_cases c4 : o > 0
        · rw [decide_eq_true c4, fk_t]; exact bad (by unfold fitsP; omega)
        · rw [decide_eq_false c4, fk_f]
          by_cases c5 : a.Res = s.Res
          · rw [decide_eq_true c5, fk_t]; exact bad (by unfold fitsP; omega)
          · rw [decide_eq_false c5, fk_f]; exact good (by unfold fitsP; omega)
      · rw [decide_eq_false c3, fk_f]; exact good (by unfold fitsP; omega)
  by_cases d1 : s.At < a.At
  · rw [decide_eq_true d1, fk_t]; exact bad (by unfold fitsP; omega)
  · rw [decide_eq_false d1, fk_f]
    by_cases d2 : s.At = a.At
    · rw [decide_eq_true d2, fk_t]
      by_cases d3 : s.Len > a.Len
      · rw [decide_eq_true d3, fk_t]; exact bad (by unfold fitsP; omega)
      · rw [decide_eq_false d3, fk_f]; exact ticks (by omega)
    · rw [decide_eq_false d2, fk_f]; exact ticks (by omega)


theorem eqI_sec (x y : Sec) : eqI [.i .i64 x.Res, .i .i64 x.At, .i .i64 x.Len] [.i .i64 y.Res, .i .i64 y.At, .i .i64 y.Len] = decide (x = y) := by
  unfold eqI
  rw [decide_eq_decide]
  cases x; cases y; simp

theorem ref05_All_eq (l : List Task) (hl : l.length ≤ 4611686018427387904) (hs : ∀ t ∈ l, t.Secs.length ≤ 4611686018427387904) : ref05_All l = some (decide (AllP l)) := by
  unfold ref05_All
  refine lp_upS l.length (by unfold FU; omega) (fun k n => ∃ m : Nat, n = (m : Int) ∧ m ≤ k ∧ ((m = k) ↔ ∀ j (h : j < l.length), j < k → RightP l[j])) 0 ⟨0, rfl, Nat.le_refl _, by simp⟩ ?_
  rintro nx k n hk ⟨m, rfl, hm, J⟩ hnx
  rw [lt_nat]
  by_cases h : k < l.length
  · rw [decide_eq_true h, fk_t, jn_eq, ix_lt h, bnd_eq (ref05_Right_eq _ (hs _ (List.getElem_mem h)))]
    rw [wr_succ k _ h hl, wr_in ((m : Int) + 1) (by omega)]
    by_cases hr : RightP l[k]
    · rw [right_t.2 hr, fk_t]
      refine hnx _ h ⟨m + 1, rfl, by omega, ?_⟩
      constructor
      · intro e j hj hjk
        by_cases e2 : j = k
        · subst e2; exact hr
        · exact J.1 (by omega) j hj (by omega)
      · intro ha
        have := J.2 fun j hj hjk => ha j hj (by omega)
        omega
    · rw [right_f.2 hr, fk_f]
      refine hnx _ h ⟨m, rfl, by omega, ?_⟩
      constructor
      · intro e; omega
      · intro ha; exact absurd (ha k h (by omega)) hr
  · have hkl : k = l.length := by omega
    subst hkl
    rw [decide_eq_false h, fk_f]
    have key : (m = l.length) ↔ ∀ t ∈ l, RightP t := by
      rw [J]
      constructor
      · intro ha t ht
        obtain ⟨j, hj, rfl⟩ := List.getElem_of_mem ht
        exact ha j hj hj
      · intro ha j hj _; exact ha _ (List.getElem_mem hj)
    by_cases e : m = l.length
    · rw [decide_eq_true (by omega), fk_t]
      exact dec_iff ⟨fun h8 => ⟨key.1 e, by omega⟩, fun ha => by have := ha.2; omega⟩
    · rw [decide_eq_false (by omega), fk_f]
      exact dec_f fun ha => e (key.2 ha.1)

theorem secs_eq {a b : Task} : a = b ↔ a.C = b.C ∧ a.D = b.D ∧ a.T = b.T ∧ a.Secs = b.Secs := by
  cases a; cases b; simp

theorem ref05_Same_eq (a b : Task) (hl : a.Secs.length ≤ 4611686018427387904) : ref05_Same a b = some (decide (a = b)) := by
  unfold ref05_Same
  refine lp_up a.Secs.length (by unfold FU; omega) (fun k => k ≤ b.Secs.length ∧ ∀ j (h : j < a.Secs.length) (h' : j < b.Secs.length), j < k → a.Secs[j] = b.Secs[j]) ⟨Nat.zero_le _, fun j _ _ h => by omega⟩ ?_
  rintro nx k hk ⟨hkb, J⟩ hnx
  simp only [jn_eq]
  have fin : ¬ (k < a.Secs.length ∧ k < b.Secs.length) → (fk (decide (a.C = b.C)) (fk (decide (a.D = b.D)) (fk (decide (a.T = b.T)) (some (decide ((a.Secs.length : Int) = (b.Secs.length : Int)))) (some false)) (some false)) (some false)) = some (decide (a = b)) := by
    intro hn
    by_cases c1 : a.C = b.C
    rotate_left
    · rw [decide_eq_false c1, fk_f]; exact dec_f fun e => c1 (e ▸ rfl)
    by_cases c2 : a.D = b.D
    rotate_left
    · rw [decide_eq_true c1, fk_t, decide_eq_false c2, fk_f]; exact dec_f fun e => c2 (e ▸ rfl)
    by_cases c3 : a.T = b.T
    rotate_left
    · rw [decide_eq_true c1, fk_t, decide_eq_true c2, fk_t, decide_eq_false c3, fk_f]; exact dec_f fun e => c3 (e ▸ rfl)
    rw [decide_eq_true c1, fk_t, decide_eq_true c2, fk_t, decide_eq_true c3, fk_t]
    refine dec_iff ⟨fun e => ?_, fun e => by rw [e]⟩
    have c5 : a.Secs.length = b.Secs.length := by omega
    exact secs_eq.2 ⟨c1, c2, c3, List.ext_getElem c5 fun j h1 h2 => J j h1 h2 (by omega)⟩
  rw [lt_nat]
  by_cases h : k < a.Secs.length
  rotate_left
  · rw [decide_eq_false h, fk_f, fk_f]; exact fin fun hh => h hh.1
  rw [decide_eq_true h, fk_t, lt_nat]
  by_cases h' : k < b.Secs.length
  rotate_left
  · rw [decide_eq_false h', fk_f]; exact fin fun hh => h' hh.2
  rw [decide_eq_true h', fk_t, ix_lt h, ix_lt h', eqI_sec]
  by_cases e : a.Secs[k] = b.Secs[k]
  · rw [decide_eq_true e, Bool.not_true, fk_f, wr_succ k _ h hl]
    refine hnx h ⟨by omega, fun j hj hj' hjk => ?_⟩
    by_cases e2 : j = k
    · subst e2; exact e
    · exact J j hj hj' (by omega)
  · rw [decide_eq_false e, Bool.not_false, fk_t]
    exact dec_f fun e2 => e (by subst e2; rfl)

def GreatP (l : List Task) : Prop := (∃ t ∈ l, 20 < t.Secs.length) ∨ 20 < l.length
instance (l : List Task) : Decidable (GreatP l) := by unfold GreatP; infer_instance
theorem law05_Great_eq (l : List Task) (hl : l.length ≤ 4611686018427387904) : law05_Great l = some (decide (GreatP l)) := by
  unfold law05_Great
  refine lp_up l.length (by unfold FU; omega) (fun k => ∀ j (h : j < l.length), j < k → l[j].Secs.length ≤ 20) (fun j _ h => by omega) ?_
  intro nx k hk J hnx
  rw [lt_nat]
  by_cases h : k < l.length
  · rw [decide_eq_true h, fk_t, ix_lt h]
    by_cases e : (l[k].Secs.length : Int) > 20
    · rw [decide_eq_true e, fk_t]; exact dec_t (.inl ⟨_, List.getElem_mem h, by omega⟩)
    · rw [decide_eq_false e, fk_f, wr_succ k _ h hl]
      refine hnx h fun j hj hjk => ?_
      by_cases e2 : j = k
      · subst e2; omega
      · exact J j hj (by omega)
  · rw [decide_eq_false h, fk_f]
    refine dec_iff ⟨fun h20 => .inr (by omega), ?_⟩
    rintro (⟨t, ht, h20⟩ | h20)
    · obtain ⟨j, hj, rfl⟩ := List.getElem_of_mem ht
      have := J j hj (by omega)
      omega
    · omega

theorem wf_len {l : List Task} {n : Nat} (h : l.length * 48 ≤ n) (hn : n ≤ BB) : l.length ≤ 4611686018427387904 := by unfold BB at hn; omega
theorem Task.wf.len {t : Task} (h : t.wf) : t.Secs.length ≤ 4611686018427387904 := by have := h.2.2.2.1; unfold BB at this; omega
theorem wfI_64 {n : Int} (h : wfI .i64 n) : -9223372036854775808 ≤ n ∧ n ≤ 9223372036854775807 := by
  unfold wfI at h
  simp only [Lit.wf, Bool.and_eq_true, decide_eq_true_eq] at h
  have h1 : IntKind.i64.min = -9223372036854775808 := rfl
  have h2 : IntKind.i64.max = 9223372036854775807 := rfl
  rwa [h1, h2] at h
theorem wfI_8 {n : Int} (h : wfI .u8 n) : 0 ≤ n ∧ n ≤ 255 := by
  unfold wfI at h
  simp only [Lit.wf, Bool.and_eq_true, decide_eq_true_eq] at h
  have h1 : IntKind.u8.min = 0 := rfl
  have h2 : IntKind.u8.max = 255 := rfl
  rwa [h1, h2] at h


theorem held_right {t : Task} (h : RightP t) (had : Int) : held t had = heldL had t.Secs := by rw [held, right_t.2 h, if_pos rfl]
theorem held_len (t : Task) (had : Int) (h : RightP t) : (held t had).length ≤ 4 := by
  rw [held_right h]; exact Nat.le_trans (heldL_len _ _) h.len
theorem holds_iff {had : Int} {s : Sec} : holds had s = true ↔ s.At < had ∧ had < s.At + s.Len := by
  unfold holds; simp
theorem held_nodup {t : Task} (h : RightP t) (had : Int) : (held t had).Nodup := by
  rw [held_right h, heldL, List.Nodup, List.pairwise_map]
  have hp := (h.2.2).filter (holds had)
  refine hp.imp_of_mem ?_
  intro a b ha hb hf
  have h1 := holds_iff.1 (List.mem_filter.1 ha).2
  have h2 := holds_iff.1 (List.mem_filter.1 hb).2
  unfold fitsP at hf
  omega
theorem held_mem {t : Task} (h : RightP t) {had r : Int} (hr : r ∈ held t had) : ∃ s ∈ t.Secs, s.Res = r ∧ s.At < had ∧ had < s.At + s.Len := by
  rw [held_right h, heldL] at hr
  obtain ⟨s, hs, rfl⟩ := List.mem_map.1 hr
  obtain ⟨h1, h2⟩ := List.mem_filter.1 hs
  exact ⟨s, h1, rfl, holds_iff.1 h2⟩
theorem held_uses {t : Task} (h : RightP t) {had r : Int} (hr : r ∈ held t had) : usesP t r := by
  obtain ⟨s, hs, e, _⟩ := held_mem h hr
  exact ⟨h, s, hs, e⟩
theorem held_out {t : Task} (h : RightP t) {had : Int} (ho : had ≤ 0 ∨ t.C ≤ had) : held t had = [] := by
  rw [List.eq_nil_iff_forall_not_mem]
  intro r hr
  obtain ⟨s, hs, e, h1, h2⟩ := held_mem h hr
  have := h.2.1 s hs
  unfold secP at this
  omega

theorem idx_u8 {l : List Task} {a : Int} (ha : wfI .u8 a) (hl : l.length ≤ 4611686018427387904) (h0 : l.length ≠ 0) : 0 ≤ (IntKind.i64.wrap a).tmod (l.length : Int) ∧ ((IntKind.i64.wrap a).tmod (l.length : Int)).toNat < l.length := by
  have := wfI_8 ha
  have e : IntKind.i64.wrap a = a := wr_in a (by omega)
  rw [e, Int.tmod_eq_emod_of_nonneg (by omega)]
  have h1 := Int.emod_nonneg a (b := (l.length : Int)) (by omega)
  have h2 := Int.emod_lt_of_pos a (b := (l.length : Int)) (by omega)
  omega
theorem knows_if (b : Bool) : fk b (some true) (some true) = some true := by cases b <;> rfl


/-! ### Levels -/
def maxL {α : Type} (f : α → Nat) : List α → Nat
  | [] => 0
  | x :: r => max (f x) (maxL f r)
theorem maxL_append {α : Type} (f : α → Nat) (a b : List α) : maxL f (a ++ b) = max (maxL f a) (maxL f b) := by
  induction a with
  | nil => simp [maxL]
  | cons x r ih => simp only [List.cons_append, maxL, ih]; omega
theorem maxL_le {α : Type} {f : α → Nat} {l : List α} {n : Nat} : maxL f l ≤ n ↔ ∀ x ∈ l, f x ≤ n := by
  induction l with
  | nil => simp [maxL]
  | cons x r ih => simp only [maxL, List.mem_cons, forall_eq_or_imp, ← ih]; omega
theorem le_maxL {α : Type} {f : α → Nat} {l : List α} {x : α} (h : x ∈ l) : f x ≤ maxL f l := maxL_le.1 (Nat.le_refl _) x h
theorem maxL_succ {α : Type} (f : α → Nat) (l : List α) (k : Nat) (h : k < l.length) : maxL f (l.take (k + 1)) = max (maxL f (l.take k)) (f l[k]) := by
  rw [← List.take_append_getElem h, maxL_append]; simp [maxL]
theorem maxL_zero {α : Type} {f : α → Nat} {l : List α} (h : ∀ x ∈ l, f x = 0) : maxL f l = 0 := Nat.le_zero.1 (maxL_le.2 fun x hx => by rw [h x hx]; exact Nat.le_refl _)
theorem maxL_perm {α : Type} {f : α → Nat} {a b : List α} (h : ∀ x, x ∈ a ↔ x ∈ b) : maxL f a = maxL f b :=
  Nat.le_antisymm (maxL_le.2 fun x hx => le_maxL ((h x).1 hx)) (maxL_le.2 fun x hx => le_maxL ((h x).2 hx))
theorem max_int (a b : Nat) : (if (a : Int) > (b : Int) then (a : Int) else (b : Int)) = ((max b a : Nat) : Int) := by split <;> omega

def levelN (l : List Task) (D : Int) : Nat := 1 + l.countP (fun x => decide (x.D > D))
theorem countP_succ {α : Type} (p : α → Bool) (l : List α) (k : Nat) (h : k < l.length) : (l.take (k + 1)).countP p = (l.take k).countP p + (if p l[k] = true then 1 else 0) := by
  rw [← List.take_append_getElem h, List.countP_append, List.countP_singleton]
theorem level_level_eq (l : List Task) (t : Task) (hl : l.length ≤ 4611686018427387904) : level_level l t = some (levelN l t.D : Int) := by
  unfold level_level
  refine lp_upS l.length (by unfold FU; omega) (fun k n => n = ((1 + (l.take k).countP (fun x => decide (x.D > t.D)) : Nat) : Int)) 1 rfl ?_
  rintro nx k n hk rfl hnx
  simp only [jn_eq]
  rw [lt_nat]
  have hc := List.countP_le_length (p := fun x : Task => decide (x.D > t.D)) (l := l.take k)
  rw [List.length_take] at hc
  by_cases h : k < l.length
  · rw [decide_eq_true h, fk_t, ix_lt h, wr_succ k _ h hl, wr_in _ (by omega)]
    by_cases c : l[k].D > t.D
    · rw [decide_eq_true c, fk_t]
      refine hnx _ h ?_
      rw [countP_succ _ _ _ h, if_pos (decide_eq_true c)]; omega
    · rw [decide_eq_false c, fk_f]
      refine hnx _ h ?_
      rw [countP_succ _ _ _ h, if_neg (by simp [c])]; rfl
  · rw [decide_eq_false h, fk_f]
    have : k = l.length := by omega
    rw [this, List.take_length]; rfl
def ofN (l : List Task) (i : Int) : Nat := if AllP l ∧ 0 ≤ i then (match l[i.toNat]? with | some t => levelN l t.D | none => 0) else 0
theorem ofN_lt {l : List Task} (ha : AllP l) {i : Int} (h0 : 0 ≤ i) (h : i.toNat < l.length) : ofN l i = levelN l l[i.toNat].D := by
  rw [ofN, if_pos ⟨ha, h0⟩, List.getElem?_eq_getElem h]
theorem level_Of_eq (l : List Task) (i : Int) (hl : l.length ≤ 4611686018427387904) : level_Of l i = some (ofN l i : Int) := by
  unfold level_Of
  simp only [jn_eq, fk_t]
  rw [bnd_eq (task_All_eq l hl)]
  by_cases ha : AllP l
  rotate_left
  · rw [decide_eq_false ha, Bool.not_false, fk_t, ofN, if_neg (fun h => ha h.1)]; rfl
  rw [decide_eq_true ha, Bool.not_true, fk_f]
  by_cases c1 : i < 0
  · rw [decide_eq_true c1, fk_t, ofN, if_neg (fun h => by omega)]; rfl
  rw [decide_eq_false c1, fk_f]
  by_cases c2 : i ≥ (l.length : Int)
  · rw [decide_eq_true c2, fk_t, ofN, List.getElem?_eq_none (by omega)]; simp
  rw [decide_eq_false c2, fk_f, ix_int (by omega) (by omega), bnd_eq (level_level_eq _ _ hl), ofN_lt ha (by omega)]
def ceilN (l : List Task) (res : Int) : Nat := maxL (fun t => if usesP t res then levelN l t.D else 0) l
def ceil (l : List Task) (res : Int) : Nat := if AllP l then ceilN l res else 0
theorem level_Ceiling_1_eq (t : Task) (res : Int) (l : List Task) (hl : l.length ≤ 4611686018427387904) : level_Ceiling_1 t res l = some ((if usesP t res then levelN l t.D else 0 : Nat) : Int) := by
  unfold level_Ceiling_1
  rw [bnd_eq (task_Uses_eq _ _)]
  by_cases h : usesP t res
  · rw [decide_eq_true h, Bool.not_true, fk_f, bnd_eq (level_level_eq _ _ hl), if_pos h]
  · rw [decide_eq_false h, Bool.not_false, fk_t, if_neg h]; rfl
theorem level_most_eq (l : List Task) (res : Int) (hl : l.length ≤ 4611686018427387904) : level_most_api_Task l res l = some (ceilN l res : Int) := by
  unfold level_most_api_Task
  refine lp_upS l.length (by unfold FU; omega) (fun k n => n = ((maxL (fun t => if usesP t res then levelN l t.D else 0) (l.take k) : Nat) : Int)) 0 rfl ?_
  rintro nx k n hk rfl hnx
  rw [lt_nat]
  by_cases h : k < l.length
  · rw [decide_eq_true h, fk_t, ix_lt h, bnd_eq (level_Ceiling_1_eq _ _ _ hl), wr_succ k _ h hl, max_int]
    exact hnx _ h (by rw [maxL_succ _ _ _ h])
  · rw [decide_eq_false h, fk_f]
    have : k = l.length := by omega
    rw [this, List.take_length]; rfl
theorem level_Ceiling_eq (l : List Task) (res : Int) (hl : l.length ≤ 4611686018427387904) : level_Ceiling l res = some (ceil l res : Int) := by
  unfold level_Ceiling
  rw [bnd_eq (task_All_eq l hl), ceil]
  by_cases ha : AllP l
  · rw [decide_eq_true ha, Bool.not_true, fk_f, bnd_eq (level_most_eq _ _ hl), if_pos ha]
  · rw [decide_eq_false ha, Bool.not_false, fk_t, if_neg ha]; rfl
def heldN (l : List Task) (h : List Int) : Nat := maxL (ceil l) h
theorem level_Held_eq (l : List Task) (h : List Int) (hl : l.length ≤ 4611686018427387904) (hh : h.length ≤ 4611686018427387904) : level_Held l h = some (heldN l h : Int) := by
  unfold level_Held
  have : level_most_int h l = some (heldN l h : Int) := by
    unfold level_most_int
    refine lp_upS h.length (by unfold FU; omega) (fun k n => n = ((maxL (ceil l) (h.take k) : Nat) : Int)) 0 rfl ?_
    rintro nx k n hk rfl hnx
    rw [lt_nat]
    by_cases c : k < h.length
    · rw [decide_eq_true c, fk_t, ix_lt c, level_Held_1, bnd_eq (level_Ceiling_eq l _ hl), bnd_some, wr_succ k _ c hh, max_int]
      exact hnx _ c (by rw [maxL_succ _ _ _ c])
    · rw [decide_eq_false c, fk_f]
      have : k = h.length := by omega
      rw [this, List.take_length]; rfl
  rw [bnd_eq this]
theorem level_Passes_eq (l : List Task) (i : Int) (h : List Int) (hl : l.length ≤ 4611686018427387904) (hh : h.length ≤ 4611686018427387904) : level_Passes l i h = some (decide (heldN l h < ofN l i)) := by
  unfold level_Passes
  rw [bnd_eq (level_Of_eq l i hl), bnd_eq (level_Held_eq l h hl hh)]
  exact dec_iff (by omega)

/-! The document's. -/
theorem ref05_Uses_eq (t : Task) (res : Int) (hl : t.Secs.length ≤ 4611686018427387904) : ref05_Uses t res = some (decide (∃ s ∈ t.Secs, s.Res = res)) := by
  unfold ref05_Uses
  refine lp_upS t.Secs.length (by unfold FU; omega) (fun k n => ∃ m : Nat, n = (m : Int) ∧ m ≤ k ∧ (0 < m ↔ ∃ j, ∃ h : j < t.Secs.length, j < k ∧ t.Secs[j].Res = res)) 0 ⟨0, rfl, Nat.le_refl _, by simp⟩ ?_
  rintro nx k n hk ⟨m, rfl, hm, J⟩ hnx
  simp only [jn_eq]
  rw [lt_nat]
  by_cases h : k < t.Secs.length
  · rw [decide_eq_true h, fk_t, ix_lt h, wr_succ k _ h hl, wr_in _ (by omega)]
    by_cases c : t.Secs[k].Res = res
    · rw [decide_eq_true c, fk_t]
      exact hnx _ h ⟨m + 1, rfl, by omega, ⟨fun _ => ⟨k, h, by omega, c⟩, fun _ => by omega⟩⟩
    · rw [decide_eq_false c, fk_f]
      refine hnx _ h ⟨m, rfl, by omega, J.trans ⟨fun ⟨j, hj, hjk, e⟩ => ⟨j, hj, by omega, e⟩, fun ⟨j, hj, hjk, e⟩ => ⟨j, hj, ?_, e⟩⟩⟩
      by_cases e2 : j = k
      · subst e2; exact absurd e c
      · omega
  · rw [decide_eq_false h, fk_f]
    refine dec_iff ?_
    have : ((m : Int) > 0) ↔ 0 < m := by omega
    rw [this, J]
    constructor
    · rintro ⟨j, hj, _, e⟩; exact ⟨_, List.getElem_mem hj, e⟩
    · rintro ⟨s, hs, e⟩
      obtain ⟨j, hj, rfl⟩ := List.getElem_of_mem hs
      exact ⟨j, hj, by omega, e⟩
theorem ref06_Of_eq (l : List Task) (i : Int) (hl : l.length ≤ 4611686018427387904) (ha : AllP l) (h0 : 0 ≤ i) (hi : i.toNat < l.length) : ref06_Of l i = some (ofN l i : Int) := by
  unfold ref06_Of
  rw [ofN_lt ha h0 hi]
  refine lp_upS l.length (by unfold FU; omega) (fun k n => n = (((l.take k).countP (fun x => decide (x.D > l[i.toNat].D)) : Nat) : Int)) 0 rfl ?_
  rintro nx k n hk rfl hnx
  simp only [jn_eq]
  rw [lt_nat]
  have hc := List.countP_le_length (p := fun x : Task => decide (x.D > l[i.toNat].D)) (l := l.take k)
  rw [List.length_take] at hc
  by_cases h : k < l.length
  · rw [decide_eq_true h, fk_t, ix_lt h, ix_int h0 hi, wr_succ k _ h hl, wr_in _ (by omega)]
    by_cases c : l[k].D > l[i.toNat].D
    · rw [decide_eq_true c, fk_t]
      refine hnx _ h ?_
      rw [countP_succ _ _ _ h, if_pos (decide_eq_true c)]; omega
    · rw [decide_eq_false c, fk_f]
      refine hnx _ h ?_
      rw [countP_succ _ _ _ h, if_neg (by simp [c])]; rfl
  · rw [decide_eq_false h, fk_f]
    have : k = l.length := by omega
    rw [wr_in _ (by omega), this, List.take_length, levelN]; congr 1; omega
theorem AllP.len {l : List Task} (h : AllP l) : l.length ≤ 4611686018427387904 := by have := h.2; omega
theorem AllP.slen {l : List Task} (h : AllP l) {t : Task} (ht : t ∈ l) : t.Secs.length ≤ 4611686018427387904 := by have := (h.1 t ht).len; omega
theorem ref06_Ceiling_eq (l : List Task) (res : Int) (ha : AllP l) : ref06_Ceiling l res = some (ceil l res : Int) := by
  unfold ref06_Ceiling
  rw [ceil, if_pos ha]
  refine lp_upS l.length (by have := ha.2; unfold FU; omega) (fun k n => n = ((maxL (fun t => if usesP t res then levelN l t.D else 0) (l.take k) : Nat) : Int)) 0 rfl ?_
  rintro nx k n hk rfl hnx
  simp only [jn_eq]
  rw [lt_nat]
  by_cases h : k < l.length
  · have hof := ref06_Of_eq l (k : Int) ha.len ha (by omega) (by simpa using h)
    rw [ofN_lt ha (by omega) (by simpa using h)] at hof
    simp only [Int.toNat_natCast] at hof
    have hu : (∃ s ∈ l[k].Secs, s.Res = res) ↔ usesP l[k] res := ⟨fun e => ⟨ha.1 _ (List.getElem_mem h), e⟩, fun e => e.2⟩
    rw [decide_eq_true h, fk_t, ix_lt h, bnd_eq (ref05_Uses_eq _ _ (ha.slen (List.getElem_mem h))), wr_succ k _ h ha.len, bnd_eq hof, bnd_eq hof, decide_eq_decide.2 hu]
    have hm := maxL_succ (fun t => if usesP t res then levelN l t.D else 0) l k h
    by_cases c : usesP l[k] res
    · rw [if_pos c] at hm
      rw [decide_eq_true c, fk_t]
      by_cases c2 : ((levelN l l[k].D : Nat) : Int) > ((maxL (fun t => if usesP t res then levelN l t.D else 0) (l.take k) : Nat) : Int)
      · rw [decide_eq_true c2, fk_t]; exact hnx _ h (by rw [hm]; omega)
      · rw [decide_eq_false c2, fk_f]; exact hnx _ h (by rw [hm]; omega)
    · rw [if_neg c] at hm
      rw [decide_eq_false c, fk_f, fk_f]; exact hnx _ h (by rw [hm]; omega)
  · rw [decide_eq_false h, fk_f]
    have : k = l.length := by omega
    rw [this, List.take_length]; rfl
theorem ref06_Held_eq (l : List Task) (h : List Int) (ha : AllP l) (hh : h.length ≤ 4611686018427387904) : ref06_Held l h = some (heldN l h : Int) := by
  unfold ref06_Held
  refine lp_upS h.length (by unfold FU; omega) (fun k n => n = ((maxL (ceil l) (h.take k) : Nat) : Int)) 0 rfl ?_
  rintro nx k n hk rfl hnx
  simp only [jn_eq]
  rw [lt_nat]
  by_cases c : k < h.length
  · rw [decide_eq_true c, fk_t, ix_lt c, bnd_eq (ref06_Ceiling_eq l _ ha), wr_succ k _ c hh, ix_lt c, bnd_eq (ref06_Ceiling_eq l _ ha)]
    have hm := maxL_succ (ceil l) h k c
    by_cases c2 : ((ceil l h[k] : Nat) : Int) > ((maxL (ceil l) (h.take k) : Nat) : Int)
    · rw [decide_eq_true c2, fk_t]; exact hnx _ c (by rw [hm]; omega)
    · rw [decide_eq_false c2, fk_f]; exact hnx _ c (by rw [hm]; omega)
  · rw [decide_eq_false c, fk_f]
    have : k = h.length := by omega
    rw [this, List.take_length]; rfl
theorem wf_ilen {l : List Int} (h : l.length * 8 ≤ BB) : l.length ≤ 4611686018427387904 := by unfold BB at h; omega

def greatJ (l : List Task) (js : List Job) : Prop := GreatP l ∨ 50 < js.length
noncomputable instance (l : List Task) (js : List Job) : Decidable (greatJ l js) := Classical.propDecidable _
/-- what a job must be over tasks that are right -/
def bodyP (t : Task) (j : Job) : Prop := j.Due = j.At + t.D ∧ 1 ≤ j.Want ∧ j.Want ≤ 200 ∧ 0 ≤ j.Had ∧ j.Had < j.Want ∧ j.Had < t.C ∧ (j.Began = true ∨ j.Had = 0)
noncomputable instance (t : Task) (j : Job) : Decidable (bodyP t j) := Classical.propDecidable _
def jobP (l : List Task) (j : Job) : Prop := 0 ≤ j.Task ∧ 0 ≤ j.At ∧ j.At ≤ 4611686018427387703 ∧ ∃ h : j.Task.toNat < l.length, bodyP l[j.Task.toNat] j
noncomputable instance (l : List Task) (j : Job) : Decidable (jobP l j) := Classical.propDecidable _
theorem job_right_eq (l : List Task) (j : Job) (ha : AllP l) : job_right l j = some (decide (jobP l j)) := by
  unfold job_right
  simp only [jn_eq, fk_t, fk_f]
  by_cases c1 : j.Task < 0
  · rw [decide_eq_true c1, fk_t]; exact dec_f fun h => by have := h.1; omega
  rw [decide_eq_false c1, fk_f]
  by_cases c2 : j.Task ≥ (l.length : Int)
  · rw [decide_eq_true c2, fk_t]; exact dec_f fun h => by have := h.2.2.2.1; omega
  rw [decide_eq_false c2, fk_f]
  by_cases c3 : j.At < 0
  · rw [decide_eq_true c3, fk_t]; exact dec_f fun h => by have := h.2.1; omega
  rw [decide_eq_false c3, fk_f]
  by_cases c4 : j.At > 4611686018427387703
  · rw [decide_eq_true c4, fk_t]; exact dec_f fun h => by have := h.2.2.1; omega
  have ht : j.Task.toNat < l.length := by omega
  have hc := (ha.1 _ (List.getElem_mem ht)).c
  rw [decide_eq_false c4, fk_f, ix_int (by omega) ht, wr_in _ (by omega)]
  have red : decide (jobP l j) = decide (bodyP l[j.Task.toNat] j) := decide_eq_decide.2 ⟨fun h => h.2.2.2.2, fun h => ⟨by omega, by omega, by omega, ht, h⟩⟩
  rw [red]
  generalize l[j.Task.toNat] = t at *
  have hmin : j.Had < (if j.Want < t.C then j.Want else t.C) ↔ j.Had < j.Want ∧ j.Had < t.C := by
    by_cases c : j.Want < t.C
    · rw [if_pos c]; omega
    · rw [if_neg c]; omega
  by_cases d1 : j.Due = j.At + t.D
  rotate_left
  · rw [decide_eq_false d1, fk_f]; exact dec_f fun h => d1 h.1
  rw [decide_eq_true d1, fk_t]
  by_cases d2 : j.Want ≥ 1
  rotate_left
  · rw [decide_eq_false d2, fk_f]; exact dec_f fun h => d2 h.2.1
  rw [decide_eq_true d2, fk_t]
  by_cases d3 : j.Want ≤ 200
  rotate_left
  · rw [decide_eq_false d3, fk_f]; exact dec_f fun h => d3 h.2.2.1
  rw [decide_eq_true d3, fk_t]
  by_cases d4 : j.Had ≥ 0
  rotate_left
  · rw [decide_eq_false d4, fk_f]; exact dec_f fun h => d4 h.2.2.2.1
  rw [decide_eq_true d4, fk_t]
  by_cases d5 : j.Had < (if j.Want < t.C then j.Want else t.C)
  rotate_left
  · rw [decide_eq_false d5, fk_f]; exact dec_f fun h => d5 (hmin.2 ⟨h.2.2.2.2.1, h.2.2.2.2.2.1⟩)
  rw [decide_eq_true d5, fk_t]
  obtain ⟨d5, d6⟩ := hmin.1 d5
  by_cases d7 : j.Began = true
  · rw [d7, fk_t]; exact dec_t ⟨d1, d2, d3, d4, d5, d6, .inl d7⟩
  · rw [Bool.eq_false_iff.2 d7, fk_f]
    refine dec_iff ⟨fun h => ⟨d1, d2, d3, d4, d5, d6, .inr h⟩, fun h => ?_⟩
    rcases h.2.2.2.2.2.2 with h | h
    · exact absurd h d7
    · exact h
theorem ref14_Right_eq (l : List Task) (j : Job) (ha : AllP l) : ref14_Right l j = some (decide (jobP l j)) := by
  unfold ref14_Right
  simp only [jn_eq, fk_t, fk_f]
  by_cases c1 : j.Task < 0
  · rw [decide_eq_true c1, fk_t]; exact dec_f fun h => by have := h.1; omega
  rw [decide_eq_false c1, fk_f]
  by_cases c2 : j.Task ≥ (l.length : Int)
  · rw [decide_eq_true c2, fk_t]; exact dec_f fun h => by have := h.2.2.2.1; omega
  rw [decide_eq_false c2, fk_f]
  by_cases c3 : j.At < 0
  · rw [decide_eq_true c3, fk_t]; exact dec_f fun h => by have := h.2.1; omega
  rw [decide_eq_false c3, fk_f]
  by_cases c4 : j.At > 4611686018427387703
  · rw [decide_eq_true c4, fk_t]; exact dec_f fun h => by have := h.2.2.1; omega
  have ht : j.Task.toNat < l.length := by omega
  have hc := (ha.1 _ (List.getElem_mem ht)).c
  rw [decide_eq_false c4, fk_f, ix_int (by omega) ht, wr_in _ (by omega)]
  have red : decide (jobP l j) = decide (bodyP l[j.Task.toNat] j) := decide_eq_decide.2 ⟨fun h => h.2.2.2.2, fun h => ⟨by omega, by omega, by omega, ht, h⟩⟩
  rw [red]
  have hx : ∀ {f : Task → Option Bool}, ix l j.Task f = f l[j.Task.toNat] := fun {f} => ix_int (by omega) ht
  simp only [hx]
  generalize l[j.Task.toNat] = t at *
  by_cases d1 : j.Due = j.At + t.D
  rotate_left
  · rw [decide_eq_false d1, Bool.not_false, fk_t]; exact dec_f fun h => d1 h.1
  rw [decide_eq_true d1, Bool.not_true, fk_f]
  by_cases d2 : j.Want < 1
  · rw [decide_eq_true d2, fk_t]; exact dec_f fun h => by have := h.2.1; omega
  rw [decide_eq_false d2, fk_f]
  by_cases d3 : j.Want > 200
  · rw [decide_eq_true d3, fk_t]; exact dec_f fun h => by have := h.2.2.1; omega
  rw [decide_eq_false d3, fk_f]
  by_cases d4 : j.Had < 0
  · rw [decide_eq_true d4, fk_t]; exact dec_f fun h => by have := h.2.2.2.1; omega
  rw [decide_eq_false d4, fk_f]
  by_cases d5 : j.Had ≥ j.Want
  · rw [decide_eq_true d5, fk_t]; exact dec_f fun h => by have := h.2.2.2.2.1; omega
  rw [decide_eq_false d5, fk_f]
  by_cases d6 : j.Had ≥ t.C
  · rw [decide_eq_true d6, fk_t]; exact dec_f fun h => by have := h.2.2.2.2.2.1; omega
  rw [decide_eq_false d6, fk_f]
  by_cases d7 : j.Began = true
  · rw [d7, fk_t]; exact dec_t ⟨d1, by omega, by omega, by omega, by omega, by omega, .inl d7⟩
  · rw [Bool.eq_false_iff.2 d7, fk_f]
    refine dec_iff ⟨fun h => ⟨d1, by omega, by omega, by omega, by omega, by omega, .inr (by omega)⟩, fun h => ?_⟩
    rcases h.2.2.2.2.2.2 with h | h
    · exact absurd h d7
    · omega

def apartJ (a b : Job) : Prop := ¬ (a.Task = b.Task ∧ a.At = b.At)
def jobsP (l : List Task) (js : List Job) : Prop := AllP l ∧ js.length ≤ 32 ∧ (∀ j ∈ js, jobP l j) ∧ js.Pairwise apartJ
noncomputable instance (l : List Task) (js : List Job) : Decidable (jobsP l js) := Classical.propDecidable _
theorem job_All_eq (l : List Task) (js : List Job) (hl : l.length ≤ 4611686018427387904) : job_All l js = some (decide (jobsP l js)) := by
  unfold job_All
  simp only [jn_eq, fk_t, fk_f]
  rw [bnd_eq (task_All_eq l hl)]
  by_cases ha : AllP l
  rotate_left
  · rw [decide_eq_false ha, Bool.not_false, fk_t]; exact dec_f fun h => ha h.1
  rw [decide_eq_true ha, Bool.not_true, fk_f]
  by_cases hn : (js.length : Int) > 32
  · rw [decide_eq_true hn, fk_t]; exact dec_f fun h => by have := h.2.1; omega
  rw [decide_eq_false hn, fk_f]
  refine lp_up js.length (by unfold FU; omega) (fun k => (∀ i (h : i < js.length), i < k → jobP l js[i]) ∧ ∀ i i2 (h : i < js.length) (h2 : i2 < js.length), i < i2 → i2 < k → apartJ js[i] js[i2]) ⟨fun i _ h => by omega, fun i i2 _ _ _ h => by omega⟩ ?_
  rintro nx k hk ⟨J1, J2⟩ hnx
  rw [lt_nat]
  by_cases h : k < js.length
  rotate_left
  · rw [decide_eq_false h, fk_f]
    refine dec_t ⟨ha, by omega, fun j hj => ?_, List.pairwise_iff_getElem.2 fun i i2 h1 h2 h3 => J2 i i2 h1 h2 h3 (by omega)⟩
    obtain ⟨i, hi, rfl⟩ := List.getElem_of_mem hj
    exact J1 i hi (by omega)
  rw [decide_eq_true h, fk_t, ix_lt h, bnd_eq (job_right_eq l _ ha)]
  by_cases c1 : jobP l js[k]
  rotate_left
  · rw [decide_eq_false c1, Bool.not_false, fk_t]; exact dec_f fun h2 => c1 (h2.2.2.1 _ (List.getElem_mem h))
  rw [decide_eq_true c1, Bool.not_true, fk_f, ck_t (by simp; omega)]
  have e : (js.take (k : Int).toNat).drop (0 : Int).toNat = js.take k := by simp
  rw [e, wr_succ k _ h (by omega)]
  have hlen : (js.take k).length = k := by rw [List.length_take]; omega
  refine lp_up (js.take k).length (by unfold FU; omega) (fun i => ∀ q (hq : q < js.length), q < i → apartJ js[q] js[k]) (fun q _ h => by omega) ?_
  intro nx2 i hi K hnx2
  rw [lt_nat]
  by_cases h2 : i < (js.take k).length
  rotate_left
  · rw [decide_eq_false h2, fk_f]
    refine hnx h ⟨fun q hq hqk => ?_, fun q q2 hq hq2 hqq hqk => ?_⟩
    · by_cases e2 : q = k
      · subst e2; exact c1
      · exact J1 q hq (by omega)
    · by_cases e2 : q2 = k
      · subst e2; exact K q hq (by omega)
      · exact J2 q q2 hq hq2 hqq (by omega)
  rw [decide_eq_true h2, fk_t, ix_lt h2, wr_succ i _ h2 (by omega)]
  have hi2 : i < js.length := by omega
  have eg : (js.take k)[i] = js[i] := by rw [List.getElem_take]
  rw [eg]
  have bad : js[k].Task = js[i].Task → js[k].At = js[i].At → some false = some (decide (jobsP l js)) := fun a b => dec_f fun hp =>
    List.pairwise_iff_getElem.1 hp.2.2.2 i k hi2 h (by omega) ⟨a.symm, b.symm⟩
  have go : apartJ js[i] js[k] → nx2 ((i + 1 : Nat) : Int) = some (decide (jobsP l js)) := fun hap => hnx2 h2 fun q hq hqi => by
    by_cases e2 : q = i
    · subst e2; exact hap
    · exact K q hq (by omega)
  by_cases d1 : js[k].Task = js[i].Task
  · rw [decide_eq_true d1, fk_t]
    by_cases d2 : js[k].At = js[i].At
    · rw [decide_eq_true d2, fk_t]; exact bad d1 d2
    · rw [decide_eq_false d2, fk_f]; exact go fun h => d2 h.2.symm
  · rw [decide_eq_false d1, fk_f]; exact go fun h => d1 h.1.symm
theorem ref14_All_eq (l : List Task) (js : List Job) (hl : l.length ≤ 4611686018427387904) (hs : ∀ t ∈ l, t.Secs.length ≤ 4611686018427387904) : ref14_All l js = some (decide (jobsP l js)) := by
  unfold ref14_All
  simp only [jn_eq, fk_t, fk_f]
  rw [bnd_eq (ref05_All_eq l hl hs)]
  by_cases ha : AllP l
  rotate_left
  · rw [decide_eq_false ha, Bool.not_false, fk_t]; exact dec_f fun h => ha h.1
  rw [decide_eq_true ha, Bool.not_true, fk_f]
  by_cases hn : (js.length : Int) > 32
  · rw [decide_eq_true hn, fk_t]; exact dec_f fun h => by have := h.2.1; omega
  rw [decide_eq_false hn, fk_f]
  refine lp_up js.length (by unfold FU; omega) (fun k => (∀ i (h : i < js.length), i < k → jobP l js[i]) ∧ ∀ i i2 (h : i < js.length) (h2 : i2 < js.length), i ≠ i2 → i2 < k → apartJ js[i] js[i2]) ⟨fun i _ h => by omega, fun i i2 _ _ _ h => by omega⟩ ?_
  rintro nx k hk ⟨J1, J2⟩ hnx
  by_cases h : k < js.length
  rotate_left
  · rw [show decide ((k : Int) < (js.length : Int)) = false from decide_eq_false (by omega), fk_f]
    refine dec_t ⟨ha, by omega, fun j hj => ?_, List.pairwise_iff_getElem.2 fun i i2 h1 h2 h3 => J2 i i2 h1 h2 (by omega) (by omega)⟩
    obtain ⟨i, hi, rfl⟩ := List.getElem_of_mem hj
    exact J1 i hi (by omega)
  rw [show decide ((k : Int) < (js.length : Int)) = true from decide_eq_true (by omega), fk_t]
  simp only [ix_lt h]
  rw [bnd_eq (ref14_Right_eq l _ ha), wr_succ k _ h (by omega)]
  refine lp_up js.length (by unfold FU; omega) (fun i => ∀ q (hq : q < js.length), q < i → q ≠ k → apartJ js[q] js[k]) (fun q _ h => by omega) ?_
  intro nx2 i hi K hnx2
  by_cases h2 : i < js.length
  rotate_left
  · rw [show decide ((i : Int) < (js.length : Int)) = false from decide_eq_false (by omega), fk_f]
    by_cases c1 : jobP l js[k]
    rotate_left
    · rw [decide_eq_false c1, Bool.not_false, fk_t]; exact dec_f fun h2 => c1 (h2.2.2.1 _ (List.getElem_mem h))
    rw [decide_eq_true c1, Bool.not_true, fk_f]
    refine hnx h ⟨fun q hq hqk => ?_, fun q q2 hq hq2 hqq hqk => ?_⟩
    · by_cases e2 : q = k
      · subst e2; exact c1
      · exact J1 q hq (by omega)
    · by_cases e2 : q2 = k
      · subst e2; exact K q hq (by omega) hqq
      · exact J2 q q2 hq hq2 hqq (by omega)
  rw [show decide ((i : Int) < (js.length : Int)) = true from decide_eq_true (by omega), fk_t, wr_succ i _ h2 (by omega)]
  simp only [ix_lt h2]
  have go : (i ≠ k → apartJ js[i] js[k]) → nx2 ((i + 1 : Nat) : Int) = some (decide (jobsP l js)) := fun hap => hnx2 h2 fun q hq hqi hqk => by
    by_cases e2 : q = i
    · subst e2; exact hap hqk
    · exact K q hq (by omega) hqk
  by_cases d0 : (i : Int) = (k : Int)
  · rw [decide_eq_true d0, Bool.not_true, fk_f]; exact go fun h => by omega
  rw [decide_eq_false d0, Bool.not_false, fk_t]
  by_cases d1 : js[i].Task = js[k].Task
  · rw [decide_eq_true d1, fk_t]
    by_cases d2 : js[i].At = js[k].At
    · rw [decide_eq_true d2, fk_t]
      refine dec_f fun hp => ?_
      have hpw := List.pairwise_iff_getElem.1 hp.2.2.2
      rcases Nat.lt_or_gt_of_ne (show i ≠ k by omega) with h3 | h3
      · exact hpw i k h2 h h3 ⟨d1, d2⟩
      · exact hpw k i h h2 h3 ⟨d1.symm, d2.symm⟩
    · rw [decide_eq_false d2, fk_f]; exact go fun _ h => d2 h.2
  · rw [decide_eq_false d1, fk_f]; exact go fun _ h => d1 h.1

theorem ref05_Held_eq (t : Task) (had : Int) (h : RightP t) : ref05_Held t had = some (held t had) := by
  rw [held_right h]
  unfold ref05_Held
  simp only [jn_eq]
  have hlen := h.len
  refine lp_upS t.Secs.length (by unfold FU; omega) (fun k o => o = heldL had (t.Secs.take k)) [] (by simp [heldL]) ?_
  rintro nx k o hk rfl hnx
  simp only
  rw [lt_nat]
  by_cases hh : k < t.Secs.length
  rotate_left
  · rw [decide_eq_false hh, fk_f]
    have : k = t.Secs.length := by omega
    rw [this, List.take_length]
  have hs := h.sec hh
  have hc := h.c
  have hsu := heldL_succ had t.Secs k hh
  have hl := heldL_len had (t.Secs.take k)
  rw [List.length_take] at hl
  rw [decide_eq_true hh, fk_t]
  simp only [ix_lt hh]
  rw [wr_succ k _ hh (by omega)]
  unfold secP at hs
  rw [wr_in _ (by omega)]
  by_cases c1 : t.Secs[k].At < had
  · rw [decide_eq_true c1, fk_t]
    by_cases c2 : had ≥ t.Secs[k].At + t.Secs[k].Len
    · rw [decide_eq_true c2, Bool.not_true, fk_f]
      refine hnx _ hh ?_
      rw [hsu, if_neg (by rw [holds_iff]; omega), List.append_nil]
    · rw [decide_eq_false c2, Bool.not_false, fk_t, ck_t (by simp; omega)]
      refine hnx _ hh ?_
      rw [hsu, if_pos (by rw [holds_iff]; omega)]
  · rw [decide_eq_false c1, fk_f, fk_f]
    refine hnx _ hh ?_
    rw [hsu, if_neg (by rw [holds_iff]; omega), List.append_nil]
def heldJ (l : List Task) (j : Job) : List Int := match l[j.Task.toNat]? with | some t => held t j.Had | none => []
def heldA (l : List Task) (js : List Job) : List Int := js.flatMap (heldJ l)
theorem heldA_succ (l : List Task) (js : List Job) (k : Nat) (h : k < js.length) : heldA l (js.take (k + 1)) = heldA l (js.take k) ++ heldJ l js[k] := by
  unfold heldA; rw [← List.take_append_getElem h, List.flatMap_append]; simp
theorem heldA_len {l : List Task} {js : List Job} (ha : AllP l) : (heldA l js).length ≤ 4 * js.length := by
  induction js with
  | nil => simp [heldA]
  | cons j r ih =>
    have : (heldJ l j).length ≤ 4 := by
      unfold heldJ
      cases e : l[j.Task.toNat]? with
      | none => simp
      | some t => exact held_len t _ (ha.1 t (List.mem_of_getElem? e))
    simp only [heldA, List.flatMap_cons, List.length_append, List.length_cons] at *
    omega
theorem heldJ_of {l : List Task} {j : Job} (h : j.Task.toNat < l.length) : heldJ l j = held l[j.Task.toNat] j.Had := by
  unfold heldJ; rw [List.getElem?_eq_getElem h]
theorem job_Held_eq (l : List Task) (js : List Job) (hl : l.length ≤ 4611686018427387904) : job_Held l js = some (if jobsP l js then heldA l js else []) := by
  unfold job_Held
  rw [bnd_eq (job_All_eq l js hl)]
  by_cases hp : jobsP l js
  rotate_left
  · rw [decide_eq_false hp, Bool.not_false, fk_t, if_neg hp]
  rw [decide_eq_true hp, Bool.not_true, fk_f, if_pos hp]
  have h32 := hp.2.1
  refine lp_upS js.length (by unfold FU; omega) (fun k o => o = heldA l (js.take k)) [] (by simp [heldA]) ?_
  rintro nx k o hk rfl hnx
  simp only
  rw [lt_nat]
  by_cases h : k < js.length
  rotate_left
  · rw [decide_eq_false h, fk_f]
    have : k = js.length := by omega
    rw [this, List.take_length]
  have hj := hp.2.2.1 _ (List.getElem_mem h)
  obtain ⟨h1, h2, h3, h4, hb⟩ := hj
  have hlen := heldA_len (l := l) (js := js.take k) hp.1
  rw [List.length_take] at hlen
  have hlen2 := held_len l[js[k].Task.toNat] js[k].Had (hp.1.1 _ (List.getElem_mem h4))
  rw [decide_eq_true h, fk_t, ix_lt h, ix_int h1 h4, bnd_eq (task_Held_eq _ _), ck_t (by simp; omega), wr_succ k _ h (by omega)]
  refine hnx _ h ?_
  rw [heldA_succ l js k h, heldJ_of h4]
theorem ref14_Held_eq (l : List Task) (js : List Job) (hp : jobsP l js) : ref14_Held l js = some (heldA l js) := by
  unfold ref14_Held
  simp only [jn_eq]
  have h32 := hp.2.1
  refine lp_upS js.length (by unfold FU; omega) (fun k o => o = heldA l (js.take k)) [] (by simp [heldA]) ?_
  rintro nx k o hk rfl hnx
  simp only
  rw [lt_nat]
  by_cases h : k < js.length
  rotate_left
  · rw [decide_eq_false h, fk_f]
    have : k = js.length := by omega
    rw [this, List.take_length]
  have hj := hp.2.2.1 _ (List.getElem_mem h)
  obtain ⟨h1, h2, h3, h4, hb⟩ := hj
  have hr := hp.1.1 _ (List.getElem_mem h4)
  have hlen := heldA_len (l := l) (js := js.take k) hp.1
  rw [List.length_take] at hlen
  have hlen2 := held_len l[js[k].Task.toNat] js[k].Had hr
  rw [decide_eq_true h, fk_t]
  simp only [ix_lt h]
  rw [wr_succ k _ h (by omega)]
  by_cases c : js[k].Began = true
  · rw [c, fk_t, ix_int h1 h4, bnd_eq (ref05_Held_eq _ _ hr), ck_t (by simp; omega)]
    refine hnx _ h ?_
    rw [heldA_succ l js k h, heldJ_of h4]
  · rw [Bool.eq_false_iff.2 c, fk_f]
    refine hnx _ h ?_
    have : js[k].Had = 0 := by
      rcases hb.2.2.2.2.2.2 with h5 | h5
      · exact absurd h5 c
      · exact h5
    rw [heldA_succ l js k h, heldJ_of h4, held_out hr (.inl (by omega)), List.append_nil]
theorem sameInts_eq (a : List Int) (ha : a.length ≤ 1000) : ref05_SameInts a a = some true := by
  unfold ref05_SameInts
  rw [decide_eq_true rfl, Bool.not_true, fk_f]
  refine lp_up a.length (by unfold FU; omega) (fun _ => True) trivial ?_
  intro nx k hk _ hnx
  rw [lt_nat]
  by_cases h : k < a.length
  · rw [decide_eq_true h, fk_t, ix_lt h]
    rw [ix_lt h, decide_eq_true rfl, Bool.not_true, fk_f, wr_succ k _ h (by omega)]
    exact hnx h trivial
  · rw [decide_eq_false h, fk_f]

def aheadP (a b : Job) : Prop := a.Due < b.Due ∨ (a.Due = b.Due ∧ (a.Task < b.Task ∨ (a.Task = b.Task ∧ a.At < b.At)))
instance (a b : Job) : Decidable (aheadP a b) := by unfold aheadP; infer_instance
theorem job_Ahead_eq (a b : Job) : job_Ahead a b = some (decide (aheadP a b)) := by
  unfold job_Ahead
  by_cases c1 : a.Due = b.Due
  · rw [decide_eq_true c1, Bool.not_true, fk_f]
    by_cases c2 : a.Task = b.Task
    · rw [decide_eq_true c2, Bool.not_true, fk_f]
      refine dec_iff ?_; unfold aheadP; omega
    · rw [decide_eq_false c2, Bool.not_false, fk_t]
      refine dec_iff ?_; unfold aheadP; omega
  · rw [decide_eq_false c1, Bool.not_false, fk_t]
    refine dec_iff ?_; unfold aheadP; omega
theorem eqI_job (x y : Job) : eqI [.i .i64 x.Task, .i .i64 x.At, .i .i64 x.Due, .i .i64 x.Want, .i .i64 x.Had, .b x.Began] [.i .i64 y.Task, .i .i64 y.At, .i .i64 y.Due, .i .i64 y.Want, .i .i64 y.Had, .b y.Began] = decide (x = y) := by
  unfold eqI
  rw [decide_eq_decide]
  cases x; cases y; simp
theorem idxU {n : Nat} {a : Int} (ha : wfI .u8 a) (hl : n ≤ 4611686018427387904) (h0 : n ≠ 0) : 0 ≤ (IntKind.i64.wrap a).tmod (n : Int) ∧ ((IntKind.i64.wrap a).tmod (n : Int)).toNat < n := by
  have := wfI_8 ha
  have e : IntKind.i64.wrap a = a := wr_in a (by omega)
  rw [e, Int.tmod_eq_emod_of_nonneg (by omega)]
  have h1 := Int.emod_nonneg a (b := (n : Int)) (by omega)
  have h2 := Int.emod_lt_of_pos a (b := (n : Int)) (by omega)
  omega
theorem apart_of {l : List Task} {js : List Job} (h : jobsP l js) {i k : Nat} (hi : i < js.length) (hk : k < js.length) (hne : js[i] ≠ js[k]) : apartJ js[i] js[k] := by
  have hp := List.pairwise_iff_getElem.1 h.2.2.2
  rcases Nat.lt_trichotomy i k with h1 | h1 | h1
  · exact hp i k hi hk h1
  · subst h1; exact absurd rfl hne
  · exact fun h2 => hp k i hk hi h1 ⟨h2.1.symm, h2.2.symm⟩


theorem ref14_Ahead_eq (a b : Job) : ref14_Ahead a b = some (decide (aheadP a b)) := by
  unfold ref14_Ahead
  simp only [jn_eq, fk_if, decide_eq_true_eq]
  repeat' split
  all_goals first
    | exact dec_t (by unfold aheadP; omega)
    | exact dec_f (by unfold aheadP; omega)
    | exact dec_iff (by unfold aheadP; omega)

/-! The first one. -/
def IsFK (js : List Job) (b : Bool) (K : Nat) (i : Int) : Prop :=
  (i = -1 ∧ ∀ k (hk : k < js.length), k < K → js[k].Began ≠ b) ∨
  (∃ n : Nat, i = (n : Int) ∧ ∃ h : n < js.length, n < K ∧ js[n].Began = b ∧ (∀ k (hk : k < js.length), k < K → js[k].Began = b → ¬ aheadP js[k] js[n]) ∧ ∀ k (hk : k < js.length), k < n → js[k].Began = b → aheadP js[n] js[k])
def IsF (js : List Job) (b : Bool) (i : Int) : Prop := IsFK js b js.length i
theorem IsF.uniq {js : List Job} {b : Bool} {i i' : Int} (h : IsF js b i) (h' : IsF js b i') : i = i' := by
  rcases h with ⟨h1, h2⟩ | ⟨n, rfl, hn, _, hb, h3, h4⟩ <;> rcases h' with ⟨h1', h2'⟩ | ⟨n', rfl, hn', _, hb', h3', h4'⟩
  · omega
  · exact absurd hb' (h2 n' hn' hn')
  · exact absurd hb (h2' n hn hn)
  · rcases Nat.lt_trichotomy n n' with h | h | h
    · exact absurd (h4' n hn h hb) (h3 n' hn' hn' hb')
    · rw [h]
    · exact absurd (h4 n' hn' h hb') (h3' n hn hn hb)
open Classical in
noncomputable def fst (js : List Job) (b : Bool) : Int := if h : ∃ i, IsF js b i then Classical.choose h else -1
theorem IsF.eq {js : List Job} {b : Bool} {i : Int} (h : IsF js b i) : i = fst js b := by
  have hx : ∃ i, IsF js b i := ⟨i, h⟩
  unfold fst
  rw [dif_pos hx]
  exact h.uniq (Classical.choose_spec hx)
theorem aheadP_trans {a b c : Job} (h : aheadP a b) (k : aheadP b c) : aheadP a c := by unfold aheadP at *; omega
theorem aheadP_irr (a : Job) : ¬ aheadP a a := by unfold aheadP; omega
theorem aheadP_asymm {a b : Job} (h : aheadP a b) : ¬ aheadP b a := by unfold aheadP at *; omega
theorem aheadP_of {a b c : Job} (h : ¬ aheadP b a) (k : aheadP b c) : aheadP a c := by unfold aheadP at *; omega
theorem aheadP_of' {a b c : Job} (h : aheadP a b) (k : ¬ aheadP c b) : aheadP a c := by unfold aheadP at *; omega
theorem IsFK.zero (js : List Job) (b : Bool) : IsFK js b 0 (-1) := .inl ⟨rfl, fun k _ h => by omega⟩
theorem IsFK.skip {js : List Job} {b : Bool} {K : Nat} {i : Int} (h : IsFK js b K i) (hK : K < js.length) (hb : js[K].Began ≠ b) : IsFK js b (K + 1) i := by
  rcases h with ⟨h1, h2⟩ | ⟨n, rfl, hn, hl, hb', h3, h4⟩
  · refine .inl ⟨h1, fun k hk hkK => ?_⟩
    by_cases e : k = K
    · subst e; exact hb
    · exact h2 k hk (by omega)
  · refine .inr ⟨n, rfl, hn, by omega, hb', fun k hk hkK hkb => ?_, h4⟩
    by_cases e : k = K
    · subst e; exact absurd hkb hb
    · exact h3 k hk (by omega) hkb
theorem IsFK.keep {js : List Job} {b : Bool} {K n : Nat} (h : IsFK js b K (n : Int)) (hK : K < js.length) (hn : n < js.length) (ha : ¬ aheadP js[K] js[n]) : IsFK js b (K + 1) (n : Int) := by
  rcases h with ⟨h1, h2⟩ | ⟨m, e, hm, hl, hb', h3, h4⟩
  · omega
  · have : n = m := by omega
    subst this
    refine .inr ⟨n, rfl, hn, by omega, hb', fun k hk hkK hkb => ?_, h4⟩
    by_cases e : k = K
    · subst e; exact ha
    · exact h3 k hk (by omega) hkb
theorem IsFK.turn {js : List Job} {b : Bool} {K : Nat} {i : Int} (h : IsFK js b K i) (hK : K < js.length) (hb : js[K].Began = b) (ha : ∀ n (hn : n < js.length), i = (n : Int) → aheadP js[K] js[n]) : IsFK js b (K + 1) (K : Int) := by
  refine .inr ⟨K, rfl, hK, by omega, hb, fun k hk hkK hkb => ?_, fun k hk hkK hkb => ?_⟩
  · by_cases e : k = K
    · subst e; exact aheadP_irr _
    · rcases h with ⟨h1, h2⟩ | ⟨m, rfl, hm, hl, hb', h3, h4⟩
      · exact absurd hkb (h2 k hk (by omega))
      · exact fun hh => h3 k hk (by omega) hkb (aheadP_trans hh (ha m hm rfl))
  · rcases h with ⟨h1, h2⟩ | ⟨m, rfl, hm, hl, hb', h3, h4⟩
    · exact absurd hkb (h2 k hk hkK)
    · exact aheadP_of' (ha m hm rfl) (h3 k hk hkK hkb)
theorem job_First_1_eq (j : Job) (b : Bool) : job_First_1 j b = some (decide (j.Began = b)) := rfl
theorem job_First_eq (js : List Job) (b : Bool) (hl : js.length ≤ 4611686018427387904) : job_First js b = some (fst js b) := by
  unfold job_First
  have : job_first_api_Job js b = some (fst js b) := by
    unfold job_first_api_Job
    simp only [jn_eq]
    refine lp_upS js.length (by unfold FU; omega) (fun k i => IsFK js b k i) (-1) (IsFK.zero js b) ?_
    intro nx k i hk J hnx
    simp only
    rw [lt_nat]
    by_cases h : k < js.length
    rotate_left
    · rw [decide_eq_false h, fk_f]
      have : k = js.length := by omega
      subst this
      rw [IsF.eq J]
    rw [decide_eq_true h, fk_t]
    simp only [ix_lt h]
    rw [job_First_1_eq, bnd_some, wr_succ k _ h hl]
    by_cases hb : js[k].Began = b
    rotate_left
    · rw [decide_eq_false hb, fk_f, fk_f]; exact hnx _ h (J.skip h hb)
    rw [decide_eq_true hb, fk_t]
    by_cases h0 : i < 0
    · rw [decide_eq_true h0, fk_t, fk_t]
      exact hnx _ h (J.turn h hb fun n hn e => by omega)
    rw [decide_eq_false h0, fk_f]
    have hi : i.toNat < js.length := by
      rcases J with ⟨h1, _⟩ | ⟨n, rfl, hn, _⟩
      · omega
      · simpa using hn
    have ei : i = (i.toNat : Int) := by omega
    rw [ix_int (by omega) hi, job_Ahead_eq, bnd_some]
    by_cases ha : aheadP js[k] js[i.toNat]
    · rw [decide_eq_true ha, fk_t]
      exact hnx _ h (J.turn h hb fun n hn e => by
        have : n = i.toNat := by omega
        subst this; exact ha)
    · rw [decide_eq_false ha, fk_f]
      refine hnx _ h ?_
      rw [ei] at J ⊢
      exact J.keep h hi ha
  rw [bnd_eq this]
theorem fst_is (js : List Job) (b : Bool) : IsF js b (fst js b) := by
  have : ∀ K, K ≤ js.length → ∃ i, IsFK js b K i := by
    intro K
    induction K with
    | zero => exact fun _ => ⟨-1, IsFK.zero js b⟩
    | succ K ih =>
      intro hK
      obtain ⟨i, hi⟩ := ih (by omega)
      by_cases hb : js[K].Began = b
      rotate_left
      · exact ⟨i, hi.skip hK hb⟩
      by_cases ha : ∀ n (hn : n < js.length), i = (n : Int) → aheadP js[K] js[n]
      · exact ⟨K, hi.turn hK hb ha⟩
      · have : ∃ n, ∃ hn : n < js.length, i = (n : Int) ∧ ¬ aheadP js[K] js[n] := by
          by_cases c : ∃ n, ∃ hn : n < js.length, i = (n : Int) ∧ ¬ aheadP js[K] js[n]
          · exact c
          · exact absurd (fun n hn e => by
              by_cases c2 : aheadP js[K] js[n]
              · exact c2
              · exact absurd ⟨n, hn, e, c2⟩ c) ha
        obtain ⟨n, hn, rfl, hna⟩ := this
        exact ⟨n, hi.keep hK hn hna⟩
  obtain ⟨i, hi⟩ := this js.length (Nat.le_refl _)
  rw [← IsF.eq hi]; exact hi
theorem ref14_First_eq (js : List Job) (b : Bool) (hl : js.length ≤ 4611686018427387904) : ref14_First js b = some (fst js b) := by
  unfold ref14_First
  simp only [jn_eq]
  refine lp_up js.length (by unfold FU; omega) (fun k => ∀ i (hi : i < js.length), i < k → js[i].Began = b → ∃ m, ∃ hm : m < js.length, js[m].Began = b ∧ aheadP js[m] js[i]) (fun i _ h => by omega) ?_
  intro nx k hk J hnx
  by_cases h : k < js.length
  rotate_left
  · rw [show decide ((k : Int) < (js.length : Int)) = false from decide_eq_false (by omega), fk_f]
    rcases fst_is js b with ⟨e, _⟩ | ⟨n, e, hn, _, hb, h3, _⟩
    · rw [e]
    · obtain ⟨m, hm, hmb, hma⟩ := J n hn (by omega) hb
      exact absurd hma (h3 m hm hm hmb)
  rw [show decide ((k : Int) < (js.length : Int)) = true from decide_eq_true (by omega), fk_t]
  simp only [ix_lt h]
  rw [wr_succ k _ h hl]
  refine lp_upS js.length (by unfold FU; omega) (fun q n => (n = true → js[k].Began = b ∧ ∀ i (hi : i < js.length), i < q → js[i].Began = b → ¬ aheadP js[i] js[k]) ∧ (n = false → js[k].Began ≠ b ∨ ∃ m, ∃ hm : m < js.length, js[m].Began = b ∧ aheadP js[m] js[k])) (decide (js[k].Began = b)) ⟨fun e => ⟨of_decide_eq_true e, fun i _ h => by omega⟩, fun e => .inl (of_decide_eq_false e)⟩ ?_
  rintro nx2 q n hq ⟨J1, J2⟩ hnx2
  simp only
  by_cases h2 : q < js.length
  rotate_left
  · rw [show decide ((q : Int) < (js.length : Int)) = false from decide_eq_false (by omega), fk_f]
    cases n with
    | true =>
      rw [fk_t]
      obtain ⟨h3, h4⟩ := J1 rfl
      have : IsF js b (k : Int) := .inr ⟨k, rfl, h, h, h3, fun i hi _ hb => h4 i hi (by omega) hb, fun i hi hik hb => by
        obtain ⟨m, hm, hmb, hma⟩ := J i hi hik hb
        exact aheadP_of (h4 m hm (by omega) hmb) hma⟩
      rw [this.eq]
    | false =>
      rw [fk_f]
      refine hnx h fun i hi hik hb => ?_
      by_cases e : i = k
      · subst e
        rcases J2 rfl with h3 | h3
        · exact absurd hb h3
        · exact h3
      · exact J i hi (by omega) hb
  rw [show decide ((q : Int) < (js.length : Int)) = true from decide_eq_true (by omega), fk_t]
  simp only [ix_lt h2]
  rw [wr_succ q _ h2 hl]
  by_cases hb : js[q].Began = b
  rotate_left
  · rw [decide_eq_false hb, fk_f, fk_f]
    refine hnx2 _ h2 ⟨fun e => ⟨(J1 e).1, fun i hi hiq hib => ?_⟩, J2⟩
    by_cases e2 : i = q
    · subst e2; exact absurd hib hb
    · exact (J1 e).2 i hi (by omega) hib
  rw [decide_eq_true hb, fk_t, ref14_Ahead_eq, bnd_some]
  by_cases ha : aheadP js[q] js[k]
  · rw [decide_eq_true ha, fk_t]
    exact hnx2 _ h2 ⟨fun e => (Bool.false_ne_true e).elim, fun _ => .inr ⟨q, h2, hb, ha⟩⟩
  · rw [decide_eq_false ha, fk_f]
    refine hnx2 _ h2 ⟨fun e => ⟨(J1 e).1, fun i hi hiq hib => ?_⟩, J2⟩
    by_cases e2 : i = q
    · subst e2; exact ha
    · exact (J1 e).2 i hi (by omega) hib
theorem ref14_Same_eq (a b : List Job) (hl : a.length ≤ 4611686018427387904) : ref14_Same a b = some (decide (a = b)) := by
  unfold ref14_Same
  by_cases h0 : (a.length : Int) = (b.length : Int)
  rotate_left
  · rw [decide_eq_false h0, Bool.not_false, fk_t]; exact dec_f fun h => h0 (by rw [h])
  rw [decide_eq_true h0, Bool.not_true, fk_f]
  refine lp_up a.length (by unfold FU; omega) (fun k => ∀ i (hi : i < a.length) (hi' : i < b.length), i < k → a[i] = b[i]) (fun i _ _ h => by omega) ?_
  intro nx k hk J hnx
  rw [lt_nat]
  by_cases h : k < a.length
  rotate_left
  · rw [decide_eq_false h, fk_f]
    exact dec_t (List.ext_getElem (by omega) fun i h1 h2 => J i h1 h2 (by omega))
  rw [decide_eq_true h, fk_t, ix_lt h, ix_lt (show k < b.length by omega), eqI_job, wr_succ k _ h hl]
  by_cases e : a[k] = b[k]'(by omega)
  · rw [decide_eq_true e, Bool.not_true, fk_f]
    refine hnx h fun i hi hi' hik => ?_
    by_cases e2 : i = k
    · subst e2; exact e
    · exact J i hi hi' (by omega)
  · rw [decide_eq_false e, Bool.not_false, fk_t]
    refine dec_f fun hab => e ?_
    subst hab; rfl


/-! Sorted jobs. -/
noncomputable def srt (js : List Job) : List Job := js.mergeSort (fun a b => !decide (aheadP b a))
theorem srt_perm (js : List Job) : (srt js).Perm js := List.mergeSort_perm _ _
theorem apart_total {a b : Job} (h : apartJ a b) : aheadP a b ∨ aheadP b a := by unfold apartJ at h; unfold aheadP; omega
theorem apart_symm {a b : Job} (h : apartJ a b) : apartJ b a := by unfold apartJ at *; omega
theorem srt_sorted {js : List Job} (h : js.Pairwise apartJ) : (srt js).Pairwise aheadP := by
  have h1 : (srt js).Pairwise apartJ := (srt_perm js).symm.pairwise h fun h => apart_symm h
  have h2 : (srt js).Pairwise (fun a b => (!decide (aheadP b a)) = true) := List.pairwise_mergeSort (fun a b c h1 h2 => by
    simp only [Bool.not_eq_true', decide_eq_false_iff_not] at *
    unfold aheadP at *; omega) (fun a b => by
    simp only [Bool.or_eq_true, Bool.not_eq_true', decide_eq_false_iff_not]
    unfold aheadP; omega) js
  refine (List.pairwise_and_iff.2 ⟨h1, h2⟩).imp fun {a b} hab => ?_
  simp only [Bool.not_eq_true', decide_eq_false_iff_not] at hab
  rcases apart_total hab.1 with h | h
  · exact h
  · exact absurd h hab.2
theorem sorted_uniq : ∀ {a b : List Job}, a.Pairwise aheadP → b.Pairwise aheadP → a.Perm b → a = b
  | [], b, _, _, h => (List.nil_perm.1 h).symm
  | x :: l, [], _, _, h => absurd h.length_eq (by simp)
  | x :: l, y :: m, ha, hb, h => by
    rw [List.pairwise_cons] at ha hb
    have hxy : x = y := by
      by_cases e : x = y
      · exact e
      · have h1 : x ∈ y :: m := h.mem_iff.1 List.mem_cons_self
        have h2 : y ∈ x :: l := h.mem_iff.2 List.mem_cons_self
        rcases List.mem_cons.1 h1 with h1 | h1
        · exact h1
        · rcases List.mem_cons.1 h2 with h2 | h2
          · exact h2.symm
          · exact absurd (ha.1 y h2) (aheadP_asymm (hb.1 x h1))
    subst hxy
    rw [sorted_uniq ha.2 hb.2 ((List.perm_cons x).1 h)]

/-! Levels by deadlines. -/
theorem countP_lt {α : Type} {p q : α → Bool} {l : List α} (h : ∀ x ∈ l, p x = true → q x = true) {x : α} (hx : x ∈ l) (hp : p x = false) (hq : q x = true) : l.countP p < l.countP q := by
  induction l with
  | nil => cases hx
  | cons a r ih =>
    simp only [List.countP_cons]
    have hr := fun x hx => h x (List.mem_cons_of_mem _ hx)
    have hle : r.countP p ≤ r.countP q := List.countP_mono_left hr
    rcases List.mem_cons.1 hx with rfl | hx
    · rw [hp, hq]; simp; omega
    · have := ih hr hx
      have h2 := h a List.mem_cons_self
      cases hpa : p a with
      | true => rw [h2 hpa]; simp; omega
      | false => simp; omega
theorem levelN_lt {l : List Task} {x : Task} (hx : x ∈ l) (D : Int) : levelN l x.D < levelN l D ↔ D < x.D := by
  unfold levelN
  constructor
  · intro h
    by_cases c : D < x.D
    · exact c
    · have : l.countP (fun y => decide (y.D > D)) ≤ l.countP (fun y => decide (y.D > x.D)) := List.countP_mono_left fun y _ hy => by
        simp only [decide_eq_true_eq] at *; omega
      omega
  · intro h
    have := countP_lt (p := fun y : Task => decide (y.D > x.D)) (q := fun y => decide (y.D > D)) (l := l) (fun y _ hy => by simp only [decide_eq_true_eq] at *; omega) hx (by simp) (by simpa using h)
    omega
/-- A task of this deadline uses nothing of what is held, and passes. -/
def passD (l : List Task) (h : List Int) (D : Int) : Prop := ∀ r ∈ h, ∀ x ∈ l, usesP x r → D < x.D
theorem maxL_lt {α : Type} {f : α → Nat} {l : List α} {n : Nat} (hn : 0 < n) : maxL f l < n ↔ ∀ x ∈ l, f x < n := by
  constructor
  · intro h x hx; exact Nat.lt_of_le_of_lt (le_maxL hx) h
  · intro h
    have : maxL f l ≤ n - 1 := maxL_le.2 fun x hx => by have := h x hx; omega
    omega
theorem passes_iff {l : List Task} {h : List Int} {i : Int} (ha : AllP l) (h0 : 0 ≤ i) (hi : i.toNat < l.length) : heldN l h < ofN l i ↔ passD l h l[i.toNat].D := by
  rw [ofN_lt ha h0 hi]
  have hn : 0 < levelN l l[i.toNat].D := by unfold levelN; omega
  unfold heldN passD
  rw [maxL_lt hn]
  refine forall_congr' fun r => forall_congr' fun hr => ?_
  rw [ceil, if_pos ha, ceilN, maxL_lt hn]
  refine forall_congr' fun x => forall_congr' fun hx => ?_
  by_cases c : usesP x r
  · rw [if_pos c, levelN_lt hx]; exact ⟨fun h _ => h, fun h => h c⟩
  · rw [if_neg c]; exact ⟨fun _ h => absurd h c, fun _ => hn⟩

/-! Who runs. -/
def jg (js : List Job) (i : Int) : Job := (js[i.toNat]?).getD ⟨0, 0, 0, 0, 0, false⟩
theorem jg_lt {js : List Job} {i : Int} (h : i.toNat < js.length) : jg js i = js[i.toNat] := by unfold jg; rw [List.getElem?_eq_getElem h]; rfl
theorem fst_cases (js : List Job) (b : Bool) : fst js b = -1 ∨ (0 ≤ fst js b ∧ (fst js b).toNat < js.length) := by
  rcases fst_is js b with ⟨h, _⟩ | ⟨n, h, hn, _⟩
  · exact .inl h
  · exact .inr ⟨by omega, by omega⟩
theorem fst_none {js : List Job} {b : Bool} (h : fst js b < 0) : ∀ j ∈ js, j.Began ≠ b := by
  intro j hj
  rcases fst_is js b with ⟨_, h2⟩ | ⟨n, h1, _⟩
  · obtain ⟨k, hk, rfl⟩ := List.getElem_of_mem hj
    exact h2 k hk hk
  · omega
theorem fst_first {js : List Job} {b : Bool} (h : 0 ≤ fst js b) (hl : (fst js b).toNat < js.length) : js[(fst js b).toNat].Began = b ∧ ∀ j ∈ js, j.Began = b → ¬ aheadP j js[(fst js b).toNat] := by
  rcases fst_is js b with ⟨h1, _⟩ | ⟨n, h1, hn, _, hb, h3, _⟩
  · omega
  · have e : (fst js b).toNat = n := by omega
    subst e
    refine ⟨hb, fun j hj hjb => ?_⟩
    obtain ⟨k, hk, rfl⟩ := List.getElem_of_mem hj
    exact h3 k hk hk hjb
open Classical in
noncomputable def cho (l : List Task) (js : List Job) : Int :=
  if fst js false < 0 then fst js true
  else if 0 ≤ fst js true ∧ ¬ aheadP (jg js (fst js false)) (jg js (fst js true)) then fst js true
  else if fst js true < 0 ∨ heldN l (heldA l js) < ofN l (jg js (fst js false)).Task then fst js false
  else fst js true
theorem heldA_none {l : List Task} {js : List Job} (hp : jobsP l js) (h : ∀ j ∈ js, j.Began ≠ true) : heldA l js = [] := by
  unfold heldA
  rw [List.flatMap_eq_nil_iff]
  intro j hj
  obtain ⟨_, _, _, h4, hb⟩ := hp.2.2.1 j hj
  rw [heldJ_of h4]
  refine held_out (hp.1.1 _ (List.getElem_mem h4)) (.inl ?_)
  rcases hb.2.2.2.2.2.2 with h5 | h5
  · exact absurd h5 (h j hj)
  · omega
theorem heldN_none (l : List Task) : heldN l [] = 0 := rfl
theorem srp_Choose_eq (l : List Task) (js : List Job) (hl : l.length ≤ 4611686018427387904) : srp_Choose l js = some (if jobsP l js then cho l js else -1) := by
  unfold srp_Choose
  simp only [jn_eq]
  rw [bnd_eq (job_All_eq l js hl)]
  by_cases hp : jobsP l js
  rotate_left
  · rw [decide_eq_false hp, Bool.not_false, fk_t, if_neg hp]
  have h32 := hp.2.1
  have hlen := heldA_len (l := l) (js := js) hp.1
  rw [decide_eq_true hp, Bool.not_true, fk_f, if_pos hp, bnd_eq (job_First_eq js _ (by omega)), bnd_eq (job_First_eq js _ (by omega))]
  unfold cho
  by_cases c1 : fst js false < 0
  · rw [decide_eq_true c1, fk_t, if_pos c1]
  rw [decide_eq_false c1, fk_f, if_neg c1]
  have hf : (fst js false).toNat < js.length := by rcases fst_cases js false with h | h <;> omega
  rw [jg_lt hf]
  have main : fk (decide (fst js true < 0)) (some (fst js false)) (ix js (fst js false) fun x9 => bnd (job_Held l js) fun x10 => bnd (level_Passes l x9.Task x10) fun x11 => fk x11 (some (fst js false)) (some (fst js true))) = some (if fst js true < 0 ∨ heldN l (heldA l js) < ofN l js[(fst js false).toNat].Task then fst js false else fst js true) := by
    by_cases c2 : fst js true < 0
    · rw [decide_eq_true c2, fk_t, if_pos (.inl c2)]
    rw [decide_eq_false c2, fk_f, ix_int (by omega) hf, bnd_eq (job_Held_eq l js hl), if_pos hp, bnd_eq (level_Passes_eq l _ _ hl (by omega))]
    by_cases c3 : heldN l (heldA l js) < ofN l js[(fst js false).toNat].Task
    · rw [decide_eq_true c3, fk_t, if_pos (.inr c3)]
    · rw [decide_eq_false c3, fk_f, if_neg (fun h => h.elim c2 c3)]
  by_cases c2 : fst js true ≥ 0
  · have ht : (fst js true).toNat < js.length := by rcases fst_cases js true with h | h <;> omega
    rw [decide_eq_true c2, fk_t, ix_int (by omega) hf, ix_int c2 ht, job_Ahead_eq, bnd_some, jg_lt ht]
    by_cases c3 : aheadP js[(fst js false).toNat] js[(fst js true).toNat]
    · rw [decide_eq_true c3, Bool.not_true, fk_f, main, if_neg (c := 0 ≤ fst js true ∧ ¬ aheadP _ _) (fun h => h.2 c3)]
    · rw [decide_eq_false c3, Bool.not_false, fk_t, if_pos (c := 0 ≤ fst js true ∧ _) ⟨c2, c3⟩]
  · rw [decide_eq_false c2, fk_f, fk_f, main, if_neg (c := 0 ≤ fst js true ∧ _) (fun h => c2 h.1)]
theorem ref15_Choose_eq (l : List Task) (js : List Job) (hp : jobsP l js) : ref15_Choose l js = some (cho l js) := by
  unfold ref15_Choose
  simp only [jn_eq]
  have h32 := hp.2.1
  have hlen := heldA_len (l := l) (js := js) hp.1
  rw [bnd_eq (ref14_First_eq js _ (by omega)), bnd_eq (ref14_First_eq js _ (by omega))]
  unfold cho
  by_cases c1 : fst js false < 0
  · rw [decide_eq_false (show ¬ fst js false ≥ 0 by omega), fk_f, fk_f, if_pos c1]
  rw [decide_eq_true (show fst js false ≥ 0 by omega), fk_t, if_neg c1]
  have hf : (fst js false).toNat < js.length := by rcases fst_cases js false with h | h <;> omega
  obtain ⟨t0, _, _, t3, _⟩ := hp.2.2.1 _ (List.getElem_mem hf)
  rw [jg_lt hf]
  have main : (fst js true < 0 → heldN l (heldA l js) < ofN l js[(fst js false).toNat].Task) → (ix js (fst js false) fun x7 => bnd (ref06_Of l x7.Task) fun x8 => bnd (ref14_Held l js) fun x9 => bnd (ref06_Held l x9) fun x10 => fk (decide (x8 > x10)) (some (fst js false)) (some (fst js true))) = some (if fst js true < 0 ∨ heldN l (heldA l js) < ofN l js[(fst js false).toNat].Task then fst js false else fst js true) := by
    intro hx
    rw [ix_int (by omega) hf, bnd_eq (ref06_Of_eq l _ hp.1.len hp.1 t0 t3), bnd_eq (ref14_Held_eq l js hp), bnd_eq (ref06_Held_eq l _ hp.1 (by omega))]
    by_cases c3 : heldN l (heldA l js) < ofN l js[(fst js false).toNat].Task
    · rw [decide_eq_true (show (ofN l js[(fst js false).toNat].Task : Int) > (heldN l (heldA l js) : Int) by omega), fk_t, if_pos (.inr c3)]
    · rw [decide_eq_false (show ¬ (ofN l js[(fst js false).toNat].Task : Int) > (heldN l (heldA l js) : Int) by omega), fk_f, if_neg (fun h => h.elim (fun h => c3 (hx h)) c3)]
  by_cases c2 : fst js true < 0
  · rw [decide_eq_true c2, fk_t, fk_t, main fun _ => ?_, if_neg (c := 0 ≤ fst js true ∧ _) (fun h => by omega)]
    rw [heldA_none hp (fst_none c2), heldN_none, ofN_lt hp.1 t0 t3]
    unfold levelN; omega
  have ht : (fst js true).toNat < js.length := by rcases fst_cases js true with h | h <;> omega
  rw [decide_eq_false c2, fk_f, ix_int (by omega) hf, ix_int (by omega) ht, ref14_Ahead_eq, bnd_some, jg_lt ht]
  by_cases c3 : aheadP js[(fst js false).toNat] js[(fst js true).toNat]
  · rw [decide_eq_true c3, fk_t, main fun h => absurd h c2, if_neg (c := 0 ≤ fst js true ∧ ¬ aheadP _ _) (fun h => h.2 c3)]
  · rw [decide_eq_false c3, fk_f, if_pos (c := 0 ≤ fst js true ∧ _) ⟨by omega, c3⟩]
/-- What is chosen, by cases. -/
theorem cho_cases {l : List Task} {js : List Job} (hp : jobsP l js) :
    (js = [] ∧ cho l js = -1) ∨ ∃ n, ∃ h : n < js.length, cho l js = (n : Int) ∧
      ((js[n].Began = true ∧ (∀ j ∈ js, j.Began = true → ¬ aheadP j js[n]) ∧ ∀ j ∈ js, j.Began = false → aheadP j js[n] → ∃ f ∈ js, f.Began = false ∧ (∀ j ∈ js, j.Began = false → ¬ aheadP j f) ∧ ∃ hf : f.Task.toNat < l.length, ¬ passD l (heldA l js) l[f.Task.toNat].D) ∨
       (js[n].Began = false ∧ (∀ j ∈ js, j.Began = false → ¬ aheadP j js[n]) ∧ (∀ j ∈ js, j.Began = true → aheadP js[n] j) ∧ ∃ hf : js[n].Task.toNat < l.length, passD l (heldA l js) l[js[n].Task.toNat].D)) := by
  unfold cho
  by_cases c1 : fst js false < 0
  · rw [if_pos c1]
    by_cases c2 : fst js true < 0
    · left
      have h1 := fst_none c1
      have h2 := fst_none c2
      refine ⟨List.eq_nil_iff_forall_not_mem.2 fun j hj => ?_, by rcases fst_cases js true with h | h <;> omega⟩
      cases hb : j.Began with
      | true => exact h2 j hj hb
      | false => exact h1 j hj hb
    · have ht : (fst js true).toNat < js.length := by rcases fst_cases js true with h | h <;> omega
      obtain ⟨h1, h2⟩ := fst_first (by omega) ht
      exact .inr ⟨_, ht, by omega, .inl ⟨h1, h2, fun j hj hb _ => absurd hb (fst_none c1 j hj)⟩⟩
  rw [if_neg c1]
  have hf : (fst js false).toNat < js.length := by rcases fst_cases js false with h | h <;> omega
  obtain ⟨t0, _, _, t3, _⟩ := hp.2.2.1 _ (List.getElem_mem hf)
  obtain ⟨f1, f2⟩ := fst_first (b := false) (by omega) hf
  rw [jg_lt hf]
  right
  by_cases c2 : 0 ≤ fst js true ∧ ¬ aheadP js[(fst js false).toNat] (jg js (fst js true))
  · rw [if_pos c2]
    have ht : (fst js true).toNat < js.length := by rcases fst_cases js true with h | h <;> omega
    rw [jg_lt ht] at c2
    obtain ⟨h1, h2⟩ := fst_first c2.1 ht
    exact ⟨_, ht, by omega, .inl ⟨h1, h2, fun j hj hb ha => absurd (aheadP_of (f2 j hj hb) ha) c2.2⟩⟩
  rw [if_neg c2]
  by_cases c3 : fst js true < 0 ∨ heldN l (heldA l js) < ofN l js[(fst js false).toNat].Task
  · rw [if_pos c3]
    refine ⟨_, hf, by omega, .inr ⟨f1, f2, fun j hj hb => ?_, t3, ?_⟩⟩
    · by_cases c4 : fst js true < 0
      · exact absurd hb (fst_none c4 j hj)
      · have ht : (fst js true).toNat < js.length := by rcases fst_cases js true with h | h <;> omega
        obtain ⟨h1, h2⟩ := fst_first (b := true) (by omega) ht
        have h3 : aheadP js[(fst js false).toNat] js[(fst js true).toNat] := by
          by_cases c : aheadP js[(fst js false).toNat] js[(fst js true).toNat]
          · exact c
          · exact absurd ⟨by omega, by rw [jg_lt ht]; exact c⟩ c2
        exact aheadP_of' h3 (h2 j hj hb)
    · rw [← passes_iff hp.1 t0 t3]
      rcases c3 with c3 | c3
      · rw [heldA_none hp (fst_none c3), heldN_none, ofN_lt hp.1 t0 t3]; unfold levelN; omega
      · exact c3
  · rw [if_neg c3]
    have c4 : ¬ fst js true < 0 := fun h => c3 (.inl h)
    have ht : (fst js true).toNat < js.length := by rcases fst_cases js true with h | h <;> omega
    obtain ⟨h1, h2⟩ := fst_first (b := true) (by omega) ht
    refine ⟨_, ht, by omega, .inl ⟨h1, h2, fun j hj hb ha => ⟨_, List.getElem_mem hf, f1, f2, t3, ?_⟩⟩⟩
    rw [← passes_iff hp.1 t0 t3]
    exact fun h => c3 (.inr h)


/-! A tick. -/
def upd (j : Job) : Job := ⟨j.Task, j.At, j.Due, j.Want, j.Had + 1, true⟩
def taskC (l : List Task) (j : Job) : Int := match l[j.Task.toNat]? with | some t => t.C | none => 0
def overB (l : List Task) (j : Job) : Bool := decide (j.Had + 1 ≥ (if taskC l j < j.Want then taskC l j else j.Want))
def zeroJ : Job := ⟨0, 0, 0, 0, 0, false⟩
def tickN (l : List Task) (js : List Job) (n : Nat) (h : n < js.length) : List Job := if overB l js[n] = true then js.eraseIdx n else js.set n (upd js[n])
open Classical in
noncomputable def tick (l : List Task) (js : List Job) : List Job × Job × Bool :=
  if h : jobsP l js ∧ 0 ≤ cho l js ∧ (cho l js).toNat < js.length then (tickN l js (cho l js).toNat h.2.2, upd js[(cho l js).toNat], overB l js[(cho l js).toNat]) else (js, zeroJ, false)
theorem cho_lt {l : List Task} {js : List Job} (hp : jobsP l js) : cho l js = -1 ∨ (0 ≤ cho l js ∧ (cho l js).toNat < js.length) := by
  rcases cho_cases hp with ⟨_, h⟩ | ⟨n, hn, h, _⟩
  · exact .inl h
  · exact .inr ⟨by omega, by omega⟩
theorem tick_eq {l : List Task} {js : List Job} (hp : jobsP l js) {n : Nat} (hn : n < js.length) (ec : cho l js = (n : Int)) : tick l js = (tickN l js n hn, upd js[n], overB l js[n]) := by
  obtain rfl : n = (cho l js).toNat := by omega
  unfold tick
  rw [dif_pos ⟨hp, by omega, hn⟩]
theorem cho_nat {l : List Task} {js : List Job} (hp : jobsP l js) : cho l js = -1 ∨ ∃ n, ∃ hn : n < js.length, cho l js = (n : Int) := by
  rcases cho_cases hp with ⟨_, h⟩ | ⟨n, hn, h, _⟩
  · exact .inl h
  · exact .inr ⟨n, hn, h⟩
theorem tickN_form {l : List Task} {js : List Job} {n : Nat} (h : n < js.length) : tickN l js n h = js.take n ++ (if overB l js[n] = true then [] else [upd js[n]]) ++ js.drop (n + 1) := by
  unfold tickN
  split
  · rw [List.eraseIdx_eq_take_drop_succ]; simp
  · rw [List.set_eq_take_append_cons_drop, if_pos h]; simp
theorem had_bound {l : List Task} {js : List Job} (hp : jobsP l js) {j : Job} (hj : j ∈ js) : 0 ≤ j.Had ∧ j.Had < 200 ∧ j.Had < j.Want ∧ j.Had < taskC l j ∧ j.Want ≤ 200 ∧ taskC l j ≤ 200 := by
  obtain ⟨_, _, _, h4, hb⟩ := hp.2.2.1 j hj
  have hc := hp.1.1 _ (List.getElem_mem h4)
  have := hc.1
  unfold ownP at this
  unfold bodyP at hb
  unfold taskC
  rw [List.getElem?_eq_getElem h4]
  simp only
  omega
theorem srp_Tick_eq (l : List Task) (js : List Job) (hl : l.length ≤ 4611686018427387904) : srp_Tick l js = some (tick l js) := by
  unfold srp_Tick
  simp only [jn_eq]
  rw [bnd_eq (srp_Choose_eq l js hl)]
  by_cases hp : jobsP l js
  rotate_left
  · rw [if_neg hp, decide_eq_true (by omega), fk_t, tick, dif_neg (fun h => hp h.1)]; rfl
  rw [if_pos hp]
  have h32 := hp.2.1
  rcases cho_nat hp with hc | ⟨n, hn, ec⟩
  · rw [decide_eq_true (by omega), fk_t, tick, dif_neg (fun h => by omega)]; rfl
  rw [tick_eq hp hn ec, ec]
  obtain ⟨t0, t1, t2, t3, tb⟩ := hp.2.2.1 _ (List.getElem_mem hn)
  have hb := had_bound hp (List.getElem_mem hn)
  have eC : taskC l js[n] = l[js[n].Task.toNat].C := by unfold taskC; rw [List.getElem?_eq_getElem t3]
  rw [decide_eq_false (by omega), fk_f, ix_lt hn, ix_int t0 t3, ← eC, wr_in _ (by omega), wr_in _ (by omega), tickN_form hn]
  have e2 : ∀ m : List Job, (([] : List Job) ++ ((js.take (n : Int).toNat).drop (0 : Int).toNat)) ++ m ++ ((js.take (js.length : Int).toNat).drop ((n : Int) + 1).toNat) = js.take n ++ m ++ js.drop (n + 1) := by
    intro m
    rw [show ((n : Int) + 1).toNat = n + 1 by omega]; simp
  rw [ck_t (by simp; omega), ck_t (by simp; omega)]
  show fk (!overB l js[n]) _ _ = _
  cases ho : overB l js[n] with
  | true =>
    rw [Bool.not_true, fk_f, ck_t (by simp; omega), ck_t (by simp; omega), if_pos rfl, ← e2 [], List.append_nil]
    show some (_, upd js[n], overB l js[n]) = _
    rw [ho]
  | false =>
    rw [Bool.not_false, fk_t, ck_t (by simp; omega), ck_t (by simp; omega), ck_t (by simp; omega), show (if false = true then ([] : List Job) else [upd js[n]]) = [upd js[n]] from if_neg (by simp), ← e2]
    show some (_, upd js[n], overB l js[n]) = _
    rw [ho]; rfl
theorem over_iff {l : List Task} {js : List Job} (hp : jobsP l js) {j : Job} (hj : j ∈ js) : overB l j = (decide (j.Had + 1 = j.Want) || decide (j.Had + 1 = taskC l j)) := by
  have hb := had_bound hp hj
  unfold overB
  by_cases c : taskC l j < j.Want
  · rw [if_pos c]
    rw [Bool.eq_iff_iff]; simp only [decide_eq_true_eq, Bool.or_eq_true]; omega
  · rw [if_neg c]
    rw [Bool.eq_iff_iff]; simp only [decide_eq_true_eq, Bool.or_eq_true]; omega
theorem ref15_Tick_eq (l : List Task) (js : List Job) (hp : jobsP l js) : ref15_Tick l js = some (tick l js) := by
  unfold ref15_Tick
  simp only [jn_eq]
  rw [bnd_eq (ref15_Choose_eq l js hp)]
  have h32 := hp.2.1
  rcases cho_nat hp with hc | ⟨n, hn, ec⟩
  · rw [decide_eq_true (by omega), fk_t, tick, dif_neg (fun h => by omega)]; rfl
  rw [tick_eq hp hn ec, ec]
  have hov := over_iff hp (List.getElem_mem hn)
  obtain ⟨t0, t1, t2, t3, tb⟩ := hp.2.2.1 _ (List.getElem_mem hn)
  have hb := had_bound hp (List.getElem_mem hn)
  have eC : taskC l js[n] = l[js[n].Task.toNat].C := by unfold taskC; rw [List.getElem?_eq_getElem t3]
  rw [decide_eq_false (by omega), fk_f, tickN_form hn]
  refine lp_inv (fun v => js.length - v.2.2.2.2.2.2.2.2.toNat) (fun v => ∃ (k : Nat) (r : Job) (out : List Job) (ov : Bool), v = (r.Task, r.At, r.Due, r.Want, r.Had, r.Began, out, ov, (k : Int)) ∧ k ≤ js.length ∧ ((k ≤ n ∧ r = zeroJ ∧ out = js.take k ∧ ov = false) ∨ (n < k ∧ r = upd js[n] ∧ out = js.take n ++ (if overB l js[n] = true then [] else [upd js[n]]) ++ (js.take k).drop (n + 1) ∧ ov = overB l js[n]))) ?_ FU _ ⟨0, zeroJ, [], false, rfl, Nat.zero_le _, .inl ⟨Nat.zero_le _, rfl, by simp, rfl⟩⟩ (by unfold FU; simp; omega)
  rintro nx v ⟨k, r, out, ov, rfl, hk, J⟩ hnx
  simp only
  rw [lt_nat]
  by_cases h : k < js.length
  rotate_left
  · rw [decide_eq_false h, fk_f]
    have ek : k = js.length := by omega
    rcases J with ⟨h1, _⟩ | ⟨h1, rfl, rfl, rfl⟩
    · omega
    · rw [ek, List.take_length]
  rw [decide_eq_true h, fk_t, ix_lt h]
  have hw : wr ((k : Int) + 1) = ((k + 1 : Nat) : Int) := wr_succ k _ h (by omega)
  rw [hw]
  have hbk := had_bound hp (List.getElem_mem h)
  rcases Nat.lt_trichotomy k n with c | c | c
  · rcases J with ⟨_, rfl, rfl, rfl⟩ | ⟨h1, _⟩
    rotate_left
    · omega
    rw [decide_eq_false (show ¬ (k : Int) = (n : Int) by omega), fk_f, Bool.not_false, fk_t, ck_t (by simp; omega)]
    refine hnx _ ⟨k + 1, zeroJ, _, false, rfl, by omega, .inl ⟨by omega, rfl, ?_, rfl⟩⟩ (by simp only [Int.toNat_natCast]; omega)
    rw [← List.take_append_getElem h]
  · subst c
    rcases J with ⟨_, rfl, rfl, rfl⟩ | ⟨h1, _⟩
    rotate_left
    · omega
    rw [decide_eq_true rfl, fk_t, Bool.not_true, fk_f, wr_in _ (by omega)]
    have fin : ∀ o, o = overB l js[k] → fk (!o) (ck (decide (((js.take k).length + ([⟨js[k].Task, js[k].At, js[k].Due, js[k].Want, js[k].Had + 1, true⟩] : List Job).length) * 48 ≤ 140737488355328)) (nx (js[k].Task, js[k].At, js[k].Due, js[k].Want, js[k].Had + 1, true, js.take k ++ ([⟨js[k].Task, js[k].At, js[k].Due, js[k].Want, js[k].Had + 1, true⟩] : List Job), o, ((k + 1 : Nat) : Int)))) (nx (js[k].Task, js[k].At, js[k].Due, js[k].Want, js[k].Had + 1, true, js.take k, o, ((k + 1 : Nat) : Int))) = some (js.take k ++ (if overB l js[k] = true then [] else [upd js[k]]) ++ js.drop (k + 1), upd js[k], overB l js[k]) := by
      intro o ho
      cases o with
      | true =>
        rw [Bool.not_true, fk_f]
        exact hnx _ ⟨k + 1, upd js[k], _, true, rfl, by omega, .inr ⟨by omega, rfl, by rw [← ho, if_pos rfl]; simp, ho⟩⟩ (by simp only [Int.toNat_natCast]; omega)
      | false =>
        rw [Bool.not_false, fk_t, ck_t (by simp; omega)]
        exact hnx _ ⟨k + 1, upd js[k], _, false, rfl, by omega, .inr ⟨by omega, rfl, by rw [← ho, if_neg (by simp)]; simp [upd], ho⟩⟩ (by simp only [Int.toNat_natCast]; omega)
    by_cases c1 : js[k].Had + 1 = js[k].Want
    · rw [decide_eq_true c1, fk_t]
      exact fin true (by rw [hov, decide_eq_true c1]; rfl)
    · rw [decide_eq_false c1, fk_f, ix_int t0 t3, ← eC]
      exact fin _ (by rw [hov, decide_eq_false c1]; rfl)
  · rcases J with ⟨h1, _⟩ | ⟨_, rfl, rfl, rfl⟩
    · omega
    rw [decide_eq_false (show ¬ (k : Int) = (n : Int) by omega), fk_f, Bool.not_false, fk_t, ck_t (by
      have : (if overB l js[n] = true then ([] : List Job) else [upd js[n]]).length ≤ 1 := by split <;> simp
      simp only [List.length_append, List.length_take, List.length_drop, List.length_cons, List.length_nil]; simp; omega)]
    refine hnx _ ⟨k + 1, upd js[n], _, overB l js[n], rfl, by omega, .inr ⟨by omega, rfl, ?_, rfl⟩⟩ (by simp only [Int.toNat_natCast]; omega)
    rw [← List.take_append_getElem h, List.drop_append, List.append_assoc, List.append_assoc, List.append_assoc]
    rw [show n + 1 - (js.take k).length = 0 by rw [List.length_take]; omega]
    simp


theorem upd_apart {a b : Job} : apartJ (upd a) b ↔ apartJ a b := Iff.rfl
theorem upd_apart' {a b : Job} : apartJ a (upd b) ↔ apartJ a b := Iff.rfl
theorem upd_ahead {a b : Job} : aheadP (upd a) b ↔ aheadP a b := Iff.rfl
theorem upd_ahead' {a b : Job} : aheadP a (upd b) ↔ aheadP a b := Iff.rfl
/-- Where what is there behind a tick comes from. -/
theorem mem_tickN {l : List Task} {js : List Job} {n : Nat} {h : n < js.length} {j : Job} (hj : j ∈ tickN l js n h) : (∃ k, ∃ hk : k < js.length, k ≠ n ∧ j = js[k]) ∨ (overB l js[n] = false ∧ j = upd js[n]) := by
  unfold tickN at hj
  split at hj
  · rename_i ho
    obtain ⟨k, hk, rfl⟩ := List.getElem_of_mem hj
    rw [List.length_eraseIdx, if_pos h] at hk
    rw [List.getElem_eraseIdx]
    split
    · exact .inl ⟨k, by omega, by omega, rfl⟩
    · exact .inl ⟨k + 1, by omega, by omega, rfl⟩
  · rename_i ho
    obtain ⟨k, hk, rfl⟩ := List.getElem_of_mem hj
    rw [List.length_set] at hk
    rw [List.getElem_set]
    split
    · exact .inr ⟨by simpa using ho, rfl⟩
    · exact .inl ⟨k, hk, by omega, rfl⟩
theorem jobsP_tickN {l : List Task} {js : List Job} (hp : jobsP l js) (n : Nat) (h : n < js.length) : jobsP l (tickN l js n h) := by
  refine ⟨hp.1, ?_, fun j hj => ?_, ?_⟩
  · have := hp.2.1
    unfold tickN
    split
    · rw [List.length_eraseIdx, if_pos h]; omega
    · rw [List.length_set]; exact this
  · rcases mem_tickN hj with ⟨k, hk, _, rfl⟩ | ⟨ho, rfl⟩
    · exact hp.2.2.1 _ (List.getElem_mem hk)
    · have hov := over_iff hp (List.getElem_mem h)
      have hb := had_bound hp (List.getElem_mem h)
      obtain ⟨t0, t1, t2, t3, tb⟩ := hp.2.2.1 _ (List.getElem_mem h)
      have eC : taskC l js[n] = l[js[n].Task.toNat].C := by unfold taskC; rw [List.getElem?_eq_getElem t3]
      rw [ho] at hov
      simp only [Bool.false_eq, Bool.or_eq_false_iff, decide_eq_false_iff_not] at hov
      refine ⟨t0, t1, t2, t3, ?_⟩
      unfold bodyP at *
      exact ⟨tb.1, tb.2.1, tb.2.2.1, by simp only [upd]; omega, by simp only [upd]; omega, by simp only [upd]; rw [← eC]; omega, .inl rfl⟩
  · unfold tickN
    split
    · exact hp.2.2.2.sublist (List.eraseIdx_sublist _ _)
    · rw [List.pairwise_iff_getElem]
      intro i k hi hk hik
      rw [List.length_set] at hi hk
      have hpw := List.pairwise_iff_getElem.1 hp.2.2.2 i k hi hk hik
      rw [List.getElem_set, List.getElem_set]
      split <;> split
      · omega
      · rename_i e _; subst e; exact hpw
      · rename_i _ e; subst e; exact hpw
      · exact hpw
theorem jobsP_tick {l : List Task} {js : List Job} (hp : jobsP l js) : jobsP l (tick l js).1 := by
  rcases cho_nat hp with hc | ⟨n, hn, ec⟩
  · rw [tick, dif_neg (fun h => by omega)]; exact hp
  · rw [tick_eq hp hn ec]; exact jobsP_tickN hp n hn

/-! What jobs hold, of those that began. -/
def taskD (l : List Task) (j : Job) : Int := match l[j.Task.toNat]? with | some t => t.D | none => 0
theorem taskD_of {l : List Task} {j : Job} (h : j.Task.toNat < l.length) : taskD l j = l[j.Task.toNat].D := by unfold taskD; rw [List.getElem?_eq_getElem h]
def InvS (l : List Task) (js : List Job) : Prop := ∀ a ∈ js, ∀ b ∈ js, a.Began = true → b.Began = true → aheadP a b → passD l (heldJ l b) (taskD l a)
theorem passD_sub {l : List Task} {h h' : List Int} {D : Int} (hs : ∀ r ∈ h', r ∈ h) (hp : passD l h D) : passD l h' D := fun r hr => hp r (hs r hr)
theorem heldJ_sub {l : List Task} {js : List Job} {j : Job} (hj : j ∈ js) : ∀ r ∈ heldJ l j, r ∈ heldA l js := fun r hr => List.mem_flatMap.2 ⟨j, hj, hr⟩
theorem InvS_tickN {l : List Task} {js : List Job} (hp : jobsP l js) (hI : InvS l js) {n : Nat} (h : n < js.length) (ec : cho l js = (n : Int)) : InvS l (tickN l js n h) := by
  have key : (∀ j ∈ js, j.Began = true → ¬ aheadP j js[n]) ∧ ∀ j ∈ js, j.Began = true → aheadP js[n] j → passD l (heldJ l j) (taskD l js[n]) := by
    rcases cho_cases hp with ⟨_, h1⟩ | ⟨m, hm, h1, h2⟩
    · omega
    · have : m = n := by omega
      subst this
      rcases h2 with ⟨b1, b2, _⟩ | ⟨b1, b2, b3, hf, b4⟩
      · exact ⟨b2, fun j hj hb ha => hI _ (List.getElem_mem h) j hj b1 hb ha⟩
      · refine ⟨fun j hj hb => aheadP_asymm (b3 j hj hb), fun j hj hb ha => ?_⟩
        rw [taskD_of hf]
        exact passD_sub (heldJ_sub hj) b4
  intro a ha b hb hab hbb hh
  rcases mem_tickN ha with ⟨i, hi, _, rfl⟩ | ⟨_, rfl⟩ <;> rcases mem_tickN hb with ⟨k, hk, _, rfl⟩ | ⟨_, rfl⟩
  · exact hI _ (List.getElem_mem hi) _ (List.getElem_mem hk) hab hbb hh
  · exact absurd (upd_ahead'.1 hh) (key.1 _ (List.getElem_mem hi) hab)
  · exact key.2 _ (List.getElem_mem hk) hbb (upd_ahead.1 hh)
  · exact absurd (upd_ahead.1 (upd_ahead'.1 hh)) (aheadP_irr _)
theorem InvS_tick {l : List Task} {js : List Job} (hp : jobsP l js) (hI : InvS l js) : InvS l (tick l js).1 := by
  rcases cho_nat hp with hc | ⟨n, hn, ec⟩
  · rw [tick, dif_neg (fun h => by omega)]; exact hI
  · rw [tick_eq hp hn ec]; exact InvS_tickN hp hI hn ec
theorem InvS_add {l : List Task} {js : List Job} {j : Job} (hI : InvS l js) (hj : j.Began = false) : InvS l (js ++ [j]) := by
  intro a ha b hb hab hbb
  rcases List.mem_append.1 ha with ha | ha
  · rcases List.mem_append.1 hb with hb | hb
    · exact hI a ha b hb hab hbb
    · rw [List.mem_singleton.1 hb, hj] at hbb; cases hbb
  · rw [List.mem_singleton.1 ha, hj] at hab; cases hab
theorem held_began {l : List Task} {js : List Job} (hp : jobsP l js) {j : Job} (hj : j ∈ js) {r : Int} (hr : r ∈ heldJ l j) : j.Began = true ∧ ∃ h : j.Task.toNat < l.length, usesP l[j.Task.toNat] r := by
  obtain ⟨_, _, _, h4, hb⟩ := hp.2.2.1 j hj
  have hR := hp.1.1 _ (List.getElem_mem h4)
  rw [heldJ_of h4] at hr
  refine ⟨?_, h4, held_uses hR hr⟩
  rcases hb.2.2.2.2.2.2 with h5 | h5
  · exact h5
  · rw [held_out hR (.inl (by omega))] at hr; cases hr
theorem heldA_nodup {l : List Task} {js : List Job} (hp : jobsP l js) (hI : InvS l js) : (heldA l js).Nodup := by
  unfold heldA List.Nodup
  rw [List.pairwise_flatMap]
  refine ⟨fun j hj => ?_, ?_⟩
  · obtain ⟨_, _, _, h4, hb⟩ := hp.2.2.1 j hj
    rw [heldJ_of h4]
    exact held_nodup (hp.1.1 _ (List.getElem_mem h4)) _
  · refine (List.Pairwise.and_mem.1 hp.2.2.2).imp ?_
    rintro a b ⟨ha, hb, hab⟩ x hx y hy e
    subst e
    obtain ⟨a1, a2, a3⟩ := held_began hp ha hx
    obtain ⟨b1, b2, b3⟩ := held_began hp hb hy
    rcases apart_total hab with h | h
    · have := hI a ha b hb a1 b1 h x hy _ (List.getElem_mem a2) a3
      rw [taskD_of a2] at this; omega
    · have := hI b hb a ha b1 a1 h x hx _ (List.getElem_mem b2) b3
      rw [taskD_of b2] at this; omega

/-! Jobs that came to be. -/
def GrowP (l : List Task) (k : Nat) (js : List Job) : Prop := jobsP l js ∧ InvS l js ∧ ∀ j ∈ js, j.At < (k : Int)
theorem jobsP_nil {l : List Task} (ha : AllP l) : jobsP l [] := ⟨ha, Nat.zero_le _, fun j hj => (List.not_mem_nil hj).elim, List.Pairwise.nil⟩

/-! Releases, not too early. -/
def lastsP (l : List Task) (ls : List Int) : Prop := AllP l ∧ ls.length = l.length ∧ ∀ x ∈ ls, -1 ≤ x ∧ x ≤ 4611686018427387903
noncomputable instance (l : List Task) (ls : List Int) : Decidable (lastsP l ls) := Classical.propDecidable _
def argP (l : List Task) (ls : List Int) (i t : Int) : Prop := lastsP l ls ∧ 0 ≤ i ∧ i < (l.length : Int) ∧ 0 ≤ t ∧ t ≤ 4611686018427387703
noncomputable instance (l : List Task) (ls : List Int) (i t : Int) : Decidable (argP l ls i t) := Classical.propDecidable _
def lg (ls : List Int) (i : Int) : Int := (ls[i.toNat]?).getD 0
def tT (l : List Task) (i : Int) : Int := match l[i.toNat]? with | some t => t.T | none => 0
theorem lg_lt {ls : List Int} {i : Int} (h : i.toNat < ls.length) : lg ls i = ls[i.toNat] := by unfold lg; rw [List.getElem?_eq_getElem h]; rfl
theorem tT_lt {l : List Task} {i : Int} (h : i.toNat < l.length) : tT l i = l[i.toNat].T := by unfold tT; rw [List.getElem?_eq_getElem h]
noncomputable def mayV (l : List Task) (ls : List Int) (i t : Int) : Int := if argP l ls i t then (if lg ls i ≠ -1 ∧ t < lg ls i + tT l i then 6 else 0) else 1
theorem police_Right_eq (l : List Task) (ls : List Int) (hl : l.length ≤ 4611686018427387904) (hs : ls.length ≤ 4611686018427387904) : police_Right l ls = some (decide (lastsP l ls)) := by
  unfold police_Right
  simp only [jn_eq, fk_t, fk_f]
  rw [bnd_eq (task_All_eq l hl)]
  by_cases ha : AllP l
  rotate_left
  · rw [decide_eq_false ha, Bool.not_false, fk_t]; exact dec_f fun h => ha h.1
  rw [decide_eq_true ha, Bool.not_true, fk_f]
  by_cases hn : (ls.length : Int) = (l.length : Int)
  rotate_left
  · rw [decide_eq_false hn, Bool.not_false, fk_t]; exact dec_f fun h => hn (by rw [h.2.1])
  rw [decide_eq_true hn, Bool.not_true, fk_f]
  refine lp_up ls.length (by unfold FU; omega) (fun k => ∀ i (h : i < ls.length), i < k → -1 ≤ ls[i] ∧ ls[i] ≤ 4611686018427387903) (fun i _ h => by omega) ?_
  intro nx k hk J hnx
  rw [lt_nat]
  by_cases h : k < ls.length
  rotate_left
  · rw [decide_eq_false h, fk_f]
    refine dec_t ⟨ha, by omega, fun x hx => ?_⟩
    obtain ⟨i, hi, rfl⟩ := List.getElem_of_mem hx
    exact J i hi (by omega)
  rw [decide_eq_true h, fk_t, ix_lt h, wr_succ k _ h hs]
  by_cases c1 : ls[k] < -1
  · rw [decide_eq_true c1, fk_t]; exact dec_f fun h2 => by have := (h2.2.2 _ (List.getElem_mem h)).1; omega
  rw [decide_eq_false c1, fk_f]
  by_cases c2 : ls[k] > 4611686018427387903
  · rw [decide_eq_true c2, fk_t]; exact dec_f fun h2 => by have := (h2.2.2 _ (List.getElem_mem h)).2; omega
  rw [decide_eq_false c2, fk_f]
  refine hnx h fun i hi hik => ?_
  by_cases e : i = k
  · subst e; omega
  · exact J i hi (by omega)
theorem ref16_Right_eq (l : List Task) (ls : List Int) (hl : l.length ≤ 4611686018427387904) (hsl : ∀ t ∈ l, t.Secs.length ≤ 4611686018427387904) (hs : ls.length ≤ 4611686018427387904) : ref16_Right l ls = some (decide (lastsP l ls)) := by
  unfold ref16_Right
  simp only [jn_eq, fk_t, fk_f]
  by_cases hn : (ls.length : Int) = (l.length : Int)
  rotate_left
  · rw [decide_eq_false hn, Bool.not_false, fk_t]; exact dec_f fun h => hn (by rw [h.2.1])
  rw [decide_eq_true hn, Bool.not_true, fk_f, bnd_eq (ref05_All_eq l hl hsl)]
  by_cases ha : AllP l
  rotate_left
  · rw [decide_eq_false ha, Bool.not_false, fk_t]; exact dec_f fun h => ha h.1
  rw [decide_eq_true ha, Bool.not_true, fk_f]
  refine lp_up ls.length (by unfold FU; omega) (fun k => ∀ i (h : i < ls.length), i < k → -1 ≤ ls[i] ∧ ls[i] ≤ 4611686018427387903) (fun i _ h => by omega) ?_
  intro nx k hk J hnx
  rw [lt_nat]
  by_cases h : k < ls.length
  rotate_left
  · rw [decide_eq_false h, fk_f]
    refine dec_t ⟨ha, by omega, fun x hx => ?_⟩
    obtain ⟨i, hi, rfl⟩ := List.getElem_of_mem hx
    exact J i hi (by omega)
  rw [decide_eq_true h, fk_t]
  simp only [ix_lt h]
  rw [wr_succ k _ h hs]
  by_cases c1 : ls[k] < -1
  · rw [decide_eq_true c1, fk_t]; exact dec_f fun h2 => by have := (h2.2.2 _ (List.getElem_mem h)).1; omega
  rw [decide_eq_false c1, fk_f]
  by_cases c2 : ls[k] > 4611686018427387903
  · rw [decide_eq_true c2, fk_t]; exact dec_f fun h2 => by have := (h2.2.2 _ (List.getElem_mem h)).2; omega
  rw [decide_eq_false c2, fk_f]
  refine hnx h fun i hi hik => ?_
  by_cases e : i = k
  · subst e; omega
  · exact J i hi (by omega)
theorem argP_idx {l : List Task} {ls : List Int} {i t : Int} (h : argP l ls i t) : i.toNat < l.length ∧ i.toNat < ls.length := by
  have := h.1.2.1; have := h.2.1; have := h.2.2.1; omega
theorem argP_b {l : List Task} {ls : List Int} {i t : Int} (h : argP l ls i t) : -1 ≤ lg ls i ∧ lg ls i ≤ 4611686018427387903 ∧ 1 ≤ tT l i ∧ tT l i ≤ 200 := by
  obtain ⟨h1, h2⟩ := argP_idx h
  rw [lg_lt h2, tT_lt h1]
  have a := h.1.2.2 _ (List.getElem_mem h2)
  have b := (h.1.1.1 _ (List.getElem_mem h1)).1
  unfold ownP at b
  omega
theorem police_May_eq (l : List Task) (ls : List Int) (i t : Int) (hl : l.length ≤ 4611686018427387904) (hs : ls.length ≤ 4611686018427387904) : police_May l ls i t = some (mayV l ls i t) := by
  unfold police_May mayV
  simp only [jn_eq, fk_t, fk_f]
  rw [bnd_eq (police_Right_eq l ls hl hs)]
  by_cases ha : lastsP l ls
  rotate_left
  · rw [decide_eq_false ha, Bool.not_false, fk_t, if_neg (fun h => ha h.1)]
  rw [decide_eq_true ha, Bool.not_true, fk_f]
  by_cases c1 : i < 0
  · rw [decide_eq_true c1, fk_t, if_neg (fun h => by have := h.2.1; omega)]
  rw [decide_eq_false c1, fk_f]
  by_cases c2 : i ≥ (l.length : Int)
  · rw [decide_eq_true c2, fk_t, if_neg (fun h => by have := h.2.2.1; omega)]
  rw [decide_eq_false c2, fk_f]
  by_cases c3 : t < 0
  · rw [decide_eq_true c3, fk_t, if_neg (fun h => by have := h.2.2.2.1; omega)]
  rw [decide_eq_false c3, fk_f]
  by_cases c4 : t > 4611686018427387703
  · rw [decide_eq_true c4, fk_t, if_neg (fun h => by have := h.2.2.2.2; omega)]
  have hA : argP l ls i t := ⟨ha, by omega, by omega, by omega, by omega⟩
  obtain ⟨h1, h2⟩ := argP_idx hA
  have hb := argP_b hA
  rw [decide_eq_false c4, fk_f, if_pos hA]
  have i2 : ∀ {f : Int → Option Int}, ix ls i f = f (lg ls i) := fun {f} => by rw [lg_lt h2]; exact ix_int (by omega) h2
  have i1 : ∀ {f : Task → Option Int}, ix l i f = f l[i.toNat] := fun {f} => ix_int (by omega) h1
  simp only [i1, i2]
  rw [← tT_lt h1]
  by_cases c5 : lg ls i = -1
  · rw [decide_eq_true c5, Bool.not_true, fk_f, if_neg (fun h => h.1 c5)]
  rw [decide_eq_false c5, Bool.not_false, fk_t, wr_in _ (by omega)]
  by_cases c6 : t < lg ls i + tT l i
  · rw [decide_eq_true c6, fk_t, if_pos ⟨c5, c6⟩]
  · rw [decide_eq_false c6, fk_f, if_neg (fun h => c6 h.2)]
theorem ref16_May_eq (l : List Task) (ls : List Int) (i t : Int) (hl : l.length ≤ 4611686018427387904) (hsl : ∀ t ∈ l, t.Secs.length ≤ 4611686018427387904) (hs : ls.length ≤ 4611686018427387904) : ref16_May l ls i t = some (mayV l ls i t) := by
  unfold ref16_May mayV
  simp only [jn_eq, fk_t, fk_f]
  rw [bnd_eq (ref16_Right_eq l ls hl hsl hs)]
  by_cases ha : lastsP l ls
  rotate_left
  · rw [decide_eq_false ha, Bool.not_false, fk_t, if_neg (fun h => ha h.1)]
  rw [decide_eq_true ha, Bool.not_true, fk_f]
  by_cases c1 : i < 0
  · rw [decide_eq_true c1, fk_t, if_neg (fun h => by have := h.2.1; omega)]
  rw [decide_eq_false c1, fk_f]
  by_cases c2 : i ≥ (l.length : Int)
  · rw [decide_eq_true c2, fk_t, if_neg (fun h => by have := h.2.2.1; omega)]
  rw [decide_eq_false c2, fk_f]
  by_cases c3 : t < 0
  · rw [decide_eq_true c3, fk_t, if_neg (fun h => by have := h.2.2.2.1; omega)]
  rw [decide_eq_false c3, fk_f]
  by_cases c4 : t > 4611686018427387703
  · rw [decide_eq_true c4, fk_t, if_neg (fun h => by have := h.2.2.2.2; omega)]
  have hA : argP l ls i t := ⟨ha, by omega, by omega, by omega, by omega⟩
  obtain ⟨h1, h2⟩ := argP_idx hA
  have hb := argP_b hA
  rw [decide_eq_false c4, fk_f, if_pos hA]
  have i2 : ∀ {f : Int → Option Int}, ix ls i f = f (lg ls i) := fun {f} => by rw [lg_lt h2]; exact ix_int (by omega) h2
  have i1 : ∀ {f : Task → Option Int}, ix l i f = f l[i.toNat] := fun {f} => ix_int (by omega) h1
  simp only [i1, i2]
  rw [← tT_lt h1]
  by_cases c5 : lg ls i ≥ 0
  rotate_left
  · rw [decide_eq_false c5, fk_f, if_neg (fun h => by omega)]
  rw [decide_eq_true c5, fk_t, wr_in _ (by omega)]
  by_cases c6 : t - lg ls i < tT l i
  · rw [decide_eq_true c6, fk_t, if_pos ⟨by omega, by omega⟩]
  · rw [decide_eq_false c6, fk_f, if_neg (fun h => by omega)]
noncomputable def noteL (l : List Task) (ls : List Int) (i t : Int) : List Int := if mayV l ls i t = 0 then ls.set i.toNat t else ls
theorem mayV_arg {l : List Task} {ls : List Int} {i t : Int} (h : mayV l ls i t = 0) : argP l ls i t := by
  by_cases c : argP l ls i t
  · exact c
  · unfold mayV at h; rw [if_neg c] at h; omega
theorem noteL_len (l : List Task) (ls : List Int) (i t : Int) : (noteL l ls i t).length = ls.length := by
  unfold noteL; split
  · rw [List.length_set]
  · rfl
theorem police_Note_eq (l : List Task) (ls : List Int) (i t : Int) (hl : l.length ≤ 4611686018427387904) (hs : ls.length ≤ 1000000000) : police_Note l ls i t = some (noteL l ls i t, mayV l ls i t) := by
  unfold police_Note noteL
  rw [bnd_eq (police_May_eq l ls i t hl (by omega))]
  by_cases h : mayV l ls i t = 0
  rotate_left
  · rw [decide_eq_false h, Bool.not_false, fk_t, if_neg h]
  have hA := mayV_arg h
  obtain ⟨h1, h2⟩ := argP_idx hA
  have := hA.2.1
  rw [decide_eq_true h, Bool.not_true, fk_f, if_pos h, ck_t (by simp; omega), List.nil_append, ck_t (by simp; omega), ox_lt h2, h]
theorem lastsP_note {l : List Task} {ls : List Int} (h : lastsP l ls) (i t : Int) : lastsP l (noteL l ls i t) := by
  unfold noteL
  split
  · rename_i h0
    have hA := mayV_arg h0
    refine ⟨h.1, by rw [List.length_set]; exact h.2.1, fun x hx => ?_⟩
    rcases List.mem_or_eq_of_mem_set hx with hx | hx
    · exact h.2.2 x hx
    · subst hx; have := hA.2.2.2; omega
  · exact h
/-! Asks, one by one. -/
def noneL (l : List Task) : List Int := List.replicate l.length (-1)
theorem noneL_P {l : List Task} (ha : AllP l) : lastsP l (noneL l) := ⟨ha, by simp [noneL], fun x hx => by rw [List.eq_of_mem_replicate hx]; omega⟩
theorem take_succ' {α : Type} (l : List α) (k : Nat) (h : k < l.length) : l.take (k + 1) = l.take k ++ [l[k]] := (List.take_append_getElem h).symm
theorem lg_note {l : List Task} {ls : List Int} {i t j : Int} (hj : 0 ≤ j) (hjl : j.toNat < ls.length) : lg (noteL l ls i t) j = if mayV l ls i t = 0 ∧ i = j then t else lg ls j := by
  unfold noteL
  by_cases h : mayV l ls i t = 0
  · rw [if_pos h]
    have hA := mayV_arg h
    have h0 := hA.2.1
    unfold lg
    rw [List.getElem?_set]
    by_cases e : i = j
    · subst e; rw [if_pos rfl, if_pos hjl, if_pos ⟨h, rfl⟩]; rfl
    · rw [if_neg (by omega), if_neg (fun h => e h.2)]
  · rw [if_neg h, if_neg (fun hh => h hh.1)]
end Go.Proofs.Ytakiggekallckaa
namespace Go.Proofs.Ytakiggekallckaa
open Go Go.VC
noncomputable def part_Right (a0 : PartState) : Option Bool :=
  fk (decide ((a0.Leaves.length : Int) = (a0.Tasks.length : Int))) (bnd (police_Right a0.Tasks a0.Lasts) fun x1 => fk x1 (bnd (job_All a0.Tasks a0.Jobs) fun x2 => fk x2 (some (decide ((a0.Log.length : Int) ≤ (2000 : Int)))) (some false)) (some false)) (some false)
theorem part_Right_w (a0 : PartState) (r : Bool) (h : part_Right a0 = some r) : Go.VC.Spec Try.prog 18 [.agg (PartState.enc a0)] (fun y => y = E_Bool r) := by
  refine Go.VC.Spec.of_xc (args := [.agg (PartState.enc a0)]) (fn := Try.f18) tab ⟨[(0, [1]), (1, [2])], [], [], []⟩ 30 [.tmp 2] rfl rfl rfl rfl rfl rfl ?_
  conv => whnf
  refine lenS a0.Leaves eB rfl ?_
  conv => whnf
  refine lenS a0.Tasks Task.enc rfl ?_
  conv => whnf
  refine fkS h (fun h => ?_) (fun h => ?_)
  · conv => whnf
    refine caS (E := E_Bool) h (police_Right_w a0.Tasks a0.Lasts) rfl (fun _ => rfl) (fun x1 h => ?_)
    conv => whnf
    refine fkS h (fun h => ?_) (fun h => ?_)
    · conv => whnf
      refine caS (E := E_Bool) h (job_All_w a0.Tasks a0.Jobs) rfl (fun _ => rfl) (fun x2 h => ?_)
      conv => whnf
      refine fkS h (fun h => ?_) (fun h => ?_)
      · conv => whnf
        refine lenS a0.Log Entry.enc rfl ?_
        conv => whnf
        exact rt (E := E_Bool) h rfl
      conv => whnf
      exact rt (E := E_Bool) h rfl
    conv => whnf
    exact rt (E := E_Bool) h rfl
  conv => whnf
  exact rt (E := E_Bool) h rfl

end Go.Proofs.Ytakiggekallckaa
namespace Go.Proofs.Ytakiggekallckaa
open Go Go.VC
noncomputable def ref17_Right (a0 : Ref17State) : Option Bool :=
  fk (decide ((a0.Leaves.length : Int) = (a0.Tasks.length : Int))) (bnd (ref16_Right a0.Tasks a0.Lasts) fun x1 => fk x1 (bnd (ref14_All a0.Tasks a0.Jobs) fun x2 => fk x2 (some (decide ((a0.Log.length : Int) ≤ (2000 : Int)))) (some false)) (some false)) (some false)
theorem ref17_Right_w (a0 : Ref17State) (r : Bool) (h : ref17_Right a0 = some r) : Go.VC.Spec Try.prog 19 [.agg (Ref17State.enc a0)] (fun y => y = E_Bool r) := by
  refine Go.VC.Spec.of_xc (args := [.agg (Ref17State.enc a0)]) (fn := Try.f19) tab ⟨[(0, [1]), (1, [2])], [], [], []⟩ 30 [.tmp 2] rfl rfl rfl rfl rfl rfl ?_
  conv => whnf
  refine lenS a0.Leaves eB rfl ?_
  conv => whnf
  refine lenS a0.Tasks Task.enc rfl ?_
  conv => whnf
  refine fkS h (fun h => ?_) (fun h => ?_)
  · conv => whnf
    refine caS (E := E_Bool) h (ref16_Right_w a0.Tasks a0.Lasts) rfl (fun _ => rfl) (fun x1 h => ?_)
    conv => whnf
    refine fkS h (fun h => ?_) (fun h => ?_)
    · conv => whnf
      refine caS (E := E_Bool) h (ref14_All_w a0.Tasks a0.Jobs) rfl (fun _ => rfl) (fun x2 h => ?_)
      conv => whnf
      refine fkS h (fun h => ?_) (fun h => ?_)
      · conv => whnf
        refine lenS a0.Log Entry.enc rfl ?_
        conv => whnf
        exact rt (E := E_Bool) h rfl
      conv => whnf
      exact rt (E := E_Bool) h rfl
    conv => whnf
    exact rt (E := E_Bool) h rfl
  conv => whnf
  exact rt (E := E_Bool) h rfl

end Go.Proofs.Ytakiggekallckaa
namespace Go.Proofs.Ytakiggekallckaa
open Go Go.VC
noncomputable def ref17_noted (a0 : List Entry) (a1 : Int) (a2 : Int) (a3 : Int) : Option (List Entry) :=
  fk (decide ((a0.length : Int) ≥ (2000 : Int))) (some a0) (ck (decide ((([] : List Entry).length + a0.length) * 24 ≤ 140737488355328)) (ck (decide (((([] : List Entry) ++ a0).length + ([⟨a1, a2, a3⟩] : List Entry).length) * 24 ≤ 140737488355328)) (some ((([] : List Entry) ++ a0) ++ ([⟨a1, a2, a3⟩] : List Entry)))))
theorem ref17_noted_w (a0 : List Entry) (a1 : Int) (a2 : Int) (a3 : Int) (r : List Entry) (h : ref17_noted a0 a1 a2 a3 = some r) : Go.VC.Spec Try.prog 50 [.d (.sl (a0.map Entry.enc)), .d (.int .i64 a1), .d (.int .i64 a2), .d (.int .i64 a3)] (fun y => y = E_ListEntry r) := by
  refine Go.VC.Spec.of_xc (args := [.d (.sl (a0.map Entry.enc)), .d (.int .i64 a1), .d (.int .i64 a2), .d (.int .i64 a3)]) (fn := Try.f50) tab ⟨[(0, [0, 1, 2, 3]), (1, [0, 1, 2, 3, 11]), (2, [8]), (3, [8])], [], [], []⟩ 22 [.tmp 8] rfl rfl rfl rfl rfl rfl ?_
  conv => whnf
  refine lenS a0 Entry.enc rfl ?_
  conv => whnf
  refine fkS h (fun h => ?_) (fun h => ?_)
  · conv => whnf
    exact rt (E := E_ListEntry) h rfl
  conv => whnf
  refine liS ([] : List Entry) Entry.enc rfl rfl ?_
  conv => whnf
  refine apS (enc := Entry.enc) (l1 := ([] : List Entry)) (l2 := a0) h rfl rfl (fun _ => rfl) (fun h => ?_)
  conv => whnf
  refine liS ([⟨a1, a2, a3⟩] : List Entry) Entry.enc rfl rfl ?_
  conv => whnf
  refine apS (enc := Entry.enc) (l1 := ([] : List Entry) ++ a0) (l2 := ([⟨a1, a2, a3⟩] : List Entry)) h rfl rfl (fun _ => rfl) (fun h => ?_)
  conv => whnf
  exact rt (E := E_ListEntry) h rfl

end Go.Proofs.Ytakiggekallckaa
namespace Go.Proofs.Ytakiggekallckaa
open Go Go.VC
noncomputable def part_when (a0 : Int) : Option Bool :=
  fk (decide (a0 ≥ (0 : Int))) (some (decide (a0 ≤ (4611686018427387703 : Int)))) (some false)
theorem part_when_w (a0 : Int) (r : Bool) (h : part_when a0 = some r) : Go.VC.Spec Try.prog 43 [.d (.int .i64 a0)] (fun y => y = E_Bool r) := by
  refine Go.VC.Spec.of_xc (args := [.d (.int .i64 a0)]) (fn := Try.f43) tab ⟨[(0, [0]), (1, [2])], [], [], []⟩ 9 [.tmp 2] rfl rfl rfl rfl rfl rfl ?_
  conv => whnf
  refine fkS h (fun h => ?_) (fun h => ?_)
  · conv => whnf
    exact rt (E := E_Bool) h rfl
  conv => whnf
  exact rt (E := E_Bool) h rfl

end Go.Proofs.Ytakiggekallckaa
namespace Go.Proofs.Ytakiggekallckaa
open Go Go.VC
noncomputable def ref17_when (a0 : Int) : Option Bool :=
  fk (decide (a0 ≥ (0 : Int))) (some (decide (a0 ≤ (4611686018427387703 : Int)))) (some false)
theorem ref17_when_w (a0 : Int) (r : Bool) (h : ref17_when a0 = some r) : Go.VC.Spec Try.prog 48 [.d (.int .i64 a0)] (fun y => y = E_Bool r) := by
  refine Go.VC.Spec.of_xc (args := [.d (.int .i64 a0)]) (fn := Try.f48) tab ⟨[(0, [0]), (1, [2])], [], [], []⟩ 9 [.tmp 2] rfl rfl rfl rfl rfl rfl ?_
  conv => whnf
  refine fkS h (fun h => ?_) (fun h => ?_)
  · conv => whnf
    exact rt (E := E_Bool) h rfl
  conv => whnf
  exact rt (E := E_Bool) h rfl

end Go.Proofs.Ytakiggekallckaa
namespace Go.Proofs.Ytakiggekallckaa
open Go Go.VC
noncomputable def ref05_SameAll (a0 : List Task) (a1 : List Task) : Option Bool :=
  fk (!decide ((a0.length : Int) = (a1.length : Int))) (some false) (lp (fun nx1 (v1 : Int) => fk (decide (v1 < (a0.length : Int))) (ix a0 v1 fun x2 => ix a1 v1 fun x3 => bnd (ref05_Same x2 x3) fun x4 => fk (!x4) (some false) (nx1 (wr (v1 + (1 : Int))))) (some true)) FU (0 : Int))
theorem ref05_SameAll_w (a0 : List Task) (a1 : List Task) (r : Bool) (h : ref05_SameAll a0 a1 = some r) : Go.VC.Spec Try.prog 37 [.d (.sl (a0.map Task.enc)), .d (.sl (a1.map Task.enc))] (fun y => y = E_Bool r) := by
  refine Go.VC.Spec.of_xc (args := [.d (.sl (a0.map Task.enc)), .d (.sl (a1.map Task.enc))]) (fn := Try.f37) tab ⟨[(0, [0, 1]), (1, [0, 1, 10]), (2, [4]), (3, [0, 1, 5]), (4, [0, 1, 5, 14]), (5, [0, 1, 5]), (6, [0, 1, 5, 26]), (7, [4]), (8, [4])], [], [], []⟩ 27 [.tmp 4] rfl rfl rfl rfl rfl rfl ?_
  conv => whnf
  refine lenS a0 Task.enc rfl ?_
  conv => whnf
  refine lenS a1 Task.enc rfl ?_
  conv => whnf
  refine fkS h (fun h => ?_) (fun h => ?_)
  · conv => whnf
    exact rt (E := E_Bool) h rfl
  conv => whnf
  refine lpS (fun v1 => ⟨[(0, .l (.d (.sl (a0.map Task.enc)))), (1, .l (.d (.sl (a1.map Task.enc)))), (5, .l (.d (.int .i64 v1)))], 27, [], [], []⟩) h (Weak.refl _) (fun _ nx1 hn1 v1 h => ?_)
  conv => whnf
  refine lenS a0 Task.enc rfl ?_
  conv => whnf
  refine fkS h (fun h => ?_) (fun h => ?_)
  · conv => whnf
    refine ⟨8, ?_⟩
    conv => whnf
    refine ixS (enc := Task.enc) h rfl (fun _ => rfl) (fun x2 h => ?_)
    conv => whnf
    refine ixS (enc := Task.enc) h rfl (fun _ => rfl) (fun x3 h => ?_)
    conv => whnf
    refine drS (by kernel_rfl) ?_
    conv => whnf
    refine caS (E := E_Bool) h (ref05_Same_w x2 x3) rfl (fun _ => rfl) (fun x4 h => ?_)
    conv => whnf
    refine fkS h (fun h => ?_) (fun h => ?_)
    · conv => whnf
      exact rt (E := E_Bool) h rfl
    conv => whnf
    exact leS hn1 h (Weak.refl _)
  conv => whnf
  exact rt (E := E_Bool) h rfl

end Go.Proofs.Ytakiggekallckaa
namespace Go.Proofs.Ytakiggekallckaa
open Go Go.VC
noncomputable def ref17_SameLog (a0 : List Entry) (a1 : List Entry) : Option Bool :=
  fk (!decide ((a0.length : Int) = (a1.length : Int))) (some false) (lp (fun nx1 (v1 : Int) => fk (decide (v1 < (a0.length : Int))) (ix a0 v1 fun x2 => ix a1 v1 fun x3 => fk (!(eqI [.i .i64 x2.At, .i .i64 x2.Kind, .i .i64 x2.Task] [.i .i64 x3.At, .i .i64 x3.Kind, .i .i64 x3.Task])) (some false) (nx1 (wr (v1 + (1 : Int))))) (some true)) FU (0 : Int))
theorem ref17_SameLog_w (a0 : List Entry) (a1 : List Entry) (r : Bool) (h : ref17_SameLog a0 a1 = some r) : Go.VC.Spec Try.prog 57 [.d (.sl (a0.map Entry.enc)), .d (.sl (a1.map Entry.enc))] (fun y => y = E_Bool r) := by
  refine Go.VC.Spec.of_xc (args := [.d (.sl (a0.map Entry.enc)), .d (.sl (a1.map Entry.enc))]) (fn := Try.f57) tab ⟨[(0, [0, 1]), (1, [0, 1, 10]), (2, [4]), (3, [0, 1, 5]), (4, [0, 1, 5, 14]), (5, [0, 1, 5]), (6, [0, 1, 5, 25]), (7, [4]), (8, [4])], [], [], []⟩ 26 [.tmp 4] rfl rfl rfl rfl rfl rfl ?_
  conv => whnf
  refine lenS a0 Entry.enc rfl ?_
  conv => whnf
  refine lenS a1 Entry.enc rfl ?_
  conv => whnf
  refine fkS h (fun h => ?_) (fun h => ?_)
  · conv => whnf
    exact rt (E := E_Bool) h rfl
  conv => whnf
  refine lpS (fun v1 => ⟨[(0, .l (.d (.sl (a0.map Entry.enc)))), (1, .l (.d (.sl (a1.map Entry.enc)))), (5, .l (.d (.int .i64 v1)))], 26, [], [], []⟩) h (Weak.refl _) (fun _ nx1 hn1 v1 h => ?_)
  conv => whnf
  refine lenS a0 Entry.enc rfl ?_
  conv => whnf
  refine fkS h (fun h => ?_) (fun h => ?_)
  · conv => whnf
    refine ⟨8, ?_⟩
    conv => whnf
    refine ixS (enc := Entry.enc) h rfl (fun _ => rfl) (fun x2 h => ?_)
    conv => whnf
    refine ixS (enc := Entry.enc) h rfl (fun _ => rfl) (fun x3 h => ?_)
    conv => whnf
    refine drS (by kernel_rfl) ?_
    conv => whnf
    refine fkS h (fun h => ?_) (fun h => ?_)
    · conv => whnf
      exact rt (E := E_Bool) h rfl
    conv => whnf
    exact leS hn1 h (Weak.refl _)
  conv => whnf
  exact rt (E := E_Bool) h rfl

end Go.Proofs.Ytakiggekallckaa
namespace Go.Proofs.Ytakiggekallckaa
open Go Go.VC
noncomputable def ref17_Same (a0 : Ref17State) (a1 : Ref17State) : Option Bool :=
  fk (!decide ((a0.Leaves.length : Int) = (a1.Leaves.length : Int))) (some false) (lp (fun nx1 (v1 : Int) => fk (decide (v1 < (a0.Leaves.length : Int))) (ix a0.Leaves v1 fun x2 => ix a1.Leaves v1 fun x3 => fk (!decide (x2 = x3)) (some false) (nx1 (wr (v1 + (1 : Int))))) (bnd (ref05_SameAll a0.Tasks a1.Tasks) fun x4 => fk x4 (bnd (ref05_SameInts a0.Lasts a1.Lasts) fun x5 => fk x5 (bnd (ref14_Same a0.Jobs a1.Jobs) fun x6 => fk x6 (bnd (ref17_SameLog a0.Log a1.Log) fun x7 => some x7) (some false)) (some false)) (some false))) FU (0 : Int))
theorem ref17_Same_w (a0 : Ref17State) (a1 : Ref17State) (r : Bool) (h : ref17_Same a0 a1 = some r) : Go.VC.Spec Try.prog 20 [.agg (Ref17State.enc a0), .agg (Ref17State.enc a1)] (fun y => y = E_Bool r) := by
  refine Go.VC.Spec.of_xc (args := [.agg (Ref17State.enc a0), .agg (Ref17State.enc a1)]) (fn := Try.f20) tab ⟨[(0, [2, 3]), (1, [2, 3, 12]), (2, [4]), (3, [2, 3, 5]), (4, [2, 3, 5, 17]), (5, [2, 3, 5]), (6, [2, 3, 5, 30]), (7, [4]), (8, [4])], [], [], []⟩ 57 [.tmp 4] rfl rfl rfl rfl rfl rfl ?_
  conv => whnf
  refine lenS a0.Leaves eB rfl ?_
  conv => whnf
  refine lenS a1.Leaves eB rfl ?_
  conv => whnf
  refine fkS h (fun h => ?_) (fun h => ?_)
  · conv => whnf
    exact rt (E := E_Bool) h rfl
  conv => whnf
  refine lpS (fun v1 => ⟨[(2, .l (.ptr 3 0)), (3, .l (.ptr 4 0)), (5, .l (.d (.int .i64 v1)))], 57, [], [(3, [.d (.sl (a0.Tasks.map Task.enc)), .d (.sl (a0.Leaves.map eB)), .d (.sl (a0.Lasts.map (eI .i64))), .d (.sl (a0.Jobs.map Job.enc)), .d (.sl (a0.Log.map Entry.enc))]), (4, [.d (.sl (a1.Tasks.map Task.enc)), .d (.sl (a1.Leaves.map eB)), .d (.sl (a1.Lasts.map (eI .i64))), .d (.sl (a1.Jobs.map Job.enc)), .d (.sl (a1.Log.map Entry.enc))])], []⟩) h (Weak.refl _) (fun _ nx1 hn1 v1 h => ?_)
  conv => whnf
  refine lenS a0.Leaves eB rfl ?_
  conv => whnf
  refine fkS h (fun h => ?_) (fun h => ?_)
  · conv => whnf
    refine ⟨10, ?_⟩
    conv => whnf
    refine ixS (enc := eB) h rfl (fun _ => rfl) (fun x2 h => ?_)
    conv => whnf
    refine ixS (enc := eB) h rfl (fun _ => rfl) (fun x3 h => ?_)
    conv => whnf
    refine drS (by kernel_rfl) ?_
    conv => whnf
    refine fkS h (fun h => ?_) (fun h => ?_)
    · conv => whnf
      exact rt (E := E_Bool) h rfl
    conv => whnf
    exact leS hn1 h (Weak.refl _)
  conv => whnf
  refine caS (E := E_Bool) h (ref05_SameAll_w a0.Tasks a1.Tasks) rfl (fun _ => rfl) (fun x4 h => ?_)
  conv => whnf
  refine fkS h (fun h => ?_) (fun h => ?_)
  · conv => whnf
    refine caS (E := E_Bool) h (ref05_SameInts_w a0.Lasts a1.Lasts) rfl (fun _ => rfl) (fun x5 h => ?_)
    conv => whnf
    refine fkS h (fun h => ?_) (fun h => ?_)
    · conv => whnf
      refine caS (E := E_Bool) h (ref14_Same_w a0.Jobs a1.Jobs) rfl (fun _ => rfl) (fun x6 h => ?_)
      conv => whnf
      refine fkS h (fun h => ?_) (fun h => ?_)
      · conv => whnf
        refine caS (E := E_Bool) h (ref17_SameLog_w a0.Log a1.Log) rfl (fun _ => rfl) (fun x7 h => ?_)
        conv => whnf
        exact rt (E := E_Bool) h rfl
      conv => whnf
      exact rt (E := E_Bool) h rfl
    conv => whnf
    exact rt (E := E_Bool) h rfl
  conv => whnf
  exact rt (E := E_Bool) h rfl

end Go.Proofs.Ytakiggekallckaa
namespace Go.Proofs.Ytakiggekallckaa
open Go Go.VC
noncomputable def law17_Great (a0 : PartState) : Option Bool :=
  bnd (law05_Great a0.Tasks) fun x1 => fk x1 (some true) (fk (decide ((a0.Leaves.length : Int) > (50 : Int))) (some true) (fk (decide ((a0.Lasts.length : Int) > (50 : Int))) (some true) (fk (decide ((a0.Jobs.length : Int) > (50 : Int))) (some true) (some (decide ((a0.Log.length : Int) > (2010 : Int)))))))
theorem law17_Great_w (a0 : PartState) (r : Bool) (h : law17_Great a0 = some r) : Go.VC.Spec Try.prog 13 [.agg (PartState.enc a0)] (fun y => y = E_Bool r) := by
  refine Go.VC.Spec.of_xc (args := [.agg (PartState.enc a0)]) (fn := Try.f13) tab ⟨[(0, [1]), (1, [2])], [], [], []⟩ 30 [.tmp 2] rfl rfl rfl rfl rfl rfl ?_
  conv => whnf
  refine caS (E := E_Bool) h (law05_Great_w a0.Tasks) rfl (fun _ => rfl) (fun x1 h => ?_)
  conv => whnf
  refine fkS h (fun h => ?_) (fun h => ?_)
  · conv => whnf
    exact rt (E := E_Bool) h rfl
  conv => whnf
  refine lenS a0.Leaves eB rfl ?_
  conv => whnf
  refine fkS h (fun h => ?_) (fun h => ?_)
  · conv => whnf
    exact rt (E := E_Bool) h rfl
  conv => whnf
  refine lenS a0.Lasts (eI .i64) rfl ?_
  conv => whnf
  refine fkS h (fun h => ?_) (fun h => ?_)
  · conv => whnf
    exact rt (E := E_Bool) h rfl
  conv => whnf
  refine lenS a0.Jobs Job.enc rfl ?_
  conv => whnf
  refine fkS h (fun h => ?_) (fun h => ?_)
  · conv => whnf
    exact rt (E := E_Bool) h rfl
  conv => whnf
  refine lenS a0.Log Entry.enc rfl ?_
  conv => whnf
  exact rt (E := E_Bool) h rfl

end Go.Proofs.Ytakiggekallckaa
namespace Go.Proofs.Ytakiggekallckaa
open Go Go.VC
noncomputable def law17_As (a0 : PartState) : Option Ref17State :=
  some ⟨a0.Tasks, a0.Leaves, a0.Lasts, a0.Jobs, a0.Log⟩
theorem law17_As_w (a0 : PartState) (r : Ref17State) (h : law17_As a0 = some r) : Go.VC.Spec Try.prog 17 [.agg (PartState.enc a0)] (fun y => y = E_Ref17State r) := by
  refine Go.VC.Spec.of_xc (args := [.agg (PartState.enc a0)]) (fn := Try.f17) tab ⟨[(0, [1, 2]), (1, [2])], [], [], []⟩ 14 [.cell 2 34] rfl rfl rfl rfl rfl rfl ?_
  conv => whnf
  exact rt (E := E_Ref17State) h rfl

end Go.Proofs.Ytakiggekallckaa
namespace Go.Proofs.Ytakiggekallckaa
open Go Go.VC
/-! A partition's state. -/
def toR (s : PartState) : Ref17State := ⟨s.Tasks, s.Leaves, s.Lasts, s.Jobs, s.Log⟩
theorem law17_As_eq (s : PartState) : law17_As s = some (toR s) := rfl
def stP (s : PartState) : Prop := s.Leaves.length = s.Tasks.length ∧ lastsP s.Tasks s.Lasts ∧ jobsP s.Tasks s.Jobs ∧ s.Log.length ≤ 2000
noncomputable instance (s : PartState) : Decidable (stP s) := Classical.propDecidable _
structure StB (s : PartState) : Prop where
  t : s.Tasks.length ≤ 4611686018427387904
  u : ∀ t ∈ s.Tasks, t.Secs.length ≤ 4611686018427387904
  a : s.Lasts.length ≤ 4611686018427387904
theorem StB.of {s : PartState} (h : PartState.wf s) : StB s :=
  ⟨wf_len h.1.1 (by omega), fun t ht => (h.1.2 t ht).len, by have := h.2.2.1.1; unfold BB at this; omega⟩
theorem part_Right_eq (s : PartState) (hb : StB s) : part_Right s = some (decide (stP s)) := by
  unfold part_Right
  by_cases h1 : s.Leaves.length = s.Tasks.length
  rotate_left
  · rw [decide_eq_false (by omega), fk_f]; exact dec_f fun h => h1 h.1
  rw [decide_eq_true (by omega), fk_t, bnd_eq (police_Right_eq _ _ hb.t hb.a)]
  by_cases h2 : lastsP s.Tasks s.Lasts
  rotate_left
  · rw [decide_eq_false h2, fk_f]; exact dec_f fun h => h2 h.2.1
  rw [decide_eq_true h2, fk_t, bnd_eq (job_All_eq _ _ hb.t)]
  by_cases h3 : jobsP s.Tasks s.Jobs
  rotate_left
  · rw [decide_eq_false h3, fk_f]; exact dec_f fun h => h3 h.2.2.1
  rw [decide_eq_true h3, fk_t]
  exact dec_iff ⟨fun h => ⟨h1, h2, h3, by omega⟩, fun h => by have := h.2.2.2; omega⟩
theorem ref17_Right_eq (s : PartState) (hb : StB s) : ref17_Right (toR s) = some (decide (stP s)) := by
  unfold ref17_Right toR
  dsimp only
  by_cases h1 : s.Leaves.length = s.Tasks.length
  rotate_left
  · rw [decide_eq_false (by omega), fk_f]; exact dec_f fun h => h1 h.1
  rw [decide_eq_true (by omega), fk_t]
  rw [bnd_eq (ref16_Right_eq _ _ hb.t hb.u hb.a)]
  by_cases h2 : lastsP s.Tasks s.Lasts
  rotate_left
  · rw [decide_eq_false h2, fk_f]; exact dec_f fun h => h2 h.2.1
  rw [decide_eq_true h2, fk_t, bnd_eq (ref14_All_eq _ _ hb.t hb.u)]
  by_cases h3 : jobsP s.Tasks s.Jobs
  rotate_left
  · rw [decide_eq_false h3, fk_f]; exact dec_f fun h => h3 h.2.2.1
  rw [decide_eq_true h3, fk_t]
  exact dec_iff ⟨fun h => ⟨h1, h2, h3, by omega⟩, fun h => by have := h.2.2.2; omega⟩
/-! The log. -/
def nt (lg : List Entry) (e : Entry) : List Entry := if lg.length < 2000 then lg ++ [e] else lg
theorem nt_len {lg : List Entry} {e : Entry} (h : lg.length ≤ 2000) : (nt lg e).length ≤ 2000 := by
  unfold nt; split
  · rw [List.length_append]; simp; omega
  · exact h
theorem ref17_noted_eq (lg : List Entry) (t k i : Int) : ref17_noted lg t k i = some (nt lg ⟨t, k, i⟩) := by
  unfold ref17_noted nt
  by_cases h : lg.length < 2000
  · rw [decide_eq_false (by omega), fk_f, if_pos h, ck_t (by simp; omega), ck_t (by simp; omega), List.nil_append]
  · rw [decide_eq_true (by omega), fk_t, if_neg h]
theorem nt_fk {R : Type} (lg : List Entry) (e : Entry) (K : List Entry → Option R) : fk (decide ((lg.length : Int) < 2000)) (ck (decide ((lg.length + ([e] : List Entry).length) * 24 ≤ 140737488355328)) (K (lg ++ [e]))) (K lg) = K (nt lg e) := by
  unfold nt
  by_cases h : lg.length < 2000
  · rw [decide_eq_true (by omega), fk_t, if_pos h, ck_t (by simp; omega)]
  · rw [decide_eq_false (by omega), fk_f, if_neg h]
def whenP (t : Int) : Prop := 0 ≤ t ∧ t ≤ 4611686018427387703
instance (t : Int) : Decidable (whenP t) := by unfold whenP; infer_instance
theorem part_when_eq (t : Int) : part_when t = some (decide (whenP t)) := by
  unfold part_when
  by_cases h : 0 ≤ t
  · rw [decide_eq_true (by omega), fk_t]; exact dec_iff ⟨fun k => ⟨h, k⟩, fun k => k.2⟩
  · rw [decide_eq_false (by omega), fk_f]; exact dec_f fun k => h k.1
theorem ref17_when_eq (t : Int) : ref17_when t = some (decide (whenP t)) := by
  unfold ref17_when
  by_cases h : 0 ≤ t
  · rw [decide_eq_true (by omega), fk_t]; exact dec_iff ⟨fun k => ⟨h, k⟩, fun k => k.2⟩
  · rw [decide_eq_false (by omega), fk_f]; exact dec_f fun k => h k.1
/-! The same. -/
theorem sameAll_eq (l : List Task) (hl : l.length ≤ 4611686018427387904) (hs : ∀ t ∈ l, t.Secs.length ≤ 4611686018427387904) : ref05_SameAll l l = some true := by
  unfold ref05_SameAll
  rw [decide_eq_true rfl, Bool.not_true, fk_f]
  refine lp_up l.length (by unfold FU; omega) (fun _ => True) trivial ?_
  intro nx k hk _ hnx
  rw [lt_nat]
  by_cases h : k < l.length
  · rw [decide_eq_true h, fk_t, ix_lt h, ix_lt h, bnd_eq (ref05_Same_eq _ _ (hs _ (List.getElem_mem h))), decide_eq_true rfl, Bool.not_true, fk_f, wr_succ k _ h (by omega)]
    exact hnx h trivial
  · rw [decide_eq_false h, fk_f]
theorem eqI_ent (x y : Entry) : eqI [.i .i64 x.At, .i .i64 x.Kind, .i .i64 x.Task] [.i .i64 y.At, .i .i64 y.Kind, .i .i64 y.Task] = decide (x = y) := by
  cases x; cases y
  simp [eqI]
theorem sameLog_eq (l : List Entry) (hl : l.length ≤ 4611686018427387904) : ref17_SameLog l l = some true := by
  unfold ref17_SameLog
  rw [decide_eq_true rfl, Bool.not_true, fk_f]
  refine lp_up l.length (by unfold FU; omega) (fun _ => True) trivial ?_
  intro nx k hk _ hnx
  rw [lt_nat]
  by_cases h : k < l.length
  · rw [decide_eq_true h, fk_t, ix_lt h, ix_lt h, eqI_ent, decide_eq_true rfl, Bool.not_true, fk_f, wr_succ k _ h (by omega)]
    exact hnx h trivial
  · rw [decide_eq_false h, fk_f]
structure SameB (s : Ref17State) : Prop where
  t : s.Tasks.length ≤ 4611686018427387904
  u : ∀ t ∈ s.Tasks, t.Secs.length ≤ 4611686018427387904
  l : s.Leaves.length ≤ 4611686018427387904
  a : s.Lasts.length ≤ 1000
  j : s.Jobs.length ≤ 4611686018427387904
  g : s.Log.length ≤ 4611686018427387904
theorem ref17_Same_eq (s : Ref17State) (h : SameB s) : ref17_Same s s = some true := by
  unfold ref17_Same
  rw [decide_eq_true rfl, Bool.not_true, fk_f]
  refine lp_up s.Leaves.length (by have := h.l; unfold FU; omega) (fun _ => True) trivial ?_
  intro nx k hk _ hnx
  rw [lt_nat]
  by_cases hk' : k < s.Leaves.length
  · rw [decide_eq_true hk', fk_t, ix_lt hk', ix_lt hk', decide_eq_true rfl, Bool.not_true, fk_f, wr_succ k _ hk' h.l]
    exact hnx hk' trivial
  · rw [decide_eq_false hk', fk_f, bnd_eq (sameAll_eq _ h.t h.u), fk_t, bnd_eq (sameInts_eq _ h.a), fk_t, bnd_eq (ref14_Same_eq _ _ h.j), decide_eq_true rfl, fk_t, bnd_eq (sameLog_eq _ h.g)]
/-! Too great. -/
def greatS (s : PartState) : Prop := GreatP s.Tasks ∨ 50 < s.Leaves.length ∨ 50 < s.Lasts.length ∨ 50 < s.Jobs.length ∨ 2010 < s.Log.length
noncomputable instance (s : PartState) : Decidable (greatS s) := Classical.propDecidable _
theorem law17_Great_eq (s : PartState) (hl : s.Tasks.length ≤ 4611686018427387904) : law17_Great s = some (decide (greatS s)) := by
  unfold law17_Great
  rw [bnd_eq (law05_Great_eq _ hl)]
  by_cases h1 : GreatP s.Tasks
  · rw [decide_eq_true h1, fk_t]; exact dec_t (.inl h1)
  rw [decide_eq_false h1, fk_f]
  by_cases h2 : 50 < s.Leaves.length
  · rw [decide_eq_true (by omega), fk_t]; exact dec_t (.inr (.inl h2))
  rw [decide_eq_false (by omega), fk_f]
  by_cases h3 : 50 < s.Lasts.length
  · rw [decide_eq_true (by omega), fk_t]; exact dec_t (.inr (.inr (.inl h3)))
  rw [decide_eq_false (by omega), fk_f]
  by_cases h4 : 50 < s.Jobs.length
  · rw [decide_eq_true (by omega), fk_t]; exact dec_t (.inr (.inr (.inr (.inl h4))))
  rw [decide_eq_false (by omega), fk_f]
  exact dec_iff ⟨fun h => .inr (.inr (.inr (.inr (by omega)))), fun h => by rcases h with h | h | h | h | h <;> first | exact (h1 h).elim | omega⟩
theorem SameB.of {s : PartState} (hb : StB s) (hg : ¬ greatS s) : SameB (toR s) := by
  unfold greatS at hg
  refine ⟨hb.t, hb.u, ?_, ?_, ?_, ?_⟩ <;> simp only [toR] <;> omega
theorem AllP_len {l : List Task} (h : AllP l) : l.length ≤ 8 := h.2
theorem SameB.of_st {s : PartState} (hb : StB s) (hs : stP s) : SameB (toR s) := by
  have h1 := hs.1; have h2 := hs.2.1.2.1; have h3 := hs.2.2.1.2.1; have h4 := hs.2.2.2; have h5 := AllP_len hs.2.1.1
  refine ⟨hb.t, hb.u, ?_, ?_, ?_, ?_⟩ <;> simp only [toR] <;> omega
end Go.Proofs.Ytakiggekallckaa
namespace Go.Proofs.Ytakiggekallckaa
open Go Go.VC
noncomputable def ref17_Release (a0 : Ref17State) (a1 : Int) (a2 : Int) (a3 : Int) : Option (Ref17State × Int) :=
  jn (fun (w1 : Bool) => fk w1 (some (⟨a0.Tasks, a0.Leaves, a0.Lasts, a0.Jobs, a0.Log⟩, (1 : Int))) (ix a0.Leaves a1 fun x4 => fk x4 (some (⟨a0.Tasks, a0.Leaves, a0.Lasts, a0.Jobs, a0.Log⟩, (9 : Int))) (bnd (ref16_May a0.Tasks a0.Lasts a1 a3) fun x5 => fk (!decide (x5 = (0 : Int))) (bnd (ref17_noted a0.Log a3 (2 : Int) a1) fun x6 => some (⟨a0.Tasks, a0.Leaves, a0.Lasts, a0.Jobs, x6⟩, (6 : Int))) (fk (decide ((a0.Jobs.length : Int) > (31 : Int))) (bnd (ref17_noted a0.Log a3 (3 : Int) a1) fun x7 => some (⟨a0.Tasks, a0.Leaves, a0.Lasts, a0.Jobs, x7⟩, (3 : Int))) (ck (decide ((([] : List Int).length + a0.Lasts.length) * 8 ≤ 140737488355328)) (ck (decide (0 ≤ a1) && decide (a1 < ((([] : List Int) ++ a0.Lasts).length : Int))) (ox (([] : List Int) ++ a0.Lasts) a1.toNat fun x8 => ck (decide ((([] : List Job).length + a0.Jobs.length) * 48 ≤ 140737488355328)) (ix a0.Tasks a1 fun x9 => ck (decide (((([] : List Job) ++ a0.Jobs).length + ([⟨a1, a3, (wr (a3 + x9.D)), a2, (0 : Int), false⟩] : List Job).length) * 48 ≤ 140737488355328)) (bnd (ref17_noted a0.Log a3 (1 : Int) a1) fun x10 => some (⟨a0.Tasks, a0.Leaves, (([] : List Int) ++ a0.Lasts).set a1.toNat a3, (([] : List Job) ++ a0.Jobs) ++ ([⟨a1, a3, (wr (a3 + x9.D)), a2, (0 : Int), false⟩] : List Job), x10⟩, (0 : Int))))))))))) (fun k1 => bnd (ref17_Right ⟨a0.Tasks, a0.Leaves, a0.Lasts, a0.Jobs, a0.Log⟩) fun x2 => fk (!x2) (k1 true) (fk (decide (a1 < (0 : Int))) (k1 true) (fk (decide (a1 ≥ (a0.Tasks.length : Int))) (k1 true) (fk (decide (a2 < (1 : Int))) (k1 true) (fk (decide (a2 > (200 : Int))) (k1 true) (bnd (ref17_when a3) fun x3 => k1 (!x3)))))))
theorem ref17_Release_w (a0 : Ref17State) (a1 : Int) (a2 : Int) (a3 : Int) (r : Ref17State × Int) (h : ref17_Release a0 a1 a2 a3 = some r) : Go.VC.Spec Try.prog 16 [.agg (Ref17State.enc a0), .d (.int .i64 a1), .d (.int .i64 a2), .d (.int .i64 a3)] (fun y => y = E_Ref17State_Int r) := by
  refine Go.VC.Spec.of_xc (args := [.agg (Ref17State.enc a0), .d (.int .i64 a1), .d (.int .i64 a2), .d (.int .i64 a3)]) (fn := Try.f16) tab ⟨[(0, [1, 2, 3, 4, 8]), (1, [1, 2, 3, 4, 8, 37]), (2, [8, 9]), (3, [1, 2, 3, 4, 8, 43]), (4, [8, 9]), (5, [1, 2, 3, 4, 8, 10]), (6, [1, 2, 3, 4, 8, 10, 53]), (7, [8, 10]), (8, [8, 9]), (9, [1, 2, 3, 4, 8, 10, 64]), (10, [8, 10]), (11, [8, 9]), (12, [1, 2, 3, 4, 8, 10]), (13, [1, 2, 3, 4, 8, 10]), (14, [1, 3, 4, 8, 10]), (15, [8, 10]), (16, [8, 9])], [], [100037], []⟩ 108 [.cell 8 34, .tmp 9] rfl rfl rfl rfl rfl rfl ?_
  conv => whnf
  refine jnS (fun w1 => ⟨[(1, .l (.d (.int .i64 a1))), (2, .l (.d (.int .i64 a2))), (3, .l (.d (.int .i64 a3))), (4, .l (.ptr 5 0)), (8, .l (.ptr 9 0)), (37, .l (.d (.bool w1)))], 108, [], [(5, [.d (.sl (a0.Tasks.map Task.enc)), .d (.sl (a0.Leaves.map eB)), .d (.sl (a0.Lasts.map (eI .i64))), .d (.sl (a0.Jobs.map Job.enc)), .d (.sl (a0.Log.map Entry.enc))]), (9, [.nil, .nil, .nil, .nil, .nil])], []⟩) h (fun k1 hk1 h => ?_) (fun w1 h => ?_)
  · conv => whnf
    refine caS (E := E_Bool) h (ref17_Right_w ⟨a0.Tasks, a0.Leaves, a0.Lasts, a0.Jobs, a0.Log⟩) rfl (fun _ => rfl) (fun x2 h => ?_)
    conv => whnf
    refine fkS h (fun h => ?_) (fun h => ?_)
    · conv => whnf
      exact jeS hk1 h (Weak.refl _)
    conv => whnf
    refine fkS h (fun h => ?_) (fun h => ?_)
    · conv => whnf
      exact jeS hk1 h (Weak.refl _)
    conv => whnf
    refine lenS a0.Tasks Task.enc rfl ?_
    conv => whnf
    refine fkS h (fun h => ?_) (fun h => ?_)
    · conv => whnf
      exact jeS hk1 h (Weak.refl _)
    conv => whnf
    refine fkS h (fun h => ?_) (fun h => ?_)
    · conv => whnf
      exact jeS hk1 h (Weak.refl _)
    conv => whnf
    refine fkS h (fun h => ?_) (fun h => ?_)
    · conv => whnf
      exact jeS hk1 h (Weak.refl _)
    conv => whnf
    refine caS (E := E_Bool) h (ref17_when_w a3) rfl (fun _ => rfl) (fun x3 h => ?_)
    conv => whnf
    exact jeS hk1 h (Weak.refl _)
  conv => whnf
  refine fkS h (fun h => ?_) (fun h => ?_)
  · conv => whnf
    exact rt (E := E_Ref17State_Int) h rfl
  conv => whnf
  refine ixS (enc := eB) h rfl (fun _ => rfl) (fun x4 h => ?_)
  conv => whnf
  refine fkS h (fun h => ?_) (fun h => ?_)
  · conv => whnf
    exact rt (E := E_Ref17State_Int) h rfl
  conv => whnf
  refine caS (E := E_Int) h (ref16_May_w a0.Tasks a0.Lasts a1 a3) rfl (fun _ => rfl) (fun x5 h => ?_)
  conv => whnf
  refine fkS h (fun h => ?_) (fun h => ?_)
  · conv => whnf
    refine ccS (E := E_ListEntry) h (ref17_noted_w a0.Log a3 (2 : Int) a1) rfl rfl (fun x6 h => ?_)
    conv => whnf
    exact rt (E := E_Ref17State_Int) h rfl
  conv => whnf
  refine lenS a0.Jobs Job.enc rfl ?_
  conv => whnf
  refine fkS h (fun h => ?_) (fun h => ?_)
  · conv => whnf
    refine ccS (E := E_ListEntry) h (ref17_noted_w a0.Log a3 (3 : Int) a1) rfl rfl (fun x7 h => ?_)
    conv => whnf
    exact rt (E := E_Ref17State_Int) h rfl
  conv => whnf
  refine liS ([] : List Int) (eI .i64) rfl rfl ?_
  conv => whnf
  refine apS (enc := (eI .i64)) (l1 := ([] : List Int)) (l2 := a0.Lasts) h rfl rfl (fun _ => rfl) (fun h => ?_)
  conv => whnf
  refine ioS (enc := (eI .i64)) h rfl (fun h => ?_)
  conv => whnf
  refine seS (enc := (eI .i64)) h rfl (fun x8 => a3) (fun _ => rfl) (fun x8 h => ?_)
  conv => whnf
  refine ⟨17, ?_⟩
  conv => whnf
  refine liS ([] : List Job) Job.enc rfl rfl ?_
  conv => whnf
  refine apS (enc := Job.enc) (l1 := ([] : List Job)) (l2 := a0.Jobs) h rfl rfl (fun _ => rfl) (fun h => ?_)
  conv => whnf
  refine ixS (enc := Task.enc) h rfl (fun _ => rfl) (fun x9 h => ?_)
  conv => whnf
  refine liS ([⟨a1, a3, (wr (a3 + x9.D)), a2, (0 : Int), false⟩] : List Job) Job.enc rfl rfl ?_
  conv => whnf
  refine drS (by kernel_rfl) ?_
  conv => whnf
  refine apS (enc := Job.enc) (l1 := ([] : List Job) ++ a0.Jobs) (l2 := ([⟨a1, a3, (wr (a3 + x9.D)), a2, (0 : Int), false⟩] : List Job)) h rfl rfl (fun _ => rfl) (fun h => ?_)
  conv => whnf
  refine ccS (E := E_ListEntry) h (ref17_noted_w a0.Log a3 (1 : Int) a1) rfl rfl (fun x10 h => ?_)
  conv => whnf
  exact rt (E := E_Ref17State_Int) h rfl

end Go.Proofs.Ytakiggekallckaa
namespace Go.Proofs.Ytakiggekallckaa
open Go Go.VC
noncomputable def part_Release (a0 : PartState) (a1 : Int) (a2 : Int) (a3 : Int) : Option (PartState × Int) :=
  jn (fun (w1 : Bool) => fk w1 (some (a0, (1 : Int))) (ix a0.Leaves a1 fun x4 => fk x4 (some (a0, (9 : Int))) (ck (decide ((([] : List Entry).length + a0.Log.length) * 24 ≤ 140737488355328)) (bnd (police_Note a0.Tasks a0.Lasts a1 a3) fun x5 => fk (!decide (x5.2 = (0 : Int))) (fk (decide (((([] : List Entry) ++ a0.Log).length : Int) < (2000 : Int))) (ck (decide (((([] : List Entry) ++ a0.Log).length + ([⟨a3, (2 : Int), a1⟩] : List Entry).length) * 24 ≤ 140737488355328)) (some (⟨a0.Tasks, a0.Leaves, a0.Lasts, a0.Jobs, (([] : List Entry) ++ a0.Log) ++ ([⟨a3, (2 : Int), a1⟩] : List Entry)⟩, x5.2))) (some (⟨a0.Tasks, a0.Leaves, a0.Lasts, a0.Jobs, ([] : List Entry) ++ a0.Log⟩, x5.2))) (fk (decide ((a0.Jobs.length : Int) ≥ (32 : Int))) (fk (decide (((([] : List Entry) ++ a0.Log).length : Int) < (2000 : Int))) (ck (decide (((([] : List Entry) ++ a0.Log).length + ([⟨a3, (3 : Int), a1⟩] : List Entry).length) * 24 ≤ 140737488355328)) (some (⟨a0.Tasks, a0.Leaves, a0.Lasts, a0.Jobs, (([] : List Entry) ++ a0.Log) ++ ([⟨a3, (3 : Int), a1⟩] : List Entry)⟩, (3 : Int)))) (some (⟨a0.Tasks, a0.Leaves, a0.Lasts, a0.Jobs, ([] : List Entry) ++ a0.Log⟩, (3 : Int)))) (ck (decide ((([] : List Job).length + a0.Jobs.length) * 48 ≤ 140737488355328)) (ix a0.Tasks a1 fun x6 => ck (decide (((([] : List Job) ++ a0.Jobs).length + ([⟨a1, a3, (wr (a3 + x6.D)), a2, (0 : Int), false⟩] : List Job).length) * 48 ≤ 140737488355328)) (fk (decide (((([] : List Entry) ++ a0.Log).length : Int) < (2000 : Int))) (ck (decide (((([] : List Entry) ++ a0.Log).length + ([⟨a3, (1 : Int), a1⟩] : List Entry).length) * 24 ≤ 140737488355328)) (some (⟨a0.Tasks, a0.Leaves, x5.1, (([] : List Job) ++ a0.Jobs) ++ ([⟨a1, a3, (wr (a3 + x6.D)), a2, (0 : Int), false⟩] : List Job), (([] : List Entry) ++ a0.Log) ++ ([⟨a3, (1 : Int), a1⟩] : List Entry)⟩, (0 : Int)))) (some (⟨a0.Tasks, a0.Leaves, x5.1, (([] : List Job) ++ a0.Jobs) ++ ([⟨a1, a3, (wr (a3 + x6.D)), a2, (0 : Int), false⟩] : List Job), ([] : List Entry) ++ a0.Log⟩, (0 : Int))))))))))) (fun k1 => bnd (part_Right a0) fun x2 => fk (!x2) (k1 true) (fk (decide (a1 < (0 : Int))) (k1 true) (fk (decide (a1 ≥ (a0.Tasks.length : Int))) (k1 true) (fk (decide (a2 < (1 : Int))) (k1 true) (fk (decide (a2 > (200 : Int))) (k1 true) (bnd (part_when a3) fun x3 => k1 (!x3)))))))
theorem part_Release_w (a0 : PartState) (a1 : Int) (a2 : Int) (a3 : Int) (r : PartState × Int) (h : part_Release a0 a1 a2 a3 = some r) : Go.VC.Spec Try.prog 15 [.agg (PartState.enc a0), .d (.int .i64 a1), .d (.int .i64 a2), .d (.int .i64 a3)] (fun y => y = E_PartState_Int r) := by
  refine Go.VC.Spec.of_xc (args := [.agg (PartState.enc a0), .d (.int .i64 a1), .d (.int .i64 a2), .d (.int .i64 a3)]) (fn := Try.f15) tab ⟨[(0, [1, 2, 3, 4, 8]), (1, [1, 2, 3, 4, 8, 13]), (2, [8, 9]), (3, [1, 2, 3, 4, 8, 42]), (4, [8, 9]), (5, [1, 2, 3, 4, 8, 10]), (6, [1, 2, 3, 4, 8, 10, 11, 12]), (7, [1, 2, 3, 4, 8, 10, 11, 12, 62]), (8, [8, 10, 12]), (9, [8, 9]), (10, [1, 2, 3, 4, 8, 10, 11, 73]), (11, [8, 10]), (12, [8, 9]), (13, [1, 2, 3, 4, 8, 10]), (14, [1, 8, 10]), (15, [8, 10]), (16, [8, 9])], [], [100013], []⟩ 119 [.cell 8 28, .tmp 9] rfl rfl rfl rfl rfl rfl ?_
  conv => whnf
  refine jnS (fun w1 => ⟨[(1, .l (.d (.int .i64 a1))), (2, .l (.d (.int .i64 a2))), (3, .l (.d (.int .i64 a3))), (4, .l (.ptr 5 0)), (8, .l (.ptr 9 0)), (13, .l (.d (.bool w1)))], 119, [], [(5, [.d (.sl (a0.Tasks.map Task.enc)), .d (.sl (a0.Leaves.map eB)), .d (.sl (a0.Lasts.map (eI .i64))), .d (.sl (a0.Jobs.map Job.enc)), .d (.sl (a0.Log.map Entry.enc))]), (9, [.nil, .nil, .nil, .nil, .nil])], []⟩) h (fun k1 hk1 h => ?_) (fun w1 h => ?_)
  · conv => whnf
    refine caS (E := E_Bool) h (part_Right_w a0) rfl (fun _ => rfl) (fun x2 h => ?_)
    conv => whnf
    refine fkS h (fun h => ?_) (fun h => ?_)
    · conv => whnf
      exact jeS hk1 h (Weak.refl _)
    conv => whnf
    refine fkS h (fun h => ?_) (fun h => ?_)
    · conv => whnf
      exact jeS hk1 h (Weak.refl _)
    conv => whnf
    refine lenS a0.Tasks Task.enc rfl ?_
    conv => whnf
    refine fkS h (fun h => ?_) (fun h => ?_)
    · conv => whnf
      exact jeS hk1 h (Weak.refl _)
    conv => whnf
    refine fkS h (fun h => ?_) (fun h => ?_)
    · conv => whnf
      exact jeS hk1 h (Weak.refl _)
    conv => whnf
    refine fkS h (fun h => ?_) (fun h => ?_)
    · conv => whnf
      exact jeS hk1 h (Weak.refl _)
    conv => whnf
    refine caS (E := E_Bool) h (part_when_w a3) rfl (fun _ => rfl) (fun x3 h => ?_)
    conv => whnf
    exact jeS hk1 h (Weak.refl _)
  conv => whnf
  refine fkS h (fun h => ?_) (fun h => ?_)
  · conv => whnf
    exact rt (E := E_PartState_Int) h rfl
  conv => whnf
  refine ixS (enc := eB) h rfl (fun _ => rfl) (fun x4 h => ?_)
  conv => whnf
  refine fkS h (fun h => ?_) (fun h => ?_)
  · conv => whnf
    exact rt (E := E_PartState_Int) h rfl
  conv => whnf
  refine inS (fn := Try.f44) tab ⟨[(0, [1, 2]), (1, [4])], [], [], []⟩ 14 [.tmp 4] rfl rfl rfl rfl rfl rfl ?_
  conv => whnf
  refine ⟨7, ?_⟩
  conv => whnf
  refine liS ([] : List Entry) Entry.enc rfl rfl ?_
  conv => whnf
  refine apS (enc := Entry.enc) (l1 := ([] : List Entry)) (l2 := a0.Log) h rfl rfl (fun _ => rfl) (fun h => ?_)
  conv => whnf
  refine drS (by kernel_rfl) ?_
  conv => whnf
  refine ccS (E := E_ListInt_Int) h (police_Note_w a0.Tasks a0.Lasts a1 a3) rfl rfl (fun x5 h => ?_)
  conv => whnf
  refine fkS h (fun h => ?_) (fun h => ?_)
  · conv => whnf
    refine inS (fn := Try.f46) tab ⟨[(0, [0, 1, 2, 11]), (1, [])], [], [], []⟩ 28 [] rfl rfl rfl rfl rfl rfl ?_
    conv => whnf
    refine lenS (([] : List Entry) ++ a0.Log) Entry.enc rfl ?_
    conv => whnf
    refine fkS h (fun h => ?_) (fun h => ?_)
    · conv => whnf
      refine ⟨14, ?_⟩
      conv => whnf
      refine liS ([⟨a3, (2 : Int), a1⟩] : List Entry) Entry.enc rfl rfl ?_
      conv => whnf
      refine apS (enc := Entry.enc) (l1 := ([] : List Entry) ++ a0.Log) (l2 := ([⟨a3, (2 : Int), a1⟩] : List Entry)) h rfl rfl (fun _ => rfl) (fun h => ?_)
      conv => whnf
      refine drS (by kernel_rfl) ?_
      conv => whnf
      refine inS (fn := Try.f47) tab ⟨[(0, [0, 2]), (1, [0, 2]), (2, [2])], [], [], []⟩ 16 [.cell 2 28] rfl rfl rfl rfl rfl rfl ?_
      conv => whnf
      exact rt (E := E_PartState_Int) h rfl
    conv => whnf
    refine inS (fn := Try.f47) tab ⟨[(0, [0, 2]), (1, [0, 2]), (2, [2])], [], [], []⟩ 16 [.cell 2 28] rfl rfl rfl rfl rfl rfl ?_
    conv => whnf
    exact rt (E := E_PartState_Int) h rfl
  conv => whnf
  refine lenS a0.Jobs Job.enc rfl ?_
  conv => whnf
  refine fkS h (fun h => ?_) (fun h => ?_)
  · conv => whnf
    refine inS (fn := Try.f46) tab ⟨[(0, [0, 1, 2, 11]), (1, [])], [], [], []⟩ 28 [] rfl rfl rfl rfl rfl rfl ?_
    conv => whnf
    refine lenS (([] : List Entry) ++ a0.Log) Entry.enc rfl ?_
    conv => whnf
    refine fkS h (fun h => ?_) (fun h => ?_)
    · conv => whnf
      refine ⟨14, ?_⟩
      conv => whnf
      refine liS ([⟨a3, (3 : Int), a1⟩] : List Entry) Entry.enc rfl rfl ?_
      conv => whnf
      refine apS (enc := Entry.enc) (l1 := ([] : List Entry) ++ a0.Log) (l2 := ([⟨a3, (3 : Int), a1⟩] : List Entry)) h rfl rfl (fun _ => rfl) (fun h => ?_)
      conv => whnf
      refine drS (by kernel_rfl) ?_
      conv => whnf
      refine inS (fn := Try.f47) tab ⟨[(0, [0, 2]), (1, [0, 2]), (2, [2])], [], [], []⟩ 16 [.cell 2 28] rfl rfl rfl rfl rfl rfl ?_
      conv => whnf
      exact rt (E := E_PartState_Int) h rfl
    conv => whnf
    refine inS (fn := Try.f47) tab ⟨[(0, [0, 2]), (1, [0, 2]), (2, [2])], [], [], []⟩ 16 [.cell 2 28] rfl rfl rfl rfl rfl rfl ?_
    conv => whnf
    exact rt (E := E_PartState_Int) h rfl
  conv => whnf
  refine ⟨19, ?_⟩
  conv => whnf
  refine liS ([] : List Job) Job.enc rfl rfl ?_
  conv => whnf
  refine apS (enc := Job.enc) (l1 := ([] : List Job)) (l2 := a0.Jobs) h rfl rfl (fun _ => rfl) (fun h => ?_)
  conv => whnf
  refine ixS (enc := Task.enc) h rfl (fun _ => rfl) (fun x6 h => ?_)
  conv => whnf
  refine liS ([⟨a1, a3, (wr (a3 + x6.D)), a2, (0 : Int), false⟩] : List Job) Job.enc rfl rfl ?_
  conv => whnf
  refine apS (enc := Job.enc) (l1 := ([] : List Job) ++ a0.Jobs) (l2 := ([⟨a1, a3, (wr (a3 + x6.D)), a2, (0 : Int), false⟩] : List Job)) h rfl rfl (fun _ => rfl) (fun h => ?_)
  conv => whnf
  refine drS (by kernel_rfl) ?_
  conv => whnf
  refine inS (fn := Try.f46) tab ⟨[(0, [0, 1, 2, 11]), (1, [])], [], [], []⟩ 28 [] rfl rfl rfl rfl rfl rfl ?_
  conv => whnf
  refine lenS (([] : List Entry) ++ a0.Log) Entry.enc rfl ?_
  conv => whnf
  refine fkS h (fun h => ?_) (fun h => ?_)
  · conv => whnf
    refine ⟨14, ?_⟩
    conv => whnf
    refine liS ([⟨a3, (1 : Int), a1⟩] : List Entry) Entry.enc rfl rfl ?_
    conv => whnf
    refine apS (enc := Entry.enc) (l1 := ([] : List Entry) ++ a0.Log) (l2 := ([⟨a3, (1 : Int), a1⟩] : List Entry)) h rfl rfl (fun _ => rfl) (fun h => ?_)
    conv => whnf
    refine drS (by kernel_rfl) ?_
    conv => whnf
    refine inS (fn := Try.f47) tab ⟨[(0, [0, 2]), (1, [0, 2]), (2, [2])], [], [], []⟩ 16 [.cell 2 28] rfl rfl rfl rfl rfl rfl ?_
    conv => whnf
    exact rt (E := E_PartState_Int) h rfl
  conv => whnf
  refine inS (fn := Try.f47) tab ⟨[(0, [0, 2]), (1, [0, 2]), (2, [2])], [], [], []⟩ 16 [.cell 2 28] rfl rfl rfl rfl rfl rfl ?_
  conv => whnf
  exact rt (E := E_PartState_Int) h rfl

end Go.Proofs.Ytakiggekallckaa
namespace Go.Proofs.Ytakiggekallckaa
open Go Go.VC
/-! A release. -/
def relArg (s : PartState) (i w t : Int) : Prop := stP s ∧ 0 ≤ i ∧ i < (s.Tasks.length : Int) ∧ 1 ≤ w ∧ w ≤ 200 ∧ whenP t
noncomputable instance (s : PartState) (i w t : Int) : Decidable (relArg s i w t) := Classical.propDecidable _
def tD (l : List Task) (i : Int) : Int := match l[i.toNat]? with | some t => t.D | none => 0
def newJob (l : List Task) (i w t : Int) : Job := ⟨i, t, t + tD l i, w, 0, false⟩
noncomputable def relV (s : PartState) (i w t : Int) : PartState × Int :=
  if relArg s i w t then
    if (s.Leaves[i.toNat]?).getD false = true then (s, 9)
    else if mayV s.Tasks s.Lasts i t = 0 then
      if s.Jobs.length < 32 then (⟨s.Tasks, s.Leaves, s.Lasts.set i.toNat t, s.Jobs ++ [newJob s.Tasks i w t], nt s.Log ⟨t, 1, i⟩⟩, 0)
      else (⟨s.Tasks, s.Leaves, s.Lasts, s.Jobs, nt s.Log ⟨t, 3, i⟩⟩, 3)
    else (⟨s.Tasks, s.Leaves, s.Lasts, s.Jobs, nt s.Log ⟨t, 2, i⟩⟩, 6)
  else (s, 1)
theorem relArg_arg {s : PartState} {i w t : Int} (h : relArg s i w t) : argP s.Tasks s.Lasts i t := ⟨h.1.2.1, h.2.1, h.2.2.1, h.2.2.2.2.2.1, h.2.2.2.2.2.2⟩
theorem mayV_06 {l : List Task} {ls : List Int} {i t : Int} (h : argP l ls i t) : mayV l ls i t = 0 ∨ mayV l ls i t = 6 := by
  unfold mayV; rw [if_pos h]; split
  · exact .inr rfl
  · exact .inl rfl
theorem tD_lt {l : List Task} {i : Int} (h : i.toNat < l.length) : tD l i = l[i.toNat].D := by unfold tD; rw [List.getElem?_eq_getElem h]
theorem tD_b {l : List Task} (ha : AllP l) {i : Int} (h : i.toNat < l.length) : 1 ≤ tD l i ∧ tD l i ≤ 200 := by
  rw [tD_lt h]
  have := (ha.1 _ (List.getElem_mem h)).1
  unfold ownP at this
  omega
theorem ref17_Release_eq (s : PartState) (i w t : Int) (hb : StB s) : ref17_Release (toR s) i w t = some (toR (relV s i w t).1, (relV s i w t).2) := by
  unfold ref17_Release
  simp only [jn_eq]
  rw [bnd_eq (ref17_Right_eq s hb)]
  unfold toR
  dsimp only
  by_cases h1 : stP s
  rotate_left
  · rw [decide_eq_false h1, Bool.not_false, fk_t, fk_t, relV, if_neg (fun h => h1 h.1)]
  rw [decide_eq_true h1, Bool.not_true, fk_f]
  by_cases h2 : 0 ≤ i
  rotate_left
  · rw [decide_eq_true (by omega), fk_t, fk_t, relV, if_neg (fun h => h2 h.2.1)]
  rw [decide_eq_false (by omega), fk_f]
  by_cases h3 : i < (s.Tasks.length : Int)
  rotate_left
  · rw [decide_eq_true (by omega), fk_t, fk_t, relV, if_neg (fun h => h3 h.2.2.1)]
  rw [decide_eq_false (by omega), fk_f]
  by_cases h4 : 1 ≤ w
  rotate_left
  · rw [decide_eq_true (by omega), fk_t, fk_t, relV, if_neg (fun h => h4 h.2.2.2.1)]
  rw [decide_eq_false (by omega), fk_f]
  by_cases h5 : w ≤ 200
  rotate_left
  · rw [decide_eq_true (by omega), fk_t, fk_t, relV, if_neg (fun h => h5 h.2.2.2.2.1)]
  rw [decide_eq_false (by omega), fk_f, bnd_eq (ref17_when_eq t)]
  by_cases h6 : whenP t
  rotate_left
  · rw [decide_eq_false h6, Bool.not_false, fk_t, relV, if_neg (fun h => h6 h.2.2.2.2.2)]
  have hA : relArg s i w t := ⟨h1, h2, h3, h4, h5, h6⟩
  have hLl := h1.1
  have hLs := h1.2.1.2.1
  have hT8 := AllP_len h1.2.1.1
  have hi : i.toNat < s.Tasks.length := by omega
  have hiL : i.toNat < s.Leaves.length := by omega
  have hiA : i.toNat < s.Lasts.length := by omega
  have hJ := h1.2.2.1.2.1
  have hG := h1.2.2.2
  rw [decide_eq_true h6, Bool.not_true, fk_f, ix_int h2 hiL]
  have eL : (s.Leaves[i.toNat]?).getD false = s.Leaves[i.toNat] := by rw [List.getElem?_eq_getElem hiL]; rfl
  by_cases h7 : s.Leaves[i.toNat] = true
  · rw [h7, fk_t, relV, if_pos hA, eL, if_pos h7]
  rw [Bool.eq_false_iff.2 h7, fk_f, bnd_eq (ref16_May_eq _ _ _ _ hb.t hb.u hb.a), relV, if_pos hA, eL, if_neg h7]
  by_cases h8 : mayV s.Tasks s.Lasts i t = 0
  rotate_left
  · rw [decide_eq_false h8, Bool.not_false, fk_t, bnd_eq (ref17_noted_eq _ _ _ _), if_neg h8]
  rw [decide_eq_true h8, Bool.not_true, fk_f, if_pos h8]
  by_cases h9 : s.Jobs.length < 32
  rotate_left
  · rw [decide_eq_true (by omega), fk_t, bnd_eq (ref17_noted_eq _ _ _ _), if_neg h9]
  have hD := tD_b h1.2.1.1 hi
  have hw := h6
  unfold whenP at hw
  rw [decide_eq_false (by omega), fk_f, if_pos h9, ck_t (by simp; omega), List.nil_append, ck_t (by simp; omega), ox_lt hiA, ck_t (by simp; omega), List.nil_append, ix_int h2 hi, ck_t (by simp; omega), bnd_eq (ref17_noted_eq _ _ _ _), ← tD_lt hi, wr_in _ (by omega)]
  rfl
theorem part_Release_eq (s : PartState) (i w t : Int) (hb : StB s) : part_Release s i w t = some (relV s i w t) := by
  unfold part_Release
  simp only [jn_eq]
  rw [bnd_eq (part_Right_eq s hb)]
  by_cases h1 : stP s
  rotate_left
  · rw [decide_eq_false h1, Bool.not_false, fk_t, fk_t, relV, if_neg (fun h => h1 h.1)]
  rw [decide_eq_true h1, Bool.not_true, fk_f]
  by_cases h2 : 0 ≤ i
  rotate_left
  · rw [decide_eq_true (by omega), fk_t, fk_t, relV, if_neg (fun h => h2 h.2.1)]
  rw [decide_eq_false (by omega), fk_f]
  by_cases h3 : i < (s.Tasks.length : Int)
  rotate_left
  · rw [decide_eq_true (by omega), fk_t, fk_t, relV, if_neg (fun h => h3 h.2.2.1)]
  rw [decide_eq_false (by omega), fk_f]
  by_cases h4 : 1 ≤ w
  rotate_left
  · rw [decide_eq_true (by omega), fk_t, fk_t, relV, if_neg (fun h => h4 h.2.2.2.1)]
  rw [decide_eq_false (by omega), fk_f]
  by_cases h5 : w ≤ 200
  rotate_left
  · rw [decide_eq_true (by omega), fk_t, fk_t, relV, if_neg (fun h => h5 h.2.2.2.2.1)]
  rw [decide_eq_false (by omega), fk_f, bnd_eq (part_when_eq t)]
  by_cases h6 : whenP t
  rotate_left
  · rw [decide_eq_false h6, Bool.not_false, fk_t, relV, if_neg (fun h => h6 h.2.2.2.2.2)]
  have hA : relArg s i w t := ⟨h1, h2, h3, h4, h5, h6⟩
  have hLl := h1.1
  have hLs := h1.2.1.2.1
  have hT8 := AllP_len h1.2.1.1
  have hi : i.toNat < s.Tasks.length := by omega
  have hiL : i.toNat < s.Leaves.length := by omega
  have hiA : i.toNat < s.Lasts.length := by omega
  have hJ := h1.2.2.1.2.1
  have hG := h1.2.2.2
  rw [decide_eq_true h6, Bool.not_true, fk_f, ix_int h2 hiL]
  have eL : (s.Leaves[i.toNat]?).getD false = s.Leaves[i.toNat] := by rw [List.getElem?_eq_getElem hiL]; rfl
  by_cases h7 : s.Leaves[i.toNat] = true
  · rw [h7, fk_t, relV, if_pos hA, eL, if_pos h7]
  rw [Bool.eq_false_iff.2 h7, fk_f, ck_t (by simp; omega), bnd_eq (police_Note_eq _ _ _ _ hb.t (by omega)), relV, if_pos hA, eL, if_neg h7, List.nil_append]
  dsimp only
  by_cases h8 : mayV s.Tasks s.Lasts i t = 0
  rotate_left
  · have h86 : mayV s.Tasks s.Lasts i t = 6 := (mayV_06 (relArg_arg hA)).resolve_left h8
    rw [decide_eq_false h8, Bool.not_false, fk_t, if_neg h8, h86]
    exact nt_fk s.Log ⟨t, 2, i⟩ (fun lg => some ((⟨s.Tasks, s.Leaves, s.Lasts, s.Jobs, lg⟩ : PartState), (6 : Int)))
  rw [decide_eq_true h8, Bool.not_true, fk_f, if_pos h8]
  by_cases h9 : s.Jobs.length < 32
  rotate_left
  · rw [decide_eq_true (by omega), fk_t, if_neg h9]
    exact nt_fk s.Log ⟨t, 3, i⟩ (fun lg => some ((⟨s.Tasks, s.Leaves, s.Lasts, s.Jobs, lg⟩ : PartState), (3 : Int)))
  have hD := tD_b h1.2.1.1 hi
  have hw := h6
  unfold whenP at hw
  rw [decide_eq_false (by omega), fk_f, if_pos h9, ck_t (by simp; omega), List.nil_append, ix_int h2 hi, ck_t (by simp; omega), ← tD_lt hi, wr_in _ (by omega)]
  have eN : noteL s.Tasks s.Lasts i t = s.Lasts.set i.toNat t := by unfold noteL; rw [if_pos h8]
  rw [eN]
  exact nt_fk s.Log ⟨t, 1, i⟩ (fun lg => some ((⟨s.Tasks, s.Leaves, s.Lasts.set i.toNat t, s.Jobs ++ [newJob s.Tasks i w t], lg⟩ : PartState), (0 : Int)))
def atP (ls : List Int) (js : List Job) : Prop := ∀ j ∈ js, j.At ≤ lg ls j.Task
theorem lg_set {ls : List Int} {i t j : Int} (hi : 0 ≤ i) (hj : 0 ≤ j) (hjl : j.toNat < ls.length) : lg (ls.set i.toNat t) j = if i = j then t else lg ls j := by
  unfold lg
  by_cases c : i = j
  · subst c; rw [List.getElem?_set_self hjl, if_pos rfl]; rfl
  · rw [List.getElem?_set_ne (by omega), if_neg c]
theorem stP_rel {s : PartState} {i w t : Int} (h : stP s) (hat : atP s.Lasts s.Jobs) : stP (relV s i w t).1 ∧ atP (relV s i w t).1.Lasts (relV s i w t).1.Jobs := by
  unfold relV
  split
  rotate_left
  · exact ⟨h, hat⟩
  rename_i hA
  split
  · exact ⟨h, hat⟩
  split
  rotate_left
  · exact ⟨⟨h.1, h.2.1, h.2.2.1, nt_len h.2.2.2⟩, hat⟩
  rename_i h8
  split
  rotate_left
  · exact ⟨⟨h.1, h.2.1, h.2.2.1, nt_len h.2.2.2⟩, hat⟩
  rename_i h9
  have hn := lastsP_note h.2.1 i t
  have eN : noteL s.Tasks s.Lasts i t = s.Lasts.set i.toNat t := by unfold noteL; rw [if_pos h8]
  rw [eN] at hn
  have hls := h.2.1.2.1
  have hlt : ∀ j ∈ s.Jobs, j.Task = i → j.At < t := by
    intro j hj e
    have h1 := hat j hj
    have h2 := (h.2.2.1.2.2.1 j hj).2.1
    have hT := argP_b (relArg_arg hA)
    unfold mayV at h8
    rw [if_pos (relArg_arg hA)] at h8
    by_cases c : lg s.Lasts i ≠ -1 ∧ t < lg s.Lasts i + tT s.Tasks i
    · rw [if_pos c] at h8; omega
    rw [e] at h1
    omega
  have hAt : atP (s.Lasts.set i.toNat t) (s.Jobs ++ [newJob s.Tasks i w t]) := by
    intro j hj
    have h2 := hA.2.1
    have h3 := hA.2.2.1
    rcases List.mem_append.1 hj with hj | hj
    · obtain ⟨t0, _, _, t3, _⟩ := h.2.2.1.2.2.1 j hj
      rw [lg_set h2 t0 (by omega)]
      split
      · have := hlt j hj (by omega); omega
      · exact hat j hj
    · obtain rfl := List.mem_singleton.1 hj
      show t ≤ lg (s.Lasts.set i.toNat t) i
      rw [lg_set h2 h2 (by omega), if_pos rfl]; exact Int.le_refl _
  refine ⟨⟨h.1, hn, ?_, nt_len h.2.2.2⟩, hAt⟩
  obtain ⟨p1, p2, p3, p4⟩ := h.2.2.1
  have hi : i.toNat < s.Tasks.length := by have := hA.2.1; have := hA.2.2.1; omega
  have hC := (p1.1 _ (List.getElem_mem hi)).1
  unfold ownP at hC
  have hD := tD_b p1 hi
  have hw := hA.2.2.2.2.2
  unfold whenP at hw
  refine ⟨p1, by rw [List.length_append]; simp; omega, ?_, ?_⟩
  · intro j hj
    rcases List.mem_append.1 hj with hj | hj
    · exact p3 j hj
    · obtain rfl := List.mem_singleton.1 hj
      refine ⟨hA.2.1, hw.1, hw.2, hi, ?_⟩
      unfold newJob bodyP
      rw [tD_lt hi]
      have hw1 := hA.2.2.2.1
      have hw2 := hA.2.2.2.2.1
      refine ⟨rfl, hw1, hw2, Int.le_refl _, by show (0 : Int) < w; omega, ?_, .inr rfl⟩
      show (0 : Int) < s.Tasks[i.toNat].C
      omega
  · refine List.pairwise_append.2 ⟨p4, List.pairwise_singleton _ _, fun a ha b hb => ?_⟩
    obtain rfl := List.mem_singleton.1 hb
    intro ⟨e1, e2⟩
    have := hlt a ha e1
    have e3 : a.At = t := e2
    omega
end Go.Proofs.Ytakiggekallckaa
namespace Go.Proofs.Ytakiggekallckaa
open Go Go.VC
noncomputable def part_without_api_Task (a0 : List Task) (a1 : Int) : Option (List Task) :=
  ck (decide ((0 : Int) ≤ (0 : Int)) && decide ((0 : Int) ≤ a1) && decide (a1 ≤ (a0.length : Int))) (ck (decide ((([] : List Task).length + ((a0.take a1.toNat).drop (0 : Int).toNat).length) * 48 ≤ 140737488355328)) (ck (decide ((0 : Int) ≤ (wr (a1 + (1 : Int)))) && decide ((wr (a1 + (1 : Int))) ≤ (a0.length : Int)) && decide ((a0.length : Int) ≤ (a0.length : Int))) (ck (decide (((([] : List Task) ++ ((a0.take a1.toNat).drop (0 : Int).toNat)).length + ((a0.take (a0.length : Int).toNat).drop (wr (a1 + (1 : Int))).toNat).length) * 48 ≤ 140737488355328)) (some ((([] : List Task) ++ ((a0.take a1.toNat).drop (0 : Int).toNat)) ++ ((a0.take (a0.length : Int).toNat).drop (wr (a1 + (1 : Int))).toNat))))))
theorem part_without_api_Task_w (a0 : List Task) (a1 : Int) (r : List Task) (h : part_without_api_Task a0 a1 = some r) : Go.VC.Spec Try.prog 79 [.d (.sl (a0.map Task.enc)), .d (.int .i64 a1)] (fun y => y = E_ListTask r) := by
  refine Go.VC.Spec.of_xc (args := [.d (.sl (a0.map Task.enc)), .d (.int .i64 a1)]) (fn := Try.f79) tab ⟨[(0, [0, 1]), (1, [4])], [], [], []⟩ 15 [.tmp 4] rfl rfl rfl rfl rfl rfl ?_
  conv => whnf
  refine ⟨9, ?_⟩
  conv => whnf
  refine liS ([] : List Task) Task.enc rfl rfl ?_
  conv => whnf
  refine slS (enc := Task.enc) h rfl rfl (.inl rfl) (fun _ => rfl) (fun h => ?_)
  conv => whnf
  refine apS (enc := Task.enc) (l1 := ([] : List Task)) (l2 := (a0.take a1.toNat).drop (0 : Int).toNat) h rfl rfl (fun _ => rfl) (fun h => ?_)
  conv => whnf
  refine slS (enc := Task.enc) h rfl rfl (.inl rfl) (fun _ => rfl) (fun h => ?_)
  conv => whnf
  refine drS (by kernel_rfl) ?_
  conv => whnf
  refine apS (enc := Task.enc) (l1 := ([] : List Task) ++ ((a0.take a1.toNat).drop (0 : Int).toNat)) (l2 := (a0.take (a0.length : Int).toNat).drop (wr (a1 + (1 : Int))).toNat) h rfl rfl (fun _ => rfl) (fun h => ?_)
  conv => whnf
  exact rt (E := E_ListTask) h rfl

end Go.Proofs.Ytakiggekallckaa
namespace Go.Proofs.Ytakiggekallckaa
open Go Go.VC
noncomputable def part_without_bool (a0 : List Bool) (a1 : Int) : Option (List Bool) :=
  ck (decide ((0 : Int) ≤ (0 : Int)) && decide ((0 : Int) ≤ a1) && decide (a1 ≤ (a0.length : Int))) (ck (decide ((([] : List Bool).length + ((a0.take a1.toNat).drop (0 : Int).toNat).length) * 1 ≤ 140737488355328)) (ck (decide ((0 : Int) ≤ (wr (a1 + (1 : Int)))) && decide ((wr (a1 + (1 : Int))) ≤ (a0.length : Int)) && decide ((a0.length : Int) ≤ (a0.length : Int))) (ck (decide (((([] : List Bool) ++ ((a0.take a1.toNat).drop (0 : Int).toNat)).length + ((a0.take (a0.length : Int).toNat).drop (wr (a1 + (1 : Int))).toNat).length) * 1 ≤ 140737488355328)) (some ((([] : List Bool) ++ ((a0.take a1.toNat).drop (0 : Int).toNat)) ++ ((a0.take (a0.length : Int).toNat).drop (wr (a1 + (1 : Int))).toNat))))))
theorem part_without_bool_w (a0 : List Bool) (a1 : Int) (r : List Bool) (h : part_without_bool a0 a1 = some r) : Go.VC.Spec Try.prog 80 [.d (.sl (a0.map eB)), .d (.int .i64 a1)] (fun y => y = E_ListBool r) := by
  refine Go.VC.Spec.of_xc (args := [.d (.sl (a0.map eB)), .d (.int .i64 a1)]) (fn := Try.f80) tab ⟨[(0, [0, 1]), (1, [4])], [], [], []⟩ 15 [.tmp 4] rfl rfl rfl rfl rfl rfl ?_
  conv => whnf
  refine ⟨9, ?_⟩
  conv => whnf
  refine liS ([] : List Bool) eB rfl rfl ?_
  conv => whnf
  refine slS (enc := eB) h rfl rfl (.inl rfl) (fun _ => rfl) (fun h => ?_)
  conv => whnf
  refine apS (enc := eB) (l1 := ([] : List Bool)) (l2 := (a0.take a1.toNat).drop (0 : Int).toNat) h rfl rfl (fun _ => rfl) (fun h => ?_)
  conv => whnf
  refine slS (enc := eB) h rfl rfl (.inl rfl) (fun _ => rfl) (fun h => ?_)
  conv => whnf
  refine drS (by kernel_rfl) ?_
  conv => whnf
  refine apS (enc := eB) (l1 := ([] : List Bool) ++ ((a0.take a1.toNat).drop (0 : Int).toNat)) (l2 := (a0.take (a0.length : Int).toNat).drop (wr (a1 + (1 : Int))).toNat) h rfl rfl (fun _ => rfl) (fun h => ?_)
  conv => whnf
  exact rt (E := E_ListBool) h rfl

end Go.Proofs.Ytakiggekallckaa
namespace Go.Proofs.Ytakiggekallckaa
open Go Go.VC
noncomputable def part_without_int (a0 : List Int) (a1 : Int) : Option (List Int) :=
  ck (decide ((0 : Int) ≤ (0 : Int)) && decide ((0 : Int) ≤ a1) && decide (a1 ≤ (a0.length : Int))) (ck (decide ((([] : List Int).length + ((a0.take a1.toNat).drop (0 : Int).toNat).length) * 8 ≤ 140737488355328)) (ck (decide ((0 : Int) ≤ (wr (a1 + (1 : Int)))) && decide ((wr (a1 + (1 : Int))) ≤ (a0.length : Int)) && decide ((a0.length : Int) ≤ (a0.length : Int))) (ck (decide (((([] : List Int) ++ ((a0.take a1.toNat).drop (0 : Int).toNat)).length + ((a0.take (a0.length : Int).toNat).drop (wr (a1 + (1 : Int))).toNat).length) * 8 ≤ 140737488355328)) (some ((([] : List Int) ++ ((a0.take a1.toNat).drop (0 : Int).toNat)) ++ ((a0.take (a0.length : Int).toNat).drop (wr (a1 + (1 : Int))).toNat))))))
theorem part_without_int_w (a0 : List Int) (a1 : Int) (r : List Int) (h : part_without_int a0 a1 = some r) : Go.VC.Spec Try.prog 81 [.d (.sl (a0.map (eI .i64))), .d (.int .i64 a1)] (fun y => y = E_ListInt r) := by
  refine Go.VC.Spec.of_xc (args := [.d (.sl (a0.map (eI .i64))), .d (.int .i64 a1)]) (fn := Try.f81) tab ⟨[(0, [0, 1]), (1, [4])], [], [], []⟩ 15 [.tmp 4] rfl rfl rfl rfl rfl rfl ?_
  conv => whnf
  refine ⟨9, ?_⟩
  conv => whnf
  refine liS ([] : List Int) (eI .i64) rfl rfl ?_
  conv => whnf
  refine slS (enc := (eI .i64)) h rfl rfl (.inl rfl) (fun _ => rfl) (fun h => ?_)
  conv => whnf
  refine apS (enc := (eI .i64)) (l1 := ([] : List Int)) (l2 := (a0.take a1.toNat).drop (0 : Int).toNat) h rfl rfl (fun _ => rfl) (fun h => ?_)
  conv => whnf
  refine slS (enc := (eI .i64)) h rfl rfl (.inl rfl) (fun _ => rfl) (fun h => ?_)
  conv => whnf
  refine drS (by kernel_rfl) ?_
  conv => whnf
  refine apS (enc := (eI .i64)) (l1 := ([] : List Int) ++ ((a0.take a1.toNat).drop (0 : Int).toNat)) (l2 := (a0.take (a0.length : Int).toNat).drop (wr (a1 + (1 : Int))).toNat) h rfl rfl (fun _ => rfl) (fun h => ?_)
  conv => whnf
  exact rt (E := E_ListInt) h rfl

end Go.Proofs.Ytakiggekallckaa
namespace Go.Proofs.Ytakiggekallckaa
open Go Go.VC
noncomputable def part_Tick (a0 : PartState) (a1 : Bool) (a2 : Int) : Option (PartState × Int × Int) :=
  jn (fun (w1 : Bool) => fk w1 (some (a0, (-1 : Int), (1 : Int))) (ck (decide ((([] : List Entry).length + a0.Log.length) * 24 ≤ 140737488355328)) (lp (fun nx4 (v4 : (List Job) × (List Entry) × Int) => fk (decide (v4.2.2 < (a0.Jobs.length : Int))) (jn (fun (w5 : (List Job) × (List Entry)) => nx4 (w5.1, w5.2, (wr (v4.2.2 + (1 : Int))))) (fun k5 => ix a0.Jobs v4.2.2 fun x6 => fk (decide (x6.Due > a2)) (ck (decide ((v4.1.length + ([x6] : List Job).length) * 48 ≤ 140737488355328)) (k5 (v4.1 ++ ([x6] : List Job), v4.2.1))) (fk (decide ((v4.2.1.length : Int) < (2000 : Int))) (ck (decide ((v4.2.1.length + ([⟨a2, (6 : Int), x6.Task⟩] : List Entry).length) * 24 ≤ 140737488355328)) (k5 (v4.1, v4.2.1 ++ ([⟨a2, (6 : Int), x6.Task⟩] : List Entry)))) (k5 (v4.1, v4.2.1))))) (jn (fun (w7 : (List Job) × (List Entry) × Int) => jn (fun (w11 : (List Task) × (List Bool) × (List Int) × (List Entry)) => some (⟨w11.1, w11.2.1, w11.2.2.1, w7.1, w11.2.2.2⟩, w7.2.2, (0 : Int))) (fun k11 => fk (decide ((w7.1.length : Int) = (0 : Int))) (lp (fun nx12 (v12 : (List Task) × (List Bool) × (List Int) × (List Entry) × Int) => fk (decide (v12.2.2.2.2 ≥ (0 : Int))) (jn (fun (w13 : (List Task) × (List Bool) × (List Int) × (List Entry)) => nx12 (w13.1, w13.2.1, w13.2.2.1, w13.2.2.2, (wr (v12.2.2.2.2 - (1 : Int))))) (fun k13 => ix v12.2.1 v12.2.2.2.2 fun x14 => fk x14 (bnd (part_without_api_Task v12.1 v12.2.2.2.2) fun x15 => bnd (part_without_bool v12.2.1 v12.2.2.2.2) fun x16 => bnd (part_without_int v12.2.2.1 v12.2.2.2.2) fun x17 => fk (decide ((v12.2.2.2.1.length : Int) < (2000 : Int))) (ck (decide ((v12.2.2.2.1.length + ([⟨a2, (7 : Int), v12.2.2.2.2⟩] : List Entry).length) * 24 ≤ 140737488355328)) (k13 (x15, x16, x17, v12.2.2.2.1 ++ ([⟨a2, (7 : Int), v12.2.2.2.2⟩] : List Entry)))) (k13 (x15, x16, x17, v12.2.2.2.1))) (k13 (v12.1, v12.2.1, v12.2.2.1, v12.2.2.2.1)))) (k11 (v12.1, v12.2.1, v12.2.2.1, v12.2.2.2.1))) FU (a0.Tasks, a0.Leaves, a0.Lasts, w7.2.1, (wr ((a0.Tasks.length : Int) - (1 : Int))))) (k11 (a0.Tasks, a0.Leaves, a0.Lasts, w7.2.1)))) (fun k7 => fk a1 (bnd (srp_Tick a0.Tasks v4.1) fun x8 => fk (decide ((v4.1.length : Int) = (0 : Int))) (k7 (v4.1, v4.2.1, (-1 : Int))) (jn (fun (w9 : Bool) => fk w9 (fk (decide ((v4.2.1.length : Int) < (2000 : Int))) (ck (decide ((v4.2.1.length + ([⟨a2, (5 : Int), x8.2.1.Task⟩] : List Entry).length) * 24 ≤ 140737488355328)) (k7 (x8.1, v4.2.1 ++ ([⟨a2, (5 : Int), x8.2.1.Task⟩] : List Entry), x8.2.1.Task))) (k7 (x8.1, v4.2.1, x8.2.1.Task))) (fk x8.2.2 (fk (decide ((v4.2.1.length : Int) < (2000 : Int))) (ck (decide ((v4.2.1.length + ([⟨a2, (4 : Int), x8.2.1.Task⟩] : List Entry).length) * 24 ≤ 140737488355328)) (k7 (x8.1, v4.2.1 ++ ([⟨a2, (4 : Int), x8.2.1.Task⟩] : List Entry), x8.2.1.Task))) (k7 (x8.1, v4.2.1, x8.2.1.Task))) (k7 (x8.1, v4.2.1, x8.2.1.Task)))) (fun k9 => fk x8.2.2 (ix a0.Tasks x8.2.1.Task fun x10 => k9 (decide (x8.2.1.Want > x10.C))) (k9 false)))) (k7 (v4.1, v4.2.1, (-1 : Int)))))) FU ([], ([] : List Entry) ++ a0.Log, (0 : Int))))) (fun k1 => bnd (part_Right a0) fun x2 => fk (!x2) (k1 true) (bnd (part_when a2) fun x3 => k1 (!x3)))
theorem part_Tick_w (a0 : PartState) (a1 : Bool) (a2 : Int) (r : PartState × Int × Int) (h : part_Tick a0 a1 a2 = some r) : Go.VC.Spec Try.prog 21 [.agg (PartState.enc a0), .d (.bool a1), .d (.int .i64 a2)] (fun y => y = E_PartState_Int_Int r) := by
  refine Go.VC.Spec.of_xc (args := [.agg (PartState.enc a0), .d (.bool a1), .d (.int .i64 a2)]) (fn := Try.f21) tab ⟨[(0, [1, 2, 3, 6]), (1, [1, 2, 3, 6, 18]), (2, [6, 7, 8]), (3, [1, 6, 9]), (4, [1, 6, 9]), (5, [1, 6, 9, 10]), (6, [6, 9, 10, 25]), (7, [6, 9, 10]), (8, [6, 9, 10, 34]), (9, [6, 9, 10]), (10, [6, 7, 8])], [], [100018, 10, 8], []⟩ 40 [.cell 6 28, .tmp 7, .tmp 8] rfl rfl rfl rfl rfl rfl ?_
  conv => whnf
  refine jnS (fun w1 => ⟨[(1, .l (.d (.bool a1))), (2, .l (.d (.int .i64 a2))), (3, .l (.ptr 4 0)), (6, .l (.ptr 7 0)), (18, .l (.d (.bool w1)))], 40, [], [(4, [.d (.sl (a0.Tasks.map Task.enc)), .d (.sl (a0.Leaves.map eB)), .d (.sl (a0.Lasts.map (eI .i64))), .d (.sl (a0.Jobs.map Job.enc)), .d (.sl (a0.Log.map Entry.enc))]), (7, [.nil, .nil, .nil, .nil, .nil])], []⟩) h (fun k1 hk1 h => ?_) (fun w1 h => ?_)
  · conv => whnf
    refine caS (E := E_Bool) h (part_Right_w a0) rfl (fun _ => rfl) (fun x2 h => ?_)
    conv => whnf
    refine fkS h (fun h => ?_) (fun h => ?_)
    · conv => whnf
      exact jeS hk1 h (Weak.refl _)
    conv => whnf
    refine caS (E := E_Bool) h (part_when_w a2) rfl (fun _ => rfl) (fun x3 h => ?_)
    conv => whnf
    exact jeS hk1 h (Weak.refl _)
  conv => whnf
  refine fkS h (fun h => ?_) (fun h => ?_)
  · conv => whnf
    exact rt (E := E_PartState_Int_Int) h rfl
  conv => whnf
  refine inS (fn := Try.f44) tab ⟨[(0, [1, 2]), (1, [4])], [], [], []⟩ 14 [.tmp 4] rfl rfl rfl rfl rfl rfl ?_
  conv => whnf
  refine ⟨7, ?_⟩
  conv => whnf
  refine liS ([] : List Entry) Entry.enc rfl rfl ?_
  conv => whnf
  refine apS (enc := Entry.enc) (l1 := ([] : List Entry)) (l2 := a0.Log) h rfl rfl (fun _ => rfl) (fun h => ?_)
  conv => whnf
  refine drS (by kernel_rfl) ?_
  conv => whnf
  refine inS (fn := Try.f58) tab ⟨[(0, [0, 2]), (1, [0, 2, 9, 10, 11]), (2, [0, 2, 9, 10, 11, 12]), (3, [0, 2, 4, 9, 10, 11]), (4, [0, 2, 4, 9, 10, 11, 22]), (5, [0, 2, 9, 10, 11]), (6, [0, 2, 9, 10, 11]), (7, [0, 2, 9, 10, 11]), (8, [])], [], [7], []⟩ 39 [] rfl rfl rfl rfl rfl rfl ?_
  conv => whnf
  refine lenS a0.Jobs Job.enc rfl ?_
  conv => whnf
  refine lpS (fun v4 => ⟨[(0, .l (.ptr 1014 0)), (2, .l (.own 1003)), (9, .l (.d (.sl (a0.Jobs.map Job.enc)))), (10, .l (.d (.int .i64 (a0.Jobs.length : Int)))), (11, .l (.d (.int .i64 v4.2.2)))], 39, [⟨[(23, .l (.ptr 1014 0)), (1, .l (.d (.bool a1))), (6, .l (.ptr 7 0)), (9, .l (.ptr 1014 0))], 40⟩], [(7, [.nil, .nil, .nil, .nil, .nil]), (1014, [.own 1009, .d (.int .i64 a2), .d (.sl (a0.Tasks.map Task.enc)), .d (.sl (a0.Leaves.map eB)), .d (.sl (a0.Lasts.map (eI .i64))), .d (.sl (a0.Jobs.map Job.enc)), .d (.sl (a0.Log.map Entry.enc))])], [(1003, 95, 6, v4.1.map Job.enc), (1009, 57, 3, v4.2.1.map Entry.enc)]⟩) h (Weak.trans (Weak.nilO _ 2 1003 95 6 rfl) (Weak.refl _)) (fun _ nx4 hn4 v4 h => ?_)
  conv => whnf
  refine fkS h (fun h => ?_) (fun h => ?_)
  · conv => whnf
    refine jnS (fun w5 => ⟨[(0, .l (.ptr 1014 0)), (2, .l (.own 1003)), (9, .l (.d (.sl (a0.Jobs.map Job.enc)))), (10, .l (.d (.int .i64 (a0.Jobs.length : Int)))), (11, .l (.d (.int .i64 v4.2.2)))], 39, [⟨[(23, .l (.ptr 1014 0)), (1, .l (.d (.bool a1))), (6, .l (.ptr 7 0)), (9, .l (.ptr 1014 0))], 40⟩], [(7, [.nil, .nil, .nil, .nil, .nil]), (1014, [.own 1009, .d (.int .i64 a2), .d (.sl (a0.Tasks.map Task.enc)), .d (.sl (a0.Leaves.map eB)), .d (.sl (a0.Lasts.map (eI .i64))), .d (.sl (a0.Jobs.map Job.enc)), .d (.sl (a0.Log.map Entry.enc))])], [(1003, 95, 6, w5.1.map Job.enc), (1009, 57, 3, w5.2.map Entry.enc)]⟩) h (fun k5 hk5 h => ?_) (fun w5 h => ?_)
    · conv => whnf
      refine ixS (enc := Job.enc) h rfl (fun _ => rfl) (fun x6 h => ?_)
      conv => whnf
      refine ⟨7, ?_⟩
      conv => whnf
      refine drS (by kernel_rfl) ?_
      conv => whnf
      refine fkS h (fun h => ?_) (fun h => ?_)
      · conv => whnf
        refine liS ([x6] : List Job) Job.enc rfl rfl ?_
        conv => whnf
        refine apS (enc := Job.enc) (l1 := v4.1) (l2 := ([x6] : List Job)) h rfl rfl (fun _ => rfl) (fun h => ?_)
        conv => whnf
        exact jeS hk5 h (Weak.refl _)
      conv => whnf
      refine ⟨5, ?_⟩
      conv => whnf
      refine drS (by kernel_rfl) ?_
      conv => whnf
      refine inS (fn := Try.f46) tab ⟨[(0, [0, 1, 2, 11]), (1, [])], [], [], []⟩ 28 [] rfl rfl rfl rfl rfl rfl ?_
      conv => whnf
      refine lenS v4.2.1 Entry.enc rfl ?_
      conv => whnf
      refine fkS h (fun h => ?_) (fun h => ?_)
      · conv => whnf
        refine ⟨14, ?_⟩
        conv => whnf
        refine liS ([⟨a2, (6 : Int), x6.Task⟩] : List Entry) Entry.enc rfl rfl ?_
        conv => whnf
        refine apS (enc := Entry.enc) (l1 := v4.2.1) (l2 := ([⟨a2, (6 : Int), x6.Task⟩] : List Entry)) h rfl rfl (fun _ => rfl) (fun h => ?_)
        conv => whnf
        refine drS (by kernel_rfl) ?_
        conv => whnf
        refine jeX hk5 h ?_
        conv => whnf
        refine WkF.step (Weak.rekey _ 2026 1009 rfl) ?_
        conv => whnf
        exact WkF.refl _
      conv => whnf
      exact jeS hk5 h (Weak.refl _)
    conv => whnf
    exact leS hn4 h (Weak.refl _)
  conv => whnf
  refine jnS (fun w7 => ⟨[(6, .l (.ptr 7 0)), (9, .l (.ptr 1014 0)), (10, .l (.d (.int .i64 w7.2.2)))], 40, [], [(7, [.nil, .nil, .nil, .nil, .nil]), (1014, [.own 1009, .d (.int .i64 a2), .d (.sl (a0.Tasks.map Task.enc)), .d (.sl (a0.Leaves.map eB)), .d (.sl (a0.Lasts.map (eI .i64))), .d (.sl (w7.1.map Job.enc)), .d (.sl (a0.Log.map Entry.enc))])], [(1009, 57, 3, w7.2.1.map Entry.enc)]⟩) h (fun k7 hk7 h => ?_) (fun w7 h => ?_)
  · conv => whnf
    refine fkS h (fun h => ?_) (fun h => ?_)
    · conv => whnf
      refine inS (fn := Try.f59) tab ⟨[(0, [0]), (1, [0, 3, 4, 5]), (2, [0, 3, 4, 5, 27]), (3, [2]), (4, [0, 4, 5]), (5, [0, 4, 5, 33]), (6, [4]), (7, [0, 4, 56]), (8, [4]), (9, [2])], [(0, [1003])], [100033], []⟩ 66 [.tmp 2] rfl rfl rfl rfl rfl rfl ?_
      conv => whnf
      refine ⟨18, ?_⟩
      conv => whnf
      refine dcS (E := E_ListJob_Job_Bool) h (srp_Tick_w a0.Tasks v4.1) rfl (fun x8 h => ?_)
      conv => whnf
      refine drS (by kernel_rfl) ?_
      conv => whnf
      refine lenS v4.1 Job.enc rfl ?_
      conv => whnf
      refine fkS h (fun h => ?_) (fun h => ?_)
      · conv => whnf
        exact jeS hk7 h (Weak.refl _)
      conv => whnf
      refine jnS (fun w9 => ⟨[(0, .l (.ptr 1014 0)), (4, .l (.ptr 1005 0)), (5, .l (.d (.bool x8.2.2))), (33, .l (.d (.bool w9)))], 66, [⟨[(26, .l (.ptr 1014 0)), (25, .l (.d (.bool true))), (6, .l (.ptr 7 0)), (9, .l (.ptr 1014 0)), (10, .l (.d (.int .i64 (-1 : Int)))), (25, .l (.d (.bool a1)))], 40⟩], [(7, [.nil, .nil, .nil, .nil, .nil]), (1005, [.d (.int .i64 x8.2.1.Task), .d (.int .i64 x8.2.1.At), .d (.int .i64 x8.2.1.Due), .d (.int .i64 x8.2.1.Want), .d (.int .i64 x8.2.1.Had), .d (.bool x8.2.1.Began)]), (1014, [.own 1009, .d (.int .i64 a2), .d (.sl (a0.Tasks.map Task.enc)), .d (.sl (a0.Leaves.map eB)), .d (.sl (a0.Lasts.map (eI .i64))), .d (.sl (x8.1.map Job.enc)), .d (.sl (a0.Log.map Entry.enc))])], [(1009, 57, 3, v4.2.1.map Entry.enc)]⟩) h (fun k9 hk9 h => ?_) (fun w9 h => ?_)
      · conv => whnf
        refine ⟨16, ?_⟩
        conv => whnf
        refine fkS h (fun h => ?_) (fun h => ?_)
        · conv => whnf
          refine ixS (enc := Task.enc) h rfl (fun _ => rfl) (fun x10 h => ?_)
          conv => whnf
          refine drS (by kernel_rfl) ?_
          conv => whnf
          exact jeS hk9 h (Weak.refl _)
        conv => whnf
        refine drS (by kernel_rfl) ?_
        conv => whnf
        exact jeS hk9 h (Weak.refl _)
      conv => whnf
      refine fkS h (fun h => ?_) (fun h => ?_)
      · conv => whnf
        refine ⟨5, ?_⟩
        conv => whnf
        refine drS (by kernel_rfl) ?_
        conv => whnf
        refine inS (fn := Try.f46) tab ⟨[(0, [0, 1, 2, 11]), (1, [])], [], [], []⟩ 28 [] rfl rfl rfl rfl rfl rfl ?_
        conv => whnf
        refine lenS v4.2.1 Entry.enc rfl ?_
        conv => whnf
        refine fkS h (fun h => ?_) (fun h => ?_)
        · conv => whnf
          refine ⟨14, ?_⟩
          conv => whnf
          refine liS ([⟨a2, (5 : Int), x8.2.1.Task⟩] : List Entry) Entry.enc rfl rfl ?_
          conv => whnf
          refine apS (enc := Entry.enc) (l1 := v4.2.1) (l2 := ([⟨a2, (5 : Int), x8.2.1.Task⟩] : List Entry)) h rfl rfl (fun _ => rfl) (fun h => ?_)
          conv => whnf
          refine drS (by kernel_rfl) ?_
          conv => whnf
          refine jeX hk7 h ?_
          conv => whnf
          refine WkF.step (Weak.rekey _ 2026 1009 rfl) ?_
          conv => whnf
          exact WkF.refl _
        conv => whnf
        exact jeS hk7 h (Weak.refl _)
      conv => whnf
      refine fkS h (fun h => ?_) (fun h => ?_)
      · conv => whnf
        refine ⟨5, ?_⟩
        conv => whnf
        refine drS (by kernel_rfl) ?_
        conv => whnf
        refine inS (fn := Try.f46) tab ⟨[(0, [0, 1, 2, 11]), (1, [])], [], [], []⟩ 28 [] rfl rfl rfl rfl rfl rfl ?_
        conv => whnf
        refine lenS v4.2.1 Entry.enc rfl ?_
        conv => whnf
        refine fkS h (fun h => ?_) (fun h => ?_)
        · conv => whnf
          refine ⟨14, ?_⟩
          conv => whnf
          refine liS ([⟨a2, (4 : Int), x8.2.1.Task⟩] : List Entry) Entry.enc rfl rfl ?_
          conv => whnf
          refine apS (enc := Entry.enc) (l1 := v4.2.1) (l2 := ([⟨a2, (4 : Int), x8.2.1.Task⟩] : List Entry)) h rfl rfl (fun _ => rfl) (fun h => ?_)
          conv => whnf
          refine drS (by kernel_rfl) ?_
          conv => whnf
          refine jeX hk7 h ?_
          conv => whnf
          refine WkF.step (Weak.rekey _ 2026 1009 rfl) ?_
          conv => whnf
          exact WkF.refl _
        conv => whnf
        exact jeS hk7 h (Weak.refl _)
      conv => whnf
      exact jeS hk7 h (Weak.refl _)
    conv => whnf
    refine jeX hk7 h ?_
    conv => whnf
    refine WkF.step (Weak.keepS _ [6, 9, 10]) ?_
    conv => whnf
    refine WkF.step (Weak.ice _ 1003) ?_
    conv => whnf
    exact WkF.refl _
  conv => whnf
  refine jnS (fun w11 => ⟨[(6, .l (.ptr 7 0)), (9, .l (.ptr 1014 0)), (10, .l (.d (.int .i64 w7.2.2)))], 40, [], [(7, [.nil, .nil, .nil, .nil, .nil]), (1014, [.own 1009, .d (.int .i64 a2), .d (.sl (w11.1.map Task.enc)), .d (.sl (w11.2.1.map eB)), .d (.sl (w11.2.2.1.map (eI .i64))), .d (.sl (w7.1.map Job.enc)), .d (.sl (a0.Log.map Entry.enc))])], [(1009, 57, 3, w11.2.2.2.map Entry.enc)]⟩) h (fun k11 hk11 h => ?_) (fun w11 h => ?_)
  · conv => whnf
    refine lenS w7.1 Job.enc rfl ?_
    conv => whnf
    refine fkS h (fun h => ?_) (fun h => ?_)
    · conv => whnf
      refine inS (fn := Try.f60) tab ⟨[(0, [0, 2]), (1, [0, 2, 11]), (2, [0, 2]), (3, [0, 2, 21]), (4, [0, 2]), (5, [0, 2])], [], [2], []⟩ 60 [] rfl rfl rfl rfl rfl rfl ?_
      conv => whnf
      refine lenS a0.Tasks Task.enc rfl ?_
      conv => whnf
      refine lpS (fun v12 => ⟨[(0, .l (.ptr 1014 0)), (2, .l (.d (.int .i64 v12.2.2.2.2)))], 60, [⟨[(35, .l (.ptr 1014 0)), (34, .l (.d (.bool true))), (6, .l (.ptr 7 0)), (9, .l (.ptr 1014 0)), (10, .l (.d (.int .i64 w7.2.2))), (34, .l (.d (.bool (decide ((w7.1.length : Int) = (0 : Int))))))], 40⟩], [(7, [.nil, .nil, .nil, .nil, .nil]), (1014, [.own 1009, .d (.int .i64 a2), .d (.sl (v12.1.map Task.enc)), .d (.sl (v12.2.1.map eB)), .d (.sl (v12.2.2.1.map (eI .i64))), .d (.sl (w7.1.map Job.enc)), .d (.sl (a0.Log.map Entry.enc))])], [(1009, 57, 3, v12.2.2.2.1.map Entry.enc)]⟩) h (Weak.refl _) (fun _ nx12 hn12 v12 h => ?_)
      conv => whnf
      refine fkS h (fun h => ?_) (fun h => ?_)
      · conv => whnf
        refine jnS (fun w13 => ⟨[(0, .l (.ptr 1014 0)), (2, .l (.d (.int .i64 v12.2.2.2.2)))], 60, [⟨[(35, .l (.ptr 1014 0)), (34, .l (.d (.bool true))), (6, .l (.ptr 7 0)), (9, .l (.ptr 1014 0)), (10, .l (.d (.int .i64 w7.2.2))), (34, .l (.d (.bool (decide ((w7.1.length : Int) = (0 : Int))))))], 40⟩], [(7, [.nil, .nil, .nil, .nil, .nil]), (1014, [.own 2026, .d (.int .i64 a2), .d (.sl (w13.1.map Task.enc)), .d (.sl (w13.2.1.map eB)), .d (.sl (w13.2.2.1.map (eI .i64))), .d (.sl (w7.1.map Job.enc)), .d (.sl (a0.Log.map Entry.enc))])], [(2026, 57, 3, w13.2.2.2.map Entry.enc)]⟩) h (fun k13 hk13 h => ?_) (fun w13 h => ?_)
        · conv => whnf
          refine ixS (enc := eB) h rfl (fun _ => rfl) (fun x14 h => ?_)
          conv => whnf
          refine fkS h (fun h => ?_) (fun h => ?_)
          · conv => whnf
            refine ⟨32, ?_⟩
            conv => whnf
            refine dcS (E := E_ListTask) h (part_without_api_Task_w v12.1 v12.2.2.2.2) rfl (fun x15 h => ?_)
            conv => whnf
            refine dcS (E := E_ListBool) h (part_without_bool_w v12.2.1 v12.2.2.2.2) rfl (fun x16 h => ?_)
            conv => whnf
            refine dcS (E := E_ListInt) h (part_without_int_w v12.2.2.1 v12.2.2.2.2) rfl (fun x17 h => ?_)
            conv => whnf
            refine drS (by kernel_rfl) ?_
            conv => whnf
            refine inS (fn := Try.f46) tab ⟨[(0, [0, 1, 2, 11]), (1, [])], [], [], []⟩ 28 [] rfl rfl rfl rfl rfl rfl ?_
            conv => whnf
            refine lenS v12.2.2.2.1 Entry.enc rfl ?_
            conv => whnf
            refine fkS h (fun h => ?_) (fun h => ?_)
            · conv => whnf
              refine ⟨14, ?_⟩
              conv => whnf
              refine liS ([⟨a2, (7 : Int), v12.2.2.2.2⟩] : List Entry) Entry.enc rfl rfl ?_
              conv => whnf
              refine apS (enc := Entry.enc) (l1 := v12.2.2.2.1) (l2 := ([⟨a2, (7 : Int), v12.2.2.2.2⟩] : List Entry)) h rfl rfl (fun _ => rfl) (fun h => ?_)
              conv => whnf
              refine drS (by kernel_rfl) ?_
              conv => whnf
              exact jeS hk13 h (Weak.refl _)
            conv => whnf
            refine jeX hk13 h ?_
            conv => whnf
            refine WkF.step (Weak.rekey _ 1009 2026 rfl) ?_
            conv => whnf
            exact WkF.refl _
          conv => whnf
          refine jeX hk13 h ?_
          conv => whnf
          refine WkF.step (Weak.keepS _ [0, 2]) ?_
          conv => whnf
          refine WkF.step (Weak.rekey _ 1009 2026 rfl) ?_
          conv => whnf
          exact WkF.refl _
        conv => whnf
        refine leX hn12 h ?_
        conv => whnf
        refine WkF.step (Weak.rekey _ 2026 1009 rfl) ?_
        conv => whnf
        exact WkF.refl _
      conv => whnf
      exact jeS hk11 h (Weak.refl _)
    conv => whnf
    refine jeX hk11 h ?_
    conv => whnf
    refine WkF.step (Weak.keepS _ [6, 9, 10]) ?_
    conv => whnf
    exact WkF.refl _
  conv => whnf
  refine inS (fn := Try.f47) tab ⟨[(0, [0, 2]), (1, [0, 2]), (2, [2])], [], [], []⟩ 16 [.cell 2 28] rfl rfl rfl rfl rfl rfl ?_
  conv => whnf
  exact rt (E := E_PartState_Int_Int) h rfl

end Go.Proofs.Ytakiggekallckaa
namespace Go.Proofs.Ytakiggekallckaa
open Go Go.VC
noncomputable def ref17_Tick (a0 : Ref17State) (a1 : Bool) (a2 : Int) : Option (Ref17State × Int) :=
  lp (fun nx1 (v1 : (List Entry) × (List Job) × Int) => fk (decide (v1.2.2 < (a0.Jobs.length : Int))) (jn (fun (w2 : (List Entry) × (List Job)) => nx1 (w2.1, w2.2, (wr (v1.2.2 + (1 : Int))))) (fun k2 => ix a0.Jobs v1.2.2 fun x3 => fk (decide (x3.Due ≤ a2)) (ix a0.Jobs v1.2.2 fun x4 => bnd (ref17_noted v1.1 a2 (6 : Int) x4.Task) fun x5 => k2 (x5, v1.2.1)) (ix a0.Jobs v1.2.2 fun x6 => ck (decide ((v1.2.1.length + ([x6] : List Job).length) * 48 ≤ 140737488355328)) (k2 (v1.1, v1.2.1 ++ ([x6] : List Job)))))) (jn (fun (w7 : (List Job) × (List Entry) × Int) => fk (decide ((w7.1.length : Int) > (0 : Int))) (some (⟨a0.Tasks, a0.Leaves, a0.Lasts, w7.1, w7.2.1⟩, w7.2.2)) (lp (fun nx13 (v13 : (List Task) × (List Bool) × (List Int) × Int) => fk (decide (v13.2.2.2 < (a0.Tasks.length : Int))) (jn (fun (w14 : (List Task) × (List Bool) × (List Int)) => nx13 (w14.1, w14.2.1, w14.2.2, (wr (v13.2.2.2 + (1 : Int))))) (fun k14 => ix a0.Leaves v13.2.2.2 fun x15 => fk (!x15) (ix a0.Tasks v13.2.2.2 fun x16 => ck (decide ((v13.1.length + ([x16] : List Task).length) * 48 ≤ 140737488355328)) (ck (decide ((v13.2.1.length + ([false] : List Bool).length) * 1 ≤ 140737488355328)) (ix a0.Lasts v13.2.2.2 fun x17 => ck (decide ((v13.2.2.1.length + ([x17] : List Int).length) * 8 ≤ 140737488355328)) (k14 (v13.1 ++ ([x16] : List Task), v13.2.1 ++ ([false] : List Bool), v13.2.2.1 ++ ([x17] : List Int)))))) (k14 (v13.1, v13.2.1, v13.2.2.1)))) (lp (fun nx18 (v18 : (List Entry) × Int) => fk (decide (v18.2 ≥ (0 : Int))) (jn (fun (w19 : List Entry) => nx18 (w19, (wr (v18.2 - (1 : Int))))) (fun k19 => ix a0.Leaves v18.2 fun x20 => fk x20 (bnd (ref17_noted v18.1 a2 (7 : Int) v18.2) fun x21 => k19 x21) (k19 v18.1))) (some (⟨v13.1, v13.2.1, v13.2.2.1, w7.1, v18.1⟩, w7.2.2))) FU (w7.2.1, (wr ((a0.Tasks.length : Int) - (1 : Int)))))) FU ([], [], [], (0 : Int)))) (fun k7 => jn (fun (w8 : Bool) => fk w8 (bnd (ref15_Tick a0.Tasks v1.2.1) fun x9 => fk x9.2.2 (jn (fun (w10 : Int) => bnd (ref17_noted v1.1 a2 w10 x9.2.1.Task) fun x12 => k7 (x9.1, x12, x9.2.1.Task)) (fun k10 => ix a0.Tasks x9.2.1.Task fun x11 => fk (decide (x9.2.1.Want > x11.C)) (k10 (5 : Int)) (k10 (4 : Int)))) (k7 (x9.1, v1.1, x9.2.1.Task))) (k7 (v1.2.1, v1.1, (-1 : Int)))) (fun k8 => fk a1 (k8 (decide ((v1.2.1.length : Int) > (0 : Int)))) (k8 false))))) FU (a0.Log, [], (0 : Int))
theorem ref17_Tick_w (a0 : Ref17State) (a1 : Bool) (a2 : Int) (r : Ref17State × Int) (h : ref17_Tick a0 a1 a2 = some r) : Go.VC.Spec Try.prog 22 [.agg (Ref17State.enc a0), .d (.bool a1), .d (.int .i64 a2)] (fun y => y = E_Ref17State_Int r) := by
  refine Go.VC.Spec.of_xc (args := [.agg (Ref17State.enc a0), .d (.bool a1), .d (.int .i64 a2)]) (fn := Try.f22) tab ⟨[(0, [1, 2, 3, 6]), (1, [1, 2, 3, 6, 8]), (2, [1, 2, 3, 6, 8]), (3, [1, 2, 3, 6, 8, 9]), (4, [1, 2, 3, 6, 8, 9, 23]), (5, [1, 2, 3, 6, 8, 9]), (6, [1, 2, 3, 6, 8, 9, 33]), (7, [1, 2, 3, 6, 8, 9]), (8, [1, 2, 3, 6, 8, 9]), (9, [1, 2, 3, 6, 8, 10]), (10, [2, 3, 6, 8, 10, 61]), (11, [2, 3, 6, 8, 11, 12, 13]), (12, [2, 3, 6, 8, 10, 11, 12, 13]), (13, [2, 3, 6, 8, 10, 12, 13]), (14, [2, 3, 6, 8, 10, 12, 75]), (15, [2, 3, 6, 8, 10, 12, 14]), (16, [2, 3, 6, 8, 10, 14, 84]), (17, [2, 3, 6, 8, 10, 14]), (18, [2, 3, 6, 8, 10]), (19, [2, 3, 6, 8, 10, 95]), (20, [6, 7]), (21, [2, 3, 6, 8, 10]), (22, [2, 3, 6, 8, 10]), (23, [2, 3, 6, 8, 10]), (24, [2, 3, 6, 8, 10, 15]), (25, [2, 3, 6, 8, 10, 15, 105]), (26, [2, 3, 6, 8, 10, 15]), (27, [2, 3, 6, 8, 10, 15, 113]), (28, [2, 3, 6, 8, 10, 15]), (29, [2, 3, 6, 8, 10, 15]), (30, [2, 3, 6, 8, 10, 15]), (31, [2, 3, 6, 8, 10, 16]), (32, [2, 3, 6, 8, 10, 16, 144]), (33, [2, 3, 6, 8, 10, 16]), (34, [2, 3, 6, 8, 10, 16, 151]), (35, [2, 3, 6, 8, 10, 16]), (36, [6, 7])], [], [5, 18, 100061, 26, 33, 19], []⟩ 160 [.cell 6 34, .tmp 7] rfl rfl rfl rfl rfl rfl ?_
  conv => whnf
  refine lpS (fun v1 => ⟨[(1, .l (.d (.bool a1))), (2, .l (.d (.int .i64 a2))), (3, .l (.ptr 4 0)), (6, .l (.ptr 7 0)), (8, .l (.ptr 9 0)), (9, .l (.d (.int .i64 v1.2.2)))], 160, [], [(4, [.d (.sl (a0.Tasks.map Task.enc)), .d (.sl (a0.Leaves.map eB)), .d (.sl (a0.Lasts.map (eI .i64))), .d (.sl (a0.Jobs.map Job.enc)), .d (.sl (a0.Log.map Entry.enc))]), (7, [.nil, .nil, .nil, .nil, .nil]), (9, [.d (.sl (a0.Tasks.map Task.enc)), .d (.sl (a0.Leaves.map eB)), .d (.sl (a0.Lasts.map (eI .i64))), .own 50903, .d (.sl (v1.1.map Entry.enc))])], [(50903, 95, 6, v1.2.1.map Job.enc)]⟩) h (Weak.trans (Weak.nilBO _ 9 3 50903 95 6 _ rfl rfl) (Weak.refl _)) (fun _ nx1 hn1 v1 h => ?_)
  conv => whnf
  refine lenS a0.Jobs Job.enc rfl ?_
  conv => whnf
  refine fkS h (fun h => ?_) (fun h => ?_)
  · conv => whnf
    refine jnS (fun w2 => ⟨[(1, .l (.d (.bool a1))), (2, .l (.d (.int .i64 a2))), (3, .l (.ptr 4 0)), (6, .l (.ptr 7 0)), (8, .l (.ptr 9 0)), (9, .l (.d (.int .i64 v1.2.2)))], 160, [], [(4, [.d (.sl (a0.Tasks.map Task.enc)), .d (.sl (a0.Leaves.map eB)), .d (.sl (a0.Lasts.map (eI .i64))), .d (.sl (a0.Jobs.map Job.enc)), .d (.sl (a0.Log.map Entry.enc))]), (7, [.nil, .nil, .nil, .nil, .nil]), (9, [.d (.sl (a0.Tasks.map Task.enc)), .d (.sl (a0.Leaves.map eB)), .d (.sl (a0.Lasts.map (eI .i64))), .own 50903, .d (.sl (w2.1.map Entry.enc))])], [(50903, 95, 6, w2.2.map Job.enc)]⟩) h (fun k2 hk2 h => ?_) (fun w2 h => ?_)
    · conv => whnf
      refine ixS (enc := Job.enc) h rfl (fun _ => rfl) (fun x3 h => ?_)
      conv => whnf
      refine fkS h (fun h => ?_) (fun h => ?_)
      · conv => whnf
        refine ⟨9, ?_⟩
        conv => whnf
        refine ixS (enc := Job.enc) h rfl (fun _ => rfl) (fun x4 h => ?_)
        conv => whnf
        refine drS (by kernel_rfl) ?_
        conv => whnf
        refine ccS (E := E_ListEntry) h (ref17_noted_w v1.1 a2 (6 : Int) x4.Task) rfl rfl (fun x5 h => ?_)
        conv => whnf
        exact jeS hk2 h (Weak.refl _)
      conv => whnf
      refine ⟨8, ?_⟩
      conv => whnf
      refine ixS (enc := Job.enc) h rfl (fun _ => rfl) (fun x6 h => ?_)
      conv => whnf
      refine liS ([x6] : List Job) Job.enc rfl rfl ?_
      conv => whnf
      refine drS (by kernel_rfl) ?_
      conv => whnf
      refine apS (enc := Job.enc) (l1 := v1.2.1) (l2 := ([x6] : List Job)) h rfl rfl (fun _ => rfl) (fun h => ?_)
      conv => whnf
      refine jeX hk2 h ?_
      conv => whnf
      refine WkF.step (Weak.rekey _ 54 50903 rfl) ?_
      conv => whnf
      exact WkF.refl _
    conv => whnf
    exact leS hn1 h (Weak.refl _)
  conv => whnf
  refine jnS (fun w7 => ⟨[(2, .l (.d (.int .i64 a2))), (3, .l (.ptr 4 0)), (6, .l (.ptr 7 0)), (8, .l (.ptr 9 0)), (10, .l (.d (.int .i64 w7.2.2)))], 160, [], [(4, [.d (.sl (a0.Tasks.map Task.enc)), .d (.sl (a0.Leaves.map eB)), .d (.sl (a0.Lasts.map (eI .i64))), .d (.sl (a0.Jobs.map Job.enc)), .d (.sl (a0.Log.map Entry.enc))]), (7, [.nil, .nil, .nil, .nil, .nil]), (9, [.d (.sl (a0.Tasks.map Task.enc)), .d (.sl (a0.Leaves.map eB)), .d (.sl (a0.Lasts.map (eI .i64))), .d (.sl (w7.1.map Job.enc)), .d (.sl (w7.2.1.map Entry.enc))])], []⟩) h (fun k7 hk7 h => ?_) (fun w7 h => ?_)
  · conv => whnf
    refine jnS (fun w8 => ⟨[(2, .l (.d (.int .i64 a2))), (3, .l (.ptr 4 0)), (6, .l (.ptr 7 0)), (8, .l (.ptr 9 0)), (10, .l (.d (.int .i64 (-1 : Int)))), (61, .l (.d (.bool w8)))], 160, [], [(4, [.d (.sl (a0.Tasks.map Task.enc)), .d (.sl (a0.Leaves.map eB)), .d (.sl (a0.Lasts.map (eI .i64))), .d (.sl (a0.Jobs.map Job.enc)), .d (.sl (a0.Log.map Entry.enc))]), (7, [.nil, .nil, .nil, .nil, .nil]), (9, [.d (.sl (a0.Tasks.map Task.enc)), .d (.sl (a0.Leaves.map eB)), .d (.sl (a0.Lasts.map (eI .i64))), .own 50903, .d (.sl (v1.1.map Entry.enc))])], [(50903, 95, 6, v1.2.1.map Job.enc)]⟩) h (fun k8 hk8 h => ?_) (fun w8 h => ?_)
    · conv => whnf
      refine fkS h (fun h => ?_) (fun h => ?_)
      · conv => whnf
        refine lenS v1.2.1 Job.enc rfl ?_
        conv => whnf
        exact jeS hk8 h (Weak.refl _)
      conv => whnf
      exact jeS hk8 h (Weak.refl _)
    conv => whnf
    refine fkS h (fun h => ?_) (fun h => ?_)
    · conv => whnf
      refine iceS 50903 ?_
      conv => whnf
      refine ccS (E := E_ListJob_Job_Bool) h (ref15_Tick_w a0.Tasks v1.2.1) rfl rfl (fun x9 h => ?_)
      conv => whnf
      refine fkS h (fun h => ?_) (fun h => ?_)
      · conv => whnf
        refine jnS (fun w10 => ⟨[(2, .l (.d (.int .i64 a2))), (3, .l (.ptr 4 0)), (6, .l (.ptr 7 0)), (8, .l (.ptr 9 0)), (10, .l (.d (.int .i64 x9.2.1.Task))), (14, .l (.d (.int .i64 w10)))], 160, [], [(4, [.d (.sl (a0.Tasks.map Task.enc)), .d (.sl (a0.Leaves.map eB)), .d (.sl (a0.Lasts.map (eI .i64))), .d (.sl (a0.Jobs.map Job.enc)), .d (.sl (a0.Log.map Entry.enc))]), (7, [.nil, .nil, .nil, .nil, .nil]), (9, [.d (.sl (a0.Tasks.map Task.enc)), .d (.sl (a0.Leaves.map eB)), .d (.sl (a0.Lasts.map (eI .i64))), .d (.sl (x9.1.map Job.enc)), .d (.sl (v1.1.map Entry.enc))])], []⟩) h (fun k10 hk10 h => ?_) (fun w10 h => ?_)
        · conv => whnf
          refine ⟨8, ?_⟩
          conv => whnf
          refine ixS (enc := Task.enc) h rfl (fun _ => rfl) (fun x11 h => ?_)
          conv => whnf
          refine drS (by kernel_rfl) ?_
          conv => whnf
          refine fkS h (fun h => ?_) (fun h => ?_)
          · conv => whnf
            exact jeS hk10 h (Weak.refl _)
          conv => whnf
          refine jeX hk10 h ?_
          conv => whnf
          refine WkF.step (Weak.keepS _ [2, 3, 6, 8, 10, 14]) ?_
          conv => whnf
          exact WkF.refl _
        conv => whnf
        refine ccS (E := E_ListEntry) h (ref17_noted_w v1.1 a2 w10 x9.2.1.Task) rfl rfl (fun x12 h => ?_)
        conv => whnf
        exact jeS hk7 h (Weak.refl _)
      conv => whnf
      refine jeX hk7 h ?_
      conv => whnf
      refine WkF.step (Weak.keepS _ [2, 3, 6, 8, 10]) ?_
      conv => whnf
      exact WkF.refl _
    conv => whnf
    refine jeX hk7 h ?_
    conv => whnf
    refine WkF.step (Weak.keepS _ [2, 3, 6, 8, 10]) ?_
    conv => whnf
    refine WkF.step (Weak.ice _ 50903) ?_
    conv => whnf
    exact WkF.refl _
  conv => whnf
  refine lenS w7.1 Job.enc rfl ?_
  conv => whnf
  refine fkS h (fun h => ?_) (fun h => ?_)
  · conv => whnf
    exact rt (E := E_Ref17State_Int) h rfl
  conv => whnf
  refine lpS (fun v13 => ⟨[(2, .l (.d (.int .i64 a2))), (3, .l (.ptr 4 0)), (6, .l (.ptr 7 0)), (8, .l (.ptr 9 0)), (10, .l (.d (.int .i64 w7.2.2))), (15, .l (.d (.int .i64 v13.2.2.2)))], 160, [], [(4, [.d (.sl (a0.Tasks.map Task.enc)), .d (.sl (a0.Leaves.map eB)), .d (.sl (a0.Lasts.map (eI .i64))), .d (.sl (a0.Jobs.map Job.enc)), .d (.sl (a0.Log.map Entry.enc))]), (7, [.nil, .nil, .nil, .nil, .nil]), (9, [.own 50900, .own 50901, .own 50902, .d (.sl (w7.1.map Job.enc)), .d (.sl (w7.2.1.map Entry.enc))])], [(50900, 47, 4, v13.1.map Task.enc), (50901, 4, 1, v13.2.1.map eB), (50902, 3, 1, v13.2.2.1.map (eI .i64))]⟩) h (Weak.trans (Weak.nilBO _ 9 0 50900 47 4 _ rfl rfl) (Weak.trans (Weak.nilBO _ 9 1 50901 4 1 _ rfl rfl) (Weak.trans (Weak.nilBO _ 9 2 50902 3 1 _ rfl rfl) (Weak.refl _)))) (fun _ nx13 hn13 v13 h => ?_)
  conv => whnf
  refine lenS a0.Tasks Task.enc rfl ?_
  conv => whnf
  refine fkS h (fun h => ?_) (fun h => ?_)
  · conv => whnf
    refine jnS (fun w14 => ⟨[(2, .l (.d (.int .i64 a2))), (3, .l (.ptr 4 0)), (6, .l (.ptr 7 0)), (8, .l (.ptr 9 0)), (10, .l (.d (.int .i64 w7.2.2))), (15, .l (.d (.int .i64 v13.2.2.2)))], 160, [], [(4, [.d (.sl (a0.Tasks.map Task.enc)), .d (.sl (a0.Leaves.map eB)), .d (.sl (a0.Lasts.map (eI .i64))), .d (.sl (a0.Jobs.map Job.enc)), .d (.sl (a0.Log.map Entry.enc))]), (7, [.nil, .nil, .nil, .nil, .nil]), (9, [.own 123, .own 128, .own 138, .d (.sl (w7.1.map Job.enc)), .d (.sl (w7.2.1.map Entry.enc))])], [(123, 47, 4, w14.1.map Task.enc), (128, 4, 1, w14.2.1.map eB), (138, 3, 1, w14.2.2.map (eI .i64))]⟩) h (fun k14 hk14 h => ?_) (fun w14 h => ?_)
    · conv => whnf
      refine ixS (enc := eB) h rfl (fun _ => rfl) (fun x15 h => ?_)
      conv => whnf
      refine fkS h (fun h => ?_) (fun h => ?_)
      · conv => whnf
        refine ⟨8, ?_⟩
        conv => whnf
        refine ixS (enc := Task.enc) h rfl (fun _ => rfl) (fun x16 h => ?_)
        conv => whnf
        refine liS ([x16] : List Task) Task.enc rfl rfl ?_
        conv => whnf
        refine drS (by kernel_rfl) ?_
        conv => whnf
        refine apS (enc := Task.enc) (l1 := v13.1) (l2 := ([x16] : List Task)) h rfl rfl (fun _ => rfl) (fun h => ?_)
        conv => whnf
        refine liS ([false] : List Bool) eB rfl rfl ?_
        conv => whnf
        refine apS (enc := eB) (l1 := v13.2.1) (l2 := ([false] : List Bool)) h rfl rfl (fun _ => rfl) (fun h => ?_)
        conv => whnf
        refine ⟨8, ?_⟩
        conv => whnf
        refine ixS (enc := (eI .i64)) h rfl (fun _ => rfl) (fun x17 h => ?_)
        conv => whnf
        refine liS ([x17] : List Int) (eI .i64) rfl rfl ?_
        conv => whnf
        refine drS (by kernel_rfl) ?_
        conv => whnf
        refine apS (enc := (eI .i64)) (l1 := v13.2.2.1) (l2 := ([x17] : List Int)) h rfl rfl (fun _ => rfl) (fun h => ?_)
        conv => whnf
        exact jeS hk14 h (Weak.refl _)
      conv => whnf
      refine jeX hk14 h ?_
      conv => whnf
      refine WkF.step (Weak.keepS _ [2, 3, 6, 8, 10, 15]) ?_
      conv => whnf
      refine WkF.step (Weak.rekey _ 50900 123 rfl) ?_
      conv => whnf
      refine WkF.step (Weak.rekey _ 50901 128 rfl) ?_
      conv => whnf
      refine WkF.step (Weak.rekey _ 50902 138 rfl) ?_
      conv => whnf
      exact WkF.refl _
    conv => whnf
    refine leX hn13 h ?_
    conv => whnf
    refine WkF.step (Weak.rekey _ 123 50900 rfl) ?_
    conv => whnf
    refine WkF.step (Weak.rekey _ 128 50901 rfl) ?_
    conv => whnf
    refine WkF.step (Weak.rekey _ 138 50902 rfl) ?_
    conv => whnf
    exact WkF.refl _
  conv => whnf
  refine lenS a0.Tasks Task.enc rfl ?_
  conv => whnf
  refine lpS (fun v18 => ⟨[(2, .l (.d (.int .i64 a2))), (3, .l (.ptr 4 0)), (6, .l (.ptr 7 0)), (8, .l (.ptr 9 0)), (10, .l (.d (.int .i64 w7.2.2))), (16, .l (.d (.int .i64 v18.2)))], 160, [], [(4, [.d (.sl (a0.Tasks.map Task.enc)), .d (.sl (a0.Leaves.map eB)), .d (.sl (a0.Lasts.map (eI .i64))), .d (.sl (a0.Jobs.map Job.enc)), .d (.sl (a0.Log.map Entry.enc))]), (7, [.nil, .nil, .nil, .nil, .nil]), (9, [.own 50900, .own 50901, .own 50902, .d (.sl (w7.1.map Job.enc)), .d (.sl (v18.1.map Entry.enc))])], [(50900, 47, 4, v13.1.map Task.enc), (50901, 4, 1, v13.2.1.map eB), (50902, 3, 1, v13.2.2.1.map (eI .i64))]⟩) h (Weak.refl _) (fun _ nx18 hn18 v18 h => ?_)
  conv => whnf
  refine fkS h (fun h => ?_) (fun h => ?_)
  · conv => whnf
    refine jnS (fun w19 => ⟨[(2, .l (.d (.int .i64 a2))), (3, .l (.ptr 4 0)), (6, .l (.ptr 7 0)), (8, .l (.ptr 9 0)), (10, .l (.d (.int .i64 w7.2.2))), (16, .l (.d (.int .i64 v18.2)))], 160, [], [(4, [.d (.sl (a0.Tasks.map Task.enc)), .d (.sl (a0.Leaves.map eB)), .d (.sl (a0.Lasts.map (eI .i64))), .d (.sl (a0.Jobs.map Job.enc)), .d (.sl (a0.Log.map Entry.enc))]), (7, [.nil, .nil, .nil, .nil, .nil]), (9, [.own 50900, .own 50901, .own 50902, .d (.sl (w7.1.map Job.enc)), .d (.sl (w19.map Entry.enc))])], [(50900, 47, 4, v13.1.map Task.enc), (50901, 4, 1, v13.2.1.map eB), (50902, 3, 1, v13.2.2.1.map (eI .i64))]⟩) h (fun k19 hk19 h => ?_) (fun w19 h => ?_)
    · conv => whnf
      refine ixS (enc := eB) h rfl (fun _ => rfl) (fun x20 h => ?_)
      conv => whnf
      refine fkS h (fun h => ?_) (fun h => ?_)
      · conv => whnf
        refine ccS (E := E_ListEntry) h (ref17_noted_w v18.1 a2 (7 : Int) v18.2) rfl rfl (fun x21 h => ?_)
        conv => whnf
        exact jeS hk19 h (Weak.refl _)
      conv => whnf
      refine jeX hk19 h ?_
      conv => whnf
      refine WkF.step (Weak.keepS _ [2, 3, 6, 8, 10, 16]) ?_
      conv => whnf
      exact WkF.refl _
    conv => whnf
    exact leS hn18 h (Weak.refl _)
  conv => whnf
  exact rt (E := E_Ref17State_Int) h rfl

end Go.Proofs.Ytakiggekallckaa
namespace Go.Proofs.Ytakiggekallckaa
open Go Go.VC
/-! A tick. -/
def missJ (t : Int) (js : List Job) : List Job := js.filter (fun j => decide (t < j.Due))
def missG (t : Int) : List Job → List Entry → List Entry
  | [], lg => lg
  | j :: r, lg => missG t r (if t < j.Due then lg else nt lg ⟨t, 6, j.Task⟩)
theorem missG_snoc (t : Int) (j : Job) : ∀ (l : List Job) (lg : List Entry), missG t (l ++ [j]) lg = if t < j.Due then missG t l lg else nt (missG t l lg) ⟨t, 6, j.Task⟩
  | [], lg => by simp only [List.nil_append, missG]
  | a :: r, lg => by simp only [List.cons_append, missG]; exact missG_snoc t j r _
theorem missG_len (t : Int) : ∀ (l : List Job) {lg : List Entry}, lg.length ≤ 2000 → (missG t l lg).length ≤ 2000
  | [], lg, h => h
  | a :: r, lg, h => by
    unfold missG
    refine missG_len t r ?_
    split
    · exact h
    · exact nt_len h
theorem missJ_snoc (t : Int) (l : List Job) (j : Job) : missJ t (l ++ [j]) = if t < j.Due then missJ t l ++ [j] else missJ t l := by
  unfold missJ
  rw [List.filter_append]
  split
  · rename_i h; rw [List.filter_cons_of_pos (by simpa using h)]; rfl
  · rename_i h; rw [List.filter_cons_of_neg (by simpa using h)]; simp
theorem jobsP_sub {l : List Task} {js js' : List Job} (h : jobsP l js) (hs : js'.Sublist js) : jobsP l js' :=
  ⟨h.1, Nat.le_trans hs.length_le h.2.1, fun j hj => h.2.2.1 j (hs.subset hj), h.2.2.2.sublist hs⟩
theorem jobsP_miss {l : List Task} {js : List Job} (t : Int) (h : jobsP l js) : jobsP l (missJ t js) := jobsP_sub h (List.filter_sublist)
noncomputable def runV (l : List Task) (js : List Job) (lg : List Entry) (g : Bool) (t : Int) : List Job × List Entry × Int :=
  if g = true ∧ 0 < js.length then ((tick l js).1, (if (tick l js).2.2 = true then nt lg ⟨t, (if taskC l (tick l js).2.1 < (tick l js).2.1.Want then 5 else 4), (tick l js).2.1.Task⟩ else lg), (tick l js).2.1.Task) else (js, lg, -1)
def keepB {α : Type} : List Bool → List α → List α
  | b :: bs, x :: xs => if b = true then keepB bs xs else x :: keepB bs xs
  | _, _ => []
theorem keepB_drop {α : Type} {b : List Bool} {l : List α} {i : Nat} (hb : i < b.length) (hl : i < l.length) : keepB (b.drop i) (l.drop i) = if b[i] = true then keepB (b.drop (i + 1)) (l.drop (i + 1)) else l[i] :: keepB (b.drop (i + 1)) (l.drop (i + 1)) := by
  rw [List.drop_eq_getElem_cons hb, List.drop_eq_getElem_cons hl]; rfl
theorem keepB_snoc {α : Type} (x : α) (c : Bool) : ∀ (b : List Bool) (l : List α), b.length = l.length → keepB (b ++ [c]) (l ++ [x]) = keepB b l ++ (if c = true then [] else [x])
  | [], [], _ => by simp only [List.nil_append, keepB]
  | [], _ :: _, h => by simp at h
  | _ :: _, [], h => by simp at h
  | a :: b, y :: l, h => by
    simp only [List.cons_append, keepB]
    rw [keepB_snoc x c b l (by simpa using h)]
    split <;> rfl
theorem keepB_nil {α : Type} (l : List α) : keepB [] l = [] := by cases l <;> rfl
theorem keepB_len {α : Type} : ∀ (b : List Bool) (l : List α), (keepB b l).length ≤ l.length
  | [], l => by rw [keepB_nil]; exact Nat.zero_le _
  | _ :: _, [] => Nat.le_refl _
  | b :: bs, x :: xs => by
    have := keepB_len bs xs
    simp only [keepB]
    split
    · simp only [List.length_cons]; omega
    · simp only [List.length_cons]; omega
theorem keepB_sub {α : Type} : ∀ (b : List Bool) (l : List α), (keepB b l).Sublist l
  | [], l => by rw [keepB_nil]; exact List.nil_sublist _
  | _ :: _, [] => List.Sublist.refl _
  | b :: bs, x :: xs => by
    have := keepB_sub bs xs
    simp only [keepB]
    split
    · exact this.cons _
    · exact this.cons_cons _
theorem keepB_len_eq {α β : Type} : ∀ (b : List Bool) (l : List α) (m : List β), l.length = m.length → (keepB b l).length = (keepB b m).length
  | [], l, m, _ => by rw [keepB_nil, keepB_nil]; rfl
  | _ :: _, [], [], _ => rfl
  | _ :: _, [], _ :: _, h => by simp at h
  | _ :: _, _ :: _, [], h => by simp at h
  | b :: bs, x :: xs, y :: ys, h => by
    have := keepB_len_eq bs xs ys (by simpa using h)
    simp only [keepB]
    split
    · exact this
    · simp only [List.length_cons]; omega
def leftG (b : List Bool) (t : Int) : Nat → List Entry → List Entry
  | 0, lg => lg
  | n + 1, lg => leftG b t n (if (b[n]?).getD false = true then nt lg ⟨t, 7, (n : Int)⟩ else lg)
theorem leftG_len (b : List Bool) (t : Int) : ∀ (n : Nat) {lg : List Entry}, lg.length ≤ 2000 → (leftG b t n lg).length ≤ 2000
  | 0, lg, h => h
  | n + 1, lg, h => by
    unfold leftG
    refine leftG_len b t n ?_
    split
    · exact nt_len h
    · exact h
noncomputable def tickR (s : PartState) (g : Bool) (t : Int) : List Job × List Entry × Int := runV s.Tasks (missJ t s.Jobs) (missG t s.Jobs s.Log) g t
noncomputable def tickV (s : PartState) (g : Bool) (t : Int) : PartState × Int :=
  if (tickR s g t).1.length = 0 then (⟨keepB s.Leaves s.Tasks, keepB s.Leaves s.Leaves, keepB s.Leaves s.Lasts, (tickR s g t).1, leftG s.Leaves t s.Tasks.length (tickR s g t).2.1⟩, (tickR s g t).2.2)
  else (⟨s.Tasks, s.Leaves, s.Lasts, (tickR s g t).1, (tickR s g t).2.1⟩, (tickR s g t).2.2)
theorem tick_over {l : List Task} {js : List Job} (h : (tick l js).2.2 = true) : 0 ≤ (tick l js).2.1.Task ∧ ∃ hl : (tick l js).2.1.Task.toNat < l.length, l[(tick l js).2.1.Task.toNat].C = taskC l (tick l js).2.1 := by
  unfold tick at h
  split at h
  rotate_left
  · cases h
  rename_i hh
  obtain ⟨t0, _, _, t3, _⟩ := hh.1.2.2.1 _ (List.getElem_mem hh.2.2)
  have e : (tick l js).2.1 = upd js[(cho l js).toNat] := by unfold tick; rw [dif_pos hh]
  rw [e]
  refine ⟨t0, t3, ?_⟩
  unfold taskC
  rw [List.getElem?_eq_getElem (show (upd js[(cho l js).toNat]).Task.toNat < l.length from t3)]
  rfl
/-- What leaves, index by index from the last one down. -/
theorem left_down {R : Type} {L : List Bool} {T : List Task} {A : List Int} {t : Int} {r : R} (h1 : L.length = T.length) (h2 : A.length = T.length) (h8 : T.length ≤ 8) (lg : List Entry)
    (K : List Task → List Bool → List Int → List Entry → Option R) (hK : K (keepB L T) (keepB L L) (keepB L A) (leftG L t T.length lg) = some r)
    {body : ((List Task) × (List Bool) × (List Int) × (List Entry) × Int → Option R) → (List Task) × (List Bool) × (List Int) × (List Entry) × Int → Option R}
    (h0 : ∀ nx T' L' A' g', body nx (T', L', A', g', -1) = K T' L' A' g')
    (hs : ∀ nx T' L' A' g' (m : Nat) (hm : m < L'.length), m < T'.length → m < A'.length → L'.length ≤ 8 → T'.length ≤ 8 → A'.length ≤ 8 → body nx (T', L', A', g', (m : Int)) = if L'[m] = true then nx (T'.take m ++ T'.drop (m + 1), L'.take m ++ L'.drop (m + 1), A'.take m ++ A'.drop (m + 1), nt g' ⟨t, 7, (m : Int)⟩, (m : Int) - 1) else nx (T', L', A', g', (m : Int) - 1)) :
    lp body FU (T, L, A, lg, (T.length : Int) - 1) = some r := by
  have cut : ∀ {α : Type} (X : List α) (m : Nat), X.length = T.length → m < T.length → ∀ (Y : List α), (X.take (m + 1) ++ Y).take m ++ (X.take (m + 1) ++ Y).drop (m + 1) = X.take m ++ Y := by
    intro α X m hX hm Y
    have e : (X.take (m + 1)).length = m + 1 := by rw [List.length_take]; omega
    rw [List.take_append_of_le_length (by omega), List.drop_left' e, List.take_take, Nat.min_eq_left (by omega)]
  have put : ∀ {α : Type} (X : List α) (m : Nat) (hX : m < X.length) (Y : List α), X.take (m + 1) ++ Y = X.take m ++ (X[m] :: Y) := by
    intro α X m hX Y
    rw [← List.take_append_getElem hX, List.append_assoc]; rfl
  refine lp_inv (fun v => (v.2.2.2.2 + 1).toNat) (fun v => ∃ (m : Nat) (g : List Entry), m ≤ T.length ∧ v = (T.take m ++ keepB (L.drop m) (T.drop m), L.take m ++ keepB (L.drop m) (L.drop m), A.take m ++ keepB (L.drop m) (A.drop m), g, (m : Int) - 1) ∧ leftG L t m g = leftG L t T.length lg) ?_ FU _ ⟨T.length, lg, Nat.le_refl _, ?_, rfl⟩ (by unfold FU; simp only; omega)
  rotate_left
  · rw [← h1, List.drop_length, keepB_nil, keepB_nil, keepB_nil, List.take_length, h1, List.take_length, ← h2, List.take_length, List.append_nil, List.append_nil, List.append_nil]
  rintro nx v ⟨m, g, hm, rfl, hg⟩ hnx
  cases m with
  | zero =>
    simp only [leftG] at hg
    show body nx (_, _, _, _, -1) = _
    rw [h0, List.take_zero, List.take_zero, List.take_zero, List.drop_zero, List.drop_zero, List.drop_zero, List.nil_append, List.nil_append, List.nil_append, hg]
    exact hK
  | succ m =>
    rw [show ((m + 1 : Nat) : Int) - 1 = (m : Int) by omega]
    have l1 := keepB_len (L.drop (m + 1)) (L.drop (m + 1))
    have l2 := keepB_len (L.drop (m + 1)) (T.drop (m + 1))
    have l3 := keepB_len (L.drop (m + 1)) (A.drop (m + 1))
    simp only [List.length_drop] at l1 l2 l3
    have mL : m < L.length := by omega
    have mA : m < A.length := by omega
    have hmL : m < (L.take (m + 1) ++ keepB (L.drop (m + 1)) (L.drop (m + 1))).length := by simp only [List.length_append, List.length_take]; omega
    rw [hs nx _ _ _ g m hmL (by simp only [List.length_append, List.length_take]; omega) (by simp only [List.length_append, List.length_take]; omega) (by simp only [List.length_append, List.length_take]; omega) (by simp only [List.length_append, List.length_take]; omega) (by simp only [List.length_append, List.length_take]; omega)]
    have eL : (L.take (m + 1) ++ keepB (L.drop (m + 1)) (L.drop (m + 1)))[m] = L[m] := by
      rw [List.getElem_append_left (by rw [List.length_take]; omega), List.getElem_take]
    have eo : (L[m]?).getD false = L[m] := by rw [List.getElem?_eq_getElem mL]; rfl
    rw [eL]
    have hg : leftG L t m (if (L[m]?).getD false = true then nt g ⟨t, 7, (m : Int)⟩ else g) = leftG L t T.length lg := hg
    rw [eo] at hg
    by_cases c : L[m] = true
    · rw [if_pos c, cut T m rfl (by omega), cut L m h1 (by omega), cut A m h2 (by omega)]
      rw [if_pos c] at hg
      refine hnx _ ⟨m, _, by omega, ?_, hg⟩ (by simp only; omega)
      rw [keepB_drop mL (show m < T.length by omega), keepB_drop mL mL, keepB_drop mL mA, if_pos c, if_pos c, if_pos c]
    · rw [if_neg c, put T m (by omega), put L m mL, put A m mA]
      rw [if_neg c] at hg
      refine hnx _ ⟨m, _, by omega, ?_, hg⟩ (by simp only; omega)
      rw [keepB_drop mL (show m < T.length by omega), keepB_drop mL mL, keepB_drop mL mA, if_neg c, if_neg c, if_neg c]
theorem without_eq1 (l : List Task) (m : Nat) (h : m < l.length) (h8 : l.length ≤ 8) : part_without_api_Task l (m : Int) = some (l.take m ++ l.drop (m + 1)) := by
  have e : ((m : Int) + 1).toNat = m + 1 := by omega
  unfold part_without_api_Task
  rw [wr_in _ (by omega), ck_t (by simp; omega), ck_t (by simp; omega), ck_t (by simp; omega), ck_t (by simp; omega)]
  simp [e]
theorem without_eq2 (l : List Bool) (m : Nat) (h : m < l.length) (h8 : l.length ≤ 8) : part_without_bool l (m : Int) = some (l.take m ++ l.drop (m + 1)) := by
  have e : ((m : Int) + 1).toNat = m + 1 := by omega
  unfold part_without_bool
  rw [wr_in _ (by omega), ck_t (by simp; omega), ck_t (by simp; omega), ck_t (by simp; omega), ck_t (by simp; omega)]
  simp [e]
theorem without_eq3 (l : List Int) (m : Nat) (h : m < l.length) (h8 : l.length ≤ 8) : part_without_int l (m : Int) = some (l.take m ++ l.drop (m + 1)) := by
  have e : ((m : Int) + 1).toNat = m + 1 := by omega
  unfold part_without_int
  rw [wr_in _ (by omega), ck_t (by simp; omega), ck_t (by simp; omega), ck_t (by simp; omega), ck_t (by simp; omega)]
  simp [e]
theorem jn_to {σ R : Type} {Y : σ → Option R} {X : (σ → Option R) → Option R} {r : Option R} (v : σ) (hX : ∀ k, X k = k v) (hY : Y v = r) : jn Y X = r := by
  rw [jn_eq, hX]; exact hY
theorem part_Tick_eq (s : PartState) (g : Bool) (t : Int) (hb : StB s) : part_Tick s g t = some (if stP s ∧ whenP t then ((tickV s g t).1, (tickV s g t).2, 0) else (s, -1, 1)) := by
  unfold part_Tick
  refine jn_to (!decide (stP s ∧ whenP t)) ?_ ?_
  · intro k
    rw [bnd_eq (part_Right_eq s hb)]
    by_cases h1 : stP s
    rotate_left
    · rw [decide_eq_false h1, Bool.not_false, fk_t, decide_eq_false (fun h => h1 h.1)]; rfl
    rw [decide_eq_true h1, Bool.not_true, fk_f, bnd_eq (part_when_eq t)]
    by_cases h2 : whenP t
    · rw [decide_eq_true h2, decide_eq_true ⟨h1, h2⟩]
    · rw [decide_eq_false h2, decide_eq_false (fun h => h2 h.2)]
  by_cases hh : stP s ∧ whenP t
  rotate_left
  · rw [decide_eq_false hh, Bool.not_false, fk_t, if_neg hh]
  obtain ⟨h1, h2⟩ := hh
  have hLl := h1.1
  have hLs := h1.2.1.2.1
  have hT8 := AllP_len h1.2.1.1
  have hJ := h1.2.2.1.2.1
  have hG := h1.2.2.2
  rw [decide_eq_true (⟨h1, h2⟩ : stP s ∧ whenP t), Bool.not_true, fk_f, if_pos ⟨h1, h2⟩, ck_t (by simp; omega), List.nil_append]
  refine lp_inv (fun v => s.Jobs.length - v.2.2.toNat) (fun v => ∃ k : Nat, v = (missJ t (s.Jobs.take k), missG t (s.Jobs.take k) s.Log, (k : Int)) ∧ k ≤ s.Jobs.length) ?_ FU _ ⟨0, rfl, Nat.zero_le _⟩ (by unfold FU; simp only; omega)
  rintro nx v ⟨k, rfl, hk⟩ hnx
  dsimp only
  have hgl := missG_len t (s.Jobs.take k) hG
  have hjl : (missJ t (s.Jobs.take k)).length ≤ 32 := by
    have h1 : (missJ t (s.Jobs.take k)).length ≤ (s.Jobs.take k).length := List.length_filter_le _ _
    rw [List.length_take] at h1; omega
  rw [lt_nat]
  by_cases hk' : k < s.Jobs.length
  · rw [decide_eq_true hk', fk_t, jn_eq, ix_lt hk', wr_succ k _ hk' (by omega)]
    have nxt := hnx (missJ t (s.Jobs.take (k + 1)), missG t (s.Jobs.take (k + 1)) s.Log, ((k + 1 : Nat) : Int)) ⟨k + 1, rfl, hk'⟩ (by simp only [Int.toNat_natCast]; omega)
    rw [← List.take_append_getElem hk', missJ_snoc, missG_snoc] at nxt
    by_cases c : t < s.Jobs[k].Due
    · rw [if_pos c, if_pos c] at nxt
      rw [decide_eq_true (show s.Jobs[k].Due > t from c), fk_t, ck_t (by simp; omega)]
      exact nxt
    · rw [if_neg c, if_neg c] at nxt
      rw [decide_eq_false (show ¬ s.Jobs[k].Due > t from c), fk_f]
      exact (nt_fk (missG t (s.Jobs.take k) s.Log) ⟨t, 6, s.Jobs[k].Task⟩ (fun lg => nx (missJ t (s.Jobs.take k), lg, ((k + 1 : Nat) : Int)))).trans nxt
  rw [decide_eq_false hk', fk_f, show k = s.Jobs.length by omega, List.take_length]
  have hpm := jobsP_miss t h1.2.2.1
  have hml : (missJ t s.Jobs).length ≤ 32 := hpm.2.1
  have hgl := missG_len t s.Jobs hG
  refine jn_to (tickR s g t) ?_ ?_
  · intro k7
    unfold tickR runV
    cases g with
    | false => rw [fk_f, if_neg (fun h => by cases h.1)]
    | true =>
      rw [fk_t, bnd_eq (srp_Tick_eq _ _ hb.t)]
      by_cases c0 : (missJ t s.Jobs).length = 0
      · rw [decide_eq_true (by omega), fk_t, if_neg (fun h => by omega)]
      rw [decide_eq_false (by omega), fk_f, if_pos ⟨rfl, by omega⟩]
      cases ov : (tick s.Tasks (missJ t s.Jobs)).2.2 with
      | false =>
        refine jn_to false (fun k => by rw [fk_f]) ?_
        rw [fk_f, fk_f, if_neg (by simp)]
      | true =>
        obtain ⟨t0, t3, eC⟩ := tick_over ov
        by_cases c5 : taskC s.Tasks (tick s.Tasks (missJ t s.Jobs)).2.1 < (tick s.Tasks (missJ t s.Jobs)).2.1.Want
        · refine jn_to true (fun k => ?_) ?_
          · rw [fk_t, ix_int t0 t3, eC, decide_eq_true (show _ > _ from c5)]
          rw [fk_t, if_pos rfl, if_pos c5]
          exact nt_fk _ ⟨t, 5, (tick s.Tasks (missJ t s.Jobs)).2.1.Task⟩ (fun lg => k7 ((tick s.Tasks (missJ t s.Jobs)).1, lg, (tick s.Tasks (missJ t s.Jobs)).2.1.Task))
        · refine jn_to false (fun k => ?_) ?_
          · rw [fk_t, ix_int t0 t3, eC, decide_eq_false (show ¬ _ > _ from c5)]
          rw [fk_f, fk_t, if_pos rfl, if_neg c5]
          exact nt_fk _ ⟨t, 4, (tick s.Tasks (missJ t s.Jobs)).2.1.Task⟩ (fun lg => k7 ((tick s.Tasks (missJ t s.Jobs)).1, lg, (tick s.Tasks (missJ t s.Jobs)).2.1.Task))
  rw [jn_eq]
  by_cases c0 : (tickR s g t).1.length = 0
  rotate_left
  · rw [decide_eq_false (by omega), fk_f]
    unfold tickV
    rw [if_neg c0]
  rw [decide_eq_true (by omega), fk_t, wr_in _ (by omega)]
  unfold tickV
  rw [if_pos c0]
  refine left_down (t := t) hLl hLs hT8 (tickR s g t).2.1 (fun T' L' A' g' => some ((⟨T', L', A', (tickR s g t).1, g'⟩ : PartState), (tickR s g t).2.2, (0 : Int))) rfl ?_ ?_
  · intro nx T' L' A' g'
    dsimp only
    rw [decide_eq_false (by omega), fk_f]
  · intro nx T' L' A' g' m hm hmT hmA h8L h8T h8A
    dsimp only
    rw [decide_eq_true (by omega), fk_t, jn_eq, ix_lt hm, wr_in _ (by omega)]
    by_cases c : L'[m] = true
    · rw [if_pos c, c, fk_t, bnd_eq (without_eq1 _ _ hmT h8T), bnd_eq (without_eq2 _ _ hm h8L), bnd_eq (without_eq3 _ _ hmA h8A)]
      exact nt_fk g' ⟨t, 7, (m : Int)⟩ (fun lg => nx (_, _, _, lg, (m : Int) - 1))
    · rw [if_neg c, Bool.eq_false_iff.2 c, fk_f]
end Go.Proofs.Ytakiggekallckaa
namespace Go.Proofs.Ytakiggekallckaa
open Go Go.VC
theorem ref17_Tick_eq (s : PartState) (g : Bool) (t : Int) (hb : StB s) (h1 : stP s) : ref17_Tick (toR s) g t = some (toR (tickV s g t).1, (tickV s g t).2) := by
  have hLl := h1.1
  have hLs := h1.2.1.2.1
  have hT8 := AllP_len h1.2.1.1
  have hJ := h1.2.2.1.2.1
  have hG := h1.2.2.2
  unfold ref17_Tick toR
  dsimp only
  refine lp_inv (fun v => s.Jobs.length - v.2.2.toNat) (fun v => ∃ k : Nat, v = (missG t (s.Jobs.take k) s.Log, missJ t (s.Jobs.take k), (k : Int)) ∧ k ≤ s.Jobs.length) ?_ FU _ ⟨0, rfl, Nat.zero_le _⟩ (by unfold FU; simp only; omega)
  rintro nx v ⟨k, rfl, hk⟩ hnx
  dsimp only
  have hjl : (missJ t (s.Jobs.take k)).length ≤ 32 := by
    have h1 : (missJ t (s.Jobs.take k)).length ≤ (s.Jobs.take k).length := List.length_filter_le _ _
    rw [List.length_take] at h1; omega
  rw [lt_nat]
  by_cases hk' : k < s.Jobs.length
  · rw [decide_eq_true hk', fk_t, jn_eq, ix_lt hk', ix_lt hk', ix_lt hk', wr_succ k _ hk' (by omega)]
    have nxt := hnx (missG t (s.Jobs.take (k + 1)) s.Log, missJ t (s.Jobs.take (k + 1)), ((k + 1 : Nat) : Int)) ⟨k + 1, rfl, hk'⟩ (by simp only [Int.toNat_natCast]; omega)
    rw [← List.take_append_getElem hk', missJ_snoc, missG_snoc] at nxt
    by_cases c : t < s.Jobs[k].Due
    · rw [if_pos c, if_pos c] at nxt
      rw [decide_eq_false (by omega), fk_f, ck_t (by simp; omega)]
      exact nxt
    · rw [if_neg c, if_neg c] at nxt
      rw [decide_eq_true (by omega), fk_t, bnd_eq (ref17_noted_eq _ _ _ _)]
      exact nxt
  rw [decide_eq_false hk', fk_f, show k = s.Jobs.length by omega, List.take_length]
  have hpm := jobsP_miss t h1.2.2.1
  have hml : (missJ t s.Jobs).length ≤ 32 := hpm.2.1
  refine jn_to (tickR s g t) ?_ ?_
  · intro k7
    unfold tickR runV
    refine jn_to (g && decide (0 < (missJ t s.Jobs).length)) (fun k8 => ?_) ?_
    · cases g with
      | false => rw [fk_f]; rfl
      | true => rw [fk_t]; simp only [Bool.true_and]; exact congrArg k8 (decide_eq_decide.2 (by omega))
    by_cases c0 : g = true ∧ 0 < (missJ t s.Jobs).length
    rotate_left
    · rw [if_neg c0, show (g && decide (0 < (missJ t s.Jobs).length)) = false by
        rw [Bool.eq_false_iff]; intro h; rw [Bool.and_eq_true, decide_eq_true_eq] at h; exact c0 h, fk_f]
    rw [if_pos c0, show (g && decide (0 < (missJ t s.Jobs).length)) = true by
        rw [Bool.and_eq_true, decide_eq_true_eq]; exact c0, fk_t, bnd_eq (ref15_Tick_eq _ _ hpm)]
    cases ov : (tick s.Tasks (missJ t s.Jobs)).2.2 with
    | false => rw [fk_f, if_neg (by simp)]
    | true =>
      obtain ⟨t0, t3, eC⟩ := tick_over ov
      rw [fk_t, if_pos rfl]
      refine jn_to (if taskC s.Tasks (tick s.Tasks (missJ t s.Jobs)).2.1 < (tick s.Tasks (missJ t s.Jobs)).2.1.Want then 5 else 4) (fun k => ?_) ?_
      · rw [ix_int t0 t3, eC]
        by_cases c5 : taskC s.Tasks (tick s.Tasks (missJ t s.Jobs)).2.1 < (tick s.Tasks (missJ t s.Jobs)).2.1.Want
        · rw [decide_eq_true (show _ > _ from c5), fk_t, if_pos c5]
        · rw [decide_eq_false (show ¬ _ > _ from c5), fk_f, if_neg c5]
      rw [bnd_eq (ref17_noted_eq _ _ _ _)]
  by_cases c0 : (tickR s g t).1.length = 0
  rotate_left
  · rw [decide_eq_true (by omega), fk_t]
    unfold tickV
    rw [if_neg c0]
  rw [decide_eq_false (by omega), fk_f]
  unfold tickV
  rw [if_pos c0]
  refine lp_inv (fun v => s.Tasks.length - v.2.2.2.toNat) (fun v => ∃ k : Nat, v = (keepB (s.Leaves.take k) (s.Tasks.take k), keepB (s.Leaves.take k) (s.Leaves.take k), keepB (s.Leaves.take k) (s.Lasts.take k), (k : Int)) ∧ k ≤ s.Tasks.length) ?_ FU _ ⟨0, rfl, Nat.zero_le _⟩ (by unfold FU; simp only; omega)
  rintro nx v ⟨k, rfl, hk⟩ hnx
  dsimp only
  rw [lt_nat]
  by_cases hk' : k < s.Tasks.length
  · have hkL : k < s.Leaves.length := by omega
    have hkA : k < s.Lasts.length := by omega
    rw [decide_eq_true hk', fk_t, jn_eq, ix_lt hkL, wr_succ k _ hk' (by omega)]
    have nxt := hnx (keepB (s.Leaves.take (k + 1)) (s.Tasks.take (k + 1)), keepB (s.Leaves.take (k + 1)) (s.Leaves.take (k + 1)), keepB (s.Leaves.take (k + 1)) (s.Lasts.take (k + 1)), ((k + 1 : Nat) : Int)) ⟨k + 1, rfl, hk'⟩ (by simp only [Int.toNat_natCast]; omega)
    have lT : (s.Leaves.take k).length = (s.Tasks.take k).length := by rw [List.length_take, List.length_take]; omega
    have lA : (s.Leaves.take k).length = (s.Lasts.take k).length := by rw [List.length_take, List.length_take]; omega
    rw [← List.take_append_getElem hk', ← List.take_append_getElem hkL, ← List.take_append_getElem hkA, keepB_snoc _ _ _ _ lT, keepB_snoc _ _ _ _ rfl, keepB_snoc _ _ _ _ lA] at nxt
    have b1 := keepB_len (s.Leaves.take k) (s.Tasks.take k)
    have b2 := keepB_len (s.Leaves.take k) (s.Leaves.take k)
    have b3 := keepB_len (s.Leaves.take k) (s.Lasts.take k)
    rw [List.length_take] at b1 b2 b3
    cases c : s.Leaves[k] with
    | true =>
      rw [c, if_pos rfl, if_pos rfl, if_pos rfl, List.append_nil, List.append_nil, List.append_nil] at nxt
      rw [Bool.not_true, fk_f]
      exact nxt
    | false =>
      rw [c, if_neg (by simp), if_neg (by simp), if_neg (by simp)] at nxt
      rw [Bool.not_false, fk_t, ix_lt hk', ck_t (by simp; omega), ck_t (by simp; omega), ix_lt hkA, ck_t (by simp; omega)]
      exact nxt
  rw [decide_eq_false hk', fk_f, show k = s.Tasks.length by omega, wr_in _ (by omega), List.take_length, ← hLl, List.take_length, hLl, ← hLs, List.take_length, hLs]
  refine lp_inv (fun v => (v.2 + 1).toNat) (fun v => ∃ (m : Nat) (lg : List Entry), m ≤ s.Tasks.length ∧ v = (lg, (m : Int) - 1) ∧ leftG s.Leaves t m lg = leftG s.Leaves t s.Tasks.length (tickR s g t).2.1) ?_ FU _ ⟨s.Tasks.length, _, Nat.le_refl _, rfl, rfl⟩ (by unfold FU; simp only; omega)
  rintro nx v ⟨m, lg, hm, rfl, hg⟩ hnx
  dsimp only
  cases m with
  | zero =>
    rw [decide_eq_false (by omega), fk_f]
    simp only [leftG] at hg
    rw [hg]
  | succ m =>
    have hmL : m < s.Leaves.length := by omega
    have e : ((m + 1 : Nat) : Int) - 1 = (m : Int) := by omega
    rw [decide_eq_true (by omega), fk_t, jn_eq, e, ix_lt hmL, wr_in _ (by omega)]
    have hg : leftG s.Leaves t m (if (s.Leaves[m]?).getD false = true then nt lg ⟨t, 7, (m : Int)⟩ else lg) = leftG s.Leaves t s.Tasks.length (tickR s g t).2.1 := hg
    rw [show (s.Leaves[m]?).getD false = s.Leaves[m] by rw [List.getElem?_eq_getElem hmL]; rfl] at hg
    cases c : s.Leaves[m] with
    | true =>
      rw [c, if_pos rfl] at hg
      rw [fk_t, bnd_eq (ref17_noted_eq _ _ _ _)]
      exact hnx _ ⟨m, _, by omega, rfl, hg⟩ (by simp only; omega)
    | false =>
      rw [c, if_neg (by simp)] at hg
      rw [fk_f]
      exact hnx _ ⟨m, _, by omega, rfl, hg⟩ (by simp only; omega)
end Go.Proofs.Ytakiggekallckaa
namespace Go.Proofs.Ytakiggekallckaa
open Go Go.VC
/-! How long what comes out is. -/
theorem nt_le (lg : List Entry) (e : Entry) : (nt lg e).length ≤ lg.length + 1 := by
  unfold nt; split
  · rw [List.length_append]; exact Nat.le_refl _
  · omega
theorem SameB.rel {s : PartState} {i w t : Int} (hb : StB s) (hg : ¬ greatS s) : SameB (toR (relV s i w t).1) := by
  have h0 := SameB.of hb hg
  unfold greatS at hg
  unfold relV
  split
  rotate_left
  · exact h0
  split
  · exact h0
  split
  rotate_left
  · have := nt_le s.Log ⟨t, 2, i⟩
    exact ⟨h0.t, h0.u, h0.l, h0.a, h0.j, by show (nt s.Log ⟨t, 2, i⟩).length ≤ _; omega⟩
  split
  rotate_left
  · have := nt_le s.Log ⟨t, 3, i⟩
    exact ⟨h0.t, h0.u, h0.l, h0.a, h0.j, by show (nt s.Log ⟨t, 3, i⟩).length ≤ _; omega⟩
  have := nt_le s.Log ⟨t, 1, i⟩
  refine ⟨h0.t, h0.u, h0.l, ?_, ?_, by show (nt s.Log ⟨t, 1, i⟩).length ≤ _; omega⟩
  · show (s.Lasts.set i.toNat t).length ≤ _
    rw [List.length_set]; omega
  · show (s.Jobs ++ [newJob s.Tasks i w t]).length ≤ _
    rw [List.length_append]; simp; omega
theorem tick_sub {l : List Task} {js : List Job} : (tick l js).1.length ≤ js.length := by
  unfold tick
  split
  · rename_i h
    show (tickN l js (cho l js).toNat h.2.2).length ≤ _
    unfold tickN
    split
    · rw [List.length_eraseIdx]; split <;> omega
    · rw [List.length_set]; omega
  · exact Nat.le_refl _
theorem SameB.tick {s : PartState} {g : Bool} {t : Int} (hb : StB s) (h1 : stP s) : SameB (toR (tickV s g t).1) := by
  have h0 := SameB.of_st hb h1
  have hG := h1.2.2.2
  have hT8 := AllP_len h1.2.1.1
  have hj : (tickR s g t).1.length ≤ 32 := by
    have hm := (jobsP_miss t h1.2.2.1).2.1
    have := tick_sub (l := s.Tasks) (js := missJ t s.Jobs)
    unfold tickR runV
    split <;> simp only <;> omega
  have hl : (tickR s g t).2.1.length ≤ 2000 := by
    have hm := missG_len t s.Jobs hG
    unfold tickR runV
    split
    · simp only
      split
      · exact nt_len hm
      · exact hm
    · exact hm
  unfold tickV
  split
  · have k1 := keepB_len s.Leaves s.Tasks
    have k2 := keepB_len s.Leaves s.Leaves
    have k3 := keepB_len s.Leaves s.Lasts
    have hL := h1.1
    have hA := h1.2.1.2.1
    have k4 := leftG_len s.Leaves t s.Tasks.length hl
    refine ⟨?_, fun x hx => hb.u x ((keepB_sub _ _).subset hx), ?_, ?_, ?_, ?_⟩ <;> simp only [toR] <;> omega
  · refine ⟨h0.t, h0.u, h0.l, h0.a, ?_, ?_⟩ <;> simp only [toR] <;> omega
end Go.Proofs.Ytakiggekallckaa
namespace Go.Proofs.Ytakiggekallckaa
open Go Go.VC
noncomputable def part_Add (a0 : PartState) (a1 : Task) : Option (PartState × Int) :=
  jn (fun (w1 : Bool) => fk w1 (some (a0, (1 : Int))) (fk (decide ((a0.Tasks.length : Int) ≥ (8 : Int))) (some (a0, (3 : Int))) (ck (decide ((([] : List Sec).length + a1.Secs.length) * 24 ≤ 140737488355328)) (ck (decide ((([] : List Task).length + a0.Tasks.length) * 48 ≤ 140737488355328)) (ck (decide (((([] : List Task) ++ a0.Tasks).length + ([⟨a1.C, a1.D, a1.T, ([] : List Sec) ++ a1.Secs⟩] : List Task).length) * 48 ≤ 140737488355328)) (ck (decide ((([] : List Bool).length + a0.Leaves.length) * 1 ≤ 140737488355328)) (ck (decide (((([] : List Bool) ++ a0.Leaves).length + ([false] : List Bool).length) * 1 ≤ 140737488355328)) (ck (decide ((([] : List Int).length + a0.Lasts.length) * 8 ≤ 140737488355328)) (ck (decide (((([] : List Int) ++ a0.Lasts).length + ([(-1 : Int)] : List Int).length) * 8 ≤ 140737488355328)) (some (⟨(([] : List Task) ++ a0.Tasks) ++ ([⟨a1.C, a1.D, a1.T, ([] : List Sec) ++ a1.Secs⟩] : List Task), (([] : List Bool) ++ a0.Leaves) ++ ([false] : List Bool), (([] : List Int) ++ a0.Lasts) ++ ([(-1 : Int)] : List Int), a0.Jobs, a0.Log⟩, (0 : Int)))))))))))) (fun k1 => bnd (part_Right a0) fun x2 => fk (!x2) (k1 true) (bnd (task_Right a1) fun x3 => k1 (!x3)))
theorem part_Add_w (a0 : PartState) (a1 : Task) (r : PartState × Int) (h : part_Add a0 a1 = some r) : Go.VC.Spec Try.prog 23 [.agg (PartState.enc a0), .agg (Task.enc a1)] (fun y => y = E_PartState_Int r) := by
  refine Go.VC.Spec.of_xc (args := [.agg (PartState.enc a0), .agg (Task.enc a1)]) (fn := Try.f23) tab ⟨[(0, [2, 3, 4]), (1, [2, 3, 4, 6]), (2, [4, 5]), (3, [2, 3, 4, 16]), (4, [4, 5]), (5, [2, 3, 4]), (6, [2, 4]), (7, [2, 4]), (8, [2, 4]), (9, [4, 5])], [], [100006], [(26, [26])]⟩ 50 [.cell 4 28, .tmp 5] rfl rfl rfl rfl rfl rfl ?_
  conv => whnf
  refine jnS (fun w1 => ⟨[(2, .l (.ptr 3 0)), (3, .l (.ptr 4 0)), (4, .l (.ptr 5 0)), (6, .l (.d (.bool w1)))], 50, [], [(3, [.d (.sl (a0.Tasks.map Task.enc)), .d (.sl (a0.Leaves.map eB)), .d (.sl (a0.Lasts.map (eI .i64))), .d (.sl (a0.Jobs.map Job.enc)), .d (.sl (a0.Log.map Entry.enc))]), (4, [.d (.int .i64 a1.C), .d (.int .i64 a1.D), .d (.int .i64 a1.T), .d (.sl (a1.Secs.map Sec.enc))]), (5, [.nil, .nil, .nil, .nil, .nil])], []⟩) h (fun k1 hk1 h => ?_) (fun w1 h => ?_)
  · conv => whnf
    refine caS (E := E_Bool) h (part_Right_w a0) rfl (fun _ => rfl) (fun x2 h => ?_)
    conv => whnf
    refine fkS h (fun h => ?_) (fun h => ?_)
    · conv => whnf
      exact jeS hk1 h (Weak.refl _)
    conv => whnf
    refine caS (E := E_Bool) h (task_Right_w a1) rfl (fun _ => rfl) (fun x3 h => ?_)
    conv => whnf
    exact jeS hk1 h (Weak.refl _)
  conv => whnf
  refine fkS h (fun h => ?_) (fun h => ?_)
  · conv => whnf
    exact rt (E := E_PartState_Int) h rfl
  conv => whnf
  refine lenS a0.Tasks Task.enc rfl ?_
  conv => whnf
  refine fkS h (fun h => ?_) (fun h => ?_)
  · conv => whnf
    exact rt (E := E_PartState_Int) h rfl
  conv => whnf
  refine liS ([] : List Sec) Sec.enc rfl rfl ?_
  conv => whnf
  refine apS (enc := Sec.enc) (l1 := ([] : List Sec)) (l2 := a1.Secs) h rfl rfl (fun _ => rfl) (fun h => ?_)
  conv => whnf
  refine ⟨6, ?_⟩
  conv => whnf
  refine liS ([] : List Task) Task.enc rfl rfl ?_
  conv => whnf
  refine apS (enc := Task.enc) (l1 := ([] : List Task)) (l2 := a0.Tasks) h rfl rfl (fun _ => rfl) (fun h => ?_)
  conv => whnf
  refine liS ([⟨a1.C, a1.D, a1.T, ([] : List Sec) ++ a1.Secs⟩] : List Task) Task.enc rfl rfl ?_
  conv => whnf
  refine drS (by kernel_rfl) ?_
  conv => whnf
  refine apS (enc := Task.enc) (l1 := ([] : List Task) ++ a0.Tasks) (l2 := ([⟨a1.C, a1.D, a1.T, ([] : List Sec) ++ a1.Secs⟩] : List Task)) h rfl rfl (fun _ => rfl) (fun h => ?_)
  conv => whnf
  refine liS ([] : List Bool) eB rfl rfl ?_
  conv => whnf
  refine apS (enc := eB) (l1 := ([] : List Bool)) (l2 := a0.Leaves) h rfl rfl (fun _ => rfl) (fun h => ?_)
  conv => whnf
  refine liS ([false] : List Bool) eB rfl rfl ?_
  conv => whnf
  refine apS (enc := eB) (l1 := ([] : List Bool) ++ a0.Leaves) (l2 := ([false] : List Bool)) h rfl rfl (fun _ => rfl) (fun h => ?_)
  conv => whnf
  refine liS ([] : List Int) (eI .i64) rfl rfl ?_
  conv => whnf
  refine apS (enc := (eI .i64)) (l1 := ([] : List Int)) (l2 := a0.Lasts) h rfl rfl (fun _ => rfl) (fun h => ?_)
  conv => whnf
  refine liS ([(-1 : Int)] : List Int) (eI .i64) rfl rfl ?_
  conv => whnf
  refine apS (enc := (eI .i64)) (l1 := ([] : List Int) ++ a0.Lasts) (l2 := ([(-1 : Int)] : List Int)) h rfl rfl (fun _ => rfl) (fun h => ?_)
  conv => whnf
  exact rt (E := E_PartState_Int) h rfl

end Go.Proofs.Ytakiggekallckaa
namespace Go.Proofs.Ytakiggekallckaa
open Go Go.VC
noncomputable def part_Leave (a0 : PartState) (a1 : Int) : Option (PartState × Int) :=
  jn (fun (w1 : Bool) => fk w1 (some (a0, (1 : Int))) (ix a0.Leaves a1 fun x3 => fk x3 (some (a0, (9 : Int))) (ck (decide ((([] : List Bool).length + a0.Leaves.length) * 1 ≤ 140737488355328)) (ck (decide (0 ≤ a1) && decide (a1 < ((([] : List Bool) ++ a0.Leaves).length : Int))) (ox (([] : List Bool) ++ a0.Leaves) a1.toNat fun x4 => some (⟨a0.Tasks, (([] : List Bool) ++ a0.Leaves).set a1.toNat true, a0.Lasts, a0.Jobs, a0.Log⟩, (0 : Int))))))) (fun k1 => bnd (part_Right a0) fun x2 => fk (!x2) (k1 true) (fk (decide (a1 < (0 : Int))) (k1 true) (k1 (decide (a1 ≥ (a0.Tasks.length : Int))))))
theorem part_Leave_w (a0 : PartState) (a1 : Int) (r : PartState × Int) (h : part_Leave a0 a1 = some r) : Go.VC.Spec Try.prog 24 [.agg (PartState.enc a0), .d (.int .i64 a1)] (fun y => y = E_PartState_Int r) := by
  refine Go.VC.Spec.of_xc (args := [.agg (PartState.enc a0), .d (.int .i64 a1)]) (fn := Try.f24) tab ⟨[(0, [1, 2, 4]), (1, [1, 2, 4, 6]), (2, [4, 5]), (3, [1, 2, 4, 22]), (4, [4, 5]), (5, [1, 2, 4]), (6, [2, 4]), (7, [4, 5])], [], [100006], []⟩ 39 [.cell 4 28, .tmp 5] rfl rfl rfl rfl rfl rfl ?_
  conv => whnf
  refine jnS (fun w1 => ⟨[(1, .l (.d (.int .i64 a1))), (2, .l (.ptr 3 0)), (4, .l (.ptr 5 0)), (6, .l (.d (.bool w1)))], 39, [], [(3, [.d (.sl (a0.Tasks.map Task.enc)), .d (.sl (a0.Leaves.map eB)), .d (.sl (a0.Lasts.map (eI .i64))), .d (.sl (a0.Jobs.map Job.enc)), .d (.sl (a0.Log.map Entry.enc))]), (5, [.nil, .nil, .nil, .nil, .nil])], []⟩) h (fun k1 hk1 h => ?_) (fun w1 h => ?_)
  · conv => whnf
    refine caS (E := E_Bool) h (part_Right_w a0) rfl (fun _ => rfl) (fun x2 h => ?_)
    conv => whnf
    refine fkS h (fun h => ?_) (fun h => ?_)
    · conv => whnf
      exact jeS hk1 h (Weak.refl _)
    conv => whnf
    refine fkS h (fun h => ?_) (fun h => ?_)
    · conv => whnf
      exact jeS hk1 h (Weak.refl _)
    conv => whnf
    refine lenS a0.Tasks Task.enc rfl ?_
    conv => whnf
    exact jeS hk1 h (Weak.refl _)
  conv => whnf
  refine fkS h (fun h => ?_) (fun h => ?_)
  · conv => whnf
    exact rt (E := E_PartState_Int) h rfl
  conv => whnf
  refine ixS (enc := eB) h rfl (fun _ => rfl) (fun x3 h => ?_)
  conv => whnf
  refine fkS h (fun h => ?_) (fun h => ?_)
  · conv => whnf
    exact rt (E := E_PartState_Int) h rfl
  conv => whnf
  refine liS ([] : List Bool) eB rfl rfl ?_
  conv => whnf
  refine apS (enc := eB) (l1 := ([] : List Bool)) (l2 := a0.Leaves) h rfl rfl (fun _ => rfl) (fun h => ?_)
  conv => whnf
  refine ioS (enc := eB) h rfl (fun h => ?_)
  conv => whnf
  refine seS (enc := eB) h rfl (fun x4 => true) (fun _ => rfl) (fun x4 h => ?_)
  conv => whnf
  exact rt (E := E_PartState_Int) h rfl

end Go.Proofs.Ytakiggekallckaa
