/- It is proved that the law SrpStacks returns true at every input that the row lets in; there is no condition beside the row's own. -/
import Derived.Test.YtkhebjkplmidnaaXSrpStacks0
import Derived.Test.YtkhebjkplmidnaaRows
set_option linter.unusedVariables false
set_option linter.unusedSimpArgs false
set_option maxRecDepth 100000
set_option maxHeartbeats 4000000
namespace Go.Proofs.Ytkhebjkplmidnaa
open Go Go.VC

theorem law15_knows_eq : law15_knows = some true := by kernel_rfl
/-! Levels by deadlines. -/
theorem countP_lt {α : Type} {p q : α → Bool} {l : List α} (h : ∀ x ∈ l, p x = true → q x = true) {x : α} (hx : x ∈ l) (hp : p x = false) (hq : q x = true) : l.countP p < l.countP q := by
  induction l with
  | nil => cases hx
  | cons a r ih =>
    simp only [List.countP_cons]
    have hr := fun x hx => h x (List.mem_cons_of_mem _ hx)
    have hle : r.countP p ≤ r.countP q := List.countP_mono_left hr
    rcases List.mem_cons.1 hx with rfl | hx
    · rw [hp, hq]; simp; omega
    · have := ih hr hx
      have h2 := h a List.mem_cons_self
      cases hpa : p a with
      | true => rw [h2 hpa]; simp; omega
      | false => simp; omega
theorem levelN_lt {l : List Task} {x : Task} (hx : x ∈ l) (D : Int) : levelN l x.D < levelN l D ↔ D < x.D := by
  unfold levelN
  constructor
  · intro h
    by_cases c : D < x.D
    · exact c
    · have : l.countP (fun y => decide (y.D > D)) ≤ l.countP (fun y => decide (y.D > x.D)) := List.countP_mono_left fun y _ hy => by
        simp only [decide_eq_true_eq] at *; omega
      omega
  · intro h
    have := countP_lt (p := fun y : Task => decide (y.D > x.D)) (q := fun y => decide (y.D > D)) (l := l) (fun y _ hy => by simp only [decide_eq_true_eq] at *; omega) hx (by simp) (by simpa using h)
    omega
/-- A task of this deadline uses nothing of what is held, and passes. -/
def passD (l : List Task) (h : List Int) (D : Int) : Prop := ∀ r ∈ h, ∀ x ∈ l, usesP x r → D < x.D
theorem maxL_lt {α : Type} {f : α → Nat} {l : List α} {n : Nat} (hn : 0 < n) : maxL f l < n ↔ ∀ x ∈ l, f x < n := by
  constructor
  · intro h x hx; exact Nat.lt_of_le_of_lt (le_maxL hx) h
  · intro h
    have : maxL f l ≤ n - 1 := maxL_le.2 fun x hx => by have := h x hx; omega
    omega
theorem passes_iff {l : List Task} {h : List Int} {i : Int} (ha : AllP l) (h0 : 0 ≤ i) (hi : i.toNat < l.length) : heldN l h < ofN l i ↔ passD l h l[i.toNat].D := by
  rw [ofN_lt ha h0 hi]
  have hn : 0 < levelN l l[i.toNat].D := by unfold levelN; omega
  unfold heldN passD
  rw [maxL_lt hn]
  refine forall_congr' fun r => forall_congr' fun hr => ?_
  rw [ceil, if_pos ha, ceilN, maxL_lt hn]
  refine forall_congr' fun x => forall_congr' fun hx => ?_
  by_cases c : usesP x r
  · rw [if_pos c, levelN_lt hx]; exact ⟨fun h _ => h, fun h => h c⟩
  · rw [if_neg c]; exact ⟨fun _ h => absurd h c, fun _ => hn⟩

/-! Who runs. -/
def jg (js : List Job) (i : Int) : Job := (js[i.toNat]?).getD ⟨0, 0, 0, 0, 0, false⟩
theorem jg_lt {js : List Job} {i : Int} (h : i.toNat < js.length) : jg js i = js[i.toNat] := by unfold jg; rw [List.getElem?_eq_getElem h]; rfl
theorem fst_cases (js : List Job) (b : Bool) : fst js b = -1 ∨ (0 ≤ fst js b ∧ (fst js b).toNat < js.length) := by
  rcases fst_is js b with ⟨h, _⟩ | ⟨n, h, hn, _⟩
  · exact .inl h
  · exact .inr ⟨by omega, by omega⟩
theorem fst_none {js : List Job} {b : Bool} (h : fst js b < 0) : ∀ j ∈ js, j.Began ≠ b := by
  intro j hj
  rcases fst_is js b with ⟨_, h2⟩ | ⟨n, h1, _⟩
  · obtain ⟨k, hk, rfl⟩ := List.getElem_of_mem hj
    exact h2 k hk hk
  · omega
theorem fst_first {js : List Job} {b : Bool} (h : 0 ≤ fst js b) (hl : (fst js b).toNat < js.length) : js[(fst js b).toNat].Began = b ∧ ∀ j ∈ js, j.Began = b → ¬ aheadP j js[(fst js b).toNat] := by
  rcases fst_is js b with ⟨h1, _⟩ | ⟨n, h1, hn, _, hb, h3, _⟩
  · omega
  · have e : (fst js b).toNat = n := by omega
    subst e
    refine ⟨hb, fun j hj hjb => ?_⟩
    obtain ⟨k, hk, rfl⟩ := List.getElem_of_mem hj
    exact h3 k hk hk hjb
open Classical in
noncomputable def cho (l : List Task) (js : List Job) : Int :=
  if fst js false < 0 then fst js true
  else if 0 ≤ fst js true ∧ ¬ aheadP (jg js (fst js false)) (jg js (fst js true)) then fst js true
  else if fst js true < 0 ∨ heldN l (heldA l js) < ofN l (jg js (fst js false)).Task then fst js false
  else fst js true
theorem heldA_none {l : List Task} {js : List Job} (hp : jobsP l js) (h : ∀ j ∈ js, j.Began ≠ true) : heldA l js = [] := by
  unfold heldA
  rw [List.flatMap_eq_nil_iff]
  intro j hj
  obtain ⟨_, _, _, h4, hb⟩ := hp.2.2.1 j hj
  rw [heldJ_of h4]
  refine held_out (hp.1.1 _ (List.getElem_mem h4)) (.inl ?_)
  rcases hb.2.2.2.2.2.2 with h5 | h5
  · exact absurd h5 (h j hj)
  · omega
theorem heldN_none (l : List Task) : heldN l [] = 0 := rfl
theorem srp_Choose_eq (l : List Task) (js : List Job) (hl : l.length ≤ 4611686018427387904) : srp_Choose l js = some (if jobsP l js then cho l js else -1) := by
  unfold srp_Choose
  simp only [jn_eq]
  rw [bnd_eq (job_All_eq l js hl)]
  by_cases hp : jobsP l js
  rotate_left
  · rw [decide_eq_false hp, Bool.not_false, fk_t, if_neg hp]
  have h32 := hp.2.1
  have hlen := heldA_len (l := l) (js := js) hp.1
  rw [decide_eq_true hp, Bool.not_true, fk_f, if_pos hp, bnd_eq (job_First_eq js _ (by omega)), bnd_eq (job_First_eq js _ (by omega))]
  unfold cho
  by_cases c1 : fst js false < 0
  · rw [decide_eq_true c1, fk_t, if_pos c1]
  rw [decide_eq_false c1, fk_f, if_neg c1]
  have hf : (fst js false).toNat < js.length := by rcases fst_cases js false with h | h <;> omega
  rw [jg_lt hf]
  have main : fk (decide (fst js true < 0)) (some (fst js false)) (ix js (fst js false) fun x9 => bnd (job_Held l js) fun x10 => bnd (level_Passes l x9.Task x10) fun x11 => fk x11 (some (fst js false)) (some (fst js true))) = some (if fst js true < 0 ∨ heldN l (heldA l js) < ofN l js[(fst js false).toNat].Task then fst js false else fst js true) := by
    by_cases c2 : fst js true < 0
    · rw [decide_eq_true c2, fk_t, if_pos (.inl c2)]
    rw [decide_eq_false c2, fk_f, ix_int (by omega) hf, bnd_eq (job_Held_eq l js hl), if_pos hp, bnd_eq (level_Passes_eq l _ _ hl (by omega))]
    by_cases c3 : heldN l (heldA l js) < ofN l js[(fst js false).toNat].Task
    · rw [decide_eq_true c3, fk_t, if_pos (.inr c3)]
    · rw [decide_eq_false c3, fk_f, if_neg (fun h => h.elim c2 c3)]
  by_cases c2 : fst js true ≥ 0
  · have ht : (fst js true).toNat < js.length := by rcases fst_cases js true with h | h <;> omega
    rw [decide_eq_true c2, fk_t, ix_int (by omega) hf, ix_int c2 ht, job_Ahead_eq, bnd_some, jg_lt ht]
    by_cases c3 : aheadP js[(fst js false).toNat] js[(fst js true).toNat]
    · rw [decide_eq_true c3, Bool.not_true, fk_f, main, if_neg (c := 0 ≤ fst js true ∧ ¬ aheadP _ _) (fun h => h.2 c3)]
    · rw [decide_eq_false c3, Bool.not_false, fk_t, if_pos (c := 0 ≤ fst js true ∧ _) ⟨c2, c3⟩]
  · rw [decide_eq_false c2, fk_f, fk_f, main, if_neg (c := 0 ≤ fst js true ∧ _) (fun h => c2 h.1)]
theorem ref15_Choose_eq (l : List Task) (js : List Job) (hp : jobsP l js) : ref15_Choose l js = some (cho l js) := by
  unfold ref15_Choose
  simp only [jn_eq]
  have h32 := hp.2.1
  have hlen := heldA_len (l := l) (js := js) hp.1
  rw [bnd_eq (ref14_First_eq js _ (by omega)), bnd_eq (ref14_First_eq js _ (by omega))]
  unfold cho
  by_cases c1 : fst js false < 0
  · rw [decide_eq_false (show ¬ fst js false ≥ 0 by omega), fk_f, fk_f, if_pos c1]
  rw [decide_eq_true (show fst js false ≥ 0 by omega), fk_t, if_neg c1]
  have hf : (fst js false).toNat < js.length := by rcases fst_cases js false with h | h <;> omega
  obtain ⟨t0, _, _, t3, _⟩ := hp.2.2.1 _ (List.getElem_mem hf)
  rw [jg_lt hf]
  have main : (fst js true < 0 → heldN l (heldA l js) < ofN l js[(fst js false).toNat].Task) → (ix js (fst js false) fun x7 => bnd (ref06_Of l x7.Task) fun x8 => bnd (ref14_Held l js) fun x9 => bnd (ref06_Held l x9) fun x10 => fk (decide (x8 > x10)) (some (fst js false)) (some (fst js true))) = some (if fst js true < 0 ∨ heldN l (heldA l js) < ofN l js[(fst js false).toNat].Task then fst js false else fst js true) := by
    intro hx
    rw [ix_int (by omega) hf, bnd_eq (ref06_Of_eq l _ hp.1.len hp.1 t0 t3), bnd_eq (ref14_Held_eq l js hp), bnd_eq (ref06_Held_eq l _ hp.1 (by omega))]
    by_cases c3 : heldN l (heldA l js) < ofN l js[(fst js false).toNat].Task
    · rw [decide_eq_true (show (ofN l js[(fst js false).toNat].Task : Int) > (heldN l (heldA l js) : Int) by omega), fk_t, if_pos (.inr c3)]
    · rw [decide_eq_false (show ¬ (ofN l js[(fst js false).toNat].Task : Int) > (heldN l (heldA l js) : Int) by omega), fk_f, if_neg (fun h => h.elim (fun h => c3 (hx h)) c3)]
  by_cases c2 : fst js true < 0
  · rw [decide_eq_true c2, fk_t, fk_t, main fun _ => ?_, if_neg (c := 0 ≤ fst js true ∧ _) (fun h => by omega)]
    rw [heldA_none hp (fst_none c2), heldN_none, ofN_lt hp.1 t0 t3]
    unfold levelN; omega
  have ht : (fst js true).toNat < js.length := by rcases fst_cases js true with h | h <;> omega
  rw [decide_eq_false c2, fk_f, ix_int (by omega) hf, ix_int (by omega) ht, ref14_Ahead_eq, bnd_some, jg_lt ht]
  by_cases c3 : aheadP js[(fst js false).toNat] js[(fst js true).toNat]
  · rw [decide_eq_true c3, fk_t, main fun h => absurd h c2, if_neg (c := 0 ≤ fst js true ∧ ¬ aheadP _ _) (fun h => h.2 c3)]
  · rw [decide_eq_false c3, fk_f, if_pos (c := 0 ≤ fst js true ∧ _) ⟨by omega, c3⟩]
/-- What is chosen, by cases. -/
theorem cho_cases {l : List Task} {js : List Job} (hp : jobsP l js) :
    (js = [] ∧ cho l js = -1) ∨ ∃ n, ∃ h : n < js.length, cho l js = (n : Int) ∧
      ((js[n].Began = true ∧ (∀ j ∈ js, j.Began = true → ¬ aheadP j js[n]) ∧ ∀ j ∈ js, j.Began = false → aheadP j js[n] → ∃ f ∈ js, f.Began = false ∧ (∀ j ∈ js, j.Began = false → ¬ aheadP j f) ∧ ∃ hf : f.Task.toNat < l.length, ¬ passD l (heldA l js) l[f.Task.toNat].D) ∨
       (js[n].Began = false ∧ (∀ j ∈ js, j.Began = false → ¬ aheadP j js[n]) ∧ (∀ j ∈ js, j.Began = true → aheadP js[n] j) ∧ ∃ hf : js[n].Task.toNat < l.length, passD l (heldA l js) l[js[n].Task.toNat].D)) := by
  unfold cho
  by_cases c1 : fst js false < 0
  · rw [if_pos c1]
    by_cases c2 : fst js true < 0
    · left
      have h1 := fst_none c1
      have h2 := fst_none c2
      refine ⟨List.eq_nil_iff_forall_not_mem.2 fun j hj => ?_, by rcases fst_cases js true with h | h <;> omega⟩
      cases hb : j.Began with
      | true => exact h2 j hj hb
      | false => exact h1 j hj hb
    · have ht : (fst js true).toNat < js.length := by rcases fst_cases js true with h | h <;> omega
      obtain ⟨h1, h2⟩ := fst_first (by omega) ht
      exact .inr ⟨_, ht, by omega, .inl ⟨h1, h2, fun j hj hb _ => absurd hb (fst_none c1 j hj)⟩⟩
  rw [if_neg c1]
  have hf : (fst js false).toNat < js.length := by rcases fst_cases js false with h | h <;> omega
  obtain ⟨t0, _, _, t3, _⟩ := hp.2.2.1 _ (List.getElem_mem hf)
  obtain ⟨f1, f2⟩ := fst_first (b := false) (by omega) hf
  rw [jg_lt hf]
  right
  by_cases c2 : 0 ≤ fst js true ∧ ¬ aheadP js[(fst js false).toNat] (jg js (fst js true))
  · rw [if_pos c2]
    have ht : (fst js true).toNat < js.length := by rcases fst_cases js true with h | h <;> omega
    rw [jg_lt ht] at c2
    obtain ⟨h1, h2⟩ := fst_first c2.1 ht
    exact ⟨_, ht, by omega, .inl ⟨h1, h2, fun j hj hb ha => absurd (aheadP_of (f2 j hj hb) ha) c2.2⟩⟩
  rw [if_neg c2]
  by_cases c3 : fst js true < 0 ∨ heldN l (heldA l js) < ofN l js[(fst js false).toNat].Task
  · rw [if_pos c3]
    refine ⟨_, hf, by omega, .inr ⟨f1, f2, fun j hj hb => ?_, t3, ?_⟩⟩
    · by_cases c4 : fst js true < 0
      · exact absurd hb (fst_none c4 j hj)
      · have ht : (fst js true).toNat < js.length := by rcases fst_cases js true with h | h <;> omega
        obtain ⟨h1, h2⟩ := fst_first (b := true) (by omega) ht
        have h3 : aheadP js[(fst js false).toNat] js[(fst js true).toNat] := by
          by_cases c : aheadP js[(fst js false).toNat] js[(fst js true).toNat]
          · exact c
          · exact absurd ⟨by omega, by rw [jg_lt ht]; exact c⟩ c2
        exact aheadP_of' h3 (h2 j hj hb)
    · rw [← passes_iff hp.1 t0 t3]
      rcases c3 with c3 | c3
      · rw [heldA_none hp (fst_none c3), heldN_none, ofN_lt hp.1 t0 t3]; unfold levelN; omega
      · exact c3
  · rw [if_neg c3]
    have c4 : ¬ fst js true < 0 := fun h => c3 (.inl h)
    have ht : (fst js true).toNat < js.length := by rcases fst_cases js true with h | h <;> omega
    obtain ⟨h1, h2⟩ := fst_first (b := true) (by omega) ht
    refine ⟨_, ht, by omega, .inl ⟨h1, h2, fun j hj hb ha => ⟨_, List.getElem_mem hf, f1, f2, t3, ?_⟩⟩⟩
    rw [← passes_iff hp.1 t0 t3]
    exact fun h => c3 (.inr h)
end Go.Proofs.Ytkhebjkplmidnaa
namespace Go.Proofs.Ytkhebjkplmidnaa
open Go Go.VC

/-! A tick. -/
def upd (j : Job) : Job := ⟨j.Task, j.At, j.Due, j.Want, j.Had + 1, true⟩
def taskC (l : List Task) (j : Job) : Int := match l[j.Task.toNat]? with | some t => t.C | none => 0
def overB (l : List Task) (j : Job) : Bool := decide (j.Had + 1 ≥ (if taskC l j < j.Want then taskC l j else j.Want))
def zeroJ : Job := ⟨0, 0, 0, 0, 0, false⟩
def tickN (l : List Task) (js : List Job) (n : Nat) (h : n < js.length) : List Job := if overB l js[n] = true then js.eraseIdx n else js.set n (upd js[n])
open Classical in
noncomputable def tick (l : List Task) (js : List Job) : List Job × Job × Bool :=
  if h : jobsP l js ∧ 0 ≤ cho l js ∧ (cho l js).toNat < js.length then (tickN l js (cho l js).toNat h.2.2, upd js[(cho l js).toNat], overB l js[(cho l js).toNat]) else (js, zeroJ, false)
theorem cho_lt {l : List Task} {js : List Job} (hp : jobsP l js) : cho l js = -1 ∨ (0 ≤ cho l js ∧ (cho l js).toNat < js.length) := by
  rcases cho_cases hp with ⟨_, h⟩ | ⟨n, hn, h, _⟩
  · exact .inl h
  · exact .inr ⟨by omega, by omega⟩
theorem tick_eq {l : List Task} {js : List Job} (hp : jobsP l js) {n : Nat} (hn : n < js.length) (ec : cho l js = (n : Int)) : tick l js = (tickN l js n hn, upd js[n], overB l js[n]) := by
  obtain rfl : n = (cho l js).toNat := by omega
  unfold tick
  rw [dif_pos ⟨hp, by omega, hn⟩]
theorem cho_nat {l : List Task} {js : List Job} (hp : jobsP l js) : cho l js = -1 ∨ ∃ n, ∃ hn : n < js.length, cho l js = (n : Int) := by
  rcases cho_cases hp with ⟨_, h⟩ | ⟨n, hn, h, _⟩
  · exact .inl h
  · exact .inr ⟨n, hn, h⟩
theorem tickN_form {l : List Task} {js : List Job} {n : Nat} (h : n < js.length) : tickN l js n h = js.take n ++ (if overB l js[n] = true then [] else [upd js[n]]) ++ js.drop (n + 1) := by
  unfold tickN
  split
  · rw [List.eraseIdx_eq_take_drop_succ]; simp
  · rw [List.set_eq_take_append_cons_drop, if_pos h]; simp
theorem had_bound {l : List Task} {js : List Job} (hp : jobsP l js) {j : Job} (hj : j ∈ js) : 0 ≤ j.Had ∧ j.Had < 200 ∧ j.Had < j.Want ∧ j.Had < taskC l j ∧ j.Want ≤ 200 ∧ taskC l j ≤ 200 := by
  obtain ⟨_, _, _, h4, hb⟩ := hp.2.2.1 j hj
  have hc := hp.1.1 _ (List.getElem_mem h4)
  have := hc.1
  unfold ownP at this
  unfold bodyP at hb
  unfold taskC
  rw [List.getElem?_eq_getElem h4]
  simp only
  omega
theorem srp_Tick_eq (l : List Task) (js : List Job) (hl : l.length ≤ 4611686018427387904) : srp_Tick l js = some (tick l js) := by
  unfold srp_Tick
  simp only [jn_eq]
  rw [bnd_eq (srp_Choose_eq l js hl)]
  by_cases hp : jobsP l js
  rotate_left
  · rw [if_neg hp, decide_eq_true (by omega), fk_t, tick, dif_neg (fun h => hp h.1)]; rfl
  rw [if_pos hp]
  have h32 := hp.2.1
  rcases cho_nat hp with hc | ⟨n, hn, ec⟩
  · rw [decide_eq_true (by omega), fk_t, tick, dif_neg (fun h => by omega)]; rfl
  rw [tick_eq hp hn ec, ec]
  obtain ⟨t0, t1, t2, t3, tb⟩ := hp.2.2.1 _ (List.getElem_mem hn)
  have hb := had_bound hp (List.getElem_mem hn)
  have eC : taskC l js[n] = l[js[n].Task.toNat].C := by unfold taskC; rw [List.getElem?_eq_getElem t3]
  rw [decide_eq_false (by omega), fk_f, ix_lt hn, ix_int t0 t3, ← eC, wr_in _ (by omega), wr_in _ (by omega), tickN_form hn]
  have e2 : ∀ m : List Job, (([] : List Job) ++ ((js.take (n : Int).toNat).drop (0 : Int).toNat)) ++ m ++ ((js.take (js.length : Int).toNat).drop ((n : Int) + 1).toNat) = js.take n ++ m ++ js.drop (n + 1) := by
    intro m
    rw [show ((n : Int) + 1).toNat = n + 1 by omega]; simp
  rw [ck_t (by simp; omega), ck_t (by simp; omega)]
  show fk (!overB l js[n]) _ _ = _
  cases ho : overB l js[n] with
  | true =>
    rw [Bool.not_true, fk_f, ck_t (by simp; omega), ck_t (by simp; omega), if_pos rfl, ← e2 [], List.append_nil]
    show some (_, upd js[n], overB l js[n]) = _
    rw [ho]
  | false =>
    rw [Bool.not_false, fk_t, ck_t (by simp; omega), ck_t (by simp; omega), ck_t (by simp; omega), show (if false = true then ([] : List Job) else [upd js[n]]) = [upd js[n]] from if_neg (by simp), ← e2]
    show some (_, upd js[n], overB l js[n]) = _
    rw [ho]; rfl
theorem over_iff {l : List Task} {js : List Job} (hp : jobsP l js) {j : Job} (hj : j ∈ js) : overB l j = (decide (j.Had + 1 = j.Want) || decide (j.Had + 1 = taskC l j)) := by
  have hb := had_bound hp hj
  unfold overB
  by_cases c : taskC l j < j.Want
  · rw [if_pos c]
    rw [Bool.eq_iff_iff]; simp only [decide_eq_true_eq, Bool.or_eq_true]; omega
  · rw [if_neg c]
    rw [Bool.eq_iff_iff]; simp only [decide_eq_true_eq, Bool.or_eq_true]; omega
theorem ref15_Tick_eq (l : List Task) (js : List Job) (hp : jobsP l js) : ref15_Tick l js = some (tick l js) := by
  unfold ref15_Tick
  simp only [jn_eq]
  rw [bnd_eq (ref15_Choose_eq l js hp)]
  have h32 := hp.2.1
  rcases cho_nat hp with hc | ⟨n, hn, ec⟩
  · rw [decide_eq_true (by omega), fk_t, tick, dif_neg (fun h => by omega)]; rfl
  rw [tick_eq hp hn ec, ec]
  have hov := over_iff hp (List.getElem_mem hn)
  obtain ⟨t0, t1, t2, t3, tb⟩ := hp.2.2.1 _ (List.getElem_mem hn)
  have hb := had_bound hp (List.getElem_mem hn)
  have eC : taskC l js[n] = l[js[n].Task.toNat].C := by unfold taskC; rw [List.getElem?_eq_getElem t3]
  rw [decide_eq_false (by omega), fk_f, tickN_form hn]
  refine lp_inv (fun v => js.length - v.2.2.2.2.2.2.2.2.toNat) (fun v => ∃ (k : Nat) (r : Job) (out : List Job) (ov : Bool), v = (r.Task, r.At, r.Due, r.Want, r.Had, r.Began, out, ov, (k : Int)) ∧ k ≤ js.length ∧ ((k ≤ n ∧ r = zeroJ ∧ out = js.take k ∧ ov = false) ∨ (n < k ∧ r = upd js[n] ∧ out = js.take n ++ (if overB l js[n] = true then [] else [upd js[n]]) ++ (js.take k).drop (n + 1) ∧ ov = overB l js[n]))) ?_ FU _ ⟨0, zeroJ, [], false, rfl, Nat.zero_le _, .inl ⟨Nat.zero_le _, rfl, by simp, rfl⟩⟩ (by unfold FU; simp; omega)
  rintro nx v ⟨k, r, out, ov, rfl, hk, J⟩ hnx
  simp only
  rw [lt_nat]
  by_cases h : k < js.length
  rotate_left
  · rw [decide_eq_false h, fk_f]
    have ek : k = js.length := by omega
    rcases J with ⟨h1, _⟩ | ⟨h1, rfl, rfl, rfl⟩
    · omega
    · rw [ek, List.take_length]
  rw [decide_eq_true h, fk_t, ix_lt h]
  have hw : wr ((k : Int) + 1) = ((k + 1 : Nat) : Int) := wr_succ k _ h (by omega)
  rw [hw]
  have hbk := had_bound hp (List.getElem_mem h)
  rcases Nat.lt_trichotomy k n with c | c | c
  · rcases J with ⟨_, rfl, rfl, rfl⟩ | ⟨h1, _⟩
    rotate_left
    · omega
    rw [decide_eq_false (show ¬ (k : Int) = (n : Int) by omega), fk_f, Bool.not_false, fk_t, ck_t (by simp; omega)]
    refine hnx _ ⟨k + 1, zeroJ, _, false, rfl, by omega, .inl ⟨by omega, rfl, ?_, rfl⟩⟩ (by simp only [Int.toNat_natCast]; omega)
    rw [← List.take_append_getElem h]
  · subst c
    rcases J with ⟨_, rfl, rfl, rfl⟩ | ⟨h1, _⟩
    rotate_left
    · omega
    rw [decide_eq_true rfl, fk_t, Bool.not_true, fk_f, wr_in _ (by omega)]
    have fin : ∀ o, o = overB l js[k] → fk (!o) (ck (decide (((js.take k).length + ([⟨js[k].Task, js[k].At, js[k].Due, js[k].Want, js[k].Had + 1, true⟩] : List Job).length) * 48 ≤ 140737488355328)) (nx (js[k].Task, js[k].At, js[k].Due, js[k].Want, js[k].Had + 1, true, js.take k ++ ([⟨js[k].Task, js[k].At, js[k].Due, js[k].Want, js[k].Had + 1, true⟩] : List Job), o, ((k + 1 : Nat) : Int)))) (nx (js[k].Task, js[k].At, js[k].Due, js[k].Want, js[k].Had + 1, true, js.take k, o, ((k + 1 : Nat) : Int))) = some (js.take k ++ (if overB l js[k] = true then [] else [upd js[k]]) ++ js.drop (k + 1), upd js[k], overB l js[k]) := by
      intro o ho
      cases o with
      | true =>
        rw [Bool.not_true, fk_f]
        exact hnx _ ⟨k + 1, upd js[k], _, true, rfl, by omega, .inr ⟨by omega, rfl, by rw [← ho, if_pos rfl]; simp, ho⟩⟩ (by simp only [Int.toNat_natCast]; omega)
      | false =>
        rw [Bool.not_false, fk_t, ck_t (by simp; omega)]
        exact hnx _ ⟨k + 1, upd js[k], _, false, rfl, by omega, .inr ⟨by omega, rfl, by rw [← ho, if_neg (by simp)]; simp [upd], ho⟩⟩ (by simp only [Int.toNat_natCast]; omega)
    by_cases c1 : js[k].Had + 1 = js[k].Want
    · rw [decide_eq_true c1, fk_t]
      exact fin true (by rw [hov, decide_eq_true c1]; rfl)
    · rw [decide_eq_false c1, fk_f, ix_int t0 t3, ← eC]
      exact fin _ (by rw [hov, decide_eq_false c1]; rfl)
  · rcases J with ⟨h1, _⟩ | ⟨_, rfl, rfl, rfl⟩
    · omega
    rw [decide_eq_false (show ¬ (k : Int) = (n : Int) by omega), fk_f, Bool.not_false, fk_t, ck_t (by
      have : (if overB l js[n] = true then ([] : List Job) else [upd js[n]]).length ≤ 1 := by split <;> simp
      simp only [List.length_append, List.length_take, List.length_drop, List.length_cons, List.length_nil]; simp; omega)]
    refine hnx _ ⟨k + 1, upd js[n], _, overB l js[n], rfl, by omega, .inr ⟨by omega, rfl, ?_, rfl⟩⟩ (by simp only [Int.toNat_natCast]; omega)
    rw [← List.take_append_getElem h, List.drop_append, List.append_assoc, List.append_assoc, List.append_assoc]
    rw [show n + 1 - (js.take k).length = 0 by rw [List.length_take]; omega]
    simp
end Go.Proofs.Ytkhebjkplmidnaa
namespace Go.Proofs.Ytkhebjkplmidnaa
open Go Go.VC
noncomputable def law15_left (a0 : List Task) (a1 : List Job) : Option Int :=
  lp (fun nx1 (v1 : Int × Int) => fk (decide (v1.2 < (a1.length : Int))) (ix a1 v1.2 fun x2 => jn (fun (w3 : Int) => ix a1 v1.2 fun x8 => nx1 ((wr ((wr (v1.1 + w3)) - x8.Had)), (wr (v1.2 + (1 : Int))))) (fun k3 => ix a1 v1.2 fun x4 => ix a0 x4.Task fun x5 => fk (decide (x5.C < x2.Want)) (ix a1 v1.2 fun x6 => ix a0 x6.Task fun x7 => k3 x7.C) (k3 x2.Want))) (some v1.1)) FU ((0 : Int), (0 : Int))
theorem law15_left_w (a0 : List Task) (a1 : List Job) (r : Int) (h : law15_left a0 a1 = some r) : Go.VC.Spec Try.prog 43 [.d (.sl (a0.map Task.enc)), .d (.sl (a1.map Job.enc))] (fun y => y = E_Int r) := by
  refine Go.VC.Spec.of_xc (args := [.d (.sl (a0.map Task.enc)), .d (.sl (a1.map Job.enc))]) (fn := Try.f43) tab ⟨[(0, [0, 1]), (1, [0, 1, 5]), (2, [0, 1, 5, 6]), (3, [0, 1, 5, 6, 11]), (4, [0, 1, 5, 6]), (5, [0, 1, 5, 6, 7]), (6, [0, 1, 5, 6, 7, 29]), (7, [0, 1, 5, 6, 7]), (8, [0, 1, 5, 6]), (9, [4])], [], [8], []⟩ 49 [.tmp 4] rfl rfl rfl rfl rfl rfl ?_
  refine lpS (fun v1 => ⟨[(0, .l (.d (.sl (a0.map Task.enc)))), (1, .l (.d (.sl (a1.map Job.enc)))), (5, .l (.d (.int .i64 v1.1))), (6, .l (.d (.int .i64 v1.2)))], 49, [], [], []⟩) h (Weak.refl _) (fun _ nx1 hn1 v1 h => ?_)
  refine lenS a1 Job.enc rfl ?_
  refine fkS h (fun h => ?_) (fun h => ?_)
  · refine ixS (enc := Job.enc) h rfl (fun _ => rfl) (fun x2 h => ?_)
    refine jnS (fun w3 => ⟨[(0, .l (.d (.sl (a0.map Task.enc)))), (1, .l (.d (.sl (a1.map Job.enc)))), (5, .l (.d (.int .i64 v1.1))), (6, .l (.d (.int .i64 v1.2))), (7, .l (.d (.int .i64 w3)))], 49, [], [], []⟩) h (fun k3 hk3 h => ?_) (fun w3 h => ?_)
    · refine ixS (enc := Job.enc) h rfl (fun _ => rfl) (fun x4 h => ?_)
      refine ixS (enc := Task.enc) h rfl (fun _ => rfl) (fun x5 h => ?_)
      refine fkS h (fun h => ?_) (fun h => ?_)
      · refine ixS (enc := Job.enc) h rfl (fun _ => rfl) (fun x6 h => ?_)
        refine ixS (enc := Task.enc) h rfl (fun _ => rfl) (fun x7 h => ?_)
        exact jeS hk3 h (Weak.refl _)
      exact jeS hk3 h (Weak.trans (Weak.keepS _ [0, 1, 5, 6, 7]) (Weak.refl _))
    refine ixS (enc := Job.enc) h rfl (fun _ => rfl) (fun x8 h => ?_)
    exact leS hn1 h (Weak.refl _)
  exact rt (E := E_Int) h rfl

end Go.Proofs.Ytkhebjkplmidnaa
namespace Go.Proofs.Ytkhebjkplmidnaa
open Go Go.VC

theorem upd_apart {a b : Job} : apartJ (upd a) b ↔ apartJ a b := Iff.rfl
theorem upd_apart' {a b : Job} : apartJ a (upd b) ↔ apartJ a b := Iff.rfl
theorem upd_ahead {a b : Job} : aheadP (upd a) b ↔ aheadP a b := Iff.rfl
theorem upd_ahead' {a b : Job} : aheadP a (upd b) ↔ aheadP a b := Iff.rfl
/-- Where what is there behind a tick comes from. -/
theorem mem_tickN {l : List Task} {js : List Job} {n : Nat} {h : n < js.length} {j : Job} (hj : j ∈ tickN l js n h) : (∃ k, ∃ hk : k < js.length, k ≠ n ∧ j = js[k]) ∨ (overB l js[n] = false ∧ j = upd js[n]) := by
  unfold tickN at hj
  split at hj
  · rename_i ho
    obtain ⟨k, hk, rfl⟩ := List.getElem_of_mem hj
    rw [List.length_eraseIdx, if_pos h] at hk
    rw [List.getElem_eraseIdx]
    split
    · exact .inl ⟨k, by omega, by omega, rfl⟩
    · exact .inl ⟨k + 1, by omega, by omega, rfl⟩
  · rename_i ho
    obtain ⟨k, hk, rfl⟩ := List.getElem_of_mem hj
    rw [List.length_set] at hk
    rw [List.getElem_set]
    split
    · exact .inr ⟨by simpa using ho, rfl⟩
    · exact .inl ⟨k, hk, by omega, rfl⟩
theorem jobsP_tickN {l : List Task} {js : List Job} (hp : jobsP l js) (n : Nat) (h : n < js.length) : jobsP l (tickN l js n h) := by
  refine ⟨hp.1, ?_, fun j hj => ?_, ?_⟩
  · have := hp.2.1
    unfold tickN
    split
    · rw [List.length_eraseIdx, if_pos h]; omega
    · rw [List.length_set]; exact this
  · rcases mem_tickN hj with ⟨k, hk, _, rfl⟩ | ⟨ho, rfl⟩
    · exact hp.2.2.1 _ (List.getElem_mem hk)
    · have hov := over_iff hp (List.getElem_mem h)
      have hb := had_bound hp (List.getElem_mem h)
      obtain ⟨t0, t1, t2, t3, tb⟩ := hp.2.2.1 _ (List.getElem_mem h)
      have eC : taskC l js[n] = l[js[n].Task.toNat].C := by unfold taskC; rw [List.getElem?_eq_getElem t3]
      rw [ho] at hov
      simp only [Bool.false_eq, Bool.or_eq_false_iff, decide_eq_false_iff_not] at hov
      refine ⟨t0, t1, t2, t3, ?_⟩
      unfold bodyP at *
      exact ⟨tb.1, tb.2.1, tb.2.2.1, by simp only [upd]; omega, by simp only [upd]; omega, by simp only [upd]; rw [← eC]; omega, .inl rfl⟩
  · unfold tickN
    split
    · exact hp.2.2.2.sublist (List.eraseIdx_sublist _ _)
    · rw [List.pairwise_iff_getElem]
      intro i k hi hk hik
      rw [List.length_set] at hi hk
      have hpw := List.pairwise_iff_getElem.1 hp.2.2.2 i k hi hk hik
      rw [List.getElem_set, List.getElem_set]
      split <;> split
      · omega
      · rename_i e _; subst e; exact hpw
      · rename_i _ e; subst e; exact hpw
      · exact hpw
theorem jobsP_tick {l : List Task} {js : List Job} (hp : jobsP l js) : jobsP l (tick l js).1 := by
  rcases cho_nat hp with hc | ⟨n, hn, ec⟩
  · rw [tick, dif_neg (fun h => by omega)]; exact hp
  · rw [tick_eq hp hn ec]; exact jobsP_tickN hp n hn

/-! What jobs hold, of those that began. -/
def taskD (l : List Task) (j : Job) : Int := match l[j.Task.toNat]? with | some t => t.D | none => 0
theorem taskD_of {l : List Task} {j : Job} (h : j.Task.toNat < l.length) : taskD l j = l[j.Task.toNat].D := by unfold taskD; rw [List.getElem?_eq_getElem h]
def InvS (l : List Task) (js : List Job) : Prop := ∀ a ∈ js, ∀ b ∈ js, a.Began = true → b.Began = true → aheadP a b → passD l (heldJ l b) (taskD l a)
theorem passD_sub {l : List Task} {h h' : List Int} {D : Int} (hs : ∀ r ∈ h', r ∈ h) (hp : passD l h D) : passD l h' D := fun r hr => hp r (hs r hr)
theorem heldJ_sub {l : List Task} {js : List Job} {j : Job} (hj : j ∈ js) : ∀ r ∈ heldJ l j, r ∈ heldA l js := fun r hr => List.mem_flatMap.2 ⟨j, hj, hr⟩
theorem InvS_tickN {l : List Task} {js : List Job} (hp : jobsP l js) (hI : InvS l js) {n : Nat} (h : n < js.length) (ec : cho l js = (n : Int)) : InvS l (tickN l js n h) := by
  have key : (∀ j ∈ js, j.Began = true → ¬ aheadP j js[n]) ∧ ∀ j ∈ js, j.Began = true → aheadP js[n] j → passD l (heldJ l j) (taskD l js[n]) := by
    rcases cho_cases hp with ⟨_, h1⟩ | ⟨m, hm, h1, h2⟩
    · omega
    · have : m = n := by omega
      subst this
      rcases h2 with ⟨b1, b2, _⟩ | ⟨b1, b2, b3, hf, b4⟩
      · exact ⟨b2, fun j hj hb ha => hI _ (List.getElem_mem h) j hj b1 hb ha⟩
      · refine ⟨fun j hj hb => aheadP_asymm (b3 j hj hb), fun j hj hb ha => ?_⟩
        rw [taskD_of hf]
        exact passD_sub (heldJ_sub hj) b4
  intro a ha b hb hab hbb hh
  rcases mem_tickN ha with ⟨i, hi, _, rfl⟩ | ⟨_, rfl⟩ <;> rcases mem_tickN hb with ⟨k, hk, _, rfl⟩ | ⟨_, rfl⟩
  · exact hI _ (List.getElem_mem hi) _ (List.getElem_mem hk) hab hbb hh
  · exact absurd (upd_ahead'.1 hh) (key.1 _ (List.getElem_mem hi) hab)
  · exact key.2 _ (List.getElem_mem hk) hbb (upd_ahead.1 hh)
  · exact absurd (upd_ahead.1 (upd_ahead'.1 hh)) (aheadP_irr _)
theorem InvS_tick {l : List Task} {js : List Job} (hp : jobsP l js) (hI : InvS l js) : InvS l (tick l js).1 := by
  rcases cho_nat hp with hc | ⟨n, hn, ec⟩
  · rw [tick, dif_neg (fun h => by omega)]; exact hI
  · rw [tick_eq hp hn ec]; exact InvS_tickN hp hI hn ec
theorem InvS_add {l : List Task} {js : List Job} {j : Job} (hI : InvS l js) (hj : j.Began = false) : InvS l (js ++ [j]) := by
  intro a ha b hb hab hbb
  rcases List.mem_append.1 ha with ha | ha
  · rcases List.mem_append.1 hb with hb | hb
    · exact hI a ha b hb hab hbb
    · rw [List.mem_singleton.1 hb, hj] at hbb; cases hbb
  · rw [List.mem_singleton.1 ha, hj] at hab; cases hab
theorem held_began {l : List Task} {js : List Job} (hp : jobsP l js) {j : Job} (hj : j ∈ js) {r : Int} (hr : r ∈ heldJ l j) : j.Began = true ∧ ∃ h : j.Task.toNat < l.length, usesP l[j.Task.toNat] r := by
  obtain ⟨_, _, _, h4, hb⟩ := hp.2.2.1 j hj
  have hR := hp.1.1 _ (List.getElem_mem h4)
  rw [heldJ_of h4] at hr
  refine ⟨?_, h4, held_uses hR hr⟩
  rcases hb.2.2.2.2.2.2 with h5 | h5
  · exact h5
  · rw [held_out hR (.inl (by omega))] at hr; cases hr
theorem heldA_nodup {l : List Task} {js : List Job} (hp : jobsP l js) (hI : InvS l js) : (heldA l js).Nodup := by
  unfold heldA List.Nodup
  rw [List.pairwise_flatMap]
  refine ⟨fun j hj => ?_, ?_⟩
  · obtain ⟨_, _, _, h4, hb⟩ := hp.2.2.1 j hj
    rw [heldJ_of h4]
    exact held_nodup (hp.1.1 _ (List.getElem_mem h4)) _
  · refine (List.Pairwise.and_mem.1 hp.2.2.2).imp ?_
    rintro a b ⟨ha, hb, hab⟩ x hx y hy e
    subst e
    obtain ⟨a1, a2, a3⟩ := held_began hp ha hx
    obtain ⟨b1, b2, b3⟩ := held_began hp hb hy
    rcases apart_total hab with h | h
    · have := hI a ha b hb a1 b1 h x hy _ (List.getElem_mem a2) a3
      rw [taskD_of a2] at this; omega
    · have := hI b hb a ha b1 a1 h x hx _ (List.getElem_mem b2) b3
      rw [taskD_of b2] at this; omega

/-! Jobs that came to be. -/
def GrowP (l : List Task) (k : Nat) (js : List Job) : Prop := jobsP l js ∧ InvS l js ∧ ∀ j ∈ js, j.At < (k : Int)
theorem jobsP_nil {l : List Task} (ha : AllP l) : jobsP l [] := ⟨ha, Nat.zero_le _, fun j hj => (List.not_mem_nil hj).elim, List.Pairwise.nil⟩
theorem law15_Grow_ex (l : List Task) (cs : List Law15Come) (ha : AllP l) : ∃ js, law15_Grow l cs 60 = some js ∧ jobsP l js ∧ InvS l js := by
  unfold law15_Grow
  simp only [jn_eq]
  refine lp_upS_ex 60 (by unfold FU; omega) (fun k js => GrowP l k js) (fun js => jobsP l js ∧ InvS l js) [] ⟨jobsP_nil ha, fun a ha => (List.not_mem_nil ha).elim, fun j hj => (List.not_mem_nil hj).elim⟩ ?_
  rintro nx k js hk ⟨J1, J2, J3⟩ hnx
  simp only
  have h32 := J1.2.1
  have hlen := ha.2
  by_cases h : k < cs.length
  rotate_left
  · rw [decide_eq_false (show ¬ (k : Int) < (cs.length : Int) by omega), fk_f, fk_f]
    exact ⟨_, rfl, J1, J2⟩
  rw [decide_eq_true (show (k : Int) < (cs.length : Int) by omega), fk_t]
  by_cases h60 : k < 60
  rotate_left
  · rw [decide_eq_false (by omega), fk_f]
    exact ⟨_, rfl, J1, J2⟩
  rw [decide_eq_true (by omega), fk_t, ix_lt h]
  have go : ∀ js', GrowP l (k + 1) js' → ∃ r, (bnd (srp_Tick l js') fun x7 => nx (x7.1, (wr ((k : Int) + (1 : Int))))) = some r ∧ jobsP l r ∧ InvS l r := by
    rintro js' ⟨G1, G2, G3⟩
    rw [bnd_eq (srp_Tick_eq l js' ha.len), wr_in _ (by omega)]
    refine hnx _ (by omega) ⟨jobsP_tick G1, InvS_tick G1 G2, ?_⟩
    rcases cho_nat G1 with hc | ⟨n, hn, ec⟩
    · rw [tick, dif_neg (fun h => by omega)]; exact G3
    · rw [tick_eq G1 hn ec]
      intro j hj
      rcases mem_tickN hj with ⟨i, hi, _, rfl⟩ | ⟨_, rfl⟩
      · exact G3 _ (List.getElem_mem hi)
      · exact G3 js'[n] (List.getElem_mem hn)
  have same : GrowP l (k + 1) js := ⟨J1, J2, fun j hj => by have := J3 j hj; omega⟩
  generalize cs[k] = c
  by_cases c0 : c.Some = true
  rotate_left
  · rw [Bool.eq_false_iff.2 c0, fk_f, fk_f]; exact go _ same
  rw [c0, fk_t]
  by_cases c1 : c.Task ≥ 0
  rotate_left
  · rw [decide_eq_false c1, fk_f, fk_f]; exact go _ same
  rw [decide_eq_true c1, fk_t]
  by_cases c2 : c.Task < (l.length : Int)
  rotate_left
  · rw [decide_eq_false c2, fk_f, fk_f]; exact go _ same
  rw [decide_eq_true c2, fk_t]
  by_cases c3 : c.Want ≥ 1
  rotate_left
  · rw [decide_eq_false c3, fk_f, fk_f]; exact go _ same
  rw [decide_eq_true c3, fk_t]
  by_cases c4 : c.Want ≤ 200
  rotate_left
  · rw [decide_eq_false c4, fk_f, fk_f]; exact go _ same
  rw [decide_eq_true c4, fk_t]
  by_cases c5 : (js.length : Int) < 32
  rotate_left
  · rw [decide_eq_false c5, fk_f]; exact go _ same
  have ht : c.Task.toNat < l.length := by omega
  have hR := (ha.1 _ (List.getElem_mem ht)).1
  unfold ownP at hR
  rw [decide_eq_true c5, fk_t, ck_t (by simp; omega), ix_int c1 ht, ck_t (by simp; omega), wr_in _ (by omega), List.nil_append]
  refine go _ ⟨⟨ha, by simp; omega, fun j hj => ?_, ?_⟩, InvS_add J2 rfl, fun j hj => ?_⟩
  · rcases List.mem_append.1 hj with hj | hj
    · exact J1.2.2.1 j hj
    · rw [List.mem_singleton.1 hj]
      exact ⟨c1, by simp only; omega, by simp only; omega, ht, rfl, c3, c4, Int.le_refl _, by simp only; omega, by simp only; omega, .inr rfl⟩
  · rw [List.pairwise_append]
    refine ⟨J1.2.2.2, List.pairwise_singleton _ _, fun a haa b hb => ?_⟩
    rw [List.mem_singleton.1 hb]
    have := J3 a haa
    exact fun h => by have := h.2; simp only at this; omega
  · rcases List.mem_append.1 hj with hj | hj
    · have := J3 j hj; omega
    · rw [List.mem_singleton.1 hj]; simp only; omega
end Go.Proofs.Ytkhebjkplmidnaa
namespace Go.Proofs.Ytkhebjkplmidnaa
open Go Go.VC
theorem proofSrpStacks : PureSrpStacks := by
  intro l cs hl hcs
  have hll : l.length ≤ 4611686018427387904 := wf_len hl.1 (Nat.le_refl _)
  have hsl : ∀ t ∈ l, t.Secs.length ≤ 4611686018427387904 := fun t ht => (hl.2 t ht).len
  unfold law15_SrpStacks
  simp only [jn_eq, law15_knows_eq, bnd_some]
  rw [bnd_eq (law14_Great_eq l [] hll)]
  by_cases hg : greatJ l []
  · rw [decide_eq_true hg, fk_t, fk_t]
  rw [decide_eq_false hg, fk_f, bnd_eq (ref05_All_eq l hll hsl)]
  by_cases ha : AllP l
  rotate_left
  · rw [decide_eq_false ha, Bool.not_false, fk_t]
  rw [decide_eq_true ha, Bool.not_true, fk_f]
  obtain ⟨js, he, hp, hI⟩ := law15_Grow_ex l cs ha
  have h32 := hp.2.1
  rw [bnd_eq he, bnd_eq (srp_Choose_eq l js hll), if_pos hp]
  rcases cho_cases hp with ⟨rfl, hc⟩ | ⟨n, hn, hc, hcs⟩
  · rw [decide_eq_true (show (([] : List Job).length : Int) = 0 from rfl), fk_t, fk_t, fk_t, hc, decide_eq_true rfl, fk_t]
  rw [decide_eq_false (show ¬ (js.length : Int) = 0 by omega), fk_f, hc, decide_eq_false (show ¬ (n : Int) < 0 by omega), fk_f, decide_eq_false (show ¬ (n : Int) ≥ (js.length : Int) by omega), fk_f]
  have hah : ∀ k (hk : k < js.length), k ≠ n → js[k].Began = true → aheadP js[n] js[k] := by
    intro k hk hkn hb
    have hap : apartJ js[n] js[k] := by
      have hpw := List.pairwise_iff_getElem.1 hp.2.2.2
      rcases Nat.lt_or_gt_of_ne hkn with h | h
      · exact apart_symm (hpw k n hk hn h)
      · exact hpw n k hn hk h
    rcases hcs with ⟨_, b2, _⟩ | ⟨_, _, b3, _⟩
    · rcases apart_total hap with h | h
      · exact h
      · exact absurd h (b2 _ (List.getElem_mem hk) hb)
    · exact b3 _ (List.getElem_mem hk) hb
  refine lp_up js.length (by unfold FU; omega) (fun _ => True) trivial ?_
  intro nx k hk _ hnx
  rw [lt_nat]
  by_cases h : k < js.length
  rotate_left
  · rw [decide_eq_false h, fk_f]
  rw [decide_eq_true h, fk_t, wr_succ k _ h (by omega)]
  by_cases c : (k : Int) = (n : Int)
  · rw [decide_eq_true c, Bool.not_true, fk_f, fk_f]; exact hnx h trivial
  rw [decide_eq_false c, Bool.not_false, fk_t]
  simp only [ix_lt h, ix_lt hn]
  by_cases c2 : js[k].Began = true
  · rw [c2, fk_t, job_Ahead_eq, bnd_some, decide_eq_true (hah k h (by omega) c2), Bool.not_true, fk_f]; exact hnx h trivial
  · rw [Bool.eq_false_iff.2 c2, fk_f, fk_f]; exact hnx h trivial
end Go.Proofs.Ytkhebjkplmidnaa
namespace Go.Proofs.Ytkhebjkplmidnaa.srpStacks
open Go Go.VC Go.ChangeShapes Go.WideShapes Go.ChangeAt Go.RowKit
theorem own : ownKnob Try.prog.godebug = none := by kernel_rfl
theorem laidOut : laidOutB Try.prog = true := by kernel_rfl
theorem lifted (os : Os) (started : os.Started) (H : Type) (enc : TypeId × Value → H) :
    ReturnsInHanded {} Try.checked os 13 .any (Rows.srpStacksSpec.pre6 enc Try.prog Try.f13 Rows.srpStacksRow.domain false) (Rows.srpStacksSpec.post enc Try.prog Try.f13 false true false false) := by
  refine returnsInHanded_of_change_sized (C := Try.checked) own started (by kernel_rfl) Try.func13
    (ChangeSpec.witness6 (enc := enc) (C := Try.checked) false ⟨#[], #[.slice none 0 0, .slice none 0 0], []⟩ 8 (by kernel_rfl) (by kernel_rfl) (by kernel_rfl) (by kernel_rfl)) ?_
  intro W base args ds gs before hval0 hW hcnd hsz0 _
  have hsz : (DataW.weightsEach Try.prog (Try.f13.params.toList ++ Rows.srpStacksSpec.plain.varTypes Try.prog) (ds ++ gs)).all (· ≤ reachBytes) = true := hsz0
  have hval : ∀ (j : Nat) t v, Try.f13.params[j]? = some t → args[j]? = some v → Value.okWide Try.prog W .any base t v := hval0
  have hW' := hW
  obtain ⟨p, q, hA0, hV, rfl, hfz, hnd⟩ := hW
  have hA : DataW.TrodAll enc Try.prog W 0 (fun _ => true) true Try.f13.params.toList args.toList ds p := hA0
  rw [Try.params13] at hA hval hsz
  obtain ⟨v0, vs0, d0, ds0, p0, q0, hargs, rfl, rfl, h0, r0⟩ := trodAll_cons hA
  obtain ⟨v1, vs1, d1, ds1, p1, q1, rfl, rfl, rfl, h1, r1⟩ := trodAll_cons r0
  obtain ⟨rfl, rfl, rfl⟩ := trodAll_nil r1
  obtain rfl : args = #[v0, v1] := by cases args; simp_all
  obtain ⟨rfl, rfl⟩ := trodVars_none hV
  have lt0 : ∀ x ∈ p0, x.block < W.heap.size := by obtain ⟨m, hm⟩ := h0; exact DataW.trod_lt m _ _ _ hm
  have wt0 : ∀ k ∈ d0.weights Try.prog 22, k ≤ BB := fun k hk => of_decide_eq_true (List.all_eq_true.1 hsz _ (DataW.weights_mem_each (j := 0) rfl rfl k hk))
  obtain ⟨c0, s0, g0⟩ := open_cv tab (m := 8) (t := 22) rfl (hval 0 22 v0 rfl rfl) h0 wt0
  have g0 := g0 _ T22
  obtain ⟨a0, rfl, w0⟩ := (s0.l (f := Task.enc) (W := (fun x => Task.wf x)) T22 T65 (fun _ _ h => (Task.of h)))
  have lt1 : ∀ x ∈ p1, x.block < W.heap.size := by obtain ⟨m, hm⟩ := h1; exact DataW.trod_lt m _ _ _ hm
  have wt1 : ∀ k ∈ d1.weights Try.prog 60, k ≤ BB := fun k hk => of_decide_eq_true (List.all_eq_true.1 hsz _ (DataW.weights_mem_each (j := 1) rfl rfl k hk))
  obtain ⟨c1, s1, g1⟩ := open_cv tab (m := 8) (t := 60) rfl (hval 1 60 v1 rfl rfl) h1 wt1
  have g1 := g1 _ T60
  obtain ⟨a1, rfl, w1⟩ := (s1.l (f := Law15Come.enc) (W := (fun x => Law15Come.wf x)) T60 T82 (fun _ _ h => (Law15Come.of h)))
  clear hA0 hval0 hsz0 hsz
  have pure := proofSrpStacks a0 a1 w0 w1
  refine ((law15_SrpStacks_w a0 a1 true pure).2 W (pw W) [v0, v1] (fun _ h => h) (All2.cons g0 (All2.cons g1 All2.nil))).mono fun e W' ⟨v, rs, p', he, hR, hrep, bel, _⟩ => ?_
  subst hR he
  obtain rfl := RepD_bool hrep
  exact ⟨_, rfl, _, _, _, [], _, [], hW', trodAll_mk1 (shut_bool Try.underlying4 _), (trodAll_cons_mk (Below.trod laidOut (by kernel_rfl) (of_decide_eq_true (by kernel_rfl)) h0 bel lt0) (trodAll_cons_mk (Below.trod laidOut (by kernel_rfl) (of_decide_eq_true (by kernel_rfl)) h1 bel lt1) trodAll_mk0)), rfl, bel.frame _, fun h => by cases h⟩
theorem over : Rows.srpStacksRow.holds Try.pinned (OpenSpec.ofChange Rows.srpStacksSpec) :=
  OpenClaim.holds_of_wide 13 Try.f13 rfl rfl rfl rfl rfl rfl rfl ⟨rfl, rfl, rfl, rfl, rfl⟩ rfl rfl rfl rfl rfl (by kernel_rfl) Try.func13 (by kernel_rfl)
    (of_decide_eq_true (by kernel_rfl)) (by unfold Func.isWrapper; first | (rw [if_pos (by decide +kernel)]; kernel_rfl) | (rw [if_neg (by decide +kernel)]; exact ⟨rfl, rfl⟩))
    (fun os started H enc _ => lifted os started H enc)
end Go.Proofs.Ytkhebjkplmidnaa.srpStacks
namespace Go.Proofs.Ytkhebjkplmidnaa
theorem srpStacks_holds : Rows.SrpStacksSaid := srpStacks.over
end Go.Proofs.Ytkhebjkplmidnaa
