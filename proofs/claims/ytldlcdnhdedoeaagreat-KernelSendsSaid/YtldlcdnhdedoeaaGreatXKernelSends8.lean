/- Part 19 of what follows is proved here: what the statement KernelSends needs of functions and plain laws. -/
import Derived.Test.YtldlcdnhdedoeaaGreatXKernelSends0
import Derived.Test.YtldlcdnhdedoeaaGreatXKernelSends6
import Derived.Test.YtldlcdnhdedoeaaGreatXKernelSends7
set_option linter.unusedVariables false
set_option linter.unusedSimpArgs false
set_option maxRecDepth 100000
set_option maxHeartbeats 4000000
namespace Go.Proofs.YtldlcdnhdedoeaaGreat
open Go Go.VC
/-! A partition's state. -/
def toR (s : PartState) : Ref17State := ⟨s.Tasks, s.Leaves, s.Lasts, s.Jobs, s.Log⟩
theorem law17_As_eq (s : PartState) : law17_As s = some (toR s) := rfl
def stP (s : PartState) : Prop := s.Leaves.length = s.Tasks.length ∧ lastsP s.Tasks s.Lasts ∧ jobsP s.Tasks s.Jobs ∧ s.Log.length ≤ 2000
noncomputable instance (s : PartState) : Decidable (stP s) := Classical.propDecidable _
structure StB (s : PartState) : Prop where
  t : s.Tasks.length ≤ 4611686018427387904
  u : ∀ t ∈ s.Tasks, t.Secs.length ≤ 4611686018427387904
  a : s.Lasts.length ≤ 4611686018427387904
theorem part_Right_eq (s : PartState) (hb : StB s) : part_Right s = some (decide (stP s)) := by
  unfold part_Right
  by_cases h1 : s.Leaves.length = s.Tasks.length
  rotate_left
  · rw [decide_eq_false (by omega), fk_f]; exact dec_f fun h => h1 h.1
  rw [decide_eq_true (by omega), fk_t, bnd_eq (police_Right_eq _ _ hb.t hb.a)]
  by_cases h2 : lastsP s.Tasks s.Lasts
  rotate_left
  · rw [decide_eq_false h2, fk_f]; exact dec_f fun h => h2 h.2.1
  rw [decide_eq_true h2, fk_t, bnd_eq (job_All_eq _ _ hb.t)]
  by_cases h3 : jobsP s.Tasks s.Jobs
  rotate_left
  · rw [decide_eq_false h3, fk_f]; exact dec_f fun h => h3 h.2.2.1
  rw [decide_eq_true h3, fk_t]
  exact dec_iff ⟨fun h => ⟨h1, h2, h3, by omega⟩, fun h => by have := h.2.2.2; omega⟩
/-! The log. -/
def nt (lg : List Entry) (e : Entry) : List Entry := if lg.length < 2000 then lg ++ [e] else lg
theorem nt_len {lg : List Entry} {e : Entry} (h : lg.length ≤ 2000) : (nt lg e).length ≤ 2000 := by
  unfold nt; split
  · rw [List.length_append]; simp; omega
  · exact h
theorem nt_fk {R : Type} (lg : List Entry) (e : Entry) (K : List Entry → Option R) : fk (decide ((lg.length : Int) < 2000)) (ck (decide ((lg.length + ([e] : List Entry).length) * 24 ≤ 140737488355328)) (K (lg ++ [e]))) (K lg) = K (nt lg e) := by
  unfold nt
  by_cases h : lg.length < 2000
  · rw [decide_eq_true (by omega), fk_t, if_pos h, ck_t (by simp; omega)]
  · rw [decide_eq_false (by omega), fk_f, if_neg h]
def whenP (t : Int) : Prop := 0 ≤ t ∧ t ≤ 4611686018427387703
instance (t : Int) : Decidable (whenP t) := by unfold whenP; infer_instance
theorem part_when_eq (t : Int) : part_when t = some (decide (whenP t)) := by
  unfold part_when
  by_cases h : 0 ≤ t
  · rw [decide_eq_true (by omega), fk_t]; exact dec_iff ⟨fun k => ⟨h, k⟩, fun k => k.2⟩
  · rw [decide_eq_false (by omega), fk_f]; exact dec_f fun k => h k.1
/-! The same. -/
theorem sameAll_eq (l : List Task) (hl : l.length ≤ 4611686018427387904) (hs : ∀ t ∈ l, t.Secs.length ≤ 4611686018427387904) : ref05_SameAll l l = some true := by
  unfold ref05_SameAll
  rw [decide_eq_true rfl, Bool.not_true, fk_f]
  refine lp_up l.length (by unfold FU; omega) (fun _ => True) trivial ?_
  intro nx k hk _ hnx
  rw [lt_nat]
  by_cases h : k < l.length
  · rw [decide_eq_true h, fk_t, ix_lt h, ix_lt h, bnd_eq (ref05_Same_eq _ _ (hs _ (List.getElem_mem h))), decide_eq_true rfl, Bool.not_true, fk_f, wr_succ k _ h (by omega)]
    exact hnx h trivial
  · rw [decide_eq_false h, fk_f]
theorem eqI_ent (x y : Entry) : eqI [.i .i64 x.At, .i .i64 x.Kind, .i .i64 x.Task] [.i .i64 y.At, .i .i64 y.Kind, .i .i64 y.Task] = decide (x = y) := by
  cases x; cases y
  simp [eqI]
theorem sameLog_eq (l : List Entry) (hl : l.length ≤ 4611686018427387904) : ref17_SameLog l l = some true := by
  unfold ref17_SameLog
  rw [decide_eq_true rfl, Bool.not_true, fk_f]
  refine lp_up l.length (by unfold FU; omega) (fun _ => True) trivial ?_
  intro nx k hk _ hnx
  rw [lt_nat]
  by_cases h : k < l.length
  · rw [decide_eq_true h, fk_t, ix_lt h, ix_lt h, eqI_ent, decide_eq_true rfl, Bool.not_true, fk_f, wr_succ k _ h (by omega)]
    exact hnx h trivial
  · rw [decide_eq_false h, fk_f]
structure SameB (s : Ref17State) : Prop where
  t : s.Tasks.length ≤ 4611686018427387904
  u : ∀ t ∈ s.Tasks, t.Secs.length ≤ 4611686018427387904
  l : s.Leaves.length ≤ 4611686018427387904
  a : s.Lasts.length ≤ 1000
  j : s.Jobs.length ≤ 4611686018427387904
  g : s.Log.length ≤ 4611686018427387904
theorem ref17_Same_eq (s : Ref17State) (h : SameB s) : ref17_Same s s = some true := by
  unfold ref17_Same
  rw [decide_eq_true rfl, Bool.not_true, fk_f]
  refine lp_up s.Leaves.length (by have := h.l; unfold FU; omega) (fun _ => True) trivial ?_
  intro nx k hk _ hnx
  rw [lt_nat]
  by_cases hk' : k < s.Leaves.length
  · rw [decide_eq_true hk', fk_t, ix_lt hk', ix_lt hk', decide_eq_true rfl, Bool.not_true, fk_f, wr_succ k _ hk' h.l]
    exact hnx hk' trivial
  · rw [decide_eq_false hk', fk_f, bnd_eq (sameAll_eq _ h.t h.u), fk_t, bnd_eq (sameInts_eq _ h.a), fk_t, bnd_eq (ref14_Same_eq _ _ h.j), decide_eq_true rfl, fk_t, bnd_eq (sameLog_eq _ h.g)]
/-! Too great. -/
def greatS (s : PartState) : Prop := GreatP s.Tasks ∨ 50 < s.Leaves.length ∨ 50 < s.Lasts.length ∨ 50 < s.Jobs.length ∨ 2010 < s.Log.length
noncomputable instance (s : PartState) : Decidable (greatS s) := Classical.propDecidable _
theorem SameB.of {s : PartState} (hb : StB s) (hg : ¬ greatS s) : SameB (toR s) := by
  unfold greatS at hg
  refine ⟨hb.t, hb.u, ?_, ?_, ?_, ?_⟩ <;> simp only [toR] <;> omega
theorem AllP_len {l : List Task} (h : AllP l) : l.length ≤ 8 := h.2
theorem SameB.of_st {s : PartState} (hb : StB s) (hs : stP s) : SameB (toR s) := by
  have h1 := hs.1; have h2 := hs.2.1.2.1; have h3 := hs.2.2.1.2.1; have h4 := hs.2.2.2; have h5 := AllP_len hs.2.1.1
  refine ⟨hb.t, hb.u, ?_, ?_, ?_, ?_⟩ <;> simp only [toR] <;> omega

/-! A release. -/
def relArg (s : PartState) (i w t : Int) : Prop := stP s ∧ 0 ≤ i ∧ i < (s.Tasks.length : Int) ∧ 1 ≤ w ∧ w ≤ 200 ∧ whenP t
noncomputable instance (s : PartState) (i w t : Int) : Decidable (relArg s i w t) := Classical.propDecidable _
def tD (l : List Task) (i : Int) : Int := match l[i.toNat]? with | some t => t.D | none => 0
def newJob (l : List Task) (i w t : Int) : Job := ⟨i, t, t + tD l i, w, 0, false⟩
noncomputable def relV (s : PartState) (i w t : Int) : PartState × Int :=
  if relArg s i w t then
    if (s.Leaves[i.toNat]?).getD false = true then (s, 9)
    else if mayV s.Tasks s.Lasts i t = 0 then
      if s.Jobs.length < 32 then (⟨s.Tasks, s.Leaves, s.Lasts.set i.toNat t, s.Jobs ++ [newJob s.Tasks i w t], nt s.Log ⟨t, 1, i⟩⟩, 0)
      else (⟨s.Tasks, s.Leaves, s.Lasts, s.Jobs, nt s.Log ⟨t, 3, i⟩⟩, 3)
    else (⟨s.Tasks, s.Leaves, s.Lasts, s.Jobs, nt s.Log ⟨t, 2, i⟩⟩, 6)
  else (s, 1)
theorem relArg_arg {s : PartState} {i w t : Int} (h : relArg s i w t) : argP s.Tasks s.Lasts i t := ⟨h.1.2.1, h.2.1, h.2.2.1, h.2.2.2.2.2.1, h.2.2.2.2.2.2⟩
theorem mayV_06 {l : List Task} {ls : List Int} {i t : Int} (h : argP l ls i t) : mayV l ls i t = 0 ∨ mayV l ls i t = 6 := by
  unfold mayV; rw [if_pos h]; split
  · exact .inr rfl
  · exact .inl rfl
theorem tD_lt {l : List Task} {i : Int} (h : i.toNat < l.length) : tD l i = l[i.toNat].D := by unfold tD; rw [List.getElem?_eq_getElem h]
theorem tD_b {l : List Task} (ha : AllP l) {i : Int} (h : i.toNat < l.length) : 1 ≤ tD l i ∧ tD l i ≤ 200 := by
  rw [tD_lt h]
  have := (ha.1 _ (List.getElem_mem h)).1
  unfold ownP at this
  omega
theorem part_Release_eq (s : PartState) (i w t : Int) (hb : StB s) : part_Release s i w t = some (relV s i w t) := by
  unfold part_Release
  simp only [jn_eq]
  rw [bnd_eq (part_Right_eq s hb)]
  by_cases h1 : stP s
  rotate_left
  · rw [decide_eq_false h1, Bool.not_false, fk_t, fk_t, relV, if_neg (fun h => h1 h.1)]
  rw [decide_eq_true h1, Bool.not_true, fk_f]
  by_cases h2 : 0 ≤ i
  rotate_left
  · rw [decide_eq_true (by omega), fk_t, fk_t, relV, if_neg (fun h => h2 h.2.1)]
  rw [decide_eq_false (by omega), fk_f]
  by_cases h3 : i < (s.Tasks.length : Int)
  rotate_left
  · rw [decide_eq_true (by omega), fk_t, fk_t, relV, if_neg (fun h => h3 h.2.2.1)]
  rw [decide_eq_false (by omega), fk_f]
  by_cases h4 : 1 ≤ w
  rotate_left
  · rw [decide_eq_true (by omega), fk_t, fk_t, relV, if_neg (fun h => h4 h.2.2.2.1)]
  rw [decide_eq_false (by omega), fk_f]
  by_cases h5 : w ≤ 200
  rotate_left
  · rw [decide_eq_true (by omega), fk_t, fk_t, relV, if_neg (fun h => h5 h.2.2.2.2.1)]
  rw [decide_eq_false (by omega), fk_f, bnd_eq (part_when_eq t)]
  by_cases h6 : whenP t
  rotate_left
  · rw [decide_eq_false h6, Bool.not_false, fk_t, relV, if_neg (fun h => h6 h.2.2.2.2.2)]
  have hA : relArg s i w t := ⟨h1, h2, h3, h4, h5, h6⟩
  have hLl := h1.1
  have hLs := h1.2.1.2.1
  have hT8 := AllP_len h1.2.1.1
  have hi : i.toNat < s.Tasks.length := by omega
  have hiL : i.toNat < s.Leaves.length := by omega
  have hiA : i.toNat < s.Lasts.length := by omega
  have hJ := h1.2.2.1.2.1
  have hG := h1.2.2.2
  rw [decide_eq_true h6, Bool.not_true, fk_f, ix_int h2 hiL]
  have eL : (s.Leaves[i.toNat]?).getD false = s.Leaves[i.toNat] := by rw [List.getElem?_eq_getElem hiL]; rfl
  by_cases h7 : s.Leaves[i.toNat] = true
  · rw [h7, fk_t, relV, if_pos hA, eL, if_pos h7]
  rw [Bool.eq_false_iff.2 h7, fk_f, ck_t (by simp; omega), bnd_eq (police_Note_eq _ _ _ _ hb.t (by omega)), relV, if_pos hA, eL, if_neg h7, List.nil_append]
  dsimp only
  by_cases h8 : mayV s.Tasks s.Lasts i t = 0
  rotate_left
  · have h86 : mayV s.Tasks s.Lasts i t = 6 := (mayV_06 (relArg_arg hA)).resolve_left h8
    rw [decide_eq_false h8, Bool.not_false, fk_t, if_neg h8, h86]
    exact nt_fk s.Log ⟨t, 2, i⟩ (fun lg => some ((⟨s.Tasks, s.Leaves, s.Lasts, s.Jobs, lg⟩ : PartState), (6 : Int)))
  rw [decide_eq_true h8, Bool.not_true, fk_f, if_pos h8]
  by_cases h9 : s.Jobs.length < 32
  rotate_left
  · rw [decide_eq_true (by omega), fk_t, if_neg h9]
    exact nt_fk s.Log ⟨t, 3, i⟩ (fun lg => some ((⟨s.Tasks, s.Leaves, s.Lasts, s.Jobs, lg⟩ : PartState), (3 : Int)))
  have hD := tD_b h1.2.1.1 hi
  have hw := h6
  unfold whenP at hw
  rw [decide_eq_false (by omega), fk_f, if_pos h9, ck_t (by simp; omega), List.nil_append, ix_int h2 hi, ck_t (by simp; omega), ← tD_lt hi, wr_in _ (by omega)]
  have eN : noteL s.Tasks s.Lasts i t = s.Lasts.set i.toNat t := by unfold noteL; rw [if_pos h8]
  rw [eN]
  exact nt_fk s.Log ⟨t, 1, i⟩ (fun lg => some ((⟨s.Tasks, s.Leaves, s.Lasts.set i.toNat t, s.Jobs ++ [newJob s.Tasks i w t], lg⟩ : PartState), (0 : Int)))
def atP (ls : List Int) (js : List Job) : Prop := ∀ j ∈ js, j.At ≤ lg ls j.Task
theorem lg_set {ls : List Int} {i t j : Int} (hi : 0 ≤ i) (hj : 0 ≤ j) (hjl : j.toNat < ls.length) : lg (ls.set i.toNat t) j = if i = j then t else lg ls j := by
  unfold lg
  by_cases c : i = j
  · subst c; rw [List.getElem?_set_self hjl, if_pos rfl]; rfl
  · rw [List.getElem?_set_ne (by omega), if_neg c]
theorem stP_rel {s : PartState} {i w t : Int} (h : stP s) (hat : atP s.Lasts s.Jobs) : stP (relV s i w t).1 ∧ atP (relV s i w t).1.Lasts (relV s i w t).1.Jobs := by
  unfold relV
  split
  rotate_left
  · exact ⟨h, hat⟩
  rename_i hA
  split
  · exact ⟨h, hat⟩
  split
  rotate_left
  · exact ⟨⟨h.1, h.2.1, h.2.2.1, nt_len h.2.2.2⟩, hat⟩
  rename_i h8
  split
  rotate_left
  · exact ⟨⟨h.1, h.2.1, h.2.2.1, nt_len h.2.2.2⟩, hat⟩
  rename_i h9
  have hn := lastsP_note h.2.1 i t
  have eN : noteL s.Tasks s.Lasts i t = s.Lasts.set i.toNat t := by unfold noteL; rw [if_pos h8]
  rw [eN] at hn
  have hls := h.2.1.2.1
  have hlt : ∀ j ∈ s.Jobs, j.Task = i → j.At < t := by
    intro j hj e
    have h1 := hat j hj
    have h2 := (h.2.2.1.2.2.1 j hj).2.1
    have hT := argP_b (relArg_arg hA)
    unfold mayV at h8
    rw [if_pos (relArg_arg hA)] at h8
    by_cases c : lg s.Lasts i ≠ -1 ∧ t < lg s.Lasts i + tT s.Tasks i
    · rw [if_pos c] at h8; omega
    rw [e] at h1
    omega
  have hAt : atP (s.Lasts.set i.toNat t) (s.Jobs ++ [newJob s.Tasks i w t]) := by
    intro j hj
    have h2 := hA.2.1
    have h3 := hA.2.2.1
    rcases List.mem_append.1 hj with hj | hj
    · obtain ⟨t0, _, _, t3, _⟩ := h.2.2.1.2.2.1 j hj
      rw [lg_set h2 t0 (by omega)]
      split
      · have := hlt j hj (by omega); omega
      · exact hat j hj
    · obtain rfl := List.mem_singleton.1 hj
      show t ≤ lg (s.Lasts.set i.toNat t) i
      rw [lg_set h2 h2 (by omega), if_pos rfl]; exact Int.le_refl _
  refine ⟨⟨h.1, hn, ?_, nt_len h.2.2.2⟩, hAt⟩
  obtain ⟨p1, p2, p3, p4⟩ := h.2.2.1
  have hi : i.toNat < s.Tasks.length := by have := hA.2.1; have := hA.2.2.1; omega
  have hC := (p1.1 _ (List.getElem_mem hi)).1
  unfold ownP at hC
  have hD := tD_b p1 hi
  have hw := hA.2.2.2.2.2
  unfold whenP at hw
  refine ⟨p1, by rw [List.length_append]; simp; omega, ?_, ?_⟩
  · intro j hj
    rcases List.mem_append.1 hj with hj | hj
    · exact p3 j hj
    · obtain rfl := List.mem_singleton.1 hj
      refine ⟨hA.2.1, hw.1, hw.2, hi, ?_⟩
      unfold newJob bodyP
      rw [tD_lt hi]
      have hw1 := hA.2.2.2.1
      have hw2 := hA.2.2.2.2.1
      refine ⟨rfl, hw1, hw2, Int.le_refl _, by show (0 : Int) < w; omega, ?_, .inr rfl⟩
      show (0 : Int) < s.Tasks[i.toNat].C
      omega
  · refine List.pairwise_append.2 ⟨p4, List.pairwise_singleton _ _, fun a ha b hb => ?_⟩
    obtain rfl := List.mem_singleton.1 hb
    intro ⟨e1, e2⟩
    have := hlt a ha e1
    have e3 : a.At = t := e2
    omega

/-! A tick. -/
def missJ (t : Int) (js : List Job) : List Job := js.filter (fun j => decide (t < j.Due))
def missG (t : Int) : List Job → List Entry → List Entry
  | [], lg => lg
  | j :: r, lg => missG t r (if t < j.Due then lg else nt lg ⟨t, 6, j.Task⟩)
theorem missG_snoc (t : Int) (j : Job) : ∀ (l : List Job) (lg : List Entry), missG t (l ++ [j]) lg = if t < j.Due then missG t l lg else nt (missG t l lg) ⟨t, 6, j.Task⟩
  | [], lg => by simp only [List.nil_append, missG]
  | a :: r, lg => by simp only [List.cons_append, missG]; exact missG_snoc t j r _
theorem missG_len (t : Int) : ∀ (l : List Job) {lg : List Entry}, lg.length ≤ 2000 → (missG t l lg).length ≤ 2000
  | [], lg, h => h
  | a :: r, lg, h => by
    unfold missG
    refine missG_len t r ?_
    split
    · exact h
    · exact nt_len h
theorem missJ_snoc (t : Int) (l : List Job) (j : Job) : missJ t (l ++ [j]) = if t < j.Due then missJ t l ++ [j] else missJ t l := by
  unfold missJ
  rw [List.filter_append]
  split
  · rename_i h; rw [List.filter_cons_of_pos (by simpa using h)]; rfl
  · rename_i h; rw [List.filter_cons_of_neg (by simpa using h)]; simp
theorem jobsP_sub {l : List Task} {js js' : List Job} (h : jobsP l js) (hs : js'.Sublist js) : jobsP l js' :=
  ⟨h.1, Nat.le_trans hs.length_le h.2.1, fun j hj => h.2.2.1 j (hs.subset hj), h.2.2.2.sublist hs⟩
theorem jobsP_miss {l : List Task} {js : List Job} (t : Int) (h : jobsP l js) : jobsP l (missJ t js) := jobsP_sub h (List.filter_sublist)
noncomputable def runV (l : List Task) (js : List Job) (lg : List Entry) (g : Bool) (t : Int) : List Job × List Entry × Int :=
  if g = true ∧ 0 < js.length then ((tick l js).1, (if (tick l js).2.2 = true then nt lg ⟨t, (if taskC l (tick l js).2.1 < (tick l js).2.1.Want then 5 else 4), (tick l js).2.1.Task⟩ else lg), (tick l js).2.1.Task) else (js, lg, -1)
def keepB {α : Type} : List Bool → List α → List α
  | b :: bs, x :: xs => if b = true then keepB bs xs else x :: keepB bs xs
  | _, _ => []
theorem keepB_drop {α : Type} {b : List Bool} {l : List α} {i : Nat} (hb : i < b.length) (hl : i < l.length) : keepB (b.drop i) (l.drop i) = if b[i] = true then keepB (b.drop (i + 1)) (l.drop (i + 1)) else l[i] :: keepB (b.drop (i + 1)) (l.drop (i + 1)) := by
  rw [List.drop_eq_getElem_cons hb, List.drop_eq_getElem_cons hl]; rfl
theorem keepB_nil {α : Type} (l : List α) : keepB [] l = [] := by cases l <;> rfl
theorem keepB_len {α : Type} : ∀ (b : List Bool) (l : List α), (keepB b l).length ≤ l.length
  | [], l => by rw [keepB_nil]; exact Nat.zero_le _
  | _ :: _, [] => Nat.le_refl _
  | b :: bs, x :: xs => by
    have := keepB_len bs xs
    simp only [keepB]
    split
    · simp only [List.length_cons]; omega
    · simp only [List.length_cons]; omega
theorem keepB_sub {α : Type} : ∀ (b : List Bool) (l : List α), (keepB b l).Sublist l
  | [], l => by rw [keepB_nil]; exact List.nil_sublist _
  | _ :: _, [] => List.Sublist.refl _
  | b :: bs, x :: xs => by
    have := keepB_sub bs xs
    simp only [keepB]
    split
    · exact this.cons _
    · exact this.cons_cons _
theorem keepB_len_eq {α β : Type} : ∀ (b : List Bool) (l : List α) (m : List β), l.length = m.length → (keepB b l).length = (keepB b m).length
  | [], l, m, _ => by rw [keepB_nil, keepB_nil]; rfl
  | _ :: _, [], [], _ => rfl
  | _ :: _, [], _ :: _, h => by simp at h
  | _ :: _, _ :: _, [], h => by simp at h
  | b :: bs, x :: xs, y :: ys, h => by
    have := keepB_len_eq bs xs ys (by simpa using h)
    simp only [keepB]
    split
    · exact this
    · simp only [List.length_cons]; omega
def leftG (b : List Bool) (t : Int) : Nat → List Entry → List Entry
  | 0, lg => lg
  | n + 1, lg => leftG b t n (if (b[n]?).getD false = true then nt lg ⟨t, 7, (n : Int)⟩ else lg)
theorem leftG_len (b : List Bool) (t : Int) : ∀ (n : Nat) {lg : List Entry}, lg.length ≤ 2000 → (leftG b t n lg).length ≤ 2000
  | 0, lg, h => h
  | n + 1, lg, h => by
    unfold leftG
    refine leftG_len b t n ?_
    split
    · exact nt_len h
    · exact h
noncomputable def tickR (s : PartState) (g : Bool) (t : Int) : List Job × List Entry × Int := runV s.Tasks (missJ t s.Jobs) (missG t s.Jobs s.Log) g t
noncomputable def tickV (s : PartState) (g : Bool) (t : Int) : PartState × Int :=
  if (tickR s g t).1.length = 0 then (⟨keepB s.Leaves s.Tasks, keepB s.Leaves s.Leaves, keepB s.Leaves s.Lasts, (tickR s g t).1, leftG s.Leaves t s.Tasks.length (tickR s g t).2.1⟩, (tickR s g t).2.2)
  else (⟨s.Tasks, s.Leaves, s.Lasts, (tickR s g t).1, (tickR s g t).2.1⟩, (tickR s g t).2.2)
theorem tick_over {l : List Task} {js : List Job} (h : (tick l js).2.2 = true) : 0 ≤ (tick l js).2.1.Task ∧ ∃ hl : (tick l js).2.1.Task.toNat < l.length, l[(tick l js).2.1.Task.toNat].C = taskC l (tick l js).2.1 := by
  unfold tick at h
  split at h
  rotate_left
  · cases h
  rename_i hh
  obtain ⟨t0, _, _, t3, _⟩ := hh.1.2.2.1 _ (List.getElem_mem hh.2.2)
  have e : (tick l js).2.1 = upd js[(cho l js).toNat] := by unfold tick; rw [dif_pos hh]
  rw [e]
  refine ⟨t0, t3, ?_⟩
  unfold taskC
  rw [List.getElem?_eq_getElem (show (upd js[(cho l js).toNat]).Task.toNat < l.length from t3)]
  rfl
/-- What leaves, index by index from the last one down. -/
theorem left_down {R : Type} {L : List Bool} {T : List Task} {A : List Int} {t : Int} {r : R} (h1 : L.length = T.length) (h2 : A.length = T.length) (h8 : T.length ≤ 8) (lg : List Entry)
    (K : List Task → List Bool → List Int → List Entry → Option R) (hK : K (keepB L T) (keepB L L) (keepB L A) (leftG L t T.length lg) = some r)
    {body : ((List Task) × (List Bool) × (List Int) × (List Entry) × Int → Option R) → (List Task) × (List Bool) × (List Int) × (List Entry) × Int → Option R}
    (h0 : ∀ nx T' L' A' g', body nx (T', L', A', g', -1) = K T' L' A' g')
    (hs : ∀ nx T' L' A' g' (m : Nat) (hm : m < L'.length), m < T'.length → m < A'.length → L'.length ≤ 8 → T'.length ≤ 8 → A'.length ≤ 8 → body nx (T', L', A', g', (m : Int)) = if L'[m] = true then nx (T'.take m ++ T'.drop (m + 1), L'.take m ++ L'.drop (m + 1), A'.take m ++ A'.drop (m + 1), nt g' ⟨t, 7, (m : Int)⟩, (m : Int) - 1) else nx (T', L', A', g', (m : Int) - 1)) :
    lp body FU (T, L, A, lg, (T.length : Int) - 1) = some r := by
  have cut : ∀ {α : Type} (X : List α) (m : Nat), X.length = T.length → m < T.length → ∀ (Y : List α), (X.take (m + 1) ++ Y).take m ++ (X.take (m + 1) ++ Y).drop (m + 1) = X.take m ++ Y := by
    intro α X m hX hm Y
    have e : (X.take (m + 1)).length = m + 1 := by rw [List.length_take]; omega
    rw [List.take_append_of_le_length (by omega), List.drop_left' e, List.take_take, Nat.min_eq_left (by omega)]
  have put : ∀ {α : Type} (X : List α) (m : Nat) (hX : m < X.length) (Y : List α), X.take (m + 1) ++ Y = X.take m ++ (X[m] :: Y) := by
    intro α X m hX Y
    rw [← List.take_append_getElem hX, List.append_assoc]; rfl
  refine lp_inv (fun v => (v.2.2.2.2 + 1).toNat) (fun v => ∃ (m : Nat) (g : List Entry), m ≤ T.length ∧ v = (T.take m ++ keepB (L.drop m) (T.drop m), L.take m ++ keepB (L.drop m) (L.drop m), A.take m ++ keepB (L.drop m) (A.drop m), g, (m : Int) - 1) ∧ leftG L t m g = leftG L t T.length lg) ?_ FU _ ⟨T.length, lg, Nat.le_refl _, ?_, rfl⟩ (by unfold FU; simp only; omega)
  rotate_left
  · rw [← h1, List.drop_length, keepB_nil, keepB_nil, keepB_nil, List.take_length, h1, List.take_length, ← h2, List.take_length, List.append_nil, List.append_nil, List.append_nil]
  rintro nx v ⟨m, g, hm, rfl, hg⟩ hnx
  cases m with
  | zero =>
    simp only [leftG] at hg
    show body nx (_, _, _, _, -1) = _
    rw [h0, List.take_zero, List.take_zero, List.take_zero, List.drop_zero, List.drop_zero, List.drop_zero, List.nil_append, List.nil_append, List.nil_append, hg]
    exact hK
  | succ m =>
    rw [show ((m + 1 : Nat) : Int) - 1 = (m : Int) by omega]
    have l1 := keepB_len (L.drop (m + 1)) (L.drop (m + 1))
    have l2 := keepB_len (L.drop (m + 1)) (T.drop (m + 1))
    have l3 := keepB_len (L.drop (m + 1)) (A.drop (m + 1))
    simp only [List.length_drop] at l1 l2 l3
    have mL : m < L.length := by omega
    have mA : m < A.length := by omega
    have hmL : m < (L.take (m + 1) ++ keepB (L.drop (m + 1)) (L.drop (m + 1))).length := by simp only [List.length_append, List.length_take]; omega
    rw [hs nx _ _ _ g m hmL (by simp only [List.length_append, List.length_take]; omega) (by simp only [List.length_append, List.length_take]; omega) (by simp only [List.length_append, List.length_take]; omega) (by simp only [List.length_append, List.length_take]; omega) (by simp only [List.length_append, List.length_take]; omega)]
    have eL : (L.take (m + 1) ++ keepB (L.drop (m + 1)) (L.drop (m + 1)))[m] = L[m] := by
      rw [List.getElem_append_left (by rw [List.length_take]; omega), List.getElem_take]
    have eo : (L[m]?).getD false = L[m] := by rw [List.getElem?_eq_getElem mL]; rfl
    rw [eL]
    have hg : leftG L t m (if (L[m]?).getD false = true then nt g ⟨t, 7, (m : Int)⟩ else g) = leftG L t T.length lg := hg
    rw [eo] at hg
    by_cases c : L[m] = true
    · rw [if_pos c, cut T m rfl (by omega), cut L m h1 (by omega), cut A m h2 (by omega)]
      rw [if_pos c] at hg
      refine hnx _ ⟨m, _, by omega, ?_, hg⟩ (by simp only; omega)
      rw [keepB_drop mL (show m < T.length by omega), keepB_drop mL mL, keepB_drop mL mA, if_pos c, if_pos c, if_pos c]
    · rw [if_neg c, put T m (by omega), put L m mL, put A m mA]
      rw [if_neg c] at hg
      refine hnx _ ⟨m, _, by omega, ?_, hg⟩ (by simp only; omega)
      rw [keepB_drop mL (show m < T.length by omega), keepB_drop mL mL, keepB_drop mL mA, if_neg c, if_neg c, if_neg c]
theorem without_eq1 (l : List Task) (m : Nat) (h : m < l.length) (h8 : l.length ≤ 8) : part_without_api_Task l (m : Int) = some (l.take m ++ l.drop (m + 1)) := by
  have e : ((m : Int) + 1).toNat = m + 1 := by omega
  unfold part_without_api_Task
  rw [wr_in _ (by omega), ck_t (by simp; omega), ck_t (by simp; omega), ck_t (by simp; omega), ck_t (by simp; omega)]
  simp [e]
theorem without_eq2 (l : List Bool) (m : Nat) (h : m < l.length) (h8 : l.length ≤ 8) : part_without_bool l (m : Int) = some (l.take m ++ l.drop (m + 1)) := by
  have e : ((m : Int) + 1).toNat = m + 1 := by omega
  unfold part_without_bool
  rw [wr_in _ (by omega), ck_t (by simp; omega), ck_t (by simp; omega), ck_t (by simp; omega), ck_t (by simp; omega)]
  simp [e]
theorem without_eq3 (l : List Int) (m : Nat) (h : m < l.length) (h8 : l.length ≤ 8) : part_without_int l (m : Int) = some (l.take m ++ l.drop (m + 1)) := by
  have e : ((m : Int) + 1).toNat = m + 1 := by omega
  unfold part_without_int
  rw [wr_in _ (by omega), ck_t (by simp; omega), ck_t (by simp; omega), ck_t (by simp; omega), ck_t (by simp; omega)]
  simp [e]
theorem jn_to {σ R : Type} {Y : σ → Option R} {X : (σ → Option R) → Option R} {r : Option R} (v : σ) (hX : ∀ k, X k = k v) (hY : Y v = r) : jn Y X = r := by
  rw [jn_eq, hX]; exact hY
theorem part_Tick_eq (s : PartState) (g : Bool) (t : Int) (hb : StB s) : part_Tick s g t = some (if stP s ∧ whenP t then ((tickV s g t).1, (tickV s g t).2, 0) else (s, -1, 1)) := by
  unfold part_Tick
  refine jn_to (!decide (stP s ∧ whenP t)) ?_ ?_
  · intro k
    rw [bnd_eq (part_Right_eq s hb)]
    by_cases h1 : stP s
    rotate_left
    · rw [decide_eq_false h1, Bool.not_false, fk_t, decide_eq_false (fun h => h1 h.1)]; rfl
    rw [decide_eq_true h1, Bool.not_true, fk_f, bnd_eq (part_when_eq t)]
    by_cases h2 : whenP t
    · rw [decide_eq_true h2, decide_eq_true ⟨h1, h2⟩]
    · rw [decide_eq_false h2, decide_eq_false (fun h => h2 h.2)]
  by_cases hh : stP s ∧ whenP t
  rotate_left
  · rw [decide_eq_false hh, Bool.not_false, fk_t, if_neg hh]
  obtain ⟨h1, h2⟩ := hh
  have hLl := h1.1
  have hLs := h1.2.1.2.1
  have hT8 := AllP_len h1.2.1.1
  have hJ := h1.2.2.1.2.1
  have hG := h1.2.2.2
  rw [decide_eq_true (⟨h1, h2⟩ : stP s ∧ whenP t), Bool.not_true, fk_f, if_pos ⟨h1, h2⟩, ck_t (by simp; omega), List.nil_append]
  refine lp_inv (fun v => s.Jobs.length - v.2.2.toNat) (fun v => ∃ k : Nat, v = (missJ t (s.Jobs.take k), missG t (s.Jobs.take k) s.Log, (k : Int)) ∧ k ≤ s.Jobs.length) ?_ FU _ ⟨0, rfl, Nat.zero_le _⟩ (by unfold FU; simp only; omega)
  rintro nx v ⟨k, rfl, hk⟩ hnx
  dsimp only
  have hgl := missG_len t (s.Jobs.take k) hG
  have hjl : (missJ t (s.Jobs.take k)).length ≤ 32 := by
    have h1 : (missJ t (s.Jobs.take k)).length ≤ (s.Jobs.take k).length := List.length_filter_le _ _
    rw [List.length_take] at h1; omega
  rw [lt_nat]
  by_cases hk' : k < s.Jobs.length
  · rw [decide_eq_true hk', fk_t, jn_eq, ix_lt hk', wr_succ k _ hk' (by omega)]
    have nxt := hnx (missJ t (s.Jobs.take (k + 1)), missG t (s.Jobs.take (k + 1)) s.Log, ((k + 1 : Nat) : Int)) ⟨k + 1, rfl, hk'⟩ (by simp only [Int.toNat_natCast]; omega)
    rw [← List.take_append_getElem hk', missJ_snoc, missG_snoc] at nxt
    by_cases c : t < s.Jobs[k].Due
    · rw [if_pos c, if_pos c] at nxt
      rw [decide_eq_true (show s.Jobs[k].Due > t from c), fk_t, ck_t (by simp; omega)]
      exact nxt
    · rw [if_neg c, if_neg c] at nxt
      rw [decide_eq_false (show ¬ s.Jobs[k].Due > t from c), fk_f]
      exact (nt_fk (missG t (s.Jobs.take k) s.Log) ⟨t, 6, s.Jobs[k].Task⟩ (fun lg => nx (missJ t (s.Jobs.take k), lg, ((k + 1 : Nat) : Int)))).trans nxt
  rw [decide_eq_false hk', fk_f, show k = s.Jobs.length by omega, List.take_length]
  have hpm := jobsP_miss t h1.2.2.1
  have hml : (missJ t s.Jobs).length ≤ 32 := hpm.2.1
  have hgl := missG_len t s.Jobs hG
  refine jn_to (tickR s g t) ?_ ?_
  · intro k7
    unfold tickR runV
    cases g with
    | false => rw [fk_f, if_neg (fun h => by cases h.1)]
    | true =>
      rw [fk_t, bnd_eq (srp_Tick_eq _ _ hb.t)]
      by_cases c0 : (missJ t s.Jobs).length = 0
      · rw [decide_eq_true (by omega), fk_t, if_neg (fun h => by omega)]
      rw [decide_eq_false (by omega), fk_f, if_pos ⟨rfl, by omega⟩]
      cases ov : (tick s.Tasks (missJ t s.Jobs)).2.2 with
      | false =>
        refine jn_to false (fun k => by rw [fk_f]) ?_
        rw [fk_f, fk_f, if_neg (by simp)]
      | true =>
        obtain ⟨t0, t3, eC⟩ := tick_over ov
        by_cases c5 : taskC s.Tasks (tick s.Tasks (missJ t s.Jobs)).2.1 < (tick s.Tasks (missJ t s.Jobs)).2.1.Want
        · refine jn_to true (fun k => ?_) ?_
          · rw [fk_t, ix_int t0 t3, eC, decide_eq_true (show _ > _ from c5)]
          rw [fk_t, if_pos rfl, if_pos c5]
          exact nt_fk _ ⟨t, 5, (tick s.Tasks (missJ t s.Jobs)).2.1.Task⟩ (fun lg => k7 ((tick s.Tasks (missJ t s.Jobs)).1, lg, (tick s.Tasks (missJ t s.Jobs)).2.1.Task))
        · refine jn_to false (fun k => ?_) ?_
          · rw [fk_t, ix_int t0 t3, eC, decide_eq_false (show ¬ _ > _ from c5)]
          rw [fk_f, fk_t, if_pos rfl, if_neg c5]
          exact nt_fk _ ⟨t, 4, (tick s.Tasks (missJ t s.Jobs)).2.1.Task⟩ (fun lg => k7 ((tick s.Tasks (missJ t s.Jobs)).1, lg, (tick s.Tasks (missJ t s.Jobs)).2.1.Task))
  rw [jn_eq]
  by_cases c0 : (tickR s g t).1.length = 0
  rotate_left
  · rw [decide_eq_false (by omega), fk_f]
    unfold tickV
    rw [if_neg c0]
  rw [decide_eq_true (by omega), fk_t, wr_in _ (by omega)]
  unfold tickV
  rw [if_pos c0]
  refine left_down (t := t) hLl hLs hT8 (tickR s g t).2.1 (fun T' L' A' g' => some ((⟨T', L', A', (tickR s g t).1, g'⟩ : PartState), (tickR s g t).2.2, (0 : Int))) rfl ?_ ?_
  · intro nx T' L' A' g'
    dsimp only
    rw [decide_eq_false (by omega), fk_f]
  · intro nx T' L' A' g' m hm hmT hmA h8L h8T h8A
    dsimp only
    rw [decide_eq_true (by omega), fk_t, jn_eq, ix_lt hm, wr_in _ (by omega)]
    by_cases c : L'[m] = true
    · rw [if_pos c, c, fk_t, bnd_eq (without_eq1 _ _ hmT h8T), bnd_eq (without_eq2 _ _ hm h8L), bnd_eq (without_eq3 _ _ hmA h8A)]
      exact nt_fk g' ⟨t, 7, (m : Int)⟩ (fun lg => nx (_, _, _, lg, (m : Int) - 1))
    · rw [if_neg c, Bool.eq_false_iff.2 c, fk_f]

/-! How long what comes out is. -/
theorem nt_le (lg : List Entry) (e : Entry) : (nt lg e).length ≤ lg.length + 1 := by
  unfold nt; split
  · rw [List.length_append]; exact Nat.le_refl _
  · omega
theorem SameB.rel {s : PartState} {i w t : Int} (hb : StB s) (hg : ¬ greatS s) : SameB (toR (relV s i w t).1) := by
  have h0 := SameB.of hb hg
  unfold greatS at hg
  unfold relV
  split
  rotate_left
  · exact h0
  split
  · exact h0
  split
  rotate_left
  · have := nt_le s.Log ⟨t, 2, i⟩
    exact ⟨h0.t, h0.u, h0.l, h0.a, h0.j, by show (nt s.Log ⟨t, 2, i⟩).length ≤ _; omega⟩
  split
  rotate_left
  · have := nt_le s.Log ⟨t, 3, i⟩
    exact ⟨h0.t, h0.u, h0.l, h0.a, h0.j, by show (nt s.Log ⟨t, 3, i⟩).length ≤ _; omega⟩
  have := nt_le s.Log ⟨t, 1, i⟩
  refine ⟨h0.t, h0.u, h0.l, ?_, ?_, by show (nt s.Log ⟨t, 1, i⟩).length ≤ _; omega⟩
  · show (s.Lasts.set i.toNat t).length ≤ _
    rw [List.length_set]; omega
  · show (s.Jobs ++ [newJob s.Tasks i w t]).length ≤ _
    rw [List.length_append]; simp; omega
theorem tick_sub {l : List Task} {js : List Job} : (tick l js).1.length ≤ js.length := by
  unfold tick
  split
  · rename_i h
    show (tickN l js (cho l js).toNat h.2.2).length ≤ _
    unfold tickN
    split
    · rw [List.length_eraseIdx]; split <;> omega
    · rw [List.length_set]; omega
  · exact Nat.le_refl _
theorem SameB.tick {s : PartState} {g : Bool} {t : Int} (hb : StB s) (h1 : stP s) : SameB (toR (tickV s g t).1) := by
  have h0 := SameB.of_st hb h1
  have hG := h1.2.2.2
  have hT8 := AllP_len h1.2.1.1
  have hj : (tickR s g t).1.length ≤ 32 := by
    have hm := (jobsP_miss t h1.2.2.1).2.1
    have := tick_sub (l := s.Tasks) (js := missJ t s.Jobs)
    unfold tickR runV
    split <;> simp only <;> omega
  have hl : (tickR s g t).2.1.length ≤ 2000 := by
    have hm := missG_len t s.Jobs hG
    unfold tickR runV
    split
    · simp only
      split
      · exact nt_len hm
      · exact hm
    · exact hm
  unfold tickV
  split
  · have k1 := keepB_len s.Leaves s.Tasks
    have k2 := keepB_len s.Leaves s.Leaves
    have k3 := keepB_len s.Leaves s.Lasts
    have hL := h1.1
    have hA := h1.2.1.2.1
    have k4 := leftG_len s.Leaves t s.Tasks.length hl
    refine ⟨?_, fun x hx => hb.u x ((keepB_sub _ _).subset hx), ?_, ?_, ?_, ?_⟩ <;> simp only [toR] <;> omega
  · refine ⟨h0.t, h0.u, h0.l, h0.a, ?_, ?_⟩ <;> simp only [toR] <;> omega

/-! Tasks come and go. -/
def plus (s : PartState) (x : Task) : PartState := ⟨s.Tasks ++ [x], s.Leaves ++ [false], s.Lasts ++ [-1], s.Jobs, s.Log⟩
noncomputable def addV (s : PartState) (x : Task) : PartState × Int := if stP s ∧ RightP x then (if s.Tasks.length < 8 then (plus s x, 0) else (s, 3)) else (s, 1)
theorem part_Add_eq (s : PartState) (x : Task) (hb : StB s) : part_Add s x = some (addV s x) := by
  unfold part_Add
  refine jn_to (!decide (stP s ∧ RightP x)) (fun k => ?_) ?_
  · rw [bnd_eq (part_Right_eq s hb)]
    by_cases h1 : stP s
    rotate_left
    · rw [decide_eq_false h1, Bool.not_false, fk_t, decide_eq_false (fun h => h1 h.1)]; rfl
    rw [decide_eq_true h1, Bool.not_true, fk_f, bnd_eq (task_Right_eq x)]
    unfold right
    by_cases h2 : RightP x
    · rw [decide_eq_true h2, decide_eq_true (⟨h1, h2⟩ : stP s ∧ RightP x)]
    · rw [decide_eq_false h2, decide_eq_false (fun h => h2 h.2)]
  unfold addV
  by_cases hh : stP s ∧ RightP x
  rotate_left
  · rw [decide_eq_false hh, Bool.not_false, fk_t, if_neg hh]
  obtain ⟨h1, h2⟩ := hh
  rw [decide_eq_true (⟨h1, h2⟩ : stP s ∧ RightP x), Bool.not_true, fk_f, if_pos (⟨h1, h2⟩ : stP s ∧ RightP x)]
  by_cases h8 : s.Tasks.length < 8
  rotate_left
  · rw [decide_eq_true (by omega), fk_t, if_neg h8]
  have hLl := h1.1
  have hLs := h1.2.1.2.1
  have hS : x.Secs.length ≤ 4 := h2.len
  rw [decide_eq_false (by omega), fk_f, if_pos h8, ck_t (by simp; omega), ck_t (by simp; omega), ck_t (by simp; omega), ck_t (by simp; omega), ck_t (by simp; omega), ck_t (by simp; omega), ck_t (by simp; omega)]
  simp only [List.nil_append]
  rfl
noncomputable def leaveV (s : PartState) (i : Int) : PartState × Int := if stP s ∧ 0 ≤ i ∧ i < (s.Tasks.length : Int) then (if (s.Leaves[i.toNat]?).getD false = true then (s, 9) else (⟨s.Tasks, s.Leaves.set i.toNat true, s.Lasts, s.Jobs, s.Log⟩, 0)) else (s, 1)
theorem part_Leave_eq (s : PartState) (i : Int) (hb : StB s) : part_Leave s i = some (leaveV s i) := by
  unfold part_Leave
  refine jn_to (!decide (stP s ∧ 0 ≤ i ∧ i < (s.Tasks.length : Int))) (fun k => ?_) ?_
  · rw [bnd_eq (part_Right_eq s hb)]
    by_cases h1 : stP s
    rotate_left
    · rw [decide_eq_false h1, Bool.not_false, fk_t, decide_eq_false (fun h => h1 h.1)]; rfl
    rw [decide_eq_true h1, Bool.not_true, fk_f]
    by_cases h2 : 0 ≤ i
    rotate_left
    · rw [decide_eq_true (by omega), fk_t, decide_eq_false (fun h => h2 h.2.1)]; rfl
    rw [decide_eq_false (by omega), fk_f]
    by_cases h3 : i < (s.Tasks.length : Int)
    · rw [decide_eq_false (by omega), decide_eq_true (⟨h1, h2, h3⟩ : stP s ∧ 0 ≤ i ∧ i < (s.Tasks.length : Int))]; rfl
    · rw [decide_eq_true (by omega), decide_eq_false (fun h => h3 h.2.2)]; rfl
  unfold leaveV
  by_cases hh : stP s ∧ 0 ≤ i ∧ i < (s.Tasks.length : Int)
  rotate_left
  · rw [decide_eq_false hh, Bool.not_false, fk_t, if_neg hh]
  obtain ⟨h1, h2, h3⟩ := hh
  have hLl := h1.1
  have hT8 := AllP_len h1.2.1.1
  have hiL : i.toNat < s.Leaves.length := by omega
  rw [decide_eq_true (⟨h1, h2, h3⟩ : stP s ∧ 0 ≤ i ∧ i < (s.Tasks.length : Int)), Bool.not_true, fk_f, if_pos (⟨h1, h2, h3⟩ : stP s ∧ 0 ≤ i ∧ i < (s.Tasks.length : Int)), ix_int h2 hiL]
  have eL : (s.Leaves[i.toNat]?).getD false = s.Leaves[i.toNat] := by rw [List.getElem?_eq_getElem hiL]; rfl
  rw [eL]
  cases c : s.Leaves[i.toNat] with
  | true => rw [fk_t, if_pos rfl]
  | false =>
    rw [fk_f, if_neg (by simp), ck_t (by simp; omega), List.nil_append, ck_t (by simp; omega), ox_lt hiL]
/-! A new one. -/
def new0 (l : List Task) : PartState := ⟨l, List.replicate l.length false, List.replicate l.length (-1), [], []⟩
theorem AllP_take {l : List Task} (h : AllP l) (k : Nat) : AllP (l.take k) := ⟨fun t ht => h.1 t (List.mem_of_mem_take ht), by rw [List.length_take]; have := h.2; omega⟩
theorem stP_new {l : List Task} (h : AllP l) : stP (new0 l) :=
  ⟨by simp [new0], ⟨h, by simp [new0], fun x hx => by have := List.eq_of_mem_replicate hx; omega⟩, jobsP_nil h, by simp [new0]⟩
theorem stB_new {l : List Task} (h : AllP l) (hs : ∀ t ∈ l, t.Secs.length ≤ 4611686018427387904) : StB (new0 l) := ⟨by show l.length ≤ _; have := h.2; omega, hs, by simp [new0]; have := h.2; omega⟩
theorem part_New_eq (l : List Task) (hl : l.length ≤ 4611686018427387904) (hs : ∀ t ∈ l, t.Secs.length ≤ 4611686018427387904) : part_New l = some (if AllP l then (new0 l, 0) else (⟨[], [], [], [], []⟩, 1)) := by
  unfold part_New
  rw [bnd_eq (task_All_eq l hl)]
  by_cases ha : AllP l
  rotate_left
  · rw [decide_eq_false ha, Bool.not_false, fk_t, if_neg ha]
  have h8 := ha.2
  rw [decide_eq_true ha, Bool.not_true, fk_f, if_pos ha]
  refine lp_inv (fun v => l.length - v.2.2.2.2.2.toNat) (fun v => ∃ k : Nat, v = ((new0 (l.take k)).Tasks, (new0 (l.take k)).Leaves, (new0 (l.take k)).Lasts, (new0 (l.take k)).Jobs, (new0 (l.take k)).Log, (k : Int)) ∧ k ≤ l.length) ?_ FU _ ⟨0, rfl, Nat.zero_le _⟩ (by unfold FU; simp only; omega)
  rintro nx v ⟨k, rfl, hk⟩ hnx
  dsimp only
  rw [lt_nat]
  by_cases hk' : k < l.length
  rotate_left
  · rw [decide_eq_false hk', fk_f, show k = l.length by omega, List.take_length]
  rw [decide_eq_true hk', fk_t, ix_lt hk', wr_succ k _ hk' (by omega)]
  have hak := AllP_take ha k
  have hk8 : (l.take k).length = k := by rw [List.length_take]; omega
  have e : addV (new0 (l.take k)) l[k] = (plus (new0 (l.take k)) l[k], 0) := by
    unfold addV
    rw [if_pos ⟨stP_new hak, ha.1 _ (List.getElem_mem hk')⟩, if_pos (show (new0 (l.take k)).Tasks.length < 8 by show (l.take k).length < 8; omega)]
  have hA := part_Add_eq (new0 (l.take k)) l[k] (stB_new hak fun t ht => hs t (List.mem_of_mem_take ht))
  rw [e] at hA
  have hA' : part_Add ⟨(new0 (l.take k)).Tasks, (new0 (l.take k)).Leaves, (new0 (l.take k)).Lasts, (new0 (l.take k)).Jobs, (new0 (l.take k)).Log⟩ l[k] = some (plus (new0 (l.take k)) l[k], 0) := hA
  rw [bnd_eq hA']
  refine hnx _ ⟨k + 1, ?_, hk'⟩ (by simp only [Int.toNat_natCast]; omega)
  have e2 : plus (new0 (l.take k)) l[k] = new0 (l.take (k + 1)) := by
    unfold plus new0
    rw [← List.take_append_getElem hk', List.length_append, List.length_singleton, List.replicate_succ', List.replicate_succ']
  rw [e2]

/-! A play. -/
def okS (s : PartState) : Prop := stP s ∧ atP s.Lasts s.Jobs
theorem StB.of_st {s : PartState} (h : stP s) : StB s := by
  have h8 := AllP_len h.2.1.1
  have hA := h.2.1.2.1
  exact ⟨by omega, fun t ht => h.2.1.1.slen ht, by omega⟩
theorem okS_new {l : List Task} (h : AllP l) : okS (new0 l) := ⟨stP_new h, fun j hj => (List.not_mem_nil hj).elim⟩
theorem okS_leave {s : PartState} {i : Int} (h : okS s) : okS (leaveV s i).1 := by
  unfold leaveV
  split
  · split
    · exact h
    · exact ⟨⟨by show (s.Leaves.set _ _).length = _; rw [List.length_set]; exact h.1.1, h.1.2⟩, h.2⟩
  · exact h
theorem okS_add {s : PartState} {x : Task} (h : okS s) : okS (addV s x).1 := by
  unfold addV
  split
  rotate_left
  · exact h
  rename_i hx
  split
  rotate_left
  · exact h
  rename_i h8
  obtain ⟨⟨h1, ⟨ha, h2, h3⟩, ⟨_, h4, h5, h6⟩, h7⟩, hat⟩ := h
  have ha' : AllP (s.Tasks ++ [x]) := ⟨fun t ht => by
    rcases List.mem_append.1 ht with h | h
    · exact ha.1 t h
    · rw [List.mem_singleton.1 h]; exact hx.2, by simp; omega⟩
  refine ⟨⟨by show (s.Leaves ++ [false]).length = (s.Tasks ++ [x]).length; simp; omega, ⟨ha', by show (s.Lasts ++ [-1]).length = (s.Tasks ++ [x]).length; simp; omega, fun y hy => ?_⟩, ⟨ha', h4, fun j hj => ?_, h6⟩, h7⟩, fun j hj => ?_⟩
  · rcases List.mem_append.1 hy with h | h
    · exact h3 y h
    · rw [List.mem_singleton.1 h]; omega
  · obtain ⟨t0, t1, t2, t3, tb⟩ := h5 j hj
    refine ⟨t0, t1, t2, by show _ < (s.Tasks ++ [x]).length; simp; omega, ?_⟩
    have e : (s.Tasks ++ [x])[j.Task.toNat]'(by simp; omega) = s.Tasks[j.Task.toNat] := List.getElem_append_left t3
    show bodyP ((s.Tasks ++ [x])[j.Task.toNat]'(by simp; omega)) j
    rw [e]; exact tb
  · have hj' := hat j hj
    obtain ⟨t0, _, _, t3, _⟩ := h5 j hj
    have e : lg (s.Lasts ++ [-1]) j.Task = lg s.Lasts j.Task := by unfold lg; rw [List.getElem?_append_left (by omega)]
    show j.At ≤ lg (s.Lasts ++ [-1]) j.Task
    rw [e]; exact hj'
/-! The log only grows, by entries of now. -/
def Ext (t : Int) (a b : List Entry) : Prop := ∃ e, b = a ++ e ∧ ∀ x ∈ e, x.At = t
theorem Ext.rfl {t : Int} {a : List Entry} : Ext t a a := ⟨[], (List.append_nil a).symm, fun x hx => (List.not_mem_nil hx).elim⟩
theorem Ext.trans {t : Int} {a b c : List Entry} (h : Ext t a b) (k : Ext t b c) : Ext t a c := by
  obtain ⟨e, rfl, h⟩ := h
  obtain ⟨f, rfl, k⟩ := k
  exact ⟨e ++ f, List.append_assoc _ _ _, fun x hx => (List.mem_append.1 hx).elim (h x) (k x)⟩
theorem Ext.nt {t : Int} {a : List Entry} {k i : Int} : Ext t a (nt a ⟨t, k, i⟩) := by
  unfold Go.Proofs.YtldlcdnhdedoeaaGreat.nt
  split
  · exact ⟨_, Eq.refl _, fun x hx => by rw [List.mem_singleton.1 hx]⟩
  · exact Ext.rfl
theorem Ext.miss {t : Int} : ∀ (js : List Job) {a : List Entry}, Ext t a (missG t js a)
  | [], a => Ext.rfl
  | j :: r, a => by
    unfold missG
    refine Ext.trans ?_ (Ext.miss r)
    split
    · exact Ext.rfl
    · exact Ext.nt
theorem Ext.left {t : Int} {b : List Bool} : ∀ (n : Nat) {a : List Entry}, Ext t a (leftG b t n a)
  | 0, a => Ext.rfl
  | n + 1, a => by
    unfold leftG
    refine Ext.trans ?_ (Ext.left n)
    split
    · exact Ext.nt
    · exact Ext.rfl
theorem Ext.run {t : Int} {l : List Task} {js : List Job} {g : Bool} {a : List Entry} : Ext t a (runV l js a g t).2.1 := by
  unfold runV
  split
  · simp only
    split
    · exact Ext.nt
    · exact Ext.rfl
  · exact Ext.rfl
theorem Ext.tick {s : PartState} {g : Bool} {t : Int} : Ext t s.Log (tickV s g t).1.Log := by
  have h : Ext t s.Log (tickR s g t).2.1 := (Ext.miss s.Jobs).trans Ext.run
  unfold tickV
  split
  · exact h.trans (Ext.left _)
  · exact h
theorem Ext.rel {s : PartState} {i w t : Int} : Ext t s.Log (relV s i w t).1.Log := by
  unfold relV
  split
  · split
    · exact Ext.rfl
    · split
      · split
        · exact Ext.nt
        · exact Ext.nt
      · exact Ext.nt
  · exact Ext.rfl
/-! A tick keeps what is right. -/
theorem tickR_len {s : PartState} {g : Bool} {t : Int} (h1 : stP s) : (tickR s g t).2.1.length ≤ 2000 := by
  have hm := missG_len t s.Jobs h1.2.2.2
  unfold tickR runV
  split
  · simp only
    split
    · exact nt_len hm
    · exact hm
  · exact hm
theorem tickR_jobs {s : PartState} {g : Bool} {t : Int} (h1 : stP s) : jobsP s.Tasks (tickR s g t).1 := by
  have hm := jobsP_miss t h1.2.2.1
  unfold tickR runV
  split
  · exact jobsP_tick hm
  · exact hm
theorem mem_tick {l : List Task} {js : List Job} {j : Job} (h : j ∈ (tick l js).1) : ∃ i ∈ js, i.Task = j.Task ∧ i.At = j.At ∧ i.Due = j.Due ∧ i.Want = j.Want := by
  unfold tick at h
  split at h
  · rename_i hh
    rcases mem_tickN h with ⟨k, hk, _, rfl⟩ | ⟨_, rfl⟩
    · exact ⟨_, List.getElem_mem hk, rfl, rfl, rfl, rfl⟩
    · exact ⟨_, List.getElem_mem hh.2.2, rfl, rfl, rfl, rfl⟩
  · exact ⟨j, h, rfl, rfl, rfl, rfl⟩
theorem mem_tickR {s : PartState} {g : Bool} {t : Int} {j : Job} (h : j ∈ (tickR s g t).1) : ∃ i ∈ s.Jobs, i.Task = j.Task ∧ i.At = j.At ∧ i.Due = j.Due ∧ i.Want = j.Want ∧ t < i.Due := by
  have key : ∀ i ∈ missJ t s.Jobs, i ∈ s.Jobs ∧ t < i.Due := fun i hi => by
    unfold missJ at hi
    rw [List.mem_filter, decide_eq_true_eq] at hi
    exact hi
  unfold tickR runV at h
  split at h
  · obtain ⟨i, hi, e1, e2, e3, e4⟩ := mem_tick h
    exact ⟨i, (key i hi).1, e1, e2, e3, e4, (key i hi).2⟩
  · exact ⟨j, (key j h).1, rfl, rfl, rfl, rfl, (key j h).2⟩
theorem okS_tick {s : PartState} {g : Bool} {t : Int} (h : okS s) : okS (tickV s g t).1 := by
  obtain ⟨h1, hat⟩ := h
  have hj := tickR_jobs (g := g) (t := t) h1
  have hl := tickR_len (g := g) (t := t) h1
  unfold tickV
  split
  · rename_i h0
    have e0 : (tickR s g t).1 = [] := List.eq_nil_of_length_eq_zero h0
    have ha : AllP (keepB s.Leaves s.Tasks) := ⟨fun x hx => h1.2.1.1.1 x ((keepB_sub _ _).subset hx), Nat.le_trans (keepB_len _ _) h1.2.1.1.2⟩
    refine ⟨⟨keepB_len_eq _ _ _ h1.1, ⟨ha, keepB_len_eq _ _ _ h1.2.1.2.1, fun x hx => h1.2.1.2.2 x ((keepB_sub _ _).subset hx)⟩, ?_, leftG_len _ _ _ hl⟩, ?_⟩
    · show jobsP (keepB s.Leaves s.Tasks) (tickR s g t).1
      rw [e0]; exact jobsP_nil ha
    · show atP _ (tickR s g t).1
      rw [e0]; exact fun j hj => (List.not_mem_nil hj).elim
  · refine ⟨⟨h1.1, h1.2.1, hj, hl⟩, fun j hj => ?_⟩
    obtain ⟨i, hi, e1, e2, _⟩ := mem_tickR hj
    have := hat i hi
    rw [e1, e2] at this
    exact this
/-! The steps. -/
/-! Who is let in. -/
noncomputable def fitE (l : List Task) (f : Face) : Int := if errC l f = 0 ∧ ¬ fitsF l f then 7 else errC l f
theorem fitE_zero {l : List Task} {f : Face} : fitE l f = 0 ↔ fitsF l f := by
  unfold fitE
  constructor
  · intro h
    refine Classical.byContradiction fun hf => ?_
    by_cases c : errC l f = 0
    · rw [if_pos ⟨c, hf⟩] at h; omega
    · rw [if_neg (fun h => c h.1)] at h; exact c h
  · intro h
    rw [if_neg (fun hh => hh.2 h)]
    unfold errC; rw [if_pos h.1]
theorem admit_fit_1_eq (l : List Task) (P B : Int) (hl : l.length ≤ 4611686018427387904) : admit_fit_1 l P B = some (fitE l ⟨P, B⟩) := by
  unfold admit_fit_1
  rw [bnd_eq (verdict_Fits_eq l ⟨P, B⟩ hl)]
  unfold fitE
  by_cases h : errC l ⟨P, B⟩ = 0
  · by_cases hf : fitsF l ⟨P, B⟩
    · refine jn_to false (fun k => by rw [decide_eq_true h, fk_t, decide_eq_true hf]; rfl) ?_
      rw [fk_f, if_neg (fun hh => hh.2 hf)]
    · refine jn_to true (fun k => by rw [decide_eq_true h, fk_t, decide_eq_false hf]; rfl) ?_
      rw [fk_t, if_pos ⟨h, hf⟩]
  · refine jn_to false (fun k => by rw [decide_eq_false h, fk_f]) ?_
    rw [fk_f, if_neg (fun hh => h hh.1)]
theorem admit_unless_1_eq (a : Bool) (e : Int) : admit_unless_1 a e = some (if a = true then 0 else e) := by cases a <;> rfl
theorem admit_first_eq (a : Bool) (e : Int) (l : List Task) (P B : Int) (hl : l.length ≤ 4611686018427387904) (he : e ≠ 0) : admit_first a e l P B = some (if a = true then fitE l ⟨P, B⟩ else e) := by
  unfold admit_first
  refine lp_up 2 (by unfold FU; omega) (fun k => (1 ≤ k → a = true) ∧ (2 ≤ k → fitE l ⟨P, B⟩ = 0)) ⟨fun h => by omega, fun h => by omega⟩ ?_
  intro nx k hk J hnx
  by_cases h0 : k = 0
  · subst h0
    rw [decide_eq_true (by omega), fk_t, decide_eq_true (show ((0 : Nat) : Int) = 0 by omega), fk_t, bnd_eq (admit_unless_1_eq a e), wr_succ 0 2 (by omega) (by omega)]
    cases a with
    | true => rw [if_pos rfl, decide_eq_true rfl, Bool.not_true, fk_f]; exact hnx (by omega) ⟨fun _ => rfl, fun h => by omega⟩
    | false => rw [if_neg (by simp), decide_eq_false he, Bool.not_false, fk_t, if_neg (by simp)]
  by_cases h1 : k = 1
  · subst h1
    have ha := J.1 (by omega)
    rw [decide_eq_true (by omega), fk_t, decide_eq_false (by omega), fk_f, decide_eq_true (show ((1 : Nat) : Int) = 1 by omega), fk_t, bnd_eq (admit_fit_1_eq l P B hl), if_pos ha]
    by_cases c : fitE l ⟨P, B⟩ = 0
    · rw [decide_eq_true c, Bool.not_true, fk_f, wr_succ 1 2 (by omega) (by omega)]
      rw [if_pos ha] at hnx
      exact hnx (by omega) ⟨fun _ => ha, fun _ => c⟩
    · rw [decide_eq_false c, Bool.not_false, fk_t]
  · rw [decide_eq_false (by omega), fk_f, if_pos (J.1 (by omega)), J.2 (by omega)]
theorem admit_first_1_eq (a : Bool) (e : Int) (a2 : Bool) (e2 : Int) (a3 : Bool) (e3 : Int) (l : List Task) (P B : Int) (hl : l.length ≤ 4611686018427387904) (he : e ≠ 0) (he2 : e2 ≠ 0) (he3 : e3 ≠ 0) : admit_first_1 a e a2 e2 a3 e3 l P B = some (if a = true then (if a2 = true then (if a3 = true then fitE l ⟨P, B⟩ else e3) else e2) else e) := by
  unfold admit_first_1
  refine lp_up 4 (by unfold FU; omega) (fun k => (1 ≤ k → a = true) ∧ (2 ≤ k → a2 = true) ∧ (3 ≤ k → a3 = true) ∧ (4 ≤ k → fitE l ⟨P, B⟩ = 0)) ⟨fun h => by omega, fun h => by omega, fun h => by omega, fun h => by omega⟩ ?_
  intro nx k hk J hnx
  obtain ⟨J1, J2, J3, J4⟩ := J
  by_cases h0 : k = 0
  · subst h0
    rw [decide_eq_true (by omega), fk_t, decide_eq_true (show ((0 : Nat) : Int) = 0 by omega), fk_t, bnd_eq (admit_unless_1_eq a e), wr_succ 0 4 (by omega) (by omega)]
    cases a with
    | true => rw [if_pos rfl, decide_eq_true rfl, Bool.not_true, fk_f]; exact hnx (by omega) ⟨fun _ => rfl, fun h => by omega, fun h => by omega, fun h => by omega⟩
    | false => rw [if_neg (by simp), decide_eq_false he, Bool.not_false, fk_t, if_neg (by simp)]
  have ha := J1 (by omega)
  rw [if_pos ha] at hnx ⊢
  by_cases h1 : k = 1
  · subst h1
    rw [decide_eq_true (by omega), fk_t, decide_eq_false (by omega), fk_f, decide_eq_true (show ((1 : Nat) : Int) = 1 by omega), fk_t, bnd_eq (admit_unless_1_eq a2 e2), wr_succ 1 4 (by omega) (by omega)]
    cases a2 with
    | true => rw [if_pos rfl, decide_eq_true rfl, Bool.not_true, fk_f]; exact hnx (by omega) ⟨fun _ => ha, fun _ => rfl, fun h => by omega, fun h => by omega⟩
    | false => rw [if_neg (by simp), decide_eq_false he2, Bool.not_false, fk_t, if_neg (by simp)]
  have ha2 := J2 (by omega)
  rw [if_pos ha2] at hnx ⊢
  by_cases h2 : k = 2
  · subst h2
    rw [decide_eq_true (by omega), fk_t, decide_eq_false (by omega), fk_f, decide_eq_false (by omega), fk_f, decide_eq_true (show ((2 : Nat) : Int) = 2 by omega), fk_t, bnd_eq (admit_unless_1_eq a3 e3), wr_succ 2 4 (by omega) (by omega)]
    cases a3 with
    | true => rw [if_pos rfl, decide_eq_true rfl, Bool.not_true, fk_f]; exact hnx (by omega) ⟨fun _ => ha, fun _ => ha2, fun _ => rfl, fun h => by omega⟩
    | false => rw [if_neg (by simp), decide_eq_false he3, Bool.not_false, fk_t, if_neg (by simp)]
  have ha3 := J3 (by omega)
  rw [if_pos ha3] at hnx ⊢
  by_cases h3 : k = 3
  · subst h3
    rw [decide_eq_true (by omega), fk_t, decide_eq_false (by omega), fk_f, decide_eq_false (by omega), fk_f, decide_eq_false (by omega), fk_f, decide_eq_true (show ((3 : Nat) : Int) = 3 by omega), fk_t, bnd_eq (admit_fit_1_eq l P B hl)]
    by_cases c : fitE l ⟨P, B⟩ = 0
    · rw [decide_eq_true c, Bool.not_true, fk_f, wr_succ 3 4 (by omega) (by omega)]
      exact hnx (by omega) ⟨fun _ => ha, fun _ => ha2, fun _ => ha3, fun _ => c⟩
    · rw [decide_eq_false c, Bool.not_false, fk_t]
  · rw [decide_eq_false (by omega), fk_f, J4 (by omega)]

theorem admit_unless_eq (a : Bool) (e : Int) : admit_unless a e = some (a, e) := rfl
theorem admit_fit_eq (l : List Task) (f : Face) : admit_fit l f = some (l, f.P, f.B) := rfl
noncomputable def bootE (p : Part) : Int := if faceP p.Face ∧ AllP p.Tasks then fitE p.Tasks p.Face else 1
theorem bootE_zero {p : Part} : bootE p = 0 ↔ fitsF p.Tasks p.Face := by
  unfold bootE
  constructor
  · intro h
    split at h
    · exact fitE_zero.1 h
    · omega
  · intro h
    rw [if_pos ⟨h.1.2.1, h.1.1⟩]; exact fitE_zero.2 h
theorem admit_Boot_eq (p : Part) (hl : p.Tasks.length ≤ 4611686018427387904) (hs : ∀ t ∈ p.Tasks, t.Secs.length ≤ 4611686018427387904) : admit_Boot p = some (if bootE p = 0 then (new0 p.Tasks, 0) else (⟨[], [], [], [], []⟩, bootE p)) := by
  unfold admit_Boot
  refine jn_to (bootE p) (fun k => ?_) ?_
  · rw [bnd_eq (supply_Right_eq p.Face)]
    unfold bootE
    by_cases h1 : faceP p.Face
    · rw [decide_eq_true h1, fk_t, bnd_eq (task_All_eq _ hl), bnd_eq (admit_unless_eq _ _), bnd_eq (admit_fit_eq _ _), bnd_eq (admit_first_eq _ _ _ _ _ hl (show (1 : Int) ≠ 0 by decide))]
      by_cases h2 : AllP p.Tasks
      · rw [if_pos (decide_eq_true h2), if_pos ⟨h1, h2⟩]
      · rw [if_neg (by simpa using h2), if_neg (fun h => h2 h.2)]
    · rw [decide_eq_false h1, fk_f, bnd_eq (admit_unless_eq _ _), bnd_eq (admit_fit_eq _ _), bnd_eq (admit_first_eq _ _ _ _ _ hl (show (1 : Int) ≠ 0 by decide)), if_neg (by simp), if_neg (fun h => h1 h.1)]
  by_cases h : bootE p = 0
  · have hf := bootE_zero.1 h
    rw [decide_eq_true h, Bool.not_true, fk_f, if_pos h, bnd_eq (part_New_eq _ hl hs), if_pos hf.1.1]
  · rw [decide_eq_false h, Bool.not_false, fk_t, if_neg h]
def begunP (js : List Job) : Prop := ∃ j ∈ js, j.Began = true
noncomputable instance (js : List Job) : Decidable (begunP js) := Classical.propDecidable _
theorem fst_begun (js : List Job) : fst js true < 0 ↔ ¬ begunP js := by
  constructor
  · rintro h ⟨j, hj, hb⟩; exact fst_none h j hj hb
  · intro h
    rcases fst_cases js true with h1 | ⟨h1, h2⟩
    · omega
    · exact absurd ⟨_, List.getElem_mem h2, (fst_first h1 h2).1⟩ h
noncomputable def addE (s : PartState) (f : Face) (x : Task) : Int :=
  if stP s ∧ faceP f ∧ RightP x then (if s.Tasks.length < 8 then (if begunP s.Jobs then 9 else fitE (s.Tasks ++ [x]) f) else 3) else 1
theorem addE_zero {s : PartState} {f : Face} {x : Task} (h : addE s f x = 0) : stP s ∧ RightP x ∧ s.Tasks.length < 8 ∧ ¬ begunP s.Jobs ∧ fitsF (s.Tasks ++ [x]) f := by
  unfold addE at h
  split at h
  rotate_left
  · omega
  rename_i h1
  split at h
  rotate_left
  · omega
  rename_i h2
  split at h
  · omega
  rename_i h3
  exact ⟨h1.1, h1.2.2, h2, h3, fitE_zero.1 h⟩
theorem admit_Add_eq (s : PartState) (f : Face) (x : Task) (hb : StB s) (h50 : s.Tasks.length ≤ 1000) (hj : s.Jobs.length ≤ 4611686018427387904) : admit_Add s f x = some (if addE s f x = 0 then (plus s x, 0) else (s, addE s f x)) := by
  have hl : (s.Tasks ++ [x]).length ≤ 4611686018427387904 := by simp; omega
  unfold admit_Add
  rw [ck_t (by simp; omega), ck_t (by simp; omega), List.nil_append]
  have tail : ∀ (b : Bool) (k : Int → Option (PartState × Int)), (bnd (admit_unless b (1 : Int)) fun x5 => bnd (admit_unless (decide ((s.Tasks.length : Int) < (8 : Int))) (3 : Int)) fun x6 => bnd (job_First s.Jobs true) fun x7 => bnd (admit_unless (decide (x7 < (0 : Int))) (9 : Int)) fun x8 => bnd (admit_fit (s.Tasks ++ ([x] : List Task)) f) fun x9 => bnd (admit_first_1 x5.1 x5.2 x6.1 x6.2 x8.1 x8.2 x9.1 x9.2.1 x9.2.2) fun x10 => k x10) = k (if b = true then (if s.Tasks.length < 8 then (if begunP s.Jobs then 9 else fitE (s.Tasks ++ [x]) f) else 3) else 1) := by
    intro b k
    rw [bnd_eq (admit_unless_eq _ _), bnd_eq (admit_unless_eq _ _), bnd_eq (job_First_eq _ _ hj), bnd_eq (admit_unless_eq _ _), bnd_eq (admit_fit_eq _ _), bnd_eq (admit_first_1_eq _ _ _ _ _ _ _ _ _ hl (show (1 : Int) ≠ 0 by decide) (show (3 : Int) ≠ 0 by decide) (show (9 : Int) ≠ 0 by decide))]
    congr 1
    cases b with
    | false => rfl
    | true =>
      rw [if_pos rfl, if_pos rfl]
      by_cases h2 : s.Tasks.length < 8
      · rw [if_pos (decide_eq_true (by omega)), if_pos h2]
        by_cases h3 : begunP s.Jobs
        · rw [if_pos h3, if_neg (by rw [decide_eq_true_eq, fst_begun]; exact fun h => h h3)]
        · rw [if_neg h3, if_pos (decide_eq_true ((fst_begun _).2 h3))]
      · rw [if_neg h2, if_neg (by rw [decide_eq_true_eq]; omega)]
  refine jn_to (addE s f x) (fun k => ?_) ?_
  · rw [bnd_eq (part_Right_eq s hb)]
    unfold addE
    by_cases h1 : stP s
    rotate_left
    · rw [decide_eq_false h1, fk_f, if_neg (fun h => h1 h.1)]; exact tail false k
    rw [decide_eq_true h1, fk_t, bnd_eq (supply_Right_eq f)]
    by_cases h2 : faceP f
    rotate_left
    · rw [decide_eq_false h2, fk_f, if_neg (fun h => h2 h.2.1)]; exact tail false k
    rw [decide_eq_true h2, fk_t, bnd_eq (task_Right_eq x)]
    unfold right
    by_cases h3 : RightP x
    · rw [decide_eq_true h3, if_pos ⟨h1, h2, h3⟩]; exact tail true k
    · rw [decide_eq_false h3, if_neg (fun h => h3 h.2.2)]; exact tail false k
  by_cases h : addE s f x = 0
  · obtain ⟨a1, a2, a3, _⟩ := addE_zero h
    rw [decide_eq_true h, Bool.not_true, fk_f, if_pos h, bnd_eq (part_Add_eq s x hb)]
    unfold addV
    rw [if_pos ⟨a1, a2⟩, if_pos a3]
  · rw [decide_eq_false h, Bool.not_false, fk_t, if_neg h]

theorem errC_zero {l : List Task} {f : Face} : errC l f = 0 ↔ okC l f := ⟨fun h => Classical.byContradiction fun hc => errC_ne hc h, fun h => errC_ok h⟩
theorem cycV_err (l : List Task) (f : Face) : (cycV l f).2.2 = errC l f := by
  unfold cycV
  split
  · rename_i h; rw [errC_ok h]
  · rfl
theorem ref20_Fits_eq (l : List Task) (f : Face) (hl : l.length ≤ 4611686018427387904) (hs : ∀ t ∈ l, t.Secs.length ≤ 4611686018427387904) : ref20_Fits l f = some (fitE l f) := by
  unfold ref20_Fits
  rw [bnd_eq (ref10_Cycle_eq l f hl hs), cycV_err]
  unfold fitE
  by_cases h : errC l f = 0
  · rw [decide_eq_true h, Bool.not_true, fk_f, bnd_eq (ref10_Fits_eq l f hl hs (errC_zero.1 h))]
    by_cases hf : fitsF l f
    · rw [decide_eq_true hf, Bool.not_true, fk_f, if_neg (fun hh => hh.2 hf), h]
    · rw [decide_eq_false hf, Bool.not_false, fk_t, if_pos ⟨h, hf⟩]
  · rw [decide_eq_false h, Bool.not_false, fk_t, if_neg (fun hh => h hh.1)]
theorem ref20_Boot_eq (p : Part) (hl : p.Tasks.length ≤ 4611686018427387904) (hs : ∀ t ∈ p.Tasks, t.Secs.length ≤ 4611686018427387904) : ref20_Boot p = some (bootE p) := by
  unfold ref20_Boot bootE
  refine jn_to (!decide (faceP p.Face ∧ AllP p.Tasks)) (fun k => ?_) ?_
  · rw [bnd_eq (ref09_Right_eq p.Face)]
    by_cases h1 : faceP p.Face
    rotate_left
    · rw [decide_eq_false h1, Bool.not_false, fk_t, decide_eq_false (fun h => h1 h.1)]; rfl
    rw [decide_eq_true h1, Bool.not_true, fk_f, bnd_eq (ref05_All_eq _ hl hs)]
    by_cases h2 : AllP p.Tasks
    · rw [decide_eq_true h2, decide_eq_true (⟨h1, h2⟩ : faceP p.Face ∧ AllP p.Tasks)]
    · rw [decide_eq_false h2, decide_eq_false (fun h => h2 h.2)]
  by_cases h : faceP p.Face ∧ AllP p.Tasks
  · rw [decide_eq_true h, Bool.not_true, fk_f, if_pos h, bnd_eq (ref20_Fits_eq _ _ hl hs)]
  · rw [decide_eq_false h, Bool.not_false, fk_t, if_neg h]
end Go.Proofs.YtldlcdnhdedoeaaGreat
namespace Go.Proofs.YtldlcdnhdedoeaaGreat
open Go Go.VC
noncomputable def ring_Right (a0 : RingRing) : Option Bool :=
  fk (decide ((a0.Buf.length : Int) > (0 : Int))) (fk (decide (a0.First ≥ (0 : Int))) (fk (decide (a0.First < (a0.Buf.length : Int))) (fk (decide (a0.Many ≥ (0 : Int))) (some (decide (a0.Many ≤ (a0.Buf.length : Int)))) (some false)) (some false)) (some false)) (some false)
theorem ring_Right_w (a0 : RingRing) (r : Bool) (h : ring_Right a0 = some r) : Go.VC.Spec Tryz.prog 95 [.agg (RingRing.enc a0)] (fun y => y = E_Bool r) := by
  refine Go.VC.Spec.of_xc (args := [.agg (RingRing.enc a0)]) (fn := Tryz.f95) tab ⟨[(0, [1]), (1, [1, 3]), (2, [2])], [], [], []⟩ 31 [.tmp 2] rfl rfl rfl rfl rfl rfl ?_
  conv => whnf
  refine lenS a0.Buf (eI .i64) rfl ?_
  conv => whnf
  refine fkS h (fun h => ?_) (fun h => ?_)
  · conv => whnf
    refine fkS h (fun h => ?_) (fun h => ?_)
    · conv => whnf
      refine fkS h (fun h => ?_) (fun h => ?_)
      · conv => whnf
        refine fkS h (fun h => ?_) (fun h => ?_)
        · conv => whnf
          exact rt (E := E_Bool) h rfl
        conv => whnf
        exact rt (E := E_Bool) h rfl
      conv => whnf
      exact rt (E := E_Bool) h rfl
    conv => whnf
    exact rt (E := E_Bool) h rfl
  conv => whnf
  exact rt (E := E_Bool) h rfl

end Go.Proofs.YtldlcdnhdedoeaaGreat
namespace Go.Proofs.YtldlcdnhdedoeaaGreat
open Go Go.VC
noncomputable def ring_New (a0 : Int) : Option (RingRing × Int) :=
  jn (fun (w1 : Bool) => fk w1 (some (⟨[], (0 : Int), (0 : Int)⟩, (1 : Int))) (ck (decide ((0 : Int) ≤ a0) && decide (a0 * ((8 : Nat) : Int) ≤ 140737488355328) && decide (a0 ≤ 1000000000000)) (some (⟨List.replicate a0.toNat ((0 : Int) : Int), (0 : Int), (0 : Int)⟩, (0 : Int))))) (fun k1 => fk (decide (a0 < (1 : Int))) (k1 true) (k1 (decide (a0 > (4 : Int)))))
theorem ring_New_w (a0 : Int) (r : RingRing × Int) (h : ring_New a0 = some r) : Go.VC.Spec Tryz.prog 70 [.d (.int .i64 a0)] (fun y => y = E_RingRing_Int r) := by
  refine Go.VC.Spec.of_xc (args := [.d (.int .i64 a0)]) (fn := Tryz.f70) tab ⟨[(0, [0, 2]), (1, [0, 2, 9]), (2, [2, 3]), (3, [2, 3])], [], [100009], []⟩ 14 [.cell 2 93, .tmp 3] rfl rfl rfl rfl rfl rfl ?_
  conv => whnf
  refine jnS (fun w1 => ⟨[(0, .l (.d (.int .i64 a0))), (2, .l (.ptr 3 0)), (9, .l (.d (.bool w1)))], 14, [], [(3, [.nil, .d (.int .i64 (0 : Int)), .d (.int .i64 (0 : Int))])], []⟩) h (fun k1 hk1 h => ?_) (fun w1 h => ?_)
  · conv => whnf
    refine fkS h (fun h => ?_) (fun h => ?_)
    · conv => whnf
      exact jeS hk1 h (Weak.refl _)
    conv => whnf
    exact jeS hk1 h (Weak.refl _)
  conv => whnf
  refine fkS h (fun h => ?_) (fun h => ?_)
  · conv => whnf
    exact rt (E := E_RingRing_Int) h rfl
  conv => whnf
  refine mkS ((0 : Int) : Int) (eI .i64) h rfl rfl (fun h => ?_)
  conv => whnf
  exact rt (E := E_RingRing_Int) h rfl

end Go.Proofs.YtldlcdnhdedoeaaGreat
namespace Go.Proofs.YtldlcdnhdedoeaaGreat
open Go Go.VC
noncomputable def ring_at (a0 : RingRing) (a1 : Int) : Option Int :=
  ck (decide ((a0.Buf.length : Int) ≠ 0)) (some ((wr (a0.First + a1)).tmod (a0.Buf.length : Int)))
theorem ring_at_w (a0 : RingRing) (a1 : Int) (r : Int) (h : ring_at a0 a1 = some r) : Go.VC.Spec Tryz.prog 96 [.agg (RingRing.enc a0), .d (.int .i64 a1)] (fun y => y = E_Int r) := by
  refine Go.VC.Spec.of_xc (args := [.agg (RingRing.enc a0), .d (.int .i64 a1)]) (fn := Tryz.f96) tab ⟨[(0, [1, 2]), (1, [4])], [], [], []⟩ 13 [.tmp 4] rfl rfl rfl rfl rfl rfl ?_
  conv => whnf
  refine lenS a0.Buf (eI .i64) rfl ?_
  conv => whnf
  refine dvS h (fun h => ?_)
  conv => whnf
  exact rt (E := E_Int) h rfl

end Go.Proofs.YtldlcdnhdedoeaaGreat
namespace Go.Proofs.YtldlcdnhdedoeaaGreat
open Go Go.VC
noncomputable def ring_Push (a0 : RingRing) (a1 : Int) : Option (RingRing × Int) :=
  bnd (ring_Right a0) fun x1 => fk (!x1) (some (a0, (1 : Int))) (fk (decide (a0.Many = (a0.Buf.length : Int))) (some (a0, (3 : Int))) (ck (decide ((([] : List Int).length + a0.Buf.length) * 8 ≤ 140737488355328)) (bnd (ring_at ⟨([] : List Int) ++ a0.Buf, a0.First, a0.Many⟩ a0.Many) fun x2 => ck (decide (0 ≤ x2) && decide (x2 < ((([] : List Int) ++ a0.Buf).length : Int))) (ox (([] : List Int) ++ a0.Buf) x2.toNat fun x3 => some (⟨(([] : List Int) ++ a0.Buf).set x2.toNat a1, a0.First, (wr (a0.Many + (1 : Int)))⟩, (0 : Int))))))
theorem ring_Push_w (a0 : RingRing) (a1 : Int) (r : RingRing × Int) (h : ring_Push a0 a1 = some r) : Go.VC.Spec Tryz.prog 79 [.agg (RingRing.enc a0), .d (.int .i64 a1)] (fun y => y = E_RingRing_Int r) := by
  refine Go.VC.Spec.of_xc (args := [.agg (RingRing.enc a0), .d (.int .i64 a1)]) (fn := Tryz.f79) tab ⟨[(0, [1, 2, 4]), (1, [1, 2, 4, 6]), (2, [4, 5]), (3, [1, 2, 4, 11]), (4, [4, 5]), (5, [1, 2, 4]), (6, [2, 4]), (7, [2, 4]), (8, [4, 5])], [], [], []⟩ 34 [.cell 4 93, .tmp 5] rfl rfl rfl rfl rfl rfl ?_
  conv => whnf
  refine caS (E := E_Bool) h (ring_Right_w a0) rfl (fun _ => rfl) (fun x1 h => ?_)
  conv => whnf
  refine fkS h (fun h => ?_) (fun h => ?_)
  · conv => whnf
    exact rt (E := E_RingRing_Int) h rfl
  conv => whnf
  refine lenS a0.Buf (eI .i64) rfl ?_
  conv => whnf
  refine fkS h (fun h => ?_) (fun h => ?_)
  · conv => whnf
    exact rt (E := E_RingRing_Int) h rfl
  conv => whnf
  refine inS (fn := Tryz.f133) tab ⟨[(0, [1, 2]), (1, [1, 2]), (2, [2])], [], [], []⟩ 9 [.cell 2 93] rfl rfl rfl rfl rfl rfl ?_
  conv => whnf
  refine liS ([] : List Int) (eI .i64) rfl rfl ?_
  conv => whnf
  refine apS (enc := (eI .i64)) (l1 := ([] : List Int)) (l2 := a0.Buf) h rfl rfl (fun _ => rfl) (fun h => ?_)
  conv => whnf
  refine ⟨7, ?_⟩
  conv => whnf
  refine daS (E := E_Int) h (ring_at_w ⟨([] : List Int) ++ a0.Buf, a0.First, a0.Many⟩ a0.Many) (fun _ => rfl) (fun x2 h => ?_)
  conv => whnf
  refine drS (by kernel_rfl) ?_
  conv => whnf
  refine ioS (enc := (eI .i64)) h rfl (fun h => ?_)
  conv => whnf
  refine seS (enc := (eI .i64)) h rfl (fun x3 => a1) (fun _ => rfl) (fun x3 h => ?_)
  conv => whnf
  exact rt (E := E_RingRing_Int) h rfl

end Go.Proofs.YtldlcdnhdedoeaaGreat
namespace Go.Proofs.YtldlcdnhdedoeaaGreat
open Go Go.VC
noncomputable def ring_own (a0 : RingRing) : Option RingRing :=
  ck (decide ((([] : List Int).length + a0.Buf.length) * 8 ≤ 140737488355328)) (some ⟨([] : List Int) ++ a0.Buf, a0.First, a0.Many⟩)
theorem ring_own_w (a0 : RingRing) (r : RingRing) (h : ring_own a0 = some r) : Go.VC.Spec Tryz.prog 133 [.agg (RingRing.enc a0)] (fun y => y = E_RingRing r) := by
  refine Go.VC.Spec.of_xc (args := [.agg (RingRing.enc a0)]) (fn := Tryz.f133) tab ⟨[(0, [1, 2]), (1, [1, 2]), (2, [2])], [], [], []⟩ 9 [.cell 2 93] rfl rfl rfl rfl rfl rfl ?_
  conv => whnf
  refine liS ([] : List Int) (eI .i64) rfl rfl ?_
  conv => whnf
  refine apS (enc := (eI .i64)) (l1 := ([] : List Int)) (l2 := a0.Buf) h rfl rfl (fun _ => rfl) (fun h => ?_)
  conv => whnf
  exact rt (E := E_RingRing) h rfl

end Go.Proofs.YtldlcdnhdedoeaaGreat
namespace Go.Proofs.YtldlcdnhdedoeaaGreat
open Go Go.VC
noncomputable def ring_Pop (a0 : RingRing) : Option (Int × RingRing × Int) :=
  bnd (ring_Right a0) fun x1 => fk (!x1) (some ((0 : Int), a0, (1 : Int))) (fk (decide (a0.Many = (0 : Int))) (some ((0 : Int), a0, (4 : Int))) (bnd (ring_own a0) fun x2 => ix x2.Buf x2.First fun x3 => bnd (ring_at x2 (1 : Int)) fun x4 => some (x3, ⟨x2.Buf, x4, (wr (x2.Many - (1 : Int)))⟩, (0 : Int))))
theorem ring_Pop_w (a0 : RingRing) (r : Int × RingRing × Int) (h : ring_Pop a0 = some r) : Go.VC.Spec Tryz.prog 81 [.agg (RingRing.enc a0)] (fun y => y = E_Int_RingRing_Int r) := by
  refine Go.VC.Spec.of_xc (args := [.agg (RingRing.enc a0)]) (fn := Tryz.f81) tab ⟨[(0, [1, 3]), (1, [1, 3, 6]), (2, [2, 3, 4]), (3, [1, 3, 11]), (4, [2, 3, 4]), (5, [1, 3]), (6, [1, 3, 5]), (7, [1, 3, 5]), (8, [1, 3, 5]), (9, [2, 3, 4])], [], [], []⟩ 33 [.tmp 2, .cell 3 93, .tmp 4] rfl rfl rfl rfl rfl rfl ?_
  conv => whnf
  refine caS (E := E_Bool) h (ring_Right_w a0) rfl (fun _ => rfl) (fun x1 h => ?_)
  conv => whnf
  refine fkS h (fun h => ?_) (fun h => ?_)
  · conv => whnf
    refine ⟨2, ?_⟩
    conv => whnf
    refine drS (by kernel_rfl) ?_
    conv => whnf
    exact rt (E := E_Int_RingRing_Int) h rfl
  conv => whnf
  refine fkS h (fun h => ?_) (fun h => ?_)
  · conv => whnf
    refine ⟨2, ?_⟩
    conv => whnf
    refine drS (by kernel_rfl) ?_
    conv => whnf
    exact rt (E := E_Int_RingRing_Int) h rfl
  conv => whnf
  refine ccS (E := E_RingRing) h (ring_own_w a0) rfl rfl (fun x2 h => ?_)
  conv => whnf
  refine ixS (enc := (eI .i64)) h rfl (fun _ => rfl) (fun x3 h => ?_)
  conv => whnf
  refine caS (E := E_Int) h (ring_at_w x2 (1 : Int)) rfl (fun _ => rfl) (fun x4 h => ?_)
  conv => whnf
  refine ⟨3, ?_⟩
  conv => whnf
  refine drS (by kernel_rfl) ?_
  conv => whnf
  exact rt (E := E_Int_RingRing_Int) h rfl

end Go.Proofs.YtldlcdnhdedoeaaGreat
namespace Go.Proofs.YtldlcdnhdedoeaaGreat
open Go Go.VC
noncomputable def ring_List (a0 : RingRing) : Option (List Int) :=
  bnd (ring_Right a0) fun x1 => fk (!x1) (some []) (lp (fun nx2 (v2 : (List Int) × Int) => fk (decide (v2.2 < a0.Many)) (bnd (ring_at a0 v2.2) fun x3 => ix a0.Buf x3 fun x4 => ck (decide ((v2.1.length + ([x4] : List Int).length) * 8 ≤ 140737488355328)) (nx2 (v2.1 ++ ([x4] : List Int), (wr (v2.2 + (1 : Int)))))) (some v2.1)) FU ([], (0 : Int)))
theorem ring_List_w (a0 : RingRing) (r : List Int) (h : ring_List a0 = some r) : Go.VC.Spec Tryz.prog 38 [.agg (RingRing.enc a0)] (fun y => y = E_ListInt r) := by
  refine Go.VC.Spec.of_xc (args := [.agg (RingRing.enc a0)]) (fn := Tryz.f38) tab ⟨[(0, [1]), (1, [1, 7]), (2, [2]), (3, [1, 3]), (4, [1, 3, 9, 10]), (5, [1, 3, 9, 10, 11]), (6, [1, 3, 4, 9, 10]), (7, [1, 3, 9, 10]), (8, [1, 3, 9, 10]), (9, [2])], [], [], []⟩ 25 [.tmp 2] rfl rfl rfl rfl rfl rfl ?_
  conv => whnf
  refine caS (E := E_Bool) h (ring_Right_w a0) rfl (fun _ => rfl) (fun x1 h => ?_)
  conv => whnf
  refine fkS h (fun h => ?_) (fun h => ?_)
  · conv => whnf
    exact rt (E := E_ListInt) h rfl
  conv => whnf
  refine lpS (fun v2 => ⟨[(1, .l (.ptr 2 0)), (3, .l (.own 4)), (9, .l (.d (.int .i64 a0.Many))), (10, .l (.d (.int .i64 v2.2)))], 25, [], [(2, [.d (.sl (a0.Buf.map (eI .i64))), .d (.int .i64 a0.First), .d (.int .i64 a0.Many)])], [(4, 3, 1, v2.1.map (eI .i64))]⟩) h (Weak.trans (Weak.nilO _ 3 4 3 1 rfl) (Weak.refl _)) (fun _ nx2 hn2 v2 h => ?_)
  conv => whnf
  refine fkS h (fun h => ?_) (fun h => ?_)
  · conv => whnf
    refine ⟨9, ?_⟩
    conv => whnf
    refine daS (E := E_Int) h (ring_at_w a0 v2.2) (fun _ => rfl) (fun x3 h => ?_)
    conv => whnf
    refine ixS (enc := (eI .i64)) h rfl (fun _ => rfl) (fun x4 h => ?_)
    conv => whnf
    refine liS ([x4] : List Int) (eI .i64) rfl rfl ?_
    conv => whnf
    refine drS (by kernel_rfl) ?_
    conv => whnf
    refine apS (enc := (eI .i64)) (l1 := v2.1) (l2 := ([x4] : List Int)) h rfl rfl (fun _ => rfl) (fun h => ?_)
    conv => whnf
    exact leS hn2 h (Weak.refl _)
  conv => whnf
  exact rt (E := E_ListInt) h rfl

end Go.Proofs.YtldlcdnhdedoeaaGreat
namespace Go.Proofs.YtldlcdnhdedoeaaGreat
open Go Go.VC
noncomputable def ring_Put (a0 : RingRing) (a1 : Int) : Option RingRing :=
  bnd (ring_Push a0 a1) fun x1 => fk (!decide (x1.2 = (3 : Int))) (some x1.1) (bnd (ring_Pop a0) fun x2 => bnd (ring_Push x2.2.1 a1) fun x3 => some x3.1)
theorem ring_Put_w (a0 : RingRing) (a1 : Int) (r : RingRing) (h : ring_Put a0 a1 = some r) : Go.VC.Spec Tryz.prog 94 [.agg (RingRing.enc a0), .d (.int .i64 a1)] (fun y => y = E_RingRing r) := by
  refine Go.VC.Spec.of_xc (args := [.agg (RingRing.enc a0), .d (.int .i64 a1)]) (fn := Tryz.f94) tab ⟨[(0, [1, 2, 4]), (1, [1, 2, 4, 5, 6]), (2, [1, 2, 4, 5, 16]), (3, [4]), (4, [1, 2, 4]), (5, [4, 7]), (6, [4])], [], [], []⟩ 31 [.cell 4 93] rfl rfl rfl rfl rfl rfl ?_
  conv => whnf
  refine ccS (E := E_RingRing_Int) h (ring_Push_w a0 a1) rfl rfl (fun x1 h => ?_)
  conv => whnf
  refine fkS h (fun h => ?_) (fun h => ?_)
  · conv => whnf
    exact rt (E := E_RingRing) h rfl
  conv => whnf
  refine ccS (E := E_Int_RingRing_Int) h (ring_Pop_w a0) rfl rfl (fun x2 h => ?_)
  conv => whnf
  refine ccS (E := E_RingRing_Int) h (ring_Push_w x2.2.1 a1) rfl rfl (fun x3 h => ?_)
  conv => whnf
  exact rt (E := E_RingRing) h rfl

end Go.Proofs.YtldlcdnhdedoeaaGreat
namespace Go.Proofs.YtldlcdnhdedoeaaGreat
open Go Go.VC
/-! Rings. -/
def ringP (r : RingRing) : Prop := 0 < r.Buf.length ∧ r.Buf.length ≤ 4 ∧ 0 ≤ r.First ∧ r.First < (r.Buf.length : Int) ∧ 0 ≤ r.Many ∧ r.Many ≤ (r.Buf.length : Int)
theorem ring_Right_eq (r : RingRing) (h4 : r.Buf.length ≤ 4) : ring_Right r = some (decide (0 < r.Buf.length ∧ 0 ≤ r.First ∧ r.First < (r.Buf.length : Int) ∧ 0 ≤ r.Many ∧ r.Many ≤ (r.Buf.length : Int))) := by
  unfold ring_Right
  by_cases h1 : 0 < r.Buf.length
  rotate_left
  · rw [decide_eq_false (by omega), fk_f]; exact dec_f fun h => h1 h.1
  rw [decide_eq_true (by omega), fk_t]
  by_cases h2 : 0 ≤ r.First
  rotate_left
  · rw [decide_eq_false (by omega), fk_f]; exact dec_f fun h => h2 h.2.1
  rw [decide_eq_true (by omega), fk_t]
  by_cases h3 : r.First < (r.Buf.length : Int)
  rotate_left
  · rw [decide_eq_false (by omega), fk_f]; exact dec_f fun h => h3 h.2.2.1
  rw [decide_eq_true (by omega), fk_t]
  by_cases h4 : 0 ≤ r.Many
  rotate_left
  · rw [decide_eq_false (by omega), fk_f]; exact dec_f fun h => h4 h.2.2.2.1
  rw [decide_eq_true (by omega), fk_t]
  exact dec_iff ⟨fun h => ⟨h1, h2, h3, h4, h⟩, fun h => h.2.2.2.2⟩
theorem ring_Right_t {r : RingRing} (h : ringP r) : ring_Right r = some true := by
  rw [ring_Right_eq r h.2.1, decide_eq_true ⟨h.1, h.2.2.1, h.2.2.2.1, h.2.2.2.2.1, h.2.2.2.2.2⟩]
/-- The place of the i-th, and what lies there. -/
def rIx (r : RingRing) (i : Nat) : Nat := (r.First.toNat + i) % r.Buf.length
def rAt (r : RingRing) (i : Nat) : Int := (r.Buf[rIx r i]?).getD 0
def cont (r : RingRing) : List Int := (List.range r.Many.toNat).map (rAt r)
theorem rIx_lt {r : RingRing} (h : ringP r) (i : Nat) : rIx r i < r.Buf.length := Nat.mod_lt _ h.1
theorem rAt_lt {r : RingRing} (h : ringP r) (i : Nat) : rAt r i = r.Buf[rIx r i]'(rIx_lt h i) := by unfold rAt; rw [List.getElem?_eq_getElem (rIx_lt h i)]; rfl
theorem ring_at_eq (r : RingRing) (h : ringP r) (i : Nat) (hi : i ≤ 1000) : ring_at r (i : Int) = some ((rIx r i : Nat) : Int) := by
  have h0 := h.1
  have h4 := h.2.1
  have hF := h.2.2
  unfold ring_at
  rw [ck_t (decide_eq_true (by omega)), wr_in _ (by omega), Int.tmod_eq_emod_of_nonneg (by omega)]
  unfold rIx
  have e : r.First + (i : Int) = ((r.First.toNat + i : Nat) : Int) := by omega
  rw [e]; rfl
theorem ring_List_eq (r : RingRing) (h : ringP r) : ring_List r = some (cont r) := by
  have h4 := h.2.1
  have hM := h.2.2.2.2
  unfold ring_List
  rw [bnd_eq (ring_Right_t h), Bool.not_true, fk_f]
  refine lp_upS r.Many.toNat (by unfold FU; omega) (fun k s => s = (List.range k).map (rAt r)) [] rfl ?_
  rintro nx k s hk rfl hnx
  dsimp only
  have hl : ((List.range k).map (rAt r)).length = k := by simp
  by_cases c : k < r.Many.toNat
  rotate_left
  · rw [decide_eq_false (by omega), fk_f, show k = r.Many.toNat by omega]; rfl
  rw [decide_eq_true (by omega), fk_t, bnd_eq (ring_at_eq r h k (by omega)), ix_lt (rIx_lt h k), ck_t (by rw [hl]; simp; omega), wr_succ k _ c (by omega)]
  refine hnx _ c ?_
  rw [List.range_succ, List.map_append, List.map_singleton, rAt_lt h]
theorem mod_ne {a b n : Nat} (hab : a < b) (hb : b < a + n) : a % n ≠ b % n := by
  intro e
  have h1 := Nat.sub_mod_eq_zero_of_mod_eq e.symm
  rw [Nat.mod_eq_of_lt (by omega)] at h1
  omega
theorem rIx_inj {r : RingRing} (h : ringP r) {i j : Nat} (hij : i < j) (hj : j < r.Buf.length) : rIx r i ≠ rIx r j := mod_ne (by omega) (by omega)
def pushV (r : RingRing) (v : Int) : RingRing := ⟨r.Buf.set (rIx r r.Many.toNat) v, r.First, r.Many + 1⟩
theorem ring_Push_eq (r : RingRing) (v : Int) (h : ringP r) : ring_Push r v = some (if r.Many = (r.Buf.length : Int) then (r, 3) else (pushV r v, 0)) := by
  have h4 := h.2.1
  have hM := h.2.2.2.2
  unfold ring_Push
  rw [bnd_eq (ring_Right_t h), Bool.not_true, fk_f]
  by_cases c : r.Many = (r.Buf.length : Int)
  · rw [decide_eq_true c, fk_t, if_pos c]
  rw [decide_eq_false c, fk_f, if_neg c, ck_t (by simp; omega), List.nil_append]
  have e : ring_at r r.Many = some ((rIx r r.Many.toNat : Nat) : Int) := by
    have := ring_at_eq r h r.Many.toNat (by omega)
    rwa [show ((r.Many.toNat : Nat) : Int) = r.Many by omega] at this
  have hlt := rIx_lt h r.Many.toNat
  show bnd (ring_at r r.Many) _ = _
  rw [bnd_eq e, ck_t (by simp; omega), Int.toNat_natCast, ox_lt hlt, wr_in _ (by omega)]
  rfl
theorem pushV_ok {r : RingRing} {v : Int} (h : ringP r) (c : r.Many ≠ (r.Buf.length : Int)) : ringP (pushV r v) ∧ (pushV r v).Buf.length = r.Buf.length ∧ cont (pushV r v) = cont r ++ [v] := by
  have h4 := h.2.1
  have hM := h.2.2.2.2
  have hl : (pushV r v).Buf.length = r.Buf.length := by unfold pushV; simp
  have hix : ∀ i, rIx (pushV r v) i = rIx r i := fun i => by unfold rIx; rw [hl]; rfl
  refine ⟨⟨by rw [hl]; exact h.1, by rw [hl]; exact h4, h.2.2.1, by rw [hl]; exact h.2.2.2.1, by show 0 ≤ r.Many + 1; omega, by rw [hl]; show r.Many + 1 ≤ _; omega⟩, hl, ?_⟩
  have e : (pushV r v).Many.toNat = r.Many.toNat + 1 := by show (r.Many + 1).toNat = _; omega
  unfold cont
  rw [e, List.range_succ, List.map_append, List.map_singleton]
  have hlt := rIx_lt h r.Many.toNat
  congr 1
  · refine List.map_congr_left fun i hi => ?_
    have hi : i < r.Many.toNat := by simpa using hi
    unfold rAt
    rw [hix]
    show ((r.Buf.set (rIx r r.Many.toNat) v)[rIx r i]?).getD 0 = _
    rw [List.getElem?_set_ne (fun c => rIx_inj h hi (by omega) c.symm)]
  · unfold rAt
    rw [hix]
    show [((r.Buf.set (rIx r r.Many.toNat) v)[rIx r r.Many.toNat]?).getD 0] = _
    rw [List.getElem?_set_self hlt]; rfl
def popV (r : RingRing) : RingRing := ⟨r.Buf, ((rIx r 1 : Nat) : Int), r.Many - 1⟩
theorem ring_Pop_eq (r : RingRing) (h : ringP r) : ring_Pop r = some (if r.Many = 0 then (0, r, 4) else (rAt r 0, popV r, 0)) := by
  have h4 := h.2.1
  have hM := h.2.2.2.2
  unfold ring_Pop
  rw [bnd_eq (ring_Right_t h), Bool.not_true, fk_f]
  by_cases c : r.Many = 0
  · rw [decide_eq_true c, fk_t, if_pos c]
  have eo : ring_own r = some r := by
    unfold ring_own
    rw [ck_t (by simp; omega), List.nil_append]
  rw [decide_eq_false c, fk_f, if_neg c, bnd_eq eo]
  have hF := h.2.2
  have hlt : r.First.toNat < r.Buf.length := by omega
  have e1 : ring_at r (1 : Int) = some ((rIx r 1 : Nat) : Int) := ring_at_eq r h 1 (by omega)
  rw [ix_int hF.1 hlt, bnd_eq e1, wr_in _ (by omega)]
  have e0 : rIx r 0 = r.First.toNat := by unfold rIx; rw [Nat.add_zero, Nat.mod_eq_of_lt hlt]
  have ea : rAt r 0 = r.Buf[r.First.toNat] := by unfold rAt; rw [e0, List.getElem?_eq_getElem hlt]; rfl
  rw [ea]; rfl
theorem popV_ok {r : RingRing} (h : ringP r) (c : r.Many ≠ 0) : ringP (popV r) ∧ (popV r).Buf.length = r.Buf.length ∧ cont r = rAt r 0 :: cont (popV r) ∧ (popV r).Many.toNat + 1 = r.Many.toNat := by
  have h4 := h.2.1
  have hM := h.2.2.2.2
  have hF := h.2.2
  have hlt := rIx_lt h 1
  have e : r.Many.toNat = (popV r).Many.toNat + 1 := by show _ = (r.Many - 1).toNat + 1; omega
  refine ⟨⟨h.1, h4, by show (0 : Int) ≤ ((rIx r 1 : Nat) : Int); omega, by show ((rIx r 1 : Nat) : Int) < _; show _ < (r.Buf.length : Int); omega, by show 0 ≤ r.Many - 1; omega, by show r.Many - 1 ≤ (r.Buf.length : Int); omega⟩, rfl, ?_, e.symm⟩
  unfold cont
  rw [e, List.range_succ_eq_map, List.map_cons, List.map_map]
  congr 1
  refine List.map_congr_left fun i _ => ?_
  show rAt r (i + 1) = rAt (popV r) i
  unfold rAt
  have : rIx (popV r) i = rIx r (i + 1) := by
    unfold rIx
    show (((rIx r 1 : Nat) : Int).toNat + i) % r.Buf.length = _
    rw [Int.toNat_natCast]
    unfold rIx
    rw [Nat.mod_add_mod, show r.First.toNat + 1 + i = r.First.toNat + (i + 1) by omega]
  rw [this]; rfl
theorem ring_Put_ex (r : RingRing) (v : Int) (h : ringP r) : ∃ r', ring_Put r v = some r' ∧ ringP r' ∧ r'.Buf.length = r.Buf.length ∧ (r.Many ≠ (r.Buf.length : Int) → cont r' = cont r ++ [v] ∧ r'.Many = r.Many + 1) := by
  unfold ring_Put
  rw [bnd_eq (ring_Push_eq r v h)]
  by_cases c : r.Many = (r.Buf.length : Int)
  · have hM := h.2.2.2.2
    have c0 : r.Many ≠ 0 := by have := h.1; omega
    obtain ⟨p1, p2, p3, p4⟩ := popV_ok h c0
    rw [if_pos c, decide_eq_true rfl, Bool.not_true, fk_f, bnd_eq (ring_Pop_eq r h), if_neg c0, bnd_eq (ring_Push_eq (popV r) v p1)]
    have c1 : (popV r).Many ≠ ((popV r).Buf.length : Int) := by rw [p2]; show r.Many - 1 ≠ _; omega
    obtain ⟨q1, q2, q3⟩ := pushV_ok (v := v) p1 c1
    rw [if_neg c1]
    exact ⟨_, rfl, q1, by rw [q2, p2], fun h => absurd c h⟩
  · obtain ⟨q1, q2, q3⟩ := pushV_ok (v := v) h c
    rw [if_neg c]
    exact ⟨_, rfl, q1, q2, fun _ => ⟨q3, rfl⟩⟩
theorem ring_New_eq (n : Int) (h1 : 1 ≤ n) (h2 : n ≤ 4) : ring_New n = some (⟨List.replicate n.toNat 0, 0, 0⟩, 0) := by
  unfold ring_New
  refine jn_to false (fun k => by rw [decide_eq_false (by omega), fk_f, decide_eq_false (by omega)]) ?_
  rw [fk_f, ck_t (by simp; omega)]
theorem ringP_new {n : Int} (h1 : 1 ≤ n) (h2 : n ≤ 4) : ringP ⟨List.replicate n.toNat 0, 0, 0⟩ ∧ cont ⟨List.replicate n.toNat 0, 0, 0⟩ = [] := by
  refine ⟨⟨?_, ?_, Int.le_refl _, ?_, Int.le_refl _, ?_⟩, rfl⟩ <;> simp <;> omega
theorem cont_len {r : RingRing} (h : ringP r) : (cont r).length = r.Many.toNat ∧ (cont r).length ≤ 4 := by
  have h4 := h.2.1
  have hM := h.2.2.2.2
  unfold cont
  rw [List.length_map, List.length_range]
  exact ⟨rfl, by omega⟩
end Go.Proofs.YtldlcdnhdedoeaaGreat
namespace Go.Proofs.YtldlcdnhdedoeaaGreat
open Go Go.VC
noncomputable def port_may_1 (a0 : Int) : Option Bool :=
  fk (decide (a0 ≥ (0 : Int))) (some (decide (a0 < (4 : Int)))) (some false)
theorem port_may_1_w (a0 : Int) (r : Bool) (h : port_may_1 a0 = some r) : Go.VC.Spec Tryz.prog 123 [.d (.int .i64 a0)] (fun y => y = E_Bool r) := by
  refine Go.VC.Spec.of_xc (args := [.d (.int .i64 a0)]) (fn := Tryz.f123) tab ⟨[(0, [0]), (1, [2])], [], [], []⟩ 9 [.tmp 2] rfl rfl rfl rfl rfl rfl ?_
  conv => whnf
  refine fkS h (fun h => ?_) (fun h => ?_)
  · conv => whnf
    exact rt (E := E_Bool) h rfl
  conv => whnf
  exact rt (E := E_Bool) h rfl

end Go.Proofs.YtldlcdnhdedoeaaGreat
namespace Go.Proofs.YtldlcdnhdedoeaaGreat
open Go Go.VC
noncomputable def port_may (a0 : Port) : Option Bool :=
  bnd (port_may_1 a0.From) fun x1 => fk x1 (bnd (port_may_1 a0.To) fun x2 => fk x2 (fk (!decide (a0.From = a0.To)) (fk (decide (a0.Cap ≥ (1 : Int))) (some (decide (a0.Cap ≤ (4 : Int)))) (some false)) (some false)) (some false)) (some false)
theorem port_may_w (a0 : Port) (r : Bool) (h : port_may a0 = some r) : Go.VC.Spec Tryz.prog 69 [.agg (Port.enc a0)] (fun y => y = E_Bool r) := by
  refine Go.VC.Spec.of_xc (args := [.agg (Port.enc a0)]) (fn := Tryz.f69) tab ⟨[(0, [1]), (1, [1, 3]), (2, [2])], [], [], []⟩ 31 [.tmp 2] rfl rfl rfl rfl rfl rfl ?_
  conv => whnf
  refine caS (E := E_Bool) h (port_may_1_w a0.From) rfl (fun _ => rfl) (fun x1 h => ?_)
  conv => whnf
  refine fkS h (fun h => ?_) (fun h => ?_)
  · conv => whnf
    refine caS (E := E_Bool) h (port_may_1_w a0.To) rfl (fun _ => rfl) (fun x2 h => ?_)
    conv => whnf
    refine fkS h (fun h => ?_) (fun h => ?_)
    · conv => whnf
      refine fkS h (fun h => ?_) (fun h => ?_)
      · conv => whnf
        refine fkS h (fun h => ?_) (fun h => ?_)
        · conv => whnf
          exact rt (E := E_Bool) h rfl
        conv => whnf
        exact rt (E := E_Bool) h rfl
      conv => whnf
      exact rt (E := E_Bool) h rfl
    conv => whnf
    exact rt (E := E_Bool) h rfl
  conv => whnf
  exact rt (E := E_Bool) h rfl

end Go.Proofs.YtldlcdnhdedoeaaGreat
namespace Go.Proofs.YtldlcdnhdedoeaaGreat
open Go Go.VC
noncomputable def port_Right (a0 : List PortLine) : Option Bool :=
  lp (fun nx1 (v1 : Int) => fk (decide (v1 < (a0.length : Int))) (ix a0 v1 fun x2 => jn (fun (w3 : Bool) => fk w3 (some false) (nx1 (wr (v1 + (1 : Int))))) (fun k3 => bnd (port_may x2.Port) fun x4 => fk (!x4) (k3 true) (bnd (ring_Right x2.Under) fun x5 => fk (!x5) (k3 true) (bnd (ring_Right x2.Got) fun x6 => fk (!x6) (k3 true) (fk (!decide ((x2.Under.Buf.length : Int) = x2.Port.Cap)) (k3 true) (k3 (!decide ((x2.Got.Buf.length : Int) = x2.Port.Cap)))))))) (some (decide ((a0.length : Int) ≤ (4 : Int))))) FU (0 : Int)
theorem port_Right_w (a0 : List PortLine) (r : Bool) (h : port_Right a0 = some r) : Go.VC.Spec Tryz.prog 63 [.d (.sl (a0.map PortLine.enc))] (fun y => y = E_Bool r) := by
  refine Go.VC.Spec.of_xc (args := [.d (.sl (a0.map PortLine.enc))]) (fn := Tryz.f63) tab ⟨[(0, [0]), (1, [0, 5, 6, 7]), (2, [0, 5, 6, 7, 8]), (3, [0, 4, 5, 6, 7]), (4, [0, 5, 6, 7, 46]), (5, [2]), (6, [0, 5, 6, 7]), (7, [2])], [], [100046], []⟩ 51 [.tmp 2] rfl rfl rfl rfl rfl rfl ?_
  conv => whnf
  refine lenS a0 PortLine.enc rfl ?_
  conv => whnf
  refine lpS (fun v1 => ⟨[(0, .l (.d (.sl (a0.map PortLine.enc)))), (5, .l (.d (.sl (a0.map PortLine.enc)))), (6, .l (.d (.int .i64 (a0.length : Int)))), (7, .l (.d (.int .i64 v1)))], 51, [], [], []⟩) h (Weak.refl _) (fun _ nx1 hn1 v1 h => ?_)
  conv => whnf
  refine fkS h (fun h => ?_) (fun h => ?_)
  · conv => whnf
    refine ixS (enc := PortLine.enc) h rfl (fun _ => rfl) (fun x2 h => ?_)
    conv => whnf
    refine jnS (fun w3 => ⟨[(0, .l (.d (.sl (a0.map PortLine.enc)))), (5, .l (.d (.sl (a0.map PortLine.enc)))), (6, .l (.d (.int .i64 (a0.length : Int)))), (7, .l (.d (.int .i64 v1))), (46, .l (.d (.bool w3)))], 51, [], [], []⟩) h (fun k3 hk3 h => ?_) (fun w3 h => ?_)
    · conv => whnf
      refine caS (E := E_Bool) h (port_may_w x2.Port) rfl (fun _ => rfl) (fun x4 h => ?_)
      conv => whnf
      refine fkS h (fun h => ?_) (fun h => ?_)
      · conv => whnf
        exact jeS hk3 h (Weak.refl _)
      conv => whnf
      refine caS (E := E_Bool) h (ring_Right_w x2.Under) rfl (fun _ => rfl) (fun x5 h => ?_)
      conv => whnf
      refine fkS h (fun h => ?_) (fun h => ?_)
      · conv => whnf
        exact jeS hk3 h (Weak.refl _)
      conv => whnf
      refine caS (E := E_Bool) h (ring_Right_w x2.Got) rfl (fun _ => rfl) (fun x6 h => ?_)
      conv => whnf
      refine fkS h (fun h => ?_) (fun h => ?_)
      · conv => whnf
        exact jeS hk3 h (Weak.refl _)
      conv => whnf
      refine lenS x2.Under.Buf (eI .i64) rfl ?_
      conv => whnf
      refine fkS h (fun h => ?_) (fun h => ?_)
      · conv => whnf
        exact jeS hk3 h (Weak.refl _)
      conv => whnf
      refine lenS x2.Got.Buf (eI .i64) rfl ?_
      conv => whnf
      exact jeS hk3 h (Weak.refl _)
    conv => whnf
    refine fkS h (fun h => ?_) (fun h => ?_)
    · conv => whnf
      exact rt (E := E_Bool) h rfl
    conv => whnf
    exact leS hn1 h (Weak.refl _)
  conv => whnf
  refine lenS a0 PortLine.enc rfl ?_
  conv => whnf
  exact rt (E := E_Bool) h rfl

end Go.Proofs.YtldlcdnhdedoeaaGreat
namespace Go.Proofs.YtldlcdnhdedoeaaGreat
open Go Go.VC
noncomputable def port_Open (a0 : List Port) : Option ((List PortLine) × Int) :=
  lp (fun nx1 (v1 : (List PortLine) × Int) => fk (decide (v1.2 < (a0.length : Int))) (ix a0 v1.2 fun x2 => bnd (port_may x2) fun x3 => fk (!x3) (some ([], (1 : Int))) (bnd (ring_New x2.Cap) fun x4 => bnd (ring_New x2.Cap) fun x5 => ck (decide ((v1.1.length + ([⟨x2, x4.1, x5.1⟩] : List PortLine).length) * 104 ≤ 140737488355328)) (nx1 (v1.1 ++ ([⟨x2, x4.1, x5.1⟩] : List PortLine), (wr (v1.2 + (1 : Int))))))) (fk (decide ((v1.1.length : Int) > (4 : Int))) (some ([], (1 : Int))) (some (v1.1, (0 : Int))))) FU ([], (0 : Int))
theorem port_Open_w (a0 : List Port) (r : (List PortLine) × Int) (h : port_Open a0 = some r) : Go.VC.Spec Tryz.prog 23 [.d (.sl (a0.map Port.enc))] (fun y => y = E_ListPortLine_Int r) := by
  refine Go.VC.Spec.of_xc (args := [.d (.sl (a0.map Port.enc))]) (fn := Tryz.f23) tab ⟨[(0, [0]), (1, [0, 4]), (2, [4, 11, 12, 13]), (3, [4, 11, 12, 13, 14]), (4, [4, 6, 11, 12, 13]), (5, [4, 6, 11, 12, 13, 19]), (6, [2, 3]), (7, [4, 6, 7, 11, 12, 13]), (8, [4, 6, 7, 9, 11, 12, 13]), (9, [4, 11, 12, 13]), (10, [4, 11, 12, 13]), (11, [4, 42]), (12, [2, 3]), (13, [2, 3])], [], [], []⟩ 44 [.tmp 2, .tmp 3] rfl rfl rfl rfl rfl rfl ?_
  conv => whnf
  refine lenS a0 Port.enc rfl ?_
  conv => whnf
  refine lpS (fun v1 => ⟨[(4, .l (.own 5)), (11, .l (.d (.sl (a0.map Port.enc)))), (12, .l (.d (.int .i64 (a0.length : Int)))), (13, .l (.d (.int .i64 v1.2)))], 44, [], [], [(5, 95, 9, v1.1.map PortLine.enc)]⟩) h (Weak.trans (Weak.nilO _ 4 5 95 9 rfl) (Weak.refl _)) (fun _ nx1 hn1 v1 h => ?_)
  conv => whnf
  refine fkS h (fun h => ?_) (fun h => ?_)
  · conv => whnf
    refine ixS (enc := Port.enc) h rfl (fun _ => rfl) (fun x2 h => ?_)
    conv => whnf
    refine caS (E := E_Bool) h (port_may_w x2) rfl (fun _ => rfl) (fun x3 h => ?_)
    conv => whnf
    refine fkS h (fun h => ?_) (fun h => ?_)
    · conv => whnf
      exact rt (E := E_ListPortLine_Int) h rfl
    conv => whnf
    refine ccS (E := E_RingRing_Int) h (ring_New_w x2.Cap) rfl rfl (fun x4 h => ?_)
    conv => whnf
    refine ccS (E := E_RingRing_Int) h (ring_New_w x2.Cap) rfl rfl (fun x5 h => ?_)
    conv => whnf
    refine liS ([⟨x2, x4.1, x5.1⟩] : List PortLine) PortLine.enc rfl rfl ?_
    conv => whnf
    refine apS (enc := PortLine.enc) (l1 := v1.1) (l2 := ([⟨x2, x4.1, x5.1⟩] : List PortLine)) h rfl rfl (fun _ => rfl) (fun h => ?_)
    conv => whnf
    exact leS hn1 h (Weak.refl _)
  conv => whnf
  refine lenS v1.1 PortLine.enc rfl ?_
  conv => whnf
  refine fkS h (fun h => ?_) (fun h => ?_)
  · conv => whnf
    exact rt (E := E_ListPortLine_Int) h rfl
  conv => whnf
  exact rt (E := E_ListPortLine_Int) h rfl

end Go.Proofs.YtldlcdnhdedoeaaGreat
namespace Go.Proofs.YtldlcdnhdedoeaaGreat
open Go Go.VC
noncomputable def port_with (a0 : List PortLine) (a1 : Int) (a2 : PortLine) : Option (List PortLine) :=
  ck (decide ((([] : List PortLine).length + a0.length) * 104 ≤ 140737488355328)) (ck (decide (0 ≤ a1) && decide (a1 < ((([] : List PortLine) ++ a0).length : Int))) (ox (([] : List PortLine) ++ a0) a1.toNat fun x1 => some ((([] : List PortLine) ++ a0).set a1.toNat a2)))
theorem port_with_w (a0 : List PortLine) (a1 : Int) (a2 : PortLine) (r : List PortLine) (h : port_with a0 a1 a2 = some r) : Go.VC.Spec Tryz.prog 80 [.d (.sl (a0.map PortLine.enc)), .d (.int .i64 a1), .agg (PortLine.enc a2)] (fun y => y = E_ListPortLine r) := by
  refine Go.VC.Spec.of_xc (args := [.d (.sl (a0.map PortLine.enc)), .d (.int .i64 a1), .agg (PortLine.enc a2)]) (fn := Tryz.f80) tab ⟨[(0, [0, 1, 5]), (1, [1, 5, 7]), (2, [7]), (3, [6])], [], [], []⟩ 16 [.tmp 6] rfl rfl rfl rfl rfl rfl ?_
  conv => whnf
  refine liS ([] : List PortLine) PortLine.enc rfl rfl ?_
  conv => whnf
  refine apS (enc := PortLine.enc) (l1 := ([] : List PortLine)) (l2 := a0) h rfl rfl (fun _ => rfl) (fun h => ?_)
  conv => whnf
  refine ioS (enc := PortLine.enc) h rfl (fun h => ?_)
  conv => whnf
  refine seS (enc := PortLine.enc) h rfl (fun x1 => a2) (fun _ => rfl) (fun x1 h => ?_)
  conv => whnf
  exact rt (E := E_ListPortLine) h rfl

end Go.Proofs.YtldlcdnhdedoeaaGreat
namespace Go.Proofs.YtldlcdnhdedoeaaGreat
open Go Go.VC
noncomputable def port_Send (a0 : List PortLine) (a1 : Int) (a2 : Int) (a3 : Int) : Option ((List PortLine) × Int) :=
  bnd (port_Right a0) fun x1 => fk (!x1) (some (a0, (1 : Int))) (jn (fun (w2 : Bool) => fk w2 (some (a0, (4 : Int))) (ix a0 a2 fun x3 => fk (!decide (x3.Port.From = a1)) (some (a0, (7 : Int))) (ix a0 a2 fun x4 => bnd (ring_Push x4.Under a3) fun x5 => fk (!decide (x5.2 = (0 : Int))) (some (a0, x5.2)) (bnd (port_with a0 a2 ⟨x4.Port, x5.1, x4.Got⟩) fun x6 => some (x6, (0 : Int)))))) (fun k2 => fk (decide (a2 < (0 : Int))) (k2 true) (k2 (decide (a2 ≥ (a0.length : Int))))))
theorem port_Send_w (a0 : List PortLine) (a1 : Int) (a2 : Int) (a3 : Int) (r : (List PortLine) × Int) (h : port_Send a0 a1 a2 a3 = some r) : Go.VC.Spec Tryz.prog 29 [.d (.sl (a0.map PortLine.enc)), .d (.int .i64 a1), .d (.int .i64 a2), .d (.int .i64 a3)] (fun y => y = E_ListPortLine_Int r) := by
  refine Go.VC.Spec.of_xc (args := [.d (.sl (a0.map PortLine.enc)), .d (.int .i64 a1), .d (.int .i64 a2), .d (.int .i64 a3)]) (fn := Tryz.f29) tab ⟨[(0, [0, 1, 2, 3]), (1, [0, 1, 2, 3, 13]), (2, [8, 9]), (3, [0, 1, 2, 3, 18]), (4, [8, 9]), (5, [0, 2, 3, 28]), (6, [8, 9]), (7, [0, 2, 3, 10]), (8, [0, 2, 10, 11, 12]), (9, [0, 2, 10, 11, 12, 50]), (10, [8, 9]), (11, [0, 2, 10]), (12, [8, 9])], [], [100018], []⟩ 59 [.tmp 8, .tmp 9] rfl rfl rfl rfl rfl rfl ?_
  conv => whnf
  refine caS (E := E_Bool) h (port_Right_w a0) rfl (fun _ => rfl) (fun x1 h => ?_)
  conv => whnf
  refine fkS h (fun h => ?_) (fun h => ?_)
  · conv => whnf
    exact rt (E := E_ListPortLine_Int) h rfl
  conv => whnf
  refine jnS (fun w2 => ⟨[(0, .l (.d (.sl (a0.map PortLine.enc)))), (1, .l (.d (.int .i64 a1))), (2, .l (.d (.int .i64 a2))), (3, .l (.d (.int .i64 a3))), (18, .l (.d (.bool w2)))], 59, [], [], []⟩) h (fun k2 hk2 h => ?_) (fun w2 h => ?_)
  · conv => whnf
    refine fkS h (fun h => ?_) (fun h => ?_)
    · conv => whnf
      exact jeS hk2 h (Weak.refl _)
    conv => whnf
    refine lenS a0 PortLine.enc rfl ?_
    conv => whnf
    exact jeS hk2 h (Weak.refl _)
  conv => whnf
  refine fkS h (fun h => ?_) (fun h => ?_)
  · conv => whnf
    exact rt (E := E_ListPortLine_Int) h rfl
  conv => whnf
  refine ixS (enc := PortLine.enc) h rfl (fun _ => rfl) (fun x3 h => ?_)
  conv => whnf
  refine fkS h (fun h => ?_) (fun h => ?_)
  · conv => whnf
    exact rt (E := E_ListPortLine_Int) h rfl
  conv => whnf
  refine ixS (enc := PortLine.enc) h rfl (fun _ => rfl) (fun x4 h => ?_)
  conv => whnf
  refine ccS (E := E_RingRing_Int) h (ring_Push_w x4.Under a3) rfl rfl (fun x5 h => ?_)
  conv => whnf
  refine fkS h (fun h => ?_) (fun h => ?_)
  · conv => whnf
    exact rt (E := E_ListPortLine_Int) h rfl
  conv => whnf
  refine ccS (E := E_ListPortLine) h (port_with_w a0 a2 ⟨x4.Port, x5.1, x4.Got⟩) rfl rfl (fun x6 h => ?_)
  conv => whnf
  exact rt (E := E_ListPortLine_Int) h rfl

end Go.Proofs.YtldlcdnhdedoeaaGreat
namespace Go.Proofs.YtldlcdnhdedoeaaGreat
open Go Go.VC
noncomputable def port_Read (a0 : List PortLine) (a1 : Int) (a2 : Int) : Option (Int × (List PortLine) × Int) :=
  bnd (port_Right a0) fun x1 => fk (!x1) (some ((0 : Int), a0, (1 : Int))) (jn (fun (w2 : Bool) => fk w2 (some ((0 : Int), a0, (4 : Int))) (ix a0 a2 fun x3 => fk (!decide (x3.Port.To = a1)) (some ((0 : Int), a0, (7 : Int))) (ix a0 a2 fun x4 => bnd (ring_Pop x4.Got) fun x5 => fk (!decide (x5.2.2 = (0 : Int))) (some ((0 : Int), a0, x5.2.2)) (bnd (port_with a0 a2 ⟨x4.Port, x4.Under, x5.2.1⟩) fun x6 => some (x5.1, x6, (0 : Int)))))) (fun k2 => fk (decide (a2 < (0 : Int))) (k2 true) (k2 (decide (a2 ≥ (a0.length : Int))))))
theorem port_Read_w (a0 : List PortLine) (a1 : Int) (a2 : Int) (r : Int × (List PortLine) × Int) (h : port_Read a0 a1 a2 = some r) : Go.VC.Spec Tryz.prog 30 [.d (.sl (a0.map PortLine.enc)), .d (.int .i64 a1), .d (.int .i64 a2)] (fun y => y = E_Int_ListPortLine_Int r) := by
  refine Go.VC.Spec.of_xc (args := [.d (.sl (a0.map PortLine.enc)), .d (.int .i64 a1), .d (.int .i64 a2)]) (fn := Tryz.f30) tab ⟨[(0, [0, 1, 2]), (1, [0, 1, 2, 13]), (2, [6, 7, 8]), (3, [0, 1, 2, 18]), (4, [6, 7, 8]), (5, [0, 2, 28]), (6, [6, 7, 8]), (7, [0, 2, 9]), (8, [0, 2, 9, 10, 11, 12]), (9, [0, 2, 9, 10, 11, 12, 50]), (10, [6, 7, 8]), (11, [0, 2, 9, 10]), (12, [6, 7, 8])], [], [100018], []⟩ 60 [.tmp 6, .tmp 7, .tmp 8] rfl rfl rfl rfl rfl rfl ?_
  conv => whnf
  refine caS (E := E_Bool) h (port_Right_w a0) rfl (fun _ => rfl) (fun x1 h => ?_)
  conv => whnf
  refine fkS h (fun h => ?_) (fun h => ?_)
  · conv => whnf
    exact rt (E := E_Int_ListPortLine_Int) h rfl
  conv => whnf
  refine jnS (fun w2 => ⟨[(0, .l (.d (.sl (a0.map PortLine.enc)))), (1, .l (.d (.int .i64 a1))), (2, .l (.d (.int .i64 a2))), (18, .l (.d (.bool w2)))], 60, [], [], []⟩) h (fun k2 hk2 h => ?_) (fun w2 h => ?_)
  · conv => whnf
    refine fkS h (fun h => ?_) (fun h => ?_)
    · conv => whnf
      exact jeS hk2 h (Weak.refl _)
    conv => whnf
    refine lenS a0 PortLine.enc rfl ?_
    conv => whnf
    exact jeS hk2 h (Weak.refl _)
  conv => whnf
  refine fkS h (fun h => ?_) (fun h => ?_)
  · conv => whnf
    exact rt (E := E_Int_ListPortLine_Int) h rfl
  conv => whnf
  refine ixS (enc := PortLine.enc) h rfl (fun _ => rfl) (fun x3 h => ?_)
  conv => whnf
  refine fkS h (fun h => ?_) (fun h => ?_)
  · conv => whnf
    exact rt (E := E_Int_ListPortLine_Int) h rfl
  conv => whnf
  refine ixS (enc := PortLine.enc) h rfl (fun _ => rfl) (fun x4 h => ?_)
  conv => whnf
  refine ccS (E := E_Int_RingRing_Int) h (ring_Pop_w x4.Got) rfl rfl (fun x5 h => ?_)
  conv => whnf
  refine fkS h (fun h => ?_) (fun h => ?_)
  · conv => whnf
    exact rt (E := E_Int_ListPortLine_Int) h rfl
  conv => whnf
  refine ccS (E := E_ListPortLine) h (port_with_w a0 a2 ⟨x4.Port, x4.Under, x5.2.1⟩) rfl rfl (fun x6 h => ?_)
  conv => whnf
  exact rt (E := E_Int_ListPortLine_Int) h rfl

end Go.Proofs.YtldlcdnhdedoeaaGreat
namespace Go.Proofs.YtldlcdnhdedoeaaGreat
open Go Go.VC
noncomputable def port_Deliver (a0 : List PortLine) : Option (List PortLine) :=
  bnd (port_Right a0) fun x1 => fk (!x1) (some a0) (lp (fun nx2 (v2 : (List PortLine) × Int) => fk (decide (v2.2 < (a0.length : Int))) (ix a0 v2.2 fun x3 => lp (fun nx4 (v4 : (List Int) × Int × Int × (List Int) × Int × Int × Int) => fk (decide (v4.2.2.2.2.2.2 < x3.Under.Many)) (bnd (ring_Pop ⟨v4.1, v4.2.1, v4.2.2.1⟩) fun x5 => bnd (ring_Put ⟨v4.2.2.2.1, v4.2.2.2.2.1, v4.2.2.2.2.2.1⟩ x5.1) fun x6 => nx4 (x5.2.1.Buf, x5.2.1.First, x5.2.1.Many, x6.Buf, x6.First, x6.Many, (wr (v4.2.2.2.2.2.2 + (1 : Int))))) (bnd (port_with v2.1 v2.2 (⟨x3.Port, ⟨v4.1, v4.2.1, v4.2.2.1⟩, ⟨v4.2.2.2.1, v4.2.2.2.2.1, v4.2.2.2.2.2.1⟩⟩)) fun x7 => nx2 (x7, (wr (v2.2 + (1 : Int)))))) FU (x3.Under.Buf, x3.Under.First, x3.Under.Many, x3.Got.Buf, x3.Got.First, x3.Got.Many, (0 : Int))) (some v2.1)) FU (a0, (0 : Int)))
theorem port_Deliver_w (a0 : List PortLine) (r : List PortLine) (h : port_Deliver a0 = some r) : Go.VC.Spec Tryz.prog 37 [.d (.sl (a0.map PortLine.enc))] (fun y => y = E_ListPortLine r) := by
  refine Go.VC.Spec.of_xc (args := [.d (.sl (a0.map PortLine.enc))]) (fn := Tryz.f37) tab ⟨[(0, [0]), (1, [0, 11]), (2, [2]), (3, [0, 3]), (4, [3, 14, 15, 16]), (5, [3, 14, 15, 16, 17]), (6, [3, 4, 5, 14, 15, 16]), (7, [3, 4, 5, 14, 15, 16, 23, 24]), (8, [3, 4, 5, 14, 15, 16, 23, 24, 25]), (9, [3, 4, 5, 6, 7, 14, 15, 16, 23, 24]), (10, [3, 4, 5, 14, 15, 16, 23, 24]), (11, [3, 4, 5, 14, 15, 16, 23, 24]), (12, [3, 14, 15, 16]), (13, [3, 14, 15, 16]), (14, [2])], [], [], []⟩ 47 [.tmp 2] rfl rfl rfl rfl rfl rfl ?_
  conv => whnf
  refine caS (E := E_Bool) h (port_Right_w a0) rfl (fun _ => rfl) (fun x1 h => ?_)
  conv => whnf
  refine fkS h (fun h => ?_) (fun h => ?_)
  · conv => whnf
    exact rt (E := E_ListPortLine) h rfl
  conv => whnf
  refine lenS a0 PortLine.enc rfl ?_
  conv => whnf
  refine lpS (fun v2 => ⟨[(3, .l (.d (.sl (v2.1.map PortLine.enc)))), (14, .l (.d (.sl (a0.map PortLine.enc)))), (15, .l (.d (.int .i64 (a0.length : Int)))), (16, .l (.d (.int .i64 v2.2)))], 47, [], [], []⟩) h (Weak.refl _) (fun _ nx2 hn2 v2 h => ?_)
  conv => whnf
  refine fkS h (fun h => ?_) (fun h => ?_)
  · conv => whnf
    refine ixS (enc := PortLine.enc) h rfl (fun _ => rfl) (fun x3 h => ?_)
    conv => whnf
    refine lpS (fun v4 => ⟨[(3, .l (.d (.sl (v2.1.map PortLine.enc)))), (4, .l (.d (.int .i64 v2.2))), (5, .l (.ptr 6 0)), (14, .l (.d (.sl (a0.map PortLine.enc)))), (15, .l (.d (.int .i64 (a0.length : Int)))), (16, .l (.d (.int .i64 v2.2))), (23, .l (.d (.int .i64 x3.Under.Many))), (24, .l (.d (.int .i64 v4.2.2.2.2.2.2)))], 47, [], [(6, [.d (.int .i64 x3.Port.From), .d (.int .i64 x3.Port.To), .d (.int .i64 x3.Port.Cap), .d (.sl (v4.1.map (eI .i64))), .d (.int .i64 v4.2.1), .d (.int .i64 v4.2.2.1), .d (.sl (v4.2.2.2.1.map (eI .i64))), .d (.int .i64 v4.2.2.2.2.1), .d (.int .i64 v4.2.2.2.2.2.1)])], []⟩) h (Weak.refl _) (fun _ nx4 hn4 v4 h => ?_)
    conv => whnf
    refine fkS h (fun h => ?_) (fun h => ?_)
    · conv => whnf
      refine ccS (E := E_Int_RingRing_Int) h (ring_Pop_w ⟨v4.1, v4.2.1, v4.2.2.1⟩) rfl rfl (fun x5 h => ?_)
      conv => whnf
      refine ⟨6, ?_⟩
      conv => whnf
      refine dcS (E := E_RingRing) h (ring_Put_w ⟨v4.2.2.2.1, v4.2.2.2.2.1, v4.2.2.2.2.2.1⟩ x5.1) rfl (fun x6 h => ?_)
      conv => whnf
      refine drS (by kernel_rfl) ?_
      conv => whnf
      exact leS hn4 h (Weak.refl _)
    conv => whnf
    refine ccS (E := E_ListPortLine) h (port_with_w v2.1 v2.2 (⟨x3.Port, ⟨v4.1, v4.2.1, v4.2.2.1⟩, ⟨v4.2.2.2.1, v4.2.2.2.2.1, v4.2.2.2.2.2.1⟩⟩)) rfl rfl (fun x7 h => ?_)
    conv => whnf
    exact leS hn2 h (Weak.refl _)
  conv => whnf
  exact rt (E := E_ListPortLine) h rfl

end Go.Proofs.YtldlcdnhdedoeaaGreat
namespace Go.Proofs.YtldlcdnhdedoeaaGreat
open Go Go.VC
/-! Lines. -/
def portP (p : Port) : Prop := 0 ≤ p.From ∧ p.From < 4 ∧ 0 ≤ p.To ∧ p.To < 4 ∧ p.From ≠ p.To ∧ 1 ≤ p.Cap ∧ p.Cap ≤ 4
instance (p : Port) : Decidable (portP p) := by unfold portP; infer_instance
def lineP (x : PortLine) : Prop := portP x.Port ∧ ringP x.Under ∧ ringP x.Got ∧ (x.Under.Buf.length : Int) = x.Port.Cap ∧ (x.Got.Buf.length : Int) = x.Port.Cap
def linesP (l : List PortLine) : Prop := (∀ x ∈ l, lineP x) ∧ l.length ≤ 4
theorem port_may_1_eq (x : Int) : port_may_1 x = some (decide (0 ≤ x ∧ x < 4)) := by
  unfold port_may_1
  by_cases h : 0 ≤ x
  · rw [decide_eq_true (by omega), fk_t]; exact dec_iff ⟨fun a => ⟨h, a⟩, fun a => a.2⟩
  · rw [decide_eq_false (by omega), fk_f]; exact dec_f fun a => h a.1
theorem port_may_eq (p : Port) : port_may p = some (decide (portP p)) := by
  unfold port_may portP
  rw [bnd_eq (port_may_1_eq p.From)]
  by_cases h1 : 0 ≤ p.From ∧ p.From < 4
  rotate_left
  · rw [decide_eq_false h1, fk_f]; exact dec_f fun a => h1 ⟨a.1, a.2.1⟩
  rw [decide_eq_true h1, fk_t, bnd_eq (port_may_1_eq p.To)]
  by_cases h2 : 0 ≤ p.To ∧ p.To < 4
  rotate_left
  · rw [decide_eq_false h2, fk_f]; exact dec_f fun a => h2 ⟨a.2.2.1, a.2.2.2.1⟩
  rw [decide_eq_true h2, fk_t]
  by_cases h3 : p.From = p.To
  · rw [decide_eq_true h3, Bool.not_true, fk_f]; exact dec_f fun a => a.2.2.2.2.1 h3
  rw [decide_eq_false h3, Bool.not_false, fk_t]
  by_cases h4 : p.Cap ≥ 1
  · rw [decide_eq_true h4, fk_t]; exact dec_iff ⟨fun a => ⟨h1.1, h1.2, h2.1, h2.2, h3, h4, a⟩, fun a => a.2.2.2.2.2.2⟩
  · rw [decide_eq_false h4, fk_f]; exact dec_f fun a => h4 a.2.2.2.2.2.1
theorem port_Right_t {l : List PortLine} (h : linesP l) : port_Right l = some true := by
  unfold port_Right
  refine lp_up l.length (by unfold FU; have := h.2; omega) (fun _ => True) trivial ?_
  intro nx k hk _ hnx
  rw [lt_nat]
  by_cases c : k < l.length
  rotate_left
  · rw [decide_eq_false c, fk_f, decide_eq_true (by have := h.2; omega)]
  obtain ⟨h1, h2, h3, h4, h5⟩ := h.1 _ (List.getElem_mem c)
  rw [decide_eq_true c, fk_t, ix_lt c, wr_succ k _ c (by have := h.2; omega)]
  refine jn_to false (fun k3 => ?_) (by rw [fk_f]; exact hnx c trivial)
  rw [bnd_eq (port_may_eq _), decide_eq_true h1, Bool.not_true, fk_f, bnd_eq (ring_Right_t h2), Bool.not_true, fk_f, bnd_eq (ring_Right_t h3), Bool.not_true, fk_f, decide_eq_true h4, Bool.not_true, fk_f, decide_eq_true h5]
  rfl
def newL (p : Port) : PortLine := ⟨p, ⟨List.replicate p.Cap.toNat 0, 0, 0⟩, ⟨List.replicate p.Cap.toNat 0, 0, 0⟩⟩
theorem newL_ok {p : Port} (h : portP p) : lineP (newL p) ∧ cont (newL p).Under = [] ∧ cont (newL p).Got = [] := by
  have h6 := h.2.2.2.2.2.1
  have h7 := h.2.2.2.2.2.2
  have hr := ringP_new h6 h7
  refine ⟨⟨h, hr.1, hr.1, ?_, ?_⟩, hr.2, hr.2⟩ <;> (unfold newL; simp; omega)
theorem port_Open_eq (ps : List Port) (hl : ps.length ≤ 1000) : port_Open ps = some (if (∀ p ∈ ps, portP p) ∧ ps.length ≤ 4 then (ps.map newL, 0) else ([], 1)) := by
  unfold port_Open
  refine lp_upS ps.length (by unfold FU; omega) (fun k s => s = (ps.take k).map newL ∧ ∀ p ∈ ps.take k, portP p) [] ⟨rfl, fun p h => (List.not_mem_nil h).elim⟩ ?_
  rintro nx k s hk ⟨rfl, hp⟩ hnx
  dsimp only
  have hlen : ((ps.take k).map newL).length = k := by simp; omega
  rw [lt_nat, hlen]
  by_cases c : k < ps.length
  rotate_left
  · have e : k = ps.length := by omega
    subst e
    rw [List.take_length] at hp ⊢
    rw [decide_eq_false c, fk_f]
    by_cases h4 : ps.length ≤ 4
    · rw [decide_eq_false (by omega), fk_f, if_pos ⟨hp, h4⟩]
    · rw [decide_eq_true (by omega), fk_t, if_neg (fun h => h4 h.2)]
  rw [decide_eq_true c, fk_t, ix_lt c, bnd_eq (port_may_eq _)]
  by_cases hm : portP ps[k]
  rotate_left
  · rw [decide_eq_false hm, Bool.not_false, fk_t, if_neg (fun h => hm (h.1 _ (List.getElem_mem c)))]
  have hcap := hm.2.2.2.2.2
  rw [decide_eq_true hm, Bool.not_true, fk_f, bnd_eq (ring_New_eq _ hcap.1 hcap.2), bnd_eq (ring_New_eq _ hcap.1 hcap.2), ck_t (by simp; omega), wr_succ k _ c (by omega)]
  refine hnx _ c ⟨?_, fun p hp' => ?_⟩
  · rw [← List.take_append_getElem c, List.map_append]; rfl
  · rw [← List.take_append_getElem c] at hp'
    rcases List.mem_append.1 hp' with h | h
    · exact hp p h
    · rw [List.mem_singleton.1 h]; exact hm
theorem linesP_new {ps : List Port} (h : ∀ p ∈ ps, portP p) (h4 : ps.length ≤ 4) : linesP (ps.map newL) := ⟨fun x hx => by
  obtain ⟨p, hp, rfl⟩ := List.mem_map.1 hx
  exact (newL_ok (h p hp)).1, by rw [List.length_map]; exact h4⟩
theorem linesP_set {l : List PortLine} (h : linesP l) {i : Nat} {x : PortLine} (hx : lineP x) : linesP (l.set i x) := ⟨fun y hy => by
  rcases List.mem_or_eq_of_mem_set hy with h' | rfl
  · exact h.1 y h'
  · exact hx, by rw [List.length_set]; exact h.2⟩
theorem port_with_eq (l : List PortLine) (i : Nat) (x : PortLine) (h : linesP l) (hi : i < l.length) : port_with l (i : Int) x = some (l.set i x) := by
  have h4 := h.2
  unfold port_with
  rw [ck_t (by simp; omega), List.nil_append, ck_t (by simp; omega), Int.toNat_natCast, ox_lt hi]
def sendV (l : List PortLine) (f i v : Int) : List PortLine × Int :=
  if 0 ≤ i ∧ i < (l.length : Int) then (match l[i.toNat]? with | some x => if x.Port.From = f then (if x.Under.Many = (x.Under.Buf.length : Int) then (l, 3) else (l.set i.toNat ⟨x.Port, pushV x.Under v, x.Got⟩, 0)) else (l, 7) | none => (l, 4)) else (l, 4)
theorem port_Send_eq (l : List PortLine) (f i v : Int) (h : linesP l) : port_Send l f i v = some (sendV l f i v) := by
  unfold port_Send sendV
  rw [bnd_eq (port_Right_t h), Bool.not_true, fk_f]
  by_cases c : 0 ≤ i ∧ i < (l.length : Int)
  rotate_left
  · refine jn_to true (fun k => ?_) (by rw [fk_t, if_neg c])
    by_cases c0 : i < 0
    · rw [decide_eq_true c0, fk_t]
    · rw [decide_eq_false c0, fk_f, decide_eq_true (by omega)]
  refine jn_to false (fun k => by rw [decide_eq_false (by omega), fk_f, decide_eq_false (by omega)]) ?_
  have hi : i.toNat < l.length := by omega
  obtain ⟨h1, h2, h3, h4, h5⟩ := h.1 _ (List.getElem_mem hi)
  rw [fk_f, if_pos c, ix_int c.1 hi, ix_int c.1 hi, List.getElem?_eq_getElem hi]
  dsimp only
  by_cases cf : l[i.toNat].Port.From = f
  rotate_left
  · rw [decide_eq_false cf, Bool.not_false, fk_t, if_neg cf]
  rw [decide_eq_true cf, Bool.not_true, fk_f, if_pos cf, bnd_eq (ring_Push_eq _ v h2)]
  by_cases cm : l[i.toNat].Under.Many = (l[i.toNat].Under.Buf.length : Int)
  · rw [if_pos cm, if_pos cm]; rfl
  · rw [if_neg cm, if_neg cm]
    have := port_with_eq l i.toNat ⟨l[i.toNat].Port, pushV l[i.toNat].Under v, l[i.toNat].Got⟩ h hi
    rw [show ((i.toNat : Nat) : Int) = i by omega] at this
    dsimp only
    rw [decide_eq_true rfl, Bool.not_true, fk_f, bnd_eq this]
theorem sendV_ok {l : List PortLine} {f i v : Int} (h : linesP l) : linesP (sendV l f i v).1 ∧ (sendV l f i v).1.length = l.length := by
  unfold sendV
  split
  · split
    · rename_i x hx
      obtain ⟨h1, h2, h3, h4, h5⟩ := h.1 x (List.mem_of_getElem? hx)
      split
      · split
        · exact ⟨h, rfl⟩
        · rename_i c
          obtain ⟨p1, p2, p3⟩ := pushV_ok (v := v) h2 c
          exact ⟨linesP_set h ⟨h1, p1, h3, by rw [p2]; exact h4, h5⟩, List.length_set⟩
      · exact ⟨h, rfl⟩
    · exact ⟨h, rfl⟩
  · exact ⟨h, rfl⟩
def readV (l : List PortLine) (f i : Int) : Int × List PortLine × Int :=
  if 0 ≤ i ∧ i < (l.length : Int) then (match l[i.toNat]? with | some x => if x.Port.To = f then (if x.Got.Many = 0 then (0, l, 4) else (rAt x.Got 0, l.set i.toNat ⟨x.Port, x.Under, popV x.Got⟩, 0)) else (0, l, 7) | none => (0, l, 4)) else (0, l, 4)
theorem port_Read_eq (l : List PortLine) (f i : Int) (h : linesP l) : port_Read l f i = some (readV l f i) := by
  unfold port_Read readV
  rw [bnd_eq (port_Right_t h), Bool.not_true, fk_f]
  by_cases c : 0 ≤ i ∧ i < (l.length : Int)
  rotate_left
  · refine jn_to true (fun k => ?_) (by rw [fk_t, if_neg c])
    by_cases c0 : i < 0
    · rw [decide_eq_true c0, fk_t]
    · rw [decide_eq_false c0, fk_f, decide_eq_true (by omega)]
  refine jn_to false (fun k => by rw [decide_eq_false (by omega), fk_f, decide_eq_false (by omega)]) ?_
  have hi : i.toNat < l.length := by omega
  obtain ⟨h1, h2, h3, h4, h5⟩ := h.1 _ (List.getElem_mem hi)
  rw [fk_f, if_pos c, ix_int c.1 hi, ix_int c.1 hi, List.getElem?_eq_getElem hi]
  dsimp only
  by_cases cf : l[i.toNat].Port.To = f
  rotate_left
  · rw [decide_eq_false cf, Bool.not_false, fk_t, if_neg cf]
  rw [decide_eq_true cf, Bool.not_true, fk_f, if_pos cf, bnd_eq (ring_Pop_eq _ h3)]
  by_cases cm : l[i.toNat].Got.Many = 0
  · rw [if_pos cm, if_pos cm]; rfl
  · rw [if_neg cm, if_neg cm]
    have := port_with_eq l i.toNat ⟨l[i.toNat].Port, l[i.toNat].Under, popV l[i.toNat].Got⟩ h hi
    rw [show ((i.toNat : Nat) : Int) = i by omega] at this
    dsimp only
    rw [decide_eq_true rfl, Bool.not_true, fk_f, bnd_eq this]
theorem readV_ok {l : List PortLine} {f i : Int} (h : linesP l) : linesP (readV l f i).2.1 ∧ (readV l f i).2.1.length = l.length := by
  unfold readV
  split
  · split
    · rename_i x hx
      obtain ⟨h1, h2, h3, h4, h5⟩ := h.1 x (List.mem_of_getElem? hx)
      split
      · split
        · exact ⟨h, rfl⟩
        · rename_i c
          obtain ⟨p1, p2, _⟩ := popV_ok h3 c
          exact ⟨linesP_set h ⟨h1, h2, p1, h4, by rw [p2]; exact h5⟩, List.length_set⟩
      · exact ⟨h, rfl⟩
    · exact ⟨h, rfl⟩
  · exact ⟨h, rfl⟩
/-- What a line is when what is under way was delivered. -/
def gone (x y : PortLine) : Prop := y.Port = x.Port ∧ cont y.Under = [] ∧ (cont x.Got = [] → cont y.Got = cont x.Under)
theorem port_Deliver_ex (l : List PortLine) (h : linesP l) : ∃ l', port_Deliver l = some l' ∧ linesP l' ∧ l'.length = l.length ∧ ∀ (i : Nat) (x y : PortLine), l[i]? = some x → l'[i]? = some y → gone x y := by
  have key : ∃ l', port_Deliver l = some l' ∧ (linesP l' ∧ l'.length = l.length ∧ ∀ (i : Nat) (x y : PortLine), l[i]? = some x → l'[i]? = some y → gone x y) := by
    unfold port_Deliver
    rw [bnd_eq (port_Right_t h), Bool.not_true, fk_f]
    refine lp_upS_ex l.length (by unfold FU; have := h.2; omega) (fun k s => linesP s ∧ s.length = l.length ∧ (∀ (i : Nat) (x y : PortLine), i < k → l[i]? = some x → s[i]? = some y → gone x y)) (fun l' : List PortLine => linesP l' ∧ l'.length = l.length ∧ ∀ (i : Nat) (x y : PortLine), l[i]? = some x → l'[i]? = some y → gone x y) l ⟨h, rfl, fun i x y hi => by omega⟩ ?_
    rintro nx k s hk ⟨hs, hsl, hg⟩ hnx
    dsimp only
    rw [lt_nat]
    by_cases c : k < l.length
    rotate_left
    · rw [decide_eq_false c, fk_f]
      refine ⟨s, rfl, hs, hsl, fun i x y hx => hg i x y ?_ hx⟩
      have := (List.getElem?_eq_some_iff.1 hx).1; omega
    rw [decide_eq_true c, fk_t, ix_lt c, wr_succ k _ c (by have := h.2; omega)]
    obtain ⟨h1, h2, h3, h4, h5⟩ := h.1 _ (List.getElem_mem c)
    have hx : l[k]? = some l[k] := List.getElem?_eq_getElem c
    generalize l[k] = x at *
    have hM := h2.2.2.2.2
    have hUl := cont_len h2
    have hGl := cont_len h3
    refine lp_ex (fun v => x.Under.Many.toNat - v.2.2.2.2.2.2.toNat) (fun v => ∃ (u g : RingRing) (j : Nat), v = (u.Buf, u.First, u.Many, g.Buf, g.First, g.Many, (j : Int)) ∧ j ≤ x.Under.Many.toNat ∧ ringP u ∧ ringP g ∧ u.Buf.length = x.Under.Buf.length ∧ g.Buf.length = x.Got.Buf.length ∧ u.Many.toNat + j = x.Under.Many.toNat ∧ cont u = (cont x.Under).drop j ∧ (cont x.Got = [] → cont g = (cont x.Under).take j ∧ g.Many = (j : Int))) _ ?_ FU _ ⟨x.Under, x.Got, 0, rfl, Nat.zero_le _, h2, h3, rfl, rfl, rfl, rfl, fun e => ⟨e, by have := hGl.1; rw [e] at this; have := h3.2.2.2.2; simp at *; omega⟩⟩ (by unfold FU; simp only; omega)
    rintro nx2 v ⟨u, g, j, rfl, hj, hu, hgr, hul, hgl, hum, huc, hgc⟩ hnx2
    dsimp only
    by_cases cj : j < x.Under.Many.toNat
    · have c0 : u.Many ≠ 0 := by have := hu.2.2.2.2; omega
      obtain ⟨p1, p2, p3, p4⟩ := popV_ok hu c0
      obtain ⟨g', e1, e2, e3, e4⟩ := ring_Put_ex g (rAt u 0) hgr
      rw [decide_eq_true (by omega), fk_t]
      show ∃ r, (bnd (ring_Pop u) _) = some r ∧ _
      rw [bnd_eq (ring_Pop_eq u hu), if_neg c0]
      show ∃ r, (bnd (ring_Put g (rAt u 0)) _) = some r ∧ _
      rw [bnd_eq e1, wr_succ j _ cj (by omega)]
      have hcu : (cont x.Under).drop j = rAt u 0 :: cont (popV u) := by rw [← huc, p3]
      refine hnx2 _ ⟨popV u, g', j + 1, rfl, cj, p1, e2, by rw [p2, hul], by rw [e3, hgl], by omega, ?_, fun e => ?_⟩ (by simp only [Int.toNat_natCast]; omega)
      · rw [← List.drop_drop, List.drop_one, hcu]; rfl
      · obtain ⟨a1, a2⟩ := hgc e
        have hne : g.Many ≠ (g.Buf.length : Int) := by rw [a2, hgl]; omega
        obtain ⟨b1, b2⟩ := e4 hne
        refine ⟨?_, by rw [b2, a2]; omega⟩
        rw [b1, a1]
        have hjl : j < (cont x.Under).length := by omega
        rw [← List.take_append_getElem hjl]
        have : (cont x.Under)[j] = rAt u 0 := by
          have h' := List.drop_eq_getElem_cons hjl
          rw [hcu] at h'
          injection h' with h'' _
          exact h''.symm
        rw [this]
    · have ej : j = x.Under.Many.toNat := by omega
      rw [decide_eq_false (by omega), fk_f, bnd_eq (port_with_eq s k _ hs (by omega))]
      refine hnx _ c ⟨linesP_set hs ⟨h1, hu, hgr, by show (u.Buf.length : Int) = _; rw [hul]; exact h4, by show (g.Buf.length : Int) = _; rw [hgl]; exact h5⟩, by rw [List.length_set]; exact hsl, fun i a y hi ha hy => ?_⟩
      by_cases ei : i = k
      · subst ei
        rw [hx] at ha
        cases ha
        rw [List.getElem?_set_self (by omega)] at hy
        cases hy
        refine ⟨rfl, ?_, fun e => ?_⟩
        · show cont u = []
          rw [huc, List.drop_eq_nil_of_le (by omega)]
        · show cont g = _
          rw [(hgc e).1, List.take_of_length_le (by omega)]
      · rw [List.getElem?_set_ne (by omega)] at hy
        exact hg i a y (by omega) ha hy
  obtain ⟨l', e, a, b, c⟩ := key
  exact ⟨l', e, a, b, c⟩
end Go.Proofs.YtldlcdnhdedoeaaGreat
namespace Go.Proofs.YtldlcdnhdedoeaaGreat
open Go Go.VC
noncomputable def table_may (a0 : Window) (a1 : Int) : Option Bool :=
  fk (decide (a0.Part ≥ (0 : Int))) (fk (decide (a0.Part < (4 : Int))) (fk (decide (a0.From ≥ (0 : Int))) (fk (decide (a0.From < a1)) (fk (decide (a0.Len ≥ (1 : Int))) (some (decide (a0.Len ≤ (wr (a1 - a0.From))))) (some false)) (some false)) (some false)) (some false)) (some false)
theorem table_may_w (a0 : Window) (a1 : Int) (r : Bool) (h : table_may a0 a1 = some r) : Go.VC.Spec Tryz.prog 122 [.agg (Window.enc a0), .d (.int .i64 a1)] (fun y => y = E_Bool r) := by
  refine Go.VC.Spec.of_xc (args := [.agg (Window.enc a0), .d (.int .i64 a1)]) (fn := Tryz.f122) tab ⟨[(0, [1, 2]), (1, [4])], [], [], []⟩ 38 [.tmp 4] rfl rfl rfl rfl rfl rfl ?_
  conv => whnf
  refine fkS h (fun h => ?_) (fun h => ?_)
  · conv => whnf
    refine fkS h (fun h => ?_) (fun h => ?_)
    · conv => whnf
      refine fkS h (fun h => ?_) (fun h => ?_)
      · conv => whnf
        refine fkS h (fun h => ?_) (fun h => ?_)
        · conv => whnf
          refine fkS h (fun h => ?_) (fun h => ?_)
          · conv => whnf
            exact rt (E := E_Bool) h rfl
          conv => whnf
          exact rt (E := E_Bool) h rfl
        conv => whnf
        exact rt (E := E_Bool) h rfl
      conv => whnf
      exact rt (E := E_Bool) h rfl
    conv => whnf
    exact rt (E := E_Bool) h rfl
  conv => whnf
  exact rt (E := E_Bool) h rfl

end Go.Proofs.YtldlcdnhdedoeaaGreat
namespace Go.Proofs.YtldlcdnhdedoeaaGreat
open Go Go.VC
noncomputable def table_Right (a0 : TableTable) : Option Bool :=
  lp (fun nx1 (v1 : Int × Int × Int) => fk (decide (v1.2.2 < (a0.Windows.length : Int))) (ix a0.Windows v1.2.2 fun x2 => jn (fun (w3 : Bool) => fk w3 (some false) (nx1 ((wr (x2.From + x2.Len)), x2.Part, (wr (v1.2.2 + (1 : Int)))))) (fun k3 => bnd (table_may x2 a0.Frame) fun x4 => fk (!x4) (k3 true) (fk (decide (x2.From < v1.1)) (k3 true) (fk (decide (x2.From = v1.1)) (k3 (decide (x2.Part = v1.2.1))) (k3 false))))) (fk (decide (a0.Frame ≥ (1 : Int))) (some (decide (a0.Frame ≤ (240 : Int)))) (some false))) FU ((0 : Int), (-1 : Int), (0 : Int))
theorem table_Right_w (a0 : TableTable) (r : Bool) (h : table_Right a0 = some r) : Go.VC.Spec Tryz.prog 62 [.agg (TableTable.enc a0)] (fun y => y = E_Bool r) := by
  refine Go.VC.Spec.of_xc (args := [.agg (TableTable.enc a0)]) (fn := Tryz.f62) tab ⟨[(0, [1]), (1, [1, 3, 4]), (2, [1, 3, 4, 8, 9, 10]), (3, [1, 3, 4, 8, 9, 10, 11]), (4, [1, 3, 4, 6, 8, 9, 10]), (5, [1, 6, 8, 9, 10, 36]), (6, [2]), (7, [1, 3, 4, 8, 9, 10]), (8, [1, 3, 4, 8, 9, 10]), (9, [2])], [], [100036], []⟩ 53 [.tmp 2] rfl rfl rfl rfl rfl rfl ?_
  conv => whnf
  refine lenS a0.Windows Window.enc rfl ?_
  conv => whnf
  refine lpS (fun v1 => ⟨[(1, .l (.ptr 2 0)), (3, .l (.d (.int .i64 v1.1))), (4, .l (.d (.int .i64 v1.2.1))), (8, .l (.d (.sl (a0.Windows.map Window.enc)))), (9, .l (.d (.int .i64 (a0.Windows.length : Int)))), (10, .l (.d (.int .i64 v1.2.2)))], 53, [], [(2, [.d (.int .i64 a0.Frame), .d (.sl (a0.Windows.map Window.enc))])], []⟩) h (Weak.refl _) (fun _ nx1 hn1 v1 h => ?_)
  conv => whnf
  refine fkS h (fun h => ?_) (fun h => ?_)
  · conv => whnf
    refine ixS (enc := Window.enc) h rfl (fun _ => rfl) (fun x2 h => ?_)
    conv => whnf
    refine jnS (fun w3 => ⟨[(1, .l (.ptr 2 0)), (6, .l (.ptr 7 0)), (8, .l (.d (.sl (a0.Windows.map Window.enc)))), (9, .l (.d (.int .i64 (a0.Windows.length : Int)))), (10, .l (.d (.int .i64 v1.2.2))), (36, .l (.d (.bool w3)))], 53, [], [(2, [.d (.int .i64 a0.Frame), .d (.sl (a0.Windows.map Window.enc))]), (7, [.d (.int .i64 x2.Part), .d (.int .i64 x2.From), .d (.int .i64 x2.Len)])], []⟩) h (fun k3 hk3 h => ?_) (fun w3 h => ?_)
    · conv => whnf
      refine caS (E := E_Bool) h (table_may_w x2 a0.Frame) rfl (fun _ => rfl) (fun x4 h => ?_)
      conv => whnf
      refine fkS h (fun h => ?_) (fun h => ?_)
      · conv => whnf
        exact jeS hk3 h (Weak.refl _)
      conv => whnf
      refine fkS h (fun h => ?_) (fun h => ?_)
      · conv => whnf
        exact jeS hk3 h (Weak.refl _)
      conv => whnf
      refine fkS h (fun h => ?_) (fun h => ?_)
      · conv => whnf
        exact jeS hk3 h (Weak.refl _)
      conv => whnf
      exact jeS hk3 h (Weak.refl _)
    conv => whnf
    refine fkS h (fun h => ?_) (fun h => ?_)
    · conv => whnf
      exact rt (E := E_Bool) h rfl
    conv => whnf
    refine ⟨8, ?_⟩
    conv => whnf
    refine drS (by kernel_rfl) ?_
    conv => whnf
    exact leS hn1 h (Weak.refl _)
  conv => whnf
  refine fkS h (fun h => ?_) (fun h => ?_)
  · conv => whnf
    exact rt (E := E_Bool) h rfl
  conv => whnf
  exact rt (E := E_Bool) h rfl

end Go.Proofs.YtldlcdnhdedoeaaGreat
namespace Go.Proofs.YtldlcdnhdedoeaaGreat
open Go Go.VC
noncomputable def table_At (a0 : TableTable) (a1 : Int) : Option Int :=
  jn (fun (w1 : Bool) => fk w1 (some (-1 : Int)) (ck (decide (a0.Frame ≠ 0)) (lp (fun nx3 (v3 : Int) => fk (decide (v3 < (a0.Windows.length : Int))) (ix a0.Windows v3 fun x4 => jn (fun (w5 : Bool) => fk w5 (some x4.Part) (nx3 (wr (v3 + (1 : Int))))) (fun k5 => fk (decide ((a1.tmod a0.Frame) ≥ x4.From)) (k5 (decide ((a1.tmod a0.Frame) < (wr (x4.From + x4.Len))))) (k5 false))) (some (-1 : Int))) FU (0 : Int)))) (fun k1 => bnd (table_Right a0) fun x2 => fk (!x2) (k1 true) (k1 (decide (a1 < (0 : Int)))))
theorem table_At_w (a0 : TableTable) (a1 : Int) (r : Int) (h : table_At a0 a1 = some r) : Go.VC.Spec Tryz.prog 89 [.agg (TableTable.enc a0), .d (.int .i64 a1)] (fun y => y = E_Int r) := by
  refine Go.VC.Spec.of_xc (args := [.agg (TableTable.enc a0), .d (.int .i64 a1)]) (fn := Tryz.f89) tab ⟨[(0, [1, 2]), (1, [1, 2, 13]), (2, [4]), (3, [1, 2]), (4, [1, 19, 20, 21]), (5, [1, 19, 20, 21, 22]), (6, [1, 6, 19, 20, 21]), (7, [1, 6, 19, 20, 21, 37]), (8, [4]), (9, [1, 19, 20, 21]), (10, [4])], [], [100013, 100037], []⟩ 41 [.tmp 4] rfl rfl rfl rfl rfl rfl ?_
  conv => whnf
  refine jnS (fun w1 => ⟨[(1, .l (.d (.int .i64 a1))), (2, .l (.ptr 3 0)), (13, .l (.d (.bool w1)))], 41, [], [(3, [.d (.int .i64 a0.Frame), .d (.sl (a0.Windows.map Window.enc))])], []⟩) h (fun k1 hk1 h => ?_) (fun w1 h => ?_)
  · conv => whnf
    refine caS (E := E_Bool) h (table_Right_w a0) rfl (fun _ => rfl) (fun x2 h => ?_)
    conv => whnf
    refine fkS h (fun h => ?_) (fun h => ?_)
    · conv => whnf
      exact jeS hk1 h (Weak.refl _)
    conv => whnf
    exact jeS hk1 h (Weak.refl _)
  conv => whnf
  refine fkS h (fun h => ?_) (fun h => ?_)
  · conv => whnf
    exact rt (E := E_Int) h rfl
  conv => whnf
  refine dvS h (fun h => ?_)
  conv => whnf
  refine lenS a0.Windows Window.enc rfl ?_
  conv => whnf
  refine lpS (fun v3 => ⟨[(1, .l (.d (.int .i64 (a1.tmod a0.Frame)))), (19, .l (.d (.sl (a0.Windows.map Window.enc)))), (20, .l (.d (.int .i64 (a0.Windows.length : Int)))), (21, .l (.d (.int .i64 v3)))], 41, [], [], []⟩) h (Weak.refl _) (fun _ nx3 hn3 v3 h => ?_)
  conv => whnf
  refine fkS h (fun h => ?_) (fun h => ?_)
  · conv => whnf
    refine ixS (enc := Window.enc) h rfl (fun _ => rfl) (fun x4 h => ?_)
    conv => whnf
    refine jnS (fun w5 => ⟨[(1, .l (.d (.int .i64 (a1.tmod a0.Frame)))), (6, .l (.ptr 7 0)), (19, .l (.d (.sl (a0.Windows.map Window.enc)))), (20, .l (.d (.int .i64 (a0.Windows.length : Int)))), (21, .l (.d (.int .i64 v3))), (37, .l (.d (.bool w5)))], 41, [], [(7, [.d (.int .i64 x4.Part), .d (.int .i64 x4.From), .d (.int .i64 x4.Len)])], []⟩) h (fun k5 hk5 h => ?_) (fun w5 h => ?_)
    · conv => whnf
      refine fkS h (fun h => ?_) (fun h => ?_)
      · conv => whnf
        exact jeS hk5 h (Weak.refl _)
      conv => whnf
      exact jeS hk5 h (Weak.refl _)
    conv => whnf
    refine fkS h (fun h => ?_) (fun h => ?_)
    · conv => whnf
      exact rt (E := E_Int) h rfl
    conv => whnf
    exact leS hn3 h (Weak.refl _)
  conv => whnf
  exact rt (E := E_Int) h rfl

end Go.Proofs.YtldlcdnhdedoeaaGreat
namespace Go.Proofs.YtldlcdnhdedoeaaGreat
open Go Go.VC
noncomputable def table_Of (a0 : List Int) : Option (TableTable × Int) :=
  jn (fun (w1 : Bool) => fk w1 (some (⟨(0 : Int), []⟩, (1 : Int))) (lp (fun nx2 (v2 : Int × (List Window) × Int) => fk (decide (v2.2.2 < (a0.length : Int))) (ix a0 v2.2.2 fun x3 => jn (fun (w4 : Bool) => fk w4 (some (⟨(0 : Int), []⟩, (1 : Int))) (jn (fun (w5 : List Window) => nx2 (x3, w5, (wr (v2.2.2 + (1 : Int))))) (fun k5 => jn (fun (w6 : Bool) => fk w6 (ck (decide (0 ≤ (wr ((v2.2.1.length : Int) - (1 : Int)))) && decide ((wr ((v2.2.1.length : Int) - (1 : Int))) < (v2.2.1.length : Int))) (ox v2.2.1 ((wr ((v2.2.1.length : Int) - (1 : Int))).toNat) fun x7 => ck (decide (0 ≤ (wr ((v2.2.1.length : Int) - (1 : Int)))) && decide ((wr ((v2.2.1.length : Int) - (1 : Int))) < (v2.2.1.length : Int))) (ox v2.2.1 ((wr ((v2.2.1.length : Int) - (1 : Int))).toNat) fun x8 => k5 (v2.2.1.set ((wr ((v2.2.1.length : Int) - (1 : Int))).toNat) ⟨x8.Part, x8.From, (wr (x7.Len + (1 : Int)))⟩)))) (fk (!decide (x3 = (-1 : Int))) (ck (decide ((v2.2.1.length + ([⟨x3, v2.2.2, (1 : Int)⟩] : List Window).length) * 24 ≤ 140737488355328)) (k5 (v2.2.1 ++ ([⟨x3, v2.2.2, (1 : Int)⟩] : List Window)))) (k5 v2.2.1))) (fun k6 => fk (decide (x3 = v2.1)) (k6 (!decide (x3 = (-1 : Int)))) (k6 false))))) (fun k4 => fk (decide (x3 < (-1 : Int))) (k4 true) (k4 (decide (x3 ≥ (4 : Int)))))) (some (⟨(a0.length : Int), v2.2.1⟩, (0 : Int)))) FU ((-1 : Int), [], (0 : Int)))) (fun k1 => fk (decide ((a0.length : Int) = (0 : Int))) (k1 true) (k1 (decide ((a0.length : Int) > (240 : Int)))))
theorem table_Of_w (a0 : List Int) (r : TableTable × Int) (h : table_Of a0 = some r) : Go.VC.Spec Tryz.prog 114 [.d (.sl (a0.map (eI .i64)))] (fun y => y = E_TableTable_Int r) := by
  refine Go.VC.Spec.of_xc (args := [.d (.sl (a0.map (eI .i64)))]) (fn := Tryz.f114) tab ⟨[(0, [0, 2]), (1, [0, 2, 16]), (2, [2, 3]), (3, [0, 2, 4]), (4, [0, 2, 4, 5]), (5, [0, 2, 4, 6]), (6, [2, 4, 6, 22, 23, 24]), (7, [2, 4, 6, 22, 23, 24, 25]), (8, [2, 4, 6, 7, 8, 22, 23, 24]), (9, [2, 4, 6, 7, 8, 22, 23, 24, 34]), (10, [2, 3]), (11, [2, 4, 6, 22, 23, 24]), (12, [2, 4, 6, 22, 23, 24]), (13, [2, 3])], [], [100016, 100034], []⟩ 42 [.cell 2 30, .tmp 3] rfl rfl rfl rfl rfl rfl ?_
  conv => whnf
  refine jnS (fun w1 => ⟨[(0, .l (.d (.sl (a0.map (eI .i64))))), (2, .l (.ptr 3 0)), (16, .l (.d (.bool w1)))], 42, [], [(3, [.d (.int .i64 (0 : Int)), .nil])], []⟩) h (fun k1 hk1 h => ?_) (fun w1 h => ?_)
  · conv => whnf
    refine lenS a0 (eI .i64) rfl ?_
    conv => whnf
    refine fkS h (fun h => ?_) (fun h => ?_)
    · conv => whnf
      exact jeS hk1 h (Weak.refl _)
    conv => whnf
    refine lenS a0 (eI .i64) rfl ?_
    conv => whnf
    exact jeS hk1 h (Weak.refl _)
  conv => whnf
  refine fkS h (fun h => ?_) (fun h => ?_)
  · conv => whnf
    exact rt (E := E_TableTable_Int) h rfl
  conv => whnf
  refine lenS a0 (eI .i64) rfl ?_
  conv => whnf
  refine lenS a0 (eI .i64) rfl ?_
  conv => whnf
  refine lpS (fun v2 => ⟨[(2, .l (.ptr 3 0)), (4, .l (.ptr 5 0)), (6, .l (.func 154 [.k 6, .k 5])), (22, .l (.d (.sl (a0.map (eI .i64))))), (23, .l (.d (.int .i64 (a0.length : Int)))), (24, .l (.d (.int .i64 v2.2.2)))], 42, [], [(3, [.d (.int .i64 (0 : Int)), .nil]), (5, [.d (.int .i64 (a0.length : Int)), .own 50501]), (6, [.d (.int .i64 v2.1)])], [(50501, 179, 3, v2.2.1.map Window.enc)]⟩) h (Weak.trans (Weak.nilBO _ 5 1 50501 179 3 _ rfl rfl) (Weak.refl _)) (fun _ nx2 hn2 v2 h => ?_)
  conv => whnf
  refine fkS h (fun h => ?_) (fun h => ?_)
  · conv => whnf
    refine ixS (enc := (eI .i64)) h rfl (fun _ => rfl) (fun x3 h => ?_)
    conv => whnf
    refine jnS (fun w4 => ⟨[(2, .l (.ptr 3 0)), (4, .l (.ptr 5 0)), (6, .l (.func 154 [.k 6, .k 5])), (7, .l (.d (.int .i64 v2.2.2))), (8, .l (.d (.int .i64 x3))), (22, .l (.d (.sl (a0.map (eI .i64))))), (23, .l (.d (.int .i64 (a0.length : Int)))), (24, .l (.d (.int .i64 v2.2.2))), (34, .l (.d (.bool w4)))], 42, [], [(3, [.d (.int .i64 (0 : Int)), .nil]), (5, [.d (.int .i64 (a0.length : Int)), .own 50501]), (6, [.d (.int .i64 v2.1)])], [(50501, 179, 3, v2.2.1.map Window.enc)]⟩) h (fun k4 hk4 h => ?_) (fun w4 h => ?_)
    · conv => whnf
      refine fkS h (fun h => ?_) (fun h => ?_)
      · conv => whnf
        exact jeS hk4 h (Weak.refl _)
      conv => whnf
      exact jeS hk4 h (Weak.refl _)
    conv => whnf
    refine fkS h (fun h => ?_) (fun h => ?_)
    · conv => whnf
      exact rt (E := E_TableTable_Int) h rfl
    conv => whnf
    refine inS (fn := Tryz.f154) tab ⟨[(0, [0, 1, 2, 3, 12]), (1, [1, 2]), (2, [0, 1, 2, 3, 26]), (3, [1, 2]), (4, [])], [], [100012, 4], []⟩ 36 [] rfl rfl rfl rfl rfl rfl ?_
    conv => whnf
    refine jnS (fun w5 => ⟨[(1, .l (.d (.int .i64 x3))), (2, .l (.ptr 6 0))], 36, [⟨[(38, .l (.d (.int .i64 x3))), (37, .l (.d (.int .i64 v2.2.2))), (36, .l (.func 154 [.k 6, .k 5])), (34, .l (.d (.bool false))), (2, .l (.ptr 3 0)), (4, .l (.ptr 5 0)), (6, .l (.func 154 [.k 6, .k 5])), (7, .l (.d (.int .i64 v2.2.2))), (8, .l (.d (.int .i64 x3))), (22, .l (.d (.sl (a0.map (eI .i64))))), (23, .l (.d (.int .i64 (a0.length : Int)))), (24, .l (.d (.int .i64 v2.2.2))), (34, .l (.d (.bool w4)))], 42⟩], [(3, [.d (.int .i64 (0 : Int)), .nil]), (5, [.d (.int .i64 (a0.length : Int)), .own 50501]), (6, [.d (.int .i64 v2.1)])], [(50501, 179, 3, w5.map Window.enc)]⟩) h (fun k5 hk5 h => ?_) (fun w5 h => ?_)
    · conv => whnf
      refine jnS (fun w6 => ⟨[(0, .l (.d (.int .i64 v2.2.2))), (1, .l (.d (.int .i64 x3))), (2, .l (.ptr 6 0)), (3, .l (.ptr 5 0)), (12, .l (.d (.bool w6)))], 36, [⟨[(38, .l (.d (.int .i64 x3))), (37, .l (.d (.int .i64 v2.2.2))), (36, .l (.func 154 [.k 6, .k 5])), (34, .l (.d (.bool false))), (2, .l (.ptr 3 0)), (4, .l (.ptr 5 0)), (6, .l (.func 154 [.k 6, .k 5])), (7, .l (.d (.int .i64 v2.2.2))), (8, .l (.d (.int .i64 x3))), (22, .l (.d (.sl (a0.map (eI .i64))))), (23, .l (.d (.int .i64 (a0.length : Int)))), (24, .l (.d (.int .i64 v2.2.2))), (34, .l (.d (.bool w4)))], 42⟩], [(3, [.d (.int .i64 (0 : Int)), .nil]), (5, [.d (.int .i64 (a0.length : Int)), .own 50501]), (6, [.d (.int .i64 v2.1)])], [(50501, 179, 3, v2.2.1.map Window.enc)]⟩) h (fun k6 hk6 h => ?_) (fun w6 h => ?_)
      · conv => whnf
        refine fkS h (fun h => ?_) (fun h => ?_)
        · conv => whnf
          exact jeS hk6 h (Weak.refl _)
        conv => whnf
        exact jeS hk6 h (Weak.refl _)
      conv => whnf
      refine fkS h (fun h => ?_) (fun h => ?_)
      · conv => whnf
        refine lenS v2.2.1 Window.enc rfl ?_
        conv => whnf
        refine ioS (enc := Window.enc) h rfl (fun h => ?_)
        conv => whnf
        refine oxS (enc := Window.enc) h rfl (fun x7 h => ?_)
        conv => whnf
        refine ioS (enc := Window.enc) h rfl (fun h => ?_)
        conv => whnf
        refine seS (enc := Window.enc) h rfl (fun x8 => ⟨x8.Part, x8.From, (wr (x7.Len + (1 : Int)))⟩) (fun _ => rfl) (fun x8 h => ?_)
        conv => whnf
        exact jeS hk5 h (Weak.refl _)
      conv => whnf
      refine fkS h (fun h => ?_) (fun h => ?_)
      · conv => whnf
        refine liS ([⟨x3, v2.2.2, (1 : Int)⟩] : List Window) Window.enc rfl rfl ?_
        conv => whnf
        refine apS (enc := Window.enc) (l1 := v2.2.1) (l2 := ([⟨x3, v2.2.2, (1 : Int)⟩] : List Window)) h rfl rfl (fun _ => rfl) (fun h => ?_)
        conv => whnf
        refine jeX hk5 h ?_
        conv => whnf
        refine WkF.step (Weak.rekey _ 1034 50501 rfl) ?_
        conv => whnf
        exact WkF.refl _
      conv => whnf
      refine jeX hk5 h ?_
      conv => whnf
      refine WkF.step (Weak.keepS _ [1, 2]) ?_
      conv => whnf
      exact WkF.refl _
    conv => whnf
    exact leS hn2 h (Weak.refl _)
  conv => whnf
  exact rt (E := E_TableTable_Int) h rfl

end Go.Proofs.YtldlcdnhdedoeaaGreat
namespace Go.Proofs.YtldlcdnhdedoeaaGreat
open Go Go.VC
noncomputable def ref13_At (a0 : Int) (a1 : List Window) (a2 : Int) : Option Int :=
  lp (fun nx1 (v1 : Int × Int) => fk (decide (v1.2 < (a1.length : Int))) (lp (fun nx2 (v2 : Int × Int) => ix a1 v1.2 fun x3 => fk (decide (v2.2 < x3.Len)) (jn (fun (w4 : Int) => nx2 (w4, (wr (v2.2 + (1 : Int))))) (fun k4 => ix a1 v1.2 fun x5 => ck (decide (a0 ≠ 0)) (fk (decide ((wr (x5.From + v2.2)) = (a2.tmod a0))) (ix a1 v1.2 fun x6 => k4 x6.Part) (k4 v2.1)))) (nx1 (v2.1, (wr (v1.2 + (1 : Int)))))) FU (v1.1, (0 : Int))) (some v1.1)) FU ((-1 : Int), (0 : Int))
theorem ref13_At_w (a0 : Int) (a1 : List Window) (a2 : Int) (r : Int) (h : ref13_At a0 a1 a2 = some r) : Go.VC.Spec Tryz.prog 35 [.d (.int .i64 a0), .d (.sl (a1.map Window.enc)), .d (.int .i64 a2)] (fun y => y = E_Int r) := by
  refine Go.VC.Spec.of_xc (args := [.d (.int .i64 a0), .d (.sl (a1.map Window.enc)), .d (.int .i64 a2)]) (fn := Tryz.f35) tab ⟨[(0, [0, 1, 2]), (1, [0, 1, 2, 7]), (2, [0, 1, 2, 7, 8]), (3, [0, 1, 2, 7, 8, 13]), (4, [0, 1, 2, 7, 8]), (5, [0, 1, 2, 7, 8, 9]), (6, [0, 1, 2, 7, 8, 9, 22]), (7, [0, 1, 2, 7, 8, 9]), (8, [0, 1, 2, 7, 8, 9, 35]), (9, [0, 1, 2, 7, 8, 9]), (10, [6])], [], [7], []⟩ 42 [.tmp 6] rfl rfl rfl rfl rfl rfl ?_
  conv => whnf
  refine lpS (fun v1 => ⟨[(0, .l (.d (.int .i64 a0))), (1, .l (.d (.sl (a1.map Window.enc)))), (2, .l (.d (.int .i64 a2))), (7, .l (.d (.int .i64 v1.1))), (8, .l (.d (.int .i64 v1.2)))], 42, [], [], []⟩) h (Weak.refl _) (fun _ nx1 hn1 v1 h => ?_)
  conv => whnf
  refine lenS a1 Window.enc rfl ?_
  conv => whnf
  refine fkS h (fun h => ?_) (fun h => ?_)
  · conv => whnf
    refine lpS (fun v2 => ⟨[(0, .l (.d (.int .i64 a0))), (1, .l (.d (.sl (a1.map Window.enc)))), (2, .l (.d (.int .i64 a2))), (7, .l (.d (.int .i64 v2.1))), (8, .l (.d (.int .i64 v1.2))), (9, .l (.d (.int .i64 v2.2)))], 42, [], [], []⟩) h (Weak.refl _) (fun _ nx2 hn2 v2 h => ?_)
    conv => whnf
    refine ixS (enc := Window.enc) h rfl (fun _ => rfl) (fun x3 h => ?_)
    conv => whnf
    refine fkS h (fun h => ?_) (fun h => ?_)
    · conv => whnf
      refine jnS (fun w4 => ⟨[(0, .l (.d (.int .i64 a0))), (1, .l (.d (.sl (a1.map Window.enc)))), (2, .l (.d (.int .i64 a2))), (7, .l (.d (.int .i64 w4))), (8, .l (.d (.int .i64 v1.2))), (9, .l (.d (.int .i64 v2.2)))], 42, [], [], []⟩) h (fun k4 hk4 h => ?_) (fun w4 h => ?_)
      · conv => whnf
        refine ⟨10, ?_⟩
        conv => whnf
        refine ixS (enc := Window.enc) h rfl (fun _ => rfl) (fun x5 h => ?_)
        conv => whnf
        refine dvS h (fun h => ?_)
        conv => whnf
        refine drS (by kernel_rfl) ?_
        conv => whnf
        refine fkS h (fun h => ?_) (fun h => ?_)
        · conv => whnf
          refine ixS (enc := Window.enc) h rfl (fun _ => rfl) (fun x6 h => ?_)
          conv => whnf
          exact jeS hk4 h (Weak.refl _)
        conv => whnf
        refine jeX hk4 h ?_
        conv => whnf
        refine WkF.step (Weak.keepS _ [0, 1, 2, 7, 8, 9]) ?_
        conv => whnf
        exact WkF.refl _
      conv => whnf
      exact leS hn2 h (Weak.refl _)
    conv => whnf
    exact leS hn1 h (Weak.refl _)
  conv => whnf
  exact rt (E := E_Int) h rfl

end Go.Proofs.YtldlcdnhdedoeaaGreat
namespace Go.Proofs.YtldlcdnhdedoeaaGreat
open Go Go.VC
noncomputable def ref13_Ticks (a0 : Int) (a1 : List Window) : Option (List Int) :=
  lp (fun nx1 (v1 : (List Int) × Int) => fk (decide (v1.2 < a0)) (bnd (ref13_At a0 a1 v1.2) fun x2 => ck (decide ((v1.1.length + ([x2] : List Int).length) * 8 ≤ 140737488355328)) (nx1 (v1.1 ++ ([x2] : List Int), (wr (v1.2 + (1 : Int)))))) (some v1.1)) FU ([], (0 : Int))
theorem ref13_Ticks_w (a0 : Int) (a1 : List Window) (r : List Int) (h : ref13_Ticks a0 a1 = some r) : Go.VC.Spec Tryz.prog 19 [.d (.int .i64 a0), .d (.sl (a1.map Window.enc))] (fun y => y = E_ListInt r) := by
  refine Go.VC.Spec.of_xc (args := [.d (.int .i64 a0), .d (.sl (a1.map Window.enc))]) (fn := Tryz.f19) tab ⟨[(0, [0, 1]), (1, [0, 1, 5]), (2, [0, 1, 5, 6]), (3, [0, 1, 5, 6, 9]), (4, [0, 1, 5, 6]), (5, [0, 1, 5, 6]), (6, [4])], [], [], []⟩ 20 [.tmp 4] rfl rfl rfl rfl rfl rfl ?_
  conv => whnf
  refine lpS (fun v1 => ⟨[(0, .l (.d (.int .i64 a0))), (1, .l (.d (.sl (a1.map Window.enc)))), (5, .l (.own 6)), (6, .l (.d (.int .i64 v1.2)))], 20, [], [], [(6, 3, 1, v1.1.map (eI .i64))]⟩) h (Weak.trans (Weak.nilO _ 5 6 3 1 rfl) (Weak.refl _)) (fun _ nx1 hn1 v1 h => ?_)
  conv => whnf
  refine fkS h (fun h => ?_) (fun h => ?_)
  · conv => whnf
    refine caS (E := E_Int) h (ref13_At_w a0 a1 v1.2) rfl (fun _ => rfl) (fun x2 h => ?_)
    conv => whnf
    refine liS ([x2] : List Int) (eI .i64) rfl rfl ?_
    conv => whnf
    refine apS (enc := (eI .i64)) (l1 := v1.1) (l2 := ([x2] : List Int)) h rfl rfl (fun _ => rfl) (fun h => ?_)
    conv => whnf
    exact leS hn1 h (Weak.refl _)
  conv => whnf
  exact rt (E := E_ListInt) h rfl

end Go.Proofs.YtldlcdnhdedoeaaGreat
namespace Go.Proofs.YtldlcdnhdedoeaaGreat
open Go Go.VC
/-! Tables. -/
def inW (w : Window) (x : Int) : Prop := w.From ≤ x ∧ x < w.From + w.Len
instance (w : Window) (x : Int) : Decidable (inW w x) := by unfold inW; infer_instance
def whoV : List Window → Int → Int
  | [], _ => -1
  | w :: r, x => if inW w x then w.Part else whoV r x
def winP (F : Int) (w : Window) : Prop := 0 ≤ w.Part ∧ w.Part < 4 ∧ 0 ≤ w.From ∧ 1 ≤ w.Len ∧ w.From + w.Len ≤ F
structure tabP (t : TableTable) : Prop where
  f1 : 1 ≤ t.Frame
  f2 : t.Frame ≤ 240
  w : ∀ w ∈ t.Windows, winP t.Frame w
  p : t.Windows.Pairwise fun a b => a.From + a.Len ≤ b.From
  c : ∀ (i : Nat) (a b : Window), t.Windows[i]? = some a → t.Windows[i + 1]? = some b → ¬ (a.From + a.Len = b.From ∧ b.Part = a.Part)
  l : t.Windows.length ≤ 240
theorem whoV_none {l : List Window} {x : Int} (h : ∀ a ∈ l, ¬ inW a x) : whoV l x = -1 := by
  induction l with
  | nil => rfl
  | cons a r ih =>
    unfold whoV
    rw [if_neg (h a List.mem_cons_self)]
    exact ih fun b hb => h b (List.mem_cons_of_mem _ hb)
theorem whoV_snoc {l : List Window} {w : Window} {x : Int} (h : ∀ a ∈ l, a.From + a.Len ≤ w.From) : whoV (l ++ [w]) x = if inW w x then w.Part else whoV l x := by
  induction l with
  | nil => rfl
  | cons a r ih =>
    have ih := ih fun b hb => h b (List.mem_cons_of_mem _ hb)
    have ha := h a List.mem_cons_self
    show (if inW a x then a.Part else whoV (r ++ [w]) x) = if inW w x then w.Part else (if inW a x then a.Part else whoV r x)
    rw [ih]
    by_cases c : inW a x
    · have : ¬ inW w x := fun hw => by unfold inW at *; omega
      rw [if_pos c, if_neg this, if_pos c]
    · rw [if_neg c, if_neg c]
theorem table_may_eq (w : Window) (F : Int) (hF : 0 ≤ F) (hF2 : F ≤ 240) (h : winP F w) : table_may w F = some true := by
  unfold winP at h
  unfold table_may
  rw [decide_eq_true (by omega), fk_t, decide_eq_true (by omega), fk_t, decide_eq_true (by omega), fk_t, decide_eq_true (by omega), fk_t, decide_eq_true (by omega), fk_t, wr_in _ (by omega), decide_eq_true (by omega)]
theorem table_Right_t {t : TableTable} (h : tabP t) : table_Right t = some true := by
  have hl := h.l
  have f1 := h.f1
  have f2 := h.f2
  unfold table_Right
  refine lp_inv (fun v => t.Windows.length - v.2.2.toNat) (fun v => ∃ k : Nat, v.2.2 = (k : Int) ∧ k ≤ t.Windows.length ∧ ((k = 0 ∧ v.1 = 0 ∧ v.2.1 = -1) ∨ ∃ j a, k = j + 1 ∧ t.Windows[j]? = some a ∧ v.1 = a.From + a.Len ∧ v.2.1 = a.Part)) ?_ FU _ ⟨0, rfl, Nat.zero_le _, .inl ⟨rfl, rfl, rfl⟩⟩ (by unfold FU; simp only; omega)
  rintro nx ⟨e, last, kk⟩ ⟨k, hkk, hk, hJ⟩ hnx
  simp only at hkk hJ
  subst hkk
  dsimp only
  rw [lt_nat]
  by_cases c : k < t.Windows.length
  rotate_left
  · rw [decide_eq_false c, fk_f, decide_eq_true (by omega), fk_t, decide_eq_true (by omega)]
  have hw := h.w _ (List.getElem_mem c)
  have hwk : t.Windows[k]? = some t.Windows[k] := List.getElem?_eq_getElem c
  rw [decide_eq_true c, fk_t, ix_lt c, wr_succ k _ c (by omega)]
  have hw' := hw
  unfold winP at hw'
  refine jn_to false (fun k3 => ?_) ?_
  · rw [bnd_eq (table_may_eq _ _ (by omega) f2 hw), Bool.not_true, fk_f]
    rcases hJ with ⟨_, rfl, rfl⟩ | ⟨j, a, rfl, ha, rfl, rfl⟩
    · rw [decide_eq_false (by omega), fk_f]
      by_cases c0 : t.Windows[k].From = 0
      · rw [decide_eq_true c0, fk_t, decide_eq_false (by omega)]
      · rw [decide_eq_false c0, fk_f]
    · have hp : a.From + a.Len ≤ t.Windows[j + 1].From := by
        have hj : j < t.Windows.length := (List.getElem?_eq_some_iff.1 ha).1
        have := List.pairwise_iff_getElem.1 h.p j (j + 1) hj c (by omega)
        rw [List.getElem?_eq_getElem hj] at ha
        cases ha
        exact this
      have hc := h.c j a _ ha hwk
      rw [decide_eq_false (by omega), fk_f]
      by_cases c0 : t.Windows[j + 1].From = a.From + a.Len
      · rw [decide_eq_true c0, fk_t, decide_eq_false (fun hh => hc ⟨c0.symm, hh⟩)]
      · rw [decide_eq_false c0, fk_f]
  · rw [fk_f, wr_in _ (by omega)]
    exact hnx _ ⟨k + 1, rfl, c, .inr ⟨k, _, rfl, hwk, rfl, rfl⟩⟩ (by simp only [Int.toNat_natCast]; omega)
theorem whoV_drop {l : List Window} {x : Int} {k : Nat} (h : k < l.length) : whoV (l.drop k) x = if inW l[k] x then l[k].Part else whoV (l.drop (k + 1)) x := by
  rw [List.drop_eq_getElem_cons h]; rfl
theorem table_At_eq {t : TableTable} (h : tabP t) {x : Int} (h0 : 0 ≤ x) : table_At t x = some (whoV t.Windows (x.tmod t.Frame)) := by
  have hl := h.l
  have f1 := h.f1
  unfold table_At
  refine jn_to false (fun k => by rw [bnd_eq (table_Right_t h), Bool.not_true, fk_f, decide_eq_false (by omega)]) ?_
  rw [fk_f, ck_t (decide_eq_true (by omega))]
  generalize x.tmod t.Frame = y
  refine lp_up t.Windows.length (by unfold FU; omega) (fun k => whoV t.Windows y = whoV (t.Windows.drop k) y) rfl ?_
  intro nx k hk J hnx
  rw [lt_nat]
  by_cases c : k < t.Windows.length
  rotate_left
  · rw [decide_eq_false c, fk_f, J, List.drop_eq_nil_of_le (by omega)]; rfl
  rw [whoV_drop c] at J
  have hw := h.w _ (List.getElem_mem c)
  unfold winP at hw
  have f2 := h.f2
  rw [decide_eq_true c, fk_t, ix_lt c, wr_succ k _ c (by omega), wr_in (t.Windows[k].From + t.Windows[k].Len) (by omega)]
  by_cases ci : inW t.Windows[k] y
  · rw [if_pos ci] at J
    unfold inW at ci
    refine jn_to true (fun k5 => by rw [decide_eq_true ci.1, fk_t, decide_eq_true ci.2]) ?_
    rw [fk_t, J]
  · rw [if_neg ci] at J
    refine jn_to false (fun k5 => ?_) (by rw [fk_f]; exact hnx c J)
    unfold inW at ci
    by_cases c1 : t.Windows[k].From ≤ y
    · rw [decide_eq_true c1, fk_t, decide_eq_false (fun hh => ci ⟨c1, hh⟩)]
    · rw [decide_eq_false c1, fk_f]
/-- The table of ticks. -/
structure ofI (n : Int) (ts : List Int) (k : Nat) (last : Int) (W : List Window) : Prop where
  w : ∀ w ∈ W, winP n w ∧ w.From + w.Len ≤ (k : Int)
  p : W.Pairwise fun a b => a.From + a.Len ≤ b.From
  c : ∀ (i : Nat) (a b : Window), W[i]? = some a → W[i + 1]? = some b → ¬ (a.From + a.Len = b.From ∧ b.Part = a.Part)
  l : W.length ≤ k
  v : ∀ x : Nat, x < k → ∀ y, ts[x]? = some y → whoV W (x : Int) = y
  e1 : last ≠ -1 → ∃ W0 w, W = W0 ++ [w] ∧ w.Part = last ∧ w.From + w.Len = (k : Int)
  e2 : ∀ W0 w, W = W0 ++ [w] → w.From + w.Len = (k : Int) → w.Part = last
theorem table_Of_ex (ts : List Int) (h1 : 1 ≤ ts.length) (h2 : ts.length ≤ 240) (h3 : ∀ x ∈ ts, -1 ≤ x ∧ x < 4) : ∃ t, table_Of ts = some (t, 0) ∧ tabP t ∧ t.Frame = (ts.length : Int) ∧ ∀ x : Nat, ∀ y, ts[x]? = some y → whoV t.Windows (x : Int) = y := by
  have key : ∃ r : TableTable × Int, table_Of ts = some r ∧ (r.2 = 0 ∧ tabP r.1 ∧ r.1.Frame = (ts.length : Int) ∧ ∀ x : Nat, ∀ y, ts[x]? = some y → whoV r.1.Windows (x : Int) = y) := by
    unfold table_Of
    rw [jn_eq, decide_eq_false (by omega), fk_f, decide_eq_false (by omega)]
    dsimp only
    rw [fk_f]
    refine lp_ex (fun v => ts.length - v.2.2.toNat) (fun v => ∃ (k : Nat) (last : Int) (W : List Window), v = (last, W, (k : Int)) ∧ k ≤ ts.length ∧ ofI (ts.length : Int) ts k last W) (fun r : TableTable × Int => r.2 = 0 ∧ tabP r.1 ∧ r.1.Frame = (ts.length : Int) ∧ ∀ x : Nat, ∀ y, ts[x]? = some y → whoV r.1.Windows (x : Int) = y) ?_ FU _ ⟨0, -1, [], rfl, Nat.zero_le _, ⟨fun w h => (List.not_mem_nil h).elim, List.Pairwise.nil, fun i a b h => by simp at h, Nat.le_refl _, fun x h => by omega, fun h => absurd rfl h, fun W0 w h => by simp at h⟩⟩ (by unfold FU; simp only; omega)
    rintro nx v ⟨k, last, W, rfl, hk, J⟩ hnx
    dsimp only
    rw [lt_nat]
    by_cases c : k < ts.length
    rotate_left
    · have e : k = ts.length := by omega
      subst e
      rw [decide_eq_false c, fk_f]
      refine ⟨_, rfl, rfl, ⟨by show (1 : Int) ≤ (ts.length : Int); omega, by show (ts.length : Int) ≤ 240; omega, fun w hw => (J.w w hw).1, J.p, J.c, by show W.length ≤ 240; have := J.l; omega⟩, rfl, fun x y hx => J.v x (List.getElem?_eq_some_iff.1 hx).1 y hx⟩
    have hb := h3 _ (List.getElem_mem c)
    have hty : ts[k]? = some ts[k] := List.getElem?_eq_getElem c
    rw [decide_eq_true c, fk_t, ix_lt c, wr_succ k _ c (by omega)]
    generalize ts[k] = y at *
    rw [jn_eq, decide_eq_false (show ¬ y < -1 by omega), fk_f, decide_eq_false (show ¬ y ≥ 4 by omega)]
    dsimp only
    rw [fk_f]
    have go : ∀ W', ofI (ts.length : Int) ts (k + 1) y W' → ∃ r, nx (y, W', ((k + 1 : Nat) : Int)) = some r ∧ (r.2 = 0 ∧ tabP r.1 ∧ r.1.Frame = (ts.length : Int) ∧ ∀ x : Nat, ∀ y, ts[x]? = some y → whoV r.1.Windows (x : Int) = y) := fun W' h' => hnx _ ⟨k + 1, y, W', rfl, c, h'⟩ (by simp only [Int.toNat_natCast]; omega)
    rw [jn_eq, jn_eq]
    by_cases c1 : y = last ∧ y ≠ -1
    · obtain ⟨rfl, cy⟩ := c1
      obtain ⟨W0, w, rfl, hwp, hwe⟩ := J.e1 cy
      have hlen : (W0 ++ [w]).length = W0.length + 1 := by simp
      have hlt : W0.length < (W0 ++ [w]).length := by omega
      have hget : (W0 ++ [w])[W0.length] = w := by simp
      have hl240 := J.l
      rw [decide_eq_true rfl, fk_t, decide_eq_false cy]
      dsimp only
      rw [Bool.not_false, fk_t, hlen]
      have ei : wr (((W0.length + 1 : Nat) : Int) - 1) = (W0.length : Int) := by rw [wr_in _ (by omega)]; omega
      have hJw := J.w w (by simp)
      have hwin := hJw.1
      unfold winP at hwin
      rw [ei, Int.toNat_natCast, ck_t (by simp; omega), ox_lt hlt, ck_t (by simp; omega), ox_lt hlt, hget, wr_in (w.Len + 1) (by omega)]
      have hset : (W0 ++ [w]).set W0.length ⟨w.Part, w.From, w.Len + 1⟩ = W0 ++ [⟨w.Part, w.From, w.Len + 1⟩] := by simp
      rw [hset]
      have hp := List.pairwise_append.1 J.p
      have hbefore : ∀ a ∈ W0, a.From + a.Len ≤ w.From := fun a ha => hp.2.2 a ha w (by simp)
      refine go _ ⟨fun a ha => ?_, ?_, fun i a b hA hB => ?_, by rw [List.length_append, List.length_singleton]; omega, fun x hx z hz => ?_, fun _ => ⟨W0, _, rfl, hwp, by show w.From + (w.Len + 1) = _; omega⟩, fun W1 w1 he hee => ?_⟩
      · rcases List.mem_append.1 ha with h | h
        · have := J.w a (List.mem_append_left _ h); exact ⟨this.1, by omega⟩
        · rw [List.mem_singleton.1 h]
          refine ⟨⟨hwin.1, hwin.2.1, hwin.2.2.1, by show 1 ≤ w.Len + 1; omega, by show w.From + (w.Len + 1) ≤ _; omega⟩, by show w.From + (w.Len + 1) ≤ _; omega⟩
      · exact List.pairwise_append.2 ⟨hp.1, List.pairwise_singleton _ _, fun a ha b hb => by rw [List.mem_singleton.1 hb]; exact hbefore a ha⟩
      · by_cases ci : i + 1 < W0.length
        · rw [List.getElem?_append_left ci] at hB
          rw [List.getElem?_append_left (by omega)] at hA
          exact J.c i a b (by rw [List.getElem?_append_left (by omega)]; exact hA) (by rw [List.getElem?_append_left ci]; exact hB)
        · have hlb := (List.getElem?_eq_some_iff.1 hB).1
          rw [List.length_append, List.length_singleton] at hlb
          have ei : i + 1 = W0.length := by omega
          rw [ei, List.getElem?_append_right (Nat.le_refl _), Nat.sub_self] at hB
          simp only [List.getElem?_cons_zero, Option.some.injEq] at hB
          subst hB
          rw [List.getElem?_append_left (by omega)] at hA
          exact J.c i a w (by rw [List.getElem?_append_left (by omega)]; exact hA) (by rw [ei, List.getElem?_append_right (Nat.le_refl _), Nat.sub_self]; rfl)
      · rw [whoV_snoc (w := (⟨w.Part, w.From, w.Len + 1⟩ : Window)) hbefore]
        by_cases cx : x < k
        · have := J.v x cx z hz
          rw [whoV_snoc hbefore] at this
          by_cases ci : inW w (x : Int)
          · rw [if_pos ci] at this
            rw [if_pos (by unfold inW at *; simp only; omega)]; exact this
          · rw [if_neg ci] at this
            rw [if_neg (by unfold inW at *; simp only; omega)]; exact this
        · have ex : x = k := by omega
          subst ex
          rw [hty] at hz
          cases hz
          rw [if_pos (by unfold inW; simp only; omega)]; exact hwp
      · have := List.append_inj' he rfl
        have e2 : w1 = ⟨w.Part, w.From, w.Len + 1⟩ := by have := this.2; simp at this; exact this.symm
        rw [e2]; exact hwp
    have tail : ∀ W', (y = -1 → W' = W) → (y ≠ -1 → W' = W ++ [⟨y, (k : Int), 1⟩]) → ofI (ts.length : Int) ts (k + 1) y W' := by
      intro W' hn hy
      by_cases cy : y = -1
      · rw [hn cy]
        refine ⟨fun a ha => ⟨(J.w a ha).1, by have := (J.w a ha).2; omega⟩, J.p, J.c, by have := J.l; omega, fun x hx z hz => ?_, fun h => absurd cy h, fun W0 w he hee => ?_⟩
        · by_cases cx : x < k
          · exact J.v x cx z hz
          · have ex : x = k := by omega
            subst ex
            rw [hty] at hz
            cases hz
            rw [whoV_none fun a ha hi => ?_, cy]
            have := (J.w a ha).2
            unfold inW at hi
            omega
        · have := (J.w w (by rw [he]; simp)).2
          omega
      · rw [hy cy]
        have hbefore : ∀ a ∈ W, a.From + a.Len ≤ (⟨y, (k : Int), 1⟩ : Window).From := fun a ha => (J.w a ha).2
        refine ⟨fun a ha => ?_, List.pairwise_append.2 ⟨J.p, List.pairwise_singleton _ _, fun a ha b hb => by rw [List.mem_singleton.1 hb]; exact hbefore a ha⟩, fun i a b hA hB => ?_, by rw [List.length_append, List.length_singleton]; have := J.l; omega, fun x hx z hz => ?_, fun _ => ⟨W, _, rfl, rfl, by show (k : Int) + 1 = _; omega⟩, fun W1 w1 he hee => ?_⟩
        · rcases List.mem_append.1 ha with h | h
          · exact ⟨(J.w a h).1, by have := (J.w a h).2; omega⟩
          · rw [List.mem_singleton.1 h]
            refine ⟨⟨by show 0 ≤ y; omega, by show y < 4; omega, by show (0 : Int) ≤ (k : Int); omega, Int.le_refl _, by show (k : Int) + 1 ≤ _; omega⟩, by show (k : Int) + 1 ≤ _; omega⟩
        · by_cases ci : i + 1 < W.length
          · rw [List.getElem?_append_left ci] at hB
            rw [List.getElem?_append_left (by omega)] at hA
            exact J.c i a b hA hB
          · have hlb := (List.getElem?_eq_some_iff.1 hB).1
            rw [List.length_append, List.length_singleton] at hlb
            have ei : i + 1 = W.length := by omega
            rw [ei, List.getElem?_append_right (Nat.le_refl _), Nat.sub_self] at hB
            simp only [List.getElem?_cons_zero, Option.some.injEq] at hB
            subst hB
            rw [List.getElem?_append_left (by omega)] at hA
            rintro ⟨g1, g2⟩
            simp only at g1 g2
            have hil : i < W.length := by omega
            have hW : W = W.take i ++ [a] := by
              have h1 := List.take_append_getElem hil
              have h2 : W.take (i + 1) = W := List.take_of_length_le (by omega)
              rw [h2] at h1
              rw [List.getElem?_eq_getElem hil] at hA
              cases hA
              exact h1.symm
            have := J.e2 _ a hW g1
            exact c1 ⟨by omega, cy⟩
        · rw [whoV_snoc hbefore]
          by_cases cx : x < k
          · rw [if_neg (fun hi => by have := hi.1; simp only at this; omega)]; exact J.v x cx z hz
          · have ex : x = k := by omega
            subst ex
            rw [hty] at hz
            cases hz
            rw [if_pos (by unfold inW; simp only; omega)]
        · have := List.append_inj' he rfl
          have e2 : w1 = ⟨y, (k : Int), 1⟩ := by have := this.2; simp at this; exact this.symm
          rw [e2]
    have rest : ∃ r, (fk (!decide (y = (-1 : Int))) (ck (decide ((W.length + ([⟨y, (k : Int), (1 : Int)⟩] : List Window).length) * 24 ≤ 140737488355328)) (nx (y, W ++ ([⟨y, (k : Int), (1 : Int)⟩] : List Window), ((k + 1 : Nat) : Int)))) (nx (y, W, ((k + 1 : Nat) : Int)))) = some r ∧ (r.2 = 0 ∧ tabP r.1 ∧ r.1.Frame = (ts.length : Int) ∧ ∀ x : Nat, ∀ y, ts[x]? = some y → whoV r.1.Windows (x : Int) = y) := by
      have := J.l
      by_cases cy : y = -1
      · rw [decide_eq_true cy, Bool.not_true, fk_f]
        exact go W (tail W (fun _ => rfl) (fun h => absurd cy h))
      · rw [decide_eq_false cy, Bool.not_false, fk_t, ck_t (by simp; omega)]
        exact go _ (tail _ (fun h => absurd h cy) (fun _ => rfl))
    by_cases c2 : y = last
    · have cy : y = -1 := Classical.byContradiction fun h => c1 ⟨c2, h⟩
      rw [decide_eq_true c2, fk_t, decide_eq_true cy]
      rw [decide_eq_true cy] at rest
      exact rest
    · rw [decide_eq_false c2, fk_f]
      exact rest
  obtain ⟨r, e, a, b, c, d⟩ := key
  refine ⟨r.1, ?_, b, c, d⟩
  rw [e]
  obtain ⟨x, y⟩ := r
  simp only at a
  rw [a]
end Go.Proofs.YtldlcdnhdedoeaaGreat
namespace Go.Proofs.YtldlcdnhdedoeaaGreat
open Go Go.VC
noncomputable def synth_Frame (a0 : List Face) : Option (Int × Int) :=
  fk (decide ((a0.length : Int) > (4 : Int))) (some ((0 : Int), (1 : Int))) (lp (fun nx1 (v1 : Int) => fk (decide (v1 < (a0.length : Int))) (ix a0 v1 fun x2 => bnd (supply_Right x2) fun x3 => fk (!x3) (some ((0 : Int), (1 : Int))) (nx1 (wr (v1 + (1 : Int))))) (lp (fun nx4 (v4 : Int × Int) => fk (decide (v4.2 < (a0.length : Int))) (ix a0 v4.2 fun x5 => bnd (arith_Lcm v4.1 x5.P) fun x6 => jn (fun (w7 : Bool) => fk w7 (some ((0 : Int), (5 : Int))) (nx4 (x6.1, (wr (v4.2 + (1 : Int)))))) (fun k7 => fk (!decide (x6.2 = (0 : Int))) (k7 true) (k7 (decide (x6.1 > (240 : Int)))))) (some (v4.1, (0 : Int)))) FU ((1 : Int), (0 : Int)))) FU (0 : Int))
theorem synth_Frame_w (a0 : List Face) (r : Int × Int) (h : synth_Frame a0 = some r) : Go.VC.Spec Tryz.prog 151 [.d (.sl (a0.map Face.enc))] (fun y => y = E_Int_Int r) := by
  refine Go.VC.Spec.of_xc (args := [.d (.sl (a0.map Face.enc))]) (fn := Tryz.f151) tab ⟨[(0, [0]), (1, [0, 13]), (2, [2, 3]), (3, [0, 14, 15, 16]), (4, [0, 14, 15, 16, 17]), (5, [0, 5, 14, 15, 16]), (6, [0, 14, 15, 16, 22]), (7, [2, 3]), (8, [0, 14, 15, 16]), (9, [0, 6]), (10, [6, 24, 25, 26]), (11, [6, 24, 25, 26, 27]), (12, [6, 8, 24, 25, 26]), (13, [9, 10, 24, 25, 26]), (14, [9, 24, 25, 26, 42]), (15, [2, 3]), (16, [6, 24, 25, 26]), (17, [6, 24, 25, 26]), (18, [2, 3])], [], [100042], []⟩ 46 [.tmp 2, .tmp 3] rfl rfl rfl rfl rfl rfl ?_
  conv => whnf
  refine lenS a0 Face.enc rfl ?_
  conv => whnf
  refine fkS h (fun h => ?_) (fun h => ?_)
  · conv => whnf
    exact rt (E := E_Int_Int) h rfl
  conv => whnf
  refine lenS a0 Face.enc rfl ?_
  conv => whnf
  refine lpS (fun v1 => ⟨[(0, .l (.d (.sl (a0.map Face.enc)))), (14, .l (.d (.sl (a0.map Face.enc)))), (15, .l (.d (.int .i64 (a0.length : Int)))), (16, .l (.d (.int .i64 v1)))], 46, [], [], []⟩) h (Weak.refl _) (fun _ nx1 hn1 v1 h => ?_)
  conv => whnf
  refine fkS h (fun h => ?_) (fun h => ?_)
  · conv => whnf
    refine ixS (enc := Face.enc) h rfl (fun _ => rfl) (fun x2 h => ?_)
    conv => whnf
    refine caS (E := E_Bool) h (supply_Right_w x2) rfl (fun _ => rfl) (fun x3 h => ?_)
    conv => whnf
    refine fkS h (fun h => ?_) (fun h => ?_)
    · conv => whnf
      exact rt (E := E_Int_Int) h rfl
    conv => whnf
    exact leS hn1 h (Weak.refl _)
  conv => whnf
  refine lenS a0 Face.enc rfl ?_
  conv => whnf
  refine lpS (fun v4 => ⟨[(6, .l (.d (.int .i64 v4.1))), (24, .l (.d (.sl (a0.map Face.enc)))), (25, .l (.d (.int .i64 (a0.length : Int)))), (26, .l (.d (.int .i64 v4.2)))], 46, [], [], []⟩) h (Weak.refl _) (fun _ nx4 hn4 v4 h => ?_)
  conv => whnf
  refine fkS h (fun h => ?_) (fun h => ?_)
  · conv => whnf
    refine ixS (enc := Face.enc) h rfl (fun _ => rfl) (fun x5 h => ?_)
    conv => whnf
    refine caS (E := E_Int_Int) h (arith_Lcm_w v4.1 x5.P) rfl (fun _ => rfl) (fun x6 h => ?_)
    conv => whnf
    refine jnS (fun w7 => ⟨[(9, .l (.d (.int .i64 x6.1))), (24, .l (.d (.sl (a0.map Face.enc)))), (25, .l (.d (.int .i64 (a0.length : Int)))), (26, .l (.d (.int .i64 v4.2))), (42, .l (.d (.bool w7)))], 46, [], [], []⟩) h (fun k7 hk7 h => ?_) (fun w7 h => ?_)
    · conv => whnf
      refine fkS h (fun h => ?_) (fun h => ?_)
      · conv => whnf
        exact jeS hk7 h (Weak.refl _)
      conv => whnf
      exact jeS hk7 h (Weak.refl _)
    conv => whnf
    refine fkS h (fun h => ?_) (fun h => ?_)
    · conv => whnf
      exact rt (E := E_Int_Int) h rfl
    conv => whnf
    exact leS hn4 h (Weak.refl _)
  conv => whnf
  exact rt (E := E_Int_Int) h rfl

end Go.Proofs.YtldlcdnhdedoeaaGreat
namespace Go.Proofs.YtldlcdnhdedoeaaGreat
open Go Go.VC
noncomputable def synth_Lay (a0 : List Face) : Option ((List Int) × Int) :=
  bnd (synth_Frame a0) fun x1 => fk (!decide (x1.2 = (0 : Int))) (some ([], x1.2)) (ck (decide ((0 : Int) ≤ (a0.length : Int)) && decide ((a0.length : Int) * ((8 : Nat) : Int) ≤ 140737488355328) && decide ((a0.length : Int) ≤ 1000000000000)) (lp (fun nx2 (v2 : (List Int) × (List Int) × Int) => fk (decide (v2.2.2 < x1.1)) (lp (fun nx3 (v3 : (List Int) × Int) => fk (decide (v3.2 < (a0.length : Int))) (jn (fun (w4 : List Int) => nx3 (w4, (wr (v3.2 + (1 : Int))))) (fun k4 => ix a0 v3.2 fun x5 => ck (decide (x5.P ≠ 0)) (fk (!decide ((v2.2.2.tmod x5.P) = (0 : Int))) (k4 v3.1) (ck (decide (0 ≤ v3.2) && decide (v3.2 < (v3.1.length : Int))) (ox v3.1 v3.2.toNat fun x6 => fk (decide (x6 > (0 : Int))) (some ([], (7 : Int))) (ck (decide (0 ≤ v3.2) && decide (v3.2 < (v3.1.length : Int))) (ox v3.1 v3.2.toNat fun x7 => k4 (v3.1.set v3.2.toNat x5.B)))))))) (lp (fun nx8 (v8 : Int × Int × Int) => fk (decide (v8.2.2 < (a0.length : Int))) (jn (fun (w9 : Int × Int) => nx8 (w9.1, w9.2, (wr (v8.2.2 + (1 : Int))))) (fun k9 => ix a0 v8.2.2 fun x10 => ck (decide (x10.P ≠ 0)) (jn (fun (w11 : Bool) => fk w11 (k9 (v8.2.2, (wr ((wr (v2.2.2 - (v2.2.2.tmod x10.P))) + x10.P)))) (k9 (v8.1, v8.2.1))) (fun k11 => ck (decide (0 ≤ v8.2.2) && decide (v8.2.2 < (v3.1.length : Int))) (ox v3.1 v8.2.2.toNat fun x12 => fk (decide (x12 > (0 : Int))) (fk (decide (v8.1 = (-1 : Int))) (k11 true) (k11 (decide ((wr ((wr (v2.2.2 - (v2.2.2.tmod x10.P))) + x10.P)) < v8.2.1)))) (k11 false)))))) (fk (!decide (v8.1 = (-1 : Int))) (ck (decide (0 ≤ v8.1) && decide (v8.1 < (v3.1.length : Int))) (ox v3.1 v8.1.toNat fun x13 => ck (decide (0 ≤ v8.1) && decide (v8.1 < (v3.1.length : Int))) (ox v3.1 v8.1.toNat fun x14 => ck (decide ((v2.1.length + ([v8.1] : List Int).length) * 8 ≤ 140737488355328)) (nx2 (v2.1 ++ ([v8.1] : List Int), v3.1.set v8.1.toNat (wr (x13 - (1 : Int))), (wr (v2.2.2 + (1 : Int)))))))) (ck (decide ((v2.1.length + ([v8.1] : List Int).length) * 8 ≤ 140737488355328)) (nx2 (v2.1 ++ ([v8.1] : List Int), v3.1, (wr (v2.2.2 + (1 : Int)))))))) FU ((-1 : Int), (0 : Int), (0 : Int)))) FU (v2.2.1, (0 : Int))) (lp (fun nx15 (v15 : (List Int) × Int) => fk (decide (v15.2 < (a0.length : Int))) (jn (fun (w16 : List Int) => nx15 (w16, (wr (v15.2 + (1 : Int))))) (fun k16 => ix a0 v15.2 fun x17 => ck (decide (x17.P ≠ 0)) (fk (!decide ((x1.1.tmod x17.P) = (0 : Int))) (k16 v15.1) (ck (decide (0 ≤ v15.2) && decide (v15.2 < (v15.1.length : Int))) (ox v15.1 v15.2.toNat fun x18 => fk (decide (x18 > (0 : Int))) (some ([], (7 : Int))) (ck (decide (0 ≤ v15.2) && decide (v15.2 < (v15.1.length : Int))) (ox v15.1 v15.2.toNat fun x19 => k16 (v15.1.set v15.2.toNat x17.B)))))))) (some (v2.1, (0 : Int)))) FU (v2.2.1, (0 : Int)))) FU ([], List.replicate (a0.length : Int).toNat ((0 : Int) : Int), (0 : Int))))
theorem synth_Lay_w (a0 : List Face) (r : (List Int) × Int) (h : synth_Lay a0 = some r) : Go.VC.Spec Tryz.prog 113 [.d (.sl (a0.map Face.enc))] (fun y => y = E_ListInt_Int r) := by
  refine Go.VC.Spec.of_xc (args := [.d (.sl (a0.map Face.enc))]) (fn := Tryz.f113) tab ⟨[(0, [0]), (1, [0, 4, 5]), (2, [0, 4, 5, 17]), (3, [2, 3]), (4, [4, 6]), (5, [4, 7, 8]), (6, [4, 7, 8, 9]), (7, [4, 7, 8, 9, 29, 30]), (8, [4, 7, 8, 9, 29, 30, 31]), (9, [4, 7, 8, 9, 10, 29, 30]), (10, [4, 7, 8, 9, 10, 29, 30, 36]), (11, [2, 3]), (12, [4, 7, 8, 9, 29, 30]), (13, [4, 7, 8, 9, 29, 30]), (14, [9, 47]), (15, [2, 3]), (16, [2, 3])], [], [], []⟩ 49 [.tmp 2, .tmp 3] rfl rfl rfl rfl rfl rfl ?_
  conv => whnf
  refine caS (E := E_Int_Int) h (synth_Frame_w a0) rfl (fun _ => rfl) (fun x1 h => ?_)
  conv => whnf
  refine fkS h (fun h => ?_) (fun h => ?_)
  · conv => whnf
    exact rt (E := E_ListInt_Int) h rfl
  conv => whnf
  refine lenS a0 Face.enc rfl ?_
  conv => whnf
  refine mkS ((0 : Int) : Int) (eI .i64) h rfl rfl (fun h => ?_)
  conv => whnf
  refine lpS (fun v2 => ⟨[(4, .l (.d (.int .i64 x1.1))), (7, .l (.mfn 152 25)), (8, .l (.mfn 153 25)), (9, .l (.own 10)), (29, .l (.d (.int .i64 x1.1))), (30, .l (.d (.int .i64 v2.2.2)))], 49, [], [(25, [.d (.sl (a0.map Face.enc)), .own 23])], [(10, 3, 1, v2.1.map (eI .i64)), (23, 3, 1, v2.2.1.map (eI .i64))]⟩) h (Weak.trans (Weak.nilO _ 9 10 3 1 rfl) (Weak.refl _)) (fun _ nx2 hn2 v2 h => ?_)
  conv => whnf
  refine fkS h (fun h => ?_) (fun h => ?_)
  · conv => whnf
    refine inS (fn := Tryz.f152) tab ⟨[(0, [0, 1]), (1, [0, 1, 10, 11, 12]), (2, [0, 1, 10, 11, 12, 13]), (3, [0, 1, 5, 6, 10, 11, 12]), (4, [0, 1, 5, 6, 10, 11, 12, 21]), (5, [0, 1, 5, 6, 10, 11, 12, 29]), (6, [4]), (7, [0, 1, 10, 11, 12]), (8, [0, 1, 10, 11, 12]), (9, [4])], [], [8], []⟩ 39 [.tmp 4] rfl rfl rfl rfl rfl rfl ?_
    conv => whnf
    refine lenS a0 Face.enc rfl ?_
    conv => whnf
    refine lpS (fun v3 => ⟨[(0, .l (.ptr 25 0)), (1, .l (.d (.int .i64 v2.2.2))), (10, .l (.d (.sl (a0.map Face.enc)))), (11, .l (.d (.int .i64 (a0.length : Int)))), (12, .l (.d (.int .i64 v3.2)))], 39, [⟨[(34, .l (.d (.int .i64 v2.2.2))), (33, .l (.mfn 152 25)), (4, .l (.d (.int .i64 x1.1))), (7, .l (.mfn 152 25)), (8, .l (.mfn 153 25)), (9, .l (.own 10)), (10, .l (.d (.int .i64 v2.2.2))), (29, .l (.d (.int .i64 x1.1))), (30, .l (.d (.int .i64 v2.2.2)))], 49⟩], [(25, [.d (.sl (a0.map Face.enc)), .own 23])], [(10, 3, 1, v2.1.map (eI .i64)), (23, 3, 1, v3.1.map (eI .i64))]⟩) h (Weak.refl _) (fun _ nx3 hn3 v3 h => ?_)
    conv => whnf
    refine fkS h (fun h => ?_) (fun h => ?_)
    · conv => whnf
      refine jnS (fun w4 => ⟨[(0, .l (.ptr 25 0)), (1, .l (.d (.int .i64 v2.2.2))), (10, .l (.d (.sl (a0.map Face.enc)))), (11, .l (.d (.int .i64 (a0.length : Int)))), (12, .l (.d (.int .i64 v3.2)))], 39, [⟨[(34, .l (.d (.int .i64 v2.2.2))), (33, .l (.mfn 152 25)), (4, .l (.d (.int .i64 x1.1))), (7, .l (.mfn 152 25)), (8, .l (.mfn 153 25)), (9, .l (.own 10)), (10, .l (.d (.int .i64 v2.2.2))), (29, .l (.d (.int .i64 x1.1))), (30, .l (.d (.int .i64 v2.2.2)))], 49⟩], [(25, [.d (.sl (a0.map Face.enc)), .own 23])], [(10, 3, 1, v2.1.map (eI .i64)), (23, 3, 1, w4.map (eI .i64))]⟩) h (fun k4 hk4 h => ?_) (fun w4 h => ?_)
      · conv => whnf
        refine ixS (enc := Face.enc) h rfl (fun _ => rfl) (fun x5 h => ?_)
        conv => whnf
        refine dvS h (fun h => ?_)
        conv => whnf
        refine fkS h (fun h => ?_) (fun h => ?_)
        · conv => whnf
          refine jeX hk4 h ?_
          conv => whnf
          refine WkF.step (Weak.keepS _ [0, 1, 10, 11, 12]) ?_
          conv => whnf
          exact WkF.refl _
        conv => whnf
        refine ioS (enc := (eI .i64)) h rfl (fun h => ?_)
        conv => whnf
        refine oxS (enc := (eI .i64)) h rfl (fun x6 h => ?_)
        conv => whnf
        refine fkS h (fun h => ?_) (fun h => ?_)
        · conv => whnf
          exact rt (E := E_ListInt_Int) h rfl
        conv => whnf
        refine ⟨7, ?_⟩
        conv => whnf
        refine drS (by kernel_rfl) ?_
        conv => whnf
        refine ioS (enc := (eI .i64)) h rfl (fun h => ?_)
        conv => whnf
        refine seS (enc := (eI .i64)) h rfl (fun x7 => x5.B) (fun _ => rfl) (fun x7 h => ?_)
        conv => whnf
        exact jeS hk4 h (Weak.refl _)
      conv => whnf
      exact leS hn3 h (Weak.refl _)
    conv => whnf
    refine inS (fn := Tryz.f153) tab ⟨[(0, [0, 1]), (1, [0, 1, 5, 6]), (2, [0, 1, 5, 6, 13, 14, 15]), (3, [0, 1, 5, 6, 13, 14, 15, 16]), (4, [0, 1, 5, 6, 7, 8, 13, 14, 15]), (5, [0, 1, 5, 6, 7, 9, 13, 14, 15]), (6, [0, 1, 5, 6, 7, 9, 13, 14, 15, 45]), (7, [0, 1, 5, 6, 13, 14, 15]), (8, [0, 1, 5, 6, 13, 14, 15]), (9, [0, 5, 50]), (10, [5]), (11, [4])], [], [100045, 8], []⟩ 61 [.tmp 4] rfl rfl rfl rfl rfl rfl ?_
    conv => whnf
    refine lenS a0 Face.enc rfl ?_
    conv => whnf
    refine lpS (fun v8 => ⟨[(0, .l (.ptr 25 0)), (1, .l (.d (.int .i64 v2.2.2))), (5, .l (.d (.int .i64 v8.1))), (6, .l (.d (.int .i64 v8.2.1))), (13, .l (.d (.sl (a0.map Face.enc)))), (14, .l (.d (.int .i64 (a0.length : Int)))), (15, .l (.d (.int .i64 v8.2.2)))], 61, [⟨[(39, .l (.d (.int .i64 v2.2.2))), (38, .l (.mfn 153 25)), (37, .l (.own 10)), (36, .l (.d (.bool false))), (4, .l (.d (.int .i64 x1.1))), (7, .l (.mfn 152 25)), (8, .l (.mfn 153 25)), (9, .l (.own 10)), (10, .l (.d (.int .i64 v2.2.2))), (29, .l (.d (.int .i64 x1.1))), (30, .l (.d (.int .i64 v2.2.2))), (36, .l (.d (.bool false)))], 49⟩], [(25, [.d (.sl (a0.map Face.enc)), .own 23])], [(10, 3, 1, v2.1.map (eI .i64)), (23, 3, 1, v3.1.map (eI .i64))]⟩) h (Weak.refl _) (fun _ nx8 hn8 v8 h => ?_)
    conv => whnf
    refine fkS h (fun h => ?_) (fun h => ?_)
    · conv => whnf
      refine jnS (fun w9 => ⟨[(0, .l (.ptr 25 0)), (1, .l (.d (.int .i64 v2.2.2))), (5, .l (.d (.int .i64 w9.1))), (6, .l (.d (.int .i64 w9.2))), (13, .l (.d (.sl (a0.map Face.enc)))), (14, .l (.d (.int .i64 (a0.length : Int)))), (15, .l (.d (.int .i64 v8.2.2)))], 61, [⟨[(39, .l (.d (.int .i64 v2.2.2))), (38, .l (.mfn 153 25)), (37, .l (.own 10)), (36, .l (.d (.bool false))), (4, .l (.d (.int .i64 x1.1))), (7, .l (.mfn 152 25)), (8, .l (.mfn 153 25)), (9, .l (.own 10)), (10, .l (.d (.int .i64 v2.2.2))), (29, .l (.d (.int .i64 x1.1))), (30, .l (.d (.int .i64 v2.2.2))), (36, .l (.d (.bool false)))], 49⟩], [(25, [.d (.sl (a0.map Face.enc)), .own 23])], [(10, 3, 1, v2.1.map (eI .i64)), (23, 3, 1, v3.1.map (eI .i64))]⟩) h (fun k9 hk9 h => ?_) (fun w9 h => ?_)
      · conv => whnf
        refine ixS (enc := Face.enc) h rfl (fun _ => rfl) (fun x10 h => ?_)
        conv => whnf
        refine ⟨8, ?_⟩
        conv => whnf
        refine dvS h (fun h => ?_)
        conv => whnf
        refine drS (by kernel_rfl) ?_
        conv => whnf
        refine jnS (fun w11 => ⟨[(0, .l (.ptr 25 0)), (1, .l (.d (.int .i64 v2.2.2))), (5, .l (.d (.int .i64 v8.1))), (6, .l (.d (.int .i64 v8.2.1))), (7, .l (.d (.int .i64 v8.2.2))), (9, .l (.d (.int .i64 (wr ((wr (v2.2.2 - (v2.2.2.tmod x10.P))) + x10.P))))), (13, .l (.d (.sl (a0.map Face.enc)))), (14, .l (.d (.int .i64 (a0.length : Int)))), (15, .l (.d (.int .i64 v8.2.2))), (45, .l (.d (.bool w11)))], 61, [⟨[(39, .l (.d (.int .i64 v2.2.2))), (38, .l (.mfn 153 25)), (37, .l (.own 10)), (36, .l (.d (.bool false))), (4, .l (.d (.int .i64 x1.1))), (7, .l (.mfn 152 25)), (8, .l (.mfn 153 25)), (9, .l (.own 10)), (10, .l (.d (.int .i64 v2.2.2))), (29, .l (.d (.int .i64 x1.1))), (30, .l (.d (.int .i64 v2.2.2))), (36, .l (.d (.bool false)))], 49⟩], [(25, [.d (.sl (a0.map Face.enc)), .own 23])], [(10, 3, 1, v2.1.map (eI .i64)), (23, 3, 1, v3.1.map (eI .i64))]⟩) h (fun k11 hk11 h => ?_) (fun w11 h => ?_)
        · conv => whnf
          refine ioS (enc := (eI .i64)) h rfl (fun h => ?_)
          conv => whnf
          refine oxS (enc := (eI .i64)) h rfl (fun x12 h => ?_)
          conv => whnf
          refine fkS h (fun h => ?_) (fun h => ?_)
          · conv => whnf
            refine fkS h (fun h => ?_) (fun h => ?_)
            · conv => whnf
              exact jeS hk11 h (Weak.refl _)
            conv => whnf
            exact jeS hk11 h (Weak.refl _)
          conv => whnf
          exact jeS hk11 h (Weak.refl _)
        conv => whnf
        refine fkS h (fun h => ?_) (fun h => ?_)
        · conv => whnf
          exact jeS hk9 h (Weak.refl _)
        conv => whnf
        refine jeX hk9 h ?_
        conv => whnf
        refine WkF.step (Weak.keepS _ [0, 1, 5, 6, 13, 14, 15]) ?_
        conv => whnf
        exact WkF.refl _
      conv => whnf
      exact leS hn8 h (Weak.refl _)
    conv => whnf
    refine fkS h (fun h => ?_) (fun h => ?_)
    · conv => whnf
      refine ioS (enc := (eI .i64)) h rfl (fun h => ?_)
      conv => whnf
      refine oxS (enc := (eI .i64)) h rfl (fun x13 h => ?_)
      conv => whnf
      refine ioS (enc := (eI .i64)) h rfl (fun h => ?_)
      conv => whnf
      refine seS (enc := (eI .i64)) h rfl (fun x14 => (wr (x13 - (1 : Int)))) (fun _ => rfl) (fun x14 h => ?_)
      conv => whnf
      refine liS ([v8.1] : List Int) (eI .i64) rfl rfl ?_
      conv => whnf
      refine apS (enc := (eI .i64)) (l1 := v2.1) (l2 := ([v8.1] : List Int)) h rfl rfl (fun _ => rfl) (fun h => ?_)
      conv => whnf
      exact leS hn2 h (Weak.refl _)
    conv => whnf
    refine liS ([v8.1] : List Int) (eI .i64) rfl rfl ?_
    conv => whnf
    refine apS (enc := (eI .i64)) (l1 := v2.1) (l2 := ([v8.1] : List Int)) h rfl rfl (fun _ => rfl) (fun h => ?_)
    conv => whnf
    exact leS hn2 h (Weak.refl _)
  conv => whnf
  refine inS (fn := Tryz.f152) tab ⟨[(0, [0, 1]), (1, [0, 1, 10, 11, 12]), (2, [0, 1, 10, 11, 12, 13]), (3, [0, 1, 5, 6, 10, 11, 12]), (4, [0, 1, 5, 6, 10, 11, 12, 21]), (5, [0, 1, 5, 6, 10, 11, 12, 29]), (6, [4]), (7, [0, 1, 10, 11, 12]), (8, [0, 1, 10, 11, 12]), (9, [4])], [], [8], []⟩ 39 [.tmp 4] rfl rfl rfl rfl rfl rfl ?_
  conv => whnf
  refine lenS a0 Face.enc rfl ?_
  conv => whnf
  refine lpS (fun v15 => ⟨[(0, .l (.ptr 25 0)), (1, .l (.d (.int .i64 x1.1))), (10, .l (.d (.sl (a0.map Face.enc)))), (11, .l (.d (.int .i64 (a0.length : Int)))), (12, .l (.d (.int .i64 v15.2)))], 39, [⟨[(45, .l (.d (.int .i64 x1.1))), (44, .l (.mfn 152 25)), (31, .l (.d (.bool false))), (4, .l (.d (.int .i64 x1.1))), (7, .l (.mfn 152 25)), (8, .l (.mfn 153 25)), (9, .l (.own 10)), (29, .l (.d (.int .i64 x1.1))), (30, .l (.d (.int .i64 v2.2.2))), (31, .l (.d (.bool (decide (v2.2.2 < x1.1)))))], 49⟩], [(25, [.d (.sl (a0.map Face.enc)), .own 23])], [(10, 3, 1, v2.1.map (eI .i64)), (23, 3, 1, v15.1.map (eI .i64))]⟩) h (Weak.refl _) (fun _ nx15 hn15 v15 h => ?_)
  conv => whnf
  refine fkS h (fun h => ?_) (fun h => ?_)
  · conv => whnf
    refine jnS (fun w16 => ⟨[(0, .l (.ptr 25 0)), (1, .l (.d (.int .i64 x1.1))), (10, .l (.d (.sl (a0.map Face.enc)))), (11, .l (.d (.int .i64 (a0.length : Int)))), (12, .l (.d (.int .i64 v15.2)))], 39, [⟨[(45, .l (.d (.int .i64 x1.1))), (44, .l (.mfn 152 25)), (31, .l (.d (.bool false))), (4, .l (.d (.int .i64 x1.1))), (7, .l (.mfn 152 25)), (8, .l (.mfn 153 25)), (9, .l (.own 10)), (29, .l (.d (.int .i64 x1.1))), (30, .l (.d (.int .i64 v2.2.2))), (31, .l (.d (.bool (decide (v2.2.2 < x1.1)))))], 49⟩], [(25, [.d (.sl (a0.map Face.enc)), .own 23])], [(10, 3, 1, v2.1.map (eI .i64)), (23, 3, 1, w16.map (eI .i64))]⟩) h (fun k16 hk16 h => ?_) (fun w16 h => ?_)
    · conv => whnf
      refine ixS (enc := Face.enc) h rfl (fun _ => rfl) (fun x17 h => ?_)
      conv => whnf
      refine dvS h (fun h => ?_)
      conv => whnf
      refine fkS h (fun h => ?_) (fun h => ?_)
      · conv => whnf
        refine jeX hk16 h ?_
        conv => whnf
        refine WkF.step (Weak.keepS _ [0, 1, 10, 11, 12]) ?_
        conv => whnf
        exact WkF.refl _
      conv => whnf
      refine ioS (enc := (eI .i64)) h rfl (fun h => ?_)
      conv => whnf
      refine oxS (enc := (eI .i64)) h rfl (fun x18 h => ?_)
      conv => whnf
      refine fkS h (fun h => ?_) (fun h => ?_)
      · conv => whnf
        exact rt (E := E_ListInt_Int) h rfl
      conv => whnf
      refine ⟨7, ?_⟩
      conv => whnf
      refine drS (by kernel_rfl) ?_
      conv => whnf
      refine ioS (enc := (eI .i64)) h rfl (fun h => ?_)
      conv => whnf
      refine seS (enc := (eI .i64)) h rfl (fun x19 => x17.B) (fun _ => rfl) (fun x19 h => ?_)
      conv => whnf
      exact jeS hk16 h (Weak.refl _)
    conv => whnf
    exact leS hn15 h (Weak.refl _)
  conv => whnf
  exact rt (E := E_ListInt_Int) h rfl

end Go.Proofs.YtldlcdnhdedoeaaGreat
namespace Go.Proofs.YtldlcdnhdedoeaaGreat
open Go Go.VC
noncomputable def ref12_Frame (a0 : List Face) : Option (Int × Int) :=
  fk (decide ((a0.length : Int) > (4 : Int))) (some ((0 : Int), (1 : Int))) (lp (fun nx1 (v1 : Int) => fk (decide (v1 < (a0.length : Int))) (ix a0 v1 fun x2 => bnd (ref09_Right x2) fun x3 => fk (!x3) (some ((0 : Int), (1 : Int))) (nx1 (wr (v1 + (1 : Int))))) (lp (fun nx4 (v4 : Int) => fk (decide (v4 ≤ (240 : Int))) (lp (fun nx5 (v5 : Bool × Int) => fk (decide (v5.2 < (a0.length : Int))) (jn (fun (w6 : Bool) => nx5 (w6, (wr (v5.2 + (1 : Int))))) (fun k6 => fk v5.1 (ix a0 v5.2 fun x7 => ck (decide (x7.P ≠ 0)) (k6 (decide ((v4.tmod x7.P) = (0 : Int))))) (k6 false))) (fk v5.1 (some (v4, (0 : Int))) (nx4 (wr (v4 + (1 : Int)))))) FU (true, (0 : Int))) (some ((0 : Int), (5 : Int)))) FU (1 : Int))) FU (0 : Int))
theorem ref12_Frame_w (a0 : List Face) (r : Int × Int) (h : ref12_Frame a0 = some r) : Go.VC.Spec Tryz.prog 116 [.d (.sl (a0.map Face.enc))] (fun y => y = E_Int_Int r) := by
  refine Go.VC.Spec.of_xc (args := [.d (.sl (a0.map Face.enc))]) (fn := Tryz.f116) tab ⟨[(0, [0]), (1, [0, 10]), (2, [2, 3]), (3, [0, 4]), (4, [0, 4, 14]), (5, [0, 4]), (6, [0, 4, 22]), (7, [2, 3]), (8, [0, 5]), (9, [0, 5, 24]), (10, [0, 5]), (11, [0, 5, 6]), (12, [0, 5, 6, 7]), (13, [0, 5, 6, 7, 30]), (14, [0, 5, 6, 7]), (15, [0, 5, 6, 7]), (16, [0, 5, 44]), (17, [2, 3]), (18, [2, 3])], [], [14], []⟩ 46 [.tmp 2, .tmp 3] rfl rfl rfl rfl rfl rfl ?_
  conv => whnf
  refine lenS a0 Face.enc rfl ?_
  conv => whnf
  refine fkS h (fun h => ?_) (fun h => ?_)
  · conv => whnf
    exact rt (E := E_Int_Int) h rfl
  conv => whnf
  refine lpS (fun v1 => ⟨[(0, .l (.d (.sl (a0.map Face.enc)))), (4, .l (.d (.int .i64 v1)))], 46, [], [], []⟩) h (Weak.refl _) (fun _ nx1 hn1 v1 h => ?_)
  conv => whnf
  refine lenS a0 Face.enc rfl ?_
  conv => whnf
  refine fkS h (fun h => ?_) (fun h => ?_)
  · conv => whnf
    refine ixS (enc := Face.enc) h rfl (fun _ => rfl) (fun x2 h => ?_)
    conv => whnf
    refine caS (E := E_Bool) h (ref09_Right_w x2) rfl (fun _ => rfl) (fun x3 h => ?_)
    conv => whnf
    refine fkS h (fun h => ?_) (fun h => ?_)
    · conv => whnf
      exact rt (E := E_Int_Int) h rfl
    conv => whnf
    exact leS hn1 h (Weak.refl _)
  conv => whnf
  refine lpS (fun v4 => ⟨[(0, .l (.d (.sl (a0.map Face.enc)))), (5, .l (.d (.int .i64 v4)))], 46, [], [], []⟩) h (Weak.refl _) (fun _ nx4 hn4 v4 h => ?_)
  conv => whnf
  refine fkS h (fun h => ?_) (fun h => ?_)
  · conv => whnf
    refine lpS (fun v5 => ⟨[(0, .l (.d (.sl (a0.map Face.enc)))), (5, .l (.d (.int .i64 v4))), (6, .l (.d (.bool v5.1))), (7, .l (.d (.int .i64 v5.2)))], 46, [], [], []⟩) h (Weak.refl _) (fun _ nx5 hn5 v5 h => ?_)
    conv => whnf
    refine lenS a0 Face.enc rfl ?_
    conv => whnf
    refine fkS h (fun h => ?_) (fun h => ?_)
    · conv => whnf
      refine jnS (fun w6 => ⟨[(0, .l (.d (.sl (a0.map Face.enc)))), (5, .l (.d (.int .i64 v4))), (6, .l (.d (.bool w6))), (7, .l (.d (.int .i64 v5.2)))], 46, [], [], []⟩) h (fun k6 hk6 h => ?_) (fun w6 h => ?_)
      · conv => whnf
        refine fkS h (fun h => ?_) (fun h => ?_)
        · conv => whnf
          refine ixS (enc := Face.enc) h rfl (fun _ => rfl) (fun x7 h => ?_)
          conv => whnf
          refine dvS h (fun h => ?_)
          conv => whnf
          exact jeS hk6 h (Weak.refl _)
        conv => whnf
        exact jeS hk6 h (Weak.refl _)
      conv => whnf
      exact leS hn5 h (Weak.refl _)
    conv => whnf
    refine fkS h (fun h => ?_) (fun h => ?_)
    · conv => whnf
      exact rt (E := E_Int_Int) h rfl
    conv => whnf
    exact leS hn4 h (Weak.refl _)
  conv => whnf
  exact rt (E := E_Int_Int) h rfl

end Go.Proofs.YtldlcdnhdedoeaaGreat
namespace Go.Proofs.YtldlcdnhdedoeaaGreat
open Go Go.VC
noncomputable def ref12_Had (a0 : List Int) (a1 : Int) (a2 : Int) : Option Int :=
  lp (fun nx1 (v1 : Int × Int) => fk (decide (v1.2 < (a0.length : Int))) (jn (fun (w2 : Int) => nx1 (w2, (wr (v1.2 + (1 : Int))))) (fun k2 => ix a0 v1.2 fun x3 => fk (decide (x3 = a1)) (k2 (wr (v1.1 + (1 : Int)))) (k2 v1.1))) (some v1.1)) FU ((0 : Int), a2)
theorem ref12_Had_w (a0 : List Int) (a1 : Int) (a2 : Int) (r : Int) (h : ref12_Had a0 a1 a2 = some r) : Go.VC.Spec Tryz.prog 118 [.d (.sl (a0.map (eI .i64))), .d (.int .i64 a1), .d (.int .i64 a2)] (fun y => y = E_Int r) := by
  refine Go.VC.Spec.of_xc (args := [.d (.sl (a0.map (eI .i64))), .d (.int .i64 a1), .d (.int .i64 a2)]) (fn := Tryz.f118) tab ⟨[(0, [0, 1, 2]), (1, [0, 1, 2, 7]), (2, [0, 1, 7, 8]), (3, [0, 1, 7, 8, 13]), (4, [0, 1, 7, 8]), (5, [0, 1, 7, 8, 21]), (6, [0, 1, 7, 8]), (7, [6])], [], [4], []⟩ 25 [.tmp 6] rfl rfl rfl rfl rfl rfl ?_
  conv => whnf
  refine lpS (fun v1 => ⟨[(0, .l (.d (.sl (a0.map (eI .i64))))), (1, .l (.d (.int .i64 a1))), (7, .l (.d (.int .i64 v1.1))), (8, .l (.d (.int .i64 v1.2)))], 25, [], [], []⟩) h (Weak.refl _) (fun _ nx1 hn1 v1 h => ?_)
  conv => whnf
  refine lenS a0 (eI .i64) rfl ?_
  conv => whnf
  refine fkS h (fun h => ?_) (fun h => ?_)
  · conv => whnf
    refine jnS (fun w2 => ⟨[(0, .l (.d (.sl (a0.map (eI .i64))))), (1, .l (.d (.int .i64 a1))), (7, .l (.d (.int .i64 w2))), (8, .l (.d (.int .i64 v1.2)))], 25, [], [], []⟩) h (fun k2 hk2 h => ?_) (fun w2 h => ?_)
    · conv => whnf
      refine ixS (enc := (eI .i64)) h rfl (fun _ => rfl) (fun x3 h => ?_)
      conv => whnf
      refine fkS h (fun h => ?_) (fun h => ?_)
      · conv => whnf
        exact jeS hk2 h (Weak.refl _)
      conv => whnf
      refine jeX hk2 h ?_
      conv => whnf
      refine WkF.step (Weak.keepS _ [0, 1, 7, 8]) ?_
      conv => whnf
      exact WkF.refl _
    conv => whnf
    exact leS hn1 h (Weak.refl _)
  conv => whnf
  exact rt (E := E_Int) h rfl

end Go.Proofs.YtldlcdnhdedoeaaGreat
namespace Go.Proofs.YtldlcdnhdedoeaaGreat
open Go Go.VC
noncomputable def ref12_Wants (a0 : List Face) (a1 : List Int) (a2 : Int) (a3 : Int) : Option Int :=
  ix a0 a2 fun x1 => ix a0 a2 fun x2 => ck (decide (x2.P ≠ 0)) (ix a0 a2 fun x3 => bnd (ref12_Had a1 a2 (wr ((wr (a3.tdiv x2.P)) * x3.P))) fun x4 => some (wr (x1.B - x4)))
theorem ref12_Wants_w (a0 : List Face) (a1 : List Int) (a2 : Int) (a3 : Int) (r : Int) (h : ref12_Wants a0 a1 a2 a3 = some r) : Go.VC.Spec Tryz.prog 117 [.d (.sl (a0.map Face.enc)), .d (.sl (a1.map (eI .i64))), .d (.int .i64 a2), .d (.int .i64 a3)] (fun y => y = E_Int r) := by
  refine Go.VC.Spec.of_xc (args := [.d (.sl (a0.map Face.enc)), .d (.sl (a1.map (eI .i64))), .d (.int .i64 a2), .d (.int .i64 a3)]) (fn := Tryz.f117) tab ⟨[(0, [0, 1, 2, 3]), (1, [8])], [], [], []⟩ 31 [.tmp 8] rfl rfl rfl rfl rfl rfl ?_
  conv => whnf
  refine ⟨21, ?_⟩
  conv => whnf
  refine ixS (enc := Face.enc) h rfl (fun _ => rfl) (fun x1 h => ?_)
  conv => whnf
  refine ixS (enc := Face.enc) h rfl (fun _ => rfl) (fun x2 h => ?_)
  conv => whnf
  refine dvS h (fun h => ?_)
  conv => whnf
  refine ixS (enc := Face.enc) h rfl (fun _ => rfl) (fun x3 h => ?_)
  conv => whnf
  refine daS (E := E_Int) h (ref12_Had_w a1 a2 (wr ((wr (a3.tdiv x2.P)) * x3.P))) (fun _ => rfl) (fun x4 h => ?_)
  conv => whnf
  refine drS (by kernel_rfl) ?_
  conv => whnf
  exact rt (E := E_Int) h rfl

end Go.Proofs.YtldlcdnhdedoeaaGreat
namespace Go.Proofs.YtldlcdnhdedoeaaGreat
open Go Go.VC
noncomputable def ref12_Lay (a0 : List Face) : Option ((List Int) × Int) :=
  bnd (ref12_Frame a0) fun x1 => fk (!decide (x1.2 = (0 : Int))) (some ([], x1.2)) (lp (fun nx2 (v2 : (List Int) × Int) => fk (decide (v2.2 < x1.1)) (lp (fun nx3 (v3 : Int × Int) => fk (decide (v3.2 ≥ (0 : Int))) (jn (fun (w4 : Int) => nx3 (w4, (wr (v3.2 - (1 : Int))))) (fun k4 => jn (fun (w5 : Bool) => fk w5 (k4 v3.2) (k4 v3.1)) (fun k5 => bnd (ref12_Wants a0 v2.1 v3.2 v2.2) fun x6 => fk (decide (x6 > (0 : Int))) (fk (decide (v3.1 < (0 : Int))) (k5 true) (ix a0 v3.2 fun x7 => ck (decide (x7.P ≠ 0)) (ix a0 v3.2 fun x8 => ix a0 v3.1 fun x9 => ck (decide (x9.P ≠ 0)) (ix a0 v3.1 fun x10 => k5 (decide ((wr ((wr ((wr (v2.2.tdiv x7.P)) + (1 : Int))) * x8.P)) ≤ (wr ((wr ((wr (v2.2.tdiv x9.P)) + (1 : Int))) * x10.P)))))))) (k5 false)))) (ck (decide ((v2.1.length + ([v3.1] : List Int).length) * 8 ≤ 140737488355328)) (lp (fun nx11 (v11 : Int) => fk (decide (v11 < (a0.length : Int))) (jn (fun (w12 : Bool) => fk w12 (some ([], (7 : Int))) (nx11 (wr (v11 + (1 : Int))))) (fun k12 => ix a0 v11 fun x13 => ck (decide (x13.P ≠ 0)) (fk (decide (((wr (v2.2 + (1 : Int))).tmod x13.P) = (0 : Int))) (ix a0 v11 fun x14 => bnd (ref12_Had (v2.1 ++ ([v3.1] : List Int)) v11 (wr ((wr (v2.2 + (1 : Int))) - x14.P))) fun x15 => ix a0 v11 fun x16 => k12 (decide (x15 < x16.B))) (k12 false)))) (nx2 (v2.1 ++ ([v3.1] : List Int), (wr (v2.2 + (1 : Int)))))) FU (0 : Int)))) FU ((-1 : Int), (wr ((a0.length : Int) - (1 : Int))))) (some (v2.1, (0 : Int)))) FU ([], (0 : Int)))
theorem ref12_Lay_w (a0 : List Face) (r : (List Int) × Int) (h : ref12_Lay a0 = some r) : Go.VC.Spec Tryz.prog 58 [.d (.sl (a0.map Face.enc))] (fun y => y = E_ListInt_Int r) := by
  refine Go.VC.Spec.of_xc (args := [.d (.sl (a0.map Face.enc))]) (fn := Tryz.f58) tab ⟨[(0, [0]), (1, [0, 4, 5]), (2, [0, 4, 5, 18]), (3, [2, 3]), (4, [0, 4, 6]), (5, [0, 4, 6, 7]), (6, [0, 4, 6, 7, 22]), (7, [0, 4, 6, 7]), (8, [0, 4, 6, 7, 8]), (9, [0, 4, 6, 7, 8, 9]), (10, [0, 4, 6, 7, 8, 9, 29]), (11, [0, 4, 6, 7, 8, 9]), (12, [0, 4, 6, 7, 8, 9, 72]), (13, [0, 4, 6, 7, 8, 9]), (14, [0, 4, 6, 7]), (15, [0, 4, 6, 7, 10]), (16, [0, 4, 6, 7, 10, 81]), (17, [0, 4, 6, 7, 10]), (18, [0, 4, 6, 7, 10, 11]), (19, [0, 4, 6, 7, 10, 111]), (20, [2, 3]), (21, [2, 3])], [], [100072, 11, 100111], []⟩ 113 [.tmp 2, .tmp 3] rfl rfl rfl rfl rfl rfl ?_
  conv => whnf
  refine caS (E := E_Int_Int) h (ref12_Frame_w a0) rfl (fun _ => rfl) (fun x1 h => ?_)
  conv => whnf
  refine fkS h (fun h => ?_) (fun h => ?_)
  · conv => whnf
    exact rt (E := E_ListInt_Int) h rfl
  conv => whnf
  refine lpS (fun v2 => ⟨[(0, .l (.d (.sl (a0.map Face.enc)))), (4, .l (.d (.int .i64 x1.1))), (6, .l (.own 7)), (7, .l (.d (.int .i64 v2.2)))], 113, [], [], [(7, 3, 1, v2.1.map (eI .i64))]⟩) h (Weak.trans (Weak.nilO _ 6 7 3 1 rfl) (Weak.refl _)) (fun _ nx2 hn2 v2 h => ?_)
  conv => whnf
  refine fkS h (fun h => ?_) (fun h => ?_)
  · conv => whnf
    refine lenS a0 Face.enc rfl ?_
    conv => whnf
    refine lpS (fun v3 => ⟨[(0, .l (.d (.sl (a0.map Face.enc)))), (4, .l (.d (.int .i64 x1.1))), (6, .l (.own 7)), (7, .l (.d (.int .i64 v2.2))), (8, .l (.d (.int .i64 v3.1))), (9, .l (.d (.int .i64 v3.2)))], 113, [], [], [(7, 3, 1, v2.1.map (eI .i64))]⟩) h (Weak.refl _) (fun _ nx3 hn3 v3 h => ?_)
    conv => whnf
    refine fkS h (fun h => ?_) (fun h => ?_)
    · conv => whnf
      refine jnS (fun w4 => ⟨[(0, .l (.d (.sl (a0.map Face.enc)))), (4, .l (.d (.int .i64 x1.1))), (6, .l (.own 7)), (7, .l (.d (.int .i64 v2.2))), (8, .l (.d (.int .i64 w4))), (9, .l (.d (.int .i64 v3.2)))], 113, [], [], [(7, 3, 1, v2.1.map (eI .i64))]⟩) h (fun k4 hk4 h => ?_) (fun w4 h => ?_)
      · conv => whnf
        refine jnS (fun w5 => ⟨[(0, .l (.d (.sl (a0.map Face.enc)))), (4, .l (.d (.int .i64 x1.1))), (6, .l (.own 7)), (7, .l (.d (.int .i64 v2.2))), (8, .l (.d (.int .i64 v3.1))), (9, .l (.d (.int .i64 v3.2))), (72, .l (.d (.bool w5)))], 113, [], [], [(7, 3, 1, v2.1.map (eI .i64))]⟩) h (fun k5 hk5 h => ?_) (fun w5 h => ?_)
        · conv => whnf
          refine ⟨41, ?_⟩
          conv => whnf
          refine daS (E := E_Int) h (ref12_Wants_w a0 v2.1 v3.2 v2.2) (fun _ => rfl) (fun x6 h => ?_)
          conv => whnf
          refine fkS h (fun h => ?_) (fun h => ?_)
          · conv => whnf
            refine fkS h (fun h => ?_) (fun h => ?_)
            · conv => whnf
              refine drS (by kernel_rfl) ?_
              conv => whnf
              exact jeS hk5 h (Weak.refl _)
            conv => whnf
            refine ixS (enc := Face.enc) h rfl (fun _ => rfl) (fun x7 h => ?_)
            conv => whnf
            refine dvS h (fun h => ?_)
            conv => whnf
            refine ixS (enc := Face.enc) h rfl (fun _ => rfl) (fun x8 h => ?_)
            conv => whnf
            refine ixS (enc := Face.enc) h rfl (fun _ => rfl) (fun x9 h => ?_)
            conv => whnf
            refine dvS h (fun h => ?_)
            conv => whnf
            refine ixS (enc := Face.enc) h rfl (fun _ => rfl) (fun x10 h => ?_)
            conv => whnf
            refine drS (by kernel_rfl) ?_
            conv => whnf
            exact jeS hk5 h (Weak.refl _)
          conv => whnf
          refine drS (by kernel_rfl) ?_
          conv => whnf
          exact jeS hk5 h (Weak.refl _)
        conv => whnf
        refine fkS h (fun h => ?_) (fun h => ?_)
        · conv => whnf
          exact jeS hk4 h (Weak.refl _)
        conv => whnf
        refine jeX hk4 h ?_
        conv => whnf
        refine WkF.step (Weak.keepS _ [0, 4, 6, 7, 8, 9]) ?_
        conv => whnf
        exact WkF.refl _
      conv => whnf
      exact leS hn3 h (Weak.refl _)
    conv => whnf
    refine liS ([v3.1] : List Int) (eI .i64) rfl rfl ?_
    conv => whnf
    refine apS (enc := (eI .i64)) (l1 := v2.1) (l2 := ([v3.1] : List Int)) h rfl rfl (fun _ => rfl) (fun h => ?_)
    conv => whnf
    refine lpS (fun v11 => ⟨[(0, .l (.d (.sl (a0.map Face.enc)))), (4, .l (.d (.int .i64 x1.1))), (6, .l (.own 7)), (7, .l (.d (.int .i64 v2.2))), (10, .l (.d (.int .i64 v11)))], 113, [], [], [(7, 3, 1, (v2.1 ++ ([v3.1] : List Int)).map (eI .i64))]⟩) h (Weak.refl _) (fun _ nx11 hn11 v11 h => ?_)
    conv => whnf
    refine lenS a0 Face.enc rfl ?_
    conv => whnf
    refine fkS h (fun h => ?_) (fun h => ?_)
    · conv => whnf
      refine jnS (fun w12 => ⟨[(0, .l (.d (.sl (a0.map Face.enc)))), (4, .l (.d (.int .i64 x1.1))), (6, .l (.own 7)), (7, .l (.d (.int .i64 v2.2))), (10, .l (.d (.int .i64 v11))), (111, .l (.d (.bool w12)))], 113, [], [], [(7, 3, 1, (v2.1 ++ ([v3.1] : List Int)).map (eI .i64))]⟩) h (fun k12 hk12 h => ?_) (fun w12 h => ?_)
      · conv => whnf
        refine ⟨26, ?_⟩
        conv => whnf
        refine ixS (enc := Face.enc) h rfl (fun _ => rfl) (fun x13 h => ?_)
        conv => whnf
        refine dvS h (fun h => ?_)
        conv => whnf
        refine fkS h (fun h => ?_) (fun h => ?_)
        · conv => whnf
          refine ixS (enc := Face.enc) h rfl (fun _ => rfl) (fun x14 h => ?_)
          conv => whnf
          refine daS (E := E_Int) h (ref12_Had_w (v2.1 ++ ([v3.1] : List Int)) v11 (wr ((wr (v2.2 + (1 : Int))) - x14.P))) (fun _ => rfl) (fun x15 h => ?_)
          conv => whnf
          refine ixS (enc := Face.enc) h rfl (fun _ => rfl) (fun x16 h => ?_)
          conv => whnf
          refine drS (by kernel_rfl) ?_
          conv => whnf
          exact jeS hk12 h (Weak.refl _)
        conv => whnf
        refine drS (by kernel_rfl) ?_
        conv => whnf
        exact jeS hk12 h (Weak.refl _)
      conv => whnf
      refine fkS h (fun h => ?_) (fun h => ?_)
      · conv => whnf
        exact rt (E := E_ListInt_Int) h rfl
      conv => whnf
      exact leS hn11 h (Weak.refl _)
    conv => whnf
    exact leS hn2 h (Weak.refl _)
  conv => whnf
  exact rt (E := E_ListInt_Int) h rfl

end Go.Proofs.YtldlcdnhdedoeaaGreat
namespace Go.Proofs.YtldlcdnhdedoeaaGreat
open Go Go.VC
/-! The frame. -/
def facesP (l : List Face) : Prop := (∀ f ∈ l, faceP f) ∧ l.length ≤ 4
def lcmF (c : Nat) (l : List Face) : Nat := l.foldl (fun c f => Nat.lcm c f.P.toNat) c
theorem lcmF_succ (c : Nat) (l : List Face) (k : Nat) (h : k < l.length) : lcmF c (l.take (k + 1)) = Nat.lcm (lcmF c (l.take k)) l[k].P.toNat := by
  unfold lcmF
  rw [← List.take_append_getElem h, List.foldl_append]; rfl
theorem lcmF_dvd : ∀ (l : List Face) (c n : Nat), lcmF c l ∣ n ↔ c ∣ n ∧ ∀ f ∈ l, f.P.toNat ∣ n
  | [], c, n => by simp [lcmF]
  | f :: r, c, n => by
    show lcmF (Nat.lcm c f.P.toNat) r ∣ n ↔ _
    rw [lcmF_dvd r, Nat.lcm_dvd_iff]
    simp only [List.mem_cons, forall_eq_or_imp, and_assoc]
theorem lcmF_pos : ∀ (l : List Face) (c : Nat), 0 < c → (∀ f ∈ l, 1 ≤ f.P) → 0 < lcmF c l
  | [], c, h, _ => h
  | f :: r, c, h, hl => lcmF_pos r _ (Nat.lcm_pos h (by have := hl f List.mem_cons_self; omega)) fun g hg => hl g (List.mem_cons_of_mem _ hg)
noncomputable instance (l : List Face) : Decidable (facesP l) := Classical.propDecidable _
noncomputable def frameV (l : List Face) : Int × Int := if facesP l then (if lcmF 1 l ≤ 240 then ((lcmF 1 l : Nat), 0) else (0, 5)) else (0, 1)
theorem faceP.P {f : Face} (h : faceP f) : 1 ≤ f.P ∧ f.P ≤ 200 ∧ 1 ≤ f.B ∧ f.B ≤ 200 := by unfold faceP at h; omega
theorem synth_Frame_eq (l : List Face) : synth_Frame l = some (frameV l) := by
  unfold synth_Frame frameV
  by_cases h4 : l.length ≤ 4
  rotate_left
  · rw [decide_eq_true (by omega), fk_t, if_neg (fun h => h4 h.2)]
  rw [decide_eq_false (by omega), fk_f]
  refine lp_up l.length (by unfold FU; omega) (fun k => ∀ f ∈ l.take k, faceP f) (fun f h => by simp at h) ?_
  intro nx k hk J hnx
  rw [lt_nat]
  by_cases c : k < l.length
  · rw [decide_eq_true c, fk_t, ix_lt c, bnd_eq (supply_Right_eq _), wr_succ k _ c (by omega)]
    by_cases hf : faceP l[k]
    · rw [decide_eq_true hf, Bool.not_true, fk_f]
      refine hnx c fun f h => ?_
      rw [← List.take_append_getElem c] at h
      rcases List.mem_append.1 h with h | h
      · exact J f h
      · rw [List.mem_singleton.1 h]; exact hf
    · rw [decide_eq_false hf, Bool.not_false, fk_t, if_neg (fun h => hf (h.1 _ (List.getElem_mem c)))]
  rw [List.take_of_length_le (by omega)] at J
  have hfp : facesP l := ⟨J, h4⟩
  have hpos : ∀ f ∈ l, 1 ≤ f.P := fun f hf => (J f hf).P.1
  rw [decide_eq_false c, fk_f, if_pos hfp]
  clear hnx nx hk c k
  refine lp_upS l.length (by unfold FU; omega) (fun k s => s = ((lcmF 1 (l.take k) : Nat) : Int) ∧ lcmF 1 (l.take k) ≤ 240) 1 ⟨rfl, by show (1 : Nat) ≤ 240; omega⟩ ?_
  rintro nx k s hk ⟨rfl, hb⟩ hnx
  dsimp only
  rw [lt_nat]
  by_cases c : k < l.length
  rotate_left
  · rw [List.take_of_length_le (by omega)] at hb ⊢
    rw [decide_eq_false c, fk_f, if_pos hb]
  have hp := (J _ (List.getElem_mem c)).P
  have hpk : 0 < lcmF 1 (l.take k) := lcmF_pos _ _ (by omega) fun f hf => hpos f (List.mem_of_mem_take hf)
  have eL := arith_Lcm_eq (lcmF 1 (l.take k)) l[k].P.toNat hpk (by omega) (by omega) (by omega)
  rw [show ((l[k].P.toNat : Nat) : Int) = l[k].P by omega] at eL
  rw [decide_eq_true c, fk_t, ix_lt c, bnd_eq eL, wr_succ k _ c (by omega), ← lcmF_succ 1 l k c]
  have hdv : lcmF 1 (l.take (k + 1)) ∣ lcmF 1 l := (lcmF_dvd _ _ _).2 ⟨Nat.one_dvd _, fun f hf => ((lcmF_dvd l 1 _).1 (Nat.dvd_refl _)).2 f (List.mem_of_mem_take hf)⟩
  have hle := Nat.le_of_dvd (lcmF_pos l 1 (by omega) hpos) hdv
  by_cases cb : lcmF 1 (l.take (k + 1)) ≤ 240
  · refine jn_to false (fun k7 => by rw [decide_eq_true rfl, Bool.not_true, fk_f, decide_eq_false (by dsimp only; omega)]) (by rw [fk_f]; exact hnx _ c ⟨rfl, cb⟩)
  · refine jn_to true (fun k7 => by rw [decide_eq_true rfl, Bool.not_true, fk_f, decide_eq_true (by dsimp only; omega)]) (by rw [fk_t, if_neg (by omega)])
def allD (l : List Face) (n : Nat) : Prop := ∀ f ∈ l, f.P.toNat ∣ n
instance (l : List Face) (n : Nat) : Decidable (allD l n) := by unfold allD; infer_instance
theorem ref12_Frame_eq (l : List Face) : ref12_Frame l = some (frameV l) := by
  unfold ref12_Frame frameV
  by_cases h4 : l.length ≤ 4
  rotate_left
  · rw [decide_eq_true (by omega), fk_t, if_neg (fun h => h4 h.2)]
  rw [decide_eq_false (by omega), fk_f]
  refine lp_up l.length (by unfold FU; omega) (fun k => ∀ f ∈ l.take k, faceP f) (fun f h => by simp at h) ?_
  intro nx k hk J hnx
  rw [lt_nat]
  by_cases c : k < l.length
  · rw [decide_eq_true c, fk_t, ix_lt c, bnd_eq (ref09_Right_eq _), wr_succ k _ c (by omega)]
    by_cases hf : faceP l[k]
    · rw [decide_eq_true hf, Bool.not_true, fk_f]
      refine hnx c fun f h => ?_
      rw [← List.take_append_getElem c] at h
      rcases List.mem_append.1 h with h | h
      · exact J f h
      · rw [List.mem_singleton.1 h]; exact hf
    · rw [decide_eq_false hf, Bool.not_false, fk_t, if_neg (fun h => hf (h.1 _ (List.getElem_mem c)))]
  rw [List.take_of_length_le (by omega)] at J
  have hfp : facesP l := ⟨J, h4⟩
  have hpos : ∀ f ∈ l, 1 ≤ f.P := fun f hf => (J f hf).P.1
  have hlp := lcmF_pos l 1 (by omega) hpos
  have hself := ((lcmF_dvd l 1 _).1 (Nat.dvd_refl (lcmF 1 l))).2
  rw [decide_eq_false c, fk_f, if_pos hfp]
  clear hnx nx hk c k
  refine lp_from 1 241 (by omega) (by unfold FU; omega) (fun n => n ≤ lcmF 1 l) hlp ?_
  intro nx n hn1 hn2 hJ hnx
  by_cases c : n ≤ 240
  rotate_left
  · rw [decide_eq_false (by omega), fk_f, if_neg (by omega)]
  rw [decide_eq_true (by omega), fk_t]
  refine lp_inv (fun v => l.length - v.2.toNat) (fun v => ∃ k : Nat, v = (decide (allD (l.take k) n), (k : Int)) ∧ k ≤ l.length) ?_ FU _ ⟨0, by rw [decide_eq_true (show allD (l.take 0) n from fun f h => by simp at h)]; rfl, Nat.zero_le _⟩ (by unfold FU; simp only; omega)
  rintro nx2 v ⟨k, rfl, hk⟩ hnx2
  dsimp only
  rw [lt_nat]
  by_cases ck' : k < l.length
  rotate_left
  · rw [decide_eq_false ck', fk_f, List.take_of_length_le (by omega)]
    by_cases call : allD l n
    · have hd : lcmF 1 l ∣ n := (lcmF_dvd l 1 n).2 ⟨Nat.one_dvd _, call⟩
      have := Nat.le_of_dvd (by omega) hd
      have e : lcmF 1 l = n := by omega
      rw [decide_eq_true call, fk_t, e, if_pos c]
    · rw [decide_eq_false call, fk_f, wr_in _ (by omega)]
      refine hnx (by omega) ?_
      have : n ≠ lcmF 1 l := fun e => call (by rw [e]; exact hself)
      omega
  have hp := (J _ (List.getElem_mem ck')).P
  rw [decide_eq_true ck', fk_t]
  have hm : decide ((n : Int).tmod l[k].P = 0) = decide (l[k].P.toNat ∣ n) := by
    rw [decide_eq_decide, Int.tmod_eq_emod_of_nonneg (by omega), show l[k].P = ((l[k].P.toNat : Nat) : Int) by omega, Int.toNat_natCast]
    constructor
    · intro h; exact Int.natCast_dvd_natCast.1 (Int.dvd_of_emod_eq_zero h)
    · intro h; exact Int.emod_eq_zero_of_dvd (Int.natCast_dvd_natCast.2 h)
  refine jn_to (decide (allD (l.take (k + 1)) n)) (fun k6 => ?_) ?_
  · have hsp : allD (l.take (k + 1)) n ↔ allD (l.take k) n ∧ l[k].P.toNat ∣ n := by
      unfold allD
      rw [← List.take_append_getElem ck']
      constructor
      · intro h; exact ⟨fun f hf => h f (List.mem_append_left _ hf), h _ (List.mem_append_right _ (List.mem_singleton.2 rfl))⟩
      · rintro ⟨h1, h2⟩ f hf
        rcases List.mem_append.1 hf with h | h
        · exact h1 f h
        · rw [List.mem_singleton.1 h]; exact h2
    by_cases ca : allD (l.take k) n
    · rw [decide_eq_true ca, fk_t, ix_lt ck', ck_t (decide_eq_true (by omega)), hm]
      congr 1
      rw [decide_eq_decide, hsp]
      exact ⟨fun h => ⟨ca, h⟩, fun h => h.2⟩
    · rw [decide_eq_false ca, fk_f, decide_eq_false (fun h => ca (hsp.1 h).1)]
  · rw [wr_succ k _ ck' (by omega)]
    exact hnx2 _ ⟨k + 1, rfl, ck'⟩ (by simp only [Int.toNat_natCast]; omega)
/-! The ticks. -/
def wv (w : List Int) (i : Nat) : Int := (w[i]?).getD 0
def begun (l : List Face) (w : List Int) (t : Nat) : List Int := (List.range l.length).map fun i => match l[i]? with | some f => if f.P.toNat ∣ t then f.B else wv w i | none => 0
def denyP (l : List Face) (w : List Int) (t : Nat) : Prop := ∃ (i : Nat) (f : Face), l[i]? = some f ∧ f.P.toNat ∣ t ∧ 0 < wv w i
def byV (f : Face) (t : Nat) : Nat := (t / f.P.toNat + 1) * f.P.toNat
def isNext (l : List Face) (w : List Int) (t k : Nat) (r : Int) : Prop :=
  (r = -1 ∧ ∀ i, i < k → wv w i ≤ 0) ∨ ∃ (i : Nat) (f : Face), i < k ∧ r = (i : Int) ∧ l[i]? = some f ∧ 0 < wv w i ∧ ∀ (j : Nat) (g : Face), j < k → l[j]? = some g → 0 < wv w j → byV f t < byV g t ∨ (byV f t = byV g t ∧ i ≤ j)
theorem isNext_unique {l : List Face} {w : List Int} {t : Nat} {r s : Int} (h1 : isNext l w t l.length r) (h2 : isNext l w t l.length s) : r = s := by
  rcases h1 with ⟨rfl, a⟩ | ⟨i, f, hi, rfl, hf, hw, a⟩
  · rcases h2 with ⟨rfl, _⟩ | ⟨j, g, hj, rfl, hg, hw', _⟩
    · rfl
    · have := a j hj; omega
  · rcases h2 with ⟨rfl, b⟩ | ⟨j, g, hj, rfl, hg, hw', b⟩
    · have := b i hi; omega
    · have h1 := a j g hj hg hw'
      have h2 := b i f hi hf hw
      have : i = j := by omega
      rw [this]
def dec (w : List Int) (r : Int) : List Int := if r = -1 then w else w.set r.toNat (wv w r.toNat - 1)
inductive LayR (l : List Face) : Nat → List Int → List Int → Prop
  | zero : LayR l 0 [] (List.replicate l.length 0)
  | step {t : Nat} {out w : List Int} {r : Int} (h : LayR l t out w) (hd : ¬ denyP l w t) (hn : isNext l (begun l w t) t l.length r) : LayR l (t + 1) (out ++ [r]) (dec (begun l w t) r)
theorem LayR.det {l : List Face} : ∀ {t : Nat} {o1 w1 o2 w2 : List Int}, LayR l t o1 w1 → LayR l t o2 w2 → o1 = o2 ∧ w1 = w2
  | 0, _, _, _, _, h1, h2 => by cases h1; cases h2; exact ⟨rfl, rfl⟩
  | t + 1, _, _, _, _, h1, h2 => by
    cases h1 with
    | step a1 b1 c1 =>
      cases h2 with
      | step a2 b2 c2 =>
        obtain ⟨rfl, rfl⟩ := LayR.det a1 a2
        have := isNext_unique c1 c2
        subst this
        exact ⟨rfl, rfl⟩
theorem LayR.before {l : List Face} {t : Nat} {o w : List Int} (h : LayR l t o w) : ∀ s, s < t → ∃ o' w', LayR l s o' w' ∧ ¬ denyP l w' s := by
  induction h with
  | zero => intro s hs; omega
  | step h hd hn ih =>
    rename_i t out w r
    intro s hs
    by_cases e : s = t
    · subst e; exact ⟨_, _, h, hd⟩
    · exact ih s (by omega)
def resP (l : List Face) (F : Nat) (r : List Int × Int) : Prop :=
  (∃ o w, LayR l F o w ∧ ¬ denyP l w F ∧ r = (o, 0)) ∨ (∃ t, t ≤ F ∧ ∃ o w, LayR l t o w ∧ denyP l w t ∧ r = ([], 7))
theorem resP_unique {l : List Face} {F : Nat} {r s : List Int × Int} (h1 : resP l F r) (h2 : resP l F s) : r = s := by
  have mix : ∀ {o w o' w' : List Int} {t : Nat}, t ≤ F → LayR l F o w → ¬ denyP l w F → LayR l t o' w' → ¬ denyP l w' t := by
    intro o w o' w' t ht a b c
    by_cases e : t = F
    · subst e
      obtain ⟨_, rfl⟩ := LayR.det a c
      exact b
    · obtain ⟨o2, w2, d, e2⟩ := a.before t (by omega)
      obtain ⟨_, rfl⟩ := LayR.det d c
      exact e2
  rcases h1 with ⟨o, w, a, b, rfl⟩ | ⟨t, ht, o, w, a, b, rfl⟩
  · rcases h2 with ⟨o', w', a', b', rfl⟩ | ⟨t', ht', o', w', a', b', rfl⟩
    · rw [(LayR.det a a').1]
    · exact absurd b' (mix ht' a b a')
  · rcases h2 with ⟨o', w', a', b', rfl⟩ | ⟨t', ht', o', w', a', b', rfl⟩
    · exact absurd b (mix ht a' b' a)
    · rfl
theorem begun_len (l : List Face) (w : List Int) (t : Nat) : (begun l w t).length = l.length := by unfold begun; simp
theorem begun_at {l : List Face} {w : List Int} {t i : Nat} {f : Face} (h : l[i]? = some f) : wv (begun l w t) i = if f.P.toNat ∣ t then f.B else wv w i := by
  have hi := (List.getElem?_eq_some_iff.1 h).1
  unfold begun
  unfold wv
  rw [List.getElem?_map, List.getElem?_range hi]
  simp only [Option.map_some, h, Option.getD_some]
/-- What is kept: sizes. -/
theorem LayR.ok {l : List Face} (hl : facesP l) {t : Nat} {o w : List Int} (h : LayR l t o w) : o.length = t ∧ w.length = l.length ∧ (∀ i, 0 ≤ wv w i ∧ wv w i ≤ 200) ∧ ∀ x ∈ o, -1 ≤ x ∧ x < (l.length : Int) := by
  induction h with
  | zero =>
    refine ⟨rfl, by simp, fun i => ?_, fun x h => (List.not_mem_nil h).elim⟩
    unfold wv
    rw [List.getElem?_replicate]
    split <;> simp
  | step h hd hn ih =>
    rename_i t out w r
    obtain ⟨a, b, c, d⟩ := ih
    have hb : ∀ i, 0 ≤ wv (begun l w t) i ∧ wv (begun l w t) i ≤ 200 := fun i => by
      cases hf : l[i]? with
      | some f =>
        rw [begun_at hf]
        have := (hl.1 f (List.mem_of_getElem? hf)).P
        split
        · omega
        · exact c i
      | none =>
        have : (begun l w t)[i]? = none := List.getElem?_eq_none (by rw [begun_len]; exact List.getElem?_eq_none_iff.1 hf)
        unfold wv; rw [this]; simp
    refine ⟨by simp [a], ?_, fun i => ?_, fun x hx => ?_⟩
    · unfold dec; split
      · exact begun_len _ _ _
      · rw [List.length_set]; exact begun_len _ _ _
    · rcases hn with ⟨rfl, _⟩ | ⟨j, f, hj, rfl, hf, hw, _⟩
      · unfold dec; rw [if_pos rfl]; exact hb i
      · unfold dec
        rw [if_neg (by omega), Int.toNat_natCast]
        by_cases e : j = i
        · subst e
          have : wv ((begun l w t).set j (wv (begun l w t) j - 1)) j = wv (begun l w t) j - 1 := by
            unfold wv
            rw [List.getElem?_set_self (by rw [begun_len]; exact hj)]; rfl
          rw [this]
          have := hb j; omega
        · have : wv ((begun l w t).set j (wv (begun l w t) j - 1)) i = wv (begun l w t) i := by
            unfold wv
            rw [List.getElem?_set_ne e]
          rw [this]; exact hb i
    · rcases List.mem_append.1 hx with h' | h'
      · exact d x h'
      · rw [List.mem_singleton.1 h']
        rcases hn with ⟨rfl, _⟩ | ⟨j, f, hj, rfl, _⟩ <;> omega
end Go.Proofs.YtldlcdnhdedoeaaGreat
namespace Go.Proofs.YtldlcdnhdedoeaaGreat
open Go Go.VC
theorem tmod_dvd {f : Face} (h : 1 ≤ f.P) (t : Nat) : decide ((t : Int).tmod f.P = 0) = decide (f.P.toNat ∣ t) := by
  rw [decide_eq_decide, Int.tmod_eq_emod_of_nonneg (by omega), show f.P = ((f.P.toNat : Nat) : Int) by omega, Int.toNat_natCast]
  constructor
  · intro h; exact Int.natCast_dvd_natCast.1 (Int.dvd_of_emod_eq_zero h)
  · intro h; exact Int.emod_eq_zero_of_dvd (Int.natCast_dvd_natCast.2 h)
theorem byV_b {f : Face} (hf : faceP f) (t : Nat) : byV f t = t - t % f.P.toNat + f.P.toNat ∧ t % f.P.toNat ≤ t ∧ byV f t ≤ t + 200 := by
  have hp := hf.P
  have h1 := Nat.div_add_mod t f.P.toNat
  have h2 := Nat.mod_le t f.P.toNat
  have e : byV f t = f.P.toNat * (t / f.P.toNat) + f.P.toNat := by unfold byV; rw [Nat.add_mul, Nat.one_mul, Nat.mul_comm]
  refine ⟨?_, h2, ?_⟩ <;> omega
theorem by_eq {f : Face} (hf : faceP f) (t : Nat) (ht : t ≤ 1000) : wr (wr ((t : Int) - (t : Int).tmod f.P) + f.P) = ((byV f t : Nat) : Int) := by
  have hp := hf.P
  obtain ⟨h1, h2, h3⟩ := byV_b hf t
  have e : (t : Int).tmod f.P = ((t % f.P.toNat : Nat) : Int) := by
    rw [Int.tmod_eq_emod_of_nonneg (by omega)]
    conv => lhs; rw [show f.P = ((f.P.toNat : Nat) : Int) by omega]
    rfl
  rw [e, wr_in ((t : Int) - ((t % f.P.toNat : Nat) : Int)) (by omega), wr_in _ (by omega)]
  omega
theorem by_eq2 {f : Face} (hf : faceP f) (t : Nat) (ht : t ≤ 1000) : wr (wr (wr ((t : Int).tdiv f.P) + 1) * f.P) = ((byV f t : Nat) : Int) := by
  have hp := hf.P
  obtain ⟨h1, h2, h3⟩ := byV_b hf t
  have hd : t / f.P.toNat ≤ t := Nat.div_le_self _ _
  have e : (t : Int).tdiv f.P = ((t / f.P.toNat : Nat) : Int) := by
    rw [Int.tdiv_eq_ediv_of_nonneg (by omega)]
    conv => lhs; rw [show f.P = ((f.P.toNat : Nat) : Int) by omega]
    rfl
  have e2 : (((t / f.P.toNat : Nat) : Int) + 1) * f.P = ((byV f t : Nat) : Int) := by
    unfold byV
    rw [Int.natCast_mul, Int.natCast_add, show ((f.P.toNat : Nat) : Int) = f.P by omega]; rfl
  generalize hb : byV f t = b at *
  generalize t / f.P.toNat = q at *
  clear hb
  rw [e, wr_in ((q : Nat) : Int) (by omega), wr_in (((q : Nat) : Int) + 1) (by omega), e2, wr_in _ (by omega)]
theorem eq_of_wv {u v : List Int} (hl : u.length = v.length) (h : ∀ i, wv u i = wv v i) : u = v := by
  refine List.ext_getElem hl fun i h1 h2 => ?_
  have := h i
  unfold wv at this
  rw [List.getElem?_eq_getElem h1, List.getElem?_eq_getElem h2] at this
  exact this
theorem wv_lt {w : List Int} {i : Nat} (h : i < w.length) : w[i] = wv w i := by unfold wv; rw [List.getElem?_eq_getElem h]; rfl
theorem wv_set {w : List Int} {i : Nat} {x : Int} (h : i < w.length) (j : Nat) : wv (w.set i x) j = if j = i then x else wv w j := by
  unfold wv
  by_cases e : j = i
  · subst e; rw [if_pos rfl, List.getElem?_set_self h]; rfl
  · rw [if_neg e, List.getElem?_set_ne (fun c => e c.symm)]
/-- What a round of 'begin' comes to, so far. -/
structure begI (l : List Face) (w : List Int) (t k : Nat) (u : List Int) : Prop where
  len : u.length = l.length
  v : ∀ i, wv u i = if i < k then wv (begun l w t) i else wv w i
  d : ∀ (i : Nat) (f : Face), i < k → l[i]? = some f → ¬ (f.P.toNat ∣ t ∧ 0 < wv w i)
theorem begI.zero {l : List Face} {w : List Int} {t : Nat} (h : w.length = l.length) : begI l w t 0 w := ⟨h, fun i => by rw [if_neg (by omega)], fun i f h => by omega⟩
theorem begI.keep {l : List Face} {w : List Int} {t k : Nat} {u : List Int} (h : begI l w t k u) (hk : k < l.length) (hn : ¬ l[k].P.toNat ∣ t) : begI l w t (k + 1) u := by
  have hf : l[k]? = some l[k] := List.getElem?_eq_getElem hk
  refine ⟨h.len, fun i => ?_, fun i f hi hfi => ?_⟩
  · rw [h.v i]
    by_cases e : i = k
    · subst e
      rw [if_neg (by omega), if_pos (by omega), begun_at hf, if_neg hn]
    · by_cases c : i < k
      · rw [if_pos c, if_pos (by omega)]
      · rw [if_neg c, if_neg (by omega)]
  · by_cases e : i = k
    · subst e; rw [hf] at hfi; cases hfi; exact fun hh => hn hh.1
    · exact h.d i f (by omega) hfi
theorem begI.set {l : List Face} {w : List Int} {t k : Nat} {u : List Int} (h : begI l w t k u) (hk : k < l.length) (hn : l[k].P.toNat ∣ t) (hw : ¬ 0 < wv w k) : begI l w t (k + 1) (u.set k l[k].B) := by
  have hf : l[k]? = some l[k] := List.getElem?_eq_getElem hk
  have hku : k < u.length := by rw [h.len]; exact hk
  refine ⟨by rw [List.length_set]; exact h.len, fun i => ?_, fun i f hi hfi => ?_⟩
  · rw [wv_set hku]
    by_cases e : i = k
    · subst e
      rw [if_pos rfl, if_pos (by omega), begun_at hf, if_pos hn]
    · rw [if_neg e, h.v i]
      by_cases c : i < k
      · rw [if_pos c, if_pos (by omega)]
      · rw [if_neg c, if_neg (by omega)]
  · by_cases e : i = k
    · subst e; exact fun hh => hw hh.2
    · exact h.d i f (by omega) hfi
theorem begI.at {l : List Face} {w : List Int} {t k : Nat} {u : List Int} (h : begI l w t k u) : wv u k = wv w k := by rw [h.v k, if_neg (by omega)]
theorem begI.end {l : List Face} {w : List Int} {t : Nat} {u : List Int} (h : begI l w t l.length u) : u = begun l w t ∧ ¬ denyP l w t := by
  refine ⟨eq_of_wv (by rw [h.len, begun_len]) fun i => ?_, ?_⟩
  · rw [h.v i]
    by_cases c : i < l.length
    · rw [if_pos c]
    · rw [if_neg c]
      have hb : (begun l w t)[i]? = none := List.getElem?_eq_none (by rw [begun_len]; omega)
      have hu := h.v i
      rw [if_neg c] at hu
      have hu2 : u[i]? = none := List.getElem?_eq_none (by rw [h.len]; omega)
      rw [← hu]
      unfold wv
      rw [hb, hu2]
  · rintro ⟨i, f, hf, a, b⟩
    exact h.d i f (List.getElem?_eq_some_iff.1 hf).1 hf ⟨a, b⟩
/-- Who is next, so far: with its time. -/
structure nxI (l : List Face) (u : List Int) (t k : Nat) (out due : Int) : Prop where
  n : isNext l u t k out
  d : ∀ (i : Nat) (f : Face), out = (i : Int) → l[i]? = some f → due = ((byV f t : Nat) : Int)
theorem nxI.zero {l : List Face} {u : List Int} {t : Nat} : nxI l u t 0 (-1) 0 := ⟨.inl ⟨rfl, fun i h => by omega⟩, fun i f h => by omega⟩
theorem nxI.keep {l : List Face} {u : List Int} {t k : Nat} {out due : Int} (h : nxI l u t k out due) (hk : k < l.length) (hc : ¬ (0 < wv u k ∧ (out = -1 ∨ ((byV l[k] t : Nat) : Int) < due))) : nxI l u t (k + 1) out due := by
  have hfk : l[k]? = some l[k] := List.getElem?_eq_getElem hk
  refine ⟨?_, h.d⟩
  rcases h.n with ⟨rfl, a⟩ | ⟨i, f, hi, rfl, hf, hw, a⟩
  · refine .inl ⟨rfl, fun i hi => ?_⟩
    by_cases e : i = k
    · subst e; exact Int.not_lt.1 fun hh => hc ⟨hh, .inl rfl⟩
    · exact a i (by omega)
  · refine .inr ⟨i, f, by omega, rfl, hf, hw, fun j g hj hg hwj => ?_⟩
    by_cases e : j = k
    · subst e
      rw [hfk] at hg; cases hg
      have hd := h.d i f rfl hf
      have : ¬ ((byV l[j] t : Nat) : Int) < due := fun hh => hc ⟨hwj, .inr hh⟩
      omega
    · exact a j g (by omega) hg hwj
theorem nxI.take {l : List Face} {u : List Int} {t k : Nat} {out due : Int} (h : nxI l u t k out due) (hk : k < l.length) (hw : 0 < wv u k) (hc : out = -1 ∨ ((byV l[k] t : Nat) : Int) < due) : nxI l u t (k + 1) (k : Int) ((byV l[k] t : Nat) : Int) := by
  have hfk : l[k]? = some l[k] := List.getElem?_eq_getElem hk
  refine ⟨.inr ⟨k, l[k], by omega, rfl, hfk, hw, fun j g hj hg hwj => ?_⟩, fun i f hi hf => ?_⟩
  · by_cases e : j = k
    · subst e; rw [hfk] at hg; cases hg; exact .inr ⟨rfl, Nat.le_refl _⟩
    · rcases h.n with ⟨rfl, a⟩ | ⟨i, f, hi, rfl, hf, hw', a⟩
      · have := a j (by omega); omega
      · have hd := h.d i f rfl hf
        have hlt := hc.resolve_left (by omega)
        have := a j g (by omega) hg hwj
        omega
  · have : i = k := by omega
    subst this
    rw [hfk] at hf; cases hf; rfl
theorem synth_Lay_ok (l : List Face) (hl : facesP l) (hF : lcmF 1 l ≤ 240) : ∃ r, synth_Lay l = some r ∧ resP l (lcmF 1 l) r := by
  have h4 := hl.2
  have ef : frameV l = (((lcmF 1 l : Nat) : Int), 0) := by unfold frameV; rw [if_pos hl, if_pos hF]
  unfold synth_Lay
  rw [bnd_eq (synth_Frame_eq l), ef]
  dsimp only
  rw [decide_eq_true rfl, Bool.not_true, fk_f, ck_t (by simp; omega), Int.toNat_natCast]
  generalize lcmF 1 l = F at *
  refine lp_ex (fun v => F - v.2.2.toNat) (fun v => ∃ (t : Nat) (o w : List Int), v = (o, w, (t : Int)) ∧ t ≤ F ∧ LayR l t o w) (resP l F) ?_ FU _ ⟨0, [], _, rfl, Nat.zero_le _, LayR.zero⟩ (by unfold FU; simp only; omega)
  rintro nx v ⟨t, o, w, rfl, ht, hL⟩ hnx
  obtain ⟨hol, hwl, hwb, _⟩ := hL.ok hl
  dsimp only
  rw [lt_nat]
  by_cases c : t < F
  rotate_left
  · have e : t = F := by omega
    subst e
    rw [decide_eq_false c, fk_f]
    refine lp_ex (fun v => l.length - v.2.toNat) (fun v => ∃ (k : Nat) (u : List Int), v = (u, (k : Int)) ∧ k ≤ l.length ∧ begI l w t k u) (resP l t) ?_ FU _ ⟨0, w, rfl, Nat.zero_le _, begI.zero hwl⟩ (by unfold FU; simp only; omega)
    rintro nx3 v ⟨k, u, rfl, hk, hJ⟩ hnx3
    dsimp only
    rw [lt_nat]
    by_cases ck' : k < l.length
    rotate_left
    · have e : k = l.length := by omega
      subst e
      obtain ⟨_, hd⟩ := hJ.end
      rw [decide_eq_false ck', fk_f]
      exact ⟨_, rfl, .inl ⟨o, w, hL, hd, rfl⟩⟩
    have hfk : l[k]? = some l[k] := List.getElem?_eq_getElem ck'
    have hp := (hl.1 _ (List.getElem_mem ck')).P
    have hul := hJ.len
    have hku : k < u.length := by omega
    rw [decide_eq_true ck', fk_t, jn_eq, ix_lt ck', ck_t (decide_eq_true (by omega)), tmod_dvd hp.1, wr_succ k _ ck' (by omega)]
    have go : ∀ u', begI l w t (k + 1) u' → ∃ r, nx3 (u', ((k + 1 : Nat) : Int)) = some r ∧ resP l t r := fun u' h' => hnx3 _ ⟨k + 1, u', rfl, ck', h'⟩ (by simp only [Int.toNat_natCast]; omega)
    by_cases cd : l[k].P.toNat ∣ t
    rotate_left
    · rw [decide_eq_false cd, Bool.not_false, fk_t]
      exact go u (hJ.keep ck' cd)
    rw [decide_eq_true cd, Bool.not_true, fk_f, ck_t (by simp; omega), Int.toNat_natCast, ox_lt hku, wv_lt hku, hJ.at]
    by_cases cw : 0 < wv w k
    · rw [decide_eq_true (show wv w k > 0 from cw), fk_t]
      exact ⟨_, rfl, .inr ⟨t, Nat.le_refl _, o, w, hL, ⟨k, _, hfk, cd, cw⟩, rfl⟩⟩
    · rw [decide_eq_false (show ¬ wv w k > 0 from cw), fk_f, ck_t (by simp; omega), ox_lt hku]
      exact go _ (hJ.set ck' cd cw)
  rw [decide_eq_true c, fk_t]
  refine lp_ex (fun v => l.length - v.2.toNat) (fun v => ∃ (k : Nat) (u : List Int), v = (u, (k : Int)) ∧ k ≤ l.length ∧ begI l w t k u) (resP l F) ?_ FU _ ⟨0, w, rfl, Nat.zero_le _, begI.zero hwl⟩ (by unfold FU; simp only; omega)
  rintro nx3 v ⟨k, u, rfl, hk, hJ⟩ hnx3
  dsimp only
  rw [lt_nat]
  by_cases ck' : k < l.length
  · have hfk : l[k]? = some l[k] := List.getElem?_eq_getElem ck'
    have hp := (hl.1 _ (List.getElem_mem ck')).P
    have hul := hJ.len
    have hku : k < u.length := by omega
    rw [decide_eq_true ck', fk_t, jn_eq, ix_lt ck', ck_t (decide_eq_true (by omega)), tmod_dvd hp.1, wr_succ k _ ck' (by omega)]
    have go : ∀ u', begI l w t (k + 1) u' → ∃ r, nx3 (u', ((k + 1 : Nat) : Int)) = some r ∧ resP l F r := fun u' h' => hnx3 _ ⟨k + 1, u', rfl, ck', h'⟩ (by simp only [Int.toNat_natCast]; omega)
    by_cases cd : l[k].P.toNat ∣ t
    rotate_left
    · rw [decide_eq_false cd, Bool.not_false, fk_t]
      exact go u (hJ.keep ck' cd)
    rw [decide_eq_true cd, Bool.not_true, fk_f, ck_t (by simp; omega), Int.toNat_natCast, ox_lt hku, wv_lt hku, hJ.at]
    by_cases cw : 0 < wv w k
    · rw [decide_eq_true (show wv w k > 0 from cw), fk_t]
      exact ⟨_, rfl, .inr ⟨t, by omega, o, w, hL, ⟨k, _, hfk, cd, cw⟩, rfl⟩⟩
    · rw [decide_eq_false (show ¬ wv w k > 0 from cw), fk_f, ck_t (by simp; omega), ox_lt hku]
      exact go _ (hJ.set ck' cd cw)
  have e : k = l.length := by omega
  subst e
  obtain ⟨rfl, hd⟩ := hJ.end
  have hbl := begun_len l w t
  rw [decide_eq_false ck', fk_f]
  refine lp_ex (fun v => l.length - v.2.2.toNat) (fun v => ∃ (k : Nat) (out due : Int), v = (out, due, (k : Int)) ∧ k ≤ l.length ∧ nxI l (begun l w t) t k out due) (resP l F) ?_ FU _ ⟨0, -1, 0, rfl, Nat.zero_le _, nxI.zero⟩ (by unfold FU; simp only; omega)
  rintro nx8 v ⟨k, out, due, rfl, hk, hN⟩ hnx8
  dsimp only
  rw [lt_nat]
  by_cases cn : k < l.length
  rotate_left
  · have e : k = l.length := by omega
    subst e
    have hstep := LayR.step hL hd hN.n
    have hnext := hnx (o ++ [out], dec (begun l w t) out, ((t + 1 : Nat) : Int)) ⟨t + 1, _, _, rfl, c, hstep⟩ (by simp only [Int.toNat_natCast]; omega)
    obtain ⟨hsl, hswl, hswb, _⟩ := hstep.ok hl
    rw [decide_eq_false cn, fk_f]
    have e1 : wr ((t : Int) + 1) = ((t + 1 : Nat) : Int) := wr_succ t _ c (by omega)
    by_cases co : out = -1
    · rw [decide_eq_true co, Bool.not_true, fk_f, ck_t (by simp; omega), e1]
      unfold dec at hnext
      rw [if_pos co] at hnext
      exact hnext
    · rcases hN.n with ⟨h, _⟩ | ⟨i, f, hi, rfl, hf, hw, _⟩
      · exact absurd h co
      have hib : i < (begun l w t).length := by omega
      have hbw : wv (begun l w t) i ≤ 201 := by
        have h2 := hswb i
        have : wv (dec (begun l w t) (i : Int)) i = wv (begun l w t) i - 1 := by
          unfold dec
          rw [if_neg co, Int.toNat_natCast, wv_set hib, if_pos rfl]
        omega
      rw [decide_eq_false co, Bool.not_false, fk_t, ck_t (by simp; omega), Int.toNat_natCast, ox_lt hib, ck_t (by simp; omega), ox_lt hib, ck_t (by simp; omega), e1, wv_lt hib, wr_in _ (by omega)]
      unfold dec at hnext
      rw [if_neg co, Int.toNat_natCast] at hnext
      exact hnext
  have hfk : l[k]? = some l[k] := List.getElem?_eq_getElem cn
  have hface := hl.1 _ (List.getElem_mem cn)
  have hp := hface.P
  have hkb : k < (begun l w t).length := by omega
  rw [decide_eq_true cn, fk_t, jn_eq, ix_lt cn, ck_t (decide_eq_true (by omega)), jn_eq, by_eq hface t (by omega), wr_succ k _ cn (by omega), ck_t (by simp; omega), Int.toNat_natCast, ox_lt hkb, wv_lt hkb]
  have keep : ¬ (0 < wv (begun l w t) k ∧ (out = -1 ∨ ((byV l[k] t : Nat) : Int) < due)) → ∃ r, nx8 (out, due, ((k + 1 : Nat) : Int)) = some r ∧ resP l F r := fun h' => hnx8 _ ⟨k + 1, out, due, rfl, cn, hN.keep cn h'⟩ (by simp only [Int.toNat_natCast]; omega)
  have take : 0 < wv (begun l w t) k → (out = -1 ∨ ((byV l[k] t : Nat) : Int) < due) → ∃ r, nx8 ((k : Int), ((byV l[k] t : Nat) : Int), ((k + 1 : Nat) : Int)) = some r ∧ resP l F r := fun h1 h2 => hnx8 _ ⟨k + 1, _, _, rfl, cn, hN.take cn h1 h2⟩ (by simp only [Int.toNat_natCast]; omega)
  by_cases cw : wv (begun l w t) k > 0
  rotate_left
  · rw [decide_eq_false cw, fk_f]
    exact keep fun h => cw h.1
  rw [decide_eq_true cw, fk_t]
  by_cases co : out = -1
  · rw [decide_eq_true co, fk_t]
    exact take cw (.inl co)
  rw [decide_eq_false co, fk_f]
  by_cases cd : ((byV l[k] t : Nat) : Int) < due
  · rw [decide_eq_true cd]
    exact take cw (.inr cd)
  · rw [decide_eq_false cd]
    exact keep fun h => (h.2.elim co cd)
end Go.Proofs.YtldlcdnhdedoeaaGreat
namespace Go.Proofs.YtldlcdnhdedoeaaGreat
open Go Go.VC
/-! The same, by what was given. -/
def hadN (o : List Int) (i : Int) (s : Nat) : Nat := (o.drop s).count i
theorem ref12_Had_eq (o : List Int) (i : Int) (s : Nat) (hl : o.length ≤ 1000) (hs : s ≤ o.length) : ref12_Had o i (s : Int) = some ((hadN o i s : Nat) : Int) := by
  unfold ref12_Had
  refine lp_inv (fun v => o.length - v.2.toNat) (fun v => ∃ k : Nat, v = (((((o.take k).drop s).count i : Nat) : Int), (k : Int)) ∧ s ≤ k ∧ k ≤ o.length) ?_ FU _ ⟨s, by rw [List.drop_take_self]; rfl, Nat.le_refl _, hs⟩ (by unfold FU; simp only; omega)
  rintro nx v ⟨k, rfl, hk1, hk⟩ hnx
  dsimp only
  rw [lt_nat]
  by_cases c : k < o.length
  rotate_left
  · rw [decide_eq_false c, fk_f, List.take_of_length_le (by omega)]; rfl
  have hc : ((o.take k).drop s).count i ≤ 1000 := Nat.le_trans List.count_le_length (by rw [List.length_drop, List.length_take]; omega)
  have hsn : ((o.take (k + 1)).drop s).count i = ((o.take k).drop s).count i + (if o[k] = i then 1 else 0) := by
    rw [← List.take_append_getElem c, List.drop_append_of_le_length (by rw [List.length_take]; omega), List.count_append]
    congr 1
    rw [List.count_singleton]
    by_cases e : o[k] = i
    · rw [if_pos e, if_pos (by rw [e]; exact beq_self_eq_true _)]
    · rw [if_neg e, if_neg (by rw [beq_iff_eq]; exact e)]
  rw [decide_eq_true c, fk_t]
  refine jn_to ((((o.take (k + 1)).drop s).count i : Nat) : Int) (fun k2 => ?_) ?_
  · rw [ix_lt c, hsn]
    by_cases e : o[k] = i
    · rw [decide_eq_true e, fk_t, if_pos e, wr_in _ (by omega)]; rfl
    · rw [decide_eq_false e, fk_f, if_neg e]; rfl
  · rw [wr_succ k _ c (by omega)]
    exact hnx _ ⟨k + 1, rfl, by omega, c⟩ (by simp only [Int.toNat_natCast]; omega)
theorem div_same {P t : Nat} (hP : 1 ≤ P) (ht : 0 < t) (h : ¬ P ∣ t) : (t - 1) / P = t / P := by
  have h1 := Nat.div_add_mod t P
  have h2 : t % P ≠ 0 := fun e => h (Nat.dvd_of_mod_eq_zero e)
  have h3 := Nat.mod_lt t hP
  refine Nat.div_eq_of_lt_le ?_ ?_
  · rw [Nat.mul_comm]; omega
  · rw [Nat.succ_mul, Nat.mul_comm]; omega
theorem hadN_snoc {o : List Int} {r i : Int} {s : Nat} (hs : s ≤ o.length) : hadN (o ++ [r]) i s = hadN o i s + (if r = i then 1 else 0) := by
  unfold hadN
  rw [List.drop_append_of_le_length hs, List.count_append, List.count_singleton]
  congr 1
  by_cases e : r = i
  · rw [if_pos e, if_pos (by rw [e]; exact beq_self_eq_true _)]
  · rw [if_neg e, if_neg (by rw [beq_iff_eq]; exact e)]
theorem wv_dec {w : List Int} {r : Int} {t k : Nat} {l : List Face} (hn : isNext l w t l.length r) (hw : w.length = l.length) (i : Nat) : wv (dec w r) i = wv w i - (if r = (i : Int) then 1 else 0) := by
  unfold dec
  rcases hn with ⟨rfl, _⟩ | ⟨j, f, hj, rfl, _⟩
  · rw [if_pos rfl, if_neg (by omega)]; omega
  · rw [if_neg (by omega), Int.toNat_natCast, wv_set (by omega)]
    by_cases e : i = j
    · subst e; rw [if_pos rfl, if_pos rfl]
    · rw [if_neg e, if_neg (by omega)]; omega
theorem LayR.wants {l : List Face} (hl : facesP l) {t : Nat} {o w : List Int} (h : LayR l t o w) : (t = 0 → ∀ i, wv w i = 0) ∧ (0 < t → ∀ (i : Nat) (f : Face), l[i]? = some f → wv w i = f.B - ((hadN o (i : Int) ((t - 1) / f.P.toNat * f.P.toNat) : Nat) : Int)) ∧ ∀ (i : Nat) (f : Face), l[i]? = some f → wv (begun l w t) i = f.B - ((hadN o (i : Int) (t / f.P.toNat * f.P.toNat) : Nat) : Int) := by
  have fin : ∀ {t : Nat} {o w : List Int}, LayR l t o w → ((t = 0 → ∀ i, wv w i = 0) ∧ (0 < t → ∀ (i : Nat) (f : Face), l[i]? = some f → wv w i = f.B - ((hadN o (i : Int) ((t - 1) / f.P.toNat * f.P.toNat) : Nat) : Int))) → ∀ (i : Nat) (f : Face), l[i]? = some f → wv (begun l w t) i = f.B - ((hadN o (i : Int) (t / f.P.toNat * f.P.toNat) : Nat) : Int) := by
    intro t o w h ih i f hf
    have hp := (hl.1 f (List.mem_of_getElem? hf)).P
    rw [begun_at hf]
    by_cases cd : f.P.toNat ∣ t
    · rw [if_pos cd, Nat.div_mul_cancel cd]
      unfold hadN
      rw [List.drop_eq_nil_of_le (by rw [(h.ok hl).1]; exact Nat.le_refl _)]
      simp
    · rw [if_neg cd]
      have ht : 0 < t := Nat.pos_of_ne_zero fun e => cd (by rw [e]; exact Nat.dvd_zero _)
      rw [ih.2 ht i f hf, div_same (by omega) ht cd]
  have main : (t = 0 → ∀ i, wv w i = 0) ∧ (0 < t → ∀ (i : Nat) (f : Face), l[i]? = some f → wv w i = f.B - ((hadN o (i : Int) ((t - 1) / f.P.toNat * f.P.toNat) : Nat) : Int)) := by
    induction h with
    | zero =>
      refine ⟨fun _ i => ?_, fun h => by omega⟩
      unfold wv
      rw [List.getElem?_replicate]
      split <;> rfl
    | step h hd hn ih =>
      rename_i t out w r
      refine ⟨fun h => by omega, fun _ i f hf => ?_⟩
      have hol := (h.ok hl).1
      have hle : t / f.P.toNat * f.P.toNat ≤ t := Nat.div_mul_le_self _ _
      rw [wv_dec (t := t) (k := 0) hn (begun_len _ _ _), fin h ih i f hf, Nat.add_sub_cancel, hadN_snoc (by omega)]
      split <;> omega
  exact ⟨main.1, main.2, fin h main⟩
theorem ref12_Wants_eq {l : List Face} (hl : facesP l) {t : Nat} {o w : List Int} (h : LayR l t o w) (ht : t ≤ 240) {i : Nat} (hi : i < l.length) : ref12_Wants l o (i : Int) (t : Int) = some (wv (begun l w t) i) := by
  have hf : l[i]? = some l[i] := List.getElem?_eq_getElem hi
  have hface := hl.1 _ (List.getElem_mem hi)
  have hp := hface.P
  have hol := (h.ok hl).1
  have hw := h.wants hl
  unfold ref12_Wants
  rw [ix_lt hi, ix_lt hi, ck_t (decide_eq_true (by omega)), ix_lt hi]
  have e : (t : Int).tdiv l[i].P = ((t / l[i].P.toNat : Nat) : Int) := by
    rw [Int.tdiv_eq_ediv_of_nonneg (by omega)]
    conv => lhs; rw [show l[i].P = ((l[i].P.toNat : Nat) : Int) by omega]
    rfl
  have hd : t / l[i].P.toNat ≤ t := Nat.div_le_self _ _
  have hle : t / l[i].P.toNat * l[i].P.toNat ≤ t := Nat.div_mul_le_self _ _
  have e2 : wr (wr ((t : Int).tdiv l[i].P) * l[i].P) = ((t / l[i].P.toNat * l[i].P.toNat : Nat) : Int) := by
    rw [e]
    generalize t / l[i].P.toNat = q at *
    have e3 : ((q * l[i].P.toNat : Nat) : Int) = (q : Int) * l[i].P := by rw [Int.natCast_mul, show ((l[i].P.toNat : Nat) : Int) = l[i].P by omega]
    rw [wr_in (q : Int) (by omega), ← e3]
    generalize q * l[i].P.toNat = z at *
    rw [wr_in _ (by omega)]
  rw [e2, bnd_eq (ref12_Had_eq o (i : Int) _ (by omega) (by omega)), hw.2.2 i _ hf]
  have hc : hadN o (i : Int) (t / l[i].P.toNat * l[i].P.toNat) ≤ 1000 := Nat.le_trans List.count_le_length (by rw [List.length_drop]; omega)
  generalize hadN o (i : Int) (t / l[i].P.toNat * l[i].P.toNat) = z at *
  rw [wr_in _ (by omega)]
/-- Who is next, downward. -/
structure dnI (l : List Face) (u : List Int) (t k : Nat) (who : Int) : Prop where
  n : (who = -1 ∧ ∀ i, k ≤ i → i < l.length → wv u i ≤ 0) ∨ ∃ (i : Nat) (f : Face), k ≤ i ∧ i < l.length ∧ who = (i : Int) ∧ l[i]? = some f ∧ 0 < wv u i ∧ ∀ (j : Nat) (g : Face), k ≤ j → l[j]? = some g → 0 < wv u j → byV f t < byV g t ∨ (byV f t = byV g t ∧ i ≤ j)
theorem dnI.end {l : List Face} {u : List Int} {t : Nat} {who : Int} (h : dnI l u t 0 who) : isNext l u t l.length who := by
  rcases h.n with ⟨rfl, a⟩ | ⟨i, f, _, hi, rfl, hf, hw, a⟩
  · exact .inl ⟨rfl, fun i hi => a i (Nat.zero_le _) hi⟩
  · exact .inr ⟨i, f, hi, rfl, hf, hw, fun j g _ hg hwj => a j g (Nat.zero_le _) hg hwj⟩
theorem dnI.keep {l : List Face} {u : List Int} {t k : Nat} {who : Int} (h : dnI l u t (k + 1) who) (hk : k < l.length) (hc : ¬ 0 < wv u k ∨ ∃ (i : Nat) (f : Face), who = (i : Int) ∧ l[i]? = some f ∧ byV f t < byV l[k] t) : dnI l u t k who := by
  have hfk : l[k]? = some l[k] := List.getElem?_eq_getElem hk
  refine ⟨?_⟩
  rcases h.n with ⟨rfl, a⟩ | ⟨i, f, hi, hil, rfl, hf, hw, a⟩
  · refine .inl ⟨rfl, fun i hi hil => ?_⟩
    by_cases e : i = k
    · subst e
      rcases hc with hc | ⟨j, f, hj, _⟩
      · exact Int.not_lt.1 hc
      · omega
    · exact a i (by omega) hil
  · refine .inr ⟨i, f, by omega, hil, rfl, hf, hw, fun j g hj hg hwj => ?_⟩
    by_cases e : j = k
    · subst e
      rw [hfk] at hg; cases hg
      rcases hc with hc | ⟨i', f', hi', hf', hlt⟩
      · exact absurd hwj hc
      · have : i' = i := by omega
        subst this
        rw [hf] at hf'; cases hf'
        exact .inl hlt
    · exact a j g (by omega) hg hwj
theorem dnI.take {l : List Face} {u : List Int} {t k : Nat} {who : Int} (h : dnI l u t (k + 1) who) (hk : k < l.length) (hw : 0 < wv u k) (hc : who = -1 ∨ ∃ (i : Nat) (f : Face), who = (i : Int) ∧ l[i]? = some f ∧ byV l[k] t ≤ byV f t) : dnI l u t k (k : Int) := by
  have hfk : l[k]? = some l[k] := List.getElem?_eq_getElem hk
  refine ⟨.inr ⟨k, l[k], Nat.le_refl _, hk, rfl, hfk, hw, fun j g hj hg hwj => ?_⟩⟩
  by_cases e : j = k
  · subst e; rw [hfk] at hg; cases hg; exact .inr ⟨rfl, Nat.le_refl _⟩
  · rcases h.n with ⟨rfl, a⟩ | ⟨i, f, hi, hil, rfl, hf, hw', a⟩
    · have := a j (by omega) (List.getElem?_eq_some_iff.1 hg).1; omega
    · have h1 := a j g (by omega) hg hwj
      rcases hc with hc | ⟨i', f', hi', hf', hle⟩
      · omega
      · have : i' = i := by omega
        subst this
        rw [hf] at hf'; cases hf'
        omega
theorem ref12_Lay_ok (l : List Face) (hl : facesP l) (hF : lcmF 1 l ≤ 240) : ∃ r, ref12_Lay l = some r ∧ resP l (lcmF 1 l) r := by
  have h4 := hl.2
  have hpos := lcmF_pos l 1 (by omega) fun f hf => (hl.1 f hf).P.1
  have ef : frameV l = (((lcmF 1 l : Nat) : Int), 0) := by unfold frameV; rw [if_pos hl, if_pos hF]
  unfold ref12_Lay
  rw [bnd_eq (ref12_Frame_eq l), ef]
  dsimp only
  rw [decide_eq_true rfl, Bool.not_true, fk_f]
  generalize lcmF 1 l = F at *
  have hd0 : ∀ {w : List Int}, LayR l 0 [] w → ¬ denyP l w 0 := fun {w} h => by
    rintro ⟨i, f, hf, _, hw⟩
    have := (h.wants hl).1 rfl i; omega
  refine lp_ex (fun v => F - v.2.toNat) (fun v => ∃ (t : Nat) (o w : List Int), v = (o, (t : Int)) ∧ t ≤ F ∧ LayR l t o w ∧ ¬ denyP l w t) (resP l F) ?_ FU _ ⟨0, [], _, rfl, Nat.zero_le _, LayR.zero, hd0 LayR.zero⟩ (by unfold FU; simp only; omega)
  rintro nx v ⟨t, o, w, rfl, ht, hL, hd⟩ hnx
  obtain ⟨hol, hwl, hwb, _⟩ := hL.ok hl
  dsimp only
  rw [lt_nat]
  by_cases c : t < F
  rotate_left
  · have e : t = F := by omega
    subst e
    rw [decide_eq_false c, fk_f]
    exact ⟨_, rfl, .inl ⟨o, w, hL, hd, rfl⟩⟩
  have hbl := begun_len l w t
  have en : wr ((l.length : Int) - 1) = (l.length : Int) - 1 := wr_in _ (by omega)
  rw [decide_eq_true c, fk_t, en]
  refine lp_ex (fun v => (v.2 + 1).toNat) (fun v => ∃ (k : Nat) (who : Int), v = (who, (k : Int) - 1) ∧ k ≤ l.length ∧ dnI l (begun l w t) t k who) (resP l F) ?_ FU _ ⟨l.length, -1, rfl, Nat.le_refl _, ⟨.inl ⟨rfl, fun i h1 h2 => by omega⟩⟩⟩ (by unfold FU; omega)
  rintro nx3 v ⟨k, who, rfl, hk, hN⟩ hnx3
  dsimp only
  cases k with
  | zero =>
    have hn := hN.end
    have hstep := LayR.step hL hd hn
    obtain ⟨hsl, hswl, hswb, _⟩ := hstep.ok hl
    rw [decide_eq_false (by omega), fk_f, ck_t (by simp; omega)]
    have e1 : wr ((t : Int) + 1) = ((t + 1 : Nat) : Int) := wr_succ t _ c (by omega)
    rw [e1]
    refine lp_ex (fun v => l.length - v.toNat) (fun v => ∃ k : Nat, v = (k : Int) ∧ k ≤ l.length ∧ ∀ (i : Nat) (f : Face), i < k → l[i]? = some f → ¬ (f.P.toNat ∣ (t + 1) ∧ 0 < wv (dec (begun l w t) who) i)) (resP l F) ?_ FU _ ⟨0, rfl, Nat.zero_le _, fun i f h => by omega⟩ (by unfold FU; omega)
    rintro nx4 v ⟨k, rfl, hk, hJ⟩ hnx4
    rw [lt_nat]
    by_cases ck' : k < l.length
    rotate_left
    · rw [decide_eq_false ck', fk_f]
      refine hnx _ ⟨t + 1, o ++ [who], _, rfl, c, hstep, ?_⟩ (by simp only [Int.toNat_natCast]; omega)
      rintro ⟨i, f, hf, a, b⟩
      exact hJ i f (by have := (List.getElem?_eq_some_iff.1 hf).1; omega) hf ⟨a, b⟩
    have hfk : l[k]? = some l[k] := List.getElem?_eq_getElem ck'
    have hp := (hl.1 _ (List.getElem_mem ck')).P
    have hwk := (hstep.wants hl).2.1 (by omega) k _ hfk
    rw [Nat.add_sub_cancel] at hwk
    rw [decide_eq_true ck', fk_t, jn_eq, ix_lt ck', ck_t (decide_eq_true (by omega)), tmod_dvd hp.1, wr_succ k _ ck' (by omega)]
    have go : ¬ (l[k].P.toNat ∣ (t + 1) ∧ 0 < wv (dec (begun l w t) who) k) → ∃ r, nx4 ((k + 1 : Nat) : Int) = some r ∧ resP l F r := fun h' => hnx4 _ ⟨k + 1, rfl, ck', fun i f hi hf => by
      by_cases e : i = k
      · subst e; rw [hfk] at hf; cases hf; exact h'
      · exact hJ i f (by omega) hf⟩ (by simp only [Int.toNat_natCast]; omega)
    by_cases cd : l[k].P.toNat ∣ (t + 1)
    rotate_left
    · rw [decide_eq_false cd, fk_f]
      show ∃ r, fk false _ _ = some r ∧ _
      rw [fk_f]
      exact go fun h => cd h.1
    have hs : t / l[k].P.toNat * l[k].P.toNat = t + 1 - l[k].P.toNat := by
      obtain ⟨q, hq⟩ := cd
      cases q with
      | zero => omega
      | succ q =>
        have hlt : l[k].P.toNat * q + (l[k].P.toNat - 1) = t := by rw [Nat.mul_succ] at hq; omega
        have : t / l[k].P.toNat = q := by
          rw [← hlt, Nat.mul_add_div (by omega), Nat.div_eq_of_lt (by omega), Nat.add_zero]
        rw [this, Nat.mul_comm]; omega
    rw [hs] at hwk
    have hle : l[k].P.toNat ≤ t + 1 := Nat.le_of_dvd (by omega) cd
    have es : wr (((t + 1 : Nat) : Int) - l[k].P) = ((t + 1 - l[k].P.toNat : Nat) : Int) := by rw [wr_in _ (by omega)]; omega
    have hh := ref12_Had_eq (o ++ [who]) (k : Int) (t + 1 - l[k].P.toNat) (by omega) (by omega)
    rw [decide_eq_true cd, fk_t, ix_lt ck', es, bnd_eq hh, ix_lt ck']
    by_cases cw : 0 < wv (dec (begun l w t) who) k
    · rw [decide_eq_true (by omega)]
      show ∃ r, fk true _ _ = some r ∧ _
      rw [fk_t]
      exact ⟨_, rfl, .inr ⟨t + 1, c, _, _, hstep, ⟨k, _, hfk, cd, cw⟩, rfl⟩⟩
    · rw [decide_eq_false (by omega)]
      show ∃ r, fk false _ _ = some r ∧ _
      rw [fk_f]
      exact go fun h => cw h.2
  | succ k =>
    have hkl : k < l.length := by omega
    have hfk : l[k]? = some l[k] := List.getElem?_eq_getElem hkl
    have hface := hl.1 _ (List.getElem_mem hkl)
    have hp := hface.P
    have ek : ((k + 1 : Nat) : Int) - 1 = (k : Int) := by omega
    have ew : wr ((k : Int) - 1) = (k : Int) - 1 := wr_in _ (by omega)
    rw [ek, decide_eq_true (by omega), fk_t, jn_eq, jn_eq, ew, bnd_eq (ref12_Wants_eq hl hL (by omega) hkl)]
    have keep : (¬ 0 < wv (begun l w t) k ∨ ∃ (i : Nat) (f : Face), who = (i : Int) ∧ l[i]? = some f ∧ byV f t < byV l[k] t) → ∃ r, nx3 (who, (k : Int) - 1) = some r ∧ resP l F r := fun h' => hnx3 _ ⟨k, who, rfl, by omega, hN.keep hkl h'⟩ (by simp only; omega)
    have take : 0 < wv (begun l w t) k → (who = -1 ∨ ∃ (i : Nat) (f : Face), who = (i : Int) ∧ l[i]? = some f ∧ byV l[k] t ≤ byV f t) → ∃ r, nx3 ((k : Int), (k : Int) - 1) = some r ∧ resP l F r := fun h1 h2 => hnx3 _ ⟨k, _, rfl, by omega, hN.take hkl h1 h2⟩ (by simp only; omega)
    by_cases cw : wv (begun l w t) k > 0
    rotate_left
    · rw [decide_eq_false cw, fk_f]
      show ∃ r, fk false _ _ = some r ∧ _
      rw [fk_f]
      exact keep (.inl cw)
    rw [decide_eq_true cw, fk_t]
    rcases hN.n with ⟨rfl, _⟩ | ⟨i, f, hi, hil, rfl, hf, _, _⟩
    · rw [decide_eq_true (by omega), fk_t]
      show ∃ r, fk true _ _ = some r ∧ _
      rw [fk_t]
      exact take cw (.inl rfl)
    · have hfi : l[i] = f := by rw [List.getElem?_eq_getElem hil] at hf; exact Option.some.inj hf
      have hface2 := hl.1 _ (List.getElem_mem hil)
      have hp2 := hface2.P
      rw [decide_eq_false (by omega), fk_f, ix_lt hkl, ck_t (decide_eq_true (by omega)), ix_lt hkl, ix_lt hil, ck_t (decide_eq_true (by omega)), ix_lt hil, by_eq2 hface t (by omega), by_eq2 hface2 t (by omega)]
      by_cases cb : byV l[k] t ≤ byV l[i] t
      · rw [decide_eq_true (by omega)]
        show ∃ r, fk true _ _ = some r ∧ _
        rw [fk_t]
        exact take cw (.inr ⟨i, f, rfl, hf, by rw [← hfi]; exact cb⟩)
      · rw [decide_eq_false (by omega)]
        show ∃ r, fk false _ _ = some r ∧ _
        rw [fk_f]
        exact keep (.inr ⟨i, f, rfl, hf, by rw [← hfi]; omega⟩)
/-- Both lay the same. -/
theorem lay_same (l : List Face) : ∃ r : List Int × Int, synth_Lay l = some r ∧ ref12_Lay l = some r ∧ (r.2 = 0 → 1 ≤ r.1.length ∧ r.1.length ≤ 240 ∧ (∀ x ∈ r.1, -1 ≤ x ∧ x < 4) ∧ facesP l) ∧ (r.2 ≠ 0 → r.1 = [] ∧ (r.2 = 1 ∨ r.2 = 5 ∨ r.2 = 7)) := by
  by_cases h : facesP l ∧ lcmF 1 l ≤ 240
  · obtain ⟨hl, hF⟩ := h
    obtain ⟨r, e1, h1⟩ := synth_Lay_ok l hl hF
    obtain ⟨s, e2, h2⟩ := ref12_Lay_ok l hl hF
    have := resP_unique h1 h2
    subst this
    have hpos := lcmF_pos l 1 (by omega) fun f hf => (hl.1 f hf).P.1
    refine ⟨r, e1, e2, fun h0 => ?_, fun h0 => ?_⟩
    · rcases h1 with ⟨o, w, a, b, rfl⟩ | ⟨t, ht, o, w, a, b, rfl⟩
      · obtain ⟨g1, _, _, g4⟩ := a.ok hl
        refine ⟨by show 1 ≤ o.length; omega, by show o.length ≤ 240; omega, fun x hx => ?_, hl⟩
        have := g4 x hx
        have := hl.2
        omega
      · exact absurd h0 (by decide)
    · rcases h1 with ⟨o, w, a, b, rfl⟩ | ⟨t, ht, o, w, a, b, rfl⟩
      · exact absurd rfl h0
      · exact ⟨rfl, .inr (.inr rfl)⟩
  · have ef : (frameV l).2 ≠ 0 ∧ ((frameV l).2 = 1 ∨ (frameV l).2 = 5) := by
      unfold frameV
      by_cases hl : facesP l
      · rw [if_pos hl, if_neg (fun hF => h ⟨hl, hF⟩)]; exact ⟨by decide, .inr rfl⟩
      · rw [if_neg hl]; exact ⟨by decide, .inl rfl⟩
    refine ⟨([], (frameV l).2), ?_, ?_, fun h0 => absurd h0 ef.1, fun _ => ⟨rfl, ef.2.elim .inl fun h => .inr (.inl h)⟩⟩
    · unfold synth_Lay
      rw [bnd_eq (synth_Frame_eq l), decide_eq_false ef.1, Bool.not_false, fk_t]
    · unfold ref12_Lay
      rw [bnd_eq (ref12_Frame_eq l), decide_eq_false ef.1, Bool.not_false, fk_t]
end Go.Proofs.YtldlcdnhdedoeaaGreat
