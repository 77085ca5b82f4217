/- Part 17 of what follows is proved here: what the statement AdmitMeets needs of functions and plain laws. -/
import Derived.Test.YtakiggekallckaaXAdmitMeets5
import Derived.Test.YtakiggekallckaaXAdmitMeets4
set_option linter.unusedVariables false
set_option linter.unusedSimpArgs false
set_option maxRecDepth 100000
set_option maxHeartbeats 4000000
namespace Go.Proofs.Ytakiggekallckaa
open Go Go.VC
/-! A partition's state. -/
def toR (s : PartState) : Ref17State := ⟨s.Tasks, s.Leaves, s.Lasts, s.Jobs, s.Log⟩
theorem law17_As_eq (s : PartState) : law17_As s = some (toR s) := rfl
def stP (s : PartState) : Prop := s.Leaves.length = s.Tasks.length ∧ lastsP s.Tasks s.Lasts ∧ jobsP s.Tasks s.Jobs ∧ s.Log.length ≤ 2000
noncomputable instance (s : PartState) : Decidable (stP s) := Classical.propDecidable _
structure StB (s : PartState) : Prop where
  t : s.Tasks.length ≤ 4611686018427387904
  u : ∀ t ∈ s.Tasks, t.Secs.length ≤ 4611686018427387904
  a : s.Lasts.length ≤ 4611686018427387904
theorem StB.of {s : PartState} (h : PartState.wf s) : StB s :=
  ⟨wf_len h.1.1 (by omega), fun t ht => (h.1.2 t ht).len, by have := h.2.2.1.1; unfold BB at this; omega⟩
theorem part_Right_eq (s : PartState) (hb : StB s) : part_Right s = some (decide (stP s)) := by
  unfold part_Right
  by_cases h1 : s.Leaves.length = s.Tasks.length
  rotate_left
  · rw [decide_eq_false (by omega), fk_f]; exact dec_f fun h => h1 h.1
  rw [decide_eq_true (by omega), fk_t, bnd_eq (police_Right_eq _ _ hb.t hb.a)]
  by_cases h2 : lastsP s.Tasks s.Lasts
  rotate_left
  · rw [decide_eq_false h2, fk_f]; exact dec_f fun h => h2 h.2.1
  rw [decide_eq_true h2, fk_t, bnd_eq (job_All_eq _ _ hb.t)]
  by_cases h3 : jobsP s.Tasks s.Jobs
  rotate_left
  · rw [decide_eq_false h3, fk_f]; exact dec_f fun h => h3 h.2.2.1
  rw [decide_eq_true h3, fk_t]
  exact dec_iff ⟨fun h => ⟨h1, h2, h3, by omega⟩, fun h => by have := h.2.2.2; omega⟩
theorem ref17_Right_eq (s : PartState) (hb : StB s) : ref17_Right (toR s) = some (decide (stP s)) := by
  unfold ref17_Right toR
  dsimp only
  by_cases h1 : s.Leaves.length = s.Tasks.length
  rotate_left
  · rw [decide_eq_false (by omega), fk_f]; exact dec_f fun h => h1 h.1
  rw [decide_eq_true (by omega), fk_t]
  rw [bnd_eq (ref16_Right_eq _ _ hb.t hb.u hb.a)]
  by_cases h2 : lastsP s.Tasks s.Lasts
  rotate_left
  · rw [decide_eq_false h2, fk_f]; exact dec_f fun h => h2 h.2.1
  rw [decide_eq_true h2, fk_t, bnd_eq (ref14_All_eq _ _ hb.t hb.u)]
  by_cases h3 : jobsP s.Tasks s.Jobs
  rotate_left
  · rw [decide_eq_false h3, fk_f]; exact dec_f fun h => h3 h.2.2.1
  rw [decide_eq_true h3, fk_t]
  exact dec_iff ⟨fun h => ⟨h1, h2, h3, by omega⟩, fun h => by have := h.2.2.2; omega⟩
/-! The log. -/
def nt (lg : List Entry) (e : Entry) : List Entry := if lg.length < 2000 then lg ++ [e] else lg
theorem nt_len {lg : List Entry} {e : Entry} (h : lg.length ≤ 2000) : (nt lg e).length ≤ 2000 := by
  unfold nt; split
  · rw [List.length_append]; simp; omega
  · exact h
theorem ref17_noted_eq (lg : List Entry) (t k i : Int) : ref17_noted lg t k i = some (nt lg ⟨t, k, i⟩) := by
  unfold ref17_noted nt
  by_cases h : lg.length < 2000
  · rw [decide_eq_false (by omega), fk_f, if_pos h, ck_t (by simp; omega), ck_t (by simp; omega), List.nil_append]
  · rw [decide_eq_true (by omega), fk_t, if_neg h]
theorem nt_fk {R : Type} (lg : List Entry) (e : Entry) (K : List Entry → Option R) : fk (decide ((lg.length : Int) < 2000)) (ck (decide ((lg.length + ([e] : List Entry).length) * 24 ≤ 140737488355328)) (K (lg ++ [e]))) (K lg) = K (nt lg e) := by
  unfold nt
  by_cases h : lg.length < 2000
  · rw [decide_eq_true (by omega), fk_t, if_pos h, ck_t (by simp; omega)]
  · rw [decide_eq_false (by omega), fk_f, if_neg h]
def whenP (t : Int) : Prop := 0 ≤ t ∧ t ≤ 4611686018427387703
instance (t : Int) : Decidable (whenP t) := by unfold whenP; infer_instance
theorem part_when_eq (t : Int) : part_when t = some (decide (whenP t)) := by
  unfold part_when
  by_cases h : 0 ≤ t
  · rw [decide_eq_true (by omega), fk_t]; exact dec_iff ⟨fun k => ⟨h, k⟩, fun k => k.2⟩
  · rw [decide_eq_false (by omega), fk_f]; exact dec_f fun k => h k.1
theorem ref17_when_eq (t : Int) : ref17_when t = some (decide (whenP t)) := by
  unfold ref17_when
  by_cases h : 0 ≤ t
  · rw [decide_eq_true (by omega), fk_t]; exact dec_iff ⟨fun k => ⟨h, k⟩, fun k => k.2⟩
  · rw [decide_eq_false (by omega), fk_f]; exact dec_f fun k => h k.1
/-! The same. -/
theorem sameAll_eq (l : List Task) (hl : l.length ≤ 4611686018427387904) (hs : ∀ t ∈ l, t.Secs.length ≤ 4611686018427387904) : ref05_SameAll l l = some true := by
  unfold ref05_SameAll
  rw [decide_eq_true rfl, Bool.not_true, fk_f]
  refine lp_up l.length (by unfold FU; omega) (fun _ => True) trivial ?_
  intro nx k hk _ hnx
  rw [lt_nat]
  by_cases h : k < l.length
  · rw [decide_eq_true h, fk_t, ix_lt h, ix_lt h, bnd_eq (ref05_Same_eq _ _ (hs _ (List.getElem_mem h))), decide_eq_true rfl, Bool.not_true, fk_f, wr_succ k _ h (by omega)]
    exact hnx h trivial
  · rw [decide_eq_false h, fk_f]
theorem eqI_ent (x y : Entry) : eqI [.i .i64 x.At, .i .i64 x.Kind, .i .i64 x.Task] [.i .i64 y.At, .i .i64 y.Kind, .i .i64 y.Task] = decide (x = y) := by
  cases x; cases y
  simp [eqI]
theorem sameLog_eq (l : List Entry) (hl : l.length ≤ 4611686018427387904) : ref17_SameLog l l = some true := by
  unfold ref17_SameLog
  rw [decide_eq_true rfl, Bool.not_true, fk_f]
  refine lp_up l.length (by unfold FU; omega) (fun _ => True) trivial ?_
  intro nx k hk _ hnx
  rw [lt_nat]
  by_cases h : k < l.length
  · rw [decide_eq_true h, fk_t, ix_lt h, ix_lt h, eqI_ent, decide_eq_true rfl, Bool.not_true, fk_f, wr_succ k _ h (by omega)]
    exact hnx h trivial
  · rw [decide_eq_false h, fk_f]
structure SameB (s : Ref17State) : Prop where
  t : s.Tasks.length ≤ 4611686018427387904
  u : ∀ t ∈ s.Tasks, t.Secs.length ≤ 4611686018427387904
  l : s.Leaves.length ≤ 4611686018427387904
  a : s.Lasts.length ≤ 1000
  j : s.Jobs.length ≤ 4611686018427387904
  g : s.Log.length ≤ 4611686018427387904
theorem ref17_Same_eq (s : Ref17State) (h : SameB s) : ref17_Same s s = some true := by
  unfold ref17_Same
  rw [decide_eq_true rfl, Bool.not_true, fk_f]
  refine lp_up s.Leaves.length (by have := h.l; unfold FU; omega) (fun _ => True) trivial ?_
  intro nx k hk _ hnx
  rw [lt_nat]
  by_cases hk' : k < s.Leaves.length
  · rw [decide_eq_true hk', fk_t, ix_lt hk', ix_lt hk', decide_eq_true rfl, Bool.not_true, fk_f, wr_succ k _ hk' h.l]
    exact hnx hk' trivial
  · rw [decide_eq_false hk', fk_f, bnd_eq (sameAll_eq _ h.t h.u), fk_t, bnd_eq (sameInts_eq _ h.a), fk_t, bnd_eq (ref14_Same_eq _ _ h.j), decide_eq_true rfl, fk_t, bnd_eq (sameLog_eq _ h.g)]
/-! Too great. -/
def greatS (s : PartState) : Prop := GreatP s.Tasks ∨ 50 < s.Leaves.length ∨ 50 < s.Lasts.length ∨ 50 < s.Jobs.length ∨ 2010 < s.Log.length
noncomputable instance (s : PartState) : Decidable (greatS s) := Classical.propDecidable _
theorem law17_Great_eq (s : PartState) (hl : s.Tasks.length ≤ 4611686018427387904) : law17_Great s = some (decide (greatS s)) := by
  unfold law17_Great
  rw [bnd_eq (law05_Great_eq _ hl)]
  by_cases h1 : GreatP s.Tasks
  · rw [decide_eq_true h1, fk_t]; exact dec_t (.inl h1)
  rw [decide_eq_false h1, fk_f]
  by_cases h2 : 50 < s.Leaves.length
  · rw [decide_eq_true (by omega), fk_t]; exact dec_t (.inr (.inl h2))
  rw [decide_eq_false (by omega), fk_f]
  by_cases h3 : 50 < s.Lasts.length
  · rw [decide_eq_true (by omega), fk_t]; exact dec_t (.inr (.inr (.inl h3)))
  rw [decide_eq_false (by omega), fk_f]
  by_cases h4 : 50 < s.Jobs.length
  · rw [decide_eq_true (by omega), fk_t]; exact dec_t (.inr (.inr (.inr (.inl h4))))
  rw [decide_eq_false (by omega), fk_f]
  exact dec_iff ⟨fun h => .inr (.inr (.inr (.inr (by omega)))), fun h => by rcases h with h | h | h | h | h <;> first | exact (h1 h).elim | omega⟩
theorem SameB.of {s : PartState} (hb : StB s) (hg : ¬ greatS s) : SameB (toR s) := by
  unfold greatS at hg
  refine ⟨hb.t, hb.u, ?_, ?_, ?_, ?_⟩ <;> simp only [toR] <;> omega
theorem AllP_len {l : List Task} (h : AllP l) : l.length ≤ 8 := h.2
theorem SameB.of_st {s : PartState} (hb : StB s) (hs : stP s) : SameB (toR s) := by
  have h1 := hs.1; have h2 := hs.2.1.2.1; have h3 := hs.2.2.1.2.1; have h4 := hs.2.2.2; have h5 := AllP_len hs.2.1.1
  refine ⟨hb.t, hb.u, ?_, ?_, ?_, ?_⟩ <;> simp only [toR] <;> omega
end Go.Proofs.Ytakiggekallckaa
namespace Go.Proofs.Ytakiggekallckaa
open Go Go.VC
noncomputable def ref17_Release (a0 : Ref17State) (a1 : Int) (a2 : Int) (a3 : Int) : Option (Ref17State × Int) :=
  jn (fun (w1 : Bool) => fk w1 (some (⟨a0.Tasks, a0.Leaves, a0.Lasts, a0.Jobs, a0.Log⟩, (1 : Int))) (ix a0.Leaves a1 fun x4 => fk x4 (some (⟨a0.Tasks, a0.Leaves, a0.Lasts, a0.Jobs, a0.Log⟩, (9 : Int))) (bnd (ref16_May a0.Tasks a0.Lasts a1 a3) fun x5 => fk (!decide (x5 = (0 : Int))) (bnd (ref17_noted a0.Log a3 (2 : Int) a1) fun x6 => some (⟨a0.Tasks, a0.Leaves, a0.Lasts, a0.Jobs, x6⟩, (6 : Int))) (fk (decide ((a0.Jobs.length : Int) > (31 : Int))) (bnd (ref17_noted a0.Log a3 (3 : Int) a1) fun x7 => some (⟨a0.Tasks, a0.Leaves, a0.Lasts, a0.Jobs, x7⟩, (3 : Int))) (ck (decide ((([] : List Int).length + a0.Lasts.length) * 8 ≤ 140737488355328)) (ck (decide (0 ≤ a1) && decide (a1 < ((([] : List Int) ++ a0.Lasts).length : Int))) (ox (([] : List Int) ++ a0.Lasts) a1.toNat fun x8 => ck (decide ((([] : List Job).length + a0.Jobs.length) * 48 ≤ 140737488355328)) (ix a0.Tasks a1 fun x9 => ck (decide (((([] : List Job) ++ a0.Jobs).length + ([⟨a1, a3, (wr (a3 + x9.D)), a2, (0 : Int), false⟩] : List Job).length) * 48 ≤ 140737488355328)) (bnd (ref17_noted a0.Log a3 (1 : Int) a1) fun x10 => some (⟨a0.Tasks, a0.Leaves, (([] : List Int) ++ a0.Lasts).set a1.toNat a3, (([] : List Job) ++ a0.Jobs) ++ ([⟨a1, a3, (wr (a3 + x9.D)), a2, (0 : Int), false⟩] : List Job), x10⟩, (0 : Int))))))))))) (fun k1 => bnd (ref17_Right ⟨a0.Tasks, a0.Leaves, a0.Lasts, a0.Jobs, a0.Log⟩) fun x2 => fk (!x2) (k1 true) (fk (decide (a1 < (0 : Int))) (k1 true) (fk (decide (a1 ≥ (a0.Tasks.length : Int))) (k1 true) (fk (decide (a2 < (1 : Int))) (k1 true) (fk (decide (a2 > (200 : Int))) (k1 true) (bnd (ref17_when a3) fun x3 => k1 (!x3)))))))
theorem ref17_Release_w (a0 : Ref17State) (a1 : Int) (a2 : Int) (a3 : Int) (r : Ref17State × Int) (h : ref17_Release a0 a1 a2 a3 = some r) : Go.VC.Spec Try.prog 16 [.agg (Ref17State.enc a0), .d (.int .i64 a1), .d (.int .i64 a2), .d (.int .i64 a3)] (fun y => y = E_Ref17State_Int r) := by
  refine Go.VC.Spec.of_xc (args := [.agg (Ref17State.enc a0), .d (.int .i64 a1), .d (.int .i64 a2), .d (.int .i64 a3)]) (fn := Try.f16) tab ⟨[(0, [1, 2, 3, 4, 8]), (1, [1, 2, 3, 4, 8, 37]), (2, [8, 9]), (3, [1, 2, 3, 4, 8, 43]), (4, [8, 9]), (5, [1, 2, 3, 4, 8, 10]), (6, [1, 2, 3, 4, 8, 10, 53]), (7, [8, 10]), (8, [8, 9]), (9, [1, 2, 3, 4, 8, 10, 64]), (10, [8, 10]), (11, [8, 9]), (12, [1, 2, 3, 4, 8, 10]), (13, [1, 2, 3, 4, 8, 10]), (14, [1, 3, 4, 8, 10]), (15, [8, 10]), (16, [8, 9])], [], [100037], []⟩ 108 [.cell 8 34, .tmp 9] rfl rfl rfl rfl rfl rfl ?_
  conv => whnf
  refine jnS (fun w1 => ⟨[(1, .l (.d (.int .i64 a1))), (2, .l (.d (.int .i64 a2))), (3, .l (.d (.int .i64 a3))), (4, .l (.ptr 5 0)), (8, .l (.ptr 9 0)), (37, .l (.d (.bool w1)))], 108, [], [(5, [.d (.sl (a0.Tasks.map Task.enc)), .d (.sl (a0.Leaves.map eB)), .d (.sl (a0.Lasts.map (eI .i64))), .d (.sl (a0.Jobs.map Job.enc)), .d (.sl (a0.Log.map Entry.enc))]), (9, [.nil, .nil, .nil, .nil, .nil])], []⟩) h (fun k1 hk1 h => ?_) (fun w1 h => ?_)
  · conv => whnf
    refine caS (E := E_Bool) h (ref17_Right_w ⟨a0.Tasks, a0.Leaves, a0.Lasts, a0.Jobs, a0.Log⟩) rfl (fun _ => rfl) (fun x2 h => ?_)
    conv => whnf
    refine fkS h (fun h => ?_) (fun h => ?_)
    · conv => whnf
      exact jeS hk1 h (Weak.refl _)
    conv => whnf
    refine fkS h (fun h => ?_) (fun h => ?_)
    · conv => whnf
      exact jeS hk1 h (Weak.refl _)
    conv => whnf
    refine lenS a0.Tasks Task.enc rfl ?_
    conv => whnf
    refine fkS h (fun h => ?_) (fun h => ?_)
    · conv => whnf
      exact jeS hk1 h (Weak.refl _)
    conv => whnf
    refine fkS h (fun h => ?_) (fun h => ?_)
    · conv => whnf
      exact jeS hk1 h (Weak.refl _)
    conv => whnf
    refine fkS h (fun h => ?_) (fun h => ?_)
    · conv => whnf
      exact jeS hk1 h (Weak.refl _)
    conv => whnf
    refine caS (E := E_Bool) h (ref17_when_w a3) rfl (fun _ => rfl) (fun x3 h => ?_)
    conv => whnf
    exact jeS hk1 h (Weak.refl _)
  conv => whnf
  refine fkS h (fun h => ?_) (fun h => ?_)
  · conv => whnf
    exact rt (E := E_Ref17State_Int) h rfl
  conv => whnf
  refine ixS (enc := eB) h rfl (fun _ => rfl) (fun x4 h => ?_)
  conv => whnf
  refine fkS h (fun h => ?_) (fun h => ?_)
  · conv => whnf
    exact rt (E := E_Ref17State_Int) h rfl
  conv => whnf
  refine caS (E := E_Int) h (ref16_May_w a0.Tasks a0.Lasts a1 a3) rfl (fun _ => rfl) (fun x5 h => ?_)
  conv => whnf
  refine fkS h (fun h => ?_) (fun h => ?_)
  · conv => whnf
    refine ccS (E := E_ListEntry) h (ref17_noted_w a0.Log a3 (2 : Int) a1) rfl rfl (fun x6 h => ?_)
    conv => whnf
    exact rt (E := E_Ref17State_Int) h rfl
  conv => whnf
  refine lenS a0.Jobs Job.enc rfl ?_
  conv => whnf
  refine fkS h (fun h => ?_) (fun h => ?_)
  · conv => whnf
    refine ccS (E := E_ListEntry) h (ref17_noted_w a0.Log a3 (3 : Int) a1) rfl rfl (fun x7 h => ?_)
    conv => whnf
    exact rt (E := E_Ref17State_Int) h rfl
  conv => whnf
  refine liS ([] : List Int) (eI .i64) rfl rfl ?_
  conv => whnf
  refine apS (enc := (eI .i64)) (l1 := ([] : List Int)) (l2 := a0.Lasts) h rfl rfl (fun _ => rfl) (fun h => ?_)
  conv => whnf
  refine ioS (enc := (eI .i64)) h rfl (fun h => ?_)
  conv => whnf
  refine seS (enc := (eI .i64)) h rfl (fun x8 => a3) (fun _ => rfl) (fun x8 h => ?_)
  conv => whnf
  refine ⟨17, ?_⟩
  conv => whnf
  refine liS ([] : List Job) Job.enc rfl rfl ?_
  conv => whnf
  refine apS (enc := Job.enc) (l1 := ([] : List Job)) (l2 := a0.Jobs) h rfl rfl (fun _ => rfl) (fun h => ?_)
  conv => whnf
  refine ixS (enc := Task.enc) h rfl (fun _ => rfl) (fun x9 h => ?_)
  conv => whnf
  refine liS ([⟨a1, a3, (wr (a3 + x9.D)), a2, (0 : Int), false⟩] : List Job) Job.enc rfl rfl ?_
  conv => whnf
  refine drS (by kernel_rfl) ?_
  conv => whnf
  refine apS (enc := Job.enc) (l1 := ([] : List Job) ++ a0.Jobs) (l2 := ([⟨a1, a3, (wr (a3 + x9.D)), a2, (0 : Int), false⟩] : List Job)) h rfl rfl (fun _ => rfl) (fun h => ?_)
  conv => whnf
  refine ccS (E := E_ListEntry) h (ref17_noted_w a0.Log a3 (1 : Int) a1) rfl rfl (fun x10 h => ?_)
  conv => whnf
  exact rt (E := E_Ref17State_Int) h rfl

end Go.Proofs.Ytakiggekallckaa
namespace Go.Proofs.Ytakiggekallckaa
open Go Go.VC
noncomputable def part_Release (a0 : PartState) (a1 : Int) (a2 : Int) (a3 : Int) : Option (PartState × Int) :=
  jn (fun (w1 : Bool) => fk w1 (some (a0, (1 : Int))) (ix a0.Leaves a1 fun x4 => fk x4 (some (a0, (9 : Int))) (ck (decide ((([] : List Entry).length + a0.Log.length) * 24 ≤ 140737488355328)) (bnd (police_Note a0.Tasks a0.Lasts a1 a3) fun x5 => fk (!decide (x5.2 = (0 : Int))) (fk (decide (((([] : List Entry) ++ a0.Log).length : Int) < (2000 : Int))) (ck (decide (((([] : List Entry) ++ a0.Log).length + ([⟨a3, (2 : Int), a1⟩] : List Entry).length) * 24 ≤ 140737488355328)) (some (⟨a0.Tasks, a0.Leaves, a0.Lasts, a0.Jobs, (([] : List Entry) ++ a0.Log) ++ ([⟨a3, (2 : Int), a1⟩] : List Entry)⟩, x5.2))) (some (⟨a0.Tasks, a0.Leaves, a0.Lasts, a0.Jobs, ([] : List Entry) ++ a0.Log⟩, x5.2))) (fk (decide ((a0.Jobs.length : Int) ≥ (32 : Int))) (fk (decide (((([] : List Entry) ++ a0.Log).length : Int) < (2000 : Int))) (ck (decide (((([] : List Entry) ++ a0.Log).length + ([⟨a3, (3 : Int), a1⟩] : List Entry).length) * 24 ≤ 140737488355328)) (some (⟨a0.Tasks, a0.Leaves, a0.Lasts, a0.Jobs, (([] : List Entry) ++ a0.Log) ++ ([⟨a3, (3 : Int), a1⟩] : List Entry)⟩, (3 : Int)))) (some (⟨a0.Tasks, a0.Leaves, a0.Lasts, a0.Jobs, ([] : List Entry) ++ a0.Log⟩, (3 : Int)))) (ck (decide ((([] : List Job).length + a0.Jobs.length) * 48 ≤ 140737488355328)) (ix a0.Tasks a1 fun x6 => ck (decide (((([] : List Job) ++ a0.Jobs).length + ([⟨a1, a3, (wr (a3 + x6.D)), a2, (0 : Int), false⟩] : List Job).length) * 48 ≤ 140737488355328)) (fk (decide (((([] : List Entry) ++ a0.Log).length : Int) < (2000 : Int))) (ck (decide (((([] : List Entry) ++ a0.Log).length + ([⟨a3, (1 : Int), a1⟩] : List Entry).length) * 24 ≤ 140737488355328)) (some (⟨a0.Tasks, a0.Leaves, x5.1, (([] : List Job) ++ a0.Jobs) ++ ([⟨a1, a3, (wr (a3 + x6.D)), a2, (0 : Int), false⟩] : List Job), (([] : List Entry) ++ a0.Log) ++ ([⟨a3, (1 : Int), a1⟩] : List Entry)⟩, (0 : Int)))) (some (⟨a0.Tasks, a0.Leaves, x5.1, (([] : List Job) ++ a0.Jobs) ++ ([⟨a1, a3, (wr (a3 + x6.D)), a2, (0 : Int), false⟩] : List Job), ([] : List Entry) ++ a0.Log⟩, (0 : Int))))))))))) (fun k1 => bnd (part_Right a0) fun x2 => fk (!x2) (k1 true) (fk (decide (a1 < (0 : Int))) (k1 true) (fk (decide (a1 ≥ (a0.Tasks.length : Int))) (k1 true) (fk (decide (a2 < (1 : Int))) (k1 true) (fk (decide (a2 > (200 : Int))) (k1 true) (bnd (part_when a3) fun x3 => k1 (!x3)))))))
theorem part_Release_w (a0 : PartState) (a1 : Int) (a2 : Int) (a3 : Int) (r : PartState × Int) (h : part_Release a0 a1 a2 a3 = some r) : Go.VC.Spec Try.prog 15 [.agg (PartState.enc a0), .d (.int .i64 a1), .d (.int .i64 a2), .d (.int .i64 a3)] (fun y => y = E_PartState_Int r) := by
  refine Go.VC.Spec.of_xc (args := [.agg (PartState.enc a0), .d (.int .i64 a1), .d (.int .i64 a2), .d (.int .i64 a3)]) (fn := Try.f15) tab ⟨[(0, [1, 2, 3, 4, 8]), (1, [1, 2, 3, 4, 8, 13]), (2, [8, 9]), (3, [1, 2, 3, 4, 8, 42]), (4, [8, 9]), (5, [1, 2, 3, 4, 8, 10]), (6, [1, 2, 3, 4, 8, 10, 11, 12]), (7, [1, 2, 3, 4, 8, 10, 11, 12, 62]), (8, [8, 10, 12]), (9, [8, 9]), (10, [1, 2, 3, 4, 8, 10, 11, 73]), (11, [8, 10]), (12, [8, 9]), (13, [1, 2, 3, 4, 8, 10]), (14, [1, 8, 10]), (15, [8, 10]), (16, [8, 9])], [], [100013], []⟩ 119 [.cell 8 28, .tmp 9] rfl rfl rfl rfl rfl rfl ?_
  conv => whnf
  refine jnS (fun w1 => ⟨[(1, .l (.d (.int .i64 a1))), (2, .l (.d (.int .i64 a2))), (3, .l (.d (.int .i64 a3))), (4, .l (.ptr 5 0)), (8, .l (.ptr 9 0)), (13, .l (.d (.bool w1)))], 119, [], [(5, [.d (.sl (a0.Tasks.map Task.enc)), .d (.sl (a0.Leaves.map eB)), .d (.sl (a0.Lasts.map (eI .i64))), .d (.sl (a0.Jobs.map Job.enc)), .d (.sl (a0.Log.map Entry.enc))]), (9, [.nil, .nil, .nil, .nil, .nil])], []⟩) h (fun k1 hk1 h => ?_) (fun w1 h => ?_)
  · conv => whnf
    refine caS (E := E_Bool) h (part_Right_w a0) rfl (fun _ => rfl) (fun x2 h => ?_)
    conv => whnf
    refine fkS h (fun h => ?_) (fun h => ?_)
    · conv => whnf
      exact jeS hk1 h (Weak.refl _)
    conv => whnf
    refine fkS h (fun h => ?_) (fun h => ?_)
    · conv => whnf
      exact jeS hk1 h (Weak.refl _)
    conv => whnf
    refine lenS a0.Tasks Task.enc rfl ?_
    conv => whnf
    refine fkS h (fun h => ?_) (fun h => ?_)
    · conv => whnf
      exact jeS hk1 h (Weak.refl _)
    conv => whnf
    refine fkS h (fun h => ?_) (fun h => ?_)
    · conv => whnf
      exact jeS hk1 h (Weak.refl _)
    conv => whnf
    refine fkS h (fun h => ?_) (fun h => ?_)
    · conv => whnf
      exact jeS hk1 h (Weak.refl _)
    conv => whnf
    refine caS (E := E_Bool) h (part_when_w a3) rfl (fun _ => rfl) (fun x3 h => ?_)
    conv => whnf
    exact jeS hk1 h (Weak.refl _)
  conv => whnf
  refine fkS h (fun h => ?_) (fun h => ?_)
  · conv => whnf
    exact rt (E := E_PartState_Int) h rfl
  conv => whnf
  refine ixS (enc := eB) h rfl (fun _ => rfl) (fun x4 h => ?_)
  conv => whnf
  refine fkS h (fun h => ?_) (fun h => ?_)
  · conv => whnf
    exact rt (E := E_PartState_Int) h rfl
  conv => whnf
  refine inS (fn := Try.f44) tab ⟨[(0, [1, 2]), (1, [4])], [], [], []⟩ 14 [.tmp 4] rfl rfl rfl rfl rfl rfl ?_
  conv => whnf
  refine ⟨7, ?_⟩
  conv => whnf
  refine liS ([] : List Entry) Entry.enc rfl rfl ?_
  conv => whnf
  refine apS (enc := Entry.enc) (l1 := ([] : List Entry)) (l2 := a0.Log) h rfl rfl (fun _ => rfl) (fun h => ?_)
  conv => whnf
  refine drS (by kernel_rfl) ?_
  conv => whnf
  refine ccS (E := E_ListInt_Int) h (police_Note_w a0.Tasks a0.Lasts a1 a3) rfl rfl (fun x5 h => ?_)
  conv => whnf
  refine fkS h (fun h => ?_) (fun h => ?_)
  · conv => whnf
    refine inS (fn := Try.f46) tab ⟨[(0, [0, 1, 2, 11]), (1, [])], [], [], []⟩ 28 [] rfl rfl rfl rfl rfl rfl ?_
    conv => whnf
    refine lenS (([] : List Entry) ++ a0.Log) Entry.enc rfl ?_
    conv => whnf
    refine fkS h (fun h => ?_) (fun h => ?_)
    · conv => whnf
      refine ⟨14, ?_⟩
      conv => whnf
      refine liS ([⟨a3, (2 : Int), a1⟩] : List Entry) Entry.enc rfl rfl ?_
      conv => whnf
      refine apS (enc := Entry.enc) (l1 := ([] : List Entry) ++ a0.Log) (l2 := ([⟨a3, (2 : Int), a1⟩] : List Entry)) h rfl rfl (fun _ => rfl) (fun h => ?_)
      conv => whnf
      refine drS (by kernel_rfl) ?_
      conv => whnf
      refine inS (fn := Try.f47) tab ⟨[(0, [0, 2]), (1, [0, 2]), (2, [2])], [], [], []⟩ 16 [.cell 2 28] rfl rfl rfl rfl rfl rfl ?_
      conv => whnf
      exact rt (E := E_PartState_Int) h rfl
    conv => whnf
    refine inS (fn := Try.f47) tab ⟨[(0, [0, 2]), (1, [0, 2]), (2, [2])], [], [], []⟩ 16 [.cell 2 28] rfl rfl rfl rfl rfl rfl ?_
    conv => whnf
    exact rt (E := E_PartState_Int) h rfl
  conv => whnf
  refine lenS a0.Jobs Job.enc rfl ?_
  conv => whnf
  refine fkS h (fun h => ?_) (fun h => ?_)
  · conv => whnf
    refine inS (fn := Try.f46) tab ⟨[(0, [0, 1, 2, 11]), (1, [])], [], [], []⟩ 28 [] rfl rfl rfl rfl rfl rfl ?_
    conv => whnf
    refine lenS (([] : List Entry) ++ a0.Log) Entry.enc rfl ?_
    conv => whnf
    refine fkS h (fun h => ?_) (fun h => ?_)
    · conv => whnf
      refine ⟨14, ?_⟩
      conv => whnf
      refine liS ([⟨a3, (3 : Int), a1⟩] : List Entry) Entry.enc rfl rfl ?_
      conv => whnf
      refine apS (enc := Entry.enc) (l1 := ([] : List Entry) ++ a0.Log) (l2 := ([⟨a3, (3 : Int), a1⟩] : List Entry)) h rfl rfl (fun _ => rfl) (fun h => ?_)
      conv => whnf
      refine drS (by kernel_rfl) ?_
      conv => whnf
      refine inS (fn := Try.f47) tab ⟨[(0, [0, 2]), (1, [0, 2]), (2, [2])], [], [], []⟩ 16 [.cell 2 28] rfl rfl rfl rfl rfl rfl ?_
      conv => whnf
      exact rt (E := E_PartState_Int) h rfl
    conv => whnf
    refine inS (fn := Try.f47) tab ⟨[(0, [0, 2]), (1, [0, 2]), (2, [2])], [], [], []⟩ 16 [.cell 2 28] rfl rfl rfl rfl rfl rfl ?_
    conv => whnf
    exact rt (E := E_PartState_Int) h rfl
  conv => whnf
  refine ⟨19, ?_⟩
  conv => whnf
  refine liS ([] : List Job) Job.enc rfl rfl ?_
  conv => whnf
  refine apS (enc := Job.enc) (l1 := ([] : List Job)) (l2 := a0.Jobs) h rfl rfl (fun _ => rfl) (fun h => ?_)
  conv => whnf
  refine ixS (enc := Task.enc) h rfl (fun _ => rfl) (fun x6 h => ?_)
  conv => whnf
  refine liS ([⟨a1, a3, (wr (a3 + x6.D)), a2, (0 : Int), false⟩] : List Job) Job.enc rfl rfl ?_
  conv => whnf
  refine apS (enc := Job.enc) (l1 := ([] : List Job) ++ a0.Jobs) (l2 := ([⟨a1, a3, (wr (a3 + x6.D)), a2, (0 : Int), false⟩] : List Job)) h rfl rfl (fun _ => rfl) (fun h => ?_)
  conv => whnf
  refine drS (by kernel_rfl) ?_
  conv => whnf
  refine inS (fn := Try.f46) tab ⟨[(0, [0, 1, 2, 11]), (1, [])], [], [], []⟩ 28 [] rfl rfl rfl rfl rfl rfl ?_
  conv => whnf
  refine lenS (([] : List Entry) ++ a0.Log) Entry.enc rfl ?_
  conv => whnf
  refine fkS h (fun h => ?_) (fun h => ?_)
  · conv => whnf
    refine ⟨14, ?_⟩
    conv => whnf
    refine liS ([⟨a3, (1 : Int), a1⟩] : List Entry) Entry.enc rfl rfl ?_
    conv => whnf
    refine apS (enc := Entry.enc) (l1 := ([] : List Entry) ++ a0.Log) (l2 := ([⟨a3, (1 : Int), a1⟩] : List Entry)) h rfl rfl (fun _ => rfl) (fun h => ?_)
    conv => whnf
    refine drS (by kernel_rfl) ?_
    conv => whnf
    refine inS (fn := Try.f47) tab ⟨[(0, [0, 2]), (1, [0, 2]), (2, [2])], [], [], []⟩ 16 [.cell 2 28] rfl rfl rfl rfl rfl rfl ?_
    conv => whnf
    exact rt (E := E_PartState_Int) h rfl
  conv => whnf
  refine inS (fn := Try.f47) tab ⟨[(0, [0, 2]), (1, [0, 2]), (2, [2])], [], [], []⟩ 16 [.cell 2 28] rfl rfl rfl rfl rfl rfl ?_
  conv => whnf
  exact rt (E := E_PartState_Int) h rfl

end Go.Proofs.Ytakiggekallckaa
namespace Go.Proofs.Ytakiggekallckaa
open Go Go.VC
/-! A release. -/
def relArg (s : PartState) (i w t : Int) : Prop := stP s ∧ 0 ≤ i ∧ i < (s.Tasks.length : Int) ∧ 1 ≤ w ∧ w ≤ 200 ∧ whenP t
noncomputable instance (s : PartState) (i w t : Int) : Decidable (relArg s i w t) := Classical.propDecidable _
def tD (l : List Task) (i : Int) : Int := match l[i.toNat]? with | some t => t.D | none => 0
def newJob (l : List Task) (i w t : Int) : Job := ⟨i, t, t + tD l i, w, 0, false⟩
noncomputable def relV (s : PartState) (i w t : Int) : PartState × Int :=
  if relArg s i w t then
    if (s.Leaves[i.toNat]?).getD false = true then (s, 9)
    else if mayV s.Tasks s.Lasts i t = 0 then
      if s.Jobs.length < 32 then (⟨s.Tasks, s.Leaves, s.Lasts.set i.toNat t, s.Jobs ++ [newJob s.Tasks i w t], nt s.Log ⟨t, 1, i⟩⟩, 0)
      else (⟨s.Tasks, s.Leaves, s.Lasts, s.Jobs, nt s.Log ⟨t, 3, i⟩⟩, 3)
    else (⟨s.Tasks, s.Leaves, s.Lasts, s.Jobs, nt s.Log ⟨t, 2, i⟩⟩, 6)
  else (s, 1)
theorem relArg_arg {s : PartState} {i w t : Int} (h : relArg s i w t) : argP s.Tasks s.Lasts i t := ⟨h.1.2.1, h.2.1, h.2.2.1, h.2.2.2.2.2.1, h.2.2.2.2.2.2⟩
theorem mayV_06 {l : List Task} {ls : List Int} {i t : Int} (h : argP l ls i t) : mayV l ls i t = 0 ∨ mayV l ls i t = 6 := by
  unfold mayV; rw [if_pos h]; split
  · exact .inr rfl
  · exact .inl rfl
theorem tD_lt {l : List Task} {i : Int} (h : i.toNat < l.length) : tD l i = l[i.toNat].D := by unfold tD; rw [List.getElem?_eq_getElem h]
theorem tD_b {l : List Task} (ha : AllP l) {i : Int} (h : i.toNat < l.length) : 1 ≤ tD l i ∧ tD l i ≤ 200 := by
  rw [tD_lt h]
  have := (ha.1 _ (List.getElem_mem h)).1
  unfold ownP at this
  omega
theorem ref17_Release_eq (s : PartState) (i w t : Int) (hb : StB s) : ref17_Release (toR s) i w t = some (toR (relV s i w t).1, (relV s i w t).2) := by
  unfold ref17_Release
  simp only [jn_eq]
  rw [bnd_eq (ref17_Right_eq s hb)]
  unfold toR
  dsimp only
  by_cases h1 : stP s
  rotate_left
  · rw [decide_eq_false h1, Bool.not_false, fk_t, fk_t, relV, if_neg (fun h => h1 h.1)]
  rw [decide_eq_true h1, Bool.not_true, fk_f]
  by_cases h2 : 0 ≤ i
  rotate_left
  · rw [decide_eq_true (by omega), fk_t, fk_t, relV, if_neg (fun h => h2 h.2.1)]
  rw [decide_eq_false (by omega), fk_f]
  by_cases h3 : i < (s.Tasks.length : Int)
  rotate_left
  · rw [decide_eq_true (by omega), fk_t, fk_t, relV, if_neg (fun h => h3 h.2.2.1)]
  rw [decide_eq_false (by omega), fk_f]
  by_cases h4 : 1 ≤ w
  rotate_left
  · rw [decide_eq_true (by omega), fk_t, fk_t, relV, if_neg (fun h => h4 h.2.2.2.1)]
  rw [decide_eq_false (by omega), fk_f]
  by_cases h5 : w ≤ 200
  rotate_left
  · rw [decide_eq_true (by omega), fk_t, fk_t, relV, if_neg (fun h => h5 h.2.2.2.2.1)]
  rw [decide_eq_false (by omega), fk_f, bnd_eq (ref17_when_eq t)]
  by_cases h6 : whenP t
  rotate_left
  · rw [decide_eq_false h6, Bool.not_false, fk_t, relV, if_neg (fun h => h6 h.2.2.2.2.2)]
  have hA : relArg s i w t := ⟨h1, h2, h3, h4, h5, h6⟩
  have hLl := h1.1
  have hLs := h1.2.1.2.1
  have hT8 := AllP_len h1.2.1.1
  have hi : i.toNat < s.Tasks.length := by omega
  have hiL : i.toNat < s.Leaves.length := by omega
  have hiA : i.toNat < s.Lasts.length := by omega
  have hJ := h1.2.2.1.2.1
  have hG := h1.2.2.2
  rw [decide_eq_true h6, Bool.not_true, fk_f, ix_int h2 hiL]
  have eL : (s.Leaves[i.toNat]?).getD false = s.Leaves[i.toNat] := by rw [List.getElem?_eq_getElem hiL]; rfl
  by_cases h7 : s.Leaves[i.toNat] = true
  · rw [h7, fk_t, relV, if_pos hA, eL, if_pos h7]
  rw [Bool.eq_false_iff.2 h7, fk_f, bnd_eq (ref16_May_eq _ _ _ _ hb.t hb.u hb.a), relV, if_pos hA, eL, if_neg h7]
  by_cases h8 : mayV s.Tasks s.Lasts i t = 0
  rotate_left
  · rw [decide_eq_false h8, Bool.not_false, fk_t, bnd_eq (ref17_noted_eq _ _ _ _), if_neg h8]
  rw [decide_eq_true h8, Bool.not_true, fk_f, if_pos h8]
  by_cases h9 : s.Jobs.length < 32
  rotate_left
  · rw [decide_eq_true (by omega), fk_t, bnd_eq (ref17_noted_eq _ _ _ _), if_neg h9]
  have hD := tD_b h1.2.1.1 hi
  have hw := h6
  unfold whenP at hw
  rw [decide_eq_false (by omega), fk_f, if_pos h9, ck_t (by simp; omega), List.nil_append, ck_t (by simp; omega), ox_lt hiA, ck_t (by simp; omega), List.nil_append, ix_int h2 hi, ck_t (by simp; omega), bnd_eq (ref17_noted_eq _ _ _ _), ← tD_lt hi, wr_in _ (by omega)]
  rfl
theorem part_Release_eq (s : PartState) (i w t : Int) (hb : StB s) : part_Release s i w t = some (relV s i w t) := by
  unfold part_Release
  simp only [jn_eq]
  rw [bnd_eq (part_Right_eq s hb)]
  by_cases h1 : stP s
  rotate_left
  · rw [decide_eq_false h1, Bool.not_false, fk_t, fk_t, relV, if_neg (fun h => h1 h.1)]
  rw [decide_eq_true h1, Bool.not_true, fk_f]
  by_cases h2 : 0 ≤ i
  rotate_left
  · rw [decide_eq_true (by omega), fk_t, fk_t, relV, if_neg (fun h => h2 h.2.1)]
  rw [decide_eq_false (by omega), fk_f]
  by_cases h3 : i < (s.Tasks.length : Int)
  rotate_left
  · rw [decide_eq_true (by omega), fk_t, fk_t, relV, if_neg (fun h => h3 h.2.2.1)]
  rw [decide_eq_false (by omega), fk_f]
  by_cases h4 : 1 ≤ w
  rotate_left
  · rw [decide_eq_true (by omega), fk_t, fk_t, relV, if_neg (fun h => h4 h.2.2.2.1)]
  rw [decide_eq_false (by omega), fk_f]
  by_cases h5 : w ≤ 200
  rotate_left
  · rw [decide_eq_true (by omega), fk_t, fk_t, relV, if_neg (fun h => h5 h.2.2.2.2.1)]
  rw [decide_eq_false (by omega), fk_f, bnd_eq (part_when_eq t)]
  by_cases h6 : whenP t
  rotate_left
  · rw [decide_eq_false h6, Bool.not_false, fk_t, relV, if_neg (fun h => h6 h.2.2.2.2.2)]
  have hA : relArg s i w t := ⟨h1, h2, h3, h4, h5, h6⟩
  have hLl := h1.1
  have hLs := h1.2.1.2.1
  have hT8 := AllP_len h1.2.1.1
  have hi : i.toNat < s.Tasks.length := by omega
  have hiL : i.toNat < s.Leaves.length := by omega
  have hiA : i.toNat < s.Lasts.length := by omega
  have hJ := h1.2.2.1.2.1
  have hG := h1.2.2.2
  rw [decide_eq_true h6, Bool.not_true, fk_f, ix_int h2 hiL]
  have eL : (s.Leaves[i.toNat]?).getD false = s.Leaves[i.toNat] := by rw [List.getElem?_eq_getElem hiL]; rfl
  by_cases h7 : s.Leaves[i.toNat] = true
  · rw [h7, fk_t, relV, if_pos hA, eL, if_pos h7]
  rw [Bool.eq_false_iff.2 h7, fk_f, ck_t (by simp; omega), bnd_eq (police_Note_eq _ _ _ _ hb.t (by omega)), relV, if_pos hA, eL, if_neg h7, List.nil_append]
  dsimp only
  by_cases h8 : mayV s.Tasks s.Lasts i t = 0
  rotate_left
  · have h86 : mayV s.Tasks s.Lasts i t = 6 := (mayV_06 (relArg_arg hA)).resolve_left h8
    rw [decide_eq_false h8, Bool.not_false, fk_t, if_neg h8, h86]
    exact nt_fk s.Log ⟨t, 2, i⟩ (fun lg => some ((⟨s.Tasks, s.Leaves, s.Lasts, s.Jobs, lg⟩ : PartState), (6 : Int)))
  rw [decide_eq_true h8, Bool.not_true, fk_f, if_pos h8]
  by_cases h9 : s.Jobs.length < 32
  rotate_left
  · rw [decide_eq_true (by omega), fk_t, if_neg h9]
    exact nt_fk s.Log ⟨t, 3, i⟩ (fun lg => some ((⟨s.Tasks, s.Leaves, s.Lasts, s.Jobs, lg⟩ : PartState), (3 : Int)))
  have hD := tD_b h1.2.1.1 hi
  have hw := h6
  unfold whenP at hw
  rw [decide_eq_false (by omega), fk_f, if_pos h9, ck_t (by simp; omega), List.nil_append, ix_int h2 hi, ck_t (by simp; omega), ← tD_lt hi, wr_in _ (by omega)]
  have eN : noteL s.Tasks s.Lasts i t = s.Lasts.set i.toNat t := by unfold noteL; rw [if_pos h8]
  rw [eN]
  exact nt_fk s.Log ⟨t, 1, i⟩ (fun lg => some ((⟨s.Tasks, s.Leaves, s.Lasts.set i.toNat t, s.Jobs ++ [newJob s.Tasks i w t], lg⟩ : PartState), (0 : Int)))
def atP (ls : List Int) (js : List Job) : Prop := ∀ j ∈ js, j.At ≤ lg ls j.Task
theorem lg_set {ls : List Int} {i t j : Int} (hi : 0 ≤ i) (hj : 0 ≤ j) (hjl : j.toNat < ls.length) : lg (ls.set i.toNat t) j = if i = j then t else lg ls j := by
  unfold lg
  by_cases c : i = j
  · subst c; rw [List.getElem?_set_self hjl, if_pos rfl]; rfl
  · rw [List.getElem?_set_ne (by omega), if_neg c]
theorem stP_rel {s : PartState} {i w t : Int} (h : stP s) (hat : atP s.Lasts s.Jobs) : stP (relV s i w t).1 ∧ atP (relV s i w t).1.Lasts (relV s i w t).1.Jobs := by
  unfold relV
  split
  rotate_left
  · exact ⟨h, hat⟩
  rename_i hA
  split
  · exact ⟨h, hat⟩
  split
  rotate_left
  · exact ⟨⟨h.1, h.2.1, h.2.2.1, nt_len h.2.2.2⟩, hat⟩
  rename_i h8
  split
  rotate_left
  · exact ⟨⟨h.1, h.2.1, h.2.2.1, nt_len h.2.2.2⟩, hat⟩
  rename_i h9
  have hn := lastsP_note h.2.1 i t
  have eN : noteL s.Tasks s.Lasts i t = s.Lasts.set i.toNat t := by unfold noteL; rw [if_pos h8]
  rw [eN] at hn
  have hls := h.2.1.2.1
  have hlt : ∀ j ∈ s.Jobs, j.Task = i → j.At < t := by
    intro j hj e
    have h1 := hat j hj
    have h2 := (h.2.2.1.2.2.1 j hj).2.1
    have hT := argP_b (relArg_arg hA)
    unfold mayV at h8
    rw [if_pos (relArg_arg hA)] at h8
    by_cases c : lg s.Lasts i ≠ -1 ∧ t < lg s.Lasts i + tT s.Tasks i
    · rw [if_pos c] at h8; omega
    rw [e] at h1
    omega
  have hAt : atP (s.Lasts.set i.toNat t) (s.Jobs ++ [newJob s.Tasks i w t]) := by
    intro j hj
    have h2 := hA.2.1
    have h3 := hA.2.2.1
    rcases List.mem_append.1 hj with hj | hj
    · obtain ⟨t0, _, _, t3, _⟩ := h.2.2.1.2.2.1 j hj
      rw [lg_set h2 t0 (by omega)]
      split
      · have := hlt j hj (by omega); omega
      · exact hat j hj
    · obtain rfl := List.mem_singleton.1 hj
      show t ≤ lg (s.Lasts.set i.toNat t) i
      rw [lg_set h2 h2 (by omega), if_pos rfl]; exact Int.le_refl _
  refine ⟨⟨h.1, hn, ?_, nt_len h.2.2.2⟩, hAt⟩
  obtain ⟨p1, p2, p3, p4⟩ := h.2.2.1
  have hi : i.toNat < s.Tasks.length := by have := hA.2.1; have := hA.2.2.1; omega
  have hC := (p1.1 _ (List.getElem_mem hi)).1
  unfold ownP at hC
  have hD := tD_b p1 hi
  have hw := hA.2.2.2.2.2
  unfold whenP at hw
  refine ⟨p1, by rw [List.length_append]; simp; omega, ?_, ?_⟩
  · intro j hj
    rcases List.mem_append.1 hj with hj | hj
    · exact p3 j hj
    · obtain rfl := List.mem_singleton.1 hj
      refine ⟨hA.2.1, hw.1, hw.2, hi, ?_⟩
      unfold newJob bodyP
      rw [tD_lt hi]
      have hw1 := hA.2.2.2.1
      have hw2 := hA.2.2.2.2.1
      refine ⟨rfl, hw1, hw2, Int.le_refl _, by show (0 : Int) < w; omega, ?_, .inr rfl⟩
      show (0 : Int) < s.Tasks[i.toNat].C
      omega
  · refine List.pairwise_append.2 ⟨p4, List.pairwise_singleton _ _, fun a ha b hb => ?_⟩
    obtain rfl := List.mem_singleton.1 hb
    intro ⟨e1, e2⟩
    have := hlt a ha e1
    have e3 : a.At = t := e2
    omega
end Go.Proofs.Ytakiggekallckaa
namespace Go.Proofs.Ytakiggekallckaa
open Go Go.VC
noncomputable def part_without_api_Task (a0 : List Task) (a1 : Int) : Option (List Task) :=
  ck (decide ((0 : Int) ≤ (0 : Int)) && decide ((0 : Int) ≤ a1) && decide (a1 ≤ (a0.length : Int))) (ck (decide ((([] : List Task).length + ((a0.take a1.toNat).drop (0 : Int).toNat).length) * 48 ≤ 140737488355328)) (ck (decide ((0 : Int) ≤ (wr (a1 + (1 : Int)))) && decide ((wr (a1 + (1 : Int))) ≤ (a0.length : Int)) && decide ((a0.length : Int) ≤ (a0.length : Int))) (ck (decide (((([] : List Task) ++ ((a0.take a1.toNat).drop (0 : Int).toNat)).length + ((a0.take (a0.length : Int).toNat).drop (wr (a1 + (1 : Int))).toNat).length) * 48 ≤ 140737488355328)) (some ((([] : List Task) ++ ((a0.take a1.toNat).drop (0 : Int).toNat)) ++ ((a0.take (a0.length : Int).toNat).drop (wr (a1 + (1 : Int))).toNat))))))
theorem part_without_api_Task_w (a0 : List Task) (a1 : Int) (r : List Task) (h : part_without_api_Task a0 a1 = some r) : Go.VC.Spec Try.prog 79 [.d (.sl (a0.map Task.enc)), .d (.int .i64 a1)] (fun y => y = E_ListTask r) := by
  refine Go.VC.Spec.of_xc (args := [.d (.sl (a0.map Task.enc)), .d (.int .i64 a1)]) (fn := Try.f79) tab ⟨[(0, [0, 1]), (1, [4])], [], [], []⟩ 15 [.tmp 4] rfl rfl rfl rfl rfl rfl ?_
  conv => whnf
  refine ⟨9, ?_⟩
  conv => whnf
  refine liS ([] : List Task) Task.enc rfl rfl ?_
  conv => whnf
  refine slS (enc := Task.enc) h rfl rfl (.inl rfl) (fun _ => rfl) (fun h => ?_)
  conv => whnf
  refine apS (enc := Task.enc) (l1 := ([] : List Task)) (l2 := (a0.take a1.toNat).drop (0 : Int).toNat) h rfl rfl (fun _ => rfl) (fun h => ?_)
  conv => whnf
  refine slS (enc := Task.enc) h rfl rfl (.inl rfl) (fun _ => rfl) (fun h => ?_)
  conv => whnf
  refine drS (by kernel_rfl) ?_
  conv => whnf
  refine apS (enc := Task.enc) (l1 := ([] : List Task) ++ ((a0.take a1.toNat).drop (0 : Int).toNat)) (l2 := (a0.take (a0.length : Int).toNat).drop (wr (a1 + (1 : Int))).toNat) h rfl rfl (fun _ => rfl) (fun h => ?_)
  conv => whnf
  exact rt (E := E_ListTask) h rfl

end Go.Proofs.Ytakiggekallckaa
namespace Go.Proofs.Ytakiggekallckaa
open Go Go.VC
noncomputable def part_without_bool (a0 : List Bool) (a1 : Int) : Option (List Bool) :=
  ck (decide ((0 : Int) ≤ (0 : Int)) && decide ((0 : Int) ≤ a1) && decide (a1 ≤ (a0.length : Int))) (ck (decide ((([] : List Bool).length + ((a0.take a1.toNat).drop (0 : Int).toNat).length) * 1 ≤ 140737488355328)) (ck (decide ((0 : Int) ≤ (wr (a1 + (1 : Int)))) && decide ((wr (a1 + (1 : Int))) ≤ (a0.length : Int)) && decide ((a0.length : Int) ≤ (a0.length : Int))) (ck (decide (((([] : List Bool) ++ ((a0.take a1.toNat).drop (0 : Int).toNat)).length + ((a0.take (a0.length : Int).toNat).drop (wr (a1 + (1 : Int))).toNat).length) * 1 ≤ 140737488355328)) (some ((([] : List Bool) ++ ((a0.take a1.toNat).drop (0 : Int).toNat)) ++ ((a0.take (a0.length : Int).toNat).drop (wr (a1 + (1 : Int))).toNat))))))
theorem part_without_bool_w (a0 : List Bool) (a1 : Int) (r : List Bool) (h : part_without_bool a0 a1 = some r) : Go.VC.Spec Try.prog 80 [.d (.sl (a0.map eB)), .d (.int .i64 a1)] (fun y => y = E_ListBool r) := by
  refine Go.VC.Spec.of_xc (args := [.d (.sl (a0.map eB)), .d (.int .i64 a1)]) (fn := Try.f80) tab ⟨[(0, [0, 1]), (1, [4])], [], [], []⟩ 15 [.tmp 4] rfl rfl rfl rfl rfl rfl ?_
  conv => whnf
  refine ⟨9, ?_⟩
  conv => whnf
  refine liS ([] : List Bool) eB rfl rfl ?_
  conv => whnf
  refine slS (enc := eB) h rfl rfl (.inl rfl) (fun _ => rfl) (fun h => ?_)
  conv => whnf
  refine apS (enc := eB) (l1 := ([] : List Bool)) (l2 := (a0.take a1.toNat).drop (0 : Int).toNat) h rfl rfl (fun _ => rfl) (fun h => ?_)
  conv => whnf
  refine slS (enc := eB) h rfl rfl (.inl rfl) (fun _ => rfl) (fun h => ?_)
  conv => whnf
  refine drS (by kernel_rfl) ?_
  conv => whnf
  refine apS (enc := eB) (l1 := ([] : List Bool) ++ ((a0.take a1.toNat).drop (0 : Int).toNat)) (l2 := (a0.take (a0.length : Int).toNat).drop (wr (a1 + (1 : Int))).toNat) h rfl rfl (fun _ => rfl) (fun h => ?_)
  conv => whnf
  exact rt (E := E_ListBool) h rfl

end Go.Proofs.Ytakiggekallckaa
namespace Go.Proofs.Ytakiggekallckaa
open Go Go.VC
noncomputable def part_without_int (a0 : List Int) (a1 : Int) : Option (List Int) :=
  ck (decide ((0 : Int) ≤ (0 : Int)) && decide ((0 : Int) ≤ a1) && decide (a1 ≤ (a0.length : Int))) (ck (decide ((([] : List Int).length + ((a0.take a1.toNat).drop (0 : Int).toNat).length) * 8 ≤ 140737488355328)) (ck (decide ((0 : Int) ≤ (wr (a1 + (1 : Int)))) && decide ((wr (a1 + (1 : Int))) ≤ (a0.length : Int)) && decide ((a0.length : Int) ≤ (a0.length : Int))) (ck (decide (((([] : List Int) ++ ((a0.take a1.toNat).drop (0 : Int).toNat)).length + ((a0.take (a0.length : Int).toNat).drop (wr (a1 + (1 : Int))).toNat).length) * 8 ≤ 140737488355328)) (some ((([] : List Int) ++ ((a0.take a1.toNat).drop (0 : Int).toNat)) ++ ((a0.take (a0.length : Int).toNat).drop (wr (a1 + (1 : Int))).toNat))))))
theorem part_without_int_w (a0 : List Int) (a1 : Int) (r : List Int) (h : part_without_int a0 a1 = some r) : Go.VC.Spec Try.prog 81 [.d (.sl (a0.map (eI .i64))), .d (.int .i64 a1)] (fun y => y = E_ListInt r) := by
  refine Go.VC.Spec.of_xc (args := [.d (.sl (a0.map (eI .i64))), .d (.int .i64 a1)]) (fn := Try.f81) tab ⟨[(0, [0, 1]), (1, [4])], [], [], []⟩ 15 [.tmp 4] rfl rfl rfl rfl rfl rfl ?_
  conv => whnf
  refine ⟨9, ?_⟩
  conv => whnf
  refine liS ([] : List Int) (eI .i64) rfl rfl ?_
  conv => whnf
  refine slS (enc := (eI .i64)) h rfl rfl (.inl rfl) (fun _ => rfl) (fun h => ?_)
  conv => whnf
  refine apS (enc := (eI .i64)) (l1 := ([] : List Int)) (l2 := (a0.take a1.toNat).drop (0 : Int).toNat) h rfl rfl (fun _ => rfl) (fun h => ?_)
  conv => whnf
  refine slS (enc := (eI .i64)) h rfl rfl (.inl rfl) (fun _ => rfl) (fun h => ?_)
  conv => whnf
  refine drS (by kernel_rfl) ?_
  conv => whnf
  refine apS (enc := (eI .i64)) (l1 := ([] : List Int) ++ ((a0.take a1.toNat).drop (0 : Int).toNat)) (l2 := (a0.take (a0.length : Int).toNat).drop (wr (a1 + (1 : Int))).toNat) h rfl rfl (fun _ => rfl) (fun h => ?_)
  conv => whnf
  exact rt (E := E_ListInt) h rfl

end Go.Proofs.Ytakiggekallckaa
namespace Go.Proofs.Ytakiggekallckaa
open Go Go.VC
noncomputable def part_Tick (a0 : PartState) (a1 : Bool) (a2 : Int) : Option (PartState × Int × Int) :=
  jn (fun (w1 : Bool) => fk w1 (some (a0, (-1 : Int), (1 : Int))) (ck (decide ((([] : List Entry).length + a0.Log.length) * 24 ≤ 140737488355328)) (lp (fun nx4 (v4 : (List Job) × (List Entry) × Int) => fk (decide (v4.2.2 < (a0.Jobs.length : Int))) (jn (fun (w5 : (List Job) × (List Entry)) => nx4 (w5.1, w5.2, (wr (v4.2.2 + (1 : Int))))) (fun k5 => ix a0.Jobs v4.2.2 fun x6 => fk (decide (x6.Due > a2)) (ck (decide ((v4.1.length + ([x6] : List Job).length) * 48 ≤ 140737488355328)) (k5 (v4.1 ++ ([x6] : List Job), v4.2.1))) (fk (decide ((v4.2.1.length : Int) < (2000 : Int))) (ck (decide ((v4.2.1.length + ([⟨a2, (6 : Int), x6.Task⟩] : List Entry).length) * 24 ≤ 140737488355328)) (k5 (v4.1, v4.2.1 ++ ([⟨a2, (6 : Int), x6.Task⟩] : List Entry)))) (k5 (v4.1, v4.2.1))))) (jn (fun (w7 : (List Job) × (List Entry) × Int) => jn (fun (w11 : (List Task) × (List Bool) × (List Int) × (List Entry)) => some (⟨w11.1, w11.2.1, w11.2.2.1, w7.1, w11.2.2.2⟩, w7.2.2, (0 : Int))) (fun k11 => fk (decide ((w7.1.length : Int) = (0 : Int))) (lp (fun nx12 (v12 : (List Task) × (List Bool) × (List Int) × (List Entry) × Int) => fk (decide (v12.2.2.2.2 ≥ (0 : Int))) (jn (fun (w13 : (List Task) × (List Bool) × (List Int) × (List Entry)) => nx12 (w13.1, w13.2.1, w13.2.2.1, w13.2.2.2, (wr (v12.2.2.2.2 - (1 : Int))))) (fun k13 => ix v12.2.1 v12.2.2.2.2 fun x14 => fk x14 (bnd (part_without_api_Task v12.1 v12.2.2.2.2) fun x15 => bnd (part_without_bool v12.2.1 v12.2.2.2.2) fun x16 => bnd (part_without_int v12.2.2.1 v12.2.2.2.2) fun x17 => fk (decide ((v12.2.2.2.1.length : Int) < (2000 : Int))) (ck (decide ((v12.2.2.2.1.length + ([⟨a2, (7 : Int), v12.2.2.2.2⟩] : List Entry).length) * 24 ≤ 140737488355328)) (k13 (x15, x16, x17, v12.2.2.2.1 ++ ([⟨a2, (7 : Int), v12.2.2.2.2⟩] : List Entry)))) (k13 (x15, x16, x17, v12.2.2.2.1))) (k13 (v12.1, v12.2.1, v12.2.2.1, v12.2.2.2.1)))) (k11 (v12.1, v12.2.1, v12.2.2.1, v12.2.2.2.1))) FU (a0.Tasks, a0.Leaves, a0.Lasts, w7.2.1, (wr ((a0.Tasks.length : Int) - (1 : Int))))) (k11 (a0.Tasks, a0.Leaves, a0.Lasts, w7.2.1)))) (fun k7 => fk a1 (bnd (srp_Tick a0.Tasks v4.1) fun x8 => fk (decide ((v4.1.length : Int) = (0 : Int))) (k7 (v4.1, v4.2.1, (-1 : Int))) (jn (fun (w9 : Bool) => fk w9 (fk (decide ((v4.2.1.length : Int) < (2000 : Int))) (ck (decide ((v4.2.1.length + ([⟨a2, (5 : Int), x8.2.1.Task⟩] : List Entry).length) * 24 ≤ 140737488355328)) (k7 (x8.1, v4.2.1 ++ ([⟨a2, (5 : Int), x8.2.1.Task⟩] : List Entry), x8.2.1.Task))) (k7 (x8.1, v4.2.1, x8.2.1.Task))) (fk x8.2.2 (fk (decide ((v4.2.1.length : Int) < (2000 : Int))) (ck (decide ((v4.2.1.length + ([⟨a2, (4 : Int), x8.2.1.Task⟩] : List Entry).length) * 24 ≤ 140737488355328)) (k7 (x8.1, v4.2.1 ++ ([⟨a2, (4 : Int), x8.2.1.Task⟩] : List Entry), x8.2.1.Task))) (k7 (x8.1, v4.2.1, x8.2.1.Task))) (k7 (x8.1, v4.2.1, x8.2.1.Task)))) (fun k9 => fk x8.2.2 (ix a0.Tasks x8.2.1.Task fun x10 => k9 (decide (x8.2.1.Want > x10.C))) (k9 false)))) (k7 (v4.1, v4.2.1, (-1 : Int)))))) FU ([], ([] : List Entry) ++ a0.Log, (0 : Int))))) (fun k1 => bnd (part_Right a0) fun x2 => fk (!x2) (k1 true) (bnd (part_when a2) fun x3 => k1 (!x3)))
theorem part_Tick_w (a0 : PartState) (a1 : Bool) (a2 : Int) (r : PartState × Int × Int) (h : part_Tick a0 a1 a2 = some r) : Go.VC.Spec Try.prog 21 [.agg (PartState.enc a0), .d (.bool a1), .d (.int .i64 a2)] (fun y => y = E_PartState_Int_Int r) := by
  refine Go.VC.Spec.of_xc (args := [.agg (PartState.enc a0), .d (.bool a1), .d (.int .i64 a2)]) (fn := Try.f21) tab ⟨[(0, [1, 2, 3, 6]), (1, [1, 2, 3, 6, 18]), (2, [6, 7, 8]), (3, [1, 6, 9]), (4, [1, 6, 9]), (5, [1, 6, 9, 10]), (6, [6, 9, 10, 25]), (7, [6, 9, 10]), (8, [6, 9, 10, 34]), (9, [6, 9, 10]), (10, [6, 7, 8])], [], [100018, 10, 8], []⟩ 40 [.cell 6 28, .tmp 7, .tmp 8] rfl rfl rfl rfl rfl rfl ?_
  conv => whnf
  refine jnS (fun w1 => ⟨[(1, .l (.d (.bool a1))), (2, .l (.d (.int .i64 a2))), (3, .l (.ptr 4 0)), (6, .l (.ptr 7 0)), (18, .l (.d (.bool w1)))], 40, [], [(4, [.d (.sl (a0.Tasks.map Task.enc)), .d (.sl (a0.Leaves.map eB)), .d (.sl (a0.Lasts.map (eI .i64))), .d (.sl (a0.Jobs.map Job.enc)), .d (.sl (a0.Log.map Entry.enc))]), (7, [.nil, .nil, .nil, .nil, .nil])], []⟩) h (fun k1 hk1 h => ?_) (fun w1 h => ?_)
  · conv => whnf
    refine caS (E := E_Bool) h (part_Right_w a0) rfl (fun _ => rfl) (fun x2 h => ?_)
    conv => whnf
    refine fkS h (fun h => ?_) (fun h => ?_)
    · conv => whnf
      exact jeS hk1 h (Weak.refl _)
    conv => whnf
    refine caS (E := E_Bool) h (part_when_w a2) rfl (fun _ => rfl) (fun x3 h => ?_)
    conv => whnf
    exact jeS hk1 h (Weak.refl _)
  conv => whnf
  refine fkS h (fun h => ?_) (fun h => ?_)
  · conv => whnf
    exact rt (E := E_PartState_Int_Int) h rfl
  conv => whnf
  refine inS (fn := Try.f44) tab ⟨[(0, [1, 2]), (1, [4])], [], [], []⟩ 14 [.tmp 4] rfl rfl rfl rfl rfl rfl ?_
  conv => whnf
  refine ⟨7, ?_⟩
  conv => whnf
  refine liS ([] : List Entry) Entry.enc rfl rfl ?_
  conv => whnf
  refine apS (enc := Entry.enc) (l1 := ([] : List Entry)) (l2 := a0.Log) h rfl rfl (fun _ => rfl) (fun h => ?_)
  conv => whnf
  refine drS (by kernel_rfl) ?_
  conv => whnf
  refine inS (fn := Try.f58) tab ⟨[(0, [0, 2]), (1, [0, 2, 9, 10, 11]), (2, [0, 2, 9, 10, 11, 12]), (3, [0, 2, 4, 9, 10, 11]), (4, [0, 2, 4, 9, 10, 11, 22]), (5, [0, 2, 9, 10, 11]), (6, [0, 2, 9, 10, 11]), (7, [0, 2, 9, 10, 11]), (8, [])], [], [7], []⟩ 39 [] rfl rfl rfl rfl rfl rfl ?_
  conv => whnf
  refine lenS a0.Jobs Job.enc rfl ?_
  conv => whnf
  refine lpS (fun v4 => ⟨[(0, .l (.ptr 1014 0)), (2, .l (.own 1003)), (9, .l (.d (.sl (a0.Jobs.map Job.enc)))), (10, .l (.d (.int .i64 (a0.Jobs.length : Int)))), (11, .l (.d (.int .i64 v4.2.2)))], 39, [⟨[(23, .l (.ptr 1014 0)), (1, .l (.d (.bool a1))), (6, .l (.ptr 7 0)), (9, .l (.ptr 1014 0))], 40⟩], [(7, [.nil, .nil, .nil, .nil, .nil]), (1014, [.own 1009, .d (.int .i64 a2), .d (.sl (a0.Tasks.map Task.enc)), .d (.sl (a0.Leaves.map eB)), .d (.sl (a0.Lasts.map (eI .i64))), .d (.sl (a0.Jobs.map Job.enc)), .d (.sl (a0.Log.map Entry.enc))])], [(1003, 95, 6, v4.1.map Job.enc), (1009, 57, 3, v4.2.1.map Entry.enc)]⟩) h (Weak.trans (Weak.nilO _ 2 1003 95 6 rfl) (Weak.refl _)) (fun _ nx4 hn4 v4 h => ?_)
  conv => whnf
  refine fkS h (fun h => ?_) (fun h => ?_)
  · conv => whnf
    refine jnS (fun w5 => ⟨[(0, .l (.ptr 1014 0)), (2, .l (.own 1003)), (9, .l (.d (.sl (a0.Jobs.map Job.enc)))), (10, .l (.d (.int .i64 (a0.Jobs.length : Int)))), (11, .l (.d (.int .i64 v4.2.2)))], 39, [⟨[(23, .l (.ptr 1014 0)), (1, .l (.d (.bool a1))), (6, .l (.ptr 7 0)), (9, .l (.ptr 1014 0))], 40⟩], [(7, [.nil, .nil, .nil, .nil, .nil]), (1014, [.own 1009, .d (.int .i64 a2), .d (.sl (a0.Tasks.map Task.enc)), .d (.sl (a0.Leaves.map eB)), .d (.sl (a0.Lasts.map (eI .i64))), .d (.sl (a0.Jobs.map Job.enc)), .d (.sl (a0.Log.map Entry.enc))])], [(1003, 95, 6, w5.1.map Job.enc), (1009, 57, 3, w5.2.map Entry.enc)]⟩) h (fun k5 hk5 h => ?_) (fun w5 h => ?_)
    · conv => whnf
      refine ixS (enc := Job.enc) h rfl (fun _ => rfl) (fun x6 h => ?_)
      conv => whnf
      refine ⟨7, ?_⟩
      conv => whnf
      refine drS (by kernel_rfl) ?_
      conv => whnf
      refine fkS h (fun h => ?_) (fun h => ?_)
      · conv => whnf
        refine liS ([x6] : List Job) Job.enc rfl rfl ?_
        conv => whnf
        refine apS (enc := Job.enc) (l1 := v4.1) (l2 := ([x6] : List Job)) h rfl rfl (fun _ => rfl) (fun h => ?_)
        conv => whnf
        exact jeS hk5 h (Weak.refl _)
      conv => whnf
      refine ⟨5, ?_⟩
      conv => whnf
      refine drS (by kernel_rfl) ?_
      conv => whnf
      refine inS (fn := Try.f46) tab ⟨[(0, [0, 1, 2, 11]), (1, [])], [], [], []⟩ 28 [] rfl rfl rfl rfl rfl rfl ?_
      conv => whnf
      refine lenS v4.2.1 Entry.enc rfl ?_
      conv => whnf
      refine fkS h (fun h => ?_) (fun h => ?_)
      · conv => whnf
        refine ⟨14, ?_⟩
        conv => whnf
        refine liS ([⟨a2, (6 : Int), x6.Task⟩] : List Entry) Entry.enc rfl rfl ?_
        conv => whnf
        refine apS (enc := Entry.enc) (l1 := v4.2.1) (l2 := ([⟨a2, (6 : Int), x6.Task⟩] : List Entry)) h rfl rfl (fun _ => rfl) (fun h => ?_)
        conv => whnf
        refine drS (by kernel_rfl) ?_
        conv => whnf
        refine jeX hk5 h ?_
        conv => whnf
        refine WkF.step (Weak.rekey _ 2026 1009 rfl) ?_
        conv => whnf
        exact WkF.refl _
      conv => whnf
      exact jeS hk5 h (Weak.refl _)
    conv => whnf
    exact leS hn4 h (Weak.refl _)
  conv => whnf
  refine jnS (fun w7 => ⟨[(6, .l (.ptr 7 0)), (9, .l (.ptr 1014 0)), (10, .l (.d (.int .i64 w7.2.2)))], 40, [], [(7, [.nil, .nil, .nil, .nil, .nil]), (1014, [.own 1009, .d (.int .i64 a2), .d (.sl (a0.Tasks.map Task.enc)), .d (.sl (a0.Leaves.map eB)), .d (.sl (a0.Lasts.map (eI .i64))), .d (.sl (w7.1.map Job.enc)), .d (.sl (a0.Log.map Entry.enc))])], [(1009, 57, 3, w7.2.1.map Entry.enc)]⟩) h (fun k7 hk7 h => ?_) (fun w7 h => ?_)
  · conv => whnf
    refine fkS h (fun h => ?_) (fun h => ?_)
    · conv => whnf
      refine inS (fn := Try.f59) tab ⟨[(0, [0]), (1, [0, 3, 4, 5]), (2, [0, 3, 4, 5, 27]), (3, [2]), (4, [0, 4, 5]), (5, [0, 4, 5, 33]), (6, [4]), (7, [0, 4, 56]), (8, [4]), (9, [2])], [(0, [1003])], [100033], []⟩ 66 [.tmp 2] rfl rfl rfl rfl rfl rfl ?_
      conv => whnf
      refine ⟨18, ?_⟩
      conv => whnf
      refine dcS (E := E_ListJob_Job_Bool) h (srp_Tick_w a0.Tasks v4.1) rfl (fun x8 h => ?_)
      conv => whnf
      refine drS (by kernel_rfl) ?_
      conv => whnf
      refine lenS v4.1 Job.enc rfl ?_
      conv => whnf
      refine fkS h (fun h => ?_) (fun h => ?_)
      · conv => whnf
        exact jeS hk7 h (Weak.refl _)
      conv => whnf
      refine jnS (fun w9 => ⟨[(0, .l (.ptr 1014 0)), (4, .l (.ptr 1005 0)), (5, .l (.d (.bool x8.2.2))), (33, .l (.d (.bool w9)))], 66, [⟨[(26, .l (.ptr 1014 0)), (25, .l (.d (.bool true))), (6, .l (.ptr 7 0)), (9, .l (.ptr 1014 0)), (10, .l (.d (.int .i64 (-1 : Int)))), (25, .l (.d (.bool a1)))], 40⟩], [(7, [.nil, .nil, .nil, .nil, .nil]), (1005, [.d (.int .i64 x8.2.1.Task), .d (.int .i64 x8.2.1.At), .d (.int .i64 x8.2.1.Due), .d (.int .i64 x8.2.1.Want), .d (.int .i64 x8.2.1.Had), .d (.bool x8.2.1.Began)]), (1014, [.own 1009, .d (.int .i64 a2), .d (.sl (a0.Tasks.map Task.enc)), .d (.sl (a0.Leaves.map eB)), .d (.sl (a0.Lasts.map (eI .i64))), .d (.sl (x8.1.map Job.enc)), .d (.sl (a0.Log.map Entry.enc))])], [(1009, 57, 3, v4.2.1.map Entry.enc)]⟩) h (fun k9 hk9 h => ?_) (fun w9 h => ?_)
      · conv => whnf
        refine ⟨16, ?_⟩
        conv => whnf
        refine fkS h (fun h => ?_) (fun h => ?_)
        · conv => whnf
          refine ixS (enc := Task.enc) h rfl (fun _ => rfl) (fun x10 h => ?_)
          conv => whnf
          refine drS (by kernel_rfl) ?_
          conv => whnf
          exact jeS hk9 h (Weak.refl _)
        conv => whnf
        refine drS (by kernel_rfl) ?_
        conv => whnf
        exact jeS hk9 h (Weak.refl _)
      conv => whnf
      refine fkS h (fun h => ?_) (fun h => ?_)
      · conv => whnf
        refine ⟨5, ?_⟩
        conv => whnf
        refine drS (by kernel_rfl) ?_
        conv => whnf
        refine inS (fn := Try.f46) tab ⟨[(0, [0, 1, 2, 11]), (1, [])], [], [], []⟩ 28 [] rfl rfl rfl rfl rfl rfl ?_
        conv => whnf
        refine lenS v4.2.1 Entry.enc rfl ?_
        conv => whnf
        refine fkS h (fun h => ?_) (fun h => ?_)
        · conv => whnf
          refine ⟨14, ?_⟩
          conv => whnf
          refine liS ([⟨a2, (5 : Int), x8.2.1.Task⟩] : List Entry) Entry.enc rfl rfl ?_
          conv => whnf
          refine apS (enc := Entry.enc) (l1 := v4.2.1) (l2 := ([⟨a2, (5 : Int), x8.2.1.Task⟩] : List Entry)) h rfl rfl (fun _ => rfl) (fun h => ?_)
          conv => whnf
          refine drS (by kernel_rfl) ?_
          conv => whnf
          refine jeX hk7 h ?_
          conv => whnf
          refine WkF.step (Weak.rekey _ 2026 1009 rfl) ?_
          conv => whnf
          exact WkF.refl _
        conv => whnf
        exact jeS hk7 h (Weak.refl _)
      conv => whnf
      refine fkS h (fun h => ?_) (fun h => ?_)
      · conv => whnf
        refine ⟨5, ?_⟩
        conv => whnf
        refine drS (by kernel_rfl) ?_
        conv => whnf
        refine inS (fn := Try.f46) tab ⟨[(0, [0, 1, 2, 11]), (1, [])], [], [], []⟩ 28 [] rfl rfl rfl rfl rfl rfl ?_
        conv => whnf
        refine lenS v4.2.1 Entry.enc rfl ?_
        conv => whnf
        refine fkS h (fun h => ?_) (fun h => ?_)
        · conv => whnf
          refine ⟨14, ?_⟩
          conv => whnf
          refine liS ([⟨a2, (4 : Int), x8.2.1.Task⟩] : List Entry) Entry.enc rfl rfl ?_
          conv => whnf
          refine apS (enc := Entry.enc) (l1 := v4.2.1) (l2 := ([⟨a2, (4 : Int), x8.2.1.Task⟩] : List Entry)) h rfl rfl (fun _ => rfl) (fun h => ?_)
          conv => whnf
          refine drS (by kernel_rfl) ?_
          conv => whnf
          refine jeX hk7 h ?_
          conv => whnf
          refine WkF.step (Weak.rekey _ 2026 1009 rfl) ?_
          conv => whnf
          exact WkF.refl _
        conv => whnf
        exact jeS hk7 h (Weak.refl _)
      conv => whnf
      exact jeS hk7 h (Weak.refl _)
    conv => whnf
    refine jeX hk7 h ?_
    conv => whnf
    refine WkF.step (Weak.keepS _ [6, 9, 10]) ?_
    conv => whnf
    refine WkF.step (Weak.ice _ 1003) ?_
    conv => whnf
    exact WkF.refl _
  conv => whnf
  refine jnS (fun w11 => ⟨[(6, .l (.ptr 7 0)), (9, .l (.ptr 1014 0)), (10, .l (.d (.int .i64 w7.2.2)))], 40, [], [(7, [.nil, .nil, .nil, .nil, .nil]), (1014, [.own 1009, .d (.int .i64 a2), .d (.sl (w11.1.map Task.enc)), .d (.sl (w11.2.1.map eB)), .d (.sl (w11.2.2.1.map (eI .i64))), .d (.sl (w7.1.map Job.enc)), .d (.sl (a0.Log.map Entry.enc))])], [(1009, 57, 3, w11.2.2.2.map Entry.enc)]⟩) h (fun k11 hk11 h => ?_) (fun w11 h => ?_)
  · conv => whnf
    refine lenS w7.1 Job.enc rfl ?_
    conv => whnf
    refine fkS h (fun h => ?_) (fun h => ?_)
    · conv => whnf
      refine inS (fn := Try.f60) tab ⟨[(0, [0, 2]), (1, [0, 2, 11]), (2, [0, 2]), (3, [0, 2, 21]), (4, [0, 2]), (5, [0, 2])], [], [2], []⟩ 60 [] rfl rfl rfl rfl rfl rfl ?_
      conv => whnf
      refine lenS a0.Tasks Task.enc rfl ?_
      conv => whnf
      refine lpS (fun v12 => ⟨[(0, .l (.ptr 1014 0)), (2, .l (.d (.int .i64 v12.2.2.2.2)))], 60, [⟨[(35, .l (.ptr 1014 0)), (34, .l (.d (.bool true))), (6, .l (.ptr 7 0)), (9, .l (.ptr 1014 0)), (10, .l (.d (.int .i64 w7.2.2))), (34, .l (.d (.bool (decide ((w7.1.length : Int) = (0 : Int))))))], 40⟩], [(7, [.nil, .nil, .nil, .nil, .nil]), (1014, [.own 1009, .d (.int .i64 a2), .d (.sl (v12.1.map Task.enc)), .d (.sl (v12.2.1.map eB)), .d (.sl (v12.2.2.1.map (eI .i64))), .d (.sl (w7.1.map Job.enc)), .d (.sl (a0.Log.map Entry.enc))])], [(1009, 57, 3, v12.2.2.2.1.map Entry.enc)]⟩) h (Weak.refl _) (fun _ nx12 hn12 v12 h => ?_)
      conv => whnf
      refine fkS h (fun h => ?_) (fun h => ?_)
      · conv => whnf
        refine jnS (fun w13 => ⟨[(0, .l (.ptr 1014 0)), (2, .l (.d (.int .i64 v12.2.2.2.2)))], 60, [⟨[(35, .l (.ptr 1014 0)), (34, .l (.d (.bool true))), (6, .l (.ptr 7 0)), (9, .l (.ptr 1014 0)), (10, .l (.d (.int .i64 w7.2.2))), (34, .l (.d (.bool (decide ((w7.1.length : Int) = (0 : Int))))))], 40⟩], [(7, [.nil, .nil, .nil, .nil, .nil]), (1014, [.own 2026, .d (.int .i64 a2), .d (.sl (w13.1.map Task.enc)), .d (.sl (w13.2.1.map eB)), .d (.sl (w13.2.2.1.map (eI .i64))), .d (.sl (w7.1.map Job.enc)), .d (.sl (a0.Log.map Entry.enc))])], [(2026, 57, 3, w13.2.2.2.map Entry.enc)]⟩) h (fun k13 hk13 h => ?_) (fun w13 h => ?_)
        · conv => whnf
          refine ixS (enc := eB) h rfl (fun _ => rfl) (fun x14 h => ?_)
          conv => whnf
          refine fkS h (fun h => ?_) (fun h => ?_)
          · conv => whnf
            refine ⟨32, ?_⟩
            conv => whnf
            refine dcS (E := E_ListTask) h (part_without_api_Task_w v12.1 v12.2.2.2.2) rfl (fun x15 h => ?_)
            conv => whnf
            refine dcS (E := E_ListBool) h (part_without_bool_w v12.2.1 v12.2.2.2.2) rfl (fun x16 h => ?_)
            conv => whnf
            refine dcS (E := E_ListInt) h (part_without_int_w v12.2.2.1 v12.2.2.2.2) rfl (fun x17 h => ?_)
            conv => whnf
            refine drS (by kernel_rfl) ?_
            conv => whnf
            refine inS (fn := Try.f46) tab ⟨[(0, [0, 1, 2, 11]), (1, [])], [], [], []⟩ 28 [] rfl rfl rfl rfl rfl rfl ?_
            conv => whnf
            refine lenS v12.2.2.2.1 Entry.enc rfl ?_
            conv => whnf
            refine fkS h (fun h => ?_) (fun h => ?_)
            · conv => whnf
              refine ⟨14, ?_⟩
              conv => whnf
              refine liS ([⟨a2, (7 : Int), v12.2.2.2.2⟩] : List Entry) Entry.enc rfl rfl ?_
              conv => whnf
              refine apS (enc := Entry.enc) (l1 := v12.2.2.2.1) (l2 := ([⟨a2, (7 : Int), v12.2.2.2.2⟩] : List Entry)) h rfl rfl (fun _ => rfl) (fun h => ?_)
              conv => whnf
              refine drS (by kernel_rfl) ?_
              conv => whnf
              exact jeS hk13 h (Weak.refl _)
            conv => whnf
            refine jeX hk13 h ?_
            conv => whnf
            refine WkF.step (Weak.rekey _ 1009 2026 rfl) ?_
            conv => whnf
            exact WkF.refl _
          conv => whnf
          refine jeX hk13 h ?_
          conv => whnf
          refine WkF.step (Weak.keepS _ [0, 2]) ?_
          conv => whnf
          refine WkF.step (Weak.rekey _ 1009 2026 rfl) ?_
          conv => whnf
          exact WkF.refl _
        conv => whnf
        refine leX hn12 h ?_
        conv => whnf
        refine WkF.step (Weak.rekey _ 2026 1009 rfl) ?_
        conv => whnf
        exact WkF.refl _
      conv => whnf
      exact jeS hk11 h (Weak.refl _)
    conv => whnf
    refine jeX hk11 h ?_
    conv => whnf
    refine WkF.step (Weak.keepS _ [6, 9, 10]) ?_
    conv => whnf
    exact WkF.refl _
  conv => whnf
  refine inS (fn := Try.f47) tab ⟨[(0, [0, 2]), (1, [0, 2]), (2, [2])], [], [], []⟩ 16 [.cell 2 28] rfl rfl rfl rfl rfl rfl ?_
  conv => whnf
  exact rt (E := E_PartState_Int_Int) h rfl

end Go.Proofs.Ytakiggekallckaa
namespace Go.Proofs.Ytakiggekallckaa
open Go Go.VC
noncomputable def ref17_Tick (a0 : Ref17State) (a1 : Bool) (a2 : Int) : Option (Ref17State × Int) :=
  lp (fun nx1 (v1 : (List Entry) × (List Job) × Int) => fk (decide (v1.2.2 < (a0.Jobs.length : Int))) (jn (fun (w2 : (List Entry) × (List Job)) => nx1 (w2.1, w2.2, (wr (v1.2.2 + (1 : Int))))) (fun k2 => ix a0.Jobs v1.2.2 fun x3 => fk (decide (x3.Due ≤ a2)) (ix a0.Jobs v1.2.2 fun x4 => bnd (ref17_noted v1.1 a2 (6 : Int) x4.Task) fun x5 => k2 (x5, v1.2.1)) (ix a0.Jobs v1.2.2 fun x6 => ck (decide ((v1.2.1.length + ([x6] : List Job).length) * 48 ≤ 140737488355328)) (k2 (v1.1, v1.2.1 ++ ([x6] : List Job)))))) (jn (fun (w7 : (List Job) × (List Entry) × Int) => fk (decide ((w7.1.length : Int) > (0 : Int))) (some (⟨a0.Tasks, a0.Leaves, a0.Lasts, w7.1, w7.2.1⟩, w7.2.2)) (lp (fun nx13 (v13 : (List Task) × (List Bool) × (List Int) × Int) => fk (decide (v13.2.2.2 < (a0.Tasks.length : Int))) (jn (fun (w14 : (List Task) × (List Bool) × (List Int)) => nx13 (w14.1, w14.2.1, w14.2.2, (wr (v13.2.2.2 + (1 : Int))))) (fun k14 => ix a0.Leaves v13.2.2.2 fun x15 => fk (!x15) (ix a0.Tasks v13.2.2.2 fun x16 => ck (decide ((v13.1.length + ([x16] : List Task).length) * 48 ≤ 140737488355328)) (ck (decide ((v13.2.1.length + ([false] : List Bool).length) * 1 ≤ 140737488355328)) (ix a0.Lasts v13.2.2.2 fun x17 => ck (decide ((v13.2.2.1.length + ([x17] : List Int).length) * 8 ≤ 140737488355328)) (k14 (v13.1 ++ ([x16] : List Task), v13.2.1 ++ ([false] : List Bool), v13.2.2.1 ++ ([x17] : List Int)))))) (k14 (v13.1, v13.2.1, v13.2.2.1)))) (lp (fun nx18 (v18 : (List Entry) × Int) => fk (decide (v18.2 ≥ (0 : Int))) (jn (fun (w19 : List Entry) => nx18 (w19, (wr (v18.2 - (1 : Int))))) (fun k19 => ix a0.Leaves v18.2 fun x20 => fk x20 (bnd (ref17_noted v18.1 a2 (7 : Int) v18.2) fun x21 => k19 x21) (k19 v18.1))) (some (⟨v13.1, v13.2.1, v13.2.2.1, w7.1, v18.1⟩, w7.2.2))) FU (w7.2.1, (wr ((a0.Tasks.length : Int) - (1 : Int)))))) FU ([], [], [], (0 : Int)))) (fun k7 => jn (fun (w8 : Bool) => fk w8 (bnd (ref15_Tick a0.Tasks v1.2.1) fun x9 => fk x9.2.2 (jn (fun (w10 : Int) => bnd (ref17_noted v1.1 a2 w10 x9.2.1.Task) fun x12 => k7 (x9.1, x12, x9.2.1.Task)) (fun k10 => ix a0.Tasks x9.2.1.Task fun x11 => fk (decide (x9.2.1.Want > x11.C)) (k10 (5 : Int)) (k10 (4 : Int)))) (k7 (x9.1, v1.1, x9.2.1.Task))) (k7 (v1.2.1, v1.1, (-1 : Int)))) (fun k8 => fk a1 (k8 (decide ((v1.2.1.length : Int) > (0 : Int)))) (k8 false))))) FU (a0.Log, [], (0 : Int))
theorem ref17_Tick_w (a0 : Ref17State) (a1 : Bool) (a2 : Int) (r : Ref17State × Int) (h : ref17_Tick a0 a1 a2 = some r) : Go.VC.Spec Try.prog 22 [.agg (Ref17State.enc a0), .d (.bool a1), .d (.int .i64 a2)] (fun y => y = E_Ref17State_Int r) := by
  refine Go.VC.Spec.of_xc (args := [.agg (Ref17State.enc a0), .d (.bool a1), .d (.int .i64 a2)]) (fn := Try.f22) tab ⟨[(0, [1, 2, 3, 6]), (1, [1, 2, 3, 6, 8]), (2, [1, 2, 3, 6, 8]), (3, [1, 2, 3, 6, 8, 9]), (4, [1, 2, 3, 6, 8, 9, 23]), (5, [1, 2, 3, 6, 8, 9]), (6, [1, 2, 3, 6, 8, 9, 33]), (7, [1, 2, 3, 6, 8, 9]), (8, [1, 2, 3, 6, 8, 9]), (9, [1, 2, 3, 6, 8, 10]), (10, [2, 3, 6, 8, 10, 61]), (11, [2, 3, 6, 8, 11, 12, 13]), (12, [2, 3, 6, 8, 10, 11, 12, 13]), (13, [2, 3, 6, 8, 10, 12, 13]), (14, [2, 3, 6, 8, 10, 12, 75]), (15, [2, 3, 6, 8, 10, 12, 14]), (16, [2, 3, 6, 8, 10, 14, 84]), (17, [2, 3, 6, 8, 10, 14]), (18, [2, 3, 6, 8, 10]), (19, [2, 3, 6, 8, 10, 95]), (20, [6, 7]), (21, [2, 3, 6, 8, 10]), (22, [2, 3, 6, 8, 10]), (23, [2, 3, 6, 8, 10]), (24, [2, 3, 6, 8, 10, 15]), (25, [2, 3, 6, 8, 10, 15, 105]), (26, [2, 3, 6, 8, 10, 15]), (27, [2, 3, 6, 8, 10, 15, 113]), (28, [2, 3, 6, 8, 10, 15]), (29, [2, 3, 6, 8, 10, 15]), (30, [2, 3, 6, 8, 10, 15]), (31, [2, 3, 6, 8, 10, 16]), (32, [2, 3, 6, 8, 10, 16, 144]), (33, [2, 3, 6, 8, 10, 16]), (34, [2, 3, 6, 8, 10, 16, 151]), (35, [2, 3, 6, 8, 10, 16]), (36, [6, 7])], [], [5, 18, 100061, 26, 33, 19], []⟩ 160 [.cell 6 34, .tmp 7] rfl rfl rfl rfl rfl rfl ?_
  conv => whnf
  refine lpS (fun v1 => ⟨[(1, .l (.d (.bool a1))), (2, .l (.d (.int .i64 a2))), (3, .l (.ptr 4 0)), (6, .l (.ptr 7 0)), (8, .l (.ptr 9 0)), (9, .l (.d (.int .i64 v1.2.2)))], 160, [], [(4, [.d (.sl (a0.Tasks.map Task.enc)), .d (.sl (a0.Leaves.map eB)), .d (.sl (a0.Lasts.map (eI .i64))), .d (.sl (a0.Jobs.map Job.enc)), .d (.sl (a0.Log.map Entry.enc))]), (7, [.nil, .nil, .nil, .nil, .nil]), (9, [.d (.sl (a0.Tasks.map Task.enc)), .d (.sl (a0.Leaves.map eB)), .d (.sl (a0.Lasts.map (eI .i64))), .own 50903, .d (.sl (v1.1.map Entry.enc))])], [(50903, 95, 6, v1.2.1.map Job.enc)]⟩) h (Weak.trans (Weak.nilBO _ 9 3 50903 95 6 _ rfl rfl) (Weak.refl _)) (fun _ nx1 hn1 v1 h => ?_)
  conv => whnf
  refine lenS a0.Jobs Job.enc rfl ?_
  conv => whnf
  refine fkS h (fun h => ?_) (fun h => ?_)
  · conv => whnf
    refine jnS (fun w2 => ⟨[(1, .l (.d (.bool a1))), (2, .l (.d (.int .i64 a2))), (3, .l (.ptr 4 0)), (6, .l (.ptr 7 0)), (8, .l (.ptr 9 0)), (9, .l (.d (.int .i64 v1.2.2)))], 160, [], [(4, [.d (.sl (a0.Tasks.map Task.enc)), .d (.sl (a0.Leaves.map eB)), .d (.sl (a0.Lasts.map (eI .i64))), .d (.sl (a0.Jobs.map Job.enc)), .d (.sl (a0.Log.map Entry.enc))]), (7, [.nil, .nil, .nil, .nil, .nil]), (9, [.d (.sl (a0.Tasks.map Task.enc)), .d (.sl (a0.Leaves.map eB)), .d (.sl (a0.Lasts.map (eI .i64))), .own 50903, .d (.sl (w2.1.map Entry.enc))])], [(50903, 95, 6, w2.2.map Job.enc)]⟩) h (fun k2 hk2 h => ?_) (fun w2 h => ?_)
    · conv => whnf
      refine ixS (enc := Job.enc) h rfl (fun _ => rfl) (fun x3 h => ?_)
      conv => whnf
      refine fkS h (fun h => ?_) (fun h => ?_)
      · conv => whnf
        refine ⟨9, ?_⟩
        conv => whnf
        refine ixS (enc := Job.enc) h rfl (fun _ => rfl) (fun x4 h => ?_)
        conv => whnf
        refine drS (by kernel_rfl) ?_
        conv => whnf
        refine ccS (E := E_ListEntry) h (ref17_noted_w v1.1 a2 (6 : Int) x4.Task) rfl rfl (fun x5 h => ?_)
        conv => whnf
        exact jeS hk2 h (Weak.refl _)
      conv => whnf
      refine ⟨8, ?_⟩
      conv => whnf
      refine ixS (enc := Job.enc) h rfl (fun _ => rfl) (fun x6 h => ?_)
      conv => whnf
      refine liS ([x6] : List Job) Job.enc rfl rfl ?_
      conv => whnf
      refine drS (by kernel_rfl) ?_
      conv => whnf
      refine apS (enc := Job.enc) (l1 := v1.2.1) (l2 := ([x6] : List Job)) h rfl rfl (fun _ => rfl) (fun h => ?_)
      conv => whnf
      refine jeX hk2 h ?_
      conv => whnf
      refine WkF.step (Weak.rekey _ 54 50903 rfl) ?_
      conv => whnf
      exact WkF.refl _
    conv => whnf
    exact leS hn1 h (Weak.refl _)
  conv => whnf
  refine jnS (fun w7 => ⟨[(2, .l (.d (.int .i64 a2))), (3, .l (.ptr 4 0)), (6, .l (.ptr 7 0)), (8, .l (.ptr 9 0)), (10, .l (.d (.int .i64 w7.2.2)))], 160, [], [(4, [.d (.sl (a0.Tasks.map Task.enc)), .d (.sl (a0.Leaves.map eB)), .d (.sl (a0.Lasts.map (eI .i64))), .d (.sl (a0.Jobs.map Job.enc)), .d (.sl (a0.Log.map Entry.enc))]), (7, [.nil, .nil, .nil, .nil, .nil]), (9, [.d (.sl (a0.Tasks.map Task.enc)), .d (.sl (a0.Leaves.map eB)), .d (.sl (a0.Lasts.map (eI .i64))), .d (.sl (w7.1.map Job.enc)), .d (.sl (w7.2.1.map Entry.enc))])], []⟩) h (fun k7 hk7 h => ?_) (fun w7 h => ?_)
  · conv => whnf
    refine jnS (fun w8 => ⟨[(2, .l (.d (.int .i64 a2))), (3, .l (.ptr 4 0)), (6, .l (.ptr 7 0)), (8, .l (.ptr 9 0)), (10, .l (.d (.int .i64 (-1 : Int)))), (61, .l (.d (.bool w8)))], 160, [], [(4, [.d (.sl (a0.Tasks.map Task.enc)), .d (.sl (a0.Leaves.map eB)), .d (.sl (a0.Lasts.map (eI .i64))), .d (.sl (a0.Jobs.map Job.enc)), .d (.sl (a0.Log.map Entry.enc))]), (7, [.nil, .nil, .nil, .nil, .nil]), (9, [.d (.sl (a0.Tasks.map Task.enc)), .d (.sl (a0.Leaves.map eB)), .d (.sl (a0.Lasts.map (eI .i64))), .own 50903, .d (.sl (v1.1.map Entry.enc))])], [(50903, 95, 6, v1.2.1.map Job.enc)]⟩) h (fun k8 hk8 h => ?_) (fun w8 h => ?_)
    · conv => whnf
      refine fkS h (fun h => ?_) (fun h => ?_)
      · conv => whnf
        refine lenS v1.2.1 Job.enc rfl ?_
        conv => whnf
        exact jeS hk8 h (Weak.refl _)
      conv => whnf
      exact jeS hk8 h (Weak.refl _)
    conv => whnf
    refine fkS h (fun h => ?_) (fun h => ?_)
    · conv => whnf
      refine iceS 50903 ?_
      conv => whnf
      refine ccS (E := E_ListJob_Job_Bool) h (ref15_Tick_w a0.Tasks v1.2.1) rfl rfl (fun x9 h => ?_)
      conv => whnf
      refine fkS h (fun h => ?_) (fun h => ?_)
      · conv => whnf
        refine jnS (fun w10 => ⟨[(2, .l (.d (.int .i64 a2))), (3, .l (.ptr 4 0)), (6, .l (.ptr 7 0)), (8, .l (.ptr 9 0)), (10, .l (.d (.int .i64 x9.2.1.Task))), (14, .l (.d (.int .i64 w10)))], 160, [], [(4, [.d (.sl (a0.Tasks.map Task.enc)), .d (.sl (a0.Leaves.map eB)), .d (.sl (a0.Lasts.map (eI .i64))), .d (.sl (a0.Jobs.map Job.enc)), .d (.sl (a0.Log.map Entry.enc))]), (7, [.nil, .nil, .nil, .nil, .nil]), (9, [.d (.sl (a0.Tasks.map Task.enc)), .d (.sl (a0.Leaves.map eB)), .d (.sl (a0.Lasts.map (eI .i64))), .d (.sl (x9.1.map Job.enc)), .d (.sl (v1.1.map Entry.enc))])], []⟩) h (fun k10 hk10 h => ?_) (fun w10 h => ?_)
        · conv => whnf
          refine ⟨8, ?_⟩
          conv => whnf
          refine ixS (enc := Task.enc) h rfl (fun _ => rfl) (fun x11 h => ?_)
          conv => whnf
          refine drS (by kernel_rfl) ?_
          conv => whnf
          refine fkS h (fun h => ?_) (fun h => ?_)
          · conv => whnf
            exact jeS hk10 h (Weak.refl _)
          conv => whnf
          refine jeX hk10 h ?_
          conv => whnf
          refine WkF.step (Weak.keepS _ [2, 3, 6, 8, 10, 14]) ?_
          conv => whnf
          exact WkF.refl _
        conv => whnf
        refine ccS (E := E_ListEntry) h (ref17_noted_w v1.1 a2 w10 x9.2.1.Task) rfl rfl (fun x12 h => ?_)
        conv => whnf
        exact jeS hk7 h (Weak.refl _)
      conv => whnf
      refine jeX hk7 h ?_
      conv => whnf
      refine WkF.step (Weak.keepS _ [2, 3, 6, 8, 10]) ?_
      conv => whnf
      exact WkF.refl _
    conv => whnf
    refine jeX hk7 h ?_
    conv => whnf
    refine WkF.step (Weak.keepS _ [2, 3, 6, 8, 10]) ?_
    conv => whnf
    refine WkF.step (Weak.ice _ 50903) ?_
    conv => whnf
    exact WkF.refl _
  conv => whnf
  refine lenS w7.1 Job.enc rfl ?_
  conv => whnf
  refine fkS h (fun h => ?_) (fun h => ?_)
  · conv => whnf
    exact rt (E := E_Ref17State_Int) h rfl
  conv => whnf
  refine lpS (fun v13 => ⟨[(2, .l (.d (.int .i64 a2))), (3, .l (.ptr 4 0)), (6, .l (.ptr 7 0)), (8, .l (.ptr 9 0)), (10, .l (.d (.int .i64 w7.2.2))), (15, .l (.d (.int .i64 v13.2.2.2)))], 160, [], [(4, [.d (.sl (a0.Tasks.map Task.enc)), .d (.sl (a0.Leaves.map eB)), .d (.sl (a0.Lasts.map (eI .i64))), .d (.sl (a0.Jobs.map Job.enc)), .d (.sl (a0.Log.map Entry.enc))]), (7, [.nil, .nil, .nil, .nil, .nil]), (9, [.own 50900, .own 50901, .own 50902, .d (.sl (w7.1.map Job.enc)), .d (.sl (w7.2.1.map Entry.enc))])], [(50900, 47, 4, v13.1.map Task.enc), (50901, 4, 1, v13.2.1.map eB), (50902, 3, 1, v13.2.2.1.map (eI .i64))]⟩) h (Weak.trans (Weak.nilBO _ 9 0 50900 47 4 _ rfl rfl) (Weak.trans (Weak.nilBO _ 9 1 50901 4 1 _ rfl rfl) (Weak.trans (Weak.nilBO _ 9 2 50902 3 1 _ rfl rfl) (Weak.refl _)))) (fun _ nx13 hn13 v13 h => ?_)
  conv => whnf
  refine lenS a0.Tasks Task.enc rfl ?_
  conv => whnf
  refine fkS h (fun h => ?_) (fun h => ?_)
  · conv => whnf
    refine jnS (fun w14 => ⟨[(2, .l (.d (.int .i64 a2))), (3, .l (.ptr 4 0)), (6, .l (.ptr 7 0)), (8, .l (.ptr 9 0)), (10, .l (.d (.int .i64 w7.2.2))), (15, .l (.d (.int .i64 v13.2.2.2)))], 160, [], [(4, [.d (.sl (a0.Tasks.map Task.enc)), .d (.sl (a0.Leaves.map eB)), .d (.sl (a0.Lasts.map (eI .i64))), .d (.sl (a0.Jobs.map Job.enc)), .d (.sl (a0.Log.map Entry.enc))]), (7, [.nil, .nil, .nil, .nil, .nil]), (9, [.own 123, .own 128, .own 138, .d (.sl (w7.1.map Job.enc)), .d (.sl (w7.2.1.map Entry.enc))])], [(123, 47, 4, w14.1.map Task.enc), (128, 4, 1, w14.2.1.map eB), (138, 3, 1, w14.2.2.map (eI .i64))]⟩) h (fun k14 hk14 h => ?_) (fun w14 h => ?_)
    · conv => whnf
      refine ixS (enc := eB) h rfl (fun _ => rfl) (fun x15 h => ?_)
      conv => whnf
      refine fkS h (fun h => ?_) (fun h => ?_)
      · conv => whnf
        refine ⟨8, ?_⟩
        conv => whnf
        refine ixS (enc := Task.enc) h rfl (fun _ => rfl) (fun x16 h => ?_)
        conv => whnf
        refine liS ([x16] : List Task) Task.enc rfl rfl ?_
        conv => whnf
        refine drS (by kernel_rfl) ?_
        conv => whnf
        refine apS (enc := Task.enc) (l1 := v13.1) (l2 := ([x16] : List Task)) h rfl rfl (fun _ => rfl) (fun h => ?_)
        conv => whnf
        refine liS ([false] : List Bool) eB rfl rfl ?_
        conv => whnf
        refine apS (enc := eB) (l1 := v13.2.1) (l2 := ([false] : List Bool)) h rfl rfl (fun _ => rfl) (fun h => ?_)
        conv => whnf
        refine ⟨8, ?_⟩
        conv => whnf
        refine ixS (enc := (eI .i64)) h rfl (fun _ => rfl) (fun x17 h => ?_)
        conv => whnf
        refine liS ([x17] : List Int) (eI .i64) rfl rfl ?_
        conv => whnf
        refine drS (by kernel_rfl) ?_
        conv => whnf
        refine apS (enc := (eI .i64)) (l1 := v13.2.2.1) (l2 := ([x17] : List Int)) h rfl rfl (fun _ => rfl) (fun h => ?_)
        conv => whnf
        exact jeS hk14 h (Weak.refl _)
      conv => whnf
      refine jeX hk14 h ?_
      conv => whnf
      refine WkF.step (Weak.keepS _ [2, 3, 6, 8, 10, 15]) ?_
      conv => whnf
      refine WkF.step (Weak.rekey _ 50900 123 rfl) ?_
      conv => whnf
      refine WkF.step (Weak.rekey _ 50901 128 rfl) ?_
      conv => whnf
      refine WkF.step (Weak.rekey _ 50902 138 rfl) ?_
      conv => whnf
      exact WkF.refl _
    conv => whnf
    refine leX hn13 h ?_
    conv => whnf
    refine WkF.step (Weak.rekey _ 123 50900 rfl) ?_
    conv => whnf
    refine WkF.step (Weak.rekey _ 128 50901 rfl) ?_
    conv => whnf
    refine WkF.step (Weak.rekey _ 138 50902 rfl) ?_
    conv => whnf
    exact WkF.refl _
  conv => whnf
  refine lenS a0.Tasks Task.enc rfl ?_
  conv => whnf
  refine lpS (fun v18 => ⟨[(2, .l (.d (.int .i64 a2))), (3, .l (.ptr 4 0)), (6, .l (.ptr 7 0)), (8, .l (.ptr 9 0)), (10, .l (.d (.int .i64 w7.2.2))), (16, .l (.d (.int .i64 v18.2)))], 160, [], [(4, [.d (.sl (a0.Tasks.map Task.enc)), .d (.sl (a0.Leaves.map eB)), .d (.sl (a0.Lasts.map (eI .i64))), .d (.sl (a0.Jobs.map Job.enc)), .d (.sl (a0.Log.map Entry.enc))]), (7, [.nil, .nil, .nil, .nil, .nil]), (9, [.own 50900, .own 50901, .own 50902, .d (.sl (w7.1.map Job.enc)), .d (.sl (v18.1.map Entry.enc))])], [(50900, 47, 4, v13.1.map Task.enc), (50901, 4, 1, v13.2.1.map eB), (50902, 3, 1, v13.2.2.1.map (eI .i64))]⟩) h (Weak.refl _) (fun _ nx18 hn18 v18 h => ?_)
  conv => whnf
  refine fkS h (fun h => ?_) (fun h => ?_)
  · conv => whnf
    refine jnS (fun w19 => ⟨[(2, .l (.d (.int .i64 a2))), (3, .l (.ptr 4 0)), (6, .l (.ptr 7 0)), (8, .l (.ptr 9 0)), (10, .l (.d (.int .i64 w7.2.2))), (16, .l (.d (.int .i64 v18.2)))], 160, [], [(4, [.d (.sl (a0.Tasks.map Task.enc)), .d (.sl (a0.Leaves.map eB)), .d (.sl (a0.Lasts.map (eI .i64))), .d (.sl (a0.Jobs.map Job.enc)), .d (.sl (a0.Log.map Entry.enc))]), (7, [.nil, .nil, .nil, .nil, .nil]), (9, [.own 50900, .own 50901, .own 50902, .d (.sl (w7.1.map Job.enc)), .d (.sl (w19.map Entry.enc))])], [(50900, 47, 4, v13.1.map Task.enc), (50901, 4, 1, v13.2.1.map eB), (50902, 3, 1, v13.2.2.1.map (eI .i64))]⟩) h (fun k19 hk19 h => ?_) (fun w19 h => ?_)
    · conv => whnf
      refine ixS (enc := eB) h rfl (fun _ => rfl) (fun x20 h => ?_)
      conv => whnf
      refine fkS h (fun h => ?_) (fun h => ?_)
      · conv => whnf
        refine ccS (E := E_ListEntry) h (ref17_noted_w v18.1 a2 (7 : Int) v18.2) rfl rfl (fun x21 h => ?_)
        conv => whnf
        exact jeS hk19 h (Weak.refl _)
      conv => whnf
      refine jeX hk19 h ?_
      conv => whnf
      refine WkF.step (Weak.keepS _ [2, 3, 6, 8, 10, 16]) ?_
      conv => whnf
      exact WkF.refl _
    conv => whnf
    exact leS hn18 h (Weak.refl _)
  conv => whnf
  exact rt (E := E_Ref17State_Int) h rfl

end Go.Proofs.Ytakiggekallckaa
namespace Go.Proofs.Ytakiggekallckaa
open Go Go.VC
/-! A tick. -/
def missJ (t : Int) (js : List Job) : List Job := js.filter (fun j => decide (t < j.Due))
def missG (t : Int) : List Job → List Entry → List Entry
  | [], lg => lg
  | j :: r, lg => missG t r (if t < j.Due then lg else nt lg ⟨t, 6, j.Task⟩)
theorem missG_snoc (t : Int) (j : Job) : ∀ (l : List Job) (lg : List Entry), missG t (l ++ [j]) lg = if t < j.Due then missG t l lg else nt (missG t l lg) ⟨t, 6, j.Task⟩
  | [], lg => by simp only [List.nil_append, missG]
  | a :: r, lg => by simp only [List.cons_append, missG]; exact missG_snoc t j r _
theorem missG_len (t : Int) : ∀ (l : List Job) {lg : List Entry}, lg.length ≤ 2000 → (missG t l lg).length ≤ 2000
  | [], lg, h => h
  | a :: r, lg, h => by
    unfold missG
    refine missG_len t r ?_
    split
    · exact h
    · exact nt_len h
theorem missJ_snoc (t : Int) (l : List Job) (j : Job) : missJ t (l ++ [j]) = if t < j.Due then missJ t l ++ [j] else missJ t l := by
  unfold missJ
  rw [List.filter_append]
  split
  · rename_i h; rw [List.filter_cons_of_pos (by simpa using h)]; rfl
  · rename_i h; rw [List.filter_cons_of_neg (by simpa using h)]; simp
theorem jobsP_sub {l : List Task} {js js' : List Job} (h : jobsP l js) (hs : js'.Sublist js) : jobsP l js' :=
  ⟨h.1, Nat.le_trans hs.length_le h.2.1, fun j hj => h.2.2.1 j (hs.subset hj), h.2.2.2.sublist hs⟩
theorem jobsP_miss {l : List Task} {js : List Job} (t : Int) (h : jobsP l js) : jobsP l (missJ t js) := jobsP_sub h (List.filter_sublist)
noncomputable def runV (l : List Task) (js : List Job) (lg : List Entry) (g : Bool) (t : Int) : List Job × List Entry × Int :=
  if g = true ∧ 0 < js.length then ((tick l js).1, (if (tick l js).2.2 = true then nt lg ⟨t, (if taskC l (tick l js).2.1 < (tick l js).2.1.Want then 5 else 4), (tick l js).2.1.Task⟩ else lg), (tick l js).2.1.Task) else (js, lg, -1)
def keepB {α : Type} : List Bool → List α → List α
  | b :: bs, x :: xs => if b = true then keepB bs xs else x :: keepB bs xs
  | _, _ => []
theorem keepB_drop {α : Type} {b : List Bool} {l : List α} {i : Nat} (hb : i < b.length) (hl : i < l.length) : keepB (b.drop i) (l.drop i) = if b[i] = true then keepB (b.drop (i + 1)) (l.drop (i + 1)) else l[i] :: keepB (b.drop (i + 1)) (l.drop (i + 1)) := by
  rw [List.drop_eq_getElem_cons hb, List.drop_eq_getElem_cons hl]; rfl
theorem keepB_snoc {α : Type} (x : α) (c : Bool) : ∀ (b : List Bool) (l : List α), b.length = l.length → keepB (b ++ [c]) (l ++ [x]) = keepB b l ++ (if c = true then [] else [x])
  | [], [], _ => by simp only [List.nil_append, keepB]
  | [], _ :: _, h => by simp at h
  | _ :: _, [], h => by simp at h
  | a :: b, y :: l, h => by
    simp only [List.cons_append, keepB]
    rw [keepB_snoc x c b l (by simpa using h)]
    split <;> rfl
theorem keepB_nil {α : Type} (l : List α) : keepB [] l = [] := by cases l <;> rfl
theorem keepB_len {α : Type} : ∀ (b : List Bool) (l : List α), (keepB b l).length ≤ l.length
  | [], l => by rw [keepB_nil]; exact Nat.zero_le _
  | _ :: _, [] => Nat.le_refl _
  | b :: bs, x :: xs => by
    have := keepB_len bs xs
    simp only [keepB]
    split
    · simp only [List.length_cons]; omega
    · simp only [List.length_cons]; omega
theorem keepB_sub {α : Type} : ∀ (b : List Bool) (l : List α), (keepB b l).Sublist l
  | [], l => by rw [keepB_nil]; exact List.nil_sublist _
  | _ :: _, [] => List.Sublist.refl _
  | b :: bs, x :: xs => by
    have := keepB_sub bs xs
    simp only [keepB]
    split
    · exact this.cons _
    · exact this.cons_cons _
theorem keepB_len_eq {α β : Type} : ∀ (b : List Bool) (l : List α) (m : List β), l.length = m.length → (keepB b l).length = (keepB b m).length
  | [], l, m, _ => by rw [keepB_nil, keepB_nil]; rfl
  | _ :: _, [], [], _ => rfl
  | _ :: _, [], _ :: _, h => by simp at h
  | _ :: _, _ :: _, [], h => by simp at h
  | b :: bs, x :: xs, y :: ys, h => by
    have := keepB_len_eq bs xs ys (by simpa using h)
    simp only [keepB]
    split
    · exact this
    · simp only [List.length_cons]; omega
def leftG (b : List Bool) (t : Int) : Nat → List Entry → List Entry
  | 0, lg => lg
  | n + 1, lg => leftG b t n (if (b[n]?).getD false = true then nt lg ⟨t, 7, (n : Int)⟩ else lg)
theorem leftG_len (b : List Bool) (t : Int) : ∀ (n : Nat) {lg : List Entry}, lg.length ≤ 2000 → (leftG b t n lg).length ≤ 2000
  | 0, lg, h => h
  | n + 1, lg, h => by
    unfold leftG
    refine leftG_len b t n ?_
    split
    · exact nt_len h
    · exact h
noncomputable def tickR (s : PartState) (g : Bool) (t : Int) : List Job × List Entry × Int := runV s.Tasks (missJ t s.Jobs) (missG t s.Jobs s.Log) g t
noncomputable def tickV (s : PartState) (g : Bool) (t : Int) : PartState × Int :=
  if (tickR s g t).1.length = 0 then (⟨keepB s.Leaves s.Tasks, keepB s.Leaves s.Leaves, keepB s.Leaves s.Lasts, (tickR s g t).1, leftG s.Leaves t s.Tasks.length (tickR s g t).2.1⟩, (tickR s g t).2.2)
  else (⟨s.Tasks, s.Leaves, s.Lasts, (tickR s g t).1, (tickR s g t).2.1⟩, (tickR s g t).2.2)
theorem tick_over {l : List Task} {js : List Job} (h : (tick l js).2.2 = true) : 0 ≤ (tick l js).2.1.Task ∧ ∃ hl : (tick l js).2.1.Task.toNat < l.length, l[(tick l js).2.1.Task.toNat].C = taskC l (tick l js).2.1 := by
  unfold tick at h
  split at h
  rotate_left
  · cases h
  rename_i hh
  obtain ⟨t0, _, _, t3, _⟩ := hh.1.2.2.1 _ (List.getElem_mem hh.2.2)
  have e : (tick l js).2.1 = upd js[(cho l js).toNat] := by unfold tick; rw [dif_pos hh]
  rw [e]
  refine ⟨t0, t3, ?_⟩
  unfold taskC
  rw [List.getElem?_eq_getElem (show (upd js[(cho l js).toNat]).Task.toNat < l.length from t3)]
  rfl
/-- What leaves, index by index from the last one down. -/
theorem left_down {R : Type} {L : List Bool} {T : List Task} {A : List Int} {t : Int} {r : R} (h1 : L.length = T.length) (h2 : A.length = T.length) (h8 : T.length ≤ 8) (lg : List Entry)
    (K : List Task → List Bool → List Int → List Entry → Option R) (hK : K (keepB L T) (keepB L L) (keepB L A) (leftG L t T.length lg) = some r)
    {body : ((List Task) × (List Bool) × (List Int) × (List Entry) × Int → Option R) → (List Task) × (List Bool) × (List Int) × (List Entry) × Int → Option R}
    (h0 : ∀ nx T' L' A' g', body nx (T', L', A', g', -1) = K T' L' A' g')
    (hs : ∀ nx T' L' A' g' (m : Nat) (hm : m < L'.length), m < T'.length → m < A'.length → L'.length ≤ 8 → T'.length ≤ 8 → A'.length ≤ 8 → body nx (T', L', A', g', (m : Int)) = if L'[m] = true then nx (T'.take m ++ T'.drop (m + 1), L'.take m ++ L'.drop (m + 1), A'.take m ++ A'.drop (m + 1), nt g' ⟨t, 7, (m : Int)⟩, (m : Int) - 1) else nx (T', L', A', g', (m : Int) - 1)) :
    lp body FU (T, L, A, lg, (T.length : Int) - 1) = some r := by
  have cut : ∀ {α : Type} (X : List α) (m : Nat), X.length = T.length → m < T.length → ∀ (Y : List α), (X.take (m + 1) ++ Y).take m ++ (X.take (m + 1) ++ Y).drop (m + 1) = X.take m ++ Y := by
    intro α X m hX hm Y
    have e : (X.take (m + 1)).length = m + 1 := by rw [List.length_take]; omega
    rw [List.take_append_of_le_length (by omega), List.drop_left' e, List.take_take, Nat.min_eq_left (by omega)]
  have put : ∀ {α : Type} (X : List α) (m : Nat) (hX : m < X.length) (Y : List α), X.take (m + 1) ++ Y = X.take m ++ (X[m] :: Y) := by
    intro α X m hX Y
    rw [← List.take_append_getElem hX, List.append_assoc]; rfl
  refine lp_inv (fun v => (v.2.2.2.2 + 1).toNat) (fun v => ∃ (m : Nat) (g : List Entry), m ≤ T.length ∧ v = (T.take m ++ keepB (L.drop m) (T.drop m), L.take m ++ keepB (L.drop m) (L.drop m), A.take m ++ keepB (L.drop m) (A.drop m), g, (m : Int) - 1) ∧ leftG L t m g = leftG L t T.length lg) ?_ FU _ ⟨T.length, lg, Nat.le_refl _, ?_, rfl⟩ (by unfold FU; simp only; omega)
  rotate_left
  · rw [← h1, List.drop_length, keepB_nil, keepB_nil, keepB_nil, List.take_length, h1, List.take_length, ← h2, List.take_length, List.append_nil, List.append_nil, List.append_nil]
  rintro nx v ⟨m, g, hm, rfl, hg⟩ hnx
  cases m with
  | zero =>
    simp only [leftG] at hg
    show body nx (_, _, _, _, -1) = _
    rw [h0, List.take_zero, List.take_zero, List.take_zero, List.drop_zero, List.drop_zero, List.drop_zero, List.nil_append, List.nil_append, List.nil_append, hg]
    exact hK
  | succ m =>
    rw [show ((m + 1 : Nat) : Int) - 1 = (m : Int) by omega]
    have l1 := keepB_len (L.drop (m + 1)) (L.drop (m + 1))
    have l2 := keepB_len (L.drop (m + 1)) (T.drop (m + 1))
    have l3 := keepB_len (L.drop (m + 1)) (A.drop (m + 1))
    simp only [List.length_drop] at l1 l2 l3
    have mL : m < L.length := by omega
    have mA : m < A.length := by omega
    have hmL : m < (L.take (m + 1) ++ keepB (L.drop (m + 1)) (L.drop (m + 1))).length := by simp only [List.length_append, List.length_take]; omega
    rw [hs nx _ _ _ g m hmL (by simp only [List.length_append, List.length_take]; omega) (by simp only [List.length_append, List.length_take]; omega) (by simp only [List.length_append, List.length_take]; omega) (by simp only [List.length_append, List.length_take]; omega) (by simp only [List.length_append, List.length_take]; omega)]
    have eL : (L.take (m + 1) ++ keepB (L.drop (m + 1)) (L.drop (m + 1)))[m] = L[m] := by
      rw [List.getElem_append_left (by rw [List.length_take]; omega), List.getElem_take]
    have eo : (L[m]?).getD false = L[m] := by rw [List.getElem?_eq_getElem mL]; rfl
    rw [eL]
    have hg : leftG L t m (if (L[m]?).getD false = true then nt g ⟨t, 7, (m : Int)⟩ else g) = leftG L t T.length lg := hg
    rw [eo] at hg
    by_cases c : L[m] = true
    · rw [if_pos c, cut T m rfl (by omega), cut L m h1 (by omega), cut A m h2 (by omega)]
      rw [if_pos c] at hg
      refine hnx _ ⟨m, _, by omega, ?_, hg⟩ (by simp only; omega)
      rw [keepB_drop mL (show m < T.length by omega), keepB_drop mL mL, keepB_drop mL mA, if_pos c, if_pos c, if_pos c]
    · rw [if_neg c, put T m (by omega), put L m mL, put A m mA]
      rw [if_neg c] at hg
      refine hnx _ ⟨m, _, by omega, ?_, hg⟩ (by simp only; omega)
      rw [keepB_drop mL (show m < T.length by omega), keepB_drop mL mL, keepB_drop mL mA, if_neg c, if_neg c, if_neg c]
theorem without_eq1 (l : List Task) (m : Nat) (h : m < l.length) (h8 : l.length ≤ 8) : part_without_api_Task l (m : Int) = some (l.take m ++ l.drop (m + 1)) := by
  have e : ((m : Int) + 1).toNat = m + 1 := by omega
  unfold part_without_api_Task
  rw [wr_in _ (by omega), ck_t (by simp; omega), ck_t (by simp; omega), ck_t (by simp; omega), ck_t (by simp; omega)]
  simp [e]
theorem without_eq2 (l : List Bool) (m : Nat) (h : m < l.length) (h8 : l.length ≤ 8) : part_without_bool l (m : Int) = some (l.take m ++ l.drop (m + 1)) := by
  have e : ((m : Int) + 1).toNat = m + 1 := by omega
  unfold part_without_bool
  rw [wr_in _ (by omega), ck_t (by simp; omega), ck_t (by simp; omega), ck_t (by simp; omega), ck_t (by simp; omega)]
  simp [e]
theorem without_eq3 (l : List Int) (m : Nat) (h : m < l.length) (h8 : l.length ≤ 8) : part_without_int l (m : Int) = some (l.take m ++ l.drop (m + 1)) := by
  have e : ((m : Int) + 1).toNat = m + 1 := by omega
  unfold part_without_int
  rw [wr_in _ (by omega), ck_t (by simp; omega), ck_t (by simp; omega), ck_t (by simp; omega), ck_t (by simp; omega)]
  simp [e]
theorem jn_to {σ R : Type} {Y : σ → Option R} {X : (σ → Option R) → Option R} {r : Option R} (v : σ) (hX : ∀ k, X k = k v) (hY : Y v = r) : jn Y X = r := by
  rw [jn_eq, hX]; exact hY
theorem part_Tick_eq (s : PartState) (g : Bool) (t : Int) (hb : StB s) : part_Tick s g t = some (if stP s ∧ whenP t then ((tickV s g t).1, (tickV s g t).2, 0) else (s, -1, 1)) := by
  unfold part_Tick
  refine jn_to (!decide (stP s ∧ whenP t)) ?_ ?_
  · intro k
    rw [bnd_eq (part_Right_eq s hb)]
    by_cases h1 : stP s
    rotate_left
    · rw [decide_eq_false h1, Bool.not_false, fk_t, decide_eq_false (fun h => h1 h.1)]; rfl
    rw [decide_eq_true h1, Bool.not_true, fk_f, bnd_eq (part_when_eq t)]
    by_cases h2 : whenP t
    · rw [decide_eq_true h2, decide_eq_true ⟨h1, h2⟩]
    · rw [decide_eq_false h2, decide_eq_false (fun h => h2 h.2)]
  by_cases hh : stP s ∧ whenP t
  rotate_left
  · rw [decide_eq_false hh, Bool.not_false, fk_t, if_neg hh]
  obtain ⟨h1, h2⟩ := hh
  have hLl := h1.1
  have hLs := h1.2.1.2.1
  have hT8 := AllP_len h1.2.1.1
  have hJ := h1.2.2.1.2.1
  have hG := h1.2.2.2
  rw [decide_eq_true (⟨h1, h2⟩ : stP s ∧ whenP t), Bool.not_true, fk_f, if_pos ⟨h1, h2⟩, ck_t (by simp; omega), List.nil_append]
  refine lp_inv (fun v => s.Jobs.length - v.2.2.toNat) (fun v => ∃ k : Nat, v = (missJ t (s.Jobs.take k), missG t (s.Jobs.take k) s.Log, (k : Int)) ∧ k ≤ s.Jobs.length) ?_ FU _ ⟨0, rfl, Nat.zero_le _⟩ (by unfold FU; simp only; omega)
  rintro nx v ⟨k, rfl, hk⟩ hnx
  dsimp only
  have hgl := missG_len t (s.Jobs.take k) hG
  have hjl : (missJ t (s.Jobs.take k)).length ≤ 32 := by
    have h1 : (missJ t (s.Jobs.take k)).length ≤ (s.Jobs.take k).length := List.length_filter_le _ _
    rw [List.length_take] at h1; omega
  rw [lt_nat]
  by_cases hk' : k < s.Jobs.length
  · rw [decide_eq_true hk', fk_t, jn_eq, ix_lt hk', wr_succ k _ hk' (by omega)]
    have nxt := hnx (missJ t (s.Jobs.take (k + 1)), missG t (s.Jobs.take (k + 1)) s.Log, ((k + 1 : Nat) : Int)) ⟨k + 1, rfl, hk'⟩ (by simp only [Int.toNat_natCast]; omega)
    rw [← List.take_append_getElem hk', missJ_snoc, missG_snoc] at nxt
    by_cases c : t < s.Jobs[k].Due
    · rw [if_pos c, if_pos c] at nxt
      rw [decide_eq_true (show s.Jobs[k].Due > t from c), fk_t, ck_t (by simp; omega)]
      exact nxt
    · rw [if_neg c, if_neg c] at nxt
      rw [decide_eq_false (show ¬ s.Jobs[k].Due > t from c), fk_f]
      exact (nt_fk (missG t (s.Jobs.take k) s.Log) ⟨t, 6, s.Jobs[k].Task⟩ (fun lg => nx (missJ t (s.Jobs.take k), lg, ((k + 1 : Nat) : Int)))).trans nxt
  rw [decide_eq_false hk', fk_f, show k = s.Jobs.length by omega, List.take_length]
  have hpm := jobsP_miss t h1.2.2.1
  have hml : (missJ t s.Jobs).length ≤ 32 := hpm.2.1
  have hgl := missG_len t s.Jobs hG
  refine jn_to (tickR s g t) ?_ ?_
  · intro k7
    unfold tickR runV
    cases g with
    | false => rw [fk_f, if_neg (fun h => by cases h.1)]
    | true =>
      rw [fk_t, bnd_eq (srp_Tick_eq _ _ hb.t)]
      by_cases c0 : (missJ t s.Jobs).length = 0
      · rw [decide_eq_true (by omega), fk_t, if_neg (fun h => by omega)]
      rw [decide_eq_false (by omega), fk_f, if_pos ⟨rfl, by omega⟩]
      cases ov : (tick s.Tasks (missJ t s.Jobs)).2.2 with
      | false =>
        refine jn_to false (fun k => by rw [fk_f]) ?_
        rw [fk_f, fk_f, if_neg (by simp)]
      | true =>
        obtain ⟨t0, t3, eC⟩ := tick_over ov
        by_cases c5 : taskC s.Tasks (tick s.Tasks (missJ t s.Jobs)).2.1 < (tick s.Tasks (missJ t s.Jobs)).2.1.Want
        · refine jn_to true (fun k => ?_) ?_
          · rw [fk_t, ix_int t0 t3, eC, decide_eq_true (show _ > _ from c5)]
          rw [fk_t, if_pos rfl, if_pos c5]
          exact nt_fk _ ⟨t, 5, (tick s.Tasks (missJ t s.Jobs)).2.1.Task⟩ (fun lg => k7 ((tick s.Tasks (missJ t s.Jobs)).1, lg, (tick s.Tasks (missJ t s.Jobs)).2.1.Task))
        · refine jn_to false (fun k => ?_) ?_
          · rw [fk_t, ix_int t0 t3, eC, decide_eq_false (show ¬ _ > _ from c5)]
          rw [fk_f, fk_t, if_pos rfl, if_neg c5]
          exact nt_fk _ ⟨t, 4, (tick s.Tasks (missJ t s.Jobs)).2.1.Task⟩ (fun lg => k7 ((tick s.Tasks (missJ t s.Jobs)).1, lg, (tick s.Tasks (missJ t s.Jobs)).2.1.Task))
  rw [jn_eq]
  by_cases c0 : (tickR s g t).1.length = 0
  rotate_left
  · rw [decide_eq_false (by omega), fk_f]
    unfold tickV
    rw [if_neg c0]
  rw [decide_eq_true (by omega), fk_t, wr_in _ (by omega)]
  unfold tickV
  rw [if_pos c0]
  refine left_down (t := t) hLl hLs hT8 (tickR s g t).2.1 (fun T' L' A' g' => some ((⟨T', L', A', (tickR s g t).1, g'⟩ : PartState), (tickR s g t).2.2, (0 : Int))) rfl ?_ ?_
  · intro nx T' L' A' g'
    dsimp only
    rw [decide_eq_false (by omega), fk_f]
  · intro nx T' L' A' g' m hm hmT hmA h8L h8T h8A
    dsimp only
    rw [decide_eq_true (by omega), fk_t, jn_eq, ix_lt hm, wr_in _ (by omega)]
    by_cases c : L'[m] = true
    · rw [if_pos c, c, fk_t, bnd_eq (without_eq1 _ _ hmT h8T), bnd_eq (without_eq2 _ _ hm h8L), bnd_eq (without_eq3 _ _ hmA h8A)]
      exact nt_fk g' ⟨t, 7, (m : Int)⟩ (fun lg => nx (_, _, _, lg, (m : Int) - 1))
    · rw [if_neg c, Bool.eq_false_iff.2 c, fk_f]
end Go.Proofs.Ytakiggekallckaa
namespace Go.Proofs.Ytakiggekallckaa
open Go Go.VC
theorem ref17_Tick_eq (s : PartState) (g : Bool) (t : Int) (hb : StB s) (h1 : stP s) : ref17_Tick (toR s) g t = some (toR (tickV s g t).1, (tickV s g t).2) := by
  have hLl := h1.1
  have hLs := h1.2.1.2.1
  have hT8 := AllP_len h1.2.1.1
  have hJ := h1.2.2.1.2.1
  have hG := h1.2.2.2
  unfold ref17_Tick toR
  dsimp only
  refine lp_inv (fun v => s.Jobs.length - v.2.2.toNat) (fun v => ∃ k : Nat, v = (missG t (s.Jobs.take k) s.Log, missJ t (s.Jobs.take k), (k : Int)) ∧ k ≤ s.Jobs.length) ?_ FU _ ⟨0, rfl, Nat.zero_le _⟩ (by unfold FU; simp only; omega)
  rintro nx v ⟨k, rfl, hk⟩ hnx
  dsimp only
  have hjl : (missJ t (s.Jobs.take k)).length ≤ 32 := by
    have h1 : (missJ t (s.Jobs.take k)).length ≤ (s.Jobs.take k).length := List.length_filter_le _ _
    rw [List.length_take] at h1; omega
  rw [lt_nat]
  by_cases hk' : k < s.Jobs.length
  · rw [decide_eq_true hk', fk_t, jn_eq, ix_lt hk', ix_lt hk', ix_lt hk', wr_succ k _ hk' (by omega)]
    have nxt := hnx (missG t (s.Jobs.take (k + 1)) s.Log, missJ t (s.Jobs.take (k + 1)), ((k + 1 : Nat) : Int)) ⟨k + 1, rfl, hk'⟩ (by simp only [Int.toNat_natCast]; omega)
    rw [← List.take_append_getElem hk', missJ_snoc, missG_snoc] at nxt
    by_cases c : t < s.Jobs[k].Due
    · rw [if_pos c, if_pos c] at nxt
      rw [decide_eq_false (by omega), fk_f, ck_t (by simp; omega)]
      exact nxt
    · rw [if_neg c, if_neg c] at nxt
      rw [decide_eq_true (by omega), fk_t, bnd_eq (ref17_noted_eq _ _ _ _)]
      exact nxt
  rw [decide_eq_false hk', fk_f, show k = s.Jobs.length by omega, List.take_length]
  have hpm := jobsP_miss t h1.2.2.1
  have hml : (missJ t s.Jobs).length ≤ 32 := hpm.2.1
  refine jn_to (tickR s g t) ?_ ?_
  · intro k7
    unfold tickR runV
    refine jn_to (g && decide (0 < (missJ t s.Jobs).length)) (fun k8 => ?_) ?_
    · cases g with
      | false => rw [fk_f]; rfl
      | true => rw [fk_t]; simp only [Bool.true_and]; exact congrArg k8 (decide_eq_decide.2 (by omega))
    by_cases c0 : g = true ∧ 0 < (missJ t s.Jobs).length
    rotate_left
    · rw [if_neg c0, show (g && decide (0 < (missJ t s.Jobs).length)) = false by
        rw [Bool.eq_false_iff]; intro h; rw [Bool.and_eq_true, decide_eq_true_eq] at h; exact c0 h, fk_f]
    rw [if_pos c0, show (g && decide (0 < (missJ t s.Jobs).length)) = true by
        rw [Bool.and_eq_true, decide_eq_true_eq]; exact c0, fk_t, bnd_eq (ref15_Tick_eq _ _ hpm)]
    cases ov : (tick s.Tasks (missJ t s.Jobs)).2.2 with
    | false => rw [fk_f, if_neg (by simp)]
    | true =>
      obtain ⟨t0, t3, eC⟩ := tick_over ov
      rw [fk_t, if_pos rfl]
      refine jn_to (if taskC s.Tasks (tick s.Tasks (missJ t s.Jobs)).2.1 < (tick s.Tasks (missJ t s.Jobs)).2.1.Want then 5 else 4) (fun k => ?_) ?_
      · rw [ix_int t0 t3, eC]
        by_cases c5 : taskC s.Tasks (tick s.Tasks (missJ t s.Jobs)).2.1 < (tick s.Tasks (missJ t s.Jobs)).2.1.Want
        · rw [decide_eq_true (show _ > _ from c5), fk_t, if_pos c5]
        · rw [decide_eq_false (show ¬ _ > _ from c5), fk_f, if_neg c5]
      rw [bnd_eq (ref17_noted_eq _ _ _ _)]
  by_cases c0 : (tickR s g t).1.length = 0
  rotate_left
  · rw [decide_eq_true (by omega), fk_t]
    unfold tickV
    rw [if_neg c0]
  rw [decide_eq_false (by omega), fk_f]
  unfold tickV
  rw [if_pos c0]
  refine lp_inv (fun v => s.Tasks.length - v.2.2.2.toNat) (fun v => ∃ k : Nat, v = (keepB (s.Leaves.take k) (s.Tasks.take k), keepB (s.Leaves.take k) (s.Leaves.take k), keepB (s.Leaves.take k) (s.Lasts.take k), (k : Int)) ∧ k ≤ s.Tasks.length) ?_ FU _ ⟨0, rfl, Nat.zero_le _⟩ (by unfold FU; simp only; omega)
  rintro nx v ⟨k, rfl, hk⟩ hnx
  dsimp only
  rw [lt_nat]
  by_cases hk' : k < s.Tasks.length
  · have hkL : k < s.Leaves.length := by omega
    have hkA : k < s.Lasts.length := by omega
    rw [decide_eq_true hk', fk_t, jn_eq, ix_lt hkL, wr_succ k _ hk' (by omega)]
    have nxt := hnx (keepB (s.Leaves.take (k + 1)) (s.Tasks.take (k + 1)), keepB (s.Leaves.take (k + 1)) (s.Leaves.take (k + 1)), keepB (s.Leaves.take (k + 1)) (s.Lasts.take (k + 1)), ((k + 1 : Nat) : Int)) ⟨k + 1, rfl, hk'⟩ (by simp only [Int.toNat_natCast]; omega)
    have lT : (s.Leaves.take k).length = (s.Tasks.take k).length := by rw [List.length_take, List.length_take]; omega
    have lA : (s.Leaves.take k).length = (s.Lasts.take k).length := by rw [List.length_take, List.length_take]; omega
    rw [← List.take_append_getElem hk', ← List.take_append_getElem hkL, ← List.take_append_getElem hkA, keepB_snoc _ _ _ _ lT, keepB_snoc _ _ _ _ rfl, keepB_snoc _ _ _ _ lA] at nxt
    have b1 := keepB_len (s.Leaves.take k) (s.Tasks.take k)
    have b2 := keepB_len (s.Leaves.take k) (s.Leaves.take k)
    have b3 := keepB_len (s.Leaves.take k) (s.Lasts.take k)
    rw [List.length_take] at b1 b2 b3
    cases c : s.Leaves[k] with
    | true =>
      rw [c, if_pos rfl, if_pos rfl, if_pos rfl, List.append_nil, List.append_nil, List.append_nil] at nxt
      rw [Bool.not_true, fk_f]
      exact nxt
    | false =>
      rw [c, if_neg (by simp), if_neg (by simp), if_neg (by simp)] at nxt
      rw [Bool.not_false, fk_t, ix_lt hk', ck_t (by simp; omega), ck_t (by simp; omega), ix_lt hkA, ck_t (by simp; omega)]
      exact nxt
  rw [decide_eq_false hk', fk_f, show k = s.Tasks.length by omega, wr_in _ (by omega), List.take_length, ← hLl, List.take_length, hLl, ← hLs, List.take_length, hLs]
  refine lp_inv (fun v => (v.2 + 1).toNat) (fun v => ∃ (m : Nat) (lg : List Entry), m ≤ s.Tasks.length ∧ v = (lg, (m : Int) - 1) ∧ leftG s.Leaves t m lg = leftG s.Leaves t s.Tasks.length (tickR s g t).2.1) ?_ FU _ ⟨s.Tasks.length, _, Nat.le_refl _, rfl, rfl⟩ (by unfold FU; simp only; omega)
  rintro nx v ⟨m, lg, hm, rfl, hg⟩ hnx
  dsimp only
  cases m with
  | zero =>
    rw [decide_eq_false (by omega), fk_f]
    simp only [leftG] at hg
    rw [hg]
  | succ m =>
    have hmL : m < s.Leaves.length := by omega
    have e : ((m + 1 : Nat) : Int) - 1 = (m : Int) := by omega
    rw [decide_eq_true (by omega), fk_t, jn_eq, e, ix_lt hmL, wr_in _ (by omega)]
    have hg : leftG s.Leaves t m (if (s.Leaves[m]?).getD false = true then nt lg ⟨t, 7, (m : Int)⟩ else lg) = leftG s.Leaves t s.Tasks.length (tickR s g t).2.1 := hg
    rw [show (s.Leaves[m]?).getD false = s.Leaves[m] by rw [List.getElem?_eq_getElem hmL]; rfl] at hg
    cases c : s.Leaves[m] with
    | true =>
      rw [c, if_pos rfl] at hg
      rw [fk_t, bnd_eq (ref17_noted_eq _ _ _ _)]
      exact hnx _ ⟨m, _, by omega, rfl, hg⟩ (by simp only; omega)
    | false =>
      rw [c, if_neg (by simp)] at hg
      rw [fk_f]
      exact hnx _ ⟨m, _, by omega, rfl, hg⟩ (by simp only; omega)
end Go.Proofs.Ytakiggekallckaa
namespace Go.Proofs.Ytakiggekallckaa
open Go Go.VC
/-! How long what comes out is. -/
theorem nt_le (lg : List Entry) (e : Entry) : (nt lg e).length ≤ lg.length + 1 := by
  unfold nt; split
  · rw [List.length_append]; exact Nat.le_refl _
  · omega
theorem SameB.rel {s : PartState} {i w t : Int} (hb : StB s) (hg : ¬ greatS s) : SameB (toR (relV s i w t).1) := by
  have h0 := SameB.of hb hg
  unfold greatS at hg
  unfold relV
  split
  rotate_left
  · exact h0
  split
  · exact h0
  split
  rotate_left
  · have := nt_le s.Log ⟨t, 2, i⟩
    exact ⟨h0.t, h0.u, h0.l, h0.a, h0.j, by show (nt s.Log ⟨t, 2, i⟩).length ≤ _; omega⟩
  split
  rotate_left
  · have := nt_le s.Log ⟨t, 3, i⟩
    exact ⟨h0.t, h0.u, h0.l, h0.a, h0.j, by show (nt s.Log ⟨t, 3, i⟩).length ≤ _; omega⟩
  have := nt_le s.Log ⟨t, 1, i⟩
  refine ⟨h0.t, h0.u, h0.l, ?_, ?_, by show (nt s.Log ⟨t, 1, i⟩).length ≤ _; omega⟩
  · show (s.Lasts.set i.toNat t).length ≤ _
    rw [List.length_set]; omega
  · show (s.Jobs ++ [newJob s.Tasks i w t]).length ≤ _
    rw [List.length_append]; simp; omega
theorem tick_sub {l : List Task} {js : List Job} : (tick l js).1.length ≤ js.length := by
  unfold tick
  split
  · rename_i h
    show (tickN l js (cho l js).toNat h.2.2).length ≤ _
    unfold tickN
    split
    · rw [List.length_eraseIdx]; split <;> omega
    · rw [List.length_set]; omega
  · exact Nat.le_refl _
theorem SameB.tick {s : PartState} {g : Bool} {t : Int} (hb : StB s) (h1 : stP s) : SameB (toR (tickV s g t).1) := by
  have h0 := SameB.of_st hb h1
  have hG := h1.2.2.2
  have hT8 := AllP_len h1.2.1.1
  have hj : (tickR s g t).1.length ≤ 32 := by
    have hm := (jobsP_miss t h1.2.2.1).2.1
    have := tick_sub (l := s.Tasks) (js := missJ t s.Jobs)
    unfold tickR runV
    split <;> simp only <;> omega
  have hl : (tickR s g t).2.1.length ≤ 2000 := by
    have hm := missG_len t s.Jobs hG
    unfold tickR runV
    split
    · simp only
      split
      · exact nt_len hm
      · exact hm
    · exact hm
  unfold tickV
  split
  · have k1 := keepB_len s.Leaves s.Tasks
    have k2 := keepB_len s.Leaves s.Leaves
    have k3 := keepB_len s.Leaves s.Lasts
    have hL := h1.1
    have hA := h1.2.1.2.1
    have k4 := leftG_len s.Leaves t s.Tasks.length hl
    refine ⟨?_, fun x hx => hb.u x ((keepB_sub _ _).subset hx), ?_, ?_, ?_, ?_⟩ <;> simp only [toR] <;> omega
  · refine ⟨h0.t, h0.u, h0.l, h0.a, ?_, ?_⟩ <;> simp only [toR] <;> omega
end Go.Proofs.Ytakiggekallckaa
namespace Go.Proofs.Ytakiggekallckaa
open Go Go.VC
noncomputable def part_Add (a0 : PartState) (a1 : Task) : Option (PartState × Int) :=
  jn (fun (w1 : Bool) => fk w1 (some (a0, (1 : Int))) (fk (decide ((a0.Tasks.length : Int) ≥ (8 : Int))) (some (a0, (3 : Int))) (ck (decide ((([] : List Sec).length + a1.Secs.length) * 24 ≤ 140737488355328)) (ck (decide ((([] : List Task).length + a0.Tasks.length) * 48 ≤ 140737488355328)) (ck (decide (((([] : List Task) ++ a0.Tasks).length + ([⟨a1.C, a1.D, a1.T, ([] : List Sec) ++ a1.Secs⟩] : List Task).length) * 48 ≤ 140737488355328)) (ck (decide ((([] : List Bool).length + a0.Leaves.length) * 1 ≤ 140737488355328)) (ck (decide (((([] : List Bool) ++ a0.Leaves).length + ([false] : List Bool).length) * 1 ≤ 140737488355328)) (ck (decide ((([] : List Int).length + a0.Lasts.length) * 8 ≤ 140737488355328)) (ck (decide (((([] : List Int) ++ a0.Lasts).length + ([(-1 : Int)] : List Int).length) * 8 ≤ 140737488355328)) (some (⟨(([] : List Task) ++ a0.Tasks) ++ ([⟨a1.C, a1.D, a1.T, ([] : List Sec) ++ a1.Secs⟩] : List Task), (([] : List Bool) ++ a0.Leaves) ++ ([false] : List Bool), (([] : List Int) ++ a0.Lasts) ++ ([(-1 : Int)] : List Int), a0.Jobs, a0.Log⟩, (0 : Int)))))))))))) (fun k1 => bnd (part_Right a0) fun x2 => fk (!x2) (k1 true) (bnd (task_Right a1) fun x3 => k1 (!x3)))
theorem part_Add_w (a0 : PartState) (a1 : Task) (r : PartState × Int) (h : part_Add a0 a1 = some r) : Go.VC.Spec Try.prog 23 [.agg (PartState.enc a0), .agg (Task.enc a1)] (fun y => y = E_PartState_Int r) := by
  refine Go.VC.Spec.of_xc (args := [.agg (PartState.enc a0), .agg (Task.enc a1)]) (fn := Try.f23) tab ⟨[(0, [2, 3, 4]), (1, [2, 3, 4, 6]), (2, [4, 5]), (3, [2, 3, 4, 16]), (4, [4, 5]), (5, [2, 3, 4]), (6, [2, 4]), (7, [2, 4]), (8, [2, 4]), (9, [4, 5])], [], [100006], [(26, [26])]⟩ 50 [.cell 4 28, .tmp 5] rfl rfl rfl rfl rfl rfl ?_
  conv => whnf
  refine jnS (fun w1 => ⟨[(2, .l (.ptr 3 0)), (3, .l (.ptr 4 0)), (4, .l (.ptr 5 0)), (6, .l (.d (.bool w1)))], 50, [], [(3, [.d (.sl (a0.Tasks.map Task.enc)), .d (.sl (a0.Leaves.map eB)), .d (.sl (a0.Lasts.map (eI .i64))), .d (.sl (a0.Jobs.map Job.enc)), .d (.sl (a0.Log.map Entry.enc))]), (4, [.d (.int .i64 a1.C), .d (.int .i64 a1.D), .d (.int .i64 a1.T), .d (.sl (a1.Secs.map Sec.enc))]), (5, [.nil, .nil, .nil, .nil, .nil])], []⟩) h (fun k1 hk1 h => ?_) (fun w1 h => ?_)
  · conv => whnf
    refine caS (E := E_Bool) h (part_Right_w a0) rfl (fun _ => rfl) (fun x2 h => ?_)
    conv => whnf
    refine fkS h (fun h => ?_) (fun h => ?_)
    · conv => whnf
      exact jeS hk1 h (Weak.refl _)
    conv => whnf
    refine caS (E := E_Bool) h (task_Right_w a1) rfl (fun _ => rfl) (fun x3 h => ?_)
    conv => whnf
    exact jeS hk1 h (Weak.refl _)
  conv => whnf
  refine fkS h (fun h => ?_) (fun h => ?_)
  · conv => whnf
    exact rt (E := E_PartState_Int) h rfl
  conv => whnf
  refine lenS a0.Tasks Task.enc rfl ?_
  conv => whnf
  refine fkS h (fun h => ?_) (fun h => ?_)
  · conv => whnf
    exact rt (E := E_PartState_Int) h rfl
  conv => whnf
  refine liS ([] : List Sec) Sec.enc rfl rfl ?_
  conv => whnf
  refine apS (enc := Sec.enc) (l1 := ([] : List Sec)) (l2 := a1.Secs) h rfl rfl (fun _ => rfl) (fun h => ?_)
  conv => whnf
  refine ⟨6, ?_⟩
  conv => whnf
  refine liS ([] : List Task) Task.enc rfl rfl ?_
  conv => whnf
  refine apS (enc := Task.enc) (l1 := ([] : List Task)) (l2 := a0.Tasks) h rfl rfl (fun _ => rfl) (fun h => ?_)
  conv => whnf
  refine liS ([⟨a1.C, a1.D, a1.T, ([] : List Sec) ++ a1.Secs⟩] : List Task) Task.enc rfl rfl ?_
  conv => whnf
  refine drS (by kernel_rfl) ?_
  conv => whnf
  refine apS (enc := Task.enc) (l1 := ([] : List Task) ++ a0.Tasks) (l2 := ([⟨a1.C, a1.D, a1.T, ([] : List Sec) ++ a1.Secs⟩] : List Task)) h rfl rfl (fun _ => rfl) (fun h => ?_)
  conv => whnf
  refine liS ([] : List Bool) eB rfl rfl ?_
  conv => whnf
  refine apS (enc := eB) (l1 := ([] : List Bool)) (l2 := a0.Leaves) h rfl rfl (fun _ => rfl) (fun h => ?_)
  conv => whnf
  refine liS ([false] : List Bool) eB rfl rfl ?_
  conv => whnf
  refine apS (enc := eB) (l1 := ([] : List Bool) ++ a0.Leaves) (l2 := ([false] : List Bool)) h rfl rfl (fun _ => rfl) (fun h => ?_)
  conv => whnf
  refine liS ([] : List Int) (eI .i64) rfl rfl ?_
  conv => whnf
  refine apS (enc := (eI .i64)) (l1 := ([] : List Int)) (l2 := a0.Lasts) h rfl rfl (fun _ => rfl) (fun h => ?_)
  conv => whnf
  refine liS ([(-1 : Int)] : List Int) (eI .i64) rfl rfl ?_
  conv => whnf
  refine apS (enc := (eI .i64)) (l1 := ([] : List Int) ++ a0.Lasts) (l2 := ([(-1 : Int)] : List Int)) h rfl rfl (fun _ => rfl) (fun h => ?_)
  conv => whnf
  exact rt (E := E_PartState_Int) h rfl

end Go.Proofs.Ytakiggekallckaa
namespace Go.Proofs.Ytakiggekallckaa
open Go Go.VC
noncomputable def part_Leave (a0 : PartState) (a1 : Int) : Option (PartState × Int) :=
  jn (fun (w1 : Bool) => fk w1 (some (a0, (1 : Int))) (ix a0.Leaves a1 fun x3 => fk x3 (some (a0, (9 : Int))) (ck (decide ((([] : List Bool).length + a0.Leaves.length) * 1 ≤ 140737488355328)) (ck (decide (0 ≤ a1) && decide (a1 < ((([] : List Bool) ++ a0.Leaves).length : Int))) (ox (([] : List Bool) ++ a0.Leaves) a1.toNat fun x4 => some (⟨a0.Tasks, (([] : List Bool) ++ a0.Leaves).set a1.toNat true, a0.Lasts, a0.Jobs, a0.Log⟩, (0 : Int))))))) (fun k1 => bnd (part_Right a0) fun x2 => fk (!x2) (k1 true) (fk (decide (a1 < (0 : Int))) (k1 true) (k1 (decide (a1 ≥ (a0.Tasks.length : Int))))))
theorem part_Leave_w (a0 : PartState) (a1 : Int) (r : PartState × Int) (h : part_Leave a0 a1 = some r) : Go.VC.Spec Try.prog 24 [.agg (PartState.enc a0), .d (.int .i64 a1)] (fun y => y = E_PartState_Int r) := by
  refine Go.VC.Spec.of_xc (args := [.agg (PartState.enc a0), .d (.int .i64 a1)]) (fn := Try.f24) tab ⟨[(0, [1, 2, 4]), (1, [1, 2, 4, 6]), (2, [4, 5]), (3, [1, 2, 4, 22]), (4, [4, 5]), (5, [1, 2, 4]), (6, [2, 4]), (7, [4, 5])], [], [100006], []⟩ 39 [.cell 4 28, .tmp 5] rfl rfl rfl rfl rfl rfl ?_
  conv => whnf
  refine jnS (fun w1 => ⟨[(1, .l (.d (.int .i64 a1))), (2, .l (.ptr 3 0)), (4, .l (.ptr 5 0)), (6, .l (.d (.bool w1)))], 39, [], [(3, [.d (.sl (a0.Tasks.map Task.enc)), .d (.sl (a0.Leaves.map eB)), .d (.sl (a0.Lasts.map (eI .i64))), .d (.sl (a0.Jobs.map Job.enc)), .d (.sl (a0.Log.map Entry.enc))]), (5, [.nil, .nil, .nil, .nil, .nil])], []⟩) h (fun k1 hk1 h => ?_) (fun w1 h => ?_)
  · conv => whnf
    refine caS (E := E_Bool) h (part_Right_w a0) rfl (fun _ => rfl) (fun x2 h => ?_)
    conv => whnf
    refine fkS h (fun h => ?_) (fun h => ?_)
    · conv => whnf
      exact jeS hk1 h (Weak.refl _)
    conv => whnf
    refine fkS h (fun h => ?_) (fun h => ?_)
    · conv => whnf
      exact jeS hk1 h (Weak.refl _)
    conv => whnf
    refine lenS a0.Tasks Task.enc rfl ?_
    conv => whnf
    exact jeS hk1 h (Weak.refl _)
  conv => whnf
  refine fkS h (fun h => ?_) (fun h => ?_)
  · conv => whnf
    exact rt (E := E_PartState_Int) h rfl
  conv => whnf
  refine ixS (enc := eB) h rfl (fun _ => rfl) (fun x3 h => ?_)
  conv => whnf
  refine fkS h (fun h => ?_) (fun h => ?_)
  · conv => whnf
    exact rt (E := E_PartState_Int) h rfl
  conv => whnf
  refine liS ([] : List Bool) eB rfl rfl ?_
  conv => whnf
  refine apS (enc := eB) (l1 := ([] : List Bool)) (l2 := a0.Leaves) h rfl rfl (fun _ => rfl) (fun h => ?_)
  conv => whnf
  refine ioS (enc := eB) h rfl (fun h => ?_)
  conv => whnf
  refine seS (enc := eB) h rfl (fun x4 => true) (fun _ => rfl) (fun x4 h => ?_)
  conv => whnf
  exact rt (E := E_PartState_Int) h rfl

end Go.Proofs.Ytakiggekallckaa
namespace Go.Proofs.Ytakiggekallckaa
open Go Go.VC
noncomputable def part_New (a0 : List Task) : Option (PartState × Int) :=
  bnd (task_All a0) fun x1 => fk (!x1) (some (⟨[], [], [], [], []⟩, (1 : Int))) (lp (fun nx2 (v2 : (List Task) × (List Bool) × (List Int) × (List Job) × (List Entry) × Int) => fk (decide (v2.2.2.2.2.2 < (a0.length : Int))) (ix a0 v2.2.2.2.2.2 fun x3 => bnd (part_Add ⟨v2.1, v2.2.1, v2.2.2.1, v2.2.2.2.1, v2.2.2.2.2.1⟩ x3) fun x4 => nx2 (x4.1.Tasks, x4.1.Leaves, x4.1.Lasts, x4.1.Jobs, x4.1.Log, (wr (v2.2.2.2.2.2 + (1 : Int))))) (some (⟨v2.1, v2.2.1, v2.2.2.1, v2.2.2.2.1, v2.2.2.2.2.1⟩, (0 : Int)))) FU ([], [], [], [], [], (0 : Int)))
theorem part_New_w (a0 : List Task) (r : PartState × Int) (h : part_New a0 = some r) : Go.VC.Spec Try.prog 25 [.d (.sl (a0.map Task.enc))] (fun y => y = E_PartState_Int r) := by
  refine Go.VC.Spec.of_xc (args := [.d (.sl (a0.map Task.enc))]) (fn := Try.f25) tab ⟨[(0, [0, 2]), (1, [0, 2, 9]), (2, [2, 3]), (3, [0, 2, 4]), (4, [2, 4, 12, 13, 14]), (5, [2, 4, 12, 13, 14, 15]), (6, [2, 4, 6, 12, 13, 14]), (7, [2, 4, 12, 13, 14]), (8, [2, 4, 12, 13, 14]), (9, [2, 3])], [], [], []⟩ 26 [.cell 2 28, .tmp 3] rfl rfl rfl rfl rfl rfl ?_
  conv => whnf
  refine caS (E := E_Bool) h (task_All_w a0) rfl (fun _ => rfl) (fun x1 h => ?_)
  conv => whnf
  refine fkS h (fun h => ?_) (fun h => ?_)
  · conv => whnf
    exact rt (E := E_PartState_Int) h rfl
  conv => whnf
  refine lenS a0 Task.enc rfl ?_
  conv => whnf
  refine lpS (fun v2 => ⟨[(2, .l (.ptr 3 0)), (4, .l (.ptr 5 0)), (12, .l (.d (.sl (a0.map Task.enc)))), (13, .l (.d (.int .i64 (a0.length : Int)))), (14, .l (.d (.int .i64 v2.2.2.2.2.2)))], 26, [], [(3, [.nil, .nil, .nil, .nil, .nil]), (5, [.d (.sl (v2.1.map Task.enc)), .d (.sl (v2.2.1.map eB)), .d (.sl (v2.2.2.1.map (eI .i64))), .d (.sl (v2.2.2.2.1.map Job.enc)), .d (.sl (v2.2.2.2.2.1.map Entry.enc))])], []⟩) h (Weak.trans (Weak.nilBD _ 5 0 _ rfl rfl) (Weak.trans (Weak.nilBD _ 5 1 _ rfl rfl) (Weak.trans (Weak.nilBD _ 5 2 _ rfl rfl) (Weak.trans (Weak.nilBD _ 5 3 _ rfl rfl) (Weak.trans (Weak.nilBD _ 5 4 _ rfl rfl) (Weak.refl _)))))) (fun _ nx2 hn2 v2 h => ?_)
  conv => whnf
  refine fkS h (fun h => ?_) (fun h => ?_)
  · conv => whnf
    refine ixS (enc := Task.enc) h rfl (fun _ => rfl) (fun x3 h => ?_)
    conv => whnf
    refine ccS (E := E_PartState_Int) h (part_Add_w ⟨v2.1, v2.2.1, v2.2.2.1, v2.2.2.2.1, v2.2.2.2.2.1⟩ x3) rfl rfl (fun x4 h => ?_)
    conv => whnf
    exact leS hn2 h (Weak.refl _)
  conv => whnf
  exact rt (E := E_PartState_Int) h rfl

end Go.Proofs.Ytakiggekallckaa
namespace Go.Proofs.Ytakiggekallckaa
open Go Go.VC
/-! Tasks come and go. -/
def plus (s : PartState) (x : Task) : PartState := ⟨s.Tasks ++ [x], s.Leaves ++ [false], s.Lasts ++ [-1], s.Jobs, s.Log⟩
noncomputable def addV (s : PartState) (x : Task) : PartState × Int := if stP s ∧ RightP x then (if s.Tasks.length < 8 then (plus s x, 0) else (s, 3)) else (s, 1)
theorem part_Add_eq (s : PartState) (x : Task) (hb : StB s) : part_Add s x = some (addV s x) := by
  unfold part_Add
  refine jn_to (!decide (stP s ∧ RightP x)) (fun k => ?_) ?_
  · rw [bnd_eq (part_Right_eq s hb)]
    by_cases h1 : stP s
    rotate_left
    · rw [decide_eq_false h1, Bool.not_false, fk_t, decide_eq_false (fun h => h1 h.1)]; rfl
    rw [decide_eq_true h1, Bool.not_true, fk_f, bnd_eq (task_Right_eq x)]
    unfold right
    by_cases h2 : RightP x
    · rw [decide_eq_true h2, decide_eq_true (⟨h1, h2⟩ : stP s ∧ RightP x)]
    · rw [decide_eq_false h2, decide_eq_false (fun h => h2 h.2)]
  unfold addV
  by_cases hh : stP s ∧ RightP x
  rotate_left
  · rw [decide_eq_false hh, Bool.not_false, fk_t, if_neg hh]
  obtain ⟨h1, h2⟩ := hh
  rw [decide_eq_true (⟨h1, h2⟩ : stP s ∧ RightP x), Bool.not_true, fk_f, if_pos (⟨h1, h2⟩ : stP s ∧ RightP x)]
  by_cases h8 : s.Tasks.length < 8
  rotate_left
  · rw [decide_eq_true (by omega), fk_t, if_neg h8]
  have hLl := h1.1
  have hLs := h1.2.1.2.1
  have hS : x.Secs.length ≤ 4 := h2.len
  rw [decide_eq_false (by omega), fk_f, if_pos h8, ck_t (by simp; omega), ck_t (by simp; omega), ck_t (by simp; omega), ck_t (by simp; omega), ck_t (by simp; omega), ck_t (by simp; omega), ck_t (by simp; omega)]
  simp only [List.nil_append]
  rfl
noncomputable def leaveV (s : PartState) (i : Int) : PartState × Int := if stP s ∧ 0 ≤ i ∧ i < (s.Tasks.length : Int) then (if (s.Leaves[i.toNat]?).getD false = true then (s, 9) else (⟨s.Tasks, s.Leaves.set i.toNat true, s.Lasts, s.Jobs, s.Log⟩, 0)) else (s, 1)
theorem part_Leave_eq (s : PartState) (i : Int) (hb : StB s) : part_Leave s i = some (leaveV s i) := by
  unfold part_Leave
  refine jn_to (!decide (stP s ∧ 0 ≤ i ∧ i < (s.Tasks.length : Int))) (fun k => ?_) ?_
  · rw [bnd_eq (part_Right_eq s hb)]
    by_cases h1 : stP s
    rotate_left
    · rw [decide_eq_false h1, Bool.not_false, fk_t, decide_eq_false (fun h => h1 h.1)]; rfl
    rw [decide_eq_true h1, Bool.not_true, fk_f]
    by_cases h2 : 0 ≤ i
    rotate_left
    · rw [decide_eq_true (by omega), fk_t, decide_eq_false (fun h => h2 h.2.1)]; rfl
    rw [decide_eq_false (by omega), fk_f]
    by_cases h3 : i < (s.Tasks.length : Int)
    · rw [decide_eq_false (by omega), decide_eq_true (⟨h1, h2, h3⟩ : stP s ∧ 0 ≤ i ∧ i < (s.Tasks.length : Int))]; rfl
    · rw [decide_eq_true (by omega), decide_eq_false (fun h => h3 h.2.2)]; rfl
  unfold leaveV
  by_cases hh : stP s ∧ 0 ≤ i ∧ i < (s.Tasks.length : Int)
  rotate_left
  · rw [decide_eq_false hh, Bool.not_false, fk_t, if_neg hh]
  obtain ⟨h1, h2, h3⟩ := hh
  have hLl := h1.1
  have hT8 := AllP_len h1.2.1.1
  have hiL : i.toNat < s.Leaves.length := by omega
  rw [decide_eq_true (⟨h1, h2, h3⟩ : stP s ∧ 0 ≤ i ∧ i < (s.Tasks.length : Int)), Bool.not_true, fk_f, if_pos (⟨h1, h2, h3⟩ : stP s ∧ 0 ≤ i ∧ i < (s.Tasks.length : Int)), ix_int h2 hiL]
  have eL : (s.Leaves[i.toNat]?).getD false = s.Leaves[i.toNat] := by rw [List.getElem?_eq_getElem hiL]; rfl
  rw [eL]
  cases c : s.Leaves[i.toNat] with
  | true => rw [fk_t, if_pos rfl]
  | false =>
    rw [fk_f, if_neg (by simp), ck_t (by simp; omega), List.nil_append, ck_t (by simp; omega), ox_lt hiL]
/-! A new one. -/
def new0 (l : List Task) : PartState := ⟨l, List.replicate l.length false, List.replicate l.length (-1), [], []⟩
theorem AllP_take {l : List Task} (h : AllP l) (k : Nat) : AllP (l.take k) := ⟨fun t ht => h.1 t (List.mem_of_mem_take ht), by rw [List.length_take]; have := h.2; omega⟩
theorem stP_new {l : List Task} (h : AllP l) : stP (new0 l) :=
  ⟨by simp [new0], ⟨h, by simp [new0], fun x hx => by have := List.eq_of_mem_replicate hx; omega⟩, jobsP_nil h, by simp [new0]⟩
theorem stB_new {l : List Task} (h : AllP l) (hs : ∀ t ∈ l, t.Secs.length ≤ 4611686018427387904) : StB (new0 l) := ⟨by show l.length ≤ _; have := h.2; omega, hs, by simp [new0]; have := h.2; omega⟩
theorem part_New_eq (l : List Task) (hl : l.length ≤ 4611686018427387904) (hs : ∀ t ∈ l, t.Secs.length ≤ 4611686018427387904) : part_New l = some (if AllP l then (new0 l, 0) else (⟨[], [], [], [], []⟩, 1)) := by
  unfold part_New
  rw [bnd_eq (task_All_eq l hl)]
  by_cases ha : AllP l
  rotate_left
  · rw [decide_eq_false ha, Bool.not_false, fk_t, if_neg ha]
  have h8 := ha.2
  rw [decide_eq_true ha, Bool.not_true, fk_f, if_pos ha]
  refine lp_inv (fun v => l.length - v.2.2.2.2.2.toNat) (fun v => ∃ k : Nat, v = ((new0 (l.take k)).Tasks, (new0 (l.take k)).Leaves, (new0 (l.take k)).Lasts, (new0 (l.take k)).Jobs, (new0 (l.take k)).Log, (k : Int)) ∧ k ≤ l.length) ?_ FU _ ⟨0, rfl, Nat.zero_le _⟩ (by unfold FU; simp only; omega)
  rintro nx v ⟨k, rfl, hk⟩ hnx
  dsimp only
  rw [lt_nat]
  by_cases hk' : k < l.length
  rotate_left
  · rw [decide_eq_false hk', fk_f, show k = l.length by omega, List.take_length]
  rw [decide_eq_true hk', fk_t, ix_lt hk', wr_succ k _ hk' (by omega)]
  have hak := AllP_take ha k
  have hk8 : (l.take k).length = k := by rw [List.length_take]; omega
  have e : addV (new0 (l.take k)) l[k] = (plus (new0 (l.take k)) l[k], 0) := by
    unfold addV
    rw [if_pos ⟨stP_new hak, ha.1 _ (List.getElem_mem hk')⟩, if_pos (show (new0 (l.take k)).Tasks.length < 8 by show (l.take k).length < 8; omega)]
  have hA := part_Add_eq (new0 (l.take k)) l[k] (stB_new hak fun t ht => hs t (List.mem_of_mem_take ht))
  rw [e] at hA
  have hA' : part_Add ⟨(new0 (l.take k)).Tasks, (new0 (l.take k)).Leaves, (new0 (l.take k)).Lasts, (new0 (l.take k)).Jobs, (new0 (l.take k)).Log⟩ l[k] = some (plus (new0 (l.take k)) l[k], 0) := hA
  rw [bnd_eq hA']
  refine hnx _ ⟨k + 1, ?_, hk'⟩ (by simp only [Int.toNat_natCast]; omega)
  have e2 : plus (new0 (l.take k)) l[k] = new0 (l.take (k + 1)) := by
    unfold plus new0
    rw [← List.take_append_getElem hk', List.length_append, List.length_singleton, List.replicate_succ', List.replicate_succ']
  rw [e2]
end Go.Proofs.Ytakiggekallckaa
namespace Go.Proofs.Ytakiggekallckaa
open Go Go.VC
noncomputable def law17_Play (a0 : PartState) (a1 : List Law17Act) (a2 : List Bool) : Option PartState :=
  lp (fun nx1 (v1 : (List Task) × (List Bool) × (List Int) × (List Job) × (List Entry) × Int) => jn (fun (w2 : Bool) => fk w2 (jn (fun (w3 : (List Task) × (List Bool) × (List Int) × (List Job) × (List Entry)) => jn (fun (w9 : (List Task) × (List Bool) × (List Int) × (List Job) × (List Entry)) => ix a2 v1.2.2.2.2.2 fun x14 => bnd (part_Tick ⟨w9.1, w9.2.1, w9.2.2.1, w9.2.2.2.1, w9.2.2.2.2⟩ x14 v1.2.2.2.2.2) fun x15 => nx1 (x15.1.Tasks, x15.1.Leaves, x15.1.Lasts, x15.1.Jobs, x15.1.Log, (wr (v1.2.2.2.2.2 + (1 : Int))))) (fun k9 => jn (fun (w10 : Bool) => fk w10 (ix a1 v1.2.2.2.2.2 fun x12 => bnd (part_Leave ⟨w3.1, w3.2.1, w3.2.2.1, w3.2.2.2.1, w3.2.2.2.2⟩ x12.I) fun x13 => k9 (x13.1.Tasks, x13.1.Leaves, x13.1.Lasts, x13.1.Jobs, x13.1.Log)) (k9 (w3.1, w3.2.1, w3.2.2.1, w3.2.2.2.1, w3.2.2.2.2))) (fun k10 => fk (decide (v1.2.2.2.2.2 < (a1.length : Int))) (ix a1 v1.2.2.2.2.2 fun x11 => k10 (decide (x11.Kind = (2 : Int)))) (k10 false)))) (fun k3 => jn (fun (w4 : Bool) => fk w4 (ix a1 v1.2.2.2.2.2 fun x6 => ix a1 v1.2.2.2.2.2 fun x7 => bnd (part_Release ⟨v1.1, v1.2.1, v1.2.2.1, v1.2.2.2.1, v1.2.2.2.2.1⟩ x6.I x7.Want v1.2.2.2.2.2) fun x8 => k3 (x8.1.Tasks, x8.1.Leaves, x8.1.Lasts, x8.1.Jobs, x8.1.Log)) (k3 (v1.1, v1.2.1, v1.2.2.1, v1.2.2.2.1, v1.2.2.2.2.1))) (fun k4 => fk (decide (v1.2.2.2.2.2 < (a1.length : Int))) (ix a1 v1.2.2.2.2.2 fun x5 => k4 (decide (x5.Kind = (0 : Int)))) (k4 false)))) (some ⟨v1.1, v1.2.1, v1.2.2.1, v1.2.2.2.1, v1.2.2.2.2.1⟩)) (fun k2 => fk (decide (v1.2.2.2.2.2 < (a2.length : Int))) (k2 (decide (v1.2.2.2.2.2 < (300 : Int)))) (k2 false))) FU (a0.Tasks, a0.Leaves, a0.Lasts, a0.Jobs, a0.Log, (0 : Int))
theorem law17_Play_w (a0 : PartState) (a1 : List Law17Act) (a2 : List Bool) (r : PartState) (h : law17_Play a0 a1 a2 = some r) : Go.VC.Spec Try.prog 29 [.agg (PartState.enc a0), .d (.sl (a1.map Law17Act.enc)), .d (.sl (a2.map eB))] (fun y => y = E_PartState r) := by
  refine Go.VC.Spec.of_xc (args := [.agg (PartState.enc a0), .d (.sl (a1.map Law17Act.enc)), .d (.sl (a2.map eB))]) (fn := Try.f29) tab ⟨[(0, [1, 2, 3, 6]), (1, [1, 2, 3, 6, 7]), (2, [1, 2, 3, 6, 7, 22]), (3, [1, 2, 3, 6, 7]), (4, [1, 2, 3, 6, 7, 36]), (5, [1, 2, 3, 6, 7, 8]), (6, [1, 2, 3, 6, 7]), (7, [1, 2, 3, 6, 7, 65]), (8, [1, 2, 3, 6, 7, 10]), (9, [1, 2, 3, 6, 7]), (10, [1, 2, 3, 6, 7, 12]), (11, [1, 2, 3, 6, 7]), (12, [6])], [], [100022, 100036, 100065, 10, 7], []⟩ 90 [.cell 6 28] rfl rfl rfl rfl rfl rfl ?_
  conv => whnf
  refine lpS (fun v1 => ⟨[(1, .l (.d (.sl (a1.map Law17Act.enc)))), (2, .l (.d (.sl (a2.map eB)))), (3, .l (.ptr 4 0)), (6, .l (.ptr 7 0)), (7, .l (.d (.int .i64 v1.2.2.2.2.2)))], 90, [], [(4, [.d (.sl (v1.1.map Task.enc)), .d (.sl (v1.2.1.map eB)), .d (.sl (v1.2.2.1.map (eI .i64))), .d (.sl (v1.2.2.2.1.map Job.enc)), .d (.sl (v1.2.2.2.2.1.map Entry.enc))]), (7, [.nil, .nil, .nil, .nil, .nil])], []⟩) h (Weak.refl _) (fun _ nx1 hn1 v1 h => ?_)
  conv => whnf
  refine jnS (fun w2 => ⟨[(1, .l (.d (.sl (a1.map Law17Act.enc)))), (2, .l (.d (.sl (a2.map eB)))), (3, .l (.ptr 4 0)), (6, .l (.ptr 7 0)), (7, .l (.d (.int .i64 v1.2.2.2.2.2))), (22, .l (.d (.bool w2)))], 90, [], [(4, [.d (.sl (v1.1.map Task.enc)), .d (.sl (v1.2.1.map eB)), .d (.sl (v1.2.2.1.map (eI .i64))), .d (.sl (v1.2.2.2.1.map Job.enc)), .d (.sl (v1.2.2.2.2.1.map Entry.enc))]), (7, [.nil, .nil, .nil, .nil, .nil])], []⟩) h (fun k2 hk2 h => ?_) (fun w2 h => ?_)
  · conv => whnf
    refine lenS a2 eB rfl ?_
    conv => whnf
    refine fkS h (fun h => ?_) (fun h => ?_)
    · conv => whnf
      exact jeS hk2 h (Weak.refl _)
    conv => whnf
    exact jeS hk2 h (Weak.refl _)
  conv => whnf
  refine fkS h (fun h => ?_) (fun h => ?_)
  · conv => whnf
    refine jnS (fun w3 => ⟨[(1, .l (.d (.sl (a1.map Law17Act.enc)))), (2, .l (.d (.sl (a2.map eB)))), (3, .l (.ptr 4 0)), (6, .l (.ptr 7 0)), (7, .l (.d (.int .i64 v1.2.2.2.2.2)))], 90, [], [(4, [.d (.sl (w3.1.map Task.enc)), .d (.sl (w3.2.1.map eB)), .d (.sl (w3.2.2.1.map (eI .i64))), .d (.sl (w3.2.2.2.1.map Job.enc)), .d (.sl (w3.2.2.2.2.map Entry.enc))]), (7, [.nil, .nil, .nil, .nil, .nil])], []⟩) h (fun k3 hk3 h => ?_) (fun w3 h => ?_)
    · conv => whnf
      refine jnS (fun w4 => ⟨[(1, .l (.d (.sl (a1.map Law17Act.enc)))), (2, .l (.d (.sl (a2.map eB)))), (3, .l (.ptr 4 0)), (6, .l (.ptr 7 0)), (7, .l (.d (.int .i64 v1.2.2.2.2.2))), (36, .l (.d (.bool w4)))], 90, [], [(4, [.d (.sl (v1.1.map Task.enc)), .d (.sl (v1.2.1.map eB)), .d (.sl (v1.2.2.1.map (eI .i64))), .d (.sl (v1.2.2.2.1.map Job.enc)), .d (.sl (v1.2.2.2.2.1.map Entry.enc))]), (7, [.nil, .nil, .nil, .nil, .nil])], []⟩) h (fun k4 hk4 h => ?_) (fun w4 h => ?_)
      · conv => whnf
        refine lenS a1 Law17Act.enc rfl ?_
        conv => whnf
        refine fkS h (fun h => ?_) (fun h => ?_)
        · conv => whnf
          refine ixS (enc := Law17Act.enc) h rfl (fun _ => rfl) (fun x5 h => ?_)
          conv => whnf
          exact jeS hk4 h (Weak.refl _)
        conv => whnf
        exact jeS hk4 h (Weak.refl _)
      conv => whnf
      refine fkS h (fun h => ?_) (fun h => ?_)
      · conv => whnf
        refine ⟨18, ?_⟩
        conv => whnf
        refine ixS (enc := Law17Act.enc) h rfl (fun _ => rfl) (fun x6 h => ?_)
        conv => whnf
        refine ixS (enc := Law17Act.enc) h rfl (fun _ => rfl) (fun x7 h => ?_)
        conv => whnf
        refine dcS (E := E_PartState_Int) h (part_Release_w ⟨v1.1, v1.2.1, v1.2.2.1, v1.2.2.2.1, v1.2.2.2.2.1⟩ x6.I x7.Want v1.2.2.2.2.2) rfl (fun x8 h => ?_)
        conv => whnf
        refine drS (by kernel_rfl) ?_
        conv => whnf
        exact jeS hk3 h (Weak.refl _)
      conv => whnf
      refine jeX hk3 h ?_
      conv => whnf
      refine WkF.step (Weak.keepS _ [1, 2, 3, 6, 7]) ?_
      conv => whnf
      exact WkF.refl _
    conv => whnf
    refine jnS (fun w9 => ⟨[(1, .l (.d (.sl (a1.map Law17Act.enc)))), (2, .l (.d (.sl (a2.map eB)))), (3, .l (.ptr 4 0)), (6, .l (.ptr 7 0)), (7, .l (.d (.int .i64 v1.2.2.2.2.2)))], 90, [], [(4, [.d (.sl (w9.1.map Task.enc)), .d (.sl (w9.2.1.map eB)), .d (.sl (w9.2.2.1.map (eI .i64))), .d (.sl (w9.2.2.2.1.map Job.enc)), .d (.sl (w9.2.2.2.2.map Entry.enc))]), (7, [.nil, .nil, .nil, .nil, .nil])], []⟩) h (fun k9 hk9 h => ?_) (fun w9 h => ?_)
    · conv => whnf
      refine jnS (fun w10 => ⟨[(1, .l (.d (.sl (a1.map Law17Act.enc)))), (2, .l (.d (.sl (a2.map eB)))), (3, .l (.ptr 4 0)), (6, .l (.ptr 7 0)), (7, .l (.d (.int .i64 v1.2.2.2.2.2))), (65, .l (.d (.bool w10)))], 90, [], [(4, [.d (.sl (w3.1.map Task.enc)), .d (.sl (w3.2.1.map eB)), .d (.sl (w3.2.2.1.map (eI .i64))), .d (.sl (w3.2.2.2.1.map Job.enc)), .d (.sl (w3.2.2.2.2.map Entry.enc))]), (7, [.nil, .nil, .nil, .nil, .nil])], []⟩) h (fun k10 hk10 h => ?_) (fun w10 h => ?_)
      · conv => whnf
        refine lenS a1 Law17Act.enc rfl ?_
        conv => whnf
        refine fkS h (fun h => ?_) (fun h => ?_)
        · conv => whnf
          refine ixS (enc := Law17Act.enc) h rfl (fun _ => rfl) (fun x11 h => ?_)
          conv => whnf
          exact jeS hk10 h (Weak.refl _)
        conv => whnf
        exact jeS hk10 h (Weak.refl _)
      conv => whnf
      refine fkS h (fun h => ?_) (fun h => ?_)
      · conv => whnf
        refine ⟨12, ?_⟩
        conv => whnf
        refine ixS (enc := Law17Act.enc) h rfl (fun _ => rfl) (fun x12 h => ?_)
        conv => whnf
        refine dcS (E := E_PartState_Int) h (part_Leave_w ⟨w3.1, w3.2.1, w3.2.2.1, w3.2.2.2.1, w3.2.2.2.2⟩ x12.I) rfl (fun x13 h => ?_)
        conv => whnf
        refine drS (by kernel_rfl) ?_
        conv => whnf
        exact jeS hk9 h (Weak.refl _)
      conv => whnf
      refine jeX hk9 h ?_
      conv => whnf
      refine WkF.step (Weak.keepS _ [1, 2, 3, 6, 7]) ?_
      conv => whnf
      exact WkF.refl _
    conv => whnf
    refine ⟨14, ?_⟩
    conv => whnf
    refine ixS (enc := eB) h rfl (fun _ => rfl) (fun x14 h => ?_)
    conv => whnf
    refine dcS (E := E_PartState_Int_Int) h (part_Tick_w ⟨w9.1, w9.2.1, w9.2.2.1, w9.2.2.2.1, w9.2.2.2.2⟩ x14 v1.2.2.2.2.2) rfl (fun x15 h => ?_)
    conv => whnf
    refine drS (by kernel_rfl) ?_
    conv => whnf
    exact leS hn1 h (Weak.refl _)
  conv => whnf
  exact rt (E := E_PartState) h rfl

end Go.Proofs.Ytakiggekallckaa
namespace Go.Proofs.Ytakiggekallckaa
open Go Go.VC
/-! A play. -/
def okS (s : PartState) : Prop := stP s ∧ atP s.Lasts s.Jobs
theorem StB.of_st {s : PartState} (h : stP s) : StB s := by
  have h8 := AllP_len h.2.1.1
  have hA := h.2.1.2.1
  exact ⟨by omega, fun t ht => h.2.1.1.slen ht, by omega⟩
theorem okS_new {l : List Task} (h : AllP l) : okS (new0 l) := ⟨stP_new h, fun j hj => (List.not_mem_nil hj).elim⟩
theorem okS_leave {s : PartState} {i : Int} (h : okS s) : okS (leaveV s i).1 := by
  unfold leaveV
  split
  · split
    · exact h
    · exact ⟨⟨by show (s.Leaves.set _ _).length = _; rw [List.length_set]; exact h.1.1, h.1.2⟩, h.2⟩
  · exact h
theorem okS_add {s : PartState} {x : Task} (h : okS s) : okS (addV s x).1 := by
  unfold addV
  split
  rotate_left
  · exact h
  rename_i hx
  split
  rotate_left
  · exact h
  rename_i h8
  obtain ⟨⟨h1, ⟨ha, h2, h3⟩, ⟨_, h4, h5, h6⟩, h7⟩, hat⟩ := h
  have ha' : AllP (s.Tasks ++ [x]) := ⟨fun t ht => by
    rcases List.mem_append.1 ht with h | h
    · exact ha.1 t h
    · rw [List.mem_singleton.1 h]; exact hx.2, by simp; omega⟩
  refine ⟨⟨by show (s.Leaves ++ [false]).length = (s.Tasks ++ [x]).length; simp; omega, ⟨ha', by show (s.Lasts ++ [-1]).length = (s.Tasks ++ [x]).length; simp; omega, fun y hy => ?_⟩, ⟨ha', h4, fun j hj => ?_, h6⟩, h7⟩, fun j hj => ?_⟩
  · rcases List.mem_append.1 hy with h | h
    · exact h3 y h
    · rw [List.mem_singleton.1 h]; omega
  · obtain ⟨t0, t1, t2, t3, tb⟩ := h5 j hj
    refine ⟨t0, t1, t2, by show _ < (s.Tasks ++ [x]).length; simp; omega, ?_⟩
    have e : (s.Tasks ++ [x])[j.Task.toNat]'(by simp; omega) = s.Tasks[j.Task.toNat] := List.getElem_append_left t3
    show bodyP ((s.Tasks ++ [x])[j.Task.toNat]'(by simp; omega)) j
    rw [e]; exact tb
  · have hj' := hat j hj
    obtain ⟨t0, _, _, t3, _⟩ := h5 j hj
    have e : lg (s.Lasts ++ [-1]) j.Task = lg s.Lasts j.Task := by unfold lg; rw [List.getElem?_append_left (by omega)]
    show j.At ≤ lg (s.Lasts ++ [-1]) j.Task
    rw [e]; exact hj'
/-! The log only grows, by entries of now. -/
def Ext (t : Int) (a b : List Entry) : Prop := ∃ e, b = a ++ e ∧ ∀ x ∈ e, x.At = t
theorem Ext.rfl {t : Int} {a : List Entry} : Ext t a a := ⟨[], (List.append_nil a).symm, fun x hx => (List.not_mem_nil hx).elim⟩
theorem Ext.trans {t : Int} {a b c : List Entry} (h : Ext t a b) (k : Ext t b c) : Ext t a c := by
  obtain ⟨e, rfl, h⟩ := h
  obtain ⟨f, rfl, k⟩ := k
  exact ⟨e ++ f, List.append_assoc _ _ _, fun x hx => (List.mem_append.1 hx).elim (h x) (k x)⟩
theorem Ext.nt {t : Int} {a : List Entry} {k i : Int} : Ext t a (nt a ⟨t, k, i⟩) := by
  unfold Go.Proofs.Ytakiggekallckaa.nt
  split
  · exact ⟨_, Eq.refl _, fun x hx => by rw [List.mem_singleton.1 hx]⟩
  · exact Ext.rfl
theorem Ext.miss {t : Int} : ∀ (js : List Job) {a : List Entry}, Ext t a (missG t js a)
  | [], a => Ext.rfl
  | j :: r, a => by
    unfold missG
    refine Ext.trans ?_ (Ext.miss r)
    split
    · exact Ext.rfl
    · exact Ext.nt
theorem Ext.left {t : Int} {b : List Bool} : ∀ (n : Nat) {a : List Entry}, Ext t a (leftG b t n a)
  | 0, a => Ext.rfl
  | n + 1, a => by
    unfold leftG
    refine Ext.trans ?_ (Ext.left n)
    split
    · exact Ext.nt
    · exact Ext.rfl
theorem Ext.run {t : Int} {l : List Task} {js : List Job} {g : Bool} {a : List Entry} : Ext t a (runV l js a g t).2.1 := by
  unfold runV
  split
  · simp only
    split
    · exact Ext.nt
    · exact Ext.rfl
  · exact Ext.rfl
theorem Ext.tick {s : PartState} {g : Bool} {t : Int} : Ext t s.Log (tickV s g t).1.Log := by
  have h : Ext t s.Log (tickR s g t).2.1 := (Ext.miss s.Jobs).trans Ext.run
  unfold tickV
  split
  · exact h.trans (Ext.left _)
  · exact h
theorem Ext.rel {s : PartState} {i w t : Int} : Ext t s.Log (relV s i w t).1.Log := by
  unfold relV
  split
  · split
    · exact Ext.rfl
    · split
      · split
        · exact Ext.nt
        · exact Ext.nt
      · exact Ext.nt
  · exact Ext.rfl
theorem leave_log {s : PartState} {i : Int} : (leaveV s i).1.Log = s.Log := by
  unfold leaveV
  split
  · split <;> rfl
  · rfl
/-! A tick keeps what is right. -/
theorem tickR_len {s : PartState} {g : Bool} {t : Int} (h1 : stP s) : (tickR s g t).2.1.length ≤ 2000 := by
  have hm := missG_len t s.Jobs h1.2.2.2
  unfold tickR runV
  split
  · simp only
    split
    · exact nt_len hm
    · exact hm
  · exact hm
theorem tickR_jobs {s : PartState} {g : Bool} {t : Int} (h1 : stP s) : jobsP s.Tasks (tickR s g t).1 := by
  have hm := jobsP_miss t h1.2.2.1
  unfold tickR runV
  split
  · exact jobsP_tick hm
  · exact hm
theorem mem_tick {l : List Task} {js : List Job} {j : Job} (h : j ∈ (tick l js).1) : ∃ i ∈ js, i.Task = j.Task ∧ i.At = j.At ∧ i.Due = j.Due ∧ i.Want = j.Want := by
  unfold tick at h
  split at h
  · rename_i hh
    rcases mem_tickN h with ⟨k, hk, _, rfl⟩ | ⟨_, rfl⟩
    · exact ⟨_, List.getElem_mem hk, rfl, rfl, rfl, rfl⟩
    · exact ⟨_, List.getElem_mem hh.2.2, rfl, rfl, rfl, rfl⟩
  · exact ⟨j, h, rfl, rfl, rfl, rfl⟩
theorem mem_tickR {s : PartState} {g : Bool} {t : Int} {j : Job} (h : j ∈ (tickR s g t).1) : ∃ i ∈ s.Jobs, i.Task = j.Task ∧ i.At = j.At ∧ i.Due = j.Due ∧ i.Want = j.Want ∧ t < i.Due := by
  have key : ∀ i ∈ missJ t s.Jobs, i ∈ s.Jobs ∧ t < i.Due := fun i hi => by
    unfold missJ at hi
    rw [List.mem_filter, decide_eq_true_eq] at hi
    exact hi
  unfold tickR runV at h
  split at h
  · obtain ⟨i, hi, e1, e2, e3, e4⟩ := mem_tick h
    exact ⟨i, (key i hi).1, e1, e2, e3, e4, (key i hi).2⟩
  · exact ⟨j, (key j h).1, rfl, rfl, rfl, rfl, (key j h).2⟩
theorem okS_tick {s : PartState} {g : Bool} {t : Int} (h : okS s) : okS (tickV s g t).1 := by
  obtain ⟨h1, hat⟩ := h
  have hj := tickR_jobs (g := g) (t := t) h1
  have hl := tickR_len (g := g) (t := t) h1
  unfold tickV
  split
  · rename_i h0
    have e0 : (tickR s g t).1 = [] := List.eq_nil_of_length_eq_zero h0
    have ha : AllP (keepB s.Leaves s.Tasks) := ⟨fun x hx => h1.2.1.1.1 x ((keepB_sub _ _).subset hx), Nat.le_trans (keepB_len _ _) h1.2.1.1.2⟩
    refine ⟨⟨keepB_len_eq _ _ _ h1.1, ⟨ha, keepB_len_eq _ _ _ h1.2.1.2.1, fun x hx => h1.2.1.2.2 x ((keepB_sub _ _).subset hx)⟩, ?_, leftG_len _ _ _ hl⟩, ?_⟩
    · show jobsP (keepB s.Leaves s.Tasks) (tickR s g t).1
      rw [e0]; exact jobsP_nil ha
    · show atP _ (tickR s g t).1
      rw [e0]; exact fun j hj => (List.not_mem_nil hj).elim
  · refine ⟨⟨h1.1, h1.2.1, hj, hl⟩, fun j hj => ?_⟩
    obtain ⟨i, hi, e1, e2, _⟩ := mem_tickR hj
    have := hat i hi
    rw [e1, e2] at this
    exact this
/-! The steps. -/
noncomputable def step1 (us : List Law17Act) (n : Nat) (s : PartState) : PartState := match us[n]? with | some a => if a.Kind = 0 then (relV s a.I a.Want (n : Int)).1 else s | none => s
noncomputable def step2 (us : List Law17Act) (n : Nat) (s : PartState) : PartState := match us[n]? with | some a => if a.Kind = 2 then (leaveV s a.I).1 else s | none => s
noncomputable def step3 (gs : List Bool) (n : Nat) (s : PartState) : PartState := (tickV s ((gs[n]?).getD false) (n : Int)).1
noncomputable def stepN (us : List Law17Act) (gs : List Bool) (n : Nat) (s : PartState) : PartState := step3 gs n (step2 us n (step1 us n s))
noncomputable def playN (us : List Law17Act) (gs : List Bool) (s : PartState) : Nat → PartState
  | 0 => s
  | n + 1 => stepN us gs n (playN us gs s n)
theorem okS_1 {us : List Law17Act} {n : Nat} {s : PartState} (h : okS s) : okS (step1 us n s) := by
  unfold step1
  split
  · split
    · exact stP_rel h.1 h.2
    · exact h
  · exact h
theorem okS_2 {us : List Law17Act} {n : Nat} {s : PartState} (h : okS s) : okS (step2 us n s) := by
  unfold step2
  split
  · split
    · exact okS_leave h
    · exact h
  · exact h
theorem okS_N {us : List Law17Act} {gs : List Bool} {n : Nat} {s : PartState} (h : okS s) : okS (stepN us gs n s) := okS_tick (okS_2 (okS_1 h))
theorem okS_play {us : List Law17Act} {gs : List Bool} {s : PartState} (h : okS s) : ∀ n, okS (playN us gs s n)
  | 0 => h
  | n + 1 => okS_N (okS_play h n)
theorem Ext.N {us : List Law17Act} {gs : List Bool} {n : Nat} {s : PartState} : Ext (n : Int) s.Log (stepN us gs n s).Log := by
  have h1 : Ext (n : Int) s.Log (step1 us n s).Log := by
    unfold step1
    split
    · split
      · exact Ext.rel
      · exact Ext.rfl
    · exact Ext.rfl
  have h2 : Ext (n : Int) (step1 us n s).Log (step2 us n (step1 us n s)).Log := by
    unfold step2
    split
    · split
      · rw [leave_log]; exact Ext.rfl
      · exact Ext.rfl
    · exact Ext.rfl
  exact (h1.trans h2).trans Ext.tick
theorem law17_Play_eq (s : PartState) (us : List Law17Act) (gs : List Bool) (hs : okS s) (hl : gs.length ≤ 300) (ha : us.length ≤ 4611686018427387904) : law17_Play s us gs = some (playN us gs s gs.length) := by
  unfold law17_Play
  refine lp_inv (fun v => gs.length - v.2.2.2.2.2.toNat) (fun v => ∃ k : Nat, v = ((playN us gs s k).Tasks, (playN us gs s k).Leaves, (playN us gs s k).Lasts, (playN us gs s k).Jobs, (playN us gs s k).Log, (k : Int)) ∧ k ≤ gs.length) ?_ FU _ ⟨0, rfl, Nat.zero_le _⟩ (by unfold FU; simp only; omega)
  rintro nx v ⟨k, rfl, hk⟩ hnx
  have hok := okS_play (us := us) (gs := gs) hs k
  refine jn_to (decide (k < gs.length)) (fun k2 => ?_) ?_
  · dsimp only
    rw [lt_nat]
    by_cases h : k < gs.length
    · rw [decide_eq_true h, fk_t, decide_eq_true (by omega)]
    · rw [decide_eq_false h, fk_f]
  by_cases h : k < gs.length
  rotate_left
  · rw [decide_eq_false h, fk_f, show k = gs.length by omega]
  rw [decide_eq_true h, fk_t]
  have nxt := hnx ((playN us gs s (k + 1)).Tasks, (playN us gs s (k + 1)).Leaves, (playN us gs s (k + 1)).Lasts, (playN us gs s (k + 1)).Jobs, (playN us gs s (k + 1)).Log, ((k + 1 : Nat) : Int)) ⟨k + 1, rfl, h⟩ (by simp only [Int.toNat_natCast]; omega)
  have nxt : nx ((stepN us gs k (playN us gs s k)).Tasks, (stepN us gs k (playN us gs s k)).Leaves, (stepN us gs k (playN us gs s k)).Lasts, (stepN us gs k (playN us gs s k)).Jobs, (stepN us gs k (playN us gs s k)).Log, ((k + 1 : Nat) : Int)) = some (playN us gs s gs.length) := nxt
  clear hnx
  generalize playN us gs s k = p at *
  have hb := StB.of_st hok.1
  have h1 := okS_1 (us := us) (n := k) hok
  have h2 := okS_2 (us := us) (n := k) h1
  refine jn_to ((step1 us k p).Tasks, (step1 us k p).Leaves, (step1 us k p).Lasts, (step1 us k p).Jobs, (step1 us k p).Log) (fun k3 => ?_) ?_
  · by_cases hu : k < us.length
    rotate_left
    · refine jn_to false (fun k4 => by dsimp only; rw [decide_eq_false (by omega), fk_f]) ?_
      rw [fk_f]
      unfold step1
      rw [List.getElem?_eq_none (by omega)]
    have eu : us[k]? = some us[k] := List.getElem?_eq_getElem hu
    refine jn_to (decide (us[k].Kind = 0)) (fun k4 => by dsimp only; rw [decide_eq_true (by omega), fk_t, ix_lt hu]) ?_
    unfold step1
    rw [eu]
    dsimp only
    by_cases c : us[k].Kind = 0
    · rw [decide_eq_true c, fk_t, ix_lt hu, ix_lt hu, if_pos c]
      show bnd (part_Release p us[k].I us[k].Want (k : Int)) _ = _
      rw [bnd_eq (part_Release_eq p _ _ _ hb)]
    · rw [decide_eq_false c, fk_f, if_neg c]
  dsimp only
  refine jn_to ((step2 us k (step1 us k p)).Tasks, (step2 us k (step1 us k p)).Leaves, (step2 us k (step1 us k p)).Lasts, (step2 us k (step1 us k p)).Jobs, (step2 us k (step1 us k p)).Log) (fun k3 => ?_) ?_
  · generalize step1 us k p = p1 at *
    have hb1 := StB.of_st h1.1
    by_cases hu : k < us.length
    rotate_left
    · refine jn_to false (fun k4 => by rw [decide_eq_false (by omega), fk_f]) ?_
      rw [fk_f]
      unfold step2
      rw [List.getElem?_eq_none (by omega)]
    have eu : us[k]? = some us[k] := List.getElem?_eq_getElem hu
    refine jn_to (decide (us[k].Kind = 2)) (fun k4 => by rw [decide_eq_true (by omega), fk_t, ix_lt hu]) ?_
    unfold step2
    rw [eu]
    dsimp only
    by_cases c : us[k].Kind = 2
    · rw [decide_eq_true c, fk_t, ix_lt hu, if_pos c]
      show bnd (part_Leave p1 us[k].I) _ = _
      rw [bnd_eq (part_Leave_eq p1 _ hb1)]
    · rw [decide_eq_false c, fk_f, if_neg c]
  dsimp only
  have hb2 := StB.of_st h2.1
  rw [ix_lt h, wr_succ k _ h (by omega)]
  show bnd (part_Tick (step2 us k (step1 us k p)) gs[k] (k : Int)) _ = _
  rw [bnd_eq (part_Tick_eq _ _ _ hb2), if_pos ⟨h2.1, by unfold whenP; omega⟩]
  have e : (tickV (step2 us k (step1 us k p)) gs[k] (k : Int)).1 = stepN us gs k p := by
    unfold stepN step3
    rw [List.getElem?_eq_getElem h]; rfl
  dsimp only
  rw [e]
  exact nxt
end Go.Proofs.Ytakiggekallckaa
namespace Go.Proofs.Ytakiggekallckaa
open Go Go.VC
/-! Who is in the way of those that are due by d. -/
def secJ (l : List Task) (j : Job) : List Sec := match l[j.Task.toNat]? with | some t => t.Secs | none => []
def blkP (l : List Task) (js : List Job) (d W : Int) (m : Nat) : Prop :=
  m = 0 ∨ (∃ j ∈ js, j.Began = true ∧ d < j.Due ∧ (∃ s ∈ secJ l j, sharedP l W s.Res ∧ s.At + (m : Int) < j.Had ∧ j.Had ≤ s.At + s.Len) ∧ ∀ b ∈ js, b.Began = true → d < b.Due → b ≠ j → ∀ r ∈ heldJ l b, ¬ sharedP l W r) ∨ (∀ b ∈ js, b.Began = true → d < b.Due → ∀ r ∈ heldJ l b, ¬ sharedP l W r)
theorem blk_sub {l : List Task} {js js' : List Job} {d W : Int} {m : Nat} (h : ∀ b ∈ js', b.Began = true → d < b.Due → b ∈ js) (hb : blkP l js d W m) : blkP l js' d W m := by
  rcases hb with h0 | ⟨j, hj, j1, j2, j3, j4⟩ | h2
  · exact .inl h0
  · by_cases hj' : j ∈ js'
    · exact .inr (.inl ⟨j, hj', j1, j2, j3, fun b hb b1 b2 b3 => j4 b (h b hb b1 b2) b1 b2 b3⟩)
    · exact .inr (.inr fun b hb b1 b2 => j4 b (h b hb b1 b2) b1 b2 (fun e => hj' (e ▸ hb)))
  · exact .inr (.inr fun b hb b1 b2 => h2 b (h b hb b1 b2) b1 b2)
theorem mem_heldJ {l : List Task} {js : List Job} (hp : jobsP l js) {j : Job} (hj : j ∈ js) {r : Int} (hr : r ∈ heldJ l j) : ∃ s ∈ secJ l j, s.Res = r ∧ s.At < j.Had ∧ j.Had < s.At + s.Len := by
  obtain ⟨_, _, _, h4, _⟩ := hp.2.2.1 j hj
  rw [heldJ_of h4] at hr
  unfold held at hr
  rw [if_pos (right_t.2 (hp.1.1 _ (List.getElem_mem h4)))] at hr
  unfold heldL at hr
  obtain ⟨s, hs, rfl⟩ := List.mem_map.1 hr
  obtain ⟨h1, h2⟩ := List.mem_filter.1 hs
  unfold holds at h2
  rw [Bool.and_eq_true, decide_eq_true_eq, decide_eq_true_eq] at h2
  refine ⟨s, ?_, rfl, h2.1, h2.2⟩
  unfold secJ
  rw [List.getElem?_eq_getElem h4]
  exact h1
theorem due_of {l : List Task} {js : List Job} (hp : jobsP l js) {j : Job} (hj : j ∈ js) : ∃ h : j.Task.toNat < l.length, j.Due = j.At + l[j.Task.toNat].D := by
  obtain ⟨_, _, _, h4, hb⟩ := hp.2.2.1 j hj
  exact ⟨h4, hb.1⟩
/-- A tick at which one runs that is due later, though one is due by d. -/
theorem bad_slot {l : List Task} {js : List Job} (hp : jobsP l js) (hI : InvS l js) {n : Nat} (hn : n < js.length) (ec : cho l js = (n : Int)) {d t0 : Int} (hd : ∃ j ∈ js, j.Due ≤ d) (hK : d < js[n].Due)
    (h1 : ∀ j ∈ js, j.Due ≤ d → t0 ≤ j.At) (h2 : ∀ j ∈ js, j.Began = true → d < j.Due → j.At < t0) :
    js[n].Began = true ∧ (∃ r ∈ heldJ l js[n], sharedP l (d - t0) r) ∧ ∀ b ∈ js, b.Began = true → d < b.Due → b ≠ js[n] → ∀ r ∈ heldJ l b, ¬ sharedP l (d - t0) r := by
  obtain ⟨j, hj, hjd⟩ := hd
  have hKm : js[n] ∈ js := List.getElem_mem hn
  have ah : ∀ a b : Job, a.Due ≤ d → d < b.Due → aheadP a b := fun a b h1 h2 => .inl (by omega)
  rcases cho_cases hp with ⟨_, hc⟩ | ⟨m, hm, hc, h⟩
  · omega
  have em : m = n := by omega
  subst em
  rcases h with ⟨b1, b2, b3⟩ | ⟨b1, b2, b3, _⟩
  rotate_left
  · exfalso
    cases hb : j.Began with
    | true => have := b3 j hj hb; unfold aheadP at this; omega
    | false => exact b2 j hj hb (ah _ _ hjd hK)
  have hKat := h2 _ hKm b1 hK
  obtain ⟨kl, kD⟩ := due_of hp hKm
  have G : ∀ b ∈ js, b.Began = true → d < b.Due → b ≠ js[m] → ∀ r ∈ heldJ l b, ¬ sharedP l (d - t0) r := by
    rintro b hb bb bd bn r hr ⟨x, hx, hxd, hxu⟩
    obtain ⟨k, hk, rfl⟩ := List.getElem_of_mem hb
    have hap := apart_of hp hm hk (fun e => bn e.symm)
    have hah : aheadP js[m] js[k] := (apart_total hap).resolve_right (b2 _ hb bb)
    have := hI _ hKm _ hb b1 bb hah r hr x hx hxu
    rw [taskD_of kl] at this
    omega
  refine ⟨b1, ?_, G⟩
  cases hb : j.Began with
  | true => exact absurd (ah _ _ hjd hK) (b2 j hj hb)
  | false =>
    obtain ⟨f, hf, fb, ff, hfl, hnp⟩ := b3 j hj hb (ah _ _ hjd hK)
    have hfd : f.Due ≤ d := Classical.byContradiction fun hc => ff j hj hb (ah _ _ hjd (by omega))
    have hfa := h1 f hf hfd
    obtain ⟨_, fD⟩ := due_of hp hf
    unfold passD at hnp
    have hex : ∃ r ∈ heldA l js, ∃ x ∈ l, usesP x r ∧ ¬ l[f.Task.toNat].D < x.D := Classical.byContradiction fun hc => hnp fun r hr x hx hu => Classical.byContradiction fun hlt => hc ⟨r, hr, x, hx, hu, hlt⟩
    obtain ⟨r, hr, x, hx, hu, hlt⟩ := hex
    have hsh : sharedP l (d - t0) r := ⟨x, hx, by omega, hu⟩
    obtain ⟨b, hb', hrb⟩ := List.mem_flatMap.1 hr
    have hbb := (held_began hp hb' hrb).1
    have hbd : d < b.Due := by
      have := b2 b hb' hbb
      unfold aheadP at this
      omega
    by_cases e : b = js[m]
    · subst e; exact ⟨r, hrb, hsh⟩
    · exact absurd hsh (G b hb' hbb hbd e r hrb)
/-- Sections lie apart or one in the other. -/
theorem secs_nest {l : List Task} (ha : AllP l) {j : Job} {a b : Sec} (h1 : a ∈ secJ l j) (h2 : b ∈ secJ l j) : a = b ∨ fitsP a b ∨ fitsP b a := by
  unfold secJ at h1 h2
  cases ht : l[j.Task.toNat]? with
  | none => rw [ht] at h1; cases h1
  | some t =>
  rw [ht] at h1 h2
  have h1 : a ∈ t.Secs := h1
  have h2 : b ∈ t.Secs := h2
  have hr := (ha.1 t (List.mem_of_getElem? ht)).2.2
  obtain ⟨i, hi, rfl⟩ := List.getElem_of_mem h1
  obtain ⟨k, hk, rfl⟩ := List.getElem_of_mem h2
  rcases Nat.lt_trichotomy i k with c | c | c
  · exact .inr (.inl (List.pairwise_iff_getElem.1 hr i k hi hk c))
  · subst c; exact .inl rfl
  · exact .inr (.inr (List.pairwise_iff_getElem.1 hr k i hk hi c))
theorem blockV_sec {l : List Task} {js : List Job} (hp : jobsP l js) {j : Job} (hj : j ∈ js) {W : Int} {s : Sec} (hs : s ∈ secJ l j) (hsh : sharedP l W s.Res) (hD : W < taskD l j) : s.Len ≤ (blockV l W : Int) := by
  obtain ⟨_, _, _, h4, _⟩ := hp.2.2.1 j hj
  unfold secJ at hs
  rw [List.getElem?_eq_getElem h4] at hs
  rw [taskD_of h4] at hD
  have h1 : secN l W s ≤ taskN l W l[j.Task.toNat] := by unfold taskN; rw [if_neg (by omega)]; exact le_maxL hs
  have h2 : taskN l W l[j.Task.toNat] ≤ blockV l W := le_maxL (List.getElem_mem h4)
  unfold secN at h1
  rw [if_pos hsh] at h1
  omega
/-- A tick that one takes who is due later. -/
theorem blk_step {l : List Task} {js : List Job} (hp : jobsP l js) (hI : InvS l js) {n : Nat} (hn : n < js.length) (ec : cho l js = (n : Int)) {d t0 : Int} {m : Nat} (hd : ∃ j ∈ js, j.Due ≤ d) (hK : d < js[n].Due)
    (h1 : ∀ j ∈ js, j.Due ≤ d → t0 ≤ j.At) (h2 : ∀ j ∈ js, j.Began = true → d < j.Due → j.At < t0) (hb : blkP l js d (d - t0) m) :
    m + 1 ≤ blockV l (d - t0) ∧ blkP l (tickN l js n hn) d (d - t0) (m + 1) := by
  obtain ⟨b1, ⟨r, hr, hsh⟩, G⟩ := bad_slot hp hI hn ec hd hK h1 h2
  have hKm : js[n] ∈ js := List.getElem_mem hn
  have hKat := h2 _ hKm b1 hK
  obtain ⟨kl, kD⟩ := due_of hp hKm
  have hD : d - t0 < taskD l js[n] := by rw [taskD_of kl]; omega
  obtain ⟨s', hs', rfl, hs1, hs2⟩ := mem_heldJ hp hKm hr
  have sec : ∃ s ∈ secJ l js[n], sharedP l (d - t0) s.Res ∧ s.At + (m : Int) < js[n].Had ∧ js[n].Had < s.At + s.Len := by
    rcases hb with h0 | ⟨j, hj, j1, j2, ⟨s, hs, s1, s2, s3⟩, j4⟩ | h0
    · subst h0; exact ⟨s', hs', hsh, by omega, hs2⟩
    · by_cases e : js[n] = j
      · subst e
        by_cases c : js[n].Had < s.At + s.Len
        · exact ⟨s, hs, s1, s2, c⟩
        · refine ⟨s', hs', hsh, ?_, hs2⟩
          rcases secs_nest hp.1 hs hs' with e | e | e
          · subst e; omega
          · unfold fitsP at e; omega
          · unfold fitsP at e; omega
      · exact absurd hsh (j4 _ hKm b1 hK e _ hr)
    · exact absurd hsh (h0 _ hKm b1 hK _ hr)
  obtain ⟨s, hs, s1, s2, s3⟩ := sec
  have hL := blockV_sec hp hKm hs s1 hD
  refine ⟨by omega, ?_⟩
  have old : ∀ k (hk : k < js.length), k ≠ n → js[k] ≠ js[n] := by
    intro k hk hkn e
    have := List.pairwise_iff_getElem.1 hp.2.2.2
    rcases Nat.lt_or_gt_of_ne hkn with c | c
    · have := this k n hk hn c; unfold apartJ at this; rw [e] at this; exact this ⟨rfl, rfl⟩
    · have := this n k hn hk c; unfold apartJ at this; rw [e] at this; exact this ⟨rfl, rfl⟩
  have up : secJ l (upd js[n]) = secJ l js[n] := rfl
  cases ov : overB l js[n] with
  | true =>
    refine .inr (.inr fun b hb bb bd => ?_)
    rcases mem_tickN hb with ⟨k, hk, hkn, rfl⟩ | ⟨ho, _⟩
    · exact G _ (List.getElem_mem hk) bb bd (old k hk hkn)
    · rw [ov] at ho; cases ho
  | false =>
    have hin : upd js[n] ∈ tickN l js n hn := by unfold tickN; rw [ov, if_neg (by simp)]; exact List.mem_set hn _
    refine .inr (.inl ⟨upd js[n], hin, rfl, hK, ⟨s, hs, s1, ?_, ?_⟩, fun b hb bb bd bn => ?_⟩)
    · show s.At + ((m + 1 : Nat) : Int) < js[n].Had + 1; omega
    · show js[n].Had + 1 ≤ s.At + s.Len; omega
    · rcases mem_tickN hb with ⟨k, hk, hkn, rfl⟩ | ⟨_, rfl⟩
      · exact G _ (List.getElem_mem hk) bb bd (old k hk hkn)
      · exact absurd rfl bn
end Go.Proofs.Ytakiggekallckaa
namespace Go.Proofs.Ytakiggekallckaa
open Go Go.VC
/-! What was released, and what is left of it. -/
def relC : List Task → (Nat → Nat) → Int
  | [], _ => 0
  | t :: r, f => t.C * (f 0 : Int) + relC r (fun i => f (i + 1))
def bump (f : Nat → Nat) (x : Nat) : Nat → Nat := fun i => if i = x then f i + 1 else f i
theorem relC_bump : ∀ (l : List Task) (f : Nat → Nat) (x : Nat) (hx : x < l.length), relC l (bump f x) = relC l f + l[x].C
  | t :: r, f, 0, _ => by
    have e : (fun i => bump f 0 (i + 1)) = (fun i => f (i + 1)) := by funext i; unfold bump; rw [if_neg (by omega)]
    simp only [relC, e]
    unfold bump
    rw [if_pos rfl, Int.natCast_add, Int.mul_add]
    simp only [List.getElem_cons_zero]
    omega
  | t :: r, f, x + 1, hx => by
    have e : (fun i => bump f (x + 1) (i + 1)) = bump (fun i => f (i + 1)) x := by
      funext i; unfold bump
      by_cases c : i = x
      · rw [if_pos (by omega), if_pos c]
      · rw [if_neg (by omega), if_neg c]
    simp only [relC, e]
    rw [relC_bump r _ x (by simpa using hx)]
    unfold bump
    rw [if_neg (by omega)]
    simp only [List.getElem_cons_succ]
    omega
theorem relC_zero : ∀ (l : List Task), relC l (fun _ => 0) = 0
  | [] => rfl
  | t :: r => by simp only [relC]; rw [relC_zero r]; simp
theorem relC_le {W : Int} : ∀ (l : List Task) (f : Nat → Nat), (∀ t ∈ l, 0 ≤ t.C) → (∀ i (hi : i < l.length), (f i : Int) ≤ jobsN l[i] W) → relC l f ≤ sumB l W
  | [], _, _, _ => Int.le_refl _
  | t :: r, f, h0, h => by
    have h1 := relC_le r (fun i => f (i + 1)) (fun x hx => h0 x (List.mem_cons_of_mem _ hx)) (fun i hi => h (i + 1) (by simpa using hi))
    have h2 := h 0 (by simp)
    simp only [List.getElem_cons_zero] at h2
    have h3 := Int.mul_le_mul_of_nonneg_left h2 (h0 t List.mem_cons_self)
    unfold sumB at *
    simp only [relC, sumI, costN] at *
    omega
def remJ (l : List Task) (d : Int) (j : Job) : Int := if j.Due ≤ d then taskC l j - j.Had else 0
def remL (l : List Task) (d : Int) (js : List Job) : Int := sumI (remJ l d) js
theorem remJ_b {l : List Task} {js : List Job} (hp : jobsP l js) (d : Int) {j : Job} (hj : j ∈ js) : 0 ≤ remJ l d j ∧ (j.Due ≤ d → 1 ≤ remJ l d j) := by
  have := had_bound hp hj
  unfold remJ
  split <;> omega
theorem remL_sub {l : List Task} {js js' : List Job} (hp : jobsP l js) (d : Int) (hs : js'.Sublist js) : remL l d js' ≤ remL l d js := sumI_sub hs fun x hx => (remJ_b hp d hx).1
theorem sumI_nonneg' {α : Type} {f : α → Int} : ∀ {l : List α}, (∀ x ∈ l, 0 ≤ f x) → 0 ≤ sumI f l
  | [], _ => Int.le_refl _
  | a :: r, h => by
    have := sumI_nonneg' (l := r) fun x hx => h x (List.mem_cons_of_mem _ hx)
    have := h a List.mem_cons_self
    simp only [sumI]; omega
theorem remL_one {l : List Task} {js : List Job} (hp : jobsP l js) {d : Int} {j : Job} (hj : j ∈ js) (hd : j.Due ≤ d) : 1 ≤ remL l d js := by
  have h1 : remL l d [j] ≤ remL l d js := remL_sub hp d (List.singleton_sublist.2 hj)
  have h2 := (remJ_b hp d hj).2 hd
  unfold remL at *
  simp only [sumI] at h1
  omega
theorem remL_tick {l : List Task} {js : List Job} (hp : jobsP l js) (d : Int) {n : Nat} (hn : n < js.length) : remL l d (tickN l js n hn) + (if js[n].Due ≤ d then 1 else 0) ≤ remL l d js := by
  have hb := had_bound hp (List.getElem_mem hn)
  have e : js = js.take n ++ [js[n]] ++ js.drop (n + 1) := by simp
  have e2 : remL l d js = sumI (remJ l d) (js.take n) + remJ l d js[n] + sumI (remJ l d) (js.drop (n + 1)) := by
    unfold remL
    conv => lhs; rw [e]
    rw [sumI_append, sumI_append]; simp [sumI]
  rw [e2, tickN_form]
  unfold remL
  rw [sumI_append, sumI_append]
  have eu : remJ l d (upd js[n]) = if js[n].Due ≤ d then taskC l js[n] - (js[n].Had + 1) else 0 := rfl
  unfold remJ at *
  split
  · simp only [sumI]
    split <;> omega
  · simp only [sumI]
    rw [eu]
    split <;> omega
/-! What is kept of those that are due by d. -/
structure BI (l : List Task) (ls : List Int) (js : List Job) (g : Nat → Bool) (d : Int) (n t0 : Nat) (f : Nat → Nat) (m : Nat) : Prop where
  le : t0 ≤ n
  ld : (t0 : Int) ≤ d
  sum : (gcnt g t0 (n - t0) : Int) + remL l d js ≤ relC l f + (m : Int)
  rel : ∀ i (hi : i < l.length), 1 ≤ f i → (t0 : Int) + ((f i : Int) - 1) * l[i].T + l[i].D ≤ d ∧ (t0 : Int) + ((f i : Int) - 1) * l[i].T ≤ lg ls (i : Int)
  at1 : ∀ j ∈ js, j.Due ≤ d → (t0 : Int) ≤ j.At
  at2 : ∀ j ∈ js, j.Began = true → d < j.Due → j.At < (t0 : Int)
  blk : blkP l js d (d - (t0 : Int)) m
  mb : m ≤ blockV l (d - (t0 : Int))
theorem BI.sub {l : List Task} {ls : List Int} {js js' : List Job} {g : Nat → Bool} {d : Int} {n t0 : Nat} {f : Nat → Nat} {m : Nat} (hp : jobsP l js) (h : BI l ls js g d n t0 f m) (hs : js'.Sublist js) : BI l ls js' g d n t0 f m :=
  ⟨h.le, h.ld, by have := remL_sub hp d hs; have := h.sum; omega, h.rel, fun j hj => h.at1 j (hs.subset hj), fun j hj => h.at2 j (hs.subset hj), blk_sub (fun b hb _ _ => hs.subset hb) h.blk, h.mb⟩
theorem gcnt_next {g : Nat → Bool} {t0 n : Nat} (h : t0 ≤ n) : gcnt g t0 (n + 1 - t0) = gcnt g t0 (n - t0) + (if g n = true then 1 else 0) := by
  rw [show n + 1 - t0 = (n - t0) + 1 by omega]
  show gcnt g t0 (n - t0) + (if g (t0 + (n - t0)) = true then 1 else 0) = _
  rw [show t0 + (n - t0) = n by omega]
/-- One tick that is given. -/
theorem BI.given {l : List Task} {ls : List Int} {js : List Job} {g : Nat → Bool} {d : Int} {n t0 : Nat} {f : Nat → Nat} {m : Nat} (hp : jobsP l js) (hI : InvS l js) (h : BI l ls js g d n t0 f m) (hg : g n = true) (hd : ∃ j ∈ js, j.Due ≤ d) : ∃ m', BI l ls (tick l js).1 g d (n + 1) t0 f m' := by
  rcases cho_nat hp with hc | ⟨k, hk, ec⟩
  · rcases cho_cases hp with ⟨h0, _⟩ | ⟨k, hk, hc', _⟩
    · obtain ⟨j, hj, _⟩ := hd; rw [h0] at hj; cases hj
    · omega
  rw [tick_eq hp hk ec]
  have hr := remL_tick hp d hk
  have hc := gcnt_next (g := g) h.le
  rw [if_pos hg] at hc
  have hs := h.sum
  have hm1 : ∀ j ∈ tickN l js k hk, ∃ i ∈ js, i.Task = j.Task ∧ i.At = j.At ∧ i.Due = j.Due := fun j hj => by
    rcases mem_tickN hj with ⟨i, hi, _, rfl⟩ | ⟨_, rfl⟩
    · exact ⟨_, List.getElem_mem hi, rfl, rfl, rfl⟩
    · exact ⟨_, List.getElem_mem hk, rfl, rfl, rfl⟩
  have at1 : ∀ j ∈ tickN l js k hk, j.Due ≤ d → (t0 : Int) ≤ j.At := fun j hj hjd => by
    obtain ⟨i, hi, _, e2, e3⟩ := hm1 j hj
    have := h.at1 i hi (by omega); omega
  by_cases c : js[k].Due ≤ d
  · rw [if_pos c] at hr
    have old : ∀ b ∈ tickN l js k hk, b.Began = true → d < b.Due → b ∈ js := fun b hb bb bd => by
      rcases mem_tickN hb with ⟨i, hi, _, rfl⟩ | ⟨_, rfl⟩
      · exact List.getElem_mem hi
      · have : d < js[k].Due := bd
        omega
    exact ⟨m, by have := h.le; omega, h.ld, by show _ + remL l d (tickN l js k hk) ≤ _; rw [hc]; omega, h.rel, at1, fun j hj jb jd => h.at2 j (old j hj jb jd) jb jd, blk_sub old h.blk, h.mb⟩
  · rw [if_neg c] at hr
    obtain ⟨h1, h2⟩ := blk_step hp hI hk ec hd (by omega) h.at1 h.at2 h.blk
    obtain ⟨kb, _, _⟩ := bad_slot hp hI hk ec hd (by omega) h.at1 h.at2
    refine ⟨m + 1, by have := h.le; omega, h.ld, by show _ + remL l d (tickN l js k hk) ≤ _; rw [hc]; omega, h.rel, at1, fun j hj jb jd => ?_, h2, h1⟩
    rcases mem_tickN hj with ⟨i, hi, _, rfl⟩ | ⟨_, rfl⟩
    · exact h.at2 _ (List.getElem_mem hi) jb jd
    · exact (h.at2 js[k] (List.getElem_mem hk) kb jd : js[k].At < (t0 : Int))
end Go.Proofs.Ytakiggekallckaa
namespace Go.Proofs.Ytakiggekallckaa
open Go Go.VC
/-! What is kept from tick to tick. -/
def biP (g : Nat → Bool) (d : Int) (n : Nat) (s : PartState) : Prop := (∀ j ∈ s.Jobs, d < j.Due) ∨ ∃ t0 f m, BI s.Tasks s.Lasts s.Jobs g d n t0 f m
structure Inv (g : Nat → Bool) (d : Int) (n : Nat) (e : Int) (s : PartState) : Prop where
  ok : okS s
  srp : InvS s.Tasks s.Jobs
  old : ∀ j ∈ s.Jobs, j.At < e
  bi : biP g d n s
theorem Inv.mono {g : Nat → Bool} {d : Int} {n : Nat} {e e' : Int} {s : PartState} (h : Inv g d n e s) (he : e ≤ e') : Inv g d n e' s := ⟨h.ok, h.srp, fun j hj => by have := h.old j hj; omega, h.bi⟩
theorem Inv.log {g : Nat → Bool} {d : Int} {n : Nat} {e : Int} {s s' : PartState} (h : Inv g d n e s) (hok : okS s') (e1 : s'.Tasks = s.Tasks) (e2 : s'.Lasts = s.Lasts) (e3 : s'.Jobs = s.Jobs) : Inv g d n e s' := by
  refine ⟨hok, by rw [e1, e3]; exact h.srp, by rw [e3]; exact h.old, ?_⟩
  unfold biP
  rw [e1, e2, e3]; exact h.bi
theorem Inv.leave {g : Nat → Bool} {d : Int} {n : Nat} {e : Int} {s : PartState} {i : Int} (h : Inv g d n e s) : Inv g d n e (leaveV s i).1 := by
  refine h.log (okS_leave h.ok) ?_ ?_ ?_ <;> (unfold leaveV; split; (split <;> rfl); rfl)
theorem Inv.rel {g : Nat → Bool} {d : Int} {n : Nat} {s : PartState} {i w : Int} (h : Inv g d n (n : Int) s) : Inv g d n ((n : Int) + 1) (relV s i w (n : Int)).1 := by
  have hok := stP_rel (i := i) (w := w) (t := (n : Int)) h.ok.1 h.ok.2
  by_cases c : relArg s i w (n : Int) ∧ ¬ (s.Leaves[i.toNat]?).getD false = true ∧ mayV s.Tasks s.Lasts i (n : Int) = 0 ∧ s.Jobs.length < 32
  rotate_left
  · refine (h.mono (by omega)).log hok ?_ ?_ ?_ <;> (unfold relV; split; (split; rfl; split; (split; (exfalso; exact c ⟨by assumption, by assumption, by assumption, by assumption⟩); rfl); rfl); rfl)
  obtain ⟨hA, c2, c3, c4⟩ := c
  have e : (relV s i w (n : Int)).1 = ⟨s.Tasks, s.Leaves, s.Lasts.set i.toNat (n : Int), s.Jobs ++ [newJob s.Tasks i w (n : Int)], nt s.Log ⟨(n : Int), 1, i⟩⟩ := by
    unfold relV
    rw [if_pos hA, if_neg c2, if_pos c3, if_pos c4]
  rw [e] at hok ⊢
  have hi0 := hA.2.1
  have hil : i.toNat < s.Tasks.length := by have := hA.2.2.1; omega
  have hls := h.ok.1.2.1.2.1
  have hT := tT_lt hil
  have hD := tD_lt hil
  have hargs := argP_b (relArg_arg hA)
  have hlast : lg s.Lasts i = -1 ∨ lg s.Lasts i + tT s.Tasks i ≤ (n : Int) := by
    unfold mayV at c3
    rw [if_pos (relArg_arg hA)] at c3
    by_cases c : lg s.Lasts i ≠ -1 ∧ (n : Int) < lg s.Lasts i + tT s.Tasks i
    · rw [if_pos c] at c3; omega
    · omega
  have hnb : (newJob s.Tasks i w (n : Int)).Began = false := rfl
  have hnd : (newJob s.Tasks i w (n : Int)).Due = (n : Int) + tD s.Tasks i := rfl
  have hna : (newJob s.Tasks i w (n : Int)).At = (n : Int) := rfl
  have hrem : remL s.Tasks d (s.Jobs ++ [newJob s.Tasks i w (n : Int)]) = remL s.Tasks d s.Jobs + (if (newJob s.Tasks i w (n : Int)).Due ≤ d then s.Tasks[i.toNat].C else 0) := by
    unfold remL
    rw [sumI_append]
    simp only [sumI, remJ]
    have e1 : taskC s.Tasks (newJob s.Tasks i w (n : Int)) = s.Tasks[i.toNat].C := by unfold taskC newJob; rw [List.getElem?_eq_getElem hil]
    rw [e1]
    show _ + ((if _ then s.Tasks[i.toNat].C - 0 else 0) + 0) = _
    rw [Int.sub_zero, Int.add_zero]
  refine ⟨hok, InvS_add h.srp hnb, fun j hj => ?_, ?_⟩
  · rcases List.mem_append.1 hj with hj | hj
    · have := h.old j hj; omega
    · rw [List.mem_singleton.1 hj, hna]; omega
  show (∀ j ∈ s.Jobs ++ [newJob s.Tasks i w (n : Int)], d < j.Due) ∨ ∃ t0 f m, BI s.Tasks (s.Lasts.set i.toNat (n : Int)) (s.Jobs ++ [newJob s.Tasks i w (n : Int)]) g d n t0 f m
  have keepB : ∀ {W : Int} {m : Nat}, blkP s.Tasks s.Jobs d W m → blkP s.Tasks (s.Jobs ++ [newJob s.Tasks i w (n : Int)]) d W m := fun hb => blk_sub (fun b hb bb _ => by
    rcases List.mem_append.1 hb with hb | hb
    · exact hb
    · rw [List.mem_singleton.1 hb, hnb] at bb; cases bb) hb
  have lgs : ∀ k (hk : k < s.Tasks.length), lg (s.Lasts.set i.toNat (n : Int)) (k : Int) = if k = i.toNat then (n : Int) else lg s.Lasts (k : Int) := fun k hk => by
    rw [lg_set hi0 (by omega) (by omega)]
    by_cases c : k = i.toNat
    · rw [if_pos c, if_pos (by omega)]
    · rw [if_neg c, if_neg (by omega)]
  rcases h.bi with hAll | ⟨t0, f, m, hb⟩
  · by_cases hdue : (newJob s.Tasks i w (n : Int)).Due ≤ d
    rotate_left
    · refine .inl fun j hj => ?_
      rcases List.mem_append.1 hj with hj | hj
      · exact hAll j hj
      · rw [List.mem_singleton.1 hj]; omega
    refine .inr ⟨n, bump (fun _ => 0) i.toNat, 0, Nat.le_refl _, by have := (tD_b h.ok.1.2.1.1 hil).1; omega, ?_, fun k hk hf => ?_, fun j hj jd => ?_, fun j hj jb jd => ?_, .inl rfl, Nat.zero_le _⟩
    · rw [hrem, if_pos hdue, relC_bump _ _ _ hil, relC_zero, Nat.sub_self]
      have : remL s.Tasks d s.Jobs = 0 := by
        unfold remL
        have : ∀ l : List Job, (∀ j ∈ l, d < j.Due) → sumI (remJ s.Tasks d) l = 0 := by
          intro l
          induction l with
          | nil => intro _; rfl
          | cons a r ih => intro hl; simp only [sumI]; rw [ih fun j hj => hl j (List.mem_cons_of_mem _ hj)]; unfold remJ; rw [if_neg (by have := hl a List.mem_cons_self; omega)]; rfl
        exact this _ hAll
      rw [this]
      simp only [gcnt]
      omega
    · unfold bump at hf ⊢
      by_cases c : k = i.toNat
      · subst c
        rw [if_pos rfl, lgs _ hk, if_pos rfl]
        simp only [Nat.zero_add, Int.natCast_one, Int.sub_self, Int.zero_mul]
        omega
      · rw [if_neg c] at hf; exact absurd (show (1 : Nat) ≤ 0 from hf) (by omega)
    · rcases List.mem_append.1 hj with hj | hj
      · have := hAll j hj; omega
      · rw [List.mem_singleton.1 hj, hna]; omega
    · rcases List.mem_append.1 hj with hj | hj
      · exact h.old j hj
      · rw [List.mem_singleton.1 hj, hnb] at jb; cases jb
  · have at2 : ∀ j ∈ s.Jobs ++ [newJob s.Tasks i w (n : Int)], j.Began = true → d < j.Due → j.At < (t0 : Int) := fun j hj jb jd => by
      rcases List.mem_append.1 hj with hj | hj
      · exact hb.at2 j hj jb jd
      · rw [List.mem_singleton.1 hj, hnb] at jb; cases jb
    have at1 : ∀ j ∈ s.Jobs ++ [newJob s.Tasks i w (n : Int)], j.Due ≤ d → (t0 : Int) ≤ j.At := fun j hj jd => by
      rcases List.mem_append.1 hj with hj | hj
      · exact hb.at1 j hj jd
      · rw [List.mem_singleton.1 hj, hna]; have := hb.le; omega
    have hle := hb.le
    have hsum := hb.sum
    by_cases hdue : (newJob s.Tasks i w (n : Int)).Due ≤ d
    · refine .inr ⟨t0, bump f i.toNat, m, hle, hb.ld, ?_, fun k hk hf => ?_, at1, at2, keepB hb.blk, hb.mb⟩
      · rw [hrem, if_pos hdue, relC_bump _ _ _ hil]; omega
      · unfold bump at hf ⊢
        by_cases c : k = i.toNat
        · subst c
          rw [if_pos rfl, lgs _ hk, if_pos rfl, Int.natCast_add, Int.natCast_one, Int.add_sub_cancel]
          by_cases f0 : f i.toNat = 0
          · rw [f0]; simp only [Int.natCast_zero, Int.zero_mul]; omega
          · obtain ⟨r1, r2⟩ := hb.rel _ hk (by omega)
            have ei : ((i.toNat : Nat) : Int) = i := by omega
            rw [ei] at r2
            rw [Int.sub_mul, Int.one_mul] at r1 r2
            have hTn := (h.ok.1.2.1.1.T (List.getElem_mem hil)).1
            have hp0 : 0 ≤ ((f i.toNat : Int) - 1) * s.Tasks[i.toNat].T := Int.mul_nonneg (by omega) (by omega)
            rw [Int.sub_mul, Int.one_mul] at hp0
            omega
        · rw [if_neg c] at hf ⊢
          rw [lgs _ hk, if_neg c]
          exact hb.rel k hk hf
    · refine .inr ⟨t0, f, m, hle, hb.ld, ?_, fun k hk hf => ?_, at1, at2, keepB hb.blk, hb.mb⟩
      · rw [hrem, if_neg hdue]; omega
      · obtain ⟨r1, r2⟩ := hb.rel k hk hf
        refine ⟨r1, ?_⟩
        rw [lgs _ hk]
        by_cases c : k = i.toNat
        · subst c
          rw [if_pos rfl]
          have ei : ((i.toNat : Nat) : Int) = i := by omega
          rw [ei] at r2
          have hTn := (h.ok.1.2.1.1.T (List.getElem_mem hil)).1
          have hp0 : 0 ≤ ((f i.toNat : Int) - 1) * s.Tasks[i.toNat].T := Int.mul_nonneg (by omega) (by omega)
          omega
        · rw [if_neg c]; exact r2
end Go.Proofs.Ytakiggekallckaa
namespace Go.Proofs.Ytakiggekallckaa
open Go Go.VC
theorem InvS_sub {l : List Task} {js js' : List Job} (h : InvS l js) (hs : ∀ j ∈ js', j ∈ js) : InvS l js' := fun a ha b hb => h a (hs a ha) b (hs b hb)
theorem miss_sub (t : Int) (js : List Job) : (missJ t js).Sublist js := List.filter_sublist
theorem Inv.tick {g : Nat → Bool} {d : Int} {n : Nat} {s : PartState} (h : Inv g d n ((n : Int) + 1) s) : Inv g d (n + 1) ((n + 1 : Nat) : Int) (tickV s (g n) (n : Int)).1 := by
  have hok := okS_tick (g := g n) (t := (n : Int)) h.ok
  have hp := h.ok.1.2.2.1
  have hp1 := jobsP_miss (n : Int) hp
  have hI1 : InvS s.Tasks (missJ (n : Int) s.Jobs) := InvS_sub h.srp fun j hj => (miss_sub _ _).subset hj
  by_cases c : (tickR s (g n) (n : Int)).1.length = 0
  · have e : (tickV s (g n) (n : Int)).1.Jobs = [] := by
      unfold tickV
      rw [if_pos c]
      exact List.eq_nil_of_length_eq_zero c
    refine ⟨hok, ?_, ?_, .inl ?_⟩
    · rw [e]; exact fun a ha => (List.not_mem_nil ha).elim
    · rw [e]; exact fun a ha => (List.not_mem_nil ha).elim
    · rw [e]; exact fun a ha => (List.not_mem_nil ha).elim
  have e : (tickV s (g n) (n : Int)).1 = ⟨s.Tasks, s.Leaves, s.Lasts, (tickR s (g n) (n : Int)).1, (tickR s (g n) (n : Int)).2.1⟩ := by
    unfold tickV
    rw [if_neg c]
  have hat : ∀ j ∈ (tickR s (g n) (n : Int)).1, j.At < ((n + 1 : Nat) : Int) := fun j hj => by
    obtain ⟨i, hi, _, e2, _⟩ := mem_tickR hj
    have := h.old i hi; omega
  have hsrp : InvS s.Tasks (tickR s (g n) (n : Int)).1 := by
    unfold tickR runV
    split
    · exact InvS_tick hp1 hI1
    · exact hI1
  rw [e] at hok ⊢
  refine ⟨hok, hsrp, hat, ?_⟩
  show (∀ j ∈ (tickR s (g n) (n : Int)).1, d < j.Due) ∨ ∃ t0 f m, BI s.Tasks s.Lasts (tickR s (g n) (n : Int)).1 g d (n + 1) t0 f m
  rcases h.bi with hAll | ⟨t0, f, m, hb⟩
  · refine .inl fun j hj => ?_
    obtain ⟨i, hi, _, _, e3, _⟩ := mem_tickR hj
    have := hAll i hi; omega
  have hb1 := hb.sub hp (miss_sub (n : Int) s.Jobs)
  by_cases hd : ∃ j ∈ missJ (n : Int) s.Jobs, j.Due ≤ d
  rotate_left
  · refine .inl fun j hj => ?_
    have hno : ∀ i ∈ missJ (n : Int) s.Jobs, d < i.Due := fun i hi => Classical.byContradiction fun hc => hd ⟨i, hi, by omega⟩
    unfold tickR runV at hj
    split at hj
    · obtain ⟨i, hi, _, _, e3, _⟩ := mem_tick hj
      have := hno i hi; omega
    · exact hno j hj
  have hc := gcnt_next (g := g) hb.le
  unfold tickR runV
  by_cases hg : g n = true
  · obtain ⟨j, hj, _⟩ := hd
    have hl : 0 < (missJ (n : Int) s.Jobs).length := List.length_pos_of_mem hj
    rw [if_pos ⟨hg, hl⟩]
    obtain ⟨m', h'⟩ := hb1.given hp1 hI1 hg ⟨j, hj, by assumption⟩
    exact .inr ⟨t0, f, m', h'⟩
  · rw [if_neg (fun h => hg h.1)]
    rw [if_neg hg] at hc
    exact .inr ⟨t0, f, m, by have := hb.le; omega, hb.ld, by rw [hc]; exact hb1.sum, hb1.rel, hb1.at1, hb1.at2, hb1.blk, hb1.mb⟩
theorem Inv.mid {us : List Law17Act} {g : Nat → Bool} {d : Int} {n : Nat} {s : PartState} (h : Inv g d n (n : Int) s) : Inv g d n ((n : Int) + 1) (step2 us n (step1 us n s)) := by
  have h1 : Inv g d n ((n : Int) + 1) (step1 us n s) := by
    unfold step1
    split
    · split
      · exact h.rel
      · exact h.mono (by omega)
    · exact h.mono (by omega)
  unfold step2
  split
  · split
    · exact h1.leave
    · exact h1
  · exact h1
theorem Inv.step {us : List Law17Act} {gs : List Bool} {d : Int} {n : Nat} {s : PartState} (h : Inv (gOf gs) d n (n : Int) s) : Inv (gOf gs) d (n + 1) ((n + 1 : Nat) : Int) (stepN us gs n s) := (h.mid (us := us)).tick
theorem Inv.play {us : List Law17Act} {gs : List Bool} {d : Int} {s : PartState} (h : Inv (gOf gs) d 0 0 s) : ∀ n : Nat, Inv (gOf gs) d n (n : Int) (playN us gs s n)
  | 0 => h
  | n + 1 => (Inv.play h n).step
theorem Inv.new {g : Nat → Bool} {d : Int} {l : List Task} (ha : AllP l) : Inv g d 0 0 (new0 l) := ⟨okS_new ha, fun a ha => (List.not_mem_nil ha).elim, fun a ha => (List.not_mem_nil ha).elim, .inl fun a ha => (List.not_mem_nil ha).elim⟩
/-- None that is due now is left: the tasks fit, and the pattern is legal. -/
theorem no_miss {gs : List Bool} {n K : Nat} {e : Int} {s : PartState} {f : Face} (h : Inv (gOf gs) (n : Int) n e s) (hf : fitsF s.Tasks f) {P B : Nat} (hP : f.P = (P : Int)) (hB : f.B = (B : Int)) (hl : legalN P B (gOf gs) (K * P)) (hn : n ≤ K * P) : ∀ j ∈ s.Jobs, (n : Int) < j.Due := by
  rcases h.bi with hAll | ⟨t0, c, m, hb⟩
  · exact hAll
  intro j hj
  refine Classical.byContradiction fun hd => ?_
  have ha := hf.1.1
  have hfp := hf.1.2.1
  have hr := remL_one h.ok.1.2.2.1 hj (show j.Due ≤ (n : Int) by omega)
  have hle := hb.le
  have hW : ((n - t0 : Nat) : Int) = (n : Int) - (t0 : Int) := by omega
  have hneed := fits_int hf (t := (n : Int) - (t0 : Int)) (by omega)
  have hsup := window hfp hP hB hl t0 (n - t0) (by omega)
  rw [hW] at hsup
  have hC : relC s.Tasks c ≤ sumB s.Tasks ((n : Int) - (t0 : Int)) := by
    refine relC_le _ _ (fun t ht => by have := ha.T ht; omega) fun i hi => ?_
    have hT := ha.T (List.getElem_mem hi)
    by_cases c0 : c i = 0
    · rw [c0]; exact (jobsN_b (ha.1 _ (List.getElem_mem hi)) (by omega)).1
    obtain ⟨r1, _⟩ := hb.rel i hi (by omega)
    have hp0 : 0 ≤ ((c i : Int) - 1) * s.Tasks[i].T := Int.mul_nonneg (by omega) (by omega)
    unfold jobsN
    rw [if_neg (by omega)]
    have : (c i : Int) - 1 ≤ ((n : Int) - (t0 : Int) - s.Tasks[i].D) / s.Tasks[i].T := (Int.le_ediv_iff_mul_le (by omega)).2 (by omega)
    omega
  have hm := hb.mb
  have hs := hb.sum
  unfold needV at hneed
  omega
end Go.Proofs.Ytakiggekallckaa
namespace Go.Proofs.Ytakiggekallckaa
open Go Go.VC
noncomputable def admit_fit_1 (a0 : List Task) (a1 : Int) (a2 : Int) : Option Int :=
  bnd (verdict_Fits a0 ⟨a1, a2⟩) fun x1 => jn (fun (w2 : Bool) => fk w2 (some (7 : Int)) (some x1.2)) (fun k2 => fk (decide (x1.2 = (0 : Int))) (k2 (!x1.1)) (k2 false))
theorem admit_fit_1_w (a0 : List Task) (a1 : Int) (a2 : Int) (r : Int) (h : admit_fit_1 a0 a1 a2 = some r) : Go.VC.Spec Try.prog 87 [.dp [.sl (a0.map Task.enc)], .dp [.int .i64 a1, .int .i64 a2]] (fun y => y = E_Int r) := by
  refine Go.VC.Spec.of_xc (args := [.dp [.sl (a0.map Task.enc)], .dp [.int .i64 a1, .int .i64 a2]]) (fn := Try.f87) tab ⟨[(0, [0, 1]), (1, [3, 4]), (2, [4, 16]), (3, [2]), (4, [2])], [], [100016], []⟩ 18 [.tmp 2] rfl rfl rfl rfl rfl rfl ?_
  conv => whnf
  refine caS (E := E_Bool_Int) h (verdict_Fits_w a0 ⟨a1, a2⟩) rfl (fun _ => rfl) (fun x1 h => ?_)
  conv => whnf
  refine jnS (fun w2 => ⟨[(4, .l (.d (.int .i64 x1.2))), (16, .l (.d (.bool w2)))], 18, [], [], []⟩) h (fun k2 hk2 h => ?_) (fun w2 h => ?_)
  · conv => whnf
    refine fkS h (fun h => ?_) (fun h => ?_)
    · conv => whnf
      exact jeS hk2 h (Weak.refl _)
    conv => whnf
    exact jeS hk2 h (Weak.refl _)
  conv => whnf
  refine fkS h (fun h => ?_) (fun h => ?_)
  · conv => whnf
    exact rt (E := E_Int) h rfl
  conv => whnf
  exact rt (E := E_Int) h rfl

end Go.Proofs.Ytakiggekallckaa
namespace Go.Proofs.Ytakiggekallckaa
open Go Go.VC
noncomputable def admit_unless_1 (a0 : Bool) (a1 : Int) : Option Int :=
  fk a0 (some (0 : Int)) (some a1)
theorem admit_unless_1_w (a0 : Bool) (a1 : Int) (r : Int) (h : admit_unless_1 a0 a1 = some r) : Go.VC.Spec Try.prog 86 [.dp [.bool a0], .dp [.int .i64 a1]] (fun y => y = E_Int r) := by
  refine Go.VC.Spec.of_xc (args := [.dp [.bool a0], .dp [.int .i64 a1]]) (fn := Try.f86) tab ⟨[(0, [0, 1]), (1, [1, 3]), (2, [2]), (3, [2])], [], [], []⟩ 5 [.tmp 2] rfl rfl rfl rfl rfl rfl ?_
  conv => whnf
  refine fkS h (fun h => ?_) (fun h => ?_)
  · conv => whnf
    exact rt (E := E_Int) h rfl
  conv => whnf
  exact rt (E := E_Int) h rfl

end Go.Proofs.Ytakiggekallckaa
namespace Go.Proofs.Ytakiggekallckaa
open Go Go.VC
def E_fn_admit_fit : (List Task) × Int × Int → List CV := fun r => [.d (.fn 87 [[.sl (r.1.map Task.enc)], [.int .i64 r.2.1, .int .i64 r.2.2]])]
noncomputable def admit_fit (a0 : List Task) (a1 : Face) : Option ((List Task) × Int × Int) :=
  some (a0, a1.P, a1.B)
theorem admit_fit_w (a0 : List Task) (a1 : Face) (r : (List Task) × Int × Int) (h : admit_fit a0 a1 = some r) : Go.VC.Spec Try.prog 68 [.d (.sl (a0.map Task.enc)), .agg (Face.enc a1)] (fun y => y = E_fn_admit_fit r) := by
  refine Go.VC.Spec.of_xc (args := [.d (.sl (a0.map Task.enc)), .agg (Face.enc a1)]) (fn := Try.f68) tab ⟨[(0, [2, 3]), (1, [4])], [], [], []⟩ 6 [.tmp 4] rfl rfl rfl rfl rfl rfl ?_
  conv => whnf
  exact rt (E := E_fn_admit_fit) h rfl

end Go.Proofs.Ytakiggekallckaa
namespace Go.Proofs.Ytakiggekallckaa
open Go Go.VC
def E_fn_admit_unless : Bool × Int → List CV := fun r => [.d (.fn 86 [[.bool r.1], [.int .i64 r.2]])]
noncomputable def admit_unless (a0 : Bool) (a1 : Int) : Option (Bool × Int) :=
  some (a0, a1)
theorem admit_unless_w (a0 : Bool) (a1 : Int) (r : Bool × Int) (h : admit_unless a0 a1 = some r) : Go.VC.Spec Try.prog 66 [.d (.bool a0), .d (.int .i64 a1)] (fun y => y = E_fn_admit_unless r) := by
  refine Go.VC.Spec.of_xc (args := [.d (.bool a0), .d (.int .i64 a1)]) (fn := Try.f66) tab ⟨[(0, [2, 3]), (1, [4])], [], [], []⟩ 6 [.tmp 4] rfl rfl rfl rfl rfl rfl ?_
  conv => whnf
  exact rt (E := E_fn_admit_unless) h rfl

end Go.Proofs.Ytakiggekallckaa
namespace Go.Proofs.Ytakiggekallckaa
open Go Go.VC
noncomputable def admit_first (a0 : Bool) (a1 : Int) (a2 : List Task) (a3 : Int) (a4 : Int) : Option Int :=
  lp (fun nx1 (v1 : Int) => fk (decide (v1 < (2 : Int))) (fk (decide (v1 = (0 : Int))) (bnd (admit_unless_1 a0 a1) fun x3 => fk (!decide (x3 = (0 : Int))) (some x3) (nx1 (wr (v1 + (1 : Int))))) (fk (decide (v1 = (1 : Int))) (bnd (admit_fit_1 a2 a3 a4) fun x2 => fk (!decide (x2 = (0 : Int))) (some x2) (nx1 (wr (v1 + (1 : Int))))) (none))) (some (0 : Int))) FU (0 : Int)
theorem admit_first_w (a0 : Bool) (a1 : Int) (a2 : List Task) (a3 : Int) (a4 : Int) (r : Int) (h : admit_first a0 a1 a2 a3 a4 = some r) : Go.VC.Spec Try.prog 65 [.d (.sl [[.fn 86 [[.bool a0], [.int .i64 a1]]], [.fn 87 [[.sl (a2.map Task.enc)], [.int .i64 a3, .int .i64 a4]]]])] (fun y => y = E_Int r) := by
  refine Go.VC.Spec.of_xc (args := [.d (.sl [[.fn 86 [[.bool a0], [.int .i64 a1]]], [.fn 87 [[.sl (a2.map Task.enc)], [.int .i64 a3, .int .i64 a4]]]])]) (fn := Try.f65) tab ⟨[(0, [0]), (1, [6, 7, 8]), (2, [6, 7, 8, 9]), (3, [4, 6, 7, 8]), (4, [5, 6, 7, 8]), (5, [5, 6, 7, 8, 15]), (6, [2]), (7, [6, 7, 8]), (8, [2])], [], [], []⟩ 18 [.tmp 2] rfl rfl rfl rfl rfl rfl ?_
  conv => whnf
  refine lenR (2 : Int) rfl ?_
  conv => whnf
  refine lpS (fun v1 => ⟨[(6, .l (.d (.sl [[.fn 86 [[.bool a0], [.int .i64 a1]]], [.fn 87 [[.sl (a2.map Task.enc)], [.int .i64 a3, .int .i64 a4]]]]))), (7, .l (.d (.int .i64 (2 : Int)))), (8, .l (.d (.int .i64 v1)))], 18, [], [], []⟩) h (Weak.refl _) (fun _ nx1 hn1 v1 h => ?_)
  conv => whnf
  refine fkS h (fun h => ?_) (fun h => ?_)
  · conv => whnf
    refine ixC 0 [.fn 86 [[.bool a0], [.int .i64 a1]]] h rfl rfl (fun h => ?_) (fun h => ?_)
    · conv => whnf
      refine caS (E := E_Int) h (admit_unless_1_w a0 a1) rfl (fun _ => rfl) (fun x3 h => ?_)
      conv => whnf
      refine fkS h (fun h => ?_) (fun h => ?_)
      · conv => whnf
        exact rt (E := E_Int) h rfl
      conv => whnf
      exact leS hn1 h (Weak.refl _)
    conv => whnf
    refine ixC 1 [.fn 87 [[.sl (a2.map Task.enc)], [.int .i64 a3, .int .i64 a4]]] h rfl rfl (fun h => ?_) (fun h => ?_)
    · conv => whnf
      refine caS (E := E_Int) h (admit_fit_1_w a2 a3 a4) rfl (fun _ => rfl) (fun x2 h => ?_)
      conv => whnf
      refine fkS h (fun h => ?_) (fun h => ?_)
      · conv => whnf
        exact rt (E := E_Int) h rfl
      conv => whnf
      exact leS hn1 h (Weak.refl _)
    conv => whnf
    exact ixN h
  conv => whnf
  exact rt (E := E_Int) h rfl

end Go.Proofs.Ytakiggekallckaa
namespace Go.Proofs.Ytakiggekallckaa
open Go Go.VC
noncomputable def admit_first_1 (a0 : Bool) (a1 : Int) (a2 : Bool) (a3 : Int) (a4 : Bool) (a5 : Int) (a6 : List Task) (a7 : Int) (a8 : Int) : Option Int :=
  lp (fun nx1 (v1 : Int) => fk (decide (v1 < (4 : Int))) (fk (decide (v1 = (0 : Int))) (bnd (admit_unless_1 a0 a1) fun x5 => fk (!decide (x5 = (0 : Int))) (some x5) (nx1 (wr (v1 + (1 : Int))))) (fk (decide (v1 = (1 : Int))) (bnd (admit_unless_1 a2 a3) fun x4 => fk (!decide (x4 = (0 : Int))) (some x4) (nx1 (wr (v1 + (1 : Int))))) (fk (decide (v1 = (2 : Int))) (bnd (admit_unless_1 a4 a5) fun x3 => fk (!decide (x3 = (0 : Int))) (some x3) (nx1 (wr (v1 + (1 : Int))))) (fk (decide (v1 = (3 : Int))) (bnd (admit_fit_1 a6 a7 a8) fun x2 => fk (!decide (x2 = (0 : Int))) (some x2) (nx1 (wr (v1 + (1 : Int))))) (none))))) (some (0 : Int))) FU (0 : Int)
theorem admit_first_1_w (a0 : Bool) (a1 : Int) (a2 : Bool) (a3 : Int) (a4 : Bool) (a5 : Int) (a6 : List Task) (a7 : Int) (a8 : Int) (r : Int) (h : admit_first_1 a0 a1 a2 a3 a4 a5 a6 a7 a8 = some r) : Go.VC.Spec Try.prog 65 [.d (.sl [[.fn 86 [[.bool a0], [.int .i64 a1]]], [.fn 86 [[.bool a2], [.int .i64 a3]]], [.fn 86 [[.bool a4], [.int .i64 a5]]], [.fn 87 [[.sl (a6.map Task.enc)], [.int .i64 a7, .int .i64 a8]]]])] (fun y => y = E_Int r) := by
  refine Go.VC.Spec.of_xc (args := [.d (.sl [[.fn 86 [[.bool a0], [.int .i64 a1]]], [.fn 86 [[.bool a2], [.int .i64 a3]]], [.fn 86 [[.bool a4], [.int .i64 a5]]], [.fn 87 [[.sl (a6.map Task.enc)], [.int .i64 a7, .int .i64 a8]]]])]) (fn := Try.f65) tab ⟨[(0, [0]), (1, [6, 7, 8]), (2, [6, 7, 8, 9]), (3, [4, 6, 7, 8]), (4, [5, 6, 7, 8]), (5, [5, 6, 7, 8, 15]), (6, [2]), (7, [6, 7, 8]), (8, [2])], [], [], []⟩ 18 [.tmp 2] rfl rfl rfl rfl rfl rfl ?_
  conv => whnf
  refine lenR (4 : Int) rfl ?_
  conv => whnf
  refine lpS (fun v1 => ⟨[(6, .l (.d (.sl [[.fn 86 [[.bool a0], [.int .i64 a1]]], [.fn 86 [[.bool a2], [.int .i64 a3]]], [.fn 86 [[.bool a4], [.int .i64 a5]]], [.fn 87 [[.sl (a6.map Task.enc)], [.int .i64 a7, .int .i64 a8]]]]))), (7, .l (.d (.int .i64 (4 : Int)))), (8, .l (.d (.int .i64 v1)))], 18, [], [], []⟩) h (Weak.refl _) (fun _ nx1 hn1 v1 h => ?_)
  conv => whnf
  refine fkS h (fun h => ?_) (fun h => ?_)
  · conv => whnf
    refine ixC 0 [.fn 86 [[.bool a0], [.int .i64 a1]]] h rfl rfl (fun h => ?_) (fun h => ?_)
    · conv => whnf
      refine caS (E := E_Int) h (admit_unless_1_w a0 a1) rfl (fun _ => rfl) (fun x5 h => ?_)
      conv => whnf
      refine fkS h (fun h => ?_) (fun h => ?_)
      · conv => whnf
        exact rt (E := E_Int) h rfl
      conv => whnf
      exact leS hn1 h (Weak.refl _)
    conv => whnf
    refine ixC 1 [.fn 86 [[.bool a2], [.int .i64 a3]]] h rfl rfl (fun h => ?_) (fun h => ?_)
    · conv => whnf
      refine caS (E := E_Int) h (admit_unless_1_w a2 a3) rfl (fun _ => rfl) (fun x4 h => ?_)
      conv => whnf
      refine fkS h (fun h => ?_) (fun h => ?_)
      · conv => whnf
        exact rt (E := E_Int) h rfl
      conv => whnf
      exact leS hn1 h (Weak.refl _)
    conv => whnf
    refine ixC 2 [.fn 86 [[.bool a4], [.int .i64 a5]]] h rfl rfl (fun h => ?_) (fun h => ?_)
    · conv => whnf
      refine caS (E := E_Int) h (admit_unless_1_w a4 a5) rfl (fun _ => rfl) (fun x3 h => ?_)
      conv => whnf
      refine fkS h (fun h => ?_) (fun h => ?_)
      · conv => whnf
        exact rt (E := E_Int) h rfl
      conv => whnf
      exact leS hn1 h (Weak.refl _)
    conv => whnf
    refine ixC 3 [.fn 87 [[.sl (a6.map Task.enc)], [.int .i64 a7, .int .i64 a8]]] h rfl rfl (fun h => ?_) (fun h => ?_)
    · conv => whnf
      refine caS (E := E_Int) h (admit_fit_1_w a6 a7 a8) rfl (fun _ => rfl) (fun x2 h => ?_)
      conv => whnf
      refine fkS h (fun h => ?_) (fun h => ?_)
      · conv => whnf
        exact rt (E := E_Int) h rfl
      conv => whnf
      exact leS hn1 h (Weak.refl _)
    conv => whnf
    exact ixN h
  conv => whnf
  exact rt (E := E_Int) h rfl

end Go.Proofs.Ytakiggekallckaa
namespace Go.Proofs.Ytakiggekallckaa
open Go Go.VC
noncomputable def admit_Boot (a0 : Part) : Option (PartState × Int) :=
  jn (fun (w1 : Int) => fk (!decide (w1 = (0 : Int))) (some (⟨[], [], [], [], []⟩, w1)) (bnd (part_New a0.Tasks) fun x10 => some (x10.1, x10.2))) (fun k1 => bnd (supply_Right a0.Face) fun x2 => fk x2 (bnd (task_All a0.Tasks) fun x3 => bnd (admit_unless x3 (1 : Int)) fun x4 => bnd (admit_fit a0.Tasks a0.Face) fun x5 => bnd (admit_first x4.1 x4.2 x5.1 x5.2.1 x5.2.2) fun x6 => k1 x6) (bnd (admit_unless false (1 : Int)) fun x7 => bnd (admit_fit a0.Tasks a0.Face) fun x8 => bnd (admit_first x7.1 x7.2 x8.1 x8.2.1 x8.2.2) fun x9 => k1 x9))
theorem admit_Boot_w (a0 : Part) (r : PartState × Int) (h : admit_Boot a0 = some r) : Go.VC.Spec Try.prog 32 [.agg (Part.enc a0)] (fun y => y = E_PartState_Int r) := by
  refine Go.VC.Spec.of_xc (args := [.agg (Part.enc a0)]) (fn := Try.f32) tab ⟨[(0, [1, 2]), (1, [1, 2, 4]), (2, [1, 2, 4, 22]), (3, [2, 3]), (4, [2, 3])], [], [2], []⟩ 30 [.cell 2 28, .tmp 3] rfl rfl rfl rfl rfl rfl ?_
  conv => whnf
  refine jnS (fun w1 => ⟨[(1, .l (.ptr 2 0)), (2, .l (.ptr 3 0)), (4, .l (.d (.int .i64 w1)))], 30, [], [(2, [.d (.int .i64 a0.Face.P), .d (.int .i64 a0.Face.B), .d (.sl (a0.Tasks.map Task.enc))]), (3, [.nil, .nil, .nil, .nil, .nil])], []⟩) h (fun k1 hk1 h => ?_) (fun w1 h => ?_)
  · conv => whnf
    refine ⟨13, ?_⟩
    conv => whnf
    refine daS (E := E_Bool) h (supply_Right_w a0.Face) (fun _ => rfl) (fun x2 h => ?_)
    conv => whnf
    refine fkS h (fun h => ?_) (fun h => ?_)
    · conv => whnf
      refine daS (E := E_Bool) h (task_All_w a0.Tasks) (fun _ => rfl) (fun x3 h => ?_)
      conv => whnf
      refine dcS (E := E_fn_admit_unless) h (admit_unless_w x3 (1 : Int)) rfl (fun x4 h => ?_)
      conv => whnf
      refine drS (by kernel_rfl) ?_
      conv => whnf
      refine ccS (E := E_fn_admit_fit) h (admit_fit_w a0.Tasks a0.Face) rfl rfl (fun x5 h => ?_)
      conv => whnf
      refine liR rfl ?_
      conv => whnf
      refine caS (E := E_Int) h (admit_first_w x4.1 x4.2 x5.1 x5.2.1 x5.2.2) rfl (fun _ => rfl) (fun x6 h => ?_)
      conv => whnf
      exact jeS hk1 h (Weak.refl _)
    conv => whnf
    refine dcS (E := E_fn_admit_unless) h (admit_unless_w false (1 : Int)) rfl (fun x7 h => ?_)
    conv => whnf
    refine drS (by kernel_rfl) ?_
    conv => whnf
    refine ccS (E := E_fn_admit_fit) h (admit_fit_w a0.Tasks a0.Face) rfl rfl (fun x8 h => ?_)
    conv => whnf
    refine liR rfl ?_
    conv => whnf
    refine caS (E := E_Int) h (admit_first_w x7.1 x7.2 x8.1 x8.2.1 x8.2.2) rfl (fun _ => rfl) (fun x9 h => ?_)
    conv => whnf
    exact jeS hk1 h (Weak.refl _)
  conv => whnf
  refine fkS h (fun h => ?_) (fun h => ?_)
  · conv => whnf
    exact rt (E := E_PartState_Int) h rfl
  conv => whnf
  refine ccS (E := E_PartState_Int) h (part_New_w a0.Tasks) rfl rfl (fun x10 h => ?_)
  conv => whnf
  exact rt (E := E_PartState_Int) h rfl

end Go.Proofs.Ytakiggekallckaa
namespace Go.Proofs.Ytakiggekallckaa
open Go Go.VC
noncomputable def admit_Add (a0 : PartState) (a1 : Face) (a2 : Task) : Option (PartState × Int) :=
  ck (decide ((([] : List Task).length + a0.Tasks.length) * 48 ≤ 140737488355328)) (ck (decide (((([] : List Task) ++ a0.Tasks).length + ([a2] : List Task).length) * 48 ≤ 140737488355328)) (jn (fun (w1 : Int) => fk (!decide (w1 = (0 : Int))) (some (a0, w1)) (bnd (part_Add a0 a2) fun x23 => some (x23.1, x23.2))) (fun k1 => bnd (part_Right a0) fun x2 => fk x2 (bnd (supply_Right a1) fun x3 => fk x3 (bnd (task_Right a2) fun x4 => bnd (admit_unless x4 (1 : Int)) fun x5 => bnd (admit_unless (decide ((a0.Tasks.length : Int) < (8 : Int))) (3 : Int)) fun x6 => bnd (job_First a0.Jobs true) fun x7 => bnd (admit_unless (decide (x7 < (0 : Int))) (9 : Int)) fun x8 => bnd (admit_fit ((([] : List Task) ++ a0.Tasks) ++ ([a2] : List Task)) a1) fun x9 => bnd (admit_first_1 x5.1 x5.2 x6.1 x6.2 x8.1 x8.2 x9.1 x9.2.1 x9.2.2) fun x10 => k1 x10) (bnd (admit_unless false (1 : Int)) fun x11 => bnd (admit_unless (decide ((a0.Tasks.length : Int) < (8 : Int))) (3 : Int)) fun x12 => bnd (job_First a0.Jobs true) fun x13 => bnd (admit_unless (decide (x13 < (0 : Int))) (9 : Int)) fun x14 => bnd (admit_fit ((([] : List Task) ++ a0.Tasks) ++ ([a2] : List Task)) a1) fun x15 => bnd (admit_first_1 x11.1 x11.2 x12.1 x12.2 x14.1 x14.2 x15.1 x15.2.1 x15.2.2) fun x16 => k1 x16)) (bnd (admit_unless false (1 : Int)) fun x17 => bnd (admit_unless (decide ((a0.Tasks.length : Int) < (8 : Int))) (3 : Int)) fun x18 => bnd (job_First a0.Jobs true) fun x19 => bnd (admit_unless (decide (x19 < (0 : Int))) (9 : Int)) fun x20 => bnd (admit_fit ((([] : List Task) ++ a0.Tasks) ++ ([a2] : List Task)) a1) fun x21 => bnd (admit_first_1 x17.1 x17.2 x18.1 x18.2 x20.1 x20.2 x21.1 x21.2.1 x21.2.2) fun x22 => k1 x22))))
theorem admit_Add_w (a0 : PartState) (a1 : Face) (a2 : Task) (r : PartState × Int) (h : admit_Add a0 a1 a2 = some r) : Go.VC.Spec Try.prog 34 [.agg (PartState.enc a0), .agg (Face.enc a1), .agg (Task.enc a2)] (fun y => y = E_PartState_Int r) := by
  refine Go.VC.Spec.of_xc (args := [.agg (PartState.enc a0), .agg (Face.enc a1), .agg (Task.enc a2)]) (fn := Try.f34) tab ⟨[(0, [3, 4, 5, 6]), (1, [3, 4, 5, 6, 8]), (2, [3, 5, 6, 9]), (3, [3, 5, 6, 9, 44]), (4, [6, 7]), (5, [6, 7])], [], [3], []⟩ 52 [.cell 6 28, .tmp 7] rfl rfl rfl rfl rfl rfl ?_
  conv => whnf
  refine ⟨6, ?_⟩
  conv => whnf
  refine liS ([] : List Task) Task.enc rfl rfl ?_
  conv => whnf
  refine apS (enc := Task.enc) (l1 := ([] : List Task)) (l2 := a0.Tasks) h rfl rfl (fun _ => rfl) (fun h => ?_)
  conv => whnf
  refine liS ([a2] : List Task) Task.enc rfl rfl ?_
  conv => whnf
  refine drS (by kernel_rfl) ?_
  conv => whnf
  refine apS (enc := Task.enc) (l1 := ([] : List Task) ++ a0.Tasks) (l2 := ([a2] : List Task)) h rfl rfl (fun _ => rfl) (fun h => ?_)
  conv => whnf
  refine jnS (fun w1 => ⟨[(3, .l (.ptr 4 0)), (5, .l (.ptr 6 0)), (6, .l (.ptr 7 0)), (9, .l (.d (.int .i64 w1)))], 52, [], [(4, [.d (.sl (a0.Tasks.map Task.enc)), .d (.sl (a0.Leaves.map eB)), .d (.sl (a0.Lasts.map (eI .i64))), .d (.sl (a0.Jobs.map Job.enc)), .d (.sl (a0.Log.map Entry.enc))]), (6, [.d (.int .i64 a2.C), .d (.int .i64 a2.D), .d (.int .i64 a2.T), .d (.sl (a2.Secs.map Sec.enc))]), (7, [.nil, .nil, .nil, .nil, .nil])], []⟩) h (fun k1 hk1 h => ?_) (fun w1 h => ?_)
  · conv => whnf
    refine ⟨23, ?_⟩
    conv => whnf
    refine daS (E := E_Bool) h (part_Right_w a0) (fun _ => rfl) (fun x2 h => ?_)
    conv => whnf
    refine fkS h (fun h => ?_) (fun h => ?_)
    · conv => whnf
      refine daS (E := E_Bool) h (supply_Right_w a1) (fun _ => rfl) (fun x3 h => ?_)
      conv => whnf
      refine fkS h (fun h => ?_) (fun h => ?_)
      · conv => whnf
        refine daS (E := E_Bool) h (task_Right_w a2) (fun _ => rfl) (fun x4 h => ?_)
        conv => whnf
        refine dcS (E := E_fn_admit_unless) h (admit_unless_w x4 (1 : Int)) rfl (fun x5 h => ?_)
        conv => whnf
        refine lenS a0.Tasks Task.enc rfl ?_
        conv => whnf
        refine dcS (E := E_fn_admit_unless) h (admit_unless_w (decide ((a0.Tasks.length : Int) < (8 : Int))) (3 : Int)) rfl (fun x6 h => ?_)
        conv => whnf
        refine daS (E := E_Int) h (job_First_w a0.Jobs true) (fun _ => rfl) (fun x7 h => ?_)
        conv => whnf
        refine dcS (E := E_fn_admit_unless) h (admit_unless_w (decide (x7 < (0 : Int))) (9 : Int)) rfl (fun x8 h => ?_)
        conv => whnf
        refine drS (by kernel_rfl) ?_
        conv => whnf
        refine iceS 9 ?_
        conv => whnf
        refine ccS (E := E_fn_admit_fit) h (admit_fit_w ((([] : List Task) ++ a0.Tasks) ++ ([a2] : List Task)) a1) rfl rfl (fun x9 h => ?_)
        conv => whnf
        refine liR rfl ?_
        conv => whnf
        refine caS (E := E_Int) h (admit_first_1_w x5.1 x5.2 x6.1 x6.2 x8.1 x8.2 x9.1 x9.2.1 x9.2.2) rfl (fun _ => rfl) (fun x10 h => ?_)
        conv => whnf
        exact jeS hk1 h (Weak.refl _)
      conv => whnf
      refine dcS (E := E_fn_admit_unless) h (admit_unless_w false (1 : Int)) rfl (fun x11 h => ?_)
      conv => whnf
      refine lenS a0.Tasks Task.enc rfl ?_
      conv => whnf
      refine dcS (E := E_fn_admit_unless) h (admit_unless_w (decide ((a0.Tasks.length : Int) < (8 : Int))) (3 : Int)) rfl (fun x12 h => ?_)
      conv => whnf
      refine daS (E := E_Int) h (job_First_w a0.Jobs true) (fun _ => rfl) (fun x13 h => ?_)
      conv => whnf
      refine dcS (E := E_fn_admit_unless) h (admit_unless_w (decide (x13 < (0 : Int))) (9 : Int)) rfl (fun x14 h => ?_)
      conv => whnf
      refine drS (by kernel_rfl) ?_
      conv => whnf
      refine iceS 9 ?_
      conv => whnf
      refine ccS (E := E_fn_admit_fit) h (admit_fit_w ((([] : List Task) ++ a0.Tasks) ++ ([a2] : List Task)) a1) rfl rfl (fun x15 h => ?_)
      conv => whnf
      refine liR rfl ?_
      conv => whnf
      refine caS (E := E_Int) h (admit_first_1_w x11.1 x11.2 x12.1 x12.2 x14.1 x14.2 x15.1 x15.2.1 x15.2.2) rfl (fun _ => rfl) (fun x16 h => ?_)
      conv => whnf
      exact jeS hk1 h (Weak.refl _)
    conv => whnf
    refine dcS (E := E_fn_admit_unless) h (admit_unless_w false (1 : Int)) rfl (fun x17 h => ?_)
    conv => whnf
    refine lenS a0.Tasks Task.enc rfl ?_
    conv => whnf
    refine dcS (E := E_fn_admit_unless) h (admit_unless_w (decide ((a0.Tasks.length : Int) < (8 : Int))) (3 : Int)) rfl (fun x18 h => ?_)
    conv => whnf
    refine daS (E := E_Int) h (job_First_w a0.Jobs true) (fun _ => rfl) (fun x19 h => ?_)
    conv => whnf
    refine dcS (E := E_fn_admit_unless) h (admit_unless_w (decide (x19 < (0 : Int))) (9 : Int)) rfl (fun x20 h => ?_)
    conv => whnf
    refine drS (by kernel_rfl) ?_
    conv => whnf
    refine iceS 9 ?_
    conv => whnf
    refine ccS (E := E_fn_admit_fit) h (admit_fit_w ((([] : List Task) ++ a0.Tasks) ++ ([a2] : List Task)) a1) rfl rfl (fun x21 h => ?_)
    conv => whnf
    refine liR rfl ?_
    conv => whnf
    refine caS (E := E_Int) h (admit_first_1_w x17.1 x17.2 x18.1 x18.2 x20.1 x20.2 x21.1 x21.2.1 x21.2.2) rfl (fun _ => rfl) (fun x22 h => ?_)
    conv => whnf
    exact jeS hk1 h (Weak.refl _)
  conv => whnf
  refine fkS h (fun h => ?_) (fun h => ?_)
  · conv => whnf
    exact rt (E := E_PartState_Int) h rfl
  conv => whnf
  refine ccS (E := E_PartState_Int) h (part_Add_w a0 a2) rfl rfl (fun x23 h => ?_)
  conv => whnf
  exact rt (E := E_PartState_Int) h rfl

end Go.Proofs.Ytakiggekallckaa
namespace Go.Proofs.Ytakiggekallckaa
open Go Go.VC
noncomputable def admit_Drop (a0 : PartState) (a1 : Int) : Option (PartState × Int) :=
  bnd (part_Leave a0 a1) fun x1 => some (x1.1, x1.2)
theorem admit_Drop_w (a0 : PartState) (a1 : Int) (r : PartState × Int) (h : admit_Drop a0 a1 = some r) : Go.VC.Spec Try.prog 38 [.agg (PartState.enc a0), .d (.int .i64 a1)] (fun y => y = E_PartState_Int r) := by
  refine Go.VC.Spec.of_xc (args := [.agg (PartState.enc a0), .d (.int .i64 a1)]) (fn := Try.f38) tab ⟨[(0, [1, 2, 4]), (1, [4, 5])], [], [], []⟩ 11 [.cell 4 28, .tmp 5] rfl rfl rfl rfl rfl rfl ?_
  conv => whnf
  refine ccS (E := E_PartState_Int) h (part_Leave_w a0 a1) rfl rfl (fun x1 h => ?_)
  conv => whnf
  exact rt (E := E_PartState_Int) h rfl

end Go.Proofs.Ytakiggekallckaa
namespace Go.Proofs.Ytakiggekallckaa
open Go Go.VC
noncomputable def admit_Change (a0 : PartState) (a1 : Face) (a2 : Int) (a3 : Task) : Option (PartState × Int) :=
  bnd (admit_Drop a0 a2) fun x1 => fk (!decide (x1.2 = (0 : Int))) (some (a0, x1.2)) (bnd (admit_Add x1.1 a1 a3) fun x2 => fk (!decide (x2.2 = (0 : Int))) (some (a0, x2.2)) (some (x2.1, (0 : Int))))
theorem admit_Change_w (a0 : PartState) (a1 : Face) (a2 : Int) (a3 : Task) (r : PartState × Int) (h : admit_Change a0 a1 a2 a3 = some r) : Go.VC.Spec Try.prog 39 [.agg (PartState.enc a0), .agg (Face.enc a1), .d (.int .i64 a2), .agg (Task.enc a3)] (fun y => y = E_PartState_Int r) := by
  refine Go.VC.Spec.of_xc (args := [.agg (PartState.enc a0), .agg (Face.enc a1), .d (.int .i64 a2), .agg (Task.enc a3)]) (fn := Try.f39) tab ⟨[(0, [2, 4, 5, 7, 8]), (1, [4, 5, 7, 8, 10, 11]), (2, [4, 5, 7, 8, 10, 11, 19]), (3, [8, 9]), (4, [4, 8, 10, 11]), (5, [4, 8, 10, 11, 30]), (6, [8, 9]), (7, [8, 9])], [], [], []⟩ 34 [.cell 8 28, .tmp 9] rfl rfl rfl rfl rfl rfl ?_
  conv => whnf
  refine ccS (E := E_PartState_Int) h (admit_Drop_w a0 a2) rfl rfl (fun x1 h => ?_)
  conv => whnf
  refine fkS h (fun h => ?_) (fun h => ?_)
  · conv => whnf
    exact rt (E := E_PartState_Int) h rfl
  conv => whnf
  refine ccS (E := E_PartState_Int) h (admit_Add_w x1.1 a1 a3) rfl rfl (fun x2 h => ?_)
  conv => whnf
  refine fkS h (fun h => ?_) (fun h => ?_)
  · conv => whnf
    exact rt (E := E_PartState_Int) h rfl
  conv => whnf
  exact rt (E := E_PartState_Int) h rfl

end Go.Proofs.Ytakiggekallckaa
namespace Go.Proofs.Ytakiggekallckaa
open Go Go.VC
/-! Who is let in. -/
noncomputable def fitE (l : List Task) (f : Face) : Int := if errC l f = 0 ∧ ¬ fitsF l f then 7 else errC l f
theorem fitE_zero {l : List Task} {f : Face} : fitE l f = 0 ↔ fitsF l f := by
  unfold fitE
  constructor
  · intro h
    refine Classical.byContradiction fun hf => ?_
    by_cases c : errC l f = 0
    · rw [if_pos ⟨c, hf⟩] at h; omega
    · rw [if_neg (fun h => c h.1)] at h; exact c h
  · intro h
    rw [if_neg (fun hh => hh.2 h)]
    unfold errC; rw [if_pos h.1]
theorem admit_fit_1_eq (l : List Task) (P B : Int) (hl : l.length ≤ 4611686018427387904) : admit_fit_1 l P B = some (fitE l ⟨P, B⟩) := by
  unfold admit_fit_1
  rw [bnd_eq (verdict_Fits_eq l ⟨P, B⟩ hl)]
  unfold fitE
  by_cases h : errC l ⟨P, B⟩ = 0
  · by_cases hf : fitsF l ⟨P, B⟩
    · refine jn_to false (fun k => by rw [decide_eq_true h, fk_t, decide_eq_true hf]; rfl) ?_
      rw [fk_f, if_neg (fun hh => hh.2 hf)]
    · refine jn_to true (fun k => by rw [decide_eq_true h, fk_t, decide_eq_false hf]; rfl) ?_
      rw [fk_t, if_pos ⟨h, hf⟩]
  · refine jn_to false (fun k => by rw [decide_eq_false h, fk_f]) ?_
    rw [fk_f, if_neg (fun hh => h hh.1)]
theorem admit_unless_1_eq (a : Bool) (e : Int) : admit_unless_1 a e = some (if a = true then 0 else e) := by cases a <;> rfl
theorem admit_first_eq (a : Bool) (e : Int) (l : List Task) (P B : Int) (hl : l.length ≤ 4611686018427387904) (he : e ≠ 0) : admit_first a e l P B = some (if a = true then fitE l ⟨P, B⟩ else e) := by
  unfold admit_first
  refine lp_up 2 (by unfold FU; omega) (fun k => (1 ≤ k → a = true) ∧ (2 ≤ k → fitE l ⟨P, B⟩ = 0)) ⟨fun h => by omega, fun h => by omega⟩ ?_
  intro nx k hk J hnx
  by_cases h0 : k = 0
  · subst h0
    rw [decide_eq_true (by omega), fk_t, decide_eq_true (show ((0 : Nat) : Int) = 0 by omega), fk_t, bnd_eq (admit_unless_1_eq a e), wr_succ 0 2 (by omega) (by omega)]
    cases a with
    | true => rw [if_pos rfl, decide_eq_true rfl, Bool.not_true, fk_f]; exact hnx (by omega) ⟨fun _ => rfl, fun h => by omega⟩
    | false => rw [if_neg (by simp), decide_eq_false he, Bool.not_false, fk_t, if_neg (by simp)]
  by_cases h1 : k = 1
  · subst h1
    have ha := J.1 (by omega)
    rw [decide_eq_true (by omega), fk_t, decide_eq_false (by omega), fk_f, decide_eq_true (show ((1 : Nat) : Int) = 1 by omega), fk_t, bnd_eq (admit_fit_1_eq l P B hl), if_pos ha]
    by_cases c : fitE l ⟨P, B⟩ = 0
    · rw [decide_eq_true c, Bool.not_true, fk_f, wr_succ 1 2 (by omega) (by omega)]
      rw [if_pos ha] at hnx
      exact hnx (by omega) ⟨fun _ => ha, fun _ => c⟩
    · rw [decide_eq_false c, Bool.not_false, fk_t]
  · rw [decide_eq_false (by omega), fk_f, if_pos (J.1 (by omega)), J.2 (by omega)]
theorem admit_first_1_eq (a : Bool) (e : Int) (a2 : Bool) (e2 : Int) (a3 : Bool) (e3 : Int) (l : List Task) (P B : Int) (hl : l.length ≤ 4611686018427387904) (he : e ≠ 0) (he2 : e2 ≠ 0) (he3 : e3 ≠ 0) : admit_first_1 a e a2 e2 a3 e3 l P B = some (if a = true then (if a2 = true then (if a3 = true then fitE l ⟨P, B⟩ else e3) else e2) else e) := by
  unfold admit_first_1
  refine lp_up 4 (by unfold FU; omega) (fun k => (1 ≤ k → a = true) ∧ (2 ≤ k → a2 = true) ∧ (3 ≤ k → a3 = true) ∧ (4 ≤ k → fitE l ⟨P, B⟩ = 0)) ⟨fun h => by omega, fun h => by omega, fun h => by omega, fun h => by omega⟩ ?_
  intro nx k hk J hnx
  obtain ⟨J1, J2, J3, J4⟩ := J
  by_cases h0 : k = 0
  · subst h0
    rw [decide_eq_true (by omega), fk_t, decide_eq_true (show ((0 : Nat) : Int) = 0 by omega), fk_t, bnd_eq (admit_unless_1_eq a e), wr_succ 0 4 (by omega) (by omega)]
    cases a with
    | true => rw [if_pos rfl, decide_eq_true rfl, Bool.not_true, fk_f]; exact hnx (by omega) ⟨fun _ => rfl, fun h => by omega, fun h => by omega, fun h => by omega⟩
    | false => rw [if_neg (by simp), decide_eq_false he, Bool.not_false, fk_t, if_neg (by simp)]
  have ha := J1 (by omega)
  rw [if_pos ha] at hnx ⊢
  by_cases h1 : k = 1
  · subst h1
    rw [decide_eq_true (by omega), fk_t, decide_eq_false (by omega), fk_f, decide_eq_true (show ((1 : Nat) : Int) = 1 by omega), fk_t, bnd_eq (admit_unless_1_eq a2 e2), wr_succ 1 4 (by omega) (by omega)]
    cases a2 with
    | true => rw [if_pos rfl, decide_eq_true rfl, Bool.not_true, fk_f]; exact hnx (by omega) ⟨fun _ => ha, fun _ => rfl, fun h => by omega, fun h => by omega⟩
    | false => rw [if_neg (by simp), decide_eq_false he2, Bool.not_false, fk_t, if_neg (by simp)]
  have ha2 := J2 (by omega)
  rw [if_pos ha2] at hnx ⊢
  by_cases h2 : k = 2
  · subst h2
    rw [decide_eq_true (by omega), fk_t, decide_eq_false (by omega), fk_f, decide_eq_false (by omega), fk_f, decide_eq_true (show ((2 : Nat) : Int) = 2 by omega), fk_t, bnd_eq (admit_unless_1_eq a3 e3), wr_succ 2 4 (by omega) (by omega)]
    cases a3 with
    | true => rw [if_pos rfl, decide_eq_true rfl, Bool.not_true, fk_f]; exact hnx (by omega) ⟨fun _ => ha, fun _ => ha2, fun _ => rfl, fun h => by omega⟩
    | false => rw [if_neg (by simp), decide_eq_false he3, Bool.not_false, fk_t, if_neg (by simp)]
  have ha3 := J3 (by omega)
  rw [if_pos ha3] at hnx ⊢
  by_cases h3 : k = 3
  · subst h3
    rw [decide_eq_true (by omega), fk_t, decide_eq_false (by omega), fk_f, decide_eq_false (by omega), fk_f, decide_eq_false (by omega), fk_f, decide_eq_true (show ((3 : Nat) : Int) = 3 by omega), fk_t, bnd_eq (admit_fit_1_eq l P B hl)]
    by_cases c : fitE l ⟨P, B⟩ = 0
    · rw [decide_eq_true c, Bool.not_true, fk_f, wr_succ 3 4 (by omega) (by omega)]
      exact hnx (by omega) ⟨fun _ => ha, fun _ => ha2, fun _ => ha3, fun _ => c⟩
    · rw [decide_eq_false c, Bool.not_false, fk_t]
  · rw [decide_eq_false (by omega), fk_f, J4 (by omega)]
end Go.Proofs.Ytakiggekallckaa
namespace Go.Proofs.Ytakiggekallckaa
open Go Go.VC
theorem admit_unless_eq (a : Bool) (e : Int) : admit_unless a e = some (a, e) := rfl
theorem admit_fit_eq (l : List Task) (f : Face) : admit_fit l f = some (l, f.P, f.B) := rfl
noncomputable def bootE (p : Part) : Int := if faceP p.Face ∧ AllP p.Tasks then fitE p.Tasks p.Face else 1
theorem bootE_zero {p : Part} : bootE p = 0 ↔ fitsF p.Tasks p.Face := by
  unfold bootE
  constructor
  · intro h
    split at h
    · exact fitE_zero.1 h
    · omega
  · intro h
    rw [if_pos ⟨h.1.2.1, h.1.1⟩]; exact fitE_zero.2 h
theorem admit_Boot_eq (p : Part) (hl : p.Tasks.length ≤ 4611686018427387904) (hs : ∀ t ∈ p.Tasks, t.Secs.length ≤ 4611686018427387904) : admit_Boot p = some (if bootE p = 0 then (new0 p.Tasks, 0) else (⟨[], [], [], [], []⟩, bootE p)) := by
  unfold admit_Boot
  refine jn_to (bootE p) (fun k => ?_) ?_
  · rw [bnd_eq (supply_Right_eq p.Face)]
    unfold bootE
    by_cases h1 : faceP p.Face
    · rw [decide_eq_true h1, fk_t, bnd_eq (task_All_eq _ hl), bnd_eq (admit_unless_eq _ _), bnd_eq (admit_fit_eq _ _), bnd_eq (admit_first_eq _ _ _ _ _ hl (show (1 : Int) ≠ 0 by decide))]
      by_cases h2 : AllP p.Tasks
      · rw [if_pos (decide_eq_true h2), if_pos ⟨h1, h2⟩]
      · rw [if_neg (by simpa using h2), if_neg (fun h => h2 h.2)]
    · rw [decide_eq_false h1, fk_f, bnd_eq (admit_unless_eq _ _), bnd_eq (admit_fit_eq _ _), bnd_eq (admit_first_eq _ _ _ _ _ hl (show (1 : Int) ≠ 0 by decide)), if_neg (by simp), if_neg (fun h => h1 h.1)]
  by_cases h : bootE p = 0
  · have hf := bootE_zero.1 h
    rw [decide_eq_true h, Bool.not_true, fk_f, if_pos h, bnd_eq (part_New_eq _ hl hs), if_pos hf.1.1]
  · rw [decide_eq_false h, Bool.not_false, fk_t, if_neg h]
def begunP (js : List Job) : Prop := ∃ j ∈ js, j.Began = true
noncomputable instance (js : List Job) : Decidable (begunP js) := Classical.propDecidable _
theorem fst_begun (js : List Job) : fst js true < 0 ↔ ¬ begunP js := by
  constructor
  · rintro h ⟨j, hj, hb⟩; exact fst_none h j hj hb
  · intro h
    rcases fst_cases js true with h1 | ⟨h1, h2⟩
    · omega
    · exact absurd ⟨_, List.getElem_mem h2, (fst_first h1 h2).1⟩ h
noncomputable def addE (s : PartState) (f : Face) (x : Task) : Int :=
  if stP s ∧ faceP f ∧ RightP x then (if s.Tasks.length < 8 then (if begunP s.Jobs then 9 else fitE (s.Tasks ++ [x]) f) else 3) else 1
theorem addE_zero {s : PartState} {f : Face} {x : Task} (h : addE s f x = 0) : stP s ∧ RightP x ∧ s.Tasks.length < 8 ∧ ¬ begunP s.Jobs ∧ fitsF (s.Tasks ++ [x]) f := by
  unfold addE at h
  split at h
  rotate_left
  · omega
  rename_i h1
  split at h
  rotate_left
  · omega
  rename_i h2
  split at h
  · omega
  rename_i h3
  exact ⟨h1.1, h1.2.2, h2, h3, fitE_zero.1 h⟩
theorem admit_Add_eq (s : PartState) (f : Face) (x : Task) (hb : StB s) (h50 : s.Tasks.length ≤ 1000) (hj : s.Jobs.length ≤ 4611686018427387904) : admit_Add s f x = some (if addE s f x = 0 then (plus s x, 0) else (s, addE s f x)) := by
  have hl : (s.Tasks ++ [x]).length ≤ 4611686018427387904 := by simp; omega
  unfold admit_Add
  rw [ck_t (by simp; omega), ck_t (by simp; omega), List.nil_append]
  have tail : ∀ (b : Bool) (k : Int → Option (PartState × Int)), (bnd (admit_unless b (1 : Int)) fun x5 => bnd (admit_unless (decide ((s.Tasks.length : Int) < (8 : Int))) (3 : Int)) fun x6 => bnd (job_First s.Jobs true) fun x7 => bnd (admit_unless (decide (x7 < (0 : Int))) (9 : Int)) fun x8 => bnd (admit_fit (s.Tasks ++ ([x] : List Task)) f) fun x9 => bnd (admit_first_1 x5.1 x5.2 x6.1 x6.2 x8.1 x8.2 x9.1 x9.2.1 x9.2.2) fun x10 => k x10) = k (if b = true then (if s.Tasks.length < 8 then (if begunP s.Jobs then 9 else fitE (s.Tasks ++ [x]) f) else 3) else 1) := by
    intro b k
    rw [bnd_eq (admit_unless_eq _ _), bnd_eq (admit_unless_eq _ _), bnd_eq (job_First_eq _ _ hj), bnd_eq (admit_unless_eq _ _), bnd_eq (admit_fit_eq _ _), bnd_eq (admit_first_1_eq _ _ _ _ _ _ _ _ _ hl (show (1 : Int) ≠ 0 by decide) (show (3 : Int) ≠ 0 by decide) (show (9 : Int) ≠ 0 by decide))]
    congr 1
    cases b with
    | false => rfl
    | true =>
      rw [if_pos rfl, if_pos rfl]
      by_cases h2 : s.Tasks.length < 8
      · rw [if_pos (decide_eq_true (by omega)), if_pos h2]
        by_cases h3 : begunP s.Jobs
        · rw [if_pos h3, if_neg (by rw [decide_eq_true_eq, fst_begun]; exact fun h => h h3)]
        · rw [if_neg h3, if_pos (decide_eq_true ((fst_begun _).2 h3))]
      · rw [if_neg h2, if_neg (by rw [decide_eq_true_eq]; omega)]
  refine jn_to (addE s f x) (fun k => ?_) ?_
  · rw [bnd_eq (part_Right_eq s hb)]
    unfold addE
    by_cases h1 : stP s
    rotate_left
    · rw [decide_eq_false h1, fk_f, if_neg (fun h => h1 h.1)]; exact tail false k
    rw [decide_eq_true h1, fk_t, bnd_eq (supply_Right_eq f)]
    by_cases h2 : faceP f
    rotate_left
    · rw [decide_eq_false h2, fk_f, if_neg (fun h => h2 h.2.1)]; exact tail false k
    rw [decide_eq_true h2, fk_t, bnd_eq (task_Right_eq x)]
    unfold right
    by_cases h3 : RightP x
    · rw [decide_eq_true h3, if_pos ⟨h1, h2, h3⟩]; exact tail true k
    · rw [decide_eq_false h3, if_neg (fun h => h3 h.2.2)]; exact tail false k
  by_cases h : addE s f x = 0
  · obtain ⟨a1, a2, a3, _⟩ := addE_zero h
    rw [decide_eq_true h, Bool.not_true, fk_f, if_pos h, bnd_eq (part_Add_eq s x hb)]
    unfold addV
    rw [if_pos ⟨a1, a2⟩, if_pos a3]
  · rw [decide_eq_false h, Bool.not_false, fk_t, if_neg h]
end Go.Proofs.Ytakiggekallckaa
namespace Go.Proofs.Ytakiggekallckaa
open Go Go.VC
/-! A task more, while no job began: what is kept of those that are due stays. -/
def cutF (n : Nat) (f : Nat → Nat) : Nat → Nat := fun i => if i < n then f i else 0
theorem relC_add (x : Task) : ∀ (l : List Task) (f : Nat → Nat), relC (l ++ [x]) (cutF l.length f) = relC l f
  | [], f => by
    show x.C * ((cutF 0 f 0 : Nat) : Int) + 0 = 0
    unfold cutF
    rw [if_neg (by omega)]; simp
  | t :: r, f => by
    have e : (fun i => cutF (t :: r).length f (i + 1)) = cutF r.length (fun i => f (i + 1)) := by
      funext i; unfold cutF
      by_cases c : i < r.length
      · rw [if_pos c, if_pos (by simp only [List.length_cons]; omega)]
      · rw [if_neg c, if_neg (by simp only [List.length_cons]; omega)]
    show t.C * ((cutF (t :: r).length f 0 : Nat) : Int) + relC (r ++ [x]) (fun i => cutF (t :: r).length f (i + 1)) = _
    rw [e, relC_add x r]
    show t.C * ((if 0 < (t :: r).length then f 0 else 0 : Nat) : Int) + _ = t.C * (f 0 : Int) + _
    rw [if_pos (by simp)]
theorem remL_add {l : List Task} {js : List Job} (hp : jobsP l js) (x : Task) (d : Int) : remL (l ++ [x]) d js = remL l d js := by
  unfold remL
  have : ∀ js' : List Job, (∀ j ∈ js', j ∈ js) → sumI (remJ (l ++ [x]) d) js' = sumI (remJ l d) js' := by
    intro js'
    induction js' with
    | nil => intro _; rfl
    | cons a r ih =>
      intro h
      simp only [sumI]
      rw [ih fun j hj => h j (List.mem_cons_of_mem _ hj)]
      obtain ⟨_, _, _, h4, _⟩ := hp.2.2.1 a (h a List.mem_cons_self)
      have e : taskC (l ++ [x]) a = taskC l a := by unfold taskC; rw [List.getElem?_append_left h4]
      unfold remJ
      rw [e]
  exact this js fun _ h => h
theorem BI.add {l : List Task} {ls : List Int} {js : List Job} {g : Nat → Bool} {d : Int} {n t0 : Nat} {f : Nat → Nat} {m : Nat} {x : Task} (hp : jobsP l js) (hlen : ls.length = l.length) (hb : ¬ begunP js) (h : BI l ls js g d n t0 f m) : BI (l ++ [x]) (ls ++ [-1]) js g d n t0 (cutF l.length f) m := by
  refine ⟨h.le, h.ld, by rw [remL_add hp, relC_add]; exact h.sum, fun i hi h1 => ?_, h.at1, h.at2, .inr (.inr fun b hbj bb => absurd ⟨b, hbj, bb⟩ hb), Nat.le_trans h.mb (blockV_mono fun y hy => List.mem_append_left _ hy)⟩
  have hil : i < l.length := by
    refine Classical.byContradiction fun hc => ?_
    unfold cutF at h1
    rw [if_neg hc] at h1
    omega
  have e : cutF l.length f i = f i := by unfold cutF; rw [if_pos hil]
  rw [e] at h1 ⊢
  have e2 : (l ++ [x])[i] = l[i] := List.getElem_append_left hil
  have e3 : lg (ls ++ [-1]) (i : Int) = lg ls (i : Int) := by unfold lg; rw [List.getElem?_append_left (by rw [Int.toNat_natCast]; omega)]
  rw [e2, e3]
  exact h.rel i hil h1
theorem Inv.plus {g : Nat → Bool} {d : Int} {n : Nat} {e : Int} {s : PartState} {x : Task} (h : Inv g d n e s) (hx : RightP x) (h8 : s.Tasks.length < 8) (hn : ¬ begunP s.Jobs) : Inv g d n e (plus s x) := by
  have hok := okS_add (x := x) h.ok
  have ea : addV s x = (Go.Proofs.Ytakiggekallckaa.plus s x, 0) := by unfold addV; rw [if_pos ⟨h.ok.1, hx⟩, if_pos h8]
  rw [ea] at hok
  refine ⟨hok, fun a ha b hb ba => absurd ⟨a, ha, ba⟩ hn, h.old, ?_⟩
  rcases h.bi with hAll | ⟨t0, f, m, hb⟩
  · exact .inl hAll
  · exact .inr ⟨t0, _, m, hb.add h.ok.1.2.2.1 h.ok.1.2.1.2.1 hn⟩
/-! What is asked of a partition. -/
noncomputable def admV (s : PartState) (f : Face) (x : Task) : PartState := if addE s f x = 0 then plus s x else s
noncomputable def chgV (s : PartState) (f : Face) (i : Int) (x : Task) : PartState := if (leaveV s i).2 = 0 then (if addE (leaveV s i).1 f x = 0 then plus (leaveV s i).1 x else s) else s
noncomputable def doV (s : PartState) (f : Face) (k i w : Int) (x : Task) (t : Int) : PartState :=
  if k = 0 then (relV s i w t).1 else if k = 2 then (leaveV s i).1 else if k = 3 then admV s f x else if k = 4 then chgV s f i x else s
theorem Inv.adm {g : Nat → Bool} {d : Int} {n : Nat} {e : Int} {s : PartState} {f : Face} {x : Task} (h : Inv g d n e s) : Inv g d n e (admV s f x) := by
  unfold admV
  split
  · rename_i h0
    obtain ⟨_, a2, a3, a4, _⟩ := addE_zero h0
    exact h.plus a2 a3 a4
  · exact h
theorem Inv.chg {g : Nat → Bool} {d : Int} {n : Nat} {e : Int} {s : PartState} {f : Face} {i : Int} {x : Task} (h : Inv g d n e s) : Inv g d n e (chgV s f i x) := by
  unfold chgV
  split
  · split
    · rename_i h0
      obtain ⟨_, a2, a3, a4, _⟩ := addE_zero h0
      exact (h.leave (i := i)).plus a2 a3 a4
    · exact h
  · exact h
theorem Inv.do {g : Nat → Bool} {d : Int} {n : Nat} {s : PartState} {f : Face} {k i w : Int} {x : Task} (h : Inv g d n (n : Int) s) : Inv g d n ((n : Int) + 1) (doV s f k i w x (n : Int)) := by
  have h' := h.mono (show (n : Int) ≤ (n : Int) + 1 by omega)
  unfold doV
  split
  · exact h.rel
  · split
    · exact h'.leave
    · split
      · exact h'.adm
      · split
        · exact h'.chg
        · exact h'
end Go.Proofs.Ytakiggekallckaa
namespace Go.Proofs.Ytakiggekallckaa
open Go Go.VC
/-! None is missed, and all that are there fit. -/
def nomiss (l : List Entry) : Prop := ∀ x ∈ l, x.Kind ≠ 6
theorem nomiss_nt {l : List Entry} {t k i : Int} (h : nomiss l) (hk : k ≠ 6) : nomiss (nt l ⟨t, k, i⟩) := by
  unfold nt
  split
  · intro x hx
    rcases List.mem_append.1 hx with hx | hx
    · exact h x hx
    · rw [List.mem_singleton.1 hx]; exact hk
  · exact h
theorem nomiss_left {b : List Bool} {t : Int} : ∀ (n : Nat) {l : List Entry}, nomiss l → nomiss (leftG b t n l)
  | 0, l, h => h
  | n + 1, l, h => by
    unfold leftG
    refine nomiss_left n ?_
    split
    · exact nomiss_nt h (by decide)
    · exact h
theorem missG_none {t : Int} : ∀ (js : List Job) {l : List Entry}, (∀ j ∈ js, t < j.Due) → missG t js l = l
  | [], l, _ => rfl
  | j :: r, l, h => by
    unfold missG
    rw [if_pos (h j List.mem_cons_self)]
    exact missG_none r fun j hj => h j (List.mem_cons_of_mem _ hj)
theorem nomiss_tick {s : PartState} {g : Bool} {t : Int} (h : nomiss s.Log) (hd : ∀ j ∈ s.Jobs, t < j.Due) : nomiss (tickV s g t).1.Log := by
  have h1 : nomiss (tickR s g t).2.1 := by
    unfold tickR
    rw [missG_none _ hd]
    unfold runV
    split
    · simp only
      split
      · refine nomiss_nt h ?_
        split <;> decide
      · exact h
    · exact h
  unfold tickV
  split
  · exact nomiss_left _ h1
  · exact h1
theorem nomiss_rel {s : PartState} {i w t : Int} (h : nomiss s.Log) : nomiss (relV s i w t).1.Log := by
  unfold relV
  split
  · split
    · exact h
    · split
      · split
        · exact nomiss_nt h (by decide)
        · exact nomiss_nt h (by decide)
      · exact nomiss_nt h (by decide)
  · exact h
theorem relV_tasks {s : PartState} {i w t : Int} : (relV s i w t).1.Tasks = s.Tasks := by
  unfold relV
  split
  · split
    · rfl
    · split
      · split <;> rfl
      · rfl
  · rfl
theorem leaveV_tasks {s : PartState} {i : Int} : (leaveV s i).1.Tasks = s.Tasks := by
  unfold leaveV
  split
  · split <;> rfl
  · rfl
theorem tickV_tasks {s : PartState} {g : Bool} {t : Int} : (tickV s g t).1.Tasks.Sublist s.Tasks := by
  unfold tickV
  split
  · exact keepB_sub _ _
  · exact List.Sublist.refl _
theorem nomiss_do {s : PartState} {f : Face} {k i w t : Int} {x : Task} (h : nomiss s.Log) : nomiss (doV s f k i w x t).Log := by
  have hl : nomiss (leaveV s i).1.Log := by rw [leave_log]; exact h
  unfold doV
  split
  · exact nomiss_rel h
  · split
    · exact hl
    · split
      · unfold admV
        split <;> exact h
      · split
        · unfold chgV
          split
          · split
            · exact hl
            · exact h
          · exact h
        · exact h
theorem fits_do {s : PartState} {f : Face} {k i w t : Int} {x : Task} (h : fitsF s.Tasks f) : fitsF (doV s f k i w x t).Tasks f := by
  unfold doV
  split
  · rw [relV_tasks]; exact h
  · split
    · rw [leaveV_tasks]; exact h
    · split
      · unfold admV
        split
        · rename_i h0
          exact (addE_zero h0).2.2.2.2
        · exact h
      · split
        · unfold chgV
          split
          · split
            · rename_i h0
              exact (addE_zero h0).2.2.2.2
            · exact h
          · exact h
        · exact h
/-- What is kept from tick to tick. -/
structure Run (g : Nat → Bool) (f : Face) (n : Nat) (s : PartState) : Prop where
  inv : ∀ d, Inv g d n (n : Int) s
  fit : fitsF s.Tasks f
  log : nomiss s.Log
theorem Run.new {g : Nat → Bool} {f : Face} {l : List Task} (h : fitsF l f) : Run g f 0 (new0 l) := ⟨fun d => Inv.new h.1.1, h, fun x hx => (List.not_mem_nil hx).elim⟩
theorem Run.step {gs : List Bool} {f : Face} {n K P B : Nat} {s s' : PartState} (h : Run (gOf gs) f n s) (hs : s' = s ∨ ∃ k i w x, s' = doV s f k i w x (n : Int)) (hP : f.P = (P : Int)) (hB : f.B = (B : Int)) (hl : legalN P B (gOf gs) (K * P)) (hn : n ≤ K * P) : Run (gOf gs) f (n + 1) (tickV s' (gOf gs n) (n : Int)).1 := by
  have hi : ∀ d, Inv (gOf gs) d n ((n : Int) + 1) s' := fun d => by
    rcases hs with rfl | ⟨k, i, w, x, rfl⟩
    · exact (h.inv d).mono (by omega)
    · exact (h.inv d).do
  have hf : fitsF s'.Tasks f := by
    rcases hs with rfl | ⟨k, i, w, x, rfl⟩
    · exact h.fit
    · exact fits_do h.fit
  have hg : nomiss s'.Log := by
    rcases hs with rfl | ⟨k, i, w, x, rfl⟩
    · exact h.log
    · exact nomiss_do h.log
  have hno := no_miss (hi (n : Int)) hf hP hB hl hn
  exact ⟨fun d => (hi d).tick, fits_sub hf tickV_tasks, nomiss_tick hg hno⟩
end Go.Proofs.Ytakiggekallckaa
namespace Go.Proofs.Ytakiggekallckaa
open Go Go.VC
noncomputable def law20_knows  : Option Bool :=
  bnd (admit_Boot (⟨⟨(2 : Int), (1 : Int)⟩, ([⟨(1 : Int), (4 : Int), (4 : Int), []⟩] : List Task)⟩)) fun x1 => bnd (admit_Add x1.1 ⟨(2 : Int), (1 : Int)⟩ ⟨(1 : Int), (4 : Int), (4 : Int), []⟩) fun x2 => bnd (admit_Add x1.1 ⟨(2 : Int), (2 : Int)⟩ ⟨(1 : Int), (4 : Int), (4 : Int), []⟩) fun x3 => fk (decide (x1.2 = (0 : Int))) (fk (decide ((x1.1.Tasks.length : Int) = (1 : Int))) (fk (decide ((x2.1.Tasks.length : Int) = (1 : Int))) (fk (decide (x2.2 = (7 : Int))) (fk (decide ((x3.1.Tasks.length : Int) = (2 : Int))) (some (decide (x3.2 = (0 : Int)))) (some false)) (some false)) (some false)) (some false)) (some false)
theorem law20_knows_w  (r : Bool) (h : law20_knows = some r) : Go.VC.Spec Try.prog 31 [] (fun y => y = E_Bool r) := by
  refine Go.VC.Spec.of_xc (args := []) (fn := Try.f31) tab ⟨[(0, []), (1, [1]), (2, [1, 2, 3]), (3, [1, 2, 3, 4, 5]), (4, [2, 3, 4, 5, 6, 7]), (5, [0])], [], [], []⟩ 59 [.tmp 0] rfl rfl rfl rfl rfl rfl ?_
  conv => whnf
  refine liS ([⟨(1 : Int), (4 : Int), (4 : Int), []⟩] : List Task) Task.enc rfl rfl ?_
  conv => whnf
  refine iceS 13 ?_
  conv => whnf
  refine ccS (E := E_PartState_Int) h (admit_Boot_w (⟨⟨(2 : Int), (1 : Int)⟩, ([⟨(1 : Int), (4 : Int), (4 : Int), []⟩] : List Task)⟩)) rfl rfl (fun x1 h => ?_)
  conv => whnf
  refine ccS (E := E_PartState_Int) h (admit_Add_w x1.1 ⟨(2 : Int), (1 : Int)⟩ ⟨(1 : Int), (4 : Int), (4 : Int), []⟩) rfl rfl (fun x2 h => ?_)
  conv => whnf
  refine ccS (E := E_PartState_Int) h (admit_Add_w x1.1 ⟨(2 : Int), (2 : Int)⟩ ⟨(1 : Int), (4 : Int), (4 : Int), []⟩) rfl rfl (fun x3 h => ?_)
  conv => whnf
  refine fkS h (fun h => ?_) (fun h => ?_)
  · conv => whnf
    refine lenS x1.1.Tasks Task.enc rfl ?_
    conv => whnf
    refine fkS h (fun h => ?_) (fun h => ?_)
    · conv => whnf
      refine lenS x2.1.Tasks Task.enc rfl ?_
      conv => whnf
      refine fkS h (fun h => ?_) (fun h => ?_)
      · conv => whnf
        refine fkS h (fun h => ?_) (fun h => ?_)
        · conv => whnf
          refine lenS x3.1.Tasks Task.enc rfl ?_
          conv => whnf
          refine fkS h (fun h => ?_) (fun h => ?_)
          · conv => whnf
            exact rt (E := E_Bool) h rfl
          conv => whnf
          exact rt (E := E_Bool) h rfl
        conv => whnf
        exact rt (E := E_Bool) h rfl
      conv => whnf
      exact rt (E := E_Bool) h rfl
    conv => whnf
    exact rt (E := E_Bool) h rfl
  conv => whnf
  exact rt (E := E_Bool) h rfl

end Go.Proofs.Ytakiggekallckaa
namespace Go.Proofs.Ytakiggekallckaa
open Go Go.VC
noncomputable def law20_Do (a0 : PartState) (a1 : Face) (a2 : Law20Ask) (a3 : Int) : Option PartState :=
  fk (decide (a2.Kind = (0 : Int))) (bnd (part_Release a0 a2.I a2.Want a3) fun x1 => some x1.1) (fk (decide (a2.Kind = (2 : Int))) (bnd (admit_Drop a0 a2.I) fun x2 => some x2.1) (fk (decide (a2.Kind = (3 : Int))) (bnd (admit_Add a0 a1 a2.T) fun x3 => some x3.1) (fk (decide (a2.Kind = (4 : Int))) (bnd (admit_Change a0 a1 a2.I a2.T) fun x4 => some x4.1) (some a0))))
theorem law20_Do_w (a0 : PartState) (a1 : Face) (a2 : Law20Ask) (a3 : Int) (r : PartState) (h : law20_Do a0 a1 a2 a3 = some r) : Go.VC.Spec Try.prog 42 [.agg (PartState.enc a0), .agg (Face.enc a1), .agg (Law20Ask.enc a2), .d (.int .i64 a3)] (fun y => y = E_PartState r) := by
  refine Go.VC.Spec.of_xc (args := [.agg (PartState.enc a0), .agg (Face.enc a1), .agg (Law20Ask.enc a2), .d (.int .i64 a3)]) (fn := Try.f42) tab ⟨[(0, [3, 4, 5, 6, 8]), (1, [3, 4, 5, 6, 8, 18]), (2, [3, 4, 5, 6, 8, 18, 19]), (3, [8, 9]), (4, [8]), (5, [4, 5, 6, 8, 18, 32]), (6, [8, 11]), (7, [8]), (8, [4, 5, 6, 8, 18, 42]), (9, [8, 13]), (10, [8]), (11, [4, 5, 6, 8, 53]), (12, [8, 15]), (13, [8]), (14, [8])], [], [], []⟩ 67 [.cell 8 28] rfl rfl rfl rfl rfl rfl ?_
  conv => whnf
  refine fkS h (fun h => ?_) (fun h => ?_)
  · conv => whnf
    refine ccS (E := E_PartState_Int) h (part_Release_w a0 a2.I a2.Want a3) rfl rfl (fun x1 h => ?_)
    conv => whnf
    exact rt (E := E_PartState) h rfl
  conv => whnf
  refine fkS h (fun h => ?_) (fun h => ?_)
  · conv => whnf
    refine ccS (E := E_PartState_Int) h (admit_Drop_w a0 a2.I) rfl rfl (fun x2 h => ?_)
    conv => whnf
    exact rt (E := E_PartState) h rfl
  conv => whnf
  refine fkS h (fun h => ?_) (fun h => ?_)
  · conv => whnf
    refine ccS (E := E_PartState_Int) h (admit_Add_w a0 a1 a2.T) rfl rfl (fun x3 h => ?_)
    conv => whnf
    exact rt (E := E_PartState) h rfl
  conv => whnf
  refine fkS h (fun h => ?_) (fun h => ?_)
  · conv => whnf
    refine ccS (E := E_PartState_Int) h (admit_Change_w a0 a1 a2.I a2.T) rfl rfl (fun x4 h => ?_)
    conv => whnf
    exact rt (E := E_PartState) h rfl
  conv => whnf
  exact rt (E := E_PartState) h rfl

end Go.Proofs.Ytakiggekallckaa
namespace Go.Proofs.Ytakiggekallckaa
open Go Go.VC
noncomputable def law20_AdmitMeets (a0 : Part) (a1 : List Law20Ask) (a2 : List Bool) : Option Bool :=
  jn (fun (w1 : Bool) => fk w1 (bnd law20_knows fun x4 => some x4) (bnd (admit_Boot a0) fun x5 => fk (!decide (x5.2 = (0 : Int))) (fk (decide ((x5.1.Tasks.length : Int) = (0 : Int))) (bnd law20_knows fun x6 => some x6) (some false)) (ck (decide (a0.Face.P ≠ 0)) (ck (decide ((0 : Int) ≤ (0 : Int)) && decide ((0 : Int) ≤ (wr ((wr ((a2.length : Int).tdiv a0.Face.P)) * a0.Face.P))) && decide ((wr ((wr ((a2.length : Int).tdiv a0.Face.P)) * a0.Face.P)) ≤ (a2.length : Int))) (lp (fun nx7 (v7 : (List Task) × (List Bool) × (List Int) × (List Job) × (List Entry) × Int) => fk (decide (v7.2.2.2.2.2 < (((a2.take (wr ((wr ((a2.length : Int).tdiv a0.Face.P)) * a0.Face.P)).toNat).drop (0 : Int).toNat).length : Int))) (jn (fun (w8 : (List Task) × (List Bool) × (List Int) × (List Job) × (List Entry)) => ix ((a2.take (wr ((wr ((a2.length : Int).tdiv a0.Face.P)) * a0.Face.P)).toNat).drop (0 : Int).toNat) v7.2.2.2.2.2 fun x13 => bnd (part_Tick ⟨w8.1, w8.2.1, w8.2.2.1, w8.2.2.2.1, w8.2.2.2.2⟩ x13 v7.2.2.2.2.2) fun x14 => fk (!decide (x14.2.2 = (0 : Int))) (some false) (nx7 (x14.1.Tasks, x14.1.Leaves, x14.1.Lasts, x14.1.Jobs, x14.1.Log, (wr (v7.2.2.2.2.2 + (1 : Int)))))) (fun k8 => jn (fun (w9 : Bool) => fk w9 (ix a1 v7.2.2.2.2.2 fun x11 => bnd (law20_Do ⟨v7.1, v7.2.1, v7.2.2.1, v7.2.2.2.1, v7.2.2.2.2.1⟩ a0.Face x11 v7.2.2.2.2.2) fun x12 => k8 (x12.Tasks, x12.Leaves, x12.Lasts, x12.Jobs, x12.Log)) (k8 (v7.1, v7.2.1, v7.2.2.1, v7.2.2.2.1, v7.2.2.2.2.1))) (fun k9 => fk (decide (v7.2.2.2.2.2 < (a1.length : Int))) (ix a1 v7.2.2.2.2.2 fun x10 => k9 (decide ((x10.T.Secs.length : Int) ≤ (20 : Int)))) (k9 false)))) (lp (fun nx15 (v15 : Int) => fk (decide (v15 < (v7.2.2.2.2.1.length : Int))) (ix v7.2.2.2.2.1 v15 fun x16 => fk (decide (x16.Kind = (6 : Int))) (some false) (nx15 (wr (v15 + (1 : Int))))) (bnd (verdict_Fits v7.1 a0.Face) fun x17 => fk x17.1 (fk (decide (x17.2 = (0 : Int))) (bnd (part_Right ⟨v7.1, v7.2.1, v7.2.2.1, v7.2.2.2.1, v7.2.2.2.2.1⟩) fun x18 => fk x18 (bnd law20_knows fun x19 => some x19) (some false)) (some false)) (some false))) FU (0 : Int))) FU (x5.1.Tasks, x5.1.Leaves, x5.1.Lasts, x5.1.Jobs, x5.1.Log, (0 : Int))))))) (fun k1 => bnd (law05_Great a0.Tasks) fun x2 => fk x2 (k1 true) (fk (decide ((a2.length : Int) > (300 : Int))) (k1 true) (bnd (ref09_Legal a0.Face a2) fun x3 => k1 (!x3))))
theorem law20_AdmitMeets_w (a0 : Part) (a1 : List Law20Ask) (a2 : List Bool) (r : Bool) (h : law20_AdmitMeets a0 a1 a2 = some r) : Go.VC.Spec Try.prog 12 [.agg (Part.enc a0), .d (.sl (a1.map Law20Ask.enc)), .d (.sl (a2.map eB))] (fun y => y = E_Bool r) := by
  refine Go.VC.Spec.of_xc (args := [.agg (Part.enc a0), .d (.sl (a1.map Law20Ask.enc)), .d (.sl (a2.map eB))]) (fn := Try.f12) tab ⟨[(0, [1, 2, 3]), (1, [1, 2, 3, 31]), (2, [6]), (3, [1, 2, 3, 7, 8]), (4, [1, 2, 3, 7, 39]), (5, [6]), (6, [1, 3, 7, 9]), (7, [1, 3, 7, 9, 10]), (8, [1, 3, 7, 9, 10, 62]), (9, [1, 3, 7, 9, 10]), (10, [1, 3, 7, 9, 10, 78]), (11, [1, 3, 7, 9, 10]), (12, [1, 3, 7, 9, 10, 11, 13]), (13, [1, 3, 7, 9, 10, 13]), (14, [1, 3, 7, 9, 10, 101]), (15, [6]), (16, [3, 7, 14]), (17, [3, 7, 14, 106]), (18, [3, 7, 14]), (19, [3, 7, 14, 115]), (20, [6]), (21, [7, 15, 16]), (22, [6])], [], [100031, 100078, 12], []⟩ 136 [.tmp 6] rfl rfl rfl rfl rfl rfl ?_
  conv => whnf
  refine jnS (fun w1 => ⟨[(1, .l (.d (.sl (a1.map Law20Ask.enc)))), (2, .l (.d (.sl (a2.map eB)))), (3, .l (.ptr 4 0)), (31, .l (.d (.bool w1)))], 136, [], [(4, [.d (.int .i64 a0.Face.P), .d (.int .i64 a0.Face.B), .d (.sl (a0.Tasks.map Task.enc))])], []⟩) h (fun k1 hk1 h => ?_) (fun w1 h => ?_)
  · conv => whnf
    refine caS (E := E_Bool) h (law05_Great_w a0.Tasks) rfl (fun _ => rfl) (fun x2 h => ?_)
    conv => whnf
    refine fkS h (fun h => ?_) (fun h => ?_)
    · conv => whnf
      exact jeS hk1 h (Weak.refl _)
    conv => whnf
    refine lenS a2 eB rfl ?_
    conv => whnf
    refine fkS h (fun h => ?_) (fun h => ?_)
    · conv => whnf
      exact jeS hk1 h (Weak.refl _)
    conv => whnf
    refine caS (E := E_Bool) h (ref09_Legal_w a0.Face a2) rfl (fun _ => rfl) (fun x3 h => ?_)
    conv => whnf
    exact jeS hk1 h (Weak.refl _)
  conv => whnf
  refine fkS h (fun h => ?_) (fun h => ?_)
  · conv => whnf
    refine caS (E := E_Bool) h law20_knows_w rfl (fun _ => rfl) (fun x4 h => ?_)
    conv => whnf
    exact rt (E := E_Bool) h rfl
  conv => whnf
  refine ccS (E := E_PartState_Int) h (admit_Boot_w a0) rfl rfl (fun x5 h => ?_)
  conv => whnf
  refine fkS h (fun h => ?_) (fun h => ?_)
  · conv => whnf
    refine lenS x5.1.Tasks Task.enc rfl ?_
    conv => whnf
    refine fkS h (fun h => ?_) (fun h => ?_)
    · conv => whnf
      refine caS (E := E_Bool) h law20_knows_w rfl (fun _ => rfl) (fun x6 h => ?_)
      conv => whnf
      exact rt (E := E_Bool) h rfl
    conv => whnf
    exact rt (E := E_Bool) h rfl
  conv => whnf
  refine ⟨11, ?_⟩
  conv => whnf
  refine lenS a2 eB rfl ?_
  conv => whnf
  refine dvS h (fun h => ?_)
  conv => whnf
  refine drS (by kernel_rfl) ?_
  conv => whnf
  refine slS (enc := eB) h rfl rfl (.inl rfl) (fun _ => rfl) (fun h => ?_)
  conv => whnf
  refine lpS (fun v7 => ⟨[(1, .l (.d (.sl (a1.map Law20Ask.enc)))), (3, .l (.ptr 4 0)), (7, .l (.ptr 8 0)), (9, .l (.d (.sl (((a2.take (wr ((wr ((a2.length : Int).tdiv a0.Face.P)) * a0.Face.P)).toNat).drop (0 : Int).toNat).map eB)))), (10, .l (.d (.int .i64 v7.2.2.2.2.2)))], 136, [], [(4, [.d (.int .i64 a0.Face.P), .d (.int .i64 a0.Face.B), .d (.sl (a0.Tasks.map Task.enc))]), (8, [.d (.sl (v7.1.map Task.enc)), .d (.sl (v7.2.1.map eB)), .d (.sl (v7.2.2.1.map (eI .i64))), .d (.sl (v7.2.2.2.1.map Job.enc)), .d (.sl (v7.2.2.2.2.1.map Entry.enc))])], []⟩) h (Weak.refl _) (fun _ nx7 hn7 v7 h => ?_)
  conv => whnf
  refine lenS ((a2.take (wr ((wr ((a2.length : Int).tdiv a0.Face.P)) * a0.Face.P)).toNat).drop (0 : Int).toNat) eB rfl ?_
  conv => whnf
  refine fkS h (fun h => ?_) (fun h => ?_)
  · conv => whnf
    refine jnS (fun w8 => ⟨[(1, .l (.d (.sl (a1.map Law20Ask.enc)))), (3, .l (.ptr 4 0)), (7, .l (.ptr 8 0)), (9, .l (.d (.sl (((a2.take (wr ((wr ((a2.length : Int).tdiv a0.Face.P)) * a0.Face.P)).toNat).drop (0 : Int).toNat).map eB)))), (10, .l (.d (.int .i64 v7.2.2.2.2.2)))], 136, [], [(4, [.d (.int .i64 a0.Face.P), .d (.int .i64 a0.Face.B), .d (.sl (a0.Tasks.map Task.enc))]), (8, [.d (.sl (w8.1.map Task.enc)), .d (.sl (w8.2.1.map eB)), .d (.sl (w8.2.2.1.map (eI .i64))), .d (.sl (w8.2.2.2.1.map Job.enc)), .d (.sl (w8.2.2.2.2.map Entry.enc))])], []⟩) h (fun k8 hk8 h => ?_) (fun w8 h => ?_)
    · conv => whnf
      refine jnS (fun w9 => ⟨[(1, .l (.d (.sl (a1.map Law20Ask.enc)))), (3, .l (.ptr 4 0)), (7, .l (.ptr 8 0)), (9, .l (.d (.sl (((a2.take (wr ((wr ((a2.length : Int).tdiv a0.Face.P)) * a0.Face.P)).toNat).drop (0 : Int).toNat).map eB)))), (10, .l (.d (.int .i64 v7.2.2.2.2.2))), (78, .l (.d (.bool w9)))], 136, [], [(4, [.d (.int .i64 a0.Face.P), .d (.int .i64 a0.Face.B), .d (.sl (a0.Tasks.map Task.enc))]), (8, [.d (.sl (v7.1.map Task.enc)), .d (.sl (v7.2.1.map eB)), .d (.sl (v7.2.2.1.map (eI .i64))), .d (.sl (v7.2.2.2.1.map Job.enc)), .d (.sl (v7.2.2.2.2.1.map Entry.enc))])], []⟩) h (fun k9 hk9 h => ?_) (fun w9 h => ?_)
      · conv => whnf
        refine lenS a1 Law20Ask.enc rfl ?_
        conv => whnf
        refine fkS h (fun h => ?_) (fun h => ?_)
        · conv => whnf
          refine ixS (enc := Law20Ask.enc) h rfl (fun _ => rfl) (fun x10 h => ?_)
          conv => whnf
          refine lenS x10.T.Secs Sec.enc rfl ?_
          conv => whnf
          exact jeS hk9 h (Weak.refl _)
        conv => whnf
        exact jeS hk9 h (Weak.refl _)
      conv => whnf
      refine fkS h (fun h => ?_) (fun h => ?_)
      · conv => whnf
        refine ⟨8, ?_⟩
        conv => whnf
        refine ixS (enc := Law20Ask.enc) h rfl (fun _ => rfl) (fun x11 h => ?_)
        conv => whnf
        refine drS (by kernel_rfl) ?_
        conv => whnf
        refine ccS (E := E_PartState) h (law20_Do_w ⟨v7.1, v7.2.1, v7.2.2.1, v7.2.2.2.1, v7.2.2.2.2.1⟩ a0.Face x11 v7.2.2.2.2.2) rfl rfl (fun x12 h => ?_)
        conv => whnf
        exact jeS hk8 h (Weak.refl _)
      conv => whnf
      refine jeX hk8 h ?_
      conv => whnf
      refine WkF.step (Weak.keepS _ [1, 3, 7, 9, 10]) ?_
      conv => whnf
      exact WkF.refl _
    conv => whnf
    refine ⟨14, ?_⟩
    conv => whnf
    refine ixS (enc := eB) h rfl (fun _ => rfl) (fun x13 h => ?_)
    conv => whnf
    refine dcS (E := E_PartState_Int_Int) h (part_Tick_w ⟨w8.1, w8.2.1, w8.2.2.1, w8.2.2.2.1, w8.2.2.2.2⟩ x13 v7.2.2.2.2.2) rfl (fun x14 h => ?_)
    conv => whnf
    refine drS (by kernel_rfl) ?_
    conv => whnf
    refine fkS h (fun h => ?_) (fun h => ?_)
    · conv => whnf
      exact rt (E := E_Bool) h rfl
    conv => whnf
    exact leS hn7 h (Weak.refl _)
  conv => whnf
  refine lpS (fun v15 => ⟨[(3, .l (.ptr 4 0)), (7, .l (.ptr 8 0)), (14, .l (.d (.int .i64 v15)))], 136, [], [(4, [.d (.int .i64 a0.Face.P), .d (.int .i64 a0.Face.B), .d (.sl (a0.Tasks.map Task.enc))]), (8, [.d (.sl (v7.1.map Task.enc)), .d (.sl (v7.2.1.map eB)), .d (.sl (v7.2.2.1.map (eI .i64))), .d (.sl (v7.2.2.2.1.map Job.enc)), .d (.sl (v7.2.2.2.2.1.map Entry.enc))])], []⟩) h (Weak.refl _) (fun _ nx15 hn15 v15 h => ?_)
  conv => whnf
  refine lenS v7.2.2.2.2.1 Entry.enc rfl ?_
  conv => whnf
  refine fkS h (fun h => ?_) (fun h => ?_)
  · conv => whnf
    refine ixS (enc := Entry.enc) h rfl (fun _ => rfl) (fun x16 h => ?_)
    conv => whnf
    refine fkS h (fun h => ?_) (fun h => ?_)
    · conv => whnf
      exact rt (E := E_Bool) h rfl
    conv => whnf
    exact leS hn15 h (Weak.refl _)
  conv => whnf
  refine caS (E := E_Bool_Int) h (verdict_Fits_w v7.1 a0.Face) rfl (fun _ => rfl) (fun x17 h => ?_)
  conv => whnf
  refine fkS h (fun h => ?_) (fun h => ?_)
  · conv => whnf
    refine fkS h (fun h => ?_) (fun h => ?_)
    · conv => whnf
      refine caS (E := E_Bool) h (part_Right_w ⟨v7.1, v7.2.1, v7.2.2.1, v7.2.2.2.1, v7.2.2.2.2.1⟩) rfl (fun _ => rfl) (fun x18 h => ?_)
      conv => whnf
      refine fkS h (fun h => ?_) (fun h => ?_)
      · conv => whnf
        refine caS (E := E_Bool) h law20_knows_w rfl (fun _ => rfl) (fun x19 h => ?_)
        conv => whnf
        exact rt (E := E_Bool) h rfl
      conv => whnf
      exact rt (E := E_Bool) h rfl
    conv => whnf
    exact rt (E := E_Bool) h rfl
  conv => whnf
  exact rt (E := E_Bool) h rfl

end Go.Proofs.Ytakiggekallckaa
namespace Go.Proofs.Ytakiggekallckaa
open Go Go.VC
def PureAdmitMeets : Prop := ∀ (a0 : Part) (a1 : List Law20Ask) (a2 : List Bool), Part.wf a0 → (a1.length * 72 ≤ BB ∧ ∀ y1 ∈ a1, Law20Ask.wf y1) → (a2.length * 1 ≤ BB ∧ ∀ y1 ∈ a2, True) → law20_AdmitMeets a0 a1 a2 = some true
end Go.Proofs.Ytakiggekallckaa
