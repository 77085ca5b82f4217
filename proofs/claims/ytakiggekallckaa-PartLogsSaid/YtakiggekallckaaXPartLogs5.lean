/- It is proved that the law PartLogs returns true at every input that the row lets in; there is no condition beside the row's own. -/
import Derived.Test.YtakiggekallckaaXPartLogs3
import Derived.Test.YtakiggekallckaaXPartLogs4
import Derived.Test.YtakiggekallckaaRows
set_option linter.unusedVariables false
set_option linter.unusedSimpArgs false
set_option maxRecDepth 100000
set_option maxHeartbeats 4000000
namespace Go.Proofs.Ytakiggekallckaa
open Go Go.VC
noncomputable def part_New (a0 : List Task) : Option (PartState × Int) :=
  bnd (task_All a0) fun x1 => fk (!x1) (some (⟨[], [], [], [], []⟩, (1 : Int))) (lp (fun nx2 (v2 : (List Task) × (List Bool) × (List Int) × (List Job) × (List Entry) × Int) => fk (decide (v2.2.2.2.2.2 < (a0.length : Int))) (ix a0 v2.2.2.2.2.2 fun x3 => bnd (part_Add ⟨v2.1, v2.2.1, v2.2.2.1, v2.2.2.2.1, v2.2.2.2.2.1⟩ x3) fun x4 => nx2 (x4.1.Tasks, x4.1.Leaves, x4.1.Lasts, x4.1.Jobs, x4.1.Log, (wr (v2.2.2.2.2.2 + (1 : Int))))) (some (⟨v2.1, v2.2.1, v2.2.2.1, v2.2.2.2.1, v2.2.2.2.2.1⟩, (0 : Int)))) FU ([], [], [], [], [], (0 : Int)))
theorem part_New_w (a0 : List Task) (r : PartState × Int) (h : part_New a0 = some r) : Go.VC.Spec Try.prog 25 [.d (.sl (a0.map Task.enc))] (fun y => y = E_PartState_Int r) := by
  refine Go.VC.Spec.of_xc (args := [.d (.sl (a0.map Task.enc))]) (fn := Try.f25) tab ⟨[(0, [0, 2]), (1, [0, 2, 9]), (2, [2, 3]), (3, [0, 2, 4]), (4, [2, 4, 12, 13, 14]), (5, [2, 4, 12, 13, 14, 15]), (6, [2, 4, 6, 12, 13, 14]), (7, [2, 4, 12, 13, 14]), (8, [2, 4, 12, 13, 14]), (9, [2, 3])], [], [], []⟩ 26 [.cell 2 28, .tmp 3] rfl rfl rfl rfl rfl rfl ?_
  conv => whnf
  refine caS (E := E_Bool) h (task_All_w a0) rfl (fun _ => rfl) (fun x1 h => ?_)
  conv => whnf
  refine fkS h (fun h => ?_) (fun h => ?_)
  · conv => whnf
    exact rt (E := E_PartState_Int) h rfl
  conv => whnf
  refine lenS a0 Task.enc rfl ?_
  conv => whnf
  refine lpS (fun v2 => ⟨[(2, .l (.ptr 3 0)), (4, .l (.ptr 5 0)), (12, .l (.d (.sl (a0.map Task.enc)))), (13, .l (.d (.int .i64 (a0.length : Int)))), (14, .l (.d (.int .i64 v2.2.2.2.2.2)))], 26, [], [(3, [.nil, .nil, .nil, .nil, .nil]), (5, [.d (.sl (v2.1.map Task.enc)), .d (.sl (v2.2.1.map eB)), .d (.sl (v2.2.2.1.map (eI .i64))), .d (.sl (v2.2.2.2.1.map Job.enc)), .d (.sl (v2.2.2.2.2.1.map Entry.enc))])], []⟩) h (Weak.trans (Weak.nilBD _ 5 0 _ rfl rfl) (Weak.trans (Weak.nilBD _ 5 1 _ rfl rfl) (Weak.trans (Weak.nilBD _ 5 2 _ rfl rfl) (Weak.trans (Weak.nilBD _ 5 3 _ rfl rfl) (Weak.trans (Weak.nilBD _ 5 4 _ rfl rfl) (Weak.refl _)))))) (fun _ nx2 hn2 v2 h => ?_)
  conv => whnf
  refine fkS h (fun h => ?_) (fun h => ?_)
  · conv => whnf
    refine ixS (enc := Task.enc) h rfl (fun _ => rfl) (fun x3 h => ?_)
    conv => whnf
    refine ccS (E := E_PartState_Int) h (part_Add_w ⟨v2.1, v2.2.1, v2.2.2.1, v2.2.2.2.1, v2.2.2.2.2.1⟩ x3) rfl rfl (fun x4 h => ?_)
    conv => whnf
    exact leS hn2 h (Weak.refl _)
  conv => whnf
  exact rt (E := E_PartState_Int) h rfl

end Go.Proofs.Ytakiggekallckaa
namespace Go.Proofs.Ytakiggekallckaa
open Go Go.VC
/-! Tasks come and go. -/
def plus (s : PartState) (x : Task) : PartState := ⟨s.Tasks ++ [x], s.Leaves ++ [false], s.Lasts ++ [-1], s.Jobs, s.Log⟩
noncomputable def addV (s : PartState) (x : Task) : PartState × Int := if stP s ∧ RightP x then (if s.Tasks.length < 8 then (plus s x, 0) else (s, 3)) else (s, 1)
theorem part_Add_eq (s : PartState) (x : Task) (hb : StB s) : part_Add s x = some (addV s x) := by
  unfold part_Add
  refine jn_to (!decide (stP s ∧ RightP x)) (fun k => ?_) ?_
  · rw [bnd_eq (part_Right_eq s hb)]
    by_cases h1 : stP s
    rotate_left
    · rw [decide_eq_false h1, Bool.not_false, fk_t, decide_eq_false (fun h => h1 h.1)]; rfl
    rw [decide_eq_true h1, Bool.not_true, fk_f, bnd_eq (task_Right_eq x)]
    unfold right
    by_cases h2 : RightP x
    · rw [decide_eq_true h2, decide_eq_true (⟨h1, h2⟩ : stP s ∧ RightP x)]
    · rw [decide_eq_false h2, decide_eq_false (fun h => h2 h.2)]
  unfold addV
  by_cases hh : stP s ∧ RightP x
  rotate_left
  · rw [decide_eq_false hh, Bool.not_false, fk_t, if_neg hh]
  obtain ⟨h1, h2⟩ := hh
  rw [decide_eq_true (⟨h1, h2⟩ : stP s ∧ RightP x), Bool.not_true, fk_f, if_pos (⟨h1, h2⟩ : stP s ∧ RightP x)]
  by_cases h8 : s.Tasks.length < 8
  rotate_left
  · rw [decide_eq_true (by omega), fk_t, if_neg h8]
  have hLl := h1.1
  have hLs := h1.2.1.2.1
  have hS : x.Secs.length ≤ 4 := h2.len
  rw [decide_eq_false (by omega), fk_f, if_pos h8, ck_t (by simp; omega), ck_t (by simp; omega), ck_t (by simp; omega), ck_t (by simp; omega), ck_t (by simp; omega), ck_t (by simp; omega), ck_t (by simp; omega)]
  simp only [List.nil_append]
  rfl
noncomputable def leaveV (s : PartState) (i : Int) : PartState × Int := if stP s ∧ 0 ≤ i ∧ i < (s.Tasks.length : Int) then (if (s.Leaves[i.toNat]?).getD false = true then (s, 9) else (⟨s.Tasks, s.Leaves.set i.toNat true, s.Lasts, s.Jobs, s.Log⟩, 0)) else (s, 1)
theorem part_Leave_eq (s : PartState) (i : Int) (hb : StB s) : part_Leave s i = some (leaveV s i) := by
  unfold part_Leave
  refine jn_to (!decide (stP s ∧ 0 ≤ i ∧ i < (s.Tasks.length : Int))) (fun k => ?_) ?_
  · rw [bnd_eq (part_Right_eq s hb)]
    by_cases h1 : stP s
    rotate_left
    · rw [decide_eq_false h1, Bool.not_false, fk_t, decide_eq_false (fun h => h1 h.1)]; rfl
    rw [decide_eq_true h1, Bool.not_true, fk_f]
    by_cases h2 : 0 ≤ i
    rotate_left
    · rw [decide_eq_true (by omega), fk_t, decide_eq_false (fun h => h2 h.2.1)]; rfl
    rw [decide_eq_false (by omega), fk_f]
    by_cases h3 : i < (s.Tasks.length : Int)
    · rw [decide_eq_false (by omega), decide_eq_true (⟨h1, h2, h3⟩ : stP s ∧ 0 ≤ i ∧ i < (s.Tasks.length : Int))]; rfl
    · rw [decide_eq_true (by omega), decide_eq_false (fun h => h3 h.2.2)]; rfl
  unfold leaveV
  by_cases hh : stP s ∧ 0 ≤ i ∧ i < (s.Tasks.length : Int)
  rotate_left
  · rw [decide_eq_false hh, Bool.not_false, fk_t, if_neg hh]
  obtain ⟨h1, h2, h3⟩ := hh
  have hLl := h1.1
  have hT8 := AllP_len h1.2.1.1
  have hiL : i.toNat < s.Leaves.length := by omega
  rw [decide_eq_true (⟨h1, h2, h3⟩ : stP s ∧ 0 ≤ i ∧ i < (s.Tasks.length : Int)), Bool.not_true, fk_f, if_pos (⟨h1, h2, h3⟩ : stP s ∧ 0 ≤ i ∧ i < (s.Tasks.length : Int)), ix_int h2 hiL]
  have eL : (s.Leaves[i.toNat]?).getD false = s.Leaves[i.toNat] := by rw [List.getElem?_eq_getElem hiL]; rfl
  rw [eL]
  cases c : s.Leaves[i.toNat] with
  | true => rw [fk_t, if_pos rfl]
  | false =>
    rw [fk_f, if_neg (by simp), ck_t (by simp; omega), List.nil_append, ck_t (by simp; omega), ox_lt hiL]
/-! A new one. -/
def new0 (l : List Task) : PartState := ⟨l, List.replicate l.length false, List.replicate l.length (-1), [], []⟩
theorem AllP_take {l : List Task} (h : AllP l) (k : Nat) : AllP (l.take k) := ⟨fun t ht => h.1 t (List.mem_of_mem_take ht), by rw [List.length_take]; have := h.2; omega⟩
theorem stP_new {l : List Task} (h : AllP l) : stP (new0 l) :=
  ⟨by simp [new0], ⟨h, by simp [new0], fun x hx => by have := List.eq_of_mem_replicate hx; omega⟩, jobsP_nil h, by simp [new0]⟩
theorem stB_new {l : List Task} (h : AllP l) (hs : ∀ t ∈ l, t.Secs.length ≤ 4611686018427387904) : StB (new0 l) := ⟨by show l.length ≤ _; have := h.2; omega, hs, by simp [new0]; have := h.2; omega⟩
theorem part_New_eq (l : List Task) (hl : l.length ≤ 4611686018427387904) (hs : ∀ t ∈ l, t.Secs.length ≤ 4611686018427387904) : part_New l = some (if AllP l then (new0 l, 0) else (⟨[], [], [], [], []⟩, 1)) := by
  unfold part_New
  rw [bnd_eq (task_All_eq l hl)]
  by_cases ha : AllP l
  rotate_left
  · rw [decide_eq_false ha, Bool.not_false, fk_t, if_neg ha]
  have h8 := ha.2
  rw [decide_eq_true ha, Bool.not_true, fk_f, if_pos ha]
  refine lp_inv (fun v => l.length - v.2.2.2.2.2.toNat) (fun v => ∃ k : Nat, v = ((new0 (l.take k)).Tasks, (new0 (l.take k)).Leaves, (new0 (l.take k)).Lasts, (new0 (l.take k)).Jobs, (new0 (l.take k)).Log, (k : Int)) ∧ k ≤ l.length) ?_ FU _ ⟨0, rfl, Nat.zero_le _⟩ (by unfold FU; simp only; omega)
  rintro nx v ⟨k, rfl, hk⟩ hnx
  dsimp only
  rw [lt_nat]
  by_cases hk' : k < l.length
  rotate_left
  · rw [decide_eq_false hk', fk_f, show k = l.length by omega, List.take_length]
  rw [decide_eq_true hk', fk_t, ix_lt hk', wr_succ k _ hk' (by omega)]
  have hak := AllP_take ha k
  have hk8 : (l.take k).length = k := by rw [List.length_take]; omega
  have e : addV (new0 (l.take k)) l[k] = (plus (new0 (l.take k)) l[k], 0) := by
    unfold addV
    rw [if_pos ⟨stP_new hak, ha.1 _ (List.getElem_mem hk')⟩, if_pos (show (new0 (l.take k)).Tasks.length < 8 by show (l.take k).length < 8; omega)]
  have hA := part_Add_eq (new0 (l.take k)) l[k] (stB_new hak fun t ht => hs t (List.mem_of_mem_take ht))
  rw [e] at hA
  have hA' : part_Add ⟨(new0 (l.take k)).Tasks, (new0 (l.take k)).Leaves, (new0 (l.take k)).Lasts, (new0 (l.take k)).Jobs, (new0 (l.take k)).Log⟩ l[k] = some (plus (new0 (l.take k)) l[k], 0) := hA
  rw [bnd_eq hA']
  refine hnx _ ⟨k + 1, ?_, hk'⟩ (by simp only [Int.toNat_natCast]; omega)
  have e2 : plus (new0 (l.take k)) l[k] = new0 (l.take (k + 1)) := by
    unfold plus new0
    rw [← List.take_append_getElem hk', List.length_append, List.length_singleton, List.replicate_succ', List.replicate_succ']
  rw [e2]
end Go.Proofs.Ytakiggekallckaa
namespace Go.Proofs.Ytakiggekallckaa
open Go Go.VC
noncomputable def law17_Play (a0 : PartState) (a1 : List Law17Act) (a2 : List Bool) : Option PartState :=
  lp (fun nx1 (v1 : (List Task) × (List Bool) × (List Int) × (List Job) × (List Entry) × Int) => jn (fun (w2 : Bool) => fk w2 (jn (fun (w3 : (List Task) × (List Bool) × (List Int) × (List Job) × (List Entry)) => jn (fun (w9 : (List Task) × (List Bool) × (List Int) × (List Job) × (List Entry)) => ix a2 v1.2.2.2.2.2 fun x14 => bnd (part_Tick ⟨w9.1, w9.2.1, w9.2.2.1, w9.2.2.2.1, w9.2.2.2.2⟩ x14 v1.2.2.2.2.2) fun x15 => nx1 (x15.1.Tasks, x15.1.Leaves, x15.1.Lasts, x15.1.Jobs, x15.1.Log, (wr (v1.2.2.2.2.2 + (1 : Int))))) (fun k9 => jn (fun (w10 : Bool) => fk w10 (ix a1 v1.2.2.2.2.2 fun x12 => bnd (part_Leave ⟨w3.1, w3.2.1, w3.2.2.1, w3.2.2.2.1, w3.2.2.2.2⟩ x12.I) fun x13 => k9 (x13.1.Tasks, x13.1.Leaves, x13.1.Lasts, x13.1.Jobs, x13.1.Log)) (k9 (w3.1, w3.2.1, w3.2.2.1, w3.2.2.2.1, w3.2.2.2.2))) (fun k10 => fk (decide (v1.2.2.2.2.2 < (a1.length : Int))) (ix a1 v1.2.2.2.2.2 fun x11 => k10 (decide (x11.Kind = (2 : Int)))) (k10 false)))) (fun k3 => jn (fun (w4 : Bool) => fk w4 (ix a1 v1.2.2.2.2.2 fun x6 => ix a1 v1.2.2.2.2.2 fun x7 => bnd (part_Release ⟨v1.1, v1.2.1, v1.2.2.1, v1.2.2.2.1, v1.2.2.2.2.1⟩ x6.I x7.Want v1.2.2.2.2.2) fun x8 => k3 (x8.1.Tasks, x8.1.Leaves, x8.1.Lasts, x8.1.Jobs, x8.1.Log)) (k3 (v1.1, v1.2.1, v1.2.2.1, v1.2.2.2.1, v1.2.2.2.2.1))) (fun k4 => fk (decide (v1.2.2.2.2.2 < (a1.length : Int))) (ix a1 v1.2.2.2.2.2 fun x5 => k4 (decide (x5.Kind = (0 : Int)))) (k4 false)))) (some ⟨v1.1, v1.2.1, v1.2.2.1, v1.2.2.2.1, v1.2.2.2.2.1⟩)) (fun k2 => fk (decide (v1.2.2.2.2.2 < (a2.length : Int))) (k2 (decide (v1.2.2.2.2.2 < (300 : Int)))) (k2 false))) FU (a0.Tasks, a0.Leaves, a0.Lasts, a0.Jobs, a0.Log, (0 : Int))
theorem law17_Play_w (a0 : PartState) (a1 : List Law17Act) (a2 : List Bool) (r : PartState) (h : law17_Play a0 a1 a2 = some r) : Go.VC.Spec Try.prog 29 [.agg (PartState.enc a0), .d (.sl (a1.map Law17Act.enc)), .d (.sl (a2.map eB))] (fun y => y = E_PartState r) := by
  refine Go.VC.Spec.of_xc (args := [.agg (PartState.enc a0), .d (.sl (a1.map Law17Act.enc)), .d (.sl (a2.map eB))]) (fn := Try.f29) tab ⟨[(0, [1, 2, 3, 6]), (1, [1, 2, 3, 6, 7]), (2, [1, 2, 3, 6, 7, 22]), (3, [1, 2, 3, 6, 7]), (4, [1, 2, 3, 6, 7, 36]), (5, [1, 2, 3, 6, 7, 8]), (6, [1, 2, 3, 6, 7]), (7, [1, 2, 3, 6, 7, 65]), (8, [1, 2, 3, 6, 7, 10]), (9, [1, 2, 3, 6, 7]), (10, [1, 2, 3, 6, 7, 12]), (11, [1, 2, 3, 6, 7]), (12, [6])], [], [100022, 100036, 100065, 10, 7], []⟩ 90 [.cell 6 28] rfl rfl rfl rfl rfl rfl ?_
  conv => whnf
  refine lpS (fun v1 => ⟨[(1, .l (.d (.sl (a1.map Law17Act.enc)))), (2, .l (.d (.sl (a2.map eB)))), (3, .l (.ptr 4 0)), (6, .l (.ptr 7 0)), (7, .l (.d (.int .i64 v1.2.2.2.2.2)))], 90, [], [(4, [.d (.sl (v1.1.map Task.enc)), .d (.sl (v1.2.1.map eB)), .d (.sl (v1.2.2.1.map (eI .i64))), .d (.sl (v1.2.2.2.1.map Job.enc)), .d (.sl (v1.2.2.2.2.1.map Entry.enc))]), (7, [.nil, .nil, .nil, .nil, .nil])], []⟩) h (Weak.refl _) (fun _ nx1 hn1 v1 h => ?_)
  conv => whnf
  refine jnS (fun w2 => ⟨[(1, .l (.d (.sl (a1.map Law17Act.enc)))), (2, .l (.d (.sl (a2.map eB)))), (3, .l (.ptr 4 0)), (6, .l (.ptr 7 0)), (7, .l (.d (.int .i64 v1.2.2.2.2.2))), (22, .l (.d (.bool w2)))], 90, [], [(4, [.d (.sl (v1.1.map Task.enc)), .d (.sl (v1.2.1.map eB)), .d (.sl (v1.2.2.1.map (eI .i64))), .d (.sl (v1.2.2.2.1.map Job.enc)), .d (.sl (v1.2.2.2.2.1.map Entry.enc))]), (7, [.nil, .nil, .nil, .nil, .nil])], []⟩) h (fun k2 hk2 h => ?_) (fun w2 h => ?_)
  · conv => whnf
    refine lenS a2 eB rfl ?_
    conv => whnf
    refine fkS h (fun h => ?_) (fun h => ?_)
    · conv => whnf
      exact jeS hk2 h (Weak.refl _)
    conv => whnf
    exact jeS hk2 h (Weak.refl _)
  conv => whnf
  refine fkS h (fun h => ?_) (fun h => ?_)
  · conv => whnf
    refine jnS (fun w3 => ⟨[(1, .l (.d (.sl (a1.map Law17Act.enc)))), (2, .l (.d (.sl (a2.map eB)))), (3, .l (.ptr 4 0)), (6, .l (.ptr 7 0)), (7, .l (.d (.int .i64 v1.2.2.2.2.2)))], 90, [], [(4, [.d (.sl (w3.1.map Task.enc)), .d (.sl (w3.2.1.map eB)), .d (.sl (w3.2.2.1.map (eI .i64))), .d (.sl (w3.2.2.2.1.map Job.enc)), .d (.sl (w3.2.2.2.2.map Entry.enc))]), (7, [.nil, .nil, .nil, .nil, .nil])], []⟩) h (fun k3 hk3 h => ?_) (fun w3 h => ?_)
    · conv => whnf
      refine jnS (fun w4 => ⟨[(1, .l (.d (.sl (a1.map Law17Act.enc)))), (2, .l (.d (.sl (a2.map eB)))), (3, .l (.ptr 4 0)), (6, .l (.ptr 7 0)), (7, .l (.d (.int .i64 v1.2.2.2.2.2))), (36, .l (.d (.bool w4)))], 90, [], [(4, [.d (.sl (v1.1.map Task.enc)), .d (.sl (v1.2.1.map eB)), .d (.sl (v1.2.2.1.map (eI .i64))), .d (.sl (v1.2.2.2.1.map Job.enc)), .d (.sl (v1.2.2.2.2.1.map Entry.enc))]), (7, [.nil, .nil, .nil, .nil, .nil])], []⟩) h (fun k4 hk4 h => ?_) (fun w4 h => ?_)
      · conv => whnf
        refine lenS a1 Law17Act.enc rfl ?_
        conv => whnf
        refine fkS h (fun h => ?_) (fun h => ?_)
        · conv => whnf
          refine ixS (enc := Law17Act.enc) h rfl (fun _ => rfl) (fun x5 h => ?_)
          conv => whnf
          exact jeS hk4 h (Weak.refl _)
        conv => whnf
        exact jeS hk4 h (Weak.refl _)
      conv => whnf
      refine fkS h (fun h => ?_) (fun h => ?_)
      · conv => whnf
        refine ⟨18, ?_⟩
        conv => whnf
        refine ixS (enc := Law17Act.enc) h rfl (fun _ => rfl) (fun x6 h => ?_)
        conv => whnf
        refine ixS (enc := Law17Act.enc) h rfl (fun _ => rfl) (fun x7 h => ?_)
        conv => whnf
        refine dcS (E := E_PartState_Int) h (part_Release_w ⟨v1.1, v1.2.1, v1.2.2.1, v1.2.2.2.1, v1.2.2.2.2.1⟩ x6.I x7.Want v1.2.2.2.2.2) rfl (fun x8 h => ?_)
        conv => whnf
        refine drS (by kernel_rfl) ?_
        conv => whnf
        exact jeS hk3 h (Weak.refl _)
      conv => whnf
      refine jeX hk3 h ?_
      conv => whnf
      refine WkF.step (Weak.keepS _ [1, 2, 3, 6, 7]) ?_
      conv => whnf
      exact WkF.refl _
    conv => whnf
    refine jnS (fun w9 => ⟨[(1, .l (.d (.sl (a1.map Law17Act.enc)))), (2, .l (.d (.sl (a2.map eB)))), (3, .l (.ptr 4 0)), (6, .l (.ptr 7 0)), (7, .l (.d (.int .i64 v1.2.2.2.2.2)))], 90, [], [(4, [.d (.sl (w9.1.map Task.enc)), .d (.sl (w9.2.1.map eB)), .d (.sl (w9.2.2.1.map (eI .i64))), .d (.sl (w9.2.2.2.1.map Job.enc)), .d (.sl (w9.2.2.2.2.map Entry.enc))]), (7, [.nil, .nil, .nil, .nil, .nil])], []⟩) h (fun k9 hk9 h => ?_) (fun w9 h => ?_)
    · conv => whnf
      refine jnS (fun w10 => ⟨[(1, .l (.d (.sl (a1.map Law17Act.enc)))), (2, .l (.d (.sl (a2.map eB)))), (3, .l (.ptr 4 0)), (6, .l (.ptr 7 0)), (7, .l (.d (.int .i64 v1.2.2.2.2.2))), (65, .l (.d (.bool w10)))], 90, [], [(4, [.d (.sl (w3.1.map Task.enc)), .d (.sl (w3.2.1.map eB)), .d (.sl (w3.2.2.1.map (eI .i64))), .d (.sl (w3.2.2.2.1.map Job.enc)), .d (.sl (w3.2.2.2.2.map Entry.enc))]), (7, [.nil, .nil, .nil, .nil, .nil])], []⟩) h (fun k10 hk10 h => ?_) (fun w10 h => ?_)
      · conv => whnf
        refine lenS a1 Law17Act.enc rfl ?_
        conv => whnf
        refine fkS h (fun h => ?_) (fun h => ?_)
        · conv => whnf
          refine ixS (enc := Law17Act.enc) h rfl (fun _ => rfl) (fun x11 h => ?_)
          conv => whnf
          exact jeS hk10 h (Weak.refl _)
        conv => whnf
        exact jeS hk10 h (Weak.refl _)
      conv => whnf
      refine fkS h (fun h => ?_) (fun h => ?_)
      · conv => whnf
        refine ⟨12, ?_⟩
        conv => whnf
        refine ixS (enc := Law17Act.enc) h rfl (fun _ => rfl) (fun x12 h => ?_)
        conv => whnf
        refine dcS (E := E_PartState_Int) h (part_Leave_w ⟨w3.1, w3.2.1, w3.2.2.1, w3.2.2.2.1, w3.2.2.2.2⟩ x12.I) rfl (fun x13 h => ?_)
        conv => whnf
        refine drS (by kernel_rfl) ?_
        conv => whnf
        exact jeS hk9 h (Weak.refl _)
      conv => whnf
      refine jeX hk9 h ?_
      conv => whnf
      refine WkF.step (Weak.keepS _ [1, 2, 3, 6, 7]) ?_
      conv => whnf
      exact WkF.refl _
    conv => whnf
    refine ⟨14, ?_⟩
    conv => whnf
    refine ixS (enc := eB) h rfl (fun _ => rfl) (fun x14 h => ?_)
    conv => whnf
    refine dcS (E := E_PartState_Int_Int) h (part_Tick_w ⟨w9.1, w9.2.1, w9.2.2.1, w9.2.2.2.1, w9.2.2.2.2⟩ x14 v1.2.2.2.2.2) rfl (fun x15 h => ?_)
    conv => whnf
    refine drS (by kernel_rfl) ?_
    conv => whnf
    exact leS hn1 h (Weak.refl _)
  conv => whnf
  exact rt (E := E_PartState) h rfl

end Go.Proofs.Ytakiggekallckaa
namespace Go.Proofs.Ytakiggekallckaa
open Go Go.VC
/-! A play. -/
def okS (s : PartState) : Prop := stP s ∧ atP s.Lasts s.Jobs
theorem StB.of_st {s : PartState} (h : stP s) : StB s := by
  have h8 := AllP_len h.2.1.1
  have hA := h.2.1.2.1
  exact ⟨by omega, fun t ht => h.2.1.1.slen ht, by omega⟩
theorem okS_new {l : List Task} (h : AllP l) : okS (new0 l) := ⟨stP_new h, fun j hj => (List.not_mem_nil hj).elim⟩
theorem okS_leave {s : PartState} {i : Int} (h : okS s) : okS (leaveV s i).1 := by
  unfold leaveV
  split
  · split
    · exact h
    · exact ⟨⟨by show (s.Leaves.set _ _).length = _; rw [List.length_set]; exact h.1.1, h.1.2⟩, h.2⟩
  · exact h
theorem okS_add {s : PartState} {x : Task} (h : okS s) : okS (addV s x).1 := by
  unfold addV
  split
  rotate_left
  · exact h
  rename_i hx
  split
  rotate_left
  · exact h
  rename_i h8
  obtain ⟨⟨h1, ⟨ha, h2, h3⟩, ⟨_, h4, h5, h6⟩, h7⟩, hat⟩ := h
  have ha' : AllP (s.Tasks ++ [x]) := ⟨fun t ht => by
    rcases List.mem_append.1 ht with h | h
    · exact ha.1 t h
    · rw [List.mem_singleton.1 h]; exact hx.2, by simp; omega⟩
  refine ⟨⟨by show (s.Leaves ++ [false]).length = (s.Tasks ++ [x]).length; simp; omega, ⟨ha', by show (s.Lasts ++ [-1]).length = (s.Tasks ++ [x]).length; simp; omega, fun y hy => ?_⟩, ⟨ha', h4, fun j hj => ?_, h6⟩, h7⟩, fun j hj => ?_⟩
  · rcases List.mem_append.1 hy with h | h
    · exact h3 y h
    · rw [List.mem_singleton.1 h]; omega
  · obtain ⟨t0, t1, t2, t3, tb⟩ := h5 j hj
    refine ⟨t0, t1, t2, by show _ < (s.Tasks ++ [x]).length; simp; omega, ?_⟩
    have e : (s.Tasks ++ [x])[j.Task.toNat]'(by simp; omega) = s.Tasks[j.Task.toNat] := List.getElem_append_left t3
    show bodyP ((s.Tasks ++ [x])[j.Task.toNat]'(by simp; omega)) j
    rw [e]; exact tb
  · have hj' := hat j hj
    obtain ⟨t0, _, _, t3, _⟩ := h5 j hj
    have e : lg (s.Lasts ++ [-1]) j.Task = lg s.Lasts j.Task := by unfold lg; rw [List.getElem?_append_left (by omega)]
    show j.At ≤ lg (s.Lasts ++ [-1]) j.Task
    rw [e]; exact hj'
/-! The log only grows, by entries of now. -/
def Ext (t : Int) (a b : List Entry) : Prop := ∃ e, b = a ++ e ∧ ∀ x ∈ e, x.At = t
theorem Ext.rfl {t : Int} {a : List Entry} : Ext t a a := ⟨[], (List.append_nil a).symm, fun x hx => (List.not_mem_nil hx).elim⟩
theorem Ext.trans {t : Int} {a b c : List Entry} (h : Ext t a b) (k : Ext t b c) : Ext t a c := by
  obtain ⟨e, rfl, h⟩ := h
  obtain ⟨f, rfl, k⟩ := k
  exact ⟨e ++ f, List.append_assoc _ _ _, fun x hx => (List.mem_append.1 hx).elim (h x) (k x)⟩
theorem Ext.nt {t : Int} {a : List Entry} {k i : Int} : Ext t a (nt a ⟨t, k, i⟩) := by
  unfold Go.Proofs.Ytakiggekallckaa.nt
  split
  · exact ⟨_, Eq.refl _, fun x hx => by rw [List.mem_singleton.1 hx]⟩
  · exact Ext.rfl
theorem Ext.miss {t : Int} : ∀ (js : List Job) {a : List Entry}, Ext t a (missG t js a)
  | [], a => Ext.rfl
  | j :: r, a => by
    unfold missG
    refine Ext.trans ?_ (Ext.miss r)
    split
    · exact Ext.rfl
    · exact Ext.nt
theorem Ext.left {t : Int} {b : List Bool} : ∀ (n : Nat) {a : List Entry}, Ext t a (leftG b t n a)
  | 0, a => Ext.rfl
  | n + 1, a => by
    unfold leftG
    refine Ext.trans ?_ (Ext.left n)
    split
    · exact Ext.nt
    · exact Ext.rfl
theorem Ext.run {t : Int} {l : List Task} {js : List Job} {g : Bool} {a : List Entry} : Ext t a (runV l js a g t).2.1 := by
  unfold runV
  split
  · simp only
    split
    · exact Ext.nt
    · exact Ext.rfl
  · exact Ext.rfl
theorem Ext.tick {s : PartState} {g : Bool} {t : Int} : Ext t s.Log (tickV s g t).1.Log := by
  have h : Ext t s.Log (tickR s g t).2.1 := (Ext.miss s.Jobs).trans Ext.run
  unfold tickV
  split
  · exact h.trans (Ext.left _)
  · exact h
theorem Ext.rel {s : PartState} {i w t : Int} : Ext t s.Log (relV s i w t).1.Log := by
  unfold relV
  split
  · split
    · exact Ext.rfl
    · split
      · split
        · exact Ext.nt
        · exact Ext.nt
      · exact Ext.nt
  · exact Ext.rfl
theorem leave_log {s : PartState} {i : Int} : (leaveV s i).1.Log = s.Log := by
  unfold leaveV
  split
  · split <;> rfl
  · rfl
/-! A tick keeps what is right. -/
theorem tickR_len {s : PartState} {g : Bool} {t : Int} (h1 : stP s) : (tickR s g t).2.1.length ≤ 2000 := by
  have hm := missG_len t s.Jobs h1.2.2.2
  unfold tickR runV
  split
  · simp only
    split
    · exact nt_len hm
    · exact hm
  · exact hm
theorem tickR_jobs {s : PartState} {g : Bool} {t : Int} (h1 : stP s) : jobsP s.Tasks (tickR s g t).1 := by
  have hm := jobsP_miss t h1.2.2.1
  unfold tickR runV
  split
  · exact jobsP_tick hm
  · exact hm
theorem mem_tick {l : List Task} {js : List Job} {j : Job} (h : j ∈ (tick l js).1) : ∃ i ∈ js, i.Task = j.Task ∧ i.At = j.At ∧ i.Due = j.Due ∧ i.Want = j.Want := by
  unfold tick at h
  split at h
  · rename_i hh
    rcases mem_tickN h with ⟨k, hk, _, rfl⟩ | ⟨_, rfl⟩
    · exact ⟨_, List.getElem_mem hk, rfl, rfl, rfl, rfl⟩
    · exact ⟨_, List.getElem_mem hh.2.2, rfl, rfl, rfl, rfl⟩
  · exact ⟨j, h, rfl, rfl, rfl, rfl⟩
theorem mem_tickR {s : PartState} {g : Bool} {t : Int} {j : Job} (h : j ∈ (tickR s g t).1) : ∃ i ∈ s.Jobs, i.Task = j.Task ∧ i.At = j.At ∧ i.Due = j.Due ∧ i.Want = j.Want ∧ t < i.Due := by
  have key : ∀ i ∈ missJ t s.Jobs, i ∈ s.Jobs ∧ t < i.Due := fun i hi => by
    unfold missJ at hi
    rw [List.mem_filter, decide_eq_true_eq] at hi
    exact hi
  unfold tickR runV at h
  split at h
  · obtain ⟨i, hi, e1, e2, e3, e4⟩ := mem_tick h
    exact ⟨i, (key i hi).1, e1, e2, e3, e4, (key i hi).2⟩
  · exact ⟨j, (key j h).1, rfl, rfl, rfl, rfl, (key j h).2⟩
theorem okS_tick {s : PartState} {g : Bool} {t : Int} (h : okS s) : okS (tickV s g t).1 := by
  obtain ⟨h1, hat⟩ := h
  have hj := tickR_jobs (g := g) (t := t) h1
  have hl := tickR_len (g := g) (t := t) h1
  unfold tickV
  split
  · rename_i h0
    have e0 : (tickR s g t).1 = [] := List.eq_nil_of_length_eq_zero h0
    have ha : AllP (keepB s.Leaves s.Tasks) := ⟨fun x hx => h1.2.1.1.1 x ((keepB_sub _ _).subset hx), Nat.le_trans (keepB_len _ _) h1.2.1.1.2⟩
    refine ⟨⟨keepB_len_eq _ _ _ h1.1, ⟨ha, keepB_len_eq _ _ _ h1.2.1.2.1, fun x hx => h1.2.1.2.2 x ((keepB_sub _ _).subset hx)⟩, ?_, leftG_len _ _ _ hl⟩, ?_⟩
    · show jobsP (keepB s.Leaves s.Tasks) (tickR s g t).1
      rw [e0]; exact jobsP_nil ha
    · show atP _ (tickR s g t).1
      rw [e0]; exact fun j hj => (List.not_mem_nil hj).elim
  · refine ⟨⟨h1.1, h1.2.1, hj, hl⟩, fun j hj => ?_⟩
    obtain ⟨i, hi, e1, e2, _⟩ := mem_tickR hj
    have := hat i hi
    rw [e1, e2] at this
    exact this
/-! The steps. -/
noncomputable def step1 (us : List Law17Act) (n : Nat) (s : PartState) : PartState := match us[n]? with | some a => if a.Kind = 0 then (relV s a.I a.Want (n : Int)).1 else s | none => s
noncomputable def step2 (us : List Law17Act) (n : Nat) (s : PartState) : PartState := match us[n]? with | some a => if a.Kind = 2 then (leaveV s a.I).1 else s | none => s
noncomputable def step3 (gs : List Bool) (n : Nat) (s : PartState) : PartState := (tickV s ((gs[n]?).getD false) (n : Int)).1
noncomputable def stepN (us : List Law17Act) (gs : List Bool) (n : Nat) (s : PartState) : PartState := step3 gs n (step2 us n (step1 us n s))
noncomputable def playN (us : List Law17Act) (gs : List Bool) (s : PartState) : Nat → PartState
  | 0 => s
  | n + 1 => stepN us gs n (playN us gs s n)
theorem okS_1 {us : List Law17Act} {n : Nat} {s : PartState} (h : okS s) : okS (step1 us n s) := by
  unfold step1
  split
  · split
    · exact stP_rel h.1 h.2
    · exact h
  · exact h
theorem okS_2 {us : List Law17Act} {n : Nat} {s : PartState} (h : okS s) : okS (step2 us n s) := by
  unfold step2
  split
  · split
    · exact okS_leave h
    · exact h
  · exact h
theorem okS_N {us : List Law17Act} {gs : List Bool} {n : Nat} {s : PartState} (h : okS s) : okS (stepN us gs n s) := okS_tick (okS_2 (okS_1 h))
theorem okS_play {us : List Law17Act} {gs : List Bool} {s : PartState} (h : okS s) : ∀ n, okS (playN us gs s n)
  | 0 => h
  | n + 1 => okS_N (okS_play h n)
theorem Ext.N {us : List Law17Act} {gs : List Bool} {n : Nat} {s : PartState} : Ext (n : Int) s.Log (stepN us gs n s).Log := by
  have h1 : Ext (n : Int) s.Log (step1 us n s).Log := by
    unfold step1
    split
    · split
      · exact Ext.rel
      · exact Ext.rfl
    · exact Ext.rfl
  have h2 : Ext (n : Int) (step1 us n s).Log (step2 us n (step1 us n s)).Log := by
    unfold step2
    split
    · split
      · rw [leave_log]; exact Ext.rfl
      · exact Ext.rfl
    · exact Ext.rfl
  exact (h1.trans h2).trans Ext.tick
theorem law17_Play_eq (s : PartState) (us : List Law17Act) (gs : List Bool) (hs : okS s) (hl : gs.length ≤ 300) (ha : us.length ≤ 4611686018427387904) : law17_Play s us gs = some (playN us gs s gs.length) := by
  unfold law17_Play
  refine lp_inv (fun v => gs.length - v.2.2.2.2.2.toNat) (fun v => ∃ k : Nat, v = ((playN us gs s k).Tasks, (playN us gs s k).Leaves, (playN us gs s k).Lasts, (playN us gs s k).Jobs, (playN us gs s k).Log, (k : Int)) ∧ k ≤ gs.length) ?_ FU _ ⟨0, rfl, Nat.zero_le _⟩ (by unfold FU; simp only; omega)
  rintro nx v ⟨k, rfl, hk⟩ hnx
  have hok := okS_play (us := us) (gs := gs) hs k
  refine jn_to (decide (k < gs.length)) (fun k2 => ?_) ?_
  · dsimp only
    rw [lt_nat]
    by_cases h : k < gs.length
    · rw [decide_eq_true h, fk_t, decide_eq_true (by omega)]
    · rw [decide_eq_false h, fk_f]
  by_cases h : k < gs.length
  rotate_left
  · rw [decide_eq_false h, fk_f, show k = gs.length by omega]
  rw [decide_eq_true h, fk_t]
  have nxt := hnx ((playN us gs s (k + 1)).Tasks, (playN us gs s (k + 1)).Leaves, (playN us gs s (k + 1)).Lasts, (playN us gs s (k + 1)).Jobs, (playN us gs s (k + 1)).Log, ((k + 1 : Nat) : Int)) ⟨k + 1, rfl, h⟩ (by simp only [Int.toNat_natCast]; omega)
  have nxt : nx ((stepN us gs k (playN us gs s k)).Tasks, (stepN us gs k (playN us gs s k)).Leaves, (stepN us gs k (playN us gs s k)).Lasts, (stepN us gs k (playN us gs s k)).Jobs, (stepN us gs k (playN us gs s k)).Log, ((k + 1 : Nat) : Int)) = some (playN us gs s gs.length) := nxt
  clear hnx
  generalize playN us gs s k = p at *
  have hb := StB.of_st hok.1
  have h1 := okS_1 (us := us) (n := k) hok
  have h2 := okS_2 (us := us) (n := k) h1
  refine jn_to ((step1 us k p).Tasks, (step1 us k p).Leaves, (step1 us k p).Lasts, (step1 us k p).Jobs, (step1 us k p).Log) (fun k3 => ?_) ?_
  · by_cases hu : k < us.length
    rotate_left
    · refine jn_to false (fun k4 => by dsimp only; rw [decide_eq_false (by omega), fk_f]) ?_
      rw [fk_f]
      unfold step1
      rw [List.getElem?_eq_none (by omega)]
    have eu : us[k]? = some us[k] := List.getElem?_eq_getElem hu
    refine jn_to (decide (us[k].Kind = 0)) (fun k4 => by dsimp only; rw [decide_eq_true (by omega), fk_t, ix_lt hu]) ?_
    unfold step1
    rw [eu]
    dsimp only
    by_cases c : us[k].Kind = 0
    · rw [decide_eq_true c, fk_t, ix_lt hu, ix_lt hu, if_pos c]
      show bnd (part_Release p us[k].I us[k].Want (k : Int)) _ = _
      rw [bnd_eq (part_Release_eq p _ _ _ hb)]
    · rw [decide_eq_false c, fk_f, if_neg c]
  dsimp only
  refine jn_to ((step2 us k (step1 us k p)).Tasks, (step2 us k (step1 us k p)).Leaves, (step2 us k (step1 us k p)).Lasts, (step2 us k (step1 us k p)).Jobs, (step2 us k (step1 us k p)).Log) (fun k3 => ?_) ?_
  · generalize step1 us k p = p1 at *
    have hb1 := StB.of_st h1.1
    by_cases hu : k < us.length
    rotate_left
    · refine jn_to false (fun k4 => by rw [decide_eq_false (by omega), fk_f]) ?_
      rw [fk_f]
      unfold step2
      rw [List.getElem?_eq_none (by omega)]
    have eu : us[k]? = some us[k] := List.getElem?_eq_getElem hu
    refine jn_to (decide (us[k].Kind = 2)) (fun k4 => by rw [decide_eq_true (by omega), fk_t, ix_lt hu]) ?_
    unfold step2
    rw [eu]
    dsimp only
    by_cases c : us[k].Kind = 2
    · rw [decide_eq_true c, fk_t, ix_lt hu, if_pos c]
      show bnd (part_Leave p1 us[k].I) _ = _
      rw [bnd_eq (part_Leave_eq p1 _ hb1)]
    · rw [decide_eq_false c, fk_f, if_neg c]
  dsimp only
  have hb2 := StB.of_st h2.1
  rw [ix_lt h, wr_succ k _ h (by omega)]
  show bnd (part_Tick (step2 us k (step1 us k p)) gs[k] (k : Int)) _ = _
  rw [bnd_eq (part_Tick_eq _ _ _ hb2), if_pos ⟨h2.1, by unfold whenP; omega⟩]
  have e : (tickV (step2 us k (step1 us k p)) gs[k] (k : Int)).1 = stepN us gs k p := by
    unfold stepN step3
    rw [List.getElem?_eq_getElem h]; rfl
  dsimp only
  rw [e]
  exact nxt
end Go.Proofs.Ytakiggekallckaa
namespace Go.Proofs.Ytakiggekallckaa
open Go Go.VC
noncomputable def law17_knows  : Option Bool :=
  bnd (part_New ([⟨(2 : Int), (4 : Int), (6 : Int), []⟩] : List Task)) fun x1 => bnd (part_Release x1.1 (0 : Int) (2 : Int) (0 : Int)) fun x2 => bnd (part_Tick x2.1 false (0 : Int)) fun x3 => bnd (part_Tick x3.1 true (1 : Int)) fun x4 => bnd (part_Tick x4.1 true (2 : Int)) fun x5 => fk (decide (x1.2 = (0 : Int))) (fk (decide (x2.2 = (0 : Int))) (fk (decide (x5.2.2 = (0 : Int))) (fk (decide (x4.2.1 = (0 : Int))) (fk (decide (x5.2.1 = (0 : Int))) (fk (decide ((x5.1.Log.length : Int) = (2 : Int))) (ix x5.1.Log (0 : Int) fun x6 => fk (eqI [.i .i64 x6.At, .i .i64 x6.Kind, .i .i64 x6.Task] [.i .i64 (0 : Int), .i .i64 (1 : Int), .i .i64 (0 : Int)]) (ix x5.1.Log (1 : Int) fun x7 => fk (eqI [.i .i64 x7.At, .i .i64 x7.Kind, .i .i64 x7.Task] [.i .i64 (2 : Int), .i .i64 (4 : Int), .i .i64 (0 : Int)]) (bnd (part_Right x5.1) fun x8 => some x8) (some false)) (some false)) (some false)) (some false)) (some false)) (some false)) (some false)) (some false)
theorem law17_knows_w  (r : Bool) (h : law17_knows = some r) : Go.VC.Spec Try.prog 14 [] (fun y => y = E_Bool r) := by
  refine Go.VC.Spec.of_xc (args := []) (fn := Try.f14) tab ⟨[(0, []), (1, [1, 2]), (2, [1, 2, 3]), (3, [1, 2, 3]), (4, [1, 2, 3, 4]), (5, [1, 2, 3, 4, 6, 7]), (6, [0])], [], [], []⟩ 81 [.tmp 0] rfl rfl rfl rfl rfl rfl ?_
  conv => whnf
  refine liS ([⟨(2 : Int), (4 : Int), (6 : Int), []⟩] : List Task) Task.enc rfl rfl ?_
  conv => whnf
  refine iceS 11 ?_
  conv => whnf
  refine ccS (E := E_PartState_Int) h (part_New_w ([⟨(2 : Int), (4 : Int), (6 : Int), []⟩] : List Task)) rfl rfl (fun x1 h => ?_)
  conv => whnf
  refine ccS (E := E_PartState_Int) h (part_Release_w x1.1 (0 : Int) (2 : Int) (0 : Int)) rfl rfl (fun x2 h => ?_)
  conv => whnf
  refine ccS (E := E_PartState_Int_Int) h (part_Tick_w x2.1 false (0 : Int)) rfl rfl (fun x3 h => ?_)
  conv => whnf
  refine ccS (E := E_PartState_Int_Int) h (part_Tick_w x3.1 true (1 : Int)) rfl rfl (fun x4 h => ?_)
  conv => whnf
  refine ccS (E := E_PartState_Int_Int) h (part_Tick_w x4.1 true (2 : Int)) rfl rfl (fun x5 h => ?_)
  conv => whnf
  refine fkS h (fun h => ?_) (fun h => ?_)
  · conv => whnf
    refine fkS h (fun h => ?_) (fun h => ?_)
    · conv => whnf
      refine fkS h (fun h => ?_) (fun h => ?_)
      · conv => whnf
        refine fkS h (fun h => ?_) (fun h => ?_)
        · conv => whnf
          refine fkS h (fun h => ?_) (fun h => ?_)
          · conv => whnf
            refine lenS x5.1.Log Entry.enc rfl ?_
            conv => whnf
            refine fkS h (fun h => ?_) (fun h => ?_)
            · conv => whnf
              refine ixS (enc := Entry.enc) h rfl (fun _ => rfl) (fun x6 h => ?_)
              conv => whnf
              refine fkS h (fun h => ?_) (fun h => ?_)
              · conv => whnf
                refine ixS (enc := Entry.enc) h rfl (fun _ => rfl) (fun x7 h => ?_)
                conv => whnf
                refine fkS h (fun h => ?_) (fun h => ?_)
                · conv => whnf
                  refine caS (E := E_Bool) h (part_Right_w x5.1) rfl (fun _ => rfl) (fun x8 h => ?_)
                  conv => whnf
                  exact rt (E := E_Bool) h rfl
                conv => whnf
                exact rt (E := E_Bool) h rfl
              conv => whnf
              exact rt (E := E_Bool) h rfl
            conv => whnf
            exact rt (E := E_Bool) h rfl
          conv => whnf
          exact rt (E := E_Bool) h rfl
        conv => whnf
        exact rt (E := E_Bool) h rfl
      conv => whnf
      exact rt (E := E_Bool) h rfl
    conv => whnf
    exact rt (E := E_Bool) h rfl
  conv => whnf
  exact rt (E := E_Bool) h rfl

end Go.Proofs.Ytakiggekallckaa
namespace Go.Proofs.Ytakiggekallckaa
open Go Go.VC
noncomputable def law17_PartLogs (a0 : List Task) (a1 : List Law17Act) (a2 : List Bool) : Option Bool :=
  jn (fun (w1 : Bool) => fk w1 (bnd law17_knows fun x4 => some x4) (bnd (part_New a0) fun x5 => ck (decide ((2 : Int) ≠ 0)) (ck (decide ((0 : Int) ≤ (0 : Int)) && decide ((0 : Int) ≤ (wr ((a2.length : Int).tdiv (2 : Int)))) && decide ((wr ((a2.length : Int).tdiv (2 : Int))) ≤ (a2.length : Int))) (bnd (law17_Play x5.1 a1 ((a2.take (wr ((a2.length : Int).tdiv (2 : Int))).toNat).drop (0 : Int).toNat)) fun x6 => bnd (law17_Play x5.1 a1 a2) fun x7 => jn (fun (w8 : Bool) => fk w8 (some false) (lp (fun nx11 (v11 : Int) => fk (decide (v11 < (x7.Log.length : Int))) (jn (fun (w12 : Bool) => fk w12 (some false) (nx11 (wr (v11 + (1 : Int))))) (fun k12 => fk (decide (v11 < (x6.Log.length : Int))) (ix x6.Log v11 fun x13 => ix x7.Log v11 fun x14 => fk (!(eqI [.i .i64 x13.At, .i .i64 x13.Kind, .i .i64 x13.Task] [.i .i64 x14.At, .i .i64 x14.Kind, .i .i64 x14.Task])) (k12 true) (fk (decide (v11 > (0 : Int))) (ix x7.Log v11 fun x15 => ix x7.Log (wr (v11 - (1 : Int))) fun x16 => k12 (decide (x15.At < x16.At))) (k12 false))) (fk (decide (v11 > (0 : Int))) (ix x7.Log v11 fun x17 => ix x7.Log (wr (v11 - (1 : Int))) fun x18 => k12 (decide (x17.At < x18.At))) (k12 false)))) (fk (decide (x5.2 = (0 : Int))) (bnd law17_knows fun x19 => some x19) (some false))) FU (0 : Int))) (fun k8 => bnd (part_Right x6) fun x9 => fk (!x9) (k8 true) (bnd (part_Right x7) fun x10 => fk (!x10) (k8 true) (k8 (decide ((x6.Log.length : Int) > (x7.Log.length : Int)))))))))) (fun k1 => bnd (law05_Great a0) fun x2 => fk x2 (k1 true) (fk (decide ((a2.length : Int) > (300 : Int))) (k1 true) (bnd (ref05_All a0) fun x3 => k1 (!x3))))
theorem law17_PartLogs_w (a0 : List Task) (a1 : List Law17Act) (a2 : List Bool) (r : Bool) (h : law17_PartLogs a0 a1 a2 = some r) : Go.VC.Spec Try.prog 6 [.d (.sl (a0.map Task.enc)), .d (.sl (a1.map Law17Act.enc)), .d (.sl (a2.map eB))] (fun y => y = E_Bool r) := by
  refine Go.VC.Spec.of_xc (args := [.d (.sl (a0.map Task.enc)), .d (.sl (a1.map Law17Act.enc)), .d (.sl (a2.map eB))]) (fn := Try.f6) tab ⟨[(0, [0, 1, 2]), (1, [0, 1, 2, 24]), (2, [6]), (3, [1, 2, 7, 8]), (4, [1, 2, 7, 8, 9]), (5, [8, 10, 11]), (6, [8, 10, 11, 60]), (7, [6]), (8, [8, 10, 11, 12]), (9, [8, 10, 11, 12, 65]), (10, [8, 10, 11, 12]), (11, [8, 10, 11, 12, 105]), (12, [6]), (13, [6])], [], [100024, 100060, 100105], []⟩ 111 [.tmp 6] rfl rfl rfl rfl rfl rfl ?_
  conv => whnf
  refine jnS (fun w1 => ⟨[(0, .l (.d (.sl (a0.map Task.enc)))), (1, .l (.d (.sl (a1.map Law17Act.enc)))), (2, .l (.d (.sl (a2.map eB)))), (24, .l (.d (.bool w1)))], 111, [], [], []⟩) h (fun k1 hk1 h => ?_) (fun w1 h => ?_)
  · conv => whnf
    refine caS (E := E_Bool) h (law05_Great_w a0) rfl (fun _ => rfl) (fun x2 h => ?_)
    conv => whnf
    refine fkS h (fun h => ?_) (fun h => ?_)
    · conv => whnf
      exact jeS hk1 h (Weak.refl _)
    conv => whnf
    refine lenS a2 eB rfl ?_
    conv => whnf
    refine fkS h (fun h => ?_) (fun h => ?_)
    · conv => whnf
      exact jeS hk1 h (Weak.refl _)
    conv => whnf
    refine caS (E := E_Bool) h (ref05_All_w a0) rfl (fun _ => rfl) (fun x3 h => ?_)
    conv => whnf
    exact jeS hk1 h (Weak.refl _)
  conv => whnf
  refine fkS h (fun h => ?_) (fun h => ?_)
  · conv => whnf
    refine caS (E := E_Bool) h law17_knows_w rfl (fun _ => rfl) (fun x4 h => ?_)
    conv => whnf
    exact rt (E := E_Bool) h rfl
  conv => whnf
  refine ccS (E := E_PartState_Int) h (part_New_w a0) rfl rfl (fun x5 h => ?_)
  conv => whnf
  refine lenS a2 eB rfl ?_
  conv => whnf
  refine dvS h (fun h => ?_)
  conv => whnf
  refine ⟨12, ?_⟩
  conv => whnf
  refine slS (enc := eB) h rfl rfl (.inl rfl) (fun _ => rfl) (fun h => ?_)
  conv => whnf
  refine dcS (E := E_PartState) h (law17_Play_w x5.1 a1 ((a2.take (wr ((a2.length : Int).tdiv (2 : Int))).toNat).drop (0 : Int).toNat)) rfl (fun x6 h => ?_)
  conv => whnf
  refine dcS (E := E_PartState) h (law17_Play_w x5.1 a1 a2) rfl (fun x7 h => ?_)
  conv => whnf
  refine drS (by kernel_rfl) ?_
  conv => whnf
  refine jnS (fun w8 => ⟨[(8, .l (.d (.int .i64 x5.2))), (10, .l (.ptr 11 0)), (11, .l (.ptr 12 0)), (60, .l (.d (.bool w8)))], 111, [], [(11, [.d (.sl (x6.Tasks.map Task.enc)), .d (.sl (x6.Leaves.map eB)), .d (.sl (x6.Lasts.map (eI .i64))), .d (.sl (x6.Jobs.map Job.enc)), .d (.sl (x6.Log.map Entry.enc))]), (12, [.d (.sl (x7.Tasks.map Task.enc)), .d (.sl (x7.Leaves.map eB)), .d (.sl (x7.Lasts.map (eI .i64))), .d (.sl (x7.Jobs.map Job.enc)), .d (.sl (x7.Log.map Entry.enc))])], []⟩) h (fun k8 hk8 h => ?_) (fun w8 h => ?_)
  · conv => whnf
    refine caS (E := E_Bool) h (part_Right_w x6) rfl (fun _ => rfl) (fun x9 h => ?_)
    conv => whnf
    refine fkS h (fun h => ?_) (fun h => ?_)
    · conv => whnf
      exact jeS hk8 h (Weak.refl _)
    conv => whnf
    refine caS (E := E_Bool) h (part_Right_w x7) rfl (fun _ => rfl) (fun x10 h => ?_)
    conv => whnf
    refine fkS h (fun h => ?_) (fun h => ?_)
    · conv => whnf
      exact jeS hk8 h (Weak.refl _)
    conv => whnf
    refine lenS x6.Log Entry.enc rfl ?_
    conv => whnf
    refine lenS x7.Log Entry.enc rfl ?_
    conv => whnf
    exact jeS hk8 h (Weak.refl _)
  conv => whnf
  refine fkS h (fun h => ?_) (fun h => ?_)
  · conv => whnf
    exact rt (E := E_Bool) h rfl
  conv => whnf
  refine lpS (fun v11 => ⟨[(8, .l (.d (.int .i64 x5.2))), (10, .l (.ptr 11 0)), (11, .l (.ptr 12 0)), (12, .l (.d (.int .i64 v11)))], 111, [], [(11, [.d (.sl (x6.Tasks.map Task.enc)), .d (.sl (x6.Leaves.map eB)), .d (.sl (x6.Lasts.map (eI .i64))), .d (.sl (x6.Jobs.map Job.enc)), .d (.sl (x6.Log.map Entry.enc))]), (12, [.d (.sl (x7.Tasks.map Task.enc)), .d (.sl (x7.Leaves.map eB)), .d (.sl (x7.Lasts.map (eI .i64))), .d (.sl (x7.Jobs.map Job.enc)), .d (.sl (x7.Log.map Entry.enc))])], []⟩) h (Weak.refl _) (fun _ nx11 hn11 v11 h => ?_)
  conv => whnf
  refine lenS x7.Log Entry.enc rfl ?_
  conv => whnf
  refine fkS h (fun h => ?_) (fun h => ?_)
  · conv => whnf
    refine jnS (fun w12 => ⟨[(8, .l (.d (.int .i64 x5.2))), (10, .l (.ptr 11 0)), (11, .l (.ptr 12 0)), (12, .l (.d (.int .i64 v11))), (105, .l (.d (.bool w12)))], 111, [], [(11, [.d (.sl (x6.Tasks.map Task.enc)), .d (.sl (x6.Leaves.map eB)), .d (.sl (x6.Lasts.map (eI .i64))), .d (.sl (x6.Jobs.map Job.enc)), .d (.sl (x6.Log.map Entry.enc))]), (12, [.d (.sl (x7.Tasks.map Task.enc)), .d (.sl (x7.Leaves.map eB)), .d (.sl (x7.Lasts.map (eI .i64))), .d (.sl (x7.Jobs.map Job.enc)), .d (.sl (x7.Log.map Entry.enc))])], []⟩) h (fun k12 hk12 h => ?_) (fun w12 h => ?_)
    · conv => whnf
      refine ⟨38, ?_⟩
      conv => whnf
      refine lenS x6.Log Entry.enc rfl ?_
      conv => whnf
      refine fkS h (fun h => ?_) (fun h => ?_)
      · conv => whnf
        refine ixS (enc := Entry.enc) h rfl (fun _ => rfl) (fun x13 h => ?_)
        conv => whnf
        refine ixS (enc := Entry.enc) h rfl (fun _ => rfl) (fun x14 h => ?_)
        conv => whnf
        refine fkS h (fun h => ?_) (fun h => ?_)
        · conv => whnf
          refine drS (by kernel_rfl) ?_
          conv => whnf
          exact jeS hk12 h (Weak.refl _)
        conv => whnf
        refine fkS h (fun h => ?_) (fun h => ?_)
        · conv => whnf
          refine ixS (enc := Entry.enc) h rfl (fun _ => rfl) (fun x15 h => ?_)
          conv => whnf
          refine ixS (enc := Entry.enc) h rfl (fun _ => rfl) (fun x16 h => ?_)
          conv => whnf
          refine drS (by kernel_rfl) ?_
          conv => whnf
          exact jeS hk12 h (Weak.refl _)
        conv => whnf
        refine drS (by kernel_rfl) ?_
        conv => whnf
        exact jeS hk12 h (Weak.refl _)
      conv => whnf
      refine fkS h (fun h => ?_) (fun h => ?_)
      · conv => whnf
        refine ixS (enc := Entry.enc) h rfl (fun _ => rfl) (fun x17 h => ?_)
        conv => whnf
        refine ixS (enc := Entry.enc) h rfl (fun _ => rfl) (fun x18 h => ?_)
        conv => whnf
        refine drS (by kernel_rfl) ?_
        conv => whnf
        exact jeS hk12 h (Weak.refl _)
      conv => whnf
      refine drS (by kernel_rfl) ?_
      conv => whnf
      exact jeS hk12 h (Weak.refl _)
    conv => whnf
    refine fkS h (fun h => ?_) (fun h => ?_)
    · conv => whnf
      exact rt (E := E_Bool) h rfl
    conv => whnf
    exact leS hn11 h (Weak.refl _)
  conv => whnf
  refine fkS h (fun h => ?_) (fun h => ?_)
  · conv => whnf
    refine caS (E := E_Bool) h law17_knows_w rfl (fun _ => rfl) (fun x19 h => ?_)
    conv => whnf
    exact rt (E := E_Bool) h rfl
  conv => whnf
  exact rt (E := E_Bool) h rfl

end Go.Proofs.Ytakiggekallckaa
namespace Go.Proofs.Ytakiggekallckaa
open Go Go.VC
def PurePartLogs : Prop := ∀ (a0 : List Task) (a1 : List Law17Act) (a2 : List Bool), (a0.length * 48 ≤ BB ∧ ∀ y1 ∈ a0, Task.wf y1) → (a1.length * 24 ≤ BB ∧ ∀ y1 ∈ a1, Law17Act.wf y1) → (a2.length * 1 ≤ BB ∧ ∀ y1 ∈ a2, True) → law17_PartLogs a0 a1 a2 = some true
end Go.Proofs.Ytakiggekallckaa
namespace Go.Proofs.Ytakiggekallckaa
open Go Go.VC
theorem law17_knows_eq : law17_knows = some true := by kernel_rfl
/-- What was logged by tick n, and stays. -/
def okL (n : Nat) (l : List Entry) : Prop := (∀ x ∈ l, x.At < (n : Int)) ∧ l.Pairwise (fun a b => a.At ≤ b.At)
theorem okL_ext {n : Nat} {a b : List Entry} (h : okL n a) (k : Ext (n : Int) a b) : okL (n + 1) b := by
  obtain ⟨e, rfl, he⟩ := k
  refine ⟨fun x hx => ?_, List.pairwise_append.2 ⟨h.2, ?_, fun x hx y hy => ?_⟩⟩
  · rcases List.mem_append.1 hx with hx | hx
    · have := h.1 x hx; omega
    · have := he x hx; omega
  · exact List.Pairwise.imp_of_mem (R := fun _ _ => True) (fun hx hy _ => by rw [he _ hx, he _ hy]; exact Int.le_refl _) (List.pairwise_of_forall fun _ _ => trivial)
  · have := h.1 x hx; have := he y hy; omega
theorem okL_play {us : List Law17Act} {gs : List Bool} {s : PartState} (h : okL 0 s.Log) : ∀ n, okL n (playN us gs s n).Log
  | 0 => h
  | n + 1 => okL_ext (okL_play h n) Ext.N
theorem pre_play {us : List Law17Act} {gs : List Bool} {s : PartState} : ∀ (d k : Nat), ∃ e, (playN us gs s (k + d)).Log = (playN us gs s k).Log ++ e
  | 0, k => ⟨[], (List.append_nil _).symm⟩
  | d + 1, k => by
    obtain ⟨e, he⟩ := pre_play (us := us) (gs := gs) (s := s) d k
    obtain ⟨f, hf, _⟩ := (Ext.N : Ext ((k + d : Nat) : Int) (playN us gs s (k + d)).Log (stepN us gs (k + d) (playN us gs s (k + d))).Log)
    refine ⟨e ++ f, ?_⟩
    show (stepN us gs (k + d) (playN us gs s (k + d))).Log = _
    rw [hf, he, List.append_assoc]
theorem play_take {us : List Law17Act} {gs : List Bool} {s : PartState} (m : Nat) : ∀ n, n ≤ m → playN us (gs.take m) s n = playN us gs s n
  | 0, _ => rfl
  | n + 1, h => by
    show stepN us (gs.take m) n (playN us (gs.take m) s n) = stepN us gs n (playN us gs s n)
    rw [play_take m n (by omega)]
    unfold stepN step3
    rw [List.getElem?_take_of_lt (by omega)]
theorem proofPartLogs : PurePartLogs := by
  intro l us gs hl hu hg
  have hll : l.length ≤ 4611686018427387904 := wf_len hl.1 (by omega)
  have hsl : ∀ t ∈ l, t.Secs.length ≤ 4611686018427387904 := fun t ht => (hl.2 t ht).len
  have hul : us.length ≤ 4611686018427387904 := by have := hu.1; unfold BB at this; omega
  have hgl : gs.length ≤ 4611686018427387904 := by have := hg.1; unfold BB at this; omega
  unfold law17_PartLogs
  simp only [law17_knows_eq, bnd_some]
  refine jn_to (decide (GreatP l ∨ 300 < gs.length ∨ ¬ AllP l)) (fun k => ?_) ?_
  · rw [bnd_eq (law05_Great_eq l hll)]
    by_cases h1 : GreatP l
    · rw [decide_eq_true h1, fk_t, decide_eq_true (Or.inl h1)]
    rw [decide_eq_false h1, fk_f]
    by_cases h2 : 300 < gs.length
    · rw [decide_eq_true (by omega), fk_t, decide_eq_true (Or.inr (Or.inl h2))]
    rw [decide_eq_false (by omega), fk_f, bnd_eq (ref05_All_eq l hll hsl)]
    by_cases h3 : AllP l
    · rw [decide_eq_true h3, decide_eq_false (fun h => by rcases h with h | h | h <;> first | exact h1 h | exact h2 h | exact h h3)]; rfl
    · rw [decide_eq_false h3, decide_eq_true (Or.inr (Or.inr h3))]; rfl
  by_cases hgr : GreatP l ∨ 300 < gs.length ∨ ¬ AllP l
  · rw [decide_eq_true hgr, fk_t]
  have h3 : gs.length ≤ 300 := by have : ¬ 300 < gs.length := fun h => hgr (.inr (.inl h)); omega
  have ha : AllP l := Classical.byContradiction fun h => hgr (.inr (.inr h))
  have h2 : (gs.length : Int).tdiv 2 = ((gs.length / 2 : Nat) : Int) := by rw [Int.tdiv_eq_ediv_of_nonneg (by omega)]; omega
  rw [decide_eq_false hgr, fk_f, bnd_eq (part_New_eq l hll hsl), if_pos ha, ck_t (by decide), h2, wr_in _ (by omega), ck_t (by simp; omega), Int.toNat_natCast]
  have hok := okS_new ha
  have htl : (gs.take (gs.length / 2)).length = gs.length / 2 := by rw [List.length_take]; omega
  have e6 := law17_Play_eq (new0 l) us (gs.take (gs.length / 2)) hok (by omega) hul
  rw [htl, play_take _ _ (Nat.le_refl _)] at e6
  have e6' : law17_Play (new0 l) us ((gs.take (gs.length / 2)).drop (0 : Int).toNat) = some (playN us gs (new0 l) (gs.length / 2)) := e6
  rw [bnd_eq e6', bnd_eq (law17_Play_eq (new0 l) us gs hok h3 hul)]
  have k6 := okS_play (us := us) (gs := gs) hok (gs.length / 2)
  have k7 := okS_play (us := us) (gs := gs) hok gs.length
  have hL := okL_play (us := us) (gs := gs) (s := new0 l) ⟨fun x hx => (List.not_mem_nil hx).elim, List.Pairwise.nil⟩ gs.length
  obtain ⟨e, he⟩ := pre_play (us := us) (gs := gs) (s := new0 l) (gs.length - gs.length / 2) (gs.length / 2)
  rw [show gs.length / 2 + (gs.length - gs.length / 2) = gs.length by omega] at he
  generalize playN us gs (new0 l) (gs.length / 2) = p6 at *
  generalize playN us gs (new0 l) gs.length = p7 at *
  have hlen : p6.Log.length ≤ p7.Log.length := by rw [he, List.length_append]; omega
  refine jn_to false (fun k => ?_) ?_
  · rw [bnd_eq (part_Right_eq p6 (StB.of_st k6.1)), decide_eq_true k6.1, Bool.not_true, fk_f, bnd_eq (part_Right_eq p7 (StB.of_st k7.1)), decide_eq_true k7.1, Bool.not_true, fk_f, decide_eq_false (by omega)]
  rw [fk_f]
  have h2000 := k7.1.2.2.2
  refine lp_up p7.Log.length (by unfold FU; omega) (fun _ => True) trivial ?_
  intro nx k hk _ hnx
  rw [lt_nat]
  by_cases hk' : k < p7.Log.length
  rotate_left
  · rw [decide_eq_false hk', fk_f, decide_eq_true rfl, fk_t]
  rw [decide_eq_true hk', fk_t, wr_succ k _ hk' (by omega)]
  refine jn_to false (fun k12 => ?_) ?_
  rotate_left
  · rw [fk_f]; exact hnx hk' trivial
  have srt : fk (decide ((k : Int) > 0)) (ix p7.Log (k : Int) fun x15 => ix p7.Log (wr ((k : Int) - 1)) fun x16 => k12 (decide (x15.At < x16.At))) (k12 false) = k12 false := by
    by_cases k0 : 0 < k
    · have hk1 : k - 1 < p7.Log.length := by omega
      rw [decide_eq_true (by omega), fk_t, ix_lt hk', wr_in _ (by omega), show (k : Int) - 1 = ((k - 1 : Nat) : Int) by omega, ix_lt hk1]
      have := List.pairwise_iff_getElem.1 hL.2 (k - 1) k hk1 hk' (by omega)
      rw [decide_eq_false (by omega)]
    · rw [decide_eq_false (by omega), fk_f]
  rw [lt_nat]
  by_cases h6 : k < p6.Log.length
  · have e67 : p7.Log[k] = p6.Log[k] := by simp only [he]; exact List.getElem_append_left h6
    rw [decide_eq_true h6, fk_t, ix_lt h6, ix_lt hk', eqI_ent, e67, decide_eq_true rfl, Bool.not_true, fk_f]
    exact srt
  · rw [decide_eq_false h6, fk_f]
    exact srt
end Go.Proofs.Ytakiggekallckaa
namespace Go.Proofs.Ytakiggekallckaa.partLogs
open Go Go.VC Go.ChangeShapes Go.WideShapes Go.ChangeAt Go.RowKit
theorem own : ownKnob Try.prog.godebug = none := by kernel_rfl
theorem laidOut : laidOutB Try.prog = true := by kernel_rfl
theorem lifted (os : Os) (started : os.Started) (H : Type) (enc : TypeId × Value → H) :
    ReturnsInHanded {} Try.checked os 6 .any (Rows.partLogsSpec.pre6 enc Try.prog Try.f6 Rows.partLogsRow.domain false) (Rows.partLogsSpec.post enc Try.prog Try.f6 false true false false) := by
  refine returnsInHanded_of_change_sized (C := Try.checked) own started (by kernel_rfl) Try.func6
    (ChangeSpec.witness6 (enc := enc) (C := Try.checked) false ⟨#[], #[.slice none 0 0, .slice none 0 0, .slice none 0 0], []⟩ 8 (by kernel_rfl) (by kernel_rfl) (by kernel_rfl) (by kernel_rfl)) ?_
  intro W base args ds gs before hval0 hW hcnd hsz0 _
  have hsz : (DataW.weightsEach Try.prog (Try.f6.params.toList ++ Rows.partLogsSpec.plain.varTypes Try.prog) (ds ++ gs)).all (· ≤ reachBytes) = true := hsz0
  have hval : ∀ (j : Nat) t v, Try.f6.params[j]? = some t → args[j]? = some v → Value.okWide Try.prog W .any base t v := hval0
  have hW' := hW
  obtain ⟨p, q, hA0, hV, rfl, hfz, hnd⟩ := hW
  have hA : DataW.TrodAll enc Try.prog W 0 (fun _ => true) true Try.f6.params.toList args.toList ds p := hA0
  rw [Try.params6] at hA hval hsz
  obtain ⟨v0, vs0, d0, ds0, p0, q0, hargs, rfl, rfl, h0, r0⟩ := trodAll_cons hA
  obtain ⟨v1, vs1, d1, ds1, p1, q1, rfl, rfl, rfl, h1, r1⟩ := trodAll_cons r0
  obtain ⟨v2, vs2, d2, ds2, p2, q2, rfl, rfl, rfl, h2, r2⟩ := trodAll_cons r1
  obtain ⟨rfl, rfl, rfl⟩ := trodAll_nil r2
  obtain rfl : args = #[v0, v1, v2] := by cases args; simp_all
  obtain ⟨rfl, rfl⟩ := trodVars_none hV
  have lt0 : ∀ x ∈ p0, x.block < W.heap.size := by obtain ⟨m, hm⟩ := h0; exact DataW.trod_lt m _ _ _ hm
  have wt0 : ∀ k ∈ d0.weights Try.prog 22, k ≤ BB := fun k hk => of_decide_eq_true (List.all_eq_true.1 hsz _ (DataW.weights_mem_each (j := 0) rfl rfl k hk))
  obtain ⟨c0, s0, g0⟩ := open_cv tab (m := 8) (t := 22) rfl (hval 0 22 v0 rfl rfl) h0 wt0
  have g0 := g0 _ T22
  obtain ⟨a0, rfl, w0⟩ := (s0.l (f := Task.enc) (W := (fun x => Task.wf x)) T22 T47 (fun _ _ h => (Task.of h)))
  have lt1 : ∀ x ∈ p1, x.block < W.heap.size := by obtain ⟨m, hm⟩ := h1; exact DataW.trod_lt m _ _ _ hm
  have wt1 : ∀ k ∈ d1.weights Try.prog 54, k ≤ BB := fun k hk => of_decide_eq_true (List.all_eq_true.1 hsz _ (DataW.weights_mem_each (j := 1) rfl rfl k hk))
  obtain ⟨c1, s1, g1⟩ := open_cv tab (m := 8) (t := 54) rfl (hval 1 54 v1 rfl rfl) h1 wt1
  have g1 := g1 _ T54
  obtain ⟨a1, rfl, w1⟩ := (s1.l (f := Law17Act.enc) (W := (fun x => Law17Act.wf x)) T54 T109 (fun _ _ h => (Law17Act.of h)))
  have lt2 : ∀ x ∈ p2, x.block < W.heap.size := by obtain ⟨m, hm⟩ := h2; exact DataW.trod_lt m _ _ _ hm
  have wt2 : ∀ k ∈ d2.weights Try.prog 23, k ≤ BB := fun k hk => of_decide_eq_true (List.all_eq_true.1 hsz _ (DataW.weights_mem_each (j := 2) rfl rfl k hk))
  obtain ⟨c2, s2, g2⟩ := open_cv tab (m := 8) (t := 23) rfl (hval 2 23 v2 rfl rfl) h2 wt2
  have g2 := g2 _ T23
  obtain ⟨a2, rfl, w2⟩ := (s2.l (f := eB) (W := (fun x => True)) T23 T4 (fun _ _ h => (andT (h.b T4))))
  clear hA0 hval0 hsz0 hsz
  have pure := proofPartLogs a0 a1 a2 w0 w1 w2
  refine ((law17_PartLogs_w a0 a1 a2 true pure).2 W (pw W) [v0, v1, v2] (fun _ h => h) (All2.cons g0 (All2.cons g1 (All2.cons g2 All2.nil)))).mono fun e W' ⟨v, rs, p', he, hR, hrep, bel, _⟩ => ?_
  subst hR he
  obtain rfl := RepD_bool hrep
  exact ⟨_, rfl, _, _, _, [], _, [], hW', trodAll_mk1 (shut_bool Try.underlying4 _), (trodAll_cons_mk (Below.trod laidOut (by kernel_rfl) (of_decide_eq_true (by kernel_rfl)) h0 bel lt0) (trodAll_cons_mk (Below.trod laidOut (by kernel_rfl) (of_decide_eq_true (by kernel_rfl)) h1 bel lt1) (trodAll_cons_mk (Below.trod laidOut (by kernel_rfl) (of_decide_eq_true (by kernel_rfl)) h2 bel lt2) trodAll_mk0))), rfl, bel.frame _, fun h => by cases h⟩
theorem over : Rows.partLogsRow.holds Try.pinned (OpenSpec.ofChange Rows.partLogsSpec) :=
  OpenClaim.holds_of_wide 6 Try.f6 rfl rfl rfl rfl rfl rfl rfl ⟨rfl, rfl, rfl, rfl, rfl⟩ rfl rfl rfl rfl rfl (by kernel_rfl) Try.func6 (by kernel_rfl)
    (of_decide_eq_true (by kernel_rfl)) (by unfold Func.isWrapper; first | (rw [if_pos (by decide +kernel)]; kernel_rfl) | (rw [if_neg (by decide +kernel)]; exact ⟨rfl, rfl⟩))
    (fun os started H enc _ => lifted os started H enc)
end Go.Proofs.Ytakiggekallckaa.partLogs
namespace Go.Proofs.Ytakiggekallckaa
theorem partLogs_holds : Rows.PartLogsSaid := partLogs.over
end Go.Proofs.Ytakiggekallckaa
