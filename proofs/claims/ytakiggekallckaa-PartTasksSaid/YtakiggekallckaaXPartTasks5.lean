/- It is proved that the law PartTasks returns true at every input that the row lets in; there is no condition beside the row's own. -/
import Derived.Test.YtakiggekallckaaXPartTasks3
import Derived.Test.YtakiggekallckaaXPartTasks4
import Derived.Test.YtakiggekallckaaRows
set_option linter.unusedVariables false
set_option linter.unusedSimpArgs false
set_option maxRecDepth 100000
set_option maxHeartbeats 4000000
namespace Go.Proofs.Ytakiggekallckaa
open Go Go.VC
noncomputable def part_New (a0 : List Task) : Option (PartState × Int) :=
  bnd (task_All a0) fun x1 => fk (!x1) (some (⟨[], [], [], [], []⟩, (1 : Int))) (lp (fun nx2 (v2 : (List Task) × (List Bool) × (List Int) × (List Job) × (List Entry) × Int) => fk (decide (v2.2.2.2.2.2 < (a0.length : Int))) (ix a0 v2.2.2.2.2.2 fun x3 => bnd (part_Add ⟨v2.1, v2.2.1, v2.2.2.1, v2.2.2.2.1, v2.2.2.2.2.1⟩ x3) fun x4 => nx2 (x4.1.Tasks, x4.1.Leaves, x4.1.Lasts, x4.1.Jobs, x4.1.Log, (wr (v2.2.2.2.2.2 + (1 : Int))))) (some (⟨v2.1, v2.2.1, v2.2.2.1, v2.2.2.2.1, v2.2.2.2.2.1⟩, (0 : Int)))) FU ([], [], [], [], [], (0 : Int)))
theorem part_New_w (a0 : List Task) (r : PartState × Int) (h : part_New a0 = some r) : Go.VC.Spec Try.prog 25 [.d (.sl (a0.map Task.enc))] (fun y => y = E_PartState_Int r) := by
  refine Go.VC.Spec.of_xc (args := [.d (.sl (a0.map Task.enc))]) (fn := Try.f25) tab ⟨[(0, [0, 2]), (1, [0, 2, 9]), (2, [2, 3]), (3, [0, 2, 4]), (4, [2, 4, 12, 13, 14]), (5, [2, 4, 12, 13, 14, 15]), (6, [2, 4, 6, 12, 13, 14]), (7, [2, 4, 12, 13, 14]), (8, [2, 4, 12, 13, 14]), (9, [2, 3])], [], [], []⟩ 26 [.cell 2 28, .tmp 3] rfl rfl rfl rfl rfl rfl ?_
  conv => whnf
  refine caS (E := E_Bool) h (task_All_w a0) rfl (fun _ => rfl) (fun x1 h => ?_)
  conv => whnf
  refine fkS h (fun h => ?_) (fun h => ?_)
  · conv => whnf
    exact rt (E := E_PartState_Int) h rfl
  conv => whnf
  refine lenS a0 Task.enc rfl ?_
  conv => whnf
  refine lpS (fun v2 => ⟨[(2, .l (.ptr 3 0)), (4, .l (.ptr 5 0)), (12, .l (.d (.sl (a0.map Task.enc)))), (13, .l (.d (.int .i64 (a0.length : Int)))), (14, .l (.d (.int .i64 v2.2.2.2.2.2)))], 26, [], [(3, [.nil, .nil, .nil, .nil, .nil]), (5, [.d (.sl (v2.1.map Task.enc)), .d (.sl (v2.2.1.map eB)), .d (.sl (v2.2.2.1.map (eI .i64))), .d (.sl (v2.2.2.2.1.map Job.enc)), .d (.sl (v2.2.2.2.2.1.map Entry.enc))])], []⟩) h (Weak.trans (Weak.nilBD _ 5 0 _ rfl rfl) (Weak.trans (Weak.nilBD _ 5 1 _ rfl rfl) (Weak.trans (Weak.nilBD _ 5 2 _ rfl rfl) (Weak.trans (Weak.nilBD _ 5 3 _ rfl rfl) (Weak.trans (Weak.nilBD _ 5 4 _ rfl rfl) (Weak.refl _)))))) (fun _ nx2 hn2 v2 h => ?_)
  conv => whnf
  refine fkS h (fun h => ?_) (fun h => ?_)
  · conv => whnf
    refine ixS (enc := Task.enc) h rfl (fun _ => rfl) (fun x3 h => ?_)
    conv => whnf
    refine ccS (E := E_PartState_Int) h (part_Add_w ⟨v2.1, v2.2.1, v2.2.2.1, v2.2.2.2.1, v2.2.2.2.2.1⟩ x3) rfl rfl (fun x4 h => ?_)
    conv => whnf
    exact leS hn2 h (Weak.refl _)
  conv => whnf
  exact rt (E := E_PartState_Int) h rfl

end Go.Proofs.Ytakiggekallckaa
namespace Go.Proofs.Ytakiggekallckaa
open Go Go.VC
/-! Tasks come and go. -/
def plus (s : PartState) (x : Task) : PartState := ⟨s.Tasks ++ [x], s.Leaves ++ [false], s.Lasts ++ [-1], s.Jobs, s.Log⟩
noncomputable def addV (s : PartState) (x : Task) : PartState × Int := if stP s ∧ RightP x then (if s.Tasks.length < 8 then (plus s x, 0) else (s, 3)) else (s, 1)
theorem part_Add_eq (s : PartState) (x : Task) (hb : StB s) : part_Add s x = some (addV s x) := by
  unfold part_Add
  refine jn_to (!decide (stP s ∧ RightP x)) (fun k => ?_) ?_
  · rw [bnd_eq (part_Right_eq s hb)]
    by_cases h1 : stP s
    rotate_left
    · rw [decide_eq_false h1, Bool.not_false, fk_t, decide_eq_false (fun h => h1 h.1)]; rfl
    rw [decide_eq_true h1, Bool.not_true, fk_f, bnd_eq (task_Right_eq x)]
    unfold right
    by_cases h2 : RightP x
    · rw [decide_eq_true h2, decide_eq_true (⟨h1, h2⟩ : stP s ∧ RightP x)]
    · rw [decide_eq_false h2, decide_eq_false (fun h => h2 h.2)]
  unfold addV
  by_cases hh : stP s ∧ RightP x
  rotate_left
  · rw [decide_eq_false hh, Bool.not_false, fk_t, if_neg hh]
  obtain ⟨h1, h2⟩ := hh
  rw [decide_eq_true (⟨h1, h2⟩ : stP s ∧ RightP x), Bool.not_true, fk_f, if_pos (⟨h1, h2⟩ : stP s ∧ RightP x)]
  by_cases h8 : s.Tasks.length < 8
  rotate_left
  · rw [decide_eq_true (by omega), fk_t, if_neg h8]
  have hLl := h1.1
  have hLs := h1.2.1.2.1
  have hS : x.Secs.length ≤ 4 := h2.len
  rw [decide_eq_false (by omega), fk_f, if_pos h8, ck_t (by simp; omega), ck_t (by simp; omega), ck_t (by simp; omega), ck_t (by simp; omega), ck_t (by simp; omega), ck_t (by simp; omega), ck_t (by simp; omega)]
  simp only [List.nil_append]
  rfl
noncomputable def leaveV (s : PartState) (i : Int) : PartState × Int := if stP s ∧ 0 ≤ i ∧ i < (s.Tasks.length : Int) then (if (s.Leaves[i.toNat]?).getD false = true then (s, 9) else (⟨s.Tasks, s.Leaves.set i.toNat true, s.Lasts, s.Jobs, s.Log⟩, 0)) else (s, 1)
theorem part_Leave_eq (s : PartState) (i : Int) (hb : StB s) : part_Leave s i = some (leaveV s i) := by
  unfold part_Leave
  refine jn_to (!decide (stP s ∧ 0 ≤ i ∧ i < (s.Tasks.length : Int))) (fun k => ?_) ?_
  · rw [bnd_eq (part_Right_eq s hb)]
    by_cases h1 : stP s
    rotate_left
    · rw [decide_eq_false h1, Bool.not_false, fk_t, decide_eq_false (fun h => h1 h.1)]; rfl
    rw [decide_eq_true h1, Bool.not_true, fk_f]
    by_cases h2 : 0 ≤ i
    rotate_left
    · rw [decide_eq_true (by omega), fk_t, decide_eq_false (fun h => h2 h.2.1)]; rfl
    rw [decide_eq_false (by omega), fk_f]
    by_cases h3 : i < (s.Tasks.length : Int)
    · rw [decide_eq_false (by omega), decide_eq_true (⟨h1, h2, h3⟩ : stP s ∧ 0 ≤ i ∧ i < (s.Tasks.length : Int))]; rfl
    · rw [decide_eq_true (by omega), decide_eq_false (fun h => h3 h.2.2)]; rfl
  unfold leaveV
  by_cases hh : stP s ∧ 0 ≤ i ∧ i < (s.Tasks.length : Int)
  rotate_left
  · rw [decide_eq_false hh, Bool.not_false, fk_t, if_neg hh]
  obtain ⟨h1, h2, h3⟩ := hh
  have hLl := h1.1
  have hT8 := AllP_len h1.2.1.1
  have hiL : i.toNat < s.Leaves.length := by omega
  rw [decide_eq_true (⟨h1, h2, h3⟩ : stP s ∧ 0 ≤ i ∧ i < (s.Tasks.length : Int)), Bool.not_true, fk_f, if_pos (⟨h1, h2, h3⟩ : stP s ∧ 0 ≤ i ∧ i < (s.Tasks.length : Int)), ix_int h2 hiL]
  have eL : (s.Leaves[i.toNat]?).getD false = s.Leaves[i.toNat] := by rw [List.getElem?_eq_getElem hiL]; rfl
  rw [eL]
  cases c : s.Leaves[i.toNat] with
  | true => rw [fk_t, if_pos rfl]
  | false =>
    rw [fk_f, if_neg (by simp), ck_t (by simp; omega), List.nil_append, ck_t (by simp; omega), ox_lt hiL]
/-! A new one. -/
def new0 (l : List Task) : PartState := ⟨l, List.replicate l.length false, List.replicate l.length (-1), [], []⟩
theorem AllP_take {l : List Task} (h : AllP l) (k : Nat) : AllP (l.take k) := ⟨fun t ht => h.1 t (List.mem_of_mem_take ht), by rw [List.length_take]; have := h.2; omega⟩
theorem stP_new {l : List Task} (h : AllP l) : stP (new0 l) :=
  ⟨by simp [new0], ⟨h, by simp [new0], fun x hx => by have := List.eq_of_mem_replicate hx; omega⟩, jobsP_nil h, by simp [new0]⟩
theorem stB_new {l : List Task} (h : AllP l) (hs : ∀ t ∈ l, t.Secs.length ≤ 4611686018427387904) : StB (new0 l) := ⟨by show l.length ≤ _; have := h.2; omega, hs, by simp [new0]; have := h.2; omega⟩
theorem part_New_eq (l : List Task) (hl : l.length ≤ 4611686018427387904) (hs : ∀ t ∈ l, t.Secs.length ≤ 4611686018427387904) : part_New l = some (if AllP l then (new0 l, 0) else (⟨[], [], [], [], []⟩, 1)) := by
  unfold part_New
  rw [bnd_eq (task_All_eq l hl)]
  by_cases ha : AllP l
  rotate_left
  · rw [decide_eq_false ha, Bool.not_false, fk_t, if_neg ha]
  have h8 := ha.2
  rw [decide_eq_true ha, Bool.not_true, fk_f, if_pos ha]
  refine lp_inv (fun v => l.length - v.2.2.2.2.2.toNat) (fun v => ∃ k : Nat, v = ((new0 (l.take k)).Tasks, (new0 (l.take k)).Leaves, (new0 (l.take k)).Lasts, (new0 (l.take k)).Jobs, (new0 (l.take k)).Log, (k : Int)) ∧ k ≤ l.length) ?_ FU _ ⟨0, rfl, Nat.zero_le _⟩ (by unfold FU; simp only; omega)
  rintro nx v ⟨k, rfl, hk⟩ hnx
  dsimp only
  rw [lt_nat]
  by_cases hk' : k < l.length
  rotate_left
  · rw [decide_eq_false hk', fk_f, show k = l.length by omega, List.take_length]
  rw [decide_eq_true hk', fk_t, ix_lt hk', wr_succ k _ hk' (by omega)]
  have hak := AllP_take ha k
  have hk8 : (l.take k).length = k := by rw [List.length_take]; omega
  have e : addV (new0 (l.take k)) l[k] = (plus (new0 (l.take k)) l[k], 0) := by
    unfold addV
    rw [if_pos ⟨stP_new hak, ha.1 _ (List.getElem_mem hk')⟩, if_pos (show (new0 (l.take k)).Tasks.length < 8 by show (l.take k).length < 8; omega)]
  have hA := part_Add_eq (new0 (l.take k)) l[k] (stB_new hak fun t ht => hs t (List.mem_of_mem_take ht))
  rw [e] at hA
  have hA' : part_Add ⟨(new0 (l.take k)).Tasks, (new0 (l.take k)).Leaves, (new0 (l.take k)).Lasts, (new0 (l.take k)).Jobs, (new0 (l.take k)).Log⟩ l[k] = some (plus (new0 (l.take k)) l[k], 0) := hA
  rw [bnd_eq hA']
  refine hnx _ ⟨k + 1, ?_, hk'⟩ (by simp only [Int.toNat_natCast]; omega)
  have e2 : plus (new0 (l.take k)) l[k] = new0 (l.take (k + 1)) := by
    unfold plus new0
    rw [← List.take_append_getElem hk', List.length_append, List.length_singleton, List.replicate_succ', List.replicate_succ']
  rw [e2]
end Go.Proofs.Ytakiggekallckaa
namespace Go.Proofs.Ytakiggekallckaa
open Go Go.VC
noncomputable def law17_knows  : Option Bool :=
  bnd (part_New ([⟨(2 : Int), (4 : Int), (6 : Int), []⟩] : List Task)) fun x1 => bnd (part_Release x1.1 (0 : Int) (2 : Int) (0 : Int)) fun x2 => bnd (part_Tick x2.1 false (0 : Int)) fun x3 => bnd (part_Tick x3.1 true (1 : Int)) fun x4 => bnd (part_Tick x4.1 true (2 : Int)) fun x5 => fk (decide (x1.2 = (0 : Int))) (fk (decide (x2.2 = (0 : Int))) (fk (decide (x5.2.2 = (0 : Int))) (fk (decide (x4.2.1 = (0 : Int))) (fk (decide (x5.2.1 = (0 : Int))) (fk (decide ((x5.1.Log.length : Int) = (2 : Int))) (ix x5.1.Log (0 : Int) fun x6 => fk (eqI [.i .i64 x6.At, .i .i64 x6.Kind, .i .i64 x6.Task] [.i .i64 (0 : Int), .i .i64 (1 : Int), .i .i64 (0 : Int)]) (ix x5.1.Log (1 : Int) fun x7 => fk (eqI [.i .i64 x7.At, .i .i64 x7.Kind, .i .i64 x7.Task] [.i .i64 (2 : Int), .i .i64 (4 : Int), .i .i64 (0 : Int)]) (bnd (part_Right x5.1) fun x8 => some x8) (some false)) (some false)) (some false)) (some false)) (some false)) (some false)) (some false)) (some false)
theorem law17_knows_w  (r : Bool) (h : law17_knows = some r) : Go.VC.Spec Try.prog 14 [] (fun y => y = E_Bool r) := by
  refine Go.VC.Spec.of_xc (args := []) (fn := Try.f14) tab ⟨[(0, []), (1, [1, 2]), (2, [1, 2, 3]), (3, [1, 2, 3]), (4, [1, 2, 3, 4]), (5, [1, 2, 3, 4, 6, 7]), (6, [0])], [], [], []⟩ 81 [.tmp 0] rfl rfl rfl rfl rfl rfl ?_
  conv => whnf
  refine liS ([⟨(2 : Int), (4 : Int), (6 : Int), []⟩] : List Task) Task.enc rfl rfl ?_
  conv => whnf
  refine iceS 11 ?_
  conv => whnf
  refine ccS (E := E_PartState_Int) h (part_New_w ([⟨(2 : Int), (4 : Int), (6 : Int), []⟩] : List Task)) rfl rfl (fun x1 h => ?_)
  conv => whnf
  refine ccS (E := E_PartState_Int) h (part_Release_w x1.1 (0 : Int) (2 : Int) (0 : Int)) rfl rfl (fun x2 h => ?_)
  conv => whnf
  refine ccS (E := E_PartState_Int_Int) h (part_Tick_w x2.1 false (0 : Int)) rfl rfl (fun x3 h => ?_)
  conv => whnf
  refine ccS (E := E_PartState_Int_Int) h (part_Tick_w x3.1 true (1 : Int)) rfl rfl (fun x4 h => ?_)
  conv => whnf
  refine ccS (E := E_PartState_Int_Int) h (part_Tick_w x4.1 true (2 : Int)) rfl rfl (fun x5 h => ?_)
  conv => whnf
  refine fkS h (fun h => ?_) (fun h => ?_)
  · conv => whnf
    refine fkS h (fun h => ?_) (fun h => ?_)
    · conv => whnf
      refine fkS h (fun h => ?_) (fun h => ?_)
      · conv => whnf
        refine fkS h (fun h => ?_) (fun h => ?_)
        · conv => whnf
          refine fkS h (fun h => ?_) (fun h => ?_)
          · conv => whnf
            refine lenS x5.1.Log Entry.enc rfl ?_
            conv => whnf
            refine fkS h (fun h => ?_) (fun h => ?_)
            · conv => whnf
              refine ixS (enc := Entry.enc) h rfl (fun _ => rfl) (fun x6 h => ?_)
              conv => whnf
              refine fkS h (fun h => ?_) (fun h => ?_)
              · conv => whnf
                refine ixS (enc := Entry.enc) h rfl (fun _ => rfl) (fun x7 h => ?_)
                conv => whnf
                refine fkS h (fun h => ?_) (fun h => ?_)
                · conv => whnf
                  refine caS (E := E_Bool) h (part_Right_w x5.1) rfl (fun _ => rfl) (fun x8 h => ?_)
                  conv => whnf
                  exact rt (E := E_Bool) h rfl
                conv => whnf
                exact rt (E := E_Bool) h rfl
              conv => whnf
              exact rt (E := E_Bool) h rfl
            conv => whnf
            exact rt (E := E_Bool) h rfl
          conv => whnf
          exact rt (E := E_Bool) h rfl
        conv => whnf
        exact rt (E := E_Bool) h rfl
      conv => whnf
      exact rt (E := E_Bool) h rfl
    conv => whnf
    exact rt (E := E_Bool) h rfl
  conv => whnf
  exact rt (E := E_Bool) h rfl

end Go.Proofs.Ytakiggekallckaa
namespace Go.Proofs.Ytakiggekallckaa
open Go Go.VC
noncomputable def law17_PartTasks (a0 : PartState) (a1 : Task) (a2 : Int) : Option Bool :=
  jn (fun (w1 : Bool) => fk w1 (bnd law17_knows fun x3 => some x3) (bnd (part_Add a0 a1) fun x4 => bnd (part_Leave a0 a2) fun x5 => bnd (part_New a0.Tasks) fun x6 => bnd (law17_As a0) fun x7 => bnd (ref17_Right ⟨x7.Tasks, x7.Leaves, x7.Lasts, x7.Jobs, x7.Log⟩) fun x8 => bnd (law17_As a0) fun x9 => jn (fun (w10 : (List Task) × (List Bool) × (List Int) × Int) => jn (fun (w13 : Bool) => fk w13 (some false) (bnd (law17_As a0) fun x16 => jn (fun (w17 : (List Bool) × Int) => jn (fun (w21 : Bool) => fk w21 (some false) (bnd (ref05_All a0.Tasks) fun x24 => fk (!x24) (bnd (law17_As x6.1) fun x25 => bnd (ref17_Same ⟨x25.Tasks, x25.Leaves, x25.Lasts, x25.Jobs, x25.Log⟩ ⟨[], [], [], [], []⟩) fun x26 => fk x26 (fk (decide (x6.2 = (1 : Int))) (bnd law17_knows fun x27 => some x27) (some false)) (some false)) (ck (decide ((0 : Int) ≤ (a0.Tasks.length : Int)) && decide ((a0.Tasks.length : Int) * ((1 : Nat) : Int) ≤ 140737488355328) && decide ((a0.Tasks.length : Int) ≤ 1000000000000)) (lp (fun nx28 (v28 : (List Int) × Int) => fk (decide (v28.2 < (a0.Tasks.length : Int))) (ck (decide ((v28.1.length + ([(-1 : Int)] : List Int).length) * 8 ≤ 140737488355328)) (nx28 (v28.1 ++ ([(-1 : Int)] : List Int), (wr (v28.2 + (1 : Int)))))) (bnd (law17_As x6.1) fun x29 => bnd (ref17_Same ⟨x29.Tasks, x29.Leaves, x29.Lasts, x29.Jobs, x29.Log⟩ ⟨a0.Tasks, List.replicate (a0.Tasks.length : Int).toNat (false : Bool), v28.1, [], []⟩) fun x30 => fk x30 (fk (decide (x6.2 = (0 : Int))) (bnd law17_knows fun x31 => some x31) (some false)) (some false))) FU ([], (0 : Int)))))) (fun k21 => bnd (law17_As x5.1) fun x22 => bnd (ref17_Same ⟨x22.Tasks, x22.Leaves, x22.Lasts, x22.Jobs, x22.Log⟩ ⟨x16.Tasks, w17.1, x16.Lasts, x16.Jobs, x16.Log⟩) fun x23 => fk (!x23) (k21 true) (k21 (!decide (x5.2 = w17.2))))) (fun k17 => jn (fun (w18 : Bool) => fk w18 (k17 (x16.Leaves, (1 : Int))) (ix a0.Leaves a2 fun x19 => fk x19 (k17 (x16.Leaves, (9 : Int))) (ck (decide ((([] : List Bool).length + a0.Leaves.length) * 1 ≤ 140737488355328)) (ck (decide (0 ≤ a2) && decide (a2 < ((([] : List Bool) ++ a0.Leaves).length : Int))) (ox (([] : List Bool) ++ a0.Leaves) a2.toNat fun x20 => k17 ((([] : List Bool) ++ a0.Leaves).set a2.toNat true, (0 : Int))))))) (fun k18 => fk (!x8) (k18 true) (fk (decide (a2 < (0 : Int))) (k18 true) (k18 (decide (a2 ≥ (a0.Tasks.length : Int))))))))) (fun k13 => bnd (law17_As x4.1) fun x14 => bnd (ref17_Same ⟨x14.Tasks, x14.Leaves, x14.Lasts, x14.Jobs, x14.Log⟩ ⟨w10.1, w10.2.1, w10.2.2.1, x9.Jobs, x9.Log⟩) fun x15 => fk (!x15) (k13 true) (k13 (!decide (x4.2 = w10.2.2.2))))) (fun k10 => jn (fun (w11 : Bool) => fk w11 (k10 (x9.Tasks, x9.Leaves, x9.Lasts, (1 : Int))) (fk (decide ((a0.Tasks.length : Int) > (7 : Int))) (k10 (x9.Tasks, x9.Leaves, x9.Lasts, (3 : Int))) (ck (decide ((([] : List Task).length + a0.Tasks.length) * 48 ≤ 140737488355328)) (ck (decide (((([] : List Task) ++ a0.Tasks).length + ([a1] : List Task).length) * 48 ≤ 140737488355328)) (ck (decide ((([] : List Bool).length + a0.Leaves.length) * 1 ≤ 140737488355328)) (ck (decide (((([] : List Bool) ++ a0.Leaves).length + ([false] : List Bool).length) * 1 ≤ 140737488355328)) (ck (decide ((([] : List Int).length + a0.Lasts.length) * 8 ≤ 140737488355328)) (ck (decide (((([] : List Int) ++ a0.Lasts).length + ([(-1 : Int)] : List Int).length) * 8 ≤ 140737488355328)) (k10 ((([] : List Task) ++ a0.Tasks) ++ ([a1] : List Task), (([] : List Bool) ++ a0.Leaves) ++ ([false] : List Bool), (([] : List Int) ++ a0.Lasts) ++ ([(-1 : Int)] : List Int), (0 : Int))))))))))) (fun k11 => fk (!x8) (k11 true) (bnd (ref05_Right a1) fun x12 => k11 (!x12)))))) (fun k1 => bnd (law17_Great a0) fun x2 => fk x2 (k1 true) (k1 (decide ((a1.Secs.length : Int) > (20 : Int)))))
theorem law17_PartTasks_w (a0 : PartState) (a1 : Task) (a2 : Int) (r : Bool) (h : law17_PartTasks a0 a1 a2 = some r) : Go.VC.Spec Try.prog 5 [.agg (PartState.enc a0), .agg (Task.enc a1), .d (.int .i64 a2)] (fun y => y = E_Bool r) := by
  refine Go.VC.Spec.of_xc (args := [.agg (PartState.enc a0), .agg (Task.enc a1), .d (.int .i64 a2)]) (fn := Try.f5) tab ⟨[(0, [2, 3, 4]), (1, [2, 3, 4, 26]), (2, [6]), (3, [2, 3, 4, 7, 8]), (4, [2, 3, 4, 7, 8, 9, 10]), (5, [2, 3, 4, 7, 8, 9, 10, 11, 12]), (6, [2, 3, 4, 7, 8, 9, 10, 11, 12, 13]), (7, [2, 3, 4, 7, 8, 9, 10, 11, 12, 13, 14]), (8, [2, 3, 4, 7, 8, 9, 10, 11, 12, 13, 14, 15]), (9, [2, 3, 4, 7, 8, 9, 10, 11, 12, 13, 14, 15, 57]), (10, [2, 3, 7, 8, 9, 10, 11, 12, 13, 14, 15]), (11, [2, 3, 4, 7, 8, 9, 10, 11, 12, 13, 14, 15, 61]), (12, [2, 3, 7, 8, 9, 10, 11, 12, 13, 14, 15]), (13, [2, 3, 7, 8, 9, 10, 11, 12, 13, 14, 15]), (14, [2, 3, 7, 8, 9, 10, 11, 12, 13, 14, 15]), (15, [2, 3, 7, 8, 9, 10, 11, 12, 13, 14, 15]), (16, [2, 3, 9, 10, 11, 12, 13, 14, 93]), (17, [6]), (18, [2, 3, 9, 10, 11, 12, 13, 14]), (19, [2, 3, 9, 10, 11, 12, 13, 14, 16]), (20, [2, 3, 9, 10, 11, 12, 14, 16, 108]), (21, [3, 9, 10, 11, 12, 14, 16]), (22, [2, 3, 9, 10, 11, 12, 14, 16, 113]), (23, [3, 9, 10, 11, 12, 14, 16]), (24, [2, 3, 9, 10, 11, 12, 14, 16]), (25, [3, 9, 10, 11, 12, 14, 16]), (26, [3, 11, 12, 132]), (27, [6]), (28, [3, 11, 12, 136]), (29, [6]), (30, [3, 11, 12, 17]), (31, [3, 11, 12, 17, 18]), (32, [3, 11, 12, 17, 18, 159]), (33, [3, 11, 12, 17, 18]), (34, [3, 11, 12, 17, 18]), (35, [6])], [], [100026, 100057, 100093, 100108, 100132, 26, 16], []⟩ 178 [.tmp 6] rfl rfl rfl rfl rfl rfl ?_
  conv => whnf
  refine jnS (fun w1 => ⟨[(2, .l (.d (.int .i64 a2))), (3, .l (.ptr 4 0)), (4, .l (.ptr 5 0)), (26, .l (.d (.bool w1)))], 178, [], [(4, [.d (.sl (a0.Tasks.map Task.enc)), .d (.sl (a0.Leaves.map eB)), .d (.sl (a0.Lasts.map (eI .i64))), .d (.sl (a0.Jobs.map Job.enc)), .d (.sl (a0.Log.map Entry.enc))]), (5, [.d (.int .i64 a1.C), .d (.int .i64 a1.D), .d (.int .i64 a1.T), .d (.sl (a1.Secs.map Sec.enc))])], []⟩) h (fun k1 hk1 h => ?_) (fun w1 h => ?_)
  · conv => whnf
    refine caS (E := E_Bool) h (law17_Great_w a0) rfl (fun _ => rfl) (fun x2 h => ?_)
    conv => whnf
    refine fkS h (fun h => ?_) (fun h => ?_)
    · conv => whnf
      exact jeS hk1 h (Weak.refl _)
    conv => whnf
    refine lenS a1.Secs Sec.enc rfl ?_
    conv => whnf
    exact jeS hk1 h (Weak.refl _)
  conv => whnf
  refine fkS h (fun h => ?_) (fun h => ?_)
  · conv => whnf
    refine caS (E := E_Bool) h law17_knows_w rfl (fun _ => rfl) (fun x3 h => ?_)
    conv => whnf
    exact rt (E := E_Bool) h rfl
  conv => whnf
  refine ccS (E := E_PartState_Int) h (part_Add_w a0 a1) rfl rfl (fun x4 h => ?_)
  conv => whnf
  refine ccS (E := E_PartState_Int) h (part_Leave_w a0 a2) rfl rfl (fun x5 h => ?_)
  conv => whnf
  refine ccS (E := E_PartState_Int) h (part_New_w a0.Tasks) rfl rfl (fun x6 h => ?_)
  conv => whnf
  refine ccS (E := E_Ref17State) h (law17_As_w a0) rfl rfl (fun x7 h => ?_)
  conv => whnf
  refine caS (E := E_Bool) h (ref17_Right_w ⟨x7.Tasks, x7.Leaves, x7.Lasts, x7.Jobs, x7.Log⟩) rfl (fun _ => rfl) (fun x8 h => ?_)
  conv => whnf
  refine ccS (E := E_Ref17State) h (law17_As_w a0) rfl rfl (fun x9 h => ?_)
  conv => whnf
  refine jnS (fun w10 => ⟨[(2, .l (.d (.int .i64 a2))), (3, .l (.ptr 4 0)), (7, .l (.ptr 8 0)), (8, .l (.d (.int .i64 x4.2))), (9, .l (.ptr 10 0)), (10, .l (.d (.int .i64 x5.2))), (11, .l (.ptr 12 0)), (12, .l (.d (.int .i64 x6.2))), (13, .l (.d (.bool x8))), (14, .l (.ptr 15 0)), (15, .l (.d (.int .i64 w10.2.2.2)))], 178, [], [(4, [.d (.sl (a0.Tasks.map Task.enc)), .d (.sl (a0.Leaves.map eB)), .d (.sl (a0.Lasts.map (eI .i64))), .d (.sl (a0.Jobs.map Job.enc)), .d (.sl (a0.Log.map Entry.enc))]), (8, [.d (.sl (x4.1.Tasks.map Task.enc)), .d (.sl (x4.1.Leaves.map eB)), .d (.sl (x4.1.Lasts.map (eI .i64))), .d (.sl (x4.1.Jobs.map Job.enc)), .d (.sl (x4.1.Log.map Entry.enc))]), (10, [.d (.sl (x5.1.Tasks.map Task.enc)), .d (.sl (x5.1.Leaves.map eB)), .d (.sl (x5.1.Lasts.map (eI .i64))), .d (.sl (x5.1.Jobs.map Job.enc)), .d (.sl (x5.1.Log.map Entry.enc))]), (12, [.d (.sl (x6.1.Tasks.map Task.enc)), .d (.sl (x6.1.Leaves.map eB)), .d (.sl (x6.1.Lasts.map (eI .i64))), .d (.sl (x6.1.Jobs.map Job.enc)), .d (.sl (x6.1.Log.map Entry.enc))]), (15, [.d (.sl (w10.1.map Task.enc)), .d (.sl (w10.2.1.map eB)), .d (.sl (w10.2.2.1.map (eI .i64))), .d (.sl (x9.Jobs.map Job.enc)), .d (.sl (x9.Log.map Entry.enc))])], []⟩) h (fun k10 hk10 h => ?_) (fun w10 h => ?_)
  · conv => whnf
    refine jnS (fun w11 => ⟨[(2, .l (.d (.int .i64 a2))), (3, .l (.ptr 4 0)), (4, .l (.ptr 5 0)), (7, .l (.ptr 8 0)), (8, .l (.d (.int .i64 x4.2))), (9, .l (.ptr 10 0)), (10, .l (.d (.int .i64 x5.2))), (11, .l (.ptr 12 0)), (12, .l (.d (.int .i64 x6.2))), (13, .l (.d (.bool x8))), (14, .l (.ptr 15 0)), (15, .l (.d (.int .i64 (0 : Int)))), (57, .l (.d (.bool w11)))], 178, [], [(4, [.d (.sl (a0.Tasks.map Task.enc)), .d (.sl (a0.Leaves.map eB)), .d (.sl (a0.Lasts.map (eI .i64))), .d (.sl (a0.Jobs.map Job.enc)), .d (.sl (a0.Log.map Entry.enc))]), (5, [.d (.int .i64 a1.C), .d (.int .i64 a1.D), .d (.int .i64 a1.T), .d (.sl (a1.Secs.map Sec.enc))]), (8, [.d (.sl (x4.1.Tasks.map Task.enc)), .d (.sl (x4.1.Leaves.map eB)), .d (.sl (x4.1.Lasts.map (eI .i64))), .d (.sl (x4.1.Jobs.map Job.enc)), .d (.sl (x4.1.Log.map Entry.enc))]), (10, [.d (.sl (x5.1.Tasks.map Task.enc)), .d (.sl (x5.1.Leaves.map eB)), .d (.sl (x5.1.Lasts.map (eI .i64))), .d (.sl (x5.1.Jobs.map Job.enc)), .d (.sl (x5.1.Log.map Entry.enc))]), (12, [.d (.sl (x6.1.Tasks.map Task.enc)), .d (.sl (x6.1.Leaves.map eB)), .d (.sl (x6.1.Lasts.map (eI .i64))), .d (.sl (x6.1.Jobs.map Job.enc)), .d (.sl (x6.1.Log.map Entry.enc))]), (15, [.d (.sl (x9.Tasks.map Task.enc)), .d (.sl (x9.Leaves.map eB)), .d (.sl (x9.Lasts.map (eI .i64))), .d (.sl (x9.Jobs.map Job.enc)), .d (.sl (x9.Log.map Entry.enc))])], []⟩) h (fun k11 hk11 h => ?_) (fun w11 h => ?_)
    · conv => whnf
      refine fkS h (fun h => ?_) (fun h => ?_)
      · conv => whnf
        exact jeS hk11 h (Weak.refl _)
      conv => whnf
      refine caS (E := E_Bool) h (ref05_Right_w a1) rfl (fun _ => rfl) (fun x12 h => ?_)
      conv => whnf
      exact jeS hk11 h (Weak.refl _)
    conv => whnf
    refine fkS h (fun h => ?_) (fun h => ?_)
    · conv => whnf
      exact jeS hk10 h (Weak.refl _)
    conv => whnf
    refine lenS a0.Tasks Task.enc rfl ?_
    conv => whnf
    refine fkS h (fun h => ?_) (fun h => ?_)
    · conv => whnf
      exact jeS hk10 h (Weak.refl _)
    conv => whnf
    refine ⟨6, ?_⟩
    conv => whnf
    refine liS ([] : List Task) Task.enc rfl rfl ?_
    conv => whnf
    refine apS (enc := Task.enc) (l1 := ([] : List Task)) (l2 := a0.Tasks) h rfl rfl (fun _ => rfl) (fun h => ?_)
    conv => whnf
    refine liS ([a1] : List Task) Task.enc rfl rfl ?_
    conv => whnf
    refine drS (by kernel_rfl) ?_
    conv => whnf
    refine apS (enc := Task.enc) (l1 := ([] : List Task) ++ a0.Tasks) (l2 := ([a1] : List Task)) h rfl rfl (fun _ => rfl) (fun h => ?_)
    conv => whnf
    refine liS ([] : List Bool) eB rfl rfl ?_
    conv => whnf
    refine apS (enc := eB) (l1 := ([] : List Bool)) (l2 := a0.Leaves) h rfl rfl (fun _ => rfl) (fun h => ?_)
    conv => whnf
    refine liS ([false] : List Bool) eB rfl rfl ?_
    conv => whnf
    refine apS (enc := eB) (l1 := ([] : List Bool) ++ a0.Leaves) (l2 := ([false] : List Bool)) h rfl rfl (fun _ => rfl) (fun h => ?_)
    conv => whnf
    refine liS ([] : List Int) (eI .i64) rfl rfl ?_
    conv => whnf
    refine apS (enc := (eI .i64)) (l1 := ([] : List Int)) (l2 := a0.Lasts) h rfl rfl (fun _ => rfl) (fun h => ?_)
    conv => whnf
    refine liS ([(-1 : Int)] : List Int) (eI .i64) rfl rfl ?_
    conv => whnf
    refine apS (enc := (eI .i64)) (l1 := ([] : List Int) ++ a0.Lasts) (l2 := ([(-1 : Int)] : List Int)) h rfl rfl (fun _ => rfl) (fun h => ?_)
    conv => whnf
    refine jeX hk10 h ?_
    conv => whnf
    refine WkF.step (Weak.ice _ 69) ?_
    conv => whnf
    refine WkF.step (Weak.ice _ 76) ?_
    conv => whnf
    refine WkF.step (Weak.ice _ 83) ?_
    conv => whnf
    exact WkF.refl _
  conv => whnf
  refine jnS (fun w13 => ⟨[(2, .l (.d (.int .i64 a2))), (3, .l (.ptr 4 0)), (9, .l (.ptr 10 0)), (10, .l (.d (.int .i64 x5.2))), (11, .l (.ptr 12 0)), (12, .l (.d (.int .i64 x6.2))), (13, .l (.d (.bool x8))), (14, .l (.ptr 15 0)), (93, .l (.d (.bool w13)))], 178, [], [(4, [.d (.sl (a0.Tasks.map Task.enc)), .d (.sl (a0.Leaves.map eB)), .d (.sl (a0.Lasts.map (eI .i64))), .d (.sl (a0.Jobs.map Job.enc)), .d (.sl (a0.Log.map Entry.enc))]), (10, [.d (.sl (x5.1.Tasks.map Task.enc)), .d (.sl (x5.1.Leaves.map eB)), .d (.sl (x5.1.Lasts.map (eI .i64))), .d (.sl (x5.1.Jobs.map Job.enc)), .d (.sl (x5.1.Log.map Entry.enc))]), (12, [.d (.sl (x6.1.Tasks.map Task.enc)), .d (.sl (x6.1.Leaves.map eB)), .d (.sl (x6.1.Lasts.map (eI .i64))), .d (.sl (x6.1.Jobs.map Job.enc)), .d (.sl (x6.1.Log.map Entry.enc))]), (15, [.d (.sl (w10.1.map Task.enc)), .d (.sl (w10.2.1.map eB)), .d (.sl (w10.2.2.1.map (eI .i64))), .d (.sl (x9.Jobs.map Job.enc)), .d (.sl (x9.Log.map Entry.enc))])], []⟩) h (fun k13 hk13 h => ?_) (fun w13 h => ?_)
  · conv => whnf
    refine ⟨10, ?_⟩
    conv => whnf
    refine dcS (E := E_Ref17State) h (law17_As_w x4.1) rfl (fun x14 h => ?_)
    conv => whnf
    refine daS (E := E_Bool) h (ref17_Same_w ⟨x14.Tasks, x14.Leaves, x14.Lasts, x14.Jobs, x14.Log⟩ ⟨w10.1, w10.2.1, w10.2.2.1, x9.Jobs, x9.Log⟩) (fun _ => rfl) (fun x15 h => ?_)
    conv => whnf
    refine fkS h (fun h => ?_) (fun h => ?_)
    · conv => whnf
      refine drS (by kernel_rfl) ?_
      conv => whnf
      exact jeS hk13 h (Weak.refl _)
    conv => whnf
    refine drS (by kernel_rfl) ?_
    conv => whnf
    exact jeS hk13 h (Weak.refl _)
  conv => whnf
  refine fkS h (fun h => ?_) (fun h => ?_)
  · conv => whnf
    exact rt (E := E_Bool) h rfl
  conv => whnf
  refine ccS (E := E_Ref17State) h (law17_As_w a0) rfl rfl (fun x16 h => ?_)
  conv => whnf
  refine jnS (fun w17 => ⟨[(3, .l (.ptr 4 0)), (9, .l (.ptr 10 0)), (10, .l (.d (.int .i64 x5.2))), (11, .l (.ptr 12 0)), (12, .l (.d (.int .i64 x6.2))), (14, .l (.ptr 15 0)), (16, .l (.d (.int .i64 w17.2)))], 178, [], [(4, [.d (.sl (a0.Tasks.map Task.enc)), .d (.sl (a0.Leaves.map eB)), .d (.sl (a0.Lasts.map (eI .i64))), .d (.sl (a0.Jobs.map Job.enc)), .d (.sl (a0.Log.map Entry.enc))]), (10, [.d (.sl (x5.1.Tasks.map Task.enc)), .d (.sl (x5.1.Leaves.map eB)), .d (.sl (x5.1.Lasts.map (eI .i64))), .d (.sl (x5.1.Jobs.map Job.enc)), .d (.sl (x5.1.Log.map Entry.enc))]), (12, [.d (.sl (x6.1.Tasks.map Task.enc)), .d (.sl (x6.1.Leaves.map eB)), .d (.sl (x6.1.Lasts.map (eI .i64))), .d (.sl (x6.1.Jobs.map Job.enc)), .d (.sl (x6.1.Log.map Entry.enc))]), (15, [.d (.sl (x16.Tasks.map Task.enc)), .d (.sl (w17.1.map eB)), .d (.sl (x16.Lasts.map (eI .i64))), .d (.sl (x16.Jobs.map Job.enc)), .d (.sl (x16.Log.map Entry.enc))])], []⟩) h (fun k17 hk17 h => ?_) (fun w17 h => ?_)
  · conv => whnf
    refine jnS (fun w18 => ⟨[(2, .l (.d (.int .i64 a2))), (3, .l (.ptr 4 0)), (9, .l (.ptr 10 0)), (10, .l (.d (.int .i64 x5.2))), (11, .l (.ptr 12 0)), (12, .l (.d (.int .i64 x6.2))), (14, .l (.ptr 15 0)), (16, .l (.d (.int .i64 (0 : Int)))), (108, .l (.d (.bool w18)))], 178, [], [(4, [.d (.sl (a0.Tasks.map Task.enc)), .d (.sl (a0.Leaves.map eB)), .d (.sl (a0.Lasts.map (eI .i64))), .d (.sl (a0.Jobs.map Job.enc)), .d (.sl (a0.Log.map Entry.enc))]), (10, [.d (.sl (x5.1.Tasks.map Task.enc)), .d (.sl (x5.1.Leaves.map eB)), .d (.sl (x5.1.Lasts.map (eI .i64))), .d (.sl (x5.1.Jobs.map Job.enc)), .d (.sl (x5.1.Log.map Entry.enc))]), (12, [.d (.sl (x6.1.Tasks.map Task.enc)), .d (.sl (x6.1.Leaves.map eB)), .d (.sl (x6.1.Lasts.map (eI .i64))), .d (.sl (x6.1.Jobs.map Job.enc)), .d (.sl (x6.1.Log.map Entry.enc))]), (15, [.d (.sl (x16.Tasks.map Task.enc)), .d (.sl (x16.Leaves.map eB)), .d (.sl (x16.Lasts.map (eI .i64))), .d (.sl (x16.Jobs.map Job.enc)), .d (.sl (x16.Log.map Entry.enc))])], []⟩) h (fun k18 hk18 h => ?_) (fun w18 h => ?_)
    · conv => whnf
      refine fkS h (fun h => ?_) (fun h => ?_)
      · conv => whnf
        exact jeS hk18 h (Weak.refl _)
      conv => whnf
      refine fkS h (fun h => ?_) (fun h => ?_)
      · conv => whnf
        exact jeS hk18 h (Weak.refl _)
      conv => whnf
      refine lenS a0.Tasks Task.enc rfl ?_
      conv => whnf
      exact jeS hk18 h (Weak.refl _)
    conv => whnf
    refine fkS h (fun h => ?_) (fun h => ?_)
    · conv => whnf
      exact jeS hk17 h (Weak.refl _)
    conv => whnf
    refine ixS (enc := eB) h rfl (fun _ => rfl) (fun x19 h => ?_)
    conv => whnf
    refine fkS h (fun h => ?_) (fun h => ?_)
    · conv => whnf
      exact jeS hk17 h (Weak.refl _)
    conv => whnf
    refine liS ([] : List Bool) eB rfl rfl ?_
    conv => whnf
    refine apS (enc := eB) (l1 := ([] : List Bool)) (l2 := a0.Leaves) h rfl rfl (fun _ => rfl) (fun h => ?_)
    conv => whnf
    refine ioS (enc := eB) h rfl (fun h => ?_)
    conv => whnf
    refine seS (enc := eB) h rfl (fun x20 => true) (fun _ => rfl) (fun x20 h => ?_)
    conv => whnf
    refine jeX hk17 h ?_
    conv => whnf
    refine WkF.step (Weak.ice _ 118) ?_
    conv => whnf
    exact WkF.refl _
  conv => whnf
  refine jnS (fun w21 => ⟨[(3, .l (.ptr 4 0)), (11, .l (.ptr 12 0)), (12, .l (.d (.int .i64 x6.2))), (132, .l (.d (.bool w21)))], 178, [], [(4, [.d (.sl (a0.Tasks.map Task.enc)), .d (.sl (a0.Leaves.map eB)), .d (.sl (a0.Lasts.map (eI .i64))), .d (.sl (a0.Jobs.map Job.enc)), .d (.sl (a0.Log.map Entry.enc))]), (12, [.d (.sl (x6.1.Tasks.map Task.enc)), .d (.sl (x6.1.Leaves.map eB)), .d (.sl (x6.1.Lasts.map (eI .i64))), .d (.sl (x6.1.Jobs.map Job.enc)), .d (.sl (x6.1.Log.map Entry.enc))])], []⟩) h (fun k21 hk21 h => ?_) (fun w21 h => ?_)
  · conv => whnf
    refine ⟨10, ?_⟩
    conv => whnf
    refine dcS (E := E_Ref17State) h (law17_As_w x5.1) rfl (fun x22 h => ?_)
    conv => whnf
    refine daS (E := E_Bool) h (ref17_Same_w ⟨x22.Tasks, x22.Leaves, x22.Lasts, x22.Jobs, x22.Log⟩ ⟨x16.Tasks, w17.1, x16.Lasts, x16.Jobs, x16.Log⟩) (fun _ => rfl) (fun x23 h => ?_)
    conv => whnf
    refine fkS h (fun h => ?_) (fun h => ?_)
    · conv => whnf
      refine drS (by kernel_rfl) ?_
      conv => whnf
      exact jeS hk21 h (Weak.refl _)
    conv => whnf
    refine drS (by kernel_rfl) ?_
    conv => whnf
    exact jeS hk21 h (Weak.refl _)
  conv => whnf
  refine fkS h (fun h => ?_) (fun h => ?_)
  · conv => whnf
    exact rt (E := E_Bool) h rfl
  conv => whnf
  refine caS (E := E_Bool) h (ref05_All_w a0.Tasks) rfl (fun _ => rfl) (fun x24 h => ?_)
  conv => whnf
  refine fkS h (fun h => ?_) (fun h => ?_)
  · conv => whnf
    refine ccS (E := E_Ref17State) h (law17_As_w x6.1) rfl rfl (fun x25 h => ?_)
    conv => whnf
    refine caS (E := E_Bool) h (ref17_Same_w ⟨x25.Tasks, x25.Leaves, x25.Lasts, x25.Jobs, x25.Log⟩ ⟨[], [], [], [], []⟩) rfl (fun _ => rfl) (fun x26 h => ?_)
    conv => whnf
    refine fkS h (fun h => ?_) (fun h => ?_)
    · conv => whnf
      refine fkS h (fun h => ?_) (fun h => ?_)
      · conv => whnf
        refine caS (E := E_Bool) h law17_knows_w rfl (fun _ => rfl) (fun x27 h => ?_)
        conv => whnf
        exact rt (E := E_Bool) h rfl
      conv => whnf
      exact rt (E := E_Bool) h rfl
    conv => whnf
    exact rt (E := E_Bool) h rfl
  conv => whnf
  refine ⟨8, ?_⟩
  conv => whnf
  refine lenS a0.Tasks Task.enc rfl ?_
  conv => whnf
  refine mkS (false : Bool) eB h rfl rfl (fun h => ?_)
  conv => whnf
  refine drS (by kernel_rfl) ?_
  conv => whnf
  refine lpS (fun v28 => ⟨[(3, .l (.ptr 4 0)), (11, .l (.ptr 12 0)), (12, .l (.d (.int .i64 x6.2))), (17, .l (.ptr 18 0)), (18, .l (.d (.int .i64 v28.2)))], 178, [], [(4, [.d (.sl (a0.Tasks.map Task.enc)), .d (.sl (a0.Leaves.map eB)), .d (.sl (a0.Lasts.map (eI .i64))), .d (.sl (a0.Jobs.map Job.enc)), .d (.sl (a0.Log.map Entry.enc))]), (12, [.d (.sl (x6.1.Tasks.map Task.enc)), .d (.sl (x6.1.Leaves.map eB)), .d (.sl (x6.1.Lasts.map (eI .i64))), .d (.sl (x6.1.Jobs.map Job.enc)), .d (.sl (x6.1.Log.map Entry.enc))]), (18, [.d (.sl (a0.Tasks.map Task.enc)), .own 154, .own 51802, .nil, .nil])], [(154, 4, 1, (List.replicate (a0.Tasks.length : Int).toNat (false : Bool)).map eB), (51802, 3, 1, v28.1.map (eI .i64))]⟩) h (Weak.trans (Weak.nilBO _ 18 2 51802 3 1 _ rfl rfl) (Weak.refl _)) (fun _ nx28 hn28 v28 h => ?_)
  conv => whnf
  refine lenS a0.Tasks Task.enc rfl ?_
  conv => whnf
  refine fkS h (fun h => ?_) (fun h => ?_)
  · conv => whnf
    refine liS ([(-1 : Int)] : List Int) (eI .i64) rfl rfl ?_
    conv => whnf
    refine apS (enc := (eI .i64)) (l1 := v28.1) (l2 := ([(-1 : Int)] : List Int)) h rfl rfl (fun _ => rfl) (fun h => ?_)
    conv => whnf
    refine leX hn28 h ?_
    conv => whnf
    refine WkF.step (Weak.rekey _ 166 51802 rfl) ?_
    conv => whnf
    exact WkF.refl _
  conv => whnf
  refine ⟨11, ?_⟩
  conv => whnf
  refine dcS (E := E_Ref17State) h (law17_As_w x6.1) rfl (fun x29 h => ?_)
  conv => whnf
  refine daS (E := E_Bool) h (ref17_Same_w ⟨x29.Tasks, x29.Leaves, x29.Lasts, x29.Jobs, x29.Log⟩ ⟨a0.Tasks, List.replicate (a0.Tasks.length : Int).toNat (false : Bool), v28.1, [], []⟩) (fun _ => rfl) (fun x30 h => ?_)
  conv => whnf
  refine fkS h (fun h => ?_) (fun h => ?_)
  · conv => whnf
    refine fkS h (fun h => ?_) (fun h => ?_)
    · conv => whnf
      refine daS (E := E_Bool) h law17_knows_w (fun _ => rfl) (fun x31 h => ?_)
      conv => whnf
      refine drS (by kernel_rfl) ?_
      conv => whnf
      exact rt (E := E_Bool) h rfl
    conv => whnf
    refine drS (by kernel_rfl) ?_
    conv => whnf
    exact rt (E := E_Bool) h rfl
  conv => whnf
  refine drS (by kernel_rfl) ?_
  conv => whnf
  exact rt (E := E_Bool) h rfl

end Go.Proofs.Ytakiggekallckaa
namespace Go.Proofs.Ytakiggekallckaa
open Go Go.VC
def PurePartTasks : Prop := ∀ (a0 : PartState) (a1 : Task) (a2 : Int), PartState.wf a0 → Task.wf a1 → wfI .i64 a2 → law17_PartTasks a0 a1 a2 = some true
end Go.Proofs.Ytakiggekallckaa
namespace Go.Proofs.Ytakiggekallckaa
open Go Go.VC
theorem law17_knows_eq : law17_knows = some true := by kernel_rfl
theorem proofPartTasks : PurePartTasks := by
  intro s x i hs hx hi
  have hb := StB.of hs
  have hxl : x.Secs.length ≤ 4611686018427387904 := Task.wf.len hx
  unfold law17_PartTasks
  simp only [law17_knows_eq, bnd_some]
  refine jn_to (decide (greatS s ∨ 20 < x.Secs.length)) (fun k => ?_) ?_
  · rw [bnd_eq (law17_Great_eq s hb.t)]
    by_cases hg : greatS s
    · rw [decide_eq_true hg, fk_t, decide_eq_true (Or.inl hg)]
    rw [decide_eq_false hg, fk_f]
    by_cases h2 : 20 < x.Secs.length
    · rw [decide_eq_true (by omega), decide_eq_true (Or.inr h2)]
    · rw [decide_eq_false (by omega), decide_eq_false (fun h => h.elim hg h2)]
  by_cases hg : greatS s ∨ 20 < x.Secs.length
  · rw [decide_eq_true hg, fk_t]
  have hgs : ¬ greatS s := fun h => hg (.inl h)
  have hx20 : x.Secs.length ≤ 20 := by have : ¬ 20 < x.Secs.length := fun h => hg (.inr h); omega
  have hS0 := SameB.of hb hgs
  have hgl := hgs
  unfold greatS at hgl
  rw [decide_eq_false hg, fk_f, bnd_eq (part_Add_eq s x hb), bnd_eq (part_Leave_eq s i hb), bnd_eq (part_New_eq s.Tasks hb.t hb.u), bnd_eq (law17_As_eq s), bnd_eq (ref17_Right_eq s hb), bnd_eq (law17_As_eq s)]
  -- Add
  refine jn_to ((addV s x).1.Tasks, (addV s x).1.Leaves, (addV s x).1.Lasts, (addV s x).2) (fun k => ?_) ?_
  · refine jn_to (!decide (stP s ∧ RightP x)) (fun k => ?_) ?_
    · by_cases h1 : stP s
      rotate_left
      · rw [decide_eq_false h1, Bool.not_false, fk_t, decide_eq_false (fun h => h1 h.1)]; rfl
      rw [decide_eq_true h1, Bool.not_true, fk_f, bnd_eq (ref05_Right_eq x hxl)]
      unfold right
      by_cases h2 : RightP x
      · rw [decide_eq_true h2, decide_eq_true (⟨h1, h2⟩ : stP s ∧ RightP x)]
      · rw [decide_eq_false h2, decide_eq_false (fun h => h2 h.2)]
    unfold addV
    by_cases hh : stP s ∧ RightP x
    rotate_left
    · rw [decide_eq_false hh, Bool.not_false, fk_t, if_neg hh]; rfl
    rw [decide_eq_true hh, Bool.not_true, fk_f, if_pos hh]
    by_cases h8 : s.Tasks.length < 8
    rotate_left
    · rw [decide_eq_true (by omega), fk_t, if_neg h8]; rfl
    have hLl := hh.1.1
    have hLs := hh.1.2.1.2.1
    rw [decide_eq_false (by omega), fk_f, if_pos h8, ck_t (by simp; omega), ck_t (by simp; omega), ck_t (by simp; omega), ck_t (by simp; omega), ck_t (by simp; omega), ck_t (by simp; omega)]
    rfl
  have eA : ∀ (y : PartState), y = (addV s x).1 → (⟨(addV s x).1.Tasks, (addV s x).1.Leaves, (addV s x).1.Lasts, s.Jobs, s.Log⟩ : Ref17State) = toR (addV s x).1 := by
    intro y _
    unfold addV
    split
    · split <;> rfl
    · rfl
  have hSA : SameB (toR (addV s x).1) := by
    unfold addV
    split
    rotate_left
    · exact hS0
    split
    rotate_left
    · exact hS0
    rename_i hh h8
    have hLl := hh.1.1
    have hLs := hh.1.2.1.2.1
    refine ⟨?_, fun t ht => ?_, ?_, ?_, hS0.j, hS0.g⟩
    · show (s.Tasks ++ [x]).length ≤ _; simp; omega
    · rcases List.mem_append.1 (show t ∈ s.Tasks ++ [x] from ht) with h | h
      · exact hb.u t h
      · rw [List.mem_singleton.1 h]; exact hxl
    · show (s.Leaves ++ [false]).length ≤ _; simp; omega
    · show (s.Lasts ++ [-1]).length ≤ _; simp; omega
  refine jn_to false (fun k => ?_) ?_
  · rw [bnd_eq (law17_As_eq _)]
    show bnd (ref17_Same _ (⟨(addV s x).1.Tasks, (addV s x).1.Leaves, (addV s x).1.Lasts, s.Jobs, s.Log⟩ : Ref17State)) _ = _
    rw [eA _ rfl, bnd_eq (ref17_Same_eq _ hSA), Bool.not_true, fk_f, decide_eq_true rfl]; rfl
  rw [fk_f, bnd_eq (law17_As_eq s)]
  -- Leave
  refine jn_to ((leaveV s i).1.Leaves, (leaveV s i).2) (fun k => ?_) ?_
  · refine jn_to (!decide (stP s ∧ 0 ≤ i ∧ i < (s.Tasks.length : Int))) (fun k => ?_) ?_
    · by_cases h1 : stP s
      rotate_left
      · rw [decide_eq_false h1, Bool.not_false, fk_t, decide_eq_false (fun h => h1 h.1)]; rfl
      rw [decide_eq_true h1, Bool.not_true, fk_f]
      by_cases h2 : 0 ≤ i
      rotate_left
      · rw [decide_eq_true (by omega), fk_t, decide_eq_false (fun h => h2 h.2.1)]; rfl
      rw [decide_eq_false (by omega), fk_f]
      by_cases h3 : i < (s.Tasks.length : Int)
      · rw [decide_eq_false (by omega), decide_eq_true (⟨h1, h2, h3⟩ : stP s ∧ 0 ≤ i ∧ i < (s.Tasks.length : Int))]; rfl
      · rw [decide_eq_true (by omega), decide_eq_false (fun h => h3 h.2.2)]; rfl
    unfold leaveV
    by_cases hh : stP s ∧ 0 ≤ i ∧ i < (s.Tasks.length : Int)
    rotate_left
    · rw [decide_eq_false hh, Bool.not_false, fk_t, if_neg hh]; rfl
    have hLl := hh.1.1
    have hiL : i.toNat < s.Leaves.length := by omega
    rw [decide_eq_true hh, Bool.not_true, fk_f, if_pos hh, ix_int hh.2.1 hiL]
    have eL : (s.Leaves[i.toNat]?).getD false = s.Leaves[i.toNat] := by rw [List.getElem?_eq_getElem hiL]; rfl
    rw [eL]
    cases c : s.Leaves[i.toNat] with
    | true => rw [fk_t, if_pos rfl]; rfl
    | false =>
      rw [fk_f, if_neg (by simp), ck_t (by simp; omega), List.nil_append, ck_t (by simp; omega), ox_lt hiL]
  have eL : (⟨s.Tasks, (leaveV s i).1.Leaves, s.Lasts, s.Jobs, s.Log⟩ : Ref17State) = toR (leaveV s i).1 := by
    unfold leaveV
    split
    · split <;> rfl
    · rfl
  have hSL : SameB (toR (leaveV s i).1) := by
    unfold leaveV
    split
    rotate_left
    · exact hS0
    split
    · exact hS0
    refine ⟨hS0.t, hS0.u, ?_, hS0.a, hS0.j, hS0.g⟩
    show (s.Leaves.set i.toNat true).length ≤ _
    rw [List.length_set]; omega
  refine jn_to false (fun k => ?_) ?_
  · rw [bnd_eq (law17_As_eq _)]
    show bnd (ref17_Same _ (⟨s.Tasks, (leaveV s i).1.Leaves, s.Lasts, s.Jobs, s.Log⟩ : Ref17State)) _ = _
    rw [eL, bnd_eq (ref17_Same_eq _ hSL), Bool.not_true, fk_f, decide_eq_true rfl]; rfl
  rw [fk_f, bnd_eq (ref05_All_eq s.Tasks hb.t hb.u)]
  by_cases ha : AllP s.Tasks
  rotate_left
  · rw [decide_eq_false ha, Bool.not_false, fk_t, if_neg ha, bnd_eq (law17_As_eq _)]
    show bnd (ref17_Same ⟨[], [], [], [], []⟩ ⟨[], [], [], [], []⟩) _ = _
    rw [bnd_eq (ref17_Same_eq _ ⟨by simp, by simp, by simp, by simp, by simp, by simp⟩), fk_t, decide_eq_true rfl, fk_t]
  have h8 := ha.2
  rw [decide_eq_true ha, Bool.not_true, fk_f, if_pos ha, ck_t (by simp; omega)]
  refine lp_inv (fun v => s.Tasks.length - v.2.toNat) (fun v => ∃ k : Nat, v = (List.replicate k (-1), (k : Int)) ∧ k ≤ s.Tasks.length) ?_ FU _ ⟨0, rfl, Nat.zero_le _⟩ (by unfold FU; simp only; omega)
  rintro nx v ⟨k, rfl, hk⟩ hnx
  dsimp only
  rw [lt_nat]
  by_cases hk' : k < s.Tasks.length
  · rw [decide_eq_true hk', fk_t, ck_t (by simp; omega), wr_succ k _ hk' (by omega)]
    exact hnx _ ⟨k + 1, by rw [List.replicate_succ'], hk'⟩ (by simp only [Int.toNat_natCast]; omega)
  rw [decide_eq_false hk', fk_f, show k = s.Tasks.length by omega, bnd_eq (law17_As_eq _)]
  show bnd (ref17_Same (toR (new0 s.Tasks)) (toR (new0 s.Tasks))) _ = _
  rw [bnd_eq (ref17_Same_eq _ (SameB.of_st (stB_new ha hb.u) (stP_new ha))), fk_t, decide_eq_true rfl, fk_t]
end Go.Proofs.Ytakiggekallckaa
namespace Go.Proofs.Ytakiggekallckaa.partTasks
open Go Go.VC Go.ChangeShapes Go.WideShapes Go.ChangeAt Go.RowKit
theorem own : ownKnob Try.prog.godebug = none := by kernel_rfl
theorem laidOut : laidOutB Try.prog = true := by kernel_rfl
theorem lifted (os : Os) (started : os.Started) (H : Type) (enc : TypeId × Value → H) :
    ReturnsInHanded {} Try.checked os 5 .any (Rows.partTasksSpec.pre6 enc Try.prog Try.f5 Rows.partTasksRow.domain false) (Rows.partTasksSpec.post enc Try.prog Try.f5 false true false false) := by
  refine returnsInHanded_of_change_sized (C := Try.checked) own started (by kernel_rfl) Try.func5
    (ChangeSpec.witness6 (enc := enc) (C := Try.checked) false ⟨#[], #[.agg #[.slice none 0 0, .slice none 0 0, .slice none 0 0, .slice none 0 0, .slice none 0 0], .agg #[.int .i64 0, .int .i64 0, .int .i64 0, .slice none 0 0], .int .i64 0], []⟩ 8 (by kernel_rfl) (by kernel_rfl) (by kernel_rfl) (by kernel_rfl)) ?_
  intro W base args ds gs before hval0 hW hcnd hsz0 _
  have hsz : (DataW.weightsEach Try.prog (Try.f5.params.toList ++ Rows.partTasksSpec.plain.varTypes Try.prog) (ds ++ gs)).all (· ≤ reachBytes) = true := hsz0
  have hval : ∀ (j : Nat) t v, Try.f5.params[j]? = some t → args[j]? = some v → Value.okWide Try.prog W .any base t v := hval0
  have hW' := hW
  obtain ⟨p, q, hA0, hV, rfl, hfz, hnd⟩ := hW
  have hA : DataW.TrodAll enc Try.prog W 0 (fun _ => true) true Try.f5.params.toList args.toList ds p := hA0
  rw [Try.params5] at hA hval hsz
  obtain ⟨v0, vs0, d0, ds0, p0, q0, hargs, rfl, rfl, h0, r0⟩ := trodAll_cons hA
  obtain ⟨v1, vs1, d1, ds1, p1, q1, rfl, rfl, rfl, h1, r1⟩ := trodAll_cons r0
  obtain ⟨v2, vs2, d2, ds2, p2, q2, rfl, rfl, rfl, h2, r2⟩ := trodAll_cons r1
  obtain ⟨rfl, rfl, rfl⟩ := trodAll_nil r2
  obtain rfl : args = #[v0, v1, v2] := by cases args; simp_all
  obtain ⟨rfl, rfl⟩ := trodVars_none hV
  have lt0 : ∀ x ∈ p0, x.block < W.heap.size := by obtain ⟨m, hm⟩ := h0; exact DataW.trod_lt m _ _ _ hm
  have wt0 : ∀ k ∈ d0.weights Try.prog 28, k ≤ BB := fun k hk => of_decide_eq_true (List.all_eq_true.1 hsz _ (DataW.weights_mem_each (j := 0) rfl rfl k hk))
  obtain ⟨c0, s0, g0⟩ := open_cv tab (m := 8) (t := 28) rfl (hval 0 28 v0 rfl rfl) h0 wt0
  have g0 := g0 _ T28
  obtain ⟨a0, rfl, w0⟩ := (PartState.of s0)
  have lt1 : ∀ x ∈ p1, x.block < W.heap.size := by obtain ⟨m, hm⟩ := h1; exact DataW.trod_lt m _ _ _ hm
  have wt1 : ∀ k ∈ d1.weights Try.prog 47, k ≤ BB := fun k hk => of_decide_eq_true (List.all_eq_true.1 hsz _ (DataW.weights_mem_each (j := 1) rfl rfl k hk))
  obtain ⟨c1, s1, g1⟩ := open_cv tab (m := 8) (t := 47) rfl (hval 1 47 v1 rfl rfl) h1 wt1
  have g1 := g1 _ T47
  obtain ⟨a1, rfl, w1⟩ := (Task.of s1)
  have lt2 : ∀ x ∈ p2, x.block < W.heap.size := by obtain ⟨m, hm⟩ := h2; exact DataW.trod_lt m _ _ _ hm
  have wt2 : ∀ k ∈ d2.weights Try.prog 3, k ≤ BB := fun k hk => of_decide_eq_true (List.all_eq_true.1 hsz _ (DataW.weights_mem_each (j := 2) rfl rfl k hk))
  obtain ⟨c2, s2, g2⟩ := open_cv tab (m := 8) (t := 3) rfl (hval 2 3 v2 rfl rfl) h2 wt2
  have g2 := g2 _ T3
  obtain ⟨a2, rfl, w2⟩ := (s2.i T3)
  clear hA0 hval0 hsz0 hsz
  have pure := proofPartTasks a0 a1 a2 w0 w1 w2
  refine ((law17_PartTasks_w a0 a1 a2 true pure).2 W (pw W) [v0, v1, v2] (fun _ h => h) (All2.cons g0 (All2.cons g1 (All2.cons g2 All2.nil)))).mono fun e W' ⟨v, rs, p', he, hR, hrep, bel, _⟩ => ?_
  subst hR he
  obtain rfl := RepD_bool hrep
  exact ⟨_, rfl, _, _, _, [], _, [], hW', trodAll_mk1 (shut_bool Try.underlying4 _), (trodAll_cons_mk (Below.trod laidOut (by kernel_rfl) (of_decide_eq_true (by kernel_rfl)) h0 bel lt0) (trodAll_cons_mk (Below.trod laidOut (by kernel_rfl) (of_decide_eq_true (by kernel_rfl)) h1 bel lt1) (trodAll_cons_mk (Below.trod laidOut (by kernel_rfl) (of_decide_eq_true (by kernel_rfl)) h2 bel lt2) trodAll_mk0))), rfl, bel.frame _, fun h => by cases h⟩
theorem over : Rows.partTasksRow.holds Try.pinned (OpenSpec.ofChange Rows.partTasksSpec) :=
  OpenClaim.holds_of_wide 5 Try.f5 rfl rfl rfl rfl rfl rfl rfl ⟨rfl, rfl, rfl, rfl, rfl⟩ rfl rfl rfl rfl rfl (by kernel_rfl) Try.func5 (by kernel_rfl)
    (of_decide_eq_true (by kernel_rfl)) (by unfold Func.isWrapper; first | (rw [if_pos (by decide +kernel)]; kernel_rfl) | (rw [if_neg (by decide +kernel)]; exact ⟨rfl, rfl⟩))
    (fun os started H enc _ => lifted os started H enc)
end Go.Proofs.Ytakiggekallckaa.partTasks
namespace Go.Proofs.Ytakiggekallckaa
theorem partTasks_holds : Rows.PartTasksSaid := partTasks.over
end Go.Proofs.Ytakiggekallckaa
