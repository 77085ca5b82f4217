/- It is proved that the law PartTicks returns true at every input that the row lets in; there is no condition beside the row's own. -/
import Derived.Test.YtakiggekallckaaXPartTicks3
import Derived.Test.YtakiggekallckaaXPartTicks4
import Derived.Test.YtakiggekallckaaRows
set_option linter.unusedVariables false
set_option linter.unusedSimpArgs false
set_option maxRecDepth 100000
set_option maxHeartbeats 4000000
namespace Go.Proofs.Ytakiggekallckaa
open Go Go.VC
noncomputable def law17_knows  : Option Bool :=
  bnd (part_New ([⟨(2 : Int), (4 : Int), (6 : Int), []⟩] : List Task)) fun x1 => bnd (part_Release x1.1 (0 : Int) (2 : Int) (0 : Int)) fun x2 => bnd (part_Tick x2.1 false (0 : Int)) fun x3 => bnd (part_Tick x3.1 true (1 : Int)) fun x4 => bnd (part_Tick x4.1 true (2 : Int)) fun x5 => fk (decide (x1.2 = (0 : Int))) (fk (decide (x2.2 = (0 : Int))) (fk (decide (x5.2.2 = (0 : Int))) (fk (decide (x4.2.1 = (0 : Int))) (fk (decide (x5.2.1 = (0 : Int))) (fk (decide ((x5.1.Log.length : Int) = (2 : Int))) (ix x5.1.Log (0 : Int) fun x6 => fk (eqI [.i .i64 x6.At, .i .i64 x6.Kind, .i .i64 x6.Task] [.i .i64 (0 : Int), .i .i64 (1 : Int), .i .i64 (0 : Int)]) (ix x5.1.Log (1 : Int) fun x7 => fk (eqI [.i .i64 x7.At, .i .i64 x7.Kind, .i .i64 x7.Task] [.i .i64 (2 : Int), .i .i64 (4 : Int), .i .i64 (0 : Int)]) (bnd (part_Right x5.1) fun x8 => some x8) (some false)) (some false)) (some false)) (some false)) (some false)) (some false)) (some false)) (some false)
theorem law17_knows_w  (r : Bool) (h : law17_knows = some r) : Go.VC.Spec Try.prog 14 [] (fun y => y = E_Bool r) := by
  refine Go.VC.Spec.of_xc (args := []) (fn := Try.f14) tab ⟨[(0, []), (1, [1, 2]), (2, [1, 2, 3]), (3, [1, 2, 3]), (4, [1, 2, 3, 4]), (5, [1, 2, 3, 4, 6, 7]), (6, [0])], [], [], []⟩ 81 [.tmp 0] rfl rfl rfl rfl rfl rfl ?_
  conv => whnf
  refine liS ([⟨(2 : Int), (4 : Int), (6 : Int), []⟩] : List Task) Task.enc rfl rfl ?_
  conv => whnf
  refine iceS 11 ?_
  conv => whnf
  refine ccS (E := E_PartState_Int) h (part_New_w ([⟨(2 : Int), (4 : Int), (6 : Int), []⟩] : List Task)) rfl rfl (fun x1 h => ?_)
  conv => whnf
  refine ccS (E := E_PartState_Int) h (part_Release_w x1.1 (0 : Int) (2 : Int) (0 : Int)) rfl rfl (fun x2 h => ?_)
  conv => whnf
  refine ccS (E := E_PartState_Int_Int) h (part_Tick_w x2.1 false (0 : Int)) rfl rfl (fun x3 h => ?_)
  conv => whnf
  refine ccS (E := E_PartState_Int_Int) h (part_Tick_w x3.1 true (1 : Int)) rfl rfl (fun x4 h => ?_)
  conv => whnf
  refine ccS (E := E_PartState_Int_Int) h (part_Tick_w x4.1 true (2 : Int)) rfl rfl (fun x5 h => ?_)
  conv => whnf
  refine fkS h (fun h => ?_) (fun h => ?_)
  · conv => whnf
    refine fkS h (fun h => ?_) (fun h => ?_)
    · conv => whnf
      refine fkS h (fun h => ?_) (fun h => ?_)
      · conv => whnf
        refine fkS h (fun h => ?_) (fun h => ?_)
        · conv => whnf
          refine fkS h (fun h => ?_) (fun h => ?_)
          · conv => whnf
            refine lenS x5.1.Log Entry.enc rfl ?_
            conv => whnf
            refine fkS h (fun h => ?_) (fun h => ?_)
            · conv => whnf
              refine ixS (enc := Entry.enc) h rfl (fun _ => rfl) (fun x6 h => ?_)
              conv => whnf
              refine fkS h (fun h => ?_) (fun h => ?_)
              · conv => whnf
                refine ixS (enc := Entry.enc) h rfl (fun _ => rfl) (fun x7 h => ?_)
                conv => whnf
                refine fkS h (fun h => ?_) (fun h => ?_)
                · conv => whnf
                  refine caS (E := E_Bool) h (part_Right_w x5.1) rfl (fun _ => rfl) (fun x8 h => ?_)
                  conv => whnf
                  exact rt (E := E_Bool) h rfl
                conv => whnf
                exact rt (E := E_Bool) h rfl
              conv => whnf
              exact rt (E := E_Bool) h rfl
            conv => whnf
            exact rt (E := E_Bool) h rfl
          conv => whnf
          exact rt (E := E_Bool) h rfl
        conv => whnf
        exact rt (E := E_Bool) h rfl
      conv => whnf
      exact rt (E := E_Bool) h rfl
    conv => whnf
    exact rt (E := E_Bool) h rfl
  conv => whnf
  exact rt (E := E_Bool) h rfl

end Go.Proofs.Ytakiggekallckaa
namespace Go.Proofs.Ytakiggekallckaa
open Go Go.VC
noncomputable def law17_PartTicks (a0 : PartState) (a1 : Bool) (a2 : Int) : Option Bool :=
  bnd (law17_Great a0) fun x1 => fk x1 (bnd law17_knows fun x2 => some x2) (bnd (part_Tick a0 a1 a2) fun x3 => jn (fun (w4 : Bool) => fk w4 (bnd (law17_As x3.1) fun x7 => bnd (law17_As a0) fun x8 => bnd (ref17_Same ⟨x7.Tasks, x7.Leaves, x7.Lasts, x7.Jobs, x7.Log⟩ ⟨x8.Tasks, x8.Leaves, x8.Lasts, x8.Jobs, x8.Log⟩) fun x9 => fk x9 (fk (decide (x3.2.1 = (-1 : Int))) (fk (decide (x3.2.2 = (1 : Int))) (bnd law17_knows fun x10 => some x10) (some false)) (some false)) (some false)) (bnd (law17_As a0) fun x11 => bnd (ref17_Tick ⟨x11.Tasks, x11.Leaves, x11.Lasts, x11.Jobs, x11.Log⟩ a1 a2) fun x12 => bnd (law17_As x3.1) fun x13 => bnd (ref17_Same ⟨x13.Tasks, x13.Leaves, x13.Lasts, x13.Jobs, x13.Log⟩ ⟨x12.1.Tasks, x12.1.Leaves, x12.1.Lasts, x12.1.Jobs, x12.1.Log⟩) fun x14 => fk x14 (fk (decide (x3.2.1 = x12.2)) (fk (decide (x3.2.2 = (0 : Int))) (bnd law17_knows fun x15 => some x15) (some false)) (some false)) (some false))) (fun k4 => bnd (law17_As a0) fun x5 => bnd (ref17_Right ⟨x5.Tasks, x5.Leaves, x5.Lasts, x5.Jobs, x5.Log⟩) fun x6 => fk (!x6) (k4 true) (fk (decide (a2 < (0 : Int))) (k4 true) (k4 (decide (a2 > (4611686018427387703 : Int)))))))
theorem law17_PartTicks_w (a0 : PartState) (a1 : Bool) (a2 : Int) (r : Bool) (h : law17_PartTicks a0 a1 a2 = some r) : Go.VC.Spec Try.prog 4 [.agg (PartState.enc a0), .d (.bool a1), .d (.int .i64 a2)] (fun y => y = E_Bool r) := by
  refine Go.VC.Spec.of_xc (args := [.agg (PartState.enc a0), .d (.bool a1), .d (.int .i64 a2)]) (fn := Try.f4) tab ⟨[(0, [1, 2, 3]), (1, [1, 2, 3, 13]), (2, [6]), (3, [1, 2, 3, 7, 8, 9]), (4, [1, 2, 3, 7, 8, 9, 34]), (5, [6]), (6, [7, 8, 9, 10, 11]), (7, [6])], [], [100034], []⟩ 75 [.tmp 6] rfl rfl rfl rfl rfl rfl ?_
  conv => whnf
  refine caS (E := E_Bool) h (law17_Great_w a0) rfl (fun _ => rfl) (fun x1 h => ?_)
  conv => whnf
  refine fkS h (fun h => ?_) (fun h => ?_)
  · conv => whnf
    refine caS (E := E_Bool) h law17_knows_w rfl (fun _ => rfl) (fun x2 h => ?_)
    conv => whnf
    exact rt (E := E_Bool) h rfl
  conv => whnf
  refine ccS (E := E_PartState_Int_Int) h (part_Tick_w a0 a1 a2) rfl rfl (fun x3 h => ?_)
  conv => whnf
  refine jnS (fun w4 => ⟨[(1, .l (.d (.bool a1))), (2, .l (.d (.int .i64 a2))), (3, .l (.ptr 4 0)), (7, .l (.ptr 8 0)), (8, .l (.d (.int .i64 x3.2.1))), (9, .l (.d (.int .i64 x3.2.2))), (34, .l (.d (.bool w4)))], 75, [], [(4, [.d (.sl (a0.Tasks.map Task.enc)), .d (.sl (a0.Leaves.map eB)), .d (.sl (a0.Lasts.map (eI .i64))), .d (.sl (a0.Jobs.map Job.enc)), .d (.sl (a0.Log.map Entry.enc))]), (8, [.d (.sl (x3.1.Tasks.map Task.enc)), .d (.sl (x3.1.Leaves.map eB)), .d (.sl (x3.1.Lasts.map (eI .i64))), .d (.sl (x3.1.Jobs.map Job.enc)), .d (.sl (x3.1.Log.map Entry.enc))])], []⟩) h (fun k4 hk4 h => ?_) (fun w4 h => ?_)
  · conv => whnf
    refine ccS (E := E_Ref17State) h (law17_As_w a0) rfl rfl (fun x5 h => ?_)
    conv => whnf
    refine caS (E := E_Bool) h (ref17_Right_w ⟨x5.Tasks, x5.Leaves, x5.Lasts, x5.Jobs, x5.Log⟩) rfl (fun _ => rfl) (fun x6 h => ?_)
    conv => whnf
    refine fkS h (fun h => ?_) (fun h => ?_)
    · conv => whnf
      exact jeS hk4 h (Weak.refl _)
    conv => whnf
    refine fkS h (fun h => ?_) (fun h => ?_)
    · conv => whnf
      exact jeS hk4 h (Weak.refl _)
    conv => whnf
    exact jeS hk4 h (Weak.refl _)
  conv => whnf
  refine fkS h (fun h => ?_) (fun h => ?_)
  · conv => whnf
    refine ⟨16, ?_⟩
    conv => whnf
    refine dcS (E := E_Ref17State) h (law17_As_w x3.1) rfl (fun x7 h => ?_)
    conv => whnf
    refine dcS (E := E_Ref17State) h (law17_As_w a0) rfl (fun x8 h => ?_)
    conv => whnf
    refine daS (E := E_Bool) h (ref17_Same_w ⟨x7.Tasks, x7.Leaves, x7.Lasts, x7.Jobs, x7.Log⟩ ⟨x8.Tasks, x8.Leaves, x8.Lasts, x8.Jobs, x8.Log⟩) (fun _ => rfl) (fun x9 h => ?_)
    conv => whnf
    refine fkS h (fun h => ?_) (fun h => ?_)
    · conv => whnf
      refine fkS h (fun h => ?_) (fun h => ?_)
      · conv => whnf
        refine fkS h (fun h => ?_) (fun h => ?_)
        · conv => whnf
          refine daS (E := E_Bool) h law17_knows_w (fun _ => rfl) (fun x10 h => ?_)
          conv => whnf
          refine drS (by kernel_rfl) ?_
          conv => whnf
          exact rt (E := E_Bool) h rfl
        conv => whnf
        refine drS (by kernel_rfl) ?_
        conv => whnf
        exact rt (E := E_Bool) h rfl
      conv => whnf
      refine drS (by kernel_rfl) ?_
      conv => whnf
      exact rt (E := E_Bool) h rfl
    conv => whnf
    refine drS (by kernel_rfl) ?_
    conv => whnf
    exact rt (E := E_Bool) h rfl
  conv => whnf
  refine ccS (E := E_Ref17State) h (law17_As_w a0) rfl rfl (fun x11 h => ?_)
  conv => whnf
  refine ccS (E := E_Ref17State_Int) h (ref17_Tick_w ⟨x11.Tasks, x11.Leaves, x11.Lasts, x11.Jobs, x11.Log⟩ a1 a2) rfl rfl (fun x12 h => ?_)
  conv => whnf
  refine ⟨16, ?_⟩
  conv => whnf
  refine dcS (E := E_Ref17State) h (law17_As_w x3.1) rfl (fun x13 h => ?_)
  conv => whnf
  refine daS (E := E_Bool) h (ref17_Same_w ⟨x13.Tasks, x13.Leaves, x13.Lasts, x13.Jobs, x13.Log⟩ ⟨x12.1.Tasks, x12.1.Leaves, x12.1.Lasts, x12.1.Jobs, x12.1.Log⟩) (fun _ => rfl) (fun x14 h => ?_)
  conv => whnf
  refine fkS h (fun h => ?_) (fun h => ?_)
  · conv => whnf
    refine fkS h (fun h => ?_) (fun h => ?_)
    · conv => whnf
      refine fkS h (fun h => ?_) (fun h => ?_)
      · conv => whnf
        refine daS (E := E_Bool) h law17_knows_w (fun _ => rfl) (fun x15 h => ?_)
        conv => whnf
        refine drS (by kernel_rfl) ?_
        conv => whnf
        exact rt (E := E_Bool) h rfl
      conv => whnf
      refine drS (by kernel_rfl) ?_
      conv => whnf
      exact rt (E := E_Bool) h rfl
    conv => whnf
    refine drS (by kernel_rfl) ?_
    conv => whnf
    exact rt (E := E_Bool) h rfl
  conv => whnf
  refine drS (by kernel_rfl) ?_
  conv => whnf
  exact rt (E := E_Bool) h rfl

end Go.Proofs.Ytakiggekallckaa
namespace Go.Proofs.Ytakiggekallckaa
open Go Go.VC
def PurePartTicks : Prop := ∀ (a0 : PartState) (a1 : Bool) (a2 : Int), PartState.wf a0 → wfI .i64 a2 → law17_PartTicks a0 a1 a2 = some true
end Go.Proofs.Ytakiggekallckaa
namespace Go.Proofs.Ytakiggekallckaa
open Go Go.VC
theorem law17_knows_eq : law17_knows = some true := by kernel_rfl
theorem proofPartTicks : PurePartTicks := by
  intro s g t hs ht
  have hb := StB.of hs
  unfold law17_PartTicks
  simp only [law17_knows_eq, bnd_some]
  rw [bnd_eq (law17_Great_eq s hb.t)]
  by_cases hg : greatS s
  · rw [decide_eq_true hg, fk_t]
  rw [decide_eq_false hg, fk_f, bnd_eq (part_Tick_eq s g t hb)]
  refine jn_to (!decide (stP s ∧ whenP t)) (fun k => ?_) ?_
  · rw [bnd_eq (law17_As_eq s), bnd_eq (ref17_Right_eq s hb)]
    by_cases h1 : stP s
    rotate_left
    · rw [decide_eq_false h1, Bool.not_false, fk_t, decide_eq_false (fun h => h1 h.1)]; rfl
    rw [decide_eq_true h1, Bool.not_true, fk_f]
    by_cases h2 : 0 ≤ t
    rotate_left
    · rw [decide_eq_true (by omega), fk_t, decide_eq_false (fun h => h2 h.2.1)]; rfl
    rw [decide_eq_false (by omega), fk_f]
    by_cases h3 : t ≤ 4611686018427387703
    · rw [decide_eq_false (by omega), decide_eq_true (⟨h1, h2, h3⟩ : stP s ∧ whenP t)]; rfl
    · rw [decide_eq_true (by omega), decide_eq_false (fun h => h3 h.2.2)]; rfl
  by_cases hh : stP s ∧ whenP t
  · rw [decide_eq_true hh, Bool.not_true, fk_f, if_pos hh, bnd_eq (law17_As_eq s), bnd_eq (ref17_Tick_eq s g t hb hh.1), bnd_eq (law17_As_eq _), bnd_eq (ref17_Same_eq _ (SameB.tick hb hh.1)), fk_t, decide_eq_true rfl, fk_t, decide_eq_true rfl, fk_t]
  · rw [decide_eq_false hh, Bool.not_false, fk_t, if_neg hh, bnd_eq (law17_As_eq s), bnd_eq (law17_As_eq s), bnd_eq (ref17_Same_eq _ (SameB.of hb hg)), fk_t, decide_eq_true rfl, fk_t, decide_eq_true rfl, fk_t]
end Go.Proofs.Ytakiggekallckaa
namespace Go.Proofs.Ytakiggekallckaa.partTicks
open Go Go.VC Go.ChangeShapes Go.WideShapes Go.ChangeAt Go.RowKit
theorem own : ownKnob Try.prog.godebug = none := by kernel_rfl
theorem laidOut : laidOutB Try.prog = true := by kernel_rfl
theorem lifted (os : Os) (started : os.Started) (H : Type) (enc : TypeId × Value → H) :
    ReturnsInHanded {} Try.checked os 4 .any (Rows.partTicksSpec.pre6 enc Try.prog Try.f4 Rows.partTicksRow.domain false) (Rows.partTicksSpec.post enc Try.prog Try.f4 false true false false) := by
  refine returnsInHanded_of_change_sized (C := Try.checked) own started (by kernel_rfl) Try.func4
    (ChangeSpec.witness6 (enc := enc) (C := Try.checked) false ⟨#[], #[.agg #[.slice none 0 0, .slice none 0 0, .slice none 0 0, .slice none 0 0, .slice none 0 0], .bool false, .int .i64 0], []⟩ 8 (by kernel_rfl) (by kernel_rfl) (by kernel_rfl) (by kernel_rfl)) ?_
  intro W base args ds gs before hval0 hW hcnd hsz0 _
  have hsz : (DataW.weightsEach Try.prog (Try.f4.params.toList ++ Rows.partTicksSpec.plain.varTypes Try.prog) (ds ++ gs)).all (· ≤ reachBytes) = true := hsz0
  have hval : ∀ (j : Nat) t v, Try.f4.params[j]? = some t → args[j]? = some v → Value.okWide Try.prog W .any base t v := hval0
  have hW' := hW
  obtain ⟨p, q, hA0, hV, rfl, hfz, hnd⟩ := hW
  have hA : DataW.TrodAll enc Try.prog W 0 (fun _ => true) true Try.f4.params.toList args.toList ds p := hA0
  rw [Try.params4] at hA hval hsz
  obtain ⟨v0, vs0, d0, ds0, p0, q0, hargs, rfl, rfl, h0, r0⟩ := trodAll_cons hA
  obtain ⟨v1, vs1, d1, ds1, p1, q1, rfl, rfl, rfl, h1, r1⟩ := trodAll_cons r0
  obtain ⟨v2, vs2, d2, ds2, p2, q2, rfl, rfl, rfl, h2, r2⟩ := trodAll_cons r1
  obtain ⟨rfl, rfl, rfl⟩ := trodAll_nil r2
  obtain rfl : args = #[v0, v1, v2] := by cases args; simp_all
  obtain ⟨rfl, rfl⟩ := trodVars_none hV
  have lt0 : ∀ x ∈ p0, x.block < W.heap.size := by obtain ⟨m, hm⟩ := h0; exact DataW.trod_lt m _ _ _ hm
  have wt0 : ∀ k ∈ d0.weights Try.prog 28, k ≤ BB := fun k hk => of_decide_eq_true (List.all_eq_true.1 hsz _ (DataW.weights_mem_each (j := 0) rfl rfl k hk))
  obtain ⟨c0, s0, g0⟩ := open_cv tab (m := 8) (t := 28) rfl (hval 0 28 v0 rfl rfl) h0 wt0
  have g0 := g0 _ T28
  obtain ⟨a0, rfl, w0⟩ := (PartState.of s0)
  have lt1 : ∀ x ∈ p1, x.block < W.heap.size := by obtain ⟨m, hm⟩ := h1; exact DataW.trod_lt m _ _ _ hm
  have wt1 : ∀ k ∈ d1.weights Try.prog 4, k ≤ BB := fun k hk => of_decide_eq_true (List.all_eq_true.1 hsz _ (DataW.weights_mem_each (j := 1) rfl rfl k hk))
  obtain ⟨c1, s1, g1⟩ := open_cv tab (m := 8) (t := 4) rfl (hval 1 4 v1 rfl rfl) h1 wt1
  have g1 := g1 _ T4
  obtain ⟨a1, rfl, w1⟩ := (andT (s1.b T4))
  have lt2 : ∀ x ∈ p2, x.block < W.heap.size := by obtain ⟨m, hm⟩ := h2; exact DataW.trod_lt m _ _ _ hm
  have wt2 : ∀ k ∈ d2.weights Try.prog 3, k ≤ BB := fun k hk => of_decide_eq_true (List.all_eq_true.1 hsz _ (DataW.weights_mem_each (j := 2) rfl rfl k hk))
  obtain ⟨c2, s2, g2⟩ := open_cv tab (m := 8) (t := 3) rfl (hval 2 3 v2 rfl rfl) h2 wt2
  have g2 := g2 _ T3
  obtain ⟨a2, rfl, w2⟩ := (s2.i T3)
  clear hA0 hval0 hsz0 hsz
  have pure := proofPartTicks a0 a1 a2 w0 w2
  refine ((law17_PartTicks_w a0 a1 a2 true pure).2 W (pw W) [v0, v1, v2] (fun _ h => h) (All2.cons g0 (All2.cons g1 (All2.cons g2 All2.nil)))).mono fun e W' ⟨v, rs, p', he, hR, hrep, bel, _⟩ => ?_
  subst hR he
  obtain rfl := RepD_bool hrep
  exact ⟨_, rfl, _, _, _, [], _, [], hW', trodAll_mk1 (shut_bool Try.underlying4 _), (trodAll_cons_mk (Below.trod laidOut (by kernel_rfl) (of_decide_eq_true (by kernel_rfl)) h0 bel lt0) (trodAll_cons_mk (Below.trod laidOut (by kernel_rfl) (of_decide_eq_true (by kernel_rfl)) h1 bel lt1) (trodAll_cons_mk (Below.trod laidOut (by kernel_rfl) (of_decide_eq_true (by kernel_rfl)) h2 bel lt2) trodAll_mk0))), rfl, bel.frame _, fun h => by cases h⟩
theorem over : Rows.partTicksRow.holds Try.pinned (OpenSpec.ofChange Rows.partTicksSpec) :=
  OpenClaim.holds_of_wide 4 Try.f4 rfl rfl rfl rfl rfl rfl rfl ⟨rfl, rfl, rfl, rfl, rfl⟩ rfl rfl rfl rfl rfl (by kernel_rfl) Try.func4 (by kernel_rfl)
    (of_decide_eq_true (by kernel_rfl)) (by unfold Func.isWrapper; first | (rw [if_pos (by decide +kernel)]; kernel_rfl) | (rw [if_neg (by decide +kernel)]; exact ⟨rfl, rfl⟩))
    (fun os started H enc _ => lifted os started H enc)
end Go.Proofs.Ytakiggekallckaa.partTicks
namespace Go.Proofs.Ytakiggekallckaa
theorem partTicks_holds : Rows.PartTicksSaid := partTicks.over
end Go.Proofs.Ytakiggekallckaa
