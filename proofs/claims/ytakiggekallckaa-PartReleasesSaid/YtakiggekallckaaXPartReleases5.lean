/- It is proved that the law PartReleases returns true at every input that the row lets in; there is no condition beside the row's own. -/
import Derived.Test.YtakiggekallckaaXPartReleases3
import Derived.Test.YtakiggekallckaaXPartReleases4
import Derived.Test.YtakiggekallckaaRows
set_option linter.unusedVariables false
set_option linter.unusedSimpArgs false
set_option maxRecDepth 100000
set_option maxHeartbeats 4000000
namespace Go.Proofs.Ytakiggekallckaa
open Go Go.VC
noncomputable def law17_knows  : Option Bool :=
  bnd (part_New ([⟨(2 : Int), (4 : Int), (6 : Int), []⟩] : List Task)) fun x1 => bnd (part_Release x1.1 (0 : Int) (2 : Int) (0 : Int)) fun x2 => bnd (part_Tick x2.1 false (0 : Int)) fun x3 => bnd (part_Tick x3.1 true (1 : Int)) fun x4 => bnd (part_Tick x4.1 true (2 : Int)) fun x5 => fk (decide (x1.2 = (0 : Int))) (fk (decide (x2.2 = (0 : Int))) (fk (decide (x5.2.2 = (0 : Int))) (fk (decide (x4.2.1 = (0 : Int))) (fk (decide (x5.2.1 = (0 : Int))) (fk (decide ((x5.1.Log.length : Int) = (2 : Int))) (ix x5.1.Log (0 : Int) fun x6 => fk (eqI [.i .i64 x6.At, .i .i64 x6.Kind, .i .i64 x6.Task] [.i .i64 (0 : Int), .i .i64 (1 : Int), .i .i64 (0 : Int)]) (ix x5.1.Log (1 : Int) fun x7 => fk (eqI [.i .i64 x7.At, .i .i64 x7.Kind, .i .i64 x7.Task] [.i .i64 (2 : Int), .i .i64 (4 : Int), .i .i64 (0 : Int)]) (bnd (part_Right x5.1) fun x8 => some x8) (some false)) (some false)) (some false)) (some false)) (some false)) (some false)) (some false)) (some false)
theorem law17_knows_w  (r : Bool) (h : law17_knows = some r) : Go.VC.Spec Try.prog 14 [] (fun y => y = E_Bool r) := by
  refine Go.VC.Spec.of_xc (args := []) (fn := Try.f14) tab ⟨[(0, []), (1, [1, 2]), (2, [1, 2, 3]), (3, [1, 2, 3]), (4, [1, 2, 3, 4]), (5, [1, 2, 3, 4, 6, 7]), (6, [0])], [], [], []⟩ 81 [.tmp 0] rfl rfl rfl rfl rfl rfl ?_
  conv => whnf
  refine liS ([⟨(2 : Int), (4 : Int), (6 : Int), []⟩] : List Task) Task.enc rfl rfl ?_
  conv => whnf
  refine iceS 11 ?_
  conv => whnf
  refine ccS (E := E_PartState_Int) h (part_New_w ([⟨(2 : Int), (4 : Int), (6 : Int), []⟩] : List Task)) rfl rfl (fun x1 h => ?_)
  conv => whnf
  refine ccS (E := E_PartState_Int) h (part_Release_w x1.1 (0 : Int) (2 : Int) (0 : Int)) rfl rfl (fun x2 h => ?_)
  conv => whnf
  refine ccS (E := E_PartState_Int_Int) h (part_Tick_w x2.1 false (0 : Int)) rfl rfl (fun x3 h => ?_)
  conv => whnf
  refine ccS (E := E_PartState_Int_Int) h (part_Tick_w x3.1 true (1 : Int)) rfl rfl (fun x4 h => ?_)
  conv => whnf
  refine ccS (E := E_PartState_Int_Int) h (part_Tick_w x4.1 true (2 : Int)) rfl rfl (fun x5 h => ?_)
  conv => whnf
  refine fkS h (fun h => ?_) (fun h => ?_)
  · conv => whnf
    refine fkS h (fun h => ?_) (fun h => ?_)
    · conv => whnf
      refine fkS h (fun h => ?_) (fun h => ?_)
      · conv => whnf
        refine fkS h (fun h => ?_) (fun h => ?_)
        · conv => whnf
          refine fkS h (fun h => ?_) (fun h => ?_)
          · conv => whnf
            refine lenS x5.1.Log Entry.enc rfl ?_
            conv => whnf
            refine fkS h (fun h => ?_) (fun h => ?_)
            · conv => whnf
              refine ixS (enc := Entry.enc) h rfl (fun _ => rfl) (fun x6 h => ?_)
              conv => whnf
              refine fkS h (fun h => ?_) (fun h => ?_)
              · conv => whnf
                refine ixS (enc := Entry.enc) h rfl (fun _ => rfl) (fun x7 h => ?_)
                conv => whnf
                refine fkS h (fun h => ?_) (fun h => ?_)
                · conv => whnf
                  refine caS (E := E_Bool) h (part_Right_w x5.1) rfl (fun _ => rfl) (fun x8 h => ?_)
                  conv => whnf
                  exact rt (E := E_Bool) h rfl
                conv => whnf
                exact rt (E := E_Bool) h rfl
              conv => whnf
              exact rt (E := E_Bool) h rfl
            conv => whnf
            exact rt (E := E_Bool) h rfl
          conv => whnf
          exact rt (E := E_Bool) h rfl
        conv => whnf
        exact rt (E := E_Bool) h rfl
      conv => whnf
      exact rt (E := E_Bool) h rfl
    conv => whnf
    exact rt (E := E_Bool) h rfl
  conv => whnf
  exact rt (E := E_Bool) h rfl

end Go.Proofs.Ytakiggekallckaa
namespace Go.Proofs.Ytakiggekallckaa
open Go Go.VC
noncomputable def law17_PartReleases (a0 : PartState) (a1 : Int) (a2 : Int) (a3 : Int) : Option Bool :=
  bnd (law17_Great a0) fun x1 => fk x1 (bnd law17_knows fun x2 => some x2) (bnd (part_Release a0 a1 a2 a3) fun x3 => bnd (law17_As a0) fun x4 => bnd (ref17_Release ⟨x4.Tasks, x4.Leaves, x4.Lasts, x4.Jobs, x4.Log⟩ a1 a2 a3) fun x5 => bnd (part_Right a0) fun x6 => bnd (law17_As a0) fun x7 => bnd (ref17_Right ⟨x7.Tasks, x7.Leaves, x7.Lasts, x7.Jobs, x7.Log⟩) fun x8 => fk (decide (x6 = x8)) (bnd (law17_As x3.1) fun x9 => bnd (ref17_Same ⟨x9.Tasks, x9.Leaves, x9.Lasts, x9.Jobs, x9.Log⟩ ⟨x5.1.Tasks, x5.1.Leaves, x5.1.Lasts, x5.1.Jobs, x5.1.Log⟩) fun x10 => fk x10 (fk (decide (x3.2 = x5.2)) (bnd law17_knows fun x11 => some x11) (some false)) (some false)) (some false))
theorem law17_PartReleases_w (a0 : PartState) (a1 : Int) (a2 : Int) (a3 : Int) (r : Bool) (h : law17_PartReleases a0 a1 a2 a3 = some r) : Go.VC.Spec Try.prog 3 [.agg (PartState.enc a0), .d (.int .i64 a1), .d (.int .i64 a2), .d (.int .i64 a3)] (fun y => y = E_Bool r) := by
  refine Go.VC.Spec.of_xc (args := [.agg (PartState.enc a0), .d (.int .i64 a1), .d (.int .i64 a2), .d (.int .i64 a3)]) (fn := Try.f3) tab ⟨[(0, [1, 2, 3, 4]), (1, [1, 2, 3, 4, 14]), (2, [8]), (3, [1, 2, 3, 4, 9, 10]), (4, [4, 9, 10, 11, 12]), (5, [8])], [], [], []⟩ 53 [.tmp 8] rfl rfl rfl rfl rfl rfl ?_
  conv => whnf
  refine caS (E := E_Bool) h (law17_Great_w a0) rfl (fun _ => rfl) (fun x1 h => ?_)
  conv => whnf
  refine fkS h (fun h => ?_) (fun h => ?_)
  · conv => whnf
    refine caS (E := E_Bool) h law17_knows_w rfl (fun _ => rfl) (fun x2 h => ?_)
    conv => whnf
    exact rt (E := E_Bool) h rfl
  conv => whnf
  refine ccS (E := E_PartState_Int) h (part_Release_w a0 a1 a2 a3) rfl rfl (fun x3 h => ?_)
  conv => whnf
  refine ccS (E := E_Ref17State) h (law17_As_w a0) rfl rfl (fun x4 h => ?_)
  conv => whnf
  refine ccS (E := E_Ref17State_Int) h (ref17_Release_w ⟨x4.Tasks, x4.Leaves, x4.Lasts, x4.Jobs, x4.Log⟩ a1 a2 a3) rfl rfl (fun x5 h => ?_)
  conv => whnf
  refine ⟨20, ?_⟩
  conv => whnf
  refine daS (E := E_Bool) h (part_Right_w a0) (fun _ => rfl) (fun x6 h => ?_)
  conv => whnf
  refine dcS (E := E_Ref17State) h (law17_As_w a0) rfl (fun x7 h => ?_)
  conv => whnf
  refine daS (E := E_Bool) h (ref17_Right_w ⟨x7.Tasks, x7.Leaves, x7.Lasts, x7.Jobs, x7.Log⟩) (fun _ => rfl) (fun x8 h => ?_)
  conv => whnf
  refine fkS h (fun h => ?_) (fun h => ?_)
  · conv => whnf
    refine dcS (E := E_Ref17State) h (law17_As_w x3.1) rfl (fun x9 h => ?_)
    conv => whnf
    refine daS (E := E_Bool) h (ref17_Same_w ⟨x9.Tasks, x9.Leaves, x9.Lasts, x9.Jobs, x9.Log⟩ ⟨x5.1.Tasks, x5.1.Leaves, x5.1.Lasts, x5.1.Jobs, x5.1.Log⟩) (fun _ => rfl) (fun x10 h => ?_)
    conv => whnf
    refine fkS h (fun h => ?_) (fun h => ?_)
    · conv => whnf
      refine fkS h (fun h => ?_) (fun h => ?_)
      · conv => whnf
        refine daS (E := E_Bool) h law17_knows_w (fun _ => rfl) (fun x11 h => ?_)
        conv => whnf
        refine drS (by kernel_rfl) ?_
        conv => whnf
        exact rt (E := E_Bool) h rfl
      conv => whnf
      refine drS (by kernel_rfl) ?_
      conv => whnf
      exact rt (E := E_Bool) h rfl
    conv => whnf
    refine drS (by kernel_rfl) ?_
    conv => whnf
    exact rt (E := E_Bool) h rfl
  conv => whnf
  refine drS (by kernel_rfl) ?_
  conv => whnf
  exact rt (E := E_Bool) h rfl

end Go.Proofs.Ytakiggekallckaa
namespace Go.Proofs.Ytakiggekallckaa
open Go Go.VC
def PurePartReleases : Prop := ∀ (a0 : PartState) (a1 : Int) (a2 : Int) (a3 : Int), PartState.wf a0 → wfI .i64 a1 → wfI .i64 a2 → wfI .i64 a3 → law17_PartReleases a0 a1 a2 a3 = some true
end Go.Proofs.Ytakiggekallckaa
namespace Go.Proofs.Ytakiggekallckaa
open Go Go.VC
theorem law17_knows_eq : law17_knows = some true := by kernel_rfl
theorem proofPartReleases : PurePartReleases := by
  intro s i w t hs hi hw ht
  have hb := StB.of hs
  unfold law17_PartReleases
  simp only [law17_knows_eq, bnd_some]
  rw [bnd_eq (law17_Great_eq s hb.t)]
  by_cases hg : greatS s
  · rw [decide_eq_true hg, fk_t]
  rw [decide_eq_false hg, fk_f, bnd_eq (part_Release_eq s i w t hb), bnd_eq (law17_As_eq s), bnd_eq (ref17_Release_eq s i w t hb), bnd_eq (part_Right_eq s hb), bnd_eq (law17_As_eq s), bnd_eq (ref17_Right_eq s hb), decide_eq_true rfl, fk_t, bnd_eq (law17_As_eq _), bnd_eq (ref17_Same_eq _ (SameB.rel hb hg)), fk_t, decide_eq_true rfl, fk_t]
end Go.Proofs.Ytakiggekallckaa
namespace Go.Proofs.Ytakiggekallckaa.partReleases
open Go Go.VC Go.ChangeShapes Go.WideShapes Go.ChangeAt Go.RowKit
theorem own : ownKnob Try.prog.godebug = none := by kernel_rfl
theorem laidOut : laidOutB Try.prog = true := by kernel_rfl
theorem lifted (os : Os) (started : os.Started) (H : Type) (enc : TypeId × Value → H) :
    ReturnsInHanded {} Try.checked os 3 .any (Rows.partReleasesSpec.pre6 enc Try.prog Try.f3 Rows.partReleasesRow.domain false) (Rows.partReleasesSpec.post enc Try.prog Try.f3 false true false false) := by
  refine returnsInHanded_of_change_sized (C := Try.checked) own started (by kernel_rfl) Try.func3
    (ChangeSpec.witness6 (enc := enc) (C := Try.checked) false ⟨#[], #[.agg #[.slice none 0 0, .slice none 0 0, .slice none 0 0, .slice none 0 0, .slice none 0 0], .int .i64 0, .int .i64 0, .int .i64 0], []⟩ 8 (by kernel_rfl) (by kernel_rfl) (by kernel_rfl) (by kernel_rfl)) ?_
  intro W base args ds gs before hval0 hW hcnd hsz0 _
  have hsz : (DataW.weightsEach Try.prog (Try.f3.params.toList ++ Rows.partReleasesSpec.plain.varTypes Try.prog) (ds ++ gs)).all (· ≤ reachBytes) = true := hsz0
  have hval : ∀ (j : Nat) t v, Try.f3.params[j]? = some t → args[j]? = some v → Value.okWide Try.prog W .any base t v := hval0
  have hW' := hW
  obtain ⟨p, q, hA0, hV, rfl, hfz, hnd⟩ := hW
  have hA : DataW.TrodAll enc Try.prog W 0 (fun _ => true) true Try.f3.params.toList args.toList ds p := hA0
  rw [Try.params3] at hA hval hsz
  obtain ⟨v0, vs0, d0, ds0, p0, q0, hargs, rfl, rfl, h0, r0⟩ := trodAll_cons hA
  obtain ⟨v1, vs1, d1, ds1, p1, q1, rfl, rfl, rfl, h1, r1⟩ := trodAll_cons r0
  obtain ⟨v2, vs2, d2, ds2, p2, q2, rfl, rfl, rfl, h2, r2⟩ := trodAll_cons r1
  obtain ⟨v3, vs3, d3, ds3, p3, q3, rfl, rfl, rfl, h3, r3⟩ := trodAll_cons r2
  obtain ⟨rfl, rfl, rfl⟩ := trodAll_nil r3
  obtain rfl : args = #[v0, v1, v2, v3] := by cases args; simp_all
  obtain ⟨rfl, rfl⟩ := trodVars_none hV
  have lt0 : ∀ x ∈ p0, x.block < W.heap.size := by obtain ⟨m, hm⟩ := h0; exact DataW.trod_lt m _ _ _ hm
  have wt0 : ∀ k ∈ d0.weights Try.prog 28, k ≤ BB := fun k hk => of_decide_eq_true (List.all_eq_true.1 hsz _ (DataW.weights_mem_each (j := 0) rfl rfl k hk))
  obtain ⟨c0, s0, g0⟩ := open_cv tab (m := 8) (t := 28) rfl (hval 0 28 v0 rfl rfl) h0 wt0
  have g0 := g0 _ T28
  obtain ⟨a0, rfl, w0⟩ := (PartState.of s0)
  have lt1 : ∀ x ∈ p1, x.block < W.heap.size := by obtain ⟨m, hm⟩ := h1; exact DataW.trod_lt m _ _ _ hm
  have wt1 : ∀ k ∈ d1.weights Try.prog 3, k ≤ BB := fun k hk => of_decide_eq_true (List.all_eq_true.1 hsz _ (DataW.weights_mem_each (j := 1) rfl rfl k hk))
  obtain ⟨c1, s1, g1⟩ := open_cv tab (m := 8) (t := 3) rfl (hval 1 3 v1 rfl rfl) h1 wt1
  have g1 := g1 _ T3
  obtain ⟨a1, rfl, w1⟩ := (s1.i T3)
  have lt2 : ∀ x ∈ p2, x.block < W.heap.size := by obtain ⟨m, hm⟩ := h2; exact DataW.trod_lt m _ _ _ hm
  have wt2 : ∀ k ∈ d2.weights Try.prog 3, k ≤ BB := fun k hk => of_decide_eq_true (List.all_eq_true.1 hsz _ (DataW.weights_mem_each (j := 2) rfl rfl k hk))
  obtain ⟨c2, s2, g2⟩ := open_cv tab (m := 8) (t := 3) rfl (hval 2 3 v2 rfl rfl) h2 wt2
  have g2 := g2 _ T3
  obtain ⟨a2, rfl, w2⟩ := (s2.i T3)
  have lt3 : ∀ x ∈ p3, x.block < W.heap.size := by obtain ⟨m, hm⟩ := h3; exact DataW.trod_lt m _ _ _ hm
  have wt3 : ∀ k ∈ d3.weights Try.prog 3, k ≤ BB := fun k hk => of_decide_eq_true (List.all_eq_true.1 hsz _ (DataW.weights_mem_each (j := 3) rfl rfl k hk))
  obtain ⟨c3, s3, g3⟩ := open_cv tab (m := 8) (t := 3) rfl (hval 3 3 v3 rfl rfl) h3 wt3
  have g3 := g3 _ T3
  obtain ⟨a3, rfl, w3⟩ := (s3.i T3)
  clear hA0 hval0 hsz0 hsz
  have pure := proofPartReleases a0 a1 a2 a3 w0 w1 w2 w3
  refine ((law17_PartReleases_w a0 a1 a2 a3 true pure).2 W (pw W) [v0, v1, v2, v3] (fun _ h => h) (All2.cons g0 (All2.cons g1 (All2.cons g2 (All2.cons g3 All2.nil))))).mono fun e W' ⟨v, rs, p', he, hR, hrep, bel, _⟩ => ?_
  subst hR he
  obtain rfl := RepD_bool hrep
  exact ⟨_, rfl, _, _, _, [], _, [], hW', trodAll_mk1 (shut_bool Try.underlying4 _), (trodAll_cons_mk (Below.trod laidOut (by kernel_rfl) (of_decide_eq_true (by kernel_rfl)) h0 bel lt0) (trodAll_cons_mk (Below.trod laidOut (by kernel_rfl) (of_decide_eq_true (by kernel_rfl)) h1 bel lt1) (trodAll_cons_mk (Below.trod laidOut (by kernel_rfl) (of_decide_eq_true (by kernel_rfl)) h2 bel lt2) (trodAll_cons_mk (Below.trod laidOut (by kernel_rfl) (of_decide_eq_true (by kernel_rfl)) h3 bel lt3) trodAll_mk0)))), rfl, bel.frame _, fun h => by cases h⟩
theorem over : Rows.partReleasesRow.holds Try.pinned (OpenSpec.ofChange Rows.partReleasesSpec) :=
  OpenClaim.holds_of_wide 3 Try.f3 rfl rfl rfl rfl rfl rfl rfl ⟨rfl, rfl, rfl, rfl, rfl⟩ rfl rfl rfl rfl rfl (by kernel_rfl) Try.func3 (by kernel_rfl)
    (of_decide_eq_true (by kernel_rfl)) (by unfold Func.isWrapper; first | (rw [if_pos (by decide +kernel)]; kernel_rfl) | (rw [if_neg (by decide +kernel)]; exact ⟨rfl, rfl⟩))
    (fun os started H enc _ => lifted os started H enc)
end Go.Proofs.Ytakiggekallckaa.partReleases
namespace Go.Proofs.Ytakiggekallckaa
theorem partReleases_holds : Rows.PartReleasesSaid := partReleases.over
end Go.Proofs.Ytakiggekallckaa
