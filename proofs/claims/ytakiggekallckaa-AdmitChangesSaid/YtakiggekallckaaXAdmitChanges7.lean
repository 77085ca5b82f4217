/- It is proved that the law AdmitChanges returns true at every input that the row lets in; there is no condition beside the row's own. -/
import Derived.Test.YtakiggekallckaaXAdmitChanges6
import Derived.Test.YtakiggekallckaaRows
set_option linter.unusedVariables false
set_option linter.unusedSimpArgs false
set_option maxRecDepth 100000
namespace Go.Proofs.Ytakiggekallckaa
open Go Go.VC
theorem law20_knows_eq : law20_knows = some true := by kernel_rfl
theorem SameB.plus {s : PartState} {x : Task} (h : SameB (toR s)) (h1 : s.Tasks.length ≤ 500) (h2 : s.Leaves.length ≤ 500) (h3 : s.Lasts.length ≤ 500) (hx : x.Secs.length ≤ 4611686018427387904) : SameB (toR (plus s x)) := by
  refine ⟨?_, fun t ht => ?_, ?_, ?_, h.j, h.g⟩
  · show (s.Tasks ++ [x]).length ≤ _; simp; omega
  · rcases List.mem_append.1 (show t ∈ s.Tasks ++ [x] from ht) with h' | h'
    · exact h.u t h'
    · rw [List.mem_singleton.1 h']; exact hx
  · show (s.Leaves ++ [false]).length ≤ _; simp; omega
  · show (s.Lasts ++ [-1]).length ≤ _; simp; omega
theorem admit_Drop_eq (s : PartState) (i : Int) (hb : StB s) : admit_Drop s i = some (leaveV s i) := by
  unfold admit_Drop
  rw [bnd_eq (part_Leave_eq s i hb)]
theorem leave_zero {s : PartState} {i : Int} (h : (leaveV s i).2 = 0) : stP s ∧ (leaveV s i).1 = ⟨s.Tasks, s.Leaves.set i.toNat true, s.Lasts, s.Jobs, s.Log⟩ := by
  unfold leaveV at h ⊢
  split at h
  · rename_i h1
    split at h
    · exact absurd h (by simp)
    · rename_i h2
      rw [if_pos h1, if_neg h2]
      exact ⟨h1.1, rfl⟩
  · exact absurd h (by simp)
theorem proofAdmitChanges : PureAdmitChanges := by
  intro s f i x hs hf hi hx
  have hb := StB.of hs
  have hxl : x.Secs.length ≤ 4611686018427387904 := Task.wf.len hx
  have hjl : s.Jobs.length ≤ 4611686018427387904 := by have := hs.2.2.2.1.1; unfold BB at this; omega
  have hbig : s.Tasks.length * 48 ≤ 140737488355328 := by have := hs.1.1; unfold BB at this; omega
  unfold law20_AdmitChanges
  simp only [law20_knows_eq, bnd_some]
  have hal : (s.Tasks ++ [x]).length ≤ 4611686018427387904 := by simp; omega
  have has : ∀ t ∈ s.Tasks ++ [x], t.Secs.length ≤ 4611686018427387904 := fun t ht => by
    rcases List.mem_append.1 ht with h | h
    · exact hb.u t h
    · rw [List.mem_singleton.1 h]; exact hxl
  have hbig2 : (s.Tasks.length + 1) * 48 ≤ 140737488355328 := by have := hs.1.1; unfold BB at this; omega
  rw [ck_t (by simp; omega), ck_t (by simp; omega), List.nil_append]
  refine jn_to (decide (greatS s) || (decide (GreatP (s.Tasks ++ [x])) || decide ((cycV (s.Tasks ++ [x]) f).2.1 > 300))) (fun k => ?_) ?_
  · rw [bnd_eq (law17_Great_eq s hb.t)]
    by_cases h : greatS s
    · rw [decide_eq_true h, fk_t]; rfl
    rw [decide_eq_false h, fk_f, bnd_eq (law05_Great_eq _ hal)]
    by_cases h : GreatP (s.Tasks ++ [x])
    · rw [decide_eq_true h, fk_t]; rfl
    · rw [decide_eq_false h, fk_f, bnd_eq (law20_far_ex _ _ hal has)]; rfl
  by_cases hg : greatS s
  · rw [decide_eq_true hg, Bool.true_or, fk_t]
  rw [decide_eq_false hg, Bool.false_or]
  generalize (decide (GreatP (s.Tasks ++ [x])) || decide ((cycV (s.Tasks ++ [x]) f).2.1 > 300)) = b
  cases b with
  | true => rw [fk_t]
  | false =>
  have hS := SameB.of hb hg
  have h20 : s.Tasks.length ≤ 500 := by
    have h0 : ¬ GreatP s.Tasks := fun h => hg (.inl h)
    have : ¬ 20 < s.Tasks.length := fun h => h0 (.inr h)
    omega
  have hL50 : s.Leaves.length ≤ 500 := by have : ¬ 50 < s.Leaves.length := fun h => hg (.inr (.inl h)); omega
  have hA50 : s.Lasts.length ≤ 500 := by have : ¬ 50 < s.Lasts.length := fun h => hg (.inr (.inr (.inl h))); omega
  have hSL : SameB (toR (leaveV s i).1) := by
    unfold leaveV
    split
    · split
      · exact hS
      · refine ⟨hS.t, hS.u, ?_, hS.a, hS.j, hS.g⟩
        show (s.Leaves.set i.toNat true).length ≤ _
        rw [List.length_set]; exact hS.l
    · exact hS
  have hR : ref20_Add ⟨(toR s).Tasks, (toR s).Leaves, (toR s).Lasts, (toR s).Jobs, (toR s).Log⟩ f x = some (addE s f x) := ref20_Add_eq s f x hb (by omega) hjl hxl
  have chg : admit_Change s f i x = some (if (leaveV s i).2 = 0 then (if addE s f x = 0 then (plus (leaveV s i).1 x, 0) else (s, addE s f x)) else (s, (leaveV s i).2)) := by
    unfold admit_Change
    rw [bnd_eq (admit_Drop_eq s i hb)]
    by_cases h : (leaveV s i).2 = 0
    rotate_left
    · rw [decide_eq_false h, Bool.not_false, fk_t, if_neg h]
    obtain ⟨h1, h2⟩ := leave_zero h
    have hst : stP (leaveV s i).1 := by rw [h2]; exact ⟨by show (s.Leaves.set _ _).length = _; rw [List.length_set]; exact h1.1, h1.2⟩
    have hE : addE (leaveV s i).1 f x = addE s f x := by
      rw [h2] at hst ⊢
      unfold addE
      by_cases c : faceP f ∧ RightP x
      · rw [if_pos (⟨hst, c⟩ : stP (⟨s.Tasks, s.Leaves.set i.toNat true, s.Lasts, s.Jobs, s.Log⟩ : PartState) ∧ faceP f ∧ RightP x), if_pos (⟨h1, c⟩ : stP s ∧ faceP f ∧ RightP x)]
      · rw [if_neg (fun h => c h.2), if_neg (fun h => c h.2)]
    have hb' : StB (leaveV s i).1 := StB.of_st hst
    have ht : (leaveV s i).1.Tasks = s.Tasks := by rw [h2]
    have hj : (leaveV s i).1.Jobs = s.Jobs := by rw [h2]
    rw [decide_eq_true h, Bool.not_true, fk_f, if_pos h, bnd_eq (admit_Add_eq (leaveV s i).1 f x hb' (by rw [ht]; omega) (by rw [hj]; exact hjl)), hE]
    by_cases h3 : addE s f x = 0
    · rw [if_pos h3, if_pos h3, decide_eq_true rfl, Bool.not_true, fk_f]
    · rw [if_neg h3, if_neg h3, decide_eq_false h3, Bool.not_false, fk_t]
  rw [fk_f, bnd_eq (admit_Drop_eq s i hb), bnd_eq (part_Leave_eq s i hb), bnd_eq chg]
  refine jn_to false (fun k => ?_) ?_
  · rw [bnd_eq (law17_As_eq _), bnd_eq (law17_As_eq _)]
    show bnd (ref17_Same (toR (leaveV s i).1) (toR (leaveV s i).1)) _ = _
    rw [bnd_eq (ref17_Same_eq _ hSL), Bool.not_true, fk_f, decide_eq_true rfl]; rfl
  rw [fk_f]
  by_cases h : (leaveV s i).2 = 0
  rotate_left
  · rw [decide_eq_false h, Bool.not_false, fk_t, if_neg h, bnd_eq (law17_As_eq _), bnd_eq (law17_As_eq _)]
    show bnd (ref17_Same (toR s) (toR s)) _ = _
    rw [bnd_eq (ref17_Same_eq _ hS), fk_t, decide_eq_true rfl, fk_t]
  obtain ⟨h1, h2⟩ := leave_zero h
  rw [decide_eq_true h, Bool.not_true, fk_f, if_pos h, bnd_eq (law17_As_eq _), bnd_eq hR]
  by_cases h3 : addE s f x = 0
  · obtain ⟨a1, a2, a3, _⟩ := addE_zero h3
    have hst : stP (leaveV s i).1 := by rw [h2]; exact ⟨by show (s.Leaves.set _ _).length = _; rw [List.length_set]; exact h1.1, h1.2⟩
    have ht : (leaveV s i).1.Tasks = s.Tasks := by rw [h2]
    have eA : part_Add (leaveV s i).1 x = some (plus (leaveV s i).1 x, 0) := by
      rw [part_Add_eq _ x (StB.of_st hst)]; unfold addV; rw [if_pos ⟨hst, a2⟩, if_pos (by rw [ht]; exact a3)]
    have hl2 : (leaveV s i).1.Leaves.length ≤ 500 := by rw [h2]; show (s.Leaves.set _ _).length ≤ _; rw [List.length_set]; exact hL50
    have hl3 : (leaveV s i).1.Lasts.length ≤ 500 := by rw [h2]; exact hA50
    rw [decide_eq_true h3, Bool.not_true, fk_f, if_pos h3, bnd_eq eA, bnd_eq (law17_As_eq _), bnd_eq (law17_As_eq _)]
    show bnd (ref17_Same (toR (plus (leaveV s i).1 x)) (toR (plus (leaveV s i).1 x))) _ = _
    rw [bnd_eq (ref17_Same_eq _ (SameB.plus hSL (by rw [ht]; exact h20) hl2 hl3 hxl)), fk_t, decide_eq_true rfl, fk_t, fk_t]
  · rw [decide_eq_false h3, Bool.not_false, fk_t, if_neg h3, bnd_eq (law17_As_eq _), bnd_eq (law17_As_eq _)]
    show bnd (ref17_Same (toR s) (toR s)) _ = _
    rw [bnd_eq (ref17_Same_eq _ hS), fk_t, decide_eq_true rfl, fk_t]
end Go.Proofs.Ytakiggekallckaa
namespace Go.Proofs.Ytakiggekallckaa.admitChanges
open Go Go.VC Go.ChangeShapes Go.WideShapes Go.ChangeAt Go.RowKit
theorem own : ownKnob Try.prog.godebug = none := by kernel_rfl
theorem laidOut : laidOutB Try.prog = true := by kernel_rfl
theorem lifted (os : Os) (started : os.Started) (H : Type) (enc : TypeId × Value → H) :
    ReturnsInHanded {} Try.checked os 10 .any (Rows.admitChangesSpec.pre6 enc Try.prog Try.f10 Rows.admitChangesRow.domain false) (Rows.admitChangesSpec.post enc Try.prog Try.f10 false true false false) := by
  refine returnsInHanded_of_change_sized (C := Try.checked) own started (by kernel_rfl) Try.func10
    (ChangeSpec.witness6 (enc := enc) (C := Try.checked) false ⟨#[], #[.agg #[.slice none 0 0, .slice none 0 0, .slice none 0 0, .slice none 0 0, .slice none 0 0], .agg #[.int .i64 0, .int .i64 0], .int .i64 0, .agg #[.int .i64 0, .int .i64 0, .int .i64 0, .slice none 0 0]], []⟩ 8 (by kernel_rfl) (by kernel_rfl) (by kernel_rfl) (by kernel_rfl)) ?_
  intro W base args ds gs before hval0 hW hcnd hsz0 _
  have hsz : (DataW.weightsEach Try.prog (Try.f10.params.toList ++ Rows.admitChangesSpec.plain.varTypes Try.prog) (ds ++ gs)).all (· ≤ reachBytes) = true := hsz0
  have hval : ∀ (j : Nat) t v, Try.f10.params[j]? = some t → args[j]? = some v → Value.okWide Try.prog W .any base t v := hval0
  have hW' := hW
  obtain ⟨p, q, hA0, hV, rfl, hfz, hnd⟩ := hW
  have hA : DataW.TrodAll enc Try.prog W 0 (fun _ => true) true Try.f10.params.toList args.toList ds p := hA0
  rw [Try.params10] at hA hval hsz
  obtain ⟨v0, vs0, d0, ds0, p0, q0, hargs, rfl, rfl, h0, r0⟩ := trodAll_cons hA
  obtain ⟨v1, vs1, d1, ds1, p1, q1, rfl, rfl, rfl, h1, r1⟩ := trodAll_cons r0
  obtain ⟨v2, vs2, d2, ds2, p2, q2, rfl, rfl, rfl, h2, r2⟩ := trodAll_cons r1
  obtain ⟨v3, vs3, d3, ds3, p3, q3, rfl, rfl, rfl, h3, r3⟩ := trodAll_cons r2
  obtain ⟨rfl, rfl, rfl⟩ := trodAll_nil r3
  obtain rfl : args = #[v0, v1, v2, v3] := by cases args; simp_all
  obtain ⟨rfl, rfl⟩ := trodVars_none hV
  have lt0 : ∀ x ∈ p0, x.block < W.heap.size := by obtain ⟨m, hm⟩ := h0; exact DataW.trod_lt m _ _ _ hm
  have wt0 : ∀ k ∈ d0.weights Try.prog 28, k ≤ BB := fun k hk => of_decide_eq_true (List.all_eq_true.1 hsz _ (DataW.weights_mem_each (j := 0) rfl rfl k hk))
  obtain ⟨c0, s0, g0⟩ := open_cv tab (m := 8) (t := 28) rfl (hval 0 28 v0 rfl rfl) h0 wt0
  have g0 := g0 _ T28
  obtain ⟨a0, rfl, w0⟩ := (PartState.of s0)
  have lt1 : ∀ x ∈ p1, x.block < W.heap.size := by obtain ⟨m, hm⟩ := h1; exact DataW.trod_lt m _ _ _ hm
  have wt1 : ∀ k ∈ d1.weights Try.prog 60, k ≤ BB := fun k hk => of_decide_eq_true (List.all_eq_true.1 hsz _ (DataW.weights_mem_each (j := 1) rfl rfl k hk))
  obtain ⟨c1, s1, g1⟩ := open_cv tab (m := 8) (t := 60) rfl (hval 1 60 v1 rfl rfl) h1 wt1
  have g1 := g1 _ T60
  obtain ⟨a1, rfl, w1⟩ := (Face.of s1)
  have lt2 : ∀ x ∈ p2, x.block < W.heap.size := by obtain ⟨m, hm⟩ := h2; exact DataW.trod_lt m _ _ _ hm
  have wt2 : ∀ k ∈ d2.weights Try.prog 3, k ≤ BB := fun k hk => of_decide_eq_true (List.all_eq_true.1 hsz _ (DataW.weights_mem_each (j := 2) rfl rfl k hk))
  obtain ⟨c2, s2, g2⟩ := open_cv tab (m := 8) (t := 3) rfl (hval 2 3 v2 rfl rfl) h2 wt2
  have g2 := g2 _ T3
  obtain ⟨a2, rfl, w2⟩ := (s2.i T3)
  have lt3 : ∀ x ∈ p3, x.block < W.heap.size := by obtain ⟨m, hm⟩ := h3; exact DataW.trod_lt m _ _ _ hm
  have wt3 : ∀ k ∈ d3.weights Try.prog 47, k ≤ BB := fun k hk => of_decide_eq_true (List.all_eq_true.1 hsz _ (DataW.weights_mem_each (j := 3) rfl rfl k hk))
  obtain ⟨c3, s3, g3⟩ := open_cv tab (m := 8) (t := 47) rfl (hval 3 47 v3 rfl rfl) h3 wt3
  have g3 := g3 _ T47
  obtain ⟨a3, rfl, w3⟩ := (Task.of s3)
  clear hA0 hval0 hsz0 hsz
  have pure := proofAdmitChanges a0 a1 a2 a3 w0 w1 w2 w3
  refine ((law20_AdmitChanges_w a0 a1 a2 a3 true pure).2 W (pw W) [v0, v1, v2, v3] (fun _ h => h) (All2.cons g0 (All2.cons g1 (All2.cons g2 (All2.cons g3 All2.nil))))).mono fun e W' ⟨v, rs, p', he, hR, hrep, bel, _⟩ => ?_
  subst hR he
  obtain rfl := RepD_bool hrep
  exact ⟨_, rfl, _, _, _, [], _, [], hW', trodAll_mk1 (shut_bool Try.underlying4 _), (trodAll_cons_mk (Below.trod laidOut (by kernel_rfl) (of_decide_eq_true (by kernel_rfl)) h0 bel lt0) (trodAll_cons_mk (Below.trod laidOut (by kernel_rfl) (of_decide_eq_true (by kernel_rfl)) h1 bel lt1) (trodAll_cons_mk (Below.trod laidOut (by kernel_rfl) (of_decide_eq_true (by kernel_rfl)) h2 bel lt2) (trodAll_cons_mk (Below.trod laidOut (by kernel_rfl) (of_decide_eq_true (by kernel_rfl)) h3 bel lt3) trodAll_mk0)))), rfl, bel.frame _, fun h => by cases h⟩
theorem over : Rows.admitChangesRow.holds Try.pinned (OpenSpec.ofChange Rows.admitChangesSpec) :=
  OpenClaim.holds_of_wide 10 Try.f10 rfl rfl rfl rfl rfl rfl rfl ⟨rfl, rfl, rfl, rfl, rfl⟩ rfl rfl rfl rfl rfl (by kernel_rfl) Try.func10 (by kernel_rfl)
    (of_decide_eq_true (by kernel_rfl)) (by unfold Func.isWrapper; first | (rw [if_pos (by decide +kernel)]; kernel_rfl) | (rw [if_neg (by decide +kernel)]; exact ⟨rfl, rfl⟩))
    (fun os started H enc _ => lifted os started H enc)
end Go.Proofs.Ytakiggekallckaa.admitChanges
namespace Go.Proofs.Ytakiggekallckaa
theorem admitChanges_holds : Rows.AdmitChangesSaid := admitChanges.over
end Go.Proofs.Ytakiggekallckaa
