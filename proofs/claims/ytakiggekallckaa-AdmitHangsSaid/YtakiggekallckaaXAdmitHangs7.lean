/- It is proved that the law AdmitHangs returns true at every input that the row lets in; there is no condition beside the row's own. -/
import Derived.Test.YtakiggekallckaaXAdmitHangs6
import Derived.Test.YtakiggekallckaaRows
set_option linter.unusedVariables false
set_option linter.unusedSimpArgs false
set_option maxRecDepth 100000
namespace Go.Proofs.Ytakiggekallckaa
open Go Go.VC
theorem law20_knows_eq : law20_knows = some true := by kernel_rfl
theorem law20_began_eq (s : PartState) (hj : s.Jobs.length ≤ 4611686018427387904) : law20_began s = some (decide (begunP s.Jobs)) := by
  unfold law20_began
  refine lp_up s.Jobs.length (by unfold FU; omega) (fun k => ∀ i (hi : i < s.Jobs.length), i < k → s.Jobs[i].Began = false) (fun i _ h => by omega) ?_
  intro nx k hk J hnx
  rw [lt_nat]
  by_cases hk' : k < s.Jobs.length
  · rw [decide_eq_true hk', fk_t, ix_lt hk']
    cases hbk : s.Jobs[k].Began with
    | true => rw [fk_t]; exact dec_t ⟨_, List.getElem_mem hk', hbk⟩
    | false =>
      rw [fk_f, wr_succ k _ hk' hj]
      refine hnx hk' fun i hi hik => ?_
      by_cases e : i = k
      · subst e; exact hbk
      · exact J i hi (by omega)
  · rw [decide_eq_false hk', fk_f]
    refine dec_f ?_
    rintro ⟨j, hj, hbj⟩
    obtain ⟨i, hi, rfl⟩ := List.getElem_of_mem hj
    rw [J i hi (by omega)] at hbj; cases hbj
theorem proofAdmitHangs : PureAdmitHangs := by
  intro s u f x hs hu hf hx
  have hb := StB.of hs
  have hbu := StB.of hu
  have hxl : x.Secs.length ≤ 4611686018427387904 := Task.wf.len hx
  have hjl : s.Jobs.length ≤ 4611686018427387904 := by have := hs.2.2.2.1.1; unfold BB at this; omega
  have hjlu : u.Jobs.length ≤ 4611686018427387904 := by have := hu.2.2.2.1.1; unfold BB at this; omega
  have hbv : StB ⟨s.Tasks, u.Leaves, u.Lasts, u.Jobs, u.Log⟩ := ⟨hb.t, hb.u, hbu.a⟩
  unfold law20_AdmitHangs
  simp only [law20_knows_eq, bnd_some]
  refine jn_to (decide (greatS s) || (decide (greatS u) || decide ((x.Secs.length : Int) > 20))) (fun k => ?_) ?_
  · rw [bnd_eq (law17_Great_eq s hb.t)]
    by_cases h : greatS s
    · rw [decide_eq_true h, fk_t]; rfl
    rw [decide_eq_false h, fk_f, bnd_eq (law17_Great_eq u hbu.t)]
    by_cases h : greatS u
    · rw [decide_eq_true h, fk_t]; rfl
    · rw [decide_eq_false h, fk_f]; rfl
  by_cases hg : greatS s
  · rw [decide_eq_true hg, Bool.true_or, fk_t]
  rw [decide_eq_false hg, Bool.false_or]
  generalize (decide (greatS u) || decide ((x.Secs.length : Int) > 20)) = b
  cases b with
  | true => rw [fk_t]
  | false =>
  have h20 : s.Tasks.length ≤ 500 := by
    have h0 : ¬ GreatP s.Tasks := fun h => hg (.inl h)
    have : ¬ 20 < s.Tasks.length := fun h => h0 (.inr h)
    omega
  rw [fk_f]
  refine jn_to (!decide (stP s ∧ stP ⟨s.Tasks, u.Leaves, u.Lasts, u.Jobs, u.Log⟩)) (fun k => ?_) ?_
  · rw [bnd_eq (part_Right_eq s hb)]
    by_cases h1 : stP s
    rotate_left
    · rw [decide_eq_false h1, Bool.not_false, fk_t, decide_eq_false (fun h => h1 h.1)]; rfl
    rw [decide_eq_true h1, Bool.not_true, fk_f, bnd_eq (part_Right_eq _ hbv)]
    by_cases h2 : stP ⟨s.Tasks, u.Leaves, u.Lasts, u.Jobs, u.Log⟩
    · rw [decide_eq_true h2, decide_eq_true ⟨h1, h2⟩]
    · rw [decide_eq_false h2, decide_eq_false (fun h => h2 h.2)]
  have hR : ref17_Right ⟨(toR s).Tasks, (toR s).Leaves, (toR s).Lasts, (toR s).Jobs, (toR s).Log⟩ = some (decide (stP s)) := ref17_Right_eq s hb
  have hRv : ref17_Right ⟨(toR ⟨s.Tasks, u.Leaves, u.Lasts, u.Jobs, u.Log⟩).Tasks, (toR ⟨s.Tasks, u.Leaves, u.Lasts, u.Jobs, u.Log⟩).Leaves, (toR ⟨s.Tasks, u.Leaves, u.Lasts, u.Jobs, u.Log⟩).Lasts, (toR ⟨s.Tasks, u.Leaves, u.Lasts, u.Jobs, u.Log⟩).Jobs, (toR ⟨s.Tasks, u.Leaves, u.Lasts, u.Jobs, u.Log⟩).Log⟩ = some (decide (stP ⟨s.Tasks, u.Leaves, u.Lasts, u.Jobs, u.Log⟩)) := ref17_Right_eq ⟨s.Tasks, u.Leaves, u.Lasts, u.Jobs, u.Log⟩ hbv
  by_cases hh : stP s ∧ stP ⟨s.Tasks, u.Leaves, u.Lasts, u.Jobs, u.Log⟩
  rotate_left
  · rw [decide_eq_false hh, Bool.not_false, fk_t, bnd_eq (law17_As_eq s), bnd_eq hR]
    by_cases h1 : stP s
    · rw [decide_eq_true h1, Bool.not_true, fk_f, bnd_eq (law17_As_eq _), bnd_eq hRv, decide_eq_false (fun h => hh ⟨h1, h⟩), Bool.not_false, fk_t]
    · rw [decide_eq_false h1, Bool.not_false, fk_t, fk_t]
  rw [decide_eq_true hh, Bool.not_true, fk_f, bnd_eq (admit_Add_eq s f x hb (by omega) hjl), bnd_eq (admit_Add_eq ⟨s.Tasks, u.Leaves, u.Lasts, u.Jobs, u.Log⟩ f x hbv (by show s.Tasks.length ≤ _; omega) hjlu), bnd_eq (law20_began_eq s hjl), bnd_eq (law20_began_eq ⟨s.Tasks, u.Leaves, u.Lasts, u.Jobs, u.Log⟩ hjlu)]
  by_cases hbe : decide (begunP s.Jobs) = decide (begunP u.Jobs)
  rotate_left
  · rw [decide_eq_false hbe, Bool.not_false, fk_t]
  have hiff := decide_eq_decide.1 hbe
  have eE : addE ⟨s.Tasks, u.Leaves, u.Lasts, u.Jobs, u.Log⟩ f x = addE s f x := by
    by_cases c : faceP f ∧ RightP x
    · have e1 : ∀ v, stP v → addE v f x = if v.Tasks.length < 8 then (if begunP v.Jobs then 9 else fitE (v.Tasks ++ [x]) f) else 3 := fun v h => by unfold addE; rw [if_pos ⟨h, c⟩]
      rw [e1 _ hh.1, e1 _ hh.2]
      by_cases c3 : begunP s.Jobs
      · simp only [if_pos c3, if_pos (hiff.1 c3)]
      · have c4 : ¬ begunP u.Jobs := fun h => c3 (hiff.2 h)
        simp only [if_neg c3, if_neg c4]
    · have e1 : ∀ v, addE v f x = 1 := fun v => by unfold addE; rw [if_neg (fun h => c h.2)]
      rw [e1, e1]
  rw [decide_eq_true hbe, Bool.not_true, fk_f, eE]
  have hst : ∀ t ∈ s.Tasks ++ [x], t.Secs.length ≤ 4611686018427387904 := fun t ht => by
    rcases List.mem_append.1 ht with h | h
    · exact hb.u t h
    · rw [List.mem_singleton.1 h]; exact hxl
  by_cases h : addE s f x = 0
  · rw [if_pos h, if_pos h, decide_eq_true rfl, fk_t]
    show bnd (ref05_SameAll (s.Tasks ++ [x]) (s.Tasks ++ [x])) _ = _
    rw [bnd_eq (sameAll_eq _ (by simp; omega) hst), fk_t]
  · rw [if_neg h, if_neg h, decide_eq_true rfl, fk_t]
    show bnd (ref05_SameAll s.Tasks s.Tasks) _ = _
    rw [bnd_eq (sameAll_eq _ hb.t hb.u), fk_t]
end Go.Proofs.Ytakiggekallckaa
namespace Go.Proofs.Ytakiggekallckaa.admitHangs
open Go Go.VC Go.ChangeShapes Go.WideShapes Go.ChangeAt Go.RowKit
theorem own : ownKnob Try.prog.godebug = none := by kernel_rfl
theorem laidOut : laidOutB Try.prog = true := by kernel_rfl
theorem lifted (os : Os) (started : os.Started) (H : Type) (enc : TypeId × Value → H) :
    ReturnsInHanded {} Try.checked os 9 .any (Rows.admitHangsSpec.pre6 enc Try.prog Try.f9 Rows.admitHangsRow.domain false) (Rows.admitHangsSpec.post enc Try.prog Try.f9 false true false false) := by
  refine returnsInHanded_of_change_sized (C := Try.checked) own started (by kernel_rfl) Try.func9
    (ChangeSpec.witness6 (enc := enc) (C := Try.checked) false ⟨#[], #[.agg #[.slice none 0 0, .slice none 0 0, .slice none 0 0, .slice none 0 0, .slice none 0 0], .agg #[.slice none 0 0, .slice none 0 0, .slice none 0 0, .slice none 0 0, .slice none 0 0], .agg #[.int .i64 0, .int .i64 0], .agg #[.int .i64 0, .int .i64 0, .int .i64 0, .slice none 0 0]], []⟩ 8 (by kernel_rfl) (by kernel_rfl) (by kernel_rfl) (by kernel_rfl)) ?_
  intro W base args ds gs before hval0 hW hcnd hsz0 _
  have hsz : (DataW.weightsEach Try.prog (Try.f9.params.toList ++ Rows.admitHangsSpec.plain.varTypes Try.prog) (ds ++ gs)).all (· ≤ reachBytes) = true := hsz0
  have hval : ∀ (j : Nat) t v, Try.f9.params[j]? = some t → args[j]? = some v → Value.okWide Try.prog W .any base t v := hval0
  have hW' := hW
  obtain ⟨p, q, hA0, hV, rfl, hfz, hnd⟩ := hW
  have hA : DataW.TrodAll enc Try.prog W 0 (fun _ => true) true Try.f9.params.toList args.toList ds p := hA0
  rw [Try.params9] at hA hval hsz
  obtain ⟨v0, vs0, d0, ds0, p0, q0, hargs, rfl, rfl, h0, r0⟩ := trodAll_cons hA
  obtain ⟨v1, vs1, d1, ds1, p1, q1, rfl, rfl, rfl, h1, r1⟩ := trodAll_cons r0
  obtain ⟨v2, vs2, d2, ds2, p2, q2, rfl, rfl, rfl, h2, r2⟩ := trodAll_cons r1
  obtain ⟨v3, vs3, d3, ds3, p3, q3, rfl, rfl, rfl, h3, r3⟩ := trodAll_cons r2
  obtain ⟨rfl, rfl, rfl⟩ := trodAll_nil r3
  obtain rfl : args = #[v0, v1, v2, v3] := by cases args; simp_all
  obtain ⟨rfl, rfl⟩ := trodVars_none hV
  have lt0 : ∀ x ∈ p0, x.block < W.heap.size := by obtain ⟨m, hm⟩ := h0; exact DataW.trod_lt m _ _ _ hm
  have wt0 : ∀ k ∈ d0.weights Try.prog 28, k ≤ BB := fun k hk => of_decide_eq_true (List.all_eq_true.1 hsz _ (DataW.weights_mem_each (j := 0) rfl rfl k hk))
  obtain ⟨c0, s0, g0⟩ := open_cv tab (m := 8) (t := 28) rfl (hval 0 28 v0 rfl rfl) h0 wt0
  have g0 := g0 _ T28
  obtain ⟨a0, rfl, w0⟩ := (PartState.of s0)
  have lt1 : ∀ x ∈ p1, x.block < W.heap.size := by obtain ⟨m, hm⟩ := h1; exact DataW.trod_lt m _ _ _ hm
  have wt1 : ∀ k ∈ d1.weights Try.prog 28, k ≤ BB := fun k hk => of_decide_eq_true (List.all_eq_true.1 hsz _ (DataW.weights_mem_each (j := 1) rfl rfl k hk))
  obtain ⟨c1, s1, g1⟩ := open_cv tab (m := 8) (t := 28) rfl (hval 1 28 v1 rfl rfl) h1 wt1
  have g1 := g1 _ T28
  obtain ⟨a1, rfl, w1⟩ := (PartState.of s1)
  have lt2 : ∀ x ∈ p2, x.block < W.heap.size := by obtain ⟨m, hm⟩ := h2; exact DataW.trod_lt m _ _ _ hm
  have wt2 : ∀ k ∈ d2.weights Try.prog 60, k ≤ BB := fun k hk => of_decide_eq_true (List.all_eq_true.1 hsz _ (DataW.weights_mem_each (j := 2) rfl rfl k hk))
  obtain ⟨c2, s2, g2⟩ := open_cv tab (m := 8) (t := 60) rfl (hval 2 60 v2 rfl rfl) h2 wt2
  have g2 := g2 _ T60
  obtain ⟨a2, rfl, w2⟩ := (Face.of s2)
  have lt3 : ∀ x ∈ p3, x.block < W.heap.size := by obtain ⟨m, hm⟩ := h3; exact DataW.trod_lt m _ _ _ hm
  have wt3 : ∀ k ∈ d3.weights Try.prog 47, k ≤ BB := fun k hk => of_decide_eq_true (List.all_eq_true.1 hsz _ (DataW.weights_mem_each (j := 3) rfl rfl k hk))
  obtain ⟨c3, s3, g3⟩ := open_cv tab (m := 8) (t := 47) rfl (hval 3 47 v3 rfl rfl) h3 wt3
  have g3 := g3 _ T47
  obtain ⟨a3, rfl, w3⟩ := (Task.of s3)
  clear hA0 hval0 hsz0 hsz
  have pure := proofAdmitHangs a0 a1 a2 a3 w0 w1 w2 w3
  refine ((law20_AdmitHangs_w a0 a1 a2 a3 true pure).2 W (pw W) [v0, v1, v2, v3] (fun _ h => h) (All2.cons g0 (All2.cons g1 (All2.cons g2 (All2.cons g3 All2.nil))))).mono fun e W' ⟨v, rs, p', he, hR, hrep, bel, _⟩ => ?_
  subst hR he
  obtain rfl := RepD_bool hrep
  exact ⟨_, rfl, _, _, _, [], _, [], hW', trodAll_mk1 (shut_bool Try.underlying4 _), (trodAll_cons_mk (Below.trod laidOut (by kernel_rfl) (of_decide_eq_true (by kernel_rfl)) h0 bel lt0) (trodAll_cons_mk (Below.trod laidOut (by kernel_rfl) (of_decide_eq_true (by kernel_rfl)) h1 bel lt1) (trodAll_cons_mk (Below.trod laidOut (by kernel_rfl) (of_decide_eq_true (by kernel_rfl)) h2 bel lt2) (trodAll_cons_mk (Below.trod laidOut (by kernel_rfl) (of_decide_eq_true (by kernel_rfl)) h3 bel lt3) trodAll_mk0)))), rfl, bel.frame _, fun h => by cases h⟩
theorem over : Rows.admitHangsRow.holds Try.pinned (OpenSpec.ofChange Rows.admitHangsSpec) :=
  OpenClaim.holds_of_wide 9 Try.f9 rfl rfl rfl rfl rfl rfl rfl ⟨rfl, rfl, rfl, rfl, rfl⟩ rfl rfl rfl rfl rfl (by kernel_rfl) Try.func9 (by kernel_rfl)
    (of_decide_eq_true (by kernel_rfl)) (by unfold Func.isWrapper; first | (rw [if_pos (by decide +kernel)]; kernel_rfl) | (rw [if_neg (by decide +kernel)]; exact ⟨rfl, rfl⟩))
    (fun os started H enc _ => lifted os started H enc)
end Go.Proofs.Ytakiggekallckaa.admitHangs
namespace Go.Proofs.Ytakiggekallckaa
theorem admitHangs_holds : Rows.AdmitHangsSaid := admitHangs.over
end Go.Proofs.Ytakiggekallckaa
