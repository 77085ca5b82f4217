/- It is proved that the law AdmitAdds returns true at every input that the row lets in; there is no condition beside the row's own. -/
import Derived.Test.YtakiggekallckaaRows
import Derived.Test.YtakiggekallckaaXAdmitAdds6
set_option linter.unusedVariables false
set_option linter.unusedSimpArgs false
set_option maxRecDepth 100000
namespace Go.Proofs.Ytakiggekallckaa.admitAdds
open Go Go.VC Go.ChangeShapes Go.WideShapes Go.ChangeAt Go.RowKit
theorem own : ownKnob Try.prog.godebug = none := by kernel_rfl
theorem laidOut : laidOutB Try.prog = true := by kernel_rfl
theorem lifted (os : Os) (started : os.Started) (H : Type) (enc : TypeId × Value → H) :
    ReturnsInHanded {} Try.checked os 8 .any (Rows.admitAddsSpec.pre6 enc Try.prog Try.f8 Rows.admitAddsRow.domain false) (Rows.admitAddsSpec.post enc Try.prog Try.f8 false true false false) := by
  refine returnsInHanded_of_change_sized (C := Try.checked) own started (by kernel_rfl) Try.func8
    (ChangeSpec.witness6 (enc := enc) (C := Try.checked) false ⟨#[], #[.agg #[.slice none 0 0, .slice none 0 0, .slice none 0 0, .slice none 0 0, .slice none 0 0], .agg #[.int .i64 0, .int .i64 0], .agg #[.int .i64 0, .int .i64 0, .int .i64 0, .slice none 0 0]], []⟩ 8 (by kernel_rfl) (by kernel_rfl) (by kernel_rfl) (by kernel_rfl)) ?_
  intro W base args ds gs before hval0 hW hcnd hsz0 _
  have hsz : (DataW.weightsEach Try.prog (Try.f8.params.toList ++ Rows.admitAddsSpec.plain.varTypes Try.prog) (ds ++ gs)).all (· ≤ reachBytes) = true := hsz0
  have hval : ∀ (j : Nat) t v, Try.f8.params[j]? = some t → args[j]? = some v → Value.okWide Try.prog W .any base t v := hval0
  have hW' := hW
  obtain ⟨p, q, hA0, hV, rfl, hfz, hnd⟩ := hW
  have hA : DataW.TrodAll enc Try.prog W 0 (fun _ => true) true Try.f8.params.toList args.toList ds p := hA0
  rw [Try.params8] at hA hval hsz
  obtain ⟨v0, vs0, d0, ds0, p0, q0, hargs, rfl, rfl, h0, r0⟩ := trodAll_cons hA
  obtain ⟨v1, vs1, d1, ds1, p1, q1, rfl, rfl, rfl, h1, r1⟩ := trodAll_cons r0
  obtain ⟨v2, vs2, d2, ds2, p2, q2, rfl, rfl, rfl, h2, r2⟩ := trodAll_cons r1
  obtain ⟨rfl, rfl, rfl⟩ := trodAll_nil r2
  obtain rfl : args = #[v0, v1, v2] := by cases args; simp_all
  obtain ⟨rfl, rfl⟩ := trodVars_none hV
  have lt0 : ∀ x ∈ p0, x.block < W.heap.size := by obtain ⟨m, hm⟩ := h0; exact DataW.trod_lt m _ _ _ hm
  have wt0 : ∀ k ∈ d0.weights Try.prog 28, k ≤ BB := fun k hk => of_decide_eq_true (List.all_eq_true.1 hsz _ (DataW.weights_mem_each (j := 0) rfl rfl k hk))
  obtain ⟨c0, s0, g0⟩ := open_cv tab (m := 8) (t := 28) rfl (hval 0 28 v0 rfl rfl) h0 wt0
  have g0 := g0 _ T28
  obtain ⟨a0, rfl, w0⟩ := (PartState.of s0)
  have lt1 : ∀ x ∈ p1, x.block < W.heap.size := by obtain ⟨m, hm⟩ := h1; exact DataW.trod_lt m _ _ _ hm
  have wt1 : ∀ k ∈ d1.weights Try.prog 60, k ≤ BB := fun k hk => of_decide_eq_true (List.all_eq_true.1 hsz _ (DataW.weights_mem_each (j := 1) rfl rfl k hk))
  obtain ⟨c1, s1, g1⟩ := open_cv tab (m := 8) (t := 60) rfl (hval 1 60 v1 rfl rfl) h1 wt1
  have g1 := g1 _ T60
  obtain ⟨a1, rfl, w1⟩ := (Face.of s1)
  have lt2 : ∀ x ∈ p2, x.block < W.heap.size := by obtain ⟨m, hm⟩ := h2; exact DataW.trod_lt m _ _ _ hm
  have wt2 : ∀ k ∈ d2.weights Try.prog 47, k ≤ BB := fun k hk => of_decide_eq_true (List.all_eq_true.1 hsz _ (DataW.weights_mem_each (j := 2) rfl rfl k hk))
  obtain ⟨c2, s2, g2⟩ := open_cv tab (m := 8) (t := 47) rfl (hval 2 47 v2 rfl rfl) h2 wt2
  have g2 := g2 _ T47
  obtain ⟨a2, rfl, w2⟩ := (Task.of s2)
  clear hA0 hval0 hsz0 hsz
  have pure := proofAdmitAdds a0 a1 a2 w0 w1 w2
  refine ((law20_AdmitAdds_w a0 a1 a2 true pure).2 W (pw W) [v0, v1, v2] (fun _ h => h) (All2.cons g0 (All2.cons g1 (All2.cons g2 All2.nil)))).mono fun e W' ⟨v, rs, p', he, hR, hrep, bel, _⟩ => ?_
  subst hR he
  obtain rfl := RepD_bool hrep
  exact ⟨_, rfl, _, _, _, [], _, [], hW', trodAll_mk1 (shut_bool Try.underlying4 _), (trodAll_cons_mk (Below.trod laidOut (by kernel_rfl) (of_decide_eq_true (by kernel_rfl)) h0 bel lt0) (trodAll_cons_mk (Below.trod laidOut (by kernel_rfl) (of_decide_eq_true (by kernel_rfl)) h1 bel lt1) (trodAll_cons_mk (Below.trod laidOut (by kernel_rfl) (of_decide_eq_true (by kernel_rfl)) h2 bel lt2) trodAll_mk0))), rfl, bel.frame _, fun h => by cases h⟩
theorem over : Rows.admitAddsRow.holds Try.pinned (OpenSpec.ofChange Rows.admitAddsSpec) :=
  OpenClaim.holds_of_wide 8 Try.f8 rfl rfl rfl rfl rfl rfl rfl ⟨rfl, rfl, rfl, rfl, rfl⟩ rfl rfl rfl rfl rfl (by kernel_rfl) Try.func8 (by kernel_rfl)
    (of_decide_eq_true (by kernel_rfl)) (by unfold Func.isWrapper; first | (rw [if_pos (by decide +kernel)]; kernel_rfl) | (rw [if_neg (by decide +kernel)]; exact ⟨rfl, rfl⟩))
    (fun os started H enc _ => lifted os started H enc)
end Go.Proofs.Ytakiggekallckaa.admitAdds
namespace Go.Proofs.Ytakiggekallckaa
theorem admitAdds_holds : Rows.AdmitAddsSaid := admitAdds.over
end Go.Proofs.Ytakiggekallckaa
