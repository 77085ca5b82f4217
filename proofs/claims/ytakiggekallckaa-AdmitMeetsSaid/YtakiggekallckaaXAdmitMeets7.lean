/- It is proved that the law AdmitMeets returns true at every input that the row lets in; there is no condition beside the row's own. -/
import Derived.Test.YtakiggekallckaaXAdmitMeets6
import Derived.Test.YtakiggekallckaaRows
set_option linter.unusedVariables false
set_option linter.unusedSimpArgs false
set_option maxRecDepth 100000
namespace Go.Proofs.Ytakiggekallckaa
open Go Go.VC
theorem law20_knows_eq : law20_knows = some true := by kernel_rfl
theorem admit_Drop_eq (s : PartState) (i : Int) (hb : StB s) : admit_Drop s i = some (leaveV s i) := by
  unfold admit_Drop
  rw [bnd_eq (part_Leave_eq s i hb)]
theorem okS.len {s : PartState} (h : okS s) : s.Tasks.length ≤ 1000 ∧ s.Jobs.length ≤ 4611686018427387904 := by
  have h8 := AllP_len h.1.2.1.1
  have hj := h.1.2.2.1.2.1
  omega
theorem law20_Do_eq (s : PartState) (f : Face) (a : Law20Ask) (n : Int) (h : okS s) : law20_Do s f a n = some (doV s f a.Kind a.I a.Want a.T n) := by
  have hb := StB.of_st h.1
  obtain ⟨l1, l2⟩ := h.len
  unfold law20_Do doV
  by_cases c0 : a.Kind = 0
  · rw [decide_eq_true c0, fk_t, if_pos c0, bnd_eq (part_Release_eq s _ _ _ hb)]
  rw [decide_eq_false c0, fk_f, if_neg c0]
  by_cases c2 : a.Kind = 2
  · rw [decide_eq_true c2, fk_t, if_pos c2, bnd_eq (admit_Drop_eq s _ hb)]
  rw [decide_eq_false c2, fk_f, if_neg c2]
  by_cases c3 : a.Kind = 3
  · rw [decide_eq_true c3, fk_t, if_pos c3, bnd_eq (admit_Add_eq s f _ hb l1 l2)]
    unfold admV
    split <;> rfl
  rw [decide_eq_false c3, fk_f, if_neg c3]
  by_cases c4 : a.Kind = 4
  rotate_left
  · rw [decide_eq_false c4, fk_f, if_neg c4]
  rw [decide_eq_true c4, fk_t, if_pos c4]
  unfold admit_Change chgV
  rw [bnd_eq (admit_Drop_eq s _ hb)]
  have h' := okS_leave (i := a.I) h
  obtain ⟨m1, m2⟩ := h'.len
  by_cases c : (leaveV s a.I).2 = 0
  rotate_left
  · rw [decide_eq_false c, Bool.not_false, fk_t, if_neg c]; rfl
  rw [decide_eq_true c, Bool.not_true, fk_f, if_pos c, bnd_eq (admit_Add_eq (leaveV s a.I).1 f a.T (StB.of_st h'.1) m1 m2)]
  by_cases d : addE (leaveV s a.I).1 f a.T = 0
  · rw [if_pos d, if_pos d, decide_eq_true rfl, Bool.not_true, fk_f]; rfl
  · rw [if_neg d, if_neg d, decide_eq_false d, Bool.not_false, fk_t]; rfl
theorem proofAdmitMeets : PureAdmitMeets := by
  intro p us gs hp hu hg
  have hll : p.Tasks.length ≤ 4611686018427387904 := wf_len hp.2.1 (by omega)
  have hsl : ∀ t ∈ p.Tasks, t.Secs.length ≤ 4611686018427387904 := fun t ht => (hp.2.2 t ht).len
  have hul : us.length ≤ 4611686018427387904 := by have := hu.1; unfold BB at this; omega
  unfold law20_AdmitMeets
  simp only [law20_knows_eq, bnd_some]
  by_cases h1 : GreatP p.Tasks
  · exact jn_to true (fun k => by rw [bnd_eq (law05_Great_eq p.Tasks hll), decide_eq_true h1, fk_t]) (by rw [fk_t])
  by_cases h2 : 300 < gs.length
  · exact jn_to true (fun k => by rw [bnd_eq (law05_Great_eq p.Tasks hll), decide_eq_false h1, fk_f, decide_eq_true (by omega), fk_t]) (by rw [fk_t])
  obtain ⟨b, hb1, hb2⟩ := ref09_Legal_ex p.Face gs (by omega)
  refine jn_to (!b) (fun k => by rw [bnd_eq (law05_Great_eq p.Tasks hll), decide_eq_false h1, fk_f, decide_eq_false (by omega), fk_f, bnd_eq hb1]) ?_
  cases b with
  | false => rw [Bool.not_false, fk_t]
  | true =>
  obtain ⟨hf, hleg⟩ := hb2 rfl
  rw [Bool.not_true, fk_f, bnd_eq (admit_Boot_eq p hll hsl)]
  by_cases h4 : bootE p = 0
  rotate_left
  · rw [if_neg h4]
    dsimp only
    rw [decide_eq_false h4, Bool.not_false, fk_t, decide_eq_true (by rfl), fk_t]
  rw [if_pos h4]
  dsimp only
  rw [decide_eq_true rfl, Bool.not_true, fk_f]
  have h4 := bootE_zero.1 h4
  have hf' := hf
  unfold faceP at hf'
  obtain ⟨P, hP⟩ : ∃ P : Nat, p.Face.P = (P : Int) := ⟨p.Face.P.toNat, by omega⟩
  obtain ⟨B, hB⟩ : ∃ B : Nat, p.Face.B = (B : Int) := ⟨p.Face.B.toNat, by omega⟩
  have hP0 : 0 < P := by omega
  rw [hP, hB, Int.toNat_natCast, Int.toNat_natCast] at hleg
  have hdm := Nat.div_mul_le_self gs.length P
  have hdl := Nat.div_le_self gs.length P
  have hd1 : (gs.length : Int).tdiv p.Face.P = ((gs.length / P : Nat) : Int) := by rw [hP, Int.tdiv_eq_ediv_of_nonneg (by omega)]; rfl
  generalize gs.length / P = K at hleg hdm hdl hd1
  have hKP : ((K * P : Nat) : Int) = (K : Int) * (P : Int) := Int.natCast_mul _ _
  have hd2 : wr (wr ((gs.length : Int).tdiv p.Face.P) * p.Face.P) = ((K * P : Nat) : Int) := by
    rw [hd1, wr_in (K : Int) (by omega), hP, ← hKP, wr_in _ (by omega)]
  rw [hd2]
  rw [ck_t (decide_eq_true (by omega)), ck_t (by simp; omega), Int.toNat_natCast]
  have htl : (gs.take (K * P)).length = K * P := by rw [List.length_take]; omega
  have e0 : (gs.take (K * P)).drop (0 : Int).toNat = gs.take (K * P) := rfl
  rw [e0]
  have hleg' : legalN P B (gOf (gs.take (K * P))) (K * P) := fun q hq => by
    have := hleg q hq
    have hq1 : (q + 1) * P = q * P + P := Nat.succ_mul _ _
    rwa [gcnt_congr (g' := gOf (gs.take (K * P))) fun i _ h2 => by unfold gOf; rw [List.getElem?_take_of_lt (by omega)]] at this
  generalize gs.take (K * P) = gz at *
  refine lp_inv (fun v => K * P - v.2.2.2.2.2.toNat) (fun v => ∃ (k : Nat) (s : PartState), v = (s.Tasks, s.Leaves, s.Lasts, s.Jobs, s.Log, (k : Int)) ∧ k ≤ K * P ∧ Run (gOf gz) p.Face k s) ?_ FU _ ⟨0, new0 p.Tasks, rfl, Nat.zero_le _, Run.new h4⟩ (by unfold FU; simp only; omega)
  rintro nx v ⟨k, s, rfl, hk, hR⟩ hnx
  dsimp only
  rw [lt_nat, htl]
  have hok := (hR.inv 0).ok
  by_cases h : k < K * P
  rotate_left
  · rw [decide_eq_false h, fk_f]
    have h2000 := hok.1.2.2.2
    refine lp_up s.Log.length (by unfold FU; omega) (fun _ => True) trivial ?_
    intro nx k hk0 _ hnx
    rw [lt_nat]
    by_cases hk' : k < s.Log.length
    · rw [decide_eq_true hk', fk_t, ix_lt hk', decide_eq_false (hR.log _ (List.getElem_mem hk')), fk_f, wr_succ k _ hk' (by omega)]
      exact hnx hk' trivial
    · rw [decide_eq_false hk', fk_f, bnd_eq (verdict_Fits_eq s.Tasks p.Face (by have := hok.len; omega)), decide_eq_true hR.fit, fk_t, decide_eq_true (show errC s.Tasks p.Face = 0 by unfold errC; rw [if_pos hR.fit.1]), fk_t]
      show bnd (part_Right s) _ = _
      rw [bnd_eq (part_Right_eq s (StB.of_st hok.1)), decide_eq_true hok.1, fk_t]
  rw [decide_eq_true h, fk_t]
  have hkl : k < gz.length := by omega
  have eg : gOf gz k = gz[k] := by unfold gOf; rw [List.getElem?_eq_getElem hkl]; rfl
  have fin : ∀ s' : PartState, okS s' → (s' = s ∨ ∃ q i w x, s' = doV s p.Face q i w x (k : Int)) → (ix gz (k : Int) fun x13 => bnd (part_Tick s' x13 (k : Int)) fun x14 => fk (!decide (x14.2.2 = (0 : Int))) (some false) (nx (x14.1.Tasks, x14.1.Leaves, x14.1.Lasts, x14.1.Jobs, x14.1.Log, (wr ((k : Int) + (1 : Int)))))) = some true := by
    intro s' hs' hd
    rw [ix_lt hkl, bnd_eq (part_Tick_eq s' _ _ (StB.of_st hs'.1)), if_pos ⟨hs'.1, by unfold whenP; omega⟩, wr_succ k _ h (by omega)]
    dsimp only
    rw [decide_eq_true rfl, Bool.not_true, fk_f]
    have hR' := hR.step hd hP hB hleg' (by omega)
    rw [eg] at hR'
    exact hnx _ ⟨k + 1, _, rfl, h, hR'⟩ (by simp only [Int.toNat_natCast]; omega)
  by_cases hus : k < us.length
  rotate_left
  · refine jn_to (s.Tasks, s.Leaves, s.Lasts, s.Jobs, s.Log) (fun k8 => jn_to false (fun k9 => by rw [decide_eq_false (by omega), fk_f]) (by rw [fk_f])) ?_
    exact fin s hok (.inl rfl)
  by_cases hx : us[k].T.Secs.length ≤ 20
  rotate_left
  · refine jn_to (s.Tasks, s.Leaves, s.Lasts, s.Jobs, s.Log) (fun k8 => jn_to false (fun k9 => by rw [decide_eq_true (by omega), fk_t, ix_lt hus, decide_eq_false (by omega)]) (by rw [fk_f])) ?_
    exact fin s hok (.inl rfl)
  have hokd : okS (doV s p.Face us[k].Kind us[k].I us[k].Want us[k].T (k : Int)) := ((hR.inv 0).do).ok
  refine jn_to ((doV s p.Face us[k].Kind us[k].I us[k].Want us[k].T (k : Int)).Tasks, (doV s p.Face us[k].Kind us[k].I us[k].Want us[k].T (k : Int)).Leaves, (doV s p.Face us[k].Kind us[k].I us[k].Want us[k].T (k : Int)).Lasts, (doV s p.Face us[k].Kind us[k].I us[k].Want us[k].T (k : Int)).Jobs, (doV s p.Face us[k].Kind us[k].I us[k].Want us[k].T (k : Int)).Log) (fun k8 => jn_to true (fun k9 => by rw [decide_eq_true (by omega), fk_t, ix_lt hus, decide_eq_true (by omega)]) ?_) ?_
  · rw [fk_t, ix_lt hus]
    show bnd (law20_Do s p.Face us[k] (k : Int)) _ = _
    rw [bnd_eq (law20_Do_eq s p.Face us[k] (k : Int) hok)]
  · exact fin _ hokd (.inr ⟨_, _, _, _, rfl⟩)
end Go.Proofs.Ytakiggekallckaa
namespace Go.Proofs.Ytakiggekallckaa.admitMeets
open Go Go.VC Go.ChangeShapes Go.WideShapes Go.ChangeAt Go.RowKit
theorem own : ownKnob Try.prog.godebug = none := by kernel_rfl
theorem laidOut : laidOutB Try.prog = true := by kernel_rfl
theorem lifted (os : Os) (started : os.Started) (H : Type) (enc : TypeId × Value → H) :
    ReturnsInHanded {} Try.checked os 12 .any (Rows.admitMeetsSpec.pre6 enc Try.prog Try.f12 Rows.admitMeetsRow.domain false) (Rows.admitMeetsSpec.post enc Try.prog Try.f12 false true false false) := by
  refine returnsInHanded_of_change_sized (C := Try.checked) own started (by kernel_rfl) Try.func12
    (ChangeSpec.witness6 (enc := enc) (C := Try.checked) false ⟨#[], #[.agg #[.int .i64 0, .int .i64 0, .slice none 0 0], .slice none 0 0, .slice none 0 0], []⟩ 8 (by kernel_rfl) (by kernel_rfl) (by kernel_rfl) (by kernel_rfl)) ?_
  intro W base args ds gs before hval0 hW hcnd hsz0 _
  have hsz : (DataW.weightsEach Try.prog (Try.f12.params.toList ++ Rows.admitMeetsSpec.plain.varTypes Try.prog) (ds ++ gs)).all (· ≤ reachBytes) = true := hsz0
  have hval : ∀ (j : Nat) t v, Try.f12.params[j]? = some t → args[j]? = some v → Value.okWide Try.prog W .any base t v := hval0
  have hW' := hW
  obtain ⟨p, q, hA0, hV, rfl, hfz, hnd⟩ := hW
  have hA : DataW.TrodAll enc Try.prog W 0 (fun _ => true) true Try.f12.params.toList args.toList ds p := hA0
  rw [Try.params12] at hA hval hsz
  obtain ⟨v0, vs0, d0, ds0, p0, q0, hargs, rfl, rfl, h0, r0⟩ := trodAll_cons hA
  obtain ⟨v1, vs1, d1, ds1, p1, q1, rfl, rfl, rfl, h1, r1⟩ := trodAll_cons r0
  obtain ⟨v2, vs2, d2, ds2, p2, q2, rfl, rfl, rfl, h2, r2⟩ := trodAll_cons r1
  obtain ⟨rfl, rfl, rfl⟩ := trodAll_nil r2
  obtain rfl : args = #[v0, v1, v2] := by cases args; simp_all
  obtain ⟨rfl, rfl⟩ := trodVars_none hV
  have lt0 : ∀ x ∈ p0, x.block < W.heap.size := by obtain ⟨m, hm⟩ := h0; exact DataW.trod_lt m _ _ _ hm
  have wt0 : ∀ k ∈ d0.weights Try.prog 62, k ≤ BB := fun k hk => of_decide_eq_true (List.all_eq_true.1 hsz _ (DataW.weights_mem_each (j := 0) rfl rfl k hk))
  obtain ⟨c0, s0, g0⟩ := open_cv tab (m := 8) (t := 62) rfl (hval 0 62 v0 rfl rfl) h0 wt0
  have g0 := g0 _ T62
  obtain ⟨a0, rfl, w0⟩ := (Part.of s0)
  have lt1 : ∀ x ∈ p1, x.block < W.heap.size := by obtain ⟨m, hm⟩ := h1; exact DataW.trod_lt m _ _ _ hm
  have wt1 : ∀ k ∈ d1.weights Try.prog 78, k ≤ BB := fun k hk => of_decide_eq_true (List.all_eq_true.1 hsz _ (DataW.weights_mem_each (j := 1) rfl rfl k hk))
  obtain ⟨c1, s1, g1⟩ := open_cv tab (m := 8) (t := 78) rfl (hval 1 78 v1 rfl rfl) h1 wt1
  have g1 := g1 _ T78
  obtain ⟨a1, rfl, w1⟩ := (s1.l (f := Law20Ask.enc) (W := (fun x => Law20Ask.wf x)) T78 T80 (fun _ _ h => (Law20Ask.of h)))
  have lt2 : ∀ x ∈ p2, x.block < W.heap.size := by obtain ⟨m, hm⟩ := h2; exact DataW.trod_lt m _ _ _ hm
  have wt2 : ∀ k ∈ d2.weights Try.prog 23, k ≤ BB := fun k hk => of_decide_eq_true (List.all_eq_true.1 hsz _ (DataW.weights_mem_each (j := 2) rfl rfl k hk))
  obtain ⟨c2, s2, g2⟩ := open_cv tab (m := 8) (t := 23) rfl (hval 2 23 v2 rfl rfl) h2 wt2
  have g2 := g2 _ T23
  obtain ⟨a2, rfl, w2⟩ := (s2.l (f := eB) (W := (fun x => True)) T23 T4 (fun _ _ h => (andT (h.b T4))))
  clear hA0 hval0 hsz0 hsz
  have pure := proofAdmitMeets a0 a1 a2 w0 w1 w2
  refine ((law20_AdmitMeets_w a0 a1 a2 true pure).2 W (pw W) [v0, v1, v2] (fun _ h => h) (All2.cons g0 (All2.cons g1 (All2.cons g2 All2.nil)))).mono fun e W' ⟨v, rs, p', he, hR, hrep, bel, _⟩ => ?_
  subst hR he
  obtain rfl := RepD_bool hrep
  exact ⟨_, rfl, _, _, _, [], _, [], hW', trodAll_mk1 (shut_bool Try.underlying4 _), (trodAll_cons_mk (Below.trod laidOut (by kernel_rfl) (of_decide_eq_true (by kernel_rfl)) h0 bel lt0) (trodAll_cons_mk (Below.trod laidOut (by kernel_rfl) (of_decide_eq_true (by kernel_rfl)) h1 bel lt1) (trodAll_cons_mk (Below.trod laidOut (by kernel_rfl) (of_decide_eq_true (by kernel_rfl)) h2 bel lt2) trodAll_mk0))), rfl, bel.frame _, fun h => by cases h⟩
theorem over : Rows.admitMeetsRow.holds Try.pinned (OpenSpec.ofChange Rows.admitMeetsSpec) :=
  OpenClaim.holds_of_wide 12 Try.f12 rfl rfl rfl rfl rfl rfl rfl ⟨rfl, rfl, rfl, rfl, rfl⟩ rfl rfl rfl rfl rfl (by kernel_rfl) Try.func12 (by kernel_rfl)
    (of_decide_eq_true (by kernel_rfl)) (by unfold Func.isWrapper; first | (rw [if_pos (by decide +kernel)]; kernel_rfl) | (rw [if_neg (by decide +kernel)]; exact ⟨rfl, rfl⟩))
    (fun os started H enc _ => lifted os started H enc)
end Go.Proofs.Ytakiggekallckaa.admitMeets
namespace Go.Proofs.Ytakiggekallckaa
theorem admitMeets_holds : Rows.AdmitMeetsSaid := admitMeets.over
end Go.Proofs.Ytakiggekallckaa
