/- It is proved that the law SrpTells returns true at every input that the row lets in; there is no condition beside the row's own. -/
import Derived.Test.YtkhebjkplmidnaaXSrpTells0
import Derived.Test.YtkhebjkplmidnaaRows
set_option linter.unusedVariables false
set_option linter.unusedSimpArgs false
set_option maxRecDepth 100000
namespace Go.Proofs.Ytkhebjkplmidnaa
open Go Go.VC

/-! A tick. -/
def upd (j : Job) : Job := ⟨j.Task, j.At, j.Due, j.Want, j.Had + 1, true⟩
def taskC (l : List Task) (j : Job) : Int := match l[j.Task.toNat]? with | some t => t.C | none => 0
def overB (l : List Task) (j : Job) : Bool := decide (j.Had + 1 ≥ (if taskC l j < j.Want then taskC l j else j.Want))
def zeroJ : Job := ⟨0, 0, 0, 0, 0, false⟩
def tickN (l : List Task) (js : List Job) (n : Nat) (h : n < js.length) : List Job := if overB l js[n] = true then js.eraseIdx n else js.set n (upd js[n])
open Classical in
noncomputable def tick (l : List Task) (js : List Job) : List Job × Job × Bool :=
  if h : jobsP l js ∧ 0 ≤ cho l js ∧ (cho l js).toNat < js.length then (tickN l js (cho l js).toNat h.2.2, upd js[(cho l js).toNat], overB l js[(cho l js).toNat]) else (js, zeroJ, false)
theorem cho_lt {l : List Task} {js : List Job} (hp : jobsP l js) : cho l js = -1 ∨ (0 ≤ cho l js ∧ (cho l js).toNat < js.length) := by
  rcases cho_cases hp with ⟨_, h⟩ | ⟨n, hn, h, _⟩
  · exact .inl h
  · exact .inr ⟨by omega, by omega⟩
theorem tick_eq {l : List Task} {js : List Job} (hp : jobsP l js) {n : Nat} (hn : n < js.length) (ec : cho l js = (n : Int)) : tick l js = (tickN l js n hn, upd js[n], overB l js[n]) := by
  obtain rfl : n = (cho l js).toNat := by omega
  unfold tick
  rw [dif_pos ⟨hp, by omega, hn⟩]
theorem cho_nat {l : List Task} {js : List Job} (hp : jobsP l js) : cho l js = -1 ∨ ∃ n, ∃ hn : n < js.length, cho l js = (n : Int) := by
  rcases cho_cases hp with ⟨_, h⟩ | ⟨n, hn, h, _⟩
  · exact .inl h
  · exact .inr ⟨n, hn, h⟩
theorem tickN_form {l : List Task} {js : List Job} {n : Nat} (h : n < js.length) : tickN l js n h = js.take n ++ (if overB l js[n] = true then [] else [upd js[n]]) ++ js.drop (n + 1) := by
  unfold tickN
  split
  · rw [List.eraseIdx_eq_take_drop_succ]; simp
  · rw [List.set_eq_take_append_cons_drop, if_pos h]; simp
theorem had_bound {l : List Task} {js : List Job} (hp : jobsP l js) {j : Job} (hj : j ∈ js) : 0 ≤ j.Had ∧ j.Had < 200 ∧ j.Had < j.Want ∧ j.Had < taskC l j ∧ j.Want ≤ 200 ∧ taskC l j ≤ 200 := by
  obtain ⟨_, _, _, h4, hb⟩ := hp.2.2.1 j hj
  have hc := hp.1.1 _ (List.getElem_mem h4)
  have := hc.1
  unfold ownP at this
  unfold bodyP at hb
  unfold taskC
  rw [List.getElem?_eq_getElem h4]
  simp only
  omega
theorem srp_Tick_eq (l : List Task) (js : List Job) (hl : l.length ≤ 4611686018427387904) : srp_Tick l js = some (tick l js) := by
  unfold srp_Tick
  simp only [jn_eq]
  rw [bnd_eq (srp_Choose_eq l js hl)]
  by_cases hp : jobsP l js
  rotate_left
  · rw [if_neg hp, decide_eq_true (by omega), fk_t, tick, dif_neg (fun h => hp h.1)]; rfl
  rw [if_pos hp]
  have h32 := hp.2.1
  rcases cho_nat hp with hc | ⟨n, hn, ec⟩
  · rw [decide_eq_true (by omega), fk_t, tick, dif_neg (fun h => by omega)]; rfl
  rw [tick_eq hp hn ec, ec]
  obtain ⟨t0, t1, t2, t3, tb⟩ := hp.2.2.1 _ (List.getElem_mem hn)
  have hb := had_bound hp (List.getElem_mem hn)
  have eC : taskC l js[n] = l[js[n].Task.toNat].C := by unfold taskC; rw [List.getElem?_eq_getElem t3]
  rw [decide_eq_false (by omega), fk_f, ix_lt hn, ix_int t0 t3, ← eC, wr_in _ (by omega), wr_in _ (by omega), tickN_form hn]
  have e2 : ∀ m : List Job, (([] : List Job) ++ ((js.take (n : Int).toNat).drop (0 : Int).toNat)) ++ m ++ ((js.take (js.length : Int).toNat).drop ((n : Int) + 1).toNat) = js.take n ++ m ++ js.drop (n + 1) := by
    intro m
    rw [show ((n : Int) + 1).toNat = n + 1 by omega]; simp
  rw [ck_t (by simp; omega), ck_t (by simp; omega)]
  show fk (!overB l js[n]) _ _ = _
  cases ho : overB l js[n] with
  | true =>
    rw [Bool.not_true, fk_f, ck_t (by simp; omega), ck_t (by simp; omega), if_pos rfl, ← e2 [], List.append_nil]
    show some (_, upd js[n], overB l js[n]) = _
    rw [ho]
  | false =>
    rw [Bool.not_false, fk_t, ck_t (by simp; omega), ck_t (by simp; omega), ck_t (by simp; omega), show (if false = true then ([] : List Job) else [upd js[n]]) = [upd js[n]] from if_neg (by simp), ← e2]
    show some (_, upd js[n], overB l js[n]) = _
    rw [ho]; rfl
theorem over_iff {l : List Task} {js : List Job} (hp : jobsP l js) {j : Job} (hj : j ∈ js) : overB l j = (decide (j.Had + 1 = j.Want) || decide (j.Had + 1 = taskC l j)) := by
  have hb := had_bound hp hj
  unfold overB
  by_cases c : taskC l j < j.Want
  · rw [if_pos c]
    rw [Bool.eq_iff_iff]; simp only [decide_eq_true_eq, Bool.or_eq_true]; omega
  · rw [if_neg c]
    rw [Bool.eq_iff_iff]; simp only [decide_eq_true_eq, Bool.or_eq_true]; omega
theorem ref15_Tick_eq (l : List Task) (js : List Job) (hp : jobsP l js) : ref15_Tick l js = some (tick l js) := by
  unfold ref15_Tick
  simp only [jn_eq]
  rw [bnd_eq (ref15_Choose_eq l js hp)]
  have h32 := hp.2.1
  rcases cho_nat hp with hc | ⟨n, hn, ec⟩
  · rw [decide_eq_true (by omega), fk_t, tick, dif_neg (fun h => by omega)]; rfl
  rw [tick_eq hp hn ec, ec]
  have hov := over_iff hp (List.getElem_mem hn)
  obtain ⟨t0, t1, t2, t3, tb⟩ := hp.2.2.1 _ (List.getElem_mem hn)
  have hb := had_bound hp (List.getElem_mem hn)
  have eC : taskC l js[n] = l[js[n].Task.toNat].C := by unfold taskC; rw [List.getElem?_eq_getElem t3]
  rw [decide_eq_false (by omega), fk_f, tickN_form hn]
  refine lp_inv (fun v => js.length - v.2.2.2.2.2.2.2.2.toNat) (fun v => ∃ (k : Nat) (r : Job) (out : List Job) (ov : Bool), v = (r.Task, r.At, r.Due, r.Want, r.Had, r.Began, out, ov, (k : Int)) ∧ k ≤ js.length ∧ ((k ≤ n ∧ r = zeroJ ∧ out = js.take k ∧ ov = false) ∨ (n < k ∧ r = upd js[n] ∧ out = js.take n ++ (if overB l js[n] = true then [] else [upd js[n]]) ++ (js.take k).drop (n + 1) ∧ ov = overB l js[n]))) ?_ FU _ ⟨0, zeroJ, [], false, rfl, Nat.zero_le _, .inl ⟨Nat.zero_le _, rfl, by simp, rfl⟩⟩ (by unfold FU; simp; omega)
  rintro nx v ⟨k, r, out, ov, rfl, hk, J⟩ hnx
  simp only
  rw [lt_nat]
  by_cases h : k < js.length
  rotate_left
  · rw [decide_eq_false h, fk_f]
    have ek : k = js.length := by omega
    rcases J with ⟨h1, _⟩ | ⟨h1, rfl, rfl, rfl⟩
    · omega
    · rw [ek, List.take_length]
  rw [decide_eq_true h, fk_t, ix_lt h]
  have hw : wr ((k : Int) + 1) = ((k + 1 : Nat) : Int) := wr_succ k _ h (by omega)
  rw [hw]
  have hbk := had_bound hp (List.getElem_mem h)
  rcases Nat.lt_trichotomy k n with c | c | c
  · rcases J with ⟨_, rfl, rfl, rfl⟩ | ⟨h1, _⟩
    rotate_left
    · omega
    rw [decide_eq_false (show ¬ (k : Int) = (n : Int) by omega), fk_f, Bool.not_false, fk_t, ck_t (by simp; omega)]
    refine hnx _ ⟨k + 1, zeroJ, _, false, rfl, by omega, .inl ⟨by omega, rfl, ?_, rfl⟩⟩ (by simp only [Int.toNat_natCast]; omega)
    rw [← List.take_append_getElem h]
  · subst c
    rcases J with ⟨_, rfl, rfl, rfl⟩ | ⟨h1, _⟩
    rotate_left
    · omega
    rw [decide_eq_true rfl, fk_t, Bool.not_true, fk_f, wr_in _ (by omega)]
    have fin : ∀ o, o = overB l js[k] → fk (!o) (ck (decide (((js.take k).length + ([⟨js[k].Task, js[k].At, js[k].Due, js[k].Want, js[k].Had + 1, true⟩] : List Job).length) * 48 ≤ 140737488355328)) (nx (js[k].Task, js[k].At, js[k].Due, js[k].Want, js[k].Had + 1, true, js.take k ++ ([⟨js[k].Task, js[k].At, js[k].Due, js[k].Want, js[k].Had + 1, true⟩] : List Job), o, ((k + 1 : Nat) : Int)))) (nx (js[k].Task, js[k].At, js[k].Due, js[k].Want, js[k].Had + 1, true, js.take k, o, ((k + 1 : Nat) : Int))) = some (js.take k ++ (if overB l js[k] = true then [] else [upd js[k]]) ++ js.drop (k + 1), upd js[k], overB l js[k]) := by
      intro o ho
      cases o with
      | true =>
        rw [Bool.not_true, fk_f]
        exact hnx _ ⟨k + 1, upd js[k], _, true, rfl, by omega, .inr ⟨by omega, rfl, by rw [← ho, if_pos rfl]; simp, ho⟩⟩ (by simp only [Int.toNat_natCast]; omega)
      | false =>
        rw [Bool.not_false, fk_t, ck_t (by simp; omega)]
        exact hnx _ ⟨k + 1, upd js[k], _, false, rfl, by omega, .inr ⟨by omega, rfl, by rw [← ho, if_neg (by simp)]; simp [upd], ho⟩⟩ (by simp only [Int.toNat_natCast]; omega)
    by_cases c1 : js[k].Had + 1 = js[k].Want
    · rw [decide_eq_true c1, fk_t]
      exact fin true (by rw [hov, decide_eq_true c1]; rfl)
    · rw [decide_eq_false c1, fk_f, ix_int t0 t3, ← eC]
      exact fin _ (by rw [hov, decide_eq_false c1]; rfl)
  · rcases J with ⟨h1, _⟩ | ⟨_, rfl, rfl, rfl⟩
    · omega
    rw [decide_eq_false (show ¬ (k : Int) = (n : Int) by omega), fk_f, Bool.not_false, fk_t, ck_t (by
      have : (if overB l js[n] = true then ([] : List Job) else [upd js[n]]).length ≤ 1 := by split <;> simp
      simp only [List.length_append, List.length_take, List.length_drop, List.length_cons, List.length_nil]; simp; omega)]
    refine hnx _ ⟨k + 1, upd js[n], _, overB l js[n], rfl, by omega, .inr ⟨by omega, rfl, ?_, rfl⟩⟩ (by simp only [Int.toNat_natCast]; omega)
    rw [← List.take_append_getElem h, List.drop_append, List.append_assoc, List.append_assoc, List.append_assoc]
    rw [show n + 1 - (js.take k).length = 0 by rw [List.length_take]; omega]
    simp
end Go.Proofs.Ytkhebjkplmidnaa
namespace Go.Proofs.Ytkhebjkplmidnaa
open Go Go.VC
theorem proofSrpTells : PureSrpTells := by
  intro l js hl hjs
  have hll : l.length ≤ 4611686018427387904 := wf_len hl.1 (Nat.le_refl _)
  have hsl : ∀ t ∈ l, t.Secs.length ≤ 4611686018427387904 := fun t ht => (hl.2 t ht).len
  unfold law15_SrpTells
  simp only [law15_knows_eq, bnd_some]
  rw [bnd_eq (law14_Great_eq l js hll)]
  by_cases hg : greatJ l js
  · rw [decide_eq_true hg, fk_t]
  have hj50 : js.length ≤ 50 := by
    by_cases c : js.length ≤ 50
    · exact c
    · exact absurd (.inr (by omega)) hg
  rw [decide_eq_false hg, fk_f, bnd_eq (srp_Choose_eq l js hll), bnd_eq (srp_Tick_eq l js hll), bnd_eq (ref14_All_eq l js hll hsl)]
  by_cases hp : jobsP l js
  rotate_left
  · rw [decide_eq_false hp, Bool.not_false, fk_t, if_neg hp, decide_eq_true rfl, fk_t, tick, dif_neg (fun h => hp h.1)]
    simp only
    rw [bnd_eq (ref14_Same_eq js js (by omega)), decide_eq_true rfl, fk_t]
    have : eqI [.i .i64 zeroJ.Task, .i .i64 zeroJ.At, .i .i64 zeroJ.Due, .i .i64 zeroJ.Want, .i .i64 zeroJ.Had, .b zeroJ.Began] [.i .i64 (0 : Int), .i .i64 (0 : Int), .i .i64 (0 : Int), .i .i64 (0 : Int), .i .i64 (0 : Int), .b false] = true := (eqI_job zeroJ zeroJ).trans (decide_eq_true rfl)
    rw [this, fk_t, Bool.not_false, fk_t]
  have hlt : (tick l js).1.length ≤ 4611686018427387904 := by
    rcases cho_nat hp with hc | ⟨n, hn, ec⟩
    · rw [tick, dif_neg (fun h => by omega)]; simp only; omega
    · rw [tick_eq hp hn ec]; simp only; unfold tickN; split
      · rw [List.length_eraseIdx, if_pos hn]; omega
      · rw [List.length_set]; omega
  rw [decide_eq_true hp, Bool.not_true, fk_f, if_pos hp, bnd_eq (ref15_Tick_eq l js hp), bnd_eq (ref15_Choose_eq l js hp), decide_eq_true rfl, fk_t, bnd_eq (ref14_Same_eq _ _ hlt), decide_eq_true rfl, fk_t, eqI_job, decide_eq_true rfl, fk_t, decide_eq_true rfl, fk_t]
end Go.Proofs.Ytkhebjkplmidnaa
namespace Go.Proofs.Ytkhebjkplmidnaa.srpTells
open Go Go.VC Go.ChangeShapes Go.WideShapes Go.ChangeAt Go.RowKit
theorem own : ownKnob Try.prog.godebug = none := by kernel_rfl
theorem laidOut : laidOutB Try.prog = true := by kernel_rfl
theorem lifted (os : Os) (started : os.Started) (H : Type) (enc : TypeId × Value → H) :
    ReturnsInHanded {} Try.checked os 10 .any (Rows.srpTellsSpec.pre6 enc Try.prog Try.f10 Rows.srpTellsRow.domain false) (Rows.srpTellsSpec.post enc Try.prog Try.f10 false true false false) := by
  refine returnsInHanded_of_change_sized (C := Try.checked) own started (by kernel_rfl) Try.func10
    (ChangeSpec.witness6 (enc := enc) (C := Try.checked) false ⟨#[], #[.slice none 0 0, .slice none 0 0], []⟩ 8 (by kernel_rfl) (by kernel_rfl) (by kernel_rfl) (by kernel_rfl)) ?_
  intro W base args ds gs before hval0 hW hcnd hsz0 _
  have hsz : (DataW.weightsEach Try.prog (Try.f10.params.toList ++ Rows.srpTellsSpec.plain.varTypes Try.prog) (ds ++ gs)).all (· ≤ reachBytes) = true := hsz0
  have hval : ∀ (j : Nat) t v, Try.f10.params[j]? = some t → args[j]? = some v → Value.okWide Try.prog W .any base t v := hval0
  have hW' := hW
  obtain ⟨p, q, hA0, hV, rfl, hfz, hnd⟩ := hW
  have hA : DataW.TrodAll enc Try.prog W 0 (fun _ => true) true Try.f10.params.toList args.toList ds p := hA0
  rw [Try.params10] at hA hval hsz
  obtain ⟨v0, vs0, d0, ds0, p0, q0, hargs, rfl, rfl, h0, r0⟩ := trodAll_cons hA
  obtain ⟨v1, vs1, d1, ds1, p1, q1, rfl, rfl, rfl, h1, r1⟩ := trodAll_cons r0
  obtain ⟨rfl, rfl, rfl⟩ := trodAll_nil r1
  obtain rfl : args = #[v0, v1] := by cases args; simp_all
  obtain ⟨rfl, rfl⟩ := trodVars_none hV
  have lt0 : ∀ x ∈ p0, x.block < W.heap.size := by obtain ⟨m, hm⟩ := h0; exact DataW.trod_lt m _ _ _ hm
  have wt0 : ∀ k ∈ d0.weights Try.prog 22, k ≤ BB := fun k hk => of_decide_eq_true (List.all_eq_true.1 hsz _ (DataW.weights_mem_each (j := 0) rfl rfl k hk))
  obtain ⟨c0, s0, g0⟩ := open_cv tab (m := 8) (t := 22) rfl (hval 0 22 v0 rfl rfl) h0 wt0
  have g0 := g0 _ T22
  obtain ⟨a0, rfl, w0⟩ := (s0.l (f := Task.enc) (W := (fun x => Task.wf x)) T22 T65 (fun _ _ h => (Task.of h)))
  have lt1 : ∀ x ∈ p1, x.block < W.heap.size := by obtain ⟨m, hm⟩ := h1; exact DataW.trod_lt m _ _ _ hm
  have wt1 : ∀ k ∈ d1.weights Try.prog 45, k ≤ BB := fun k hk => of_decide_eq_true (List.all_eq_true.1 hsz _ (DataW.weights_mem_each (j := 1) rfl rfl k hk))
  obtain ⟨c1, s1, g1⟩ := open_cv tab (m := 8) (t := 45) rfl (hval 1 45 v1 rfl rfl) h1 wt1
  have g1 := g1 _ T45
  obtain ⟨a1, rfl, w1⟩ := (s1.l (f := Job.enc) (W := (fun x => Job.wf x)) T45 T50 (fun _ _ h => (Job.of h)))
  clear hA0 hval0 hsz0 hsz
  have pure := proofSrpTells a0 a1 w0 w1
  refine ((law15_SrpTells_w a0 a1 true pure).2 W (pw W) [v0, v1] (fun _ h => h) (All2.cons g0 (All2.cons g1 All2.nil))).mono fun e W' ⟨v, rs, p', he, hR, hrep, bel, _⟩ => ?_
  subst hR he
  obtain rfl := RepD_bool hrep
  exact ⟨_, rfl, _, _, _, [], _, [], hW', trodAll_mk1 (shut_bool Try.underlying4 _), (trodAll_cons_mk (Below.trod laidOut (by kernel_rfl) (of_decide_eq_true (by kernel_rfl)) h0 bel lt0) (trodAll_cons_mk (Below.trod laidOut (by kernel_rfl) (of_decide_eq_true (by kernel_rfl)) h1 bel lt1) trodAll_mk0)), rfl, bel.frame _, fun h => by cases h⟩
theorem over : Rows.srpTellsRow.holds Try.pinned (OpenSpec.ofChange Rows.srpTellsSpec) :=
  OpenClaim.holds_of_wide 10 Try.f10 rfl rfl rfl rfl rfl rfl rfl ⟨rfl, rfl, rfl, rfl, rfl⟩ rfl rfl rfl rfl rfl (by kernel_rfl) Try.func10 (by kernel_rfl)
    (of_decide_eq_true (by kernel_rfl)) (by unfold Func.isWrapper; first | (rw [if_pos (by decide +kernel)]; kernel_rfl) | (rw [if_neg (by decide +kernel)]; exact ⟨rfl, rfl⟩))
    (fun os started H enc _ => lifted os started H enc)
end Go.Proofs.Ytkhebjkplmidnaa.srpTells
namespace Go.Proofs.Ytkhebjkplmidnaa
theorem srpTells_holds : Rows.SrpTellsSaid := srpTells.over
end Go.Proofs.Ytkhebjkplmidnaa
