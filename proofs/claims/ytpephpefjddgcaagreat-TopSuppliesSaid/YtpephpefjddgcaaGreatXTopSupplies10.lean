/- It is proved that the law TopSupplies returns true at every input that the row lets in; there is no condition beside the row's own. -/
import Derived.Test.YtpephpefjddgcaaGreatXTopSupplies7
import Derived.Test.YtpephpefjddgcaaGreatXTopSupplies9
import Derived.Test.YtpephpefjddgcaaGreatXTopSupplies8
import Derived.Test.YtpephpefjddgcaaGreatRows
set_option linter.unusedVariables false
set_option linter.unusedSimpArgs false
set_option maxRecDepth 100000
set_option maxHeartbeats 40000000
set_option maxHeartbeats 4000000
namespace Go.Proofs.YtpephpefjddgcaaGreat
open Go Go.VC
noncomputable def top_TopSupplies (a0 : List Face) (a1 : Int) (a2 : Int) : Option Bool :=
  jn (fun (w1 : Bool) => fk w1 (bnd top_works fun x2 => some x2) (bnd (table_Make a0) fun x3 => bnd (ref12_Frame a0) fun x4 => fk (!decide (x4.2 = (0 : Int))) (fk (decide (x3.2 = x4.2)) (fk (decide (x3.1.Frame = (0 : Int))) (bnd top_works fun x5 => some x5) (some false)) (some false)) (lp (fun nx6 (v6 : Int × Int) => fk (decide (v6.2 < (a0.length : Int))) (ix a0 v6.2 fun x7 => ix a0 v6.2 fun x8 => ck (decide (x8.P ≠ 0)) (nx6 ((wr (v6.1 + (wr (x7.B * (wr (x4.1.tdiv x8.P)))))), (wr (v6.2 + (1 : Int)))))) (fk (!decide ((decide (x3.2 = (0 : Int))) = (decide (v6.1 ≤ x4.1)))) (some false) (jn (fun (w9 : Bool) => fk w9 (fk (decide (x3.2 = (7 : Int))) (bnd top_works fun x10 => some x10) (fk (decide ((a0.length : Int) = (0 : Int))) (bnd top_works fun x11 => some x11) (some false))) (ck (decide ((a0.length : Int) ≠ 0)) (bnd (table_Least x3.1 ((IntKind.i64.wrap a1).tmod (a0.length : Int)) a2) fun x12 => ix a0 ((IntKind.i64.wrap a1).tmod (a0.length : Int)) fun x13 => bnd (supply_Bound x13 a2) fun x14 => fk (decide (x12.2 = (0 : Int))) (fk (decide (x14.2 = (0 : Int))) (fk (decide (x12.1 ≥ x14.1)) (fk (decide (x3.1.Frame = x4.1)) (bnd top_works fun x15 => some x15) (some false)) (some false)) (some false)) (some false)))) (fun k9 => fk (!decide (x3.2 = (0 : Int))) (k9 true) (k9 (decide ((a0.length : Int) = (0 : Int)))))))) FU ((0 : Int), (0 : Int))))) (fun k1 => fk (decide ((a0.length : Int) > (20 : Int))) (k1 true) (fk (decide (a2 < (0 : Int))) (k1 true) (k1 (decide (a2 > (1000 : Int))))))
theorem top_TopSupplies_w (a0 : List Face) (a1 : Int) (a2 : Int) (r : Bool) (h : top_TopSupplies a0 a1 a2 = some r) : Go.VC.Spec Tryz.prog 4 [.d (.sl (a0.map Face.enc)), .d (.int .u8 a1), .d (.int .i64 a2)] (fun y => y = E_Bool r) := by
  refine Go.VC.Spec.of_xc (args := [.d (.sl (a0.map Face.enc)), .d (.int .u8 a1), .d (.int .i64 a2)]) (fn := Tryz.f4) tab ⟨[(0, [0, 1, 2]), (1, [0, 1, 2, 28]), (2, [6]), (3, [0, 1, 2, 7, 8]), (4, [0, 1, 2, 7, 8, 9, 10]), (5, [0, 1, 2, 7, 8, 9, 10, 41]), (6, [6]), (7, [0, 1, 2, 7, 8, 9, 11]), (8, [0, 1, 2, 7, 8, 9, 11, 12]), (9, [0, 1, 2, 7, 8, 9, 11, 12, 56]), (10, [0, 1, 2, 7, 8, 9, 11, 12]), (11, [0, 1, 2, 7, 8, 9, 11, 12]), (12, [0, 1, 2, 7, 8, 9, 79]), (13, [6]), (14, [0, 1, 2, 7, 8, 9, 86]), (15, [6]), (16, [0, 2, 7, 9, 13]), (17, [0, 2, 7, 9, 13, 14, 15]), (18, [7, 9, 14, 15, 16, 17]), (19, [6])], [], [100028, 100086], []⟩ 138 [.tmp 6] rfl rfl rfl rfl rfl rfl ?_
  conv => whnf
  refine jnS (fun w1 => ⟨[(0, .l (.d (.sl (a0.map Face.enc)))), (1, .l (.d (.int .u8 a1))), (2, .l (.d (.int .i64 a2))), (28, .l (.d (.bool w1)))], 138, [], [], []⟩) h (fun k1 hk1 h => ?_) (fun w1 h => ?_)
  · conv => whnf
    refine lenS a0 Face.enc rfl ?_
    conv => whnf
    refine fkS h (fun h => ?_) (fun h => ?_)
    · conv => whnf
      exact jeS hk1 h (Weak.refl _)
    conv => whnf
    refine fkS h (fun h => ?_) (fun h => ?_)
    · conv => whnf
      exact jeS hk1 h (Weak.refl _)
    conv => whnf
    exact jeS hk1 h (Weak.refl _)
  conv => whnf
  refine fkS h (fun h => ?_) (fun h => ?_)
  · conv => whnf
    refine caS (E := E_Bool) h top_works_w rfl (fun _ => rfl) (fun x2 h => ?_)
    conv => whnf
    exact rt (E := E_Bool) h rfl
  conv => whnf
  refine ccS (E := E_TableTable_Int) h (table_Make_w a0) rfl rfl (fun x3 h => ?_)
  conv => whnf
  refine caS (E := E_Int_Int) h (ref12_Frame_w a0) rfl (fun _ => rfl) (fun x4 h => ?_)
  conv => whnf
  refine fkS h (fun h => ?_) (fun h => ?_)
  · conv => whnf
    refine fkS h (fun h => ?_) (fun h => ?_)
    · conv => whnf
      refine fkS h (fun h => ?_) (fun h => ?_)
      · conv => whnf
        refine caS (E := E_Bool) h top_works_w rfl (fun _ => rfl) (fun x5 h => ?_)
        conv => whnf
        exact rt (E := E_Bool) h rfl
      conv => whnf
      exact rt (E := E_Bool) h rfl
    conv => whnf
    exact rt (E := E_Bool) h rfl
  conv => whnf
  refine lpS (fun v6 => ⟨[(0, .l (.d (.sl (a0.map Face.enc)))), (1, .l (.d (.int .u8 a1))), (2, .l (.d (.int .i64 a2))), (7, .l (.ptr 8 0)), (8, .l (.d (.int .i64 x3.2))), (9, .l (.d (.int .i64 x4.1))), (11, .l (.d (.int .i64 v6.1))), (12, .l (.d (.int .i64 v6.2)))], 138, [], [(8, [.d (.int .i64 x3.1.Frame), .d (.sl (x3.1.Windows.map Window.enc))])], []⟩) h (Weak.refl _) (fun _ nx6 hn6 v6 h => ?_)
  conv => whnf
  refine lenS a0 Face.enc rfl ?_
  conv => whnf
  refine fkS h (fun h => ?_) (fun h => ?_)
  · conv => whnf
    refine ⟨14, ?_⟩
    conv => whnf
    refine ixS (enc := Face.enc) h rfl (fun _ => rfl) (fun x7 h => ?_)
    conv => whnf
    refine ixS (enc := Face.enc) h rfl (fun _ => rfl) (fun x8 h => ?_)
    conv => whnf
    refine dvS h (fun h => ?_)
    conv => whnf
    refine drS (by kernel_rfl) ?_
    conv => whnf
    exact leS hn6 h (Weak.refl _)
  conv => whnf
  refine fkS h (fun h => ?_) (fun h => ?_)
  · conv => whnf
    exact rt (E := E_Bool) h rfl
  conv => whnf
  refine jnS (fun w9 => ⟨[(0, .l (.d (.sl (a0.map Face.enc)))), (1, .l (.d (.int .u8 a1))), (2, .l (.d (.int .i64 a2))), (7, .l (.ptr 8 0)), (8, .l (.d (.int .i64 x3.2))), (9, .l (.d (.int .i64 x4.1))), (86, .l (.d (.bool w9)))], 138, [], [(8, [.d (.int .i64 x3.1.Frame), .d (.sl (x3.1.Windows.map Window.enc))])], []⟩) h (fun k9 hk9 h => ?_) (fun w9 h => ?_)
  · conv => whnf
    refine fkS h (fun h => ?_) (fun h => ?_)
    · conv => whnf
      exact jeS hk9 h (Weak.refl _)
    conv => whnf
    refine lenS a0 Face.enc rfl ?_
    conv => whnf
    exact jeS hk9 h (Weak.refl _)
  conv => whnf
  refine fkS h (fun h => ?_) (fun h => ?_)
  · conv => whnf
    refine fkS h (fun h => ?_) (fun h => ?_)
    · conv => whnf
      refine caS (E := E_Bool) h top_works_w rfl (fun _ => rfl) (fun x10 h => ?_)
      conv => whnf
      exact rt (E := E_Bool) h rfl
    conv => whnf
    refine lenS a0 Face.enc rfl ?_
    conv => whnf
    refine fkS h (fun h => ?_) (fun h => ?_)
    · conv => whnf
      refine caS (E := E_Bool) h top_works_w rfl (fun _ => rfl) (fun x11 h => ?_)
      conv => whnf
      exact rt (E := E_Bool) h rfl
    conv => whnf
    exact rt (E := E_Bool) h rfl
  conv => whnf
  refine lenS a0 Face.enc rfl ?_
  conv => whnf
  refine dvS h (fun h => ?_)
  conv => whnf
  refine caS (E := E_Int_Int) h (table_Least_w x3.1 ((IntKind.i64.wrap a1).tmod (a0.length : Int)) a2) rfl (fun _ => rfl) (fun x12 h => ?_)
  conv => whnf
  refine ixS (enc := Face.enc) h rfl (fun _ => rfl) (fun x13 h => ?_)
  conv => whnf
  refine caS (E := E_Int_Int) h (supply_Bound_w x13 a2) rfl (fun _ => rfl) (fun x14 h => ?_)
  conv => whnf
  refine fkS h (fun h => ?_) (fun h => ?_)
  · conv => whnf
    refine fkS h (fun h => ?_) (fun h => ?_)
    · conv => whnf
      refine fkS h (fun h => ?_) (fun h => ?_)
      · conv => whnf
        refine fkS h (fun h => ?_) (fun h => ?_)
        · conv => whnf
          refine caS (E := E_Bool) h top_works_w rfl (fun _ => rfl) (fun x15 h => ?_)
          conv => whnf
          exact rt (E := E_Bool) h rfl
        conv => whnf
        exact rt (E := E_Bool) h rfl
      conv => whnf
      exact rt (E := E_Bool) h rfl
    conv => whnf
    exact rt (E := E_Bool) h rfl
  conv => whnf
  exact rt (E := E_Bool) h rfl

end Go.Proofs.YtpephpefjddgcaaGreat
namespace Go.Proofs.YtpephpefjddgcaaGreat
open Go Go.VC
def PureTopSupplies : Prop := ∀ (a0 : List Face) (a1 : Int) (a2 : Int), (a0.length * 16 ≤ BB ∧ ∀ y1 ∈ a0, Face.wf y1) → wfI .u8 a1 → wfI .i64 a2 → top_TopSupplies a0 a1 a2 = some true
end Go.Proofs.YtpephpefjddgcaaGreat
namespace Go.Proofs.YtpephpefjddgcaaGreat
open Go Go.VC
theorem ref12_frame_same (l : List Face) : ref12_Frame l = some (frameV l) := ref12_Frame_eq l
/-- What is laid, or isn't. -/
theorem make_ex (l : List Face) : (∃ e, (e = 1 ∨ e = 5) ∧ frameV l = (0, e) ∧ table_Make l = some (⟨0, []⟩, e)) ∨ (facesP l ∧ ∃ F : Nat, 0 < F ∧ F ≤ 240 ∧ frameV l = ((F : Int), 0) ∧ (∀ i, i < l.length → fP l i ∣ F) ∧ ((∃ o w, LayR l F o w ∧ denyP l w F ∨ (∃ t, LayR l t o w ∧ denyP l w t)) ∧ table_Make l = some (⟨0, []⟩, 7) ∨ ∃ o w t, LayR l F o w ∧ ¬ denyP l w F ∧ table_Make l = some (t, 0) ∧ tabP t ∧ t.Frame = (F : Int) ∧ ∀ (x : Nat) (y : Int), o[x]? = some y → whoV t.Windows (x : Int) = y)) := by
  by_cases hl : facesP l
  rotate_left
  · have ef : frameV l = (0, 1) := by unfold frameV; rw [if_neg hl]
    refine .inl ⟨1, .inl rfl, ef, ?_⟩
    unfold table_Make synth_Lay
    rw [bnd_eq (synth_Frame_eq l), ef]
    rfl
  by_cases hF : lcmF 1 l ≤ 240
  rotate_left
  · have ef : frameV l = (0, 5) := by unfold frameV; rw [if_pos hl, if_neg hF]
    refine .inl ⟨5, .inr rfl, ef, ?_⟩
    unfold table_Make synth_Lay
    rw [bnd_eq (synth_Frame_eq l), ef]
    rfl
  have ef : frameV l = (((lcmF 1 l : Nat) : Int), 0) := by unfold frameV; rw [if_pos hl, if_pos hF]
  have hpos := lcmF_pos l 1 (by omega) fun f hf => (hl.1 f hf).P.1
  have hdv : ∀ i, i < l.length → fP l i ∣ lcmF 1 l := fun i hi => by
    rw [fP_at (List.getElem?_eq_getElem hi)]
    exact ((lcmF_dvd l 1 _).1 (Nat.dvd_refl _)).2 _ (List.getElem_mem hi)
  refine .inr ⟨hl, lcmF 1 l, hpos, hF, ef, hdv, ?_⟩
  obtain ⟨r, e1, h1⟩ := synth_Lay_ok l hl hF
  rcases h1 with ⟨o, w, a, b, rfl⟩ | ⟨t, ht, o, w, a, b, rfl⟩
  · obtain ⟨g1, _, _, g4⟩ := a.ok hl
    obtain ⟨t, f1, f2, f3, f4⟩ := table_Of_ex o (by omega) (by omega) (fun x hx => by have := g4 x hx; have := hl.2; omega)
    refine .inr ⟨o, w, t, a, b, ?_, f2, by rw [f3, g1], f4⟩
    unfold table_Make
    rw [bnd_eq e1, decide_eq_true rfl, Bool.not_true, fk_f, bnd_eq f1]
  · refine .inl ⟨⟨o, w, .inr ⟨t, a, b⟩⟩, ?_⟩
    unfold table_Make
    rw [bnd_eq e1]
    rfl
theorem mulq {B : Int} {q : Nat} (h1 : 1 ≤ B) (h2 : B ≤ 200) (hq : q ≤ 240) : (0 ≤ B * (q : Int) ∧ B * (q : Int) ≤ 48000) ∧ 0 ≤ (q : Int) ∧ (q : Int) ≤ 240 :=
  ⟨⟨Int.mul_nonneg (by omega) (by omega), Int.le_trans (Int.mul_le_mul h2 (show (q : Int) ≤ 240 by omega) (by omega) (by omega)) (by omega)⟩, by omega, by omega⟩
theorem proofTopSupplies : PureTopSupplies := by
  intro l a1 n hl ha hn
  unfold top_TopSupplies
  by_cases hg : l.length ≤ 20 ∧ 0 ≤ n ∧ n ≤ 1000
  rotate_left
  · refine jn_to true (fun k1 => ?_) (by rw [fk_t, bnd_eq top_works_eq])
    by_cases c1 : (l.length : Int) > 20
    · rw [decide_eq_true c1, fk_t]
    rw [decide_eq_false c1, fk_f]
    by_cases c2 : n < 0
    · rw [decide_eq_true c2, fk_t]
    rw [decide_eq_false c2, fk_f, decide_eq_true (by omega)]
  obtain ⟨g1, g2, g3⟩ := hg
  refine jn_to false (fun k1 => by rw [decide_eq_false (by omega), fk_f, decide_eq_false (by omega), fk_f, decide_eq_false (by omega)]) ?_
  rw [fk_f]
  rcases make_ex l with ⟨e, he, ef, em⟩ | ⟨hf, F, F0, F1, ef, hdv, hM⟩
  · rw [bnd_eq em, bnd_eq (ref12_Frame_eq l), ef]
    dsimp only
    rw [decide_eq_false (by omega), Bool.not_false, fk_t, decide_eq_true rfl, fk_t, decide_eq_true rfl, fk_t, bnd_eq top_works_eq]
  obtain ⟨x3, em, hx3⟩ : ∃ x3 : TableTable × Int, table_Make l = some x3 ∧ ((x3.2 = 7 ∧ ∃ t o w, LayR l t o w ∧ denyP l w t) ∨ (x3.2 = 0 ∧ ∃ o w, LayR l F o w ∧ ¬ denyP l w F ∧ tabP x3.1 ∧ x3.1.Frame = (F : Int) ∧ ∀ (x : Nat) (y : Int), o[x]? = some y → whoV x3.1.Windows (x : Int) = y)) := by
    rcases hM with ⟨⟨o, w, hd⟩, em⟩ | ⟨o, w, t, a, b, em, c, d, e⟩
    · rcases hd with ⟨a, b⟩ | ⟨t, a, b⟩
      · exact ⟨_, em, .inl ⟨rfl, F, o, w, a, b⟩⟩
      · exact ⟨_, em, .inl ⟨rfl, t, o, w, a, b⟩⟩
    · exact ⟨_, em, .inr ⟨rfl, o, w, a, b, c, d, e⟩⟩
  have hl4 := hf.2
  rw [bnd_eq em, bnd_eq (ref12_Frame_eq l), ef]
  dsimp only
  rw [decide_eq_true rfl, Bool.not_true, fk_f]
  have hsb : ∀ k, k ≤ l.length → 0 ≤ sumN (fun i => fB l i * ((F / fP l i : Nat) : Int)) k ∧ sumN (fun i => fB l i * ((F / fP l i : Nat) : Int)) k ≤ 48000 * k := by
    intro k
    induction k with
    | zero => intro _; exact ⟨Int.le_refl _, Int.le_refl _⟩
    | succ k ih =>
      intro hk
      obtain ⟨a, b⟩ := ih (by omega)
      obtain ⟨p1, _, b1, b2⟩ := fPB hf (show k < l.length by omega)
      have hq : F / fP l k ≤ 240 := Nat.le_trans (Nat.div_le_self _ _) F1
      show 0 ≤ sumN _ k + fB l k * ((F / fP l k : Nat) : Int) ∧ sumN _ k + fB l k * ((F / fP l k : Nat) : Int) ≤ _
      have m1 := (mulq b1 b2 hq).1
      generalize fB l k * ((F / fP l k : Nat) : Int) = z at m1 ⊢
      exact ⟨by omega, by omega⟩
  refine lp_upS l.length (by unfold FU; omega) (fun k s => s = sumN (fun i => fB l i * ((F / fP l i : Nat) : Int)) k) (0 : Int) rfl ?_
  rintro nx k s hk rfl hnx
  dsimp only
  rw [lt_nat]
  by_cases c : k < l.length
  · have hfk := List.getElem?_eq_getElem c
    obtain ⟨p1, p2, b1, b2⟩ := fPB hf c
    have hP := (hf.1 _ (List.getElem_mem c)).P
    have s1 := hsb k (by omega)
    have et : ((F : Int)).tdiv l[k].P = ((F / fP l k : Nat) : Int) := by
      rw [Int.tdiv_eq_ediv_of_nonneg (by omega), fP_at hfk]
      conv => lhs; rw [show l[k].P = ((l[k].P.toNat : Nat) : Int) by omega]
      rfl
    have hq : F / fP l k ≤ 240 := Nat.le_trans (Nat.div_le_self _ _) F1
    obtain ⟨m1, m2⟩ := mulq (B := l[k].B) (by omega) (by omega) hq
    have s2 : 0 ≤ sumN (fun i => fB l i * ((F / fP l i : Nat) : Int)) k + l[k].B * ((F / fP l k : Nat) : Int) ∧ sumN (fun i => fB l i * ((F / fP l i : Nat) : Int)) k + l[k].B * ((F / fP l k : Nat) : Int) ≤ 400000 := by
      generalize l[k].B * ((F / fP l k : Nat) : Int) = z at m1 ⊢
      omega
    rw [decide_eq_true c, fk_t, ix_lt c, ix_lt c, ck_t (decide_eq_true (by omega)), et, wr_in ((F / fP l k : Nat) : Int) ⟨Int.le_trans (by decide) m2.1, Int.le_trans m2.2 (by decide)⟩, wr_in (l[k].B * _) ⟨Int.le_trans (by decide) m1.1, Int.le_trans m1.2 (by decide)⟩, wr_in (_ + _) ⟨Int.le_trans (by decide) s2.1, Int.le_trans s2.2 (by decide)⟩, wr_succ k _ c (by omega)]
    refine hnx _ c ?_
    show _ = sumN _ k + fB l k * ((F / fP l k : Nat) : Int)
    rw [fB_at hfk]
  have ek : k = l.length := by omega
  subst ek
  rw [decide_eq_false c, fk_f]
  clear hnx nx hk c
  rcases hx3 with ⟨e7, t, o, w, a, b⟩ | ⟨e0, o, w, a, b, hT, hFr, hA⟩
  · have hs : ¬ sumN (fun i => fB l i * ((F / fP l i : Nat) : Int)) l.length ≤ (F : Int) := fun h => a.fine hf (util_of hf F0 hdv h) b
    rw [decide_eq_false (show ¬ x3.2 = 0 by omega), decide_eq_false hs, decide_eq_true rfl, Bool.not_true, fk_f]
    refine jn_to true (fun k9 => by rw [Bool.not_false, fk_t]) ?_
    rw [fk_t, decide_eq_true e7, fk_t, bnd_eq top_works_eq]
  have hs : sumN (fun i => fB l i * ((F / fP l i : Nat) : Int)) l.length ≤ (F : Int) := a.sum hf b hdv
  rw [decide_eq_true e0, decide_eq_true hs, decide_eq_true rfl, Bool.not_true, fk_f]
  by_cases c0 : l.length = 0
  · refine jn_to true (fun k9 => by rw [fk_f, decide_eq_true (by omega)]) ?_
    rw [fk_t, decide_eq_false (by omega), fk_f, decide_eq_true (by omega), fk_t, bnd_eq top_works_eq]
  refine jn_to false (fun k9 => by rw [fk_f, decide_eq_false (by omega)]) ?_
  have ha8 := wfI_8 ha
  have ew : IntKind.i64.wrap a1 = a1 := wr_in a1 (by omega)
  rw [fk_f, ck_t (decide_eq_true (by omega)), ew]
  obtain ⟨j, ej, hj⟩ : ∃ j : Nat, a1.tmod (l.length : Int) = (j : Int) ∧ j < l.length := ⟨a1.toNat % l.length, by
    rw [Int.tmod_eq_emod_of_nonneg (by omega)]
    conv => lhs; rw [show a1 = ((a1.toNat : Nat) : Int) by omega]
    rfl, Nat.mod_lt _ (by omega)⟩
  obtain ⟨m, rfl⟩ : ∃ m : Nat, n = (m : Int) := ⟨n.toNat, by omega⟩
  rw [ej]
  obtain ⟨r, er, er0, p, hp, erv⟩ := table_Least_ex hT (k := (j : Int)) (by omega) (n := m) (by omega)
  have hfj := List.getElem?_eq_getElem hj
  have hw := lay_window hf a b F0 hFr hA hfj (hdv j hj) p m
  have hfp := hf.1 _ (List.getElem_mem hj)
  rw [bnd_eq er, ix_lt hj, bnd_eq (supply_Bound_eq _ _), if_pos ⟨hfp, by omega, by omega⟩, if_pos ⟨hfp, by omega, by omega⟩]
  dsimp only
  rw [decide_eq_true er0, fk_t, decide_eq_true rfl, fk_t, decide_eq_true (by rw [erv]; exact hw), fk_t, decide_eq_true hFr, fk_t, bnd_eq top_works_eq]
end Go.Proofs.YtpephpefjddgcaaGreat
namespace Go.Proofs.YtpephpefjddgcaaGreat.topSupplies
open Go Go.VC Go.ChangeShapes Go.WideShapes Go.ChangeAt Go.RowKit
theorem own : ownKnob Tryz.prog.godebug = none := by kernel_rfl
theorem laidOut : laidOutB Tryz.prog = true := by kernel_rfl
theorem lifted (os : Os) (started : os.Started) (H : Type) (enc : TypeId × Value → H) :
    ReturnsInHanded {} Tryz.checked os 4 .any (Rows.topSuppliesSpec.pre6 enc Tryz.prog Tryz.f4 Rows.topSuppliesRow.domain false) (Rows.topSuppliesSpec.post enc Tryz.prog Tryz.f4 false true false false) := by
  refine returnsInHanded_of_change_sized (C := Tryz.checked) own started (by kernel_rfl) Tryz.func4
    (ChangeSpec.witness6 (enc := enc) (C := Tryz.checked) false ⟨#[], #[.slice none 0 0, .int .u8 0, .int .i64 0], []⟩ 8 (by kernel_rfl) (by kernel_rfl) (by kernel_rfl) (by kernel_rfl)) ?_
  intro W base args ds gs before hval0 hW hcnd hsz0 _
  have hsz : (DataW.weightsEach Tryz.prog (Tryz.f4.params.toList ++ Rows.topSuppliesSpec.plain.varTypes Tryz.prog) (ds ++ gs)).all (· ≤ reachBytes) = true := hsz0
  have hval : ∀ (j : Nat) t v, Tryz.f4.params[j]? = some t → args[j]? = some v → Value.okWide Tryz.prog W .any base t v := hval0
  have hW' := hW
  obtain ⟨p, q, hA0, hV, rfl, hfz, hnd⟩ := hW
  have hA : DataW.TrodAll enc Tryz.prog W 0 (fun _ => true) true Tryz.f4.params.toList args.toList ds p := hA0
  rw [Tryz.params4] at hA hval hsz
  obtain ⟨v0, vs0, d0, ds0, p0, q0, hargs, rfl, rfl, h0, r0⟩ := trodAll_cons hA
  obtain ⟨v1, vs1, d1, ds1, p1, q1, rfl, rfl, rfl, h1, r1⟩ := trodAll_cons r0
  obtain ⟨v2, vs2, d2, ds2, p2, q2, rfl, rfl, rfl, h2, r2⟩ := trodAll_cons r1
  obtain ⟨rfl, rfl, rfl⟩ := trodAll_nil r2
  obtain rfl : args = #[v0, v1, v2] := by cases args; simp_all
  obtain ⟨rfl, rfl⟩ := trodVars_none hV
  have lt0 : ∀ x ∈ p0, x.block < W.heap.size := by obtain ⟨m, hm⟩ := h0; exact DataW.trod_lt m _ _ _ hm
  have wt0 : ∀ k ∈ d0.weights Tryz.prog 40, k ≤ BB := fun k hk => of_decide_eq_true (List.all_eq_true.1 hsz _ (DataW.weights_mem_each (j := 0) rfl rfl k hk))
  obtain ⟨c0, s0, g0⟩ := open_cv tab (m := 8) (t := 40) rfl (hval 0 40 v0 rfl rfl) h0 wt0
  have g0 := g0 _ T40
  obtain ⟨a0, rfl, w0⟩ := (s0.l (f := Face.enc) (W := (fun x => Face.wf x)) T40 T24 (fun _ _ h => (Face.of h)))
  have lt1 : ∀ x ∈ p1, x.block < W.heap.size := by obtain ⟨m, hm⟩ := h1; exact DataW.trod_lt m _ _ _ hm
  have wt1 : ∀ k ∈ d1.weights Tryz.prog 5, k ≤ BB := fun k hk => of_decide_eq_true (List.all_eq_true.1 hsz _ (DataW.weights_mem_each (j := 1) rfl rfl k hk))
  obtain ⟨c1, s1, g1⟩ := open_cv tab (m := 8) (t := 5) rfl (hval 1 5 v1 rfl rfl) h1 wt1
  have g1 := g1 _ T5
  obtain ⟨a1, rfl, w1⟩ := (s1.i T5)
  have lt2 : ∀ x ∈ p2, x.block < W.heap.size := by obtain ⟨m, hm⟩ := h2; exact DataW.trod_lt m _ _ _ hm
  have wt2 : ∀ k ∈ d2.weights Tryz.prog 3, k ≤ BB := fun k hk => of_decide_eq_true (List.all_eq_true.1 hsz _ (DataW.weights_mem_each (j := 2) rfl rfl k hk))
  obtain ⟨c2, s2, g2⟩ := open_cv tab (m := 8) (t := 3) rfl (hval 2 3 v2 rfl rfl) h2 wt2
  have g2 := g2 _ T3
  obtain ⟨a2, rfl, w2⟩ := (s2.i T3)
  clear hA0 hval0 hsz0 hsz
  have pure := proofTopSupplies a0 a1 a2 w0 w1 w2
  refine ((top_TopSupplies_w a0 a1 a2 true pure).2 W (pw W) [v0, v1, v2] (fun _ h => h) (All2.cons g0 (All2.cons g1 (All2.cons g2 All2.nil)))).mono fun e W' ⟨v, rs, p', he, hR, hrep, bel, _⟩ => ?_
  subst hR he
  obtain rfl := RepD_bool hrep
  exact ⟨_, rfl, _, _, _, [], _, [], hW', trodAll_mk1 (shut_bool Tryz.underlying4 _), (trodAll_cons_mk (Below.trod laidOut (by kernel_rfl) (of_decide_eq_true (by kernel_rfl)) h0 bel lt0) (trodAll_cons_mk (Below.trod laidOut (by kernel_rfl) (of_decide_eq_true (by kernel_rfl)) h1 bel lt1) (trodAll_cons_mk (Below.trod laidOut (by kernel_rfl) (of_decide_eq_true (by kernel_rfl)) h2 bel lt2) trodAll_mk0))), rfl, bel.frame _, fun h => by cases h⟩
theorem over : Rows.topSuppliesRow.holds Tryz.pinned (OpenSpec.ofChange Rows.topSuppliesSpec) :=
  OpenClaim.holds_of_wide 4 Tryz.f4 rfl rfl rfl rfl rfl rfl rfl ⟨rfl, rfl, rfl, rfl, rfl⟩ rfl rfl rfl rfl rfl (by kernel_rfl) Tryz.func4 (by kernel_rfl)
    (of_decide_eq_true (by kernel_rfl)) (by unfold Func.isWrapper; first | (rw [if_pos (by decide +kernel)]; kernel_rfl) | (rw [if_neg (by decide +kernel)]; exact ⟨rfl, rfl⟩))
    (fun os started H enc _ => lifted os started H enc)
end Go.Proofs.YtpephpefjddgcaaGreat.topSupplies
namespace Go.Proofs.YtpephpefjddgcaaGreat
theorem topSupplies_holds : Rows.TopSuppliesSaid := topSupplies.over
end Go.Proofs.YtpephpefjddgcaaGreat
