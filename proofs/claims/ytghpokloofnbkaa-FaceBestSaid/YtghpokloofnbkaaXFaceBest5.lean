/- It is proved that the law FaceBest returns true at every input that the row lets in; there is no condition beside the row's own. -/
import Derived.Test.YtghpokloofnbkaaXFaceBest4
import Derived.Test.YtghpokloofnbkaaRows
set_option linter.unusedVariables false
set_option linter.unusedSimpArgs false
set_option maxRecDepth 100000
set_option maxHeartbeats 4000000
namespace Go.Proofs.Ytghpokloofnbkaa
open Go Go.VC
/-! The least interface of a period. -/
theorem jn_to {σ R : Type} {Y : σ → Option R} {X : (σ → Option R) → Option R} {r : Option R} (v : σ) (hX : ∀ k, X k = k v) (hY : Y v = r) : jn Y X = r := by
  rw [jn_eq, hX]; exact hY
theorem eqI_face (x y : Face) : eqI [.i .i64 x.P, .i .i64 x.B] [.i .i64 y.P, .i .i64 y.B] = decide (x = y) := by
  obtain ⟨a, b⟩ := x
  obtain ⟨c, d⟩ := y
  unfold eqI
  rw [decide_eq_decide]
  simp
theorem fits_face {l : List Task} {f : Face} (h : fitsF l f) : 1 ≤ f.B ∧ f.B ≤ f.P ∧ f.P ≤ 200 := h.1.2.1
theorem fits_b {l : List Task} {p b : Int} (h : fitsF l ⟨p, b⟩) : 1 ≤ b ∧ b ≤ p ∧ p ≤ 200 := h.1.2.1
theorem fits_up {l : List Task} {p b : Int} (h : fitsF l ⟨p, b⟩) : ∀ (n : Nat), b + (n : Int) ≤ p → fitsF l ⟨p, b + (n : Int)⟩
  | 0, _ => by rw [show b + ((0 : Nat) : Int) = b by omega]; exact h
  | n + 1, hn => by
    have := fits_more (fits_up h n (by omega)) (show b + (n : Int) + 1 ≤ p by omega)
    rw [show b + ((n + 1 : Nat) : Int) = b + (n : Int) + 1 by omega]
    exact this
theorem fits_le {l : List Task} {p b c : Int} (h : fitsF l ⟨p, b⟩) (h1 : b ≤ c) (h2 : c ≤ p) : fitsF l ⟨p, c⟩ := by
  have := fits_up h (c - b).toNat (by omega)
  rwa [show b + ((c - b).toNat : Int) = c by omega] at this
def isLeast (l : List Task) (p b : Int) : Prop := fitsF l ⟨p, b⟩ ∧ ∀ c, c < b → ¬ fitsF l ⟨p, c⟩
theorem least_ex {l : List Task} {p : Int} : ∀ (n : Nat) (b : Int), b.toNat ≤ n → fitsF l ⟨p, b⟩ → ∃ b, isLeast l p b
  | 0, b, h, hf => by have := (fits_b hf).1; omega
  | n + 1, b, h, hf => by
    by_cases c : fitsF l ⟨p, b - 1⟩
    · exact least_ex n (b - 1) (by have := (fits_b hf).1; omega) c
    · refine ⟨b, hf, fun d hd hfd => c (fits_le hfd (by omega) ?_)⟩
      have := (fits_b hf).2.1
      omega
open Classical in
noncomputable def leastN (l : List Task) (p : Int) : Int := if h : ∃ b, isLeast l p b then Classical.choose h else 0
theorem leastN_is {l : List Task} {p b : Int} (h : fitsF l ⟨p, b⟩) : isLeast l p (leastN l p) := by
  have hx := least_ex _ b (Nat.le_refl _) h
  unfold leastN
  rw [dif_pos hx]
  exact Classical.choose_spec hx
theorem leastN_eq {l : List Task} {p b : Int} (h : isLeast l p b) : leastN l p = b := by
  have hl := leastN_is h.1
  have h1 : ¬ leastN l p < b := fun c => h.2 _ c hl.1
  have h2 : ¬ b < leastN l p := fun c => hl.2 _ c h.1
  omega
theorem face_Least_1_eq (b : Int) (l : List Task) (p : Int) (hl : l.length ≤ 4611686018427387904) : face_Least_1 b l p = some (decide (fitsF l ⟨p, b⟩)) := by
  unfold face_Least_1
  rw [bnd_eq (verdict_Fits_eq l ⟨p, b⟩ hl)]
theorem face_least_eq (l : List Task) (p : Int) (hl : l.length ≤ 4611686018427387904) (h1 : 1 ≤ p) (h2 : p ≤ 200) : face_least_int 1 p l p = some (if fitsF l ⟨p, p⟩ then (leastN l p, true) else (0, false)) := by
  unfold face_least_int
  rw [bnd_eq (face_Least_1_eq p l p hl)]
  by_cases h : fitsF l ⟨p, p⟩
  rotate_left
  · rw [decide_eq_false h, Bool.not_false, fk_t, if_neg h]
  rw [decide_eq_true h, Bool.not_true, fk_f, if_pos h]
  refine lp_inv (fun v => (v.2 - v.1).toNat) (fun v => ∃ a b : Int, v = (a, b) ∧ 1 ≤ a ∧ a ≤ b ∧ b ≤ p ∧ fitsF l ⟨p, b⟩ ∧ ∀ c, c < a → ¬ fitsF l ⟨p, c⟩) ?_ FU _ ⟨1, p, rfl, by omega, h1, by omega, h, fun c hc hf => by have := (fits_b hf).1; omega⟩ (by unfold FU; simp only; omega)
  rintro nx v ⟨a, b, rfl, ha, hab, hb, hf, hn⟩ hnx
  dsimp only
  by_cases hlt : a < b
  rotate_left
  · have e : a = b := by omega
    subst e
    rw [decide_eq_false hlt, fk_f, leastN_eq ⟨hf, hn⟩]
  have e1 : wr (a + wr ((wr (b - a)).tdiv 2)) = a + (b - a) / 2 := by
    rw [wr_in (b - a) (by omega), Int.tdiv_eq_ediv_of_nonneg (by omega), wr_in ((b - a) / 2) (by omega), wr_in _ (by omega)]
  rw [decide_eq_true hlt, fk_t, ck_t (by decide), e1, bnd_eq (face_Least_1_eq _ l p hl)]
  have e2 : wr (a + (b - a) / 2 + 1) = a + (b - a) / 2 + 1 := wr_in _ (by omega)
  by_cases c : fitsF l ⟨p, a + (b - a) / 2⟩
  · rw [decide_eq_true c, fk_t]
    exact hnx _ ⟨a, _, rfl, ha, by omega, by omega, c, hn⟩ (by simp only; omega)
  · rw [decide_eq_false c, fk_f, e2]
    refine hnx _ ⟨_, b, rfl, by omega, by omega, hb, hf, fun d hd hfd => ?_⟩ (by simp only; omega)
    exact c (fits_le hfd (by omega) (by omega))
noncomputable def leastV (l : List Task) (p : Int) : Face × Int :=
  if AllP l ∧ 1 ≤ p ∧ p ≤ 200 then (if errC l ⟨p, 1⟩ = 0 then (if fitsF l ⟨p, p⟩ then (⟨p, leastN l p⟩, 0) else (⟨0, 0⟩, 7)) else (⟨0, 0⟩, errC l ⟨p, 1⟩)) else (⟨0, 0⟩, 1)
theorem face_Least_eq (l : List Task) (p : Int) (hl : l.length ≤ 4611686018427387904) : face_Least l p = some (leastV l p) := by
  unfold face_Least leastV
  refine jn_to (!decide (AllP l ∧ 1 ≤ p ∧ p ≤ 200)) (fun k => ?_) ?_
  · rw [bnd_eq (task_All_eq l hl)]
    by_cases h1 : AllP l
    rotate_left
    · rw [decide_eq_false h1, Bool.not_false, fk_t, decide_eq_false (fun h => h1 h.1)]; rfl
    rw [decide_eq_true h1, Bool.not_true, fk_f]
    by_cases h2 : p < 1
    · rw [decide_eq_true h2, fk_t, decide_eq_false (by omega)]; rfl
    rw [decide_eq_false h2, fk_f]
    by_cases h3 : p > 200
    · rw [decide_eq_true h3, decide_eq_false (by omega)]; rfl
    · rw [decide_eq_false h3, decide_eq_true ⟨h1, by omega, by omega⟩]; rfl
  by_cases h : AllP l ∧ 1 ≤ p ∧ p ≤ 200
  rotate_left
  · rw [decide_eq_false h, Bool.not_false, fk_t, if_neg h]
  rw [decide_eq_true h, Bool.not_true, fk_f, if_pos h, bnd_eq (verdict_Fits_eq l ⟨p, 1⟩ hl)]
  by_cases h2 : errC l ⟨p, 1⟩ = 0
  rotate_left
  · rw [decide_eq_false h2, Bool.not_false, fk_t, if_neg h2]
  rw [decide_eq_true h2, Bool.not_true, fk_f, if_pos h2, bnd_eq (face_least_eq l p hl h.2.1 h.2.2)]
  by_cases h3 : fitsF l ⟨p, p⟩
  · rw [if_pos h3, if_pos h3]; rfl
  · rw [if_neg h3, if_neg h3]; rfl
theorem errC_zero {l : List Task} {f : Face} : errC l f = 0 ↔ okC l f := ⟨fun h => Classical.byContradiction fun hc => errC_ne hc h, fun h => errC_ok h⟩
theorem okC_b {l : List Task} {p b c : Int} (h : okC l ⟨p, b⟩) (h1 : 1 ≤ c) (h2 : c ≤ p) : okC l ⟨p, c⟩ := ⟨h.1, ⟨h1, h2, h.2.1.2.2⟩, h.2.2⟩
theorem cycV_err (l : List Task) (f : Face) : (cycV l f).2.2 = errC l f := by
  unfold cycV
  split
  · rename_i h; rw [errC_ok h]
  · rfl
theorem ref11_Least_eq (l : List Task) (p : Int) (hl : l.length ≤ 4611686018427387904) (hs : ∀ t ∈ l, t.Secs.length ≤ 4611686018427387904) : ref11_Least l p = some ((leastV l p).1.B, (leastV l p).2) := by
  unfold ref11_Least leastV
  refine jn_to (!decide (AllP l ∧ 1 ≤ p ∧ p ≤ 200)) (fun k => ?_) ?_
  · rw [bnd_eq (ref05_All_eq l hl hs)]
    by_cases h1 : AllP l
    rotate_left
    · rw [decide_eq_false h1, Bool.not_false, fk_t, decide_eq_false (fun h => h1 h.1)]; rfl
    rw [decide_eq_true h1, Bool.not_true, fk_f]
    by_cases h2 : p < 1
    · rw [decide_eq_true h2, fk_t, decide_eq_false (by omega)]; rfl
    rw [decide_eq_false h2, fk_f]
    by_cases h3 : p > 200
    · rw [decide_eq_true h3, decide_eq_false (by omega)]; rfl
    · rw [decide_eq_false h3, decide_eq_true ⟨h1, by omega, by omega⟩]; rfl
  by_cases h : AllP l ∧ 1 ≤ p ∧ p ≤ 200
  rotate_left
  · rw [decide_eq_false h, Bool.not_false, fk_t, if_neg h]
  rw [decide_eq_true h, Bool.not_true, fk_f, if_pos h, bnd_eq (ref10_Cycle_eq l ⟨p, 1⟩ hl hs), cycV_err]
  by_cases h2 : errC l ⟨p, 1⟩ = 0
  rotate_left
  · rw [decide_eq_false h2, Bool.not_false, fk_t, if_neg h2]
  rw [decide_eq_true h2, Bool.not_true, fk_f, if_pos h2]
  have hok := errC_zero.1 h2
  refine lp_inv (fun v => (p + 1 - v).toNat) (fun v => 1 ≤ v ∧ v ≤ p + 1 ∧ ∀ c, c < v → ¬ fitsF l ⟨p, c⟩) ?_ FU _ ⟨by omega, by omega, fun c hc hf => by have := (fits_b hf).1; omega⟩ (by unfold FU; omega)
  rintro nx b ⟨hb1, hb2, hn⟩ hnx
  by_cases hb : b ≤ p
  rotate_left
  · have : ¬ fitsF l ⟨p, p⟩ := hn p (by omega)
    rw [decide_eq_false hb, fk_f, if_neg this]
  rw [decide_eq_true hb, fk_t, bnd_eq (ref10_Fits_eq l ⟨p, b⟩ hl hs (okC_b hok hb1 hb)), wr_in (b + 1) (by omega)]
  by_cases c : fitsF l ⟨p, b⟩
  · rw [decide_eq_true c, fk_t, if_pos (fits_le c hb (by omega)), leastN_eq ⟨c, hn⟩]
  · rw [decide_eq_false c, fk_f]
    refine hnx _ ⟨by omega, by omega, fun d hd hfd => ?_⟩ (by show (p + 1 - (b + 1)).toNat < (p + 1 - b).toNat; omega)
    by_cases e : d = b
    · subst e; exact c hfd
    · exact hn d (by omega) hfd
theorem leastV_ok {l : List Task} {p : Int} (h : (leastV l p).2 = 0) : AllP l ∧ 1 ≤ p ∧ p ≤ 200 ∧ okC l ⟨p, 1⟩ ∧ isLeast l p (leastN l p) ∧ leastV l p = (⟨p, leastN l p⟩, 0) := by
  unfold leastV at h ⊢
  split at h
  rotate_left
  · exact absurd h (by decide)
  rename_i h1
  split at h
  rotate_left
  · rename_i h2; exact absurd h h2
  rename_i h2
  split at h
  rotate_left
  · exact absurd h (by decide)
  rename_i h3
  exact ⟨h1.1, h1.2.1, h1.2.2, errC_zero.1 h2, leastN_is h3, by rw [if_pos h1, if_pos h2, if_pos h3]⟩
theorem leastV_bad {l : List Task} {p : Int} (h : (leastV l p).2 ≠ 0) : (leastV l p).1 = ⟨0, 0⟩ := by
  unfold leastV at h ⊢
  split at h
  · rename_i h1
    rw [if_pos h1]
    split at h
    · rename_i h2
      rw [if_pos h2]
      split at h
      · exact absurd rfl h
      · rename_i h3; rw [if_neg h3]
    · rename_i h2; rw [if_neg h2]
  · rename_i h1; rw [if_neg h1]
end Go.Proofs.Ytghpokloofnbkaa
namespace Go.Proofs.Ytghpokloofnbkaa
open Go Go.VC
noncomputable def law11_knows  : Option Bool :=
  bnd (face_Least ([⟨(1 : Int), (4 : Int), (4 : Int), []⟩] : List Task) (2 : Int)) fun x1 => bnd (face_Least ([⟨(1 : Int), (4 : Int), (4 : Int), []⟩] : List Task) (4 : Int)) fun x2 => bnd (face_Least ([⟨(4 : Int), (4 : Int), (4 : Int), []⟩, ⟨(1 : Int), (4 : Int), (4 : Int), []⟩] : List Task) (2 : Int)) fun x3 => fk (eqI [.i .i64 x1.1.P, .i .i64 x1.1.B] [.i .i64 (2 : Int), .i .i64 (1 : Int)]) (fk (decide (x1.2 = (0 : Int))) (fk (eqI [.i .i64 x2.1.P, .i .i64 x2.1.B] [.i .i64 (4 : Int), .i .i64 (3 : Int)]) (fk (decide (x2.2 = (0 : Int))) (some (decide (x3.2 = (7 : Int)))) (some false)) (some false)) (some false)) (some false)
theorem law11_knows_w  (r : Bool) (h : law11_knows = some r) : Go.VC.Spec Try.prog 8 [] (fun y => y = E_Bool r) := by
  refine Go.VC.Spec.of_xc (args := []) (fn := Try.f8) tab ⟨[(0, []), (1, [1]), (2, [1, 2, 3]), (3, [2, 3, 4, 5]), (4, [2, 3, 4, 5, 7]), (5, [0])], [], [], []⟩ 47 [.tmp 0] rfl rfl rfl rfl rfl rfl ?_
  conv => whnf
  refine liS ([⟨(1 : Int), (4 : Int), (4 : Int), []⟩] : List Task) Task.enc rfl rfl ?_
  conv => whnf
  refine iceS 2 ?_
  conv => whnf
  refine ccS (E := E_Face_Int) h (face_Least_w ([⟨(1 : Int), (4 : Int), (4 : Int), []⟩] : List Task) (2 : Int)) rfl rfl (fun x1 h => ?_)
  conv => whnf
  refine ccS (E := E_Face_Int) h (face_Least_w ([⟨(1 : Int), (4 : Int), (4 : Int), []⟩] : List Task) (4 : Int)) rfl rfl (fun x2 h => ?_)
  conv => whnf
  refine liS ([⟨(4 : Int), (4 : Int), (4 : Int), []⟩, ⟨(1 : Int), (4 : Int), (4 : Int), []⟩] : List Task) Task.enc rfl rfl ?_
  conv => whnf
  refine iceS 24 ?_
  conv => whnf
  refine ccS (E := E_Face_Int) h (face_Least_w ([⟨(4 : Int), (4 : Int), (4 : Int), []⟩, ⟨(1 : Int), (4 : Int), (4 : Int), []⟩] : List Task) (2 : Int)) rfl rfl (fun x3 h => ?_)
  conv => whnf
  refine fkS h (fun h => ?_) (fun h => ?_)
  · conv => whnf
    refine fkS h (fun h => ?_) (fun h => ?_)
    · conv => whnf
      refine fkS h (fun h => ?_) (fun h => ?_)
      · conv => whnf
        refine fkS h (fun h => ?_) (fun h => ?_)
        · conv => whnf
          exact rt (E := E_Bool) h rfl
        conv => whnf
        exact rt (E := E_Bool) h rfl
      conv => whnf
      exact rt (E := E_Bool) h rfl
    conv => whnf
    exact rt (E := E_Bool) h rfl
  conv => whnf
  exact rt (E := E_Bool) h rfl

end Go.Proofs.Ytghpokloofnbkaa
namespace Go.Proofs.Ytghpokloofnbkaa
open Go Go.VC
noncomputable def law11_FaceBest (a0 : List Task) (a1 : Int) : Option Bool :=
  bnd (law05_Great a0) fun x1 => fk x1 (bnd law11_knows fun x2 => some x2) (bnd (face_Best a0 a1) fun x3 => jn (fun (w4 : Bool) => fk w4 (fk (eqI [.i .i64 x3.1.P, .i .i64 x3.1.B] [.i .i64 (0 : Int), .i .i64 (0 : Int)]) (fk (decide (x3.2 = (1 : Int))) (bnd law11_knows fun x6 => some x6) (some false)) (some false)) (lp (fun nx7 (v7 : Int) => fk (decide (v7 ≤ a1)) (jn (fun (w8 : Unit) => nx7 (wr (v7 + (1 : Int)))) (fun k8 => bnd (face_Least a0 v7) fun x9 => fk (!decide (x9.2 = (0 : Int))) (k8 ()) (jn (fun (w10 : Bool) => fk w10 (some false) (k8 ())) (fun k10 => fk (!decide (x3.2 = (0 : Int))) (k10 true) (fk (decide ((wr (x9.1.B * x3.1.P)) < (wr (x3.1.B * x9.1.P)))) (k10 true) (fk (decide ((wr (x9.1.B * x3.1.P)) = (wr (x3.1.B * x9.1.P)))) (k10 (decide (x9.1.P > x3.1.P))) (k10 false))))))) (fk (!decide (x3.2 = (0 : Int))) (fk (eqI [.i .i64 x3.1.P, .i .i64 x3.1.B] [.i .i64 (0 : Int), .i .i64 (0 : Int)]) (fk (decide (x3.2 = (7 : Int))) (bnd law11_knows fun x11 => some x11) (some false)) (some false)) (bnd (face_Least a0 x3.1.P) fun x12 => fk (decide (x3.1.P ≥ (1 : Int))) (fk (decide (x3.1.P ≤ a1)) (fk (eqI [.i .i64 x12.1.P, .i .i64 x12.1.B] [.i .i64 x3.1.P, .i .i64 x3.1.B]) (fk (decide (x12.2 = (0 : Int))) (bnd law11_knows fun x13 => some x13) (some false)) (some false)) (some false)) (some false)))) FU (1 : Int))) (fun k4 => bnd (ref05_All a0) fun x5 => fk (!x5) (k4 true) (fk (decide (a1 < (1 : Int))) (k4 true) (k4 (decide (a1 > (24 : Int)))))))
theorem law11_FaceBest_w (a0 : List Task) (a1 : Int) (r : Bool) (h : law11_FaceBest a0 a1 = some r) : Go.VC.Spec Try.prog 6 [.d (.sl (a0.map Task.enc)), .d (.int .i64 a1)] (fun y => y = E_Bool r) := by
  refine Go.VC.Spec.of_xc (args := [.d (.sl (a0.map Task.enc)), .d (.int .i64 a1)]) (fn := Try.f6) tab ⟨[(0, [0, 1]), (1, [0, 1, 13]), (2, [4]), (3, [0, 1, 5, 6]), (4, [0, 1, 5, 6, 31]), (5, [4]), (6, [0, 1, 5, 6, 7]), (7, [0, 1, 5, 6, 7, 44]), (8, [0, 1, 5, 6, 7]), (9, [0, 1, 5, 6, 7, 8, 9]), (10, [0, 1, 5, 6, 7, 8, 54]), (11, [0, 1, 5, 6, 7, 89]), (12, [4]), (13, [0, 1, 5, 6, 91]), (14, [4]), (15, [1, 5, 10, 11]), (16, [4])], [], [100031, 100089, 8], []⟩ 130 [.tmp 4] rfl rfl rfl rfl rfl rfl ?_
  conv => whnf
  refine caS (E := E_Bool) h (law05_Great_w a0) rfl (fun _ => rfl) (fun x1 h => ?_)
  conv => whnf
  refine fkS h (fun h => ?_) (fun h => ?_)
  · conv => whnf
    refine caS (E := E_Bool) h law11_knows_w rfl (fun _ => rfl) (fun x2 h => ?_)
    conv => whnf
    exact rt (E := E_Bool) h rfl
  conv => whnf
  refine ccS (E := E_Face_Int) h (face_Best_w a0 a1) rfl rfl (fun x3 h => ?_)
  conv => whnf
  refine jnS (fun w4 => ⟨[(0, .l (.d (.sl (a0.map Task.enc)))), (1, .l (.d (.int .i64 a1))), (5, .l (.ptr 6 0)), (6, .l (.d (.int .i64 x3.2))), (31, .l (.d (.bool w4)))], 130, [], [(6, [.d (.int .i64 x3.1.P), .d (.int .i64 x3.1.B)])], []⟩) h (fun k4 hk4 h => ?_) (fun w4 h => ?_)
  · conv => whnf
    refine caS (E := E_Bool) h (ref05_All_w a0) rfl (fun _ => rfl) (fun x5 h => ?_)
    conv => whnf
    refine fkS h (fun h => ?_) (fun h => ?_)
    · conv => whnf
      exact jeS hk4 h (Weak.refl _)
    conv => whnf
    refine fkS h (fun h => ?_) (fun h => ?_)
    · conv => whnf
      exact jeS hk4 h (Weak.refl _)
    conv => whnf
    exact jeS hk4 h (Weak.refl _)
  conv => whnf
  refine fkS h (fun h => ?_) (fun h => ?_)
  · conv => whnf
    refine fkS h (fun h => ?_) (fun h => ?_)
    · conv => whnf
      refine fkS h (fun h => ?_) (fun h => ?_)
      · conv => whnf
        refine caS (E := E_Bool) h law11_knows_w rfl (fun _ => rfl) (fun x6 h => ?_)
        conv => whnf
        exact rt (E := E_Bool) h rfl
      conv => whnf
      exact rt (E := E_Bool) h rfl
    conv => whnf
    exact rt (E := E_Bool) h rfl
  conv => whnf
  refine lpS (fun v7 => ⟨[(0, .l (.d (.sl (a0.map Task.enc)))), (1, .l (.d (.int .i64 a1))), (5, .l (.ptr 6 0)), (6, .l (.d (.int .i64 x3.2))), (7, .l (.d (.int .i64 v7)))], 130, [], [(6, [.d (.int .i64 x3.1.P), .d (.int .i64 x3.1.B)])], []⟩) h (Weak.refl _) (fun _ nx7 hn7 v7 h => ?_)
  conv => whnf
  refine fkS h (fun h => ?_) (fun h => ?_)
  · conv => whnf
    refine jnS (fun w8 => ⟨[(0, .l (.d (.sl (a0.map Task.enc)))), (1, .l (.d (.int .i64 a1))), (5, .l (.ptr 6 0)), (6, .l (.d (.int .i64 x3.2))), (7, .l (.d (.int .i64 v7)))], 130, [], [(6, [.d (.int .i64 x3.1.P), .d (.int .i64 x3.1.B)])], []⟩) h (fun k8 hk8 h => ?_) (fun w8 h => ?_)
    · conv => whnf
      refine ccS (E := E_Face_Int) h (face_Least_w a0 v7) rfl rfl (fun x9 h => ?_)
      conv => whnf
      refine fkS h (fun h => ?_) (fun h => ?_)
      · conv => whnf
        refine jeX hk8 h ?_
        conv => whnf
        refine WkF.step (Weak.keepS _ [0, 1, 5, 6, 7]) ?_
        conv => whnf
        exact WkF.refl _
      conv => whnf
      refine jnS (fun w10 => ⟨[(0, .l (.d (.sl (a0.map Task.enc)))), (1, .l (.d (.int .i64 a1))), (5, .l (.ptr 6 0)), (6, .l (.d (.int .i64 x3.2))), (7, .l (.d (.int .i64 v7))), (89, .l (.d (.bool w10)))], 130, [], [(6, [.d (.int .i64 x3.1.P), .d (.int .i64 x3.1.B)])], []⟩) h (fun k10 hk10 h => ?_) (fun w10 h => ?_)
      · conv => whnf
        refine fkS h (fun h => ?_) (fun h => ?_)
        · conv => whnf
          exact jeS hk10 h (Weak.refl _)
        conv => whnf
        refine fkS h (fun h => ?_) (fun h => ?_)
        · conv => whnf
          exact jeS hk10 h (Weak.refl _)
        conv => whnf
        refine fkS h (fun h => ?_) (fun h => ?_)
        · conv => whnf
          exact jeS hk10 h (Weak.refl _)
        conv => whnf
        exact jeS hk10 h (Weak.refl _)
      conv => whnf
      refine fkS h (fun h => ?_) (fun h => ?_)
      · conv => whnf
        exact rt (E := E_Bool) h rfl
      conv => whnf
      refine jeX hk8 h ?_
      conv => whnf
      refine WkF.step (Weak.keepS _ [0, 1, 5, 6, 7]) ?_
      conv => whnf
      exact WkF.refl _
    conv => whnf
    exact leS hn7 h (Weak.refl _)
  conv => whnf
  refine fkS h (fun h => ?_) (fun h => ?_)
  · conv => whnf
    refine fkS h (fun h => ?_) (fun h => ?_)
    · conv => whnf
      refine fkS h (fun h => ?_) (fun h => ?_)
      · conv => whnf
        refine caS (E := E_Bool) h law11_knows_w rfl (fun _ => rfl) (fun x11 h => ?_)
        conv => whnf
        exact rt (E := E_Bool) h rfl
      conv => whnf
      exact rt (E := E_Bool) h rfl
    conv => whnf
    exact rt (E := E_Bool) h rfl
  conv => whnf
  refine ccS (E := E_Face_Int) h (face_Least_w a0 x3.1.P) rfl rfl (fun x12 h => ?_)
  conv => whnf
  refine fkS h (fun h => ?_) (fun h => ?_)
  · conv => whnf
    refine fkS h (fun h => ?_) (fun h => ?_)
    · conv => whnf
      refine fkS h (fun h => ?_) (fun h => ?_)
      · conv => whnf
        refine fkS h (fun h => ?_) (fun h => ?_)
        · conv => whnf
          refine caS (E := E_Bool) h law11_knows_w rfl (fun _ => rfl) (fun x13 h => ?_)
          conv => whnf
          exact rt (E := E_Bool) h rfl
        conv => whnf
        exact rt (E := E_Bool) h rfl
      conv => whnf
      exact rt (E := E_Bool) h rfl
    conv => whnf
    exact rt (E := E_Bool) h rfl
  conv => whnf
  exact rt (E := E_Bool) h rfl

end Go.Proofs.Ytghpokloofnbkaa
namespace Go.Proofs.Ytghpokloofnbkaa
open Go Go.VC
def PureFaceBest : Prop := ∀ (a0 : List Task) (a1 : Int), (a0.length * 48 ≤ BB ∧ ∀ y1 ∈ a0, Task.wf y1) → wfI .i64 a1 → law11_FaceBest a0 a1 = some true
end Go.Proofs.Ytghpokloofnbkaa
namespace Go.Proofs.Ytghpokloofnbkaa
open Go Go.VC
theorem law11_knows_eq : law11_knows = some true := by kernel_rfl
def bestP (l : List Task) (n P B e : Int) : Prop :=
  (e = 7 ∧ P = 0 ∧ B = 0 ∧ ∀ q, 1 ≤ q → q < n → (leastV l q).2 ≠ 0) ∨
  (e = 0 ∧ 1 ≤ P ∧ P < n ∧ leastV l P = (⟨P, B⟩, 0) ∧ 1 ≤ B ∧ B ≤ P ∧ ∀ q, 1 ≤ q → q < n → (leastV l q).2 = 0 → B * q ≤ (leastV l q).1.B * P ∧ ((leastV l q).1.B * P = B * q → q ≤ P))
theorem leastV_b {l : List Task} {p : Int} (h : (leastV l p).2 = 0) : leastV l p = (⟨p, (leastV l p).1.B⟩, 0) ∧ 1 ≤ (leastV l p).1.B ∧ (leastV l p).1.B ≤ p := by
  obtain ⟨_, _, _, _, hL, e⟩ := leastV_ok h
  have hb := fits_b hL.1
  rw [e]
  exact ⟨rfl, hb.1, hb.2.1⟩
theorem mul_b {x y : Int} (hx : 0 ≤ x) (hx2 : x ≤ 24) (hy : 0 ≤ y) (hy2 : y ≤ 24) : 0 ≤ x * y ∧ x * y ≤ 24 * 24 := ⟨Int.mul_nonneg hx hy, Int.mul_le_mul hx2 hy2 hy (by omega)⟩
theorem face_Best_ex (l : List Task) (m : Int) (hl : l.length ≤ 4611686018427387904) (ha : AllP l) (h1 : 1 ≤ m) (h2 : m ≤ 24) : ∃ P B e, face_Best l m = some (⟨P, B⟩, e) ∧ bestP l (m + 1) P B e := by
  have key : ∃ r : Face × Int, face_Best l m = some r ∧ bestP l (m + 1) r.1.P r.1.B r.2 := by
    unfold face_Best
    rw [jn_eq, bnd_eq (task_All_eq l hl), decide_eq_true ha, Bool.not_true, fk_f, decide_eq_false (by omega), fk_f, decide_eq_false (by omega)]
    dsimp only
    rw [fk_f]
    refine lp_ex (fun v => (m + 1 - v.2.2.2).toNat) (fun v => ∃ P B e n : Int, v = (P, B, e, n) ∧ 1 ≤ n ∧ n ≤ m + 1 ∧ bestP l n P B e) (fun r : Face × Int => bestP l (m + 1) r.1.P r.1.B r.2) ?_ FU _ ⟨0, 0, 7, 1, rfl, by omega, by omega, .inl ⟨rfl, rfl, rfl, fun q a b => by omega⟩⟩ (by unfold FU; simp only; omega)
    rintro nx v ⟨P, B, e, n, rfl, hn1, hn2, hb⟩ hnx
    dsimp only
    by_cases h : n ≤ m
    rotate_left
    · have en : n = m + 1 := by omega
      subst en
      rw [decide_eq_false h, fk_f]
      exact ⟨_, rfl, hb⟩
    rw [decide_eq_true h, fk_t, jn_eq, bnd_eq (face_Least_eq l n hl), jn_eq, wr_in (n + 1) (by omega)]
    have hkeep : bestP l (n + 1) P B e → ∃ r, nx (P, B, e, n + 1) = some r ∧ bestP l (m + 1) r.1.P r.1.B r.2 := fun hb' => hnx _ ⟨P, B, e, n + 1, rfl, by omega, by omega, hb'⟩ (by simp only; omega)
    by_cases h0 : (leastV l n).2 = 0
    rotate_left
    · rw [decide_eq_false h0, fk_f]
      show ∃ r, nx (P, B, e, n + 1) = some r ∧ _
      refine hkeep ?_
      rcases hb with ⟨a, b, c, d⟩ | ⟨a, b, c, d, b1, b2, d2⟩
      · refine .inl ⟨a, b, c, fun q q1 q2 => ?_⟩
        by_cases eq : q = n
        · subst eq; exact h0
        · exact d q q1 (by omega)
      · refine .inr ⟨a, b, by omega, d, b1, b2, fun q q1 q2 q3 => ?_⟩
        by_cases eq : q = n
        · subst eq; exact absurd q3 h0
        · exact d2 q q1 (by omega) q3
    obtain ⟨eV, bV1, bV2⟩ := leastV_b h0
    have htake : bestP l (n + 1) n (leastV l n).1.B 0 → ∃ r, nx (n, (leastV l n).1.B, 0, n + 1) = some r ∧ bestP l (m + 1) r.1.P r.1.B r.2 := fun hb' => hnx _ ⟨_, _, _, n + 1, rfl, by omega, by omega, hb'⟩ (by simp only; omega)
    have eP : (leastV l n).1.P = n := by rw [eV]
    rw [decide_eq_true h0, fk_t, eP]
    rcases hb with ⟨a, b, c, d⟩ | ⟨a, b, c, d, b1, b2, d2⟩
    · subst a
      rw [decide_eq_false (by decide), Bool.not_false, fk_t]
      show ∃ r, nx (n, (leastV l n).1.B, 0, n + 1) = some r ∧ _
      refine htake (.inr ⟨rfl, by omega, by omega, eV, bV1, bV2, fun q q1 q2 q3 => ?_⟩)
      by_cases eq : q = n
      · subst eq; exact ⟨Int.le_refl _, fun _ => Int.le_refl _⟩
      · exact absurd q3 (d q q1 (by omega))
    · subst a
      have m1 := mul_b (x := (leastV l n).1.B) (y := P) (by omega) (by omega) (by omega) (by omega)
      have m2 := mul_b (x := B) (y := n) (by omega) (by omega) (by omega) (by omega)
      rw [decide_eq_true rfl, Bool.not_true, fk_f, wr_in ((leastV l n).1.B * P) (by omega), wr_in (B * n) (by omega)]
      by_cases hle : (leastV l n).1.B * P ≤ B * n
      · rw [decide_eq_true hle]
        show ∃ r, nx (n, (leastV l n).1.B, 0, n + 1) = some r ∧ _
        refine htake (.inr ⟨rfl, by omega, by omega, eV, bV1, bV2, fun q q1 q2 q3 => ⟨?_, fun _ => by omega⟩⟩)
        by_cases eq : q = n
        · subst eq; exact Int.le_refl _
        · obtain ⟨g1, _⟩ := d2 q q1 (by omega) q3
          have k1 := Int.mul_le_mul_of_nonneg_right hle (show 0 ≤ q by omega)
          have k2 := Int.mul_le_mul_of_nonneg_right g1 (show 0 ≤ n by omega)
          refine Int.le_of_mul_le_mul_right (a := P) ?_ (by omega)
          have e1 : (leastV l n).1.B * q * P = (leastV l n).1.B * P * q := Int.mul_right_comm _ _ _
          have e2 : B * n * q = B * q * n := Int.mul_right_comm _ _ _
          have e3 : (leastV l q).1.B * P * n = (leastV l q).1.B * n * P := Int.mul_right_comm _ _ _
          omega
      · rw [decide_eq_false hle]
        show ∃ r, nx (P, B, 0, n + 1) = some r ∧ _
        refine hkeep (.inr ⟨rfl, b, by omega, d, b1, b2, fun q q1 q2 q3 => ?_⟩)
        by_cases eq : q = n
        · subst eq; exact ⟨by omega, fun hh => by omega⟩
        · exact d2 q q1 (by omega) q3
  obtain ⟨r, h1, h2⟩ := key
  exact ⟨r.1.P, r.1.B, r.2, h1, h2⟩
theorem face_Best_bad (l : List Task) (m : Int) (hl : l.length ≤ 4611686018427387904) (h : ¬ (AllP l ∧ 1 ≤ m ∧ m ≤ 24)) : face_Best l m = some (⟨0, 0⟩, 1) := by
  unfold face_Best
  refine jn_to true (fun k => ?_) rfl
  rw [bnd_eq (task_All_eq l hl)]
  by_cases h1 : AllP l
  rotate_left
  · rw [decide_eq_false h1, Bool.not_false, fk_t]
  rw [decide_eq_true h1, Bool.not_true, fk_f]
  by_cases h2 : m < 1
  · rw [decide_eq_true h2, fk_t]
  rw [decide_eq_false h2, fk_f, decide_eq_true (show m > 24 from Int.not_le.1 fun h3 => h ⟨h1, by omega, h3⟩)]
theorem proofFaceBest : PureFaceBest := by
  intro l m hl hm
  have hll : l.length ≤ 4611686018427387904 := wf_len hl.1 (by omega)
  have hsl : ∀ t ∈ l, t.Secs.length ≤ 4611686018427387904 := fun t ht => (hl.2 t ht).len
  unfold law11_FaceBest
  simp only [law11_knows_eq, bnd_some]
  rw [bnd_eq (law05_Great_eq l hll)]
  by_cases hg : GreatP l
  · rw [decide_eq_true hg, fk_t]
  rw [decide_eq_false hg, fk_f]
  by_cases hh : AllP l ∧ 1 ≤ m ∧ m ≤ 24
  rotate_left
  · rw [bnd_eq (face_Best_bad l m hll hh)]
    refine jn_to true (fun k => ?_) ?_
    · rw [bnd_eq (ref05_All_eq l hll hsl)]
      by_cases h1 : AllP l
      rotate_left
      · rw [decide_eq_false h1, Bool.not_false, fk_t]
      rw [decide_eq_true h1, Bool.not_true, fk_f]
      by_cases h2 : m < 1
      · rw [decide_eq_true h2, fk_t]
      rw [decide_eq_false h2, fk_f, decide_eq_true (show m > 24 from Int.not_le.1 fun h3 => hh ⟨h1, by omega, h3⟩)]
    · rw [fk_t]
      show fk (eqI [.i .i64 0, .i .i64 0] [.i .i64 (0 : Int), .i .i64 (0 : Int)]) _ _ = _
      rw [eqI_face ⟨0, 0⟩ ⟨0, 0⟩, decide_eq_true rfl, fk_t]; rfl
  obtain ⟨ha, hm1, hm2⟩ := hh
  obtain ⟨P, B, e, hB, hb⟩ := face_Best_ex l m hll ha hm1 hm2
  rw [bnd_eq hB]
  refine jn_to false (fun k => ?_) ?_
  · rw [bnd_eq (ref05_All_eq l hll hsl), decide_eq_true ha, Bool.not_true, fk_f, decide_eq_false (by omega), fk_f, decide_eq_false (by omega)]
  rw [fk_f]
  dsimp only
  refine lp_inv (fun v => (m + 1 - v).toNat) (fun v => 1 ≤ v ∧ v ≤ m + 1) ?_ FU _ ⟨by omega, by omega⟩ (by unfold FU; omega)
  rintro nx n ⟨hn1, hn2⟩ hnx
  by_cases h : n ≤ m
  rotate_left
  · rw [decide_eq_false h, fk_f]
    rcases hb with ⟨a, b, c, d⟩ | ⟨a, b, c, d, b1, b2, d2⟩
    · subst a; subst b; subst c
      rw [decide_eq_false (by decide), Bool.not_false, fk_t, eqI_face ⟨0, 0⟩ ⟨0, 0⟩, decide_eq_true rfl, fk_t, decide_eq_true rfl, fk_t]
    · subst a
      rw [decide_eq_true rfl, Bool.not_true, fk_f, bnd_eq (face_Least_eq l P hll), d, decide_eq_true b, fk_t, decide_eq_true (by omega), fk_t]
      dsimp only
      rw [eqI_face ⟨P, B⟩ ⟨P, B⟩, decide_eq_true rfl, fk_t, decide_eq_true rfl, fk_t]
  have hnext := hnx (n + 1) ⟨by omega, by omega⟩ (by show (m + 1 - (n + 1)).toNat < (m + 1 - n).toNat; omega)
  rw [decide_eq_true h, fk_t]
  refine jn_to () (fun k8 => ?_) (by rw [wr_in (n + 1) (by omega)]; exact hnext)
  rw [bnd_eq (face_Least_eq l n hll)]
  by_cases h0 : (leastV l n).2 = 0
  rotate_left
  · rw [decide_eq_false h0, Bool.not_false, fk_t]
  rw [decide_eq_true h0, Bool.not_true, fk_f]
  rcases hb with ⟨a, b, c, d⟩ | ⟨a, b, c, d, b1, b2, d2⟩
  · exact absurd h0 (d n hn1 (by omega))
  subst a
  obtain ⟨eV, bV1, bV2⟩ := leastV_b h0
  have eP : (leastV l n).1.P = n := by rw [eV]
  obtain ⟨g1, g2⟩ := d2 n hn1 (by omega) h0
  have m1 := mul_b (x := (leastV l n).1.B) (y := P) (by omega) (by omega) (by omega) (by omega)
  have m2 := mul_b (x := B) (y := n) (by omega) (by omega) (by omega) (by omega)
  refine jn_to false (fun k => ?_) (by rw [fk_f])
  rw [decide_eq_true rfl, Bool.not_true, fk_f, eP, wr_in ((leastV l n).1.B * P) (by omega), wr_in (B * n) (by omega), decide_eq_false (by omega), fk_f]
  by_cases he : (leastV l n).1.B * P = B * n
  · rw [decide_eq_true he, fk_t, decide_eq_false (by have := g2 he; omega)]
  · rw [decide_eq_false he, fk_f]
end Go.Proofs.Ytghpokloofnbkaa
namespace Go.Proofs.Ytghpokloofnbkaa.faceBest
open Go Go.VC Go.ChangeShapes Go.WideShapes Go.ChangeAt Go.RowKit
theorem own : ownKnob Try.prog.godebug = none := by kernel_rfl
theorem laidOut : laidOutB Try.prog = true := by kernel_rfl
theorem lifted (os : Os) (started : os.Started) (H : Type) (enc : TypeId × Value → H) :
    ReturnsInHanded {} Try.checked os 6 .any (Rows.faceBestSpec.pre6 enc Try.prog Try.f6 Rows.faceBestRow.domain false) (Rows.faceBestSpec.post enc Try.prog Try.f6 false true false false) := by
  refine returnsInHanded_of_change_sized (C := Try.checked) own started (by kernel_rfl) Try.func6
    (ChangeSpec.witness6 (enc := enc) (C := Try.checked) false ⟨#[], #[.slice none 0 0, .int .i64 0], []⟩ 8 (by kernel_rfl) (by kernel_rfl) (by kernel_rfl) (by kernel_rfl)) ?_
  intro W base args ds gs before hval0 hW hcnd hsz0 _
  have hsz : (DataW.weightsEach Try.prog (Try.f6.params.toList ++ Rows.faceBestSpec.plain.varTypes Try.prog) (ds ++ gs)).all (· ≤ reachBytes) = true := hsz0
  have hval : ∀ (j : Nat) t v, Try.f6.params[j]? = some t → args[j]? = some v → Value.okWide Try.prog W .any base t v := hval0
  have hW' := hW
  obtain ⟨p, q, hA0, hV, rfl, hfz, hnd⟩ := hW
  have hA : DataW.TrodAll enc Try.prog W 0 (fun _ => true) true Try.f6.params.toList args.toList ds p := hA0
  rw [Try.params6] at hA hval hsz
  obtain ⟨v0, vs0, d0, ds0, p0, q0, hargs, rfl, rfl, h0, r0⟩ := trodAll_cons hA
  obtain ⟨v1, vs1, d1, ds1, p1, q1, rfl, rfl, rfl, h1, r1⟩ := trodAll_cons r0
  obtain ⟨rfl, rfl, rfl⟩ := trodAll_nil r1
  obtain rfl : args = #[v0, v1] := by cases args; simp_all
  obtain ⟨rfl, rfl⟩ := trodVars_none hV
  have lt0 : ∀ x ∈ p0, x.block < W.heap.size := by obtain ⟨m, hm⟩ := h0; exact DataW.trod_lt m _ _ _ hm
  have wt0 : ∀ k ∈ d0.weights Try.prog 22, k ≤ BB := fun k hk => of_decide_eq_true (List.all_eq_true.1 hsz _ (DataW.weights_mem_each (j := 0) rfl rfl k hk))
  obtain ⟨c0, s0, g0⟩ := open_cv tab (m := 8) (t := 22) rfl (hval 0 22 v0 rfl rfl) h0 wt0
  have g0 := g0 _ T22
  obtain ⟨a0, rfl, w0⟩ := (s0.l (f := Task.enc) (W := (fun x => Task.wf x)) T22 T38 (fun _ _ h => (Task.of h)))
  have lt1 : ∀ x ∈ p1, x.block < W.heap.size := by obtain ⟨m, hm⟩ := h1; exact DataW.trod_lt m _ _ _ hm
  have wt1 : ∀ k ∈ d1.weights Try.prog 3, k ≤ BB := fun k hk => of_decide_eq_true (List.all_eq_true.1 hsz _ (DataW.weights_mem_each (j := 1) rfl rfl k hk))
  obtain ⟨c1, s1, g1⟩ := open_cv tab (m := 8) (t := 3) rfl (hval 1 3 v1 rfl rfl) h1 wt1
  have g1 := g1 _ T3
  obtain ⟨a1, rfl, w1⟩ := (s1.i T3)
  clear hA0 hval0 hsz0 hsz
  have pure := proofFaceBest a0 a1 w0 w1
  refine ((law11_FaceBest_w a0 a1 true pure).2 W (pw W) [v0, v1] (fun _ h => h) (All2.cons g0 (All2.cons g1 All2.nil))).mono fun e W' ⟨v, rs, p', he, hR, hrep, bel, _⟩ => ?_
  subst hR he
  obtain rfl := RepD_bool hrep
  exact ⟨_, rfl, _, _, _, [], _, [], hW', trodAll_mk1 (shut_bool Try.underlying4 _), (trodAll_cons_mk (Below.trod laidOut (by kernel_rfl) (of_decide_eq_true (by kernel_rfl)) h0 bel lt0) (trodAll_cons_mk (Below.trod laidOut (by kernel_rfl) (of_decide_eq_true (by kernel_rfl)) h1 bel lt1) trodAll_mk0)), rfl, bel.frame _, fun h => by cases h⟩
theorem over : Rows.faceBestRow.holds Try.pinned (OpenSpec.ofChange Rows.faceBestSpec) :=
  OpenClaim.holds_of_wide 6 Try.f6 rfl rfl rfl rfl rfl rfl rfl ⟨rfl, rfl, rfl, rfl, rfl⟩ rfl rfl rfl rfl rfl (by kernel_rfl) Try.func6 (by kernel_rfl)
    (of_decide_eq_true (by kernel_rfl)) (by unfold Func.isWrapper; first | (rw [if_pos (by decide +kernel)]; kernel_rfl) | (rw [if_neg (by decide +kernel)]; exact ⟨rfl, rfl⟩))
    (fun os started H enc _ => lifted os started H enc)
end Go.Proofs.Ytghpokloofnbkaa.faceBest
namespace Go.Proofs.Ytghpokloofnbkaa
theorem faceBest_holds : Rows.FaceBestSaid := faceBest.over
end Go.Proofs.Ytghpokloofnbkaa
