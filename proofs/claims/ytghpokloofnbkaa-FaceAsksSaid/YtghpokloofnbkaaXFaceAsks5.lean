/- It is proved that the law FaceAsks returns true at every input that the row lets in; there is no condition beside the row's own. -/
import Derived.Test.YtghpokloofnbkaaXFaceAsks4
import Derived.Test.YtghpokloofnbkaaRows
set_option linter.unusedVariables false
set_option linter.unusedSimpArgs false
set_option maxRecDepth 100000
set_option maxHeartbeats 4000000
namespace Go.Proofs.Ytghpokloofnbkaa
open Go Go.VC
/-! The least interface of a period. -/
theorem jn_to {σ R : Type} {Y : σ → Option R} {X : (σ → Option R) → Option R} {r : Option R} (v : σ) (hX : ∀ k, X k = k v) (hY : Y v = r) : jn Y X = r := by
  rw [jn_eq, hX]; exact hY
theorem eqI_face (x y : Face) : eqI [.i .i64 x.P, .i .i64 x.B] [.i .i64 y.P, .i .i64 y.B] = decide (x = y) := by
  obtain ⟨a, b⟩ := x
  obtain ⟨c, d⟩ := y
  unfold eqI
  rw [decide_eq_decide]
  simp
theorem fits_face {l : List Task} {f : Face} (h : fitsF l f) : 1 ≤ f.B ∧ f.B ≤ f.P ∧ f.P ≤ 200 := h.1.2.1
theorem fits_b {l : List Task} {p b : Int} (h : fitsF l ⟨p, b⟩) : 1 ≤ b ∧ b ≤ p ∧ p ≤ 200 := h.1.2.1
theorem fits_up {l : List Task} {p b : Int} (h : fitsF l ⟨p, b⟩) : ∀ (n : Nat), b + (n : Int) ≤ p → fitsF l ⟨p, b + (n : Int)⟩
  | 0, _ => by rw [show b + ((0 : Nat) : Int) = b by omega]; exact h
  | n + 1, hn => by
    have := fits_more (fits_up h n (by omega)) (show b + (n : Int) + 1 ≤ p by omega)
    rw [show b + ((n + 1 : Nat) : Int) = b + (n : Int) + 1 by omega]
    exact this
theorem fits_le {l : List Task} {p b c : Int} (h : fitsF l ⟨p, b⟩) (h1 : b ≤ c) (h2 : c ≤ p) : fitsF l ⟨p, c⟩ := by
  have := fits_up h (c - b).toNat (by omega)
  rwa [show b + ((c - b).toNat : Int) = c by omega] at this
def isLeast (l : List Task) (p b : Int) : Prop := fitsF l ⟨p, b⟩ ∧ ∀ c, c < b → ¬ fitsF l ⟨p, c⟩
theorem least_ex {l : List Task} {p : Int} : ∀ (n : Nat) (b : Int), b.toNat ≤ n → fitsF l ⟨p, b⟩ → ∃ b, isLeast l p b
  | 0, b, h, hf => by have := (fits_b hf).1; omega
  | n + 1, b, h, hf => by
    by_cases c : fitsF l ⟨p, b - 1⟩
    · exact least_ex n (b - 1) (by have := (fits_b hf).1; omega) c
    · refine ⟨b, hf, fun d hd hfd => c (fits_le hfd (by omega) ?_)⟩
      have := (fits_b hf).2.1
      omega
open Classical in
noncomputable def leastN (l : List Task) (p : Int) : Int := if h : ∃ b, isLeast l p b then Classical.choose h else 0
theorem leastN_is {l : List Task} {p b : Int} (h : fitsF l ⟨p, b⟩) : isLeast l p (leastN l p) := by
  have hx := least_ex _ b (Nat.le_refl _) h
  unfold leastN
  rw [dif_pos hx]
  exact Classical.choose_spec hx
theorem leastN_eq {l : List Task} {p b : Int} (h : isLeast l p b) : leastN l p = b := by
  have hl := leastN_is h.1
  have h1 : ¬ leastN l p < b := fun c => h.2 _ c hl.1
  have h2 : ¬ b < leastN l p := fun c => hl.2 _ c h.1
  omega
theorem face_Least_1_eq (b : Int) (l : List Task) (p : Int) (hl : l.length ≤ 4611686018427387904) : face_Least_1 b l p = some (decide (fitsF l ⟨p, b⟩)) := by
  unfold face_Least_1
  rw [bnd_eq (verdict_Fits_eq l ⟨p, b⟩ hl)]
theorem face_least_eq (l : List Task) (p : Int) (hl : l.length ≤ 4611686018427387904) (h1 : 1 ≤ p) (h2 : p ≤ 200) : face_least_int 1 p l p = some (if fitsF l ⟨p, p⟩ then (leastN l p, true) else (0, false)) := by
  unfold face_least_int
  rw [bnd_eq (face_Least_1_eq p l p hl)]
  by_cases h : fitsF l ⟨p, p⟩
  rotate_left
  · rw [decide_eq_false h, Bool.not_false, fk_t, if_neg h]
  rw [decide_eq_true h, Bool.not_true, fk_f, if_pos h]
  refine lp_inv (fun v => (v.2 - v.1).toNat) (fun v => ∃ a b : Int, v = (a, b) ∧ 1 ≤ a ∧ a ≤ b ∧ b ≤ p ∧ fitsF l ⟨p, b⟩ ∧ ∀ c, c < a → ¬ fitsF l ⟨p, c⟩) ?_ FU _ ⟨1, p, rfl, by omega, h1, by omega, h, fun c hc hf => by have := (fits_b hf).1; omega⟩ (by unfold FU; simp only; omega)
  rintro nx v ⟨a, b, rfl, ha, hab, hb, hf, hn⟩ hnx
  dsimp only
  by_cases hlt : a < b
  rotate_left
  · have e : a = b := by omega
    subst e
    rw [decide_eq_false hlt, fk_f, leastN_eq ⟨hf, hn⟩]
  have e1 : wr (a + wr ((wr (b - a)).tdiv 2)) = a + (b - a) / 2 := by
    rw [wr_in (b - a) (by omega), Int.tdiv_eq_ediv_of_nonneg (by omega), wr_in ((b - a) / 2) (by omega), wr_in _ (by omega)]
  rw [decide_eq_true hlt, fk_t, ck_t (by decide), e1, bnd_eq (face_Least_1_eq _ l p hl)]
  have e2 : wr (a + (b - a) / 2 + 1) = a + (b - a) / 2 + 1 := wr_in _ (by omega)
  by_cases c : fitsF l ⟨p, a + (b - a) / 2⟩
  · rw [decide_eq_true c, fk_t]
    exact hnx _ ⟨a, _, rfl, ha, by omega, by omega, c, hn⟩ (by simp only; omega)
  · rw [decide_eq_false c, fk_f, e2]
    refine hnx _ ⟨_, b, rfl, by omega, by omega, hb, hf, fun d hd hfd => ?_⟩ (by simp only; omega)
    exact c (fits_le hfd (by omega) (by omega))
noncomputable def leastV (l : List Task) (p : Int) : Face × Int :=
  if AllP l ∧ 1 ≤ p ∧ p ≤ 200 then (if errC l ⟨p, 1⟩ = 0 then (if fitsF l ⟨p, p⟩ then (⟨p, leastN l p⟩, 0) else (⟨0, 0⟩, 7)) else (⟨0, 0⟩, errC l ⟨p, 1⟩)) else (⟨0, 0⟩, 1)
theorem face_Least_eq (l : List Task) (p : Int) (hl : l.length ≤ 4611686018427387904) : face_Least l p = some (leastV l p) := by
  unfold face_Least leastV
  refine jn_to (!decide (AllP l ∧ 1 ≤ p ∧ p ≤ 200)) (fun k => ?_) ?_
  · rw [bnd_eq (task_All_eq l hl)]
    by_cases h1 : AllP l
    rotate_left
    · rw [decide_eq_false h1, Bool.not_false, fk_t, decide_eq_false (fun h => h1 h.1)]; rfl
    rw [decide_eq_true h1, Bool.not_true, fk_f]
    by_cases h2 : p < 1
    · rw [decide_eq_true h2, fk_t, decide_eq_false (by omega)]; rfl
    rw [decide_eq_false h2, fk_f]
    by_cases h3 : p > 200
    · rw [decide_eq_true h3, decide_eq_false (by omega)]; rfl
    · rw [decide_eq_false h3, decide_eq_true ⟨h1, by omega, by omega⟩]; rfl
  by_cases h : AllP l ∧ 1 ≤ p ∧ p ≤ 200
  rotate_left
  · rw [decide_eq_false h, Bool.not_false, fk_t, if_neg h]
  rw [decide_eq_true h, Bool.not_true, fk_f, if_pos h, bnd_eq (verdict_Fits_eq l ⟨p, 1⟩ hl)]
  by_cases h2 : errC l ⟨p, 1⟩ = 0
  rotate_left
  · rw [decide_eq_false h2, Bool.not_false, fk_t, if_neg h2]
  rw [decide_eq_true h2, Bool.not_true, fk_f, if_pos h2, bnd_eq (face_least_eq l p hl h.2.1 h.2.2)]
  by_cases h3 : fitsF l ⟨p, p⟩
  · rw [if_pos h3, if_pos h3]; rfl
  · rw [if_neg h3, if_neg h3]; rfl
theorem errC_zero {l : List Task} {f : Face} : errC l f = 0 ↔ okC l f := ⟨fun h => Classical.byContradiction fun hc => errC_ne hc h, fun h => errC_ok h⟩
theorem okC_b {l : List Task} {p b c : Int} (h : okC l ⟨p, b⟩) (h1 : 1 ≤ c) (h2 : c ≤ p) : okC l ⟨p, c⟩ := ⟨h.1, ⟨h1, h2, h.2.1.2.2⟩, h.2.2⟩
theorem cycV_err (l : List Task) (f : Face) : (cycV l f).2.2 = errC l f := by
  unfold cycV
  split
  · rename_i h; rw [errC_ok h]
  · rfl
theorem ref11_Least_eq (l : List Task) (p : Int) (hl : l.length ≤ 4611686018427387904) (hs : ∀ t ∈ l, t.Secs.length ≤ 4611686018427387904) : ref11_Least l p = some ((leastV l p).1.B, (leastV l p).2) := by
  unfold ref11_Least leastV
  refine jn_to (!decide (AllP l ∧ 1 ≤ p ∧ p ≤ 200)) (fun k => ?_) ?_
  · rw [bnd_eq (ref05_All_eq l hl hs)]
    by_cases h1 : AllP l
    rotate_left
    · rw [decide_eq_false h1, Bool.not_false, fk_t, decide_eq_false (fun h => h1 h.1)]; rfl
    rw [decide_eq_true h1, Bool.not_true, fk_f]
    by_cases h2 : p < 1
    · rw [decide_eq_true h2, fk_t, decide_eq_false (by omega)]; rfl
    rw [decide_eq_false h2, fk_f]
    by_cases h3 : p > 200
    · rw [decide_eq_true h3, decide_eq_false (by omega)]; rfl
    · rw [decide_eq_false h3, decide_eq_true ⟨h1, by omega, by omega⟩]; rfl
  by_cases h : AllP l ∧ 1 ≤ p ∧ p ≤ 200
  rotate_left
  · rw [decide_eq_false h, Bool.not_false, fk_t, if_neg h]
  rw [decide_eq_true h, Bool.not_true, fk_f, if_pos h, bnd_eq (ref10_Cycle_eq l ⟨p, 1⟩ hl hs), cycV_err]
  by_cases h2 : errC l ⟨p, 1⟩ = 0
  rotate_left
  · rw [decide_eq_false h2, Bool.not_false, fk_t, if_neg h2]
  rw [decide_eq_true h2, Bool.not_true, fk_f, if_pos h2]
  have hok := errC_zero.1 h2
  refine lp_inv (fun v => (p + 1 - v).toNat) (fun v => 1 ≤ v ∧ v ≤ p + 1 ∧ ∀ c, c < v → ¬ fitsF l ⟨p, c⟩) ?_ FU _ ⟨by omega, by omega, fun c hc hf => by have := (fits_b hf).1; omega⟩ (by unfold FU; omega)
  rintro nx b ⟨hb1, hb2, hn⟩ hnx
  by_cases hb : b ≤ p
  rotate_left
  · have : ¬ fitsF l ⟨p, p⟩ := hn p (by omega)
    rw [decide_eq_false hb, fk_f, if_neg this]
  rw [decide_eq_true hb, fk_t, bnd_eq (ref10_Fits_eq l ⟨p, b⟩ hl hs (okC_b hok hb1 hb)), wr_in (b + 1) (by omega)]
  by_cases c : fitsF l ⟨p, b⟩
  · rw [decide_eq_true c, fk_t, if_pos (fits_le c hb (by omega)), leastN_eq ⟨c, hn⟩]
  · rw [decide_eq_false c, fk_f]
    refine hnx _ ⟨by omega, by omega, fun d hd hfd => ?_⟩ (by show (p + 1 - (b + 1)).toNat < (p + 1 - b).toNat; omega)
    by_cases e : d = b
    · subst e; exact c hfd
    · exact hn d (by omega) hfd
theorem leastV_ok {l : List Task} {p : Int} (h : (leastV l p).2 = 0) : AllP l ∧ 1 ≤ p ∧ p ≤ 200 ∧ okC l ⟨p, 1⟩ ∧ isLeast l p (leastN l p) ∧ leastV l p = (⟨p, leastN l p⟩, 0) := by
  unfold leastV at h ⊢
  split at h
  rotate_left
  · exact absurd h (by decide)
  rename_i h1
  split at h
  rotate_left
  · rename_i h2; exact absurd h h2
  rename_i h2
  split at h
  rotate_left
  · exact absurd h (by decide)
  rename_i h3
  exact ⟨h1.1, h1.2.1, h1.2.2, errC_zero.1 h2, leastN_is h3, by rw [if_pos h1, if_pos h2, if_pos h3]⟩
theorem leastV_bad {l : List Task} {p : Int} (h : (leastV l p).2 ≠ 0) : (leastV l p).1 = ⟨0, 0⟩ := by
  unfold leastV at h ⊢
  split at h
  · rename_i h1
    rw [if_pos h1]
    split at h
    · rename_i h2
      rw [if_pos h2]
      split at h
      · exact absurd rfl h
      · rename_i h3; rw [if_neg h3]
    · rename_i h2; rw [if_neg h2]
  · rename_i h1; rw [if_neg h1]
end Go.Proofs.Ytghpokloofnbkaa
namespace Go.Proofs.Ytghpokloofnbkaa
open Go Go.VC
noncomputable def law11_knows  : Option Bool :=
  bnd (face_Least ([⟨(1 : Int), (4 : Int), (4 : Int), []⟩] : List Task) (2 : Int)) fun x1 => bnd (face_Least ([⟨(1 : Int), (4 : Int), (4 : Int), []⟩] : List Task) (4 : Int)) fun x2 => bnd (face_Least ([⟨(4 : Int), (4 : Int), (4 : Int), []⟩, ⟨(1 : Int), (4 : Int), (4 : Int), []⟩] : List Task) (2 : Int)) fun x3 => fk (eqI [.i .i64 x1.1.P, .i .i64 x1.1.B] [.i .i64 (2 : Int), .i .i64 (1 : Int)]) (fk (decide (x1.2 = (0 : Int))) (fk (eqI [.i .i64 x2.1.P, .i .i64 x2.1.B] [.i .i64 (4 : Int), .i .i64 (3 : Int)]) (fk (decide (x2.2 = (0 : Int))) (some (decide (x3.2 = (7 : Int)))) (some false)) (some false)) (some false)) (some false)
theorem law11_knows_w  (r : Bool) (h : law11_knows = some r) : Go.VC.Spec Try.prog 8 [] (fun y => y = E_Bool r) := by
  refine Go.VC.Spec.of_xc (args := []) (fn := Try.f8) tab ⟨[(0, []), (1, [1]), (2, [1, 2, 3]), (3, [2, 3, 4, 5]), (4, [2, 3, 4, 5, 7]), (5, [0])], [], [], []⟩ 47 [.tmp 0] rfl rfl rfl rfl rfl rfl ?_
  conv => whnf
  refine liS ([⟨(1 : Int), (4 : Int), (4 : Int), []⟩] : List Task) Task.enc rfl rfl ?_
  conv => whnf
  refine iceS 2 ?_
  conv => whnf
  refine ccS (E := E_Face_Int) h (face_Least_w ([⟨(1 : Int), (4 : Int), (4 : Int), []⟩] : List Task) (2 : Int)) rfl rfl (fun x1 h => ?_)
  conv => whnf
  refine ccS (E := E_Face_Int) h (face_Least_w ([⟨(1 : Int), (4 : Int), (4 : Int), []⟩] : List Task) (4 : Int)) rfl rfl (fun x2 h => ?_)
  conv => whnf
  refine liS ([⟨(4 : Int), (4 : Int), (4 : Int), []⟩, ⟨(1 : Int), (4 : Int), (4 : Int), []⟩] : List Task) Task.enc rfl rfl ?_
  conv => whnf
  refine iceS 24 ?_
  conv => whnf
  refine ccS (E := E_Face_Int) h (face_Least_w ([⟨(4 : Int), (4 : Int), (4 : Int), []⟩, ⟨(1 : Int), (4 : Int), (4 : Int), []⟩] : List Task) (2 : Int)) rfl rfl (fun x3 h => ?_)
  conv => whnf
  refine fkS h (fun h => ?_) (fun h => ?_)
  · conv => whnf
    refine fkS h (fun h => ?_) (fun h => ?_)
    · conv => whnf
      refine fkS h (fun h => ?_) (fun h => ?_)
      · conv => whnf
        refine fkS h (fun h => ?_) (fun h => ?_)
        · conv => whnf
          exact rt (E := E_Bool) h rfl
        conv => whnf
        exact rt (E := E_Bool) h rfl
      conv => whnf
      exact rt (E := E_Bool) h rfl
    conv => whnf
    exact rt (E := E_Bool) h rfl
  conv => whnf
  exact rt (E := E_Bool) h rfl

end Go.Proofs.Ytghpokloofnbkaa
namespace Go.Proofs.Ytghpokloofnbkaa
open Go Go.VC
noncomputable def law11_FaceAsks (a0 : Task) (a1 : Int) : Option Bool :=
  bnd (law05_Great ([a0] : List Task)) fun x1 => fk x1 (bnd law11_knows fun x2 => some x2) (bnd (face_Least ([a0] : List Task) a1) fun x3 => fk (!decide (x3.2 = (0 : Int))) (bnd law11_knows fun x4 => some x4) (fk (decide ((wr (x3.1.B * a0.T)) ≥ (wr (a0.C * x3.1.P)))) (bnd law11_knows fun x5 => some x5) (some false)))
theorem law11_FaceAsks_w (a0 : Task) (a1 : Int) (r : Bool) (h : law11_FaceAsks a0 a1 = some r) : Go.VC.Spec Try.prog 5 [.agg (Task.enc a0), .d (.int .i64 a1)] (fun y => y = E_Bool r) := by
  refine Go.VC.Spec.of_xc (args := [.agg (Task.enc a0), .d (.int .i64 a1)]) (fn := Try.f5) tab ⟨[(0, [1, 2]), (1, [1, 2, 5]), (2, [1, 2, 5, 11]), (3, [4]), (4, [2, 6, 7]), (5, [4])], [], [], []⟩ 37 [.tmp 4] rfl rfl rfl rfl rfl rfl ?_
  conv => whnf
  refine liS ([a0] : List Task) Task.enc rfl rfl ?_
  conv => whnf
  refine caS (E := E_Bool) h (law05_Great_w ([a0] : List Task)) rfl (fun _ => rfl) (fun x1 h => ?_)
  conv => whnf
  refine fkS h (fun h => ?_) (fun h => ?_)
  · conv => whnf
    refine caS (E := E_Bool) h law11_knows_w rfl (fun _ => rfl) (fun x2 h => ?_)
    conv => whnf
    exact rt (E := E_Bool) h rfl
  conv => whnf
  refine iceS 6 ?_
  conv => whnf
  refine ccS (E := E_Face_Int) h (face_Least_w ([a0] : List Task) a1) rfl rfl (fun x3 h => ?_)
  conv => whnf
  refine fkS h (fun h => ?_) (fun h => ?_)
  · conv => whnf
    refine caS (E := E_Bool) h law11_knows_w rfl (fun _ => rfl) (fun x4 h => ?_)
    conv => whnf
    exact rt (E := E_Bool) h rfl
  conv => whnf
  refine fkS h (fun h => ?_) (fun h => ?_)
  · conv => whnf
    refine caS (E := E_Bool) h law11_knows_w rfl (fun _ => rfl) (fun x5 h => ?_)
    conv => whnf
    exact rt (E := E_Bool) h rfl
  conv => whnf
  exact rt (E := E_Bool) h rfl

end Go.Proofs.Ytghpokloofnbkaa
namespace Go.Proofs.Ytghpokloofnbkaa
open Go Go.VC
def PureFaceAsks : Prop := ∀ (a0 : Task) (a1 : Int), Task.wf a0 → wfI .i64 a1 → law11_FaceAsks a0 a1 = some true
end Go.Proofs.Ytghpokloofnbkaa
namespace Go.Proofs.Ytghpokloofnbkaa
open Go Go.VC
theorem law11_knows_eq : law11_knows = some true := by kernel_rfl
theorem asks_le {x : Task} {f : Face} (h : fitsF [x] f) : x.C * f.P ≤ f.B * x.T := by
  obtain ⟨hok, has, _⟩ := h
  have hx := hok.1.T (List.mem_cons_self (a := x) (l := []))
  have hf := hok.2.1
  unfold faceP at hf
  have hc := cyc_b hok
  obtain ⟨c1, _, c3⟩ := cyc_cycle hok.1 hok.2.1 (Nat.dvd_refl (cyc [x] f))
  have c2 := c1.2 x List.mem_cons_self
  generalize (cyc [x] f : Int) = c at *
  have e1 : asked [x] c = x.C * (c / x.T) := by unfold asked askC; simp [sumI]
  rw [e1] at has
  unfold givenC at has
  generalize c / x.T = q at *
  generalize c / f.P = r at *
  have h1 : x.C * f.P * c ≤ f.B * x.T * c := by
    have a1 : x.C * f.P * c = (x.C * q) * (f.P * x.T) := by
      conv => lhs; rw [← c2]
      rw [Int.mul_assoc, Int.mul_assoc]
      congr 1
      rw [Int.mul_left_comm q f.P x.T, Int.mul_comm q x.T]
    have a2 : f.B * x.T * c = (f.B * r) * (f.P * x.T) := by
      conv => lhs; rw [← c3]
      rw [Int.mul_assoc, Int.mul_assoc]
      congr 1
      rw [Int.mul_comm f.P r, Int.mul_left_comm, Int.mul_comm x.T f.P]
    rw [a1, a2]
    exact Int.mul_le_mul_of_nonneg_right has (Int.mul_nonneg (by omega) (by omega))
  exact Int.le_of_mul_le_mul_right h1 (by omega)
theorem proofFaceAsks : PureFaceAsks := by
  intro x p hx hp
  unfold law11_FaceAsks
  simp only [law11_knows_eq, bnd_some]
  have hll : ([x] : List Task).length ≤ 4611686018427387904 := by simp
  rw [bnd_eq (law05_Great_eq [x] hll)]
  by_cases hg : GreatP [x]
  · rw [decide_eq_true hg, fk_t]
  rw [decide_eq_false hg, fk_f, bnd_eq (face_Least_eq [x] p hll)]
  by_cases h : (leastV [x] p).2 = 0
  rotate_left
  · rw [decide_eq_false h, Bool.not_false, fk_t]
  obtain ⟨ha, hp1, hp2, hok, hL, e⟩ := leastV_ok h
  have hxT := ha.T (List.mem_cons_self (a := x) (l := []))
  have hb := fits_b hL.1
  have hle := asks_le hL.1
  rw [decide_eq_true h, Bool.not_true, fk_f, e]
  dsimp only at hle ⊢
  have b1 : 0 ≤ x.C * p := Int.mul_nonneg (by omega) (by omega)
  have b2 : leastN [x] p * x.T ≤ 200 * 200 := Int.mul_le_mul (by omega) (by omega) (by omega) (by omega)
  rw [wr_in (leastN [x] p * x.T) (by omega), wr_in (x.C * p) (by omega), decide_eq_true (show leastN [x] p * x.T ≥ x.C * p from hle), fk_t]
end Go.Proofs.Ytghpokloofnbkaa
namespace Go.Proofs.Ytghpokloofnbkaa.faceAsks
open Go Go.VC Go.ChangeShapes Go.WideShapes Go.ChangeAt Go.RowKit
theorem own : ownKnob Try.prog.godebug = none := by kernel_rfl
theorem laidOut : laidOutB Try.prog = true := by kernel_rfl
theorem lifted (os : Os) (started : os.Started) (H : Type) (enc : TypeId × Value → H) :
    ReturnsInHanded {} Try.checked os 5 .any (Rows.faceAsksSpec.pre6 enc Try.prog Try.f5 Rows.faceAsksRow.domain false) (Rows.faceAsksSpec.post enc Try.prog Try.f5 false true false false) := by
  refine returnsInHanded_of_change_sized (C := Try.checked) own started (by kernel_rfl) Try.func5
    (ChangeSpec.witness6 (enc := enc) (C := Try.checked) false ⟨#[], #[.agg #[.int .i64 0, .int .i64 0, .int .i64 0, .slice none 0 0], .int .i64 0], []⟩ 8 (by kernel_rfl) (by kernel_rfl) (by kernel_rfl) (by kernel_rfl)) ?_
  intro W base args ds gs before hval0 hW hcnd hsz0 _
  have hsz : (DataW.weightsEach Try.prog (Try.f5.params.toList ++ Rows.faceAsksSpec.plain.varTypes Try.prog) (ds ++ gs)).all (· ≤ reachBytes) = true := hsz0
  have hval : ∀ (j : Nat) t v, Try.f5.params[j]? = some t → args[j]? = some v → Value.okWide Try.prog W .any base t v := hval0
  have hW' := hW
  obtain ⟨p, q, hA0, hV, rfl, hfz, hnd⟩ := hW
  have hA : DataW.TrodAll enc Try.prog W 0 (fun _ => true) true Try.f5.params.toList args.toList ds p := hA0
  rw [Try.params5] at hA hval hsz
  obtain ⟨v0, vs0, d0, ds0, p0, q0, hargs, rfl, rfl, h0, r0⟩ := trodAll_cons hA
  obtain ⟨v1, vs1, d1, ds1, p1, q1, rfl, rfl, rfl, h1, r1⟩ := trodAll_cons r0
  obtain ⟨rfl, rfl, rfl⟩ := trodAll_nil r1
  obtain rfl : args = #[v0, v1] := by cases args; simp_all
  obtain ⟨rfl, rfl⟩ := trodVars_none hV
  have lt0 : ∀ x ∈ p0, x.block < W.heap.size := by obtain ⟨m, hm⟩ := h0; exact DataW.trod_lt m _ _ _ hm
  have wt0 : ∀ k ∈ d0.weights Try.prog 38, k ≤ BB := fun k hk => of_decide_eq_true (List.all_eq_true.1 hsz _ (DataW.weights_mem_each (j := 0) rfl rfl k hk))
  obtain ⟨c0, s0, g0⟩ := open_cv tab (m := 8) (t := 38) rfl (hval 0 38 v0 rfl rfl) h0 wt0
  have g0 := g0 _ T38
  obtain ⟨a0, rfl, w0⟩ := (Task.of s0)
  have lt1 : ∀ x ∈ p1, x.block < W.heap.size := by obtain ⟨m, hm⟩ := h1; exact DataW.trod_lt m _ _ _ hm
  have wt1 : ∀ k ∈ d1.weights Try.prog 3, k ≤ BB := fun k hk => of_decide_eq_true (List.all_eq_true.1 hsz _ (DataW.weights_mem_each (j := 1) rfl rfl k hk))
  obtain ⟨c1, s1, g1⟩ := open_cv tab (m := 8) (t := 3) rfl (hval 1 3 v1 rfl rfl) h1 wt1
  have g1 := g1 _ T3
  obtain ⟨a1, rfl, w1⟩ := (s1.i T3)
  clear hA0 hval0 hsz0 hsz
  have pure := proofFaceAsks a0 a1 w0 w1
  refine ((law11_FaceAsks_w a0 a1 true pure).2 W (pw W) [v0, v1] (fun _ h => h) (All2.cons g0 (All2.cons g1 All2.nil))).mono fun e W' ⟨v, rs, p', he, hR, hrep, bel, _⟩ => ?_
  subst hR he
  obtain rfl := RepD_bool hrep
  exact ⟨_, rfl, _, _, _, [], _, [], hW', trodAll_mk1 (shut_bool Try.underlying4 _), (trodAll_cons_mk (Below.trod laidOut (by kernel_rfl) (of_decide_eq_true (by kernel_rfl)) h0 bel lt0) (trodAll_cons_mk (Below.trod laidOut (by kernel_rfl) (of_decide_eq_true (by kernel_rfl)) h1 bel lt1) trodAll_mk0)), rfl, bel.frame _, fun h => by cases h⟩
theorem over : Rows.faceAsksRow.holds Try.pinned (OpenSpec.ofChange Rows.faceAsksSpec) :=
  OpenClaim.holds_of_wide 5 Try.f5 rfl rfl rfl rfl rfl rfl rfl ⟨rfl, rfl, rfl, rfl, rfl⟩ rfl rfl rfl rfl rfl (by kernel_rfl) Try.func5 (by kernel_rfl)
    (of_decide_eq_true (by kernel_rfl)) (by unfold Func.isWrapper; first | (rw [if_pos (by decide +kernel)]; kernel_rfl) | (rw [if_neg (by decide +kernel)]; exact ⟨rfl, rfl⟩))
    (fun os started H enc _ => lifted os started H enc)
end Go.Proofs.Ytghpokloofnbkaa.faceAsks
namespace Go.Proofs.Ytghpokloofnbkaa
theorem faceAsks_holds : Rows.FaceAsksSaid := faceAsks.over
end Go.Proofs.Ytghpokloofnbkaa
