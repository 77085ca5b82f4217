/- Part 19 of what follows is proved here: what the statement TopSupplies needs of functions and plain laws. -/
import Derived.Test.YtpephpefjddgcaaGreatXTopSupplies0
import Derived.Test.YtpephpefjddgcaaGreatXTopSupplies7
set_option linter.unusedVariables false
set_option linter.unusedSimpArgs false
set_option maxRecDepth 100000
set_option maxHeartbeats 40000000
namespace Go.Proofs.YtpephpefjddgcaaGreat
open Go Go.VC
/-! What is given in a window. -/
def gcnt (g : Nat → Bool) (a : Nat) : Nat → Nat
  | 0 => 0
  | n + 1 => gcnt g a n + (if g (a + n) = true then 1 else 0)
theorem gcnt_add (g : Nat → Bool) (a m : Nat) : ∀ n, gcnt g a (m + n) = gcnt g a m + gcnt g (a + m) n
  | 0 => rfl
  | n + 1 => by
    show gcnt g a (m + n) + (if g (a + (m + n)) = true then 1 else 0) = gcnt g a m + (gcnt g (a + m) n + (if g (a + m + n) = true then 1 else 0))
    rw [gcnt_add g a m n, Nat.add_assoc a m n]; omega
theorem gcnt_le (g : Nat → Bool) (a : Nat) : ∀ n, gcnt g a n ≤ n
  | 0 => Nat.le_refl _
  | n + 1 => by
    have := gcnt_le g a n
    show gcnt g a n + (if g (a + n) = true then 1 else 0) ≤ n + 1
    split <;> omega
def legalN (P B : Nat) (g : Nat → Bool) (N : Nat) : Prop := ∀ q, (q + 1) * P ≤ N → B ≤ gcnt g (q * P) P
/-- Within one period. -/
theorem gcnt_in {P B : Nat} {g : Nat → Bool} {N : Nat} (h : legalN P B g N) (q x n : Nat) (hq : (q + 1) * P ≤ N) (hx : x + n ≤ P) : n + B ≤ gcnt g (q * P + x) n + P := by
  have hB := h q hq
  obtain ⟨r, hr⟩ : ∃ r, P = x + (n + r) := ⟨P - x - n, by omega⟩
  have e1 : gcnt g (q * P) P = gcnt g (q * P) x + (gcnt g (q * P + x) n + gcnt g (q * P + x + n) r) := by
    rw [← gcnt_add, ← gcnt_add, ← hr]
  have := gcnt_le g (q * P) x
  have := gcnt_le g (q * P + x + n) r
  omega
theorem gcnt_full {P B : Nat} {g : Nat → Bool} {N : Nat} (h : legalN P B g N) (q : Nat) : ∀ k, (q + k) * P ≤ N → k * B ≤ gcnt g (q * P) (k * P)
  | 0, _ => by omega
  | k + 1, hN => by
    have h1 : (q + k) * P + P ≤ N := by rw [← Nat.succ_mul]; exact hN
    have hk := gcnt_full h q k (by omega)
    have hB := h (q + k) hN
    rw [Nat.succ_mul k P, gcnt_add, ← Nat.add_mul, Nat.succ_mul]
    omega
theorem sup_split {f : Face} (hf : faceP f) {x y k : Int} (hx : 0 ≤ x) (hx2 : x ≤ f.P) (hy : 0 ≤ y) (hy2 : y < f.P) (hk : 0 ≤ k) : supV f (x + k * f.P + y) ≤ max0 (x - (f.P - f.B)) + k * f.B + max0 (y - (f.P - f.B)) := by
  have hf' := hf
  unfold faceP at hf'
  have b1 := max0_b (x - (f.P - f.B))
  have b2 := max0_b (y - (f.P - f.B))
  have hkB : 0 ≤ k * f.B := Int.mul_nonneg hk (by omega)
  have hkP : 0 ≤ k * f.P := Int.mul_nonneg hk (by omega)
  by_cases c1 : x + y < f.P - f.B
  · by_cases c0 : k = 0
    · subst c0
      rw [supV_low (by rw [Int.zero_mul]; omega)]
      omega
    · have e : x + k * f.P + y = (f.P - f.B) + (k - 1) * f.P + (x + y - (f.P - f.B) + f.P) := by rw [Int.sub_mul]; omega
      have h1 : (k - 1) * f.B = k * f.B - f.B := by rw [Int.sub_mul, Int.one_mul]
      rw [supV_qr hf e (by omega) (by omega) (by omega), h1]
      have b3 := max0_b (x + y - (f.P - f.B) + f.P - (f.P - f.B))
      omega
  by_cases c2 : x + y < f.P - f.B + f.P
  · have e : x + k * f.P + y = (f.P - f.B) + k * f.P + (x + y - (f.P - f.B)) := by omega
    rw [supV_qr hf e (by omega) (by omega) (by omega)]
    have b3 := max0_b (x + y - (f.P - f.B) - (f.P - f.B))
    omega
  · have e : x + k * f.P + y = (f.P - f.B) + (k + 1) * f.P + (x + y - (f.P - f.B) - f.P) := by rw [Int.add_mul]; omega
    have h1 : (k + 1) * f.B = k * f.B + f.B := by rw [Int.add_mul, Int.one_mul]
    rw [supV_qr hf e (by omega) (by omega) (by omega), h1]
    have b3 := max0_b (x + y - (f.P - f.B) - f.P - (f.P - f.B))
    omega
theorem window {f : Face} (hf : faceP f) {P B : Nat} (hP : f.P = (P : Int)) (hB : f.B = (B : Int)) {g : Nat → Bool} {K : Nat} (hl : legalN P B g (K * P)) (a n : Nat) (h : a + n ≤ K * P) : supV f (n : Int) ≤ (gcnt g a n : Int) := by
  have hf' := hf
  unfold faceP at hf'
  have hP0 : 0 < P := by omega
  have hBP : B ≤ P := by omega
  obtain ⟨q, x', ea, hx'⟩ : ∃ q x', a = q * P + x' ∧ x' < P := ⟨a / P, a % P, by rw [Nat.mul_comm]; exact (Nat.div_add_mod a P).symm, Nat.mod_lt _ hP0⟩
  have up : ∀ q r : Nat, 0 < r → q * P + r ≤ K * P → (q + 1) * P ≤ K * P := by
    intro q r hr hq
    refine Nat.mul_le_mul_right P ?_
    refine Nat.lt_of_mul_lt_mul_right (a := P) ?_
    omega
  by_cases c : x' + n ≤ P
  · have hs := sup_split hf (x := (n : Int)) (y := 0) (k := 0) (by omega) (by omega) (Int.le_refl _) (by omega) (Int.le_refl _)
    rw [Int.zero_mul, Int.add_zero, Int.add_zero, Int.zero_mul, Int.add_zero] at hs
    have b1 := max0_b ((n : Int) - (f.P - f.B))
    have b2 := max0_b ((0 : Int) - (f.P - f.B))
    by_cases hn : n = 0
    · subst hn; omega
    have := gcnt_in hl q x' n (up q (x' + n) (by omega) (by omega)) c
    rw [ea]
    omega
  obtain ⟨k, y, en, hy⟩ : ∃ k y, n = (P - x') + (k * P + y) ∧ y < P := ⟨(n - (P - x')) / P, (n - (P - x')) % P, by
    have := Nat.div_add_mod (n - (P - x')) P
    rw [Nat.mul_comm] at this; omega, Nat.mod_lt _ hP0⟩
  have hq1 : (q + 1) * P = q * P + P := Nat.succ_mul _ _
  have hqk : (q + 1 + k) * P = q * P + P + k * P := by rw [Nat.add_mul, hq1]
  have hs := sup_split hf (x := ((P - x' : Nat) : Int)) (y := (y : Int)) (k := (k : Int)) (by omega) (by omega) (by omega) (by omega) (by omega)
  have e1 : ((P - x' : Nat) : Int) + (k : Int) * f.P + (y : Int) = (n : Int) := by
    rw [hP, en]; simp only [Int.natCast_add, Int.natCast_mul]; omega
  rw [e1] at hs
  have h1 := gcnt_in hl q x' (P - x') (up q x'.succ (by omega) (by omega)) (by omega)
  have h2 := gcnt_full hl (q + 1) k (by omega)
  have h3 : y + B ≤ gcnt g ((q + 1 + k) * P) y + P := by
    by_cases hy0 : y = 0
    · omega
    · have := gcnt_in hl (q + 1 + k) 0 y (up (q + 1 + k) y (by omega) (by omega)) (by omega)
      rwa [Nat.add_zero] at this
  have e2 : gcnt g a n = gcnt g (q * P + x') (P - x') + (gcnt g ((q + 1) * P) (k * P) + gcnt g ((q + 1 + k) * P) y) := by
    rw [en, ea, gcnt_add, gcnt_add, show q * P + x' + (P - x') = (q + 1) * P by omega, ← Nat.add_mul]
  have hkB : ((k * B : Nat) : Int) = (k : Int) * f.B := by rw [hB, Int.natCast_mul]
  have b1 := max0_b (((P - x' : Nat) : Int) - (f.P - f.B))
  have b2 := max0_b ((y : Int) - (f.P - f.B))
  rw [e2]
  omega

/-! The same, by what was given. -/
def hadN (o : List Int) (i : Int) (s : Nat) : Nat := (o.drop s).count i
theorem div_same {P t : Nat} (hP : 1 ≤ P) (ht : 0 < t) (h : ¬ P ∣ t) : (t - 1) / P = t / P := by
  have h1 := Nat.div_add_mod t P
  have h2 : t % P ≠ 0 := fun e => h (Nat.dvd_of_mod_eq_zero e)
  have h3 := Nat.mod_lt t hP
  refine Nat.div_eq_of_lt_le ?_ ?_
  · rw [Nat.mul_comm]; omega
  · rw [Nat.succ_mul, Nat.mul_comm]; omega
theorem hadN_snoc {o : List Int} {r i : Int} {s : Nat} (hs : s ≤ o.length) : hadN (o ++ [r]) i s = hadN o i s + (if r = i then 1 else 0) := by
  unfold hadN
  rw [List.drop_append_of_le_length hs, List.count_append, List.count_singleton]
  congr 1
  by_cases e : r = i
  · rw [if_pos e, if_pos (by rw [e]; exact beq_self_eq_true _)]
  · rw [if_neg e, if_neg (by rw [beq_iff_eq]; exact e)]
theorem wv_dec {w : List Int} {r : Int} {t k : Nat} {l : List Face} (hn : isNext l w t l.length r) (hw : w.length = l.length) (i : Nat) : wv (dec w r) i = wv w i - (if r = (i : Int) then 1 else 0) := by
  unfold dec
  rcases hn with ⟨rfl, _⟩ | ⟨j, f, hj, rfl, _⟩
  · rw [if_pos rfl, if_neg (by omega)]; omega
  · rw [if_neg (by omega), Int.toNat_natCast, wv_set (by omega)]
    by_cases e : i = j
    · subst e; rw [if_pos rfl, if_pos rfl]
    · rw [if_neg e, if_neg (by omega)]; omega
theorem LayR.wants {l : List Face} (hl : facesP l) {t : Nat} {o w : List Int} (h : LayR l t o w) : (t = 0 → ∀ i, wv w i = 0) ∧ (0 < t → ∀ (i : Nat) (f : Face), l[i]? = some f → wv w i = f.B - ((hadN o (i : Int) ((t - 1) / f.P.toNat * f.P.toNat) : Nat) : Int)) ∧ ∀ (i : Nat) (f : Face), l[i]? = some f → wv (begun l w t) i = f.B - ((hadN o (i : Int) (t / f.P.toNat * f.P.toNat) : Nat) : Int) := by
  have fin : ∀ {t : Nat} {o w : List Int}, LayR l t o w → ((t = 0 → ∀ i, wv w i = 0) ∧ (0 < t → ∀ (i : Nat) (f : Face), l[i]? = some f → wv w i = f.B - ((hadN o (i : Int) ((t - 1) / f.P.toNat * f.P.toNat) : Nat) : Int))) → ∀ (i : Nat) (f : Face), l[i]? = some f → wv (begun l w t) i = f.B - ((hadN o (i : Int) (t / f.P.toNat * f.P.toNat) : Nat) : Int) := by
    intro t o w h ih i f hf
    have hp := (hl.1 f (List.mem_of_getElem? hf)).P
    rw [begun_at hf]
    by_cases cd : f.P.toNat ∣ t
    · rw [if_pos cd, Nat.div_mul_cancel cd]
      unfold hadN
      rw [List.drop_eq_nil_of_le (by rw [(h.ok hl).1]; exact Nat.le_refl _)]
      simp
    · rw [if_neg cd]
      have ht : 0 < t := Nat.pos_of_ne_zero fun e => cd (by rw [e]; exact Nat.dvd_zero _)
      rw [ih.2 ht i f hf, div_same (by omega) ht cd]
  have main : (t = 0 → ∀ i, wv w i = 0) ∧ (0 < t → ∀ (i : Nat) (f : Face), l[i]? = some f → wv w i = f.B - ((hadN o (i : Int) ((t - 1) / f.P.toNat * f.P.toNat) : Nat) : Int)) := by
    induction h with
    | zero =>
      refine ⟨fun _ i => ?_, fun h => by omega⟩
      unfold wv
      rw [List.getElem?_replicate]
      split <;> rfl
    | step h hd hn ih =>
      rename_i t out w r
      refine ⟨fun h => by omega, fun _ i f hf => ?_⟩
      have hol := (h.ok hl).1
      have hle : t / f.P.toNat * f.P.toNat ≤ t := Nat.div_mul_le_self _ _
      rw [wv_dec (t := t) (k := 0) hn (begun_len _ _ _), fin h ih i f hf, Nat.add_sub_cancel, hadN_snoc (by omega)]
      split <;> omega
  exact ⟨main.1, main.2, fin h main⟩
/-- Who is next, downward. -/
structure dnI (l : List Face) (u : List Int) (t k : Nat) (who : Int) : Prop where
  n : (who = -1 ∧ ∀ i, k ≤ i → i < l.length → wv u i ≤ 0) ∨ ∃ (i : Nat) (f : Face), k ≤ i ∧ i < l.length ∧ who = (i : Int) ∧ l[i]? = some f ∧ 0 < wv u i ∧ ∀ (j : Nat) (g : Face), k ≤ j → l[j]? = some g → 0 < wv u j → byV f t < byV g t ∨ (byV f t = byV g t ∧ i ≤ j)
theorem dnI.end {l : List Face} {u : List Int} {t : Nat} {who : Int} (h : dnI l u t 0 who) : isNext l u t l.length who := by
  rcases h.n with ⟨rfl, a⟩ | ⟨i, f, _, hi, rfl, hf, hw, a⟩
  · exact .inl ⟨rfl, fun i hi => a i (Nat.zero_le _) hi⟩
  · exact .inr ⟨i, f, hi, rfl, hf, hw, fun j g _ hg hwj => a j g (Nat.zero_le _) hg hwj⟩
theorem dnI.keep {l : List Face} {u : List Int} {t k : Nat} {who : Int} (h : dnI l u t (k + 1) who) (hk : k < l.length) (hc : ¬ 0 < wv u k ∨ ∃ (i : Nat) (f : Face), who = (i : Int) ∧ l[i]? = some f ∧ byV f t < byV l[k] t) : dnI l u t k who := by
  have hfk : l[k]? = some l[k] := List.getElem?_eq_getElem hk
  refine ⟨?_⟩
  rcases h.n with ⟨rfl, a⟩ | ⟨i, f, hi, hil, rfl, hf, hw, a⟩
  · refine .inl ⟨rfl, fun i hi hil => ?_⟩
    by_cases e : i = k
    · subst e
      rcases hc with hc | ⟨j, f, hj, _⟩
      · exact Int.not_lt.1 hc
      · omega
    · exact a i (by omega) hil
  · refine .inr ⟨i, f, by omega, hil, rfl, hf, hw, fun j g hj hg hwj => ?_⟩
    by_cases e : j = k
    · subst e
      rw [hfk] at hg; cases hg
      rcases hc with hc | ⟨i', f', hi', hf', hlt⟩
      · exact absurd hwj hc
      · have : i' = i := by omega
        subst this
        rw [hf] at hf'; cases hf'
        exact .inl hlt
    · exact a j g (by omega) hg hwj
theorem dnI.take {l : List Face} {u : List Int} {t k : Nat} {who : Int} (h : dnI l u t (k + 1) who) (hk : k < l.length) (hw : 0 < wv u k) (hc : who = -1 ∨ ∃ (i : Nat) (f : Face), who = (i : Int) ∧ l[i]? = some f ∧ byV l[k] t ≤ byV f t) : dnI l u t k (k : Int) := by
  have hfk : l[k]? = some l[k] := List.getElem?_eq_getElem hk
  refine ⟨.inr ⟨k, l[k], Nat.le_refl _, hk, rfl, hfk, hw, fun j g hj hg hwj => ?_⟩⟩
  by_cases e : j = k
  · subst e; rw [hfk] at hg; cases hg; exact .inr ⟨rfl, Nat.le_refl _⟩
  · rcases h.n with ⟨rfl, a⟩ | ⟨i, f, hi, hil, rfl, hf, hw', a⟩
    · have := a j (by omega) (List.getElem?_eq_some_iff.1 hg).1; omega
    · have h1 := a j g (by omega) hg hwj
      rcases hc with hc | ⟨i', f', hi', hf', hle⟩
      · omega
      · have : i' = i := by omega
        subst this
        rw [hf] at hf'; cases hf'
        omega
/-! Sums over places. -/
def sumN (g : Nat → Int) : Nat → Int
  | 0 => 0
  | n + 1 => sumN g n + g n
theorem sumN_le {g h : Nat → Int} : ∀ n, (∀ i, i < n → g i ≤ h i) → sumN g n ≤ sumN h n
  | 0, _ => Int.le_refl _
  | n + 1, H => by
    have a := sumN_le n fun i hi => H i (by omega)
    have b := H n (by omega)
    show sumN g n + g n ≤ sumN h n + h n
    omega
theorem sumN_eq {g h : Nat → Int} (n : Nat) (H : ∀ i, i < n → g i = h i) : sumN g n = sumN h n :=
  Int.le_antisymm (sumN_le n fun i hi => Int.le_of_eq (H i hi)) (sumN_le n fun i hi => Int.le_of_eq (H i hi).symm)
theorem sumN_nonneg {g : Nat → Int} : ∀ n, (∀ i, i < n → 0 ≤ g i) → 0 ≤ sumN g n
  | 0, _ => Int.le_refl _
  | n + 1, H => by
    have a := sumN_nonneg n fun i hi => H i (by omega)
    have b := H n (by omega)
    show 0 ≤ sumN g n + g n
    omega
theorem sumN_ge {g : Nat → Int} {i : Nat} : ∀ n, (∀ i, i < n → 0 ≤ g i) → i < n → g i ≤ sumN g n
  | 0, _, h => by omega
  | n + 1, H, h => by
    have a := sumN_nonneg n fun i hi => H i (by omega)
    have b := H n (by omega)
    show g i ≤ sumN g n + g n
    by_cases e : i = n
    · subst e; omega
    · have := sumN_ge n (fun i hi => H i (by omega)) (show i < n by omega); omega
theorem sumN_dec {g h : Nat → Int} {j : Nat} : ∀ n, j < n → (∀ i, i < n → i ≠ j → h i = g i) → h j = g j - 1 → sumN h n = sumN g n - 1
  | 0, hj, _, _ => by omega
  | n + 1, hj, hne, he => by
    show sumN h n + h n = sumN g n + g n - 1
    by_cases e : j = n
    · subst e
      rw [sumN_eq j fun i hi => hne i (by omega) (by omega), he]; omega
    · rw [sumN_dec n (by omega) (fun i hi => hne i (by omega)) he, hne n (by omega) (fun h => e h.symm)]; omega
theorem sumN_mul {g : Nat → Int} (c : Int) : ∀ n, sumN (fun i => c * g i) n = c * sumN g n
  | 0 => by show (0 : Int) = c * 0; omega
  | n + 1 => by show sumN (fun i => c * g i) n + c * g n = c * (sumN g n + g n); rw [sumN_mul c n, Int.mul_add]
/-! Whom the table is laid for. -/
def fB (l : List Face) (i : Nat) : Int := match l[i]? with | some f => f.B | none => 0
def fP (l : List Face) (i : Nat) : Nat := match l[i]? with | some f => f.P.toNat | none => 1
theorem fB_at {l : List Face} {i : Nat} {f : Face} (h : l[i]? = some f) : fB l i = f.B := by unfold fB; rw [h]
theorem fP_at {l : List Face} {i : Nat} {f : Face} (h : l[i]? = some f) : fP l i = f.P.toNat := by unfold fP; rw [h]
theorem fPB {l : List Face} (hl : facesP l) {i : Nat} (hi : i < l.length) : 1 ≤ fP l i ∧ fP l i ≤ 200 ∧ 1 ≤ fB l i ∧ fB l i ≤ 200 := by
  have h := List.getElem?_eq_getElem hi
  have := (hl.1 _ (List.getElem_mem hi)).P
  rw [fB_at h, fP_at h]; omega
theorem begun_v {l : List Face} {w : List Int} {t i : Nat} (hi : i < l.length) : wv (begun l w t) i = if fP l i ∣ t then fB l i else wv w i := by
  have h := List.getElem?_eq_getElem hi
  rw [begun_at h, fB_at h, fP_at h]
def utilP (l : List Face) : Prop := ∀ x : Nat, sumN (fun i => fB l i * ((x / fP l i : Nat) : Int)) l.length ≤ (x : Int)
/-- What must still be given up to 'd', of what began, and what will. -/
def termQ (l : List Face) (w : List Int) (t d i : Nat) : Int := (if (t / fP l i + 1) * fP l i ≤ d then wv w i else 0) + fB l i * ((d / fP l i - (t / fP l i + 1) : Nat) : Int)
theorem mul_int_succ (B : Int) (a : Nat) : B * ((a + 1 : Nat) : Int) = B + B * (a : Int) := by rw [Int.natCast_add, Int.mul_add]; show B * a + B * 1 = _; omega
theorem termQ_first {l : List Face} (hl : facesP l) (w : List Int) (d : Nat) {i : Nat} (hi : i < l.length) : termQ l (begun l w 0) 0 d i = fB l i * ((d / fP l i : Nat) : Int) := by
  obtain ⟨p1, _⟩ := fPB hl hi
  unfold termQ
  rw [begun_v hi, if_pos (Nat.dvd_zero _), Nat.zero_div, Nat.zero_add, Nat.one_mul]
  by_cases c : fP l i ≤ d
  · rw [if_pos c]
    have h1 : 1 ≤ d / fP l i := (Nat.le_div_iff_mul_le p1).2 (by omega)
    have : d / fP l i = (d / fP l i - 1) + 1 := by omega
    conv => rhs; rw [this]
    rw [mul_int_succ]
  · rw [if_neg c, Nat.div_eq_of_lt (by omega)]; simp
theorem termQ_next {l : List Face} (hl : facesP l) {w : List Int} {t d i : Nat} (hi : i < l.length) (h0 : ∀ i, 0 ≤ wv w i) (hd : ¬ denyP l w (t + 1)) : termQ l (begun l w (t + 1)) (t + 1) d i = termQ l w t d i := by
  obtain ⟨p1, _⟩ := fPB hl hi
  have hf := List.getElem?_eq_getElem hi
  unfold termQ
  rw [begun_v hi]
  have hdm := Nat.div_add_mod t (fP l i)
  have hml := Nat.mod_lt t (show fP l i > 0 by omega)
  by_cases c : fP l i ∣ t + 1
  · have hw : wv w i = 0 := by
      have h := h0 i
      have : ¬ 0 < wv w i := fun g => hd ⟨i, _, hf, by rw [← fP_at hf]; exact c, g⟩
      omega
    have e : (t + 1) / fP l i = t / fP l i + 1 := by
      obtain ⟨q, hq⟩ := c
      have h1 : t / fP l i < q := (Nat.div_lt_iff_lt_mul p1).2 (by rw [Nat.mul_comm]; omega)
      have h2 : q ≤ t / fP l i + 1 := by
        have : q - 1 ≤ t / fP l i := (Nat.le_div_iff_mul_le p1).2 (by rw [Nat.mul_comm, Nat.mul_sub, ← hq]; omega)
        omega
      rw [hq, Nat.mul_div_cancel_left _ p1]; omega
    rw [if_pos c, hw, e]
    have hz : (if (t / fP l i + 1) * fP l i ≤ d then (0 : Int) else 0) = 0 := by split <;> rfl
    rw [hz]
    by_cases cd : (t / fP l i + 1 + 1) * fP l i ≤ d
    · rw [if_pos cd]
      have h1 : t / fP l i + 1 + 1 ≤ d / fP l i := (Nat.le_div_iff_mul_le p1).2 cd
      have e2 : d / fP l i - (t / fP l i + 1) = (d / fP l i - (t / fP l i + 1 + 1)) + 1 := by omega
      rw [e2, mul_int_succ]; omega
    · rw [if_neg cd]
      have h1 : ¬ t / fP l i + 1 + 1 ≤ d / fP l i := fun h => cd ((Nat.le_div_iff_mul_le p1).1 h)
      rw [show d / fP l i - (t / fP l i + 1 + 1) = 0 by omega, show d / fP l i - (t / fP l i + 1) = 0 by omega]
  · rw [if_neg c]
    have e : (t + 1) / fP l i = t / fP l i := by
      have h1 : t % fP l i + 1 < fP l i := by
        rcases Nat.lt_or_ge (t % fP l i + 1) (fP l i) with h | h
        · exact h
        · exact absurd ⟨t / fP l i + 1, by rw [Nat.mul_add, Nat.mul_one]; omega⟩ c
      refine (Nat.div_eq_of_lt_le ?_ ?_)
      · rw [Nat.mul_comm]; omega
      · rw [Nat.add_mul, Nat.one_mul, Nat.mul_comm]; omega
    rw [e]
theorem sub_div_le {P d t : Nat} (hP : 1 ≤ P) : d / P - (t / P + 1) ≤ (d - (t + 1)) / P := by
  have hdm := Nat.div_add_mod t P
  have hml := Nat.mod_lt t (show P > 0 by omega)
  by_cases c : t / P + 1 ≤ d / P
  · refine (Nat.le_div_iff_mul_le hP).2 ?_
    have h2 := Nat.div_mul_le_self d P
    have h3 : t + 1 ≤ (t / P + 1) * P := by rw [Nat.add_mul, Nat.one_mul, Nat.mul_comm]; omega
    rw [Nat.sub_mul]; omega
  · rw [show d / P - (t / P + 1) = 0 by omega]; exact Nat.zero_le _
theorem step_K {l : List Face} (hl : facesP l) (hU : utilP l) {u : List Int} {t : Nat} {r : Int} (hu : u.length = l.length) (h0 : ∀ i, 0 ≤ wv u i) (hK : ∀ d, t ≤ d → sumN (termQ l u t d) l.length ≤ (d : Int) - t) (hn : isNext l u t l.length r) : ∀ d, t + 1 ≤ d → sumN (termQ l (dec u r) t d) l.length ≤ (d : Int) - ((t + 1 : Nat) : Int) := by
  intro d hd
  have idle : (∀ i, i < l.length → (if (t / fP l i + 1) * fP l i ≤ d then wv (dec u r) i else 0) ≤ 0) → sumN (termQ l (dec u r) t d) l.length ≤ (d : Int) - ((t + 1 : Nat) : Int) := by
    intro hz
    refine Int.le_trans (sumN_le l.length (h := fun i => fB l i * (((d - (t + 1)) / fP l i : Nat) : Int)) fun i hi => ?_) (Int.le_trans (hU (d - (t + 1))) (by omega))
    obtain ⟨p1, _, b1, _⟩ := fPB hl hi
    have h1 := hz i hi
    have h2 := sub_div_le (d := d) (t := t) p1
    have h3 : fB l i * ((d / fP l i - (t / fP l i + 1) : Nat) : Int) ≤ fB l i * (((d - (t + 1)) / fP l i : Nat) : Int) := Int.mul_le_mul_of_nonneg_left (by omega) (by omega)
    unfold termQ
    omega
  rcases hn with ⟨rfl, a⟩ | ⟨j, f, hj, rfl, hf, hw, a⟩
  · refine idle fun i hi => ?_
    unfold dec
    rw [if_pos rfl]
    have := a i hi
    split <;> omega
  have hfP := fP_at hf
  have hdv : ∀ i, wv (dec u (j : Int)) i = if i = j then wv u j - 1 else wv u i := fun i => by
    unfold dec
    rw [if_neg (by omega), Int.toNat_natCast, wv_set (by rw [hu]; exact hj)]
  by_cases c : (t / fP l j + 1) * fP l j ≤ d
  · have hs : sumN (termQ l (dec u (j : Int)) t d) l.length = sumN (termQ l u t d) l.length - 1 := by
      refine sumN_dec l.length hj (fun i hi ne => ?_) ?_
      · unfold termQ; rw [hdv, if_neg ne]
      · unfold termQ; rw [hdv, if_pos rfl, if_pos c, if_pos c]; omega
    rw [hs]
    have := hK d (by omega)
    omega
  · refine idle fun i hi => ?_
    rw [hdv]
    by_cases ei : i = j
    · subst ei; rw [if_neg c]; exact Int.le_refl _
    rw [if_neg ei]
    split
    · rename_i ci
      have hg := List.getElem?_eq_getElem hi
      have hnw : ¬ 0 < wv u i := fun h => by
        have := a i _ hi hg h
        unfold byV at this
        rw [← hfP, ← fP_at hg] at this
        omega
      omega
    · exact Int.le_refl _
theorem LayR.K {l : List Face} (hl : facesP l) (hU : utilP l) {t : Nat} {o w : List Int} (h : LayR l t o w) : ∀ s, t = s + 1 → ∀ d, s + 1 ≤ d → sumN (termQ l w s d) l.length ≤ (d : Int) - ((s + 1 : Nat) : Int) := by
  induction h with
  | zero => intro s hs; omega
  | step h hd hn ih =>
    rename_i t out w r
    intro s hs
    obtain rfl : t = s := by omega
    obtain ⟨k1, k2, k3, _⟩ := h.ok hl
    have hb0 : ∀ i, 0 ≤ wv (begun l w t) i := fun i => by
      cases hf : l[i]? with
      | some f =>
        rw [begun_at hf]
        have := (hl.1 f (List.mem_of_getElem? hf)).P
        have := k3 i
        split <;> omega
      | none =>
        have : (begun l w t)[i]? = none := List.getElem?_eq_none (by rw [begun_len]; exact List.getElem?_eq_none_iff.1 hf)
        unfold wv; rw [this]; exact Int.le_refl _
    refine step_K hl hU (begun_len _ _ _) hb0 ?_ hn
    intro d hdt
    cases t with
    | zero =>
      rw [sumN_eq l.length fun i hi => termQ_first hl w d hi]
      have := hU d
      omega
    | succ s' =>
      rw [sumN_eq l.length fun i hi => termQ_next hl hi (fun i => (k3 i).1) hd]
      exact ih s' rfl d hdt
/-- Who asks for no more than there is, is not denied. -/
theorem LayR.fine {l : List Face} (hl : facesP l) (hU : utilP l) {t : Nat} {o w : List Int} (h : LayR l t o w) : ¬ denyP l w t := by
  rintro ⟨i, f, hf, hp, hw⟩
  have hi := (List.getElem?_eq_some_iff.1 hf).1
  obtain ⟨_, _, k3, _⟩ := h.ok hl
  cases t with
  | zero =>
    cases h with
    | zero =>
      unfold wv at hw
      rw [List.getElem?_replicate, if_pos hi] at hw
      exact absurd hw (by decide)
  | succ s =>
    have hK := h.K hl hU s rfl (s + 1) (Nat.le_refl _)
    have nn : ∀ i, i < l.length → 0 ≤ termQ l w s (s + 1) i := fun i hi => by
      obtain ⟨_, _, b1, _⟩ := fPB hl hi
      have h1 := (k3 i).1
      have h2 : 0 ≤ fB l i * (((s + 1) / fP l i - (s / fP l i + 1) : Nat) : Int) := Int.mul_nonneg (by omega) (by omega)
      unfold termQ
      split <;> omega
    have hge := sumN_ge l.length nn hi
    obtain ⟨p1, _, b1, _⟩ := fPB hl hi
    have h2 : 0 ≤ fB l i * (((s + 1) / fP l i - (s / fP l i + 1) : Nat) : Int) := Int.mul_nonneg (by omega) (by omega)
    have hm : (s / fP l i + 1) * fP l i ≤ s + 1 := by
      rw [fP_at hf] at *
      obtain ⟨q, hq⟩ := hp
      have h1 : s / f.P.toNat < q := (Nat.div_lt_iff_lt_mul p1).2 (by rw [Nat.mul_comm]; omega)
      have := Nat.mul_le_mul_right f.P.toNat (show s / f.P.toNat + 1 ≤ q by omega)
      rw [hq, Nat.mul_comm f.P.toNat q]; exact this
    unfold termQ at hge
    rw [if_pos hm] at hge
    unfold termQ at hK
    omega
/-! What is given. -/
theorem LayR.cnt {l : List Face} (hl : facesP l) {t : Nat} {o w : List Int} (h : LayR l t o w) : ∀ i, i < l.length → ((o.count (i : Int) : Nat) : Int) = fB l i * (((t + fP l i - 1) / fP l i : Nat) : Int) - wv w i := by
  induction h with
  | zero =>
    intro i hi
    obtain ⟨p1, _⟩ := fPB hl hi
    rw [Nat.zero_add, Nat.div_eq_of_lt (by omega)]
    unfold wv
    rw [List.getElem?_replicate, if_pos hi]; simp
  | step h hd hn ih =>
    rename_i t out w r
    intro i hi
    obtain ⟨p1, _⟩ := fPB hl hi
    obtain ⟨k1, k2, k3, _⟩ := h.ok hl
    have hf := List.getElem?_eq_getElem hi
    have ih := ih i hi
    have hwd : wv (dec (begun l w t) r) i = wv (begun l w t) i - (if r = (i : Int) then 1 else 0) := by
      unfold dec
      rcases hn with ⟨rfl, _⟩ | ⟨j, f, hj, rfl, _⟩
      · rw [if_pos rfl, if_neg (by omega)]; omega
      · rw [if_neg (by omega), Int.toNat_natCast, wv_set (by rw [begun_len]; exact hj)]
        by_cases e : i = j
        · subst e; rw [if_pos rfl, if_pos rfl]
        · rw [if_neg e, if_neg (by omega)]; omega
    have hco : (((out ++ [r]).count (i : Int) : Nat) : Int) = ((out.count (i : Int) : Nat) : Int) + (if r = (i : Int) then 1 else 0) := by
      rw [List.count_append, List.count_singleton]
      by_cases e : r = (i : Int)
      · rw [if_pos e, e]; simp
      · rw [if_neg e]; simp [e]
    rw [hco, hwd, ih, begun_v hi]
    have hdm := Nat.div_add_mod t (fP l i)
    have hml := Nat.mod_lt t (show fP l i > 0 by omega)
    have e1 : (t + 1 + fP l i - 1) / fP l i = t / fP l i + 1 := by rw [show t + 1 + fP l i - 1 = t + fP l i by omega, Nat.add_div_right _ p1]
    rw [e1]
    by_cases c : fP l i ∣ t
    · have hw : wv w i = 0 := by
        have h := (k3 i).1
        have : ¬ 0 < wv w i := fun g => hd ⟨i, _, hf, by rw [← fP_at hf]; exact c, g⟩
        omega
      have e2 : (t + fP l i - 1) / fP l i = t / fP l i := by
        obtain ⟨q, hq⟩ := c
        rw [hq, Nat.mul_div_cancel_left _ p1]
        refine Nat.div_eq_of_lt_le ?_ ?_
        · rw [Nat.mul_comm]; omega
        · rw [Nat.add_mul, Nat.one_mul, Nat.mul_comm]; omega
      rw [if_pos c, hw, e2, mul_int_succ]; omega
    · have e2 : (t + fP l i - 1) / fP l i = t / fP l i + 1 := by
        have : 1 ≤ t % fP l i := by
          rcases Nat.eq_zero_or_pos (t % fP l i) with h | h
          · exact absurd (Nat.dvd_of_mod_eq_zero h) c
          · exact h
        refine Nat.div_eq_of_lt_le ?_ ?_
        · rw [Nat.add_mul, Nat.one_mul, Nat.mul_comm]; omega
        · rw [Nat.add_mul, Nat.add_mul, Nat.one_mul, Nat.mul_comm]; omega
      rw [if_neg c, e2]; omega
theorem ind_le (a : Int) : ∀ n, sumN (fun i => if a = (i : Int) then 1 else 0) n ≤ 1 ∧ (a < 0 ∨ (n : Int) ≤ a → sumN (fun i => if a = (i : Int) then 1 else 0) n ≤ 0)
  | 0 => ⟨by show (0 : Int) ≤ 1; omega, fun _ => Int.le_refl _⟩
  | n + 1 => by
    obtain ⟨h1, h2⟩ := ind_le a n
    refine ⟨?_, fun h => ?_⟩
    · show sumN _ n + (if a = (n : Int) then 1 else 0) ≤ 1
      by_cases e : a = (n : Int)
      · have := h2 (.inr (by omega)); rw [if_pos e]; omega
      · rw [if_neg e]; omega
    · show sumN _ n + (if a = (n : Int) then 1 else 0) ≤ 0
      have := h2 (by omega)
      rw [if_neg (by omega)]; omega
theorem sumN_add {g h : Nat → Int} : ∀ n, sumN (fun i => g i + h i) n = sumN g n + sumN h n
  | 0 => rfl
  | n + 1 => by show sumN (fun i => g i + h i) n + (g n + h n) = (sumN g n + g n) + (sumN h n + h n); rw [sumN_add n]; omega
theorem count_sum (n : Nat) : ∀ o : List Int, sumN (fun i => ((o.count (i : Int) : Nat) : Int)) n ≤ (o.length : Int)
  | [] => by
    rw [sumN_eq (h := fun _ => 0) n fun i hi => by simp]
    refine Int.le_trans (sumN_le n (h := fun i => 0 * (fun _ => (0 : Int)) i) fun i hi => by simp) ?_
    rw [sumN_mul]; simp
  | a :: o => by
    have e : ∀ i, i < n → (((a :: o).count (i : Int) : Nat) : Int) = ((o.count (i : Int) : Nat) : Int) + (if a = (i : Int) then 1 else 0) := fun i hi => by
      rw [List.count_cons]
      by_cases c : a = (i : Int)
      · rw [if_pos c, c]; simp
      · rw [if_neg c]; simp [c]
    rw [sumN_eq n e, sumN_add]
    have h1 := count_sum n o
    have h2 := (ind_le a n).1
    rw [List.length_cons]; omega
/-- What is laid was not more than there is. -/
theorem LayR.sum {l : List Face} (hl : facesP l) {F : Nat} {o w : List Int} (h : LayR l F o w) (hd : ¬ denyP l w F) (hF : ∀ i, i < l.length → fP l i ∣ F) : sumN (fun i => fB l i * ((F / fP l i : Nat) : Int)) l.length ≤ (F : Int) := by
  obtain ⟨k1, k2, k3, _⟩ := h.ok hl
  have hc := count_sum l.length o
  rw [k1] at hc
  refine Int.le_trans (sumN_le l.length fun i hi => ?_) hc
  obtain ⟨p1, _⟩ := fPB hl hi
  have hw : wv w i = 0 := by
    have h := (k3 i).1
    have : ¬ 0 < wv w i := fun g => hd ⟨i, _, List.getElem?_eq_getElem hi, by rw [← fP_at (List.getElem?_eq_getElem hi)]; exact hF i hi, g⟩
    omega
  have e2 : (F + fP l i - 1) / fP l i = F / fP l i := by
    obtain ⟨q, hq⟩ := hF i hi
    rw [hq, Nat.mul_div_cancel_left _ p1]
    refine Nat.div_eq_of_lt_le ?_ ?_
    · rw [Nat.mul_comm]; omega
    · rw [Nat.add_mul, Nat.one_mul, Nat.mul_comm]; omega
  rw [h.cnt hl i hi, hw, e2]; omega
theorem util_of {l : List Face} (hl : facesP l) {F : Nat} (h0 : 0 < F) (hF : ∀ i, i < l.length → fP l i ∣ F) (h : sumN (fun i => fB l i * ((F / fP l i : Nat) : Int)) l.length ≤ (F : Int)) : utilP l := by
  intro x
  have key : sumN (fun i => (F : Int) * (fB l i * ((x / fP l i : Nat) : Int))) l.length ≤ sumN (fun i => (x : Int) * (fB l i * ((F / fP l i : Nat) : Int))) l.length := by
    refine sumN_le l.length fun i hi => ?_
    obtain ⟨p1, _, b1, _⟩ := fPB hl hi
    obtain ⟨q, hq⟩ := hF i hi
    have e : F / fP l i = q := by rw [hq, Nat.mul_div_cancel_left _ p1]
    rw [e]
    have hm : F * (x / fP l i) ≤ x * q := by
      rw [hq, Nat.mul_comm (fP l i) q, Nat.mul_assoc, Nat.mul_comm x q]
      refine Nat.mul_le_mul_left q ?_
      rw [Nat.mul_comm]; exact Nat.div_mul_le_self _ _
    have hm2 : (F : Int) * ((x / fP l i : Nat) : Int) ≤ (x : Int) * (q : Int) := by exact_mod_cast hm
    have := Int.mul_le_mul_of_nonneg_left hm2 (show 0 ≤ fB l i by omega)
    calc (F : Int) * (fB l i * ((x / fP l i : Nat) : Int)) = fB l i * ((F : Int) * ((x / fP l i : Nat) : Int)) := by rw [Int.mul_left_comm]
      _ ≤ fB l i * ((x : Int) * (q : Int)) := this
      _ = (x : Int) * (fB l i * (q : Int)) := by rw [Int.mul_left_comm]
  rw [sumN_mul, sumN_mul] at key
  have h2 : (x : Int) * sumN (fun i => fB l i * ((F / fP l i : Nat) : Int)) l.length ≤ (x : Int) * (F : Int) := Int.mul_le_mul_of_nonneg_left h (by omega)
  have h3 : (F : Int) * sumN (fun i => fB l i * ((x / fP l i : Nat) : Int)) l.length ≤ (F : Int) * (x : Int) := by rw [Int.mul_comm (F : Int) (x : Int)]; omega
  exact Int.le_of_mul_le_mul_left h3 (by omega)

end Go.Proofs.YtpephpefjddgcaaGreat
namespace Go.Proofs.YtpephpefjddgcaaGreat
open Go Go.VC
noncomputable def table_Ticks (a0 : TableTable) : Option ((List Int) × Int) :=
  bnd (table_Right a0) fun x1 => fk (!x1) (some ([], (1 : Int))) (ck (decide ((0 : Int) ≤ a0.Frame) && decide (a0.Frame * ((8 : Nat) : Int) ≤ 140737488355328) && decide (a0.Frame ≤ 1000000000000)) (lp (fun nx2 (v2 : (List Int) × Int) => fk (decide (v2.2 < ((List.replicate a0.Frame.toNat ((0 : Int) : Int)).length : Int))) (ck (decide (0 ≤ v2.2) && decide (v2.2 < (v2.1.length : Int))) (ox v2.1 v2.2.toNat fun x3 => nx2 (v2.1.set v2.2.toNat (-1 : Int), (wr (v2.2 + (1 : Int)))))) (lp (fun nx4 (v4 : (List Int) × Int) => fk (decide (v4.2 < (a0.Windows.length : Int))) (ix a0.Windows v4.2 fun x5 => lp (fun nx6 (v6 : (List Int) × Int) => fk (decide (v6.2 < x5.Len)) (ck (decide (0 ≤ (wr (x5.From + v6.2))) && decide ((wr (x5.From + v6.2)) < (v6.1.length : Int))) (ox v6.1 ((wr (x5.From + v6.2)).toNat) fun x7 => nx6 (v6.1.set ((wr (x5.From + v6.2)).toNat) x5.Part, (wr (v6.2 + (1 : Int)))))) (nx4 (v6.1, (wr (v4.2 + (1 : Int)))))) FU (v4.1, (0 : Int))) (some (v4.1, (0 : Int)))) FU (v2.1, (0 : Int)))) FU (List.replicate a0.Frame.toNat ((0 : Int) : Int), (0 : Int))))
theorem table_Ticks_w (a0 : TableTable) (r : (List Int) × Int) (h : table_Ticks a0 = some r) : Go.VC.Spec Tryz.prog 27 [.agg (TableTable.enc a0)] (fun y => y = E_ListInt_Int r) := by
  refine Go.VC.Spec.of_xc (args := [.agg (TableTable.enc a0)]) (fn := Tryz.f27) tab ⟨[(0, [1]), (1, [1, 11]), (2, [2, 3]), (3, [1, 4]), (4, [1, 4, 16, 17]), (5, [1, 4, 16, 17, 18]), (6, [1, 4, 5, 16, 17]), (7, [1, 4, 16, 17]), (8, [1, 4, 16, 17]), (9, [4, 25, 26, 27]), (10, [4, 25, 26, 27, 28]), (11, [4, 7, 25, 26, 27]), (12, [4, 7, 25, 26, 27, 32, 33]), (13, [4, 7, 25, 26, 27, 32, 33, 34]), (14, [4, 7, 8, 25, 26, 27, 32, 33]), (15, [4, 7, 25, 26, 27, 32, 33]), (16, [4, 7, 25, 26, 27, 32, 33]), (17, [4, 25, 26, 27]), (18, [2, 3])], [], [], []⟩ 47 [.tmp 2, .tmp 3] rfl rfl rfl rfl rfl rfl ?_
  conv => whnf
  refine caS (E := E_Bool) h (table_Right_w a0) rfl (fun _ => rfl) (fun x1 h => ?_)
  conv => whnf
  refine fkS h (fun h => ?_) (fun h => ?_)
  · conv => whnf
    exact rt (E := E_ListInt_Int) h rfl
  conv => whnf
  refine mkS ((0 : Int) : Int) (eI .i64) h rfl rfl (fun h => ?_)
  conv => whnf
  refine lenS (List.replicate a0.Frame.toNat ((0 : Int) : Int)) (eI .i64) rfl ?_
  conv => whnf
  refine lpS (fun v2 => ⟨[(1, .l (.ptr 2 0)), (4, .l (.own 5)), (16, .l (.d (.int .i64 ((List.replicate a0.Frame.toNat ((0 : Int) : Int)).length : Int)))), (17, .l (.d (.int .i64 v2.2)))], 47, [], [(2, [.d (.int .i64 a0.Frame), .d (.sl (a0.Windows.map Window.enc))])], [(5, 3, 1, v2.1.map (eI .i64))]⟩) h (Weak.refl _) (fun _ nx2 hn2 v2 h => ?_)
  conv => whnf
  refine fkS h (fun h => ?_) (fun h => ?_)
  · conv => whnf
    refine ioS (enc := (eI .i64)) h rfl (fun h => ?_)
    conv => whnf
    refine seS (enc := (eI .i64)) h rfl (fun x3 => (-1 : Int)) (fun _ => rfl) (fun x3 h => ?_)
    conv => whnf
    exact leS hn2 h (Weak.refl _)
  conv => whnf
  refine lenS a0.Windows Window.enc rfl ?_
  conv => whnf
  refine lpS (fun v4 => ⟨[(4, .l (.own 5)), (25, .l (.d (.sl (a0.Windows.map Window.enc)))), (26, .l (.d (.int .i64 (a0.Windows.length : Int)))), (27, .l (.d (.int .i64 v4.2)))], 47, [], [], [(5, 3, 1, v4.1.map (eI .i64))]⟩) h (Weak.refl _) (fun _ nx4 hn4 v4 h => ?_)
  conv => whnf
  refine fkS h (fun h => ?_) (fun h => ?_)
  · conv => whnf
    refine ixS (enc := Window.enc) h rfl (fun _ => rfl) (fun x5 h => ?_)
    conv => whnf
    refine lpS (fun v6 => ⟨[(4, .l (.own 5)), (7, .l (.ptr 8 0)), (25, .l (.d (.sl (a0.Windows.map Window.enc)))), (26, .l (.d (.int .i64 (a0.Windows.length : Int)))), (27, .l (.d (.int .i64 v4.2))), (32, .l (.d (.int .i64 x5.Len))), (33, .l (.d (.int .i64 v6.2)))], 47, [], [(8, [.d (.int .i64 x5.Part), .d (.int .i64 x5.From), .d (.int .i64 x5.Len)])], [(5, 3, 1, v6.1.map (eI .i64))]⟩) h (Weak.refl _) (fun _ nx6 hn6 v6 h => ?_)
    conv => whnf
    refine fkS h (fun h => ?_) (fun h => ?_)
    · conv => whnf
      refine ioS (enc := (eI .i64)) h rfl (fun h => ?_)
      conv => whnf
      refine seS (enc := (eI .i64)) h rfl (fun x7 => x5.Part) (fun _ => rfl) (fun x7 h => ?_)
      conv => whnf
      exact leS hn6 h (Weak.refl _)
    conv => whnf
    exact leS hn4 h (Weak.refl _)
  conv => whnf
  exact rt (E := E_ListInt_Int) h rfl

end Go.Proofs.YtpephpefjddgcaaGreat
namespace Go.Proofs.YtpephpefjddgcaaGreat
open Go Go.VC
noncomputable def table_Least (a0 : TableTable) (a1 : Int) (a2 : Int) : Option (Int × Int) :=
  bnd (table_Ticks a0) fun x1 => jn (fun (w2 : Bool) => fk w2 (some ((0 : Int), (1 : Int))) (lp (fun nx3 (v3 : Int × Int) => fk (decide (v3.2 < a2)) (jn (fun (w4 : Bool) => fk w4 (nx3 ((wr (v3.1 + (1 : Int))), (wr (v3.2 + (1 : Int))))) (nx3 ((wr (v3.1 + (0 : Int))), (wr (v3.2 + (1 : Int)))))) (fun k4 => ck (decide (a0.Frame ≠ 0)) (ix x1.1 (v3.2.tmod a0.Frame) fun x5 => fk (decide (x5 = a1)) (k4 (!decide (a1 = (-1 : Int)))) (k4 false)))) (lp (fun nx6 (v6 : Int × Int × Int) => fk (decide (v6.2.2 < a0.Frame)) (jn (fun (w7 : Bool) => fk w7 (jn (fun (w9 : Bool) => fk w9 (nx6 ((wr (v6.1 + (wr ((1 : Int) - (1 : Int))))), (if (wr (v6.1 + (wr ((1 : Int) - (1 : Int))))) < v6.2.1 then (wr (v6.1 + (wr ((1 : Int) - (1 : Int))))) else v6.2.1), (wr (v6.2.2 + (1 : Int))))) (nx6 ((wr (v6.1 + (wr ((1 : Int) - (0 : Int))))), (if (wr (v6.1 + (wr ((1 : Int) - (0 : Int))))) < v6.2.1 then (wr (v6.1 + (wr ((1 : Int) - (0 : Int))))) else v6.2.1), (wr (v6.2.2 + (1 : Int)))))) (fun k9 => ck (decide (a0.Frame ≠ 0)) (ix x1.1 (v6.2.2.tmod a0.Frame) fun x10 => fk (decide (x10 = a1)) (k9 (!decide (a1 = (-1 : Int)))) (k9 false)))) (jn (fun (w11 : Bool) => fk w11 (nx6 ((wr (v6.1 + (wr ((0 : Int) - (1 : Int))))), (if (wr (v6.1 + (wr ((0 : Int) - (1 : Int))))) < v6.2.1 then (wr (v6.1 + (wr ((0 : Int) - (1 : Int))))) else v6.2.1), (wr (v6.2.2 + (1 : Int))))) (nx6 ((wr (v6.1 + (wr ((0 : Int) - (0 : Int))))), (if (wr (v6.1 + (wr ((0 : Int) - (0 : Int))))) < v6.2.1 then (wr (v6.1 + (wr ((0 : Int) - (0 : Int))))) else v6.2.1), (wr (v6.2.2 + (1 : Int)))))) (fun k11 => ck (decide (a0.Frame ≠ 0)) (ix x1.1 (v6.2.2.tmod a0.Frame) fun x12 => fk (decide (x12 = a1)) (k11 (!decide (a1 = (-1 : Int)))) (k11 false))))) (fun k7 => ck (decide (a0.Frame ≠ 0)) (ix x1.1 ((wr (v6.2.2 + a2)).tmod a0.Frame) fun x8 => fk (decide (x8 = a1)) (k7 (!decide (a1 = (-1 : Int)))) (k7 false)))) (some (v6.2.1, (0 : Int)))) FU (v3.1, v3.1, (0 : Int)))) FU ((0 : Int), (0 : Int)))) (fun k2 => fk (!decide (x1.2 = (0 : Int))) (k2 true) (fk (decide (a2 < (0 : Int))) (k2 true) (k2 (decide (a2 > (2000 : Int))))))
theorem table_Least_w (a0 : TableTable) (a1 : Int) (a2 : Int) (r : Int × Int) (h : table_Least a0 a1 a2 = some r) : Go.VC.Spec Tryz.prog 14 [.agg (TableTable.enc a0), .d (.int .i64 a1), .d (.int .i64 a2)] (fun y => y = E_Int_Int r) := by
  refine Go.VC.Spec.of_xc (args := [.agg (TableTable.enc a0), .d (.int .i64 a1), .d (.int .i64 a2)]) (fn := Tryz.f14) tab ⟨[(0, [2, 3, 4]), (1, [2, 3, 4, 8, 9]), (2, [2, 3, 4, 8, 29]), (3, [6, 7]), (4, [2, 3, 10]), (5, [2, 3, 10, 11]), (6, [2, 3, 10, 11, 31, 32]), (7, [2, 3, 10, 11, 31, 32, 33]), (8, [2, 3, 10, 11, 12, 31, 32]), (9, [2, 3, 10, 11, 31, 32]), (10, [2, 3, 10, 11, 31, 32]), (11, [2, 3, 10, 11, 13]), (12, [2, 10, 11, 13, 43, 44]), (13, [2, 10, 11, 13, 43, 44, 45]), (14, [2, 10, 11, 13, 14, 43, 44]), (15, [2, 10, 11, 13, 43, 44]), (16, [2, 10, 11, 13, 43, 44]), (17, [2, 10, 11, 13, 43, 44]), (18, [6, 7])], [], [100029], []⟩ 63 [.tmp 6, .tmp 7] rfl rfl rfl rfl rfl rfl ?_
  conv => whnf
  refine ccS (E := E_ListInt_Int) h (table_Ticks_w a0) rfl rfl (fun x1 h => ?_)
  conv => whnf
  refine jnS (fun w2 => ⟨[(2, .l (.d (.int .i64 a2))), (3, .l (.ptr 4 0)), (4, .l (.ptr 5 0)), (8, .l (.ptr 9 0)), (29, .l (.d (.bool w2)))], 63, [], [(4, [.d (.int .i64 a0.Frame), .d (.sl (a0.Windows.map Window.enc))]), (5, [.d (.int .i64 a1)]), (9, [.d (.sl (x1.1.map (eI .i64)))])], []⟩) h (fun k2 hk2 h => ?_) (fun w2 h => ?_)
  · conv => whnf
    refine fkS h (fun h => ?_) (fun h => ?_)
    · conv => whnf
      exact jeS hk2 h (Weak.refl _)
    conv => whnf
    refine fkS h (fun h => ?_) (fun h => ?_)
    · conv => whnf
      exact jeS hk2 h (Weak.refl _)
    conv => whnf
    exact jeS hk2 h (Weak.refl _)
  conv => whnf
  refine fkS h (fun h => ?_) (fun h => ?_)
  · conv => whnf
    exact rt (E := E_Int_Int) h rfl
  conv => whnf
  refine lpS (fun v3 => ⟨[(2, .l (.d (.int .i64 a2))), (3, .l (.ptr 4 0)), (10, .l (.func 28 [.k 9, .k 4, .k 5])), (11, .l (.d (.int .i64 v3.1))), (31, .l (.d (.int .i64 a2))), (32, .l (.d (.int .i64 v3.2)))], 63, [], [(4, [.d (.int .i64 a0.Frame), .d (.sl (a0.Windows.map Window.enc))]), (5, [.d (.int .i64 a1)]), (9, [.d (.sl (x1.1.map (eI .i64)))])], []⟩) h (Weak.refl _) (fun _ nx3 hn3 v3 h => ?_)
  conv => whnf
  refine fkS h (fun h => ?_) (fun h => ?_)
  · conv => whnf
    refine inS (fn := Tryz.f28) tab ⟨[(0, [0, 1, 2, 3]), (1, [18]), (2, [5]), (3, [5])], [], [100018], []⟩ 19 [.tmp 5] rfl rfl rfl rfl rfl rfl ?_
    conv => whnf
    refine jnS (fun w4 => ⟨[(18, .l (.d (.bool w4)))], 19, [⟨[(37, .l (.d (.int .i64 v3.2))), (36, .l (.func 28 [.k 9, .k 4, .k 5])), (35, .l (.d (.int .i64 v3.1))), (2, .l (.d (.int .i64 a2))), (3, .l (.ptr 4 0)), (10, .l (.func 28 [.k 9, .k 4, .k 5])), (11, .l (.d (.int .i64 v3.1))), (12, .l (.d (.int .i64 v3.2))), (31, .l (.d (.int .i64 a2))), (32, .l (.d (.int .i64 v3.2)))], 63⟩], [(4, [.d (.int .i64 a0.Frame), .d (.sl (a0.Windows.map Window.enc))]), (5, [.d (.int .i64 a1)]), (9, [.d (.sl (x1.1.map (eI .i64)))])], []⟩) h (fun k4 hk4 h => ?_) (fun w4 h => ?_)
    · conv => whnf
      refine ⟨13, ?_⟩
      conv => whnf
      refine dvS h (fun h => ?_)
      conv => whnf
      refine ixS (enc := (eI .i64)) h rfl (fun _ => rfl) (fun x5 h => ?_)
      conv => whnf
      refine fkS h (fun h => ?_) (fun h => ?_)
      · conv => whnf
        refine drS (by kernel_rfl) ?_
        conv => whnf
        exact jeS hk4 h (Weak.refl _)
      conv => whnf
      refine drS (by kernel_rfl) ?_
      conv => whnf
      exact jeS hk4 h (Weak.refl _)
    conv => whnf
    refine fkS h (fun h => ?_) (fun h => ?_)
    · conv => whnf
      exact leS hn3 h (Weak.refl _)
    conv => whnf
    exact leS hn3 h (Weak.refl _)
  conv => whnf
  refine lpS (fun v6 => ⟨[(2, .l (.d (.int .i64 a2))), (10, .l (.func 28 [.k 9, .k 4, .k 5])), (11, .l (.d (.int .i64 v6.1))), (13, .l (.d (.int .i64 v6.2.1))), (43, .l (.d (.int .i64 a0.Frame))), (44, .l (.d (.int .i64 v6.2.2)))], 63, [], [(4, [.d (.int .i64 a0.Frame), .d (.sl (a0.Windows.map Window.enc))]), (5, [.d (.int .i64 a1)]), (9, [.d (.sl (x1.1.map (eI .i64)))])], []⟩) h (Weak.refl _) (fun _ nx6 hn6 v6 h => ?_)
  conv => whnf
  refine fkS h (fun h => ?_) (fun h => ?_)
  · conv => whnf
    refine inS (fn := Tryz.f28) tab ⟨[(0, [0, 1, 2, 3]), (1, [18]), (2, [5]), (3, [5])], [], [100018], []⟩ 19 [.tmp 5] rfl rfl rfl rfl rfl rfl ?_
    conv => whnf
    refine jnS (fun w7 => ⟨[(18, .l (.d (.bool w7)))], 19, [⟨[(51, .l (.d (.int .i64 (wr (v6.2.2 + a2))))), (50, .l (.d (.int .i64 a2))), (49, .l (.d (.int .i64 v6.2.2))), (48, .l (.func 28 [.k 9, .k 4, .k 5])), (47, .l (.d (.int .i64 v6.1))), (2, .l (.d (.int .i64 a2))), (10, .l (.func 28 [.k 9, .k 4, .k 5])), (11, .l (.d (.int .i64 v6.1))), (13, .l (.d (.int .i64 v6.2.1))), (14, .l (.d (.int .i64 v6.2.2))), (43, .l (.d (.int .i64 a0.Frame))), (44, .l (.d (.int .i64 v6.2.2)))], 63⟩], [(4, [.d (.int .i64 a0.Frame), .d (.sl (a0.Windows.map Window.enc))]), (5, [.d (.int .i64 a1)]), (9, [.d (.sl (x1.1.map (eI .i64)))])], []⟩) h (fun k7 hk7 h => ?_) (fun w7 h => ?_)
    · conv => whnf
      refine ⟨13, ?_⟩
      conv => whnf
      refine dvS h (fun h => ?_)
      conv => whnf
      refine ixS (enc := (eI .i64)) h rfl (fun _ => rfl) (fun x8 h => ?_)
      conv => whnf
      refine fkS h (fun h => ?_) (fun h => ?_)
      · conv => whnf
        refine drS (by kernel_rfl) ?_
        conv => whnf
        exact jeS hk7 h (Weak.refl _)
      conv => whnf
      refine drS (by kernel_rfl) ?_
      conv => whnf
      exact jeS hk7 h (Weak.refl _)
    conv => whnf
    refine fkS h (fun h => ?_) (fun h => ?_)
    · conv => whnf
      refine inS (fn := Tryz.f28) tab ⟨[(0, [0, 1, 2, 3]), (1, [18]), (2, [5]), (3, [5])], [], [100018], []⟩ 19 [.tmp 5] rfl rfl rfl rfl rfl rfl ?_
      conv => whnf
      refine jnS (fun w9 => ⟨[(18, .l (.d (.bool w9)))], 19, [⟨[(54, .l (.d (.int .i64 v6.2.2))), (53, .l (.func 28 [.k 9, .k 4, .k 5])), (52, .l (.d (.int .i64 (1 : Int)))), (51, .l (.d (.int .i64 (wr (v6.2.2 + a2))))), (50, .l (.d (.int .i64 a2))), (49, .l (.d (.int .i64 v6.2.2))), (48, .l (.func 28 [.k 9, .k 4, .k 5])), (47, .l (.d (.int .i64 v6.1))), (2, .l (.d (.int .i64 a2))), (10, .l (.func 28 [.k 9, .k 4, .k 5])), (11, .l (.d (.int .i64 v6.1))), (13, .l (.d (.int .i64 v6.2.1))), (14, .l (.d (.int .i64 v6.2.2))), (43, .l (.d (.int .i64 a0.Frame))), (44, .l (.d (.int .i64 v6.2.2)))], 63⟩], [(4, [.d (.int .i64 a0.Frame), .d (.sl (a0.Windows.map Window.enc))]), (5, [.d (.int .i64 a1)]), (9, [.d (.sl (x1.1.map (eI .i64)))])], []⟩) h (fun k9 hk9 h => ?_) (fun w9 h => ?_)
      · conv => whnf
        refine ⟨13, ?_⟩
        conv => whnf
        refine dvS h (fun h => ?_)
        conv => whnf
        refine ixS (enc := (eI .i64)) h rfl (fun _ => rfl) (fun x10 h => ?_)
        conv => whnf
        refine fkS h (fun h => ?_) (fun h => ?_)
        · conv => whnf
          refine drS (by kernel_rfl) ?_
          conv => whnf
          exact jeS hk9 h (Weak.refl _)
        conv => whnf
        refine drS (by kernel_rfl) ?_
        conv => whnf
        exact jeS hk9 h (Weak.refl _)
      conv => whnf
      refine fkS h (fun h => ?_) (fun h => ?_)
      · conv => whnf
        exact leS hn6 h (Weak.refl _)
      conv => whnf
      exact leS hn6 h (Weak.refl _)
    conv => whnf
    refine inS (fn := Tryz.f28) tab ⟨[(0, [0, 1, 2, 3]), (1, [18]), (2, [5]), (3, [5])], [], [100018], []⟩ 19 [.tmp 5] rfl rfl rfl rfl rfl rfl ?_
    conv => whnf
    refine jnS (fun w11 => ⟨[(18, .l (.d (.bool w11)))], 19, [⟨[(54, .l (.d (.int .i64 v6.2.2))), (53, .l (.func 28 [.k 9, .k 4, .k 5])), (52, .l (.d (.int .i64 (0 : Int)))), (51, .l (.d (.int .i64 (wr (v6.2.2 + a2))))), (50, .l (.d (.int .i64 a2))), (49, .l (.d (.int .i64 v6.2.2))), (48, .l (.func 28 [.k 9, .k 4, .k 5])), (47, .l (.d (.int .i64 v6.1))), (2, .l (.d (.int .i64 a2))), (10, .l (.func 28 [.k 9, .k 4, .k 5])), (11, .l (.d (.int .i64 v6.1))), (13, .l (.d (.int .i64 v6.2.1))), (14, .l (.d (.int .i64 v6.2.2))), (43, .l (.d (.int .i64 a0.Frame))), (44, .l (.d (.int .i64 v6.2.2)))], 63⟩], [(4, [.d (.int .i64 a0.Frame), .d (.sl (a0.Windows.map Window.enc))]), (5, [.d (.int .i64 a1)]), (9, [.d (.sl (x1.1.map (eI .i64)))])], []⟩) h (fun k11 hk11 h => ?_) (fun w11 h => ?_)
    · conv => whnf
      refine ⟨13, ?_⟩
      conv => whnf
      refine dvS h (fun h => ?_)
      conv => whnf
      refine ixS (enc := (eI .i64)) h rfl (fun _ => rfl) (fun x12 h => ?_)
      conv => whnf
      refine fkS h (fun h => ?_) (fun h => ?_)
      · conv => whnf
        refine drS (by kernel_rfl) ?_
        conv => whnf
        exact jeS hk11 h (Weak.refl _)
      conv => whnf
      refine drS (by kernel_rfl) ?_
      conv => whnf
      exact jeS hk11 h (Weak.refl _)
    conv => whnf
    refine fkS h (fun h => ?_) (fun h => ?_)
    · conv => whnf
      exact leS hn6 h (Weak.refl _)
    conv => whnf
    exact leS hn6 h (Weak.refl _)
  conv => whnf
  exact rt (E := E_Int_Int) h rfl

end Go.Proofs.YtpephpefjddgcaaGreat
namespace Go.Proofs.YtpephpefjddgcaaGreat
open Go Go.VC
/-! A table's ticks, and its least supply. -/
theorem rset {n i : Nat} {g : Nat → Int} {a : Int} : ((List.range n).map g).set i a = (List.range n).map fun x => if x = i then a else g x := by
  refine List.ext_getElem? fun x => ?_
  by_cases hx : x < n
  · by_cases e : x = i
    · subst e
      rw [List.getElem?_set_self (by simp; exact hx), List.getElem?_map, List.getElem?_range hx]
      simp
    · rw [List.getElem?_set_ne (fun h => e h.symm), List.getElem?_map, List.getElem?_map, List.getElem?_range hx]
      simp [e]
  · rw [List.getElem?_eq_none (by simp; omega), List.getElem?_eq_none (by simp; omega)]
def ticksV (t : TableTable) : List Int := (List.range t.Frame.toNat).map fun (x : Nat) => whoV t.Windows (x : Int)
theorem table_Ticks_eq {t : TableTable} (h : tabP t) : table_Ticks t = some (ticksV t, 0) := by
  have f1 := h.f1
  have f2 := h.f2
  have hl := h.l
  unfold table_Ticks
  rw [bnd_eq (table_Right_t h), Bool.not_true, fk_f, ck_t (by simp; omega)]
  refine lp_upS t.Frame.toNat (by unfold FU; omega) (fun k s => s.length = t.Frame.toNat ∧ ∀ x, x < k → s[x]? = some (-1 : Int)) _ ⟨by simp, fun x h => by omega⟩ ?_
  rintro nx k s hk ⟨hs, hv⟩ hnx
  dsimp only
  rw [List.length_replicate, lt_nat]
  by_cases c : k < t.Frame.toNat
  · rw [decide_eq_true c, fk_t, ck_t (by simp; omega), Int.toNat_natCast, ox_lt (by omega), wr_succ k _ c (by omega)]
    refine hnx _ c ⟨by rw [List.length_set]; exact hs, fun x hx => ?_⟩
    by_cases e : x = k
    · subst e; rw [List.getElem?_set_self (by omega)]
    · rw [List.getElem?_set_ne (fun h => e h.symm)]; exact hv x (by omega)
  have e0 : s = (List.range t.Frame.toNat).map fun (x : Nat) => whoV (t.Windows.take 0) (x : Int) := by
    refine List.ext_getElem? fun x => ?_
    by_cases hx : x < t.Frame.toNat
    · rw [hv x (by omega), List.getElem?_map, List.getElem?_range hx]; rfl
    · rw [List.getElem?_eq_none (by omega), List.getElem?_eq_none (by simp; omega)]
  rw [decide_eq_false c, fk_f]
  clear hnx nx hv hk
  subst e0
  clear hs c
  refine lp_upS t.Windows.length (by unfold FU; omega) (fun k s => s = (List.range t.Frame.toNat).map fun (x : Nat) => whoV (t.Windows.take k) (x : Int)) _ rfl ?_
  rintro nx k s hk rfl hnx
  dsimp only
  rw [lt_nat]
  by_cases c : k < t.Windows.length
  rotate_left
  · rw [decide_eq_false c, fk_f, List.take_of_length_le (by omega)]; rfl
  have hw := h.w _ (List.getElem_mem c)
  unfold winP at hw
  have hnext := hnx _ c rfl
  have hsn : ∀ y, whoV (t.Windows.take (k + 1)) y = if inW t.Windows[k] y then t.Windows[k].Part else whoV (t.Windows.take k) y := fun y => by
    rw [← List.take_append_getElem c]
    refine whoV_snoc fun a ha => ?_
    obtain ⟨j, hj, rfl⟩ := List.getElem_of_mem ha
    rw [List.length_take] at hj
    rw [List.getElem_take]
    exact List.pairwise_iff_getElem.1 h.p j k (by omega) c (by omega)
  rw [decide_eq_true c, fk_t, ix_lt c]
  refine lp_upS t.Windows[k].Len.toNat (by unfold FU; omega) (fun j s => s = (List.range t.Frame.toNat).map fun (x : Nat) => if t.Windows[k].From ≤ (x : Int) ∧ (x : Int) < t.Windows[k].From + (j : Int) then t.Windows[k].Part else whoV (t.Windows.take k) (x : Int)) _ (List.map_congr_left fun x _ => by rw [if_neg (by omega)]) ?_
  rintro nx2 j s hj rfl hnx2
  dsimp only
  by_cases cj : j < t.Windows[k].Len.toNat
  rotate_left
  · rw [decide_eq_false (by omega), fk_f, wr_succ k _ c (by omega)]
    have e : ((List.range t.Frame.toNat).map fun (x : Nat) => if t.Windows[k].From ≤ (x : Int) ∧ (x : Int) < t.Windows[k].From + (j : Int) then t.Windows[k].Part else whoV (t.Windows.take k) (x : Int)) = (List.range t.Frame.toNat).map fun (x : Nat) => whoV (t.Windows.take (k + 1)) (x : Int) := List.map_congr_left fun x _ => by
      rw [hsn, show (j : Int) = t.Windows[k].Len by omega]; rfl
    rw [e]
    exact hnext
  have ewr : wr (t.Windows[k].From + (j : Int)) = t.Windows[k].From + (j : Int) := wr_in _ (by omega)
  rw [decide_eq_true (by omega), fk_t, ewr, ck_t (by simp; omega), ox_lt (by simp; omega), wr_succ j _ cj (by omega)]
  refine hnx2 _ cj ?_
  rw [rset]
  refine List.map_congr_left fun x _ => ?_
  by_cases e : x = (t.Windows[k].From + (j : Int)).toNat
  · rw [if_pos e, if_pos (by omega)]
  · rw [if_neg e]
    by_cases ce : t.Windows[k].From ≤ (x : Int) ∧ (x : Int) < t.Windows[k].From + (j : Int)
    · rw [if_pos ce, if_pos (by omega)]
    · rw [if_neg ce, if_neg (by omega)]
/-- Whose ticks they are, over and over. -/
def gK (t : TableTable) (k : Int) (x : Nat) : Bool := decide (whoV t.Windows ((x % t.Frame.toNat : Nat) : Int) = k)
theorem gcnt_one (g : Nat → Bool) (a : Nat) : gcnt g a 1 = if g a = true then 1 else 0 := by
  show gcnt g a 0 + _ = _
  rw [Nat.add_zero]; show 0 + _ = _; rw [Nat.zero_add]
theorem gcnt_shift (g : Nat → Bool) (a n : Nat) : gcnt g (a + 1) n + (if g a = true then 1 else 0) = gcnt g a n + (if g (a + n) = true then 1 else 0) := by
  have h1 := gcnt_add g a 1 n
  have h2 : gcnt g a (n + 1) = gcnt g a n + (if g (a + n) = true then 1 else 0) := rfl
  rw [gcnt_one, Nat.add_comm 1 n] at h1
  omega
theorem table_Least_ex {t : TableTable} (h : tabP t) {k : Int} (hk0 : 0 ≤ k) {n : Nat} (hn : n ≤ 1000) : ∃ r : Int × Int, table_Least t k (n : Int) = some r ∧ (r.2 = 0 ∧ ∃ a, a ≤ 300 ∧ r.1 = (gcnt (gK t k) a n : Nat)) := by
  have f1 := h.f1
  have f2 := h.f2
  have hg : ∀ x : Nat, x ≤ 5000 → ((ticksV t)[(x % t.Frame.toNat)]? = some (whoV t.Windows ((x % t.Frame.toNat : Nat) : Int))) ∧ ((x : Int).tmod t.Frame = ((x % t.Frame.toNat : Nat) : Int)) := fun x _ => by
    have hlt : x % t.Frame.toNat < t.Frame.toNat := Nat.mod_lt _ (by omega)
    refine ⟨?_, ?_⟩
    · unfold ticksV; rw [List.getElem?_map, List.getElem?_range hlt]; rfl
    · rw [Int.tmod_eq_emod_of_nonneg (by omega)]
      conv => lhs; rw [show t.Frame = ((t.Frame.toNat : Nat) : Int) by omega]
      rfl
  have hix : ∀ {β : Type} (x : Nat) (hx : x ≤ 5000) (f : Int → Option β), ck (decide (t.Frame ≠ 0)) (ix (ticksV t) ((x : Int).tmod t.Frame) f) = f (whoV t.Windows ((x % t.Frame.toNat : Nat) : Int)) := fun x hx f => by
    obtain ⟨h1, h2⟩ := hg x hx
    have hlt := (List.getElem?_eq_some_iff.1 h1).1
    rw [ck_t (decide_eq_true (by omega)), h2, ix_lt hlt]
    rw [List.getElem?_eq_getElem hlt] at h1
    rw [Option.some.inj h1]
  have hq : ∀ (x : Nat), (decide (whoV t.Windows ((x % t.Frame.toNat : Nat) : Int) = k)) = gK t k x := fun x => rfl
  have fkk : ∀ {β : Type} (x : Nat) (K : Bool → Option β), fk (decide (whoV t.Windows ((x % t.Frame.toNat : Nat) : Int) = k)) (K (!decide (k = (-1 : Int)))) (K false) = K (gK t k x) := fun x K => by
    rw [decide_eq_false (show ¬ k = -1 by omega), Bool.not_false, hq]
    cases gK t k x
    · rw [fk_f]
    · rw [fk_t]
  have hjn : ∀ {β : Type} (x : Nat) (hx : x ≤ 5000) (Y : Bool → Option β), jn Y (fun k4 => ck (decide (t.Frame ≠ 0)) (ix (ticksV t) ((x : Int).tmod t.Frame) fun x5 => fk (decide (x5 = k)) (k4 (!decide (k = (-1 : Int)))) (k4 false))) = Y (gK t k x) := fun x hx Y => by
    rw [jn_eq, hix x hx]
    exact fkk x Y
  unfold table_Least
  rw [bnd_eq (table_Ticks_eq h)]
  dsimp only
  rw [jn_eq, decide_eq_true rfl, Bool.not_true, fk_f, decide_eq_false (show ¬ (n : Int) < 0 by omega), fk_f, decide_eq_false (show ¬ (n : Int) > 2000 by omega)]
  dsimp only
  rw [fk_f]
  refine lp_upS_ex n (by unfold FU; omega) (fun i s => s = ((gcnt (gK t k) 0 i : Nat) : Int)) _ (0 : Int) rfl ?_
  rintro nx i s hi rfl hnx
  dsimp only
  rw [lt_nat]
  by_cases c : i < n
  · have hle := gcnt_le (gK t k) 0 i
    rw [decide_eq_true c, fk_t, hjn i (by omega), wr_succ i _ c (by omega)]
    have e : gcnt (gK t k) 0 (i + 1) = gcnt (gK t k) 0 i + (if gK t k i = true then 1 else 0) := by
      show gcnt (gK t k) 0 i + (if gK t k (0 + i) = true then 1 else 0) = _
      rw [Nat.zero_add]
    cases hb : gK t k i
    · rw [fk_f]
      refine hnx _ c ?_
      rw [e, hb, wr_in _ (by omega)]; simp
    · rw [fk_t]
      refine hnx _ c ?_
      rw [e, hb, wr_in _ (by omega)]; simp
  have ein : i = n := by omega
  subst ein
  rw [decide_eq_false c, fk_f]
  clear hnx nx c hi
  refine lp_ex (fun v => t.Frame.toNat - v.2.2.toNat) (fun v => ∃ from' a : Nat, v = (((gcnt (gK t k) from' i : Nat) : Int), ((gcnt (gK t k) a i : Nat) : Int), (from' : Int)) ∧ from' ≤ t.Frame.toNat ∧ a ≤ from') _ ?_ FU _ ⟨0, 0, rfl, Nat.zero_le _, Nat.le_refl _⟩ (by unfold FU; simp only; omega)
  rintro nx v ⟨q, a, rfl, hqF, haq⟩ hnx
  dsimp only
  by_cases c : q < t.Frame.toNat
  rotate_left
  · rw [decide_eq_false (by omega), fk_f]
    exact ⟨_, rfl, rfl, a, by omega, rfl⟩
  have hl1 := gcnt_le (gK t k) q i
  have hl2 := gcnt_le (gK t k) a i
  have hl3 := gcnt_le (gK t k) (q + 1) i
  have hsh := gcnt_shift (gK t k) q i
  have eqn : wr ((q : Int) + (i : Int)) = ((q + i : Nat) : Int) := by rw [wr_in _ (by omega)]; omega
  have fin : ∀ m : Int, m = ((gcnt (gK t k) (q + 1) i : Nat) : Int) → ∃ r, nx (m, (if m < ((gcnt (gK t k) a i : Nat) : Int) then m else ((gcnt (gK t k) a i : Nat) : Int)), wr ((q : Int) + (1 : Int))) = some r ∧ (r.2 = 0 ∧ ∃ a, a ≤ 300 ∧ r.1 = (gcnt (gK t k) a i : Nat)) := by
    rintro m rfl
    rw [wr_succ q _ c (by omega)]
    by_cases cm : ((gcnt (gK t k) (q + 1) i : Nat) : Int) < ((gcnt (gK t k) a i : Nat) : Int)
    · rw [if_pos cm]
      exact hnx _ ⟨q + 1, q + 1, rfl, c, Nat.le_refl _⟩ (by simp only [Int.toNat_natCast]; omega)
    · rw [if_neg cm]
      exact hnx _ ⟨q + 1, a, rfl, c, by omega⟩ (by simp only [Int.toNat_natCast]; omega)
  rw [decide_eq_true (by omega), fk_t, eqn, hjn (q + i) (by omega)]
  cases h1 : gK t k (q + i)
  · rw [fk_f, hjn q (by omega)]
    cases h2 : gK t k q
    · rw [fk_f]
      refine fin _ ?_
      rw [h1, h2] at hsh
      simp only [Bool.false_eq_true, if_false] at hsh
      rw [wr_in (0 - 0) (by omega), wr_in _ (by omega)]; omega
    · rw [fk_t]
      refine fin _ ?_
      rw [h1, h2] at hsh
      simp only [Bool.false_eq_true, if_false, if_true] at hsh
      rw [wr_in (0 - 1) (by omega), wr_in _ (by omega)]; omega
  · rw [fk_t, hjn q (by omega)]
    cases h2 : gK t k q
    · rw [fk_f]
      refine fin _ ?_
      rw [h1, h2] at hsh
      simp only [Bool.false_eq_true, if_false, if_true] at hsh
      rw [wr_in (1 - 0) (by omega), wr_in _ (by omega)]; omega
    · rw [fk_t]
      refine fin _ ?_
      rw [h1, h2] at hsh
      simp only [if_true] at hsh
      rw [wr_in (1 - 1) (by omega), wr_in _ (by omega)]; omega
end Go.Proofs.YtpephpefjddgcaaGreat
namespace Go.Proofs.YtpephpefjddgcaaGreat
open Go Go.VC
/-! A table that is laid gives each its ticks. -/
theorem LayR.pre {l : List Face} (hl : facesP l) {t : Nat} {o w : List Int} (h : LayR l t o w) : ∀ s, s ≤ t → ∃ w', LayR l s (o.take s) w' ∧ (s < t → ¬ denyP l w' s) := by
  induction h with
  | zero =>
    intro s hs
    obtain rfl : s = 0 := by omega
    exact ⟨_, LayR.zero, fun h => by omega⟩
  | step h hd hn ih =>
    rename_i t out w r
    intro s hs
    have hlen := (h.ok hl).1
    by_cases e : s = t + 1
    · subst e
      refine ⟨dec (begun l w t) r, ?_, fun h => by omega⟩
      rw [List.take_of_length_le (by rw [List.length_append, hlen]; simp)]
      exact LayR.step h hd hn
    by_cases e2 : s = t
    · subst e2
      refine ⟨w, ?_, fun _ => hd⟩
      rw [List.take_append_of_le_length (by omega), List.take_of_length_le (by omega)]
      exact h
    · obtain ⟨w', a, b⟩ := ih s (by omega)
      refine ⟨w', ?_, fun _ => b (by omega)⟩
      rw [List.take_append_of_le_length (by omega)]
      exact a
/-- So many have come by the beginning of a period. -/
theorem LayR.at {l : List Face} (hl : facesP l) {F : Nat} {o w : List Int} (h : LayR l F o w) (hd : ¬ denyP l w F) {i : Nat} (hi : i < l.length) (q : Nat) (hq : q * fP l i ≤ F) : (((o.take (q * fP l i)).count (i : Int) : Nat) : Int) = fB l i * (q : Int) := by
  obtain ⟨p1, _⟩ := fPB hl hi
  obtain ⟨w', a, b⟩ := h.pre hl (q * fP l i) hq
  have hd' : ¬ denyP l w' (q * fP l i) := by
    by_cases e : q * fP l i = F
    · rw [e] at a ⊢
      have hlen := (h.ok hl).1
      rw [List.take_of_length_le (by omega)] at a
      rw [(LayR.det h a).2] at hd
      exact hd
    · exact b (by omega)
  obtain ⟨_, _, k3, _⟩ := a.ok hl
  have hw : wv w' i = 0 := by
    have h := (k3 i).1
    have : ¬ 0 < wv w' i := fun g => hd' ⟨i, _, List.getElem?_eq_getElem hi, by rw [← fP_at (List.getElem?_eq_getElem hi)]; exact Nat.dvd_mul_left _ _, g⟩
    omega
  have e2 : (q * fP l i + fP l i - 1) / fP l i = q := by
    refine Nat.div_eq_of_lt_le (by omega) ?_
    rw [Nat.add_mul, Nat.one_mul]; omega
  rw [a.cnt hl i hi, hw, e2]; omega
theorem count_gcnt (o : List Int) (k : Int) (g : Nat → Bool) (a : Nat) : ∀ n, a + n ≤ o.length → (∀ x, x < o.length → g x = decide (o[x]? = some k)) → (o.take (a + n)).count k = (o.take a).count k + gcnt g a n
  | 0, _, _ => rfl
  | n + 1, h, hg => by
    have hlt : a + n < o.length := by omega
    have ih := count_gcnt o k g a n (by omega) hg
    rw [← Nat.add_assoc, ← List.take_append_getElem hlt, List.count_append, ih, List.count_singleton]
    show _ = (o.take a).count k + (gcnt g a n + _)
    rw [hg _ hlt, List.getElem?_eq_getElem hlt]
    by_cases e : o[a + n] = k
    · simp [e]; omega
    · simp [e]
theorem gcnt_same {g h : Nat → Bool} {a b : Nat} : ∀ n, (∀ x, x < n → g (a + x) = h (b + x)) → gcnt g a n = gcnt h b n
  | 0, _ => rfl
  | n + 1, H => by
    show gcnt g a n + _ = gcnt h b n + _
    rw [gcnt_same n (fun x hx => H x (by omega)), H n (by omega)]
theorem lay_legal {l : List Face} (hl : facesP l) {F : Nat} {o w : List Int} (h : LayR l F o w) (hd : ¬ denyP l w F) (h0 : 0 < F) {t : TableTable} (hT : t.Frame = (F : Int)) (hA : ∀ (x : Nat) (y : Int), o[x]? = some y → whoV t.Windows (x : Int) = y) {i : Nat} (hi : i < l.length) (hF : fP l i ∣ F) (K : Nat) : legalN (fP l i) (fB l i).toNat (gK t (i : Int)) (K * fP l i) := by
  intro q _
  obtain ⟨p1, _, b1, _⟩ := fPB hl hi
  obtain ⟨m, hm⟩ := hF
  have hlen := (h.ok hl).1
  have hm0 : 0 < m := by
    rcases Nat.eq_zero_or_pos m with e | e
    · subst e; omega
    · exact e
  have hr : q % m < m := Nat.mod_lt _ hm0
  have hdm := Nat.div_add_mod q m
  have hend : (q % m) * fP l i + fP l i ≤ F := by
    rw [hm, ← Nat.succ_mul, Nat.mul_comm (fP l i) m]
    exact Nat.mul_le_mul_right _ hr
  have hmod : ∀ x, x < fP l i → (q * fP l i + x) % F = (q % m) * fP l i + x := fun x hx => by
    have e : q * fP l i + x = F * (q / m) + ((q % m) * fP l i + x) := by
      conv => lhs; rw [← hdm]
      rw [hm, Nat.add_mul, Nat.mul_assoc (fP l i) m, Nat.mul_comm (fP l i) (m * (q / m)), Nat.add_assoc]
    rw [e, Nat.mul_add_mod, Nat.mod_eq_of_lt (by omega)]
  have hg : ∀ x, x < o.length → (fun x => decide (o[x]? = some (i : Int))) x = decide (o[x]? = some (i : Int)) := fun _ _ => rfl
  have e1 : gcnt (gK t (i : Int)) (q * fP l i) (fP l i) = gcnt (fun x => decide (o[x]? = some (i : Int))) ((q % m) * fP l i) (fP l i) := gcnt_same _ fun x hx => by
    have hlt : (q % m) * fP l i + x < o.length := by omega
    have ho := List.getElem?_eq_getElem hlt
    unfold gK
    rw [hT, Int.toNat_natCast, hmod x hx, hA _ _ ho, ho]
    simp
  have h1 := count_gcnt o (i : Int) _ ((q % m) * fP l i) (fP l i) (by omega) hg
  have a1 := h.at hl hd hi (q % m) (by omega)
  have a2 := h.at hl hd hi (q % m + 1) (by rw [Nat.succ_mul]; exact hend)
  rw [Nat.succ_mul] at a2
  rw [h1] at a2
  rw [e1]
  have : fB l i * ((q % m + 1 : Nat) : Int) = fB l i + fB l i * ((q % m : Nat) : Int) := mul_int_succ _ _
  omega
/-- In any ticks, no less than the bound. -/
theorem lay_window {l : List Face} (hl : facesP l) {F : Nat} {o w : List Int} (h : LayR l F o w) (hd : ¬ denyP l w F) (h0 : 0 < F) {t : TableTable} (hT : t.Frame = (F : Int)) (hA : ∀ (x : Nat) (y : Int), o[x]? = some y → whoV t.Windows (x : Int) = y) {i : Nat} {f : Face} (hf : l[i]? = some f) (hF : fP l i ∣ F) (a n : Nat) : supV f (n : Int) ≤ (gcnt (gK t (i : Int)) a n : Int) := by
  have hi := (List.getElem?_eq_some_iff.1 hf).1
  have hfp := hl.1 f (List.mem_of_getElem? hf)
  have p := hfp.P
  have eP := fP_at hf
  have eB := fB_at hf
  have hlg := lay_legal hl h hd h0 hT hA hi hF (a + n)
  refine window hfp (P := fP l i) (B := (fB l i).toNat) (by rw [eP]; omega) (by rw [eB]; omega) hlg a n ?_
  have : 1 ≤ fP l i := by rw [eP]; omega
  exact Nat.le_mul_of_pos_right _ this
end Go.Proofs.YtpephpefjddgcaaGreat
namespace Go.Proofs.YtpephpefjddgcaaGreat
open Go Go.VC
noncomputable def port_may_1 (a0 : Int) : Option Bool :=
  fk (decide (a0 ≥ (0 : Int))) (some (decide (a0 < (4 : Int)))) (some false)
theorem port_may_1_w (a0 : Int) (r : Bool) (h : port_may_1 a0 = some r) : Go.VC.Spec Tryz.prog 107 [.d (.int .i64 a0)] (fun y => y = E_Bool r) := by
  refine Go.VC.Spec.of_xc (args := [.d (.int .i64 a0)]) (fn := Tryz.f107) tab ⟨[(0, [0]), (1, [2])], [], [], []⟩ 9 [.tmp 2] rfl rfl rfl rfl rfl rfl ?_
  conv => whnf
  refine fkS h (fun h => ?_) (fun h => ?_)
  · conv => whnf
    exact rt (E := E_Bool) h rfl
  conv => whnf
  exact rt (E := E_Bool) h rfl

end Go.Proofs.YtpephpefjddgcaaGreat
namespace Go.Proofs.YtpephpefjddgcaaGreat
open Go Go.VC
noncomputable def port_may (a0 : Port) : Option Bool :=
  bnd (port_may_1 a0.From) fun x1 => fk x1 (bnd (port_may_1 a0.To) fun x2 => fk x2 (fk (!decide (a0.From = a0.To)) (fk (decide (a0.Cap ≥ (1 : Int))) (some (decide (a0.Cap ≤ (4 : Int)))) (some false)) (some false)) (some false)) (some false)
theorem port_may_w (a0 : Port) (r : Bool) (h : port_may a0 = some r) : Go.VC.Spec Tryz.prog 72 [.agg (Port.enc a0)] (fun y => y = E_Bool r) := by
  refine Go.VC.Spec.of_xc (args := [.agg (Port.enc a0)]) (fn := Tryz.f72) tab ⟨[(0, [1]), (1, [1, 3]), (2, [2])], [], [], []⟩ 31 [.tmp 2] rfl rfl rfl rfl rfl rfl ?_
  conv => whnf
  refine caS (E := E_Bool) h (port_may_1_w a0.From) rfl (fun _ => rfl) (fun x1 h => ?_)
  conv => whnf
  refine fkS h (fun h => ?_) (fun h => ?_)
  · conv => whnf
    refine caS (E := E_Bool) h (port_may_1_w a0.To) rfl (fun _ => rfl) (fun x2 h => ?_)
    conv => whnf
    refine fkS h (fun h => ?_) (fun h => ?_)
    · conv => whnf
      refine fkS h (fun h => ?_) (fun h => ?_)
      · conv => whnf
        refine fkS h (fun h => ?_) (fun h => ?_)
        · conv => whnf
          exact rt (E := E_Bool) h rfl
        conv => whnf
        exact rt (E := E_Bool) h rfl
      conv => whnf
      exact rt (E := E_Bool) h rfl
    conv => whnf
    exact rt (E := E_Bool) h rfl
  conv => whnf
  exact rt (E := E_Bool) h rfl

end Go.Proofs.YtpephpefjddgcaaGreat
namespace Go.Proofs.YtpephpefjddgcaaGreat
open Go Go.VC
noncomputable def ring_New (a0 : Int) : Option (RingRing × Int) :=
  jn (fun (w1 : Bool) => fk w1 (some (⟨[], (0 : Int), (0 : Int)⟩, (1 : Int))) (ck (decide ((0 : Int) ≤ a0) && decide (a0 * ((8 : Nat) : Int) ≤ 140737488355328) && decide (a0 ≤ 1000000000000)) (some (⟨List.replicate a0.toNat ((0 : Int) : Int), (0 : Int), (0 : Int)⟩, (0 : Int))))) (fun k1 => fk (decide (a0 < (1 : Int))) (k1 true) (k1 (decide (a0 > (4 : Int)))))
theorem ring_New_w (a0 : Int) (r : RingRing × Int) (h : ring_New a0 = some r) : Go.VC.Spec Tryz.prog 73 [.d (.int .i64 a0)] (fun y => y = E_RingRing_Int r) := by
  refine Go.VC.Spec.of_xc (args := [.d (.int .i64 a0)]) (fn := Tryz.f73) tab ⟨[(0, [0, 2]), (1, [0, 2, 9]), (2, [2, 3]), (3, [2, 3])], [], [100009], []⟩ 14 [.cell 2 155, .tmp 3] rfl rfl rfl rfl rfl rfl ?_
  conv => whnf
  refine jnS (fun w1 => ⟨[(0, .l (.d (.int .i64 a0))), (2, .l (.ptr 3 0)), (9, .l (.d (.bool w1)))], 14, [], [(3, [.nil, .d (.int .i64 (0 : Int)), .d (.int .i64 (0 : Int))])], []⟩) h (fun k1 hk1 h => ?_) (fun w1 h => ?_)
  · conv => whnf
    refine fkS h (fun h => ?_) (fun h => ?_)
    · conv => whnf
      exact jeS hk1 h (Weak.refl _)
    conv => whnf
    exact jeS hk1 h (Weak.refl _)
  conv => whnf
  refine fkS h (fun h => ?_) (fun h => ?_)
  · conv => whnf
    exact rt (E := E_RingRing_Int) h rfl
  conv => whnf
  refine mkS ((0 : Int) : Int) (eI .i64) h rfl rfl (fun h => ?_)
  conv => whnf
  exact rt (E := E_RingRing_Int) h rfl

end Go.Proofs.YtpephpefjddgcaaGreat
namespace Go.Proofs.YtpephpefjddgcaaGreat
open Go Go.VC
noncomputable def port_Open (a0 : List Port) : Option ((List PortLine) × Int) :=
  lp (fun nx1 (v1 : (List PortLine) × Int) => fk (decide (v1.2 < (a0.length : Int))) (ix a0 v1.2 fun x2 => bnd (port_may x2) fun x3 => fk (!x3) (some ([], (1 : Int))) (bnd (ring_New x2.Cap) fun x4 => bnd (ring_New x2.Cap) fun x5 => ck (decide ((v1.1.length + ([⟨x2, x4.1, x5.1⟩] : List PortLine).length) * 104 ≤ 140737488355328)) (nx1 (v1.1 ++ ([⟨x2, x4.1, x5.1⟩] : List PortLine), (wr (v1.2 + (1 : Int))))))) (fk (decide ((v1.1.length : Int) > (4 : Int))) (some ([], (1 : Int))) (some (v1.1, (0 : Int))))) FU ([], (0 : Int))
theorem port_Open_w (a0 : List Port) (r : (List PortLine) × Int) (h : port_Open a0 = some r) : Go.VC.Spec Tryz.prog 51 [.d (.sl (a0.map Port.enc))] (fun y => y = E_ListPortLine_Int r) := by
  refine Go.VC.Spec.of_xc (args := [.d (.sl (a0.map Port.enc))]) (fn := Tryz.f51) tab ⟨[(0, [0]), (1, [0, 4]), (2, [4, 11, 12, 13]), (3, [4, 11, 12, 13, 14]), (4, [4, 6, 11, 12, 13]), (5, [4, 6, 11, 12, 13, 19]), (6, [2, 3]), (7, [4, 6, 7, 11, 12, 13]), (8, [4, 6, 7, 9, 11, 12, 13]), (9, [4, 11, 12, 13]), (10, [4, 11, 12, 13]), (11, [4, 42]), (12, [2, 3]), (13, [2, 3])], [], [], []⟩ 44 [.tmp 2, .tmp 3] rfl rfl rfl rfl rfl rfl ?_
  conv => whnf
  refine lenS a0 Port.enc rfl ?_
  conv => whnf
  refine lpS (fun v1 => ⟨[(4, .l (.own 5)), (11, .l (.d (.sl (a0.map Port.enc)))), (12, .l (.d (.int .i64 (a0.length : Int)))), (13, .l (.d (.int .i64 v1.2)))], 44, [], [], [(5, 159, 9, v1.1.map PortLine.enc)]⟩) h (Weak.trans (Weak.nilO _ 4 5 159 9 rfl) (Weak.refl _)) (fun _ nx1 hn1 v1 h => ?_)
  conv => whnf
  refine fkS h (fun h => ?_) (fun h => ?_)
  · conv => whnf
    refine ixS (enc := Port.enc) h rfl (fun _ => rfl) (fun x2 h => ?_)
    conv => whnf
    refine caS (E := E_Bool) h (port_may_w x2) rfl (fun _ => rfl) (fun x3 h => ?_)
    conv => whnf
    refine fkS h (fun h => ?_) (fun h => ?_)
    · conv => whnf
      exact rt (E := E_ListPortLine_Int) h rfl
    conv => whnf
    refine ccS (E := E_RingRing_Int) h (ring_New_w x2.Cap) rfl rfl (fun x4 h => ?_)
    conv => whnf
    refine ccS (E := E_RingRing_Int) h (ring_New_w x2.Cap) rfl rfl (fun x5 h => ?_)
    conv => whnf
    refine liS ([⟨x2, x4.1, x5.1⟩] : List PortLine) PortLine.enc rfl rfl ?_
    conv => whnf
    refine apS (enc := PortLine.enc) (l1 := v1.1) (l2 := ([⟨x2, x4.1, x5.1⟩] : List PortLine)) h rfl rfl (fun _ => rfl) (fun h => ?_)
    conv => whnf
    exact leS hn1 h (Weak.refl _)
  conv => whnf
  refine lenS v1.1 PortLine.enc rfl ?_
  conv => whnf
  refine fkS h (fun h => ?_) (fun h => ?_)
  · conv => whnf
    exact rt (E := E_ListPortLine_Int) h rfl
  conv => whnf
  exact rt (E := E_ListPortLine_Int) h rfl

end Go.Proofs.YtpephpefjddgcaaGreat
namespace Go.Proofs.YtpephpefjddgcaaGreat
open Go Go.VC
noncomputable def image_Right (a0 : Config) : Option Bool :=
  lp (fun nx1 (v1 : Int) => fk (decide (v1 < (a0.Parts.length : Int))) (ix a0.Parts v1 fun x2 => jn (fun (w3 : Bool) => fk w3 (some false) (nx1 (wr (v1 + (1 : Int))))) (fun k3 => bnd (supply_Right x2.Face) fun x4 => fk (!x4) (k3 true) (bnd (task_All x2.Tasks) fun x5 => k3 (!x5)))) (lp (fun nx6 (v6 : Int) => fk (decide (v6 < (a0.Ports.length : Int))) (ix a0.Ports v6 fun x7 => jn (fun (w8 : Bool) => fk w8 (some false) (nx6 (wr (v6 + (1 : Int))))) (fun k8 => fk (decide (x7.From ≥ (a0.Parts.length : Int))) (k8 true) (k8 (decide (x7.To ≥ (a0.Parts.length : Int)))))) (bnd (port_Open a0.Ports) fun x9 => fk (decide (x9.2 = (0 : Int))) (some (decide ((a0.Parts.length : Int) ≤ (4 : Int)))) (some false))) FU (0 : Int))) FU (0 : Int)
theorem image_Right_w (a0 : Config) (r : Bool) (h : image_Right a0 = some r) : Go.VC.Spec Tryz.prog 49 [.agg (Config.enc a0)] (fun y => y = E_Bool r) := by
  refine Go.VC.Spec.of_xc (args := [.agg (Config.enc a0)]) (fn := Tryz.f49) tab ⟨[(0, [1]), (1, [1, 10, 11, 12]), (2, [1, 10, 11, 12, 13]), (3, [1, 4, 10, 11, 12]), (4, [1, 10, 11, 12, 25]), (5, [2]), (6, [1, 10, 11, 12]), (7, [1, 28, 29, 30]), (8, [1, 28, 29, 30, 31]), (9, [1, 6, 28, 29, 30]), (10, [1, 28, 29, 30, 47]), (11, [2]), (12, [1, 28, 29, 30]), (13, [1, 8]), (14, [2])], [], [100025, 100047], []⟩ 63 [.tmp 2] rfl rfl rfl rfl rfl rfl ?_
  conv => whnf
  refine lenS a0.Parts Part.enc rfl ?_
  conv => whnf
  refine lpS (fun v1 => ⟨[(1, .l (.ptr 2 0)), (10, .l (.d (.sl (a0.Parts.map Part.enc)))), (11, .l (.d (.int .i64 (a0.Parts.length : Int)))), (12, .l (.d (.int .i64 v1)))], 63, [], [(2, [.d (.sl (a0.Parts.map Part.enc)), .d (.sl (a0.Ports.map Port.enc))])], []⟩) h (Weak.refl _) (fun _ nx1 hn1 v1 h => ?_)
  conv => whnf
  refine fkS h (fun h => ?_) (fun h => ?_)
  · conv => whnf
    refine ixS (enc := Part.enc) h rfl (fun _ => rfl) (fun x2 h => ?_)
    conv => whnf
    refine jnS (fun w3 => ⟨[(1, .l (.ptr 2 0)), (10, .l (.d (.sl (a0.Parts.map Part.enc)))), (11, .l (.d (.int .i64 (a0.Parts.length : Int)))), (12, .l (.d (.int .i64 v1))), (25, .l (.d (.bool w3)))], 63, [], [(2, [.d (.sl (a0.Parts.map Part.enc)), .d (.sl (a0.Ports.map Port.enc))])], []⟩) h (fun k3 hk3 h => ?_) (fun w3 h => ?_)
    · conv => whnf
      refine caS (E := E_Bool) h (supply_Right_w x2.Face) rfl (fun _ => rfl) (fun x4 h => ?_)
      conv => whnf
      refine fkS h (fun h => ?_) (fun h => ?_)
      · conv => whnf
        exact jeS hk3 h (Weak.refl _)
      conv => whnf
      refine caS (E := E_Bool) h (task_All_w x2.Tasks) rfl (fun _ => rfl) (fun x5 h => ?_)
      conv => whnf
      exact jeS hk3 h (Weak.refl _)
    conv => whnf
    refine fkS h (fun h => ?_) (fun h => ?_)
    · conv => whnf
      exact rt (E := E_Bool) h rfl
    conv => whnf
    exact leS hn1 h (Weak.refl _)
  conv => whnf
  refine lenS a0.Ports Port.enc rfl ?_
  conv => whnf
  refine lpS (fun v6 => ⟨[(1, .l (.ptr 2 0)), (28, .l (.d (.sl (a0.Ports.map Port.enc)))), (29, .l (.d (.int .i64 (a0.Ports.length : Int)))), (30, .l (.d (.int .i64 v6)))], 63, [], [(2, [.d (.sl (a0.Parts.map Part.enc)), .d (.sl (a0.Ports.map Port.enc))])], []⟩) h (Weak.refl _) (fun _ nx6 hn6 v6 h => ?_)
  conv => whnf
  refine fkS h (fun h => ?_) (fun h => ?_)
  · conv => whnf
    refine ixS (enc := Port.enc) h rfl (fun _ => rfl) (fun x7 h => ?_)
    conv => whnf
    refine jnS (fun w8 => ⟨[(1, .l (.ptr 2 0)), (28, .l (.d (.sl (a0.Ports.map Port.enc)))), (29, .l (.d (.int .i64 (a0.Ports.length : Int)))), (30, .l (.d (.int .i64 v6))), (47, .l (.d (.bool w8)))], 63, [], [(2, [.d (.sl (a0.Parts.map Part.enc)), .d (.sl (a0.Ports.map Port.enc))])], []⟩) h (fun k8 hk8 h => ?_) (fun w8 h => ?_)
    · conv => whnf
      refine lenS a0.Parts Part.enc rfl ?_
      conv => whnf
      refine fkS h (fun h => ?_) (fun h => ?_)
      · conv => whnf
        exact jeS hk8 h (Weak.refl _)
      conv => whnf
      refine lenS a0.Parts Part.enc rfl ?_
      conv => whnf
      exact jeS hk8 h (Weak.refl _)
    conv => whnf
    refine fkS h (fun h => ?_) (fun h => ?_)
    · conv => whnf
      exact rt (E := E_Bool) h rfl
    conv => whnf
    exact leS hn6 h (Weak.refl _)
  conv => whnf
  refine ccS (E := E_ListPortLine_Int) h (port_Open_w a0.Ports) rfl rfl (fun x9 h => ?_)
  conv => whnf
  refine fkS h (fun h => ?_) (fun h => ?_)
  · conv => whnf
    refine lenS a0.Parts Part.enc rfl ?_
    conv => whnf
    exact rt (E := E_Bool) h rfl
  conv => whnf
  exact rt (E := E_Bool) h rfl

end Go.Proofs.YtpephpefjddgcaaGreat
namespace Go.Proofs.YtpephpefjddgcaaGreat
open Go Go.VC
noncomputable def image_Decode (a0 : List Int) : Option (Config × Int × Int) :=
  lp (fun nx1 (v1 : Int × Int × Int) => fk (decide (v1.2.2 < (3 : Int))) (jn (fun (w2 : Int × Int × Int) => jn (fun (w6 : Bool) => fk w6 (some (⟨[], []⟩, v1.2.2, (2 : Int))) (nx1 (w2.1, w2.2.1, (wr (v1.2.2 + (1 : Int)))))) (fun k6 => fk (decide (w2.2.1 = (0 : Int))) (ix ([84, 75, 49] : List Int) v1.2.2 fun x7 => k6 (!decide (w2.2.2 = (IntKind.i64.wrap x7)))) (k6 false))) (fun k2 => jn (fun (w3 : Int) => fk (!decide (w3 = (0 : Int))) (k2 (v1.1, w3, (0 : Int))) (ix a0 (wr ((wr (v1.1 + (1 : Int))) - (1 : Int))) fun x5 => k2 ((wr (v1.1 + (1 : Int))), w3, (IntKind.i64.wrap x5)))) (fun k3 => jn (fun (w4 : Bool) => fk w4 (k3 (8 : Int)) (k3 v1.2.1)) (fun k4 => fk (decide (v1.2.1 = (0 : Int))) (k4 (decide (v1.1 ≥ (a0.length : Int)))) (k4 false))))) (jn (fun (w8 : Int × Int × (List Part)) => jn (fun (w63 : Int × Int × (List Port)) => fk (!decide (w63.2.1 = (0 : Int))) (some (⟨[], []⟩, (a0.length : Int), w63.2.1)) (fk (decide (w63.1 < (a0.length : Int))) (some (⟨[], []⟩, w63.1, (2 : Int))) (bnd (image_Right ⟨w8.2.2, w63.2.2⟩) fun x82 => fk (!x82) (some (⟨[], []⟩, (0 : Int), (1 : Int))) (some (⟨w8.2.2, w63.2.2⟩, (0 : Int), (0 : Int)))))) (fun k63 => jn (fun (w64 : Int × Int × Int) => lp (fun nx68 (v68 : Int × Int × (List Port) × Int) => jn (fun (w69 : Bool) => fk w69 (jn (fun (w70 : Int × Int × Int) => jn (fun (w74 : Int × Int × Int) => jn (fun (w78 : Int × Int × Int) => ck (decide ((v68.2.2.1.length + ([⟨w70.2.2, w74.2.2, w78.2.2⟩] : List Port).length) * 24 ≤ 140737488355328)) (nx68 (w78.1, w78.2.1, v68.2.2.1 ++ ([⟨w70.2.2, w74.2.2, w78.2.2⟩] : List Port), (wr (v68.2.2.2 - (1 : Int)))))) (fun k78 => jn (fun (w79 : Int) => fk (!decide (w79 = (0 : Int))) (k78 (w74.1, w79, (0 : Int))) (ix a0 (wr ((wr (w74.1 + (1 : Int))) - (1 : Int))) fun x81 => k78 ((wr (w74.1 + (1 : Int))), w79, (IntKind.i64.wrap x81)))) (fun k79 => jn (fun (w80 : Bool) => fk w80 (k79 (8 : Int)) (k79 w74.2.1)) (fun k80 => fk (decide (w74.2.1 = (0 : Int))) (k80 (decide (w74.1 ≥ (a0.length : Int)))) (k80 false))))) (fun k74 => jn (fun (w75 : Int) => fk (!decide (w75 = (0 : Int))) (k74 (w70.1, w75, (0 : Int))) (ix a0 (wr ((wr (w70.1 + (1 : Int))) - (1 : Int))) fun x77 => k74 ((wr (w70.1 + (1 : Int))), w75, (IntKind.i64.wrap x77)))) (fun k75 => jn (fun (w76 : Bool) => fk w76 (k75 (8 : Int)) (k75 w70.2.1)) (fun k76 => fk (decide (w70.2.1 = (0 : Int))) (k76 (decide (w70.1 ≥ (a0.length : Int)))) (k76 false))))) (fun k70 => jn (fun (w71 : Int) => fk (!decide (w71 = (0 : Int))) (k70 (v68.1, w71, (0 : Int))) (ix a0 (wr ((wr (v68.1 + (1 : Int))) - (1 : Int))) fun x73 => k70 ((wr (v68.1 + (1 : Int))), w71, (IntKind.i64.wrap x73)))) (fun k71 => jn (fun (w72 : Bool) => fk w72 (k71 (8 : Int)) (k71 v68.2.1)) (fun k72 => fk (decide (v68.2.1 = (0 : Int))) (k72 (decide (v68.1 ≥ (a0.length : Int)))) (k72 false))))) (k63 (v68.1, v68.2.1, v68.2.2.1))) (fun k69 => fk (decide (v68.2.2.2 > (0 : Int))) (k69 (decide (v68.2.1 = (0 : Int)))) (k69 false))) FU (w64.1, w64.2.1, [], w64.2.2)) (fun k64 => jn (fun (w65 : Int) => fk (!decide (w65 = (0 : Int))) (k64 (w8.1, w65, (0 : Int))) (ix a0 (wr ((wr (w8.1 + (1 : Int))) - (1 : Int))) fun x67 => k64 ((wr (w8.1 + (1 : Int))), w65, (IntKind.i64.wrap x67)))) (fun k65 => jn (fun (w66 : Bool) => fk w66 (k65 (8 : Int)) (k65 w8.2.1)) (fun k66 => fk (decide (w8.2.1 = (0 : Int))) (k66 (decide (w8.1 ≥ (a0.length : Int)))) (k66 false)))))) (fun k8 => jn (fun (w9 : Int × Int × Int) => lp (fun nx13 (v13 : Int × Int × (List Part) × Int) => jn (fun (w14 : Bool) => fk w14 (jn (fun (w15 : Int × Int × (List Task) × Int × Int) => ck (decide ((v13.2.2.1.length + ([⟨⟨w15.2.2.2.1, w15.2.2.2.2⟩, w15.2.2.1⟩] : List Part).length) * 40 ≤ 140737488355328)) (nx13 (w15.1, w15.2.1, v13.2.2.1 ++ ([⟨⟨w15.2.2.2.1, w15.2.2.2.2⟩, w15.2.2.1⟩] : List Part), (wr (v13.2.2.2 - (1 : Int)))))) (fun k15 => jn (fun (w16 : Int × Int × Int) => jn (fun (w20 : Int × Int × Int) => jn (fun (w24 : Int × Int × (List Task)) => k15 (w24.1, w24.2.1, w24.2.2, w16.2.2, w20.2.2)) (fun k24 => jn (fun (w25 : Int × Int × Int) => lp (fun nx29 (v29 : Int × Int × (List Task) × Int) => jn (fun (w30 : Bool) => fk w30 (jn (fun (w31 : Int × Int × (List Sec) × Int × Int × Int) => ck (decide ((v29.2.2.1.length + ([⟨w31.2.2.2.1, w31.2.2.2.2.1, w31.2.2.2.2.2, w31.2.2.1⟩] : List Task).length) * 48 ≤ 140737488355328)) (nx29 (w31.1, w31.2.1, v29.2.2.1 ++ ([⟨w31.2.2.2.1, w31.2.2.2.2.1, w31.2.2.2.2.2, w31.2.2.1⟩] : List Task), (wr (v29.2.2.2 - (1 : Int)))))) (fun k31 => jn (fun (w32 : Int × Int × Int) => jn (fun (w36 : Int × Int × Int) => jn (fun (w40 : Int × Int × Int) => jn (fun (w44 : Int × Int × (List Sec)) => k31 (w44.1, w44.2.1, w44.2.2, w32.2.2, w36.2.2, w40.2.2)) (fun k44 => jn (fun (w45 : Int × Int × Int) => lp (fun nx49 (v49 : Int × Int × (List Sec) × Int) => jn (fun (w50 : Bool) => fk w50 (jn (fun (w51 : Int × Int × Int) => jn (fun (w55 : Int × Int × Int) => jn (fun (w59 : Int × Int × Int) => ck (decide ((v49.2.2.1.length + ([⟨w51.2.2, w55.2.2, w59.2.2⟩] : List Sec).length) * 24 ≤ 140737488355328)) (nx49 (w59.1, w59.2.1, v49.2.2.1 ++ ([⟨w51.2.2, w55.2.2, w59.2.2⟩] : List Sec), (wr (v49.2.2.2 - (1 : Int)))))) (fun k59 => jn (fun (w60 : Int) => fk (!decide (w60 = (0 : Int))) (k59 (w55.1, w60, (0 : Int))) (ix a0 (wr ((wr (w55.1 + (1 : Int))) - (1 : Int))) fun x62 => k59 ((wr (w55.1 + (1 : Int))), w60, (IntKind.i64.wrap x62)))) (fun k60 => jn (fun (w61 : Bool) => fk w61 (k60 (8 : Int)) (k60 w55.2.1)) (fun k61 => fk (decide (w55.2.1 = (0 : Int))) (k61 (decide (w55.1 ≥ (a0.length : Int)))) (k61 false))))) (fun k55 => jn (fun (w56 : Int) => fk (!decide (w56 = (0 : Int))) (k55 (w51.1, w56, (0 : Int))) (ix a0 (wr ((wr (w51.1 + (1 : Int))) - (1 : Int))) fun x58 => k55 ((wr (w51.1 + (1 : Int))), w56, (IntKind.i64.wrap x58)))) (fun k56 => jn (fun (w57 : Bool) => fk w57 (k56 (8 : Int)) (k56 w51.2.1)) (fun k57 => fk (decide (w51.2.1 = (0 : Int))) (k57 (decide (w51.1 ≥ (a0.length : Int)))) (k57 false))))) (fun k51 => jn (fun (w52 : Int) => fk (!decide (w52 = (0 : Int))) (k51 (v49.1, w52, (0 : Int))) (ix a0 (wr ((wr (v49.1 + (1 : Int))) - (1 : Int))) fun x54 => k51 ((wr (v49.1 + (1 : Int))), w52, (IntKind.i64.wrap x54)))) (fun k52 => jn (fun (w53 : Bool) => fk w53 (k52 (8 : Int)) (k52 v49.2.1)) (fun k53 => fk (decide (v49.2.1 = (0 : Int))) (k53 (decide (v49.1 ≥ (a0.length : Int)))) (k53 false))))) (k44 (v49.1, v49.2.1, v49.2.2.1))) (fun k50 => fk (decide (v49.2.2.2 > (0 : Int))) (k50 (decide (v49.2.1 = (0 : Int)))) (k50 false))) FU (w45.1, w45.2.1, [], w45.2.2)) (fun k45 => jn (fun (w46 : Int) => fk (!decide (w46 = (0 : Int))) (k45 (w40.1, w46, (0 : Int))) (ix a0 (wr ((wr (w40.1 + (1 : Int))) - (1 : Int))) fun x48 => k45 ((wr (w40.1 + (1 : Int))), w46, (IntKind.i64.wrap x48)))) (fun k46 => jn (fun (w47 : Bool) => fk w47 (k46 (8 : Int)) (k46 w40.2.1)) (fun k47 => fk (decide (w40.2.1 = (0 : Int))) (k47 (decide (w40.1 ≥ (a0.length : Int)))) (k47 false)))))) (fun k40 => jn (fun (w41 : Int) => fk (!decide (w41 = (0 : Int))) (k40 (w36.1, w41, (0 : Int))) (ix a0 (wr ((wr (w36.1 + (1 : Int))) - (1 : Int))) fun x43 => k40 ((wr (w36.1 + (1 : Int))), w41, (IntKind.i64.wrap x43)))) (fun k41 => jn (fun (w42 : Bool) => fk w42 (k41 (8 : Int)) (k41 w36.2.1)) (fun k42 => fk (decide (w36.2.1 = (0 : Int))) (k42 (decide (w36.1 ≥ (a0.length : Int)))) (k42 false))))) (fun k36 => jn (fun (w37 : Int) => fk (!decide (w37 = (0 : Int))) (k36 (w32.1, w37, (0 : Int))) (ix a0 (wr ((wr (w32.1 + (1 : Int))) - (1 : Int))) fun x39 => k36 ((wr (w32.1 + (1 : Int))), w37, (IntKind.i64.wrap x39)))) (fun k37 => jn (fun (w38 : Bool) => fk w38 (k37 (8 : Int)) (k37 w32.2.1)) (fun k38 => fk (decide (w32.2.1 = (0 : Int))) (k38 (decide (w32.1 ≥ (a0.length : Int)))) (k38 false))))) (fun k32 => jn (fun (w33 : Int) => fk (!decide (w33 = (0 : Int))) (k32 (v29.1, w33, (0 : Int))) (ix a0 (wr ((wr (v29.1 + (1 : Int))) - (1 : Int))) fun x35 => k32 ((wr (v29.1 + (1 : Int))), w33, (IntKind.i64.wrap x35)))) (fun k33 => jn (fun (w34 : Bool) => fk w34 (k33 (8 : Int)) (k33 v29.2.1)) (fun k34 => fk (decide (v29.2.1 = (0 : Int))) (k34 (decide (v29.1 ≥ (a0.length : Int)))) (k34 false)))))) (k24 (v29.1, v29.2.1, v29.2.2.1))) (fun k30 => fk (decide (v29.2.2.2 > (0 : Int))) (k30 (decide (v29.2.1 = (0 : Int)))) (k30 false))) FU (w25.1, w25.2.1, [], w25.2.2)) (fun k25 => jn (fun (w26 : Int) => fk (!decide (w26 = (0 : Int))) (k25 (w20.1, w26, (0 : Int))) (ix a0 (wr ((wr (w20.1 + (1 : Int))) - (1 : Int))) fun x28 => k25 ((wr (w20.1 + (1 : Int))), w26, (IntKind.i64.wrap x28)))) (fun k26 => jn (fun (w27 : Bool) => fk w27 (k26 (8 : Int)) (k26 w20.2.1)) (fun k27 => fk (decide (w20.2.1 = (0 : Int))) (k27 (decide (w20.1 ≥ (a0.length : Int)))) (k27 false)))))) (fun k20 => jn (fun (w21 : Int) => fk (!decide (w21 = (0 : Int))) (k20 (w16.1, w21, (0 : Int))) (ix a0 (wr ((wr (w16.1 + (1 : Int))) - (1 : Int))) fun x23 => k20 ((wr (w16.1 + (1 : Int))), w21, (IntKind.i64.wrap x23)))) (fun k21 => jn (fun (w22 : Bool) => fk w22 (k21 (8 : Int)) (k21 w16.2.1)) (fun k22 => fk (decide (w16.2.1 = (0 : Int))) (k22 (decide (w16.1 ≥ (a0.length : Int)))) (k22 false))))) (fun k16 => jn (fun (w17 : Int) => fk (!decide (w17 = (0 : Int))) (k16 (v13.1, w17, (0 : Int))) (ix a0 (wr ((wr (v13.1 + (1 : Int))) - (1 : Int))) fun x19 => k16 ((wr (v13.1 + (1 : Int))), w17, (IntKind.i64.wrap x19)))) (fun k17 => jn (fun (w18 : Bool) => fk w18 (k17 (8 : Int)) (k17 v13.2.1)) (fun k18 => fk (decide (v13.2.1 = (0 : Int))) (k18 (decide (v13.1 ≥ (a0.length : Int)))) (k18 false)))))) (k8 (v13.1, v13.2.1, v13.2.2.1))) (fun k14 => fk (decide (v13.2.2.2 > (0 : Int))) (k14 (decide (v13.2.1 = (0 : Int)))) (k14 false))) FU (w9.1, w9.2.1, [], w9.2.2)) (fun k9 => jn (fun (w10 : Int) => fk (!decide (w10 = (0 : Int))) (k9 (v1.1, w10, (0 : Int))) (ix a0 (wr ((wr (v1.1 + (1 : Int))) - (1 : Int))) fun x12 => k9 ((wr (v1.1 + (1 : Int))), w10, (IntKind.i64.wrap x12)))) (fun k10 => jn (fun (w11 : Bool) => fk w11 (k10 (8 : Int)) (k10 v1.2.1)) (fun k11 => fk (decide (v1.2.1 = (0 : Int))) (k11 (decide (v1.1 ≥ (a0.length : Int)))) (k11 false))))))) FU ((0 : Int), (0 : Int), (0 : Int))
theorem image_Decode_w (a0 : List Int) (r : Config × Int × Int) (h : image_Decode a0 = some r) : Go.VC.Spec Tryz.prog 30 [.d (.sl (a0.map (eI .u8)))] (fun y => y = E_Config_Int_Int r) := by
  refine Go.VC.Spec.of_xc (args := [.d (.sl (a0.map (eI .u8)))]) (fn := Tryz.f30) tab ⟨[(0, [0, 2]), (1, [0, 2, 5]), (2, [0, 2, 5, 12]), (3, [0, 2, 5, 12, 13]), (4, [0, 2, 5, 6, 12]), (5, [0, 2, 5, 6, 7, 12]), (6, [0, 2, 5, 6, 12, 28]), (7, [2, 3, 4]), (8, [0, 2, 5, 12]), (9, [0, 2, 5, 8]), (10, [0, 2, 5, 8]), (11, [0, 2, 5, 8, 42]), (12, [2, 3, 4]), (13, [2, 5, 8, 55]), (14, [2, 3, 4]), (15, [2, 8, 68]), (16, [2, 3, 4]), (17, [2, 3, 4])], [], [100028], []⟩ 74 [.cell 2 84, .tmp 3, .tmp 4] rfl rfl rfl rfl rfl rfl ?_
  conv => whnf
  refine lpS (fun v1 => ⟨[(0, .l (.d (.sl (a0.map (eI .u8))))), (2, .l (.ptr 3 0)), (5, .l (.ptr 12 0)), (12, .l (.d (.int .i64 v1.2.2)))], 74, [], [(3, [.nil, .nil]), (12, [.d (.sl (a0.map (eI .u8))), .d (.int .i64 v1.1), .d (.int .i64 v1.2.1)])], []⟩) h (Weak.refl _) (fun _ nx1 hn1 v1 h => ?_)
  conv => whnf
  refine fkS h (fun h => ?_) (fun h => ?_)
  · conv => whnf
    refine inJ (fun w2 => ⟨[(16, .l (.d (.int .i64 w2.2.2))), (15, .l (.ptr 12 0)), (0, .l (.d (.sl (a0.map (eI .u8))))), (2, .l (.ptr 3 0)), (5, .l (.ptr 12 0)), (6, .l (.d (.int .i64 v1.2.2))), (12, .l (.d (.int .i64 v1.2.2)))], 74, [], [(3, [.nil, .nil]), (12, [.d (.sl (a0.map (eI .u8))), .d (.int .i64 w2.1), .d (.int .i64 w2.2.1)])], []⟩) h (fun k2 hk2 h => ?_) (fun w2 h => ?_)
    · conv => whnf
      refine inS (fn := Tryz.f44) tab ⟨[(0, [0]), (1, [0, 19]), (2, [0]), (3, [0, 27]), (4, [2]), (5, [0]), (6, [2])], [], [100019, 3], []⟩ 47 [.tmp 2] rfl rfl rfl rfl rfl rfl ?_
      conv => whnf
      refine jnS (fun w3 => ⟨[(0, .l (.ptr 12 0))], 47, [⟨[(15, .l (.ptr 12 0)), (0, .l (.d (.sl (a0.map (eI .u8))))), (2, .l (.ptr 3 0)), (5, .l (.ptr 12 0)), (6, .l (.d (.int .i64 v1.2.2))), (12, .l (.d (.int .i64 v1.2.2)))], 74⟩], [(3, [.nil, .nil]), (12, [.d (.sl (a0.map (eI .u8))), .d (.int .i64 v1.1), .d (.int .i64 w3)])], []⟩) h (fun k3 hk3 h => ?_) (fun w3 h => ?_)
      · conv => whnf
        refine jnS (fun w4 => ⟨[(0, .l (.ptr 12 0)), (19, .l (.d (.bool w4)))], 47, [⟨[(15, .l (.ptr 12 0)), (0, .l (.d (.sl (a0.map (eI .u8))))), (2, .l (.ptr 3 0)), (5, .l (.ptr 12 0)), (6, .l (.d (.int .i64 v1.2.2))), (12, .l (.d (.int .i64 v1.2.2)))], 74⟩], [(3, [.nil, .nil]), (12, [.d (.sl (a0.map (eI .u8))), .d (.int .i64 v1.1), .d (.int .i64 v1.2.1)])], []⟩) h (fun k4 hk4 h => ?_) (fun w4 h => ?_)
        · conv => whnf
          refine ⟨17, ?_⟩
          conv => whnf
          refine fkS h (fun h => ?_) (fun h => ?_)
          · conv => whnf
            refine lenS a0 (eI .u8) rfl ?_
            conv => whnf
            refine drS (by kernel_rfl) ?_
            conv => whnf
            exact jeS hk4 h (Weak.refl _)
          conv => whnf
          refine drS (by kernel_rfl) ?_
          conv => whnf
          exact jeS hk4 h (Weak.refl _)
        conv => whnf
        refine fkS h (fun h => ?_) (fun h => ?_)
        · conv => whnf
          exact jeS hk3 h (Weak.refl _)
        conv => whnf
        refine jeX hk3 h ?_
        conv => whnf
        refine WkF.step (Weak.keepS _ [0]) ?_
        conv => whnf
        exact WkF.refl _
      conv => whnf
      refine fkS h (fun h => ?_) (fun h => ?_)
      · conv => whnf
        exact jeS hk2 h (Weak.refl _)
      conv => whnf
      refine ⟨9, ?_⟩
      conv => whnf
      refine drS (by kernel_rfl) ?_
      conv => whnf
      refine ixS (enc := (eI .u8)) h rfl (fun _ => rfl) (fun x5 h => ?_)
      conv => whnf
      exact jeS hk2 h (Weak.refl _)
    conv => whnf
    refine jnS (fun w6 => ⟨[(0, .l (.d (.sl (a0.map (eI .u8))))), (2, .l (.ptr 3 0)), (5, .l (.ptr 12 0)), (6, .l (.d (.int .i64 v1.2.2))), (12, .l (.d (.int .i64 v1.2.2))), (28, .l (.d (.bool w6)))], 74, [], [(3, [.nil, .nil]), (12, [.d (.sl (a0.map (eI .u8))), .d (.int .i64 w2.1), .d (.int .i64 w2.2.1)])], []⟩) h (fun k6 hk6 h => ?_) (fun w6 h => ?_)
    · conv => whnf
      refine fkS h (fun h => ?_) (fun h => ?_)
      · conv => whnf
        refine isS ([84, 75, 49] : List Int) h rfl rfl rfl Tryz.underlying9 rfl (fun x7 h => ?_)
        conv => whnf
        exact jeS hk6 h (Weak.refl _)
      conv => whnf
      exact jeS hk6 h (Weak.refl _)
    conv => whnf
    refine fkS h (fun h => ?_) (fun h => ?_)
    · conv => whnf
      exact rt (E := E_Config_Int_Int) h rfl
    conv => whnf
    exact leS hn1 h (Weak.refl _)
  conv => whnf
  refine inJ (fun w8 => ⟨[(35, .l (.own 36)), (34, .l (.mfn 46 12)), (33, .l (.ptr 12 0)), (32, .l (.ptr 12 0)), (13, .l (.d (.bool false))), (0, .l (.d (.sl (a0.map (eI .u8))))), (2, .l (.ptr 3 0)), (5, .l (.ptr 12 0)), (12, .l (.d (.int .i64 v1.2.2)))], 74, [], [(3, [.nil, .nil]), (12, [.d (.sl (a0.map (eI .u8))), .d (.int .i64 w8.1), .d (.int .i64 w8.2.1)])], [(36, 121, 3, w8.2.2.map Part.enc)]⟩) h (fun k8 hk8 h => ?_) (fun w8 h => ?_)
  · conv => whnf
    refine inS (fn := Tryz.f45) tab ⟨[(0, [0, 1]), (1, [0, 1, 5]), (2, [0, 1, 5, 6]), (3, [0, 1, 5, 6, 17]), (4, [0, 1, 5, 6]), (5, [0, 1, 5, 6]), (6, [4])], [], [100017], [(23, [301023])]⟩ 26 [.tmp 4] rfl rfl rfl rfl rfl rfl ?_
    conv => whnf
    refine inJ (fun w9 => ⟨[(8, .l (.d (.int .i64 w9.2.2))), (7, .l (.ptr 12 0)), (0, .l (.ptr 12 0)), (1, .l (.mfn 46 12)), (5, .l .nil)], 26, [⟨[(34, .l (.mfn 46 12)), (33, .l (.ptr 12 0)), (32, .l (.ptr 12 0)), (13, .l (.d (.bool false))), (0, .l (.d (.sl (a0.map (eI .u8))))), (2, .l (.ptr 3 0)), (5, .l (.ptr 12 0)), (12, .l (.d (.int .i64 v1.2.2))), (13, .l (.d (.bool (decide (v1.2.2 < (3 : Int))))))], 74⟩], [(3, [.nil, .nil]), (12, [.d (.sl (a0.map (eI .u8))), .d (.int .i64 w9.1), .d (.int .i64 w9.2.1)])], []⟩) h (fun k9 hk9 h => ?_) (fun w9 h => ?_)
    · conv => whnf
      refine inS (fn := Tryz.f44) tab ⟨[(0, [0]), (1, [0, 19]), (2, [0]), (3, [0, 27]), (4, [2]), (5, [0]), (6, [2])], [], [100019, 3], []⟩ 47 [.tmp 2] rfl rfl rfl rfl rfl rfl ?_
      conv => whnf
      refine jnS (fun w10 => ⟨[(0, .l (.ptr 12 0))], 47, [⟨[(7, .l (.ptr 12 0)), (0, .l (.ptr 12 0)), (1, .l (.mfn 46 12)), (5, .l .nil)], 26⟩, ⟨[(34, .l (.mfn 46 12)), (33, .l (.ptr 12 0)), (32, .l (.ptr 12 0)), (13, .l (.d (.bool false))), (0, .l (.d (.sl (a0.map (eI .u8))))), (2, .l (.ptr 3 0)), (5, .l (.ptr 12 0)), (12, .l (.d (.int .i64 v1.2.2))), (13, .l (.d (.bool (decide (v1.2.2 < (3 : Int))))))], 74⟩], [(3, [.nil, .nil]), (12, [.d (.sl (a0.map (eI .u8))), .d (.int .i64 v1.1), .d (.int .i64 w10)])], []⟩) h (fun k10 hk10 h => ?_) (fun w10 h => ?_)
      · conv => whnf
        refine jnS (fun w11 => ⟨[(0, .l (.ptr 12 0)), (19, .l (.d (.bool w11)))], 47, [⟨[(7, .l (.ptr 12 0)), (0, .l (.ptr 12 0)), (1, .l (.mfn 46 12)), (5, .l .nil)], 26⟩, ⟨[(34, .l (.mfn 46 12)), (33, .l (.ptr 12 0)), (32, .l (.ptr 12 0)), (13, .l (.d (.bool false))), (0, .l (.d (.sl (a0.map (eI .u8))))), (2, .l (.ptr 3 0)), (5, .l (.ptr 12 0)), (12, .l (.d (.int .i64 v1.2.2))), (13, .l (.d (.bool (decide (v1.2.2 < (3 : Int))))))], 74⟩], [(3, [.nil, .nil]), (12, [.d (.sl (a0.map (eI .u8))), .d (.int .i64 v1.1), .d (.int .i64 v1.2.1)])], []⟩) h (fun k11 hk11 h => ?_) (fun w11 h => ?_)
        · conv => whnf
          refine ⟨17, ?_⟩
          conv => whnf
          refine fkS h (fun h => ?_) (fun h => ?_)
          · conv => whnf
            refine lenS a0 (eI .u8) rfl ?_
            conv => whnf
            refine drS (by kernel_rfl) ?_
            conv => whnf
            exact jeS hk11 h (Weak.refl _)
          conv => whnf
          refine drS (by kernel_rfl) ?_
          conv => whnf
          exact jeS hk11 h (Weak.refl _)
        conv => whnf
        refine fkS h (fun h => ?_) (fun h => ?_)
        · conv => whnf
          exact jeS hk10 h (Weak.refl _)
        conv => whnf
        refine jeX hk10 h ?_
        conv => whnf
        refine WkF.step (Weak.keepS _ [0]) ?_
        conv => whnf
        exact WkF.refl _
      conv => whnf
      refine fkS h (fun h => ?_) (fun h => ?_)
      · conv => whnf
        exact jeS hk9 h (Weak.refl _)
      conv => whnf
      refine ⟨9, ?_⟩
      conv => whnf
      refine drS (by kernel_rfl) ?_
      conv => whnf
      refine ixS (enc := (eI .u8)) h rfl (fun _ => rfl) (fun x12 h => ?_)
      conv => whnf
      exact jeS hk9 h (Weak.refl _)
    conv => whnf
    refine lpS (fun v13 => ⟨[(0, .l (.ptr 12 0)), (1, .l (.mfn 46 12)), (5, .l (.own 1006)), (6, .l (.d (.int .i64 v13.2.2.2)))], 26, [⟨[(34, .l (.mfn 46 12)), (33, .l (.ptr 12 0)), (32, .l (.ptr 12 0)), (13, .l (.d (.bool false))), (0, .l (.d (.sl (a0.map (eI .u8))))), (2, .l (.ptr 3 0)), (5, .l (.ptr 12 0)), (12, .l (.d (.int .i64 v1.2.2))), (13, .l (.d (.bool (decide (v1.2.2 < (3 : Int))))))], 74⟩], [(3, [.nil, .nil]), (12, [.d (.sl (a0.map (eI .u8))), .d (.int .i64 v13.1), .d (.int .i64 v13.2.1)])], [(1006, 121, 3, v13.2.2.1.map Part.enc)]⟩) h (Weak.trans (Weak.nilO _ 5 1006 121 3 rfl) (Weak.refl _)) (fun _ nx13 hn13 v13 h => ?_)
    conv => whnf
    refine jnS (fun w14 => ⟨[(0, .l (.ptr 12 0)), (1, .l (.mfn 46 12)), (5, .l (.own 1006)), (6, .l (.d (.int .i64 v13.2.2.2))), (17, .l (.d (.bool w14)))], 26, [⟨[(34, .l (.mfn 46 12)), (33, .l (.ptr 12 0)), (32, .l (.ptr 12 0)), (13, .l (.d (.bool false))), (0, .l (.d (.sl (a0.map (eI .u8))))), (2, .l (.ptr 3 0)), (5, .l (.ptr 12 0)), (12, .l (.d (.int .i64 v1.2.2))), (13, .l (.d (.bool (decide (v1.2.2 < (3 : Int))))))], 74⟩], [(3, [.nil, .nil]), (12, [.d (.sl (a0.map (eI .u8))), .d (.int .i64 v13.1), .d (.int .i64 v13.2.1)])], [(1006, 121, 3, v13.2.2.1.map Part.enc)]⟩) h (fun k14 hk14 h => ?_) (fun w14 h => ?_)
    · conv => whnf
      refine fkS h (fun h => ?_) (fun h => ?_)
      · conv => whnf
        exact jeS hk14 h (Weak.refl _)
      conv => whnf
      exact jeS hk14 h (Weak.refl _)
    conv => whnf
    refine fkS h (fun h => ?_) (fun h => ?_)
    · conv => whnf
      refine inJ (fun w15 => ⟨[(22, .agg [.d (.int .i64 w15.2.2.2.1), .d (.int .i64 w15.2.2.2.2), .own 301023]), (21, .l (.mfn 46 12)), (20, .l (.own 1006)), (17, .l (.d (.bool true))), (0, .l (.ptr 12 0)), (1, .l (.mfn 46 12)), (5, .l (.own 1006)), (6, .l (.d (.int .i64 v13.2.2.2)))], 26, [⟨[(34, .l (.mfn 46 12)), (33, .l (.ptr 12 0)), (32, .l (.ptr 12 0)), (13, .l (.d (.bool false))), (0, .l (.d (.sl (a0.map (eI .u8))))), (2, .l (.ptr 3 0)), (5, .l (.ptr 12 0)), (12, .l (.d (.int .i64 v1.2.2))), (13, .l (.d (.bool (decide (v1.2.2 < (3 : Int))))))], 74⟩], [(3, [.nil, .nil]), (12, [.d (.sl (a0.map (eI .u8))), .d (.int .i64 w15.1), .d (.int .i64 w15.2.1)])], [(1006, 121, 3, v13.2.2.1.map Part.enc), (301023, 53, 4, w15.2.2.1.map Task.enc)]⟩) h (fun k15 hk15 h => ?_) (fun w15 h => ?_)
      · conv => whnf
        refine inS (fn := Tryz.f46) tab ⟨[(0, [0, 2]), (1, [0, 2, 3, 4]), (2, [2])], [], [], []⟩ 17 [.cell 2 121] rfl rfl rfl rfl rfl rfl ?_
        conv => whnf
        refine inJ (fun w16 => ⟨[(6, .l (.d (.int .i64 w16.2.2))), (5, .l (.ptr 12 0)), (0, .l (.ptr 12 0)), (2, .l (.ptr 2003 0))], 17, [⟨[(21, .l (.mfn 46 12)), (20, .l (.own 1006)), (17, .l (.d (.bool true))), (0, .l (.ptr 12 0)), (1, .l (.mfn 46 12)), (5, .l (.own 1006)), (6, .l (.d (.int .i64 v13.2.2.2))), (17, .l (.d (.bool w14)))], 26⟩, ⟨[(34, .l (.mfn 46 12)), (33, .l (.ptr 12 0)), (32, .l (.ptr 12 0)), (13, .l (.d (.bool false))), (0, .l (.d (.sl (a0.map (eI .u8))))), (2, .l (.ptr 3 0)), (5, .l (.ptr 12 0)), (12, .l (.d (.int .i64 v1.2.2))), (13, .l (.d (.bool (decide (v1.2.2 < (3 : Int))))))], 74⟩], [(3, [.nil, .nil]), (12, [.d (.sl (a0.map (eI .u8))), .d (.int .i64 w16.1), .d (.int .i64 w16.2.1)]), (2003, [.d (.int .i64 (0 : Int)), .d (.int .i64 (0 : Int)), .nil])], [(1006, 121, 3, v13.2.2.1.map Part.enc)]⟩) h (fun k16 hk16 h => ?_) (fun w16 h => ?_)
        · conv => whnf
          refine inS (fn := Tryz.f44) tab ⟨[(0, [0]), (1, [0, 19]), (2, [0]), (3, [0, 27]), (4, [2]), (5, [0]), (6, [2])], [], [100019, 3], []⟩ 47 [.tmp 2] rfl rfl rfl rfl rfl rfl ?_
          conv => whnf
          refine jnS (fun w17 => ⟨[(0, .l (.ptr 12 0))], 47, [⟨[(5, .l (.ptr 12 0)), (0, .l (.ptr 12 0)), (2, .l (.ptr 2003 0))], 17⟩, ⟨[(21, .l (.mfn 46 12)), (20, .l (.own 1006)), (17, .l (.d (.bool true))), (0, .l (.ptr 12 0)), (1, .l (.mfn 46 12)), (5, .l (.own 1006)), (6, .l (.d (.int .i64 v13.2.2.2))), (17, .l (.d (.bool w14)))], 26⟩, ⟨[(34, .l (.mfn 46 12)), (33, .l (.ptr 12 0)), (32, .l (.ptr 12 0)), (13, .l (.d (.bool false))), (0, .l (.d (.sl (a0.map (eI .u8))))), (2, .l (.ptr 3 0)), (5, .l (.ptr 12 0)), (12, .l (.d (.int .i64 v1.2.2))), (13, .l (.d (.bool (decide (v1.2.2 < (3 : Int))))))], 74⟩], [(3, [.nil, .nil]), (12, [.d (.sl (a0.map (eI .u8))), .d (.int .i64 v13.1), .d (.int .i64 w17)]), (2003, [.d (.int .i64 (0 : Int)), .d (.int .i64 (0 : Int)), .nil])], [(1006, 121, 3, v13.2.2.1.map Part.enc)]⟩) h (fun k17 hk17 h => ?_) (fun w17 h => ?_)
          · conv => whnf
            refine jnS (fun w18 => ⟨[(0, .l (.ptr 12 0)), (19, .l (.d (.bool w18)))], 47, [⟨[(5, .l (.ptr 12 0)), (0, .l (.ptr 12 0)), (2, .l (.ptr 2003 0))], 17⟩, ⟨[(21, .l (.mfn 46 12)), (20, .l (.own 1006)), (17, .l (.d (.bool true))), (0, .l (.ptr 12 0)), (1, .l (.mfn 46 12)), (5, .l (.own 1006)), (6, .l (.d (.int .i64 v13.2.2.2))), (17, .l (.d (.bool w14)))], 26⟩, ⟨[(34, .l (.mfn 46 12)), (33, .l (.ptr 12 0)), (32, .l (.ptr 12 0)), (13, .l (.d (.bool false))), (0, .l (.d (.sl (a0.map (eI .u8))))), (2, .l (.ptr 3 0)), (5, .l (.ptr 12 0)), (12, .l (.d (.int .i64 v1.2.2))), (13, .l (.d (.bool (decide (v1.2.2 < (3 : Int))))))], 74⟩], [(3, [.nil, .nil]), (12, [.d (.sl (a0.map (eI .u8))), .d (.int .i64 v13.1), .d (.int .i64 v13.2.1)]), (2003, [.d (.int .i64 (0 : Int)), .d (.int .i64 (0 : Int)), .nil])], [(1006, 121, 3, v13.2.2.1.map Part.enc)]⟩) h (fun k18 hk18 h => ?_) (fun w18 h => ?_)
            · conv => whnf
              refine ⟨17, ?_⟩
              conv => whnf
              refine fkS h (fun h => ?_) (fun h => ?_)
              · conv => whnf
                refine lenS a0 (eI .u8) rfl ?_
                conv => whnf
                refine drS (by kernel_rfl) ?_
                conv => whnf
                exact jeS hk18 h (Weak.refl _)
              conv => whnf
              refine drS (by kernel_rfl) ?_
              conv => whnf
              exact jeS hk18 h (Weak.refl _)
            conv => whnf
            refine fkS h (fun h => ?_) (fun h => ?_)
            · conv => whnf
              exact jeS hk17 h (Weak.refl _)
            conv => whnf
            refine jeX hk17 h ?_
            conv => whnf
            refine WkF.step (Weak.keepS _ [0]) ?_
            conv => whnf
            exact WkF.refl _
          conv => whnf
          refine fkS h (fun h => ?_) (fun h => ?_)
          · conv => whnf
            exact jeS hk16 h (Weak.refl _)
          conv => whnf
          refine ⟨9, ?_⟩
          conv => whnf
          refine drS (by kernel_rfl) ?_
          conv => whnf
          refine ixS (enc := (eI .u8)) h rfl (fun _ => rfl) (fun x19 h => ?_)
          conv => whnf
          exact jeS hk16 h (Weak.refl _)
        conv => whnf
        refine inJ (fun w20 => ⟨[(8, .l (.d (.int .i64 w20.2.2))), (7, .l (.ptr 12 0)), (6, .l (.d (.int .i64 w16.2.2))), (5, .l (.ptr 12 0)), (0, .l (.ptr 12 0)), (2, .l (.ptr 2003 0))], 17, [⟨[(21, .l (.mfn 46 12)), (20, .l (.own 1006)), (17, .l (.d (.bool true))), (0, .l (.ptr 12 0)), (1, .l (.mfn 46 12)), (5, .l (.own 1006)), (6, .l (.d (.int .i64 v13.2.2.2))), (17, .l (.d (.bool w14)))], 26⟩, ⟨[(34, .l (.mfn 46 12)), (33, .l (.ptr 12 0)), (32, .l (.ptr 12 0)), (13, .l (.d (.bool false))), (0, .l (.d (.sl (a0.map (eI .u8))))), (2, .l (.ptr 3 0)), (5, .l (.ptr 12 0)), (12, .l (.d (.int .i64 v1.2.2))), (13, .l (.d (.bool (decide (v1.2.2 < (3 : Int))))))], 74⟩], [(3, [.nil, .nil]), (12, [.d (.sl (a0.map (eI .u8))), .d (.int .i64 w20.1), .d (.int .i64 w20.2.1)]), (2003, [.d (.int .i64 (0 : Int)), .d (.int .i64 (0 : Int)), .nil])], [(1006, 121, 3, v13.2.2.1.map Part.enc)]⟩) h (fun k20 hk20 h => ?_) (fun w20 h => ?_)
        · conv => whnf
          refine inS (fn := Tryz.f44) tab ⟨[(0, [0]), (1, [0, 19]), (2, [0]), (3, [0, 27]), (4, [2]), (5, [0]), (6, [2])], [], [100019, 3], []⟩ 47 [.tmp 2] rfl rfl rfl rfl rfl rfl ?_
          conv => whnf
          refine jnS (fun w21 => ⟨[(0, .l (.ptr 12 0))], 47, [⟨[(7, .l (.ptr 12 0)), (6, .l (.d (.int .i64 w16.2.2))), (5, .l (.ptr 12 0)), (0, .l (.ptr 12 0)), (2, .l (.ptr 2003 0))], 17⟩, ⟨[(21, .l (.mfn 46 12)), (20, .l (.own 1006)), (17, .l (.d (.bool true))), (0, .l (.ptr 12 0)), (1, .l (.mfn 46 12)), (5, .l (.own 1006)), (6, .l (.d (.int .i64 v13.2.2.2))), (17, .l (.d (.bool w14)))], 26⟩, ⟨[(34, .l (.mfn 46 12)), (33, .l (.ptr 12 0)), (32, .l (.ptr 12 0)), (13, .l (.d (.bool false))), (0, .l (.d (.sl (a0.map (eI .u8))))), (2, .l (.ptr 3 0)), (5, .l (.ptr 12 0)), (12, .l (.d (.int .i64 v1.2.2))), (13, .l (.d (.bool (decide (v1.2.2 < (3 : Int))))))], 74⟩], [(3, [.nil, .nil]), (12, [.d (.sl (a0.map (eI .u8))), .d (.int .i64 w16.1), .d (.int .i64 w21)]), (2003, [.d (.int .i64 (0 : Int)), .d (.int .i64 (0 : Int)), .nil])], [(1006, 121, 3, v13.2.2.1.map Part.enc)]⟩) h (fun k21 hk21 h => ?_) (fun w21 h => ?_)
          · conv => whnf
            refine jnS (fun w22 => ⟨[(0, .l (.ptr 12 0)), (19, .l (.d (.bool w22)))], 47, [⟨[(7, .l (.ptr 12 0)), (6, .l (.d (.int .i64 w16.2.2))), (5, .l (.ptr 12 0)), (0, .l (.ptr 12 0)), (2, .l (.ptr 2003 0))], 17⟩, ⟨[(21, .l (.mfn 46 12)), (20, .l (.own 1006)), (17, .l (.d (.bool true))), (0, .l (.ptr 12 0)), (1, .l (.mfn 46 12)), (5, .l (.own 1006)), (6, .l (.d (.int .i64 v13.2.2.2))), (17, .l (.d (.bool w14)))], 26⟩, ⟨[(34, .l (.mfn 46 12)), (33, .l (.ptr 12 0)), (32, .l (.ptr 12 0)), (13, .l (.d (.bool false))), (0, .l (.d (.sl (a0.map (eI .u8))))), (2, .l (.ptr 3 0)), (5, .l (.ptr 12 0)), (12, .l (.d (.int .i64 v1.2.2))), (13, .l (.d (.bool (decide (v1.2.2 < (3 : Int))))))], 74⟩], [(3, [.nil, .nil]), (12, [.d (.sl (a0.map (eI .u8))), .d (.int .i64 w16.1), .d (.int .i64 w16.2.1)]), (2003, [.d (.int .i64 (0 : Int)), .d (.int .i64 (0 : Int)), .nil])], [(1006, 121, 3, v13.2.2.1.map Part.enc)]⟩) h (fun k22 hk22 h => ?_) (fun w22 h => ?_)
            · conv => whnf
              refine ⟨17, ?_⟩
              conv => whnf
              refine fkS h (fun h => ?_) (fun h => ?_)
              · conv => whnf
                refine lenS a0 (eI .u8) rfl ?_
                conv => whnf
                refine drS (by kernel_rfl) ?_
                conv => whnf
                exact jeS hk22 h (Weak.refl _)
              conv => whnf
              refine drS (by kernel_rfl) ?_
              conv => whnf
              exact jeS hk22 h (Weak.refl _)
            conv => whnf
            refine fkS h (fun h => ?_) (fun h => ?_)
            · conv => whnf
              exact jeS hk21 h (Weak.refl _)
            conv => whnf
            refine jeX hk21 h ?_
            conv => whnf
            refine WkF.step (Weak.keepS _ [0]) ?_
            conv => whnf
            exact WkF.refl _
          conv => whnf
          refine fkS h (fun h => ?_) (fun h => ?_)
          · conv => whnf
            exact jeS hk20 h (Weak.refl _)
          conv => whnf
          refine ⟨9, ?_⟩
          conv => whnf
          refine drS (by kernel_rfl) ?_
          conv => whnf
          refine ixS (enc := (eI .u8)) h rfl (fun _ => rfl) (fun x23 h => ?_)
          conv => whnf
          exact jeS hk20 h (Weak.refl _)
        conv => whnf
        refine inJ (fun w24 => ⟨[(15, .l (.own 2016)), (14, .l (.mfn 67 12)), (13, .l (.ptr 12 0)), (12, .l (.ptr 12 0)), (11, .agg [.d (.int .i64 w16.2.2), .d (.int .i64 w20.2.2)]), (10, .l (.d (.int .i64 w20.2.2))), (9, .l (.d (.int .i64 w16.2.2))), (0, .l (.ptr 12 0)), (2, .l (.ptr 2003 0)), (3, .l (.d (.int .i64 w16.2.2))), (4, .l (.d (.int .i64 w20.2.2)))], 17, [⟨[(21, .l (.mfn 46 12)), (20, .l (.own 1006)), (17, .l (.d (.bool true))), (0, .l (.ptr 12 0)), (1, .l (.mfn 46 12)), (5, .l (.own 1006)), (6, .l (.d (.int .i64 v13.2.2.2))), (17, .l (.d (.bool w14)))], 26⟩, ⟨[(34, .l (.mfn 46 12)), (33, .l (.ptr 12 0)), (32, .l (.ptr 12 0)), (13, .l (.d (.bool false))), (0, .l (.d (.sl (a0.map (eI .u8))))), (2, .l (.ptr 3 0)), (5, .l (.ptr 12 0)), (12, .l (.d (.int .i64 v1.2.2))), (13, .l (.d (.bool (decide (v1.2.2 < (3 : Int))))))], 74⟩], [(3, [.nil, .nil]), (12, [.d (.sl (a0.map (eI .u8))), .d (.int .i64 w24.1), .d (.int .i64 w24.2.1)]), (2003, [.d (.int .i64 (0 : Int)), .d (.int .i64 (0 : Int)), .nil])], [(1006, 121, 3, v13.2.2.1.map Part.enc), (2016, 53, 4, w24.2.2.map Task.enc)]⟩) h (fun k24 hk24 h => ?_) (fun w24 h => ?_)
        · conv => whnf
          refine inS (fn := Tryz.f66) tab ⟨[(0, [0, 1]), (1, [0, 1, 5]), (2, [0, 1, 5, 6]), (3, [0, 1, 5, 6, 17]), (4, [0, 1, 5, 6]), (5, [0, 1, 5, 6]), (6, [4])], [], [100017], [(23, [403023])]⟩ 26 [.tmp 4] rfl rfl rfl rfl rfl rfl ?_
          conv => whnf
          refine inJ (fun w25 => ⟨[(8, .l (.d (.int .i64 w25.2.2))), (7, .l (.ptr 12 0)), (0, .l (.ptr 12 0)), (1, .l (.mfn 67 12)), (5, .l .nil)], 26, [⟨[(14, .l (.mfn 67 12)), (13, .l (.ptr 12 0)), (12, .l (.ptr 12 0)), (11, .agg [.d (.int .i64 w16.2.2), .d (.int .i64 w20.2.2)]), (10, .l (.d (.int .i64 w20.2.2))), (9, .l (.d (.int .i64 w16.2.2))), (0, .l (.ptr 12 0)), (2, .l (.ptr 2003 0)), (3, .l (.d (.int .i64 w16.2.2))), (4, .l (.d (.int .i64 w20.2.2)))], 17⟩, ⟨[(21, .l (.mfn 46 12)), (20, .l (.own 1006)), (17, .l (.d (.bool true))), (0, .l (.ptr 12 0)), (1, .l (.mfn 46 12)), (5, .l (.own 1006)), (6, .l (.d (.int .i64 v13.2.2.2))), (17, .l (.d (.bool w14)))], 26⟩, ⟨[(34, .l (.mfn 46 12)), (33, .l (.ptr 12 0)), (32, .l (.ptr 12 0)), (13, .l (.d (.bool false))), (0, .l (.d (.sl (a0.map (eI .u8))))), (2, .l (.ptr 3 0)), (5, .l (.ptr 12 0)), (12, .l (.d (.int .i64 v1.2.2))), (13, .l (.d (.bool (decide (v1.2.2 < (3 : Int))))))], 74⟩], [(3, [.nil, .nil]), (12, [.d (.sl (a0.map (eI .u8))), .d (.int .i64 w25.1), .d (.int .i64 w25.2.1)]), (2003, [.d (.int .i64 (0 : Int)), .d (.int .i64 (0 : Int)), .nil])], [(1006, 121, 3, v13.2.2.1.map Part.enc)]⟩) h (fun k25 hk25 h => ?_) (fun w25 h => ?_)
          · conv => whnf
            refine inS (fn := Tryz.f44) tab ⟨[(0, [0]), (1, [0, 19]), (2, [0]), (3, [0, 27]), (4, [2]), (5, [0]), (6, [2])], [], [100019, 3], []⟩ 47 [.tmp 2] rfl rfl rfl rfl rfl rfl ?_
            conv => whnf
            refine jnS (fun w26 => ⟨[(0, .l (.ptr 12 0))], 47, [⟨[(7, .l (.ptr 12 0)), (0, .l (.ptr 12 0)), (1, .l (.mfn 67 12)), (5, .l .nil)], 26⟩, ⟨[(14, .l (.mfn 67 12)), (13, .l (.ptr 12 0)), (12, .l (.ptr 12 0)), (11, .agg [.d (.int .i64 w16.2.2), .d (.int .i64 w20.2.2)]), (10, .l (.d (.int .i64 w20.2.2))), (9, .l (.d (.int .i64 w16.2.2))), (0, .l (.ptr 12 0)), (2, .l (.ptr 2003 0)), (3, .l (.d (.int .i64 w16.2.2))), (4, .l (.d (.int .i64 w20.2.2)))], 17⟩, ⟨[(21, .l (.mfn 46 12)), (20, .l (.own 1006)), (17, .l (.d (.bool true))), (0, .l (.ptr 12 0)), (1, .l (.mfn 46 12)), (5, .l (.own 1006)), (6, .l (.d (.int .i64 v13.2.2.2))), (17, .l (.d (.bool w14)))], 26⟩, ⟨[(34, .l (.mfn 46 12)), (33, .l (.ptr 12 0)), (32, .l (.ptr 12 0)), (13, .l (.d (.bool false))), (0, .l (.d (.sl (a0.map (eI .u8))))), (2, .l (.ptr 3 0)), (5, .l (.ptr 12 0)), (12, .l (.d (.int .i64 v1.2.2))), (13, .l (.d (.bool (decide (v1.2.2 < (3 : Int))))))], 74⟩], [(3, [.nil, .nil]), (12, [.d (.sl (a0.map (eI .u8))), .d (.int .i64 w20.1), .d (.int .i64 w26)]), (2003, [.d (.int .i64 (0 : Int)), .d (.int .i64 (0 : Int)), .nil])], [(1006, 121, 3, v13.2.2.1.map Part.enc)]⟩) h (fun k26 hk26 h => ?_) (fun w26 h => ?_)
            · conv => whnf
              refine jnS (fun w27 => ⟨[(0, .l (.ptr 12 0)), (19, .l (.d (.bool w27)))], 47, [⟨[(7, .l (.ptr 12 0)), (0, .l (.ptr 12 0)), (1, .l (.mfn 67 12)), (5, .l .nil)], 26⟩, ⟨[(14, .l (.mfn 67 12)), (13, .l (.ptr 12 0)), (12, .l (.ptr 12 0)), (11, .agg [.d (.int .i64 w16.2.2), .d (.int .i64 w20.2.2)]), (10, .l (.d (.int .i64 w20.2.2))), (9, .l (.d (.int .i64 w16.2.2))), (0, .l (.ptr 12 0)), (2, .l (.ptr 2003 0)), (3, .l (.d (.int .i64 w16.2.2))), (4, .l (.d (.int .i64 w20.2.2)))], 17⟩, ⟨[(21, .l (.mfn 46 12)), (20, .l (.own 1006)), (17, .l (.d (.bool true))), (0, .l (.ptr 12 0)), (1, .l (.mfn 46 12)), (5, .l (.own 1006)), (6, .l (.d (.int .i64 v13.2.2.2))), (17, .l (.d (.bool w14)))], 26⟩, ⟨[(34, .l (.mfn 46 12)), (33, .l (.ptr 12 0)), (32, .l (.ptr 12 0)), (13, .l (.d (.bool false))), (0, .l (.d (.sl (a0.map (eI .u8))))), (2, .l (.ptr 3 0)), (5, .l (.ptr 12 0)), (12, .l (.d (.int .i64 v1.2.2))), (13, .l (.d (.bool (decide (v1.2.2 < (3 : Int))))))], 74⟩], [(3, [.nil, .nil]), (12, [.d (.sl (a0.map (eI .u8))), .d (.int .i64 w20.1), .d (.int .i64 w20.2.1)]), (2003, [.d (.int .i64 (0 : Int)), .d (.int .i64 (0 : Int)), .nil])], [(1006, 121, 3, v13.2.2.1.map Part.enc)]⟩) h (fun k27 hk27 h => ?_) (fun w27 h => ?_)
              · conv => whnf
                refine ⟨17, ?_⟩
                conv => whnf
                refine fkS h (fun h => ?_) (fun h => ?_)
                · conv => whnf
                  refine lenS a0 (eI .u8) rfl ?_
                  conv => whnf
                  refine drS (by kernel_rfl) ?_
                  conv => whnf
                  exact jeS hk27 h (Weak.refl _)
                conv => whnf
                refine drS (by kernel_rfl) ?_
                conv => whnf
                exact jeS hk27 h (Weak.refl _)
              conv => whnf
              refine fkS h (fun h => ?_) (fun h => ?_)
              · conv => whnf
                exact jeS hk26 h (Weak.refl _)
              conv => whnf
              refine jeX hk26 h ?_
              conv => whnf
              refine WkF.step (Weak.keepS _ [0]) ?_
              conv => whnf
              exact WkF.refl _
            conv => whnf
            refine fkS h (fun h => ?_) (fun h => ?_)
            · conv => whnf
              exact jeS hk25 h (Weak.refl _)
            conv => whnf
            refine ⟨9, ?_⟩
            conv => whnf
            refine drS (by kernel_rfl) ?_
            conv => whnf
            refine ixS (enc := (eI .u8)) h rfl (fun _ => rfl) (fun x28 h => ?_)
            conv => whnf
            exact jeS hk25 h (Weak.refl _)
          conv => whnf
          refine lpS (fun v29 => ⟨[(0, .l (.ptr 12 0)), (1, .l (.mfn 67 12)), (5, .l (.own 3006)), (6, .l (.d (.int .i64 v29.2.2.2)))], 26, [⟨[(14, .l (.mfn 67 12)), (13, .l (.ptr 12 0)), (12, .l (.ptr 12 0)), (11, .agg [.d (.int .i64 w16.2.2), .d (.int .i64 w20.2.2)]), (10, .l (.d (.int .i64 w20.2.2))), (9, .l (.d (.int .i64 w16.2.2))), (0, .l (.ptr 12 0)), (2, .l (.ptr 2003 0)), (3, .l (.d (.int .i64 w16.2.2))), (4, .l (.d (.int .i64 w20.2.2)))], 17⟩, ⟨[(21, .l (.mfn 46 12)), (20, .l (.own 1006)), (17, .l (.d (.bool true))), (0, .l (.ptr 12 0)), (1, .l (.mfn 46 12)), (5, .l (.own 1006)), (6, .l (.d (.int .i64 v13.2.2.2))), (17, .l (.d (.bool w14)))], 26⟩, ⟨[(34, .l (.mfn 46 12)), (33, .l (.ptr 12 0)), (32, .l (.ptr 12 0)), (13, .l (.d (.bool false))), (0, .l (.d (.sl (a0.map (eI .u8))))), (2, .l (.ptr 3 0)), (5, .l (.ptr 12 0)), (12, .l (.d (.int .i64 v1.2.2))), (13, .l (.d (.bool (decide (v1.2.2 < (3 : Int))))))], 74⟩], [(3, [.nil, .nil]), (12, [.d (.sl (a0.map (eI .u8))), .d (.int .i64 v29.1), .d (.int .i64 v29.2.1)]), (2003, [.d (.int .i64 (0 : Int)), .d (.int .i64 (0 : Int)), .nil])], [(1006, 121, 3, v13.2.2.1.map Part.enc), (3006, 53, 4, v29.2.2.1.map Task.enc)]⟩) h (Weak.trans (Weak.nilO _ 5 3006 53 4 rfl) (Weak.refl _)) (fun _ nx29 hn29 v29 h => ?_)
          conv => whnf
          refine jnS (fun w30 => ⟨[(0, .l (.ptr 12 0)), (1, .l (.mfn 67 12)), (5, .l (.own 3006)), (6, .l (.d (.int .i64 v29.2.2.2))), (17, .l (.d (.bool w30)))], 26, [⟨[(14, .l (.mfn 67 12)), (13, .l (.ptr 12 0)), (12, .l (.ptr 12 0)), (11, .agg [.d (.int .i64 w16.2.2), .d (.int .i64 w20.2.2)]), (10, .l (.d (.int .i64 w20.2.2))), (9, .l (.d (.int .i64 w16.2.2))), (0, .l (.ptr 12 0)), (2, .l (.ptr 2003 0)), (3, .l (.d (.int .i64 w16.2.2))), (4, .l (.d (.int .i64 w20.2.2)))], 17⟩, ⟨[(21, .l (.mfn 46 12)), (20, .l (.own 1006)), (17, .l (.d (.bool true))), (0, .l (.ptr 12 0)), (1, .l (.mfn 46 12)), (5, .l (.own 1006)), (6, .l (.d (.int .i64 v13.2.2.2))), (17, .l (.d (.bool w14)))], 26⟩, ⟨[(34, .l (.mfn 46 12)), (33, .l (.ptr 12 0)), (32, .l (.ptr 12 0)), (13, .l (.d (.bool false))), (0, .l (.d (.sl (a0.map (eI .u8))))), (2, .l (.ptr 3 0)), (5, .l (.ptr 12 0)), (12, .l (.d (.int .i64 v1.2.2))), (13, .l (.d (.bool (decide (v1.2.2 < (3 : Int))))))], 74⟩], [(3, [.nil, .nil]), (12, [.d (.sl (a0.map (eI .u8))), .d (.int .i64 v29.1), .d (.int .i64 v29.2.1)]), (2003, [.d (.int .i64 (0 : Int)), .d (.int .i64 (0 : Int)), .nil])], [(1006, 121, 3, v13.2.2.1.map Part.enc), (3006, 53, 4, v29.2.2.1.map Task.enc)]⟩) h (fun k30 hk30 h => ?_) (fun w30 h => ?_)
          · conv => whnf
            refine fkS h (fun h => ?_) (fun h => ?_)
            · conv => whnf
              exact jeS hk30 h (Weak.refl _)
            conv => whnf
            exact jeS hk30 h (Weak.refl _)
          conv => whnf
          refine fkS h (fun h => ?_) (fun h => ?_)
          · conv => whnf
            refine inJ (fun w31 => ⟨[(22, .agg [.d (.int .i64 w31.2.2.2.1), .d (.int .i64 w31.2.2.2.2.1), .d (.int .i64 w31.2.2.2.2.2), .own 403023]), (21, .l (.mfn 67 12)), (20, .l (.own 3006)), (17, .l (.d (.bool true))), (0, .l (.ptr 12 0)), (1, .l (.mfn 67 12)), (5, .l (.own 3006)), (6, .l (.d (.int .i64 v29.2.2.2)))], 26, [⟨[(14, .l (.mfn 67 12)), (13, .l (.ptr 12 0)), (12, .l (.ptr 12 0)), (11, .agg [.d (.int .i64 w16.2.2), .d (.int .i64 w20.2.2)]), (10, .l (.d (.int .i64 w20.2.2))), (9, .l (.d (.int .i64 w16.2.2))), (0, .l (.ptr 12 0)), (2, .l (.ptr 2003 0)), (3, .l (.d (.int .i64 w16.2.2))), (4, .l (.d (.int .i64 w20.2.2)))], 17⟩, ⟨[(21, .l (.mfn 46 12)), (20, .l (.own 1006)), (17, .l (.d (.bool true))), (0, .l (.ptr 12 0)), (1, .l (.mfn 46 12)), (5, .l (.own 1006)), (6, .l (.d (.int .i64 v13.2.2.2))), (17, .l (.d (.bool w14)))], 26⟩, ⟨[(34, .l (.mfn 46 12)), (33, .l (.ptr 12 0)), (32, .l (.ptr 12 0)), (13, .l (.d (.bool false))), (0, .l (.d (.sl (a0.map (eI .u8))))), (2, .l (.ptr 3 0)), (5, .l (.ptr 12 0)), (12, .l (.d (.int .i64 v1.2.2))), (13, .l (.d (.bool (decide (v1.2.2 < (3 : Int))))))], 74⟩], [(3, [.nil, .nil]), (12, [.d (.sl (a0.map (eI .u8))), .d (.int .i64 w31.1), .d (.int .i64 w31.2.1)]), (2003, [.d (.int .i64 (0 : Int)), .d (.int .i64 (0 : Int)), .nil])], [(1006, 121, 3, v13.2.2.1.map Part.enc), (3006, 53, 4, v29.2.2.1.map Task.enc), (403023, 142, 3, w31.2.2.1.map Sec.enc)]⟩) h (fun k31 hk31 h => ?_) (fun w31 h => ?_)
            · conv => whnf
              refine inS (fn := Tryz.f67) tab ⟨[(0, [0, 2]), (1, [0, 2, 3, 4, 5]), (2, [2])], [], [], []⟩ 20 [.cell 2 53] rfl rfl rfl rfl rfl rfl ?_
              conv => whnf
              refine inJ (fun w32 => ⟨[(7, .l (.d (.int .i64 w32.2.2))), (6, .l (.ptr 12 0)), (0, .l (.ptr 12 0)), (2, .l (.ptr 4003 0))], 20, [⟨[(21, .l (.mfn 67 12)), (20, .l (.own 3006)), (17, .l (.d (.bool true))), (0, .l (.ptr 12 0)), (1, .l (.mfn 67 12)), (5, .l (.own 3006)), (6, .l (.d (.int .i64 v29.2.2.2))), (17, .l (.d (.bool w30)))], 26⟩, ⟨[(14, .l (.mfn 67 12)), (13, .l (.ptr 12 0)), (12, .l (.ptr 12 0)), (11, .agg [.d (.int .i64 w16.2.2), .d (.int .i64 w20.2.2)]), (10, .l (.d (.int .i64 w20.2.2))), (9, .l (.d (.int .i64 w16.2.2))), (0, .l (.ptr 12 0)), (2, .l (.ptr 2003 0)), (3, .l (.d (.int .i64 w16.2.2))), (4, .l (.d (.int .i64 w20.2.2)))], 17⟩, ⟨[(21, .l (.mfn 46 12)), (20, .l (.own 1006)), (17, .l (.d (.bool true))), (0, .l (.ptr 12 0)), (1, .l (.mfn 46 12)), (5, .l (.own 1006)), (6, .l (.d (.int .i64 v13.2.2.2))), (17, .l (.d (.bool w14)))], 26⟩, ⟨[(34, .l (.mfn 46 12)), (33, .l (.ptr 12 0)), (32, .l (.ptr 12 0)), (13, .l (.d (.bool false))), (0, .l (.d (.sl (a0.map (eI .u8))))), (2, .l (.ptr 3 0)), (5, .l (.ptr 12 0)), (12, .l (.d (.int .i64 v1.2.2))), (13, .l (.d (.bool (decide (v1.2.2 < (3 : Int))))))], 74⟩], [(3, [.nil, .nil]), (12, [.d (.sl (a0.map (eI .u8))), .d (.int .i64 w32.1), .d (.int .i64 w32.2.1)]), (2003, [.d (.int .i64 (0 : Int)), .d (.int .i64 (0 : Int)), .nil]), (4003, [.d (.int .i64 (0 : Int)), .d (.int .i64 (0 : Int)), .d (.int .i64 (0 : Int)), .nil])], [(1006, 121, 3, v13.2.2.1.map Part.enc), (3006, 53, 4, v29.2.2.1.map Task.enc)]⟩) h (fun k32 hk32 h => ?_) (fun w32 h => ?_)
              · conv => whnf
                refine inS (fn := Tryz.f44) tab ⟨[(0, [0]), (1, [0, 19]), (2, [0]), (3, [0, 27]), (4, [2]), (5, [0]), (6, [2])], [], [100019, 3], []⟩ 47 [.tmp 2] rfl rfl rfl rfl rfl rfl ?_
                conv => whnf
                refine jnS (fun w33 => ⟨[(0, .l (.ptr 12 0))], 47, [⟨[(6, .l (.ptr 12 0)), (0, .l (.ptr 12 0)), (2, .l (.ptr 4003 0))], 20⟩, ⟨[(21, .l (.mfn 67 12)), (20, .l (.own 3006)), (17, .l (.d (.bool true))), (0, .l (.ptr 12 0)), (1, .l (.mfn 67 12)), (5, .l (.own 3006)), (6, .l (.d (.int .i64 v29.2.2.2))), (17, .l (.d (.bool w30)))], 26⟩, ⟨[(14, .l (.mfn 67 12)), (13, .l (.ptr 12 0)), (12, .l (.ptr 12 0)), (11, .agg [.d (.int .i64 w16.2.2), .d (.int .i64 w20.2.2)]), (10, .l (.d (.int .i64 w20.2.2))), (9, .l (.d (.int .i64 w16.2.2))), (0, .l (.ptr 12 0)), (2, .l (.ptr 2003 0)), (3, .l (.d (.int .i64 w16.2.2))), (4, .l (.d (.int .i64 w20.2.2)))], 17⟩, ⟨[(21, .l (.mfn 46 12)), (20, .l (.own 1006)), (17, .l (.d (.bool true))), (0, .l (.ptr 12 0)), (1, .l (.mfn 46 12)), (5, .l (.own 1006)), (6, .l (.d (.int .i64 v13.2.2.2))), (17, .l (.d (.bool w14)))], 26⟩, ⟨[(34, .l (.mfn 46 12)), (33, .l (.ptr 12 0)), (32, .l (.ptr 12 0)), (13, .l (.d (.bool false))), (0, .l (.d (.sl (a0.map (eI .u8))))), (2, .l (.ptr 3 0)), (5, .l (.ptr 12 0)), (12, .l (.d (.int .i64 v1.2.2))), (13, .l (.d (.bool (decide (v1.2.2 < (3 : Int))))))], 74⟩], [(3, [.nil, .nil]), (12, [.d (.sl (a0.map (eI .u8))), .d (.int .i64 v29.1), .d (.int .i64 w33)]), (2003, [.d (.int .i64 (0 : Int)), .d (.int .i64 (0 : Int)), .nil]), (4003, [.d (.int .i64 (0 : Int)), .d (.int .i64 (0 : Int)), .d (.int .i64 (0 : Int)), .nil])], [(1006, 121, 3, v13.2.2.1.map Part.enc), (3006, 53, 4, v29.2.2.1.map Task.enc)]⟩) h (fun k33 hk33 h => ?_) (fun w33 h => ?_)
                · conv => whnf
                  refine jnS (fun w34 => ⟨[(0, .l (.ptr 12 0)), (19, .l (.d (.bool w34)))], 47, [⟨[(6, .l (.ptr 12 0)), (0, .l (.ptr 12 0)), (2, .l (.ptr 4003 0))], 20⟩, ⟨[(21, .l (.mfn 67 12)), (20, .l (.own 3006)), (17, .l (.d (.bool true))), (0, .l (.ptr 12 0)), (1, .l (.mfn 67 12)), (5, .l (.own 3006)), (6, .l (.d (.int .i64 v29.2.2.2))), (17, .l (.d (.bool w30)))], 26⟩, ⟨[(14, .l (.mfn 67 12)), (13, .l (.ptr 12 0)), (12, .l (.ptr 12 0)), (11, .agg [.d (.int .i64 w16.2.2), .d (.int .i64 w20.2.2)]), (10, .l (.d (.int .i64 w20.2.2))), (9, .l (.d (.int .i64 w16.2.2))), (0, .l (.ptr 12 0)), (2, .l (.ptr 2003 0)), (3, .l (.d (.int .i64 w16.2.2))), (4, .l (.d (.int .i64 w20.2.2)))], 17⟩, ⟨[(21, .l (.mfn 46 12)), (20, .l (.own 1006)), (17, .l (.d (.bool true))), (0, .l (.ptr 12 0)), (1, .l (.mfn 46 12)), (5, .l (.own 1006)), (6, .l (.d (.int .i64 v13.2.2.2))), (17, .l (.d (.bool w14)))], 26⟩, ⟨[(34, .l (.mfn 46 12)), (33, .l (.ptr 12 0)), (32, .l (.ptr 12 0)), (13, .l (.d (.bool false))), (0, .l (.d (.sl (a0.map (eI .u8))))), (2, .l (.ptr 3 0)), (5, .l (.ptr 12 0)), (12, .l (.d (.int .i64 v1.2.2))), (13, .l (.d (.bool (decide (v1.2.2 < (3 : Int))))))], 74⟩], [(3, [.nil, .nil]), (12, [.d (.sl (a0.map (eI .u8))), .d (.int .i64 v29.1), .d (.int .i64 v29.2.1)]), (2003, [.d (.int .i64 (0 : Int)), .d (.int .i64 (0 : Int)), .nil]), (4003, [.d (.int .i64 (0 : Int)), .d (.int .i64 (0 : Int)), .d (.int .i64 (0 : Int)), .nil])], [(1006, 121, 3, v13.2.2.1.map Part.enc), (3006, 53, 4, v29.2.2.1.map Task.enc)]⟩) h (fun k34 hk34 h => ?_) (fun w34 h => ?_)
                  · conv => whnf
                    refine ⟨17, ?_⟩
                    conv => whnf
                    refine fkS h (fun h => ?_) (fun h => ?_)
                    · conv => whnf
                      refine lenS a0 (eI .u8) rfl ?_
                      conv => whnf
                      refine drS (by kernel_rfl) ?_
                      conv => whnf
                      exact jeS hk34 h (Weak.refl _)
                    conv => whnf
                    refine drS (by kernel_rfl) ?_
                    conv => whnf
                    exact jeS hk34 h (Weak.refl _)
                  conv => whnf
                  refine fkS h (fun h => ?_) (fun h => ?_)
                  · conv => whnf
                    exact jeS hk33 h (Weak.refl _)
                  conv => whnf
                  refine jeX hk33 h ?_
                  conv => whnf
                  refine WkF.step (Weak.keepS _ [0]) ?_
                  conv => whnf
                  exact WkF.refl _
                conv => whnf
                refine fkS h (fun h => ?_) (fun h => ?_)
                · conv => whnf
                  exact jeS hk32 h (Weak.refl _)
                conv => whnf
                refine ⟨9, ?_⟩
                conv => whnf
                refine drS (by kernel_rfl) ?_
                conv => whnf
                refine ixS (enc := (eI .u8)) h rfl (fun _ => rfl) (fun x35 h => ?_)
                conv => whnf
                exact jeS hk32 h (Weak.refl _)
              conv => whnf
              refine inJ (fun w36 => ⟨[(9, .l (.d (.int .i64 w36.2.2))), (8, .l (.ptr 12 0)), (7, .l (.d (.int .i64 w32.2.2))), (6, .l (.ptr 12 0)), (0, .l (.ptr 12 0)), (2, .l (.ptr 4003 0))], 20, [⟨[(21, .l (.mfn 67 12)), (20, .l (.own 3006)), (17, .l (.d (.bool true))), (0, .l (.ptr 12 0)), (1, .l (.mfn 67 12)), (5, .l (.own 3006)), (6, .l (.d (.int .i64 v29.2.2.2))), (17, .l (.d (.bool w30)))], 26⟩, ⟨[(14, .l (.mfn 67 12)), (13, .l (.ptr 12 0)), (12, .l (.ptr 12 0)), (11, .agg [.d (.int .i64 w16.2.2), .d (.int .i64 w20.2.2)]), (10, .l (.d (.int .i64 w20.2.2))), (9, .l (.d (.int .i64 w16.2.2))), (0, .l (.ptr 12 0)), (2, .l (.ptr 2003 0)), (3, .l (.d (.int .i64 w16.2.2))), (4, .l (.d (.int .i64 w20.2.2)))], 17⟩, ⟨[(21, .l (.mfn 46 12)), (20, .l (.own 1006)), (17, .l (.d (.bool true))), (0, .l (.ptr 12 0)), (1, .l (.mfn 46 12)), (5, .l (.own 1006)), (6, .l (.d (.int .i64 v13.2.2.2))), (17, .l (.d (.bool w14)))], 26⟩, ⟨[(34, .l (.mfn 46 12)), (33, .l (.ptr 12 0)), (32, .l (.ptr 12 0)), (13, .l (.d (.bool false))), (0, .l (.d (.sl (a0.map (eI .u8))))), (2, .l (.ptr 3 0)), (5, .l (.ptr 12 0)), (12, .l (.d (.int .i64 v1.2.2))), (13, .l (.d (.bool (decide (v1.2.2 < (3 : Int))))))], 74⟩], [(3, [.nil, .nil]), (12, [.d (.sl (a0.map (eI .u8))), .d (.int .i64 w36.1), .d (.int .i64 w36.2.1)]), (2003, [.d (.int .i64 (0 : Int)), .d (.int .i64 (0 : Int)), .nil]), (4003, [.d (.int .i64 (0 : Int)), .d (.int .i64 (0 : Int)), .d (.int .i64 (0 : Int)), .nil])], [(1006, 121, 3, v13.2.2.1.map Part.enc), (3006, 53, 4, v29.2.2.1.map Task.enc)]⟩) h (fun k36 hk36 h => ?_) (fun w36 h => ?_)
              · conv => whnf
                refine inS (fn := Tryz.f44) tab ⟨[(0, [0]), (1, [0, 19]), (2, [0]), (3, [0, 27]), (4, [2]), (5, [0]), (6, [2])], [], [100019, 3], []⟩ 47 [.tmp 2] rfl rfl rfl rfl rfl rfl ?_
                conv => whnf
                refine jnS (fun w37 => ⟨[(0, .l (.ptr 12 0))], 47, [⟨[(8, .l (.ptr 12 0)), (7, .l (.d (.int .i64 w32.2.2))), (6, .l (.ptr 12 0)), (0, .l (.ptr 12 0)), (2, .l (.ptr 4003 0))], 20⟩, ⟨[(21, .l (.mfn 67 12)), (20, .l (.own 3006)), (17, .l (.d (.bool true))), (0, .l (.ptr 12 0)), (1, .l (.mfn 67 12)), (5, .l (.own 3006)), (6, .l (.d (.int .i64 v29.2.2.2))), (17, .l (.d (.bool w30)))], 26⟩, ⟨[(14, .l (.mfn 67 12)), (13, .l (.ptr 12 0)), (12, .l (.ptr 12 0)), (11, .agg [.d (.int .i64 w16.2.2), .d (.int .i64 w20.2.2)]), (10, .l (.d (.int .i64 w20.2.2))), (9, .l (.d (.int .i64 w16.2.2))), (0, .l (.ptr 12 0)), (2, .l (.ptr 2003 0)), (3, .l (.d (.int .i64 w16.2.2))), (4, .l (.d (.int .i64 w20.2.2)))], 17⟩, ⟨[(21, .l (.mfn 46 12)), (20, .l (.own 1006)), (17, .l (.d (.bool true))), (0, .l (.ptr 12 0)), (1, .l (.mfn 46 12)), (5, .l (.own 1006)), (6, .l (.d (.int .i64 v13.2.2.2))), (17, .l (.d (.bool w14)))], 26⟩, ⟨[(34, .l (.mfn 46 12)), (33, .l (.ptr 12 0)), (32, .l (.ptr 12 0)), (13, .l (.d (.bool false))), (0, .l (.d (.sl (a0.map (eI .u8))))), (2, .l (.ptr 3 0)), (5, .l (.ptr 12 0)), (12, .l (.d (.int .i64 v1.2.2))), (13, .l (.d (.bool (decide (v1.2.2 < (3 : Int))))))], 74⟩], [(3, [.nil, .nil]), (12, [.d (.sl (a0.map (eI .u8))), .d (.int .i64 w32.1), .d (.int .i64 w37)]), (2003, [.d (.int .i64 (0 : Int)), .d (.int .i64 (0 : Int)), .nil]), (4003, [.d (.int .i64 (0 : Int)), .d (.int .i64 (0 : Int)), .d (.int .i64 (0 : Int)), .nil])], [(1006, 121, 3, v13.2.2.1.map Part.enc), (3006, 53, 4, v29.2.2.1.map Task.enc)]⟩) h (fun k37 hk37 h => ?_) (fun w37 h => ?_)
                · conv => whnf
                  refine jnS (fun w38 => ⟨[(0, .l (.ptr 12 0)), (19, .l (.d (.bool w38)))], 47, [⟨[(8, .l (.ptr 12 0)), (7, .l (.d (.int .i64 w32.2.2))), (6, .l (.ptr 12 0)), (0, .l (.ptr 12 0)), (2, .l (.ptr 4003 0))], 20⟩, ⟨[(21, .l (.mfn 67 12)), (20, .l (.own 3006)), (17, .l (.d (.bool true))), (0, .l (.ptr 12 0)), (1, .l (.mfn 67 12)), (5, .l (.own 3006)), (6, .l (.d (.int .i64 v29.2.2.2))), (17, .l (.d (.bool w30)))], 26⟩, ⟨[(14, .l (.mfn 67 12)), (13, .l (.ptr 12 0)), (12, .l (.ptr 12 0)), (11, .agg [.d (.int .i64 w16.2.2), .d (.int .i64 w20.2.2)]), (10, .l (.d (.int .i64 w20.2.2))), (9, .l (.d (.int .i64 w16.2.2))), (0, .l (.ptr 12 0)), (2, .l (.ptr 2003 0)), (3, .l (.d (.int .i64 w16.2.2))), (4, .l (.d (.int .i64 w20.2.2)))], 17⟩, ⟨[(21, .l (.mfn 46 12)), (20, .l (.own 1006)), (17, .l (.d (.bool true))), (0, .l (.ptr 12 0)), (1, .l (.mfn 46 12)), (5, .l (.own 1006)), (6, .l (.d (.int .i64 v13.2.2.2))), (17, .l (.d (.bool w14)))], 26⟩, ⟨[(34, .l (.mfn 46 12)), (33, .l (.ptr 12 0)), (32, .l (.ptr 12 0)), (13, .l (.d (.bool false))), (0, .l (.d (.sl (a0.map (eI .u8))))), (2, .l (.ptr 3 0)), (5, .l (.ptr 12 0)), (12, .l (.d (.int .i64 v1.2.2))), (13, .l (.d (.bool (decide (v1.2.2 < (3 : Int))))))], 74⟩], [(3, [.nil, .nil]), (12, [.d (.sl (a0.map (eI .u8))), .d (.int .i64 w32.1), .d (.int .i64 w32.2.1)]), (2003, [.d (.int .i64 (0 : Int)), .d (.int .i64 (0 : Int)), .nil]), (4003, [.d (.int .i64 (0 : Int)), .d (.int .i64 (0 : Int)), .d (.int .i64 (0 : Int)), .nil])], [(1006, 121, 3, v13.2.2.1.map Part.enc), (3006, 53, 4, v29.2.2.1.map Task.enc)]⟩) h (fun k38 hk38 h => ?_) (fun w38 h => ?_)
                  · conv => whnf
                    refine ⟨17, ?_⟩
                    conv => whnf
                    refine fkS h (fun h => ?_) (fun h => ?_)
                    · conv => whnf
                      refine lenS a0 (eI .u8) rfl ?_
                      conv => whnf
                      refine drS (by kernel_rfl) ?_
                      conv => whnf
                      exact jeS hk38 h (Weak.refl _)
                    conv => whnf
                    refine drS (by kernel_rfl) ?_
                    conv => whnf
                    exact jeS hk38 h (Weak.refl _)
                  conv => whnf
                  refine fkS h (fun h => ?_) (fun h => ?_)
                  · conv => whnf
                    exact jeS hk37 h (Weak.refl _)
                  conv => whnf
                  refine jeX hk37 h ?_
                  conv => whnf
                  refine WkF.step (Weak.keepS _ [0]) ?_
                  conv => whnf
                  exact WkF.refl _
                conv => whnf
                refine fkS h (fun h => ?_) (fun h => ?_)
                · conv => whnf
                  exact jeS hk36 h (Weak.refl _)
                conv => whnf
                refine ⟨9, ?_⟩
                conv => whnf
                refine drS (by kernel_rfl) ?_
                conv => whnf
                refine ixS (enc := (eI .u8)) h rfl (fun _ => rfl) (fun x39 h => ?_)
                conv => whnf
                exact jeS hk36 h (Weak.refl _)
              conv => whnf
              refine inJ (fun w40 => ⟨[(11, .l (.d (.int .i64 w40.2.2))), (10, .l (.ptr 12 0)), (9, .l (.d (.int .i64 w36.2.2))), (8, .l (.ptr 12 0)), (7, .l (.d (.int .i64 w32.2.2))), (6, .l (.ptr 12 0)), (0, .l (.ptr 12 0)), (2, .l (.ptr 4003 0))], 20, [⟨[(21, .l (.mfn 67 12)), (20, .l (.own 3006)), (17, .l (.d (.bool true))), (0, .l (.ptr 12 0)), (1, .l (.mfn 67 12)), (5, .l (.own 3006)), (6, .l (.d (.int .i64 v29.2.2.2))), (17, .l (.d (.bool w30)))], 26⟩, ⟨[(14, .l (.mfn 67 12)), (13, .l (.ptr 12 0)), (12, .l (.ptr 12 0)), (11, .agg [.d (.int .i64 w16.2.2), .d (.int .i64 w20.2.2)]), (10, .l (.d (.int .i64 w20.2.2))), (9, .l (.d (.int .i64 w16.2.2))), (0, .l (.ptr 12 0)), (2, .l (.ptr 2003 0)), (3, .l (.d (.int .i64 w16.2.2))), (4, .l (.d (.int .i64 w20.2.2)))], 17⟩, ⟨[(21, .l (.mfn 46 12)), (20, .l (.own 1006)), (17, .l (.d (.bool true))), (0, .l (.ptr 12 0)), (1, .l (.mfn 46 12)), (5, .l (.own 1006)), (6, .l (.d (.int .i64 v13.2.2.2))), (17, .l (.d (.bool w14)))], 26⟩, ⟨[(34, .l (.mfn 46 12)), (33, .l (.ptr 12 0)), (32, .l (.ptr 12 0)), (13, .l (.d (.bool false))), (0, .l (.d (.sl (a0.map (eI .u8))))), (2, .l (.ptr 3 0)), (5, .l (.ptr 12 0)), (12, .l (.d (.int .i64 v1.2.2))), (13, .l (.d (.bool (decide (v1.2.2 < (3 : Int))))))], 74⟩], [(3, [.nil, .nil]), (12, [.d (.sl (a0.map (eI .u8))), .d (.int .i64 w40.1), .d (.int .i64 w40.2.1)]), (2003, [.d (.int .i64 (0 : Int)), .d (.int .i64 (0 : Int)), .nil]), (4003, [.d (.int .i64 (0 : Int)), .d (.int .i64 (0 : Int)), .d (.int .i64 (0 : Int)), .nil])], [(1006, 121, 3, v13.2.2.1.map Part.enc), (3006, 53, 4, v29.2.2.1.map Task.enc)]⟩) h (fun k40 hk40 h => ?_) (fun w40 h => ?_)
              · conv => whnf
                refine inS (fn := Tryz.f44) tab ⟨[(0, [0]), (1, [0, 19]), (2, [0]), (3, [0, 27]), (4, [2]), (5, [0]), (6, [2])], [], [100019, 3], []⟩ 47 [.tmp 2] rfl rfl rfl rfl rfl rfl ?_
                conv => whnf
                refine jnS (fun w41 => ⟨[(0, .l (.ptr 12 0))], 47, [⟨[(10, .l (.ptr 12 0)), (9, .l (.d (.int .i64 w36.2.2))), (8, .l (.ptr 12 0)), (7, .l (.d (.int .i64 w32.2.2))), (6, .l (.ptr 12 0)), (0, .l (.ptr 12 0)), (2, .l (.ptr 4003 0))], 20⟩, ⟨[(21, .l (.mfn 67 12)), (20, .l (.own 3006)), (17, .l (.d (.bool true))), (0, .l (.ptr 12 0)), (1, .l (.mfn 67 12)), (5, .l (.own 3006)), (6, .l (.d (.int .i64 v29.2.2.2))), (17, .l (.d (.bool w30)))], 26⟩, ⟨[(14, .l (.mfn 67 12)), (13, .l (.ptr 12 0)), (12, .l (.ptr 12 0)), (11, .agg [.d (.int .i64 w16.2.2), .d (.int .i64 w20.2.2)]), (10, .l (.d (.int .i64 w20.2.2))), (9, .l (.d (.int .i64 w16.2.2))), (0, .l (.ptr 12 0)), (2, .l (.ptr 2003 0)), (3, .l (.d (.int .i64 w16.2.2))), (4, .l (.d (.int .i64 w20.2.2)))], 17⟩, ⟨[(21, .l (.mfn 46 12)), (20, .l (.own 1006)), (17, .l (.d (.bool true))), (0, .l (.ptr 12 0)), (1, .l (.mfn 46 12)), (5, .l (.own 1006)), (6, .l (.d (.int .i64 v13.2.2.2))), (17, .l (.d (.bool w14)))], 26⟩, ⟨[(34, .l (.mfn 46 12)), (33, .l (.ptr 12 0)), (32, .l (.ptr 12 0)), (13, .l (.d (.bool false))), (0, .l (.d (.sl (a0.map (eI .u8))))), (2, .l (.ptr 3 0)), (5, .l (.ptr 12 0)), (12, .l (.d (.int .i64 v1.2.2))), (13, .l (.d (.bool (decide (v1.2.2 < (3 : Int))))))], 74⟩], [(3, [.nil, .nil]), (12, [.d (.sl (a0.map (eI .u8))), .d (.int .i64 w36.1), .d (.int .i64 w41)]), (2003, [.d (.int .i64 (0 : Int)), .d (.int .i64 (0 : Int)), .nil]), (4003, [.d (.int .i64 (0 : Int)), .d (.int .i64 (0 : Int)), .d (.int .i64 (0 : Int)), .nil])], [(1006, 121, 3, v13.2.2.1.map Part.enc), (3006, 53, 4, v29.2.2.1.map Task.enc)]⟩) h (fun k41 hk41 h => ?_) (fun w41 h => ?_)
                · conv => whnf
                  refine jnS (fun w42 => ⟨[(0, .l (.ptr 12 0)), (19, .l (.d (.bool w42)))], 47, [⟨[(10, .l (.ptr 12 0)), (9, .l (.d (.int .i64 w36.2.2))), (8, .l (.ptr 12 0)), (7, .l (.d (.int .i64 w32.2.2))), (6, .l (.ptr 12 0)), (0, .l (.ptr 12 0)), (2, .l (.ptr 4003 0))], 20⟩, ⟨[(21, .l (.mfn 67 12)), (20, .l (.own 3006)), (17, .l (.d (.bool true))), (0, .l (.ptr 12 0)), (1, .l (.mfn 67 12)), (5, .l (.own 3006)), (6, .l (.d (.int .i64 v29.2.2.2))), (17, .l (.d (.bool w30)))], 26⟩, ⟨[(14, .l (.mfn 67 12)), (13, .l (.ptr 12 0)), (12, .l (.ptr 12 0)), (11, .agg [.d (.int .i64 w16.2.2), .d (.int .i64 w20.2.2)]), (10, .l (.d (.int .i64 w20.2.2))), (9, .l (.d (.int .i64 w16.2.2))), (0, .l (.ptr 12 0)), (2, .l (.ptr 2003 0)), (3, .l (.d (.int .i64 w16.2.2))), (4, .l (.d (.int .i64 w20.2.2)))], 17⟩, ⟨[(21, .l (.mfn 46 12)), (20, .l (.own 1006)), (17, .l (.d (.bool true))), (0, .l (.ptr 12 0)), (1, .l (.mfn 46 12)), (5, .l (.own 1006)), (6, .l (.d (.int .i64 v13.2.2.2))), (17, .l (.d (.bool w14)))], 26⟩, ⟨[(34, .l (.mfn 46 12)), (33, .l (.ptr 12 0)), (32, .l (.ptr 12 0)), (13, .l (.d (.bool false))), (0, .l (.d (.sl (a0.map (eI .u8))))), (2, .l (.ptr 3 0)), (5, .l (.ptr 12 0)), (12, .l (.d (.int .i64 v1.2.2))), (13, .l (.d (.bool (decide (v1.2.2 < (3 : Int))))))], 74⟩], [(3, [.nil, .nil]), (12, [.d (.sl (a0.map (eI .u8))), .d (.int .i64 w36.1), .d (.int .i64 w36.2.1)]), (2003, [.d (.int .i64 (0 : Int)), .d (.int .i64 (0 : Int)), .nil]), (4003, [.d (.int .i64 (0 : Int)), .d (.int .i64 (0 : Int)), .d (.int .i64 (0 : Int)), .nil])], [(1006, 121, 3, v13.2.2.1.map Part.enc), (3006, 53, 4, v29.2.2.1.map Task.enc)]⟩) h (fun k42 hk42 h => ?_) (fun w42 h => ?_)
                  · conv => whnf
                    refine ⟨17, ?_⟩
                    conv => whnf
                    refine fkS h (fun h => ?_) (fun h => ?_)
                    · conv => whnf
                      refine lenS a0 (eI .u8) rfl ?_
                      conv => whnf
                      refine drS (by kernel_rfl) ?_
                      conv => whnf
                      exact jeS hk42 h (Weak.refl _)
                    conv => whnf
                    refine drS (by kernel_rfl) ?_
                    conv => whnf
                    exact jeS hk42 h (Weak.refl _)
                  conv => whnf
                  refine fkS h (fun h => ?_) (fun h => ?_)
                  · conv => whnf
                    exact jeS hk41 h (Weak.refl _)
                  conv => whnf
                  refine jeX hk41 h ?_
                  conv => whnf
                  refine WkF.step (Weak.keepS _ [0]) ?_
                  conv => whnf
                  exact WkF.refl _
                conv => whnf
                refine fkS h (fun h => ?_) (fun h => ?_)
                · conv => whnf
                  exact jeS hk40 h (Weak.refl _)
                conv => whnf
                refine ⟨9, ?_⟩
                conv => whnf
                refine drS (by kernel_rfl) ?_
                conv => whnf
                refine ixS (enc := (eI .u8)) h rfl (fun _ => rfl) (fun x43 h => ?_)
                conv => whnf
                exact jeS hk40 h (Weak.refl _)
              conv => whnf
              refine inJ (fun w44 => ⟨[(18, .l (.own 4019)), (17, .l (.mfn 103 12)), (16, .l (.ptr 12 0)), (15, .l (.ptr 12 0)), (14, .l (.d (.int .i64 w40.2.2))), (13, .l (.d (.int .i64 w36.2.2))), (12, .l (.d (.int .i64 w32.2.2))), (0, .l (.ptr 12 0)), (2, .l (.ptr 4003 0)), (3, .l (.d (.int .i64 w32.2.2))), (4, .l (.d (.int .i64 w36.2.2))), (5, .l (.d (.int .i64 w40.2.2)))], 20, [⟨[(21, .l (.mfn 67 12)), (20, .l (.own 3006)), (17, .l (.d (.bool true))), (0, .l (.ptr 12 0)), (1, .l (.mfn 67 12)), (5, .l (.own 3006)), (6, .l (.d (.int .i64 v29.2.2.2))), (17, .l (.d (.bool w30)))], 26⟩, ⟨[(14, .l (.mfn 67 12)), (13, .l (.ptr 12 0)), (12, .l (.ptr 12 0)), (11, .agg [.d (.int .i64 w16.2.2), .d (.int .i64 w20.2.2)]), (10, .l (.d (.int .i64 w20.2.2))), (9, .l (.d (.int .i64 w16.2.2))), (0, .l (.ptr 12 0)), (2, .l (.ptr 2003 0)), (3, .l (.d (.int .i64 w16.2.2))), (4, .l (.d (.int .i64 w20.2.2)))], 17⟩, ⟨[(21, .l (.mfn 46 12)), (20, .l (.own 1006)), (17, .l (.d (.bool true))), (0, .l (.ptr 12 0)), (1, .l (.mfn 46 12)), (5, .l (.own 1006)), (6, .l (.d (.int .i64 v13.2.2.2))), (17, .l (.d (.bool w14)))], 26⟩, ⟨[(34, .l (.mfn 46 12)), (33, .l (.ptr 12 0)), (32, .l (.ptr 12 0)), (13, .l (.d (.bool false))), (0, .l (.d (.sl (a0.map (eI .u8))))), (2, .l (.ptr 3 0)), (5, .l (.ptr 12 0)), (12, .l (.d (.int .i64 v1.2.2))), (13, .l (.d (.bool (decide (v1.2.2 < (3 : Int))))))], 74⟩], [(3, [.nil, .nil]), (12, [.d (.sl (a0.map (eI .u8))), .d (.int .i64 w44.1), .d (.int .i64 w44.2.1)]), (2003, [.d (.int .i64 (0 : Int)), .d (.int .i64 (0 : Int)), .nil]), (4003, [.d (.int .i64 (0 : Int)), .d (.int .i64 (0 : Int)), .d (.int .i64 (0 : Int)), .nil])], [(1006, 121, 3, v13.2.2.1.map Part.enc), (3006, 53, 4, v29.2.2.1.map Task.enc), (4019, 142, 3, w44.2.2.map Sec.enc)]⟩) h (fun k44 hk44 h => ?_) (fun w44 h => ?_)
              · conv => whnf
                refine inS (fn := Tryz.f102) tab ⟨[(0, [0, 1]), (1, [0, 1, 5]), (2, [0, 1, 5, 6]), (3, [0, 1, 5, 6, 17]), (4, [0, 1, 5, 6]), (5, [0, 1, 5, 6]), (6, [4])], [], [100017], []⟩ 26 [.tmp 4] rfl rfl rfl rfl rfl rfl ?_
                conv => whnf
                refine inJ (fun w45 => ⟨[(8, .l (.d (.int .i64 w45.2.2))), (7, .l (.ptr 12 0)), (0, .l (.ptr 12 0)), (1, .l (.mfn 103 12)), (5, .l .nil)], 26, [⟨[(17, .l (.mfn 103 12)), (16, .l (.ptr 12 0)), (15, .l (.ptr 12 0)), (14, .l (.d (.int .i64 w40.2.2))), (13, .l (.d (.int .i64 w36.2.2))), (12, .l (.d (.int .i64 w32.2.2))), (0, .l (.ptr 12 0)), (2, .l (.ptr 4003 0)), (3, .l (.d (.int .i64 w32.2.2))), (4, .l (.d (.int .i64 w36.2.2))), (5, .l (.d (.int .i64 w40.2.2)))], 20⟩, ⟨[(21, .l (.mfn 67 12)), (20, .l (.own 3006)), (17, .l (.d (.bool true))), (0, .l (.ptr 12 0)), (1, .l (.mfn 67 12)), (5, .l (.own 3006)), (6, .l (.d (.int .i64 v29.2.2.2))), (17, .l (.d (.bool w30)))], 26⟩, ⟨[(14, .l (.mfn 67 12)), (13, .l (.ptr 12 0)), (12, .l (.ptr 12 0)), (11, .agg [.d (.int .i64 w16.2.2), .d (.int .i64 w20.2.2)]), (10, .l (.d (.int .i64 w20.2.2))), (9, .l (.d (.int .i64 w16.2.2))), (0, .l (.ptr 12 0)), (2, .l (.ptr 2003 0)), (3, .l (.d (.int .i64 w16.2.2))), (4, .l (.d (.int .i64 w20.2.2)))], 17⟩, ⟨[(21, .l (.mfn 46 12)), (20, .l (.own 1006)), (17, .l (.d (.bool true))), (0, .l (.ptr 12 0)), (1, .l (.mfn 46 12)), (5, .l (.own 1006)), (6, .l (.d (.int .i64 v13.2.2.2))), (17, .l (.d (.bool w14)))], 26⟩, ⟨[(34, .l (.mfn 46 12)), (33, .l (.ptr 12 0)), (32, .l (.ptr 12 0)), (13, .l (.d (.bool false))), (0, .l (.d (.sl (a0.map (eI .u8))))), (2, .l (.ptr 3 0)), (5, .l (.ptr 12 0)), (12, .l (.d (.int .i64 v1.2.2))), (13, .l (.d (.bool (decide (v1.2.2 < (3 : Int))))))], 74⟩], [(3, [.nil, .nil]), (12, [.d (.sl (a0.map (eI .u8))), .d (.int .i64 w45.1), .d (.int .i64 w45.2.1)]), (2003, [.d (.int .i64 (0 : Int)), .d (.int .i64 (0 : Int)), .nil]), (4003, [.d (.int .i64 (0 : Int)), .d (.int .i64 (0 : Int)), .d (.int .i64 (0 : Int)), .nil])], [(1006, 121, 3, v13.2.2.1.map Part.enc), (3006, 53, 4, v29.2.2.1.map Task.enc)]⟩) h (fun k45 hk45 h => ?_) (fun w45 h => ?_)
                · conv => whnf
                  refine inS (fn := Tryz.f44) tab ⟨[(0, [0]), (1, [0, 19]), (2, [0]), (3, [0, 27]), (4, [2]), (5, [0]), (6, [2])], [], [100019, 3], []⟩ 47 [.tmp 2] rfl rfl rfl rfl rfl rfl ?_
                  conv => whnf
                  refine jnS (fun w46 => ⟨[(0, .l (.ptr 12 0))], 47, [⟨[(7, .l (.ptr 12 0)), (0, .l (.ptr 12 0)), (1, .l (.mfn 103 12)), (5, .l .nil)], 26⟩, ⟨[(17, .l (.mfn 103 12)), (16, .l (.ptr 12 0)), (15, .l (.ptr 12 0)), (14, .l (.d (.int .i64 w40.2.2))), (13, .l (.d (.int .i64 w36.2.2))), (12, .l (.d (.int .i64 w32.2.2))), (0, .l (.ptr 12 0)), (2, .l (.ptr 4003 0)), (3, .l (.d (.int .i64 w32.2.2))), (4, .l (.d (.int .i64 w36.2.2))), (5, .l (.d (.int .i64 w40.2.2)))], 20⟩, ⟨[(21, .l (.mfn 67 12)), (20, .l (.own 3006)), (17, .l (.d (.bool true))), (0, .l (.ptr 12 0)), (1, .l (.mfn 67 12)), (5, .l (.own 3006)), (6, .l (.d (.int .i64 v29.2.2.2))), (17, .l (.d (.bool w30)))], 26⟩, ⟨[(14, .l (.mfn 67 12)), (13, .l (.ptr 12 0)), (12, .l (.ptr 12 0)), (11, .agg [.d (.int .i64 w16.2.2), .d (.int .i64 w20.2.2)]), (10, .l (.d (.int .i64 w20.2.2))), (9, .l (.d (.int .i64 w16.2.2))), (0, .l (.ptr 12 0)), (2, .l (.ptr 2003 0)), (3, .l (.d (.int .i64 w16.2.2))), (4, .l (.d (.int .i64 w20.2.2)))], 17⟩, ⟨[(21, .l (.mfn 46 12)), (20, .l (.own 1006)), (17, .l (.d (.bool true))), (0, .l (.ptr 12 0)), (1, .l (.mfn 46 12)), (5, .l (.own 1006)), (6, .l (.d (.int .i64 v13.2.2.2))), (17, .l (.d (.bool w14)))], 26⟩, ⟨[(34, .l (.mfn 46 12)), (33, .l (.ptr 12 0)), (32, .l (.ptr 12 0)), (13, .l (.d (.bool false))), (0, .l (.d (.sl (a0.map (eI .u8))))), (2, .l (.ptr 3 0)), (5, .l (.ptr 12 0)), (12, .l (.d (.int .i64 v1.2.2))), (13, .l (.d (.bool (decide (v1.2.2 < (3 : Int))))))], 74⟩], [(3, [.nil, .nil]), (12, [.d (.sl (a0.map (eI .u8))), .d (.int .i64 w40.1), .d (.int .i64 w46)]), (2003, [.d (.int .i64 (0 : Int)), .d (.int .i64 (0 : Int)), .nil]), (4003, [.d (.int .i64 (0 : Int)), .d (.int .i64 (0 : Int)), .d (.int .i64 (0 : Int)), .nil])], [(1006, 121, 3, v13.2.2.1.map Part.enc), (3006, 53, 4, v29.2.2.1.map Task.enc)]⟩) h (fun k46 hk46 h => ?_) (fun w46 h => ?_)
                  · conv => whnf
                    refine jnS (fun w47 => ⟨[(0, .l (.ptr 12 0)), (19, .l (.d (.bool w47)))], 47, [⟨[(7, .l (.ptr 12 0)), (0, .l (.ptr 12 0)), (1, .l (.mfn 103 12)), (5, .l .nil)], 26⟩, ⟨[(17, .l (.mfn 103 12)), (16, .l (.ptr 12 0)), (15, .l (.ptr 12 0)), (14, .l (.d (.int .i64 w40.2.2))), (13, .l (.d (.int .i64 w36.2.2))), (12, .l (.d (.int .i64 w32.2.2))), (0, .l (.ptr 12 0)), (2, .l (.ptr 4003 0)), (3, .l (.d (.int .i64 w32.2.2))), (4, .l (.d (.int .i64 w36.2.2))), (5, .l (.d (.int .i64 w40.2.2)))], 20⟩, ⟨[(21, .l (.mfn 67 12)), (20, .l (.own 3006)), (17, .l (.d (.bool true))), (0, .l (.ptr 12 0)), (1, .l (.mfn 67 12)), (5, .l (.own 3006)), (6, .l (.d (.int .i64 v29.2.2.2))), (17, .l (.d (.bool w30)))], 26⟩, ⟨[(14, .l (.mfn 67 12)), (13, .l (.ptr 12 0)), (12, .l (.ptr 12 0)), (11, .agg [.d (.int .i64 w16.2.2), .d (.int .i64 w20.2.2)]), (10, .l (.d (.int .i64 w20.2.2))), (9, .l (.d (.int .i64 w16.2.2))), (0, .l (.ptr 12 0)), (2, .l (.ptr 2003 0)), (3, .l (.d (.int .i64 w16.2.2))), (4, .l (.d (.int .i64 w20.2.2)))], 17⟩, ⟨[(21, .l (.mfn 46 12)), (20, .l (.own 1006)), (17, .l (.d (.bool true))), (0, .l (.ptr 12 0)), (1, .l (.mfn 46 12)), (5, .l (.own 1006)), (6, .l (.d (.int .i64 v13.2.2.2))), (17, .l (.d (.bool w14)))], 26⟩, ⟨[(34, .l (.mfn 46 12)), (33, .l (.ptr 12 0)), (32, .l (.ptr 12 0)), (13, .l (.d (.bool false))), (0, .l (.d (.sl (a0.map (eI .u8))))), (2, .l (.ptr 3 0)), (5, .l (.ptr 12 0)), (12, .l (.d (.int .i64 v1.2.2))), (13, .l (.d (.bool (decide (v1.2.2 < (3 : Int))))))], 74⟩], [(3, [.nil, .nil]), (12, [.d (.sl (a0.map (eI .u8))), .d (.int .i64 w40.1), .d (.int .i64 w40.2.1)]), (2003, [.d (.int .i64 (0 : Int)), .d (.int .i64 (0 : Int)), .nil]), (4003, [.d (.int .i64 (0 : Int)), .d (.int .i64 (0 : Int)), .d (.int .i64 (0 : Int)), .nil])], [(1006, 121, 3, v13.2.2.1.map Part.enc), (3006, 53, 4, v29.2.2.1.map Task.enc)]⟩) h (fun k47 hk47 h => ?_) (fun w47 h => ?_)
                    · conv => whnf
                      refine ⟨17, ?_⟩
                      conv => whnf
                      refine fkS h (fun h => ?_) (fun h => ?_)
                      · conv => whnf
                        refine lenS a0 (eI .u8) rfl ?_
                        conv => whnf
                        refine drS (by kernel_rfl) ?_
                        conv => whnf
                        exact jeS hk47 h (Weak.refl _)
                      conv => whnf
                      refine drS (by kernel_rfl) ?_
                      conv => whnf
                      exact jeS hk47 h (Weak.refl _)
                    conv => whnf
                    refine fkS h (fun h => ?_) (fun h => ?_)
                    · conv => whnf
                      exact jeS hk46 h (Weak.refl _)
                    conv => whnf
                    refine jeX hk46 h ?_
                    conv => whnf
                    refine WkF.step (Weak.keepS _ [0]) ?_
                    conv => whnf
                    exact WkF.refl _
                  conv => whnf
                  refine fkS h (fun h => ?_) (fun h => ?_)
                  · conv => whnf
                    exact jeS hk45 h (Weak.refl _)
                  conv => whnf
                  refine ⟨9, ?_⟩
                  conv => whnf
                  refine drS (by kernel_rfl) ?_
                  conv => whnf
                  refine ixS (enc := (eI .u8)) h rfl (fun _ => rfl) (fun x48 h => ?_)
                  conv => whnf
                  exact jeS hk45 h (Weak.refl _)
                conv => whnf
                refine lpS (fun v49 => ⟨[(0, .l (.ptr 12 0)), (1, .l (.mfn 103 12)), (5, .l (.own 5006)), (6, .l (.d (.int .i64 v49.2.2.2)))], 26, [⟨[(17, .l (.mfn 103 12)), (16, .l (.ptr 12 0)), (15, .l (.ptr 12 0)), (14, .l (.d (.int .i64 w40.2.2))), (13, .l (.d (.int .i64 w36.2.2))), (12, .l (.d (.int .i64 w32.2.2))), (0, .l (.ptr 12 0)), (2, .l (.ptr 4003 0)), (3, .l (.d (.int .i64 w32.2.2))), (4, .l (.d (.int .i64 w36.2.2))), (5, .l (.d (.int .i64 w40.2.2)))], 20⟩, ⟨[(21, .l (.mfn 67 12)), (20, .l (.own 3006)), (17, .l (.d (.bool true))), (0, .l (.ptr 12 0)), (1, .l (.mfn 67 12)), (5, .l (.own 3006)), (6, .l (.d (.int .i64 v29.2.2.2))), (17, .l (.d (.bool w30)))], 26⟩, ⟨[(14, .l (.mfn 67 12)), (13, .l (.ptr 12 0)), (12, .l (.ptr 12 0)), (11, .agg [.d (.int .i64 w16.2.2), .d (.int .i64 w20.2.2)]), (10, .l (.d (.int .i64 w20.2.2))), (9, .l (.d (.int .i64 w16.2.2))), (0, .l (.ptr 12 0)), (2, .l (.ptr 2003 0)), (3, .l (.d (.int .i64 w16.2.2))), (4, .l (.d (.int .i64 w20.2.2)))], 17⟩, ⟨[(21, .l (.mfn 46 12)), (20, .l (.own 1006)), (17, .l (.d (.bool true))), (0, .l (.ptr 12 0)), (1, .l (.mfn 46 12)), (5, .l (.own 1006)), (6, .l (.d (.int .i64 v13.2.2.2))), (17, .l (.d (.bool w14)))], 26⟩, ⟨[(34, .l (.mfn 46 12)), (33, .l (.ptr 12 0)), (32, .l (.ptr 12 0)), (13, .l (.d (.bool false))), (0, .l (.d (.sl (a0.map (eI .u8))))), (2, .l (.ptr 3 0)), (5, .l (.ptr 12 0)), (12, .l (.d (.int .i64 v1.2.2))), (13, .l (.d (.bool (decide (v1.2.2 < (3 : Int))))))], 74⟩], [(3, [.nil, .nil]), (12, [.d (.sl (a0.map (eI .u8))), .d (.int .i64 v49.1), .d (.int .i64 v49.2.1)]), (2003, [.d (.int .i64 (0 : Int)), .d (.int .i64 (0 : Int)), .nil]), (4003, [.d (.int .i64 (0 : Int)), .d (.int .i64 (0 : Int)), .d (.int .i64 (0 : Int)), .nil])], [(1006, 121, 3, v13.2.2.1.map Part.enc), (3006, 53, 4, v29.2.2.1.map Task.enc), (5006, 142, 3, v49.2.2.1.map Sec.enc)]⟩) h (Weak.trans (Weak.nilO _ 5 5006 142 3 rfl) (Weak.refl _)) (fun _ nx49 hn49 v49 h => ?_)
                conv => whnf
                refine jnS (fun w50 => ⟨[(0, .l (.ptr 12 0)), (1, .l (.mfn 103 12)), (5, .l (.own 5006)), (6, .l (.d (.int .i64 v49.2.2.2))), (17, .l (.d (.bool w50)))], 26, [⟨[(17, .l (.mfn 103 12)), (16, .l (.ptr 12 0)), (15, .l (.ptr 12 0)), (14, .l (.d (.int .i64 w40.2.2))), (13, .l (.d (.int .i64 w36.2.2))), (12, .l (.d (.int .i64 w32.2.2))), (0, .l (.ptr 12 0)), (2, .l (.ptr 4003 0)), (3, .l (.d (.int .i64 w32.2.2))), (4, .l (.d (.int .i64 w36.2.2))), (5, .l (.d (.int .i64 w40.2.2)))], 20⟩, ⟨[(21, .l (.mfn 67 12)), (20, .l (.own 3006)), (17, .l (.d (.bool true))), (0, .l (.ptr 12 0)), (1, .l (.mfn 67 12)), (5, .l (.own 3006)), (6, .l (.d (.int .i64 v29.2.2.2))), (17, .l (.d (.bool w30)))], 26⟩, ⟨[(14, .l (.mfn 67 12)), (13, .l (.ptr 12 0)), (12, .l (.ptr 12 0)), (11, .agg [.d (.int .i64 w16.2.2), .d (.int .i64 w20.2.2)]), (10, .l (.d (.int .i64 w20.2.2))), (9, .l (.d (.int .i64 w16.2.2))), (0, .l (.ptr 12 0)), (2, .l (.ptr 2003 0)), (3, .l (.d (.int .i64 w16.2.2))), (4, .l (.d (.int .i64 w20.2.2)))], 17⟩, ⟨[(21, .l (.mfn 46 12)), (20, .l (.own 1006)), (17, .l (.d (.bool true))), (0, .l (.ptr 12 0)), (1, .l (.mfn 46 12)), (5, .l (.own 1006)), (6, .l (.d (.int .i64 v13.2.2.2))), (17, .l (.d (.bool w14)))], 26⟩, ⟨[(34, .l (.mfn 46 12)), (33, .l (.ptr 12 0)), (32, .l (.ptr 12 0)), (13, .l (.d (.bool false))), (0, .l (.d (.sl (a0.map (eI .u8))))), (2, .l (.ptr 3 0)), (5, .l (.ptr 12 0)), (12, .l (.d (.int .i64 v1.2.2))), (13, .l (.d (.bool (decide (v1.2.2 < (3 : Int))))))], 74⟩], [(3, [.nil, .nil]), (12, [.d (.sl (a0.map (eI .u8))), .d (.int .i64 v49.1), .d (.int .i64 v49.2.1)]), (2003, [.d (.int .i64 (0 : Int)), .d (.int .i64 (0 : Int)), .nil]), (4003, [.d (.int .i64 (0 : Int)), .d (.int .i64 (0 : Int)), .d (.int .i64 (0 : Int)), .nil])], [(1006, 121, 3, v13.2.2.1.map Part.enc), (3006, 53, 4, v29.2.2.1.map Task.enc), (5006, 142, 3, v49.2.2.1.map Sec.enc)]⟩) h (fun k50 hk50 h => ?_) (fun w50 h => ?_)
                · conv => whnf
                  refine fkS h (fun h => ?_) (fun h => ?_)
                  · conv => whnf
                    exact jeS hk50 h (Weak.refl _)
                  conv => whnf
                  exact jeS hk50 h (Weak.refl _)
                conv => whnf
                refine fkS h (fun h => ?_) (fun h => ?_)
                · conv => whnf
                  refine inS (fn := Tryz.f103) tab ⟨[(0, [0, 2]), (1, [2, 3, 4, 5]), (2, [2])], [], [], []⟩ 16 [.cell 2 142] rfl rfl rfl rfl rfl rfl ?_
                  conv => whnf
                  refine inJ (fun w51 => ⟨[(7, .l (.d (.int .i64 w51.2.2))), (6, .l (.ptr 12 0)), (0, .l (.ptr 12 0)), (2, .l (.ptr 6003 0))], 16, [⟨[(21, .l (.mfn 103 12)), (20, .l (.own 5006)), (17, .l (.d (.bool true))), (0, .l (.ptr 12 0)), (1, .l (.mfn 103 12)), (5, .l (.own 5006)), (6, .l (.d (.int .i64 v49.2.2.2))), (17, .l (.d (.bool w50)))], 26⟩, ⟨[(17, .l (.mfn 103 12)), (16, .l (.ptr 12 0)), (15, .l (.ptr 12 0)), (14, .l (.d (.int .i64 w40.2.2))), (13, .l (.d (.int .i64 w36.2.2))), (12, .l (.d (.int .i64 w32.2.2))), (0, .l (.ptr 12 0)), (2, .l (.ptr 4003 0)), (3, .l (.d (.int .i64 w32.2.2))), (4, .l (.d (.int .i64 w36.2.2))), (5, .l (.d (.int .i64 w40.2.2)))], 20⟩, ⟨[(21, .l (.mfn 67 12)), (20, .l (.own 3006)), (17, .l (.d (.bool true))), (0, .l (.ptr 12 0)), (1, .l (.mfn 67 12)), (5, .l (.own 3006)), (6, .l (.d (.int .i64 v29.2.2.2))), (17, .l (.d (.bool w30)))], 26⟩, ⟨[(14, .l (.mfn 67 12)), (13, .l (.ptr 12 0)), (12, .l (.ptr 12 0)), (11, .agg [.d (.int .i64 w16.2.2), .d (.int .i64 w20.2.2)]), (10, .l (.d (.int .i64 w20.2.2))), (9, .l (.d (.int .i64 w16.2.2))), (0, .l (.ptr 12 0)), (2, .l (.ptr 2003 0)), (3, .l (.d (.int .i64 w16.2.2))), (4, .l (.d (.int .i64 w20.2.2)))], 17⟩, ⟨[(21, .l (.mfn 46 12)), (20, .l (.own 1006)), (17, .l (.d (.bool true))), (0, .l (.ptr 12 0)), (1, .l (.mfn 46 12)), (5, .l (.own 1006)), (6, .l (.d (.int .i64 v13.2.2.2))), (17, .l (.d (.bool w14)))], 26⟩, ⟨[(34, .l (.mfn 46 12)), (33, .l (.ptr 12 0)), (32, .l (.ptr 12 0)), (13, .l (.d (.bool false))), (0, .l (.d (.sl (a0.map (eI .u8))))), (2, .l (.ptr 3 0)), (5, .l (.ptr 12 0)), (12, .l (.d (.int .i64 v1.2.2))), (13, .l (.d (.bool (decide (v1.2.2 < (3 : Int))))))], 74⟩], [(3, [.nil, .nil]), (12, [.d (.sl (a0.map (eI .u8))), .d (.int .i64 w51.1), .d (.int .i64 w51.2.1)]), (2003, [.d (.int .i64 (0 : Int)), .d (.int .i64 (0 : Int)), .nil]), (4003, [.d (.int .i64 (0 : Int)), .d (.int .i64 (0 : Int)), .d (.int .i64 (0 : Int)), .nil]), (6003, [.d (.int .i64 (0 : Int)), .d (.int .i64 (0 : Int)), .d (.int .i64 (0 : Int))])], [(1006, 121, 3, v13.2.2.1.map Part.enc), (3006, 53, 4, v29.2.2.1.map Task.enc), (5006, 142, 3, v49.2.2.1.map Sec.enc)]⟩) h (fun k51 hk51 h => ?_) (fun w51 h => ?_)
                  · conv => whnf
                    refine inS (fn := Tryz.f44) tab ⟨[(0, [0]), (1, [0, 19]), (2, [0]), (3, [0, 27]), (4, [2]), (5, [0]), (6, [2])], [], [100019, 3], []⟩ 47 [.tmp 2] rfl rfl rfl rfl rfl rfl ?_
                    conv => whnf
                    refine jnS (fun w52 => ⟨[(0, .l (.ptr 12 0))], 47, [⟨[(6, .l (.ptr 12 0)), (0, .l (.ptr 12 0)), (2, .l (.ptr 6003 0))], 16⟩, ⟨[(21, .l (.mfn 103 12)), (20, .l (.own 5006)), (17, .l (.d (.bool true))), (0, .l (.ptr 12 0)), (1, .l (.mfn 103 12)), (5, .l (.own 5006)), (6, .l (.d (.int .i64 v49.2.2.2))), (17, .l (.d (.bool w50)))], 26⟩, ⟨[(17, .l (.mfn 103 12)), (16, .l (.ptr 12 0)), (15, .l (.ptr 12 0)), (14, .l (.d (.int .i64 w40.2.2))), (13, .l (.d (.int .i64 w36.2.2))), (12, .l (.d (.int .i64 w32.2.2))), (0, .l (.ptr 12 0)), (2, .l (.ptr 4003 0)), (3, .l (.d (.int .i64 w32.2.2))), (4, .l (.d (.int .i64 w36.2.2))), (5, .l (.d (.int .i64 w40.2.2)))], 20⟩, ⟨[(21, .l (.mfn 67 12)), (20, .l (.own 3006)), (17, .l (.d (.bool true))), (0, .l (.ptr 12 0)), (1, .l (.mfn 67 12)), (5, .l (.own 3006)), (6, .l (.d (.int .i64 v29.2.2.2))), (17, .l (.d (.bool w30)))], 26⟩, ⟨[(14, .l (.mfn 67 12)), (13, .l (.ptr 12 0)), (12, .l (.ptr 12 0)), (11, .agg [.d (.int .i64 w16.2.2), .d (.int .i64 w20.2.2)]), (10, .l (.d (.int .i64 w20.2.2))), (9, .l (.d (.int .i64 w16.2.2))), (0, .l (.ptr 12 0)), (2, .l (.ptr 2003 0)), (3, .l (.d (.int .i64 w16.2.2))), (4, .l (.d (.int .i64 w20.2.2)))], 17⟩, ⟨[(21, .l (.mfn 46 12)), (20, .l (.own 1006)), (17, .l (.d (.bool true))), (0, .l (.ptr 12 0)), (1, .l (.mfn 46 12)), (5, .l (.own 1006)), (6, .l (.d (.int .i64 v13.2.2.2))), (17, .l (.d (.bool w14)))], 26⟩, ⟨[(34, .l (.mfn 46 12)), (33, .l (.ptr 12 0)), (32, .l (.ptr 12 0)), (13, .l (.d (.bool false))), (0, .l (.d (.sl (a0.map (eI .u8))))), (2, .l (.ptr 3 0)), (5, .l (.ptr 12 0)), (12, .l (.d (.int .i64 v1.2.2))), (13, .l (.d (.bool (decide (v1.2.2 < (3 : Int))))))], 74⟩], [(3, [.nil, .nil]), (12, [.d (.sl (a0.map (eI .u8))), .d (.int .i64 v49.1), .d (.int .i64 w52)]), (2003, [.d (.int .i64 (0 : Int)), .d (.int .i64 (0 : Int)), .nil]), (4003, [.d (.int .i64 (0 : Int)), .d (.int .i64 (0 : Int)), .d (.int .i64 (0 : Int)), .nil]), (6003, [.d (.int .i64 (0 : Int)), .d (.int .i64 (0 : Int)), .d (.int .i64 (0 : Int))])], [(1006, 121, 3, v13.2.2.1.map Part.enc), (3006, 53, 4, v29.2.2.1.map Task.enc), (5006, 142, 3, v49.2.2.1.map Sec.enc)]⟩) h (fun k52 hk52 h => ?_) (fun w52 h => ?_)
                    · conv => whnf
                      refine jnS (fun w53 => ⟨[(0, .l (.ptr 12 0)), (19, .l (.d (.bool w53)))], 47, [⟨[(6, .l (.ptr 12 0)), (0, .l (.ptr 12 0)), (2, .l (.ptr 6003 0))], 16⟩, ⟨[(21, .l (.mfn 103 12)), (20, .l (.own 5006)), (17, .l (.d (.bool true))), (0, .l (.ptr 12 0)), (1, .l (.mfn 103 12)), (5, .l (.own 5006)), (6, .l (.d (.int .i64 v49.2.2.2))), (17, .l (.d (.bool w50)))], 26⟩, ⟨[(17, .l (.mfn 103 12)), (16, .l (.ptr 12 0)), (15, .l (.ptr 12 0)), (14, .l (.d (.int .i64 w40.2.2))), (13, .l (.d (.int .i64 w36.2.2))), (12, .l (.d (.int .i64 w32.2.2))), (0, .l (.ptr 12 0)), (2, .l (.ptr 4003 0)), (3, .l (.d (.int .i64 w32.2.2))), (4, .l (.d (.int .i64 w36.2.2))), (5, .l (.d (.int .i64 w40.2.2)))], 20⟩, ⟨[(21, .l (.mfn 67 12)), (20, .l (.own 3006)), (17, .l (.d (.bool true))), (0, .l (.ptr 12 0)), (1, .l (.mfn 67 12)), (5, .l (.own 3006)), (6, .l (.d (.int .i64 v29.2.2.2))), (17, .l (.d (.bool w30)))], 26⟩, ⟨[(14, .l (.mfn 67 12)), (13, .l (.ptr 12 0)), (12, .l (.ptr 12 0)), (11, .agg [.d (.int .i64 w16.2.2), .d (.int .i64 w20.2.2)]), (10, .l (.d (.int .i64 w20.2.2))), (9, .l (.d (.int .i64 w16.2.2))), (0, .l (.ptr 12 0)), (2, .l (.ptr 2003 0)), (3, .l (.d (.int .i64 w16.2.2))), (4, .l (.d (.int .i64 w20.2.2)))], 17⟩, ⟨[(21, .l (.mfn 46 12)), (20, .l (.own 1006)), (17, .l (.d (.bool true))), (0, .l (.ptr 12 0)), (1, .l (.mfn 46 12)), (5, .l (.own 1006)), (6, .l (.d (.int .i64 v13.2.2.2))), (17, .l (.d (.bool w14)))], 26⟩, ⟨[(34, .l (.mfn 46 12)), (33, .l (.ptr 12 0)), (32, .l (.ptr 12 0)), (13, .l (.d (.bool false))), (0, .l (.d (.sl (a0.map (eI .u8))))), (2, .l (.ptr 3 0)), (5, .l (.ptr 12 0)), (12, .l (.d (.int .i64 v1.2.2))), (13, .l (.d (.bool (decide (v1.2.2 < (3 : Int))))))], 74⟩], [(3, [.nil, .nil]), (12, [.d (.sl (a0.map (eI .u8))), .d (.int .i64 v49.1), .d (.int .i64 v49.2.1)]), (2003, [.d (.int .i64 (0 : Int)), .d (.int .i64 (0 : Int)), .nil]), (4003, [.d (.int .i64 (0 : Int)), .d (.int .i64 (0 : Int)), .d (.int .i64 (0 : Int)), .nil]), (6003, [.d (.int .i64 (0 : Int)), .d (.int .i64 (0 : Int)), .d (.int .i64 (0 : Int))])], [(1006, 121, 3, v13.2.2.1.map Part.enc), (3006, 53, 4, v29.2.2.1.map Task.enc), (5006, 142, 3, v49.2.2.1.map Sec.enc)]⟩) h (fun k53 hk53 h => ?_) (fun w53 h => ?_)
                      · conv => whnf
                        refine ⟨17, ?_⟩
                        conv => whnf
                        refine fkS h (fun h => ?_) (fun h => ?_)
                        · conv => whnf
                          refine lenS a0 (eI .u8) rfl ?_
                          conv => whnf
                          refine drS (by kernel_rfl) ?_
                          conv => whnf
                          exact jeS hk53 h (Weak.refl _)
                        conv => whnf
                        refine drS (by kernel_rfl) ?_
                        conv => whnf
                        exact jeS hk53 h (Weak.refl _)
                      conv => whnf
                      refine fkS h (fun h => ?_) (fun h => ?_)
                      · conv => whnf
                        exact jeS hk52 h (Weak.refl _)
                      conv => whnf
                      refine jeX hk52 h ?_
                      conv => whnf
                      refine WkF.step (Weak.keepS _ [0]) ?_
                      conv => whnf
                      exact WkF.refl _
                    conv => whnf
                    refine fkS h (fun h => ?_) (fun h => ?_)
                    · conv => whnf
                      exact jeS hk51 h (Weak.refl _)
                    conv => whnf
                    refine ⟨9, ?_⟩
                    conv => whnf
                    refine drS (by kernel_rfl) ?_
                    conv => whnf
                    refine ixS (enc := (eI .u8)) h rfl (fun _ => rfl) (fun x54 h => ?_)
                    conv => whnf
                    exact jeS hk51 h (Weak.refl _)
                  conv => whnf
                  refine inJ (fun w55 => ⟨[(9, .l (.d (.int .i64 w55.2.2))), (8, .l (.ptr 12 0)), (7, .l (.d (.int .i64 w51.2.2))), (6, .l (.ptr 12 0)), (0, .l (.ptr 12 0)), (2, .l (.ptr 6003 0))], 16, [⟨[(21, .l (.mfn 103 12)), (20, .l (.own 5006)), (17, .l (.d (.bool true))), (0, .l (.ptr 12 0)), (1, .l (.mfn 103 12)), (5, .l (.own 5006)), (6, .l (.d (.int .i64 v49.2.2.2))), (17, .l (.d (.bool w50)))], 26⟩, ⟨[(17, .l (.mfn 103 12)), (16, .l (.ptr 12 0)), (15, .l (.ptr 12 0)), (14, .l (.d (.int .i64 w40.2.2))), (13, .l (.d (.int .i64 w36.2.2))), (12, .l (.d (.int .i64 w32.2.2))), (0, .l (.ptr 12 0)), (2, .l (.ptr 4003 0)), (3, .l (.d (.int .i64 w32.2.2))), (4, .l (.d (.int .i64 w36.2.2))), (5, .l (.d (.int .i64 w40.2.2)))], 20⟩, ⟨[(21, .l (.mfn 67 12)), (20, .l (.own 3006)), (17, .l (.d (.bool true))), (0, .l (.ptr 12 0)), (1, .l (.mfn 67 12)), (5, .l (.own 3006)), (6, .l (.d (.int .i64 v29.2.2.2))), (17, .l (.d (.bool w30)))], 26⟩, ⟨[(14, .l (.mfn 67 12)), (13, .l (.ptr 12 0)), (12, .l (.ptr 12 0)), (11, .agg [.d (.int .i64 w16.2.2), .d (.int .i64 w20.2.2)]), (10, .l (.d (.int .i64 w20.2.2))), (9, .l (.d (.int .i64 w16.2.2))), (0, .l (.ptr 12 0)), (2, .l (.ptr 2003 0)), (3, .l (.d (.int .i64 w16.2.2))), (4, .l (.d (.int .i64 w20.2.2)))], 17⟩, ⟨[(21, .l (.mfn 46 12)), (20, .l (.own 1006)), (17, .l (.d (.bool true))), (0, .l (.ptr 12 0)), (1, .l (.mfn 46 12)), (5, .l (.own 1006)), (6, .l (.d (.int .i64 v13.2.2.2))), (17, .l (.d (.bool w14)))], 26⟩, ⟨[(34, .l (.mfn 46 12)), (33, .l (.ptr 12 0)), (32, .l (.ptr 12 0)), (13, .l (.d (.bool false))), (0, .l (.d (.sl (a0.map (eI .u8))))), (2, .l (.ptr 3 0)), (5, .l (.ptr 12 0)), (12, .l (.d (.int .i64 v1.2.2))), (13, .l (.d (.bool (decide (v1.2.2 < (3 : Int))))))], 74⟩], [(3, [.nil, .nil]), (12, [.d (.sl (a0.map (eI .u8))), .d (.int .i64 w55.1), .d (.int .i64 w55.2.1)]), (2003, [.d (.int .i64 (0 : Int)), .d (.int .i64 (0 : Int)), .nil]), (4003, [.d (.int .i64 (0 : Int)), .d (.int .i64 (0 : Int)), .d (.int .i64 (0 : Int)), .nil]), (6003, [.d (.int .i64 (0 : Int)), .d (.int .i64 (0 : Int)), .d (.int .i64 (0 : Int))])], [(1006, 121, 3, v13.2.2.1.map Part.enc), (3006, 53, 4, v29.2.2.1.map Task.enc), (5006, 142, 3, v49.2.2.1.map Sec.enc)]⟩) h (fun k55 hk55 h => ?_) (fun w55 h => ?_)
                  · conv => whnf
                    refine inS (fn := Tryz.f44) tab ⟨[(0, [0]), (1, [0, 19]), (2, [0]), (3, [0, 27]), (4, [2]), (5, [0]), (6, [2])], [], [100019, 3], []⟩ 47 [.tmp 2] rfl rfl rfl rfl rfl rfl ?_
                    conv => whnf
                    refine jnS (fun w56 => ⟨[(0, .l (.ptr 12 0))], 47, [⟨[(8, .l (.ptr 12 0)), (7, .l (.d (.int .i64 w51.2.2))), (6, .l (.ptr 12 0)), (0, .l (.ptr 12 0)), (2, .l (.ptr 6003 0))], 16⟩, ⟨[(21, .l (.mfn 103 12)), (20, .l (.own 5006)), (17, .l (.d (.bool true))), (0, .l (.ptr 12 0)), (1, .l (.mfn 103 12)), (5, .l (.own 5006)), (6, .l (.d (.int .i64 v49.2.2.2))), (17, .l (.d (.bool w50)))], 26⟩, ⟨[(17, .l (.mfn 103 12)), (16, .l (.ptr 12 0)), (15, .l (.ptr 12 0)), (14, .l (.d (.int .i64 w40.2.2))), (13, .l (.d (.int .i64 w36.2.2))), (12, .l (.d (.int .i64 w32.2.2))), (0, .l (.ptr 12 0)), (2, .l (.ptr 4003 0)), (3, .l (.d (.int .i64 w32.2.2))), (4, .l (.d (.int .i64 w36.2.2))), (5, .l (.d (.int .i64 w40.2.2)))], 20⟩, ⟨[(21, .l (.mfn 67 12)), (20, .l (.own 3006)), (17, .l (.d (.bool true))), (0, .l (.ptr 12 0)), (1, .l (.mfn 67 12)), (5, .l (.own 3006)), (6, .l (.d (.int .i64 v29.2.2.2))), (17, .l (.d (.bool w30)))], 26⟩, ⟨[(14, .l (.mfn 67 12)), (13, .l (.ptr 12 0)), (12, .l (.ptr 12 0)), (11, .agg [.d (.int .i64 w16.2.2), .d (.int .i64 w20.2.2)]), (10, .l (.d (.int .i64 w20.2.2))), (9, .l (.d (.int .i64 w16.2.2))), (0, .l (.ptr 12 0)), (2, .l (.ptr 2003 0)), (3, .l (.d (.int .i64 w16.2.2))), (4, .l (.d (.int .i64 w20.2.2)))], 17⟩, ⟨[(21, .l (.mfn 46 12)), (20, .l (.own 1006)), (17, .l (.d (.bool true))), (0, .l (.ptr 12 0)), (1, .l (.mfn 46 12)), (5, .l (.own 1006)), (6, .l (.d (.int .i64 v13.2.2.2))), (17, .l (.d (.bool w14)))], 26⟩, ⟨[(34, .l (.mfn 46 12)), (33, .l (.ptr 12 0)), (32, .l (.ptr 12 0)), (13, .l (.d (.bool false))), (0, .l (.d (.sl (a0.map (eI .u8))))), (2, .l (.ptr 3 0)), (5, .l (.ptr 12 0)), (12, .l (.d (.int .i64 v1.2.2))), (13, .l (.d (.bool (decide (v1.2.2 < (3 : Int))))))], 74⟩], [(3, [.nil, .nil]), (12, [.d (.sl (a0.map (eI .u8))), .d (.int .i64 w51.1), .d (.int .i64 w56)]), (2003, [.d (.int .i64 (0 : Int)), .d (.int .i64 (0 : Int)), .nil]), (4003, [.d (.int .i64 (0 : Int)), .d (.int .i64 (0 : Int)), .d (.int .i64 (0 : Int)), .nil]), (6003, [.d (.int .i64 (0 : Int)), .d (.int .i64 (0 : Int)), .d (.int .i64 (0 : Int))])], [(1006, 121, 3, v13.2.2.1.map Part.enc), (3006, 53, 4, v29.2.2.1.map Task.enc), (5006, 142, 3, v49.2.2.1.map Sec.enc)]⟩) h (fun k56 hk56 h => ?_) (fun w56 h => ?_)
                    · conv => whnf
                      refine jnS (fun w57 => ⟨[(0, .l (.ptr 12 0)), (19, .l (.d (.bool w57)))], 47, [⟨[(8, .l (.ptr 12 0)), (7, .l (.d (.int .i64 w51.2.2))), (6, .l (.ptr 12 0)), (0, .l (.ptr 12 0)), (2, .l (.ptr 6003 0))], 16⟩, ⟨[(21, .l (.mfn 103 12)), (20, .l (.own 5006)), (17, .l (.d (.bool true))), (0, .l (.ptr 12 0)), (1, .l (.mfn 103 12)), (5, .l (.own 5006)), (6, .l (.d (.int .i64 v49.2.2.2))), (17, .l (.d (.bool w50)))], 26⟩, ⟨[(17, .l (.mfn 103 12)), (16, .l (.ptr 12 0)), (15, .l (.ptr 12 0)), (14, .l (.d (.int .i64 w40.2.2))), (13, .l (.d (.int .i64 w36.2.2))), (12, .l (.d (.int .i64 w32.2.2))), (0, .l (.ptr 12 0)), (2, .l (.ptr 4003 0)), (3, .l (.d (.int .i64 w32.2.2))), (4, .l (.d (.int .i64 w36.2.2))), (5, .l (.d (.int .i64 w40.2.2)))], 20⟩, ⟨[(21, .l (.mfn 67 12)), (20, .l (.own 3006)), (17, .l (.d (.bool true))), (0, .l (.ptr 12 0)), (1, .l (.mfn 67 12)), (5, .l (.own 3006)), (6, .l (.d (.int .i64 v29.2.2.2))), (17, .l (.d (.bool w30)))], 26⟩, ⟨[(14, .l (.mfn 67 12)), (13, .l (.ptr 12 0)), (12, .l (.ptr 12 0)), (11, .agg [.d (.int .i64 w16.2.2), .d (.int .i64 w20.2.2)]), (10, .l (.d (.int .i64 w20.2.2))), (9, .l (.d (.int .i64 w16.2.2))), (0, .l (.ptr 12 0)), (2, .l (.ptr 2003 0)), (3, .l (.d (.int .i64 w16.2.2))), (4, .l (.d (.int .i64 w20.2.2)))], 17⟩, ⟨[(21, .l (.mfn 46 12)), (20, .l (.own 1006)), (17, .l (.d (.bool true))), (0, .l (.ptr 12 0)), (1, .l (.mfn 46 12)), (5, .l (.own 1006)), (6, .l (.d (.int .i64 v13.2.2.2))), (17, .l (.d (.bool w14)))], 26⟩, ⟨[(34, .l (.mfn 46 12)), (33, .l (.ptr 12 0)), (32, .l (.ptr 12 0)), (13, .l (.d (.bool false))), (0, .l (.d (.sl (a0.map (eI .u8))))), (2, .l (.ptr 3 0)), (5, .l (.ptr 12 0)), (12, .l (.d (.int .i64 v1.2.2))), (13, .l (.d (.bool (decide (v1.2.2 < (3 : Int))))))], 74⟩], [(3, [.nil, .nil]), (12, [.d (.sl (a0.map (eI .u8))), .d (.int .i64 w51.1), .d (.int .i64 w51.2.1)]), (2003, [.d (.int .i64 (0 : Int)), .d (.int .i64 (0 : Int)), .nil]), (4003, [.d (.int .i64 (0 : Int)), .d (.int .i64 (0 : Int)), .d (.int .i64 (0 : Int)), .nil]), (6003, [.d (.int .i64 (0 : Int)), .d (.int .i64 (0 : Int)), .d (.int .i64 (0 : Int))])], [(1006, 121, 3, v13.2.2.1.map Part.enc), (3006, 53, 4, v29.2.2.1.map Task.enc), (5006, 142, 3, v49.2.2.1.map Sec.enc)]⟩) h (fun k57 hk57 h => ?_) (fun w57 h => ?_)
                      · conv => whnf
                        refine ⟨17, ?_⟩
                        conv => whnf
                        refine fkS h (fun h => ?_) (fun h => ?_)
                        · conv => whnf
                          refine lenS a0 (eI .u8) rfl ?_
                          conv => whnf
                          refine drS (by kernel_rfl) ?_
                          conv => whnf
                          exact jeS hk57 h (Weak.refl _)
                        conv => whnf
                        refine drS (by kernel_rfl) ?_
                        conv => whnf
                        exact jeS hk57 h (Weak.refl _)
                      conv => whnf
                      refine fkS h (fun h => ?_) (fun h => ?_)
                      · conv => whnf
                        exact jeS hk56 h (Weak.refl _)
                      conv => whnf
                      refine jeX hk56 h ?_
                      conv => whnf
                      refine WkF.step (Weak.keepS _ [0]) ?_
                      conv => whnf
                      exact WkF.refl _
                    conv => whnf
                    refine fkS h (fun h => ?_) (fun h => ?_)
                    · conv => whnf
                      exact jeS hk55 h (Weak.refl _)
                    conv => whnf
                    refine ⟨9, ?_⟩
                    conv => whnf
                    refine drS (by kernel_rfl) ?_
                    conv => whnf
                    refine ixS (enc := (eI .u8)) h rfl (fun _ => rfl) (fun x58 h => ?_)
                    conv => whnf
                    exact jeS hk55 h (Weak.refl _)
                  conv => whnf
                  refine inJ (fun w59 => ⟨[(11, .l (.d (.int .i64 w59.2.2))), (10, .l (.ptr 12 0)), (9, .l (.d (.int .i64 w55.2.2))), (8, .l (.ptr 12 0)), (7, .l (.d (.int .i64 w51.2.2))), (6, .l (.ptr 12 0)), (0, .l (.ptr 12 0)), (2, .l (.ptr 6003 0))], 16, [⟨[(21, .l (.mfn 103 12)), (20, .l (.own 5006)), (17, .l (.d (.bool true))), (0, .l (.ptr 12 0)), (1, .l (.mfn 103 12)), (5, .l (.own 5006)), (6, .l (.d (.int .i64 v49.2.2.2))), (17, .l (.d (.bool w50)))], 26⟩, ⟨[(17, .l (.mfn 103 12)), (16, .l (.ptr 12 0)), (15, .l (.ptr 12 0)), (14, .l (.d (.int .i64 w40.2.2))), (13, .l (.d (.int .i64 w36.2.2))), (12, .l (.d (.int .i64 w32.2.2))), (0, .l (.ptr 12 0)), (2, .l (.ptr 4003 0)), (3, .l (.d (.int .i64 w32.2.2))), (4, .l (.d (.int .i64 w36.2.2))), (5, .l (.d (.int .i64 w40.2.2)))], 20⟩, ⟨[(21, .l (.mfn 67 12)), (20, .l (.own 3006)), (17, .l (.d (.bool true))), (0, .l (.ptr 12 0)), (1, .l (.mfn 67 12)), (5, .l (.own 3006)), (6, .l (.d (.int .i64 v29.2.2.2))), (17, .l (.d (.bool w30)))], 26⟩, ⟨[(14, .l (.mfn 67 12)), (13, .l (.ptr 12 0)), (12, .l (.ptr 12 0)), (11, .agg [.d (.int .i64 w16.2.2), .d (.int .i64 w20.2.2)]), (10, .l (.d (.int .i64 w20.2.2))), (9, .l (.d (.int .i64 w16.2.2))), (0, .l (.ptr 12 0)), (2, .l (.ptr 2003 0)), (3, .l (.d (.int .i64 w16.2.2))), (4, .l (.d (.int .i64 w20.2.2)))], 17⟩, ⟨[(21, .l (.mfn 46 12)), (20, .l (.own 1006)), (17, .l (.d (.bool true))), (0, .l (.ptr 12 0)), (1, .l (.mfn 46 12)), (5, .l (.own 1006)), (6, .l (.d (.int .i64 v13.2.2.2))), (17, .l (.d (.bool w14)))], 26⟩, ⟨[(34, .l (.mfn 46 12)), (33, .l (.ptr 12 0)), (32, .l (.ptr 12 0)), (13, .l (.d (.bool false))), (0, .l (.d (.sl (a0.map (eI .u8))))), (2, .l (.ptr 3 0)), (5, .l (.ptr 12 0)), (12, .l (.d (.int .i64 v1.2.2))), (13, .l (.d (.bool (decide (v1.2.2 < (3 : Int))))))], 74⟩], [(3, [.nil, .nil]), (12, [.d (.sl (a0.map (eI .u8))), .d (.int .i64 w59.1), .d (.int .i64 w59.2.1)]), (2003, [.d (.int .i64 (0 : Int)), .d (.int .i64 (0 : Int)), .nil]), (4003, [.d (.int .i64 (0 : Int)), .d (.int .i64 (0 : Int)), .d (.int .i64 (0 : Int)), .nil]), (6003, [.d (.int .i64 (0 : Int)), .d (.int .i64 (0 : Int)), .d (.int .i64 (0 : Int))])], [(1006, 121, 3, v13.2.2.1.map Part.enc), (3006, 53, 4, v29.2.2.1.map Task.enc), (5006, 142, 3, v49.2.2.1.map Sec.enc)]⟩) h (fun k59 hk59 h => ?_) (fun w59 h => ?_)
                  · conv => whnf
                    refine inS (fn := Tryz.f44) tab ⟨[(0, [0]), (1, [0, 19]), (2, [0]), (3, [0, 27]), (4, [2]), (5, [0]), (6, [2])], [], [100019, 3], []⟩ 47 [.tmp 2] rfl rfl rfl rfl rfl rfl ?_
                    conv => whnf
                    refine jnS (fun w60 => ⟨[(0, .l (.ptr 12 0))], 47, [⟨[(10, .l (.ptr 12 0)), (9, .l (.d (.int .i64 w55.2.2))), (8, .l (.ptr 12 0)), (7, .l (.d (.int .i64 w51.2.2))), (6, .l (.ptr 12 0)), (0, .l (.ptr 12 0)), (2, .l (.ptr 6003 0))], 16⟩, ⟨[(21, .l (.mfn 103 12)), (20, .l (.own 5006)), (17, .l (.d (.bool true))), (0, .l (.ptr 12 0)), (1, .l (.mfn 103 12)), (5, .l (.own 5006)), (6, .l (.d (.int .i64 v49.2.2.2))), (17, .l (.d (.bool w50)))], 26⟩, ⟨[(17, .l (.mfn 103 12)), (16, .l (.ptr 12 0)), (15, .l (.ptr 12 0)), (14, .l (.d (.int .i64 w40.2.2))), (13, .l (.d (.int .i64 w36.2.2))), (12, .l (.d (.int .i64 w32.2.2))), (0, .l (.ptr 12 0)), (2, .l (.ptr 4003 0)), (3, .l (.d (.int .i64 w32.2.2))), (4, .l (.d (.int .i64 w36.2.2))), (5, .l (.d (.int .i64 w40.2.2)))], 20⟩, ⟨[(21, .l (.mfn 67 12)), (20, .l (.own 3006)), (17, .l (.d (.bool true))), (0, .l (.ptr 12 0)), (1, .l (.mfn 67 12)), (5, .l (.own 3006)), (6, .l (.d (.int .i64 v29.2.2.2))), (17, .l (.d (.bool w30)))], 26⟩, ⟨[(14, .l (.mfn 67 12)), (13, .l (.ptr 12 0)), (12, .l (.ptr 12 0)), (11, .agg [.d (.int .i64 w16.2.2), .d (.int .i64 w20.2.2)]), (10, .l (.d (.int .i64 w20.2.2))), (9, .l (.d (.int .i64 w16.2.2))), (0, .l (.ptr 12 0)), (2, .l (.ptr 2003 0)), (3, .l (.d (.int .i64 w16.2.2))), (4, .l (.d (.int .i64 w20.2.2)))], 17⟩, ⟨[(21, .l (.mfn 46 12)), (20, .l (.own 1006)), (17, .l (.d (.bool true))), (0, .l (.ptr 12 0)), (1, .l (.mfn 46 12)), (5, .l (.own 1006)), (6, .l (.d (.int .i64 v13.2.2.2))), (17, .l (.d (.bool w14)))], 26⟩, ⟨[(34, .l (.mfn 46 12)), (33, .l (.ptr 12 0)), (32, .l (.ptr 12 0)), (13, .l (.d (.bool false))), (0, .l (.d (.sl (a0.map (eI .u8))))), (2, .l (.ptr 3 0)), (5, .l (.ptr 12 0)), (12, .l (.d (.int .i64 v1.2.2))), (13, .l (.d (.bool (decide (v1.2.2 < (3 : Int))))))], 74⟩], [(3, [.nil, .nil]), (12, [.d (.sl (a0.map (eI .u8))), .d (.int .i64 w55.1), .d (.int .i64 w60)]), (2003, [.d (.int .i64 (0 : Int)), .d (.int .i64 (0 : Int)), .nil]), (4003, [.d (.int .i64 (0 : Int)), .d (.int .i64 (0 : Int)), .d (.int .i64 (0 : Int)), .nil]), (6003, [.d (.int .i64 (0 : Int)), .d (.int .i64 (0 : Int)), .d (.int .i64 (0 : Int))])], [(1006, 121, 3, v13.2.2.1.map Part.enc), (3006, 53, 4, v29.2.2.1.map Task.enc), (5006, 142, 3, v49.2.2.1.map Sec.enc)]⟩) h (fun k60 hk60 h => ?_) (fun w60 h => ?_)
                    · conv => whnf
                      refine jnS (fun w61 => ⟨[(0, .l (.ptr 12 0)), (19, .l (.d (.bool w61)))], 47, [⟨[(10, .l (.ptr 12 0)), (9, .l (.d (.int .i64 w55.2.2))), (8, .l (.ptr 12 0)), (7, .l (.d (.int .i64 w51.2.2))), (6, .l (.ptr 12 0)), (0, .l (.ptr 12 0)), (2, .l (.ptr 6003 0))], 16⟩, ⟨[(21, .l (.mfn 103 12)), (20, .l (.own 5006)), (17, .l (.d (.bool true))), (0, .l (.ptr 12 0)), (1, .l (.mfn 103 12)), (5, .l (.own 5006)), (6, .l (.d (.int .i64 v49.2.2.2))), (17, .l (.d (.bool w50)))], 26⟩, ⟨[(17, .l (.mfn 103 12)), (16, .l (.ptr 12 0)), (15, .l (.ptr 12 0)), (14, .l (.d (.int .i64 w40.2.2))), (13, .l (.d (.int .i64 w36.2.2))), (12, .l (.d (.int .i64 w32.2.2))), (0, .l (.ptr 12 0)), (2, .l (.ptr 4003 0)), (3, .l (.d (.int .i64 w32.2.2))), (4, .l (.d (.int .i64 w36.2.2))), (5, .l (.d (.int .i64 w40.2.2)))], 20⟩, ⟨[(21, .l (.mfn 67 12)), (20, .l (.own 3006)), (17, .l (.d (.bool true))), (0, .l (.ptr 12 0)), (1, .l (.mfn 67 12)), (5, .l (.own 3006)), (6, .l (.d (.int .i64 v29.2.2.2))), (17, .l (.d (.bool w30)))], 26⟩, ⟨[(14, .l (.mfn 67 12)), (13, .l (.ptr 12 0)), (12, .l (.ptr 12 0)), (11, .agg [.d (.int .i64 w16.2.2), .d (.int .i64 w20.2.2)]), (10, .l (.d (.int .i64 w20.2.2))), (9, .l (.d (.int .i64 w16.2.2))), (0, .l (.ptr 12 0)), (2, .l (.ptr 2003 0)), (3, .l (.d (.int .i64 w16.2.2))), (4, .l (.d (.int .i64 w20.2.2)))], 17⟩, ⟨[(21, .l (.mfn 46 12)), (20, .l (.own 1006)), (17, .l (.d (.bool true))), (0, .l (.ptr 12 0)), (1, .l (.mfn 46 12)), (5, .l (.own 1006)), (6, .l (.d (.int .i64 v13.2.2.2))), (17, .l (.d (.bool w14)))], 26⟩, ⟨[(34, .l (.mfn 46 12)), (33, .l (.ptr 12 0)), (32, .l (.ptr 12 0)), (13, .l (.d (.bool false))), (0, .l (.d (.sl (a0.map (eI .u8))))), (2, .l (.ptr 3 0)), (5, .l (.ptr 12 0)), (12, .l (.d (.int .i64 v1.2.2))), (13, .l (.d (.bool (decide (v1.2.2 < (3 : Int))))))], 74⟩], [(3, [.nil, .nil]), (12, [.d (.sl (a0.map (eI .u8))), .d (.int .i64 w55.1), .d (.int .i64 w55.2.1)]), (2003, [.d (.int .i64 (0 : Int)), .d (.int .i64 (0 : Int)), .nil]), (4003, [.d (.int .i64 (0 : Int)), .d (.int .i64 (0 : Int)), .d (.int .i64 (0 : Int)), .nil]), (6003, [.d (.int .i64 (0 : Int)), .d (.int .i64 (0 : Int)), .d (.int .i64 (0 : Int))])], [(1006, 121, 3, v13.2.2.1.map Part.enc), (3006, 53, 4, v29.2.2.1.map Task.enc), (5006, 142, 3, v49.2.2.1.map Sec.enc)]⟩) h (fun k61 hk61 h => ?_) (fun w61 h => ?_)
                      · conv => whnf
                        refine ⟨17, ?_⟩
                        conv => whnf
                        refine fkS h (fun h => ?_) (fun h => ?_)
                        · conv => whnf
                          refine lenS a0 (eI .u8) rfl ?_
                          conv => whnf
                          refine drS (by kernel_rfl) ?_
                          conv => whnf
                          exact jeS hk61 h (Weak.refl _)
                        conv => whnf
                        refine drS (by kernel_rfl) ?_
                        conv => whnf
                        exact jeS hk61 h (Weak.refl _)
                      conv => whnf
                      refine fkS h (fun h => ?_) (fun h => ?_)
                      · conv => whnf
                        exact jeS hk60 h (Weak.refl _)
                      conv => whnf
                      refine jeX hk60 h ?_
                      conv => whnf
                      refine WkF.step (Weak.keepS _ [0]) ?_
                      conv => whnf
                      exact WkF.refl _
                    conv => whnf
                    refine fkS h (fun h => ?_) (fun h => ?_)
                    · conv => whnf
                      exact jeS hk59 h (Weak.refl _)
                    conv => whnf
                    refine ⟨9, ?_⟩
                    conv => whnf
                    refine drS (by kernel_rfl) ?_
                    conv => whnf
                    refine ixS (enc := (eI .u8)) h rfl (fun _ => rfl) (fun x62 h => ?_)
                    conv => whnf
                    exact jeS hk59 h (Weak.refl _)
                  conv => whnf
                  refine liS ([⟨w51.2.2, w55.2.2, w59.2.2⟩] : List Sec) Sec.enc rfl rfl ?_
                  conv => whnf
                  refine apS (enc := Sec.enc) (l1 := v49.2.2.1) (l2 := ([⟨w51.2.2, w55.2.2, w59.2.2⟩] : List Sec)) h rfl rfl (fun _ => rfl) (fun h => ?_)
                  conv => whnf
                  exact leS hn49 h (Weak.refl _)
                conv => whnf
                refine jeX hk44 h ?_
                conv => whnf
                refine WkF.step (Weak.rekey _ 5005 4019 rfl) ?_
                conv => whnf
                exact WkF.refl _
              conv => whnf
              refine jeX hk31 h ?_
              conv => whnf
              refine WkF.step (Weak.keepS _ [22, 21, 20, 17, 0, 1, 5, 6]) ?_
              conv => whnf
              refine WkF.step (Weak.rekey _ 4019 403023 rfl) ?_
              conv => whnf
              exact WkF.refl _
            conv => whnf
            refine liS ([⟨w31.2.2.2.1, w31.2.2.2.2.1, w31.2.2.2.2.2, w31.2.2.1⟩] : List Task) Task.enc rfl rfl ?_
            conv => whnf
            refine apS (enc := Task.enc) (l1 := v29.2.2.1) (l2 := ([⟨w31.2.2.2.1, w31.2.2.2.2.1, w31.2.2.2.2.2, w31.2.2.1⟩] : List Task)) h rfl rfl (fun _ => rfl) (fun h => ?_)
            conv => whnf
            exact leS hn29 h (Weak.refl _)
          conv => whnf
          refine jeX hk24 h ?_
          conv => whnf
          refine WkF.step (Weak.rekey _ 3005 2016 rfl) ?_
          conv => whnf
          exact WkF.refl _
        conv => whnf
        refine jeX hk15 h ?_
        conv => whnf
        refine WkF.step (Weak.keepS _ [22, 21, 20, 17, 0, 1, 5, 6]) ?_
        conv => whnf
        refine WkF.step (Weak.rekey _ 2016 301023 rfl) ?_
        conv => whnf
        exact WkF.refl _
      conv => whnf
      refine liS ([⟨⟨w15.2.2.2.1, w15.2.2.2.2⟩, w15.2.2.1⟩] : List Part) Part.enc rfl rfl ?_
      conv => whnf
      refine apS (enc := Part.enc) (l1 := v13.2.2.1) (l2 := ([⟨⟨w15.2.2.2.1, w15.2.2.2.2⟩, w15.2.2.1⟩] : List Part)) h rfl rfl (fun _ => rfl) (fun h => ?_)
      conv => whnf
      exact leS hn13 h (Weak.refl _)
    conv => whnf
    refine jeX hk8 h ?_
    conv => whnf
    refine WkF.step (Weak.keepS _ [35, 34, 33, 32, 13, 0, 2, 5, 12]) ?_
    conv => whnf
    refine WkF.step (Weak.rekey _ 1005 36 rfl) ?_
    conv => whnf
    exact WkF.refl _
  conv => whnf
  refine inJ (fun w63 => ⟨[(40, .l (.own 41)), (39, .l (.mfn 48 12)), (38, .l (.ptr 12 0)), (37, .l (.ptr 12 0)), (0, .l (.d (.sl (a0.map (eI .u8))))), (2, .l (.ptr 3 0)), (5, .l (.ptr 12 0)), (8, .l (.ptr 9 0))], 74, [], [(3, [.nil, .nil]), (9, [.own 36, .nil]), (12, [.d (.sl (a0.map (eI .u8))), .d (.int .i64 w63.1), .d (.int .i64 w63.2.1)])], [(36, 121, 3, w8.2.2.map Part.enc), (41, 125, 3, w63.2.2.map Port.enc)]⟩) h (fun k63 hk63 h => ?_) (fun w63 h => ?_)
  · conv => whnf
    refine inS (fn := Tryz.f47) tab ⟨[(0, [0, 1]), (1, [0, 1, 5]), (2, [0, 1, 5, 6]), (3, [0, 1, 5, 6, 17]), (4, [0, 1, 5, 6]), (5, [0, 1, 5, 6]), (6, [4])], [], [100017], []⟩ 26 [.tmp 4] rfl rfl rfl rfl rfl rfl ?_
    conv => whnf
    refine inJ (fun w64 => ⟨[(8, .l (.d (.int .i64 w64.2.2))), (7, .l (.ptr 12 0)), (0, .l (.ptr 12 0)), (1, .l (.mfn 48 12)), (5, .l .nil)], 26, [⟨[(39, .l (.mfn 48 12)), (38, .l (.ptr 12 0)), (37, .l (.ptr 12 0)), (0, .l (.d (.sl (a0.map (eI .u8))))), (2, .l (.ptr 3 0)), (5, .l (.ptr 12 0)), (8, .l (.ptr 9 0))], 74⟩], [(3, [.nil, .nil]), (9, [.own 36, .nil]), (12, [.d (.sl (a0.map (eI .u8))), .d (.int .i64 w64.1), .d (.int .i64 w64.2.1)])], [(36, 121, 3, w8.2.2.map Part.enc)]⟩) h (fun k64 hk64 h => ?_) (fun w64 h => ?_)
    · conv => whnf
      refine inS (fn := Tryz.f44) tab ⟨[(0, [0]), (1, [0, 19]), (2, [0]), (3, [0, 27]), (4, [2]), (5, [0]), (6, [2])], [], [100019, 3], []⟩ 47 [.tmp 2] rfl rfl rfl rfl rfl rfl ?_
      conv => whnf
      refine jnS (fun w65 => ⟨[(0, .l (.ptr 12 0))], 47, [⟨[(7, .l (.ptr 12 0)), (0, .l (.ptr 12 0)), (1, .l (.mfn 48 12)), (5, .l .nil)], 26⟩, ⟨[(39, .l (.mfn 48 12)), (38, .l (.ptr 12 0)), (37, .l (.ptr 12 0)), (0, .l (.d (.sl (a0.map (eI .u8))))), (2, .l (.ptr 3 0)), (5, .l (.ptr 12 0)), (8, .l (.ptr 9 0))], 74⟩], [(3, [.nil, .nil]), (9, [.own 36, .nil]), (12, [.d (.sl (a0.map (eI .u8))), .d (.int .i64 w8.1), .d (.int .i64 w65)])], [(36, 121, 3, w8.2.2.map Part.enc)]⟩) h (fun k65 hk65 h => ?_) (fun w65 h => ?_)
      · conv => whnf
        refine jnS (fun w66 => ⟨[(0, .l (.ptr 12 0)), (19, .l (.d (.bool w66)))], 47, [⟨[(7, .l (.ptr 12 0)), (0, .l (.ptr 12 0)), (1, .l (.mfn 48 12)), (5, .l .nil)], 26⟩, ⟨[(39, .l (.mfn 48 12)), (38, .l (.ptr 12 0)), (37, .l (.ptr 12 0)), (0, .l (.d (.sl (a0.map (eI .u8))))), (2, .l (.ptr 3 0)), (5, .l (.ptr 12 0)), (8, .l (.ptr 9 0))], 74⟩], [(3, [.nil, .nil]), (9, [.own 36, .nil]), (12, [.d (.sl (a0.map (eI .u8))), .d (.int .i64 w8.1), .d (.int .i64 w8.2.1)])], [(36, 121, 3, w8.2.2.map Part.enc)]⟩) h (fun k66 hk66 h => ?_) (fun w66 h => ?_)
        · conv => whnf
          refine ⟨17, ?_⟩
          conv => whnf
          refine fkS h (fun h => ?_) (fun h => ?_)
          · conv => whnf
            refine lenS a0 (eI .u8) rfl ?_
            conv => whnf
            refine drS (by kernel_rfl) ?_
            conv => whnf
            exact jeS hk66 h (Weak.refl _)
          conv => whnf
          refine drS (by kernel_rfl) ?_
          conv => whnf
          exact jeS hk66 h (Weak.refl _)
        conv => whnf
        refine fkS h (fun h => ?_) (fun h => ?_)
        · conv => whnf
          exact jeS hk65 h (Weak.refl _)
        conv => whnf
        refine jeX hk65 h ?_
        conv => whnf
        refine WkF.step (Weak.keepS _ [0]) ?_
        conv => whnf
        exact WkF.refl _
      conv => whnf
      refine fkS h (fun h => ?_) (fun h => ?_)
      · conv => whnf
        exact jeS hk64 h (Weak.refl _)
      conv => whnf
      refine ⟨9, ?_⟩
      conv => whnf
      refine drS (by kernel_rfl) ?_
      conv => whnf
      refine ixS (enc := (eI .u8)) h rfl (fun _ => rfl) (fun x67 h => ?_)
      conv => whnf
      exact jeS hk64 h (Weak.refl _)
    conv => whnf
    refine lpS (fun v68 => ⟨[(0, .l (.ptr 12 0)), (1, .l (.mfn 48 12)), (5, .l (.own 1006)), (6, .l (.d (.int .i64 v68.2.2.2)))], 26, [⟨[(39, .l (.mfn 48 12)), (38, .l (.ptr 12 0)), (37, .l (.ptr 12 0)), (0, .l (.d (.sl (a0.map (eI .u8))))), (2, .l (.ptr 3 0)), (5, .l (.ptr 12 0)), (8, .l (.ptr 9 0))], 74⟩], [(3, [.nil, .nil]), (9, [.own 36, .nil]), (12, [.d (.sl (a0.map (eI .u8))), .d (.int .i64 v68.1), .d (.int .i64 v68.2.1)])], [(36, 121, 3, w8.2.2.map Part.enc), (1006, 125, 3, v68.2.2.1.map Port.enc)]⟩) h (Weak.trans (Weak.nilO _ 5 1006 125 3 rfl) (Weak.refl _)) (fun _ nx68 hn68 v68 h => ?_)
    conv => whnf
    refine jnS (fun w69 => ⟨[(0, .l (.ptr 12 0)), (1, .l (.mfn 48 12)), (5, .l (.own 1006)), (6, .l (.d (.int .i64 v68.2.2.2))), (17, .l (.d (.bool w69)))], 26, [⟨[(39, .l (.mfn 48 12)), (38, .l (.ptr 12 0)), (37, .l (.ptr 12 0)), (0, .l (.d (.sl (a0.map (eI .u8))))), (2, .l (.ptr 3 0)), (5, .l (.ptr 12 0)), (8, .l (.ptr 9 0))], 74⟩], [(3, [.nil, .nil]), (9, [.own 36, .nil]), (12, [.d (.sl (a0.map (eI .u8))), .d (.int .i64 v68.1), .d (.int .i64 v68.2.1)])], [(36, 121, 3, w8.2.2.map Part.enc), (1006, 125, 3, v68.2.2.1.map Port.enc)]⟩) h (fun k69 hk69 h => ?_) (fun w69 h => ?_)
    · conv => whnf
      refine fkS h (fun h => ?_) (fun h => ?_)
      · conv => whnf
        exact jeS hk69 h (Weak.refl _)
      conv => whnf
      exact jeS hk69 h (Weak.refl _)
    conv => whnf
    refine fkS h (fun h => ?_) (fun h => ?_)
    · conv => whnf
      refine inS (fn := Tryz.f48) tab ⟨[(0, [0, 2]), (1, [2, 3, 4, 5]), (2, [2])], [], [], []⟩ 16 [.cell 2 125] rfl rfl rfl rfl rfl rfl ?_
      conv => whnf
      refine inJ (fun w70 => ⟨[(7, .l (.d (.int .i64 w70.2.2))), (6, .l (.ptr 12 0)), (0, .l (.ptr 12 0)), (2, .l (.ptr 2003 0))], 16, [⟨[(21, .l (.mfn 48 12)), (20, .l (.own 1006)), (17, .l (.d (.bool true))), (0, .l (.ptr 12 0)), (1, .l (.mfn 48 12)), (5, .l (.own 1006)), (6, .l (.d (.int .i64 v68.2.2.2))), (17, .l (.d (.bool w69)))], 26⟩, ⟨[(39, .l (.mfn 48 12)), (38, .l (.ptr 12 0)), (37, .l (.ptr 12 0)), (0, .l (.d (.sl (a0.map (eI .u8))))), (2, .l (.ptr 3 0)), (5, .l (.ptr 12 0)), (8, .l (.ptr 9 0))], 74⟩], [(3, [.nil, .nil]), (9, [.own 36, .nil]), (12, [.d (.sl (a0.map (eI .u8))), .d (.int .i64 w70.1), .d (.int .i64 w70.2.1)]), (2003, [.d (.int .i64 (0 : Int)), .d (.int .i64 (0 : Int)), .d (.int .i64 (0 : Int))])], [(36, 121, 3, w8.2.2.map Part.enc), (1006, 125, 3, v68.2.2.1.map Port.enc)]⟩) h (fun k70 hk70 h => ?_) (fun w70 h => ?_)
      · conv => whnf
        refine inS (fn := Tryz.f44) tab ⟨[(0, [0]), (1, [0, 19]), (2, [0]), (3, [0, 27]), (4, [2]), (5, [0]), (6, [2])], [], [100019, 3], []⟩ 47 [.tmp 2] rfl rfl rfl rfl rfl rfl ?_
        conv => whnf
        refine jnS (fun w71 => ⟨[(0, .l (.ptr 12 0))], 47, [⟨[(6, .l (.ptr 12 0)), (0, .l (.ptr 12 0)), (2, .l (.ptr 2003 0))], 16⟩, ⟨[(21, .l (.mfn 48 12)), (20, .l (.own 1006)), (17, .l (.d (.bool true))), (0, .l (.ptr 12 0)), (1, .l (.mfn 48 12)), (5, .l (.own 1006)), (6, .l (.d (.int .i64 v68.2.2.2))), (17, .l (.d (.bool w69)))], 26⟩, ⟨[(39, .l (.mfn 48 12)), (38, .l (.ptr 12 0)), (37, .l (.ptr 12 0)), (0, .l (.d (.sl (a0.map (eI .u8))))), (2, .l (.ptr 3 0)), (5, .l (.ptr 12 0)), (8, .l (.ptr 9 0))], 74⟩], [(3, [.nil, .nil]), (9, [.own 36, .nil]), (12, [.d (.sl (a0.map (eI .u8))), .d (.int .i64 v68.1), .d (.int .i64 w71)]), (2003, [.d (.int .i64 (0 : Int)), .d (.int .i64 (0 : Int)), .d (.int .i64 (0 : Int))])], [(36, 121, 3, w8.2.2.map Part.enc), (1006, 125, 3, v68.2.2.1.map Port.enc)]⟩) h (fun k71 hk71 h => ?_) (fun w71 h => ?_)
        · conv => whnf
          refine jnS (fun w72 => ⟨[(0, .l (.ptr 12 0)), (19, .l (.d (.bool w72)))], 47, [⟨[(6, .l (.ptr 12 0)), (0, .l (.ptr 12 0)), (2, .l (.ptr 2003 0))], 16⟩, ⟨[(21, .l (.mfn 48 12)), (20, .l (.own 1006)), (17, .l (.d (.bool true))), (0, .l (.ptr 12 0)), (1, .l (.mfn 48 12)), (5, .l (.own 1006)), (6, .l (.d (.int .i64 v68.2.2.2))), (17, .l (.d (.bool w69)))], 26⟩, ⟨[(39, .l (.mfn 48 12)), (38, .l (.ptr 12 0)), (37, .l (.ptr 12 0)), (0, .l (.d (.sl (a0.map (eI .u8))))), (2, .l (.ptr 3 0)), (5, .l (.ptr 12 0)), (8, .l (.ptr 9 0))], 74⟩], [(3, [.nil, .nil]), (9, [.own 36, .nil]), (12, [.d (.sl (a0.map (eI .u8))), .d (.int .i64 v68.1), .d (.int .i64 v68.2.1)]), (2003, [.d (.int .i64 (0 : Int)), .d (.int .i64 (0 : Int)), .d (.int .i64 (0 : Int))])], [(36, 121, 3, w8.2.2.map Part.enc), (1006, 125, 3, v68.2.2.1.map Port.enc)]⟩) h (fun k72 hk72 h => ?_) (fun w72 h => ?_)
          · conv => whnf
            refine ⟨17, ?_⟩
            conv => whnf
            refine fkS h (fun h => ?_) (fun h => ?_)
            · conv => whnf
              refine lenS a0 (eI .u8) rfl ?_
              conv => whnf
              refine drS (by kernel_rfl) ?_
              conv => whnf
              exact jeS hk72 h (Weak.refl _)
            conv => whnf
            refine drS (by kernel_rfl) ?_
            conv => whnf
            exact jeS hk72 h (Weak.refl _)
          conv => whnf
          refine fkS h (fun h => ?_) (fun h => ?_)
          · conv => whnf
            exact jeS hk71 h (Weak.refl _)
          conv => whnf
          refine jeX hk71 h ?_
          conv => whnf
          refine WkF.step (Weak.keepS _ [0]) ?_
          conv => whnf
          exact WkF.refl _
        conv => whnf
        refine fkS h (fun h => ?_) (fun h => ?_)
        · conv => whnf
          exact jeS hk70 h (Weak.refl _)
        conv => whnf
        refine ⟨9, ?_⟩
        conv => whnf
        refine drS (by kernel_rfl) ?_
        conv => whnf
        refine ixS (enc := (eI .u8)) h rfl (fun _ => rfl) (fun x73 h => ?_)
        conv => whnf
        exact jeS hk70 h (Weak.refl _)
      conv => whnf
      refine inJ (fun w74 => ⟨[(9, .l (.d (.int .i64 w74.2.2))), (8, .l (.ptr 12 0)), (7, .l (.d (.int .i64 w70.2.2))), (6, .l (.ptr 12 0)), (0, .l (.ptr 12 0)), (2, .l (.ptr 2003 0))], 16, [⟨[(21, .l (.mfn 48 12)), (20, .l (.own 1006)), (17, .l (.d (.bool true))), (0, .l (.ptr 12 0)), (1, .l (.mfn 48 12)), (5, .l (.own 1006)), (6, .l (.d (.int .i64 v68.2.2.2))), (17, .l (.d (.bool w69)))], 26⟩, ⟨[(39, .l (.mfn 48 12)), (38, .l (.ptr 12 0)), (37, .l (.ptr 12 0)), (0, .l (.d (.sl (a0.map (eI .u8))))), (2, .l (.ptr 3 0)), (5, .l (.ptr 12 0)), (8, .l (.ptr 9 0))], 74⟩], [(3, [.nil, .nil]), (9, [.own 36, .nil]), (12, [.d (.sl (a0.map (eI .u8))), .d (.int .i64 w74.1), .d (.int .i64 w74.2.1)]), (2003, [.d (.int .i64 (0 : Int)), .d (.int .i64 (0 : Int)), .d (.int .i64 (0 : Int))])], [(36, 121, 3, w8.2.2.map Part.enc), (1006, 125, 3, v68.2.2.1.map Port.enc)]⟩) h (fun k74 hk74 h => ?_) (fun w74 h => ?_)
      · conv => whnf
        refine inS (fn := Tryz.f44) tab ⟨[(0, [0]), (1, [0, 19]), (2, [0]), (3, [0, 27]), (4, [2]), (5, [0]), (6, [2])], [], [100019, 3], []⟩ 47 [.tmp 2] rfl rfl rfl rfl rfl rfl ?_
        conv => whnf
        refine jnS (fun w75 => ⟨[(0, .l (.ptr 12 0))], 47, [⟨[(8, .l (.ptr 12 0)), (7, .l (.d (.int .i64 w70.2.2))), (6, .l (.ptr 12 0)), (0, .l (.ptr 12 0)), (2, .l (.ptr 2003 0))], 16⟩, ⟨[(21, .l (.mfn 48 12)), (20, .l (.own 1006)), (17, .l (.d (.bool true))), (0, .l (.ptr 12 0)), (1, .l (.mfn 48 12)), (5, .l (.own 1006)), (6, .l (.d (.int .i64 v68.2.2.2))), (17, .l (.d (.bool w69)))], 26⟩, ⟨[(39, .l (.mfn 48 12)), (38, .l (.ptr 12 0)), (37, .l (.ptr 12 0)), (0, .l (.d (.sl (a0.map (eI .u8))))), (2, .l (.ptr 3 0)), (5, .l (.ptr 12 0)), (8, .l (.ptr 9 0))], 74⟩], [(3, [.nil, .nil]), (9, [.own 36, .nil]), (12, [.d (.sl (a0.map (eI .u8))), .d (.int .i64 w70.1), .d (.int .i64 w75)]), (2003, [.d (.int .i64 (0 : Int)), .d (.int .i64 (0 : Int)), .d (.int .i64 (0 : Int))])], [(36, 121, 3, w8.2.2.map Part.enc), (1006, 125, 3, v68.2.2.1.map Port.enc)]⟩) h (fun k75 hk75 h => ?_) (fun w75 h => ?_)
        · conv => whnf
          refine jnS (fun w76 => ⟨[(0, .l (.ptr 12 0)), (19, .l (.d (.bool w76)))], 47, [⟨[(8, .l (.ptr 12 0)), (7, .l (.d (.int .i64 w70.2.2))), (6, .l (.ptr 12 0)), (0, .l (.ptr 12 0)), (2, .l (.ptr 2003 0))], 16⟩, ⟨[(21, .l (.mfn 48 12)), (20, .l (.own 1006)), (17, .l (.d (.bool true))), (0, .l (.ptr 12 0)), (1, .l (.mfn 48 12)), (5, .l (.own 1006)), (6, .l (.d (.int .i64 v68.2.2.2))), (17, .l (.d (.bool w69)))], 26⟩, ⟨[(39, .l (.mfn 48 12)), (38, .l (.ptr 12 0)), (37, .l (.ptr 12 0)), (0, .l (.d (.sl (a0.map (eI .u8))))), (2, .l (.ptr 3 0)), (5, .l (.ptr 12 0)), (8, .l (.ptr 9 0))], 74⟩], [(3, [.nil, .nil]), (9, [.own 36, .nil]), (12, [.d (.sl (a0.map (eI .u8))), .d (.int .i64 w70.1), .d (.int .i64 w70.2.1)]), (2003, [.d (.int .i64 (0 : Int)), .d (.int .i64 (0 : Int)), .d (.int .i64 (0 : Int))])], [(36, 121, 3, w8.2.2.map Part.enc), (1006, 125, 3, v68.2.2.1.map Port.enc)]⟩) h (fun k76 hk76 h => ?_) (fun w76 h => ?_)
          · conv => whnf
            refine ⟨17, ?_⟩
            conv => whnf
            refine fkS h (fun h => ?_) (fun h => ?_)
            · conv => whnf
              refine lenS a0 (eI .u8) rfl ?_
              conv => whnf
              refine drS (by kernel_rfl) ?_
              conv => whnf
              exact jeS hk76 h (Weak.refl _)
            conv => whnf
            refine drS (by kernel_rfl) ?_
            conv => whnf
            exact jeS hk76 h (Weak.refl _)
          conv => whnf
          refine fkS h (fun h => ?_) (fun h => ?_)
          · conv => whnf
            exact jeS hk75 h (Weak.refl _)
          conv => whnf
          refine jeX hk75 h ?_
          conv => whnf
          refine WkF.step (Weak.keepS _ [0]) ?_
          conv => whnf
          exact WkF.refl _
        conv => whnf
        refine fkS h (fun h => ?_) (fun h => ?_)
        · conv => whnf
          exact jeS hk74 h (Weak.refl _)
        conv => whnf
        refine ⟨9, ?_⟩
        conv => whnf
        refine drS (by kernel_rfl) ?_
        conv => whnf
        refine ixS (enc := (eI .u8)) h rfl (fun _ => rfl) (fun x77 h => ?_)
        conv => whnf
        exact jeS hk74 h (Weak.refl _)
      conv => whnf
      refine inJ (fun w78 => ⟨[(11, .l (.d (.int .i64 w78.2.2))), (10, .l (.ptr 12 0)), (9, .l (.d (.int .i64 w74.2.2))), (8, .l (.ptr 12 0)), (7, .l (.d (.int .i64 w70.2.2))), (6, .l (.ptr 12 0)), (0, .l (.ptr 12 0)), (2, .l (.ptr 2003 0))], 16, [⟨[(21, .l (.mfn 48 12)), (20, .l (.own 1006)), (17, .l (.d (.bool true))), (0, .l (.ptr 12 0)), (1, .l (.mfn 48 12)), (5, .l (.own 1006)), (6, .l (.d (.int .i64 v68.2.2.2))), (17, .l (.d (.bool w69)))], 26⟩, ⟨[(39, .l (.mfn 48 12)), (38, .l (.ptr 12 0)), (37, .l (.ptr 12 0)), (0, .l (.d (.sl (a0.map (eI .u8))))), (2, .l (.ptr 3 0)), (5, .l (.ptr 12 0)), (8, .l (.ptr 9 0))], 74⟩], [(3, [.nil, .nil]), (9, [.own 36, .nil]), (12, [.d (.sl (a0.map (eI .u8))), .d (.int .i64 w78.1), .d (.int .i64 w78.2.1)]), (2003, [.d (.int .i64 (0 : Int)), .d (.int .i64 (0 : Int)), .d (.int .i64 (0 : Int))])], [(36, 121, 3, w8.2.2.map Part.enc), (1006, 125, 3, v68.2.2.1.map Port.enc)]⟩) h (fun k78 hk78 h => ?_) (fun w78 h => ?_)
      · conv => whnf
        refine inS (fn := Tryz.f44) tab ⟨[(0, [0]), (1, [0, 19]), (2, [0]), (3, [0, 27]), (4, [2]), (5, [0]), (6, [2])], [], [100019, 3], []⟩ 47 [.tmp 2] rfl rfl rfl rfl rfl rfl ?_
        conv => whnf
        refine jnS (fun w79 => ⟨[(0, .l (.ptr 12 0))], 47, [⟨[(10, .l (.ptr 12 0)), (9, .l (.d (.int .i64 w74.2.2))), (8, .l (.ptr 12 0)), (7, .l (.d (.int .i64 w70.2.2))), (6, .l (.ptr 12 0)), (0, .l (.ptr 12 0)), (2, .l (.ptr 2003 0))], 16⟩, ⟨[(21, .l (.mfn 48 12)), (20, .l (.own 1006)), (17, .l (.d (.bool true))), (0, .l (.ptr 12 0)), (1, .l (.mfn 48 12)), (5, .l (.own 1006)), (6, .l (.d (.int .i64 v68.2.2.2))), (17, .l (.d (.bool w69)))], 26⟩, ⟨[(39, .l (.mfn 48 12)), (38, .l (.ptr 12 0)), (37, .l (.ptr 12 0)), (0, .l (.d (.sl (a0.map (eI .u8))))), (2, .l (.ptr 3 0)), (5, .l (.ptr 12 0)), (8, .l (.ptr 9 0))], 74⟩], [(3, [.nil, .nil]), (9, [.own 36, .nil]), (12, [.d (.sl (a0.map (eI .u8))), .d (.int .i64 w74.1), .d (.int .i64 w79)]), (2003, [.d (.int .i64 (0 : Int)), .d (.int .i64 (0 : Int)), .d (.int .i64 (0 : Int))])], [(36, 121, 3, w8.2.2.map Part.enc), (1006, 125, 3, v68.2.2.1.map Port.enc)]⟩) h (fun k79 hk79 h => ?_) (fun w79 h => ?_)
        · conv => whnf
          refine jnS (fun w80 => ⟨[(0, .l (.ptr 12 0)), (19, .l (.d (.bool w80)))], 47, [⟨[(10, .l (.ptr 12 0)), (9, .l (.d (.int .i64 w74.2.2))), (8, .l (.ptr 12 0)), (7, .l (.d (.int .i64 w70.2.2))), (6, .l (.ptr 12 0)), (0, .l (.ptr 12 0)), (2, .l (.ptr 2003 0))], 16⟩, ⟨[(21, .l (.mfn 48 12)), (20, .l (.own 1006)), (17, .l (.d (.bool true))), (0, .l (.ptr 12 0)), (1, .l (.mfn 48 12)), (5, .l (.own 1006)), (6, .l (.d (.int .i64 v68.2.2.2))), (17, .l (.d (.bool w69)))], 26⟩, ⟨[(39, .l (.mfn 48 12)), (38, .l (.ptr 12 0)), (37, .l (.ptr 12 0)), (0, .l (.d (.sl (a0.map (eI .u8))))), (2, .l (.ptr 3 0)), (5, .l (.ptr 12 0)), (8, .l (.ptr 9 0))], 74⟩], [(3, [.nil, .nil]), (9, [.own 36, .nil]), (12, [.d (.sl (a0.map (eI .u8))), .d (.int .i64 w74.1), .d (.int .i64 w74.2.1)]), (2003, [.d (.int .i64 (0 : Int)), .d (.int .i64 (0 : Int)), .d (.int .i64 (0 : Int))])], [(36, 121, 3, w8.2.2.map Part.enc), (1006, 125, 3, v68.2.2.1.map Port.enc)]⟩) h (fun k80 hk80 h => ?_) (fun w80 h => ?_)
          · conv => whnf
            refine ⟨17, ?_⟩
            conv => whnf
            refine fkS h (fun h => ?_) (fun h => ?_)
            · conv => whnf
              refine lenS a0 (eI .u8) rfl ?_
              conv => whnf
              refine drS (by kernel_rfl) ?_
              conv => whnf
              exact jeS hk80 h (Weak.refl _)
            conv => whnf
            refine drS (by kernel_rfl) ?_
            conv => whnf
            exact jeS hk80 h (Weak.refl _)
          conv => whnf
          refine fkS h (fun h => ?_) (fun h => ?_)
          · conv => whnf
            exact jeS hk79 h (Weak.refl _)
          conv => whnf
          refine jeX hk79 h ?_
          conv => whnf
          refine WkF.step (Weak.keepS _ [0]) ?_
          conv => whnf
          exact WkF.refl _
        conv => whnf
        refine fkS h (fun h => ?_) (fun h => ?_)
        · conv => whnf
          exact jeS hk78 h (Weak.refl _)
        conv => whnf
        refine ⟨9, ?_⟩
        conv => whnf
        refine drS (by kernel_rfl) ?_
        conv => whnf
        refine ixS (enc := (eI .u8)) h rfl (fun _ => rfl) (fun x81 h => ?_)
        conv => whnf
        exact jeS hk78 h (Weak.refl _)
      conv => whnf
      refine liS ([⟨w70.2.2, w74.2.2, w78.2.2⟩] : List Port) Port.enc rfl rfl ?_
      conv => whnf
      refine apS (enc := Port.enc) (l1 := v68.2.2.1) (l2 := ([⟨w70.2.2, w74.2.2, w78.2.2⟩] : List Port)) h rfl rfl (fun _ => rfl) (fun h => ?_)
      conv => whnf
      exact leS hn68 h (Weak.refl _)
    conv => whnf
    refine jeX hk63 h ?_
    conv => whnf
    refine WkF.step (Weak.rekey _ 1005 41 rfl) ?_
    conv => whnf
    exact WkF.refl _
  conv => whnf
  refine fkS h (fun h => ?_) (fun h => ?_)
  · conv => whnf
    refine ⟨9, ?_⟩
    conv => whnf
    refine lenS a0 (eI .u8) rfl ?_
    conv => whnf
    refine drS (by kernel_rfl) ?_
    conv => whnf
    exact rt (E := E_Config_Int_Int) h rfl
  conv => whnf
  refine lenS a0 (eI .u8) rfl ?_
  conv => whnf
  refine fkS h (fun h => ?_) (fun h => ?_)
  · conv => whnf
    refine ⟨6, ?_⟩
    conv => whnf
    refine drS (by kernel_rfl) ?_
    conv => whnf
    exact rt (E := E_Config_Int_Int) h rfl
  conv => whnf
  refine caS (E := E_Bool) h (image_Right_w ⟨w8.2.2, w63.2.2⟩) rfl (fun _ => rfl) (fun x82 h => ?_)
  conv => whnf
  refine fkS h (fun h => ?_) (fun h => ?_)
  · conv => whnf
    exact rt (E := E_Config_Int_Int) h rfl
  conv => whnf
  exact rt (E := E_Config_Int_Int) h rfl

end Go.Proofs.YtpephpefjddgcaaGreat
namespace Go.Proofs.YtpephpefjddgcaaGreat
open Go Go.VC
noncomputable def table_Make (a0 : List Face) : Option (TableTable × Int) :=
  bnd (synth_Lay a0) fun x1 => fk (!decide (x1.2 = (0 : Int))) (some (⟨(0 : Int), []⟩, x1.2)) (bnd (table_Of x1.1) fun x2 => some (x2.1, x2.2))
theorem table_Make_w (a0 : List Face) (r : TableTable × Int) (h : table_Make a0 = some r) : Go.VC.Spec Tryz.prog 12 [.d (.sl (a0.map Face.enc))] (fun y => y = E_TableTable_Int r) := by
  refine Go.VC.Spec.of_xc (args := [.d (.sl (a0.map Face.enc))]) (fn := Tryz.f12) tab ⟨[(0, [0, 2]), (1, [2, 4, 5]), (2, [2, 4, 5, 12]), (3, [2, 3]), (4, [2, 3])], [], [], []⟩ 19 [.cell 2 43, .tmp 3] rfl rfl rfl rfl rfl rfl ?_
  conv => whnf
  refine ccS (E := E_ListInt_Int) h (synth_Lay_w a0) rfl rfl (fun x1 h => ?_)
  conv => whnf
  refine fkS h (fun h => ?_) (fun h => ?_)
  · conv => whnf
    exact rt (E := E_TableTable_Int) h rfl
  conv => whnf
  refine ccS (E := E_TableTable_Int) h (table_Of_w x1.1) rfl rfl (fun x2 h => ?_)
  conv => whnf
  exact rt (E := E_TableTable_Int) h rfl

end Go.Proofs.YtpephpefjddgcaaGreat
namespace Go.Proofs.YtpephpefjddgcaaGreat
open Go Go.VC
def E_fn_admit_unless : Bool × Int → List CV := fun r => [.d (.fn 104 [[.bool r.1], [.int .i64 r.2]])]
noncomputable def admit_unless (a0 : Bool) (a1 : Int) : Option (Bool × Int) :=
  some (a0, a1)
theorem admit_unless_w (a0 : Bool) (a1 : Int) (r : Bool × Int) (h : admit_unless a0 a1 = some r) : Go.VC.Spec Tryz.prog 69 [.d (.bool a0), .d (.int .i64 a1)] (fun y => y = E_fn_admit_unless r) := by
  refine Go.VC.Spec.of_xc (args := [.d (.bool a0), .d (.int .i64 a1)]) (fn := Tryz.f69) tab ⟨[(0, [2, 3]), (1, [4])], [], [], []⟩ 6 [.tmp 4] rfl rfl rfl rfl rfl rfl ?_
  conv => whnf
  exact rt (E := E_fn_admit_unless) h rfl

end Go.Proofs.YtpephpefjddgcaaGreat
namespace Go.Proofs.YtpephpefjddgcaaGreat
open Go Go.VC
def E_fn_admit_fit : (List Task) × Int × Int → List CV := fun r => [.d (.fn 105 [[.sl (r.1.map Task.enc)], [.int .i64 r.2.1, .int .i64 r.2.2]])]
noncomputable def admit_fit (a0 : List Task) (a1 : Face) : Option ((List Task) × Int × Int) :=
  some (a0, a1.P, a1.B)
theorem admit_fit_w (a0 : List Task) (a1 : Face) (r : (List Task) × Int × Int) (h : admit_fit a0 a1 = some r) : Go.VC.Spec Tryz.prog 70 [.d (.sl (a0.map Task.enc)), .agg (Face.enc a1)] (fun y => y = E_fn_admit_fit r) := by
  refine Go.VC.Spec.of_xc (args := [.d (.sl (a0.map Task.enc)), .agg (Face.enc a1)]) (fn := Tryz.f70) tab ⟨[(0, [2, 3]), (1, [4])], [], [], []⟩ 6 [.tmp 4] rfl rfl rfl rfl rfl rfl ?_
  conv => whnf
  exact rt (E := E_fn_admit_fit) h rfl

end Go.Proofs.YtpephpefjddgcaaGreat
namespace Go.Proofs.YtpephpefjddgcaaGreat
open Go Go.VC
noncomputable def admit_fit_1 (a0 : List Task) (a1 : Int) (a2 : Int) : Option Int :=
  bnd (verdict_Fits a0 ⟨a1, a2⟩) fun x1 => jn (fun (w2 : Bool) => fk w2 (some (7 : Int)) (some x1.2)) (fun k2 => fk (decide (x1.2 = (0 : Int))) (k2 (!x1.1)) (k2 false))
theorem admit_fit_1_w (a0 : List Task) (a1 : Int) (a2 : Int) (r : Int) (h : admit_fit_1 a0 a1 a2 = some r) : Go.VC.Spec Tryz.prog 105 [.dp [.sl (a0.map Task.enc)], .dp [.int .i64 a1, .int .i64 a2]] (fun y => y = E_Int r) := by
  refine Go.VC.Spec.of_xc (args := [.dp [.sl (a0.map Task.enc)], .dp [.int .i64 a1, .int .i64 a2]]) (fn := Tryz.f105) tab ⟨[(0, [0, 1]), (1, [3, 4]), (2, [4, 16]), (3, [2]), (4, [2])], [], [100016], []⟩ 18 [.tmp 2] rfl rfl rfl rfl rfl rfl ?_
  conv => whnf
  refine caS (E := E_Bool_Int) h (verdict_Fits_w a0 ⟨a1, a2⟩) rfl (fun _ => rfl) (fun x1 h => ?_)
  conv => whnf
  refine jnS (fun w2 => ⟨[(4, .l (.d (.int .i64 x1.2))), (16, .l (.d (.bool w2)))], 18, [], [], []⟩) h (fun k2 hk2 h => ?_) (fun w2 h => ?_)
  · conv => whnf
    refine fkS h (fun h => ?_) (fun h => ?_)
    · conv => whnf
      exact jeS hk2 h (Weak.refl _)
    conv => whnf
    exact jeS hk2 h (Weak.refl _)
  conv => whnf
  refine fkS h (fun h => ?_) (fun h => ?_)
  · conv => whnf
    exact rt (E := E_Int) h rfl
  conv => whnf
  exact rt (E := E_Int) h rfl

end Go.Proofs.YtpephpefjddgcaaGreat
namespace Go.Proofs.YtpephpefjddgcaaGreat
open Go Go.VC
noncomputable def admit_unless_1 (a0 : Bool) (a1 : Int) : Option Int :=
  fk a0 (some (0 : Int)) (some a1)
theorem admit_unless_1_w (a0 : Bool) (a1 : Int) (r : Int) (h : admit_unless_1 a0 a1 = some r) : Go.VC.Spec Tryz.prog 104 [.dp [.bool a0], .dp [.int .i64 a1]] (fun y => y = E_Int r) := by
  refine Go.VC.Spec.of_xc (args := [.dp [.bool a0], .dp [.int .i64 a1]]) (fn := Tryz.f104) tab ⟨[(0, [0, 1]), (1, [1, 3]), (2, [2]), (3, [2])], [], [], []⟩ 5 [.tmp 2] rfl rfl rfl rfl rfl rfl ?_
  conv => whnf
  refine fkS h (fun h => ?_) (fun h => ?_)
  · conv => whnf
    exact rt (E := E_Int) h rfl
  conv => whnf
  exact rt (E := E_Int) h rfl

end Go.Proofs.YtpephpefjddgcaaGreat
namespace Go.Proofs.YtpephpefjddgcaaGreat
open Go Go.VC
noncomputable def admit_first (a0 : Bool) (a1 : Int) (a2 : List Task) (a3 : Int) (a4 : Int) : Option Int :=
  lp (fun nx1 (v1 : Int) => fk (decide (v1 < (2 : Int))) (fk (decide (v1 = (0 : Int))) (bnd (admit_unless_1 a0 a1) fun x3 => fk (!decide (x3 = (0 : Int))) (some x3) (nx1 (wr (v1 + (1 : Int))))) (fk (decide (v1 = (1 : Int))) (bnd (admit_fit_1 a2 a3 a4) fun x2 => fk (!decide (x2 = (0 : Int))) (some x2) (nx1 (wr (v1 + (1 : Int))))) (none))) (some (0 : Int))) FU (0 : Int)
theorem admit_first_w (a0 : Bool) (a1 : Int) (a2 : List Task) (a3 : Int) (a4 : Int) (r : Int) (h : admit_first a0 a1 a2 a3 a4 = some r) : Go.VC.Spec Tryz.prog 68 [.d (.sl [[.fn 104 [[.bool a0], [.int .i64 a1]]], [.fn 105 [[.sl (a2.map Task.enc)], [.int .i64 a3, .int .i64 a4]]]])] (fun y => y = E_Int r) := by
  refine Go.VC.Spec.of_xc (args := [.d (.sl [[.fn 104 [[.bool a0], [.int .i64 a1]]], [.fn 105 [[.sl (a2.map Task.enc)], [.int .i64 a3, .int .i64 a4]]]])]) (fn := Tryz.f68) tab ⟨[(0, [0]), (1, [6, 7, 8]), (2, [6, 7, 8, 9]), (3, [4, 6, 7, 8]), (4, [5, 6, 7, 8]), (5, [5, 6, 7, 8, 15]), (6, [2]), (7, [6, 7, 8]), (8, [2])], [], [], []⟩ 18 [.tmp 2] rfl rfl rfl rfl rfl rfl ?_
  conv => whnf
  refine lenR (2 : Int) rfl ?_
  conv => whnf
  refine lpS (fun v1 => ⟨[(6, .l (.d (.sl [[.fn 104 [[.bool a0], [.int .i64 a1]]], [.fn 105 [[.sl (a2.map Task.enc)], [.int .i64 a3, .int .i64 a4]]]]))), (7, .l (.d (.int .i64 (2 : Int)))), (8, .l (.d (.int .i64 v1)))], 18, [], [], []⟩) h (Weak.refl _) (fun _ nx1 hn1 v1 h => ?_)
  conv => whnf
  refine fkS h (fun h => ?_) (fun h => ?_)
  · conv => whnf
    refine ixC 0 [.fn 104 [[.bool a0], [.int .i64 a1]]] h rfl rfl (fun h => ?_) (fun h => ?_)
    · conv => whnf
      refine caS (E := E_Int) h (admit_unless_1_w a0 a1) rfl (fun _ => rfl) (fun x3 h => ?_)
      conv => whnf
      refine fkS h (fun h => ?_) (fun h => ?_)
      · conv => whnf
        exact rt (E := E_Int) h rfl
      conv => whnf
      exact leS hn1 h (Weak.refl _)
    conv => whnf
    refine ixC 1 [.fn 105 [[.sl (a2.map Task.enc)], [.int .i64 a3, .int .i64 a4]]] h rfl rfl (fun h => ?_) (fun h => ?_)
    · conv => whnf
      refine caS (E := E_Int) h (admit_fit_1_w a2 a3 a4) rfl (fun _ => rfl) (fun x2 h => ?_)
      conv => whnf
      refine fkS h (fun h => ?_) (fun h => ?_)
      · conv => whnf
        exact rt (E := E_Int) h rfl
      conv => whnf
      exact leS hn1 h (Weak.refl _)
    conv => whnf
    exact ixN h
  conv => whnf
  exact rt (E := E_Int) h rfl

end Go.Proofs.YtpephpefjddgcaaGreat
namespace Go.Proofs.YtpephpefjddgcaaGreat
open Go Go.VC
noncomputable def police_Right (a0 : List Task) (a1 : List Int) : Option Bool :=
  jn (fun (w1 : Bool) => fk w1 (some false) (lp (fun nx3 (v3 : Int) => fk (decide (v3 < (a1.length : Int))) (ix a1 v3 fun x4 => jn (fun (w5 : Bool) => fk w5 (some false) (nx3 (wr (v3 + (1 : Int))))) (fun k5 => fk (decide (x4 < (-1 : Int))) (k5 true) (k5 (decide (x4 > (4611686018427387903 : Int)))))) (some true)) FU (0 : Int))) (fun k1 => bnd (task_All a0) fun x2 => fk (!x2) (k1 true) (k1 (!decide ((a1.length : Int) = (a0.length : Int)))))
theorem police_Right_w (a0 : List Task) (a1 : List Int) (r : Bool) (h : police_Right a0 a1 = some r) : Go.VC.Spec Tryz.prog 108 [.d (.sl (a0.map Task.enc)), .d (.sl (a1.map (eI .i64)))] (fun y => y = E_Bool r) := by
  refine Go.VC.Spec.of_xc (args := [.d (.sl (a0.map Task.enc)), .d (.sl (a1.map (eI .i64)))]) (fn := Tryz.f108) tab ⟨[(0, [0, 1]), (1, [1, 16]), (2, [4]), (3, [17, 18, 19]), (4, [17, 18, 19, 20]), (5, [6, 17, 18, 19]), (6, [17, 18, 19, 28]), (7, [4]), (8, [17, 18, 19]), (9, [4])], [], [100016, 100028], []⟩ 30 [.tmp 4] rfl rfl rfl rfl rfl rfl ?_
  conv => whnf
  refine jnS (fun w1 => ⟨[(1, .l (.d (.sl (a1.map (eI .i64))))), (16, .l (.d (.bool w1)))], 30, [], [], []⟩) h (fun k1 hk1 h => ?_) (fun w1 h => ?_)
  · conv => whnf
    refine caS (E := E_Bool) h (task_All_w a0) rfl (fun _ => rfl) (fun x2 h => ?_)
    conv => whnf
    refine fkS h (fun h => ?_) (fun h => ?_)
    · conv => whnf
      exact jeS hk1 h (Weak.refl _)
    conv => whnf
    refine lenS a1 (eI .i64) rfl ?_
    conv => whnf
    refine lenS a0 Task.enc rfl ?_
    conv => whnf
    exact jeS hk1 h (Weak.refl _)
  conv => whnf
  refine fkS h (fun h => ?_) (fun h => ?_)
  · conv => whnf
    exact rt (E := E_Bool) h rfl
  conv => whnf
  refine lenS a1 (eI .i64) rfl ?_
  conv => whnf
  refine lpS (fun v3 => ⟨[(17, .l (.d (.sl (a1.map (eI .i64))))), (18, .l (.d (.int .i64 (a1.length : Int)))), (19, .l (.d (.int .i64 v3)))], 30, [], [], []⟩) h (Weak.refl _) (fun _ nx3 hn3 v3 h => ?_)
  conv => whnf
  refine fkS h (fun h => ?_) (fun h => ?_)
  · conv => whnf
    refine ixS (enc := (eI .i64)) h rfl (fun _ => rfl) (fun x4 h => ?_)
    conv => whnf
    refine jnS (fun w5 => ⟨[(17, .l (.d (.sl (a1.map (eI .i64))))), (18, .l (.d (.int .i64 (a1.length : Int)))), (19, .l (.d (.int .i64 v3))), (28, .l (.d (.bool w5)))], 30, [], [], []⟩) h (fun k5 hk5 h => ?_) (fun w5 h => ?_)
    · conv => whnf
      refine fkS h (fun h => ?_) (fun h => ?_)
      · conv => whnf
        exact jeS hk5 h (Weak.refl _)
      conv => whnf
      exact jeS hk5 h (Weak.refl _)
    conv => whnf
    refine fkS h (fun h => ?_) (fun h => ?_)
    · conv => whnf
      exact rt (E := E_Bool) h rfl
    conv => whnf
    exact leS hn3 h (Weak.refl _)
  conv => whnf
  exact rt (E := E_Bool) h rfl

end Go.Proofs.YtpephpefjddgcaaGreat
namespace Go.Proofs.YtpephpefjddgcaaGreat
open Go Go.VC
noncomputable def job_right (a0 : List Task) (a1 : Job) : Option Bool :=
  jn (fun (w1 : Bool) => fk w1 (some false) (ix a0 a1.Task fun x2 => fk (decide (a1.Due = (wr (a1.At + x2.D)))) (fk (decide (a1.Want ≥ (1 : Int))) (fk (decide (a1.Want ≤ (200 : Int))) (fk (decide (a1.Had ≥ (0 : Int))) (fk (decide (a1.Had < (if a1.Want < x2.C then a1.Want else x2.C))) (fk a1.Began (some true) (some (decide (a1.Had = (0 : Int))))) (some false)) (some false)) (some false)) (some false)) (some false))) (fun k1 => fk (decide (a1.Task < (0 : Int))) (k1 true) (fk (decide (a1.Task ≥ (a0.length : Int))) (k1 true) (fk (decide (a1.At < (0 : Int))) (k1 true) (k1 (decide (a1.At > (4611686018427387703 : Int)))))))
theorem job_right_w (a0 : List Task) (a1 : Job) (r : Bool) (h : job_right a0 a1 = some r) : Go.VC.Spec Tryz.prog 127 [.d (.sl (a0.map Task.enc)), .agg (Job.enc a1)] (fun y => y = E_Bool r) := by
  refine Go.VC.Spec.of_xc (args := [.d (.sl (a0.map Task.enc)), .agg (Job.enc a1)]) (fn := Tryz.f127) tab ⟨[(0, [0, 3]), (1, [0, 3, 25]), (2, [4]), (3, [3, 5]), (4, [4])], [], [100025], []⟩ 73 [.tmp 4] rfl rfl rfl rfl rfl rfl ?_
  conv => whnf
  refine jnS (fun w1 => ⟨[(0, .l (.d (.sl (a0.map Task.enc)))), (3, .l (.ptr 4 0)), (25, .l (.d (.bool w1)))], 73, [], [(4, [.d (.int .i64 a1.Task), .d (.int .i64 a1.At), .d (.int .i64 a1.Due), .d (.int .i64 a1.Want), .d (.int .i64 a1.Had), .d (.bool a1.Began)])], []⟩) h (fun k1 hk1 h => ?_) (fun w1 h => ?_)
  · conv => whnf
    refine fkS h (fun h => ?_) (fun h => ?_)
    · conv => whnf
      exact jeS hk1 h (Weak.refl _)
    conv => whnf
    refine lenS a0 Task.enc rfl ?_
    conv => whnf
    refine fkS h (fun h => ?_) (fun h => ?_)
    · conv => whnf
      exact jeS hk1 h (Weak.refl _)
    conv => whnf
    refine fkS h (fun h => ?_) (fun h => ?_)
    · conv => whnf
      exact jeS hk1 h (Weak.refl _)
    conv => whnf
    exact jeS hk1 h (Weak.refl _)
  conv => whnf
  refine fkS h (fun h => ?_) (fun h => ?_)
  · conv => whnf
    exact rt (E := E_Bool) h rfl
  conv => whnf
  refine ixS (enc := Task.enc) h rfl (fun _ => rfl) (fun x2 h => ?_)
  conv => whnf
  refine fkS h (fun h => ?_) (fun h => ?_)
  · conv => whnf
    refine fkS h (fun h => ?_) (fun h => ?_)
    · conv => whnf
      refine fkS h (fun h => ?_) (fun h => ?_)
      · conv => whnf
        refine fkS h (fun h => ?_) (fun h => ?_)
        · conv => whnf
          refine fkS h (fun h => ?_) (fun h => ?_)
          · conv => whnf
            refine fkS h (fun h => ?_) (fun h => ?_)
            · conv => whnf
              exact rt (E := E_Bool) h rfl
            conv => whnf
            exact rt (E := E_Bool) h rfl
          conv => whnf
          exact rt (E := E_Bool) h rfl
        conv => whnf
        exact rt (E := E_Bool) h rfl
      conv => whnf
      exact rt (E := E_Bool) h rfl
    conv => whnf
    exact rt (E := E_Bool) h rfl
  conv => whnf
  exact rt (E := E_Bool) h rfl

end Go.Proofs.YtpephpefjddgcaaGreat
namespace Go.Proofs.YtpephpefjddgcaaGreat
open Go Go.VC
noncomputable def job_All (a0 : List Task) (a1 : List Job) : Option Bool :=
  jn (fun (w1 : Bool) => fk w1 (some false) (lp (fun nx3 (v3 : Int) => fk (decide (v3 < (a1.length : Int))) (ix a1 v3 fun x4 => bnd (job_right a0 x4) fun x5 => fk (!x5) (some false) (ck (decide ((0 : Int) ≤ (0 : Int)) && decide ((0 : Int) ≤ v3) && decide (v3 ≤ (a1.length : Int))) (lp (fun nx6 (v6 : Int) => fk (decide (v6 < (((a1.take v3.toNat).drop (0 : Int).toNat).length : Int))) (ix ((a1.take v3.toNat).drop (0 : Int).toNat) v6 fun x7 => jn (fun (w8 : Bool) => fk w8 (some false) (nx6 (wr (v6 + (1 : Int))))) (fun k8 => fk (decide (x4.Task = x7.Task)) (k8 (decide (x4.At = x7.At))) (k8 false))) (nx3 (wr (v3 + (1 : Int))))) FU (0 : Int)))) (some true)) FU (0 : Int))) (fun k1 => bnd (task_All a0) fun x2 => fk (!x2) (k1 true) (k1 (decide ((a1.length : Int) > (32 : Int)))))
theorem job_All_w (a0 : List Task) (a1 : List Job) (r : Bool) (h : job_All a0 a1 = some r) : Go.VC.Spec Tryz.prog 109 [.d (.sl (a0.map Task.enc)), .d (.sl (a1.map Job.enc))] (fun y => y = E_Bool r) := by
  refine Go.VC.Spec.of_xc (args := [.d (.sl (a0.map Task.enc)), .d (.sl (a1.map Job.enc))]) (fn := Tryz.f109) tab ⟨[(0, [0, 1]), (1, [0, 1, 16]), (2, [4]), (3, [0, 1, 17, 18, 19]), (4, [0, 1, 17, 18, 19, 20]), (5, [0, 1, 5, 6, 17, 18, 19]), (6, [0, 1, 5, 6, 17, 18, 19, 27]), (7, [4]), (8, [0, 1, 6, 17, 18, 19, 30, 31, 32]), (9, [0, 1, 6, 17, 18, 19, 30, 31, 32, 33]), (10, [0, 1, 6, 8, 17, 18, 19, 30, 31, 32]), (11, [0, 1, 6, 17, 18, 19, 30, 31, 32, 47]), (12, [4]), (13, [0, 1, 6, 17, 18, 19, 30, 31, 32]), (14, [0, 1, 17, 18, 19]), (15, [4])], [], [100016, 100047], []⟩ 50 [.tmp 4] rfl rfl rfl rfl rfl rfl ?_
  conv => whnf
  refine jnS (fun w1 => ⟨[(0, .l (.d (.sl (a0.map Task.enc)))), (1, .l (.d (.sl (a1.map Job.enc)))), (16, .l (.d (.bool w1)))], 50, [], [], []⟩) h (fun k1 hk1 h => ?_) (fun w1 h => ?_)
  · conv => whnf
    refine caS (E := E_Bool) h (task_All_w a0) rfl (fun _ => rfl) (fun x2 h => ?_)
    conv => whnf
    refine fkS h (fun h => ?_) (fun h => ?_)
    · conv => whnf
      exact jeS hk1 h (Weak.refl _)
    conv => whnf
    refine lenS a1 Job.enc rfl ?_
    conv => whnf
    exact jeS hk1 h (Weak.refl _)
  conv => whnf
  refine fkS h (fun h => ?_) (fun h => ?_)
  · conv => whnf
    exact rt (E := E_Bool) h rfl
  conv => whnf
  refine lenS a1 Job.enc rfl ?_
  conv => whnf
  refine lpS (fun v3 => ⟨[(0, .l (.d (.sl (a0.map Task.enc)))), (1, .l (.d (.sl (a1.map Job.enc)))), (17, .l (.d (.sl (a1.map Job.enc)))), (18, .l (.d (.int .i64 (a1.length : Int)))), (19, .l (.d (.int .i64 v3)))], 50, [], [], []⟩) h (Weak.refl _) (fun _ nx3 hn3 v3 h => ?_)
  conv => whnf
  refine fkS h (fun h => ?_) (fun h => ?_)
  · conv => whnf
    refine ixS (enc := Job.enc) h rfl (fun _ => rfl) (fun x4 h => ?_)
    conv => whnf
    refine caS (E := E_Bool) h (job_right_w a0 x4) rfl (fun _ => rfl) (fun x5 h => ?_)
    conv => whnf
    refine fkS h (fun h => ?_) (fun h => ?_)
    · conv => whnf
      exact rt (E := E_Bool) h rfl
    conv => whnf
    refine slS (enc := Job.enc) h rfl rfl (.inl rfl) (fun _ => rfl) (fun h => ?_)
    conv => whnf
    refine lenS ((a1.take v3.toNat).drop (0 : Int).toNat) Job.enc rfl ?_
    conv => whnf
    refine lpS (fun v6 => ⟨[(0, .l (.d (.sl (a0.map Task.enc)))), (1, .l (.d (.sl (a1.map Job.enc)))), (6, .l (.ptr 7 0)), (17, .l (.d (.sl (a1.map Job.enc)))), (18, .l (.d (.int .i64 (a1.length : Int)))), (19, .l (.d (.int .i64 v3))), (30, .l (.d (.sl (((a1.take v3.toNat).drop (0 : Int).toNat).map Job.enc)))), (31, .l (.d (.int .i64 (((a1.take v3.toNat).drop (0 : Int).toNat).length : Int)))), (32, .l (.d (.int .i64 v6)))], 50, [], [(7, [.d (.int .i64 x4.Task), .d (.int .i64 x4.At), .d (.int .i64 x4.Due), .d (.int .i64 x4.Want), .d (.int .i64 x4.Had), .d (.bool x4.Began)])], []⟩) h (Weak.refl _) (fun _ nx6 hn6 v6 h => ?_)
    conv => whnf
    refine fkS h (fun h => ?_) (fun h => ?_)
    · conv => whnf
      refine ixS (enc := Job.enc) h rfl (fun _ => rfl) (fun x7 h => ?_)
      conv => whnf
      refine jnS (fun w8 => ⟨[(0, .l (.d (.sl (a0.map Task.enc)))), (1, .l (.d (.sl (a1.map Job.enc)))), (6, .l (.ptr 7 0)), (17, .l (.d (.sl (a1.map Job.enc)))), (18, .l (.d (.int .i64 (a1.length : Int)))), (19, .l (.d (.int .i64 v3))), (30, .l (.d (.sl (((a1.take v3.toNat).drop (0 : Int).toNat).map Job.enc)))), (31, .l (.d (.int .i64 (((a1.take v3.toNat).drop (0 : Int).toNat).length : Int)))), (32, .l (.d (.int .i64 v6))), (47, .l (.d (.bool w8)))], 50, [], [(7, [.d (.int .i64 x4.Task), .d (.int .i64 x4.At), .d (.int .i64 x4.Due), .d (.int .i64 x4.Want), .d (.int .i64 x4.Had), .d (.bool x4.Began)])], []⟩) h (fun k8 hk8 h => ?_) (fun w8 h => ?_)
      · conv => whnf
        refine fkS h (fun h => ?_) (fun h => ?_)
        · conv => whnf
          exact jeS hk8 h (Weak.refl _)
        conv => whnf
        exact jeS hk8 h (Weak.refl _)
      conv => whnf
      refine fkS h (fun h => ?_) (fun h => ?_)
      · conv => whnf
        exact rt (E := E_Bool) h rfl
      conv => whnf
      exact leS hn6 h (Weak.refl _)
    conv => whnf
    exact leS hn3 h (Weak.refl _)
  conv => whnf
  exact rt (E := E_Bool) h rfl

end Go.Proofs.YtpephpefjddgcaaGreat
namespace Go.Proofs.YtpephpefjddgcaaGreat
open Go Go.VC
noncomputable def part_Right (a0 : PartState) : Option Bool :=
  fk (decide ((a0.Leaves.length : Int) = (a0.Tasks.length : Int))) (bnd (police_Right a0.Tasks a0.Lasts) fun x1 => fk x1 (bnd (job_All a0.Tasks a0.Jobs) fun x2 => fk x2 (some (decide ((a0.Log.length : Int) ≤ (2000 : Int)))) (some false)) (some false)) (some false)
theorem part_Right_w (a0 : PartState) (r : Bool) (h : part_Right a0 = some r) : Go.VC.Spec Tryz.prog 74 [.agg (PartState.enc a0)] (fun y => y = E_Bool r) := by
  refine Go.VC.Spec.of_xc (args := [.agg (PartState.enc a0)]) (fn := Tryz.f74) tab ⟨[(0, [1]), (1, [2])], [], [], []⟩ 30 [.tmp 2] rfl rfl rfl rfl rfl rfl ?_
  conv => whnf
  refine lenS a0.Leaves eB rfl ?_
  conv => whnf
  refine lenS a0.Tasks Task.enc rfl ?_
  conv => whnf
  refine fkS h (fun h => ?_) (fun h => ?_)
  · conv => whnf
    refine caS (E := E_Bool) h (police_Right_w a0.Tasks a0.Lasts) rfl (fun _ => rfl) (fun x1 h => ?_)
    conv => whnf
    refine fkS h (fun h => ?_) (fun h => ?_)
    · conv => whnf
      refine caS (E := E_Bool) h (job_All_w a0.Tasks a0.Jobs) rfl (fun _ => rfl) (fun x2 h => ?_)
      conv => whnf
      refine fkS h (fun h => ?_) (fun h => ?_)
      · conv => whnf
        refine lenS a0.Log Entry.enc rfl ?_
        conv => whnf
        exact rt (E := E_Bool) h rfl
      conv => whnf
      exact rt (E := E_Bool) h rfl
    conv => whnf
    exact rt (E := E_Bool) h rfl
  conv => whnf
  exact rt (E := E_Bool) h rfl

end Go.Proofs.YtpephpefjddgcaaGreat
namespace Go.Proofs.YtpephpefjddgcaaGreat
open Go Go.VC
noncomputable def part_Add (a0 : PartState) (a1 : Task) : Option (PartState × Int) :=
  jn (fun (w1 : Bool) => fk w1 (some (a0, (1 : Int))) (fk (decide ((a0.Tasks.length : Int) ≥ (8 : Int))) (some (a0, (3 : Int))) (ck (decide ((([] : List Sec).length + a1.Secs.length) * 24 ≤ 140737488355328)) (ck (decide ((([] : List Task).length + a0.Tasks.length) * 48 ≤ 140737488355328)) (ck (decide (((([] : List Task) ++ a0.Tasks).length + ([⟨a1.C, a1.D, a1.T, ([] : List Sec) ++ a1.Secs⟩] : List Task).length) * 48 ≤ 140737488355328)) (ck (decide ((([] : List Bool).length + a0.Leaves.length) * 1 ≤ 140737488355328)) (ck (decide (((([] : List Bool) ++ a0.Leaves).length + ([false] : List Bool).length) * 1 ≤ 140737488355328)) (ck (decide ((([] : List Int).length + a0.Lasts.length) * 8 ≤ 140737488355328)) (ck (decide (((([] : List Int) ++ a0.Lasts).length + ([(-1 : Int)] : List Int).length) * 8 ≤ 140737488355328)) (some (⟨(([] : List Task) ++ a0.Tasks) ++ ([⟨a1.C, a1.D, a1.T, ([] : List Sec) ++ a1.Secs⟩] : List Task), (([] : List Bool) ++ a0.Leaves) ++ ([false] : List Bool), (([] : List Int) ++ a0.Lasts) ++ ([(-1 : Int)] : List Int), a0.Jobs, a0.Log⟩, (0 : Int)))))))))))) (fun k1 => bnd (part_Right a0) fun x2 => fk (!x2) (k1 true) (bnd (task_Right a1) fun x3 => k1 (!x3)))
theorem part_Add_w (a0 : PartState) (a1 : Task) (r : PartState × Int) (h : part_Add a0 a1 = some r) : Go.VC.Spec Tryz.prog 106 [.agg (PartState.enc a0), .agg (Task.enc a1)] (fun y => y = E_PartState_Int r) := by
  refine Go.VC.Spec.of_xc (args := [.agg (PartState.enc a0), .agg (Task.enc a1)]) (fn := Tryz.f106) tab ⟨[(0, [2, 3, 4]), (1, [2, 3, 4, 6]), (2, [4, 5]), (3, [2, 3, 4, 16]), (4, [4, 5]), (5, [2, 3, 4]), (6, [2, 4]), (7, [2, 4]), (8, [2, 4]), (9, [4, 5])], [], [100006], [(26, [26])]⟩ 50 [.cell 4 102, .tmp 5] rfl rfl rfl rfl rfl rfl ?_
  conv => whnf
  refine jnS (fun w1 => ⟨[(2, .l (.ptr 3 0)), (3, .l (.ptr 4 0)), (4, .l (.ptr 5 0)), (6, .l (.d (.bool w1)))], 50, [], [(3, [.d (.sl (a0.Tasks.map Task.enc)), .d (.sl (a0.Leaves.map eB)), .d (.sl (a0.Lasts.map (eI .i64))), .d (.sl (a0.Jobs.map Job.enc)), .d (.sl (a0.Log.map Entry.enc))]), (4, [.d (.int .i64 a1.C), .d (.int .i64 a1.D), .d (.int .i64 a1.T), .d (.sl (a1.Secs.map Sec.enc))]), (5, [.nil, .nil, .nil, .nil, .nil])], []⟩) h (fun k1 hk1 h => ?_) (fun w1 h => ?_)
  · conv => whnf
    refine caS (E := E_Bool) h (part_Right_w a0) rfl (fun _ => rfl) (fun x2 h => ?_)
    conv => whnf
    refine fkS h (fun h => ?_) (fun h => ?_)
    · conv => whnf
      exact jeS hk1 h (Weak.refl _)
    conv => whnf
    refine caS (E := E_Bool) h (task_Right_w a1) rfl (fun _ => rfl) (fun x3 h => ?_)
    conv => whnf
    exact jeS hk1 h (Weak.refl _)
  conv => whnf
  refine fkS h (fun h => ?_) (fun h => ?_)
  · conv => whnf
    exact rt (E := E_PartState_Int) h rfl
  conv => whnf
  refine lenS a0.Tasks Task.enc rfl ?_
  conv => whnf
  refine fkS h (fun h => ?_) (fun h => ?_)
  · conv => whnf
    exact rt (E := E_PartState_Int) h rfl
  conv => whnf
  refine liS ([] : List Sec) Sec.enc rfl rfl ?_
  conv => whnf
  refine apS (enc := Sec.enc) (l1 := ([] : List Sec)) (l2 := a1.Secs) h rfl rfl (fun _ => rfl) (fun h => ?_)
  conv => whnf
  refine ⟨6, ?_⟩
  conv => whnf
  refine liS ([] : List Task) Task.enc rfl rfl ?_
  conv => whnf
  refine apS (enc := Task.enc) (l1 := ([] : List Task)) (l2 := a0.Tasks) h rfl rfl (fun _ => rfl) (fun h => ?_)
  conv => whnf
  refine liS ([⟨a1.C, a1.D, a1.T, ([] : List Sec) ++ a1.Secs⟩] : List Task) Task.enc rfl rfl ?_
  conv => whnf
  refine drS (by kernel_rfl) ?_
  conv => whnf
  refine apS (enc := Task.enc) (l1 := ([] : List Task) ++ a0.Tasks) (l2 := ([⟨a1.C, a1.D, a1.T, ([] : List Sec) ++ a1.Secs⟩] : List Task)) h rfl rfl (fun _ => rfl) (fun h => ?_)
  conv => whnf
  refine liS ([] : List Bool) eB rfl rfl ?_
  conv => whnf
  refine apS (enc := eB) (l1 := ([] : List Bool)) (l2 := a0.Leaves) h rfl rfl (fun _ => rfl) (fun h => ?_)
  conv => whnf
  refine liS ([false] : List Bool) eB rfl rfl ?_
  conv => whnf
  refine apS (enc := eB) (l1 := ([] : List Bool) ++ a0.Leaves) (l2 := ([false] : List Bool)) h rfl rfl (fun _ => rfl) (fun h => ?_)
  conv => whnf
  refine liS ([] : List Int) (eI .i64) rfl rfl ?_
  conv => whnf
  refine apS (enc := (eI .i64)) (l1 := ([] : List Int)) (l2 := a0.Lasts) h rfl rfl (fun _ => rfl) (fun h => ?_)
  conv => whnf
  refine liS ([(-1 : Int)] : List Int) (eI .i64) rfl rfl ?_
  conv => whnf
  refine apS (enc := (eI .i64)) (l1 := ([] : List Int) ++ a0.Lasts) (l2 := ([(-1 : Int)] : List Int)) h rfl rfl (fun _ => rfl) (fun h => ?_)
  conv => whnf
  exact rt (E := E_PartState_Int) h rfl

end Go.Proofs.YtpephpefjddgcaaGreat
namespace Go.Proofs.YtpephpefjddgcaaGreat
open Go Go.VC
noncomputable def part_New (a0 : List Task) : Option (PartState × Int) :=
  bnd (task_All a0) fun x1 => fk (!x1) (some (⟨[], [], [], [], []⟩, (1 : Int))) (lp (fun nx2 (v2 : (List Task) × (List Bool) × (List Int) × (List Job) × (List Entry) × Int) => fk (decide (v2.2.2.2.2.2 < (a0.length : Int))) (ix a0 v2.2.2.2.2.2 fun x3 => bnd (part_Add ⟨v2.1, v2.2.1, v2.2.2.1, v2.2.2.2.1, v2.2.2.2.2.1⟩ x3) fun x4 => nx2 (x4.1.Tasks, x4.1.Leaves, x4.1.Lasts, x4.1.Jobs, x4.1.Log, (wr (v2.2.2.2.2.2 + (1 : Int))))) (some (⟨v2.1, v2.2.1, v2.2.2.1, v2.2.2.2.1, v2.2.2.2.2.1⟩, (0 : Int)))) FU ([], [], [], [], [], (0 : Int)))
theorem part_New_w (a0 : List Task) (r : PartState × Int) (h : part_New a0 = some r) : Go.VC.Spec Tryz.prog 71 [.d (.sl (a0.map Task.enc))] (fun y => y = E_PartState_Int r) := by
  refine Go.VC.Spec.of_xc (args := [.d (.sl (a0.map Task.enc))]) (fn := Tryz.f71) tab ⟨[(0, [0, 2]), (1, [0, 2, 9]), (2, [2, 3]), (3, [0, 2, 4]), (4, [2, 4, 12, 13, 14]), (5, [2, 4, 12, 13, 14, 15]), (6, [2, 4, 6, 12, 13, 14]), (7, [2, 4, 12, 13, 14]), (8, [2, 4, 12, 13, 14]), (9, [2, 3])], [], [], []⟩ 26 [.cell 2 102, .tmp 3] rfl rfl rfl rfl rfl rfl ?_
  conv => whnf
  refine caS (E := E_Bool) h (task_All_w a0) rfl (fun _ => rfl) (fun x1 h => ?_)
  conv => whnf
  refine fkS h (fun h => ?_) (fun h => ?_)
  · conv => whnf
    exact rt (E := E_PartState_Int) h rfl
  conv => whnf
  refine lenS a0 Task.enc rfl ?_
  conv => whnf
  refine lpX (fun v2 => ⟨[(2, .l (.ptr 3 0)), (4, .l (.ptr 5 0)), (12, .l (.d (.sl (a0.map Task.enc)))), (13, .l (.d (.int .i64 (a0.length : Int)))), (14, .l (.d (.int .i64 v2.2.2.2.2.2)))], 26, [], [(3, [.nil, .nil, .nil, .nil, .nil]), (5, [.d (.sl (v2.1.map Task.enc)), .d (.sl (v2.2.1.map eB)), .d (.sl (v2.2.2.1.map (eI .i64))), .d (.sl (v2.2.2.2.1.map Job.enc)), .d (.sl (v2.2.2.2.2.1.map Entry.enc))])], []⟩) h ?_ (fun _ nx2 hn2 v2 h => ?_)
  · conv => whnf
    refine WkF.step (Weak.nilBD _ 5 0 _ rfl rfl) ?_
    conv => whnf
    refine WkF.step (Weak.nilBD _ 5 1 _ rfl rfl) ?_
    conv => whnf
    refine WkF.step (Weak.nilBD _ 5 2 _ rfl rfl) ?_
    conv => whnf
    refine WkF.step (Weak.nilBD _ 5 3 _ rfl rfl) ?_
    conv => whnf
    refine WkF.step (Weak.nilBD _ 5 4 _ rfl rfl) ?_
    conv => whnf
    exact WkF.refl _
  conv => whnf
  refine fkS h (fun h => ?_) (fun h => ?_)
  · conv => whnf
    refine ixS (enc := Task.enc) h rfl (fun _ => rfl) (fun x3 h => ?_)
    conv => whnf
    refine ccS (E := E_PartState_Int) h (part_Add_w ⟨v2.1, v2.2.1, v2.2.2.1, v2.2.2.2.1, v2.2.2.2.2.1⟩ x3) rfl rfl (fun x4 h => ?_)
    conv => whnf
    exact leS hn2 h (Weak.refl _)
  conv => whnf
  exact rt (E := E_PartState_Int) h rfl

end Go.Proofs.YtpephpefjddgcaaGreat
namespace Go.Proofs.YtpephpefjddgcaaGreat
open Go Go.VC
noncomputable def admit_Boot (a0 : Part) : Option (PartState × Int) :=
  jn (fun (w1 : Int) => fk (!decide (w1 = (0 : Int))) (some (⟨[], [], [], [], []⟩, w1)) (bnd (part_New a0.Tasks) fun x10 => some (x10.1, x10.2))) (fun k1 => bnd (supply_Right a0.Face) fun x2 => fk x2 (bnd (task_All a0.Tasks) fun x3 => bnd (admit_unless x3 (1 : Int)) fun x4 => bnd (admit_fit a0.Tasks a0.Face) fun x5 => bnd (admit_first x4.1 x4.2 x5.1 x5.2.1 x5.2.2) fun x6 => k1 x6) (bnd (admit_unless false (1 : Int)) fun x7 => bnd (admit_fit a0.Tasks a0.Face) fun x8 => bnd (admit_first x7.1 x7.2 x8.1 x8.2.1 x8.2.2) fun x9 => k1 x9))
theorem admit_Boot_w (a0 : Part) (r : PartState × Int) (h : admit_Boot a0 = some r) : Go.VC.Spec Tryz.prog 50 [.agg (Part.enc a0)] (fun y => y = E_PartState_Int r) := by
  refine Go.VC.Spec.of_xc (args := [.agg (Part.enc a0)]) (fn := Tryz.f50) tab ⟨[(0, [1, 2]), (1, [1, 2, 4]), (2, [1, 2, 4, 22]), (3, [2, 3]), (4, [2, 3])], [], [2], []⟩ 30 [.cell 2 102, .tmp 3] rfl rfl rfl rfl rfl rfl ?_
  conv => whnf
  refine jnS (fun w1 => ⟨[(1, .l (.ptr 2 0)), (2, .l (.ptr 3 0)), (4, .l (.d (.int .i64 w1)))], 30, [], [(2, [.d (.int .i64 a0.Face.P), .d (.int .i64 a0.Face.B), .d (.sl (a0.Tasks.map Task.enc))]), (3, [.nil, .nil, .nil, .nil, .nil])], []⟩) h (fun k1 hk1 h => ?_) (fun w1 h => ?_)
  · conv => whnf
    refine ⟨13, ?_⟩
    conv => whnf
    refine daS (E := E_Bool) h (supply_Right_w a0.Face) (fun _ => rfl) (fun x2 h => ?_)
    conv => whnf
    refine fkS h (fun h => ?_) (fun h => ?_)
    · conv => whnf
      refine daS (E := E_Bool) h (task_All_w a0.Tasks) (fun _ => rfl) (fun x3 h => ?_)
      conv => whnf
      refine dcS (E := E_fn_admit_unless) h (admit_unless_w x3 (1 : Int)) rfl (fun x4 h => ?_)
      conv => whnf
      refine drS (by kernel_rfl) ?_
      conv => whnf
      refine ccS (E := E_fn_admit_fit) h (admit_fit_w a0.Tasks a0.Face) rfl rfl (fun x5 h => ?_)
      conv => whnf
      refine liR rfl ?_
      conv => whnf
      refine caS (E := E_Int) h (admit_first_w x4.1 x4.2 x5.1 x5.2.1 x5.2.2) rfl (fun _ => rfl) (fun x6 h => ?_)
      conv => whnf
      exact jeS hk1 h (Weak.refl _)
    conv => whnf
    refine dcS (E := E_fn_admit_unless) h (admit_unless_w false (1 : Int)) rfl (fun x7 h => ?_)
    conv => whnf
    refine drS (by kernel_rfl) ?_
    conv => whnf
    refine ccS (E := E_fn_admit_fit) h (admit_fit_w a0.Tasks a0.Face) rfl rfl (fun x8 h => ?_)
    conv => whnf
    refine liR rfl ?_
    conv => whnf
    refine caS (E := E_Int) h (admit_first_w x7.1 x7.2 x8.1 x8.2.1 x8.2.2) rfl (fun _ => rfl) (fun x9 h => ?_)
    conv => whnf
    exact jeS hk1 h (Weak.refl _)
  conv => whnf
  refine fkS h (fun h => ?_) (fun h => ?_)
  · conv => whnf
    exact rt (E := E_PartState_Int) h rfl
  conv => whnf
  refine ccS (E := E_PartState_Int) h (part_New_w a0.Tasks) rfl rfl (fun x10 h => ?_)
  conv => whnf
  exact rt (E := E_PartState_Int) h rfl

end Go.Proofs.YtpephpefjddgcaaGreat
namespace Go.Proofs.YtpephpefjddgcaaGreat
open Go Go.VC
noncomputable def kernel_Boot (a0 : Config) : Option (KernelState × Int) :=
  bnd (image_Right a0) fun x1 => fk (!x1) (some (⟨⟨(0 : Int), []⟩, [], [], [], (0 : Int)⟩, (1 : Int))) (lp (fun nx2 (v2 : (List Face) × Int) => fk (decide (v2.2 < (a0.Parts.length : Int))) (ix a0.Parts v2.2 fun x3 => ck (decide ((v2.1.length + ([x3.Face] : List Face).length) * 16 ≤ 140737488355328)) (nx2 (v2.1 ++ ([x3.Face] : List Face), (wr (v2.2 + (1 : Int)))))) (bnd (table_Make v2.1) fun x4 => fk (!decide (x4.2 = (0 : Int))) (some (⟨⟨(0 : Int), []⟩, [], [], [], (0 : Int)⟩, x4.2)) (lp (fun nx5 (v5 : (List PartState) × Int) => fk (decide (v5.2 < (a0.Parts.length : Int))) (ix a0.Parts v5.2 fun x6 => bnd (admit_Boot x6) fun x7 => fk (!decide (x7.2 = (0 : Int))) (some (⟨⟨(0 : Int), []⟩, [], [], [], (0 : Int)⟩, x7.2)) (ck (decide ((v5.1.length + ([x7.1] : List PartState).length) * 120 ≤ 140737488355328)) (nx5 (v5.1 ++ ([x7.1] : List PartState), (wr (v5.2 + (1 : Int))))))) (bnd (port_Open a0.Ports) fun x8 => some (⟨x4.1, v2.1, v5.1, x8.1, (0 : Int)⟩, (0 : Int)))) FU ([], (0 : Int))))) FU ([], (0 : Int)))
theorem kernel_Boot_w (a0 : Config) (r : KernelState × Int) (h : kernel_Boot a0 = some r) : Go.VC.Spec Tryz.prog 31 [.agg (Config.enc a0)] (fun y => y = E_KernelState_Int r) := by
  refine Go.VC.Spec.of_xc (args := [.agg (Config.enc a0)]) (fn := Tryz.f31) tab ⟨[(0, [1, 2]), (1, [1, 2, 14]), (2, [2, 3]), (3, [1, 2, 4]), (4, [1, 2, 4]), (5, [1, 2, 4, 17, 18, 19]), (6, [1, 2, 4, 17, 18, 19, 20]), (7, [1, 2, 4, 7, 17, 18, 19]), (8, [1, 2, 4, 17, 18, 19]), (9, [1, 2, 4, 17, 18, 19]), (10, [1, 2, 4, 5]), (11, [1, 2, 4, 5, 39]), (12, [2, 3]), (13, [1, 2, 4, 43, 44, 45]), (14, [1, 2, 4, 43, 44, 45, 46]), (15, [1, 2, 4, 9, 43, 44, 45]), (16, [1, 2, 4, 10, 11, 43, 44, 45]), (17, [1, 2, 4, 10, 11, 43, 44, 45, 55]), (18, [2, 3]), (19, [1, 2, 4, 43, 44, 45]), (20, [1, 2, 4, 43, 44, 45]), (21, [2, 4]), (22, [2, 3])], [], [], []⟩ 73 [.cell 2 90, .tmp 3] rfl rfl rfl rfl rfl rfl ?_
  conv => whnf
  refine caS (E := E_Bool) h (image_Right_w a0) rfl (fun _ => rfl) (fun x1 h => ?_)
  conv => whnf
  refine fkS h (fun h => ?_) (fun h => ?_)
  · conv => whnf
    exact rt (E := E_KernelState_Int) h rfl
  conv => whnf
  refine lenS a0.Parts Part.enc rfl ?_
  conv => whnf
  refine lpS (fun v2 => ⟨[(1, .l (.ptr 2 0)), (2, .l (.ptr 3 0)), (4, .l (.ptr 5 0)), (17, .l (.d (.sl (a0.Parts.map Part.enc)))), (18, .l (.d (.int .i64 (a0.Parts.length : Int)))), (19, .l (.d (.int .i64 v2.2)))], 73, [], [(2, [.d (.sl (a0.Parts.map Part.enc)), .d (.sl (a0.Ports.map Port.enc))]), (3, [.d (.int .i64 (0 : Int)), .nil, .nil, .nil, .nil, .d (.int .i64 (0 : Int))]), (5, [.d (.int .i64 (0 : Int)), .nil, .own 50502, .nil, .nil, .d (.int .i64 (0 : Int))])], [(50502, 24, 2, v2.1.map Face.enc)]⟩) h (Weak.trans (Weak.nilBO _ 5 2 50502 24 2 _ rfl rfl) (Weak.refl _)) (fun _ nx2 hn2 v2 h => ?_)
  conv => whnf
  refine fkS h (fun h => ?_) (fun h => ?_)
  · conv => whnf
    refine ixS (enc := Part.enc) h rfl (fun _ => rfl) (fun x3 h => ?_)
    conv => whnf
    refine liS ([x3.Face] : List Face) Face.enc rfl rfl ?_
    conv => whnf
    refine apS (enc := Face.enc) (l1 := v2.1) (l2 := ([x3.Face] : List Face)) h rfl rfl (fun _ => rfl) (fun h => ?_)
    conv => whnf
    refine leX hn2 h ?_
    conv => whnf
    refine WkF.step (Weak.rekey _ 29 50502 rfl) ?_
    conv => whnf
    exact WkF.refl _
  conv => whnf
  refine iceS 50502 ?_
  conv => whnf
  refine ccS (E := E_TableTable_Int) h (table_Make_w v2.1) rfl rfl (fun x4 h => ?_)
  conv => whnf
  refine fkS h (fun h => ?_) (fun h => ?_)
  · conv => whnf
    exact rt (E := E_KernelState_Int) h rfl
  conv => whnf
  refine lenS a0.Parts Part.enc rfl ?_
  conv => whnf
  refine lpS (fun v5 => ⟨[(1, .l (.ptr 2 0)), (2, .l (.ptr 3 0)), (4, .l (.ptr 5 0)), (43, .l (.d (.sl (a0.Parts.map Part.enc)))), (44, .l (.d (.int .i64 (a0.Parts.length : Int)))), (45, .l (.d (.int .i64 v5.2)))], 73, [], [(2, [.d (.sl (a0.Parts.map Part.enc)), .d (.sl (a0.Ports.map Port.enc))]), (3, [.d (.int .i64 (0 : Int)), .nil, .nil, .nil, .nil, .d (.int .i64 (0 : Int))]), (5, [.d (.int .i64 x4.1.Frame), .d (.sl (x4.1.Windows.map Window.enc)), .d (.sl (v2.1.map Face.enc)), .own 50503, .nil, .d (.int .i64 (0 : Int))])], [(50503, 102, 5, v5.1.map PartState.enc)]⟩) h (Weak.trans (Weak.nilBO _ 5 3 50503 102 5 _ rfl rfl) (Weak.refl _)) (fun _ nx5 hn5 v5 h => ?_)
  conv => whnf
  refine fkS h (fun h => ?_) (fun h => ?_)
  · conv => whnf
    refine ixS (enc := Part.enc) h rfl (fun _ => rfl) (fun x6 h => ?_)
    conv => whnf
    refine ccS (E := E_PartState_Int) h (admit_Boot_w x6) rfl rfl (fun x7 h => ?_)
    conv => whnf
    refine fkS h (fun h => ?_) (fun h => ?_)
    · conv => whnf
      exact rt (E := E_KernelState_Int) h rfl
    conv => whnf
    refine liS ([x7.1] : List PartState) PartState.enc rfl rfl ?_
    conv => whnf
    refine apS (enc := PartState.enc) (l1 := v5.1) (l2 := ([x7.1] : List PartState)) h rfl rfl (fun _ => rfl) (fun h => ?_)
    conv => whnf
    refine leX hn5 h ?_
    conv => whnf
    refine WkF.step (Weak.rekey _ 63 50503 rfl) ?_
    conv => whnf
    exact WkF.refl _
  conv => whnf
  refine ccS (E := E_ListPortLine_Int) h (port_Open_w a0.Ports) rfl rfl (fun x8 h => ?_)
  conv => whnf
  exact rt (E := E_KernelState_Int) h rfl

end Go.Proofs.YtpephpefjddgcaaGreat
