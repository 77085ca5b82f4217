/- It is proved that the law PolicePatterns returns true at every input that the row lets in; there is no condition beside the row's own. -/
import Derived.Test.YtkhebjkplmidnaaXPolicePatterns6
import Derived.Test.YtkhebjkplmidnaaRows
set_option linter.unusedVariables false
set_option linter.unusedSimpArgs false
set_option maxRecDepth 100000
set_option maxHeartbeats 4000000
namespace Go.Proofs.Ytkhebjkplmidnaa
open Go Go.VC
theorem ix_get {α β : Type} {l : List α} {k : Nat} {x : α} {f : α → Option β} (h : l[k]? = some x) : ix l (k : Int) f = f x := by
  have hk := (List.getElem?_eq_some_iff.1 h).1
  rw [ix_lt hk]
  rw [List.getElem?_eq_getElem hk] at h
  rw [Option.some.inj h]
theorem law16_knows_eq : law16_knows = some true := by kernel_rfl
theorem jn_w {σ R : Type} {Y : σ → Option R} {X : (σ → Option R) → Option R} {r : Option R} (v : σ) (hX : ∀ k, X k = k v) (hY : Y v = r) : jn Y X = r := by
  rw [jn_eq, hX]; exact hY
theorem proofPolicePatterns : PurePolicePatterns := by
  intro l qs hl hqs
  have hll : l.length ≤ 4611686018427387904 := wf_len hl.1 (Nat.le_refl _)
  have hsl : ∀ t ∈ l, t.Secs.length ≤ 4611686018427387904 := fun t ht => (hl.2 t ht).len
  unfold law16_PolicePatterns
  by_cases hg : GreatP l
  · refine jn_w true (fun k => by rw [bnd_eq (law05_Great_eq l hll), decide_eq_true hg, fk_t]) ?_
    rw [fk_t, bnd_eq law16_knows_eq]
  by_cases h100 : (qs.length : Int) > 100
  · refine jn_w true (fun k => by rw [bnd_eq (law05_Great_eq l hll), decide_eq_false hg, fk_f, decide_eq_true h100, fk_t]) ?_
    rw [fk_t, bnd_eq law16_knows_eq]
  have h100 : qs.length ≤ 100 := by omega
  by_cases ha : AllP l
  rotate_left
  · refine jn_w true (fun k => by rw [bnd_eq (law05_Great_eq l hll), decide_eq_false hg, fk_f, decide_eq_false (by omega), fk_f, bnd_eq (ref05_All_eq l hll hsl), decide_eq_false ha, Bool.not_false]) ?_
    rw [fk_t, bnd_eq law16_knows_eq]
  refine jn_w false (fun k => by rw [bnd_eq (law05_Great_eq l hll), decide_eq_false hg, fk_f, decide_eq_false (by omega), fk_f, bnd_eq (ref05_All_eq l hll hsl), decide_eq_true ha, Bool.not_true]) ?_
  rw [fk_f, bnd_eq (police_Filter_eq l qs hll (by omega)), if_pos ha, filterL_len, decide_eq_true rfl, Bool.not_true, fk_f]
  have h8 := ha.2
  have hwr : ∀ k : Nat, k < qs.length → wr ((k : Int) + 1) = ((k + 1 : Nat) : Int) := fun k hk => wr_succ k qs.length hk (by omega)
  have hlt : ∀ k : Nat, k < qs.length → decide ((k : Int) < (qs.length : Int)) = true := fun k hk => decide_eq_true (by omega)
  have hge : decide ((qs.length : Int) < (qs.length : Int)) = false := decide_eq_false (by omega)
  have hck : ∀ (r : List Int) (x : Int), r.length ≤ 1000 → decide ((r.length + ([x] : List Int).length) * 8 ≤ 140737488355328) = true := fun r x h => decide_eq_true (by simp only [List.length_cons, List.length_nil]; omega)
  by_cases h0 : l.length = 0
  · have hn : (l.length : Int) = 0 := by omega
    rw [decide_eq_true (p := (l.length : Int) = (0 : Int)) hn, fk_t]
    refine pat_lp l qs ha h100 (fun v => v) (fun v => []) _ rfl (by rw [h0]; rfl) ?_ ?_ ?_
    · rintro nx q hv hp
      subst hv
      simp only [hge, fk_f]
      rw [bnd_eq (demand_Legal_eq l _ hll (by simp)), decide_eq_true hp, fk_t, bnd_eq law16_knows_eq]
    · rintro nx q k hk hv hf
      subst hv
      refine ⟨((k + 1 : Nat) : Int), rfl, rfl, ?_⟩
      simp only [hlt k hk, fk_t, jn_eq, ix_get hf, fk_f, hwr k hk]
    · rintro nx q k hk hv hf i hi hil hb
      subst hv
      have hq := List.getElem?_eq_getElem hk
      omega
  rw [decide_eq_false (p := (l.length : Int) = (0 : Int)) (by omega), fk_f]
  by_cases h1 : l.length = 1
  · have hn : (l.length : Int) = 1 := by omega
    rw [decide_eq_true (p := (l.length : Int) = (1 : Int)) hn, fk_t]
    refine pat_lp l qs ha h100 (fun v => v.2) (fun v => [v.1]) _ rfl (by rw [h1]; rfl) ?_ ?_ ?_
    · rintro nx ⟨r0, q⟩ hv hp
      simp only at hv
      subst hv
      simp only [hge, fk_f]
      rw [bnd_eq (demand_Legal_eq l _ hll (by simp)), decide_eq_true hp, fk_t, bnd_eq law16_knows_eq]
    · rintro nx ⟨r0, q⟩ k hk hv hf
      simp only at hv
      subst hv
      refine ⟨(r0, ((k + 1 : Nat) : Int)), rfl, rfl, ?_⟩
      simp only [hlt k hk, fk_t, jn_eq, ix_get hf, fk_f, hwr k hk]
    · rintro nx ⟨r0, q⟩ k hk hv hf i hi hil hb
      simp only at hv
      subst hv
      have hq := List.getElem?_eq_getElem hk
      have hc : i = 0 := by omega
      rcases hc with rfl
      · refine ⟨(r0 ++ [qs[k].At], ((k + 1 : Nat) : Int)), rfl, rfl, ?_⟩
        have hi : qs[k].Task = 0 := hi
        have c0 : decide (qs[k].Task < (0 : Int)) = false := decide_eq_false (by omega)
        have c1 : decide (qs[k].Task ≥ (l.length : Int)) = false := decide_eq_false (by omega)
        have d0 : decide (qs[k].Task = (0 : Int)) = true := decide_eq_true hi
        have e := hck r0 qs[k].At (hb _ (by simp))
        simp only [hlt k hk, fk_t, jn_eq, ix_get hf, ix_get hq, fk_f, hwr k hk, c0, c1, d0, ck_t e]
  rw [decide_eq_false (p := (l.length : Int) = (1 : Int)) (by omega), fk_f]
  by_cases h2 : l.length = 2
  · have hn : (l.length : Int) = 2 := by omega
    rw [decide_eq_true (p := (l.length : Int) = (2 : Int)) hn, fk_t]
    refine pat_lp l qs ha h100 (fun v => v.2.2) (fun v => [v.1, v.2.1]) _ rfl (by rw [h2]; rfl) ?_ ?_ ?_
    · rintro nx ⟨r0, r1, q⟩ hv hp
      simp only at hv
      subst hv
      simp only [hge, fk_f]
      rw [bnd_eq (demand_Legal_eq l _ hll (by simp)), decide_eq_true hp, fk_t, bnd_eq law16_knows_eq]
    · rintro nx ⟨r0, r1, q⟩ k hk hv hf
      simp only at hv
      subst hv
      refine ⟨(r0, r1, ((k + 1 : Nat) : Int)), rfl, rfl, ?_⟩
      simp only [hlt k hk, fk_t, jn_eq, ix_get hf, fk_f, hwr k hk]
    · rintro nx ⟨r0, r1, q⟩ k hk hv hf i hi hil hb
      simp only at hv
      subst hv
      have hq := List.getElem?_eq_getElem hk
      have hc : i = 0 ∨ i = 1 := by omega
      rcases hc with rfl | rfl
      · refine ⟨(r0 ++ [qs[k].At], r1, ((k + 1 : Nat) : Int)), rfl, rfl, ?_⟩
        have hi : qs[k].Task = 0 := hi
        have c0 : decide (qs[k].Task < (0 : Int)) = false := decide_eq_false (by omega)
        have c1 : decide (qs[k].Task ≥ (l.length : Int)) = false := decide_eq_false (by omega)
        have d0 : decide (qs[k].Task = (0 : Int)) = true := decide_eq_true hi
        have e := hck r0 qs[k].At (hb _ (by simp))
        simp only [hlt k hk, fk_t, jn_eq, ix_get hf, ix_get hq, fk_f, hwr k hk, c0, c1, d0, ck_t e]
      · refine ⟨(r0, r1 ++ [qs[k].At], ((k + 1 : Nat) : Int)), rfl, rfl, ?_⟩
        have hi : qs[k].Task = 1 := hi
        have c0 : decide (qs[k].Task < (0 : Int)) = false := decide_eq_false (by omega)
        have c1 : decide (qs[k].Task ≥ (l.length : Int)) = false := decide_eq_false (by omega)
        have d0 : decide (qs[k].Task = (0 : Int)) = false := decide_eq_false (by omega)
        have d1 : decide (qs[k].Task = (1 : Int)) = true := decide_eq_true hi
        have e := hck r1 qs[k].At (hb _ (by simp))
        simp only [hlt k hk, fk_t, jn_eq, ix_get hf, ix_get hq, fk_f, hwr k hk, c0, c1, d0, d1, ck_t e]
  rw [decide_eq_false (p := (l.length : Int) = (2 : Int)) (by omega), fk_f]
  by_cases h3 : l.length = 3
  · have hn : (l.length : Int) = 3 := by omega
    rw [decide_eq_true (p := (l.length : Int) = (3 : Int)) hn, fk_t]
    refine pat_lp l qs ha h100 (fun v => v.2.2.2) (fun v => [v.1, v.2.1, v.2.2.1]) _ rfl (by rw [h3]; rfl) ?_ ?_ ?_
    · rintro nx ⟨r0, r1, r2, q⟩ hv hp
      simp only at hv
      subst hv
      simp only [hge, fk_f]
      rw [bnd_eq (demand_Legal_eq l _ hll (by simp)), decide_eq_true hp, fk_t, bnd_eq law16_knows_eq]
    · rintro nx ⟨r0, r1, r2, q⟩ k hk hv hf
      simp only at hv
      subst hv
      refine ⟨(r0, r1, r2, ((k + 1 : Nat) : Int)), rfl, rfl, ?_⟩
      simp only [hlt k hk, fk_t, jn_eq, ix_get hf, fk_f, hwr k hk]
    · rintro nx ⟨r0, r1, r2, q⟩ k hk hv hf i hi hil hb
      simp only at hv
      subst hv
      have hq := List.getElem?_eq_getElem hk
      have hc : i = 0 ∨ i = 1 ∨ i = 2 := by omega
      rcases hc with rfl | rfl | rfl
      · refine ⟨(r0 ++ [qs[k].At], r1, r2, ((k + 1 : Nat) : Int)), rfl, rfl, ?_⟩
        have hi : qs[k].Task = 0 := hi
        have c0 : decide (qs[k].Task < (0 : Int)) = false := decide_eq_false (by omega)
        have c1 : decide (qs[k].Task ≥ (l.length : Int)) = false := decide_eq_false (by omega)
        have d0 : decide (qs[k].Task = (0 : Int)) = true := decide_eq_true hi
        have e := hck r0 qs[k].At (hb _ (by simp))
        simp only [hlt k hk, fk_t, jn_eq, ix_get hf, ix_get hq, fk_f, hwr k hk, c0, c1, d0, ck_t e]
      · refine ⟨(r0, r1 ++ [qs[k].At], r2, ((k + 1 : Nat) : Int)), rfl, rfl, ?_⟩
        have hi : qs[k].Task = 1 := hi
        have c0 : decide (qs[k].Task < (0 : Int)) = false := decide_eq_false (by omega)
        have c1 : decide (qs[k].Task ≥ (l.length : Int)) = false := decide_eq_false (by omega)
        have d0 : decide (qs[k].Task = (0 : Int)) = false := decide_eq_false (by omega)
        have d1 : decide (qs[k].Task = (1 : Int)) = true := decide_eq_true hi
        have e := hck r1 qs[k].At (hb _ (by simp))
        simp only [hlt k hk, fk_t, jn_eq, ix_get hf, ix_get hq, fk_f, hwr k hk, c0, c1, d0, d1, ck_t e]
      · refine ⟨(r0, r1, r2 ++ [qs[k].At], ((k + 1 : Nat) : Int)), rfl, rfl, ?_⟩
        have hi : qs[k].Task = 2 := hi
        have c0 : decide (qs[k].Task < (0 : Int)) = false := decide_eq_false (by omega)
        have c1 : decide (qs[k].Task ≥ (l.length : Int)) = false := decide_eq_false (by omega)
        have d0 : decide (qs[k].Task = (0 : Int)) = false := decide_eq_false (by omega)
        have d1 : decide (qs[k].Task = (1 : Int)) = false := decide_eq_false (by omega)
        have d2 : decide (qs[k].Task = (2 : Int)) = true := decide_eq_true hi
        have e := hck r2 qs[k].At (hb _ (by simp))
        simp only [hlt k hk, fk_t, jn_eq, ix_get hf, ix_get hq, fk_f, hwr k hk, c0, c1, d0, d1, d2, ck_t e]
  rw [decide_eq_false (p := (l.length : Int) = (3 : Int)) (by omega), fk_f]
  by_cases h4 : l.length = 4
  · have hn : (l.length : Int) = 4 := by omega
    rw [decide_eq_true (p := (l.length : Int) = (4 : Int)) hn, fk_t]
    refine pat_lp l qs ha h100 (fun v => v.2.2.2.2) (fun v => [v.1, v.2.1, v.2.2.1, v.2.2.2.1]) _ rfl (by rw [h4]; rfl) ?_ ?_ ?_
    · rintro nx ⟨r0, r1, r2, r3, q⟩ hv hp
      simp only at hv
      subst hv
      simp only [hge, fk_f]
      rw [bnd_eq (demand_Legal_eq l _ hll (by simp)), decide_eq_true hp, fk_t, bnd_eq law16_knows_eq]
    · rintro nx ⟨r0, r1, r2, r3, q⟩ k hk hv hf
      simp only at hv
      subst hv
      refine ⟨(r0, r1, r2, r3, ((k + 1 : Nat) : Int)), rfl, rfl, ?_⟩
      simp only [hlt k hk, fk_t, jn_eq, ix_get hf, fk_f, hwr k hk]
    · rintro nx ⟨r0, r1, r2, r3, q⟩ k hk hv hf i hi hil hb
      simp only at hv
      subst hv
      have hq := List.getElem?_eq_getElem hk
      have hc : i = 0 ∨ i = 1 ∨ i = 2 ∨ i = 3 := by omega
      rcases hc with rfl | rfl | rfl | rfl
      · refine ⟨(r0 ++ [qs[k].At], r1, r2, r3, ((k + 1 : Nat) : Int)), rfl, rfl, ?_⟩
        have hi : qs[k].Task = 0 := hi
        have c0 : decide (qs[k].Task < (0 : Int)) = false := decide_eq_false (by omega)
        have c1 : decide (qs[k].Task ≥ (l.length : Int)) = false := decide_eq_false (by omega)
        have d0 : decide (qs[k].Task = (0 : Int)) = true := decide_eq_true hi
        have e := hck r0 qs[k].At (hb _ (by simp))
        simp only [hlt k hk, fk_t, jn_eq, ix_get hf, ix_get hq, fk_f, hwr k hk, c0, c1, d0, ck_t e]
      · refine ⟨(r0, r1 ++ [qs[k].At], r2, r3, ((k + 1 : Nat) : Int)), rfl, rfl, ?_⟩
        have hi : qs[k].Task = 1 := hi
        have c0 : decide (qs[k].Task < (0 : Int)) = false := decide_eq_false (by omega)
        have c1 : decide (qs[k].Task ≥ (l.length : Int)) = false := decide_eq_false (by omega)
        have d0 : decide (qs[k].Task = (0 : Int)) = false := decide_eq_false (by omega)
        have d1 : decide (qs[k].Task = (1 : Int)) = true := decide_eq_true hi
        have e := hck r1 qs[k].At (hb _ (by simp))
        simp only [hlt k hk, fk_t, jn_eq, ix_get hf, ix_get hq, fk_f, hwr k hk, c0, c1, d0, d1, ck_t e]
      · refine ⟨(r0, r1, r2 ++ [qs[k].At], r3, ((k + 1 : Nat) : Int)), rfl, rfl, ?_⟩
        have hi : qs[k].Task = 2 := hi
        have c0 : decide (qs[k].Task < (0 : Int)) = false := decide_eq_false (by omega)
        have c1 : decide (qs[k].Task ≥ (l.length : Int)) = false := decide_eq_false (by omega)
        have d0 : decide (qs[k].Task = (0 : Int)) = false := decide_eq_false (by omega)
        have d1 : decide (qs[k].Task = (1 : Int)) = false := decide_eq_false (by omega)
        have d2 : decide (qs[k].Task = (2 : Int)) = true := decide_eq_true hi
        have e := hck r2 qs[k].At (hb _ (by simp))
        simp only [hlt k hk, fk_t, jn_eq, ix_get hf, ix_get hq, fk_f, hwr k hk, c0, c1, d0, d1, d2, ck_t e]
      · refine ⟨(r0, r1, r2, r3 ++ [qs[k].At], ((k + 1 : Nat) : Int)), rfl, rfl, ?_⟩
        have hi : qs[k].Task = 3 := hi
        have c0 : decide (qs[k].Task < (0 : Int)) = false := decide_eq_false (by omega)
        have c1 : decide (qs[k].Task ≥ (l.length : Int)) = false := decide_eq_false (by omega)
        have d0 : decide (qs[k].Task = (0 : Int)) = false := decide_eq_false (by omega)
        have d1 : decide (qs[k].Task = (1 : Int)) = false := decide_eq_false (by omega)
        have d2 : decide (qs[k].Task = (2 : Int)) = false := decide_eq_false (by omega)
        have d3 : decide (qs[k].Task = (3 : Int)) = true := decide_eq_true hi
        have e := hck r3 qs[k].At (hb _ (by simp))
        simp only [hlt k hk, fk_t, jn_eq, ix_get hf, ix_get hq, fk_f, hwr k hk, c0, c1, d0, d1, d2, d3, ck_t e]
  rw [decide_eq_false (p := (l.length : Int) = (4 : Int)) (by omega), fk_f]
  by_cases h5 : l.length = 5
  · have hn : (l.length : Int) = 5 := by omega
    rw [decide_eq_true (p := (l.length : Int) = (5 : Int)) hn, fk_t]
    refine pat_lp l qs ha h100 (fun v => v.2.2.2.2.2) (fun v => [v.1, v.2.1, v.2.2.1, v.2.2.2.1, v.2.2.2.2.1]) _ rfl (by rw [h5]; rfl) ?_ ?_ ?_
    · rintro nx ⟨r0, r1, r2, r3, r4, q⟩ hv hp
      simp only at hv
      subst hv
      simp only [hge, fk_f]
      rw [bnd_eq (demand_Legal_eq l _ hll (by simp)), decide_eq_true hp, fk_t, bnd_eq law16_knows_eq]
    · rintro nx ⟨r0, r1, r2, r3, r4, q⟩ k hk hv hf
      simp only at hv
      subst hv
      refine ⟨(r0, r1, r2, r3, r4, ((k + 1 : Nat) : Int)), rfl, rfl, ?_⟩
      simp only [hlt k hk, fk_t, jn_eq, ix_get hf, fk_f, hwr k hk]
    · rintro nx ⟨r0, r1, r2, r3, r4, q⟩ k hk hv hf i hi hil hb
      simp only at hv
      subst hv
      have hq := List.getElem?_eq_getElem hk
      have hc : i = 0 ∨ i = 1 ∨ i = 2 ∨ i = 3 ∨ i = 4 := by omega
      rcases hc with rfl | rfl | rfl | rfl | rfl
      · refine ⟨(r0 ++ [qs[k].At], r1, r2, r3, r4, ((k + 1 : Nat) : Int)), rfl, rfl, ?_⟩
        have hi : qs[k].Task = 0 := hi
        have c0 : decide (qs[k].Task < (0 : Int)) = false := decide_eq_false (by omega)
        have c1 : decide (qs[k].Task ≥ (l.length : Int)) = false := decide_eq_false (by omega)
        have d0 : decide (qs[k].Task = (0 : Int)) = true := decide_eq_true hi
        have e := hck r0 qs[k].At (hb _ (by simp))
        simp only [hlt k hk, fk_t, jn_eq, ix_get hf, ix_get hq, fk_f, hwr k hk, c0, c1, d0, ck_t e]
      · refine ⟨(r0, r1 ++ [qs[k].At], r2, r3, r4, ((k + 1 : Nat) : Int)), rfl, rfl, ?_⟩
        have hi : qs[k].Task = 1 := hi
        have c0 : decide (qs[k].Task < (0 : Int)) = false := decide_eq_false (by omega)
        have c1 : decide (qs[k].Task ≥ (l.length : Int)) = false := decide_eq_false (by omega)
        have d0 : decide (qs[k].Task = (0 : Int)) = false := decide_eq_false (by omega)
        have d1 : decide (qs[k].Task = (1 : Int)) = true := decide_eq_true hi
        have e := hck r1 qs[k].At (hb _ (by simp))
        simp only [hlt k hk, fk_t, jn_eq, ix_get hf, ix_get hq, fk_f, hwr k hk, c0, c1, d0, d1, ck_t e]
      · refine ⟨(r0, r1, r2 ++ [qs[k].At], r3, r4, ((k + 1 : Nat) : Int)), rfl, rfl, ?_⟩
        have hi : qs[k].Task = 2 := hi
        have c0 : decide (qs[k].Task < (0 : Int)) = false := decide_eq_false (by omega)
        have c1 : decide (qs[k].Task ≥ (l.length : Int)) = false := decide_eq_false (by omega)
        have d0 : decide (qs[k].Task = (0 : Int)) = false := decide_eq_false (by omega)
        have d1 : decide (qs[k].Task = (1 : Int)) = false := decide_eq_false (by omega)
        have d2 : decide (qs[k].Task = (2 : Int)) = true := decide_eq_true hi
        have e := hck r2 qs[k].At (hb _ (by simp))
        simp only [hlt k hk, fk_t, jn_eq, ix_get hf, ix_get hq, fk_f, hwr k hk, c0, c1, d0, d1, d2, ck_t e]
      · refine ⟨(r0, r1, r2, r3 ++ [qs[k].At], r4, ((k + 1 : Nat) : Int)), rfl, rfl, ?_⟩
        have hi : qs[k].Task = 3 := hi
        have c0 : decide (qs[k].Task < (0 : Int)) = false := decide_eq_false (by omega)
        have c1 : decide (qs[k].Task ≥ (l.length : Int)) = false := decide_eq_false (by omega)
        have d0 : decide (qs[k].Task = (0 : Int)) = false := decide_eq_false (by omega)
        have d1 : decide (qs[k].Task = (1 : Int)) = false := decide_eq_false (by omega)
        have d2 : decide (qs[k].Task = (2 : Int)) = false := decide_eq_false (by omega)
        have d3 : decide (qs[k].Task = (3 : Int)) = true := decide_eq_true hi
        have e := hck r3 qs[k].At (hb _ (by simp))
        simp only [hlt k hk, fk_t, jn_eq, ix_get hf, ix_get hq, fk_f, hwr k hk, c0, c1, d0, d1, d2, d3, ck_t e]
      · refine ⟨(r0, r1, r2, r3, r4 ++ [qs[k].At], ((k + 1 : Nat) : Int)), rfl, rfl, ?_⟩
        have hi : qs[k].Task = 4 := hi
        have c0 : decide (qs[k].Task < (0 : Int)) = false := decide_eq_false (by omega)
        have c1 : decide (qs[k].Task ≥ (l.length : Int)) = false := decide_eq_false (by omega)
        have d0 : decide (qs[k].Task = (0 : Int)) = false := decide_eq_false (by omega)
        have d1 : decide (qs[k].Task = (1 : Int)) = false := decide_eq_false (by omega)
        have d2 : decide (qs[k].Task = (2 : Int)) = false := decide_eq_false (by omega)
        have d3 : decide (qs[k].Task = (3 : Int)) = false := decide_eq_false (by omega)
        have d4 : decide (qs[k].Task = (4 : Int)) = true := decide_eq_true hi
        have e := hck r4 qs[k].At (hb _ (by simp))
        simp only [hlt k hk, fk_t, jn_eq, ix_get hf, ix_get hq, fk_f, hwr k hk, c0, c1, d0, d1, d2, d3, d4, ck_t e]
  rw [decide_eq_false (p := (l.length : Int) = (5 : Int)) (by omega), fk_f]
  by_cases h6 : l.length = 6
  · have hn : (l.length : Int) = 6 := by omega
    rw [decide_eq_true (p := (l.length : Int) = (6 : Int)) hn, fk_t]
    refine pat_lp l qs ha h100 (fun v => v.2.2.2.2.2.2) (fun v => [v.1, v.2.1, v.2.2.1, v.2.2.2.1, v.2.2.2.2.1, v.2.2.2.2.2.1]) _ rfl (by rw [h6]; rfl) ?_ ?_ ?_
    · rintro nx ⟨r0, r1, r2, r3, r4, r5, q⟩ hv hp
      simp only at hv
      subst hv
      simp only [hge, fk_f]
      rw [bnd_eq (demand_Legal_eq l _ hll (by simp)), decide_eq_true hp, fk_t, bnd_eq law16_knows_eq]
    · rintro nx ⟨r0, r1, r2, r3, r4, r5, q⟩ k hk hv hf
      simp only at hv
      subst hv
      refine ⟨(r0, r1, r2, r3, r4, r5, ((k + 1 : Nat) : Int)), rfl, rfl, ?_⟩
      simp only [hlt k hk, fk_t, jn_eq, ix_get hf, fk_f, hwr k hk]
    · rintro nx ⟨r0, r1, r2, r3, r4, r5, q⟩ k hk hv hf i hi hil hb
      simp only at hv
      subst hv
      have hq := List.getElem?_eq_getElem hk
      have hc : i = 0 ∨ i = 1 ∨ i = 2 ∨ i = 3 ∨ i = 4 ∨ i = 5 := by omega
      rcases hc with rfl | rfl | rfl | rfl | rfl | rfl
      · refine ⟨(r0 ++ [qs[k].At], r1, r2, r3, r4, r5, ((k + 1 : Nat) : Int)), rfl, rfl, ?_⟩
        have hi : qs[k].Task = 0 := hi
        have c0 : decide (qs[k].Task < (0 : Int)) = false := decide_eq_false (by omega)
        have c1 : decide (qs[k].Task ≥ (l.length : Int)) = false := decide_eq_false (by omega)
        have d0 : decide (qs[k].Task = (0 : Int)) = true := decide_eq_true hi
        have e := hck r0 qs[k].At (hb _ (by simp))
        simp only [hlt k hk, fk_t, jn_eq, ix_get hf, ix_get hq, fk_f, hwr k hk, c0, c1, d0, ck_t e]
      · refine ⟨(r0, r1 ++ [qs[k].At], r2, r3, r4, r5, ((k + 1 : Nat) : Int)), rfl, rfl, ?_⟩
        have hi : qs[k].Task = 1 := hi
        have c0 : decide (qs[k].Task < (0 : Int)) = false := decide_eq_false (by omega)
        have c1 : decide (qs[k].Task ≥ (l.length : Int)) = false := decide_eq_false (by omega)
        have d0 : decide (qs[k].Task = (0 : Int)) = false := decide_eq_false (by omega)
        have d1 : decide (qs[k].Task = (1 : Int)) = true := decide_eq_true hi
        have e := hck r1 qs[k].At (hb _ (by simp))
        simp only [hlt k hk, fk_t, jn_eq, ix_get hf, ix_get hq, fk_f, hwr k hk, c0, c1, d0, d1, ck_t e]
      · refine ⟨(r0, r1, r2 ++ [qs[k].At], r3, r4, r5, ((k + 1 : Nat) : Int)), rfl, rfl, ?_⟩
        have hi : qs[k].Task = 2 := hi
        have c0 : decide (qs[k].Task < (0 : Int)) = false := decide_eq_false (by omega)
        have c1 : decide (qs[k].Task ≥ (l.length : Int)) = false := decide_eq_false (by omega)
        have d0 : decide (qs[k].Task = (0 : Int)) = false := decide_eq_false (by omega)
        have d1 : decide (qs[k].Task = (1 : Int)) = false := decide_eq_false (by omega)
        have d2 : decide (qs[k].Task = (2 : Int)) = true := decide_eq_true hi
        have e := hck r2 qs[k].At (hb _ (by simp))
        simp only [hlt k hk, fk_t, jn_eq, ix_get hf, ix_get hq, fk_f, hwr k hk, c0, c1, d0, d1, d2, ck_t e]
      · refine ⟨(r0, r1, r2, r3 ++ [qs[k].At], r4, r5, ((k + 1 : Nat) : Int)), rfl, rfl, ?_⟩
        have hi : qs[k].Task = 3 := hi
        have c0 : decide (qs[k].Task < (0 : Int)) = false := decide_eq_false (by omega)
        have c1 : decide (qs[k].Task ≥ (l.length : Int)) = false := decide_eq_false (by omega)
        have d0 : decide (qs[k].Task = (0 : Int)) = false := decide_eq_false (by omega)
        have d1 : decide (qs[k].Task = (1 : Int)) = false := decide_eq_false (by omega)
        have d2 : decide (qs[k].Task = (2 : Int)) = false := decide_eq_false (by omega)
        have d3 : decide (qs[k].Task = (3 : Int)) = true := decide_eq_true hi
        have e := hck r3 qs[k].At (hb _ (by simp))
        simp only [hlt k hk, fk_t, jn_eq, ix_get hf, ix_get hq, fk_f, hwr k hk, c0, c1, d0, d1, d2, d3, ck_t e]
      · refine ⟨(r0, r1, r2, r3, r4 ++ [qs[k].At], r5, ((k + 1 : Nat) : Int)), rfl, rfl, ?_⟩
        have hi : qs[k].Task = 4 := hi
        have c0 : decide (qs[k].Task < (0 : Int)) = false := decide_eq_false (by omega)
        have c1 : decide (qs[k].Task ≥ (l.length : Int)) = false := decide_eq_false (by omega)
        have d0 : decide (qs[k].Task = (0 : Int)) = false := decide_eq_false (by omega)
        have d1 : decide (qs[k].Task = (1 : Int)) = false := decide_eq_false (by omega)
        have d2 : decide (qs[k].Task = (2 : Int)) = false := decide_eq_false (by omega)
        have d3 : decide (qs[k].Task = (3 : Int)) = false := decide_eq_false (by omega)
        have d4 : decide (qs[k].Task = (4 : Int)) = true := decide_eq_true hi
        have e := hck r4 qs[k].At (hb _ (by simp))
        simp only [hlt k hk, fk_t, jn_eq, ix_get hf, ix_get hq, fk_f, hwr k hk, c0, c1, d0, d1, d2, d3, d4, ck_t e]
      · refine ⟨(r0, r1, r2, r3, r4, r5 ++ [qs[k].At], ((k + 1 : Nat) : Int)), rfl, rfl, ?_⟩
        have hi : qs[k].Task = 5 := hi
        have c0 : decide (qs[k].Task < (0 : Int)) = false := decide_eq_false (by omega)
        have c1 : decide (qs[k].Task ≥ (l.length : Int)) = false := decide_eq_false (by omega)
        have d0 : decide (qs[k].Task = (0 : Int)) = false := decide_eq_false (by omega)
        have d1 : decide (qs[k].Task = (1 : Int)) = false := decide_eq_false (by omega)
        have d2 : decide (qs[k].Task = (2 : Int)) = false := decide_eq_false (by omega)
        have d3 : decide (qs[k].Task = (3 : Int)) = false := decide_eq_false (by omega)
        have d4 : decide (qs[k].Task = (4 : Int)) = false := decide_eq_false (by omega)
        have d5 : decide (qs[k].Task = (5 : Int)) = true := decide_eq_true hi
        have e := hck r5 qs[k].At (hb _ (by simp))
        simp only [hlt k hk, fk_t, jn_eq, ix_get hf, ix_get hq, fk_f, hwr k hk, c0, c1, d0, d1, d2, d3, d4, d5, ck_t e]
  rw [decide_eq_false (p := (l.length : Int) = (6 : Int)) (by omega), fk_f]
  by_cases h7 : l.length = 7
  · have hn : (l.length : Int) = 7 := by omega
    rw [decide_eq_true (p := (l.length : Int) = (7 : Int)) hn, fk_t]
    refine pat_lp l qs ha h100 (fun v => v.2.2.2.2.2.2.2) (fun v => [v.1, v.2.1, v.2.2.1, v.2.2.2.1, v.2.2.2.2.1, v.2.2.2.2.2.1, v.2.2.2.2.2.2.1]) _ rfl (by rw [h7]; rfl) ?_ ?_ ?_
    · rintro nx ⟨r0, r1, r2, r3, r4, r5, r6, q⟩ hv hp
      simp only at hv
      subst hv
      simp only [hge, fk_f]
      rw [bnd_eq (demand_Legal_eq l _ hll (by simp)), decide_eq_true hp, fk_t, bnd_eq law16_knows_eq]
    · rintro nx ⟨r0, r1, r2, r3, r4, r5, r6, q⟩ k hk hv hf
      simp only at hv
      subst hv
      refine ⟨(r0, r1, r2, r3, r4, r5, r6, ((k + 1 : Nat) : Int)), rfl, rfl, ?_⟩
      simp only [hlt k hk, fk_t, jn_eq, ix_get hf, fk_f, hwr k hk]
    · rintro nx ⟨r0, r1, r2, r3, r4, r5, r6, q⟩ k hk hv hf i hi hil hb
      simp only at hv
      subst hv
      have hq := List.getElem?_eq_getElem hk
      have hc : i = 0 ∨ i = 1 ∨ i = 2 ∨ i = 3 ∨ i = 4 ∨ i = 5 ∨ i = 6 := by omega
      rcases hc with rfl | rfl | rfl | rfl | rfl | rfl | rfl
      · refine ⟨(r0 ++ [qs[k].At], r1, r2, r3, r4, r5, r6, ((k + 1 : Nat) : Int)), rfl, rfl, ?_⟩
        have hi : qs[k].Task = 0 := hi
        have c0 : decide (qs[k].Task < (0 : Int)) = false := decide_eq_false (by omega)
        have c1 : decide (qs[k].Task ≥ (l.length : Int)) = false := decide_eq_false (by omega)
        have d0 : decide (qs[k].Task = (0 : Int)) = true := decide_eq_true hi
        have e := hck r0 qs[k].At (hb _ (by simp))
        simp only [hlt k hk, fk_t, jn_eq, ix_get hf, ix_get hq, fk_f, hwr k hk, c0, c1, d0, ck_t e]
      · refine ⟨(r0, r1 ++ [qs[k].At], r2, r3, r4, r5, r6, ((k + 1 : Nat) : Int)), rfl, rfl, ?_⟩
        have hi : qs[k].Task = 1 := hi
        have c0 : decide (qs[k].Task < (0 : Int)) = false := decide_eq_false (by omega)
        have c1 : decide (qs[k].Task ≥ (l.length : Int)) = false := decide_eq_false (by omega)
        have d0 : decide (qs[k].Task = (0 : Int)) = false := decide_eq_false (by omega)
        have d1 : decide (qs[k].Task = (1 : Int)) = true := decide_eq_true hi
        have e := hck r1 qs[k].At (hb _ (by simp))
        simp only [hlt k hk, fk_t, jn_eq, ix_get hf, ix_get hq, fk_f, hwr k hk, c0, c1, d0, d1, ck_t e]
      · refine ⟨(r0, r1, r2 ++ [qs[k].At], r3, r4, r5, r6, ((k + 1 : Nat) : Int)), rfl, rfl, ?_⟩
        have hi : qs[k].Task = 2 := hi
        have c0 : decide (qs[k].Task < (0 : Int)) = false := decide_eq_false (by omega)
        have c1 : decide (qs[k].Task ≥ (l.length : Int)) = false := decide_eq_false (by omega)
        have d0 : decide (qs[k].Task = (0 : Int)) = false := decide_eq_false (by omega)
        have d1 : decide (qs[k].Task = (1 : Int)) = false := decide_eq_false (by omega)
        have d2 : decide (qs[k].Task = (2 : Int)) = true := decide_eq_true hi
        have e := hck r2 qs[k].At (hb _ (by simp))
        simp only [hlt k hk, fk_t, jn_eq, ix_get hf, ix_get hq, fk_f, hwr k hk, c0, c1, d0, d1, d2, ck_t e]
      · refine ⟨(r0, r1, r2, r3 ++ [qs[k].At], r4, r5, r6, ((k + 1 : Nat) : Int)), rfl, rfl, ?_⟩
        have hi : qs[k].Task = 3 := hi
        have c0 : decide (qs[k].Task < (0 : Int)) = false := decide_eq_false (by omega)
        have c1 : decide (qs[k].Task ≥ (l.length : Int)) = false := decide_eq_false (by omega)
        have d0 : decide (qs[k].Task = (0 : Int)) = false := decide_eq_false (by omega)
        have d1 : decide (qs[k].Task = (1 : Int)) = false := decide_eq_false (by omega)
        have d2 : decide (qs[k].Task = (2 : Int)) = false := decide_eq_false (by omega)
        have d3 : decide (qs[k].Task = (3 : Int)) = true := decide_eq_true hi
        have e := hck r3 qs[k].At (hb _ (by simp))
        simp only [hlt k hk, fk_t, jn_eq, ix_get hf, ix_get hq, fk_f, hwr k hk, c0, c1, d0, d1, d2, d3, ck_t e]
      · refine ⟨(r0, r1, r2, r3, r4 ++ [qs[k].At], r5, r6, ((k + 1 : Nat) : Int)), rfl, rfl, ?_⟩
        have hi : qs[k].Task = 4 := hi
        have c0 : decide (qs[k].Task < (0 : Int)) = false := decide_eq_false (by omega)
        have c1 : decide (qs[k].Task ≥ (l.length : Int)) = false := decide_eq_false (by omega)
        have d0 : decide (qs[k].Task = (0 : Int)) = false := decide_eq_false (by omega)
        have d1 : decide (qs[k].Task = (1 : Int)) = false := decide_eq_false (by omega)
        have d2 : decide (qs[k].Task = (2 : Int)) = false := decide_eq_false (by omega)
        have d3 : decide (qs[k].Task = (3 : Int)) = false := decide_eq_false (by omega)
        have d4 : decide (qs[k].Task = (4 : Int)) = true := decide_eq_true hi
        have e := hck r4 qs[k].At (hb _ (by simp))
        simp only [hlt k hk, fk_t, jn_eq, ix_get hf, ix_get hq, fk_f, hwr k hk, c0, c1, d0, d1, d2, d3, d4, ck_t e]
      · refine ⟨(r0, r1, r2, r3, r4, r5 ++ [qs[k].At], r6, ((k + 1 : Nat) : Int)), rfl, rfl, ?_⟩
        have hi : qs[k].Task = 5 := hi
        have c0 : decide (qs[k].Task < (0 : Int)) = false := decide_eq_false (by omega)
        have c1 : decide (qs[k].Task ≥ (l.length : Int)) = false := decide_eq_false (by omega)
        have d0 : decide (qs[k].Task = (0 : Int)) = false := decide_eq_false (by omega)
        have d1 : decide (qs[k].Task = (1 : Int)) = false := decide_eq_false (by omega)
        have d2 : decide (qs[k].Task = (2 : Int)) = false := decide_eq_false (by omega)
        have d3 : decide (qs[k].Task = (3 : Int)) = false := decide_eq_false (by omega)
        have d4 : decide (qs[k].Task = (4 : Int)) = false := decide_eq_false (by omega)
        have d5 : decide (qs[k].Task = (5 : Int)) = true := decide_eq_true hi
        have e := hck r5 qs[k].At (hb _ (by simp))
        simp only [hlt k hk, fk_t, jn_eq, ix_get hf, ix_get hq, fk_f, hwr k hk, c0, c1, d0, d1, d2, d3, d4, d5, ck_t e]
      · refine ⟨(r0, r1, r2, r3, r4, r5, r6 ++ [qs[k].At], ((k + 1 : Nat) : Int)), rfl, rfl, ?_⟩
        have hi : qs[k].Task = 6 := hi
        have c0 : decide (qs[k].Task < (0 : Int)) = false := decide_eq_false (by omega)
        have c1 : decide (qs[k].Task ≥ (l.length : Int)) = false := decide_eq_false (by omega)
        have d0 : decide (qs[k].Task = (0 : Int)) = false := decide_eq_false (by omega)
        have d1 : decide (qs[k].Task = (1 : Int)) = false := decide_eq_false (by omega)
        have d2 : decide (qs[k].Task = (2 : Int)) = false := decide_eq_false (by omega)
        have d3 : decide (qs[k].Task = (3 : Int)) = false := decide_eq_false (by omega)
        have d4 : decide (qs[k].Task = (4 : Int)) = false := decide_eq_false (by omega)
        have d5 : decide (qs[k].Task = (5 : Int)) = false := decide_eq_false (by omega)
        have d6 : decide (qs[k].Task = (6 : Int)) = true := decide_eq_true hi
        have e := hck r6 qs[k].At (hb _ (by simp))
        simp only [hlt k hk, fk_t, jn_eq, ix_get hf, ix_get hq, fk_f, hwr k hk, c0, c1, d0, d1, d2, d3, d4, d5, d6, ck_t e]
  rw [decide_eq_false (p := (l.length : Int) = (7 : Int)) (by omega), fk_f]
  have h8 : l.length = 8 := by omega
  have hn : (l.length : Int) = 8 := by omega
  rw [decide_eq_true (p := (l.length : Int) = (8 : Int)) hn, fk_t]
  refine pat_lp l qs ha h100 (fun v => v.2.2.2.2.2.2.2.2) (fun v => [v.1, v.2.1, v.2.2.1, v.2.2.2.1, v.2.2.2.2.1, v.2.2.2.2.2.1, v.2.2.2.2.2.2.1, v.2.2.2.2.2.2.2.1]) _ rfl (by rw [h8]; rfl) ?_ ?_ ?_
  · rintro nx ⟨r0, r1, r2, r3, r4, r5, r6, r7, q⟩ hv hp
    simp only at hv
    subst hv
    simp only [hge, fk_f]
    rw [bnd_eq (demand_Legal_eq l _ hll (by simp)), decide_eq_true hp, fk_t, bnd_eq law16_knows_eq]
  · rintro nx ⟨r0, r1, r2, r3, r4, r5, r6, r7, q⟩ k hk hv hf
    simp only at hv
    subst hv
    refine ⟨(r0, r1, r2, r3, r4, r5, r6, r7, ((k + 1 : Nat) : Int)), rfl, rfl, ?_⟩
    simp only [hlt k hk, fk_t, jn_eq, ix_get hf, fk_f, hwr k hk]
  · rintro nx ⟨r0, r1, r2, r3, r4, r5, r6, r7, q⟩ k hk hv hf i hi hil hb
    simp only at hv
    subst hv
    have hq := List.getElem?_eq_getElem hk
    have hc : i = 0 ∨ i = 1 ∨ i = 2 ∨ i = 3 ∨ i = 4 ∨ i = 5 ∨ i = 6 ∨ i = 7 := by omega
    rcases hc with rfl | rfl | rfl | rfl | rfl | rfl | rfl | rfl
    · refine ⟨(r0 ++ [qs[k].At], r1, r2, r3, r4, r5, r6, r7, ((k + 1 : Nat) : Int)), rfl, rfl, ?_⟩
      have hi : qs[k].Task = 0 := hi
      have c0 : decide (qs[k].Task < (0 : Int)) = false := decide_eq_false (by omega)
      have c1 : decide (qs[k].Task ≥ (l.length : Int)) = false := decide_eq_false (by omega)
      have d0 : decide (qs[k].Task = (0 : Int)) = true := decide_eq_true hi
      have e := hck r0 qs[k].At (hb _ (by simp))
      simp only [hlt k hk, fk_t, jn_eq, ix_get hf, ix_get hq, fk_f, hwr k hk, c0, c1, d0, ck_t e]
    · refine ⟨(r0, r1 ++ [qs[k].At], r2, r3, r4, r5, r6, r7, ((k + 1 : Nat) : Int)), rfl, rfl, ?_⟩
      have hi : qs[k].Task = 1 := hi
      have c0 : decide (qs[k].Task < (0 : Int)) = false := decide_eq_false (by omega)
      have c1 : decide (qs[k].Task ≥ (l.length : Int)) = false := decide_eq_false (by omega)
      have d0 : decide (qs[k].Task = (0 : Int)) = false := decide_eq_false (by omega)
      have d1 : decide (qs[k].Task = (1 : Int)) = true := decide_eq_true hi
      have e := hck r1 qs[k].At (hb _ (by simp))
      simp only [hlt k hk, fk_t, jn_eq, ix_get hf, ix_get hq, fk_f, hwr k hk, c0, c1, d0, d1, ck_t e]
    · refine ⟨(r0, r1, r2 ++ [qs[k].At], r3, r4, r5, r6, r7, ((k + 1 : Nat) : Int)), rfl, rfl, ?_⟩
      have hi : qs[k].Task = 2 := hi
      have c0 : decide (qs[k].Task < (0 : Int)) = false := decide_eq_false (by omega)
      have c1 : decide (qs[k].Task ≥ (l.length : Int)) = false := decide_eq_false (by omega)
      have d0 : decide (qs[k].Task = (0 : Int)) = false := decide_eq_false (by omega)
      have d1 : decide (qs[k].Task = (1 : Int)) = false := decide_eq_false (by omega)
      have d2 : decide (qs[k].Task = (2 : Int)) = true := decide_eq_true hi
      have e := hck r2 qs[k].At (hb _ (by simp))
      simp only [hlt k hk, fk_t, jn_eq, ix_get hf, ix_get hq, fk_f, hwr k hk, c0, c1, d0, d1, d2, ck_t e]
    · refine ⟨(r0, r1, r2, r3 ++ [qs[k].At], r4, r5, r6, r7, ((k + 1 : Nat) : Int)), rfl, rfl, ?_⟩
      have hi : qs[k].Task = 3 := hi
      have c0 : decide (qs[k].Task < (0 : Int)) = false := decide_eq_false (by omega)
      have c1 : decide (qs[k].Task ≥ (l.length : Int)) = false := decide_eq_false (by omega)
      have d0 : decide (qs[k].Task = (0 : Int)) = false := decide_eq_false (by omega)
      have d1 : decide (qs[k].Task = (1 : Int)) = false := decide_eq_false (by omega)
      have d2 : decide (qs[k].Task = (2 : Int)) = false := decide_eq_false (by omega)
      have d3 : decide (qs[k].Task = (3 : Int)) = true := decide_eq_true hi
      have e := hck r3 qs[k].At (hb _ (by simp))
      simp only [hlt k hk, fk_t, jn_eq, ix_get hf, ix_get hq, fk_f, hwr k hk, c0, c1, d0, d1, d2, d3, ck_t e]
    · refine ⟨(r0, r1, r2, r3, r4 ++ [qs[k].At], r5, r6, r7, ((k + 1 : Nat) : Int)), rfl, rfl, ?_⟩
      have hi : qs[k].Task = 4 := hi
      have c0 : decide (qs[k].Task < (0 : Int)) = false := decide_eq_false (by omega)
      have c1 : decide (qs[k].Task ≥ (l.length : Int)) = false := decide_eq_false (by omega)
      have d0 : decide (qs[k].Task = (0 : Int)) = false := decide_eq_false (by omega)
      have d1 : decide (qs[k].Task = (1 : Int)) = false := decide_eq_false (by omega)
      have d2 : decide (qs[k].Task = (2 : Int)) = false := decide_eq_false (by omega)
      have d3 : decide (qs[k].Task = (3 : Int)) = false := decide_eq_false (by omega)
      have d4 : decide (qs[k].Task = (4 : Int)) = true := decide_eq_true hi
      have e := hck r4 qs[k].At (hb _ (by simp))
      simp only [hlt k hk, fk_t, jn_eq, ix_get hf, ix_get hq, fk_f, hwr k hk, c0, c1, d0, d1, d2, d3, d4, ck_t e]
    · refine ⟨(r0, r1, r2, r3, r4, r5 ++ [qs[k].At], r6, r7, ((k + 1 : Nat) : Int)), rfl, rfl, ?_⟩
      have hi : qs[k].Task = 5 := hi
      have c0 : decide (qs[k].Task < (0 : Int)) = false := decide_eq_false (by omega)
      have c1 : decide (qs[k].Task ≥ (l.length : Int)) = false := decide_eq_false (by omega)
      have d0 : decide (qs[k].Task = (0 : Int)) = false := decide_eq_false (by omega)
      have d1 : decide (qs[k].Task = (1 : Int)) = false := decide_eq_false (by omega)
      have d2 : decide (qs[k].Task = (2 : Int)) = false := decide_eq_false (by omega)
      have d3 : decide (qs[k].Task = (3 : Int)) = false := decide_eq_false (by omega)
      have d4 : decide (qs[k].Task = (4 : Int)) = false := decide_eq_false (by omega)
      have d5 : decide (qs[k].Task = (5 : Int)) = true := decide_eq_true hi
      have e := hck r5 qs[k].At (hb _ (by simp))
      simp only [hlt k hk, fk_t, jn_eq, ix_get hf, ix_get hq, fk_f, hwr k hk, c0, c1, d0, d1, d2, d3, d4, d5, ck_t e]
    · refine ⟨(r0, r1, r2, r3, r4, r5, r6 ++ [qs[k].At], r7, ((k + 1 : Nat) : Int)), rfl, rfl, ?_⟩
      have hi : qs[k].Task = 6 := hi
      have c0 : decide (qs[k].Task < (0 : Int)) = false := decide_eq_false (by omega)
      have c1 : decide (qs[k].Task ≥ (l.length : Int)) = false := decide_eq_false (by omega)
      have d0 : decide (qs[k].Task = (0 : Int)) = false := decide_eq_false (by omega)
      have d1 : decide (qs[k].Task = (1 : Int)) = false := decide_eq_false (by omega)
      have d2 : decide (qs[k].Task = (2 : Int)) = false := decide_eq_false (by omega)
      have d3 : decide (qs[k].Task = (3 : Int)) = false := decide_eq_false (by omega)
      have d4 : decide (qs[k].Task = (4 : Int)) = false := decide_eq_false (by omega)
      have d5 : decide (qs[k].Task = (5 : Int)) = false := decide_eq_false (by omega)
      have d6 : decide (qs[k].Task = (6 : Int)) = true := decide_eq_true hi
      have e := hck r6 qs[k].At (hb _ (by simp))
      simp only [hlt k hk, fk_t, jn_eq, ix_get hf, ix_get hq, fk_f, hwr k hk, c0, c1, d0, d1, d2, d3, d4, d5, d6, ck_t e]
    · refine ⟨(r0, r1, r2, r3, r4, r5, r6, r7 ++ [qs[k].At], ((k + 1 : Nat) : Int)), rfl, rfl, ?_⟩
      have hi : qs[k].Task = 7 := hi
      have c0 : decide (qs[k].Task < (0 : Int)) = false := decide_eq_false (by omega)
      have c1 : decide (qs[k].Task ≥ (l.length : Int)) = false := decide_eq_false (by omega)
      have d0 : decide (qs[k].Task = (0 : Int)) = false := decide_eq_false (by omega)
      have d1 : decide (qs[k].Task = (1 : Int)) = false := decide_eq_false (by omega)
      have d2 : decide (qs[k].Task = (2 : Int)) = false := decide_eq_false (by omega)
      have d3 : decide (qs[k].Task = (3 : Int)) = false := decide_eq_false (by omega)
      have d4 : decide (qs[k].Task = (4 : Int)) = false := decide_eq_false (by omega)
      have d5 : decide (qs[k].Task = (5 : Int)) = false := decide_eq_false (by omega)
      have d6 : decide (qs[k].Task = (6 : Int)) = false := decide_eq_false (by omega)
      have d7 : decide (qs[k].Task = (7 : Int)) = true := decide_eq_true hi
      have e := hck r7 qs[k].At (hb _ (by simp))
      simp only [hlt k hk, fk_t, jn_eq, ix_get hf, ix_get hq, fk_f, hwr k hk, c0, c1, d0, d1, d2, d3, d4, d5, d6, d7, ck_t e]
end Go.Proofs.Ytkhebjkplmidnaa
namespace Go.Proofs.Ytkhebjkplmidnaa.policePatterns
open Go Go.VC Go.ChangeShapes Go.WideShapes Go.ChangeAt Go.RowKit
theorem own : ownKnob Try.prog.godebug = none := by kernel_rfl
theorem laidOut : laidOutB Try.prog = true := by kernel_rfl
theorem lifted (os : Os) (started : os.Started) (H : Type) (enc : TypeId × Value → H) :
    ReturnsInHanded {} Try.checked os 6 .any (Rows.policePatternsSpec.pre6 enc Try.prog Try.f6 Rows.policePatternsRow.domain false) (Rows.policePatternsSpec.post enc Try.prog Try.f6 false true false false) := by
  refine returnsInHanded_of_change_sized (C := Try.checked) own started (by kernel_rfl) Try.func6
    (ChangeSpec.witness6 (enc := enc) (C := Try.checked) false ⟨#[], #[.slice none 0 0, .slice none 0 0], []⟩ 8 (by kernel_rfl) (by kernel_rfl) (by kernel_rfl) (by kernel_rfl)) ?_
  intro W base args ds gs before hval0 hW hcnd hsz0 _
  have hsz : (DataW.weightsEach Try.prog (Try.f6.params.toList ++ Rows.policePatternsSpec.plain.varTypes Try.prog) (ds ++ gs)).all (· ≤ reachBytes) = true := hsz0
  have hval : ∀ (j : Nat) t v, Try.f6.params[j]? = some t → args[j]? = some v → Value.okWide Try.prog W .any base t v := hval0
  have hW' := hW
  obtain ⟨p, q, hA0, hV, rfl, hfz, hnd⟩ := hW
  have hA : DataW.TrodAll enc Try.prog W 0 (fun _ => true) true Try.f6.params.toList args.toList ds p := hA0
  rw [Try.params6] at hA hval hsz
  obtain ⟨v0, vs0, d0, ds0, p0, q0, hargs, rfl, rfl, h0, r0⟩ := trodAll_cons hA
  obtain ⟨v1, vs1, d1, ds1, p1, q1, rfl, rfl, rfl, h1, r1⟩ := trodAll_cons r0
  obtain ⟨rfl, rfl, rfl⟩ := trodAll_nil r1
  obtain rfl : args = #[v0, v1] := by cases args; simp_all
  obtain ⟨rfl, rfl⟩ := trodVars_none hV
  have lt0 : ∀ x ∈ p0, x.block < W.heap.size := by obtain ⟨m, hm⟩ := h0; exact DataW.trod_lt m _ _ _ hm
  have wt0 : ∀ k ∈ d0.weights Try.prog 22, k ≤ BB := fun k hk => of_decide_eq_true (List.all_eq_true.1 hsz _ (DataW.weights_mem_each (j := 0) rfl rfl k hk))
  obtain ⟨c0, s0, g0⟩ := open_cv tab (m := 8) (t := 22) rfl (hval 0 22 v0 rfl rfl) h0 wt0
  have g0 := g0 _ T22
  obtain ⟨a0, rfl, w0⟩ := (s0.l (f := Task.enc) (W := (fun x => Task.wf x)) T22 T65 (fun _ _ h => (Task.of h)))
  have lt1 : ∀ x ∈ p1, x.block < W.heap.size := by obtain ⟨m, hm⟩ := h1; exact DataW.trod_lt m _ _ _ hm
  have wt1 : ∀ k ∈ d1.weights Try.prog 33, k ≤ BB := fun k hk => of_decide_eq_true (List.all_eq_true.1 hsz _ (DataW.weights_mem_each (j := 1) rfl rfl k hk))
  obtain ⟨c1, s1, g1⟩ := open_cv tab (m := 8) (t := 33) rfl (hval 1 33 v1 rfl rfl) h1 wt1
  have g1 := g1 _ T33
  obtain ⟨a1, rfl, w1⟩ := (s1.l (f := PoliceAsk.enc) (W := (fun x => PoliceAsk.wf x)) T33 T43 (fun _ _ h => (PoliceAsk.of h)))
  clear hA0 hval0 hsz0 hsz
  have pure := proofPolicePatterns a0 a1 w0 w1
  refine ((law16_PolicePatterns_w a0 a1 true pure).2 W (pw W) [v0, v1] (fun _ h => h) (All2.cons g0 (All2.cons g1 All2.nil))).mono fun e W' ⟨v, rs, p', he, hR, hrep, bel, _⟩ => ?_
  subst hR he
  obtain rfl := RepD_bool hrep
  exact ⟨_, rfl, _, _, _, [], _, [], hW', trodAll_mk1 (shut_bool Try.underlying4 _), (trodAll_cons_mk (Below.trod laidOut (by kernel_rfl) (of_decide_eq_true (by kernel_rfl)) h0 bel lt0) (trodAll_cons_mk (Below.trod laidOut (by kernel_rfl) (of_decide_eq_true (by kernel_rfl)) h1 bel lt1) trodAll_mk0)), rfl, bel.frame _, fun h => by cases h⟩
theorem over : Rows.policePatternsRow.holds Try.pinned (OpenSpec.ofChange Rows.policePatternsSpec) :=
  OpenClaim.holds_of_wide 6 Try.f6 rfl rfl rfl rfl rfl rfl rfl ⟨rfl, rfl, rfl, rfl, rfl⟩ rfl rfl rfl rfl rfl (by kernel_rfl) Try.func6 (by kernel_rfl)
    (of_decide_eq_true (by kernel_rfl)) (by unfold Func.isWrapper; first | (rw [if_pos (by decide +kernel)]; kernel_rfl) | (rw [if_neg (by decide +kernel)]; exact ⟨rfl, rfl⟩))
    (fun os started H enc _ => lifted os started H enc)
end Go.Proofs.Ytkhebjkplmidnaa.policePatterns
namespace Go.Proofs.Ytkhebjkplmidnaa
theorem policePatterns_holds : Rows.PolicePatternsSaid := policePatterns.over
end Go.Proofs.Ytkhebjkplmidnaa
