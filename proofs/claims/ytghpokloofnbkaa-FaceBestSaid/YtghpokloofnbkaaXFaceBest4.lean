/- Part 15 of what follows is proved here: what the statement FaceBest needs of functions and plain laws. -/
import Derived.Test.YtghpokloofnbkaaXFaceBest3
import Derived.Test.YtghpokloofnbkaaV9
import Derived.Test.YtghpokloofnbkaaV8
import Derived.Test.YtghpokloofnbkaaXFaceBest0
set_option linter.unusedVariables false
set_option linter.unusedSimpArgs false
set_option maxRecDepth 100000
set_option maxHeartbeats 4000000
namespace Go.VC
/-! Lists that are known row by row (slices of functions). -/
section
variable {R : Type} {r : R} {rows : List (List D)}
theorem ixC {A B : Option R} {n : Int} {sz : Nat} {K : List D → Prop} (j : Nat) (row : List D) (h : fk (decide (n = (j : Int))) A B = some r) (e : rows[j]? = some row) (hs : row.length = sz) (k1 : A = some r → K row) (k2 : B = some r → IdxK rows n sz K) : IdxK rows n sz K := by
  by_cases c : n = (j : Int)
  · rw [decide_eq_true c] at h
    exact ⟨by omega, row, by rw [c, Int.toNat_natCast]; exact e, hs, k1 h⟩
  · rw [decide_eq_false c] at h
    exact k2 h
theorem ixN {n : Int} {sz : Nat} {K : List D → Prop} (h : (none : Option R) = some r) : IdxK rows n sz K := by cases h
theorem liR {len : Nat} {K : List (List D) → Prop} (hl : rows.length = len) (k : K rows) : LitK rows len K := ⟨hl, k⟩
theorem lenR (n : Int) {K : Int → Prop} (e : (rows.length : Int) = n) (k : K n) : LenK rows K := ⟨by rw [e]; exact k⟩
end
end Go.VC
namespace Go.Proofs.Ytghpokloofnbkaa
open Go Go.VC
structure Face where
  P : Int
  B : Int
  deriving DecidableEq
def Face.enc (x : Face) : List Go.VC.D := [.int .i64 x.P, .int .i64 x.B]
structure Sec where
  Res : Int
  At : Int
  Len : Int
  deriving DecidableEq
def Sec.enc (x : Sec) : List Go.VC.D := [.int .i64 x.Res, .int .i64 x.At, .int .i64 x.Len]
structure Task where
  C : Int
  D : Int
  T : Int
  Secs : List Sec
  deriving DecidableEq
def Task.enc (x : Task) : List Go.VC.D := [.int .i64 x.C, .int .i64 x.D, .int .i64 x.T, .sl (x.Secs.map Sec.enc)]
def E_Bool : Bool → List CV := fun r => [.d (.bool r)]
def E_Int_Int_Int : (Int × Int × Int) → List CV := fun r => [.d (.int .i64 r.1), .d (.int .i64 r.2.1), .d (.int .i64 r.2.2)]
def E_Face_Int : (Face × Int) → List CV := fun r => [.agg (Face.enc r.1), .d (.int .i64 r.2)]
def E_Bool_Int : (Bool × Int) → List CV := fun r => [.d (.bool r.1), .d (.int .i64 r.2)]
def E_Int_Int : (Int × Int) → List CV := fun r => [.d (.int .i64 r.1), .d (.int .i64 r.2)]
def E_Int : Int → List CV := fun r => [.d (.int .i64 r)]
def E_Int_Bool_Int : (Int × Bool × Int) → List CV := fun r => [.d (.int .i64 r.1), .d (.bool r.2.1), .d (.int .i64 r.2.2)]
def E_Int_Bool : (Int × Bool) → List CV := fun r => [.d (.int .i64 r.1), .d (.bool r.2)]
end Go.Proofs.Ytghpokloofnbkaa
namespace Go.Proofs.Ytghpokloofnbkaa
open Go Go.VC
theorem andT {α : Type} {p : α → Prop} (h : ∃ x, p x) : ∃ x, p x ∧ True := h.imp fun _ h => ⟨h, trivial⟩
def wfI (k : IntKind) (n : Int) : Prop := (Lit.int k n).wf = true
abbrev tyT := T
def Sec.wf (x : Sec) : Prop := wfI .i64 x.Res ∧ wfI .i64 x.At ∧ wfI .i64 x.Len
theorem Sec.of {n : Nat} {ds : List Go.VC.D} (h : ShD tyT n 59 ds) : ∃ x : Sec, ds = x.enc ∧ x.wf := by
  obtain ⟨m, q0⟩ := h.st T59
  clear h
  obtain ⟨d0, r0, e0, h0, q1⟩ := q0.c
  obtain ⟨y0, z0, w0⟩ := (h0.i T3)
  obtain ⟨d1, r1, e1, h1, q2⟩ := q1.c
  obtain ⟨y1, z1, w1⟩ := (h1.i T3)
  obtain ⟨d2, r2, e2, h2, q3⟩ := q2.c
  obtain ⟨y2, z2, w2⟩ := (h2.i T3)
  subst e0 z0 e1 z1 e2 z2
  cases q3
  exact ⟨⟨y0, y1, y2⟩, rfl, w0, w1, w2⟩
def Task.wf (x : Task) : Prop := wfI .i64 x.C ∧ wfI .i64 x.D ∧ wfI .i64 x.T ∧ (x.Secs.length * 24 ≤ BB ∧ ∀ y1 ∈ x.Secs, Sec.wf y1)
theorem Task.of {n : Nat} {ds : List Go.VC.D} (h : ShD tyT n 38 ds) : ∃ x : Task, ds = x.enc ∧ x.wf := by
  obtain ⟨m, q0⟩ := h.st T38
  clear h
  obtain ⟨d0, r0, e0, h0, q1⟩ := q0.c
  obtain ⟨y0, z0, w0⟩ := (h0.i T3)
  obtain ⟨d1, r1, e1, h1, q2⟩ := q1.c
  obtain ⟨y1, z1, w1⟩ := (h1.i T3)
  obtain ⟨d2, r2, e2, h2, q3⟩ := q2.c
  obtain ⟨y2, z2, w2⟩ := (h2.i T3)
  obtain ⟨d3, r3, e3, h3, q4⟩ := q3.c
  obtain ⟨y3, z3, w3⟩ := (h3.l (f := Sec.enc) (W := (fun x => Sec.wf x)) T36 T59 (fun _ _ h => (Sec.of h)))
  subst e0 z0 e1 z1 e2 z2 e3 z3
  cases q4
  exact ⟨⟨y0, y1, y2, y3⟩, rfl, w0, w1, w2, w3⟩
end Go.Proofs.Ytghpokloofnbkaa
namespace Go.Proofs.Ytghpokloofnbkaa
open Go Go.VC
noncomputable def arith_may (a0 : List Int) : Option Bool :=
  lp (fun nx1 (v1 : Int) => fk (decide (v1 < (a0.length : Int))) (ix a0 v1 fun x2 => jn (fun (w3 : Bool) => fk w3 (some false) (nx1 (wr (v1 + (1 : Int))))) (fun k3 => fk (decide (x2 > (4611686018427387903 : Int))) (k3 true) (k3 (decide (x2 < (-4611686018427387903 : Int)))))) (some true)) FU (0 : Int)
theorem arith_may_w (a0 : List Int) (r : Bool) (h : arith_may a0 = some r) : Go.VC.Spec Try.prog 43 [.d (.sl (a0.map (eI .i64)))] (fun y => y = E_Bool r) := by
  refine Go.VC.Spec.of_xc (args := [.d (.sl (a0.map (eI .i64)))]) (fn := Try.f43) tab ⟨[(0, [0]), (1, [5, 6, 7]), (2, [5, 6, 7, 8]), (3, [4, 5, 6, 7]), (4, [5, 6, 7, 16]), (5, [2]), (6, [5, 6, 7]), (7, [2])], [], [100016], []⟩ 18 [.tmp 2] rfl rfl rfl rfl rfl rfl ?_
  conv => whnf
  refine lenS a0 (eI .i64) rfl ?_
  conv => whnf
  refine lpS (fun v1 => ⟨[(5, .l (.d (.sl (a0.map (eI .i64))))), (6, .l (.d (.int .i64 (a0.length : Int)))), (7, .l (.d (.int .i64 v1)))], 18, [], [], []⟩) h (Weak.refl _) (fun _ nx1 hn1 v1 h => ?_)
  conv => whnf
  refine fkS h (fun h => ?_) (fun h => ?_)
  · conv => whnf
    refine ixS (enc := (eI .i64)) h rfl (fun _ => rfl) (fun x2 h => ?_)
    conv => whnf
    refine jnS (fun w3 => ⟨[(5, .l (.d (.sl (a0.map (eI .i64))))), (6, .l (.d (.int .i64 (a0.length : Int)))), (7, .l (.d (.int .i64 v1))), (16, .l (.d (.bool w3)))], 18, [], [], []⟩) h (fun k3 hk3 h => ?_) (fun w3 h => ?_)
    · conv => whnf
      refine fkS h (fun h => ?_) (fun h => ?_)
      · conv => whnf
        exact jeS hk3 h (Weak.refl _)
      conv => whnf
      exact jeS hk3 h (Weak.refl _)
    conv => whnf
    refine fkS h (fun h => ?_) (fun h => ?_)
    · conv => whnf
      exact rt (E := E_Bool) h rfl
    conv => whnf
    exact leS hn1 h (Weak.refl _)
  conv => whnf
  exact rt (E := E_Bool) h rfl

end Go.Proofs.Ytghpokloofnbkaa
namespace Go.Proofs.Ytghpokloofnbkaa
open Go Go.VC
noncomputable def arith_Add (a0 : Int) (a1 : Int) : Option (Int × Int) :=
  bnd (arith_may ([a0, a1] : List Int)) fun x1 => fk (!x1) (some ((0 : Int), (1 : Int))) (bnd (arith_may ([(wr (a0 + a1))] : List Int)) fun x2 => fk (!x2) (some ((0 : Int), (5 : Int))) (some ((wr (a0 + a1)), (0 : Int))))
theorem arith_Add_w (a0 : Int) (a1 : Int) (r : Int × Int) (h : arith_Add a0 a1 = some r) : Go.VC.Spec Try.prog 46 [.d (.int .i64 a0), .d (.int .i64 a1)] (fun y => y = E_Int_Int r) := by
  refine Go.VC.Spec.of_xc (args := [.d (.int .i64 a0), .d (.int .i64 a1)]) (fn := Try.f46) tab ⟨[(0, [0, 1]), (1, [0, 1, 6]), (2, [4, 5]), (3, [0, 1, 12]), (4, [4, 5]), (5, [4, 5])], [], [], []⟩ 22 [.tmp 4, .tmp 5] rfl rfl rfl rfl rfl rfl ?_
  conv => whnf
  refine liS ([a0, a1] : List Int) (eI .i64) rfl rfl ?_
  conv => whnf
  refine caS (E := E_Bool) h (arith_may_w ([a0, a1] : List Int)) rfl (fun _ => rfl) (fun x1 h => ?_)
  conv => whnf
  refine fkS h (fun h => ?_) (fun h => ?_)
  · conv => whnf
    exact rt (E := E_Int_Int) h rfl
  conv => whnf
  refine liS ([(wr (a0 + a1))] : List Int) (eI .i64) rfl rfl ?_
  conv => whnf
  refine caS (E := E_Bool) h (arith_may_w ([(wr (a0 + a1))] : List Int)) rfl (fun _ => rfl) (fun x2 h => ?_)
  conv => whnf
  refine fkS h (fun h => ?_) (fun h => ?_)
  · conv => whnf
    exact rt (E := E_Int_Int) h rfl
  conv => whnf
  exact rt (E := E_Int_Int) h rfl

end Go.Proofs.Ytghpokloofnbkaa
namespace Go.Proofs.Ytghpokloofnbkaa
open Go Go.VC
noncomputable def arith_Floor (a0 : Int) (a1 : Int) : Option (Int × Int) :=
  jn (fun (w1 : Bool) => fk w1 (some ((0 : Int), (1 : Int))) (ck (decide (a1 ≠ 0)) (ck (decide (a1 ≠ 0)) (fk (decide ((a0.tmod a1) < (0 : Int))) (some ((wr ((wr (a0.tdiv a1)) - (1 : Int))), (0 : Int))) (some ((wr (a0.tdiv a1)), (0 : Int))))))) (fun k1 => bnd (arith_may ([a0, a1] : List Int)) fun x2 => fk (!x2) (k1 true) (k1 (decide (a1 < (1 : Int)))))
theorem arith_Floor_w (a0 : Int) (a1 : Int) (r : Int × Int) (h : arith_Floor a0 a1 = some r) : Go.VC.Spec Try.prog 52 [.d (.int .i64 a0), .d (.int .i64 a1)] (fun y => y = E_Int_Int r) := by
  refine Go.VC.Spec.of_xc (args := [.d (.int .i64 a0), .d (.int .i64 a1)]) (fn := Try.f52) tab ⟨[(0, [0, 1]), (1, [0, 1, 15]), (2, [4, 5]), (3, [0, 1, 6]), (4, [6, 22]), (5, [6]), (6, [4, 5])], [], [100015], []⟩ 26 [.tmp 4, .tmp 5] rfl rfl rfl rfl rfl rfl ?_
  conv => whnf
  refine jnS (fun w1 => ⟨[(0, .l (.d (.int .i64 a0))), (1, .l (.d (.int .i64 a1))), (15, .l (.d (.bool w1)))], 26, [], [], []⟩) h (fun k1 hk1 h => ?_) (fun w1 h => ?_)
  · conv => whnf
    refine liS ([a0, a1] : List Int) (eI .i64) rfl rfl ?_
    conv => whnf
    refine caS (E := E_Bool) h (arith_may_w ([a0, a1] : List Int)) rfl (fun _ => rfl) (fun x2 h => ?_)
    conv => whnf
    refine fkS h (fun h => ?_) (fun h => ?_)
    · conv => whnf
      exact jeS hk1 h (Weak.refl _)
    conv => whnf
    exact jeS hk1 h (Weak.refl _)
  conv => whnf
  refine fkS h (fun h => ?_) (fun h => ?_)
  · conv => whnf
    exact rt (E := E_Int_Int) h rfl
  conv => whnf
  refine dvS h (fun h => ?_)
  conv => whnf
  refine dvS h (fun h => ?_)
  conv => whnf
  refine fkS h (fun h => ?_) (fun h => ?_)
  · conv => whnf
    exact rt (E := E_Int_Int) h rfl
  conv => whnf
  exact rt (E := E_Int_Int) h rfl

end Go.Proofs.Ytghpokloofnbkaa
namespace Go.Proofs.Ytghpokloofnbkaa
open Go Go.VC
noncomputable def arith_Gcd (a0 : Int) (a1 : Int) : Option (Int × Int) :=
  jn (fun (w1 : Bool) => fk w1 (some ((0 : Int), (1 : Int))) (lp (fun nx3 (v3 : Int × Int) => fk (decide (v3.2 > (0 : Int))) (ck (decide (v3.2 ≠ 0)) (nx3 (v3.2, (v3.1.tmod v3.2)))) (some (v3.1, (0 : Int)))) FU (a0, a1))) (fun k1 => bnd (arith_may ([a0, a1] : List Int)) fun x2 => fk (!x2) (k1 true) (fk (decide (a0 < (0 : Int))) (k1 true) (k1 (decide (a1 < (0 : Int))))))
theorem arith_Gcd_w (a0 : Int) (a1 : Int) (r : Int × Int) (h : arith_Gcd a0 a1 = some r) : Go.VC.Spec Try.prog 35 [.d (.int .i64 a0), .d (.int .i64 a1)] (fun y => y = E_Int_Int r) := by
  refine Go.VC.Spec.of_xc (args := [.d (.int .i64 a0), .d (.int .i64 a1)]) (fn := Try.f35) tab ⟨[(0, [0, 1]), (1, [0, 1, 18]), (2, [4, 5]), (3, [0, 1, 20]), (4, [0, 1]), (5, [4, 5])], [], [100018], []⟩ 26 [.tmp 4, .tmp 5] rfl rfl rfl rfl rfl rfl ?_
  conv => whnf
  refine jnS (fun w1 => ⟨[(0, .l (.d (.int .i64 a0))), (1, .l (.d (.int .i64 a1))), (18, .l (.d (.bool w1)))], 26, [], [], []⟩) h (fun k1 hk1 h => ?_) (fun w1 h => ?_)
  · conv => whnf
    refine liS ([a0, a1] : List Int) (eI .i64) rfl rfl ?_
    conv => whnf
    refine caS (E := E_Bool) h (arith_may_w ([a0, a1] : List Int)) rfl (fun _ => rfl) (fun x2 h => ?_)
    conv => whnf
    refine fkS h (fun h => ?_) (fun h => ?_)
    · conv => whnf
      exact jeS hk1 h (Weak.refl _)
    conv => whnf
    refine fkS h (fun h => ?_) (fun h => ?_)
    · conv => whnf
      exact jeS hk1 h (Weak.refl _)
    conv => whnf
    exact jeS hk1 h (Weak.refl _)
  conv => whnf
  refine fkS h (fun h => ?_) (fun h => ?_)
  · conv => whnf
    exact rt (E := E_Int_Int) h rfl
  conv => whnf
  refine lpS (fun v3 => ⟨[(0, .l (.d (.int .i64 v3.1))), (1, .l (.d (.int .i64 v3.2)))], 26, [], [], []⟩) h (Weak.trans (Weak.keepS _ [0, 1]) (Weak.refl _)) (fun _ nx3 hn3 v3 h => ?_)
  conv => whnf
  refine fkS h (fun h => ?_) (fun h => ?_)
  · conv => whnf
    refine ⟨5, ?_⟩
    conv => whnf
    refine dvS h (fun h => ?_)
    conv => whnf
    refine drS (by kernel_rfl) ?_
    conv => whnf
    exact leS hn3 h (Weak.refl _)
  conv => whnf
  exact rt (E := E_Int_Int) h rfl

end Go.Proofs.Ytghpokloofnbkaa
namespace Go.Proofs.Ytghpokloofnbkaa
open Go Go.VC
noncomputable def arith_Mul (a0 : Int) (a1 : Int) : Option (Int × Int) :=
  bnd (arith_may ([a0, a1] : List Int)) fun x1 => fk (!x1) (some ((0 : Int), (1 : Int))) (jn (fun (w2 : Bool) => fk w2 (some ((0 : Int), (0 : Int))) (ck (decide ((if (IntKind.i64.wrap (0 - a1)) > a1 then (IntKind.i64.wrap (0 - a1)) else a1) ≠ 0)) (fk (decide ((if (IntKind.i64.wrap (0 - a0)) > a0 then (IntKind.i64.wrap (0 - a0)) else a0) > (wr ((4611686018427387903 : Int).tdiv (if (IntKind.i64.wrap (0 - a1)) > a1 then (IntKind.i64.wrap (0 - a1)) else a1))))) (some ((0 : Int), (5 : Int))) (some ((wr (a0 * a1)), (0 : Int)))))) (fun k2 => fk (decide (a0 = (0 : Int))) (k2 true) (k2 (decide (a1 = (0 : Int))))))
theorem arith_Mul_w (a0 : Int) (a1 : Int) (r : Int × Int) (h : arith_Mul a0 a1 = some r) : Go.VC.Spec Try.prog 36 [.d (.int .i64 a0), .d (.int .i64 a1)] (fun y => y = E_Int_Int r) := by
  refine Go.VC.Spec.of_xc (args := [.d (.int .i64 a0), .d (.int .i64 a1)]) (fn := Try.f36) tab ⟨[(0, [0, 1]), (1, [0, 1, 6]), (2, [4, 5]), (3, [0, 1, 12]), (4, [4, 5]), (5, [0, 1, 19]), (6, [4, 5]), (7, [4, 5])], [], [100012], []⟩ 33 [.tmp 4, .tmp 5] rfl rfl rfl rfl rfl rfl ?_
  conv => whnf
  refine liS ([a0, a1] : List Int) (eI .i64) rfl rfl ?_
  conv => whnf
  refine caS (E := E_Bool) h (arith_may_w ([a0, a1] : List Int)) rfl (fun _ => rfl) (fun x1 h => ?_)
  conv => whnf
  refine fkS h (fun h => ?_) (fun h => ?_)
  · conv => whnf
    exact rt (E := E_Int_Int) h rfl
  conv => whnf
  refine jnS (fun w2 => ⟨[(0, .l (.d (.int .i64 a0))), (1, .l (.d (.int .i64 a1))), (12, .l (.d (.bool w2)))], 33, [], [], []⟩) h (fun k2 hk2 h => ?_) (fun w2 h => ?_)
  · conv => whnf
    refine fkS h (fun h => ?_) (fun h => ?_)
    · conv => whnf
      exact jeS hk2 h (Weak.refl _)
    conv => whnf
    exact jeS hk2 h (Weak.refl _)
  conv => whnf
  refine fkS h (fun h => ?_) (fun h => ?_)
  · conv => whnf
    exact rt (E := E_Int_Int) h rfl
  conv => whnf
  refine dvS h (fun h => ?_)
  conv => whnf
  refine fkS h (fun h => ?_) (fun h => ?_)
  · conv => whnf
    exact rt (E := E_Int_Int) h rfl
  conv => whnf
  exact rt (E := E_Int_Int) h rfl

end Go.Proofs.Ytghpokloofnbkaa
namespace Go.Proofs.Ytghpokloofnbkaa
open Go Go.VC
noncomputable def arith_Lcm (a0 : Int) (a1 : Int) : Option (Int × Int) :=
  jn (fun (w1 : Bool) => fk w1 (some ((0 : Int), (1 : Int))) (bnd (arith_Gcd a0 a1) fun x2 => fk (!decide (x2.2 = (0 : Int))) (some ((0 : Int), x2.2)) (ck (decide (x2.1 ≠ 0)) (bnd (arith_Mul (wr (a0.tdiv x2.1)) a1) fun x3 => some (x3.1, x3.2))))) (fun k1 => fk (decide (a0 < (1 : Int))) (k1 true) (k1 (decide (a1 < (1 : Int)))))
theorem arith_Lcm_w (a0 : Int) (a1 : Int) (r : Int × Int) (h : arith_Lcm a0 a1 = some r) : Go.VC.Spec Try.prog 28 [.d (.int .i64 a0), .d (.int .i64 a1)] (fun y => y = E_Int_Int r) := by
  refine Go.VC.Spec.of_xc (args := [.d (.int .i64 a0), .d (.int .i64 a1)]) (fn := Try.f28) tab ⟨[(0, [0, 1]), (1, [0, 1, 13]), (2, [4, 5]), (3, [0, 1, 6, 7]), (4, [0, 1, 6, 7, 21]), (5, [4, 5]), (6, [4, 5])], [], [100013], []⟩ 30 [.tmp 4, .tmp 5] rfl rfl rfl rfl rfl rfl ?_
  conv => whnf
  refine jnS (fun w1 => ⟨[(0, .l (.d (.int .i64 a0))), (1, .l (.d (.int .i64 a1))), (13, .l (.d (.bool w1)))], 30, [], [], []⟩) h (fun k1 hk1 h => ?_) (fun w1 h => ?_)
  · conv => whnf
    refine fkS h (fun h => ?_) (fun h => ?_)
    · conv => whnf
      exact jeS hk1 h (Weak.refl _)
    conv => whnf
    exact jeS hk1 h (Weak.refl _)
  conv => whnf
  refine fkS h (fun h => ?_) (fun h => ?_)
  · conv => whnf
    exact rt (E := E_Int_Int) h rfl
  conv => whnf
  refine caS (E := E_Int_Int) h (arith_Gcd_w a0 a1) rfl (fun _ => rfl) (fun x2 h => ?_)
  conv => whnf
  refine fkS h (fun h => ?_) (fun h => ?_)
  · conv => whnf
    exact rt (E := E_Int_Int) h rfl
  conv => whnf
  refine dvS h (fun h => ?_)
  conv => whnf
  refine caS (E := E_Int_Int) h (arith_Mul_w (wr (a0.tdiv x2.1)) a1) rfl (fun _ => rfl) (fun x3 h => ?_)
  conv => whnf
  exact rt (E := E_Int_Int) h rfl

end Go.Proofs.Ytghpokloofnbkaa
namespace Go.Proofs.Ytghpokloofnbkaa
open Go Go.VC
noncomputable def task_own (a0 : Task) : Option Bool :=
  fk (decide (a0.C ≥ (1 : Int))) (fk (decide (a0.C ≤ a0.D)) (fk (decide (a0.D ≤ a0.T)) (fk (decide (a0.T ≤ (200 : Int))) (some (decide ((a0.Secs.length : Int) ≤ (4 : Int)))) (some false)) (some false)) (some false)) (some false)
theorem task_own_w (a0 : Task) (r : Bool) (h : task_own a0 = some r) : Go.VC.Spec Try.prog 30 [.agg (Task.enc a0)] (fun y => y = E_Bool r) := by
  refine Go.VC.Spec.of_xc (args := [.agg (Task.enc a0)]) (fn := Try.f30) tab ⟨[(0, [1]), (1, [2])], [], [], []⟩ 31 [.tmp 2] rfl rfl rfl rfl rfl rfl ?_
  conv => whnf
  refine fkS h (fun h => ?_) (fun h => ?_)
  · conv => whnf
    refine fkS h (fun h => ?_) (fun h => ?_)
    · conv => whnf
      refine fkS h (fun h => ?_) (fun h => ?_)
      · conv => whnf
        refine fkS h (fun h => ?_) (fun h => ?_)
        · conv => whnf
          refine lenS a0.Secs Sec.enc rfl ?_
          conv => whnf
          exact rt (E := E_Bool) h rfl
        conv => whnf
        exact rt (E := E_Bool) h rfl
      conv => whnf
      exact rt (E := E_Bool) h rfl
    conv => whnf
    exact rt (E := E_Bool) h rfl
  conv => whnf
  exact rt (E := E_Bool) h rfl

end Go.Proofs.Ytghpokloofnbkaa
namespace Go.Proofs.Ytghpokloofnbkaa
open Go Go.VC
noncomputable def task_may (a0 : Task) (a1 : Sec) : Option Bool :=
  fk (decide (a1.Res ≥ (0 : Int))) (fk (decide (a1.Res < (4 : Int))) (fk (decide (a1.At ≥ (0 : Int))) (fk (decide (a1.At < a0.C)) (fk (decide (a1.Len ≥ (1 : Int))) (some (decide (a1.Len ≤ (wr (a0.C - a1.At))))) (some false)) (some false)) (some false)) (some false)) (some false)
theorem task_may_w (a0 : Task) (a1 : Sec) (r : Bool) (h : task_may a0 a1 = some r) : Go.VC.Spec Try.prog 31 [.agg (Task.enc a0), .agg (Sec.enc a1)] (fun y => y = E_Bool r) := by
  refine Go.VC.Spec.of_xc (args := [.agg (Task.enc a0), .agg (Sec.enc a1)]) (fn := Try.f31) tab ⟨[(0, [2, 3]), (1, [4])], [], [], []⟩ 40 [.tmp 4] rfl rfl rfl rfl rfl rfl ?_
  conv => whnf
  refine fkS h (fun h => ?_) (fun h => ?_)
  · conv => whnf
    refine fkS h (fun h => ?_) (fun h => ?_)
    · conv => whnf
      refine fkS h (fun h => ?_) (fun h => ?_)
      · conv => whnf
        refine fkS h (fun h => ?_) (fun h => ?_)
        · conv => whnf
          refine fkS h (fun h => ?_) (fun h => ?_)
          · conv => whnf
            exact rt (E := E_Bool) h rfl
          conv => whnf
          exact rt (E := E_Bool) h rfl
        conv => whnf
        exact rt (E := E_Bool) h rfl
      conv => whnf
      exact rt (E := E_Bool) h rfl
    conv => whnf
    exact rt (E := E_Bool) h rfl
  conv => whnf
  exact rt (E := E_Bool) h rfl

end Go.Proofs.Ytghpokloofnbkaa
namespace Go.Proofs.Ytghpokloofnbkaa
open Go Go.VC
noncomputable def task_fits (a0 : Sec) (a1 : Sec) : Option Bool :=
  fk (decide (a1.At ≥ (wr (a0.At + a0.Len)))) (some true) (fk (decide (a1.At < a0.At)) (some false) (fk (decide ((wr (a1.At + a1.Len)) ≤ (wr (a0.At + a0.Len)))) (some (!decide (a0.Res = a1.Res))) (some false)))
theorem task_fits_w (a0 : Sec) (a1 : Sec) (r : Bool) (h : task_fits a0 a1 = some r) : Go.VC.Spec Try.prog 32 [.agg (Sec.enc a0), .agg (Sec.enc a1)] (fun y => y = E_Bool r) := by
  refine Go.VC.Spec.of_xc (args := [.agg (Sec.enc a0), .agg (Sec.enc a1)]) (fn := Try.f32) tab ⟨[(0, [2, 3]), (1, [2, 3, 5]), (2, [4]), (3, [2, 3, 14]), (4, [4]), (5, [4])], [], [], []⟩ 38 [.tmp 4] rfl rfl rfl rfl rfl rfl ?_
  conv => whnf
  refine fkS h (fun h => ?_) (fun h => ?_)
  · conv => whnf
    exact rt (E := E_Bool) h rfl
  conv => whnf
  refine fkS h (fun h => ?_) (fun h => ?_)
  · conv => whnf
    exact rt (E := E_Bool) h rfl
  conv => whnf
  refine fkS h (fun h => ?_) (fun h => ?_)
  · conv => whnf
    exact rt (E := E_Bool) h rfl
  conv => whnf
  exact rt (E := E_Bool) h rfl

end Go.Proofs.Ytghpokloofnbkaa
namespace Go.Proofs.Ytghpokloofnbkaa
open Go Go.VC
noncomputable def task_Right (a0 : Task) : Option Bool :=
  bnd (task_own a0) fun x1 => fk (!x1) (some false) (lp (fun nx2 (v2 : Int) => fk (decide (v2 < (a0.Secs.length : Int))) (ix a0.Secs v2 fun x3 => bnd (task_may a0 x3) fun x4 => fk (!x4) (some false) (ck (decide ((0 : Int) ≤ (0 : Int)) && decide ((0 : Int) ≤ v2) && decide (v2 ≤ (a0.Secs.length : Int))) (lp (fun nx5 (v5 : Int) => fk (decide (v5 < (((a0.Secs.take v2.toNat).drop (0 : Int).toNat).length : Int))) (ix ((a0.Secs.take v2.toNat).drop (0 : Int).toNat) v5 fun x6 => bnd (task_fits x6 x3) fun x7 => fk x7 (nx5 (wr (v5 + (1 : Int)))) (some (decide ((0 : Int) > (0 : Int))))) (nx2 (wr (v2 + (1 : Int))))) FU (0 : Int)))) (some (decide (a0.C > (0 : Int))))) FU (0 : Int))
theorem task_Right_w (a0 : Task) (r : Bool) (h : task_Right a0 = some r) : Go.VC.Spec Try.prog 24 [.agg (Task.enc a0)] (fun y => y = E_Bool r) := by
  refine Go.VC.Spec.of_xc (args := [.agg (Task.enc a0)]) (fn := Try.f24) tab ⟨[(0, [1]), (1, [1, 9]), (2, [2]), (3, [1, 11, 12, 13]), (4, [1, 11, 12, 13, 14]), (5, [1, 3, 4, 11, 12, 13]), (6, [1, 3, 4, 11, 12, 13, 21]), (7, [2]), (8, [1, 4, 11, 12, 13, 25, 26, 27]), (9, [1, 4, 11, 12, 13, 25, 26, 27, 28]), (10, [1, 4, 6, 11, 12, 13, 25, 26, 27]), (11, [1, 4, 11, 12, 13, 25, 26, 27, 33]), (12, [1]), (13, [1, 4, 11, 12, 13, 25, 26, 27]), (14, [1, 11, 12, 13]), (15, [2])], [], [], []⟩ 40 [.tmp 2] rfl rfl rfl rfl rfl rfl ?_
  conv => whnf
  refine caS (E := E_Bool) h (task_own_w a0) rfl (fun _ => rfl) (fun x1 h => ?_)
  conv => whnf
  refine fkS h (fun h => ?_) (fun h => ?_)
  · conv => whnf
    exact rt (E := E_Bool) h rfl
  conv => whnf
  refine lenS a0.Secs Sec.enc rfl ?_
  conv => whnf
  refine lpS (fun v2 => ⟨[(1, .l (.ptr 2 0)), (11, .l (.d (.sl (a0.Secs.map Sec.enc)))), (12, .l (.d (.int .i64 (a0.Secs.length : Int)))), (13, .l (.d (.int .i64 v2)))], 40, [], [(2, [.d (.int .i64 a0.C), .d (.int .i64 a0.D), .d (.int .i64 a0.T), .d (.sl (a0.Secs.map Sec.enc))])], []⟩) h (Weak.refl _) (fun _ nx2 hn2 v2 h => ?_)
  conv => whnf
  refine fkS h (fun h => ?_) (fun h => ?_)
  · conv => whnf
    refine ixS (enc := Sec.enc) h rfl (fun _ => rfl) (fun x3 h => ?_)
    conv => whnf
    refine caS (E := E_Bool) h (task_may_w a0 x3) rfl (fun _ => rfl) (fun x4 h => ?_)
    conv => whnf
    refine fkS h (fun h => ?_) (fun h => ?_)
    · conv => whnf
      exact rt (E := E_Bool) h rfl
    conv => whnf
    refine slS (enc := Sec.enc) h rfl rfl (.inl rfl) (fun _ => rfl) (fun h => ?_)
    conv => whnf
    refine lenS ((a0.Secs.take v2.toNat).drop (0 : Int).toNat) Sec.enc rfl ?_
    conv => whnf
    refine lpS (fun v5 => ⟨[(1, .l (.ptr 2 0)), (4, .l (.ptr 5 0)), (11, .l (.d (.sl (a0.Secs.map Sec.enc)))), (12, .l (.d (.int .i64 (a0.Secs.length : Int)))), (13, .l (.d (.int .i64 v2))), (25, .l (.d (.sl (((a0.Secs.take v2.toNat).drop (0 : Int).toNat).map Sec.enc)))), (26, .l (.d (.int .i64 (((a0.Secs.take v2.toNat).drop (0 : Int).toNat).length : Int)))), (27, .l (.d (.int .i64 v5)))], 40, [], [(2, [.d (.int .i64 a0.C), .d (.int .i64 a0.D), .d (.int .i64 a0.T), .d (.sl (a0.Secs.map Sec.enc))]), (5, [.d (.int .i64 x3.Res), .d (.int .i64 x3.At), .d (.int .i64 x3.Len)])], []⟩) h (Weak.refl _) (fun _ nx5 hn5 v5 h => ?_)
    conv => whnf
    refine fkS h (fun h => ?_) (fun h => ?_)
    · conv => whnf
      refine ixS (enc := Sec.enc) h rfl (fun _ => rfl) (fun x6 h => ?_)
      conv => whnf
      refine caS (E := E_Bool) h (task_fits_w x6 x3) rfl (fun _ => rfl) (fun x7 h => ?_)
      conv => whnf
      refine fkS h (fun h => ?_) (fun h => ?_)
      · conv => whnf
        exact leS hn5 h (Weak.refl _)
      conv => whnf
      exact rt (E := E_Bool) h rfl
    conv => whnf
    exact leS hn2 h (Weak.refl _)
  conv => whnf
  exact rt (E := E_Bool) h rfl

end Go.Proofs.Ytghpokloofnbkaa
namespace Go.Proofs.Ytghpokloofnbkaa
open Go Go.VC
noncomputable def task_All (a0 : List Task) : Option Bool :=
  lp (fun nx1 (v1 : Int) => fk (decide (v1 < (a0.length : Int))) (ix a0 v1 fun x2 => bnd (task_Right x2) fun x3 => fk (!x3) (some false) (nx1 (wr (v1 + (1 : Int))))) (some (decide ((a0.length : Int) ≤ (8 : Int))))) FU (0 : Int)
theorem task_All_w (a0 : List Task) (r : Bool) (h : task_All a0 = some r) : Go.VC.Spec Try.prog 16 [.d (.sl (a0.map Task.enc))] (fun y => y = E_Bool r) := by
  refine Go.VC.Spec.of_xc (args := [.d (.sl (a0.map Task.enc))]) (fn := Try.f16) tab ⟨[(0, [0]), (1, [0, 5, 6, 7]), (2, [0, 5, 6, 7, 8]), (3, [0, 4, 5, 6, 7]), (4, [0, 5, 6, 7, 13]), (5, [2]), (6, [0, 5, 6, 7]), (7, [2])], [], [], []⟩ 18 [.tmp 2] rfl rfl rfl rfl rfl rfl ?_
  conv => whnf
  refine lenS a0 Task.enc rfl ?_
  conv => whnf
  refine lpS (fun v1 => ⟨[(0, .l (.d (.sl (a0.map Task.enc)))), (5, .l (.d (.sl (a0.map Task.enc)))), (6, .l (.d (.int .i64 (a0.length : Int)))), (7, .l (.d (.int .i64 v1)))], 18, [], [], []⟩) h (Weak.refl _) (fun _ nx1 hn1 v1 h => ?_)
  conv => whnf
  refine fkS h (fun h => ?_) (fun h => ?_)
  · conv => whnf
    refine ixS (enc := Task.enc) h rfl (fun _ => rfl) (fun x2 h => ?_)
    conv => whnf
    refine caS (E := E_Bool) h (task_Right_w x2) rfl (fun _ => rfl) (fun x3 h => ?_)
    conv => whnf
    refine fkS h (fun h => ?_) (fun h => ?_)
    · conv => whnf
      exact rt (E := E_Bool) h rfl
    conv => whnf
    exact leS hn1 h (Weak.refl _)
  conv => whnf
  refine lenS a0 Task.enc rfl ?_
  conv => whnf
  exact rt (E := E_Bool) h rfl

end Go.Proofs.Ytghpokloofnbkaa
namespace Go.Proofs.Ytghpokloofnbkaa
open Go Go.VC
noncomputable def task_Uses (a0 : Task) (a1 : Int) : Option Bool :=
  bnd (task_Right a0) fun x1 => fk (!x1) (some false) (lp (fun nx2 (v2 : Int) => fk (decide (v2 < (a0.Secs.length : Int))) (ix a0.Secs v2 fun x3 => fk (decide (x3.Res = a1)) (some true) (nx2 (wr (v2 + (1 : Int))))) (some false)) FU (0 : Int))
theorem task_Uses_w (a0 : Task) (a1 : Int) (r : Bool) (h : task_Uses a0 a1 = some r) : Go.VC.Spec Try.prog 53 [.agg (Task.enc a0), .d (.int .i64 a1)] (fun y => y = E_Bool r) := by
  refine Go.VC.Spec.of_xc (args := [.agg (Task.enc a0), .d (.int .i64 a1)]) (fn := Try.f53) tab ⟨[(0, [1, 2]), (1, [1, 2, 9]), (2, [4]), (3, [1, 11, 12, 13]), (4, [1, 11, 12, 13, 14]), (5, [1, 6, 11, 12, 13]), (6, [1, 11, 12, 13, 20]), (7, [4]), (8, [1, 11, 12, 13]), (9, [4])], [], [], []⟩ 22 [.tmp 4] rfl rfl rfl rfl rfl rfl ?_
  conv => whnf
  refine caS (E := E_Bool) h (task_Right_w a0) rfl (fun _ => rfl) (fun x1 h => ?_)
  conv => whnf
  refine fkS h (fun h => ?_) (fun h => ?_)
  · conv => whnf
    exact rt (E := E_Bool) h rfl
  conv => whnf
  refine lenS a0.Secs Sec.enc rfl ?_
  conv => whnf
  refine lpS (fun v2 => ⟨[(1, .l (.d (.int .i64 a1))), (11, .l (.d (.sl (a0.Secs.map Sec.enc)))), (12, .l (.d (.int .i64 (a0.Secs.length : Int)))), (13, .l (.d (.int .i64 v2)))], 22, [], [], []⟩) h (Weak.refl _) (fun _ nx2 hn2 v2 h => ?_)
  conv => whnf
  refine fkS h (fun h => ?_) (fun h => ?_)
  · conv => whnf
    refine ixS (enc := Sec.enc) h rfl (fun _ => rfl) (fun x3 h => ?_)
    conv => whnf
    refine fkS h (fun h => ?_) (fun h => ?_)
    · conv => whnf
      exact rt (E := E_Bool) h rfl
    conv => whnf
    exact leS hn2 h (Weak.refl _)
  conv => whnf
  exact rt (E := E_Bool) h rfl

end Go.Proofs.Ytghpokloofnbkaa
namespace Go.Proofs.Ytghpokloofnbkaa
open Go Go.VC
noncomputable def block_shared (a0 : List Task) (a1 : Int) (a2 : Int) : Option Bool :=
  lp (fun nx1 (v1 : Int) => fk (decide (v1 < (a0.length : Int))) (ix a0 v1 fun x2 => jn (fun (w3 : Bool) => fk w3 (some true) (nx1 (wr (v1 + (1 : Int))))) (fun k3 => fk (decide (x2.D ≤ a1)) (bnd (task_Uses x2 a2) fun x4 => k3 x4) (k3 false))) (some false)) FU (0 : Int)
theorem block_shared_w (a0 : List Task) (a1 : Int) (a2 : Int) (r : Bool) (h : block_shared a0 a1 a2 = some r) : Go.VC.Spec Try.prog 51 [.d (.sl (a0.map Task.enc)), .d (.int .i64 a1), .d (.int .i64 a2)] (fun y => y = E_Bool r) := by
  refine Go.VC.Spec.of_xc (args := [.d (.sl (a0.map Task.enc)), .d (.int .i64 a1), .d (.int .i64 a2)]) (fn := Try.f51) tab ⟨[(0, [0, 1, 2]), (1, [1, 2, 9, 10, 11]), (2, [1, 2, 9, 10, 11, 12]), (3, [1, 2, 8, 9, 10, 11]), (4, [1, 2, 9, 10, 11, 23]), (5, [6]), (6, [1, 2, 9, 10, 11]), (7, [6])], [], [100023], []⟩ 25 [.tmp 6] rfl rfl rfl rfl rfl rfl ?_
  conv => whnf
  refine lenS a0 Task.enc rfl ?_
  conv => whnf
  refine lpS (fun v1 => ⟨[(1, .l (.d (.int .i64 a1))), (2, .l (.d (.int .i64 a2))), (9, .l (.d (.sl (a0.map Task.enc)))), (10, .l (.d (.int .i64 (a0.length : Int)))), (11, .l (.d (.int .i64 v1)))], 25, [], [], []⟩) h (Weak.refl _) (fun _ nx1 hn1 v1 h => ?_)
  conv => whnf
  refine fkS h (fun h => ?_) (fun h => ?_)
  · conv => whnf
    refine ixS (enc := Task.enc) h rfl (fun _ => rfl) (fun x2 h => ?_)
    conv => whnf
    refine jnS (fun w3 => ⟨[(1, .l (.d (.int .i64 a1))), (2, .l (.d (.int .i64 a2))), (9, .l (.d (.sl (a0.map Task.enc)))), (10, .l (.d (.int .i64 (a0.length : Int)))), (11, .l (.d (.int .i64 v1))), (23, .l (.d (.bool w3)))], 25, [], [], []⟩) h (fun k3 hk3 h => ?_) (fun w3 h => ?_)
    · conv => whnf
      refine fkS h (fun h => ?_) (fun h => ?_)
      · conv => whnf
        refine caS (E := E_Bool) h (task_Uses_w x2 a2) rfl (fun _ => rfl) (fun x4 h => ?_)
        conv => whnf
        exact jeS hk3 h (Weak.refl _)
      conv => whnf
      exact jeS hk3 h (Weak.refl _)
    conv => whnf
    refine fkS h (fun h => ?_) (fun h => ?_)
    · conv => whnf
      exact rt (E := E_Bool) h rfl
    conv => whnf
    exact leS hn1 h (Weak.refl _)
  conv => whnf
  exact rt (E := E_Bool) h rfl

end Go.Proofs.Ytghpokloofnbkaa
namespace Go.Proofs.Ytghpokloofnbkaa
open Go Go.VC
noncomputable def block_Of (a0 : List Task) (a1 : Int) : Option (Int × Int) :=
  bnd (task_All a0) fun x1 => fk (!x1) (some ((0 : Int), (1 : Int))) (lp (fun nx2 (v2 : Int × Int) => fk (decide (v2.2 < (a0.length : Int))) (jn (fun (w3 : Int) => nx2 (w3, (wr (v2.2 + (1 : Int))))) (fun k3 => ix a0 v2.2 fun x4 => fk (decide (x4.D ≤ a1)) (k3 v2.1) (lp (fun nx5 (v5 : Int × Int) => fk (decide (v5.2 < (x4.Secs.length : Int))) (ix x4.Secs v5.2 fun x6 => jn (fun (w7 : Bool) => fk w7 (nx5 (x6.Len, (wr (v5.2 + (1 : Int))))) (nx5 (v5.1, (wr (v5.2 + (1 : Int)))))) (fun k7 => fk (decide (x6.Len > v5.1)) (bnd (block_shared a0 a1 x6.Res) fun x8 => k7 x8) (k7 false))) (k3 v5.1)) FU (v2.1, (0 : Int))))) (some (v2.1, (0 : Int)))) FU ((0 : Int), (0 : Int)))
theorem block_Of_w (a0 : List Task) (a1 : Int) (r : Int × Int) (h : block_Of a0 a1 = some r) : Go.VC.Spec Try.prog 45 [.d (.sl (a0.map Task.enc)), .d (.int .i64 a1)] (fun y => y = E_Int_Int r) := by
  refine Go.VC.Spec.of_xc (args := [.d (.sl (a0.map Task.enc)), .d (.int .i64 a1)]) (fn := Try.f45) tab ⟨[(0, [2, 3]), (1, [2, 3, 14]), (2, [4, 5]), (3, [2, 3, 6]), (4, [2, 3, 6, 7]), (5, [3, 6, 7, 16, 17, 18]), (6, [3, 6, 7, 16, 17, 18, 19]), (7, [3, 6, 7, 9, 16, 17, 18]), (8, [3, 6, 7, 9, 16, 17, 18, 25]), (9, [3, 6, 7, 16, 17, 18, 27, 28, 29]), (10, [3, 6, 7, 16, 17, 18, 27, 28, 29, 30]), (11, [3, 6, 7, 11, 16, 17, 18, 27, 28, 29]), (12, [3, 6, 7, 16, 17, 18, 27, 28, 29]), (13, [3, 6, 7, 16, 17, 18, 27, 28, 29]), (14, [3, 6, 7, 16, 17, 18]), (15, [4, 5])], [], [14], []⟩ 39 [.tmp 4, .tmp 5] rfl rfl rfl rfl rfl rfl ?_
  conv => whnf
  refine caS (E := E_Bool) h (task_All_w a0) rfl (fun _ => rfl) (fun x1 h => ?_)
  conv => whnf
  refine fkS h (fun h => ?_) (fun h => ?_)
  · conv => whnf
    exact rt (E := E_Int_Int) h rfl
  conv => whnf
  refine lenS a0 Task.enc rfl ?_
  conv => whnf
  refine lpS (fun v2 => ⟨[(3, .l (.ptr 4 0)), (6, .l (.ptr 7 0)), (7, .l (.func 50 [.k 7, .k 3, .k 4])), (16, .l (.d (.sl (a0.map Task.enc)))), (17, .l (.d (.int .i64 (a0.length : Int)))), (18, .l (.d (.int .i64 v2.2)))], 39, [], [(3, [.d (.sl (a0.map Task.enc))]), (4, [.d (.int .i64 a1)]), (7, [.d (.int .i64 v2.1)])], []⟩) h (Weak.refl _) (fun _ nx2 hn2 v2 h => ?_)
  conv => whnf
  refine fkS h (fun h => ?_) (fun h => ?_)
  · conv => whnf
    refine jnS (fun w3 => ⟨[(3, .l (.ptr 4 0)), (6, .l (.ptr 7 0)), (7, .l (.func 50 [.k 7, .k 3, .k 4])), (16, .l (.d (.sl (a0.map Task.enc)))), (17, .l (.d (.int .i64 (a0.length : Int)))), (18, .l (.d (.int .i64 v2.2)))], 39, [], [(3, [.d (.sl (a0.map Task.enc))]), (4, [.d (.int .i64 a1)]), (7, [.d (.int .i64 w3)])], []⟩) h (fun k3 hk3 h => ?_) (fun w3 h => ?_)
    · conv => whnf
      refine ixS (enc := Task.enc) h rfl (fun _ => rfl) (fun x4 h => ?_)
      conv => whnf
      refine fkS h (fun h => ?_) (fun h => ?_)
      · conv => whnf
        refine jeX hk3 h ?_
        conv => whnf
        refine WkF.step (Weak.keepS _ [3, 6, 7, 16, 17, 18]) ?_
        conv => whnf
        exact WkF.refl _
      conv => whnf
      refine lenS x4.Secs Sec.enc rfl ?_
      conv => whnf
      refine lpS (fun v5 => ⟨[(3, .l (.ptr 4 0)), (6, .l (.ptr 7 0)), (7, .l (.func 50 [.k 7, .k 3, .k 4])), (16, .l (.d (.sl (a0.map Task.enc)))), (17, .l (.d (.int .i64 (a0.length : Int)))), (18, .l (.d (.int .i64 v2.2))), (27, .l (.d (.sl (x4.Secs.map Sec.enc)))), (28, .l (.d (.int .i64 (x4.Secs.length : Int)))), (29, .l (.d (.int .i64 v5.2)))], 39, [], [(3, [.d (.sl (a0.map Task.enc))]), (4, [.d (.int .i64 a1)]), (7, [.d (.int .i64 v5.1)])], []⟩) h (Weak.refl _) (fun _ nx5 hn5 v5 h => ?_)
      conv => whnf
      refine fkS h (fun h => ?_) (fun h => ?_)
      · conv => whnf
        refine ixS (enc := Sec.enc) h rfl (fun _ => rfl) (fun x6 h => ?_)
        conv => whnf
        refine inS (fn := Try.f50) tab ⟨[(0, [1, 2, 3, 4]), (1, [1, 4, 15]), (2, [])], [], [100015], []⟩ 18 [] rfl rfl rfl rfl rfl rfl ?_
        conv => whnf
        refine jnS (fun w7 => ⟨[(1, .l (.ptr 7 0)), (4, .l (.ptr 1005 0)), (15, .l (.d (.bool w7)))], 18, [⟨[(34, .agg [.d (.int .i64 x6.Res), .d (.int .i64 x6.At), .d (.int .i64 x6.Len)]), (33, .l (.func 50 [.k 7, .k 3, .k 4])), (3, .l (.ptr 4 0)), (6, .l (.ptr 7 0)), (7, .l (.func 50 [.k 7, .k 3, .k 4])), (11, .l (.ptr 12 0)), (16, .l (.d (.sl (a0.map Task.enc)))), (17, .l (.d (.int .i64 (a0.length : Int)))), (18, .l (.d (.int .i64 v2.2))), (27, .l (.d (.sl (x4.Secs.map Sec.enc)))), (28, .l (.d (.int .i64 (x4.Secs.length : Int)))), (29, .l (.d (.int .i64 v5.2)))], 39⟩], [(3, [.d (.sl (a0.map Task.enc))]), (4, [.d (.int .i64 a1)]), (7, [.d (.int .i64 v5.1)]), (12, [.d (.int .i64 x6.Res), .d (.int .i64 x6.At), .d (.int .i64 x6.Len)]), (1005, [.d (.int .i64 x6.Res), .d (.int .i64 x6.At), .d (.int .i64 x6.Len)])], []⟩) h (fun k7 hk7 h => ?_) (fun w7 h => ?_)
        · conv => whnf
          refine fkS h (fun h => ?_) (fun h => ?_)
          · conv => whnf
            refine caS (E := E_Bool) h (block_shared_w a0 a1 x6.Res) rfl (fun _ => rfl) (fun x8 h => ?_)
            conv => whnf
            exact jeS hk7 h (Weak.refl _)
          conv => whnf
          exact jeS hk7 h (Weak.refl _)
        conv => whnf
        refine fkS h (fun h => ?_) (fun h => ?_)
        · conv => whnf
          exact leS hn5 h (Weak.refl _)
        conv => whnf
        exact leS hn5 h (Weak.refl _)
      conv => whnf
      refine jeX hk3 h ?_
      conv => whnf
      refine WkF.step (Weak.keepS _ [3, 6, 7, 16, 17, 18]) ?_
      conv => whnf
      exact WkF.refl _
    conv => whnf
    exact leS hn2 h (Weak.refl _)
  conv => whnf
  exact rt (E := E_Int_Int) h rfl

end Go.Proofs.Ytghpokloofnbkaa
namespace Go.Proofs.Ytghpokloofnbkaa
open Go Go.VC
noncomputable def demand_jobs (a0 : Task) (a1 : Int) : Option Int :=
  fk (decide (a1 < a0.D)) (some (0 : Int)) (bnd (arith_Floor (wr (a1 - a0.D)) a0.T) fun x1 => some (wr (x1.1 + (1 : Int))))
theorem demand_jobs_w (a0 : Task) (a1 : Int) (r : Int) (h : demand_jobs a0 a1 = some r) : Go.VC.Spec Try.prog 49 [.agg (Task.enc a0), .d (.int .i64 a1)] (fun y => y = E_Int r) := by
  refine Go.VC.Spec.of_xc (args := [.agg (Task.enc a0), .d (.int .i64 a1)]) (fn := Try.f49) tab ⟨[(0, [1, 2]), (1, [1, 2, 10]), (2, [4]), (3, [5]), (4, [4])], [], [], []⟩ 23 [.tmp 4] rfl rfl rfl rfl rfl rfl ?_
  conv => whnf
  refine fkS h (fun h => ?_) (fun h => ?_)
  · conv => whnf
    exact rt (E := E_Int) h rfl
  conv => whnf
  refine caS (E := E_Int_Int) h (arith_Floor_w (wr (a1 - a0.D)) a0.T) rfl (fun _ => rfl) (fun x1 h => ?_)
  conv => whnf
  exact rt (E := E_Int) h rfl

end Go.Proofs.Ytghpokloofnbkaa
namespace Go.Proofs.Ytghpokloofnbkaa
open Go Go.VC
noncomputable def demand_Bound (a0 : List Task) (a1 : Int) : Option (Int × Int) :=
  jn (fun (w1 : Bool) => fk w1 (some ((0 : Int), (1 : Int))) (lp (fun nx3 (v3 : Int × Int × Int) => fk (decide (v3.2.2 < (a0.length : Int))) (ix a0 v3.2.2 fun x4 => bnd (demand_jobs x4 a1) fun x5 => bnd (arith_Mul x4.C x5) fun x6 => bnd (arith_Add v3.1 x6.1) fun x7 => jn (fun (w8 : Bool) => fk w8 (nx3 (v3.1, (5 : Int), (wr (v3.2.2 + (1 : Int))))) (nx3 (x7.1, v3.2.1, (wr (v3.2.2 + (1 : Int)))))) (fun k8 => fk (!decide (x6.2 = (0 : Int))) (k8 true) (k8 (!decide (x7.2 = (0 : Int)))))) (fk (!decide (v3.2.1 = (0 : Int))) (some ((0 : Int), v3.2.1)) (some (v3.1, (0 : Int))))) FU ((0 : Int), (0 : Int), (0 : Int)))) (fun k1 => bnd (task_All a0) fun x2 => fk (!x2) (k1 true) (fk (decide (a1 < (0 : Int))) (k1 true) (k1 (decide (a1 > (4611686018427387903 : Int))))))
theorem demand_Bound_w (a0 : List Task) (a1 : Int) (r : Int × Int) (h : demand_Bound a0 a1 = some r) : Go.VC.Spec Try.prog 44 [.d (.sl (a0.map Task.enc)), .d (.int .i64 a1)] (fun y => y = E_Int_Int r) := by
  refine Go.VC.Spec.of_xc (args := [.d (.sl (a0.map Task.enc)), .d (.int .i64 a1)]) (fn := Try.f44) tab ⟨[(0, [0, 1]), (1, [0, 1, 21]), (2, [4, 5]), (3, [0, 1, 6, 7]), (4, [0, 1, 6, 7, 8]), (5, [1, 6, 7, 8, 23, 24, 25]), (6, [1, 6, 7, 8, 23, 24, 25, 26]), (7, [1, 6, 7, 8, 10, 23, 24, 25]), (8, [1, 6, 7, 8, 23, 24, 25]), (9, [1, 6, 7, 8, 23, 24, 25]), (10, [6, 7, 38]), (11, [4, 5]), (12, [4, 5])], [], [100021], []⟩ 41 [.tmp 4, .tmp 5] rfl rfl rfl rfl rfl rfl ?_
  conv => whnf
  refine jnS (fun w1 => ⟨[(0, .l (.d (.sl (a0.map Task.enc)))), (1, .l (.d (.int .i64 a1))), (21, .l (.d (.bool w1)))], 41, [], [], []⟩) h (fun k1 hk1 h => ?_) (fun w1 h => ?_)
  · conv => whnf
    refine caS (E := E_Bool) h (task_All_w a0) rfl (fun _ => rfl) (fun x2 h => ?_)
    conv => whnf
    refine fkS h (fun h => ?_) (fun h => ?_)
    · conv => whnf
      exact jeS hk1 h (Weak.refl _)
    conv => whnf
    refine fkS h (fun h => ?_) (fun h => ?_)
    · conv => whnf
      exact jeS hk1 h (Weak.refl _)
    conv => whnf
    exact jeS hk1 h (Weak.refl _)
  conv => whnf
  refine fkS h (fun h => ?_) (fun h => ?_)
  · conv => whnf
    exact rt (E := E_Int_Int) h rfl
  conv => whnf
  refine lenS a0 Task.enc rfl ?_
  conv => whnf
  refine lpS (fun v3 => ⟨[(1, .l (.d (.int .i64 a1))), (6, .l (.ptr 7 0)), (7, .l (.ptr 8 0)), (8, .l (.func 48 [.k 7, .k 8])), (23, .l (.d (.sl (a0.map Task.enc)))), (24, .l (.d (.int .i64 (a0.length : Int)))), (25, .l (.d (.int .i64 v3.2.2)))], 41, [], [(7, [.d (.int .i64 v3.1)]), (8, [.d (.int .i64 v3.2.1)])], []⟩) h (Weak.refl _) (fun _ nx3 hn3 v3 h => ?_)
  conv => whnf
  refine fkS h (fun h => ?_) (fun h => ?_)
  · conv => whnf
    refine ixS (enc := Task.enc) h rfl (fun _ => rfl) (fun x4 h => ?_)
    conv => whnf
    refine ⟨6, ?_⟩
    conv => whnf
    refine daS (E := E_Int) h (demand_jobs_w x4 a1) (fun _ => rfl) (fun x5 h => ?_)
    conv => whnf
    refine drS (by kernel_rfl) ?_
    conv => whnf
    refine inS (fn := Try.f48) tab ⟨[(0, [2, 3, 6, 7]), (1, [2, 3, 7, 8, 9]), (2, [2, 3, 8, 27]), (3, []), (4, [])], [], [100027], []⟩ 29 [] rfl rfl rfl rfl rfl rfl ?_
    conv => whnf
    refine caS (E := E_Int_Int) h (arith_Mul_w x4.C x5) rfl (fun _ => rfl) (fun x6 h => ?_)
    conv => whnf
    refine caS (E := E_Int_Int) h (arith_Add_w v3.1 x6.1) rfl (fun _ => rfl) (fun x7 h => ?_)
    conv => whnf
    refine jnS (fun w8 => ⟨[(2, .l (.ptr 7 0)), (3, .l (.ptr 8 0)), (8, .l (.d (.int .i64 x7.1))), (27, .l (.d (.bool w8)))], 29, [⟨[(34, .l (.d (.int .i64 x5))), (33, .l (.d (.int .i64 a1))), (32, .agg [.d (.int .i64 x4.C), .d (.int .i64 x4.D), .d (.int .i64 x4.T), .d (.sl (x4.Secs.map Sec.enc))]), (31, .l (.d (.int .i64 x4.C))), (30, .l (.ptr 11 0)), (29, .l (.func 48 [.k 7, .k 8])), (1, .l (.d (.int .i64 a1))), (6, .l (.ptr 7 0)), (7, .l (.ptr 8 0)), (8, .l (.func 48 [.k 7, .k 8])), (10, .l (.ptr 11 0)), (23, .l (.d (.sl (a0.map Task.enc)))), (24, .l (.d (.int .i64 (a0.length : Int)))), (25, .l (.d (.int .i64 v3.2.2)))], 41⟩], [(7, [.d (.int .i64 v3.1)]), (8, [.d (.int .i64 v3.2.1)]), (11, [.d (.int .i64 x4.C), .d (.int .i64 x4.D), .d (.int .i64 x4.T), .d (.sl (x4.Secs.map Sec.enc))])], []⟩) h (fun k8 hk8 h => ?_) (fun w8 h => ?_)
    · conv => whnf
      refine fkS h (fun h => ?_) (fun h => ?_)
      · conv => whnf
        exact jeS hk8 h (Weak.refl _)
      conv => whnf
      exact jeS hk8 h (Weak.refl _)
    conv => whnf
    refine fkS h (fun h => ?_) (fun h => ?_)
    · conv => whnf
      exact leS hn3 h (Weak.refl _)
    conv => whnf
    exact leS hn3 h (Weak.refl _)
  conv => whnf
  refine fkS h (fun h => ?_) (fun h => ?_)
  · conv => whnf
    refine ⟨2, ?_⟩
    conv => whnf
    refine drS (by kernel_rfl) ?_
    conv => whnf
    exact rt (E := E_Int_Int) h rfl
  conv => whnf
  exact rt (E := E_Int_Int) h rfl

end Go.Proofs.Ytghpokloofnbkaa
namespace Go.Proofs.Ytghpokloofnbkaa
open Go Go.VC
noncomputable def law05_Great (a0 : List Task) : Option Bool :=
  lp (fun nx1 (v1 : Int) => fk (decide (v1 < (a0.length : Int))) (ix a0 v1 fun x2 => fk (decide ((x2.Secs.length : Int) > (20 : Int))) (some true) (nx1 (wr (v1 + (1 : Int))))) (some (decide ((a0.length : Int) > (20 : Int))))) FU (0 : Int)
theorem law05_Great_w (a0 : List Task) (r : Bool) (h : law05_Great a0 = some r) : Go.VC.Spec Try.prog 11 [.d (.sl (a0.map Task.enc))] (fun y => y = E_Bool r) := by
  refine Go.VC.Spec.of_xc (args := [.d (.sl (a0.map Task.enc))]) (fn := Try.f11) tab ⟨[(0, [0]), (1, [0, 3]), (2, [0, 3, 7]), (3, [0, 3]), (4, [0, 3, 16]), (5, [2]), (6, [2])], [], [], []⟩ 20 [.tmp 2] rfl rfl rfl rfl rfl rfl ?_
  conv => whnf
  refine lpS (fun v1 => ⟨[(0, .l (.d (.sl (a0.map Task.enc)))), (3, .l (.d (.int .i64 v1)))], 20, [], [], []⟩) h (Weak.refl _) (fun _ nx1 hn1 v1 h => ?_)
  conv => whnf
  refine lenS a0 Task.enc rfl ?_
  conv => whnf
  refine fkS h (fun h => ?_) (fun h => ?_)
  · conv => whnf
    refine ixS (enc := Task.enc) h rfl (fun _ => rfl) (fun x2 h => ?_)
    conv => whnf
    refine lenS x2.Secs Sec.enc rfl ?_
    conv => whnf
    refine fkS h (fun h => ?_) (fun h => ?_)
    · conv => whnf
      exact rt (E := E_Bool) h rfl
    conv => whnf
    exact leS hn1 h (Weak.refl _)
  conv => whnf
  refine lenS a0 Task.enc rfl ?_
  conv => whnf
  exact rt (E := E_Bool) h rfl

end Go.Proofs.Ytghpokloofnbkaa
namespace Go.Proofs.Ytghpokloofnbkaa
open Go Go.VC
noncomputable def ref05_Right (a0 : Task) : Option Bool :=
  jn (fun (w1 : Bool) => fk w1 (some false) (lp (fun nx2 (v2 : Int) => fk (decide (v2 < (a0.Secs.length : Int))) (ix a0.Secs v2 fun x3 => jn (fun (w4 : Bool) => fk w4 (some false) (lp (fun nx5 (v5 : Int) => fk (decide (v5 < v2)) (ix a0.Secs v5 fun x6 => jn (fun (w7 : Bool) => fk w7 (some false) (lp (fun nx8 (v8 : Int × Int × Int) => fk (decide (v8.2.2 < (wr (x3.At + x3.Len)))) (jn (fun (w9 : Int × Int) => nx8 (w9.1, w9.2, (wr (v8.2.2 + (1 : Int))))) (fun k9 => fk (decide (v8.2.2 < (wr (x6.At + x6.Len)))) (k9 ((wr (v8.1 + (1 : Int))), v8.2.1)) (k9 (v8.1, (wr (v8.2.1 + (1 : Int))))))) (jn (fun (w10 : Bool) => fk w10 (some false) (nx5 (wr (v5 + (1 : Int))))) (fun k10 => fk (decide (v8.1 > (0 : Int))) (fk (decide (v8.2.1 > (0 : Int))) (k10 true) (k10 (decide (x6.Res = x3.Res)))) (k10 false)))) FU ((0 : Int), (0 : Int), x3.At))) (fun k7 => fk (decide (x3.At < x6.At)) (k7 true) (fk (decide (x3.At = x6.At)) (k7 (decide (x3.Len > x6.Len))) (k7 false)))) (nx2 (wr (v2 + (1 : Int))))) FU (0 : Int))) (fun k4 => fk (decide (x3.Res < (0 : Int))) (k4 true) (fk (decide (x3.Res > (3 : Int))) (k4 true) (fk (decide (x3.At < (0 : Int))) (k4 true) (fk (decide (x3.Len < (1 : Int))) (k4 true) (fk (decide (x3.At > a0.C)) (k4 true) (fk (decide (x3.Len > a0.C)) (k4 true) (k4 (decide ((wr (x3.At + x3.Len)) > a0.C)))))))))) (some true)) FU (0 : Int))) (fun k1 => fk (decide (a0.C < (1 : Int))) (k1 true) (fk (decide (a0.D < a0.C)) (k1 true) (fk (decide (a0.T < a0.D)) (k1 true) (fk (decide (a0.T > (200 : Int))) (k1 true) (k1 (decide ((a0.Secs.length : Int) > (4 : Int))))))))
theorem ref05_Right_w (a0 : Task) (r : Bool) (h : ref05_Right a0 = some r) : Go.VC.Spec Try.prog 22 [.agg (Task.enc a0)] (fun y => y = E_Bool r) := by
  refine Go.VC.Spec.of_xc (args := [.agg (Task.enc a0)]) (fn := Try.f22) tab ⟨[(0, [1]), (1, [1, 37]), (2, [2]), (3, [1, 3]), (4, [1, 3, 42]), (5, [1, 3]), (6, [1, 3, 4]), (7, [1, 3, 4, 91]), (8, [2]), (9, [1, 3, 4, 5]), (10, [1, 3, 4, 5, 94]), (11, [1, 3, 4, 5]), (12, [1, 3, 4, 5, 6]), (13, [1, 3, 4, 5, 6, 120]), (14, [2]), (15, [1, 3, 4, 5, 6, 7, 8]), (16, [1, 3, 4, 5, 6, 7, 8, 9]), (17, [1, 3, 4, 5, 6, 7, 8, 9, 129]), (18, [1, 3, 4, 5, 6, 7, 8, 9]), (19, [1, 3, 4, 5, 6, 7, 8, 9, 138]), (20, [1, 3, 4, 5, 6, 7, 8, 9]), (21, [1, 3, 4, 5, 6, 7, 8, 9]), (22, [1, 3, 4, 5, 155]), (23, [2]), (24, [2])], [], [100037, 100091, 100120, 18, 100155], []⟩ 156 [.tmp 2] rfl rfl rfl rfl rfl rfl ?_
  conv => whnf
  refine jnS (fun w1 => ⟨[(1, .l (.ptr 2 0)), (37, .l (.d (.bool w1)))], 156, [], [(2, [.d (.int .i64 a0.C), .d (.int .i64 a0.D), .d (.int .i64 a0.T), .d (.sl (a0.Secs.map Sec.enc))])], []⟩) h (fun k1 hk1 h => ?_) (fun w1 h => ?_)
  · conv => whnf
    refine fkS h (fun h => ?_) (fun h => ?_)
    · conv => whnf
      exact jeS hk1 h (Weak.refl _)
    conv => whnf
    refine fkS h (fun h => ?_) (fun h => ?_)
    · conv => whnf
      exact jeS hk1 h (Weak.refl _)
    conv => whnf
    refine fkS h (fun h => ?_) (fun h => ?_)
    · conv => whnf
      exact jeS hk1 h (Weak.refl _)
    conv => whnf
    refine fkS h (fun h => ?_) (fun h => ?_)
    · conv => whnf
      exact jeS hk1 h (Weak.refl _)
    conv => whnf
    refine lenS a0.Secs Sec.enc rfl ?_
    conv => whnf
    exact jeS hk1 h (Weak.refl _)
  conv => whnf
  refine fkS h (fun h => ?_) (fun h => ?_)
  · conv => whnf
    exact rt (E := E_Bool) h rfl
  conv => whnf
  refine lpS (fun v2 => ⟨[(1, .l (.ptr 2 0)), (3, .l (.d (.int .i64 v2)))], 156, [], [(2, [.d (.int .i64 a0.C), .d (.int .i64 a0.D), .d (.int .i64 a0.T), .d (.sl (a0.Secs.map Sec.enc))])], []⟩) h (Weak.refl _) (fun _ nx2 hn2 v2 h => ?_)
  conv => whnf
  refine lenS a0.Secs Sec.enc rfl ?_
  conv => whnf
  refine fkS h (fun h => ?_) (fun h => ?_)
  · conv => whnf
    refine ixS (enc := Sec.enc) h rfl (fun _ => rfl) (fun x3 h => ?_)
    conv => whnf
    refine jnS (fun w4 => ⟨[(1, .l (.ptr 2 0)), (3, .l (.d (.int .i64 v2))), (4, .l (.ptr 5 0)), (91, .l (.d (.bool w4)))], 156, [], [(2, [.d (.int .i64 a0.C), .d (.int .i64 a0.D), .d (.int .i64 a0.T), .d (.sl (a0.Secs.map Sec.enc))]), (5, [.d (.int .i64 x3.Res), .d (.int .i64 x3.At), .d (.int .i64 x3.Len)])], []⟩) h (fun k4 hk4 h => ?_) (fun w4 h => ?_)
    · conv => whnf
      refine fkS h (fun h => ?_) (fun h => ?_)
      · conv => whnf
        exact jeS hk4 h (Weak.refl _)
      conv => whnf
      refine fkS h (fun h => ?_) (fun h => ?_)
      · conv => whnf
        exact jeS hk4 h (Weak.refl _)
      conv => whnf
      refine fkS h (fun h => ?_) (fun h => ?_)
      · conv => whnf
        exact jeS hk4 h (Weak.refl _)
      conv => whnf
      refine fkS h (fun h => ?_) (fun h => ?_)
      · conv => whnf
        exact jeS hk4 h (Weak.refl _)
      conv => whnf
      refine fkS h (fun h => ?_) (fun h => ?_)
      · conv => whnf
        exact jeS hk4 h (Weak.refl _)
      conv => whnf
      refine fkS h (fun h => ?_) (fun h => ?_)
      · conv => whnf
        exact jeS hk4 h (Weak.refl _)
      conv => whnf
      exact jeS hk4 h (Weak.refl _)
    conv => whnf
    refine fkS h (fun h => ?_) (fun h => ?_)
    · conv => whnf
      exact rt (E := E_Bool) h rfl
    conv => whnf
    refine lpS (fun v5 => ⟨[(1, .l (.ptr 2 0)), (3, .l (.d (.int .i64 v2))), (4, .l (.ptr 5 0)), (5, .l (.d (.int .i64 v5)))], 156, [], [(2, [.d (.int .i64 a0.C), .d (.int .i64 a0.D), .d (.int .i64 a0.T), .d (.sl (a0.Secs.map Sec.enc))]), (5, [.d (.int .i64 x3.Res), .d (.int .i64 x3.At), .d (.int .i64 x3.Len)])], []⟩) h (Weak.refl _) (fun _ nx5 hn5 v5 h => ?_)
    conv => whnf
    refine fkS h (fun h => ?_) (fun h => ?_)
    · conv => whnf
      refine ixS (enc := Sec.enc) h rfl (fun _ => rfl) (fun x6 h => ?_)
      conv => whnf
      refine jnS (fun w7 => ⟨[(1, .l (.ptr 2 0)), (3, .l (.d (.int .i64 v2))), (4, .l (.ptr 5 0)), (5, .l (.d (.int .i64 v5))), (6, .l (.ptr 7 0)), (120, .l (.d (.bool w7)))], 156, [], [(2, [.d (.int .i64 a0.C), .d (.int .i64 a0.D), .d (.int .i64 a0.T), .d (.sl (a0.Secs.map Sec.enc))]), (5, [.d (.int .i64 x3.Res), .d (.int .i64 x3.At), .d (.int .i64 x3.Len)]), (7, [.d (.int .i64 x6.Res), .d (.int .i64 x6.At), .d (.int .i64 x6.Len)])], []⟩) h (fun k7 hk7 h => ?_) (fun w7 h => ?_)
      · conv => whnf
        refine fkS h (fun h => ?_) (fun h => ?_)
        · conv => whnf
          exact jeS hk7 h (Weak.refl _)
        conv => whnf
        refine fkS h (fun h => ?_) (fun h => ?_)
        · conv => whnf
          exact jeS hk7 h (Weak.refl _)
        conv => whnf
        exact jeS hk7 h (Weak.refl _)
      conv => whnf
      refine fkS h (fun h => ?_) (fun h => ?_)
      · conv => whnf
        exact rt (E := E_Bool) h rfl
      conv => whnf
      refine lpS (fun v8 => ⟨[(1, .l (.ptr 2 0)), (3, .l (.d (.int .i64 v2))), (4, .l (.ptr 5 0)), (5, .l (.d (.int .i64 v5))), (6, .l (.ptr 7 0)), (7, .l (.d (.int .i64 v8.1))), (8, .l (.d (.int .i64 v8.2.1))), (9, .l (.d (.int .i64 v8.2.2)))], 156, [], [(2, [.d (.int .i64 a0.C), .d (.int .i64 a0.D), .d (.int .i64 a0.T), .d (.sl (a0.Secs.map Sec.enc))]), (5, [.d (.int .i64 x3.Res), .d (.int .i64 x3.At), .d (.int .i64 x3.Len)]), (7, [.d (.int .i64 x6.Res), .d (.int .i64 x6.At), .d (.int .i64 x6.Len)])], []⟩) h (Weak.refl _) (fun _ nx8 hn8 v8 h => ?_)
      conv => whnf
      refine fkS h (fun h => ?_) (fun h => ?_)
      · conv => whnf
        refine jnS (fun w9 => ⟨[(1, .l (.ptr 2 0)), (3, .l (.d (.int .i64 v2))), (4, .l (.ptr 5 0)), (5, .l (.d (.int .i64 v5))), (6, .l (.ptr 7 0)), (7, .l (.d (.int .i64 w9.1))), (8, .l (.d (.int .i64 w9.2))), (9, .l (.d (.int .i64 v8.2.2)))], 156, [], [(2, [.d (.int .i64 a0.C), .d (.int .i64 a0.D), .d (.int .i64 a0.T), .d (.sl (a0.Secs.map Sec.enc))]), (5, [.d (.int .i64 x3.Res), .d (.int .i64 x3.At), .d (.int .i64 x3.Len)]), (7, [.d (.int .i64 x6.Res), .d (.int .i64 x6.At), .d (.int .i64 x6.Len)])], []⟩) h (fun k9 hk9 h => ?_) (fun w9 h => ?_)
        · conv => whnf
          refine fkS h (fun h => ?_) (fun h => ?_)
          · conv => whnf
            exact jeS hk9 h (Weak.refl _)
          conv => whnf
          exact jeS hk9 h (Weak.refl _)
        conv => whnf
        exact leS hn8 h (Weak.refl _)
      conv => whnf
      refine jnS (fun w10 => ⟨[(1, .l (.ptr 2 0)), (3, .l (.d (.int .i64 v2))), (4, .l (.ptr 5 0)), (5, .l (.d (.int .i64 v5))), (155, .l (.d (.bool w10)))], 156, [], [(2, [.d (.int .i64 a0.C), .d (.int .i64 a0.D), .d (.int .i64 a0.T), .d (.sl (a0.Secs.map Sec.enc))]), (5, [.d (.int .i64 x3.Res), .d (.int .i64 x3.At), .d (.int .i64 x3.Len)])], []⟩) h (fun k10 hk10 h => ?_) (fun w10 h => ?_)
      · conv => whnf
        refine fkS h (fun h => ?_) (fun h => ?_)
        · conv => whnf
          refine fkS h (fun h => ?_) (fun h => ?_)
          · conv => whnf
            exact jeS hk10 h (Weak.refl _)
          conv => whnf
          exact jeS hk10 h (Weak.refl _)
        conv => whnf
        exact jeS hk10 h (Weak.refl _)
      conv => whnf
      refine fkS h (fun h => ?_) (fun h => ?_)
      · conv => whnf
        exact rt (E := E_Bool) h rfl
      conv => whnf
      exact leS hn5 h (Weak.refl _)
    conv => whnf
    exact leS hn2 h (Weak.refl _)
  conv => whnf
  exact rt (E := E_Bool) h rfl

end Go.Proofs.Ytghpokloofnbkaa
namespace Go.Proofs.Ytghpokloofnbkaa
open Go Go.VC
noncomputable def ref05_All (a0 : List Task) : Option Bool :=
  lp (fun nx1 (v1 : Int × Int) => fk (decide (v1.2 < (a0.length : Int))) (jn (fun (w2 : Int) => nx1 (w2, (wr (v1.2 + (1 : Int))))) (fun k2 => ix a0 v1.2 fun x3 => bnd (ref05_Right x3) fun x4 => fk x4 (k2 (wr (v1.1 + (1 : Int)))) (k2 v1.1))) (fk (decide (v1.1 = (a0.length : Int))) (some (decide (v1.1 ≤ (8 : Int)))) (some false))) FU ((0 : Int), (0 : Int))
theorem ref05_All_w (a0 : List Task) (r : Bool) (h : ref05_All a0 = some r) : Go.VC.Spec Try.prog 14 [.d (.sl (a0.map Task.enc))] (fun y => y = E_Bool r) := by
  refine Go.VC.Spec.of_xc (args := [.d (.sl (a0.map Task.enc))]) (fn := Try.f14) tab ⟨[(0, [0]), (1, [0, 3]), (2, [0, 3, 4]), (3, [0, 3, 4, 8]), (4, [0, 3, 4]), (5, [0, 3, 4, 15]), (6, [0, 3, 4]), (7, [2])], [], [4], []⟩ 26 [.tmp 2] rfl rfl rfl rfl rfl rfl ?_
  conv => whnf
  refine lpS (fun v1 => ⟨[(0, .l (.d (.sl (a0.map Task.enc)))), (3, .l (.d (.int .i64 v1.1))), (4, .l (.d (.int .i64 v1.2)))], 26, [], [], []⟩) h (Weak.refl _) (fun _ nx1 hn1 v1 h => ?_)
  conv => whnf
  refine lenS a0 Task.enc rfl ?_
  conv => whnf
  refine fkS h (fun h => ?_) (fun h => ?_)
  · conv => whnf
    refine jnS (fun w2 => ⟨[(0, .l (.d (.sl (a0.map Task.enc)))), (3, .l (.d (.int .i64 w2))), (4, .l (.d (.int .i64 v1.2)))], 26, [], [], []⟩) h (fun k2 hk2 h => ?_) (fun w2 h => ?_)
    · conv => whnf
      refine ixS (enc := Task.enc) h rfl (fun _ => rfl) (fun x3 h => ?_)
      conv => whnf
      refine caS (E := E_Bool) h (ref05_Right_w x3) rfl (fun _ => rfl) (fun x4 h => ?_)
      conv => whnf
      refine fkS h (fun h => ?_) (fun h => ?_)
      · conv => whnf
        exact jeS hk2 h (Weak.refl _)
      conv => whnf
      refine jeX hk2 h ?_
      conv => whnf
      refine WkF.step (Weak.keepS _ [0, 3, 4]) ?_
      conv => whnf
      exact WkF.refl _
    conv => whnf
    exact leS hn1 h (Weak.refl _)
  conv => whnf
  refine lenS a0 Task.enc rfl ?_
  conv => whnf
  refine fkS h (fun h => ?_) (fun h => ?_)
  · conv => whnf
    exact rt (E := E_Bool) h rfl
  conv => whnf
  exact rt (E := E_Bool) h rfl

end Go.Proofs.Ytghpokloofnbkaa
namespace Go.Proofs.Ytghpokloofnbkaa
open Go Go.VC
noncomputable def ref05_Uses (a0 : Task) (a1 : Int) : Option Bool :=
  lp (fun nx1 (v1 : Int × Int) => fk (decide (v1.2 < (a0.Secs.length : Int))) (jn (fun (w2 : Int) => nx1 (w2, (wr (v1.2 + (1 : Int))))) (fun k2 => ix a0.Secs v1.2 fun x3 => fk (decide (x3.Res = a1)) (k2 (wr (v1.1 + (1 : Int)))) (k2 v1.1))) (some (decide (v1.1 > (0 : Int))))) FU ((0 : Int), (0 : Int))
theorem ref05_Uses_w (a0 : Task) (a1 : Int) (r : Bool) (h : ref05_Uses a0 a1 = some r) : Go.VC.Spec Try.prog 47 [.agg (Task.enc a0), .d (.int .i64 a1)] (fun y => y = E_Bool r) := by
  refine Go.VC.Spec.of_xc (args := [.agg (Task.enc a0), .d (.int .i64 a1)]) (fn := Try.f47) tab ⟨[(0, [1, 2]), (1, [1, 2, 5]), (2, [1, 2, 5, 6]), (3, [1, 2, 5, 6, 11]), (4, [1, 2, 5, 6]), (5, [1, 2, 5, 6, 21]), (6, [1, 2, 5, 6]), (7, [4])], [], [4], []⟩ 26 [.tmp 4] rfl rfl rfl rfl rfl rfl ?_
  conv => whnf
  refine lpS (fun v1 => ⟨[(1, .l (.d (.int .i64 a1))), (2, .l (.ptr 3 0)), (5, .l (.d (.int .i64 v1.1))), (6, .l (.d (.int .i64 v1.2)))], 26, [], [(3, [.d (.int .i64 a0.C), .d (.int .i64 a0.D), .d (.int .i64 a0.T), .d (.sl (a0.Secs.map Sec.enc))])], []⟩) h (Weak.refl _) (fun _ nx1 hn1 v1 h => ?_)
  conv => whnf
  refine lenS a0.Secs Sec.enc rfl ?_
  conv => whnf
  refine fkS h (fun h => ?_) (fun h => ?_)
  · conv => whnf
    refine jnS (fun w2 => ⟨[(1, .l (.d (.int .i64 a1))), (2, .l (.ptr 3 0)), (5, .l (.d (.int .i64 w2))), (6, .l (.d (.int .i64 v1.2)))], 26, [], [(3, [.d (.int .i64 a0.C), .d (.int .i64 a0.D), .d (.int .i64 a0.T), .d (.sl (a0.Secs.map Sec.enc))])], []⟩) h (fun k2 hk2 h => ?_) (fun w2 h => ?_)
    · conv => whnf
      refine ixS (enc := Sec.enc) h rfl (fun _ => rfl) (fun x3 h => ?_)
      conv => whnf
      refine fkS h (fun h => ?_) (fun h => ?_)
      · conv => whnf
        exact jeS hk2 h (Weak.refl _)
      conv => whnf
      refine jeX hk2 h ?_
      conv => whnf
      refine WkF.step (Weak.keepS _ [1, 2, 5, 6]) ?_
      conv => whnf
      exact WkF.refl _
    conv => whnf
    exact leS hn1 h (Weak.refl _)
  conv => whnf
  exact rt (E := E_Bool) h rfl

end Go.Proofs.Ytghpokloofnbkaa
namespace Go.Proofs.Ytghpokloofnbkaa
open Go Go.VC
noncomputable def ref07_Bound (a0 : List Task) (a1 : Int) : Option Int :=
  lp (fun nx1 (v1 : Int × Int) => fk (decide (v1.2 < (a0.length : Int))) (ix a0 v1.2 fun x2 => lp (fun nx3 (v3 : Int × Int) => fk (decide (v3.2 ≤ a1)) (ix a0 v1.2 fun x4 => ix a0 v1.2 fun x5 => nx3 ((wr (v3.1 + x4.C)), (wr (v3.2 + x5.T)))) (nx1 (v3.1, (wr (v1.2 + (1 : Int)))))) FU (v1.1, x2.D)) (some v1.1)) FU ((0 : Int), (0 : Int))
theorem ref07_Bound_w (a0 : List Task) (a1 : Int) (r : Int) (h : ref07_Bound a0 a1 = some r) : Go.VC.Spec Try.prog 40 [.d (.sl (a0.map Task.enc)), .d (.int .i64 a1)] (fun y => y = E_Int r) := by
  refine Go.VC.Spec.of_xc (args := [.d (.sl (a0.map Task.enc)), .d (.int .i64 a1)]) (fn := Try.f40) tab ⟨[(0, [0, 1]), (1, [0, 1, 5]), (2, [0, 1, 5, 6]), (3, [0, 1, 5, 6, 11]), (4, [0, 1, 5, 6]), (5, [0, 1, 5, 6, 7]), (6, [0, 1, 5, 6, 7, 21]), (7, [0, 1, 5, 6, 7]), (8, [0, 1, 5, 6, 7]), (9, [4])], [], [], []⟩ 37 [.tmp 4] rfl rfl rfl rfl rfl rfl ?_
  conv => whnf
  refine lpS (fun v1 => ⟨[(0, .l (.d (.sl (a0.map Task.enc)))), (1, .l (.d (.int .i64 a1))), (5, .l (.d (.int .i64 v1.1))), (6, .l (.d (.int .i64 v1.2)))], 37, [], [], []⟩) h (Weak.refl _) (fun _ nx1 hn1 v1 h => ?_)
  conv => whnf
  refine lenS a0 Task.enc rfl ?_
  conv => whnf
  refine fkS h (fun h => ?_) (fun h => ?_)
  · conv => whnf
    refine ixS (enc := Task.enc) h rfl (fun _ => rfl) (fun x2 h => ?_)
    conv => whnf
    refine lpS (fun v3 => ⟨[(0, .l (.d (.sl (a0.map Task.enc)))), (1, .l (.d (.int .i64 a1))), (5, .l (.d (.int .i64 v3.1))), (6, .l (.d (.int .i64 v1.2))), (7, .l (.d (.int .i64 v3.2)))], 37, [], [], []⟩) h (Weak.refl _) (fun _ nx3 hn3 v3 h => ?_)
    conv => whnf
    refine fkS h (fun h => ?_) (fun h => ?_)
    · conv => whnf
      refine ixS (enc := Task.enc) h rfl (fun _ => rfl) (fun x4 h => ?_)
      conv => whnf
      refine ixS (enc := Task.enc) h rfl (fun _ => rfl) (fun x5 h => ?_)
      conv => whnf
      exact leS hn3 h (Weak.refl _)
    conv => whnf
    exact leS hn1 h (Weak.refl _)
  conv => whnf
  exact rt (E := E_Int) h rfl

end Go.Proofs.Ytghpokloofnbkaa
namespace Go.Proofs.Ytghpokloofnbkaa
open Go Go.VC
noncomputable def ref08_Of (a0 : List Task) (a1 : Int) : Option Int :=
  lp (fun nx1 (v1 : Int × Int) => fk (decide (v1.2 < (a0.length : Int))) (lp (fun nx2 (v2 : Int × Int) => ix a0 v1.2 fun x3 => fk (decide (v2.2 < (x3.Secs.length : Int))) (lp (fun nx4 (v4 : Int × Int) => fk (decide (v4.2 < (a0.length : Int))) (jn (fun (w5 : Int) => nx4 (w5, (wr (v4.2 + (1 : Int))))) (fun k5 => jn (fun (w6 : Bool) => fk w6 (ix a0 v1.2 fun x15 => ix x15.Secs v2.2 fun x16 => k5 x16.Len) (k5 v4.1)) (fun k6 => ix a0 v1.2 fun x7 => fk (decide (x7.D > a1)) (ix a0 v4.2 fun x8 => fk (decide (x8.D ≤ a1)) (ix a0 v4.2 fun x9 => ix a0 v1.2 fun x10 => ix x10.Secs v2.2 fun x11 => bnd (ref05_Uses x9 x11.Res) fun x12 => fk x12 (ix a0 v1.2 fun x13 => ix x13.Secs v2.2 fun x14 => k6 (decide (x14.Len > v4.1))) (k6 false)) (k6 false)) (k6 false)))) (nx2 (v4.1, (wr (v2.2 + (1 : Int)))))) FU (v2.1, (0 : Int))) (nx1 (v2.1, (wr (v1.2 + (1 : Int)))))) FU (v1.1, (0 : Int))) (some v1.1)) FU ((0 : Int), (0 : Int))
theorem ref08_Of_w (a0 : List Task) (a1 : Int) (r : Int) (h : ref08_Of a0 a1 = some r) : Go.VC.Spec Try.prog 41 [.d (.sl (a0.map Task.enc)), .d (.int .i64 a1)] (fun y => y = E_Int r) := by
  refine Go.VC.Spec.of_xc (args := [.d (.sl (a0.map Task.enc)), .d (.int .i64 a1)]) (fn := Try.f41) tab ⟨[(0, [0, 1]), (1, [0, 1, 5]), (2, [0, 1, 5, 6]), (3, [0, 1, 5, 6, 12]), (4, [0, 1, 5, 6]), (5, [0, 1, 5, 6, 7]), (6, [0, 1, 5, 6, 7, 22]), (7, [0, 1, 5, 6, 7]), (8, [0, 1, 5, 6, 7, 8]), (9, [0, 1, 5, 6, 7, 8, 28]), (10, [0, 1, 5, 6, 7, 8]), (11, [0, 1, 5, 6, 7, 8, 75]), (12, [0, 1, 5, 6, 7, 8]), (13, [4])], [], [100075, 10], []⟩ 86 [.tmp 4] rfl rfl rfl rfl rfl rfl ?_
  conv => whnf
  refine lpS (fun v1 => ⟨[(0, .l (.d (.sl (a0.map Task.enc)))), (1, .l (.d (.int .i64 a1))), (5, .l (.d (.int .i64 v1.1))), (6, .l (.d (.int .i64 v1.2)))], 86, [], [], []⟩) h (Weak.refl _) (fun _ nx1 hn1 v1 h => ?_)
  conv => whnf
  refine lenS a0 Task.enc rfl ?_
  conv => whnf
  refine fkS h (fun h => ?_) (fun h => ?_)
  · conv => whnf
    refine lpS (fun v2 => ⟨[(0, .l (.d (.sl (a0.map Task.enc)))), (1, .l (.d (.int .i64 a1))), (5, .l (.d (.int .i64 v2.1))), (6, .l (.d (.int .i64 v1.2))), (7, .l (.d (.int .i64 v2.2)))], 86, [], [], []⟩) h (Weak.refl _) (fun _ nx2 hn2 v2 h => ?_)
    conv => whnf
    refine ixS (enc := Task.enc) h rfl (fun _ => rfl) (fun x3 h => ?_)
    conv => whnf
    refine lenS x3.Secs Sec.enc rfl ?_
    conv => whnf
    refine fkS h (fun h => ?_) (fun h => ?_)
    · conv => whnf
      refine lpS (fun v4 => ⟨[(0, .l (.d (.sl (a0.map Task.enc)))), (1, .l (.d (.int .i64 a1))), (5, .l (.d (.int .i64 v4.1))), (6, .l (.d (.int .i64 v1.2))), (7, .l (.d (.int .i64 v2.2))), (8, .l (.d (.int .i64 v4.2)))], 86, [], [], []⟩) h (Weak.refl _) (fun _ nx4 hn4 v4 h => ?_)
      conv => whnf
      refine lenS a0 Task.enc rfl ?_
      conv => whnf
      refine fkS h (fun h => ?_) (fun h => ?_)
      · conv => whnf
        refine jnS (fun w5 => ⟨[(0, .l (.d (.sl (a0.map Task.enc)))), (1, .l (.d (.int .i64 a1))), (5, .l (.d (.int .i64 w5))), (6, .l (.d (.int .i64 v1.2))), (7, .l (.d (.int .i64 v2.2))), (8, .l (.d (.int .i64 v4.2)))], 86, [], [], []⟩) h (fun k5 hk5 h => ?_) (fun w5 h => ?_)
        · conv => whnf
          refine jnS (fun w6 => ⟨[(0, .l (.d (.sl (a0.map Task.enc)))), (1, .l (.d (.int .i64 a1))), (5, .l (.d (.int .i64 v4.1))), (6, .l (.d (.int .i64 v1.2))), (7, .l (.d (.int .i64 v2.2))), (8, .l (.d (.int .i64 v4.2))), (75, .l (.d (.bool w6)))], 86, [], [], []⟩) h (fun k6 hk6 h => ?_) (fun w6 h => ?_)
          · conv => whnf
            refine ⟨45, ?_⟩
            conv => whnf
            refine ixS (enc := Task.enc) h rfl (fun _ => rfl) (fun x7 h => ?_)
            conv => whnf
            refine fkS h (fun h => ?_) (fun h => ?_)
            · conv => whnf
              refine ixS (enc := Task.enc) h rfl (fun _ => rfl) (fun x8 h => ?_)
              conv => whnf
              refine fkS h (fun h => ?_) (fun h => ?_)
              · conv => whnf
                refine ixS (enc := Task.enc) h rfl (fun _ => rfl) (fun x9 h => ?_)
                conv => whnf
                refine ixS (enc := Task.enc) h rfl (fun _ => rfl) (fun x10 h => ?_)
                conv => whnf
                refine ixS (enc := Sec.enc) h rfl (fun _ => rfl) (fun x11 h => ?_)
                conv => whnf
                refine daS (E := E_Bool) h (ref05_Uses_w x9 x11.Res) (fun _ => rfl) (fun x12 h => ?_)
                conv => whnf
                refine fkS h (fun h => ?_) (fun h => ?_)
                · conv => whnf
                  refine ixS (enc := Task.enc) h rfl (fun _ => rfl) (fun x13 h => ?_)
                  conv => whnf
                  refine ixS (enc := Sec.enc) h rfl (fun _ => rfl) (fun x14 h => ?_)
                  conv => whnf
                  refine drS (by kernel_rfl) ?_
                  conv => whnf
                  exact jeS hk6 h (Weak.refl _)
                conv => whnf
                refine drS (by kernel_rfl) ?_
                conv => whnf
                exact jeS hk6 h (Weak.refl _)
              conv => whnf
              refine drS (by kernel_rfl) ?_
              conv => whnf
              exact jeS hk6 h (Weak.refl _)
            conv => whnf
            refine drS (by kernel_rfl) ?_
            conv => whnf
            exact jeS hk6 h (Weak.refl _)
          conv => whnf
          refine fkS h (fun h => ?_) (fun h => ?_)
          · conv => whnf
            refine ixS (enc := Task.enc) h rfl (fun _ => rfl) (fun x15 h => ?_)
            conv => whnf
            refine ixS (enc := Sec.enc) h rfl (fun _ => rfl) (fun x16 h => ?_)
            conv => whnf
            exact jeS hk5 h (Weak.refl _)
          conv => whnf
          refine jeX hk5 h ?_
          conv => whnf
          refine WkF.step (Weak.keepS _ [0, 1, 5, 6, 7, 8]) ?_
          conv => whnf
          exact WkF.refl _
        conv => whnf
        exact leS hn4 h (Weak.refl _)
      conv => whnf
      exact leS hn2 h (Weak.refl _)
    conv => whnf
    exact leS hn1 h (Weak.refl _)
  conv => whnf
  exact rt (E := E_Int) h rfl

end Go.Proofs.Ytghpokloofnbkaa
namespace Go.Proofs.Ytghpokloofnbkaa
open Go Go.VC
noncomputable def ref09_Worst (a0 : Face) (a1 : Int) : Option Bool :=
  fk (decide (a1 < a0.P)) (some (decide (a1 < a0.B))) (ck (decide (a0.P ≠ 0)) (some (decide ((a1.tmod a0.P) ≥ (wr (a0.P - a0.B))))))
theorem ref09_Worst_w (a0 : Face) (a1 : Int) (r : Bool) (h : ref09_Worst a0 a1 = some r) : Go.VC.Spec Try.prog 42 [.agg (Face.enc a0), .d (.int .i64 a1)] (fun y => y = E_Bool r) := by
  refine Go.VC.Spec.of_xc (args := [.agg (Face.enc a0), .d (.int .i64 a1)]) (fn := Try.f42) tab ⟨[(0, [1, 2]), (1, [1, 2, 8]), (2, [4]), (3, [4])], [], [], []⟩ 23 [.tmp 4] rfl rfl rfl rfl rfl rfl ?_
  conv => whnf
  refine fkS h (fun h => ?_) (fun h => ?_)
  · conv => whnf
    exact rt (E := E_Bool) h rfl
  conv => whnf
  refine ⟨9, ?_⟩
  conv => whnf
  refine dvS h (fun h => ?_)
  conv => whnf
  refine drS (by kernel_rfl) ?_
  conv => whnf
  exact rt (E := E_Bool) h rfl

end Go.Proofs.Ytghpokloofnbkaa
namespace Go.Proofs.Ytghpokloofnbkaa
open Go Go.VC
noncomputable def ref09_Bound (a0 : Face) (a1 : Int) : Option Int :=
  lp (fun nx1 (v1 : Int × Int) => fk (decide (v1.2 < (wr (a0.B + a1)))) (jn (fun (w2 : Int) => nx1 (w2, (wr (v1.2 + (1 : Int))))) (fun k2 => bnd (ref09_Worst a0 v1.2) fun x3 => fk x3 (k2 (wr (v1.1 + (1 : Int)))) (k2 v1.1))) (some v1.1)) FU ((0 : Int), a0.B)
theorem ref09_Bound_w (a0 : Face) (a1 : Int) (r : Int) (h : ref09_Bound a0 a1 = some r) : Go.VC.Spec Try.prog 34 [.agg (Face.enc a0), .d (.int .i64 a1)] (fun y => y = E_Int r) := by
  refine Go.VC.Spec.of_xc (args := [.agg (Face.enc a0), .d (.int .i64 a1)]) (fn := Try.f34) tab ⟨[(0, [1, 2]), (1, [1, 2, 5]), (2, [1, 2, 5, 6]), (3, [1, 2, 5, 6, 14]), (4, [1, 2, 5, 6]), (5, [1, 2, 5, 6, 19]), (6, [1, 2, 5, 6]), (7, [4])], [], [4], []⟩ 23 [.tmp 4] rfl rfl rfl rfl rfl rfl ?_
  conv => whnf
  refine lpS (fun v1 => ⟨[(1, .l (.d (.int .i64 a1))), (2, .l (.ptr 3 0)), (5, .l (.d (.int .i64 v1.1))), (6, .l (.d (.int .i64 v1.2)))], 23, [], [(3, [.d (.int .i64 a0.P), .d (.int .i64 a0.B)])], []⟩) h (Weak.refl _) (fun _ nx1 hn1 v1 h => ?_)
  conv => whnf
  refine fkS h (fun h => ?_) (fun h => ?_)
  · conv => whnf
    refine jnS (fun w2 => ⟨[(1, .l (.d (.int .i64 a1))), (2, .l (.ptr 3 0)), (5, .l (.d (.int .i64 w2))), (6, .l (.d (.int .i64 v1.2)))], 23, [], [(3, [.d (.int .i64 a0.P), .d (.int .i64 a0.B)])], []⟩) h (fun k2 hk2 h => ?_) (fun w2 h => ?_)
    · conv => whnf
      refine caS (E := E_Bool) h (ref09_Worst_w a0 v1.2) rfl (fun _ => rfl) (fun x3 h => ?_)
      conv => whnf
      refine fkS h (fun h => ?_) (fun h => ?_)
      · conv => whnf
        exact jeS hk2 h (Weak.refl _)
      conv => whnf
      refine jeX hk2 h ?_
      conv => whnf
      refine WkF.step (Weak.keepS _ [1, 2, 5, 6]) ?_
      conv => whnf
      exact WkF.refl _
    conv => whnf
    exact leS hn1 h (Weak.refl _)
  conv => whnf
  exact rt (E := E_Int) h rfl

end Go.Proofs.Ytghpokloofnbkaa
namespace Go.Proofs.Ytghpokloofnbkaa
open Go Go.VC
noncomputable def ref09_Right (a0 : Face) : Option Bool :=
  fk (decide (a0.P ≥ (1 : Int))) (fk (decide (a0.P ≤ (200 : Int))) (fk (decide (a0.B ≥ (1 : Int))) (some (decide (a0.B ≤ a0.P))) (some false)) (some false)) (some false)
theorem ref09_Right_w (a0 : Face) (r : Bool) (h : ref09_Right a0 = some r) : Go.VC.Spec Try.prog 23 [.agg (Face.enc a0)] (fun y => y = E_Bool r) := by
  refine Go.VC.Spec.of_xc (args := [.agg (Face.enc a0)]) (fn := Try.f23) tab ⟨[(0, [1]), (1, [2])], [], [], []⟩ 23 [.tmp 2] rfl rfl rfl rfl rfl rfl ?_
  conv => whnf
  refine fkS h (fun h => ?_) (fun h => ?_)
  · conv => whnf
    refine fkS h (fun h => ?_) (fun h => ?_)
    · conv => whnf
      refine fkS h (fun h => ?_) (fun h => ?_)
      · conv => whnf
        exact rt (E := E_Bool) h rfl
      conv => whnf
      exact rt (E := E_Bool) h rfl
    conv => whnf
    exact rt (E := E_Bool) h rfl
  conv => whnf
  exact rt (E := E_Bool) h rfl

end Go.Proofs.Ytghpokloofnbkaa
namespace Go.Proofs.Ytghpokloofnbkaa
open Go Go.VC
noncomputable def ref10_Asked (a0 : List Task) (a1 : Face) (a2 : Int) : Option (Int × Int) :=
  lp (fun nx1 (v1 : Int × Int) => fk (decide (v1.2 < (a0.length : Int))) (ix a0 v1.2 fun x2 => ix a0 v1.2 fun x3 => ck (decide (x3.T ≠ 0)) (nx1 ((wr (v1.1 + (wr (x2.C * (wr (a2.tdiv x3.T)))))), (wr (v1.2 + (1 : Int)))))) (ck (decide (a1.P ≠ 0)) (some (v1.1, (wr (a1.B * (wr (a2.tdiv a1.P)))))))) FU ((0 : Int), (0 : Int))
theorem ref10_Asked_w (a0 : List Task) (a1 : Face) (a2 : Int) (r : Int × Int) (h : ref10_Asked a0 a1 a2 = some r) : Go.VC.Spec Try.prog 25 [.d (.sl (a0.map Task.enc)), .agg (Face.enc a1), .d (.int .i64 a2)] (fun y => y = E_Int_Int r) := by
  refine Go.VC.Spec.of_xc (args := [.d (.sl (a0.map Task.enc)), .agg (Face.enc a1), .d (.int .i64 a2)]) (fn := Try.f25) tab ⟨[(0, [0, 2, 4]), (1, [0, 2, 4, 8]), (2, [0, 2, 4, 8, 9]), (3, [0, 2, 4, 8, 9, 13]), (4, [0, 2, 4, 8, 9]), (5, [0, 2, 4, 8, 9]), (6, [6, 7])], [], [], []⟩ 39 [.tmp 6, .tmp 7] rfl rfl rfl rfl rfl rfl ?_
  conv => whnf
  refine lpS (fun v1 => ⟨[(0, .l (.d (.sl (a0.map Task.enc)))), (2, .l (.d (.int .i64 a2))), (4, .l (.ptr 5 0)), (8, .l (.d (.int .i64 v1.1))), (9, .l (.d (.int .i64 v1.2)))], 39, [], [(5, [.d (.int .i64 a1.P), .d (.int .i64 a1.B)])], []⟩) h (Weak.refl _) (fun _ nx1 hn1 v1 h => ?_)
  conv => whnf
  refine lenS a0 Task.enc rfl ?_
  conv => whnf
  refine fkS h (fun h => ?_) (fun h => ?_)
  · conv => whnf
    refine ⟨14, ?_⟩
    conv => whnf
    refine ixS (enc := Task.enc) h rfl (fun _ => rfl) (fun x2 h => ?_)
    conv => whnf
    refine ixS (enc := Task.enc) h rfl (fun _ => rfl) (fun x3 h => ?_)
    conv => whnf
    refine dvS h (fun h => ?_)
    conv => whnf
    refine drS (by kernel_rfl) ?_
    conv => whnf
    exact leS hn1 h (Weak.refl _)
  conv => whnf
  refine ⟨9, ?_⟩
  conv => whnf
  refine dvS h (fun h => ?_)
  conv => whnf
  refine drS (by kernel_rfl) ?_
  conv => whnf
  exact rt (E := E_Int_Int) h rfl

end Go.Proofs.Ytghpokloofnbkaa
namespace Go.Proofs.Ytghpokloofnbkaa
open Go Go.VC
noncomputable def ref10_Cycle (a0 : List Task) (a1 : Face) : Option (Int × Int × Int) :=
  jn (fun (w1 : Bool) => fk w1 (some ((0 : Int), (0 : Int), (1 : Int))) (lp (fun nx4 (v4 : Int × Int) => fk (decide (v4.2 < (a0.length : Int))) (jn (fun (w5 : Int) => nx4 (w5, (wr (v4.2 + (1 : Int))))) (fun k5 => ix a0 v4.2 fun x6 => fk (decide (x6.D > v4.1)) (ix a0 v4.2 fun x7 => k5 x7.D) (k5 v4.1))) (lp (fun nx8 (v8 : Int) => fk (decide ((wr (v8 + v4.1)) ≤ (3000 : Int))) (lp (fun nx9 (v9 : Bool × Int) => fk (decide (v9.2 < (a0.length : Int))) (jn (fun (w10 : Bool) => nx9 (w10, (wr (v9.2 + (1 : Int))))) (fun k10 => fk v9.1 (ix a0 v9.2 fun x11 => ck (decide (x11.T ≠ 0)) (k10 (decide ((v8.tmod x11.T) = (0 : Int))))) (k10 false))) (fk v9.1 (some (v8, (wr (v8 + v4.1)), (0 : Int))) (nx8 (wr (v8 + a1.P))))) FU (true, (0 : Int))) (some ((0 : Int), (0 : Int), (5 : Int)))) FU a1.P)) FU ((wr ((2 : Int) * a1.P)), (0 : Int)))) (fun k1 => bnd (ref05_All a0) fun x2 => fk (!x2) (k1 true) (bnd (ref09_Right a1) fun x3 => k1 (!x3)))
theorem ref10_Cycle_w (a0 : List Task) (a1 : Face) (r : Int × Int × Int) (h : ref10_Cycle a0 a1 = some r) : Go.VC.Spec Try.prog 15 [.d (.sl (a0.map Task.enc)), .agg (Face.enc a1)] (fun y => y = E_Int_Int_Int r) := by
  refine Go.VC.Spec.of_xc (args := [.d (.sl (a0.map Task.enc)), .agg (Face.enc a1)]) (fn := Try.f15) tab ⟨[(0, [0, 3]), (1, [0, 3, 19]), (2, [4, 5, 6]), (3, [0, 3, 7]), (4, [0, 3, 7, 8]), (5, [0, 3, 7, 8, 26]), (6, [0, 3, 7, 8]), (7, [0, 3, 7, 8, 35]), (8, [0, 3, 7, 8]), (9, [0, 3, 7, 9]), (10, [0, 3, 7, 9, 46]), (11, [0, 3, 7, 9]), (12, [0, 3, 7, 9, 10]), (13, [0, 3, 7, 9, 10, 11]), (14, [0, 3, 7, 9, 10, 11, 54]), (15, [0, 3, 7, 9, 10, 11]), (16, [0, 3, 7, 9, 10, 11]), (17, [0, 3, 7, 9, 68]), (18, [4, 5, 6]), (19, [4, 5, 6])], [], [100019, 6, 15], []⟩ 73 [.tmp 4, .tmp 5, .tmp 6] rfl rfl rfl rfl rfl rfl ?_
  conv => whnf
  refine jnS (fun w1 => ⟨[(0, .l (.d (.sl (a0.map Task.enc)))), (3, .l (.ptr 4 0)), (19, .l (.d (.bool w1)))], 73, [], [(4, [.d (.int .i64 a1.P), .d (.int .i64 a1.B)])], []⟩) h (fun k1 hk1 h => ?_) (fun w1 h => ?_)
  · conv => whnf
    refine caS (E := E_Bool) h (ref05_All_w a0) rfl (fun _ => rfl) (fun x2 h => ?_)
    conv => whnf
    refine fkS h (fun h => ?_) (fun h => ?_)
    · conv => whnf
      exact jeS hk1 h (Weak.refl _)
    conv => whnf
    refine caS (E := E_Bool) h (ref09_Right_w a1) rfl (fun _ => rfl) (fun x3 h => ?_)
    conv => whnf
    exact jeS hk1 h (Weak.refl _)
  conv => whnf
  refine fkS h (fun h => ?_) (fun h => ?_)
  · conv => whnf
    exact rt (E := E_Int_Int_Int) h rfl
  conv => whnf
  refine lpS (fun v4 => ⟨[(0, .l (.d (.sl (a0.map Task.enc)))), (3, .l (.ptr 4 0)), (7, .l (.d (.int .i64 v4.1))), (8, .l (.d (.int .i64 v4.2)))], 73, [], [(4, [.d (.int .i64 a1.P), .d (.int .i64 a1.B)])], []⟩) h (Weak.refl _) (fun _ nx4 hn4 v4 h => ?_)
  conv => whnf
  refine lenS a0 Task.enc rfl ?_
  conv => whnf
  refine fkS h (fun h => ?_) (fun h => ?_)
  · conv => whnf
    refine jnS (fun w5 => ⟨[(0, .l (.d (.sl (a0.map Task.enc)))), (3, .l (.ptr 4 0)), (7, .l (.d (.int .i64 w5))), (8, .l (.d (.int .i64 v4.2)))], 73, [], [(4, [.d (.int .i64 a1.P), .d (.int .i64 a1.B)])], []⟩) h (fun k5 hk5 h => ?_) (fun w5 h => ?_)
    · conv => whnf
      refine ixS (enc := Task.enc) h rfl (fun _ => rfl) (fun x6 h => ?_)
      conv => whnf
      refine fkS h (fun h => ?_) (fun h => ?_)
      · conv => whnf
        refine ixS (enc := Task.enc) h rfl (fun _ => rfl) (fun x7 h => ?_)
        conv => whnf
        exact jeS hk5 h (Weak.refl _)
      conv => whnf
      refine jeX hk5 h ?_
      conv => whnf
      refine WkF.step (Weak.keepS _ [0, 3, 7, 8]) ?_
      conv => whnf
      exact WkF.refl _
    conv => whnf
    exact leS hn4 h (Weak.refl _)
  conv => whnf
  refine lpS (fun v8 => ⟨[(0, .l (.d (.sl (a0.map Task.enc)))), (3, .l (.ptr 4 0)), (7, .l (.d (.int .i64 v4.1))), (9, .l (.d (.int .i64 v8)))], 73, [], [(4, [.d (.int .i64 a1.P), .d (.int .i64 a1.B)])], []⟩) h (Weak.refl _) (fun _ nx8 hn8 v8 h => ?_)
  conv => whnf
  refine fkS h (fun h => ?_) (fun h => ?_)
  · conv => whnf
    refine lpS (fun v9 => ⟨[(0, .l (.d (.sl (a0.map Task.enc)))), (3, .l (.ptr 4 0)), (7, .l (.d (.int .i64 v4.1))), (9, .l (.d (.int .i64 v8))), (10, .l (.d (.bool v9.1))), (11, .l (.d (.int .i64 v9.2)))], 73, [], [(4, [.d (.int .i64 a1.P), .d (.int .i64 a1.B)])], []⟩) h (Weak.refl _) (fun _ nx9 hn9 v9 h => ?_)
    conv => whnf
    refine lenS a0 Task.enc rfl ?_
    conv => whnf
    refine fkS h (fun h => ?_) (fun h => ?_)
    · conv => whnf
      refine jnS (fun w10 => ⟨[(0, .l (.d (.sl (a0.map Task.enc)))), (3, .l (.ptr 4 0)), (7, .l (.d (.int .i64 v4.1))), (9, .l (.d (.int .i64 v8))), (10, .l (.d (.bool w10))), (11, .l (.d (.int .i64 v9.2)))], 73, [], [(4, [.d (.int .i64 a1.P), .d (.int .i64 a1.B)])], []⟩) h (fun k10 hk10 h => ?_) (fun w10 h => ?_)
      · conv => whnf
        refine fkS h (fun h => ?_) (fun h => ?_)
        · conv => whnf
          refine ixS (enc := Task.enc) h rfl (fun _ => rfl) (fun x11 h => ?_)
          conv => whnf
          refine dvS h (fun h => ?_)
          conv => whnf
          exact jeS hk10 h (Weak.refl _)
        conv => whnf
        exact jeS hk10 h (Weak.refl _)
      conv => whnf
      exact leS hn9 h (Weak.refl _)
    conv => whnf
    refine fkS h (fun h => ?_) (fun h => ?_)
    · conv => whnf
      exact rt (E := E_Int_Int_Int) h rfl
    conv => whnf
    exact leS hn8 h (Weak.refl _)
  conv => whnf
  exact rt (E := E_Int_Int_Int) h rfl

end Go.Proofs.Ytghpokloofnbkaa
namespace Go.Proofs.Ytghpokloofnbkaa
open Go Go.VC
noncomputable def ref10_Need (a0 : List Task) (a1 : Int) : Option Int :=
  bnd (ref07_Bound a0 a1) fun x1 => bnd (ref08_Of a0 a1) fun x2 => some (wr (x1 + x2))
theorem ref10_Need_w (a0 : List Task) (a1 : Int) (r : Int) (h : ref10_Need a0 a1 = some r) : Go.VC.Spec Try.prog 33 [.d (.sl (a0.map Task.enc)), .d (.int .i64 a1)] (fun y => y = E_Int r) := by
  refine Go.VC.Spec.of_xc (args := [.d (.sl (a0.map Task.enc)), .d (.int .i64 a1)]) (fn := Try.f33) tab ⟨[(0, [0, 1]), (1, [4])], [], [], []⟩ 12 [.tmp 4] rfl rfl rfl rfl rfl rfl ?_
  conv => whnf
  refine caS (E := E_Int) h (ref07_Bound_w a0 a1) rfl (fun _ => rfl) (fun x1 h => ?_)
  conv => whnf
  refine caS (E := E_Int) h (ref08_Of_w a0 a1) rfl (fun _ => rfl) (fun x2 h => ?_)
  conv => whnf
  exact rt (E := E_Int) h rfl

end Go.Proofs.Ytghpokloofnbkaa
namespace Go.Proofs.Ytghpokloofnbkaa
open Go Go.VC
noncomputable def ref10_First (a0 : List Task) (a1 : Face) (a2 : Int) : Option (Int × Bool) :=
  lp (fun nx1 (v1 : Int) => fk (decide (v1 ≤ a2)) (bnd (ref10_Need a0 v1) fun x2 => bnd (ref09_Bound a1 v1) fun x3 => fk (decide (x2 > x3)) (some (v1, true)) (nx1 (wr (v1 + (1 : Int))))) (some ((0 : Int), false))) FU (0 : Int)
theorem ref10_First_w (a0 : List Task) (a1 : Face) (a2 : Int) (r : Int × Bool) (h : ref10_First a0 a1 a2 = some r) : Go.VC.Spec Try.prog 26 [.d (.sl (a0.map Task.enc)), .agg (Face.enc a1), .d (.int .i64 a2)] (fun y => y = E_Int_Bool r) := by
  refine Go.VC.Spec.of_xc (args := [.d (.sl (a0.map Task.enc)), .agg (Face.enc a1), .d (.int .i64 a2)]) (fn := Try.f26) tab ⟨[(0, [0, 2, 4]), (1, [0, 2, 4, 8]), (2, [0, 2, 4, 8, 11]), (3, [0, 2, 4, 8]), (4, [0, 2, 4, 8, 20]), (5, [6, 7]), (6, [6, 7])], [], [], []⟩ 22 [.tmp 6, .tmp 7] rfl rfl rfl rfl rfl rfl ?_
  conv => whnf
  refine lpS (fun v1 => ⟨[(0, .l (.d (.sl (a0.map Task.enc)))), (2, .l (.d (.int .i64 a2))), (4, .l (.ptr 5 0)), (8, .l (.d (.int .i64 v1)))], 22, [], [(5, [.d (.int .i64 a1.P), .d (.int .i64 a1.B)])], []⟩) h (Weak.refl _) (fun _ nx1 hn1 v1 h => ?_)
  conv => whnf
  refine fkS h (fun h => ?_) (fun h => ?_)
  · conv => whnf
    refine ⟨5, ?_⟩
    conv => whnf
    refine daS (E := E_Int) h (ref10_Need_w a0 v1) (fun _ => rfl) (fun x2 h => ?_)
    conv => whnf
    refine drS (by kernel_rfl) ?_
    conv => whnf
    refine caS (E := E_Int) h (ref09_Bound_w a1 v1) rfl (fun _ => rfl) (fun x3 h => ?_)
    conv => whnf
    refine fkS h (fun h => ?_) (fun h => ?_)
    · conv => whnf
      exact rt (E := E_Int_Bool) h rfl
    conv => whnf
    exact leS hn1 h (Weak.refl _)
  conv => whnf
  exact rt (E := E_Int_Bool) h rfl

end Go.Proofs.Ytghpokloofnbkaa
namespace Go.Proofs.Ytghpokloofnbkaa
open Go Go.VC
noncomputable def ref10_Fits (a0 : List Task) (a1 : Face) : Option Bool :=
  bnd (ref10_Cycle a0 a1) fun x1 => bnd (ref10_Asked a0 a1 x1.1) fun x2 => bnd (ref10_First a0 a1 x1.2.1) fun x3 => fk (decide (x2.1 ≤ x2.2)) (some (!x3.2)) (some false)
theorem ref10_Fits_w (a0 : List Task) (a1 : Face) (r : Bool) (h : ref10_Fits a0 a1 = some r) : Go.VC.Spec Try.prog 19 [.d (.sl (a0.map Task.enc)), .agg (Face.enc a1)] (fun y => y = E_Bool r) := by
  refine Go.VC.Spec.of_xc (args := [.d (.sl (a0.map Task.enc)), .agg (Face.enc a1)]) (fn := Try.f19) tab ⟨[(0, [0, 3]), (1, [0, 3, 5, 6]), (2, [0, 3, 6, 8, 9]), (3, [8, 9, 11]), (4, [4])], [], [], []⟩ 40 [.tmp 4] rfl rfl rfl rfl rfl rfl ?_
  conv => whnf
  refine caS (E := E_Int_Int_Int) h (ref10_Cycle_w a0 a1) rfl (fun _ => rfl) (fun x1 h => ?_)
  conv => whnf
  refine caS (E := E_Int_Int) h (ref10_Asked_w a0 a1 x1.1) rfl (fun _ => rfl) (fun x2 h => ?_)
  conv => whnf
  refine caS (E := E_Int_Bool) h (ref10_First_w a0 a1 x1.2.1) rfl (fun _ => rfl) (fun x3 h => ?_)
  conv => whnf
  refine fkS h (fun h => ?_) (fun h => ?_)
  · conv => whnf
    exact rt (E := E_Bool) h rfl
  conv => whnf
  exact rt (E := E_Bool) h rfl

end Go.Proofs.Ytghpokloofnbkaa
namespace Go.Proofs.Ytghpokloofnbkaa
open Go Go.VC
noncomputable def supply_Right (a0 : Face) : Option Bool :=
  fk (decide (a0.B ≥ (1 : Int))) (fk (decide (a0.B ≤ a0.P)) (some (decide (a0.P ≤ (200 : Int)))) (some false)) (some false)
theorem supply_Right_w (a0 : Face) (r : Bool) (h : supply_Right a0 = some r) : Go.VC.Spec Try.prog 27 [.agg (Face.enc a0)] (fun y => y = E_Bool r) := by
  refine Go.VC.Spec.of_xc (args := [.agg (Face.enc a0)]) (fn := Try.f27) tab ⟨[(0, [1]), (1, [2])], [], [], []⟩ 18 [.tmp 2] rfl rfl rfl rfl rfl rfl ?_
  conv => whnf
  refine fkS h (fun h => ?_) (fun h => ?_)
  · conv => whnf
    refine fkS h (fun h => ?_) (fun h => ?_)
    · conv => whnf
      exact rt (E := E_Bool) h rfl
    conv => whnf
    exact rt (E := E_Bool) h rfl
  conv => whnf
  exact rt (E := E_Bool) h rfl

end Go.Proofs.Ytghpokloofnbkaa
namespace Go.Proofs.Ytghpokloofnbkaa
open Go Go.VC
noncomputable def supply_Bound (a0 : Face) (a1 : Int) : Option (Int × Int) :=
  jn (fun (w1 : Bool) => fk w1 (some ((0 : Int), (1 : Int))) (fk (decide (a1 < (wr (a0.P - a0.B)))) (some ((0 : Int), (0 : Int))) (ck (decide (a0.P ≠ 0)) (some ((wr ((wr ((wr ((wr (a1 - (wr (a0.P - a0.B)))).tdiv a0.P)) * a0.B)) + (if (wr ((wr (a1 - (wr ((2 : Int) * (wr (a0.P - a0.B)))))) - (wr ((wr ((wr (a1 - (wr (a0.P - a0.B)))).tdiv a0.P)) * a0.P)))) > (0 : Int) then (wr ((wr (a1 - (wr ((2 : Int) * (wr (a0.P - a0.B)))))) - (wr ((wr ((wr (a1 - (wr (a0.P - a0.B)))).tdiv a0.P)) * a0.P)))) else (0 : Int)))), (0 : Int)))))) (fun k1 => bnd (supply_Right a0) fun x2 => fk (!x2) (k1 true) (fk (decide (a1 < (0 : Int))) (k1 true) (k1 (decide (a1 > (4611686018427387903 : Int))))))
theorem supply_Bound_w (a0 : Face) (a1 : Int) (r : Int × Int) (h : supply_Bound a0 a1 = some r) : Go.VC.Spec Try.prog 39 [.agg (Face.enc a0), .d (.int .i64 a1)] (fun y => y = E_Int_Int r) := by
  refine Go.VC.Spec.of_xc (args := [.agg (Face.enc a0), .d (.int .i64 a1)]) (fn := Try.f39) tab ⟨[(0, [1, 2]), (1, [1, 2, 18]), (2, [4, 5]), (3, [1, 2, 6]), (4, [1, 2, 6, 26]), (5, [4, 5]), (6, [1, 2, 6, 7]), (7, [4, 5])], [], [100018], []⟩ 48 [.tmp 4, .tmp 5] rfl rfl rfl rfl rfl rfl ?_
  conv => whnf
  refine jnS (fun w1 => ⟨[(1, .l (.d (.int .i64 a1))), (2, .l (.ptr 3 0)), (18, .l (.d (.bool w1)))], 48, [], [(3, [.d (.int .i64 a0.P), .d (.int .i64 a0.B)])], []⟩) h (fun k1 hk1 h => ?_) (fun w1 h => ?_)
  · conv => whnf
    refine caS (E := E_Bool) h (supply_Right_w a0) rfl (fun _ => rfl) (fun x2 h => ?_)
    conv => whnf
    refine fkS h (fun h => ?_) (fun h => ?_)
    · conv => whnf
      exact jeS hk1 h (Weak.refl _)
    conv => whnf
    refine fkS h (fun h => ?_) (fun h => ?_)
    · conv => whnf
      exact jeS hk1 h (Weak.refl _)
    conv => whnf
    exact jeS hk1 h (Weak.refl _)
  conv => whnf
  refine fkS h (fun h => ?_) (fun h => ?_)
  · conv => whnf
    exact rt (E := E_Int_Int) h rfl
  conv => whnf
  refine fkS h (fun h => ?_) (fun h => ?_)
  · conv => whnf
    exact rt (E := E_Int_Int) h rfl
  conv => whnf
  refine dvS h (fun h => ?_)
  conv => whnf
  exact rt (E := E_Int_Int) h rfl

end Go.Proofs.Ytghpokloofnbkaa
namespace Go.Proofs.Ytghpokloofnbkaa
open Go Go.VC
noncomputable def verdict_Cycle (a0 : List Task) (a1 : Face) : Option (Int × Int × Int) :=
  jn (fun (w1 : Bool) => fk w1 (some ((0 : Int), (0 : Int), (1 : Int))) (lp (fun nx4 (v4 : Int × Int × Int) => fk (decide (v4.2.2 < (a0.length : Int))) (ix a0 v4.2.2 fun x5 => bnd (arith_Lcm v4.1 x5.T) fun x6 => jn (fun (w7 : Bool) => fk w7 (some ((0 : Int), (0 : Int), (5 : Int))) (nx4 (x6.1, (if x5.D > v4.2.1 then x5.D else v4.2.1), (wr (v4.2.2 + (1 : Int)))))) (fun k7 => fk (!decide (x6.2 = (0 : Int))) (k7 true) (k7 (decide (x6.1 > (3000 : Int)))))) (fk (decide ((wr (v4.1 + v4.2.1)) > (3000 : Int))) (some ((0 : Int), (0 : Int), (5 : Int))) (some (v4.1, (wr (v4.1 + v4.2.1)), (0 : Int))))) FU (a1.P, (wr ((2 : Int) * a1.P)), (0 : Int)))) (fun k1 => bnd (task_All a0) fun x2 => fk (!x2) (k1 true) (bnd (supply_Right a1) fun x3 => k1 (!x3)))
theorem verdict_Cycle_w (a0 : List Task) (a1 : Face) (r : Int × Int × Int) (h : verdict_Cycle a0 a1 = some r) : Go.VC.Spec Try.prog 20 [.d (.sl (a0.map Task.enc)), .agg (Face.enc a1)] (fun y => y = E_Int_Int_Int r) := by
  refine Go.VC.Spec.of_xc (args := [.d (.sl (a0.map Task.enc)), .agg (Face.enc a1)]) (fn := Try.f20) tab ⟨[(0, [0, 3]), (1, [0, 3, 20]), (2, [4, 5, 6]), (3, [0, 7, 8]), (4, [7, 8, 26, 27, 28]), (5, [7, 8, 26, 27, 28, 29]), (6, [7, 8, 10, 26, 27, 28]), (7, [8, 10, 11, 12, 26, 27, 28]), (8, [8, 10, 11, 26, 27, 28, 44]), (9, [4, 5, 6]), (10, [7, 8, 26, 27, 28]), (11, [7, 8, 26, 27, 28]), (12, [7, 8, 54]), (13, [4, 5, 6]), (14, [4, 5, 6])], [], [100020, 100044], []⟩ 59 [.tmp 4, .tmp 5, .tmp 6] rfl rfl rfl rfl rfl rfl ?_
  conv => whnf
  refine jnS (fun w1 => ⟨[(0, .l (.d (.sl (a0.map Task.enc)))), (3, .l (.ptr 4 0)), (20, .l (.d (.bool w1)))], 59, [], [(4, [.d (.int .i64 a1.P), .d (.int .i64 a1.B)])], []⟩) h (fun k1 hk1 h => ?_) (fun w1 h => ?_)
  · conv => whnf
    refine caS (E := E_Bool) h (task_All_w a0) rfl (fun _ => rfl) (fun x2 h => ?_)
    conv => whnf
    refine fkS h (fun h => ?_) (fun h => ?_)
    · conv => whnf
      exact jeS hk1 h (Weak.refl _)
    conv => whnf
    refine caS (E := E_Bool) h (supply_Right_w a1) rfl (fun _ => rfl) (fun x3 h => ?_)
    conv => whnf
    exact jeS hk1 h (Weak.refl _)
  conv => whnf
  refine fkS h (fun h => ?_) (fun h => ?_)
  · conv => whnf
    exact rt (E := E_Int_Int_Int) h rfl
  conv => whnf
  refine ⟨6, ?_⟩
  conv => whnf
  refine drS (by kernel_rfl) ?_
  conv => whnf
  refine lenS a0 Task.enc rfl ?_
  conv => whnf
  refine lpS (fun v4 => ⟨[(7, .l (.d (.int .i64 v4.1))), (8, .l (.d (.int .i64 v4.2.1))), (26, .l (.d (.sl (a0.map Task.enc)))), (27, .l (.d (.int .i64 (a0.length : Int)))), (28, .l (.d (.int .i64 v4.2.2)))], 59, [], [], []⟩) h (Weak.refl _) (fun _ nx4 hn4 v4 h => ?_)
  conv => whnf
  refine fkS h (fun h => ?_) (fun h => ?_)
  · conv => whnf
    refine ixS (enc := Task.enc) h rfl (fun _ => rfl) (fun x5 h => ?_)
    conv => whnf
    refine caS (E := E_Int_Int) h (arith_Lcm_w v4.1 x5.T) rfl (fun _ => rfl) (fun x6 h => ?_)
    conv => whnf
    refine jnS (fun w7 => ⟨[(8, .l (.d (.int .i64 v4.2.1))), (10, .l (.ptr 11 0)), (11, .l (.d (.int .i64 x6.1))), (26, .l (.d (.sl (a0.map Task.enc)))), (27, .l (.d (.int .i64 (a0.length : Int)))), (28, .l (.d (.int .i64 v4.2.2))), (44, .l (.d (.bool w7)))], 59, [], [(11, [.d (.int .i64 x5.C), .d (.int .i64 x5.D), .d (.int .i64 x5.T), .d (.sl (x5.Secs.map Sec.enc))])], []⟩) h (fun k7 hk7 h => ?_) (fun w7 h => ?_)
    · conv => whnf
      refine fkS h (fun h => ?_) (fun h => ?_)
      · conv => whnf
        exact jeS hk7 h (Weak.refl _)
      conv => whnf
      exact jeS hk7 h (Weak.refl _)
    conv => whnf
    refine fkS h (fun h => ?_) (fun h => ?_)
    · conv => whnf
      exact rt (E := E_Int_Int_Int) h rfl
    conv => whnf
    refine ⟨6, ?_⟩
    conv => whnf
    refine drS (by kernel_rfl) ?_
    conv => whnf
    exact leS hn4 h (Weak.refl _)
  conv => whnf
  refine fkS h (fun h => ?_) (fun h => ?_)
  · conv => whnf
    exact rt (E := E_Int_Int_Int) h rfl
  conv => whnf
  exact rt (E := E_Int_Int_Int) h rfl

end Go.Proofs.Ytghpokloofnbkaa
namespace Go.Proofs.Ytghpokloofnbkaa
open Go Go.VC
noncomputable def verdict_Need (a0 : List Task) (a1 : Int) : Option (Int × Int) :=
  bnd (demand_Bound a0 a1) fun x1 => fk (!decide (x1.2 = (0 : Int))) (some ((0 : Int), x1.2)) (bnd (block_Of a0 a1) fun x2 => bnd (arith_Add x1.1 x2.1) fun x3 => some (x3.1, x3.2))
theorem verdict_Need_w (a0 : List Task) (a1 : Int) (r : Int × Int) (h : verdict_Need a0 a1 = some r) : Go.VC.Spec Try.prog 38 [.d (.sl (a0.map Task.enc)), .d (.int .i64 a1)] (fun y => y = E_Int_Int r) := by
  refine Go.VC.Spec.of_xc (args := [.d (.sl (a0.map Task.enc)), .d (.int .i64 a1)]) (fn := Try.f38) tab ⟨[(0, [0, 1]), (1, [0, 1, 6, 7]), (2, [0, 1, 6, 7, 17]), (3, [4, 5]), (4, [6, 8]), (5, [4, 5])], [], [], []⟩ 30 [.tmp 4, .tmp 5] rfl rfl rfl rfl rfl rfl ?_
  conv => whnf
  refine caS (E := E_Int_Int) h (demand_Bound_w a0 a1) rfl (fun _ => rfl) (fun x1 h => ?_)
  conv => whnf
  refine fkS h (fun h => ?_) (fun h => ?_)
  · conv => whnf
    exact rt (E := E_Int_Int) h rfl
  conv => whnf
  refine caS (E := E_Int_Int) h (block_Of_w a0 a1) rfl (fun _ => rfl) (fun x2 h => ?_)
  conv => whnf
  refine caS (E := E_Int_Int) h (arith_Add_w x1.1 x2.1) rfl (fun _ => rfl) (fun x3 h => ?_)
  conv => whnf
  exact rt (E := E_Int_Int) h rfl

end Go.Proofs.Ytghpokloofnbkaa
namespace Go.Proofs.Ytghpokloofnbkaa
open Go Go.VC
noncomputable def verdict_fails (a0 : List Task) (a1 : Face) (a2 : Int) : Option (Option Int) :=
  lp (fun nx (v : Int) => fk (decide (v ≤ a2)) (bnd (verdict_Need a0 v) fun x1 => bnd (supply_Bound a1 v) fun x2 => fk (decide (x1.1 > x2.1)) (some (some v)) (nx (wr (v + 1)))) (some none)) FU 0
theorem verdict_fails_it (a0 : List Task) (a1 : Face) (a2 : Int) (r : Option Int) (h : verdict_fails a0 a1 a2 = some r) : ItC Try.prog 37 [.dp [.int .i64 a2], .dp [.sl (a0.map Task.enc)], .dp [.int .i64 a1.P, .int .i64 a1.B]] r := by
  refine ItC.of (fn := Try.f37) rfl rfl rfl rfl rfl (fun w0 p0 l X hy => ?_)
  refine IW.seqx tab ⟨[(0, [0, 1, 2, 3, 5]), (1, [0, 1, 2, 3, 5, 12]), (2, [0, 1, 2, 3, 5]), (3, [0, 1, 2, 3, 5, 6]), (4, [0, 1, 2, 3, 5, 6, 8]), (5, [0, 1, 2, 3, 5, 35])], [], [], []⟩ ?_
  refine IW.block ?_
  refine IW.lp (fun v => ⟨[(0, .l (.raw (.func (.yield l) #[] #[]))), (1, .l (.dptr [.int .i64 a2] 0)), (2, .l (.dptr [.sl (a0.map Task.enc)] 0)), (3, .l (.dptr [.int .i64 a1.P, .int .i64 a1.B] 0)), (5, .l (.d (.int .i64 v)))], 36, [], [], []⟩) h (Weak.refl _) (fun _ nx hn v h => ?_)
  refine IW.seqx tab ⟨[(0, [0, 1, 2, 3, 5]), (1, [0, 1, 2, 3, 5, 12]), (2, [0, 1, 2, 3, 5]), (3, [0, 1, 2, 3, 5, 6]), (4, [0, 1, 2, 3, 5, 6, 8]), (5, [0, 1, 2, 3, 5, 35])], [], [], []⟩ ?_
  refine fkS h (fun h => ?_) (fun h => ?_)
  · refine IW.seq (IW.block ?_)
    refine IW.seqx tab ⟨[(0, [0, 1, 2, 3, 5]), (1, [0, 1, 2, 3, 5, 12]), (2, [0, 1, 2, 3, 5]), (3, [0, 1, 2, 3, 5, 6]), (4, [0, 1, 2, 3, 5, 6, 8]), (5, [0, 1, 2, 3, 5, 35])], [], [], []⟩ ?_
    refine caS (E := E_Int_Int) h (verdict_Need_w a0 v) rfl (fun _ => rfl) (fun x1 h => ?_)
    refine IW.seqx tab ⟨[(0, [0, 1, 2, 3, 5]), (1, [0, 1, 2, 3, 5, 12]), (2, [0, 1, 2, 3, 5]), (3, [0, 1, 2, 3, 5, 6]), (4, [0, 1, 2, 3, 5, 6, 8]), (5, [0, 1, 2, 3, 5, 35])], [], [], []⟩ ?_
    refine caS (E := E_Int_Int) h (supply_Bound_w a1 v) rfl (fun _ => rfl) (fun x2 h => ?_)
    refine IW.yield tab (l := l) (r0 := 0) (r5 := 5) (r6 := 6) (r8 := 8) (nd := x1.1) (hv := x2.1) (t := v) rfl rfl rfl rfl rfl rfl rfl rfl rfl rfl rfl rfl rfl rfl rfl rfl rfl rfl rfl rfl rfl rfl rfl rfl rfl rfl rfl (Nat.le_of_ble_eq_true rfl) (Nat.le_of_ble_eq_true rfl) (Nat.le_of_ble_eq_true rfl) (Nat.le_of_ble_eq_true rfl) (Nat.le_of_ble_eq_true rfl) (Nat.le_of_ble_eq_true rfl) (Nat.le_of_ble_eq_true rfl) (Nat.le_of_ble_eq_true rfl) (Nat.le_of_ble_eq_true rfl) (by decide) (by decide) (by decide) (by decide) (by decide) (by decide) (by decide) (by decide) (by decide) (by decide) (by decide) (by decide) (by decide) (by decide) (by decide) (by decide) rfl rfl rfl rfl (fun hg W1 hW => ?_) (fun hg => ?_) (fun hg => ?_)
    · rw [decide_eq_true hg] at h; exact hy v W1 (Option.some.inj h).symm hW
    · rw [decide_eq_true hg] at h; rw [← Option.some.inj h]; rfl
    · rw [decide_eq_false hg] at h
      refine IW.of_xc tab ⟨[(0, [0, 1, 2, 3, 5]), (1, [0, 1, 2, 3, 5, 12]), (2, [0, 1, 2, 3, 5]), (3, [0, 1, 2, 3, 5, 6]), (4, [0, 1, 2, 3, 5, 6, 8]), (5, [0, 1, 2, 3, 5, 35])], [], [], []⟩ ?_
      exact leS hn h (Weak.refl _)
  · exact (Option.some.inj h).symm
noncomputable def verdict_First (a0 : List Task) (a1 : Face) : Option (Int × Bool × Int) :=
  bnd (verdict_Cycle a0 a1) fun x1 => fk (!decide (x1.2.2 = (0 : Int))) (some ((0 : Int), false, x1.2.2)) (bnd (verdict_fails a0 a1 x1.2.1) fun x2 => match x2 with | some t => some (t, true, (0 : Int)) | none => some ((0 : Int), false, (0 : Int)))
theorem verdict_First_w (a0 : List Task) (a1 : Face) (r : Int × Bool × Int) (h : verdict_First a0 a1 = some r) : Go.VC.Spec Try.prog 21 [.d (.sl (a0.map Task.enc)), .agg (Face.enc a1)] (fun y => y = E_Int_Bool_Int r) := by
  refine Spec.of_wpF (args := [.d (.sl (a0.map Task.enc)), .agg (Face.enc a1)]) (fn := Try.f21) rfl rfl rfl rfl ?_
  refine WpF.seq tab ⟨[(0, [0, 3, 4, 5, 6, 25]), (1, [0, 3, 4, 5, 6, 8, 9, 25]), (2, [0, 3, 4, 5, 6, 8, 9, 19, 25]), (3, [4, 5, 6]), (4, [4, 5, 6, 24, 25]), (5, [4, 5, 6, 10]), (6, [4, 5, 6]), (7, [4, 5, 6])], [], [], []⟩ (rs := [.cell 4 3, .cell 5 4, .cell 6 27]) rfl ?_
  refine WpF.seq tab ⟨[(0, [0, 3, 4, 5, 6, 25]), (1, [0, 3, 4, 5, 6, 8, 9, 25]), (2, [0, 3, 4, 5, 6, 8, 9, 19, 25]), (3, [4, 5, 6]), (4, [4, 5, 6, 24, 25]), (5, [4, 5, 6, 10]), (6, [4, 5, 6]), (7, [4, 5, 6])], [], [], []⟩ (rs := [.cell 4 3, .cell 5 4, .cell 6 27]) rfl ?_
  refine caS (E := E_Int_Int_Int) h (verdict_Cycle_w a0 a1) rfl (fun _ => rfl) (fun x1 h => ?_)
  refine WpF.seq tab ⟨[(0, [0, 3, 4, 5, 6, 25]), (1, [0, 3, 4, 5, 6, 8, 9, 25]), (2, [0, 3, 4, 5, 6, 8, 9, 19, 25]), (3, [4, 5, 6]), (4, [4, 5, 6, 24, 25]), (5, [4, 5, 6, 10]), (6, [4, 5, 6]), (7, [4, 5, 6])], [], [], []⟩ (rs := [.cell 4 3, .cell 5 4, .cell 6 27]) rfl ?_
  refine fkS h (fun h => ?_) (fun h => ?_)
  · exact RetOk.mk ⟨_, rfl, rt (E := E_Int_Bool_Int) h rfl⟩
  obtain ⟨x2, hx2, h⟩ := bnd_of h
  refine WpF.seqA tab ⟨[(0, [0, 3, 4, 5, 6, 25]), (1, [0, 3, 4, 5, 6, 8, 9, 25]), (2, [0, 3, 4, 5, 6, 8, 9, 19, 25]), (3, [4, 5, 6]), (4, [4, 5, 6, 24, 25]), (5, [4, 5, 6, 10]), (6, [4, 5, 6]), (7, [4, 5, 6])], [], [], []⟩ (rs := [.cell 4 3, .cell 5 4, .cell 6 27]) rfl ?_
  refine inS (fn := Try.f29) tab ⟨[(0, [3, 4, 5]), (1, [6])], [], [], []⟩ 8 [.tmp 6] rfl rfl rfl rfl rfl rfl ?_
  refine WpG.id ?_
  refine WpG.range tab (rs := [.cell 4 3, .cell 5 4, .cell 6 27]) rfl rfl rfl rfl rfl ⟨_, rfl, rfl, rfl⟩ x2 rfl (verdict_fails_it a0 a1 x1.2.1 x2 hx2) rfl rfl rfl (fun x hx => ?_) (fun hx => ?_)
  · subst hx
    refine PO.h (?_)
    refine po_move rfl rfl rfl ?_
    refine po_store rfl rfl rfl rfl rfl rfl rfl rfl rfl rfl ?_
    refine po_store rfl rfl rfl rfl rfl rfl rfl rfl rfl rfl ?_
    refine po_store rfl rfl rfl rfl rfl rfl rfl rfl rfl rfl ?_
    refine po_nil ?_
    exact RetOk.mk ⟨_, rfl, rt (E := E_Int_Bool_Int) h rfl⟩
  · subst hx
    refine PO.h (?_)
    refine po_store rfl rfl rfl rfl rfl rfl rfl rfl rfl rfl ?_
    refine po_store rfl rfl rfl rfl rfl rfl rfl rfl rfl rfl ?_
    refine po_store rfl rfl rfl rfl rfl rfl rfl rfl rfl rfl ?_
    refine po_nil ?_
    exact RetOk.mk ⟨_, rfl, rt (E := E_Int_Bool_Int) h rfl⟩

end Go.Proofs.Ytghpokloofnbkaa
namespace Go.Proofs.Ytghpokloofnbkaa
open Go Go.VC
noncomputable def verdict_Fits (a0 : List Task) (a1 : Face) : Option (Bool × Int) :=
  bnd (verdict_Cycle a0 a1) fun x1 => fk (!decide (x1.2.2 = (0 : Int))) (some (false, x1.2.2)) (lp (fun nx2 (v2 : Int × Int) => fk (decide (v2.2 < (a0.length : Int))) (ix a0 v2.2 fun x3 => ck (decide (x3.T ≠ 0)) (nx2 ((wr (v2.1 + (wr ((wr (x1.1.tdiv x3.T)) * x3.C)))), (wr (v2.2 + (1 : Int)))))) (ck (decide (a1.P ≠ 0)) (fk (decide (v2.1 > (wr ((wr (x1.1.tdiv a1.P)) * a1.B)))) (some (false, (0 : Int))) (bnd (verdict_First a0 a1) fun x4 => some ((!x4.2.1), (0 : Int)))))) FU ((0 : Int), (0 : Int)))
theorem verdict_Fits_w (a0 : List Task) (a1 : Face) (r : Bool × Int) (h : verdict_Fits a0 a1 = some r) : Go.VC.Spec Try.prog 12 [.d (.sl (a0.map Task.enc)), .agg (Face.enc a1)] (fun y => y = E_Bool_Int r) := by
  refine Go.VC.Spec.of_xc (args := [.d (.sl (a0.map Task.enc)), .agg (Face.enc a1)]) (fn := Try.f12) tab ⟨[(0, [0, 3]), (1, [0, 3, 6, 8]), (2, [0, 3, 6, 8, 23]), (3, [4, 5]), (4, [0, 3, 6, 9]), (5, [0, 3, 6, 9, 25, 26, 27]), (6, [0, 3, 6, 9, 25, 26, 27, 28]), (7, [0, 3, 6, 9, 11, 25, 26, 27]), (8, [0, 3, 6, 9, 25, 26, 27]), (9, [0, 3, 6, 9, 25, 26, 27]), (10, [0, 3, 49]), (11, [4, 5]), (12, [13]), (13, [4, 5])], [], [], []⟩ 59 [.tmp 4, .tmp 5] rfl rfl rfl rfl rfl rfl ?_
  conv => whnf
  refine caS (E := E_Int_Int_Int) h (verdict_Cycle_w a0 a1) rfl (fun _ => rfl) (fun x1 h => ?_)
  conv => whnf
  refine fkS h (fun h => ?_) (fun h => ?_)
  · conv => whnf
    exact rt (E := E_Bool_Int) h rfl
  conv => whnf
  refine lenS a0 Task.enc rfl ?_
  conv => whnf
  refine lpS (fun v2 => ⟨[(0, .l (.d (.sl (a0.map Task.enc)))), (3, .l (.ptr 4 0)), (6, .l (.d (.int .i64 x1.1))), (9, .l (.d (.int .i64 v2.1))), (25, .l (.d (.sl (a0.map Task.enc)))), (26, .l (.d (.int .i64 (a0.length : Int)))), (27, .l (.d (.int .i64 v2.2)))], 59, [], [(4, [.d (.int .i64 a1.P), .d (.int .i64 a1.B)])], []⟩) h (Weak.refl _) (fun _ nx2 hn2 v2 h => ?_)
  conv => whnf
  refine fkS h (fun h => ?_) (fun h => ?_)
  · conv => whnf
    refine ixS (enc := Task.enc) h rfl (fun _ => rfl) (fun x3 h => ?_)
    conv => whnf
    refine ⟨8, ?_⟩
    conv => whnf
    refine dvS h (fun h => ?_)
    conv => whnf
    refine drS (by kernel_rfl) ?_
    conv => whnf
    exact leS hn2 h (Weak.refl _)
  conv => whnf
  refine ⟨8, ?_⟩
  conv => whnf
  refine dvS h (fun h => ?_)
  conv => whnf
  refine drS (by kernel_rfl) ?_
  conv => whnf
  refine fkS h (fun h => ?_) (fun h => ?_)
  · conv => whnf
    exact rt (E := E_Bool_Int) h rfl
  conv => whnf
  refine caS (E := E_Int_Bool_Int) h (verdict_First_w a0 a1) rfl (fun _ => rfl) (fun x4 h => ?_)
  conv => whnf
  exact rt (E := E_Bool_Int) h rfl

end Go.Proofs.Ytghpokloofnbkaa
namespace Go.Proofs.Ytghpokloofnbkaa
open Go Go.VC

/-! ### Tasks -/
def fitsP (a b : Sec) : Prop := a.At + a.Len ≤ b.At ∨ (a.At ≤ b.At ∧ b.At + b.Len ≤ a.At + a.Len ∧ a.Res ≠ b.Res)
def secP (C : Int) (s : Sec) : Prop := 0 ≤ s.Res ∧ s.Res < 4 ∧ 0 ≤ s.At ∧ s.At < C ∧ 1 ≤ s.Len ∧ s.Len ≤ C - s.At
def ownP (t : Task) : Prop := 1 ≤ t.C ∧ t.C ≤ t.D ∧ t.D ≤ t.T ∧ t.T ≤ 200 ∧ t.Secs.length ≤ 4
def RightP (t : Task) : Prop := ownP t ∧ (∀ s ∈ t.Secs, secP t.C s) ∧ t.Secs.Pairwise fitsP
instance (a b : Sec) : Decidable (fitsP a b) := by unfold fitsP; infer_instance
instance (C : Int) (s : Sec) : Decidable (secP C s) := by unfold secP; infer_instance
instance (t : Task) : Decidable (ownP t) := by unfold ownP; infer_instance
instance (t : Task) : Decidable (RightP t) := by unfold RightP; infer_instance
def right (t : Task) : Bool := decide (RightP t)

theorem task_own_eq (t : Task) : task_own t = some (decide (ownP t)) := by
  unfold task_own
  simp only [fk_if, decide_eq_true_eq]
  repeat' split
  · exact dec_iff (by unfold ownP; omega)
  all_goals exact dec_f (by unfold ownP; omega)

theorem task_may_eq (t : Task) (s : Sec) (h : ownP t) : task_may t s = some (decide (secP t.C s)) := by
  unfold ownP at h
  unfold task_may
  simp only [fk_if, decide_eq_true_eq]
  repeat' split
  · rw [wr_in _ (by omega)]
    exact dec_iff (by unfold secP; omega)
  all_goals exact dec_f (by unfold secP; omega)

theorem task_fits_eq (C : Int) (a b : Sec) (hC : C ≤ 200) (ha : secP C a) (hb : secP C b) : task_fits a b = some (decide (fitsP a b)) := by
  unfold secP at ha hb
  unfold task_fits
  rw [wr_in _ (by omega), wr_in _ (by omega)]
  simp only [fk_if, decide_eq_true_eq]
  repeat' split
  · exact dec_t (by unfold fitsP; omega)
  · exact dec_f (by unfold fitsP; omega)
  · exact dec_not (by unfold fitsP; omega)
  · exact dec_f (by unfold fitsP; omega)

theorem task_Right_eq (t : Task) : task_Right t = some (right t) := by
  unfold task_Right
  rw [bnd_eq (task_own_eq t)]
  by_cases ho : ownP t
  rotate_left
  · simp [ho, right, RightP, fk_if]
  simp only [ho, decide_true, Bool.not_true, fk_f]
  have hlen : t.Secs.length ≤ 4 := ho.2.2.2.2
  have hC : t.C ≤ 200 := by unfold ownP at ho; omega
  refine lp_up t.Secs.length (by unfold FU; omega) (fun k => (∀ j (h : j < t.Secs.length), j < k → secP t.C t.Secs[j]) ∧ (∀ i j (hi : i < t.Secs.length) (hj : j < t.Secs.length), i < j → j < k → fitsP t.Secs[i] t.Secs[j])) ⟨fun j _ h => by omega, fun i j _ _ _ h => by omega⟩ ?_
  rintro nx k hk ⟨J1, J2⟩ hnx
  rw [lt_nat]
  by_cases h : k < t.Secs.length
  · rw [decide_eq_true h, fk_t, ix_lt h, bnd_eq (task_may_eq t _ ho)]
    by_cases hs : secP t.C t.Secs[k]
    rotate_left
    · have : right t = false := decide_eq_false fun hr => hs (hr.2.1 _ (List.getElem_mem h))
      simp [hs, this, fk_if]
    simp only [hs, decide_true, Bool.not_true, fk_f]
    rw [ck_t (by simp; omega)]
    have e : (t.Secs.take (k : Int).toNat).drop (0 : Int).toNat = t.Secs.take k := by simp
    rw [e]
    have el : (t.Secs.take k).length = k := by simp; omega
    refine lp_up k (by unfold FU; omega) (fun j => ∀ i (hi : i < t.Secs.length), i < j → fitsP t.Secs[i] t.Secs[k]) (fun i _ h => by omega) ?_
    intro nx2 j hj J3 hnx2
    rw [el, lt_nat]
    by_cases h2 : j < k
    · have hjl : j < t.Secs.length := by omega
      rw [decide_eq_true h2, fk_t, ix_lt (by omega), List.getElem_take, bnd_eq (task_fits_eq t.C _ _ hC (J1 j hjl h2) hs)]
      by_cases hf : fitsP t.Secs[j] t.Secs[k]
      · rw [decide_eq_true hf, fk_t, wr_succ j k h2 (by omega)]
        refine hnx2 h2 fun i hi hij => ?_
        by_cases e : i = j
        · subst e; exact hf
        · exact J3 i hi (by omega)
      · have : right t = false := decide_eq_false fun hr => hf (List.pairwise_iff_getElem.1 hr.2.2 j k hjl h h2)
        rw [decide_eq_false hf, fk_f, this]; rfl
    · have hjk : j = k := by omega
      subst hjk
      rw [decide_eq_false h2, fk_f, wr_succ j _ h (by omega)]
      refine hnx h ⟨fun i hi hij => ?_, fun a b ha hb hab hbj => ?_⟩
      · by_cases e : i = j
        · subst e; exact hs
        · exact J1 i hi (by omega)
      · by_cases e : b = j
        · subst e; exact J3 a ha hab
        · exact J2 a b ha hb hab (by omega)
  · have hk2 : k = t.Secs.length := by omega
    rw [decide_eq_false h, fk_f]
    have : right t = true := decide_eq_true ⟨ho, fun s hs => by
      obtain ⟨j, hj, rfl⟩ := List.getElem_of_mem hs
      exact J1 j hj (by omega), List.pairwise_iff_getElem.2 fun i j hi hj hij => J2 i j hi hj hij (by omega)⟩
    rw [this]
    unfold ownP at ho
    simp; omega


def AllP (l : List Task) : Prop := (∀ t ∈ l, RightP t) ∧ l.length ≤ 8
instance (l : List Task) : Decidable (AllP l) := by unfold AllP; infer_instance
theorem right_t {t : Task} : right t = true ↔ RightP t := decide_eq_true_iff
theorem right_f {t : Task} : right t = false ↔ ¬ RightP t := decide_eq_false_iff_not

theorem task_All_eq (l : List Task) (hl : l.length ≤ 4611686018427387904) : task_All l = some (decide (AllP l)) := by
  unfold task_All
  refine lp_up l.length (by unfold FU; omega) (fun k => ∀ j (h : j < l.length), j < k → RightP l[j]) (fun j _ h => by omega) ?_
  intro nx k hk J hnx
  rw [lt_nat]
  by_cases h : k < l.length
  · rw [decide_eq_true h, fk_t, ix_lt h, bnd_eq (task_Right_eq _)]
    by_cases hr : RightP l[k]
    · rw [right_t.2 hr, Bool.not_true, fk_f, wr_succ k _ h hl]
      refine hnx h fun j hj hjk => ?_
      by_cases e : j = k
      · subst e; exact hr
      · exact J j hj (by omega)
    · rw [right_f.2 hr, Bool.not_false, fk_t]
      exact dec_f fun ha => hr (ha.1 _ (List.getElem_mem h))
  · rw [decide_eq_false h, fk_f]
    refine dec_iff ⟨fun h8 => ⟨fun t ht => ?_, by omega⟩, fun ha => by have := ha.2; omega⟩
    obtain ⟨j, hj, rfl⟩ := List.getElem_of_mem ht
    exact J j hj (by omega)

def holds (had : Int) (s : Sec) : Bool := decide (s.At < had) && decide (had < s.At + s.Len)
def heldL (had : Int) (l : List Sec) : List Int := (l.filter (holds had)).map (·.Res)
def held (t : Task) (had : Int) : List Int := if right t = true then heldL had t.Secs else []
theorem heldL_succ (had : Int) (l : List Sec) (i : Nat) (h : i < l.length) : heldL had (l.take (i + 1)) = heldL had (l.take i) ++ (if holds had l[i] = true then [l[i].Res] else []) := by
  rw [← List.take_append_getElem h, heldL, heldL, List.filter_append, List.map_append]
  congr 1
  by_cases e : holds had l[i] = true
  · rw [if_pos e, List.filter_cons_of_pos e]; rfl
  · rw [if_neg e, List.filter_cons_of_neg e]; rfl
theorem heldL_len (had : Int) (l : List Sec) : (heldL had l).length ≤ l.length := by
  rw [heldL, List.length_map]; exact List.length_filter_le _ _
theorem RightP.sec {t : Task} (h : RightP t) {k : Nat} (hk : k < t.Secs.length) : secP t.C t.Secs[k] := h.2.1 _ (List.getElem_mem hk)
theorem RightP.len {t : Task} (h : RightP t) : t.Secs.length ≤ 4 := h.1.2.2.2.2
theorem RightP.c {t : Task} (h : RightP t) : 1 ≤ t.C ∧ t.C ≤ t.D ∧ t.D ≤ t.T ∧ t.T ≤ 200 := ⟨h.1.1, h.1.2.1, h.1.2.2.1, h.1.2.2.2.1⟩

def usesP (t : Task) (res : Int) : Prop := RightP t ∧ ∃ s ∈ t.Secs, s.Res = res
instance (t : Task) (res : Int) : Decidable (usesP t res) := by unfold usesP; infer_instance
theorem task_Uses_eq (t : Task) (res : Int) : task_Uses t res = some (decide (usesP t res)) := by
  unfold task_Uses
  rw [bnd_eq (task_Right_eq _)]
  by_cases hr : RightP t
  rotate_left
  · rw [right_f.2 hr, Bool.not_false, fk_t]; exact dec_f fun h => hr h.1
  have hl := hr.len
  rw [right_t.2 hr, Bool.not_true, fk_f]
  refine lp_up t.Secs.length (by unfold FU; omega) (fun k => ∀ j (h : j < t.Secs.length), j < k → t.Secs[j].Res ≠ res) (fun j _ h => by omega) ?_
  intro nx k hk J hnx
  rw [lt_nat]
  by_cases h : k < t.Secs.length
  · rw [decide_eq_true h, fk_t, ix_lt h]
    by_cases e : t.Secs[k].Res = res
    · rw [decide_eq_true e, fk_t]; exact dec_t ⟨hr, _, List.getElem_mem h, e⟩
    · rw [decide_eq_false e, fk_f, wr_succ k _ h (by omega)]
      refine hnx h fun j hj hjk => ?_
      by_cases e2 : j = k
      · subst e2; exact e
      · exact J j hj (by omega)
  · rw [decide_eq_false h, fk_f]
    refine dec_f ?_
    rintro ⟨_, s, hs, e⟩
    obtain ⟨j, hj, rfl⟩ := List.getElem_of_mem hs
    exact J j hj (by omega) e


theorem ref05_Right_eq (t : Task) (hlt : t.Secs.length ≤ 4611686018427387904) : ref05_Right t = some (right t) := by
  unfold ref05_Right
  simp only [jn_eq, fk_t, fk_f]
  by_cases ho : ownP t
  rotate_left
  · have hr : right t = false := right_f.2 fun h => ho h.1
    by_cases c0 : t.C < 1
    · rw [decide_eq_true c0, fk_t, hr]
    rw [decide_eq_false c0, fk_f]
    by_cases c1 : t.D < t.C
    · rw [decide_eq_true c1, fk_t, hr]
    rw [decide_eq_false c1, fk_f]
    by_cases c2 : t.T < t.D
    · rw [decide_eq_true c2, fk_t, hr]
    rw [decide_eq_false c2, fk_f]
    by_cases c3 : t.T > 200
    · rw [decide_eq_true c3, fk_t, hr]
    rw [decide_eq_false c3, fk_f]
    by_cases c4 : (t.Secs.length : Int) > 4
    · rw [decide_eq_true c4, fk_t, hr]
    rw [decide_eq_false c4, fk_f]
    exact absurd (by unfold ownP; omega) ho
  have ho' := ho
  unfold ownP at ho'
  rw [decide_eq_false (by omega), fk_f, decide_eq_false (by omega), fk_f, decide_eq_false (by omega), fk_f, decide_eq_false (by omega), fk_f, decide_eq_false (by omega), fk_f]
  refine lp_up t.Secs.length (by unfold FU; omega) (fun k => (∀ j (h : j < t.Secs.length), j < k → secP t.C t.Secs[j]) ∧ (∀ i j (hi : i < t.Secs.length) (hj : j < t.Secs.length), i < j → j < k → fitsP t.Secs[i] t.Secs[j])) ⟨fun j _ h => by omega, fun i j _ _ _ h => by omega⟩ ?_
  rintro nx k hk ⟨J1, J2⟩ hnx
  rw [lt_nat]
  by_cases h : k < t.Secs.length
  rotate_left
  · rw [decide_eq_false h, fk_f]
    have : right t = true := right_t.2 ⟨ho, fun s hs => by
      obtain ⟨j, hj, rfl⟩ := List.getElem_of_mem hs
      exact J1 j hj (by omega), List.pairwise_iff_getElem.2 fun i j hi hj hij => J2 i j hi hj hij (by omega)⟩
    rw [this]
  rw [decide_eq_true h, fk_t, ix_lt h]
  have hn := hnx h
  clear hnx
  generalize hs : t.Secs[k] = s at *
  by_cases hsec : secP t.C s
  rotate_left
  · have hr : right t = false := right_f.2 fun hr => hsec (hs ▸ hr.2.1 _ (List.getElem_mem h))
    by_cases c0 : s.Res < 0
    · rw [decide_eq_true c0, fk_t, hr]
    rw [decide_eq_false c0, fk_f]
    by_cases c1 : s.Res > 3
    · rw [decide_eq_true c1, fk_t, hr]
    rw [decide_eq_false c1, fk_f]
    by_cases c2 : s.At < 0
    · rw [decide_eq_true c2, fk_t, hr]
    rw [decide_eq_false c2, fk_f]
    by_cases c3 : s.Len < 1
    · rw [decide_eq_true c3, fk_t, hr]
    rw [decide_eq_false c3, fk_f]
    by_cases c4 : s.At > t.C
    · rw [decide_eq_true c4, fk_t, hr]
    rw [decide_eq_false c4, fk_f]
    by_cases c5 : s.Len > t.C
    · rw [decide_eq_true c5, fk_t, hr]
    rw [decide_eq_false c5, fk_f]
    have hw : wr (s.At + s.Len) = s.At + s.Len := wr_in _ (by omega)
    rw [hw]
    by_cases c6 : s.At + s.Len > t.C
    · rw [decide_eq_true c6, fk_t, hr]
    exact absurd (by unfold secP; omega) hsec
  have hsec' := hsec
  unfold secP at hsec'
  have hw : wr (s.At + s.Len) = s.At + s.Len := wr_in _ (by omega)
  rw [hw]
  rw [decide_eq_false (by omega), fk_f, decide_eq_false (by omega), fk_f, decide_eq_false (by omega), fk_f, decide_eq_false (by omega), fk_f, decide_eq_false (by omega), fk_f, decide_eq_false (by omega), fk_f, decide_eq_false (by omega), fk_f]
  refine lp_up k (by unfold FU; omega) (fun j => ∀ i (hi : i < t.Secs.length), i < j → fitsP t.Secs[i] s) (fun i _ h => by omega) ?_
  intro nx2 j hj J3 hnx2
  rw [lt_nat]
  by_cases h2 : j < k
  rotate_left
  · have hjk : j = k := by omega
    subst hjk
    rw [decide_eq_false h2, fk_f, wr_succ j _ h (by omega)]
    refine hn ⟨fun i hi hij => ?_, fun a b ha hb hab hbj => ?_⟩
    · by_cases e : i = j
      · subst e; rw [hs]; exact hsec
      · exact J1 i hi (by omega)
    · by_cases e : b = j
      · subst e; rw [hs]; exact J3 a ha hab
      · exact J2 a b ha hb hab (by omega)
  have hjl : j < t.Secs.length := by omega
  rw [decide_eq_true h2, fk_t, ix_lt hjl]
  have ha := J1 j hjl h2
  have good : fitsP t.Secs[j] s → nx2 (wr ((j : Int) + 1)) = some (right t) := fun hf => by
    rw [wr_succ j k h2 (by omega)]
    refine hnx2 h2 fun i hi hij => ?_
    by_cases e : i = j
    · subst e; exact hf
    · exact J3 i hi (by omega)
  have bad : ¬ fitsP t.Secs[j] s → some false = some (right t) := fun hf => by
    rw [right_f.2 fun hr => hf (hs ▸ List.pairwise_iff_getElem.1 hr.2.2 j k hjl h h2)]
  generalize t.Secs[j] = a at *
  unfold secP at ha
  have hwa : wr (a.At + a.Len) = a.At + a.Len := wr_in _ (by omega)
  rw [hwa]
  have ticks : a.At ≤ s.At → lp (fun nx8 (v8 : Int × Int × Int) => fk (decide (v8.2.2 < s.At + s.Len)) (fk (decide (v8.2.2 < a.At + a.Len)) (nx8 (wr (v8.1 + 1), v8.2.1, wr (v8.2.2 + 1))) (nx8 (v8.1, wr (v8.2.1 + 1), wr (v8.2.2 + 1))))
      (fk (decide (v8.1 > 0)) (fk (decide (v8.2.1 > 0)) (some false) (fk (decide (a.Res = s.Res)) (some false) (nx2 (wr ((j : Int) + 1))))) (nx2 (wr ((j : Int) + 1))))) FU (0, 0, s.At) = some (right t) := by
    intro hle
    refine lp_inv (fun v => (s.At + s.Len - v.2.2).toNat) (fun v => s.At ≤ v.2.2 ∧ v.2.2 ≤ s.At + s.Len ∧ v.1 = max 0 (min v.2.2 (a.At + a.Len) - s.At) ∧ v.2.1 = v.2.2 - s.At - v.1) ?_ FU _ ⟨by simp, by simp; omega, by simp; omega, by simp⟩ (by simp only [FU]; omega)
    rintro nx8 ⟨m, o, q⟩ ⟨i1, i2, i3, i4⟩ hn8
    simp only at i1 i2 i3 i4
    by_cases c1 : q < s.At + s.Len
    · rw [decide_eq_true c1, fk_t]
      by_cases c2 : q < a.At + a.Len
      · rw [decide_eq_true c2, fk_t, wr_in (m + 1) (by omega), wr_in (q + 1) (by omega)]
        exact hn8 _ ⟨by simp only; omega, by simp only; omega, by simp only; omega, by simp only; omega⟩ (by simp only; omega)
      · rw [decide_eq_false c2, fk_f, wr_in (o + 1) (by omega), wr_in (q + 1) (by omega)]
        exact hn8 _ ⟨by simp only; omega, by simp only; omega, by simp only; omega, by simp only; omega⟩ (by simp only; omega)
    · rw [decide_eq_false c1, fk_f]
      by_cases c3 : m > 0
      · rw [decide_eq_true c3, fk_t]
        by_cases c4 : o > 0
        · rw [decide_eq_true c4, fk_t]; exact bad (by unfold fitsP; omega)
        · rw [decide_eq_false c4, fk_f]
          by_cases c5 : a.Res = s.Res
          · rw [decide_eq_true c5, fk_t]; exact bad (by unfold fitsP; omega)
          · rw [decide_eq_false c5, fk_f]; exact good (by unfold fitsP; omega)
      · rw [decide_eq_false c3, fk_f]; exact good (by unfold fitsP; omega)
  by_cases d1 : s.At < a.At
  · rw [decide_eq_true d1, fk_t]; exact bad (by unfold fitsP; omega)
  · rw [decide_eq_false d1, fk_f]
    by_cases d2 : s.At = a.At
    · rw [decide_eq_true d2, fk_t]
      by_cases d3 : s.Len > a.Len
      · rw [decide_eq_true d3, fk_t]; exact bad (by unfold fitsP; omega)
      · rw [decide_eq_false d3, fk_f]; exact ticks (by omega)
    · rw [decide_eq_false d2, fk_f]; exact ticks (by omega)


theorem eqI_sec (x y : Sec) : eqI [.i .i64 x.Res, .i .i64 x.At, .i .i64 x.Len] [.i .i64 y.Res, .i .i64 y.At, .i .i64 y.Len] = decide (x = y) := by
  unfold eqI
  rw [decide_eq_decide]
  cases x; cases y; simp

theorem ref05_All_eq (l : List Task) (hl : l.length ≤ 4611686018427387904) (hs : ∀ t ∈ l, t.Secs.length ≤ 4611686018427387904) : ref05_All l = some (decide (AllP l)) := by
  unfold ref05_All
  refine lp_upS l.length (by unfold FU; omega) (fun k n => ∃ m : Nat, n = (m : Int) ∧ m ≤ k ∧ ((m = k) ↔ ∀ j (h : j < l.length), j < k → RightP l[j])) 0 ⟨0, rfl, Nat.le_refl _, by simp⟩ ?_
  rintro nx k n hk ⟨m, rfl, hm, J⟩ hnx
  rw [lt_nat]
  by_cases h : k < l.length
  · rw [decide_eq_true h, fk_t, jn_eq, ix_lt h, bnd_eq (ref05_Right_eq _ (hs _ (List.getElem_mem h)))]
    rw [wr_succ k _ h hl, wr_in ((m : Int) + 1) (by omega)]
    by_cases hr : RightP l[k]
    · rw [right_t.2 hr, fk_t]
      refine hnx _ h ⟨m + 1, rfl, by omega, ?_⟩
      constructor
      · intro e j hj hjk
        by_cases e2 : j = k
        · subst e2; exact hr
        · exact J.1 (by omega) j hj (by omega)
      · intro ha
        have := J.2 fun j hj hjk => ha j hj (by omega)
        omega
    · rw [right_f.2 hr, fk_f]
      refine hnx _ h ⟨m, rfl, by omega, ?_⟩
      constructor
      · intro e; omega
      · intro ha; exact absurd (ha k h (by omega)) hr
  · have hkl : k = l.length := by omega
    subst hkl
    rw [decide_eq_false h, fk_f]
    have key : (m = l.length) ↔ ∀ t ∈ l, RightP t := by
      rw [J]
      constructor
      · intro ha t ht
        obtain ⟨j, hj, rfl⟩ := List.getElem_of_mem ht
        exact ha j hj hj
      · intro ha j hj _; exact ha _ (List.getElem_mem hj)
    by_cases e : m = l.length
    · rw [decide_eq_true (by omega), fk_t]
      exact dec_iff ⟨fun h8 => ⟨key.1 e, by omega⟩, fun ha => by have := ha.2; omega⟩
    · rw [decide_eq_false (by omega), fk_f]
      exact dec_f fun ha => e (key.2 ha.1)

theorem secs_eq {a b : Task} : a = b ↔ a.C = b.C ∧ a.D = b.D ∧ a.T = b.T ∧ a.Secs = b.Secs := by
  cases a; cases b; simp

def GreatP (l : List Task) : Prop := (∃ t ∈ l, 20 < t.Secs.length) ∨ 20 < l.length
instance (l : List Task) : Decidable (GreatP l) := by unfold GreatP; infer_instance
theorem law05_Great_eq (l : List Task) (hl : l.length ≤ 4611686018427387904) : law05_Great l = some (decide (GreatP l)) := by
  unfold law05_Great
  refine lp_up l.length (by unfold FU; omega) (fun k => ∀ j (h : j < l.length), j < k → l[j].Secs.length ≤ 20) (fun j _ h => by omega) ?_
  intro nx k hk J hnx
  rw [lt_nat]
  by_cases h : k < l.length
  · rw [decide_eq_true h, fk_t, ix_lt h]
    by_cases e : (l[k].Secs.length : Int) > 20
    · rw [decide_eq_true e, fk_t]; exact dec_t (.inl ⟨_, List.getElem_mem h, by omega⟩)
    · rw [decide_eq_false e, fk_f, wr_succ k _ h hl]
      refine hnx h fun j hj hjk => ?_
      by_cases e2 : j = k
      · subst e2; omega
      · exact J j hj (by omega)
  · rw [decide_eq_false h, fk_f]
    refine dec_iff ⟨fun h20 => .inr (by omega), ?_⟩
    rintro (⟨t, ht, h20⟩ | h20)
    · obtain ⟨j, hj, rfl⟩ := List.getElem_of_mem ht
      have := J j hj (by omega)
      omega
    · omega

theorem wf_len {l : List Task} {n : Nat} (h : l.length * 48 ≤ n) (hn : n ≤ BB) : l.length ≤ 4611686018427387904 := by unfold BB at hn; omega
theorem Task.wf.len {t : Task} (h : t.wf) : t.Secs.length ≤ 4611686018427387904 := by have := h.2.2.2.1; unfold BB at this; omega
theorem wfI_64 {n : Int} (h : wfI .i64 n) : -9223372036854775808 ≤ n ∧ n ≤ 9223372036854775807 := by
  unfold wfI at h
  simp only [Lit.wf, Bool.and_eq_true, decide_eq_true_eq] at h
  have h1 : IntKind.i64.min = -9223372036854775808 := rfl
  have h2 : IntKind.i64.max = 9223372036854775807 := rfl
  rwa [h1, h2] at h
theorem wfI_8 {n : Int} (h : wfI .u8 n) : 0 ≤ n ∧ n ≤ 255 := by
  unfold wfI at h
  simp only [Lit.wf, Bool.and_eq_true, decide_eq_true_eq] at h
  have h1 : IntKind.u8.min = 0 := rfl
  have h2 : IntKind.u8.max = 255 := rfl
  rwa [h1, h2] at h


theorem held_right {t : Task} (h : RightP t) (had : Int) : held t had = heldL had t.Secs := by rw [held, right_t.2 h, if_pos rfl]
theorem held_len (t : Task) (had : Int) (h : RightP t) : (held t had).length ≤ 4 := by
  rw [held_right h]; exact Nat.le_trans (heldL_len _ _) h.len
theorem holds_iff {had : Int} {s : Sec} : holds had s = true ↔ s.At < had ∧ had < s.At + s.Len := by
  unfold holds; simp
theorem held_nodup {t : Task} (h : RightP t) (had : Int) : (held t had).Nodup := by
  rw [held_right h, heldL, List.Nodup, List.pairwise_map]
  have hp := (h.2.2).filter (holds had)
  refine hp.imp_of_mem ?_
  intro a b ha hb hf
  have h1 := holds_iff.1 (List.mem_filter.1 ha).2
  have h2 := holds_iff.1 (List.mem_filter.1 hb).2
  unfold fitsP at hf
  omega
theorem held_mem {t : Task} (h : RightP t) {had r : Int} (hr : r ∈ held t had) : ∃ s ∈ t.Secs, s.Res = r ∧ s.At < had ∧ had < s.At + s.Len := by
  rw [held_right h, heldL] at hr
  obtain ⟨s, hs, rfl⟩ := List.mem_map.1 hr
  obtain ⟨h1, h2⟩ := List.mem_filter.1 hs
  exact ⟨s, h1, rfl, holds_iff.1 h2⟩
theorem held_uses {t : Task} (h : RightP t) {had r : Int} (hr : r ∈ held t had) : usesP t r := by
  obtain ⟨s, hs, e, _⟩ := held_mem h hr
  exact ⟨h, s, hs, e⟩
theorem held_out {t : Task} (h : RightP t) {had : Int} (ho : had ≤ 0 ∨ t.C ≤ had) : held t had = [] := by
  rw [List.eq_nil_iff_forall_not_mem]
  intro r hr
  obtain ⟨s, hs, e, h1, h2⟩ := held_mem h hr
  have := h.2.1 s hs
  unfold secP at this
  omega

theorem idx_u8 {l : List Task} {a : Int} (ha : wfI .u8 a) (hl : l.length ≤ 4611686018427387904) (h0 : l.length ≠ 0) : 0 ≤ (IntKind.i64.wrap a).tmod (l.length : Int) ∧ ((IntKind.i64.wrap a).tmod (l.length : Int)).toNat < l.length := by
  have := wfI_8 ha
  have e : IntKind.i64.wrap a = a := wr_in a (by omega)
  rw [e, Int.tmod_eq_emod_of_nonneg (by omega)]
  have h1 := Int.emod_nonneg a (b := (l.length : Int)) (by omega)
  have h2 := Int.emod_lt_of_pos a (b := (l.length : Int)) (by omega)
  omega
theorem knows_if (b : Bool) : fk b (some true) (some true) = some true := by cases b <;> rfl


/-! ### Levels -/
def maxL {α : Type} (f : α → Nat) : List α → Nat
  | [] => 0
  | x :: r => max (f x) (maxL f r)
theorem maxL_append {α : Type} (f : α → Nat) (a b : List α) : maxL f (a ++ b) = max (maxL f a) (maxL f b) := by
  induction a with
  | nil => simp [maxL]
  | cons x r ih => simp only [List.cons_append, maxL, ih]; omega
theorem maxL_le {α : Type} {f : α → Nat} {l : List α} {n : Nat} : maxL f l ≤ n ↔ ∀ x ∈ l, f x ≤ n := by
  induction l with
  | nil => simp [maxL]
  | cons x r ih => simp only [maxL, List.mem_cons, forall_eq_or_imp, ← ih]; omega
theorem le_maxL {α : Type} {f : α → Nat} {l : List α} {x : α} (h : x ∈ l) : f x ≤ maxL f l := maxL_le.1 (Nat.le_refl _) x h
theorem maxL_succ {α : Type} (f : α → Nat) (l : List α) (k : Nat) (h : k < l.length) : maxL f (l.take (k + 1)) = max (maxL f (l.take k)) (f l[k]) := by
  rw [← List.take_append_getElem h, maxL_append]; simp [maxL]
theorem maxL_zero {α : Type} {f : α → Nat} {l : List α} (h : ∀ x ∈ l, f x = 0) : maxL f l = 0 := Nat.le_zero.1 (maxL_le.2 fun x hx => by rw [h x hx]; exact Nat.le_refl _)
theorem maxL_perm {α : Type} {f : α → Nat} {a b : List α} (h : ∀ x, x ∈ a ↔ x ∈ b) : maxL f a = maxL f b :=
  Nat.le_antisymm (maxL_le.2 fun x hx => le_maxL ((h x).1 hx)) (maxL_le.2 fun x hx => le_maxL ((h x).2 hx))
theorem max_int (a b : Nat) : (if (a : Int) > (b : Int) then (a : Int) else (b : Int)) = ((max b a : Nat) : Int) := by split <;> omega

def levelN (l : List Task) (D : Int) : Nat := 1 + l.countP (fun x => decide (x.D > D))
theorem countP_succ {α : Type} (p : α → Bool) (l : List α) (k : Nat) (h : k < l.length) : (l.take (k + 1)).countP p = (l.take k).countP p + (if p l[k] = true then 1 else 0) := by
  rw [← List.take_append_getElem h, List.countP_append, List.countP_singleton]
def ofN (l : List Task) (i : Int) : Nat := if AllP l ∧ 0 ≤ i then (match l[i.toNat]? with | some t => levelN l t.D | none => 0) else 0
theorem ofN_lt {l : List Task} (ha : AllP l) {i : Int} (h0 : 0 ≤ i) (h : i.toNat < l.length) : ofN l i = levelN l l[i.toNat].D := by
  rw [ofN, if_pos ⟨ha, h0⟩, List.getElem?_eq_getElem h]
def ceilN (l : List Task) (res : Int) : Nat := maxL (fun t => if usesP t res then levelN l t.D else 0) l
def ceil (l : List Task) (res : Int) : Nat := if AllP l then ceilN l res else 0
def heldN (l : List Task) (h : List Int) : Nat := maxL (ceil l) h
/-! The document's. -/
theorem ref05_Uses_eq (t : Task) (res : Int) (hl : t.Secs.length ≤ 4611686018427387904) : ref05_Uses t res = some (decide (∃ s ∈ t.Secs, s.Res = res)) := by
  unfold ref05_Uses
  refine lp_upS t.Secs.length (by unfold FU; omega) (fun k n => ∃ m : Nat, n = (m : Int) ∧ m ≤ k ∧ (0 < m ↔ ∃ j, ∃ h : j < t.Secs.length, j < k ∧ t.Secs[j].Res = res)) 0 ⟨0, rfl, Nat.le_refl _, by simp⟩ ?_
  rintro nx k n hk ⟨m, rfl, hm, J⟩ hnx
  simp only [jn_eq]
  rw [lt_nat]
  by_cases h : k < t.Secs.length
  · rw [decide_eq_true h, fk_t, ix_lt h, wr_succ k _ h hl, wr_in _ (by omega)]
    by_cases c : t.Secs[k].Res = res
    · rw [decide_eq_true c, fk_t]
      exact hnx _ h ⟨m + 1, rfl, by omega, ⟨fun _ => ⟨k, h, by omega, c⟩, fun _ => by omega⟩⟩
    · rw [decide_eq_false c, fk_f]
      refine hnx _ h ⟨m, rfl, by omega, J.trans ⟨fun ⟨j, hj, hjk, e⟩ => ⟨j, hj, by omega, e⟩, fun ⟨j, hj, hjk, e⟩ => ⟨j, hj, ?_, e⟩⟩⟩
      by_cases e2 : j = k
      · subst e2; exact absurd e c
      · omega
  · rw [decide_eq_false h, fk_f]
    refine dec_iff ?_
    have : ((m : Int) > 0) ↔ 0 < m := by omega
    rw [this, J]
    constructor
    · rintro ⟨j, hj, _, e⟩; exact ⟨_, List.getElem_mem hj, e⟩
    · rintro ⟨s, hs, e⟩
      obtain ⟨j, hj, rfl⟩ := List.getElem_of_mem hs
      exact ⟨j, hj, by omega, e⟩
theorem AllP.len {l : List Task} (h : AllP l) : l.length ≤ 4611686018427387904 := by have := h.2; omega
theorem AllP.slen {l : List Task} (h : AllP l) {t : Task} (ht : t ∈ l) : t.Secs.length ≤ 4611686018427387904 := by have := (h.1 t ht).len; omega
theorem wf_ilen {l : List Int} (h : l.length * 8 ≤ BB) : l.length ≤ 4611686018427387904 := by unfold BB at h; omega


def sumI {α : Type} (f : α → Int) : List α → Int
  | [] => 0
  | x :: r => f x + sumI f r
theorem sumI_append {α : Type} (f : α → Int) (a b : List α) : sumI f (a ++ b) = sumI f a + sumI f b := by
  induction a with
  | nil => simp [sumI]
  | cons x r ih => simp only [List.cons_append, sumI, ih]; omega
theorem sumI_succ {α : Type} (f : α → Int) (l : List α) (k : Nat) (h : k < l.length) : sumI f (l.take (k + 1)) = sumI f (l.take k) + f l[k] := by
  rw [← List.take_append_getElem h, sumI_append]; simp [sumI]
theorem sumI_mono {α : Type} {f g : α → Int} : ∀ {l : List α}, (∀ x ∈ l, f x ≤ g x) → sumI f l ≤ sumI g l
  | [], _ => Int.le_refl _
  | x :: r, h => by
    have h1 := h x List.mem_cons_self
    have h2 := sumI_mono (f := f) (g := g) (l := r) fun y hy => h y (List.mem_cons_of_mem _ hy)
    simp only [sumI]; omega
theorem sumI_nonneg {α : Type} {f : α → Int} : ∀ {l : List α}, (∀ x ∈ l, 0 ≤ f x) → 0 ≤ sumI f l
  | [], _ => Int.le_refl _
  | x :: r, h => by
    have h1 := h x List.mem_cons_self
    have h2 := sumI_nonneg (f := f) (l := r) fun y hy => h y (List.mem_cons_of_mem _ hy)
    simp only [sumI]; omega
theorem sumI_bound {α : Type} {f : α → Int} {n : Int} : ∀ {l : List α}, (∀ x ∈ l, f x ≤ n) → sumI f l ≤ n * (l.length : Int)
  | [], _ => by simp [sumI]
  | x :: r, h => by
    have h1 := h x List.mem_cons_self
    have h2 := sumI_bound (f := f) (l := r) fun y hy => h y (List.mem_cons_of_mem _ hy)
    have e : n * ((x :: r).length : Int) = n + n * (r.length : Int) := by
      rw [List.length_cons, Int.natCast_add, Int.mul_add, Int.add_comm]; simp
    simp only [sumI]; omega

def inM (x : Int) : Prop := -4611686018427387903 ≤ x ∧ x ≤ 4611686018427387903
instance (x : Int) : Decidable (inM x) := by unfold inM; infer_instance
theorem arith_may_eq (l : List Int) (hl : l.length ≤ 1000) : arith_may l = some (decide (∀ x ∈ l, inM x)) := by
  unfold arith_may
  refine lp_up l.length (by unfold FU; omega) (fun k => ∀ j (h : j < l.length), j < k → inM l[j]) (fun j _ h => by omega) ?_
  intro nx k hk J hnx
  simp only [jn_eq]
  rw [lt_nat]
  by_cases h : k < l.length
  · rw [decide_eq_true h, fk_t, ix_lt h, wr_succ k _ h (by omega), fk_t]
    have bad : ¬ inM l[k] → some false = some (decide (∀ x ∈ l, inM x)) := fun hb => dec_f fun ha => hb (ha _ (List.getElem_mem h))
    by_cases c1 : l[k] > 4611686018427387903
    · rw [decide_eq_true c1, fk_t]; exact bad fun hh => by unfold inM at hh; omega
    rw [decide_eq_false c1, fk_f]
    by_cases c2 : l[k] < -4611686018427387903
    · rw [decide_eq_true c2, fk_t]; exact bad fun hh => by unfold inM at hh; omega
    rw [decide_eq_false c2, fk_f]
    refine hnx h fun j hj hjk => ?_
    by_cases e : j = k
    · subst e; unfold inM; omega
    · exact J j hj (by omega)
  · rw [decide_eq_false h, fk_f]
    refine dec_t fun x hx => ?_
    obtain ⟨j, hj, rfl⟩ := List.getElem_of_mem hx
    exact J j hj (by omega)
theorem arith_may2 (a b : Int) : arith_may [a, b] = some (decide (inM a ∧ inM b)) := by
  rw [arith_may_eq _ (by simp)]; refine dec_iff ?_; simp
theorem arith_may1 (a : Int) : arith_may [a] = some (decide (inM a)) := by
  rw [arith_may_eq _ (by simp)]; refine dec_iff ?_; simp
theorem arith_Floor_eq (a b : Int) (ha : 0 ≤ a) (ha2 : a ≤ 4611686018427387903) (hb : 1 ≤ b) (hb2 : b ≤ 200) : arith_Floor a b = some (a / b, 0) := by
  unfold arith_Floor
  simp only [jn_eq, fk_t]
  have hq0 : 0 ≤ a / b := Int.ediv_nonneg ha (by omega)
  have hq1 : a / b ≤ a := Int.ediv_le_self _ ha
  rw [bnd_eq (arith_may2 a b), decide_eq_true ⟨by unfold inM; omega, by unfold inM; omega⟩, Bool.not_true, fk_f, decide_eq_false (by omega : ¬ b < 1), fk_f, ck_t (by simp; omega), ck_t (by simp; omega)]
  rw [Int.tmod_eq_emod_of_nonneg ha, Int.tdiv_eq_ediv_of_nonneg ha]
  have := Int.emod_nonneg a (b := b) (by omega)
  rw [decide_eq_false (by omega), fk_f, wr_in _ (by omega)]
def jobsN (t : Task) (k : Int) : Int := if k < t.D then 0 else (k - t.D) / t.T + 1
theorem jobsN_b {t : Task} (h : RightP t) {k : Int} (h0 : 0 ≤ k) : 0 ≤ jobsN t k ∧ jobsN t k ≤ k := by
  have hc := h.c
  unfold jobsN
  by_cases c : k < t.D
  · rw [if_pos c]; omega
  · rw [if_neg c]
    have h1 := Int.ediv_nonneg (a := k - t.D) (b := t.T) (by omega) (by omega)
    have h2 := Int.ediv_le_self (a := k - t.D) t.T (by omega)
    omega
theorem demand_jobs_eq (t : Task) (k : Int) (h : RightP t) (h0 : 0 ≤ k) (h1 : k ≤ 4611686018427387903) : demand_jobs t k = some (jobsN t k) := by
  have hc := h.c
  have hj := jobsN_b h h0
  unfold demand_jobs
  unfold jobsN at *
  by_cases c : k < t.D
  · rw [decide_eq_true c, fk_t, if_pos c]
  · rw [if_neg c] at *
    rw [decide_eq_false c, fk_f, wr_in (k - t.D) (by omega), bnd_eq (arith_Floor_eq _ _ (by omega) (by omega) (by omega) (by omega)), wr_in _ (by simp only; omega)]
theorem arith_Mul_eq (a b : Int) (ha : 1 ≤ a) (ha2 : a ≤ 200) (hb : 0 ≤ b) (hb2 : b ≤ 4611686018427387903) : arith_Mul a b = some (if a * b ≤ 4611686018427387903 then a * b else 0, if a * b ≤ 4611686018427387903 then 0 else 5) := by
  unfold arith_Mul
  simp only [jn_eq, fk_t]
  rw [bnd_eq (arith_may2 a b), decide_eq_true ⟨by unfold inM; omega, by unfold inM; omega⟩, Bool.not_true, fk_f, decide_eq_false (by omega : ¬ a = 0), fk_f]
  by_cases c : b = 0
  · subst c; rw [decide_eq_true rfl, fk_t]; simp
  rw [decide_eq_false c, fk_f]
  have e1 : IntKind.i64.wrap (0 - b) = 0 - b := wr_in _ (by omega)
  have e2 : IntKind.i64.wrap (0 - a) = 0 - a := wr_in _ (by omega)
  rw [e1, e2, if_neg (by omega : ¬ (0 - b > b)), if_neg (by omega : ¬ (0 - a > a)), ck_t (by simp; omega), Int.tdiv_eq_ediv_of_nonneg (by decide)]
  have hq : (4611686018427387903 : Int) / b ≤ 4611686018427387903 := Int.ediv_le_self _ (by decide)
  have hq0 : 0 ≤ (4611686018427387903 : Int) / b := Int.ediv_nonneg (by decide) hb
  rw [wr_in _ (by omega)]
  have key : a > (4611686018427387903 : Int) / b ↔ ¬ a * b ≤ 4611686018427387903 := by
    rw [← Int.le_ediv_iff_mul_le (by omega)]; omega
  by_cases d : a * b ≤ 4611686018427387903
  · have : 0 ≤ a * b := Int.mul_nonneg (by omega) hb
    rw [decide_eq_false (fun h => key.1 h d), fk_f, if_pos d, if_pos d, wr_in _ (by omega)]
  · rw [decide_eq_true (key.2 d), fk_t, if_neg d, if_neg d]
theorem arith_Add_eq (a b : Int) (ha : 0 ≤ a) (ha2 : a ≤ 4611686018427387903) (hb : 0 ≤ b) (hb2 : b ≤ 4611686018427387903) : arith_Add a b = some (if a + b ≤ 4611686018427387903 then a + b else 0, if a + b ≤ 4611686018427387903 then 0 else 5) := by
  unfold arith_Add
  rw [bnd_eq (arith_may2 a b), decide_eq_true ⟨by unfold inM; omega, by unfold inM; omega⟩, Bool.not_true, fk_f, wr_in _ (by omega), bnd_eq (arith_may1 _)]
  by_cases d : a + b ≤ 4611686018427387903
  · rw [decide_eq_true (by unfold inM; omega), Bool.not_true, fk_f, if_pos d, if_pos d]
  · rw [decide_eq_false (by unfold inM; omega), Bool.not_false, fk_t, if_neg d, if_neg d]
def costN (k : Int) (t : Task) : Int := t.C * jobsN t k
def sumB (l : List Task) (k : Int) : Int := sumI (costN k) l
theorem costN_nonneg {t : Task} (h : RightP t) {k : Int} (h0 : 0 ≤ k) : 0 ≤ costN k t := Int.mul_nonneg (by have := h.c; omega) (jobsN_b h h0).1
theorem costN_le {t : Task} (h : RightP t) {k : Int} (h0 : 0 ≤ k) : costN k t ≤ 200 * k := by
  have hc := h.c
  have hj := jobsN_b h h0
  exact Int.mul_le_mul (by omega) hj.2 hj.1 (by omega)
def askP (l : List Task) (k : Int) : Prop := AllP l ∧ 0 ≤ k ∧ k ≤ 4611686018427387903
instance (l : List Task) (k : Int) : Decidable (askP l k) := by unfold askP; infer_instance
theorem demand_Bound_eq (l : List Task) (k : Int) (hl : l.length ≤ 4611686018427387904) : demand_Bound l k = some (if askP l k ∧ sumB l k ≤ 4611686018427387903 then sumB l k else 0, if askP l k then (if sumB l k ≤ 4611686018427387903 then 0 else 5) else 1) := by
  unfold demand_Bound
  simp only [jn_eq, fk_t]
  rw [bnd_eq (task_All_eq l hl)]
  have no : ¬ askP l k → some ((0 : Int), (1 : Int)) = some (if askP l k ∧ sumB l k ≤ 4611686018427387903 then sumB l k else 0, if askP l k then (if sumB l k ≤ 4611686018427387903 then (0 : Int) else 5) else 1) := fun h => by
    rw [if_neg (fun h2 => h h2.1), if_neg h]
  by_cases ha : AllP l
  rotate_left
  · rw [decide_eq_false ha, Bool.not_false, fk_t]; exact no fun h => ha h.1
  rw [decide_eq_true ha, Bool.not_true, fk_f]
  by_cases c1 : k < 0
  · rw [decide_eq_true c1, fk_t]; exact no fun h => by have := h.2.1; omega
  rw [decide_eq_false c1, fk_f]
  by_cases c2 : k > 4611686018427387903
  · rw [decide_eq_true c2, fk_t]; exact no fun h => by have := h.2.2; omega
  rw [decide_eq_false c2, fk_f]
  have hask : askP l k := ⟨ha, by omega, by omega⟩
  rw [if_pos hask]
  refine lp_inv (fun v => l.length - v.2.2.toNat) (fun v => ∃ i : Nat, v.2.2 = (i : Int) ∧ i ≤ l.length ∧ 0 ≤ v.1 ∧ v.1 ≤ 4611686018427387903 ∧ 0 ≤ sumI (costN k) (l.take i) ∧ ((v.2.1 = 0 ∧ v.1 = sumI (costN k) (l.take i)) ∨ (v.2.1 = 5 ∧ sumI (costN k) (l.take i) > 4611686018427387903))) ?_ FU _ ⟨0, rfl, Nat.zero_le _, by decide, by decide, by simp [sumI], .inl ⟨rfl, by simp [sumI]⟩⟩ (by show l.length - 0 < FU; unfold FU; omega)
  rintro nx ⟨w, s, iv⟩ ⟨i, hi, hil, hw0, hw1, hS0, J⟩ hnx
  simp only at hi hw0 hw1 J
  subst hi
  simp only
  rw [lt_nat]
  by_cases h : i < l.length
  · have hr := ha.1 _ (List.getElem_mem h)
    have hcc := hr.c
    have hj := jobsN_b hr (k := k) (by omega)
    have hcn := costN_nonneg hr (k := k) (by omega)
    have hS := sumI_succ (costN k) l i h
    have hce : costN k l[i] = l[i].C * jobsN l[i] k := rfl
    rw [decide_eq_true h, fk_t, ix_lt h, bnd_eq (demand_jobs_eq _ _ hr (by omega) (by omega)), bnd_eq (arith_Mul_eq _ _ hcc.1 (by omega) hj.1 (by omega)), wr_succ i _ h hl]
    rw [← hce]
    by_cases c3 : costN k l[i] ≤ 4611686018427387903
    · rw [if_pos c3, if_pos c3, bnd_eq (arith_Add_eq w (costN k l[i]) hw0 hw1 hcn c3), decide_eq_true rfl, Bool.not_true, fk_f]
      by_cases c4 : w + costN k l[i] ≤ 4611686018427387903
      · rw [if_pos c4, if_pos c4, decide_eq_true rfl, Bool.not_true, fk_f]
        refine hnx _ ⟨i + 1, rfl, h, by simp only; omega, by simp only; omega, by omega, ?_⟩ (by simp only [Int.toNat_natCast]; omega)
        rcases J with ⟨j1, j2⟩ | ⟨j1, j2⟩
        · exact .inl ⟨j1, by simp only; omega⟩
        · exact .inr ⟨j1, by omega⟩
      · rw [if_neg c4, if_neg c4, show decide ((5 : Int) = 0) = false from rfl, Bool.not_false, fk_t]
        refine hnx _ ⟨i + 1, rfl, h, hw0, hw1, by omega, .inr ⟨rfl, ?_⟩⟩ (by simp only [Int.toNat_natCast]; omega)
        rcases J with ⟨j1, j2⟩ | ⟨j1, j2⟩ <;> omega
    · rw [if_neg c3, if_neg c3, bnd_eq (arith_Add_eq w 0 hw0 hw1 (by decide) (by decide)), show decide ((5 : Int) = 0) = false from rfl, Bool.not_false, fk_t]
      refine hnx _ ⟨i + 1, rfl, h, hw0, hw1, by omega, .inr ⟨rfl, ?_⟩⟩ (by simp only [Int.toNat_natCast]; omega)
      rcases J with ⟨j1, j2⟩ | ⟨j1, j2⟩ <;> omega
  · rw [decide_eq_false h, fk_f]
    have : i = l.length := by omega
    subst this
    rw [List.take_length] at J hS0
    have hsB : sumB l k = sumI (costN k) l := rfl
    rcases J with ⟨j1, j2⟩ | ⟨j1, j2⟩
    · rw [j1, decide_eq_true rfl, Bool.not_true, fk_f, if_pos ⟨hask, by omega⟩, if_pos (by omega), j2]; rfl
    · rw [j1, show decide ((5 : Int) = 0) = false from rfl, Bool.not_false, fk_t, if_neg (by omega), if_neg (by omega)]
theorem sumB_le {l : List Task} (ha : AllP l) {k : Int} (h0 : 0 ≤ k) : sumB l k ≤ 1600 * k := by
  have h := sumI_bound (f := costN k) (l := l) fun x hx => costN_le (ha.1 x hx) h0
  have h2 : 200 * k * (l.length : Int) ≤ 200 * k * 8 := Int.mul_le_mul_of_nonneg_left (by have := ha.2; omega) (by omega)
  unfold sumB
  omega
theorem sumB_nonneg {l : List Task} (ha : AllP l) {k : Int} (h0 : 0 ≤ k) : 0 ≤ sumB l k := sumI_nonneg fun x hx => costN_nonneg (ha.1 x hx) h0
theorem demand_Bound_small (l : List Task) (k : Int) (ha : AllP l) (h0 : 0 ≤ k) (h1 : k ≤ 2199023255552) : demand_Bound l k = some (sumB l k, 0) := by
  have hb := sumB_le ha h0
  have hk : askP l k := ⟨ha, h0, by omega⟩
  rw [demand_Bound_eq l k (by have := ha.2; omega), if_pos ⟨hk, by omega⟩, if_pos hk, if_pos (by omega)]
theorem jobsN_is {t : Task} (h : RightP t) {k n : Int} (hn : 0 ≤ n) (h1 : k < t.D + t.T * n) (h2 : n = 0 ∨ t.D + t.T * (n - 1) ≤ k) : jobsN t k = n := by
  have hc := h.c
  unfold jobsN
  by_cases c : k < t.D
  · rw [if_pos c]
    rcases h2 with h2 | h2
    · exact h2.symm
    · by_cases z : n = 0
      · exact z.symm
      · have := Int.mul_nonneg (a := t.T) (b := n - 1) (by omega) (by omega)
        omega
  · rw [if_neg c]
    have hz : n ≠ 0 := by rintro rfl; simp at h1; omega
    have e : (k - t.D) / t.T = n - 1 := by
      have a1 : n - 1 ≤ (k - t.D) / t.T := (Int.le_ediv_iff_mul_le (by omega)).2 (by rw [Int.mul_comm]; omega)
      have a2 : (k - t.D) / t.T < n := Int.ediv_lt_of_lt_mul (by omega) (by rw [Int.mul_comm]; omega)
      omega
    omega


theorem ref07_Bound_eq (l : List Task) (k : Int) (ha : AllP l) (h0 : 0 ≤ k) (h1 : k ≤ 5000) : ref07_Bound l k = some (sumB l k) := by
  unfold ref07_Bound
  have hl := ha.2
  refine lp_upS l.length (by unfold FU; omega) (fun i s => s = sumI (costN k) (l.take i)) 0 (by simp [sumI]) ?_
  rintro nx i s hi rfl hnx
  simp only
  rw [lt_nat]
  by_cases h : i < l.length
  rotate_left
  · rw [decide_eq_false h, fk_f]
    have : i = l.length := by omega
    subst this
    rw [List.take_length]; rfl
  have hr := ha.1 _ (List.getElem_mem h)
  have hc := hr.c
  have hS := sumI_succ (costN k) l i h
  have hb : 0 ≤ sumI (costN k) (l.take i) := sumI_nonneg fun x hx => costN_nonneg (ha.1 x (List.mem_of_mem_take hx)) h0
  have hb2 : sumI (costN k) (l.take i) ≤ 200 * k * ((l.take i).length : Int) := sumI_bound fun x hx => costN_le (ha.1 x (List.mem_of_mem_take hx)) h0
  have hb3 : 200 * k * ((l.take i).length : Int) ≤ 200 * k * 8 := Int.mul_le_mul_of_nonneg_left (by rw [List.length_take]; omega) (by omega)
  generalize sumI (costN k) (l.take i) = s at *
  rw [decide_eq_true h, fk_t, wr_succ i _ h (by omega)]
  simp only [ix_lt h]
  generalize l[i] = t at *
  refine lp_inv (fun v => (k + 1 - v.2).toNat) (fun v => ∃ n : Int, 0 ≤ n ∧ n ≤ 5001 ∧ v.1 = s + t.C * n ∧ v.2 = t.D + t.T * n ∧ (n = 0 ∨ t.D + t.T * (n - 1) ≤ k)) ?_ FU _ ⟨0, by decide, by decide, by simp, by simp, .inl rfl⟩ (by show (k + 1 - t.D).toNat < FU; unfold FU; omega)
  rintro nx2 ⟨a, d⟩ ⟨n, hn0, hn1, hav, hd, hnn⟩ hnx2
  simp only at hav hd
  subst hav hd
  simp only
  have m1 : t.C * n ≤ 200 * 5001 := Int.mul_le_mul (by omega) hn1 hn0 (by omega)
  have m2 : 0 ≤ t.C * n := Int.mul_nonneg (by omega) hn0
  have m3 : t.T * n ≤ 200 * 5001 := Int.mul_le_mul (by omega) hn1 hn0 (by omega)
  have m4 : 0 ≤ t.T * n := Int.mul_nonneg (by omega) hn0
  have e1 : t.C * (n + 1) = t.C * n + t.C := by rw [Int.mul_add, Int.mul_one]
  have e2 : t.T * (n + 1) = t.T * n + t.T := by rw [Int.mul_add, Int.mul_one]
  by_cases c : t.D + t.T * n ≤ k
  · rw [decide_eq_true c, fk_t, wr_in _ (by omega), wr_in _ (by omega)]
    have hnT : n ≤ t.T * n := by
      have := Int.mul_le_mul_of_nonneg_right (a := 1) (b := t.T) (c := n) (by omega) hn0
      omega
    refine hnx2 _ ⟨n + 1, by omega, by omega, by simp only; omega, by simp only; omega, .inr ?_⟩ (by simp only; omega)
    rw [show n + 1 - 1 = n from by omega]; exact c
  · rw [decide_eq_false c, fk_f]
    refine hnx _ h ?_
    rw [hS, costN, jobsN_is hr hn0 (by omega) hnn]
theorem jobsN_mono {t : Task} (h : RightP t) {k k' : Int} (h0 : 0 ≤ k) (hk : k ≤ k') : jobsN t k ≤ jobsN t k' := by
  have hc := h.c
  have hb := jobsN_b h (k := k') (by omega)
  unfold jobsN at *
  by_cases c : k < t.D
  · rw [if_pos c]; exact hb.1
  · rw [if_neg c, if_neg (by omega)]
    have := Int.ediv_le_ediv (a := k - t.D) (b := k' - t.D) (c := t.T) (by omega) (by omega)
    omega
theorem sumB_mono {l : List Task} (ha : AllP l) {k k' : Int} (h0 : 0 ≤ k) (hk : k ≤ k') : sumB l k ≤ sumB l k' :=
  sumI_mono fun x hx => Int.mul_le_mul_of_nonneg_left (jobsN_mono (ha.1 x hx) h0 hk) (by have := (ha.1 x hx).c; omega)
theorem sumB_append (a b : List Task) (k : Int) : sumB (a ++ b) k = sumB a k + sumB b k := sumI_append _ _ _
theorem jobsN_step {t : Task} (h : RightP t) {k : Int} (h0 : t.D ≤ k) : jobsN t (k + t.T) = jobsN t k + 1 := by
  have hc := h.c
  unfold jobsN
  rw [if_neg (by omega), if_neg (by omega), show k + t.T - t.D = (k - t.D) + t.T from by omega, Int.add_ediv_of_dvd_right (Int.dvd_refl _), Int.ediv_self (by omega)]
theorem jobsN_pos {t : Task} (h : RightP t) {k : Int} (h0 : t.D ≤ k) : 1 ≤ jobsN t k := by
  have hc := h.c
  unfold jobsN
  rw [if_neg (by omega)]
  have := Int.ediv_nonneg (a := k - t.D) (b := t.T) (by omega) (by omega)
  omega


/-! ### Patterns -/
/-- place j of a row keeps its distance -/
def stepP (T : Int) (r : List Int) (j : Nat) : Prop := ∀ (h : j < r.length), 0 ≤ r[j] ∧ r[j] ≤ 4611686018427387903 ∧ (0 < j → r[j - 1] + T ≤ r[j])
def rowP (T : Int) (r : List Int) : Prop := r.length ≤ 1000 ∧ ∀ j (h : j < r.length), 0 ≤ r[j] ∧ r[j] ≤ 4611686018427387903 ∧ (0 < j → r[j - 1] + T ≤ r[j])
def patP (l : List Task) (a : List (List Int)) : Prop := AllP l ∧ a.length = l.length ∧ ∀ i (h : i < a.length) (h2 : i < l.length), rowP l[i].T a[i]
noncomputable instance (l : List Task) (a : List (List Int)) : Decidable (patP l a) := Classical.propDecidable _
/-- what one row asks -/
def hitP (D s e : Int) (x : Int) : Bool := decide (s ≤ x) && decide (x + D ≤ e)
def rowV (t : Task) (s e : Int) (r : List Int) : Int := t.C * (r.countP (hitP t.D s e) : Int)
def ofV (s e : Int) : List Task → List (List Int) → Int
  | t :: l, r :: a => rowV t s e r + ofV s e l a
  | _, _ => 0
theorem ofV_append (s e : Int) : ∀ (l l2 : List Task) (a a2 : List (List Int)), l.length = a.length → ofV s e (l ++ l2) (a ++ a2) = ofV s e l a + ofV s e l2 a2
  | [], l2, [], a2, _ => by simp [ofV]
  | t :: l, l2, r :: a, a2, h => by
    have := ofV_append s e l l2 a a2 (by simpa using h)
    simp only [List.cons_append, ofV, this]; omega
theorem ofV_succ (s e : Int) (l : List Task) (a : List (List Int)) (h : a.length = l.length) (k : Nat) (hk : k < l.length) : ofV s e (l.take (k + 1)) (a.take (k + 1)) = ofV s e (l.take k) (a.take k) + rowV l[k] s e (a[k]'(by omega)) := by
  rw [← List.take_append_getElem hk, ← List.take_append_getElem (show k < a.length by omega), ofV_append _ _ _ _ _ _ (by rw [List.length_take, List.length_take, h])]
  simp [ofV]
theorem rowV_b {t : Task} {s e : Int} {r : List Int} (ht : RightP t) (h : r.length ≤ 1000) : 0 ≤ rowV t s e r ∧ rowV t s e r ≤ 200000 := by
  have hc := ht.c
  have := List.countP_le_length (p := hitP t.D s e) (l := r)
  refine ⟨Int.mul_nonneg (by omega) (by omega), Int.mul_le_mul (a := t.C) (c := 200) (b := (r.countP (hitP t.D s e) : Int)) (d := 1000) (by omega) (by omega) (by omega) (by omega)⟩
theorem ofV_b {s e : Int} : ∀ {l : List Task} {a : List (List Int)}, (∀ t ∈ l, RightP t) → (∀ r ∈ a, r.length ≤ 1000) → 0 ≤ ofV s e l a ∧ ofV s e l a ≤ 200000 * (l.length : Int)
  | [], a, _, _ => by simp [ofV]
  | t :: l, [], _, _ => by simp [ofV]; omega
  | t :: l, r :: a, h1, h2 => by
    have := rowV_b (s := s) (e := e) (h1 t List.mem_cons_self) (h2 r List.mem_cons_self)
    have := ofV_b (s := s) (e := e) (l := l) (a := a) (fun t ht => h1 t (List.mem_cons_of_mem _ ht)) (fun t ht => h2 t (List.mem_cons_of_mem _ ht))
    simp only [ofV, List.length_cons]; omega


/-! ### Blocking -/
def sharedP (l : List Task) (t res : Int) : Prop := ∃ x ∈ l, x.D ≤ t ∧ usesP x res
instance (l : List Task) (t res : Int) : Decidable (sharedP l t res) := by unfold sharedP; infer_instance
theorem block_shared_eq (l : List Task) (t res : Int) (hl : l.length ≤ 4611686018427387904) : block_shared l t res = some (decide (sharedP l t res)) := by
  unfold block_shared
  refine lp_up l.length (by unfold FU; omega) (fun k => ∀ j (h : j < l.length), j < k → ¬ (l[j].D ≤ t ∧ usesP l[j] res)) (fun j _ h => by omega) ?_
  intro nx k hk J hnx
  rw [lt_nat]
  by_cases h : k < l.length
  · simp only [jn_eq]
    rw [decide_eq_true h, fk_t, ix_lt h, bnd_eq (task_Uses_eq _ _), wr_succ k _ h hl, fk_f]
    have go : ¬ (l[k].D ≤ t ∧ usesP l[k] res) → nx ((k + 1 : Nat) : Int) = some (decide (sharedP l t res)) := fun hn => hnx h fun j hj hjk => by
      by_cases e : j = k
      · subst e; exact hn
      · exact J j hj (by omega)
    by_cases c1 : l[k].D ≤ t
    · rw [decide_eq_true c1, fk_t]
      by_cases c2 : usesP l[k] res
      · rw [decide_eq_true c2, fk_t]; exact dec_t ⟨_, List.getElem_mem h, c1, c2⟩
      · rw [decide_eq_false c2, fk_f]; exact go fun hh => c2 hh.2
    · rw [decide_eq_false c1, fk_f]; exact go fun hh => c1 hh.1
  · rw [decide_eq_false h, fk_f]
    refine dec_f ?_
    rintro ⟨x, hx, hh⟩
    obtain ⟨j, hj, rfl⟩ := List.getElem_of_mem hx
    exact J j hj (by omega) hh
def secN (l : List Task) (t : Int) (s : Sec) : Nat := if sharedP l t s.Res then s.Len.toNat else 0
def taskN (l : List Task) (t : Int) (x : Task) : Nat := if x.D ≤ t then 0 else maxL (secN l t) x.Secs
def blockV (l : List Task) (t : Int) : Nat := maxL (taskN l t) l
theorem RightP.sl {t : Task} (h : RightP t) {s : Sec} (hs : s ∈ t.Secs) : 1 ≤ s.Len ∧ s.Len ≤ 200 := by
  have h1 := h.2.1 s hs
  have h2 := h.c
  unfold secP at h1
  omega
theorem maxL_bound {α : Type} {f : α → Nat} {l : List α} {n : Nat} (h : ∀ x ∈ l, f x ≤ n) : maxL f l ≤ n := maxL_le.2 h
theorem block_Of_eq (l : List Task) (t : Int) (hl : l.length ≤ 4611686018427387904) : block_Of l t = some (if AllP l then ((blockV l t : Nat) : Int) else 0, if AllP l then 0 else 1) := by
  unfold block_Of
  rw [bnd_eq (task_All_eq l hl)]
  by_cases ha : AllP l
  rotate_left
  · rw [decide_eq_false ha, Bool.not_false, fk_t, if_neg ha, if_neg ha]
  rw [decide_eq_true ha, Bool.not_true, fk_f, if_pos ha, if_pos ha]
  refine lp_upS l.length (by unfold FU; omega) (fun k n => n = ((maxL (taskN l t) (l.take k) : Nat) : Int)) 0 rfl ?_
  rintro nx k n hk rfl hnx
  simp only [jn_eq]
  rw [lt_nat]
  by_cases h : k < l.length
  · have hm := maxL_succ (taskN l t) l k h
    have hx : l[k] ∈ l := List.getElem_mem h
    have hr := ha.1 _ hx
    have hsl := hr.len
    rw [decide_eq_true h, fk_t, ix_lt h, wr_succ k _ h hl]
    by_cases c1 : l[k].D ≤ t
    · rw [decide_eq_true c1, fk_t]
      refine hnx _ h ?_
      rw [hm, taskN, if_pos c1]; omega
    rw [decide_eq_false c1, fk_f]
    rw [taskN, if_neg c1] at hm
    generalize hA : maxL (taskN l t) (l.take k) = A at *
    refine lp_upS l[k].Secs.length (by unfold FU; omega) (fun j n => n = ((max A (maxL (secN l t) (l[k].Secs.take j)) : Nat) : Int)) _ (by simp [maxL]) ?_
    rintro nx2 j n hj rfl hnx2
    simp only
    rw [lt_nat]
    by_cases h2 : j < l[k].Secs.length
    · have hm2 := maxL_succ (secN l t) l[k].Secs j h2
      have hlen := hr.sl (List.getElem_mem h2)
      rw [decide_eq_true h2, fk_t, ix_lt h2, bnd_eq (block_shared_eq _ _ _ hl), wr_succ j _ h2 (by omega), fk_f]
      unfold secN at hm2
      by_cases c2 : l[k].Secs[j].Len > ((max A (maxL (secN l t) (l[k].Secs.take j)) : Nat) : Int)
      · rw [decide_eq_true c2, fk_t]
        by_cases c3 : sharedP l t l[k].Secs[j].Res
        · rw [decide_eq_true c3, fk_t]
          refine hnx2 _ h2 ?_
          rw [if_pos c3] at hm2
          unfold secN at c2 ⊢
          rw [hm2]; omega
        · rw [decide_eq_false c3, fk_f]
          refine hnx2 _ h2 ?_
          rw [if_neg c3] at hm2
          unfold secN
          rw [hm2]; omega
      · rw [decide_eq_false c2, fk_f]
        refine hnx2 _ h2 ?_
        unfold secN at c2 ⊢
        rw [hm2]
        split <;> omega
    · rw [decide_eq_false h2, fk_f]
      have : j = l[k].Secs.length := by omega
      rw [this, List.take_length]
      exact hnx _ h (by rw [hm])
  · rw [decide_eq_false h, fk_f]
    have : k = l.length := by omega
    rw [this, List.take_length]; rfl
theorem ref08_Of_eq (l : List Task) (t : Int) (ha : AllP l) : ref08_Of l t = some ((blockV l t : Nat) : Int) := by
  unfold ref08_Of
  have hl := ha.len
  refine lp_upS l.length (by unfold FU; omega) (fun k n => n = ((maxL (taskN l t) (l.take k) : Nat) : Int)) 0 rfl ?_
  rintro nx k n hk rfl hnx
  simp only [jn_eq]
  rw [lt_nat]
  by_cases h : k < l.length
  rotate_left
  · rw [decide_eq_false h, fk_f]
    have : k = l.length := by omega
    rw [this, List.take_length]; rfl
  have hm := maxL_succ (taskN l t) l k h
  have hx : l[k] ∈ l := List.getElem_mem h
  have hr := ha.1 _ hx
  have hsl := hr.len
  rw [decide_eq_true h, fk_t, wr_succ k _ h hl]
  generalize hA : maxL (taskN l t) (l.take k) = A at *
  have g : ∀ j, maxL (fun s => if l[k].D ≤ t then 0 else secN l t s) (l[k].Secs.take j) = if l[k].D ≤ t then 0 else maxL (secN l t) (l[k].Secs.take j) := by
    intro j
    by_cases c : l[k].D ≤ t
    · rw [if_pos c]; exact maxL_zero fun x _ => by rw [if_pos c]
    · rw [if_neg c]; congr 1; funext s; rw [if_neg c]
  refine lp_upS l[k].Secs.length (by unfold FU; omega) (fun j n => n = ((max A (maxL (fun s => if l[k].D ≤ t then 0 else secN l t s) (l[k].Secs.take j)) : Nat) : Int)) _ (by simp [maxL]) ?_
  rintro nx2 j n hj rfl hnx2
  simp only
  rw [ix_lt h, lt_nat]
  by_cases h2 : j < l[k].Secs.length
  rotate_left
  · rw [decide_eq_false h2, fk_f]
    have : j = l[k].Secs.length := by omega
    rw [this, List.take_length]
    refine hnx _ h ?_
    have := g l[k].Secs.length
    rw [List.take_length] at this
    rw [hm, this, taskN]
  have hm2 := maxL_succ (fun s => if l[k].D ≤ t then 0 else secN l t s) l[k].Secs j h2
  have hlen := hr.sl (List.getElem_mem h2)
  rw [decide_eq_true h2, fk_t, wr_succ j _ h2 (by omega)]
  generalize hB : max A (maxL (fun s => if l[k].D ≤ t then 0 else secN l t s) (l[k].Secs.take j)) = B at *
  have hn2 : ∀ m : Nat, m = max B (if l[k].D ≤ t then 0 else secN l t l[k].Secs[j]) → nx2 ((m : Int), ((j + 1 : Nat) : Int)) = some ((blockV l t : Nat) : Int) := fun m e => hnx2 _ h2 (by rw [hm2, e]; omega)
  refine lp_upS l.length (by unfold FU; omega) (fun i n => n = ((if l[k].D > t ∧ (∃ q, ∃ hq : q < l.length, q < i ∧ l[q].D ≤ t ∧ usesP l[q] l[k].Secs[j].Res) then max B l[k].Secs[j].Len.toNat else B : Nat) : Int)) _ (by rw [if_neg]; rintro ⟨_, q, _, hh, _⟩; omega) ?_
  rintro nx3 i n hi hn hnx3
  simp only
  rw [lt_nat]
  by_cases h3 : i < l.length
  rotate_left
  · rw [decide_eq_false h3, fk_f, hn]
    refine hn2 _ ?_
    have e : (∃ q, ∃ hq : q < l.length, q < i ∧ l[q].D ≤ t ∧ usesP l[q] l[k].Secs[j].Res) ↔ sharedP l t l[k].Secs[j].Res := by
      constructor
      · rintro ⟨q, hq, _, a, b⟩; exact ⟨_, List.getElem_mem hq, a, b⟩
      · rintro ⟨x, hx, a, b⟩
        obtain ⟨q, hq, rfl⟩ := List.getElem_of_mem hx
        exact ⟨q, hq, by omega, a, b⟩
    rw [secN]
    by_cases c1 : l[k].D ≤ t
    · rw [if_pos c1, if_neg (fun hh => by omega)]; omega
    · rw [if_neg c1]
      by_cases c2 : sharedP l t l[k].Secs[j].Res
      · rw [if_pos c2, if_pos ⟨by omega, e.2 c2⟩]
      · rw [if_neg c2, if_neg (fun hh => c2 (e.1 hh.2))]; omega
  have hxi : l[i] ∈ l := List.getElem_mem h3
  have hu : (∃ s ∈ l[i].Secs, s.Res = l[k].Secs[j].Res) ↔ usesP l[i] l[k].Secs[j].Res := ⟨fun e => ⟨ha.1 _ hxi, e⟩, fun e => e.2⟩
  rw [decide_eq_true h3, fk_t, wr_succ i _ h3 hl, ix_lt h, ix_lt h3, ix_lt h3, ix_lt h, ix_lt h2, bnd_eq (ref05_Uses_eq _ _ (ha.slen hxi)), decide_eq_decide.2 hu]
  simp only [ix_lt h, ix_lt h2]
  subst hn
  have keep : ¬ (l[k].D > t ∧ l[i].D ≤ t ∧ usesP l[i] l[k].Secs[j].Res) → nx3 ((((if l[k].D > t ∧ (∃ q, ∃ hq : q < l.length, q < i ∧ l[q].D ≤ t ∧ usesP l[q] l[k].Secs[j].Res) then max B l[k].Secs[j].Len.toNat else B : Nat) : Int)), ((i + 1 : Nat) : Int)) = some ((blockV l t : Nat) : Int) := by
    intro hno
    refine hnx3 _ h3 ?_
    have e : (l[k].D > t ∧ (∃ q, ∃ hq : q < l.length, q < i + 1 ∧ l[q].D ≤ t ∧ usesP l[q] l[k].Secs[j].Res)) ↔ (l[k].D > t ∧ (∃ q, ∃ hq : q < l.length, q < i ∧ l[q].D ≤ t ∧ usesP l[q] l[k].Secs[j].Res)) := by
      constructor
      · rintro ⟨a, q, hq, b, c, d⟩
        refine ⟨a, q, hq, ?_, c, d⟩
        by_cases e : q = i
        · subst e; exact absurd ⟨a, c, d⟩ hno
        · omega
      · rintro ⟨a, q, hq, b, c, d⟩; exact ⟨a, q, hq, by omega, c, d⟩
    by_cases c : (l[k].D > t ∧ (∃ q, ∃ hq : q < l.length, q < i ∧ l[q].D ≤ t ∧ usesP l[q] l[k].Secs[j].Res))
    · rw [if_pos c, if_pos (e.2 c)]
    · rw [if_neg c, if_neg (fun hh => c (e.1 hh))]
  by_cases c1 : l[k].D > t
  rotate_left
  · rw [decide_eq_false c1, fk_f, fk_f]; exact keep fun hh => c1 hh.1
  rw [decide_eq_true c1, fk_t]
  by_cases c2 : l[i].D ≤ t
  rotate_left
  · rw [decide_eq_false c2, fk_f, fk_f]; exact keep fun hh => c2 hh.2.1
  rw [decide_eq_true c2, fk_t]
  by_cases c3 : usesP l[i] l[k].Secs[j].Res
  rotate_left
  · rw [decide_eq_false c3, fk_f, fk_f]; exact keep fun hh => c3 hh.2.2
  rw [decide_eq_true c3, fk_t]
  have hnew : ∀ m : Int, m = ((max B l[k].Secs[j].Len.toNat : Nat) : Int) → nx3 (m, ((i + 1 : Nat) : Int)) = some ((blockV l t : Nat) : Int) := fun m e => hnx3 _ h3 (by rw [e, if_pos ⟨c1, i, h3, by omega, c2, c3⟩])
  by_cases c4 : (l[k].D > t ∧ (∃ q, ∃ hq : q < l.length, q < i ∧ l[q].D ≤ t ∧ usesP l[q] l[k].Secs[j].Res))
  · rw [if_pos c4]
    rw [decide_eq_false (by omega), fk_f]; exact hnew _ rfl
  · rw [if_neg c4]
    by_cases c5 : l[k].Secs[j].Len > (B : Int)
    · rw [decide_eq_true c5, fk_t]; exact hnew _ (by omega)
    · rw [decide_eq_false c5, fk_f]; exact hnew _ (by omega)

/-! Where it may change. -/
def stepL (l : List Task) : List Int := ((List.range 200).map (fun n : Nat => ((n + 1 : Nat) : Int))).filter (fun d => decide (∃ x ∈ l, x.D = d))
theorem sorted_ext : ∀ {a b : List Int}, a.Pairwise (· < ·) → b.Pairwise (· < ·) → (∀ x, x ∈ a ↔ x ∈ b) → a = b
  | [], [], _, _, _ => rfl
  | [], y :: b, _, _, h => by have := (h y).2 List.mem_cons_self; cases this
  | x :: a, [], _, _, h => by have := (h x).1 List.mem_cons_self; cases this
  | x :: a, y :: b, ha, hb, h => by
    obtain ⟨ha1, ha2⟩ := List.pairwise_cons.1 ha
    obtain ⟨hb1, hb2⟩ := List.pairwise_cons.1 hb
    have e : x = y := by
      have h1 : x = y ∨ x ∈ b := List.mem_cons.1 ((h x).1 List.mem_cons_self)
      have h2 : y = x ∨ y ∈ a := List.mem_cons.1 ((h y).2 List.mem_cons_self)
      rcases h1 with h1 | h1
      · exact h1
      · rcases h2 with h2 | h2
        · exact h2.symm
        · have := hb1 x h1; have := ha1 y h2; omega
    subst e
    rw [sorted_ext ha2 hb2 fun z => ?_]
    constructor
    · intro hz
      rcases List.mem_cons.1 ((h z).1 (List.mem_cons_of_mem _ hz)) with e | e
      · subst e; have := ha1 z hz; omega
      · exact e
    · intro hz
      rcases List.mem_cons.1 ((h z).2 (List.mem_cons_of_mem _ hz)) with e | e
      · subst e; have := hb1 z hz; omega
      · exact e
theorem stepL_sorted (l : List Task) : (stepL l).Pairwise (· < ·) := by
  unfold stepL
  refine List.Pairwise.filter _ ?_
  rw [List.pairwise_map]
  exact List.Pairwise.imp (fun h => by omega) List.pairwise_lt_range
theorem stepL_mem {l : List Task} (ha : AllP l) {d : Int} : d ∈ stepL l ↔ ∃ x ∈ l, x.D = d := by
  unfold stepL
  rw [List.mem_filter, List.mem_map, decide_eq_true_eq]
  constructor
  · exact fun h => h.2
  · rintro ⟨x, hx, rfl⟩
    have := (ha.1 x hx).c
    exact ⟨⟨(x.D - 1).toNat, by rw [List.mem_range]; omega, by omega⟩, x, hx, rfl⟩
theorem stepL_len (l : List Task) : (stepL l).length ≤ 200 := by
  unfold stepL
  refine Nat.le_trans (List.length_filter_le _ _) ?_
  simp

theorem io_t {α : Type} {l : List α} {k : Nat} (h : k < l.length) : (decide (0 ≤ (k : Int)) && decide ((k : Int) < (l.length : Int))) = true := by
  simp; omega
theorem fk_tt {α : Type} {b : Bool} (h : b = true) (x y : Option α) : fk b x y = x := by subst h; exact fk_t ..
theorem fk_ff {α : Type} {b : Bool} (h : b = false) (x y : Option α) : fk b x y = y := by subst h; exact fk_f ..
theorem sharedP_congr {l : List Task} {t t' : Int} (h : ∀ x ∈ l, x.D ≤ t ↔ x.D ≤ t') (r : Int) : sharedP l t r ↔ sharedP l t' r := by
  constructor
  · rintro ⟨x, hx, h1, h2⟩; exact ⟨x, hx, (h x hx).1 h1, h2⟩
  · rintro ⟨x, hx, h1, h2⟩; exact ⟨x, hx, (h x hx).2 h1, h2⟩
theorem maxL_congr {α : Type} {f g : α → Nat} {l : List α} (h : ∀ x ∈ l, f x = g x) : maxL f l = maxL g l :=
  Nat.le_antisymm (maxL_le.2 fun x hx => by rw [h x hx]; exact le_maxL hx) (maxL_le.2 fun x hx => by rw [← h x hx]; exact le_maxL hx)
theorem blockV_congr {l : List Task} {t t' : Int} (h : ∀ x ∈ l, x.D ≤ t ↔ x.D ≤ t') : blockV l t = blockV l t' := by
  refine maxL_congr fun x hx => ?_
  unfold taskN
  by_cases c : x.D ≤ t
  · rw [if_pos c, if_pos ((h x hx).1 c)]
  · rw [if_neg c, if_neg (fun h2 => c ((h x hx).2 h2))]
    refine maxL_congr fun s _ => ?_
    unfold secN
    simp only [sharedP_congr h]
theorem blockV_low {l : List Task} {t : Int} (h : ∀ x ∈ l, ¬ x.D ≤ t) : blockV l t = 0 := by
  refine maxL_zero fun x _ => ?_
  unfold taskN
  by_cases c : x.D ≤ t
  · rw [if_pos c]
  rw [if_neg c]
  refine maxL_zero fun s _ => ?_
  unfold secN
  rw [if_neg]
  rintro ⟨y, hy, h1, _⟩
  exact h y hy h1
theorem blockV_high {l : List Task} {t : Int} (h : ∀ x ∈ l, x.D ≤ t) : blockV l t = 0 := by
  refine maxL_zero fun x hx => ?_
  unfold taskN
  rw [if_pos (h x hx)]
theorem blockV_bare {l : List Task} {t : Int} (h : ∀ x ∈ l, x.Secs = []) : blockV l t = 0 := by
  refine maxL_zero fun x hx => ?_
  unfold taskN
  rw [h x hx]
  by_cases c : x.D ≤ t
  · rw [if_pos c]
  · rw [if_neg c]; rfl
theorem blockV_one {l : List Task} {t d : Int} (h : ∀ x ∈ l, x.D = d) : blockV l t = 0 := by
  by_cases c : d ≤ t
  · exact blockV_high fun x hx => by rw [h x hx]; exact c
  · exact blockV_low fun x hx => by rw [h x hx]; exact c
theorem maxL_hit {α : Type} {f : α → Nat} : ∀ {l : List α}, maxL f l = 0 ∨ ∃ x ∈ l, f x = maxL f l
  | [] => .inl rfl
  | x :: r => by
    rcases maxL_hit (f := f) (l := r) with h | ⟨y, hy, h⟩
    · by_cases c : f x = 0
      · exact .inl (by simp only [maxL]; omega)
      · exact .inr ⟨x, List.mem_cons_self, by simp only [maxL]; omega⟩
    · by_cases c : f x ≤ maxL f r
      · exact .inr ⟨y, List.mem_cons_of_mem _ hy, by simp only [maxL]; omega⟩
      · exact .inr ⟨x, List.mem_cons_self, by simp only [maxL]; omega⟩
theorem blockV_mono {l l' : List Task} {t : Int} (h : ∀ x ∈ l, x ∈ l') : blockV l t ≤ blockV l' t := by
  refine maxL_le.2 fun x hx => Nat.le_trans ?_ (le_maxL (h x hx))
  unfold taskN
  by_cases c : x.D ≤ t
  · rw [if_pos c]; exact Nat.zero_le _
  rw [if_neg c, if_neg c]
  refine maxL_le.2 fun s hs => Nat.le_trans ?_ (le_maxL hs)
  unfold secN
  by_cases c2 : sharedP l t s.Res
  · rw [if_pos c2, if_pos]
    · exact Nat.le_refl _
    · obtain ⟨y, hy, h1, h2⟩ := c2; exact ⟨y, h y hy, h1, h2⟩
  · rw [if_neg c2]; exact Nat.zero_le _
theorem blockV_hit {l : List Task} (ha : AllP l) {t : Int} : blockV l t = 0 ∨ ∃ x ∈ l, ∃ s ∈ x.Secs, s.Len = ((blockV l t : Nat) : Int) := by
  rcases maxL_hit (f := taskN l t) (l := l) with h | ⟨x, hx, h⟩
  · exact .inl h
  by_cases z : blockV l t = 0
  · exact .inl z
  refine .inr ⟨x, hx, ?_⟩
  have hv : taskN l t x = blockV l t := h
  unfold taskN at hv
  by_cases c : x.D ≤ t
  · rw [if_pos c] at hv; omega
  rw [if_neg c] at hv
  rcases maxL_hit (f := secN l t) (l := x.Secs) with h2 | ⟨s, hs, h2⟩
  · omega
  refine ⟨s, hs, ?_⟩
  have hl := (ha.1 x hx).sl hs
  have h3 := h2.trans hv
  unfold secN at h3
  by_cases c2 : sharedP l t s.Res
  · rw [if_pos c2] at h3; omega
  · rw [if_neg c2] at h3; omega


/-! The least supply. -/
def faceP (f : Face) : Prop := 1 ≤ f.B ∧ f.B ≤ f.P ∧ f.P ≤ 200
instance (f : Face) : Decidable (faceP f) := by unfold faceP; infer_instance
theorem supply_Right_eq (f : Face) : supply_Right f = some (decide (faceP f)) := by
  unfold supply_Right
  simp only [fk_if, decide_eq_true_eq]
  repeat' split
  all_goals first
    | exact dec_iff (by unfold faceP; omega)
    | exact dec_f (by unfold faceP; omega)
theorem ref09_Right_eq (f : Face) : ref09_Right f = some (decide (faceP f)) := by
  unfold ref09_Right
  simp only [fk_if, decide_eq_true_eq]
  repeat' split
  all_goals first
    | exact dec_iff (by unfold faceP; omega)
    | exact dec_f (by unfold faceP; omega)
def max0 (x : Int) : Int := if x > 0 then x else 0
def supV (f : Face) (t : Int) : Int := if t < f.P - f.B then 0 else ((t - (f.P - f.B)) / f.P) * f.B + max0 (t - 2 * (f.P - f.B) - ((t - (f.P - f.B)) / f.P) * f.P)
theorem supV_qr {f : Face} (hf : faceP f) {t q r : Int} (ht : t = (f.P - f.B) + q * f.P + r) (hq : 0 ≤ q) (hr : 0 ≤ r) (hr2 : r < f.P) : supV f t = q * f.B + max0 (r - (f.P - f.B)) := by
  unfold faceP at hf
  have hqP : 0 ≤ q * f.P := Int.mul_nonneg hq (by omega)
  have e : (t - (f.P - f.B)) / f.P = q := by
    rw [ht, show f.P - f.B + q * f.P + r - (f.P - f.B) = r + q * f.P by omega, Int.add_mul_ediv_right _ _ (by omega), Int.ediv_eq_zero_of_lt hr hr2]; omega
  unfold supV
  rw [if_neg (by omega), e, show t - 2 * (f.P - f.B) - q * f.P = r - (f.P - f.B) by omega]
theorem supV_low {f : Face} {t : Int} (h : t < f.P - f.B) : supV f t = 0 := by unfold supV; rw [if_pos h]
theorem qr_of {f : Face} (hf : faceP f) {t : Int} (h : f.P - f.B ≤ t) : ∃ q r, t = (f.P - f.B) + q * f.P + r ∧ 0 ≤ q ∧ 0 ≤ r ∧ r < f.P := by
  unfold faceP at hf
  refine ⟨(t - (f.P - f.B)) / f.P, (t - (f.P - f.B)) % f.P, ?_, Int.ediv_nonneg (by omega) (by omega), Int.emod_nonneg _ (by omega), Int.emod_lt_of_pos _ (by omega)⟩
  have := Int.mul_ediv_add_emod (t - (f.P - f.B)) f.P
  rw [Int.mul_comm] at this
  omega
theorem max0_b (x : Int) : 0 ≤ max0 x ∧ x ≤ max0 x ∧ (max0 x = 0 ∨ max0 x = x) := by unfold max0; split <;> omega
theorem supV_b {f : Face} (hf : faceP f) {t : Int} (h0 : 0 ≤ t) : 0 ≤ supV f t ∧ supV f t ≤ t := by
  by_cases c : t < f.P - f.B
  · rw [supV_low c]; omega
  · obtain ⟨q, r, ht, hq, hr, hr2⟩ := qr_of hf (show f.P - f.B ≤ t by omega)
    rw [supV_qr hf ht hq hr hr2]
    unfold faceP at hf
    have h1 : 0 ≤ q * f.B := Int.mul_nonneg hq (by omega)
    have h2 : q * f.B ≤ q * f.P := Int.mul_le_mul_of_nonneg_left (by omega) hq
    have h3 := max0_b (r - (f.P - f.B))
    omega
theorem supply_Bound_eq (f : Face) (t : Int) : supply_Bound f t = some (if faceP f ∧ 0 ≤ t ∧ t ≤ 4611686018427387903 then supV f t else 0, if faceP f ∧ 0 ≤ t ∧ t ≤ 4611686018427387903 then 0 else 1) := by
  unfold supply_Bound
  simp only [jn_eq, fk_t, fk_f]
  rw [bnd_eq (supply_Right_eq f)]
  by_cases hf : faceP f
  rotate_left
  · rw [decide_eq_false hf, Bool.not_false, fk_t, if_neg (fun h => hf h.1), if_neg (fun h => hf h.1)]
  rw [decide_eq_true hf, Bool.not_true, fk_f]
  by_cases c1 : t < 0
  · rw [decide_eq_true c1, fk_t, if_neg (fun h => by omega), if_neg (fun h => by omega)]
  rw [decide_eq_false c1, fk_f]
  by_cases c2 : t > 4611686018427387903
  · rw [decide_eq_true c2, fk_t, if_neg (fun h => by omega), if_neg (fun h => by omega)]
  have hf' := hf
  unfold faceP at hf'
  have hA : faceP f ∧ 0 ≤ t ∧ t ≤ 4611686018427387903 := ⟨hf, by omega, by omega⟩
  rw [show (if faceP f ∧ 0 ≤ t ∧ t ≤ 4611686018427387903 then supV f t else 0) = supV f t from if_pos hA, show (if faceP f ∧ 0 ≤ t ∧ t ≤ 4611686018427387903 then (0 : Int) else 1) = 0 from if_pos hA]
  rw [decide_eq_false c2, fk_f, wr_in (f.P - f.B) (by omega)]
  by_cases c3 : t < f.P - f.B
  · rw [decide_eq_true c3, fk_t, supV_low c3]
  obtain ⟨q, r, ht, hq, hr, hr2⟩ := qr_of hf (show f.P - f.B ≤ t by omega)
  have h1 : 0 ≤ q * f.B := Int.mul_nonneg hq (by omega)
  have h2 : q * f.B ≤ q * f.P := Int.mul_le_mul_of_nonneg_left (by omega) hq
  have h3 := max0_b (r - (f.P - f.B))
  have e : (t - (f.P - f.B)).tdiv f.P = q := by
    rw [Int.tdiv_eq_ediv_of_nonneg (by omega), ht, show f.P - f.B + q * f.P + r - (f.P - f.B) = r + q * f.P by omega, Int.add_mul_ediv_right _ _ (by omega), Int.ediv_eq_zero_of_lt hr hr2]; omega
  have hqq : q ≤ q * f.P := by
    have := Int.mul_le_mul_of_nonneg_left (show (1 : Int) ≤ f.P by omega) hq
    omega
  rw [decide_eq_false c3, fk_f, ck_t (decide_eq_true (by omega)), wr_in (t - (f.P - f.B)) (by omega), e, wr_in q (by omega), wr_in (2 * (f.P - f.B)) (by omega), wr_in (t - 2 * (f.P - f.B)) (by omega), wr_in (q * f.P) (by omega), wr_in (q * f.B) (by omega), wr_in (t - 2 * (f.P - f.B) - q * f.P) (by omega), supV_qr hf ht hq hr hr2]
  have e2 : t - 2 * (f.P - f.B) - q * f.P = r - (f.P - f.B) := by omega
  rw [e2]
  show some (wr (q * f.B + max0 (r - (f.P - f.B))), (0 : Int)) = _
  rw [wr_in _ (by omega)]
/-- One tick more. -/
def worstP (f : Face) (i : Int) : Prop := if i < f.P then i < f.B else i % f.P ≥ f.P - f.B
instance (f : Face) (i : Int) : Decidable (worstP f i) := by unfold worstP; infer_instance
theorem supV_succ {f : Face} (hf : faceP f) {t : Int} (h0 : 0 ≤ t) : supV f (t + 1) = supV f t + (if worstP f (f.B + t) then 1 else 0) := by
  have hf' := hf
  unfold faceP at hf'
  by_cases c : t < f.P - f.B
  · rw [supV_low c, if_neg (by unfold worstP; rw [if_pos (by omega)]; omega)]
    by_cases c2 : t + 1 < f.P - f.B
    · rw [supV_low c2]; rfl
    · rw [supV_qr hf (t := t + 1) (q := 0) (r := 0) (by omega) (by omega) (by omega) (by omega)]
      have := max0_b (0 - (f.P - f.B))
      unfold max0; rw [if_neg (by omega)]; omega
  · obtain ⟨q, r, ht, hq, hr, hr2⟩ := qr_of hf (show f.P - f.B ≤ t by omega)
    have hqP : 0 ≤ q * f.P := Int.mul_nonneg hq (by omega)
    have hm : (f.B + t) % f.P = r := by
      rw [ht, show f.B + (f.P - f.B + q * f.P + r) = r + (q + 1) * f.P by rw [Int.add_mul]; omega, Int.add_mul_emod_self_right, Int.emod_eq_of_lt hr hr2]
    have hw : worstP f (f.B + t) ↔ r ≥ f.P - f.B := by unfold worstP; rw [if_neg (by omega), hm]
    rw [supV_qr hf ht hq hr hr2]
    by_cases c2 : r + 1 < f.P
    · rw [supV_qr hf (t := t + 1) (q := q) (r := r + 1) (by omega) hq (by omega) c2]
      by_cases c3 : r ≥ f.P - f.B
      · rw [if_pos (hw.2 c3)]; unfold max0; split <;> split <;> omega
      · rw [if_neg (fun h => c3 (hw.1 h))]; unfold max0; split <;> split <;> omega
    · rw [supV_qr hf (t := t + 1) (q := q + 1) (r := 0) (by rw [Int.add_mul]; omega) (by omega) (by omega) (by omega), if_pos (hw.2 (by omega)), Int.add_mul]
      unfold max0; split <;> split <;> omega
theorem ref09_Worst_eq (f : Face) (hf : faceP f) (i : Int) (h0 : 0 ≤ i) (h1 : i ≤ 1000000) : ref09_Worst f i = some (decide (worstP f i)) := by
  unfold ref09_Worst worstP
  unfold faceP at hf
  by_cases c : i < f.P
  · rw [decide_eq_true c, fk_t]
    exact dec_iff (by rw [if_pos c])
  · rw [decide_eq_false c, fk_f, ck_t (decide_eq_true (by omega)), Int.tmod_eq_emod_of_nonneg h0, wr_in _ (by omega)]
    exact dec_iff (by rw [if_neg c])
theorem ref09_Bound_eq (f : Face) (t : Int) (hf : faceP f) (h0 : 0 ≤ t) (h1 : t ≤ 5000) : ref09_Bound f t = some (supV f t) := by
  unfold ref09_Bound
  simp only [jn_eq]
  have hf' := hf
  unfold faceP at hf'
  refine lp_inv (fun v => (f.B + t - v.2).toNat) (fun v => ∃ k : Int, 0 ≤ k ∧ k ≤ t ∧ v = (supV f k, f.B + k)) ?_ FU _ ⟨0, by omega, h0, by rw [(show supV f 0 = 0 by have := supV_b hf (Int.le_refl 0); omega)]; simp⟩ (by unfold FU; simp; omega)
  rintro nx v ⟨k, hk0, hk, rfl⟩ hnx
  simp only
  rw [wr_in (f.B + t) (by omega)]
  by_cases c : f.B + k < f.B + t
  rotate_left
  · rw [decide_eq_false c, fk_f, show k = t by omega]
  have hb := supV_b hf hk0
  rw [decide_eq_true c, fk_t, bnd_eq (ref09_Worst_eq f hf _ (by omega) (by omega)), wr_in (f.B + k + 1) (by omega), wr_in (supV f k + 1) (by omega)]
  have hs := supV_succ hf hk0
  by_cases w : worstP f (f.B + k)
  · rw [if_pos w] at hs
    rw [decide_eq_true w, fk_t]
    exact hnx _ ⟨k + 1, by omega, by omega, by rw [hs]; congr 1; omega⟩ (by simp only; omega)
  · rw [if_neg w] at hs
    rw [decide_eq_false w, fk_f]
    exact hnx _ ⟨k + 1, by omega, by omega, by rw [hs]; congr 1 <;> omega⟩ (by simp only; omega)

/-! Need. -/
def needV (l : List Task) (t : Int) : Int := sumB l t + (blockV l t : Int)
theorem blockV_le {l : List Task} (ha : AllP l) (t : Int) : blockV l t ≤ 200 := by
  unfold blockV
  refine maxL_bound fun x hx => ?_
  unfold taskN
  split
  · omega
  · refine maxL_bound fun s hs => ?_
    unfold secN
    have := (ha.1 x hx).sl hs
    split <;> omega
theorem needV_b {l : List Task} (ha : AllP l) {t : Int} (h0 : 0 ≤ t) : 0 ≤ needV l t ∧ needV l t ≤ 1600 * t + 200 := by
  have h1 := sumB_le ha h0
  have h2 := sumB_nonneg ha h0
  have h3 := blockV_le ha t
  unfold needV; omega
theorem verdict_Need_eq (l : List Task) (t : Int) (hl : l.length ≤ 4611686018427387904) (h1 : t ≤ 2199023255552) : verdict_Need l t = some (if AllP l ∧ 0 ≤ t then needV l t else 0, if AllP l ∧ 0 ≤ t then 0 else 1) := by
  unfold verdict_Need
  by_cases ha : AllP l ∧ 0 ≤ t
  · have h2 := sumB_le ha.1 ha.2
    have h3 := sumB_nonneg ha.1 ha.2
    have h4 := blockV_le ha.1 t
    rw [bnd_eq (demand_Bound_small l t ha.1 ha.2 h1), decide_eq_true rfl, Bool.not_true, fk_f, bnd_eq (block_Of_eq l t hl), if_pos ha.1]
    simp only
    rw [bnd_eq (arith_Add_eq _ _ h3 (by omega) (by omega) (by omega)), if_pos (by omega), if_pos (by omega), if_pos ha, if_pos ha]
    rfl
  · have : ¬ askP l t := fun h => ha ⟨h.1, h.2.1⟩
    rw [bnd_eq (demand_Bound_eq l t hl), if_neg (fun h => this h.1), if_neg this, if_neg ha, if_neg ha]
    rfl
theorem ref10_Need_eq (l : List Task) (t : Int) (ha : AllP l) (h0 : 0 ≤ t) (h1 : t ≤ 5000) : ref10_Need l t = some (needV l t) := by
  unfold ref10_Need
  have := needV_b ha h0
  rw [bnd_eq (ref07_Bound_eq l t ha h0 h1), bnd_eq (ref08_Of_eq l t ha)]
  unfold needV at *
  rw [wr_in _ (by omega)]


/-! Cycles. -/
theorem arith_Gcd_eq (a b : Int) (ha : 0 ≤ a) (ha2 : a ≤ 4611686018427387903) (hb : 0 ≤ b) (hb2 : b ≤ 4611686018427387903) : arith_Gcd a b = some (((Nat.gcd a.toNat b.toNat : Nat) : Int), 0) := by
  unfold arith_Gcd
  simp only [jn_eq, fk_t, fk_f]
  rw [bnd_eq (arith_may2 a b), decide_eq_true (by unfold inM; omega), Bool.not_true, fk_f, decide_eq_false (show ¬ a < 0 by omega), fk_f, decide_eq_false (show ¬ b < 0 by omega), fk_f]
  refine lp_inv (fun v => v.2.toNat) (fun v => ∃ x y : Nat, v = ((x : Int), (y : Int)) ∧ Nat.gcd x y = Nat.gcd a.toNat b.toNat) ?_ FU _ ⟨a.toNat, b.toNat, by rw [Int.toNat_of_nonneg ha, Int.toNat_of_nonneg hb], rfl⟩ (by unfold FU; simp only; omega)
  rintro nx v ⟨x, y, rfl, hg⟩ hnx
  simp only
  by_cases h : (y : Int) > 0
  · rw [decide_eq_true h, fk_t, ck_t (decide_eq_true (by omega)), Int.tmod_eq_emod_of_nonneg (by omega)]
    have e : (x : Int) % (y : Int) = ((x % y : Nat) : Int) := rfl
    rw [e]
    refine hnx _ ⟨y, x % y, rfl, ?_⟩ (by simp only [Int.toNat_natCast]; exact Nat.mod_lt _ (by omega))
    rw [← hg, Nat.gcd_comm x y, Nat.gcd_rec y x, Nat.gcd_comm]
  · rw [decide_eq_false h, fk_f]
    have : y = 0 := by omega
    subst this
    rw [← hg, Nat.gcd_zero_right]
theorem arith_Mul_small (a b : Int) (ha : 1 ≤ a) (ha2 : a ≤ 3000) (hb : 1 ≤ b) (hb2 : b ≤ 200) : arith_Mul a b = some (a * b, 0) := by
  unfold arith_Mul
  simp only [jn_eq, fk_t, fk_f]
  have h1 : a * b ≤ 3000 * 200 := Int.mul_le_mul ha2 hb2 (by omega) (by omega)
  have h2 : 0 ≤ a * b := Int.mul_nonneg (by omega) (by omega)
  have h3 : 4611686018427387903 / b ≥ 23058430092136939 := by
    exact (Int.le_ediv_iff_mul_le (by omega)).2 (by omega)
  rw [bnd_eq (arith_may2 a b), decide_eq_true (by unfold inM; omega), Bool.not_true, fk_f, decide_eq_false (show ¬ a = 0 by omega), fk_f, decide_eq_false (show ¬ b = 0 by omega), fk_f]
  have wa : IntKind.i64.wrap (0 - a) = 0 - a := wr_in _ (by omega)
  have wb : IntKind.i64.wrap (0 - b) = 0 - b := wr_in _ (by omega)
  rw [wa, wb, if_neg (show ¬ 0 - b > b by omega), if_neg (show ¬ 0 - a > a by omega), ck_t (decide_eq_true (by omega)), Int.tdiv_eq_ediv_of_nonneg (by omega)]
  have h4 : 4611686018427387903 / b ≤ 4611686018427387903 := Int.ediv_le_self _ (by omega)
  rw [wr_in (4611686018427387903 / b) (by omega), decide_eq_false (by omega), fk_f, wr_in _ (by omega)]
theorem arith_Lcm_eq (a b : Nat) (ha : 1 ≤ a) (ha2 : a ≤ 3000) (hb : 1 ≤ b) (hb2 : b ≤ 200) : arith_Lcm (a : Int) (b : Int) = some (((Nat.lcm a b : Nat) : Int), 0) := by
  unfold arith_Lcm
  simp only [jn_eq, fk_t, fk_f]
  rw [decide_eq_false (show ¬ (a : Int) < 1 by omega), fk_f, decide_eq_false (show ¬ (b : Int) < 1 by omega), fk_f, bnd_eq (arith_Gcd_eq _ _ (by omega) (by omega) (by omega) (by omega)), decide_eq_true rfl, Bool.not_true, fk_f]
  simp only [Int.toNat_natCast]
  have hg : 0 < Nat.gcd a b := Nat.gcd_pos_of_pos_left _ (by omega)
  have hd := Nat.gcd_dvd_left a b
  have hk : 1 ≤ a / Nat.gcd a b := Nat.div_pos (Nat.le_of_dvd (by omega) hd) hg
  have hk2 : a / Nat.gcd a b ≤ a := Nat.div_le_self _ _
  have e : (a : Int).tdiv (Nat.gcd a b : Int) = ((a / Nat.gcd a b : Nat) : Int) := by rw [Int.tdiv_eq_ediv_of_nonneg (by omega)]; rfl
  rw [ck_t (decide_eq_true (by omega)), e, wr_in _ (by omega), bnd_eq (arith_Mul_small _ _ (by omega) (by omega) (by omega) (by omega))]
  have : Nat.lcm a b = a / Nat.gcd a b * b := by
    unfold Nat.lcm
    exact (Nat.div_mul_right_comm hd b).symm
  rw [this]; simp
def lcmL (P : Nat) (l : List Task) : Nat := l.foldl (fun c t => Nat.lcm c t.T.toNat) P
def farL (x : Int) (l : List Task) : Int := l.foldl (fun m t => if t.D > m then t.D else m) x
theorem lcmL_succ (P : Nat) (l : List Task) (k : Nat) (h : k < l.length) : lcmL P (l.take (k + 1)) = Nat.lcm (lcmL P (l.take k)) l[k].T.toNat := by
  unfold lcmL; rw [← List.take_append_getElem h, List.foldl_append]; rfl
theorem farL_succ (x : Int) (l : List Task) (k : Nat) (h : k < l.length) : farL x (l.take (k + 1)) = if l[k].D > farL x (l.take k) then l[k].D else farL x (l.take k) := by
  unfold farL; rw [← List.take_append_getElem h, List.foldl_append]; rfl
theorem lcmL_dvd : ∀ (l : List Task) (P n : Nat), lcmL P l ∣ n ↔ P ∣ n ∧ ∀ t ∈ l, t.T.toNat ∣ n
  | [], P, n => by simp [lcmL]
  | t :: l, P, n => by
    have ih := lcmL_dvd l (Nat.lcm P t.T.toNat) n
    show lcmL (Nat.lcm P t.T.toNat) l ∣ n ↔ _
    rw [ih]
    constructor
    · rintro ⟨h1, h2⟩
      refine ⟨Nat.dvd_trans (Nat.dvd_lcm_left _ _) h1, fun x hx => ?_⟩
      rcases List.mem_cons.1 hx with rfl | hx
      · exact Nat.dvd_trans (Nat.dvd_lcm_right _ _) h1
      · exact h2 x hx
    · rintro ⟨h1, h2⟩
      exact ⟨Nat.lcm_dvd h1 (h2 t List.mem_cons_self), fun x hx => h2 x (List.mem_cons_of_mem _ hx)⟩
theorem lcmL_pos : ∀ (l : List Task) (P : Nat), 0 < P → (∀ t ∈ l, 1 ≤ t.T) → 0 < lcmL P l
  | [], P, hP, _ => hP
  | t :: l, P, hP, h => lcmL_pos l _ (Nat.lcm_pos hP (by have := h t List.mem_cons_self; omega)) fun x hx => h x (List.mem_cons_of_mem _ hx)
theorem farL_b : ∀ (l : List Task) (x : Int), x ≤ farL x l ∧ (∀ t ∈ l, t.D ≤ farL x l) ∧ ∀ m, x ≤ m → (∀ t ∈ l, t.D ≤ m) → farL x l ≤ m
  | [], x => ⟨Int.le_refl _, fun t ht => (List.not_mem_nil ht).elim, fun m h _ => h⟩
  | t :: l, x => by
    obtain ⟨h1, h2, h3⟩ := farL_b l (if t.D > x then t.D else x)
    show _ ∧ _ ∧ _
    have e : farL x (t :: l) = farL (if t.D > x then t.D else x) l := rfl
    rw [e]
    refine ⟨?_, fun y hy => ?_, fun m hm hl => h3 m ?_ fun y hy => hl y (List.mem_cons_of_mem _ hy)⟩
    · exact Int.le_trans (show x ≤ (if t.D > x then t.D else x) by split <;> omega) h1
    · rcases List.mem_cons.1 hy with rfl | hy
      · exact Int.le_trans (show y.D ≤ (if y.D > x then y.D else x) by split <;> omega) h1
      · exact h2 y hy
    · have := hl t List.mem_cons_self
      split <;> omega
theorem AllP.T {l : List Task} (h : AllP l) {t : Task} (ht : t ∈ l) : 1 ≤ t.T ∧ t.T ≤ 200 ∧ 1 ≤ t.C ∧ t.C ≤ 200 ∧ 1 ≤ t.D ∧ t.D ≤ 200 ∧ t.C ≤ t.D ∧ t.D ≤ t.T := by
  have := (h.1 t ht).1
  unfold ownP at this
  omega
def cyc (l : List Task) (f : Face) : Nat := lcmL f.P.toNat l
def farv (l : List Task) (f : Face) : Int := farL (2 * f.P) l
theorem cyc_take {l : List Task} {f : Face} (ha : AllP l) (hf : faceP f) (k : Nat) : 0 < lcmL f.P.toNat (l.take k) ∧ lcmL f.P.toNat (l.take k) ≤ cyc l f := by
  unfold faceP at hf
  have h1 := lcmL_pos (l.take k) f.P.toNat (by omega) fun t ht => (ha.T (List.mem_of_mem_take ht)).1
  have h2 := lcmL_pos l f.P.toNat (by omega) fun t ht => (ha.T ht).1
  refine ⟨h1, Nat.le_of_dvd h2 ?_⟩
  have h3 := (lcmL_dvd l f.P.toNat (lcmL f.P.toNat l)).1 (Nat.dvd_refl _)
  exact (lcmL_dvd _ _ _).2 ⟨h3.1, fun t ht => h3.2 t (List.mem_of_mem_take ht)⟩
theorem farv_b {l : List Task} {f : Face} (ha : AllP l) (hf : faceP f) : 2 * f.P ≤ farv l f ∧ farv l f ≤ 400 ∧ ∀ t ∈ l, t.D ≤ farv l f := by
  unfold faceP at hf
  obtain ⟨h1, h2, h3⟩ := farL_b l (2 * f.P)
  exact ⟨h1, h3 400 (by omega) (fun t ht => by have := ha.T ht; omega), h2⟩
theorem farL_take {l : List Task} {f : Face} (ha : AllP l) (hf : faceP f) (k : Nat) : 0 ≤ farL (2 * f.P) (l.take k) ∧ farL (2 * f.P) (l.take k) ≤ 400 := by
  unfold faceP at hf
  obtain ⟨h1, h2, h3⟩ := farL_b (l.take k) (2 * f.P)
  exact ⟨by omega, h3 400 (by omega) (fun t ht => by have := ha.T (List.mem_of_mem_take ht); omega)⟩
def okC (l : List Task) (f : Face) : Prop := AllP l ∧ faceP f ∧ (cyc l f : Int) + farv l f ≤ 3000
noncomputable instance (l : List Task) (f : Face) : Decidable (okC l f) := Classical.propDecidable _
noncomputable def errC (l : List Task) (f : Face) : Int := if okC l f then 0 else if AllP l ∧ faceP f then 5 else 1
noncomputable def cycV (l : List Task) (f : Face) : Int × Int × Int := if okC l f then ((cyc l f : Int), (cyc l f : Int) + farv l f, 0) else (0, 0, errC l f)
theorem cycV_arg {l : List Task} {f : Face} (h : ¬ (AllP l ∧ faceP f)) : cycV l f = (0, 0, 1) := by
  have h2 : ¬ okC l f := fun hh => h ⟨hh.1, hh.2.1⟩
  unfold cycV errC; rw [if_neg h2, if_neg h2, if_neg h]
theorem cycV_big {l : List Task} {f : Face} (h : AllP l ∧ faceP f) (h2 : ¬ (cyc l f : Int) + farv l f ≤ 3000) : cycV l f = (0, 0, 5) := by
  have h3 : ¬ okC l f := fun hh => h2 hh.2.2
  unfold cycV errC; rw [if_neg h3, if_neg h3, if_pos h]
theorem verdict_Cycle_eq (l : List Task) (f : Face) (hl : l.length ≤ 4611686018427387904) : verdict_Cycle l f = some (cycV l f) := by
  unfold verdict_Cycle
  simp only [jn_eq, fk_t, fk_f]
  rw [bnd_eq (task_All_eq l hl)]
  by_cases ha : AllP l
  rotate_left
  · rw [decide_eq_false ha, Bool.not_false, fk_t, cycV_arg (fun h => ha h.1)]
  rw [decide_eq_true ha, Bool.not_true, fk_f, bnd_eq (supply_Right_eq f)]
  by_cases hf : faceP f
  rotate_left
  · rw [decide_eq_false hf, Bool.not_false, fk_t, cycV_arg (fun h => hf h.2)]
  have hf' := hf
  unfold faceP at hf'
  have h8 := ha.2
  rw [decide_eq_true hf, Bool.not_true, fk_f, wr_in (2 * f.P) (by omega)]
  refine lp_inv (fun v => l.length - v.2.2.toNat) (fun v => ∃ k : Nat, v = (((lcmL f.P.toNat (l.take k) : Nat) : Int), farL (2 * f.P) (l.take k), (k : Int)) ∧ k ≤ l.length ∧ lcmL f.P.toNat (l.take k) ≤ 3000) ?_ FU _ ⟨0, by simp [lcmL, farL]; omega, Nat.zero_le _, by simp [lcmL]; omega⟩ (by unfold FU; simp; omega)
  rintro nx v ⟨k, rfl, hk, hc⟩ hnx
  simp only
  rw [lt_nat]
  obtain ⟨c1, c2⟩ := cyc_take ha hf k
  have hfr := farL_take ha hf k
  by_cases h : k < l.length
  · obtain ⟨t1, t2, _⟩ := ha.T (List.getElem_mem h)
    have eT : l[k].T = ((l[k].T.toNat : Nat) : Int) := by omega
    rw [decide_eq_true h, fk_t, ix_lt h, wr_succ k _ h (by omega), eT, bnd_eq (arith_Lcm_eq _ _ c1 hc (by omega) (by omega)), decide_eq_true rfl, Bool.not_true, fk_f, ← lcmL_succ _ _ _ h, ← farL_succ _ _ _ h]
    obtain ⟨d1, d2⟩ := cyc_take ha hf (k + 1)
    have hfv := farv_b ha hf
    by_cases c : ((lcmL f.P.toNat (l.take (k + 1)) : Nat) : Int) > 3000
    · rw [decide_eq_true c, fk_t, cycV_big ⟨ha, hf⟩ (by omega)]
    · rw [decide_eq_false c, fk_f]
      exact hnx _ ⟨k + 1, rfl, by omega, by omega⟩ (by simp only [Int.toNat_natCast]; omega)
  · have : k = l.length := by omega
    subst this
    rw [decide_eq_false h, fk_f, wr_in _ (by omega), List.take_length]
    show fk (decide (((cyc l f : Nat) : Int) + farv l f > 3000)) _ (some (((cyc l f : Nat) : Int), ((cyc l f : Nat) : Int) + farv l f, 0)) = _
    by_cases c : ((cyc l f : Nat) : Int) + farv l f > 3000
    · rw [decide_eq_true c, fk_t, cycV_big ⟨ha, hf⟩ (by omega)]
    · rw [decide_eq_false c, fk_f, cycV, if_pos ⟨ha, hf, by omega⟩]
theorem ref10_Cycle_eq (l : List Task) (f : Face) (hl : l.length ≤ 4611686018427387904) (hs : ∀ t ∈ l, t.Secs.length ≤ 4611686018427387904) : ref10_Cycle l f = some (cycV l f) := by
  unfold ref10_Cycle
  simp only [jn_eq, fk_t, fk_f]
  rw [bnd_eq (ref05_All_eq l hl hs)]
  by_cases ha : AllP l
  rotate_left
  · rw [decide_eq_false ha, Bool.not_false, fk_t, cycV_arg (fun h => ha h.1)]
  rw [decide_eq_true ha, Bool.not_true, fk_f, bnd_eq (ref09_Right_eq f)]
  by_cases hf : faceP f
  rotate_left
  · rw [decide_eq_false hf, Bool.not_false, fk_t, cycV_arg (fun h => hf h.2)]
  have hf' := hf
  unfold faceP at hf'
  have h8 := ha.2
  rw [decide_eq_true hf, Bool.not_true, fk_f, wr_in (2 * f.P) (by omega)]
  refine lp_upS l.length (by unfold FU; omega) (fun k v => v = farL (2 * f.P) (l.take k)) _ (by simp [farL]) ?_
  rintro nx k v hk rfl hnx
  simp only
  by_cases h : k < l.length
  · rw [show decide ((k : Int) < (l.length : Int)) = true from decide_eq_true (by omega), fk_t, wr_succ k _ h (by omega)]
    simp only [ix_lt h]
    have := farL_succ (2 * f.P) l k h
    by_cases c : l[k].D > farL (2 * f.P) (l.take k)
    · rw [if_pos c] at this
      rw [decide_eq_true c, fk_t]; exact hnx _ h this.symm
    · rw [if_neg c] at this
      rw [decide_eq_false c, fk_f]; exact hnx _ h this.symm
  rw [show decide ((k : Int) < (l.length : Int)) = false from decide_eq_false (by omega), fk_f]
  have : k = l.length := by omega
  subst this
  rw [List.take_length]
  show lp (fun nx8 (v8 : Int) => fk (decide ((wr (v8 + farv l f)) ≤ (3000 : Int))) _ _) FU f.P = _
  have hfv := farv_b ha hf
  have hL := cyc_take ha hf l.length
  rw [List.take_length] at hL
  have hself := (lcmL_dvd l f.P.toNat (cyc l f)).1 (Nat.dvd_refl _)
  have base : f.P.toNat ≤ cyc l f := Nat.le_of_dvd (by exact hL.1) hself.1
  refine lp_inv (fun v => (4000 - v).toNat) (fun v => ∃ n : Nat, v = (n : Int) ∧ 0 < n ∧ f.P.toNat ∣ n ∧ n ≤ cyc l f ∧ n ≤ 3400) ?_ FU _ ⟨f.P.toNat, by omega, by omega, Nat.dvd_refl _, base, by omega⟩ (by unfold FU; omega)
  rintro nx8 v ⟨n, rfl, hn0, hPn, hnL, hn4⟩ hnx8
  rw [wr_in _ (by omega)]
  by_cases c : (n : Int) + farv l f ≤ 3000
  rotate_left
  · rw [decide_eq_false c, fk_f, cycV_big ⟨ha, hf⟩ (by omega)]
  rw [decide_eq_true c, fk_t]
  refine lp_upS l.length (by unfold FU; omega) (fun q b => b = true ↔ ∀ i (hi : i < l.length), i < q → l[i].T.toNat ∣ n) true ⟨fun _ i _ h => by omega, fun _ => rfl⟩ ?_
  rintro nx9 q b hq J hnx9
  simp only
  by_cases h2 : q < l.length
  · rw [show decide ((q : Int) < (l.length : Int)) = true from decide_eq_true (by omega), fk_t, wr_succ q _ h2 (by omega)]
    obtain ⟨t1, t2, _⟩ := ha.T (List.getElem_mem h2)
    cases b with
    | false =>
      rw [fk_f]
      refine hnx9 _ h2 ⟨fun e => (Bool.false_ne_true e).elim, fun hh => J.2 fun i hi hiq => hh i hi (by omega)⟩
    | true =>
      have J' := J.1 rfl
      rw [fk_t, ix_lt h2, ck_t (decide_eq_true (by omega))]
      have hdv : ((n : Int).tmod l[q].T = 0) ↔ l[q].T.toNat ∣ n := by
        rw [Int.tmod_eq_emod_of_nonneg (by omega)]
        have e : l[q].T = ((l[q].T.toNat : Nat) : Int) := by omega
        rw [e, show ((n : Int) % ((l[q].T.toNat : Nat) : Int)) = ((n % l[q].T.toNat : Nat) : Int) from rfl, Int.toNat_natCast]
        rw [Nat.dvd_iff_mod_eq_zero]; omega
      refine hnx9 _ h2 ⟨fun e i hi hiq => ?_, fun hh => decide_eq_true (hdv.2 (hh q h2 (by omega)))⟩
      by_cases e2 : i = q
      · subst e2; exact hdv.1 (of_decide_eq_true e)
      · exact J' i hi (by omega)
  rw [show decide ((q : Int) < (l.length : Int)) = false from decide_eq_false (by omega), fk_f]
  cases b with
  | true =>
    have hd : cyc l f ∣ n := (lcmL_dvd l f.P.toNat n).2 ⟨hPn, fun t ht => by
      obtain ⟨i, hi, rfl⟩ := List.getElem_of_mem ht
      exact J.1 rfl i hi (by omega)⟩
    have : n = cyc l f := Nat.le_antisymm hnL (Nat.le_of_dvd hn0 hd)
    subst this
    rw [fk_t, show farL (2 * f.P) l = farv l f from rfl, wr_in _ (by omega), cycV, if_pos ⟨ha, hf, c⟩]
  | false =>
    have hne : n ≠ cyc l f := fun e => by
      have := J.2 fun i hi _ => e ▸ hself.2 _ (List.getElem_mem hi)
      cases this
    have hlt : n < cyc l f := by omega
    have hstep : n + f.P.toNat ≤ cyc l f := by
      have hd : f.P.toNat ∣ cyc l f - n := Nat.dvd_sub hself.1 hPn
      have := Nat.le_of_dvd (by omega) hd
      omega
    rw [fk_f, wr_in _ (by omega)]
    exact hnx8 _ ⟨n + f.P.toNat, by omega, by omega, Nat.dvd_add hPn (Nat.dvd_refl _), hstep, by omega⟩ (by omega)


/-! The first tick for which tasks don't fit. -/
def badB (l : List Task) (f : Face) (t : Nat) : Bool := decide (needV l t > supV f t)
def badV (l : List Task) (f : Face) (e : Nat) : Option Nat := (List.range (e + 1)).find? (badB l f)
theorem badV_some {l : List Task} {f : Face} {e t : Nat} : badV l f e = some t ↔ t ≤ e ∧ needV l t > supV f t ∧ ∀ j, j < t → needV l j ≤ supV f j := by
  unfold badV
  rw [List.find?_range_eq_some]
  unfold badB
  simp only [decide_eq_true_eq, List.mem_range, Bool.not_eq_true', decide_eq_false_iff_not]
  constructor
  · rintro ⟨h1, h2, h3⟩; exact ⟨by omega, h1, fun j hj => by have := h3 j hj; omega⟩
  · rintro ⟨h1, h2, h3⟩; exact ⟨h2, by omega, fun j hj => by have := h3 j hj; omega⟩
theorem badV_none {l : List Task} {f : Face} {e : Nat} : badV l f e = none ↔ ∀ t, t ≤ e → needV l t ≤ supV f t := by
  unfold badV
  rw [List.find?_range_eq_none]
  unfold badB
  simp only [Bool.not_eq_true', decide_eq_false_iff_not]
  exact ⟨fun h t ht => by have := h t (by omega); omega, fun h t ht => by have := h t (by omega); omega⟩
theorem scan_eq {R : Type} (l : List Task) (f : Face) (e : Nat) (he : e ≤ 1000000) (A : Int → Option R) (B : Option R) (r : R) (h1 : ∀ t, badV l f e = some t → A (t : Int) = some r) (h2 : badV l f e = none → B = some r) {body : (Int → Option R) → Int → Option R}
    (hb : ∀ nx (k : Nat), k ≤ e + 1 → body nx (k : Int) = fk (decide ((k : Int) ≤ (e : Int))) (fk (decide (needV l k > supV f k)) (A k) (nx ((k + 1 : Nat) : Int))) B) : lp body FU 0 = some r := by
  refine lp_up (e + 1) (by unfold FU; omega) (fun k => ∀ j : Nat, j < k → needV l j ≤ supV f j) (fun j h => by omega) ?_
  intro nx k hk J hnx
  rw [hb nx k hk]
  by_cases c : (k : Int) ≤ (e : Int)
  · rw [decide_eq_true c, fk_t]
    by_cases d : needV l k > supV f k
    · rw [decide_eq_true d, fk_t]
      exact h1 k (badV_some.2 ⟨by omega, d, J⟩)
    · rw [decide_eq_false d, fk_f]
      refine hnx (by omega) fun j hj => ?_
      by_cases e2 : j = k
      · subst e2; omega
      · exact J j (by omega)
  · rw [decide_eq_false c, fk_f]
    exact h2 (badV_none.2 fun t ht => J t (by omega))
theorem okC_end {l : List Task} {f : Face} (h : okC l f) : ∃ e : Nat, (e : Int) = (cyc l f : Int) + farv l f ∧ e ≤ 3000 := by
  have h1 := farv_b h.1 h.2.1
  have h2 := h.2.2
  have h3 := h.2.1
  unfold faceP at h3
  exact ⟨((cyc l f : Int) + farv l f).toNat, by omega, by omega⟩
def endN (l : List Task) (f : Face) : Nat := ((cyc l f : Int) + farv l f).toNat
theorem endN_eq {l : List Task} {f : Face} (h : okC l f) : ((endN l f : Nat) : Int) = (cyc l f : Int) + farv l f ∧ endN l f ≤ 3000 := by
  obtain ⟨e, h1, h2⟩ := okC_end h
  unfold endN; omega
noncomputable def firstV (l : List Task) (f : Face) : Int × Bool × Int := if okC l f then (match badV l f (endN l f) with | some t => ((t : Int), true, 0) | none => (0, false, 0)) else (0, false, errC l f)
theorem errC_ne {l : List Task} {f : Face} (h : ¬ okC l f) : errC l f ≠ 0 := by
  unfold errC; rw [if_neg h]; split <;> omega
theorem verdict_First_eq (l : List Task) (f : Face) (hl : l.length ≤ 4611686018427387904) : verdict_First l f = some (firstV l f) := by
  unfold verdict_First firstV
  rw [bnd_eq (verdict_Cycle_eq l f hl)]
  by_cases h : okC l f
  rotate_left
  · have := errC_ne h
    rw [cycV, if_neg h, if_neg h]
    simp only
    rw [decide_eq_false this, Bool.not_false, fk_t]
  obtain ⟨e1, e2⟩ := endN_eq h
  rw [cycV, if_pos h, if_pos h]
  rw [show (!decide (((cyc l f : Int), (cyc l f : Int) + farv l f, (0 : Int)).2.2 = 0)) = false from rfl, fk_f, show ((cyc l f : Int), (cyc l f : Int) + farv l f, (0 : Int)).2.1 = (cyc l f : Int) + farv l f from rfl, ← e1]
  have : verdict_fails l f ((endN l f : Nat) : Int) = some ((badV l f (endN l f)).map fun t => (t : Int)) := by
    unfold verdict_fails
    refine scan_eq l f (endN l f) (by omega) (fun v => some (some v)) (some none) _ (fun t ht => by rw [ht]; rfl) (fun ht => by rw [ht]; rfl) ?_
    intro nx k hk
    by_cases c : (k : Int) ≤ ((endN l f : Nat) : Int)
    · rw [decide_eq_true c, fk_t, fk_t, bnd_eq (verdict_Need_eq l k hl (by omega)), bnd_eq (supply_Bound_eq f k), if_pos ⟨h.1, by omega⟩, if_pos (show faceP f ∧ 0 ≤ (k : Int) ∧ (k : Int) ≤ 4611686018427387903 from ⟨h.2.1, by omega, by omega⟩), wr_in _ (by omega)]
      rfl
    · rw [decide_eq_false c, fk_f, fk_f]
  rw [bnd_eq this]
  cases badV l f (endN l f) with
  | none => rfl
  | some t => rfl
theorem ref10_First_eq (l : List Task) (f : Face) (h : okC l f) : ref10_First l f ((endN l f : Nat) : Int) = some ((firstV l f).1, (firstV l f).2.1) := by
  unfold ref10_First firstV
  rw [if_pos h]
  obtain ⟨e1, e2⟩ := endN_eq h
  refine scan_eq l f (endN l f) (by omega) (fun v => some (v, true)) (some (0, false)) _ (fun t ht => by rw [ht]) (fun ht => by rw [ht]) ?_
  intro nx k hk
  by_cases c : (k : Int) ≤ ((endN l f : Nat) : Int)
  · rw [decide_eq_true c, fk_t, fk_t, bnd_eq (ref10_Need_eq l k h.1 (by omega) (by omega)), bnd_eq (ref09_Bound_eq f k h.2.1 (by omega) (by omega)), wr_in _ (by omega)]
    rfl
  · rw [decide_eq_false c, fk_f, fk_f]
/-! What is asked for in a cycle. -/
def askC (c : Int) (t : Task) : Int := t.C * (c / t.T)
def asked (l : List Task) (c : Int) : Int := sumI (askC c) l
def givenC (f : Face) (c : Int) : Int := f.B * (c / f.P)
theorem div_b {c T : Int} (hc : 0 ≤ c) (hT : 1 ≤ T) : 0 ≤ c / T ∧ c / T ≤ c := ⟨Int.ediv_nonneg hc (by omega), Int.ediv_le_self _ hc⟩
theorem asked_b {l : List Task} (ha : AllP l) {c : Int} (h0 : 0 ≤ c) (h1 : c ≤ 3000) (k : Nat) : 0 ≤ asked (l.take k) c ∧ asked (l.take k) c ≤ 600000 * 8 := by
  have hx : ∀ t ∈ l.take k, 0 ≤ askC c t ∧ askC c t ≤ 600000 := fun t ht => by
    have hT := ha.T (List.mem_of_mem_take ht)
    have hd := div_b h0 hT.1
    unfold askC
    refine ⟨Int.mul_nonneg (by omega) hd.1, ?_⟩
    have := Int.mul_le_mul (show t.C ≤ 200 by omega) (show c / t.T ≤ 3000 by omega) hd.1 (by omega)
    omega
  refine ⟨sumI_nonneg fun t ht => (hx t ht).1, ?_⟩
  have h2 := sumI_bound (l := l.take k) fun t ht => (hx t ht).2
  have h3 : (l.take k).length ≤ 8 := by rw [List.length_take]; have := ha.2; omega
  unfold asked
  have h4 : (600000 : Int) * ((l.take k).length : Int) ≤ 600000 * 8 := Int.mul_le_mul_of_nonneg_left (by omega) (by omega)
  omega
theorem givenC_b {f : Face} (hf : faceP f) {c : Int} (h0 : 0 ≤ c) (h1 : c ≤ 3000) : 0 ≤ givenC f c ∧ givenC f c ≤ 600000 := by
  unfold faceP at hf
  have hd := div_b h0 (show 1 ≤ f.P by omega)
  unfold givenC
  refine ⟨Int.mul_nonneg (by omega) hd.1, ?_⟩
  have := Int.mul_le_mul (show f.B ≤ 200 by omega) (show c / f.P ≤ 3000 by omega) hd.1 (by omega)
  omega
theorem cyc_b {l : List Task} {f : Face} (h : okC l f) : 1 ≤ (cyc l f : Int) ∧ (cyc l f : Int) ≤ 3000 := by
  have h1 := farv_b h.1 h.2.1
  have h2 := h.2.2
  have h3 := h.2.1
  have h4 := (cyc_take h.1 h.2.1 l.length).1
  rw [List.take_length] at h4
  unfold faceP at h3
  have : 0 < cyc l f := h4
  omega
theorem ref10_Asked_eq (l : List Task) (f : Face) (h : okC l f) : ref10_Asked l f (cyc l f : Int) = some (asked l (cyc l f), givenC f (cyc l f)) := by
  unfold ref10_Asked
  have h8 := h.1.2
  have hc := cyc_b h
  refine lp_upS l.length (by unfold FU; omega) (fun k v => v = asked (l.take k) (cyc l f)) 0 (by simp [asked, sumI]) ?_
  rintro nx k v hk rfl hnx
  simp only
  rw [lt_nat]
  by_cases hh : k < l.length
  · have hT := h.1.T (List.getElem_mem hh)
    have hd := div_b (show 0 ≤ (cyc l f : Int) by omega) hT.1
    have hb := asked_b h.1 (show 0 ≤ (cyc l f : Int) by omega) hc.2 k
    have hb2 := asked_b h.1 (show 0 ≤ (cyc l f : Int) by omega) hc.2 (k + 1)
    have hs : asked (l.take (k + 1)) (cyc l f) = asked (l.take k) (cyc l f) + askC (cyc l f) l[k] := sumI_succ _ _ _ hh
    have hm : 0 ≤ l[k].C * ((cyc l f : Int) / l[k].T) := Int.mul_nonneg (by omega) hd.1
    unfold askC at hs
    rw [decide_eq_true hh, fk_t]
    simp only [ix_lt hh]
    rw [ck_t (decide_eq_true (by omega)), Int.tdiv_eq_ediv_of_nonneg (by omega), wr_in ((cyc l f : Int) / l[k].T) (by omega), wr_in (l[k].C * ((cyc l f : Int) / l[k].T)) (by omega), wr_in _ (by omega), wr_succ k _ hh (by omega)]
    exact hnx _ hh hs.symm
  · have hf := h.2.1
    unfold faceP at hf
    have hd := div_b (show 0 ≤ (cyc l f : Int) by omega) (show 1 ≤ f.P by omega)
    have hg := givenC_b h.2.1 (show 0 ≤ (cyc l f : Int) by omega) hc.2
    unfold givenC at hg ⊢
    rw [decide_eq_false hh, fk_f, ck_t (decide_eq_true (by omega)), Int.tdiv_eq_ediv_of_nonneg (by omega), wr_in ((cyc l f : Int) / f.P) (by omega), wr_in _ (by omega)]
    have : k = l.length := by omega
    rw [this, List.take_length]
def fitsF (l : List Task) (f : Face) : Prop := okC l f ∧ asked l (cyc l f) ≤ givenC f (cyc l f) ∧ badV l f (endN l f) = none
noncomputable instance (l : List Task) (f : Face) : Decidable (fitsF l f) := Classical.propDecidable _
theorem verdict_Fits_eq (l : List Task) (f : Face) (hl : l.length ≤ 4611686018427387904) : verdict_Fits l f = some (decide (fitsF l f), errC l f) := by
  unfold verdict_Fits
  rw [bnd_eq (verdict_Cycle_eq l f hl)]
  by_cases h : okC l f
  rotate_left
  · have := errC_ne h
    rw [cycV, if_neg h]
    simp only
    rw [decide_eq_false this, Bool.not_false, fk_t, decide_eq_false (fun hh => h hh.1)]
  have e0 : errC l f = 0 := by unfold errC; rw [if_pos h]
  have h8 := h.1.2
  have hc := cyc_b h
  rw [cycV, if_pos h]
  rw [show (!decide (((cyc l f : Int), (cyc l f : Int) + farv l f, (0 : Int)).2.2 = 0)) = false from rfl, fk_f]
  refine lp_upS l.length (by unfold FU; omega) (fun k v => v = asked (l.take k) (cyc l f)) 0 (by simp [asked, sumI]) ?_
  rintro nx k v hk rfl hnx
  simp only
  rw [lt_nat]
  by_cases hh : k < l.length
  · have hT := h.1.T (List.getElem_mem hh)
    have hd := div_b (show 0 ≤ (cyc l f : Int) by omega) hT.1
    have hb := asked_b h.1 (show 0 ≤ (cyc l f : Int) by omega) hc.2 k
    have hb2 := asked_b h.1 (show 0 ≤ (cyc l f : Int) by omega) hc.2 (k + 1)
    have hs : asked (l.take (k + 1)) (cyc l f) = asked (l.take k) (cyc l f) + askC (cyc l f) l[k] := sumI_succ _ _ _ hh
    have hm : 0 ≤ l[k].C * ((cyc l f : Int) / l[k].T) := Int.mul_nonneg (by omega) hd.1
    unfold askC at hs
    rw [Int.mul_comm] at hs hm
    rw [decide_eq_true hh, fk_t, ix_lt hh, ck_t (decide_eq_true (by omega)), Int.tdiv_eq_ediv_of_nonneg (by omega), wr_in ((cyc l f : Int) / l[k].T) (by omega), wr_in ((cyc l f : Int) / l[k].T * l[k].C) (by omega), wr_in _ (by omega), wr_succ k _ hh (by omega)]
    exact hnx _ hh hs.symm
  · have hf := h.2.1
    unfold faceP at hf
    have hd := div_b (show 0 ≤ (cyc l f : Int) by omega) (show 1 ≤ f.P by omega)
    have hg := givenC_b h.2.1 (show 0 ≤ (cyc l f : Int) by omega) hc.2
    have : k = l.length := by omega
    subst this
    have eg : (cyc l f : Int) / f.P * f.B = givenC f (cyc l f) := by unfold givenC; rw [Int.mul_comm]
    rw [decide_eq_false hh, fk_f, ck_t (decide_eq_true (by omega)), Int.tdiv_eq_ediv_of_nonneg (by omega), wr_in ((cyc l f : Int) / f.P) (by omega), eg, wr_in _ (by omega), List.take_length, e0]
    by_cases c : asked l (cyc l f) > givenC f (cyc l f)
    · rw [decide_eq_true c, fk_t, decide_eq_false (fun hx => by have := hx.2.1; omega)]
    rw [decide_eq_false c, fk_f, bnd_eq (verdict_First_eq l f hl)]
    unfold firstV
    rw [if_pos h]
    cases hb : badV l f (endN l f) with
    | none => rw [show decide (fitsF l f) = true from decide_eq_true ⟨h, by omega, hb⟩]; rfl
    | some t => rw [show decide (fitsF l f) = false from decide_eq_false fun hx => by rw [hx.2.2] at hb; cases hb]; rfl
theorem ref10_Fits_eq (l : List Task) (f : Face) (hl : l.length ≤ 4611686018427387904) (hs : ∀ t ∈ l, t.Secs.length ≤ 4611686018427387904) (h : okC l f) : ref10_Fits l f = some (decide (fitsF l f)) := by
  unfold ref10_Fits
  obtain ⟨e1, e2⟩ := endN_eq h
  rw [bnd_eq (ref10_Cycle_eq l f hl hs), cycV, if_pos h]
  simp only
  rw [bnd_eq (ref10_Asked_eq l f h), ← e1, bnd_eq (ref10_First_eq l f h)]
  simp only
  by_cases c : asked l (cyc l f) ≤ givenC f (cyc l f)
  · rw [decide_eq_true c, fk_t]
    unfold firstV
    rw [if_pos h]
    cases hb : badV l f (endN l f) with
    | none => rw [show decide (fitsF l f) = true from decide_eq_true ⟨h, c, hb⟩]; rfl
    | some t => rw [show decide (fitsF l f) = false from decide_eq_false fun hx => by rw [hx.2.2] at hb; cases hb]; rfl
  · rw [decide_eq_false c, fk_f, decide_eq_false (fun hx => c hx.2.1)]


/-! From the end on all goes on by cycles. -/
theorem jobsN_steps {t : Task} (h : RightP t) {k : Int} (h0 : t.D ≤ k) : ∀ n : Nat, jobsN t (k + t.T * (n : Int)) = jobsN t k + (n : Int)
  | 0 => by simp
  | n + 1 => by
    have hT := h.1
    unfold ownP at hT
    have hm : 0 ≤ t.T * (n : Int) := Int.mul_nonneg (by omega) (by omega)
    have e : k + t.T * ((n + 1 : Nat) : Int) = (k + t.T * (n : Int)) + t.T := by
      rw [show ((n + 1 : Nat) : Int) = (n : Int) + 1 by omega, Int.mul_add]; omega
    rw [e, jobsN_step h (by omega), jobsN_steps h h0 n]; omega
theorem sumI_congr {α : Type} {f g : α → Int} : ∀ {l : List α}, (∀ x ∈ l, f x = g x) → sumI f l = sumI g l
  | [], _ => rfl
  | x :: r, h => by simp only [sumI, h x List.mem_cons_self, sumI_congr fun y hy => h y (List.mem_cons_of_mem _ hy)]
theorem sumI_add {α : Type} (f g : α → Int) : ∀ (l : List α), sumI (fun x => f x + g x) l = sumI f l + sumI g l
  | [] => rfl
  | x :: r => by simp only [sumI, sumI_add f g r]; omega
theorem sumI_mul {α : Type} (f : α → Int) (n : Int) : ∀ (l : List α), sumI (fun x => n * f x) l = n * sumI f l
  | [] => by simp [sumI]
  | x :: r => by simp only [sumI, sumI_mul f n r, Int.mul_add]
/-- c is a number that all periods divide. -/
def cycleP (l : List Task) (c : Int) : Prop := 0 ≤ c ∧ ∀ t ∈ l, t.T * (c / t.T) = c
theorem sumB_cycle {l : List Task} (ha : AllP l) {c k : Int} (hc : cycleP l c) (h0 : ∀ t ∈ l, t.D ≤ k) (n : Nat) : sumB l (k + c * (n : Int)) = sumB l k + (n : Int) * asked l c := by
  unfold sumB asked
  rw [← sumI_mul, ← sumI_add]
  refine sumI_congr fun t ht => ?_
  have hT := ha.T ht
  have hd := div_b hc.1 hT.1
  have e : c * (n : Int) = t.T * (((c / t.T).toNat * n : Nat) : Int) := by
    have h1 := hc.2 t ht
    have h2 : (((c / t.T).toNat * n : Nat) : Int) = (c / t.T) * (n : Int) := by
      rw [Int.natCast_mul, Int.toNat_of_nonneg hd.1]
    rw [h2, ← Int.mul_assoc, h1]
  unfold costN askC
  rw [e, jobsN_steps (ha.1 t ht) (h0 t ht), Int.mul_add, Int.natCast_mul, Int.toNat_of_nonneg hd.1, Int.mul_comm (c / t.T), Int.mul_left_comm]
theorem supV_cycle {f : Face} (hf : faceP f) {c k : Int} (hc : 0 ≤ c ∧ f.P * (c / f.P) = c) (h0 : f.P - f.B ≤ k) (n : Nat) : supV f (k + c * (n : Int)) = supV f k + (n : Int) * givenC f c := by
  obtain ⟨q, r, ht, hq, hr, hr2⟩ := qr_of hf h0
  have hf' := hf
  unfold faceP at hf'
  have hd := div_b hc.1 (show 1 ≤ f.P by omega)
  have hm : 0 ≤ (n : Int) * (c / f.P) := Int.mul_nonneg (by omega) hd.1
  have e : k + c * (n : Int) = (f.P - f.B) + (q + (n : Int) * (c / f.P)) * f.P + r := by
    have : c * (n : Int) = (n : Int) * (c / f.P) * f.P := by
      conv => lhs; rw [← hc.2]
      rw [Int.mul_comm f.P, Int.mul_comm _ (n : Int), Int.mul_assoc]
    rw [this, ht, Int.add_mul]; omega
  rw [supV_qr hf e (by omega) hr hr2, supV_qr hf ht hq hr hr2, Int.add_mul]
  unfold givenC
  have : (n : Int) * (c / f.P) * f.B = (n : Int) * (f.B * (c / f.P)) := by rw [Int.mul_assoc, Int.mul_comm (c / f.P)]
  omega
theorem cyc_cycle {l : List Task} {f : Face} (ha : AllP l) (hf : faceP f) {n : Nat} (hn : cyc l f ∣ n) : cycleP l (n : Int) ∧ 0 ≤ (n : Int) ∧ f.P * ((n : Int) / f.P) = (n : Int) := by
  unfold faceP at hf
  have h1 := (lcmL_dvd l f.P.toNat n).1 hn
  have key : ∀ T : Int, 1 ≤ T → T.toNat ∣ n → T * ((n : Int) / T) = (n : Int) := by
    intro T hT hd
    have e : T = ((T.toNat : Nat) : Int) := by omega
    have hd2 : T ∣ (n : Int) := by rw [e]; exact Int.natCast_dvd_natCast.2 hd
    exact Int.mul_ediv_cancel' hd2
  exact ⟨⟨by omega, fun t ht => key _ (ha.T ht).1 (h1.2 t ht)⟩, by omega, key _ (by omega) h1.1⟩
theorem blockV_far {l : List Task} {t : Int} (h : ∀ x ∈ l, x.D ≤ t) : blockV l t = 0 := by
  unfold blockV
  exact maxL_zero fun x hx => by unfold taskN; rw [if_pos (h x hx)]
/-- Tasks that fit do so for each tick, however many. -/
theorem fits_all {l : List Task} {f : Face} (h : fitsF l f) : ∀ t : Nat, needV l t ≤ supV f t := by
  obtain ⟨hok, has, hb⟩ := h
  obtain ⟨e1, e2⟩ := endN_eq hok
  have hc := cyc_b hok
  have hfv := farv_b hok.1 hok.2.1
  have hf := hok.2.1
  unfold faceP at hf
  obtain ⟨hcl, hcf⟩ := cyc_cycle hok.1 hok.2.1 (Nat.dvd_refl (cyc l f))
  have main : ∀ m t : Nat, t ≤ m → needV l t ≤ supV f t := by
    intro m
    induction m with
    | zero => intro t ht; exact badV_none.1 hb t (by omega)
    | succ m ih =>
      intro t ht
      by_cases c : t ≤ endN l f
      · exact badV_none.1 hb t c
      · have hk : ((t - cyc l f : Nat) : Int) = (t : Int) - (cyc l f : Int) := by omega
        have h1 := ih (t - cyc l f) (by omega)
        have hD : ∀ x ∈ l, x.D ≤ ((t - cyc l f : Nat) : Int) := fun x hx => by have := hfv.2.2 x hx; omega
        have hD2 : ∀ x ∈ l, x.D ≤ (t : Int) := fun x hx => by have := hD x hx; omega
        have e : (t : Int) = ((t - cyc l f : Nat) : Int) + (cyc l f : Int) * ((1 : Nat) : Int) := by omega
        have s1 := sumB_cycle hok.1 hcl hD 1
        have s2 := supV_cycle hok.2.1 hcf (k := ((t - cyc l f : Nat) : Int)) (by omega) 1
        rw [← e] at s1 s2
        unfold needV at *
        rw [blockV_far hD] at h1
        rw [blockV_far hD2, s1, s2]
        omega
  exact fun t => main t t (Nat.le_refl _)
theorem fits_int {l : List Task} {f : Face} (h : fitsF l f) {t : Int} (h0 : 0 ≤ t) : needV l t ≤ supV f t := by
  have := fits_all h t.toNat
  rwa [Int.toNat_of_nonneg h0] at this
/-! Fewer tasks; more of a budget. -/
theorem lcmL_sub {l l' : List Task} (h : ∀ t ∈ l', t ∈ l) (P : Nat) : lcmL P l' ∣ lcmL P l := by
  have h1 := (lcmL_dvd l P (lcmL P l)).1 (Nat.dvd_refl _)
  exact (lcmL_dvd l' P _).2 ⟨h1.1, fun t ht => h1.2 t (h t ht)⟩
theorem sumI_sub {α : Type} {f : α → Int} {l' l : List α} (h : l'.Sublist l) (h0 : ∀ x ∈ l, 0 ≤ f x) : sumI f l' ≤ sumI f l := by
  induction h with
  | slnil => exact Int.le_refl _
  | cons a _ ih =>
    have := ih fun x hx => h0 x (List.mem_cons_of_mem _ hx)
    have := h0 _ List.mem_cons_self
    simp only [sumI]; omega
  | cons_cons a _ ih =>
    have := ih fun x hx => h0 x (List.mem_cons_of_mem _ hx)
    simp only [sumI]; omega
theorem AllP.sub {l l' : List Task} (h : AllP l) (hs : l'.Sublist l) : AllP l' := ⟨fun t ht => h.1 t (hs.subset ht), Nat.le_trans hs.length_le h.2⟩
theorem needV_sub {l l' : List Task} (ha : AllP l) (hs : l'.Sublist l) {t : Int} (h0 : 0 ≤ t) : needV l' t ≤ needV l t := by
  have h1 := sumI_sub (f := costN t) hs fun x hx => costN_nonneg (ha.1 x hx) h0
  have h2 := blockV_mono (l := l') (l' := l) (t := t) fun x hx => hs.subset hx
  unfold needV sumB; omega
theorem fits_sub {l l' : List Task} {f : Face} (h : fitsF l f) (hs : l'.Sublist l) : fitsF l' f := by
  have hok := h.1
  have ha' := hok.1.sub hs
  have hc := cyc_b hok
  have hdv : cyc l' f ∣ cyc l f := lcmL_sub (fun t ht => hs.subset ht) _
  have hle : cyc l' f ≤ cyc l f := Nat.le_of_dvd (by omega) hdv
  have hpos : 0 < cyc l' f := by have := (cyc_take ha' hok.2.1 l'.length).1; rwa [List.take_length] at this
  have hfar : farv l' f ≤ farv l f := (farL_b l' (2 * f.P)).2.2 _ (farL_b l (2 * f.P)).1 fun t ht => (farL_b l (2 * f.P)).2.1 t (hs.subset ht)
  have hok' : okC l' f := ⟨ha', hok.2.1, by have := hok.2.2; omega⟩
  refine ⟨hok', ?_, badV_none.2 fun t _ => Int.le_trans (needV_sub hok.1 hs (by omega)) (fits_all h t)⟩
  obtain ⟨m, hm⟩ := hdv
  have hm0 : 0 < m := by
    rcases Nat.eq_zero_or_pos m with e | e
    · subst e; simp at hm; omega
    · exact e
  obtain ⟨c1, _, c2⟩ := cyc_cycle ha' hok.2.1 (Nat.dvd_refl (cyc l' f))
  have hf := hok.2.1
  unfold faceP at hf
  have key : ∀ T : Int, 1 ≤ T → T * ((cyc l' f : Int) / T) = (cyc l' f : Int) → (cyc l f : Int) / T = (m : Int) * ((cyc l' f : Int) / T) := by
    intro T hT he
    have : (cyc l f : Int) = T * ((m : Int) * ((cyc l' f : Int) / T)) := by
      rw [Int.mul_left_comm, he, hm, Int.natCast_mul, Int.mul_comm]
    rw [this, Int.mul_ediv_cancel_left _ (by omega), ]
  have a1 : asked l' (cyc l f) = (m : Int) * asked l' (cyc l' f) := by
    unfold asked
    rw [← sumI_mul]
    refine sumI_congr fun t ht => ?_
    unfold askC
    rw [key t.T (ha'.T ht).1 (c1.2 t ht), Int.mul_left_comm]
  have a2 : givenC f (cyc l f) = (m : Int) * givenC f (cyc l' f) := by
    unfold givenC
    rw [key f.P (by omega) c2, Int.mul_left_comm]
  have a3 : asked l' (cyc l f) ≤ asked l (cyc l f) := sumI_sub hs fun t ht => by
    have hT := hok.1.T ht
    have := div_b (show 0 ≤ (cyc l f : Int) by omega) hT.1
    exact Int.mul_nonneg (by omega) this.1
  have a4 := h.2.1
  rw [a2] at a4
  rw [a1] at a3
  exact Int.le_of_mul_le_mul_left (Int.le_trans a3 a4) (by omega)
theorem supV_more {f : Face} (hf : faceP f) (hf2 : faceP ⟨f.P, f.B + 1⟩) {t : Int} (h0 : 0 ≤ t) : supV f t ≤ supV ⟨f.P, f.B + 1⟩ t := by
  have hf' := hf
  unfold faceP at hf'
  by_cases c : t < f.P - f.B
  · rw [supV_low c]; exact (supV_b hf2 h0).1
  · obtain ⟨q, r, ht, hq, hr, hr2⟩ := qr_of hf (show f.P - f.B ≤ t by omega)
    rw [supV_qr hf ht hq hr hr2]
    have hq1 : q * (f.B + 1) = q * f.B + q := by rw [Int.mul_add, Int.mul_one]
    by_cases c2 : r + 1 < f.P
    · rw [supV_qr hf2 (t := t) (q := q) (r := r + 1) (by simp only; omega) hq (by omega) c2]
      simp only
      rw [hq1]
      unfold max0; split <;> split <;> omega
    · have hq2 : (q + 1) * f.P = q * f.P + f.P := by rw [Int.add_mul, Int.one_mul]
      have hq3 : (q + 1) * (f.B + 1) = q * f.B + q + f.B + 1 := by rw [Int.add_mul, Int.one_mul, hq1]; omega
      rw [supV_qr hf2 (t := t) (q := q + 1) (r := 0) (by simp only; rw [hq2]; omega) (by omega) (by omega) (by simp only; omega)]
      simp only
      rw [hq3]
      unfold max0; split <;> split <;> omega
theorem fits_more {l : List Task} {f : Face} (h : fitsF l f) (hb : f.B + 1 ≤ f.P) : fitsF l ⟨f.P, f.B + 1⟩ := by
  have hok := h.1
  have hf := hok.2.1
  unfold faceP at hf
  have hf2 : faceP ⟨f.P, f.B + 1⟩ := by unfold faceP; simp only; omega
  have hc := cyc_b hok
  refine ⟨⟨hok.1, hf2, hok.2.2⟩, ?_, badV_none.2 fun t _ => Int.le_trans (fits_all h t) (supV_more hok.2.1 hf2 (by omega))⟩
  have := h.2.1
  have e : cyc l ⟨f.P, f.B + 1⟩ = cyc l f := rfl
  rw [e]
  have hd := div_b (show 0 ≤ (cyc l f : Int) by omega) (show 1 ≤ f.P by omega)
  unfold givenC at *
  simp only
  rw [Int.add_mul, Int.one_mul]; omega
/-- Where tasks don't fit, there is a tick for which they don't. -/
def someT (l : List Task) (f : Face) : Int := match badV l f (endN l f) with | some t => (t : Int) | none => (endN l f : Int) + (cyc l f : Int) * (supV f (endN l f) + 1)
theorem someT_bad {l : List Task} {f : Face} (hok : okC l f) (h : ¬ fitsF l f) : 0 ≤ someT l f ∧ someT l f ≤ 2199023255552 ∧ sumB l (someT l f) ≤ needV l (someT l f) ∧ needV l (someT l f) > supV f (someT l f) := by
  obtain ⟨e1, e2⟩ := endN_eq hok
  have hc := cyc_b hok
  have hfv := farv_b hok.1 hok.2.1
  have hf := hok.2.1
  unfold faceP at hf
  have hge : ∀ t, sumB l t ≤ needV l t := fun t => by unfold needV; omega
  unfold someT
  cases hb : badV l f (endN l f) with
  | some t =>
    obtain ⟨h1, h2, _⟩ := badV_some.1 hb
    exact ⟨by simp only; omega, by simp only; omega, hge _, h2⟩
  | none =>
    have hask : ¬ asked l (cyc l f) ≤ givenC f (cyc l f) := fun hh => h ⟨hok, hh, hb⟩
    have hs := supV_b hok.2.1 (t := (endN l f : Int)) (by omega)
    have en : supV f (endN l f) + 1 = (((supV f (endN l f) + 1).toNat : Nat) : Int) := by omega
    obtain ⟨hcl, hcf⟩ := cyc_cycle hok.1 hok.2.1 (Nat.dvd_refl (cyc l f))
    have s1 := sumB_cycle hok.1 hcl (k := (endN l f : Int)) (fun x hx => by have := hfv.2.2 x hx; omega) (supV f (endN l f) + 1).toNat
    have s2 := supV_cycle hok.2.1 hcf (k := (endN l f : Int)) (by omega) (supV f (endN l f) + 1).toNat
    rw [← en] at s1 s2
    have hm : (cyc l f : Int) * (supV f (endN l f) + 1) ≤ 3000 * 3001 := Int.mul_le_mul hc.2 (by omega) (by omega) (by omega)
    have hm0 : 0 ≤ (cyc l f : Int) * (supV f (endN l f) + 1) := Int.mul_nonneg (by omega) (by omega)
    have hB := sumB_nonneg hok.1 (k := (endN l f : Int)) (by omega)
    have hx : (supV f (endN l f) + 1) * (givenC f (cyc l f) + 1) ≤ (supV f (endN l f) + 1) * asked l (cyc l f) := Int.mul_le_mul_of_nonneg_left (by omega) (by omega)
    rw [Int.mul_add, Int.mul_one] at hx
    refine ⟨by simp only; omega, by simp only; omega, hge _, ?_⟩
    have := hge ((endN l f : Int) + (cyc l f : Int) * (supV f (endN l f) + 1))
    simp only
    omega

theorem errC_cases (l : List Task) (f : Face) : errC l f = 0 ∨ errC l f = 1 ∨ errC l f = 5 := by
  unfold errC; split
  · exact .inl rfl
  · split
    · exact .inr (.inr rfl)
    · exact .inr (.inl rfl)
theorem errC_ok {l : List Task} {f : Face} (h : okC l f) : errC l f = 0 := by unfold errC; rw [if_pos h]
theorem err3 (l : List Task) (f : Face) (x : Option Bool) : fk (decide (errC l f = (0 : Int))) (some true) (fk (decide (errC l f = (1 : Int))) (some true) (fk (decide (errC l f = (5 : Int))) (some true) x)) = some true := by
  rcases errC_cases l f with h | h | h <;> rw [h] <;> rfl
theorem firstV_err {l : List Task} {f : Face} (h : ¬ okC l f) : firstV l f = (0, false, errC l f) := by unfold firstV; rw [if_neg h]
theorem firstV_ok {l : List Task} {f : Face} (h : okC l f) : (firstV l f).2.2 = 0 := by unfold firstV; rw [if_pos h]; cases badV l f (endN l f) <;> rfl

end Go.Proofs.Ytghpokloofnbkaa
namespace Go.Proofs.Ytghpokloofnbkaa
open Go Go.VC
noncomputable def face_Least_1 (a0 : Int) (a1 : List Task) (a2 : Int) : Option Bool :=
  bnd (verdict_Fits a1 ⟨a2, a0⟩) fun x1 => some x1.1
theorem face_Least_1_w (a0 : Int) (a1 : List Task) (a2 : Int) (r : Bool) (h : face_Least_1 a0 a1 a2 = some r) : Go.VC.Spec Try.prog 18 [.d (.int .i64 a0), .dp [.sl (a1.map Task.enc)], .dp [.int .i64 a2]] (fun y => y = E_Bool r) := by
  refine Go.VC.Spec.of_xc (args := [.d (.int .i64 a0), .dp [.sl (a1.map Task.enc)], .dp [.int .i64 a2]]) (fn := Try.f18) tab ⟨[(0, [0, 1, 2]), (1, [5]), (2, [4])], [], [], []⟩ 16 [.tmp 4] rfl rfl rfl rfl rfl rfl ?_
  conv => whnf
  refine caS (E := E_Bool_Int) h (verdict_Fits_w a1 ⟨a2, a0⟩) rfl (fun _ => rfl) (fun x1 h => ?_)
  conv => whnf
  exact rt (E := E_Bool) h rfl

end Go.Proofs.Ytghpokloofnbkaa
namespace Go.Proofs.Ytghpokloofnbkaa
open Go Go.VC
noncomputable def face_least_int (a0 : Int) (a1 : Int) (a2 : List Task) (a3 : Int) : Option (Int × Bool) :=
  bnd (face_Least_1 a1 a2 a3) fun x1 => fk (!x1) (some ((0 : Int), false)) (lp (fun nx2 (v2 : Int × Int) => fk (decide (v2.1 < v2.2)) (ck (decide ((2 : Int) ≠ 0)) (bnd (face_Least_1 (wr (v2.1 + (wr ((wr (v2.2 - v2.1)).tdiv (2 : Int))))) a2 a3) fun x3 => fk x3 (nx2 (v2.1, (wr (v2.1 + (wr ((wr (v2.2 - v2.1)).tdiv (2 : Int))))))) (nx2 ((wr ((wr (v2.1 + (wr ((wr (v2.2 - v2.1)).tdiv (2 : Int))))) + (1 : Int))), v2.2)))) (some (v2.2, true))) FU (a0, a1))
theorem face_least_int_w (a0 : Int) (a1 : Int) (a2 : List Task) (a3 : Int) (r : Int × Bool) (h : face_least_int a0 a1 a2 a3 = some r) : Go.VC.Spec Try.prog 17 [.d (.int .i64 a0), .d (.int .i64 a1), .d (.fn 18 [[.sl (a2.map Task.enc)], [.int .i64 a3]])] (fun y => y = E_Int_Bool r) := by
  refine Go.VC.Spec.of_xc (args := [.d (.int .i64 a0), .d (.int .i64 a1), .d (.fn 18 [[.sl (a2.map Task.enc)], [.int .i64 a3]])]) (fn := Try.f17) tab ⟨[(0, [0, 1, 2]), (1, [0, 1, 2, 12]), (2, [6, 7]), (3, [0, 1, 2, 15]), (4, [0, 1, 2, 8]), (5, [0, 1, 2, 8, 24]), (6, [0, 1, 2]), (7, [0, 1, 2]), (8, [6, 7])], [], [], []⟩ 29 [.tmp 6, .tmp 7] rfl rfl rfl rfl rfl rfl ?_
  conv => whnf
  refine caS (E := E_Bool) h (face_Least_1_w a1 a2 a3) rfl (fun _ => rfl) (fun x1 h => ?_)
  conv => whnf
  refine fkS h (fun h => ?_) (fun h => ?_)
  · conv => whnf
    exact rt (E := E_Int_Bool) h rfl
  conv => whnf
  refine lpS (fun v2 => ⟨[(0, .l (.d (.int .i64 v2.1))), (1, .l (.d (.int .i64 v2.2))), (2, .l (.d (.fn 18 [[.sl (a2.map Task.enc)], [.int .i64 a3]])))], 29, [], [], []⟩) h (Weak.trans (Weak.keepS _ [0, 1, 2]) (Weak.refl _)) (fun _ nx2 hn2 v2 h => ?_)
  conv => whnf
  refine fkS h (fun h => ?_) (fun h => ?_)
  · conv => whnf
    refine dvS h (fun h => ?_)
    conv => whnf
    refine caS (E := E_Bool) h (face_Least_1_w (wr (v2.1 + (wr ((wr (v2.2 - v2.1)).tdiv (2 : Int))))) a2 a3) rfl (fun _ => rfl) (fun x3 h => ?_)
    conv => whnf
    refine fkS h (fun h => ?_) (fun h => ?_)
    · conv => whnf
      exact leS hn2 h (Weak.refl _)
    conv => whnf
    exact leS hn2 h (Weak.refl _)
  conv => whnf
  exact rt (E := E_Int_Bool) h rfl

end Go.Proofs.Ytghpokloofnbkaa
namespace Go.Proofs.Ytghpokloofnbkaa
open Go Go.VC
noncomputable def face_Least (a0 : List Task) (a1 : Int) : Option (Face × Int) :=
  jn (fun (w1 : Bool) => fk w1 (some (⟨(0 : Int), (0 : Int)⟩, (1 : Int))) (bnd (verdict_Fits a0 ⟨a1, (1 : Int)⟩) fun x3 => fk (!decide (x3.2 = (0 : Int))) (some (⟨(0 : Int), (0 : Int)⟩, x3.2)) (bnd (face_least_int (1 : Int) a1 a0 a1) fun x4 => fk (!x4.2) (some (⟨(0 : Int), (0 : Int)⟩, (7 : Int))) (some (⟨a1, x4.1⟩, (0 : Int)))))) (fun k1 => bnd (task_All a0) fun x2 => fk (!x2) (k1 true) (fk (decide (a1 < (1 : Int))) (k1 true) (k1 (decide (a1 > (200 : Int))))))
theorem face_Least_w (a0 : List Task) (a1 : Int) (r : Face × Int) (h : face_Least a0 a1 = some r) : Go.VC.Spec Try.prog 9 [.d (.sl (a0.map Task.enc)), .d (.int .i64 a1)] (fun y => y = E_Face_Int r) := by
  refine Go.VC.Spec.of_xc (args := [.d (.sl (a0.map Task.enc)), .d (.int .i64 a1)]) (fn := Try.f9) tab ⟨[(0, [2, 3, 4]), (1, [2, 3, 4, 20]), (2, [4, 5]), (3, [2, 3, 4, 7]), (4, [2, 3, 4, 7, 30]), (5, [4, 5]), (6, [3, 4, 8, 9]), (7, [3, 4, 8, 40]), (8, [4, 5]), (9, [4, 5])], [], [100020], []⟩ 45 [.cell 4 26, .tmp 5] rfl rfl rfl rfl rfl rfl ?_
  conv => whnf
  refine jnS (fun w1 => ⟨[(2, .l (.ptr 3 0)), (3, .l (.ptr 4 0)), (4, .l (.ptr 5 0)), (20, .l (.d (.bool w1)))], 45, [], [(3, [.d (.sl (a0.map Task.enc))]), (4, [.d (.int .i64 a1)]), (5, [.d (.int .i64 (0 : Int)), .d (.int .i64 (0 : Int))])], []⟩) h (fun k1 hk1 h => ?_) (fun w1 h => ?_)
  · conv => whnf
    refine caS (E := E_Bool) h (task_All_w a0) rfl (fun _ => rfl) (fun x2 h => ?_)
    conv => whnf
    refine fkS h (fun h => ?_) (fun h => ?_)
    · conv => whnf
      exact jeS hk1 h (Weak.refl _)
    conv => whnf
    refine fkS h (fun h => ?_) (fun h => ?_)
    · conv => whnf
      exact jeS hk1 h (Weak.refl _)
    conv => whnf
    exact jeS hk1 h (Weak.refl _)
  conv => whnf
  refine fkS h (fun h => ?_) (fun h => ?_)
  · conv => whnf
    exact rt (E := E_Face_Int) h rfl
  conv => whnf
  refine caS (E := E_Bool_Int) h (verdict_Fits_w a0 ⟨a1, (1 : Int)⟩) rfl (fun _ => rfl) (fun x3 h => ?_)
  conv => whnf
  refine fkS h (fun h => ?_) (fun h => ?_)
  · conv => whnf
    exact rt (E := E_Face_Int) h rfl
  conv => whnf
  refine caS (E := E_Int_Bool) h (face_least_int_w (1 : Int) a1 a0 a1) rfl (fun _ => rfl) (fun x4 h => ?_)
  conv => whnf
  refine fkS h (fun h => ?_) (fun h => ?_)
  · conv => whnf
    exact rt (E := E_Face_Int) h rfl
  conv => whnf
  exact rt (E := E_Face_Int) h rfl

end Go.Proofs.Ytghpokloofnbkaa
namespace Go.Proofs.Ytghpokloofnbkaa
open Go Go.VC
noncomputable def face_Best (a0 : List Task) (a1 : Int) : Option (Face × Int) :=
  jn (fun (w1 : Bool) => fk w1 (some (⟨(0 : Int), (0 : Int)⟩, (1 : Int))) (lp (fun nx3 (v3 : Int × Int × Int × Int) => fk (decide (v3.2.2.2 ≤ a1)) (jn (fun (w4 : Int × Int × Int) => nx3 (w4.1, w4.2.1, w4.2.2, (wr (v3.2.2.2 + (1 : Int))))) (fun k4 => bnd (face_Least a0 v3.2.2.2) fun x5 => jn (fun (w6 : Bool) => fk w6 (k4 (x5.1.P, x5.1.B, (0 : Int))) (k4 (v3.1, v3.2.1, v3.2.2.1))) (fun k6 => fk (decide (x5.2 = (0 : Int))) (fk (!decide (v3.2.2.1 = (0 : Int))) (k6 true) (k6 (decide ((wr (x5.1.B * v3.1)) ≤ (wr (v3.2.1 * x5.1.P)))))) (k6 false)))) (some (⟨v3.1, v3.2.1⟩, v3.2.2.1))) FU ((0 : Int), (0 : Int), (7 : Int), (1 : Int)))) (fun k1 => bnd (task_All a0) fun x2 => fk (!x2) (k1 true) (fk (decide (a1 < (1 : Int))) (k1 true) (k1 (decide (a1 > (24 : Int))))))
theorem face_Best_w (a0 : List Task) (a1 : Int) (r : Face × Int) (h : face_Best a0 a1 = some r) : Go.VC.Spec Try.prog 13 [.d (.sl (a0.map Task.enc)), .d (.int .i64 a1)] (fun y => y = E_Face_Int r) := by
  refine Go.VC.Spec.of_xc (args := [.d (.sl (a0.map Task.enc)), .d (.int .i64 a1)]) (fn := Try.f13) tab ⟨[(0, [0, 1, 4]), (1, [0, 1, 4, 21]), (2, [4, 5]), (3, [0, 1, 4, 6, 7]), (4, [0, 1, 4, 6, 7, 8]), (5, [0, 1, 4, 6, 7, 8, 26]), (6, [0, 1, 4, 6, 7, 8]), (7, [0, 1, 4, 6, 7, 8, 9, 10]), (8, [0, 1, 4, 6, 7, 8, 9, 53]), (9, [0, 1, 4, 6, 7, 8]), (10, [4, 5])], [], [100021, 100053, 6], []⟩ 57 [.cell 4 26, .tmp 5] rfl rfl rfl rfl rfl rfl ?_
  conv => whnf
  refine jnS (fun w1 => ⟨[(0, .l (.d (.sl (a0.map Task.enc)))), (1, .l (.d (.int .i64 a1))), (4, .l (.ptr 5 0)), (21, .l (.d (.bool w1)))], 57, [], [(5, [.d (.int .i64 (0 : Int)), .d (.int .i64 (0 : Int))])], []⟩) h (fun k1 hk1 h => ?_) (fun w1 h => ?_)
  · conv => whnf
    refine caS (E := E_Bool) h (task_All_w a0) rfl (fun _ => rfl) (fun x2 h => ?_)
    conv => whnf
    refine fkS h (fun h => ?_) (fun h => ?_)
    · conv => whnf
      exact jeS hk1 h (Weak.refl _)
    conv => whnf
    refine fkS h (fun h => ?_) (fun h => ?_)
    · conv => whnf
      exact jeS hk1 h (Weak.refl _)
    conv => whnf
    exact jeS hk1 h (Weak.refl _)
  conv => whnf
  refine fkS h (fun h => ?_) (fun h => ?_)
  · conv => whnf
    exact rt (E := E_Face_Int) h rfl
  conv => whnf
  refine lpS (fun v3 => ⟨[(0, .l (.d (.sl (a0.map Task.enc)))), (1, .l (.d (.int .i64 a1))), (4, .l (.ptr 5 0)), (6, .l (.ptr 7 0)), (7, .l (.d (.int .i64 v3.2.2.1))), (8, .l (.d (.int .i64 v3.2.2.2)))], 57, [], [(5, [.d (.int .i64 (0 : Int)), .d (.int .i64 (0 : Int))]), (7, [.d (.int .i64 v3.1), .d (.int .i64 v3.2.1)])], []⟩) h (Weak.refl _) (fun _ nx3 hn3 v3 h => ?_)
  conv => whnf
  refine fkS h (fun h => ?_) (fun h => ?_)
  · conv => whnf
    refine jnS (fun w4 => ⟨[(0, .l (.d (.sl (a0.map Task.enc)))), (1, .l (.d (.int .i64 a1))), (4, .l (.ptr 5 0)), (6, .l (.ptr 7 0)), (7, .l (.d (.int .i64 w4.2.2))), (8, .l (.d (.int .i64 v3.2.2.2)))], 57, [], [(5, [.d (.int .i64 (0 : Int)), .d (.int .i64 (0 : Int))]), (7, [.d (.int .i64 w4.1), .d (.int .i64 w4.2.1)])], []⟩) h (fun k4 hk4 h => ?_) (fun w4 h => ?_)
    · conv => whnf
      refine ccS (E := E_Face_Int) h (face_Least_w a0 v3.2.2.2) rfl rfl (fun x5 h => ?_)
      conv => whnf
      refine jnS (fun w6 => ⟨[(0, .l (.d (.sl (a0.map Task.enc)))), (1, .l (.d (.int .i64 a1))), (4, .l (.ptr 5 0)), (6, .l (.ptr 7 0)), (7, .l (.d (.int .i64 v3.2.2.1))), (8, .l (.d (.int .i64 v3.2.2.2))), (9, .l (.ptr 10 0)), (53, .l (.d (.bool w6)))], 57, [], [(5, [.d (.int .i64 (0 : Int)), .d (.int .i64 (0 : Int))]), (7, [.d (.int .i64 v3.1), .d (.int .i64 v3.2.1)]), (10, [.d (.int .i64 x5.1.P), .d (.int .i64 x5.1.B)])], []⟩) h (fun k6 hk6 h => ?_) (fun w6 h => ?_)
      · conv => whnf
        refine fkS h (fun h => ?_) (fun h => ?_)
        · conv => whnf
          refine fkS h (fun h => ?_) (fun h => ?_)
          · conv => whnf
            exact jeS hk6 h (Weak.refl _)
          conv => whnf
          exact jeS hk6 h (Weak.refl _)
        conv => whnf
        exact jeS hk6 h (Weak.refl _)
      conv => whnf
      refine fkS h (fun h => ?_) (fun h => ?_)
      · conv => whnf
        exact jeS hk4 h (Weak.refl _)
      conv => whnf
      refine jeX hk4 h ?_
      conv => whnf
      refine WkF.step (Weak.keepS _ [0, 1, 4, 6, 7, 8]) ?_
      conv => whnf
      exact WkF.refl _
    conv => whnf
    exact leS hn3 h (Weak.refl _)
  conv => whnf
  exact rt (E := E_Face_Int) h rfl

end Go.Proofs.Ytghpokloofnbkaa
namespace Go.Proofs.Ytghpokloofnbkaa
open Go Go.VC
noncomputable def ref11_Least (a0 : List Task) (a1 : Int) : Option (Int × Int) :=
  jn (fun (w1 : Bool) => fk w1 (some ((0 : Int), (1 : Int))) (bnd (ref10_Cycle a0 ⟨a1, (1 : Int)⟩) fun x3 => fk (!decide (x3.2.2 = (0 : Int))) (some ((0 : Int), x3.2.2)) (lp (fun nx4 (v4 : Int) => fk (decide (v4 ≤ a1)) (bnd (ref10_Fits a0 ⟨a1, v4⟩) fun x5 => fk x5 (some (v4, (0 : Int))) (nx4 (wr (v4 + (1 : Int))))) (some ((0 : Int), (7 : Int)))) FU (1 : Int)))) (fun k1 => bnd (ref05_All a0) fun x2 => fk (!x2) (k1 true) (fk (decide (a1 < (1 : Int))) (k1 true) (k1 (decide (a1 > (200 : Int))))))
theorem ref11_Least_w (a0 : List Task) (a1 : Int) (r : Int × Int) (h : ref11_Least a0 a1 = some r) : Go.VC.Spec Try.prog 10 [.d (.sl (a0.map Task.enc)), .d (.int .i64 a1)] (fun y => y = E_Int_Int r) := by
  refine Go.VC.Spec.of_xc (args := [.d (.sl (a0.map Task.enc)), .d (.int .i64 a1)]) (fn := Try.f10) tab ⟨[(0, [0, 1]), (1, [0, 1, 20]), (2, [4, 5]), (3, [0, 1, 8]), (4, [0, 1, 8, 30]), (5, [4, 5]), (6, [0, 1, 9]), (7, [0, 1, 9, 34]), (8, [0, 1, 9]), (9, [0, 1, 9, 41]), (10, [4, 5]), (11, [4, 5])], [], [100020], []⟩ 43 [.tmp 4, .tmp 5] rfl rfl rfl rfl rfl rfl ?_
  conv => whnf
  refine jnS (fun w1 => ⟨[(0, .l (.d (.sl (a0.map Task.enc)))), (1, .l (.d (.int .i64 a1))), (20, .l (.d (.bool w1)))], 43, [], [], []⟩) h (fun k1 hk1 h => ?_) (fun w1 h => ?_)
  · conv => whnf
    refine caS (E := E_Bool) h (ref05_All_w a0) rfl (fun _ => rfl) (fun x2 h => ?_)
    conv => whnf
    refine fkS h (fun h => ?_) (fun h => ?_)
    · conv => whnf
      exact jeS hk1 h (Weak.refl _)
    conv => whnf
    refine fkS h (fun h => ?_) (fun h => ?_)
    · conv => whnf
      exact jeS hk1 h (Weak.refl _)
    conv => whnf
    exact jeS hk1 h (Weak.refl _)
  conv => whnf
  refine fkS h (fun h => ?_) (fun h => ?_)
  · conv => whnf
    exact rt (E := E_Int_Int) h rfl
  conv => whnf
  refine caS (E := E_Int_Int_Int) h (ref10_Cycle_w a0 ⟨a1, (1 : Int)⟩) rfl (fun _ => rfl) (fun x3 h => ?_)
  conv => whnf
  refine fkS h (fun h => ?_) (fun h => ?_)
  · conv => whnf
    exact rt (E := E_Int_Int) h rfl
  conv => whnf
  refine lpS (fun v4 => ⟨[(0, .l (.d (.sl (a0.map Task.enc)))), (1, .l (.d (.int .i64 a1))), (9, .l (.d (.int .i64 v4)))], 43, [], [], []⟩) h (Weak.refl _) (fun _ nx4 hn4 v4 h => ?_)
  conv => whnf
  refine fkS h (fun h => ?_) (fun h => ?_)
  · conv => whnf
    refine caS (E := E_Bool) h (ref10_Fits_w a0 ⟨a1, v4⟩) rfl (fun _ => rfl) (fun x5 h => ?_)
    conv => whnf
    refine fkS h (fun h => ?_) (fun h => ?_)
    · conv => whnf
      exact rt (E := E_Int_Int) h rfl
    conv => whnf
    exact leS hn4 h (Weak.refl _)
  conv => whnf
  exact rt (E := E_Int_Int) h rfl

end Go.Proofs.Ytghpokloofnbkaa
