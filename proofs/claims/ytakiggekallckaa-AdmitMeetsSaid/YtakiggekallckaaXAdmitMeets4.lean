/- Part 15 of what follows is proved here: what the statement AdmitMeets needs of functions and plain laws. -/
import Derived.Test.YtakiggekallckaaXAdmitMeets3
import Derived.Test.YtakiggekallckaaV9
import Derived.Test.YtakiggekallckaaV8
set_option linter.unusedVariables false
set_option linter.unusedSimpArgs false
set_option maxRecDepth 100000
set_option maxHeartbeats 4000000
namespace Go.VC
/-! Lists that are known row by row (slices of functions). -/
section
variable {R : Type} {r : R} {rows : List (List D)}
theorem ixC {A B : Option R} {n : Int} {sz : Nat} {K : List D → Prop} (j : Nat) (row : List D) (h : fk (decide (n = (j : Int))) A B = some r) (e : rows[j]? = some row) (hs : row.length = sz) (k1 : A = some r → K row) (k2 : B = some r → IdxK rows n sz K) : IdxK rows n sz K := by
  by_cases c : n = (j : Int)
  · rw [decide_eq_true c] at h
    exact ⟨by omega, row, by rw [c, Int.toNat_natCast]; exact e, hs, k1 h⟩
  · rw [decide_eq_false c] at h
    exact k2 h
theorem ixN {n : Int} {sz : Nat} {K : List D → Prop} (h : (none : Option R) = some r) : IdxK rows n sz K := by cases h
theorem liR {len : Nat} {K : List (List D) → Prop} (hl : rows.length = len) (k : K rows) : LitK rows len K := ⟨hl, k⟩
theorem lenR (n : Int) {K : Int → Prop} (e : (rows.length : Int) = n) (k : K n) : LenK rows K := ⟨by rw [e]; exact k⟩
end
end Go.VC
namespace Go.Proofs.Ytakiggekallckaa
open Go Go.VC
structure Entry where
  At : Int
  Kind : Int
  Task : Int
  deriving DecidableEq
def Entry.enc (x : Entry) : List Go.VC.D := [.int .i64 x.At, .int .i64 x.Kind, .int .i64 x.Task]
structure Face where
  P : Int
  B : Int
  deriving DecidableEq
def Face.enc (x : Face) : List Go.VC.D := [.int .i64 x.P, .int .i64 x.B]
structure Partbook where
  log : List Entry
  now : Int
  deriving DecidableEq
def Partbook.enc (x : Partbook) : List Go.VC.D := [.sl (x.log.map Entry.enc), .int .i64 x.now]
structure Job where
  Task : Int
  At : Int
  Due : Int
  Want : Int
  Had : Int
  Began : Bool
  deriving DecidableEq
def Job.enc (x : Job) : List Go.VC.D := [.int .i64 x.Task, .int .i64 x.At, .int .i64 x.Due, .int .i64 x.Want, .int .i64 x.Had, .bool x.Began]
structure Sec where
  Res : Int
  At : Int
  Len : Int
  deriving DecidableEq
def Sec.enc (x : Sec) : List Go.VC.D := [.int .i64 x.Res, .int .i64 x.At, .int .i64 x.Len]
structure Law17Act where
  Kind : Int
  I : Int
  Want : Int
  deriving DecidableEq
def Law17Act.enc (x : Law17Act) : List Go.VC.D := [.int .i64 x.Kind, .int .i64 x.I, .int .i64 x.Want]
structure Task where
  C : Int
  D : Int
  T : Int
  Secs : List Sec
  deriving DecidableEq
def Task.enc (x : Task) : List Go.VC.D := [.int .i64 x.C, .int .i64 x.D, .int .i64 x.T, .sl (x.Secs.map Sec.enc)]
structure Part where
  Face : Face
  Tasks : List Task
  deriving DecidableEq
def Part.enc (x : Part) : List Go.VC.D := [.int .i64 x.Face.P, .int .i64 x.Face.B, .sl (x.Tasks.map Task.enc)]
structure Law20Ask where
  Kind : Int
  I : Int
  Want : Int
  T : Task
  deriving DecidableEq
def Law20Ask.enc (x : Law20Ask) : List Go.VC.D := [.int .i64 x.Kind, .int .i64 x.I, .int .i64 x.Want, .int .i64 x.T.C, .int .i64 x.T.D, .int .i64 x.T.T, .sl (x.T.Secs.map Sec.enc)]
structure PartState where
  Tasks : List Task
  Leaves : List Bool
  Lasts : List Int
  Jobs : List Job
  Log : List Entry
  deriving DecidableEq
def PartState.enc (x : PartState) : List Go.VC.D := [.sl (x.Tasks.map Task.enc), .sl (x.Leaves.map eB), .sl (x.Lasts.map (eI .i64)), .sl (x.Jobs.map Job.enc), .sl (x.Log.map Entry.enc)]
structure Ref17State where
  Tasks : List Task
  Leaves : List Bool
  Lasts : List Int
  Jobs : List Job
  Log : List Entry
  deriving DecidableEq
def Ref17State.enc (x : Ref17State) : List Go.VC.D := [.sl (x.Tasks.map Task.enc), .sl (x.Leaves.map eB), .sl (x.Lasts.map (eI .i64)), .sl (x.Jobs.map Job.enc), .sl (x.Log.map Entry.enc)]
structure Parthand where
  book : Partbook
  s : PartState
  deriving DecidableEq
def Parthand.enc (x : Parthand) : List Go.VC.D := [.sl (x.book.log.map Entry.enc), .int .i64 x.book.now, .sl (x.s.Tasks.map Task.enc), .sl (x.s.Leaves.map eB), .sl (x.s.Lasts.map (eI .i64)), .sl (x.s.Jobs.map Job.enc), .sl (x.s.Log.map Entry.enc)]
def E_Bool : Bool → List CV := fun r => [.d (.bool r)]
def E_PartState_Int : (PartState × Int) → List CV := fun r => [.agg (PartState.enc r.1), .d (.int .i64 r.2)]
def E_ListInt_Int : ((List Int) × Int) → List CV := fun r => [.d (.sl (r.1.map (eI .i64))), .d (.int .i64 r.2)]
def E_Int : Int → List CV := fun r => [.d (.int .i64 r)]
def E_PartState_Int_Int : (PartState × Int × Int) → List CV := fun r => [.agg (PartState.enc r.1), .d (.int .i64 r.2.1), .d (.int .i64 r.2.2)]
def E_ListJob_Job_Bool : ((List Job) × Job × Bool) → List CV := fun r => [.d (.sl (r.1.map Job.enc)), .agg (Job.enc r.2.1), .d (.bool r.2.2)]
def E_ListInt : (List Int) → List CV := fun r => [.d (.sl (r.map (eI .i64)))]
def E_ListTask : (List Task) → List CV := fun r => [.d (.sl (r.map Task.enc))]
def E_ListBool : (List Bool) → List CV := fun r => [.d (.sl (r.map eB))]
def E_Ref17State : Ref17State → List CV := fun r => [.agg (Ref17State.enc r)]
def E_Ref17State_Int : (Ref17State × Int) → List CV := fun r => [.agg (Ref17State.enc r.1), .d (.int .i64 r.2)]
def E_ListEntry : (List Entry) → List CV := fun r => [.d (.sl (r.map Entry.enc))]
def E_PartState : PartState → List CV := fun r => [.agg (PartState.enc r)]
def E_Int_Int_Int : (Int × Int × Int) → List CV := fun r => [.d (.int .i64 r.1), .d (.int .i64 r.2.1), .d (.int .i64 r.2.2)]
def E_Bool_Int : (Bool × Int) → List CV := fun r => [.d (.bool r.1), .d (.int .i64 r.2)]
def E_Int_Int : (Int × Int) → List CV := fun r => [.d (.int .i64 r.1), .d (.int .i64 r.2)]
def E_Int_Bool_Int : (Int × Bool × Int) → List CV := fun r => [.d (.int .i64 r.1), .d (.bool r.2.1), .d (.int .i64 r.2.2)]
def E_Int_Bool : (Int × Bool) → List CV := fun r => [.d (.int .i64 r.1), .d (.bool r.2)]
end Go.Proofs.Ytakiggekallckaa
namespace Go.Proofs.Ytakiggekallckaa
open Go Go.VC
theorem andT {α : Type} {p : α → Prop} (h : ∃ x, p x) : ∃ x, p x ∧ True := h.imp fun _ h => ⟨h, trivial⟩
def wfI (k : IntKind) (n : Int) : Prop := (Lit.int k n).wf = true
abbrev tyT := T
def Sec.wf (x : Sec) : Prop := wfI .i64 x.Res ∧ wfI .i64 x.At ∧ wfI .i64 x.Len
theorem Sec.of {n : Nat} {ds : List Go.VC.D} (h : ShD tyT n 107 ds) : ∃ x : Sec, ds = x.enc ∧ x.wf := by
  obtain ⟨m, q0⟩ := h.st T107
  clear h
  obtain ⟨d0, r0, e0, h0, q1⟩ := q0.c
  obtain ⟨y0, z0, w0⟩ := (h0.i T3)
  obtain ⟨d1, r1, e1, h1, q2⟩ := q1.c
  obtain ⟨y1, z1, w1⟩ := (h1.i T3)
  obtain ⟨d2, r2, e2, h2, q3⟩ := q2.c
  obtain ⟨y2, z2, w2⟩ := (h2.i T3)
  subst e0 z0 e1 z1 e2 z2
  cases q3
  exact ⟨⟨y0, y1, y2⟩, rfl, w0, w1, w2⟩
def Task.wf (x : Task) : Prop := wfI .i64 x.C ∧ wfI .i64 x.D ∧ wfI .i64 x.T ∧ (x.Secs.length * 24 ≤ BB ∧ ∀ y1 ∈ x.Secs, Sec.wf y1)
theorem Task.of {n : Nat} {ds : List Go.VC.D} (h : ShD tyT n 47 ds) : ∃ x : Task, ds = x.enc ∧ x.wf := by
  obtain ⟨m, q0⟩ := h.st T47
  clear h
  obtain ⟨d0, r0, e0, h0, q1⟩ := q0.c
  obtain ⟨y0, z0, w0⟩ := (h0.i T3)
  obtain ⟨d1, r1, e1, h1, q2⟩ := q1.c
  obtain ⟨y1, z1, w1⟩ := (h1.i T3)
  obtain ⟨d2, r2, e2, h2, q3⟩ := q2.c
  obtain ⟨y2, z2, w2⟩ := (h2.i T3)
  obtain ⟨d3, r3, e3, h3, q4⟩ := q3.c
  obtain ⟨y3, z3, w3⟩ := (h3.l (f := Sec.enc) (W := (fun x => Sec.wf x)) T45 T107 (fun _ _ h => (Sec.of h)))
  subst e0 z0 e1 z1 e2 z2 e3 z3
  cases q4
  exact ⟨⟨y0, y1, y2, y3⟩, rfl, w0, w1, w2, w3⟩
def Job.wf (x : Job) : Prop := wfI .i64 x.Task ∧ wfI .i64 x.At ∧ wfI .i64 x.Due ∧ wfI .i64 x.Want ∧ wfI .i64 x.Had ∧ True
theorem Job.of {n : Nat} {ds : List Go.VC.D} (h : ShD tyT n 95 ds) : ∃ x : Job, ds = x.enc ∧ x.wf := by
  obtain ⟨m, q0⟩ := h.st T95
  clear h
  obtain ⟨d0, r0, e0, h0, q1⟩ := q0.c
  obtain ⟨y0, z0, w0⟩ := (h0.i T3)
  obtain ⟨d1, r1, e1, h1, q2⟩ := q1.c
  obtain ⟨y1, z1, w1⟩ := (h1.i T3)
  obtain ⟨d2, r2, e2, h2, q3⟩ := q2.c
  obtain ⟨y2, z2, w2⟩ := (h2.i T3)
  obtain ⟨d3, r3, e3, h3, q4⟩ := q3.c
  obtain ⟨y3, z3, w3⟩ := (h3.i T3)
  obtain ⟨d4, r4, e4, h4, q5⟩ := q4.c
  obtain ⟨y4, z4, w4⟩ := (h4.i T3)
  obtain ⟨d5, r5, e5, h5, q6⟩ := q5.c
  obtain ⟨y5, z5, w5⟩ := (andT (h5.b T4))
  subst e0 z0 e1 z1 e2 z2 e3 z3 e4 z4 e5 z5
  cases q6
  exact ⟨⟨y0, y1, y2, y3, y4, y5⟩, rfl, w0, w1, w2, w3, w4, w5⟩
def Entry.wf (x : Entry) : Prop := wfI .i64 x.At ∧ wfI .i64 x.Kind ∧ wfI .i64 x.Task
theorem Entry.of {n : Nat} {ds : List Go.VC.D} (h : ShD tyT n 57 ds) : ∃ x : Entry, ds = x.enc ∧ x.wf := by
  obtain ⟨m, q0⟩ := h.st T57
  clear h
  obtain ⟨d0, r0, e0, h0, q1⟩ := q0.c
  obtain ⟨y0, z0, w0⟩ := (h0.i T3)
  obtain ⟨d1, r1, e1, h1, q2⟩ := q1.c
  obtain ⟨y1, z1, w1⟩ := (h1.i T3)
  obtain ⟨d2, r2, e2, h2, q3⟩ := q2.c
  obtain ⟨y2, z2, w2⟩ := (h2.i T3)
  subst e0 z0 e1 z1 e2 z2
  cases q3
  exact ⟨⟨y0, y1, y2⟩, rfl, w0, w1, w2⟩
def PartState.wf (x : PartState) : Prop := (x.Tasks.length * 48 ≤ BB ∧ ∀ y1 ∈ x.Tasks, Task.wf y1) ∧ (x.Leaves.length * 1 ≤ BB ∧ ∀ y1 ∈ x.Leaves, True) ∧ (x.Lasts.length * 8 ≤ BB ∧ ∀ y1 ∈ x.Lasts, wfI .i64 y1) ∧ (x.Jobs.length * 48 ≤ BB ∧ ∀ y1 ∈ x.Jobs, Job.wf y1) ∧ (x.Log.length * 24 ≤ BB ∧ ∀ y1 ∈ x.Log, Entry.wf y1)
theorem PartState.of {n : Nat} {ds : List Go.VC.D} (h : ShD tyT n 28 ds) : ∃ x : PartState, ds = x.enc ∧ x.wf := by
  obtain ⟨m, q0⟩ := h.st T28
  clear h
  obtain ⟨d0, r0, e0, h0, q1⟩ := q0.c
  obtain ⟨y0, z0, w0⟩ := (h0.l (f := Task.enc) (W := (fun x => Task.wf x)) T22 T47 (fun _ _ h => (Task.of h)))
  obtain ⟨d1, r1, e1, h1, q2⟩ := q1.c
  obtain ⟨y1, z1, w1⟩ := (h1.l (f := eB) (W := (fun x => True)) T23 T4 (fun _ _ h => (andT (h.b T4))))
  obtain ⟨d2, r2, e2, h2, q3⟩ := q2.c
  obtain ⟨y2, z2, w2⟩ := (h2.l (f := (eI .i64)) (W := (fun x => wfI .i64 x)) T24 T3 (fun _ _ h => (h.i T3)))
  obtain ⟨d3, r3, e3, h3, q4⟩ := q3.c
  obtain ⟨y3, z3, w3⟩ := (h3.l (f := Job.enc) (W := (fun x => Job.wf x)) T25 T95 (fun _ _ h => (Job.of h)))
  obtain ⟨d4, r4, e4, h4, q5⟩ := q4.c
  obtain ⟨y4, z4, w4⟩ := (h4.l (f := Entry.enc) (W := (fun x => Entry.wf x)) T26 T57 (fun _ _ h => (Entry.of h)))
  subst e0 z0 e1 z1 e2 z2 e3 z3 e4 z4
  cases q5
  exact ⟨⟨y0, y1, y2, y3, y4⟩, rfl, w0, w1, w2, w3, w4⟩
def Law17Act.wf (x : Law17Act) : Prop := wfI .i64 x.Kind ∧ wfI .i64 x.I ∧ wfI .i64 x.Want
theorem Law17Act.of {n : Nat} {ds : List Go.VC.D} (h : ShD tyT n 109 ds) : ∃ x : Law17Act, ds = x.enc ∧ x.wf := by
  obtain ⟨m, q0⟩ := h.st T109
  clear h
  obtain ⟨d0, r0, e0, h0, q1⟩ := q0.c
  obtain ⟨y0, z0, w0⟩ := (h0.i T3)
  obtain ⟨d1, r1, e1, h1, q2⟩ := q1.c
  obtain ⟨y1, z1, w1⟩ := (h1.i T3)
  obtain ⟨d2, r2, e2, h2, q3⟩ := q2.c
  obtain ⟨y2, z2, w2⟩ := (h2.i T3)
  subst e0 z0 e1 z1 e2 z2
  cases q3
  exact ⟨⟨y0, y1, y2⟩, rfl, w0, w1, w2⟩
def Face.wf (x : Face) : Prop := wfI .i64 x.P ∧ wfI .i64 x.B
theorem Face.of {n : Nat} {ds : List Go.VC.D} (h : ShD tyT n 60 ds) : ∃ x : Face, ds = x.enc ∧ x.wf := by
  obtain ⟨m, q0⟩ := h.st T60
  clear h
  obtain ⟨d0, r0, e0, h0, q1⟩ := q0.c
  obtain ⟨y0, z0, w0⟩ := (h0.i T3)
  obtain ⟨d1, r1, e1, h1, q2⟩ := q1.c
  obtain ⟨y1, z1, w1⟩ := (h1.i T3)
  subst e0 z0 e1 z1
  cases q2
  exact ⟨⟨y0, y1⟩, rfl, w0, w1⟩
def Part.wf (x : Part) : Prop := Face.wf x.Face ∧ (x.Tasks.length * 48 ≤ BB ∧ ∀ y1 ∈ x.Tasks, Task.wf y1)
theorem Part.of {n : Nat} {ds : List Go.VC.D} (h : ShD tyT n 62 ds) : ∃ x : Part, ds = x.enc ∧ x.wf := by
  obtain ⟨m, q0⟩ := h.st T62
  clear h
  obtain ⟨d0, r0, e0, h0, q1⟩ := q0.c
  obtain ⟨y0, z0, w0⟩ := (Face.of h0)
  obtain ⟨d1, r1, e1, h1, q2⟩ := q1.c
  obtain ⟨y1, z1, w1⟩ := (h1.l (f := Task.enc) (W := (fun x => Task.wf x)) T22 T47 (fun _ _ h => (Task.of h)))
  subst e0 z0 e1 z1
  cases q2
  exact ⟨⟨y0, y1⟩, rfl, w0, w1⟩
def Law20Ask.wf (x : Law20Ask) : Prop := wfI .i64 x.Kind ∧ wfI .i64 x.I ∧ wfI .i64 x.Want ∧ Task.wf x.T
theorem Law20Ask.of {n : Nat} {ds : List Go.VC.D} (h : ShD tyT n 80 ds) : ∃ x : Law20Ask, ds = x.enc ∧ x.wf := by
  obtain ⟨m, q0⟩ := h.st T80
  clear h
  obtain ⟨d0, r0, e0, h0, q1⟩ := q0.c
  obtain ⟨y0, z0, w0⟩ := (h0.i T3)
  obtain ⟨d1, r1, e1, h1, q2⟩ := q1.c
  obtain ⟨y1, z1, w1⟩ := (h1.i T3)
  obtain ⟨d2, r2, e2, h2, q3⟩ := q2.c
  obtain ⟨y2, z2, w2⟩ := (h2.i T3)
  obtain ⟨d3, r3, e3, h3, q4⟩ := q3.c
  obtain ⟨y3, z3, w3⟩ := (Task.of h3)
  subst e0 z0 e1 z1 e2 z2 e3 z3
  cases q4
  exact ⟨⟨y0, y1, y2, y3⟩, rfl, w0, w1, w2, w3⟩
end Go.Proofs.Ytakiggekallckaa
namespace Go.Proofs.Ytakiggekallckaa
open Go Go.VC
noncomputable def arith_may (a0 : List Int) : Option Bool :=
  lp (fun nx1 (v1 : Int) => fk (decide (v1 < (a0.length : Int))) (ix a0 v1 fun x2 => jn (fun (w3 : Bool) => fk w3 (some false) (nx1 (wr (v1 + (1 : Int))))) (fun k3 => fk (decide (x2 > (4611686018427387903 : Int))) (k3 true) (k3 (decide (x2 < (-4611686018427387903 : Int)))))) (some true)) FU (0 : Int)
theorem arith_may_w (a0 : List Int) (r : Bool) (h : arith_may a0 = some r) : Go.VC.Spec Try.prog 113 [.d (.sl (a0.map (eI .i64)))] (fun y => y = E_Bool r) := by
  refine Go.VC.Spec.of_xc (args := [.d (.sl (a0.map (eI .i64)))]) (fn := Try.f113) tab ⟨[(0, [0]), (1, [5, 6, 7]), (2, [5, 6, 7, 8]), (3, [4, 5, 6, 7]), (4, [5, 6, 7, 16]), (5, [2]), (6, [5, 6, 7]), (7, [2])], [], [100016], []⟩ 18 [.tmp 2] rfl rfl rfl rfl rfl rfl ?_
  conv => whnf
  refine lenS a0 (eI .i64) rfl ?_
  conv => whnf
  refine lpS (fun v1 => ⟨[(5, .l (.d (.sl (a0.map (eI .i64))))), (6, .l (.d (.int .i64 (a0.length : Int)))), (7, .l (.d (.int .i64 v1)))], 18, [], [], []⟩) h (Weak.refl _) (fun _ nx1 hn1 v1 h => ?_)
  conv => whnf
  refine fkS h (fun h => ?_) (fun h => ?_)
  · conv => whnf
    refine ixS (enc := (eI .i64)) h rfl (fun _ => rfl) (fun x2 h => ?_)
    conv => whnf
    refine jnS (fun w3 => ⟨[(5, .l (.d (.sl (a0.map (eI .i64))))), (6, .l (.d (.int .i64 (a0.length : Int)))), (7, .l (.d (.int .i64 v1))), (16, .l (.d (.bool w3)))], 18, [], [], []⟩) h (fun k3 hk3 h => ?_) (fun w3 h => ?_)
    · conv => whnf
      refine fkS h (fun h => ?_) (fun h => ?_)
      · conv => whnf
        exact jeS hk3 h (Weak.refl _)
      conv => whnf
      exact jeS hk3 h (Weak.refl _)
    conv => whnf
    refine fkS h (fun h => ?_) (fun h => ?_)
    · conv => whnf
      exact rt (E := E_Bool) h rfl
    conv => whnf
    exact leS hn1 h (Weak.refl _)
  conv => whnf
  exact rt (E := E_Bool) h rfl

end Go.Proofs.Ytakiggekallckaa
namespace Go.Proofs.Ytakiggekallckaa
open Go Go.VC
noncomputable def arith_Add (a0 : Int) (a1 : Int) : Option (Int × Int) :=
  bnd (arith_may ([a0, a1] : List Int)) fun x1 => fk (!x1) (some ((0 : Int), (1 : Int))) (bnd (arith_may ([(wr (a0 + a1))] : List Int)) fun x2 => fk (!x2) (some ((0 : Int), (5 : Int))) (some ((wr (a0 + a1)), (0 : Int))))
theorem arith_Add_w (a0 : Int) (a1 : Int) (r : Int × Int) (h : arith_Add a0 a1 = some r) : Go.VC.Spec Try.prog 116 [.d (.int .i64 a0), .d (.int .i64 a1)] (fun y => y = E_Int_Int r) := by
  refine Go.VC.Spec.of_xc (args := [.d (.int .i64 a0), .d (.int .i64 a1)]) (fn := Try.f116) tab ⟨[(0, [0, 1]), (1, [0, 1, 6]), (2, [4, 5]), (3, [0, 1, 12]), (4, [4, 5]), (5, [4, 5])], [], [], []⟩ 22 [.tmp 4, .tmp 5] rfl rfl rfl rfl rfl rfl ?_
  conv => whnf
  refine liS ([a0, a1] : List Int) (eI .i64) rfl rfl ?_
  conv => whnf
  refine caS (E := E_Bool) h (arith_may_w ([a0, a1] : List Int)) rfl (fun _ => rfl) (fun x1 h => ?_)
  conv => whnf
  refine fkS h (fun h => ?_) (fun h => ?_)
  · conv => whnf
    exact rt (E := E_Int_Int) h rfl
  conv => whnf
  refine liS ([(wr (a0 + a1))] : List Int) (eI .i64) rfl rfl ?_
  conv => whnf
  refine caS (E := E_Bool) h (arith_may_w ([(wr (a0 + a1))] : List Int)) rfl (fun _ => rfl) (fun x2 h => ?_)
  conv => whnf
  refine fkS h (fun h => ?_) (fun h => ?_)
  · conv => whnf
    exact rt (E := E_Int_Int) h rfl
  conv => whnf
  exact rt (E := E_Int_Int) h rfl

end Go.Proofs.Ytakiggekallckaa
namespace Go.Proofs.Ytakiggekallckaa
open Go Go.VC
noncomputable def arith_Floor (a0 : Int) (a1 : Int) : Option (Int × Int) :=
  jn (fun (w1 : Bool) => fk w1 (some ((0 : Int), (1 : Int))) (ck (decide (a1 ≠ 0)) (ck (decide (a1 ≠ 0)) (fk (decide ((a0.tmod a1) < (0 : Int))) (some ((wr ((wr (a0.tdiv a1)) - (1 : Int))), (0 : Int))) (some ((wr (a0.tdiv a1)), (0 : Int))))))) (fun k1 => bnd (arith_may ([a0, a1] : List Int)) fun x2 => fk (!x2) (k1 true) (k1 (decide (a1 < (1 : Int)))))
theorem arith_Floor_w (a0 : Int) (a1 : Int) (r : Int × Int) (h : arith_Floor a0 a1 = some r) : Go.VC.Spec Try.prog 132 [.d (.int .i64 a0), .d (.int .i64 a1)] (fun y => y = E_Int_Int r) := by
  refine Go.VC.Spec.of_xc (args := [.d (.int .i64 a0), .d (.int .i64 a1)]) (fn := Try.f132) tab ⟨[(0, [0, 1]), (1, [0, 1, 15]), (2, [4, 5]), (3, [0, 1, 6]), (4, [6, 22]), (5, [6]), (6, [4, 5])], [], [100015], []⟩ 26 [.tmp 4, .tmp 5] rfl rfl rfl rfl rfl rfl ?_
  conv => whnf
  refine jnS (fun w1 => ⟨[(0, .l (.d (.int .i64 a0))), (1, .l (.d (.int .i64 a1))), (15, .l (.d (.bool w1)))], 26, [], [], []⟩) h (fun k1 hk1 h => ?_) (fun w1 h => ?_)
  · conv => whnf
    refine liS ([a0, a1] : List Int) (eI .i64) rfl rfl ?_
    conv => whnf
    refine caS (E := E_Bool) h (arith_may_w ([a0, a1] : List Int)) rfl (fun _ => rfl) (fun x2 h => ?_)
    conv => whnf
    refine fkS h (fun h => ?_) (fun h => ?_)
    · conv => whnf
      exact jeS hk1 h (Weak.refl _)
    conv => whnf
    exact jeS hk1 h (Weak.refl _)
  conv => whnf
  refine fkS h (fun h => ?_) (fun h => ?_)
  · conv => whnf
    exact rt (E := E_Int_Int) h rfl
  conv => whnf
  refine dvS h (fun h => ?_)
  conv => whnf
  refine dvS h (fun h => ?_)
  conv => whnf
  refine fkS h (fun h => ?_) (fun h => ?_)
  · conv => whnf
    exact rt (E := E_Int_Int) h rfl
  conv => whnf
  exact rt (E := E_Int_Int) h rfl

end Go.Proofs.Ytakiggekallckaa
namespace Go.Proofs.Ytakiggekallckaa
open Go Go.VC
noncomputable def arith_Gcd (a0 : Int) (a1 : Int) : Option (Int × Int) :=
  jn (fun (w1 : Bool) => fk w1 (some ((0 : Int), (1 : Int))) (lp (fun nx3 (v3 : Int × Int) => fk (decide (v3.2 > (0 : Int))) (ck (decide (v3.2 ≠ 0)) (nx3 (v3.2, (v3.1.tmod v3.2)))) (some (v3.1, (0 : Int)))) FU (a0, a1))) (fun k1 => bnd (arith_may ([a0, a1] : List Int)) fun x2 => fk (!x2) (k1 true) (fk (decide (a0 < (0 : Int))) (k1 true) (k1 (decide (a1 < (0 : Int))))))
theorem arith_Gcd_w (a0 : Int) (a1 : Int) (r : Int × Int) (h : arith_Gcd a0 a1 = some r) : Go.VC.Spec Try.prog 102 [.d (.int .i64 a0), .d (.int .i64 a1)] (fun y => y = E_Int_Int r) := by
  refine Go.VC.Spec.of_xc (args := [.d (.int .i64 a0), .d (.int .i64 a1)]) (fn := Try.f102) tab ⟨[(0, [0, 1]), (1, [0, 1, 18]), (2, [4, 5]), (3, [0, 1, 20]), (4, [0, 1]), (5, [4, 5])], [], [100018], []⟩ 26 [.tmp 4, .tmp 5] rfl rfl rfl rfl rfl rfl ?_
  conv => whnf
  refine jnS (fun w1 => ⟨[(0, .l (.d (.int .i64 a0))), (1, .l (.d (.int .i64 a1))), (18, .l (.d (.bool w1)))], 26, [], [], []⟩) h (fun k1 hk1 h => ?_) (fun w1 h => ?_)
  · conv => whnf
    refine liS ([a0, a1] : List Int) (eI .i64) rfl rfl ?_
    conv => whnf
    refine caS (E := E_Bool) h (arith_may_w ([a0, a1] : List Int)) rfl (fun _ => rfl) (fun x2 h => ?_)
    conv => whnf
    refine fkS h (fun h => ?_) (fun h => ?_)
    · conv => whnf
      exact jeS hk1 h (Weak.refl _)
    conv => whnf
    refine fkS h (fun h => ?_) (fun h => ?_)
    · conv => whnf
      exact jeS hk1 h (Weak.refl _)
    conv => whnf
    exact jeS hk1 h (Weak.refl _)
  conv => whnf
  refine fkS h (fun h => ?_) (fun h => ?_)
  · conv => whnf
    exact rt (E := E_Int_Int) h rfl
  conv => whnf
  refine lpS (fun v3 => ⟨[(0, .l (.d (.int .i64 v3.1))), (1, .l (.d (.int .i64 v3.2)))], 26, [], [], []⟩) h (Weak.trans (Weak.keepS _ [0, 1]) (Weak.refl _)) (fun _ nx3 hn3 v3 h => ?_)
  conv => whnf
  refine fkS h (fun h => ?_) (fun h => ?_)
  · conv => whnf
    refine ⟨5, ?_⟩
    conv => whnf
    refine dvS h (fun h => ?_)
    conv => whnf
    refine drS (by kernel_rfl) ?_
    conv => whnf
    exact leS hn3 h (Weak.refl _)
  conv => whnf
  exact rt (E := E_Int_Int) h rfl

end Go.Proofs.Ytakiggekallckaa
namespace Go.Proofs.Ytakiggekallckaa
open Go Go.VC
noncomputable def arith_Mul (a0 : Int) (a1 : Int) : Option (Int × Int) :=
  bnd (arith_may ([a0, a1] : List Int)) fun x1 => fk (!x1) (some ((0 : Int), (1 : Int))) (jn (fun (w2 : Bool) => fk w2 (some ((0 : Int), (0 : Int))) (ck (decide ((if (IntKind.i64.wrap (0 - a1)) > a1 then (IntKind.i64.wrap (0 - a1)) else a1) ≠ 0)) (fk (decide ((if (IntKind.i64.wrap (0 - a0)) > a0 then (IntKind.i64.wrap (0 - a0)) else a0) > (wr ((4611686018427387903 : Int).tdiv (if (IntKind.i64.wrap (0 - a1)) > a1 then (IntKind.i64.wrap (0 - a1)) else a1))))) (some ((0 : Int), (5 : Int))) (some ((wr (a0 * a1)), (0 : Int)))))) (fun k2 => fk (decide (a0 = (0 : Int))) (k2 true) (k2 (decide (a1 = (0 : Int))))))
theorem arith_Mul_w (a0 : Int) (a1 : Int) (r : Int × Int) (h : arith_Mul a0 a1 = some r) : Go.VC.Spec Try.prog 103 [.d (.int .i64 a0), .d (.int .i64 a1)] (fun y => y = E_Int_Int r) := by
  refine Go.VC.Spec.of_xc (args := [.d (.int .i64 a0), .d (.int .i64 a1)]) (fn := Try.f103) tab ⟨[(0, [0, 1]), (1, [0, 1, 6]), (2, [4, 5]), (3, [0, 1, 12]), (4, [4, 5]), (5, [0, 1, 19]), (6, [4, 5]), (7, [4, 5])], [], [100012], []⟩ 33 [.tmp 4, .tmp 5] rfl rfl rfl rfl rfl rfl ?_
  conv => whnf
  refine liS ([a0, a1] : List Int) (eI .i64) rfl rfl ?_
  conv => whnf
  refine caS (E := E_Bool) h (arith_may_w ([a0, a1] : List Int)) rfl (fun _ => rfl) (fun x1 h => ?_)
  conv => whnf
  refine fkS h (fun h => ?_) (fun h => ?_)
  · conv => whnf
    exact rt (E := E_Int_Int) h rfl
  conv => whnf
  refine jnS (fun w2 => ⟨[(0, .l (.d (.int .i64 a0))), (1, .l (.d (.int .i64 a1))), (12, .l (.d (.bool w2)))], 33, [], [], []⟩) h (fun k2 hk2 h => ?_) (fun w2 h => ?_)
  · conv => whnf
    refine fkS h (fun h => ?_) (fun h => ?_)
    · conv => whnf
      exact jeS hk2 h (Weak.refl _)
    conv => whnf
    exact jeS hk2 h (Weak.refl _)
  conv => whnf
  refine fkS h (fun h => ?_) (fun h => ?_)
  · conv => whnf
    exact rt (E := E_Int_Int) h rfl
  conv => whnf
  refine dvS h (fun h => ?_)
  conv => whnf
  refine fkS h (fun h => ?_) (fun h => ?_)
  · conv => whnf
    exact rt (E := E_Int_Int) h rfl
  conv => whnf
  exact rt (E := E_Int_Int) h rfl

end Go.Proofs.Ytakiggekallckaa
namespace Go.Proofs.Ytakiggekallckaa
open Go Go.VC
noncomputable def arith_Lcm (a0 : Int) (a1 : Int) : Option (Int × Int) :=
  jn (fun (w1 : Bool) => fk w1 (some ((0 : Int), (1 : Int))) (bnd (arith_Gcd a0 a1) fun x2 => fk (!decide (x2.2 = (0 : Int))) (some ((0 : Int), x2.2)) (ck (decide (x2.1 ≠ 0)) (bnd (arith_Mul (wr (a0.tdiv x2.1)) a1) fun x3 => some (x3.1, x3.2))))) (fun k1 => fk (decide (a0 < (1 : Int))) (k1 true) (k1 (decide (a1 < (1 : Int)))))
theorem arith_Lcm_w (a0 : Int) (a1 : Int) (r : Int × Int) (h : arith_Lcm a0 a1 = some r) : Go.VC.Spec Try.prog 92 [.d (.int .i64 a0), .d (.int .i64 a1)] (fun y => y = E_Int_Int r) := by
  refine Go.VC.Spec.of_xc (args := [.d (.int .i64 a0), .d (.int .i64 a1)]) (fn := Try.f92) tab ⟨[(0, [0, 1]), (1, [0, 1, 13]), (2, [4, 5]), (3, [0, 1, 6, 7]), (4, [0, 1, 6, 7, 21]), (5, [4, 5]), (6, [4, 5])], [], [100013], []⟩ 30 [.tmp 4, .tmp 5] rfl rfl rfl rfl rfl rfl ?_
  conv => whnf
  refine jnS (fun w1 => ⟨[(0, .l (.d (.int .i64 a0))), (1, .l (.d (.int .i64 a1))), (13, .l (.d (.bool w1)))], 30, [], [], []⟩) h (fun k1 hk1 h => ?_) (fun w1 h => ?_)
  · conv => whnf
    refine fkS h (fun h => ?_) (fun h => ?_)
    · conv => whnf
      exact jeS hk1 h (Weak.refl _)
    conv => whnf
    exact jeS hk1 h (Weak.refl _)
  conv => whnf
  refine fkS h (fun h => ?_) (fun h => ?_)
  · conv => whnf
    exact rt (E := E_Int_Int) h rfl
  conv => whnf
  refine caS (E := E_Int_Int) h (arith_Gcd_w a0 a1) rfl (fun _ => rfl) (fun x2 h => ?_)
  conv => whnf
  refine fkS h (fun h => ?_) (fun h => ?_)
  · conv => whnf
    exact rt (E := E_Int_Int) h rfl
  conv => whnf
  refine dvS h (fun h => ?_)
  conv => whnf
  refine caS (E := E_Int_Int) h (arith_Mul_w (wr (a0.tdiv x2.1)) a1) rfl (fun _ => rfl) (fun x3 h => ?_)
  conv => whnf
  exact rt (E := E_Int_Int) h rfl

end Go.Proofs.Ytakiggekallckaa
namespace Go.Proofs.Ytakiggekallckaa
open Go Go.VC
noncomputable def task_own (a0 : Task) : Option Bool :=
  fk (decide (a0.C ≥ (1 : Int))) (fk (decide (a0.C ≤ a0.D)) (fk (decide (a0.D ≤ a0.T)) (fk (decide (a0.T ≤ (200 : Int))) (some (decide ((a0.Secs.length : Int) ≤ (4 : Int)))) (some false)) (some false)) (some false)) (some false)
theorem task_own_w (a0 : Task) (r : Bool) (h : task_own a0 = some r) : Go.VC.Spec Try.prog 83 [.agg (Task.enc a0)] (fun y => y = E_Bool r) := by
  refine Go.VC.Spec.of_xc (args := [.agg (Task.enc a0)]) (fn := Try.f83) tab ⟨[(0, [1]), (1, [2])], [], [], []⟩ 31 [.tmp 2] rfl rfl rfl rfl rfl rfl ?_
  conv => whnf
  refine fkS h (fun h => ?_) (fun h => ?_)
  · conv => whnf
    refine fkS h (fun h => ?_) (fun h => ?_)
    · conv => whnf
      refine fkS h (fun h => ?_) (fun h => ?_)
      · conv => whnf
        refine fkS h (fun h => ?_) (fun h => ?_)
        · conv => whnf
          refine lenS a0.Secs Sec.enc rfl ?_
          conv => whnf
          exact rt (E := E_Bool) h rfl
        conv => whnf
        exact rt (E := E_Bool) h rfl
      conv => whnf
      exact rt (E := E_Bool) h rfl
    conv => whnf
    exact rt (E := E_Bool) h rfl
  conv => whnf
  exact rt (E := E_Bool) h rfl

end Go.Proofs.Ytakiggekallckaa
namespace Go.Proofs.Ytakiggekallckaa
open Go Go.VC
noncomputable def task_may (a0 : Task) (a1 : Sec) : Option Bool :=
  fk (decide (a1.Res ≥ (0 : Int))) (fk (decide (a1.Res < (4 : Int))) (fk (decide (a1.At ≥ (0 : Int))) (fk (decide (a1.At < a0.C)) (fk (decide (a1.Len ≥ (1 : Int))) (some (decide (a1.Len ≤ (wr (a0.C - a1.At))))) (some false)) (some false)) (some false)) (some false)) (some false)
theorem task_may_w (a0 : Task) (a1 : Sec) (r : Bool) (h : task_may a0 a1 = some r) : Go.VC.Spec Try.prog 84 [.agg (Task.enc a0), .agg (Sec.enc a1)] (fun y => y = E_Bool r) := by
  refine Go.VC.Spec.of_xc (args := [.agg (Task.enc a0), .agg (Sec.enc a1)]) (fn := Try.f84) tab ⟨[(0, [2, 3]), (1, [4])], [], [], []⟩ 40 [.tmp 4] rfl rfl rfl rfl rfl rfl ?_
  conv => whnf
  refine fkS h (fun h => ?_) (fun h => ?_)
  · conv => whnf
    refine fkS h (fun h => ?_) (fun h => ?_)
    · conv => whnf
      refine fkS h (fun h => ?_) (fun h => ?_)
      · conv => whnf
        refine fkS h (fun h => ?_) (fun h => ?_)
        · conv => whnf
          refine fkS h (fun h => ?_) (fun h => ?_)
          · conv => whnf
            exact rt (E := E_Bool) h rfl
          conv => whnf
          exact rt (E := E_Bool) h rfl
        conv => whnf
        exact rt (E := E_Bool) h rfl
      conv => whnf
      exact rt (E := E_Bool) h rfl
    conv => whnf
    exact rt (E := E_Bool) h rfl
  conv => whnf
  exact rt (E := E_Bool) h rfl

end Go.Proofs.Ytakiggekallckaa
namespace Go.Proofs.Ytakiggekallckaa
open Go Go.VC
noncomputable def task_fits (a0 : Sec) (a1 : Sec) : Option Bool :=
  fk (decide (a1.At ≥ (wr (a0.At + a0.Len)))) (some true) (fk (decide (a1.At < a0.At)) (some false) (fk (decide ((wr (a1.At + a1.Len)) ≤ (wr (a0.At + a0.Len)))) (some (!decide (a0.Res = a1.Res))) (some false)))
theorem task_fits_w (a0 : Sec) (a1 : Sec) (r : Bool) (h : task_fits a0 a1 = some r) : Go.VC.Spec Try.prog 85 [.agg (Sec.enc a0), .agg (Sec.enc a1)] (fun y => y = E_Bool r) := by
  refine Go.VC.Spec.of_xc (args := [.agg (Sec.enc a0), .agg (Sec.enc a1)]) (fn := Try.f85) tab ⟨[(0, [2, 3]), (1, [2, 3, 5]), (2, [4]), (3, [2, 3, 14]), (4, [4]), (5, [4])], [], [], []⟩ 38 [.tmp 4] rfl rfl rfl rfl rfl rfl ?_
  conv => whnf
  refine fkS h (fun h => ?_) (fun h => ?_)
  · conv => whnf
    exact rt (E := E_Bool) h rfl
  conv => whnf
  refine fkS h (fun h => ?_) (fun h => ?_)
  · conv => whnf
    exact rt (E := E_Bool) h rfl
  conv => whnf
  refine fkS h (fun h => ?_) (fun h => ?_)
  · conv => whnf
    exact rt (E := E_Bool) h rfl
  conv => whnf
  exact rt (E := E_Bool) h rfl

end Go.Proofs.Ytakiggekallckaa
namespace Go.Proofs.Ytakiggekallckaa
open Go Go.VC
noncomputable def task_Right (a0 : Task) : Option Bool :=
  bnd (task_own a0) fun x1 => fk (!x1) (some false) (lp (fun nx2 (v2 : Int) => fk (decide (v2 < (a0.Secs.length : Int))) (ix a0.Secs v2 fun x3 => bnd (task_may a0 x3) fun x4 => fk (!x4) (some false) (ck (decide ((0 : Int) ≤ (0 : Int)) && decide ((0 : Int) ≤ v2) && decide (v2 ≤ (a0.Secs.length : Int))) (lp (fun nx5 (v5 : Int) => fk (decide (v5 < (((a0.Secs.take v2.toNat).drop (0 : Int).toNat).length : Int))) (ix ((a0.Secs.take v2.toNat).drop (0 : Int).toNat) v5 fun x6 => bnd (task_fits x6 x3) fun x7 => fk x7 (nx5 (wr (v5 + (1 : Int)))) (some (decide ((0 : Int) > (0 : Int))))) (nx2 (wr (v2 + (1 : Int))))) FU (0 : Int)))) (some (decide (a0.C > (0 : Int))))) FU (0 : Int))
theorem task_Right_w (a0 : Task) (r : Bool) (h : task_Right a0 = some r) : Go.VC.Spec Try.prog 62 [.agg (Task.enc a0)] (fun y => y = E_Bool r) := by
  refine Go.VC.Spec.of_xc (args := [.agg (Task.enc a0)]) (fn := Try.f62) tab ⟨[(0, [1]), (1, [1, 9]), (2, [2]), (3, [1, 11, 12, 13]), (4, [1, 11, 12, 13, 14]), (5, [1, 3, 4, 11, 12, 13]), (6, [1, 3, 4, 11, 12, 13, 21]), (7, [2]), (8, [1, 4, 11, 12, 13, 25, 26, 27]), (9, [1, 4, 11, 12, 13, 25, 26, 27, 28]), (10, [1, 4, 6, 11, 12, 13, 25, 26, 27]), (11, [1, 4, 11, 12, 13, 25, 26, 27, 33]), (12, [1]), (13, [1, 4, 11, 12, 13, 25, 26, 27]), (14, [1, 11, 12, 13]), (15, [2])], [], [], []⟩ 40 [.tmp 2] rfl rfl rfl rfl rfl rfl ?_
  conv => whnf
  refine caS (E := E_Bool) h (task_own_w a0) rfl (fun _ => rfl) (fun x1 h => ?_)
  conv => whnf
  refine fkS h (fun h => ?_) (fun h => ?_)
  · conv => whnf
    exact rt (E := E_Bool) h rfl
  conv => whnf
  refine lenS a0.Secs Sec.enc rfl ?_
  conv => whnf
  refine lpS (fun v2 => ⟨[(1, .l (.ptr 2 0)), (11, .l (.d (.sl (a0.Secs.map Sec.enc)))), (12, .l (.d (.int .i64 (a0.Secs.length : Int)))), (13, .l (.d (.int .i64 v2)))], 40, [], [(2, [.d (.int .i64 a0.C), .d (.int .i64 a0.D), .d (.int .i64 a0.T), .d (.sl (a0.Secs.map Sec.enc))])], []⟩) h (Weak.refl _) (fun _ nx2 hn2 v2 h => ?_)
  conv => whnf
  refine fkS h (fun h => ?_) (fun h => ?_)
  · conv => whnf
    refine ixS (enc := Sec.enc) h rfl (fun _ => rfl) (fun x3 h => ?_)
    conv => whnf
    refine caS (E := E_Bool) h (task_may_w a0 x3) rfl (fun _ => rfl) (fun x4 h => ?_)
    conv => whnf
    refine fkS h (fun h => ?_) (fun h => ?_)
    · conv => whnf
      exact rt (E := E_Bool) h rfl
    conv => whnf
    refine slS (enc := Sec.enc) h rfl rfl (.inl rfl) (fun _ => rfl) (fun h => ?_)
    conv => whnf
    refine lenS ((a0.Secs.take v2.toNat).drop (0 : Int).toNat) Sec.enc rfl ?_
    conv => whnf
    refine lpS (fun v5 => ⟨[(1, .l (.ptr 2 0)), (4, .l (.ptr 5 0)), (11, .l (.d (.sl (a0.Secs.map Sec.enc)))), (12, .l (.d (.int .i64 (a0.Secs.length : Int)))), (13, .l (.d (.int .i64 v2))), (25, .l (.d (.sl (((a0.Secs.take v2.toNat).drop (0 : Int).toNat).map Sec.enc)))), (26, .l (.d (.int .i64 (((a0.Secs.take v2.toNat).drop (0 : Int).toNat).length : Int)))), (27, .l (.d (.int .i64 v5)))], 40, [], [(2, [.d (.int .i64 a0.C), .d (.int .i64 a0.D), .d (.int .i64 a0.T), .d (.sl (a0.Secs.map Sec.enc))]), (5, [.d (.int .i64 x3.Res), .d (.int .i64 x3.At), .d (.int .i64 x3.Len)])], []⟩) h (Weak.refl _) (fun _ nx5 hn5 v5 h => ?_)
    conv => whnf
    refine fkS h (fun h => ?_) (fun h => ?_)
    · conv => whnf
      refine ixS (enc := Sec.enc) h rfl (fun _ => rfl) (fun x6 h => ?_)
      conv => whnf
      refine caS (E := E_Bool) h (task_fits_w x6 x3) rfl (fun _ => rfl) (fun x7 h => ?_)
      conv => whnf
      refine fkS h (fun h => ?_) (fun h => ?_)
      · conv => whnf
        exact leS hn5 h (Weak.refl _)
      conv => whnf
      exact rt (E := E_Bool) h rfl
    conv => whnf
    exact leS hn2 h (Weak.refl _)
  conv => whnf
  exact rt (E := E_Bool) h rfl

end Go.Proofs.Ytakiggekallckaa
namespace Go.Proofs.Ytakiggekallckaa
open Go Go.VC
noncomputable def task_All (a0 : List Task) : Option Bool :=
  lp (fun nx1 (v1 : Int) => fk (decide (v1 < (a0.length : Int))) (ix a0 v1 fun x2 => bnd (task_Right x2) fun x3 => fk (!x3) (some false) (nx1 (wr (v1 + (1 : Int))))) (some (decide ((a0.length : Int) ≤ (8 : Int))))) FU (0 : Int)
theorem task_All_w (a0 : List Task) (r : Bool) (h : task_All a0 = some r) : Go.VC.Spec Try.prog 63 [.d (.sl (a0.map Task.enc))] (fun y => y = E_Bool r) := by
  refine Go.VC.Spec.of_xc (args := [.d (.sl (a0.map Task.enc))]) (fn := Try.f63) tab ⟨[(0, [0]), (1, [0, 5, 6, 7]), (2, [0, 5, 6, 7, 8]), (3, [0, 4, 5, 6, 7]), (4, [0, 5, 6, 7, 13]), (5, [2]), (6, [0, 5, 6, 7]), (7, [2])], [], [], []⟩ 18 [.tmp 2] rfl rfl rfl rfl rfl rfl ?_
  conv => whnf
  refine lenS a0 Task.enc rfl ?_
  conv => whnf
  refine lpS (fun v1 => ⟨[(0, .l (.d (.sl (a0.map Task.enc)))), (5, .l (.d (.sl (a0.map Task.enc)))), (6, .l (.d (.int .i64 (a0.length : Int)))), (7, .l (.d (.int .i64 v1)))], 18, [], [], []⟩) h (Weak.refl _) (fun _ nx1 hn1 v1 h => ?_)
  conv => whnf
  refine fkS h (fun h => ?_) (fun h => ?_)
  · conv => whnf
    refine ixS (enc := Task.enc) h rfl (fun _ => rfl) (fun x2 h => ?_)
    conv => whnf
    refine caS (E := E_Bool) h (task_Right_w x2) rfl (fun _ => rfl) (fun x3 h => ?_)
    conv => whnf
    refine fkS h (fun h => ?_) (fun h => ?_)
    · conv => whnf
      exact rt (E := E_Bool) h rfl
    conv => whnf
    exact leS hn1 h (Weak.refl _)
  conv => whnf
  refine lenS a0 Task.enc rfl ?_
  conv => whnf
  exact rt (E := E_Bool) h rfl

end Go.Proofs.Ytakiggekallckaa
namespace Go.Proofs.Ytakiggekallckaa
open Go Go.VC
noncomputable def task_Uses (a0 : Task) (a1 : Int) : Option Bool :=
  bnd (task_Right a0) fun x1 => fk (!x1) (some false) (lp (fun nx2 (v2 : Int) => fk (decide (v2 < (a0.Secs.length : Int))) (ix a0.Secs v2 fun x3 => fk (decide (x3.Res = a1)) (some true) (nx2 (wr (v2 + (1 : Int))))) (some false)) FU (0 : Int))
theorem task_Uses_w (a0 : Task) (a1 : Int) (r : Bool) (h : task_Uses a0 a1 = some r) : Go.VC.Spec Try.prog 133 [.agg (Task.enc a0), .d (.int .i64 a1)] (fun y => y = E_Bool r) := by
  refine Go.VC.Spec.of_xc (args := [.agg (Task.enc a0), .d (.int .i64 a1)]) (fn := Try.f133) tab ⟨[(0, [1, 2]), (1, [1, 2, 9]), (2, [4]), (3, [1, 11, 12, 13]), (4, [1, 11, 12, 13, 14]), (5, [1, 6, 11, 12, 13]), (6, [1, 11, 12, 13, 20]), (7, [4]), (8, [1, 11, 12, 13]), (9, [4])], [], [], []⟩ 22 [.tmp 4] rfl rfl rfl rfl rfl rfl ?_
  conv => whnf
  refine caS (E := E_Bool) h (task_Right_w a0) rfl (fun _ => rfl) (fun x1 h => ?_)
  conv => whnf
  refine fkS h (fun h => ?_) (fun h => ?_)
  · conv => whnf
    exact rt (E := E_Bool) h rfl
  conv => whnf
  refine lenS a0.Secs Sec.enc rfl ?_
  conv => whnf
  refine lpS (fun v2 => ⟨[(1, .l (.d (.int .i64 a1))), (11, .l (.d (.sl (a0.Secs.map Sec.enc)))), (12, .l (.d (.int .i64 (a0.Secs.length : Int)))), (13, .l (.d (.int .i64 v2)))], 22, [], [], []⟩) h (Weak.refl _) (fun _ nx2 hn2 v2 h => ?_)
  conv => whnf
  refine fkS h (fun h => ?_) (fun h => ?_)
  · conv => whnf
    refine ixS (enc := Sec.enc) h rfl (fun _ => rfl) (fun x3 h => ?_)
    conv => whnf
    refine fkS h (fun h => ?_) (fun h => ?_)
    · conv => whnf
      exact rt (E := E_Bool) h rfl
    conv => whnf
    exact leS hn2 h (Weak.refl _)
  conv => whnf
  exact rt (E := E_Bool) h rfl

end Go.Proofs.Ytakiggekallckaa
namespace Go.Proofs.Ytakiggekallckaa
open Go Go.VC
noncomputable def block_shared (a0 : List Task) (a1 : Int) (a2 : Int) : Option Bool :=
  lp (fun nx1 (v1 : Int) => fk (decide (v1 < (a0.length : Int))) (ix a0 v1 fun x2 => jn (fun (w3 : Bool) => fk w3 (some true) (nx1 (wr (v1 + (1 : Int))))) (fun k3 => fk (decide (x2.D ≤ a1)) (bnd (task_Uses x2 a2) fun x4 => k3 x4) (k3 false))) (some false)) FU (0 : Int)
theorem block_shared_w (a0 : List Task) (a1 : Int) (a2 : Int) (r : Bool) (h : block_shared a0 a1 a2 = some r) : Go.VC.Spec Try.prog 127 [.d (.sl (a0.map Task.enc)), .d (.int .i64 a1), .d (.int .i64 a2)] (fun y => y = E_Bool r) := by
  refine Go.VC.Spec.of_xc (args := [.d (.sl (a0.map Task.enc)), .d (.int .i64 a1), .d (.int .i64 a2)]) (fn := Try.f127) tab ⟨[(0, [0, 1, 2]), (1, [1, 2, 9, 10, 11]), (2, [1, 2, 9, 10, 11, 12]), (3, [1, 2, 8, 9, 10, 11]), (4, [1, 2, 9, 10, 11, 23]), (5, [6]), (6, [1, 2, 9, 10, 11]), (7, [6])], [], [100023], []⟩ 25 [.tmp 6] rfl rfl rfl rfl rfl rfl ?_
  conv => whnf
  refine lenS a0 Task.enc rfl ?_
  conv => whnf
  refine lpS (fun v1 => ⟨[(1, .l (.d (.int .i64 a1))), (2, .l (.d (.int .i64 a2))), (9, .l (.d (.sl (a0.map Task.enc)))), (10, .l (.d (.int .i64 (a0.length : Int)))), (11, .l (.d (.int .i64 v1)))], 25, [], [], []⟩) h (Weak.refl _) (fun _ nx1 hn1 v1 h => ?_)
  conv => whnf
  refine fkS h (fun h => ?_) (fun h => ?_)
  · conv => whnf
    refine ixS (enc := Task.enc) h rfl (fun _ => rfl) (fun x2 h => ?_)
    conv => whnf
    refine jnS (fun w3 => ⟨[(1, .l (.d (.int .i64 a1))), (2, .l (.d (.int .i64 a2))), (9, .l (.d (.sl (a0.map Task.enc)))), (10, .l (.d (.int .i64 (a0.length : Int)))), (11, .l (.d (.int .i64 v1))), (23, .l (.d (.bool w3)))], 25, [], [], []⟩) h (fun k3 hk3 h => ?_) (fun w3 h => ?_)
    · conv => whnf
      refine fkS h (fun h => ?_) (fun h => ?_)
      · conv => whnf
        refine caS (E := E_Bool) h (task_Uses_w x2 a2) rfl (fun _ => rfl) (fun x4 h => ?_)
        conv => whnf
        exact jeS hk3 h (Weak.refl _)
      conv => whnf
      exact jeS hk3 h (Weak.refl _)
    conv => whnf
    refine fkS h (fun h => ?_) (fun h => ?_)
    · conv => whnf
      exact rt (E := E_Bool) h rfl
    conv => whnf
    exact leS hn1 h (Weak.refl _)
  conv => whnf
  exact rt (E := E_Bool) h rfl

end Go.Proofs.Ytakiggekallckaa
namespace Go.Proofs.Ytakiggekallckaa
open Go Go.VC
noncomputable def block_Of (a0 : List Task) (a1 : Int) : Option (Int × Int) :=
  bnd (task_All a0) fun x1 => fk (!x1) (some ((0 : Int), (1 : Int))) (lp (fun nx2 (v2 : Int × Int) => fk (decide (v2.2 < (a0.length : Int))) (jn (fun (w3 : Int) => nx2 (w3, (wr (v2.2 + (1 : Int))))) (fun k3 => ix a0 v2.2 fun x4 => fk (decide (x4.D ≤ a1)) (k3 v2.1) (lp (fun nx5 (v5 : Int × Int) => fk (decide (v5.2 < (x4.Secs.length : Int))) (ix x4.Secs v5.2 fun x6 => jn (fun (w7 : Bool) => fk w7 (nx5 (x6.Len, (wr (v5.2 + (1 : Int))))) (nx5 (v5.1, (wr (v5.2 + (1 : Int)))))) (fun k7 => fk (decide (x6.Len > v5.1)) (bnd (block_shared a0 a1 x6.Res) fun x8 => k7 x8) (k7 false))) (k3 v5.1)) FU (v2.1, (0 : Int))))) (some (v2.1, (0 : Int)))) FU ((0 : Int), (0 : Int)))
theorem block_Of_w (a0 : List Task) (a1 : Int) (r : Int × Int) (h : block_Of a0 a1 = some r) : Go.VC.Spec Try.prog 115 [.d (.sl (a0.map Task.enc)), .d (.int .i64 a1)] (fun y => y = E_Int_Int r) := by
  refine Go.VC.Spec.of_xc (args := [.d (.sl (a0.map Task.enc)), .d (.int .i64 a1)]) (fn := Try.f115) tab ⟨[(0, [2, 3]), (1, [2, 3, 14]), (2, [4, 5]), (3, [2, 3, 6]), (4, [2, 3, 6, 7]), (5, [3, 6, 7, 16, 17, 18]), (6, [3, 6, 7, 16, 17, 18, 19]), (7, [3, 6, 7, 9, 16, 17, 18]), (8, [3, 6, 7, 9, 16, 17, 18, 25]), (9, [3, 6, 7, 16, 17, 18, 27, 28, 29]), (10, [3, 6, 7, 16, 17, 18, 27, 28, 29, 30]), (11, [3, 6, 7, 11, 16, 17, 18, 27, 28, 29]), (12, [3, 6, 7, 16, 17, 18, 27, 28, 29]), (13, [3, 6, 7, 16, 17, 18, 27, 28, 29]), (14, [3, 6, 7, 16, 17, 18]), (15, [4, 5])], [], [14], []⟩ 39 [.tmp 4, .tmp 5] rfl rfl rfl rfl rfl rfl ?_
  conv => whnf
  refine caS (E := E_Bool) h (task_All_w a0) rfl (fun _ => rfl) (fun x1 h => ?_)
  conv => whnf
  refine fkS h (fun h => ?_) (fun h => ?_)
  · conv => whnf
    exact rt (E := E_Int_Int) h rfl
  conv => whnf
  refine lenS a0 Task.enc rfl ?_
  conv => whnf
  refine lpS (fun v2 => ⟨[(3, .l (.ptr 4 0)), (6, .l (.ptr 7 0)), (7, .l (.func 126 [.k 7, .k 3, .k 4])), (16, .l (.d (.sl (a0.map Task.enc)))), (17, .l (.d (.int .i64 (a0.length : Int)))), (18, .l (.d (.int .i64 v2.2)))], 39, [], [(3, [.d (.sl (a0.map Task.enc))]), (4, [.d (.int .i64 a1)]), (7, [.d (.int .i64 v2.1)])], []⟩) h (Weak.refl _) (fun _ nx2 hn2 v2 h => ?_)
  conv => whnf
  refine fkS h (fun h => ?_) (fun h => ?_)
  · conv => whnf
    refine jnS (fun w3 => ⟨[(3, .l (.ptr 4 0)), (6, .l (.ptr 7 0)), (7, .l (.func 126 [.k 7, .k 3, .k 4])), (16, .l (.d (.sl (a0.map Task.enc)))), (17, .l (.d (.int .i64 (a0.length : Int)))), (18, .l (.d (.int .i64 v2.2)))], 39, [], [(3, [.d (.sl (a0.map Task.enc))]), (4, [.d (.int .i64 a1)]), (7, [.d (.int .i64 w3)])], []⟩) h (fun k3 hk3 h => ?_) (fun w3 h => ?_)
    · conv => whnf
      refine ixS (enc := Task.enc) h rfl (fun _ => rfl) (fun x4 h => ?_)
      conv => whnf
      refine fkS h (fun h => ?_) (fun h => ?_)
      · conv => whnf
        refine jeX hk3 h ?_
        conv => whnf
        refine WkF.step (Weak.keepS _ [3, 6, 7, 16, 17, 18]) ?_
        conv => whnf
        exact WkF.refl _
      conv => whnf
      refine lenS x4.Secs Sec.enc rfl ?_
      conv => whnf
      refine lpS (fun v5 => ⟨[(3, .l (.ptr 4 0)), (6, .l (.ptr 7 0)), (7, .l (.func 126 [.k 7, .k 3, .k 4])), (16, .l (.d (.sl (a0.map Task.enc)))), (17, .l (.d (.int .i64 (a0.length : Int)))), (18, .l (.d (.int .i64 v2.2))), (27, .l (.d (.sl (x4.Secs.map Sec.enc)))), (28, .l (.d (.int .i64 (x4.Secs.length : Int)))), (29, .l (.d (.int .i64 v5.2)))], 39, [], [(3, [.d (.sl (a0.map Task.enc))]), (4, [.d (.int .i64 a1)]), (7, [.d (.int .i64 v5.1)])], []⟩) h (Weak.refl _) (fun _ nx5 hn5 v5 h => ?_)
      conv => whnf
      refine fkS h (fun h => ?_) (fun h => ?_)
      · conv => whnf
        refine ixS (enc := Sec.enc) h rfl (fun _ => rfl) (fun x6 h => ?_)
        conv => whnf
        refine inS (fn := Try.f126) tab ⟨[(0, [1, 2, 3, 4]), (1, [1, 4, 15]), (2, [])], [], [100015], []⟩ 18 [] rfl rfl rfl rfl rfl rfl ?_
        conv => whnf
        refine jnS (fun w7 => ⟨[(1, .l (.ptr 7 0)), (4, .l (.ptr 1005 0)), (15, .l (.d (.bool w7)))], 18, [⟨[(34, .agg [.d (.int .i64 x6.Res), .d (.int .i64 x6.At), .d (.int .i64 x6.Len)]), (33, .l (.func 126 [.k 7, .k 3, .k 4])), (3, .l (.ptr 4 0)), (6, .l (.ptr 7 0)), (7, .l (.func 126 [.k 7, .k 3, .k 4])), (11, .l (.ptr 12 0)), (16, .l (.d (.sl (a0.map Task.enc)))), (17, .l (.d (.int .i64 (a0.length : Int)))), (18, .l (.d (.int .i64 v2.2))), (27, .l (.d (.sl (x4.Secs.map Sec.enc)))), (28, .l (.d (.int .i64 (x4.Secs.length : Int)))), (29, .l (.d (.int .i64 v5.2)))], 39⟩], [(3, [.d (.sl (a0.map Task.enc))]), (4, [.d (.int .i64 a1)]), (7, [.d (.int .i64 v5.1)]), (12, [.d (.int .i64 x6.Res), .d (.int .i64 x6.At), .d (.int .i64 x6.Len)]), (1005, [.d (.int .i64 x6.Res), .d (.int .i64 x6.At), .d (.int .i64 x6.Len)])], []⟩) h (fun k7 hk7 h => ?_) (fun w7 h => ?_)
        · conv => whnf
          refine fkS h (fun h => ?_) (fun h => ?_)
          · conv => whnf
            refine caS (E := E_Bool) h (block_shared_w a0 a1 x6.Res) rfl (fun _ => rfl) (fun x8 h => ?_)
            conv => whnf
            exact jeS hk7 h (Weak.refl _)
          conv => whnf
          exact jeS hk7 h (Weak.refl _)
        conv => whnf
        refine fkS h (fun h => ?_) (fun h => ?_)
        · conv => whnf
          exact leS hn5 h (Weak.refl _)
        conv => whnf
        exact leS hn5 h (Weak.refl _)
      conv => whnf
      refine jeX hk3 h ?_
      conv => whnf
      refine WkF.step (Weak.keepS _ [3, 6, 7, 16, 17, 18]) ?_
      conv => whnf
      exact WkF.refl _
    conv => whnf
    exact leS hn2 h (Weak.refl _)
  conv => whnf
  exact rt (E := E_Int_Int) h rfl

end Go.Proofs.Ytakiggekallckaa
namespace Go.Proofs.Ytakiggekallckaa
open Go Go.VC
noncomputable def demand_jobs (a0 : Task) (a1 : Int) : Option Int :=
  fk (decide (a1 < a0.D)) (some (0 : Int)) (bnd (arith_Floor (wr (a1 - a0.D)) a0.T) fun x1 => some (wr (x1.1 + (1 : Int))))
theorem demand_jobs_w (a0 : Task) (a1 : Int) (r : Int) (h : demand_jobs a0 a1 = some r) : Go.VC.Spec Try.prog 125 [.agg (Task.enc a0), .d (.int .i64 a1)] (fun y => y = E_Int r) := by
  refine Go.VC.Spec.of_xc (args := [.agg (Task.enc a0), .d (.int .i64 a1)]) (fn := Try.f125) tab ⟨[(0, [1, 2]), (1, [1, 2, 10]), (2, [4]), (3, [5]), (4, [4])], [], [], []⟩ 23 [.tmp 4] rfl rfl rfl rfl rfl rfl ?_
  conv => whnf
  refine fkS h (fun h => ?_) (fun h => ?_)
  · conv => whnf
    exact rt (E := E_Int) h rfl
  conv => whnf
  refine caS (E := E_Int_Int) h (arith_Floor_w (wr (a1 - a0.D)) a0.T) rfl (fun _ => rfl) (fun x1 h => ?_)
  conv => whnf
  exact rt (E := E_Int) h rfl

end Go.Proofs.Ytakiggekallckaa
namespace Go.Proofs.Ytakiggekallckaa
open Go Go.VC
noncomputable def demand_Bound (a0 : List Task) (a1 : Int) : Option (Int × Int) :=
  jn (fun (w1 : Bool) => fk w1 (some ((0 : Int), (1 : Int))) (lp (fun nx3 (v3 : Int × Int × Int) => fk (decide (v3.2.2 < (a0.length : Int))) (ix a0 v3.2.2 fun x4 => bnd (demand_jobs x4 a1) fun x5 => bnd (arith_Mul x4.C x5) fun x6 => bnd (arith_Add v3.1 x6.1) fun x7 => jn (fun (w8 : Bool) => fk w8 (nx3 (v3.1, (5 : Int), (wr (v3.2.2 + (1 : Int))))) (nx3 (x7.1, v3.2.1, (wr (v3.2.2 + (1 : Int)))))) (fun k8 => fk (!decide (x6.2 = (0 : Int))) (k8 true) (k8 (!decide (x7.2 = (0 : Int)))))) (fk (!decide (v3.2.1 = (0 : Int))) (some ((0 : Int), v3.2.1)) (some (v3.1, (0 : Int))))) FU ((0 : Int), (0 : Int), (0 : Int)))) (fun k1 => bnd (task_All a0) fun x2 => fk (!x2) (k1 true) (fk (decide (a1 < (0 : Int))) (k1 true) (k1 (decide (a1 > (4611686018427387903 : Int))))))
theorem demand_Bound_w (a0 : List Task) (a1 : Int) (r : Int × Int) (h : demand_Bound a0 a1 = some r) : Go.VC.Spec Try.prog 114 [.d (.sl (a0.map Task.enc)), .d (.int .i64 a1)] (fun y => y = E_Int_Int r) := by
  refine Go.VC.Spec.of_xc (args := [.d (.sl (a0.map Task.enc)), .d (.int .i64 a1)]) (fn := Try.f114) tab ⟨[(0, [0, 1]), (1, [0, 1, 21]), (2, [4, 5]), (3, [0, 1, 6, 7]), (4, [0, 1, 6, 7, 8]), (5, [1, 6, 7, 8, 23, 24, 25]), (6, [1, 6, 7, 8, 23, 24, 25, 26]), (7, [1, 6, 7, 8, 10, 23, 24, 25]), (8, [1, 6, 7, 8, 23, 24, 25]), (9, [1, 6, 7, 8, 23, 24, 25]), (10, [6, 7, 38]), (11, [4, 5]), (12, [4, 5])], [], [100021], []⟩ 41 [.tmp 4, .tmp 5] rfl rfl rfl rfl rfl rfl ?_
  conv => whnf
  refine jnS (fun w1 => ⟨[(0, .l (.d (.sl (a0.map Task.enc)))), (1, .l (.d (.int .i64 a1))), (21, .l (.d (.bool w1)))], 41, [], [], []⟩) h (fun k1 hk1 h => ?_) (fun w1 h => ?_)
  · conv => whnf
    refine caS (E := E_Bool) h (task_All_w a0) rfl (fun _ => rfl) (fun x2 h => ?_)
    conv => whnf
    refine fkS h (fun h => ?_) (fun h => ?_)
    · conv => whnf
      exact jeS hk1 h (Weak.refl _)
    conv => whnf
    refine fkS h (fun h => ?_) (fun h => ?_)
    · conv => whnf
      exact jeS hk1 h (Weak.refl _)
    conv => whnf
    exact jeS hk1 h (Weak.refl _)
  conv => whnf
  refine fkS h (fun h => ?_) (fun h => ?_)
  · conv => whnf
    exact rt (E := E_Int_Int) h rfl
  conv => whnf
  refine lenS a0 Task.enc rfl ?_
  conv => whnf
  refine lpS (fun v3 => ⟨[(1, .l (.d (.int .i64 a1))), (6, .l (.ptr 7 0)), (7, .l (.ptr 8 0)), (8, .l (.func 124 [.k 7, .k 8])), (23, .l (.d (.sl (a0.map Task.enc)))), (24, .l (.d (.int .i64 (a0.length : Int)))), (25, .l (.d (.int .i64 v3.2.2)))], 41, [], [(7, [.d (.int .i64 v3.1)]), (8, [.d (.int .i64 v3.2.1)])], []⟩) h (Weak.refl _) (fun _ nx3 hn3 v3 h => ?_)
  conv => whnf
  refine fkS h (fun h => ?_) (fun h => ?_)
  · conv => whnf
    refine ixS (enc := Task.enc) h rfl (fun _ => rfl) (fun x4 h => ?_)
    conv => whnf
    refine ⟨6, ?_⟩
    conv => whnf
    refine daS (E := E_Int) h (demand_jobs_w x4 a1) (fun _ => rfl) (fun x5 h => ?_)
    conv => whnf
    refine drS (by kernel_rfl) ?_
    conv => whnf
    refine inS (fn := Try.f124) tab ⟨[(0, [2, 3, 6, 7]), (1, [2, 3, 7, 8, 9]), (2, [2, 3, 8, 27]), (3, []), (4, [])], [], [100027], []⟩ 29 [] rfl rfl rfl rfl rfl rfl ?_
    conv => whnf
    refine caS (E := E_Int_Int) h (arith_Mul_w x4.C x5) rfl (fun _ => rfl) (fun x6 h => ?_)
    conv => whnf
    refine caS (E := E_Int_Int) h (arith_Add_w v3.1 x6.1) rfl (fun _ => rfl) (fun x7 h => ?_)
    conv => whnf
    refine jnS (fun w8 => ⟨[(2, .l (.ptr 7 0)), (3, .l (.ptr 8 0)), (8, .l (.d (.int .i64 x7.1))), (27, .l (.d (.bool w8)))], 29, [⟨[(34, .l (.d (.int .i64 x5))), (33, .l (.d (.int .i64 a1))), (32, .agg [.d (.int .i64 x4.C), .d (.int .i64 x4.D), .d (.int .i64 x4.T), .d (.sl (x4.Secs.map Sec.enc))]), (31, .l (.d (.int .i64 x4.C))), (30, .l (.ptr 11 0)), (29, .l (.func 124 [.k 7, .k 8])), (1, .l (.d (.int .i64 a1))), (6, .l (.ptr 7 0)), (7, .l (.ptr 8 0)), (8, .l (.func 124 [.k 7, .k 8])), (10, .l (.ptr 11 0)), (23, .l (.d (.sl (a0.map Task.enc)))), (24, .l (.d (.int .i64 (a0.length : Int)))), (25, .l (.d (.int .i64 v3.2.2)))], 41⟩], [(7, [.d (.int .i64 v3.1)]), (8, [.d (.int .i64 v3.2.1)]), (11, [.d (.int .i64 x4.C), .d (.int .i64 x4.D), .d (.int .i64 x4.T), .d (.sl (x4.Secs.map Sec.enc))])], []⟩) h (fun k8 hk8 h => ?_) (fun w8 h => ?_)
    · conv => whnf
      refine fkS h (fun h => ?_) (fun h => ?_)
      · conv => whnf
        exact jeS hk8 h (Weak.refl _)
      conv => whnf
      exact jeS hk8 h (Weak.refl _)
    conv => whnf
    refine fkS h (fun h => ?_) (fun h => ?_)
    · conv => whnf
      exact leS hn3 h (Weak.refl _)
    conv => whnf
    exact leS hn3 h (Weak.refl _)
  conv => whnf
  refine fkS h (fun h => ?_) (fun h => ?_)
  · conv => whnf
    refine ⟨2, ?_⟩
    conv => whnf
    refine drS (by kernel_rfl) ?_
    conv => whnf
    exact rt (E := E_Int_Int) h rfl
  conv => whnf
  exact rt (E := E_Int_Int) h rfl

end Go.Proofs.Ytakiggekallckaa
namespace Go.Proofs.Ytakiggekallckaa
open Go Go.VC
noncomputable def ref07_Bound (a0 : List Task) (a1 : Int) : Option Int :=
  lp (fun nx1 (v1 : Int × Int) => fk (decide (v1.2 < (a0.length : Int))) (ix a0 v1.2 fun x2 => lp (fun nx3 (v3 : Int × Int) => fk (decide (v3.2 ≤ a1)) (ix a0 v1.2 fun x4 => ix a0 v1.2 fun x5 => nx3 ((wr (v3.1 + x4.C)), (wr (v3.2 + x5.T)))) (nx1 (v3.1, (wr (v1.2 + (1 : Int)))))) FU (v1.1, x2.D)) (some v1.1)) FU ((0 : Int), (0 : Int))
theorem ref07_Bound_w (a0 : List Task) (a1 : Int) (r : Int) (h : ref07_Bound a0 a1 = some r) : Go.VC.Spec Try.prog 121 [.d (.sl (a0.map Task.enc)), .d (.int .i64 a1)] (fun y => y = E_Int r) := by
  refine Go.VC.Spec.of_xc (args := [.d (.sl (a0.map Task.enc)), .d (.int .i64 a1)]) (fn := Try.f121) tab ⟨[(0, [0, 1]), (1, [0, 1, 5]), (2, [0, 1, 5, 6]), (3, [0, 1, 5, 6, 11]), (4, [0, 1, 5, 6]), (5, [0, 1, 5, 6, 7]), (6, [0, 1, 5, 6, 7, 21]), (7, [0, 1, 5, 6, 7]), (8, [0, 1, 5, 6, 7]), (9, [4])], [], [], []⟩ 37 [.tmp 4] rfl rfl rfl rfl rfl rfl ?_
  conv => whnf
  refine lpS (fun v1 => ⟨[(0, .l (.d (.sl (a0.map Task.enc)))), (1, .l (.d (.int .i64 a1))), (5, .l (.d (.int .i64 v1.1))), (6, .l (.d (.int .i64 v1.2)))], 37, [], [], []⟩) h (Weak.refl _) (fun _ nx1 hn1 v1 h => ?_)
  conv => whnf
  refine lenS a0 Task.enc rfl ?_
  conv => whnf
  refine fkS h (fun h => ?_) (fun h => ?_)
  · conv => whnf
    refine ixS (enc := Task.enc) h rfl (fun _ => rfl) (fun x2 h => ?_)
    conv => whnf
    refine lpS (fun v3 => ⟨[(0, .l (.d (.sl (a0.map Task.enc)))), (1, .l (.d (.int .i64 a1))), (5, .l (.d (.int .i64 v3.1))), (6, .l (.d (.int .i64 v1.2))), (7, .l (.d (.int .i64 v3.2)))], 37, [], [], []⟩) h (Weak.refl _) (fun _ nx3 hn3 v3 h => ?_)
    conv => whnf
    refine fkS h (fun h => ?_) (fun h => ?_)
    · conv => whnf
      refine ixS (enc := Task.enc) h rfl (fun _ => rfl) (fun x4 h => ?_)
      conv => whnf
      refine ixS (enc := Task.enc) h rfl (fun _ => rfl) (fun x5 h => ?_)
      conv => whnf
      exact leS hn3 h (Weak.refl _)
    conv => whnf
    exact leS hn1 h (Weak.refl _)
  conv => whnf
  exact rt (E := E_Int) h rfl

end Go.Proofs.Ytakiggekallckaa
namespace Go.Proofs.Ytakiggekallckaa
open Go Go.VC
noncomputable def ref05_Uses (a0 : Task) (a1 : Int) : Option Bool :=
  lp (fun nx1 (v1 : Int × Int) => fk (decide (v1.2 < (a0.Secs.length : Int))) (jn (fun (w2 : Int) => nx1 (w2, (wr (v1.2 + (1 : Int))))) (fun k2 => ix a0.Secs v1.2 fun x3 => fk (decide (x3.Res = a1)) (k2 (wr (v1.1 + (1 : Int)))) (k2 v1.1))) (some (decide (v1.1 > (0 : Int))))) FU ((0 : Int), (0 : Int))
theorem ref05_Uses_w (a0 : Task) (a1 : Int) (r : Bool) (h : ref05_Uses a0 a1 = some r) : Go.VC.Spec Try.prog 120 [.agg (Task.enc a0), .d (.int .i64 a1)] (fun y => y = E_Bool r) := by
  refine Go.VC.Spec.of_xc (args := [.agg (Task.enc a0), .d (.int .i64 a1)]) (fn := Try.f120) tab ⟨[(0, [1, 2]), (1, [1, 2, 5]), (2, [1, 2, 5, 6]), (3, [1, 2, 5, 6, 11]), (4, [1, 2, 5, 6]), (5, [1, 2, 5, 6, 21]), (6, [1, 2, 5, 6]), (7, [4])], [], [4], []⟩ 26 [.tmp 4] rfl rfl rfl rfl rfl rfl ?_
  conv => whnf
  refine lpS (fun v1 => ⟨[(1, .l (.d (.int .i64 a1))), (2, .l (.ptr 3 0)), (5, .l (.d (.int .i64 v1.1))), (6, .l (.d (.int .i64 v1.2)))], 26, [], [(3, [.d (.int .i64 a0.C), .d (.int .i64 a0.D), .d (.int .i64 a0.T), .d (.sl (a0.Secs.map Sec.enc))])], []⟩) h (Weak.refl _) (fun _ nx1 hn1 v1 h => ?_)
  conv => whnf
  refine lenS a0.Secs Sec.enc rfl ?_
  conv => whnf
  refine fkS h (fun h => ?_) (fun h => ?_)
  · conv => whnf
    refine jnS (fun w2 => ⟨[(1, .l (.d (.int .i64 a1))), (2, .l (.ptr 3 0)), (5, .l (.d (.int .i64 w2))), (6, .l (.d (.int .i64 v1.2)))], 26, [], [(3, [.d (.int .i64 a0.C), .d (.int .i64 a0.D), .d (.int .i64 a0.T), .d (.sl (a0.Secs.map Sec.enc))])], []⟩) h (fun k2 hk2 h => ?_) (fun w2 h => ?_)
    · conv => whnf
      refine ixS (enc := Sec.enc) h rfl (fun _ => rfl) (fun x3 h => ?_)
      conv => whnf
      refine fkS h (fun h => ?_) (fun h => ?_)
      · conv => whnf
        exact jeS hk2 h (Weak.refl _)
      conv => whnf
      refine jeX hk2 h ?_
      conv => whnf
      refine WkF.step (Weak.keepS _ [1, 2, 5, 6]) ?_
      conv => whnf
      exact WkF.refl _
    conv => whnf
    exact leS hn1 h (Weak.refl _)
  conv => whnf
  exact rt (E := E_Bool) h rfl

end Go.Proofs.Ytakiggekallckaa
namespace Go.Proofs.Ytakiggekallckaa
open Go Go.VC
noncomputable def ref08_Of (a0 : List Task) (a1 : Int) : Option Int :=
  lp (fun nx1 (v1 : Int × Int) => fk (decide (v1.2 < (a0.length : Int))) (lp (fun nx2 (v2 : Int × Int) => ix a0 v1.2 fun x3 => fk (decide (v2.2 < (x3.Secs.length : Int))) (lp (fun nx4 (v4 : Int × Int) => fk (decide (v4.2 < (a0.length : Int))) (jn (fun (w5 : Int) => nx4 (w5, (wr (v4.2 + (1 : Int))))) (fun k5 => jn (fun (w6 : Bool) => fk w6 (ix a0 v1.2 fun x15 => ix x15.Secs v2.2 fun x16 => k5 x16.Len) (k5 v4.1)) (fun k6 => ix a0 v1.2 fun x7 => fk (decide (x7.D > a1)) (ix a0 v4.2 fun x8 => fk (decide (x8.D ≤ a1)) (ix a0 v4.2 fun x9 => ix a0 v1.2 fun x10 => ix x10.Secs v2.2 fun x11 => bnd (ref05_Uses x9 x11.Res) fun x12 => fk x12 (ix a0 v1.2 fun x13 => ix x13.Secs v2.2 fun x14 => k6 (decide (x14.Len > v4.1))) (k6 false)) (k6 false)) (k6 false)))) (nx2 (v4.1, (wr (v2.2 + (1 : Int)))))) FU (v2.1, (0 : Int))) (nx1 (v2.1, (wr (v1.2 + (1 : Int)))))) FU (v1.1, (0 : Int))) (some v1.1)) FU ((0 : Int), (0 : Int))
theorem ref08_Of_w (a0 : List Task) (a1 : Int) (r : Int) (h : ref08_Of a0 a1 = some r) : Go.VC.Spec Try.prog 122 [.d (.sl (a0.map Task.enc)), .d (.int .i64 a1)] (fun y => y = E_Int r) := by
  refine Go.VC.Spec.of_xc (args := [.d (.sl (a0.map Task.enc)), .d (.int .i64 a1)]) (fn := Try.f122) tab ⟨[(0, [0, 1]), (1, [0, 1, 5]), (2, [0, 1, 5, 6]), (3, [0, 1, 5, 6, 12]), (4, [0, 1, 5, 6]), (5, [0, 1, 5, 6, 7]), (6, [0, 1, 5, 6, 7, 22]), (7, [0, 1, 5, 6, 7]), (8, [0, 1, 5, 6, 7, 8]), (9, [0, 1, 5, 6, 7, 8, 28]), (10, [0, 1, 5, 6, 7, 8]), (11, [0, 1, 5, 6, 7, 8, 75]), (12, [0, 1, 5, 6, 7, 8]), (13, [4])], [], [100075, 10], []⟩ 86 [.tmp 4] rfl rfl rfl rfl rfl rfl ?_
  conv => whnf
  refine lpS (fun v1 => ⟨[(0, .l (.d (.sl (a0.map Task.enc)))), (1, .l (.d (.int .i64 a1))), (5, .l (.d (.int .i64 v1.1))), (6, .l (.d (.int .i64 v1.2)))], 86, [], [], []⟩) h (Weak.refl _) (fun _ nx1 hn1 v1 h => ?_)
  conv => whnf
  refine lenS a0 Task.enc rfl ?_
  conv => whnf
  refine fkS h (fun h => ?_) (fun h => ?_)
  · conv => whnf
    refine lpS (fun v2 => ⟨[(0, .l (.d (.sl (a0.map Task.enc)))), (1, .l (.d (.int .i64 a1))), (5, .l (.d (.int .i64 v2.1))), (6, .l (.d (.int .i64 v1.2))), (7, .l (.d (.int .i64 v2.2)))], 86, [], [], []⟩) h (Weak.refl _) (fun _ nx2 hn2 v2 h => ?_)
    conv => whnf
    refine ixS (enc := Task.enc) h rfl (fun _ => rfl) (fun x3 h => ?_)
    conv => whnf
    refine lenS x3.Secs Sec.enc rfl ?_
    conv => whnf
    refine fkS h (fun h => ?_) (fun h => ?_)
    · conv => whnf
      refine lpS (fun v4 => ⟨[(0, .l (.d (.sl (a0.map Task.enc)))), (1, .l (.d (.int .i64 a1))), (5, .l (.d (.int .i64 v4.1))), (6, .l (.d (.int .i64 v1.2))), (7, .l (.d (.int .i64 v2.2))), (8, .l (.d (.int .i64 v4.2)))], 86, [], [], []⟩) h (Weak.refl _) (fun _ nx4 hn4 v4 h => ?_)
      conv => whnf
      refine lenS a0 Task.enc rfl ?_
      conv => whnf
      refine fkS h (fun h => ?_) (fun h => ?_)
      · conv => whnf
        refine jnS (fun w5 => ⟨[(0, .l (.d (.sl (a0.map Task.enc)))), (1, .l (.d (.int .i64 a1))), (5, .l (.d (.int .i64 w5))), (6, .l (.d (.int .i64 v1.2))), (7, .l (.d (.int .i64 v2.2))), (8, .l (.d (.int .i64 v4.2)))], 86, [], [], []⟩) h (fun k5 hk5 h => ?_) (fun w5 h => ?_)
        · conv => whnf
          refine jnS (fun w6 => ⟨[(0, .l (.d (.sl (a0.map Task.enc)))), (1, .l (.d (.int .i64 a1))), (5, .l (.d (.int .i64 v4.1))), (6, .l (.d (.int .i64 v1.2))), (7, .l (.d (.int .i64 v2.2))), (8, .l (.d (.int .i64 v4.2))), (75, .l (.d (.bool w6)))], 86, [], [], []⟩) h (fun k6 hk6 h => ?_) (fun w6 h => ?_)
          · conv => whnf
            refine ⟨45, ?_⟩
            conv => whnf
            refine ixS (enc := Task.enc) h rfl (fun _ => rfl) (fun x7 h => ?_)
            conv => whnf
            refine fkS h (fun h => ?_) (fun h => ?_)
            · conv => whnf
              refine ixS (enc := Task.enc) h rfl (fun _ => rfl) (fun x8 h => ?_)
              conv => whnf
              refine fkS h (fun h => ?_) (fun h => ?_)
              · conv => whnf
                refine ixS (enc := Task.enc) h rfl (fun _ => rfl) (fun x9 h => ?_)
                conv => whnf
                refine ixS (enc := Task.enc) h rfl (fun _ => rfl) (fun x10 h => ?_)
                conv => whnf
                refine ixS (enc := Sec.enc) h rfl (fun _ => rfl) (fun x11 h => ?_)
                conv => whnf
                refine daS (E := E_Bool) h (ref05_Uses_w x9 x11.Res) (fun _ => rfl) (fun x12 h => ?_)
                conv => whnf
                refine fkS h (fun h => ?_) (fun h => ?_)
                · conv => whnf
                  refine ixS (enc := Task.enc) h rfl (fun _ => rfl) (fun x13 h => ?_)
                  conv => whnf
                  refine ixS (enc := Sec.enc) h rfl (fun _ => rfl) (fun x14 h => ?_)
                  conv => whnf
                  refine drS (by kernel_rfl) ?_
                  conv => whnf
                  exact jeS hk6 h (Weak.refl _)
                conv => whnf
                refine drS (by kernel_rfl) ?_
                conv => whnf
                exact jeS hk6 h (Weak.refl _)
              conv => whnf
              refine drS (by kernel_rfl) ?_
              conv => whnf
              exact jeS hk6 h (Weak.refl _)
            conv => whnf
            refine drS (by kernel_rfl) ?_
            conv => whnf
            exact jeS hk6 h (Weak.refl _)
          conv => whnf
          refine fkS h (fun h => ?_) (fun h => ?_)
          · conv => whnf
            refine ixS (enc := Task.enc) h rfl (fun _ => rfl) (fun x15 h => ?_)
            conv => whnf
            refine ixS (enc := Sec.enc) h rfl (fun _ => rfl) (fun x16 h => ?_)
            conv => whnf
            exact jeS hk5 h (Weak.refl _)
          conv => whnf
          refine jeX hk5 h ?_
          conv => whnf
          refine WkF.step (Weak.keepS _ [0, 1, 5, 6, 7, 8]) ?_
          conv => whnf
          exact WkF.refl _
        conv => whnf
        exact leS hn4 h (Weak.refl _)
      conv => whnf
      exact leS hn2 h (Weak.refl _)
    conv => whnf
    exact leS hn1 h (Weak.refl _)
  conv => whnf
  exact rt (E := E_Int) h rfl

end Go.Proofs.Ytakiggekallckaa
namespace Go.Proofs.Ytakiggekallckaa
open Go Go.VC
noncomputable def ref09_Worst (a0 : Face) (a1 : Int) : Option Bool :=
  fk (decide (a1 < a0.P)) (some (decide (a1 < a0.B))) (ck (decide (a0.P ≠ 0)) (some (decide ((a1.tmod a0.P) ≥ (wr (a0.P - a0.B))))))
theorem ref09_Worst_w (a0 : Face) (a1 : Int) (r : Bool) (h : ref09_Worst a0 a1 = some r) : Go.VC.Spec Try.prog 123 [.agg (Face.enc a0), .d (.int .i64 a1)] (fun y => y = E_Bool r) := by
  refine Go.VC.Spec.of_xc (args := [.agg (Face.enc a0), .d (.int .i64 a1)]) (fn := Try.f123) tab ⟨[(0, [1, 2]), (1, [1, 2, 8]), (2, [4]), (3, [4])], [], [], []⟩ 23 [.tmp 4] rfl rfl rfl rfl rfl rfl ?_
  conv => whnf
  refine fkS h (fun h => ?_) (fun h => ?_)
  · conv => whnf
    exact rt (E := E_Bool) h rfl
  conv => whnf
  refine ⟨9, ?_⟩
  conv => whnf
  refine dvS h (fun h => ?_)
  conv => whnf
  refine drS (by kernel_rfl) ?_
  conv => whnf
  exact rt (E := E_Bool) h rfl

end Go.Proofs.Ytakiggekallckaa
namespace Go.Proofs.Ytakiggekallckaa
open Go Go.VC
noncomputable def ref09_Bound (a0 : Face) (a1 : Int) : Option Int :=
  lp (fun nx1 (v1 : Int × Int) => fk (decide (v1.2 < (wr (a0.B + a1)))) (jn (fun (w2 : Int) => nx1 (w2, (wr (v1.2 + (1 : Int))))) (fun k2 => bnd (ref09_Worst a0 v1.2) fun x3 => fk x3 (k2 (wr (v1.1 + (1 : Int)))) (k2 v1.1))) (some v1.1)) FU ((0 : Int), a0.B)
theorem ref09_Bound_w (a0 : Face) (a1 : Int) (r : Int) (h : ref09_Bound a0 a1 = some r) : Go.VC.Spec Try.prog 112 [.agg (Face.enc a0), .d (.int .i64 a1)] (fun y => y = E_Int r) := by
  refine Go.VC.Spec.of_xc (args := [.agg (Face.enc a0), .d (.int .i64 a1)]) (fn := Try.f112) tab ⟨[(0, [1, 2]), (1, [1, 2, 5]), (2, [1, 2, 5, 6]), (3, [1, 2, 5, 6, 14]), (4, [1, 2, 5, 6]), (5, [1, 2, 5, 6, 19]), (6, [1, 2, 5, 6]), (7, [4])], [], [4], []⟩ 23 [.tmp 4] rfl rfl rfl rfl rfl rfl ?_
  conv => whnf
  refine lpS (fun v1 => ⟨[(1, .l (.d (.int .i64 a1))), (2, .l (.ptr 3 0)), (5, .l (.d (.int .i64 v1.1))), (6, .l (.d (.int .i64 v1.2)))], 23, [], [(3, [.d (.int .i64 a0.P), .d (.int .i64 a0.B)])], []⟩) h (Weak.refl _) (fun _ nx1 hn1 v1 h => ?_)
  conv => whnf
  refine fkS h (fun h => ?_) (fun h => ?_)
  · conv => whnf
    refine jnS (fun w2 => ⟨[(1, .l (.d (.int .i64 a1))), (2, .l (.ptr 3 0)), (5, .l (.d (.int .i64 w2))), (6, .l (.d (.int .i64 v1.2)))], 23, [], [(3, [.d (.int .i64 a0.P), .d (.int .i64 a0.B)])], []⟩) h (fun k2 hk2 h => ?_) (fun w2 h => ?_)
    · conv => whnf
      refine caS (E := E_Bool) h (ref09_Worst_w a0 v1.2) rfl (fun _ => rfl) (fun x3 h => ?_)
      conv => whnf
      refine fkS h (fun h => ?_) (fun h => ?_)
      · conv => whnf
        exact jeS hk2 h (Weak.refl _)
      conv => whnf
      refine jeX hk2 h ?_
      conv => whnf
      refine WkF.step (Weak.keepS _ [1, 2, 5, 6]) ?_
      conv => whnf
      exact WkF.refl _
    conv => whnf
    exact leS hn1 h (Weak.refl _)
  conv => whnf
  exact rt (E := E_Int) h rfl

end Go.Proofs.Ytakiggekallckaa
namespace Go.Proofs.Ytakiggekallckaa
open Go Go.VC
noncomputable def ref09_Right (a0 : Face) : Option Bool :=
  fk (decide (a0.P ≥ (1 : Int))) (fk (decide (a0.P ≤ (200 : Int))) (fk (decide (a0.B ≥ (1 : Int))) (some (decide (a0.B ≤ a0.P))) (some false)) (some false)) (some false)
theorem ref09_Right_w (a0 : Face) (r : Bool) (h : ref09_Right a0 = some r) : Go.VC.Spec Try.prog 69 [.agg (Face.enc a0)] (fun y => y = E_Bool r) := by
  refine Go.VC.Spec.of_xc (args := [.agg (Face.enc a0)]) (fn := Try.f69) tab ⟨[(0, [1]), (1, [2])], [], [], []⟩ 23 [.tmp 2] rfl rfl rfl rfl rfl rfl ?_
  conv => whnf
  refine fkS h (fun h => ?_) (fun h => ?_)
  · conv => whnf
    refine fkS h (fun h => ?_) (fun h => ?_)
    · conv => whnf
      refine fkS h (fun h => ?_) (fun h => ?_)
      · conv => whnf
        exact rt (E := E_Bool) h rfl
      conv => whnf
      exact rt (E := E_Bool) h rfl
    conv => whnf
    exact rt (E := E_Bool) h rfl
  conv => whnf
  exact rt (E := E_Bool) h rfl

end Go.Proofs.Ytakiggekallckaa
namespace Go.Proofs.Ytakiggekallckaa
open Go Go.VC
noncomputable def ref10_Asked (a0 : List Task) (a1 : Face) (a2 : Int) : Option (Int × Int) :=
  lp (fun nx1 (v1 : Int × Int) => fk (decide (v1.2 < (a0.length : Int))) (ix a0 v1.2 fun x2 => ix a0 v1.2 fun x3 => ck (decide (x3.T ≠ 0)) (nx1 ((wr (v1.1 + (wr (x2.C * (wr (a2.tdiv x3.T)))))), (wr (v1.2 + (1 : Int)))))) (ck (decide (a1.P ≠ 0)) (some (v1.1, (wr (a1.B * (wr (a2.tdiv a1.P)))))))) FU ((0 : Int), (0 : Int))
theorem ref10_Asked_w (a0 : List Task) (a1 : Face) (a2 : Int) (r : Int × Int) (h : ref10_Asked a0 a1 a2 = some r) : Go.VC.Spec Try.prog 100 [.d (.sl (a0.map Task.enc)), .agg (Face.enc a1), .d (.int .i64 a2)] (fun y => y = E_Int_Int r) := by
  refine Go.VC.Spec.of_xc (args := [.d (.sl (a0.map Task.enc)), .agg (Face.enc a1), .d (.int .i64 a2)]) (fn := Try.f100) tab ⟨[(0, [0, 2, 4]), (1, [0, 2, 4, 8]), (2, [0, 2, 4, 8, 9]), (3, [0, 2, 4, 8, 9, 13]), (4, [0, 2, 4, 8, 9]), (5, [0, 2, 4, 8, 9]), (6, [6, 7])], [], [], []⟩ 39 [.tmp 6, .tmp 7] rfl rfl rfl rfl rfl rfl ?_
  conv => whnf
  refine lpS (fun v1 => ⟨[(0, .l (.d (.sl (a0.map Task.enc)))), (2, .l (.d (.int .i64 a2))), (4, .l (.ptr 5 0)), (8, .l (.d (.int .i64 v1.1))), (9, .l (.d (.int .i64 v1.2)))], 39, [], [(5, [.d (.int .i64 a1.P), .d (.int .i64 a1.B)])], []⟩) h (Weak.refl _) (fun _ nx1 hn1 v1 h => ?_)
  conv => whnf
  refine lenS a0 Task.enc rfl ?_
  conv => whnf
  refine fkS h (fun h => ?_) (fun h => ?_)
  · conv => whnf
    refine ⟨14, ?_⟩
    conv => whnf
    refine ixS (enc := Task.enc) h rfl (fun _ => rfl) (fun x2 h => ?_)
    conv => whnf
    refine ixS (enc := Task.enc) h rfl (fun _ => rfl) (fun x3 h => ?_)
    conv => whnf
    refine dvS h (fun h => ?_)
    conv => whnf
    refine drS (by kernel_rfl) ?_
    conv => whnf
    exact leS hn1 h (Weak.refl _)
  conv => whnf
  refine ⟨9, ?_⟩
  conv => whnf
  refine dvS h (fun h => ?_)
  conv => whnf
  refine drS (by kernel_rfl) ?_
  conv => whnf
  exact rt (E := E_Int_Int) h rfl

end Go.Proofs.Ytakiggekallckaa
namespace Go.Proofs.Ytakiggekallckaa
open Go Go.VC
noncomputable def ref05_Right (a0 : Task) : Option Bool :=
  jn (fun (w1 : Bool) => fk w1 (some false) (lp (fun nx2 (v2 : Int) => fk (decide (v2 < (a0.Secs.length : Int))) (ix a0.Secs v2 fun x3 => jn (fun (w4 : Bool) => fk w4 (some false) (lp (fun nx5 (v5 : Int) => fk (decide (v5 < v2)) (ix a0.Secs v5 fun x6 => jn (fun (w7 : Bool) => fk w7 (some false) (lp (fun nx8 (v8 : Int × Int × Int) => fk (decide (v8.2.2 < (wr (x3.At + x3.Len)))) (jn (fun (w9 : Int × Int) => nx8 (w9.1, w9.2, (wr (v8.2.2 + (1 : Int))))) (fun k9 => fk (decide (v8.2.2 < (wr (x6.At + x6.Len)))) (k9 ((wr (v8.1 + (1 : Int))), v8.2.1)) (k9 (v8.1, (wr (v8.2.1 + (1 : Int))))))) (jn (fun (w10 : Bool) => fk w10 (some false) (nx5 (wr (v5 + (1 : Int))))) (fun k10 => fk (decide (v8.1 > (0 : Int))) (fk (decide (v8.2.1 > (0 : Int))) (k10 true) (k10 (decide (x6.Res = x3.Res)))) (k10 false)))) FU ((0 : Int), (0 : Int), x3.At))) (fun k7 => fk (decide (x3.At < x6.At)) (k7 true) (fk (decide (x3.At = x6.At)) (k7 (decide (x3.Len > x6.Len))) (k7 false)))) (nx2 (wr (v2 + (1 : Int))))) FU (0 : Int))) (fun k4 => fk (decide (x3.Res < (0 : Int))) (k4 true) (fk (decide (x3.Res > (3 : Int))) (k4 true) (fk (decide (x3.At < (0 : Int))) (k4 true) (fk (decide (x3.Len < (1 : Int))) (k4 true) (fk (decide (x3.At > a0.C)) (k4 true) (fk (decide (x3.Len > a0.C)) (k4 true) (k4 (decide ((wr (x3.At + x3.Len)) > a0.C)))))))))) (some true)) FU (0 : Int))) (fun k1 => fk (decide (a0.C < (1 : Int))) (k1 true) (fk (decide (a0.D < a0.C)) (k1 true) (fk (decide (a0.T < a0.D)) (k1 true) (fk (decide (a0.T > (200 : Int))) (k1 true) (k1 (decide ((a0.Secs.length : Int) > (4 : Int))))))))
theorem ref05_Right_w (a0 : Task) (r : Bool) (h : ref05_Right a0 = some r) : Go.VC.Spec Try.prog 26 [.agg (Task.enc a0)] (fun y => y = E_Bool r) := by
  refine Go.VC.Spec.of_xc (args := [.agg (Task.enc a0)]) (fn := Try.f26) tab ⟨[(0, [1]), (1, [1, 37]), (2, [2]), (3, [1, 3]), (4, [1, 3, 42]), (5, [1, 3]), (6, [1, 3, 4]), (7, [1, 3, 4, 91]), (8, [2]), (9, [1, 3, 4, 5]), (10, [1, 3, 4, 5, 94]), (11, [1, 3, 4, 5]), (12, [1, 3, 4, 5, 6]), (13, [1, 3, 4, 5, 6, 120]), (14, [2]), (15, [1, 3, 4, 5, 6, 7, 8]), (16, [1, 3, 4, 5, 6, 7, 8, 9]), (17, [1, 3, 4, 5, 6, 7, 8, 9, 129]), (18, [1, 3, 4, 5, 6, 7, 8, 9]), (19, [1, 3, 4, 5, 6, 7, 8, 9, 138]), (20, [1, 3, 4, 5, 6, 7, 8, 9]), (21, [1, 3, 4, 5, 6, 7, 8, 9]), (22, [1, 3, 4, 5, 155]), (23, [2]), (24, [2])], [], [100037, 100091, 100120, 18, 100155], []⟩ 156 [.tmp 2] rfl rfl rfl rfl rfl rfl ?_
  conv => whnf
  refine jnS (fun w1 => ⟨[(1, .l (.ptr 2 0)), (37, .l (.d (.bool w1)))], 156, [], [(2, [.d (.int .i64 a0.C), .d (.int .i64 a0.D), .d (.int .i64 a0.T), .d (.sl (a0.Secs.map Sec.enc))])], []⟩) h (fun k1 hk1 h => ?_) (fun w1 h => ?_)
  · conv => whnf
    refine fkS h (fun h => ?_) (fun h => ?_)
    · conv => whnf
      exact jeS hk1 h (Weak.refl _)
    conv => whnf
    refine fkS h (fun h => ?_) (fun h => ?_)
    · conv => whnf
      exact jeS hk1 h (Weak.refl _)
    conv => whnf
    refine fkS h (fun h => ?_) (fun h => ?_)
    · conv => whnf
      exact jeS hk1 h (Weak.refl _)
    conv => whnf
    refine fkS h (fun h => ?_) (fun h => ?_)
    · conv => whnf
      exact jeS hk1 h (Weak.refl _)
    conv => whnf
    refine lenS a0.Secs Sec.enc rfl ?_
    conv => whnf
    exact jeS hk1 h (Weak.refl _)
  conv => whnf
  refine fkS h (fun h => ?_) (fun h => ?_)
  · conv => whnf
    exact rt (E := E_Bool) h rfl
  conv => whnf
  refine lpS (fun v2 => ⟨[(1, .l (.ptr 2 0)), (3, .l (.d (.int .i64 v2)))], 156, [], [(2, [.d (.int .i64 a0.C), .d (.int .i64 a0.D), .d (.int .i64 a0.T), .d (.sl (a0.Secs.map Sec.enc))])], []⟩) h (Weak.refl _) (fun _ nx2 hn2 v2 h => ?_)
  conv => whnf
  refine lenS a0.Secs Sec.enc rfl ?_
  conv => whnf
  refine fkS h (fun h => ?_) (fun h => ?_)
  · conv => whnf
    refine ixS (enc := Sec.enc) h rfl (fun _ => rfl) (fun x3 h => ?_)
    conv => whnf
    refine jnS (fun w4 => ⟨[(1, .l (.ptr 2 0)), (3, .l (.d (.int .i64 v2))), (4, .l (.ptr 5 0)), (91, .l (.d (.bool w4)))], 156, [], [(2, [.d (.int .i64 a0.C), .d (.int .i64 a0.D), .d (.int .i64 a0.T), .d (.sl (a0.Secs.map Sec.enc))]), (5, [.d (.int .i64 x3.Res), .d (.int .i64 x3.At), .d (.int .i64 x3.Len)])], []⟩) h (fun k4 hk4 h => ?_) (fun w4 h => ?_)
    · conv => whnf
      refine fkS h (fun h => ?_) (fun h => ?_)
      · conv => whnf
        exact jeS hk4 h (Weak.refl _)
      conv => whnf
      refine fkS h (fun h => ?_) (fun h => ?_)
      · conv => whnf
        exact jeS hk4 h (Weak.refl _)
      conv => whnf
      refine fkS h (fun h => ?_) (fun h => ?_)
      · conv => whnf
        exact jeS hk4 h (Weak.refl _)
      conv => whnf
      refine fkS h (fun h => ?_) (fun h => ?_)
      · conv => whnf
        exact jeS hk4 h (Weak.refl _)
      conv => whnf
      refine fkS h (fun h => ?_) (fun h => ?_)
      · conv => whnf
        exact jeS hk4 h (Weak.refl _)
      conv => whnf
      refine fkS h (fun h => ?_) (fun h => ?_)
      · conv => whnf
        exact jeS hk4 h (Weak.refl _)
      conv => whnf
      exact jeS hk4 h (Weak.refl _)
    conv => whnf
    refine fkS h (fun h => ?_) (fun h => ?_)
    · conv => whnf
      exact rt (E := E_Bool) h rfl
    conv => whnf
    refine lpS (fun v5 => ⟨[(1, .l (.ptr 2 0)), (3, .l (.d (.int .i64 v2))), (4, .l (.ptr 5 0)), (5, .l (.d (.int .i64 v5)))], 156, [], [(2, [.d (.int .i64 a0.C), .d (.int .i64 a0.D), .d (.int .i64 a0.T), .d (.sl (a0.Secs.map Sec.enc))]), (5, [.d (.int .i64 x3.Res), .d (.int .i64 x3.At), .d (.int .i64 x3.Len)])], []⟩) h (Weak.refl _) (fun _ nx5 hn5 v5 h => ?_)
    conv => whnf
    refine fkS h (fun h => ?_) (fun h => ?_)
    · conv => whnf
      refine ixS (enc := Sec.enc) h rfl (fun _ => rfl) (fun x6 h => ?_)
      conv => whnf
      refine jnS (fun w7 => ⟨[(1, .l (.ptr 2 0)), (3, .l (.d (.int .i64 v2))), (4, .l (.ptr 5 0)), (5, .l (.d (.int .i64 v5))), (6, .l (.ptr 7 0)), (120, .l (.d (.bool w7)))], 156, [], [(2, [.d (.int .i64 a0.C), .d (.int .i64 a0.D), .d (.int .i64 a0.T), .d (.sl (a0.Secs.map Sec.enc))]), (5, [.d (.int .i64 x3.Res), .d (.int .i64 x3.At), .d (.int .i64 x3.Len)]), (7, [.d (.int .i64 x6.Res), .d (.int .i64 x6.At), .d (.int .i64 x6.Len)])], []⟩) h (fun k7 hk7 h => ?_) (fun w7 h => ?_)
      · conv => whnf
        refine fkS h (fun h => ?_) (fun h => ?_)
        · conv => whnf
          exact jeS hk7 h (Weak.refl _)
        conv => whnf
        refine fkS h (fun h => ?_) (fun h => ?_)
        · conv => whnf
          exact jeS hk7 h (Weak.refl _)
        conv => whnf
        exact jeS hk7 h (Weak.refl _)
      conv => whnf
      refine fkS h (fun h => ?_) (fun h => ?_)
      · conv => whnf
        exact rt (E := E_Bool) h rfl
      conv => whnf
      refine lpS (fun v8 => ⟨[(1, .l (.ptr 2 0)), (3, .l (.d (.int .i64 v2))), (4, .l (.ptr 5 0)), (5, .l (.d (.int .i64 v5))), (6, .l (.ptr 7 0)), (7, .l (.d (.int .i64 v8.1))), (8, .l (.d (.int .i64 v8.2.1))), (9, .l (.d (.int .i64 v8.2.2)))], 156, [], [(2, [.d (.int .i64 a0.C), .d (.int .i64 a0.D), .d (.int .i64 a0.T), .d (.sl (a0.Secs.map Sec.enc))]), (5, [.d (.int .i64 x3.Res), .d (.int .i64 x3.At), .d (.int .i64 x3.Len)]), (7, [.d (.int .i64 x6.Res), .d (.int .i64 x6.At), .d (.int .i64 x6.Len)])], []⟩) h (Weak.refl _) (fun _ nx8 hn8 v8 h => ?_)
      conv => whnf
      refine fkS h (fun h => ?_) (fun h => ?_)
      · conv => whnf
        refine jnS (fun w9 => ⟨[(1, .l (.ptr 2 0)), (3, .l (.d (.int .i64 v2))), (4, .l (.ptr 5 0)), (5, .l (.d (.int .i64 v5))), (6, .l (.ptr 7 0)), (7, .l (.d (.int .i64 w9.1))), (8, .l (.d (.int .i64 w9.2))), (9, .l (.d (.int .i64 v8.2.2)))], 156, [], [(2, [.d (.int .i64 a0.C), .d (.int .i64 a0.D), .d (.int .i64 a0.T), .d (.sl (a0.Secs.map Sec.enc))]), (5, [.d (.int .i64 x3.Res), .d (.int .i64 x3.At), .d (.int .i64 x3.Len)]), (7, [.d (.int .i64 x6.Res), .d (.int .i64 x6.At), .d (.int .i64 x6.Len)])], []⟩) h (fun k9 hk9 h => ?_) (fun w9 h => ?_)
        · conv => whnf
          refine fkS h (fun h => ?_) (fun h => ?_)
          · conv => whnf
            exact jeS hk9 h (Weak.refl _)
          conv => whnf
          exact jeS hk9 h (Weak.refl _)
        conv => whnf
        exact leS hn8 h (Weak.refl _)
      conv => whnf
      refine jnS (fun w10 => ⟨[(1, .l (.ptr 2 0)), (3, .l (.d (.int .i64 v2))), (4, .l (.ptr 5 0)), (5, .l (.d (.int .i64 v5))), (155, .l (.d (.bool w10)))], 156, [], [(2, [.d (.int .i64 a0.C), .d (.int .i64 a0.D), .d (.int .i64 a0.T), .d (.sl (a0.Secs.map Sec.enc))]), (5, [.d (.int .i64 x3.Res), .d (.int .i64 x3.At), .d (.int .i64 x3.Len)])], []⟩) h (fun k10 hk10 h => ?_) (fun w10 h => ?_)
      · conv => whnf
        refine fkS h (fun h => ?_) (fun h => ?_)
        · conv => whnf
          refine fkS h (fun h => ?_) (fun h => ?_)
          · conv => whnf
            exact jeS hk10 h (Weak.refl _)
          conv => whnf
          exact jeS hk10 h (Weak.refl _)
        conv => whnf
        exact jeS hk10 h (Weak.refl _)
      conv => whnf
      refine fkS h (fun h => ?_) (fun h => ?_)
      · conv => whnf
        exact rt (E := E_Bool) h rfl
      conv => whnf
      exact leS hn5 h (Weak.refl _)
    conv => whnf
    exact leS hn2 h (Weak.refl _)
  conv => whnf
  exact rt (E := E_Bool) h rfl

end Go.Proofs.Ytakiggekallckaa
namespace Go.Proofs.Ytakiggekallckaa
open Go Go.VC
noncomputable def ref05_All (a0 : List Task) : Option Bool :=
  lp (fun nx1 (v1 : Int × Int) => fk (decide (v1.2 < (a0.length : Int))) (jn (fun (w2 : Int) => nx1 (w2, (wr (v1.2 + (1 : Int))))) (fun k2 => ix a0 v1.2 fun x3 => bnd (ref05_Right x3) fun x4 => fk x4 (k2 (wr (v1.1 + (1 : Int)))) (k2 v1.1))) (fk (decide (v1.1 = (a0.length : Int))) (some (decide (v1.1 ≤ (8 : Int)))) (some false))) FU ((0 : Int), (0 : Int))
theorem ref05_All_w (a0 : List Task) (r : Bool) (h : ref05_All a0 = some r) : Go.VC.Spec Try.prog 27 [.d (.sl (a0.map Task.enc))] (fun y => y = E_Bool r) := by
  refine Go.VC.Spec.of_xc (args := [.d (.sl (a0.map Task.enc))]) (fn := Try.f27) tab ⟨[(0, [0]), (1, [0, 3]), (2, [0, 3, 4]), (3, [0, 3, 4, 8]), (4, [0, 3, 4]), (5, [0, 3, 4, 15]), (6, [0, 3, 4]), (7, [2])], [], [4], []⟩ 26 [.tmp 2] rfl rfl rfl rfl rfl rfl ?_
  conv => whnf
  refine lpS (fun v1 => ⟨[(0, .l (.d (.sl (a0.map Task.enc)))), (3, .l (.d (.int .i64 v1.1))), (4, .l (.d (.int .i64 v1.2)))], 26, [], [], []⟩) h (Weak.refl _) (fun _ nx1 hn1 v1 h => ?_)
  conv => whnf
  refine lenS a0 Task.enc rfl ?_
  conv => whnf
  refine fkS h (fun h => ?_) (fun h => ?_)
  · conv => whnf
    refine jnS (fun w2 => ⟨[(0, .l (.d (.sl (a0.map Task.enc)))), (3, .l (.d (.int .i64 w2))), (4, .l (.d (.int .i64 v1.2)))], 26, [], [], []⟩) h (fun k2 hk2 h => ?_) (fun w2 h => ?_)
    · conv => whnf
      refine ixS (enc := Task.enc) h rfl (fun _ => rfl) (fun x3 h => ?_)
      conv => whnf
      refine caS (E := E_Bool) h (ref05_Right_w x3) rfl (fun _ => rfl) (fun x4 h => ?_)
      conv => whnf
      refine fkS h (fun h => ?_) (fun h => ?_)
      · conv => whnf
        exact jeS hk2 h (Weak.refl _)
      conv => whnf
      refine jeX hk2 h ?_
      conv => whnf
      refine WkF.step (Weak.keepS _ [0, 3, 4]) ?_
      conv => whnf
      exact WkF.refl _
    conv => whnf
    exact leS hn1 h (Weak.refl _)
  conv => whnf
  refine lenS a0 Task.enc rfl ?_
  conv => whnf
  refine fkS h (fun h => ?_) (fun h => ?_)
  · conv => whnf
    exact rt (E := E_Bool) h rfl
  conv => whnf
  exact rt (E := E_Bool) h rfl

end Go.Proofs.Ytakiggekallckaa
namespace Go.Proofs.Ytakiggekallckaa
open Go Go.VC
noncomputable def ref10_Cycle (a0 : List Task) (a1 : Face) : Option (Int × Int × Int) :=
  jn (fun (w1 : Bool) => fk w1 (some ((0 : Int), (0 : Int), (1 : Int))) (lp (fun nx4 (v4 : Int × Int) => fk (decide (v4.2 < (a0.length : Int))) (jn (fun (w5 : Int) => nx4 (w5, (wr (v4.2 + (1 : Int))))) (fun k5 => ix a0 v4.2 fun x6 => fk (decide (x6.D > v4.1)) (ix a0 v4.2 fun x7 => k5 x7.D) (k5 v4.1))) (lp (fun nx8 (v8 : Int) => fk (decide ((wr (v8 + v4.1)) ≤ (3000 : Int))) (lp (fun nx9 (v9 : Bool × Int) => fk (decide (v9.2 < (a0.length : Int))) (jn (fun (w10 : Bool) => nx9 (w10, (wr (v9.2 + (1 : Int))))) (fun k10 => fk v9.1 (ix a0 v9.2 fun x11 => ck (decide (x11.T ≠ 0)) (k10 (decide ((v8.tmod x11.T) = (0 : Int))))) (k10 false))) (fk v9.1 (some (v8, (wr (v8 + v4.1)), (0 : Int))) (nx8 (wr (v8 + a1.P))))) FU (true, (0 : Int))) (some ((0 : Int), (0 : Int), (5 : Int)))) FU a1.P)) FU ((wr ((2 : Int) * a1.P)), (0 : Int)))) (fun k1 => bnd (ref05_All a0) fun x2 => fk (!x2) (k1 true) (bnd (ref09_Right a1) fun x3 => k1 (!x3)))
theorem ref10_Cycle_w (a0 : List Task) (a1 : Face) (r : Int × Int × Int) (h : ref10_Cycle a0 a1 = some r) : Go.VC.Spec Try.prog 64 [.d (.sl (a0.map Task.enc)), .agg (Face.enc a1)] (fun y => y = E_Int_Int_Int r) := by
  refine Go.VC.Spec.of_xc (args := [.d (.sl (a0.map Task.enc)), .agg (Face.enc a1)]) (fn := Try.f64) tab ⟨[(0, [0, 3]), (1, [0, 3, 19]), (2, [4, 5, 6]), (3, [0, 3, 7]), (4, [0, 3, 7, 8]), (5, [0, 3, 7, 8, 26]), (6, [0, 3, 7, 8]), (7, [0, 3, 7, 8, 35]), (8, [0, 3, 7, 8]), (9, [0, 3, 7, 9]), (10, [0, 3, 7, 9, 46]), (11, [0, 3, 7, 9]), (12, [0, 3, 7, 9, 10]), (13, [0, 3, 7, 9, 10, 11]), (14, [0, 3, 7, 9, 10, 11, 54]), (15, [0, 3, 7, 9, 10, 11]), (16, [0, 3, 7, 9, 10, 11]), (17, [0, 3, 7, 9, 68]), (18, [4, 5, 6]), (19, [4, 5, 6])], [], [100019, 6, 15], []⟩ 73 [.tmp 4, .tmp 5, .tmp 6] rfl rfl rfl rfl rfl rfl ?_
  conv => whnf
  refine jnS (fun w1 => ⟨[(0, .l (.d (.sl (a0.map Task.enc)))), (3, .l (.ptr 4 0)), (19, .l (.d (.bool w1)))], 73, [], [(4, [.d (.int .i64 a1.P), .d (.int .i64 a1.B)])], []⟩) h (fun k1 hk1 h => ?_) (fun w1 h => ?_)
  · conv => whnf
    refine caS (E := E_Bool) h (ref05_All_w a0) rfl (fun _ => rfl) (fun x2 h => ?_)
    conv => whnf
    refine fkS h (fun h => ?_) (fun h => ?_)
    · conv => whnf
      exact jeS hk1 h (Weak.refl _)
    conv => whnf
    refine caS (E := E_Bool) h (ref09_Right_w a1) rfl (fun _ => rfl) (fun x3 h => ?_)
    conv => whnf
    exact jeS hk1 h (Weak.refl _)
  conv => whnf
  refine fkS h (fun h => ?_) (fun h => ?_)
  · conv => whnf
    exact rt (E := E_Int_Int_Int) h rfl
  conv => whnf
  refine lpS (fun v4 => ⟨[(0, .l (.d (.sl (a0.map Task.enc)))), (3, .l (.ptr 4 0)), (7, .l (.d (.int .i64 v4.1))), (8, .l (.d (.int .i64 v4.2)))], 73, [], [(4, [.d (.int .i64 a1.P), .d (.int .i64 a1.B)])], []⟩) h (Weak.refl _) (fun _ nx4 hn4 v4 h => ?_)
  conv => whnf
  refine lenS a0 Task.enc rfl ?_
  conv => whnf
  refine fkS h (fun h => ?_) (fun h => ?_)
  · conv => whnf
    refine jnS (fun w5 => ⟨[(0, .l (.d (.sl (a0.map Task.enc)))), (3, .l (.ptr 4 0)), (7, .l (.d (.int .i64 w5))), (8, .l (.d (.int .i64 v4.2)))], 73, [], [(4, [.d (.int .i64 a1.P), .d (.int .i64 a1.B)])], []⟩) h (fun k5 hk5 h => ?_) (fun w5 h => ?_)
    · conv => whnf
      refine ixS (enc := Task.enc) h rfl (fun _ => rfl) (fun x6 h => ?_)
      conv => whnf
      refine fkS h (fun h => ?_) (fun h => ?_)
      · conv => whnf
        refine ixS (enc := Task.enc) h rfl (fun _ => rfl) (fun x7 h => ?_)
        conv => whnf
        exact jeS hk5 h (Weak.refl _)
      conv => whnf
      refine jeX hk5 h ?_
      conv => whnf
      refine WkF.step (Weak.keepS _ [0, 3, 7, 8]) ?_
      conv => whnf
      exact WkF.refl _
    conv => whnf
    exact leS hn4 h (Weak.refl _)
  conv => whnf
  refine lpS (fun v8 => ⟨[(0, .l (.d (.sl (a0.map Task.enc)))), (3, .l (.ptr 4 0)), (7, .l (.d (.int .i64 v4.1))), (9, .l (.d (.int .i64 v8)))], 73, [], [(4, [.d (.int .i64 a1.P), .d (.int .i64 a1.B)])], []⟩) h (Weak.refl _) (fun _ nx8 hn8 v8 h => ?_)
  conv => whnf
  refine fkS h (fun h => ?_) (fun h => ?_)
  · conv => whnf
    refine lpS (fun v9 => ⟨[(0, .l (.d (.sl (a0.map Task.enc)))), (3, .l (.ptr 4 0)), (7, .l (.d (.int .i64 v4.1))), (9, .l (.d (.int .i64 v8))), (10, .l (.d (.bool v9.1))), (11, .l (.d (.int .i64 v9.2)))], 73, [], [(4, [.d (.int .i64 a1.P), .d (.int .i64 a1.B)])], []⟩) h (Weak.refl _) (fun _ nx9 hn9 v9 h => ?_)
    conv => whnf
    refine lenS a0 Task.enc rfl ?_
    conv => whnf
    refine fkS h (fun h => ?_) (fun h => ?_)
    · conv => whnf
      refine jnS (fun w10 => ⟨[(0, .l (.d (.sl (a0.map Task.enc)))), (3, .l (.ptr 4 0)), (7, .l (.d (.int .i64 v4.1))), (9, .l (.d (.int .i64 v8))), (10, .l (.d (.bool w10))), (11, .l (.d (.int .i64 v9.2)))], 73, [], [(4, [.d (.int .i64 a1.P), .d (.int .i64 a1.B)])], []⟩) h (fun k10 hk10 h => ?_) (fun w10 h => ?_)
      · conv => whnf
        refine fkS h (fun h => ?_) (fun h => ?_)
        · conv => whnf
          refine ixS (enc := Task.enc) h rfl (fun _ => rfl) (fun x11 h => ?_)
          conv => whnf
          refine dvS h (fun h => ?_)
          conv => whnf
          exact jeS hk10 h (Weak.refl _)
        conv => whnf
        exact jeS hk10 h (Weak.refl _)
      conv => whnf
      exact leS hn9 h (Weak.refl _)
    conv => whnf
    refine fkS h (fun h => ?_) (fun h => ?_)
    · conv => whnf
      exact rt (E := E_Int_Int_Int) h rfl
    conv => whnf
    exact leS hn8 h (Weak.refl _)
  conv => whnf
  exact rt (E := E_Int_Int_Int) h rfl

end Go.Proofs.Ytakiggekallckaa
namespace Go.Proofs.Ytakiggekallckaa
open Go Go.VC
noncomputable def ref10_Need (a0 : List Task) (a1 : Int) : Option Int :=
  bnd (ref07_Bound a0 a1) fun x1 => bnd (ref08_Of a0 a1) fun x2 => some (wr (x1 + x2))
theorem ref10_Need_w (a0 : List Task) (a1 : Int) (r : Int) (h : ref10_Need a0 a1 = some r) : Go.VC.Spec Try.prog 111 [.d (.sl (a0.map Task.enc)), .d (.int .i64 a1)] (fun y => y = E_Int r) := by
  refine Go.VC.Spec.of_xc (args := [.d (.sl (a0.map Task.enc)), .d (.int .i64 a1)]) (fn := Try.f111) tab ⟨[(0, [0, 1]), (1, [4])], [], [], []⟩ 12 [.tmp 4] rfl rfl rfl rfl rfl rfl ?_
  conv => whnf
  refine caS (E := E_Int) h (ref07_Bound_w a0 a1) rfl (fun _ => rfl) (fun x1 h => ?_)
  conv => whnf
  refine caS (E := E_Int) h (ref08_Of_w a0 a1) rfl (fun _ => rfl) (fun x2 h => ?_)
  conv => whnf
  exact rt (E := E_Int) h rfl

end Go.Proofs.Ytakiggekallckaa
namespace Go.Proofs.Ytakiggekallckaa
open Go Go.VC
noncomputable def ref10_First (a0 : List Task) (a1 : Face) (a2 : Int) : Option (Int × Bool) :=
  lp (fun nx1 (v1 : Int) => fk (decide (v1 ≤ a2)) (bnd (ref10_Need a0 v1) fun x2 => bnd (ref09_Bound a1 v1) fun x3 => fk (decide (x2 > x3)) (some (v1, true)) (nx1 (wr (v1 + (1 : Int))))) (some ((0 : Int), false))) FU (0 : Int)
theorem ref10_First_w (a0 : List Task) (a1 : Face) (a2 : Int) (r : Int × Bool) (h : ref10_First a0 a1 a2 = some r) : Go.VC.Spec Try.prog 101 [.d (.sl (a0.map Task.enc)), .agg (Face.enc a1), .d (.int .i64 a2)] (fun y => y = E_Int_Bool r) := by
  refine Go.VC.Spec.of_xc (args := [.d (.sl (a0.map Task.enc)), .agg (Face.enc a1), .d (.int .i64 a2)]) (fn := Try.f101) tab ⟨[(0, [0, 2, 4]), (1, [0, 2, 4, 8]), (2, [0, 2, 4, 8, 11]), (3, [0, 2, 4, 8]), (4, [0, 2, 4, 8, 20]), (5, [6, 7]), (6, [6, 7])], [], [], []⟩ 22 [.tmp 6, .tmp 7] rfl rfl rfl rfl rfl rfl ?_
  conv => whnf
  refine lpS (fun v1 => ⟨[(0, .l (.d (.sl (a0.map Task.enc)))), (2, .l (.d (.int .i64 a2))), (4, .l (.ptr 5 0)), (8, .l (.d (.int .i64 v1)))], 22, [], [(5, [.d (.int .i64 a1.P), .d (.int .i64 a1.B)])], []⟩) h (Weak.refl _) (fun _ nx1 hn1 v1 h => ?_)
  conv => whnf
  refine fkS h (fun h => ?_) (fun h => ?_)
  · conv => whnf
    refine ⟨5, ?_⟩
    conv => whnf
    refine daS (E := E_Int) h (ref10_Need_w a0 v1) (fun _ => rfl) (fun x2 h => ?_)
    conv => whnf
    refine drS (by kernel_rfl) ?_
    conv => whnf
    refine caS (E := E_Int) h (ref09_Bound_w a1 v1) rfl (fun _ => rfl) (fun x3 h => ?_)
    conv => whnf
    refine fkS h (fun h => ?_) (fun h => ?_)
    · conv => whnf
      exact rt (E := E_Int_Bool) h rfl
    conv => whnf
    exact leS hn1 h (Weak.refl _)
  conv => whnf
  exact rt (E := E_Int_Bool) h rfl

end Go.Proofs.Ytakiggekallckaa
namespace Go.Proofs.Ytakiggekallckaa
open Go Go.VC
noncomputable def ref10_Fits (a0 : List Task) (a1 : Face) : Option Bool :=
  bnd (ref10_Cycle a0 a1) fun x1 => bnd (ref10_Asked a0 a1 x1.1) fun x2 => bnd (ref10_First a0 a1 x1.2.1) fun x3 => fk (decide (x2.1 ≤ x2.2)) (some (!x3.2)) (some false)
theorem ref10_Fits_w (a0 : List Task) (a1 : Face) (r : Bool) (h : ref10_Fits a0 a1 = some r) : Go.VC.Spec Try.prog 88 [.d (.sl (a0.map Task.enc)), .agg (Face.enc a1)] (fun y => y = E_Bool r) := by
  refine Go.VC.Spec.of_xc (args := [.d (.sl (a0.map Task.enc)), .agg (Face.enc a1)]) (fn := Try.f88) tab ⟨[(0, [0, 3]), (1, [0, 3, 5, 6]), (2, [0, 3, 6, 8, 9]), (3, [8, 9, 11]), (4, [4])], [], [], []⟩ 40 [.tmp 4] rfl rfl rfl rfl rfl rfl ?_
  conv => whnf
  refine caS (E := E_Int_Int_Int) h (ref10_Cycle_w a0 a1) rfl (fun _ => rfl) (fun x1 h => ?_)
  conv => whnf
  refine caS (E := E_Int_Int) h (ref10_Asked_w a0 a1 x1.1) rfl (fun _ => rfl) (fun x2 h => ?_)
  conv => whnf
  refine caS (E := E_Int_Bool) h (ref10_First_w a0 a1 x1.2.1) rfl (fun _ => rfl) (fun x3 h => ?_)
  conv => whnf
  refine fkS h (fun h => ?_) (fun h => ?_)
  · conv => whnf
    exact rt (E := E_Bool) h rfl
  conv => whnf
  exact rt (E := E_Bool) h rfl

end Go.Proofs.Ytakiggekallckaa
namespace Go.Proofs.Ytakiggekallckaa
open Go Go.VC
noncomputable def supply_Right (a0 : Face) : Option Bool :=
  fk (decide (a0.B ≥ (1 : Int))) (fk (decide (a0.B ≤ a0.P)) (some (decide (a0.P ≤ (200 : Int)))) (some false)) (some false)
theorem supply_Right_w (a0 : Face) (r : Bool) (h : supply_Right a0 = some r) : Go.VC.Spec Try.prog 67 [.agg (Face.enc a0)] (fun y => y = E_Bool r) := by
  refine Go.VC.Spec.of_xc (args := [.agg (Face.enc a0)]) (fn := Try.f67) tab ⟨[(0, [1]), (1, [2])], [], [], []⟩ 18 [.tmp 2] rfl rfl rfl rfl rfl rfl ?_
  conv => whnf
  refine fkS h (fun h => ?_) (fun h => ?_)
  · conv => whnf
    refine fkS h (fun h => ?_) (fun h => ?_)
    · conv => whnf
      exact rt (E := E_Bool) h rfl
    conv => whnf
    exact rt (E := E_Bool) h rfl
  conv => whnf
  exact rt (E := E_Bool) h rfl

end Go.Proofs.Ytakiggekallckaa
namespace Go.Proofs.Ytakiggekallckaa
open Go Go.VC
noncomputable def supply_Bound (a0 : Face) (a1 : Int) : Option (Int × Int) :=
  jn (fun (w1 : Bool) => fk w1 (some ((0 : Int), (1 : Int))) (fk (decide (a1 < (wr (a0.P - a0.B)))) (some ((0 : Int), (0 : Int))) (ck (decide (a0.P ≠ 0)) (some ((wr ((wr ((wr ((wr (a1 - (wr (a0.P - a0.B)))).tdiv a0.P)) * a0.B)) + (if (wr ((wr (a1 - (wr ((2 : Int) * (wr (a0.P - a0.B)))))) - (wr ((wr ((wr (a1 - (wr (a0.P - a0.B)))).tdiv a0.P)) * a0.P)))) > (0 : Int) then (wr ((wr (a1 - (wr ((2 : Int) * (wr (a0.P - a0.B)))))) - (wr ((wr ((wr (a1 - (wr (a0.P - a0.B)))).tdiv a0.P)) * a0.P)))) else (0 : Int)))), (0 : Int)))))) (fun k1 => bnd (supply_Right a0) fun x2 => fk (!x2) (k1 true) (fk (decide (a1 < (0 : Int))) (k1 true) (k1 (decide (a1 > (4611686018427387903 : Int))))))
theorem supply_Bound_w (a0 : Face) (a1 : Int) (r : Int × Int) (h : supply_Bound a0 a1 = some r) : Go.VC.Spec Try.prog 106 [.agg (Face.enc a0), .d (.int .i64 a1)] (fun y => y = E_Int_Int r) := by
  refine Go.VC.Spec.of_xc (args := [.agg (Face.enc a0), .d (.int .i64 a1)]) (fn := Try.f106) tab ⟨[(0, [1, 2]), (1, [1, 2, 18]), (2, [4, 5]), (3, [1, 2, 6]), (4, [1, 2, 6, 26]), (5, [4, 5]), (6, [1, 2, 6, 7]), (7, [4, 5])], [], [100018], []⟩ 48 [.tmp 4, .tmp 5] rfl rfl rfl rfl rfl rfl ?_
  conv => whnf
  refine jnS (fun w1 => ⟨[(1, .l (.d (.int .i64 a1))), (2, .l (.ptr 3 0)), (18, .l (.d (.bool w1)))], 48, [], [(3, [.d (.int .i64 a0.P), .d (.int .i64 a0.B)])], []⟩) h (fun k1 hk1 h => ?_) (fun w1 h => ?_)
  · conv => whnf
    refine caS (E := E_Bool) h (supply_Right_w a0) rfl (fun _ => rfl) (fun x2 h => ?_)
    conv => whnf
    refine fkS h (fun h => ?_) (fun h => ?_)
    · conv => whnf
      exact jeS hk1 h (Weak.refl _)
    conv => whnf
    refine fkS h (fun h => ?_) (fun h => ?_)
    · conv => whnf
      exact jeS hk1 h (Weak.refl _)
    conv => whnf
    exact jeS hk1 h (Weak.refl _)
  conv => whnf
  refine fkS h (fun h => ?_) (fun h => ?_)
  · conv => whnf
    exact rt (E := E_Int_Int) h rfl
  conv => whnf
  refine fkS h (fun h => ?_) (fun h => ?_)
  · conv => whnf
    exact rt (E := E_Int_Int) h rfl
  conv => whnf
  refine dvS h (fun h => ?_)
  conv => whnf
  exact rt (E := E_Int_Int) h rfl

end Go.Proofs.Ytakiggekallckaa
namespace Go.Proofs.Ytakiggekallckaa
open Go Go.VC
noncomputable def verdict_Cycle (a0 : List Task) (a1 : Face) : Option (Int × Int × Int) :=
  jn (fun (w1 : Bool) => fk w1 (some ((0 : Int), (0 : Int), (1 : Int))) (lp (fun nx4 (v4 : Int × Int × Int) => fk (decide (v4.2.2 < (a0.length : Int))) (ix a0 v4.2.2 fun x5 => bnd (arith_Lcm v4.1 x5.T) fun x6 => jn (fun (w7 : Bool) => fk w7 (some ((0 : Int), (0 : Int), (5 : Int))) (nx4 (x6.1, (if x5.D > v4.2.1 then x5.D else v4.2.1), (wr (v4.2.2 + (1 : Int)))))) (fun k7 => fk (!decide (x6.2 = (0 : Int))) (k7 true) (k7 (decide (x6.1 > (3000 : Int)))))) (fk (decide ((wr (v4.1 + v4.2.1)) > (3000 : Int))) (some ((0 : Int), (0 : Int), (5 : Int))) (some (v4.1, (wr (v4.1 + v4.2.1)), (0 : Int))))) FU (a1.P, (wr ((2 : Int) * a1.P)), (0 : Int)))) (fun k1 => bnd (task_All a0) fun x2 => fk (!x2) (k1 true) (bnd (supply_Right a1) fun x3 => k1 (!x3)))
theorem verdict_Cycle_w (a0 : List Task) (a1 : Face) (r : Int × Int × Int) (h : verdict_Cycle a0 a1 = some r) : Go.VC.Spec Try.prog 73 [.d (.sl (a0.map Task.enc)), .agg (Face.enc a1)] (fun y => y = E_Int_Int_Int r) := by
  refine Go.VC.Spec.of_xc (args := [.d (.sl (a0.map Task.enc)), .agg (Face.enc a1)]) (fn := Try.f73) tab ⟨[(0, [0, 3]), (1, [0, 3, 20]), (2, [4, 5, 6]), (3, [0, 7, 8]), (4, [7, 8, 26, 27, 28]), (5, [7, 8, 26, 27, 28, 29]), (6, [7, 8, 10, 26, 27, 28]), (7, [8, 10, 11, 12, 26, 27, 28]), (8, [8, 10, 11, 26, 27, 28, 44]), (9, [4, 5, 6]), (10, [7, 8, 26, 27, 28]), (11, [7, 8, 26, 27, 28]), (12, [7, 8, 54]), (13, [4, 5, 6]), (14, [4, 5, 6])], [], [100020, 100044], []⟩ 59 [.tmp 4, .tmp 5, .tmp 6] rfl rfl rfl rfl rfl rfl ?_
  conv => whnf
  refine jnS (fun w1 => ⟨[(0, .l (.d (.sl (a0.map Task.enc)))), (3, .l (.ptr 4 0)), (20, .l (.d (.bool w1)))], 59, [], [(4, [.d (.int .i64 a1.P), .d (.int .i64 a1.B)])], []⟩) h (fun k1 hk1 h => ?_) (fun w1 h => ?_)
  · conv => whnf
    refine caS (E := E_Bool) h (task_All_w a0) rfl (fun _ => rfl) (fun x2 h => ?_)
    conv => whnf
    refine fkS h (fun h => ?_) (fun h => ?_)
    · conv => whnf
      exact jeS hk1 h (Weak.refl _)
    conv => whnf
    refine caS (E := E_Bool) h (supply_Right_w a1) rfl (fun _ => rfl) (fun x3 h => ?_)
    conv => whnf
    exact jeS hk1 h (Weak.refl _)
  conv => whnf
  refine fkS h (fun h => ?_) (fun h => ?_)
  · conv => whnf
    exact rt (E := E_Int_Int_Int) h rfl
  conv => whnf
  refine ⟨6, ?_⟩
  conv => whnf
  refine drS (by kernel_rfl) ?_
  conv => whnf
  refine lenS a0 Task.enc rfl ?_
  conv => whnf
  refine lpS (fun v4 => ⟨[(7, .l (.d (.int .i64 v4.1))), (8, .l (.d (.int .i64 v4.2.1))), (26, .l (.d (.sl (a0.map Task.enc)))), (27, .l (.d (.int .i64 (a0.length : Int)))), (28, .l (.d (.int .i64 v4.2.2)))], 59, [], [], []⟩) h (Weak.refl _) (fun _ nx4 hn4 v4 h => ?_)
  conv => whnf
  refine fkS h (fun h => ?_) (fun h => ?_)
  · conv => whnf
    refine ixS (enc := Task.enc) h rfl (fun _ => rfl) (fun x5 h => ?_)
    conv => whnf
    refine caS (E := E_Int_Int) h (arith_Lcm_w v4.1 x5.T) rfl (fun _ => rfl) (fun x6 h => ?_)
    conv => whnf
    refine jnS (fun w7 => ⟨[(8, .l (.d (.int .i64 v4.2.1))), (10, .l (.ptr 11 0)), (11, .l (.d (.int .i64 x6.1))), (26, .l (.d (.sl (a0.map Task.enc)))), (27, .l (.d (.int .i64 (a0.length : Int)))), (28, .l (.d (.int .i64 v4.2.2))), (44, .l (.d (.bool w7)))], 59, [], [(11, [.d (.int .i64 x5.C), .d (.int .i64 x5.D), .d (.int .i64 x5.T), .d (.sl (x5.Secs.map Sec.enc))])], []⟩) h (fun k7 hk7 h => ?_) (fun w7 h => ?_)
    · conv => whnf
      refine fkS h (fun h => ?_) (fun h => ?_)
      · conv => whnf
        exact jeS hk7 h (Weak.refl _)
      conv => whnf
      exact jeS hk7 h (Weak.refl _)
    conv => whnf
    refine fkS h (fun h => ?_) (fun h => ?_)
    · conv => whnf
      exact rt (E := E_Int_Int_Int) h rfl
    conv => whnf
    refine ⟨6, ?_⟩
    conv => whnf
    refine drS (by kernel_rfl) ?_
    conv => whnf
    exact leS hn4 h (Weak.refl _)
  conv => whnf
  refine fkS h (fun h => ?_) (fun h => ?_)
  · conv => whnf
    exact rt (E := E_Int_Int_Int) h rfl
  conv => whnf
  exact rt (E := E_Int_Int_Int) h rfl

end Go.Proofs.Ytakiggekallckaa
namespace Go.Proofs.Ytakiggekallckaa
open Go Go.VC
noncomputable def verdict_Need (a0 : List Task) (a1 : Int) : Option (Int × Int) :=
  bnd (demand_Bound a0 a1) fun x1 => fk (!decide (x1.2 = (0 : Int))) (some ((0 : Int), x1.2)) (bnd (block_Of a0 a1) fun x2 => bnd (arith_Add x1.1 x2.1) fun x3 => some (x3.1, x3.2))
theorem verdict_Need_w (a0 : List Task) (a1 : Int) (r : Int × Int) (h : verdict_Need a0 a1 = some r) : Go.VC.Spec Try.prog 105 [.d (.sl (a0.map Task.enc)), .d (.int .i64 a1)] (fun y => y = E_Int_Int r) := by
  refine Go.VC.Spec.of_xc (args := [.d (.sl (a0.map Task.enc)), .d (.int .i64 a1)]) (fn := Try.f105) tab ⟨[(0, [0, 1]), (1, [0, 1, 6, 7]), (2, [0, 1, 6, 7, 17]), (3, [4, 5]), (4, [6, 8]), (5, [4, 5])], [], [], []⟩ 30 [.tmp 4, .tmp 5] rfl rfl rfl rfl rfl rfl ?_
  conv => whnf
  refine caS (E := E_Int_Int) h (demand_Bound_w a0 a1) rfl (fun _ => rfl) (fun x1 h => ?_)
  conv => whnf
  refine fkS h (fun h => ?_) (fun h => ?_)
  · conv => whnf
    exact rt (E := E_Int_Int) h rfl
  conv => whnf
  refine caS (E := E_Int_Int) h (block_Of_w a0 a1) rfl (fun _ => rfl) (fun x2 h => ?_)
  conv => whnf
  refine caS (E := E_Int_Int) h (arith_Add_w x1.1 x2.1) rfl (fun _ => rfl) (fun x3 h => ?_)
  conv => whnf
  exact rt (E := E_Int_Int) h rfl

end Go.Proofs.Ytakiggekallckaa
namespace Go.Proofs.Ytakiggekallckaa
open Go Go.VC
noncomputable def verdict_fails (a0 : List Task) (a1 : Face) (a2 : Int) : Option (Option Int) :=
  lp (fun nx (v : Int) => fk (decide (v ≤ a2)) (bnd (verdict_Need a0 v) fun x1 => bnd (supply_Bound a1 v) fun x2 => fk (decide (x1.1 > x2.1)) (some (some v)) (nx (wr (v + 1)))) (some none)) FU 0
theorem verdict_fails_it (a0 : List Task) (a1 : Face) (a2 : Int) (r : Option Int) (h : verdict_fails a0 a1 a2 = some r) : ItC Try.prog 104 [.dp [.int .i64 a2], .dp [.sl (a0.map Task.enc)], .dp [.int .i64 a1.P, .int .i64 a1.B]] r := by
  refine ItC.of (fn := Try.f104) rfl rfl rfl rfl rfl (fun w0 p0 l X hy => ?_)
  refine IW.seqx tab ⟨[(0, [0, 1, 2, 3, 5]), (1, [0, 1, 2, 3, 5, 12]), (2, [0, 1, 2, 3, 5]), (3, [0, 1, 2, 3, 5, 6]), (4, [0, 1, 2, 3, 5, 6, 8]), (5, [0, 1, 2, 3, 5, 35])], [], [], []⟩ ?_
  refine IW.block ?_
  refine IW.lp (fun v => ⟨[(0, .l (.raw (.func (.yield l) #[] #[]))), (1, .l (.dptr [.int .i64 a2] 0)), (2, .l (.dptr [.sl (a0.map Task.enc)] 0)), (3, .l (.dptr [.int .i64 a1.P, .int .i64 a1.B] 0)), (5, .l (.d (.int .i64 v)))], 36, [], [], []⟩) h (Weak.refl _) (fun _ nx hn v h => ?_)
  refine IW.seqx tab ⟨[(0, [0, 1, 2, 3, 5]), (1, [0, 1, 2, 3, 5, 12]), (2, [0, 1, 2, 3, 5]), (3, [0, 1, 2, 3, 5, 6]), (4, [0, 1, 2, 3, 5, 6, 8]), (5, [0, 1, 2, 3, 5, 35])], [], [], []⟩ ?_
  refine fkS h (fun h => ?_) (fun h => ?_)
  · refine IW.seq (IW.block ?_)
    refine IW.seqx tab ⟨[(0, [0, 1, 2, 3, 5]), (1, [0, 1, 2, 3, 5, 12]), (2, [0, 1, 2, 3, 5]), (3, [0, 1, 2, 3, 5, 6]), (4, [0, 1, 2, 3, 5, 6, 8]), (5, [0, 1, 2, 3, 5, 35])], [], [], []⟩ ?_
    refine caS (E := E_Int_Int) h (verdict_Need_w a0 v) rfl (fun _ => rfl) (fun x1 h => ?_)
    refine IW.seqx tab ⟨[(0, [0, 1, 2, 3, 5]), (1, [0, 1, 2, 3, 5, 12]), (2, [0, 1, 2, 3, 5]), (3, [0, 1, 2, 3, 5, 6]), (4, [0, 1, 2, 3, 5, 6, 8]), (5, [0, 1, 2, 3, 5, 35])], [], [], []⟩ ?_
    refine caS (E := E_Int_Int) h (supply_Bound_w a1 v) rfl (fun _ => rfl) (fun x2 h => ?_)
    refine IW.yield tab (l := l) (r0 := 0) (r5 := 5) (r6 := 6) (r8 := 8) (nd := x1.1) (hv := x2.1) (t := v) rfl rfl rfl rfl rfl rfl rfl rfl rfl rfl rfl rfl rfl rfl rfl rfl rfl rfl rfl rfl rfl rfl rfl rfl rfl rfl rfl (Nat.le_of_ble_eq_true rfl) (Nat.le_of_ble_eq_true rfl) (Nat.le_of_ble_eq_true rfl) (Nat.le_of_ble_eq_true rfl) (Nat.le_of_ble_eq_true rfl) (Nat.le_of_ble_eq_true rfl) (Nat.le_of_ble_eq_true rfl) (Nat.le_of_ble_eq_true rfl) (Nat.le_of_ble_eq_true rfl) (by decide) (by decide) (by decide) (by decide) (by decide) (by decide) (by decide) (by decide) (by decide) (by decide) (by decide) (by decide) (by decide) (by decide) (by decide) (by decide) rfl rfl rfl rfl (fun hg W1 hW => ?_) (fun hg => ?_) (fun hg => ?_)
    · rw [decide_eq_true hg] at h; exact hy v W1 (Option.some.inj h).symm hW
    · rw [decide_eq_true hg] at h; rw [← Option.some.inj h]; rfl
    · rw [decide_eq_false hg] at h
      refine IW.of_xc tab ⟨[(0, [0, 1, 2, 3, 5]), (1, [0, 1, 2, 3, 5, 12]), (2, [0, 1, 2, 3, 5]), (3, [0, 1, 2, 3, 5, 6]), (4, [0, 1, 2, 3, 5, 6, 8]), (5, [0, 1, 2, 3, 5, 35])], [], [], []⟩ ?_
      exact leS hn h (Weak.refl _)
  · exact (Option.some.inj h).symm
noncomputable def verdict_First (a0 : List Task) (a1 : Face) : Option (Int × Bool × Int) :=
  bnd (verdict_Cycle a0 a1) fun x1 => fk (!decide (x1.2.2 = (0 : Int))) (some ((0 : Int), false, x1.2.2)) (bnd (verdict_fails a0 a1 x1.2.1) fun x2 => match x2 with | some t => some (t, true, (0 : Int)) | none => some ((0 : Int), false, (0 : Int)))
theorem verdict_First_w (a0 : List Task) (a1 : Face) (r : Int × Bool × Int) (h : verdict_First a0 a1 = some r) : Go.VC.Spec Try.prog 74 [.d (.sl (a0.map Task.enc)), .agg (Face.enc a1)] (fun y => y = E_Int_Bool_Int r) := by
  refine Spec.of_wpF (args := [.d (.sl (a0.map Task.enc)), .agg (Face.enc a1)]) (fn := Try.f74) rfl rfl rfl rfl ?_
  refine WpF.seq tab ⟨[(0, [0, 3, 4, 5, 6, 25]), (1, [0, 3, 4, 5, 6, 8, 9, 25]), (2, [0, 3, 4, 5, 6, 8, 9, 19, 25]), (3, [4, 5, 6]), (4, [4, 5, 6, 24, 25]), (5, [4, 5, 6, 10]), (6, [4, 5, 6]), (7, [4, 5, 6])], [], [], []⟩ (rs := [.cell 4 3, .cell 5 4, .cell 6 31]) rfl ?_
  refine WpF.seq tab ⟨[(0, [0, 3, 4, 5, 6, 25]), (1, [0, 3, 4, 5, 6, 8, 9, 25]), (2, [0, 3, 4, 5, 6, 8, 9, 19, 25]), (3, [4, 5, 6]), (4, [4, 5, 6, 24, 25]), (5, [4, 5, 6, 10]), (6, [4, 5, 6]), (7, [4, 5, 6])], [], [], []⟩ (rs := [.cell 4 3, .cell 5 4, .cell 6 31]) rfl ?_
  refine caS (E := E_Int_Int_Int) h (verdict_Cycle_w a0 a1) rfl (fun _ => rfl) (fun x1 h => ?_)
  refine WpF.seq tab ⟨[(0, [0, 3, 4, 5, 6, 25]), (1, [0, 3, 4, 5, 6, 8, 9, 25]), (2, [0, 3, 4, 5, 6, 8, 9, 19, 25]), (3, [4, 5, 6]), (4, [4, 5, 6, 24, 25]), (5, [4, 5, 6, 10]), (6, [4, 5, 6]), (7, [4, 5, 6])], [], [], []⟩ (rs := [.cell 4 3, .cell 5 4, .cell 6 31]) rfl ?_
  refine fkS h (fun h => ?_) (fun h => ?_)
  · exact RetOk.mk ⟨_, rfl, rt (E := E_Int_Bool_Int) h rfl⟩
  obtain ⟨x2, hx2, h⟩ := bnd_of h
  refine WpF.seqA tab ⟨[(0, [0, 3, 4, 5, 6, 25]), (1, [0, 3, 4, 5, 6, 8, 9, 25]), (2, [0, 3, 4, 5, 6, 8, 9, 19, 25]), (3, [4, 5, 6]), (4, [4, 5, 6, 24, 25]), (5, [4, 5, 6, 10]), (6, [4, 5, 6]), (7, [4, 5, 6])], [], [], []⟩ (rs := [.cell 4 3, .cell 5 4, .cell 6 31]) rfl ?_
  refine inS (fn := Try.f93) tab ⟨[(0, [3, 4, 5]), (1, [6])], [], [], []⟩ 8 [.tmp 6] rfl rfl rfl rfl rfl rfl ?_
  refine WpG.id ?_
  refine WpG.range tab (rs := [.cell 4 3, .cell 5 4, .cell 6 31]) rfl rfl rfl rfl rfl ⟨_, rfl, rfl, rfl⟩ x2 rfl (verdict_fails_it a0 a1 x1.2.1 x2 hx2) rfl rfl rfl (fun x hx => ?_) (fun hx => ?_)
  · subst hx
    refine PO.h (?_)
    refine po_move rfl rfl rfl ?_
    refine po_store rfl rfl rfl rfl rfl rfl rfl rfl rfl rfl ?_
    refine po_store rfl rfl rfl rfl rfl rfl rfl rfl rfl rfl ?_
    refine po_store rfl rfl rfl rfl rfl rfl rfl rfl rfl rfl ?_
    refine po_nil ?_
    exact RetOk.mk ⟨_, rfl, rt (E := E_Int_Bool_Int) h rfl⟩
  · subst hx
    refine PO.h (?_)
    refine po_store rfl rfl rfl rfl rfl rfl rfl rfl rfl rfl ?_
    refine po_store rfl rfl rfl rfl rfl rfl rfl rfl rfl rfl ?_
    refine po_store rfl rfl rfl rfl rfl rfl rfl rfl rfl rfl ?_
    refine po_nil ?_
    exact RetOk.mk ⟨_, rfl, rt (E := E_Int_Bool_Int) h rfl⟩

end Go.Proofs.Ytakiggekallckaa
namespace Go.Proofs.Ytakiggekallckaa
open Go Go.VC
noncomputable def verdict_Fits (a0 : List Task) (a1 : Face) : Option (Bool × Int) :=
  bnd (verdict_Cycle a0 a1) fun x1 => fk (!decide (x1.2.2 = (0 : Int))) (some (false, x1.2.2)) (lp (fun nx2 (v2 : Int × Int) => fk (decide (v2.2 < (a0.length : Int))) (ix a0 v2.2 fun x3 => ck (decide (x3.T ≠ 0)) (nx2 ((wr (v2.1 + (wr ((wr (x1.1.tdiv x3.T)) * x3.C)))), (wr (v2.2 + (1 : Int)))))) (ck (decide (a1.P ≠ 0)) (fk (decide (v2.1 > (wr ((wr (x1.1.tdiv a1.P)) * a1.B)))) (some (false, (0 : Int))) (bnd (verdict_First a0 a1) fun x4 => some ((!x4.2.1), (0 : Int)))))) FU ((0 : Int), (0 : Int)))
theorem verdict_Fits_w (a0 : List Task) (a1 : Face) (r : Bool × Int) (h : verdict_Fits a0 a1 = some r) : Go.VC.Spec Try.prog 41 [.d (.sl (a0.map Task.enc)), .agg (Face.enc a1)] (fun y => y = E_Bool_Int r) := by
  refine Go.VC.Spec.of_xc (args := [.d (.sl (a0.map Task.enc)), .agg (Face.enc a1)]) (fn := Try.f41) tab ⟨[(0, [0, 3]), (1, [0, 3, 6, 8]), (2, [0, 3, 6, 8, 23]), (3, [4, 5]), (4, [0, 3, 6, 9]), (5, [0, 3, 6, 9, 25, 26, 27]), (6, [0, 3, 6, 9, 25, 26, 27, 28]), (7, [0, 3, 6, 9, 11, 25, 26, 27]), (8, [0, 3, 6, 9, 25, 26, 27]), (9, [0, 3, 6, 9, 25, 26, 27]), (10, [0, 3, 49]), (11, [4, 5]), (12, [13]), (13, [4, 5])], [], [], []⟩ 59 [.tmp 4, .tmp 5] rfl rfl rfl rfl rfl rfl ?_
  conv => whnf
  refine caS (E := E_Int_Int_Int) h (verdict_Cycle_w a0 a1) rfl (fun _ => rfl) (fun x1 h => ?_)
  conv => whnf
  refine fkS h (fun h => ?_) (fun h => ?_)
  · conv => whnf
    exact rt (E := E_Bool_Int) h rfl
  conv => whnf
  refine lenS a0 Task.enc rfl ?_
  conv => whnf
  refine lpS (fun v2 => ⟨[(0, .l (.d (.sl (a0.map Task.enc)))), (3, .l (.ptr 4 0)), (6, .l (.d (.int .i64 x1.1))), (9, .l (.d (.int .i64 v2.1))), (25, .l (.d (.sl (a0.map Task.enc)))), (26, .l (.d (.int .i64 (a0.length : Int)))), (27, .l (.d (.int .i64 v2.2)))], 59, [], [(4, [.d (.int .i64 a1.P), .d (.int .i64 a1.B)])], []⟩) h (Weak.refl _) (fun _ nx2 hn2 v2 h => ?_)
  conv => whnf
  refine fkS h (fun h => ?_) (fun h => ?_)
  · conv => whnf
    refine ixS (enc := Task.enc) h rfl (fun _ => rfl) (fun x3 h => ?_)
    conv => whnf
    refine ⟨8, ?_⟩
    conv => whnf
    refine dvS h (fun h => ?_)
    conv => whnf
    refine drS (by kernel_rfl) ?_
    conv => whnf
    exact leS hn2 h (Weak.refl _)
  conv => whnf
  refine ⟨8, ?_⟩
  conv => whnf
  refine dvS h (fun h => ?_)
  conv => whnf
  refine drS (by kernel_rfl) ?_
  conv => whnf
  refine fkS h (fun h => ?_) (fun h => ?_)
  · conv => whnf
    exact rt (E := E_Bool_Int) h rfl
  conv => whnf
  refine caS (E := E_Int_Bool_Int) h (verdict_First_w a0 a1) rfl (fun _ => rfl) (fun x4 h => ?_)
  conv => whnf
  exact rt (E := E_Bool_Int) h rfl

end Go.Proofs.Ytakiggekallckaa
namespace Go.Proofs.Ytakiggekallckaa
open Go Go.VC
noncomputable def job_Ahead (a0 : Job) (a1 : Job) : Option Bool :=
  fk (!decide (a0.Due = a1.Due)) (some (decide (a0.Due < a1.Due))) (fk (!decide (a0.Task = a1.Task)) (some (decide (a0.Task < a1.Task))) (some (decide (a0.At < a1.At))))
theorem job_Ahead_w (a0 : Job) (a1 : Job) (r : Bool) (h : job_Ahead a0 a1 = some r) : Go.VC.Spec Try.prog 91 [.agg (Job.enc a0), .agg (Job.enc a1)] (fun y => y = E_Bool r) := by
  refine Go.VC.Spec.of_xc (args := [.agg (Job.enc a0), .agg (Job.enc a1)]) (fn := Try.f91) tab ⟨[(0, [2, 3]), (1, [2, 3, 5]), (2, [4]), (3, [2, 3, 16]), (4, [4]), (5, [4])], [], [], []⟩ 32 [.tmp 4] rfl rfl rfl rfl rfl rfl ?_
  conv => whnf
  refine fkS h (fun h => ?_) (fun h => ?_)
  · conv => whnf
    exact rt (E := E_Bool) h rfl
  conv => whnf
  refine fkS h (fun h => ?_) (fun h => ?_)
  · conv => whnf
    exact rt (E := E_Bool) h rfl
  conv => whnf
  exact rt (E := E_Bool) h rfl

end Go.Proofs.Ytakiggekallckaa
namespace Go.Proofs.Ytakiggekallckaa
open Go Go.VC
noncomputable def job_right (a0 : List Task) (a1 : Job) : Option Bool :=
  jn (fun (w1 : Bool) => fk w1 (some false) (ix a0 a1.Task fun x2 => fk (decide (a1.Due = (wr (a1.At + x2.D)))) (fk (decide (a1.Want ≥ (1 : Int))) (fk (decide (a1.Want ≤ (200 : Int))) (fk (decide (a1.Had ≥ (0 : Int))) (fk (decide (a1.Had < (if a1.Want < x2.C then a1.Want else x2.C))) (fk a1.Began (some true) (some (decide (a1.Had = (0 : Int))))) (some false)) (some false)) (some false)) (some false)) (some false))) (fun k1 => fk (decide (a1.Task < (0 : Int))) (k1 true) (fk (decide (a1.Task ≥ (a0.length : Int))) (k1 true) (fk (decide (a1.At < (0 : Int))) (k1 true) (k1 (decide (a1.At > (4611686018427387703 : Int)))))))
theorem job_right_w (a0 : List Task) (a1 : Job) (r : Bool) (h : job_right a0 a1 = some r) : Go.VC.Spec Try.prog 76 [.d (.sl (a0.map Task.enc)), .agg (Job.enc a1)] (fun y => y = E_Bool r) := by
  refine Go.VC.Spec.of_xc (args := [.d (.sl (a0.map Task.enc)), .agg (Job.enc a1)]) (fn := Try.f76) tab ⟨[(0, [0, 3]), (1, [0, 3, 25]), (2, [4]), (3, [3, 5]), (4, [4])], [], [100025], []⟩ 73 [.tmp 4] rfl rfl rfl rfl rfl rfl ?_
  conv => whnf
  refine jnS (fun w1 => ⟨[(0, .l (.d (.sl (a0.map Task.enc)))), (3, .l (.ptr 4 0)), (25, .l (.d (.bool w1)))], 73, [], [(4, [.d (.int .i64 a1.Task), .d (.int .i64 a1.At), .d (.int .i64 a1.Due), .d (.int .i64 a1.Want), .d (.int .i64 a1.Had), .d (.bool a1.Began)])], []⟩) h (fun k1 hk1 h => ?_) (fun w1 h => ?_)
  · conv => whnf
    refine fkS h (fun h => ?_) (fun h => ?_)
    · conv => whnf
      exact jeS hk1 h (Weak.refl _)
    conv => whnf
    refine lenS a0 Task.enc rfl ?_
    conv => whnf
    refine fkS h (fun h => ?_) (fun h => ?_)
    · conv => whnf
      exact jeS hk1 h (Weak.refl _)
    conv => whnf
    refine fkS h (fun h => ?_) (fun h => ?_)
    · conv => whnf
      exact jeS hk1 h (Weak.refl _)
    conv => whnf
    exact jeS hk1 h (Weak.refl _)
  conv => whnf
  refine fkS h (fun h => ?_) (fun h => ?_)
  · conv => whnf
    exact rt (E := E_Bool) h rfl
  conv => whnf
  refine ixS (enc := Task.enc) h rfl (fun _ => rfl) (fun x2 h => ?_)
  conv => whnf
  refine fkS h (fun h => ?_) (fun h => ?_)
  · conv => whnf
    refine fkS h (fun h => ?_) (fun h => ?_)
    · conv => whnf
      refine fkS h (fun h => ?_) (fun h => ?_)
      · conv => whnf
        refine fkS h (fun h => ?_) (fun h => ?_)
        · conv => whnf
          refine fkS h (fun h => ?_) (fun h => ?_)
          · conv => whnf
            refine fkS h (fun h => ?_) (fun h => ?_)
            · conv => whnf
              exact rt (E := E_Bool) h rfl
            conv => whnf
            exact rt (E := E_Bool) h rfl
          conv => whnf
          exact rt (E := E_Bool) h rfl
        conv => whnf
        exact rt (E := E_Bool) h rfl
      conv => whnf
      exact rt (E := E_Bool) h rfl
    conv => whnf
    exact rt (E := E_Bool) h rfl
  conv => whnf
  exact rt (E := E_Bool) h rfl

end Go.Proofs.Ytakiggekallckaa
namespace Go.Proofs.Ytakiggekallckaa
open Go Go.VC
noncomputable def job_All (a0 : List Task) (a1 : List Job) : Option Bool :=
  jn (fun (w1 : Bool) => fk w1 (some false) (lp (fun nx3 (v3 : Int) => fk (decide (v3 < (a1.length : Int))) (ix a1 v3 fun x4 => bnd (job_right a0 x4) fun x5 => fk (!x5) (some false) (ck (decide ((0 : Int) ≤ (0 : Int)) && decide ((0 : Int) ≤ v3) && decide (v3 ≤ (a1.length : Int))) (lp (fun nx6 (v6 : Int) => fk (decide (v6 < (((a1.take v3.toNat).drop (0 : Int).toNat).length : Int))) (ix ((a1.take v3.toNat).drop (0 : Int).toNat) v6 fun x7 => jn (fun (w8 : Bool) => fk w8 (some false) (nx6 (wr (v6 + (1 : Int))))) (fun k8 => fk (decide (x4.Task = x7.Task)) (k8 (decide (x4.At = x7.At))) (k8 false))) (nx3 (wr (v3 + (1 : Int))))) FU (0 : Int)))) (some true)) FU (0 : Int))) (fun k1 => bnd (task_All a0) fun x2 => fk (!x2) (k1 true) (k1 (decide ((a1.length : Int) > (32 : Int)))))
theorem job_All_w (a0 : List Task) (a1 : List Job) (r : Bool) (h : job_All a0 a1 = some r) : Go.VC.Spec Try.prog 52 [.d (.sl (a0.map Task.enc)), .d (.sl (a1.map Job.enc))] (fun y => y = E_Bool r) := by
  refine Go.VC.Spec.of_xc (args := [.d (.sl (a0.map Task.enc)), .d (.sl (a1.map Job.enc))]) (fn := Try.f52) tab ⟨[(0, [0, 1]), (1, [0, 1, 16]), (2, [4]), (3, [0, 1, 17, 18, 19]), (4, [0, 1, 17, 18, 19, 20]), (5, [0, 1, 5, 6, 17, 18, 19]), (6, [0, 1, 5, 6, 17, 18, 19, 27]), (7, [4]), (8, [0, 1, 6, 17, 18, 19, 30, 31, 32]), (9, [0, 1, 6, 17, 18, 19, 30, 31, 32, 33]), (10, [0, 1, 6, 8, 17, 18, 19, 30, 31, 32]), (11, [0, 1, 6, 17, 18, 19, 30, 31, 32, 47]), (12, [4]), (13, [0, 1, 6, 17, 18, 19, 30, 31, 32]), (14, [0, 1, 17, 18, 19]), (15, [4])], [], [100016, 100047], []⟩ 50 [.tmp 4] rfl rfl rfl rfl rfl rfl ?_
  conv => whnf
  refine jnS (fun w1 => ⟨[(0, .l (.d (.sl (a0.map Task.enc)))), (1, .l (.d (.sl (a1.map Job.enc)))), (16, .l (.d (.bool w1)))], 50, [], [], []⟩) h (fun k1 hk1 h => ?_) (fun w1 h => ?_)
  · conv => whnf
    refine caS (E := E_Bool) h (task_All_w a0) rfl (fun _ => rfl) (fun x2 h => ?_)
    conv => whnf
    refine fkS h (fun h => ?_) (fun h => ?_)
    · conv => whnf
      exact jeS hk1 h (Weak.refl _)
    conv => whnf
    refine lenS a1 Job.enc rfl ?_
    conv => whnf
    exact jeS hk1 h (Weak.refl _)
  conv => whnf
  refine fkS h (fun h => ?_) (fun h => ?_)
  · conv => whnf
    exact rt (E := E_Bool) h rfl
  conv => whnf
  refine lenS a1 Job.enc rfl ?_
  conv => whnf
  refine lpS (fun v3 => ⟨[(0, .l (.d (.sl (a0.map Task.enc)))), (1, .l (.d (.sl (a1.map Job.enc)))), (17, .l (.d (.sl (a1.map Job.enc)))), (18, .l (.d (.int .i64 (a1.length : Int)))), (19, .l (.d (.int .i64 v3)))], 50, [], [], []⟩) h (Weak.refl _) (fun _ nx3 hn3 v3 h => ?_)
  conv => whnf
  refine fkS h (fun h => ?_) (fun h => ?_)
  · conv => whnf
    refine ixS (enc := Job.enc) h rfl (fun _ => rfl) (fun x4 h => ?_)
    conv => whnf
    refine caS (E := E_Bool) h (job_right_w a0 x4) rfl (fun _ => rfl) (fun x5 h => ?_)
    conv => whnf
    refine fkS h (fun h => ?_) (fun h => ?_)
    · conv => whnf
      exact rt (E := E_Bool) h rfl
    conv => whnf
    refine slS (enc := Job.enc) h rfl rfl (.inl rfl) (fun _ => rfl) (fun h => ?_)
    conv => whnf
    refine lenS ((a1.take v3.toNat).drop (0 : Int).toNat) Job.enc rfl ?_
    conv => whnf
    refine lpS (fun v6 => ⟨[(0, .l (.d (.sl (a0.map Task.enc)))), (1, .l (.d (.sl (a1.map Job.enc)))), (6, .l (.ptr 7 0)), (17, .l (.d (.sl (a1.map Job.enc)))), (18, .l (.d (.int .i64 (a1.length : Int)))), (19, .l (.d (.int .i64 v3))), (30, .l (.d (.sl (((a1.take v3.toNat).drop (0 : Int).toNat).map Job.enc)))), (31, .l (.d (.int .i64 (((a1.take v3.toNat).drop (0 : Int).toNat).length : Int)))), (32, .l (.d (.int .i64 v6)))], 50, [], [(7, [.d (.int .i64 x4.Task), .d (.int .i64 x4.At), .d (.int .i64 x4.Due), .d (.int .i64 x4.Want), .d (.int .i64 x4.Had), .d (.bool x4.Began)])], []⟩) h (Weak.refl _) (fun _ nx6 hn6 v6 h => ?_)
    conv => whnf
    refine fkS h (fun h => ?_) (fun h => ?_)
    · conv => whnf
      refine ixS (enc := Job.enc) h rfl (fun _ => rfl) (fun x7 h => ?_)
      conv => whnf
      refine jnS (fun w8 => ⟨[(0, .l (.d (.sl (a0.map Task.enc)))), (1, .l (.d (.sl (a1.map Job.enc)))), (6, .l (.ptr 7 0)), (17, .l (.d (.sl (a1.map Job.enc)))), (18, .l (.d (.int .i64 (a1.length : Int)))), (19, .l (.d (.int .i64 v3))), (30, .l (.d (.sl (((a1.take v3.toNat).drop (0 : Int).toNat).map Job.enc)))), (31, .l (.d (.int .i64 (((a1.take v3.toNat).drop (0 : Int).toNat).length : Int)))), (32, .l (.d (.int .i64 v6))), (47, .l (.d (.bool w8)))], 50, [], [(7, [.d (.int .i64 x4.Task), .d (.int .i64 x4.At), .d (.int .i64 x4.Due), .d (.int .i64 x4.Want), .d (.int .i64 x4.Had), .d (.bool x4.Began)])], []⟩) h (fun k8 hk8 h => ?_) (fun w8 h => ?_)
      · conv => whnf
        refine fkS h (fun h => ?_) (fun h => ?_)
        · conv => whnf
          exact jeS hk8 h (Weak.refl _)
        conv => whnf
        exact jeS hk8 h (Weak.refl _)
      conv => whnf
      refine fkS h (fun h => ?_) (fun h => ?_)
      · conv => whnf
        exact rt (E := E_Bool) h rfl
      conv => whnf
      exact leS hn6 h (Weak.refl _)
    conv => whnf
    exact leS hn3 h (Weak.refl _)
  conv => whnf
  exact rt (E := E_Bool) h rfl

end Go.Proofs.Ytakiggekallckaa
namespace Go.Proofs.Ytakiggekallckaa
open Go Go.VC
noncomputable def job_First_1 (a0 : Job) (a1 : Bool) : Option Bool :=
  some (decide (a0.Began = a1))
theorem job_First_1_w (a0 : Job) (a1 : Bool) (r : Bool) (h : job_First_1 a0 a1 = some r) : Go.VC.Spec Try.prog 90 [.agg (Job.enc a0), .dp [.bool a1]] (fun y => y = E_Bool r) := by
  refine Go.VC.Spec.of_xc (args := [.agg (Job.enc a0), .dp [.bool a1]]) (fn := Try.f90) tab ⟨[(0, [1, 2]), (1, [3])], [], [], []⟩ 8 [.tmp 3] rfl rfl rfl rfl rfl rfl ?_
  conv => whnf
  exact rt (E := E_Bool) h rfl

end Go.Proofs.Ytakiggekallckaa
namespace Go.Proofs.Ytakiggekallckaa
open Go Go.VC
noncomputable def job_first_api_Job (a0 : List Job) (a1 : Bool) : Option Int :=
  lp (fun nx1 (v1 : Int × Int) => fk (decide (v1.2 < (a0.length : Int))) (jn (fun (w2 : Int) => nx1 (w2, (wr (v1.2 + (1 : Int))))) (fun k2 => ix a0 v1.2 fun x3 => jn (fun (w4 : Bool) => fk w4 (k2 v1.2) (k2 v1.1)) (fun k4 => bnd (job_First_1 x3 a1) fun x5 => fk x5 (fk (decide (v1.1 < (0 : Int))) (k4 true) (ix a0 v1.1 fun x6 => bnd (job_Ahead x3 x6) fun x7 => k4 x7)) (k4 false)))) (some v1.1)) FU ((-1 : Int), (0 : Int))
theorem job_first_api_Job_w (a0 : List Job) (a1 : Bool) (r : Int) (h : job_first_api_Job a0 a1 = some r) : Go.VC.Spec Try.prog 89 [.d (.sl (a0.map Job.enc)), .d (.fn 90 [[.bool a1]]), .d (.fn 91 [])] (fun y => y = E_Int r) := by
  refine Go.VC.Spec.of_xc (args := [.d (.sl (a0.map Job.enc)), .d (.fn 90 [[.bool a1]]), .d (.fn 91 [])]) (fn := Try.f89) tab ⟨[(0, [0, 1, 2]), (1, [0, 1, 2, 7]), (2, [0, 1, 2, 7, 10, 11, 12]), (3, [0, 1, 2, 7, 10, 11, 12, 13]), (4, [0, 1, 2, 7, 8, 9, 10, 11, 12]), (5, [0, 1, 2, 7, 8, 10, 11, 12, 32]), (6, [0, 1, 2, 7, 10, 11, 12]), (7, [0, 1, 2, 7, 10, 11, 12]), (8, [6])], [], [100032, 7], []⟩ 36 [.tmp 6] rfl rfl rfl rfl rfl rfl ?_
  conv => whnf
  refine lenS a0 Job.enc rfl ?_
  conv => whnf
  refine lpS (fun v1 => ⟨[(0, .l (.d (.sl (a0.map Job.enc)))), (1, .l (.d (.fn 90 [[.bool a1]]))), (2, .l (.d (.fn 91 []))), (7, .l (.d (.int .i64 v1.1))), (10, .l (.d (.sl (a0.map Job.enc)))), (11, .l (.d (.int .i64 (a0.length : Int)))), (12, .l (.d (.int .i64 v1.2)))], 36, [], [], []⟩) h (Weak.refl _) (fun _ nx1 hn1 v1 h => ?_)
  conv => whnf
  refine fkS h (fun h => ?_) (fun h => ?_)
  · conv => whnf
    refine jnS (fun w2 => ⟨[(0, .l (.d (.sl (a0.map Job.enc)))), (1, .l (.d (.fn 90 [[.bool a1]]))), (2, .l (.d (.fn 91 []))), (7, .l (.d (.int .i64 w2))), (10, .l (.d (.sl (a0.map Job.enc)))), (11, .l (.d (.int .i64 (a0.length : Int)))), (12, .l (.d (.int .i64 v1.2)))], 36, [], [], []⟩) h (fun k2 hk2 h => ?_) (fun w2 h => ?_)
    · conv => whnf
      refine ixS (enc := Job.enc) h rfl (fun _ => rfl) (fun x3 h => ?_)
      conv => whnf
      refine jnS (fun w4 => ⟨[(0, .l (.d (.sl (a0.map Job.enc)))), (1, .l (.d (.fn 90 [[.bool a1]]))), (2, .l (.d (.fn 91 []))), (7, .l (.d (.int .i64 v1.1))), (8, .l (.d (.int .i64 v1.2))), (10, .l (.d (.sl (a0.map Job.enc)))), (11, .l (.d (.int .i64 (a0.length : Int)))), (12, .l (.d (.int .i64 v1.2))), (32, .l (.d (.bool w4)))], 36, [], [], []⟩) h (fun k4 hk4 h => ?_) (fun w4 h => ?_)
      · conv => whnf
        refine ⟨13, ?_⟩
        conv => whnf
        refine daS (E := E_Bool) h (job_First_1_w x3 a1) (fun _ => rfl) (fun x5 h => ?_)
        conv => whnf
        refine fkS h (fun h => ?_) (fun h => ?_)
        · conv => whnf
          refine fkS h (fun h => ?_) (fun h => ?_)
          · conv => whnf
            refine drS (by kernel_rfl) ?_
            conv => whnf
            exact jeS hk4 h (Weak.refl _)
          conv => whnf
          refine ixS (enc := Job.enc) h rfl (fun _ => rfl) (fun x6 h => ?_)
          conv => whnf
          refine drS (by kernel_rfl) ?_
          conv => whnf
          refine caS (E := E_Bool) h (job_Ahead_w x3 x6) rfl (fun _ => rfl) (fun x7 h => ?_)
          conv => whnf
          exact jeS hk4 h (Weak.refl _)
        conv => whnf
        refine drS (by kernel_rfl) ?_
        conv => whnf
        exact jeS hk4 h (Weak.refl _)
      conv => whnf
      refine fkS h (fun h => ?_) (fun h => ?_)
      · conv => whnf
        exact jeS hk2 h (Weak.refl _)
      conv => whnf
      refine jeX hk2 h ?_
      conv => whnf
      refine WkF.step (Weak.keepS _ [0, 1, 2, 7, 10, 11, 12]) ?_
      conv => whnf
      exact WkF.refl _
    conv => whnf
    exact leS hn1 h (Weak.refl _)
  conv => whnf
  exact rt (E := E_Int) h rfl

end Go.Proofs.Ytakiggekallckaa
namespace Go.Proofs.Ytakiggekallckaa
open Go Go.VC
noncomputable def job_First (a0 : List Job) (a1 : Bool) : Option Int :=
  bnd (job_first_api_Job a0 a1) fun x1 => some x1
theorem job_First_w (a0 : List Job) (a1 : Bool) (r : Int) (h : job_First a0 a1 = some r) : Go.VC.Spec Try.prog 71 [.d (.sl (a0.map Job.enc)), .d (.bool a1)] (fun y => y = E_Int r) := by
  refine Go.VC.Spec.of_xc (args := [.d (.sl (a0.map Job.enc)), .d (.bool a1)]) (fn := Try.f71) tab ⟨[(0, [0, 3]), (1, [4])], [], [], []⟩ 8 [.tmp 4] rfl rfl rfl rfl rfl rfl ?_
  conv => whnf
  refine caS (E := E_Int) h (job_first_api_Job_w a0 a1) rfl (fun _ => rfl) (fun x1 h => ?_)
  conv => whnf
  exact rt (E := E_Int) h rfl

end Go.Proofs.Ytakiggekallckaa
namespace Go.Proofs.Ytakiggekallckaa
open Go Go.VC
noncomputable def task_Held (a0 : Task) (a1 : Int) : Option (List Int) :=
  bnd (task_Right a0) fun x1 => fk (!x1) (some []) (lp (fun nx2 (v2 : (List Int) × Int) => fk (decide (v2.2 < (a0.Secs.length : Int))) (jn (fun (w3 : List Int) => nx2 (w3, (wr (v2.2 + (1 : Int))))) (fun k3 => ix a0.Secs v2.2 fun x4 => jn (fun (w5 : Bool) => fk w5 (ck (decide ((v2.1.length + ([x4.Res] : List Int).length) * 8 ≤ 140737488355328)) (k3 (v2.1 ++ ([x4.Res] : List Int)))) (k3 v2.1)) (fun k5 => fk (decide (x4.At < a1)) (k5 (decide (a1 < (wr (x4.At + x4.Len))))) (k5 false)))) (some v2.1)) FU ([], (0 : Int)))
theorem task_Held_w (a0 : Task) (a1 : Int) (r : List Int) (h : task_Held a0 a1 = some r) : Go.VC.Spec Try.prog 119 [.agg (Task.enc a0), .d (.int .i64 a1)] (fun y => y = E_ListInt r) := by
  refine Go.VC.Spec.of_xc (args := [.agg (Task.enc a0), .d (.int .i64 a1)]) (fn := Try.f119) tab ⟨[(0, [1, 2]), (1, [1, 2, 10]), (2, [4]), (3, [1, 2, 5]), (4, [1, 5, 12, 13, 14]), (5, [1, 5, 12, 13, 14, 15]), (6, [1, 5, 7, 12, 13, 14]), (7, [1, 5, 7, 12, 13, 14, 30]), (8, [1, 5, 12, 13, 14]), (9, [1, 5, 12, 13, 14]), (10, [4])], [], [100030, 9], []⟩ 38 [.tmp 4] rfl rfl rfl rfl rfl rfl ?_
  conv => whnf
  refine caS (E := E_Bool) h (task_Right_w a0) rfl (fun _ => rfl) (fun x1 h => ?_)
  conv => whnf
  refine fkS h (fun h => ?_) (fun h => ?_)
  · conv => whnf
    exact rt (E := E_ListInt) h rfl
  conv => whnf
  refine lenS a0.Secs Sec.enc rfl ?_
  conv => whnf
  refine lpS (fun v2 => ⟨[(1, .l (.d (.int .i64 a1))), (5, .l (.own 6)), (12, .l (.d (.sl (a0.Secs.map Sec.enc)))), (13, .l (.d (.int .i64 (a0.Secs.length : Int)))), (14, .l (.d (.int .i64 v2.2)))], 38, [], [], [(6, 3, 1, v2.1.map (eI .i64))]⟩) h (Weak.trans (Weak.nilO _ 5 6 3 1 rfl) (Weak.refl _)) (fun _ nx2 hn2 v2 h => ?_)
  conv => whnf
  refine fkS h (fun h => ?_) (fun h => ?_)
  · conv => whnf
    refine jnS (fun w3 => ⟨[(1, .l (.d (.int .i64 a1))), (5, .l (.own 6)), (12, .l (.d (.sl (a0.Secs.map Sec.enc)))), (13, .l (.d (.int .i64 (a0.Secs.length : Int)))), (14, .l (.d (.int .i64 v2.2)))], 38, [], [], [(6, 3, 1, w3.map (eI .i64))]⟩) h (fun k3 hk3 h => ?_) (fun w3 h => ?_)
    · conv => whnf
      refine ixS (enc := Sec.enc) h rfl (fun _ => rfl) (fun x4 h => ?_)
      conv => whnf
      refine jnS (fun w5 => ⟨[(1, .l (.d (.int .i64 a1))), (5, .l (.own 6)), (7, .l (.ptr 8 0)), (12, .l (.d (.sl (a0.Secs.map Sec.enc)))), (13, .l (.d (.int .i64 (a0.Secs.length : Int)))), (14, .l (.d (.int .i64 v2.2))), (30, .l (.d (.bool w5)))], 38, [], [(8, [.d (.int .i64 x4.Res), .d (.int .i64 x4.At), .d (.int .i64 x4.Len)])], [(6, 3, 1, v2.1.map (eI .i64))]⟩) h (fun k5 hk5 h => ?_) (fun w5 h => ?_)
      · conv => whnf
        refine fkS h (fun h => ?_) (fun h => ?_)
        · conv => whnf
          exact jeS hk5 h (Weak.refl _)
        conv => whnf
        exact jeS hk5 h (Weak.refl _)
      conv => whnf
      refine fkS h (fun h => ?_) (fun h => ?_)
      · conv => whnf
        refine liS ([x4.Res] : List Int) (eI .i64) rfl rfl ?_
        conv => whnf
        refine apS (enc := (eI .i64)) (l1 := v2.1) (l2 := ([x4.Res] : List Int)) h rfl rfl (fun _ => rfl) (fun h => ?_)
        conv => whnf
        exact jeS hk3 h (Weak.refl _)
      conv => whnf
      refine jeX hk3 h ?_
      conv => whnf
      refine WkF.step (Weak.keepS _ [1, 5, 12, 13, 14]) ?_
      conv => whnf
      exact WkF.refl _
    conv => whnf
    exact leS hn2 h (Weak.refl _)
  conv => whnf
  exact rt (E := E_ListInt) h rfl

end Go.Proofs.Ytakiggekallckaa
namespace Go.Proofs.Ytakiggekallckaa
open Go Go.VC
noncomputable def job_Held (a0 : List Task) (a1 : List Job) : Option (List Int) :=
  bnd (job_All a0 a1) fun x1 => fk (!x1) (some []) (lp (fun nx2 (v2 : (List Int) × Int) => fk (decide (v2.2 < (a1.length : Int))) (ix a1 v2.2 fun x3 => ix a0 x3.Task fun x4 => bnd (task_Held x4 x3.Had) fun x5 => ck (decide ((v2.1.length + x5.length) * 8 ≤ 140737488355328)) (nx2 (v2.1 ++ x5, (wr (v2.2 + (1 : Int)))))) (some v2.1)) FU ([], (0 : Int)))
theorem job_Held_w (a0 : List Task) (a1 : List Job) (r : List Int) (h : job_Held a0 a1 = some r) : Go.VC.Spec Try.prog 108 [.d (.sl (a0.map Task.enc)), .d (.sl (a1.map Job.enc))] (fun y => y = E_ListInt r) := by
  refine Go.VC.Spec.of_xc (args := [.d (.sl (a0.map Task.enc)), .d (.sl (a1.map Job.enc))]) (fn := Try.f108) tab ⟨[(0, [0, 1]), (1, [0, 1, 11]), (2, [4]), (3, [0, 1, 5]), (4, [0, 5, 12, 13, 14]), (5, [0, 5, 12, 13, 14, 15]), (6, [0, 5, 7, 12, 13, 14]), (7, [0, 5, 12, 13, 14]), (8, [0, 5, 12, 13, 14]), (9, [4])], [], [], []⟩ 30 [.tmp 4] rfl rfl rfl rfl rfl rfl ?_
  conv => whnf
  refine caS (E := E_Bool) h (job_All_w a0 a1) rfl (fun _ => rfl) (fun x1 h => ?_)
  conv => whnf
  refine fkS h (fun h => ?_) (fun h => ?_)
  · conv => whnf
    exact rt (E := E_ListInt) h rfl
  conv => whnf
  refine lenS a1 Job.enc rfl ?_
  conv => whnf
  refine lpS (fun v2 => ⟨[(0, .l (.d (.sl (a0.map Task.enc)))), (5, .l (.own 6)), (12, .l (.d (.sl (a1.map Job.enc)))), (13, .l (.d (.int .i64 (a1.length : Int)))), (14, .l (.d (.int .i64 v2.2)))], 30, [], [], [(6, 3, 1, v2.1.map (eI .i64))]⟩) h (Weak.trans (Weak.nilO _ 5 6 3 1 rfl) (Weak.refl _)) (fun _ nx2 hn2 v2 h => ?_)
  conv => whnf
  refine fkS h (fun h => ?_) (fun h => ?_)
  · conv => whnf
    refine ixS (enc := Job.enc) h rfl (fun _ => rfl) (fun x3 h => ?_)
    conv => whnf
    refine ⟨9, ?_⟩
    conv => whnf
    refine ixS (enc := Task.enc) h rfl (fun _ => rfl) (fun x4 h => ?_)
    conv => whnf
    refine dcS (E := E_ListInt) h (task_Held_w x4 x3.Had) rfl (fun x5 h => ?_)
    conv => whnf
    refine drS (by kernel_rfl) ?_
    conv => whnf
    refine apS (enc := (eI .i64)) (l1 := v2.1) (l2 := x5) h rfl rfl (fun _ => rfl) (fun h => ?_)
    conv => whnf
    exact leS hn2 h (Weak.refl _)
  conv => whnf
  exact rt (E := E_ListInt) h rfl

end Go.Proofs.Ytakiggekallckaa
namespace Go.Proofs.Ytakiggekallckaa
open Go Go.VC
noncomputable def law05_Great (a0 : List Task) : Option Bool :=
  lp (fun nx1 (v1 : Int) => fk (decide (v1 < (a0.length : Int))) (ix a0 v1 fun x2 => fk (decide ((x2.Secs.length : Int) > (20 : Int))) (some true) (nx1 (wr (v1 + (1 : Int))))) (some (decide ((a0.length : Int) > (20 : Int))))) FU (0 : Int)
theorem law05_Great_w (a0 : List Task) (r : Bool) (h : law05_Great a0 = some r) : Go.VC.Spec Try.prog 28 [.d (.sl (a0.map Task.enc))] (fun y => y = E_Bool r) := by
  refine Go.VC.Spec.of_xc (args := [.d (.sl (a0.map Task.enc))]) (fn := Try.f28) tab ⟨[(0, [0]), (1, [0, 3]), (2, [0, 3, 7]), (3, [0, 3]), (4, [0, 3, 16]), (5, [2]), (6, [2])], [], [], []⟩ 20 [.tmp 2] rfl rfl rfl rfl rfl rfl ?_
  conv => whnf
  refine lpS (fun v1 => ⟨[(0, .l (.d (.sl (a0.map Task.enc)))), (3, .l (.d (.int .i64 v1)))], 20, [], [], []⟩) h (Weak.refl _) (fun _ nx1 hn1 v1 h => ?_)
  conv => whnf
  refine lenS a0 Task.enc rfl ?_
  conv => whnf
  refine fkS h (fun h => ?_) (fun h => ?_)
  · conv => whnf
    refine ixS (enc := Task.enc) h rfl (fun _ => rfl) (fun x2 h => ?_)
    conv => whnf
    refine lenS x2.Secs Sec.enc rfl ?_
    conv => whnf
    refine fkS h (fun h => ?_) (fun h => ?_)
    · conv => whnf
      exact rt (E := E_Bool) h rfl
    conv => whnf
    exact leS hn1 h (Weak.refl _)
  conv => whnf
  refine lenS a0 Task.enc rfl ?_
  conv => whnf
  exact rt (E := E_Bool) h rfl

end Go.Proofs.Ytakiggekallckaa
namespace Go.Proofs.Ytakiggekallckaa
open Go Go.VC
noncomputable def level_level (a0 : List Task) (a1 : Task) : Option Int :=
  lp (fun nx1 (v1 : Int × Int) => fk (decide (v1.2 < (a0.length : Int))) (jn (fun (w2 : Int) => nx1 (w2, (wr (v1.2 + (1 : Int))))) (fun k2 => ix a0 v1.2 fun x3 => fk (decide (x3.D > a1.D)) (k2 (wr (v1.1 + (1 : Int)))) (k2 v1.1))) (some v1.1)) FU ((1 : Int), (0 : Int))
theorem level_level_w (a0 : List Task) (a1 : Task) (r : Int) (h : level_level a0 a1 = some r) : Go.VC.Spec Try.prog 128 [.d (.sl (a0.map Task.enc)), .agg (Task.enc a1)] (fun y => y = E_Int r) := by
  refine Go.VC.Spec.of_xc (args := [.d (.sl (a0.map Task.enc)), .agg (Task.enc a1)]) (fn := Try.f128) tab ⟨[(0, [0, 3]), (1, [0, 3, 5]), (2, [3, 5, 8, 9, 10]), (3, [3, 5, 8, 9, 10, 11]), (4, [3, 5, 7, 8, 9, 10]), (5, [3, 5, 8, 9, 10, 18]), (6, [3, 5, 8, 9, 10]), (7, [3, 5, 8, 9, 10]), (8, [4])], [], [7], []⟩ 23 [.tmp 4] rfl rfl rfl rfl rfl rfl ?_
  conv => whnf
  refine lenS a0 Task.enc rfl ?_
  conv => whnf
  refine lpS (fun v1 => ⟨[(3, .l (.ptr 4 0)), (5, .l (.d (.int .i64 v1.1))), (8, .l (.d (.sl (a0.map Task.enc)))), (9, .l (.d (.int .i64 (a0.length : Int)))), (10, .l (.d (.int .i64 v1.2)))], 23, [], [(4, [.d (.int .i64 a1.C), .d (.int .i64 a1.D), .d (.int .i64 a1.T), .d (.sl (a1.Secs.map Sec.enc))])], []⟩) h (Weak.refl _) (fun _ nx1 hn1 v1 h => ?_)
  conv => whnf
  refine fkS h (fun h => ?_) (fun h => ?_)
  · conv => whnf
    refine jnS (fun w2 => ⟨[(3, .l (.ptr 4 0)), (5, .l (.d (.int .i64 w2))), (8, .l (.d (.sl (a0.map Task.enc)))), (9, .l (.d (.int .i64 (a0.length : Int)))), (10, .l (.d (.int .i64 v1.2)))], 23, [], [(4, [.d (.int .i64 a1.C), .d (.int .i64 a1.D), .d (.int .i64 a1.T), .d (.sl (a1.Secs.map Sec.enc))])], []⟩) h (fun k2 hk2 h => ?_) (fun w2 h => ?_)
    · conv => whnf
      refine ixS (enc := Task.enc) h rfl (fun _ => rfl) (fun x3 h => ?_)
      conv => whnf
      refine fkS h (fun h => ?_) (fun h => ?_)
      · conv => whnf
        exact jeS hk2 h (Weak.refl _)
      conv => whnf
      refine jeX hk2 h ?_
      conv => whnf
      refine WkF.step (Weak.keepS _ [3, 5, 8, 9, 10]) ?_
      conv => whnf
      exact WkF.refl _
    conv => whnf
    exact leS hn1 h (Weak.refl _)
  conv => whnf
  exact rt (E := E_Int) h rfl

end Go.Proofs.Ytakiggekallckaa
namespace Go.Proofs.Ytakiggekallckaa
open Go Go.VC
noncomputable def level_Ceiling_1 (a0 : Task) (a1 : Int) (a2 : List Task) : Option Int :=
  bnd (task_Uses a0 a1) fun x1 => fk (!x1) (some (0 : Int)) (bnd (level_level a2 a0) fun x2 => some x2)
theorem level_Ceiling_1_w (a0 : Task) (a1 : Int) (a2 : List Task) (r : Int) (h : level_Ceiling_1 a0 a1 a2 = some r) : Go.VC.Spec Try.prog 135 [.agg (Task.enc a0), .dp [.int .i64 a1], .dp [.sl (a2.map Task.enc)]] (fun y => y = E_Int r) := by
  refine Go.VC.Spec.of_xc (args := [.agg (Task.enc a0), .dp [.int .i64 a1], .dp [.sl (a2.map Task.enc)]]) (fn := Try.f135) tab ⟨[(0, [1, 2, 3]), (1, [2, 3, 8]), (2, [4]), (3, [4])], [], [], []⟩ 12 [.tmp 4] rfl rfl rfl rfl rfl rfl ?_
  conv => whnf
  refine caS (E := E_Bool) h (task_Uses_w a0 a1) rfl (fun _ => rfl) (fun x1 h => ?_)
  conv => whnf
  refine fkS h (fun h => ?_) (fun h => ?_)
  · conv => whnf
    exact rt (E := E_Int) h rfl
  conv => whnf
  refine caS (E := E_Int) h (level_level_w a2 a0) rfl (fun _ => rfl) (fun x2 h => ?_)
  conv => whnf
  exact rt (E := E_Int) h rfl

end Go.Proofs.Ytakiggekallckaa
namespace Go.Proofs.Ytakiggekallckaa
open Go Go.VC
noncomputable def level_most_api_Task (a0 : List Task) (a1 : Int) (a2 : List Task) : Option Int :=
  lp (fun nx1 (v1 : Int × Int) => fk (decide (v1.2 < (a0.length : Int))) (ix a0 v1.2 fun x2 => bnd (level_Ceiling_1 x2 a1 a2) fun x3 => nx1 ((if x3 > v1.1 then x3 else v1.1), (wr (v1.2 + (1 : Int))))) (some v1.1)) FU ((0 : Int), (0 : Int))
theorem level_most_api_Task_w (a0 : List Task) (a1 : Int) (a2 : List Task) (r : Int) (h : level_most_api_Task a0 a1 a2 = some r) : Go.VC.Spec Try.prog 134 [.d (.sl (a0.map Task.enc)), .d (.fn 135 [[.int .i64 a1], [.sl (a2.map Task.enc)]])] (fun y => y = E_Int r) := by
  refine Go.VC.Spec.of_xc (args := [.d (.sl (a0.map Task.enc)), .d (.fn 135 [[.int .i64 a1], [.sl (a2.map Task.enc)]])]) (fn := Try.f134) tab ⟨[(0, [0, 1]), (1, [0, 1, 5]), (2, [1, 5, 8, 9, 10]), (3, [1, 5, 8, 9, 10, 11]), (4, [1, 5, 7, 8, 9, 10]), (5, [1, 5, 8, 9, 10]), (6, [1, 5, 8, 9, 10]), (7, [4])], [], [], []⟩ 21 [.tmp 4] rfl rfl rfl rfl rfl rfl ?_
  conv => whnf
  refine lenS a0 Task.enc rfl ?_
  conv => whnf
  refine lpS (fun v1 => ⟨[(1, .l (.d (.fn 135 [[.int .i64 a1], [.sl (a2.map Task.enc)]]))), (5, .l (.d (.int .i64 v1.1))), (8, .l (.d (.sl (a0.map Task.enc)))), (9, .l (.d (.int .i64 (a0.length : Int)))), (10, .l (.d (.int .i64 v1.2)))], 21, [], [], []⟩) h (Weak.refl _) (fun _ nx1 hn1 v1 h => ?_)
  conv => whnf
  refine fkS h (fun h => ?_) (fun h => ?_)
  · conv => whnf
    refine ixS (enc := Task.enc) h rfl (fun _ => rfl) (fun x2 h => ?_)
    conv => whnf
    refine caS (E := E_Int) h (level_Ceiling_1_w x2 a1 a2) rfl (fun _ => rfl) (fun x3 h => ?_)
    conv => whnf
    exact leS hn1 h (Weak.refl _)
  conv => whnf
  exact rt (E := E_Int) h rfl

end Go.Proofs.Ytakiggekallckaa
namespace Go.Proofs.Ytakiggekallckaa
open Go Go.VC
noncomputable def level_Ceiling (a0 : List Task) (a1 : Int) : Option Int :=
  bnd (task_All a0) fun x1 => fk (!x1) (some (0 : Int)) (bnd (level_most_api_Task a0 a1 a0) fun x2 => some x2)
theorem level_Ceiling_w (a0 : List Task) (a1 : Int) (r : Int) (h : level_Ceiling a0 a1 = some r) : Go.VC.Spec Try.prog 131 [.d (.sl (a0.map Task.enc)), .d (.int .i64 a1)] (fun y => y = E_Int r) := by
  refine Go.VC.Spec.of_xc (args := [.d (.sl (a0.map Task.enc)), .d (.int .i64 a1)]) (fn := Try.f131) tab ⟨[(0, [2, 3]), (1, [2, 3, 7]), (2, [4]), (3, [4])], [], [], []⟩ 11 [.tmp 4] rfl rfl rfl rfl rfl rfl ?_
  conv => whnf
  refine caS (E := E_Bool) h (task_All_w a0) rfl (fun _ => rfl) (fun x1 h => ?_)
  conv => whnf
  refine fkS h (fun h => ?_) (fun h => ?_)
  · conv => whnf
    exact rt (E := E_Int) h rfl
  conv => whnf
  refine caS (E := E_Int) h (level_most_api_Task_w a0 a1 a0) rfl (fun _ => rfl) (fun x2 h => ?_)
  conv => whnf
  exact rt (E := E_Int) h rfl

end Go.Proofs.Ytakiggekallckaa
namespace Go.Proofs.Ytakiggekallckaa
open Go Go.VC
noncomputable def level_Held_1 (a0 : Int) (a1 : List Task) : Option Int :=
  bnd (level_Ceiling a1 a0) fun x1 => some x1
theorem level_Held_1_w (a0 : Int) (a1 : List Task) (r : Int) (h : level_Held_1 a0 a1 = some r) : Go.VC.Spec Try.prog 130 [.d (.int .i64 a0), .dp [.sl (a1.map Task.enc)]] (fun y => y = E_Int r) := by
  refine Go.VC.Spec.of_xc (args := [.d (.int .i64 a0), .dp [.sl (a1.map Task.enc)]]) (fn := Try.f130) tab ⟨[(0, [0, 1]), (1, [3])], [], [], []⟩ 7 [.tmp 3] rfl rfl rfl rfl rfl rfl ?_
  conv => whnf
  refine caS (E := E_Int) h (level_Ceiling_w a1 a0) rfl (fun _ => rfl) (fun x1 h => ?_)
  conv => whnf
  exact rt (E := E_Int) h rfl

end Go.Proofs.Ytakiggekallckaa
namespace Go.Proofs.Ytakiggekallckaa
open Go Go.VC
noncomputable def level_most_int (a0 : List Int) (a1 : List Task) : Option Int :=
  lp (fun nx1 (v1 : Int × Int) => fk (decide (v1.2 < (a0.length : Int))) (ix a0 v1.2 fun x2 => bnd (level_Held_1 x2 a1) fun x3 => nx1 ((if x3 > v1.1 then x3 else v1.1), (wr (v1.2 + (1 : Int))))) (some v1.1)) FU ((0 : Int), (0 : Int))
theorem level_most_int_w (a0 : List Int) (a1 : List Task) (r : Int) (h : level_most_int a0 a1 = some r) : Go.VC.Spec Try.prog 129 [.d (.sl (a0.map (eI .i64))), .d (.fn 130 [[.sl (a1.map Task.enc)]])] (fun y => y = E_Int r) := by
  refine Go.VC.Spec.of_xc (args := [.d (.sl (a0.map (eI .i64))), .d (.fn 130 [[.sl (a1.map Task.enc)]])]) (fn := Try.f129) tab ⟨[(0, [0, 1]), (1, [0, 1, 5]), (2, [1, 5, 8, 9, 10]), (3, [1, 5, 8, 9, 10, 11]), (4, [1, 5, 7, 8, 9, 10]), (5, [1, 5, 8, 9, 10]), (6, [1, 5, 8, 9, 10]), (7, [4])], [], [], []⟩ 21 [.tmp 4] rfl rfl rfl rfl rfl rfl ?_
  conv => whnf
  refine lenS a0 (eI .i64) rfl ?_
  conv => whnf
  refine lpS (fun v1 => ⟨[(1, .l (.d (.fn 130 [[.sl (a1.map Task.enc)]]))), (5, .l (.d (.int .i64 v1.1))), (8, .l (.d (.sl (a0.map (eI .i64))))), (9, .l (.d (.int .i64 (a0.length : Int)))), (10, .l (.d (.int .i64 v1.2)))], 21, [], [], []⟩) h (Weak.refl _) (fun _ nx1 hn1 v1 h => ?_)
  conv => whnf
  refine fkS h (fun h => ?_) (fun h => ?_)
  · conv => whnf
    refine ixS (enc := (eI .i64)) h rfl (fun _ => rfl) (fun x2 h => ?_)
    conv => whnf
    refine caS (E := E_Int) h (level_Held_1_w x2 a1) rfl (fun _ => rfl) (fun x3 h => ?_)
    conv => whnf
    exact leS hn1 h (Weak.refl _)
  conv => whnf
  exact rt (E := E_Int) h rfl

end Go.Proofs.Ytakiggekallckaa
namespace Go.Proofs.Ytakiggekallckaa
open Go Go.VC
noncomputable def level_Held (a0 : List Task) (a1 : List Int) : Option Int :=
  bnd (level_most_int a1 a0) fun x1 => some x1
theorem level_Held_w (a0 : List Task) (a1 : List Int) (r : Int) (h : level_Held a0 a1 = some r) : Go.VC.Spec Try.prog 118 [.d (.sl (a0.map Task.enc)), .d (.sl (a1.map (eI .i64)))] (fun y => y = E_Int r) := by
  refine Go.VC.Spec.of_xc (args := [.d (.sl (a0.map Task.enc)), .d (.sl (a1.map (eI .i64)))]) (fn := Try.f118) tab ⟨[(0, [1, 2]), (1, [4])], [], [], []⟩ 8 [.tmp 4] rfl rfl rfl rfl rfl rfl ?_
  conv => whnf
  refine caS (E := E_Int) h (level_most_int_w a1 a0) rfl (fun _ => rfl) (fun x1 h => ?_)
  conv => whnf
  exact rt (E := E_Int) h rfl

end Go.Proofs.Ytakiggekallckaa
namespace Go.Proofs.Ytakiggekallckaa
open Go Go.VC
noncomputable def level_Of (a0 : List Task) (a1 : Int) : Option Int :=
  jn (fun (w1 : Bool) => fk w1 (some (0 : Int)) (ix a0 a1 fun x3 => bnd (level_level a0 x3) fun x4 => some x4)) (fun k1 => bnd (task_All a0) fun x2 => fk (!x2) (k1 true) (fk (decide (a1 < (0 : Int))) (k1 true) (k1 (decide (a1 ≥ (a0.length : Int))))))
theorem level_Of_w (a0 : List Task) (a1 : Int) (r : Int) (h : level_Of a0 a1 = some r) : Go.VC.Spec Try.prog 117 [.d (.sl (a0.map Task.enc)), .d (.int .i64 a1)] (fun y => y = E_Int r) := by
  refine Go.VC.Spec.of_xc (args := [.d (.sl (a0.map Task.enc)), .d (.int .i64 a1)]) (fn := Try.f117) tab ⟨[(0, [0, 1]), (1, [0, 1, 17]), (2, [4]), (3, [4])], [], [100017], []⟩ 24 [.tmp 4] rfl rfl rfl rfl rfl rfl ?_
  conv => whnf
  refine jnS (fun w1 => ⟨[(0, .l (.d (.sl (a0.map Task.enc)))), (1, .l (.d (.int .i64 a1))), (17, .l (.d (.bool w1)))], 24, [], [], []⟩) h (fun k1 hk1 h => ?_) (fun w1 h => ?_)
  · conv => whnf
    refine caS (E := E_Bool) h (task_All_w a0) rfl (fun _ => rfl) (fun x2 h => ?_)
    conv => whnf
    refine fkS h (fun h => ?_) (fun h => ?_)
    · conv => whnf
      exact jeS hk1 h (Weak.refl _)
    conv => whnf
    refine fkS h (fun h => ?_) (fun h => ?_)
    · conv => whnf
      exact jeS hk1 h (Weak.refl _)
    conv => whnf
    refine lenS a0 Task.enc rfl ?_
    conv => whnf
    exact jeS hk1 h (Weak.refl _)
  conv => whnf
  refine fkS h (fun h => ?_) (fun h => ?_)
  · conv => whnf
    exact rt (E := E_Int) h rfl
  conv => whnf
  refine ixS (enc := Task.enc) h rfl (fun _ => rfl) (fun x3 h => ?_)
  conv => whnf
  refine caS (E := E_Int) h (level_level_w a0 x3) rfl (fun _ => rfl) (fun x4 h => ?_)
  conv => whnf
  exact rt (E := E_Int) h rfl

end Go.Proofs.Ytakiggekallckaa
namespace Go.Proofs.Ytakiggekallckaa
open Go Go.VC
noncomputable def level_Passes (a0 : List Task) (a1 : Int) (a2 : List Int) : Option Bool :=
  bnd (level_Of a0 a1) fun x1 => bnd (level_Held a0 a2) fun x2 => some (decide (x1 > x2))
theorem level_Passes_w (a0 : List Task) (a1 : Int) (a2 : List Int) (r : Bool) (h : level_Passes a0 a1 a2 = some r) : Go.VC.Spec Try.prog 107 [.d (.sl (a0.map Task.enc)), .d (.int .i64 a1), .d (.sl (a2.map (eI .i64)))] (fun y => y = E_Bool r) := by
  refine Go.VC.Spec.of_xc (args := [.d (.sl (a0.map Task.enc)), .d (.int .i64 a1), .d (.sl (a2.map (eI .i64)))]) (fn := Try.f107) tab ⟨[(0, [0, 1, 2]), (1, [6])], [], [], []⟩ 14 [.tmp 6] rfl rfl rfl rfl rfl rfl ?_
  conv => whnf
  refine caS (E := E_Int) h (level_Of_w a0 a1) rfl (fun _ => rfl) (fun x1 h => ?_)
  conv => whnf
  refine caS (E := E_Int) h (level_Held_w a0 a2) rfl (fun _ => rfl) (fun x2 h => ?_)
  conv => whnf
  exact rt (E := E_Bool) h rfl

end Go.Proofs.Ytakiggekallckaa
namespace Go.Proofs.Ytakiggekallckaa
open Go Go.VC
noncomputable def police_Right (a0 : List Task) (a1 : List Int) : Option Bool :=
  jn (fun (w1 : Bool) => fk w1 (some false) (lp (fun nx3 (v3 : Int) => fk (decide (v3 < (a1.length : Int))) (ix a1 v3 fun x4 => jn (fun (w5 : Bool) => fk w5 (some false) (nx3 (wr (v3 + (1 : Int))))) (fun k5 => fk (decide (x4 < (-1 : Int))) (k5 true) (k5 (decide (x4 > (4611686018427387903 : Int)))))) (some true)) FU (0 : Int))) (fun k1 => bnd (task_All a0) fun x2 => fk (!x2) (k1 true) (k1 (!decide ((a1.length : Int) = (a0.length : Int)))))
theorem police_Right_w (a0 : List Task) (a1 : List Int) (r : Bool) (h : police_Right a0 a1 = some r) : Go.VC.Spec Try.prog 51 [.d (.sl (a0.map Task.enc)), .d (.sl (a1.map (eI .i64)))] (fun y => y = E_Bool r) := by
  refine Go.VC.Spec.of_xc (args := [.d (.sl (a0.map Task.enc)), .d (.sl (a1.map (eI .i64)))]) (fn := Try.f51) tab ⟨[(0, [0, 1]), (1, [1, 16]), (2, [4]), (3, [17, 18, 19]), (4, [17, 18, 19, 20]), (5, [6, 17, 18, 19]), (6, [17, 18, 19, 28]), (7, [4]), (8, [17, 18, 19]), (9, [4])], [], [100016, 100028], []⟩ 30 [.tmp 4] rfl rfl rfl rfl rfl rfl ?_
  conv => whnf
  refine jnS (fun w1 => ⟨[(1, .l (.d (.sl (a1.map (eI .i64))))), (16, .l (.d (.bool w1)))], 30, [], [], []⟩) h (fun k1 hk1 h => ?_) (fun w1 h => ?_)
  · conv => whnf
    refine caS (E := E_Bool) h (task_All_w a0) rfl (fun _ => rfl) (fun x2 h => ?_)
    conv => whnf
    refine fkS h (fun h => ?_) (fun h => ?_)
    · conv => whnf
      exact jeS hk1 h (Weak.refl _)
    conv => whnf
    refine lenS a1 (eI .i64) rfl ?_
    conv => whnf
    refine lenS a0 Task.enc rfl ?_
    conv => whnf
    exact jeS hk1 h (Weak.refl _)
  conv => whnf
  refine fkS h (fun h => ?_) (fun h => ?_)
  · conv => whnf
    exact rt (E := E_Bool) h rfl
  conv => whnf
  refine lenS a1 (eI .i64) rfl ?_
  conv => whnf
  refine lpS (fun v3 => ⟨[(17, .l (.d (.sl (a1.map (eI .i64))))), (18, .l (.d (.int .i64 (a1.length : Int)))), (19, .l (.d (.int .i64 v3)))], 30, [], [], []⟩) h (Weak.refl _) (fun _ nx3 hn3 v3 h => ?_)
  conv => whnf
  refine fkS h (fun h => ?_) (fun h => ?_)
  · conv => whnf
    refine ixS (enc := (eI .i64)) h rfl (fun _ => rfl) (fun x4 h => ?_)
    conv => whnf
    refine jnS (fun w5 => ⟨[(17, .l (.d (.sl (a1.map (eI .i64))))), (18, .l (.d (.int .i64 (a1.length : Int)))), (19, .l (.d (.int .i64 v3))), (28, .l (.d (.bool w5)))], 30, [], [], []⟩) h (fun k5 hk5 h => ?_) (fun w5 h => ?_)
    · conv => whnf
      refine fkS h (fun h => ?_) (fun h => ?_)
      · conv => whnf
        exact jeS hk5 h (Weak.refl _)
      conv => whnf
      exact jeS hk5 h (Weak.refl _)
    conv => whnf
    refine fkS h (fun h => ?_) (fun h => ?_)
    · conv => whnf
      exact rt (E := E_Bool) h rfl
    conv => whnf
    exact leS hn3 h (Weak.refl _)
  conv => whnf
  exact rt (E := E_Bool) h rfl

end Go.Proofs.Ytakiggekallckaa
namespace Go.Proofs.Ytakiggekallckaa
open Go Go.VC
noncomputable def police_May (a0 : List Task) (a1 : List Int) (a2 : Int) (a3 : Int) : Option Int :=
  jn (fun (w1 : Bool) => fk w1 (some (1 : Int)) (jn (fun (w3 : Bool) => fk w3 (some (6 : Int)) (some (0 : Int))) (fun k3 => ix a1 a2 fun x4 => fk (!decide (x4 = (-1 : Int))) (ix a1 a2 fun x5 => ix a0 a2 fun x6 => k3 (decide (a3 < (wr (x5 + x6.T))))) (k3 false)))) (fun k1 => bnd (police_Right a0 a1) fun x2 => fk (!x2) (k1 true) (fk (decide (a2 < (0 : Int))) (k1 true) (fk (decide (a2 ≥ (a0.length : Int))) (k1 true) (fk (decide (a3 < (0 : Int))) (k1 true) (k1 (decide (a3 > (4611686018427387703 : Int))))))))
theorem police_May_w (a0 : List Task) (a1 : List Int) (a2 : Int) (a3 : Int) (r : Int) (h : police_May a0 a1 a2 a3 = some r) : Go.VC.Spec Try.prog 75 [.d (.sl (a0.map Task.enc)), .d (.sl (a1.map (eI .i64))), .d (.int .i64 a2), .d (.int .i64 a3)] (fun y => y = E_Int r) := by
  refine Go.VC.Spec.of_xc (args := [.d (.sl (a0.map Task.enc)), .d (.sl (a1.map (eI .i64))), .d (.int .i64 a2), .d (.int .i64 a3)]) (fn := Try.f75) tab ⟨[(0, [0, 1, 2, 3]), (1, [0, 1, 2, 3, 9]), (2, [8]), (3, [32]), (4, [8]), (5, [8])], [], [100032, 100009], []⟩ 52 [.tmp 8] rfl rfl rfl rfl rfl rfl ?_
  conv => whnf
  refine jnS (fun w1 => ⟨[(0, .l (.d (.sl (a0.map Task.enc)))), (1, .l (.d (.sl (a1.map (eI .i64))))), (2, .l (.d (.int .i64 a2))), (3, .l (.d (.int .i64 a3))), (9, .l (.d (.bool w1)))], 52, [], [], []⟩) h (fun k1 hk1 h => ?_) (fun w1 h => ?_)
  · conv => whnf
    refine caS (E := E_Bool) h (police_Right_w a0 a1) rfl (fun _ => rfl) (fun x2 h => ?_)
    conv => whnf
    refine fkS h (fun h => ?_) (fun h => ?_)
    · conv => whnf
      exact jeS hk1 h (Weak.refl _)
    conv => whnf
    refine fkS h (fun h => ?_) (fun h => ?_)
    · conv => whnf
      exact jeS hk1 h (Weak.refl _)
    conv => whnf
    refine lenS a0 Task.enc rfl ?_
    conv => whnf
    refine fkS h (fun h => ?_) (fun h => ?_)
    · conv => whnf
      exact jeS hk1 h (Weak.refl _)
    conv => whnf
    refine fkS h (fun h => ?_) (fun h => ?_)
    · conv => whnf
      exact jeS hk1 h (Weak.refl _)
    conv => whnf
    exact jeS hk1 h (Weak.refl _)
  conv => whnf
  refine fkS h (fun h => ?_) (fun h => ?_)
  · conv => whnf
    exact rt (E := E_Int) h rfl
  conv => whnf
  refine jnS (fun w3 => ⟨[(32, .l (.d (.bool w3)))], 52, [], [], []⟩) h (fun k3 hk3 h => ?_) (fun w3 h => ?_)
  · conv => whnf
    refine ⟨19, ?_⟩
    conv => whnf
    refine ixS (enc := (eI .i64)) h rfl (fun _ => rfl) (fun x4 h => ?_)
    conv => whnf
    refine fkS h (fun h => ?_) (fun h => ?_)
    · conv => whnf
      refine ixS (enc := (eI .i64)) h rfl (fun _ => rfl) (fun x5 h => ?_)
      conv => whnf
      refine ixS (enc := Task.enc) h rfl (fun _ => rfl) (fun x6 h => ?_)
      conv => whnf
      refine drS (by kernel_rfl) ?_
      conv => whnf
      exact jeS hk3 h (Weak.refl _)
    conv => whnf
    refine drS (by kernel_rfl) ?_
    conv => whnf
    exact jeS hk3 h (Weak.refl _)
  conv => whnf
  refine fkS h (fun h => ?_) (fun h => ?_)
  · conv => whnf
    exact rt (E := E_Int) h rfl
  conv => whnf
  exact rt (E := E_Int) h rfl

end Go.Proofs.Ytakiggekallckaa
namespace Go.Proofs.Ytakiggekallckaa
open Go Go.VC
noncomputable def police_Note (a0 : List Task) (a1 : List Int) (a2 : Int) (a3 : Int) : Option ((List Int) × Int) :=
  bnd (police_May a0 a1 a2 a3) fun x1 => fk (!decide (x1 = (0 : Int))) (some (a1, x1)) (ck (decide ((([] : List Int).length + a1.length) * 8 ≤ 140737488355328)) (ck (decide (0 ≤ a2) && decide (a2 < ((([] : List Int) ++ a1).length : Int))) (ox (([] : List Int) ++ a1) a2.toNat fun x2 => some ((([] : List Int) ++ a1).set a2.toNat a3, (0 : Int)))))
theorem police_Note_w (a0 : List Task) (a1 : List Int) (a2 : Int) (a3 : Int) (r : (List Int) × Int) (h : police_Note a0 a1 a2 a3 = some r) : Go.VC.Spec Try.prog 45 [.d (.sl (a0.map Task.enc)), .d (.sl (a1.map (eI .i64))), .d (.int .i64 a2), .d (.int .i64 a3)] (fun y => y = E_ListInt_Int r) := by
  refine Go.VC.Spec.of_xc (args := [.d (.sl (a0.map Task.enc)), .d (.sl (a1.map (eI .i64))), .d (.int .i64 a2), .d (.int .i64 a3)]) (fn := Try.f45) tab ⟨[(0, [0, 1, 2, 3]), (1, [1, 2, 3, 10]), (2, [1, 2, 3, 10, 18]), (3, [8, 9]), (4, [2, 3, 11]), (5, [11]), (6, [8, 9])], [], [], []⟩ 29 [.tmp 8, .tmp 9] rfl rfl rfl rfl rfl rfl ?_
  conv => whnf
  refine caS (E := E_Int) h (police_May_w a0 a1 a2 a3) rfl (fun _ => rfl) (fun x1 h => ?_)
  conv => whnf
  refine fkS h (fun h => ?_) (fun h => ?_)
  · conv => whnf
    exact rt (E := E_ListInt_Int) h rfl
  conv => whnf
  refine liS ([] : List Int) (eI .i64) rfl rfl ?_
  conv => whnf
  refine apS (enc := (eI .i64)) (l1 := ([] : List Int)) (l2 := a1) h rfl rfl (fun _ => rfl) (fun h => ?_)
  conv => whnf
  refine ioS (enc := (eI .i64)) h rfl (fun h => ?_)
  conv => whnf
  refine seS (enc := (eI .i64)) h rfl (fun x2 => a3) (fun _ => rfl) (fun x2 h => ?_)
  conv => whnf
  exact rt (E := E_ListInt_Int) h rfl

end Go.Proofs.Ytakiggekallckaa
namespace Go.Proofs.Ytakiggekallckaa
open Go Go.VC
noncomputable def ref05_Held (a0 : Task) (a1 : Int) : Option (List Int) :=
  lp (fun nx1 (v1 : (List Int) × Int) => fk (decide (v1.2 < (a0.Secs.length : Int))) (jn (fun (w2 : List Int) => nx1 (w2, (wr (v1.2 + (1 : Int))))) (fun k2 => ix a0.Secs v1.2 fun x3 => ix a0.Secs v1.2 fun x4 => ix a0.Secs v1.2 fun x5 => jn (fun (w6 : Bool) => fk w6 (ix a0.Secs v1.2 fun x7 => ck (decide ((v1.1.length + ([x7.Res] : List Int).length) * 8 ≤ 140737488355328)) (k2 (v1.1 ++ ([x7.Res] : List Int)))) (k2 v1.1)) (fun k6 => fk (decide (x3.At < a1)) (k6 (!(decide (a1 ≥ (wr (x4.At + x5.Len)))))) (k6 false)))) (some v1.1)) FU ([], (0 : Int))
theorem ref05_Held_w (a0 : Task) (a1 : Int) (r : List Int) (h : ref05_Held a0 a1 = some r) : Go.VC.Spec Try.prog 110 [.agg (Task.enc a0), .d (.int .i64 a1)] (fun y => y = E_ListInt r) := by
  refine Go.VC.Spec.of_xc (args := [.agg (Task.enc a0), .d (.int .i64 a1)]) (fn := Try.f110) tab ⟨[(0, [1, 2]), (1, [1, 2, 5]), (2, [1, 2, 5, 6]), (3, [1, 2, 5, 6, 13]), (4, [1, 2, 5, 6]), (5, [1, 2, 5, 6, 7]), (6, [1, 2, 5, 6, 7, 8]), (7, [1, 2, 5, 6, 43]), (8, [1, 2, 5, 6]), (9, [4])], [], [100043, 4], []⟩ 54 [.tmp 4] rfl rfl rfl rfl rfl rfl ?_
  conv => whnf
  refine lpS (fun v1 => ⟨[(1, .l (.d (.int .i64 a1))), (2, .l (.ptr 3 0)), (5, .l (.own 6)), (6, .l (.d (.int .i64 v1.2)))], 54, [], [(3, [.d (.int .i64 a0.C), .d (.int .i64 a0.D), .d (.int .i64 a0.T), .d (.sl (a0.Secs.map Sec.enc))])], [(6, 3, 1, v1.1.map (eI .i64))]⟩) h (Weak.trans (Weak.nilO _ 5 6 3 1 rfl) (Weak.refl _)) (fun _ nx1 hn1 v1 h => ?_)
  conv => whnf
  refine lenS a0.Secs Sec.enc rfl ?_
  conv => whnf
  refine fkS h (fun h => ?_) (fun h => ?_)
  · conv => whnf
    refine jnS (fun w2 => ⟨[(1, .l (.d (.int .i64 a1))), (2, .l (.ptr 3 0)), (5, .l (.own 6)), (6, .l (.d (.int .i64 v1.2)))], 54, [], [(3, [.d (.int .i64 a0.C), .d (.int .i64 a0.D), .d (.int .i64 a0.T), .d (.sl (a0.Secs.map Sec.enc))])], [(6, 3, 1, w2.map (eI .i64))]⟩) h (fun k2 hk2 h => ?_) (fun w2 h => ?_)
    · conv => whnf
      refine ixS (enc := Sec.enc) h rfl (fun _ => rfl) (fun x3 h => ?_)
      conv => whnf
      refine ⟨14, ?_⟩
      conv => whnf
      refine ixS (enc := Sec.enc) h rfl (fun _ => rfl) (fun x4 h => ?_)
      conv => whnf
      refine ixS (enc := Sec.enc) h rfl (fun _ => rfl) (fun x5 h => ?_)
      conv => whnf
      refine drS (by kernel_rfl) ?_
      conv => whnf
      refine jnS (fun w6 => ⟨[(1, .l (.d (.int .i64 a1))), (2, .l (.ptr 3 0)), (5, .l (.own 6)), (6, .l (.d (.int .i64 v1.2))), (43, .l (.d (.bool w6)))], 54, [], [(3, [.d (.int .i64 a0.C), .d (.int .i64 a0.D), .d (.int .i64 a0.T), .d (.sl (a0.Secs.map Sec.enc))])], [(6, 3, 1, v1.1.map (eI .i64))]⟩) h (fun k6 hk6 h => ?_) (fun w6 h => ?_)
      · conv => whnf
        refine fkS h (fun h => ?_) (fun h => ?_)
        · conv => whnf
          exact jeS hk6 h (Weak.refl _)
        conv => whnf
        exact jeS hk6 h (Weak.refl _)
      conv => whnf
      refine fkS h (fun h => ?_) (fun h => ?_)
      · conv => whnf
        refine ixS (enc := Sec.enc) h rfl (fun _ => rfl) (fun x7 h => ?_)
        conv => whnf
        refine liS ([x7.Res] : List Int) (eI .i64) rfl rfl ?_
        conv => whnf
        refine apS (enc := (eI .i64)) (l1 := v1.1) (l2 := ([x7.Res] : List Int)) h rfl rfl (fun _ => rfl) (fun h => ?_)
        conv => whnf
        exact jeS hk2 h (Weak.refl _)
      conv => whnf
      refine jeX hk2 h ?_
      conv => whnf
      refine WkF.step (Weak.keepS _ [1, 2, 5, 6]) ?_
      conv => whnf
      exact WkF.refl _
    conv => whnf
    exact leS hn1 h (Weak.refl _)
  conv => whnf
  exact rt (E := E_ListInt) h rfl

end Go.Proofs.Ytakiggekallckaa
namespace Go.Proofs.Ytakiggekallckaa
open Go Go.VC
noncomputable def ref05_Same (a0 : Task) (a1 : Task) : Option Bool :=
  lp (fun nx1 (v1 : Int) => jn (fun (w2 : Bool) => fk w2 (ix a0.Secs v1 fun x3 => ix a1.Secs v1 fun x4 => fk (!(eqI [.i .i64 x3.Res, .i .i64 x3.At, .i .i64 x3.Len] [.i .i64 x4.Res, .i .i64 x4.At, .i .i64 x4.Len])) (some false) (nx1 (wr (v1 + (1 : Int))))) (fk (decide (a0.C = a1.C)) (fk (decide (a0.D = a1.D)) (fk (decide (a0.T = a1.T)) (some (decide ((a0.Secs.length : Int) = (a1.Secs.length : Int)))) (some false)) (some false)) (some false))) (fun k2 => fk (decide (v1 < (a0.Secs.length : Int))) (k2 (decide (v1 < (a1.Secs.length : Int)))) (k2 false))) FU (0 : Int)
theorem ref05_Same_w (a0 : Task) (a1 : Task) (r : Bool) (h : ref05_Same a0 a1 = some r) : Go.VC.Spec Try.prog 72 [.agg (Task.enc a0), .agg (Task.enc a1)] (fun y => y = E_Bool r) := by
  refine Go.VC.Spec.of_xc (args := [.agg (Task.enc a0), .agg (Task.enc a1)]) (fn := Try.f72) tab ⟨[(0, [2, 3]), (1, [2, 3, 5]), (2, [2, 3, 5, 17]), (3, [2, 3, 5]), (4, [2, 3, 5, 30]), (5, [4]), (6, [4])], [], [100017], []⟩ 59 [.tmp 4] rfl rfl rfl rfl rfl rfl ?_
  conv => whnf
  refine lpS (fun v1 => ⟨[(2, .l (.ptr 3 0)), (3, .l (.ptr 4 0)), (5, .l (.d (.int .i64 v1)))], 59, [], [(3, [.d (.int .i64 a0.C), .d (.int .i64 a0.D), .d (.int .i64 a0.T), .d (.sl (a0.Secs.map Sec.enc))]), (4, [.d (.int .i64 a1.C), .d (.int .i64 a1.D), .d (.int .i64 a1.T), .d (.sl (a1.Secs.map Sec.enc))])], []⟩) h (Weak.refl _) (fun _ nx1 hn1 v1 h => ?_)
  conv => whnf
  refine jnS (fun w2 => ⟨[(2, .l (.ptr 3 0)), (3, .l (.ptr 4 0)), (5, .l (.d (.int .i64 v1))), (17, .l (.d (.bool w2)))], 59, [], [(3, [.d (.int .i64 a0.C), .d (.int .i64 a0.D), .d (.int .i64 a0.T), .d (.sl (a0.Secs.map Sec.enc))]), (4, [.d (.int .i64 a1.C), .d (.int .i64 a1.D), .d (.int .i64 a1.T), .d (.sl (a1.Secs.map Sec.enc))])], []⟩) h (fun k2 hk2 h => ?_) (fun w2 h => ?_)
  · conv => whnf
    refine lenS a0.Secs Sec.enc rfl ?_
    conv => whnf
    refine fkS h (fun h => ?_) (fun h => ?_)
    · conv => whnf
      refine lenS a1.Secs Sec.enc rfl ?_
      conv => whnf
      exact jeS hk2 h (Weak.refl _)
    conv => whnf
    exact jeS hk2 h (Weak.refl _)
  conv => whnf
  refine fkS h (fun h => ?_) (fun h => ?_)
  · conv => whnf
    refine ⟨10, ?_⟩
    conv => whnf
    refine ixS (enc := Sec.enc) h rfl (fun _ => rfl) (fun x3 h => ?_)
    conv => whnf
    refine ixS (enc := Sec.enc) h rfl (fun _ => rfl) (fun x4 h => ?_)
    conv => whnf
    refine drS (by kernel_rfl) ?_
    conv => whnf
    refine fkS h (fun h => ?_) (fun h => ?_)
    · conv => whnf
      exact rt (E := E_Bool) h rfl
    conv => whnf
    exact leS hn1 h (Weak.refl _)
  conv => whnf
  refine fkS h (fun h => ?_) (fun h => ?_)
  · conv => whnf
    refine fkS h (fun h => ?_) (fun h => ?_)
    · conv => whnf
      refine fkS h (fun h => ?_) (fun h => ?_)
      · conv => whnf
        refine lenS a0.Secs Sec.enc rfl ?_
        conv => whnf
        refine lenS a1.Secs Sec.enc rfl ?_
        conv => whnf
        exact rt (E := E_Bool) h rfl
      conv => whnf
      exact rt (E := E_Bool) h rfl
    conv => whnf
    exact rt (E := E_Bool) h rfl
  conv => whnf
  exact rt (E := E_Bool) h rfl

end Go.Proofs.Ytakiggekallckaa
namespace Go.Proofs.Ytakiggekallckaa
open Go Go.VC
noncomputable def ref05_SameInts (a0 : List Int) (a1 : List Int) : Option Bool :=
  fk (!decide ((a0.length : Int) = (a1.length : Int))) (some false) (lp (fun nx1 (v1 : Int) => fk (decide (v1 < (a0.length : Int))) (ix a0 v1 fun x2 => ix a1 v1 fun x3 => fk (!decide (x2 = x3)) (some false) (nx1 (wr (v1 + (1 : Int))))) (some true)) FU (0 : Int))
theorem ref05_SameInts_w (a0 : List Int) (a1 : List Int) (r : Bool) (h : ref05_SameInts a0 a1 = some r) : Go.VC.Spec Try.prog 55 [.d (.sl (a0.map (eI .i64))), .d (.sl (a1.map (eI .i64)))] (fun y => y = E_Bool r) := by
  refine Go.VC.Spec.of_xc (args := [.d (.sl (a0.map (eI .i64))), .d (.sl (a1.map (eI .i64)))]) (fn := Try.f55) tab ⟨[(0, [0, 1]), (1, [0, 1, 10]), (2, [4]), (3, [0, 1, 5]), (4, [0, 1, 5, 14]), (5, [0, 1, 5]), (6, [0, 1, 5, 25]), (7, [4]), (8, [4])], [], [], []⟩ 26 [.tmp 4] rfl rfl rfl rfl rfl rfl ?_
  conv => whnf
  refine lenS a0 (eI .i64) rfl ?_
  conv => whnf
  refine lenS a1 (eI .i64) rfl ?_
  conv => whnf
  refine fkS h (fun h => ?_) (fun h => ?_)
  · conv => whnf
    exact rt (E := E_Bool) h rfl
  conv => whnf
  refine lpS (fun v1 => ⟨[(0, .l (.d (.sl (a0.map (eI .i64))))), (1, .l (.d (.sl (a1.map (eI .i64))))), (5, .l (.d (.int .i64 v1)))], 26, [], [], []⟩) h (Weak.refl _) (fun _ nx1 hn1 v1 h => ?_)
  conv => whnf
  refine lenS a0 (eI .i64) rfl ?_
  conv => whnf
  refine fkS h (fun h => ?_) (fun h => ?_)
  · conv => whnf
    refine ⟨8, ?_⟩
    conv => whnf
    refine ixS (enc := (eI .i64)) h rfl (fun _ => rfl) (fun x2 h => ?_)
    conv => whnf
    refine ixS (enc := (eI .i64)) h rfl (fun _ => rfl) (fun x3 h => ?_)
    conv => whnf
    refine drS (by kernel_rfl) ?_
    conv => whnf
    refine fkS h (fun h => ?_) (fun h => ?_)
    · conv => whnf
      exact rt (E := E_Bool) h rfl
    conv => whnf
    exact leS hn1 h (Weak.refl _)
  conv => whnf
  exact rt (E := E_Bool) h rfl

end Go.Proofs.Ytakiggekallckaa
namespace Go.Proofs.Ytakiggekallckaa
open Go Go.VC
noncomputable def ref06_Of (a0 : List Task) (a1 : Int) : Option Int :=
  lp (fun nx1 (v1 : Int × Int) => fk (decide (v1.2 < (a0.length : Int))) (jn (fun (w2 : Int) => nx1 (w2, (wr (v1.2 + (1 : Int))))) (fun k2 => ix a0 v1.2 fun x3 => ix a0 a1 fun x4 => fk (decide (x3.D > x4.D)) (k2 (wr (v1.1 + (1 : Int)))) (k2 v1.1))) (some (wr (v1.1 + (1 : Int))))) FU ((0 : Int), (0 : Int))
theorem ref06_Of_w (a0 : List Task) (a1 : Int) (r : Int) (h : ref06_Of a0 a1 = some r) : Go.VC.Spec Try.prog 97 [.d (.sl (a0.map Task.enc)), .d (.int .i64 a1)] (fun y => y = E_Int r) := by
  refine Go.VC.Spec.of_xc (args := [.d (.sl (a0.map Task.enc)), .d (.int .i64 a1)]) (fn := Try.f97) tab ⟨[(0, [0, 1]), (1, [0, 1, 5]), (2, [0, 1, 5, 6]), (3, [0, 1, 5, 6, 10]), (4, [0, 1, 5, 6]), (5, [0, 1, 5, 6, 23]), (6, [0, 1, 5, 6]), (7, [4])], [], [4], []⟩ 28 [.tmp 4] rfl rfl rfl rfl rfl rfl ?_
  conv => whnf
  refine lpS (fun v1 => ⟨[(0, .l (.d (.sl (a0.map Task.enc)))), (1, .l (.d (.int .i64 a1))), (5, .l (.d (.int .i64 v1.1))), (6, .l (.d (.int .i64 v1.2)))], 28, [], [], []⟩) h (Weak.refl _) (fun _ nx1 hn1 v1 h => ?_)
  conv => whnf
  refine lenS a0 Task.enc rfl ?_
  conv => whnf
  refine fkS h (fun h => ?_) (fun h => ?_)
  · conv => whnf
    refine jnS (fun w2 => ⟨[(0, .l (.d (.sl (a0.map Task.enc)))), (1, .l (.d (.int .i64 a1))), (5, .l (.d (.int .i64 w2))), (6, .l (.d (.int .i64 v1.2)))], 28, [], [], []⟩) h (fun k2 hk2 h => ?_) (fun w2 h => ?_)
    · conv => whnf
      refine ⟨10, ?_⟩
      conv => whnf
      refine ixS (enc := Task.enc) h rfl (fun _ => rfl) (fun x3 h => ?_)
      conv => whnf
      refine ixS (enc := Task.enc) h rfl (fun _ => rfl) (fun x4 h => ?_)
      conv => whnf
      refine drS (by kernel_rfl) ?_
      conv => whnf
      refine fkS h (fun h => ?_) (fun h => ?_)
      · conv => whnf
        exact jeS hk2 h (Weak.refl _)
      conv => whnf
      refine jeX hk2 h ?_
      conv => whnf
      refine WkF.step (Weak.keepS _ [0, 1, 5, 6]) ?_
      conv => whnf
      exact WkF.refl _
    conv => whnf
    exact leS hn1 h (Weak.refl _)
  conv => whnf
  exact rt (E := E_Int) h rfl

end Go.Proofs.Ytakiggekallckaa
namespace Go.Proofs.Ytakiggekallckaa
open Go Go.VC
noncomputable def ref06_Ceiling (a0 : List Task) (a1 : Int) : Option Int :=
  lp (fun nx1 (v1 : Int × Int) => fk (decide (v1.2 < (a0.length : Int))) (jn (fun (w2 : Int) => nx1 (w2, (wr (v1.2 + (1 : Int))))) (fun k2 => jn (fun (w3 : Bool) => fk w3 (bnd (ref06_Of a0 v1.2) fun x7 => k2 x7) (k2 v1.1)) (fun k3 => ix a0 v1.2 fun x4 => bnd (ref05_Uses x4 a1) fun x5 => fk x5 (bnd (ref06_Of a0 v1.2) fun x6 => k3 (decide (x6 > v1.1))) (k3 false)))) (some v1.1)) FU ((0 : Int), (0 : Int))
theorem ref06_Ceiling_w (a0 : List Task) (a1 : Int) (r : Int) (h : ref06_Ceiling a0 a1 = some r) : Go.VC.Spec Try.prog 109 [.d (.sl (a0.map Task.enc)), .d (.int .i64 a1)] (fun y => y = E_Int r) := by
  refine Go.VC.Spec.of_xc (args := [.d (.sl (a0.map Task.enc)), .d (.int .i64 a1)]) (fn := Try.f109) tab ⟨[(0, [0, 1]), (1, [0, 1, 5]), (2, [0, 1, 5, 6]), (3, [0, 1, 5, 6, 10]), (4, [0, 1, 5, 6]), (5, [0, 1, 5, 6, 25]), (6, [0, 1, 5, 6]), (7, [4])], [], [100025, 4], []⟩ 30 [.tmp 4] rfl rfl rfl rfl rfl rfl ?_
  conv => whnf
  refine lpS (fun v1 => ⟨[(0, .l (.d (.sl (a0.map Task.enc)))), (1, .l (.d (.int .i64 a1))), (5, .l (.d (.int .i64 v1.1))), (6, .l (.d (.int .i64 v1.2)))], 30, [], [], []⟩) h (Weak.refl _) (fun _ nx1 hn1 v1 h => ?_)
  conv => whnf
  refine lenS a0 Task.enc rfl ?_
  conv => whnf
  refine fkS h (fun h => ?_) (fun h => ?_)
  · conv => whnf
    refine jnS (fun w2 => ⟨[(0, .l (.d (.sl (a0.map Task.enc)))), (1, .l (.d (.int .i64 a1))), (5, .l (.d (.int .i64 w2))), (6, .l (.d (.int .i64 v1.2)))], 30, [], [], []⟩) h (fun k2 hk2 h => ?_) (fun w2 h => ?_)
    · conv => whnf
      refine jnS (fun w3 => ⟨[(0, .l (.d (.sl (a0.map Task.enc)))), (1, .l (.d (.int .i64 a1))), (5, .l (.d (.int .i64 v1.1))), (6, .l (.d (.int .i64 v1.2))), (25, .l (.d (.bool w3)))], 30, [], [], []⟩) h (fun k3 hk3 h => ?_) (fun w3 h => ?_)
      · conv => whnf
        refine ixS (enc := Task.enc) h rfl (fun _ => rfl) (fun x4 h => ?_)
        conv => whnf
        refine caS (E := E_Bool) h (ref05_Uses_w x4 a1) rfl (fun _ => rfl) (fun x5 h => ?_)
        conv => whnf
        refine fkS h (fun h => ?_) (fun h => ?_)
        · conv => whnf
          refine caS (E := E_Int) h (ref06_Of_w a0 v1.2) rfl (fun _ => rfl) (fun x6 h => ?_)
          conv => whnf
          exact jeS hk3 h (Weak.refl _)
        conv => whnf
        exact jeS hk3 h (Weak.refl _)
      conv => whnf
      refine fkS h (fun h => ?_) (fun h => ?_)
      · conv => whnf
        refine caS (E := E_Int) h (ref06_Of_w a0 v1.2) rfl (fun _ => rfl) (fun x7 h => ?_)
        conv => whnf
        exact jeS hk2 h (Weak.refl _)
      conv => whnf
      refine jeX hk2 h ?_
      conv => whnf
      refine WkF.step (Weak.keepS _ [0, 1, 5, 6]) ?_
      conv => whnf
      exact WkF.refl _
    conv => whnf
    exact leS hn1 h (Weak.refl _)
  conv => whnf
  exact rt (E := E_Int) h rfl

end Go.Proofs.Ytakiggekallckaa
namespace Go.Proofs.Ytakiggekallckaa
open Go Go.VC
noncomputable def ref06_Held (a0 : List Task) (a1 : List Int) : Option Int :=
  lp (fun nx1 (v1 : Int × Int) => fk (decide (v1.2 < (a1.length : Int))) (jn (fun (w2 : Int) => nx1 (w2, (wr (v1.2 + (1 : Int))))) (fun k2 => ix a1 v1.2 fun x3 => bnd (ref06_Ceiling a0 x3) fun x4 => fk (decide (x4 > v1.1)) (ix a1 v1.2 fun x5 => bnd (ref06_Ceiling a0 x5) fun x6 => k2 x6) (k2 v1.1))) (some v1.1)) FU ((0 : Int), (0 : Int))
theorem ref06_Held_w (a0 : List Task) (a1 : List Int) (r : Int) (h : ref06_Held a0 a1 = some r) : Go.VC.Spec Try.prog 98 [.d (.sl (a0.map Task.enc)), .d (.sl (a1.map (eI .i64)))] (fun y => y = E_Int r) := by
  refine Go.VC.Spec.of_xc (args := [.d (.sl (a0.map Task.enc)), .d (.sl (a1.map (eI .i64)))]) (fn := Try.f98) tab ⟨[(0, [0, 1]), (1, [0, 1, 5]), (2, [0, 1, 5, 6]), (3, [0, 1, 5, 6, 10]), (4, [0, 1, 5, 6]), (5, [0, 1, 5, 6, 20]), (6, [0, 1, 5, 6]), (7, [4])], [], [4], []⟩ 28 [.tmp 4] rfl rfl rfl rfl rfl rfl ?_
  conv => whnf
  refine lpS (fun v1 => ⟨[(0, .l (.d (.sl (a0.map Task.enc)))), (1, .l (.d (.sl (a1.map (eI .i64))))), (5, .l (.d (.int .i64 v1.1))), (6, .l (.d (.int .i64 v1.2)))], 28, [], [], []⟩) h (Weak.refl _) (fun _ nx1 hn1 v1 h => ?_)
  conv => whnf
  refine lenS a1 (eI .i64) rfl ?_
  conv => whnf
  refine fkS h (fun h => ?_) (fun h => ?_)
  · conv => whnf
    refine jnS (fun w2 => ⟨[(0, .l (.d (.sl (a0.map Task.enc)))), (1, .l (.d (.sl (a1.map (eI .i64))))), (5, .l (.d (.int .i64 w2))), (6, .l (.d (.int .i64 v1.2)))], 28, [], [], []⟩) h (fun k2 hk2 h => ?_) (fun w2 h => ?_)
    · conv => whnf
      refine ixS (enc := (eI .i64)) h rfl (fun _ => rfl) (fun x3 h => ?_)
      conv => whnf
      refine caS (E := E_Int) h (ref06_Ceiling_w a0 x3) rfl (fun _ => rfl) (fun x4 h => ?_)
      conv => whnf
      refine fkS h (fun h => ?_) (fun h => ?_)
      · conv => whnf
        refine ixS (enc := (eI .i64)) h rfl (fun _ => rfl) (fun x5 h => ?_)
        conv => whnf
        refine caS (E := E_Int) h (ref06_Ceiling_w a0 x5) rfl (fun _ => rfl) (fun x6 h => ?_)
        conv => whnf
        exact jeS hk2 h (Weak.refl _)
      conv => whnf
      refine jeX hk2 h ?_
      conv => whnf
      refine WkF.step (Weak.keepS _ [0, 1, 5, 6]) ?_
      conv => whnf
      exact WkF.refl _
    conv => whnf
    exact leS hn1 h (Weak.refl _)
  conv => whnf
  exact rt (E := E_Int) h rfl

end Go.Proofs.Ytakiggekallckaa
namespace Go.Proofs.Ytakiggekallckaa
open Go Go.VC
noncomputable def ref14_Ahead (a0 : Job) (a1 : Job) : Option Bool :=
  fk (decide (a0.Due < a1.Due)) (some true) (fk (decide (a0.Due = a1.Due)) (fk (decide (a0.Task < a1.Task)) (some true) (fk (decide (a0.Task = a1.Task)) (some (decide (a0.At < a1.At))) (some false))) (some false))
theorem ref14_Ahead_w (a0 : Job) (a1 : Job) (r : Bool) (h : ref14_Ahead a0 a1 = some r) : Go.VC.Spec Try.prog 96 [.agg (Job.enc a0), .agg (Job.enc a1)] (fun y => y = E_Bool r) := by
  refine Go.VC.Spec.of_xc (args := [.agg (Job.enc a0), .agg (Job.enc a1)]) (fn := Try.f96) tab ⟨[(0, [2, 3]), (1, [4])], [], [], []⟩ 38 [.tmp 4] rfl rfl rfl rfl rfl rfl ?_
  conv => whnf
  refine fkS h (fun h => ?_) (fun h => ?_)
  · conv => whnf
    exact rt (E := E_Bool) h rfl
  conv => whnf
  refine fkS h (fun h => ?_) (fun h => ?_)
  · conv => whnf
    refine fkS h (fun h => ?_) (fun h => ?_)
    · conv => whnf
      exact rt (E := E_Bool) h rfl
    conv => whnf
    refine fkS h (fun h => ?_) (fun h => ?_)
    · conv => whnf
      exact rt (E := E_Bool) h rfl
    conv => whnf
    exact rt (E := E_Bool) h rfl
  conv => whnf
  exact rt (E := E_Bool) h rfl

end Go.Proofs.Ytakiggekallckaa
namespace Go.Proofs.Ytakiggekallckaa
open Go Go.VC
noncomputable def ref14_Right (a0 : List Task) (a1 : Job) : Option Bool :=
  jn (fun (w1 : Bool) => fk w1 (some false) (jn (fun (w3 : Bool) => fk w3 (some false) (fk a1.Began (some true) (some (decide (a1.Had < (1 : Int)))))) (fun k3 => fk (decide (a1.Want < (1 : Int))) (k3 true) (fk (decide (a1.Want > (200 : Int))) (k3 true) (fk (decide (a1.Had < (0 : Int))) (k3 true) (fk (decide (a1.Had ≥ a1.Want)) (k3 true) (ix a0 a1.Task fun x4 => k3 (decide (a1.Had ≥ x4.C))))))))) (fun k1 => fk (decide (a1.Task < (0 : Int))) (k1 true) (fk (decide (a1.Task ≥ (a0.length : Int))) (k1 true) (fk (decide (a1.At < (0 : Int))) (k1 true) (fk (decide (a1.At > (4611686018427387703 : Int))) (k1 true) (ix a0 a1.Task fun x2 => k1 (!decide (a1.Due = (wr (a1.At + x2.D)))))))))
theorem ref14_Right_w (a0 : List Task) (a1 : Job) (r : Bool) (h : ref14_Right a0 a1 = some r) : Go.VC.Spec Try.prog 77 [.d (.sl (a0.map Task.enc)), .agg (Job.enc a1)] (fun y => y = E_Bool r) := by
  refine Go.VC.Spec.of_xc (args := [.d (.sl (a0.map Task.enc)), .agg (Job.enc a1)]) (fn := Try.f77) tab ⟨[(0, [0, 3]), (1, [0, 3, 38]), (2, [4]), (3, [3, 69]), (4, [4]), (5, [4])], [], [100038, 100069], []⟩ 77 [.tmp 4] rfl rfl rfl rfl rfl rfl ?_
  conv => whnf
  refine jnS (fun w1 => ⟨[(0, .l (.d (.sl (a0.map Task.enc)))), (3, .l (.ptr 4 0)), (38, .l (.d (.bool w1)))], 77, [], [(4, [.d (.int .i64 a1.Task), .d (.int .i64 a1.At), .d (.int .i64 a1.Due), .d (.int .i64 a1.Want), .d (.int .i64 a1.Had), .d (.bool a1.Began)])], []⟩) h (fun k1 hk1 h => ?_) (fun w1 h => ?_)
  · conv => whnf
    refine ⟨34, ?_⟩
    conv => whnf
    refine fkS h (fun h => ?_) (fun h => ?_)
    · conv => whnf
      refine drS (by kernel_rfl) ?_
      conv => whnf
      exact jeS hk1 h (Weak.refl _)
    conv => whnf
    refine lenS a0 Task.enc rfl ?_
    conv => whnf
    refine fkS h (fun h => ?_) (fun h => ?_)
    · conv => whnf
      refine drS (by kernel_rfl) ?_
      conv => whnf
      exact jeS hk1 h (Weak.refl _)
    conv => whnf
    refine fkS h (fun h => ?_) (fun h => ?_)
    · conv => whnf
      refine drS (by kernel_rfl) ?_
      conv => whnf
      exact jeS hk1 h (Weak.refl _)
    conv => whnf
    refine fkS h (fun h => ?_) (fun h => ?_)
    · conv => whnf
      refine drS (by kernel_rfl) ?_
      conv => whnf
      exact jeS hk1 h (Weak.refl _)
    conv => whnf
    refine ixS (enc := Task.enc) h rfl (fun _ => rfl) (fun x2 h => ?_)
    conv => whnf
    refine drS (by kernel_rfl) ?_
    conv => whnf
    exact jeS hk1 h (Weak.refl _)
  conv => whnf
  refine fkS h (fun h => ?_) (fun h => ?_)
  · conv => whnf
    exact rt (E := E_Bool) h rfl
  conv => whnf
  refine jnS (fun w3 => ⟨[(3, .l (.ptr 4 0)), (69, .l (.d (.bool w3)))], 77, [], [(4, [.d (.int .i64 a1.Task), .d (.int .i64 a1.At), .d (.int .i64 a1.Due), .d (.int .i64 a1.Want), .d (.int .i64 a1.Had), .d (.bool a1.Began)])], []⟩) h (fun k3 hk3 h => ?_) (fun w3 h => ?_)
  · conv => whnf
    refine ⟨31, ?_⟩
    conv => whnf
    refine fkS h (fun h => ?_) (fun h => ?_)
    · conv => whnf
      refine drS (by kernel_rfl) ?_
      conv => whnf
      exact jeS hk3 h (Weak.refl _)
    conv => whnf
    refine fkS h (fun h => ?_) (fun h => ?_)
    · conv => whnf
      refine drS (by kernel_rfl) ?_
      conv => whnf
      exact jeS hk3 h (Weak.refl _)
    conv => whnf
    refine fkS h (fun h => ?_) (fun h => ?_)
    · conv => whnf
      refine drS (by kernel_rfl) ?_
      conv => whnf
      exact jeS hk3 h (Weak.refl _)
    conv => whnf
    refine fkS h (fun h => ?_) (fun h => ?_)
    · conv => whnf
      refine drS (by kernel_rfl) ?_
      conv => whnf
      exact jeS hk3 h (Weak.refl _)
    conv => whnf
    refine ixS (enc := Task.enc) h rfl (fun _ => rfl) (fun x4 h => ?_)
    conv => whnf
    refine drS (by kernel_rfl) ?_
    conv => whnf
    exact jeS hk3 h (Weak.refl _)
  conv => whnf
  refine fkS h (fun h => ?_) (fun h => ?_)
  · conv => whnf
    exact rt (E := E_Bool) h rfl
  conv => whnf
  refine fkS h (fun h => ?_) (fun h => ?_)
  · conv => whnf
    exact rt (E := E_Bool) h rfl
  conv => whnf
  exact rt (E := E_Bool) h rfl

end Go.Proofs.Ytakiggekallckaa
namespace Go.Proofs.Ytakiggekallckaa
open Go Go.VC
noncomputable def ref14_All (a0 : List Task) (a1 : List Job) : Option Bool :=
  jn (fun (w1 : Bool) => fk w1 (some false) (lp (fun nx3 (v3 : Int) => fk (decide (v3 < (a1.length : Int))) (lp (fun nx4 (v4 : Int) => fk (decide (v4 < (a1.length : Int))) (jn (fun (w5 : Bool) => fk w5 (some false) (nx4 (wr (v4 + (1 : Int))))) (fun k5 => fk (!decide (v4 = v3)) (ix a1 v4 fun x6 => ix a1 v3 fun x7 => fk (decide (x6.Task = x7.Task)) (ix a1 v4 fun x8 => ix a1 v3 fun x9 => k5 (decide (x8.At = x9.At))) (k5 false)) (k5 false))) (ix a1 v3 fun x10 => bnd (ref14_Right a0 x10) fun x11 => fk (!x11) (some false) (nx3 (wr (v3 + (1 : Int)))))) FU (0 : Int)) (some true)) FU (0 : Int))) (fun k1 => bnd (ref05_All a0) fun x2 => fk (!x2) (k1 true) (k1 (decide ((a1.length : Int) > (32 : Int)))))
theorem ref14_All_w (a0 : List Task) (a1 : List Job) (r : Bool) (h : ref14_All a0 a1 = some r) : Go.VC.Spec Try.prog 54 [.d (.sl (a0.map Task.enc)), .d (.sl (a1.map Job.enc))] (fun y => y = E_Bool r) := by
  refine Go.VC.Spec.of_xc (args := [.d (.sl (a0.map Task.enc)), .d (.sl (a1.map Job.enc))]) (fn := Try.f54) tab ⟨[(0, [0, 1]), (1, [0, 1, 14]), (2, [4]), (3, [0, 1, 5]), (4, [0, 1, 5, 18]), (5, [0, 1, 5]), (6, [0, 1, 5, 6]), (7, [0, 1, 5, 6, 24]), (8, [0, 1, 5, 6]), (9, [0, 1, 5, 6, 55]), (10, [4]), (11, [0, 1, 5, 62]), (12, [4]), (13, [4])], [], [100014, 100055], []⟩ 63 [.tmp 4] rfl rfl rfl rfl rfl rfl ?_
  conv => whnf
  refine jnS (fun w1 => ⟨[(0, .l (.d (.sl (a0.map Task.enc)))), (1, .l (.d (.sl (a1.map Job.enc)))), (14, .l (.d (.bool w1)))], 63, [], [], []⟩) h (fun k1 hk1 h => ?_) (fun w1 h => ?_)
  · conv => whnf
    refine caS (E := E_Bool) h (ref05_All_w a0) rfl (fun _ => rfl) (fun x2 h => ?_)
    conv => whnf
    refine fkS h (fun h => ?_) (fun h => ?_)
    · conv => whnf
      exact jeS hk1 h (Weak.refl _)
    conv => whnf
    refine lenS a1 Job.enc rfl ?_
    conv => whnf
    exact jeS hk1 h (Weak.refl _)
  conv => whnf
  refine fkS h (fun h => ?_) (fun h => ?_)
  · conv => whnf
    exact rt (E := E_Bool) h rfl
  conv => whnf
  refine lpS (fun v3 => ⟨[(0, .l (.d (.sl (a0.map Task.enc)))), (1, .l (.d (.sl (a1.map Job.enc)))), (5, .l (.d (.int .i64 v3)))], 63, [], [], []⟩) h (Weak.refl _) (fun _ nx3 hn3 v3 h => ?_)
  conv => whnf
  refine lenS a1 Job.enc rfl ?_
  conv => whnf
  refine fkS h (fun h => ?_) (fun h => ?_)
  · conv => whnf
    refine lpS (fun v4 => ⟨[(0, .l (.d (.sl (a0.map Task.enc)))), (1, .l (.d (.sl (a1.map Job.enc)))), (5, .l (.d (.int .i64 v3))), (6, .l (.d (.int .i64 v4)))], 63, [], [], []⟩) h (Weak.refl _) (fun _ nx4 hn4 v4 h => ?_)
    conv => whnf
    refine lenS a1 Job.enc rfl ?_
    conv => whnf
    refine fkS h (fun h => ?_) (fun h => ?_)
    · conv => whnf
      refine jnS (fun w5 => ⟨[(0, .l (.d (.sl (a0.map Task.enc)))), (1, .l (.d (.sl (a1.map Job.enc)))), (5, .l (.d (.int .i64 v3))), (6, .l (.d (.int .i64 v4))), (55, .l (.d (.bool w5)))], 63, [], [], []⟩) h (fun k5 hk5 h => ?_) (fun w5 h => ?_)
      · conv => whnf
        refine ⟨29, ?_⟩
        conv => whnf
        refine fkS h (fun h => ?_) (fun h => ?_)
        · conv => whnf
          refine ixS (enc := Job.enc) h rfl (fun _ => rfl) (fun x6 h => ?_)
          conv => whnf
          refine ixS (enc := Job.enc) h rfl (fun _ => rfl) (fun x7 h => ?_)
          conv => whnf
          refine fkS h (fun h => ?_) (fun h => ?_)
          · conv => whnf
            refine ixS (enc := Job.enc) h rfl (fun _ => rfl) (fun x8 h => ?_)
            conv => whnf
            refine ixS (enc := Job.enc) h rfl (fun _ => rfl) (fun x9 h => ?_)
            conv => whnf
            refine drS (by kernel_rfl) ?_
            conv => whnf
            exact jeS hk5 h (Weak.refl _)
          conv => whnf
          refine drS (by kernel_rfl) ?_
          conv => whnf
          exact jeS hk5 h (Weak.refl _)
        conv => whnf
        refine drS (by kernel_rfl) ?_
        conv => whnf
        exact jeS hk5 h (Weak.refl _)
      conv => whnf
      refine fkS h (fun h => ?_) (fun h => ?_)
      · conv => whnf
        exact rt (E := E_Bool) h rfl
      conv => whnf
      exact leS hn4 h (Weak.refl _)
    conv => whnf
    refine ixS (enc := Job.enc) h rfl (fun _ => rfl) (fun x10 h => ?_)
    conv => whnf
    refine caS (E := E_Bool) h (ref14_Right_w a0 x10) rfl (fun _ => rfl) (fun x11 h => ?_)
    conv => whnf
    refine fkS h (fun h => ?_) (fun h => ?_)
    · conv => whnf
      exact rt (E := E_Bool) h rfl
    conv => whnf
    exact leS hn3 h (Weak.refl _)
  conv => whnf
  exact rt (E := E_Bool) h rfl

end Go.Proofs.Ytakiggekallckaa
namespace Go.Proofs.Ytakiggekallckaa
open Go Go.VC
noncomputable def ref14_First (a0 : List Job) (a1 : Bool) : Option Int :=
  lp (fun nx1 (v1 : Int) => fk (decide (v1 < (a0.length : Int))) (ix a0 v1 fun x2 => lp (fun nx3 (v3 : Bool × Int) => fk (decide (v3.2 < (a0.length : Int))) (jn (fun (w4 : Bool) => nx3 (w4, (wr (v3.2 + (1 : Int))))) (fun k4 => jn (fun (w5 : Bool) => fk w5 (k4 false) (k4 v3.1)) (fun k5 => ix a0 v3.2 fun x6 => fk (decide (x6.Began = a1)) (ix a0 v3.2 fun x7 => ix a0 v1 fun x8 => bnd (ref14_Ahead x7 x8) fun x9 => k5 x9) (k5 false)))) (fk v3.1 (some v1) (nx1 (wr (v1 + (1 : Int)))))) FU ((decide (x2.Began = a1)), (0 : Int))) (some (-1 : Int))) FU (0 : Int)
theorem ref14_First_w (a0 : List Job) (a1 : Bool) (r : Int) (h : ref14_First a0 a1 = some r) : Go.VC.Spec Try.prog 95 [.d (.sl (a0.map Job.enc)), .d (.bool a1)] (fun y => y = E_Int r) := by
  refine Go.VC.Spec.of_xc (args := [.d (.sl (a0.map Job.enc)), .d (.bool a1)]) (fn := Try.f95) tab ⟨[(0, [0, 1]), (1, [0, 1, 5]), (2, [0, 1, 5, 11]), (3, [0, 1, 5]), (4, [0, 1, 5, 6]), (5, [0, 1, 5, 6, 7]), (6, [0, 1, 5, 6, 7, 24]), (7, [0, 1, 5, 6, 7]), (8, [0, 1, 5, 6, 7, 44]), (9, [0, 1, 5, 6, 7]), (10, [0, 1, 5, 45]), (11, [4]), (12, [4])], [], [100044, 7], []⟩ 47 [.tmp 4] rfl rfl rfl rfl rfl rfl ?_
  conv => whnf
  refine lpS (fun v1 => ⟨[(0, .l (.d (.sl (a0.map Job.enc)))), (1, .l (.d (.bool a1))), (5, .l (.d (.int .i64 v1)))], 47, [], [], []⟩) h (Weak.refl _) (fun _ nx1 hn1 v1 h => ?_)
  conv => whnf
  refine lenS a0 Job.enc rfl ?_
  conv => whnf
  refine fkS h (fun h => ?_) (fun h => ?_)
  · conv => whnf
    refine ixS (enc := Job.enc) h rfl (fun _ => rfl) (fun x2 h => ?_)
    conv => whnf
    refine lpS (fun v3 => ⟨[(0, .l (.d (.sl (a0.map Job.enc)))), (1, .l (.d (.bool a1))), (5, .l (.d (.int .i64 v1))), (6, .l (.d (.bool v3.1))), (7, .l (.d (.int .i64 v3.2)))], 47, [], [], []⟩) h (Weak.refl _) (fun _ nx3 hn3 v3 h => ?_)
    conv => whnf
    refine lenS a0 Job.enc rfl ?_
    conv => whnf
    refine fkS h (fun h => ?_) (fun h => ?_)
    · conv => whnf
      refine jnS (fun w4 => ⟨[(0, .l (.d (.sl (a0.map Job.enc)))), (1, .l (.d (.bool a1))), (5, .l (.d (.int .i64 v1))), (6, .l (.d (.bool w4))), (7, .l (.d (.int .i64 v3.2)))], 47, [], [], []⟩) h (fun k4 hk4 h => ?_) (fun w4 h => ?_)
      · conv => whnf
        refine jnS (fun w5 => ⟨[(0, .l (.d (.sl (a0.map Job.enc)))), (1, .l (.d (.bool a1))), (5, .l (.d (.int .i64 v1))), (6, .l (.d (.bool v3.1))), (7, .l (.d (.int .i64 v3.2))), (44, .l (.d (.bool w5)))], 47, [], [], []⟩) h (fun k5 hk5 h => ?_) (fun w5 h => ?_)
        · conv => whnf
          refine ⟨18, ?_⟩
          conv => whnf
          refine ixS (enc := Job.enc) h rfl (fun _ => rfl) (fun x6 h => ?_)
          conv => whnf
          refine fkS h (fun h => ?_) (fun h => ?_)
          · conv => whnf
            refine ixS (enc := Job.enc) h rfl (fun _ => rfl) (fun x7 h => ?_)
            conv => whnf
            refine ixS (enc := Job.enc) h rfl (fun _ => rfl) (fun x8 h => ?_)
            conv => whnf
            refine daS (E := E_Bool) h (ref14_Ahead_w x7 x8) (fun _ => rfl) (fun x9 h => ?_)
            conv => whnf
            refine drS (by kernel_rfl) ?_
            conv => whnf
            exact jeS hk5 h (Weak.refl _)
          conv => whnf
          refine drS (by kernel_rfl) ?_
          conv => whnf
          exact jeS hk5 h (Weak.refl _)
        conv => whnf
        refine fkS h (fun h => ?_) (fun h => ?_)
        · conv => whnf
          exact jeS hk4 h (Weak.refl _)
        conv => whnf
        refine jeX hk4 h ?_
        conv => whnf
        refine WkF.step (Weak.keepS _ [0, 1, 5, 6, 7]) ?_
        conv => whnf
        exact WkF.refl _
      conv => whnf
      exact leS hn3 h (Weak.refl _)
    conv => whnf
    refine fkS h (fun h => ?_) (fun h => ?_)
    · conv => whnf
      exact rt (E := E_Int) h rfl
    conv => whnf
    exact leS hn1 h (Weak.refl _)
  conv => whnf
  exact rt (E := E_Int) h rfl

end Go.Proofs.Ytakiggekallckaa
namespace Go.Proofs.Ytakiggekallckaa
open Go Go.VC
noncomputable def ref14_Held (a0 : List Task) (a1 : List Job) : Option (List Int) :=
  lp (fun nx1 (v1 : (List Int) × Int) => fk (decide (v1.2 < (a1.length : Int))) (jn (fun (w2 : List Int) => nx1 (w2, (wr (v1.2 + (1 : Int))))) (fun k2 => ix a1 v1.2 fun x3 => fk x3.Began (ix a1 v1.2 fun x4 => ix a0 x4.Task fun x5 => ix a1 v1.2 fun x6 => bnd (ref05_Held x5 x6.Had) fun x7 => ck (decide ((v1.1.length + x7.length) * 8 ≤ 140737488355328)) (k2 (v1.1 ++ x7))) (k2 v1.1))) (some v1.1)) FU ([], (0 : Int))
theorem ref14_Held_w (a0 : List Task) (a1 : List Job) (r : List Int) (h : ref14_Held a0 a1 = some r) : Go.VC.Spec Try.prog 99 [.d (.sl (a0.map Task.enc)), .d (.sl (a1.map Job.enc))] (fun y => y = E_ListInt r) := by
  refine Go.VC.Spec.of_xc (args := [.d (.sl (a0.map Task.enc)), .d (.sl (a1.map Job.enc))]) (fn := Try.f99) tab ⟨[(0, [0, 1]), (1, [0, 1, 5]), (2, [0, 1, 5, 6]), (3, [0, 1, 5, 6, 10]), (4, [0, 1, 5, 6]), (5, [0, 1, 5, 6, 17]), (6, [0, 1, 5, 6]), (7, [4])], [], [4], []⟩ 35 [.tmp 4] rfl rfl rfl rfl rfl rfl ?_
  conv => whnf
  refine lpS (fun v1 => ⟨[(0, .l (.d (.sl (a0.map Task.enc)))), (1, .l (.d (.sl (a1.map Job.enc)))), (5, .l (.own 6)), (6, .l (.d (.int .i64 v1.2)))], 35, [], [], [(6, 3, 1, v1.1.map (eI .i64))]⟩) h (Weak.trans (Weak.nilO _ 5 6 3 1 rfl) (Weak.refl _)) (fun _ nx1 hn1 v1 h => ?_)
  conv => whnf
  refine lenS a1 Job.enc rfl ?_
  conv => whnf
  refine fkS h (fun h => ?_) (fun h => ?_)
  · conv => whnf
    refine jnS (fun w2 => ⟨[(0, .l (.d (.sl (a0.map Task.enc)))), (1, .l (.d (.sl (a1.map Job.enc)))), (5, .l (.own 6)), (6, .l (.d (.int .i64 v1.2)))], 35, [], [], [(6, 3, 1, w2.map (eI .i64))]⟩) h (fun k2 hk2 h => ?_) (fun w2 h => ?_)
    · conv => whnf
      refine ixS (enc := Job.enc) h rfl (fun _ => rfl) (fun x3 h => ?_)
      conv => whnf
      refine fkS h (fun h => ?_) (fun h => ?_)
      · conv => whnf
        refine ⟨15, ?_⟩
        conv => whnf
        refine ixS (enc := Job.enc) h rfl (fun _ => rfl) (fun x4 h => ?_)
        conv => whnf
        refine ixS (enc := Task.enc) h rfl (fun _ => rfl) (fun x5 h => ?_)
        conv => whnf
        refine ixS (enc := Job.enc) h rfl (fun _ => rfl) (fun x6 h => ?_)
        conv => whnf
        refine dcS (E := E_ListInt) h (ref05_Held_w x5 x6.Had) rfl (fun x7 h => ?_)
        conv => whnf
        refine drS (by kernel_rfl) ?_
        conv => whnf
        refine apS (enc := (eI .i64)) (l1 := v1.1) (l2 := x7) h rfl rfl (fun _ => rfl) (fun h => ?_)
        conv => whnf
        exact jeS hk2 h (Weak.refl _)
      conv => whnf
      refine jeX hk2 h ?_
      conv => whnf
      refine WkF.step (Weak.keepS _ [0, 1, 5, 6]) ?_
      conv => whnf
      exact WkF.refl _
    conv => whnf
    exact leS hn1 h (Weak.refl _)
  conv => whnf
  exact rt (E := E_ListInt) h rfl

end Go.Proofs.Ytakiggekallckaa
namespace Go.Proofs.Ytakiggekallckaa
open Go Go.VC
noncomputable def ref14_Same (a0 : List Job) (a1 : List Job) : Option Bool :=
  fk (!decide ((a0.length : Int) = (a1.length : Int))) (some false) (lp (fun nx1 (v1 : Int) => fk (decide (v1 < (a0.length : Int))) (ix a0 v1 fun x2 => ix a1 v1 fun x3 => fk (!(eqI [.i .i64 x2.Task, .i .i64 x2.At, .i .i64 x2.Due, .i .i64 x2.Want, .i .i64 x2.Had, .b x2.Began] [.i .i64 x3.Task, .i .i64 x3.At, .i .i64 x3.Due, .i .i64 x3.Want, .i .i64 x3.Had, .b x3.Began])) (some false) (nx1 (wr (v1 + (1 : Int))))) (some true)) FU (0 : Int))
theorem ref14_Same_w (a0 : List Job) (a1 : List Job) (r : Bool) (h : ref14_Same a0 a1 = some r) : Go.VC.Spec Try.prog 56 [.d (.sl (a0.map Job.enc)), .d (.sl (a1.map Job.enc))] (fun y => y = E_Bool r) := by
  refine Go.VC.Spec.of_xc (args := [.d (.sl (a0.map Job.enc)), .d (.sl (a1.map Job.enc))]) (fn := Try.f56) tab ⟨[(0, [0, 1]), (1, [0, 1, 10]), (2, [4]), (3, [0, 1, 5]), (4, [0, 1, 5, 14]), (5, [0, 1, 5]), (6, [0, 1, 5, 25]), (7, [4]), (8, [4])], [], [], []⟩ 26 [.tmp 4] rfl rfl rfl rfl rfl rfl ?_
  conv => whnf
  refine lenS a0 Job.enc rfl ?_
  conv => whnf
  refine lenS a1 Job.enc rfl ?_
  conv => whnf
  refine fkS h (fun h => ?_) (fun h => ?_)
  · conv => whnf
    exact rt (E := E_Bool) h rfl
  conv => whnf
  refine lpS (fun v1 => ⟨[(0, .l (.d (.sl (a0.map Job.enc)))), (1, .l (.d (.sl (a1.map Job.enc)))), (5, .l (.d (.int .i64 v1)))], 26, [], [], []⟩) h (Weak.refl _) (fun _ nx1 hn1 v1 h => ?_)
  conv => whnf
  refine lenS a0 Job.enc rfl ?_
  conv => whnf
  refine fkS h (fun h => ?_) (fun h => ?_)
  · conv => whnf
    refine ⟨8, ?_⟩
    conv => whnf
    refine ixS (enc := Job.enc) h rfl (fun _ => rfl) (fun x2 h => ?_)
    conv => whnf
    refine ixS (enc := Job.enc) h rfl (fun _ => rfl) (fun x3 h => ?_)
    conv => whnf
    refine drS (by kernel_rfl) ?_
    conv => whnf
    refine fkS h (fun h => ?_) (fun h => ?_)
    · conv => whnf
      exact rt (E := E_Bool) h rfl
    conv => whnf
    exact leS hn1 h (Weak.refl _)
  conv => whnf
  exact rt (E := E_Bool) h rfl

end Go.Proofs.Ytakiggekallckaa
namespace Go.Proofs.Ytakiggekallckaa
open Go Go.VC
noncomputable def ref15_Choose (a0 : List Task) (a1 : List Job) : Option Int :=
  bnd (ref14_First a1 false) fun x1 => bnd (ref14_First a1 true) fun x2 => jn (fun (w3 : Bool) => fk w3 (ix a1 x1 fun x7 => bnd (ref06_Of a0 x7.Task) fun x8 => bnd (ref14_Held a0 a1) fun x9 => bnd (ref06_Held a0 x9) fun x10 => fk (decide (x8 > x10)) (some x1) (some x2)) (some x2)) (fun k3 => fk (decide (x1 ≥ (0 : Int))) (fk (decide (x2 < (0 : Int))) (k3 true) (ix a1 x1 fun x4 => ix a1 x2 fun x5 => bnd (ref14_Ahead x4 x5) fun x6 => k3 x6)) (k3 false))
theorem ref15_Choose_w (a0 : List Task) (a1 : List Job) (r : Int) (h : ref15_Choose a0 a1 = some r) : Go.VC.Spec Try.prog 82 [.d (.sl (a0.map Task.enc)), .d (.sl (a1.map Job.enc))] (fun y => y = E_Int r) := by
  refine Go.VC.Spec.of_xc (args := [.d (.sl (a0.map Task.enc)), .d (.sl (a1.map Job.enc))]) (fn := Try.f82) tab ⟨[(0, [0, 1]), (1, [0, 1, 5]), (2, [0, 1, 5, 6]), (3, [0, 1, 5, 6, 27]), (4, [5, 6, 40]), (5, [4]), (6, [4])], [], [100027], []⟩ 43 [.tmp 4] rfl rfl rfl rfl rfl rfl ?_
  conv => whnf
  refine caS (E := E_Int) h (ref14_First_w a1 false) rfl (fun _ => rfl) (fun x1 h => ?_)
  conv => whnf
  refine caS (E := E_Int) h (ref14_First_w a1 true) rfl (fun _ => rfl) (fun x2 h => ?_)
  conv => whnf
  refine jnS (fun w3 => ⟨[(0, .l (.d (.sl (a0.map Task.enc)))), (1, .l (.d (.sl (a1.map Job.enc)))), (5, .l (.d (.int .i64 x1))), (6, .l (.d (.int .i64 x2))), (27, .l (.d (.bool w3)))], 43, [], [], []⟩) h (fun k3 hk3 h => ?_) (fun w3 h => ?_)
  · conv => whnf
    refine ⟨17, ?_⟩
    conv => whnf
    refine fkS h (fun h => ?_) (fun h => ?_)
    · conv => whnf
      refine fkS h (fun h => ?_) (fun h => ?_)
      · conv => whnf
        refine drS (by kernel_rfl) ?_
        conv => whnf
        exact jeS hk3 h (Weak.refl _)
      conv => whnf
      refine ixS (enc := Job.enc) h rfl (fun _ => rfl) (fun x4 h => ?_)
      conv => whnf
      refine ixS (enc := Job.enc) h rfl (fun _ => rfl) (fun x5 h => ?_)
      conv => whnf
      refine daS (E := E_Bool) h (ref14_Ahead_w x4 x5) (fun _ => rfl) (fun x6 h => ?_)
      conv => whnf
      refine drS (by kernel_rfl) ?_
      conv => whnf
      exact jeS hk3 h (Weak.refl _)
    conv => whnf
    refine drS (by kernel_rfl) ?_
    conv => whnf
    exact jeS hk3 h (Weak.refl _)
  conv => whnf
  refine fkS h (fun h => ?_) (fun h => ?_)
  · conv => whnf
    refine ixS (enc := Job.enc) h rfl (fun _ => rfl) (fun x7 h => ?_)
    conv => whnf
    refine caS (E := E_Int) h (ref06_Of_w a0 x7.Task) rfl (fun _ => rfl) (fun x8 h => ?_)
    conv => whnf
    refine ccS (E := E_ListInt) h (ref14_Held_w a0 a1) rfl rfl (fun x9 h => ?_)
    conv => whnf
    refine caS (E := E_Int) h (ref06_Held_w a0 x9) rfl (fun _ => rfl) (fun x10 h => ?_)
    conv => whnf
    refine fkS h (fun h => ?_) (fun h => ?_)
    · conv => whnf
      exact rt (E := E_Int) h rfl
    conv => whnf
    exact rt (E := E_Int) h rfl
  conv => whnf
  exact rt (E := E_Int) h rfl

end Go.Proofs.Ytakiggekallckaa
namespace Go.Proofs.Ytakiggekallckaa
open Go Go.VC
noncomputable def ref15_Tick (a0 : List Task) (a1 : List Job) : Option ((List Job) × Job × Bool) :=
  bnd (ref15_Choose a0 a1) fun x1 => fk (decide (x1 < (0 : Int))) (some (a1, ⟨(0 : Int), (0 : Int), (0 : Int), (0 : Int), (0 : Int), false⟩, false)) (lp (fun nx2 (v2 : Int × Int × Int × Int × Int × Bool × (List Job) × Bool × Int) => fk (decide (v2.2.2.2.2.2.2.2.2 < (a1.length : Int))) (jn (fun (w3 : Int × Int × Int × Int × Int × Bool × (List Job) × Bool) => nx2 (w3.1, w3.2.1, w3.2.2.1, w3.2.2.2.1, w3.2.2.2.2.1, w3.2.2.2.2.2.1, w3.2.2.2.2.2.2.1, w3.2.2.2.2.2.2.2, (wr (v2.2.2.2.2.2.2.2.2 + (1 : Int))))) (fun k3 => ix a1 v2.2.2.2.2.2.2.2.2 fun x4 => jn (fun (w5 : Int × Int × Int × Int × Int × Bool × Int × Bool × Bool) => jn (fun (w7 : Bool) => fk w7 (ck (decide ((v2.2.2.2.2.2.2.1.length + ([⟨x4.Task, x4.At, x4.Due, x4.Want, w5.2.2.2.2.2.2.1, w5.2.2.2.2.2.2.2.1⟩] : List Job).length) * 48 ≤ 140737488355328)) (k3 (w5.1, w5.2.1, w5.2.2.1, w5.2.2.2.1, w5.2.2.2.2.1, w5.2.2.2.2.2.1, v2.2.2.2.2.2.2.1 ++ ([⟨x4.Task, x4.At, x4.Due, x4.Want, w5.2.2.2.2.2.2.1, w5.2.2.2.2.2.2.2.1⟩] : List Job), w5.2.2.2.2.2.2.2.2))) (k3 (w5.1, w5.2.1, w5.2.2.1, w5.2.2.2.1, w5.2.2.2.2.1, w5.2.2.2.2.2.1, v2.2.2.2.2.2.2.1, w5.2.2.2.2.2.2.2.2))) (fun k7 => fk (!decide (v2.2.2.2.2.2.2.2.2 = x1)) (k7 true) (k7 (!w5.2.2.2.2.2.2.2.2)))) (fun k5 => fk (decide (v2.2.2.2.2.2.2.2.2 = x1)) (fk (decide ((wr (x4.Had + (1 : Int))) = x4.Want)) (k5 (x4.Task, x4.At, x4.Due, x4.Want, (wr (x4.Had + (1 : Int))), true, (wr (x4.Had + (1 : Int))), true, true)) (ix a0 x4.Task fun x6 => k5 (x4.Task, x4.At, x4.Due, x4.Want, (wr (x4.Had + (1 : Int))), true, (wr (x4.Had + (1 : Int))), true, (decide ((wr (x4.Had + (1 : Int))) = x6.C))))) (k5 (v2.1, v2.2.1, v2.2.2.1, v2.2.2.2.1, v2.2.2.2.2.1, v2.2.2.2.2.2.1, x4.Had, x4.Began, v2.2.2.2.2.2.2.2.1))))) (some (v2.2.2.2.2.2.2.1, ⟨v2.1, v2.2.1, v2.2.2.1, v2.2.2.2.1, v2.2.2.2.2.1, v2.2.2.2.2.2.1⟩, v2.2.2.2.2.2.2.2.1))) FU ((0 : Int), (0 : Int), (0 : Int), (0 : Int), (0 : Int), false, [], false, (0 : Int)))
theorem ref15_Tick_w (a0 : List Task) (a1 : List Job) (r : (List Job) × Job × Bool) (h : ref15_Tick a0 a1 = some r) : Go.VC.Spec Try.prog 61 [.d (.sl (a0.map Task.enc)), .d (.sl (a1.map Job.enc))] (fun y => y = E_ListJob_Job_Bool r) := by
  refine Go.VC.Spec.of_xc (args := [.d (.sl (a0.map Task.enc)), .d (.sl (a1.map Job.enc))]) (fn := Try.f61) tab ⟨[(0, [0, 1, 5]), (1, [0, 1, 5, 7]), (2, [0, 1, 5, 7, 17]), (3, [4, 5, 6]), (4, [0, 1, 5, 7, 8]), (5, [0, 1, 5, 7, 8, 9]), (6, [0, 1, 5, 7, 8, 9, 10]), (7, [0, 1, 5, 7, 8, 9, 10, 11]), (8, [0, 1, 5, 7, 8, 9, 10, 11, 23]), (9, [0, 1, 5, 7, 8, 9, 10, 11]), (10, [0, 1, 5, 7, 8, 9, 10, 11, 12]), (11, [0, 1, 5, 7, 8, 9, 10, 11, 12, 32]), (12, [0, 1, 5, 7, 8, 9, 11, 12]), (13, [0, 1, 5, 7, 8, 9, 11, 12]), (14, [0, 1, 5, 7, 8, 9, 11, 12]), (15, [0, 1, 5, 7, 8, 9, 10, 11, 12]), (16, [0, 1, 5, 7, 8, 9, 10, 11, 12, 61]), (17, [0, 1, 5, 7, 8, 9, 10, 11]), (18, [4, 5, 6])], [], [100061, 16, 9], []⟩ 69 [.tmp 4, .cell 5 95, .tmp 6] rfl rfl rfl rfl rfl rfl ?_
  conv => whnf
  refine caS (E := E_Int) h (ref15_Choose_w a0 a1) rfl (fun _ => rfl) (fun x1 h => ?_)
  conv => whnf
  refine fkS h (fun h => ?_) (fun h => ?_)
  · conv => whnf
    exact rt (E := E_ListJob_Job_Bool) h rfl
  conv => whnf
  refine lpS (fun v2 => ⟨[(0, .l (.d (.sl (a0.map Task.enc)))), (1, .l (.d (.sl (a1.map Job.enc)))), (5, .l (.ptr 6 0)), (7, .l (.d (.int .i64 x1))), (8, .l (.own 9)), (9, .l (.ptr 10 0)), (10, .l (.d (.bool v2.2.2.2.2.2.2.2.1))), (11, .l (.d (.int .i64 v2.2.2.2.2.2.2.2.2)))], 69, [], [(6, [.d (.int .i64 (0 : Int)), .d (.int .i64 (0 : Int)), .d (.int .i64 (0 : Int)), .d (.int .i64 (0 : Int)), .d (.int .i64 (0 : Int)), .d (.bool false)]), (10, [.d (.int .i64 v2.1), .d (.int .i64 v2.2.1), .d (.int .i64 v2.2.2.1), .d (.int .i64 v2.2.2.2.1), .d (.int .i64 v2.2.2.2.2.1), .d (.bool v2.2.2.2.2.2.1)])], [(9, 95, 6, v2.2.2.2.2.2.2.1.map Job.enc)]⟩) h (Weak.trans (Weak.nilO _ 8 9 95 6 rfl) (Weak.refl _)) (fun _ nx2 hn2 v2 h => ?_)
  conv => whnf
  refine lenS a1 Job.enc rfl ?_
  conv => whnf
  refine fkS h (fun h => ?_) (fun h => ?_)
  · conv => whnf
    refine jnS (fun w3 => ⟨[(0, .l (.d (.sl (a0.map Task.enc)))), (1, .l (.d (.sl (a1.map Job.enc)))), (5, .l (.ptr 6 0)), (7, .l (.d (.int .i64 x1))), (8, .l (.own 9)), (9, .l (.ptr 10 0)), (10, .l (.d (.bool w3.2.2.2.2.2.2.2))), (11, .l (.d (.int .i64 v2.2.2.2.2.2.2.2.2)))], 69, [], [(6, [.d (.int .i64 (0 : Int)), .d (.int .i64 (0 : Int)), .d (.int .i64 (0 : Int)), .d (.int .i64 (0 : Int)), .d (.int .i64 (0 : Int)), .d (.bool false)]), (10, [.d (.int .i64 w3.1), .d (.int .i64 w3.2.1), .d (.int .i64 w3.2.2.1), .d (.int .i64 w3.2.2.2.1), .d (.int .i64 w3.2.2.2.2.1), .d (.bool w3.2.2.2.2.2.1)])], [(9, 95, 6, w3.2.2.2.2.2.2.1.map Job.enc)]⟩) h (fun k3 hk3 h => ?_) (fun w3 h => ?_)
    · conv => whnf
      refine ixS (enc := Job.enc) h rfl (fun _ => rfl) (fun x4 h => ?_)
      conv => whnf
      refine jnS (fun w5 => ⟨[(0, .l (.d (.sl (a0.map Task.enc)))), (1, .l (.d (.sl (a1.map Job.enc)))), (5, .l (.ptr 6 0)), (7, .l (.d (.int .i64 x1))), (8, .l (.own 9)), (9, .l (.ptr 10 0)), (10, .l (.d (.bool w5.2.2.2.2.2.2.2.2))), (11, .l (.d (.int .i64 v2.2.2.2.2.2.2.2.2))), (12, .l (.ptr 13 0))], 69, [], [(6, [.d (.int .i64 (0 : Int)), .d (.int .i64 (0 : Int)), .d (.int .i64 (0 : Int)), .d (.int .i64 (0 : Int)), .d (.int .i64 (0 : Int)), .d (.bool false)]), (10, [.d (.int .i64 w5.1), .d (.int .i64 w5.2.1), .d (.int .i64 w5.2.2.1), .d (.int .i64 w5.2.2.2.1), .d (.int .i64 w5.2.2.2.2.1), .d (.bool w5.2.2.2.2.2.1)]), (13, [.d (.int .i64 x4.Task), .d (.int .i64 x4.At), .d (.int .i64 x4.Due), .d (.int .i64 x4.Want), .d (.int .i64 w5.2.2.2.2.2.2.1), .d (.bool w5.2.2.2.2.2.2.2.1)])], [(9, 95, 6, v2.2.2.2.2.2.2.1.map Job.enc)]⟩) h (fun k5 hk5 h => ?_) (fun w5 h => ?_)
      · conv => whnf
        refine fkS h (fun h => ?_) (fun h => ?_)
        · conv => whnf
          refine ⟨16, ?_⟩
          conv => whnf
          refine fkS h (fun h => ?_) (fun h => ?_)
          · conv => whnf
            refine drS (by kernel_rfl) ?_
            conv => whnf
            exact jeS hk5 h (Weak.refl _)
          conv => whnf
          refine ixS (enc := Task.enc) h rfl (fun _ => rfl) (fun x6 h => ?_)
          conv => whnf
          refine drS (by kernel_rfl) ?_
          conv => whnf
          exact jeS hk5 h (Weak.refl _)
        conv => whnf
        refine jeX hk5 h ?_
        conv => whnf
        refine WkF.step (Weak.keepS _ [0, 1, 5, 7, 8, 9, 10, 11, 12]) ?_
        conv => whnf
        exact WkF.refl _
      conv => whnf
      refine jnS (fun w7 => ⟨[(0, .l (.d (.sl (a0.map Task.enc)))), (1, .l (.d (.sl (a1.map Job.enc)))), (5, .l (.ptr 6 0)), (7, .l (.d (.int .i64 x1))), (8, .l (.own 9)), (9, .l (.ptr 10 0)), (10, .l (.d (.bool w5.2.2.2.2.2.2.2.2))), (11, .l (.d (.int .i64 v2.2.2.2.2.2.2.2.2))), (12, .l (.ptr 13 0)), (61, .l (.d (.bool w7)))], 69, [], [(6, [.d (.int .i64 (0 : Int)), .d (.int .i64 (0 : Int)), .d (.int .i64 (0 : Int)), .d (.int .i64 (0 : Int)), .d (.int .i64 (0 : Int)), .d (.bool false)]), (10, [.d (.int .i64 w5.1), .d (.int .i64 w5.2.1), .d (.int .i64 w5.2.2.1), .d (.int .i64 w5.2.2.2.1), .d (.int .i64 w5.2.2.2.2.1), .d (.bool w5.2.2.2.2.2.1)]), (13, [.d (.int .i64 x4.Task), .d (.int .i64 x4.At), .d (.int .i64 x4.Due), .d (.int .i64 x4.Want), .d (.int .i64 w5.2.2.2.2.2.2.1), .d (.bool w5.2.2.2.2.2.2.2.1)])], [(9, 95, 6, v2.2.2.2.2.2.2.1.map Job.enc)]⟩) h (fun k7 hk7 h => ?_) (fun w7 h => ?_)
      · conv => whnf
        refine fkS h (fun h => ?_) (fun h => ?_)
        · conv => whnf
          exact jeS hk7 h (Weak.refl _)
        conv => whnf
        exact jeS hk7 h (Weak.refl _)
      conv => whnf
      refine fkS h (fun h => ?_) (fun h => ?_)
      · conv => whnf
        refine liS ([⟨x4.Task, x4.At, x4.Due, x4.Want, w5.2.2.2.2.2.2.1, w5.2.2.2.2.2.2.2.1⟩] : List Job) Job.enc rfl rfl ?_
        conv => whnf
        refine apS (enc := Job.enc) (l1 := v2.2.2.2.2.2.2.1) (l2 := ([⟨x4.Task, x4.At, x4.Due, x4.Want, w5.2.2.2.2.2.2.1, w5.2.2.2.2.2.2.2.1⟩] : List Job)) h rfl rfl (fun _ => rfl) (fun h => ?_)
        conv => whnf
        exact jeS hk3 h (Weak.refl _)
      conv => whnf
      refine jeX hk3 h ?_
      conv => whnf
      refine WkF.step (Weak.keepS _ [0, 1, 5, 7, 8, 9, 10, 11]) ?_
      conv => whnf
      exact WkF.refl _
    conv => whnf
    exact leS hn2 h (Weak.refl _)
  conv => whnf
  refine ⟨5, ?_⟩
  conv => whnf
  refine drS (by kernel_rfl) ?_
  conv => whnf
  exact rt (E := E_ListJob_Job_Bool) h rfl

end Go.Proofs.Ytakiggekallckaa
namespace Go.Proofs.Ytakiggekallckaa
open Go Go.VC
noncomputable def ref16_Right (a0 : List Task) (a1 : List Int) : Option Bool :=
  jn (fun (w1 : Bool) => fk w1 (some false) (lp (fun nx3 (v3 : Int) => fk (decide (v3 < (a1.length : Int))) (jn (fun (w4 : Bool) => fk w4 (some false) (nx3 (wr (v3 + (1 : Int))))) (fun k4 => ix a1 v3 fun x5 => fk (decide (x5 < (-1 : Int))) (k4 true) (ix a1 v3 fun x6 => k4 (decide (x6 > (4611686018427387903 : Int)))))) (some true)) FU (0 : Int))) (fun k1 => fk (!decide ((a1.length : Int) = (a0.length : Int))) (k1 true) (bnd (ref05_All a0) fun x2 => k1 (!x2)))
theorem ref16_Right_w (a0 : List Task) (a1 : List Int) (r : Bool) (h : ref16_Right a0 a1 = some r) : Go.VC.Spec Try.prog 53 [.d (.sl (a0.map Task.enc)), .d (.sl (a1.map (eI .i64)))] (fun y => y = E_Bool r) := by
  refine Go.VC.Spec.of_xc (args := [.d (.sl (a0.map Task.enc)), .d (.sl (a1.map (eI .i64)))]) (fn := Try.f53) tab ⟨[(0, [0, 1]), (1, [1, 15]), (2, [4]), (3, [1, 5]), (4, [1, 5, 19]), (5, [1, 5]), (6, [1, 5, 33]), (7, [4]), (8, [4])], [], [100015, 100033], []⟩ 34 [.tmp 4] rfl rfl rfl rfl rfl rfl ?_
  conv => whnf
  refine jnS (fun w1 => ⟨[(1, .l (.d (.sl (a1.map (eI .i64))))), (15, .l (.d (.bool w1)))], 34, [], [], []⟩) h (fun k1 hk1 h => ?_) (fun w1 h => ?_)
  · conv => whnf
    refine lenS a1 (eI .i64) rfl ?_
    conv => whnf
    refine lenS a0 Task.enc rfl ?_
    conv => whnf
    refine fkS h (fun h => ?_) (fun h => ?_)
    · conv => whnf
      exact jeS hk1 h (Weak.refl _)
    conv => whnf
    refine caS (E := E_Bool) h (ref05_All_w a0) rfl (fun _ => rfl) (fun x2 h => ?_)
    conv => whnf
    exact jeS hk1 h (Weak.refl _)
  conv => whnf
  refine fkS h (fun h => ?_) (fun h => ?_)
  · conv => whnf
    exact rt (E := E_Bool) h rfl
  conv => whnf
  refine lpS (fun v3 => ⟨[(1, .l (.d (.sl (a1.map (eI .i64))))), (5, .l (.d (.int .i64 v3)))], 34, [], [], []⟩) h (Weak.refl _) (fun _ nx3 hn3 v3 h => ?_)
  conv => whnf
  refine lenS a1 (eI .i64) rfl ?_
  conv => whnf
  refine fkS h (fun h => ?_) (fun h => ?_)
  · conv => whnf
    refine jnS (fun w4 => ⟨[(1, .l (.d (.sl (a1.map (eI .i64))))), (5, .l (.d (.int .i64 v3))), (33, .l (.d (.bool w4)))], 34, [], [], []⟩) h (fun k4 hk4 h => ?_) (fun w4 h => ?_)
    · conv => whnf
      refine ixS (enc := (eI .i64)) h rfl (fun _ => rfl) (fun x5 h => ?_)
      conv => whnf
      refine fkS h (fun h => ?_) (fun h => ?_)
      · conv => whnf
        exact jeS hk4 h (Weak.refl _)
      conv => whnf
      refine ixS (enc := (eI .i64)) h rfl (fun _ => rfl) (fun x6 h => ?_)
      conv => whnf
      exact jeS hk4 h (Weak.refl _)
    conv => whnf
    refine fkS h (fun h => ?_) (fun h => ?_)
    · conv => whnf
      exact rt (E := E_Bool) h rfl
    conv => whnf
    exact leS hn3 h (Weak.refl _)
  conv => whnf
  exact rt (E := E_Bool) h rfl

end Go.Proofs.Ytakiggekallckaa
namespace Go.Proofs.Ytakiggekallckaa
open Go Go.VC
noncomputable def ref16_May (a0 : List Task) (a1 : List Int) (a2 : Int) (a3 : Int) : Option Int :=
  jn (fun (w1 : Bool) => fk w1 (some (1 : Int)) (jn (fun (w3 : Bool) => fk w3 (some (6 : Int)) (some (0 : Int))) (fun k3 => ix a1 a2 fun x4 => fk (decide (x4 ≥ (0 : Int))) (ix a1 a2 fun x5 => ix a0 a2 fun x6 => k3 (decide ((wr (a3 - x5)) < x6.T))) (k3 false)))) (fun k1 => bnd (ref16_Right a0 a1) fun x2 => fk (!x2) (k1 true) (fk (decide (a2 < (0 : Int))) (k1 true) (fk (decide (a2 ≥ (a0.length : Int))) (k1 true) (fk (decide (a3 < (0 : Int))) (k1 true) (k1 (decide (a3 > (4611686018427387703 : Int))))))))
theorem ref16_May_w (a0 : List Task) (a1 : List Int) (a2 : Int) (a3 : Int) (r : Int) (h : ref16_May a0 a1 a2 a3 = some r) : Go.VC.Spec Try.prog 49 [.d (.sl (a0.map Task.enc)), .d (.sl (a1.map (eI .i64))), .d (.int .i64 a2), .d (.int .i64 a3)] (fun y => y = E_Int r) := by
  refine Go.VC.Spec.of_xc (args := [.d (.sl (a0.map Task.enc)), .d (.sl (a1.map (eI .i64))), .d (.int .i64 a2), .d (.int .i64 a3)]) (fn := Try.f49) tab ⟨[(0, [0, 1, 2, 3]), (1, [0, 1, 2, 3, 30]), (2, [8]), (3, [49]), (4, [8]), (5, [8])], [], [100030, 100049], []⟩ 50 [.tmp 8] rfl rfl rfl rfl rfl rfl ?_
  conv => whnf
  refine jnS (fun w1 => ⟨[(0, .l (.d (.sl (a0.map Task.enc)))), (1, .l (.d (.sl (a1.map (eI .i64))))), (2, .l (.d (.int .i64 a2))), (3, .l (.d (.int .i64 a3))), (30, .l (.d (.bool w1)))], 50, [], [], []⟩) h (fun k1 hk1 h => ?_) (fun w1 h => ?_)
  · conv => whnf
    refine caS (E := E_Bool) h (ref16_Right_w a0 a1) rfl (fun _ => rfl) (fun x2 h => ?_)
    conv => whnf
    refine fkS h (fun h => ?_) (fun h => ?_)
    · conv => whnf
      exact jeS hk1 h (Weak.refl _)
    conv => whnf
    refine fkS h (fun h => ?_) (fun h => ?_)
    · conv => whnf
      exact jeS hk1 h (Weak.refl _)
    conv => whnf
    refine lenS a0 Task.enc rfl ?_
    conv => whnf
    refine fkS h (fun h => ?_) (fun h => ?_)
    · conv => whnf
      exact jeS hk1 h (Weak.refl _)
    conv => whnf
    refine fkS h (fun h => ?_) (fun h => ?_)
    · conv => whnf
      exact jeS hk1 h (Weak.refl _)
    conv => whnf
    exact jeS hk1 h (Weak.refl _)
  conv => whnf
  refine fkS h (fun h => ?_) (fun h => ?_)
  · conv => whnf
    exact rt (E := E_Int) h rfl
  conv => whnf
  refine jnS (fun w3 => ⟨[(49, .l (.d (.bool w3)))], 50, [], [], []⟩) h (fun k3 hk3 h => ?_) (fun w3 h => ?_)
  · conv => whnf
    refine ⟨19, ?_⟩
    conv => whnf
    refine ixS (enc := (eI .i64)) h rfl (fun _ => rfl) (fun x4 h => ?_)
    conv => whnf
    refine fkS h (fun h => ?_) (fun h => ?_)
    · conv => whnf
      refine ixS (enc := (eI .i64)) h rfl (fun _ => rfl) (fun x5 h => ?_)
      conv => whnf
      refine ixS (enc := Task.enc) h rfl (fun _ => rfl) (fun x6 h => ?_)
      conv => whnf
      refine drS (by kernel_rfl) ?_
      conv => whnf
      exact jeS hk3 h (Weak.refl _)
    conv => whnf
    refine drS (by kernel_rfl) ?_
    conv => whnf
    exact jeS hk3 h (Weak.refl _)
  conv => whnf
  refine fkS h (fun h => ?_) (fun h => ?_)
  · conv => whnf
    exact rt (E := E_Int) h rfl
  conv => whnf
  exact rt (E := E_Int) h rfl

end Go.Proofs.Ytakiggekallckaa
namespace Go.Proofs.Ytakiggekallckaa
open Go Go.VC
noncomputable def srp_Choose (a0 : List Task) (a1 : List Job) : Option Int :=
  bnd (job_All a0 a1) fun x1 => fk (!x1) (some (-1 : Int)) (bnd (job_First a1 false) fun x2 => bnd (job_First a1 true) fun x3 => jn (fun (w4 : Unit) => some x2) (fun k4 => fk (decide (x2 < (0 : Int))) (some x3) (jn (fun (w5 : Bool) => fk w5 (some x3) (fk (decide (x3 < (0 : Int))) (k4 ()) (ix a1 x2 fun x9 => bnd (job_Held a0 a1) fun x10 => bnd (level_Passes a0 x9.Task x10) fun x11 => fk x11 (k4 ()) (some x3)))) (fun k5 => fk (decide (x3 ≥ (0 : Int))) (ix a1 x2 fun x6 => ix a1 x3 fun x7 => bnd (job_Ahead x6 x7) fun x8 => k5 (!x8)) (k5 false)))))
theorem srp_Choose_w (a0 : List Task) (a1 : List Job) (r : Int) (h : srp_Choose a0 a1 = some r) : Go.VC.Spec Try.prog 94 [.d (.sl (a0.map Task.enc)), .d (.sl (a1.map Job.enc))] (fun y => y = E_Int r) := by
  refine Go.VC.Spec.of_xc (args := [.d (.sl (a0.map Task.enc)), .d (.sl (a1.map Job.enc))]) (fn := Try.f94) tab ⟨[(0, [0, 1]), (1, [0, 1, 10]), (2, [4]), (3, [0, 1, 5, 6]), (4, [0, 1, 5, 6, 15]), (5, [0, 1, 5, 6, 18]), (6, [0, 1, 5, 6, 33]), (7, [5, 6, 36]), (8, [4]), (9, [4]), (10, [4]), (11, [4])], [], [100018, 10], []⟩ 51 [.tmp 4] rfl rfl rfl rfl rfl rfl ?_
  conv => whnf
  refine caS (E := E_Bool) h (job_All_w a0 a1) rfl (fun _ => rfl) (fun x1 h => ?_)
  conv => whnf
  refine fkS h (fun h => ?_) (fun h => ?_)
  · conv => whnf
    exact rt (E := E_Int) h rfl
  conv => whnf
  refine caS (E := E_Int) h (job_First_w a1 false) rfl (fun _ => rfl) (fun x2 h => ?_)
  conv => whnf
  refine caS (E := E_Int) h (job_First_w a1 true) rfl (fun _ => rfl) (fun x3 h => ?_)
  conv => whnf
  refine jnS (fun w4 => ⟨[(5, .l (.d (.int .i64 x2)))], 51, [], [], []⟩) h (fun k4 hk4 h => ?_) (fun w4 h => ?_)
  · conv => whnf
    refine fkS h (fun h => ?_) (fun h => ?_)
    · conv => whnf
      exact rt (E := E_Int) h rfl
    conv => whnf
    refine jnS (fun w5 => ⟨[(0, .l (.d (.sl (a0.map Task.enc)))), (1, .l (.d (.sl (a1.map Job.enc)))), (5, .l (.d (.int .i64 x2))), (6, .l (.d (.int .i64 x3))), (18, .l (.d (.bool w5)))], 51, [], [], []⟩) h (fun k5 hk5 h => ?_) (fun w5 h => ?_)
    · conv => whnf
      refine ⟨14, ?_⟩
      conv => whnf
      refine fkS h (fun h => ?_) (fun h => ?_)
      · conv => whnf
        refine ixS (enc := Job.enc) h rfl (fun _ => rfl) (fun x6 h => ?_)
        conv => whnf
        refine ixS (enc := Job.enc) h rfl (fun _ => rfl) (fun x7 h => ?_)
        conv => whnf
        refine daS (E := E_Bool) h (job_Ahead_w x6 x7) (fun _ => rfl) (fun x8 h => ?_)
        conv => whnf
        refine drS (by kernel_rfl) ?_
        conv => whnf
        exact jeS hk5 h (Weak.refl _)
      conv => whnf
      refine drS (by kernel_rfl) ?_
      conv => whnf
      exact jeS hk5 h (Weak.refl _)
    conv => whnf
    refine fkS h (fun h => ?_) (fun h => ?_)
    · conv => whnf
      exact rt (E := E_Int) h rfl
    conv => whnf
    refine fkS h (fun h => ?_) (fun h => ?_)
    · conv => whnf
      refine jeX hk4 h ?_
      conv => whnf
      refine WkF.step (Weak.keepS _ [5]) ?_
      conv => whnf
      exact WkF.refl _
    conv => whnf
    refine ⟨9, ?_⟩
    conv => whnf
    refine ixS (enc := Job.enc) h rfl (fun _ => rfl) (fun x9 h => ?_)
    conv => whnf
    refine dcS (E := E_ListInt) h (job_Held_w a0 a1) rfl (fun x10 h => ?_)
    conv => whnf
    refine drS (by kernel_rfl) ?_
    conv => whnf
    refine caS (E := E_Bool) h (level_Passes_w a0 x9.Task x10) rfl (fun _ => rfl) (fun x11 h => ?_)
    conv => whnf
    refine fkS h (fun h => ?_) (fun h => ?_)
    · conv => whnf
      refine jeX hk4 h ?_
      conv => whnf
      refine WkF.step (Weak.keepS _ [5]) ?_
      conv => whnf
      exact WkF.refl _
    conv => whnf
    exact rt (E := E_Int) h rfl
  conv => whnf
  exact rt (E := E_Int) h rfl

end Go.Proofs.Ytakiggekallckaa
namespace Go.Proofs.Ytakiggekallckaa
open Go Go.VC
noncomputable def srp_Tick (a0 : List Task) (a1 : List Job) : Option ((List Job) × Job × Bool) :=
  bnd (srp_Choose a0 a1) fun x1 => fk (decide (x1 < (0 : Int))) (some (a1, ⟨(0 : Int), (0 : Int), (0 : Int), (0 : Int), (0 : Int), false⟩, false)) (ix a1 x1 fun x2 => ix a0 x2.Task fun x3 => ck (decide ((0 : Int) ≤ (0 : Int)) && decide ((0 : Int) ≤ x1) && decide (x1 ≤ (a1.length : Int))) (ck (decide ((([] : List Job).length + ((a1.take x1.toNat).drop (0 : Int).toNat).length) * 48 ≤ 140737488355328)) (jn (fun (w4 : List Job) => ck (decide ((0 : Int) ≤ (wr (x1 + (1 : Int)))) && decide ((wr (x1 + (1 : Int))) ≤ (a1.length : Int)) && decide ((a1.length : Int) ≤ (a1.length : Int))) (ck (decide ((w4.length + ((a1.take (a1.length : Int).toNat).drop (wr (x1 + (1 : Int))).toNat).length) * 48 ≤ 140737488355328)) (some (w4 ++ ((a1.take (a1.length : Int).toNat).drop (wr (x1 + (1 : Int))).toNat), ⟨x2.Task, x2.At, x2.Due, x2.Want, (wr (x2.Had + (1 : Int))), true⟩, (decide ((wr (x2.Had + (1 : Int))) ≥ (if x3.C < x2.Want then x3.C else x2.Want))))))) (fun k4 => fk (!(decide ((wr (x2.Had + (1 : Int))) ≥ (if x3.C < x2.Want then x3.C else x2.Want)))) (ck (decide (((([] : List Job) ++ ((a1.take x1.toNat).drop (0 : Int).toNat)).length + ([⟨x2.Task, x2.At, x2.Due, x2.Want, (wr (x2.Had + (1 : Int))), true⟩] : List Job).length) * 48 ≤ 140737488355328)) (k4 ((([] : List Job) ++ ((a1.take x1.toNat).drop (0 : Int).toNat)) ++ ([⟨x2.Task, x2.At, x2.Due, x2.Want, (wr (x2.Had + (1 : Int))), true⟩] : List Job)))) (k4 (([] : List Job) ++ ((a1.take x1.toNat).drop (0 : Int).toNat)))))))
theorem srp_Tick_w (a0 : List Task) (a1 : List Job) (r : (List Job) × Job × Bool) (h : srp_Tick a0 a1 = some r) : Go.VC.Spec Try.prog 78 [.d (.sl (a0.map Task.enc)), .d (.sl (a1.map Job.enc))] (fun y => y = E_ListJob_Job_Bool r) := by
  refine Go.VC.Spec.of_xc (args := [.d (.sl (a0.map Task.enc)), .d (.sl (a1.map Job.enc))]) (fn := Try.f78) tab ⟨[(0, [0, 1, 5]), (1, [0, 1, 5, 7]), (2, [0, 1, 5, 7, 15]), (3, [4, 5, 6]), (4, [0, 1, 5, 7, 8]), (5, [0, 1, 5, 7, 8]), (6, [0, 1, 5, 7, 8]), (7, [1, 5, 7, 8, 9]), (8, [1, 5, 7, 8, 9, 10]), (9, [1, 5, 7, 8, 9, 10, 45]), (10, [1, 5, 7, 8, 9, 10]), (11, [4, 5, 6])], [], [11], []⟩ 58 [.tmp 4, .cell 5 95, .tmp 6] rfl rfl rfl rfl rfl rfl ?_
  conv => whnf
  refine caS (E := E_Int) h (srp_Choose_w a0 a1) rfl (fun _ => rfl) (fun x1 h => ?_)
  conv => whnf
  refine fkS h (fun h => ?_) (fun h => ?_)
  · conv => whnf
    exact rt (E := E_ListJob_Job_Bool) h rfl
  conv => whnf
  refine ixS (enc := Job.enc) h rfl (fun _ => rfl) (fun x2 h => ?_)
  conv => whnf
  refine ⟨11, ?_⟩
  conv => whnf
  refine ixS (enc := Task.enc) h rfl (fun _ => rfl) (fun x3 h => ?_)
  conv => whnf
  refine drS (by kernel_rfl) ?_
  conv => whnf
  refine liS ([] : List Job) Job.enc rfl rfl ?_
  conv => whnf
  refine slS (enc := Job.enc) h rfl rfl (.inl rfl) (fun _ => rfl) (fun h => ?_)
  conv => whnf
  refine apS (enc := Job.enc) (l1 := ([] : List Job)) (l2 := (a1.take x1.toNat).drop (0 : Int).toNat) h rfl rfl (fun _ => rfl) (fun h => ?_)
  conv => whnf
  refine jnS (fun w4 => ⟨[(1, .l (.d (.sl (a1.map Job.enc)))), (5, .l (.ptr 6 0)), (7, .l (.d (.int .i64 x1))), (8, .l (.ptr 9 0)), (9, .l (.d (.bool (decide ((wr (x2.Had + (1 : Int))) ≥ (if x3.C < x2.Want then x3.C else x2.Want)))))), (10, .l (.own 11))], 58, [], [(6, [.d (.int .i64 (0 : Int)), .d (.int .i64 (0 : Int)), .d (.int .i64 (0 : Int)), .d (.int .i64 (0 : Int)), .d (.int .i64 (0 : Int)), .d (.bool false)]), (9, [.d (.int .i64 x2.Task), .d (.int .i64 x2.At), .d (.int .i64 x2.Due), .d (.int .i64 x2.Want), .d (.int .i64 (wr (x2.Had + (1 : Int)))), .d (.bool true)])], [(11, 95, 6, w4.map Job.enc)]⟩) h (fun k4 hk4 h => ?_) (fun w4 h => ?_)
  · conv => whnf
    refine fkS h (fun h => ?_) (fun h => ?_)
    · conv => whnf
      refine liS ([⟨x2.Task, x2.At, x2.Due, x2.Want, (wr (x2.Had + (1 : Int))), true⟩] : List Job) Job.enc rfl rfl ?_
      conv => whnf
      refine apS (enc := Job.enc) (l1 := ([] : List Job) ++ ((a1.take x1.toNat).drop (0 : Int).toNat)) (l2 := ([⟨x2.Task, x2.At, x2.Due, x2.Want, (wr (x2.Had + (1 : Int))), true⟩] : List Job)) h rfl rfl (fun _ => rfl) (fun h => ?_)
      conv => whnf
      exact jeS hk4 h (Weak.refl _)
    conv => whnf
    refine jeX hk4 h ?_
    conv => whnf
    refine WkF.step (Weak.keepS _ [1, 5, 7, 8, 9, 10]) ?_
    conv => whnf
    exact WkF.refl _
  conv => whnf
  refine ⟨10, ?_⟩
  conv => whnf
  refine slS (enc := Job.enc) h rfl rfl (.inl rfl) (fun _ => rfl) (fun h => ?_)
  conv => whnf
  refine apS (enc := Job.enc) (l1 := w4) (l2 := (a1.take (a1.length : Int).toNat).drop (wr (x1 + (1 : Int))).toNat) h rfl rfl (fun _ => rfl) (fun h => ?_)
  conv => whnf
  refine drS (by kernel_rfl) ?_
  conv => whnf
  exact rt (E := E_ListJob_Job_Bool) h rfl

end Go.Proofs.Ytakiggekallckaa
