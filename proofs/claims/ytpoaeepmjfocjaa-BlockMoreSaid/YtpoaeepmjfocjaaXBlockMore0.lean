/- Part 11 of what follows is proved here: what the statement BlockMore needs of functions and plain laws. -/
import Derived.Test.YtpoaeepmjfocjaaV9
import Derived.Test.YtpoaeepmjfocjaaV7
import Derived.Test.YtpoaeepmjfocjaaV8
set_option maxRecDepth 100000
set_option maxHeartbeats 4000000
namespace Go.Proofs.Ytpoaeepmjfocjaa
open Go Go.VC
structure Sec where
  Res : Int
  At : Int
  Len : Int
  deriving DecidableEq
def Sec.enc (x : Sec) : List Go.VC.D := [.int .i64 x.Res, .int .i64 x.At, .int .i64 x.Len]
structure Task where
  C : Int
  D : Int
  T : Int
  Secs : List Sec
  deriving DecidableEq
def Task.enc (x : Task) : List Go.VC.D := [.int .i64 x.C, .int .i64 x.D, .int .i64 x.T, .sl (x.Secs.map Sec.enc)]
def E_Bool : Bool → List CV := fun r => [.d (.bool r)]
def E_ListInt : (List Int) → List CV := fun r => [.d (.sl (r.map (eI .i64)))]
def E_Int : Int → List CV := fun r => [.d (.int .i64 r)]
def E_Int_Int : (Int × Int) → List CV := fun r => [.d (.int .i64 r.1), .d (.int .i64 r.2)]
def E_ListInt_Int : ((List Int) × Int) → List CV := fun r => [.d (.sl (r.1.map (eI .i64))), .d (.int .i64 r.2)]
end Go.Proofs.Ytpoaeepmjfocjaa
namespace Go.Proofs.Ytpoaeepmjfocjaa
open Go Go.VC
noncomputable def law05_Great (a0 : List Task) : Option Bool :=
  lp (fun nx1 (v1 : Int) => fk (decide (v1 < (a0.length : Int))) (ix a0 v1 fun x2 => fk (decide ((x2.Secs.length : Int) > (20 : Int))) (some true) (nx1 (wr (v1 + (1 : Int))))) (some (decide ((a0.length : Int) > (20 : Int))))) FU (0 : Int)
theorem law05_Great_w (a0 : List Task) (r : Bool) (h : law05_Great a0 = some r) : Go.VC.Spec Try.prog 18 [.d (.sl (a0.map Task.enc))] (fun y => y = E_Bool r) := by
  refine Go.VC.Spec.of_xc (args := [.d (.sl (a0.map Task.enc))]) (fn := Try.f18) tab ⟨[(0, [0]), (1, [0, 3]), (2, [0, 3, 7]), (3, [0, 3]), (4, [0, 3, 16]), (5, [2]), (6, [2])], [], [], []⟩ 20 [.tmp 2] rfl rfl rfl rfl rfl rfl ?_
  refine lpS (fun v1 => ⟨[(0, .l (.d (.sl (a0.map Task.enc)))), (3, .l (.d (.int .i64 v1)))], 20, [], [], []⟩) h (Weak.refl _) (fun _ nx1 hn1 v1 h => ?_)
  refine lenS a0 Task.enc rfl ?_
  refine fkS h (fun h => ?_) (fun h => ?_)
  · refine ixS (enc := Task.enc) h rfl (fun _ => rfl) (fun x2 h => ?_)
    refine lenS x2.Secs Sec.enc rfl ?_
    refine fkS h (fun h => ?_) (fun h => ?_)
    · exact rt (E := E_Bool) h rfl
    exact leS hn1 h (Weak.refl _)
  refine lenS a0 Task.enc rfl ?_
  exact rt (E := E_Bool) h rfl

end Go.Proofs.Ytpoaeepmjfocjaa
namespace Go.Proofs.Ytpoaeepmjfocjaa
open Go Go.VC
noncomputable def ref05_Right (a0 : Task) : Option Bool :=
  jn (fun (w1 : Bool) => fk w1 (some false) (lp (fun nx2 (v2 : Int) => fk (decide (v2 < (a0.Secs.length : Int))) (ix a0.Secs v2 fun x3 => jn (fun (w4 : Bool) => fk w4 (some false) (lp (fun nx5 (v5 : Int) => fk (decide (v5 < v2)) (ix a0.Secs v5 fun x6 => jn (fun (w7 : Bool) => fk w7 (some false) (lp (fun nx8 (v8 : Int × Int × Int) => fk (decide (v8.2.2 < (wr (x3.At + x3.Len)))) (jn (fun (w9 : Int × Int) => nx8 (w9.1, w9.2, (wr (v8.2.2 + (1 : Int))))) (fun k9 => fk (decide (v8.2.2 < (wr (x6.At + x6.Len)))) (k9 ((wr (v8.1 + (1 : Int))), v8.2.1)) (k9 (v8.1, (wr (v8.2.1 + (1 : Int))))))) (jn (fun (w10 : Bool) => fk w10 (some false) (nx5 (wr (v5 + (1 : Int))))) (fun k10 => fk (decide (v8.1 > (0 : Int))) (fk (decide (v8.2.1 > (0 : Int))) (k10 true) (k10 (decide (x6.Res = x3.Res)))) (k10 false)))) FU ((0 : Int), (0 : Int), x3.At))) (fun k7 => fk (decide (x3.At < x6.At)) (k7 true) (fk (decide (x3.At = x6.At)) (k7 (decide (x3.Len > x6.Len))) (k7 false)))) (nx2 (wr (v2 + (1 : Int))))) FU (0 : Int))) (fun k4 => fk (decide (x3.Res < (0 : Int))) (k4 true) (fk (decide (x3.Res > (3 : Int))) (k4 true) (fk (decide (x3.At < (0 : Int))) (k4 true) (fk (decide (x3.Len < (1 : Int))) (k4 true) (fk (decide (x3.At > a0.C)) (k4 true) (fk (decide (x3.Len > a0.C)) (k4 true) (k4 (decide ((wr (x3.At + x3.Len)) > a0.C)))))))))) (some true)) FU (0 : Int))) (fun k1 => fk (decide (a0.C < (1 : Int))) (k1 true) (fk (decide (a0.D < a0.C)) (k1 true) (fk (decide (a0.T < a0.D)) (k1 true) (fk (decide (a0.T > (200 : Int))) (k1 true) (k1 (decide ((a0.Secs.length : Int) > (4 : Int))))))))
theorem ref05_Right_w (a0 : Task) (r : Bool) (h : ref05_Right a0 = some r) : Go.VC.Spec Try.prog 14 [.agg (Task.enc a0)] (fun y => y = E_Bool r) := by
  refine Go.VC.Spec.of_xc (args := [.agg (Task.enc a0)]) (fn := Try.f14) tab ⟨[(0, [1]), (1, [1, 37]), (2, [2]), (3, [1, 3]), (4, [1, 3, 42]), (5, [1, 3]), (6, [1, 3, 4]), (7, [1, 3, 4, 91]), (8, [2]), (9, [1, 3, 4, 5]), (10, [1, 3, 4, 5, 94]), (11, [1, 3, 4, 5]), (12, [1, 3, 4, 5, 6]), (13, [1, 3, 4, 5, 6, 120]), (14, [2]), (15, [1, 3, 4, 5, 6, 7, 8]), (16, [1, 3, 4, 5, 6, 7, 8, 9]), (17, [1, 3, 4, 5, 6, 7, 8, 9, 129]), (18, [1, 3, 4, 5, 6, 7, 8, 9]), (19, [1, 3, 4, 5, 6, 7, 8, 9, 138]), (20, [1, 3, 4, 5, 6, 7, 8, 9]), (21, [1, 3, 4, 5, 6, 7, 8, 9]), (22, [1, 3, 4, 5, 155]), (23, [2]), (24, [2])], [], [100037, 100091, 100120, 18, 100155], []⟩ 156 [.tmp 2] rfl rfl rfl rfl rfl rfl ?_
  refine jnS (fun w1 => ⟨[(1, .l (.ptr 2 0)), (37, .l (.d (.bool w1)))], 156, [], [(2, [.d (.int .i64 a0.C), .d (.int .i64 a0.D), .d (.int .i64 a0.T), .d (.sl (a0.Secs.map Sec.enc))])], []⟩) h (fun k1 hk1 h => ?_) (fun w1 h => ?_)
  · refine fkS h (fun h => ?_) (fun h => ?_)
    · exact jeS hk1 h (Weak.refl _)
    refine fkS h (fun h => ?_) (fun h => ?_)
    · exact jeS hk1 h (Weak.refl _)
    refine fkS h (fun h => ?_) (fun h => ?_)
    · exact jeS hk1 h (Weak.refl _)
    refine fkS h (fun h => ?_) (fun h => ?_)
    · exact jeS hk1 h (Weak.refl _)
    refine lenS a0.Secs Sec.enc rfl ?_
    exact jeS hk1 h (Weak.refl _)
  refine fkS h (fun h => ?_) (fun h => ?_)
  · exact rt (E := E_Bool) h rfl
  refine lpS (fun v2 => ⟨[(1, .l (.ptr 2 0)), (3, .l (.d (.int .i64 v2)))], 156, [], [(2, [.d (.int .i64 a0.C), .d (.int .i64 a0.D), .d (.int .i64 a0.T), .d (.sl (a0.Secs.map Sec.enc))])], []⟩) h (Weak.refl _) (fun _ nx2 hn2 v2 h => ?_)
  refine lenS a0.Secs Sec.enc rfl ?_
  refine fkS h (fun h => ?_) (fun h => ?_)
  · refine ixS (enc := Sec.enc) h rfl (fun _ => rfl) (fun x3 h => ?_)
    refine jnS (fun w4 => ⟨[(1, .l (.ptr 2 0)), (3, .l (.d (.int .i64 v2))), (4, .l (.ptr 5 0)), (91, .l (.d (.bool w4)))], 156, [], [(2, [.d (.int .i64 a0.C), .d (.int .i64 a0.D), .d (.int .i64 a0.T), .d (.sl (a0.Secs.map Sec.enc))]), (5, [.d (.int .i64 x3.Res), .d (.int .i64 x3.At), .d (.int .i64 x3.Len)])], []⟩) h (fun k4 hk4 h => ?_) (fun w4 h => ?_)
    · refine fkS h (fun h => ?_) (fun h => ?_)
      · exact jeS hk4 h (Weak.refl _)
      refine fkS h (fun h => ?_) (fun h => ?_)
      · exact jeS hk4 h (Weak.refl _)
      refine fkS h (fun h => ?_) (fun h => ?_)
      · exact jeS hk4 h (Weak.refl _)
      refine fkS h (fun h => ?_) (fun h => ?_)
      · exact jeS hk4 h (Weak.refl _)
      refine fkS h (fun h => ?_) (fun h => ?_)
      · exact jeS hk4 h (Weak.refl _)
      refine fkS h (fun h => ?_) (fun h => ?_)
      · exact jeS hk4 h (Weak.refl _)
      exact jeS hk4 h (Weak.refl _)
    refine fkS h (fun h => ?_) (fun h => ?_)
    · exact rt (E := E_Bool) h rfl
    refine lpS (fun v5 => ⟨[(1, .l (.ptr 2 0)), (3, .l (.d (.int .i64 v2))), (4, .l (.ptr 5 0)), (5, .l (.d (.int .i64 v5)))], 156, [], [(2, [.d (.int .i64 a0.C), .d (.int .i64 a0.D), .d (.int .i64 a0.T), .d (.sl (a0.Secs.map Sec.enc))]), (5, [.d (.int .i64 x3.Res), .d (.int .i64 x3.At), .d (.int .i64 x3.Len)])], []⟩) h (Weak.refl _) (fun _ nx5 hn5 v5 h => ?_)
    refine fkS h (fun h => ?_) (fun h => ?_)
    · refine ixS (enc := Sec.enc) h rfl (fun _ => rfl) (fun x6 h => ?_)
      refine jnS (fun w7 => ⟨[(1, .l (.ptr 2 0)), (3, .l (.d (.int .i64 v2))), (4, .l (.ptr 5 0)), (5, .l (.d (.int .i64 v5))), (6, .l (.ptr 7 0)), (120, .l (.d (.bool w7)))], 156, [], [(2, [.d (.int .i64 a0.C), .d (.int .i64 a0.D), .d (.int .i64 a0.T), .d (.sl (a0.Secs.map Sec.enc))]), (5, [.d (.int .i64 x3.Res), .d (.int .i64 x3.At), .d (.int .i64 x3.Len)]), (7, [.d (.int .i64 x6.Res), .d (.int .i64 x6.At), .d (.int .i64 x6.Len)])], []⟩) h (fun k7 hk7 h => ?_) (fun w7 h => ?_)
      · refine fkS h (fun h => ?_) (fun h => ?_)
        · exact jeS hk7 h (Weak.refl _)
        refine fkS h (fun h => ?_) (fun h => ?_)
        · exact jeS hk7 h (Weak.refl _)
        exact jeS hk7 h (Weak.refl _)
      refine fkS h (fun h => ?_) (fun h => ?_)
      · exact rt (E := E_Bool) h rfl
      refine lpS (fun v8 => ⟨[(1, .l (.ptr 2 0)), (3, .l (.d (.int .i64 v2))), (4, .l (.ptr 5 0)), (5, .l (.d (.int .i64 v5))), (6, .l (.ptr 7 0)), (7, .l (.d (.int .i64 v8.1))), (8, .l (.d (.int .i64 v8.2.1))), (9, .l (.d (.int .i64 v8.2.2)))], 156, [], [(2, [.d (.int .i64 a0.C), .d (.int .i64 a0.D), .d (.int .i64 a0.T), .d (.sl (a0.Secs.map Sec.enc))]), (5, [.d (.int .i64 x3.Res), .d (.int .i64 x3.At), .d (.int .i64 x3.Len)]), (7, [.d (.int .i64 x6.Res), .d (.int .i64 x6.At), .d (.int .i64 x6.Len)])], []⟩) h (Weak.refl _) (fun _ nx8 hn8 v8 h => ?_)
      refine fkS h (fun h => ?_) (fun h => ?_)
      · refine jnS (fun w9 => ⟨[(1, .l (.ptr 2 0)), (3, .l (.d (.int .i64 v2))), (4, .l (.ptr 5 0)), (5, .l (.d (.int .i64 v5))), (6, .l (.ptr 7 0)), (7, .l (.d (.int .i64 w9.1))), (8, .l (.d (.int .i64 w9.2))), (9, .l (.d (.int .i64 v8.2.2)))], 156, [], [(2, [.d (.int .i64 a0.C), .d (.int .i64 a0.D), .d (.int .i64 a0.T), .d (.sl (a0.Secs.map Sec.enc))]), (5, [.d (.int .i64 x3.Res), .d (.int .i64 x3.At), .d (.int .i64 x3.Len)]), (7, [.d (.int .i64 x6.Res), .d (.int .i64 x6.At), .d (.int .i64 x6.Len)])], []⟩) h (fun k9 hk9 h => ?_) (fun w9 h => ?_)
        · refine fkS h (fun h => ?_) (fun h => ?_)
          · exact jeS hk9 h (Weak.refl _)
          exact jeS hk9 h (Weak.refl _)
        exact leS hn8 h (Weak.refl _)
      refine jnS (fun w10 => ⟨[(1, .l (.ptr 2 0)), (3, .l (.d (.int .i64 v2))), (4, .l (.ptr 5 0)), (5, .l (.d (.int .i64 v5))), (155, .l (.d (.bool w10)))], 156, [], [(2, [.d (.int .i64 a0.C), .d (.int .i64 a0.D), .d (.int .i64 a0.T), .d (.sl (a0.Secs.map Sec.enc))]), (5, [.d (.int .i64 x3.Res), .d (.int .i64 x3.At), .d (.int .i64 x3.Len)])], []⟩) h (fun k10 hk10 h => ?_) (fun w10 h => ?_)
      · refine fkS h (fun h => ?_) (fun h => ?_)
        · refine fkS h (fun h => ?_) (fun h => ?_)
          · exact jeS hk10 h (Weak.refl _)
          exact jeS hk10 h (Weak.refl _)
        exact jeS hk10 h (Weak.refl _)
      refine fkS h (fun h => ?_) (fun h => ?_)
      · exact rt (E := E_Bool) h rfl
      exact leS hn5 h (Weak.refl _)
    exact leS hn2 h (Weak.refl _)
  exact rt (E := E_Bool) h rfl

end Go.Proofs.Ytpoaeepmjfocjaa
namespace Go.Proofs.Ytpoaeepmjfocjaa
open Go Go.VC
noncomputable def ref05_All (a0 : List Task) : Option Bool :=
  lp (fun nx1 (v1 : Int × Int) => fk (decide (v1.2 < (a0.length : Int))) (jn (fun (w2 : Int) => nx1 (w2, (wr (v1.2 + (1 : Int))))) (fun k2 => ix a0 v1.2 fun x3 => bnd (ref05_Right x3) fun x4 => fk x4 (k2 (wr (v1.1 + (1 : Int)))) (k2 v1.1))) (fk (decide (v1.1 = (a0.length : Int))) (some (decide (v1.1 ≤ (8 : Int)))) (some false))) FU ((0 : Int), (0 : Int))
theorem ref05_All_w (a0 : List Task) (r : Bool) (h : ref05_All a0 = some r) : Go.VC.Spec Try.prog 21 [.d (.sl (a0.map Task.enc))] (fun y => y = E_Bool r) := by
  refine Go.VC.Spec.of_xc (args := [.d (.sl (a0.map Task.enc))]) (fn := Try.f21) tab ⟨[(0, [0]), (1, [0, 3]), (2, [0, 3, 4]), (3, [0, 3, 4, 8]), (4, [0, 3, 4]), (5, [0, 3, 4, 15]), (6, [0, 3, 4]), (7, [2])], [], [4], []⟩ 26 [.tmp 2] rfl rfl rfl rfl rfl rfl ?_
  refine lpS (fun v1 => ⟨[(0, .l (.d (.sl (a0.map Task.enc)))), (3, .l (.d (.int .i64 v1.1))), (4, .l (.d (.int .i64 v1.2)))], 26, [], [], []⟩) h (Weak.refl _) (fun _ nx1 hn1 v1 h => ?_)
  refine lenS a0 Task.enc rfl ?_
  refine fkS h (fun h => ?_) (fun h => ?_)
  · refine jnS (fun w2 => ⟨[(0, .l (.d (.sl (a0.map Task.enc)))), (3, .l (.d (.int .i64 w2))), (4, .l (.d (.int .i64 v1.2)))], 26, [], [], []⟩) h (fun k2 hk2 h => ?_) (fun w2 h => ?_)
    · refine ixS (enc := Task.enc) h rfl (fun _ => rfl) (fun x3 h => ?_)
      refine caS (E := E_Bool) h (ref05_Right_w x3) rfl (fun _ => rfl) (fun x4 h => ?_)
      refine fkS h (fun h => ?_) (fun h => ?_)
      · exact jeS hk2 h (Weak.refl _)
      exact jeS hk2 h (Weak.trans (Weak.keepS _ [0, 3, 4]) (Weak.refl _))
    exact leS hn1 h (Weak.refl _)
  refine lenS a0 Task.enc rfl ?_
  refine fkS h (fun h => ?_) (fun h => ?_)
  · exact rt (E := E_Bool) h rfl
  exact rt (E := E_Bool) h rfl

end Go.Proofs.Ytpoaeepmjfocjaa
namespace Go.Proofs.Ytpoaeepmjfocjaa
open Go Go.VC
noncomputable def task_own (a0 : Task) : Option Bool :=
  fk (decide (a0.C ≥ (1 : Int))) (fk (decide (a0.C ≤ a0.D)) (fk (decide (a0.D ≤ a0.T)) (fk (decide (a0.T ≤ (200 : Int))) (some (decide ((a0.Secs.length : Int) ≤ (4 : Int)))) (some false)) (some false)) (some false)) (some false)
theorem task_own_w (a0 : Task) (r : Bool) (h : task_own a0 = some r) : Go.VC.Spec Try.prog 40 [.agg (Task.enc a0)] (fun y => y = E_Bool r) := by
  refine Go.VC.Spec.of_xc (args := [.agg (Task.enc a0)]) (fn := Try.f40) tab ⟨[(0, [1]), (1, [2])], [], [], []⟩ 31 [.tmp 2] rfl rfl rfl rfl rfl rfl ?_
  refine fkS h (fun h => ?_) (fun h => ?_)
  · refine fkS h (fun h => ?_) (fun h => ?_)
    · refine fkS h (fun h => ?_) (fun h => ?_)
      · refine fkS h (fun h => ?_) (fun h => ?_)
        · refine lenS a0.Secs Sec.enc rfl ?_
          exact rt (E := E_Bool) h rfl
        exact rt (E := E_Bool) h rfl
      exact rt (E := E_Bool) h rfl
    exact rt (E := E_Bool) h rfl
  exact rt (E := E_Bool) h rfl

end Go.Proofs.Ytpoaeepmjfocjaa
namespace Go.Proofs.Ytpoaeepmjfocjaa
open Go Go.VC
noncomputable def task_may (a0 : Task) (a1 : Sec) : Option Bool :=
  fk (decide (a1.Res ≥ (0 : Int))) (fk (decide (a1.Res < (4 : Int))) (fk (decide (a1.At ≥ (0 : Int))) (fk (decide (a1.At < a0.C)) (fk (decide (a1.Len ≥ (1 : Int))) (some (decide (a1.Len ≤ (wr (a0.C - a1.At))))) (some false)) (some false)) (some false)) (some false)) (some false)
theorem task_may_w (a0 : Task) (a1 : Sec) (r : Bool) (h : task_may a0 a1 = some r) : Go.VC.Spec Try.prog 41 [.agg (Task.enc a0), .agg (Sec.enc a1)] (fun y => y = E_Bool r) := by
  refine Go.VC.Spec.of_xc (args := [.agg (Task.enc a0), .agg (Sec.enc a1)]) (fn := Try.f41) tab ⟨[(0, [2, 3]), (1, [4])], [], [], []⟩ 40 [.tmp 4] rfl rfl rfl rfl rfl rfl ?_
  refine fkS h (fun h => ?_) (fun h => ?_)
  · refine fkS h (fun h => ?_) (fun h => ?_)
    · refine fkS h (fun h => ?_) (fun h => ?_)
      · refine fkS h (fun h => ?_) (fun h => ?_)
        · refine fkS h (fun h => ?_) (fun h => ?_)
          · exact rt (E := E_Bool) h rfl
          exact rt (E := E_Bool) h rfl
        exact rt (E := E_Bool) h rfl
      exact rt (E := E_Bool) h rfl
    exact rt (E := E_Bool) h rfl
  exact rt (E := E_Bool) h rfl

end Go.Proofs.Ytpoaeepmjfocjaa
namespace Go.Proofs.Ytpoaeepmjfocjaa
open Go Go.VC
noncomputable def task_fits (a0 : Sec) (a1 : Sec) : Option Bool :=
  fk (decide (a1.At ≥ (wr (a0.At + a0.Len)))) (some true) (fk (decide (a1.At < a0.At)) (some false) (fk (decide ((wr (a1.At + a1.Len)) ≤ (wr (a0.At + a0.Len)))) (some (!decide (a0.Res = a1.Res))) (some false)))
theorem task_fits_w (a0 : Sec) (a1 : Sec) (r : Bool) (h : task_fits a0 a1 = some r) : Go.VC.Spec Try.prog 42 [.agg (Sec.enc a0), .agg (Sec.enc a1)] (fun y => y = E_Bool r) := by
  refine Go.VC.Spec.of_xc (args := [.agg (Sec.enc a0), .agg (Sec.enc a1)]) (fn := Try.f42) tab ⟨[(0, [2, 3]), (1, [2, 3, 5]), (2, [4]), (3, [2, 3, 14]), (4, [4]), (5, [4])], [], [], []⟩ 38 [.tmp 4] rfl rfl rfl rfl rfl rfl ?_
  refine fkS h (fun h => ?_) (fun h => ?_)
  · exact rt (E := E_Bool) h rfl
  refine fkS h (fun h => ?_) (fun h => ?_)
  · exact rt (E := E_Bool) h rfl
  refine fkS h (fun h => ?_) (fun h => ?_)
  · exact rt (E := E_Bool) h rfl
  exact rt (E := E_Bool) h rfl

end Go.Proofs.Ytpoaeepmjfocjaa
namespace Go.Proofs.Ytpoaeepmjfocjaa
open Go Go.VC
noncomputable def task_Right (a0 : Task) : Option Bool :=
  bnd (task_own a0) fun x1 => fk (!x1) (some false) (lp (fun nx2 (v2 : Int) => fk (decide (v2 < (a0.Secs.length : Int))) (ix a0.Secs v2 fun x3 => bnd (task_may a0 x3) fun x4 => fk (!x4) (some false) (ck (decide ((0 : Int) ≤ (0 : Int)) && decide ((0 : Int) ≤ v2) && decide (v2 ≤ (a0.Secs.length : Int))) (lp (fun nx5 (v5 : Int) => fk (decide (v5 < (((a0.Secs.take v2.toNat).drop (0 : Int).toNat).length : Int))) (ix ((a0.Secs.take v2.toNat).drop (0 : Int).toNat) v5 fun x6 => bnd (task_fits x6 x3) fun x7 => fk x7 (nx5 (wr (v5 + (1 : Int)))) (some (decide ((0 : Int) > (0 : Int))))) (nx2 (wr (v2 + (1 : Int))))) FU (0 : Int)))) (some (decide (a0.C > (0 : Int))))) FU (0 : Int))
theorem task_Right_w (a0 : Task) (r : Bool) (h : task_Right a0 = some r) : Go.VC.Spec Try.prog 19 [.agg (Task.enc a0)] (fun y => y = E_Bool r) := by
  refine Go.VC.Spec.of_xc (args := [.agg (Task.enc a0)]) (fn := Try.f19) tab ⟨[(0, [1]), (1, [1, 9]), (2, [2]), (3, [1, 11, 12, 13]), (4, [1, 11, 12, 13, 14]), (5, [1, 3, 4, 11, 12, 13]), (6, [1, 3, 4, 11, 12, 13, 21]), (7, [2]), (8, [1, 4, 11, 12, 13, 25, 26, 27]), (9, [1, 4, 11, 12, 13, 25, 26, 27, 28]), (10, [1, 4, 6, 11, 12, 13, 25, 26, 27]), (11, [1, 4, 11, 12, 13, 25, 26, 27, 33]), (12, [1]), (13, [1, 4, 11, 12, 13, 25, 26, 27]), (14, [1, 11, 12, 13]), (15, [2])], [], [], []⟩ 40 [.tmp 2] rfl rfl rfl rfl rfl rfl ?_
  refine caS (E := E_Bool) h (task_own_w a0) rfl (fun _ => rfl) (fun x1 h => ?_)
  refine fkS h (fun h => ?_) (fun h => ?_)
  · exact rt (E := E_Bool) h rfl
  refine lenS a0.Secs Sec.enc rfl ?_
  refine lpS (fun v2 => ⟨[(1, .l (.ptr 2 0)), (11, .l (.d (.sl (a0.Secs.map Sec.enc)))), (12, .l (.d (.int .i64 (a0.Secs.length : Int)))), (13, .l (.d (.int .i64 v2)))], 40, [], [(2, [.d (.int .i64 a0.C), .d (.int .i64 a0.D), .d (.int .i64 a0.T), .d (.sl (a0.Secs.map Sec.enc))])], []⟩) h (Weak.refl _) (fun _ nx2 hn2 v2 h => ?_)
  refine fkS h (fun h => ?_) (fun h => ?_)
  · refine ixS (enc := Sec.enc) h rfl (fun _ => rfl) (fun x3 h => ?_)
    refine caS (E := E_Bool) h (task_may_w a0 x3) rfl (fun _ => rfl) (fun x4 h => ?_)
    refine fkS h (fun h => ?_) (fun h => ?_)
    · exact rt (E := E_Bool) h rfl
    refine slS (enc := Sec.enc) h rfl rfl (.inl rfl) (fun _ => rfl) (fun h => ?_)
    refine lenS ((a0.Secs.take v2.toNat).drop (0 : Int).toNat) Sec.enc rfl ?_
    refine lpS (fun v5 => ⟨[(1, .l (.ptr 2 0)), (4, .l (.ptr 5 0)), (11, .l (.d (.sl (a0.Secs.map Sec.enc)))), (12, .l (.d (.int .i64 (a0.Secs.length : Int)))), (13, .l (.d (.int .i64 v2))), (25, .l (.d (.sl (((a0.Secs.take v2.toNat).drop (0 : Int).toNat).map Sec.enc)))), (26, .l (.d (.int .i64 (((a0.Secs.take v2.toNat).drop (0 : Int).toNat).length : Int)))), (27, .l (.d (.int .i64 v5)))], 40, [], [(2, [.d (.int .i64 a0.C), .d (.int .i64 a0.D), .d (.int .i64 a0.T), .d (.sl (a0.Secs.map Sec.enc))]), (5, [.d (.int .i64 x3.Res), .d (.int .i64 x3.At), .d (.int .i64 x3.Len)])], []⟩) h (Weak.refl _) (fun _ nx5 hn5 v5 h => ?_)
    refine fkS h (fun h => ?_) (fun h => ?_)
    · refine ixS (enc := Sec.enc) h rfl (fun _ => rfl) (fun x6 h => ?_)
      refine caS (E := E_Bool) h (task_fits_w x6 x3) rfl (fun _ => rfl) (fun x7 h => ?_)
      refine fkS h (fun h => ?_) (fun h => ?_)
      · exact leS hn5 h (Weak.refl _)
      exact rt (E := E_Bool) h rfl
    exact leS hn2 h (Weak.refl _)
  exact rt (E := E_Bool) h rfl

end Go.Proofs.Ytpoaeepmjfocjaa
namespace Go.Proofs.Ytpoaeepmjfocjaa
open Go Go.VC
noncomputable def task_All (a0 : List Task) : Option Bool :=
  lp (fun nx1 (v1 : Int) => fk (decide (v1 < (a0.length : Int))) (ix a0 v1 fun x2 => bnd (task_Right x2) fun x3 => fk (!x3) (some false) (nx1 (wr (v1 + (1 : Int))))) (some (decide ((a0.length : Int) ≤ (8 : Int))))) FU (0 : Int)
theorem task_All_w (a0 : List Task) (r : Bool) (h : task_All a0 = some r) : Go.VC.Spec Try.prog 20 [.d (.sl (a0.map Task.enc))] (fun y => y = E_Bool r) := by
  refine Go.VC.Spec.of_xc (args := [.d (.sl (a0.map Task.enc))]) (fn := Try.f20) tab ⟨[(0, [0]), (1, [0, 5, 6, 7]), (2, [0, 5, 6, 7, 8]), (3, [0, 4, 5, 6, 7]), (4, [0, 5, 6, 7, 13]), (5, [2]), (6, [0, 5, 6, 7]), (7, [2])], [], [], []⟩ 18 [.tmp 2] rfl rfl rfl rfl rfl rfl ?_
  refine lenS a0 Task.enc rfl ?_
  refine lpS (fun v1 => ⟨[(0, .l (.d (.sl (a0.map Task.enc)))), (5, .l (.d (.sl (a0.map Task.enc)))), (6, .l (.d (.int .i64 (a0.length : Int)))), (7, .l (.d (.int .i64 v1)))], 18, [], [], []⟩) h (Weak.refl _) (fun _ nx1 hn1 v1 h => ?_)
  refine fkS h (fun h => ?_) (fun h => ?_)
  · refine ixS (enc := Task.enc) h rfl (fun _ => rfl) (fun x2 h => ?_)
    refine caS (E := E_Bool) h (task_Right_w x2) rfl (fun _ => rfl) (fun x3 h => ?_)
    refine fkS h (fun h => ?_) (fun h => ?_)
    · exact rt (E := E_Bool) h rfl
    exact leS hn1 h (Weak.refl _)
  refine lenS a0 Task.enc rfl ?_
  exact rt (E := E_Bool) h rfl

end Go.Proofs.Ytpoaeepmjfocjaa
namespace Go.Proofs.Ytpoaeepmjfocjaa
open Go Go.VC
noncomputable def task_Uses (a0 : Task) (a1 : Int) : Option Bool :=
  bnd (task_Right a0) fun x1 => fk (!x1) (some false) (lp (fun nx2 (v2 : Int) => fk (decide (v2 < (a0.Secs.length : Int))) (ix a0.Secs v2 fun x3 => fk (decide (x3.Res = a1)) (some true) (nx2 (wr (v2 + (1 : Int))))) (some false)) FU (0 : Int))
theorem task_Uses_w (a0 : Task) (a1 : Int) (r : Bool) (h : task_Uses a0 a1 = some r) : Go.VC.Spec Try.prog 17 [.agg (Task.enc a0), .d (.int .i64 a1)] (fun y => y = E_Bool r) := by
  refine Go.VC.Spec.of_xc (args := [.agg (Task.enc a0), .d (.int .i64 a1)]) (fn := Try.f17) tab ⟨[(0, [1, 2]), (1, [1, 2, 9]), (2, [4]), (3, [1, 11, 12, 13]), (4, [1, 11, 12, 13, 14]), (5, [1, 6, 11, 12, 13]), (6, [1, 11, 12, 13, 20]), (7, [4]), (8, [1, 11, 12, 13]), (9, [4])], [], [], []⟩ 22 [.tmp 4] rfl rfl rfl rfl rfl rfl ?_
  refine caS (E := E_Bool) h (task_Right_w a0) rfl (fun _ => rfl) (fun x1 h => ?_)
  refine fkS h (fun h => ?_) (fun h => ?_)
  · exact rt (E := E_Bool) h rfl
  refine lenS a0.Secs Sec.enc rfl ?_
  refine lpS (fun v2 => ⟨[(1, .l (.d (.int .i64 a1))), (11, .l (.d (.sl (a0.Secs.map Sec.enc)))), (12, .l (.d (.int .i64 (a0.Secs.length : Int)))), (13, .l (.d (.int .i64 v2)))], 22, [], [], []⟩) h (Weak.refl _) (fun _ nx2 hn2 v2 h => ?_)
  refine fkS h (fun h => ?_) (fun h => ?_)
  · refine ixS (enc := Sec.enc) h rfl (fun _ => rfl) (fun x3 h => ?_)
    refine fkS h (fun h => ?_) (fun h => ?_)
    · exact rt (E := E_Bool) h rfl
    exact leS hn2 h (Weak.refl _)
  exact rt (E := E_Bool) h rfl

end Go.Proofs.Ytpoaeepmjfocjaa
namespace Go.Proofs.Ytpoaeepmjfocjaa
open Go Go.VC
noncomputable def block_shared (a0 : List Task) (a1 : Int) (a2 : Int) : Option Bool :=
  lp (fun nx1 (v1 : Int) => fk (decide (v1 < (a0.length : Int))) (ix a0 v1 fun x2 => jn (fun (w3 : Bool) => fk w3 (some true) (nx1 (wr (v1 + (1 : Int))))) (fun k3 => fk (decide (x2.D ≤ a1)) (bnd (task_Uses x2 a2) fun x4 => k3 x4) (k3 false))) (some false)) FU (0 : Int)
theorem block_shared_w (a0 : List Task) (a1 : Int) (a2 : Int) (r : Bool) (h : block_shared a0 a1 a2 = some r) : Go.VC.Spec Try.prog 49 [.d (.sl (a0.map Task.enc)), .d (.int .i64 a1), .d (.int .i64 a2)] (fun y => y = E_Bool r) := by
  refine Go.VC.Spec.of_xc (args := [.d (.sl (a0.map Task.enc)), .d (.int .i64 a1), .d (.int .i64 a2)]) (fn := Try.f49) tab ⟨[(0, [0, 1, 2]), (1, [1, 2, 9, 10, 11]), (2, [1, 2, 9, 10, 11, 12]), (3, [1, 2, 8, 9, 10, 11]), (4, [1, 2, 9, 10, 11, 23]), (5, [6]), (6, [1, 2, 9, 10, 11]), (7, [6])], [], [100023], []⟩ 25 [.tmp 6] rfl rfl rfl rfl rfl rfl ?_
  refine lenS a0 Task.enc rfl ?_
  refine lpS (fun v1 => ⟨[(1, .l (.d (.int .i64 a1))), (2, .l (.d (.int .i64 a2))), (9, .l (.d (.sl (a0.map Task.enc)))), (10, .l (.d (.int .i64 (a0.length : Int)))), (11, .l (.d (.int .i64 v1)))], 25, [], [], []⟩) h (Weak.refl _) (fun _ nx1 hn1 v1 h => ?_)
  refine fkS h (fun h => ?_) (fun h => ?_)
  · refine ixS (enc := Task.enc) h rfl (fun _ => rfl) (fun x2 h => ?_)
    refine jnS (fun w3 => ⟨[(1, .l (.d (.int .i64 a1))), (2, .l (.d (.int .i64 a2))), (9, .l (.d (.sl (a0.map Task.enc)))), (10, .l (.d (.int .i64 (a0.length : Int)))), (11, .l (.d (.int .i64 v1))), (23, .l (.d (.bool w3)))], 25, [], [], []⟩) h (fun k3 hk3 h => ?_) (fun w3 h => ?_)
    · refine fkS h (fun h => ?_) (fun h => ?_)
      · refine caS (E := E_Bool) h (task_Uses_w x2 a2) rfl (fun _ => rfl) (fun x4 h => ?_)
        exact jeS hk3 h (Weak.refl _)
      exact jeS hk3 h (Weak.refl _)
    refine fkS h (fun h => ?_) (fun h => ?_)
    · exact rt (E := E_Bool) h rfl
    exact leS hn1 h (Weak.refl _)
  exact rt (E := E_Bool) h rfl

end Go.Proofs.Ytpoaeepmjfocjaa
namespace Go.Proofs.Ytpoaeepmjfocjaa
open Go Go.VC
noncomputable def block_Of (a0 : List Task) (a1 : Int) : Option (Int × Int) :=
  bnd (task_All a0) fun x1 => fk (!x1) (some ((0 : Int), (1 : Int))) (lp (fun nx2 (v2 : Int × Int) => fk (decide (v2.2 < (a0.length : Int))) (jn (fun (w3 : Int) => nx2 (w3, (wr (v2.2 + (1 : Int))))) (fun k3 => ix a0 v2.2 fun x4 => fk (decide (x4.D ≤ a1)) (k3 v2.1) (lp (fun nx5 (v5 : Int × Int) => fk (decide (v5.2 < (x4.Secs.length : Int))) (ix x4.Secs v5.2 fun x6 => jn (fun (w7 : Bool) => fk w7 (nx5 (x6.Len, (wr (v5.2 + (1 : Int))))) (nx5 (v5.1, (wr (v5.2 + (1 : Int)))))) (fun k7 => fk (decide (x6.Len > v5.1)) (bnd (block_shared a0 a1 x6.Res) fun x8 => k7 x8) (k7 false))) (k3 v5.1)) FU (v2.1, (0 : Int))))) (some (v2.1, (0 : Int)))) FU ((0 : Int), (0 : Int)))
theorem block_Of_w (a0 : List Task) (a1 : Int) (r : Int × Int) (h : block_Of a0 a1 = some r) : Go.VC.Spec Try.prog 35 [.d (.sl (a0.map Task.enc)), .d (.int .i64 a1)] (fun y => y = E_Int_Int r) := by
  refine Go.VC.Spec.of_xc (args := [.d (.sl (a0.map Task.enc)), .d (.int .i64 a1)]) (fn := Try.f35) tab ⟨[(0, [2, 3]), (1, [2, 3, 14]), (2, [4, 5]), (3, [2, 3, 6]), (4, [2, 3, 6, 7]), (5, [3, 6, 7, 16, 17, 18]), (6, [3, 6, 7, 16, 17, 18, 19]), (7, [3, 6, 7, 9, 16, 17, 18]), (8, [3, 6, 7, 9, 16, 17, 18, 25]), (9, [3, 6, 7, 16, 17, 18, 27, 28, 29]), (10, [3, 6, 7, 16, 17, 18, 27, 28, 29, 30]), (11, [3, 6, 7, 11, 16, 17, 18, 27, 28, 29]), (12, [3, 6, 7, 16, 17, 18, 27, 28, 29]), (13, [3, 6, 7, 16, 17, 18, 27, 28, 29]), (14, [3, 6, 7, 16, 17, 18]), (15, [4, 5])], [], [14], []⟩ 39 [.tmp 4, .tmp 5] rfl rfl rfl rfl rfl rfl ?_
  refine caS (E := E_Bool) h (task_All_w a0) rfl (fun _ => rfl) (fun x1 h => ?_)
  refine fkS h (fun h => ?_) (fun h => ?_)
  · exact rt (E := E_Int_Int) h rfl
  refine lenS a0 Task.enc rfl ?_
  refine lpS (fun v2 => ⟨[(3, .l (.ptr 4 0)), (6, .l (.ptr 7 0)), (7, .l (.func 48 [.k 7, .k 3, .k 4])), (16, .l (.d (.sl (a0.map Task.enc)))), (17, .l (.d (.int .i64 (a0.length : Int)))), (18, .l (.d (.int .i64 v2.2)))], 39, [], [(3, [.d (.sl (a0.map Task.enc))]), (4, [.d (.int .i64 a1)]), (7, [.d (.int .i64 v2.1)])], []⟩) h (Weak.refl _) (fun _ nx2 hn2 v2 h => ?_)
  refine fkS h (fun h => ?_) (fun h => ?_)
  · refine jnS (fun w3 => ⟨[(3, .l (.ptr 4 0)), (6, .l (.ptr 7 0)), (7, .l (.func 48 [.k 7, .k 3, .k 4])), (16, .l (.d (.sl (a0.map Task.enc)))), (17, .l (.d (.int .i64 (a0.length : Int)))), (18, .l (.d (.int .i64 v2.2)))], 39, [], [(3, [.d (.sl (a0.map Task.enc))]), (4, [.d (.int .i64 a1)]), (7, [.d (.int .i64 w3)])], []⟩) h (fun k3 hk3 h => ?_) (fun w3 h => ?_)
    · refine ixS (enc := Task.enc) h rfl (fun _ => rfl) (fun x4 h => ?_)
      refine fkS h (fun h => ?_) (fun h => ?_)
      · exact jeS hk3 h (Weak.trans (Weak.keepS _ [3, 6, 7, 16, 17, 18]) (Weak.refl _))
      refine lenS x4.Secs Sec.enc rfl ?_
      refine lpS (fun v5 => ⟨[(3, .l (.ptr 4 0)), (6, .l (.ptr 7 0)), (7, .l (.func 48 [.k 7, .k 3, .k 4])), (16, .l (.d (.sl (a0.map Task.enc)))), (17, .l (.d (.int .i64 (a0.length : Int)))), (18, .l (.d (.int .i64 v2.2))), (27, .l (.d (.sl (x4.Secs.map Sec.enc)))), (28, .l (.d (.int .i64 (x4.Secs.length : Int)))), (29, .l (.d (.int .i64 v5.2)))], 39, [], [(3, [.d (.sl (a0.map Task.enc))]), (4, [.d (.int .i64 a1)]), (7, [.d (.int .i64 v5.1)])], []⟩) h (Weak.refl _) (fun _ nx5 hn5 v5 h => ?_)
      refine fkS h (fun h => ?_) (fun h => ?_)
      · refine ixS (enc := Sec.enc) h rfl (fun _ => rfl) (fun x6 h => ?_)
        refine inS (fn := Try.f48) tab ⟨[(0, [1, 2, 3, 4]), (1, [1, 4, 15]), (2, [])], [], [100015], []⟩ 18 [] rfl rfl rfl rfl rfl rfl ?_
        refine jnS (fun w7 => ⟨[(1, .l (.ptr 7 0)), (4, .l (.ptr 1005 0)), (15, .l (.d (.bool w7)))], 18, [⟨[(34, .agg [.d (.int .i64 x6.Res), .d (.int .i64 x6.At), .d (.int .i64 x6.Len)]), (33, .l (.func 48 [.k 7, .k 3, .k 4])), (3, .l (.ptr 4 0)), (6, .l (.ptr 7 0)), (7, .l (.func 48 [.k 7, .k 3, .k 4])), (11, .l (.ptr 12 0)), (16, .l (.d (.sl (a0.map Task.enc)))), (17, .l (.d (.int .i64 (a0.length : Int)))), (18, .l (.d (.int .i64 v2.2))), (27, .l (.d (.sl (x4.Secs.map Sec.enc)))), (28, .l (.d (.int .i64 (x4.Secs.length : Int)))), (29, .l (.d (.int .i64 v5.2)))], 39⟩], [(3, [.d (.sl (a0.map Task.enc))]), (4, [.d (.int .i64 a1)]), (7, [.d (.int .i64 v5.1)]), (12, [.d (.int .i64 x6.Res), .d (.int .i64 x6.At), .d (.int .i64 x6.Len)]), (1005, [.d (.int .i64 x6.Res), .d (.int .i64 x6.At), .d (.int .i64 x6.Len)])], []⟩) h (fun k7 hk7 h => ?_) (fun w7 h => ?_)
        · refine fkS h (fun h => ?_) (fun h => ?_)
          · refine caS (E := E_Bool) h (block_shared_w a0 a1 x6.Res) rfl (fun _ => rfl) (fun x8 h => ?_)
            exact jeS hk7 h (Weak.refl _)
          exact jeS hk7 h (Weak.refl _)
        refine fkS h (fun h => ?_) (fun h => ?_)
        · exact leS hn5 h (Weak.refl _)
        exact leS hn5 h (Weak.refl _)
      exact jeS hk3 h (Weak.trans (Weak.keepS _ [3, 6, 7, 16, 17, 18]) (Weak.refl _))
    exact leS hn2 h (Weak.refl _)
  exact rt (E := E_Int_Int) h rfl

end Go.Proofs.Ytpoaeepmjfocjaa
namespace Go.Proofs.Ytpoaeepmjfocjaa
open Go Go.VC
noncomputable def block_Steps (a0 : List Task) : Option ((List Int) × Int) :=
  bnd (task_All a0) fun x1 => fk (!x1) (some ([], (1 : Int))) (lp (fun nx2 (v2 : (List Int) × Int) => fk (decide (v2.2 < (a0.length : Int))) (jn (fun (w3 : List Int) => nx2 (w3, (wr (v2.2 + (1 : Int))))) (fun k3 => ix a0 v2.2 fun x4 => lp (fun nx5 (v5 : Int) => jn (fun (w6 : Bool) => fk w6 (nx5 (wr (v5 + (1 : Int)))) (jn (fun (w8 : Bool) => fk w8 (ck (decide ((0 : Int) ≤ (0 : Int)) && decide ((0 : Int) ≤ v5) && decide (v5 ≤ (v2.1.length : Int))) (ck (decide ((0 : Int) ≤ v5) && decide (v5 ≤ (v2.1.length : Int)) && decide ((v2.1.length : Int) ≤ (v2.1.length : Int))) (ck (decide ((([x4.D] : List Int).length + ((v2.1.take ((v2.1.length : Int).toNat)).drop v5.toNat).length) * 8 ≤ 140737488355328)) (ck (decide (0 < (([x4.D] : List Int) ++ ((v2.1.take ((v2.1.length : Int).toNat)).drop v5.toNat)).length) && decide (v5.toNat ≤ v2.1.length) && decide ((v5.toNat + (([x4.D] : List Int) ++ ((v2.1.take ((v2.1.length : Int).toNat)).drop v5.toNat)).length) * 8 ≤ 140737488355328)) (k3 (v2.1.take v5.toNat ++ (([x4.D] : List Int) ++ ((v2.1.take ((v2.1.length : Int).toNat)).drop v5.toNat)))))))) (k3 v2.1)) (fun k8 => fk (decide (v5 = (v2.1.length : Int))) (k8 true) (ck (decide (0 ≤ v5) && decide (v5 < (v2.1.length : Int))) (ox v2.1 v5.toNat fun x9 => k8 (!decide (x9 = x4.D))))))) (fun k6 => fk (decide (v5 < (v2.1.length : Int))) (ck (decide (0 ≤ v5) && decide (v5 < (v2.1.length : Int))) (ox v2.1 v5.toNat fun x7 => k6 (decide (x7 < x4.D)))) (k6 false))) FU (0 : Int))) (some (v2.1, (0 : Int)))) FU ([], (0 : Int)))
theorem block_Steps_w (a0 : List Task) (r : (List Int) × Int) (h : block_Steps a0 = some r) : Go.VC.Spec Try.prog 36 [.d (.sl (a0.map Task.enc))] (fun y => y = E_ListInt_Int r) := by
  refine Go.VC.Spec.of_xc (args := [.d (.sl (a0.map Task.enc))]) (fn := Try.f36) tab ⟨[(0, [0]), (1, [0, 10]), (2, [2, 3]), (3, [0, 4]), (4, [4, 11, 12, 13]), (5, [4, 11, 12, 13, 14]), (6, [4, 6, 11, 12, 13]), (7, [4, 6, 7, 11, 12, 13]), (8, [4, 6, 7, 11, 12, 13, 29]), (9, [4, 6, 7, 11, 12, 13]), (10, [4, 6, 7, 11, 12, 13, 44]), (11, [4, 11, 12, 13]), (12, [4, 11, 12, 13]), (13, [2, 3])], [], [100029, 100044, 12], []⟩ 59 [.tmp 2, .tmp 3] rfl rfl rfl rfl rfl rfl ?_
  refine caS (E := E_Bool) h (task_All_w a0) rfl (fun _ => rfl) (fun x1 h => ?_)
  refine fkS h (fun h => ?_) (fun h => ?_)
  · exact rt (E := E_ListInt_Int) h rfl
  refine lenS a0 Task.enc rfl ?_
  refine lpS (fun v2 => ⟨[(4, .l (.own 5)), (11, .l (.d (.sl (a0.map Task.enc)))), (12, .l (.d (.int .i64 (a0.length : Int)))), (13, .l (.d (.int .i64 v2.2)))], 59, [], [], [(5, 3, 1, v2.1.map (eI .i64))]⟩) h (Weak.trans (Weak.nilO _ 4 5 3 1 rfl) (Weak.refl _)) (fun _ nx2 hn2 v2 h => ?_)
  refine fkS h (fun h => ?_) (fun h => ?_)
  · refine jnS (fun w3 => ⟨[(4, .l (.own 5)), (11, .l (.d (.sl (a0.map Task.enc)))), (12, .l (.d (.int .i64 (a0.length : Int)))), (13, .l (.d (.int .i64 v2.2)))], 59, [], [], [(5, 3, 1, w3.map (eI .i64))]⟩) h (fun k3 hk3 h => ?_) (fun w3 h => ?_)
    · refine ixS (enc := Task.enc) h rfl (fun _ => rfl) (fun x4 h => ?_)
      refine lpS (fun v5 => ⟨[(4, .l (.own 5)), (6, .l (.ptr 7 0)), (7, .l (.d (.int .i64 v5))), (11, .l (.d (.sl (a0.map Task.enc)))), (12, .l (.d (.int .i64 (a0.length : Int)))), (13, .l (.d (.int .i64 v2.2)))], 59, [], [(7, [.d (.int .i64 x4.C), .d (.int .i64 x4.D), .d (.int .i64 x4.T), .d (.sl (x4.Secs.map Sec.enc))])], [(5, 3, 1, v2.1.map (eI .i64))]⟩) h (Weak.refl _) (fun _ nx5 hn5 v5 h => ?_)
      refine jnS (fun w6 => ⟨[(4, .l (.own 5)), (6, .l (.ptr 7 0)), (7, .l (.d (.int .i64 v5))), (11, .l (.d (.sl (a0.map Task.enc)))), (12, .l (.d (.int .i64 (a0.length : Int)))), (13, .l (.d (.int .i64 v2.2))), (29, .l (.d (.bool w6)))], 59, [], [(7, [.d (.int .i64 x4.C), .d (.int .i64 x4.D), .d (.int .i64 x4.T), .d (.sl (x4.Secs.map Sec.enc))])], [(5, 3, 1, v2.1.map (eI .i64))]⟩) h (fun k6 hk6 h => ?_) (fun w6 h => ?_)
      · refine ⟨13, ?_⟩
        refine lenS v2.1 (eI .i64) rfl ?_
        refine fkS h (fun h => ?_) (fun h => ?_)
        · refine ioS (enc := (eI .i64)) h rfl (fun h => ?_)
          refine oxS (enc := (eI .i64)) h rfl (fun x7 h => ?_)
          refine drS (by kernel_rfl) ?_
          exact jeS hk6 h (Weak.refl _)
        refine drS (by kernel_rfl) ?_
        exact jeS hk6 h (Weak.refl _)
      refine fkS h (fun h => ?_) (fun h => ?_)
      · exact leS hn5 h (Weak.refl _)
      refine jnS (fun w8 => ⟨[(4, .l (.own 5)), (6, .l (.ptr 7 0)), (7, .l (.d (.int .i64 v5))), (11, .l (.d (.sl (a0.map Task.enc)))), (12, .l (.d (.int .i64 (a0.length : Int)))), (13, .l (.d (.int .i64 v2.2))), (44, .l (.d (.bool w8)))], 59, [], [(7, [.d (.int .i64 x4.C), .d (.int .i64 x4.D), .d (.int .i64 x4.T), .d (.sl (x4.Secs.map Sec.enc))])], [(5, 3, 1, v2.1.map (eI .i64))]⟩) h (fun k8 hk8 h => ?_) (fun w8 h => ?_)
      · refine ⟨13, ?_⟩
        refine lenS v2.1 (eI .i64) rfl ?_
        refine fkS h (fun h => ?_) (fun h => ?_)
        · refine drS (by kernel_rfl) ?_
          exact jeS hk8 h (Weak.refl _)
        refine ioS (enc := (eI .i64)) h rfl (fun h => ?_)
        refine oxS (enc := (eI .i64)) h rfl (fun x9 h => ?_)
        refine drS (by kernel_rfl) ?_
        exact jeS hk8 h (Weak.refl _)
      refine fkS h (fun h => ?_) (fun h => ?_)
      · refine ⟨11, ?_⟩
        refine soS (enc := (eI .i64)) h rfl rfl (.inr rfl) (fun h => ?_)
        refine liS ([x4.D] : List Int) (eI .i64) rfl rfl ?_
        refine soS (enc := (eI .i64)) h rfl rfl (.inl rfl) (fun h => ?_)
        refine apS (enc := (eI .i64)) (l1 := ([x4.D] : List Int)) (l2 := (v2.1.take ((v2.1.length : Int).toNat)).drop v5.toNat) h rfl (map_td _ _ _ _) (fun _ => rfl) (fun h => ?_)
        refine drS (by kernel_rfl) ?_
        refine avS (enc := (eI .i64)) (l1 := v2.1) (l2 := ([x4.D] : List Int) ++ ((v2.1.take ((v2.1.length : Int).toNat)).drop v5.toNat)) h rfl rfl rfl (fun _ => rfl) (fun h => ?_)
        exact jeS hk3 h (Weak.refl _)
      exact jeS hk3 h (Weak.trans (Weak.keepS _ [4, 11, 12, 13]) (Weak.refl _))
    exact leS hn2 h (Weak.refl _)
  exact rt (E := E_ListInt_Int) h rfl

end Go.Proofs.Ytpoaeepmjfocjaa
namespace Go.Proofs.Ytpoaeepmjfocjaa
open Go Go.VC
noncomputable def law08_knows  : Option Bool :=
  bnd (block_Of ([⟨(1 : Int), (4 : Int), (9 : Int), ([⟨(0 : Int), (0 : Int), (1 : Int)⟩] : List Sec)⟩, ⟨(5 : Int), (9 : Int), (9 : Int), ([⟨(0 : Int), (1 : Int), (3 : Int)⟩] : List Sec)⟩] : List Task) (3 : Int)) fun x1 => bnd (block_Of ([⟨(1 : Int), (4 : Int), (9 : Int), ([⟨(0 : Int), (0 : Int), (1 : Int)⟩] : List Sec)⟩, ⟨(5 : Int), (9 : Int), (9 : Int), ([⟨(0 : Int), (1 : Int), (3 : Int)⟩] : List Sec)⟩] : List Task) (4 : Int)) fun x2 => bnd (block_Of ([⟨(1 : Int), (4 : Int), (9 : Int), ([⟨(0 : Int), (0 : Int), (1 : Int)⟩] : List Sec)⟩, ⟨(5 : Int), (9 : Int), (9 : Int), ([⟨(0 : Int), (1 : Int), (3 : Int)⟩] : List Sec)⟩] : List Task) (8 : Int)) fun x3 => bnd (block_Of ([⟨(1 : Int), (4 : Int), (9 : Int), ([⟨(0 : Int), (0 : Int), (1 : Int)⟩] : List Sec)⟩, ⟨(5 : Int), (9 : Int), (9 : Int), ([⟨(0 : Int), (1 : Int), (3 : Int)⟩] : List Sec)⟩] : List Task) (9 : Int)) fun x4 => bnd (block_Steps ([⟨(1 : Int), (4 : Int), (9 : Int), ([⟨(0 : Int), (0 : Int), (1 : Int)⟩] : List Sec)⟩, ⟨(5 : Int), (9 : Int), (9 : Int), ([⟨(0 : Int), (1 : Int), (3 : Int)⟩] : List Sec)⟩] : List Task)) fun x5 => fk (decide (x1.1 = (0 : Int))) (fk (decide (x1.2 = (0 : Int))) (fk (decide (x2.1 = (3 : Int))) (fk (decide (x2.2 = (0 : Int))) (fk (decide (x3.1 = (3 : Int))) (fk (decide (x3.2 = (0 : Int))) (fk (decide (x4.1 = (0 : Int))) (fk (decide (x4.2 = (0 : Int))) (fk (decide ((x5.1.length : Int) = (2 : Int))) (ix x5.1 (0 : Int) fun x6 => fk (decide (x6 = (4 : Int))) (ix x5.1 (1 : Int) fun x7 => fk (decide (x7 = (9 : Int))) (some (decide (x5.2 = (0 : Int)))) (some false)) (some false)) (some false)) (some false)) (some false)) (some false)) (some false)) (some false)) (some false)) (some false)) (some false)
theorem law08_knows_w  (r : Bool) (h : law08_knows = some r) : Go.VC.Spec Try.prog 34 [] (fun y => y = E_Bool r) := by
  refine Go.VC.Spec.of_xc (args := []) (fn := Try.f34) tab ⟨[(0, []), (1, [1]), (2, [1, 2, 3]), (3, [1, 2, 3, 4, 5]), (4, [1, 2, 3, 4, 5, 6, 7]), (5, [1, 2, 3, 4, 5, 6, 7, 8, 9]), (6, [2, 3, 4, 5, 6, 7, 8, 9, 10, 11]), (7, [0])], [], [], [(18, [14, 17])]⟩ 95 [.tmp 0] rfl rfl rfl rfl rfl rfl ?_
  refine liS ([⟨(0 : Int), (0 : Int), (1 : Int)⟩] : List Sec) Sec.enc rfl rfl ?_
  refine liS ([⟨(0 : Int), (1 : Int), (3 : Int)⟩] : List Sec) Sec.enc rfl rfl ?_
  refine liS ([⟨(1 : Int), (4 : Int), (9 : Int), ([⟨(0 : Int), (0 : Int), (1 : Int)⟩] : List Sec)⟩, ⟨(5 : Int), (9 : Int), (9 : Int), ([⟨(0 : Int), (1 : Int), (3 : Int)⟩] : List Sec)⟩] : List Task) Task.enc rfl rfl ?_
  refine caS (E := E_Int_Int) h (block_Of_w ([⟨(1 : Int), (4 : Int), (9 : Int), ([⟨(0 : Int), (0 : Int), (1 : Int)⟩] : List Sec)⟩, ⟨(5 : Int), (9 : Int), (9 : Int), ([⟨(0 : Int), (1 : Int), (3 : Int)⟩] : List Sec)⟩] : List Task) (3 : Int)) rfl (fun _ => rfl) (fun x1 h => ?_)
  refine caS (E := E_Int_Int) h (block_Of_w ([⟨(1 : Int), (4 : Int), (9 : Int), ([⟨(0 : Int), (0 : Int), (1 : Int)⟩] : List Sec)⟩, ⟨(5 : Int), (9 : Int), (9 : Int), ([⟨(0 : Int), (1 : Int), (3 : Int)⟩] : List Sec)⟩] : List Task) (4 : Int)) rfl (fun _ => rfl) (fun x2 h => ?_)
  refine caS (E := E_Int_Int) h (block_Of_w ([⟨(1 : Int), (4 : Int), (9 : Int), ([⟨(0 : Int), (0 : Int), (1 : Int)⟩] : List Sec)⟩, ⟨(5 : Int), (9 : Int), (9 : Int), ([⟨(0 : Int), (1 : Int), (3 : Int)⟩] : List Sec)⟩] : List Task) (8 : Int)) rfl (fun _ => rfl) (fun x3 h => ?_)
  refine caS (E := E_Int_Int) h (block_Of_w ([⟨(1 : Int), (4 : Int), (9 : Int), ([⟨(0 : Int), (0 : Int), (1 : Int)⟩] : List Sec)⟩, ⟨(5 : Int), (9 : Int), (9 : Int), ([⟨(0 : Int), (1 : Int), (3 : Int)⟩] : List Sec)⟩] : List Task) (9 : Int)) rfl (fun _ => rfl) (fun x4 h => ?_)
  refine iceS 2 ?_
  refine ccS (E := E_ListInt_Int) h (block_Steps_w ([⟨(1 : Int), (4 : Int), (9 : Int), ([⟨(0 : Int), (0 : Int), (1 : Int)⟩] : List Sec)⟩, ⟨(5 : Int), (9 : Int), (9 : Int), ([⟨(0 : Int), (1 : Int), (3 : Int)⟩] : List Sec)⟩] : List Task)) rfl rfl (fun x5 h => ?_)
  refine fkS h (fun h => ?_) (fun h => ?_)
  · refine fkS h (fun h => ?_) (fun h => ?_)
    · refine fkS h (fun h => ?_) (fun h => ?_)
      · refine fkS h (fun h => ?_) (fun h => ?_)
        · refine fkS h (fun h => ?_) (fun h => ?_)
          · refine fkS h (fun h => ?_) (fun h => ?_)
            · refine fkS h (fun h => ?_) (fun h => ?_)
              · refine fkS h (fun h => ?_) (fun h => ?_)
                · refine lenS x5.1 (eI .i64) rfl ?_
                  refine fkS h (fun h => ?_) (fun h => ?_)
                  · refine ixS (enc := (eI .i64)) h rfl (fun _ => rfl) (fun x6 h => ?_)
                    refine fkS h (fun h => ?_) (fun h => ?_)
                    · refine ixS (enc := (eI .i64)) h rfl (fun _ => rfl) (fun x7 h => ?_)
                      refine fkS h (fun h => ?_) (fun h => ?_)
                      · exact rt (E := E_Bool) h rfl
                      exact rt (E := E_Bool) h rfl
                    exact rt (E := E_Bool) h rfl
                  exact rt (E := E_Bool) h rfl
                exact rt (E := E_Bool) h rfl
              exact rt (E := E_Bool) h rfl
            exact rt (E := E_Bool) h rfl
          exact rt (E := E_Bool) h rfl
        exact rt (E := E_Bool) h rfl
      exact rt (E := E_Bool) h rfl
    exact rt (E := E_Bool) h rfl
  exact rt (E := E_Bool) h rfl

end Go.Proofs.Ytpoaeepmjfocjaa
namespace Go.Proofs.Ytpoaeepmjfocjaa
open Go Go.VC
noncomputable def law08_BlockMore (a0 : List Task) (a1 : Task) (a2 : Int) : Option Bool :=
  ck (decide ((([] : List Task).length + a0.length) * 48 ≤ 140737488355328)) (ck (decide (((([] : List Task) ++ a0).length + ([a1] : List Task).length) * 48 ≤ 140737488355328)) (jn (fun (w1 : Bool) => fk w1 (bnd law08_knows fun x4 => some x4) (bnd (block_Of a0 a2) fun x5 => bnd (block_Of ((([] : List Task) ++ a0) ++ ([a1] : List Task)) a2) fun x6 => lp (fun nx7 (v7 : Bool × Int) => fk (decide (v7.2 < (((([] : List Task) ++ a0) ++ ([a1] : List Task)).length : Int))) (lp (fun nx8 (v8 : Bool × Int) => ck (decide (0 ≤ v7.2) && decide (v7.2 < (((([] : List Task) ++ a0) ++ ([a1] : List Task)).length : Int))) (ox ((([] : List Task) ++ a0) ++ ([a1] : List Task)) v7.2.toNat fun x9 => fk (decide (v8.2 < (x9.Secs.length : Int))) (jn (fun (w10 : Bool) => nx8 (w10, (wr (v8.2 + (1 : Int))))) (fun k10 => fk v8.1 (k10 true) (ck (decide (0 ≤ v7.2) && decide (v7.2 < (((([] : List Task) ++ a0) ++ ([a1] : List Task)).length : Int))) (ox ((([] : List Task) ++ a0) ++ ([a1] : List Task)) v7.2.toNat fun x11 => ix x11.Secs v8.2 fun x12 => k10 (decide (x12.Len = x6.1)))))) (nx7 (v8.1, (wr (v7.2 + (1 : Int))))))) FU (v7.1, (0 : Int))) (fk (decide (x5.2 = (0 : Int))) (fk (decide (x6.2 = (0 : Int))) (fk (decide (x5.1 ≤ x6.1)) (fk v7.1 (bnd law08_knows fun x13 => some x13) (some false)) (some false)) (some false)) (some false))) FU ((decide (x6.1 = (0 : Int))), (0 : Int)))) (fun k1 => bnd (law05_Great ((([] : List Task) ++ a0) ++ ([a1] : List Task))) fun x2 => fk x2 (k1 true) (bnd (ref05_All ((([] : List Task) ++ a0) ++ ([a1] : List Task))) fun x3 => k1 (!x3)))))
theorem law08_BlockMore_w (a0 : List Task) (a1 : Task) (a2 : Int) (r : Bool) (h : law08_BlockMore a0 a1 a2 = some r) : Go.VC.Spec Try.prog 12 [.d (.sl (a0.map Task.enc)), .agg (Task.enc a1), .d (.int .i64 a2)] (fun y => y = E_Bool r) := by
  refine Go.VC.Spec.of_xc (args := [.d (.sl (a0.map Task.enc)), .agg (Task.enc a1), .d (.int .i64 a2)]) (fn := Try.f12) tab ⟨[(0, [0, 2, 4]), (1, [0, 2, 7]), (2, [0, 2, 7, 27]), (3, [6]), (4, [2, 7, 8, 9]), (5, [7, 8, 9, 10, 11]), (6, [7, 8, 9, 10, 11, 12]), (7, [7, 8, 9, 10, 11, 12, 13]), (8, [7, 8, 9, 10, 11, 12, 13, 46]), (9, [7, 8, 9, 10, 11, 12, 13]), (10, [7, 8, 9, 10, 11, 12, 13, 14]), (11, [7, 8, 9, 10, 11, 12, 13, 14, 56]), (12, [7, 8, 9, 10, 11, 12, 13, 14]), (13, [7, 8, 9, 10, 11, 12, 13, 14]), (14, [6])], [], [100027, 12], []⟩ 90 [.tmp 6] rfl rfl rfl rfl rfl rfl ?_
  refine ⟨5, ?_⟩
  refine liS ([] : List Task) Task.enc rfl rfl ?_
  refine apS (enc := Task.enc) (l1 := ([] : List Task)) (l2 := a0) h rfl rfl (fun _ => rfl) (fun h => ?_)
  refine liS ([a1] : List Task) Task.enc rfl rfl ?_
  refine drS (by kernel_rfl) ?_
  refine apS (enc := Task.enc) (l1 := ([] : List Task) ++ a0) (l2 := ([a1] : List Task)) h rfl rfl (fun _ => rfl) (fun h => ?_)
  refine jnS (fun w1 => ⟨[(0, .l (.d (.sl (a0.map Task.enc)))), (2, .l (.d (.int .i64 a2))), (7, .l (.own 8)), (27, .l (.d (.bool w1)))], 90, [], [], [(8, 24, 4, ((([] : List Task) ++ a0) ++ ([a1] : List Task)).map Task.enc)]⟩) h (fun k1 hk1 h => ?_) (fun w1 h => ?_)
  · refine caS (E := E_Bool) h (law05_Great_w ((([] : List Task) ++ a0) ++ ([a1] : List Task))) rfl (fun _ => rfl) (fun x2 h => ?_)
    refine fkS h (fun h => ?_) (fun h => ?_)
    · exact jeS hk1 h (Weak.refl _)
    refine caS (E := E_Bool) h (ref05_All_w ((([] : List Task) ++ a0) ++ ([a1] : List Task))) rfl (fun _ => rfl) (fun x3 h => ?_)
    exact jeS hk1 h (Weak.refl _)
  refine fkS h (fun h => ?_) (fun h => ?_)
  · refine caS (E := E_Bool) h law08_knows_w rfl (fun _ => rfl) (fun x4 h => ?_)
    exact rt (E := E_Bool) h rfl
  refine caS (E := E_Int_Int) h (block_Of_w a0 a2) rfl (fun _ => rfl) (fun x5 h => ?_)
  refine caS (E := E_Int_Int) h (block_Of_w ((([] : List Task) ++ a0) ++ ([a1] : List Task)) a2) rfl (fun _ => rfl) (fun x6 h => ?_)
  refine lpS (fun v7 => ⟨[(7, .l (.own 8)), (8, .l (.d (.int .i64 x5.1))), (9, .l (.d (.int .i64 x5.2))), (10, .l (.d (.int .i64 x6.1))), (11, .l (.d (.int .i64 x6.2))), (12, .l (.d (.bool v7.1))), (13, .l (.d (.int .i64 v7.2)))], 90, [], [], [(8, 24, 4, ((([] : List Task) ++ a0) ++ ([a1] : List Task)).map Task.enc)]⟩) h (Weak.refl _) (fun _ nx7 hn7 v7 h => ?_)
  refine lenS ((([] : List Task) ++ a0) ++ ([a1] : List Task)) Task.enc rfl ?_
  refine fkS h (fun h => ?_) (fun h => ?_)
  · refine lpS (fun v8 => ⟨[(7, .l (.own 8)), (8, .l (.d (.int .i64 x5.1))), (9, .l (.d (.int .i64 x5.2))), (10, .l (.d (.int .i64 x6.1))), (11, .l (.d (.int .i64 x6.2))), (12, .l (.d (.bool v8.1))), (13, .l (.d (.int .i64 v7.2))), (14, .l (.d (.int .i64 v8.2)))], 90, [], [], [(8, 24, 4, ((([] : List Task) ++ a0) ++ ([a1] : List Task)).map Task.enc)]⟩) h (Weak.refl _) (fun _ nx8 hn8 v8 h => ?_)
    refine ioS (enc := Task.enc) h rfl (fun h => ?_)
    refine oxS (enc := Task.enc) h rfl (fun x9 h => ?_)
    refine lenS x9.Secs Sec.enc rfl ?_
    refine fkS h (fun h => ?_) (fun h => ?_)
    · refine jnS (fun w10 => ⟨[(7, .l (.own 8)), (8, .l (.d (.int .i64 x5.1))), (9, .l (.d (.int .i64 x5.2))), (10, .l (.d (.int .i64 x6.1))), (11, .l (.d (.int .i64 x6.2))), (12, .l (.d (.bool w10))), (13, .l (.d (.int .i64 v7.2))), (14, .l (.d (.int .i64 v8.2)))], 90, [], [], [(8, 24, 4, ((([] : List Task) ++ a0) ++ ([a1] : List Task)).map Task.enc)]⟩) h (fun k10 hk10 h => ?_) (fun w10 h => ?_)
      · refine fkS h (fun h => ?_) (fun h => ?_)
        · exact jeS hk10 h (Weak.refl _)
        refine ioS (enc := Task.enc) h rfl (fun h => ?_)
        refine oxS (enc := Task.enc) h rfl (fun x11 h => ?_)
        refine ixS (enc := Sec.enc) h rfl (fun _ => rfl) (fun x12 h => ?_)
        exact jeS hk10 h (Weak.refl _)
      exact leS hn8 h (Weak.refl _)
    exact leS hn7 h (Weak.refl _)
  refine fkS h (fun h => ?_) (fun h => ?_)
  · refine fkS h (fun h => ?_) (fun h => ?_)
    · refine fkS h (fun h => ?_) (fun h => ?_)
      · refine fkS h (fun h => ?_) (fun h => ?_)
        · refine caS (E := E_Bool) h law08_knows_w rfl (fun _ => rfl) (fun x13 h => ?_)
          exact rt (E := E_Bool) h rfl
        exact rt (E := E_Bool) h rfl
      exact rt (E := E_Bool) h rfl
    exact rt (E := E_Bool) h rfl
  exact rt (E := E_Bool) h rfl

end Go.Proofs.Ytpoaeepmjfocjaa
namespace Go.Proofs.Ytpoaeepmjfocjaa
open Go Go.VC
theorem andT {α : Type} {p : α → Prop} (h : ∃ x, p x) : ∃ x, p x ∧ True := h.imp fun _ h => ⟨h, trivial⟩
def wfI (k : IntKind) (n : Int) : Prop := (Lit.int k n).wf = true
abbrev tyT := T
def Sec.wf (x : Sec) : Prop := wfI .i64 x.Res ∧ wfI .i64 x.At ∧ wfI .i64 x.Len
theorem Sec.of {n : Nat} {ds : List Go.VC.D} (h : ShD tyT n 31 ds) : ∃ x : Sec, ds = x.enc ∧ x.wf := by
  obtain ⟨m, q0⟩ := h.st T31
  clear h
  obtain ⟨d0, r0, e0, h0, q1⟩ := q0.c
  obtain ⟨y0, z0, w0⟩ := (h0.i T3)
  obtain ⟨d1, r1, e1, h1, q2⟩ := q1.c
  obtain ⟨y1, z1, w1⟩ := (h1.i T3)
  obtain ⟨d2, r2, e2, h2, q3⟩ := q2.c
  obtain ⟨y2, z2, w2⟩ := (h2.i T3)
  subst e0 z0 e1 z1 e2 z2
  cases q3
  exact ⟨⟨y0, y1, y2⟩, rfl, w0, w1, w2⟩
def Task.wf (x : Task) : Prop := wfI .i64 x.C ∧ wfI .i64 x.D ∧ wfI .i64 x.T ∧ (x.Secs.length * 24 ≤ BB ∧ ∀ y1 ∈ x.Secs, Sec.wf y1)
theorem Task.of {n : Nat} {ds : List Go.VC.D} (h : ShD tyT n 24 ds) : ∃ x : Task, ds = x.enc ∧ x.wf := by
  obtain ⟨m, q0⟩ := h.st T24
  clear h
  obtain ⟨d0, r0, e0, h0, q1⟩ := q0.c
  obtain ⟨y0, z0, w0⟩ := (h0.i T3)
  obtain ⟨d1, r1, e1, h1, q2⟩ := q1.c
  obtain ⟨y1, z1, w1⟩ := (h1.i T3)
  obtain ⟨d2, r2, e2, h2, q3⟩ := q2.c
  obtain ⟨y2, z2, w2⟩ := (h2.i T3)
  obtain ⟨d3, r3, e3, h3, q4⟩ := q3.c
  obtain ⟨y3, z3, w3⟩ := (h3.l (f := Sec.enc) (W := (fun x => Sec.wf x)) T22 T31 (fun _ _ h => (Sec.of h)))
  subst e0 z0 e1 z1 e2 z2 e3 z3
  cases q4
  exact ⟨⟨y0, y1, y2, y3⟩, rfl, w0, w1, w2, w3⟩
end Go.Proofs.Ytpoaeepmjfocjaa
namespace Go.Proofs.Ytpoaeepmjfocjaa
open Go Go.VC
def PureBlockMore : Prop := ∀ (a0 : List Task) (a1 : Task) (a2 : Int), (a0.length * 48 ≤ BB ∧ ∀ y1 ∈ a0, Task.wf y1) → Task.wf a1 → wfI .i64 a2 → law08_BlockMore a0 a1 a2 = some true
end Go.Proofs.Ytpoaeepmjfocjaa
namespace Go.Proofs.Ytpoaeepmjfocjaa
open Go Go.VC
noncomputable def task_Held (a0 : Task) (a1 : Int) : Option (List Int) :=
  bnd (task_Right a0) fun x1 => fk (!x1) (some []) (lp (fun nx2 (v2 : (List Int) × Int) => fk (decide (v2.2 < (a0.Secs.length : Int))) (jn (fun (w3 : List Int) => nx2 (w3, (wr (v2.2 + (1 : Int))))) (fun k3 => ix a0.Secs v2.2 fun x4 => jn (fun (w5 : Bool) => fk w5 (ck (decide ((v2.1.length + ([x4.Res] : List Int).length) * 8 ≤ 140737488355328)) (k3 (v2.1 ++ ([x4.Res] : List Int)))) (k3 v2.1)) (fun k5 => fk (decide (x4.At < a1)) (k5 (decide (a1 < (wr (x4.At + x4.Len))))) (k5 false)))) (some v2.1)) FU ([], (0 : Int)))
theorem task_Held_w (a0 : Task) (a1 : Int) (r : List Int) (h : task_Held a0 a1 = some r) : Go.VC.Spec Try.prog 16 [.agg (Task.enc a0), .d (.int .i64 a1)] (fun y => y = E_ListInt r) := by
  refine Go.VC.Spec.of_xc (args := [.agg (Task.enc a0), .d (.int .i64 a1)]) (fn := Try.f16) tab ⟨[(0, [1, 2]), (1, [1, 2, 10]), (2, [4]), (3, [1, 2, 5]), (4, [1, 5, 12, 13, 14]), (5, [1, 5, 12, 13, 14, 15]), (6, [1, 5, 7, 12, 13, 14]), (7, [1, 5, 7, 12, 13, 14, 30]), (8, [1, 5, 12, 13, 14]), (9, [1, 5, 12, 13, 14]), (10, [4])], [], [100030, 9], []⟩ 38 [.tmp 4] rfl rfl rfl rfl rfl rfl ?_
  refine caS (E := E_Bool) h (task_Right_w a0) rfl (fun _ => rfl) (fun x1 h => ?_)
  refine fkS h (fun h => ?_) (fun h => ?_)
  · exact rt (E := E_ListInt) h rfl
  refine lenS a0.Secs Sec.enc rfl ?_
  refine lpS (fun v2 => ⟨[(1, .l (.d (.int .i64 a1))), (5, .l (.own 6)), (12, .l (.d (.sl (a0.Secs.map Sec.enc)))), (13, .l (.d (.int .i64 (a0.Secs.length : Int)))), (14, .l (.d (.int .i64 v2.2)))], 38, [], [], [(6, 3, 1, v2.1.map (eI .i64))]⟩) h (Weak.trans (Weak.nilO _ 5 6 3 1 rfl) (Weak.refl _)) (fun _ nx2 hn2 v2 h => ?_)
  refine fkS h (fun h => ?_) (fun h => ?_)
  · refine jnS (fun w3 => ⟨[(1, .l (.d (.int .i64 a1))), (5, .l (.own 6)), (12, .l (.d (.sl (a0.Secs.map Sec.enc)))), (13, .l (.d (.int .i64 (a0.Secs.length : Int)))), (14, .l (.d (.int .i64 v2.2)))], 38, [], [], [(6, 3, 1, w3.map (eI .i64))]⟩) h (fun k3 hk3 h => ?_) (fun w3 h => ?_)
    · refine ixS (enc := Sec.enc) h rfl (fun _ => rfl) (fun x4 h => ?_)
      refine jnS (fun w5 => ⟨[(1, .l (.d (.int .i64 a1))), (5, .l (.own 6)), (7, .l (.ptr 8 0)), (12, .l (.d (.sl (a0.Secs.map Sec.enc)))), (13, .l (.d (.int .i64 (a0.Secs.length : Int)))), (14, .l (.d (.int .i64 v2.2))), (30, .l (.d (.bool w5)))], 38, [], [(8, [.d (.int .i64 x4.Res), .d (.int .i64 x4.At), .d (.int .i64 x4.Len)])], [(6, 3, 1, v2.1.map (eI .i64))]⟩) h (fun k5 hk5 h => ?_) (fun w5 h => ?_)
      · refine fkS h (fun h => ?_) (fun h => ?_)
        · exact jeS hk5 h (Weak.refl _)
        exact jeS hk5 h (Weak.refl _)
      refine fkS h (fun h => ?_) (fun h => ?_)
      · refine liS ([x4.Res] : List Int) (eI .i64) rfl rfl ?_
        refine apS (enc := (eI .i64)) (l1 := v2.1) (l2 := ([x4.Res] : List Int)) h rfl rfl (fun _ => rfl) (fun h => ?_)
        exact jeS hk3 h (Weak.refl _)
      exact jeS hk3 h (Weak.trans (Weak.keepS _ [1, 5, 12, 13, 14]) (Weak.refl _))
    exact leS hn2 h (Weak.refl _)
  exact rt (E := E_ListInt) h rfl

end Go.Proofs.Ytpoaeepmjfocjaa
namespace Go.Proofs.Ytpoaeepmjfocjaa
open Go Go.VC
noncomputable def law05_knows  : Option Bool :=
  bnd (task_Held (⟨(5 : Int), (7 : Int), (9 : Int), ([⟨(0 : Int), (1 : Int), (3 : Int)⟩, ⟨(1 : Int), (2 : Int), (1 : Int)⟩] : List Sec)⟩) (2 : Int)) fun x1 => bnd (task_Held (⟨(5 : Int), (7 : Int), (9 : Int), ([⟨(0 : Int), (1 : Int), (3 : Int)⟩, ⟨(1 : Int), (2 : Int), (1 : Int)⟩] : List Sec)⟩) (3 : Int)) fun x2 => bnd (task_Right (⟨(5 : Int), (7 : Int), (9 : Int), ([⟨(0 : Int), (1 : Int), (3 : Int)⟩, ⟨(1 : Int), (2 : Int), (1 : Int)⟩] : List Sec)⟩)) fun x3 => fk x3 (fk (decide ((x1.length : Int) = (1 : Int))) (ix x1 (0 : Int) fun x4 => fk (decide (x4 = (0 : Int))) (fk (decide ((x2.length : Int) = (1 : Int))) (ix x2 (0 : Int) fun x5 => fk (decide (x5 = (0 : Int))) (bnd (task_Held (⟨(5 : Int), (7 : Int), (9 : Int), ([⟨(0 : Int), (1 : Int), (3 : Int)⟩, ⟨(1 : Int), (2 : Int), (1 : Int)⟩] : List Sec)⟩) (4 : Int)) fun x6 => fk (decide ((x6.length : Int) = (0 : Int))) (bnd (task_Uses (⟨(5 : Int), (7 : Int), (9 : Int), ([⟨(0 : Int), (1 : Int), (3 : Int)⟩, ⟨(1 : Int), (2 : Int), (1 : Int)⟩] : List Sec)⟩) (1 : Int)) fun x7 => fk x7 (bnd (task_Uses (⟨(5 : Int), (7 : Int), (9 : Int), ([⟨(0 : Int), (1 : Int), (3 : Int)⟩, ⟨(1 : Int), (2 : Int), (1 : Int)⟩] : List Sec)⟩) (2 : Int)) fun x8 => fk (!x8) (bnd (task_All ([⟨(5 : Int), (7 : Int), (9 : Int), ([⟨(0 : Int), (1 : Int), (3 : Int)⟩, ⟨(1 : Int), (2 : Int), (1 : Int)⟩] : List Sec)⟩] : List Task)) fun x9 => some x9) (some false)) (some false)) (some false)) (some false)) (some false)) (some false)) (some false)) (some false)
theorem law05_knows_w  (r : Bool) (h : law05_knows = some r) : Go.VC.Spec Try.prog 15 [] (fun y => y = E_Bool r) := by
  refine Go.VC.Spec.of_xc (args := []) (fn := Try.f15) tab ⟨[(0, []), (1, [1]), (2, [1, 2, 3]), (3, [0])], [(1, [7])], [], []⟩ 56 [.tmp 0] rfl rfl rfl rfl rfl rfl ?_
  refine liS ([⟨(0 : Int), (1 : Int), (3 : Int)⟩, ⟨(1 : Int), (2 : Int), (1 : Int)⟩] : List Sec) Sec.enc rfl rfl ?_
  refine ⟨3, ?_⟩
  refine dcS (E := E_ListInt) h (task_Held_w (⟨(5 : Int), (7 : Int), (9 : Int), ([⟨(0 : Int), (1 : Int), (3 : Int)⟩, ⟨(1 : Int), (2 : Int), (1 : Int)⟩] : List Sec)⟩) (2 : Int)) rfl (fun x1 h => ?_)
  refine drS (by kernel_rfl) ?_
  refine ccS (E := E_ListInt) h (task_Held_w (⟨(5 : Int), (7 : Int), (9 : Int), ([⟨(0 : Int), (1 : Int), (3 : Int)⟩, ⟨(1 : Int), (2 : Int), (1 : Int)⟩] : List Sec)⟩) (3 : Int)) rfl rfl (fun x2 h => ?_)
  refine caS (E := E_Bool) h (task_Right_w (⟨(5 : Int), (7 : Int), (9 : Int), ([⟨(0 : Int), (1 : Int), (3 : Int)⟩, ⟨(1 : Int), (2 : Int), (1 : Int)⟩] : List Sec)⟩)) rfl (fun _ => rfl) (fun x3 h => ?_)
  refine fkS h (fun h => ?_) (fun h => ?_)
  · refine lenS x1 (eI .i64) rfl ?_
    refine fkS h (fun h => ?_) (fun h => ?_)
    · refine ixS (enc := (eI .i64)) h rfl (fun _ => rfl) (fun x4 h => ?_)
      refine fkS h (fun h => ?_) (fun h => ?_)
      · refine lenS x2 (eI .i64) rfl ?_
        refine fkS h (fun h => ?_) (fun h => ?_)
        · refine ixS (enc := (eI .i64)) h rfl (fun _ => rfl) (fun x5 h => ?_)
          refine fkS h (fun h => ?_) (fun h => ?_)
          · refine ccS (E := E_ListInt) h (task_Held_w (⟨(5 : Int), (7 : Int), (9 : Int), ([⟨(0 : Int), (1 : Int), (3 : Int)⟩, ⟨(1 : Int), (2 : Int), (1 : Int)⟩] : List Sec)⟩) (4 : Int)) rfl rfl (fun x6 h => ?_)
            refine lenS x6 (eI .i64) rfl ?_
            refine fkS h (fun h => ?_) (fun h => ?_)
            · refine caS (E := E_Bool) h (task_Uses_w (⟨(5 : Int), (7 : Int), (9 : Int), ([⟨(0 : Int), (1 : Int), (3 : Int)⟩, ⟨(1 : Int), (2 : Int), (1 : Int)⟩] : List Sec)⟩) (1 : Int)) rfl (fun _ => rfl) (fun x7 h => ?_)
              refine fkS h (fun h => ?_) (fun h => ?_)
              · refine caS (E := E_Bool) h (task_Uses_w (⟨(5 : Int), (7 : Int), (9 : Int), ([⟨(0 : Int), (1 : Int), (3 : Int)⟩, ⟨(1 : Int), (2 : Int), (1 : Int)⟩] : List Sec)⟩) (2 : Int)) rfl (fun _ => rfl) (fun x8 h => ?_)
                refine fkS h (fun h => ?_) (fun h => ?_)
                · refine liS ([⟨(5 : Int), (7 : Int), (9 : Int), ([⟨(0 : Int), (1 : Int), (3 : Int)⟩, ⟨(1 : Int), (2 : Int), (1 : Int)⟩] : List Sec)⟩] : List Task) Task.enc rfl rfl ?_
                  refine caS (E := E_Bool) h (task_All_w ([⟨(5 : Int), (7 : Int), (9 : Int), ([⟨(0 : Int), (1 : Int), (3 : Int)⟩, ⟨(1 : Int), (2 : Int), (1 : Int)⟩] : List Sec)⟩] : List Task)) rfl (fun _ => rfl) (fun x9 h => ?_)
                  exact rt (E := E_Bool) h rfl
                exact rt (E := E_Bool) h rfl
              exact rt (E := E_Bool) h rfl
            exact rt (E := E_Bool) h rfl
          exact rt (E := E_Bool) h rfl
        exact rt (E := E_Bool) h rfl
      exact rt (E := E_Bool) h rfl
    exact rt (E := E_Bool) h rfl
  exact rt (E := E_Bool) h rfl

end Go.Proofs.Ytpoaeepmjfocjaa
namespace Go.Proofs.Ytpoaeepmjfocjaa
open Go Go.VC
noncomputable def law05_TaskOnce (a0 : Task) (a1 : Int) : Option Bool :=
  jn (fun (w1 : Bool) => fk w1 (bnd law05_knows fun x3 => some x3) (bnd (task_Held a0 a1) fun x4 => lp (fun nx5 (v5 : Int) => fk (decide (v5 < (x4.length : Int))) (lp (fun nx6 (v6 : Int) => fk (decide (v6 < v5)) (ix x4 v5 fun x7 => ix x4 v6 fun x8 => fk (decide (x7 = x8)) (some false) (nx6 (wr (v6 + (1 : Int))))) (ix x4 v5 fun x9 => bnd (task_Uses a0 x9) fun x10 => fk (!x10) (some false) (nx5 (wr (v5 + (1 : Int)))))) FU (0 : Int)) (bnd (task_Held a0 (0 : Int)) fun x11 => fk (decide ((x11.length : Int) = (0 : Int))) (bnd (task_Held a0 a0.C) fun x12 => fk (decide ((x12.length : Int) = (0 : Int))) (fk (decide (a1 > (0 : Int))) (fk (decide (a1 < a0.C)) (bnd law05_knows fun x13 => some x13) (fk (decide ((x4.length : Int) = (0 : Int))) (bnd law05_knows fun x14 => some x14) (some false))) (fk (decide ((x4.length : Int) = (0 : Int))) (bnd law05_knows fun x15 => some x15) (some false))) (some false)) (some false))) FU (0 : Int))) (fun k1 => fk (decide ((a0.Secs.length : Int) > (20 : Int))) (k1 true) (bnd (ref05_Right a0) fun x2 => k1 (!x2)))
theorem law05_TaskOnce_w (a0 : Task) (a1 : Int) (r : Bool) (h : law05_TaskOnce a0 a1 = some r) : Go.VC.Spec Try.prog 3 [.agg (Task.enc a0), .d (.int .i64 a1)] (fun y => y = E_Bool r) := by
  refine Go.VC.Spec.of_xc (args := [.agg (Task.enc a0), .d (.int .i64 a1)]) (fn := Try.f3) tab ⟨[(0, [1, 2]), (1, [1, 2, 16]), (2, [4]), (3, [1, 2, 5]), (4, [1, 2, 5, 6]), (5, [1, 2, 5, 6, 24]), (6, [1, 2, 5, 6]), (7, [1, 2, 5, 6, 7]), (8, [1, 2, 5, 6, 7, 29]), (9, [1, 2, 5, 6, 7]), (10, [1, 2, 5, 6, 7, 40]), (11, [4]), (12, [1, 2, 5, 6, 47]), (13, [4]), (14, [4])], [], [100016], []⟩ 78 [.tmp 4] rfl rfl rfl rfl rfl rfl ?_
  refine jnS (fun w1 => ⟨[(1, .l (.d (.int .i64 a1))), (2, .l (.ptr 3 0)), (16, .l (.d (.bool w1)))], 78, [], [(3, [.d (.int .i64 a0.C), .d (.int .i64 a0.D), .d (.int .i64 a0.T), .d (.sl (a0.Secs.map Sec.enc))])], []⟩) h (fun k1 hk1 h => ?_) (fun w1 h => ?_)
  · refine lenS a0.Secs Sec.enc rfl ?_
    refine fkS h (fun h => ?_) (fun h => ?_)
    · exact jeS hk1 h (Weak.refl _)
    refine caS (E := E_Bool) h (ref05_Right_w a0) rfl (fun _ => rfl) (fun x2 h => ?_)
    exact jeS hk1 h (Weak.refl _)
  refine fkS h (fun h => ?_) (fun h => ?_)
  · refine caS (E := E_Bool) h law05_knows_w rfl (fun _ => rfl) (fun x3 h => ?_)
    exact rt (E := E_Bool) h rfl
  refine ccS (E := E_ListInt) h (task_Held_w a0 a1) rfl rfl (fun x4 h => ?_)
  refine lpS (fun v5 => ⟨[(1, .l (.d (.int .i64 a1))), (2, .l (.ptr 3 0)), (5, .l (.d (.sl (x4.map (eI .i64))))), (6, .l (.d (.int .i64 v5)))], 78, [], [(3, [.d (.int .i64 a0.C), .d (.int .i64 a0.D), .d (.int .i64 a0.T), .d (.sl (a0.Secs.map Sec.enc))])], []⟩) h (Weak.refl _) (fun _ nx5 hn5 v5 h => ?_)
  refine lenS x4 (eI .i64) rfl ?_
  refine fkS h (fun h => ?_) (fun h => ?_)
  · refine lpS (fun v6 => ⟨[(1, .l (.d (.int .i64 a1))), (2, .l (.ptr 3 0)), (5, .l (.d (.sl (x4.map (eI .i64))))), (6, .l (.d (.int .i64 v5))), (7, .l (.d (.int .i64 v6)))], 78, [], [(3, [.d (.int .i64 a0.C), .d (.int .i64 a0.D), .d (.int .i64 a0.T), .d (.sl (a0.Secs.map Sec.enc))])], []⟩) h (Weak.refl _) (fun _ nx6 hn6 v6 h => ?_)
    refine fkS h (fun h => ?_) (fun h => ?_)
    · refine ⟨8, ?_⟩
      refine ixS (enc := (eI .i64)) h rfl (fun _ => rfl) (fun x7 h => ?_)
      refine ixS (enc := (eI .i64)) h rfl (fun _ => rfl) (fun x8 h => ?_)
      refine drS (by kernel_rfl) ?_
      refine fkS h (fun h => ?_) (fun h => ?_)
      · exact rt (E := E_Bool) h rfl
      exact leS hn6 h (Weak.refl _)
    refine ⟨5, ?_⟩
    refine ixS (enc := (eI .i64)) h rfl (fun _ => rfl) (fun x9 h => ?_)
    refine drS (by kernel_rfl) ?_
    refine caS (E := E_Bool) h (task_Uses_w a0 x9) rfl (fun _ => rfl) (fun x10 h => ?_)
    refine fkS h (fun h => ?_) (fun h => ?_)
    · exact rt (E := E_Bool) h rfl
    exact leS hn5 h (Weak.refl _)
  refine ccS (E := E_ListInt) h (task_Held_w a0 (0 : Int)) rfl rfl (fun x11 h => ?_)
  refine lenS x11 (eI .i64) rfl ?_
  refine fkS h (fun h => ?_) (fun h => ?_)
  · refine ccS (E := E_ListInt) h (task_Held_w a0 a0.C) rfl rfl (fun x12 h => ?_)
    refine lenS x12 (eI .i64) rfl ?_
    refine fkS h (fun h => ?_) (fun h => ?_)
    · refine fkS h (fun h => ?_) (fun h => ?_)
      · refine fkS h (fun h => ?_) (fun h => ?_)
        · refine caS (E := E_Bool) h law05_knows_w rfl (fun _ => rfl) (fun x13 h => ?_)
          exact rt (E := E_Bool) h rfl
        refine lenS x4 (eI .i64) rfl ?_
        refine fkS h (fun h => ?_) (fun h => ?_)
        · refine caS (E := E_Bool) h law05_knows_w rfl (fun _ => rfl) (fun x14 h => ?_)
          exact rt (E := E_Bool) h rfl
        exact rt (E := E_Bool) h rfl
      refine lenS x4 (eI .i64) rfl ?_
      refine fkS h (fun h => ?_) (fun h => ?_)
      · refine caS (E := E_Bool) h law05_knows_w rfl (fun _ => rfl) (fun x15 h => ?_)
        exact rt (E := E_Bool) h rfl
      exact rt (E := E_Bool) h rfl
    exact rt (E := E_Bool) h rfl
  exact rt (E := E_Bool) h rfl

end Go.Proofs.Ytpoaeepmjfocjaa
namespace Go.Proofs.Ytpoaeepmjfocjaa
open Go Go.VC
noncomputable def law05_TaskNests (a0 : Task) (a1 : Int) : Option Bool :=
  jn (fun (w1 : Bool) => fk w1 (bnd law05_knows fun x3 => some x3) (bnd (task_Held a0 a1) fun x4 => bnd (task_Held a0 (wr (a1 + (1 : Int)))) fun x5 => lp (fun nx6 (v6 : Int) => jn (fun (w7 : Bool) => fk w7 (nx6 (wr (v6 + (1 : Int)))) (lp (fun nx10 (v10 : Int) => fk (decide (v10 < (x5.length : Int))) (lp (fun nx11 (v11 : Bool × Int) => fk (decide (v11.2 < (a0.Secs.length : Int))) (jn (fun (w12 : Bool) => nx11 (w12, (wr (v11.2 + (1 : Int))))) (fun k12 => fk v11.1 (k12 true) (ix a0.Secs v11.2 fun x13 => ix x5 v10 fun x14 => fk (decide (x13.Res = x14)) (ix a0.Secs v11.2 fun x15 => k12 (decide (x15.At = a1))) (k12 false)))) (fk (!v11.1) (some false) (nx10 (wr (v10 + (1 : Int)))))) FU (false, (0 : Int))) (lp (fun nx16 (v16 : Int) => fk (decide (v16 < (x4.length : Int))) (lp (fun nx17 (v17 : Bool × Int) => fk (decide (v17.2 < (a0.Secs.length : Int))) (jn (fun (w18 : Bool) => nx17 (w18, (wr (v17.2 + (1 : Int))))) (fun k18 => fk v17.1 (k18 true) (ix a0.Secs v17.2 fun x19 => ix x4 v16 fun x20 => fk (decide (x19.Res = x20)) (ix a0.Secs v17.2 fun x21 => ix a0.Secs v17.2 fun x22 => k18 (decide ((wr (x21.At + x22.Len)) = (wr (a1 + (1 : Int)))))) (k18 false)))) (fk (!v17.1) (some false) (nx16 (wr (v16 + (1 : Int)))))) FU (false, (0 : Int))) (bnd law05_knows fun x23 => some x23)) FU v6)) FU v6)) (fun k7 => fk (decide (v6 < (x4.length : Int))) (fk (decide (v6 < (x5.length : Int))) (ix x4 v6 fun x8 => ix x5 v6 fun x9 => k7 (decide (x8 = x9))) (k7 false)) (k7 false))) FU (0 : Int))) (fun k1 => fk (decide ((a0.Secs.length : Int) > (20 : Int))) (k1 true) (bnd (ref05_Right a0) fun x2 => fk (!x2) (k1 true) (fk (decide (a1 < (0 : Int))) (k1 true) (k1 (decide (a1 > (200 : Int)))))))
theorem law05_TaskNests_w (a0 : Task) (a1 : Int) (r : Bool) (h : law05_TaskNests a0 a1 = some r) : Go.VC.Spec Try.prog 4 [.agg (Task.enc a0), .d (.int .i64 a1)] (fun y => y = E_Bool r) := by
  refine Go.VC.Spec.of_xc (args := [.agg (Task.enc a0), .d (.int .i64 a1)]) (fn := Try.f4) tab ⟨[(0, [1, 2]), (1, [1, 2, 30]), (2, [4]), (3, [1, 2, 5, 6]), (4, [1, 2, 5, 6, 7]), (5, [1, 2, 5, 6, 7, 59]), (6, [1, 2, 5, 6, 7]), (7, [1, 2, 5, 6, 7, 8]), (8, [1, 2, 5, 6, 7, 8, 66]), (9, [1, 2, 5, 6, 7, 8]), (10, [1, 2, 5, 6, 7, 8, 9]), (11, [1, 2, 5, 6, 7, 8, 9, 10]), (12, [1, 2, 5, 6, 7, 8, 9, 10, 73]), (13, [1, 2, 5, 6, 7, 8, 9, 10]), (14, [1, 2, 5, 6, 7, 8, 9, 10]), (15, [1, 2, 5, 6, 7, 8, 101]), (16, [4]), (17, [1, 2, 5, 11]), (18, [1, 2, 5, 11, 106]), (19, [1, 2, 5, 11]), (20, [1, 2, 5, 11, 12]), (21, [1, 2, 5, 11, 12, 13]), (22, [1, 2, 5, 11, 12, 13, 113]), (23, [1, 2, 5, 11, 12, 13]), (24, [1, 2, 5, 11, 12, 13]), (25, [1, 2, 5, 11, 149]), (26, [4]), (27, [4])], [], [100030, 100059, 13, 23], []⟩ 151 [.tmp 4] rfl rfl rfl rfl rfl rfl ?_
  refine jnS (fun w1 => ⟨[(1, .l (.d (.int .i64 a1))), (2, .l (.ptr 3 0)), (30, .l (.d (.bool w1)))], 151, [], [(3, [.d (.int .i64 a0.C), .d (.int .i64 a0.D), .d (.int .i64 a0.T), .d (.sl (a0.Secs.map Sec.enc))])], []⟩) h (fun k1 hk1 h => ?_) (fun w1 h => ?_)
  · refine lenS a0.Secs Sec.enc rfl ?_
    refine fkS h (fun h => ?_) (fun h => ?_)
    · exact jeS hk1 h (Weak.refl _)
    refine caS (E := E_Bool) h (ref05_Right_w a0) rfl (fun _ => rfl) (fun x2 h => ?_)
    refine fkS h (fun h => ?_) (fun h => ?_)
    · exact jeS hk1 h (Weak.refl _)
    refine fkS h (fun h => ?_) (fun h => ?_)
    · exact jeS hk1 h (Weak.refl _)
    exact jeS hk1 h (Weak.refl _)
  refine fkS h (fun h => ?_) (fun h => ?_)
  · refine caS (E := E_Bool) h law05_knows_w rfl (fun _ => rfl) (fun x3 h => ?_)
    exact rt (E := E_Bool) h rfl
  refine ⟨6, ?_⟩
  refine dcS (E := E_ListInt) h (task_Held_w a0 a1) rfl (fun x4 h => ?_)
  refine drS (by kernel_rfl) ?_
  refine ccS (E := E_ListInt) h (task_Held_w a0 (wr (a1 + (1 : Int)))) rfl rfl (fun x5 h => ?_)
  refine lpS (fun v6 => ⟨[(1, .l (.d (.int .i64 a1))), (2, .l (.ptr 3 0)), (5, .l (.d (.sl (x4.map (eI .i64))))), (6, .l (.d (.sl (x5.map (eI .i64))))), (7, .l (.d (.int .i64 v6)))], 151, [], [(3, [.d (.int .i64 a0.C), .d (.int .i64 a0.D), .d (.int .i64 a0.T), .d (.sl (a0.Secs.map Sec.enc))])], []⟩) h (Weak.refl _) (fun _ nx6 hn6 v6 h => ?_)
  refine jnS (fun w7 => ⟨[(1, .l (.d (.int .i64 a1))), (2, .l (.ptr 3 0)), (5, .l (.d (.sl (x4.map (eI .i64))))), (6, .l (.d (.sl (x5.map (eI .i64))))), (7, .l (.d (.int .i64 v6))), (59, .l (.d (.bool w7)))], 151, [], [(3, [.d (.int .i64 a0.C), .d (.int .i64 a0.D), .d (.int .i64 a0.T), .d (.sl (a0.Secs.map Sec.enc))])], []⟩) h (fun k7 hk7 h => ?_) (fun w7 h => ?_)
  · refine ⟨21, ?_⟩
    refine lenS x4 (eI .i64) rfl ?_
    refine fkS h (fun h => ?_) (fun h => ?_)
    · refine lenS x5 (eI .i64) rfl ?_
      refine fkS h (fun h => ?_) (fun h => ?_)
      · refine ixS (enc := (eI .i64)) h rfl (fun _ => rfl) (fun x8 h => ?_)
        refine ixS (enc := (eI .i64)) h rfl (fun _ => rfl) (fun x9 h => ?_)
        refine drS (by kernel_rfl) ?_
        exact jeS hk7 h (Weak.refl _)
      refine drS (by kernel_rfl) ?_
      exact jeS hk7 h (Weak.refl _)
    refine drS (by kernel_rfl) ?_
    exact jeS hk7 h (Weak.refl _)
  refine fkS h (fun h => ?_) (fun h => ?_)
  · exact leS hn6 h (Weak.refl _)
  refine lpS (fun v10 => ⟨[(1, .l (.d (.int .i64 a1))), (2, .l (.ptr 3 0)), (5, .l (.d (.sl (x4.map (eI .i64))))), (6, .l (.d (.sl (x5.map (eI .i64))))), (7, .l (.d (.int .i64 v6))), (8, .l (.d (.int .i64 v10)))], 151, [], [(3, [.d (.int .i64 a0.C), .d (.int .i64 a0.D), .d (.int .i64 a0.T), .d (.sl (a0.Secs.map Sec.enc))])], []⟩) h (Weak.refl _) (fun _ nx10 hn10 v10 h => ?_)
  refine lenS x5 (eI .i64) rfl ?_
  refine fkS h (fun h => ?_) (fun h => ?_)
  · refine lpS (fun v11 => ⟨[(1, .l (.d (.int .i64 a1))), (2, .l (.ptr 3 0)), (5, .l (.d (.sl (x4.map (eI .i64))))), (6, .l (.d (.sl (x5.map (eI .i64))))), (7, .l (.d (.int .i64 v6))), (8, .l (.d (.int .i64 v10))), (9, .l (.d (.bool v11.1))), (10, .l (.d (.int .i64 v11.2)))], 151, [], [(3, [.d (.int .i64 a0.C), .d (.int .i64 a0.D), .d (.int .i64 a0.T), .d (.sl (a0.Secs.map Sec.enc))])], []⟩) h (Weak.refl _) (fun _ nx11 hn11 v11 h => ?_)
    refine lenS a0.Secs Sec.enc rfl ?_
    refine fkS h (fun h => ?_) (fun h => ?_)
    · refine jnS (fun w12 => ⟨[(1, .l (.d (.int .i64 a1))), (2, .l (.ptr 3 0)), (5, .l (.d (.sl (x4.map (eI .i64))))), (6, .l (.d (.sl (x5.map (eI .i64))))), (7, .l (.d (.int .i64 v6))), (8, .l (.d (.int .i64 v10))), (9, .l (.d (.bool w12))), (10, .l (.d (.int .i64 v11.2)))], 151, [], [(3, [.d (.int .i64 a0.C), .d (.int .i64 a0.D), .d (.int .i64 a0.T), .d (.sl (a0.Secs.map Sec.enc))])], []⟩) h (fun k12 hk12 h => ?_) (fun w12 h => ?_)
      · refine ⟨24, ?_⟩
        refine fkS h (fun h => ?_) (fun h => ?_)
        · refine drS (by kernel_rfl) ?_
          exact jeS hk12 h (Weak.refl _)
        refine ixS (enc := Sec.enc) h rfl (fun _ => rfl) (fun x13 h => ?_)
        refine ixS (enc := (eI .i64)) h rfl (fun _ => rfl) (fun x14 h => ?_)
        refine fkS h (fun h => ?_) (fun h => ?_)
        · refine ixS (enc := Sec.enc) h rfl (fun _ => rfl) (fun x15 h => ?_)
          refine drS (by kernel_rfl) ?_
          exact jeS hk12 h (Weak.refl _)
        refine drS (by kernel_rfl) ?_
        exact jeS hk12 h (Weak.refl _)
      exact leS hn11 h (Weak.refl _)
    refine fkS h (fun h => ?_) (fun h => ?_)
    · exact rt (E := E_Bool) h rfl
    exact leS hn10 h (Weak.refl _)
  refine lpS (fun v16 => ⟨[(1, .l (.d (.int .i64 a1))), (2, .l (.ptr 3 0)), (5, .l (.d (.sl (x4.map (eI .i64))))), (11, .l (.d (.int .i64 v16)))], 151, [], [(3, [.d (.int .i64 a0.C), .d (.int .i64 a0.D), .d (.int .i64 a0.T), .d (.sl (a0.Secs.map Sec.enc))])], []⟩) h (Weak.refl _) (fun _ nx16 hn16 v16 h => ?_)
  refine lenS x4 (eI .i64) rfl ?_
  refine fkS h (fun h => ?_) (fun h => ?_)
  · refine lpS (fun v17 => ⟨[(1, .l (.d (.int .i64 a1))), (2, .l (.ptr 3 0)), (5, .l (.d (.sl (x4.map (eI .i64))))), (11, .l (.d (.int .i64 v16))), (12, .l (.d (.bool v17.1))), (13, .l (.d (.int .i64 v17.2)))], 151, [], [(3, [.d (.int .i64 a0.C), .d (.int .i64 a0.D), .d (.int .i64 a0.T), .d (.sl (a0.Secs.map Sec.enc))])], []⟩) h (Weak.refl _) (fun _ nx17 hn17 v17 h => ?_)
    refine lenS a0.Secs Sec.enc rfl ?_
    refine fkS h (fun h => ?_) (fun h => ?_)
    · refine jnS (fun w18 => ⟨[(1, .l (.d (.int .i64 a1))), (2, .l (.ptr 3 0)), (5, .l (.d (.sl (x4.map (eI .i64))))), (11, .l (.d (.int .i64 v16))), (12, .l (.d (.bool w18))), (13, .l (.d (.int .i64 v17.2)))], 151, [], [(3, [.d (.int .i64 a0.C), .d (.int .i64 a0.D), .d (.int .i64 a0.T), .d (.sl (a0.Secs.map Sec.enc))])], []⟩) h (fun k18 hk18 h => ?_) (fun w18 h => ?_)
      · refine ⟨32, ?_⟩
        refine fkS h (fun h => ?_) (fun h => ?_)
        · refine drS (by kernel_rfl) ?_
          exact jeS hk18 h (Weak.refl _)
        refine ixS (enc := Sec.enc) h rfl (fun _ => rfl) (fun x19 h => ?_)
        refine ixS (enc := (eI .i64)) h rfl (fun _ => rfl) (fun x20 h => ?_)
        refine fkS h (fun h => ?_) (fun h => ?_)
        · refine ixS (enc := Sec.enc) h rfl (fun _ => rfl) (fun x21 h => ?_)
          refine ixS (enc := Sec.enc) h rfl (fun _ => rfl) (fun x22 h => ?_)
          refine drS (by kernel_rfl) ?_
          exact jeS hk18 h (Weak.refl _)
        refine drS (by kernel_rfl) ?_
        exact jeS hk18 h (Weak.refl _)
      exact leS hn17 h (Weak.refl _)
    refine fkS h (fun h => ?_) (fun h => ?_)
    · exact rt (E := E_Bool) h rfl
    exact leS hn16 h (Weak.refl _)
  refine caS (E := E_Bool) h law05_knows_w rfl (fun _ => rfl) (fun x23 h => ?_)
  exact rt (E := E_Bool) h rfl

end Go.Proofs.Ytpoaeepmjfocjaa
namespace Go.Proofs.Ytpoaeepmjfocjaa
open Go Go.VC
noncomputable def task_Same (a0 : Task) (a1 : Task) : Option Bool :=
  jn (fun (w1 : Bool) => fk w1 (some false) (lp (fun nx2 (v2 : Int) => fk (decide (v2 < (a0.Secs.length : Int))) (ix a0.Secs v2 fun x3 => ix a1.Secs v2 fun x4 => fk (!(eqI [.i .i64 x3.Res, .i .i64 x3.At, .i .i64 x3.Len] [.i .i64 x4.Res, .i .i64 x4.At, .i .i64 x4.Len])) (some false) (nx2 (wr (v2 + (1 : Int))))) (some true)) FU (0 : Int))) (fun k1 => fk (!decide (a0.C = a1.C)) (k1 true) (fk (!decide (a0.D = a1.D)) (k1 true) (fk (!decide (a0.T = a1.T)) (k1 true) (k1 (!decide ((a0.Secs.length : Int) = (a1.Secs.length : Int)))))))
theorem task_Same_w (a0 : Task) (a1 : Task) (r : Bool) (h : task_Same a0 a1 = some r) : Go.VC.Spec Try.prog 22 [.agg (Task.enc a0), .agg (Task.enc a1)] (fun y => y = E_Bool r) := by
  refine Go.VC.Spec.of_xc (args := [.agg (Task.enc a0), .agg (Task.enc a1)]) (fn := Try.f22) tab ⟨[(0, [2, 3]), (1, [2, 3, 34]), (2, [4]), (3, [3, 36, 37, 38]), (4, [3, 36, 37, 38, 39]), (5, [3, 5, 6, 36, 37, 38]), (6, [3, 36, 37, 38, 49]), (7, [4]), (8, [3, 36, 37, 38]), (9, [4])], [], [100034], []⟩ 51 [.tmp 4] rfl rfl rfl rfl rfl rfl ?_
  refine jnS (fun w1 => ⟨[(2, .l (.ptr 3 0)), (3, .l (.ptr 4 0)), (34, .l (.d (.bool w1)))], 51, [], [(3, [.d (.int .i64 a0.C), .d (.int .i64 a0.D), .d (.int .i64 a0.T), .d (.sl (a0.Secs.map Sec.enc))]), (4, [.d (.int .i64 a1.C), .d (.int .i64 a1.D), .d (.int .i64 a1.T), .d (.sl (a1.Secs.map Sec.enc))])], []⟩) h (fun k1 hk1 h => ?_) (fun w1 h => ?_)
  · refine fkS h (fun h => ?_) (fun h => ?_)
    · exact jeS hk1 h (Weak.refl _)
    refine fkS h (fun h => ?_) (fun h => ?_)
    · exact jeS hk1 h (Weak.refl _)
    refine fkS h (fun h => ?_) (fun h => ?_)
    · exact jeS hk1 h (Weak.refl _)
    refine lenS a0.Secs Sec.enc rfl ?_
    refine lenS a1.Secs Sec.enc rfl ?_
    exact jeS hk1 h (Weak.refl _)
  refine fkS h (fun h => ?_) (fun h => ?_)
  · exact rt (E := E_Bool) h rfl
  refine lenS a0.Secs Sec.enc rfl ?_
  refine lpS (fun v2 => ⟨[(3, .l (.ptr 4 0)), (36, .l (.d (.sl (a0.Secs.map Sec.enc)))), (37, .l (.d (.int .i64 (a0.Secs.length : Int)))), (38, .l (.d (.int .i64 v2)))], 51, [], [(4, [.d (.int .i64 a1.C), .d (.int .i64 a1.D), .d (.int .i64 a1.T), .d (.sl (a1.Secs.map Sec.enc))])], []⟩) h (Weak.refl _) (fun _ nx2 hn2 v2 h => ?_)
  refine fkS h (fun h => ?_) (fun h => ?_)
  · refine ixS (enc := Sec.enc) h rfl (fun _ => rfl) (fun x3 h => ?_)
    refine ⟨6, ?_⟩
    refine ixS (enc := Sec.enc) h rfl (fun _ => rfl) (fun x4 h => ?_)
    refine drS (by kernel_rfl) ?_
    refine fkS h (fun h => ?_) (fun h => ?_)
    · exact rt (E := E_Bool) h rfl
    exact leS hn2 h (Weak.refl _)
  exact rt (E := E_Bool) h rfl

end Go.Proofs.Ytpoaeepmjfocjaa
namespace Go.Proofs.Ytpoaeepmjfocjaa
open Go Go.VC
noncomputable def ref05_Same (a0 : Task) (a1 : Task) : Option Bool :=
  lp (fun nx1 (v1 : Int) => jn (fun (w2 : Bool) => fk w2 (ix a0.Secs v1 fun x3 => ix a1.Secs v1 fun x4 => fk (!(eqI [.i .i64 x3.Res, .i .i64 x3.At, .i .i64 x3.Len] [.i .i64 x4.Res, .i .i64 x4.At, .i .i64 x4.Len])) (some false) (nx1 (wr (v1 + (1 : Int))))) (fk (decide (a0.C = a1.C)) (fk (decide (a0.D = a1.D)) (fk (decide (a0.T = a1.T)) (some (decide ((a0.Secs.length : Int) = (a1.Secs.length : Int)))) (some false)) (some false)) (some false))) (fun k2 => fk (decide (v1 < (a0.Secs.length : Int))) (k2 (decide (v1 < (a1.Secs.length : Int)))) (k2 false))) FU (0 : Int)
theorem ref05_Same_w (a0 : Task) (a1 : Task) (r : Bool) (h : ref05_Same a0 a1 = some r) : Go.VC.Spec Try.prog 23 [.agg (Task.enc a0), .agg (Task.enc a1)] (fun y => y = E_Bool r) := by
  refine Go.VC.Spec.of_xc (args := [.agg (Task.enc a0), .agg (Task.enc a1)]) (fn := Try.f23) tab ⟨[(0, [2, 3]), (1, [2, 3, 5]), (2, [2, 3, 5, 17]), (3, [2, 3, 5]), (4, [2, 3, 5, 30]), (5, [4]), (6, [4])], [], [100017], []⟩ 59 [.tmp 4] rfl rfl rfl rfl rfl rfl ?_
  refine lpS (fun v1 => ⟨[(2, .l (.ptr 3 0)), (3, .l (.ptr 4 0)), (5, .l (.d (.int .i64 v1)))], 59, [], [(3, [.d (.int .i64 a0.C), .d (.int .i64 a0.D), .d (.int .i64 a0.T), .d (.sl (a0.Secs.map Sec.enc))]), (4, [.d (.int .i64 a1.C), .d (.int .i64 a1.D), .d (.int .i64 a1.T), .d (.sl (a1.Secs.map Sec.enc))])], []⟩) h (Weak.refl _) (fun _ nx1 hn1 v1 h => ?_)
  refine jnS (fun w2 => ⟨[(2, .l (.ptr 3 0)), (3, .l (.ptr 4 0)), (5, .l (.d (.int .i64 v1))), (17, .l (.d (.bool w2)))], 59, [], [(3, [.d (.int .i64 a0.C), .d (.int .i64 a0.D), .d (.int .i64 a0.T), .d (.sl (a0.Secs.map Sec.enc))]), (4, [.d (.int .i64 a1.C), .d (.int .i64 a1.D), .d (.int .i64 a1.T), .d (.sl (a1.Secs.map Sec.enc))])], []⟩) h (fun k2 hk2 h => ?_) (fun w2 h => ?_)
  · refine lenS a0.Secs Sec.enc rfl ?_
    refine fkS h (fun h => ?_) (fun h => ?_)
    · refine lenS a1.Secs Sec.enc rfl ?_
      exact jeS hk2 h (Weak.refl _)
    exact jeS hk2 h (Weak.refl _)
  refine fkS h (fun h => ?_) (fun h => ?_)
  · refine ⟨10, ?_⟩
    refine ixS (enc := Sec.enc) h rfl (fun _ => rfl) (fun x3 h => ?_)
    refine ixS (enc := Sec.enc) h rfl (fun _ => rfl) (fun x4 h => ?_)
    refine drS (by kernel_rfl) ?_
    refine fkS h (fun h => ?_) (fun h => ?_)
    · exact rt (E := E_Bool) h rfl
    exact leS hn1 h (Weak.refl _)
  refine fkS h (fun h => ?_) (fun h => ?_)
  · refine fkS h (fun h => ?_) (fun h => ?_)
    · refine fkS h (fun h => ?_) (fun h => ?_)
      · refine lenS a0.Secs Sec.enc rfl ?_
        refine lenS a1.Secs Sec.enc rfl ?_
        exact rt (E := E_Bool) h rfl
      exact rt (E := E_Bool) h rfl
    exact rt (E := E_Bool) h rfl
  exact rt (E := E_Bool) h rfl

end Go.Proofs.Ytpoaeepmjfocjaa
namespace Go.Proofs.Ytpoaeepmjfocjaa
open Go Go.VC
noncomputable def law05_TaskRights (a0 : List Task) (a1 : Int) (a2 : Int) : Option Bool :=
  jn (fun (w1 : Bool) => fk w1 (bnd law05_knows fun x3 => some x3) (ck (decide ((a0.length : Int) ≠ 0)) (ix a0 ((IntKind.i64.wrap a1).tmod (a0.length : Int)) fun x4 => ck (decide ((a0.length : Int) ≠ 0)) (ix a0 ((IntKind.i64.wrap a2).tmod (a0.length : Int)) fun x5 => bnd (task_Right x4) fun x6 => bnd (ref05_Right x4) fun x7 => fk (decide (x6 = x7)) (bnd (task_All a0) fun x8 => bnd (ref05_All a0) fun x9 => fk (decide (x8 = x9)) (bnd (task_Same x4 x5) fun x10 => bnd (ref05_Same x4 x5) fun x11 => fk (decide (x10 = x11)) (bnd law05_knows fun x12 => some x12) (some false)) (some false)) (some false))))) (fun k1 => bnd (law05_Great a0) fun x2 => fk x2 (k1 true) (k1 (decide ((a0.length : Int) = (0 : Int)))))
theorem law05_TaskRights_w (a0 : List Task) (a1 : Int) (a2 : Int) (r : Bool) (h : law05_TaskRights a0 a1 a2 = some r) : Go.VC.Spec Try.prog 5 [.d (.sl (a0.map Task.enc)), .d (.int .u8 a1), .d (.int .u8 a2)] (fun y => y = E_Bool r) := by
  refine Go.VC.Spec.of_xc (args := [.d (.sl (a0.map Task.enc)), .d (.int .u8 a1), .d (.int .u8 a2)]) (fn := Try.f5) tab ⟨[(0, [0, 1, 2]), (1, [0, 1, 2, 15]), (2, [6]), (3, [0, 7, 8]), (4, [6])], [], [100015], []⟩ 57 [.tmp 6] rfl rfl rfl rfl rfl rfl ?_
  refine jnS (fun w1 => ⟨[(0, .l (.d (.sl (a0.map Task.enc)))), (1, .l (.d (.int .u8 a1))), (2, .l (.d (.int .u8 a2))), (15, .l (.d (.bool w1)))], 57, [], [], []⟩) h (fun k1 hk1 h => ?_) (fun w1 h => ?_)
  · refine caS (E := E_Bool) h (law05_Great_w a0) rfl (fun _ => rfl) (fun x2 h => ?_)
    refine fkS h (fun h => ?_) (fun h => ?_)
    · exact jeS hk1 h (Weak.refl _)
    refine lenS a0 Task.enc rfl ?_
    exact jeS hk1 h (Weak.refl _)
  refine fkS h (fun h => ?_) (fun h => ?_)
  · refine caS (E := E_Bool) h law05_knows_w rfl (fun _ => rfl) (fun x3 h => ?_)
    exact rt (E := E_Bool) h rfl
  refine ⟨19, ?_⟩
  refine lenS a0 Task.enc rfl ?_
  refine dvS h (fun h => ?_)
  refine ixS (enc := Task.enc) h rfl (fun _ => rfl) (fun x4 h => ?_)
  refine lenS a0 Task.enc rfl ?_
  refine dvS h (fun h => ?_)
  refine ixS (enc := Task.enc) h rfl (fun _ => rfl) (fun x5 h => ?_)
  refine drS (by kernel_rfl) ?_
  refine ⟨24, ?_⟩
  refine daS (E := E_Bool) h (task_Right_w x4) (fun _ => rfl) (fun x6 h => ?_)
  refine daS (E := E_Bool) h (ref05_Right_w x4) (fun _ => rfl) (fun x7 h => ?_)
  refine fkS h (fun h => ?_) (fun h => ?_)
  · refine daS (E := E_Bool) h (task_All_w a0) (fun _ => rfl) (fun x8 h => ?_)
    refine daS (E := E_Bool) h (ref05_All_w a0) (fun _ => rfl) (fun x9 h => ?_)
    refine fkS h (fun h => ?_) (fun h => ?_)
    · refine daS (E := E_Bool) h (task_Same_w x4 x5) (fun _ => rfl) (fun x10 h => ?_)
      refine daS (E := E_Bool) h (ref05_Same_w x4 x5) (fun _ => rfl) (fun x11 h => ?_)
      refine fkS h (fun h => ?_) (fun h => ?_)
      · refine daS (E := E_Bool) h law05_knows_w (fun _ => rfl) (fun x12 h => ?_)
        refine drS (by kernel_rfl) ?_
        exact rt (E := E_Bool) h rfl
      refine drS (by kernel_rfl) ?_
      exact rt (E := E_Bool) h rfl
    refine drS (by kernel_rfl) ?_
    exact rt (E := E_Bool) h rfl
  refine drS (by kernel_rfl) ?_
  exact rt (E := E_Bool) h rfl

end Go.Proofs.Ytpoaeepmjfocjaa
namespace Go.Proofs.Ytpoaeepmjfocjaa
open Go Go.VC

/-! ### Tasks -/
def fitsP (a b : Sec) : Prop := a.At + a.Len ≤ b.At ∨ (a.At ≤ b.At ∧ b.At + b.Len ≤ a.At + a.Len ∧ a.Res ≠ b.Res)
def secP (C : Int) (s : Sec) : Prop := 0 ≤ s.Res ∧ s.Res < 4 ∧ 0 ≤ s.At ∧ s.At < C ∧ 1 ≤ s.Len ∧ s.Len ≤ C - s.At
def ownP (t : Task) : Prop := 1 ≤ t.C ∧ t.C ≤ t.D ∧ t.D ≤ t.T ∧ t.T ≤ 200 ∧ t.Secs.length ≤ 4
def RightP (t : Task) : Prop := ownP t ∧ (∀ s ∈ t.Secs, secP t.C s) ∧ t.Secs.Pairwise fitsP
instance (a b : Sec) : Decidable (fitsP a b) := by unfold fitsP; infer_instance
instance (C : Int) (s : Sec) : Decidable (secP C s) := by unfold secP; infer_instance
instance (t : Task) : Decidable (ownP t) := by unfold ownP; infer_instance
instance (t : Task) : Decidable (RightP t) := by unfold RightP; infer_instance
def right (t : Task) : Bool := decide (RightP t)

theorem task_own_eq (t : Task) : task_own t = some (decide (ownP t)) := by
  unfold task_own
  simp only [fk_if, decide_eq_true_eq]
  repeat' split
  · exact dec_iff (by unfold ownP; omega)
  all_goals exact dec_f (by unfold ownP; omega)

theorem task_may_eq (t : Task) (s : Sec) (h : ownP t) : task_may t s = some (decide (secP t.C s)) := by
  unfold ownP at h
  unfold task_may
  simp only [fk_if, decide_eq_true_eq]
  repeat' split
  · rw [wr_in _ (by omega)]
    exact dec_iff (by unfold secP; omega)
  all_goals exact dec_f (by unfold secP; omega)

theorem task_fits_eq (C : Int) (a b : Sec) (hC : C ≤ 200) (ha : secP C a) (hb : secP C b) : task_fits a b = some (decide (fitsP a b)) := by
  unfold secP at ha hb
  unfold task_fits
  rw [wr_in _ (by omega), wr_in _ (by omega)]
  simp only [fk_if, decide_eq_true_eq]
  repeat' split
  · exact dec_t (by unfold fitsP; omega)
  · exact dec_f (by unfold fitsP; omega)
  · exact dec_not (by unfold fitsP; omega)
  · exact dec_f (by unfold fitsP; omega)

theorem task_Right_eq (t : Task) : task_Right t = some (right t) := by
  unfold task_Right
  rw [bnd_eq (task_own_eq t)]
  by_cases ho : ownP t
  rotate_left
  · simp [ho, right, RightP, fk_if]
  simp only [ho, decide_true, Bool.not_true, fk_f]
  have hlen : t.Secs.length ≤ 4 := ho.2.2.2.2
  have hC : t.C ≤ 200 := by unfold ownP at ho; omega
  refine lp_up t.Secs.length (by unfold FU; omega) (fun k => (∀ j (h : j < t.Secs.length), j < k → secP t.C t.Secs[j]) ∧ (∀ i j (hi : i < t.Secs.length) (hj : j < t.Secs.length), i < j → j < k → fitsP t.Secs[i] t.Secs[j])) ⟨fun j _ h => by omega, fun i j _ _ _ h => by omega⟩ ?_
  rintro nx k hk ⟨J1, J2⟩ hnx
  rw [lt_nat]
  by_cases h : k < t.Secs.length
  · rw [decide_eq_true h, fk_t, ix_lt h, bnd_eq (task_may_eq t _ ho)]
    by_cases hs : secP t.C t.Secs[k]
    rotate_left
    · have : right t = false := decide_eq_false fun hr => hs (hr.2.1 _ (List.getElem_mem h))
      simp [hs, this, fk_if]
    simp only [hs, decide_true, Bool.not_true, fk_f]
    rw [ck_t (by simp; omega)]
    have e : (t.Secs.take (k : Int).toNat).drop (0 : Int).toNat = t.Secs.take k := by simp
    rw [e]
    have el : (t.Secs.take k).length = k := by simp; omega
    refine lp_up k (by unfold FU; omega) (fun j => ∀ i (hi : i < t.Secs.length), i < j → fitsP t.Secs[i] t.Secs[k]) (fun i _ h => by omega) ?_
    intro nx2 j hj J3 hnx2
    rw [el, lt_nat]
    by_cases h2 : j < k
    · have hjl : j < t.Secs.length := by omega
      rw [decide_eq_true h2, fk_t, ix_lt (by omega), List.getElem_take, bnd_eq (task_fits_eq t.C _ _ hC (J1 j hjl h2) hs)]
      by_cases hf : fitsP t.Secs[j] t.Secs[k]
      · rw [decide_eq_true hf, fk_t, wr_succ j k h2 (by omega)]
        refine hnx2 h2 fun i hi hij => ?_
        by_cases e : i = j
        · subst e; exact hf
        · exact J3 i hi (by omega)
      · have : right t = false := decide_eq_false fun hr => hf (List.pairwise_iff_getElem.1 hr.2.2 j k hjl h h2)
        rw [decide_eq_false hf, fk_f, this]; rfl
    · have hjk : j = k := by omega
      subst hjk
      rw [decide_eq_false h2, fk_f, wr_succ j _ h (by omega)]
      refine hnx h ⟨fun i hi hij => ?_, fun a b ha hb hab hbj => ?_⟩
      · by_cases e : i = j
        · subst e; exact hs
        · exact J1 i hi (by omega)
      · by_cases e : b = j
        · subst e; exact J3 a ha hab
        · exact J2 a b ha hb hab (by omega)
  · have hk2 : k = t.Secs.length := by omega
    rw [decide_eq_false h, fk_f]
    have : right t = true := decide_eq_true ⟨ho, fun s hs => by
      obtain ⟨j, hj, rfl⟩ := List.getElem_of_mem hs
      exact J1 j hj (by omega), List.pairwise_iff_getElem.2 fun i j hi hj hij => J2 i j hi hj hij (by omega)⟩
    rw [this]
    unfold ownP at ho
    simp; omega
end Go.Proofs.Ytpoaeepmjfocjaa
namespace Go.Proofs.Ytpoaeepmjfocjaa
open Go Go.VC

def AllP (l : List Task) : Prop := (∀ t ∈ l, RightP t) ∧ l.length ≤ 8
instance (l : List Task) : Decidable (AllP l) := by unfold AllP; infer_instance
theorem right_t {t : Task} : right t = true ↔ RightP t := decide_eq_true_iff
theorem right_f {t : Task} : right t = false ↔ ¬ RightP t := decide_eq_false_iff_not

theorem task_All_eq (l : List Task) (hl : l.length ≤ 4611686018427387904) : task_All l = some (decide (AllP l)) := by
  unfold task_All
  refine lp_up l.length (by unfold FU; omega) (fun k => ∀ j (h : j < l.length), j < k → RightP l[j]) (fun j _ h => by omega) ?_
  intro nx k hk J hnx
  rw [lt_nat]
  by_cases h : k < l.length
  · rw [decide_eq_true h, fk_t, ix_lt h, bnd_eq (task_Right_eq _)]
    by_cases hr : RightP l[k]
    · rw [right_t.2 hr, Bool.not_true, fk_f, wr_succ k _ h hl]
      refine hnx h fun j hj hjk => ?_
      by_cases e : j = k
      · subst e; exact hr
      · exact J j hj (by omega)
    · rw [right_f.2 hr, Bool.not_false, fk_t]
      exact dec_f fun ha => hr (ha.1 _ (List.getElem_mem h))
  · rw [decide_eq_false h, fk_f]
    refine dec_iff ⟨fun h8 => ⟨fun t ht => ?_, by omega⟩, fun ha => by have := ha.2; omega⟩
    obtain ⟨j, hj, rfl⟩ := List.getElem_of_mem ht
    exact J j hj (by omega)

def holds (had : Int) (s : Sec) : Bool := decide (s.At < had) && decide (had < s.At + s.Len)
def heldL (had : Int) (l : List Sec) : List Int := (l.filter (holds had)).map (·.Res)
def held (t : Task) (had : Int) : List Int := if right t = true then heldL had t.Secs else []
theorem heldL_succ (had : Int) (l : List Sec) (i : Nat) (h : i < l.length) : heldL had (l.take (i + 1)) = heldL had (l.take i) ++ (if holds had l[i] = true then [l[i].Res] else []) := by
  rw [← List.take_append_getElem h, heldL, heldL, List.filter_append, List.map_append]
  congr 1
  by_cases e : holds had l[i] = true
  · rw [if_pos e, List.filter_cons_of_pos e]; rfl
  · rw [if_neg e, List.filter_cons_of_neg e]; rfl
theorem heldL_len (had : Int) (l : List Sec) : (heldL had l).length ≤ l.length := by
  rw [heldL, List.length_map]; exact List.length_filter_le _ _
theorem RightP.sec {t : Task} (h : RightP t) {k : Nat} (hk : k < t.Secs.length) : secP t.C t.Secs[k] := h.2.1 _ (List.getElem_mem hk)
theorem RightP.len {t : Task} (h : RightP t) : t.Secs.length ≤ 4 := h.1.2.2.2.2
theorem RightP.c {t : Task} (h : RightP t) : 1 ≤ t.C ∧ t.C ≤ t.D ∧ t.D ≤ t.T ∧ t.T ≤ 200 := ⟨h.1.1, h.1.2.1, h.1.2.2.1, h.1.2.2.2.1⟩

theorem task_Held_eq (t : Task) (had : Int) : task_Held t had = some (held t had) := by
  unfold task_Held
  rw [bnd_eq (task_Right_eq _)]
  by_cases hr : RightP t
  rotate_left
  · rw [right_f.2 hr, Bool.not_false, fk_t, held, right_f.2 hr]; rfl
  have hl := hr.len
  have hc := hr.c
  rw [right_t.2 hr, Bool.not_true, fk_f]
  refine lp_upS t.Secs.length (by unfold FU; omega) (fun k out => out = heldL had (t.Secs.take k)) [] rfl ?_
  intro nx k out hk J hnx
  subst J
  rw [lt_nat]
  by_cases h : k < t.Secs.length
  · have hs := hr.sec h
    unfold secP at hs
    have hn := fun s' => hnx s' h
    have hlen := heldL_len had (t.Secs.take k)
    rw [List.length_take] at hlen
    rw [decide_eq_true h, fk_t, jn_eq, ix_lt h]
    simp only [jn_eq]
    rw [wr_succ k _ h (by omega), wr_in _ (by omega)]
    simp only [fk_if, decide_eq_true_eq]
    split
    · split
      · rw [ck_t (by simp; omega)]
        refine hn _ ?_
        rw [heldL_succ _ _ _ h, if_pos]
        simp [holds, *]
      · refine hn _ ?_
        rw [heldL_succ _ _ _ h, if_neg, List.append_nil]
        simp [holds, *]
    · rw [if_neg (by simp)]
      refine hn _ ?_
      rw [heldL_succ _ _ _ h, if_neg, List.append_nil]
      simp [holds, *]
  · rw [decide_eq_false h, fk_f, held, right_t.2 hr, if_pos rfl]
    have : k = t.Secs.length := by omega
    rw [this, List.take_length]

def usesP (t : Task) (res : Int) : Prop := RightP t ∧ ∃ s ∈ t.Secs, s.Res = res
instance (t : Task) (res : Int) : Decidable (usesP t res) := by unfold usesP; infer_instance
theorem task_Uses_eq (t : Task) (res : Int) : task_Uses t res = some (decide (usesP t res)) := by
  unfold task_Uses
  rw [bnd_eq (task_Right_eq _)]
  by_cases hr : RightP t
  rotate_left
  · rw [right_f.2 hr, Bool.not_false, fk_t]; exact dec_f fun h => hr h.1
  have hl := hr.len
  rw [right_t.2 hr, Bool.not_true, fk_f]
  refine lp_up t.Secs.length (by unfold FU; omega) (fun k => ∀ j (h : j < t.Secs.length), j < k → t.Secs[j].Res ≠ res) (fun j _ h => by omega) ?_
  intro nx k hk J hnx
  rw [lt_nat]
  by_cases h : k < t.Secs.length
  · rw [decide_eq_true h, fk_t, ix_lt h]
    by_cases e : t.Secs[k].Res = res
    · rw [decide_eq_true e, fk_t]; exact dec_t ⟨hr, _, List.getElem_mem h, e⟩
    · rw [decide_eq_false e, fk_f, wr_succ k _ h (by omega)]
      refine hnx h fun j hj hjk => ?_
      by_cases e2 : j = k
      · subst e2; exact e
      · exact J j hj (by omega)
  · rw [decide_eq_false h, fk_f]
    refine dec_f ?_
    rintro ⟨_, s, hs, e⟩
    obtain ⟨j, hj, rfl⟩ := List.getElem_of_mem hs
    exact J j hj (by omega) e


theorem ref05_Right_eq (t : Task) (hlt : t.Secs.length ≤ 4611686018427387904) : ref05_Right t = some (right t) := by
  unfold ref05_Right
  simp only [jn_eq, fk_t, fk_f]
  by_cases ho : ownP t
  rotate_left
  · have hr : right t = false := right_f.2 fun h => ho h.1
    by_cases c0 : t.C < 1
    · rw [decide_eq_true c0, fk_t, hr]
    rw [decide_eq_false c0, fk_f]
    by_cases c1 : t.D < t.C
    · rw [decide_eq_true c1, fk_t, hr]
    rw [decide_eq_false c1, fk_f]
    by_cases c2 : t.T < t.D
    · rw [decide_eq_true c2, fk_t, hr]
    rw [decide_eq_false c2, fk_f]
    by_cases c3 : t.T > 200
    · rw [decide_eq_true c3, fk_t, hr]
    rw [decide_eq_false c3, fk_f]
    by_cases c4 : (t.Secs.length : Int) > 4
    · rw [decide_eq_true c4, fk_t, hr]
    rw [decide_eq_false c4, fk_f]
    exact absurd (by unfold ownP; omega) ho
  have ho' := ho
  unfold ownP at ho'
  rw [decide_eq_false (by omega), fk_f, decide_eq_false (by omega), fk_f, decide_eq_false (by omega), fk_f, decide_eq_false (by omega), fk_f, decide_eq_false (by omega), fk_f]
  refine lp_up t.Secs.length (by unfold FU; omega) (fun k => (∀ j (h : j < t.Secs.length), j < k → secP t.C t.Secs[j]) ∧ (∀ i j (hi : i < t.Secs.length) (hj : j < t.Secs.length), i < j → j < k → fitsP t.Secs[i] t.Secs[j])) ⟨fun j _ h => by omega, fun i j _ _ _ h => by omega⟩ ?_
  rintro nx k hk ⟨J1, J2⟩ hnx
  rw [lt_nat]
  by_cases h : k < t.Secs.length
  rotate_left
  · rw [decide_eq_false h, fk_f]
    have : right t = true := right_t.2 ⟨ho, fun s hs => by
      obtain ⟨j, hj, rfl⟩ := List.getElem_of_mem hs
      exact J1 j hj (by omega), List.pairwise_iff_getElem.2 fun i j hi hj hij => J2 i j hi hj hij (by omega)⟩
    rw [this]
  rw [decide_eq_true h, fk_t, ix_lt h]
  have hn := hnx h
  clear hnx
  generalize hs : t.Secs[k] = s at *
  by_cases hsec : secP t.C s
  rotate_left
  · have hr : right t = false := right_f.2 fun hr => hsec (hs ▸ hr.2.1 _ (List.getElem_mem h))
    by_cases c0 : s.Res < 0
    · rw [decide_eq_true c0, fk_t, hr]
    rw [decide_eq_false c0, fk_f]
    by_cases c1 : s.Res > 3
    · rw [decide_eq_true c1, fk_t, hr]
    rw [decide_eq_false c1, fk_f]
    by_cases c2 : s.At < 0
    · rw [decide_eq_true c2, fk_t, hr]
    rw [decide_eq_false c2, fk_f]
    by_cases c3 : s.Len < 1
    · rw [decide_eq_true c3, fk_t, hr]
    rw [decide_eq_false c3, fk_f]
    by_cases c4 : s.At > t.C
    · rw [decide_eq_true c4, fk_t, hr]
    rw [decide_eq_false c4, fk_f]
    by_cases c5 : s.Len > t.C
    · rw [decide_eq_true c5, fk_t, hr]
    rw [decide_eq_false c5, fk_f]
    have hw : wr (s.At + s.Len) = s.At + s.Len := wr_in _ (by omega)
    rw [hw]
    by_cases c6 : s.At + s.Len > t.C
    · rw [decide_eq_true c6, fk_t, hr]
    exact absurd (by unfold secP; omega) hsec
  have hsec' := hsec
  unfold secP at hsec'
  have hw : wr (s.At + s.Len) = s.At + s.Len := wr_in _ (by omega)
  rw [hw]
  rw [decide_eq_false (by omega), fk_f, decide_eq_false (by omega), fk_f, decide_eq_false (by omega), fk_f, decide_eq_false (by omega), fk_f, decide_eq_false (by omega), fk_f, decide_eq_false (by omega), fk_f, decide_eq_false (by omega), fk_f]
  refine lp_up k (by unfold FU; omega) (fun j => ∀ i (hi : i < t.Secs.length), i < j → fitsP t.Secs[i] s) (fun i _ h => by omega) ?_
  intro nx2 j hj J3 hnx2
  rw [lt_nat]
  by_cases h2 : j < k
  rotate_left
  · have hjk : j = k := by omega
    subst hjk
    rw [decide_eq_false h2, fk_f, wr_succ j _ h (by omega)]
    refine hn ⟨fun i hi hij => ?_, fun a b ha hb hab hbj => ?_⟩
    · by_cases e : i = j
      · subst e; rw [hs]; exact hsec
      · exact J1 i hi (by omega)
    · by_cases e : b = j
      · subst e; rw [hs]; exact J3 a ha hab
      · exact J2 a b ha hb hab (by omega)
  have hjl : j < t.Secs.length := by omega
  rw [decide_eq_true h2, fk_t, ix_lt hjl]
  have ha := J1 j hjl h2
  have good : fitsP t.Secs[j] s → nx2 (wr ((j : Int) + 1)) = some (right t) := fun hf => by
    rw [wr_succ j k h2 (by omega)]
    refine hnx2 h2 fun i hi hij => ?_
    by_cases e : i = j
    · subst e; exact hf
    · exact J3 i hi (by omega)
  have bad : ¬ fitsP t.Secs[j] s → some false = some (right t) := fun hf => by
    rw [right_f.2 fun hr => hf (hs ▸ List.pairwise_iff_getElem.1 hr.2.2 j k hjl h h2)]
  generalize t.Secs[j] = a at *
  unfold secP at ha
  have hwa : wr (a.At + a.Len) = a.At + a.Len := wr_in _ (by omega)
  rw [hwa]
  have ticks : a.At ≤ s.At → lp (fun nx8 (v8 : Int × Int × Int) => fk (decide (v8.2.2 < s.At + s.Len)) (fk (decide (v8.2.2 < a.At + a.Len)) (nx8 (wr (v8.1 + 1), v8.2.1, wr (v8.2.2 + 1))) (nx8 (v8.1, wr (v8.2.1 + 1), wr (v8.2.2 + 1))))
      (fk (decide (v8.1 > 0)) (fk (decide (v8.2.1 > 0)) (some false) (fk (decide (a.Res = s.Res)) (some false) (nx2 (wr ((j : Int) + 1))))) (nx2 (wr ((j : Int) + 1))))) FU (0, 0, s.At) = some (right t) := by
    intro hle
    refine lp_inv (fun v => (s.At + s.Len - v.2.2).toNat) (fun v => s.At ≤ v.2.2 ∧ v.2.2 ≤ s.At + s.Len ∧ v.1 = max 0 (min v.2.2 (a.At + a.Len) - s.At) ∧ v.2.1 = v.2.2 - s.At - v.1) ?_ FU _ ⟨by simp, by simp; omega, by simp; omega, by simp⟩ (by simp only [FU]; omega)
    rintro nx8 ⟨m, o, q⟩ ⟨i1, i2, i3, i4⟩ hn8
    simp only at i1 i2 i3 i4
    by_cases c1 : q < s.At + s.Len
    · rw [decide_eq_true c1, fk_t]
      by_cases c2 : q < a.At + a.Len
      · rw [decide_eq_true c2, fk_t, wr_in (m + 1) (by omega), wr_in (q + 1) (by omega)]
        exact hn8 _ ⟨by simp only; omega, by simp only; omega, by simp only; omega, by simp only; omega⟩ (by simp only; omega)
      · rw [decide_eq_false c2, fk_f, wr_in (o + 1) (by omega), wr_in (q + 1) (by omega)]
        exact hn8 _ ⟨by simp only; omega, by simp only; omega, by simp only; omega, by simp only; omega⟩ (by simp only; omega)
    · rw [decide_eq_false c1, fk_f]
      by_cases c3 : m > 0
      · rw [decide_eq_true c3, fk_t]
        by_cases c4 : o > 0
        · rw [decide_eq_true c4, fk_t]; exact bad (by unfold fitsP; omega)
        · rw [decide_eq_false c4, fk_f]
          by_cases c5 : a.Res = s.Res
          · rw [decide_eq_true c5, fk_t]; exact bad (by unfold fitsP; omega)
          · rw [decide_eq_false c5, fk_f]; exact good (by unfold fitsP; omega)
      · rw [decide_eq_false c3, fk_f]; exact good (by unfold fitsP; omega)
  by_cases d1 : s.At < a.At
  · rw [decide_eq_true d1, fk_t]; exact bad (by unfold fitsP; omega)
  · rw [decide_eq_false d1, fk_f]
    by_cases d2 : s.At = a.At
    · rw [decide_eq_true d2, fk_t]
      by_cases d3 : s.Len > a.Len
      · rw [decide_eq_true d3, fk_t]; exact bad (by unfold fitsP; omega)
      · rw [decide_eq_false d3, fk_f]; exact ticks (by omega)
    · rw [decide_eq_false d2, fk_f]; exact ticks (by omega)
end Go.Proofs.Ytpoaeepmjfocjaa
namespace Go.Proofs.Ytpoaeepmjfocjaa
open Go Go.VC

theorem law05_knows_eq : law05_knows = some true := by kernel_rfl

theorem eqI_sec (x y : Sec) : eqI [.i .i64 x.Res, .i .i64 x.At, .i .i64 x.Len] [.i .i64 y.Res, .i .i64 y.At, .i .i64 y.Len] = decide (x = y) := by
  unfold eqI
  rw [decide_eq_decide]
  cases x; cases y; simp

theorem ref05_All_eq (l : List Task) (hl : l.length ≤ 4611686018427387904) (hs : ∀ t ∈ l, t.Secs.length ≤ 4611686018427387904) : ref05_All l = some (decide (AllP l)) := by
  unfold ref05_All
  refine lp_upS l.length (by unfold FU; omega) (fun k n => ∃ m : Nat, n = (m : Int) ∧ m ≤ k ∧ ((m = k) ↔ ∀ j (h : j < l.length), j < k → RightP l[j])) 0 ⟨0, rfl, Nat.le_refl _, by simp⟩ ?_
  rintro nx k n hk ⟨m, rfl, hm, J⟩ hnx
  rw [lt_nat]
  by_cases h : k < l.length
  · rw [decide_eq_true h, fk_t, jn_eq, ix_lt h, bnd_eq (ref05_Right_eq _ (hs _ (List.getElem_mem h)))]
    rw [wr_succ k _ h hl, wr_in ((m : Int) + 1) (by omega)]
    by_cases hr : RightP l[k]
    · rw [right_t.2 hr, fk_t]
      refine hnx _ h ⟨m + 1, rfl, by omega, ?_⟩
      constructor
      · intro e j hj hjk
        by_cases e2 : j = k
        · subst e2; exact hr
        · exact J.1 (by omega) j hj (by omega)
      · intro ha
        have := J.2 fun j hj hjk => ha j hj (by omega)
        omega
    · rw [right_f.2 hr, fk_f]
      refine hnx _ h ⟨m, rfl, by omega, ?_⟩
      constructor
      · intro e; omega
      · intro ha; exact absurd (ha k h (by omega)) hr
  · have hkl : k = l.length := by omega
    subst hkl
    rw [decide_eq_false h, fk_f]
    have key : (m = l.length) ↔ ∀ t ∈ l, RightP t := by
      rw [J]
      constructor
      · intro ha t ht
        obtain ⟨j, hj, rfl⟩ := List.getElem_of_mem ht
        exact ha j hj hj
      · intro ha j hj _; exact ha _ (List.getElem_mem hj)
    by_cases e : m = l.length
    · rw [decide_eq_true (by omega), fk_t]
      exact dec_iff ⟨fun h8 => ⟨key.1 e, by omega⟩, fun ha => by have := ha.2; omega⟩
    · rw [decide_eq_false (by omega), fk_f]
      exact dec_f fun ha => e (key.2 ha.1)

theorem secs_eq {a b : Task} : a = b ↔ a.C = b.C ∧ a.D = b.D ∧ a.T = b.T ∧ a.Secs = b.Secs := by
  cases a; cases b; simp

theorem task_Same_eq (a b : Task) (hl : a.Secs.length ≤ 4611686018427387904) : task_Same a b = some (decide (a = b)) := by
  unfold task_Same
  rw [jn_eq]
  simp only [fk_t, ← decide_not]
  by_cases c1 : a.C = b.C
  rotate_left
  · rw [decide_eq_true c1, fk_t]; exact dec_f fun e => c1 (e ▸ rfl)
  by_cases c2 : a.D = b.D
  rotate_left
  · rw [decide_eq_false (not_not_intro c1), fk_f, decide_eq_true c2, fk_t]; exact dec_f fun e => c2 (e ▸ rfl)
  by_cases c3 : a.T = b.T
  rotate_left
  · rw [decide_eq_false (not_not_intro c1), fk_f, decide_eq_false (not_not_intro c2), fk_f, decide_eq_true c3, fk_t]; exact dec_f fun e => c3 (e ▸ rfl)
  rw [decide_eq_false (not_not_intro c1), fk_f, decide_eq_false (not_not_intro c2), fk_f, decide_eq_false (not_not_intro c3), fk_f]
  by_cases c4 : (a.Secs.length : Int) = (b.Secs.length : Int)
  rotate_left
  · rw [decide_eq_true c4, fk_t]; exact dec_f fun e => c4 (e ▸ rfl)
  rw [decide_eq_false (not_not_intro c4), fk_f]
  have c5 : a.Secs.length = b.Secs.length := by omega
  refine lp_up a.Secs.length (by unfold FU; omega) (fun k => ∀ j (h : j < a.Secs.length) (h' : j < b.Secs.length), j < k → a.Secs[j] = b.Secs[j]) (fun j _ _ h => by omega) ?_
  intro nx k hk J hnx
  rw [lt_nat]
  by_cases h : k < a.Secs.length
  · have h' : k < b.Secs.length := by omega
    rw [decide_eq_true h, fk_t, ix_lt h, ix_lt h', eqI_sec]
    by_cases e : a.Secs[k] = b.Secs[k]
    · rw [decide_eq_true e, Bool.not_true, fk_f, wr_succ k _ h hl]
      refine hnx h fun j hj hj' hjk => ?_
      by_cases e2 : j = k
      · subst e2; exact e
      · exact J j hj hj' (by omega)
    · rw [decide_eq_false e, Bool.not_false, fk_t]
      exact dec_f fun e2 => e (by subst e2; rfl)
  · rw [decide_eq_false h, fk_f]
    exact dec_t (secs_eq.2 ⟨c1, c2, c3, List.ext_getElem c5 fun j h1 h2 => J j h1 h2 (by omega)⟩)

theorem ref05_Same_eq (a b : Task) (hl : a.Secs.length ≤ 4611686018427387904) : ref05_Same a b = some (decide (a = b)) := by
  unfold ref05_Same
  refine lp_up a.Secs.length (by unfold FU; omega) (fun k => k ≤ b.Secs.length ∧ ∀ j (h : j < a.Secs.length) (h' : j < b.Secs.length), j < k → a.Secs[j] = b.Secs[j]) ⟨Nat.zero_le _, fun j _ _ h => by omega⟩ ?_
  rintro nx k hk ⟨hkb, J⟩ hnx
  simp only [jn_eq]
  have fin : ¬ (k < a.Secs.length ∧ k < b.Secs.length) → (fk (decide (a.C = b.C)) (fk (decide (a.D = b.D)) (fk (decide (a.T = b.T)) (some (decide ((a.Secs.length : Int) = (b.Secs.length : Int)))) (some false)) (some false)) (some false)) = some (decide (a = b)) := by
    intro hn
    by_cases c1 : a.C = b.C
    rotate_left
    · rw [decide_eq_false c1, fk_f]; exact dec_f fun e => c1 (e ▸ rfl)
    by_cases c2 : a.D = b.D
    rotate_left
    · rw [decide_eq_true c1, fk_t, decide_eq_false c2, fk_f]; exact dec_f fun e => c2 (e ▸ rfl)
    by_cases c3 : a.T = b.T
    rotate_left
    · rw [decide_eq_true c1, fk_t, decide_eq_true c2, fk_t, decide_eq_false c3, fk_f]; exact dec_f fun e => c3 (e ▸ rfl)
    rw [decide_eq_true c1, fk_t, decide_eq_true c2, fk_t, decide_eq_true c3, fk_t]
    refine dec_iff ⟨fun e => ?_, fun e => by rw [e]⟩
    have c5 : a.Secs.length = b.Secs.length := by omega
    exact secs_eq.2 ⟨c1, c2, c3, List.ext_getElem c5 fun j h1 h2 => J j h1 h2 (by omega)⟩
  rw [lt_nat]
  by_cases h : k < a.Secs.length
  rotate_left
  · rw [decide_eq_false h, fk_f, fk_f]; exact fin fun hh => h hh.1
  rw [decide_eq_true h, fk_t, lt_nat]
  by_cases h' : k < b.Secs.length
  rotate_left
  · rw [decide_eq_false h', fk_f]; exact fin fun hh => h' hh.2
  rw [decide_eq_true h', fk_t, ix_lt h, ix_lt h', eqI_sec]
  by_cases e : a.Secs[k] = b.Secs[k]
  · rw [decide_eq_true e, Bool.not_true, fk_f, wr_succ k _ h hl]
    refine hnx h ⟨by omega, fun j hj hj' hjk => ?_⟩
    by_cases e2 : j = k
    · subst e2; exact e
    · exact J j hj hj' (by omega)
  · rw [decide_eq_false e, Bool.not_false, fk_t]
    exact dec_f fun e2 => e (by subst e2; rfl)

def GreatP (l : List Task) : Prop := (∃ t ∈ l, 20 < t.Secs.length) ∨ 20 < l.length
instance (l : List Task) : Decidable (GreatP l) := by unfold GreatP; infer_instance
theorem law05_Great_eq (l : List Task) (hl : l.length ≤ 4611686018427387904) : law05_Great l = some (decide (GreatP l)) := by
  unfold law05_Great
  refine lp_up l.length (by unfold FU; omega) (fun k => ∀ j (h : j < l.length), j < k → l[j].Secs.length ≤ 20) (fun j _ h => by omega) ?_
  intro nx k hk J hnx
  rw [lt_nat]
  by_cases h : k < l.length
  · rw [decide_eq_true h, fk_t, ix_lt h]
    by_cases e : (l[k].Secs.length : Int) > 20
    · rw [decide_eq_true e, fk_t]; exact dec_t (.inl ⟨_, List.getElem_mem h, by omega⟩)
    · rw [decide_eq_false e, fk_f, wr_succ k _ h hl]
      refine hnx h fun j hj hjk => ?_
      by_cases e2 : j = k
      · subst e2; omega
      · exact J j hj (by omega)
  · rw [decide_eq_false h, fk_f]
    refine dec_iff ⟨fun h20 => .inr (by omega), ?_⟩
    rintro (⟨t, ht, h20⟩ | h20)
    · obtain ⟨j, hj, rfl⟩ := List.getElem_of_mem ht
      have := J j hj (by omega)
      omega
    · omega

theorem wf_len {l : List Task} {n : Nat} (h : l.length * 48 ≤ n) (hn : n ≤ BB) : l.length ≤ 4611686018427387904 := by unfold BB at hn; omega
theorem Task.wf.len {t : Task} (h : t.wf) : t.Secs.length ≤ 4611686018427387904 := by have := h.2.2.2.1; unfold BB at this; omega
theorem wfI_64 {n : Int} (h : wfI .i64 n) : -9223372036854775808 ≤ n ∧ n ≤ 9223372036854775807 := by
  unfold wfI at h
  simp only [Lit.wf, Bool.and_eq_true, decide_eq_true_eq] at h
  have h1 : IntKind.i64.min = -9223372036854775808 := rfl
  have h2 : IntKind.i64.max = 9223372036854775807 := rfl
  rwa [h1, h2] at h
theorem wfI_8 {n : Int} (h : wfI .u8 n) : 0 ≤ n ∧ n ≤ 255 := by
  unfold wfI at h
  simp only [Lit.wf, Bool.and_eq_true, decide_eq_true_eq] at h
  have h1 : IntKind.u8.min = 0 := rfl
  have h2 : IntKind.u8.max = 255 := rfl
  rwa [h1, h2] at h
end Go.Proofs.Ytpoaeepmjfocjaa
namespace Go.Proofs.Ytpoaeepmjfocjaa
open Go Go.VC

theorem held_right {t : Task} (h : RightP t) (had : Int) : held t had = heldL had t.Secs := by rw [held, right_t.2 h, if_pos rfl]
theorem held_len (t : Task) (had : Int) (h : RightP t) : (held t had).length ≤ 4 := by
  rw [held_right h]; exact Nat.le_trans (heldL_len _ _) h.len
theorem holds_iff {had : Int} {s : Sec} : holds had s = true ↔ s.At < had ∧ had < s.At + s.Len := by
  unfold holds; simp
theorem held_nodup {t : Task} (h : RightP t) (had : Int) : (held t had).Nodup := by
  rw [held_right h, heldL, List.Nodup, List.pairwise_map]
  have hp := (h.2.2).filter (holds had)
  refine hp.imp_of_mem ?_
  intro a b ha hb hf
  have h1 := holds_iff.1 (List.mem_filter.1 ha).2
  have h2 := holds_iff.1 (List.mem_filter.1 hb).2
  unfold fitsP at hf
  omega
theorem held_mem {t : Task} (h : RightP t) {had r : Int} (hr : r ∈ held t had) : ∃ s ∈ t.Secs, s.Res = r ∧ s.At < had ∧ had < s.At + s.Len := by
  rw [held_right h, heldL] at hr
  obtain ⟨s, hs, rfl⟩ := List.mem_map.1 hr
  obtain ⟨h1, h2⟩ := List.mem_filter.1 hs
  exact ⟨s, h1, rfl, holds_iff.1 h2⟩
theorem held_uses {t : Task} (h : RightP t) {had r : Int} (hr : r ∈ held t had) : usesP t r := by
  obtain ⟨s, hs, e, _⟩ := held_mem h hr
  exact ⟨h, s, hs, e⟩
theorem held_out {t : Task} (h : RightP t) {had : Int} (ho : had ≤ 0 ∨ t.C ≤ had) : held t had = [] := by
  rw [List.eq_nil_iff_forall_not_mem]
  intro r hr
  obtain ⟨s, hs, e, h1, h2⟩ := held_mem h hr
  have := h.2.1 s hs
  unfold secP at this
  omega

theorem idx_u8 {l : List Task} {a : Int} (ha : wfI .u8 a) (hl : l.length ≤ 4611686018427387904) (h0 : l.length ≠ 0) : 0 ≤ (IntKind.i64.wrap a).tmod (l.length : Int) ∧ ((IntKind.i64.wrap a).tmod (l.length : Int)).toNat < l.length := by
  have := wfI_8 ha
  have e : IntKind.i64.wrap a = a := wr_in a (by omega)
  rw [e, Int.tmod_eq_emod_of_nonneg (by omega)]
  have h1 := Int.emod_nonneg a (b := (l.length : Int)) (by omega)
  have h2 := Int.emod_lt_of_pos a (b := (l.length : Int)) (by omega)
  omega
theorem knows_if (b : Bool) : fk b (some true) (some true) = some true := by cases b <;> rfl
end Go.Proofs.Ytpoaeepmjfocjaa
namespace Go.Proofs.Ytpoaeepmjfocjaa
open Go Go.VC
noncomputable def law06_great (a0 : List Task) (a1 : List Int) : Option Bool :=
  bnd (law05_Great a0) fun x1 => fk x1 (some true) (some (decide ((a1.length : Int) > (50 : Int))))
theorem law06_great_w (a0 : List Task) (a1 : List Int) (r : Bool) (h : law06_great a0 a1 = some r) : Go.VC.Spec Try.prog 24 [.d (.sl (a0.map Task.enc)), .d (.sl (a1.map (eI .i64)))] (fun y => y = E_Bool r) := by
  refine Go.VC.Spec.of_xc (args := [.d (.sl (a0.map Task.enc)), .d (.sl (a1.map (eI .i64)))]) (fn := Try.f24) tab ⟨[(0, [0, 1]), (1, [4])], [], [], []⟩ 12 [.tmp 4] rfl rfl rfl rfl rfl rfl ?_
  refine caS (E := E_Bool) h (law05_Great_w a0) rfl (fun _ => rfl) (fun x1 h => ?_)
  refine fkS h (fun h => ?_) (fun h => ?_)
  · exact rt (E := E_Bool) h rfl
  refine lenS a1 (eI .i64) rfl ?_
  exact rt (E := E_Bool) h rfl

end Go.Proofs.Ytpoaeepmjfocjaa
namespace Go.Proofs.Ytpoaeepmjfocjaa
open Go Go.VC
noncomputable def level_level (a0 : List Task) (a1 : Task) : Option Int :=
  lp (fun nx1 (v1 : Int × Int) => fk (decide (v1.2 < (a0.length : Int))) (jn (fun (w2 : Int) => nx1 (w2, (wr (v1.2 + (1 : Int))))) (fun k2 => ix a0 v1.2 fun x3 => fk (decide (x3.D > a1.D)) (k2 (wr (v1.1 + (1 : Int)))) (k2 v1.1))) (some v1.1)) FU ((1 : Int), (0 : Int))
theorem level_level_w (a0 : List Task) (a1 : Task) (r : Int) (h : level_level a0 a1 = some r) : Go.VC.Spec Try.prog 43 [.d (.sl (a0.map Task.enc)), .agg (Task.enc a1)] (fun y => y = E_Int r) := by
  refine Go.VC.Spec.of_xc (args := [.d (.sl (a0.map Task.enc)), .agg (Task.enc a1)]) (fn := Try.f43) tab ⟨[(0, [0, 3]), (1, [0, 3, 5]), (2, [3, 5, 8, 9, 10]), (3, [3, 5, 8, 9, 10, 11]), (4, [3, 5, 7, 8, 9, 10]), (5, [3, 5, 8, 9, 10, 18]), (6, [3, 5, 8, 9, 10]), (7, [3, 5, 8, 9, 10]), (8, [4])], [], [7], []⟩ 23 [.tmp 4] rfl rfl rfl rfl rfl rfl ?_
  refine lenS a0 Task.enc rfl ?_
  refine lpS (fun v1 => ⟨[(3, .l (.ptr 4 0)), (5, .l (.d (.int .i64 v1.1))), (8, .l (.d (.sl (a0.map Task.enc)))), (9, .l (.d (.int .i64 (a0.length : Int)))), (10, .l (.d (.int .i64 v1.2)))], 23, [], [(4, [.d (.int .i64 a1.C), .d (.int .i64 a1.D), .d (.int .i64 a1.T), .d (.sl (a1.Secs.map Sec.enc))])], []⟩) h (Weak.refl _) (fun _ nx1 hn1 v1 h => ?_)
  refine fkS h (fun h => ?_) (fun h => ?_)
  · refine jnS (fun w2 => ⟨[(3, .l (.ptr 4 0)), (5, .l (.d (.int .i64 w2))), (8, .l (.d (.sl (a0.map Task.enc)))), (9, .l (.d (.int .i64 (a0.length : Int)))), (10, .l (.d (.int .i64 v1.2)))], 23, [], [(4, [.d (.int .i64 a1.C), .d (.int .i64 a1.D), .d (.int .i64 a1.T), .d (.sl (a1.Secs.map Sec.enc))])], []⟩) h (fun k2 hk2 h => ?_) (fun w2 h => ?_)
    · refine ixS (enc := Task.enc) h rfl (fun _ => rfl) (fun x3 h => ?_)
      refine fkS h (fun h => ?_) (fun h => ?_)
      · exact jeS hk2 h (Weak.refl _)
      exact jeS hk2 h (Weak.trans (Weak.keepS _ [3, 5, 8, 9, 10]) (Weak.refl _))
    exact leS hn1 h (Weak.refl _)
  exact rt (E := E_Int) h rfl

end Go.Proofs.Ytpoaeepmjfocjaa
namespace Go.Proofs.Ytpoaeepmjfocjaa
open Go Go.VC
noncomputable def level_Of (a0 : List Task) (a1 : Int) : Option Int :=
  jn (fun (w1 : Bool) => fk w1 (some (0 : Int)) (ix a0 a1 fun x3 => bnd (level_level a0 x3) fun x4 => some x4)) (fun k1 => bnd (task_All a0) fun x2 => fk (!x2) (k1 true) (fk (decide (a1 < (0 : Int))) (k1 true) (k1 (decide (a1 ≥ (a0.length : Int))))))
theorem level_Of_w (a0 : List Task) (a1 : Int) (r : Int) (h : level_Of a0 a1 = some r) : Go.VC.Spec Try.prog 26 [.d (.sl (a0.map Task.enc)), .d (.int .i64 a1)] (fun y => y = E_Int r) := by
  refine Go.VC.Spec.of_xc (args := [.d (.sl (a0.map Task.enc)), .d (.int .i64 a1)]) (fn := Try.f26) tab ⟨[(0, [0, 1]), (1, [0, 1, 17]), (2, [4]), (3, [4])], [], [100017], []⟩ 24 [.tmp 4] rfl rfl rfl rfl rfl rfl ?_
  refine jnS (fun w1 => ⟨[(0, .l (.d (.sl (a0.map Task.enc)))), (1, .l (.d (.int .i64 a1))), (17, .l (.d (.bool w1)))], 24, [], [], []⟩) h (fun k1 hk1 h => ?_) (fun w1 h => ?_)
  · refine caS (E := E_Bool) h (task_All_w a0) rfl (fun _ => rfl) (fun x2 h => ?_)
    refine fkS h (fun h => ?_) (fun h => ?_)
    · exact jeS hk1 h (Weak.refl _)
    refine fkS h (fun h => ?_) (fun h => ?_)
    · exact jeS hk1 h (Weak.refl _)
    refine lenS a0 Task.enc rfl ?_
    exact jeS hk1 h (Weak.refl _)
  refine fkS h (fun h => ?_) (fun h => ?_)
  · exact rt (E := E_Int) h rfl
  refine ixS (enc := Task.enc) h rfl (fun _ => rfl) (fun x3 h => ?_)
  refine caS (E := E_Int) h (level_level_w a0 x3) rfl (fun _ => rfl) (fun x4 h => ?_)
  exact rt (E := E_Int) h rfl

end Go.Proofs.Ytpoaeepmjfocjaa
namespace Go.Proofs.Ytpoaeepmjfocjaa
open Go Go.VC
noncomputable def level_Ceiling_1 (a0 : Task) (a1 : Int) (a2 : List Task) : Option Int :=
  bnd (task_Uses a0 a1) fun x1 => fk (!x1) (some (0 : Int)) (bnd (level_level a2 a0) fun x2 => some x2)
theorem level_Ceiling_1_w (a0 : Task) (a1 : Int) (a2 : List Task) (r : Int) (h : level_Ceiling_1 a0 a1 a2 = some r) : Go.VC.Spec Try.prog 45 [.agg (Task.enc a0), .dp [.int .i64 a1], .dp [.sl (a2.map Task.enc)]] (fun y => y = E_Int r) := by
  refine Go.VC.Spec.of_xc (args := [.agg (Task.enc a0), .dp [.int .i64 a1], .dp [.sl (a2.map Task.enc)]]) (fn := Try.f45) tab ⟨[(0, [1, 2, 3]), (1, [2, 3, 8]), (2, [4]), (3, [4])], [], [], []⟩ 12 [.tmp 4] rfl rfl rfl rfl rfl rfl ?_
  refine caS (E := E_Bool) h (task_Uses_w a0 a1) rfl (fun _ => rfl) (fun x1 h => ?_)
  refine fkS h (fun h => ?_) (fun h => ?_)
  · exact rt (E := E_Int) h rfl
  refine caS (E := E_Int) h (level_level_w a2 a0) rfl (fun _ => rfl) (fun x2 h => ?_)
  exact rt (E := E_Int) h rfl

end Go.Proofs.Ytpoaeepmjfocjaa
namespace Go.Proofs.Ytpoaeepmjfocjaa
open Go Go.VC
noncomputable def level_most_api_Task (a0 : List Task) (a1 : Int) (a2 : List Task) : Option Int :=
  lp (fun nx1 (v1 : Int × Int) => fk (decide (v1.2 < (a0.length : Int))) (ix a0 v1.2 fun x2 => bnd (level_Ceiling_1 x2 a1 a2) fun x3 => nx1 ((if x3 > v1.1 then x3 else v1.1), (wr (v1.2 + (1 : Int))))) (some v1.1)) FU ((0 : Int), (0 : Int))
theorem level_most_api_Task_w (a0 : List Task) (a1 : Int) (a2 : List Task) (r : Int) (h : level_most_api_Task a0 a1 a2 = some r) : Go.VC.Spec Try.prog 44 [.d (.sl (a0.map Task.enc)), .d (.fn 45 [[.int .i64 a1], [.sl (a2.map Task.enc)]])] (fun y => y = E_Int r) := by
  refine Go.VC.Spec.of_xc (args := [.d (.sl (a0.map Task.enc)), .d (.fn 45 [[.int .i64 a1], [.sl (a2.map Task.enc)]])]) (fn := Try.f44) tab ⟨[(0, [0, 1]), (1, [0, 1, 5]), (2, [1, 5, 8, 9, 10]), (3, [1, 5, 8, 9, 10, 11]), (4, [1, 5, 7, 8, 9, 10]), (5, [1, 5, 8, 9, 10]), (6, [1, 5, 8, 9, 10]), (7, [4])], [], [], []⟩ 21 [.tmp 4] rfl rfl rfl rfl rfl rfl ?_
  refine lenS a0 Task.enc rfl ?_
  refine lpS (fun v1 => ⟨[(1, .l (.d (.fn 45 [[.int .i64 a1], [.sl (a2.map Task.enc)]]))), (5, .l (.d (.int .i64 v1.1))), (8, .l (.d (.sl (a0.map Task.enc)))), (9, .l (.d (.int .i64 (a0.length : Int)))), (10, .l (.d (.int .i64 v1.2)))], 21, [], [], []⟩) h (Weak.refl _) (fun _ nx1 hn1 v1 h => ?_)
  refine fkS h (fun h => ?_) (fun h => ?_)
  · refine ixS (enc := Task.enc) h rfl (fun _ => rfl) (fun x2 h => ?_)
    refine caS (E := E_Int) h (level_Ceiling_1_w x2 a1 a2) rfl (fun _ => rfl) (fun x3 h => ?_)
    exact leS hn1 h (Weak.refl _)
  exact rt (E := E_Int) h rfl

end Go.Proofs.Ytpoaeepmjfocjaa
namespace Go.Proofs.Ytpoaeepmjfocjaa
open Go Go.VC
noncomputable def level_Ceiling (a0 : List Task) (a1 : Int) : Option Int :=
  bnd (task_All a0) fun x1 => fk (!x1) (some (0 : Int)) (bnd (level_most_api_Task a0 a1 a0) fun x2 => some x2)
theorem level_Ceiling_w (a0 : List Task) (a1 : Int) (r : Int) (h : level_Ceiling a0 a1 = some r) : Go.VC.Spec Try.prog 27 [.d (.sl (a0.map Task.enc)), .d (.int .i64 a1)] (fun y => y = E_Int r) := by
  refine Go.VC.Spec.of_xc (args := [.d (.sl (a0.map Task.enc)), .d (.int .i64 a1)]) (fn := Try.f27) tab ⟨[(0, [2, 3]), (1, [2, 3, 7]), (2, [4]), (3, [4])], [], [], []⟩ 11 [.tmp 4] rfl rfl rfl rfl rfl rfl ?_
  refine caS (E := E_Bool) h (task_All_w a0) rfl (fun _ => rfl) (fun x1 h => ?_)
  refine fkS h (fun h => ?_) (fun h => ?_)
  · exact rt (E := E_Int) h rfl
  refine caS (E := E_Int) h (level_most_api_Task_w a0 a1 a0) rfl (fun _ => rfl) (fun x2 h => ?_)
  exact rt (E := E_Int) h rfl

end Go.Proofs.Ytpoaeepmjfocjaa
namespace Go.Proofs.Ytpoaeepmjfocjaa
open Go Go.VC
noncomputable def level_Held_1 (a0 : Int) (a1 : List Task) : Option Int :=
  bnd (level_Ceiling a1 a0) fun x1 => some x1
theorem level_Held_1_w (a0 : Int) (a1 : List Task) (r : Int) (h : level_Held_1 a0 a1 = some r) : Go.VC.Spec Try.prog 47 [.d (.int .i64 a0), .dp [.sl (a1.map Task.enc)]] (fun y => y = E_Int r) := by
  refine Go.VC.Spec.of_xc (args := [.d (.int .i64 a0), .dp [.sl (a1.map Task.enc)]]) (fn := Try.f47) tab ⟨[(0, [0, 1]), (1, [3])], [], [], []⟩ 7 [.tmp 3] rfl rfl rfl rfl rfl rfl ?_
  refine caS (E := E_Int) h (level_Ceiling_w a1 a0) rfl (fun _ => rfl) (fun x1 h => ?_)
  exact rt (E := E_Int) h rfl

end Go.Proofs.Ytpoaeepmjfocjaa
namespace Go.Proofs.Ytpoaeepmjfocjaa
open Go Go.VC
noncomputable def level_most_int (a0 : List Int) (a1 : List Task) : Option Int :=
  lp (fun nx1 (v1 : Int × Int) => fk (decide (v1.2 < (a0.length : Int))) (ix a0 v1.2 fun x2 => bnd (level_Held_1 x2 a1) fun x3 => nx1 ((if x3 > v1.1 then x3 else v1.1), (wr (v1.2 + (1 : Int))))) (some v1.1)) FU ((0 : Int), (0 : Int))
theorem level_most_int_w (a0 : List Int) (a1 : List Task) (r : Int) (h : level_most_int a0 a1 = some r) : Go.VC.Spec Try.prog 46 [.d (.sl (a0.map (eI .i64))), .d (.fn 47 [[.sl (a1.map Task.enc)]])] (fun y => y = E_Int r) := by
  refine Go.VC.Spec.of_xc (args := [.d (.sl (a0.map (eI .i64))), .d (.fn 47 [[.sl (a1.map Task.enc)]])]) (fn := Try.f46) tab ⟨[(0, [0, 1]), (1, [0, 1, 5]), (2, [1, 5, 8, 9, 10]), (3, [1, 5, 8, 9, 10, 11]), (4, [1, 5, 7, 8, 9, 10]), (5, [1, 5, 8, 9, 10]), (6, [1, 5, 8, 9, 10]), (7, [4])], [], [], []⟩ 21 [.tmp 4] rfl rfl rfl rfl rfl rfl ?_
  refine lenS a0 (eI .i64) rfl ?_
  refine lpS (fun v1 => ⟨[(1, .l (.d (.fn 47 [[.sl (a1.map Task.enc)]]))), (5, .l (.d (.int .i64 v1.1))), (8, .l (.d (.sl (a0.map (eI .i64))))), (9, .l (.d (.int .i64 (a0.length : Int)))), (10, .l (.d (.int .i64 v1.2)))], 21, [], [], []⟩) h (Weak.refl _) (fun _ nx1 hn1 v1 h => ?_)
  refine fkS h (fun h => ?_) (fun h => ?_)
  · refine ixS (enc := (eI .i64)) h rfl (fun _ => rfl) (fun x2 h => ?_)
    refine caS (E := E_Int) h (level_Held_1_w x2 a1) rfl (fun _ => rfl) (fun x3 h => ?_)
    exact leS hn1 h (Weak.refl _)
  exact rt (E := E_Int) h rfl

end Go.Proofs.Ytpoaeepmjfocjaa
namespace Go.Proofs.Ytpoaeepmjfocjaa
open Go Go.VC
noncomputable def level_Held (a0 : List Task) (a1 : List Int) : Option Int :=
  bnd (level_most_int a1 a0) fun x1 => some x1
theorem level_Held_w (a0 : List Task) (a1 : List Int) (r : Int) (h : level_Held a0 a1 = some r) : Go.VC.Spec Try.prog 28 [.d (.sl (a0.map Task.enc)), .d (.sl (a1.map (eI .i64)))] (fun y => y = E_Int r) := by
  refine Go.VC.Spec.of_xc (args := [.d (.sl (a0.map Task.enc)), .d (.sl (a1.map (eI .i64)))]) (fn := Try.f28) tab ⟨[(0, [1, 2]), (1, [4])], [], [], []⟩ 8 [.tmp 4] rfl rfl rfl rfl rfl rfl ?_
  refine caS (E := E_Int) h (level_most_int_w a1 a0) rfl (fun _ => rfl) (fun x1 h => ?_)
  exact rt (E := E_Int) h rfl

end Go.Proofs.Ytpoaeepmjfocjaa
namespace Go.Proofs.Ytpoaeepmjfocjaa
open Go Go.VC
noncomputable def level_Passes (a0 : List Task) (a1 : Int) (a2 : List Int) : Option Bool :=
  bnd (level_Of a0 a1) fun x1 => bnd (level_Held a0 a2) fun x2 => some (decide (x1 > x2))
theorem level_Passes_w (a0 : List Task) (a1 : Int) (a2 : List Int) (r : Bool) (h : level_Passes a0 a1 a2 = some r) : Go.VC.Spec Try.prog 29 [.d (.sl (a0.map Task.enc)), .d (.int .i64 a1), .d (.sl (a2.map (eI .i64)))] (fun y => y = E_Bool r) := by
  refine Go.VC.Spec.of_xc (args := [.d (.sl (a0.map Task.enc)), .d (.int .i64 a1), .d (.sl (a2.map (eI .i64)))]) (fn := Try.f29) tab ⟨[(0, [0, 1, 2]), (1, [6])], [], [], []⟩ 14 [.tmp 6] rfl rfl rfl rfl rfl rfl ?_
  refine caS (E := E_Int) h (level_Of_w a0 a1) rfl (fun _ => rfl) (fun x1 h => ?_)
  refine caS (E := E_Int) h (level_Held_w a0 a2) rfl (fun _ => rfl) (fun x2 h => ?_)
  exact rt (E := E_Bool) h rfl

end Go.Proofs.Ytpoaeepmjfocjaa
namespace Go.Proofs.Ytpoaeepmjfocjaa
open Go Go.VC
noncomputable def law06_knows  : Option Bool :=
  bnd (level_Of ([⟨(1 : Int), (4 : Int), (9 : Int), ([⟨(0 : Int), (0 : Int), (1 : Int)⟩] : List Sec)⟩, ⟨(1 : Int), (6 : Int), (9 : Int), ([⟨(0 : Int), (0 : Int), (1 : Int)⟩] : List Sec)⟩, ⟨(1 : Int), (6 : Int), (9 : Int), []⟩] : List Task) (0 : Int)) fun x1 => fk (decide (x1 = (3 : Int))) (bnd (level_Of ([⟨(1 : Int), (4 : Int), (9 : Int), ([⟨(0 : Int), (0 : Int), (1 : Int)⟩] : List Sec)⟩, ⟨(1 : Int), (6 : Int), (9 : Int), ([⟨(0 : Int), (0 : Int), (1 : Int)⟩] : List Sec)⟩, ⟨(1 : Int), (6 : Int), (9 : Int), []⟩] : List Task) (1 : Int)) fun x2 => fk (decide (x2 = (1 : Int))) (bnd (level_Of ([⟨(1 : Int), (4 : Int), (9 : Int), ([⟨(0 : Int), (0 : Int), (1 : Int)⟩] : List Sec)⟩, ⟨(1 : Int), (6 : Int), (9 : Int), ([⟨(0 : Int), (0 : Int), (1 : Int)⟩] : List Sec)⟩, ⟨(1 : Int), (6 : Int), (9 : Int), []⟩] : List Task) (2 : Int)) fun x3 => fk (decide (x3 = (1 : Int))) (bnd (level_Ceiling ([⟨(1 : Int), (4 : Int), (9 : Int), ([⟨(0 : Int), (0 : Int), (1 : Int)⟩] : List Sec)⟩, ⟨(1 : Int), (6 : Int), (9 : Int), ([⟨(0 : Int), (0 : Int), (1 : Int)⟩] : List Sec)⟩, ⟨(1 : Int), (6 : Int), (9 : Int), []⟩] : List Task) (0 : Int)) fun x4 => fk (decide (x4 = (3 : Int))) (bnd (level_Ceiling ([⟨(1 : Int), (4 : Int), (9 : Int), ([⟨(0 : Int), (0 : Int), (1 : Int)⟩] : List Sec)⟩, ⟨(1 : Int), (6 : Int), (9 : Int), ([⟨(0 : Int), (0 : Int), (1 : Int)⟩] : List Sec)⟩, ⟨(1 : Int), (6 : Int), (9 : Int), []⟩] : List Task) (1 : Int)) fun x5 => fk (decide (x5 = (0 : Int))) (bnd (level_Held ([⟨(1 : Int), (4 : Int), (9 : Int), ([⟨(0 : Int), (0 : Int), (1 : Int)⟩] : List Sec)⟩, ⟨(1 : Int), (6 : Int), (9 : Int), ([⟨(0 : Int), (0 : Int), (1 : Int)⟩] : List Sec)⟩, ⟨(1 : Int), (6 : Int), (9 : Int), []⟩] : List Task) ([(1 : Int), (0 : Int)] : List Int)) fun x6 => fk (decide (x6 = (3 : Int))) (bnd (level_Passes ([⟨(1 : Int), (4 : Int), (9 : Int), ([⟨(0 : Int), (0 : Int), (1 : Int)⟩] : List Sec)⟩, ⟨(1 : Int), (6 : Int), (9 : Int), ([⟨(0 : Int), (0 : Int), (1 : Int)⟩] : List Sec)⟩, ⟨(1 : Int), (6 : Int), (9 : Int), []⟩] : List Task) (0 : Int) ([(0 : Int)] : List Int)) fun x7 => fk (!x7) (bnd (level_Passes ([⟨(1 : Int), (4 : Int), (9 : Int), ([⟨(0 : Int), (0 : Int), (1 : Int)⟩] : List Sec)⟩, ⟨(1 : Int), (6 : Int), (9 : Int), ([⟨(0 : Int), (0 : Int), (1 : Int)⟩] : List Sec)⟩, ⟨(1 : Int), (6 : Int), (9 : Int), []⟩] : List Task) (2 : Int) []) fun x8 => some x8) (some false)) (some false)) (some false)) (some false)) (some false)) (some false)) (some false)
theorem law06_knows_w  (r : Bool) (h : law06_knows = some r) : Go.VC.Spec Try.prog 25 [] (fun y => y = E_Bool r) := by
  refine Go.VC.Spec.of_xc (args := []) (fn := Try.f25) tab ⟨[(0, []), (1, [1]), (2, [0])], [], [], [(9, [4, 7])]⟩ 49 [.tmp 0] rfl rfl rfl rfl rfl rfl ?_
  refine liS ([⟨(0 : Int), (0 : Int), (1 : Int)⟩] : List Sec) Sec.enc rfl rfl ?_
  refine liS ([⟨(0 : Int), (0 : Int), (1 : Int)⟩] : List Sec) Sec.enc rfl rfl ?_
  refine liS ([⟨(1 : Int), (4 : Int), (9 : Int), ([⟨(0 : Int), (0 : Int), (1 : Int)⟩] : List Sec)⟩, ⟨(1 : Int), (6 : Int), (9 : Int), ([⟨(0 : Int), (0 : Int), (1 : Int)⟩] : List Sec)⟩, ⟨(1 : Int), (6 : Int), (9 : Int), []⟩] : List Task) Task.enc rfl rfl ?_
  refine caS (E := E_Int) h (level_Of_w ([⟨(1 : Int), (4 : Int), (9 : Int), ([⟨(0 : Int), (0 : Int), (1 : Int)⟩] : List Sec)⟩, ⟨(1 : Int), (6 : Int), (9 : Int), ([⟨(0 : Int), (0 : Int), (1 : Int)⟩] : List Sec)⟩, ⟨(1 : Int), (6 : Int), (9 : Int), []⟩] : List Task) (0 : Int)) rfl (fun _ => rfl) (fun x1 h => ?_)
  refine fkS h (fun h => ?_) (fun h => ?_)
  · refine caS (E := E_Int) h (level_Of_w ([⟨(1 : Int), (4 : Int), (9 : Int), ([⟨(0 : Int), (0 : Int), (1 : Int)⟩] : List Sec)⟩, ⟨(1 : Int), (6 : Int), (9 : Int), ([⟨(0 : Int), (0 : Int), (1 : Int)⟩] : List Sec)⟩, ⟨(1 : Int), (6 : Int), (9 : Int), []⟩] : List Task) (1 : Int)) rfl (fun _ => rfl) (fun x2 h => ?_)
    refine fkS h (fun h => ?_) (fun h => ?_)
    · refine caS (E := E_Int) h (level_Of_w ([⟨(1 : Int), (4 : Int), (9 : Int), ([⟨(0 : Int), (0 : Int), (1 : Int)⟩] : List Sec)⟩, ⟨(1 : Int), (6 : Int), (9 : Int), ([⟨(0 : Int), (0 : Int), (1 : Int)⟩] : List Sec)⟩, ⟨(1 : Int), (6 : Int), (9 : Int), []⟩] : List Task) (2 : Int)) rfl (fun _ => rfl) (fun x3 h => ?_)
      refine fkS h (fun h => ?_) (fun h => ?_)
      · refine caS (E := E_Int) h (level_Ceiling_w ([⟨(1 : Int), (4 : Int), (9 : Int), ([⟨(0 : Int), (0 : Int), (1 : Int)⟩] : List Sec)⟩, ⟨(1 : Int), (6 : Int), (9 : Int), ([⟨(0 : Int), (0 : Int), (1 : Int)⟩] : List Sec)⟩, ⟨(1 : Int), (6 : Int), (9 : Int), []⟩] : List Task) (0 : Int)) rfl (fun _ => rfl) (fun x4 h => ?_)
        refine fkS h (fun h => ?_) (fun h => ?_)
        · refine caS (E := E_Int) h (level_Ceiling_w ([⟨(1 : Int), (4 : Int), (9 : Int), ([⟨(0 : Int), (0 : Int), (1 : Int)⟩] : List Sec)⟩, ⟨(1 : Int), (6 : Int), (9 : Int), ([⟨(0 : Int), (0 : Int), (1 : Int)⟩] : List Sec)⟩, ⟨(1 : Int), (6 : Int), (9 : Int), []⟩] : List Task) (1 : Int)) rfl (fun _ => rfl) (fun x5 h => ?_)
          refine fkS h (fun h => ?_) (fun h => ?_)
          · refine liS ([(1 : Int), (0 : Int)] : List Int) (eI .i64) rfl rfl ?_
            refine caS (E := E_Int) h (level_Held_w ([⟨(1 : Int), (4 : Int), (9 : Int), ([⟨(0 : Int), (0 : Int), (1 : Int)⟩] : List Sec)⟩, ⟨(1 : Int), (6 : Int), (9 : Int), ([⟨(0 : Int), (0 : Int), (1 : Int)⟩] : List Sec)⟩, ⟨(1 : Int), (6 : Int), (9 : Int), []⟩] : List Task) ([(1 : Int), (0 : Int)] : List Int)) rfl (fun _ => rfl) (fun x6 h => ?_)
            refine fkS h (fun h => ?_) (fun h => ?_)
            · refine liS ([(0 : Int)] : List Int) (eI .i64) rfl rfl ?_
              refine caS (E := E_Bool) h (level_Passes_w ([⟨(1 : Int), (4 : Int), (9 : Int), ([⟨(0 : Int), (0 : Int), (1 : Int)⟩] : List Sec)⟩, ⟨(1 : Int), (6 : Int), (9 : Int), ([⟨(0 : Int), (0 : Int), (1 : Int)⟩] : List Sec)⟩, ⟨(1 : Int), (6 : Int), (9 : Int), []⟩] : List Task) (0 : Int) ([(0 : Int)] : List Int)) rfl (fun _ => rfl) (fun x7 h => ?_)
              refine fkS h (fun h => ?_) (fun h => ?_)
              · refine caS (E := E_Bool) h (level_Passes_w ([⟨(1 : Int), (4 : Int), (9 : Int), ([⟨(0 : Int), (0 : Int), (1 : Int)⟩] : List Sec)⟩, ⟨(1 : Int), (6 : Int), (9 : Int), ([⟨(0 : Int), (0 : Int), (1 : Int)⟩] : List Sec)⟩, ⟨(1 : Int), (6 : Int), (9 : Int), []⟩] : List Task) (2 : Int) []) rfl (fun _ => rfl) (fun x8 h => ?_)
                exact rt (E := E_Bool) h rfl
              exact rt (E := E_Bool) h rfl
            exact rt (E := E_Bool) h rfl
          exact rt (E := E_Bool) h rfl
        exact rt (E := E_Bool) h rfl
      exact rt (E := E_Bool) h rfl
    exact rt (E := E_Bool) h rfl
  exact rt (E := E_Bool) h rfl

end Go.Proofs.Ytpoaeepmjfocjaa
namespace Go.Proofs.Ytpoaeepmjfocjaa
open Go Go.VC
noncomputable def ref05_Uses (a0 : Task) (a1 : Int) : Option Bool :=
  lp (fun nx1 (v1 : Int × Int) => fk (decide (v1.2 < (a0.Secs.length : Int))) (jn (fun (w2 : Int) => nx1 (w2, (wr (v1.2 + (1 : Int))))) (fun k2 => ix a0.Secs v1.2 fun x3 => fk (decide (x3.Res = a1)) (k2 (wr (v1.1 + (1 : Int)))) (k2 v1.1))) (some (decide (v1.1 > (0 : Int))))) FU ((0 : Int), (0 : Int))
theorem ref05_Uses_w (a0 : Task) (a1 : Int) (r : Bool) (h : ref05_Uses a0 a1 = some r) : Go.VC.Spec Try.prog 33 [.agg (Task.enc a0), .d (.int .i64 a1)] (fun y => y = E_Bool r) := by
  refine Go.VC.Spec.of_xc (args := [.agg (Task.enc a0), .d (.int .i64 a1)]) (fn := Try.f33) tab ⟨[(0, [1, 2]), (1, [1, 2, 5]), (2, [1, 2, 5, 6]), (3, [1, 2, 5, 6, 11]), (4, [1, 2, 5, 6]), (5, [1, 2, 5, 6, 21]), (6, [1, 2, 5, 6]), (7, [4])], [], [4], []⟩ 26 [.tmp 4] rfl rfl rfl rfl rfl rfl ?_
  refine lpS (fun v1 => ⟨[(1, .l (.d (.int .i64 a1))), (2, .l (.ptr 3 0)), (5, .l (.d (.int .i64 v1.1))), (6, .l (.d (.int .i64 v1.2)))], 26, [], [(3, [.d (.int .i64 a0.C), .d (.int .i64 a0.D), .d (.int .i64 a0.T), .d (.sl (a0.Secs.map Sec.enc))])], []⟩) h (Weak.refl _) (fun _ nx1 hn1 v1 h => ?_)
  refine lenS a0.Secs Sec.enc rfl ?_
  refine fkS h (fun h => ?_) (fun h => ?_)
  · refine jnS (fun w2 => ⟨[(1, .l (.d (.int .i64 a1))), (2, .l (.ptr 3 0)), (5, .l (.d (.int .i64 w2))), (6, .l (.d (.int .i64 v1.2)))], 26, [], [(3, [.d (.int .i64 a0.C), .d (.int .i64 a0.D), .d (.int .i64 a0.T), .d (.sl (a0.Secs.map Sec.enc))])], []⟩) h (fun k2 hk2 h => ?_) (fun w2 h => ?_)
    · refine ixS (enc := Sec.enc) h rfl (fun _ => rfl) (fun x3 h => ?_)
      refine fkS h (fun h => ?_) (fun h => ?_)
      · exact jeS hk2 h (Weak.refl _)
      exact jeS hk2 h (Weak.trans (Weak.keepS _ [1, 2, 5, 6]) (Weak.refl _))
    exact leS hn1 h (Weak.refl _)
  exact rt (E := E_Bool) h rfl

end Go.Proofs.Ytpoaeepmjfocjaa
namespace Go.Proofs.Ytpoaeepmjfocjaa
open Go Go.VC
noncomputable def ref06_Of (a0 : List Task) (a1 : Int) : Option Int :=
  lp (fun nx1 (v1 : Int × Int) => fk (decide (v1.2 < (a0.length : Int))) (jn (fun (w2 : Int) => nx1 (w2, (wr (v1.2 + (1 : Int))))) (fun k2 => ix a0 v1.2 fun x3 => ix a0 a1 fun x4 => fk (decide (x3.D > x4.D)) (k2 (wr (v1.1 + (1 : Int)))) (k2 v1.1))) (some (wr (v1.1 + (1 : Int))))) FU ((0 : Int), (0 : Int))
theorem ref06_Of_w (a0 : List Task) (a1 : Int) (r : Int) (h : ref06_Of a0 a1 = some r) : Go.VC.Spec Try.prog 32 [.d (.sl (a0.map Task.enc)), .d (.int .i64 a1)] (fun y => y = E_Int r) := by
  refine Go.VC.Spec.of_xc (args := [.d (.sl (a0.map Task.enc)), .d (.int .i64 a1)]) (fn := Try.f32) tab ⟨[(0, [0, 1]), (1, [0, 1, 5]), (2, [0, 1, 5, 6]), (3, [0, 1, 5, 6, 10]), (4, [0, 1, 5, 6]), (5, [0, 1, 5, 6, 23]), (6, [0, 1, 5, 6]), (7, [4])], [], [4], []⟩ 28 [.tmp 4] rfl rfl rfl rfl rfl rfl ?_
  refine lpS (fun v1 => ⟨[(0, .l (.d (.sl (a0.map Task.enc)))), (1, .l (.d (.int .i64 a1))), (5, .l (.d (.int .i64 v1.1))), (6, .l (.d (.int .i64 v1.2)))], 28, [], [], []⟩) h (Weak.refl _) (fun _ nx1 hn1 v1 h => ?_)
  refine lenS a0 Task.enc rfl ?_
  refine fkS h (fun h => ?_) (fun h => ?_)
  · refine jnS (fun w2 => ⟨[(0, .l (.d (.sl (a0.map Task.enc)))), (1, .l (.d (.int .i64 a1))), (5, .l (.d (.int .i64 w2))), (6, .l (.d (.int .i64 v1.2)))], 28, [], [], []⟩) h (fun k2 hk2 h => ?_) (fun w2 h => ?_)
    · refine ⟨10, ?_⟩
      refine ixS (enc := Task.enc) h rfl (fun _ => rfl) (fun x3 h => ?_)
      refine ixS (enc := Task.enc) h rfl (fun _ => rfl) (fun x4 h => ?_)
      refine drS (by kernel_rfl) ?_
      refine fkS h (fun h => ?_) (fun h => ?_)
      · exact jeS hk2 h (Weak.refl _)
      exact jeS hk2 h (Weak.trans (Weak.keepS _ [0, 1, 5, 6]) (Weak.refl _))
    exact leS hn1 h (Weak.refl _)
  exact rt (E := E_Int) h rfl

end Go.Proofs.Ytpoaeepmjfocjaa
namespace Go.Proofs.Ytpoaeepmjfocjaa
open Go Go.VC
noncomputable def ref06_Ceiling (a0 : List Task) (a1 : Int) : Option Int :=
  lp (fun nx1 (v1 : Int × Int) => fk (decide (v1.2 < (a0.length : Int))) (jn (fun (w2 : Int) => nx1 (w2, (wr (v1.2 + (1 : Int))))) (fun k2 => jn (fun (w3 : Bool) => fk w3 (bnd (ref06_Of a0 v1.2) fun x7 => k2 x7) (k2 v1.1)) (fun k3 => ix a0 v1.2 fun x4 => bnd (ref05_Uses x4 a1) fun x5 => fk x5 (bnd (ref06_Of a0 v1.2) fun x6 => k3 (decide (x6 > v1.1))) (k3 false)))) (some v1.1)) FU ((0 : Int), (0 : Int))
theorem ref06_Ceiling_w (a0 : List Task) (a1 : Int) (r : Int) (h : ref06_Ceiling a0 a1 = some r) : Go.VC.Spec Try.prog 31 [.d (.sl (a0.map Task.enc)), .d (.int .i64 a1)] (fun y => y = E_Int r) := by
  refine Go.VC.Spec.of_xc (args := [.d (.sl (a0.map Task.enc)), .d (.int .i64 a1)]) (fn := Try.f31) tab ⟨[(0, [0, 1]), (1, [0, 1, 5]), (2, [0, 1, 5, 6]), (3, [0, 1, 5, 6, 10]), (4, [0, 1, 5, 6]), (5, [0, 1, 5, 6, 25]), (6, [0, 1, 5, 6]), (7, [4])], [], [100025, 4], []⟩ 30 [.tmp 4] rfl rfl rfl rfl rfl rfl ?_
  refine lpS (fun v1 => ⟨[(0, .l (.d (.sl (a0.map Task.enc)))), (1, .l (.d (.int .i64 a1))), (5, .l (.d (.int .i64 v1.1))), (6, .l (.d (.int .i64 v1.2)))], 30, [], [], []⟩) h (Weak.refl _) (fun _ nx1 hn1 v1 h => ?_)
  refine lenS a0 Task.enc rfl ?_
  refine fkS h (fun h => ?_) (fun h => ?_)
  · refine jnS (fun w2 => ⟨[(0, .l (.d (.sl (a0.map Task.enc)))), (1, .l (.d (.int .i64 a1))), (5, .l (.d (.int .i64 w2))), (6, .l (.d (.int .i64 v1.2)))], 30, [], [], []⟩) h (fun k2 hk2 h => ?_) (fun w2 h => ?_)
    · refine jnS (fun w3 => ⟨[(0, .l (.d (.sl (a0.map Task.enc)))), (1, .l (.d (.int .i64 a1))), (5, .l (.d (.int .i64 v1.1))), (6, .l (.d (.int .i64 v1.2))), (25, .l (.d (.bool w3)))], 30, [], [], []⟩) h (fun k3 hk3 h => ?_) (fun w3 h => ?_)
      · refine ixS (enc := Task.enc) h rfl (fun _ => rfl) (fun x4 h => ?_)
        refine caS (E := E_Bool) h (ref05_Uses_w x4 a1) rfl (fun _ => rfl) (fun x5 h => ?_)
        refine fkS h (fun h => ?_) (fun h => ?_)
        · refine caS (E := E_Int) h (ref06_Of_w a0 v1.2) rfl (fun _ => rfl) (fun x6 h => ?_)
          exact jeS hk3 h (Weak.refl _)
        exact jeS hk3 h (Weak.refl _)
      refine fkS h (fun h => ?_) (fun h => ?_)
      · refine caS (E := E_Int) h (ref06_Of_w a0 v1.2) rfl (fun _ => rfl) (fun x7 h => ?_)
        exact jeS hk2 h (Weak.refl _)
      exact jeS hk2 h (Weak.trans (Weak.keepS _ [0, 1, 5, 6]) (Weak.refl _))
    exact leS hn1 h (Weak.refl _)
  exact rt (E := E_Int) h rfl

end Go.Proofs.Ytpoaeepmjfocjaa
namespace Go.Proofs.Ytpoaeepmjfocjaa
open Go Go.VC
noncomputable def ref06_Held (a0 : List Task) (a1 : List Int) : Option Int :=
  lp (fun nx1 (v1 : Int × Int) => fk (decide (v1.2 < (a1.length : Int))) (jn (fun (w2 : Int) => nx1 (w2, (wr (v1.2 + (1 : Int))))) (fun k2 => ix a1 v1.2 fun x3 => bnd (ref06_Ceiling a0 x3) fun x4 => fk (decide (x4 > v1.1)) (ix a1 v1.2 fun x5 => bnd (ref06_Ceiling a0 x5) fun x6 => k2 x6) (k2 v1.1))) (some v1.1)) FU ((0 : Int), (0 : Int))
theorem ref06_Held_w (a0 : List Task) (a1 : List Int) (r : Int) (h : ref06_Held a0 a1 = some r) : Go.VC.Spec Try.prog 30 [.d (.sl (a0.map Task.enc)), .d (.sl (a1.map (eI .i64)))] (fun y => y = E_Int r) := by
  refine Go.VC.Spec.of_xc (args := [.d (.sl (a0.map Task.enc)), .d (.sl (a1.map (eI .i64)))]) (fn := Try.f30) tab ⟨[(0, [0, 1]), (1, [0, 1, 5]), (2, [0, 1, 5, 6]), (3, [0, 1, 5, 6, 10]), (4, [0, 1, 5, 6]), (5, [0, 1, 5, 6, 20]), (6, [0, 1, 5, 6]), (7, [4])], [], [4], []⟩ 28 [.tmp 4] rfl rfl rfl rfl rfl rfl ?_
  refine lpS (fun v1 => ⟨[(0, .l (.d (.sl (a0.map Task.enc)))), (1, .l (.d (.sl (a1.map (eI .i64))))), (5, .l (.d (.int .i64 v1.1))), (6, .l (.d (.int .i64 v1.2)))], 28, [], [], []⟩) h (Weak.refl _) (fun _ nx1 hn1 v1 h => ?_)
  refine lenS a1 (eI .i64) rfl ?_
  refine fkS h (fun h => ?_) (fun h => ?_)
  · refine jnS (fun w2 => ⟨[(0, .l (.d (.sl (a0.map Task.enc)))), (1, .l (.d (.sl (a1.map (eI .i64))))), (5, .l (.d (.int .i64 w2))), (6, .l (.d (.int .i64 v1.2)))], 28, [], [], []⟩) h (fun k2 hk2 h => ?_) (fun w2 h => ?_)
    · refine ixS (enc := (eI .i64)) h rfl (fun _ => rfl) (fun x3 h => ?_)
      refine caS (E := E_Int) h (ref06_Ceiling_w a0 x3) rfl (fun _ => rfl) (fun x4 h => ?_)
      refine fkS h (fun h => ?_) (fun h => ?_)
      · refine ixS (enc := (eI .i64)) h rfl (fun _ => rfl) (fun x5 h => ?_)
        refine caS (E := E_Int) h (ref06_Ceiling_w a0 x5) rfl (fun _ => rfl) (fun x6 h => ?_)
        exact jeS hk2 h (Weak.refl _)
      exact jeS hk2 h (Weak.trans (Weak.keepS _ [0, 1, 5, 6]) (Weak.refl _))
    exact leS hn1 h (Weak.refl _)
  exact rt (E := E_Int) h rfl

end Go.Proofs.Ytpoaeepmjfocjaa
namespace Go.Proofs.Ytpoaeepmjfocjaa
open Go Go.VC
noncomputable def law06_LevelTells (a0 : List Task) (a1 : Int) (a2 : Int) (a3 : List Int) : Option Bool :=
  bnd (law06_great a0 a3) fun x1 => fk x1 (bnd law06_knows fun x2 => some x2) (bnd (ref05_All a0) fun x3 => fk (!x3) (bnd (level_Of a0 a1) fun x4 => fk (decide (x4 = (0 : Int))) (bnd (level_Ceiling a0 a2) fun x5 => fk (decide (x5 = (0 : Int))) (bnd (level_Held a0 a3) fun x6 => fk (decide (x6 = (0 : Int))) (bnd (level_Passes a0 a1 a3) fun x7 => fk (!x7) (bnd law06_knows fun x8 => some x8) (some false)) (some false)) (some false)) (some false)) (bnd (ref06_Held a0 a3) fun x9 => jn (fun (w10 : Bool) => fk w10 (some false) (jn (fun (w14 : Bool) => fk w14 (bnd (level_Of a0 a1) fun x15 => fk (decide (x15 = (0 : Int))) (bnd (level_Passes a0 a1 a3) fun x16 => fk (!x16) (bnd law06_knows fun x17 => some x17) (some false)) (some false)) (bnd (ref06_Of a0 a1) fun x18 => bnd (level_Of a0 a1) fun x19 => fk (decide (x19 = x18)) (bnd (level_Passes a0 a1 a3) fun x20 => fk (decide (x20 = (decide (x18 > x9)))) (bnd law06_knows fun x21 => some x21) (some false)) (some false))) (fun k14 => fk (decide (a1 < (0 : Int))) (k14 true) (k14 (decide (a1 ≥ (a0.length : Int))))))) (fun k10 => bnd (level_Ceiling a0 a2) fun x11 => bnd (ref06_Ceiling a0 a2) fun x12 => fk (!decide (x11 = x12)) (k10 true) (bnd (level_Held a0 a3) fun x13 => k10 (!decide (x13 = x9))))))
theorem law06_LevelTells_w (a0 : List Task) (a1 : Int) (a2 : Int) (a3 : List Int) (r : Bool) (h : law06_LevelTells a0 a1 a2 a3 = some r) : Go.VC.Spec Try.prog 6 [.d (.sl (a0.map Task.enc)), .d (.int .i64 a1), .d (.int .i64 a2), .d (.sl (a3.map (eI .i64)))] (fun y => y = E_Bool r) := by
  refine Go.VC.Spec.of_xc (args := [.d (.sl (a0.map Task.enc)), .d (.int .i64 a1), .d (.int .i64 a2), .d (.sl (a3.map (eI .i64)))]) (fn := Try.f6) tab ⟨[(0, [0, 1, 2, 3]), (1, [0, 1, 2, 3, 13]), (2, [8]), (3, [0, 1, 2, 3, 17]), (4, [8]), (5, [0, 1, 2, 3, 9]), (6, [0, 1, 3, 9, 60]), (7, [8]), (8, [0, 1, 3, 9, 68]), (9, [8]), (10, [0, 1, 3, 9, 10]), (11, [8])], [], [100060, 100068], []⟩ 104 [.tmp 8] rfl rfl rfl rfl rfl rfl ?_
  refine caS (E := E_Bool) h (law06_great_w a0 a3) rfl (fun _ => rfl) (fun x1 h => ?_)
  refine fkS h (fun h => ?_) (fun h => ?_)
  · refine caS (E := E_Bool) h law06_knows_w rfl (fun _ => rfl) (fun x2 h => ?_)
    exact rt (E := E_Bool) h rfl
  refine caS (E := E_Bool) h (ref05_All_w a0) rfl (fun _ => rfl) (fun x3 h => ?_)
  refine fkS h (fun h => ?_) (fun h => ?_)
  · refine caS (E := E_Int) h (level_Of_w a0 a1) rfl (fun _ => rfl) (fun x4 h => ?_)
    refine fkS h (fun h => ?_) (fun h => ?_)
    · refine caS (E := E_Int) h (level_Ceiling_w a0 a2) rfl (fun _ => rfl) (fun x5 h => ?_)
      refine fkS h (fun h => ?_) (fun h => ?_)
      · refine caS (E := E_Int) h (level_Held_w a0 a3) rfl (fun _ => rfl) (fun x6 h => ?_)
        refine fkS h (fun h => ?_) (fun h => ?_)
        · refine caS (E := E_Bool) h (level_Passes_w a0 a1 a3) rfl (fun _ => rfl) (fun x7 h => ?_)
          refine fkS h (fun h => ?_) (fun h => ?_)
          · refine caS (E := E_Bool) h law06_knows_w rfl (fun _ => rfl) (fun x8 h => ?_)
            exact rt (E := E_Bool) h rfl
          exact rt (E := E_Bool) h rfl
        exact rt (E := E_Bool) h rfl
      exact rt (E := E_Bool) h rfl
    exact rt (E := E_Bool) h rfl
  refine caS (E := E_Int) h (ref06_Held_w a0 a3) rfl (fun _ => rfl) (fun x9 h => ?_)
  refine jnS (fun w10 => ⟨[(0, .l (.d (.sl (a0.map Task.enc)))), (1, .l (.d (.int .i64 a1))), (3, .l (.d (.sl (a3.map (eI .i64))))), (9, .l (.d (.int .i64 x9))), (60, .l (.d (.bool w10)))], 104, [], [], []⟩) h (fun k10 hk10 h => ?_) (fun w10 h => ?_)
  · refine caS (E := E_Int) h (level_Ceiling_w a0 a2) rfl (fun _ => rfl) (fun x11 h => ?_)
    refine caS (E := E_Int) h (ref06_Ceiling_w a0 a2) rfl (fun _ => rfl) (fun x12 h => ?_)
    refine fkS h (fun h => ?_) (fun h => ?_)
    · exact jeS hk10 h (Weak.refl _)
    refine caS (E := E_Int) h (level_Held_w a0 a3) rfl (fun _ => rfl) (fun x13 h => ?_)
    exact jeS hk10 h (Weak.refl _)
  refine fkS h (fun h => ?_) (fun h => ?_)
  · exact rt (E := E_Bool) h rfl
  refine jnS (fun w14 => ⟨[(0, .l (.d (.sl (a0.map Task.enc)))), (1, .l (.d (.int .i64 a1))), (3, .l (.d (.sl (a3.map (eI .i64))))), (9, .l (.d (.int .i64 x9))), (68, .l (.d (.bool w14)))], 104, [], [], []⟩) h (fun k14 hk14 h => ?_) (fun w14 h => ?_)
  · refine fkS h (fun h => ?_) (fun h => ?_)
    · exact jeS hk14 h (Weak.refl _)
    refine lenS a0 Task.enc rfl ?_
    exact jeS hk14 h (Weak.refl _)
  refine fkS h (fun h => ?_) (fun h => ?_)
  · refine caS (E := E_Int) h (level_Of_w a0 a1) rfl (fun _ => rfl) (fun x15 h => ?_)
    refine fkS h (fun h => ?_) (fun h => ?_)
    · refine caS (E := E_Bool) h (level_Passes_w a0 a1 a3) rfl (fun _ => rfl) (fun x16 h => ?_)
      refine fkS h (fun h => ?_) (fun h => ?_)
      · refine caS (E := E_Bool) h law06_knows_w rfl (fun _ => rfl) (fun x17 h => ?_)
        exact rt (E := E_Bool) h rfl
      exact rt (E := E_Bool) h rfl
    exact rt (E := E_Bool) h rfl
  refine caS (E := E_Int) h (ref06_Of_w a0 a1) rfl (fun _ => rfl) (fun x18 h => ?_)
  refine caS (E := E_Int) h (level_Of_w a0 a1) rfl (fun _ => rfl) (fun x19 h => ?_)
  refine fkS h (fun h => ?_) (fun h => ?_)
  · refine caS (E := E_Bool) h (level_Passes_w a0 a1 a3) rfl (fun _ => rfl) (fun x20 h => ?_)
    refine fkS h (fun h => ?_) (fun h => ?_)
    · refine caS (E := E_Bool) h law06_knows_w rfl (fun _ => rfl) (fun x21 h => ?_)
      exact rt (E := E_Bool) h rfl
    exact rt (E := E_Bool) h rfl
  exact rt (E := E_Bool) h rfl

end Go.Proofs.Ytpoaeepmjfocjaa
namespace Go.Proofs.Ytpoaeepmjfocjaa
open Go Go.VC
noncomputable def law06_LevelOrders (a0 : List Task) (a1 : Int) (a2 : Int) : Option Bool :=
  jn (fun (w1 : Bool) => fk w1 (bnd law06_knows fun x4 => some x4) (ck (decide ((a0.length : Int) ≠ 0)) (ck (decide ((a0.length : Int) ≠ 0)) (bnd (level_Of a0 ((IntKind.i64.wrap a1).tmod (a0.length : Int))) fun x5 => bnd (level_Of a0 ((IntKind.i64.wrap a2).tmod (a0.length : Int))) fun x6 => ix a0 ((IntKind.i64.wrap a1).tmod (a0.length : Int)) fun x7 => ix a0 ((IntKind.i64.wrap a2).tmod (a0.length : Int)) fun x8 => fk (decide ((decide (x5 > x6)) = (decide (x7.D < x8.D)))) (bnd (level_Of a0 ((IntKind.i64.wrap a1).tmod (a0.length : Int))) fun x9 => fk (decide (x9 ≥ (1 : Int))) (bnd (level_Of a0 ((IntKind.i64.wrap a1).tmod (a0.length : Int))) fun x10 => fk (decide (x10 ≤ (a0.length : Int))) (bnd law06_knows fun x11 => some x11) (some false)) (some false)) (some false))))) (fun k1 => bnd (law06_great a0 []) fun x2 => fk x2 (k1 true) (bnd (ref05_All a0) fun x3 => fk (!x3) (k1 true) (k1 (decide ((a0.length : Int) = (0 : Int))))))
theorem law06_LevelOrders_w (a0 : List Task) (a1 : Int) (a2 : Int) (r : Bool) (h : law06_LevelOrders a0 a1 a2 = some r) : Go.VC.Spec Try.prog 7 [.d (.sl (a0.map Task.enc)), .d (.int .u8 a1), .d (.int .u8 a2)] (fun y => y = E_Bool r) := by
  refine Go.VC.Spec.of_xc (args := [.d (.sl (a0.map Task.enc)), .d (.int .u8 a1), .d (.int .u8 a2)]) (fn := Try.f7) tab ⟨[(0, [0, 1, 2]), (1, [0, 1, 2, 20]), (2, [6]), (3, [0, 7, 8]), (4, [6])], [], [100020], []⟩ 68 [.tmp 6] rfl rfl rfl rfl rfl rfl ?_
  refine jnS (fun w1 => ⟨[(0, .l (.d (.sl (a0.map Task.enc)))), (1, .l (.d (.int .u8 a1))), (2, .l (.d (.int .u8 a2))), (20, .l (.d (.bool w1)))], 68, [], [], []⟩) h (fun k1 hk1 h => ?_) (fun w1 h => ?_)
  · refine caS (E := E_Bool) h (law06_great_w a0 []) rfl (fun _ => rfl) (fun x2 h => ?_)
    refine fkS h (fun h => ?_) (fun h => ?_)
    · exact jeS hk1 h (Weak.refl _)
    refine caS (E := E_Bool) h (ref05_All_w a0) rfl (fun _ => rfl) (fun x3 h => ?_)
    refine fkS h (fun h => ?_) (fun h => ?_)
    · exact jeS hk1 h (Weak.refl _)
    refine lenS a0 Task.enc rfl ?_
    exact jeS hk1 h (Weak.refl _)
  refine fkS h (fun h => ?_) (fun h => ?_)
  · refine caS (E := E_Bool) h law06_knows_w rfl (fun _ => rfl) (fun x4 h => ?_)
    exact rt (E := E_Bool) h rfl
  refine ⟨11, ?_⟩
  refine lenS a0 Task.enc rfl ?_
  refine dvS h (fun h => ?_)
  refine lenS a0 Task.enc rfl ?_
  refine dvS h (fun h => ?_)
  refine drS (by kernel_rfl) ?_
  refine ⟨36, ?_⟩
  refine daS (E := E_Int) h (level_Of_w a0 ((IntKind.i64.wrap a1).tmod (a0.length : Int))) (fun _ => rfl) (fun x5 h => ?_)
  refine daS (E := E_Int) h (level_Of_w a0 ((IntKind.i64.wrap a2).tmod (a0.length : Int))) (fun _ => rfl) (fun x6 h => ?_)
  refine ixS (enc := Task.enc) h rfl (fun _ => rfl) (fun x7 h => ?_)
  refine ixS (enc := Task.enc) h rfl (fun _ => rfl) (fun x8 h => ?_)
  refine fkS h (fun h => ?_) (fun h => ?_)
  · refine daS (E := E_Int) h (level_Of_w a0 ((IntKind.i64.wrap a1).tmod (a0.length : Int))) (fun _ => rfl) (fun x9 h => ?_)
    refine fkS h (fun h => ?_) (fun h => ?_)
    · refine daS (E := E_Int) h (level_Of_w a0 ((IntKind.i64.wrap a1).tmod (a0.length : Int))) (fun _ => rfl) (fun x10 h => ?_)
      refine lenS a0 Task.enc rfl ?_
      refine fkS h (fun h => ?_) (fun h => ?_)
      · refine daS (E := E_Bool) h law06_knows_w (fun _ => rfl) (fun x11 h => ?_)
        refine drS (by kernel_rfl) ?_
        exact rt (E := E_Bool) h rfl
      refine drS (by kernel_rfl) ?_
      exact rt (E := E_Bool) h rfl
    refine drS (by kernel_rfl) ?_
    exact rt (E := E_Bool) h rfl
  refine drS (by kernel_rfl) ?_
  exact rt (E := E_Bool) h rfl

end Go.Proofs.Ytpoaeepmjfocjaa
namespace Go.Proofs.Ytpoaeepmjfocjaa
open Go Go.VC
noncomputable def law06_LevelPasses (a0 : List Task) (a1 : Int) (a2 : List Int) (a3 : Int) : Option Bool :=
  jn (fun (w1 : Bool) => fk w1 (bnd law06_knows fun x4 => some x4) (ck (decide ((([] : List Int).length + a2.length) * 8 ≤ 140737488355328)) (ck (decide (((([] : List Int) ++ a2).length + ([a3] : List Int).length) * 8 ≤ 140737488355328)) (jn (fun (w5 : Bool) => fk w5 (some false) (jn (fun (w8 : Unit) => bnd (level_Passes a0 a1 []) fun x14 => fk x14 (bnd (level_Held a0 ((([] : List Int) ++ a2) ++ ([a3] : List Int))) fun x15 => bnd (level_Held a0 a2) fun x16 => fk (decide (x15 ≥ x16)) (bnd law06_knows fun x17 => some x17) (some false)) (some false)) (fun k8 => bnd (level_Passes a0 a1 a2) fun x9 => fk x9 (lp (fun nx10 (v10 : Int) => fk (decide (v10 < (a2.length : Int))) (ix a0 a1 fun x11 => ix a2 v10 fun x12 => bnd (ref05_Uses x11 x12) fun x13 => fk x13 (some false) (nx10 (wr (v10 + (1 : Int))))) (k8 ())) FU (0 : Int)) (k8 ())))) (fun k5 => bnd (level_Passes a0 a1 ((([] : List Int) ++ a2) ++ ([a3] : List Int))) fun x6 => fk x6 (bnd (level_Passes a0 a1 a2) fun x7 => k5 (!x7)) (k5 false)))))) (fun k1 => bnd (law06_great a0 a2) fun x2 => fk x2 (k1 true) (bnd (ref05_All a0) fun x3 => fk (!x3) (k1 true) (fk (decide (a1 < (0 : Int))) (k1 true) (k1 (decide (a1 ≥ (a0.length : Int)))))))
theorem law06_LevelPasses_w (a0 : List Task) (a1 : Int) (a2 : List Int) (a3 : Int) (r : Bool) (h : law06_LevelPasses a0 a1 a2 a3 = some r) : Go.VC.Spec Try.prog 8 [.d (.sl (a0.map Task.enc)), .d (.int .i64 a1), .d (.sl (a2.map (eI .i64))), .d (.int .i64 a3)] (fun y => y = E_Bool r) := by
  refine Go.VC.Spec.of_xc (args := [.d (.sl (a0.map Task.enc)), .d (.int .i64 a1), .d (.sl (a2.map (eI .i64))), .d (.int .i64 a3)]) (fn := Try.f8) tab ⟨[(0, [0, 1, 2, 3]), (1, [0, 1, 2, 3, 28]), (2, [8]), (3, [0, 1, 2, 9]), (4, [0, 1, 2, 9, 46]), (5, [8]), (6, [0, 1, 2, 9, 50]), (7, [0, 1, 2, 9, 10]), (8, [0, 1, 2, 9, 10, 54]), (9, [0, 1, 2, 9, 10]), (10, [0, 1, 2, 9, 10, 65]), (11, [8]), (12, [8])], [], [100028, 100046, 12], []⟩ 81 [.tmp 8] rfl rfl rfl rfl rfl rfl ?_
  refine jnS (fun w1 => ⟨[(0, .l (.d (.sl (a0.map Task.enc)))), (1, .l (.d (.int .i64 a1))), (2, .l (.d (.sl (a2.map (eI .i64))))), (3, .l (.d (.int .i64 a3))), (28, .l (.d (.bool w1)))], 81, [], [], []⟩) h (fun k1 hk1 h => ?_) (fun w1 h => ?_)
  · refine caS (E := E_Bool) h (law06_great_w a0 a2) rfl (fun _ => rfl) (fun x2 h => ?_)
    refine fkS h (fun h => ?_) (fun h => ?_)
    · exact jeS hk1 h (Weak.refl _)
    refine caS (E := E_Bool) h (ref05_All_w a0) rfl (fun _ => rfl) (fun x3 h => ?_)
    refine fkS h (fun h => ?_) (fun h => ?_)
    · exact jeS hk1 h (Weak.refl _)
    refine fkS h (fun h => ?_) (fun h => ?_)
    · exact jeS hk1 h (Weak.refl _)
    refine lenS a0 Task.enc rfl ?_
    exact jeS hk1 h (Weak.refl _)
  refine fkS h (fun h => ?_) (fun h => ?_)
  · refine caS (E := E_Bool) h law06_knows_w rfl (fun _ => rfl) (fun x4 h => ?_)
    exact rt (E := E_Bool) h rfl
  refine liS ([] : List Int) (eI .i64) rfl rfl ?_
  refine apS (enc := (eI .i64)) (l1 := ([] : List Int)) (l2 := a2) h rfl rfl (fun _ => rfl) (fun h => ?_)
  refine liS ([a3] : List Int) (eI .i64) rfl rfl ?_
  refine apS (enc := (eI .i64)) (l1 := ([] : List Int) ++ a2) (l2 := ([a3] : List Int)) h rfl rfl (fun _ => rfl) (fun h => ?_)
  refine jnS (fun w5 => ⟨[(0, .l (.d (.sl (a0.map Task.enc)))), (1, .l (.d (.int .i64 a1))), (2, .l (.d (.sl (a2.map (eI .i64))))), (9, .l (.own 10)), (46, .l (.d (.bool w5)))], 81, [], [], [(10, 3, 1, ((([] : List Int) ++ a2) ++ ([a3] : List Int)).map (eI .i64))]⟩) h (fun k5 hk5 h => ?_) (fun w5 h => ?_)
  · refine caS (E := E_Bool) h (level_Passes_w a0 a1 ((([] : List Int) ++ a2) ++ ([a3] : List Int))) rfl (fun _ => rfl) (fun x6 h => ?_)
    refine fkS h (fun h => ?_) (fun h => ?_)
    · refine caS (E := E_Bool) h (level_Passes_w a0 a1 a2) rfl (fun _ => rfl) (fun x7 h => ?_)
      exact jeS hk5 h (Weak.refl _)
    exact jeS hk5 h (Weak.refl _)
  refine fkS h (fun h => ?_) (fun h => ?_)
  · exact rt (E := E_Bool) h rfl
  refine jnS (fun w8 => ⟨[(0, .l (.d (.sl (a0.map Task.enc)))), (1, .l (.d (.int .i64 a1))), (2, .l (.d (.sl (a2.map (eI .i64))))), (9, .l (.own 10))], 81, [], [], [(10, 3, 1, ((([] : List Int) ++ a2) ++ ([a3] : List Int)).map (eI .i64))]⟩) h (fun k8 hk8 h => ?_) (fun w8 h => ?_)
  · refine caS (E := E_Bool) h (level_Passes_w a0 a1 a2) rfl (fun _ => rfl) (fun x9 h => ?_)
    refine fkS h (fun h => ?_) (fun h => ?_)
    · refine lpS (fun v10 => ⟨[(0, .l (.d (.sl (a0.map Task.enc)))), (1, .l (.d (.int .i64 a1))), (2, .l (.d (.sl (a2.map (eI .i64))))), (9, .l (.own 10)), (10, .l (.d (.int .i64 v10)))], 81, [], [], [(10, 3, 1, ((([] : List Int) ++ a2) ++ ([a3] : List Int)).map (eI .i64))]⟩) h (Weak.refl _) (fun _ nx10 hn10 v10 h => ?_)
      refine lenS a2 (eI .i64) rfl ?_
      refine fkS h (fun h => ?_) (fun h => ?_)
      · refine ⟨8, ?_⟩
        refine ixS (enc := Task.enc) h rfl (fun _ => rfl) (fun x11 h => ?_)
        refine ixS (enc := (eI .i64)) h rfl (fun _ => rfl) (fun x12 h => ?_)
        refine drS (by kernel_rfl) ?_
        refine caS (E := E_Bool) h (ref05_Uses_w x11 x12) rfl (fun _ => rfl) (fun x13 h => ?_)
        refine fkS h (fun h => ?_) (fun h => ?_)
        · exact rt (E := E_Bool) h rfl
        exact leS hn10 h (Weak.refl _)
      exact jeS hk8 h (Weak.trans (Weak.keepS _ [0, 1, 2, 9]) (Weak.refl _))
    exact jeS hk8 h (Weak.trans (Weak.keepS _ [0, 1, 2, 9]) (Weak.refl _))
  refine caS (E := E_Bool) h (level_Passes_w a0 a1 []) rfl (fun _ => rfl) (fun x14 h => ?_)
  refine fkS h (fun h => ?_) (fun h => ?_)
  · refine caS (E := E_Int) h (level_Held_w a0 ((([] : List Int) ++ a2) ++ ([a3] : List Int))) rfl (fun _ => rfl) (fun x15 h => ?_)
    refine caS (E := E_Int) h (level_Held_w a0 a2) rfl (fun _ => rfl) (fun x16 h => ?_)
    refine fkS h (fun h => ?_) (fun h => ?_)
    · refine caS (E := E_Bool) h law06_knows_w rfl (fun _ => rfl) (fun x17 h => ?_)
      exact rt (E := E_Bool) h rfl
    exact rt (E := E_Bool) h rfl
  exact rt (E := E_Bool) h rfl

end Go.Proofs.Ytpoaeepmjfocjaa
namespace Go.Proofs.Ytpoaeepmjfocjaa
open Go Go.VC
noncomputable def law06_LevelRows (a0 : List Task) (a1 : List Int) (a2 : Int) : Option Bool :=
  jn (fun (w1 : Bool) => fk w1 (bnd (level_Held [] []) fun x3 => fk (decide (x3 = (0 : Int))) (bnd law06_knows fun x4 => some x4) (some false)) (ck (decide ((a1.length : Int) ≠ 0)) (ck (decide ((0 : Int) ≤ ((IntKind.i64.wrap a2).tmod (a1.length : Int))) && decide (((IntKind.i64.wrap a2).tmod (a1.length : Int)) ≤ (a1.length : Int)) && decide ((a1.length : Int) ≤ (a1.length : Int))) (ck (decide ((([] : List Int).length + ((a1.take (a1.length : Int).toNat).drop ((IntKind.i64.wrap a2).tmod (a1.length : Int)).toNat).length) * 8 ≤ 140737488355328)) (ck (decide (((([] : List Int) ++ ((a1.take (a1.length : Int).toNat).drop ((IntKind.i64.wrap a2).tmod (a1.length : Int)).toNat)).length + a1.length) * 8 ≤ 140737488355328)) (bnd (level_Held a0 ((([] : List Int) ++ ((a1.take (a1.length : Int).toNat).drop ((IntKind.i64.wrap a2).tmod (a1.length : Int)).toNat)) ++ a1)) fun x5 => bnd (level_Held a0 a1) fun x6 => fk (decide (x5 = x6)) (ck (decide ((0 : Int) ≤ ((IntKind.i64.wrap a2).tmod (a1.length : Int))) && decide (((IntKind.i64.wrap a2).tmod (a1.length : Int)) ≤ (wr (((IntKind.i64.wrap a2).tmod (a1.length : Int)) + (1 : Int)))) && decide ((wr (((IntKind.i64.wrap a2).tmod (a1.length : Int)) + (1 : Int))) ≤ (a1.length : Int))) (bnd (level_Held a0 ((a1.take (wr (((IntKind.i64.wrap a2).tmod (a1.length : Int)) + (1 : Int))).toNat).drop ((IntKind.i64.wrap a2).tmod (a1.length : Int)).toNat)) fun x7 => ix a1 ((IntKind.i64.wrap a2).tmod (a1.length : Int)) fun x8 => bnd (level_Ceiling a0 x8) fun x9 => fk (decide (x7 = x9)) (bnd (level_Held a0 []) fun x10 => fk (decide (x10 = (0 : Int))) (bnd law06_knows fun x11 => some x11) (some false)) (some false))) (some false))))))) (fun k1 => bnd (law06_great a0 a1) fun x2 => fk x2 (k1 true) (k1 (decide ((a1.length : Int) = (0 : Int)))))
theorem law06_LevelRows_w (a0 : List Task) (a1 : List Int) (a2 : Int) (r : Bool) (h : law06_LevelRows a0 a1 a2 = some r) : Go.VC.Spec Try.prog 9 [.d (.sl (a0.map Task.enc)), .d (.sl (a1.map (eI .i64))), .d (.int .u8 a2)] (fun y => y = E_Bool r) := by
  refine Go.VC.Spec.of_xc (args := [.d (.sl (a0.map Task.enc)), .d (.sl (a1.map (eI .i64))), .d (.int .u8 a2)]) (fn := Try.f9) tab ⟨[(0, [0, 1, 2]), (1, [0, 1, 2, 16]), (2, [6]), (3, [0, 1, 7]), (4, [0, 1, 7, 8]), (5, [6])], [], [100016], []⟩ 65 [.tmp 6] rfl rfl rfl rfl rfl rfl ?_
  refine jnS (fun w1 => ⟨[(0, .l (.d (.sl (a0.map Task.enc)))), (1, .l (.d (.sl (a1.map (eI .i64))))), (2, .l (.d (.int .u8 a2))), (16, .l (.d (.bool w1)))], 65, [], [], []⟩) h (fun k1 hk1 h => ?_) (fun w1 h => ?_)
  · refine caS (E := E_Bool) h (law06_great_w a0 a1) rfl (fun _ => rfl) (fun x2 h => ?_)
    refine fkS h (fun h => ?_) (fun h => ?_)
    · exact jeS hk1 h (Weak.refl _)
    refine lenS a1 (eI .i64) rfl ?_
    exact jeS hk1 h (Weak.refl _)
  refine fkS h (fun h => ?_) (fun h => ?_)
  · refine caS (E := E_Int) h (level_Held_w [] []) rfl (fun _ => rfl) (fun x3 h => ?_)
    refine fkS h (fun h => ?_) (fun h => ?_)
    · refine caS (E := E_Bool) h law06_knows_w rfl (fun _ => rfl) (fun x4 h => ?_)
      exact rt (E := E_Bool) h rfl
    exact rt (E := E_Bool) h rfl
  refine lenS a1 (eI .i64) rfl ?_
  refine dvS h (fun h => ?_)
  refine liS ([] : List Int) (eI .i64) rfl rfl ?_
  refine slS (enc := (eI .i64)) h rfl rfl (.inl rfl) (fun _ => rfl) (fun h => ?_)
  refine apS (enc := (eI .i64)) (l1 := ([] : List Int)) (l2 := (a1.take (a1.length : Int).toNat).drop ((IntKind.i64.wrap a2).tmod (a1.length : Int)).toNat) h rfl rfl (fun _ => rfl) (fun h => ?_)
  refine apS (enc := (eI .i64)) (l1 := ([] : List Int) ++ ((a1.take (a1.length : Int).toNat).drop ((IntKind.i64.wrap a2).tmod (a1.length : Int)).toNat)) (l2 := a1) h rfl rfl (fun _ => rfl) (fun h => ?_)
  refine ⟨31, ?_⟩
  refine daS (E := E_Int) h (level_Held_w a0 ((([] : List Int) ++ ((a1.take (a1.length : Int).toNat).drop ((IntKind.i64.wrap a2).tmod (a1.length : Int)).toNat)) ++ a1)) (fun _ => rfl) (fun x5 h => ?_)
  refine daS (E := E_Int) h (level_Held_w a0 a1) (fun _ => rfl) (fun x6 h => ?_)
  refine fkS h (fun h => ?_) (fun h => ?_)
  · refine slS (enc := (eI .i64)) h rfl rfl (.inl rfl) (fun _ => rfl) (fun h => ?_)
    refine daS (E := E_Int) h (level_Held_w a0 ((a1.take (wr (((IntKind.i64.wrap a2).tmod (a1.length : Int)) + (1 : Int))).toNat).drop ((IntKind.i64.wrap a2).tmod (a1.length : Int)).toNat)) (fun _ => rfl) (fun x7 h => ?_)
    refine ixS (enc := (eI .i64)) h rfl (fun _ => rfl) (fun x8 h => ?_)
    refine daS (E := E_Int) h (level_Ceiling_w a0 x8) (fun _ => rfl) (fun x9 h => ?_)
    refine fkS h (fun h => ?_) (fun h => ?_)
    · refine daS (E := E_Int) h (level_Held_w a0 []) (fun _ => rfl) (fun x10 h => ?_)
      refine fkS h (fun h => ?_) (fun h => ?_)
      · refine daS (E := E_Bool) h law06_knows_w (fun _ => rfl) (fun x11 h => ?_)
        refine drS (by kernel_rfl) ?_
        exact rt (E := E_Bool) h rfl
      refine drS (by kernel_rfl) ?_
      exact rt (E := E_Bool) h rfl
    refine drS (by kernel_rfl) ?_
    exact rt (E := E_Bool) h rfl
  refine drS (by kernel_rfl) ?_
  exact rt (E := E_Bool) h rfl

end Go.Proofs.Ytpoaeepmjfocjaa
namespace Go.Proofs.Ytpoaeepmjfocjaa
open Go Go.VC

/-! ### Levels -/
def maxL {α : Type} (f : α → Nat) : List α → Nat
  | [] => 0
  | x :: r => max (f x) (maxL f r)
theorem maxL_append {α : Type} (f : α → Nat) (a b : List α) : maxL f (a ++ b) = max (maxL f a) (maxL f b) := by
  induction a with
  | nil => simp [maxL]
  | cons x r ih => simp only [List.cons_append, maxL, ih]; omega
theorem maxL_le {α : Type} {f : α → Nat} {l : List α} {n : Nat} : maxL f l ≤ n ↔ ∀ x ∈ l, f x ≤ n := by
  induction l with
  | nil => simp [maxL]
  | cons x r ih => simp only [maxL, List.mem_cons, forall_eq_or_imp, ← ih]; omega
theorem le_maxL {α : Type} {f : α → Nat} {l : List α} {x : α} (h : x ∈ l) : f x ≤ maxL f l := maxL_le.1 (Nat.le_refl _) x h
theorem maxL_succ {α : Type} (f : α → Nat) (l : List α) (k : Nat) (h : k < l.length) : maxL f (l.take (k + 1)) = max (maxL f (l.take k)) (f l[k]) := by
  rw [← List.take_append_getElem h, maxL_append]; simp [maxL]
theorem maxL_zero {α : Type} {f : α → Nat} {l : List α} (h : ∀ x ∈ l, f x = 0) : maxL f l = 0 := Nat.le_zero.1 (maxL_le.2 fun x hx => by rw [h x hx]; exact Nat.le_refl _)
theorem maxL_perm {α : Type} {f : α → Nat} {a b : List α} (h : ∀ x, x ∈ a ↔ x ∈ b) : maxL f a = maxL f b :=
  Nat.le_antisymm (maxL_le.2 fun x hx => le_maxL ((h x).1 hx)) (maxL_le.2 fun x hx => le_maxL ((h x).2 hx))
theorem max_int (a b : Nat) : (if (a : Int) > (b : Int) then (a : Int) else (b : Int)) = ((max b a : Nat) : Int) := by split <;> omega

def levelN (l : List Task) (D : Int) : Nat := 1 + l.countP (fun x => decide (x.D > D))
theorem countP_succ {α : Type} (p : α → Bool) (l : List α) (k : Nat) (h : k < l.length) : (l.take (k + 1)).countP p = (l.take k).countP p + (if p l[k] = true then 1 else 0) := by
  rw [← List.take_append_getElem h, List.countP_append, List.countP_singleton]
theorem level_level_eq (l : List Task) (t : Task) (hl : l.length ≤ 4611686018427387904) : level_level l t = some (levelN l t.D : Int) := by
  unfold level_level
  refine lp_upS l.length (by unfold FU; omega) (fun k n => n = ((1 + (l.take k).countP (fun x => decide (x.D > t.D)) : Nat) : Int)) 1 rfl ?_
  rintro nx k n hk rfl hnx
  simp only [jn_eq]
  rw [lt_nat]
  have hc := List.countP_le_length (p := fun x : Task => decide (x.D > t.D)) (l := l.take k)
  rw [List.length_take] at hc
  by_cases h : k < l.length
  · rw [decide_eq_true h, fk_t, ix_lt h, wr_succ k _ h hl, wr_in _ (by omega)]
    by_cases c : l[k].D > t.D
    · rw [decide_eq_true c, fk_t]
      refine hnx _ h ?_
      rw [countP_succ _ _ _ h, if_pos (decide_eq_true c)]; omega
    · rw [decide_eq_false c, fk_f]
      refine hnx _ h ?_
      rw [countP_succ _ _ _ h, if_neg (by simp [c])]; rfl
  · rw [decide_eq_false h, fk_f]
    have : k = l.length := by omega
    rw [this, List.take_length]; rfl
def ofN (l : List Task) (i : Int) : Nat := if AllP l ∧ 0 ≤ i then (match l[i.toNat]? with | some t => levelN l t.D | none => 0) else 0
theorem ofN_lt {l : List Task} (ha : AllP l) {i : Int} (h0 : 0 ≤ i) (h : i.toNat < l.length) : ofN l i = levelN l l[i.toNat].D := by
  rw [ofN, if_pos ⟨ha, h0⟩, List.getElem?_eq_getElem h]
theorem level_Of_eq (l : List Task) (i : Int) (hl : l.length ≤ 4611686018427387904) : level_Of l i = some (ofN l i : Int) := by
  unfold level_Of
  simp only [jn_eq, fk_t]
  rw [bnd_eq (task_All_eq l hl)]
  by_cases ha : AllP l
  rotate_left
  · rw [decide_eq_false ha, Bool.not_false, fk_t, ofN, if_neg (fun h => ha h.1)]; rfl
  rw [decide_eq_true ha, Bool.not_true, fk_f]
  by_cases c1 : i < 0
  · rw [decide_eq_true c1, fk_t, ofN, if_neg (fun h => by omega)]; rfl
  rw [decide_eq_false c1, fk_f]
  by_cases c2 : i ≥ (l.length : Int)
  · rw [decide_eq_true c2, fk_t, ofN, List.getElem?_eq_none (by omega)]; simp
  rw [decide_eq_false c2, fk_f, ix_int (by omega) (by omega), bnd_eq (level_level_eq _ _ hl), ofN_lt ha (by omega)]
def ceilN (l : List Task) (res : Int) : Nat := maxL (fun t => if usesP t res then levelN l t.D else 0) l
def ceil (l : List Task) (res : Int) : Nat := if AllP l then ceilN l res else 0
theorem level_Ceiling_1_eq (t : Task) (res : Int) (l : List Task) (hl : l.length ≤ 4611686018427387904) : level_Ceiling_1 t res l = some ((if usesP t res then levelN l t.D else 0 : Nat) : Int) := by
  unfold level_Ceiling_1
  rw [bnd_eq (task_Uses_eq _ _)]
  by_cases h : usesP t res
  · rw [decide_eq_true h, Bool.not_true, fk_f, bnd_eq (level_level_eq _ _ hl), if_pos h]
  · rw [decide_eq_false h, Bool.not_false, fk_t, if_neg h]; rfl
theorem level_most_eq (l : List Task) (res : Int) (hl : l.length ≤ 4611686018427387904) : level_most_api_Task l res l = some (ceilN l res : Int) := by
  unfold level_most_api_Task
  refine lp_upS l.length (by unfold FU; omega) (fun k n => n = ((maxL (fun t => if usesP t res then levelN l t.D else 0) (l.take k) : Nat) : Int)) 0 rfl ?_
  rintro nx k n hk rfl hnx
  rw [lt_nat]
  by_cases h : k < l.length
  · rw [decide_eq_true h, fk_t, ix_lt h, bnd_eq (level_Ceiling_1_eq _ _ _ hl), wr_succ k _ h hl, max_int]
    exact hnx _ h (by rw [maxL_succ _ _ _ h])
  · rw [decide_eq_false h, fk_f]
    have : k = l.length := by omega
    rw [this, List.take_length]; rfl
theorem level_Ceiling_eq (l : List Task) (res : Int) (hl : l.length ≤ 4611686018427387904) : level_Ceiling l res = some (ceil l res : Int) := by
  unfold level_Ceiling
  rw [bnd_eq (task_All_eq l hl), ceil]
  by_cases ha : AllP l
  · rw [decide_eq_true ha, Bool.not_true, fk_f, bnd_eq (level_most_eq _ _ hl), if_pos ha]
  · rw [decide_eq_false ha, Bool.not_false, fk_t, if_neg ha]; rfl
def heldN (l : List Task) (h : List Int) : Nat := maxL (ceil l) h
theorem level_Held_eq (l : List Task) (h : List Int) (hl : l.length ≤ 4611686018427387904) (hh : h.length ≤ 4611686018427387904) : level_Held l h = some (heldN l h : Int) := by
  unfold level_Held
  have : level_most_int h l = some (heldN l h : Int) := by
    unfold level_most_int
    refine lp_upS h.length (by unfold FU; omega) (fun k n => n = ((maxL (ceil l) (h.take k) : Nat) : Int)) 0 rfl ?_
    rintro nx k n hk rfl hnx
    rw [lt_nat]
    by_cases c : k < h.length
    · rw [decide_eq_true c, fk_t, ix_lt c, level_Held_1, bnd_eq (level_Ceiling_eq l _ hl), bnd_some, wr_succ k _ c hh, max_int]
      exact hnx _ c (by rw [maxL_succ _ _ _ c])
    · rw [decide_eq_false c, fk_f]
      have : k = h.length := by omega
      rw [this, List.take_length]; rfl
  rw [bnd_eq this]
theorem level_Passes_eq (l : List Task) (i : Int) (h : List Int) (hl : l.length ≤ 4611686018427387904) (hh : h.length ≤ 4611686018427387904) : level_Passes l i h = some (decide (heldN l h < ofN l i)) := by
  unfold level_Passes
  rw [bnd_eq (level_Of_eq l i hl), bnd_eq (level_Held_eq l h hl hh)]
  exact dec_iff (by omega)

/-! The document's. -/
theorem ref05_Uses_eq (t : Task) (res : Int) (hl : t.Secs.length ≤ 4611686018427387904) : ref05_Uses t res = some (decide (∃ s ∈ t.Secs, s.Res = res)) := by
  unfold ref05_Uses
  refine lp_upS t.Secs.length (by unfold FU; omega) (fun k n => ∃ m : Nat, n = (m : Int) ∧ m ≤ k ∧ (0 < m ↔ ∃ j, ∃ h : j < t.Secs.length, j < k ∧ t.Secs[j].Res = res)) 0 ⟨0, rfl, Nat.le_refl _, by simp⟩ ?_
  rintro nx k n hk ⟨m, rfl, hm, J⟩ hnx
  simp only [jn_eq]
  rw [lt_nat]
  by_cases h : k < t.Secs.length
  · rw [decide_eq_true h, fk_t, ix_lt h, wr_succ k _ h hl, wr_in _ (by omega)]
    by_cases c : t.Secs[k].Res = res
    · rw [decide_eq_true c, fk_t]
      exact hnx _ h ⟨m + 1, rfl, by omega, ⟨fun _ => ⟨k, h, by omega, c⟩, fun _ => by omega⟩⟩
    · rw [decide_eq_false c, fk_f]
      refine hnx _ h ⟨m, rfl, by omega, J.trans ⟨fun ⟨j, hj, hjk, e⟩ => ⟨j, hj, by omega, e⟩, fun ⟨j, hj, hjk, e⟩ => ⟨j, hj, ?_, e⟩⟩⟩
      by_cases e2 : j = k
      · subst e2; exact absurd e c
      · omega
  · rw [decide_eq_false h, fk_f]
    refine dec_iff ?_
    have : ((m : Int) > 0) ↔ 0 < m := by omega
    rw [this, J]
    constructor
    · rintro ⟨j, hj, _, e⟩; exact ⟨_, List.getElem_mem hj, e⟩
    · rintro ⟨s, hs, e⟩
      obtain ⟨j, hj, rfl⟩ := List.getElem_of_mem hs
      exact ⟨j, hj, by omega, e⟩
theorem ref06_Of_eq (l : List Task) (i : Int) (hl : l.length ≤ 4611686018427387904) (ha : AllP l) (h0 : 0 ≤ i) (hi : i.toNat < l.length) : ref06_Of l i = some (ofN l i : Int) := by
  unfold ref06_Of
  rw [ofN_lt ha h0 hi]
  refine lp_upS l.length (by unfold FU; omega) (fun k n => n = (((l.take k).countP (fun x => decide (x.D > l[i.toNat].D)) : Nat) : Int)) 0 rfl ?_
  rintro nx k n hk rfl hnx
  simp only [jn_eq]
  rw [lt_nat]
  have hc := List.countP_le_length (p := fun x : Task => decide (x.D > l[i.toNat].D)) (l := l.take k)
  rw [List.length_take] at hc
  by_cases h : k < l.length
  · rw [decide_eq_true h, fk_t, ix_lt h, ix_int h0 hi, wr_succ k _ h hl, wr_in _ (by omega)]
    by_cases c : l[k].D > l[i.toNat].D
    · rw [decide_eq_true c, fk_t]
      refine hnx _ h ?_
      rw [countP_succ _ _ _ h, if_pos (decide_eq_true c)]; omega
    · rw [decide_eq_false c, fk_f]
      refine hnx _ h ?_
      rw [countP_succ _ _ _ h, if_neg (by simp [c])]; rfl
  · rw [decide_eq_false h, fk_f]
    have : k = l.length := by omega
    rw [wr_in _ (by omega), this, List.take_length, levelN]; congr 1; omega
theorem AllP.len {l : List Task} (h : AllP l) : l.length ≤ 4611686018427387904 := by have := h.2; omega
theorem AllP.slen {l : List Task} (h : AllP l) {t : Task} (ht : t ∈ l) : t.Secs.length ≤ 4611686018427387904 := by have := (h.1 t ht).len; omega
theorem ref06_Ceiling_eq (l : List Task) (res : Int) (ha : AllP l) : ref06_Ceiling l res = some (ceil l res : Int) := by
  unfold ref06_Ceiling
  rw [ceil, if_pos ha]
  refine lp_upS l.length (by have := ha.2; unfold FU; omega) (fun k n => n = ((maxL (fun t => if usesP t res then levelN l t.D else 0) (l.take k) : Nat) : Int)) 0 rfl ?_
  rintro nx k n hk rfl hnx
  simp only [jn_eq]
  rw [lt_nat]
  by_cases h : k < l.length
  · have hof := ref06_Of_eq l (k : Int) ha.len ha (by omega) (by simpa using h)
    rw [ofN_lt ha (by omega) (by simpa using h)] at hof
    simp only [Int.toNat_natCast] at hof
    have hu : (∃ s ∈ l[k].Secs, s.Res = res) ↔ usesP l[k] res := ⟨fun e => ⟨ha.1 _ (List.getElem_mem h), e⟩, fun e => e.2⟩
    rw [decide_eq_true h, fk_t, ix_lt h, bnd_eq (ref05_Uses_eq _ _ (ha.slen (List.getElem_mem h))), wr_succ k _ h ha.len, bnd_eq hof, bnd_eq hof, decide_eq_decide.2 hu]
    have hm := maxL_succ (fun t => if usesP t res then levelN l t.D else 0) l k h
    by_cases c : usesP l[k] res
    · rw [if_pos c] at hm
      rw [decide_eq_true c, fk_t]
      by_cases c2 : ((levelN l l[k].D : Nat) : Int) > ((maxL (fun t => if usesP t res then levelN l t.D else 0) (l.take k) : Nat) : Int)
      · rw [decide_eq_true c2, fk_t]; exact hnx _ h (by rw [hm]; omega)
      · rw [decide_eq_false c2, fk_f]; exact hnx _ h (by rw [hm]; omega)
    · rw [if_neg c] at hm
      rw [decide_eq_false c, fk_f, fk_f]; exact hnx _ h (by rw [hm]; omega)
  · rw [decide_eq_false h, fk_f]
    have : k = l.length := by omega
    rw [this, List.take_length]; rfl
theorem ref06_Held_eq (l : List Task) (h : List Int) (ha : AllP l) (hh : h.length ≤ 4611686018427387904) : ref06_Held l h = some (heldN l h : Int) := by
  unfold ref06_Held
  refine lp_upS h.length (by unfold FU; omega) (fun k n => n = ((maxL (ceil l) (h.take k) : Nat) : Int)) 0 rfl ?_
  rintro nx k n hk rfl hnx
  simp only [jn_eq]
  rw [lt_nat]
  by_cases c : k < h.length
  · rw [decide_eq_true c, fk_t, ix_lt c, bnd_eq (ref06_Ceiling_eq l _ ha), wr_succ k _ c hh, ix_lt c, bnd_eq (ref06_Ceiling_eq l _ ha)]
    have hm := maxL_succ (ceil l) h k c
    by_cases c2 : ((ceil l h[k] : Nat) : Int) > ((maxL (ceil l) (h.take k) : Nat) : Int)
    · rw [decide_eq_true c2, fk_t]; exact hnx _ c (by rw [hm]; omega)
    · rw [decide_eq_false c2, fk_f]; exact hnx _ c (by rw [hm]; omega)
  · rw [decide_eq_false c, fk_f]
    have : k = h.length := by omega
    rw [this, List.take_length]; rfl
theorem law06_knows_eq : law06_knows = some true := by kernel_rfl
theorem law06_great_eq (l : List Task) (h : List Int) (hl : l.length ≤ 4611686018427387904) : law06_great l h = some (decide (GreatP l ∨ 50 < h.length)) := by
  unfold law06_great
  rw [bnd_eq (law05_Great_eq l hl)]
  by_cases c : GreatP l
  · rw [decide_eq_true c, fk_t]; exact dec_t (.inl c)
  · rw [decide_eq_false c, fk_f]; exact dec_iff ⟨fun h => .inr (by omega), fun h => by rcases h with h | h; exact absurd h c; omega⟩
theorem wf_ilen {l : List Int} (h : l.length * 8 ≤ BB) : l.length ≤ 4611686018427387904 := by unfold BB at h; omega
end Go.Proofs.Ytpoaeepmjfocjaa
namespace Go.Proofs.Ytpoaeepmjfocjaa
open Go Go.VC
noncomputable def ref08_Of (a0 : List Task) (a1 : Int) : Option Int :=
  lp (fun nx1 (v1 : Int × Int) => fk (decide (v1.2 < (a0.length : Int))) (lp (fun nx2 (v2 : Int × Int) => ix a0 v1.2 fun x3 => fk (decide (v2.2 < (x3.Secs.length : Int))) (lp (fun nx4 (v4 : Int × Int) => fk (decide (v4.2 < (a0.length : Int))) (jn (fun (w5 : Int) => nx4 (w5, (wr (v4.2 + (1 : Int))))) (fun k5 => jn (fun (w6 : Bool) => fk w6 (ix a0 v1.2 fun x15 => ix x15.Secs v2.2 fun x16 => k5 x16.Len) (k5 v4.1)) (fun k6 => ix a0 v1.2 fun x7 => fk (decide (x7.D > a1)) (ix a0 v4.2 fun x8 => fk (decide (x8.D ≤ a1)) (ix a0 v4.2 fun x9 => ix a0 v1.2 fun x10 => ix x10.Secs v2.2 fun x11 => bnd (ref05_Uses x9 x11.Res) fun x12 => fk x12 (ix a0 v1.2 fun x13 => ix x13.Secs v2.2 fun x14 => k6 (decide (x14.Len > v4.1))) (k6 false)) (k6 false)) (k6 false)))) (nx2 (v4.1, (wr (v2.2 + (1 : Int)))))) FU (v2.1, (0 : Int))) (nx1 (v2.1, (wr (v1.2 + (1 : Int)))))) FU (v1.1, (0 : Int))) (some v1.1)) FU ((0 : Int), (0 : Int))
theorem ref08_Of_w (a0 : List Task) (a1 : Int) (r : Int) (h : ref08_Of a0 a1 = some r) : Go.VC.Spec Try.prog 37 [.d (.sl (a0.map Task.enc)), .d (.int .i64 a1)] (fun y => y = E_Int r) := by
  refine Go.VC.Spec.of_xc (args := [.d (.sl (a0.map Task.enc)), .d (.int .i64 a1)]) (fn := Try.f37) tab ⟨[(0, [0, 1]), (1, [0, 1, 5]), (2, [0, 1, 5, 6]), (3, [0, 1, 5, 6, 12]), (4, [0, 1, 5, 6]), (5, [0, 1, 5, 6, 7]), (6, [0, 1, 5, 6, 7, 22]), (7, [0, 1, 5, 6, 7]), (8, [0, 1, 5, 6, 7, 8]), (9, [0, 1, 5, 6, 7, 8, 28]), (10, [0, 1, 5, 6, 7, 8]), (11, [0, 1, 5, 6, 7, 8, 75]), (12, [0, 1, 5, 6, 7, 8]), (13, [4])], [], [100075, 10], []⟩ 86 [.tmp 4] rfl rfl rfl rfl rfl rfl ?_
  refine lpS (fun v1 => ⟨[(0, .l (.d (.sl (a0.map Task.enc)))), (1, .l (.d (.int .i64 a1))), (5, .l (.d (.int .i64 v1.1))), (6, .l (.d (.int .i64 v1.2)))], 86, [], [], []⟩) h (Weak.refl _) (fun _ nx1 hn1 v1 h => ?_)
  refine lenS a0 Task.enc rfl ?_
  refine fkS h (fun h => ?_) (fun h => ?_)
  · refine lpS (fun v2 => ⟨[(0, .l (.d (.sl (a0.map Task.enc)))), (1, .l (.d (.int .i64 a1))), (5, .l (.d (.int .i64 v2.1))), (6, .l (.d (.int .i64 v1.2))), (7, .l (.d (.int .i64 v2.2)))], 86, [], [], []⟩) h (Weak.refl _) (fun _ nx2 hn2 v2 h => ?_)
    refine ixS (enc := Task.enc) h rfl (fun _ => rfl) (fun x3 h => ?_)
    refine lenS x3.Secs Sec.enc rfl ?_
    refine fkS h (fun h => ?_) (fun h => ?_)
    · refine lpS (fun v4 => ⟨[(0, .l (.d (.sl (a0.map Task.enc)))), (1, .l (.d (.int .i64 a1))), (5, .l (.d (.int .i64 v4.1))), (6, .l (.d (.int .i64 v1.2))), (7, .l (.d (.int .i64 v2.2))), (8, .l (.d (.int .i64 v4.2)))], 86, [], [], []⟩) h (Weak.refl _) (fun _ nx4 hn4 v4 h => ?_)
      refine lenS a0 Task.enc rfl ?_
      refine fkS h (fun h => ?_) (fun h => ?_)
      · refine jnS (fun w5 => ⟨[(0, .l (.d (.sl (a0.map Task.enc)))), (1, .l (.d (.int .i64 a1))), (5, .l (.d (.int .i64 w5))), (6, .l (.d (.int .i64 v1.2))), (7, .l (.d (.int .i64 v2.2))), (8, .l (.d (.int .i64 v4.2)))], 86, [], [], []⟩) h (fun k5 hk5 h => ?_) (fun w5 h => ?_)
        · refine jnS (fun w6 => ⟨[(0, .l (.d (.sl (a0.map Task.enc)))), (1, .l (.d (.int .i64 a1))), (5, .l (.d (.int .i64 v4.1))), (6, .l (.d (.int .i64 v1.2))), (7, .l (.d (.int .i64 v2.2))), (8, .l (.d (.int .i64 v4.2))), (75, .l (.d (.bool w6)))], 86, [], [], []⟩) h (fun k6 hk6 h => ?_) (fun w6 h => ?_)
          · refine ⟨45, ?_⟩
            refine ixS (enc := Task.enc) h rfl (fun _ => rfl) (fun x7 h => ?_)
            refine fkS h (fun h => ?_) (fun h => ?_)
            · refine ixS (enc := Task.enc) h rfl (fun _ => rfl) (fun x8 h => ?_)
              refine fkS h (fun h => ?_) (fun h => ?_)
              · refine ixS (enc := Task.enc) h rfl (fun _ => rfl) (fun x9 h => ?_)
                refine ixS (enc := Task.enc) h rfl (fun _ => rfl) (fun x10 h => ?_)
                refine ixS (enc := Sec.enc) h rfl (fun _ => rfl) (fun x11 h => ?_)
                refine daS (E := E_Bool) h (ref05_Uses_w x9 x11.Res) (fun _ => rfl) (fun x12 h => ?_)
                refine fkS h (fun h => ?_) (fun h => ?_)
                · refine ixS (enc := Task.enc) h rfl (fun _ => rfl) (fun x13 h => ?_)
                  refine ixS (enc := Sec.enc) h rfl (fun _ => rfl) (fun x14 h => ?_)
                  refine drS (by kernel_rfl) ?_
                  exact jeS hk6 h (Weak.refl _)
                refine drS (by kernel_rfl) ?_
                exact jeS hk6 h (Weak.refl _)
              refine drS (by kernel_rfl) ?_
              exact jeS hk6 h (Weak.refl _)
            refine drS (by kernel_rfl) ?_
            exact jeS hk6 h (Weak.refl _)
          refine fkS h (fun h => ?_) (fun h => ?_)
          · refine ixS (enc := Task.enc) h rfl (fun _ => rfl) (fun x15 h => ?_)
            refine ixS (enc := Sec.enc) h rfl (fun _ => rfl) (fun x16 h => ?_)
            exact jeS hk5 h (Weak.refl _)
          exact jeS hk5 h (Weak.trans (Weak.keepS _ [0, 1, 5, 6, 7, 8]) (Weak.refl _))
        exact leS hn4 h (Weak.refl _)
      exact leS hn2 h (Weak.refl _)
    exact leS hn1 h (Weak.refl _)
  exact rt (E := E_Int) h rfl

end Go.Proofs.Ytpoaeepmjfocjaa
namespace Go.Proofs.Ytpoaeepmjfocjaa
open Go Go.VC
noncomputable def ref08_Steps (a0 : List Task) : Option (List Int) :=
  lp (fun nx1 (v1 : (List Int) × Int) => fk (decide (v1.2 ≤ (200 : Int))) (jn (fun (w2 : List Int) => nx1 (w2, (wr (v1.2 + (1 : Int))))) (fun k2 => lp (fun nx3 (v3 : Bool × Int) => fk (decide (v3.2 < (a0.length : Int))) (jn (fun (w4 : Bool) => nx3 (w4, (wr (v3.2 + (1 : Int))))) (fun k4 => fk v3.1 (k4 true) (ix a0 v3.2 fun x5 => k4 (decide (x5.D = v1.2))))) (fk v3.1 (ck (decide ((v1.1.length + ([v1.2] : List Int).length) * 8 ≤ 140737488355328)) (k2 (v1.1 ++ ([v1.2] : List Int)))) (k2 v1.1))) FU (false, (0 : Int)))) (some v1.1)) FU ([], (1 : Int))
theorem ref08_Steps_w (a0 : List Task) (r : List Int) (h : ref08_Steps a0 = some r) : Go.VC.Spec Try.prog 39 [.d (.sl (a0.map Task.enc))] (fun y => y = E_ListInt r) := by
  refine Go.VC.Spec.of_xc (args := [.d (.sl (a0.map Task.enc))]) (fn := Try.f39) tab ⟨[(0, [0]), (1, [0, 3]), (2, [0, 3, 4]), (3, [0, 3, 4, 8]), (4, [0, 3, 4]), (5, [0, 3, 4, 5]), (6, [0, 3, 4, 5, 6]), (7, [0, 3, 4, 5, 6, 14]), (8, [0, 3, 4, 5, 6]), (9, [0, 3, 4, 5, 6]), (10, [0, 3, 4, 27]), (11, [0, 3, 4]), (12, [2])], [], [8, 4], []⟩ 33 [.tmp 2] rfl rfl rfl rfl rfl rfl ?_
  refine lpS (fun v1 => ⟨[(0, .l (.d (.sl (a0.map Task.enc)))), (3, .l (.own 4)), (4, .l (.d (.int .i64 v1.2)))], 33, [], [], [(4, 3, 1, v1.1.map (eI .i64))]⟩) h (Weak.trans (Weak.nilO _ 3 4 3 1 rfl) (Weak.refl _)) (fun _ nx1 hn1 v1 h => ?_)
  refine fkS h (fun h => ?_) (fun h => ?_)
  · refine jnS (fun w2 => ⟨[(0, .l (.d (.sl (a0.map Task.enc)))), (3, .l (.own 4)), (4, .l (.d (.int .i64 v1.2)))], 33, [], [], [(4, 3, 1, w2.map (eI .i64))]⟩) h (fun k2 hk2 h => ?_) (fun w2 h => ?_)
    · refine lpS (fun v3 => ⟨[(0, .l (.d (.sl (a0.map Task.enc)))), (3, .l (.own 4)), (4, .l (.d (.int .i64 v1.2))), (5, .l (.d (.bool v3.1))), (6, .l (.d (.int .i64 v3.2)))], 33, [], [], [(4, 3, 1, v1.1.map (eI .i64))]⟩) h (Weak.refl _) (fun _ nx3 hn3 v3 h => ?_)
      refine lenS a0 Task.enc rfl ?_
      refine fkS h (fun h => ?_) (fun h => ?_)
      · refine jnS (fun w4 => ⟨[(0, .l (.d (.sl (a0.map Task.enc)))), (3, .l (.own 4)), (4, .l (.d (.int .i64 v1.2))), (5, .l (.d (.bool w4))), (6, .l (.d (.int .i64 v3.2)))], 33, [], [], [(4, 3, 1, v1.1.map (eI .i64))]⟩) h (fun k4 hk4 h => ?_) (fun w4 h => ?_)
        · refine fkS h (fun h => ?_) (fun h => ?_)
          · exact jeS hk4 h (Weak.refl _)
          refine ixS (enc := Task.enc) h rfl (fun _ => rfl) (fun x5 h => ?_)
          exact jeS hk4 h (Weak.refl _)
        exact leS hn3 h (Weak.refl _)
      refine fkS h (fun h => ?_) (fun h => ?_)
      · refine liS ([v1.2] : List Int) (eI .i64) rfl rfl ?_
        refine apS (enc := (eI .i64)) (l1 := v1.1) (l2 := ([v1.2] : List Int)) h rfl rfl (fun _ => rfl) (fun h => ?_)
        exact jeS hk2 h (Weak.refl _)
      exact jeS hk2 h (Weak.trans (Weak.keepS _ [0, 3, 4]) (Weak.refl _))
    exact leS hn1 h (Weak.refl _)
  exact rt (E := E_ListInt) h rfl

end Go.Proofs.Ytpoaeepmjfocjaa
namespace Go.Proofs.Ytpoaeepmjfocjaa
open Go Go.VC
noncomputable def ref05_SameInts (a0 : List Int) (a1 : List Int) : Option Bool :=
  fk (!decide ((a0.length : Int) = (a1.length : Int))) (some false) (lp (fun nx1 (v1 : Int) => fk (decide (v1 < (a0.length : Int))) (ix a0 v1 fun x2 => ix a1 v1 fun x3 => fk (!decide (x2 = x3)) (some false) (nx1 (wr (v1 + (1 : Int))))) (some true)) FU (0 : Int))
theorem ref05_SameInts_w (a0 : List Int) (a1 : List Int) (r : Bool) (h : ref05_SameInts a0 a1 = some r) : Go.VC.Spec Try.prog 38 [.d (.sl (a0.map (eI .i64))), .d (.sl (a1.map (eI .i64)))] (fun y => y = E_Bool r) := by
  refine Go.VC.Spec.of_xc (args := [.d (.sl (a0.map (eI .i64))), .d (.sl (a1.map (eI .i64)))]) (fn := Try.f38) tab ⟨[(0, [0, 1]), (1, [0, 1, 10]), (2, [4]), (3, [0, 1, 5]), (4, [0, 1, 5, 14]), (5, [0, 1, 5]), (6, [0, 1, 5, 25]), (7, [4]), (8, [4])], [], [], []⟩ 26 [.tmp 4] rfl rfl rfl rfl rfl rfl ?_
  refine lenS a0 (eI .i64) rfl ?_
  refine lenS a1 (eI .i64) rfl ?_
  refine fkS h (fun h => ?_) (fun h => ?_)
  · exact rt (E := E_Bool) h rfl
  refine lpS (fun v1 => ⟨[(0, .l (.d (.sl (a0.map (eI .i64))))), (1, .l (.d (.sl (a1.map (eI .i64))))), (5, .l (.d (.int .i64 v1)))], 26, [], [], []⟩) h (Weak.refl _) (fun _ nx1 hn1 v1 h => ?_)
  refine lenS a0 (eI .i64) rfl ?_
  refine fkS h (fun h => ?_) (fun h => ?_)
  · refine ⟨8, ?_⟩
    refine ixS (enc := (eI .i64)) h rfl (fun _ => rfl) (fun x2 h => ?_)
    refine ixS (enc := (eI .i64)) h rfl (fun _ => rfl) (fun x3 h => ?_)
    refine drS (by kernel_rfl) ?_
    refine fkS h (fun h => ?_) (fun h => ?_)
    · exact rt (E := E_Bool) h rfl
    exact leS hn1 h (Weak.refl _)
  exact rt (E := E_Bool) h rfl

end Go.Proofs.Ytpoaeepmjfocjaa
namespace Go.Proofs.Ytpoaeepmjfocjaa
open Go Go.VC
noncomputable def law08_BlockTells (a0 : List Task) (a1 : Int) : Option Bool :=
  bnd (law05_Great a0) fun x1 => fk x1 (bnd law08_knows fun x2 => some x2) (bnd (block_Of a0 a1) fun x3 => bnd (block_Steps a0) fun x4 => bnd (ref05_All a0) fun x5 => fk (!x5) (fk (decide (x3.1 = (0 : Int))) (fk (decide (x3.2 = (1 : Int))) (fk (decide ((x4.1.length : Int) = (0 : Int))) (fk (decide (x4.2 = (1 : Int))) (bnd law08_knows fun x6 => some x6) (some false)) (some false)) (some false)) (some false)) (bnd (ref08_Of a0 a1) fun x7 => fk (decide (x3.1 = x7)) (fk (decide (x3.2 = (0 : Int))) (bnd (ref08_Steps a0) fun x8 => bnd (ref05_SameInts x4.1 x8) fun x9 => fk x9 (fk (decide (x4.2 = (0 : Int))) (bnd law08_knows fun x10 => some x10) (some false)) (some false)) (some false)) (some false)))
theorem law08_BlockTells_w (a0 : List Task) (a1 : Int) (r : Bool) (h : law08_BlockTells a0 a1 = some r) : Go.VC.Spec Try.prog 10 [.d (.sl (a0.map Task.enc)), .d (.int .i64 a1)] (fun y => y = E_Bool r) := by
  refine Go.VC.Spec.of_xc (args := [.d (.sl (a0.map Task.enc)), .d (.int .i64 a1)]) (fn := Try.f10) tab ⟨[(0, [0, 1]), (1, [0, 1, 10]), (2, [4]), (3, [0, 1, 5, 6]), (4, [0, 1, 5, 6, 7, 8]), (5, [0, 1, 5, 6, 7, 8, 25]), (6, [4]), (7, [4])], [], [], []⟩ 66 [.tmp 4] rfl rfl rfl rfl rfl rfl ?_
  refine caS (E := E_Bool) h (law05_Great_w a0) rfl (fun _ => rfl) (fun x1 h => ?_)
  refine fkS h (fun h => ?_) (fun h => ?_)
  · refine caS (E := E_Bool) h law08_knows_w rfl (fun _ => rfl) (fun x2 h => ?_)
    exact rt (E := E_Bool) h rfl
  refine caS (E := E_Int_Int) h (block_Of_w a0 a1) rfl (fun _ => rfl) (fun x3 h => ?_)
  refine ccS (E := E_ListInt_Int) h (block_Steps_w a0) rfl rfl (fun x4 h => ?_)
  refine caS (E := E_Bool) h (ref05_All_w a0) rfl (fun _ => rfl) (fun x5 h => ?_)
  refine fkS h (fun h => ?_) (fun h => ?_)
  · refine fkS h (fun h => ?_) (fun h => ?_)
    · refine fkS h (fun h => ?_) (fun h => ?_)
      · refine lenS x4.1 (eI .i64) rfl ?_
        refine fkS h (fun h => ?_) (fun h => ?_)
        · refine fkS h (fun h => ?_) (fun h => ?_)
          · refine caS (E := E_Bool) h law08_knows_w rfl (fun _ => rfl) (fun x6 h => ?_)
            exact rt (E := E_Bool) h rfl
          exact rt (E := E_Bool) h rfl
        exact rt (E := E_Bool) h rfl
      exact rt (E := E_Bool) h rfl
    exact rt (E := E_Bool) h rfl
  refine caS (E := E_Int) h (ref08_Of_w a0 a1) rfl (fun _ => rfl) (fun x7 h => ?_)
  refine fkS h (fun h => ?_) (fun h => ?_)
  · refine fkS h (fun h => ?_) (fun h => ?_)
    · refine ccS (E := E_ListInt) h (ref08_Steps_w a0) rfl rfl (fun x8 h => ?_)
      refine caS (E := E_Bool) h (ref05_SameInts_w x4.1 x8) rfl (fun _ => rfl) (fun x9 h => ?_)
      refine fkS h (fun h => ?_) (fun h => ?_)
      · refine fkS h (fun h => ?_) (fun h => ?_)
        · refine caS (E := E_Bool) h law08_knows_w rfl (fun _ => rfl) (fun x10 h => ?_)
          exact rt (E := E_Bool) h rfl
        exact rt (E := E_Bool) h rfl
      exact rt (E := E_Bool) h rfl
    exact rt (E := E_Bool) h rfl
  exact rt (E := E_Bool) h rfl

end Go.Proofs.Ytpoaeepmjfocjaa
namespace Go.Proofs.Ytpoaeepmjfocjaa
open Go Go.VC
noncomputable def law08_BlockSteps (a0 : List Task) (a1 : Int) : Option Bool :=
  jn (fun (w1 : Bool) => fk w1 (bnd law08_knows fun x4 => some x4) (bnd (block_Steps a0) fun x5 => bnd (block_Of a0 a1) fun x6 => jn (fun (w7 : Bool) => fk w7 (some false) (lp (fun nx8 (v8 : Int × Int) => fk (decide (v8.2 < (x5.1.length : Int))) (jn (fun (w9 : Int) => nx8 (w9, (wr (v8.2 + (1 : Int))))) (fun k9 => ix x5.1 v8.2 fun x10 => fk (decide (x10 ≤ a1)) (k9 v8.2) (k9 v8.1))) (jn (fun (w11 : Bool) => fk w11 (fk (decide (x6.1 = (0 : Int))) (bnd law08_knows fun x12 => some x12) (some false)) (ix x5.1 v8.1 fun x13 => bnd (block_Of a0 x13) fun x14 => fk (decide (x6.1 = x14.1)) (fk (decide (x14.2 = (0 : Int))) (bnd law08_knows fun x15 => some x15) (some false)) (some false))) (fun k11 => fk (decide (v8.1 < (0 : Int))) (k11 true) (k11 (decide (v8.1 = (wr ((x5.1.length : Int) - (1 : Int))))))))) FU ((-1 : Int), (0 : Int)))) (fun k7 => fk (!decide (x5.2 = (0 : Int))) (k7 true) (k7 (!decide (x6.2 = (0 : Int))))))) (fun k1 => bnd (law05_Great a0) fun x2 => fk x2 (k1 true) (bnd (ref05_All a0) fun x3 => k1 (!x3)))
theorem law08_BlockSteps_w (a0 : List Task) (a1 : Int) (r : Bool) (h : law08_BlockSteps a0 a1 = some r) : Go.VC.Spec Try.prog 11 [.d (.sl (a0.map Task.enc)), .d (.int .i64 a1)] (fun y => y = E_Bool r) := by
  refine Go.VC.Spec.of_xc (args := [.d (.sl (a0.map Task.enc)), .d (.int .i64 a1)]) (fn := Try.f11) tab ⟨[(0, [0, 1]), (1, [0, 1, 19]), (2, [4]), (3, [0, 1, 5, 6]), (4, [0, 1, 5, 6, 7, 8]), (5, [0, 1, 5, 7, 37]), (6, [4]), (7, [0, 1, 5, 7, 9]), (8, [0, 1, 5, 7, 9, 10]), (9, [0, 1, 5, 7, 9, 10, 41]), (10, [0, 1, 5, 7, 9, 10]), (11, [0, 1, 5, 7, 9, 10, 49]), (12, [0, 1, 5, 7, 9, 10]), (13, [0, 5, 7, 9, 59]), (14, [4]), (15, [7, 11, 12]), (16, [4])], [], [100019, 100037, 10, 100059], []⟩ 84 [.tmp 4] rfl rfl rfl rfl rfl rfl ?_
  refine jnS (fun w1 => ⟨[(0, .l (.d (.sl (a0.map Task.enc)))), (1, .l (.d (.int .i64 a1))), (19, .l (.d (.bool w1)))], 84, [], [], []⟩) h (fun k1 hk1 h => ?_) (fun w1 h => ?_)
  · refine caS (E := E_Bool) h (law05_Great_w a0) rfl (fun _ => rfl) (fun x2 h => ?_)
    refine fkS h (fun h => ?_) (fun h => ?_)
    · exact jeS hk1 h (Weak.refl _)
    refine caS (E := E_Bool) h (ref05_All_w a0) rfl (fun _ => rfl) (fun x3 h => ?_)
    exact jeS hk1 h (Weak.refl _)
  refine fkS h (fun h => ?_) (fun h => ?_)
  · refine caS (E := E_Bool) h law08_knows_w rfl (fun _ => rfl) (fun x4 h => ?_)
    exact rt (E := E_Bool) h rfl
  refine ccS (E := E_ListInt_Int) h (block_Steps_w a0) rfl rfl (fun x5 h => ?_)
  refine caS (E := E_Int_Int) h (block_Of_w a0 a1) rfl (fun _ => rfl) (fun x6 h => ?_)
  refine jnS (fun w7 => ⟨[(0, .l (.d (.sl (a0.map Task.enc)))), (1, .l (.d (.int .i64 a1))), (5, .l (.d (.sl (x5.1.map (eI .i64))))), (7, .l (.d (.int .i64 x6.1))), (37, .l (.d (.bool w7)))], 84, [], [], []⟩) h (fun k7 hk7 h => ?_) (fun w7 h => ?_)
  · refine fkS h (fun h => ?_) (fun h => ?_)
    · exact jeS hk7 h (Weak.refl _)
    exact jeS hk7 h (Weak.refl _)
  refine fkS h (fun h => ?_) (fun h => ?_)
  · exact rt (E := E_Bool) h rfl
  refine lpS (fun v8 => ⟨[(0, .l (.d (.sl (a0.map Task.enc)))), (1, .l (.d (.int .i64 a1))), (5, .l (.d (.sl (x5.1.map (eI .i64))))), (7, .l (.d (.int .i64 x6.1))), (9, .l (.d (.int .i64 v8.1))), (10, .l (.d (.int .i64 v8.2)))], 84, [], [], []⟩) h (Weak.refl _) (fun _ nx8 hn8 v8 h => ?_)
  refine lenS x5.1 (eI .i64) rfl ?_
  refine fkS h (fun h => ?_) (fun h => ?_)
  · refine jnS (fun w9 => ⟨[(0, .l (.d (.sl (a0.map Task.enc)))), (1, .l (.d (.int .i64 a1))), (5, .l (.d (.sl (x5.1.map (eI .i64))))), (7, .l (.d (.int .i64 x6.1))), (9, .l (.d (.int .i64 w9))), (10, .l (.d (.int .i64 v8.2)))], 84, [], [], []⟩) h (fun k9 hk9 h => ?_) (fun w9 h => ?_)
    · refine ixS (enc := (eI .i64)) h rfl (fun _ => rfl) (fun x10 h => ?_)
      refine fkS h (fun h => ?_) (fun h => ?_)
      · exact jeS hk9 h (Weak.refl _)
      exact jeS hk9 h (Weak.trans (Weak.keepS _ [0, 1, 5, 7, 9, 10]) (Weak.refl _))
    exact leS hn8 h (Weak.refl _)
  refine jnS (fun w11 => ⟨[(0, .l (.d (.sl (a0.map Task.enc)))), (5, .l (.d (.sl (x5.1.map (eI .i64))))), (7, .l (.d (.int .i64 x6.1))), (9, .l (.d (.int .i64 v8.1))), (59, .l (.d (.bool w11)))], 84, [], [], []⟩) h (fun k11 hk11 h => ?_) (fun w11 h => ?_)
  · refine fkS h (fun h => ?_) (fun h => ?_)
    · exact jeS hk11 h (Weak.refl _)
    refine lenS x5.1 (eI .i64) rfl ?_
    exact jeS hk11 h (Weak.refl _)
  refine fkS h (fun h => ?_) (fun h => ?_)
  · refine fkS h (fun h => ?_) (fun h => ?_)
    · refine caS (E := E_Bool) h law08_knows_w rfl (fun _ => rfl) (fun x12 h => ?_)
      exact rt (E := E_Bool) h rfl
    exact rt (E := E_Bool) h rfl
  refine ixS (enc := (eI .i64)) h rfl (fun _ => rfl) (fun x13 h => ?_)
  refine caS (E := E_Int_Int) h (block_Of_w a0 x13) rfl (fun _ => rfl) (fun x14 h => ?_)
  refine fkS h (fun h => ?_) (fun h => ?_)
  · refine fkS h (fun h => ?_) (fun h => ?_)
    · refine caS (E := E_Bool) h law08_knows_w rfl (fun _ => rfl) (fun x15 h => ?_)
      exact rt (E := E_Bool) h rfl
    exact rt (E := E_Bool) h rfl
  exact rt (E := E_Bool) h rfl

end Go.Proofs.Ytpoaeepmjfocjaa
namespace Go.Proofs.Ytpoaeepmjfocjaa
open Go Go.VC
noncomputable def law08_BlockNone (a0 : List Task) (a1 : Int) : Option Bool :=
  jn (fun (w1 : Bool) => fk w1 (bnd law08_knows fun x4 => some x4) (lp (fun nx5 (v5 : (List Task) × (List Task) × Int) => fk (decide (v5.2.2 < (a0.length : Int))) (jn (fun (w6 : (List Task) × (List Task)) => nx5 (w6.1, w6.2, (wr (v5.2.2 + (1 : Int))))) (fun k6 => ix a0 v5.2.2 fun x7 => ix a0 v5.2.2 fun x8 => ix a0 v5.2.2 fun x9 => ck (decide ((v5.1.length + ([⟨x7.C, x8.D, x9.T, []⟩] : List Task).length) * 48 ≤ 140737488355328)) (ix a0 v5.2.2 fun x10 => ix a0 (0 : Int) fun x11 => fk (decide (x10.D = x11.D)) (ix a0 v5.2.2 fun x12 => ck (decide ((v5.2.1.length + ([x12] : List Task).length) * 48 ≤ 140737488355328)) (k6 (v5.1 ++ ([⟨x7.C, x8.D, x9.T, []⟩] : List Task), v5.2.1 ++ ([x12] : List Task)))) (k6 (v5.1 ++ ([⟨x7.C, x8.D, x9.T, []⟩] : List Task), v5.2.1))))) (bnd (block_Of v5.1 a1) fun x13 => bnd (block_Of v5.2.1 a1) fun x14 => fk (decide (x13.1 = (0 : Int))) (fk (decide (x13.2 = (0 : Int))) (fk (decide (x14.1 = (0 : Int))) (fk (decide (x14.2 = (0 : Int))) (bnd law08_knows fun x15 => some x15) (some false)) (some false)) (some false)) (some false))) FU ([], [], (0 : Int)))) (fun k1 => bnd (law05_Great a0) fun x2 => fk x2 (k1 true) (bnd (ref05_All a0) fun x3 => k1 (!x3)))
theorem law08_BlockNone_w (a0 : List Task) (a1 : Int) (r : Bool) (h : law08_BlockNone a0 a1 = some r) : Go.VC.Spec Try.prog 13 [.d (.sl (a0.map Task.enc)), .d (.int .i64 a1)] (fun y => y = E_Bool r) := by
  refine Go.VC.Spec.of_xc (args := [.d (.sl (a0.map Task.enc)), .d (.int .i64 a1)]) (fn := Try.f13) tab ⟨[(0, [0, 1]), (1, [0, 1, 18]), (2, [4]), (3, [0, 1, 5, 6]), (4, [0, 1, 5, 6, 7]), (5, [0, 1, 5, 6, 7, 23]), (6, [0, 1, 5, 6, 7]), (7, [0, 1, 5, 6, 7]), (8, [0, 1, 5, 6, 7, 54]), (9, [0, 1, 5, 6, 7]), (10, [1, 6, 8, 9]), (11, [8, 9, 10, 11]), (12, [4])], [], [100018, 6], []⟩ 91 [.tmp 4] rfl rfl rfl rfl rfl rfl ?_
  refine jnS (fun w1 => ⟨[(0, .l (.d (.sl (a0.map Task.enc)))), (1, .l (.d (.int .i64 a1))), (18, .l (.d (.bool w1)))], 91, [], [], []⟩) h (fun k1 hk1 h => ?_) (fun w1 h => ?_)
  · refine caS (E := E_Bool) h (law05_Great_w a0) rfl (fun _ => rfl) (fun x2 h => ?_)
    refine fkS h (fun h => ?_) (fun h => ?_)
    · exact jeS hk1 h (Weak.refl _)
    refine caS (E := E_Bool) h (ref05_All_w a0) rfl (fun _ => rfl) (fun x3 h => ?_)
    exact jeS hk1 h (Weak.refl _)
  refine fkS h (fun h => ?_) (fun h => ?_)
  · refine caS (E := E_Bool) h law08_knows_w rfl (fun _ => rfl) (fun x4 h => ?_)
    exact rt (E := E_Bool) h rfl
  refine lpS (fun v5 => ⟨[(0, .l (.d (.sl (a0.map Task.enc)))), (1, .l (.d (.int .i64 a1))), (5, .l (.own 6)), (6, .l (.own 7)), (7, .l (.d (.int .i64 v5.2.2)))], 91, [], [], [(6, 24, 4, v5.1.map Task.enc), (7, 24, 4, v5.2.1.map Task.enc)]⟩) h (Weak.trans (Weak.nilO _ 5 6 24 4 rfl) (Weak.trans (Weak.nilO _ 6 7 24 4 rfl) (Weak.refl _))) (fun _ nx5 hn5 v5 h => ?_)
  refine lenS a0 Task.enc rfl ?_
  refine fkS h (fun h => ?_) (fun h => ?_)
  · refine jnS (fun w6 => ⟨[(0, .l (.d (.sl (a0.map Task.enc)))), (1, .l (.d (.int .i64 a1))), (5, .l (.own 6)), (6, .l (.own 7)), (7, .l (.d (.int .i64 v5.2.2)))], 91, [], [], [(6, 24, 4, w6.1.map Task.enc), (7, 24, 4, w6.2.map Task.enc)]⟩) h (fun k6 hk6 h => ?_) (fun w6 h => ?_)
    · refine ⟨18, ?_⟩
      refine ixS (enc := Task.enc) h rfl (fun _ => rfl) (fun x7 h => ?_)
      refine ixS (enc := Task.enc) h rfl (fun _ => rfl) (fun x8 h => ?_)
      refine ixS (enc := Task.enc) h rfl (fun _ => rfl) (fun x9 h => ?_)
      refine liS ([⟨x7.C, x8.D, x9.T, []⟩] : List Task) Task.enc rfl rfl ?_
      refine drS (by kernel_rfl) ?_
      refine apS (enc := Task.enc) (l1 := v5.1) (l2 := ([⟨x7.C, x8.D, x9.T, []⟩] : List Task)) h rfl rfl (fun _ => rfl) (fun h => ?_)
      refine ⟨9, ?_⟩
      refine ixS (enc := Task.enc) h rfl (fun _ => rfl) (fun x10 h => ?_)
      refine ixS (enc := Task.enc) h rfl (fun _ => rfl) (fun x11 h => ?_)
      refine drS (by kernel_rfl) ?_
      refine fkS h (fun h => ?_) (fun h => ?_)
      · refine ixS (enc := Task.enc) h rfl (fun _ => rfl) (fun x12 h => ?_)
        refine liS ([x12] : List Task) Task.enc rfl rfl ?_
        refine apS (enc := Task.enc) (l1 := v5.2.1) (l2 := ([x12] : List Task)) h rfl rfl (fun _ => rfl) (fun h => ?_)
        exact jeS hk6 h (Weak.refl _)
      exact jeS hk6 h (Weak.trans (Weak.keepS _ [0, 1, 5, 6, 7]) (Weak.refl _))
    exact leS hn5 h (Weak.refl _)
  refine caS (E := E_Int_Int) h (block_Of_w v5.1 a1) rfl (fun _ => rfl) (fun x13 h => ?_)
  refine caS (E := E_Int_Int) h (block_Of_w v5.2.1 a1) rfl (fun _ => rfl) (fun x14 h => ?_)
  refine fkS h (fun h => ?_) (fun h => ?_)
  · refine fkS h (fun h => ?_) (fun h => ?_)
    · refine fkS h (fun h => ?_) (fun h => ?_)
      · refine fkS h (fun h => ?_) (fun h => ?_)
        · refine caS (E := E_Bool) h law08_knows_w rfl (fun _ => rfl) (fun x15 h => ?_)
          exact rt (E := E_Bool) h rfl
        exact rt (E := E_Bool) h rfl
      exact rt (E := E_Bool) h rfl
    exact rt (E := E_Bool) h rfl
  exact rt (E := E_Bool) h rfl

end Go.Proofs.Ytpoaeepmjfocjaa
namespace Go.Proofs.Ytpoaeepmjfocjaa
open Go Go.VC

/-! ### Blocking -/
def sharedP (l : List Task) (t res : Int) : Prop := ∃ x ∈ l, x.D ≤ t ∧ usesP x res
instance (l : List Task) (t res : Int) : Decidable (sharedP l t res) := by unfold sharedP; infer_instance
theorem block_shared_eq (l : List Task) (t res : Int) (hl : l.length ≤ 4611686018427387904) : block_shared l t res = some (decide (sharedP l t res)) := by
  unfold block_shared
  refine lp_up l.length (by unfold FU; omega) (fun k => ∀ j (h : j < l.length), j < k → ¬ (l[j].D ≤ t ∧ usesP l[j] res)) (fun j _ h => by omega) ?_
  intro nx k hk J hnx
  rw [lt_nat]
  by_cases h : k < l.length
  · simp only [jn_eq]
    rw [decide_eq_true h, fk_t, ix_lt h, bnd_eq (task_Uses_eq _ _), wr_succ k _ h hl, fk_f]
    have go : ¬ (l[k].D ≤ t ∧ usesP l[k] res) → nx ((k + 1 : Nat) : Int) = some (decide (sharedP l t res)) := fun hn => hnx h fun j hj hjk => by
      by_cases e : j = k
      · subst e; exact hn
      · exact J j hj (by omega)
    by_cases c1 : l[k].D ≤ t
    · rw [decide_eq_true c1, fk_t]
      by_cases c2 : usesP l[k] res
      · rw [decide_eq_true c2, fk_t]; exact dec_t ⟨_, List.getElem_mem h, c1, c2⟩
      · rw [decide_eq_false c2, fk_f]; exact go fun hh => c2 hh.2
    · rw [decide_eq_false c1, fk_f]; exact go fun hh => c1 hh.1
  · rw [decide_eq_false h, fk_f]
    refine dec_f ?_
    rintro ⟨x, hx, hh⟩
    obtain ⟨j, hj, rfl⟩ := List.getElem_of_mem hx
    exact J j hj (by omega) hh
def secN (l : List Task) (t : Int) (s : Sec) : Nat := if sharedP l t s.Res then s.Len.toNat else 0
def taskN (l : List Task) (t : Int) (x : Task) : Nat := if x.D ≤ t then 0 else maxL (secN l t) x.Secs
def blockV (l : List Task) (t : Int) : Nat := maxL (taskN l t) l
theorem RightP.sl {t : Task} (h : RightP t) {s : Sec} (hs : s ∈ t.Secs) : 1 ≤ s.Len ∧ s.Len ≤ 200 := by
  have h1 := h.2.1 s hs
  have h2 := h.c
  unfold secP at h1
  omega
theorem maxL_bound {α : Type} {f : α → Nat} {l : List α} {n : Nat} (h : ∀ x ∈ l, f x ≤ n) : maxL f l ≤ n := maxL_le.2 h
theorem block_Of_eq (l : List Task) (t : Int) (hl : l.length ≤ 4611686018427387904) : block_Of l t = some (if AllP l then ((blockV l t : Nat) : Int) else 0, if AllP l then 0 else 1) := by
  unfold block_Of
  rw [bnd_eq (task_All_eq l hl)]
  by_cases ha : AllP l
  rotate_left
  · rw [decide_eq_false ha, Bool.not_false, fk_t, if_neg ha, if_neg ha]
  rw [decide_eq_true ha, Bool.not_true, fk_f, if_pos ha, if_pos ha]
  refine lp_upS l.length (by unfold FU; omega) (fun k n => n = ((maxL (taskN l t) (l.take k) : Nat) : Int)) 0 rfl ?_
  rintro nx k n hk rfl hnx
  simp only [jn_eq]
  rw [lt_nat]
  by_cases h : k < l.length
  · have hm := maxL_succ (taskN l t) l k h
    have hx : l[k] ∈ l := List.getElem_mem h
    have hr := ha.1 _ hx
    have hsl := hr.len
    rw [decide_eq_true h, fk_t, ix_lt h, wr_succ k _ h hl]
    by_cases c1 : l[k].D ≤ t
    · rw [decide_eq_true c1, fk_t]
      refine hnx _ h ?_
      rw [hm, taskN, if_pos c1]; omega
    rw [decide_eq_false c1, fk_f]
    rw [taskN, if_neg c1] at hm
    generalize hA : maxL (taskN l t) (l.take k) = A at *
    refine lp_upS l[k].Secs.length (by unfold FU; omega) (fun j n => n = ((max A (maxL (secN l t) (l[k].Secs.take j)) : Nat) : Int)) _ (by simp [maxL]) ?_
    rintro nx2 j n hj rfl hnx2
    simp only
    rw [lt_nat]
    by_cases h2 : j < l[k].Secs.length
    · have hm2 := maxL_succ (secN l t) l[k].Secs j h2
      have hlen := hr.sl (List.getElem_mem h2)
      rw [decide_eq_true h2, fk_t, ix_lt h2, bnd_eq (block_shared_eq _ _ _ hl), wr_succ j _ h2 (by omega), fk_f]
      unfold secN at hm2
      by_cases c2 : l[k].Secs[j].Len > ((max A (maxL (secN l t) (l[k].Secs.take j)) : Nat) : Int)
      · rw [decide_eq_true c2, fk_t]
        by_cases c3 : sharedP l t l[k].Secs[j].Res
        · rw [decide_eq_true c3, fk_t]
          refine hnx2 _ h2 ?_
          rw [if_pos c3] at hm2
          unfold secN at c2 ⊢
          rw [hm2]; omega
        · rw [decide_eq_false c3, fk_f]
          refine hnx2 _ h2 ?_
          rw [if_neg c3] at hm2
          unfold secN
          rw [hm2]; omega
      · rw [decide_eq_false c2, fk_f]
        refine hnx2 _ h2 ?_
        unfold secN at c2 ⊢
        rw [hm2]
        split <;> omega
    · rw [decide_eq_false h2, fk_f]
      have : j = l[k].Secs.length := by omega
      rw [this, List.take_length]
      exact hnx _ h (by rw [hm])
  · rw [decide_eq_false h, fk_f]
    have : k = l.length := by omega
    rw [this, List.take_length]; rfl
theorem ref08_Of_eq (l : List Task) (t : Int) (ha : AllP l) : ref08_Of l t = some ((blockV l t : Nat) : Int) := by
  unfold ref08_Of
  have hl := ha.len
  refine lp_upS l.length (by unfold FU; omega) (fun k n => n = ((maxL (taskN l t) (l.take k) : Nat) : Int)) 0 rfl ?_
  rintro nx k n hk rfl hnx
  simp only [jn_eq]
  rw [lt_nat]
  by_cases h : k < l.length
  rotate_left
  · rw [decide_eq_false h, fk_f]
    have : k = l.length := by omega
    rw [this, List.take_length]; rfl
  have hm := maxL_succ (taskN l t) l k h
  have hx : l[k] ∈ l := List.getElem_mem h
  have hr := ha.1 _ hx
  have hsl := hr.len
  rw [decide_eq_true h, fk_t, wr_succ k _ h hl]
  generalize hA : maxL (taskN l t) (l.take k) = A at *
  have g : ∀ j, maxL (fun s => if l[k].D ≤ t then 0 else secN l t s) (l[k].Secs.take j) = if l[k].D ≤ t then 0 else maxL (secN l t) (l[k].Secs.take j) := by
    intro j
    by_cases c : l[k].D ≤ t
    · rw [if_pos c]; exact maxL_zero fun x _ => by rw [if_pos c]
    · rw [if_neg c]; congr 1; funext s; rw [if_neg c]
  refine lp_upS l[k].Secs.length (by unfold FU; omega) (fun j n => n = ((max A (maxL (fun s => if l[k].D ≤ t then 0 else secN l t s) (l[k].Secs.take j)) : Nat) : Int)) _ (by simp [maxL]) ?_
  rintro nx2 j n hj rfl hnx2
  simp only
  rw [ix_lt h, lt_nat]
  by_cases h2 : j < l[k].Secs.length
  rotate_left
  · rw [decide_eq_false h2, fk_f]
    have : j = l[k].Secs.length := by omega
    rw [this, List.take_length]
    refine hnx _ h ?_
    have := g l[k].Secs.length
    rw [List.take_length] at this
    rw [hm, this, taskN]
  have hm2 := maxL_succ (fun s => if l[k].D ≤ t then 0 else secN l t s) l[k].Secs j h2
  have hlen := hr.sl (List.getElem_mem h2)
  rw [decide_eq_true h2, fk_t, wr_succ j _ h2 (by omega)]
  generalize hB : max A (maxL (fun s => if l[k].D ≤ t then 0 else secN l t s) (l[k].Secs.take j)) = B at *
  have hn2 : ∀ m : Nat, m = max B (if l[k].D ≤ t then 0 else secN l t l[k].Secs[j]) → nx2 ((m : Int), ((j + 1 : Nat) : Int)) = some ((blockV l t : Nat) : Int) := fun m e => hnx2 _ h2 (by rw [hm2, e]; omega)
  refine lp_upS l.length (by unfold FU; omega) (fun i n => n = ((if l[k].D > t ∧ (∃ q, ∃ hq : q < l.length, q < i ∧ l[q].D ≤ t ∧ usesP l[q] l[k].Secs[j].Res) then max B l[k].Secs[j].Len.toNat else B : Nat) : Int)) _ (by rw [if_neg]; rintro ⟨_, q, _, hh, _⟩; omega) ?_
  rintro nx3 i n hi hn hnx3
  simp only
  rw [lt_nat]
  by_cases h3 : i < l.length
  rotate_left
  · rw [decide_eq_false h3, fk_f, hn]
    refine hn2 _ ?_
    have e : (∃ q, ∃ hq : q < l.length, q < i ∧ l[q].D ≤ t ∧ usesP l[q] l[k].Secs[j].Res) ↔ sharedP l t l[k].Secs[j].Res := by
      constructor
      · rintro ⟨q, hq, _, a, b⟩; exact ⟨_, List.getElem_mem hq, a, b⟩
      · rintro ⟨x, hx, a, b⟩
        obtain ⟨q, hq, rfl⟩ := List.getElem_of_mem hx
        exact ⟨q, hq, by omega, a, b⟩
    rw [secN]
    by_cases c1 : l[k].D ≤ t
    · rw [if_pos c1, if_neg (fun hh => by omega)]; omega
    · rw [if_neg c1]
      by_cases c2 : sharedP l t l[k].Secs[j].Res
      · rw [if_pos c2, if_pos ⟨by omega, e.2 c2⟩]
      · rw [if_neg c2, if_neg (fun hh => c2 (e.1 hh.2))]; omega
  have hxi : l[i] ∈ l := List.getElem_mem h3
  have hu : (∃ s ∈ l[i].Secs, s.Res = l[k].Secs[j].Res) ↔ usesP l[i] l[k].Secs[j].Res := ⟨fun e => ⟨ha.1 _ hxi, e⟩, fun e => e.2⟩
  rw [decide_eq_true h3, fk_t, wr_succ i _ h3 hl, ix_lt h, ix_lt h3, ix_lt h3, ix_lt h, ix_lt h2, bnd_eq (ref05_Uses_eq _ _ (ha.slen hxi)), decide_eq_decide.2 hu]
  simp only [ix_lt h, ix_lt h2]
  subst hn
  have keep : ¬ (l[k].D > t ∧ l[i].D ≤ t ∧ usesP l[i] l[k].Secs[j].Res) → nx3 ((((if l[k].D > t ∧ (∃ q, ∃ hq : q < l.length, q < i ∧ l[q].D ≤ t ∧ usesP l[q] l[k].Secs[j].Res) then max B l[k].Secs[j].Len.toNat else B : Nat) : Int)), ((i + 1 : Nat) : Int)) = some ((blockV l t : Nat) : Int) := by
    intro hno
    refine hnx3 _ h3 ?_
    have e : (l[k].D > t ∧ (∃ q, ∃ hq : q < l.length, q < i + 1 ∧ l[q].D ≤ t ∧ usesP l[q] l[k].Secs[j].Res)) ↔ (l[k].D > t ∧ (∃ q, ∃ hq : q < l.length, q < i ∧ l[q].D ≤ t ∧ usesP l[q] l[k].Secs[j].Res)) := by
      constructor
      · rintro ⟨a, q, hq, b, c, d⟩
        refine ⟨a, q, hq, ?_, c, d⟩
        by_cases e : q = i
        · subst e; exact absurd ⟨a, c, d⟩ hno
        · omega
      · rintro ⟨a, q, hq, b, c, d⟩; exact ⟨a, q, hq, by omega, c, d⟩
    by_cases c : (l[k].D > t ∧ (∃ q, ∃ hq : q < l.length, q < i ∧ l[q].D ≤ t ∧ usesP l[q] l[k].Secs[j].Res))
    · rw [if_pos c, if_pos (e.2 c)]
    · rw [if_neg c, if_neg (fun hh => c (e.1 hh))]
  by_cases c1 : l[k].D > t
  rotate_left
  · rw [decide_eq_false c1, fk_f, fk_f]; exact keep fun hh => c1 hh.1
  rw [decide_eq_true c1, fk_t]
  by_cases c2 : l[i].D ≤ t
  rotate_left
  · rw [decide_eq_false c2, fk_f, fk_f]; exact keep fun hh => c2 hh.2.1
  rw [decide_eq_true c2, fk_t]
  by_cases c3 : usesP l[i] l[k].Secs[j].Res
  rotate_left
  · rw [decide_eq_false c3, fk_f, fk_f]; exact keep fun hh => c3 hh.2.2
  rw [decide_eq_true c3, fk_t]
  have hnew : ∀ m : Int, m = ((max B l[k].Secs[j].Len.toNat : Nat) : Int) → nx3 (m, ((i + 1 : Nat) : Int)) = some ((blockV l t : Nat) : Int) := fun m e => hnx3 _ h3 (by rw [e, if_pos ⟨c1, i, h3, by omega, c2, c3⟩])
  by_cases c4 : (l[k].D > t ∧ (∃ q, ∃ hq : q < l.length, q < i ∧ l[q].D ≤ t ∧ usesP l[q] l[k].Secs[j].Res))
  · rw [if_pos c4]
    rw [decide_eq_false (by omega), fk_f]; exact hnew _ rfl
  · rw [if_neg c4]
    by_cases c5 : l[k].Secs[j].Len > (B : Int)
    · rw [decide_eq_true c5, fk_t]; exact hnew _ (by omega)
    · rw [decide_eq_false c5, fk_f]; exact hnew _ (by omega)

/-! Where it may change. -/
def stepL (l : List Task) : List Int := ((List.range 200).map (fun n : Nat => ((n + 1 : Nat) : Int))).filter (fun d => decide (∃ x ∈ l, x.D = d))
theorem sorted_ext : ∀ {a b : List Int}, a.Pairwise (· < ·) → b.Pairwise (· < ·) → (∀ x, x ∈ a ↔ x ∈ b) → a = b
  | [], [], _, _, _ => rfl
  | [], y :: b, _, _, h => by have := (h y).2 List.mem_cons_self; cases this
  | x :: a, [], _, _, h => by have := (h x).1 List.mem_cons_self; cases this
  | x :: a, y :: b, ha, hb, h => by
    obtain ⟨ha1, ha2⟩ := List.pairwise_cons.1 ha
    obtain ⟨hb1, hb2⟩ := List.pairwise_cons.1 hb
    have e : x = y := by
      have h1 : x = y ∨ x ∈ b := List.mem_cons.1 ((h x).1 List.mem_cons_self)
      have h2 : y = x ∨ y ∈ a := List.mem_cons.1 ((h y).2 List.mem_cons_self)
      rcases h1 with h1 | h1
      · exact h1
      · rcases h2 with h2 | h2
        · exact h2.symm
        · have := hb1 x h1; have := ha1 y h2; omega
    subst e
    rw [sorted_ext ha2 hb2 fun z => ?_]
    constructor
    · intro hz
      rcases List.mem_cons.1 ((h z).1 (List.mem_cons_of_mem _ hz)) with e | e
      · subst e; have := ha1 z hz; omega
      · exact e
    · intro hz
      rcases List.mem_cons.1 ((h z).2 (List.mem_cons_of_mem _ hz)) with e | e
      · subst e; have := hb1 z hz; omega
      · exact e
theorem stepL_sorted (l : List Task) : (stepL l).Pairwise (· < ·) := by
  unfold stepL
  refine List.Pairwise.filter _ ?_
  rw [List.pairwise_map]
  exact List.Pairwise.imp (fun h => by omega) List.pairwise_lt_range
theorem stepL_mem {l : List Task} (ha : AllP l) {d : Int} : d ∈ stepL l ↔ ∃ x ∈ l, x.D = d := by
  unfold stepL
  rw [List.mem_filter, List.mem_map, decide_eq_true_eq]
  constructor
  · exact fun h => h.2
  · rintro ⟨x, hx, rfl⟩
    have := (ha.1 x hx).c
    exact ⟨⟨(x.D - 1).toNat, by rw [List.mem_range]; omega, by omega⟩, x, hx, rfl⟩
theorem stepL_len (l : List Task) : (stepL l).length ≤ 200 := by
  unfold stepL
  refine Nat.le_trans (List.length_filter_le _ _) ?_
  simp
end Go.Proofs.Ytpoaeepmjfocjaa
namespace Go.Proofs.Ytpoaeepmjfocjaa
open Go Go.VC
theorem io_t {α : Type} {l : List α} {k : Nat} (h : k < l.length) : (decide (0 ≤ (k : Int)) && decide ((k : Int) < (l.length : Int))) = true := by
  simp; omega
theorem fk_tt {α : Type} {b : Bool} (h : b = true) (x y : Option α) : fk b x y = x := by subst h; exact fk_t ..
theorem fk_ff {α : Type} {b : Bool} (h : b = false) (x y : Option α) : fk b x y = y := by subst h; exact fk_f ..
theorem block_Steps_eq (l : List Task) (hl : l.length ≤ 4611686018427387904) : block_Steps l = some (if AllP l then stepL l else [], if AllP l then 0 else 1) := by
  unfold block_Steps
  rw [bnd_eq (task_All_eq l hl)]
  by_cases ha : AllP l
  rotate_left
  · rw [decide_eq_false ha, Bool.not_false, fk_t, if_neg ha, if_neg ha]
  rw [decide_eq_true ha, Bool.not_true, fk_f, if_pos ha, if_pos ha]
  have h8 := ha.2
  refine lp_upS l.length (by unfold FU; omega) (fun k out => out.Pairwise (· < ·) ∧ out.length ≤ k ∧ ∀ d, d ∈ out ↔ ∃ j, ∃ hj : j < l.length, j < k ∧ l[j].D = d) [] ⟨List.Pairwise.nil, Nat.le_refl _, fun d => by simp⟩ ?_
  rintro nx k out hk ⟨hs, hlen, hmem⟩ hnx
  simp only [jn_eq]
  rw [lt_nat]
  by_cases h : k < l.length
  rotate_left
  · rw [decide_eq_false h, fk_f]
    have hkl : k = l.length := by omega
    subst hkl
    congr 2
    refine sorted_ext hs (stepL_sorted l) fun d => ?_
    rw [hmem, stepL_mem ha]
    constructor
    · rintro ⟨j, hj, _, e⟩; exact ⟨_, List.getElem_mem hj, e⟩
    · rintro ⟨x, hx, e⟩
      obtain ⟨j, hj, rfl⟩ := List.getElem_of_mem hx
      exact ⟨j, hj, hj, e⟩
  rw [decide_eq_true h, fk_t, ix_lt h, wr_succ k _ h hl]
  have hn := fun s' => hnx s' h
  clear hnx
  have hmem2 : ∀ d, (∃ j, ∃ hj : j < l.length, j < k + 1 ∧ l[j].D = d) ↔ (d ∈ out ∨ d = l[k].D) := by
    intro d
    rw [hmem]
    constructor
    · rintro ⟨j, hj, hjk, e⟩
      by_cases e2 : j = k
      · subst e2; exact .inr e.symm
      · exact .inl ⟨j, hj, by omega, e⟩
    · rintro (⟨j, hj, hjk, e⟩ | e)
      · exact ⟨j, hj, by omega, e⟩
      · exact ⟨k, h, by omega, e.symm⟩
  generalize l[k].D = D at *
  -- what comes of place i
  have fin : ∀ i : Nat, i ≤ out.length → (∀ j (hj : j < out.length), j < i → out[j] < D) → (∀ hi : i < out.length, ¬ out[i] < D) →
      fk (decide ((i : Int) = (out.length : Int))) (ck (decide ((0 : Int) ≤ (0 : Int)) && decide ((0 : Int) ≤ (i : Int)) && decide ((i : Int) ≤ (out.length : Int))) (ck (decide ((0 : Int) ≤ (i : Int)) && decide ((i : Int) ≤ (out.length : Int)) && decide ((out.length : Int) ≤ (out.length : Int))) (ck (decide ((([D] : List Int).length + ((out.take out.length).drop i).length) * 8 ≤ 140737488355328)) (ck (decide (0 < (([D] : List Int) ++ ((out.take out.length).drop i)).length) && decide (i ≤ out.length) && decide ((i + (([D] : List Int) ++ ((out.take out.length).drop i)).length) * 8 ≤ 140737488355328)) (nx (out.take i ++ (([D] : List Int) ++ ((out.take out.length).drop i)), ((k + 1 : Nat) : Int)))))))
        (ck (decide (0 ≤ (i : Int)) && decide ((i : Int) < (out.length : Int))) (ox out i fun x9 => fk (!decide (x9 = D)) (ck (decide ((0 : Int) ≤ (0 : Int)) && decide ((0 : Int) ≤ (i : Int)) && decide ((i : Int) ≤ (out.length : Int))) (ck (decide ((0 : Int) ≤ (i : Int)) && decide ((i : Int) ≤ (out.length : Int)) && decide ((out.length : Int) ≤ (out.length : Int))) (ck (decide ((([D] : List Int).length + ((out.take out.length).drop i).length) * 8 ≤ 140737488355328)) (ck (decide (0 < (([D] : List Int) ++ ((out.take out.length).drop i)).length) && decide (i ≤ out.length) && decide ((i + (([D] : List Int) ++ ((out.take out.length).drop i)).length) * 8 ≤ 140737488355328)) (nx (out.take i ++ (([D] : List Int) ++ ((out.take out.length).drop i)), ((k + 1 : Nat) : Int))))))) (nx (out, ((k + 1 : Nat) : Int))))) = some (stepL l, 0) := by
    intro i hi hlt hge
    have ed : (out.take out.length).drop i = out.drop i := by rw [List.take_length]
    rw [ed]
    have hdl : (out.drop i).length ≤ 8 := by rw [List.length_drop]; omega
    have put : (¬ D ∈ out) → (ck (decide ((0 : Int) ≤ (0 : Int)) && decide ((0 : Int) ≤ (i : Int)) && decide ((i : Int) ≤ (out.length : Int))) (ck (decide ((0 : Int) ≤ (i : Int)) && decide ((i : Int) ≤ (out.length : Int)) && decide ((out.length : Int) ≤ (out.length : Int))) (ck (decide ((([D] : List Int).length + (out.drop i).length) * 8 ≤ 140737488355328)) (ck (decide (0 < (([D] : List Int) ++ (out.drop i)).length) && decide (i ≤ out.length) && decide ((i + (([D] : List Int) ++ (out.drop i)).length) * 8 ≤ 140737488355328)) (nx (out.take i ++ (([D] : List Int) ++ (out.drop i)), ((k + 1 : Nat) : Int))))))) = some (stepL l, 0) := by
      intro hD
      rw [ck_t (by simp; omega), ck_t (by simp; omega), ck_t (by simp; omega), ck_t (by simp; omega)]
      refine hn _ ⟨?_, ?_, ?_⟩
      · rw [List.pairwise_append]
        refine ⟨hs.sublist (List.take_sublist _ _), ?_, ?_⟩
        · rw [List.singleton_append, List.pairwise_cons]
          refine ⟨fun y hy => ?_, hs.sublist (List.drop_sublist _ _)⟩
          obtain ⟨q, hq, rfl⟩ := List.getElem_of_mem hy
          rw [List.length_drop] at hq
          rw [List.getElem_drop]
          have h1 := hge (by omega)
          have h2 : out[i] ≠ D := fun e => hD (e ▸ List.getElem_mem _)
          by_cases e : q = 0
          · subst e; simp only [Nat.add_zero]; omega
          · have := List.pairwise_iff_getElem.1 hs i (i + q) (by omega) (by omega) (by omega)
            omega
        · intro a hat b hb
          obtain ⟨q, hq, rfl⟩ := List.getElem_of_mem hat
          rw [List.length_take] at hq
          rw [List.getElem_take]
          have h1 := hlt q (by omega) (by omega)
          rcases List.mem_append.1 hb with hb | hb
          · rw [List.mem_singleton.1 hb]; exact h1
          · obtain ⟨r, hr, rfl⟩ := List.getElem_of_mem hb
            rw [List.length_drop] at hr
            rw [List.getElem_drop]
            exact List.pairwise_iff_getElem.1 hs q (i + r) (by omega) (by omega) (by omega)
      · simp; omega
      · intro d
        rw [hmem2, List.mem_append, List.mem_append, List.mem_singleton]
        constructor
        · rintro (h1 | h1 | h1)
          · exact .inl (List.mem_of_mem_take h1)
          · exact .inr h1
          · exact .inl (List.mem_of_mem_drop h1)
        · rintro (h1 | h1)
          · rw [← List.take_append_drop i out] at h1
            rcases List.mem_append.1 h1 with h1 | h1
            · exact .inl h1
            · exact .inr (.inr h1)
          · exact .inr (.inl h1)
    by_cases c1 : (i : Int) = (out.length : Int)
    · rw [decide_eq_true c1, fk_t]
      have hio : i = out.length := by omega
      refine put fun hD => ?_
      obtain ⟨q, hq, e⟩ := List.getElem_of_mem hD
      have := hlt q hq (by omega)
      omega
    · have hio : i < out.length := by omega
      rw [decide_eq_false c1, fk_f, ck_t (io_t hio), ox_lt hio]
      by_cases c2 : out[i] = D
      · rw [decide_eq_true c2, Bool.not_true, fk_f]
        refine hn _ ⟨hs, by omega, fun d => ?_⟩
        rw [hmem2]
        exact ⟨.inl, fun h1 => h1.elim id fun e => by rw [e, ← c2]; exact List.getElem_mem _⟩
      · rw [decide_eq_false c2, Bool.not_false, fk_t]
        refine put fun hD => ?_
        obtain ⟨q, hq, e⟩ := List.getElem_of_mem hD
        have h1 := hge hio
        rcases Nat.lt_trichotomy q i with h2 | h2 | h2
        · have := hlt q hq h2; omega
        · subst h2; exact c2 e
        · have := List.pairwise_iff_getElem.1 hs i q hio hq h2; omega
  refine lp_up out.length (by unfold FU; omega) (fun i => ∀ j (hj : j < out.length), j < i → out[j] < D) (fun j _ h => by omega) ?_
  intro nx2 i hi J hnx2
  simp only [Int.toNat_natCast, fk_t, fk_f]
  by_cases h2 : i < out.length
  · rw [fk_tt (b := decide ((i : Int) < (out.length : Int))) (by simp; omega), ck_t (io_t h2)]
    rw [ox_lt h2]
    by_cases c : out[i] < D
    · rw [decide_eq_true c, fk_t, wr_succ i _ h2 (by omega)]
      refine hnx2 h2 fun j hj hji => ?_
      by_cases e : j = i
      · subst e; exact c
      · exact J j hj (by omega)
    · rw [decide_eq_false c, fk_f]
      exact fin i hi J fun _ => c
  · rw [fk_ff (b := decide ((i : Int) < (out.length : Int))) (by simp; omega)]
    exact fin i hi J fun h => absurd h h2
end Go.Proofs.Ytpoaeepmjfocjaa
namespace Go.Proofs.Ytpoaeepmjfocjaa
open Go Go.VC
theorem law08_knows_eq : law08_knows = some true := by kernel_rfl
theorem sameInts_eq (a : List Int) (ha : a.length ≤ 1000) : ref05_SameInts a a = some true := by
  unfold ref05_SameInts
  rw [decide_eq_true rfl, Bool.not_true, fk_f]
  refine lp_up a.length (by unfold FU; omega) (fun _ => True) trivial ?_
  intro nx k hk _ hnx
  rw [lt_nat]
  by_cases h : k < a.length
  · rw [decide_eq_true h, fk_t, ix_lt h]
    rw [ix_lt h, decide_eq_true rfl, Bool.not_true, fk_f, wr_succ k _ h (by omega)]
    exact hnx h trivial
  · rw [decide_eq_false h, fk_f]
theorem ref08_Steps_eq (l : List Task) (ha : AllP l) : ref08_Steps l = some (stepL l) := by
  unfold ref08_Steps
  have hl := ha.2
  refine lp_inv (fun v => (201 - v.2).toNat) (fun v => 1 ≤ v.2 ∧ v.2 ≤ 201 ∧ v.1.length < v.2.toNat ∧ v.1.Pairwise (· < ·) ∧ ∀ d, d ∈ v.1 ↔ d < v.2 ∧ ∃ x ∈ l, x.D = d) ?_ FU _ ?_ ?_
  rotate_left
  · refine ⟨by decide, by decide, by decide, List.Pairwise.nil, fun d => ?_⟩
    constructor
    · intro h; cases h
    · rintro ⟨h1, x, hx, rfl⟩
      have := (ha.1 x hx).c
      have h1' : x.D < 1 := h1
      omega
  · show (201 - 1 : Int).toNat < FU; unfold FU; omega
  rintro nx ⟨out, d⟩ ⟨h1, h2, hlen, hs, hmem⟩ hnx
  simp only [jn_eq] at *
  by_cases c : d ≤ 200
  rotate_left
  · rw [decide_eq_false c, fk_f]
    refine congrArg some (sorted_ext hs (stepL_sorted l) fun e => ?_)
    rw [hmem, stepL_mem ha]
    constructor
    · exact fun h => h.2
    · rintro ⟨x, hx, rfl⟩
      have := (ha.1 x hx).c
      exact ⟨by omega, x, hx, rfl⟩
  rw [decide_eq_true c, fk_t]
  have hw : wr (d + 1) = d + 1 := wr_in _ (by omega)
  refine lp_upS l.length (by unfold FU; omega) (fun k f => f = decide (∃ j, ∃ h : j < l.length, j < k ∧ l[j].D = d)) false ?_ ?_
  · rw [decide_eq_false]; rintro ⟨j, _, h, _⟩; omega
  rintro nx2 k f hk rfl hnx2
  simp only
  rw [lt_nat]
  by_cases h : k < l.length
  · rw [decide_eq_true h, fk_t, wr_succ k _ h (by omega)]
    by_cases c2 : ∃ j, ∃ h : j < l.length, j < k ∧ l[j].D = d
    · rw [decide_eq_true c2, fk_t]
      refine hnx2 _ h ?_
      obtain ⟨j, hj, hjk, e⟩ := c2
      rw [decide_eq_true]; exact ⟨j, hj, by omega, e⟩
    · rw [decide_eq_false c2, fk_f, ix_lt h]
      refine hnx2 _ h ?_
      rw [decide_eq_decide]
      constructor
      · intro e; exact ⟨k, h, by omega, e⟩
      · rintro ⟨j, hj, hjk, e⟩
        by_cases e2 : j = k
        · subst e2; exact e
        · exact absurd ⟨j, hj, by omega, e⟩ c2
  · rw [decide_eq_false h, fk_f]
    by_cases c2 : ∃ j, ∃ h : j < l.length, j < k ∧ l[j].D = d
    · rw [decide_eq_true c2, fk_t, ck_t (by simp; omega), hw]
      refine hnx _ ⟨by simp only; omega, by simp only; omega, ?_, ?_, ?_⟩ (by simp only; omega)
      · simp only [List.length_append, List.length_singleton]; omega
      · simp only
        rw [List.pairwise_append]
        refine ⟨hs, List.pairwise_singleton _ _, fun x hx y hy => ?_⟩
        rw [List.mem_singleton.1 hy]; exact ((hmem x).1 hx).1
      · intro e
        simp only [List.mem_append, List.mem_singleton, hmem]
        obtain ⟨j, hj, hjk, e2⟩ := c2
        constructor
        · rintro (⟨h3, h4⟩ | rfl)
          · exact ⟨by omega, h4⟩
          · exact ⟨by omega, _, List.getElem_mem hj, e2⟩
        · rintro ⟨h3, h4⟩
          by_cases e3 : e = d
          · exact .inr e3
          · exact .inl ⟨by omega, h4⟩
    · rw [decide_eq_false c2, fk_f, hw]
      refine hnx _ ⟨by simp only; omega, by simp only; omega, by simp only; omega, hs, ?_⟩ (by simp only; omega)
      intro e
      simp only [hmem]
      constructor
      · rintro ⟨h3, h4⟩; exact ⟨by omega, h4⟩
      · rintro ⟨h3, x, hx, rfl⟩
        refine ⟨?_, x, hx, rfl⟩
        by_cases e3 : x.D = d
        · obtain ⟨j, hj, rfl⟩ := List.getElem_of_mem hx
          exact absurd ⟨j, hj, by omega, e3⟩ c2
        · omega
theorem sharedP_congr {l : List Task} {t t' : Int} (h : ∀ x ∈ l, x.D ≤ t ↔ x.D ≤ t') (r : Int) : sharedP l t r ↔ sharedP l t' r := by
  constructor
  · rintro ⟨x, hx, h1, h2⟩; exact ⟨x, hx, (h x hx).1 h1, h2⟩
  · rintro ⟨x, hx, h1, h2⟩; exact ⟨x, hx, (h x hx).2 h1, h2⟩
theorem maxL_congr {α : Type} {f g : α → Nat} {l : List α} (h : ∀ x ∈ l, f x = g x) : maxL f l = maxL g l :=
  Nat.le_antisymm (maxL_le.2 fun x hx => by rw [h x hx]; exact le_maxL hx) (maxL_le.2 fun x hx => by rw [← h x hx]; exact le_maxL hx)
theorem blockV_congr {l : List Task} {t t' : Int} (h : ∀ x ∈ l, x.D ≤ t ↔ x.D ≤ t') : blockV l t = blockV l t' := by
  refine maxL_congr fun x hx => ?_
  unfold taskN
  by_cases c : x.D ≤ t
  · rw [if_pos c, if_pos ((h x hx).1 c)]
  · rw [if_neg c, if_neg (fun h2 => c ((h x hx).2 h2))]
    refine maxL_congr fun s _ => ?_
    unfold secN
    simp only [sharedP_congr h]
theorem blockV_low {l : List Task} {t : Int} (h : ∀ x ∈ l, ¬ x.D ≤ t) : blockV l t = 0 := by
  refine maxL_zero fun x _ => ?_
  unfold taskN
  by_cases c : x.D ≤ t
  · rw [if_pos c]
  rw [if_neg c]
  refine maxL_zero fun s _ => ?_
  unfold secN
  rw [if_neg]
  rintro ⟨y, hy, h1, _⟩
  exact h y hy h1
theorem blockV_high {l : List Task} {t : Int} (h : ∀ x ∈ l, x.D ≤ t) : blockV l t = 0 := by
  refine maxL_zero fun x hx => ?_
  unfold taskN
  rw [if_pos (h x hx)]
theorem blockV_bare {l : List Task} {t : Int} (h : ∀ x ∈ l, x.Secs = []) : blockV l t = 0 := by
  refine maxL_zero fun x hx => ?_
  unfold taskN
  rw [h x hx]
  by_cases c : x.D ≤ t
  · rw [if_pos c]
  · rw [if_neg c]; rfl
theorem blockV_one {l : List Task} {t d : Int} (h : ∀ x ∈ l, x.D = d) : blockV l t = 0 := by
  by_cases c : d ≤ t
  · exact blockV_high fun x hx => by rw [h x hx]; exact c
  · exact blockV_low fun x hx => by rw [h x hx]; exact c
theorem maxL_hit {α : Type} {f : α → Nat} : ∀ {l : List α}, maxL f l = 0 ∨ ∃ x ∈ l, f x = maxL f l
  | [] => .inl rfl
  | x :: r => by
    rcases maxL_hit (f := f) (l := r) with h | ⟨y, hy, h⟩
    · by_cases c : f x = 0
      · exact .inl (by simp only [maxL]; omega)
      · exact .inr ⟨x, List.mem_cons_self, by simp only [maxL]; omega⟩
    · by_cases c : f x ≤ maxL f r
      · exact .inr ⟨y, List.mem_cons_of_mem _ hy, by simp only [maxL]; omega⟩
      · exact .inr ⟨x, List.mem_cons_self, by simp only [maxL]; omega⟩
theorem blockV_mono {l l' : List Task} {t : Int} (h : ∀ x ∈ l, x ∈ l') : blockV l t ≤ blockV l' t := by
  refine maxL_le.2 fun x hx => Nat.le_trans ?_ (le_maxL (h x hx))
  unfold taskN
  by_cases c : x.D ≤ t
  · rw [if_pos c]; exact Nat.zero_le _
  rw [if_neg c, if_neg c]
  refine maxL_le.2 fun s hs => Nat.le_trans ?_ (le_maxL hs)
  unfold secN
  by_cases c2 : sharedP l t s.Res
  · rw [if_pos c2, if_pos]
    · exact Nat.le_refl _
    · obtain ⟨y, hy, h1, h2⟩ := c2; exact ⟨y, h y hy, h1, h2⟩
  · rw [if_neg c2]; exact Nat.zero_le _
theorem blockV_hit {l : List Task} (ha : AllP l) {t : Int} : blockV l t = 0 ∨ ∃ x ∈ l, ∃ s ∈ x.Secs, s.Len = ((blockV l t : Nat) : Int) := by
  rcases maxL_hit (f := taskN l t) (l := l) with h | ⟨x, hx, h⟩
  · exact .inl h
  by_cases z : blockV l t = 0
  · exact .inl z
  refine .inr ⟨x, hx, ?_⟩
  have hv : taskN l t x = blockV l t := h
  unfold taskN at hv
  by_cases c : x.D ≤ t
  · rw [if_pos c] at hv; omega
  rw [if_neg c] at hv
  rcases maxL_hit (f := secN l t) (l := x.Secs) with h2 | ⟨s, hs, h2⟩
  · omega
  refine ⟨s, hs, ?_⟩
  have hl := (ha.1 x hx).sl hs
  have h3 := h2.trans hv
  unfold secN at h3
  by_cases c2 : sharedP l t s.Res
  · rw [if_pos c2] at h3; omega
  · rw [if_neg c2] at h3; omega
end Go.Proofs.Ytpoaeepmjfocjaa
namespace Go.Proofs.Ytpoaeepmjfocjaa
open Go Go.VC
theorem proofBlockMore : PureBlockMore := by
  intro l u t hl hu ht
  have hll : l.length ≤ 4611686018427387904 := wf_len hl.1 (Nat.le_refl _)
  have hB := hl.1
  unfold BB at hB
  unfold law08_BlockMore
  rw [ck_t (by simp; omega)]
  simp only [jn_eq, law08_knows_eq, bnd_some, fk_t]
  have hE : (([] : List Task) ++ l) ++ [u] = l ++ [u] := rfl
  have hck : ((([] : List Task) ++ l).length + ([u] : List Task).length) * 48 ≤ 140737488355328 := by
    simp; omega
  rw [ck_t (decide_eq_true hck)]
  have hw : ∀ x ∈ (([] : List Task) ++ l) ++ [u], x.Secs.length ≤ 4611686018427387904 := fun x hx => by
    rcases List.mem_append.1 (hE ▸ hx) with h | h
    · exact (hl.2 x h).len
    · rw [List.mem_singleton.1 h]; exact hu.len
  have hml : ∀ x ∈ l, x ∈ (([] : List Task) ++ l) ++ [u] := fun x hx => by rw [hE]; exact List.mem_append_left _ hx
  have hll2 : ((([] : List Task) ++ l) ++ [u]).length ≤ 4611686018427387904 := by rw [hE]; simp; simp at hck; omega
  have hln : l.length ≤ ((([] : List Task) ++ l) ++ [u]).length := by rw [hE]; simp
  generalize (([] : List Task) ++ l) ++ [u] = m at *
  rw [bnd_eq (law05_Great_eq m hll2)]
  by_cases hg : GreatP m
  · rw [decide_eq_true hg, fk_t]
  rw [decide_eq_false hg, fk_f, bnd_eq (ref05_All_eq m hll2 hw)]
  by_cases ha : AllP m
  rotate_left
  · rw [decide_eq_false ha, Bool.not_false, fk_t]
  have hal : AllP l := ⟨fun x hx => ha.1 x (hml x hx), Nat.le_trans hln ha.2⟩
  rw [decide_eq_true ha, Bool.not_true, fk_f, bnd_eq (block_Of_eq l t hll), bnd_eq (block_Of_eq m t hll2), if_pos ha, if_pos ha, if_pos hal, if_pos hal]
  have hmono := blockV_mono (t := t) hml
  have hhit := blockV_hit ha (t := t)
  have h8 := ha.2
  have z0 : decide (((blockV m t : Nat) : Int) = 0) = decide (blockV m t = 0) := by rw [decide_eq_decide]; omega
  simp only [z0]
  generalize blockV m t = V at *
  generalize blockV l t = W at *
  refine lp_upS m.length (by unfold FU; omega) (fun k f => f = true ∨ ((∀ j (h : j < m.length), j < k → ∀ s ∈ m[j].Secs, s.Len ≠ (V : Int)) ∧ V ≠ 0)) (decide (V = 0)) ?_ ?_
  · by_cases c : V = 0
    · exact .inl (decide_eq_true c)
    · exact .inr ⟨fun j _ h => by omega, c⟩
  rintro nx k f hk J hnx
  simp only
  by_cases h : k < m.length
  rotate_left
  · rw [fk_ff (b := decide ((k : Int) < (m.length : Int))) (by simp; omega)]
    have hf : f = true := by
      rcases J with J | ⟨J, hz⟩
      · exact J
      · rcases hhit with h1 | ⟨x, hx, s, hs, e⟩
        · exact absurd h1 hz
        · obtain ⟨j, hj, rfl⟩ := List.getElem_of_mem hx
          exact absurd e (J j hj (by omega) s hs)
    subst hf
    rw [decide_eq_true (show (W : Int) ≤ (V : Int) by omega)]; rfl
  rw [fk_tt (b := decide ((k : Int) < (m.length : Int))) (by simp; omega), wr_succ k _ h hll2]
  have hsx := (ha.1 _ (List.getElem_mem h)).len
  refine lp_upS m[k].Secs.length (by unfold FU; omega) (fun i f => f = true ∨ ((∀ j (h : j < m.length), j < k → ∀ s ∈ m[j].Secs, s.Len ≠ (V : Int)) ∧ V ≠ 0 ∧ ∀ j (h : j < m[k].Secs.length), j < i → m[k].Secs[j].Len ≠ (V : Int))) f ?_ ?_
  · rcases J with J | ⟨J, hz⟩
    · exact .inl J
    · exact .inr ⟨J, hz, fun j _ h => by omega⟩
  rintro nx2 i g hi K hnx2
  simp only [Int.toNat_natCast]
  rw [ck_t (io_t h), ox_lt h, lt_nat]
  by_cases h2 : i < m[k].Secs.length
  · rw [decide_eq_true h2, fk_t, wr_succ i _ h2 (by omega)]
    cases g
    · rw [fk_f, ck_t (io_t h), ox_lt h, ix_lt h2]
      refine hnx2 _ h2 ?_
      by_cases c : m[k].Secs[i].Len = (V : Int)
      · exact .inl (decide_eq_true c)
      · obtain ⟨K1, K2, K3⟩ := K.resolve_left (by decide)
        refine .inr ⟨K1, K2, fun j hj hji => ?_⟩
        by_cases e : j = i
        · subst e; exact c
        · exact K3 j hj (by omega)
    · rw [fk_t]
      exact hnx2 _ h2 (.inl rfl)
  · rw [decide_eq_false h2, fk_f]
    refine hnx _ h ?_
    rcases K with K | ⟨K1, K2, K3⟩
    · exact .inl K
    · refine .inr ⟨fun j hj hjk s hs => ?_, K2⟩
      by_cases e : j = k
      · subst e
        obtain ⟨q, hq, rfl⟩ := List.getElem_of_mem hs
        exact K3 q hq (by omega)
      · exact K1 j hj (by omega) s hs
end Go.Proofs.Ytpoaeepmjfocjaa
