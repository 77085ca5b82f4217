/- It is proved that the law DemandFirst returns true at every input that the row lets in; there is no condition beside the row's own. -/
import Derived.Test.YtcgliccegpjnfaaV9
import Derived.Test.YtcgliccegpjnfaaV7
import Derived.Test.YtcgliccegpjnfaaV8
import Derived.Test.YtcgliccegpjnfaaRows
set_option maxRecDepth 100000
set_option maxHeartbeats 4000000
namespace Go.Proofs.Ytcgliccegpjnfaa
open Go Go.VC
structure Face where
  P : Int
  B : Int
  deriving DecidableEq
def Face.enc (x : Face) : List Go.VC.D := [.int .i64 x.P, .int .i64 x.B]
structure Sec where
  Res : Int
  At : Int
  Len : Int
  deriving DecidableEq
def Sec.enc (x : Sec) : List Go.VC.D := [.int .i64 x.Res, .int .i64 x.At, .int .i64 x.Len]
structure Task where
  C : Int
  D : Int
  T : Int
  Secs : List Sec
  deriving DecidableEq
def Task.enc (x : Task) : List Go.VC.D := [.int .i64 x.C, .int .i64 x.D, .int .i64 x.T, .sl (x.Secs.map Sec.enc)]
def E_Bool : Bool → List CV := fun r => [.d (.bool r)]
def E_Int_Int : (Int × Int) → List CV := fun r => [.d (.int .i64 r.1), .d (.int .i64 r.2)]
def E_Int : Int → List CV := fun r => [.d (.int .i64 r)]
def E_ListListInt : (List (List Int)) → List CV := fun r => [.d (.sl (r.map (eL (eI .i64))))]
end Go.Proofs.Ytcgliccegpjnfaa
namespace Go.Proofs.Ytcgliccegpjnfaa
open Go Go.VC
noncomputable def law05_Great (a0 : List Task) : Option Bool :=
  lp (fun nx1 (v1 : Int) => fk (decide (v1 < (a0.length : Int))) (ix a0 v1 fun x2 => fk (decide ((x2.Secs.length : Int) > (20 : Int))) (some true) (nx1 (wr (v1 + (1 : Int))))) (some (decide ((a0.length : Int) > (20 : Int))))) FU (0 : Int)
theorem law05_Great_w (a0 : List Task) (r : Bool) (h : law05_Great a0 = some r) : Go.VC.Spec Try.prog 15 [.d (.sl (a0.map Task.enc))] (fun y => y = E_Bool r) := by
  refine Go.VC.Spec.of_xc (args := [.d (.sl (a0.map Task.enc))]) (fn := Try.f15) tab ⟨[(0, [0]), (1, [0, 3]), (2, [0, 3, 7]), (3, [0, 3]), (4, [0, 3, 16]), (5, [2]), (6, [2])], [], [], []⟩ 20 [.tmp 2] rfl rfl rfl rfl rfl rfl ?_
  refine lpS (fun v1 => ⟨[(0, .l (.d (.sl (a0.map Task.enc)))), (3, .l (.d (.int .i64 v1)))], 20, [], [], []⟩) h (Weak.refl _) (fun _ nx1 hn1 v1 h => ?_)
  refine lenS a0 Task.enc rfl ?_
  refine fkS h (fun h => ?_) (fun h => ?_)
  · refine ixS (enc := Task.enc) h rfl (fun _ => rfl) (fun x2 h => ?_)
    refine lenS x2.Secs Sec.enc rfl ?_
    refine fkS h (fun h => ?_) (fun h => ?_)
    · exact rt (E := E_Bool) h rfl
    exact leS hn1 h (Weak.refl _)
  refine lenS a0 Task.enc rfl ?_
  exact rt (E := E_Bool) h rfl

end Go.Proofs.Ytcgliccegpjnfaa
namespace Go.Proofs.Ytcgliccegpjnfaa
open Go Go.VC
noncomputable def ref05_Right (a0 : Task) : Option Bool :=
  jn (fun (w1 : Bool) => fk w1 (some false) (lp (fun nx2 (v2 : Int) => fk (decide (v2 < (a0.Secs.length : Int))) (ix a0.Secs v2 fun x3 => jn (fun (w4 : Bool) => fk w4 (some false) (lp (fun nx5 (v5 : Int) => fk (decide (v5 < v2)) (ix a0.Secs v5 fun x6 => jn (fun (w7 : Bool) => fk w7 (some false) (lp (fun nx8 (v8 : Int × Int × Int) => fk (decide (v8.2.2 < (wr (x3.At + x3.Len)))) (jn (fun (w9 : Int × Int) => nx8 (w9.1, w9.2, (wr (v8.2.2 + (1 : Int))))) (fun k9 => fk (decide (v8.2.2 < (wr (x6.At + x6.Len)))) (k9 ((wr (v8.1 + (1 : Int))), v8.2.1)) (k9 (v8.1, (wr (v8.2.1 + (1 : Int))))))) (jn (fun (w10 : Bool) => fk w10 (some false) (nx5 (wr (v5 + (1 : Int))))) (fun k10 => fk (decide (v8.1 > (0 : Int))) (fk (decide (v8.2.1 > (0 : Int))) (k10 true) (k10 (decide (x6.Res = x3.Res)))) (k10 false)))) FU ((0 : Int), (0 : Int), x3.At))) (fun k7 => fk (decide (x3.At < x6.At)) (k7 true) (fk (decide (x3.At = x6.At)) (k7 (decide (x3.Len > x6.Len))) (k7 false)))) (nx2 (wr (v2 + (1 : Int))))) FU (0 : Int))) (fun k4 => fk (decide (x3.Res < (0 : Int))) (k4 true) (fk (decide (x3.Res > (3 : Int))) (k4 true) (fk (decide (x3.At < (0 : Int))) (k4 true) (fk (decide (x3.Len < (1 : Int))) (k4 true) (fk (decide (x3.At > a0.C)) (k4 true) (fk (decide (x3.Len > a0.C)) (k4 true) (k4 (decide ((wr (x3.At + x3.Len)) > a0.C)))))))))) (some true)) FU (0 : Int))) (fun k1 => fk (decide (a0.C < (1 : Int))) (k1 true) (fk (decide (a0.D < a0.C)) (k1 true) (fk (decide (a0.T < a0.D)) (k1 true) (fk (decide (a0.T > (200 : Int))) (k1 true) (k1 (decide ((a0.Secs.length : Int) > (4 : Int))))))))
theorem ref05_Right_w (a0 : Task) (r : Bool) (h : ref05_Right a0 = some r) : Go.VC.Spec Try.prog 41 [.agg (Task.enc a0)] (fun y => y = E_Bool r) := by
  refine Go.VC.Spec.of_xc (args := [.agg (Task.enc a0)]) (fn := Try.f41) tab ⟨[(0, [1]), (1, [1, 37]), (2, [2]), (3, [1, 3]), (4, [1, 3, 42]), (5, [1, 3]), (6, [1, 3, 4]), (7, [1, 3, 4, 91]), (8, [2]), (9, [1, 3, 4, 5]), (10, [1, 3, 4, 5, 94]), (11, [1, 3, 4, 5]), (12, [1, 3, 4, 5, 6]), (13, [1, 3, 4, 5, 6, 120]), (14, [2]), (15, [1, 3, 4, 5, 6, 7, 8]), (16, [1, 3, 4, 5, 6, 7, 8, 9]), (17, [1, 3, 4, 5, 6, 7, 8, 9, 129]), (18, [1, 3, 4, 5, 6, 7, 8, 9]), (19, [1, 3, 4, 5, 6, 7, 8, 9, 138]), (20, [1, 3, 4, 5, 6, 7, 8, 9]), (21, [1, 3, 4, 5, 6, 7, 8, 9]), (22, [1, 3, 4, 5, 155]), (23, [2]), (24, [2])], [], [100037, 100091, 100120, 18, 100155], []⟩ 156 [.tmp 2] rfl rfl rfl rfl rfl rfl ?_
  refine jnS (fun w1 => ⟨[(1, .l (.ptr 2 0)), (37, .l (.d (.bool w1)))], 156, [], [(2, [.d (.int .i64 a0.C), .d (.int .i64 a0.D), .d (.int .i64 a0.T), .d (.sl (a0.Secs.map Sec.enc))])], []⟩) h (fun k1 hk1 h => ?_) (fun w1 h => ?_)
  · refine fkS h (fun h => ?_) (fun h => ?_)
    · exact jeS hk1 h (Weak.refl _)
    refine fkS h (fun h => ?_) (fun h => ?_)
    · exact jeS hk1 h (Weak.refl _)
    refine fkS h (fun h => ?_) (fun h => ?_)
    · exact jeS hk1 h (Weak.refl _)
    refine fkS h (fun h => ?_) (fun h => ?_)
    · exact jeS hk1 h (Weak.refl _)
    refine lenS a0.Secs Sec.enc rfl ?_
    exact jeS hk1 h (Weak.refl _)
  refine fkS h (fun h => ?_) (fun h => ?_)
  · exact rt (E := E_Bool) h rfl
  refine lpS (fun v2 => ⟨[(1, .l (.ptr 2 0)), (3, .l (.d (.int .i64 v2)))], 156, [], [(2, [.d (.int .i64 a0.C), .d (.int .i64 a0.D), .d (.int .i64 a0.T), .d (.sl (a0.Secs.map Sec.enc))])], []⟩) h (Weak.refl _) (fun _ nx2 hn2 v2 h => ?_)
  refine lenS a0.Secs Sec.enc rfl ?_
  refine fkS h (fun h => ?_) (fun h => ?_)
  · refine ixS (enc := Sec.enc) h rfl (fun _ => rfl) (fun x3 h => ?_)
    refine jnS (fun w4 => ⟨[(1, .l (.ptr 2 0)), (3, .l (.d (.int .i64 v2))), (4, .l (.ptr 5 0)), (91, .l (.d (.bool w4)))], 156, [], [(2, [.d (.int .i64 a0.C), .d (.int .i64 a0.D), .d (.int .i64 a0.T), .d (.sl (a0.Secs.map Sec.enc))]), (5, [.d (.int .i64 x3.Res), .d (.int .i64 x3.At), .d (.int .i64 x3.Len)])], []⟩) h (fun k4 hk4 h => ?_) (fun w4 h => ?_)
    · refine fkS h (fun h => ?_) (fun h => ?_)
      · exact jeS hk4 h (Weak.refl _)
      refine fkS h (fun h => ?_) (fun h => ?_)
      · exact jeS hk4 h (Weak.refl _)
      refine fkS h (fun h => ?_) (fun h => ?_)
      · exact jeS hk4 h (Weak.refl _)
      refine fkS h (fun h => ?_) (fun h => ?_)
      · exact jeS hk4 h (Weak.refl _)
      refine fkS h (fun h => ?_) (fun h => ?_)
      · exact jeS hk4 h (Weak.refl _)
      refine fkS h (fun h => ?_) (fun h => ?_)
      · exact jeS hk4 h (Weak.refl _)
      exact jeS hk4 h (Weak.refl _)
    refine fkS h (fun h => ?_) (fun h => ?_)
    · exact rt (E := E_Bool) h rfl
    refine lpS (fun v5 => ⟨[(1, .l (.ptr 2 0)), (3, .l (.d (.int .i64 v2))), (4, .l (.ptr 5 0)), (5, .l (.d (.int .i64 v5)))], 156, [], [(2, [.d (.int .i64 a0.C), .d (.int .i64 a0.D), .d (.int .i64 a0.T), .d (.sl (a0.Secs.map Sec.enc))]), (5, [.d (.int .i64 x3.Res), .d (.int .i64 x3.At), .d (.int .i64 x3.Len)])], []⟩) h (Weak.refl _) (fun _ nx5 hn5 v5 h => ?_)
    refine fkS h (fun h => ?_) (fun h => ?_)
    · refine ixS (enc := Sec.enc) h rfl (fun _ => rfl) (fun x6 h => ?_)
      refine jnS (fun w7 => ⟨[(1, .l (.ptr 2 0)), (3, .l (.d (.int .i64 v2))), (4, .l (.ptr 5 0)), (5, .l (.d (.int .i64 v5))), (6, .l (.ptr 7 0)), (120, .l (.d (.bool w7)))], 156, [], [(2, [.d (.int .i64 a0.C), .d (.int .i64 a0.D), .d (.int .i64 a0.T), .d (.sl (a0.Secs.map Sec.enc))]), (5, [.d (.int .i64 x3.Res), .d (.int .i64 x3.At), .d (.int .i64 x3.Len)]), (7, [.d (.int .i64 x6.Res), .d (.int .i64 x6.At), .d (.int .i64 x6.Len)])], []⟩) h (fun k7 hk7 h => ?_) (fun w7 h => ?_)
      · refine fkS h (fun h => ?_) (fun h => ?_)
        · exact jeS hk7 h (Weak.refl _)
        refine fkS h (fun h => ?_) (fun h => ?_)
        · exact jeS hk7 h (Weak.refl _)
        exact jeS hk7 h (Weak.refl _)
      refine fkS h (fun h => ?_) (fun h => ?_)
      · exact rt (E := E_Bool) h rfl
      refine lpS (fun v8 => ⟨[(1, .l (.ptr 2 0)), (3, .l (.d (.int .i64 v2))), (4, .l (.ptr 5 0)), (5, .l (.d (.int .i64 v5))), (6, .l (.ptr 7 0)), (7, .l (.d (.int .i64 v8.1))), (8, .l (.d (.int .i64 v8.2.1))), (9, .l (.d (.int .i64 v8.2.2)))], 156, [], [(2, [.d (.int .i64 a0.C), .d (.int .i64 a0.D), .d (.int .i64 a0.T), .d (.sl (a0.Secs.map Sec.enc))]), (5, [.d (.int .i64 x3.Res), .d (.int .i64 x3.At), .d (.int .i64 x3.Len)]), (7, [.d (.int .i64 x6.Res), .d (.int .i64 x6.At), .d (.int .i64 x6.Len)])], []⟩) h (Weak.refl _) (fun _ nx8 hn8 v8 h => ?_)
      refine fkS h (fun h => ?_) (fun h => ?_)
      · refine jnS (fun w9 => ⟨[(1, .l (.ptr 2 0)), (3, .l (.d (.int .i64 v2))), (4, .l (.ptr 5 0)), (5, .l (.d (.int .i64 v5))), (6, .l (.ptr 7 0)), (7, .l (.d (.int .i64 w9.1))), (8, .l (.d (.int .i64 w9.2))), (9, .l (.d (.int .i64 v8.2.2)))], 156, [], [(2, [.d (.int .i64 a0.C), .d (.int .i64 a0.D), .d (.int .i64 a0.T), .d (.sl (a0.Secs.map Sec.enc))]), (5, [.d (.int .i64 x3.Res), .d (.int .i64 x3.At), .d (.int .i64 x3.Len)]), (7, [.d (.int .i64 x6.Res), .d (.int .i64 x6.At), .d (.int .i64 x6.Len)])], []⟩) h (fun k9 hk9 h => ?_) (fun w9 h => ?_)
        · refine fkS h (fun h => ?_) (fun h => ?_)
          · exact jeS hk9 h (Weak.refl _)
          exact jeS hk9 h (Weak.refl _)
        exact leS hn8 h (Weak.refl _)
      refine jnS (fun w10 => ⟨[(1, .l (.ptr 2 0)), (3, .l (.d (.int .i64 v2))), (4, .l (.ptr 5 0)), (5, .l (.d (.int .i64 v5))), (155, .l (.d (.bool w10)))], 156, [], [(2, [.d (.int .i64 a0.C), .d (.int .i64 a0.D), .d (.int .i64 a0.T), .d (.sl (a0.Secs.map Sec.enc))]), (5, [.d (.int .i64 x3.Res), .d (.int .i64 x3.At), .d (.int .i64 x3.Len)])], []⟩) h (fun k10 hk10 h => ?_) (fun w10 h => ?_)
      · refine fkS h (fun h => ?_) (fun h => ?_)
        · refine fkS h (fun h => ?_) (fun h => ?_)
          · exact jeS hk10 h (Weak.refl _)
          exact jeS hk10 h (Weak.refl _)
        exact jeS hk10 h (Weak.refl _)
      refine fkS h (fun h => ?_) (fun h => ?_)
      · exact rt (E := E_Bool) h rfl
      exact leS hn5 h (Weak.refl _)
    exact leS hn2 h (Weak.refl _)
  exact rt (E := E_Bool) h rfl

end Go.Proofs.Ytcgliccegpjnfaa
namespace Go.Proofs.Ytcgliccegpjnfaa
open Go Go.VC
noncomputable def ref05_All (a0 : List Task) : Option Bool :=
  lp (fun nx1 (v1 : Int × Int) => fk (decide (v1.2 < (a0.length : Int))) (jn (fun (w2 : Int) => nx1 (w2, (wr (v1.2 + (1 : Int))))) (fun k2 => ix a0 v1.2 fun x3 => bnd (ref05_Right x3) fun x4 => fk x4 (k2 (wr (v1.1 + (1 : Int)))) (k2 v1.1))) (fk (decide (v1.1 = (a0.length : Int))) (some (decide (v1.1 ≤ (8 : Int)))) (some false))) FU ((0 : Int), (0 : Int))
theorem ref05_All_w (a0 : List Task) (r : Bool) (h : ref05_All a0 = some r) : Go.VC.Spec Try.prog 18 [.d (.sl (a0.map Task.enc))] (fun y => y = E_Bool r) := by
  refine Go.VC.Spec.of_xc (args := [.d (.sl (a0.map Task.enc))]) (fn := Try.f18) tab ⟨[(0, [0]), (1, [0, 3]), (2, [0, 3, 4]), (3, [0, 3, 4, 8]), (4, [0, 3, 4]), (5, [0, 3, 4, 15]), (6, [0, 3, 4]), (7, [2])], [], [4], []⟩ 26 [.tmp 2] rfl rfl rfl rfl rfl rfl ?_
  refine lpS (fun v1 => ⟨[(0, .l (.d (.sl (a0.map Task.enc)))), (3, .l (.d (.int .i64 v1.1))), (4, .l (.d (.int .i64 v1.2)))], 26, [], [], []⟩) h (Weak.refl _) (fun _ nx1 hn1 v1 h => ?_)
  refine lenS a0 Task.enc rfl ?_
  refine fkS h (fun h => ?_) (fun h => ?_)
  · refine jnS (fun w2 => ⟨[(0, .l (.d (.sl (a0.map Task.enc)))), (3, .l (.d (.int .i64 w2))), (4, .l (.d (.int .i64 v1.2)))], 26, [], [], []⟩) h (fun k2 hk2 h => ?_) (fun w2 h => ?_)
    · refine ixS (enc := Task.enc) h rfl (fun _ => rfl) (fun x3 h => ?_)
      refine caS (E := E_Bool) h (ref05_Right_w x3) rfl (fun _ => rfl) (fun x4 h => ?_)
      refine fkS h (fun h => ?_) (fun h => ?_)
      · exact jeS hk2 h (Weak.refl _)
      exact jeS hk2 h (Weak.trans (Weak.keepS _ [0, 3, 4]) (Weak.refl _))
    exact leS hn1 h (Weak.refl _)
  refine lenS a0 Task.enc rfl ?_
  refine fkS h (fun h => ?_) (fun h => ?_)
  · exact rt (E := E_Bool) h rfl
  exact rt (E := E_Bool) h rfl

end Go.Proofs.Ytcgliccegpjnfaa
namespace Go.Proofs.Ytcgliccegpjnfaa
open Go Go.VC
noncomputable def task_own (a0 : Task) : Option Bool :=
  fk (decide (a0.C ≥ (1 : Int))) (fk (decide (a0.C ≤ a0.D)) (fk (decide (a0.D ≤ a0.T)) (fk (decide (a0.T ≤ (200 : Int))) (some (decide ((a0.Secs.length : Int) ≤ (4 : Int)))) (some false)) (some false)) (some false)) (some false)
theorem task_own_w (a0 : Task) (r : Bool) (h : task_own a0 = some r) : Go.VC.Spec Try.prog 59 [.agg (Task.enc a0)] (fun y => y = E_Bool r) := by
  refine Go.VC.Spec.of_xc (args := [.agg (Task.enc a0)]) (fn := Try.f59) tab ⟨[(0, [1]), (1, [2])], [], [], []⟩ 31 [.tmp 2] rfl rfl rfl rfl rfl rfl ?_
  refine fkS h (fun h => ?_) (fun h => ?_)
  · refine fkS h (fun h => ?_) (fun h => ?_)
    · refine fkS h (fun h => ?_) (fun h => ?_)
      · refine fkS h (fun h => ?_) (fun h => ?_)
        · refine lenS a0.Secs Sec.enc rfl ?_
          exact rt (E := E_Bool) h rfl
        exact rt (E := E_Bool) h rfl
      exact rt (E := E_Bool) h rfl
    exact rt (E := E_Bool) h rfl
  exact rt (E := E_Bool) h rfl

end Go.Proofs.Ytcgliccegpjnfaa
namespace Go.Proofs.Ytcgliccegpjnfaa
open Go Go.VC
noncomputable def task_may (a0 : Task) (a1 : Sec) : Option Bool :=
  fk (decide (a1.Res ≥ (0 : Int))) (fk (decide (a1.Res < (4 : Int))) (fk (decide (a1.At ≥ (0 : Int))) (fk (decide (a1.At < a0.C)) (fk (decide (a1.Len ≥ (1 : Int))) (some (decide (a1.Len ≤ (wr (a0.C - a1.At))))) (some false)) (some false)) (some false)) (some false)) (some false)
theorem task_may_w (a0 : Task) (a1 : Sec) (r : Bool) (h : task_may a0 a1 = some r) : Go.VC.Spec Try.prog 60 [.agg (Task.enc a0), .agg (Sec.enc a1)] (fun y => y = E_Bool r) := by
  refine Go.VC.Spec.of_xc (args := [.agg (Task.enc a0), .agg (Sec.enc a1)]) (fn := Try.f60) tab ⟨[(0, [2, 3]), (1, [4])], [], [], []⟩ 40 [.tmp 4] rfl rfl rfl rfl rfl rfl ?_
  refine fkS h (fun h => ?_) (fun h => ?_)
  · refine fkS h (fun h => ?_) (fun h => ?_)
    · refine fkS h (fun h => ?_) (fun h => ?_)
      · refine fkS h (fun h => ?_) (fun h => ?_)
        · refine fkS h (fun h => ?_) (fun h => ?_)
          · exact rt (E := E_Bool) h rfl
          exact rt (E := E_Bool) h rfl
        exact rt (E := E_Bool) h rfl
      exact rt (E := E_Bool) h rfl
    exact rt (E := E_Bool) h rfl
  exact rt (E := E_Bool) h rfl

end Go.Proofs.Ytcgliccegpjnfaa
namespace Go.Proofs.Ytcgliccegpjnfaa
open Go Go.VC
noncomputable def task_fits (a0 : Sec) (a1 : Sec) : Option Bool :=
  fk (decide (a1.At ≥ (wr (a0.At + a0.Len)))) (some true) (fk (decide (a1.At < a0.At)) (some false) (fk (decide ((wr (a1.At + a1.Len)) ≤ (wr (a0.At + a0.Len)))) (some (!decide (a0.Res = a1.Res))) (some false)))
theorem task_fits_w (a0 : Sec) (a1 : Sec) (r : Bool) (h : task_fits a0 a1 = some r) : Go.VC.Spec Try.prog 61 [.agg (Sec.enc a0), .agg (Sec.enc a1)] (fun y => y = E_Bool r) := by
  refine Go.VC.Spec.of_xc (args := [.agg (Sec.enc a0), .agg (Sec.enc a1)]) (fn := Try.f61) tab ⟨[(0, [2, 3]), (1, [2, 3, 5]), (2, [4]), (3, [2, 3, 14]), (4, [4]), (5, [4])], [], [], []⟩ 38 [.tmp 4] rfl rfl rfl rfl rfl rfl ?_
  refine fkS h (fun h => ?_) (fun h => ?_)
  · exact rt (E := E_Bool) h rfl
  refine fkS h (fun h => ?_) (fun h => ?_)
  · exact rt (E := E_Bool) h rfl
  refine fkS h (fun h => ?_) (fun h => ?_)
  · exact rt (E := E_Bool) h rfl
  exact rt (E := E_Bool) h rfl

end Go.Proofs.Ytcgliccegpjnfaa
namespace Go.Proofs.Ytcgliccegpjnfaa
open Go Go.VC
noncomputable def task_Right (a0 : Task) : Option Bool :=
  bnd (task_own a0) fun x1 => fk (!x1) (some false) (lp (fun nx2 (v2 : Int) => fk (decide (v2 < (a0.Secs.length : Int))) (ix a0.Secs v2 fun x3 => bnd (task_may a0 x3) fun x4 => fk (!x4) (some false) (ck (decide ((0 : Int) ≤ (0 : Int)) && decide ((0 : Int) ≤ v2) && decide (v2 ≤ (a0.Secs.length : Int))) (lp (fun nx5 (v5 : Int) => fk (decide (v5 < (((a0.Secs.take v2.toNat).drop (0 : Int).toNat).length : Int))) (ix ((a0.Secs.take v2.toNat).drop (0 : Int).toNat) v5 fun x6 => bnd (task_fits x6 x3) fun x7 => fk x7 (nx5 (wr (v5 + (1 : Int)))) (some (decide ((0 : Int) > (0 : Int))))) (nx2 (wr (v2 + (1 : Int))))) FU (0 : Int)))) (some (decide (a0.C > (0 : Int))))) FU (0 : Int))
theorem task_Right_w (a0 : Task) (r : Bool) (h : task_Right a0 = some r) : Go.VC.Spec Try.prog 50 [.agg (Task.enc a0)] (fun y => y = E_Bool r) := by
  refine Go.VC.Spec.of_xc (args := [.agg (Task.enc a0)]) (fn := Try.f50) tab ⟨[(0, [1]), (1, [1, 9]), (2, [2]), (3, [1, 11, 12, 13]), (4, [1, 11, 12, 13, 14]), (5, [1, 3, 4, 11, 12, 13]), (6, [1, 3, 4, 11, 12, 13, 21]), (7, [2]), (8, [1, 4, 11, 12, 13, 25, 26, 27]), (9, [1, 4, 11, 12, 13, 25, 26, 27, 28]), (10, [1, 4, 6, 11, 12, 13, 25, 26, 27]), (11, [1, 4, 11, 12, 13, 25, 26, 27, 33]), (12, [1]), (13, [1, 4, 11, 12, 13, 25, 26, 27]), (14, [1, 11, 12, 13]), (15, [2])], [], [], []⟩ 40 [.tmp 2] rfl rfl rfl rfl rfl rfl ?_
  refine caS (E := E_Bool) h (task_own_w a0) rfl (fun _ => rfl) (fun x1 h => ?_)
  refine fkS h (fun h => ?_) (fun h => ?_)
  · exact rt (E := E_Bool) h rfl
  refine lenS a0.Secs Sec.enc rfl ?_
  refine lpS (fun v2 => ⟨[(1, .l (.ptr 2 0)), (11, .l (.d (.sl (a0.Secs.map Sec.enc)))), (12, .l (.d (.int .i64 (a0.Secs.length : Int)))), (13, .l (.d (.int .i64 v2)))], 40, [], [(2, [.d (.int .i64 a0.C), .d (.int .i64 a0.D), .d (.int .i64 a0.T), .d (.sl (a0.Secs.map Sec.enc))])], []⟩) h (Weak.refl _) (fun _ nx2 hn2 v2 h => ?_)
  refine fkS h (fun h => ?_) (fun h => ?_)
  · refine ixS (enc := Sec.enc) h rfl (fun _ => rfl) (fun x3 h => ?_)
    refine caS (E := E_Bool) h (task_may_w a0 x3) rfl (fun _ => rfl) (fun x4 h => ?_)
    refine fkS h (fun h => ?_) (fun h => ?_)
    · exact rt (E := E_Bool) h rfl
    refine slS (enc := Sec.enc) h rfl rfl (.inl rfl) (fun _ => rfl) (fun h => ?_)
    refine lenS ((a0.Secs.take v2.toNat).drop (0 : Int).toNat) Sec.enc rfl ?_
    refine lpS (fun v5 => ⟨[(1, .l (.ptr 2 0)), (4, .l (.ptr 5 0)), (11, .l (.d (.sl (a0.Secs.map Sec.enc)))), (12, .l (.d (.int .i64 (a0.Secs.length : Int)))), (13, .l (.d (.int .i64 v2))), (25, .l (.d (.sl (((a0.Secs.take v2.toNat).drop (0 : Int).toNat).map Sec.enc)))), (26, .l (.d (.int .i64 (((a0.Secs.take v2.toNat).drop (0 : Int).toNat).length : Int)))), (27, .l (.d (.int .i64 v5)))], 40, [], [(2, [.d (.int .i64 a0.C), .d (.int .i64 a0.D), .d (.int .i64 a0.T), .d (.sl (a0.Secs.map Sec.enc))]), (5, [.d (.int .i64 x3.Res), .d (.int .i64 x3.At), .d (.int .i64 x3.Len)])], []⟩) h (Weak.refl _) (fun _ nx5 hn5 v5 h => ?_)
    refine fkS h (fun h => ?_) (fun h => ?_)
    · refine ixS (enc := Sec.enc) h rfl (fun _ => rfl) (fun x6 h => ?_)
      refine caS (E := E_Bool) h (task_fits_w x6 x3) rfl (fun _ => rfl) (fun x7 h => ?_)
      refine fkS h (fun h => ?_) (fun h => ?_)
      · exact leS hn5 h (Weak.refl _)
      exact rt (E := E_Bool) h rfl
    exact leS hn2 h (Weak.refl _)
  exact rt (E := E_Bool) h rfl

end Go.Proofs.Ytcgliccegpjnfaa
namespace Go.Proofs.Ytcgliccegpjnfaa
open Go Go.VC
noncomputable def task_All (a0 : List Task) : Option Bool :=
  lp (fun nx1 (v1 : Int) => fk (decide (v1 < (a0.length : Int))) (ix a0 v1 fun x2 => bnd (task_Right x2) fun x3 => fk (!x3) (some false) (nx1 (wr (v1 + (1 : Int))))) (some (decide ((a0.length : Int) ≤ (8 : Int))))) FU (0 : Int)
theorem task_All_w (a0 : List Task) (r : Bool) (h : task_All a0 = some r) : Go.VC.Spec Try.prog 36 [.d (.sl (a0.map Task.enc))] (fun y => y = E_Bool r) := by
  refine Go.VC.Spec.of_xc (args := [.d (.sl (a0.map Task.enc))]) (fn := Try.f36) tab ⟨[(0, [0]), (1, [0, 5, 6, 7]), (2, [0, 5, 6, 7, 8]), (3, [0, 4, 5, 6, 7]), (4, [0, 5, 6, 7, 13]), (5, [2]), (6, [0, 5, 6, 7]), (7, [2])], [], [], []⟩ 18 [.tmp 2] rfl rfl rfl rfl rfl rfl ?_
  refine lenS a0 Task.enc rfl ?_
  refine lpS (fun v1 => ⟨[(0, .l (.d (.sl (a0.map Task.enc)))), (5, .l (.d (.sl (a0.map Task.enc)))), (6, .l (.d (.int .i64 (a0.length : Int)))), (7, .l (.d (.int .i64 v1)))], 18, [], [], []⟩) h (Weak.refl _) (fun _ nx1 hn1 v1 h => ?_)
  refine fkS h (fun h => ?_) (fun h => ?_)
  · refine ixS (enc := Task.enc) h rfl (fun _ => rfl) (fun x2 h => ?_)
    refine caS (E := E_Bool) h (task_Right_w x2) rfl (fun _ => rfl) (fun x3 h => ?_)
    refine fkS h (fun h => ?_) (fun h => ?_)
    · exact rt (E := E_Bool) h rfl
    exact leS hn1 h (Weak.refl _)
  refine lenS a0 Task.enc rfl ?_
  exact rt (E := E_Bool) h rfl

end Go.Proofs.Ytcgliccegpjnfaa
namespace Go.Proofs.Ytcgliccegpjnfaa
open Go Go.VC
noncomputable def arith_may (a0 : List Int) : Option Bool :=
  lp (fun nx1 (v1 : Int) => fk (decide (v1 < (a0.length : Int))) (ix a0 v1 fun x2 => jn (fun (w3 : Bool) => fk w3 (some false) (nx1 (wr (v1 + (1 : Int))))) (fun k3 => fk (decide (x2 > (4611686018427387903 : Int))) (k3 true) (k3 (decide (x2 < (-4611686018427387903 : Int)))))) (some true)) FU (0 : Int)
theorem arith_may_w (a0 : List Int) (r : Bool) (h : arith_may a0 = some r) : Go.VC.Spec Try.prog 51 [.d (.sl (a0.map (eI .i64)))] (fun y => y = E_Bool r) := by
  refine Go.VC.Spec.of_xc (args := [.d (.sl (a0.map (eI .i64)))]) (fn := Try.f51) tab ⟨[(0, [0]), (1, [5, 6, 7]), (2, [5, 6, 7, 8]), (3, [4, 5, 6, 7]), (4, [5, 6, 7, 16]), (5, [2]), (6, [5, 6, 7]), (7, [2])], [], [100016], []⟩ 18 [.tmp 2] rfl rfl rfl rfl rfl rfl ?_
  refine lenS a0 (eI .i64) rfl ?_
  refine lpS (fun v1 => ⟨[(5, .l (.d (.sl (a0.map (eI .i64))))), (6, .l (.d (.int .i64 (a0.length : Int)))), (7, .l (.d (.int .i64 v1)))], 18, [], [], []⟩) h (Weak.refl _) (fun _ nx1 hn1 v1 h => ?_)
  refine fkS h (fun h => ?_) (fun h => ?_)
  · refine ixS (enc := (eI .i64)) h rfl (fun _ => rfl) (fun x2 h => ?_)
    refine jnS (fun w3 => ⟨[(5, .l (.d (.sl (a0.map (eI .i64))))), (6, .l (.d (.int .i64 (a0.length : Int)))), (7, .l (.d (.int .i64 v1))), (16, .l (.d (.bool w3)))], 18, [], [], []⟩) h (fun k3 hk3 h => ?_) (fun w3 h => ?_)
    · refine fkS h (fun h => ?_) (fun h => ?_)
      · exact jeS hk3 h (Weak.refl _)
      exact jeS hk3 h (Weak.refl _)
    refine fkS h (fun h => ?_) (fun h => ?_)
    · exact rt (E := E_Bool) h rfl
    exact leS hn1 h (Weak.refl _)
  exact rt (E := E_Bool) h rfl

end Go.Proofs.Ytcgliccegpjnfaa
namespace Go.Proofs.Ytcgliccegpjnfaa
open Go Go.VC
noncomputable def arith_Floor (a0 : Int) (a1 : Int) : Option (Int × Int) :=
  jn (fun (w1 : Bool) => fk w1 (some ((0 : Int), (1 : Int))) (ck (decide (a1 ≠ 0)) (ck (decide (a1 ≠ 0)) (fk (decide ((a0.tmod a1) < (0 : Int))) (some ((wr ((wr (a0.tdiv a1)) - (1 : Int))), (0 : Int))) (some ((wr (a0.tdiv a1)), (0 : Int))))))) (fun k1 => bnd (arith_may ([a0, a1] : List Int)) fun x2 => fk (!x2) (k1 true) (k1 (decide (a1 < (1 : Int)))))
theorem arith_Floor_w (a0 : Int) (a1 : Int) (r : Int × Int) (h : arith_Floor a0 a1 = some r) : Go.VC.Spec Try.prog 52 [.d (.int .i64 a0), .d (.int .i64 a1)] (fun y => y = E_Int_Int r) := by
  refine Go.VC.Spec.of_xc (args := [.d (.int .i64 a0), .d (.int .i64 a1)]) (fn := Try.f52) tab ⟨[(0, [0, 1]), (1, [0, 1, 15]), (2, [4, 5]), (3, [0, 1, 6]), (4, [6, 22]), (5, [6]), (6, [4, 5])], [], [100015], []⟩ 26 [.tmp 4, .tmp 5] rfl rfl rfl rfl rfl rfl ?_
  refine jnS (fun w1 => ⟨[(0, .l (.d (.int .i64 a0))), (1, .l (.d (.int .i64 a1))), (15, .l (.d (.bool w1)))], 26, [], [], []⟩) h (fun k1 hk1 h => ?_) (fun w1 h => ?_)
  · refine liS ([a0, a1] : List Int) (eI .i64) rfl rfl ?_
    refine caS (E := E_Bool) h (arith_may_w ([a0, a1] : List Int)) rfl (fun _ => rfl) (fun x2 h => ?_)
    refine fkS h (fun h => ?_) (fun h => ?_)
    · exact jeS hk1 h (Weak.refl _)
    exact jeS hk1 h (Weak.refl _)
  refine fkS h (fun h => ?_) (fun h => ?_)
  · exact rt (E := E_Int_Int) h rfl
  refine dvS h (fun h => ?_)
  refine dvS h (fun h => ?_)
  refine fkS h (fun h => ?_) (fun h => ?_)
  · exact rt (E := E_Int_Int) h rfl
  exact rt (E := E_Int_Int) h rfl

end Go.Proofs.Ytcgliccegpjnfaa
namespace Go.Proofs.Ytcgliccegpjnfaa
open Go Go.VC
noncomputable def demand_jobs (a0 : Task) (a1 : Int) : Option Int :=
  fk (decide (a1 < a0.D)) (some (0 : Int)) (bnd (arith_Floor (wr (a1 - a0.D)) a0.T) fun x1 => some (wr (x1.1 + (1 : Int))))
theorem demand_jobs_w (a0 : Task) (a1 : Int) (r : Int) (h : demand_jobs a0 a1 = some r) : Go.VC.Spec Try.prog 40 [.agg (Task.enc a0), .d (.int .i64 a1)] (fun y => y = E_Int r) := by
  refine Go.VC.Spec.of_xc (args := [.agg (Task.enc a0), .d (.int .i64 a1)]) (fn := Try.f40) tab ⟨[(0, [1, 2]), (1, [1, 2, 10]), (2, [4]), (3, [5]), (4, [4])], [], [], []⟩ 23 [.tmp 4] rfl rfl rfl rfl rfl rfl ?_
  refine fkS h (fun h => ?_) (fun h => ?_)
  · exact rt (E := E_Int) h rfl
  refine caS (E := E_Int_Int) h (arith_Floor_w (wr (a1 - a0.D)) a0.T) rfl (fun _ => rfl) (fun x1 h => ?_)
  exact rt (E := E_Int) h rfl

end Go.Proofs.Ytcgliccegpjnfaa
namespace Go.Proofs.Ytcgliccegpjnfaa
open Go Go.VC
noncomputable def arith_Mul (a0 : Int) (a1 : Int) : Option (Int × Int) :=
  bnd (arith_may ([a0, a1] : List Int)) fun x1 => fk (!x1) (some ((0 : Int), (1 : Int))) (jn (fun (w2 : Bool) => fk w2 (some ((0 : Int), (0 : Int))) (ck (decide ((if (IntKind.i64.wrap (0 - a1)) > a1 then (IntKind.i64.wrap (0 - a1)) else a1) ≠ 0)) (fk (decide ((if (IntKind.i64.wrap (0 - a0)) > a0 then (IntKind.i64.wrap (0 - a0)) else a0) > (wr ((4611686018427387903 : Int).tdiv (if (IntKind.i64.wrap (0 - a1)) > a1 then (IntKind.i64.wrap (0 - a1)) else a1))))) (some ((0 : Int), (5 : Int))) (some ((wr (a0 * a1)), (0 : Int)))))) (fun k2 => fk (decide (a0 = (0 : Int))) (k2 true) (k2 (decide (a1 = (0 : Int))))))
theorem arith_Mul_w (a0 : Int) (a1 : Int) (r : Int × Int) (h : arith_Mul a0 a1 = some r) : Go.VC.Spec Try.prog 38 [.d (.int .i64 a0), .d (.int .i64 a1)] (fun y => y = E_Int_Int r) := by
  refine Go.VC.Spec.of_xc (args := [.d (.int .i64 a0), .d (.int .i64 a1)]) (fn := Try.f38) tab ⟨[(0, [0, 1]), (1, [0, 1, 6]), (2, [4, 5]), (3, [0, 1, 12]), (4, [4, 5]), (5, [0, 1, 19]), (6, [4, 5]), (7, [4, 5])], [], [100012], []⟩ 33 [.tmp 4, .tmp 5] rfl rfl rfl rfl rfl rfl ?_
  refine liS ([a0, a1] : List Int) (eI .i64) rfl rfl ?_
  refine caS (E := E_Bool) h (arith_may_w ([a0, a1] : List Int)) rfl (fun _ => rfl) (fun x1 h => ?_)
  refine fkS h (fun h => ?_) (fun h => ?_)
  · exact rt (E := E_Int_Int) h rfl
  refine jnS (fun w2 => ⟨[(0, .l (.d (.int .i64 a0))), (1, .l (.d (.int .i64 a1))), (12, .l (.d (.bool w2)))], 33, [], [], []⟩) h (fun k2 hk2 h => ?_) (fun w2 h => ?_)
  · refine fkS h (fun h => ?_) (fun h => ?_)
    · exact jeS hk2 h (Weak.refl _)
    exact jeS hk2 h (Weak.refl _)
  refine fkS h (fun h => ?_) (fun h => ?_)
  · exact rt (E := E_Int_Int) h rfl
  refine dvS h (fun h => ?_)
  refine fkS h (fun h => ?_) (fun h => ?_)
  · exact rt (E := E_Int_Int) h rfl
  exact rt (E := E_Int_Int) h rfl

end Go.Proofs.Ytcgliccegpjnfaa
namespace Go.Proofs.Ytcgliccegpjnfaa
open Go Go.VC
noncomputable def arith_Add (a0 : Int) (a1 : Int) : Option (Int × Int) :=
  bnd (arith_may ([a0, a1] : List Int)) fun x1 => fk (!x1) (some ((0 : Int), (1 : Int))) (bnd (arith_may ([(wr (a0 + a1))] : List Int)) fun x2 => fk (!x2) (some ((0 : Int), (5 : Int))) (some ((wr (a0 + a1)), (0 : Int))))
theorem arith_Add_w (a0 : Int) (a1 : Int) (r : Int × Int) (h : arith_Add a0 a1 = some r) : Go.VC.Spec Try.prog 39 [.d (.int .i64 a0), .d (.int .i64 a1)] (fun y => y = E_Int_Int r) := by
  refine Go.VC.Spec.of_xc (args := [.d (.int .i64 a0), .d (.int .i64 a1)]) (fn := Try.f39) tab ⟨[(0, [0, 1]), (1, [0, 1, 6]), (2, [4, 5]), (3, [0, 1, 12]), (4, [4, 5]), (5, [4, 5])], [], [], []⟩ 22 [.tmp 4, .tmp 5] rfl rfl rfl rfl rfl rfl ?_
  refine liS ([a0, a1] : List Int) (eI .i64) rfl rfl ?_
  refine caS (E := E_Bool) h (arith_may_w ([a0, a1] : List Int)) rfl (fun _ => rfl) (fun x1 h => ?_)
  refine fkS h (fun h => ?_) (fun h => ?_)
  · exact rt (E := E_Int_Int) h rfl
  refine liS ([(wr (a0 + a1))] : List Int) (eI .i64) rfl rfl ?_
  refine caS (E := E_Bool) h (arith_may_w ([(wr (a0 + a1))] : List Int)) rfl (fun _ => rfl) (fun x2 h => ?_)
  refine fkS h (fun h => ?_) (fun h => ?_)
  · exact rt (E := E_Int_Int) h rfl
  exact rt (E := E_Int_Int) h rfl

end Go.Proofs.Ytcgliccegpjnfaa
namespace Go.Proofs.Ytcgliccegpjnfaa
open Go Go.VC
noncomputable def demand_Bound (a0 : List Task) (a1 : Int) : Option (Int × Int) :=
  jn (fun (w1 : Bool) => fk w1 (some ((0 : Int), (1 : Int))) (lp (fun nx3 (v3 : Int × Int × Int) => fk (decide (v3.2.2 < (a0.length : Int))) (ix a0 v3.2.2 fun x4 => bnd (demand_jobs x4 a1) fun x5 => bnd (arith_Mul x4.C x5) fun x6 => bnd (arith_Add v3.1 x6.1) fun x7 => jn (fun (w8 : Bool) => fk w8 (nx3 (v3.1, (5 : Int), (wr (v3.2.2 + (1 : Int))))) (nx3 (x7.1, v3.2.1, (wr (v3.2.2 + (1 : Int)))))) (fun k8 => fk (!decide (x6.2 = (0 : Int))) (k8 true) (k8 (!decide (x7.2 = (0 : Int)))))) (fk (!decide (v3.2.1 = (0 : Int))) (some ((0 : Int), v3.2.1)) (some (v3.1, (0 : Int))))) FU ((0 : Int), (0 : Int), (0 : Int)))) (fun k1 => bnd (task_All a0) fun x2 => fk (!x2) (k1 true) (fk (decide (a1 < (0 : Int))) (k1 true) (k1 (decide (a1 > (4611686018427387903 : Int))))))
theorem demand_Bound_w (a0 : List Task) (a1 : Int) (r : Int × Int) (h : demand_Bound a0 a1 = some r) : Go.VC.Spec Try.prog 17 [.d (.sl (a0.map Task.enc)), .d (.int .i64 a1)] (fun y => y = E_Int_Int r) := by
  refine Go.VC.Spec.of_xc (args := [.d (.sl (a0.map Task.enc)), .d (.int .i64 a1)]) (fn := Try.f17) tab ⟨[(0, [0, 1]), (1, [0, 1, 21]), (2, [4, 5]), (3, [0, 1, 6, 7]), (4, [0, 1, 6, 7, 8]), (5, [1, 6, 7, 8, 23, 24, 25]), (6, [1, 6, 7, 8, 23, 24, 25, 26]), (7, [1, 6, 7, 8, 10, 23, 24, 25]), (8, [1, 6, 7, 8, 23, 24, 25]), (9, [1, 6, 7, 8, 23, 24, 25]), (10, [6, 7, 38]), (11, [4, 5]), (12, [4, 5])], [], [100021], []⟩ 41 [.tmp 4, .tmp 5] rfl rfl rfl rfl rfl rfl ?_
  refine jnS (fun w1 => ⟨[(0, .l (.d (.sl (a0.map Task.enc)))), (1, .l (.d (.int .i64 a1))), (21, .l (.d (.bool w1)))], 41, [], [], []⟩) h (fun k1 hk1 h => ?_) (fun w1 h => ?_)
  · refine caS (E := E_Bool) h (task_All_w a0) rfl (fun _ => rfl) (fun x2 h => ?_)
    refine fkS h (fun h => ?_) (fun h => ?_)
    · exact jeS hk1 h (Weak.refl _)
    refine fkS h (fun h => ?_) (fun h => ?_)
    · exact jeS hk1 h (Weak.refl _)
    exact jeS hk1 h (Weak.refl _)
  refine fkS h (fun h => ?_) (fun h => ?_)
  · exact rt (E := E_Int_Int) h rfl
  refine lenS a0 Task.enc rfl ?_
  refine lpS (fun v3 => ⟨[(1, .l (.d (.int .i64 a1))), (6, .l (.ptr 7 0)), (7, .l (.ptr 8 0)), (8, .l (.func 37 [.k 7, .k 8])), (23, .l (.d (.sl (a0.map Task.enc)))), (24, .l (.d (.int .i64 (a0.length : Int)))), (25, .l (.d (.int .i64 v3.2.2)))], 41, [], [(7, [.d (.int .i64 v3.1)]), (8, [.d (.int .i64 v3.2.1)])], []⟩) h (Weak.refl _) (fun _ nx3 hn3 v3 h => ?_)
  refine fkS h (fun h => ?_) (fun h => ?_)
  · refine ixS (enc := Task.enc) h rfl (fun _ => rfl) (fun x4 h => ?_)
    refine ⟨6, ?_⟩
    refine daS (E := E_Int) h (demand_jobs_w x4 a1) (fun _ => rfl) (fun x5 h => ?_)
    refine drS (by kernel_rfl) ?_
    refine inS (fn := Try.f37) tab ⟨[(0, [2, 3, 6, 7]), (1, [2, 3, 7, 8, 9]), (2, [2, 3, 8, 27]), (3, []), (4, [])], [], [100027], []⟩ 29 [] rfl rfl rfl rfl rfl rfl ?_
    refine caS (E := E_Int_Int) h (arith_Mul_w x4.C x5) rfl (fun _ => rfl) (fun x6 h => ?_)
    refine caS (E := E_Int_Int) h (arith_Add_w v3.1 x6.1) rfl (fun _ => rfl) (fun x7 h => ?_)
    refine jnS (fun w8 => ⟨[(2, .l (.ptr 7 0)), (3, .l (.ptr 8 0)), (8, .l (.d (.int .i64 x7.1))), (27, .l (.d (.bool w8)))], 29, [⟨[(34, .l (.d (.int .i64 x5))), (33, .l (.d (.int .i64 a1))), (32, .agg [.d (.int .i64 x4.C), .d (.int .i64 x4.D), .d (.int .i64 x4.T), .d (.sl (x4.Secs.map Sec.enc))]), (31, .l (.d (.int .i64 x4.C))), (30, .l (.ptr 11 0)), (29, .l (.func 37 [.k 7, .k 8])), (1, .l (.d (.int .i64 a1))), (6, .l (.ptr 7 0)), (7, .l (.ptr 8 0)), (8, .l (.func 37 [.k 7, .k 8])), (10, .l (.ptr 11 0)), (23, .l (.d (.sl (a0.map Task.enc)))), (24, .l (.d (.int .i64 (a0.length : Int)))), (25, .l (.d (.int .i64 v3.2.2)))], 41⟩], [(7, [.d (.int .i64 v3.1)]), (8, [.d (.int .i64 v3.2.1)]), (11, [.d (.int .i64 x4.C), .d (.int .i64 x4.D), .d (.int .i64 x4.T), .d (.sl (x4.Secs.map Sec.enc))])], []⟩) h (fun k8 hk8 h => ?_) (fun w8 h => ?_)
    · refine fkS h (fun h => ?_) (fun h => ?_)
      · exact jeS hk8 h (Weak.refl _)
      exact jeS hk8 h (Weak.refl _)
    refine fkS h (fun h => ?_) (fun h => ?_)
    · exact leS hn3 h (Weak.refl _)
    exact leS hn3 h (Weak.refl _)
  refine fkS h (fun h => ?_) (fun h => ?_)
  · refine ⟨2, ?_⟩
    refine drS (by kernel_rfl) ?_
    exact rt (E := E_Int_Int) h rfl
  exact rt (E := E_Int_Int) h rfl

end Go.Proofs.Ytcgliccegpjnfaa
namespace Go.Proofs.Ytcgliccegpjnfaa
open Go Go.VC
noncomputable def demand_Legal (a0 : List Task) (a1 : List (List Int)) : Option Bool :=
  jn (fun (w1 : Bool) => fk w1 (some false) (lp (fun nx3 (v3 : Int) => fk (decide (v3 < (a1.length : Int))) (ix a1 v3 fun x4 => fk (decide ((x4.length : Int) > (1000 : Int))) (some false) (lp (fun nx5 (v5 : Int) => fk (decide (v5 < (x4.length : Int))) (ix x4 v5 fun x6 => jn (fun (w7 : Bool) => fk w7 (some false) (nx5 (wr (v5 + (1 : Int))))) (fun k7 => fk (decide (x6 < (0 : Int))) (k7 true) (fk (decide (x6 > (4611686018427387903 : Int))) (k7 true) (fk (decide (v5 > (0 : Int))) (ix x4 (wr (v5 - (1 : Int))) fun x8 => ix a0 v3 fun x9 => k7 (decide ((wr (x6 - x8)) < x9.T))) (k7 false))))) (nx3 (wr (v3 + (1 : Int))))) FU (0 : Int))) (some true)) FU (0 : Int))) (fun k1 => bnd (task_All a0) fun x2 => fk (!x2) (k1 true) (k1 (!decide ((a1.length : Int) = (a0.length : Int)))))
theorem demand_Legal_w (a0 : List Task) (a1 : List (List Int)) (r : Bool) (h : demand_Legal a0 a1 = some r) : Go.VC.Spec Try.prog 22 [.d (.sl (a0.map Task.enc)), .d (.sl (a1.map (eL (eI .i64))))] (fun y => y = E_Bool r) := by
  refine Go.VC.Spec.of_xc (args := [.d (.sl (a0.map Task.enc)), .d (.sl (a1.map (eL (eI .i64))))]) (fn := Try.f22) tab ⟨[(0, [0, 1]), (1, [0, 1, 18]), (2, [4]), (3, [0, 19, 20, 21]), (4, [0, 19, 20, 21, 22]), (5, [0, 5, 6, 19, 20, 21]), (6, [0, 5, 6, 19, 20, 21, 28]), (7, [4]), (8, [0, 5, 6, 19, 20, 21, 29, 30, 31]), (9, [0, 5, 6, 19, 20, 21, 29, 30, 31, 32]), (10, [0, 5, 6, 7, 8, 19, 20, 21, 29, 30, 31]), (11, [0, 5, 6, 19, 20, 21, 29, 30, 31, 60]), (12, [4]), (13, [0, 5, 6, 19, 20, 21, 29, 30, 31]), (14, [0, 19, 20, 21]), (15, [4])], [], [100018, 100060], []⟩ 63 [.tmp 4] rfl rfl rfl rfl rfl rfl ?_
  refine jnS (fun w1 => ⟨[(0, .l (.d (.sl (a0.map Task.enc)))), (1, .l (.d (.sl (a1.map (eL (eI .i64)))))), (18, .l (.d (.bool w1)))], 63, [], [], []⟩) h (fun k1 hk1 h => ?_) (fun w1 h => ?_)
  · refine caS (E := E_Bool) h (task_All_w a0) rfl (fun _ => rfl) (fun x2 h => ?_)
    refine fkS h (fun h => ?_) (fun h => ?_)
    · exact jeS hk1 h (Weak.refl _)
    refine lenS a1 (eL (eI .i64)) rfl ?_
    refine lenS a0 Task.enc rfl ?_
    exact jeS hk1 h (Weak.refl _)
  refine fkS h (fun h => ?_) (fun h => ?_)
  · exact rt (E := E_Bool) h rfl
  refine lenS a1 (eL (eI .i64)) rfl ?_
  refine lpS (fun v3 => ⟨[(0, .l (.d (.sl (a0.map Task.enc)))), (19, .l (.d (.sl (a1.map (eL (eI .i64)))))), (20, .l (.d (.int .i64 (a1.length : Int)))), (21, .l (.d (.int .i64 v3)))], 63, [], [], []⟩) h (Weak.refl _) (fun _ nx3 hn3 v3 h => ?_)
  refine fkS h (fun h => ?_) (fun h => ?_)
  · refine ixS (enc := (eL (eI .i64))) h rfl (fun _ => rfl) (fun x4 h => ?_)
    refine lenS x4 (eI .i64) rfl ?_
    refine fkS h (fun h => ?_) (fun h => ?_)
    · exact rt (E := E_Bool) h rfl
    refine lenS x4 (eI .i64) rfl ?_
    refine lpS (fun v5 => ⟨[(0, .l (.d (.sl (a0.map Task.enc)))), (5, .l (.d (.int .i64 v3))), (6, .l (.d (.sl (x4.map (eI .i64))))), (19, .l (.d (.sl (a1.map (eL (eI .i64)))))), (20, .l (.d (.int .i64 (a1.length : Int)))), (21, .l (.d (.int .i64 v3))), (29, .l (.d (.sl (x4.map (eI .i64))))), (30, .l (.d (.int .i64 (x4.length : Int)))), (31, .l (.d (.int .i64 v5)))], 63, [], [], []⟩) h (Weak.refl _) (fun _ nx5 hn5 v5 h => ?_)
    refine fkS h (fun h => ?_) (fun h => ?_)
    · refine ixS (enc := (eI .i64)) h rfl (fun _ => rfl) (fun x6 h => ?_)
      refine jnS (fun w7 => ⟨[(0, .l (.d (.sl (a0.map Task.enc)))), (5, .l (.d (.int .i64 v3))), (6, .l (.d (.sl (x4.map (eI .i64))))), (19, .l (.d (.sl (a1.map (eL (eI .i64)))))), (20, .l (.d (.int .i64 (a1.length : Int)))), (21, .l (.d (.int .i64 v3))), (29, .l (.d (.sl (x4.map (eI .i64))))), (30, .l (.d (.int .i64 (x4.length : Int)))), (31, .l (.d (.int .i64 v5))), (60, .l (.d (.bool w7)))], 63, [], [], []⟩) h (fun k7 hk7 h => ?_) (fun w7 h => ?_)
      · refine ⟨25, ?_⟩
        refine fkS h (fun h => ?_) (fun h => ?_)
        · refine drS (by kernel_rfl) ?_
          exact jeS hk7 h (Weak.refl _)
        refine fkS h (fun h => ?_) (fun h => ?_)
        · refine drS (by kernel_rfl) ?_
          exact jeS hk7 h (Weak.refl _)
        refine fkS h (fun h => ?_) (fun h => ?_)
        · refine ixS (enc := (eI .i64)) h rfl (fun _ => rfl) (fun x8 h => ?_)
          refine ixS (enc := Task.enc) h rfl (fun _ => rfl) (fun x9 h => ?_)
          refine drS (by kernel_rfl) ?_
          exact jeS hk7 h (Weak.refl _)
        refine drS (by kernel_rfl) ?_
        exact jeS hk7 h (Weak.refl _)
      refine fkS h (fun h => ?_) (fun h => ?_)
      · exact rt (E := E_Bool) h rfl
      exact leS hn5 h (Weak.refl _)
    exact leS hn3 h (Weak.refl _)
  exact rt (E := E_Bool) h rfl

end Go.Proofs.Ytcgliccegpjnfaa
namespace Go.Proofs.Ytcgliccegpjnfaa
open Go Go.VC
noncomputable def demand_Of (a0 : List Task) (a1 : List (List Int)) (a2 : Int) (a3 : Int) : Option (Int × Int) :=
  bnd (demand_Legal a0 a1) fun x1 => fk (!x1) (some ((0 : Int), (1 : Int))) (lp (fun nx2 (v2 : Int × Int) => fk (decide (v2.2 < (a1.length : Int))) (ix a1 v2.2 fun x3 => lp (fun nx4 (v4 : Int × Int) => fk (decide (v4.2 < (x3.length : Int))) (jn (fun (w5 : Int) => nx4 (w5, (wr (v4.2 + (1 : Int))))) (fun k5 => ix x3 v4.2 fun x6 => jn (fun (w7 : Bool) => fk w7 (ix a0 v2.2 fun x9 => k5 (wr (v4.1 + x9.C))) (k5 v4.1)) (fun k7 => fk (decide (x6 ≥ a2)) (ix a0 v2.2 fun x8 => k7 (decide ((wr (x6 + x8.D)) ≤ a3))) (k7 false)))) (nx2 (v4.1, (wr (v2.2 + (1 : Int)))))) FU (v2.1, (0 : Int))) (some (v2.1, (0 : Int)))) FU ((0 : Int), (0 : Int)))
theorem demand_Of_w (a0 : List Task) (a1 : List (List Int)) (a2 : Int) (a3 : Int) (r : Int × Int) (h : demand_Of a0 a1 a2 a3 = some r) : Go.VC.Spec Try.prog 21 [.d (.sl (a0.map Task.enc)), .d (.sl (a1.map (eL (eI .i64)))), .d (.int .i64 a2), .d (.int .i64 a3)] (fun y => y = E_Int_Int r) := by
  refine Go.VC.Spec.of_xc (args := [.d (.sl (a0.map Task.enc)), .d (.sl (a1.map (eL (eI .i64)))), .d (.int .i64 a2), .d (.int .i64 a3)]) (fn := Try.f21) tab ⟨[(0, [0, 1, 2, 3]), (1, [0, 1, 2, 3, 18]), (2, [8, 9]), (3, [0, 1, 2, 3, 10]), (4, [0, 2, 3, 10, 19, 20, 21]), (5, [0, 2, 3, 10, 19, 20, 21, 22]), (6, [0, 2, 3, 10, 11, 12, 19, 20, 21]), (7, [0, 2, 3, 10, 11, 19, 20, 21, 26, 27, 28]), (8, [0, 2, 3, 10, 11, 19, 20, 21, 26, 27, 28, 29]), (9, [0, 2, 3, 10, 11, 14, 19, 20, 21, 26, 27, 28]), (10, [0, 2, 3, 10, 11, 19, 20, 21, 26, 27, 28, 45]), (11, [0, 2, 3, 10, 11, 19, 20, 21, 26, 27, 28]), (12, [0, 2, 3, 10, 11, 19, 20, 21, 26, 27, 28]), (13, [0, 2, 3, 10, 19, 20, 21]), (14, [8, 9])], [], [100045, 12], []⟩ 56 [.tmp 8, .tmp 9] rfl rfl rfl rfl rfl rfl ?_
  refine caS (E := E_Bool) h (demand_Legal_w a0 a1) rfl (fun _ => rfl) (fun x1 h => ?_)
  refine fkS h (fun h => ?_) (fun h => ?_)
  · exact rt (E := E_Int_Int) h rfl
  refine lenS a1 (eL (eI .i64)) rfl ?_
  refine lpS (fun v2 => ⟨[(0, .l (.d (.sl (a0.map Task.enc)))), (2, .l (.d (.int .i64 a2))), (3, .l (.d (.int .i64 a3))), (10, .l (.d (.int .i64 v2.1))), (19, .l (.d (.sl (a1.map (eL (eI .i64)))))), (20, .l (.d (.int .i64 (a1.length : Int)))), (21, .l (.d (.int .i64 v2.2)))], 56, [], [], []⟩) h (Weak.refl _) (fun _ nx2 hn2 v2 h => ?_)
  refine fkS h (fun h => ?_) (fun h => ?_)
  · refine ixS (enc := (eL (eI .i64))) h rfl (fun _ => rfl) (fun x3 h => ?_)
    refine lenS x3 (eI .i64) rfl ?_
    refine lpS (fun v4 => ⟨[(0, .l (.d (.sl (a0.map Task.enc)))), (2, .l (.d (.int .i64 a2))), (3, .l (.d (.int .i64 a3))), (10, .l (.d (.int .i64 v4.1))), (11, .l (.d (.int .i64 v2.2))), (19, .l (.d (.sl (a1.map (eL (eI .i64)))))), (20, .l (.d (.int .i64 (a1.length : Int)))), (21, .l (.d (.int .i64 v2.2))), (26, .l (.d (.sl (x3.map (eI .i64))))), (27, .l (.d (.int .i64 (x3.length : Int)))), (28, .l (.d (.int .i64 v4.2)))], 56, [], [], []⟩) h (Weak.refl _) (fun _ nx4 hn4 v4 h => ?_)
    refine fkS h (fun h => ?_) (fun h => ?_)
    · refine jnS (fun w5 => ⟨[(0, .l (.d (.sl (a0.map Task.enc)))), (2, .l (.d (.int .i64 a2))), (3, .l (.d (.int .i64 a3))), (10, .l (.d (.int .i64 w5))), (11, .l (.d (.int .i64 v2.2))), (19, .l (.d (.sl (a1.map (eL (eI .i64)))))), (20, .l (.d (.int .i64 (a1.length : Int)))), (21, .l (.d (.int .i64 v2.2))), (26, .l (.d (.sl (x3.map (eI .i64))))), (27, .l (.d (.int .i64 (x3.length : Int)))), (28, .l (.d (.int .i64 v4.2)))], 56, [], [], []⟩) h (fun k5 hk5 h => ?_) (fun w5 h => ?_)
      · refine ixS (enc := (eI .i64)) h rfl (fun _ => rfl) (fun x6 h => ?_)
        refine jnS (fun w7 => ⟨[(0, .l (.d (.sl (a0.map Task.enc)))), (2, .l (.d (.int .i64 a2))), (3, .l (.d (.int .i64 a3))), (10, .l (.d (.int .i64 v4.1))), (11, .l (.d (.int .i64 v2.2))), (19, .l (.d (.sl (a1.map (eL (eI .i64)))))), (20, .l (.d (.int .i64 (a1.length : Int)))), (21, .l (.d (.int .i64 v2.2))), (26, .l (.d (.sl (x3.map (eI .i64))))), (27, .l (.d (.int .i64 (x3.length : Int)))), (28, .l (.d (.int .i64 v4.2))), (45, .l (.d (.bool w7)))], 56, [], [], []⟩) h (fun k7 hk7 h => ?_) (fun w7 h => ?_)
        · refine fkS h (fun h => ?_) (fun h => ?_)
          · refine ixS (enc := Task.enc) h rfl (fun _ => rfl) (fun x8 h => ?_)
            exact jeS hk7 h (Weak.refl _)
          exact jeS hk7 h (Weak.refl _)
        refine fkS h (fun h => ?_) (fun h => ?_)
        · refine ixS (enc := Task.enc) h rfl (fun _ => rfl) (fun x9 h => ?_)
          exact jeS hk5 h (Weak.refl _)
        exact jeS hk5 h (Weak.trans (Weak.keepS _ [0, 2, 3, 10, 11, 19, 20, 21, 26, 27, 28]) (Weak.refl _))
      exact leS hn4 h (Weak.refl _)
    exact leS hn2 h (Weak.refl _)
  exact rt (E := E_Int_Int) h rfl

end Go.Proofs.Ytcgliccegpjnfaa
namespace Go.Proofs.Ytcgliccegpjnfaa
open Go Go.VC
noncomputable def law07_knows  : Option Bool :=
  bnd (demand_Bound ([⟨(2 : Int), (4 : Int), (6 : Int), []⟩] : List Task) (3 : Int)) fun x1 => bnd (demand_Bound ([⟨(2 : Int), (4 : Int), (6 : Int), []⟩] : List Task) (9 : Int)) fun x2 => bnd (demand_Bound ([⟨(2 : Int), (4 : Int), (6 : Int), []⟩] : List Task) (10 : Int)) fun x3 => bnd (demand_Of ([⟨(2 : Int), (4 : Int), (6 : Int), []⟩] : List Task) ([([(0 : Int), (6 : Int)] : List Int)] : List (List Int)) (0 : Int) (10 : Int)) fun x4 => fk (decide (x1.1 = (0 : Int))) (fk (decide (x1.2 = (0 : Int))) (fk (decide (x2.1 = (2 : Int))) (fk (decide (x2.2 = (0 : Int))) (fk (decide (x3.1 = (4 : Int))) (fk (decide (x3.2 = (0 : Int))) (fk (decide (x4.1 = (4 : Int))) (fk (decide (x4.2 = (0 : Int))) (bnd (demand_Legal ([⟨(2 : Int), (4 : Int), (6 : Int), []⟩] : List Task) ([([(0 : Int), (6 : Int)] : List Int)] : List (List Int))) fun x5 => fk x5 (bnd (demand_Legal ([⟨(2 : Int), (4 : Int), (6 : Int), []⟩] : List Task) ([([(0 : Int), (5 : Int)] : List Int)] : List (List Int))) fun x6 => some (!x6)) (some false)) (some false)) (some false)) (some false)) (some false)) (some false)) (some false)) (some false)) (some false)
theorem law07_knows_w  (r : Bool) (h : law07_knows = some r) : Go.VC.Spec Try.prog 16 [] (fun y => y = E_Bool r) := by
  refine Go.VC.Spec.of_xc (args := []) (fn := Try.f16) tab ⟨[(0, []), (1, [1]), (2, [1, 2, 3]), (3, [1, 2, 3, 4, 5]), (4, [1, 2, 3, 4, 5, 6, 7]), (5, [1, 2, 3, 4, 5, 6, 7, 8, 9]), (6, [0])], [], [], [(30, [30]), (67, [67]), (73, [73])]⟩ 77 [.tmp 0] rfl rfl rfl rfl rfl rfl ?_
  refine liS ([⟨(2 : Int), (4 : Int), (6 : Int), []⟩] : List Task) Task.enc rfl rfl ?_
  refine caS (E := E_Int_Int) h (demand_Bound_w ([⟨(2 : Int), (4 : Int), (6 : Int), []⟩] : List Task) (3 : Int)) rfl (fun _ => rfl) (fun x1 h => ?_)
  refine caS (E := E_Int_Int) h (demand_Bound_w ([⟨(2 : Int), (4 : Int), (6 : Int), []⟩] : List Task) (9 : Int)) rfl (fun _ => rfl) (fun x2 h => ?_)
  refine caS (E := E_Int_Int) h (demand_Bound_w ([⟨(2 : Int), (4 : Int), (6 : Int), []⟩] : List Task) (10 : Int)) rfl (fun _ => rfl) (fun x3 h => ?_)
  refine liS ([(0 : Int), (6 : Int)] : List Int) (eI .i64) rfl rfl ?_
  refine liS ([([(0 : Int), (6 : Int)] : List Int)] : List (List Int)) (eL (eI .i64)) rfl rfl ?_
  refine caS (E := E_Int_Int) h (demand_Of_w ([⟨(2 : Int), (4 : Int), (6 : Int), []⟩] : List Task) ([([(0 : Int), (6 : Int)] : List Int)] : List (List Int)) (0 : Int) (10 : Int)) rfl (fun _ => rfl) (fun x4 h => ?_)
  refine fkS h (fun h => ?_) (fun h => ?_)
  · refine fkS h (fun h => ?_) (fun h => ?_)
    · refine fkS h (fun h => ?_) (fun h => ?_)
      · refine fkS h (fun h => ?_) (fun h => ?_)
        · refine fkS h (fun h => ?_) (fun h => ?_)
          · refine fkS h (fun h => ?_) (fun h => ?_)
            · refine fkS h (fun h => ?_) (fun h => ?_)
              · refine fkS h (fun h => ?_) (fun h => ?_)
                · refine liS ([(0 : Int), (6 : Int)] : List Int) (eI .i64) rfl rfl ?_
                  refine liS ([([(0 : Int), (6 : Int)] : List Int)] : List (List Int)) (eL (eI .i64)) rfl rfl ?_
                  refine caS (E := E_Bool) h (demand_Legal_w ([⟨(2 : Int), (4 : Int), (6 : Int), []⟩] : List Task) ([([(0 : Int), (6 : Int)] : List Int)] : List (List Int))) rfl (fun _ => rfl) (fun x5 h => ?_)
                  refine fkS h (fun h => ?_) (fun h => ?_)
                  · refine liS ([(0 : Int), (5 : Int)] : List Int) (eI .i64) rfl rfl ?_
                    refine liS ([([(0 : Int), (5 : Int)] : List Int)] : List (List Int)) (eL (eI .i64)) rfl rfl ?_
                    refine caS (E := E_Bool) h (demand_Legal_w ([⟨(2 : Int), (4 : Int), (6 : Int), []⟩] : List Task) ([([(0 : Int), (5 : Int)] : List Int)] : List (List Int))) rfl (fun _ => rfl) (fun x6 h => ?_)
                    exact rt (E := E_Bool) h rfl
                  exact rt (E := E_Bool) h rfl
                exact rt (E := E_Bool) h rfl
              exact rt (E := E_Bool) h rfl
            exact rt (E := E_Bool) h rfl
          exact rt (E := E_Bool) h rfl
        exact rt (E := E_Bool) h rfl
      exact rt (E := E_Bool) h rfl
    exact rt (E := E_Bool) h rfl
  exact rt (E := E_Bool) h rfl

end Go.Proofs.Ytcgliccegpjnfaa
namespace Go.Proofs.Ytcgliccegpjnfaa
open Go Go.VC
noncomputable def ref07_First (a0 : List Task) (a1 : Int) : Option (List (List Int)) :=
  lp (fun nx1 (v1 : (List (List Int)) × Int) => fk (decide (v1.2 < (a0.length : Int))) (lp (fun nx2 (v2 : (List Int) × Int) => jn (fun (w3 : Bool) => fk w3 (ck (decide ((v2.1.length + ([v2.2] : List Int).length) * 8 ≤ 140737488355328)) (ix a0 v1.2 fun x4 => nx2 (v2.1 ++ ([v2.2] : List Int), (wr (v2.2 + x4.T))))) (ck (decide ((v1.1.length + ([v2.1] : List (List Int)).length) * 24 ≤ 140737488355328)) (nx1 (v1.1 ++ ([v2.1] : List (List Int)), (wr (v1.2 + (1 : Int))))))) (fun k3 => fk (decide (v2.2 ≤ a1)) (k3 (decide ((v2.1.length : Int) < (1000 : Int)))) (k3 false))) FU ([], (0 : Int))) (some v1.1)) FU ([], (0 : Int))
theorem ref07_First_w (a0 : List Task) (a1 : Int) (r : List (List Int)) (h : ref07_First a0 a1 = some r) : Go.VC.Spec Try.prog 25 [.d (.sl (a0.map Task.enc)), .d (.int .i64 a1)] (fun y => y = E_ListListInt r) := by
  refine Go.VC.Spec.of_xc (args := [.d (.sl (a0.map Task.enc)), .d (.int .i64 a1)]) (fn := Try.f25) tab ⟨[(0, [0, 1]), (1, [0, 1, 5]), (2, [0, 1, 5, 6]), (3, [0, 1, 5, 6, 12]), (4, [0, 1, 5, 6]), (5, [0, 1, 5, 6, 7]), (6, [0, 1, 5, 6, 7, 8]), (7, [0, 1, 5, 6, 7, 8, 22]), (8, [0, 1, 5, 6, 7, 8]), (9, [0, 1, 5, 6, 7, 8]), (10, [0, 1, 5, 6]), (11, [4])], [], [100022], [(36, [8])]⟩ 39 [.tmp 4] rfl rfl rfl rfl rfl rfl ?_
  refine lpS (fun v1 => ⟨[(0, .l (.d (.sl (a0.map Task.enc)))), (1, .l (.d (.int .i64 a1))), (5, .l (.own 6)), (6, .l (.d (.int .i64 v1.2)))], 39, [], [], [(6, 57, 1, v1.1.map (eL (eI .i64)))]⟩) h (Weak.trans (Weak.nilO _ 5 6 57 1 rfl) (Weak.refl _)) (fun _ nx1 hn1 v1 h => ?_)
  refine lenS a0 Task.enc rfl ?_
  refine fkS h (fun h => ?_) (fun h => ?_)
  · refine lpS (fun v2 => ⟨[(0, .l (.d (.sl (a0.map Task.enc)))), (1, .l (.d (.int .i64 a1))), (5, .l (.own 6)), (6, .l (.d (.int .i64 v1.2))), (7, .l (.own 8)), (8, .l (.d (.int .i64 v2.2)))], 39, [], [], [(6, 57, 1, v1.1.map (eL (eI .i64))), (8, 3, 1, v2.1.map (eI .i64))]⟩) h (Weak.trans (Weak.nilO _ 7 8 3 1 rfl) (Weak.refl _)) (fun _ nx2 hn2 v2 h => ?_)
    refine jnS (fun w3 => ⟨[(0, .l (.d (.sl (a0.map Task.enc)))), (1, .l (.d (.int .i64 a1))), (5, .l (.own 6)), (6, .l (.d (.int .i64 v1.2))), (7, .l (.own 8)), (8, .l (.d (.int .i64 v2.2))), (22, .l (.d (.bool w3)))], 39, [], [], [(6, 57, 1, v1.1.map (eL (eI .i64))), (8, 3, 1, v2.1.map (eI .i64))]⟩) h (fun k3 hk3 h => ?_) (fun w3 h => ?_)
    · refine fkS h (fun h => ?_) (fun h => ?_)
      · refine lenS v2.1 (eI .i64) rfl ?_
        exact jeS hk3 h (Weak.refl _)
      exact jeS hk3 h (Weak.refl _)
    refine fkS h (fun h => ?_) (fun h => ?_)
    · refine liS ([v2.2] : List Int) (eI .i64) rfl rfl ?_
      refine apS (enc := (eI .i64)) (l1 := v2.1) (l2 := ([v2.2] : List Int)) h rfl rfl (fun _ => rfl) (fun h => ?_)
      refine ixS (enc := Task.enc) h rfl (fun _ => rfl) (fun x4 h => ?_)
      exact leS hn2 h (Weak.refl _)
    refine liS ([v2.1] : List (List Int)) (eL (eI .i64)) rfl rfl ?_
    refine apS (enc := (eL (eI .i64))) (l1 := v1.1) (l2 := ([v2.1] : List (List Int))) h rfl rfl (fun _ => rfl) (fun h => ?_)
    exact leS hn1 h (Weak.refl _)
  exact rt (E := E_ListListInt) h rfl

end Go.Proofs.Ytcgliccegpjnfaa
namespace Go.Proofs.Ytcgliccegpjnfaa
open Go Go.VC
noncomputable def law07_DemandFirst (a0 : List Task) (a1 : Int) : Option Bool :=
  jn (fun (w1 : Bool) => fk w1 (bnd law07_knows fun x4 => some x4) (bnd (ref07_First a0 a1) fun x5 => bnd (demand_Bound a0 a1) fun x6 => bnd (demand_Of a0 x5 (0 : Int) a1) fun x7 => bnd (demand_Legal a0 x5) fun x8 => fk x8 (fk (decide (x6.2 = (0 : Int))) (fk (decide (x7.2 = (0 : Int))) (fk (decide (x6.1 = x7.1)) (bnd law07_knows fun x9 => some x9) (some false)) (some false)) (some false)) (some false))) (fun k1 => bnd (law05_Great a0) fun x2 => fk x2 (k1 true) (bnd (ref05_All a0) fun x3 => fk (!x3) (k1 true) (fk (decide (a1 < (0 : Int))) (k1 true) (k1 (decide (a1 > (900 : Int)))))))
theorem law07_DemandFirst_w (a0 : List Task) (a1 : Int) (r : Bool) (h : law07_DemandFirst a0 a1 = some r) : Go.VC.Spec Try.prog 7 [.d (.sl (a0.map Task.enc)), .d (.int .i64 a1)] (fun y => y = E_Bool r) := by
  refine Go.VC.Spec.of_xc (args := [.d (.sl (a0.map Task.enc)), .d (.int .i64 a1)]) (fn := Try.f7) tab ⟨[(0, [0, 1]), (1, [0, 1, 24]), (2, [4]), (3, [0, 1, 5]), (4, [0, 1, 5, 6, 7]), (5, [0, 5, 6, 7, 8, 9]), (6, [4])], [], [100024], []⟩ 61 [.tmp 4] rfl rfl rfl rfl rfl rfl ?_
  refine jnS (fun w1 => ⟨[(0, .l (.d (.sl (a0.map Task.enc)))), (1, .l (.d (.int .i64 a1))), (24, .l (.d (.bool w1)))], 61, [], [], []⟩) h (fun k1 hk1 h => ?_) (fun w1 h => ?_)
  · refine caS (E := E_Bool) h (law05_Great_w a0) rfl (fun _ => rfl) (fun x2 h => ?_)
    refine fkS h (fun h => ?_) (fun h => ?_)
    · exact jeS hk1 h (Weak.refl _)
    refine caS (E := E_Bool) h (ref05_All_w a0) rfl (fun _ => rfl) (fun x3 h => ?_)
    refine fkS h (fun h => ?_) (fun h => ?_)
    · exact jeS hk1 h (Weak.refl _)
    refine fkS h (fun h => ?_) (fun h => ?_)
    · exact jeS hk1 h (Weak.refl _)
    exact jeS hk1 h (Weak.refl _)
  refine fkS h (fun h => ?_) (fun h => ?_)
  · refine caS (E := E_Bool) h law07_knows_w rfl (fun _ => rfl) (fun x4 h => ?_)
    exact rt (E := E_Bool) h rfl
  refine ccS (E := E_ListListInt) h (ref07_First_w a0 a1) rfl rfl (fun x5 h => ?_)
  refine caS (E := E_Int_Int) h (demand_Bound_w a0 a1) rfl (fun _ => rfl) (fun x6 h => ?_)
  refine caS (E := E_Int_Int) h (demand_Of_w a0 x5 (0 : Int) a1) rfl (fun _ => rfl) (fun x7 h => ?_)
  refine caS (E := E_Bool) h (demand_Legal_w a0 x5) rfl (fun _ => rfl) (fun x8 h => ?_)
  refine fkS h (fun h => ?_) (fun h => ?_)
  · refine fkS h (fun h => ?_) (fun h => ?_)
    · refine fkS h (fun h => ?_) (fun h => ?_)
      · refine fkS h (fun h => ?_) (fun h => ?_)
        · refine caS (E := E_Bool) h law07_knows_w rfl (fun _ => rfl) (fun x9 h => ?_)
          exact rt (E := E_Bool) h rfl
        exact rt (E := E_Bool) h rfl
      exact rt (E := E_Bool) h rfl
    exact rt (E := E_Bool) h rfl
  exact rt (E := E_Bool) h rfl

end Go.Proofs.Ytcgliccegpjnfaa
namespace Go.Proofs.Ytcgliccegpjnfaa
open Go Go.VC
def wfI (k : IntKind) (n : Int) : Prop := (Lit.int k n).wf = true
abbrev tyT := T
def Sec.wf (x : Sec) : Prop := wfI .i64 x.Res ∧ wfI .i64 x.At ∧ wfI .i64 x.Len
theorem Sec.of {n : Nat} {ds : List Go.VC.D} (h : ShD tyT n 70 ds) : ∃ x : Sec, ds = x.enc ∧ x.wf := by
  obtain ⟨m, q0⟩ := h.st T70
  clear h
  obtain ⟨d0, r0, e0, h0, q1⟩ := q0.c
  obtain ⟨y0, z0, w0⟩ := (h0.i T3)
  obtain ⟨d1, r1, e1, h1, q2⟩ := q1.c
  obtain ⟨y1, z1, w1⟩ := (h1.i T3)
  obtain ⟨d2, r2, e2, h2, q3⟩ := q2.c
  obtain ⟨y2, z2, w2⟩ := (h2.i T3)
  subst e0 z0 e1 z1 e2 z2
  cases q3
  exact ⟨⟨y0, y1, y2⟩, rfl, w0, w1, w2⟩
def Task.wf (x : Task) : Prop := wfI .i64 x.C ∧ wfI .i64 x.D ∧ wfI .i64 x.T ∧ (x.Secs.length * 24 ≤ BB ∧ ∀ y1 ∈ x.Secs, Sec.wf y1)
theorem Task.of {n : Nat} {ds : List Go.VC.D} (h : ShD tyT n 32 ds) : ∃ x : Task, ds = x.enc ∧ x.wf := by
  obtain ⟨m, q0⟩ := h.st T32
  clear h
  obtain ⟨d0, r0, e0, h0, q1⟩ := q0.c
  obtain ⟨y0, z0, w0⟩ := (h0.i T3)
  obtain ⟨d1, r1, e1, h1, q2⟩ := q1.c
  obtain ⟨y1, z1, w1⟩ := (h1.i T3)
  obtain ⟨d2, r2, e2, h2, q3⟩ := q2.c
  obtain ⟨y2, z2, w2⟩ := (h2.i T3)
  obtain ⟨d3, r3, e3, h3, q4⟩ := q3.c
  obtain ⟨y3, z3, w3⟩ := (h3.l (f := Sec.enc) (W := (fun x => Sec.wf x)) T30 T70 (fun _ _ h => (Sec.of h)))
  subst e0 z0 e1 z1 e2 z2 e3 z3
  cases q4
  exact ⟨⟨y0, y1, y2, y3⟩, rfl, w0, w1, w2, w3⟩
end Go.Proofs.Ytcgliccegpjnfaa
namespace Go.Proofs.Ytcgliccegpjnfaa
open Go Go.VC
def PureDemandFirst : Prop := ∀ (a0 : List Task) (a1 : Int), (a0.length * 48 ≤ BB ∧ ∀ y1 ∈ a0, Task.wf y1) → wfI .i64 a1 → law07_DemandFirst a0 a1 = some true
end Go.Proofs.Ytcgliccegpjnfaa
namespace Go.Proofs.Ytcgliccegpjnfaa
open Go Go.VC

/-! ### Tasks -/
def fitsP (a b : Sec) : Prop := a.At + a.Len ≤ b.At ∨ (a.At ≤ b.At ∧ b.At + b.Len ≤ a.At + a.Len ∧ a.Res ≠ b.Res)
def secP (C : Int) (s : Sec) : Prop := 0 ≤ s.Res ∧ s.Res < 4 ∧ 0 ≤ s.At ∧ s.At < C ∧ 1 ≤ s.Len ∧ s.Len ≤ C - s.At
def ownP (t : Task) : Prop := 1 ≤ t.C ∧ t.C ≤ t.D ∧ t.D ≤ t.T ∧ t.T ≤ 200 ∧ t.Secs.length ≤ 4
def RightP (t : Task) : Prop := ownP t ∧ (∀ s ∈ t.Secs, secP t.C s) ∧ t.Secs.Pairwise fitsP
instance (a b : Sec) : Decidable (fitsP a b) := by unfold fitsP; infer_instance
instance (C : Int) (s : Sec) : Decidable (secP C s) := by unfold secP; infer_instance
instance (t : Task) : Decidable (ownP t) := by unfold ownP; infer_instance
instance (t : Task) : Decidable (RightP t) := by unfold RightP; infer_instance
def right (t : Task) : Bool := decide (RightP t)

theorem task_own_eq (t : Task) : task_own t = some (decide (ownP t)) := by
  unfold task_own
  simp only [fk_if, decide_eq_true_eq]
  repeat' split
  · exact dec_iff (by unfold ownP; omega)
  all_goals exact dec_f (by unfold ownP; omega)

theorem task_may_eq (t : Task) (s : Sec) (h : ownP t) : task_may t s = some (decide (secP t.C s)) := by
  unfold ownP at h
  unfold task_may
  simp only [fk_if, decide_eq_true_eq]
  repeat' split
  · rw [wr_in _ (by omega)]
    exact dec_iff (by unfold secP; omega)
  all_goals exact dec_f (by unfold secP; omega)

theorem task_fits_eq (C : Int) (a b : Sec) (hC : C ≤ 200) (ha : secP C a) (hb : secP C b) : task_fits a b = some (decide (fitsP a b)) := by
  unfold secP at ha hb
  unfold task_fits
  rw [wr_in _ (by omega), wr_in _ (by omega)]
  simp only [fk_if, decide_eq_true_eq]
  repeat' split
  · exact dec_t (by unfold fitsP; omega)
  · exact dec_f (by unfold fitsP; omega)
  · exact dec_not (by unfold fitsP; omega)
  · exact dec_f (by unfold fitsP; omega)

theorem task_Right_eq (t : Task) : task_Right t = some (right t) := by
  unfold task_Right
  rw [bnd_eq (task_own_eq t)]
  by_cases ho : ownP t
  rotate_left
  · simp [ho, right, RightP, fk_if]
  simp only [ho, decide_true, Bool.not_true, fk_f]
  have hlen : t.Secs.length ≤ 4 := ho.2.2.2.2
  have hC : t.C ≤ 200 := by unfold ownP at ho; omega
  refine lp_up t.Secs.length (by unfold FU; omega) (fun k => (∀ j (h : j < t.Secs.length), j < k → secP t.C t.Secs[j]) ∧ (∀ i j (hi : i < t.Secs.length) (hj : j < t.Secs.length), i < j → j < k → fitsP t.Secs[i] t.Secs[j])) ⟨fun j _ h => by omega, fun i j _ _ _ h => by omega⟩ ?_
  rintro nx k hk ⟨J1, J2⟩ hnx
  rw [lt_nat]
  by_cases h : k < t.Secs.length
  · rw [decide_eq_true h, fk_t, ix_lt h, bnd_eq (task_may_eq t _ ho)]
    by_cases hs : secP t.C t.Secs[k]
    rotate_left
    · have : right t = false := decide_eq_false fun hr => hs (hr.2.1 _ (List.getElem_mem h))
      simp [hs, this, fk_if]
    simp only [hs, decide_true, Bool.not_true, fk_f]
    rw [ck_t (by simp; omega)]
    have e : (t.Secs.take (k : Int).toNat).drop (0 : Int).toNat = t.Secs.take k := by simp
    rw [e]
    have el : (t.Secs.take k).length = k := by simp; omega
    refine lp_up k (by unfold FU; omega) (fun j => ∀ i (hi : i < t.Secs.length), i < j → fitsP t.Secs[i] t.Secs[k]) (fun i _ h => by omega) ?_
    intro nx2 j hj J3 hnx2
    rw [el, lt_nat]
    by_cases h2 : j < k
    · have hjl : j < t.Secs.length := by omega
      rw [decide_eq_true h2, fk_t, ix_lt (by omega), List.getElem_take, bnd_eq (task_fits_eq t.C _ _ hC (J1 j hjl h2) hs)]
      by_cases hf : fitsP t.Secs[j] t.Secs[k]
      · rw [decide_eq_true hf, fk_t, wr_succ j k h2 (by omega)]
        refine hnx2 h2 fun i hi hij => ?_
        by_cases e : i = j
        · subst e; exact hf
        · exact J3 i hi (by omega)
      · have : right t = false := decide_eq_false fun hr => hf (List.pairwise_iff_getElem.1 hr.2.2 j k hjl h h2)
        rw [decide_eq_false hf, fk_f, this]; rfl
    · have hjk : j = k := by omega
      subst hjk
      rw [decide_eq_false h2, fk_f, wr_succ j _ h (by omega)]
      refine hnx h ⟨fun i hi hij => ?_, fun a b ha hb hab hbj => ?_⟩
      · by_cases e : i = j
        · subst e; exact hs
        · exact J1 i hi (by omega)
      · by_cases e : b = j
        · subst e; exact J3 a ha hab
        · exact J2 a b ha hb hab (by omega)
  · have hk2 : k = t.Secs.length := by omega
    rw [decide_eq_false h, fk_f]
    have : right t = true := decide_eq_true ⟨ho, fun s hs => by
      obtain ⟨j, hj, rfl⟩ := List.getElem_of_mem hs
      exact J1 j hj (by omega), List.pairwise_iff_getElem.2 fun i j hi hj hij => J2 i j hi hj hij (by omega)⟩
    rw [this]
    unfold ownP at ho
    simp; omega


def AllP (l : List Task) : Prop := (∀ t ∈ l, RightP t) ∧ l.length ≤ 8
instance (l : List Task) : Decidable (AllP l) := by unfold AllP; infer_instance
theorem right_t {t : Task} : right t = true ↔ RightP t := decide_eq_true_iff
theorem right_f {t : Task} : right t = false ↔ ¬ RightP t := decide_eq_false_iff_not

theorem task_All_eq (l : List Task) (hl : l.length ≤ 4611686018427387904) : task_All l = some (decide (AllP l)) := by
  unfold task_All
  refine lp_up l.length (by unfold FU; omega) (fun k => ∀ j (h : j < l.length), j < k → RightP l[j]) (fun j _ h => by omega) ?_
  intro nx k hk J hnx
  rw [lt_nat]
  by_cases h : k < l.length
  · rw [decide_eq_true h, fk_t, ix_lt h, bnd_eq (task_Right_eq _)]
    by_cases hr : RightP l[k]
    · rw [right_t.2 hr, Bool.not_true, fk_f, wr_succ k _ h hl]
      refine hnx h fun j hj hjk => ?_
      by_cases e : j = k
      · subst e; exact hr
      · exact J j hj (by omega)
    · rw [right_f.2 hr, Bool.not_false, fk_t]
      exact dec_f fun ha => hr (ha.1 _ (List.getElem_mem h))
  · rw [decide_eq_false h, fk_f]
    refine dec_iff ⟨fun h8 => ⟨fun t ht => ?_, by omega⟩, fun ha => by have := ha.2; omega⟩
    obtain ⟨j, hj, rfl⟩ := List.getElem_of_mem ht
    exact J j hj (by omega)

def holds (had : Int) (s : Sec) : Bool := decide (s.At < had) && decide (had < s.At + s.Len)
def heldL (had : Int) (l : List Sec) : List Int := (l.filter (holds had)).map (·.Res)
def held (t : Task) (had : Int) : List Int := if right t = true then heldL had t.Secs else []
theorem heldL_succ (had : Int) (l : List Sec) (i : Nat) (h : i < l.length) : heldL had (l.take (i + 1)) = heldL had (l.take i) ++ (if holds had l[i] = true then [l[i].Res] else []) := by
  rw [← List.take_append_getElem h, heldL, heldL, List.filter_append, List.map_append]
  congr 1
  by_cases e : holds had l[i] = true
  · rw [if_pos e, List.filter_cons_of_pos e]; rfl
  · rw [if_neg e, List.filter_cons_of_neg e]; rfl
theorem heldL_len (had : Int) (l : List Sec) : (heldL had l).length ≤ l.length := by
  rw [heldL, List.length_map]; exact List.length_filter_le _ _
theorem RightP.sec {t : Task} (h : RightP t) {k : Nat} (hk : k < t.Secs.length) : secP t.C t.Secs[k] := h.2.1 _ (List.getElem_mem hk)
theorem RightP.len {t : Task} (h : RightP t) : t.Secs.length ≤ 4 := h.1.2.2.2.2
theorem RightP.c {t : Task} (h : RightP t) : 1 ≤ t.C ∧ t.C ≤ t.D ∧ t.D ≤ t.T ∧ t.T ≤ 200 := ⟨h.1.1, h.1.2.1, h.1.2.2.1, h.1.2.2.2.1⟩

def usesP (t : Task) (res : Int) : Prop := RightP t ∧ ∃ s ∈ t.Secs, s.Res = res
instance (t : Task) (res : Int) : Decidable (usesP t res) := by unfold usesP; infer_instance
theorem ref05_Right_eq (t : Task) (hlt : t.Secs.length ≤ 4611686018427387904) : ref05_Right t = some (right t) := by
  unfold ref05_Right
  simp only [jn_eq, fk_t, fk_f]
  by_cases ho : ownP t
  rotate_left
  · have hr : right t = false := right_f.2 fun h => ho h.1
    by_cases c0 : t.C < 1
    · rw [decide_eq_true c0, fk_t, hr]
    rw [decide_eq_false c0, fk_f]
    by_cases c1 : t.D < t.C
    · rw [decide_eq_true c1, fk_t, hr]
    rw [decide_eq_false c1, fk_f]
    by_cases c2 : t.T < t.D
    · rw [decide_eq_true c2, fk_t, hr]
    rw [decide_eq_false c2, fk_f]
    by_cases c3 : t.T > 200
    · rw [decide_eq_true c3, fk_t, hr]
    rw [decide_eq_false c3, fk_f]
    by_cases c4 : (t.Secs.length : Int) > 4
    · rw [decide_eq_true c4, fk_t, hr]
    rw [decide_eq_false c4, fk_f]
    exact absurd (by unfold ownP; omega) ho
  have ho' := ho
  unfold ownP at ho'
  rw [decide_eq_false (by omega), fk_f, decide_eq_false (by omega), fk_f, decide_eq_false (by omega), fk_f, decide_eq_false (by omega), fk_f, decide_eq_false (by omega), fk_f]
  refine lp_up t.Secs.length (by unfold FU; omega) (fun k => (∀ j (h : j < t.Secs.length), j < k → secP t.C t.Secs[j]) ∧ (∀ i j (hi : i < t.Secs.length) (hj : j < t.Secs.length), i < j → j < k → fitsP t.Secs[i] t.Secs[j])) ⟨fun j _ h => by omega, fun i j _ _ _ h => by omega⟩ ?_
  rintro nx k hk ⟨J1, J2⟩ hnx
  rw [lt_nat]
  by_cases h : k < t.Secs.length
  rotate_left
  · rw [decide_eq_false h, fk_f]
    have : right t = true := right_t.2 ⟨ho, fun s hs => by
      obtain ⟨j, hj, rfl⟩ := List.getElem_of_mem hs
      exact J1 j hj (by omega), List.pairwise_iff_getElem.2 fun i j hi hj hij => J2 i j hi hj hij (by omega)⟩
    rw [this]
  rw [decide_eq_true h, fk_t, ix_lt h]
  have hn := hnx h
  clear hnx
  generalize hs : t.Secs[k] = s at *
  by_cases hsec : secP t.C s
  rotate_left
  · have hr : right t = false := right_f.2 fun hr => hsec (hs ▸ hr.2.1 _ (List.getElem_mem h))
    by_cases c0 : s.Res < 0
    · rw [decide_eq_true c0, fk_t, hr]
    rw [decide_eq_false c0, fk_f]
    by_cases c1 : s.Res > 3
    · rw [decide_eq_true c1, fk_t, hr]
    rw [decide_eq_false c1, fk_f]
    by_cases c2 : s.At < 0
    · rw [decide_eq_true c2, fk_t, hr]
    rw [decide_eq_false c2, fk_f]
    by_cases c3 : s.Len < 1
    · rw [decide_eq_true c3, fk_t, hr]
    rw [decide_eq_false c3, fk_f]
    by_cases c4 : s.At > t.C
    · rw [decide_eq_true c4, fk_t, hr]
    rw [decide_eq_false c4, fk_f]
    by_cases c5 : s.Len > t.C
    · rw [decide_eq_true c5, fk_t, hr]
    rw [decide_eq_false c5, fk_f]
    have hw : wr (s.At + s.Len) = s.At + s.Len := wr_in _ (by omega)
    rw [hw]
    by_cases c6 : s.At + s.Len > t.C
    · rw [decide_eq_true c6, fk_t, hr]
    exact absurd (by unfold secP; omega) hsec
  have hsec' := hsec
  unfold secP at hsec'
  have hw : wr (s.At + s.Len) = s.At + s.Len := wr_in _ (by omega)
  rw [hw]
  rw [decide_eq_false (by omega), fk_f, decide_eq_false (by omega), fk_f, decide_eq_false (by omega), fk_f, decide_eq_false (by omega), fk_f, decide_eq_false (by omega), fk_f, decide_eq_false (by omega), fk_f, decide_eq_false (by omega), fk_f]
  refine lp_up k (by unfold FU; omega) (fun j => ∀ i (hi : i < t.Secs.length), i < j → fitsP t.Secs[i] s) (fun i _ h => by omega) ?_
  intro nx2 j hj J3 hnx2
  rw [lt_nat]
  by_cases h2 : j < k
  rotate_left
  · have hjk : j = k := by omega
    subst hjk
    rw [decide_eq_false h2, fk_f, wr_succ j _ h (by omega)]
    refine hn ⟨fun i hi hij => ?_, fun a b ha hb hab hbj => ?_⟩
    · by_cases e : i = j
      · subst e; rw [hs]; exact hsec
      · exact J1 i hi (by omega)
    · by_cases e : b = j
      · subst e; rw [hs]; exact J3 a ha hab
      · exact J2 a b ha hb hab (by omega)
  have hjl : j < t.Secs.length := by omega
  rw [decide_eq_true h2, fk_t, ix_lt hjl]
  have ha := J1 j hjl h2
  have good : fitsP t.Secs[j] s → nx2 (wr ((j : Int) + 1)) = some (right t) := fun hf => by
    rw [wr_succ j k h2 (by omega)]
    refine hnx2 h2 fun i hi hij => ?_
    by_cases e : i = j
    · subst e; exact hf
    · exact J3 i hi (by omega)
  have bad : ¬ fitsP t.Secs[j] s → some false = some (right t) := fun hf => by
    rw [right_f.2 fun hr => hf (hs ▸ List.pairwise_iff_getElem.1 hr.2.2 j k hjl h h2)]
  generalize t.Secs[j] = a at *
  unfold secP at ha
  have hwa : wr (a.At + a.Len) = a.At + a.Len := wr_in _ (by omega)
  rw [hwa]
  have ticks : a.At ≤ s.At → lp (fun nx8 (v8 : Int × Int × Int) => fk (decide (v8.2.2 < s.At + s.Len)) (fk (decide (v8.2.2 < a.At + a.Len)) (nx8 (wr (v8.1 + 1), v8.2.1, wr (v8.2.2 + 1))) (nx8 (v8.1, wr (v8.2.1 + 1), wr (v8.2.2 + 1))))
      (fk (decide (v8.1 > 0)) (fk (decide (v8.2.1 > 0)) (some false) (fk (decide (a.Res = s.Res)) (some false) (nx2 (wr ((j : Int) + 1))))) (nx2 (wr ((j : Int) + 1))))) FU (0, 0, s.At) = some (right t) := by
    intro hle
    refine lp_inv (fun v => (s.At + s.Len - v.2.2).toNat) (fun v => s.At ≤ v.2.2 ∧ v.2.2 ≤ s.At + s.Len ∧ v.1 = max 0 (min v.2.2 (a.At + a.Len) - s.At) ∧ v.2.1 = v.2.2 - s.At - v.1) ?_ FU _ ⟨by simp, by simp; omega, by simp; omega, by simp⟩ (by simp only [FU]; omega)
    rintro nx8 ⟨m, o, q⟩ ⟨i1, i2, i3, i4⟩ hn8
    simp only at i1 i2 i3 i4
    by_cases c1 : q < s.At + s.Len
    · rw [decide_eq_true c1, fk_t]
      by_cases c2 : q < a.At + a.Len
      · rw [decide_eq_true c2, fk_t, wr_in (m + 1) (by omega), wr_in (q + 1) (by omega)]
        exact hn8 _ ⟨by simp only; omega, by simp only; omega, by simp only; omega, by simp only; omega⟩ (by simp only; omega)
      · rw [decide_eq_false c2, fk_f, wr_in (o + 1) (by omega), wr_in (q + 1) (by omega)]
        exact hn8 _ ⟨by simp only; omega, by simp only; omega, by simp only; omega, by simp only; omega⟩ (by simp only; omega)
    · rw [decide_eq_false c1, fk_f]
      by_cases c3 : m > 0
      · rw [decide_eq_true c3, fk_t]
        by_cases c4 : o > 0
        · rw [decide_eq_true c4, fk_t]; exact bad (by unfold fitsP; omega)
        · rw [decide_eq_false c4, fk_f]
          by_cases c5 : a.Res = s.Res
          · rw [decide_eq_true c5, fk_t]; exact bad (by unfold fitsP; omega)
          · rw [decide_eq_false c5, fk_f]; exact good (by unfold fitsP; omega)
      · rw [decide_eq_false c3, fk_f]; exact good (by unfold fitsP; omega)
  by_cases d1 : s.At < a.At
  · rw [decide_eq_true d1, fk_t]; exact bad (by unfold fitsP; omega)
  · rw [decide_eq_false d1, fk_f]
    by_cases d2 : s.At = a.At
    · rw [decide_eq_true d2, fk_t]
      by_cases d3 : s.Len > a.Len
      · rw [decide_eq_true d3, fk_t]; exact bad (by unfold fitsP; omega)
      · rw [decide_eq_false d3, fk_f]; exact ticks (by omega)
    · rw [decide_eq_false d2, fk_f]; exact ticks (by omega)


theorem eqI_sec (x y : Sec) : eqI [(.i64, x.Res), (.i64, x.At), (.i64, x.Len)] [(.i64, y.Res), (.i64, y.At), (.i64, y.Len)] = decide (x = y) := by
  unfold eqI
  rw [decide_eq_decide]
  cases x; cases y; simp

theorem ref05_All_eq (l : List Task) (hl : l.length ≤ 4611686018427387904) (hs : ∀ t ∈ l, t.Secs.length ≤ 4611686018427387904) : ref05_All l = some (decide (AllP l)) := by
  unfold ref05_All
  refine lp_upS l.length (by unfold FU; omega) (fun k n => ∃ m : Nat, n = (m : Int) ∧ m ≤ k ∧ ((m = k) ↔ ∀ j (h : j < l.length), j < k → RightP l[j])) 0 ⟨0, rfl, Nat.le_refl _, by simp⟩ ?_
  rintro nx k n hk ⟨m, rfl, hm, J⟩ hnx
  rw [lt_nat]
  by_cases h : k < l.length
  · rw [decide_eq_true h, fk_t, jn_eq, ix_lt h, bnd_eq (ref05_Right_eq _ (hs _ (List.getElem_mem h)))]
    rw [wr_succ k _ h hl, wr_in ((m : Int) + 1) (by omega)]
    by_cases hr : RightP l[k]
    · rw [right_t.2 hr, fk_t]
      refine hnx _ h ⟨m + 1, rfl, by omega, ?_⟩
      constructor
      · intro e j hj hjk
        by_cases e2 : j = k
        · subst e2; exact hr
        · exact J.1 (by omega) j hj (by omega)
      · intro ha
        have := J.2 fun j hj hjk => ha j hj (by omega)
        omega
    · rw [right_f.2 hr, fk_f]
      refine hnx _ h ⟨m, rfl, by omega, ?_⟩
      constructor
      · intro e; omega
      · intro ha; exact absurd (ha k h (by omega)) hr
  · have hkl : k = l.length := by omega
    subst hkl
    rw [decide_eq_false h, fk_f]
    have key : (m = l.length) ↔ ∀ t ∈ l, RightP t := by
      rw [J]
      constructor
      · intro ha t ht
        obtain ⟨j, hj, rfl⟩ := List.getElem_of_mem ht
        exact ha j hj hj
      · intro ha j hj _; exact ha _ (List.getElem_mem hj)
    by_cases e : m = l.length
    · rw [decide_eq_true (by omega), fk_t]
      exact dec_iff ⟨fun h8 => ⟨key.1 e, by omega⟩, fun ha => by have := ha.2; omega⟩
    · rw [decide_eq_false (by omega), fk_f]
      exact dec_f fun ha => e (key.2 ha.1)

theorem secs_eq {a b : Task} : a = b ↔ a.C = b.C ∧ a.D = b.D ∧ a.T = b.T ∧ a.Secs = b.Secs := by
  cases a; cases b; simp

def GreatP (l : List Task) : Prop := (∃ t ∈ l, 20 < t.Secs.length) ∨ 20 < l.length
instance (l : List Task) : Decidable (GreatP l) := by unfold GreatP; infer_instance
theorem law05_Great_eq (l : List Task) (hl : l.length ≤ 4611686018427387904) : law05_Great l = some (decide (GreatP l)) := by
  unfold law05_Great
  refine lp_up l.length (by unfold FU; omega) (fun k => ∀ j (h : j < l.length), j < k → l[j].Secs.length ≤ 20) (fun j _ h => by omega) ?_
  intro nx k hk J hnx
  rw [lt_nat]
  by_cases h : k < l.length
  · rw [decide_eq_true h, fk_t, ix_lt h]
    by_cases e : (l[k].Secs.length : Int) > 20
    · rw [decide_eq_true e, fk_t]; exact dec_t (.inl ⟨_, List.getElem_mem h, by omega⟩)
    · rw [decide_eq_false e, fk_f, wr_succ k _ h hl]
      refine hnx h fun j hj hjk => ?_
      by_cases e2 : j = k
      · subst e2; omega
      · exact J j hj (by omega)
  · rw [decide_eq_false h, fk_f]
    refine dec_iff ⟨fun h20 => .inr (by omega), ?_⟩
    rintro (⟨t, ht, h20⟩ | h20)
    · obtain ⟨j, hj, rfl⟩ := List.getElem_of_mem ht
      have := J j hj (by omega)
      omega
    · omega

theorem wf_len {l : List Task} {n : Nat} (h : l.length * 48 ≤ n) (hn : n ≤ BB) : l.length ≤ 4611686018427387904 := by unfold BB at hn; omega
theorem Task.wf.len {t : Task} (h : t.wf) : t.Secs.length ≤ 4611686018427387904 := by have := h.2.2.2.1; unfold BB at this; omega
theorem wfI_64 {n : Int} (h : wfI .i64 n) : -9223372036854775808 ≤ n ∧ n ≤ 9223372036854775807 := by
  unfold wfI at h
  simp only [Lit.wf, Bool.and_eq_true, decide_eq_true_eq] at h
  have h1 : IntKind.i64.min = -9223372036854775808 := rfl
  have h2 : IntKind.i64.max = 9223372036854775807 := rfl
  rwa [h1, h2] at h
theorem wfI_8 {n : Int} (h : wfI .u8 n) : 0 ≤ n ∧ n ≤ 255 := by
  unfold wfI at h
  simp only [Lit.wf, Bool.and_eq_true, decide_eq_true_eq] at h
  have h1 : IntKind.u8.min = 0 := rfl
  have h2 : IntKind.u8.max = 255 := rfl
  rwa [h1, h2] at h


theorem held_right {t : Task} (h : RightP t) (had : Int) : held t had = heldL had t.Secs := by rw [held, right_t.2 h, if_pos rfl]
theorem held_len (t : Task) (had : Int) (h : RightP t) : (held t had).length ≤ 4 := by
  rw [held_right h]; exact Nat.le_trans (heldL_len _ _) h.len
theorem holds_iff {had : Int} {s : Sec} : holds had s = true ↔ s.At < had ∧ had < s.At + s.Len := by
  unfold holds; simp
theorem held_nodup {t : Task} (h : RightP t) (had : Int) : (held t had).Nodup := by
  rw [held_right h, heldL, List.Nodup, List.pairwise_map]
  have hp := (h.2.2).filter (holds had)
  refine hp.imp_of_mem ?_
  intro a b ha hb hf
  have h1 := holds_iff.1 (List.mem_filter.1 ha).2
  have h2 := holds_iff.1 (List.mem_filter.1 hb).2
  unfold fitsP at hf
  omega
theorem held_mem {t : Task} (h : RightP t) {had r : Int} (hr : r ∈ held t had) : ∃ s ∈ t.Secs, s.Res = r ∧ s.At < had ∧ had < s.At + s.Len := by
  rw [held_right h, heldL] at hr
  obtain ⟨s, hs, rfl⟩ := List.mem_map.1 hr
  obtain ⟨h1, h2⟩ := List.mem_filter.1 hs
  exact ⟨s, h1, rfl, holds_iff.1 h2⟩
theorem held_uses {t : Task} (h : RightP t) {had r : Int} (hr : r ∈ held t had) : usesP t r := by
  obtain ⟨s, hs, e, _⟩ := held_mem h hr
  exact ⟨h, s, hs, e⟩
theorem held_out {t : Task} (h : RightP t) {had : Int} (ho : had ≤ 0 ∨ t.C ≤ had) : held t had = [] := by
  rw [List.eq_nil_iff_forall_not_mem]
  intro r hr
  obtain ⟨s, hs, e, h1, h2⟩ := held_mem h hr
  have := h.2.1 s hs
  unfold secP at this
  omega

theorem idx_u8 {l : List Task} {a : Int} (ha : wfI .u8 a) (hl : l.length ≤ 4611686018427387904) (h0 : l.length ≠ 0) : 0 ≤ (IntKind.i64.wrap a).tmod (l.length : Int) ∧ ((IntKind.i64.wrap a).tmod (l.length : Int)).toNat < l.length := by
  have := wfI_8 ha
  have e : IntKind.i64.wrap a = a := wr_in a (by omega)
  rw [e, Int.tmod_eq_emod_of_nonneg (by omega)]
  have h1 := Int.emod_nonneg a (b := (l.length : Int)) (by omega)
  have h2 := Int.emod_lt_of_pos a (b := (l.length : Int)) (by omega)
  omega
theorem knows_if (b : Bool) : fk b (some true) (some true) = some true := by cases b <;> rfl

end Go.Proofs.Ytcgliccegpjnfaa
namespace Go.Proofs.Ytcgliccegpjnfaa
open Go Go.VC
noncomputable def ref07_Bound (a0 : List Task) (a1 : Int) : Option Int :=
  lp (fun nx1 (v1 : Int × Int) => fk (decide (v1.2 < (a0.length : Int))) (ix a0 v1.2 fun x2 => lp (fun nx3 (v3 : Int × Int) => fk (decide (v3.2 ≤ a1)) (ix a0 v1.2 fun x4 => ix a0 v1.2 fun x5 => nx3 ((wr (v3.1 + x4.C)), (wr (v3.2 + x5.T)))) (nx1 (v3.1, (wr (v1.2 + (1 : Int)))))) FU (v1.1, x2.D)) (some v1.1)) FU ((0 : Int), (0 : Int))
theorem ref07_Bound_w (a0 : List Task) (a1 : Int) (r : Int) (h : ref07_Bound a0 a1 = some r) : Go.VC.Spec Try.prog 19 [.d (.sl (a0.map Task.enc)), .d (.int .i64 a1)] (fun y => y = E_Int r) := by
  refine Go.VC.Spec.of_xc (args := [.d (.sl (a0.map Task.enc)), .d (.int .i64 a1)]) (fn := Try.f19) tab ⟨[(0, [0, 1]), (1, [0, 1, 5]), (2, [0, 1, 5, 6]), (3, [0, 1, 5, 6, 11]), (4, [0, 1, 5, 6]), (5, [0, 1, 5, 6, 7]), (6, [0, 1, 5, 6, 7, 21]), (7, [0, 1, 5, 6, 7]), (8, [0, 1, 5, 6, 7]), (9, [4])], [], [], []⟩ 37 [.tmp 4] rfl rfl rfl rfl rfl rfl ?_
  refine lpS (fun v1 => ⟨[(0, .l (.d (.sl (a0.map Task.enc)))), (1, .l (.d (.int .i64 a1))), (5, .l (.d (.int .i64 v1.1))), (6, .l (.d (.int .i64 v1.2)))], 37, [], [], []⟩) h (Weak.refl _) (fun _ nx1 hn1 v1 h => ?_)
  refine lenS a0 Task.enc rfl ?_
  refine fkS h (fun h => ?_) (fun h => ?_)
  · refine ixS (enc := Task.enc) h rfl (fun _ => rfl) (fun x2 h => ?_)
    refine lpS (fun v3 => ⟨[(0, .l (.d (.sl (a0.map Task.enc)))), (1, .l (.d (.int .i64 a1))), (5, .l (.d (.int .i64 v3.1))), (6, .l (.d (.int .i64 v1.2))), (7, .l (.d (.int .i64 v3.2)))], 37, [], [], []⟩) h (Weak.refl _) (fun _ nx3 hn3 v3 h => ?_)
    refine fkS h (fun h => ?_) (fun h => ?_)
    · refine ixS (enc := Task.enc) h rfl (fun _ => rfl) (fun x4 h => ?_)
      refine ixS (enc := Task.enc) h rfl (fun _ => rfl) (fun x5 h => ?_)
      exact leS hn3 h (Weak.refl _)
    exact leS hn1 h (Weak.refl _)
  exact rt (E := E_Int) h rfl

end Go.Proofs.Ytcgliccegpjnfaa
namespace Go.Proofs.Ytcgliccegpjnfaa
open Go Go.VC
noncomputable def law07_DemandBounds (a0 : List Task) (a1 : Int) : Option Bool :=
  jn (fun (w1 : Bool) => fk w1 (bnd law07_knows fun x3 => some x3) (bnd (demand_Bound a0 a1) fun x4 => jn (fun (w5 : Bool) => fk w5 (fk (decide (x4.1 = (0 : Int))) (fk (decide (x4.2 = (1 : Int))) (bnd law07_knows fun x7 => some x7) (some false)) (some false)) (bnd (ref07_Bound a0 a1) fun x8 => fk (decide (x4.1 = x8)) (fk (decide (x4.2 = (0 : Int))) (bnd law07_knows fun x9 => some x9) (some false)) (some false))) (fun k5 => bnd (ref05_All a0) fun x6 => fk (!x6) (k5 true) (fk (decide (a1 < (0 : Int))) (k5 true) (k5 (decide (a1 > (4611686018427387903 : Int)))))))) (fun k1 => bnd (law05_Great a0) fun x2 => fk x2 (k1 true) (fk (decide (a1 > (5000 : Int))) (k1 (decide (a1 ≤ (4611686018427387903 : Int)))) (k1 false)))
theorem law07_DemandBounds_w (a0 : List Task) (a1 : Int) (r : Bool) (h : law07_DemandBounds a0 a1 = some r) : Go.VC.Spec Try.prog 3 [.d (.sl (a0.map Task.enc)), .d (.int .i64 a1)] (fun y => y = E_Bool r) := by
  refine Go.VC.Spec.of_xc (args := [.d (.sl (a0.map Task.enc)), .d (.int .i64 a1)]) (fn := Try.f3) tab ⟨[(0, [0, 1]), (1, [0, 1, 16]), (2, [4]), (3, [0, 1, 5, 6]), (4, [0, 1, 5, 6, 34]), (5, [4]), (6, [4])], [], [100016, 100034], []⟩ 56 [.tmp 4] rfl rfl rfl rfl rfl rfl ?_
  refine jnS (fun w1 => ⟨[(0, .l (.d (.sl (a0.map Task.enc)))), (1, .l (.d (.int .i64 a1))), (16, .l (.d (.bool w1)))], 56, [], [], []⟩) h (fun k1 hk1 h => ?_) (fun w1 h => ?_)
  · refine caS (E := E_Bool) h (law05_Great_w a0) rfl (fun _ => rfl) (fun x2 h => ?_)
    refine fkS h (fun h => ?_) (fun h => ?_)
    · exact jeS hk1 h (Weak.refl _)
    refine fkS h (fun h => ?_) (fun h => ?_)
    · exact jeS hk1 h (Weak.refl _)
    exact jeS hk1 h (Weak.refl _)
  refine fkS h (fun h => ?_) (fun h => ?_)
  · refine caS (E := E_Bool) h law07_knows_w rfl (fun _ => rfl) (fun x3 h => ?_)
    exact rt (E := E_Bool) h rfl
  refine caS (E := E_Int_Int) h (demand_Bound_w a0 a1) rfl (fun _ => rfl) (fun x4 h => ?_)
  refine jnS (fun w5 => ⟨[(0, .l (.d (.sl (a0.map Task.enc)))), (1, .l (.d (.int .i64 a1))), (5, .l (.d (.int .i64 x4.1))), (6, .l (.d (.int .i64 x4.2))), (34, .l (.d (.bool w5)))], 56, [], [], []⟩) h (fun k5 hk5 h => ?_) (fun w5 h => ?_)
  · refine caS (E := E_Bool) h (ref05_All_w a0) rfl (fun _ => rfl) (fun x6 h => ?_)
    refine fkS h (fun h => ?_) (fun h => ?_)
    · exact jeS hk5 h (Weak.refl _)
    refine fkS h (fun h => ?_) (fun h => ?_)
    · exact jeS hk5 h (Weak.refl _)
    exact jeS hk5 h (Weak.refl _)
  refine fkS h (fun h => ?_) (fun h => ?_)
  · refine fkS h (fun h => ?_) (fun h => ?_)
    · refine fkS h (fun h => ?_) (fun h => ?_)
      · refine caS (E := E_Bool) h law07_knows_w rfl (fun _ => rfl) (fun x7 h => ?_)
        exact rt (E := E_Bool) h rfl
      exact rt (E := E_Bool) h rfl
    exact rt (E := E_Bool) h rfl
  refine caS (E := E_Int) h (ref07_Bound_w a0 a1) rfl (fun _ => rfl) (fun x8 h => ?_)
  refine fkS h (fun h => ?_) (fun h => ?_)
  · refine fkS h (fun h => ?_) (fun h => ?_)
    · refine caS (E := E_Bool) h law07_knows_w rfl (fun _ => rfl) (fun x9 h => ?_)
      exact rt (E := E_Bool) h rfl
    exact rt (E := E_Bool) h rfl
  exact rt (E := E_Bool) h rfl

end Go.Proofs.Ytcgliccegpjnfaa
namespace Go.Proofs.Ytcgliccegpjnfaa
open Go Go.VC
noncomputable def law07_DemandLarge (a0 : Task) (a1 : Int) : Option Bool :=
  jn (fun (w1 : Bool) => fk w1 (bnd law07_knows fun x3 => some x3) (bnd (demand_Bound ([a0] : List Task) a1) fun x4 => bnd (demand_Bound ([a0] : List Task) (wr (a1 + a0.T))) fun x5 => fk (decide (x5.2 = (5 : Int))) (fk (decide (x5.1 = (0 : Int))) (fk (decide (x4.2 = (0 : Int))) (bnd law07_knows fun x6 => some x6) (fk (decide (x4.2 = (5 : Int))) (bnd law07_knows fun x7 => some x7) (some false))) (some false)) (fk (decide (x4.2 = (0 : Int))) (fk (decide (x5.2 = (0 : Int))) (fk (decide (x5.1 = (wr (x4.1 + a0.C)))) (fk (decide (x4.1 ≥ a0.C)) (bnd law07_knows fun x8 => some x8) (some false)) (some false)) (some false)) (some false)))) (fun k1 => bnd (ref05_All ([a0] : List Task)) fun x2 => fk (!x2) (k1 true) (fk (decide (a1 < a0.D)) (k1 true) (k1 (decide (a1 > (wr ((4611686018427387903 : Int) - a0.T)))))))
theorem law07_DemandLarge_w (a0 : Task) (a1 : Int) (r : Bool) (h : law07_DemandLarge a0 a1 = some r) : Go.VC.Spec Try.prog 4 [.agg (Task.enc a0), .d (.int .i64 a1)] (fun y => y = E_Bool r) := by
  refine Go.VC.Spec.of_xc (args := [.agg (Task.enc a0), .d (.int .i64 a1)]) (fn := Try.f4) tab ⟨[(0, [1, 2]), (1, [1, 2, 5]), (2, [1, 2, 5, 27]), (3, [4]), (4, [1, 2, 5, 6, 7]), (5, [2, 6, 7, 8, 9]), (6, [2, 6, 7, 8, 9, 45]), (7, [4]), (8, [4])], [], [100027], []⟩ 82 [.tmp 4] rfl rfl rfl rfl rfl rfl ?_
  refine liS ([a0] : List Task) Task.enc rfl rfl ?_
  refine jnS (fun w1 => ⟨[(1, .l (.d (.int .i64 a1))), (2, .l (.ptr 3 0)), (5, .l (.own 6)), (27, .l (.d (.bool w1)))], 82, [], [(3, [.d (.int .i64 a0.C), .d (.int .i64 a0.D), .d (.int .i64 a0.T), .d (.sl (a0.Secs.map Sec.enc))])], [(6, 32, 4, ([a0] : List Task).map Task.enc)]⟩) h (fun k1 hk1 h => ?_) (fun w1 h => ?_)
  · refine caS (E := E_Bool) h (ref05_All_w ([a0] : List Task)) rfl (fun _ => rfl) (fun x2 h => ?_)
    refine fkS h (fun h => ?_) (fun h => ?_)
    · exact jeS hk1 h (Weak.refl _)
    refine fkS h (fun h => ?_) (fun h => ?_)
    · exact jeS hk1 h (Weak.refl _)
    exact jeS hk1 h (Weak.refl _)
  refine fkS h (fun h => ?_) (fun h => ?_)
  · refine caS (E := E_Bool) h law07_knows_w rfl (fun _ => rfl) (fun x3 h => ?_)
    exact rt (E := E_Bool) h rfl
  refine caS (E := E_Int_Int) h (demand_Bound_w ([a0] : List Task) a1) rfl (fun _ => rfl) (fun x4 h => ?_)
  refine caS (E := E_Int_Int) h (demand_Bound_w ([a0] : List Task) (wr (a1 + a0.T))) rfl (fun _ => rfl) (fun x5 h => ?_)
  refine fkS h (fun h => ?_) (fun h => ?_)
  · refine fkS h (fun h => ?_) (fun h => ?_)
    · refine fkS h (fun h => ?_) (fun h => ?_)
      · refine caS (E := E_Bool) h law07_knows_w rfl (fun _ => rfl) (fun x6 h => ?_)
        exact rt (E := E_Bool) h rfl
      refine fkS h (fun h => ?_) (fun h => ?_)
      · refine caS (E := E_Bool) h law07_knows_w rfl (fun _ => rfl) (fun x7 h => ?_)
        exact rt (E := E_Bool) h rfl
      exact rt (E := E_Bool) h rfl
    exact rt (E := E_Bool) h rfl
  refine fkS h (fun h => ?_) (fun h => ?_)
  · refine fkS h (fun h => ?_) (fun h => ?_)
    · refine fkS h (fun h => ?_) (fun h => ?_)
      · refine fkS h (fun h => ?_) (fun h => ?_)
        · refine caS (E := E_Bool) h law07_knows_w rfl (fun _ => rfl) (fun x8 h => ?_)
          exact rt (E := E_Bool) h rfl
        exact rt (E := E_Bool) h rfl
      exact rt (E := E_Bool) h rfl
    exact rt (E := E_Bool) h rfl
  exact rt (E := E_Bool) h rfl

end Go.Proofs.Ytcgliccegpjnfaa
namespace Go.Proofs.Ytcgliccegpjnfaa
open Go Go.VC
noncomputable def law07_DemandRises (a0 : List Task) (a1 : Int) (a2 : Int) (a3 : Int) : Option Bool :=
  jn (fun (w1 : Bool) => fk w1 (bnd law07_knows fun x4 => some x4) (ck (decide ((wr ((a0.length : Int) + (1 : Int))) ≠ 0)) (bnd (demand_Bound a0 a1) fun x5 => bnd (demand_Bound a0 a2) fun x6 => ck (decide ((0 : Int) ≤ (0 : Int)) && decide ((0 : Int) ≤ ((IntKind.i64.wrap a3).tmod (wr ((a0.length : Int) + (1 : Int))))) && decide (((IntKind.i64.wrap a3).tmod (wr ((a0.length : Int) + (1 : Int)))) ≤ (a0.length : Int))) (bnd (demand_Bound ((a0.take ((IntKind.i64.wrap a3).tmod (wr ((a0.length : Int) + (1 : Int)))).toNat).drop (0 : Int).toNat) a1) fun x7 => ck (decide ((0 : Int) ≤ ((IntKind.i64.wrap a3).tmod (wr ((a0.length : Int) + (1 : Int))))) && decide (((IntKind.i64.wrap a3).tmod (wr ((a0.length : Int) + (1 : Int)))) ≤ (a0.length : Int)) && decide ((a0.length : Int) ≤ (a0.length : Int))) (bnd (demand_Bound ((a0.take (a0.length : Int).toNat).drop ((IntKind.i64.wrap a3).tmod (wr ((a0.length : Int) + (1 : Int)))).toNat) a1) fun x8 => fk (decide (x5.1 ≤ x6.1)) (fk (decide (x7.1 ≤ x5.1)) (fk (decide ((wr (x7.1 + x8.1)) = x5.1)) (bnd law07_knows fun x9 => some x9) (some false)) (some false)) (some false)))))) (fun k1 => bnd (law05_Great a0) fun x2 => fk x2 (k1 true) (bnd (ref05_All a0) fun x3 => fk (!x3) (k1 true) (fk (decide (a1 < (0 : Int))) (k1 true) (fk (decide (a2 < a1)) (k1 true) (k1 (decide (a2 > (5000 : Int))))))))
theorem law07_DemandRises_w (a0 : List Task) (a1 : Int) (a2 : Int) (a3 : Int) (r : Bool) (h : law07_DemandRises a0 a1 a2 a3 = some r) : Go.VC.Spec Try.prog 8 [.d (.sl (a0.map Task.enc)), .d (.int .i64 a1), .d (.int .i64 a2), .d (.int .u8 a3)] (fun y => y = E_Bool r) := by
  refine Go.VC.Spec.of_xc (args := [.d (.sl (a0.map Task.enc)), .d (.int .i64 a1), .d (.int .i64 a2), .d (.int .u8 a3)]) (fn := Try.f8) tab ⟨[(0, [0, 1, 2, 3]), (1, [0, 1, 2, 3, 37]), (2, [8]), (3, [0, 1, 2, 9]), (4, [0, 1, 2, 9, 10]), (5, [0, 1, 9, 10, 12]), (6, [0, 1, 9, 10, 12, 14]), (7, [10, 12, 14, 16]), (8, [8])], [], [100037], []⟩ 91 [.tmp 8] rfl rfl rfl rfl rfl rfl ?_
  refine jnS (fun w1 => ⟨[(0, .l (.d (.sl (a0.map Task.enc)))), (1, .l (.d (.int .i64 a1))), (2, .l (.d (.int .i64 a2))), (3, .l (.d (.int .u8 a3))), (37, .l (.d (.bool w1)))], 91, [], [], []⟩) h (fun k1 hk1 h => ?_) (fun w1 h => ?_)
  · refine caS (E := E_Bool) h (law05_Great_w a0) rfl (fun _ => rfl) (fun x2 h => ?_)
    refine fkS h (fun h => ?_) (fun h => ?_)
    · exact jeS hk1 h (Weak.refl _)
    refine caS (E := E_Bool) h (ref05_All_w a0) rfl (fun _ => rfl) (fun x3 h => ?_)
    refine fkS h (fun h => ?_) (fun h => ?_)
    · exact jeS hk1 h (Weak.refl _)
    refine fkS h (fun h => ?_) (fun h => ?_)
    · exact jeS hk1 h (Weak.refl _)
    refine fkS h (fun h => ?_) (fun h => ?_)
    · exact jeS hk1 h (Weak.refl _)
    exact jeS hk1 h (Weak.refl _)
  refine fkS h (fun h => ?_) (fun h => ?_)
  · refine caS (E := E_Bool) h law07_knows_w rfl (fun _ => rfl) (fun x4 h => ?_)
    exact rt (E := E_Bool) h rfl
  refine lenS a0 Task.enc rfl ?_
  refine dvS h (fun h => ?_)
  refine caS (E := E_Int_Int) h (demand_Bound_w a0 a1) rfl (fun _ => rfl) (fun x5 h => ?_)
  refine caS (E := E_Int_Int) h (demand_Bound_w a0 a2) rfl (fun _ => rfl) (fun x6 h => ?_)
  refine slS (enc := Task.enc) h rfl rfl (.inl rfl) (fun _ => rfl) (fun h => ?_)
  refine caS (E := E_Int_Int) h (demand_Bound_w ((a0.take ((IntKind.i64.wrap a3).tmod (wr ((a0.length : Int) + (1 : Int)))).toNat).drop (0 : Int).toNat) a1) rfl (fun _ => rfl) (fun x7 h => ?_)
  refine slS (enc := Task.enc) h rfl rfl (.inl rfl) (fun _ => rfl) (fun h => ?_)
  refine caS (E := E_Int_Int) h (demand_Bound_w ((a0.take (a0.length : Int).toNat).drop ((IntKind.i64.wrap a3).tmod (wr ((a0.length : Int) + (1 : Int)))).toNat) a1) rfl (fun _ => rfl) (fun x8 h => ?_)
  refine fkS h (fun h => ?_) (fun h => ?_)
  · refine fkS h (fun h => ?_) (fun h => ?_)
    · refine fkS h (fun h => ?_) (fun h => ?_)
      · refine caS (E := E_Bool) h law07_knows_w rfl (fun _ => rfl) (fun x9 h => ?_)
        exact rt (E := E_Bool) h rfl
      exact rt (E := E_Bool) h rfl
    exact rt (E := E_Bool) h rfl
  exact rt (E := E_Bool) h rfl

end Go.Proofs.Ytcgliccegpjnfaa
namespace Go.Proofs.Ytcgliccegpjnfaa
open Go Go.VC
noncomputable def law07_great (a0 : List Task) (a1 : List (List Int)) : Option Bool :=
  lp (fun nx1 (v1 : Int) => fk (decide (v1 < (a1.length : Int))) (ix a1 v1 fun x2 => fk (decide ((x2.length : Int) > (1100 : Int))) (some true) (nx1 (wr (v1 + (1 : Int))))) (bnd (law05_Great a0) fun x3 => fk x3 (some true) (some (decide ((a1.length : Int) > (20 : Int)))))) FU (0 : Int)
theorem law07_great_w (a0 : List Task) (a1 : List (List Int)) (r : Bool) (h : law07_great a0 a1 = some r) : Go.VC.Spec Try.prog 20 [.d (.sl (a0.map Task.enc)), .d (.sl (a1.map (eL (eI .i64))))] (fun y => y = E_Bool r) := by
  refine Go.VC.Spec.of_xc (args := [.d (.sl (a0.map Task.enc)), .d (.sl (a1.map (eL (eI .i64))))]) (fn := Try.f20) tab ⟨[(0, [0, 1]), (1, [0, 1, 5]), (2, [0, 1, 5, 9]), (3, [0, 1, 5]), (4, [0, 1, 5, 17]), (5, [4]), (6, [4])], [], [], []⟩ 25 [.tmp 4] rfl rfl rfl rfl rfl rfl ?_
  refine lpS (fun v1 => ⟨[(0, .l (.d (.sl (a0.map Task.enc)))), (1, .l (.d (.sl (a1.map (eL (eI .i64)))))), (5, .l (.d (.int .i64 v1)))], 25, [], [], []⟩) h (Weak.refl _) (fun _ nx1 hn1 v1 h => ?_)
  refine lenS a1 (eL (eI .i64)) rfl ?_
  refine fkS h (fun h => ?_) (fun h => ?_)
  · refine ixS (enc := (eL (eI .i64))) h rfl (fun _ => rfl) (fun x2 h => ?_)
    refine lenS x2 (eI .i64) rfl ?_
    refine fkS h (fun h => ?_) (fun h => ?_)
    · exact rt (E := E_Bool) h rfl
    exact leS hn1 h (Weak.refl _)
  refine caS (E := E_Bool) h (law05_Great_w a0) rfl (fun _ => rfl) (fun x3 h => ?_)
  refine fkS h (fun h => ?_) (fun h => ?_)
  · exact rt (E := E_Bool) h rfl
  refine lenS a1 (eL (eI .i64)) rfl ?_
  exact rt (E := E_Bool) h rfl

end Go.Proofs.Ytcgliccegpjnfaa
namespace Go.Proofs.Ytcgliccegpjnfaa
open Go Go.VC
noncomputable def ref07_Legal (a0 : List Task) (a1 : List (List Int)) : Option Bool :=
  jn (fun (w1 : Bool) => fk w1 (some false) (lp (fun nx3 (v3 : Int) => fk (decide (v3 < (a1.length : Int))) (ix a1 v3 fun x4 => fk (decide ((x4.length : Int) > (1000 : Int))) (some false) (lp (fun nx5 (v5 : Int) => ix a1 v3 fun x6 => fk (decide (v5 < (x6.length : Int))) (ix a1 v3 fun x7 => ix x7 v5 fun x8 => jn (fun (w9 : Bool) => fk w9 (some false) (jn (fun (w10 : Bool) => fk w10 (some false) (nx5 (wr (v5 + (1 : Int))))) (fun k10 => fk (decide (v5 > (0 : Int))) (ix a1 v3 fun x11 => ix x11 (wr (v5 - (1 : Int))) fun x12 => ix a0 v3 fun x13 => k10 (decide (x8 < (wr (x12 + x13.T))))) (k10 false)))) (fun k9 => fk (decide (x8 < (0 : Int))) (k9 true) (k9 (decide (x8 > (4611686018427387903 : Int)))))) (nx3 (wr (v3 + (1 : Int))))) FU (0 : Int))) (some true)) FU (0 : Int))) (fun k1 => bnd (ref05_All a0) fun x2 => fk (!x2) (k1 true) (k1 (!decide ((a1.length : Int) = (a0.length : Int)))))
theorem ref07_Legal_w (a0 : List Task) (a1 : List (List Int)) (r : Bool) (h : ref07_Legal a0 a1 = some r) : Go.VC.Spec Try.prog 23 [.d (.sl (a0.map Task.enc)), .d (.sl (a1.map (eL (eI .i64))))] (fun y => y = E_Bool r) := by
  refine Go.VC.Spec.of_xc (args := [.d (.sl (a0.map Task.enc)), .d (.sl (a1.map (eL (eI .i64))))]) (fn := Try.f23) tab ⟨[(0, [0, 1]), (1, [0, 1, 17]), (2, [4]), (3, [0, 1, 5]), (4, [0, 1, 5, 21]), (5, [0, 1, 5]), (6, [0, 1, 5, 29]), (7, [4]), (8, [0, 1, 5, 6]), (9, [0, 1, 5, 6, 36]), (10, [0, 1, 5, 6]), (11, [0, 1, 5, 6, 7]), (12, [0, 1, 5, 6, 7, 51]), (13, [4]), (14, [0, 1, 5, 6, 71]), (15, [4]), (16, [4])], [], [100017, 100051, 100071], []⟩ 72 [.tmp 4] rfl rfl rfl rfl rfl rfl ?_
  refine jnS (fun w1 => ⟨[(0, .l (.d (.sl (a0.map Task.enc)))), (1, .l (.d (.sl (a1.map (eL (eI .i64)))))), (17, .l (.d (.bool w1)))], 72, [], [], []⟩) h (fun k1 hk1 h => ?_) (fun w1 h => ?_)
  · refine caS (E := E_Bool) h (ref05_All_w a0) rfl (fun _ => rfl) (fun x2 h => ?_)
    refine fkS h (fun h => ?_) (fun h => ?_)
    · exact jeS hk1 h (Weak.refl _)
    refine lenS a1 (eL (eI .i64)) rfl ?_
    refine lenS a0 Task.enc rfl ?_
    exact jeS hk1 h (Weak.refl _)
  refine fkS h (fun h => ?_) (fun h => ?_)
  · exact rt (E := E_Bool) h rfl
  refine lpS (fun v3 => ⟨[(0, .l (.d (.sl (a0.map Task.enc)))), (1, .l (.d (.sl (a1.map (eL (eI .i64)))))), (5, .l (.d (.int .i64 v3)))], 72, [], [], []⟩) h (Weak.refl _) (fun _ nx3 hn3 v3 h => ?_)
  refine lenS a1 (eL (eI .i64)) rfl ?_
  refine fkS h (fun h => ?_) (fun h => ?_)
  · refine ixS (enc := (eL (eI .i64))) h rfl (fun _ => rfl) (fun x4 h => ?_)
    refine lenS x4 (eI .i64) rfl ?_
    refine fkS h (fun h => ?_) (fun h => ?_)
    · exact rt (E := E_Bool) h rfl
    refine lpS (fun v5 => ⟨[(0, .l (.d (.sl (a0.map Task.enc)))), (1, .l (.d (.sl (a1.map (eL (eI .i64)))))), (5, .l (.d (.int .i64 v3))), (6, .l (.d (.int .i64 v5)))], 72, [], [], []⟩) h (Weak.refl _) (fun _ nx5 hn5 v5 h => ?_)
    refine ixS (enc := (eL (eI .i64))) h rfl (fun _ => rfl) (fun x6 h => ?_)
    refine lenS x6 (eI .i64) rfl ?_
    refine fkS h (fun h => ?_) (fun h => ?_)
    · refine ixS (enc := (eL (eI .i64))) h rfl (fun _ => rfl) (fun x7 h => ?_)
      refine ixS (enc := (eI .i64)) h rfl (fun _ => rfl) (fun x8 h => ?_)
      refine jnS (fun w9 => ⟨[(0, .l (.d (.sl (a0.map Task.enc)))), (1, .l (.d (.sl (a1.map (eL (eI .i64)))))), (5, .l (.d (.int .i64 v3))), (6, .l (.d (.int .i64 v5))), (7, .l (.d (.int .i64 x8))), (51, .l (.d (.bool w9)))], 72, [], [], []⟩) h (fun k9 hk9 h => ?_) (fun w9 h => ?_)
      · refine fkS h (fun h => ?_) (fun h => ?_)
        · exact jeS hk9 h (Weak.refl _)
        exact jeS hk9 h (Weak.refl _)
      refine fkS h (fun h => ?_) (fun h => ?_)
      · exact rt (E := E_Bool) h rfl
      refine jnS (fun w10 => ⟨[(0, .l (.d (.sl (a0.map Task.enc)))), (1, .l (.d (.sl (a1.map (eL (eI .i64)))))), (5, .l (.d (.int .i64 v3))), (6, .l (.d (.int .i64 v5))), (71, .l (.d (.bool w10)))], 72, [], [], []⟩) h (fun k10 hk10 h => ?_) (fun w10 h => ?_)
      · refine ⟨20, ?_⟩
        refine fkS h (fun h => ?_) (fun h => ?_)
        · refine ixS (enc := (eL (eI .i64))) h rfl (fun _ => rfl) (fun x11 h => ?_)
          refine ixS (enc := (eI .i64)) h rfl (fun _ => rfl) (fun x12 h => ?_)
          refine ixS (enc := Task.enc) h rfl (fun _ => rfl) (fun x13 h => ?_)
          refine drS (by kernel_rfl) ?_
          exact jeS hk10 h (Weak.refl _)
        refine drS (by kernel_rfl) ?_
        exact jeS hk10 h (Weak.refl _)
      refine fkS h (fun h => ?_) (fun h => ?_)
      · exact rt (E := E_Bool) h rfl
      exact leS hn5 h (Weak.refl _)
    exact leS hn3 h (Weak.refl _)
  exact rt (E := E_Bool) h rfl

end Go.Proofs.Ytcgliccegpjnfaa
namespace Go.Proofs.Ytcgliccegpjnfaa
open Go Go.VC
noncomputable def ref07_Of (a0 : List Task) (a1 : List (List Int)) (a2 : Int) (a3 : Int) : Option Int :=
  lp (fun nx1 (v1 : Int × Int) => fk (decide (v1.2 < (a1.length : Int))) (lp (fun nx2 (v2 : Int × Int) => ix a1 v1.2 fun x3 => fk (decide (v2.2 < (x3.length : Int))) (jn (fun (w4 : Int) => nx2 (w4, (wr (v2.2 + (1 : Int))))) (fun k4 => ix a1 v1.2 fun x5 => ix x5 v2.2 fun x6 => ix a0 v1.2 fun x7 => jn (fun (w8 : Bool) => fk w8 (ix a0 v1.2 fun x9 => k4 (wr (v2.1 + x9.C))) (k4 v2.1)) (fun k8 => fk (decide (a2 ≤ x6)) (k8 (decide ((wr (x6 + x7.D)) ≤ a3))) (k8 false)))) (nx1 (v2.1, (wr (v1.2 + (1 : Int)))))) FU (v1.1, (0 : Int))) (some v1.1)) FU ((0 : Int), (0 : Int))
theorem ref07_Of_w (a0 : List Task) (a1 : List (List Int)) (a2 : Int) (a3 : Int) (r : Int) (h : ref07_Of a0 a1 a2 a3 = some r) : Go.VC.Spec Try.prog 24 [.d (.sl (a0.map Task.enc)), .d (.sl (a1.map (eL (eI .i64)))), .d (.int .i64 a2), .d (.int .i64 a3)] (fun y => y = E_Int r) := by
  refine Go.VC.Spec.of_xc (args := [.d (.sl (a0.map Task.enc)), .d (.sl (a1.map (eL (eI .i64)))), .d (.int .i64 a2), .d (.int .i64 a3)]) (fn := Try.f24) tab ⟨[(0, [0, 1, 2, 3]), (1, [0, 1, 2, 3, 9]), (2, [0, 1, 2, 3, 9, 10]), (3, [0, 1, 2, 3, 9, 10, 17]), (4, [0, 1, 2, 3, 9, 10]), (5, [0, 1, 2, 3, 9, 10, 11]), (6, [0, 1, 2, 3, 9, 10, 11, 26]), (7, [0, 1, 2, 3, 9, 10, 11]), (8, [0, 1, 2, 3, 9, 10, 11, 12]), (9, [0, 1, 2, 3, 9, 10, 11, 12, 13]), (10, [0, 1, 2, 3, 9, 10, 11, 50]), (11, [0, 1, 2, 3, 9, 10, 11]), (12, [8])], [], [100050, 7], []⟩ 59 [.tmp 8] rfl rfl rfl rfl rfl rfl ?_
  refine lpS (fun v1 => ⟨[(0, .l (.d (.sl (a0.map Task.enc)))), (1, .l (.d (.sl (a1.map (eL (eI .i64)))))), (2, .l (.d (.int .i64 a2))), (3, .l (.d (.int .i64 a3))), (9, .l (.d (.int .i64 v1.1))), (10, .l (.d (.int .i64 v1.2)))], 59, [], [], []⟩) h (Weak.refl _) (fun _ nx1 hn1 v1 h => ?_)
  refine lenS a1 (eL (eI .i64)) rfl ?_
  refine fkS h (fun h => ?_) (fun h => ?_)
  · refine lpS (fun v2 => ⟨[(0, .l (.d (.sl (a0.map Task.enc)))), (1, .l (.d (.sl (a1.map (eL (eI .i64)))))), (2, .l (.d (.int .i64 a2))), (3, .l (.d (.int .i64 a3))), (9, .l (.d (.int .i64 v2.1))), (10, .l (.d (.int .i64 v1.2))), (11, .l (.d (.int .i64 v2.2)))], 59, [], [], []⟩) h (Weak.refl _) (fun _ nx2 hn2 v2 h => ?_)
    refine ixS (enc := (eL (eI .i64))) h rfl (fun _ => rfl) (fun x3 h => ?_)
    refine lenS x3 (eI .i64) rfl ?_
    refine fkS h (fun h => ?_) (fun h => ?_)
    · refine jnS (fun w4 => ⟨[(0, .l (.d (.sl (a0.map Task.enc)))), (1, .l (.d (.sl (a1.map (eL (eI .i64)))))), (2, .l (.d (.int .i64 a2))), (3, .l (.d (.int .i64 a3))), (9, .l (.d (.int .i64 w4))), (10, .l (.d (.int .i64 v1.2))), (11, .l (.d (.int .i64 v2.2)))], 59, [], [], []⟩) h (fun k4 hk4 h => ?_) (fun w4 h => ?_)
      · refine ixS (enc := (eL (eI .i64))) h rfl (fun _ => rfl) (fun x5 h => ?_)
        refine ixS (enc := (eI .i64)) h rfl (fun _ => rfl) (fun x6 h => ?_)
        refine ixS (enc := Task.enc) h rfl (fun _ => rfl) (fun x7 h => ?_)
        refine jnS (fun w8 => ⟨[(0, .l (.d (.sl (a0.map Task.enc)))), (1, .l (.d (.sl (a1.map (eL (eI .i64)))))), (2, .l (.d (.int .i64 a2))), (3, .l (.d (.int .i64 a3))), (9, .l (.d (.int .i64 v2.1))), (10, .l (.d (.int .i64 v1.2))), (11, .l (.d (.int .i64 v2.2))), (50, .l (.d (.bool w8)))], 59, [], [], []⟩) h (fun k8 hk8 h => ?_) (fun w8 h => ?_)
        · refine fkS h (fun h => ?_) (fun h => ?_)
          · exact jeS hk8 h (Weak.refl _)
          exact jeS hk8 h (Weak.refl _)
        refine fkS h (fun h => ?_) (fun h => ?_)
        · refine ixS (enc := Task.enc) h rfl (fun _ => rfl) (fun x9 h => ?_)
          exact jeS hk4 h (Weak.refl _)
        exact jeS hk4 h (Weak.trans (Weak.keepS _ [0, 1, 2, 3, 9, 10, 11]) (Weak.refl _))
      exact leS hn2 h (Weak.refl _)
    exact leS hn1 h (Weak.refl _)
  exact rt (E := E_Int) h rfl

end Go.Proofs.Ytcgliccegpjnfaa
namespace Go.Proofs.Ytcgliccegpjnfaa
open Go Go.VC
noncomputable def law07_DemandPatterns (a0 : List Task) (a1 : List (List Int)) (a2 : Int) (a3 : Int) : Option Bool :=
  bnd (law07_great a0 a1) fun x1 => fk x1 (bnd law07_knows fun x2 => some x2) (bnd (demand_Of a0 a1 a2 a3) fun x3 => bnd (demand_Legal a0 a1) fun x4 => bnd (ref07_Legal a0 a1) fun x5 => fk (!decide (x4 = x5)) (some false) (bnd (ref07_Legal a0 a1) fun x6 => fk (!x6) (fk (decide (x3.1 = (0 : Int))) (fk (decide (x3.2 = (1 : Int))) (bnd law07_knows fun x7 => some x7) (some false)) (some false)) (bnd (ref07_Of a0 a1 a2 a3) fun x8 => fk (decide (x3.1 = x8)) (fk (decide (x3.2 = (0 : Int))) (bnd law07_knows fun x9 => some x9) (some false)) (some false))))
theorem law07_DemandPatterns_w (a0 : List Task) (a1 : List (List Int)) (a2 : Int) (a3 : Int) (r : Bool) (h : law07_DemandPatterns a0 a1 a2 a3 = some r) : Go.VC.Spec Try.prog 5 [.d (.sl (a0.map Task.enc)), .d (.sl (a1.map (eL (eI .i64)))), .d (.int .i64 a2), .d (.int .i64 a3)] (fun y => y = E_Bool r) := by
  refine Go.VC.Spec.of_xc (args := [.d (.sl (a0.map Task.enc)), .d (.sl (a1.map (eL (eI .i64)))), .d (.int .i64 a2), .d (.int .i64 a3)]) (fn := Try.f5) tab ⟨[(0, [0, 1, 2, 3]), (1, [0, 1, 2, 3, 13]), (2, [8]), (3, [0, 1, 2, 3, 9, 10]), (4, [0, 1, 2, 3, 9, 10, 29]), (5, [8]), (6, [0, 1, 2, 3, 9, 10, 33]), (7, [8]), (8, [8])], [], [], []⟩ 57 [.tmp 8] rfl rfl rfl rfl rfl rfl ?_
  refine caS (E := E_Bool) h (law07_great_w a0 a1) rfl (fun _ => rfl) (fun x1 h => ?_)
  refine fkS h (fun h => ?_) (fun h => ?_)
  · refine caS (E := E_Bool) h law07_knows_w rfl (fun _ => rfl) (fun x2 h => ?_)
    exact rt (E := E_Bool) h rfl
  refine caS (E := E_Int_Int) h (demand_Of_w a0 a1 a2 a3) rfl (fun _ => rfl) (fun x3 h => ?_)
  refine caS (E := E_Bool) h (demand_Legal_w a0 a1) rfl (fun _ => rfl) (fun x4 h => ?_)
  refine caS (E := E_Bool) h (ref07_Legal_w a0 a1) rfl (fun _ => rfl) (fun x5 h => ?_)
  refine fkS h (fun h => ?_) (fun h => ?_)
  · exact rt (E := E_Bool) h rfl
  refine caS (E := E_Bool) h (ref07_Legal_w a0 a1) rfl (fun _ => rfl) (fun x6 h => ?_)
  refine fkS h (fun h => ?_) (fun h => ?_)
  · refine fkS h (fun h => ?_) (fun h => ?_)
    · refine fkS h (fun h => ?_) (fun h => ?_)
      · refine caS (E := E_Bool) h law07_knows_w rfl (fun _ => rfl) (fun x7 h => ?_)
        exact rt (E := E_Bool) h rfl
      exact rt (E := E_Bool) h rfl
    exact rt (E := E_Bool) h rfl
  refine caS (E := E_Int) h (ref07_Of_w a0 a1 a2 a3) rfl (fun _ => rfl) (fun x8 h => ?_)
  refine fkS h (fun h => ?_) (fun h => ?_)
  · refine fkS h (fun h => ?_) (fun h => ?_)
    · refine caS (E := E_Bool) h law07_knows_w rfl (fun _ => rfl) (fun x9 h => ?_)
      exact rt (E := E_Bool) h rfl
    exact rt (E := E_Bool) h rfl
  exact rt (E := E_Bool) h rfl

end Go.Proofs.Ytcgliccegpjnfaa
namespace Go.Proofs.Ytcgliccegpjnfaa
open Go Go.VC
noncomputable def law07_DemandMost (a0 : List Task) (a1 : List (List Int)) (a2 : Int) (a3 : Int) : Option Bool :=
  jn (fun (w1 : Bool) => fk w1 (bnd law07_knows fun x4 => some x4) (bnd (demand_Bound a0 (wr (a3 - a2))) fun x5 => fk (decide (x5.2 = (0 : Int))) (bnd (ref07_Of a0 a1 a2 a3) fun x6 => fk (decide (x6 ≤ x5.1)) (bnd law07_knows fun x7 => some x7) (some false)) (some false))) (fun k1 => bnd (law07_great a0 a1) fun x2 => fk x2 (k1 true) (bnd (ref07_Legal a0 a1) fun x3 => fk (!x3) (k1 true) (fk (decide (a2 < (0 : Int))) (k1 true) (fk (decide (a3 < a2)) (k1 true) (k1 (decide (a3 > (1099511627776 : Int))))))))
theorem law07_DemandMost_w (a0 : List Task) (a1 : List (List Int)) (a2 : Int) (a3 : Int) (r : Bool) (h : law07_DemandMost a0 a1 a2 a3 = some r) : Go.VC.Spec Try.prog 6 [.d (.sl (a0.map Task.enc)), .d (.sl (a1.map (eL (eI .i64)))), .d (.int .i64 a2), .d (.int .i64 a3)] (fun y => y = E_Bool r) := by
  refine Go.VC.Spec.of_xc (args := [.d (.sl (a0.map Task.enc)), .d (.sl (a1.map (eL (eI .i64)))), .d (.int .i64 a2), .d (.int .i64 a3)]) (fn := Try.f6) tab ⟨[(0, [0, 1, 2, 3]), (1, [0, 1, 2, 3, 32]), (2, [8]), (3, [0, 1, 2, 3, 9, 10]), (4, [8])], [], [100032], []⟩ 56 [.tmp 8] rfl rfl rfl rfl rfl rfl ?_
  refine jnS (fun w1 => ⟨[(0, .l (.d (.sl (a0.map Task.enc)))), (1, .l (.d (.sl (a1.map (eL (eI .i64)))))), (2, .l (.d (.int .i64 a2))), (3, .l (.d (.int .i64 a3))), (32, .l (.d (.bool w1)))], 56, [], [], []⟩) h (fun k1 hk1 h => ?_) (fun w1 h => ?_)
  · refine caS (E := E_Bool) h (law07_great_w a0 a1) rfl (fun _ => rfl) (fun x2 h => ?_)
    refine fkS h (fun h => ?_) (fun h => ?_)
    · exact jeS hk1 h (Weak.refl _)
    refine caS (E := E_Bool) h (ref07_Legal_w a0 a1) rfl (fun _ => rfl) (fun x3 h => ?_)
    refine fkS h (fun h => ?_) (fun h => ?_)
    · exact jeS hk1 h (Weak.refl _)
    refine fkS h (fun h => ?_) (fun h => ?_)
    · exact jeS hk1 h (Weak.refl _)
    refine fkS h (fun h => ?_) (fun h => ?_)
    · exact jeS hk1 h (Weak.refl _)
    exact jeS hk1 h (Weak.refl _)
  refine fkS h (fun h => ?_) (fun h => ?_)
  · refine caS (E := E_Bool) h law07_knows_w rfl (fun _ => rfl) (fun x4 h => ?_)
    exact rt (E := E_Bool) h rfl
  refine caS (E := E_Int_Int) h (demand_Bound_w a0 (wr (a3 - a2))) rfl (fun _ => rfl) (fun x5 h => ?_)
  refine fkS h (fun h => ?_) (fun h => ?_)
  · refine caS (E := E_Int) h (ref07_Of_w a0 a1 a2 a3) rfl (fun _ => rfl) (fun x6 h => ?_)
    refine fkS h (fun h => ?_) (fun h => ?_)
    · refine caS (E := E_Bool) h law07_knows_w rfl (fun _ => rfl) (fun x7 h => ?_)
      exact rt (E := E_Bool) h rfl
    exact rt (E := E_Bool) h rfl
  exact rt (E := E_Bool) h rfl

end Go.Proofs.Ytcgliccegpjnfaa
namespace Go.Proofs.Ytcgliccegpjnfaa
open Go Go.VC

theorem law07_knows_eq : law07_knows = some true := by kernel_rfl
def sumI {α : Type} (f : α → Int) : List α → Int
  | [] => 0
  | x :: r => f x + sumI f r
theorem sumI_append {α : Type} (f : α → Int) (a b : List α) : sumI f (a ++ b) = sumI f a + sumI f b := by
  induction a with
  | nil => simp [sumI]
  | cons x r ih => simp only [List.cons_append, sumI, ih]; omega
theorem sumI_succ {α : Type} (f : α → Int) (l : List α) (k : Nat) (h : k < l.length) : sumI f (l.take (k + 1)) = sumI f (l.take k) + f l[k] := by
  rw [← List.take_append_getElem h, sumI_append]; simp [sumI]
theorem sumI_mono {α : Type} {f g : α → Int} : ∀ {l : List α}, (∀ x ∈ l, f x ≤ g x) → sumI f l ≤ sumI g l
  | [], _ => Int.le_refl _
  | x :: r, h => by
    have h1 := h x List.mem_cons_self
    have h2 := sumI_mono (f := f) (g := g) (l := r) fun y hy => h y (List.mem_cons_of_mem _ hy)
    simp only [sumI]; omega
theorem sumI_nonneg {α : Type} {f : α → Int} : ∀ {l : List α}, (∀ x ∈ l, 0 ≤ f x) → 0 ≤ sumI f l
  | [], _ => Int.le_refl _
  | x :: r, h => by
    have h1 := h x List.mem_cons_self
    have h2 := sumI_nonneg (f := f) (l := r) fun y hy => h y (List.mem_cons_of_mem _ hy)
    simp only [sumI]; omega
theorem sumI_bound {α : Type} {f : α → Int} {n : Int} : ∀ {l : List α}, (∀ x ∈ l, f x ≤ n) → sumI f l ≤ n * (l.length : Int)
  | [], _ => by simp [sumI]
  | x :: r, h => by
    have h1 := h x List.mem_cons_self
    have h2 := sumI_bound (f := f) (l := r) fun y hy => h y (List.mem_cons_of_mem _ hy)
    have e : n * ((x :: r).length : Int) = n + n * (r.length : Int) := by
      rw [List.length_cons, Int.natCast_add, Int.mul_add, Int.add_comm]; simp
    simp only [sumI]; omega

def inM (x : Int) : Prop := -4611686018427387903 ≤ x ∧ x ≤ 4611686018427387903
instance (x : Int) : Decidable (inM x) := by unfold inM; infer_instance
theorem arith_may_eq (l : List Int) (hl : l.length ≤ 1000) : arith_may l = some (decide (∀ x ∈ l, inM x)) := by
  unfold arith_may
  refine lp_up l.length (by unfold FU; omega) (fun k => ∀ j (h : j < l.length), j < k → inM l[j]) (fun j _ h => by omega) ?_
  intro nx k hk J hnx
  simp only [jn_eq]
  rw [lt_nat]
  by_cases h : k < l.length
  · rw [decide_eq_true h, fk_t, ix_lt h, wr_succ k _ h (by omega), fk_t]
    have bad : ¬ inM l[k] → some false = some (decide (∀ x ∈ l, inM x)) := fun hb => dec_f fun ha => hb (ha _ (List.getElem_mem h))
    by_cases c1 : l[k] > 4611686018427387903
    · rw [decide_eq_true c1, fk_t]; exact bad fun hh => by unfold inM at hh; omega
    rw [decide_eq_false c1, fk_f]
    by_cases c2 : l[k] < -4611686018427387903
    · rw [decide_eq_true c2, fk_t]; exact bad fun hh => by unfold inM at hh; omega
    rw [decide_eq_false c2, fk_f]
    refine hnx h fun j hj hjk => ?_
    by_cases e : j = k
    · subst e; unfold inM; omega
    · exact J j hj (by omega)
  · rw [decide_eq_false h, fk_f]
    refine dec_t fun x hx => ?_
    obtain ⟨j, hj, rfl⟩ := List.getElem_of_mem hx
    exact J j hj (by omega)
theorem arith_may2 (a b : Int) : arith_may [a, b] = some (decide (inM a ∧ inM b)) := by
  rw [arith_may_eq _ (by simp)]; refine dec_iff ?_; simp
theorem arith_may1 (a : Int) : arith_may [a] = some (decide (inM a)) := by
  rw [arith_may_eq _ (by simp)]; refine dec_iff ?_; simp
theorem arith_Floor_eq (a b : Int) (ha : 0 ≤ a) (ha2 : a ≤ 4611686018427387903) (hb : 1 ≤ b) (hb2 : b ≤ 200) : arith_Floor a b = some (a / b, 0) := by
  unfold arith_Floor
  simp only [jn_eq, fk_t]
  have hq0 : 0 ≤ a / b := Int.ediv_nonneg ha (by omega)
  have hq1 : a / b ≤ a := Int.ediv_le_self _ ha
  rw [bnd_eq (arith_may2 a b), decide_eq_true ⟨by unfold inM; omega, by unfold inM; omega⟩, Bool.not_true, fk_f, decide_eq_false (by omega : ¬ b < 1), fk_f, ck_t (by simp; omega), ck_t (by simp; omega)]
  rw [Int.tmod_eq_emod_of_nonneg ha, Int.tdiv_eq_ediv_of_nonneg ha]
  have := Int.emod_nonneg a (b := b) (by omega)
  rw [decide_eq_false (by omega), fk_f, wr_in _ (by omega)]
def jobsN (t : Task) (k : Int) : Int := if k < t.D then 0 else (k - t.D) / t.T + 1
theorem jobsN_b {t : Task} (h : RightP t) {k : Int} (h0 : 0 ≤ k) : 0 ≤ jobsN t k ∧ jobsN t k ≤ k := by
  have hc := h.c
  unfold jobsN
  by_cases c : k < t.D
  · rw [if_pos c]; omega
  · rw [if_neg c]
    have h1 := Int.ediv_nonneg (a := k - t.D) (b := t.T) (by omega) (by omega)
    have h2 := Int.ediv_le_self (a := k - t.D) t.T (by omega)
    omega
theorem demand_jobs_eq (t : Task) (k : Int) (h : RightP t) (h0 : 0 ≤ k) (h1 : k ≤ 4611686018427387903) : demand_jobs t k = some (jobsN t k) := by
  have hc := h.c
  have hj := jobsN_b h h0
  unfold demand_jobs
  unfold jobsN at *
  by_cases c : k < t.D
  · rw [decide_eq_true c, fk_t, if_pos c]
  · rw [if_neg c] at *
    rw [decide_eq_false c, fk_f, wr_in (k - t.D) (by omega), bnd_eq (arith_Floor_eq _ _ (by omega) (by omega) (by omega) (by omega)), wr_in _ (by simp only; omega)]
theorem arith_Mul_eq (a b : Int) (ha : 1 ≤ a) (ha2 : a ≤ 200) (hb : 0 ≤ b) (hb2 : b ≤ 4611686018427387903) : arith_Mul a b = some (if a * b ≤ 4611686018427387903 then a * b else 0, if a * b ≤ 4611686018427387903 then 0 else 5) := by
  unfold arith_Mul
  simp only [jn_eq, fk_t]
  rw [bnd_eq (arith_may2 a b), decide_eq_true ⟨by unfold inM; omega, by unfold inM; omega⟩, Bool.not_true, fk_f, decide_eq_false (by omega : ¬ a = 0), fk_f]
  by_cases c : b = 0
  · subst c; rw [decide_eq_true rfl, fk_t]; simp
  rw [decide_eq_false c, fk_f]
  have e1 : IntKind.i64.wrap (0 - b) = 0 - b := wr_in _ (by omega)
  have e2 : IntKind.i64.wrap (0 - a) = 0 - a := wr_in _ (by omega)
  rw [e1, e2, if_neg (by omega : ¬ (0 - b > b)), if_neg (by omega : ¬ (0 - a > a)), ck_t (by simp; omega), Int.tdiv_eq_ediv_of_nonneg (by decide)]
  have hq : (4611686018427387903 : Int) / b ≤ 4611686018427387903 := Int.ediv_le_self _ (by decide)
  have hq0 : 0 ≤ (4611686018427387903 : Int) / b := Int.ediv_nonneg (by decide) hb
  rw [wr_in _ (by omega)]
  have key : a > (4611686018427387903 : Int) / b ↔ ¬ a * b ≤ 4611686018427387903 := by
    rw [← Int.le_ediv_iff_mul_le (by omega)]; omega
  by_cases d : a * b ≤ 4611686018427387903
  · have : 0 ≤ a * b := Int.mul_nonneg (by omega) hb
    rw [decide_eq_false (fun h => key.1 h d), fk_f, if_pos d, if_pos d, wr_in _ (by omega)]
  · rw [decide_eq_true (key.2 d), fk_t, if_neg d, if_neg d]
theorem arith_Add_eq (a b : Int) (ha : 0 ≤ a) (ha2 : a ≤ 4611686018427387903) (hb : 0 ≤ b) (hb2 : b ≤ 4611686018427387903) : arith_Add a b = some (if a + b ≤ 4611686018427387903 then a + b else 0, if a + b ≤ 4611686018427387903 then 0 else 5) := by
  unfold arith_Add
  rw [bnd_eq (arith_may2 a b), decide_eq_true ⟨by unfold inM; omega, by unfold inM; omega⟩, Bool.not_true, fk_f, wr_in _ (by omega), bnd_eq (arith_may1 _)]
  by_cases d : a + b ≤ 4611686018427387903
  · rw [decide_eq_true (by unfold inM; omega), Bool.not_true, fk_f, if_pos d, if_pos d]
  · rw [decide_eq_false (by unfold inM; omega), Bool.not_false, fk_t, if_neg d, if_neg d]
def costN (k : Int) (t : Task) : Int := t.C * jobsN t k
def sumB (l : List Task) (k : Int) : Int := sumI (costN k) l
theorem costN_nonneg {t : Task} (h : RightP t) {k : Int} (h0 : 0 ≤ k) : 0 ≤ costN k t := Int.mul_nonneg (by have := h.c; omega) (jobsN_b h h0).1
theorem costN_le {t : Task} (h : RightP t) {k : Int} (h0 : 0 ≤ k) : costN k t ≤ 200 * k := by
  have hc := h.c
  have hj := jobsN_b h h0
  exact Int.mul_le_mul (by omega) hj.2 hj.1 (by omega)
def askP (l : List Task) (k : Int) : Prop := AllP l ∧ 0 ≤ k ∧ k ≤ 4611686018427387903
instance (l : List Task) (k : Int) : Decidable (askP l k) := by unfold askP; infer_instance
theorem demand_Bound_eq (l : List Task) (k : Int) (hl : l.length ≤ 4611686018427387904) : demand_Bound l k = some (if askP l k ∧ sumB l k ≤ 4611686018427387903 then sumB l k else 0, if askP l k then (if sumB l k ≤ 4611686018427387903 then 0 else 5) else 1) := by
  unfold demand_Bound
  simp only [jn_eq, fk_t]
  rw [bnd_eq (task_All_eq l hl)]
  have no : ¬ askP l k → some ((0 : Int), (1 : Int)) = some (if askP l k ∧ sumB l k ≤ 4611686018427387903 then sumB l k else 0, if askP l k then (if sumB l k ≤ 4611686018427387903 then (0 : Int) else 5) else 1) := fun h => by
    rw [if_neg (fun h2 => h h2.1), if_neg h]
  by_cases ha : AllP l
  rotate_left
  · rw [decide_eq_false ha, Bool.not_false, fk_t]; exact no fun h => ha h.1
  rw [decide_eq_true ha, Bool.not_true, fk_f]
  by_cases c1 : k < 0
  · rw [decide_eq_true c1, fk_t]; exact no fun h => by have := h.2.1; omega
  rw [decide_eq_false c1, fk_f]
  by_cases c2 : k > 4611686018427387903
  · rw [decide_eq_true c2, fk_t]; exact no fun h => by have := h.2.2; omega
  rw [decide_eq_false c2, fk_f]
  have hask : askP l k := ⟨ha, by omega, by omega⟩
  rw [if_pos hask]
  refine lp_inv (fun v => l.length - v.2.2.toNat) (fun v => ∃ i : Nat, v.2.2 = (i : Int) ∧ i ≤ l.length ∧ 0 ≤ v.1 ∧ v.1 ≤ 4611686018427387903 ∧ 0 ≤ sumI (costN k) (l.take i) ∧ ((v.2.1 = 0 ∧ v.1 = sumI (costN k) (l.take i)) ∨ (v.2.1 = 5 ∧ sumI (costN k) (l.take i) > 4611686018427387903))) ?_ FU _ ⟨0, rfl, Nat.zero_le _, by decide, by decide, by simp [sumI], .inl ⟨rfl, by simp [sumI]⟩⟩ (by show l.length - 0 < FU; unfold FU; omega)
  rintro nx ⟨w, s, iv⟩ ⟨i, hi, hil, hw0, hw1, hS0, J⟩ hnx
  simp only at hi hw0 hw1 J
  subst hi
  simp only
  rw [lt_nat]
  by_cases h : i < l.length
  · have hr := ha.1 _ (List.getElem_mem h)
    have hcc := hr.c
    have hj := jobsN_b hr (k := k) (by omega)
    have hcn := costN_nonneg hr (k := k) (by omega)
    have hS := sumI_succ (costN k) l i h
    have hce : costN k l[i] = l[i].C * jobsN l[i] k := rfl
    rw [decide_eq_true h, fk_t, ix_lt h, bnd_eq (demand_jobs_eq _ _ hr (by omega) (by omega)), bnd_eq (arith_Mul_eq _ _ hcc.1 (by omega) hj.1 (by omega)), wr_succ i _ h hl]
    rw [← hce]
    by_cases c3 : costN k l[i] ≤ 4611686018427387903
    · rw [if_pos c3, if_pos c3, bnd_eq (arith_Add_eq w (costN k l[i]) hw0 hw1 hcn c3), decide_eq_true rfl, Bool.not_true, fk_f]
      by_cases c4 : w + costN k l[i] ≤ 4611686018427387903
      · rw [if_pos c4, if_pos c4, decide_eq_true rfl, Bool.not_true, fk_f]
        refine hnx _ ⟨i + 1, rfl, h, by simp only; omega, by simp only; omega, by omega, ?_⟩ (by simp only [Int.toNat_natCast]; omega)
        rcases J with ⟨j1, j2⟩ | ⟨j1, j2⟩
        · exact .inl ⟨j1, by simp only; omega⟩
        · exact .inr ⟨j1, by omega⟩
      · rw [if_neg c4, if_neg c4, show decide ((5 : Int) = 0) = false from rfl, Bool.not_false, fk_t]
        refine hnx _ ⟨i + 1, rfl, h, hw0, hw1, by omega, .inr ⟨rfl, ?_⟩⟩ (by simp only [Int.toNat_natCast]; omega)
        rcases J with ⟨j1, j2⟩ | ⟨j1, j2⟩ <;> omega
    · rw [if_neg c3, if_neg c3, bnd_eq (arith_Add_eq w 0 hw0 hw1 (by decide) (by decide)), show decide ((5 : Int) = 0) = false from rfl, Bool.not_false, fk_t]
      refine hnx _ ⟨i + 1, rfl, h, hw0, hw1, by omega, .inr ⟨rfl, ?_⟩⟩ (by simp only [Int.toNat_natCast]; omega)
      rcases J with ⟨j1, j2⟩ | ⟨j1, j2⟩ <;> omega
  · rw [decide_eq_false h, fk_f]
    have : i = l.length := by omega
    subst this
    rw [List.take_length] at J hS0
    have hsB : sumB l k = sumI (costN k) l := rfl
    rcases J with ⟨j1, j2⟩ | ⟨j1, j2⟩
    · rw [j1, decide_eq_true rfl, Bool.not_true, fk_f, if_pos ⟨hask, by omega⟩, if_pos (by omega), j2]; rfl
    · rw [j1, show decide ((5 : Int) = 0) = false from rfl, Bool.not_false, fk_t, if_neg (by omega), if_neg (by omega)]
theorem sumB_le {l : List Task} (ha : AllP l) {k : Int} (h0 : 0 ≤ k) : sumB l k ≤ 1600 * k := by
  have h := sumI_bound (f := costN k) (l := l) fun x hx => costN_le (ha.1 x hx) h0
  have h2 : 200 * k * (l.length : Int) ≤ 200 * k * 8 := Int.mul_le_mul_of_nonneg_left (by have := ha.2; omega) (by omega)
  unfold sumB
  omega
theorem sumB_nonneg {l : List Task} (ha : AllP l) {k : Int} (h0 : 0 ≤ k) : 0 ≤ sumB l k := sumI_nonneg fun x hx => costN_nonneg (ha.1 x hx) h0
theorem demand_Bound_small (l : List Task) (k : Int) (ha : AllP l) (h0 : 0 ≤ k) (h1 : k ≤ 2199023255552) : demand_Bound l k = some (sumB l k, 0) := by
  have hb := sumB_le ha h0
  have hk : askP l k := ⟨ha, h0, by omega⟩
  rw [demand_Bound_eq l k (by have := ha.2; omega), if_pos ⟨hk, by omega⟩, if_pos hk, if_pos (by omega)]
theorem jobsN_is {t : Task} (h : RightP t) {k n : Int} (hn : 0 ≤ n) (h1 : k < t.D + t.T * n) (h2 : n = 0 ∨ t.D + t.T * (n - 1) ≤ k) : jobsN t k = n := by
  have hc := h.c
  unfold jobsN
  by_cases c : k < t.D
  · rw [if_pos c]
    rcases h2 with h2 | h2
    · exact h2.symm
    · by_cases z : n = 0
      · exact z.symm
      · have := Int.mul_nonneg (a := t.T) (b := n - 1) (by omega) (by omega)
        omega
  · rw [if_neg c]
    have hz : n ≠ 0 := by rintro rfl; simp at h1; omega
    have e : (k - t.D) / t.T = n - 1 := by
      have a1 : n - 1 ≤ (k - t.D) / t.T := (Int.le_ediv_iff_mul_le (by omega)).2 (by rw [Int.mul_comm]; omega)
      have a2 : (k - t.D) / t.T < n := Int.ediv_lt_of_lt_mul (by omega) (by rw [Int.mul_comm]; omega)
      omega
    omega
end Go.Proofs.Ytcgliccegpjnfaa
namespace Go.Proofs.Ytcgliccegpjnfaa
open Go Go.VC

theorem ref07_Bound_eq (l : List Task) (k : Int) (ha : AllP l) (h0 : 0 ≤ k) (h1 : k ≤ 5000) : ref07_Bound l k = some (sumB l k) := by
  unfold ref07_Bound
  have hl := ha.2
  refine lp_upS l.length (by unfold FU; omega) (fun i s => s = sumI (costN k) (l.take i)) 0 (by simp [sumI]) ?_
  rintro nx i s hi rfl hnx
  simp only
  rw [lt_nat]
  by_cases h : i < l.length
  rotate_left
  · rw [decide_eq_false h, fk_f]
    have : i = l.length := by omega
    subst this
    rw [List.take_length]; rfl
  have hr := ha.1 _ (List.getElem_mem h)
  have hc := hr.c
  have hS := sumI_succ (costN k) l i h
  have hb : 0 ≤ sumI (costN k) (l.take i) := sumI_nonneg fun x hx => costN_nonneg (ha.1 x (List.mem_of_mem_take hx)) h0
  have hb2 : sumI (costN k) (l.take i) ≤ 200 * k * ((l.take i).length : Int) := sumI_bound fun x hx => costN_le (ha.1 x (List.mem_of_mem_take hx)) h0
  have hb3 : 200 * k * ((l.take i).length : Int) ≤ 200 * k * 8 := Int.mul_le_mul_of_nonneg_left (by rw [List.length_take]; omega) (by omega)
  generalize sumI (costN k) (l.take i) = s at *
  rw [decide_eq_true h, fk_t, wr_succ i _ h (by omega)]
  simp only [ix_lt h]
  generalize l[i] = t at *
  refine lp_inv (fun v => (k + 1 - v.2).toNat) (fun v => ∃ n : Int, 0 ≤ n ∧ n ≤ 5001 ∧ v.1 = s + t.C * n ∧ v.2 = t.D + t.T * n ∧ (n = 0 ∨ t.D + t.T * (n - 1) ≤ k)) ?_ FU _ ⟨0, by decide, by decide, by simp, by simp, .inl rfl⟩ (by show (k + 1 - t.D).toNat < FU; unfold FU; omega)
  rintro nx2 ⟨a, d⟩ ⟨n, hn0, hn1, hav, hd, hnn⟩ hnx2
  simp only at hav hd
  subst hav hd
  simp only
  have m1 : t.C * n ≤ 200 * 5001 := Int.mul_le_mul (by omega) hn1 hn0 (by omega)
  have m2 : 0 ≤ t.C * n := Int.mul_nonneg (by omega) hn0
  have m3 : t.T * n ≤ 200 * 5001 := Int.mul_le_mul (by omega) hn1 hn0 (by omega)
  have m4 : 0 ≤ t.T * n := Int.mul_nonneg (by omega) hn0
  have e1 : t.C * (n + 1) = t.C * n + t.C := by rw [Int.mul_add, Int.mul_one]
  have e2 : t.T * (n + 1) = t.T * n + t.T := by rw [Int.mul_add, Int.mul_one]
  by_cases c : t.D + t.T * n ≤ k
  · rw [decide_eq_true c, fk_t, wr_in _ (by omega), wr_in _ (by omega)]
    have hnT : n ≤ t.T * n := by
      have := Int.mul_le_mul_of_nonneg_right (a := 1) (b := t.T) (c := n) (by omega) hn0
      omega
    refine hnx2 _ ⟨n + 1, by omega, by omega, by simp only; omega, by simp only; omega, .inr ?_⟩ (by simp only; omega)
    rw [show n + 1 - 1 = n from by omega]; exact c
  · rw [decide_eq_false c, fk_f]
    refine hnx _ h ?_
    rw [hS, costN, jobsN_is hr hn0 (by omega) hnn]
theorem jobsN_mono {t : Task} (h : RightP t) {k k' : Int} (h0 : 0 ≤ k) (hk : k ≤ k') : jobsN t k ≤ jobsN t k' := by
  have hc := h.c
  have hb := jobsN_b h (k := k') (by omega)
  unfold jobsN at *
  by_cases c : k < t.D
  · rw [if_pos c]; exact hb.1
  · rw [if_neg c, if_neg (by omega)]
    have := Int.ediv_le_ediv (a := k - t.D) (b := k' - t.D) (c := t.T) (by omega) (by omega)
    omega
theorem sumB_mono {l : List Task} (ha : AllP l) {k k' : Int} (h0 : 0 ≤ k) (hk : k ≤ k') : sumB l k ≤ sumB l k' :=
  sumI_mono fun x hx => Int.mul_le_mul_of_nonneg_left (jobsN_mono (ha.1 x hx) h0 hk) (by have := (ha.1 x hx).c; omega)
theorem sumB_append (a b : List Task) (k : Int) : sumB (a ++ b) k = sumB a k + sumB b k := sumI_append _ _ _
theorem jobsN_step {t : Task} (h : RightP t) {k : Int} (h0 : t.D ≤ k) : jobsN t (k + t.T) = jobsN t k + 1 := by
  have hc := h.c
  unfold jobsN
  rw [if_neg (by omega), if_neg (by omega), show k + t.T - t.D = (k - t.D) + t.T from by omega, Int.add_ediv_of_dvd_right (Int.dvd_refl _), Int.ediv_self (by omega)]
theorem jobsN_pos {t : Task} (h : RightP t) {k : Int} (h0 : t.D ≤ k) : 1 ≤ jobsN t k := by
  have hc := h.c
  unfold jobsN
  rw [if_neg (by omega)]
  have := Int.ediv_nonneg (a := k - t.D) (b := t.T) (by omega) (by omega)
  omega
end Go.Proofs.Ytcgliccegpjnfaa
namespace Go.Proofs.Ytcgliccegpjnfaa
open Go Go.VC

/-! ### Patterns -/
/-- place j of a row keeps its distance -/
def stepP (T : Int) (r : List Int) (j : Nat) : Prop := ∀ (h : j < r.length), 0 ≤ r[j] ∧ r[j] ≤ 4611686018427387903 ∧ (0 < j → r[j - 1] + T ≤ r[j])
def rowP (T : Int) (r : List Int) : Prop := r.length ≤ 1000 ∧ ∀ j (h : j < r.length), 0 ≤ r[j] ∧ r[j] ≤ 4611686018427387903 ∧ (0 < j → r[j - 1] + T ≤ r[j])
def patP (l : List Task) (a : List (List Int)) : Prop := AllP l ∧ a.length = l.length ∧ ∀ i (h : i < a.length) (h2 : i < l.length), rowP l[i].T a[i]
noncomputable instance (l : List Task) (a : List (List Int)) : Decidable (patP l a) := Classical.propDecidable _
theorem demand_Legal_eq (l : List Task) (a : List (List Int)) (hl : l.length ≤ 4611686018427387904) (hla : a.length ≤ 4611686018427387904) : demand_Legal l a = some (decide (patP l a)) := by
  unfold demand_Legal
  simp only [jn_eq, fk_t, fk_f]
  rw [bnd_eq (task_All_eq l hl)]
  by_cases ha : AllP l
  rotate_left
  · rw [decide_eq_false ha, Bool.not_false, fk_t]; exact dec_f fun h => ha h.1
  rw [decide_eq_true ha, Bool.not_true, fk_f]
  by_cases hn : (a.length : Int) = (l.length : Int)
  rotate_left
  · rw [decide_eq_false hn, Bool.not_false, fk_t]; exact dec_f fun h => hn (by have := h.2.1; omega)
  rw [decide_eq_true hn, Bool.not_true, fk_f]
  have hn2 : a.length = l.length := by omega
  refine lp_up a.length (by unfold FU; omega) (fun k => ∀ i (h : i < a.length) (h2 : i < l.length), i < k → rowP l[i].T a[i]) (fun i _ _ h => by omega) ?_
  intro nx k hk J hnx
  rw [lt_nat]
  by_cases h : k < a.length
  rotate_left
  · rw [decide_eq_false h, fk_f]
    exact dec_t ⟨ha, hn2, fun i h1 h2 => J i h1 h2 (by omega)⟩
  have h' : k < l.length := by omega
  rw [decide_eq_true h, fk_t, ix_lt h]
  have bad : ¬ rowP l[k].T a[k] → some false = some (decide (patP l a)) := fun hb => dec_f fun hp => hb (hp.2.2 k h h')
  by_cases c1 : (a[k].length : Int) > 1000
  · rw [decide_eq_true c1, fk_t]; exact bad fun hp => by have := hp.1; omega
  rw [decide_eq_false c1, fk_f]
  have hcT := (ha.1 _ (List.getElem_mem h')).c
  refine lp_up a[k].length (by unfold FU; omega) (fun q => ∀ j (hj : j < a[k].length), j < q → 0 ≤ a[k][j] ∧ a[k][j] ≤ 4611686018427387903 ∧ (0 < j → a[k][j - 1] + l[k].T ≤ a[k][j])) (fun j _ h => by omega) ?_
  intro nx2 q hq K hnx2
  rw [lt_nat]
  by_cases h2 : q < a[k].length
  rotate_left
  · rw [decide_eq_false h2, fk_f, wr_succ k _ h hla]
    refine hnx h fun i hi hi2 hik => ?_
    by_cases e : i = k
    · subst e; exact ⟨by omega, fun j hj => K j hj (by omega)⟩
    · exact J i hi hi2 (by omega)
  rw [decide_eq_true h2, fk_t, ix_lt h2, wr_succ q _ h2 (by omega)]
  by_cases c2 : a[k][q] < 0
  · rw [decide_eq_true c2, fk_t]; exact bad fun hp => by have := hp.2 q h2; omega
  rw [decide_eq_false c2, fk_f]
  by_cases c3 : a[k][q] > 4611686018427387903
  · rw [decide_eq_true c3, fk_t]; exact bad fun hp => by have := hp.2 q h2; omega
  rw [decide_eq_false c3, fk_f]
  have go : (0 < q → a[k][q - 1] + l[k].T ≤ a[k][q]) → nx2 ((q + 1 : Nat) : Int) = some (decide (patP l a)) := fun hgo => hnx2 h2 fun j hj hjq => by
    by_cases e : j = q
    · subst e; exact ⟨by omega, by omega, hgo⟩
    · exact K j hj (by omega)
  by_cases c4 : (q : Int) > 0
  rotate_left
  · rw [decide_eq_false c4, fk_f]; exact go fun h => by omega
  rw [decide_eq_true c4, fk_t, wr_in _ (by omega), ix_int (by omega) (by omega), ix_lt h']
  have e1 : ((q : Int) - 1).toNat = q - 1 := by omega
  simp only [e1]
  have hp := K (q - 1) (by omega) (by omega)
  rw [wr_in _ (by omega)]
  by_cases c5 : a[k][q] - a[k][q - 1] < l[k].T
  · rw [decide_eq_true c5, fk_t]; exact bad fun hp => by have := (hp.2 q h2).2.2 (by omega); omega
  · rw [decide_eq_false c5, fk_f]; exact go fun _ => by omega
theorem ref07_Legal_eq (l : List Task) (a : List (List Int)) (hl : l.length ≤ 4611686018427387904) (hs : ∀ t ∈ l, t.Secs.length ≤ 4611686018427387904) (hla : a.length ≤ 4611686018427387904) : ref07_Legal l a = some (decide (patP l a)) := by
  unfold ref07_Legal
  simp only [jn_eq, fk_t, fk_f]
  rw [bnd_eq (ref05_All_eq l hl hs)]
  by_cases ha : AllP l
  rotate_left
  · rw [decide_eq_false ha, Bool.not_false, fk_t]; exact dec_f fun h => ha h.1
  rw [decide_eq_true ha, Bool.not_true, fk_f]
  by_cases hn : (a.length : Int) = (l.length : Int)
  rotate_left
  · rw [decide_eq_false hn, Bool.not_false, fk_t]; exact dec_f fun h => hn (by have := h.2.1; omega)
  rw [decide_eq_true hn, Bool.not_true, fk_f]
  have hn2 : a.length = l.length := by omega
  refine lp_up a.length (by unfold FU; omega) (fun k => ∀ i (h : i < a.length) (h2 : i < l.length), i < k → rowP l[i].T a[i]) (fun i _ _ h => by omega) ?_
  intro nx k hk J hnx
  rw [lt_nat]
  by_cases h : k < a.length
  rotate_left
  · rw [decide_eq_false h, fk_f]
    exact dec_t ⟨ha, hn2, fun i h1 h2 => J i h1 h2 (by omega)⟩
  have h' : k < l.length := by omega
  rw [decide_eq_true h, fk_t]
  simp only [ix_lt h, ix_lt h']
  have bad : ¬ rowP l[k].T a[k] → some false = some (decide (patP l a)) := fun hb => dec_f fun hp => hb (hp.2.2 k h h')
  by_cases c1 : (a[k].length : Int) > 1000
  · rw [decide_eq_true c1, fk_t]; exact bad fun hp => by have := hp.1; omega
  rw [decide_eq_false c1, fk_f]
  have hcT := (ha.1 _ (List.getElem_mem h')).c
  refine lp_up a[k].length (by unfold FU; omega) (fun q => ∀ j (hj : j < a[k].length), j < q → 0 ≤ a[k][j] ∧ a[k][j] ≤ 4611686018427387903 ∧ (0 < j → a[k][j - 1] + l[k].T ≤ a[k][j])) (fun j _ h => by omega) ?_
  intro nx2 q hq K hnx2
  rw [lt_nat]
  by_cases h2 : q < a[k].length
  rotate_left
  · rw [decide_eq_false h2, fk_f, wr_succ k _ h hla]
    refine hnx h fun i hi hi2 hik => ?_
    by_cases e : i = k
    · subst e; exact ⟨by omega, fun j hj => K j hj (by omega)⟩
    · exact J i hi hi2 (by omega)
  rw [decide_eq_true h2, fk_t, ix_lt h2, wr_succ q _ h2 (by omega)]
  by_cases c2 : a[k][q] < 0
  · rw [decide_eq_true c2, fk_t]; exact bad fun hp => by have := hp.2 q h2; omega
  rw [decide_eq_false c2, fk_f]
  by_cases c3 : a[k][q] > 4611686018427387903
  · rw [decide_eq_true c3, fk_t]; exact bad fun hp => by have := hp.2 q h2; omega
  rw [decide_eq_false c3, fk_f]
  have go : (0 < q → a[k][q - 1] + l[k].T ≤ a[k][q]) → nx2 ((q + 1 : Nat) : Int) = some (decide (patP l a)) := fun hgo => hnx2 h2 fun j hj hjq => by
    by_cases e : j = q
    · subst e; exact ⟨by omega, by omega, hgo⟩
    · exact K j hj (by omega)
  by_cases c4 : (q : Int) > 0
  rotate_left
  · rw [decide_eq_false c4, fk_f]; exact go fun h => by omega
  rw [decide_eq_true c4, fk_t, wr_in ((q : Int) - 1) (by omega), ix_int (by omega) (by omega)]
  have e1 : ((q : Int) - 1).toNat = q - 1 := by omega
  simp only [e1]
  have hp := K (q - 1) (by omega) (by omega)
  rw [wr_in _ (by omega)]
  by_cases c5 : a[k][q] < a[k][q - 1] + l[k].T
  · rw [decide_eq_true c5, fk_t]; exact bad fun hp => by have := (hp.2 q h2).2.2 (by omega); omega
  · rw [decide_eq_false c5, fk_f]; exact go fun _ => by omega
/-- what one row asks -/
def hitP (D s e : Int) (x : Int) : Bool := decide (s ≤ x) && decide (x + D ≤ e)
def rowV (t : Task) (s e : Int) (r : List Int) : Int := t.C * (r.countP (hitP t.D s e) : Int)
def ofV (s e : Int) : List Task → List (List Int) → Int
  | t :: l, r :: a => rowV t s e r + ofV s e l a
  | _, _ => 0
theorem ofV_append (s e : Int) : ∀ (l l2 : List Task) (a a2 : List (List Int)), l.length = a.length → ofV s e (l ++ l2) (a ++ a2) = ofV s e l a + ofV s e l2 a2
  | [], l2, [], a2, _ => by simp [ofV]
  | t :: l, l2, r :: a, a2, h => by
    have := ofV_append s e l l2 a a2 (by simpa using h)
    simp only [List.cons_append, ofV, this]; omega
theorem ofV_succ (s e : Int) (l : List Task) (a : List (List Int)) (h : a.length = l.length) (k : Nat) (hk : k < l.length) : ofV s e (l.take (k + 1)) (a.take (k + 1)) = ofV s e (l.take k) (a.take k) + rowV l[k] s e (a[k]'(by omega)) := by
  rw [← List.take_append_getElem hk, ← List.take_append_getElem (show k < a.length by omega), ofV_append _ _ _ _ _ _ (by rw [List.length_take, List.length_take, h])]
  simp [ofV]
theorem countP_succ {α : Type} (p : α → Bool) (l : List α) (k : Nat) (h : k < l.length) : (l.take (k + 1)).countP p = (l.take k).countP p + (if p l[k] = true then 1 else 0) := by
  rw [← List.take_append_getElem h, List.countP_append, List.countP_singleton]
theorem rowV_b {t : Task} {s e : Int} {r : List Int} (ht : RightP t) (h : r.length ≤ 1000) : 0 ≤ rowV t s e r ∧ rowV t s e r ≤ 200000 := by
  have hc := ht.c
  have := List.countP_le_length (p := hitP t.D s e) (l := r)
  refine ⟨Int.mul_nonneg (by omega) (by omega), Int.mul_le_mul (a := t.C) (c := 200) (b := (r.countP (hitP t.D s e) : Int)) (d := 1000) (by omega) (by omega) (by omega) (by omega)⟩
theorem ofV_b {s e : Int} : ∀ {l : List Task} {a : List (List Int)}, (∀ t ∈ l, RightP t) → (∀ r ∈ a, r.length ≤ 1000) → 0 ≤ ofV s e l a ∧ ofV s e l a ≤ 200000 * (l.length : Int)
  | [], a, _, _ => by simp [ofV]
  | t :: l, [], _, _ => by simp [ofV]; omega
  | t :: l, r :: a, h1, h2 => by
    have := rowV_b (s := s) (e := e) (h1 t List.mem_cons_self) (h2 r List.mem_cons_self)
    have := ofV_b (s := s) (e := e) (l := l) (a := a) (fun t ht => h1 t (List.mem_cons_of_mem _ ht)) (fun t ht => h2 t (List.mem_cons_of_mem _ ht))
    simp only [ofV, List.length_cons]; omega
end Go.Proofs.Ytcgliccegpjnfaa
namespace Go.Proofs.Ytcgliccegpjnfaa
open Go Go.VC
theorem patP.rows {l : List Task} {a : List (List Int)} (h : patP l a) : ∀ r ∈ a, r.length ≤ 1000 := by
  intro r hr
  obtain ⟨i, hi, rfl⟩ := List.getElem_of_mem hr
  exact (h.2.2 i hi (by have := h.2.1; omega)).1
theorem demand_Of_eq (l : List Task) (a : List (List Int)) (s e : Int) (hl : l.length ≤ 4611686018427387904) (hla : a.length ≤ 4611686018427387904) : demand_Of l a s e = some (if patP l a then ofV s e l a else 0, if patP l a then 0 else 1) := by
  unfold demand_Of
  rw [bnd_eq (demand_Legal_eq l a hl hla)]
  by_cases hp : patP l a
  rotate_left
  · rw [decide_eq_false hp, Bool.not_false, fk_t, if_neg hp, if_neg hp]
  rw [decide_eq_true hp, Bool.not_true, fk_f, if_pos hp, if_pos hp]
  simp only [jn_eq]
  have hn := hp.2.1
  have h8 := hp.1.2
  refine lp_upS a.length (by unfold FU; omega) (fun k w => w = ofV s e (l.take k) (a.take k)) 0 (by simp [ofV]) ?_
  rintro nx k w hk rfl hnx
  simp only
  rw [lt_nat]
  by_cases h : k < a.length
  rotate_left
  · rw [decide_eq_false h, fk_f]
    have : k = a.length := by omega
    subst this
    rw [List.take_length, hn, List.take_length]
  have h' : k < l.length := by omega
  rw [decide_eq_true h, fk_t, ix_lt h]
  simp only [ix_lt h']
  have hr := hp.1.1 _ (List.getElem_mem h')
  have hc := hr.c
  obtain ⟨hr1, hr2⟩ := hp.2.2 k h h'
  have hS := ofV_succ s e l a hn k h'
  have hb := ofV_b (s := s) (e := e) (l := l.take k) (a := a.take k) (fun t ht => hp.1.1 t (List.mem_of_mem_take ht)) (fun t ht => hp.rows t (List.mem_of_mem_take ht))
  have hb2 : ((l.take k).length : Int) ≤ 8 := by rw [List.length_take]; omega
  generalize ofV s e (l.take k) (a.take k) = A at *
  refine lp_upS a[k].length (by unfold FU; omega) (fun j w => w = A + rowV l[k] s e (a[k].take j)) A (by simp [rowV]) ?_
  rintro nx2 j w hj rfl hnx2
  simp only
  rw [lt_nat]
  by_cases h2 : j < a[k].length
  rotate_left
  · rw [decide_eq_false h2, fk_f, wr_succ k _ h (by omega)]
    refine hnx _ h ?_
    have : j = a[k].length := by omega
    subst this
    rw [List.take_length, hS]
  rw [decide_eq_true h2, fk_t, ix_lt h2, wr_succ j _ h2 (by omega)]
  have hv := hr2 j h2
  have hrb := rowV_b (s := s) (e := e) hr (r := a[k].take j) (by rw [List.length_take]; omega)
  have hs := countP_succ (hitP l[k].D s e) a[k] j h2
  have step : rowV l[k] s e (a[k].take (j + 1)) = rowV l[k] s e (a[k].take j) + (if hitP l[k].D s e a[k][j] = true then l[k].C else 0) := by
    unfold rowV
    rw [hs]
    by_cases c : hitP l[k].D s e a[k][j] = true
    · rw [if_pos c, if_pos c, Int.natCast_add, Int.mul_add]; simp
    · rw [if_neg c, if_neg c]; simp
  rw [wr_in (a[k][j] + l[k].D) (by omega)]
  by_cases c1 : a[k][j] ≥ s
  · rw [decide_eq_true c1, fk_t]
    by_cases c2 : a[k][j] + l[k].D ≤ e
    · rw [decide_eq_true c2, fk_t, wr_in _ (by omega)]
      refine hnx2 _ h2 ?_
      rw [step, if_pos (by unfold hitP; rw [decide_eq_true c1, decide_eq_true c2]; rfl)]; omega
    · rw [decide_eq_false c2, fk_f]
      refine hnx2 _ h2 ?_
      rw [step, if_neg (by unfold hitP; rw [decide_eq_false c2]; simp)]; omega
  · rw [decide_eq_false c1, fk_f]
    refine hnx2 _ h2 ?_
    rw [step, if_neg (by unfold hitP; rw [decide_eq_false c1]; simp)]; omega
theorem ref07_Of_eq (l : List Task) (a : List (List Int)) (s e : Int) (hp : patP l a) : ref07_Of l a s e = some (ofV s e l a) := by
  unfold ref07_Of
  simp only [jn_eq]
  have hn := hp.2.1
  have h8 := hp.1.2
  refine lp_upS a.length (by unfold FU; omega) (fun k w => w = ofV s e (l.take k) (a.take k)) 0 (by simp [ofV]) ?_
  rintro nx k w hk rfl hnx
  simp only
  rw [lt_nat]
  by_cases h : k < a.length
  rotate_left
  · rw [decide_eq_false h, fk_f]
    have : k = a.length := by omega
    subst this
    rw [List.take_length, hn, List.take_length]
  have h' : k < l.length := by omega
  rw [decide_eq_true h, fk_t]
  simp only [ix_lt h', ix_lt h]
  have hr := hp.1.1 _ (List.getElem_mem h')
  have hc := hr.c
  obtain ⟨hr1, hr2⟩ := hp.2.2 k h h'
  have hS := ofV_succ s e l a hn k h'
  have hb := ofV_b (s := s) (e := e) (l := l.take k) (a := a.take k) (fun t ht => hp.1.1 t (List.mem_of_mem_take ht)) (fun t ht => hp.rows t (List.mem_of_mem_take ht))
  have hb2 : ((l.take k).length : Int) ≤ 8 := by rw [List.length_take]; omega
  generalize ofV s e (l.take k) (a.take k) = A at *
  refine lp_upS a[k].length (by unfold FU; omega) (fun j w => w = A + rowV l[k] s e (a[k].take j)) A (by simp [rowV]) ?_
  rintro nx2 j w hj rfl hnx2
  simp only
  rw [lt_nat]
  by_cases h2 : j < a[k].length
  rotate_left
  · rw [decide_eq_false h2, fk_f, wr_succ k _ h (by omega)]
    refine hnx _ h ?_
    have : j = a[k].length := by omega
    subst this
    rw [List.take_length, hS]
  rw [decide_eq_true h2, fk_t, ix_lt h2, wr_succ j _ h2 (by omega)]
  have hv := hr2 j h2
  have hrb := rowV_b (s := s) (e := e) hr (r := a[k].take j) (by rw [List.length_take]; omega)
  have hs := countP_succ (hitP l[k].D s e) a[k] j h2
  have step : rowV l[k] s e (a[k].take (j + 1)) = rowV l[k] s e (a[k].take j) + (if hitP l[k].D s e a[k][j] = true then l[k].C else 0) := by
    unfold rowV
    rw [hs]
    by_cases c : hitP l[k].D s e a[k][j] = true
    · rw [if_pos c, if_pos c, Int.natCast_add, Int.mul_add]; simp
    · rw [if_neg c, if_neg c]; simp
  rw [wr_in (a[k][j] + l[k].D) (by omega)]
  by_cases c1 : s ≤ a[k][j]
  · rw [decide_eq_true c1, fk_t]
    by_cases c2 : a[k][j] + l[k].D ≤ e
    · rw [decide_eq_true c2, fk_t, wr_in _ (by omega)]
      refine hnx2 _ h2 ?_
      rw [step, if_pos (by unfold hitP; rw [decide_eq_true c1, decide_eq_true c2]; rfl)]; omega
    · rw [decide_eq_false c2, fk_f]
      refine hnx2 _ h2 ?_
      rw [step, if_neg (by unfold hitP; rw [decide_eq_false c2]; simp)]; omega
  · rw [decide_eq_false c1, fk_f]
    refine hnx2 _ h2 ?_
    rw [step, if_neg (by unfold hitP; rw [decide_eq_false c1]; simp)]; omega
def great7 (l : List Task) (a : List (List Int)) : Prop := (∃ r ∈ a, 1100 < r.length) ∨ GreatP l ∨ 20 < a.length
instance (l : List Task) (a : List (List Int)) : Decidable (great7 l a) := by unfold great7; infer_instance
theorem law07_great_eq (l : List Task) (a : List (List Int)) (hl : l.length ≤ 4611686018427387904) (hla : a.length ≤ 4611686018427387904) : law07_great l a = some (decide (great7 l a)) := by
  unfold law07_great
  refine lp_up a.length (by unfold FU; omega) (fun k => ∀ j (h : j < a.length), j < k → ¬ 1100 < a[j].length) (fun j _ h => by omega) ?_
  intro nx k hk J hnx
  rw [lt_nat]
  by_cases h : k < a.length
  · rw [decide_eq_true h, fk_t, ix_lt h, wr_succ k _ h hla]
    by_cases c : (a[k].length : Int) > 1100
    · rw [decide_eq_true c, fk_t]; exact dec_t (.inl ⟨_, List.getElem_mem h, by omega⟩)
    · rw [decide_eq_false c, fk_f]
      refine hnx h fun j hj hjk => ?_
      by_cases e : j = k
      · subst e; omega
      · exact J j hj (by omega)
  · rw [decide_eq_false h, fk_f, bnd_eq (law05_Great_eq l hl)]
    by_cases hg : GreatP l
    · rw [decide_eq_true hg, fk_t]; exact dec_t (.inr (.inl hg))
    rw [decide_eq_false hg, fk_f]
    refine dec_iff ⟨fun h1 => .inr (.inr (by omega)), ?_⟩
    rintro (⟨r, hr, h1⟩ | h1 | h1)
    · obtain ⟨j, hj, rfl⟩ := List.getElem_of_mem hr
      exact absurd h1 (J j hj (by omega))
    · exact absurd h1 hg
    · omega
theorem cnt_low {t : Task} (ht : RightP t) {s e : Int} {r : List Int} (hr : rowP t.T r) : ∀ k, k ≤ r.length → (r.take k).countP (hitP t.D s e) = 0 ∨ (0 < k ∧ ∃ h : k - 1 < r.length, s + t.T * (((r.take k).countP (hitP t.D s e) : Int) - 1) ≤ r[k - 1] ∧ s + t.T * (((r.take k).countP (hitP t.D s e) : Int) - 1) + t.D ≤ e)
  | 0, _ => .inl (by simp)
  | k + 1, hk => by
    have hc := ht.c
    have h : k < r.length := by omega
    have ih := cnt_low ht (s := s) (e := e) hr k (by omega)
    have hs := countP_succ (hitP t.D s e) r k h
    have hstep := (hr.2 k h).2.2
    by_cases c : hitP t.D s e r[k] = true
    · rw [if_pos c] at hs
      have c1 : s ≤ r[k] ∧ r[k] + t.D ≤ e := by unfold hitP at c; simpa using c
      refine .inr ⟨by omega, by simpa using h, ?_⟩
      rw [hs]
      simp only [Nat.add_sub_cancel]
      rcases ih with ih | ⟨i0, i1, i2, i3⟩
      · rw [ih]; simp; omega
      · have := hstep i0
        generalize List.countP (hitP t.D s e) (r.take k) = n at *
        have e1 : t.T * (((n + 1 : Nat) : Int) - 1) = t.T * ((n : Int) - 1) + t.T := by
          rw [show (((n + 1 : Nat) : Int) - 1) = ((n : Int) - 1) + 1 from by omega, Int.mul_add, Int.mul_one]
        rw [e1]; omega
    · have hs' : (r.take (k + 1)).countP (hitP t.D s e) = (r.take k).countP (hitP t.D s e) := by rw [hs, if_neg c]; rfl
      rw [hs']
      rcases ih with ih | ⟨i0, i1, i2, i3⟩
      · exact .inl ih
      · refine .inr ⟨by omega, by simpa using h, ?_, i3⟩
        have := hstep i0
        simp only [Nat.add_sub_cancel]
        omega
theorem cnt_le {t : Task} (ht : RightP t) {s e : Int} {r : List Int} (hr : rowP t.T r) (hse : s ≤ e) : (r.countP (hitP t.D s e) : Int) ≤ jobsN t (e - s) := by
  have hc := ht.c
  have h := cnt_low ht (s := s) (e := e) hr r.length (Nat.le_refl _)
  rw [List.take_length] at h
  have hj := jobsN_b ht (k := e - s) (by omega)
  rcases h with h | ⟨_, _, _, h⟩
  · rw [h]; simpa using hj.1
  · generalize List.countP (hitP t.D s e) r = n at *
    by_cases z : n = 0
    · subst z; simpa using hj.1
    have h0 := Int.mul_nonneg (a := t.T) (b := (n : Int) - 1) (by omega) (by omega)
    unfold jobsN
    rw [if_neg (by omega)]
    have : (n : Int) - 1 ≤ (e - s - t.D) / t.T := (Int.le_ediv_iff_mul_le (by omega)).2 (by rw [Int.mul_comm]; omega)
    omega
theorem ofV_le {s e : Int} (hse : s ≤ e) : ∀ {l : List Task} {a : List (List Int)}, (∀ t ∈ l, RightP t) → (∀ i (h : i < a.length) (h2 : i < l.length), rowP l[i].T a[i]) → ofV s e l a ≤ sumB l (e - s)
  | [], a, _, _ => by simp [ofV, sumB, sumI]
  | t :: l, [], h1, _ => by
    have := sumI_nonneg (f := costN (e - s)) (l := t :: l) fun x hx => costN_nonneg (h1 x hx) (by omega)
    simp only [ofV]; exact this
  | t :: l, r :: a, h1, h2 => by
    have ht := h1 t List.mem_cons_self
    have := ofV_le hse (l := l) (a := a) (fun t ht => h1 t (List.mem_cons_of_mem _ ht)) (fun i h h' => h2 (i + 1) (by simp; omega) (by simp; omega))
    have hm : rowV t s e r ≤ costN (e - s) t := Int.mul_le_mul_of_nonneg_left (cnt_le ht (h2 0 (by simp) (by simp)) hse) (by have := ht.c; omega)
    simp only [ofV, sumB, sumI] at *; omega
end Go.Proofs.Ytcgliccegpjnfaa
namespace Go.Proofs.Ytcgliccegpjnfaa
open Go Go.VC
def rowN (T : Int) (n : Nat) : List Int := (List.range n).map fun j : Nat => T * (j : Int)
theorem rowN_len (T : Int) (n : Nat) : (rowN T n).length = n := by simp [rowN]
theorem rowN_succ (T : Int) (n : Nat) : rowN T (n + 1) = rowN T n ++ [T * (n : Int)] := by simp [rowN, List.range_succ]
theorem rowN_get (T : Int) (n j : Nat) (h : j < (rowN T n).length) : (rowN T n)[j] = T * (j : Int) := by simp [rowN]
def firstRow (T k : Int) : List Int := rowN T (k / T + 1).toNat
theorem first_is {T k : Int} (hT : 1 ≤ T) (h0 : 0 ≤ k) {n : Nat} (h1 : k < T * (n : Int)) (h2 : n = 0 ∨ T * ((n : Int) - 1) ≤ k) : firstRow T k = rowN T n := by
  have hn : n ≠ 0 := by rintro rfl; simp at h1; omega
  have a1 : (n : Int) - 1 ≤ k / T := (Int.le_ediv_iff_mul_le (by omega)).2 (by rw [Int.mul_comm]; omega)
  have a2 : k / T < (n : Int) := Int.ediv_lt_of_lt_mul (by omega) (by rw [Int.mul_comm]; omega)
  unfold firstRow
  rw [show (k / T + 1).toNat = n from by omega]
def firstA (l : List Task) (k : Int) : List (List Int) := l.map fun t => firstRow t.T k
theorem ref07_First_eq (l : List Task) (k : Int) (ha : AllP l) (h0 : 0 ≤ k) (h1 : k ≤ 900) : ref07_First l k = some (firstA l k) := by
  unfold ref07_First
  simp only [jn_eq]
  have h8 := ha.2
  refine lp_upS l.length (by unfold FU; omega) (fun i o => o = firstA (l.take i) k) [] (by simp [firstA]) ?_
  rintro nx i o hi rfl hnx
  simp only
  rw [lt_nat]
  by_cases h : i < l.length
  rotate_left
  · rw [decide_eq_false h, fk_f]
    have : i = l.length := by omega
    subst this
    rw [List.take_length]
  rw [decide_eq_true h, fk_t, wr_succ i _ h (by omega)]
  simp only [ix_lt h]
  have hc := (ha.1 _ (List.getElem_mem h)).c
  have hol : (firstA (l.take i) k).length = i := by simp [firstA]; omega
  have hS : firstA (l.take (i + 1)) k = firstA (l.take i) k ++ [firstRow l[i].T k] := by
    unfold firstA; rw [← List.take_append_getElem h, List.map_append]; rfl
  have hn := hnx (firstA (l.take (i + 1)) k) h rfl
  rw [hS] at hn
  clear hnx
  generalize firstA (l.take i) k = o at *
  generalize l[i].T = T at *
  refine lp_inv (fun v => 1000 - v.1.length) (fun v => ∃ n : Nat, v.1 = rowN T n ∧ v.2 = T * (n : Int) ∧ n ≤ 901 ∧ (n = 0 ∨ T * ((n : Int) - 1) ≤ k)) ?_ FU _ ⟨0, by simp [rowN], by simp, by decide, .inl rfl⟩ (by show 1000 - 0 < FU; unfold FU; omega)
  rintro nx2 ⟨r, x⟩ ⟨n, hr, hx, hn1, hnn⟩ hnx2
  simp only at hr hx
  subst hr hx
  simp only
  have hlen := rowN_len T n
  have hTn : (n : Int) ≤ T * (n : Int) := by
    have := Int.mul_le_mul_of_nonneg_right (a := 1) (b := T) (c := (n : Int)) (by omega) (by omega)
    omega
  have hTb : T * (n : Int) ≤ 200 * 901 := Int.mul_le_mul (by omega) (by omega) (by omega) (by omega)
  by_cases c : T * (n : Int) ≤ k
  · rw [decide_eq_true c, fk_t, decide_eq_true (by omega), fk_t, ck_t (by simp; omega), wr_in _ (by omega), ← rowN_succ]
    refine hnx2 _ ⟨n + 1, rfl, ?_, by omega, .inr ?_⟩ (by simp only [rowN_len]; omega)
    · rw [Int.natCast_add, Int.mul_add]; simp
    · rw [show ((n + 1 : Nat) : Int) - 1 = (n : Int) from by omega]; exact c
  · rw [decide_eq_false c, fk_f, fk_f, ck_t (by simp; omega), ← first_is (by omega) h0 (by omega) hnn]
    exact hn
theorem first_row {t : Task} (ht : RightP t) {k : Int} (h0 : 0 ≤ k) (h1 : k ≤ 900) : rowP t.T (firstRow t.T k) := by
  have hc := ht.c
  have hq : k / t.T ≤ k := Int.ediv_le_self _ h0
  have hq0 : 0 ≤ k / t.T := Int.ediv_nonneg h0 (by omega)
  unfold firstRow
  have hn : (k / t.T + 1).toNat ≤ 901 := by omega
  generalize (k / t.T + 1).toNat = n at *
  refine ⟨by rw [rowN_len]; omega, fun j hj => ?_⟩
  have hj2 : j < n := by rw [rowN_len] at hj; exact hj
  rw [rowN_get]
  have b0 : 0 ≤ t.T * (j : Int) := Int.mul_nonneg (by omega) (by omega)
  have b1 : t.T * (j : Int) ≤ 200 * 901 := Int.mul_le_mul (by omega) (by omega) (by omega) (by omega)
  refine ⟨b0, by omega, fun hj0 => ?_⟩
  rw [rowN_get]
  have : t.T * (j : Int) = t.T * ((j - 1 : Nat) : Int) + t.T := by
    rw [show (j : Int) = ((j - 1 : Nat) : Int) + 1 from by omega, Int.mul_add, Int.mul_one]
  omega
theorem first_val {t : Task} (ht : RightP t) {k : Int} (h0 : 0 ≤ k) (h1 : k ≤ 900) : rowV t 0 k (firstRow t.T k) = costN k t := by
  have hc := ht.c
  have hle := cnt_le ht (s := 0) (e := k) (first_row ht h0 h1) h0
  rw [Int.sub_zero] at hle
  have hj := jobsN_b ht h0
  have hge : jobsN t k ≤ ((firstRow t.T k).countP (hitP t.D 0 k) : Int) := by
    unfold jobsN
    by_cases c : k < t.D
    · rw [if_pos c]; omega
    · rw [if_neg c]
      have hm0 : 0 ≤ (k - t.D) / t.T := Int.ediv_nonneg (by omega) (by omega)
      have hmn : (k - t.D) / t.T ≤ k / t.T := Int.ediv_le_ediv (by omega) (by omega)
      have hmul : t.T * ((k - t.D) / t.T) ≤ k - t.D := Int.mul_ediv_self_le (by omega)
      generalize (k - t.D) / t.T = m at *
      have hl : ((firstRow t.T k).take (m + 1).toNat).length = (m + 1).toNat := by
        unfold firstRow; rw [List.length_take, rowN_len]; omega
      have hall : ((firstRow t.T k).take (m + 1).toNat).countP (hitP t.D 0 k) = ((firstRow t.T k).take (m + 1).toNat).length := by
        rw [List.countP_eq_length]
        intro x hx
        obtain ⟨j, hj, rfl⟩ := List.getElem_of_mem hx
        rw [List.getElem_take]
        rw [hl] at hj
        have e : (firstRow t.T k)[j]'(by rw [List.length_take] at hl; omega) = t.T * (j : Int) := by unfold firstRow; rw [rowN_get]
        rw [e]
        have a1 : t.T * (j : Int) ≤ t.T * m := Int.mul_le_mul_of_nonneg_left (by omega) (by omega)
        have a0 : 0 ≤ t.T * (j : Int) := Int.mul_nonneg (by omega) (by omega)
        unfold hitP
        rw [decide_eq_true a0, decide_eq_true (by omega)]; rfl
      have hsub := List.Sublist.countP_le (p := hitP t.D 0 k) (List.take_sublist (m + 1).toNat (firstRow t.T k))
      omega
  unfold rowV costN
  rw [show ((firstRow t.T k).countP (hitP t.D 0 k) : Int) = jobsN t k from by omega]
theorem first_ofV {k : Int} (h0 : 0 ≤ k) (h1 : k ≤ 900) : ∀ {l : List Task}, (∀ t ∈ l, RightP t) → ofV 0 k l (firstA l k) = sumB l k
  | [], _ => rfl
  | t :: l, h => by
    have := first_ofV h0 h1 (l := l) fun t ht => h t (List.mem_cons_of_mem _ ht)
    have e := first_val (h t List.mem_cons_self) h0 h1
    simp only [firstA, List.map_cons, ofV, sumB, sumI] at *
    omega
theorem first_pat {l : List Task} {k : Int} (ha : AllP l) (h0 : 0 ≤ k) (h1 : k ≤ 900) : patP l (firstA l k) := by
  refine ⟨ha, by simp [firstA], fun i h h2 => ?_⟩
  have e : (firstA l k)[i] = firstRow l[i].T k := by simp [firstA]
  rw [e]
  exact first_row (ha.1 _ (List.getElem_mem h2)) h0 h1
end Go.Proofs.Ytcgliccegpjnfaa
namespace Go.Proofs.Ytcgliccegpjnfaa
open Go Go.VC
theorem proofDemandFirst : PureDemandFirst := by
  intro l k hl hk
  have hll : l.length ≤ 4611686018427387904 := wf_len hl.1 (Nat.le_refl _)
  have hsl : ∀ t ∈ l, t.Secs.length ≤ 4611686018427387904 := fun t ht => (hl.2 t ht).len
  unfold law07_DemandFirst
  simp only [jn_eq, law07_knows_eq, bnd_some, fk_t]
  rw [bnd_eq (law05_Great_eq l hll)]
  by_cases hg : GreatP l
  · rw [decide_eq_true hg, fk_t]
  rw [decide_eq_false hg, fk_f, bnd_eq (ref05_All_eq l hll hsl)]
  by_cases ha : AllP l
  rotate_left
  · rw [decide_eq_false ha, Bool.not_false, fk_t]
  rw [decide_eq_true ha, Bool.not_true, fk_f]
  by_cases c1 : k < 0
  · rw [decide_eq_true c1, fk_t]
  rw [decide_eq_false c1, fk_f]
  by_cases c2 : k > 900
  · rw [decide_eq_true c2, fk_t]
  have hp := first_pat ha (k := k) (by omega) (by omega)
  have hla : (firstA l k).length ≤ 4611686018427387904 := by have := hp.2.1; omega
  rw [decide_eq_false c2, fk_f, bnd_eq (ref07_First_eq l k ha (by omega) (by omega)), bnd_eq (demand_Bound_small l k ha (by omega) (by omega)), bnd_eq (demand_Of_eq l _ 0 k hll hla), bnd_eq (demand_Legal_eq l _ hll hla), if_pos hp, if_pos hp, decide_eq_true hp, fk_t, first_ofV (by omega) (by omega) ha.1]
  simp only [decide_true, fk_t]
end Go.Proofs.Ytcgliccegpjnfaa
namespace Go.Proofs.Ytcgliccegpjnfaa.demandFirst
open Go Go.VC Go.ChangeShapes Go.WideShapes Go.ChangeAt Go.RowKit
theorem own : ownKnob Try.prog.godebug = none := by kernel_rfl
theorem laidOut : laidOutB Try.prog = true := by kernel_rfl
theorem lifted (os : Os) (started : os.Started) (H : Type) (enc : TypeId × Value → H) :
    ReturnsInHanded {} Try.checked os 7 .any (Rows.demandFirstSpec.pre6 enc Try.prog Try.f7 Rows.demandFirstRow.domain false) (Rows.demandFirstSpec.post enc Try.prog Try.f7 false true false false) := by
  refine returnsInHanded_of_change_sized (C := Try.checked) own started (by kernel_rfl) Try.func7
    (ChangeSpec.witness6 (enc := enc) (C := Try.checked) false ⟨#[], #[.slice none 0 0, .int .i64 0], []⟩ 8 (by kernel_rfl) (by kernel_rfl) (by kernel_rfl) (by kernel_rfl)) ?_
  intro W base args ds gs before hval0 hW hcnd hsz0 _
  have hsz : (DataW.weightsEach Try.prog (Try.f7.params.toList ++ Rows.demandFirstSpec.plain.varTypes Try.prog) (ds ++ gs)).all (· ≤ reachBytes) = true := hsz0
  have hval : ∀ (j : Nat) t v, Try.f7.params[j]? = some t → args[j]? = some v → Value.okWide Try.prog W .any base t v := hval0
  have hW' := hW
  obtain ⟨p, q, hA0, hV, rfl, hfz, hnd⟩ := hW
  have hA : DataW.TrodAll enc Try.prog W 0 (fun _ => true) true Try.f7.params.toList args.toList ds p := hA0
  rw [Try.params7] at hA hval hsz
  obtain ⟨v0, vs0, d0, ds0, p0, q0, hargs, rfl, rfl, h0, r0⟩ := trodAll_cons hA
  obtain ⟨v1, vs1, d1, ds1, p1, q1, rfl, rfl, rfl, h1, r1⟩ := trodAll_cons r0
  obtain ⟨rfl, rfl, rfl⟩ := trodAll_nil r1
  obtain rfl : args = #[v0, v1] := by cases args; simp_all
  obtain ⟨rfl, rfl⟩ := trodVars_none hV
  have lt0 : ∀ x ∈ p0, x.block < W.heap.size := by obtain ⟨m, hm⟩ := h0; exact DataW.trod_lt m _ _ _ hm
  have wt0 : ∀ k ∈ d0.weights Try.prog 22, k ≤ BB := fun k hk => of_decide_eq_true (List.all_eq_true.1 hsz _ (DataW.weights_mem_each (j := 0) rfl rfl k hk))
  obtain ⟨c0, s0, g0⟩ := open_cv tab (m := 8) (t := 22) rfl (hval 0 22 v0 rfl rfl) h0 wt0
  have g0 := g0 _ T22
  obtain ⟨a0, rfl, w0⟩ := (s0.l (f := Task.enc) (W := (fun x => Task.wf x)) T22 T32 (fun _ _ h => (Task.of h)))
  have lt1 : ∀ x ∈ p1, x.block < W.heap.size := by obtain ⟨m, hm⟩ := h1; exact DataW.trod_lt m _ _ _ hm
  have wt1 : ∀ k ∈ d1.weights Try.prog 3, k ≤ BB := fun k hk => of_decide_eq_true (List.all_eq_true.1 hsz _ (DataW.weights_mem_each (j := 1) rfl rfl k hk))
  obtain ⟨c1, s1, g1⟩ := open_cv tab (m := 8) (t := 3) rfl (hval 1 3 v1 rfl rfl) h1 wt1
  have g1 := g1 _ T3
  obtain ⟨a1, rfl, w1⟩ := (s1.i T3)
  clear hA0 hval0 hsz0 hsz
  have pure := proofDemandFirst a0 a1 w0 w1
  refine ((law07_DemandFirst_w a0 a1 true pure).2 W (pw W) [v0, v1] (fun _ h => h) (All2.cons g0 (All2.cons g1 All2.nil))).mono fun e W' ⟨v, rs, p', he, hR, hrep, bel, _⟩ => ?_
  subst hR he
  obtain rfl := RepD_bool hrep
  exact ⟨_, rfl, _, _, _, [], _, [], hW', trodAll_mk1 (shut_bool Try.underlying4 _), (trodAll_cons_mk (Below.trod laidOut (by kernel_rfl) (of_decide_eq_true (by kernel_rfl)) h0 bel lt0) (trodAll_cons_mk (Below.trod laidOut (by kernel_rfl) (of_decide_eq_true (by kernel_rfl)) h1 bel lt1) trodAll_mk0)), rfl, bel.frame _, fun h => by cases h⟩
theorem over : Rows.demandFirstRow.holds Try.pinned (OpenSpec.ofChange Rows.demandFirstSpec) :=
  OpenClaim.holds_of_wide 7 Try.f7 rfl rfl rfl rfl rfl rfl rfl ⟨rfl, rfl, rfl, rfl, rfl⟩ rfl rfl rfl rfl rfl (by kernel_rfl) Try.func7 (by kernel_rfl)
    (of_decide_eq_true (by kernel_rfl)) (by unfold Func.isWrapper; first | (rw [if_pos (by decide +kernel)]; kernel_rfl) | (rw [if_neg (by decide +kernel)]; exact ⟨rfl, rfl⟩))
    (fun os started H enc _ => lifted os started H enc)
end Go.Proofs.Ytcgliccegpjnfaa.demandFirst
namespace Go.Proofs.Ytcgliccegpjnfaa
theorem demandFirst_holds : Rows.DemandFirstSaid := demandFirst.over
end Go.Proofs.Ytcgliccegpjnfaa
