/- Part 18 of what follows is proved here: what the statement KernelSends needs of functions and plain laws. -/
import Derived.Test.YtldlcdnhdedoeaaGreatXKernelSends6
import Derived.Test.YtldlcdnhdedoeaaGreatXKernelSends0
set_option linter.unusedVariables false
set_option linter.unusedSimpArgs false
set_option maxRecDepth 100000
set_option maxHeartbeats 4000000
namespace Go.Proofs.YtldlcdnhdedoeaaGreat
open Go Go.VC
noncomputable def ref05_Right (a0 : Task) : Option Bool :=
  jn (fun (w1 : Bool) => fk w1 (some false) (lp (fun nx2 (v2 : Int) => fk (decide (v2 < (a0.Secs.length : Int))) (ix a0.Secs v2 fun x3 => jn (fun (w4 : Bool) => fk w4 (some false) (lp (fun nx5 (v5 : Int) => fk (decide (v5 < v2)) (ix a0.Secs v5 fun x6 => jn (fun (w7 : Bool) => fk w7 (some false) (lp (fun nx8 (v8 : Int × Int × Int) => fk (decide (v8.2.2 < (wr (x3.At + x3.Len)))) (jn (fun (w9 : Int × Int) => nx8 (w9.1, w9.2, (wr (v8.2.2 + (1 : Int))))) (fun k9 => fk (decide (v8.2.2 < (wr (x6.At + x6.Len)))) (k9 ((wr (v8.1 + (1 : Int))), v8.2.1)) (k9 (v8.1, (wr (v8.2.1 + (1 : Int))))))) (jn (fun (w10 : Bool) => fk w10 (some false) (nx5 (wr (v5 + (1 : Int))))) (fun k10 => fk (decide (v8.1 > (0 : Int))) (fk (decide (v8.2.1 > (0 : Int))) (k10 true) (k10 (decide (x6.Res = x3.Res)))) (k10 false)))) FU ((0 : Int), (0 : Int), x3.At))) (fun k7 => fk (decide (x3.At < x6.At)) (k7 true) (fk (decide (x3.At = x6.At)) (k7 (decide (x3.Len > x6.Len))) (k7 false)))) (nx2 (wr (v2 + (1 : Int))))) FU (0 : Int))) (fun k4 => fk (decide (x3.Res < (0 : Int))) (k4 true) (fk (decide (x3.Res > (3 : Int))) (k4 true) (fk (decide (x3.At < (0 : Int))) (k4 true) (fk (decide (x3.Len < (1 : Int))) (k4 true) (fk (decide (x3.At > a0.C)) (k4 true) (fk (decide (x3.Len > a0.C)) (k4 true) (k4 (decide ((wr (x3.At + x3.Len)) > a0.C)))))))))) (some true)) FU (0 : Int))) (fun k1 => fk (decide (a0.C < (1 : Int))) (k1 true) (fk (decide (a0.D < a0.C)) (k1 true) (fk (decide (a0.T < a0.D)) (k1 true) (fk (decide (a0.T > (200 : Int))) (k1 true) (k1 (decide ((a0.Secs.length : Int) > (4 : Int))))))))
theorem ref05_Right_w (a0 : Task) (r : Bool) (h : ref05_Right a0 = some r) : Go.VC.Spec Tryz.prog 150 [.agg (Task.enc a0)] (fun y => y = E_Bool r) := by
  refine Go.VC.Spec.of_xc (args := [.agg (Task.enc a0)]) (fn := Tryz.f150) tab ⟨[(0, [1]), (1, [1, 37]), (2, [2]), (3, [1, 3]), (4, [1, 3, 42]), (5, [1, 3]), (6, [1, 3, 4]), (7, [1, 3, 4, 91]), (8, [2]), (9, [1, 3, 4, 5]), (10, [1, 3, 4, 5, 94]), (11, [1, 3, 4, 5]), (12, [1, 3, 4, 5, 6]), (13, [1, 3, 4, 5, 6, 120]), (14, [2]), (15, [1, 3, 4, 5, 6, 7, 8]), (16, [1, 3, 4, 5, 6, 7, 8, 9]), (17, [1, 3, 4, 5, 6, 7, 8, 9, 129]), (18, [1, 3, 4, 5, 6, 7, 8, 9]), (19, [1, 3, 4, 5, 6, 7, 8, 9, 138]), (20, [1, 3, 4, 5, 6, 7, 8, 9]), (21, [1, 3, 4, 5, 6, 7, 8, 9]), (22, [1, 3, 4, 5, 155]), (23, [2]), (24, [2])], [], [100037, 100091, 100120, 18, 100155], []⟩ 156 [.tmp 2] rfl rfl rfl rfl rfl rfl ?_
  conv => whnf
  refine jnS (fun w1 => ⟨[(1, .l (.ptr 2 0)), (37, .l (.d (.bool w1)))], 156, [], [(2, [.d (.int .i64 a0.C), .d (.int .i64 a0.D), .d (.int .i64 a0.T), .d (.sl (a0.Secs.map Sec.enc))])], []⟩) h (fun k1 hk1 h => ?_) (fun w1 h => ?_)
  · conv => whnf
    refine fkS h (fun h => ?_) (fun h => ?_)
    · conv => whnf
      exact jeS hk1 h (Weak.refl _)
    conv => whnf
    refine fkS h (fun h => ?_) (fun h => ?_)
    · conv => whnf
      exact jeS hk1 h (Weak.refl _)
    conv => whnf
    refine fkS h (fun h => ?_) (fun h => ?_)
    · conv => whnf
      exact jeS hk1 h (Weak.refl _)
    conv => whnf
    refine fkS h (fun h => ?_) (fun h => ?_)
    · conv => whnf
      exact jeS hk1 h (Weak.refl _)
    conv => whnf
    refine lenS a0.Secs Sec.enc rfl ?_
    conv => whnf
    exact jeS hk1 h (Weak.refl _)
  conv => whnf
  refine fkS h (fun h => ?_) (fun h => ?_)
  · conv => whnf
    exact rt (E := E_Bool) h rfl
  conv => whnf
  refine lpS (fun v2 => ⟨[(1, .l (.ptr 2 0)), (3, .l (.d (.int .i64 v2)))], 156, [], [(2, [.d (.int .i64 a0.C), .d (.int .i64 a0.D), .d (.int .i64 a0.T), .d (.sl (a0.Secs.map Sec.enc))])], []⟩) h (Weak.refl _) (fun _ nx2 hn2 v2 h => ?_)
  conv => whnf
  refine lenS a0.Secs Sec.enc rfl ?_
  conv => whnf
  refine fkS h (fun h => ?_) (fun h => ?_)
  · conv => whnf
    refine ixS (enc := Sec.enc) h rfl (fun _ => rfl) (fun x3 h => ?_)
    conv => whnf
    refine jnS (fun w4 => ⟨[(1, .l (.ptr 2 0)), (3, .l (.d (.int .i64 v2))), (4, .l (.ptr 5 0)), (91, .l (.d (.bool w4)))], 156, [], [(2, [.d (.int .i64 a0.C), .d (.int .i64 a0.D), .d (.int .i64 a0.T), .d (.sl (a0.Secs.map Sec.enc))]), (5, [.d (.int .i64 x3.Res), .d (.int .i64 x3.At), .d (.int .i64 x3.Len)])], []⟩) h (fun k4 hk4 h => ?_) (fun w4 h => ?_)
    · conv => whnf
      refine fkS h (fun h => ?_) (fun h => ?_)
      · conv => whnf
        exact jeS hk4 h (Weak.refl _)
      conv => whnf
      refine fkS h (fun h => ?_) (fun h => ?_)
      · conv => whnf
        exact jeS hk4 h (Weak.refl _)
      conv => whnf
      refine fkS h (fun h => ?_) (fun h => ?_)
      · conv => whnf
        exact jeS hk4 h (Weak.refl _)
      conv => whnf
      refine fkS h (fun h => ?_) (fun h => ?_)
      · conv => whnf
        exact jeS hk4 h (Weak.refl _)
      conv => whnf
      refine fkS h (fun h => ?_) (fun h => ?_)
      · conv => whnf
        exact jeS hk4 h (Weak.refl _)
      conv => whnf
      refine fkS h (fun h => ?_) (fun h => ?_)
      · conv => whnf
        exact jeS hk4 h (Weak.refl _)
      conv => whnf
      exact jeS hk4 h (Weak.refl _)
    conv => whnf
    refine fkS h (fun h => ?_) (fun h => ?_)
    · conv => whnf
      exact rt (E := E_Bool) h rfl
    conv => whnf
    refine lpS (fun v5 => ⟨[(1, .l (.ptr 2 0)), (3, .l (.d (.int .i64 v2))), (4, .l (.ptr 5 0)), (5, .l (.d (.int .i64 v5)))], 156, [], [(2, [.d (.int .i64 a0.C), .d (.int .i64 a0.D), .d (.int .i64 a0.T), .d (.sl (a0.Secs.map Sec.enc))]), (5, [.d (.int .i64 x3.Res), .d (.int .i64 x3.At), .d (.int .i64 x3.Len)])], []⟩) h (Weak.refl _) (fun _ nx5 hn5 v5 h => ?_)
    conv => whnf
    refine fkS h (fun h => ?_) (fun h => ?_)
    · conv => whnf
      refine ixS (enc := Sec.enc) h rfl (fun _ => rfl) (fun x6 h => ?_)
      conv => whnf
      refine jnS (fun w7 => ⟨[(1, .l (.ptr 2 0)), (3, .l (.d (.int .i64 v2))), (4, .l (.ptr 5 0)), (5, .l (.d (.int .i64 v5))), (6, .l (.ptr 7 0)), (120, .l (.d (.bool w7)))], 156, [], [(2, [.d (.int .i64 a0.C), .d (.int .i64 a0.D), .d (.int .i64 a0.T), .d (.sl (a0.Secs.map Sec.enc))]), (5, [.d (.int .i64 x3.Res), .d (.int .i64 x3.At), .d (.int .i64 x3.Len)]), (7, [.d (.int .i64 x6.Res), .d (.int .i64 x6.At), .d (.int .i64 x6.Len)])], []⟩) h (fun k7 hk7 h => ?_) (fun w7 h => ?_)
      · conv => whnf
        refine fkS h (fun h => ?_) (fun h => ?_)
        · conv => whnf
          exact jeS hk7 h (Weak.refl _)
        conv => whnf
        refine fkS h (fun h => ?_) (fun h => ?_)
        · conv => whnf
          exact jeS hk7 h (Weak.refl _)
        conv => whnf
        exact jeS hk7 h (Weak.refl _)
      conv => whnf
      refine fkS h (fun h => ?_) (fun h => ?_)
      · conv => whnf
        exact rt (E := E_Bool) h rfl
      conv => whnf
      refine lpS (fun v8 => ⟨[(1, .l (.ptr 2 0)), (3, .l (.d (.int .i64 v2))), (4, .l (.ptr 5 0)), (5, .l (.d (.int .i64 v5))), (6, .l (.ptr 7 0)), (7, .l (.d (.int .i64 v8.1))), (8, .l (.d (.int .i64 v8.2.1))), (9, .l (.d (.int .i64 v8.2.2)))], 156, [], [(2, [.d (.int .i64 a0.C), .d (.int .i64 a0.D), .d (.int .i64 a0.T), .d (.sl (a0.Secs.map Sec.enc))]), (5, [.d (.int .i64 x3.Res), .d (.int .i64 x3.At), .d (.int .i64 x3.Len)]), (7, [.d (.int .i64 x6.Res), .d (.int .i64 x6.At), .d (.int .i64 x6.Len)])], []⟩) h (Weak.refl _) (fun _ nx8 hn8 v8 h => ?_)
      conv => whnf
      refine fkS h (fun h => ?_) (fun h => ?_)
      · conv => whnf
        refine jnS (fun w9 => ⟨[(1, .l (.ptr 2 0)), (3, .l (.d (.int .i64 v2))), (4, .l (.ptr 5 0)), (5, .l (.d (.int .i64 v5))), (6, .l (.ptr 7 0)), (7, .l (.d (.int .i64 w9.1))), (8, .l (.d (.int .i64 w9.2))), (9, .l (.d (.int .i64 v8.2.2)))], 156, [], [(2, [.d (.int .i64 a0.C), .d (.int .i64 a0.D), .d (.int .i64 a0.T), .d (.sl (a0.Secs.map Sec.enc))]), (5, [.d (.int .i64 x3.Res), .d (.int .i64 x3.At), .d (.int .i64 x3.Len)]), (7, [.d (.int .i64 x6.Res), .d (.int .i64 x6.At), .d (.int .i64 x6.Len)])], []⟩) h (fun k9 hk9 h => ?_) (fun w9 h => ?_)
        · conv => whnf
          refine fkS h (fun h => ?_) (fun h => ?_)
          · conv => whnf
            exact jeS hk9 h (Weak.refl _)
          conv => whnf
          exact jeS hk9 h (Weak.refl _)
        conv => whnf
        exact leS hn8 h (Weak.refl _)
      conv => whnf
      refine jnS (fun w10 => ⟨[(1, .l (.ptr 2 0)), (3, .l (.d (.int .i64 v2))), (4, .l (.ptr 5 0)), (5, .l (.d (.int .i64 v5))), (155, .l (.d (.bool w10)))], 156, [], [(2, [.d (.int .i64 a0.C), .d (.int .i64 a0.D), .d (.int .i64 a0.T), .d (.sl (a0.Secs.map Sec.enc))]), (5, [.d (.int .i64 x3.Res), .d (.int .i64 x3.At), .d (.int .i64 x3.Len)])], []⟩) h (fun k10 hk10 h => ?_) (fun w10 h => ?_)
      · conv => whnf
        refine fkS h (fun h => ?_) (fun h => ?_)
        · conv => whnf
          refine fkS h (fun h => ?_) (fun h => ?_)
          · conv => whnf
            exact jeS hk10 h (Weak.refl _)
          conv => whnf
          exact jeS hk10 h (Weak.refl _)
        conv => whnf
        exact jeS hk10 h (Weak.refl _)
      conv => whnf
      refine fkS h (fun h => ?_) (fun h => ?_)
      · conv => whnf
        exact rt (E := E_Bool) h rfl
      conv => whnf
      exact leS hn5 h (Weak.refl _)
    conv => whnf
    exact leS hn2 h (Weak.refl _)
  conv => whnf
  exact rt (E := E_Bool) h rfl

end Go.Proofs.YtldlcdnhdedoeaaGreat
namespace Go.Proofs.YtldlcdnhdedoeaaGreat
open Go Go.VC
noncomputable def ref05_All (a0 : List Task) : Option Bool :=
  lp (fun nx1 (v1 : Int × Int) => fk (decide (v1.2 < (a0.length : Int))) (jn (fun (w2 : Int) => nx1 (w2, (wr (v1.2 + (1 : Int))))) (fun k2 => ix a0 v1.2 fun x3 => bnd (ref05_Right x3) fun x4 => fk x4 (k2 (wr (v1.1 + (1 : Int)))) (k2 v1.1))) (fk (decide (v1.1 = (a0.length : Int))) (some (decide (v1.1 ≤ (8 : Int)))) (some false))) FU ((0 : Int), (0 : Int))
theorem ref05_All_w (a0 : List Task) (r : Bool) (h : ref05_All a0 = some r) : Go.VC.Spec Tryz.prog 111 [.d (.sl (a0.map Task.enc))] (fun y => y = E_Bool r) := by
  refine Go.VC.Spec.of_xc (args := [.d (.sl (a0.map Task.enc))]) (fn := Tryz.f111) tab ⟨[(0, [0]), (1, [0, 3]), (2, [0, 3, 4]), (3, [0, 3, 4, 8]), (4, [0, 3, 4]), (5, [0, 3, 4, 15]), (6, [0, 3, 4]), (7, [2])], [], [4], []⟩ 26 [.tmp 2] rfl rfl rfl rfl rfl rfl ?_
  conv => whnf
  refine lpS (fun v1 => ⟨[(0, .l (.d (.sl (a0.map Task.enc)))), (3, .l (.d (.int .i64 v1.1))), (4, .l (.d (.int .i64 v1.2)))], 26, [], [], []⟩) h (Weak.refl _) (fun _ nx1 hn1 v1 h => ?_)
  conv => whnf
  refine lenS a0 Task.enc rfl ?_
  conv => whnf
  refine fkS h (fun h => ?_) (fun h => ?_)
  · conv => whnf
    refine jnS (fun w2 => ⟨[(0, .l (.d (.sl (a0.map Task.enc)))), (3, .l (.d (.int .i64 w2))), (4, .l (.d (.int .i64 v1.2)))], 26, [], [], []⟩) h (fun k2 hk2 h => ?_) (fun w2 h => ?_)
    · conv => whnf
      refine ixS (enc := Task.enc) h rfl (fun _ => rfl) (fun x3 h => ?_)
      conv => whnf
      refine caS (E := E_Bool) h (ref05_Right_w x3) rfl (fun _ => rfl) (fun x4 h => ?_)
      conv => whnf
      refine fkS h (fun h => ?_) (fun h => ?_)
      · conv => whnf
        exact jeS hk2 h (Weak.refl _)
      conv => whnf
      refine jeX hk2 h ?_
      conv => whnf
      refine WkF.step (Weak.keepS _ [0, 3, 4]) ?_
      conv => whnf
      exact WkF.refl _
    conv => whnf
    exact leS hn1 h (Weak.refl _)
  conv => whnf
  refine lenS a0 Task.enc rfl ?_
  conv => whnf
  refine fkS h (fun h => ?_) (fun h => ?_)
  · conv => whnf
    exact rt (E := E_Bool) h rfl
  conv => whnf
  exact rt (E := E_Bool) h rfl

end Go.Proofs.YtldlcdnhdedoeaaGreat
namespace Go.Proofs.YtldlcdnhdedoeaaGreat
open Go Go.VC
noncomputable def ref10_Cycle (a0 : List Task) (a1 : Face) : Option (Int × Int × Int) :=
  jn (fun (w1 : Bool) => fk w1 (some ((0 : Int), (0 : Int), (1 : Int))) (lp (fun nx4 (v4 : Int × Int) => fk (decide (v4.2 < (a0.length : Int))) (jn (fun (w5 : Int) => nx4 (w5, (wr (v4.2 + (1 : Int))))) (fun k5 => ix a0 v4.2 fun x6 => fk (decide (x6.D > v4.1)) (ix a0 v4.2 fun x7 => k5 x7.D) (k5 v4.1))) (lp (fun nx8 (v8 : Int) => fk (decide ((wr (v8 + v4.1)) ≤ (3000 : Int))) (lp (fun nx9 (v9 : Bool × Int) => fk (decide (v9.2 < (a0.length : Int))) (jn (fun (w10 : Bool) => nx9 (w10, (wr (v9.2 + (1 : Int))))) (fun k10 => fk v9.1 (ix a0 v9.2 fun x11 => ck (decide (x11.T ≠ 0)) (k10 (decide ((v8.tmod x11.T) = (0 : Int))))) (k10 false))) (fk v9.1 (some (v8, (wr (v8 + v4.1)), (0 : Int))) (nx8 (wr (v8 + a1.P))))) FU (true, (0 : Int))) (some ((0 : Int), (0 : Int), (5 : Int)))) FU a1.P)) FU ((wr ((2 : Int) * a1.P)), (0 : Int)))) (fun k1 => bnd (ref05_All a0) fun x2 => fk (!x2) (k1 true) (bnd (ref09_Right a1) fun x3 => k1 (!x3)))
theorem ref10_Cycle_w (a0 : List Task) (a1 : Face) (r : Int × Int × Int) (h : ref10_Cycle a0 a1 = some r) : Go.VC.Spec Tryz.prog 53 [.d (.sl (a0.map Task.enc)), .agg (Face.enc a1)] (fun y => y = E_Int_Int_Int r) := by
  refine Go.VC.Spec.of_xc (args := [.d (.sl (a0.map Task.enc)), .agg (Face.enc a1)]) (fn := Tryz.f53) tab ⟨[(0, [0, 3]), (1, [0, 3, 19]), (2, [4, 5, 6]), (3, [0, 3, 7]), (4, [0, 3, 7, 8]), (5, [0, 3, 7, 8, 26]), (6, [0, 3, 7, 8]), (7, [0, 3, 7, 8, 35]), (8, [0, 3, 7, 8]), (9, [0, 3, 7, 9]), (10, [0, 3, 7, 9, 46]), (11, [0, 3, 7, 9]), (12, [0, 3, 7, 9, 10]), (13, [0, 3, 7, 9, 10, 11]), (14, [0, 3, 7, 9, 10, 11, 54]), (15, [0, 3, 7, 9, 10, 11]), (16, [0, 3, 7, 9, 10, 11]), (17, [0, 3, 7, 9, 68]), (18, [4, 5, 6]), (19, [4, 5, 6])], [], [100019, 6, 15], []⟩ 73 [.tmp 4, .tmp 5, .tmp 6] rfl rfl rfl rfl rfl rfl ?_
  conv => whnf
  refine jnS (fun w1 => ⟨[(0, .l (.d (.sl (a0.map Task.enc)))), (3, .l (.ptr 4 0)), (19, .l (.d (.bool w1)))], 73, [], [(4, [.d (.int .i64 a1.P), .d (.int .i64 a1.B)])], []⟩) h (fun k1 hk1 h => ?_) (fun w1 h => ?_)
  · conv => whnf
    refine caS (E := E_Bool) h (ref05_All_w a0) rfl (fun _ => rfl) (fun x2 h => ?_)
    conv => whnf
    refine fkS h (fun h => ?_) (fun h => ?_)
    · conv => whnf
      exact jeS hk1 h (Weak.refl _)
    conv => whnf
    refine caS (E := E_Bool) h (ref09_Right_w a1) rfl (fun _ => rfl) (fun x3 h => ?_)
    conv => whnf
    exact jeS hk1 h (Weak.refl _)
  conv => whnf
  refine fkS h (fun h => ?_) (fun h => ?_)
  · conv => whnf
    exact rt (E := E_Int_Int_Int) h rfl
  conv => whnf
  refine lpS (fun v4 => ⟨[(0, .l (.d (.sl (a0.map Task.enc)))), (3, .l (.ptr 4 0)), (7, .l (.d (.int .i64 v4.1))), (8, .l (.d (.int .i64 v4.2)))], 73, [], [(4, [.d (.int .i64 a1.P), .d (.int .i64 a1.B)])], []⟩) h (Weak.refl _) (fun _ nx4 hn4 v4 h => ?_)
  conv => whnf
  refine lenS a0 Task.enc rfl ?_
  conv => whnf
  refine fkS h (fun h => ?_) (fun h => ?_)
  · conv => whnf
    refine jnS (fun w5 => ⟨[(0, .l (.d (.sl (a0.map Task.enc)))), (3, .l (.ptr 4 0)), (7, .l (.d (.int .i64 w5))), (8, .l (.d (.int .i64 v4.2)))], 73, [], [(4, [.d (.int .i64 a1.P), .d (.int .i64 a1.B)])], []⟩) h (fun k5 hk5 h => ?_) (fun w5 h => ?_)
    · conv => whnf
      refine ixS (enc := Task.enc) h rfl (fun _ => rfl) (fun x6 h => ?_)
      conv => whnf
      refine fkS h (fun h => ?_) (fun h => ?_)
      · conv => whnf
        refine ixS (enc := Task.enc) h rfl (fun _ => rfl) (fun x7 h => ?_)
        conv => whnf
        exact jeS hk5 h (Weak.refl _)
      conv => whnf
      refine jeX hk5 h ?_
      conv => whnf
      refine WkF.step (Weak.keepS _ [0, 3, 7, 8]) ?_
      conv => whnf
      exact WkF.refl _
    conv => whnf
    exact leS hn4 h (Weak.refl _)
  conv => whnf
  refine lpS (fun v8 => ⟨[(0, .l (.d (.sl (a0.map Task.enc)))), (3, .l (.ptr 4 0)), (7, .l (.d (.int .i64 v4.1))), (9, .l (.d (.int .i64 v8)))], 73, [], [(4, [.d (.int .i64 a1.P), .d (.int .i64 a1.B)])], []⟩) h (Weak.refl _) (fun _ nx8 hn8 v8 h => ?_)
  conv => whnf
  refine fkS h (fun h => ?_) (fun h => ?_)
  · conv => whnf
    refine lpS (fun v9 => ⟨[(0, .l (.d (.sl (a0.map Task.enc)))), (3, .l (.ptr 4 0)), (7, .l (.d (.int .i64 v4.1))), (9, .l (.d (.int .i64 v8))), (10, .l (.d (.bool v9.1))), (11, .l (.d (.int .i64 v9.2)))], 73, [], [(4, [.d (.int .i64 a1.P), .d (.int .i64 a1.B)])], []⟩) h (Weak.refl _) (fun _ nx9 hn9 v9 h => ?_)
    conv => whnf
    refine lenS a0 Task.enc rfl ?_
    conv => whnf
    refine fkS h (fun h => ?_) (fun h => ?_)
    · conv => whnf
      refine jnS (fun w10 => ⟨[(0, .l (.d (.sl (a0.map Task.enc)))), (3, .l (.ptr 4 0)), (7, .l (.d (.int .i64 v4.1))), (9, .l (.d (.int .i64 v8))), (10, .l (.d (.bool w10))), (11, .l (.d (.int .i64 v9.2)))], 73, [], [(4, [.d (.int .i64 a1.P), .d (.int .i64 a1.B)])], []⟩) h (fun k10 hk10 h => ?_) (fun w10 h => ?_)
      · conv => whnf
        refine fkS h (fun h => ?_) (fun h => ?_)
        · conv => whnf
          refine ixS (enc := Task.enc) h rfl (fun _ => rfl) (fun x11 h => ?_)
          conv => whnf
          refine dvS h (fun h => ?_)
          conv => whnf
          exact jeS hk10 h (Weak.refl _)
        conv => whnf
        exact jeS hk10 h (Weak.refl _)
      conv => whnf
      exact leS hn9 h (Weak.refl _)
    conv => whnf
    refine fkS h (fun h => ?_) (fun h => ?_)
    · conv => whnf
      exact rt (E := E_Int_Int_Int) h rfl
    conv => whnf
    exact leS hn8 h (Weak.refl _)
  conv => whnf
  exact rt (E := E_Int_Int_Int) h rfl

end Go.Proofs.YtldlcdnhdedoeaaGreat
namespace Go.Proofs.YtldlcdnhdedoeaaGreat
open Go Go.VC
noncomputable def ref10_Asked (a0 : List Task) (a1 : Face) (a2 : Int) : Option (Int × Int) :=
  lp (fun nx1 (v1 : Int × Int) => fk (decide (v1.2 < (a0.length : Int))) (ix a0 v1.2 fun x2 => ix a0 v1.2 fun x3 => ck (decide (x3.T ≠ 0)) (nx1 ((wr (v1.1 + (wr (x2.C * (wr (a2.tdiv x3.T)))))), (wr (v1.2 + (1 : Int)))))) (ck (decide (a1.P ≠ 0)) (some (v1.1, (wr (a1.B * (wr (a2.tdiv a1.P)))))))) FU ((0 : Int), (0 : Int))
theorem ref10_Asked_w (a0 : List Task) (a1 : Face) (a2 : Int) (r : Int × Int) (h : ref10_Asked a0 a1 a2 = some r) : Go.VC.Spec Tryz.prog 165 [.d (.sl (a0.map Task.enc)), .agg (Face.enc a1), .d (.int .i64 a2)] (fun y => y = E_Int_Int r) := by
  refine Go.VC.Spec.of_xc (args := [.d (.sl (a0.map Task.enc)), .agg (Face.enc a1), .d (.int .i64 a2)]) (fn := Tryz.f165) tab ⟨[(0, [0, 2, 4]), (1, [0, 2, 4, 8]), (2, [0, 2, 4, 8, 9]), (3, [0, 2, 4, 8, 9, 13]), (4, [0, 2, 4, 8, 9]), (5, [0, 2, 4, 8, 9]), (6, [6, 7])], [], [], []⟩ 39 [.tmp 6, .tmp 7] rfl rfl rfl rfl rfl rfl ?_
  conv => whnf
  refine lpS (fun v1 => ⟨[(0, .l (.d (.sl (a0.map Task.enc)))), (2, .l (.d (.int .i64 a2))), (4, .l (.ptr 5 0)), (8, .l (.d (.int .i64 v1.1))), (9, .l (.d (.int .i64 v1.2)))], 39, [], [(5, [.d (.int .i64 a1.P), .d (.int .i64 a1.B)])], []⟩) h (Weak.refl _) (fun _ nx1 hn1 v1 h => ?_)
  conv => whnf
  refine lenS a0 Task.enc rfl ?_
  conv => whnf
  refine fkS h (fun h => ?_) (fun h => ?_)
  · conv => whnf
    refine ⟨14, ?_⟩
    conv => whnf
    refine ixS (enc := Task.enc) h rfl (fun _ => rfl) (fun x2 h => ?_)
    conv => whnf
    refine ixS (enc := Task.enc) h rfl (fun _ => rfl) (fun x3 h => ?_)
    conv => whnf
    refine dvS h (fun h => ?_)
    conv => whnf
    refine drS (by kernel_rfl) ?_
    conv => whnf
    exact leS hn1 h (Weak.refl _)
  conv => whnf
  refine ⟨9, ?_⟩
  conv => whnf
  refine dvS h (fun h => ?_)
  conv => whnf
  refine drS (by kernel_rfl) ?_
  conv => whnf
  exact rt (E := E_Int_Int) h rfl

end Go.Proofs.YtldlcdnhdedoeaaGreat
namespace Go.Proofs.YtldlcdnhdedoeaaGreat
open Go Go.VC
noncomputable def ref07_Bound (a0 : List Task) (a1 : Int) : Option Int :=
  lp (fun nx1 (v1 : Int × Int) => fk (decide (v1.2 < (a0.length : Int))) (ix a0 v1.2 fun x2 => lp (fun nx3 (v3 : Int × Int) => fk (decide (v3.2 ≤ a1)) (ix a0 v1.2 fun x4 => ix a0 v1.2 fun x5 => nx3 ((wr (v3.1 + x4.C)), (wr (v3.2 + x5.T)))) (nx1 (v3.1, (wr (v1.2 + (1 : Int)))))) FU (v1.1, x2.D)) (some v1.1)) FU ((0 : Int), (0 : Int))
theorem ref07_Bound_w (a0 : List Task) (a1 : Int) (r : Int) (h : ref07_Bound a0 a1 = some r) : Go.VC.Spec Tryz.prog 181 [.d (.sl (a0.map Task.enc)), .d (.int .i64 a1)] (fun y => y = E_Int r) := by
  refine Go.VC.Spec.of_xc (args := [.d (.sl (a0.map Task.enc)), .d (.int .i64 a1)]) (fn := Tryz.f181) tab ⟨[(0, [0, 1]), (1, [0, 1, 5]), (2, [0, 1, 5, 6]), (3, [0, 1, 5, 6, 11]), (4, [0, 1, 5, 6]), (5, [0, 1, 5, 6, 7]), (6, [0, 1, 5, 6, 7, 21]), (7, [0, 1, 5, 6, 7]), (8, [0, 1, 5, 6, 7]), (9, [4])], [], [], []⟩ 37 [.tmp 4] rfl rfl rfl rfl rfl rfl ?_
  conv => whnf
  refine lpS (fun v1 => ⟨[(0, .l (.d (.sl (a0.map Task.enc)))), (1, .l (.d (.int .i64 a1))), (5, .l (.d (.int .i64 v1.1))), (6, .l (.d (.int .i64 v1.2)))], 37, [], [], []⟩) h (Weak.refl _) (fun _ nx1 hn1 v1 h => ?_)
  conv => whnf
  refine lenS a0 Task.enc rfl ?_
  conv => whnf
  refine fkS h (fun h => ?_) (fun h => ?_)
  · conv => whnf
    refine ixS (enc := Task.enc) h rfl (fun _ => rfl) (fun x2 h => ?_)
    conv => whnf
    refine lpS (fun v3 => ⟨[(0, .l (.d (.sl (a0.map Task.enc)))), (1, .l (.d (.int .i64 a1))), (5, .l (.d (.int .i64 v3.1))), (6, .l (.d (.int .i64 v1.2))), (7, .l (.d (.int .i64 v3.2)))], 37, [], [], []⟩) h (Weak.refl _) (fun _ nx3 hn3 v3 h => ?_)
    conv => whnf
    refine fkS h (fun h => ?_) (fun h => ?_)
    · conv => whnf
      refine ixS (enc := Task.enc) h rfl (fun _ => rfl) (fun x4 h => ?_)
      conv => whnf
      refine ixS (enc := Task.enc) h rfl (fun _ => rfl) (fun x5 h => ?_)
      conv => whnf
      exact leS hn3 h (Weak.refl _)
    conv => whnf
    exact leS hn1 h (Weak.refl _)
  conv => whnf
  exact rt (E := E_Int) h rfl

end Go.Proofs.YtldlcdnhdedoeaaGreat
namespace Go.Proofs.YtldlcdnhdedoeaaGreat
open Go Go.VC
noncomputable def ref05_Uses (a0 : Task) (a1 : Int) : Option Bool :=
  lp (fun nx1 (v1 : Int × Int) => fk (decide (v1.2 < (a0.Secs.length : Int))) (jn (fun (w2 : Int) => nx1 (w2, (wr (v1.2 + (1 : Int))))) (fun k2 => ix a0.Secs v1.2 fun x3 => fk (decide (x3.Res = a1)) (k2 (wr (v1.1 + (1 : Int)))) (k2 v1.1))) (some (decide (v1.1 > (0 : Int))))) FU ((0 : Int), (0 : Int))
theorem ref05_Uses_w (a0 : Task) (a1 : Int) (r : Bool) (h : ref05_Uses a0 a1 = some r) : Go.VC.Spec Tryz.prog 191 [.agg (Task.enc a0), .d (.int .i64 a1)] (fun y => y = E_Bool r) := by
  refine Go.VC.Spec.of_xc (args := [.agg (Task.enc a0), .d (.int .i64 a1)]) (fn := Tryz.f191) tab ⟨[(0, [1, 2]), (1, [1, 2, 5]), (2, [1, 2, 5, 6]), (3, [1, 2, 5, 6, 11]), (4, [1, 2, 5, 6]), (5, [1, 2, 5, 6, 21]), (6, [1, 2, 5, 6]), (7, [4])], [], [4], []⟩ 26 [.tmp 4] rfl rfl rfl rfl rfl rfl ?_
  conv => whnf
  refine lpS (fun v1 => ⟨[(1, .l (.d (.int .i64 a1))), (2, .l (.ptr 3 0)), (5, .l (.d (.int .i64 v1.1))), (6, .l (.d (.int .i64 v1.2)))], 26, [], [(3, [.d (.int .i64 a0.C), .d (.int .i64 a0.D), .d (.int .i64 a0.T), .d (.sl (a0.Secs.map Sec.enc))])], []⟩) h (Weak.refl _) (fun _ nx1 hn1 v1 h => ?_)
  conv => whnf
  refine lenS a0.Secs Sec.enc rfl ?_
  conv => whnf
  refine fkS h (fun h => ?_) (fun h => ?_)
  · conv => whnf
    refine jnS (fun w2 => ⟨[(1, .l (.d (.int .i64 a1))), (2, .l (.ptr 3 0)), (5, .l (.d (.int .i64 w2))), (6, .l (.d (.int .i64 v1.2)))], 26, [], [(3, [.d (.int .i64 a0.C), .d (.int .i64 a0.D), .d (.int .i64 a0.T), .d (.sl (a0.Secs.map Sec.enc))])], []⟩) h (fun k2 hk2 h => ?_) (fun w2 h => ?_)
    · conv => whnf
      refine ixS (enc := Sec.enc) h rfl (fun _ => rfl) (fun x3 h => ?_)
      conv => whnf
      refine fkS h (fun h => ?_) (fun h => ?_)
      · conv => whnf
        exact jeS hk2 h (Weak.refl _)
      conv => whnf
      refine jeX hk2 h ?_
      conv => whnf
      refine WkF.step (Weak.keepS _ [1, 2, 5, 6]) ?_
      conv => whnf
      exact WkF.refl _
    conv => whnf
    exact leS hn1 h (Weak.refl _)
  conv => whnf
  exact rt (E := E_Bool) h rfl

end Go.Proofs.YtldlcdnhdedoeaaGreat
namespace Go.Proofs.YtldlcdnhdedoeaaGreat
open Go Go.VC
noncomputable def ref08_Of (a0 : List Task) (a1 : Int) : Option Int :=
  lp (fun nx1 (v1 : Int × Int) => fk (decide (v1.2 < (a0.length : Int))) (lp (fun nx2 (v2 : Int × Int) => ix a0 v1.2 fun x3 => fk (decide (v2.2 < (x3.Secs.length : Int))) (lp (fun nx4 (v4 : Int × Int) => fk (decide (v4.2 < (a0.length : Int))) (jn (fun (w5 : Int) => nx4 (w5, (wr (v4.2 + (1 : Int))))) (fun k5 => jn (fun (w6 : Bool) => fk w6 (ix a0 v1.2 fun x15 => ix x15.Secs v2.2 fun x16 => k5 x16.Len) (k5 v4.1)) (fun k6 => ix a0 v1.2 fun x7 => fk (decide (x7.D > a1)) (ix a0 v4.2 fun x8 => fk (decide (x8.D ≤ a1)) (ix a0 v4.2 fun x9 => ix a0 v1.2 fun x10 => ix x10.Secs v2.2 fun x11 => bnd (ref05_Uses x9 x11.Res) fun x12 => fk x12 (ix a0 v1.2 fun x13 => ix x13.Secs v2.2 fun x14 => k6 (decide (x14.Len > v4.1))) (k6 false)) (k6 false)) (k6 false)))) (nx2 (v4.1, (wr (v2.2 + (1 : Int)))))) FU (v2.1, (0 : Int))) (nx1 (v2.1, (wr (v1.2 + (1 : Int)))))) FU (v1.1, (0 : Int))) (some v1.1)) FU ((0 : Int), (0 : Int))
theorem ref08_Of_w (a0 : List Task) (a1 : Int) (r : Int) (h : ref08_Of a0 a1 = some r) : Go.VC.Spec Tryz.prog 182 [.d (.sl (a0.map Task.enc)), .d (.int .i64 a1)] (fun y => y = E_Int r) := by
  refine Go.VC.Spec.of_xc (args := [.d (.sl (a0.map Task.enc)), .d (.int .i64 a1)]) (fn := Tryz.f182) tab ⟨[(0, [0, 1]), (1, [0, 1, 5]), (2, [0, 1, 5, 6]), (3, [0, 1, 5, 6, 12]), (4, [0, 1, 5, 6]), (5, [0, 1, 5, 6, 7]), (6, [0, 1, 5, 6, 7, 22]), (7, [0, 1, 5, 6, 7]), (8, [0, 1, 5, 6, 7, 8]), (9, [0, 1, 5, 6, 7, 8, 28]), (10, [0, 1, 5, 6, 7, 8]), (11, [0, 1, 5, 6, 7, 8, 75]), (12, [0, 1, 5, 6, 7, 8]), (13, [4])], [], [100075, 10], []⟩ 86 [.tmp 4] rfl rfl rfl rfl rfl rfl ?_
  conv => whnf
  refine lpS (fun v1 => ⟨[(0, .l (.d (.sl (a0.map Task.enc)))), (1, .l (.d (.int .i64 a1))), (5, .l (.d (.int .i64 v1.1))), (6, .l (.d (.int .i64 v1.2)))], 86, [], [], []⟩) h (Weak.refl _) (fun _ nx1 hn1 v1 h => ?_)
  conv => whnf
  refine lenS a0 Task.enc rfl ?_
  conv => whnf
  refine fkS h (fun h => ?_) (fun h => ?_)
  · conv => whnf
    refine lpS (fun v2 => ⟨[(0, .l (.d (.sl (a0.map Task.enc)))), (1, .l (.d (.int .i64 a1))), (5, .l (.d (.int .i64 v2.1))), (6, .l (.d (.int .i64 v1.2))), (7, .l (.d (.int .i64 v2.2)))], 86, [], [], []⟩) h (Weak.refl _) (fun _ nx2 hn2 v2 h => ?_)
    conv => whnf
    refine ixS (enc := Task.enc) h rfl (fun _ => rfl) (fun x3 h => ?_)
    conv => whnf
    refine lenS x3.Secs Sec.enc rfl ?_
    conv => whnf
    refine fkS h (fun h => ?_) (fun h => ?_)
    · conv => whnf
      refine lpS (fun v4 => ⟨[(0, .l (.d (.sl (a0.map Task.enc)))), (1, .l (.d (.int .i64 a1))), (5, .l (.d (.int .i64 v4.1))), (6, .l (.d (.int .i64 v1.2))), (7, .l (.d (.int .i64 v2.2))), (8, .l (.d (.int .i64 v4.2)))], 86, [], [], []⟩) h (Weak.refl _) (fun _ nx4 hn4 v4 h => ?_)
      conv => whnf
      refine lenS a0 Task.enc rfl ?_
      conv => whnf
      refine fkS h (fun h => ?_) (fun h => ?_)
      · conv => whnf
        refine jnS (fun w5 => ⟨[(0, .l (.d (.sl (a0.map Task.enc)))), (1, .l (.d (.int .i64 a1))), (5, .l (.d (.int .i64 w5))), (6, .l (.d (.int .i64 v1.2))), (7, .l (.d (.int .i64 v2.2))), (8, .l (.d (.int .i64 v4.2)))], 86, [], [], []⟩) h (fun k5 hk5 h => ?_) (fun w5 h => ?_)
        · conv => whnf
          refine jnS (fun w6 => ⟨[(0, .l (.d (.sl (a0.map Task.enc)))), (1, .l (.d (.int .i64 a1))), (5, .l (.d (.int .i64 v4.1))), (6, .l (.d (.int .i64 v1.2))), (7, .l (.d (.int .i64 v2.2))), (8, .l (.d (.int .i64 v4.2))), (75, .l (.d (.bool w6)))], 86, [], [], []⟩) h (fun k6 hk6 h => ?_) (fun w6 h => ?_)
          · conv => whnf
            refine ⟨45, ?_⟩
            conv => whnf
            refine ixS (enc := Task.enc) h rfl (fun _ => rfl) (fun x7 h => ?_)
            conv => whnf
            refine fkS h (fun h => ?_) (fun h => ?_)
            · conv => whnf
              refine ixS (enc := Task.enc) h rfl (fun _ => rfl) (fun x8 h => ?_)
              conv => whnf
              refine fkS h (fun h => ?_) (fun h => ?_)
              · conv => whnf
                refine ixS (enc := Task.enc) h rfl (fun _ => rfl) (fun x9 h => ?_)
                conv => whnf
                refine ixS (enc := Task.enc) h rfl (fun _ => rfl) (fun x10 h => ?_)
                conv => whnf
                refine ixS (enc := Sec.enc) h rfl (fun _ => rfl) (fun x11 h => ?_)
                conv => whnf
                refine daS (E := E_Bool) h (ref05_Uses_w x9 x11.Res) (fun _ => rfl) (fun x12 h => ?_)
                conv => whnf
                refine fkS h (fun h => ?_) (fun h => ?_)
                · conv => whnf
                  refine ixS (enc := Task.enc) h rfl (fun _ => rfl) (fun x13 h => ?_)
                  conv => whnf
                  refine ixS (enc := Sec.enc) h rfl (fun _ => rfl) (fun x14 h => ?_)
                  conv => whnf
                  refine drS (by kernel_rfl) ?_
                  conv => whnf
                  exact jeS hk6 h (Weak.refl _)
                conv => whnf
                refine drS (by kernel_rfl) ?_
                conv => whnf
                exact jeS hk6 h (Weak.refl _)
              conv => whnf
              refine drS (by kernel_rfl) ?_
              conv => whnf
              exact jeS hk6 h (Weak.refl _)
            conv => whnf
            refine drS (by kernel_rfl) ?_
            conv => whnf
            exact jeS hk6 h (Weak.refl _)
          conv => whnf
          refine fkS h (fun h => ?_) (fun h => ?_)
          · conv => whnf
            refine ixS (enc := Task.enc) h rfl (fun _ => rfl) (fun x15 h => ?_)
            conv => whnf
            refine ixS (enc := Sec.enc) h rfl (fun _ => rfl) (fun x16 h => ?_)
            conv => whnf
            exact jeS hk5 h (Weak.refl _)
          conv => whnf
          refine jeX hk5 h ?_
          conv => whnf
          refine WkF.step (Weak.keepS _ [0, 1, 5, 6, 7, 8]) ?_
          conv => whnf
          exact WkF.refl _
        conv => whnf
        exact leS hn4 h (Weak.refl _)
      conv => whnf
      exact leS hn2 h (Weak.refl _)
    conv => whnf
    exact leS hn1 h (Weak.refl _)
  conv => whnf
  exact rt (E := E_Int) h rfl

end Go.Proofs.YtldlcdnhdedoeaaGreat
namespace Go.Proofs.YtldlcdnhdedoeaaGreat
open Go Go.VC
noncomputable def ref10_Need (a0 : List Task) (a1 : Int) : Option Int :=
  bnd (ref07_Bound a0 a1) fun x1 => bnd (ref08_Of a0 a1) fun x2 => some (wr (x1 + x2))
theorem ref10_Need_w (a0 : List Task) (a1 : Int) (r : Int) (h : ref10_Need a0 a1 = some r) : Go.VC.Spec Tryz.prog 172 [.d (.sl (a0.map Task.enc)), .d (.int .i64 a1)] (fun y => y = E_Int r) := by
  refine Go.VC.Spec.of_xc (args := [.d (.sl (a0.map Task.enc)), .d (.int .i64 a1)]) (fn := Tryz.f172) tab ⟨[(0, [0, 1]), (1, [4])], [], [], []⟩ 12 [.tmp 4] rfl rfl rfl rfl rfl rfl ?_
  conv => whnf
  refine caS (E := E_Int) h (ref07_Bound_w a0 a1) rfl (fun _ => rfl) (fun x1 h => ?_)
  conv => whnf
  refine caS (E := E_Int) h (ref08_Of_w a0 a1) rfl (fun _ => rfl) (fun x2 h => ?_)
  conv => whnf
  exact rt (E := E_Int) h rfl

end Go.Proofs.YtldlcdnhdedoeaaGreat
namespace Go.Proofs.YtldlcdnhdedoeaaGreat
open Go Go.VC
noncomputable def ref09_Worst (a0 : Face) (a1 : Int) : Option Bool :=
  fk (decide (a1 < a0.P)) (some (decide (a1 < a0.B))) (ck (decide (a0.P ≠ 0)) (some (decide ((a1.tmod a0.P) ≥ (wr (a0.P - a0.B))))))
theorem ref09_Worst_w (a0 : Face) (a1 : Int) (r : Bool) (h : ref09_Worst a0 a1 = some r) : Go.VC.Spec Tryz.prog 183 [.agg (Face.enc a0), .d (.int .i64 a1)] (fun y => y = E_Bool r) := by
  refine Go.VC.Spec.of_xc (args := [.agg (Face.enc a0), .d (.int .i64 a1)]) (fn := Tryz.f183) tab ⟨[(0, [1, 2]), (1, [1, 2, 8]), (2, [4]), (3, [4])], [], [], []⟩ 23 [.tmp 4] rfl rfl rfl rfl rfl rfl ?_
  conv => whnf
  refine fkS h (fun h => ?_) (fun h => ?_)
  · conv => whnf
    exact rt (E := E_Bool) h rfl
  conv => whnf
  refine ⟨9, ?_⟩
  conv => whnf
  refine dvS h (fun h => ?_)
  conv => whnf
  refine drS (by kernel_rfl) ?_
  conv => whnf
  exact rt (E := E_Bool) h rfl

end Go.Proofs.YtldlcdnhdedoeaaGreat
namespace Go.Proofs.YtldlcdnhdedoeaaGreat
open Go Go.VC
noncomputable def ref09_Bound (a0 : Face) (a1 : Int) : Option Int :=
  lp (fun nx1 (v1 : Int × Int) => fk (decide (v1.2 < (wr (a0.B + a1)))) (jn (fun (w2 : Int) => nx1 (w2, (wr (v1.2 + (1 : Int))))) (fun k2 => bnd (ref09_Worst a0 v1.2) fun x3 => fk x3 (k2 (wr (v1.1 + (1 : Int)))) (k2 v1.1))) (some v1.1)) FU ((0 : Int), a0.B)
theorem ref09_Bound_w (a0 : Face) (a1 : Int) (r : Int) (h : ref09_Bound a0 a1 = some r) : Go.VC.Spec Tryz.prog 173 [.agg (Face.enc a0), .d (.int .i64 a1)] (fun y => y = E_Int r) := by
  refine Go.VC.Spec.of_xc (args := [.agg (Face.enc a0), .d (.int .i64 a1)]) (fn := Tryz.f173) tab ⟨[(0, [1, 2]), (1, [1, 2, 5]), (2, [1, 2, 5, 6]), (3, [1, 2, 5, 6, 14]), (4, [1, 2, 5, 6]), (5, [1, 2, 5, 6, 19]), (6, [1, 2, 5, 6]), (7, [4])], [], [4], []⟩ 23 [.tmp 4] rfl rfl rfl rfl rfl rfl ?_
  conv => whnf
  refine lpS (fun v1 => ⟨[(1, .l (.d (.int .i64 a1))), (2, .l (.ptr 3 0)), (5, .l (.d (.int .i64 v1.1))), (6, .l (.d (.int .i64 v1.2)))], 23, [], [(3, [.d (.int .i64 a0.P), .d (.int .i64 a0.B)])], []⟩) h (Weak.refl _) (fun _ nx1 hn1 v1 h => ?_)
  conv => whnf
  refine fkS h (fun h => ?_) (fun h => ?_)
  · conv => whnf
    refine jnS (fun w2 => ⟨[(1, .l (.d (.int .i64 a1))), (2, .l (.ptr 3 0)), (5, .l (.d (.int .i64 w2))), (6, .l (.d (.int .i64 v1.2)))], 23, [], [(3, [.d (.int .i64 a0.P), .d (.int .i64 a0.B)])], []⟩) h (fun k2 hk2 h => ?_) (fun w2 h => ?_)
    · conv => whnf
      refine caS (E := E_Bool) h (ref09_Worst_w a0 v1.2) rfl (fun _ => rfl) (fun x3 h => ?_)
      conv => whnf
      refine fkS h (fun h => ?_) (fun h => ?_)
      · conv => whnf
        exact jeS hk2 h (Weak.refl _)
      conv => whnf
      refine jeX hk2 h ?_
      conv => whnf
      refine WkF.step (Weak.keepS _ [1, 2, 5, 6]) ?_
      conv => whnf
      exact WkF.refl _
    conv => whnf
    exact leS hn1 h (Weak.refl _)
  conv => whnf
  exact rt (E := E_Int) h rfl

end Go.Proofs.YtldlcdnhdedoeaaGreat
namespace Go.Proofs.YtldlcdnhdedoeaaGreat
open Go Go.VC
noncomputable def ref10_First (a0 : List Task) (a1 : Face) (a2 : Int) : Option (Int × Bool) :=
  lp (fun nx1 (v1 : Int) => fk (decide (v1 ≤ a2)) (bnd (ref10_Need a0 v1) fun x2 => bnd (ref09_Bound a1 v1) fun x3 => fk (decide (x2 > x3)) (some (v1, true)) (nx1 (wr (v1 + (1 : Int))))) (some ((0 : Int), false))) FU (0 : Int)
theorem ref10_First_w (a0 : List Task) (a1 : Face) (a2 : Int) (r : Int × Bool) (h : ref10_First a0 a1 a2 = some r) : Go.VC.Spec Tryz.prog 166 [.d (.sl (a0.map Task.enc)), .agg (Face.enc a1), .d (.int .i64 a2)] (fun y => y = E_Int_Bool r) := by
  refine Go.VC.Spec.of_xc (args := [.d (.sl (a0.map Task.enc)), .agg (Face.enc a1), .d (.int .i64 a2)]) (fn := Tryz.f166) tab ⟨[(0, [0, 2, 4]), (1, [0, 2, 4, 8]), (2, [0, 2, 4, 8, 11]), (3, [0, 2, 4, 8]), (4, [0, 2, 4, 8, 20]), (5, [6, 7]), (6, [6, 7])], [], [], []⟩ 22 [.tmp 6, .tmp 7] rfl rfl rfl rfl rfl rfl ?_
  conv => whnf
  refine lpS (fun v1 => ⟨[(0, .l (.d (.sl (a0.map Task.enc)))), (2, .l (.d (.int .i64 a2))), (4, .l (.ptr 5 0)), (8, .l (.d (.int .i64 v1)))], 22, [], [(5, [.d (.int .i64 a1.P), .d (.int .i64 a1.B)])], []⟩) h (Weak.refl _) (fun _ nx1 hn1 v1 h => ?_)
  conv => whnf
  refine fkS h (fun h => ?_) (fun h => ?_)
  · conv => whnf
    refine ⟨5, ?_⟩
    conv => whnf
    refine daS (E := E_Int) h (ref10_Need_w a0 v1) (fun _ => rfl) (fun x2 h => ?_)
    conv => whnf
    refine drS (by kernel_rfl) ?_
    conv => whnf
    refine caS (E := E_Int) h (ref09_Bound_w a1 v1) rfl (fun _ => rfl) (fun x3 h => ?_)
    conv => whnf
    refine fkS h (fun h => ?_) (fun h => ?_)
    · conv => whnf
      exact rt (E := E_Int_Bool) h rfl
    conv => whnf
    exact leS hn1 h (Weak.refl _)
  conv => whnf
  exact rt (E := E_Int_Bool) h rfl

end Go.Proofs.YtldlcdnhdedoeaaGreat
namespace Go.Proofs.YtldlcdnhdedoeaaGreat
open Go Go.VC
noncomputable def ref10_Fits (a0 : List Task) (a1 : Face) : Option Bool :=
  bnd (ref10_Cycle a0 a1) fun x1 => bnd (ref10_Asked a0 a1 x1.1) fun x2 => bnd (ref10_First a0 a1 x1.2.1) fun x3 => fk (decide (x2.1 ≤ x2.2)) (some (!x3.2)) (some false)
theorem ref10_Fits_w (a0 : List Task) (a1 : Face) (r : Bool) (h : ref10_Fits a0 a1 = some r) : Go.VC.Spec Tryz.prog 156 [.d (.sl (a0.map Task.enc)), .agg (Face.enc a1)] (fun y => y = E_Bool r) := by
  refine Go.VC.Spec.of_xc (args := [.d (.sl (a0.map Task.enc)), .agg (Face.enc a1)]) (fn := Tryz.f156) tab ⟨[(0, [0, 3]), (1, [0, 3, 5, 6]), (2, [0, 3, 6, 8, 9]), (3, [8, 9, 11]), (4, [4])], [], [], []⟩ 40 [.tmp 4] rfl rfl rfl rfl rfl rfl ?_
  conv => whnf
  refine caS (E := E_Int_Int_Int) h (ref10_Cycle_w a0 a1) rfl (fun _ => rfl) (fun x1 h => ?_)
  conv => whnf
  refine caS (E := E_Int_Int) h (ref10_Asked_w a0 a1 x1.1) rfl (fun _ => rfl) (fun x2 h => ?_)
  conv => whnf
  refine caS (E := E_Int_Bool) h (ref10_First_w a0 a1 x1.2.1) rfl (fun _ => rfl) (fun x3 h => ?_)
  conv => whnf
  refine fkS h (fun h => ?_) (fun h => ?_)
  · conv => whnf
    exact rt (E := E_Bool) h rfl
  conv => whnf
  exact rt (E := E_Bool) h rfl

end Go.Proofs.YtldlcdnhdedoeaaGreat
namespace Go.Proofs.YtldlcdnhdedoeaaGreat
open Go Go.VC
noncomputable def ref20_Fits (a0 : List Task) (a1 : Face) : Option Int :=
  bnd (ref10_Cycle a0 a1) fun x1 => fk (!decide (x1.2.2 = (0 : Int))) (some x1.2.2) (bnd (ref10_Fits a0 a1) fun x2 => fk (!x2) (some (7 : Int)) (some (0 : Int)))
theorem ref20_Fits_w (a0 : List Task) (a1 : Face) (r : Int) (h : ref20_Fits a0 a1 = some r) : Go.VC.Spec Tryz.prog 119 [.d (.sl (a0.map Task.enc)), .agg (Face.enc a1)] (fun y => y = E_Int r) := by
  refine Go.VC.Spec.of_xc (args := [.d (.sl (a0.map Task.enc)), .agg (Face.enc a1)]) (fn := Tryz.f119) tab ⟨[(0, [0, 3]), (1, [0, 3, 7]), (2, [0, 3, 7, 16]), (3, [4]), (4, [21]), (5, [4]), (6, [4])], [], [], []⟩ 22 [.tmp 4] rfl rfl rfl rfl rfl rfl ?_
  conv => whnf
  refine caS (E := E_Int_Int_Int) h (ref10_Cycle_w a0 a1) rfl (fun _ => rfl) (fun x1 h => ?_)
  conv => whnf
  refine fkS h (fun h => ?_) (fun h => ?_)
  · conv => whnf
    exact rt (E := E_Int) h rfl
  conv => whnf
  refine caS (E := E_Bool) h (ref10_Fits_w a0 a1) rfl (fun _ => rfl) (fun x2 h => ?_)
  conv => whnf
  refine fkS h (fun h => ?_) (fun h => ?_)
  · conv => whnf
    exact rt (E := E_Int) h rfl
  conv => whnf
  exact rt (E := E_Int) h rfl

end Go.Proofs.YtldlcdnhdedoeaaGreat
namespace Go.Proofs.YtldlcdnhdedoeaaGreat
open Go Go.VC
noncomputable def ref20_Boot (a0 : Part) : Option Int :=
  jn (fun (w1 : Bool) => fk w1 (some (1 : Int)) (bnd (ref20_Fits a0.Tasks a0.Face) fun x4 => some x4)) (fun k1 => bnd (ref09_Right a0.Face) fun x2 => fk (!x2) (k1 true) (bnd (ref05_All a0.Tasks) fun x3 => k1 (!x3)))
theorem ref20_Boot_w (a0 : Part) (r : Int) (h : ref20_Boot a0 = some r) : Go.VC.Spec Tryz.prog 59 [.agg (Part.enc a0)] (fun y => y = E_Int r) := by
  refine Go.VC.Spec.of_xc (args := [.agg (Part.enc a0)]) (fn := Tryz.f59) tab ⟨[(0, [1]), (1, [1, 12]), (2, [2]), (3, [2])], [], [100012], []⟩ 18 [.tmp 2] rfl rfl rfl rfl rfl rfl ?_
  conv => whnf
  refine jnS (fun w1 => ⟨[(1, .l (.ptr 2 0)), (12, .l (.d (.bool w1)))], 18, [], [(2, [.d (.int .i64 a0.Face.P), .d (.int .i64 a0.Face.B), .d (.sl (a0.Tasks.map Task.enc))])], []⟩) h (fun k1 hk1 h => ?_) (fun w1 h => ?_)
  · conv => whnf
    refine caS (E := E_Bool) h (ref09_Right_w a0.Face) rfl (fun _ => rfl) (fun x2 h => ?_)
    conv => whnf
    refine fkS h (fun h => ?_) (fun h => ?_)
    · conv => whnf
      exact jeS hk1 h (Weak.refl _)
    conv => whnf
    refine caS (E := E_Bool) h (ref05_All_w a0.Tasks) rfl (fun _ => rfl) (fun x3 h => ?_)
    conv => whnf
    exact jeS hk1 h (Weak.refl _)
  conv => whnf
  refine fkS h (fun h => ?_) (fun h => ?_)
  · conv => whnf
    exact rt (E := E_Int) h rfl
  conv => whnf
  refine caS (E := E_Int) h (ref20_Fits_w a0.Tasks a0.Face) rfl (fun _ => rfl) (fun x4 h => ?_)
  conv => whnf
  exact rt (E := E_Int) h rfl

end Go.Proofs.YtldlcdnhdedoeaaGreat
namespace Go.Proofs.YtldlcdnhdedoeaaGreat
open Go Go.VC
noncomputable def law05_Great (a0 : List Task) : Option Bool :=
  lp (fun nx1 (v1 : Int) => fk (decide (v1 < (a0.length : Int))) (ix a0 v1 fun x2 => fk (decide ((x2.Secs.length : Int) > (20 : Int))) (some true) (nx1 (wr (v1 + (1 : Int))))) (some (decide ((a0.length : Int) > (20 : Int))))) FU (0 : Int)
theorem law05_Great_w (a0 : List Task) (r : Bool) (h : law05_Great a0 = some r) : Go.VC.Spec Tryz.prog 109 [.d (.sl (a0.map Task.enc))] (fun y => y = E_Bool r) := by
  refine Go.VC.Spec.of_xc (args := [.d (.sl (a0.map Task.enc))]) (fn := Tryz.f109) tab ⟨[(0, [0]), (1, [0, 3]), (2, [0, 3, 7]), (3, [0, 3]), (4, [0, 3, 16]), (5, [2]), (6, [2])], [], [], []⟩ 20 [.tmp 2] rfl rfl rfl rfl rfl rfl ?_
  conv => whnf
  refine lpS (fun v1 => ⟨[(0, .l (.d (.sl (a0.map Task.enc)))), (3, .l (.d (.int .i64 v1)))], 20, [], [], []⟩) h (Weak.refl _) (fun _ nx1 hn1 v1 h => ?_)
  conv => whnf
  refine lenS a0 Task.enc rfl ?_
  conv => whnf
  refine fkS h (fun h => ?_) (fun h => ?_)
  · conv => whnf
    refine ixS (enc := Task.enc) h rfl (fun _ => rfl) (fun x2 h => ?_)
    conv => whnf
    refine lenS x2.Secs Sec.enc rfl ?_
    conv => whnf
    refine fkS h (fun h => ?_) (fun h => ?_)
    · conv => whnf
      exact rt (E := E_Bool) h rfl
    conv => whnf
    exact leS hn1 h (Weak.refl _)
  conv => whnf
  refine lenS a0 Task.enc rfl ?_
  conv => whnf
  exact rt (E := E_Bool) h rfl

end Go.Proofs.YtldlcdnhdedoeaaGreat
namespace Go.Proofs.YtldlcdnhdedoeaaGreat
open Go Go.VC

/-! ### Tasks -/
def fitsP (a b : Sec) : Prop := a.At + a.Len ≤ b.At ∨ (a.At ≤ b.At ∧ b.At + b.Len ≤ a.At + a.Len ∧ a.Res ≠ b.Res)
def secP (C : Int) (s : Sec) : Prop := 0 ≤ s.Res ∧ s.Res < 4 ∧ 0 ≤ s.At ∧ s.At < C ∧ 1 ≤ s.Len ∧ s.Len ≤ C - s.At
def ownP (t : Task) : Prop := 1 ≤ t.C ∧ t.C ≤ t.D ∧ t.D ≤ t.T ∧ t.T ≤ 200 ∧ t.Secs.length ≤ 4
def RightP (t : Task) : Prop := ownP t ∧ (∀ s ∈ t.Secs, secP t.C s) ∧ t.Secs.Pairwise fitsP
instance (a b : Sec) : Decidable (fitsP a b) := by unfold fitsP; infer_instance
instance (C : Int) (s : Sec) : Decidable (secP C s) := by unfold secP; infer_instance
instance (t : Task) : Decidable (ownP t) := by unfold ownP; infer_instance
instance (t : Task) : Decidable (RightP t) := by unfold RightP; infer_instance
def right (t : Task) : Bool := decide (RightP t)

theorem task_own_eq (t : Task) : task_own t = some (decide (ownP t)) := by
  unfold task_own
  simp only [fk_if, decide_eq_true_eq]
  repeat' split
  · exact dec_iff (by unfold ownP; omega)
  all_goals exact dec_f (by unfold ownP; omega)

theorem task_may_eq (t : Task) (s : Sec) (h : ownP t) : task_may t s = some (decide (secP t.C s)) := by
  unfold ownP at h
  unfold task_may
  simp only [fk_if, decide_eq_true_eq]
  repeat' split
  · rw [wr_in _ (by omega)]
    exact dec_iff (by unfold secP; omega)
  all_goals exact dec_f (by unfold secP; omega)

theorem task_fits_eq (C : Int) (a b : Sec) (hC : C ≤ 200) (ha : secP C a) (hb : secP C b) : task_fits a b = some (decide (fitsP a b)) := by
  unfold secP at ha hb
  unfold task_fits
  rw [wr_in _ (by omega), wr_in _ (by omega)]
  simp only [fk_if, decide_eq_true_eq]
  repeat' split
  · exact dec_t (by unfold fitsP; omega)
  · exact dec_f (by unfold fitsP; omega)
  · exact dec_not (by unfold fitsP; omega)
  · exact dec_f (by unfold fitsP; omega)

theorem task_Right_eq (t : Task) : task_Right t = some (right t) := by
  unfold task_Right
  rw [bnd_eq (task_own_eq t)]
  by_cases ho : ownP t
  rotate_left
  · simp [ho, right, RightP, fk_if]
  simp only [ho, decide_true, Bool.not_true, fk_f]
  have hlen : t.Secs.length ≤ 4 := ho.2.2.2.2
  have hC : t.C ≤ 200 := by unfold ownP at ho; omega
  refine lp_up t.Secs.length (by unfold FU; omega) (fun k => (∀ j (h : j < t.Secs.length), j < k → secP t.C t.Secs[j]) ∧ (∀ i j (hi : i < t.Secs.length) (hj : j < t.Secs.length), i < j → j < k → fitsP t.Secs[i] t.Secs[j])) ⟨fun j _ h => by omega, fun i j _ _ _ h => by omega⟩ ?_
  rintro nx k hk ⟨J1, J2⟩ hnx
  rw [lt_nat]
  by_cases h : k < t.Secs.length
  · rw [decide_eq_true h, fk_t, ix_lt h, bnd_eq (task_may_eq t _ ho)]
    by_cases hs : secP t.C t.Secs[k]
    rotate_left
    · have : right t = false := decide_eq_false fun hr => hs (hr.2.1 _ (List.getElem_mem h))
      simp [hs, this, fk_if]
    simp only [hs, decide_true, Bool.not_true, fk_f]
    rw [ck_t (by simp; omega)]
    have e : (t.Secs.take (k : Int).toNat).drop (0 : Int).toNat = t.Secs.take k := by simp
    rw [e]
    have el : (t.Secs.take k).length = k := by simp; omega
    refine lp_up k (by unfold FU; omega) (fun j => ∀ i (hi : i < t.Secs.length), i < j → fitsP t.Secs[i] t.Secs[k]) (fun i _ h => by omega) ?_
    intro nx2 j hj J3 hnx2
    rw [el, lt_nat]
    by_cases h2 : j < k
    · have hjl : j < t.Secs.length := by omega
      rw [decide_eq_true h2, fk_t, ix_lt (by omega), List.getElem_take, bnd_eq (task_fits_eq t.C _ _ hC (J1 j hjl h2) hs)]
      by_cases hf : fitsP t.Secs[j] t.Secs[k]
      · rw [decide_eq_true hf, fk_t, wr_succ j k h2 (by omega)]
        refine hnx2 h2 fun i hi hij => ?_
        by_cases e : i = j
        · subst e; exact hf
        · exact J3 i hi (by omega)
      · have : right t = false := decide_eq_false fun hr => hf (List.pairwise_iff_getElem.1 hr.2.2 j k hjl h h2)
        rw [decide_eq_false hf, fk_f, this]; rfl
    · have hjk : j = k := by omega
      subst hjk
      rw [decide_eq_false h2, fk_f, wr_succ j _ h (by omega)]
      refine hnx h ⟨fun i hi hij => ?_, fun a b ha hb hab hbj => ?_⟩
      · by_cases e : i = j
        · subst e; exact hs
        · exact J1 i hi (by omega)
      · by_cases e : b = j
        · subst e; exact J3 a ha hab
        · exact J2 a b ha hb hab (by omega)
  · have hk2 : k = t.Secs.length := by omega
    rw [decide_eq_false h, fk_f]
    have : right t = true := decide_eq_true ⟨ho, fun s hs => by
      obtain ⟨j, hj, rfl⟩ := List.getElem_of_mem hs
      exact J1 j hj (by omega), List.pairwise_iff_getElem.2 fun i j hi hj hij => J2 i j hi hj hij (by omega)⟩
    rw [this]
    unfold ownP at ho
    simp; omega


def AllP (l : List Task) : Prop := (∀ t ∈ l, RightP t) ∧ l.length ≤ 8
instance (l : List Task) : Decidable (AllP l) := by unfold AllP; infer_instance
theorem right_t {t : Task} : right t = true ↔ RightP t := decide_eq_true_iff
theorem right_f {t : Task} : right t = false ↔ ¬ RightP t := decide_eq_false_iff_not

theorem task_All_eq (l : List Task) (hl : l.length ≤ 4611686018427387904) : task_All l = some (decide (AllP l)) := by
  unfold task_All
  refine lp_up l.length (by unfold FU; omega) (fun k => ∀ j (h : j < l.length), j < k → RightP l[j]) (fun j _ h => by omega) ?_
  intro nx k hk J hnx
  rw [lt_nat]
  by_cases h : k < l.length
  · rw [decide_eq_true h, fk_t, ix_lt h, bnd_eq (task_Right_eq _)]
    by_cases hr : RightP l[k]
    · rw [right_t.2 hr, Bool.not_true, fk_f, wr_succ k _ h hl]
      refine hnx h fun j hj hjk => ?_
      by_cases e : j = k
      · subst e; exact hr
      · exact J j hj (by omega)
    · rw [right_f.2 hr, Bool.not_false, fk_t]
      exact dec_f fun ha => hr (ha.1 _ (List.getElem_mem h))
  · rw [decide_eq_false h, fk_f]
    refine dec_iff ⟨fun h8 => ⟨fun t ht => ?_, by omega⟩, fun ha => by have := ha.2; omega⟩
    obtain ⟨j, hj, rfl⟩ := List.getElem_of_mem ht
    exact J j hj (by omega)

def holds (had : Int) (s : Sec) : Bool := decide (s.At < had) && decide (had < s.At + s.Len)
def heldL (had : Int) (l : List Sec) : List Int := (l.filter (holds had)).map (·.Res)
def held (t : Task) (had : Int) : List Int := if right t = true then heldL had t.Secs else []
theorem heldL_succ (had : Int) (l : List Sec) (i : Nat) (h : i < l.length) : heldL had (l.take (i + 1)) = heldL had (l.take i) ++ (if holds had l[i] = true then [l[i].Res] else []) := by
  rw [← List.take_append_getElem h, heldL, heldL, List.filter_append, List.map_append]
  congr 1
  by_cases e : holds had l[i] = true
  · rw [if_pos e, List.filter_cons_of_pos e]; rfl
  · rw [if_neg e, List.filter_cons_of_neg e]; rfl
theorem heldL_len (had : Int) (l : List Sec) : (heldL had l).length ≤ l.length := by
  rw [heldL, List.length_map]; exact List.length_filter_le _ _
theorem RightP.sec {t : Task} (h : RightP t) {k : Nat} (hk : k < t.Secs.length) : secP t.C t.Secs[k] := h.2.1 _ (List.getElem_mem hk)
theorem RightP.len {t : Task} (h : RightP t) : t.Secs.length ≤ 4 := h.1.2.2.2.2
theorem RightP.c {t : Task} (h : RightP t) : 1 ≤ t.C ∧ t.C ≤ t.D ∧ t.D ≤ t.T ∧ t.T ≤ 200 := ⟨h.1.1, h.1.2.1, h.1.2.2.1, h.1.2.2.2.1⟩

theorem task_Held_eq (t : Task) (had : Int) : task_Held t had = some (held t had) := by
  unfold task_Held
  rw [bnd_eq (task_Right_eq _)]
  by_cases hr : RightP t
  rotate_left
  · rw [right_f.2 hr, Bool.not_false, fk_t, held, right_f.2 hr]; rfl
  have hl := hr.len
  have hc := hr.c
  rw [right_t.2 hr, Bool.not_true, fk_f]
  refine lp_upS t.Secs.length (by unfold FU; omega) (fun k out => out = heldL had (t.Secs.take k)) [] rfl ?_
  intro nx k out hk J hnx
  subst J
  rw [lt_nat]
  by_cases h : k < t.Secs.length
  · have hs := hr.sec h
    unfold secP at hs
    have hn := fun s' => hnx s' h
    have hlen := heldL_len had (t.Secs.take k)
    rw [List.length_take] at hlen
    rw [decide_eq_true h, fk_t, jn_eq, ix_lt h]
    simp only [jn_eq]
    rw [wr_succ k _ h (by omega), wr_in _ (by omega)]
    simp only [fk_if, decide_eq_true_eq]
    split
    · split
      · rw [ck_t (by simp; omega)]
        refine hn _ ?_
        rw [heldL_succ _ _ _ h, if_pos]
        simp [holds, *]
      · refine hn _ ?_
        rw [heldL_succ _ _ _ h, if_neg, List.append_nil]
        simp [holds, *]
    · rw [if_neg (by simp)]
      refine hn _ ?_
      rw [heldL_succ _ _ _ h, if_neg, List.append_nil]
      simp [holds, *]
  · rw [decide_eq_false h, fk_f, held, right_t.2 hr, if_pos rfl]
    have : k = t.Secs.length := by omega
    rw [this, List.take_length]

def usesP (t : Task) (res : Int) : Prop := RightP t ∧ ∃ s ∈ t.Secs, s.Res = res
instance (t : Task) (res : Int) : Decidable (usesP t res) := by unfold usesP; infer_instance
theorem task_Uses_eq (t : Task) (res : Int) : task_Uses t res = some (decide (usesP t res)) := by
  unfold task_Uses
  rw [bnd_eq (task_Right_eq _)]
  by_cases hr : RightP t
  rotate_left
  · rw [right_f.2 hr, Bool.not_false, fk_t]; exact dec_f fun h => hr h.1
  have hl := hr.len
  rw [right_t.2 hr, Bool.not_true, fk_f]
  refine lp_up t.Secs.length (by unfold FU; omega) (fun k => ∀ j (h : j < t.Secs.length), j < k → t.Secs[j].Res ≠ res) (fun j _ h => by omega) ?_
  intro nx k hk J hnx
  rw [lt_nat]
  by_cases h : k < t.Secs.length
  · rw [decide_eq_true h, fk_t, ix_lt h]
    by_cases e : t.Secs[k].Res = res
    · rw [decide_eq_true e, fk_t]; exact dec_t ⟨hr, _, List.getElem_mem h, e⟩
    · rw [decide_eq_false e, fk_f, wr_succ k _ h (by omega)]
      refine hnx h fun j hj hjk => ?_
      by_cases e2 : j = k
      · subst e2; exact e
      · exact J j hj (by omega)
  · rw [decide_eq_false h, fk_f]
    refine dec_f ?_
    rintro ⟨_, s, hs, e⟩
    obtain ⟨j, hj, rfl⟩ := List.getElem_of_mem hs
    exact J j hj (by omega) e


theorem ref05_Right_eq (t : Task) (hlt : t.Secs.length ≤ 4611686018427387904) : ref05_Right t = some (right t) := by
  unfold ref05_Right
  simp only [jn_eq, fk_t, fk_f]
  by_cases ho : ownP t
  rotate_left
  · have hr : right t = false := right_f.2 fun h => ho h.1
    by_cases c0 : t.C < 1
    · rw [decide_eq_true c0, fk_t, hr]
    rw [decide_eq_false c0, fk_f]
    by_cases c1 : t.D < t.C
    · rw [decide_eq_true c1, fk_t, hr]
    rw [decide_eq_false c1, fk_f]
    by_cases c2 : t.T < t.D
    · rw [decide_eq_true c2, fk_t, hr]
    rw [decide_eq_false c2, fk_f]
    by_cases c3 : t.T > 200
    · rw [decide_eq_true c3, fk_t, hr]
    rw [decide_eq_false c3, fk_f]
    by_cases c4 : (t.Secs.length : Int) > 4
    · rw [decide_eq_true c4, fk_t, hr]
    rw [decide_eq_false c4, fk_f]
    exact absurd (by unfold ownP; omega) ho
  have ho' := ho
  unfold ownP at ho'
  rw [decide_eq_false (by omega), fk_f, decide_eq_false (by omega), fk_f, decide_eq_false (by omega), fk_f, decide_eq_false (by omega), fk_f, decide_eq_false (by omega), fk_f]
  refine lp_up t.Secs.length (by unfold FU; omega) (fun k => (∀ j (h : j < t.Secs.length), j < k → secP t.C t.Secs[j]) ∧ (∀ i j (hi : i < t.Secs.length) (hj : j < t.Secs.length), i < j → j < k → fitsP t.Secs[i] t.Secs[j])) ⟨fun j _ h => by omega, fun i j _ _ _ h => by omega⟩ ?_
  rintro nx k hk ⟨J1, J2⟩ hnx
  rw [lt_nat]
  by_cases h : k < t.Secs.length
  rotate_left
  · rw [decide_eq_false h, fk_f]
    have : right t = true := right_t.2 ⟨ho, fun s hs => by
      obtain ⟨j, hj, rfl⟩ := List.getElem_of_mem hs
      exact J1 j hj (by omega), List.pairwise_iff_getElem.2 fun i j hi hj hij => J2 i j hi hj hij (by omega)⟩
    rw [this]
  rw [decide_eq_true h, fk_t, ix_lt h]
  have hn := hnx h
  clear hnx
  generalize hs : t.Secs[k] = s at *
  by_cases hsec : secP t.C s
  rotate_left
  · have hr : right t = false := right_f.2 fun hr => hsec (hs ▸ hr.2.1 _ (List.getElem_mem h))
    by_cases c0 : s.Res < 0
    · rw [decide_eq_true c0, fk_t, hr]
    rw [decide_eq_false c0, fk_f]
    by_cases c1 : s.Res > 3
    · rw [decide_eq_true c1, fk_t, hr]
    rw [decide_eq_false c1, fk_f]
    by_cases c2 : s.At < 0
    · rw [decide_eq_true c2, fk_t, hr]
    rw [decide_eq_false c2, fk_f]
    by_cases c3 : s.Len < 1
    · rw [decide_eq_true c3, fk_t, hr]
    rw [decide_eq_false c3, fk_f]
    by_cases c4 : s.At > t.C
    · rw [decide_eq_true c4, fk_t, hr]
    rw [decide_eq_false c4, fk_f]
    by_cases c5 : s.Len > t.C
    · rw [decide_eq_true c5, fk_t, hr]
    rw [decide_eq_false c5, fk_f]
    have hw : wr (s.At + s.Len) = s.At + s.Len := wr_in _ (by omega)
    rw [hw]
    by_cases c6 : s.At + s.Len > t.C
    · rw [decide_eq_true c6, fk_t, hr]
    exact absurd (by unfold secP; omega) hsec
  have hsec' := hsec
  unfold secP at hsec'
  have hw : wr (s.At + s.Len) = s.At + s.Len := wr_in _ (by omega)
  rw [hw]
  rw [decide_eq_false (by omega), fk_f, decide_eq_false (by omega), fk_f, decide_eq_false (by omega), fk_f, decide_eq_false (by omega), fk_f, decide_eq_false (by omega), fk_f, decide_eq_false (by omega), fk_f, decide_eq_false (by omega), fk_f]
  refine lp_up k (by unfold FU; omega) (fun j => ∀ i (hi : i < t.Secs.length), i < j → fitsP t.Secs[i] s) (fun i _ h => by omega) ?_
  intro nx2 j hj J3 hnx2
  rw [lt_nat]
  by_cases h2 : j < k
  rotate_left
  · have hjk : j = k := by omega
    subst hjk
    rw [decide_eq_false h2, fk_f, wr_succ j _ h (by omega)]
    refine hn ⟨fun i hi hij => ?_, fun a b ha hb hab hbj => ?_⟩
    · by_cases e : i = j
      · subst e; rw [hs]; exact hsec
      · exact J1 i hi (by omega)
    · by_cases e : b = j
      · subst e; rw [hs]; exact J3 a ha hab
      · exact J2 a b ha hb hab (by omega)
  have hjl : j < t.Secs.length := by omega
  rw [decide_eq_true h2, fk_t, ix_lt hjl]
  have ha := J1 j hjl h2
  have good : fitsP t.Secs[j] s → nx2 (wr ((j : Int) + 1)) = some (right t) := fun hf => by
    rw [wr_succ j k h2 (by omega)]
    refine hnx2 h2 fun i hi hij => ?_
    by_cases e : i = j
    · subst e; exact hf
    · exact J3 i hi (by omega)
  have bad : ¬ fitsP t.Secs[j] s → some false = some (right t) := fun hf => by
    rw [right_f.2 fun hr => hf (hs ▸ List.pairwise_iff_getElem.1 hr.2.2 j k hjl h h2)]
  generalize t.Secs[j] = a at *
  unfold secP at ha
  have hwa : wr (a.At + a.Len) = a.At + a.Len := wr_in _ (by omega)
  rw [hwa]
  have ticks : a.At ≤ s.At → lp (fun nx8 (v8 : Int × Int × Int) => fk (decide (v8.2.2 < s.At + s.Len)) (fk (decide (v8.2.2 < a.At + a.Len)) (nx8 (wr (v8.1 + 1), v8.2.1, wr (v8.2.2 + 1))) (nx8 (v8.1, wr (v8.2.1 + 1), wr (v8.2.2 + 1))))
      (fk (decide (v8.1 > 0)) (fk (decide (v8.2.1 > 0)) (some false) (fk (decide (a.Res = s.Res)) (some false) (nx2 (wr ((j : Int) + 1))))) (nx2 (wr ((j : Int) + 1))))) FU (0, 0, s.At) = some (right t) := by
    intro hle
    refine lp_inv (fun v => (s.At + s.Len - v.2.2).toNat) (fun v => s.At ≤ v.2.2 ∧ v.2.2 ≤ s.At + s.Len ∧ v.1 = max 0 (min v.2.2 (a.At + a.Len) - s.At) ∧ v.2.1 = v.2.2 - s.At - v.1) ?_ FU _ ⟨by simp, by simp; omega, by simp; omega, by simp⟩ (by simp only [FU]; omega)
    rintro nx8 ⟨m, o, q⟩ ⟨i1, i2, i3, i4⟩ hn8
    simp only at i1 i2 i3 i4
    by_cases c1 : q < s.At + s.Len
    · rw [decide_eq_true c1, fk_t]
      by_cases c2 : q < a.At + a.Len
      · rw [decide_eq_true c2, fk_t, wr_in (m + 1) (by omega), wr_in (q + 1) (by omega)]
        exact hn8 _ ⟨by simp only; omega, by simp only; omega, by simp only; omega, by simp only; omega⟩ (by simp only; omega)
      · rw [decide_eq_false c2, fk_f, wr_in (o + 1) (by omega), wr_in (q + 1) (by omega)]
        exact hn8 _ ⟨by simp only; omega, by simp only; omega, by simp only; omega, by simp only; omega⟩ (by simp only; omega)
    · rw [decide_eq_false c1, fk_f]
      by_cases c3 : m > 0
      · rw [decide_eq_true c3, fk_t]
        by_cases c4 : o > 0
        · rw [decide_eq_true c4, fk_t]; exact bad (by unfold fitsP; omega)
        · rw [decide_eq_false c4, fk_f]
          by_cases c5 : a.Res = s.Res
          · rw [decide_eq_true c5, fk_t]; exact bad (by unfold fitsP; omega)
          · rw [decide_eq_false c5, fk_f]; exact good (by unfold fitsP; omega)
      · rw [decide_eq_false c3, fk_f]; exact good (by unfold fitsP; omega)
  by_cases d1 : s.At < a.At
  · rw [decide_eq_true d1, fk_t]; exact bad (by unfold fitsP; omega)
  · rw [decide_eq_false d1, fk_f]
    by_cases d2 : s.At = a.At
    · rw [decide_eq_true d2, fk_t]
      by_cases d3 : s.Len > a.Len
      · rw [decide_eq_true d3, fk_t]; exact bad (by unfold fitsP; omega)
      · rw [decide_eq_false d3, fk_f]; exact ticks (by omega)
    · rw [decide_eq_false d2, fk_f]; exact ticks (by omega)


theorem eqI_sec (x y : Sec) : eqI [.i .i64 x.Res, .i .i64 x.At, .i .i64 x.Len] [.i .i64 y.Res, .i .i64 y.At, .i .i64 y.Len] = decide (x = y) := by
  unfold eqI
  rw [decide_eq_decide]
  cases x; cases y; simp

theorem ref05_All_eq (l : List Task) (hl : l.length ≤ 4611686018427387904) (hs : ∀ t ∈ l, t.Secs.length ≤ 4611686018427387904) : ref05_All l = some (decide (AllP l)) := by
  unfold ref05_All
  refine lp_upS l.length (by unfold FU; omega) (fun k n => ∃ m : Nat, n = (m : Int) ∧ m ≤ k ∧ ((m = k) ↔ ∀ j (h : j < l.length), j < k → RightP l[j])) 0 ⟨0, rfl, Nat.le_refl _, by simp⟩ ?_
  rintro nx k n hk ⟨m, rfl, hm, J⟩ hnx
  rw [lt_nat]
  by_cases h : k < l.length
  · rw [decide_eq_true h, fk_t, jn_eq, ix_lt h, bnd_eq (ref05_Right_eq _ (hs _ (List.getElem_mem h)))]
    rw [wr_succ k _ h hl, wr_in ((m : Int) + 1) (by omega)]
    by_cases hr : RightP l[k]
    · rw [right_t.2 hr, fk_t]
      refine hnx _ h ⟨m + 1, rfl, by omega, ?_⟩
      constructor
      · intro e j hj hjk
        by_cases e2 : j = k
        · subst e2; exact hr
        · exact J.1 (by omega) j hj (by omega)
      · intro ha
        have := J.2 fun j hj hjk => ha j hj (by omega)
        omega
    · rw [right_f.2 hr, fk_f]
      refine hnx _ h ⟨m, rfl, by omega, ?_⟩
      constructor
      · intro e; omega
      · intro ha; exact absurd (ha k h (by omega)) hr
  · have hkl : k = l.length := by omega
    subst hkl
    rw [decide_eq_false h, fk_f]
    have key : (m = l.length) ↔ ∀ t ∈ l, RightP t := by
      rw [J]
      constructor
      · intro ha t ht
        obtain ⟨j, hj, rfl⟩ := List.getElem_of_mem ht
        exact ha j hj hj
      · intro ha j hj _; exact ha _ (List.getElem_mem hj)
    by_cases e : m = l.length
    · rw [decide_eq_true (by omega), fk_t]
      exact dec_iff ⟨fun h8 => ⟨key.1 e, by omega⟩, fun ha => by have := ha.2; omega⟩
    · rw [decide_eq_false (by omega), fk_f]
      exact dec_f fun ha => e (key.2 ha.1)

theorem secs_eq {a b : Task} : a = b ↔ a.C = b.C ∧ a.D = b.D ∧ a.T = b.T ∧ a.Secs = b.Secs := by
  cases a; cases b; simp

theorem ref05_Same_eq (a b : Task) (hl : a.Secs.length ≤ 4611686018427387904) : ref05_Same a b = some (decide (a = b)) := by
  unfold ref05_Same
  refine lp_up a.Secs.length (by unfold FU; omega) (fun k => k ≤ b.Secs.length ∧ ∀ j (h : j < a.Secs.length) (h' : j < b.Secs.length), j < k → a.Secs[j] = b.Secs[j]) ⟨Nat.zero_le _, fun j _ _ h => by omega⟩ ?_
  rintro nx k hk ⟨hkb, J⟩ hnx
  simp only [jn_eq]
  have fin : ¬ (k < a.Secs.length ∧ k < b.Secs.length) → (fk (decide (a.C = b.C)) (fk (decide (a.D = b.D)) (fk (decide (a.T = b.T)) (some (decide ((a.Secs.length : Int) = (b.Secs.length : Int)))) (some false)) (some false)) (some false)) = some (decide (a = b)) := by
    intro hn
    by_cases c1 : a.C = b.C
    rotate_left
    · rw [decide_eq_false c1, fk_f]; exact dec_f fun e => c1 (e ▸ rfl)
    by_cases c2 : a.D = b.D
    rotate_left
    · rw [decide_eq_true c1, fk_t, decide_eq_false c2, fk_f]; exact dec_f fun e => c2 (e ▸ rfl)
    by_cases c3 : a.T = b.T
    rotate_left
    · rw [decide_eq_true c1, fk_t, decide_eq_true c2, fk_t, decide_eq_false c3, fk_f]; exact dec_f fun e => c3 (e ▸ rfl)
    rw [decide_eq_true c1, fk_t, decide_eq_true c2, fk_t, decide_eq_true c3, fk_t]
    refine dec_iff ⟨fun e => ?_, fun e => by rw [e]⟩
    have c5 : a.Secs.length = b.Secs.length := by omega
    exact secs_eq.2 ⟨c1, c2, c3, List.ext_getElem c5 fun j h1 h2 => J j h1 h2 (by omega)⟩
  rw [lt_nat]
  by_cases h : k < a.Secs.length
  rotate_left
  · rw [decide_eq_false h, fk_f, fk_f]; exact fin fun hh => h hh.1
  rw [decide_eq_true h, fk_t, lt_nat]
  by_cases h' : k < b.Secs.length
  rotate_left
  · rw [decide_eq_false h', fk_f]; exact fin fun hh => h' hh.2
  rw [decide_eq_true h', fk_t, ix_lt h, ix_lt h', eqI_sec]
  by_cases e : a.Secs[k] = b.Secs[k]
  · rw [decide_eq_true e, Bool.not_true, fk_f, wr_succ k _ h hl]
    refine hnx h ⟨by omega, fun j hj hj' hjk => ?_⟩
    by_cases e2 : j = k
    · subst e2; exact e
    · exact J j hj hj' (by omega)
  · rw [decide_eq_false e, Bool.not_false, fk_t]
    exact dec_f fun e2 => e (by subst e2; rfl)

def GreatP (l : List Task) : Prop := (∃ t ∈ l, 20 < t.Secs.length) ∨ 20 < l.length
instance (l : List Task) : Decidable (GreatP l) := by unfold GreatP; infer_instance
theorem law05_Great_eq (l : List Task) (hl : l.length ≤ 4611686018427387904) : law05_Great l = some (decide (GreatP l)) := by
  unfold law05_Great
  refine lp_up l.length (by unfold FU; omega) (fun k => ∀ j (h : j < l.length), j < k → l[j].Secs.length ≤ 20) (fun j _ h => by omega) ?_
  intro nx k hk J hnx
  rw [lt_nat]
  by_cases h : k < l.length
  · rw [decide_eq_true h, fk_t, ix_lt h]
    by_cases e : (l[k].Secs.length : Int) > 20
    · rw [decide_eq_true e, fk_t]; exact dec_t (.inl ⟨_, List.getElem_mem h, by omega⟩)
    · rw [decide_eq_false e, fk_f, wr_succ k _ h hl]
      refine hnx h fun j hj hjk => ?_
      by_cases e2 : j = k
      · subst e2; omega
      · exact J j hj (by omega)
  · rw [decide_eq_false h, fk_f]
    refine dec_iff ⟨fun h20 => .inr (by omega), ?_⟩
    rintro (⟨t, ht, h20⟩ | h20)
    · obtain ⟨j, hj, rfl⟩ := List.getElem_of_mem ht
      have := J j hj (by omega)
      omega
    · omega

theorem wf_len {l : List Task} {n : Nat} (h : l.length * 48 ≤ n) (hn : n ≤ BB) : l.length ≤ 4611686018427387904 := by unfold BB at hn; omega
theorem Task.wf.len {t : Task} (h : t.wf) : t.Secs.length ≤ 4611686018427387904 := by have := h.2.2.2.1; unfold BB at this; omega
theorem held_right {t : Task} (h : RightP t) (had : Int) : held t had = heldL had t.Secs := by rw [held, right_t.2 h, if_pos rfl]
theorem held_len (t : Task) (had : Int) (h : RightP t) : (held t had).length ≤ 4 := by
  rw [held_right h]; exact Nat.le_trans (heldL_len _ _) h.len
theorem holds_iff {had : Int} {s : Sec} : holds had s = true ↔ s.At < had ∧ had < s.At + s.Len := by
  unfold holds; simp
theorem held_mem {t : Task} (h : RightP t) {had r : Int} (hr : r ∈ held t had) : ∃ s ∈ t.Secs, s.Res = r ∧ s.At < had ∧ had < s.At + s.Len := by
  rw [held_right h, heldL] at hr
  obtain ⟨s, hs, rfl⟩ := List.mem_map.1 hr
  obtain ⟨h1, h2⟩ := List.mem_filter.1 hs
  exact ⟨s, h1, rfl, holds_iff.1 h2⟩
theorem held_out {t : Task} (h : RightP t) {had : Int} (ho : had ≤ 0 ∨ t.C ≤ had) : held t had = [] := by
  rw [List.eq_nil_iff_forall_not_mem]
  intro r hr
  obtain ⟨s, hs, e, h1, h2⟩ := held_mem h hr
  have := h.2.1 s hs
  unfold secP at this
  omega

/-! ### Levels -/
def maxL {α : Type} (f : α → Nat) : List α → Nat
  | [] => 0
  | x :: r => max (f x) (maxL f r)
theorem maxL_append {α : Type} (f : α → Nat) (a b : List α) : maxL f (a ++ b) = max (maxL f a) (maxL f b) := by
  induction a with
  | nil => simp [maxL]
  | cons x r ih => simp only [List.cons_append, maxL, ih]; omega
theorem maxL_le {α : Type} {f : α → Nat} {l : List α} {n : Nat} : maxL f l ≤ n ↔ ∀ x ∈ l, f x ≤ n := by
  induction l with
  | nil => simp [maxL]
  | cons x r ih => simp only [maxL, List.mem_cons, forall_eq_or_imp, ← ih]; omega
theorem le_maxL {α : Type} {f : α → Nat} {l : List α} {x : α} (h : x ∈ l) : f x ≤ maxL f l := maxL_le.1 (Nat.le_refl _) x h
theorem maxL_succ {α : Type} (f : α → Nat) (l : List α) (k : Nat) (h : k < l.length) : maxL f (l.take (k + 1)) = max (maxL f (l.take k)) (f l[k]) := by
  rw [← List.take_append_getElem h, maxL_append]; simp [maxL]
theorem maxL_zero {α : Type} {f : α → Nat} {l : List α} (h : ∀ x ∈ l, f x = 0) : maxL f l = 0 := Nat.le_zero.1 (maxL_le.2 fun x hx => by rw [h x hx]; exact Nat.le_refl _)
theorem max_int (a b : Nat) : (if (a : Int) > (b : Int) then (a : Int) else (b : Int)) = ((max b a : Nat) : Int) := by split <;> omega

def levelN (l : List Task) (D : Int) : Nat := 1 + l.countP (fun x => decide (x.D > D))
theorem countP_succ {α : Type} (p : α → Bool) (l : List α) (k : Nat) (h : k < l.length) : (l.take (k + 1)).countP p = (l.take k).countP p + (if p l[k] = true then 1 else 0) := by
  rw [← List.take_append_getElem h, List.countP_append, List.countP_singleton]
theorem level_level_eq (l : List Task) (t : Task) (hl : l.length ≤ 4611686018427387904) : level_level l t = some (levelN l t.D : Int) := by
  unfold level_level
  refine lp_upS l.length (by unfold FU; omega) (fun k n => n = ((1 + (l.take k).countP (fun x => decide (x.D > t.D)) : Nat) : Int)) 1 rfl ?_
  rintro nx k n hk rfl hnx
  simp only [jn_eq]
  rw [lt_nat]
  have hc := List.countP_le_length (p := fun x : Task => decide (x.D > t.D)) (l := l.take k)
  rw [List.length_take] at hc
  by_cases h : k < l.length
  · rw [decide_eq_true h, fk_t, ix_lt h, wr_succ k _ h hl, wr_in _ (by omega)]
    by_cases c : l[k].D > t.D
    · rw [decide_eq_true c, fk_t]
      refine hnx _ h ?_
      rw [countP_succ _ _ _ h, if_pos (decide_eq_true c)]; omega
    · rw [decide_eq_false c, fk_f]
      refine hnx _ h ?_
      rw [countP_succ _ _ _ h, if_neg (by simp [c])]; rfl
  · rw [decide_eq_false h, fk_f]
    have : k = l.length := by omega
    rw [this, List.take_length]; rfl
def ofN (l : List Task) (i : Int) : Nat := if AllP l ∧ 0 ≤ i then (match l[i.toNat]? with | some t => levelN l t.D | none => 0) else 0
theorem ofN_lt {l : List Task} (ha : AllP l) {i : Int} (h0 : 0 ≤ i) (h : i.toNat < l.length) : ofN l i = levelN l l[i.toNat].D := by
  rw [ofN, if_pos ⟨ha, h0⟩, List.getElem?_eq_getElem h]
theorem level_Of_eq (l : List Task) (i : Int) (hl : l.length ≤ 4611686018427387904) : level_Of l i = some (ofN l i : Int) := by
  unfold level_Of
  simp only [jn_eq, fk_t]
  rw [bnd_eq (task_All_eq l hl)]
  by_cases ha : AllP l
  rotate_left
  · rw [decide_eq_false ha, Bool.not_false, fk_t, ofN, if_neg (fun h => ha h.1)]; rfl
  rw [decide_eq_true ha, Bool.not_true, fk_f]
  by_cases c1 : i < 0
  · rw [decide_eq_true c1, fk_t, ofN, if_neg (fun h => by omega)]; rfl
  rw [decide_eq_false c1, fk_f]
  by_cases c2 : i ≥ (l.length : Int)
  · rw [decide_eq_true c2, fk_t, ofN, List.getElem?_eq_none (by omega)]; simp
  rw [decide_eq_false c2, fk_f, ix_int (by omega) (by omega), bnd_eq (level_level_eq _ _ hl), ofN_lt ha (by omega)]
def ceilN (l : List Task) (res : Int) : Nat := maxL (fun t => if usesP t res then levelN l t.D else 0) l
def ceil (l : List Task) (res : Int) : Nat := if AllP l then ceilN l res else 0
theorem level_Ceiling_1_eq (t : Task) (res : Int) (l : List Task) (hl : l.length ≤ 4611686018427387904) : level_Ceiling_1 t res l = some ((if usesP t res then levelN l t.D else 0 : Nat) : Int) := by
  unfold level_Ceiling_1
  rw [bnd_eq (task_Uses_eq _ _)]
  by_cases h : usesP t res
  · rw [decide_eq_true h, Bool.not_true, fk_f, bnd_eq (level_level_eq _ _ hl), if_pos h]
  · rw [decide_eq_false h, Bool.not_false, fk_t, if_neg h]; rfl
theorem level_most_eq (l : List Task) (res : Int) (hl : l.length ≤ 4611686018427387904) : level_most_api_Task l res l = some (ceilN l res : Int) := by
  unfold level_most_api_Task
  refine lp_upS l.length (by unfold FU; omega) (fun k n => n = ((maxL (fun t => if usesP t res then levelN l t.D else 0) (l.take k) : Nat) : Int)) 0 rfl ?_
  rintro nx k n hk rfl hnx
  rw [lt_nat]
  by_cases h : k < l.length
  · rw [decide_eq_true h, fk_t, ix_lt h, bnd_eq (level_Ceiling_1_eq _ _ _ hl), wr_succ k _ h hl, max_int]
    exact hnx _ h (by rw [maxL_succ _ _ _ h])
  · rw [decide_eq_false h, fk_f]
    have : k = l.length := by omega
    rw [this, List.take_length]; rfl
theorem level_Ceiling_eq (l : List Task) (res : Int) (hl : l.length ≤ 4611686018427387904) : level_Ceiling l res = some (ceil l res : Int) := by
  unfold level_Ceiling
  rw [bnd_eq (task_All_eq l hl), ceil]
  by_cases ha : AllP l
  · rw [decide_eq_true ha, Bool.not_true, fk_f, bnd_eq (level_most_eq _ _ hl), if_pos ha]
  · rw [decide_eq_false ha, Bool.not_false, fk_t, if_neg ha]; rfl
def heldN (l : List Task) (h : List Int) : Nat := maxL (ceil l) h
theorem level_Held_eq (l : List Task) (h : List Int) (hl : l.length ≤ 4611686018427387904) (hh : h.length ≤ 4611686018427387904) : level_Held l h = some (heldN l h : Int) := by
  unfold level_Held
  have : level_most_int h l = some (heldN l h : Int) := by
    unfold level_most_int
    refine lp_upS h.length (by unfold FU; omega) (fun k n => n = ((maxL (ceil l) (h.take k) : Nat) : Int)) 0 rfl ?_
    rintro nx k n hk rfl hnx
    rw [lt_nat]
    by_cases c : k < h.length
    · rw [decide_eq_true c, fk_t, ix_lt c, level_Held_1, bnd_eq (level_Ceiling_eq l _ hl), bnd_some, wr_succ k _ c hh, max_int]
      exact hnx _ c (by rw [maxL_succ _ _ _ c])
    · rw [decide_eq_false c, fk_f]
      have : k = h.length := by omega
      rw [this, List.take_length]; rfl
  rw [bnd_eq this]
theorem level_Passes_eq (l : List Task) (i : Int) (h : List Int) (hl : l.length ≤ 4611686018427387904) (hh : h.length ≤ 4611686018427387904) : level_Passes l i h = some (decide (heldN l h < ofN l i)) := by
  unfold level_Passes
  rw [bnd_eq (level_Of_eq l i hl), bnd_eq (level_Held_eq l h hl hh)]
  exact dec_iff (by omega)

/-! The document's. -/
theorem ref05_Uses_eq (t : Task) (res : Int) (hl : t.Secs.length ≤ 4611686018427387904) : ref05_Uses t res = some (decide (∃ s ∈ t.Secs, s.Res = res)) := by
  unfold ref05_Uses
  refine lp_upS t.Secs.length (by unfold FU; omega) (fun k n => ∃ m : Nat, n = (m : Int) ∧ m ≤ k ∧ (0 < m ↔ ∃ j, ∃ h : j < t.Secs.length, j < k ∧ t.Secs[j].Res = res)) 0 ⟨0, rfl, Nat.le_refl _, by simp⟩ ?_
  rintro nx k n hk ⟨m, rfl, hm, J⟩ hnx
  simp only [jn_eq]
  rw [lt_nat]
  by_cases h : k < t.Secs.length
  · rw [decide_eq_true h, fk_t, ix_lt h, wr_succ k _ h hl, wr_in _ (by omega)]
    by_cases c : t.Secs[k].Res = res
    · rw [decide_eq_true c, fk_t]
      exact hnx _ h ⟨m + 1, rfl, by omega, ⟨fun _ => ⟨k, h, by omega, c⟩, fun _ => by omega⟩⟩
    · rw [decide_eq_false c, fk_f]
      refine hnx _ h ⟨m, rfl, by omega, J.trans ⟨fun ⟨j, hj, hjk, e⟩ => ⟨j, hj, by omega, e⟩, fun ⟨j, hj, hjk, e⟩ => ⟨j, hj, ?_, e⟩⟩⟩
      by_cases e2 : j = k
      · subst e2; exact absurd e c
      · omega
  · rw [decide_eq_false h, fk_f]
    refine dec_iff ?_
    have : ((m : Int) > 0) ↔ 0 < m := by omega
    rw [this, J]
    constructor
    · rintro ⟨j, hj, _, e⟩; exact ⟨_, List.getElem_mem hj, e⟩
    · rintro ⟨s, hs, e⟩
      obtain ⟨j, hj, rfl⟩ := List.getElem_of_mem hs
      exact ⟨j, hj, by omega, e⟩
theorem AllP.len {l : List Task} (h : AllP l) : l.length ≤ 4611686018427387904 := by have := h.2; omega
theorem AllP.slen {l : List Task} (h : AllP l) {t : Task} (ht : t ∈ l) : t.Secs.length ≤ 4611686018427387904 := by have := (h.1 t ht).len; omega
def greatJ (l : List Task) (js : List Job) : Prop := GreatP l ∨ 50 < js.length
noncomputable instance (l : List Task) (js : List Job) : Decidable (greatJ l js) := Classical.propDecidable _
/-- what a job must be over tasks that are right -/
def bodyP (t : Task) (j : Job) : Prop := j.Due = j.At + t.D ∧ 1 ≤ j.Want ∧ j.Want ≤ 200 ∧ 0 ≤ j.Had ∧ j.Had < j.Want ∧ j.Had < t.C ∧ (j.Began = true ∨ j.Had = 0)
noncomputable instance (t : Task) (j : Job) : Decidable (bodyP t j) := Classical.propDecidable _
def jobP (l : List Task) (j : Job) : Prop := 0 ≤ j.Task ∧ 0 ≤ j.At ∧ j.At ≤ 4611686018427387703 ∧ ∃ h : j.Task.toNat < l.length, bodyP l[j.Task.toNat] j
noncomputable instance (l : List Task) (j : Job) : Decidable (jobP l j) := Classical.propDecidable _
theorem job_right_eq (l : List Task) (j : Job) (ha : AllP l) : job_right l j = some (decide (jobP l j)) := by
  unfold job_right
  simp only [jn_eq, fk_t, fk_f]
  by_cases c1 : j.Task < 0
  · rw [decide_eq_true c1, fk_t]; exact dec_f fun h => by have := h.1; omega
  rw [decide_eq_false c1, fk_f]
  by_cases c2 : j.Task ≥ (l.length : Int)
  · rw [decide_eq_true c2, fk_t]; exact dec_f fun h => by have := h.2.2.2.1; omega
  rw [decide_eq_false c2, fk_f]
  by_cases c3 : j.At < 0
  · rw [decide_eq_true c3, fk_t]; exact dec_f fun h => by have := h.2.1; omega
  rw [decide_eq_false c3, fk_f]
  by_cases c4 : j.At > 4611686018427387703
  · rw [decide_eq_true c4, fk_t]; exact dec_f fun h => by have := h.2.2.1; omega
  have ht : j.Task.toNat < l.length := by omega
  have hc := (ha.1 _ (List.getElem_mem ht)).c
  rw [decide_eq_false c4, fk_f, ix_int (by omega) ht, wr_in _ (by omega)]
  have red : decide (jobP l j) = decide (bodyP l[j.Task.toNat] j) := decide_eq_decide.2 ⟨fun h => h.2.2.2.2, fun h => ⟨by omega, by omega, by omega, ht, h⟩⟩
  rw [red]
  generalize l[j.Task.toNat] = t at *
  have hmin : j.Had < (if j.Want < t.C then j.Want else t.C) ↔ j.Had < j.Want ∧ j.Had < t.C := by
    by_cases c : j.Want < t.C
    · rw [if_pos c]; omega
    · rw [if_neg c]; omega
  by_cases d1 : j.Due = j.At + t.D
  rotate_left
  · rw [decide_eq_false d1, fk_f]; exact dec_f fun h => d1 h.1
  rw [decide_eq_true d1, fk_t]
  by_cases d2 : j.Want ≥ 1
  rotate_left
  · rw [decide_eq_false d2, fk_f]; exact dec_f fun h => d2 h.2.1
  rw [decide_eq_true d2, fk_t]
  by_cases d3 : j.Want ≤ 200
  rotate_left
  · rw [decide_eq_false d3, fk_f]; exact dec_f fun h => d3 h.2.2.1
  rw [decide_eq_true d3, fk_t]
  by_cases d4 : j.Had ≥ 0
  rotate_left
  · rw [decide_eq_false d4, fk_f]; exact dec_f fun h => d4 h.2.2.2.1
  rw [decide_eq_true d4, fk_t]
  by_cases d5 : j.Had < (if j.Want < t.C then j.Want else t.C)
  rotate_left
  · rw [decide_eq_false d5, fk_f]; exact dec_f fun h => d5 (hmin.2 ⟨h.2.2.2.2.1, h.2.2.2.2.2.1⟩)
  rw [decide_eq_true d5, fk_t]
  obtain ⟨d5, d6⟩ := hmin.1 d5
  by_cases d7 : j.Began = true
  · rw [d7, fk_t]; exact dec_t ⟨d1, d2, d3, d4, d5, d6, .inl d7⟩
  · rw [Bool.eq_false_iff.2 d7, fk_f]
    refine dec_iff ⟨fun h => ⟨d1, d2, d3, d4, d5, d6, .inr h⟩, fun h => ?_⟩
    rcases h.2.2.2.2.2.2 with h | h
    · exact absurd h d7
    · exact h
def apartJ (a b : Job) : Prop := ¬ (a.Task = b.Task ∧ a.At = b.At)
def jobsP (l : List Task) (js : List Job) : Prop := AllP l ∧ js.length ≤ 32 ∧ (∀ j ∈ js, jobP l j) ∧ js.Pairwise apartJ
noncomputable instance (l : List Task) (js : List Job) : Decidable (jobsP l js) := Classical.propDecidable _
theorem job_All_eq (l : List Task) (js : List Job) (hl : l.length ≤ 4611686018427387904) : job_All l js = some (decide (jobsP l js)) := by
  unfold job_All
  simp only [jn_eq, fk_t, fk_f]
  rw [bnd_eq (task_All_eq l hl)]
  by_cases ha : AllP l
  rotate_left
  · rw [decide_eq_false ha, Bool.not_false, fk_t]; exact dec_f fun h => ha h.1
  rw [decide_eq_true ha, Bool.not_true, fk_f]
  by_cases hn : (js.length : Int) > 32
  · rw [decide_eq_true hn, fk_t]; exact dec_f fun h => by have := h.2.1; omega
  rw [decide_eq_false hn, fk_f]
  refine lp_up js.length (by unfold FU; omega) (fun k => (∀ i (h : i < js.length), i < k → jobP l js[i]) ∧ ∀ i i2 (h : i < js.length) (h2 : i2 < js.length), i < i2 → i2 < k → apartJ js[i] js[i2]) ⟨fun i _ h => by omega, fun i i2 _ _ _ h => by omega⟩ ?_
  rintro nx k hk ⟨J1, J2⟩ hnx
  rw [lt_nat]
  by_cases h : k < js.length
  rotate_left
  · rw [decide_eq_false h, fk_f]
    refine dec_t ⟨ha, by omega, fun j hj => ?_, List.pairwise_iff_getElem.2 fun i i2 h1 h2 h3 => J2 i i2 h1 h2 h3 (by omega)⟩
    obtain ⟨i, hi, rfl⟩ := List.getElem_of_mem hj
    exact J1 i hi (by omega)
  rw [decide_eq_true h, fk_t, ix_lt h, bnd_eq (job_right_eq l _ ha)]
  by_cases c1 : jobP l js[k]
  rotate_left
  · rw [decide_eq_false c1, Bool.not_false, fk_t]; exact dec_f fun h2 => c1 (h2.2.2.1 _ (List.getElem_mem h))
  rw [decide_eq_true c1, Bool.not_true, fk_f, ck_t (by simp; omega)]
  have e : (js.take (k : Int).toNat).drop (0 : Int).toNat = js.take k := by simp
  rw [e, wr_succ k _ h (by omega)]
  have hlen : (js.take k).length = k := by rw [List.length_take]; omega
  refine lp_up (js.take k).length (by unfold FU; omega) (fun i => ∀ q (hq : q < js.length), q < i → apartJ js[q] js[k]) (fun q _ h => by omega) ?_
  intro nx2 i hi K hnx2
  rw [lt_nat]
  by_cases h2 : i < (js.take k).length
  rotate_left
  · rw [decide_eq_false h2, fk_f]
    refine hnx h ⟨fun q hq hqk => ?_, fun q q2 hq hq2 hqq hqk => ?_⟩
    · by_cases e2 : q = k
      · subst e2; exact c1
      · exact J1 q hq (by omega)
    · by_cases e2 : q2 = k
      · subst e2; exact K q hq (by omega)
      · exact J2 q q2 hq hq2 hqq (by omega)
  rw [decide_eq_true h2, fk_t, ix_lt h2, wr_succ i _ h2 (by omega)]
  have hi2 : i < js.length := by omega
  have eg : (js.take k)[i] = js[i] := by rw [List.getElem_take]
  rw [eg]
  have bad : js[k].Task = js[i].Task → js[k].At = js[i].At → some false = some (decide (jobsP l js)) := fun a b => dec_f fun hp =>
    List.pairwise_iff_getElem.1 hp.2.2.2 i k hi2 h (by omega) ⟨a.symm, b.symm⟩
  have go : apartJ js[i] js[k] → nx2 ((i + 1 : Nat) : Int) = some (decide (jobsP l js)) := fun hap => hnx2 h2 fun q hq hqi => by
    by_cases e2 : q = i
    · subst e2; exact hap
    · exact K q hq (by omega)
  by_cases d1 : js[k].Task = js[i].Task
  · rw [decide_eq_true d1, fk_t]
    by_cases d2 : js[k].At = js[i].At
    · rw [decide_eq_true d2, fk_t]; exact bad d1 d2
    · rw [decide_eq_false d2, fk_f]; exact go fun h => d2 h.2.symm
  · rw [decide_eq_false d1, fk_f]; exact go fun h => d1 h.1.symm
def heldJ (l : List Task) (j : Job) : List Int := match l[j.Task.toNat]? with | some t => held t j.Had | none => []
def heldA (l : List Task) (js : List Job) : List Int := js.flatMap (heldJ l)
theorem heldA_succ (l : List Task) (js : List Job) (k : Nat) (h : k < js.length) : heldA l (js.take (k + 1)) = heldA l (js.take k) ++ heldJ l js[k] := by
  unfold heldA; rw [← List.take_append_getElem h, List.flatMap_append]; simp
theorem heldA_len {l : List Task} {js : List Job} (ha : AllP l) : (heldA l js).length ≤ 4 * js.length := by
  induction js with
  | nil => simp [heldA]
  | cons j r ih =>
    have : (heldJ l j).length ≤ 4 := by
      unfold heldJ
      cases e : l[j.Task.toNat]? with
      | none => simp
      | some t => exact held_len t _ (ha.1 t (List.mem_of_getElem? e))
    simp only [heldA, List.flatMap_cons, List.length_append, List.length_cons] at *
    omega
theorem heldJ_of {l : List Task} {j : Job} (h : j.Task.toNat < l.length) : heldJ l j = held l[j.Task.toNat] j.Had := by
  unfold heldJ; rw [List.getElem?_eq_getElem h]
theorem job_Held_eq (l : List Task) (js : List Job) (hl : l.length ≤ 4611686018427387904) : job_Held l js = some (if jobsP l js then heldA l js else []) := by
  unfold job_Held
  rw [bnd_eq (job_All_eq l js hl)]
  by_cases hp : jobsP l js
  rotate_left
  · rw [decide_eq_false hp, Bool.not_false, fk_t, if_neg hp]
  rw [decide_eq_true hp, Bool.not_true, fk_f, if_pos hp]
  have h32 := hp.2.1
  refine lp_upS js.length (by unfold FU; omega) (fun k o => o = heldA l (js.take k)) [] (by simp [heldA]) ?_
  rintro nx k o hk rfl hnx
  simp only
  rw [lt_nat]
  by_cases h : k < js.length
  rotate_left
  · rw [decide_eq_false h, fk_f]
    have : k = js.length := by omega
    rw [this, List.take_length]
  have hj := hp.2.2.1 _ (List.getElem_mem h)
  obtain ⟨h1, h2, h3, h4, hb⟩ := hj
  have hlen := heldA_len (l := l) (js := js.take k) hp.1
  rw [List.length_take] at hlen
  have hlen2 := held_len l[js[k].Task.toNat] js[k].Had (hp.1.1 _ (List.getElem_mem h4))
  rw [decide_eq_true h, fk_t, ix_lt h, ix_int h1 h4, bnd_eq (task_Held_eq _ _), ck_t (by simp; omega), wr_succ k _ h (by omega)]
  refine hnx _ h ?_
  rw [heldA_succ l js k h, heldJ_of h4]
theorem sameInts_eq (a : List Int) (ha : a.length ≤ 1000) : ref05_SameInts a a = some true := by
  unfold ref05_SameInts
  rw [decide_eq_true rfl, Bool.not_true, fk_f]
  refine lp_up a.length (by unfold FU; omega) (fun _ => True) trivial ?_
  intro nx k hk _ hnx
  rw [lt_nat]
  by_cases h : k < a.length
  · rw [decide_eq_true h, fk_t, ix_lt h]
    rw [ix_lt h, decide_eq_true rfl, Bool.not_true, fk_f, wr_succ k _ h (by omega)]
    exact hnx h trivial
  · rw [decide_eq_false h, fk_f]

def aheadP (a b : Job) : Prop := a.Due < b.Due ∨ (a.Due = b.Due ∧ (a.Task < b.Task ∨ (a.Task = b.Task ∧ a.At < b.At)))
instance (a b : Job) : Decidable (aheadP a b) := by unfold aheadP; infer_instance
theorem job_Ahead_eq (a b : Job) : job_Ahead a b = some (decide (aheadP a b)) := by
  unfold job_Ahead
  by_cases c1 : a.Due = b.Due
  · rw [decide_eq_true c1, Bool.not_true, fk_f]
    by_cases c2 : a.Task = b.Task
    · rw [decide_eq_true c2, Bool.not_true, fk_f]
      refine dec_iff ?_; unfold aheadP; omega
    · rw [decide_eq_false c2, Bool.not_false, fk_t]
      refine dec_iff ?_; unfold aheadP; omega
  · rw [decide_eq_false c1, Bool.not_false, fk_t]
    refine dec_iff ?_; unfold aheadP; omega
theorem eqI_job (x y : Job) : eqI [.i .i64 x.Task, .i .i64 x.At, .i .i64 x.Due, .i .i64 x.Want, .i .i64 x.Had, .b x.Began] [.i .i64 y.Task, .i .i64 y.At, .i .i64 y.Due, .i .i64 y.Want, .i .i64 y.Had, .b y.Began] = decide (x = y) := by
  unfold eqI
  rw [decide_eq_decide]
  cases x; cases y; simp
/-! The first one. -/
def IsFK (js : List Job) (b : Bool) (K : Nat) (i : Int) : Prop :=
  (i = -1 ∧ ∀ k (hk : k < js.length), k < K → js[k].Began ≠ b) ∨
  (∃ n : Nat, i = (n : Int) ∧ ∃ h : n < js.length, n < K ∧ js[n].Began = b ∧ (∀ k (hk : k < js.length), k < K → js[k].Began = b → ¬ aheadP js[k] js[n]) ∧ ∀ k (hk : k < js.length), k < n → js[k].Began = b → aheadP js[n] js[k])
def IsF (js : List Job) (b : Bool) (i : Int) : Prop := IsFK js b js.length i
theorem IsF.uniq {js : List Job} {b : Bool} {i i' : Int} (h : IsF js b i) (h' : IsF js b i') : i = i' := by
  rcases h with ⟨h1, h2⟩ | ⟨n, rfl, hn, _, hb, h3, h4⟩ <;> rcases h' with ⟨h1', h2'⟩ | ⟨n', rfl, hn', _, hb', h3', h4'⟩
  · omega
  · exact absurd hb' (h2 n' hn' hn')
  · exact absurd hb (h2' n hn hn)
  · rcases Nat.lt_trichotomy n n' with h | h | h
    · exact absurd (h4' n hn h hb) (h3 n' hn' hn' hb')
    · rw [h]
    · exact absurd (h4 n' hn' h hb') (h3' n hn hn hb)
open Classical in
noncomputable def fst (js : List Job) (b : Bool) : Int := if h : ∃ i, IsF js b i then Classical.choose h else -1
theorem IsF.eq {js : List Job} {b : Bool} {i : Int} (h : IsF js b i) : i = fst js b := by
  have hx : ∃ i, IsF js b i := ⟨i, h⟩
  unfold fst
  rw [dif_pos hx]
  exact h.uniq (Classical.choose_spec hx)
theorem aheadP_trans {a b c : Job} (h : aheadP a b) (k : aheadP b c) : aheadP a c := by unfold aheadP at *; omega
theorem aheadP_irr (a : Job) : ¬ aheadP a a := by unfold aheadP; omega
theorem aheadP_of {a b c : Job} (h : ¬ aheadP b a) (k : aheadP b c) : aheadP a c := by unfold aheadP at *; omega
theorem aheadP_of' {a b c : Job} (h : aheadP a b) (k : ¬ aheadP c b) : aheadP a c := by unfold aheadP at *; omega
theorem IsFK.zero (js : List Job) (b : Bool) : IsFK js b 0 (-1) := .inl ⟨rfl, fun k _ h => by omega⟩
theorem IsFK.skip {js : List Job} {b : Bool} {K : Nat} {i : Int} (h : IsFK js b K i) (hK : K < js.length) (hb : js[K].Began ≠ b) : IsFK js b (K + 1) i := by
  rcases h with ⟨h1, h2⟩ | ⟨n, rfl, hn, hl, hb', h3, h4⟩
  · refine .inl ⟨h1, fun k hk hkK => ?_⟩
    by_cases e : k = K
    · subst e; exact hb
    · exact h2 k hk (by omega)
  · refine .inr ⟨n, rfl, hn, by omega, hb', fun k hk hkK hkb => ?_, h4⟩
    by_cases e : k = K
    · subst e; exact absurd hkb hb
    · exact h3 k hk (by omega) hkb
theorem IsFK.keep {js : List Job} {b : Bool} {K n : Nat} (h : IsFK js b K (n : Int)) (hK : K < js.length) (hn : n < js.length) (ha : ¬ aheadP js[K] js[n]) : IsFK js b (K + 1) (n : Int) := by
  rcases h with ⟨h1, h2⟩ | ⟨m, e, hm, hl, hb', h3, h4⟩
  · omega
  · have : n = m := by omega
    subst this
    refine .inr ⟨n, rfl, hn, by omega, hb', fun k hk hkK hkb => ?_, h4⟩
    by_cases e : k = K
    · subst e; exact ha
    · exact h3 k hk (by omega) hkb
theorem IsFK.turn {js : List Job} {b : Bool} {K : Nat} {i : Int} (h : IsFK js b K i) (hK : K < js.length) (hb : js[K].Began = b) (ha : ∀ n (hn : n < js.length), i = (n : Int) → aheadP js[K] js[n]) : IsFK js b (K + 1) (K : Int) := by
  refine .inr ⟨K, rfl, hK, by omega, hb, fun k hk hkK hkb => ?_, fun k hk hkK hkb => ?_⟩
  · by_cases e : k = K
    · subst e; exact aheadP_irr _
    · rcases h with ⟨h1, h2⟩ | ⟨m, rfl, hm, hl, hb', h3, h4⟩
      · exact absurd hkb (h2 k hk (by omega))
      · exact fun hh => h3 k hk (by omega) hkb (aheadP_trans hh (ha m hm rfl))
  · rcases h with ⟨h1, h2⟩ | ⟨m, rfl, hm, hl, hb', h3, h4⟩
    · exact absurd hkb (h2 k hk hkK)
    · exact aheadP_of' (ha m hm rfl) (h3 k hk hkK hkb)
theorem job_First_1_eq (j : Job) (b : Bool) : job_First_1 j b = some (decide (j.Began = b)) := rfl
theorem job_First_eq (js : List Job) (b : Bool) (hl : js.length ≤ 4611686018427387904) : job_First js b = some (fst js b) := by
  unfold job_First
  have : job_first_api_Job js b = some (fst js b) := by
    unfold job_first_api_Job
    simp only [jn_eq]
    refine lp_upS js.length (by unfold FU; omega) (fun k i => IsFK js b k i) (-1) (IsFK.zero js b) ?_
    intro nx k i hk J hnx
    simp only
    rw [lt_nat]
    by_cases h : k < js.length
    rotate_left
    · rw [decide_eq_false h, fk_f]
      have : k = js.length := by omega
      subst this
      rw [IsF.eq J]
    rw [decide_eq_true h, fk_t]
    simp only [ix_lt h]
    rw [job_First_1_eq, bnd_some, wr_succ k _ h hl]
    by_cases hb : js[k].Began = b
    rotate_left
    · rw [decide_eq_false hb, fk_f, fk_f]; exact hnx _ h (J.skip h hb)
    rw [decide_eq_true hb, fk_t]
    by_cases h0 : i < 0
    · rw [decide_eq_true h0, fk_t, fk_t]
      exact hnx _ h (J.turn h hb fun n hn e => by omega)
    rw [decide_eq_false h0, fk_f]
    have hi : i.toNat < js.length := by
      rcases J with ⟨h1, _⟩ | ⟨n, rfl, hn, _⟩
      · omega
      · simpa using hn
    have ei : i = (i.toNat : Int) := by omega
    rw [ix_int (by omega) hi, job_Ahead_eq, bnd_some]
    by_cases ha : aheadP js[k] js[i.toNat]
    · rw [decide_eq_true ha, fk_t]
      exact hnx _ h (J.turn h hb fun n hn e => by
        have : n = i.toNat := by omega
        subst this; exact ha)
    · rw [decide_eq_false ha, fk_f]
      refine hnx _ h ?_
      rw [ei] at J ⊢
      exact J.keep h hi ha
  rw [bnd_eq this]
theorem fst_is (js : List Job) (b : Bool) : IsF js b (fst js b) := by
  have : ∀ K, K ≤ js.length → ∃ i, IsFK js b K i := by
    intro K
    induction K with
    | zero => exact fun _ => ⟨-1, IsFK.zero js b⟩
    | succ K ih =>
      intro hK
      obtain ⟨i, hi⟩ := ih (by omega)
      by_cases hb : js[K].Began = b
      rotate_left
      · exact ⟨i, hi.skip hK hb⟩
      by_cases ha : ∀ n (hn : n < js.length), i = (n : Int) → aheadP js[K] js[n]
      · exact ⟨K, hi.turn hK hb ha⟩
      · have : ∃ n, ∃ hn : n < js.length, i = (n : Int) ∧ ¬ aheadP js[K] js[n] := by
          by_cases c : ∃ n, ∃ hn : n < js.length, i = (n : Int) ∧ ¬ aheadP js[K] js[n]
          · exact c
          · exact absurd (fun n hn e => by
              by_cases c2 : aheadP js[K] js[n]
              · exact c2
              · exact absurd ⟨n, hn, e, c2⟩ c) ha
        obtain ⟨n, hn, rfl, hna⟩ := this
        exact ⟨n, hi.keep hK hn hna⟩
  obtain ⟨i, hi⟩ := this js.length (Nat.le_refl _)
  rw [← IsF.eq hi]; exact hi
theorem ref14_Same_eq (a b : List Job) (hl : a.length ≤ 4611686018427387904) : ref14_Same a b = some (decide (a = b)) := by
  unfold ref14_Same
  by_cases h0 : (a.length : Int) = (b.length : Int)
  rotate_left
  · rw [decide_eq_false h0, Bool.not_false, fk_t]; exact dec_f fun h => h0 (by rw [h])
  rw [decide_eq_true h0, Bool.not_true, fk_f]
  refine lp_up a.length (by unfold FU; omega) (fun k => ∀ i (hi : i < a.length) (hi' : i < b.length), i < k → a[i] = b[i]) (fun i _ _ h => by omega) ?_
  intro nx k hk J hnx
  rw [lt_nat]
  by_cases h : k < a.length
  rotate_left
  · rw [decide_eq_false h, fk_f]
    exact dec_t (List.ext_getElem (by omega) fun i h1 h2 => J i h1 h2 (by omega))
  rw [decide_eq_true h, fk_t, ix_lt h, ix_lt (show k < b.length by omega), eqI_job, wr_succ k _ h hl]
  by_cases e : a[k] = b[k]'(by omega)
  · rw [decide_eq_true e, Bool.not_true, fk_f]
    refine hnx h fun i hi hi' hik => ?_
    by_cases e2 : i = k
    · subst e2; exact e
    · exact J i hi hi' (by omega)
  · rw [decide_eq_false e, Bool.not_false, fk_t]
    refine dec_f fun hab => e ?_
    subst hab; rfl


/-! Sorted jobs. -/
/-! Levels by deadlines. -/
theorem countP_lt {α : Type} {p q : α → Bool} {l : List α} (h : ∀ x ∈ l, p x = true → q x = true) {x : α} (hx : x ∈ l) (hp : p x = false) (hq : q x = true) : l.countP p < l.countP q := by
  induction l with
  | nil => cases hx
  | cons a r ih =>
    simp only [List.countP_cons]
    have hr := fun x hx => h x (List.mem_cons_of_mem _ hx)
    have hle : r.countP p ≤ r.countP q := List.countP_mono_left hr
    rcases List.mem_cons.1 hx with rfl | hx
    · rw [hp, hq]; simp; omega
    · have := ih hr hx
      have h2 := h a List.mem_cons_self
      cases hpa : p a with
      | true => rw [h2 hpa]; simp; omega
      | false => simp; omega
theorem levelN_lt {l : List Task} {x : Task} (hx : x ∈ l) (D : Int) : levelN l x.D < levelN l D ↔ D < x.D := by
  unfold levelN
  constructor
  · intro h
    by_cases c : D < x.D
    · exact c
    · have : l.countP (fun y => decide (y.D > D)) ≤ l.countP (fun y => decide (y.D > x.D)) := List.countP_mono_left fun y _ hy => by
        simp only [decide_eq_true_eq] at *; omega
      omega
  · intro h
    have := countP_lt (p := fun y : Task => decide (y.D > x.D)) (q := fun y => decide (y.D > D)) (l := l) (fun y _ hy => by simp only [decide_eq_true_eq] at *; omega) hx (by simp) (by simpa using h)
    omega
/-- A task of this deadline uses nothing of what is held, and passes. -/
def passD (l : List Task) (h : List Int) (D : Int) : Prop := ∀ r ∈ h, ∀ x ∈ l, usesP x r → D < x.D
theorem maxL_lt {α : Type} {f : α → Nat} {l : List α} {n : Nat} (hn : 0 < n) : maxL f l < n ↔ ∀ x ∈ l, f x < n := by
  constructor
  · intro h x hx; exact Nat.lt_of_le_of_lt (le_maxL hx) h
  · intro h
    have : maxL f l ≤ n - 1 := maxL_le.2 fun x hx => by have := h x hx; omega
    omega
theorem passes_iff {l : List Task} {h : List Int} {i : Int} (ha : AllP l) (h0 : 0 ≤ i) (hi : i.toNat < l.length) : heldN l h < ofN l i ↔ passD l h l[i.toNat].D := by
  rw [ofN_lt ha h0 hi]
  have hn : 0 < levelN l l[i.toNat].D := by unfold levelN; omega
  unfold heldN passD
  rw [maxL_lt hn]
  refine forall_congr' fun r => forall_congr' fun hr => ?_
  rw [ceil, if_pos ha, ceilN, maxL_lt hn]
  refine forall_congr' fun x => forall_congr' fun hx => ?_
  by_cases c : usesP x r
  · rw [if_pos c, levelN_lt hx]; exact ⟨fun h _ => h, fun h => h c⟩
  · rw [if_neg c]; exact ⟨fun _ h => absurd h c, fun _ => hn⟩

/-! Who runs. -/
def jg (js : List Job) (i : Int) : Job := (js[i.toNat]?).getD ⟨0, 0, 0, 0, 0, false⟩
theorem jg_lt {js : List Job} {i : Int} (h : i.toNat < js.length) : jg js i = js[i.toNat] := by unfold jg; rw [List.getElem?_eq_getElem h]; rfl
theorem fst_cases (js : List Job) (b : Bool) : fst js b = -1 ∨ (0 ≤ fst js b ∧ (fst js b).toNat < js.length) := by
  rcases fst_is js b with ⟨h, _⟩ | ⟨n, h, hn, _⟩
  · exact .inl h
  · exact .inr ⟨by omega, by omega⟩
theorem fst_none {js : List Job} {b : Bool} (h : fst js b < 0) : ∀ j ∈ js, j.Began ≠ b := by
  intro j hj
  rcases fst_is js b with ⟨_, h2⟩ | ⟨n, h1, _⟩
  · obtain ⟨k, hk, rfl⟩ := List.getElem_of_mem hj
    exact h2 k hk hk
  · omega
theorem fst_first {js : List Job} {b : Bool} (h : 0 ≤ fst js b) (hl : (fst js b).toNat < js.length) : js[(fst js b).toNat].Began = b ∧ ∀ j ∈ js, j.Began = b → ¬ aheadP j js[(fst js b).toNat] := by
  rcases fst_is js b with ⟨h1, _⟩ | ⟨n, h1, hn, _, hb, h3, _⟩
  · omega
  · have e : (fst js b).toNat = n := by omega
    subst e
    refine ⟨hb, fun j hj hjb => ?_⟩
    obtain ⟨k, hk, rfl⟩ := List.getElem_of_mem hj
    exact h3 k hk hk hjb
open Classical in
noncomputable def cho (l : List Task) (js : List Job) : Int :=
  if fst js false < 0 then fst js true
  else if 0 ≤ fst js true ∧ ¬ aheadP (jg js (fst js false)) (jg js (fst js true)) then fst js true
  else if fst js true < 0 ∨ heldN l (heldA l js) < ofN l (jg js (fst js false)).Task then fst js false
  else fst js true
theorem heldA_none {l : List Task} {js : List Job} (hp : jobsP l js) (h : ∀ j ∈ js, j.Began ≠ true) : heldA l js = [] := by
  unfold heldA
  rw [List.flatMap_eq_nil_iff]
  intro j hj
  obtain ⟨_, _, _, h4, hb⟩ := hp.2.2.1 j hj
  rw [heldJ_of h4]
  refine held_out (hp.1.1 _ (List.getElem_mem h4)) (.inl ?_)
  rcases hb.2.2.2.2.2.2 with h5 | h5
  · exact absurd h5 (h j hj)
  · omega
theorem heldN_none (l : List Task) : heldN l [] = 0 := rfl
theorem srp_Choose_eq (l : List Task) (js : List Job) (hl : l.length ≤ 4611686018427387904) : srp_Choose l js = some (if jobsP l js then cho l js else -1) := by
  unfold srp_Choose
  simp only [jn_eq]
  rw [bnd_eq (job_All_eq l js hl)]
  by_cases hp : jobsP l js
  rotate_left
  · rw [decide_eq_false hp, Bool.not_false, fk_t, if_neg hp]
  have h32 := hp.2.1
  have hlen := heldA_len (l := l) (js := js) hp.1
  rw [decide_eq_true hp, Bool.not_true, fk_f, if_pos hp, bnd_eq (job_First_eq js _ (by omega)), bnd_eq (job_First_eq js _ (by omega))]
  unfold cho
  by_cases c1 : fst js false < 0
  · rw [decide_eq_true c1, fk_t, if_pos c1]
  rw [decide_eq_false c1, fk_f, if_neg c1]
  have hf : (fst js false).toNat < js.length := by rcases fst_cases js false with h | h <;> omega
  rw [jg_lt hf]
  have main : fk (decide (fst js true < 0)) (some (fst js false)) (ix js (fst js false) fun x9 => bnd (job_Held l js) fun x10 => bnd (level_Passes l x9.Task x10) fun x11 => fk x11 (some (fst js false)) (some (fst js true))) = some (if fst js true < 0 ∨ heldN l (heldA l js) < ofN l js[(fst js false).toNat].Task then fst js false else fst js true) := by
    by_cases c2 : fst js true < 0
    · rw [decide_eq_true c2, fk_t, if_pos (.inl c2)]
    rw [decide_eq_false c2, fk_f, ix_int (by omega) hf, bnd_eq (job_Held_eq l js hl), if_pos hp, bnd_eq (level_Passes_eq l _ _ hl (by omega))]
    by_cases c3 : heldN l (heldA l js) < ofN l js[(fst js false).toNat].Task
    · rw [decide_eq_true c3, fk_t, if_pos (.inr c3)]
    · rw [decide_eq_false c3, fk_f, if_neg (fun h => h.elim c2 c3)]
  by_cases c2 : fst js true ≥ 0
  · have ht : (fst js true).toNat < js.length := by rcases fst_cases js true with h | h <;> omega
    rw [decide_eq_true c2, fk_t, ix_int (by omega) hf, ix_int c2 ht, job_Ahead_eq, bnd_some, jg_lt ht]
    by_cases c3 : aheadP js[(fst js false).toNat] js[(fst js true).toNat]
    · rw [decide_eq_true c3, Bool.not_true, fk_f, main, if_neg (c := 0 ≤ fst js true ∧ ¬ aheadP _ _) (fun h => h.2 c3)]
    · rw [decide_eq_false c3, Bool.not_false, fk_t, if_pos (c := 0 ≤ fst js true ∧ _) ⟨c2, c3⟩]
  · rw [decide_eq_false c2, fk_f, fk_f, main, if_neg (c := 0 ≤ fst js true ∧ _) (fun h => c2 h.1)]
/-- What is chosen, by cases. -/
theorem cho_cases {l : List Task} {js : List Job} (hp : jobsP l js) :
    (js = [] ∧ cho l js = -1) ∨ ∃ n, ∃ h : n < js.length, cho l js = (n : Int) ∧
      ((js[n].Began = true ∧ (∀ j ∈ js, j.Began = true → ¬ aheadP j js[n]) ∧ ∀ j ∈ js, j.Began = false → aheadP j js[n] → ∃ f ∈ js, f.Began = false ∧ (∀ j ∈ js, j.Began = false → ¬ aheadP j f) ∧ ∃ hf : f.Task.toNat < l.length, ¬ passD l (heldA l js) l[f.Task.toNat].D) ∨
       (js[n].Began = false ∧ (∀ j ∈ js, j.Began = false → ¬ aheadP j js[n]) ∧ (∀ j ∈ js, j.Began = true → aheadP js[n] j) ∧ ∃ hf : js[n].Task.toNat < l.length, passD l (heldA l js) l[js[n].Task.toNat].D)) := by
  unfold cho
  by_cases c1 : fst js false < 0
  · rw [if_pos c1]
    by_cases c2 : fst js true < 0
    · left
      have h1 := fst_none c1
      have h2 := fst_none c2
      refine ⟨List.eq_nil_iff_forall_not_mem.2 fun j hj => ?_, by rcases fst_cases js true with h | h <;> omega⟩
      cases hb : j.Began with
      | true => exact h2 j hj hb
      | false => exact h1 j hj hb
    · have ht : (fst js true).toNat < js.length := by rcases fst_cases js true with h | h <;> omega
      obtain ⟨h1, h2⟩ := fst_first (by omega) ht
      exact .inr ⟨_, ht, by omega, .inl ⟨h1, h2, fun j hj hb _ => absurd hb (fst_none c1 j hj)⟩⟩
  rw [if_neg c1]
  have hf : (fst js false).toNat < js.length := by rcases fst_cases js false with h | h <;> omega
  obtain ⟨t0, _, _, t3, _⟩ := hp.2.2.1 _ (List.getElem_mem hf)
  obtain ⟨f1, f2⟩ := fst_first (b := false) (by omega) hf
  rw [jg_lt hf]
  right
  by_cases c2 : 0 ≤ fst js true ∧ ¬ aheadP js[(fst js false).toNat] (jg js (fst js true))
  · rw [if_pos c2]
    have ht : (fst js true).toNat < js.length := by rcases fst_cases js true with h | h <;> omega
    rw [jg_lt ht] at c2
    obtain ⟨h1, h2⟩ := fst_first c2.1 ht
    exact ⟨_, ht, by omega, .inl ⟨h1, h2, fun j hj hb ha => absurd (aheadP_of (f2 j hj hb) ha) c2.2⟩⟩
  rw [if_neg c2]
  by_cases c3 : fst js true < 0 ∨ heldN l (heldA l js) < ofN l js[(fst js false).toNat].Task
  · rw [if_pos c3]
    refine ⟨_, hf, by omega, .inr ⟨f1, f2, fun j hj hb => ?_, t3, ?_⟩⟩
    · by_cases c4 : fst js true < 0
      · exact absurd hb (fst_none c4 j hj)
      · have ht : (fst js true).toNat < js.length := by rcases fst_cases js true with h | h <;> omega
        obtain ⟨h1, h2⟩ := fst_first (b := true) (by omega) ht
        have h3 : aheadP js[(fst js false).toNat] js[(fst js true).toNat] := by
          by_cases c : aheadP js[(fst js false).toNat] js[(fst js true).toNat]
          · exact c
          · exact absurd ⟨by omega, by rw [jg_lt ht]; exact c⟩ c2
        exact aheadP_of' h3 (h2 j hj hb)
    · rw [← passes_iff hp.1 t0 t3]
      rcases c3 with c3 | c3
      · rw [heldA_none hp (fst_none c3), heldN_none, ofN_lt hp.1 t0 t3]; unfold levelN; omega
      · exact c3
  · rw [if_neg c3]
    have c4 : ¬ fst js true < 0 := fun h => c3 (.inl h)
    have ht : (fst js true).toNat < js.length := by rcases fst_cases js true with h | h <;> omega
    obtain ⟨h1, h2⟩ := fst_first (b := true) (by omega) ht
    refine ⟨_, ht, by omega, .inl ⟨h1, h2, fun j hj hb ha => ⟨_, List.getElem_mem hf, f1, f2, t3, ?_⟩⟩⟩
    rw [← passes_iff hp.1 t0 t3]
    exact fun h => c3 (.inr h)


/-! A tick. -/
def upd (j : Job) : Job := ⟨j.Task, j.At, j.Due, j.Want, j.Had + 1, true⟩
def taskC (l : List Task) (j : Job) : Int := match l[j.Task.toNat]? with | some t => t.C | none => 0
def overB (l : List Task) (j : Job) : Bool := decide (j.Had + 1 ≥ (if taskC l j < j.Want then taskC l j else j.Want))
def zeroJ : Job := ⟨0, 0, 0, 0, 0, false⟩
def tickN (l : List Task) (js : List Job) (n : Nat) (h : n < js.length) : List Job := if overB l js[n] = true then js.eraseIdx n else js.set n (upd js[n])
open Classical in
noncomputable def tick (l : List Task) (js : List Job) : List Job × Job × Bool :=
  if h : jobsP l js ∧ 0 ≤ cho l js ∧ (cho l js).toNat < js.length then (tickN l js (cho l js).toNat h.2.2, upd js[(cho l js).toNat], overB l js[(cho l js).toNat]) else (js, zeroJ, false)
theorem tick_eq {l : List Task} {js : List Job} (hp : jobsP l js) {n : Nat} (hn : n < js.length) (ec : cho l js = (n : Int)) : tick l js = (tickN l js n hn, upd js[n], overB l js[n]) := by
  obtain rfl : n = (cho l js).toNat := by omega
  unfold tick
  rw [dif_pos ⟨hp, by omega, hn⟩]
theorem cho_nat {l : List Task} {js : List Job} (hp : jobsP l js) : cho l js = -1 ∨ ∃ n, ∃ hn : n < js.length, cho l js = (n : Int) := by
  rcases cho_cases hp with ⟨_, h⟩ | ⟨n, hn, h, _⟩
  · exact .inl h
  · exact .inr ⟨n, hn, h⟩
theorem tickN_form {l : List Task} {js : List Job} {n : Nat} (h : n < js.length) : tickN l js n h = js.take n ++ (if overB l js[n] = true then [] else [upd js[n]]) ++ js.drop (n + 1) := by
  unfold tickN
  split
  · rw [List.eraseIdx_eq_take_drop_succ]; simp
  · rw [List.set_eq_take_append_cons_drop, if_pos h]; simp
theorem had_bound {l : List Task} {js : List Job} (hp : jobsP l js) {j : Job} (hj : j ∈ js) : 0 ≤ j.Had ∧ j.Had < 200 ∧ j.Had < j.Want ∧ j.Had < taskC l j ∧ j.Want ≤ 200 ∧ taskC l j ≤ 200 := by
  obtain ⟨_, _, _, h4, hb⟩ := hp.2.2.1 j hj
  have hc := hp.1.1 _ (List.getElem_mem h4)
  have := hc.1
  unfold ownP at this
  unfold bodyP at hb
  unfold taskC
  rw [List.getElem?_eq_getElem h4]
  simp only
  omega
theorem srp_Tick_eq (l : List Task) (js : List Job) (hl : l.length ≤ 4611686018427387904) : srp_Tick l js = some (tick l js) := by
  unfold srp_Tick
  simp only [jn_eq]
  rw [bnd_eq (srp_Choose_eq l js hl)]
  by_cases hp : jobsP l js
  rotate_left
  · rw [if_neg hp, decide_eq_true (by omega), fk_t, tick, dif_neg (fun h => hp h.1)]; rfl
  rw [if_pos hp]
  have h32 := hp.2.1
  rcases cho_nat hp with hc | ⟨n, hn, ec⟩
  · rw [decide_eq_true (by omega), fk_t, tick, dif_neg (fun h => by omega)]; rfl
  rw [tick_eq hp hn ec, ec]
  obtain ⟨t0, t1, t2, t3, tb⟩ := hp.2.2.1 _ (List.getElem_mem hn)
  have hb := had_bound hp (List.getElem_mem hn)
  have eC : taskC l js[n] = l[js[n].Task.toNat].C := by unfold taskC; rw [List.getElem?_eq_getElem t3]
  rw [decide_eq_false (by omega), fk_f, ix_lt hn, ix_int t0 t3, ← eC, wr_in _ (by omega), wr_in _ (by omega), tickN_form hn]
  have e2 : ∀ m : List Job, (([] : List Job) ++ ((js.take (n : Int).toNat).drop (0 : Int).toNat)) ++ m ++ ((js.take (js.length : Int).toNat).drop ((n : Int) + 1).toNat) = js.take n ++ m ++ js.drop (n + 1) := by
    intro m
    rw [show ((n : Int) + 1).toNat = n + 1 by omega]; simp
  rw [ck_t (by simp; omega), ck_t (by simp; omega)]
  show fk (!overB l js[n]) _ _ = _
  cases ho : overB l js[n] with
  | true =>
    rw [Bool.not_true, fk_f, ck_t (by simp; omega), ck_t (by simp; omega), if_pos rfl, ← e2 [], List.append_nil]
    show some (_, upd js[n], overB l js[n]) = _
    rw [ho]
  | false =>
    rw [Bool.not_false, fk_t, ck_t (by simp; omega), ck_t (by simp; omega), ck_t (by simp; omega), show (if false = true then ([] : List Job) else [upd js[n]]) = [upd js[n]] from if_neg (by simp), ← e2]
    show some (_, upd js[n], overB l js[n]) = _
    rw [ho]; rfl
theorem over_iff {l : List Task} {js : List Job} (hp : jobsP l js) {j : Job} (hj : j ∈ js) : overB l j = (decide (j.Had + 1 = j.Want) || decide (j.Had + 1 = taskC l j)) := by
  have hb := had_bound hp hj
  unfold overB
  by_cases c : taskC l j < j.Want
  · rw [if_pos c]
    rw [Bool.eq_iff_iff]; simp only [decide_eq_true_eq, Bool.or_eq_true]; omega
  · rw [if_neg c]
    rw [Bool.eq_iff_iff]; simp only [decide_eq_true_eq, Bool.or_eq_true]; omega

/-- Where what is there behind a tick comes from. -/
theorem mem_tickN {l : List Task} {js : List Job} {n : Nat} {h : n < js.length} {j : Job} (hj : j ∈ tickN l js n h) : (∃ k, ∃ hk : k < js.length, k ≠ n ∧ j = js[k]) ∨ (overB l js[n] = false ∧ j = upd js[n]) := by
  unfold tickN at hj
  split at hj
  · rename_i ho
    obtain ⟨k, hk, rfl⟩ := List.getElem_of_mem hj
    rw [List.length_eraseIdx, if_pos h] at hk
    rw [List.getElem_eraseIdx]
    split
    · exact .inl ⟨k, by omega, by omega, rfl⟩
    · exact .inl ⟨k + 1, by omega, by omega, rfl⟩
  · rename_i ho
    obtain ⟨k, hk, rfl⟩ := List.getElem_of_mem hj
    rw [List.length_set] at hk
    rw [List.getElem_set]
    split
    · exact .inr ⟨by simpa using ho, rfl⟩
    · exact .inl ⟨k, hk, by omega, rfl⟩
theorem jobsP_tickN {l : List Task} {js : List Job} (hp : jobsP l js) (n : Nat) (h : n < js.length) : jobsP l (tickN l js n h) := by
  refine ⟨hp.1, ?_, fun j hj => ?_, ?_⟩
  · have := hp.2.1
    unfold tickN
    split
    · rw [List.length_eraseIdx, if_pos h]; omega
    · rw [List.length_set]; exact this
  · rcases mem_tickN hj with ⟨k, hk, _, rfl⟩ | ⟨ho, rfl⟩
    · exact hp.2.2.1 _ (List.getElem_mem hk)
    · have hov := over_iff hp (List.getElem_mem h)
      have hb := had_bound hp (List.getElem_mem h)
      obtain ⟨t0, t1, t2, t3, tb⟩ := hp.2.2.1 _ (List.getElem_mem h)
      have eC : taskC l js[n] = l[js[n].Task.toNat].C := by unfold taskC; rw [List.getElem?_eq_getElem t3]
      rw [ho] at hov
      simp only [Bool.false_eq, Bool.or_eq_false_iff, decide_eq_false_iff_not] at hov
      refine ⟨t0, t1, t2, t3, ?_⟩
      unfold bodyP at *
      exact ⟨tb.1, tb.2.1, tb.2.2.1, by simp only [upd]; omega, by simp only [upd]; omega, by simp only [upd]; rw [← eC]; omega, .inl rfl⟩
  · unfold tickN
    split
    · exact hp.2.2.2.sublist (List.eraseIdx_sublist _ _)
    · rw [List.pairwise_iff_getElem]
      intro i k hi hk hik
      rw [List.length_set] at hi hk
      have hpw := List.pairwise_iff_getElem.1 hp.2.2.2 i k hi hk hik
      rw [List.getElem_set, List.getElem_set]
      split <;> split
      · omega
      · rename_i e _; subst e; exact hpw
      · rename_i _ e; subst e; exact hpw
      · exact hpw
theorem jobsP_tick {l : List Task} {js : List Job} (hp : jobsP l js) : jobsP l (tick l js).1 := by
  rcases cho_nat hp with hc | ⟨n, hn, ec⟩
  · rw [tick, dif_neg (fun h => by omega)]; exact hp
  · rw [tick_eq hp hn ec]; exact jobsP_tickN hp n hn

/-! What jobs hold, of those that began. -/
/-! Jobs that came to be. -/
theorem jobsP_nil {l : List Task} (ha : AllP l) : jobsP l [] := ⟨ha, Nat.zero_le _, fun j hj => (List.not_mem_nil hj).elim, List.Pairwise.nil⟩

/-! Releases, not too early. -/
def lastsP (l : List Task) (ls : List Int) : Prop := AllP l ∧ ls.length = l.length ∧ ∀ x ∈ ls, -1 ≤ x ∧ x ≤ 4611686018427387903
noncomputable instance (l : List Task) (ls : List Int) : Decidable (lastsP l ls) := Classical.propDecidable _
def argP (l : List Task) (ls : List Int) (i t : Int) : Prop := lastsP l ls ∧ 0 ≤ i ∧ i < (l.length : Int) ∧ 0 ≤ t ∧ t ≤ 4611686018427387703
noncomputable instance (l : List Task) (ls : List Int) (i t : Int) : Decidable (argP l ls i t) := Classical.propDecidable _
def lg (ls : List Int) (i : Int) : Int := (ls[i.toNat]?).getD 0
def tT (l : List Task) (i : Int) : Int := match l[i.toNat]? with | some t => t.T | none => 0
theorem lg_lt {ls : List Int} {i : Int} (h : i.toNat < ls.length) : lg ls i = ls[i.toNat] := by unfold lg; rw [List.getElem?_eq_getElem h]; rfl
theorem tT_lt {l : List Task} {i : Int} (h : i.toNat < l.length) : tT l i = l[i.toNat].T := by unfold tT; rw [List.getElem?_eq_getElem h]
noncomputable def mayV (l : List Task) (ls : List Int) (i t : Int) : Int := if argP l ls i t then (if lg ls i ≠ -1 ∧ t < lg ls i + tT l i then 6 else 0) else 1
theorem police_Right_eq (l : List Task) (ls : List Int) (hl : l.length ≤ 4611686018427387904) (hs : ls.length ≤ 4611686018427387904) : police_Right l ls = some (decide (lastsP l ls)) := by
  unfold police_Right
  simp only [jn_eq, fk_t, fk_f]
  rw [bnd_eq (task_All_eq l hl)]
  by_cases ha : AllP l
  rotate_left
  · rw [decide_eq_false ha, Bool.not_false, fk_t]; exact dec_f fun h => ha h.1
  rw [decide_eq_true ha, Bool.not_true, fk_f]
  by_cases hn : (ls.length : Int) = (l.length : Int)
  rotate_left
  · rw [decide_eq_false hn, Bool.not_false, fk_t]; exact dec_f fun h => hn (by rw [h.2.1])
  rw [decide_eq_true hn, Bool.not_true, fk_f]
  refine lp_up ls.length (by unfold FU; omega) (fun k => ∀ i (h : i < ls.length), i < k → -1 ≤ ls[i] ∧ ls[i] ≤ 4611686018427387903) (fun i _ h => by omega) ?_
  intro nx k hk J hnx
  rw [lt_nat]
  by_cases h : k < ls.length
  rotate_left
  · rw [decide_eq_false h, fk_f]
    refine dec_t ⟨ha, by omega, fun x hx => ?_⟩
    obtain ⟨i, hi, rfl⟩ := List.getElem_of_mem hx
    exact J i hi (by omega)
  rw [decide_eq_true h, fk_t, ix_lt h, wr_succ k _ h hs]
  by_cases c1 : ls[k] < -1
  · rw [decide_eq_true c1, fk_t]; exact dec_f fun h2 => by have := (h2.2.2 _ (List.getElem_mem h)).1; omega
  rw [decide_eq_false c1, fk_f]
  by_cases c2 : ls[k] > 4611686018427387903
  · rw [decide_eq_true c2, fk_t]; exact dec_f fun h2 => by have := (h2.2.2 _ (List.getElem_mem h)).2; omega
  rw [decide_eq_false c2, fk_f]
  refine hnx h fun i hi hik => ?_
  by_cases e : i = k
  · subst e; omega
  · exact J i hi (by omega)
theorem argP_idx {l : List Task} {ls : List Int} {i t : Int} (h : argP l ls i t) : i.toNat < l.length ∧ i.toNat < ls.length := by
  have := h.1.2.1; have := h.2.1; have := h.2.2.1; omega
theorem argP_b {l : List Task} {ls : List Int} {i t : Int} (h : argP l ls i t) : -1 ≤ lg ls i ∧ lg ls i ≤ 4611686018427387903 ∧ 1 ≤ tT l i ∧ tT l i ≤ 200 := by
  obtain ⟨h1, h2⟩ := argP_idx h
  rw [lg_lt h2, tT_lt h1]
  have a := h.1.2.2 _ (List.getElem_mem h2)
  have b := (h.1.1.1 _ (List.getElem_mem h1)).1
  unfold ownP at b
  omega
theorem police_May_eq (l : List Task) (ls : List Int) (i t : Int) (hl : l.length ≤ 4611686018427387904) (hs : ls.length ≤ 4611686018427387904) : police_May l ls i t = some (mayV l ls i t) := by
  unfold police_May mayV
  simp only [jn_eq, fk_t, fk_f]
  rw [bnd_eq (police_Right_eq l ls hl hs)]
  by_cases ha : lastsP l ls
  rotate_left
  · rw [decide_eq_false ha, Bool.not_false, fk_t, if_neg (fun h => ha h.1)]
  rw [decide_eq_true ha, Bool.not_true, fk_f]
  by_cases c1 : i < 0
  · rw [decide_eq_true c1, fk_t, if_neg (fun h => by have := h.2.1; omega)]
  rw [decide_eq_false c1, fk_f]
  by_cases c2 : i ≥ (l.length : Int)
  · rw [decide_eq_true c2, fk_t, if_neg (fun h => by have := h.2.2.1; omega)]
  rw [decide_eq_false c2, fk_f]
  by_cases c3 : t < 0
  · rw [decide_eq_true c3, fk_t, if_neg (fun h => by have := h.2.2.2.1; omega)]
  rw [decide_eq_false c3, fk_f]
  by_cases c4 : t > 4611686018427387703
  · rw [decide_eq_true c4, fk_t, if_neg (fun h => by have := h.2.2.2.2; omega)]
  have hA : argP l ls i t := ⟨ha, by omega, by omega, by omega, by omega⟩
  obtain ⟨h1, h2⟩ := argP_idx hA
  have hb := argP_b hA
  rw [decide_eq_false c4, fk_f, if_pos hA]
  have i2 : ∀ {f : Int → Option Int}, ix ls i f = f (lg ls i) := fun {f} => by rw [lg_lt h2]; exact ix_int (by omega) h2
  have i1 : ∀ {f : Task → Option Int}, ix l i f = f l[i.toNat] := fun {f} => ix_int (by omega) h1
  simp only [i1, i2]
  rw [← tT_lt h1]
  by_cases c5 : lg ls i = -1
  · rw [decide_eq_true c5, Bool.not_true, fk_f, if_neg (fun h => h.1 c5)]
  rw [decide_eq_false c5, Bool.not_false, fk_t, wr_in _ (by omega)]
  by_cases c6 : t < lg ls i + tT l i
  · rw [decide_eq_true c6, fk_t, if_pos ⟨c5, c6⟩]
  · rw [decide_eq_false c6, fk_f, if_neg (fun h => c6 h.2)]
noncomputable def noteL (l : List Task) (ls : List Int) (i t : Int) : List Int := if mayV l ls i t = 0 then ls.set i.toNat t else ls
theorem mayV_arg {l : List Task} {ls : List Int} {i t : Int} (h : mayV l ls i t = 0) : argP l ls i t := by
  by_cases c : argP l ls i t
  · exact c
  · unfold mayV at h; rw [if_neg c] at h; omega
theorem police_Note_eq (l : List Task) (ls : List Int) (i t : Int) (hl : l.length ≤ 4611686018427387904) (hs : ls.length ≤ 1000000000) : police_Note l ls i t = some (noteL l ls i t, mayV l ls i t) := by
  unfold police_Note noteL
  rw [bnd_eq (police_May_eq l ls i t hl (by omega))]
  by_cases h : mayV l ls i t = 0
  rotate_left
  · rw [decide_eq_false h, Bool.not_false, fk_t, if_neg h]
  have hA := mayV_arg h
  obtain ⟨h1, h2⟩ := argP_idx hA
  have := hA.2.1
  rw [decide_eq_true h, Bool.not_true, fk_f, if_pos h, ck_t (by simp; omega), List.nil_append, ck_t (by simp; omega), ox_lt h2, h]
theorem lastsP_note {l : List Task} {ls : List Int} (h : lastsP l ls) (i t : Int) : lastsP l (noteL l ls i t) := by
  unfold noteL
  split
  · rename_i h0
    have hA := mayV_arg h0
    refine ⟨h.1, by rw [List.length_set]; exact h.2.1, fun x hx => ?_⟩
    rcases List.mem_or_eq_of_mem_set hx with hx | hx
    · exact h.2.2 x hx
    · subst hx; have := hA.2.2.2; omega
  · exact h
/-! Asks, one by one. -/
end Go.Proofs.YtldlcdnhdedoeaaGreat
namespace Go.Proofs.YtldlcdnhdedoeaaGreat
open Go Go.VC

/-! ### Tasks -/




/-! ### Levels -/
/-! The document's. -/

def sumI {α : Type} (f : α → Int) : List α → Int
  | [] => 0
  | x :: r => f x + sumI f r
theorem sumI_append {α : Type} (f : α → Int) (a b : List α) : sumI f (a ++ b) = sumI f a + sumI f b := by
  induction a with
  | nil => simp [sumI]
  | cons x r ih => simp only [List.cons_append, sumI, ih]; omega
theorem sumI_succ {α : Type} (f : α → Int) (l : List α) (k : Nat) (h : k < l.length) : sumI f (l.take (k + 1)) = sumI f (l.take k) + f l[k] := by
  rw [← List.take_append_getElem h, sumI_append]; simp [sumI]
theorem sumI_nonneg {α : Type} {f : α → Int} : ∀ {l : List α}, (∀ x ∈ l, 0 ≤ f x) → 0 ≤ sumI f l
  | [], _ => Int.le_refl _
  | x :: r, h => by
    have h1 := h x List.mem_cons_self
    have h2 := sumI_nonneg (f := f) (l := r) fun y hy => h y (List.mem_cons_of_mem _ hy)
    simp only [sumI]; omega
theorem sumI_bound {α : Type} {f : α → Int} {n : Int} : ∀ {l : List α}, (∀ x ∈ l, f x ≤ n) → sumI f l ≤ n * (l.length : Int)
  | [], _ => by simp [sumI]
  | x :: r, h => by
    have h1 := h x List.mem_cons_self
    have h2 := sumI_bound (f := f) (l := r) fun y hy => h y (List.mem_cons_of_mem _ hy)
    have e : n * ((x :: r).length : Int) = n + n * (r.length : Int) := by
      rw [List.length_cons, Int.natCast_add, Int.mul_add, Int.add_comm]; simp
    simp only [sumI]; omega

def inM (x : Int) : Prop := -4611686018427387903 ≤ x ∧ x ≤ 4611686018427387903
instance (x : Int) : Decidable (inM x) := by unfold inM; infer_instance
theorem arith_may_eq (l : List Int) (hl : l.length ≤ 1000) : arith_may l = some (decide (∀ x ∈ l, inM x)) := by
  unfold arith_may
  refine lp_up l.length (by unfold FU; omega) (fun k => ∀ j (h : j < l.length), j < k → inM l[j]) (fun j _ h => by omega) ?_
  intro nx k hk J hnx
  simp only [jn_eq]
  rw [lt_nat]
  by_cases h : k < l.length
  · rw [decide_eq_true h, fk_t, ix_lt h, wr_succ k _ h (by omega), fk_t]
    have bad : ¬ inM l[k] → some false = some (decide (∀ x ∈ l, inM x)) := fun hb => dec_f fun ha => hb (ha _ (List.getElem_mem h))
    by_cases c1 : l[k] > 4611686018427387903
    · rw [decide_eq_true c1, fk_t]; exact bad fun hh => by unfold inM at hh; omega
    rw [decide_eq_false c1, fk_f]
    by_cases c2 : l[k] < -4611686018427387903
    · rw [decide_eq_true c2, fk_t]; exact bad fun hh => by unfold inM at hh; omega
    rw [decide_eq_false c2, fk_f]
    refine hnx h fun j hj hjk => ?_
    by_cases e : j = k
    · subst e; unfold inM; omega
    · exact J j hj (by omega)
  · rw [decide_eq_false h, fk_f]
    refine dec_t fun x hx => ?_
    obtain ⟨j, hj, rfl⟩ := List.getElem_of_mem hx
    exact J j hj (by omega)
theorem arith_may2 (a b : Int) : arith_may [a, b] = some (decide (inM a ∧ inM b)) := by
  rw [arith_may_eq _ (by simp)]; refine dec_iff ?_; simp
theorem arith_may1 (a : Int) : arith_may [a] = some (decide (inM a)) := by
  rw [arith_may_eq _ (by simp)]; refine dec_iff ?_; simp
theorem arith_Floor_eq (a b : Int) (ha : 0 ≤ a) (ha2 : a ≤ 4611686018427387903) (hb : 1 ≤ b) (hb2 : b ≤ 200) : arith_Floor a b = some (a / b, 0) := by
  unfold arith_Floor
  simp only [jn_eq, fk_t]
  have hq0 : 0 ≤ a / b := Int.ediv_nonneg ha (by omega)
  have hq1 : a / b ≤ a := Int.ediv_le_self _ ha
  rw [bnd_eq (arith_may2 a b), decide_eq_true ⟨by unfold inM; omega, by unfold inM; omega⟩, Bool.not_true, fk_f, decide_eq_false (by omega : ¬ b < 1), fk_f, ck_t (by simp; omega), ck_t (by simp; omega)]
  rw [Int.tmod_eq_emod_of_nonneg ha, Int.tdiv_eq_ediv_of_nonneg ha]
  have := Int.emod_nonneg a (b := b) (by omega)
  rw [decide_eq_false (by omega), fk_f, wr_in _ (by omega)]
def jobsN (t : Task) (k : Int) : Int := if k < t.D then 0 else (k - t.D) / t.T + 1
theorem jobsN_b {t : Task} (h : RightP t) {k : Int} (h0 : 0 ≤ k) : 0 ≤ jobsN t k ∧ jobsN t k ≤ k := by
  have hc := h.c
  unfold jobsN
  by_cases c : k < t.D
  · rw [if_pos c]; omega
  · rw [if_neg c]
    have h1 := Int.ediv_nonneg (a := k - t.D) (b := t.T) (by omega) (by omega)
    have h2 := Int.ediv_le_self (a := k - t.D) t.T (by omega)
    omega
theorem demand_jobs_eq (t : Task) (k : Int) (h : RightP t) (h0 : 0 ≤ k) (h1 : k ≤ 4611686018427387903) : demand_jobs t k = some (jobsN t k) := by
  have hc := h.c
  have hj := jobsN_b h h0
  unfold demand_jobs
  unfold jobsN at *
  by_cases c : k < t.D
  · rw [decide_eq_true c, fk_t, if_pos c]
  · rw [if_neg c] at *
    rw [decide_eq_false c, fk_f, wr_in (k - t.D) (by omega), bnd_eq (arith_Floor_eq _ _ (by omega) (by omega) (by omega) (by omega)), wr_in _ (by simp only; omega)]
theorem arith_Mul_eq (a b : Int) (ha : 1 ≤ a) (ha2 : a ≤ 200) (hb : 0 ≤ b) (hb2 : b ≤ 4611686018427387903) : arith_Mul a b = some (if a * b ≤ 4611686018427387903 then a * b else 0, if a * b ≤ 4611686018427387903 then 0 else 5) := by
  unfold arith_Mul
  simp only [jn_eq, fk_t]
  rw [bnd_eq (arith_may2 a b), decide_eq_true ⟨by unfold inM; omega, by unfold inM; omega⟩, Bool.not_true, fk_f, decide_eq_false (by omega : ¬ a = 0), fk_f]
  by_cases c : b = 0
  · subst c; rw [decide_eq_true rfl, fk_t]; simp
  rw [decide_eq_false c, fk_f]
  have e1 : IntKind.i64.wrap (0 - b) = 0 - b := wr_in _ (by omega)
  have e2 : IntKind.i64.wrap (0 - a) = 0 - a := wr_in _ (by omega)
  rw [e1, e2, if_neg (by omega : ¬ (0 - b > b)), if_neg (by omega : ¬ (0 - a > a)), ck_t (by simp; omega), Int.tdiv_eq_ediv_of_nonneg (by decide)]
  have hq : (4611686018427387903 : Int) / b ≤ 4611686018427387903 := Int.ediv_le_self _ (by decide)
  have hq0 : 0 ≤ (4611686018427387903 : Int) / b := Int.ediv_nonneg (by decide) hb
  rw [wr_in _ (by omega)]
  have key : a > (4611686018427387903 : Int) / b ↔ ¬ a * b ≤ 4611686018427387903 := by
    rw [← Int.le_ediv_iff_mul_le (by omega)]; omega
  by_cases d : a * b ≤ 4611686018427387903
  · have : 0 ≤ a * b := Int.mul_nonneg (by omega) hb
    rw [decide_eq_false (fun h => key.1 h d), fk_f, if_pos d, if_pos d, wr_in _ (by omega)]
  · rw [decide_eq_true (key.2 d), fk_t, if_neg d, if_neg d]
theorem arith_Add_eq (a b : Int) (ha : 0 ≤ a) (ha2 : a ≤ 4611686018427387903) (hb : 0 ≤ b) (hb2 : b ≤ 4611686018427387903) : arith_Add a b = some (if a + b ≤ 4611686018427387903 then a + b else 0, if a + b ≤ 4611686018427387903 then 0 else 5) := by
  unfold arith_Add
  rw [bnd_eq (arith_may2 a b), decide_eq_true ⟨by unfold inM; omega, by unfold inM; omega⟩, Bool.not_true, fk_f, wr_in _ (by omega), bnd_eq (arith_may1 _)]
  by_cases d : a + b ≤ 4611686018427387903
  · rw [decide_eq_true (by unfold inM; omega), Bool.not_true, fk_f, if_pos d, if_pos d]
  · rw [decide_eq_false (by unfold inM; omega), Bool.not_false, fk_t, if_neg d, if_neg d]
def costN (k : Int) (t : Task) : Int := t.C * jobsN t k
def sumB (l : List Task) (k : Int) : Int := sumI (costN k) l
theorem costN_nonneg {t : Task} (h : RightP t) {k : Int} (h0 : 0 ≤ k) : 0 ≤ costN k t := Int.mul_nonneg (by have := h.c; omega) (jobsN_b h h0).1
theorem costN_le {t : Task} (h : RightP t) {k : Int} (h0 : 0 ≤ k) : costN k t ≤ 200 * k := by
  have hc := h.c
  have hj := jobsN_b h h0
  exact Int.mul_le_mul (by omega) hj.2 hj.1 (by omega)
def askP (l : List Task) (k : Int) : Prop := AllP l ∧ 0 ≤ k ∧ k ≤ 4611686018427387903
instance (l : List Task) (k : Int) : Decidable (askP l k) := by unfold askP; infer_instance
theorem demand_Bound_eq (l : List Task) (k : Int) (hl : l.length ≤ 4611686018427387904) : demand_Bound l k = some (if askP l k ∧ sumB l k ≤ 4611686018427387903 then sumB l k else 0, if askP l k then (if sumB l k ≤ 4611686018427387903 then 0 else 5) else 1) := by
  unfold demand_Bound
  simp only [jn_eq, fk_t]
  rw [bnd_eq (task_All_eq l hl)]
  have no : ¬ askP l k → some ((0 : Int), (1 : Int)) = some (if askP l k ∧ sumB l k ≤ 4611686018427387903 then sumB l k else 0, if askP l k then (if sumB l k ≤ 4611686018427387903 then (0 : Int) else 5) else 1) := fun h => by
    rw [if_neg (fun h2 => h h2.1), if_neg h]
  by_cases ha : AllP l
  rotate_left
  · rw [decide_eq_false ha, Bool.not_false, fk_t]; exact no fun h => ha h.1
  rw [decide_eq_true ha, Bool.not_true, fk_f]
  by_cases c1 : k < 0
  · rw [decide_eq_true c1, fk_t]; exact no fun h => by have := h.2.1; omega
  rw [decide_eq_false c1, fk_f]
  by_cases c2 : k > 4611686018427387903
  · rw [decide_eq_true c2, fk_t]; exact no fun h => by have := h.2.2; omega
  rw [decide_eq_false c2, fk_f]
  have hask : askP l k := ⟨ha, by omega, by omega⟩
  rw [if_pos hask]
  refine lp_inv (fun v => l.length - v.2.2.toNat) (fun v => ∃ i : Nat, v.2.2 = (i : Int) ∧ i ≤ l.length ∧ 0 ≤ v.1 ∧ v.1 ≤ 4611686018427387903 ∧ 0 ≤ sumI (costN k) (l.take i) ∧ ((v.2.1 = 0 ∧ v.1 = sumI (costN k) (l.take i)) ∨ (v.2.1 = 5 ∧ sumI (costN k) (l.take i) > 4611686018427387903))) ?_ FU _ ⟨0, rfl, Nat.zero_le _, by decide, by decide, by simp [sumI], .inl ⟨rfl, by simp [sumI]⟩⟩ (by show l.length - 0 < FU; unfold FU; omega)
  rintro nx ⟨w, s, iv⟩ ⟨i, hi, hil, hw0, hw1, hS0, J⟩ hnx
  simp only at hi hw0 hw1 J
  subst hi
  simp only
  rw [lt_nat]
  by_cases h : i < l.length
  · have hr := ha.1 _ (List.getElem_mem h)
    have hcc := hr.c
    have hj := jobsN_b hr (k := k) (by omega)
    have hcn := costN_nonneg hr (k := k) (by omega)
    have hS := sumI_succ (costN k) l i h
    have hce : costN k l[i] = l[i].C * jobsN l[i] k := rfl
    rw [decide_eq_true h, fk_t, ix_lt h, bnd_eq (demand_jobs_eq _ _ hr (by omega) (by omega)), bnd_eq (arith_Mul_eq _ _ hcc.1 (by omega) hj.1 (by omega)), wr_succ i _ h hl]
    rw [← hce]
    by_cases c3 : costN k l[i] ≤ 4611686018427387903
    · rw [if_pos c3, if_pos c3, bnd_eq (arith_Add_eq w (costN k l[i]) hw0 hw1 hcn c3), decide_eq_true rfl, Bool.not_true, fk_f]
      by_cases c4 : w + costN k l[i] ≤ 4611686018427387903
      · rw [if_pos c4, if_pos c4, decide_eq_true rfl, Bool.not_true, fk_f]
        refine hnx _ ⟨i + 1, rfl, h, by simp only; omega, by simp only; omega, by omega, ?_⟩ (by simp only [Int.toNat_natCast]; omega)
        rcases J with ⟨j1, j2⟩ | ⟨j1, j2⟩
        · exact .inl ⟨j1, by simp only; omega⟩
        · exact .inr ⟨j1, by omega⟩
      · rw [if_neg c4, if_neg c4, show decide ((5 : Int) = 0) = false from rfl, Bool.not_false, fk_t]
        refine hnx _ ⟨i + 1, rfl, h, hw0, hw1, by omega, .inr ⟨rfl, ?_⟩⟩ (by simp only [Int.toNat_natCast]; omega)
        rcases J with ⟨j1, j2⟩ | ⟨j1, j2⟩ <;> omega
    · rw [if_neg c3, if_neg c3, bnd_eq (arith_Add_eq w 0 hw0 hw1 (by decide) (by decide)), show decide ((5 : Int) = 0) = false from rfl, Bool.not_false, fk_t]
      refine hnx _ ⟨i + 1, rfl, h, hw0, hw1, by omega, .inr ⟨rfl, ?_⟩⟩ (by simp only [Int.toNat_natCast]; omega)
      rcases J with ⟨j1, j2⟩ | ⟨j1, j2⟩ <;> omega
  · rw [decide_eq_false h, fk_f]
    have : i = l.length := by omega
    subst this
    rw [List.take_length] at J hS0
    have hsB : sumB l k = sumI (costN k) l := rfl
    rcases J with ⟨j1, j2⟩ | ⟨j1, j2⟩
    · rw [j1, decide_eq_true rfl, Bool.not_true, fk_f, if_pos ⟨hask, by omega⟩, if_pos (by omega), j2]; rfl
    · rw [j1, show decide ((5 : Int) = 0) = false from rfl, Bool.not_false, fk_t, if_neg (by omega), if_neg (by omega)]
theorem sumB_le {l : List Task} (ha : AllP l) {k : Int} (h0 : 0 ≤ k) : sumB l k ≤ 1600 * k := by
  have h := sumI_bound (f := costN k) (l := l) fun x hx => costN_le (ha.1 x hx) h0
  have h2 : 200 * k * (l.length : Int) ≤ 200 * k * 8 := Int.mul_le_mul_of_nonneg_left (by have := ha.2; omega) (by omega)
  unfold sumB
  omega
theorem sumB_nonneg {l : List Task} (ha : AllP l) {k : Int} (h0 : 0 ≤ k) : 0 ≤ sumB l k := sumI_nonneg fun x hx => costN_nonneg (ha.1 x hx) h0
theorem demand_Bound_small (l : List Task) (k : Int) (ha : AllP l) (h0 : 0 ≤ k) (h1 : k ≤ 2199023255552) : demand_Bound l k = some (sumB l k, 0) := by
  have hb := sumB_le ha h0
  have hk : askP l k := ⟨ha, h0, by omega⟩
  rw [demand_Bound_eq l k (by have := ha.2; omega), if_pos ⟨hk, by omega⟩, if_pos hk, if_pos (by omega)]
theorem jobsN_is {t : Task} (h : RightP t) {k n : Int} (hn : 0 ≤ n) (h1 : k < t.D + t.T * n) (h2 : n = 0 ∨ t.D + t.T * (n - 1) ≤ k) : jobsN t k = n := by
  have hc := h.c
  unfold jobsN
  by_cases c : k < t.D
  · rw [if_pos c]
    rcases h2 with h2 | h2
    · exact h2.symm
    · by_cases z : n = 0
      · exact z.symm
      · have := Int.mul_nonneg (a := t.T) (b := n - 1) (by omega) (by omega)
        omega
  · rw [if_neg c]
    have hz : n ≠ 0 := by rintro rfl; simp at h1; omega
    have e : (k - t.D) / t.T = n - 1 := by
      have a1 : n - 1 ≤ (k - t.D) / t.T := (Int.le_ediv_iff_mul_le (by omega)).2 (by rw [Int.mul_comm]; omega)
      have a2 : (k - t.D) / t.T < n := Int.ediv_lt_of_lt_mul (by omega) (by rw [Int.mul_comm]; omega)
      omega
    omega


theorem ref07_Bound_eq (l : List Task) (k : Int) (ha : AllP l) (h0 : 0 ≤ k) (h1 : k ≤ 5000) : ref07_Bound l k = some (sumB l k) := by
  unfold ref07_Bound
  have hl := ha.2
  refine lp_upS l.length (by unfold FU; omega) (fun i s => s = sumI (costN k) (l.take i)) 0 (by simp [sumI]) ?_
  rintro nx i s hi rfl hnx
  simp only
  rw [lt_nat]
  by_cases h : i < l.length
  rotate_left
  · rw [decide_eq_false h, fk_f]
    have : i = l.length := by omega
    subst this
    rw [List.take_length]; rfl
  have hr := ha.1 _ (List.getElem_mem h)
  have hc := hr.c
  have hS := sumI_succ (costN k) l i h
  have hb : 0 ≤ sumI (costN k) (l.take i) := sumI_nonneg fun x hx => costN_nonneg (ha.1 x (List.mem_of_mem_take hx)) h0
  have hb2 : sumI (costN k) (l.take i) ≤ 200 * k * ((l.take i).length : Int) := sumI_bound fun x hx => costN_le (ha.1 x (List.mem_of_mem_take hx)) h0
  have hb3 : 200 * k * ((l.take i).length : Int) ≤ 200 * k * 8 := Int.mul_le_mul_of_nonneg_left (by rw [List.length_take]; omega) (by omega)
  generalize sumI (costN k) (l.take i) = s at *
  rw [decide_eq_true h, fk_t, wr_succ i _ h (by omega)]
  simp only [ix_lt h]
  generalize l[i] = t at *
  refine lp_inv (fun v => (k + 1 - v.2).toNat) (fun v => ∃ n : Int, 0 ≤ n ∧ n ≤ 5001 ∧ v.1 = s + t.C * n ∧ v.2 = t.D + t.T * n ∧ (n = 0 ∨ t.D + t.T * (n - 1) ≤ k)) ?_ FU _ ⟨0, by decide, by decide, by simp, by simp, .inl rfl⟩ (by show (k + 1 - t.D).toNat < FU; unfold FU; omega)
  rintro nx2 ⟨a, d⟩ ⟨n, hn0, hn1, hav, hd, hnn⟩ hnx2
  simp only at hav hd
  subst hav hd
  simp only
  have m1 : t.C * n ≤ 200 * 5001 := Int.mul_le_mul (by omega) hn1 hn0 (by omega)
  have m2 : 0 ≤ t.C * n := Int.mul_nonneg (by omega) hn0
  have m3 : t.T * n ≤ 200 * 5001 := Int.mul_le_mul (by omega) hn1 hn0 (by omega)
  have m4 : 0 ≤ t.T * n := Int.mul_nonneg (by omega) hn0
  have e1 : t.C * (n + 1) = t.C * n + t.C := by rw [Int.mul_add, Int.mul_one]
  have e2 : t.T * (n + 1) = t.T * n + t.T := by rw [Int.mul_add, Int.mul_one]
  by_cases c : t.D + t.T * n ≤ k
  · rw [decide_eq_true c, fk_t, wr_in _ (by omega), wr_in _ (by omega)]
    have hnT : n ≤ t.T * n := by
      have := Int.mul_le_mul_of_nonneg_right (a := 1) (b := t.T) (c := n) (by omega) hn0
      omega
    refine hnx2 _ ⟨n + 1, by omega, by omega, by simp only; omega, by simp only; omega, .inr ?_⟩ (by simp only; omega)
    rw [show n + 1 - 1 = n from by omega]; exact c
  · rw [decide_eq_false c, fk_f]
    refine hnx _ h ?_
    rw [hS, costN, jobsN_is hr hn0 (by omega) hnn]
/-! ### Patterns -/
def rowP (T : Int) (r : List Int) : Prop := r.length ≤ 1000 ∧ ∀ j (h : j < r.length), 0 ≤ r[j] ∧ r[j] ≤ 4611686018427387903 ∧ (0 < j → r[j - 1] + T ≤ r[j])
def patP (l : List Task) (a : List (List Int)) : Prop := AllP l ∧ a.length = l.length ∧ ∀ i (h : i < a.length) (h2 : i < l.length), rowP l[i].T a[i]
noncomputable instance (l : List Task) (a : List (List Int)) : Decidable (patP l a) := Classical.propDecidable _
theorem patP.rows {l : List Task} {a : List (List Int)} (h : patP l a) : ∀ r ∈ a, r.length ≤ 1000 := by
  intro r hr
  obtain ⟨i, hi, rfl⟩ := List.getElem_of_mem hr
  exact (h.2.2 i hi (by have := h.2.1; omega)).1
def great7 (l : List Task) (a : List (List Int)) : Prop := (∃ r ∈ a, 1100 < r.length) ∨ GreatP l ∨ 20 < a.length
instance (l : List Task) (a : List (List Int)) : Decidable (great7 l a) := by unfold great7; infer_instance
/-! ### Blocking -/
def sharedP (l : List Task) (t res : Int) : Prop := ∃ x ∈ l, x.D ≤ t ∧ usesP x res
instance (l : List Task) (t res : Int) : Decidable (sharedP l t res) := by unfold sharedP; infer_instance
theorem block_shared_eq (l : List Task) (t res : Int) (hl : l.length ≤ 4611686018427387904) : block_shared l t res = some (decide (sharedP l t res)) := by
  unfold block_shared
  refine lp_up l.length (by unfold FU; omega) (fun k => ∀ j (h : j < l.length), j < k → ¬ (l[j].D ≤ t ∧ usesP l[j] res)) (fun j _ h => by omega) ?_
  intro nx k hk J hnx
  rw [lt_nat]
  by_cases h : k < l.length
  · simp only [jn_eq]
    rw [decide_eq_true h, fk_t, ix_lt h, bnd_eq (task_Uses_eq _ _), wr_succ k _ h hl, fk_f]
    have go : ¬ (l[k].D ≤ t ∧ usesP l[k] res) → nx ((k + 1 : Nat) : Int) = some (decide (sharedP l t res)) := fun hn => hnx h fun j hj hjk => by
      by_cases e : j = k
      · subst e; exact hn
      · exact J j hj (by omega)
    by_cases c1 : l[k].D ≤ t
    · rw [decide_eq_true c1, fk_t]
      by_cases c2 : usesP l[k] res
      · rw [decide_eq_true c2, fk_t]; exact dec_t ⟨_, List.getElem_mem h, c1, c2⟩
      · rw [decide_eq_false c2, fk_f]; exact go fun hh => c2 hh.2
    · rw [decide_eq_false c1, fk_f]; exact go fun hh => c1 hh.1
  · rw [decide_eq_false h, fk_f]
    refine dec_f ?_
    rintro ⟨x, hx, hh⟩
    obtain ⟨j, hj, rfl⟩ := List.getElem_of_mem hx
    exact J j hj (by omega) hh
def secN (l : List Task) (t : Int) (s : Sec) : Nat := if sharedP l t s.Res then s.Len.toNat else 0
def taskN (l : List Task) (t : Int) (x : Task) : Nat := if x.D ≤ t then 0 else maxL (secN l t) x.Secs
def blockV (l : List Task) (t : Int) : Nat := maxL (taskN l t) l
theorem RightP.sl {t : Task} (h : RightP t) {s : Sec} (hs : s ∈ t.Secs) : 1 ≤ s.Len ∧ s.Len ≤ 200 := by
  have h1 := h.2.1 s hs
  have h2 := h.c
  unfold secP at h1
  omega
theorem maxL_bound {α : Type} {f : α → Nat} {l : List α} {n : Nat} (h : ∀ x ∈ l, f x ≤ n) : maxL f l ≤ n := maxL_le.2 h
theorem block_Of_eq (l : List Task) (t : Int) (hl : l.length ≤ 4611686018427387904) : block_Of l t = some (if AllP l then ((blockV l t : Nat) : Int) else 0, if AllP l then 0 else 1) := by
  unfold block_Of
  rw [bnd_eq (task_All_eq l hl)]
  by_cases ha : AllP l
  rotate_left
  · rw [decide_eq_false ha, Bool.not_false, fk_t, if_neg ha, if_neg ha]
  rw [decide_eq_true ha, Bool.not_true, fk_f, if_pos ha, if_pos ha]
  refine lp_upS l.length (by unfold FU; omega) (fun k n => n = ((maxL (taskN l t) (l.take k) : Nat) : Int)) 0 rfl ?_
  rintro nx k n hk rfl hnx
  simp only [jn_eq]
  rw [lt_nat]
  by_cases h : k < l.length
  · have hm := maxL_succ (taskN l t) l k h
    have hx : l[k] ∈ l := List.getElem_mem h
    have hr := ha.1 _ hx
    have hsl := hr.len
    rw [decide_eq_true h, fk_t, ix_lt h, wr_succ k _ h hl]
    by_cases c1 : l[k].D ≤ t
    · rw [decide_eq_true c1, fk_t]
      refine hnx _ h ?_
      rw [hm, taskN, if_pos c1]; omega
    rw [decide_eq_false c1, fk_f]
    rw [taskN, if_neg c1] at hm
    generalize hA : maxL (taskN l t) (l.take k) = A at *
    refine lp_upS l[k].Secs.length (by unfold FU; omega) (fun j n => n = ((max A (maxL (secN l t) (l[k].Secs.take j)) : Nat) : Int)) _ (by simp [maxL]) ?_
    rintro nx2 j n hj rfl hnx2
    simp only
    rw [lt_nat]
    by_cases h2 : j < l[k].Secs.length
    · have hm2 := maxL_succ (secN l t) l[k].Secs j h2
      have hlen := hr.sl (List.getElem_mem h2)
      rw [decide_eq_true h2, fk_t, ix_lt h2, bnd_eq (block_shared_eq _ _ _ hl), wr_succ j _ h2 (by omega), fk_f]
      unfold secN at hm2
      by_cases c2 : l[k].Secs[j].Len > ((max A (maxL (secN l t) (l[k].Secs.take j)) : Nat) : Int)
      · rw [decide_eq_true c2, fk_t]
        by_cases c3 : sharedP l t l[k].Secs[j].Res
        · rw [decide_eq_true c3, fk_t]
          refine hnx2 _ h2 ?_
          rw [if_pos c3] at hm2
          unfold secN at c2 ⊢
          rw [hm2]; omega
        · rw [decide_eq_false c3, fk_f]
          refine hnx2 _ h2 ?_
          rw [if_neg c3] at hm2
          unfold secN
          rw [hm2]; omega
      · rw [decide_eq_false c2, fk_f]
        refine hnx2 _ h2 ?_
        unfold secN at c2 ⊢
        rw [hm2]
        split <;> omega
    · rw [decide_eq_false h2, fk_f]
      have : j = l[k].Secs.length := by omega
      rw [this, List.take_length]
      exact hnx _ h (by rw [hm])
  · rw [decide_eq_false h, fk_f]
    have : k = l.length := by omega
    rw [this, List.take_length]; rfl
theorem ref08_Of_eq (l : List Task) (t : Int) (ha : AllP l) : ref08_Of l t = some ((blockV l t : Nat) : Int) := by
  unfold ref08_Of
  have hl := ha.len
  refine lp_upS l.length (by unfold FU; omega) (fun k n => n = ((maxL (taskN l t) (l.take k) : Nat) : Int)) 0 rfl ?_
  rintro nx k n hk rfl hnx
  simp only [jn_eq]
  rw [lt_nat]
  by_cases h : k < l.length
  rotate_left
  · rw [decide_eq_false h, fk_f]
    have : k = l.length := by omega
    rw [this, List.take_length]; rfl
  have hm := maxL_succ (taskN l t) l k h
  have hx : l[k] ∈ l := List.getElem_mem h
  have hr := ha.1 _ hx
  have hsl := hr.len
  rw [decide_eq_true h, fk_t, wr_succ k _ h hl]
  generalize hA : maxL (taskN l t) (l.take k) = A at *
  have g : ∀ j, maxL (fun s => if l[k].D ≤ t then 0 else secN l t s) (l[k].Secs.take j) = if l[k].D ≤ t then 0 else maxL (secN l t) (l[k].Secs.take j) := by
    intro j
    by_cases c : l[k].D ≤ t
    · rw [if_pos c]; exact maxL_zero fun x _ => by rw [if_pos c]
    · rw [if_neg c]; congr 1; funext s; rw [if_neg c]
  refine lp_upS l[k].Secs.length (by unfold FU; omega) (fun j n => n = ((max A (maxL (fun s => if l[k].D ≤ t then 0 else secN l t s) (l[k].Secs.take j)) : Nat) : Int)) _ (by simp [maxL]) ?_
  rintro nx2 j n hj rfl hnx2
  simp only
  rw [ix_lt h, lt_nat]
  by_cases h2 : j < l[k].Secs.length
  rotate_left
  · rw [decide_eq_false h2, fk_f]
    have : j = l[k].Secs.length := by omega
    rw [this, List.take_length]
    refine hnx _ h ?_
    have := g l[k].Secs.length
    rw [List.take_length] at this
    rw [hm, this, taskN]
  have hm2 := maxL_succ (fun s => if l[k].D ≤ t then 0 else secN l t s) l[k].Secs j h2
  have hlen := hr.sl (List.getElem_mem h2)
  rw [decide_eq_true h2, fk_t, wr_succ j _ h2 (by omega)]
  generalize hB : max A (maxL (fun s => if l[k].D ≤ t then 0 else secN l t s) (l[k].Secs.take j)) = B at *
  have hn2 : ∀ m : Nat, m = max B (if l[k].D ≤ t then 0 else secN l t l[k].Secs[j]) → nx2 ((m : Int), ((j + 1 : Nat) : Int)) = some ((blockV l t : Nat) : Int) := fun m e => hnx2 _ h2 (by rw [hm2, e]; omega)
  refine lp_upS l.length (by unfold FU; omega) (fun i n => n = ((if l[k].D > t ∧ (∃ q, ∃ hq : q < l.length, q < i ∧ l[q].D ≤ t ∧ usesP l[q] l[k].Secs[j].Res) then max B l[k].Secs[j].Len.toNat else B : Nat) : Int)) _ (by rw [if_neg]; rintro ⟨_, q, _, hh, _⟩; omega) ?_
  rintro nx3 i n hi hn hnx3
  simp only
  rw [lt_nat]
  by_cases h3 : i < l.length
  rotate_left
  · rw [decide_eq_false h3, fk_f, hn]
    refine hn2 _ ?_
    have e : (∃ q, ∃ hq : q < l.length, q < i ∧ l[q].D ≤ t ∧ usesP l[q] l[k].Secs[j].Res) ↔ sharedP l t l[k].Secs[j].Res := by
      constructor
      · rintro ⟨q, hq, _, a, b⟩; exact ⟨_, List.getElem_mem hq, a, b⟩
      · rintro ⟨x, hx, a, b⟩
        obtain ⟨q, hq, rfl⟩ := List.getElem_of_mem hx
        exact ⟨q, hq, by omega, a, b⟩
    rw [secN]
    by_cases c1 : l[k].D ≤ t
    · rw [if_pos c1, if_neg (fun hh => by omega)]; omega
    · rw [if_neg c1]
      by_cases c2 : sharedP l t l[k].Secs[j].Res
      · rw [if_pos c2, if_pos ⟨by omega, e.2 c2⟩]
      · rw [if_neg c2, if_neg (fun hh => c2 (e.1 hh.2))]; omega
  have hxi : l[i] ∈ l := List.getElem_mem h3
  have hu : (∃ s ∈ l[i].Secs, s.Res = l[k].Secs[j].Res) ↔ usesP l[i] l[k].Secs[j].Res := ⟨fun e => ⟨ha.1 _ hxi, e⟩, fun e => e.2⟩
  rw [decide_eq_true h3, fk_t, wr_succ i _ h3 hl, ix_lt h, ix_lt h3, ix_lt h3, ix_lt h, ix_lt h2, bnd_eq (ref05_Uses_eq _ _ (ha.slen hxi)), decide_eq_decide.2 hu]
  simp only [ix_lt h, ix_lt h2]
  subst hn
  have keep : ¬ (l[k].D > t ∧ l[i].D ≤ t ∧ usesP l[i] l[k].Secs[j].Res) → nx3 ((((if l[k].D > t ∧ (∃ q, ∃ hq : q < l.length, q < i ∧ l[q].D ≤ t ∧ usesP l[q] l[k].Secs[j].Res) then max B l[k].Secs[j].Len.toNat else B : Nat) : Int)), ((i + 1 : Nat) : Int)) = some ((blockV l t : Nat) : Int) := by
    intro hno
    refine hnx3 _ h3 ?_
    have e : (l[k].D > t ∧ (∃ q, ∃ hq : q < l.length, q < i + 1 ∧ l[q].D ≤ t ∧ usesP l[q] l[k].Secs[j].Res)) ↔ (l[k].D > t ∧ (∃ q, ∃ hq : q < l.length, q < i ∧ l[q].D ≤ t ∧ usesP l[q] l[k].Secs[j].Res)) := by
      constructor
      · rintro ⟨a, q, hq, b, c, d⟩
        refine ⟨a, q, hq, ?_, c, d⟩
        by_cases e : q = i
        · subst e; exact absurd ⟨a, c, d⟩ hno
        · omega
      · rintro ⟨a, q, hq, b, c, d⟩; exact ⟨a, q, hq, by omega, c, d⟩
    by_cases c : (l[k].D > t ∧ (∃ q, ∃ hq : q < l.length, q < i ∧ l[q].D ≤ t ∧ usesP l[q] l[k].Secs[j].Res))
    · rw [if_pos c, if_pos (e.2 c)]
    · rw [if_neg c, if_neg (fun hh => c (e.1 hh))]
  by_cases c1 : l[k].D > t
  rotate_left
  · rw [decide_eq_false c1, fk_f, fk_f]; exact keep fun hh => c1 hh.1
  rw [decide_eq_true c1, fk_t]
  by_cases c2 : l[i].D ≤ t
  rotate_left
  · rw [decide_eq_false c2, fk_f, fk_f]; exact keep fun hh => c2 hh.2.1
  rw [decide_eq_true c2, fk_t]
  by_cases c3 : usesP l[i] l[k].Secs[j].Res
  rotate_left
  · rw [decide_eq_false c3, fk_f, fk_f]; exact keep fun hh => c3 hh.2.2
  rw [decide_eq_true c3, fk_t]
  have hnew : ∀ m : Int, m = ((max B l[k].Secs[j].Len.toNat : Nat) : Int) → nx3 (m, ((i + 1 : Nat) : Int)) = some ((blockV l t : Nat) : Int) := fun m e => hnx3 _ h3 (by rw [e, if_pos ⟨c1, i, h3, by omega, c2, c3⟩])
  by_cases c4 : (l[k].D > t ∧ (∃ q, ∃ hq : q < l.length, q < i ∧ l[q].D ≤ t ∧ usesP l[q] l[k].Secs[j].Res))
  · rw [if_pos c4]
    rw [decide_eq_false (by omega), fk_f]; exact hnew _ rfl
  · rw [if_neg c4]
    by_cases c5 : l[k].Secs[j].Len > (B : Int)
    · rw [decide_eq_true c5, fk_t]; exact hnew _ (by omega)
    · rw [decide_eq_false c5, fk_f]; exact hnew _ (by omega)

/-! Where it may change. -/
/-! The least supply. -/
def faceP (f : Face) : Prop := 1 ≤ f.B ∧ f.B ≤ f.P ∧ f.P ≤ 200
instance (f : Face) : Decidable (faceP f) := by unfold faceP; infer_instance
theorem supply_Right_eq (f : Face) : supply_Right f = some (decide (faceP f)) := by
  unfold supply_Right
  simp only [fk_if, decide_eq_true_eq]
  repeat' split
  all_goals first
    | exact dec_iff (by unfold faceP; omega)
    | exact dec_f (by unfold faceP; omega)
theorem ref09_Right_eq (f : Face) : ref09_Right f = some (decide (faceP f)) := by
  unfold ref09_Right
  simp only [fk_if, decide_eq_true_eq]
  repeat' split
  all_goals first
    | exact dec_iff (by unfold faceP; omega)
    | exact dec_f (by unfold faceP; omega)
def max0 (x : Int) : Int := if x > 0 then x else 0
def supV (f : Face) (t : Int) : Int := if t < f.P - f.B then 0 else ((t - (f.P - f.B)) / f.P) * f.B + max0 (t - 2 * (f.P - f.B) - ((t - (f.P - f.B)) / f.P) * f.P)
theorem supV_qr {f : Face} (hf : faceP f) {t q r : Int} (ht : t = (f.P - f.B) + q * f.P + r) (hq : 0 ≤ q) (hr : 0 ≤ r) (hr2 : r < f.P) : supV f t = q * f.B + max0 (r - (f.P - f.B)) := by
  unfold faceP at hf
  have hqP : 0 ≤ q * f.P := Int.mul_nonneg hq (by omega)
  have e : (t - (f.P - f.B)) / f.P = q := by
    rw [ht, show f.P - f.B + q * f.P + r - (f.P - f.B) = r + q * f.P by omega, Int.add_mul_ediv_right _ _ (by omega), Int.ediv_eq_zero_of_lt hr hr2]; omega
  unfold supV
  rw [if_neg (by omega), e, show t - 2 * (f.P - f.B) - q * f.P = r - (f.P - f.B) by omega]
theorem supV_low {f : Face} {t : Int} (h : t < f.P - f.B) : supV f t = 0 := by unfold supV; rw [if_pos h]
theorem qr_of {f : Face} (hf : faceP f) {t : Int} (h : f.P - f.B ≤ t) : ∃ q r, t = (f.P - f.B) + q * f.P + r ∧ 0 ≤ q ∧ 0 ≤ r ∧ r < f.P := by
  unfold faceP at hf
  refine ⟨(t - (f.P - f.B)) / f.P, (t - (f.P - f.B)) % f.P, ?_, Int.ediv_nonneg (by omega) (by omega), Int.emod_nonneg _ (by omega), Int.emod_lt_of_pos _ (by omega)⟩
  have := Int.mul_ediv_add_emod (t - (f.P - f.B)) f.P
  rw [Int.mul_comm] at this
  omega
theorem max0_b (x : Int) : 0 ≤ max0 x ∧ x ≤ max0 x ∧ (max0 x = 0 ∨ max0 x = x) := by unfold max0; split <;> omega
theorem supV_b {f : Face} (hf : faceP f) {t : Int} (h0 : 0 ≤ t) : 0 ≤ supV f t ∧ supV f t ≤ t := by
  by_cases c : t < f.P - f.B
  · rw [supV_low c]; omega
  · obtain ⟨q, r, ht, hq, hr, hr2⟩ := qr_of hf (show f.P - f.B ≤ t by omega)
    rw [supV_qr hf ht hq hr hr2]
    unfold faceP at hf
    have h1 : 0 ≤ q * f.B := Int.mul_nonneg hq (by omega)
    have h2 : q * f.B ≤ q * f.P := Int.mul_le_mul_of_nonneg_left (by omega) hq
    have h3 := max0_b (r - (f.P - f.B))
    omega
theorem supply_Bound_eq (f : Face) (t : Int) : supply_Bound f t = some (if faceP f ∧ 0 ≤ t ∧ t ≤ 4611686018427387903 then supV f t else 0, if faceP f ∧ 0 ≤ t ∧ t ≤ 4611686018427387903 then 0 else 1) := by
  unfold supply_Bound
  simp only [jn_eq, fk_t, fk_f]
  rw [bnd_eq (supply_Right_eq f)]
  by_cases hf : faceP f
  rotate_left
  · rw [decide_eq_false hf, Bool.not_false, fk_t, if_neg (fun h => hf h.1), if_neg (fun h => hf h.1)]
  rw [decide_eq_true hf, Bool.not_true, fk_f]
  by_cases c1 : t < 0
  · rw [decide_eq_true c1, fk_t, if_neg (fun h => by omega), if_neg (fun h => by omega)]
  rw [decide_eq_false c1, fk_f]
  by_cases c2 : t > 4611686018427387903
  · rw [decide_eq_true c2, fk_t, if_neg (fun h => by omega), if_neg (fun h => by omega)]
  have hf' := hf
  unfold faceP at hf'
  have hA : faceP f ∧ 0 ≤ t ∧ t ≤ 4611686018427387903 := ⟨hf, by omega, by omega⟩
  rw [show (if faceP f ∧ 0 ≤ t ∧ t ≤ 4611686018427387903 then supV f t else 0) = supV f t from if_pos hA, show (if faceP f ∧ 0 ≤ t ∧ t ≤ 4611686018427387903 then (0 : Int) else 1) = 0 from if_pos hA]
  rw [decide_eq_false c2, fk_f, wr_in (f.P - f.B) (by omega)]
  by_cases c3 : t < f.P - f.B
  · rw [decide_eq_true c3, fk_t, supV_low c3]
  obtain ⟨q, r, ht, hq, hr, hr2⟩ := qr_of hf (show f.P - f.B ≤ t by omega)
  have h1 : 0 ≤ q * f.B := Int.mul_nonneg hq (by omega)
  have h2 : q * f.B ≤ q * f.P := Int.mul_le_mul_of_nonneg_left (by omega) hq
  have h3 := max0_b (r - (f.P - f.B))
  have e : (t - (f.P - f.B)).tdiv f.P = q := by
    rw [Int.tdiv_eq_ediv_of_nonneg (by omega), ht, show f.P - f.B + q * f.P + r - (f.P - f.B) = r + q * f.P by omega, Int.add_mul_ediv_right _ _ (by omega), Int.ediv_eq_zero_of_lt hr hr2]; omega
  have hqq : q ≤ q * f.P := by
    have := Int.mul_le_mul_of_nonneg_left (show (1 : Int) ≤ f.P by omega) hq
    omega
  rw [decide_eq_false c3, fk_f, ck_t (decide_eq_true (by omega)), wr_in (t - (f.P - f.B)) (by omega), e, wr_in q (by omega), wr_in (2 * (f.P - f.B)) (by omega), wr_in (t - 2 * (f.P - f.B)) (by omega), wr_in (q * f.P) (by omega), wr_in (q * f.B) (by omega), wr_in (t - 2 * (f.P - f.B) - q * f.P) (by omega), supV_qr hf ht hq hr hr2]
  have e2 : t - 2 * (f.P - f.B) - q * f.P = r - (f.P - f.B) := by omega
  rw [e2]
  show some (wr (q * f.B + max0 (r - (f.P - f.B))), (0 : Int)) = _
  rw [wr_in _ (by omega)]
/-- One tick more. -/
def worstP (f : Face) (i : Int) : Prop := if i < f.P then i < f.B else i % f.P ≥ f.P - f.B
instance (f : Face) (i : Int) : Decidable (worstP f i) := by unfold worstP; infer_instance
theorem supV_succ {f : Face} (hf : faceP f) {t : Int} (h0 : 0 ≤ t) : supV f (t + 1) = supV f t + (if worstP f (f.B + t) then 1 else 0) := by
  have hf' := hf
  unfold faceP at hf'
  by_cases c : t < f.P - f.B
  · rw [supV_low c, if_neg (by unfold worstP; rw [if_pos (by omega)]; omega)]
    by_cases c2 : t + 1 < f.P - f.B
    · rw [supV_low c2]; rfl
    · rw [supV_qr hf (t := t + 1) (q := 0) (r := 0) (by omega) (by omega) (by omega) (by omega)]
      have := max0_b (0 - (f.P - f.B))
      unfold max0; rw [if_neg (by omega)]; omega
  · obtain ⟨q, r, ht, hq, hr, hr2⟩ := qr_of hf (show f.P - f.B ≤ t by omega)
    have hqP : 0 ≤ q * f.P := Int.mul_nonneg hq (by omega)
    have hm : (f.B + t) % f.P = r := by
      rw [ht, show f.B + (f.P - f.B + q * f.P + r) = r + (q + 1) * f.P by rw [Int.add_mul]; omega, Int.add_mul_emod_self_right, Int.emod_eq_of_lt hr hr2]
    have hw : worstP f (f.B + t) ↔ r ≥ f.P - f.B := by unfold worstP; rw [if_neg (by omega), hm]
    rw [supV_qr hf ht hq hr hr2]
    by_cases c2 : r + 1 < f.P
    · rw [supV_qr hf (t := t + 1) (q := q) (r := r + 1) (by omega) hq (by omega) c2]
      by_cases c3 : r ≥ f.P - f.B
      · rw [if_pos (hw.2 c3)]; unfold max0; split <;> split <;> omega
      · rw [if_neg (fun h => c3 (hw.1 h))]; unfold max0; split <;> split <;> omega
    · rw [supV_qr hf (t := t + 1) (q := q + 1) (r := 0) (by rw [Int.add_mul]; omega) (by omega) (by omega) (by omega), if_pos (hw.2 (by omega)), Int.add_mul]
      unfold max0; split <;> split <;> omega
theorem ref09_Worst_eq (f : Face) (hf : faceP f) (i : Int) (h0 : 0 ≤ i) (h1 : i ≤ 1000000) : ref09_Worst f i = some (decide (worstP f i)) := by
  unfold ref09_Worst worstP
  unfold faceP at hf
  by_cases c : i < f.P
  · rw [decide_eq_true c, fk_t]
    exact dec_iff (by rw [if_pos c])
  · rw [decide_eq_false c, fk_f, ck_t (decide_eq_true (by omega)), Int.tmod_eq_emod_of_nonneg h0, wr_in _ (by omega)]
    exact dec_iff (by rw [if_neg c])
theorem ref09_Bound_eq (f : Face) (t : Int) (hf : faceP f) (h0 : 0 ≤ t) (h1 : t ≤ 5000) : ref09_Bound f t = some (supV f t) := by
  unfold ref09_Bound
  simp only [jn_eq]
  have hf' := hf
  unfold faceP at hf'
  refine lp_inv (fun v => (f.B + t - v.2).toNat) (fun v => ∃ k : Int, 0 ≤ k ∧ k ≤ t ∧ v = (supV f k, f.B + k)) ?_ FU _ ⟨0, by omega, h0, by rw [(show supV f 0 = 0 by have := supV_b hf (Int.le_refl 0); omega)]; simp⟩ (by unfold FU; simp; omega)
  rintro nx v ⟨k, hk0, hk, rfl⟩ hnx
  simp only
  rw [wr_in (f.B + t) (by omega)]
  by_cases c : f.B + k < f.B + t
  rotate_left
  · rw [decide_eq_false c, fk_f, show k = t by omega]
  have hb := supV_b hf hk0
  rw [decide_eq_true c, fk_t, bnd_eq (ref09_Worst_eq f hf _ (by omega) (by omega)), wr_in (f.B + k + 1) (by omega), wr_in (supV f k + 1) (by omega)]
  have hs := supV_succ hf hk0
  by_cases w : worstP f (f.B + k)
  · rw [if_pos w] at hs
    rw [decide_eq_true w, fk_t]
    exact hnx _ ⟨k + 1, by omega, by omega, by rw [hs]; congr 1; omega⟩ (by simp only; omega)
  · rw [if_neg w] at hs
    rw [decide_eq_false w, fk_f]
    exact hnx _ ⟨k + 1, by omega, by omega, by rw [hs]; congr 1 <;> omega⟩ (by simp only; omega)

/-! Need. -/
def needV (l : List Task) (t : Int) : Int := sumB l t + (blockV l t : Int)
theorem blockV_le {l : List Task} (ha : AllP l) (t : Int) : blockV l t ≤ 200 := by
  unfold blockV
  refine maxL_bound fun x hx => ?_
  unfold taskN
  split
  · omega
  · refine maxL_bound fun s hs => ?_
    unfold secN
    have := (ha.1 x hx).sl hs
    split <;> omega
theorem needV_b {l : List Task} (ha : AllP l) {t : Int} (h0 : 0 ≤ t) : 0 ≤ needV l t ∧ needV l t ≤ 1600 * t + 200 := by
  have h1 := sumB_le ha h0
  have h2 := sumB_nonneg ha h0
  have h3 := blockV_le ha t
  unfold needV; omega
theorem verdict_Need_eq (l : List Task) (t : Int) (hl : l.length ≤ 4611686018427387904) (h1 : t ≤ 2199023255552) : verdict_Need l t = some (if AllP l ∧ 0 ≤ t then needV l t else 0, if AllP l ∧ 0 ≤ t then 0 else 1) := by
  unfold verdict_Need
  by_cases ha : AllP l ∧ 0 ≤ t
  · have h2 := sumB_le ha.1 ha.2
    have h3 := sumB_nonneg ha.1 ha.2
    have h4 := blockV_le ha.1 t
    rw [bnd_eq (demand_Bound_small l t ha.1 ha.2 h1), decide_eq_true rfl, Bool.not_true, fk_f, bnd_eq (block_Of_eq l t hl), if_pos ha.1]
    simp only
    rw [bnd_eq (arith_Add_eq _ _ h3 (by omega) (by omega) (by omega)), if_pos (by omega), if_pos (by omega), if_pos ha, if_pos ha]
    rfl
  · have : ¬ askP l t := fun h => ha ⟨h.1, h.2.1⟩
    rw [bnd_eq (demand_Bound_eq l t hl), if_neg (fun h => this h.1), if_neg this, if_neg ha, if_neg ha]
    rfl
theorem ref10_Need_eq (l : List Task) (t : Int) (ha : AllP l) (h0 : 0 ≤ t) (h1 : t ≤ 5000) : ref10_Need l t = some (needV l t) := by
  unfold ref10_Need
  have := needV_b ha h0
  rw [bnd_eq (ref07_Bound_eq l t ha h0 h1), bnd_eq (ref08_Of_eq l t ha)]
  unfold needV at *
  rw [wr_in _ (by omega)]


/-! Cycles. -/
theorem arith_Gcd_eq (a b : Int) (ha : 0 ≤ a) (ha2 : a ≤ 4611686018427387903) (hb : 0 ≤ b) (hb2 : b ≤ 4611686018427387903) : arith_Gcd a b = some (((Nat.gcd a.toNat b.toNat : Nat) : Int), 0) := by
  unfold arith_Gcd
  simp only [jn_eq, fk_t, fk_f]
  rw [bnd_eq (arith_may2 a b), decide_eq_true (by unfold inM; omega), Bool.not_true, fk_f, decide_eq_false (show ¬ a < 0 by omega), fk_f, decide_eq_false (show ¬ b < 0 by omega), fk_f]
  refine lp_inv (fun v => v.2.toNat) (fun v => ∃ x y : Nat, v = ((x : Int), (y : Int)) ∧ Nat.gcd x y = Nat.gcd a.toNat b.toNat) ?_ FU _ ⟨a.toNat, b.toNat, by rw [Int.toNat_of_nonneg ha, Int.toNat_of_nonneg hb], rfl⟩ (by unfold FU; simp only; omega)
  rintro nx v ⟨x, y, rfl, hg⟩ hnx
  simp only
  by_cases h : (y : Int) > 0
  · rw [decide_eq_true h, fk_t, ck_t (decide_eq_true (by omega)), Int.tmod_eq_emod_of_nonneg (by omega)]
    have e : (x : Int) % (y : Int) = ((x % y : Nat) : Int) := rfl
    rw [e]
    refine hnx _ ⟨y, x % y, rfl, ?_⟩ (by simp only [Int.toNat_natCast]; exact Nat.mod_lt _ (by omega))
    rw [← hg, Nat.gcd_comm x y, Nat.gcd_rec y x, Nat.gcd_comm]
  · rw [decide_eq_false h, fk_f]
    have : y = 0 := by omega
    subst this
    rw [← hg, Nat.gcd_zero_right]
theorem arith_Mul_small (a b : Int) (ha : 1 ≤ a) (ha2 : a ≤ 3000) (hb : 1 ≤ b) (hb2 : b ≤ 200) : arith_Mul a b = some (a * b, 0) := by
  unfold arith_Mul
  simp only [jn_eq, fk_t, fk_f]
  have h1 : a * b ≤ 3000 * 200 := Int.mul_le_mul ha2 hb2 (by omega) (by omega)
  have h2 : 0 ≤ a * b := Int.mul_nonneg (by omega) (by omega)
  have h3 : 4611686018427387903 / b ≥ 23058430092136939 := by
    exact (Int.le_ediv_iff_mul_le (by omega)).2 (by omega)
  rw [bnd_eq (arith_may2 a b), decide_eq_true (by unfold inM; omega), Bool.not_true, fk_f, decide_eq_false (show ¬ a = 0 by omega), fk_f, decide_eq_false (show ¬ b = 0 by omega), fk_f]
  have wa : IntKind.i64.wrap (0 - a) = 0 - a := wr_in _ (by omega)
  have wb : IntKind.i64.wrap (0 - b) = 0 - b := wr_in _ (by omega)
  rw [wa, wb, if_neg (show ¬ 0 - b > b by omega), if_neg (show ¬ 0 - a > a by omega), ck_t (decide_eq_true (by omega)), Int.tdiv_eq_ediv_of_nonneg (by omega)]
  have h4 : 4611686018427387903 / b ≤ 4611686018427387903 := Int.ediv_le_self _ (by omega)
  rw [wr_in (4611686018427387903 / b) (by omega), decide_eq_false (by omega), fk_f, wr_in _ (by omega)]
theorem arith_Lcm_eq (a b : Nat) (ha : 1 ≤ a) (ha2 : a ≤ 3000) (hb : 1 ≤ b) (hb2 : b ≤ 200) : arith_Lcm (a : Int) (b : Int) = some (((Nat.lcm a b : Nat) : Int), 0) := by
  unfold arith_Lcm
  simp only [jn_eq, fk_t, fk_f]
  rw [decide_eq_false (show ¬ (a : Int) < 1 by omega), fk_f, decide_eq_false (show ¬ (b : Int) < 1 by omega), fk_f, bnd_eq (arith_Gcd_eq _ _ (by omega) (by omega) (by omega) (by omega)), decide_eq_true rfl, Bool.not_true, fk_f]
  simp only [Int.toNat_natCast]
  have hg : 0 < Nat.gcd a b := Nat.gcd_pos_of_pos_left _ (by omega)
  have hd := Nat.gcd_dvd_left a b
  have hk : 1 ≤ a / Nat.gcd a b := Nat.div_pos (Nat.le_of_dvd (by omega) hd) hg
  have hk2 : a / Nat.gcd a b ≤ a := Nat.div_le_self _ _
  have e : (a : Int).tdiv (Nat.gcd a b : Int) = ((a / Nat.gcd a b : Nat) : Int) := by rw [Int.tdiv_eq_ediv_of_nonneg (by omega)]; rfl
  rw [ck_t (decide_eq_true (by omega)), e, wr_in _ (by omega), bnd_eq (arith_Mul_small _ _ (by omega) (by omega) (by omega) (by omega))]
  have : Nat.lcm a b = a / Nat.gcd a b * b := by
    unfold Nat.lcm
    exact (Nat.div_mul_right_comm hd b).symm
  rw [this]; simp
def lcmL (P : Nat) (l : List Task) : Nat := l.foldl (fun c t => Nat.lcm c t.T.toNat) P
def farL (x : Int) (l : List Task) : Int := l.foldl (fun m t => if t.D > m then t.D else m) x
theorem lcmL_succ (P : Nat) (l : List Task) (k : Nat) (h : k < l.length) : lcmL P (l.take (k + 1)) = Nat.lcm (lcmL P (l.take k)) l[k].T.toNat := by
  unfold lcmL; rw [← List.take_append_getElem h, List.foldl_append]; rfl
theorem farL_succ (x : Int) (l : List Task) (k : Nat) (h : k < l.length) : farL x (l.take (k + 1)) = if l[k].D > farL x (l.take k) then l[k].D else farL x (l.take k) := by
  unfold farL; rw [← List.take_append_getElem h, List.foldl_append]; rfl
theorem lcmL_dvd : ∀ (l : List Task) (P n : Nat), lcmL P l ∣ n ↔ P ∣ n ∧ ∀ t ∈ l, t.T.toNat ∣ n
  | [], P, n => by simp [lcmL]
  | t :: l, P, n => by
    have ih := lcmL_dvd l (Nat.lcm P t.T.toNat) n
    show lcmL (Nat.lcm P t.T.toNat) l ∣ n ↔ _
    rw [ih]
    constructor
    · rintro ⟨h1, h2⟩
      refine ⟨Nat.dvd_trans (Nat.dvd_lcm_left _ _) h1, fun x hx => ?_⟩
      rcases List.mem_cons.1 hx with rfl | hx
      · exact Nat.dvd_trans (Nat.dvd_lcm_right _ _) h1
      · exact h2 x hx
    · rintro ⟨h1, h2⟩
      exact ⟨Nat.lcm_dvd h1 (h2 t List.mem_cons_self), fun x hx => h2 x (List.mem_cons_of_mem _ hx)⟩
theorem lcmL_pos : ∀ (l : List Task) (P : Nat), 0 < P → (∀ t ∈ l, 1 ≤ t.T) → 0 < lcmL P l
  | [], P, hP, _ => hP
  | t :: l, P, hP, h => lcmL_pos l _ (Nat.lcm_pos hP (by have := h t List.mem_cons_self; omega)) fun x hx => h x (List.mem_cons_of_mem _ hx)
theorem farL_b : ∀ (l : List Task) (x : Int), x ≤ farL x l ∧ (∀ t ∈ l, t.D ≤ farL x l) ∧ ∀ m, x ≤ m → (∀ t ∈ l, t.D ≤ m) → farL x l ≤ m
  | [], x => ⟨Int.le_refl _, fun t ht => (List.not_mem_nil ht).elim, fun m h _ => h⟩
  | t :: l, x => by
    obtain ⟨h1, h2, h3⟩ := farL_b l (if t.D > x then t.D else x)
    show _ ∧ _ ∧ _
    have e : farL x (t :: l) = farL (if t.D > x then t.D else x) l := rfl
    rw [e]
    refine ⟨?_, fun y hy => ?_, fun m hm hl => h3 m ?_ fun y hy => hl y (List.mem_cons_of_mem _ hy)⟩
    · exact Int.le_trans (show x ≤ (if t.D > x then t.D else x) by split <;> omega) h1
    · rcases List.mem_cons.1 hy with rfl | hy
      · exact Int.le_trans (show y.D ≤ (if y.D > x then y.D else x) by split <;> omega) h1
      · exact h2 y hy
    · have := hl t List.mem_cons_self
      split <;> omega
theorem AllP.T {l : List Task} (h : AllP l) {t : Task} (ht : t ∈ l) : 1 ≤ t.T ∧ t.T ≤ 200 ∧ 1 ≤ t.C ∧ t.C ≤ 200 ∧ 1 ≤ t.D ∧ t.D ≤ 200 ∧ t.C ≤ t.D ∧ t.D ≤ t.T := by
  have := (h.1 t ht).1
  unfold ownP at this
  omega
def cyc (l : List Task) (f : Face) : Nat := lcmL f.P.toNat l
def farv (l : List Task) (f : Face) : Int := farL (2 * f.P) l
theorem cyc_take {l : List Task} {f : Face} (ha : AllP l) (hf : faceP f) (k : Nat) : 0 < lcmL f.P.toNat (l.take k) ∧ lcmL f.P.toNat (l.take k) ≤ cyc l f := by
  unfold faceP at hf
  have h1 := lcmL_pos (l.take k) f.P.toNat (by omega) fun t ht => (ha.T (List.mem_of_mem_take ht)).1
  have h2 := lcmL_pos l f.P.toNat (by omega) fun t ht => (ha.T ht).1
  refine ⟨h1, Nat.le_of_dvd h2 ?_⟩
  have h3 := (lcmL_dvd l f.P.toNat (lcmL f.P.toNat l)).1 (Nat.dvd_refl _)
  exact (lcmL_dvd _ _ _).2 ⟨h3.1, fun t ht => h3.2 t (List.mem_of_mem_take ht)⟩
theorem farv_b {l : List Task} {f : Face} (ha : AllP l) (hf : faceP f) : 2 * f.P ≤ farv l f ∧ farv l f ≤ 400 ∧ ∀ t ∈ l, t.D ≤ farv l f := by
  unfold faceP at hf
  obtain ⟨h1, h2, h3⟩ := farL_b l (2 * f.P)
  exact ⟨h1, h3 400 (by omega) (fun t ht => by have := ha.T ht; omega), h2⟩
theorem farL_take {l : List Task} {f : Face} (ha : AllP l) (hf : faceP f) (k : Nat) : 0 ≤ farL (2 * f.P) (l.take k) ∧ farL (2 * f.P) (l.take k) ≤ 400 := by
  unfold faceP at hf
  obtain ⟨h1, h2, h3⟩ := farL_b (l.take k) (2 * f.P)
  exact ⟨by omega, h3 400 (by omega) (fun t ht => by have := ha.T (List.mem_of_mem_take ht); omega)⟩
def okC (l : List Task) (f : Face) : Prop := AllP l ∧ faceP f ∧ (cyc l f : Int) + farv l f ≤ 3000
noncomputable instance (l : List Task) (f : Face) : Decidable (okC l f) := Classical.propDecidable _
noncomputable def errC (l : List Task) (f : Face) : Int := if okC l f then 0 else if AllP l ∧ faceP f then 5 else 1
noncomputable def cycV (l : List Task) (f : Face) : Int × Int × Int := if okC l f then ((cyc l f : Int), (cyc l f : Int) + farv l f, 0) else (0, 0, errC l f)
theorem cycV_arg {l : List Task} {f : Face} (h : ¬ (AllP l ∧ faceP f)) : cycV l f = (0, 0, 1) := by
  have h2 : ¬ okC l f := fun hh => h ⟨hh.1, hh.2.1⟩
  unfold cycV errC; rw [if_neg h2, if_neg h2, if_neg h]
theorem cycV_big {l : List Task} {f : Face} (h : AllP l ∧ faceP f) (h2 : ¬ (cyc l f : Int) + farv l f ≤ 3000) : cycV l f = (0, 0, 5) := by
  have h3 : ¬ okC l f := fun hh => h2 hh.2.2
  unfold cycV errC; rw [if_neg h3, if_neg h3, if_pos h]
theorem verdict_Cycle_eq (l : List Task) (f : Face) (hl : l.length ≤ 4611686018427387904) : verdict_Cycle l f = some (cycV l f) := by
  unfold verdict_Cycle
  simp only [jn_eq, fk_t, fk_f]
  rw [bnd_eq (task_All_eq l hl)]
  by_cases ha : AllP l
  rotate_left
  · rw [decide_eq_false ha, Bool.not_false, fk_t, cycV_arg (fun h => ha h.1)]
  rw [decide_eq_true ha, Bool.not_true, fk_f, bnd_eq (supply_Right_eq f)]
  by_cases hf : faceP f
  rotate_left
  · rw [decide_eq_false hf, Bool.not_false, fk_t, cycV_arg (fun h => hf h.2)]
  have hf' := hf
  unfold faceP at hf'
  have h8 := ha.2
  rw [decide_eq_true hf, Bool.not_true, fk_f, wr_in (2 * f.P) (by omega)]
  refine lp_inv (fun v => l.length - v.2.2.toNat) (fun v => ∃ k : Nat, v = (((lcmL f.P.toNat (l.take k) : Nat) : Int), farL (2 * f.P) (l.take k), (k : Int)) ∧ k ≤ l.length ∧ lcmL f.P.toNat (l.take k) ≤ 3000) ?_ FU _ ⟨0, by simp [lcmL, farL]; omega, Nat.zero_le _, by simp [lcmL]; omega⟩ (by unfold FU; simp; omega)
  rintro nx v ⟨k, rfl, hk, hc⟩ hnx
  simp only
  rw [lt_nat]
  obtain ⟨c1, c2⟩ := cyc_take ha hf k
  have hfr := farL_take ha hf k
  by_cases h : k < l.length
  · obtain ⟨t1, t2, _⟩ := ha.T (List.getElem_mem h)
    have eT : l[k].T = ((l[k].T.toNat : Nat) : Int) := by omega
    rw [decide_eq_true h, fk_t, ix_lt h, wr_succ k _ h (by omega), eT, bnd_eq (arith_Lcm_eq _ _ c1 hc (by omega) (by omega)), decide_eq_true rfl, Bool.not_true, fk_f, ← lcmL_succ _ _ _ h, ← farL_succ _ _ _ h]
    obtain ⟨d1, d2⟩ := cyc_take ha hf (k + 1)
    have hfv := farv_b ha hf
    by_cases c : ((lcmL f.P.toNat (l.take (k + 1)) : Nat) : Int) > 3000
    · rw [decide_eq_true c, fk_t, cycV_big ⟨ha, hf⟩ (by omega)]
    · rw [decide_eq_false c, fk_f]
      exact hnx _ ⟨k + 1, rfl, by omega, by omega⟩ (by simp only [Int.toNat_natCast]; omega)
  · have : k = l.length := by omega
    subst this
    rw [decide_eq_false h, fk_f, wr_in _ (by omega), List.take_length]
    show fk (decide (((cyc l f : Nat) : Int) + farv l f > 3000)) _ (some (((cyc l f : Nat) : Int), ((cyc l f : Nat) : Int) + farv l f, 0)) = _
    by_cases c : ((cyc l f : Nat) : Int) + farv l f > 3000
    · rw [decide_eq_true c, fk_t, cycV_big ⟨ha, hf⟩ (by omega)]
    · rw [decide_eq_false c, fk_f, cycV, if_pos ⟨ha, hf, by omega⟩]
theorem ref10_Cycle_eq (l : List Task) (f : Face) (hl : l.length ≤ 4611686018427387904) (hs : ∀ t ∈ l, t.Secs.length ≤ 4611686018427387904) : ref10_Cycle l f = some (cycV l f) := by
  unfold ref10_Cycle
  simp only [jn_eq, fk_t, fk_f]
  rw [bnd_eq (ref05_All_eq l hl hs)]
  by_cases ha : AllP l
  rotate_left
  · rw [decide_eq_false ha, Bool.not_false, fk_t, cycV_arg (fun h => ha h.1)]
  rw [decide_eq_true ha, Bool.not_true, fk_f, bnd_eq (ref09_Right_eq f)]
  by_cases hf : faceP f
  rotate_left
  · rw [decide_eq_false hf, Bool.not_false, fk_t, cycV_arg (fun h => hf h.2)]
  have hf' := hf
  unfold faceP at hf'
  have h8 := ha.2
  rw [decide_eq_true hf, Bool.not_true, fk_f, wr_in (2 * f.P) (by omega)]
  refine lp_upS l.length (by unfold FU; omega) (fun k v => v = farL (2 * f.P) (l.take k)) _ (by simp [farL]) ?_
  rintro nx k v hk rfl hnx
  simp only
  by_cases h : k < l.length
  · rw [show decide ((k : Int) < (l.length : Int)) = true from decide_eq_true (by omega), fk_t, wr_succ k _ h (by omega)]
    simp only [ix_lt h]
    have := farL_succ (2 * f.P) l k h
    by_cases c : l[k].D > farL (2 * f.P) (l.take k)
    · rw [if_pos c] at this
      rw [decide_eq_true c, fk_t]; exact hnx _ h this.symm
    · rw [if_neg c] at this
      rw [decide_eq_false c, fk_f]; exact hnx _ h this.symm
  rw [show decide ((k : Int) < (l.length : Int)) = false from decide_eq_false (by omega), fk_f]
  have : k = l.length := by omega
  subst this
  rw [List.take_length]
  show lp (fun nx8 (v8 : Int) => fk (decide ((wr (v8 + farv l f)) ≤ (3000 : Int))) _ _) FU f.P = _
  have hfv := farv_b ha hf
  have hL := cyc_take ha hf l.length
  rw [List.take_length] at hL
  have hself := (lcmL_dvd l f.P.toNat (cyc l f)).1 (Nat.dvd_refl _)
  have base : f.P.toNat ≤ cyc l f := Nat.le_of_dvd (by exact hL.1) hself.1
  refine lp_inv (fun v => (4000 - v).toNat) (fun v => ∃ n : Nat, v = (n : Int) ∧ 0 < n ∧ f.P.toNat ∣ n ∧ n ≤ cyc l f ∧ n ≤ 3400) ?_ FU _ ⟨f.P.toNat, by omega, by omega, Nat.dvd_refl _, base, by omega⟩ (by unfold FU; omega)
  rintro nx8 v ⟨n, rfl, hn0, hPn, hnL, hn4⟩ hnx8
  rw [wr_in _ (by omega)]
  by_cases c : (n : Int) + farv l f ≤ 3000
  rotate_left
  · rw [decide_eq_false c, fk_f, cycV_big ⟨ha, hf⟩ (by omega)]
  rw [decide_eq_true c, fk_t]
  refine lp_upS l.length (by unfold FU; omega) (fun q b => b = true ↔ ∀ i (hi : i < l.length), i < q → l[i].T.toNat ∣ n) true ⟨fun _ i _ h => by omega, fun _ => rfl⟩ ?_
  rintro nx9 q b hq J hnx9
  simp only
  by_cases h2 : q < l.length
  · rw [show decide ((q : Int) < (l.length : Int)) = true from decide_eq_true (by omega), fk_t, wr_succ q _ h2 (by omega)]
    obtain ⟨t1, t2, _⟩ := ha.T (List.getElem_mem h2)
    cases b with
    | false =>
      rw [fk_f]
      refine hnx9 _ h2 ⟨fun e => (Bool.false_ne_true e).elim, fun hh => J.2 fun i hi hiq => hh i hi (by omega)⟩
    | true =>
      have J' := J.1 rfl
      rw [fk_t, ix_lt h2, ck_t (decide_eq_true (by omega))]
      have hdv : ((n : Int).tmod l[q].T = 0) ↔ l[q].T.toNat ∣ n := by
        rw [Int.tmod_eq_emod_of_nonneg (by omega)]
        have e : l[q].T = ((l[q].T.toNat : Nat) : Int) := by omega
        rw [e, show ((n : Int) % ((l[q].T.toNat : Nat) : Int)) = ((n % l[q].T.toNat : Nat) : Int) from rfl, Int.toNat_natCast]
        rw [Nat.dvd_iff_mod_eq_zero]; omega
      refine hnx9 _ h2 ⟨fun e i hi hiq => ?_, fun hh => decide_eq_true (hdv.2 (hh q h2 (by omega)))⟩
      by_cases e2 : i = q
      · subst e2; exact hdv.1 (of_decide_eq_true e)
      · exact J' i hi (by omega)
  rw [show decide ((q : Int) < (l.length : Int)) = false from decide_eq_false (by omega), fk_f]
  cases b with
  | true =>
    have hd : cyc l f ∣ n := (lcmL_dvd l f.P.toNat n).2 ⟨hPn, fun t ht => by
      obtain ⟨i, hi, rfl⟩ := List.getElem_of_mem ht
      exact J.1 rfl i hi (by omega)⟩
    have : n = cyc l f := Nat.le_antisymm hnL (Nat.le_of_dvd hn0 hd)
    subst this
    rw [fk_t, show farL (2 * f.P) l = farv l f from rfl, wr_in _ (by omega), cycV, if_pos ⟨ha, hf, c⟩]
  | false =>
    have hne : n ≠ cyc l f := fun e => by
      have := J.2 fun i hi _ => e ▸ hself.2 _ (List.getElem_mem hi)
      cases this
    have hlt : n < cyc l f := by omega
    have hstep : n + f.P.toNat ≤ cyc l f := by
      have hd : f.P.toNat ∣ cyc l f - n := Nat.dvd_sub hself.1 hPn
      have := Nat.le_of_dvd (by omega) hd
      omega
    rw [fk_f, wr_in _ (by omega)]
    exact hnx8 _ ⟨n + f.P.toNat, by omega, by omega, Nat.dvd_add hPn (Nat.dvd_refl _), hstep, by omega⟩ (by omega)


/-! The first tick for which tasks don't fit. -/
def badB (l : List Task) (f : Face) (t : Nat) : Bool := decide (needV l t > supV f t)
def badV (l : List Task) (f : Face) (e : Nat) : Option Nat := (List.range (e + 1)).find? (badB l f)
theorem badV_some {l : List Task} {f : Face} {e t : Nat} : badV l f e = some t ↔ t ≤ e ∧ needV l t > supV f t ∧ ∀ j, j < t → needV l j ≤ supV f j := by
  unfold badV
  rw [List.find?_range_eq_some]
  unfold badB
  simp only [decide_eq_true_eq, List.mem_range, Bool.not_eq_true', decide_eq_false_iff_not]
  constructor
  · rintro ⟨h1, h2, h3⟩; exact ⟨by omega, h1, fun j hj => by have := h3 j hj; omega⟩
  · rintro ⟨h1, h2, h3⟩; exact ⟨h2, by omega, fun j hj => by have := h3 j hj; omega⟩
theorem badV_none {l : List Task} {f : Face} {e : Nat} : badV l f e = none ↔ ∀ t, t ≤ e → needV l t ≤ supV f t := by
  unfold badV
  rw [List.find?_range_eq_none]
  unfold badB
  simp only [Bool.not_eq_true', decide_eq_false_iff_not]
  exact ⟨fun h t ht => by have := h t (by omega); omega, fun h t ht => by have := h t (by omega); omega⟩
theorem scan_eq {R : Type} (l : List Task) (f : Face) (e : Nat) (he : e ≤ 1000000) (A : Int → Option R) (B : Option R) (r : R) (h1 : ∀ t, badV l f e = some t → A (t : Int) = some r) (h2 : badV l f e = none → B = some r) {body : (Int → Option R) → Int → Option R}
    (hb : ∀ nx (k : Nat), k ≤ e + 1 → body nx (k : Int) = fk (decide ((k : Int) ≤ (e : Int))) (fk (decide (needV l k > supV f k)) (A k) (nx ((k + 1 : Nat) : Int))) B) : lp body FU 0 = some r := by
  refine lp_up (e + 1) (by unfold FU; omega) (fun k => ∀ j : Nat, j < k → needV l j ≤ supV f j) (fun j h => by omega) ?_
  intro nx k hk J hnx
  rw [hb nx k hk]
  by_cases c : (k : Int) ≤ (e : Int)
  · rw [decide_eq_true c, fk_t]
    by_cases d : needV l k > supV f k
    · rw [decide_eq_true d, fk_t]
      exact h1 k (badV_some.2 ⟨by omega, d, J⟩)
    · rw [decide_eq_false d, fk_f]
      refine hnx (by omega) fun j hj => ?_
      by_cases e2 : j = k
      · subst e2; omega
      · exact J j (by omega)
  · rw [decide_eq_false c, fk_f]
    exact h2 (badV_none.2 fun t ht => J t (by omega))
theorem okC_end {l : List Task} {f : Face} (h : okC l f) : ∃ e : Nat, (e : Int) = (cyc l f : Int) + farv l f ∧ e ≤ 3000 := by
  have h1 := farv_b h.1 h.2.1
  have h2 := h.2.2
  have h3 := h.2.1
  unfold faceP at h3
  exact ⟨((cyc l f : Int) + farv l f).toNat, by omega, by omega⟩
def endN (l : List Task) (f : Face) : Nat := ((cyc l f : Int) + farv l f).toNat
theorem endN_eq {l : List Task} {f : Face} (h : okC l f) : ((endN l f : Nat) : Int) = (cyc l f : Int) + farv l f ∧ endN l f ≤ 3000 := by
  obtain ⟨e, h1, h2⟩ := okC_end h
  unfold endN; omega
noncomputable def firstV (l : List Task) (f : Face) : Int × Bool × Int := if okC l f then (match badV l f (endN l f) with | some t => ((t : Int), true, 0) | none => (0, false, 0)) else (0, false, errC l f)
theorem errC_ne {l : List Task} {f : Face} (h : ¬ okC l f) : errC l f ≠ 0 := by
  unfold errC; rw [if_neg h]; split <;> omega
theorem verdict_First_eq (l : List Task) (f : Face) (hl : l.length ≤ 4611686018427387904) : verdict_First l f = some (firstV l f) := by
  unfold verdict_First firstV
  rw [bnd_eq (verdict_Cycle_eq l f hl)]
  by_cases h : okC l f
  rotate_left
  · have := errC_ne h
    rw [cycV, if_neg h, if_neg h]
    simp only
    rw [decide_eq_false this, Bool.not_false, fk_t]
  obtain ⟨e1, e2⟩ := endN_eq h
  rw [cycV, if_pos h, if_pos h]
  rw [show (!decide (((cyc l f : Int), (cyc l f : Int) + farv l f, (0 : Int)).2.2 = 0)) = false from rfl, fk_f, show ((cyc l f : Int), (cyc l f : Int) + farv l f, (0 : Int)).2.1 = (cyc l f : Int) + farv l f from rfl, ← e1]
  have : verdict_fails l f ((endN l f : Nat) : Int) = some ((badV l f (endN l f)).map fun t => (t : Int)) := by
    unfold verdict_fails
    refine scan_eq l f (endN l f) (by omega) (fun v => some (some v)) (some none) _ (fun t ht => by rw [ht]; rfl) (fun ht => by rw [ht]; rfl) ?_
    intro nx k hk
    by_cases c : (k : Int) ≤ ((endN l f : Nat) : Int)
    · rw [decide_eq_true c, fk_t, fk_t, bnd_eq (verdict_Need_eq l k hl (by omega)), bnd_eq (supply_Bound_eq f k), if_pos ⟨h.1, by omega⟩, if_pos (show faceP f ∧ 0 ≤ (k : Int) ∧ (k : Int) ≤ 4611686018427387903 from ⟨h.2.1, by omega, by omega⟩), wr_in _ (by omega)]
      rfl
    · rw [decide_eq_false c, fk_f, fk_f]
  rw [bnd_eq this]
  cases badV l f (endN l f) with
  | none => rfl
  | some t => rfl
theorem ref10_First_eq (l : List Task) (f : Face) (h : okC l f) : ref10_First l f ((endN l f : Nat) : Int) = some ((firstV l f).1, (firstV l f).2.1) := by
  unfold ref10_First firstV
  rw [if_pos h]
  obtain ⟨e1, e2⟩ := endN_eq h
  refine scan_eq l f (endN l f) (by omega) (fun v => some (v, true)) (some (0, false)) _ (fun t ht => by rw [ht]) (fun ht => by rw [ht]) ?_
  intro nx k hk
  by_cases c : (k : Int) ≤ ((endN l f : Nat) : Int)
  · rw [decide_eq_true c, fk_t, fk_t, bnd_eq (ref10_Need_eq l k h.1 (by omega) (by omega)), bnd_eq (ref09_Bound_eq f k h.2.1 (by omega) (by omega)), wr_in _ (by omega)]
    rfl
  · rw [decide_eq_false c, fk_f, fk_f]
/-! What is asked for in a cycle. -/
def askC (c : Int) (t : Task) : Int := t.C * (c / t.T)
def asked (l : List Task) (c : Int) : Int := sumI (askC c) l
def givenC (f : Face) (c : Int) : Int := f.B * (c / f.P)
theorem div_b {c T : Int} (hc : 0 ≤ c) (hT : 1 ≤ T) : 0 ≤ c / T ∧ c / T ≤ c := ⟨Int.ediv_nonneg hc (by omega), Int.ediv_le_self _ hc⟩
theorem asked_b {l : List Task} (ha : AllP l) {c : Int} (h0 : 0 ≤ c) (h1 : c ≤ 3000) (k : Nat) : 0 ≤ asked (l.take k) c ∧ asked (l.take k) c ≤ 600000 * 8 := by
  have hx : ∀ t ∈ l.take k, 0 ≤ askC c t ∧ askC c t ≤ 600000 := fun t ht => by
    have hT := ha.T (List.mem_of_mem_take ht)
    have hd := div_b h0 hT.1
    unfold askC
    refine ⟨Int.mul_nonneg (by omega) hd.1, ?_⟩
    have := Int.mul_le_mul (show t.C ≤ 200 by omega) (show c / t.T ≤ 3000 by omega) hd.1 (by omega)
    omega
  refine ⟨sumI_nonneg fun t ht => (hx t ht).1, ?_⟩
  have h2 := sumI_bound (l := l.take k) fun t ht => (hx t ht).2
  have h3 : (l.take k).length ≤ 8 := by rw [List.length_take]; have := ha.2; omega
  unfold asked
  have h4 : (600000 : Int) * ((l.take k).length : Int) ≤ 600000 * 8 := Int.mul_le_mul_of_nonneg_left (by omega) (by omega)
  omega
theorem givenC_b {f : Face} (hf : faceP f) {c : Int} (h0 : 0 ≤ c) (h1 : c ≤ 3000) : 0 ≤ givenC f c ∧ givenC f c ≤ 600000 := by
  unfold faceP at hf
  have hd := div_b h0 (show 1 ≤ f.P by omega)
  unfold givenC
  refine ⟨Int.mul_nonneg (by omega) hd.1, ?_⟩
  have := Int.mul_le_mul (show f.B ≤ 200 by omega) (show c / f.P ≤ 3000 by omega) hd.1 (by omega)
  omega
theorem cyc_b {l : List Task} {f : Face} (h : okC l f) : 1 ≤ (cyc l f : Int) ∧ (cyc l f : Int) ≤ 3000 := by
  have h1 := farv_b h.1 h.2.1
  have h2 := h.2.2
  have h3 := h.2.1
  have h4 := (cyc_take h.1 h.2.1 l.length).1
  rw [List.take_length] at h4
  unfold faceP at h3
  have : 0 < cyc l f := h4
  omega
theorem ref10_Asked_eq (l : List Task) (f : Face) (h : okC l f) : ref10_Asked l f (cyc l f : Int) = some (asked l (cyc l f), givenC f (cyc l f)) := by
  unfold ref10_Asked
  have h8 := h.1.2
  have hc := cyc_b h
  refine lp_upS l.length (by unfold FU; omega) (fun k v => v = asked (l.take k) (cyc l f)) 0 (by simp [asked, sumI]) ?_
  rintro nx k v hk rfl hnx
  simp only
  rw [lt_nat]
  by_cases hh : k < l.length
  · have hT := h.1.T (List.getElem_mem hh)
    have hd := div_b (show 0 ≤ (cyc l f : Int) by omega) hT.1
    have hb := asked_b h.1 (show 0 ≤ (cyc l f : Int) by omega) hc.2 k
    have hb2 := asked_b h.1 (show 0 ≤ (cyc l f : Int) by omega) hc.2 (k + 1)
    have hs : asked (l.take (k + 1)) (cyc l f) = asked (l.take k) (cyc l f) + askC (cyc l f) l[k] := sumI_succ _ _ _ hh
    have hm : 0 ≤ l[k].C * ((cyc l f : Int) / l[k].T) := Int.mul_nonneg (by omega) hd.1
    unfold askC at hs
    rw [decide_eq_true hh, fk_t]
    simp only [ix_lt hh]
    rw [ck_t (decide_eq_true (by omega)), Int.tdiv_eq_ediv_of_nonneg (by omega), wr_in ((cyc l f : Int) / l[k].T) (by omega), wr_in (l[k].C * ((cyc l f : Int) / l[k].T)) (by omega), wr_in _ (by omega), wr_succ k _ hh (by omega)]
    exact hnx _ hh hs.symm
  · have hf := h.2.1
    unfold faceP at hf
    have hd := div_b (show 0 ≤ (cyc l f : Int) by omega) (show 1 ≤ f.P by omega)
    have hg := givenC_b h.2.1 (show 0 ≤ (cyc l f : Int) by omega) hc.2
    unfold givenC at hg ⊢
    rw [decide_eq_false hh, fk_f, ck_t (decide_eq_true (by omega)), Int.tdiv_eq_ediv_of_nonneg (by omega), wr_in ((cyc l f : Int) / f.P) (by omega), wr_in _ (by omega)]
    have : k = l.length := by omega
    rw [this, List.take_length]
def fitsF (l : List Task) (f : Face) : Prop := okC l f ∧ asked l (cyc l f) ≤ givenC f (cyc l f) ∧ badV l f (endN l f) = none
noncomputable instance (l : List Task) (f : Face) : Decidable (fitsF l f) := Classical.propDecidable _
theorem verdict_Fits_eq (l : List Task) (f : Face) (hl : l.length ≤ 4611686018427387904) : verdict_Fits l f = some (decide (fitsF l f), errC l f) := by
  unfold verdict_Fits
  rw [bnd_eq (verdict_Cycle_eq l f hl)]
  by_cases h : okC l f
  rotate_left
  · have := errC_ne h
    rw [cycV, if_neg h]
    simp only
    rw [decide_eq_false this, Bool.not_false, fk_t, decide_eq_false (fun hh => h hh.1)]
  have e0 : errC l f = 0 := by unfold errC; rw [if_pos h]
  have h8 := h.1.2
  have hc := cyc_b h
  rw [cycV, if_pos h]
  rw [show (!decide (((cyc l f : Int), (cyc l f : Int) + farv l f, (0 : Int)).2.2 = 0)) = false from rfl, fk_f]
  refine lp_upS l.length (by unfold FU; omega) (fun k v => v = asked (l.take k) (cyc l f)) 0 (by simp [asked, sumI]) ?_
  rintro nx k v hk rfl hnx
  simp only
  rw [lt_nat]
  by_cases hh : k < l.length
  · have hT := h.1.T (List.getElem_mem hh)
    have hd := div_b (show 0 ≤ (cyc l f : Int) by omega) hT.1
    have hb := asked_b h.1 (show 0 ≤ (cyc l f : Int) by omega) hc.2 k
    have hb2 := asked_b h.1 (show 0 ≤ (cyc l f : Int) by omega) hc.2 (k + 1)
    have hs : asked (l.take (k + 1)) (cyc l f) = asked (l.take k) (cyc l f) + askC (cyc l f) l[k] := sumI_succ _ _ _ hh
    have hm : 0 ≤ l[k].C * ((cyc l f : Int) / l[k].T) := Int.mul_nonneg (by omega) hd.1
    unfold askC at hs
    rw [Int.mul_comm] at hs hm
    rw [decide_eq_true hh, fk_t, ix_lt hh, ck_t (decide_eq_true (by omega)), Int.tdiv_eq_ediv_of_nonneg (by omega), wr_in ((cyc l f : Int) / l[k].T) (by omega), wr_in ((cyc l f : Int) / l[k].T * l[k].C) (by omega), wr_in _ (by omega), wr_succ k _ hh (by omega)]
    exact hnx _ hh hs.symm
  · have hf := h.2.1
    unfold faceP at hf
    have hd := div_b (show 0 ≤ (cyc l f : Int) by omega) (show 1 ≤ f.P by omega)
    have hg := givenC_b h.2.1 (show 0 ≤ (cyc l f : Int) by omega) hc.2
    have : k = l.length := by omega
    subst this
    have eg : (cyc l f : Int) / f.P * f.B = givenC f (cyc l f) := by unfold givenC; rw [Int.mul_comm]
    rw [decide_eq_false hh, fk_f, ck_t (decide_eq_true (by omega)), Int.tdiv_eq_ediv_of_nonneg (by omega), wr_in ((cyc l f : Int) / f.P) (by omega), eg, wr_in _ (by omega), List.take_length, e0]
    by_cases c : asked l (cyc l f) > givenC f (cyc l f)
    · rw [decide_eq_true c, fk_t, decide_eq_false (fun hx => by have := hx.2.1; omega)]
    rw [decide_eq_false c, fk_f, bnd_eq (verdict_First_eq l f hl)]
    unfold firstV
    rw [if_pos h]
    cases hb : badV l f (endN l f) with
    | none => rw [show decide (fitsF l f) = true from decide_eq_true ⟨h, by omega, hb⟩]; rfl
    | some t => rw [show decide (fitsF l f) = false from decide_eq_false fun hx => by rw [hx.2.2] at hb; cases hb]; rfl
theorem ref10_Fits_eq (l : List Task) (f : Face) (hl : l.length ≤ 4611686018427387904) (hs : ∀ t ∈ l, t.Secs.length ≤ 4611686018427387904) (h : okC l f) : ref10_Fits l f = some (decide (fitsF l f)) := by
  unfold ref10_Fits
  obtain ⟨e1, e2⟩ := endN_eq h
  rw [bnd_eq (ref10_Cycle_eq l f hl hs), cycV, if_pos h]
  simp only
  rw [bnd_eq (ref10_Asked_eq l f h), ← e1, bnd_eq (ref10_First_eq l f h)]
  simp only
  by_cases c : asked l (cyc l f) ≤ givenC f (cyc l f)
  · rw [decide_eq_true c, fk_t]
    unfold firstV
    rw [if_pos h]
    cases hb : badV l f (endN l f) with
    | none => rw [show decide (fitsF l f) = true from decide_eq_true ⟨h, c, hb⟩]; rfl
    | some t => rw [show decide (fitsF l f) = false from decide_eq_false fun hx => by rw [hx.2.2] at hb; cases hb]; rfl
  · rw [decide_eq_false c, fk_f, decide_eq_false (fun hx => c hx.2.1)]


/-! From the end on all goes on by cycles. -/
/-! Fewer tasks; more of a budget. -/
theorem AllP.sub {l l' : List Task} (h : AllP l) (hs : l'.Sublist l) : AllP l' := ⟨fun t ht => h.1 t (hs.subset ht), Nat.le_trans hs.length_le h.2⟩
theorem errC_ok {l : List Task} {f : Face} (h : okC l f) : errC l f = 0 := by unfold errC; rw [if_pos h]
end Go.Proofs.YtldlcdnhdedoeaaGreat
