/- Part 19 of what follows is proved here: what the statement WorldOwns needs of functions and plain laws. -/
import Derived.Test.YtldlcdnhdedoeaaGreatXWorldOwns7
import Derived.Test.YtldlcdnhdedoeaaGreatXWorldOwns0
set_option linter.unusedVariables false
set_option linter.unusedSimpArgs false
set_option maxRecDepth 100000
set_option maxHeartbeats 40000000
namespace Go.Proofs.YtldlcdnhdedoeaaGreat
open Go Go.VC
noncomputable def ref10_Cycle (a0 : List Task) (a1 : Face) : Option (Int × Int × Int) :=
 jn (fun (w1 : Bool) => fk w1 (some ((0 : Int), (0 : Int), (1 : Int))) (lp (fun nx4 (v4 : Int × Int) => fk (decide (v4.2 < (a0.length : Int))) (jn (fun (w5 : Int) => nx4 (w5, (wr (v4.2 + (1 : Int))))) (fun k5 => ix a0 v4.2 fun x6 => fk (decide (x6.D > v4.1)) (ix a0 v4.2 fun x7 => k5 x7.D) (k5 v4.1))) (lp (fun nx8 (v8 : Int) => fk (decide ((wr (v8 + v4.1)) ≤ (3000 : Int))) (lp (fun nx9 (v9 : Bool × Int) => fk (decide (v9.2 < (a0.length : Int))) (jn (fun (w10 : Bool) => nx9 (w10, (wr (v9.2 + (1 : Int))))) (fun k10 => fk v9.1 (ix a0 v9.2 fun x11 => ck (decide (x11.T ≠ 0)) (k10 (decide ((v8.tmod x11.T) = (0 : Int))))) (k10 false))) (fk v9.1 (some (v8, (wr (v8 + v4.1)), (0 : Int))) (nx8 (wr (v8 + a1.P))))) FU (true, (0 : Int))) (some ((0 : Int), (0 : Int), (5 : Int)))) FU a1.P)) FU ((wr ((2 : Int) * a1.P)), (0 : Int)))) (fun k1 => bnd (ref05_All a0) fun x2 => fk (!x2) (k1 true) (bnd (ref09_Right a1) fun x3 => k1 (!x3)))
theorem ref10_Cycle_w (a0 : List Task) (a1 : Face) (r : Int × Int × Int) (h : ref10_Cycle a0 a1 = some r) : Go.VC.Spec Tryz.prog 53 [.d (.sl (a0.map Task.enc)), .agg (Face.enc a1)] (fun y => y = E_Int_Int_Int r) := by
 refine Go.VC.Spec.of_xc (args := [.d (.sl (a0.map Task.enc)), .agg (Face.enc a1)]) (fn := Tryz.f53) tab ⟨[(0, [0, 3]), (1, [0, 3, 19]), (2, [4, 5, 6]), (3, [0, 3, 7]), (4, [0, 3, 7, 8]), (5, [0, 3, 7, 8, 26]), (6, [0, 3, 7, 8]), (7, [0, 3, 7, 8, 35]), (8, [0, 3, 7, 8]), (9, [0, 3, 7, 9]), (10, [0, 3, 7, 9, 46]), (11, [0, 3, 7, 9]), (12, [0, 3, 7, 9, 10]), (13, [0, 3, 7, 9, 10, 11]), (14, [0, 3, 7, 9, 10, 11, 54]), (15, [0, 3, 7, 9, 10, 11]), (16, [0, 3, 7, 9, 10, 11]), (17, [0, 3, 7, 9, 68]), (18, [4, 5, 6]), (19, [4, 5, 6])], [], [100019, 6, 15], []⟩ 73 [.tmp 4, .tmp 5, .tmp 6] rfl rfl rfl rfl rfl rfl ?_
 conv => whnf
 refine jnS (fun w1 => ⟨[(0, .l (.d (.sl (a0.map Task.enc)))), (3, .l (.ptr 4 0)), (19, .l (.d (.bool w1)))], 73, [], [(4, [.d (.int .i64 a1.P), .d (.int .i64 a1.B)])], []⟩) h (fun k1 hk1 h => ?_) (fun w1 h => ?_)
 ·conv => whnf
  refine caS (E := E_Bool) h (ref05_All_w a0) rfl (fun _ => rfl) (fun x2 h => ?_)
  conv => whnf
  refine fkS h (fun h => ?_) (fun h => ?_)
  ·conv => whnf
   exact jeS hk1 h (Weak.refl _)
  conv => whnf
  refine caS (E := E_Bool) h (ref09_Right_w a1) rfl (fun _ => rfl) (fun x3 h => ?_)
  conv => whnf
  exact jeS hk1 h (Weak.refl _)
 conv => whnf
 refine fkS h (fun h => ?_) (fun h => ?_)
 ·conv => whnf
  exact rt (E := E_Int_Int_Int) h rfl
 conv => whnf
 refine lpS (fun v4 => ⟨[(0, .l (.d (.sl (a0.map Task.enc)))), (3, .l (.ptr 4 0)), (7, .l (.d (.int .i64 v4.1))), (8, .l (.d (.int .i64 v4.2)))], 73, [], [(4, [.d (.int .i64 a1.P), .d (.int .i64 a1.B)])], []⟩) h (Weak.refl _) (fun _ nx4 hn4 v4 h => ?_)
 conv => whnf
 refine lenS a0 Task.enc rfl ?_
 conv => whnf
 refine fkS h (fun h => ?_) (fun h => ?_)
 ·conv => whnf
  refine jnS (fun w5 => ⟨[(0, .l (.d (.sl (a0.map Task.enc)))), (3, .l (.ptr 4 0)), (7, .l (.d (.int .i64 w5))), (8, .l (.d (.int .i64 v4.2)))], 73, [], [(4, [.d (.int .i64 a1.P), .d (.int .i64 a1.B)])], []⟩) h (fun k5 hk5 h => ?_) (fun w5 h => ?_)
  ·conv => whnf
   refine ixS (enc := Task.enc) h rfl (fun _ => rfl) (fun x6 h => ?_)
   conv => whnf
   refine fkS h (fun h => ?_) (fun h => ?_)
   ·conv => whnf
    refine ixS (enc := Task.enc) h rfl (fun _ => rfl) (fun x7 h => ?_)
    conv => whnf
    exact jeS hk5 h (Weak.refl _)
   conv => whnf
   refine jeX hk5 h ?_
   conv => whnf
   refine WkF.step (Weak.keepS _ [0, 3, 7, 8]) ?_
   conv => whnf
   exact WkF.refl _
  conv => whnf
  exact leS hn4 h (Weak.refl _)
 conv => whnf
 refine lpS (fun v8 => ⟨[(0, .l (.d (.sl (a0.map Task.enc)))), (3, .l (.ptr 4 0)), (7, .l (.d (.int .i64 v4.1))), (9, .l (.d (.int .i64 v8)))], 73, [], [(4, [.d (.int .i64 a1.P), .d (.int .i64 a1.B)])], []⟩) h (Weak.refl _) (fun _ nx8 hn8 v8 h => ?_)
 conv => whnf
 refine fkS h (fun h => ?_) (fun h => ?_)
 ·conv => whnf
  refine lpS (fun v9 => ⟨[(0, .l (.d (.sl (a0.map Task.enc)))), (3, .l (.ptr 4 0)), (7, .l (.d (.int .i64 v4.1))), (9, .l (.d (.int .i64 v8))), (10, .l (.d (.bool v9.1))), (11, .l (.d (.int .i64 v9.2)))], 73, [], [(4, [.d (.int .i64 a1.P), .d (.int .i64 a1.B)])], []⟩) h (Weak.refl _) (fun _ nx9 hn9 v9 h => ?_)
  conv => whnf
  refine lenS a0 Task.enc rfl ?_
  conv => whnf
  refine fkS h (fun h => ?_) (fun h => ?_)
  ·conv => whnf
   refine jnS (fun w10 => ⟨[(0, .l (.d (.sl (a0.map Task.enc)))), (3, .l (.ptr 4 0)), (7, .l (.d (.int .i64 v4.1))), (9, .l (.d (.int .i64 v8))), (10, .l (.d (.bool w10))), (11, .l (.d (.int .i64 v9.2)))], 73, [], [(4, [.d (.int .i64 a1.P), .d (.int .i64 a1.B)])], []⟩) h (fun k10 hk10 h => ?_) (fun w10 h => ?_)
   ·conv => whnf
    refine fkS h (fun h => ?_) (fun h => ?_)
    ·conv => whnf
     refine ixS (enc := Task.enc) h rfl (fun _ => rfl) (fun x11 h => ?_)
     conv => whnf
     refine dvS h (fun h => ?_)
     conv => whnf
     exact jeS hk10 h (Weak.refl _)
    conv => whnf
    exact jeS hk10 h (Weak.refl _)
   conv => whnf
   exact leS hn9 h (Weak.refl _)
  conv => whnf
  refine fkS h (fun h => ?_) (fun h => ?_)
  ·conv => whnf
   exact rt (E := E_Int_Int_Int) h rfl
  conv => whnf
  exact leS hn8 h (Weak.refl _)
 conv => whnf
 exact rt (E := E_Int_Int_Int) h rfl
end Go.Proofs.YtldlcdnhdedoeaaGreat
namespace Go.Proofs.YtldlcdnhdedoeaaGreat
open Go Go.VC
noncomputable def ref10_Asked (a0 : List Task) (a1 : Face) (a2 : Int) : Option (Int × Int) :=
 lp (fun nx1 (v1 : Int × Int) => fk (decide (v1.2 < (a0.length : Int))) (ix a0 v1.2 fun x2 => ix a0 v1.2 fun x3 => ck (decide (x3.T ≠ 0)) (nx1 ((wr (v1.1 + (wr (x2.C * (wr (a2.tdiv x3.T)))))), (wr (v1.2 + (1 : Int)))))) (ck (decide (a1.P ≠ 0)) (some (v1.1, (wr (a1.B * (wr (a2.tdiv a1.P)))))))) FU ((0 : Int), (0 : Int))
theorem ref10_Asked_w (a0 : List Task) (a1 : Face) (a2 : Int) (r : Int × Int) (h : ref10_Asked a0 a1 a2 = some r) : Go.VC.Spec Tryz.prog 165 [.d (.sl (a0.map Task.enc)), .agg (Face.enc a1), .d (.int .i64 a2)] (fun y => y = E_Int_Int r) := by
 refine Go.VC.Spec.of_xc (args := [.d (.sl (a0.map Task.enc)), .agg (Face.enc a1), .d (.int .i64 a2)]) (fn := Tryz.f165) tab ⟨[(0, [0, 2, 4]), (1, [0, 2, 4, 8]), (2, [0, 2, 4, 8, 9]), (3, [0, 2, 4, 8, 9, 13]), (4, [0, 2, 4, 8, 9]), (5, [0, 2, 4, 8, 9]), (6, [6, 7])], [], [], []⟩ 39 [.tmp 6, .tmp 7] rfl rfl rfl rfl rfl rfl ?_
 conv => whnf
 refine lpS (fun v1 => ⟨[(0, .l (.d (.sl (a0.map Task.enc)))), (2, .l (.d (.int .i64 a2))), (4, .l (.ptr 5 0)), (8, .l (.d (.int .i64 v1.1))), (9, .l (.d (.int .i64 v1.2)))], 39, [], [(5, [.d (.int .i64 a1.P), .d (.int .i64 a1.B)])], []⟩) h (Weak.refl _) (fun _ nx1 hn1 v1 h => ?_)
 conv => whnf
 refine lenS a0 Task.enc rfl ?_
 conv => whnf
 refine fkS h (fun h => ?_) (fun h => ?_)
 ·conv => whnf
  refine ⟨14, ?_⟩
  conv => whnf
  refine ixS (enc := Task.enc) h rfl (fun _ => rfl) (fun x2 h => ?_)
  conv => whnf
  refine ixS (enc := Task.enc) h rfl (fun _ => rfl) (fun x3 h => ?_)
  conv => whnf
  refine dvS h (fun h => ?_)
  conv => whnf
  refine drS (by kernel_rfl) ?_
  conv => whnf
  exact leS hn1 h (Weak.refl _)
 conv => whnf
 refine ⟨9, ?_⟩
 conv => whnf
 refine dvS h (fun h => ?_)
 conv => whnf
 refine drS (by kernel_rfl) ?_
 conv => whnf
 exact rt (E := E_Int_Int) h rfl
end Go.Proofs.YtldlcdnhdedoeaaGreat
namespace Go.Proofs.YtldlcdnhdedoeaaGreat
open Go Go.VC
noncomputable def ref07_Bound (a0 : List Task) (a1 : Int) : Option Int :=
 lp (fun nx1 (v1 : Int × Int) => fk (decide (v1.2 < (a0.length : Int))) (ix a0 v1.2 fun x2 => lp (fun nx3 (v3 : Int × Int) => fk (decide (v3.2 ≤ a1)) (ix a0 v1.2 fun x4 => ix a0 v1.2 fun x5 => nx3 ((wr (v3.1 + x4.C)), (wr (v3.2 + x5.T)))) (nx1 (v3.1, (wr (v1.2 + (1 : Int)))))) FU (v1.1, x2.D)) (some v1.1)) FU ((0 : Int), (0 : Int))
theorem ref07_Bound_w (a0 : List Task) (a1 : Int) (r : Int) (h : ref07_Bound a0 a1 = some r) : Go.VC.Spec Tryz.prog 181 [.d (.sl (a0.map Task.enc)), .d (.int .i64 a1)] (fun y => y = E_Int r) := by
 refine Go.VC.Spec.of_xc (args := [.d (.sl (a0.map Task.enc)), .d (.int .i64 a1)]) (fn := Tryz.f181) tab ⟨[(0, [0, 1]), (1, [0, 1, 5]), (2, [0, 1, 5, 6]), (3, [0, 1, 5, 6, 11]), (4, [0, 1, 5, 6]), (5, [0, 1, 5, 6, 7]), (6, [0, 1, 5, 6, 7, 21]), (7, [0, 1, 5, 6, 7]), (8, [0, 1, 5, 6, 7]), (9, [4])], [], [], []⟩ 37 [.tmp 4] rfl rfl rfl rfl rfl rfl ?_
 conv => whnf
 refine lpS (fun v1 => ⟨[(0, .l (.d (.sl (a0.map Task.enc)))), (1, .l (.d (.int .i64 a1))), (5, .l (.d (.int .i64 v1.1))), (6, .l (.d (.int .i64 v1.2)))], 37, [], [], []⟩) h (Weak.refl _) (fun _ nx1 hn1 v1 h => ?_)
 conv => whnf
 refine lenS a0 Task.enc rfl ?_
 conv => whnf
 refine fkS h (fun h => ?_) (fun h => ?_)
 ·conv => whnf
  refine ixS (enc := Task.enc) h rfl (fun _ => rfl) (fun x2 h => ?_)
  conv => whnf
  refine lpS (fun v3 => ⟨[(0, .l (.d (.sl (a0.map Task.enc)))), (1, .l (.d (.int .i64 a1))), (5, .l (.d (.int .i64 v3.1))), (6, .l (.d (.int .i64 v1.2))), (7, .l (.d (.int .i64 v3.2)))], 37, [], [], []⟩) h (Weak.refl _) (fun _ nx3 hn3 v3 h => ?_)
  conv => whnf
  refine fkS h (fun h => ?_) (fun h => ?_)
  ·conv => whnf
   refine ixS (enc := Task.enc) h rfl (fun _ => rfl) (fun x4 h => ?_)
   conv => whnf
   refine ixS (enc := Task.enc) h rfl (fun _ => rfl) (fun x5 h => ?_)
   conv => whnf
   exact leS hn3 h (Weak.refl _)
  conv => whnf
  exact leS hn1 h (Weak.refl _)
 conv => whnf
 exact rt (E := E_Int) h rfl
end Go.Proofs.YtldlcdnhdedoeaaGreat
namespace Go.Proofs.YtldlcdnhdedoeaaGreat
open Go Go.VC
noncomputable def ref05_Uses (a0 : Task) (a1 : Int) : Option Bool :=
 lp (fun nx1 (v1 : Int × Int) => fk (decide (v1.2 < (a0.Secs.length : Int))) (jn (fun (w2 : Int) => nx1 (w2, (wr (v1.2 + (1 : Int))))) (fun k2 => ix a0.Secs v1.2 fun x3 => fk (decide (x3.Res = a1)) (k2 (wr (v1.1 + (1 : Int)))) (k2 v1.1))) (some (decide (v1.1 > (0 : Int))))) FU ((0 : Int), (0 : Int))
theorem ref05_Uses_w (a0 : Task) (a1 : Int) (r : Bool) (h : ref05_Uses a0 a1 = some r) : Go.VC.Spec Tryz.prog 191 [.agg (Task.enc a0), .d (.int .i64 a1)] (fun y => y = E_Bool r) := by
 refine Go.VC.Spec.of_xc (args := [.agg (Task.enc a0), .d (.int .i64 a1)]) (fn := Tryz.f191) tab ⟨[(0, [1, 2]), (1, [1, 2, 5]), (2, [1, 2, 5, 6]), (3, [1, 2, 5, 6, 11]), (4, [1, 2, 5, 6]), (5, [1, 2, 5, 6, 21]), (6, [1, 2, 5, 6]), (7, [4])], [], [4], []⟩ 26 [.tmp 4] rfl rfl rfl rfl rfl rfl ?_
 conv => whnf
 refine lpS (fun v1 => ⟨[(1, .l (.d (.int .i64 a1))), (2, .l (.ptr 3 0)), (5, .l (.d (.int .i64 v1.1))), (6, .l (.d (.int .i64 v1.2)))], 26, [], [(3, [.d (.int .i64 a0.C), .d (.int .i64 a0.D), .d (.int .i64 a0.T), .d (.sl (a0.Secs.map Sec.enc))])], []⟩) h (Weak.refl _) (fun _ nx1 hn1 v1 h => ?_)
 conv => whnf
 refine lenS a0.Secs Sec.enc rfl ?_
 conv => whnf
 refine fkS h (fun h => ?_) (fun h => ?_)
 ·conv => whnf
  refine jnS (fun w2 => ⟨[(1, .l (.d (.int .i64 a1))), (2, .l (.ptr 3 0)), (5, .l (.d (.int .i64 w2))), (6, .l (.d (.int .i64 v1.2)))], 26, [], [(3, [.d (.int .i64 a0.C), .d (.int .i64 a0.D), .d (.int .i64 a0.T), .d (.sl (a0.Secs.map Sec.enc))])], []⟩) h (fun k2 hk2 h => ?_) (fun w2 h => ?_)
  ·conv => whnf
   refine ixS (enc := Sec.enc) h rfl (fun _ => rfl) (fun x3 h => ?_)
   conv => whnf
   refine fkS h (fun h => ?_) (fun h => ?_)
   ·conv => whnf
    exact jeS hk2 h (Weak.refl _)
   conv => whnf
   refine jeX hk2 h ?_
   conv => whnf
   refine WkF.step (Weak.keepS _ [1, 2, 5, 6]) ?_
   conv => whnf
   exact WkF.refl _
  conv => whnf
  exact leS hn1 h (Weak.refl _)
 conv => whnf
 exact rt (E := E_Bool) h rfl
end Go.Proofs.YtldlcdnhdedoeaaGreat
namespace Go.Proofs.YtldlcdnhdedoeaaGreat
open Go Go.VC
noncomputable def ref08_Of (a0 : List Task) (a1 : Int) : Option Int :=
 lp (fun nx1 (v1 : Int × Int) => fk (decide (v1.2 < (a0.length : Int))) (lp (fun nx2 (v2 : Int × Int) => ix a0 v1.2 fun x3 => fk (decide (v2.2 < (x3.Secs.length : Int))) (lp (fun nx4 (v4 : Int × Int) => fk (decide (v4.2 < (a0.length : Int))) (jn (fun (w5 : Int) => nx4 (w5, (wr (v4.2 + (1 : Int))))) (fun k5 => jn (fun (w6 : Bool) => fk w6 (ix a0 v1.2 fun x15 => ix x15.Secs v2.2 fun x16 => k5 x16.Len) (k5 v4.1)) (fun k6 => ix a0 v1.2 fun x7 => fk (decide (x7.D > a1)) (ix a0 v4.2 fun x8 => fk (decide (x8.D ≤ a1)) (ix a0 v4.2 fun x9 => ix a0 v1.2 fun x10 => ix x10.Secs v2.2 fun x11 => bnd (ref05_Uses x9 x11.Res) fun x12 => fk x12 (ix a0 v1.2 fun x13 => ix x13.Secs v2.2 fun x14 => k6 (decide (x14.Len > v4.1))) (k6 false)) (k6 false)) (k6 false)))) (nx2 (v4.1, (wr (v2.2 + (1 : Int)))))) FU (v2.1, (0 : Int))) (nx1 (v2.1, (wr (v1.2 + (1 : Int)))))) FU (v1.1, (0 : Int))) (some v1.1)) FU ((0 : Int), (0 : Int))
theorem ref08_Of_w (a0 : List Task) (a1 : Int) (r : Int) (h : ref08_Of a0 a1 = some r) : Go.VC.Spec Tryz.prog 182 [.d (.sl (a0.map Task.enc)), .d (.int .i64 a1)] (fun y => y = E_Int r) := by
 refine Go.VC.Spec.of_xc (args := [.d (.sl (a0.map Task.enc)), .d (.int .i64 a1)]) (fn := Tryz.f182) tab ⟨[(0, [0, 1]), (1, [0, 1, 5]), (2, [0, 1, 5, 6]), (3, [0, 1, 5, 6, 12]), (4, [0, 1, 5, 6]), (5, [0, 1, 5, 6, 7]), (6, [0, 1, 5, 6, 7, 22]), (7, [0, 1, 5, 6, 7]), (8, [0, 1, 5, 6, 7, 8]), (9, [0, 1, 5, 6, 7, 8, 28]), (10, [0, 1, 5, 6, 7, 8]), (11, [0, 1, 5, 6, 7, 8, 75]), (12, [0, 1, 5, 6, 7, 8]), (13, [4])], [], [100075, 10], []⟩ 86 [.tmp 4] rfl rfl rfl rfl rfl rfl ?_
 conv => whnf
 refine lpS (fun v1 => ⟨[(0, .l (.d (.sl (a0.map Task.enc)))), (1, .l (.d (.int .i64 a1))), (5, .l (.d (.int .i64 v1.1))), (6, .l (.d (.int .i64 v1.2)))], 86, [], [], []⟩) h (Weak.refl _) (fun _ nx1 hn1 v1 h => ?_)
 conv => whnf
 refine lenS a0 Task.enc rfl ?_
 conv => whnf
 refine fkS h (fun h => ?_) (fun h => ?_)
 ·conv => whnf
  refine lpS (fun v2 => ⟨[(0, .l (.d (.sl (a0.map Task.enc)))), (1, .l (.d (.int .i64 a1))), (5, .l (.d (.int .i64 v2.1))), (6, .l (.d (.int .i64 v1.2))), (7, .l (.d (.int .i64 v2.2)))], 86, [], [], []⟩) h (Weak.refl _) (fun _ nx2 hn2 v2 h => ?_)
  conv => whnf
  refine ixS (enc := Task.enc) h rfl (fun _ => rfl) (fun x3 h => ?_)
  conv => whnf
  refine lenS x3.Secs Sec.enc rfl ?_
  conv => whnf
  refine fkS h (fun h => ?_) (fun h => ?_)
  ·conv => whnf
   refine lpS (fun v4 => ⟨[(0, .l (.d (.sl (a0.map Task.enc)))), (1, .l (.d (.int .i64 a1))), (5, .l (.d (.int .i64 v4.1))), (6, .l (.d (.int .i64 v1.2))), (7, .l (.d (.int .i64 v2.2))), (8, .l (.d (.int .i64 v4.2)))], 86, [], [], []⟩) h (Weak.refl _) (fun _ nx4 hn4 v4 h => ?_)
   conv => whnf
   refine lenS a0 Task.enc rfl ?_
   conv => whnf
   refine fkS h (fun h => ?_) (fun h => ?_)
   ·conv => whnf
    refine jnS (fun w5 => ⟨[(0, .l (.d (.sl (a0.map Task.enc)))), (1, .l (.d (.int .i64 a1))), (5, .l (.d (.int .i64 w5))), (6, .l (.d (.int .i64 v1.2))), (7, .l (.d (.int .i64 v2.2))), (8, .l (.d (.int .i64 v4.2)))], 86, [], [], []⟩) h (fun k5 hk5 h => ?_) (fun w5 h => ?_)
    ·conv => whnf
     refine jnS (fun w6 => ⟨[(0, .l (.d (.sl (a0.map Task.enc)))), (1, .l (.d (.int .i64 a1))), (5, .l (.d (.int .i64 v4.1))), (6, .l (.d (.int .i64 v1.2))), (7, .l (.d (.int .i64 v2.2))), (8, .l (.d (.int .i64 v4.2))), (75, .l (.d (.bool w6)))], 86, [], [], []⟩) h (fun k6 hk6 h => ?_) (fun w6 h => ?_)
     ·conv => whnf
      refine ⟨45, ?_⟩
      conv => whnf
      refine ixS (enc := Task.enc) h rfl (fun _ => rfl) (fun x7 h => ?_)
      conv => whnf
      refine fkS h (fun h => ?_) (fun h => ?_)
      ·conv => whnf
       refine ixS (enc := Task.enc) h rfl (fun _ => rfl) (fun x8 h => ?_)
       conv => whnf
       refine fkS h (fun h => ?_) (fun h => ?_)
       ·conv => whnf
        refine ixS (enc := Task.enc) h rfl (fun _ => rfl) (fun x9 h => ?_)
        conv => whnf
        refine ixS (enc := Task.enc) h rfl (fun _ => rfl) (fun x10 h => ?_)
        conv => whnf
        refine ixS (enc := Sec.enc) h rfl (fun _ => rfl) (fun x11 h => ?_)
        conv => whnf
        refine daS (E := E_Bool) h (ref05_Uses_w x9 x11.Res) (fun _ => rfl) (fun x12 h => ?_)
        conv => whnf
        refine fkS h (fun h => ?_) (fun h => ?_)
        ·conv => whnf
         refine ixS (enc := Task.enc) h rfl (fun _ => rfl) (fun x13 h => ?_)
         conv => whnf
         refine ixS (enc := Sec.enc) h rfl (fun _ => rfl) (fun x14 h => ?_)
         conv => whnf
         refine drS (by kernel_rfl) ?_
         conv => whnf
         exact jeS hk6 h (Weak.refl _)
        conv => whnf
        refine drS (by kernel_rfl) ?_
        conv => whnf
        exact jeS hk6 h (Weak.refl _)
       conv => whnf
       refine drS (by kernel_rfl) ?_
       conv => whnf
       exact jeS hk6 h (Weak.refl _)
      conv => whnf
      refine drS (by kernel_rfl) ?_
      conv => whnf
      exact jeS hk6 h (Weak.refl _)
     conv => whnf
     refine fkS h (fun h => ?_) (fun h => ?_)
     ·conv => whnf
      refine ixS (enc := Task.enc) h rfl (fun _ => rfl) (fun x15 h => ?_)
      conv => whnf
      refine ixS (enc := Sec.enc) h rfl (fun _ => rfl) (fun x16 h => ?_)
      conv => whnf
      exact jeS hk5 h (Weak.refl _)
     conv => whnf
     refine jeX hk5 h ?_
     conv => whnf
     refine WkF.step (Weak.keepS _ [0, 1, 5, 6, 7, 8]) ?_
     conv => whnf
     exact WkF.refl _
    conv => whnf
    exact leS hn4 h (Weak.refl _)
   conv => whnf
   exact leS hn2 h (Weak.refl _)
  conv => whnf
  exact leS hn1 h (Weak.refl _)
 conv => whnf
 exact rt (E := E_Int) h rfl
end Go.Proofs.YtldlcdnhdedoeaaGreat
namespace Go.Proofs.YtldlcdnhdedoeaaGreat
open Go Go.VC
noncomputable def ref10_Need (a0 : List Task) (a1 : Int) : Option Int :=
 bnd (ref07_Bound a0 a1) fun x1 => bnd (ref08_Of a0 a1) fun x2 => some (wr (x1 + x2))
theorem ref10_Need_w (a0 : List Task) (a1 : Int) (r : Int) (h : ref10_Need a0 a1 = some r) : Go.VC.Spec Tryz.prog 172 [.d (.sl (a0.map Task.enc)), .d (.int .i64 a1)] (fun y => y = E_Int r) := by
 refine Go.VC.Spec.of_xc (args := [.d (.sl (a0.map Task.enc)), .d (.int .i64 a1)]) (fn := Tryz.f172) tab ⟨[(0, [0, 1]), (1, [4])], [], [], []⟩ 12 [.tmp 4] rfl rfl rfl rfl rfl rfl ?_
 conv => whnf
 refine caS (E := E_Int) h (ref07_Bound_w a0 a1) rfl (fun _ => rfl) (fun x1 h => ?_)
 conv => whnf
 refine caS (E := E_Int) h (ref08_Of_w a0 a1) rfl (fun _ => rfl) (fun x2 h => ?_)
 conv => whnf
 exact rt (E := E_Int) h rfl
end Go.Proofs.YtldlcdnhdedoeaaGreat
namespace Go.Proofs.YtldlcdnhdedoeaaGreat
open Go Go.VC
noncomputable def ref09_Worst (a0 : Face) (a1 : Int) : Option Bool :=
 fk (decide (a1 < a0.P)) (some (decide (a1 < a0.B))) (ck (decide (a0.P ≠ 0)) (some (decide ((a1.tmod a0.P) ≥ (wr (a0.P - a0.B))))))
theorem ref09_Worst_w (a0 : Face) (a1 : Int) (r : Bool) (h : ref09_Worst a0 a1 = some r) : Go.VC.Spec Tryz.prog 183 [.agg (Face.enc a0), .d (.int .i64 a1)] (fun y => y = E_Bool r) := by
 refine Go.VC.Spec.of_xc (args := [.agg (Face.enc a0), .d (.int .i64 a1)]) (fn := Tryz.f183) tab ⟨[(0, [1, 2]), (1, [1, 2, 8]), (2, [4]), (3, [4])], [], [], []⟩ 23 [.tmp 4] rfl rfl rfl rfl rfl rfl ?_
 conv => whnf
 refine fkS h (fun h => ?_) (fun h => ?_)
 ·conv => whnf
  exact rt (E := E_Bool) h rfl
 conv => whnf
 refine ⟨9, ?_⟩
 conv => whnf
 refine dvS h (fun h => ?_)
 conv => whnf
 refine drS (by kernel_rfl) ?_
 conv => whnf
 exact rt (E := E_Bool) h rfl
end Go.Proofs.YtldlcdnhdedoeaaGreat
namespace Go.Proofs.YtldlcdnhdedoeaaGreat
open Go Go.VC
noncomputable def ref09_Bound (a0 : Face) (a1 : Int) : Option Int :=
 lp (fun nx1 (v1 : Int × Int) => fk (decide (v1.2 < (wr (a0.B + a1)))) (jn (fun (w2 : Int) => nx1 (w2, (wr (v1.2 + (1 : Int))))) (fun k2 => bnd (ref09_Worst a0 v1.2) fun x3 => fk x3 (k2 (wr (v1.1 + (1 : Int)))) (k2 v1.1))) (some v1.1)) FU ((0 : Int), a0.B)
theorem ref09_Bound_w (a0 : Face) (a1 : Int) (r : Int) (h : ref09_Bound a0 a1 = some r) : Go.VC.Spec Tryz.prog 173 [.agg (Face.enc a0), .d (.int .i64 a1)] (fun y => y = E_Int r) := by
 refine Go.VC.Spec.of_xc (args := [.agg (Face.enc a0), .d (.int .i64 a1)]) (fn := Tryz.f173) tab ⟨[(0, [1, 2]), (1, [1, 2, 5]), (2, [1, 2, 5, 6]), (3, [1, 2, 5, 6, 14]), (4, [1, 2, 5, 6]), (5, [1, 2, 5, 6, 19]), (6, [1, 2, 5, 6]), (7, [4])], [], [4], []⟩ 23 [.tmp 4] rfl rfl rfl rfl rfl rfl ?_
 conv => whnf
 refine lpS (fun v1 => ⟨[(1, .l (.d (.int .i64 a1))), (2, .l (.ptr 3 0)), (5, .l (.d (.int .i64 v1.1))), (6, .l (.d (.int .i64 v1.2)))], 23, [], [(3, [.d (.int .i64 a0.P), .d (.int .i64 a0.B)])], []⟩) h (Weak.refl _) (fun _ nx1 hn1 v1 h => ?_)
 conv => whnf
 refine fkS h (fun h => ?_) (fun h => ?_)
 ·conv => whnf
  refine jnS (fun w2 => ⟨[(1, .l (.d (.int .i64 a1))), (2, .l (.ptr 3 0)), (5, .l (.d (.int .i64 w2))), (6, .l (.d (.int .i64 v1.2)))], 23, [], [(3, [.d (.int .i64 a0.P), .d (.int .i64 a0.B)])], []⟩) h (fun k2 hk2 h => ?_) (fun w2 h => ?_)
  ·conv => whnf
   refine caS (E := E_Bool) h (ref09_Worst_w a0 v1.2) rfl (fun _ => rfl) (fun x3 h => ?_)
   conv => whnf
   refine fkS h (fun h => ?_) (fun h => ?_)
   ·conv => whnf
    exact jeS hk2 h (Weak.refl _)
   conv => whnf
   refine jeX hk2 h ?_
   conv => whnf
   refine WkF.step (Weak.keepS _ [1, 2, 5, 6]) ?_
   conv => whnf
   exact WkF.refl _
  conv => whnf
  exact leS hn1 h (Weak.refl _)
 conv => whnf
 exact rt (E := E_Int) h rfl
end Go.Proofs.YtldlcdnhdedoeaaGreat
namespace Go.Proofs.YtldlcdnhdedoeaaGreat
open Go Go.VC
noncomputable def ref10_First (a0 : List Task) (a1 : Face) (a2 : Int) : Option (Int × Bool) :=
 lp (fun nx1 (v1 : Int) => fk (decide (v1 ≤ a2)) (bnd (ref10_Need a0 v1) fun x2 => bnd (ref09_Bound a1 v1) fun x3 => fk (decide (x2 > x3)) (some (v1, true)) (nx1 (wr (v1 + (1 : Int))))) (some ((0 : Int), false))) FU (0 : Int)
theorem ref10_First_w (a0 : List Task) (a1 : Face) (a2 : Int) (r : Int × Bool) (h : ref10_First a0 a1 a2 = some r) : Go.VC.Spec Tryz.prog 166 [.d (.sl (a0.map Task.enc)), .agg (Face.enc a1), .d (.int .i64 a2)] (fun y => y = E_Int_Bool r) := by
 refine Go.VC.Spec.of_xc (args := [.d (.sl (a0.map Task.enc)), .agg (Face.enc a1), .d (.int .i64 a2)]) (fn := Tryz.f166) tab ⟨[(0, [0, 2, 4]), (1, [0, 2, 4, 8]), (2, [0, 2, 4, 8, 11]), (3, [0, 2, 4, 8]), (4, [0, 2, 4, 8, 20]), (5, [6, 7]), (6, [6, 7])], [], [], []⟩ 22 [.tmp 6, .tmp 7] rfl rfl rfl rfl rfl rfl ?_
 conv => whnf
 refine lpS (fun v1 => ⟨[(0, .l (.d (.sl (a0.map Task.enc)))), (2, .l (.d (.int .i64 a2))), (4, .l (.ptr 5 0)), (8, .l (.d (.int .i64 v1)))], 22, [], [(5, [.d (.int .i64 a1.P), .d (.int .i64 a1.B)])], []⟩) h (Weak.refl _) (fun _ nx1 hn1 v1 h => ?_)
 conv => whnf
 refine fkS h (fun h => ?_) (fun h => ?_)
 ·conv => whnf
  refine ⟨5, ?_⟩
  conv => whnf
  refine daS (E := E_Int) h (ref10_Need_w a0 v1) (fun _ => rfl) (fun x2 h => ?_)
  conv => whnf
  refine drS (by kernel_rfl) ?_
  conv => whnf
  refine caS (E := E_Int) h (ref09_Bound_w a1 v1) rfl (fun _ => rfl) (fun x3 h => ?_)
  conv => whnf
  refine fkS h (fun h => ?_) (fun h => ?_)
  ·conv => whnf
   exact rt (E := E_Int_Bool) h rfl
  conv => whnf
  exact leS hn1 h (Weak.refl _)
 conv => whnf
 exact rt (E := E_Int_Bool) h rfl
end Go.Proofs.YtldlcdnhdedoeaaGreat
namespace Go.Proofs.YtldlcdnhdedoeaaGreat
open Go Go.VC
noncomputable def ref10_Fits (a0 : List Task) (a1 : Face) : Option Bool :=
 bnd (ref10_Cycle a0 a1) fun x1 => bnd (ref10_Asked a0 a1 x1.1) fun x2 => bnd (ref10_First a0 a1 x1.2.1) fun x3 => fk (decide (x2.1 ≤ x2.2)) (some (!x3.2)) (some false)
theorem ref10_Fits_w (a0 : List Task) (a1 : Face) (r : Bool) (h : ref10_Fits a0 a1 = some r) : Go.VC.Spec Tryz.prog 156 [.d (.sl (a0.map Task.enc)), .agg (Face.enc a1)] (fun y => y = E_Bool r) := by
 refine Go.VC.Spec.of_xc (args := [.d (.sl (a0.map Task.enc)), .agg (Face.enc a1)]) (fn := Tryz.f156) tab ⟨[(0, [0, 3]), (1, [0, 3, 5, 6]), (2, [0, 3, 6, 8, 9]), (3, [8, 9, 11]), (4, [4])], [], [], []⟩ 40 [.tmp 4] rfl rfl rfl rfl rfl rfl ?_
 conv => whnf
 refine caS (E := E_Int_Int_Int) h (ref10_Cycle_w a0 a1) rfl (fun _ => rfl) (fun x1 h => ?_)
 conv => whnf
 refine caS (E := E_Int_Int) h (ref10_Asked_w a0 a1 x1.1) rfl (fun _ => rfl) (fun x2 h => ?_)
 conv => whnf
 refine caS (E := E_Int_Bool) h (ref10_First_w a0 a1 x1.2.1) rfl (fun _ => rfl) (fun x3 h => ?_)
 conv => whnf
 refine fkS h (fun h => ?_) (fun h => ?_)
 ·conv => whnf
  exact rt (E := E_Bool) h rfl
 conv => whnf
 exact rt (E := E_Bool) h rfl
end Go.Proofs.YtldlcdnhdedoeaaGreat
namespace Go.Proofs.YtldlcdnhdedoeaaGreat
open Go Go.VC
noncomputable def ref20_Fits (a0 : List Task) (a1 : Face) : Option Int :=
 bnd (ref10_Cycle a0 a1) fun x1 => fk (!decide (x1.2.2 = (0 : Int))) (some x1.2.2) (bnd (ref10_Fits a0 a1) fun x2 => fk (!x2) (some (7 : Int)) (some (0 : Int)))
theorem ref20_Fits_w (a0 : List Task) (a1 : Face) (r : Int) (h : ref20_Fits a0 a1 = some r) : Go.VC.Spec Tryz.prog 119 [.d (.sl (a0.map Task.enc)), .agg (Face.enc a1)] (fun y => y = E_Int r) := by
 refine Go.VC.Spec.of_xc (args := [.d (.sl (a0.map Task.enc)), .agg (Face.enc a1)]) (fn := Tryz.f119) tab ⟨[(0, [0, 3]), (1, [0, 3, 7]), (2, [0, 3, 7, 16]), (3, [4]), (4, [21]), (5, [4]), (6, [4])], [], [], []⟩ 22 [.tmp 4] rfl rfl rfl rfl rfl rfl ?_
 conv => whnf
 refine caS (E := E_Int_Int_Int) h (ref10_Cycle_w a0 a1) rfl (fun _ => rfl) (fun x1 h => ?_)
 conv => whnf
 refine fkS h (fun h => ?_) (fun h => ?_)
 ·conv => whnf
  exact rt (E := E_Int) h rfl
 conv => whnf
 refine caS (E := E_Bool) h (ref10_Fits_w a0 a1) rfl (fun _ => rfl) (fun x2 h => ?_)
 conv => whnf
 refine fkS h (fun h => ?_) (fun h => ?_)
 ·conv => whnf
  exact rt (E := E_Int) h rfl
 conv => whnf
 exact rt (E := E_Int) h rfl
end Go.Proofs.YtldlcdnhdedoeaaGreat
namespace Go.Proofs.YtldlcdnhdedoeaaGreat
open Go Go.VC
noncomputable def ref20_Boot (a0 : Part) : Option Int :=
 jn (fun (w1 : Bool) => fk w1 (some (1 : Int)) (bnd (ref20_Fits a0.Tasks a0.Face) fun x4 => some x4)) (fun k1 => bnd (ref09_Right a0.Face) fun x2 => fk (!x2) (k1 true) (bnd (ref05_All a0.Tasks) fun x3 => k1 (!x3)))
theorem ref20_Boot_w (a0 : Part) (r : Int) (h : ref20_Boot a0 = some r) : Go.VC.Spec Tryz.prog 59 [.agg (Part.enc a0)] (fun y => y = E_Int r) := by
 refine Go.VC.Spec.of_xc (args := [.agg (Part.enc a0)]) (fn := Tryz.f59) tab ⟨[(0, [1]), (1, [1, 12]), (2, [2]), (3, [2])], [], [100012], []⟩ 18 [.tmp 2] rfl rfl rfl rfl rfl rfl ?_
 conv => whnf
 refine jnS (fun w1 => ⟨[(1, .l (.ptr 2 0)), (12, .l (.d (.bool w1)))], 18, [], [(2, [.d (.int .i64 a0.Face.P), .d (.int .i64 a0.Face.B), .d (.sl (a0.Tasks.map Task.enc))])], []⟩) h (fun k1 hk1 h => ?_) (fun w1 h => ?_)
 ·conv => whnf
  refine caS (E := E_Bool) h (ref09_Right_w a0.Face) rfl (fun _ => rfl) (fun x2 h => ?_)
  conv => whnf
  refine fkS h (fun h => ?_) (fun h => ?_)
  ·conv => whnf
   exact jeS hk1 h (Weak.refl _)
  conv => whnf
  refine caS (E := E_Bool) h (ref05_All_w a0.Tasks) rfl (fun _ => rfl) (fun x3 h => ?_)
  conv => whnf
  exact jeS hk1 h (Weak.refl _)
 conv => whnf
 refine fkS h (fun h => ?_) (fun h => ?_)
 ·conv => whnf
  exact rt (E := E_Int) h rfl
 conv => whnf
 refine caS (E := E_Int) h (ref20_Fits_w a0.Tasks a0.Face) rfl (fun _ => rfl) (fun x4 h => ?_)
 conv => whnf
 exact rt (E := E_Int) h rfl
end Go.Proofs.YtldlcdnhdedoeaaGreat
namespace Go.Proofs.YtldlcdnhdedoeaaGreat
open Go Go.VC
noncomputable def law05_Great (a0 : List Task) : Option Bool :=
 lp (fun nx1 (v1 : Int) => fk (decide (v1 < (a0.length : Int))) (ix a0 v1 fun x2 => fk (decide ((x2.Secs.length : Int) > (20 : Int))) (some true) (nx1 (wr (v1 + (1 : Int))))) (some (decide ((a0.length : Int) > (20 : Int))))) FU (0 : Int)
theorem law05_Great_w (a0 : List Task) (r : Bool) (h : law05_Great a0 = some r) : Go.VC.Spec Tryz.prog 109 [.d (.sl (a0.map Task.enc))] (fun y => y = E_Bool r) := by
 refine Go.VC.Spec.of_xc (args := [.d (.sl (a0.map Task.enc))]) (fn := Tryz.f109) tab ⟨[(0, [0]), (1, [0, 3]), (2, [0, 3, 7]), (3, [0, 3]), (4, [0, 3, 16]), (5, [2]), (6, [2])], [], [], []⟩ 20 [.tmp 2] rfl rfl rfl rfl rfl rfl ?_
 conv => whnf
 refine lpS (fun v1 => ⟨[(0, .l (.d (.sl (a0.map Task.enc)))), (3, .l (.d (.int .i64 v1)))], 20, [], [], []⟩) h (Weak.refl _) (fun _ nx1 hn1 v1 h => ?_)
 conv => whnf
 refine lenS a0 Task.enc rfl ?_
 conv => whnf
 refine fkS h (fun h => ?_) (fun h => ?_)
 ·conv => whnf
  refine ixS (enc := Task.enc) h rfl (fun _ => rfl) (fun x2 h => ?_)
  conv => whnf
  refine lenS x2.Secs Sec.enc rfl ?_
  conv => whnf
  refine fkS h (fun h => ?_) (fun h => ?_)
  ·conv => whnf
   exact rt (E := E_Bool) h rfl
  conv => whnf
  exact leS hn1 h (Weak.refl _)
 conv => whnf
 refine lenS a0 Task.enc rfl ?_
 conv => whnf
 exact rt (E := E_Bool) h rfl
end Go.Proofs.YtldlcdnhdedoeaaGreat
namespace Go.Proofs.YtldlcdnhdedoeaaGreat
open Go Go.VC
/-! ### Tasks -/
def fitsP (a b : Sec) : Prop := a.At + a.Len ≤ b.At ∨ (a.At ≤ b.At ∧ b.At + b.Len ≤ a.At + a.Len ∧ a.Res ≠ b.Res)
def secP (C : Int) (s : Sec) : Prop := 0 ≤ s.Res ∧ s.Res < 4 ∧ 0 ≤ s.At ∧ s.At < C ∧ 1 ≤ s.Len ∧ s.Len ≤ C - s.At
def ownP (t : Task) : Prop := 1 ≤ t.C ∧ t.C ≤ t.D ∧ t.D ≤ t.T ∧ t.T ≤ 200 ∧ t.Secs.length ≤ 4
def RightP (t : Task) : Prop := ownP t ∧ (∀ s ∈ t.Secs, secP t.C s) ∧ t.Secs.Pairwise fitsP
instance (a b : Sec) : Decidable (fitsP a b) := by unfold fitsP; infer_instance
instance (C : Int) (s : Sec) : Decidable (secP C s) := by unfold secP; infer_instance
instance (t : Task) : Decidable (ownP t) := by unfold ownP; infer_instance
instance (t : Task) : Decidable (RightP t) := by unfold RightP; infer_instance
def right (t : Task) : Bool := decide (RightP t)
def AllP (l : List Task) : Prop := (∀ t ∈ l, RightP t) ∧ l.length ≤ 8
instance (l : List Task) : Decidable (AllP l) := by unfold AllP; infer_instance
theorem right_t {t : Task} : right t = true ↔ RightP t := decide_eq_true_iff
def holds (had : Int) (s : Sec) : Bool := decide (s.At < had) && decide (had < s.At + s.Len)
def heldL (had : Int) (l : List Sec) : List Int := (l.filter (holds had)).map (·.Res)
def held (t : Task) (had : Int) : List Int := if right t = true then heldL had t.Secs else []
theorem RightP.len {t : Task} (h : RightP t) : t.Secs.length ≤ 4 := h.1.2.2.2.2
theorem RightP.c {t : Task} (h : RightP t) : 1 ≤ t.C ∧ t.C ≤ t.D ∧ t.D ≤ t.T ∧ t.T ≤ 200 := ⟨h.1.1, h.1.2.1, h.1.2.2.1, h.1.2.2.2.1⟩
def usesP (t : Task) (res : Int) : Prop := RightP t ∧ ∃ s ∈ t.Secs, s.Res = res
instance (t : Task) (res : Int) : Decidable (usesP t res) := by unfold usesP; infer_instance
theorem eqI_sec (x y : Sec) : eqI [.i .i64 x.Res, .i .i64 x.At, .i .i64 x.Len] [.i .i64 y.Res, .i .i64 y.At, .i .i64 y.Len] = decide (x = y) := by
 unfold eqI
 rw [decide_eq_decide]
 cases x; cases y; simp
theorem secs_eq {a b : Task} : a = b ↔ a.C = b.C ∧ a.D = b.D ∧ a.T = b.T ∧ a.Secs = b.Secs := by
 cases a; cases b; simp
theorem ref05_Same_eq (a b : Task) (hl : a.Secs.length ≤ 4611686018427387904) : ref05_Same a b = some (decide (a = b)) := by
 unfold ref05_Same
 refine lp_up a.Secs.length (by unfold FU; omega) (fun k => k ≤ b.Secs.length ∧ ∀ j (h : j < a.Secs.length) (h' : j < b.Secs.length), j < k → a.Secs[j] = b.Secs[j]) ⟨Nat.zero_le _, fun j _ _ h => by omega⟩ ?_
 rintro nx k hk ⟨hkb, J⟩ hnx
 simp only [jn_eq]
 have fin : ¬ (k < a.Secs.length ∧ k < b.Secs.length) → (fk (decide (a.C = b.C)) (fk (decide (a.D = b.D)) (fk (decide (a.T = b.T)) (some (decide ((a.Secs.length : Int) = (b.Secs.length : Int)))) (some false)) (some false)) (some false)) = some (decide (a = b)) := by
  intro hn
  by_cases c1 : a.C = b.C
  rotate_left
  ·rw [decide_eq_false c1, fk_f]; exact dec_f fun e => c1 (e ▸ rfl)
  by_cases c2 : a.D = b.D
  rotate_left
  ·rw [decide_eq_true c1, fk_t, decide_eq_false c2, fk_f]; exact dec_f fun e => c2 (e ▸ rfl)
  by_cases c3 : a.T = b.T
  rotate_left
  ·rw [decide_eq_true c1, fk_t, decide_eq_true c2, fk_t, decide_eq_false c3, fk_f]; exact dec_f fun e => c3 (e ▸ rfl)
  rw [decide_eq_true c1, fk_t, decide_eq_true c2, fk_t, decide_eq_true c3, fk_t]
  refine dec_iff ⟨fun e => ?_, fun e => by rw [e]⟩
  have c5 : a.Secs.length = b.Secs.length := by omega
  exact secs_eq.2 ⟨c1, c2, c3, List.ext_getElem c5 fun j h1 h2 => J j h1 h2 (by omega)⟩
 rw [lt_nat]
 by_cases h : k < a.Secs.length
 rotate_left
 ·rw [decide_eq_false h, fk_f, fk_f]; exact fin fun hh => h hh.1
 rw [decide_eq_true h, fk_t, lt_nat]
 by_cases h' : k < b.Secs.length
 rotate_left
 ·rw [decide_eq_false h', fk_f]; exact fin fun hh => h' hh.2
 rw [decide_eq_true h', fk_t, ix_lt h, ix_lt h', eqI_sec]
 by_cases e : a.Secs[k] = b.Secs[k]
 ·rw [decide_eq_true e, Bool.not_true, fk_f, wr_succ k _ h hl]
  refine hnx h ⟨by omega, fun j hj hj' hjk => ?_⟩
  by_cases e2 : j = k
  ·subst e2; exact e
  ·exact J j hj hj' (by omega)
 ·rw [decide_eq_false e, Bool.not_false, fk_t]
  exact dec_f fun e2 => e (by subst e2; rfl)
def GreatP (l : List Task) : Prop := (∃ t ∈ l, 20 < t.Secs.length) ∨ 20 < l.length
instance (l : List Task) : Decidable (GreatP l) := by unfold GreatP; infer_instance
theorem Task.wf.len {t : Task} (h : t.wf) : t.Secs.length ≤ 4611686018427387904 := by have := h.2.2.2.1; unfold BB at this; omega
theorem held_right {t : Task} (h : RightP t) (had : Int) : held t had = heldL had t.Secs := by rw [held, right_t.2 h, if_pos rfl]
theorem holds_iff {had : Int} {s : Sec} : holds had s = true ↔ s.At < had ∧ had < s.At + s.Len := by
 unfold holds; simp
theorem held_mem {t : Task} (h : RightP t) {had r : Int} (hr : r ∈ held t had) : ∃ s ∈ t.Secs, s.Res = r ∧ s.At < had ∧ had < s.At + s.Len := by
 rw [held_right h, heldL] at hr
 obtain ⟨s, hs, rfl⟩ := List.mem_map.1 hr
 obtain ⟨h1, h2⟩ := List.mem_filter.1 hs
 exact ⟨s, h1, rfl, holds_iff.1 h2⟩
theorem held_out {t : Task} (h : RightP t) {had : Int} (ho : had ≤ 0 ∨ t.C ≤ had) : held t had = [] := by
 rw [List.eq_nil_iff_forall_not_mem]
 intro r hr
 obtain ⟨s, hs, e, h1, h2⟩ := held_mem h hr
 have := h.2.1 s hs
 unfold secP at this
 omega
/-! ### Levels -/
def maxL {α : Type} (f : α → Nat) : List α → Nat
 | [] => 0
 | x :: r => max (f x) (maxL f r)
theorem maxL_le {α : Type} {f : α → Nat} {l : List α} {n : Nat} : maxL f l ≤ n ↔ ∀ x ∈ l, f x ≤ n := by
 induction l with
 | nil => simp [maxL]
 | cons x r ih => simp only [maxL, List.mem_cons, forall_eq_or_imp, ← ih]; omega
theorem le_maxL {α : Type} {f : α → Nat} {l : List α} {x : α} (h : x ∈ l) : f x ≤ maxL f l := maxL_le.1 (Nat.le_refl _) x h
def levelN (l : List Task) (D : Int) : Nat := 1 + l.countP (fun x => decide (x.D > D))
def ofN (l : List Task) (i : Int) : Nat := if AllP l ∧ 0 ≤ i then (match l[i.toNat]? with | some t => levelN l t.D | none => 0) else 0
theorem ofN_lt {l : List Task} (ha : AllP l) {i : Int} (h0 : 0 ≤ i) (h : i.toNat < l.length) : ofN l i = levelN l l[i.toNat].D := by
 rw [ofN, if_pos ⟨ha, h0⟩, List.getElem?_eq_getElem h]
def ceilN (l : List Task) (res : Int) : Nat := maxL (fun t => if usesP t res then levelN l t.D else 0) l
def ceil (l : List Task) (res : Int) : Nat := if AllP l then ceilN l res else 0
def heldN (l : List Task) (h : List Int) : Nat := maxL (ceil l) h
/-! The document's. -/
theorem AllP.len {l : List Task} (h : AllP l) : l.length ≤ 4611686018427387904 := by have := h.2; omega
theorem AllP.slen {l : List Task} (h : AllP l) {t : Task} (ht : t ∈ l) : t.Secs.length ≤ 4611686018427387904 := by have := (h.1 t ht).len; omega
def greatJ (l : List Task) (js : List Job) : Prop := GreatP l ∨ 50 < js.length
noncomputable instance (l : List Task) (js : List Job) : Decidable (greatJ l js) := Classical.propDecidable _
/-- what a job must be over tasks that are right -/
def bodyP (t : Task) (j : Job) : Prop := j.Due = j.At + t.D ∧ 1 ≤ j.Want ∧ j.Want ≤ 200 ∧ 0 ≤ j.Had ∧ j.Had < j.Want ∧ j.Had < t.C ∧ (j.Began = true ∨ j.Had = 0)
noncomputable instance (t : Task) (j : Job) : Decidable (bodyP t j) := Classical.propDecidable _
def jobP (l : List Task) (j : Job) : Prop := 0 ≤ j.Task ∧ 0 ≤ j.At ∧ j.At ≤ 4611686018427387703 ∧ ∃ h : j.Task.toNat < l.length, bodyP l[j.Task.toNat] j
noncomputable instance (l : List Task) (j : Job) : Decidable (jobP l j) := Classical.propDecidable _
def apartJ (a b : Job) : Prop := ¬ (a.Task = b.Task ∧ a.At = b.At)
def jobsP (l : List Task) (js : List Job) : Prop := AllP l ∧ js.length ≤ 32 ∧ (∀ j ∈ js, jobP l j) ∧ js.Pairwise apartJ
noncomputable instance (l : List Task) (js : List Job) : Decidable (jobsP l js) := Classical.propDecidable _
def heldJ (l : List Task) (j : Job) : List Int := match l[j.Task.toNat]? with | some t => held t j.Had | none => []
def heldA (l : List Task) (js : List Job) : List Int := js.flatMap (heldJ l)
theorem heldJ_of {l : List Task} {j : Job} (h : j.Task.toNat < l.length) : heldJ l j = held l[j.Task.toNat] j.Had := by
 unfold heldJ; rw [List.getElem?_eq_getElem h]
theorem sameInts_eq (a : List Int) (ha : a.length ≤ 1000) : ref05_SameInts a a = some true := by
 unfold ref05_SameInts
 rw [decide_eq_true rfl, Bool.not_true, fk_f]
 refine lp_up a.length (by unfold FU; omega) (fun _ => True) trivial ?_
 intro nx k hk _ hnx
 rw [lt_nat]
 by_cases h : k < a.length
 ·rw [decide_eq_true h, fk_t, ix_lt h]
  rw [ix_lt h, decide_eq_true rfl, Bool.not_true, fk_f, wr_succ k _ h (by omega)]
  exact hnx h trivial
 ·rw [decide_eq_false h, fk_f]
def aheadP (a b : Job) : Prop := a.Due < b.Due ∨ (a.Due = b.Due ∧ (a.Task < b.Task ∨ (a.Task = b.Task ∧ a.At < b.At)))
instance (a b : Job) : Decidable (aheadP a b) := by unfold aheadP; infer_instance
theorem eqI_job (x y : Job) : eqI [.i .i64 x.Task, .i .i64 x.At, .i .i64 x.Due, .i .i64 x.Want, .i .i64 x.Had, .b x.Began] [.i .i64 y.Task, .i .i64 y.At, .i .i64 y.Due, .i .i64 y.Want, .i .i64 y.Had, .b y.Began] = decide (x = y) := by
 unfold eqI
 rw [decide_eq_decide]
 cases x; cases y; simp
/-! The first one. -/
def IsFK (js : List Job) (b : Bool) (K : Nat) (i : Int) : Prop :=
 (i = -1 ∧ ∀ k (hk : k < js.length), k < K → js[k].Began ≠ b) ∨
 (∃ n : Nat, i = (n : Int) ∧ ∃ h : n < js.length, n < K ∧ js[n].Began = b ∧ (∀ k (hk : k < js.length), k < K → js[k].Began = b → ¬ aheadP js[k] js[n]) ∧ ∀ k (hk : k < js.length), k < n → js[k].Began = b → aheadP js[n] js[k])
def IsF (js : List Job) (b : Bool) (i : Int) : Prop := IsFK js b js.length i
theorem IsF.uniq {js : List Job} {b : Bool} {i i' : Int} (h : IsF js b i) (h' : IsF js b i') : i = i' := by
 rcases h with ⟨h1, h2⟩ | ⟨n, rfl, hn, _, hb, h3, h4⟩ <;> rcases h' with ⟨h1', h2'⟩ | ⟨n', rfl, hn', _, hb', h3', h4'⟩
 ·omega
 ·exact absurd hb' (h2 n' hn' hn')
 ·exact absurd hb (h2' n hn hn)
 ·rcases Nat.lt_trichotomy n n' with h | h | h
  ·exact absurd (h4' n hn h hb) (h3 n' hn' hn' hb')
  ·rw [h]
  ·exact absurd (h4 n' hn' h hb') (h3' n hn hn hb)
open Classical in
noncomputable def fst (js : List Job) (b : Bool) : Int := if h : ∃ i, IsF js b i then Classical.choose h else -1
theorem IsF.eq {js : List Job} {b : Bool} {i : Int} (h : IsF js b i) : i = fst js b := by
 have hx : ∃ i, IsF js b i := ⟨i, h⟩
 unfold fst
 rw [dif_pos hx]
 exact h.uniq (Classical.choose_spec hx)
theorem aheadP_trans {a b c : Job} (h : aheadP a b) (k : aheadP b c) : aheadP a c := by unfold aheadP at *; omega
theorem aheadP_irr (a : Job) : ¬ aheadP a a := by unfold aheadP; omega
theorem aheadP_of {a b c : Job} (h : ¬ aheadP b a) (k : aheadP b c) : aheadP a c := by unfold aheadP at *; omega
theorem aheadP_of' {a b c : Job} (h : aheadP a b) (k : ¬ aheadP c b) : aheadP a c := by unfold aheadP at *; omega
theorem IsFK.zero (js : List Job) (b : Bool) : IsFK js b 0 (-1) := .inl ⟨rfl, fun k _ h => by omega⟩
theorem IsFK.skip {js : List Job} {b : Bool} {K : Nat} {i : Int} (h : IsFK js b K i) (hK : K < js.length) (hb : js[K].Began ≠ b) : IsFK js b (K + 1) i := by
 rcases h with ⟨h1, h2⟩ | ⟨n, rfl, hn, hl, hb', h3, h4⟩
 ·refine .inl ⟨h1, fun k hk hkK => ?_⟩
  by_cases e : k = K
  ·subst e; exact hb
  ·exact h2 k hk (by omega)
 ·refine .inr ⟨n, rfl, hn, by omega, hb', fun k hk hkK hkb => ?_, h4⟩
  by_cases e : k = K
  ·subst e; exact absurd hkb hb
  ·exact h3 k hk (by omega) hkb
theorem IsFK.keep {js : List Job} {b : Bool} {K n : Nat} (h : IsFK js b K (n : Int)) (hK : K < js.length) (hn : n < js.length) (ha : ¬ aheadP js[K] js[n]) : IsFK js b (K + 1) (n : Int) := by
 rcases h with ⟨h1, h2⟩ | ⟨m, e, hm, hl, hb', h3, h4⟩
 ·omega
 ·have : n = m := by omega
  subst this
  refine .inr ⟨n, rfl, hn, by omega, hb', fun k hk hkK hkb => ?_, h4⟩
  by_cases e : k = K
  ·subst e; exact ha
  ·exact h3 k hk (by omega) hkb
theorem IsFK.turn {js : List Job} {b : Bool} {K : Nat} {i : Int} (h : IsFK js b K i) (hK : K < js.length) (hb : js[K].Began = b) (ha : ∀ n (hn : n < js.length), i = (n : Int) → aheadP js[K] js[n]) : IsFK js b (K + 1) (K : Int) := by
 refine .inr ⟨K, rfl, hK, by omega, hb, fun k hk hkK hkb => ?_, fun k hk hkK hkb => ?_⟩
 ·by_cases e : k = K
  ·subst e; exact aheadP_irr _
  ·rcases h with ⟨h1, h2⟩ | ⟨m, rfl, hm, hl, hb', h3, h4⟩
   ·exact absurd hkb (h2 k hk (by omega))
   ·exact fun hh => h3 k hk (by omega) hkb (aheadP_trans hh (ha m hm rfl))
 ·rcases h with ⟨h1, h2⟩ | ⟨m, rfl, hm, hl, hb', h3, h4⟩
  ·exact absurd hkb (h2 k hk hkK)
  ·exact aheadP_of' (ha m hm rfl) (h3 k hk hkK hkb)
theorem fst_is (js : List Job) (b : Bool) : IsF js b (fst js b) := by
 have : ∀ K, K ≤ js.length → ∃ i, IsFK js b K i := by
  intro K
  induction K with
  | zero => exact fun _ => ⟨-1, IsFK.zero js b⟩
  | succ K ih =>
   intro hK
   obtain ⟨i, hi⟩ := ih (by omega)
   by_cases hb : js[K].Began = b
   rotate_left
   ·exact ⟨i, hi.skip hK hb⟩
   by_cases ha : ∀ n (hn : n < js.length), i = (n : Int) → aheadP js[K] js[n]
   ·exact ⟨K, hi.turn hK hb ha⟩
   ·have : ∃ n, ∃ hn : n < js.length, i = (n : Int) ∧ ¬ aheadP js[K] js[n] := by
     by_cases c : ∃ n, ∃ hn : n < js.length, i = (n : Int) ∧ ¬ aheadP js[K] js[n]
     ·exact c
     ·exact absurd (fun n hn e => by
       by_cases c2 : aheadP js[K] js[n]
       ·exact c2
       ·exact absurd ⟨n, hn, e, c2⟩ c) ha
    obtain ⟨n, hn, rfl, hna⟩ := this
    exact ⟨n, hi.keep hK hn hna⟩
 obtain ⟨i, hi⟩ := this js.length (Nat.le_refl _)
 rw [← IsF.eq hi]; exact hi
theorem ref14_Same_eq (a b : List Job) (hl : a.length ≤ 4611686018427387904) : ref14_Same a b = some (decide (a = b)) := by
 unfold ref14_Same
 by_cases h0 : (a.length : Int) = (b.length : Int)
 rotate_left
 ·rw [decide_eq_false h0, Bool.not_false, fk_t]; exact dec_f fun h => h0 (by rw [h])
 rw [decide_eq_true h0, Bool.not_true, fk_f]
 refine lp_up a.length (by unfold FU; omega) (fun k => ∀ i (hi : i < a.length) (hi' : i < b.length), i < k → a[i] = b[i]) (fun i _ _ h => by omega) ?_
 intro nx k hk J hnx
 rw [lt_nat]
 by_cases h : k < a.length
 rotate_left
 ·rw [decide_eq_false h, fk_f]
  exact dec_t (List.ext_getElem (by omega) fun i h1 h2 => J i h1 h2 (by omega))
 rw [decide_eq_true h, fk_t, ix_lt h, ix_lt (show k < b.length by omega), eqI_job, wr_succ k _ h hl]
 by_cases e : a[k] = b[k]'(by omega)
 ·rw [decide_eq_true e, Bool.not_true, fk_f]
  refine hnx h fun i hi hi' hik => ?_
  by_cases e2 : i = k
  ·subst e2; exact e
  ·exact J i hi hi' (by omega)
 ·rw [decide_eq_false e, Bool.not_false, fk_t]
  refine dec_f fun hab => e ?_
  subst hab; rfl
/-! Sorted jobs. -/
/-! Levels by deadlines. -/
theorem countP_lt {α : Type} {p q : α → Bool} {l : List α} (h : ∀ x ∈ l, p x = true → q x = true) {x : α} (hx : x ∈ l) (hp : p x = false) (hq : q x = true) : l.countP p < l.countP q := by
 induction l with
 | nil => cases hx
 | cons a r ih =>
  simp only [List.countP_cons]
  have hr := fun x hx => h x (List.mem_cons_of_mem _ hx)
  have hle : r.countP p ≤ r.countP q := List.countP_mono_left hr
  rcases List.mem_cons.1 hx with rfl | hx
  ·rw [hp, hq]; simp; omega
  ·have := ih hr hx
   have h2 := h a List.mem_cons_self
   cases hpa : p a with
   | true => rw [h2 hpa]; simp; omega
   | false => simp; omega
theorem levelN_lt {l : List Task} {x : Task} (hx : x ∈ l) (D : Int) : levelN l x.D < levelN l D ↔ D < x.D := by
 unfold levelN
 constructor
 ·intro h
  by_cases c : D < x.D
  ·exact c
  ·have : l.countP (fun y => decide (y.D > D)) ≤ l.countP (fun y => decide (y.D > x.D)) := List.countP_mono_left fun y _ hy => by
    simp only [decide_eq_true_eq] at *; omega
   omega
 ·intro h
  have := countP_lt (p := fun y : Task => decide (y.D > x.D)) (q := fun y => decide (y.D > D)) (l := l) (fun y _ hy => by simp only [decide_eq_true_eq] at *; omega) hx (by simp) (by simpa using h)
  omega
/-- A task of this deadline uses nothing of what is held, and passes. -/
def passD (l : List Task) (h : List Int) (D : Int) : Prop := ∀ r ∈ h, ∀ x ∈ l, usesP x r → D < x.D
theorem maxL_lt {α : Type} {f : α → Nat} {l : List α} {n : Nat} (hn : 0 < n) : maxL f l < n ↔ ∀ x ∈ l, f x < n := by
 constructor
 ·intro h x hx; exact Nat.lt_of_le_of_lt (le_maxL hx) h
 ·intro h
  have : maxL f l ≤ n - 1 := maxL_le.2 fun x hx => by have := h x hx; omega
  omega
theorem passes_iff {l : List Task} {h : List Int} {i : Int} (ha : AllP l) (h0 : 0 ≤ i) (hi : i.toNat < l.length) : heldN l h < ofN l i ↔ passD l h l[i.toNat].D := by
 rw [ofN_lt ha h0 hi]
 have hn : 0 < levelN l l[i.toNat].D := by unfold levelN; omega
 unfold heldN passD
 rw [maxL_lt hn]
 refine forall_congr' fun r => forall_congr' fun hr => ?_
 rw [ceil, if_pos ha, ceilN, maxL_lt hn]
 refine forall_congr' fun x => forall_congr' fun hx => ?_
 by_cases c : usesP x r
 ·rw [if_pos c, levelN_lt hx]; exact ⟨fun h _ => h, fun h => h c⟩
 ·rw [if_neg c]; exact ⟨fun _ h => absurd h c, fun _ => hn⟩
/-! Who runs. -/
def jg (js : List Job) (i : Int) : Job := (js[i.toNat]?).getD ⟨0, 0, 0, 0, 0, false⟩
theorem jg_lt {js : List Job} {i : Int} (h : i.toNat < js.length) : jg js i = js[i.toNat] := by unfold jg; rw [List.getElem?_eq_getElem h]; rfl
theorem fst_cases (js : List Job) (b : Bool) : fst js b = -1 ∨ (0 ≤ fst js b ∧ (fst js b).toNat < js.length) := by
 rcases fst_is js b with ⟨h, _⟩ | ⟨n, h, hn, _⟩
 ·exact .inl h
 ·exact .inr ⟨by omega, by omega⟩
theorem fst_none {js : List Job} {b : Bool} (h : fst js b < 0) : ∀ j ∈ js, j.Began ≠ b := by
 intro j hj
 rcases fst_is js b with ⟨_, h2⟩ | ⟨n, h1, _⟩
 ·obtain ⟨k, hk, rfl⟩ := List.getElem_of_mem hj
  exact h2 k hk hk
 ·omega
theorem fst_first {js : List Job} {b : Bool} (h : 0 ≤ fst js b) (hl : (fst js b).toNat < js.length) : js[(fst js b).toNat].Began = b ∧ ∀ j ∈ js, j.Began = b → ¬ aheadP j js[(fst js b).toNat] := by
 rcases fst_is js b with ⟨h1, _⟩ | ⟨n, h1, hn, _, hb, h3, _⟩
 ·omega
 ·have e : (fst js b).toNat = n := by omega
  subst e
  refine ⟨hb, fun j hj hjb => ?_⟩
  obtain ⟨k, hk, rfl⟩ := List.getElem_of_mem hj
  exact h3 k hk hk hjb
open Classical in
noncomputable def cho (l : List Task) (js : List Job) : Int :=
 if fst js false < 0 then fst js true
 else if 0 ≤ fst js true ∧ ¬ aheadP (jg js (fst js false)) (jg js (fst js true)) then fst js true
 else if fst js true < 0 ∨ heldN l (heldA l js) < ofN l (jg js (fst js false)).Task then fst js false
 else fst js true
theorem heldA_none {l : List Task} {js : List Job} (hp : jobsP l js) (h : ∀ j ∈ js, j.Began ≠ true) : heldA l js = [] := by
 unfold heldA
 rw [List.flatMap_eq_nil_iff]
 intro j hj
 obtain ⟨_, _, _, h4, hb⟩ := hp.2.2.1 j hj
 rw [heldJ_of h4]
 refine held_out (hp.1.1 _ (List.getElem_mem h4)) (.inl ?_)
 rcases hb.2.2.2.2.2.2 with h5 | h5
 ·exact absurd h5 (h j hj)
 ·omega
theorem heldN_none (l : List Task) : heldN l [] = 0 := rfl
/-- What is chosen, by cases. -/
theorem cho_cases {l : List Task} {js : List Job} (hp : jobsP l js) :
  (js = [] ∧ cho l js = -1) ∨ ∃ n, ∃ h : n < js.length, cho l js = (n : Int) ∧
   ((js[n].Began = true ∧ (∀ j ∈ js, j.Began = true → ¬ aheadP j js[n]) ∧ ∀ j ∈ js, j.Began = false → aheadP j js[n] → ∃ f ∈ js, f.Began = false ∧ (∀ j ∈ js, j.Began = false → ¬ aheadP j f) ∧ ∃ hf : f.Task.toNat < l.length, ¬ passD l (heldA l js) l[f.Task.toNat].D) ∨
   (js[n].Began = false ∧ (∀ j ∈ js, j.Began = false → ¬ aheadP j js[n]) ∧ (∀ j ∈ js, j.Began = true → aheadP js[n] j) ∧ ∃ hf : js[n].Task.toNat < l.length, passD l (heldA l js) l[js[n].Task.toNat].D)) := by
 unfold cho
 by_cases c1 : fst js false < 0
 ·rw [if_pos c1]
  by_cases c2 : fst js true < 0
  ·left
   have h1 := fst_none c1
   have h2 := fst_none c2
   refine ⟨List.eq_nil_iff_forall_not_mem.2 fun j hj => ?_, by rcases fst_cases js true with h | h <;> omega⟩
   cases hb : j.Began with
   | true => exact h2 j hj hb
   | false => exact h1 j hj hb
  ·have ht : (fst js true).toNat < js.length := by rcases fst_cases js true with h | h <;> omega
   obtain ⟨h1, h2⟩ := fst_first (by omega) ht
   exact .inr ⟨_, ht, by omega, .inl ⟨h1, h2, fun j hj hb _ => absurd hb (fst_none c1 j hj)⟩⟩
 rw [if_neg c1]
 have hf : (fst js false).toNat < js.length := by rcases fst_cases js false with h | h <;> omega
 obtain ⟨t0, _, _, t3, _⟩ := hp.2.2.1 _ (List.getElem_mem hf)
 obtain ⟨f1, f2⟩ := fst_first (b := false) (by omega) hf
 rw [jg_lt hf]
 right
 by_cases c2 : 0 ≤ fst js true ∧ ¬ aheadP js[(fst js false).toNat] (jg js (fst js true))
 ·rw [if_pos c2]
  have ht : (fst js true).toNat < js.length := by rcases fst_cases js true with h | h <;> omega
  rw [jg_lt ht] at c2
  obtain ⟨h1, h2⟩ := fst_first c2.1 ht
  exact ⟨_, ht, by omega, .inl ⟨h1, h2, fun j hj hb ha => absurd (aheadP_of (f2 j hj hb) ha) c2.2⟩⟩
 rw [if_neg c2]
 by_cases c3 : fst js true < 0 ∨ heldN l (heldA l js) < ofN l js[(fst js false).toNat].Task
 ·rw [if_pos c3]
  refine ⟨_, hf, by omega, .inr ⟨f1, f2, fun j hj hb => ?_, t3, ?_⟩⟩
  ·by_cases c4 : fst js true < 0
   ·exact absurd hb (fst_none c4 j hj)
   ·have ht : (fst js true).toNat < js.length := by rcases fst_cases js true with h | h <;> omega
    obtain ⟨h1, h2⟩ := fst_first (b := true) (by omega) ht
    have h3 : aheadP js[(fst js false).toNat] js[(fst js true).toNat] := by
     by_cases c : aheadP js[(fst js false).toNat] js[(fst js true).toNat]
     ·exact c
     ·exact absurd ⟨by omega, by rw [jg_lt ht]; exact c⟩ c2
    exact aheadP_of' h3 (h2 j hj hb)
  ·rw [← passes_iff hp.1 t0 t3]
   rcases c3 with c3 | c3
   ·rw [heldA_none hp (fst_none c3), heldN_none, ofN_lt hp.1 t0 t3]; unfold levelN; omega
   ·exact c3
 ·rw [if_neg c3]
  have c4 : ¬ fst js true < 0 := fun h => c3 (.inl h)
  have ht : (fst js true).toNat < js.length := by rcases fst_cases js true with h | h <;> omega
  obtain ⟨h1, h2⟩ := fst_first (b := true) (by omega) ht
  refine ⟨_, ht, by omega, .inl ⟨h1, h2, fun j hj hb ha => ⟨_, List.getElem_mem hf, f1, f2, t3, ?_⟩⟩⟩
  rw [← passes_iff hp.1 t0 t3]
  exact fun h => c3 (.inr h)
/-! A tick. -/
def upd (j : Job) : Job := ⟨j.Task, j.At, j.Due, j.Want, j.Had + 1, true⟩
def taskC (l : List Task) (j : Job) : Int := match l[j.Task.toNat]? with | some t => t.C | none => 0
def overB (l : List Task) (j : Job) : Bool := decide (j.Had + 1 ≥ (if taskC l j < j.Want then taskC l j else j.Want))
def zeroJ : Job := ⟨0, 0, 0, 0, 0, false⟩
def tickN (l : List Task) (js : List Job) (n : Nat) (h : n < js.length) : List Job := if overB l js[n] = true then js.eraseIdx n else js.set n (upd js[n])
open Classical in
noncomputable def tick (l : List Task) (js : List Job) : List Job × Job × Bool :=
 if h : jobsP l js ∧ 0 ≤ cho l js ∧ (cho l js).toNat < js.length then (tickN l js (cho l js).toNat h.2.2, upd js[(cho l js).toNat], overB l js[(cho l js).toNat]) else (js, zeroJ, false)
theorem tick_eq {l : List Task} {js : List Job} (hp : jobsP l js) {n : Nat} (hn : n < js.length) (ec : cho l js = (n : Int)) : tick l js = (tickN l js n hn, upd js[n], overB l js[n]) := by
 obtain rfl : n = (cho l js).toNat := by omega
 unfold tick
 rw [dif_pos ⟨hp, by omega, hn⟩]
theorem cho_nat {l : List Task} {js : List Job} (hp : jobsP l js) : cho l js = -1 ∨ ∃ n, ∃ hn : n < js.length, cho l js = (n : Int) := by
 rcases cho_cases hp with ⟨_, h⟩ | ⟨n, hn, h, _⟩
 ·exact .inl h
 ·exact .inr ⟨n, hn, h⟩
theorem had_bound {l : List Task} {js : List Job} (hp : jobsP l js) {j : Job} (hj : j ∈ js) : 0 ≤ j.Had ∧ j.Had < 200 ∧ j.Had < j.Want ∧ j.Had < taskC l j ∧ j.Want ≤ 200 ∧ taskC l j ≤ 200 := by
 obtain ⟨_, _, _, h4, hb⟩ := hp.2.2.1 j hj
 have hc := hp.1.1 _ (List.getElem_mem h4)
 have := hc.1
 unfold ownP at this
 unfold bodyP at hb
 unfold taskC
 rw [List.getElem?_eq_getElem h4]
 simp only
 omega
theorem over_iff {l : List Task} {js : List Job} (hp : jobsP l js) {j : Job} (hj : j ∈ js) : overB l j = (decide (j.Had + 1 = j.Want) || decide (j.Had + 1 = taskC l j)) := by
 have hb := had_bound hp hj
 unfold overB
 by_cases c : taskC l j < j.Want
 ·rw [if_pos c]
  rw [Bool.eq_iff_iff]; simp only [decide_eq_true_eq, Bool.or_eq_true]; omega
 ·rw [if_neg c]
  rw [Bool.eq_iff_iff]; simp only [decide_eq_true_eq, Bool.or_eq_true]; omega
/-- Where what is there behind a tick comes from. -/
theorem mem_tickN {l : List Task} {js : List Job} {n : Nat} {h : n < js.length} {j : Job} (hj : j ∈ tickN l js n h) : (∃ k, ∃ hk : k < js.length, k ≠ n ∧ j = js[k]) ∨ (overB l js[n] = false ∧ j = upd js[n]) := by
 unfold tickN at hj
 split at hj
 ·rename_i ho
  obtain ⟨k, hk, rfl⟩ := List.getElem_of_mem hj
  rw [List.length_eraseIdx, if_pos h] at hk
  rw [List.getElem_eraseIdx]
  split
  ·exact .inl ⟨k, by omega, by omega, rfl⟩
  ·exact .inl ⟨k + 1, by omega, by omega, rfl⟩
 ·rename_i ho
  obtain ⟨k, hk, rfl⟩ := List.getElem_of_mem hj
  rw [List.length_set] at hk
  rw [List.getElem_set]
  split
  ·exact .inr ⟨by simpa using ho, rfl⟩
  ·exact .inl ⟨k, hk, by omega, rfl⟩
theorem jobsP_tickN {l : List Task} {js : List Job} (hp : jobsP l js) (n : Nat) (h : n < js.length) : jobsP l (tickN l js n h) := by
 refine ⟨hp.1, ?_, fun j hj => ?_, ?_⟩
 ·have := hp.2.1
  unfold tickN
  split
  ·rw [List.length_eraseIdx, if_pos h]; omega
  ·rw [List.length_set]; exact this
 ·rcases mem_tickN hj with ⟨k, hk, _, rfl⟩ | ⟨ho, rfl⟩
  ·exact hp.2.2.1 _ (List.getElem_mem hk)
  ·have hov := over_iff hp (List.getElem_mem h)
   have hb := had_bound hp (List.getElem_mem h)
   obtain ⟨t0, t1, t2, t3, tb⟩ := hp.2.2.1 _ (List.getElem_mem h)
   have eC : taskC l js[n] = l[js[n].Task.toNat].C := by unfold taskC; rw [List.getElem?_eq_getElem t3]
   rw [ho] at hov
   simp only [Bool.false_eq, Bool.or_eq_false_iff, decide_eq_false_iff_not] at hov
   refine ⟨t0, t1, t2, t3, ?_⟩
   unfold bodyP at *
   exact ⟨tb.1, tb.2.1, tb.2.2.1, by simp only [upd]; omega, by simp only [upd]; omega, by simp only [upd]; rw [← eC]; omega, .inl rfl⟩
 ·unfold tickN
  split
  ·exact hp.2.2.2.sublist (List.eraseIdx_sublist _ _)
  ·rw [List.pairwise_iff_getElem]
   intro i k hi hk hik
   rw [List.length_set] at hi hk
   have hpw := List.pairwise_iff_getElem.1 hp.2.2.2 i k hi hk hik
   rw [List.getElem_set, List.getElem_set]
   split <;> split
   ·omega
   ·rename_i e _; subst e; exact hpw
   ·rename_i _ e; subst e; exact hpw
   ·exact hpw
theorem jobsP_tick {l : List Task} {js : List Job} (hp : jobsP l js) : jobsP l (tick l js).1 := by
 rcases cho_nat hp with hc | ⟨n, hn, ec⟩
 ·rw [tick, dif_neg (fun h => by omega)]; exact hp
 ·rw [tick_eq hp hn ec]; exact jobsP_tickN hp n hn
/-! What jobs hold, of those that began. -/
/-! Jobs that came to be. -/
theorem jobsP_nil {l : List Task} (ha : AllP l) : jobsP l [] := ⟨ha, Nat.zero_le _, fun j hj => (List.not_mem_nil hj).elim, List.Pairwise.nil⟩
/-! Releases, not too early. -/
def lastsP (l : List Task) (ls : List Int) : Prop := AllP l ∧ ls.length = l.length ∧ ∀ x ∈ ls, -1 ≤ x ∧ x ≤ 4611686018427387903
noncomputable instance (l : List Task) (ls : List Int) : Decidable (lastsP l ls) := Classical.propDecidable _
def argP (l : List Task) (ls : List Int) (i t : Int) : Prop := lastsP l ls ∧ 0 ≤ i ∧ i < (l.length : Int) ∧ 0 ≤ t ∧ t ≤ 4611686018427387703
noncomputable instance (l : List Task) (ls : List Int) (i t : Int) : Decidable (argP l ls i t) := Classical.propDecidable _
def lg (ls : List Int) (i : Int) : Int := (ls[i.toNat]?).getD 0
def tT (l : List Task) (i : Int) : Int := match l[i.toNat]? with | some t => t.T | none => 0
theorem lg_lt {ls : List Int} {i : Int} (h : i.toNat < ls.length) : lg ls i = ls[i.toNat] := by unfold lg; rw [List.getElem?_eq_getElem h]; rfl
theorem tT_lt {l : List Task} {i : Int} (h : i.toNat < l.length) : tT l i = l[i.toNat].T := by unfold tT; rw [List.getElem?_eq_getElem h]
noncomputable def mayV (l : List Task) (ls : List Int) (i t : Int) : Int := if argP l ls i t then (if lg ls i ≠ -1 ∧ t < lg ls i + tT l i then 6 else 0) else 1
theorem argP_idx {l : List Task} {ls : List Int} {i t : Int} (h : argP l ls i t) : i.toNat < l.length ∧ i.toNat < ls.length := by
 have := h.1.2.1; have := h.2.1; have := h.2.2.1; omega
theorem argP_b {l : List Task} {ls : List Int} {i t : Int} (h : argP l ls i t) : -1 ≤ lg ls i ∧ lg ls i ≤ 4611686018427387903 ∧ 1 ≤ tT l i ∧ tT l i ≤ 200 := by
 obtain ⟨h1, h2⟩ := argP_idx h
 rw [lg_lt h2, tT_lt h1]
 have a := h.1.2.2 _ (List.getElem_mem h2)
 have b := (h.1.1.1 _ (List.getElem_mem h1)).1
 unfold ownP at b
 omega
noncomputable def noteL (l : List Task) (ls : List Int) (i t : Int) : List Int := if mayV l ls i t = 0 then ls.set i.toNat t else ls
theorem mayV_arg {l : List Task} {ls : List Int} {i t : Int} (h : mayV l ls i t = 0) : argP l ls i t := by
 by_cases c : argP l ls i t
 ·exact c
 ·unfold mayV at h; rw [if_neg c] at h; omega
theorem lastsP_note {l : List Task} {ls : List Int} (h : lastsP l ls) (i t : Int) : lastsP l (noteL l ls i t) := by
 unfold noteL
 split
 ·rename_i h0
  have hA := mayV_arg h0
  refine ⟨h.1, by rw [List.length_set]; exact h.2.1, fun x hx => ?_⟩
  rcases List.mem_or_eq_of_mem_set hx with hx | hx
  ·exact h.2.2 x hx
  ·subst hx; have := hA.2.2.2; omega
 ·exact h
/-! Asks, one by one. -/
end Go.Proofs.YtldlcdnhdedoeaaGreat
namespace Go.Proofs.YtldlcdnhdedoeaaGreat
open Go Go.VC
/-! ### Tasks -/
/-! ### Levels -/
/-! The document's. -/
def sumI {α : Type} (f : α → Int) : List α → Int
 | [] => 0
 | x :: r => f x + sumI f r
def inM (x : Int) : Prop := -4611686018427387903 ≤ x ∧ x ≤ 4611686018427387903
instance (x : Int) : Decidable (inM x) := by unfold inM; infer_instance
def jobsN (t : Task) (k : Int) : Int := if k < t.D then 0 else (k - t.D) / t.T + 1
def costN (k : Int) (t : Task) : Int := t.C * jobsN t k
def sumB (l : List Task) (k : Int) : Int := sumI (costN k) l
def askP (l : List Task) (k : Int) : Prop := AllP l ∧ 0 ≤ k ∧ k ≤ 4611686018427387903
instance (l : List Task) (k : Int) : Decidable (askP l k) := by unfold askP; infer_instance
/-! ### Patterns -/
def rowP (T : Int) (r : List Int) : Prop := r.length ≤ 1000 ∧ ∀ j (h : j < r.length), 0 ≤ r[j] ∧ r[j] ≤ 4611686018427387903 ∧ (0 < j → r[j - 1] + T ≤ r[j])
def patP (l : List Task) (a : List (List Int)) : Prop := AllP l ∧ a.length = l.length ∧ ∀ i (h : i < a.length) (h2 : i < l.length), rowP l[i].T a[i]
noncomputable instance (l : List Task) (a : List (List Int)) : Decidable (patP l a) := Classical.propDecidable _
theorem patP.rows {l : List Task} {a : List (List Int)} (h : patP l a) : ∀ r ∈ a, r.length ≤ 1000 := by
 intro r hr
 obtain ⟨i, hi, rfl⟩ := List.getElem_of_mem hr
 exact (h.2.2 i hi (by have := h.2.1; omega)).1
def great7 (l : List Task) (a : List (List Int)) : Prop := (∃ r ∈ a, 1100 < r.length) ∨ GreatP l ∨ 20 < a.length
instance (l : List Task) (a : List (List Int)) : Decidable (great7 l a) := by unfold great7; infer_instance
/-! ### Blocking -/
def sharedP (l : List Task) (t res : Int) : Prop := ∃ x ∈ l, x.D ≤ t ∧ usesP x res
instance (l : List Task) (t res : Int) : Decidable (sharedP l t res) := by unfold sharedP; infer_instance
def secN (l : List Task) (t : Int) (s : Sec) : Nat := if sharedP l t s.Res then s.Len.toNat else 0
def taskN (l : List Task) (t : Int) (x : Task) : Nat := if x.D ≤ t then 0 else maxL (secN l t) x.Secs
def blockV (l : List Task) (t : Int) : Nat := maxL (taskN l t) l
theorem RightP.sl {t : Task} (h : RightP t) {s : Sec} (hs : s ∈ t.Secs) : 1 ≤ s.Len ∧ s.Len ≤ 200 := by
 have h1 := h.2.1 s hs
 have h2 := h.c
 unfold secP at h1
 omega
/-! Where it may change. -/
/-! The least supply. -/
def faceP (f : Face) : Prop := 1 ≤ f.B ∧ f.B ≤ f.P ∧ f.P ≤ 200
instance (f : Face) : Decidable (faceP f) := by unfold faceP; infer_instance
def max0 (x : Int) : Int := if x > 0 then x else 0
def supV (f : Face) (t : Int) : Int := if t < f.P - f.B then 0 else ((t - (f.P - f.B)) / f.P) * f.B + max0 (t - 2 * (f.P - f.B) - ((t - (f.P - f.B)) / f.P) * f.P)
/-- One tick more. -/
def worstP (f : Face) (i : Int) : Prop := if i < f.P then i < f.B else i % f.P ≥ f.P - f.B
instance (f : Face) (i : Int) : Decidable (worstP f i) := by unfold worstP; infer_instance
/-! Need. -/
def needV (l : List Task) (t : Int) : Int := sumB l t + (blockV l t : Int)
/-! Cycles. -/
def lcmL (P : Nat) (l : List Task) : Nat := l.foldl (fun c t => Nat.lcm c t.T.toNat) P
def farL (x : Int) (l : List Task) : Int := l.foldl (fun m t => if t.D > m then t.D else m) x
theorem AllP.T {l : List Task} (h : AllP l) {t : Task} (ht : t ∈ l) : 1 ≤ t.T ∧ t.T ≤ 200 ∧ 1 ≤ t.C ∧ t.C ≤ 200 ∧ 1 ≤ t.D ∧ t.D ≤ 200 ∧ t.C ≤ t.D ∧ t.D ≤ t.T := by
 have := (h.1 t ht).1
 unfold ownP at this
 omega
def cyc (l : List Task) (f : Face) : Nat := lcmL f.P.toNat l
def farv (l : List Task) (f : Face) : Int := farL (2 * f.P) l
def okC (l : List Task) (f : Face) : Prop := AllP l ∧ faceP f ∧ (cyc l f : Int) + farv l f ≤ 3000
noncomputable instance (l : List Task) (f : Face) : Decidable (okC l f) := Classical.propDecidable _
noncomputable def errC (l : List Task) (f : Face) : Int := if okC l f then 0 else if AllP l ∧ faceP f then 5 else 1
/-! The first tick for which tasks don't fit. -/
def badB (l : List Task) (f : Face) (t : Nat) : Bool := decide (needV l t > supV f t)
def badV (l : List Task) (f : Face) (e : Nat) : Option Nat := (List.range (e + 1)).find? (badB l f)
def endN (l : List Task) (f : Face) : Nat := ((cyc l f : Int) + farv l f).toNat
/-! What is asked for in a cycle. -/
def askC (c : Int) (t : Task) : Int := t.C * (c / t.T)
def asked (l : List Task) (c : Int) : Int := sumI (askC c) l
def givenC (f : Face) (c : Int) : Int := f.B * (c / f.P)
def fitsF (l : List Task) (f : Face) : Prop := okC l f ∧ asked l (cyc l f) ≤ givenC f (cyc l f) ∧ badV l f (endN l f) = none
noncomputable instance (l : List Task) (f : Face) : Decidable (fitsF l f) := Classical.propDecidable _
/-! From the end on all goes on by cycles. -/
/-! Fewer tasks; more of a budget. -/
theorem AllP.sub {l l' : List Task} (h : AllP l) (hs : l'.Sublist l) : AllP l' := ⟨fun t ht => h.1 t (hs.subset ht), Nat.le_trans hs.length_le h.2⟩
end Go.Proofs.YtldlcdnhdedoeaaGreat
namespace Go.Proofs.YtldlcdnhdedoeaaGreat
open Go Go.VC
/-! A partition's state. -/
def toR (s : PartState) : Ref17State := ⟨s.Tasks, s.Leaves, s.Lasts, s.Jobs, s.Log⟩
theorem law17_As_eq (s : PartState) : law17_As s = some (toR s) := rfl
def stP (s : PartState) : Prop := s.Leaves.length = s.Tasks.length ∧ lastsP s.Tasks s.Lasts ∧ jobsP s.Tasks s.Jobs ∧ s.Log.length ≤ 2000
noncomputable instance (s : PartState) : Decidable (stP s) := Classical.propDecidable _
structure StB (s : PartState) : Prop where
 t : s.Tasks.length ≤ 4611686018427387904
 u : ∀ t ∈ s.Tasks, t.Secs.length ≤ 4611686018427387904
 a : s.Lasts.length ≤ 4611686018427387904
/-! The log. -/
def nt (lg : List Entry) (e : Entry) : List Entry := if lg.length < 2000 then lg ++ [e] else lg
theorem nt_len {lg : List Entry} {e : Entry} (h : lg.length ≤ 2000) : (nt lg e).length ≤ 2000 := by
 unfold nt; split
 ·rw [List.length_append]; simp; omega
 ·exact h
def whenP (t : Int) : Prop := 0 ≤ t ∧ t ≤ 4611686018427387703
instance (t : Int) : Decidable (whenP t) := by unfold whenP; infer_instance
/-! The same. -/
theorem sameAll_eq (l : List Task) (hl : l.length ≤ 4611686018427387904) (hs : ∀ t ∈ l, t.Secs.length ≤ 4611686018427387904) : ref05_SameAll l l = some true := by
 unfold ref05_SameAll
 rw [decide_eq_true rfl, Bool.not_true, fk_f]
 refine lp_up l.length (by unfold FU; omega) (fun _ => True) trivial ?_
 intro nx k hk _ hnx
 rw [lt_nat]
 by_cases h : k < l.length
 ·rw [decide_eq_true h, fk_t, ix_lt h, ix_lt h, bnd_eq (ref05_Same_eq _ _ (hs _ (List.getElem_mem h))), decide_eq_true rfl, Bool.not_true, fk_f, wr_succ k _ h (by omega)]
  exact hnx h trivial
 ·rw [decide_eq_false h, fk_f]
theorem eqI_ent (x y : Entry) : eqI [.i .i64 x.At, .i .i64 x.Kind, .i .i64 x.Task] [.i .i64 y.At, .i .i64 y.Kind, .i .i64 y.Task] = decide (x = y) := by
 cases x; cases y
 simp [eqI]
theorem sameLog_eq (l : List Entry) (hl : l.length ≤ 4611686018427387904) : ref17_SameLog l l = some true := by
 unfold ref17_SameLog
 rw [decide_eq_true rfl, Bool.not_true, fk_f]
 refine lp_up l.length (by unfold FU; omega) (fun _ => True) trivial ?_
 intro nx k hk _ hnx
 rw [lt_nat]
 by_cases h : k < l.length
 ·rw [decide_eq_true h, fk_t, ix_lt h, ix_lt h, eqI_ent, decide_eq_true rfl, Bool.not_true, fk_f, wr_succ k _ h (by omega)]
  exact hnx h trivial
 ·rw [decide_eq_false h, fk_f]
structure SameB (s : Ref17State) : Prop where
 t : s.Tasks.length ≤ 4611686018427387904
 u : ∀ t ∈ s.Tasks, t.Secs.length ≤ 4611686018427387904
 l : s.Leaves.length ≤ 4611686018427387904
 a : s.Lasts.length ≤ 1000
 j : s.Jobs.length ≤ 4611686018427387904
 g : s.Log.length ≤ 4611686018427387904
theorem ref17_Same_eq (s : Ref17State) (h : SameB s) : ref17_Same s s = some true := by
 unfold ref17_Same
 rw [decide_eq_true rfl, Bool.not_true, fk_f]
 refine lp_up s.Leaves.length (by have := h.l; unfold FU; omega) (fun _ => True) trivial ?_
 intro nx k hk _ hnx
 rw [lt_nat]
 by_cases hk' : k < s.Leaves.length
 ·rw [decide_eq_true hk', fk_t, ix_lt hk', ix_lt hk', decide_eq_true rfl, Bool.not_true, fk_f, wr_succ k _ hk' h.l]
  exact hnx hk' trivial
 ·rw [decide_eq_false hk', fk_f, bnd_eq (sameAll_eq _ h.t h.u), fk_t, bnd_eq (sameInts_eq _ h.a), fk_t, bnd_eq (ref14_Same_eq _ _ h.j), decide_eq_true rfl, fk_t, bnd_eq (sameLog_eq _ h.g)]
/-! Too great. -/
def greatS (s : PartState) : Prop := GreatP s.Tasks ∨ 50 < s.Leaves.length ∨ 50 < s.Lasts.length ∨ 50 < s.Jobs.length ∨ 2010 < s.Log.length
noncomputable instance (s : PartState) : Decidable (greatS s) := Classical.propDecidable _
theorem SameB.of {s : PartState} (hb : StB s) (hg : ¬ greatS s) : SameB (toR s) := by
 unfold greatS at hg
 refine ⟨hb.t, hb.u, ?_, ?_, ?_, ?_⟩ <;> simp only [toR] <;> omega
theorem AllP_len {l : List Task} (h : AllP l) : l.length ≤ 8 := h.2
theorem SameB.of_st {s : PartState} (hb : StB s) (hs : stP s) : SameB (toR s) := by
 have h1 := hs.1; have h2 := hs.2.1.2.1; have h3 := hs.2.2.1.2.1; have h4 := hs.2.2.2; have h5 := AllP_len hs.2.1.1
 refine ⟨hb.t, hb.u, ?_, ?_, ?_, ?_⟩ <;> simp only [toR] <;> omega
/-! A release. -/
def relArg (s : PartState) (i w t : Int) : Prop := stP s ∧ 0 ≤ i ∧ i < (s.Tasks.length : Int) ∧ 1 ≤ w ∧ w ≤ 200 ∧ whenP t
noncomputable instance (s : PartState) (i w t : Int) : Decidable (relArg s i w t) := Classical.propDecidable _
def tD (l : List Task) (i : Int) : Int := match l[i.toNat]? with | some t => t.D | none => 0
def newJob (l : List Task) (i w t : Int) : Job := ⟨i, t, t + tD l i, w, 0, false⟩
noncomputable def relV (s : PartState) (i w t : Int) : PartState × Int :=
 if relArg s i w t then
  if (s.Leaves[i.toNat]?).getD false = true then (s, 9)
  else if mayV s.Tasks s.Lasts i t = 0 then
   if s.Jobs.length < 32 then (⟨s.Tasks, s.Leaves, s.Lasts.set i.toNat t, s.Jobs ++ [newJob s.Tasks i w t], nt s.Log ⟨t, 1, i⟩⟩, 0)
   else (⟨s.Tasks, s.Leaves, s.Lasts, s.Jobs, nt s.Log ⟨t, 3, i⟩⟩, 3)
  else (⟨s.Tasks, s.Leaves, s.Lasts, s.Jobs, nt s.Log ⟨t, 2, i⟩⟩, 6)
 else (s, 1)
theorem relArg_arg {s : PartState} {i w t : Int} (h : relArg s i w t) : argP s.Tasks s.Lasts i t := ⟨h.1.2.1, h.2.1, h.2.2.1, h.2.2.2.2.2.1, h.2.2.2.2.2.2⟩
theorem tD_lt {l : List Task} {i : Int} (h : i.toNat < l.length) : tD l i = l[i.toNat].D := by unfold tD; rw [List.getElem?_eq_getElem h]
theorem tD_b {l : List Task} (ha : AllP l) {i : Int} (h : i.toNat < l.length) : 1 ≤ tD l i ∧ tD l i ≤ 200 := by
 rw [tD_lt h]
 have := (ha.1 _ (List.getElem_mem h)).1
 unfold ownP at this
 omega
def atP (ls : List Int) (js : List Job) : Prop := ∀ j ∈ js, j.At ≤ lg ls j.Task
theorem lg_set {ls : List Int} {i t j : Int} (hi : 0 ≤ i) (hj : 0 ≤ j) (hjl : j.toNat < ls.length) : lg (ls.set i.toNat t) j = if i = j then t else lg ls j := by
 unfold lg
 by_cases c : i = j
 ·subst c; rw [List.getElem?_set_self hjl, if_pos rfl]; rfl
 ·rw [List.getElem?_set_ne (by omega), if_neg c]
theorem stP_rel {s : PartState} {i w t : Int} (h : stP s) (hat : atP s.Lasts s.Jobs) : stP (relV s i w t).1 ∧ atP (relV s i w t).1.Lasts (relV s i w t).1.Jobs := by
 unfold relV
 split
 rotate_left
 ·exact ⟨h, hat⟩
 rename_i hA
 split
 ·exact ⟨h, hat⟩
 split
 rotate_left
 ·exact ⟨⟨h.1, h.2.1, h.2.2.1, nt_len h.2.2.2⟩, hat⟩
 rename_i h8
 split
 rotate_left
 ·exact ⟨⟨h.1, h.2.1, h.2.2.1, nt_len h.2.2.2⟩, hat⟩
 rename_i h9
 have hn := lastsP_note h.2.1 i t
 have eN : noteL s.Tasks s.Lasts i t = s.Lasts.set i.toNat t := by unfold noteL; rw [if_pos h8]
 rw [eN] at hn
 have hls := h.2.1.2.1
 have hlt : ∀ j ∈ s.Jobs, j.Task = i → j.At < t := by
  intro j hj e
  have h1 := hat j hj
  have h2 := (h.2.2.1.2.2.1 j hj).2.1
  have hT := argP_b (relArg_arg hA)
  unfold mayV at h8
  rw [if_pos (relArg_arg hA)] at h8
  by_cases c : lg s.Lasts i ≠ -1 ∧ t < lg s.Lasts i + tT s.Tasks i
  ·rw [if_pos c] at h8; omega
  rw [e] at h1
  omega
 have hAt : atP (s.Lasts.set i.toNat t) (s.Jobs ++ [newJob s.Tasks i w t]) := by
  intro j hj
  have h2 := hA.2.1
  have h3 := hA.2.2.1
  rcases List.mem_append.1 hj with hj | hj
  ·obtain ⟨t0, _, _, t3, _⟩ := h.2.2.1.2.2.1 j hj
   rw [lg_set h2 t0 (by omega)]
   split
   ·have := hlt j hj (by omega); omega
   ·exact hat j hj
  ·obtain rfl := List.mem_singleton.1 hj
   show t ≤ lg (s.Lasts.set i.toNat t) i
   rw [lg_set h2 h2 (by omega), if_pos rfl]; exact Int.le_refl _
 refine ⟨⟨h.1, hn, ?_, nt_len h.2.2.2⟩, hAt⟩
 obtain ⟨p1, p2, p3, p4⟩ := h.2.2.1
 have hi : i.toNat < s.Tasks.length := by have := hA.2.1; have := hA.2.2.1; omega
 have hC := (p1.1 _ (List.getElem_mem hi)).1
 unfold ownP at hC
 have hD := tD_b p1 hi
 have hw := hA.2.2.2.2.2
 unfold whenP at hw
 refine ⟨p1, by rw [List.length_append]; simp; omega, ?_, ?_⟩
 ·intro j hj
  rcases List.mem_append.1 hj with hj | hj
  ·exact p3 j hj
  ·obtain rfl := List.mem_singleton.1 hj
   refine ⟨hA.2.1, hw.1, hw.2, hi, ?_⟩
   unfold newJob bodyP
   rw [tD_lt hi]
   have hw1 := hA.2.2.2.1
   have hw2 := hA.2.2.2.2.1
   refine ⟨rfl, hw1, hw2, Int.le_refl _, by show (0 : Int) < w; omega, ?_, .inr rfl⟩
   show (0 : Int) < s.Tasks[i.toNat].C
   omega
 ·refine List.pairwise_append.2 ⟨p4, List.pairwise_singleton _ _, fun a ha b hb => ?_⟩
  obtain rfl := List.mem_singleton.1 hb
  intro ⟨e1, e2⟩
  have := hlt a ha e1
  have e3 : a.At = t := e2
  omega
/-! A tick. -/
def missJ (t : Int) (js : List Job) : List Job := js.filter (fun j => decide (t < j.Due))
def missG (t : Int) : List Job → List Entry → List Entry
 | [], lg => lg
 | j :: r, lg => missG t r (if t < j.Due then lg else nt lg ⟨t, 6, j.Task⟩)
theorem missG_len (t : Int) : ∀ (l : List Job) {lg : List Entry}, lg.length ≤ 2000 → (missG t l lg).length ≤ 2000
 | [], lg, h => h
 | a :: r, lg, h => by
  unfold missG
  refine missG_len t r ?_
  split
  ·exact h
  ·exact nt_len h
theorem jobsP_sub {l : List Task} {js js' : List Job} (h : jobsP l js) (hs : js'.Sublist js) : jobsP l js' :=
 ⟨h.1, Nat.le_trans hs.length_le h.2.1, fun j hj => h.2.2.1 j (hs.subset hj), h.2.2.2.sublist hs⟩
theorem jobsP_miss {l : List Task} {js : List Job} (t : Int) (h : jobsP l js) : jobsP l (missJ t js) := jobsP_sub h (List.filter_sublist)
noncomputable def runV (l : List Task) (js : List Job) (lg : List Entry) (g : Bool) (t : Int) : List Job × List Entry × Int :=
 if g = true ∧ 0 < js.length then ((tick l js).1, (if (tick l js).2.2 = true then nt lg ⟨t, (if taskC l (tick l js).2.1 < (tick l js).2.1.Want then 5 else 4), (tick l js).2.1.Task⟩ else lg), (tick l js).2.1.Task) else (js, lg, -1)
def keepB {α : Type} : List Bool → List α → List α
 | b :: bs, x :: xs => if b = true then keepB bs xs else x :: keepB bs xs
 | _, _ => []
theorem keepB_nil {α : Type} (l : List α) : keepB [] l = [] := by cases l <;> rfl
theorem keepB_len {α : Type} : ∀ (b : List Bool) (l : List α), (keepB b l).length ≤ l.length
 | [], l => by rw [keepB_nil]; exact Nat.zero_le _
 | _ :: _, [] => Nat.le_refl _
 | b :: bs, x :: xs => by
  have := keepB_len bs xs
  simp only [keepB]
  split
  ·simp only [List.length_cons]; omega
  ·simp only [List.length_cons]; omega
theorem keepB_sub {α : Type} : ∀ (b : List Bool) (l : List α), (keepB b l).Sublist l
 | [], l => by rw [keepB_nil]; exact List.nil_sublist _
 | _ :: _, [] => List.Sublist.refl _
 | b :: bs, x :: xs => by
  have := keepB_sub bs xs
  simp only [keepB]
  split
  ·exact this.cons _
  ·exact this.cons_cons _
theorem keepB_len_eq {α β : Type} : ∀ (b : List Bool) (l : List α) (m : List β), l.length = m.length → (keepB b l).length = (keepB b m).length
 | [], l, m, _ => by rw [keepB_nil, keepB_nil]; rfl
 | _ :: _, [], [], _ => rfl
 | _ :: _, [], _ :: _, h => by simp at h
 | _ :: _, _ :: _, [], h => by simp at h
 | b :: bs, x :: xs, y :: ys, h => by
  have := keepB_len_eq bs xs ys (by simpa using h)
  simp only [keepB]
  split
  ·exact this
  ·simp only [List.length_cons]; omega
def leftG (b : List Bool) (t : Int) : Nat → List Entry → List Entry
 | 0, lg => lg
 | n + 1, lg => leftG b t n (if (b[n]?).getD false = true then nt lg ⟨t, 7, (n : Int)⟩ else lg)
theorem leftG_len (b : List Bool) (t : Int) : ∀ (n : Nat) {lg : List Entry}, lg.length ≤ 2000 → (leftG b t n lg).length ≤ 2000
 | 0, lg, h => h
 | n + 1, lg, h => by
  unfold leftG
  refine leftG_len b t n ?_
  split
  ·exact nt_len h
  ·exact h
noncomputable def tickR (s : PartState) (g : Bool) (t : Int) : List Job × List Entry × Int := runV s.Tasks (missJ t s.Jobs) (missG t s.Jobs s.Log) g t
noncomputable def tickV (s : PartState) (g : Bool) (t : Int) : PartState × Int :=
 if (tickR s g t).1.length = 0 then (⟨keepB s.Leaves s.Tasks, keepB s.Leaves s.Leaves, keepB s.Leaves s.Lasts, (tickR s g t).1, leftG s.Leaves t s.Tasks.length (tickR s g t).2.1⟩, (tickR s g t).2.2)
 else (⟨s.Tasks, s.Leaves, s.Lasts, (tickR s g t).1, (tickR s g t).2.1⟩, (tickR s g t).2.2)
theorem jn_to {σ R : Type} {Y : σ → Option R} {X : (σ → Option R) → Option R} {r : Option R} (v : σ) (hX : ∀ k, X k = k v) (hY : Y v = r) : jn Y X = r := by
 rw [jn_eq, hX]; exact hY
/-! How long what comes out is. -/
theorem nt_le (lg : List Entry) (e : Entry) : (nt lg e).length ≤ lg.length + 1 := by
 unfold nt; split
 ·rw [List.length_append]; exact Nat.le_refl _
 ·omega
theorem SameB.rel {s : PartState} {i w t : Int} (hb : StB s) (hg : ¬ greatS s) : SameB (toR (relV s i w t).1) := by
 have h0 := SameB.of hb hg
 unfold greatS at hg
 unfold relV
 split
 rotate_left
 ·exact h0
 split
 ·exact h0
 split
 rotate_left
 ·have := nt_le s.Log ⟨t, 2, i⟩
  exact ⟨h0.t, h0.u, h0.l, h0.a, h0.j, by show (nt s.Log ⟨t, 2, i⟩).length ≤ _; omega⟩
 split
 rotate_left
 ·have := nt_le s.Log ⟨t, 3, i⟩
  exact ⟨h0.t, h0.u, h0.l, h0.a, h0.j, by show (nt s.Log ⟨t, 3, i⟩).length ≤ _; omega⟩
 have := nt_le s.Log ⟨t, 1, i⟩
 refine ⟨h0.t, h0.u, h0.l, ?_, ?_, by show (nt s.Log ⟨t, 1, i⟩).length ≤ _; omega⟩
 ·show (s.Lasts.set i.toNat t).length ≤ _
  rw [List.length_set]; omega
 ·show (s.Jobs ++ [newJob s.Tasks i w t]).length ≤ _
  rw [List.length_append]; simp; omega
theorem tick_sub {l : List Task} {js : List Job} : (tick l js).1.length ≤ js.length := by
 unfold tick
 split
 ·rename_i h
  show (tickN l js (cho l js).toNat h.2.2).length ≤ _
  unfold tickN
  split
  ·rw [List.length_eraseIdx]; split <;> omega
  ·rw [List.length_set]; omega
 ·exact Nat.le_refl _
theorem SameB.tick {s : PartState} {g : Bool} {t : Int} (hb : StB s) (h1 : stP s) : SameB (toR (tickV s g t).1) := by
 have h0 := SameB.of_st hb h1
 have hG := h1.2.2.2
 have hT8 := AllP_len h1.2.1.1
 have hj : (tickR s g t).1.length ≤ 32 := by
  have hm := (jobsP_miss t h1.2.2.1).2.1
  have := tick_sub (l := s.Tasks) (js := missJ t s.Jobs)
  unfold tickR runV
  split <;> simp only <;> omega
 have hl : (tickR s g t).2.1.length ≤ 2000 := by
  have hm := missG_len t s.Jobs hG
  unfold tickR runV
  split
  ·simp only
   split
   ·exact nt_len hm
   ·exact hm
  ·exact hm
 unfold tickV
 split
 ·have k1 := keepB_len s.Leaves s.Tasks
  have k2 := keepB_len s.Leaves s.Leaves
  have k3 := keepB_len s.Leaves s.Lasts
  have hL := h1.1
  have hA := h1.2.1.2.1
  have k4 := leftG_len s.Leaves t s.Tasks.length hl
  refine ⟨?_, fun x hx => hb.u x ((keepB_sub _ _).subset hx), ?_, ?_, ?_, ?_⟩ <;> simp only [toR] <;> omega
 ·refine ⟨h0.t, h0.u, h0.l, h0.a, ?_, ?_⟩ <;> simp only [toR] <;> omega
/-! Tasks come and go. -/
def plus (s : PartState) (x : Task) : PartState := ⟨s.Tasks ++ [x], s.Leaves ++ [false], s.Lasts ++ [-1], s.Jobs, s.Log⟩
noncomputable def addV (s : PartState) (x : Task) : PartState × Int := if stP s ∧ RightP x then (if s.Tasks.length < 8 then (plus s x, 0) else (s, 3)) else (s, 1)
noncomputable def leaveV (s : PartState) (i : Int) : PartState × Int := if stP s ∧ 0 ≤ i ∧ i < (s.Tasks.length : Int) then (if (s.Leaves[i.toNat]?).getD false = true then (s, 9) else (⟨s.Tasks, s.Leaves.set i.toNat true, s.Lasts, s.Jobs, s.Log⟩, 0)) else (s, 1)
/-! A new one. -/
def new0 (l : List Task) : PartState := ⟨l, List.replicate l.length false, List.replicate l.length (-1), [], []⟩
theorem stP_new {l : List Task} (h : AllP l) : stP (new0 l) :=
 ⟨by simp [new0], ⟨h, by simp [new0], fun x hx => by have := List.eq_of_mem_replicate hx; omega⟩, jobsP_nil h, by simp [new0]⟩
/-! A play. -/
def okS (s : PartState) : Prop := stP s ∧ atP s.Lasts s.Jobs
theorem StB.of_st {s : PartState} (h : stP s) : StB s := by
 have h8 := AllP_len h.2.1.1
 have hA := h.2.1.2.1
 exact ⟨by omega, fun t ht => h.2.1.1.slen ht, by omega⟩
theorem okS_new {l : List Task} (h : AllP l) : okS (new0 l) := ⟨stP_new h, fun j hj => (List.not_mem_nil hj).elim⟩
theorem okS_leave {s : PartState} {i : Int} (h : okS s) : okS (leaveV s i).1 := by
 unfold leaveV
 split
 ·split
  ·exact h
  ·exact ⟨⟨by show (s.Leaves.set _ _).length = _; rw [List.length_set]; exact h.1.1, h.1.2⟩, h.2⟩
 ·exact h
theorem okS_add {s : PartState} {x : Task} (h : okS s) : okS (addV s x).1 := by
 unfold addV
 split
 rotate_left
 ·exact h
 rename_i hx
 split
 rotate_left
 ·exact h
 rename_i h8
 obtain ⟨⟨h1, ⟨ha, h2, h3⟩, ⟨_, h4, h5, h6⟩, h7⟩, hat⟩ := h
 have ha' : AllP (s.Tasks ++ [x]) := ⟨fun t ht => by
  rcases List.mem_append.1 ht with h | h
  ·exact ha.1 t h
  ·rw [List.mem_singleton.1 h]; exact hx.2, by simp; omega⟩
 refine ⟨⟨by show (s.Leaves ++ [false]).length = (s.Tasks ++ [x]).length; simp; omega, ⟨ha', by show (s.Lasts ++ [-1]).length = (s.Tasks ++ [x]).length; simp; omega, fun y hy => ?_⟩, ⟨ha', h4, fun j hj => ?_, h6⟩, h7⟩, fun j hj => ?_⟩
 ·rcases List.mem_append.1 hy with h | h
  ·exact h3 y h
  ·rw [List.mem_singleton.1 h]; omega
 ·obtain ⟨t0, t1, t2, t3, tb⟩ := h5 j hj
  refine ⟨t0, t1, t2, by show _ < (s.Tasks ++ [x]).length; simp; omega, ?_⟩
  have e : (s.Tasks ++ [x])[j.Task.toNat]'(by simp; omega) = s.Tasks[j.Task.toNat] := List.getElem_append_left t3
  show bodyP ((s.Tasks ++ [x])[j.Task.toNat]'(by simp; omega)) j
  rw [e]; exact tb
 ·have hj' := hat j hj
  obtain ⟨t0, _, _, t3, _⟩ := h5 j hj
  have e : lg (s.Lasts ++ [-1]) j.Task = lg s.Lasts j.Task := by unfold lg; rw [List.getElem?_append_left (by omega)]
  show j.At ≤ lg (s.Lasts ++ [-1]) j.Task
  rw [e]; exact hj'
/-! The log only grows, by entries of now. -/
def Ext (t : Int) (a b : List Entry) : Prop := ∃ e, b = a ++ e ∧ ∀ x ∈ e, x.At = t
theorem Ext.rfl {t : Int} {a : List Entry} : Ext t a a := ⟨[], (List.append_nil a).symm, fun x hx => (List.not_mem_nil hx).elim⟩
theorem Ext.trans {t : Int} {a b c : List Entry} (h : Ext t a b) (k : Ext t b c) : Ext t a c := by
 obtain ⟨e, rfl, h⟩ := h
 obtain ⟨f, rfl, k⟩ := k
 exact ⟨e ++ f, List.append_assoc _ _ _, fun x hx => (List.mem_append.1 hx).elim (h x) (k x)⟩
theorem Ext.nt {t : Int} {a : List Entry} {k i : Int} : Ext t a (nt a ⟨t, k, i⟩) := by
 unfold Go.Proofs.YtldlcdnhdedoeaaGreat.nt
 split
 ·exact ⟨_, Eq.refl _, fun x hx => by rw [List.mem_singleton.1 hx]⟩
 ·exact Ext.rfl
theorem Ext.miss {t : Int} : ∀ (js : List Job) {a : List Entry}, Ext t a (missG t js a)
 | [], a => Ext.rfl
 | j :: r, a => by
  unfold missG
  refine Ext.trans ?_ (Ext.miss r)
  split
  ·exact Ext.rfl
  ·exact Ext.nt
theorem Ext.left {t : Int} {b : List Bool} : ∀ (n : Nat) {a : List Entry}, Ext t a (leftG b t n a)
 | 0, a => Ext.rfl
 | n + 1, a => by
  unfold leftG
  refine Ext.trans ?_ (Ext.left n)
  split
  ·exact Ext.nt
  ·exact Ext.rfl
theorem Ext.run {t : Int} {l : List Task} {js : List Job} {g : Bool} {a : List Entry} : Ext t a (runV l js a g t).2.1 := by
 unfold runV
 split
 ·simp only
  split
  ·exact Ext.nt
  ·exact Ext.rfl
 ·exact Ext.rfl
theorem Ext.tick {s : PartState} {g : Bool} {t : Int} : Ext t s.Log (tickV s g t).1.Log := by
 have h : Ext t s.Log (tickR s g t).2.1 := (Ext.miss s.Jobs).trans Ext.run
 unfold tickV
 split
 ·exact h.trans (Ext.left _)
 ·exact h
theorem Ext.rel {s : PartState} {i w t : Int} : Ext t s.Log (relV s i w t).1.Log := by
 unfold relV
 split
 ·split
  ·exact Ext.rfl
  ·split
   ·split
    ·exact Ext.nt
    ·exact Ext.nt
   ·exact Ext.nt
 ·exact Ext.rfl
/-! A tick keeps what is right. -/
theorem tickR_len {s : PartState} {g : Bool} {t : Int} (h1 : stP s) : (tickR s g t).2.1.length ≤ 2000 := by
 have hm := missG_len t s.Jobs h1.2.2.2
 unfold tickR runV
 split
 ·simp only
  split
  ·exact nt_len hm
  ·exact hm
 ·exact hm
theorem tickR_jobs {s : PartState} {g : Bool} {t : Int} (h1 : stP s) : jobsP s.Tasks (tickR s g t).1 := by
 have hm := jobsP_miss t h1.2.2.1
 unfold tickR runV
 split
 ·exact jobsP_tick hm
 ·exact hm
theorem mem_tick {l : List Task} {js : List Job} {j : Job} (h : j ∈ (tick l js).1) : ∃ i ∈ js, i.Task = j.Task ∧ i.At = j.At ∧ i.Due = j.Due ∧ i.Want = j.Want := by
 unfold tick at h
 split at h
 ·rename_i hh
  rcases mem_tickN h with ⟨k, hk, _, rfl⟩ | ⟨_, rfl⟩
  ·exact ⟨_, List.getElem_mem hk, rfl, rfl, rfl, rfl⟩
  ·exact ⟨_, List.getElem_mem hh.2.2, rfl, rfl, rfl, rfl⟩
 ·exact ⟨j, h, rfl, rfl, rfl, rfl⟩
theorem mem_tickR {s : PartState} {g : Bool} {t : Int} {j : Job} (h : j ∈ (tickR s g t).1) : ∃ i ∈ s.Jobs, i.Task = j.Task ∧ i.At = j.At ∧ i.Due = j.Due ∧ i.Want = j.Want ∧ t < i.Due := by
 have key : ∀ i ∈ missJ t s.Jobs, i ∈ s.Jobs ∧ t < i.Due := fun i hi => by
  unfold missJ at hi
  rw [List.mem_filter, decide_eq_true_eq] at hi
  exact hi
 unfold tickR runV at h
 split at h
 ·obtain ⟨i, hi, e1, e2, e3, e4⟩ := mem_tick h
  exact ⟨i, (key i hi).1, e1, e2, e3, e4, (key i hi).2⟩
 ·exact ⟨j, (key j h).1, rfl, rfl, rfl, rfl, (key j h).2⟩
theorem okS_tick {s : PartState} {g : Bool} {t : Int} (h : okS s) : okS (tickV s g t).1 := by
 obtain ⟨h1, hat⟩ := h
 have hj := tickR_jobs (g := g) (t := t) h1
 have hl := tickR_len (g := g) (t := t) h1
 unfold tickV
 split
 ·rename_i h0
  have e0 : (tickR s g t).1 = [] := List.eq_nil_of_length_eq_zero h0
  have ha : AllP (keepB s.Leaves s.Tasks) := ⟨fun x hx => h1.2.1.1.1 x ((keepB_sub _ _).subset hx), Nat.le_trans (keepB_len _ _) h1.2.1.1.2⟩
  refine ⟨⟨keepB_len_eq _ _ _ h1.1, ⟨ha, keepB_len_eq _ _ _ h1.2.1.2.1, fun x hx => h1.2.1.2.2 x ((keepB_sub _ _).subset hx)⟩, ?_, leftG_len _ _ _ hl⟩, ?_⟩
  ·show jobsP (keepB s.Leaves s.Tasks) (tickR s g t).1
   rw [e0]; exact jobsP_nil ha
  ·show atP _ (tickR s g t).1
   rw [e0]; exact fun j hj => (List.not_mem_nil hj).elim
 ·refine ⟨⟨h1.1, h1.2.1, hj, hl⟩, fun j hj => ?_⟩
  obtain ⟨i, hi, e1, e2, _⟩ := mem_tickR hj
  have := hat i hi
  rw [e1, e2] at this
  exact this
/-! The steps. -/
/-! Who is let in. -/
noncomputable def fitE (l : List Task) (f : Face) : Int := if errC l f = 0 ∧ ¬ fitsF l f then 7 else errC l f
theorem fitE_zero {l : List Task} {f : Face} : fitE l f = 0 ↔ fitsF l f := by
 unfold fitE
 constructor
 ·intro h
  refine Classical.byContradiction fun hf => ?_
  by_cases c : errC l f = 0
  ·rw [if_pos ⟨c, hf⟩] at h; omega
  ·rw [if_neg (fun h => c h.1)] at h; exact c h
 ·intro h
  rw [if_neg (fun hh => hh.2 h)]
  unfold errC; rw [if_pos h.1]
def begunP (js : List Job) : Prop := ∃ j ∈ js, j.Began = true
noncomputable instance (js : List Job) : Decidable (begunP js) := Classical.propDecidable _
noncomputable def addE (s : PartState) (f : Face) (x : Task) : Int :=
 if stP s ∧ faceP f ∧ RightP x then (if s.Tasks.length < 8 then (if begunP s.Jobs then 9 else fitE (s.Tasks ++ [x]) f) else 3) else 1
theorem addE_zero {s : PartState} {f : Face} {x : Task} (h : addE s f x = 0) : stP s ∧ RightP x ∧ s.Tasks.length < 8 ∧ ¬ begunP s.Jobs ∧ fitsF (s.Tasks ++ [x]) f := by
 unfold addE at h
 split at h
 rotate_left
 ·omega
 rename_i h1
 split at h
 rotate_left
 ·omega
 rename_i h2
 split at h
 ·omega
 rename_i h3
 exact ⟨h1.1, h1.2.2, h2, h3, fitE_zero.1 h⟩
end Go.Proofs.YtldlcdnhdedoeaaGreat
namespace Go.Proofs.YtldlcdnhdedoeaaGreat
open Go Go.VC
noncomputable def ring_Right (a0 : RingRing) : Option Bool :=
 fk (decide ((a0.Buf.length : Int) > (0 : Int))) (fk (decide (a0.First ≥ (0 : Int))) (fk (decide (a0.First < (a0.Buf.length : Int))) (fk (decide (a0.Many ≥ (0 : Int))) (some (decide (a0.Many ≤ (a0.Buf.length : Int)))) (some false)) (some false)) (some false)) (some false)
theorem ring_Right_w (a0 : RingRing) (r : Bool) (h : ring_Right a0 = some r) : Go.VC.Spec Tryz.prog 95 [.agg (RingRing.enc a0)] (fun y => y = E_Bool r) := by
 refine Go.VC.Spec.of_xc (args := [.agg (RingRing.enc a0)]) (fn := Tryz.f95) tab ⟨[(0, [1]), (1, [1, 3]), (2, [2])], [], [], []⟩ 31 [.tmp 2] rfl rfl rfl rfl rfl rfl ?_
 conv => whnf
 refine lenS a0.Buf (eI .i64) rfl ?_
 conv => whnf
 refine fkS h (fun h => ?_) (fun h => ?_)
 ·conv => whnf
  refine fkS h (fun h => ?_) (fun h => ?_)
  ·conv => whnf
   refine fkS h (fun h => ?_) (fun h => ?_)
   ·conv => whnf
    refine fkS h (fun h => ?_) (fun h => ?_)
    ·conv => whnf
     exact rt (E := E_Bool) h rfl
    conv => whnf
    exact rt (E := E_Bool) h rfl
   conv => whnf
   exact rt (E := E_Bool) h rfl
  conv => whnf
  exact rt (E := E_Bool) h rfl
 conv => whnf
 exact rt (E := E_Bool) h rfl
end Go.Proofs.YtldlcdnhdedoeaaGreat
namespace Go.Proofs.YtldlcdnhdedoeaaGreat
open Go Go.VC
noncomputable def ring_New (a0 : Int) : Option (RingRing × Int) :=
 jn (fun (w1 : Bool) => fk w1 (some (⟨[], (0 : Int), (0 : Int)⟩, (1 : Int))) (ck (decide ((0 : Int) ≤ a0) && decide (a0 * ((8 : Nat) : Int) ≤ 140737488355328) && decide (a0 ≤ 1000000000000)) (some (⟨List.replicate a0.toNat ((0 : Int) : Int), (0 : Int), (0 : Int)⟩, (0 : Int))))) (fun k1 => fk (decide (a0 < (1 : Int))) (k1 true) (k1 (decide (a0 > (4 : Int)))))
theorem ring_New_w (a0 : Int) (r : RingRing × Int) (h : ring_New a0 = some r) : Go.VC.Spec Tryz.prog 70 [.d (.int .i64 a0)] (fun y => y = E_RingRing_Int r) := by
 refine Go.VC.Spec.of_xc (args := [.d (.int .i64 a0)]) (fn := Tryz.f70) tab ⟨[(0, [0, 2]), (1, [0, 2, 9]), (2, [2, 3]), (3, [2, 3])], [], [100009], []⟩ 14 [.cell 2 93, .tmp 3] rfl rfl rfl rfl rfl rfl ?_
 conv => whnf
 refine jnS (fun w1 => ⟨[(0, .l (.d (.int .i64 a0))), (2, .l (.ptr 3 0)), (9, .l (.d (.bool w1)))], 14, [], [(3, [.nil, .d (.int .i64 (0 : Int)), .d (.int .i64 (0 : Int))])], []⟩) h (fun k1 hk1 h => ?_) (fun w1 h => ?_)
 ·conv => whnf
  refine fkS h (fun h => ?_) (fun h => ?_)
  ·conv => whnf
   exact jeS hk1 h (Weak.refl _)
  conv => whnf
  exact jeS hk1 h (Weak.refl _)
 conv => whnf
 refine fkS h (fun h => ?_) (fun h => ?_)
 ·conv => whnf
  exact rt (E := E_RingRing_Int) h rfl
 conv => whnf
 refine mkS ((0 : Int) : Int) (eI .i64) h rfl rfl (fun h => ?_)
 conv => whnf
 exact rt (E := E_RingRing_Int) h rfl
end Go.Proofs.YtldlcdnhdedoeaaGreat
namespace Go.Proofs.YtldlcdnhdedoeaaGreat
open Go Go.VC
noncomputable def ring_at (a0 : RingRing) (a1 : Int) : Option Int :=
 ck (decide ((a0.Buf.length : Int) ≠ 0)) (some ((wr (a0.First + a1)).tmod (a0.Buf.length : Int)))
theorem ring_at_w (a0 : RingRing) (a1 : Int) (r : Int) (h : ring_at a0 a1 = some r) : Go.VC.Spec Tryz.prog 96 [.agg (RingRing.enc a0), .d (.int .i64 a1)] (fun y => y = E_Int r) := by
 refine Go.VC.Spec.of_xc (args := [.agg (RingRing.enc a0), .d (.int .i64 a1)]) (fn := Tryz.f96) tab ⟨[(0, [1, 2]), (1, [4])], [], [], []⟩ 13 [.tmp 4] rfl rfl rfl rfl rfl rfl ?_
 conv => whnf
 refine lenS a0.Buf (eI .i64) rfl ?_
 conv => whnf
 refine dvS h (fun h => ?_)
 conv => whnf
 exact rt (E := E_Int) h rfl
end Go.Proofs.YtldlcdnhdedoeaaGreat
namespace Go.Proofs.YtldlcdnhdedoeaaGreat
open Go Go.VC
noncomputable def ring_Push (a0 : RingRing) (a1 : Int) : Option (RingRing × Int) :=
 bnd (ring_Right a0) fun x1 => fk (!x1) (some (a0, (1 : Int))) (fk (decide (a0.Many = (a0.Buf.length : Int))) (some (a0, (3 : Int))) (ck (decide ((([] : List Int).length + a0.Buf.length) * 8 ≤ 140737488355328)) (bnd (ring_at ⟨([] : List Int) ++ a0.Buf, a0.First, a0.Many⟩ a0.Many) fun x2 => ck (decide (0 ≤ x2) && decide (x2 < ((([] : List Int) ++ a0.Buf).length : Int))) (ox (([] : List Int) ++ a0.Buf) x2.toNat fun x3 => some (⟨(([] : List Int) ++ a0.Buf).set x2.toNat a1, a0.First, (wr (a0.Many + (1 : Int)))⟩, (0 : Int))))))
theorem ring_Push_w (a0 : RingRing) (a1 : Int) (r : RingRing × Int) (h : ring_Push a0 a1 = some r) : Go.VC.Spec Tryz.prog 79 [.agg (RingRing.enc a0), .d (.int .i64 a1)] (fun y => y = E_RingRing_Int r) := by
 refine Go.VC.Spec.of_xc (args := [.agg (RingRing.enc a0), .d (.int .i64 a1)]) (fn := Tryz.f79) tab ⟨[(0, [1, 2, 4]), (1, [1, 2, 4, 6]), (2, [4, 5]), (3, [1, 2, 4, 11]), (4, [4, 5]), (5, [1, 2, 4]), (6, [2, 4]), (7, [2, 4]), (8, [4, 5])], [], [], []⟩ 34 [.cell 4 93, .tmp 5] rfl rfl rfl rfl rfl rfl ?_
 conv => whnf
 refine caS (E := E_Bool) h (ring_Right_w a0) rfl (fun _ => rfl) (fun x1 h => ?_)
 conv => whnf
 refine fkS h (fun h => ?_) (fun h => ?_)
 ·conv => whnf
  exact rt (E := E_RingRing_Int) h rfl
 conv => whnf
 refine lenS a0.Buf (eI .i64) rfl ?_
 conv => whnf
 refine fkS h (fun h => ?_) (fun h => ?_)
 ·conv => whnf
  exact rt (E := E_RingRing_Int) h rfl
 conv => whnf
 refine inS (fn := Tryz.f133) tab ⟨[(0, [1, 2]), (1, [1, 2]), (2, [2])], [], [], []⟩ 9 [.cell 2 93] rfl rfl rfl rfl rfl rfl ?_
 conv => whnf
 refine liS ([] : List Int) (eI .i64) rfl rfl ?_
 conv => whnf
 refine apS (enc := (eI .i64)) (l1 := ([] : List Int)) (l2 := a0.Buf) h rfl rfl (fun _ => rfl) (fun h => ?_)
 conv => whnf
 refine ⟨7, ?_⟩
 conv => whnf
 refine daS (E := E_Int) h (ring_at_w ⟨([] : List Int) ++ a0.Buf, a0.First, a0.Many⟩ a0.Many) (fun _ => rfl) (fun x2 h => ?_)
 conv => whnf
 refine drS (by kernel_rfl) ?_
 conv => whnf
 refine ioS (enc := (eI .i64)) h rfl (fun h => ?_)
 conv => whnf
 refine seS (enc := (eI .i64)) h rfl (fun x3 => a1) (fun _ => rfl) (fun x3 h => ?_)
 conv => whnf
 exact rt (E := E_RingRing_Int) h rfl
end Go.Proofs.YtldlcdnhdedoeaaGreat
namespace Go.Proofs.YtldlcdnhdedoeaaGreat
open Go Go.VC
noncomputable def ring_own (a0 : RingRing) : Option RingRing :=
 ck (decide ((([] : List Int).length + a0.Buf.length) * 8 ≤ 140737488355328)) (some ⟨([] : List Int) ++ a0.Buf, a0.First, a0.Many⟩)
theorem ring_own_w (a0 : RingRing) (r : RingRing) (h : ring_own a0 = some r) : Go.VC.Spec Tryz.prog 133 [.agg (RingRing.enc a0)] (fun y => y = E_RingRing r) := by
 refine Go.VC.Spec.of_xc (args := [.agg (RingRing.enc a0)]) (fn := Tryz.f133) tab ⟨[(0, [1, 2]), (1, [1, 2]), (2, [2])], [], [], []⟩ 9 [.cell 2 93] rfl rfl rfl rfl rfl rfl ?_
 conv => whnf
 refine liS ([] : List Int) (eI .i64) rfl rfl ?_
 conv => whnf
 refine apS (enc := (eI .i64)) (l1 := ([] : List Int)) (l2 := a0.Buf) h rfl rfl (fun _ => rfl) (fun h => ?_)
 conv => whnf
 exact rt (E := E_RingRing) h rfl
end Go.Proofs.YtldlcdnhdedoeaaGreat
namespace Go.Proofs.YtldlcdnhdedoeaaGreat
open Go Go.VC
noncomputable def ring_Pop (a0 : RingRing) : Option (Int × RingRing × Int) :=
 bnd (ring_Right a0) fun x1 => fk (!x1) (some ((0 : Int), a0, (1 : Int))) (fk (decide (a0.Many = (0 : Int))) (some ((0 : Int), a0, (4 : Int))) (bnd (ring_own a0) fun x2 => ix x2.Buf x2.First fun x3 => bnd (ring_at x2 (1 : Int)) fun x4 => some (x3, ⟨x2.Buf, x4, (wr (x2.Many - (1 : Int)))⟩, (0 : Int))))
theorem ring_Pop_w (a0 : RingRing) (r : Int × RingRing × Int) (h : ring_Pop a0 = some r) : Go.VC.Spec Tryz.prog 81 [.agg (RingRing.enc a0)] (fun y => y = E_Int_RingRing_Int r) := by
 refine Go.VC.Spec.of_xc (args := [.agg (RingRing.enc a0)]) (fn := Tryz.f81) tab ⟨[(0, [1, 3]), (1, [1, 3, 6]), (2, [2, 3, 4]), (3, [1, 3, 11]), (4, [2, 3, 4]), (5, [1, 3]), (6, [1, 3, 5]), (7, [1, 3, 5]), (8, [1, 3, 5]), (9, [2, 3, 4])], [], [], []⟩ 33 [.tmp 2, .cell 3 93, .tmp 4] rfl rfl rfl rfl rfl rfl ?_
 conv => whnf
 refine caS (E := E_Bool) h (ring_Right_w a0) rfl (fun _ => rfl) (fun x1 h => ?_)
 conv => whnf
 refine fkS h (fun h => ?_) (fun h => ?_)
 ·conv => whnf
  refine ⟨2, ?_⟩
  conv => whnf
  refine drS (by kernel_rfl) ?_
  conv => whnf
  exact rt (E := E_Int_RingRing_Int) h rfl
 conv => whnf
 refine fkS h (fun h => ?_) (fun h => ?_)
 ·conv => whnf
  refine ⟨2, ?_⟩
  conv => whnf
  refine drS (by kernel_rfl) ?_
  conv => whnf
  exact rt (E := E_Int_RingRing_Int) h rfl
 conv => whnf
 refine ccS (E := E_RingRing) h (ring_own_w a0) rfl rfl (fun x2 h => ?_)
 conv => whnf
 refine ixS (enc := (eI .i64)) h rfl (fun _ => rfl) (fun x3 h => ?_)
 conv => whnf
 refine caS (E := E_Int) h (ring_at_w x2 (1 : Int)) rfl (fun _ => rfl) (fun x4 h => ?_)
 conv => whnf
 refine ⟨3, ?_⟩
 conv => whnf
 refine drS (by kernel_rfl) ?_
 conv => whnf
 exact rt (E := E_Int_RingRing_Int) h rfl
end Go.Proofs.YtldlcdnhdedoeaaGreat
namespace Go.Proofs.YtldlcdnhdedoeaaGreat
open Go Go.VC
noncomputable def ring_List (a0 : RingRing) : Option (List Int) :=
 bnd (ring_Right a0) fun x1 => fk (!x1) (some []) (lp (fun nx2 (v2 : (List Int) × Int) => fk (decide (v2.2 < a0.Many)) (bnd (ring_at a0 v2.2) fun x3 => ix a0.Buf x3 fun x4 => ck (decide ((v2.1.length + ([x4] : List Int).length) * 8 ≤ 140737488355328)) (nx2 (v2.1 ++ ([x4] : List Int), (wr (v2.2 + (1 : Int)))))) (some v2.1)) FU ([], (0 : Int)))
theorem ring_List_w (a0 : RingRing) (r : List Int) (h : ring_List a0 = some r) : Go.VC.Spec Tryz.prog 38 [.agg (RingRing.enc a0)] (fun y => y = E_ListInt r) := by
 refine Go.VC.Spec.of_xc (args := [.agg (RingRing.enc a0)]) (fn := Tryz.f38) tab ⟨[(0, [1]), (1, [1, 7]), (2, [2]), (3, [1, 3]), (4, [1, 3, 9, 10]), (5, [1, 3, 9, 10, 11]), (6, [1, 3, 4, 9, 10]), (7, [1, 3, 9, 10]), (8, [1, 3, 9, 10]), (9, [2])], [], [], []⟩ 25 [.tmp 2] rfl rfl rfl rfl rfl rfl ?_
 conv => whnf
 refine caS (E := E_Bool) h (ring_Right_w a0) rfl (fun _ => rfl) (fun x1 h => ?_)
 conv => whnf
 refine fkS h (fun h => ?_) (fun h => ?_)
 ·conv => whnf
  exact rt (E := E_ListInt) h rfl
 conv => whnf
 refine lpS (fun v2 => ⟨[(1, .l (.ptr 2 0)), (3, .l (.own 4)), (9, .l (.d (.int .i64 a0.Many))), (10, .l (.d (.int .i64 v2.2)))], 25, [], [(2, [.d (.sl (a0.Buf.map (eI .i64))), .d (.int .i64 a0.First), .d (.int .i64 a0.Many)])], [(4, 3, 1, v2.1.map (eI .i64))]⟩) h (Weak.trans (Weak.nilO _ 3 4 3 1 rfl) (Weak.refl _)) (fun _ nx2 hn2 v2 h => ?_)
 conv => whnf
 refine fkS h (fun h => ?_) (fun h => ?_)
 ·conv => whnf
  refine ⟨9, ?_⟩
  conv => whnf
  refine daS (E := E_Int) h (ring_at_w a0 v2.2) (fun _ => rfl) (fun x3 h => ?_)
  conv => whnf
  refine ixS (enc := (eI .i64)) h rfl (fun _ => rfl) (fun x4 h => ?_)
  conv => whnf
  refine liS ([x4] : List Int) (eI .i64) rfl rfl ?_
  conv => whnf
  refine drS (by kernel_rfl) ?_
  conv => whnf
  refine apS (enc := (eI .i64)) (l1 := v2.1) (l2 := ([x4] : List Int)) h rfl rfl (fun _ => rfl) (fun h => ?_)
  conv => whnf
  exact leS hn2 h (Weak.refl _)
 conv => whnf
 exact rt (E := E_ListInt) h rfl
end Go.Proofs.YtldlcdnhdedoeaaGreat
namespace Go.Proofs.YtldlcdnhdedoeaaGreat
open Go Go.VC
noncomputable def ring_Put (a0 : RingRing) (a1 : Int) : Option RingRing :=
 bnd (ring_Push a0 a1) fun x1 => fk (!decide (x1.2 = (3 : Int))) (some x1.1) (bnd (ring_Pop a0) fun x2 => bnd (ring_Push x2.2.1 a1) fun x3 => some x3.1)
theorem ring_Put_w (a0 : RingRing) (a1 : Int) (r : RingRing) (h : ring_Put a0 a1 = some r) : Go.VC.Spec Tryz.prog 94 [.agg (RingRing.enc a0), .d (.int .i64 a1)] (fun y => y = E_RingRing r) := by
 refine Go.VC.Spec.of_xc (args := [.agg (RingRing.enc a0), .d (.int .i64 a1)]) (fn := Tryz.f94) tab ⟨[(0, [1, 2, 4]), (1, [1, 2, 4, 5, 6]), (2, [1, 2, 4, 5, 16]), (3, [4]), (4, [1, 2, 4]), (5, [4, 7]), (6, [4])], [], [], []⟩ 31 [.cell 4 93] rfl rfl rfl rfl rfl rfl ?_
 conv => whnf
 refine ccS (E := E_RingRing_Int) h (ring_Push_w a0 a1) rfl rfl (fun x1 h => ?_)
 conv => whnf
 refine fkS h (fun h => ?_) (fun h => ?_)
 ·conv => whnf
  exact rt (E := E_RingRing) h rfl
 conv => whnf
 refine ccS (E := E_Int_RingRing_Int) h (ring_Pop_w a0) rfl rfl (fun x2 h => ?_)
 conv => whnf
 refine ccS (E := E_RingRing_Int) h (ring_Push_w x2.2.1 a1) rfl rfl (fun x3 h => ?_)
 conv => whnf
 exact rt (E := E_RingRing) h rfl
end Go.Proofs.YtldlcdnhdedoeaaGreat
namespace Go.Proofs.YtldlcdnhdedoeaaGreat
open Go Go.VC
/-! Rings. -/
def ringP (r : RingRing) : Prop := 0 < r.Buf.length ∧ r.Buf.length ≤ 4 ∧ 0 ≤ r.First ∧ r.First < (r.Buf.length : Int) ∧ 0 ≤ r.Many ∧ r.Many ≤ (r.Buf.length : Int)
theorem ring_Right_eq (r : RingRing) (h4 : r.Buf.length ≤ 4) : ring_Right r = some (decide (0 < r.Buf.length ∧ 0 ≤ r.First ∧ r.First < (r.Buf.length : Int) ∧ 0 ≤ r.Many ∧ r.Many ≤ (r.Buf.length : Int))) := by
 unfold ring_Right
 by_cases h1 : 0 < r.Buf.length
 rotate_left
 ·rw [decide_eq_false (by omega), fk_f]; exact dec_f fun h => h1 h.1
 rw [decide_eq_true (by omega), fk_t]
 by_cases h2 : 0 ≤ r.First
 rotate_left
 ·rw [decide_eq_false (by omega), fk_f]; exact dec_f fun h => h2 h.2.1
 rw [decide_eq_true (by omega), fk_t]
 by_cases h3 : r.First < (r.Buf.length : Int)
 rotate_left
 ·rw [decide_eq_false (by omega), fk_f]; exact dec_f fun h => h3 h.2.2.1
 rw [decide_eq_true (by omega), fk_t]
 by_cases h4 : 0 ≤ r.Many
 rotate_left
 ·rw [decide_eq_false (by omega), fk_f]; exact dec_f fun h => h4 h.2.2.2.1
 rw [decide_eq_true (by omega), fk_t]
 exact dec_iff ⟨fun h => ⟨h1, h2, h3, h4, h⟩, fun h => h.2.2.2.2⟩
theorem ring_Right_t {r : RingRing} (h : ringP r) : ring_Right r = some true := by
 rw [ring_Right_eq r h.2.1, decide_eq_true ⟨h.1, h.2.2.1, h.2.2.2.1, h.2.2.2.2.1, h.2.2.2.2.2⟩]
/-- The place of the i-th, and what lies there. -/
def rIx (r : RingRing) (i : Nat) : Nat := (r.First.toNat + i) % r.Buf.length
def rAt (r : RingRing) (i : Nat) : Int := (r.Buf[rIx r i]?).getD 0
def cont (r : RingRing) : List Int := (List.range r.Many.toNat).map (rAt r)
theorem rIx_lt {r : RingRing} (h : ringP r) (i : Nat) : rIx r i < r.Buf.length := Nat.mod_lt _ h.1
theorem rAt_lt {r : RingRing} (h : ringP r) (i : Nat) : rAt r i = r.Buf[rIx r i]'(rIx_lt h i) := by unfold rAt; rw [List.getElem?_eq_getElem (rIx_lt h i)]; rfl
theorem ring_at_eq (r : RingRing) (h : ringP r) (i : Nat) (hi : i ≤ 1000) : ring_at r (i : Int) = some ((rIx r i : Nat) : Int) := by
 have h0 := h.1
 have h4 := h.2.1
 have hF := h.2.2
 unfold ring_at
 rw [ck_t (decide_eq_true (by omega)), wr_in _ (by omega), Int.tmod_eq_emod_of_nonneg (by omega)]
 unfold rIx
 have e : r.First + (i : Int) = ((r.First.toNat + i : Nat) : Int) := by omega
 rw [e]; rfl
theorem ring_List_eq (r : RingRing) (h : ringP r) : ring_List r = some (cont r) := by
 have h4 := h.2.1
 have hM := h.2.2.2.2
 unfold ring_List
 rw [bnd_eq (ring_Right_t h), Bool.not_true, fk_f]
 refine lp_upS r.Many.toNat (by unfold FU; omega) (fun k s => s = (List.range k).map (rAt r)) [] rfl ?_
 rintro nx k s hk rfl hnx
 dsimp only
 have hl : ((List.range k).map (rAt r)).length = k := by simp
 by_cases c : k < r.Many.toNat
 rotate_left
 ·rw [decide_eq_false (by omega), fk_f, show k = r.Many.toNat by omega]; rfl
 rw [decide_eq_true (by omega), fk_t, bnd_eq (ring_at_eq r h k (by omega)), ix_lt (rIx_lt h k), ck_t (by rw [hl]; simp; omega), wr_succ k _ c (by omega)]
 refine hnx _ c ?_
 rw [List.range_succ, List.map_append, List.map_singleton, rAt_lt h]
theorem mod_ne {a b n : Nat} (hab : a < b) (hb : b < a + n) : a % n ≠ b % n := by
 intro e
 have h1 := Nat.sub_mod_eq_zero_of_mod_eq e.symm
 rw [Nat.mod_eq_of_lt (by omega)] at h1
 omega
theorem rIx_inj {r : RingRing} (h : ringP r) {i j : Nat} (hij : i < j) (hj : j < r.Buf.length) : rIx r i ≠ rIx r j := mod_ne (by omega) (by omega)
def pushV (r : RingRing) (v : Int) : RingRing := ⟨r.Buf.set (rIx r r.Many.toNat) v, r.First, r.Many + 1⟩
theorem pushV_ok {r : RingRing} {v : Int} (h : ringP r) (c : r.Many ≠ (r.Buf.length : Int)) : ringP (pushV r v) ∧ (pushV r v).Buf.length = r.Buf.length ∧ cont (pushV r v) = cont r ++ [v] := by
 have h4 := h.2.1
 have hM := h.2.2.2.2
 have hl : (pushV r v).Buf.length = r.Buf.length := by unfold pushV; simp
 have hix : ∀ i, rIx (pushV r v) i = rIx r i := fun i => by unfold rIx; rw [hl]; rfl
 refine ⟨⟨by rw [hl]; exact h.1, by rw [hl]; exact h4, h.2.2.1, by rw [hl]; exact h.2.2.2.1, by show 0 ≤ r.Many + 1; omega, by rw [hl]; show r.Many + 1 ≤ _; omega⟩, hl, ?_⟩
 have e : (pushV r v).Many.toNat = r.Many.toNat + 1 := by show (r.Many + 1).toNat = _; omega
 unfold cont
 rw [e, List.range_succ, List.map_append, List.map_singleton]
 have hlt := rIx_lt h r.Many.toNat
 congr 1
 ·refine List.map_congr_left fun i hi => ?_
  have hi : i < r.Many.toNat := by simpa using hi
  unfold rAt
  rw [hix]
  show ((r.Buf.set (rIx r r.Many.toNat) v)[rIx r i]?).getD 0 = _
  rw [List.getElem?_set_ne (fun c => rIx_inj h hi (by omega) c.symm)]
 ·unfold rAt
  rw [hix]
  show [((r.Buf.set (rIx r r.Many.toNat) v)[rIx r r.Many.toNat]?).getD 0] = _
  rw [List.getElem?_set_self hlt]; rfl
def popV (r : RingRing) : RingRing := ⟨r.Buf, ((rIx r 1 : Nat) : Int), r.Many - 1⟩
theorem popV_ok {r : RingRing} (h : ringP r) (c : r.Many ≠ 0) : ringP (popV r) ∧ (popV r).Buf.length = r.Buf.length ∧ cont r = rAt r 0 :: cont (popV r) ∧ (popV r).Many.toNat + 1 = r.Many.toNat := by
 have h4 := h.2.1
 have hM := h.2.2.2.2
 have hF := h.2.2
 have hlt := rIx_lt h 1
 have e : r.Many.toNat = (popV r).Many.toNat + 1 := by show _ = (r.Many - 1).toNat + 1; omega
 refine ⟨⟨h.1, h4, by show (0 : Int) ≤ ((rIx r 1 : Nat) : Int); omega, by show ((rIx r 1 : Nat) : Int) < _; show _ < (r.Buf.length : Int); omega, by show 0 ≤ r.Many - 1; omega, by show r.Many - 1 ≤ (r.Buf.length : Int); omega⟩, rfl, ?_, e.symm⟩
 unfold cont
 rw [e, List.range_succ_eq_map, List.map_cons, List.map_map]
 congr 1
 refine List.map_congr_left fun i _ => ?_
 show rAt r (i + 1) = rAt (popV r) i
 unfold rAt
 have : rIx (popV r) i = rIx r (i + 1) := by
  unfold rIx
  show (((rIx r 1 : Nat) : Int).toNat + i) % r.Buf.length = _
  rw [Int.toNat_natCast]
  unfold rIx
  rw [Nat.mod_add_mod, show r.First.toNat + 1 + i = r.First.toNat + (i + 1) by omega]
 rw [this]; rfl
theorem ringP_new {n : Int} (h1 : 1 ≤ n) (h2 : n ≤ 4) : ringP ⟨List.replicate n.toNat 0, 0, 0⟩ ∧ cont ⟨List.replicate n.toNat 0, 0, 0⟩ = [] := by
 refine ⟨⟨?_, ?_, Int.le_refl _, ?_, Int.le_refl _, ?_⟩, rfl⟩ <;> simp <;> omega
theorem cont_len {r : RingRing} (h : ringP r) : (cont r).length = r.Many.toNat ∧ (cont r).length ≤ 4 := by
 have h4 := h.2.1
 have hM := h.2.2.2.2
 unfold cont
 rw [List.length_map, List.length_range]
 exact ⟨rfl, by omega⟩
end Go.Proofs.YtldlcdnhdedoeaaGreat
namespace Go.Proofs.YtldlcdnhdedoeaaGreat
open Go Go.VC
noncomputable def port_may_1 (a0 : Int) : Option Bool :=
 fk (decide (a0 ≥ (0 : Int))) (some (decide (a0 < (4 : Int)))) (some false)
theorem port_may_1_w (a0 : Int) (r : Bool) (h : port_may_1 a0 = some r) : Go.VC.Spec Tryz.prog 123 [.d (.int .i64 a0)] (fun y => y = E_Bool r) := by
 refine Go.VC.Spec.of_xc (args := [.d (.int .i64 a0)]) (fn := Tryz.f123) tab ⟨[(0, [0]), (1, [2])], [], [], []⟩ 9 [.tmp 2] rfl rfl rfl rfl rfl rfl ?_
 conv => whnf
 refine fkS h (fun h => ?_) (fun h => ?_)
 ·conv => whnf
  exact rt (E := E_Bool) h rfl
 conv => whnf
 exact rt (E := E_Bool) h rfl
end Go.Proofs.YtldlcdnhdedoeaaGreat
namespace Go.Proofs.YtldlcdnhdedoeaaGreat
open Go Go.VC
noncomputable def port_may (a0 : Port) : Option Bool :=
 bnd (port_may_1 a0.From) fun x1 => fk x1 (bnd (port_may_1 a0.To) fun x2 => fk x2 (fk (!decide (a0.From = a0.To)) (fk (decide (a0.Cap ≥ (1 : Int))) (some (decide (a0.Cap ≤ (4 : Int)))) (some false)) (some false)) (some false)) (some false)
theorem port_may_w (a0 : Port) (r : Bool) (h : port_may a0 = some r) : Go.VC.Spec Tryz.prog 69 [.agg (Port.enc a0)] (fun y => y = E_Bool r) := by
 refine Go.VC.Spec.of_xc (args := [.agg (Port.enc a0)]) (fn := Tryz.f69) tab ⟨[(0, [1]), (1, [1, 3]), (2, [2])], [], [], []⟩ 31 [.tmp 2] rfl rfl rfl rfl rfl rfl ?_
 conv => whnf
 refine caS (E := E_Bool) h (port_may_1_w a0.From) rfl (fun _ => rfl) (fun x1 h => ?_)
 conv => whnf
 refine fkS h (fun h => ?_) (fun h => ?_)
 ·conv => whnf
  refine caS (E := E_Bool) h (port_may_1_w a0.To) rfl (fun _ => rfl) (fun x2 h => ?_)
  conv => whnf
  refine fkS h (fun h => ?_) (fun h => ?_)
  ·conv => whnf
   refine fkS h (fun h => ?_) (fun h => ?_)
   ·conv => whnf
    refine fkS h (fun h => ?_) (fun h => ?_)
    ·conv => whnf
     exact rt (E := E_Bool) h rfl
    conv => whnf
    exact rt (E := E_Bool) h rfl
   conv => whnf
   exact rt (E := E_Bool) h rfl
  conv => whnf
  exact rt (E := E_Bool) h rfl
 conv => whnf
 exact rt (E := E_Bool) h rfl
end Go.Proofs.YtldlcdnhdedoeaaGreat
namespace Go.Proofs.YtldlcdnhdedoeaaGreat
open Go Go.VC
noncomputable def port_Right (a0 : List PortLine) : Option Bool :=
 lp (fun nx1 (v1 : Int) => fk (decide (v1 < (a0.length : Int))) (ix a0 v1 fun x2 => jn (fun (w3 : Bool) => fk w3 (some false) (nx1 (wr (v1 + (1 : Int))))) (fun k3 => bnd (port_may x2.Port) fun x4 => fk (!x4) (k3 true) (bnd (ring_Right x2.Under) fun x5 => fk (!x5) (k3 true) (bnd (ring_Right x2.Got) fun x6 => fk (!x6) (k3 true) (fk (!decide ((x2.Under.Buf.length : Int) = x2.Port.Cap)) (k3 true) (k3 (!decide ((x2.Got.Buf.length : Int) = x2.Port.Cap)))))))) (some (decide ((a0.length : Int) ≤ (4 : Int))))) FU (0 : Int)
theorem port_Right_w (a0 : List PortLine) (r : Bool) (h : port_Right a0 = some r) : Go.VC.Spec Tryz.prog 63 [.d (.sl (a0.map PortLine.enc))] (fun y => y = E_Bool r) := by
 refine Go.VC.Spec.of_xc (args := [.d (.sl (a0.map PortLine.enc))]) (fn := Tryz.f63) tab ⟨[(0, [0]), (1, [0, 5, 6, 7]), (2, [0, 5, 6, 7, 8]), (3, [0, 4, 5, 6, 7]), (4, [0, 5, 6, 7, 46]), (5, [2]), (6, [0, 5, 6, 7]), (7, [2])], [], [100046], []⟩ 51 [.tmp 2] rfl rfl rfl rfl rfl rfl ?_
 conv => whnf
 refine lenS a0 PortLine.enc rfl ?_
 conv => whnf
 refine lpS (fun v1 => ⟨[(0, .l (.d (.sl (a0.map PortLine.enc)))), (5, .l (.d (.sl (a0.map PortLine.enc)))), (6, .l (.d (.int .i64 (a0.length : Int)))), (7, .l (.d (.int .i64 v1)))], 51, [], [], []⟩) h (Weak.refl _) (fun _ nx1 hn1 v1 h => ?_)
 conv => whnf
 refine fkS h (fun h => ?_) (fun h => ?_)
 ·conv => whnf
  refine ixS (enc := PortLine.enc) h rfl (fun _ => rfl) (fun x2 h => ?_)
  conv => whnf
  refine jnS (fun w3 => ⟨[(0, .l (.d (.sl (a0.map PortLine.enc)))), (5, .l (.d (.sl (a0.map PortLine.enc)))), (6, .l (.d (.int .i64 (a0.length : Int)))), (7, .l (.d (.int .i64 v1))), (46, .l (.d (.bool w3)))], 51, [], [], []⟩) h (fun k3 hk3 h => ?_) (fun w3 h => ?_)
  ·conv => whnf
   refine caS (E := E_Bool) h (port_may_w x2.Port) rfl (fun _ => rfl) (fun x4 h => ?_)
   conv => whnf
   refine fkS h (fun h => ?_) (fun h => ?_)
   ·conv => whnf
    exact jeS hk3 h (Weak.refl _)
   conv => whnf
   refine caS (E := E_Bool) h (ring_Right_w x2.Under) rfl (fun _ => rfl) (fun x5 h => ?_)
   conv => whnf
   refine fkS h (fun h => ?_) (fun h => ?_)
   ·conv => whnf
    exact jeS hk3 h (Weak.refl _)
   conv => whnf
   refine caS (E := E_Bool) h (ring_Right_w x2.Got) rfl (fun _ => rfl) (fun x6 h => ?_)
   conv => whnf
   refine fkS h (fun h => ?_) (fun h => ?_)
   ·conv => whnf
    exact jeS hk3 h (Weak.refl _)
   conv => whnf
   refine lenS x2.Under.Buf (eI .i64) rfl ?_
   conv => whnf
   refine fkS h (fun h => ?_) (fun h => ?_)
   ·conv => whnf
    exact jeS hk3 h (Weak.refl _)
   conv => whnf
   refine lenS x2.Got.Buf (eI .i64) rfl ?_
   conv => whnf
   exact jeS hk3 h (Weak.refl _)
  conv => whnf
  refine fkS h (fun h => ?_) (fun h => ?_)
  ·conv => whnf
   exact rt (E := E_Bool) h rfl
  conv => whnf
  exact leS hn1 h (Weak.refl _)
 conv => whnf
 refine lenS a0 PortLine.enc rfl ?_
 conv => whnf
 exact rt (E := E_Bool) h rfl
end Go.Proofs.YtldlcdnhdedoeaaGreat
namespace Go.Proofs.YtldlcdnhdedoeaaGreat
open Go Go.VC
noncomputable def port_Open (a0 : List Port) : Option ((List PortLine) × Int) :=
 lp (fun nx1 (v1 : (List PortLine) × Int) => fk (decide (v1.2 < (a0.length : Int))) (ix a0 v1.2 fun x2 => bnd (port_may x2) fun x3 => fk (!x3) (some ([], (1 : Int))) (bnd (ring_New x2.Cap) fun x4 => bnd (ring_New x2.Cap) fun x5 => ck (decide ((v1.1.length + ([⟨x2, x4.1, x5.1⟩] : List PortLine).length) * 104 ≤ 140737488355328)) (nx1 (v1.1 ++ ([⟨x2, x4.1, x5.1⟩] : List PortLine), (wr (v1.2 + (1 : Int))))))) (fk (decide ((v1.1.length : Int) > (4 : Int))) (some ([], (1 : Int))) (some (v1.1, (0 : Int))))) FU ([], (0 : Int))
theorem port_Open_w (a0 : List Port) (r : (List PortLine) × Int) (h : port_Open a0 = some r) : Go.VC.Spec Tryz.prog 23 [.d (.sl (a0.map Port.enc))] (fun y => y = E_ListPortLine_Int r) := by
 refine Go.VC.Spec.of_xc (args := [.d (.sl (a0.map Port.enc))]) (fn := Tryz.f23) tab ⟨[(0, [0]), (1, [0, 4]), (2, [4, 11, 12, 13]), (3, [4, 11, 12, 13, 14]), (4, [4, 6, 11, 12, 13]), (5, [4, 6, 11, 12, 13, 19]), (6, [2, 3]), (7, [4, 6, 7, 11, 12, 13]), (8, [4, 6, 7, 9, 11, 12, 13]), (9, [4, 11, 12, 13]), (10, [4, 11, 12, 13]), (11, [4, 42]), (12, [2, 3]), (13, [2, 3])], [], [], []⟩ 44 [.tmp 2, .tmp 3] rfl rfl rfl rfl rfl rfl ?_
 conv => whnf
 refine lenS a0 Port.enc rfl ?_
 conv => whnf
 refine lpS (fun v1 => ⟨[(4, .l (.own 5)), (11, .l (.d (.sl (a0.map Port.enc)))), (12, .l (.d (.int .i64 (a0.length : Int)))), (13, .l (.d (.int .i64 v1.2)))], 44, [], [], [(5, 95, 9, v1.1.map PortLine.enc)]⟩) h (Weak.trans (Weak.nilO _ 4 5 95 9 rfl) (Weak.refl _)) (fun _ nx1 hn1 v1 h => ?_)
 conv => whnf
 refine fkS h (fun h => ?_) (fun h => ?_)
 ·conv => whnf
  refine ixS (enc := Port.enc) h rfl (fun _ => rfl) (fun x2 h => ?_)
  conv => whnf
  refine caS (E := E_Bool) h (port_may_w x2) rfl (fun _ => rfl) (fun x3 h => ?_)
  conv => whnf
  refine fkS h (fun h => ?_) (fun h => ?_)
  ·conv => whnf
   exact rt (E := E_ListPortLine_Int) h rfl
  conv => whnf
  refine ccS (E := E_RingRing_Int) h (ring_New_w x2.Cap) rfl rfl (fun x4 h => ?_)
  conv => whnf
  refine ccS (E := E_RingRing_Int) h (ring_New_w x2.Cap) rfl rfl (fun x5 h => ?_)
  conv => whnf
  refine liS ([⟨x2, x4.1, x5.1⟩] : List PortLine) PortLine.enc rfl rfl ?_
  conv => whnf
  refine apS (enc := PortLine.enc) (l1 := v1.1) (l2 := ([⟨x2, x4.1, x5.1⟩] : List PortLine)) h rfl rfl (fun _ => rfl) (fun h => ?_)
  conv => whnf
  exact leS hn1 h (Weak.refl _)
 conv => whnf
 refine lenS v1.1 PortLine.enc rfl ?_
 conv => whnf
 refine fkS h (fun h => ?_) (fun h => ?_)
 ·conv => whnf
  exact rt (E := E_ListPortLine_Int) h rfl
 conv => whnf
 exact rt (E := E_ListPortLine_Int) h rfl
end Go.Proofs.YtldlcdnhdedoeaaGreat
namespace Go.Proofs.YtldlcdnhdedoeaaGreat
open Go Go.VC
noncomputable def port_with (a0 : List PortLine) (a1 : Int) (a2 : PortLine) : Option (List PortLine) :=
 ck (decide ((([] : List PortLine).length + a0.length) * 104 ≤ 140737488355328)) (ck (decide (0 ≤ a1) && decide (a1 < ((([] : List PortLine) ++ a0).length : Int))) (ox (([] : List PortLine) ++ a0) a1.toNat fun x1 => some ((([] : List PortLine) ++ a0).set a1.toNat a2)))
theorem port_with_w (a0 : List PortLine) (a1 : Int) (a2 : PortLine) (r : List PortLine) (h : port_with a0 a1 a2 = some r) : Go.VC.Spec Tryz.prog 80 [.d (.sl (a0.map PortLine.enc)), .d (.int .i64 a1), .agg (PortLine.enc a2)] (fun y => y = E_ListPortLine r) := by
 refine Go.VC.Spec.of_xc (args := [.d (.sl (a0.map PortLine.enc)), .d (.int .i64 a1), .agg (PortLine.enc a2)]) (fn := Tryz.f80) tab ⟨[(0, [0, 1, 5]), (1, [1, 5, 7]), (2, [7]), (3, [6])], [], [], []⟩ 16 [.tmp 6] rfl rfl rfl rfl rfl rfl ?_
 conv => whnf
 refine liS ([] : List PortLine) PortLine.enc rfl rfl ?_
 conv => whnf
 refine apS (enc := PortLine.enc) (l1 := ([] : List PortLine)) (l2 := a0) h rfl rfl (fun _ => rfl) (fun h => ?_)
 conv => whnf
 refine ioS (enc := PortLine.enc) h rfl (fun h => ?_)
 conv => whnf
 refine seS (enc := PortLine.enc) h rfl (fun x1 => a2) (fun _ => rfl) (fun x1 h => ?_)
 conv => whnf
 exact rt (E := E_ListPortLine) h rfl
end Go.Proofs.YtldlcdnhdedoeaaGreat
namespace Go.Proofs.YtldlcdnhdedoeaaGreat
open Go Go.VC
noncomputable def port_Send (a0 : List PortLine) (a1 : Int) (a2 : Int) (a3 : Int) : Option ((List PortLine) × Int) :=
 bnd (port_Right a0) fun x1 => fk (!x1) (some (a0, (1 : Int))) (jn (fun (w2 : Bool) => fk w2 (some (a0, (4 : Int))) (ix a0 a2 fun x3 => fk (!decide (x3.Port.From = a1)) (some (a0, (7 : Int))) (ix a0 a2 fun x4 => bnd (ring_Push x4.Under a3) fun x5 => fk (!decide (x5.2 = (0 : Int))) (some (a0, x5.2)) (bnd (port_with a0 a2 ⟨x4.Port, x5.1, x4.Got⟩) fun x6 => some (x6, (0 : Int)))))) (fun k2 => fk (decide (a2 < (0 : Int))) (k2 true) (k2 (decide (a2 ≥ (a0.length : Int))))))
theorem port_Send_w (a0 : List PortLine) (a1 : Int) (a2 : Int) (a3 : Int) (r : (List PortLine) × Int) (h : port_Send a0 a1 a2 a3 = some r) : Go.VC.Spec Tryz.prog 29 [.d (.sl (a0.map PortLine.enc)), .d (.int .i64 a1), .d (.int .i64 a2), .d (.int .i64 a3)] (fun y => y = E_ListPortLine_Int r) := by
 refine Go.VC.Spec.of_xc (args := [.d (.sl (a0.map PortLine.enc)), .d (.int .i64 a1), .d (.int .i64 a2), .d (.int .i64 a3)]) (fn := Tryz.f29) tab ⟨[(0, [0, 1, 2, 3]), (1, [0, 1, 2, 3, 13]), (2, [8, 9]), (3, [0, 1, 2, 3, 18]), (4, [8, 9]), (5, [0, 2, 3, 28]), (6, [8, 9]), (7, [0, 2, 3, 10]), (8, [0, 2, 10, 11, 12]), (9, [0, 2, 10, 11, 12, 50]), (10, [8, 9]), (11, [0, 2, 10]), (12, [8, 9])], [], [100018], []⟩ 59 [.tmp 8, .tmp 9] rfl rfl rfl rfl rfl rfl ?_
 conv => whnf
 refine caS (E := E_Bool) h (port_Right_w a0) rfl (fun _ => rfl) (fun x1 h => ?_)
 conv => whnf
 refine fkS h (fun h => ?_) (fun h => ?_)
 ·conv => whnf
  exact rt (E := E_ListPortLine_Int) h rfl
 conv => whnf
 refine jnS (fun w2 => ⟨[(0, .l (.d (.sl (a0.map PortLine.enc)))), (1, .l (.d (.int .i64 a1))), (2, .l (.d (.int .i64 a2))), (3, .l (.d (.int .i64 a3))), (18, .l (.d (.bool w2)))], 59, [], [], []⟩) h (fun k2 hk2 h => ?_) (fun w2 h => ?_)
 ·conv => whnf
  refine fkS h (fun h => ?_) (fun h => ?_)
  ·conv => whnf
   exact jeS hk2 h (Weak.refl _)
  conv => whnf
  refine lenS a0 PortLine.enc rfl ?_
  conv => whnf
  exact jeS hk2 h (Weak.refl _)
 conv => whnf
 refine fkS h (fun h => ?_) (fun h => ?_)
 ·conv => whnf
  exact rt (E := E_ListPortLine_Int) h rfl
 conv => whnf
 refine ixS (enc := PortLine.enc) h rfl (fun _ => rfl) (fun x3 h => ?_)
 conv => whnf
 refine fkS h (fun h => ?_) (fun h => ?_)
 ·conv => whnf
  exact rt (E := E_ListPortLine_Int) h rfl
 conv => whnf
 refine ixS (enc := PortLine.enc) h rfl (fun _ => rfl) (fun x4 h => ?_)
 conv => whnf
 refine ccS (E := E_RingRing_Int) h (ring_Push_w x4.Under a3) rfl rfl (fun x5 h => ?_)
 conv => whnf
 refine fkS h (fun h => ?_) (fun h => ?_)
 ·conv => whnf
  exact rt (E := E_ListPortLine_Int) h rfl
 conv => whnf
 refine ccS (E := E_ListPortLine) h (port_with_w a0 a2 ⟨x4.Port, x5.1, x4.Got⟩) rfl rfl (fun x6 h => ?_)
 conv => whnf
 exact rt (E := E_ListPortLine_Int) h rfl
end Go.Proofs.YtldlcdnhdedoeaaGreat
namespace Go.Proofs.YtldlcdnhdedoeaaGreat
open Go Go.VC
noncomputable def port_Read (a0 : List PortLine) (a1 : Int) (a2 : Int) : Option (Int × (List PortLine) × Int) :=
 bnd (port_Right a0) fun x1 => fk (!x1) (some ((0 : Int), a0, (1 : Int))) (jn (fun (w2 : Bool) => fk w2 (some ((0 : Int), a0, (4 : Int))) (ix a0 a2 fun x3 => fk (!decide (x3.Port.To = a1)) (some ((0 : Int), a0, (7 : Int))) (ix a0 a2 fun x4 => bnd (ring_Pop x4.Got) fun x5 => fk (!decide (x5.2.2 = (0 : Int))) (some ((0 : Int), a0, x5.2.2)) (bnd (port_with a0 a2 ⟨x4.Port, x4.Under, x5.2.1⟩) fun x6 => some (x5.1, x6, (0 : Int)))))) (fun k2 => fk (decide (a2 < (0 : Int))) (k2 true) (k2 (decide (a2 ≥ (a0.length : Int))))))
theorem port_Read_w (a0 : List PortLine) (a1 : Int) (a2 : Int) (r : Int × (List PortLine) × Int) (h : port_Read a0 a1 a2 = some r) : Go.VC.Spec Tryz.prog 30 [.d (.sl (a0.map PortLine.enc)), .d (.int .i64 a1), .d (.int .i64 a2)] (fun y => y = E_Int_ListPortLine_Int r) := by
 refine Go.VC.Spec.of_xc (args := [.d (.sl (a0.map PortLine.enc)), .d (.int .i64 a1), .d (.int .i64 a2)]) (fn := Tryz.f30) tab ⟨[(0, [0, 1, 2]), (1, [0, 1, 2, 13]), (2, [6, 7, 8]), (3, [0, 1, 2, 18]), (4, [6, 7, 8]), (5, [0, 2, 28]), (6, [6, 7, 8]), (7, [0, 2, 9]), (8, [0, 2, 9, 10, 11, 12]), (9, [0, 2, 9, 10, 11, 12, 50]), (10, [6, 7, 8]), (11, [0, 2, 9, 10]), (12, [6, 7, 8])], [], [100018], []⟩ 60 [.tmp 6, .tmp 7, .tmp 8] rfl rfl rfl rfl rfl rfl ?_
 conv => whnf
 refine caS (E := E_Bool) h (port_Right_w a0) rfl (fun _ => rfl) (fun x1 h => ?_)
 conv => whnf
 refine fkS h (fun h => ?_) (fun h => ?_)
 ·conv => whnf
  exact rt (E := E_Int_ListPortLine_Int) h rfl
 conv => whnf
 refine jnS (fun w2 => ⟨[(0, .l (.d (.sl (a0.map PortLine.enc)))), (1, .l (.d (.int .i64 a1))), (2, .l (.d (.int .i64 a2))), (18, .l (.d (.bool w2)))], 60, [], [], []⟩) h (fun k2 hk2 h => ?_) (fun w2 h => ?_)
 ·conv => whnf
  refine fkS h (fun h => ?_) (fun h => ?_)
  ·conv => whnf
   exact jeS hk2 h (Weak.refl _)
  conv => whnf
  refine lenS a0 PortLine.enc rfl ?_
  conv => whnf
  exact jeS hk2 h (Weak.refl _)
 conv => whnf
 refine fkS h (fun h => ?_) (fun h => ?_)
 ·conv => whnf
  exact rt (E := E_Int_ListPortLine_Int) h rfl
 conv => whnf
 refine ixS (enc := PortLine.enc) h rfl (fun _ => rfl) (fun x3 h => ?_)
 conv => whnf
 refine fkS h (fun h => ?_) (fun h => ?_)
 ·conv => whnf
  exact rt (E := E_Int_ListPortLine_Int) h rfl
 conv => whnf
 refine ixS (enc := PortLine.enc) h rfl (fun _ => rfl) (fun x4 h => ?_)
 conv => whnf
 refine ccS (E := E_Int_RingRing_Int) h (ring_Pop_w x4.Got) rfl rfl (fun x5 h => ?_)
 conv => whnf
 refine fkS h (fun h => ?_) (fun h => ?_)
 ·conv => whnf
  exact rt (E := E_Int_ListPortLine_Int) h rfl
 conv => whnf
 refine ccS (E := E_ListPortLine) h (port_with_w a0 a2 ⟨x4.Port, x4.Under, x5.2.1⟩) rfl rfl (fun x6 h => ?_)
 conv => whnf
 exact rt (E := E_Int_ListPortLine_Int) h rfl
end Go.Proofs.YtldlcdnhdedoeaaGreat
namespace Go.Proofs.YtldlcdnhdedoeaaGreat
open Go Go.VC
noncomputable def port_Deliver (a0 : List PortLine) : Option (List PortLine) :=
 bnd (port_Right a0) fun x1 => fk (!x1) (some a0) (lp (fun nx2 (v2 : (List PortLine) × Int) => fk (decide (v2.2 < (a0.length : Int))) (ix a0 v2.2 fun x3 => lp (fun nx4 (v4 : (List Int) × Int × Int × (List Int) × Int × Int × Int) => fk (decide (v4.2.2.2.2.2.2 < x3.Under.Many)) (bnd (ring_Pop ⟨v4.1, v4.2.1, v4.2.2.1⟩) fun x5 => bnd (ring_Put ⟨v4.2.2.2.1, v4.2.2.2.2.1, v4.2.2.2.2.2.1⟩ x5.1) fun x6 => nx4 (x5.2.1.Buf, x5.2.1.First, x5.2.1.Many, x6.Buf, x6.First, x6.Many, (wr (v4.2.2.2.2.2.2 + (1 : Int))))) (bnd (port_with v2.1 v2.2 (⟨x3.Port, ⟨v4.1, v4.2.1, v4.2.2.1⟩, ⟨v4.2.2.2.1, v4.2.2.2.2.1, v4.2.2.2.2.2.1⟩⟩)) fun x7 => nx2 (x7, (wr (v2.2 + (1 : Int)))))) FU (x3.Under.Buf, x3.Under.First, x3.Under.Many, x3.Got.Buf, x3.Got.First, x3.Got.Many, (0 : Int))) (some v2.1)) FU (a0, (0 : Int)))
theorem port_Deliver_w (a0 : List PortLine) (r : List PortLine) (h : port_Deliver a0 = some r) : Go.VC.Spec Tryz.prog 37 [.d (.sl (a0.map PortLine.enc))] (fun y => y = E_ListPortLine r) := by
 refine Go.VC.Spec.of_xc (args := [.d (.sl (a0.map PortLine.enc))]) (fn := Tryz.f37) tab ⟨[(0, [0]), (1, [0, 11]), (2, [2]), (3, [0, 3]), (4, [3, 14, 15, 16]), (5, [3, 14, 15, 16, 17]), (6, [3, 4, 5, 14, 15, 16]), (7, [3, 4, 5, 14, 15, 16, 23, 24]), (8, [3, 4, 5, 14, 15, 16, 23, 24, 25]), (9, [3, 4, 5, 6, 7, 14, 15, 16, 23, 24]), (10, [3, 4, 5, 14, 15, 16, 23, 24]), (11, [3, 4, 5, 14, 15, 16, 23, 24]), (12, [3, 14, 15, 16]), (13, [3, 14, 15, 16]), (14, [2])], [], [], []⟩ 47 [.tmp 2] rfl rfl rfl rfl rfl rfl ?_
 conv => whnf
 refine caS (E := E_Bool) h (port_Right_w a0) rfl (fun _ => rfl) (fun x1 h => ?_)
 conv => whnf
 refine fkS h (fun h => ?_) (fun h => ?_)
 ·conv => whnf
  exact rt (E := E_ListPortLine) h rfl
 conv => whnf
 refine lenS a0 PortLine.enc rfl ?_
 conv => whnf
 refine lpS (fun v2 => ⟨[(3, .l (.d (.sl (v2.1.map PortLine.enc)))), (14, .l (.d (.sl (a0.map PortLine.enc)))), (15, .l (.d (.int .i64 (a0.length : Int)))), (16, .l (.d (.int .i64 v2.2)))], 47, [], [], []⟩) h (Weak.refl _) (fun _ nx2 hn2 v2 h => ?_)
 conv => whnf
 refine fkS h (fun h => ?_) (fun h => ?_)
 ·conv => whnf
  refine ixS (enc := PortLine.enc) h rfl (fun _ => rfl) (fun x3 h => ?_)
  conv => whnf
  refine lpS (fun v4 => ⟨[(3, .l (.d (.sl (v2.1.map PortLine.enc)))), (4, .l (.d (.int .i64 v2.2))), (5, .l (.ptr 6 0)), (14, .l (.d (.sl (a0.map PortLine.enc)))), (15, .l (.d (.int .i64 (a0.length : Int)))), (16, .l (.d (.int .i64 v2.2))), (23, .l (.d (.int .i64 x3.Under.Many))), (24, .l (.d (.int .i64 v4.2.2.2.2.2.2)))], 47, [], [(6, [.d (.int .i64 x3.Port.From), .d (.int .i64 x3.Port.To), .d (.int .i64 x3.Port.Cap), .d (.sl (v4.1.map (eI .i64))), .d (.int .i64 v4.2.1), .d (.int .i64 v4.2.2.1), .d (.sl (v4.2.2.2.1.map (eI .i64))), .d (.int .i64 v4.2.2.2.2.1), .d (.int .i64 v4.2.2.2.2.2.1)])], []⟩) h (Weak.refl _) (fun _ nx4 hn4 v4 h => ?_)
  conv => whnf
  refine fkS h (fun h => ?_) (fun h => ?_)
  ·conv => whnf
   refine ccS (E := E_Int_RingRing_Int) h (ring_Pop_w ⟨v4.1, v4.2.1, v4.2.2.1⟩) rfl rfl (fun x5 h => ?_)
   conv => whnf
   refine ⟨6, ?_⟩
   conv => whnf
   refine dcS (E := E_RingRing) h (ring_Put_w ⟨v4.2.2.2.1, v4.2.2.2.2.1, v4.2.2.2.2.2.1⟩ x5.1) rfl (fun x6 h => ?_)
   conv => whnf
   refine drS (by kernel_rfl) ?_
   conv => whnf
   exact leS hn4 h (Weak.refl _)
  conv => whnf
  refine ccS (E := E_ListPortLine) h (port_with_w v2.1 v2.2 (⟨x3.Port, ⟨v4.1, v4.2.1, v4.2.2.1⟩, ⟨v4.2.2.2.1, v4.2.2.2.2.1, v4.2.2.2.2.2.1⟩⟩)) rfl rfl (fun x7 h => ?_)
  conv => whnf
  exact leS hn2 h (Weak.refl _)
 conv => whnf
 exact rt (E := E_ListPortLine) h rfl
end Go.Proofs.YtldlcdnhdedoeaaGreat
namespace Go.Proofs.YtldlcdnhdedoeaaGreat
open Go Go.VC
/-! Lines. -/
def portP (p : Port) : Prop := 0 ≤ p.From ∧ p.From < 4 ∧ 0 ≤ p.To ∧ p.To < 4 ∧ p.From ≠ p.To ∧ 1 ≤ p.Cap ∧ p.Cap ≤ 4
instance (p : Port) : Decidable (portP p) := by unfold portP; infer_instance
def lineP (x : PortLine) : Prop := portP x.Port ∧ ringP x.Under ∧ ringP x.Got ∧ (x.Under.Buf.length : Int) = x.Port.Cap ∧ (x.Got.Buf.length : Int) = x.Port.Cap
def linesP (l : List PortLine) : Prop := (∀ x ∈ l, lineP x) ∧ l.length ≤ 4
def newL (p : Port) : PortLine := ⟨p, ⟨List.replicate p.Cap.toNat 0, 0, 0⟩, ⟨List.replicate p.Cap.toNat 0, 0, 0⟩⟩
theorem newL_ok {p : Port} (h : portP p) : lineP (newL p) ∧ cont (newL p).Under = [] ∧ cont (newL p).Got = [] := by
 have h6 := h.2.2.2.2.2.1
 have h7 := h.2.2.2.2.2.2
 have hr := ringP_new h6 h7
 refine ⟨⟨h, hr.1, hr.1, ?_, ?_⟩, hr.2, hr.2⟩ <;> (unfold newL; simp; omega)
theorem linesP_new {ps : List Port} (h : ∀ p ∈ ps, portP p) (h4 : ps.length ≤ 4) : linesP (ps.map newL) := ⟨fun x hx => by
 obtain ⟨p, hp, rfl⟩ := List.mem_map.1 hx
 exact (newL_ok (h p hp)).1, by rw [List.length_map]; exact h4⟩
theorem linesP_set {l : List PortLine} (h : linesP l) {i : Nat} {x : PortLine} (hx : lineP x) : linesP (l.set i x) := ⟨fun y hy => by
 rcases List.mem_or_eq_of_mem_set hy with h' | rfl
 ·exact h.1 y h'
 ·exact hx, by rw [List.length_set]; exact h.2⟩
def sendV (l : List PortLine) (f i v : Int) : List PortLine × Int :=
 if 0 ≤ i ∧ i < (l.length : Int) then (match l[i.toNat]? with | some x => if x.Port.From = f then (if x.Under.Many = (x.Under.Buf.length : Int) then (l, 3) else (l.set i.toNat ⟨x.Port, pushV x.Under v, x.Got⟩, 0)) else (l, 7) | none => (l, 4)) else (l, 4)
theorem sendV_ok {l : List PortLine} {f i v : Int} (h : linesP l) : linesP (sendV l f i v).1 ∧ (sendV l f i v).1.length = l.length := by
 unfold sendV
 split
 ·split
  ·rename_i x hx
   obtain ⟨h1, h2, h3, h4, h5⟩ := h.1 x (List.mem_of_getElem? hx)
   split
   ·split
    ·exact ⟨h, rfl⟩
    ·rename_i c
     obtain ⟨p1, p2, p3⟩ := pushV_ok (v := v) h2 c
     exact ⟨linesP_set h ⟨h1, p1, h3, by rw [p2]; exact h4, h5⟩, List.length_set⟩
   ·exact ⟨h, rfl⟩
  ·exact ⟨h, rfl⟩
 ·exact ⟨h, rfl⟩
def readV (l : List PortLine) (f i : Int) : Int × List PortLine × Int :=
 if 0 ≤ i ∧ i < (l.length : Int) then (match l[i.toNat]? with | some x => if x.Port.To = f then (if x.Got.Many = 0 then (0, l, 4) else (rAt x.Got 0, l.set i.toNat ⟨x.Port, x.Under, popV x.Got⟩, 0)) else (0, l, 7) | none => (0, l, 4)) else (0, l, 4)
theorem readV_ok {l : List PortLine} {f i : Int} (h : linesP l) : linesP (readV l f i).2.1 ∧ (readV l f i).2.1.length = l.length := by
 unfold readV
 split
 ·split
  ·rename_i x hx
   obtain ⟨h1, h2, h3, h4, h5⟩ := h.1 x (List.mem_of_getElem? hx)
   split
   ·split
    ·exact ⟨h, rfl⟩
    ·rename_i c
     obtain ⟨p1, p2, _⟩ := popV_ok h3 c
     exact ⟨linesP_set h ⟨h1, h2, p1, h4, by rw [p2]; exact h5⟩, List.length_set⟩
   ·exact ⟨h, rfl⟩
  ·exact ⟨h, rfl⟩
 ·exact ⟨h, rfl⟩
/-- What a line is when what is under way was delivered. -/
def gone (x y : PortLine) : Prop := y.Port = x.Port ∧ cont y.Under = [] ∧ (cont x.Got = [] → cont y.Got = cont x.Under)
end Go.Proofs.YtldlcdnhdedoeaaGreat
namespace Go.Proofs.YtldlcdnhdedoeaaGreat
open Go Go.VC
noncomputable def table_may (a0 : Window) (a1 : Int) : Option Bool :=
 fk (decide (a0.Part ≥ (0 : Int))) (fk (decide (a0.Part < (4 : Int))) (fk (decide (a0.From ≥ (0 : Int))) (fk (decide (a0.From < a1)) (fk (decide (a0.Len ≥ (1 : Int))) (some (decide (a0.Len ≤ (wr (a1 - a0.From))))) (some false)) (some false)) (some false)) (some false)) (some false)
theorem table_may_w (a0 : Window) (a1 : Int) (r : Bool) (h : table_may a0 a1 = some r) : Go.VC.Spec Tryz.prog 122 [.agg (Window.enc a0), .d (.int .i64 a1)] (fun y => y = E_Bool r) := by
 refine Go.VC.Spec.of_xc (args := [.agg (Window.enc a0), .d (.int .i64 a1)]) (fn := Tryz.f122) tab ⟨[(0, [1, 2]), (1, [4])], [], [], []⟩ 38 [.tmp 4] rfl rfl rfl rfl rfl rfl ?_
 conv => whnf
 refine fkS h (fun h => ?_) (fun h => ?_)
 ·conv => whnf
  refine fkS h (fun h => ?_) (fun h => ?_)
  ·conv => whnf
   refine fkS h (fun h => ?_) (fun h => ?_)
   ·conv => whnf
    refine fkS h (fun h => ?_) (fun h => ?_)
    ·conv => whnf
     refine fkS h (fun h => ?_) (fun h => ?_)
     ·conv => whnf
      exact rt (E := E_Bool) h rfl
     conv => whnf
     exact rt (E := E_Bool) h rfl
    conv => whnf
    exact rt (E := E_Bool) h rfl
   conv => whnf
   exact rt (E := E_Bool) h rfl
  conv => whnf
  exact rt (E := E_Bool) h rfl
 conv => whnf
 exact rt (E := E_Bool) h rfl
end Go.Proofs.YtldlcdnhdedoeaaGreat
namespace Go.Proofs.YtldlcdnhdedoeaaGreat
open Go Go.VC
noncomputable def table_Right (a0 : TableTable) : Option Bool :=
 lp (fun nx1 (v1 : Int × Int × Int) => fk (decide (v1.2.2 < (a0.Windows.length : Int))) (ix a0.Windows v1.2.2 fun x2 => jn (fun (w3 : Bool) => fk w3 (some false) (nx1 ((wr (x2.From + x2.Len)), x2.Part, (wr (v1.2.2 + (1 : Int)))))) (fun k3 => bnd (table_may x2 a0.Frame) fun x4 => fk (!x4) (k3 true) (fk (decide (x2.From < v1.1)) (k3 true) (fk (decide (x2.From = v1.1)) (k3 (decide (x2.Part = v1.2.1))) (k3 false))))) (fk (decide (a0.Frame ≥ (1 : Int))) (some (decide (a0.Frame ≤ (240 : Int)))) (some false))) FU ((0 : Int), (-1 : Int), (0 : Int))
theorem table_Right_w (a0 : TableTable) (r : Bool) (h : table_Right a0 = some r) : Go.VC.Spec Tryz.prog 62 [.agg (TableTable.enc a0)] (fun y => y = E_Bool r) := by
 refine Go.VC.Spec.of_xc (args := [.agg (TableTable.enc a0)]) (fn := Tryz.f62) tab ⟨[(0, [1]), (1, [1, 3, 4]), (2, [1, 3, 4, 8, 9, 10]), (3, [1, 3, 4, 8, 9, 10, 11]), (4, [1, 3, 4, 6, 8, 9, 10]), (5, [1, 6, 8, 9, 10, 36]), (6, [2]), (7, [1, 3, 4, 8, 9, 10]), (8, [1, 3, 4, 8, 9, 10]), (9, [2])], [], [100036], []⟩ 53 [.tmp 2] rfl rfl rfl rfl rfl rfl ?_
 conv => whnf
 refine lenS a0.Windows Window.enc rfl ?_
 conv => whnf
 refine lpS (fun v1 => ⟨[(1, .l (.ptr 2 0)), (3, .l (.d (.int .i64 v1.1))), (4, .l (.d (.int .i64 v1.2.1))), (8, .l (.d (.sl (a0.Windows.map Window.enc)))), (9, .l (.d (.int .i64 (a0.Windows.length : Int)))), (10, .l (.d (.int .i64 v1.2.2)))], 53, [], [(2, [.d (.int .i64 a0.Frame), .d (.sl (a0.Windows.map Window.enc))])], []⟩) h (Weak.refl _) (fun _ nx1 hn1 v1 h => ?_)
 conv => whnf
 refine fkS h (fun h => ?_) (fun h => ?_)
 ·conv => whnf
  refine ixS (enc := Window.enc) h rfl (fun _ => rfl) (fun x2 h => ?_)
  conv => whnf
  refine jnS (fun w3 => ⟨[(1, .l (.ptr 2 0)), (6, .l (.ptr 7 0)), (8, .l (.d (.sl (a0.Windows.map Window.enc)))), (9, .l (.d (.int .i64 (a0.Windows.length : Int)))), (10, .l (.d (.int .i64 v1.2.2))), (36, .l (.d (.bool w3)))], 53, [], [(2, [.d (.int .i64 a0.Frame), .d (.sl (a0.Windows.map Window.enc))]), (7, [.d (.int .i64 x2.Part), .d (.int .i64 x2.From), .d (.int .i64 x2.Len)])], []⟩) h (fun k3 hk3 h => ?_) (fun w3 h => ?_)
  ·conv => whnf
   refine caS (E := E_Bool) h (table_may_w x2 a0.Frame) rfl (fun _ => rfl) (fun x4 h => ?_)
   conv => whnf
   refine fkS h (fun h => ?_) (fun h => ?_)
   ·conv => whnf
    exact jeS hk3 h (Weak.refl _)
   conv => whnf
   refine fkS h (fun h => ?_) (fun h => ?_)
   ·conv => whnf
    exact jeS hk3 h (Weak.refl _)
   conv => whnf
   refine fkS h (fun h => ?_) (fun h => ?_)
   ·conv => whnf
    exact jeS hk3 h (Weak.refl _)
   conv => whnf
   exact jeS hk3 h (Weak.refl _)
  conv => whnf
  refine fkS h (fun h => ?_) (fun h => ?_)
  ·conv => whnf
   exact rt (E := E_Bool) h rfl
  conv => whnf
  refine ⟨8, ?_⟩
  conv => whnf
  refine drS (by kernel_rfl) ?_
  conv => whnf
  exact leS hn1 h (Weak.refl _)
 conv => whnf
 refine fkS h (fun h => ?_) (fun h => ?_)
 ·conv => whnf
  exact rt (E := E_Bool) h rfl
 conv => whnf
 exact rt (E := E_Bool) h rfl
end Go.Proofs.YtldlcdnhdedoeaaGreat
namespace Go.Proofs.YtldlcdnhdedoeaaGreat
open Go Go.VC
noncomputable def table_At (a0 : TableTable) (a1 : Int) : Option Int :=
 jn (fun (w1 : Bool) => fk w1 (some (-1 : Int)) (ck (decide (a0.Frame ≠ 0)) (lp (fun nx3 (v3 : Int) => fk (decide (v3 < (a0.Windows.length : Int))) (ix a0.Windows v3 fun x4 => jn (fun (w5 : Bool) => fk w5 (some x4.Part) (nx3 (wr (v3 + (1 : Int))))) (fun k5 => fk (decide ((a1.tmod a0.Frame) ≥ x4.From)) (k5 (decide ((a1.tmod a0.Frame) < (wr (x4.From + x4.Len))))) (k5 false))) (some (-1 : Int))) FU (0 : Int)))) (fun k1 => bnd (table_Right a0) fun x2 => fk (!x2) (k1 true) (k1 (decide (a1 < (0 : Int)))))
theorem table_At_w (a0 : TableTable) (a1 : Int) (r : Int) (h : table_At a0 a1 = some r) : Go.VC.Spec Tryz.prog 89 [.agg (TableTable.enc a0), .d (.int .i64 a1)] (fun y => y = E_Int r) := by
 refine Go.VC.Spec.of_xc (args := [.agg (TableTable.enc a0), .d (.int .i64 a1)]) (fn := Tryz.f89) tab ⟨[(0, [1, 2]), (1, [1, 2, 13]), (2, [4]), (3, [1, 2]), (4, [1, 19, 20, 21]), (5, [1, 19, 20, 21, 22]), (6, [1, 6, 19, 20, 21]), (7, [1, 6, 19, 20, 21, 37]), (8, [4]), (9, [1, 19, 20, 21]), (10, [4])], [], [100013, 100037], []⟩ 41 [.tmp 4] rfl rfl rfl rfl rfl rfl ?_
 conv => whnf
 refine jnS (fun w1 => ⟨[(1, .l (.d (.int .i64 a1))), (2, .l (.ptr 3 0)), (13, .l (.d (.bool w1)))], 41, [], [(3, [.d (.int .i64 a0.Frame), .d (.sl (a0.Windows.map Window.enc))])], []⟩) h (fun k1 hk1 h => ?_) (fun w1 h => ?_)
 ·conv => whnf
  refine caS (E := E_Bool) h (table_Right_w a0) rfl (fun _ => rfl) (fun x2 h => ?_)
  conv => whnf
  refine fkS h (fun h => ?_) (fun h => ?_)
  ·conv => whnf
   exact jeS hk1 h (Weak.refl _)
  conv => whnf
  exact jeS hk1 h (Weak.refl _)
 conv => whnf
 refine fkS h (fun h => ?_) (fun h => ?_)
 ·conv => whnf
  exact rt (E := E_Int) h rfl
 conv => whnf
 refine dvS h (fun h => ?_)
 conv => whnf
 refine lenS a0.Windows Window.enc rfl ?_
 conv => whnf
 refine lpS (fun v3 => ⟨[(1, .l (.d (.int .i64 (a1.tmod a0.Frame)))), (19, .l (.d (.sl (a0.Windows.map Window.enc)))), (20, .l (.d (.int .i64 (a0.Windows.length : Int)))), (21, .l (.d (.int .i64 v3)))], 41, [], [], []⟩) h (Weak.refl _) (fun _ nx3 hn3 v3 h => ?_)
 conv => whnf
 refine fkS h (fun h => ?_) (fun h => ?_)
 ·conv => whnf
  refine ixS (enc := Window.enc) h rfl (fun _ => rfl) (fun x4 h => ?_)
  conv => whnf
  refine jnS (fun w5 => ⟨[(1, .l (.d (.int .i64 (a1.tmod a0.Frame)))), (6, .l (.ptr 7 0)), (19, .l (.d (.sl (a0.Windows.map Window.enc)))), (20, .l (.d (.int .i64 (a0.Windows.length : Int)))), (21, .l (.d (.int .i64 v3))), (37, .l (.d (.bool w5)))], 41, [], [(7, [.d (.int .i64 x4.Part), .d (.int .i64 x4.From), .d (.int .i64 x4.Len)])], []⟩) h (fun k5 hk5 h => ?_) (fun w5 h => ?_)
  ·conv => whnf
   refine fkS h (fun h => ?_) (fun h => ?_)
   ·conv => whnf
    exact jeS hk5 h (Weak.refl _)
   conv => whnf
   exact jeS hk5 h (Weak.refl _)
  conv => whnf
  refine fkS h (fun h => ?_) (fun h => ?_)
  ·conv => whnf
   exact rt (E := E_Int) h rfl
  conv => whnf
  exact leS hn3 h (Weak.refl _)
 conv => whnf
 exact rt (E := E_Int) h rfl
end Go.Proofs.YtldlcdnhdedoeaaGreat
namespace Go.Proofs.YtldlcdnhdedoeaaGreat
open Go Go.VC
noncomputable def table_Of (a0 : List Int) : Option (TableTable × Int) :=
 jn (fun (w1 : Bool) => fk w1 (some (⟨(0 : Int), []⟩, (1 : Int))) (lp (fun nx2 (v2 : Int × (List Window) × Int) => fk (decide (v2.2.2 < (a0.length : Int))) (ix a0 v2.2.2 fun x3 => jn (fun (w4 : Bool) => fk w4 (some (⟨(0 : Int), []⟩, (1 : Int))) (jn (fun (w5 : List Window) => nx2 (x3, w5, (wr (v2.2.2 + (1 : Int))))) (fun k5 => jn (fun (w6 : Bool) => fk w6 (ck (decide (0 ≤ (wr ((v2.2.1.length : Int) - (1 : Int)))) && decide ((wr ((v2.2.1.length : Int) - (1 : Int))) < (v2.2.1.length : Int))) (ox v2.2.1 ((wr ((v2.2.1.length : Int) - (1 : Int))).toNat) fun x7 => ck (decide (0 ≤ (wr ((v2.2.1.length : Int) - (1 : Int)))) && decide ((wr ((v2.2.1.length : Int) - (1 : Int))) < (v2.2.1.length : Int))) (ox v2.2.1 ((wr ((v2.2.1.length : Int) - (1 : Int))).toNat) fun x8 => k5 (v2.2.1.set ((wr ((v2.2.1.length : Int) - (1 : Int))).toNat) ⟨x8.Part, x8.From, (wr (x7.Len + (1 : Int)))⟩)))) (fk (!decide (x3 = (-1 : Int))) (ck (decide ((v2.2.1.length + ([⟨x3, v2.2.2, (1 : Int)⟩] : List Window).length) * 24 ≤ 140737488355328)) (k5 (v2.2.1 ++ ([⟨x3, v2.2.2, (1 : Int)⟩] : List Window)))) (k5 v2.2.1))) (fun k6 => fk (decide (x3 = v2.1)) (k6 (!decide (x3 = (-1 : Int)))) (k6 false))))) (fun k4 => fk (decide (x3 < (-1 : Int))) (k4 true) (k4 (decide (x3 ≥ (4 : Int)))))) (some (⟨(a0.length : Int), v2.2.1⟩, (0 : Int)))) FU ((-1 : Int), [], (0 : Int)))) (fun k1 => fk (decide ((a0.length : Int) = (0 : Int))) (k1 true) (k1 (decide ((a0.length : Int) > (240 : Int)))))
theorem table_Of_w (a0 : List Int) (r : TableTable × Int) (h : table_Of a0 = some r) : Go.VC.Spec Tryz.prog 114 [.d (.sl (a0.map (eI .i64)))] (fun y => y = E_TableTable_Int r) := by
 refine Go.VC.Spec.of_xc (args := [.d (.sl (a0.map (eI .i64)))]) (fn := Tryz.f114) tab ⟨[(0, [0, 2]), (1, [0, 2, 16]), (2, [2, 3]), (3, [0, 2, 4]), (4, [0, 2, 4, 5]), (5, [0, 2, 4, 6]), (6, [2, 4, 6, 22, 23, 24]), (7, [2, 4, 6, 22, 23, 24, 25]), (8, [2, 4, 6, 7, 8, 22, 23, 24]), (9, [2, 4, 6, 7, 8, 22, 23, 24, 34]), (10, [2, 3]), (11, [2, 4, 6, 22, 23, 24]), (12, [2, 4, 6, 22, 23, 24]), (13, [2, 3])], [], [100016, 100034], []⟩ 42 [.cell 2 30, .tmp 3] rfl rfl rfl rfl rfl rfl ?_
 conv => whnf
 refine jnS (fun w1 => ⟨[(0, .l (.d (.sl (a0.map (eI .i64))))), (2, .l (.ptr 3 0)), (16, .l (.d (.bool w1)))], 42, [], [(3, [.d (.int .i64 (0 : Int)), .nil])], []⟩) h (fun k1 hk1 h => ?_) (fun w1 h => ?_)
 ·conv => whnf
  refine lenS a0 (eI .i64) rfl ?_
  conv => whnf
  refine fkS h (fun h => ?_) (fun h => ?_)
  ·conv => whnf
   exact jeS hk1 h (Weak.refl _)
  conv => whnf
  refine lenS a0 (eI .i64) rfl ?_
  conv => whnf
  exact jeS hk1 h (Weak.refl _)
 conv => whnf
 refine fkS h (fun h => ?_) (fun h => ?_)
 ·conv => whnf
  exact rt (E := E_TableTable_Int) h rfl
 conv => whnf
 refine lenS a0 (eI .i64) rfl ?_
 conv => whnf
 refine lenS a0 (eI .i64) rfl ?_
 conv => whnf
 refine lpS (fun v2 => ⟨[(2, .l (.ptr 3 0)), (4, .l (.ptr 5 0)), (6, .l (.func 154 [.k 6, .k 5])), (22, .l (.d (.sl (a0.map (eI .i64))))), (23, .l (.d (.int .i64 (a0.length : Int)))), (24, .l (.d (.int .i64 v2.2.2)))], 42, [], [(3, [.d (.int .i64 (0 : Int)), .nil]), (5, [.d (.int .i64 (a0.length : Int)), .own 50501]), (6, [.d (.int .i64 v2.1)])], [(50501, 179, 3, v2.2.1.map Window.enc)]⟩) h (Weak.trans (Weak.nilBO _ 5 1 50501 179 3 _ rfl rfl) (Weak.refl _)) (fun _ nx2 hn2 v2 h => ?_)
 conv => whnf
 refine fkS h (fun h => ?_) (fun h => ?_)
 ·conv => whnf
  refine ixS (enc := (eI .i64)) h rfl (fun _ => rfl) (fun x3 h => ?_)
  conv => whnf
  refine jnS (fun w4 => ⟨[(2, .l (.ptr 3 0)), (4, .l (.ptr 5 0)), (6, .l (.func 154 [.k 6, .k 5])), (7, .l (.d (.int .i64 v2.2.2))), (8, .l (.d (.int .i64 x3))), (22, .l (.d (.sl (a0.map (eI .i64))))), (23, .l (.d (.int .i64 (a0.length : Int)))), (24, .l (.d (.int .i64 v2.2.2))), (34, .l (.d (.bool w4)))], 42, [], [(3, [.d (.int .i64 (0 : Int)), .nil]), (5, [.d (.int .i64 (a0.length : Int)), .own 50501]), (6, [.d (.int .i64 v2.1)])], [(50501, 179, 3, v2.2.1.map Window.enc)]⟩) h (fun k4 hk4 h => ?_) (fun w4 h => ?_)
  ·conv => whnf
   refine fkS h (fun h => ?_) (fun h => ?_)
   ·conv => whnf
    exact jeS hk4 h (Weak.refl _)
   conv => whnf
   exact jeS hk4 h (Weak.refl _)
  conv => whnf
  refine fkS h (fun h => ?_) (fun h => ?_)
  ·conv => whnf
   exact rt (E := E_TableTable_Int) h rfl
  conv => whnf
  refine inS (fn := Tryz.f154) tab ⟨[(0, [0, 1, 2, 3, 12]), (1, [1, 2]), (2, [0, 1, 2, 3, 26]), (3, [1, 2]), (4, [])], [], [100012, 4], []⟩ 36 [] rfl rfl rfl rfl rfl rfl ?_
  conv => whnf
  refine jnS (fun w5 => ⟨[(1, .l (.d (.int .i64 x3))), (2, .l (.ptr 6 0))], 36, [⟨[(38, .l (.d (.int .i64 x3))), (37, .l (.d (.int .i64 v2.2.2))), (36, .l (.func 154 [.k 6, .k 5])), (34, .l (.d (.bool false))), (2, .l (.ptr 3 0)), (4, .l (.ptr 5 0)), (6, .l (.func 154 [.k 6, .k 5])), (7, .l (.d (.int .i64 v2.2.2))), (8, .l (.d (.int .i64 x3))), (22, .l (.d (.sl (a0.map (eI .i64))))), (23, .l (.d (.int .i64 (a0.length : Int)))), (24, .l (.d (.int .i64 v2.2.2))), (34, .l (.d (.bool w4)))], 42⟩], [(3, [.d (.int .i64 (0 : Int)), .nil]), (5, [.d (.int .i64 (a0.length : Int)), .own 50501]), (6, [.d (.int .i64 v2.1)])], [(50501, 179, 3, w5.map Window.enc)]⟩) h (fun k5 hk5 h => ?_) (fun w5 h => ?_)
  ·conv => whnf
   refine jnS (fun w6 => ⟨[(0, .l (.d (.int .i64 v2.2.2))), (1, .l (.d (.int .i64 x3))), (2, .l (.ptr 6 0)), (3, .l (.ptr 5 0)), (12, .l (.d (.bool w6)))], 36, [⟨[(38, .l (.d (.int .i64 x3))), (37, .l (.d (.int .i64 v2.2.2))), (36, .l (.func 154 [.k 6, .k 5])), (34, .l (.d (.bool false))), (2, .l (.ptr 3 0)), (4, .l (.ptr 5 0)), (6, .l (.func 154 [.k 6, .k 5])), (7, .l (.d (.int .i64 v2.2.2))), (8, .l (.d (.int .i64 x3))), (22, .l (.d (.sl (a0.map (eI .i64))))), (23, .l (.d (.int .i64 (a0.length : Int)))), (24, .l (.d (.int .i64 v2.2.2))), (34, .l (.d (.bool w4)))], 42⟩], [(3, [.d (.int .i64 (0 : Int)), .nil]), (5, [.d (.int .i64 (a0.length : Int)), .own 50501]), (6, [.d (.int .i64 v2.1)])], [(50501, 179, 3, v2.2.1.map Window.enc)]⟩) h (fun k6 hk6 h => ?_) (fun w6 h => ?_)
   ·conv => whnf
    refine fkS h (fun h => ?_) (fun h => ?_)
    ·conv => whnf
     exact jeS hk6 h (Weak.refl _)
    conv => whnf
    exact jeS hk6 h (Weak.refl _)
   conv => whnf
   refine fkS h (fun h => ?_) (fun h => ?_)
   ·conv => whnf
    refine lenS v2.2.1 Window.enc rfl ?_
    conv => whnf
    refine ioS (enc := Window.enc) h rfl (fun h => ?_)
    conv => whnf
    refine oxS (enc := Window.enc) h rfl (fun x7 h => ?_)
    conv => whnf
    refine ioS (enc := Window.enc) h rfl (fun h => ?_)
    conv => whnf
    refine seS (enc := Window.enc) h rfl (fun x8 => ⟨x8.Part, x8.From, (wr (x7.Len + (1 : Int)))⟩) (fun _ => rfl) (fun x8 h => ?_)
    conv => whnf
    exact jeS hk5 h (Weak.refl _)
   conv => whnf
   refine fkS h (fun h => ?_) (fun h => ?_)
   ·conv => whnf
    refine liS ([⟨x3, v2.2.2, (1 : Int)⟩] : List Window) Window.enc rfl rfl ?_
    conv => whnf
    refine apS (enc := Window.enc) (l1 := v2.2.1) (l2 := ([⟨x3, v2.2.2, (1 : Int)⟩] : List Window)) h rfl rfl (fun _ => rfl) (fun h => ?_)
    conv => whnf
    refine jeX hk5 h ?_
    conv => whnf
    refine WkF.step (Weak.rekey _ 1034 50501 rfl) ?_
    conv => whnf
    exact WkF.refl _
   conv => whnf
   refine jeX hk5 h ?_
   conv => whnf
   refine WkF.step (Weak.keepS _ [1, 2]) ?_
   conv => whnf
   exact WkF.refl _
  conv => whnf
  exact leS hn2 h (Weak.refl _)
 conv => whnf
 exact rt (E := E_TableTable_Int) h rfl
end Go.Proofs.YtldlcdnhdedoeaaGreat
namespace Go.Proofs.YtldlcdnhdedoeaaGreat
open Go Go.VC
noncomputable def ref13_At (a0 : Int) (a1 : List Window) (a2 : Int) : Option Int :=
 lp (fun nx1 (v1 : Int × Int) => fk (decide (v1.2 < (a1.length : Int))) (lp (fun nx2 (v2 : Int × Int) => ix a1 v1.2 fun x3 => fk (decide (v2.2 < x3.Len)) (jn (fun (w4 : Int) => nx2 (w4, (wr (v2.2 + (1 : Int))))) (fun k4 => ix a1 v1.2 fun x5 => ck (decide (a0 ≠ 0)) (fk (decide ((wr (x5.From + v2.2)) = (a2.tmod a0))) (ix a1 v1.2 fun x6 => k4 x6.Part) (k4 v2.1)))) (nx1 (v2.1, (wr (v1.2 + (1 : Int)))))) FU (v1.1, (0 : Int))) (some v1.1)) FU ((-1 : Int), (0 : Int))
theorem ref13_At_w (a0 : Int) (a1 : List Window) (a2 : Int) (r : Int) (h : ref13_At a0 a1 a2 = some r) : Go.VC.Spec Tryz.prog 35 [.d (.int .i64 a0), .d (.sl (a1.map Window.enc)), .d (.int .i64 a2)] (fun y => y = E_Int r) := by
 refine Go.VC.Spec.of_xc (args := [.d (.int .i64 a0), .d (.sl (a1.map Window.enc)), .d (.int .i64 a2)]) (fn := Tryz.f35) tab ⟨[(0, [0, 1, 2]), (1, [0, 1, 2, 7]), (2, [0, 1, 2, 7, 8]), (3, [0, 1, 2, 7, 8, 13]), (4, [0, 1, 2, 7, 8]), (5, [0, 1, 2, 7, 8, 9]), (6, [0, 1, 2, 7, 8, 9, 22]), (7, [0, 1, 2, 7, 8, 9]), (8, [0, 1, 2, 7, 8, 9, 35]), (9, [0, 1, 2, 7, 8, 9]), (10, [6])], [], [7], []⟩ 42 [.tmp 6] rfl rfl rfl rfl rfl rfl ?_
 conv => whnf
 refine lpS (fun v1 => ⟨[(0, .l (.d (.int .i64 a0))), (1, .l (.d (.sl (a1.map Window.enc)))), (2, .l (.d (.int .i64 a2))), (7, .l (.d (.int .i64 v1.1))), (8, .l (.d (.int .i64 v1.2)))], 42, [], [], []⟩) h (Weak.refl _) (fun _ nx1 hn1 v1 h => ?_)
 conv => whnf
 refine lenS a1 Window.enc rfl ?_
 conv => whnf
 refine fkS h (fun h => ?_) (fun h => ?_)
 ·conv => whnf
  refine lpS (fun v2 => ⟨[(0, .l (.d (.int .i64 a0))), (1, .l (.d (.sl (a1.map Window.enc)))), (2, .l (.d (.int .i64 a2))), (7, .l (.d (.int .i64 v2.1))), (8, .l (.d (.int .i64 v1.2))), (9, .l (.d (.int .i64 v2.2)))], 42, [], [], []⟩) h (Weak.refl _) (fun _ nx2 hn2 v2 h => ?_)
  conv => whnf
  refine ixS (enc := Window.enc) h rfl (fun _ => rfl) (fun x3 h => ?_)
  conv => whnf
  refine fkS h (fun h => ?_) (fun h => ?_)
  ·conv => whnf
   refine jnS (fun w4 => ⟨[(0, .l (.d (.int .i64 a0))), (1, .l (.d (.sl (a1.map Window.enc)))), (2, .l (.d (.int .i64 a2))), (7, .l (.d (.int .i64 w4))), (8, .l (.d (.int .i64 v1.2))), (9, .l (.d (.int .i64 v2.2)))], 42, [], [], []⟩) h (fun k4 hk4 h => ?_) (fun w4 h => ?_)
   ·conv => whnf
    refine ⟨10, ?_⟩
    conv => whnf
    refine ixS (enc := Window.enc) h rfl (fun _ => rfl) (fun x5 h => ?_)
    conv => whnf
    refine dvS h (fun h => ?_)
    conv => whnf
    refine drS (by kernel_rfl) ?_
    conv => whnf
    refine fkS h (fun h => ?_) (fun h => ?_)
    ·conv => whnf
     refine ixS (enc := Window.enc) h rfl (fun _ => rfl) (fun x6 h => ?_)
     conv => whnf
     exact jeS hk4 h (Weak.refl _)
    conv => whnf
    refine jeX hk4 h ?_
    conv => whnf
    refine WkF.step (Weak.keepS _ [0, 1, 2, 7, 8, 9]) ?_
    conv => whnf
    exact WkF.refl _
   conv => whnf
   exact leS hn2 h (Weak.refl _)
  conv => whnf
  exact leS hn1 h (Weak.refl _)
 conv => whnf
 exact rt (E := E_Int) h rfl
end Go.Proofs.YtldlcdnhdedoeaaGreat
namespace Go.Proofs.YtldlcdnhdedoeaaGreat
open Go Go.VC
noncomputable def ref13_Ticks (a0 : Int) (a1 : List Window) : Option (List Int) :=
 lp (fun nx1 (v1 : (List Int) × Int) => fk (decide (v1.2 < a0)) (bnd (ref13_At a0 a1 v1.2) fun x2 => ck (decide ((v1.1.length + ([x2] : List Int).length) * 8 ≤ 140737488355328)) (nx1 (v1.1 ++ ([x2] : List Int), (wr (v1.2 + (1 : Int)))))) (some v1.1)) FU ([], (0 : Int))
theorem ref13_Ticks_w (a0 : Int) (a1 : List Window) (r : List Int) (h : ref13_Ticks a0 a1 = some r) : Go.VC.Spec Tryz.prog 19 [.d (.int .i64 a0), .d (.sl (a1.map Window.enc))] (fun y => y = E_ListInt r) := by
 refine Go.VC.Spec.of_xc (args := [.d (.int .i64 a0), .d (.sl (a1.map Window.enc))]) (fn := Tryz.f19) tab ⟨[(0, [0, 1]), (1, [0, 1, 5]), (2, [0, 1, 5, 6]), (3, [0, 1, 5, 6, 9]), (4, [0, 1, 5, 6]), (5, [0, 1, 5, 6]), (6, [4])], [], [], []⟩ 20 [.tmp 4] rfl rfl rfl rfl rfl rfl ?_
 conv => whnf
 refine lpS (fun v1 => ⟨[(0, .l (.d (.int .i64 a0))), (1, .l (.d (.sl (a1.map Window.enc)))), (5, .l (.own 6)), (6, .l (.d (.int .i64 v1.2)))], 20, [], [], [(6, 3, 1, v1.1.map (eI .i64))]⟩) h (Weak.trans (Weak.nilO _ 5 6 3 1 rfl) (Weak.refl _)) (fun _ nx1 hn1 v1 h => ?_)
 conv => whnf
 refine fkS h (fun h => ?_) (fun h => ?_)
 ·conv => whnf
  refine caS (E := E_Int) h (ref13_At_w a0 a1 v1.2) rfl (fun _ => rfl) (fun x2 h => ?_)
  conv => whnf
  refine liS ([x2] : List Int) (eI .i64) rfl rfl ?_
  conv => whnf
  refine apS (enc := (eI .i64)) (l1 := v1.1) (l2 := ([x2] : List Int)) h rfl rfl (fun _ => rfl) (fun h => ?_)
  conv => whnf
  exact leS hn1 h (Weak.refl _)
 conv => whnf
 exact rt (E := E_ListInt) h rfl
end Go.Proofs.YtldlcdnhdedoeaaGreat
namespace Go.Proofs.YtldlcdnhdedoeaaGreat
open Go Go.VC
/-! Tables. -/
def inW (w : Window) (x : Int) : Prop := w.From ≤ x ∧ x < w.From + w.Len
instance (w : Window) (x : Int) : Decidable (inW w x) := by unfold inW; infer_instance
def whoV : List Window → Int → Int
 | [], _ => -1
 | w :: r, x => if inW w x then w.Part else whoV r x
def winP (F : Int) (w : Window) : Prop := 0 ≤ w.Part ∧ w.Part < 4 ∧ 0 ≤ w.From ∧ 1 ≤ w.Len ∧ w.From + w.Len ≤ F
structure tabP (t : TableTable) : Prop where
 f1 : 1 ≤ t.Frame
 f2 : t.Frame ≤ 240
 w : ∀ w ∈ t.Windows, winP t.Frame w
 p : t.Windows.Pairwise fun a b => a.From + a.Len ≤ b.From
 c : ∀ (i : Nat) (a b : Window), t.Windows[i]? = some a → t.Windows[i + 1]? = some b → ¬ (a.From + a.Len = b.From ∧ b.Part = a.Part)
 l : t.Windows.length ≤ 240
/-- The table of ticks. -/
structure ofI (n : Int) (ts : List Int) (k : Nat) (last : Int) (W : List Window) : Prop where
 w : ∀ w ∈ W, winP n w ∧ w.From + w.Len ≤ (k : Int)
 p : W.Pairwise fun a b => a.From + a.Len ≤ b.From
 c : ∀ (i : Nat) (a b : Window), W[i]? = some a → W[i + 1]? = some b → ¬ (a.From + a.Len = b.From ∧ b.Part = a.Part)
 l : W.length ≤ k
 v : ∀ x : Nat, x < k → ∀ y, ts[x]? = some y → whoV W (x : Int) = y
 e1 : last ≠ -1 → ∃ W0 w, W = W0 ++ [w] ∧ w.Part = last ∧ w.From + w.Len = (k : Int)
 e2 : ∀ W0 w, W = W0 ++ [w] → w.From + w.Len = (k : Int) → w.Part = last
end Go.Proofs.YtldlcdnhdedoeaaGreat
namespace Go.Proofs.YtldlcdnhdedoeaaGreat
open Go Go.VC
noncomputable def synth_Frame (a0 : List Face) : Option (Int × Int) :=
 fk (decide ((a0.length : Int) > (4 : Int))) (some ((0 : Int), (1 : Int))) (lp (fun nx1 (v1 : Int) => fk (decide (v1 < (a0.length : Int))) (ix a0 v1 fun x2 => bnd (supply_Right x2) fun x3 => fk (!x3) (some ((0 : Int), (1 : Int))) (nx1 (wr (v1 + (1 : Int))))) (lp (fun nx4 (v4 : Int × Int) => fk (decide (v4.2 < (a0.length : Int))) (ix a0 v4.2 fun x5 => bnd (arith_Lcm v4.1 x5.P) fun x6 => jn (fun (w7 : Bool) => fk w7 (some ((0 : Int), (5 : Int))) (nx4 (x6.1, (wr (v4.2 + (1 : Int)))))) (fun k7 => fk (!decide (x6.2 = (0 : Int))) (k7 true) (k7 (decide (x6.1 > (240 : Int)))))) (some (v4.1, (0 : Int)))) FU ((1 : Int), (0 : Int)))) FU (0 : Int))
theorem synth_Frame_w (a0 : List Face) (r : Int × Int) (h : synth_Frame a0 = some r) : Go.VC.Spec Tryz.prog 151 [.d (.sl (a0.map Face.enc))] (fun y => y = E_Int_Int r) := by
 refine Go.VC.Spec.of_xc (args := [.d (.sl (a0.map Face.enc))]) (fn := Tryz.f151) tab ⟨[(0, [0]), (1, [0, 13]), (2, [2, 3]), (3, [0, 14, 15, 16]), (4, [0, 14, 15, 16, 17]), (5, [0, 5, 14, 15, 16]), (6, [0, 14, 15, 16, 22]), (7, [2, 3]), (8, [0, 14, 15, 16]), (9, [0, 6]), (10, [6, 24, 25, 26]), (11, [6, 24, 25, 26, 27]), (12, [6, 8, 24, 25, 26]), (13, [9, 10, 24, 25, 26]), (14, [9, 24, 25, 26, 42]), (15, [2, 3]), (16, [6, 24, 25, 26]), (17, [6, 24, 25, 26]), (18, [2, 3])], [], [100042], []⟩ 46 [.tmp 2, .tmp 3] rfl rfl rfl rfl rfl rfl ?_
 conv => whnf
 refine lenS a0 Face.enc rfl ?_
 conv => whnf
 refine fkS h (fun h => ?_) (fun h => ?_)
 ·conv => whnf
  exact rt (E := E_Int_Int) h rfl
 conv => whnf
 refine lenS a0 Face.enc rfl ?_
 conv => whnf
 refine lpS (fun v1 => ⟨[(0, .l (.d (.sl (a0.map Face.enc)))), (14, .l (.d (.sl (a0.map Face.enc)))), (15, .l (.d (.int .i64 (a0.length : Int)))), (16, .l (.d (.int .i64 v1)))], 46, [], [], []⟩) h (Weak.refl _) (fun _ nx1 hn1 v1 h => ?_)
 conv => whnf
 refine fkS h (fun h => ?_) (fun h => ?_)
 ·conv => whnf
  refine ixS (enc := Face.enc) h rfl (fun _ => rfl) (fun x2 h => ?_)
  conv => whnf
  refine caS (E := E_Bool) h (supply_Right_w x2) rfl (fun _ => rfl) (fun x3 h => ?_)
  conv => whnf
  refine fkS h (fun h => ?_) (fun h => ?_)
  ·conv => whnf
   exact rt (E := E_Int_Int) h rfl
  conv => whnf
  exact leS hn1 h (Weak.refl _)
 conv => whnf
 refine lenS a0 Face.enc rfl ?_
 conv => whnf
 refine lpS (fun v4 => ⟨[(6, .l (.d (.int .i64 v4.1))), (24, .l (.d (.sl (a0.map Face.enc)))), (25, .l (.d (.int .i64 (a0.length : Int)))), (26, .l (.d (.int .i64 v4.2)))], 46, [], [], []⟩) h (Weak.refl _) (fun _ nx4 hn4 v4 h => ?_)
 conv => whnf
 refine fkS h (fun h => ?_) (fun h => ?_)
 ·conv => whnf
  refine ixS (enc := Face.enc) h rfl (fun _ => rfl) (fun x5 h => ?_)
  conv => whnf
  refine caS (E := E_Int_Int) h (arith_Lcm_w v4.1 x5.P) rfl (fun _ => rfl) (fun x6 h => ?_)
  conv => whnf
  refine jnS (fun w7 => ⟨[(9, .l (.d (.int .i64 x6.1))), (24, .l (.d (.sl (a0.map Face.enc)))), (25, .l (.d (.int .i64 (a0.length : Int)))), (26, .l (.d (.int .i64 v4.2))), (42, .l (.d (.bool w7)))], 46, [], [], []⟩) h (fun k7 hk7 h => ?_) (fun w7 h => ?_)
  ·conv => whnf
   refine fkS h (fun h => ?_) (fun h => ?_)
   ·conv => whnf
    exact jeS hk7 h (Weak.refl _)
   conv => whnf
   exact jeS hk7 h (Weak.refl _)
  conv => whnf
  refine fkS h (fun h => ?_) (fun h => ?_)
  ·conv => whnf
   exact rt (E := E_Int_Int) h rfl
  conv => whnf
  exact leS hn4 h (Weak.refl _)
 conv => whnf
 exact rt (E := E_Int_Int) h rfl
end Go.Proofs.YtldlcdnhdedoeaaGreat
namespace Go.Proofs.YtldlcdnhdedoeaaGreat
open Go Go.VC
noncomputable def synth_Lay (a0 : List Face) : Option ((List Int) × Int) :=
 bnd (synth_Frame a0) fun x1 => fk (!decide (x1.2 = (0 : Int))) (some ([], x1.2)) (ck (decide ((0 : Int) ≤ (a0.length : Int)) && decide ((a0.length : Int) * ((8 : Nat) : Int) ≤ 140737488355328) && decide ((a0.length : Int) ≤ 1000000000000)) (lp (fun nx2 (v2 : (List Int) × (List Int) × Int) => fk (decide (v2.2.2 < x1.1)) (lp (fun nx3 (v3 : (List Int) × Int) => fk (decide (v3.2 < (a0.length : Int))) (jn (fun (w4 : List Int) => nx3 (w4, (wr (v3.2 + (1 : Int))))) (fun k4 => ix a0 v3.2 fun x5 => ck (decide (x5.P ≠ 0)) (fk (!decide ((v2.2.2.tmod x5.P) = (0 : Int))) (k4 v3.1) (ck (decide (0 ≤ v3.2) && decide (v3.2 < (v3.1.length : Int))) (ox v3.1 v3.2.toNat fun x6 => fk (decide (x6 > (0 : Int))) (some ([], (7 : Int))) (ck (decide (0 ≤ v3.2) && decide (v3.2 < (v3.1.length : Int))) (ox v3.1 v3.2.toNat fun x7 => k4 (v3.1.set v3.2.toNat x5.B)))))))) (lp (fun nx8 (v8 : Int × Int × Int) => fk (decide (v8.2.2 < (a0.length : Int))) (jn (fun (w9 : Int × Int) => nx8 (w9.1, w9.2, (wr (v8.2.2 + (1 : Int))))) (fun k9 => ix a0 v8.2.2 fun x10 => ck (decide (x10.P ≠ 0)) (jn (fun (w11 : Bool) => fk w11 (k9 (v8.2.2, (wr ((wr (v2.2.2 - (v2.2.2.tmod x10.P))) + x10.P)))) (k9 (v8.1, v8.2.1))) (fun k11 => ck (decide (0 ≤ v8.2.2) && decide (v8.2.2 < (v3.1.length : Int))) (ox v3.1 v8.2.2.toNat fun x12 => fk (decide (x12 > (0 : Int))) (fk (decide (v8.1 = (-1 : Int))) (k11 true) (k11 (decide ((wr ((wr (v2.2.2 - (v2.2.2.tmod x10.P))) + x10.P)) < v8.2.1)))) (k11 false)))))) (fk (!decide (v8.1 = (-1 : Int))) (ck (decide (0 ≤ v8.1) && decide (v8.1 < (v3.1.length : Int))) (ox v3.1 v8.1.toNat fun x13 => ck (decide (0 ≤ v8.1) && decide (v8.1 < (v3.1.length : Int))) (ox v3.1 v8.1.toNat fun x14 => ck (decide ((v2.1.length + ([v8.1] : List Int).length) * 8 ≤ 140737488355328)) (nx2 (v2.1 ++ ([v8.1] : List Int), v3.1.set v8.1.toNat (wr (x13 - (1 : Int))), (wr (v2.2.2 + (1 : Int)))))))) (ck (decide ((v2.1.length + ([v8.1] : List Int).length) * 8 ≤ 140737488355328)) (nx2 (v2.1 ++ ([v8.1] : List Int), v3.1, (wr (v2.2.2 + (1 : Int)))))))) FU ((-1 : Int), (0 : Int), (0 : Int)))) FU (v2.2.1, (0 : Int))) (lp (fun nx15 (v15 : (List Int) × Int) => fk (decide (v15.2 < (a0.length : Int))) (jn (fun (w16 : List Int) => nx15 (w16, (wr (v15.2 + (1 : Int))))) (fun k16 => ix a0 v15.2 fun x17 => ck (decide (x17.P ≠ 0)) (fk (!decide ((x1.1.tmod x17.P) = (0 : Int))) (k16 v15.1) (ck (decide (0 ≤ v15.2) && decide (v15.2 < (v15.1.length : Int))) (ox v15.1 v15.2.toNat fun x18 => fk (decide (x18 > (0 : Int))) (some ([], (7 : Int))) (ck (decide (0 ≤ v15.2) && decide (v15.2 < (v15.1.length : Int))) (ox v15.1 v15.2.toNat fun x19 => k16 (v15.1.set v15.2.toNat x17.B)))))))) (some (v2.1, (0 : Int)))) FU (v2.2.1, (0 : Int)))) FU ([], List.replicate (a0.length : Int).toNat ((0 : Int) : Int), (0 : Int))))
theorem synth_Lay_w (a0 : List Face) (r : (List Int) × Int) (h : synth_Lay a0 = some r) : Go.VC.Spec Tryz.prog 113 [.d (.sl (a0.map Face.enc))] (fun y => y = E_ListInt_Int r) := by
 refine Go.VC.Spec.of_xc (args := [.d (.sl (a0.map Face.enc))]) (fn := Tryz.f113) tab ⟨[(0, [0]), (1, [0, 4, 5]), (2, [0, 4, 5, 17]), (3, [2, 3]), (4, [4, 6]), (5, [4, 7, 8]), (6, [4, 7, 8, 9]), (7, [4, 7, 8, 9, 29, 30]), (8, [4, 7, 8, 9, 29, 30, 31]), (9, [4, 7, 8, 9, 10, 29, 30]), (10, [4, 7, 8, 9, 10, 29, 30, 36]), (11, [2, 3]), (12, [4, 7, 8, 9, 29, 30]), (13, [4, 7, 8, 9, 29, 30]), (14, [9, 47]), (15, [2, 3]), (16, [2, 3])], [], [], []⟩ 49 [.tmp 2, .tmp 3] rfl rfl rfl rfl rfl rfl ?_
 conv => whnf
 refine caS (E := E_Int_Int) h (synth_Frame_w a0) rfl (fun _ => rfl) (fun x1 h => ?_)
 conv => whnf
 refine fkS h (fun h => ?_) (fun h => ?_)
 ·conv => whnf
  exact rt (E := E_ListInt_Int) h rfl
 conv => whnf
 refine lenS a0 Face.enc rfl ?_
 conv => whnf
 refine mkS ((0 : Int) : Int) (eI .i64) h rfl rfl (fun h => ?_)
 conv => whnf
 refine lpS (fun v2 => ⟨[(4, .l (.d (.int .i64 x1.1))), (7, .l (.mfn 152 25)), (8, .l (.mfn 153 25)), (9, .l (.own 10)), (29, .l (.d (.int .i64 x1.1))), (30, .l (.d (.int .i64 v2.2.2)))], 49, [], [(25, [.d (.sl (a0.map Face.enc)), .own 23])], [(10, 3, 1, v2.1.map (eI .i64)), (23, 3, 1, v2.2.1.map (eI .i64))]⟩) h (Weak.trans (Weak.nilO _ 9 10 3 1 rfl) (Weak.refl _)) (fun _ nx2 hn2 v2 h => ?_)
 conv => whnf
 refine fkS h (fun h => ?_) (fun h => ?_)
 ·conv => whnf
  refine inS (fn := Tryz.f152) tab ⟨[(0, [0, 1]), (1, [0, 1, 10, 11, 12]), (2, [0, 1, 10, 11, 12, 13]), (3, [0, 1, 5, 6, 10, 11, 12]), (4, [0, 1, 5, 6, 10, 11, 12, 21]), (5, [0, 1, 5, 6, 10, 11, 12, 29]), (6, [4]), (7, [0, 1, 10, 11, 12]), (8, [0, 1, 10, 11, 12]), (9, [4])], [], [8], []⟩ 39 [.tmp 4] rfl rfl rfl rfl rfl rfl ?_
  conv => whnf
  refine lenS a0 Face.enc rfl ?_
  conv => whnf
  refine lpS (fun v3 => ⟨[(0, .l (.ptr 25 0)), (1, .l (.d (.int .i64 v2.2.2))), (10, .l (.d (.sl (a0.map Face.enc)))), (11, .l (.d (.int .i64 (a0.length : Int)))), (12, .l (.d (.int .i64 v3.2)))], 39, [⟨[(34, .l (.d (.int .i64 v2.2.2))), (33, .l (.mfn 152 25)), (4, .l (.d (.int .i64 x1.1))), (7, .l (.mfn 152 25)), (8, .l (.mfn 153 25)), (9, .l (.own 10)), (10, .l (.d (.int .i64 v2.2.2))), (29, .l (.d (.int .i64 x1.1))), (30, .l (.d (.int .i64 v2.2.2)))], 49⟩], [(25, [.d (.sl (a0.map Face.enc)), .own 23])], [(10, 3, 1, v2.1.map (eI .i64)), (23, 3, 1, v3.1.map (eI .i64))]⟩) h (Weak.refl _) (fun _ nx3 hn3 v3 h => ?_)
  conv => whnf
  refine fkS h (fun h => ?_) (fun h => ?_)
  ·conv => whnf
   refine jnS (fun w4 => ⟨[(0, .l (.ptr 25 0)), (1, .l (.d (.int .i64 v2.2.2))), (10, .l (.d (.sl (a0.map Face.enc)))), (11, .l (.d (.int .i64 (a0.length : Int)))), (12, .l (.d (.int .i64 v3.2)))], 39, [⟨[(34, .l (.d (.int .i64 v2.2.2))), (33, .l (.mfn 152 25)), (4, .l (.d (.int .i64 x1.1))), (7, .l (.mfn 152 25)), (8, .l (.mfn 153 25)), (9, .l (.own 10)), (10, .l (.d (.int .i64 v2.2.2))), (29, .l (.d (.int .i64 x1.1))), (30, .l (.d (.int .i64 v2.2.2)))], 49⟩], [(25, [.d (.sl (a0.map Face.enc)), .own 23])], [(10, 3, 1, v2.1.map (eI .i64)), (23, 3, 1, w4.map (eI .i64))]⟩) h (fun k4 hk4 h => ?_) (fun w4 h => ?_)
   ·conv => whnf
    refine ixS (enc := Face.enc) h rfl (fun _ => rfl) (fun x5 h => ?_)
    conv => whnf
    refine dvS h (fun h => ?_)
    conv => whnf
    refine fkS h (fun h => ?_) (fun h => ?_)
    ·conv => whnf
     refine jeX hk4 h ?_
     conv => whnf
     refine WkF.step (Weak.keepS _ [0, 1, 10, 11, 12]) ?_
     conv => whnf
     exact WkF.refl _
    conv => whnf
    refine ioS (enc := (eI .i64)) h rfl (fun h => ?_)
    conv => whnf
    refine oxS (enc := (eI .i64)) h rfl (fun x6 h => ?_)
    conv => whnf
    refine fkS h (fun h => ?_) (fun h => ?_)
    ·conv => whnf
     exact rt (E := E_ListInt_Int) h rfl
    conv => whnf
    refine ⟨7, ?_⟩
    conv => whnf
    refine drS (by kernel_rfl) ?_
    conv => whnf
    refine ioS (enc := (eI .i64)) h rfl (fun h => ?_)
    conv => whnf
    refine seS (enc := (eI .i64)) h rfl (fun x7 => x5.B) (fun _ => rfl) (fun x7 h => ?_)
    conv => whnf
    exact jeS hk4 h (Weak.refl _)
   conv => whnf
   exact leS hn3 h (Weak.refl _)
  conv => whnf
  refine inS (fn := Tryz.f153) tab ⟨[(0, [0, 1]), (1, [0, 1, 5, 6]), (2, [0, 1, 5, 6, 13, 14, 15]), (3, [0, 1, 5, 6, 13, 14, 15, 16]), (4, [0, 1, 5, 6, 7, 8, 13, 14, 15]), (5, [0, 1, 5, 6, 7, 9, 13, 14, 15]), (6, [0, 1, 5, 6, 7, 9, 13, 14, 15, 45]), (7, [0, 1, 5, 6, 13, 14, 15]), (8, [0, 1, 5, 6, 13, 14, 15]), (9, [0, 5, 50]), (10, [5]), (11, [4])], [], [100045, 8], []⟩ 61 [.tmp 4] rfl rfl rfl rfl rfl rfl ?_
  conv => whnf
  refine lenS a0 Face.enc rfl ?_
  conv => whnf
  refine lpS (fun v8 => ⟨[(0, .l (.ptr 25 0)), (1, .l (.d (.int .i64 v2.2.2))), (5, .l (.d (.int .i64 v8.1))), (6, .l (.d (.int .i64 v8.2.1))), (13, .l (.d (.sl (a0.map Face.enc)))), (14, .l (.d (.int .i64 (a0.length : Int)))), (15, .l (.d (.int .i64 v8.2.2)))], 61, [⟨[(39, .l (.d (.int .i64 v2.2.2))), (38, .l (.mfn 153 25)), (37, .l (.own 10)), (36, .l (.d (.bool false))), (4, .l (.d (.int .i64 x1.1))), (7, .l (.mfn 152 25)), (8, .l (.mfn 153 25)), (9, .l (.own 10)), (10, .l (.d (.int .i64 v2.2.2))), (29, .l (.d (.int .i64 x1.1))), (30, .l (.d (.int .i64 v2.2.2))), (36, .l (.d (.bool false)))], 49⟩], [(25, [.d (.sl (a0.map Face.enc)), .own 23])], [(10, 3, 1, v2.1.map (eI .i64)), (23, 3, 1, v3.1.map (eI .i64))]⟩) h (Weak.refl _) (fun _ nx8 hn8 v8 h => ?_)
  conv => whnf
  refine fkS h (fun h => ?_) (fun h => ?_)
  ·conv => whnf
   refine jnS (fun w9 => ⟨[(0, .l (.ptr 25 0)), (1, .l (.d (.int .i64 v2.2.2))), (5, .l (.d (.int .i64 w9.1))), (6, .l (.d (.int .i64 w9.2))), (13, .l (.d (.sl (a0.map Face.enc)))), (14, .l (.d (.int .i64 (a0.length : Int)))), (15, .l (.d (.int .i64 v8.2.2)))], 61, [⟨[(39, .l (.d (.int .i64 v2.2.2))), (38, .l (.mfn 153 25)), (37, .l (.own 10)), (36, .l (.d (.bool false))), (4, .l (.d (.int .i64 x1.1))), (7, .l (.mfn 152 25)), (8, .l (.mfn 153 25)), (9, .l (.own 10)), (10, .l (.d (.int .i64 v2.2.2))), (29, .l (.d (.int .i64 x1.1))), (30, .l (.d (.int .i64 v2.2.2))), (36, .l (.d (.bool false)))], 49⟩], [(25, [.d (.sl (a0.map Face.enc)), .own 23])], [(10, 3, 1, v2.1.map (eI .i64)), (23, 3, 1, v3.1.map (eI .i64))]⟩) h (fun k9 hk9 h => ?_) (fun w9 h => ?_)
   ·conv => whnf
    refine ixS (enc := Face.enc) h rfl (fun _ => rfl) (fun x10 h => ?_)
    conv => whnf
    refine ⟨8, ?_⟩
    conv => whnf
    refine dvS h (fun h => ?_)
    conv => whnf
    refine drS (by kernel_rfl) ?_
    conv => whnf
    refine jnS (fun w11 => ⟨[(0, .l (.ptr 25 0)), (1, .l (.d (.int .i64 v2.2.2))), (5, .l (.d (.int .i64 v8.1))), (6, .l (.d (.int .i64 v8.2.1))), (7, .l (.d (.int .i64 v8.2.2))), (9, .l (.d (.int .i64 (wr ((wr (v2.2.2 - (v2.2.2.tmod x10.P))) + x10.P))))), (13, .l (.d (.sl (a0.map Face.enc)))), (14, .l (.d (.int .i64 (a0.length : Int)))), (15, .l (.d (.int .i64 v8.2.2))), (45, .l (.d (.bool w11)))], 61, [⟨[(39, .l (.d (.int .i64 v2.2.2))), (38, .l (.mfn 153 25)), (37, .l (.own 10)), (36, .l (.d (.bool false))), (4, .l (.d (.int .i64 x1.1))), (7, .l (.mfn 152 25)), (8, .l (.mfn 153 25)), (9, .l (.own 10)), (10, .l (.d (.int .i64 v2.2.2))), (29, .l (.d (.int .i64 x1.1))), (30, .l (.d (.int .i64 v2.2.2))), (36, .l (.d (.bool false)))], 49⟩], [(25, [.d (.sl (a0.map Face.enc)), .own 23])], [(10, 3, 1, v2.1.map (eI .i64)), (23, 3, 1, v3.1.map (eI .i64))]⟩) h (fun k11 hk11 h => ?_) (fun w11 h => ?_)
    ·conv => whnf
     refine ioS (enc := (eI .i64)) h rfl (fun h => ?_)
     conv => whnf
     refine oxS (enc := (eI .i64)) h rfl (fun x12 h => ?_)
     conv => whnf
     refine fkS h (fun h => ?_) (fun h => ?_)
     ·conv => whnf
      refine fkS h (fun h => ?_) (fun h => ?_)
      ·conv => whnf
       exact jeS hk11 h (Weak.refl _)
      conv => whnf
      exact jeS hk11 h (Weak.refl _)
     conv => whnf
     exact jeS hk11 h (Weak.refl _)
    conv => whnf
    refine fkS h (fun h => ?_) (fun h => ?_)
    ·conv => whnf
     exact jeS hk9 h (Weak.refl _)
    conv => whnf
    refine jeX hk9 h ?_
    conv => whnf
    refine WkF.step (Weak.keepS _ [0, 1, 5, 6, 13, 14, 15]) ?_
    conv => whnf
    exact WkF.refl _
   conv => whnf
   exact leS hn8 h (Weak.refl _)
  conv => whnf
  refine fkS h (fun h => ?_) (fun h => ?_)
  ·conv => whnf
   refine ioS (enc := (eI .i64)) h rfl (fun h => ?_)
   conv => whnf
   refine oxS (enc := (eI .i64)) h rfl (fun x13 h => ?_)
   conv => whnf
   refine ioS (enc := (eI .i64)) h rfl (fun h => ?_)
   conv => whnf
   refine seS (enc := (eI .i64)) h rfl (fun x14 => (wr (x13 - (1 : Int)))) (fun _ => rfl) (fun x14 h => ?_)
   conv => whnf
   refine liS ([v8.1] : List Int) (eI .i64) rfl rfl ?_
   conv => whnf
   refine apS (enc := (eI .i64)) (l1 := v2.1) (l2 := ([v8.1] : List Int)) h rfl rfl (fun _ => rfl) (fun h => ?_)
   conv => whnf
   exact leS hn2 h (Weak.refl _)
  conv => whnf
  refine liS ([v8.1] : List Int) (eI .i64) rfl rfl ?_
  conv => whnf
  refine apS (enc := (eI .i64)) (l1 := v2.1) (l2 := ([v8.1] : List Int)) h rfl rfl (fun _ => rfl) (fun h => ?_)
  conv => whnf
  exact leS hn2 h (Weak.refl _)
 conv => whnf
 refine inS (fn := Tryz.f152) tab ⟨[(0, [0, 1]), (1, [0, 1, 10, 11, 12]), (2, [0, 1, 10, 11, 12, 13]), (3, [0, 1, 5, 6, 10, 11, 12]), (4, [0, 1, 5, 6, 10, 11, 12, 21]), (5, [0, 1, 5, 6, 10, 11, 12, 29]), (6, [4]), (7, [0, 1, 10, 11, 12]), (8, [0, 1, 10, 11, 12]), (9, [4])], [], [8], []⟩ 39 [.tmp 4] rfl rfl rfl rfl rfl rfl ?_
 conv => whnf
 refine lenS a0 Face.enc rfl ?_
 conv => whnf
 refine lpS (fun v15 => ⟨[(0, .l (.ptr 25 0)), (1, .l (.d (.int .i64 x1.1))), (10, .l (.d (.sl (a0.map Face.enc)))), (11, .l (.d (.int .i64 (a0.length : Int)))), (12, .l (.d (.int .i64 v15.2)))], 39, [⟨[(45, .l (.d (.int .i64 x1.1))), (44, .l (.mfn 152 25)), (31, .l (.d (.bool false))), (4, .l (.d (.int .i64 x1.1))), (7, .l (.mfn 152 25)), (8, .l (.mfn 153 25)), (9, .l (.own 10)), (29, .l (.d (.int .i64 x1.1))), (30, .l (.d (.int .i64 v2.2.2))), (31, .l (.d (.bool (decide (v2.2.2 < x1.1)))))], 49⟩], [(25, [.d (.sl (a0.map Face.enc)), .own 23])], [(10, 3, 1, v2.1.map (eI .i64)), (23, 3, 1, v15.1.map (eI .i64))]⟩) h (Weak.refl _) (fun _ nx15 hn15 v15 h => ?_)
 conv => whnf
 refine fkS h (fun h => ?_) (fun h => ?_)
 ·conv => whnf
  refine jnS (fun w16 => ⟨[(0, .l (.ptr 25 0)), (1, .l (.d (.int .i64 x1.1))), (10, .l (.d (.sl (a0.map Face.enc)))), (11, .l (.d (.int .i64 (a0.length : Int)))), (12, .l (.d (.int .i64 v15.2)))], 39, [⟨[(45, .l (.d (.int .i64 x1.1))), (44, .l (.mfn 152 25)), (31, .l (.d (.bool false))), (4, .l (.d (.int .i64 x1.1))), (7, .l (.mfn 152 25)), (8, .l (.mfn 153 25)), (9, .l (.own 10)), (29, .l (.d (.int .i64 x1.1))), (30, .l (.d (.int .i64 v2.2.2))), (31, .l (.d (.bool (decide (v2.2.2 < x1.1)))))], 49⟩], [(25, [.d (.sl (a0.map Face.enc)), .own 23])], [(10, 3, 1, v2.1.map (eI .i64)), (23, 3, 1, w16.map (eI .i64))]⟩) h (fun k16 hk16 h => ?_) (fun w16 h => ?_)
  ·conv => whnf
   refine ixS (enc := Face.enc) h rfl (fun _ => rfl) (fun x17 h => ?_)
   conv => whnf
   refine dvS h (fun h => ?_)
   conv => whnf
   refine fkS h (fun h => ?_) (fun h => ?_)
   ·conv => whnf
    refine jeX hk16 h ?_
    conv => whnf
    refine WkF.step (Weak.keepS _ [0, 1, 10, 11, 12]) ?_
    conv => whnf
    exact WkF.refl _
   conv => whnf
   refine ioS (enc := (eI .i64)) h rfl (fun h => ?_)
   conv => whnf
   refine oxS (enc := (eI .i64)) h rfl (fun x18 h => ?_)
   conv => whnf
   refine fkS h (fun h => ?_) (fun h => ?_)
   ·conv => whnf
    exact rt (E := E_ListInt_Int) h rfl
   conv => whnf
   refine ⟨7, ?_⟩
   conv => whnf
   refine drS (by kernel_rfl) ?_
   conv => whnf
   refine ioS (enc := (eI .i64)) h rfl (fun h => ?_)
   conv => whnf
   refine seS (enc := (eI .i64)) h rfl (fun x19 => x17.B) (fun _ => rfl) (fun x19 h => ?_)
   conv => whnf
   exact jeS hk16 h (Weak.refl _)
  conv => whnf
  exact leS hn15 h (Weak.refl _)
 conv => whnf
 exact rt (E := E_ListInt_Int) h rfl
end Go.Proofs.YtldlcdnhdedoeaaGreat
namespace Go.Proofs.YtldlcdnhdedoeaaGreat
open Go Go.VC
noncomputable def ref12_Frame (a0 : List Face) : Option (Int × Int) :=
 fk (decide ((a0.length : Int) > (4 : Int))) (some ((0 : Int), (1 : Int))) (lp (fun nx1 (v1 : Int) => fk (decide (v1 < (a0.length : Int))) (ix a0 v1 fun x2 => bnd (ref09_Right x2) fun x3 => fk (!x3) (some ((0 : Int), (1 : Int))) (nx1 (wr (v1 + (1 : Int))))) (lp (fun nx4 (v4 : Int) => fk (decide (v4 ≤ (240 : Int))) (lp (fun nx5 (v5 : Bool × Int) => fk (decide (v5.2 < (a0.length : Int))) (jn (fun (w6 : Bool) => nx5 (w6, (wr (v5.2 + (1 : Int))))) (fun k6 => fk v5.1 (ix a0 v5.2 fun x7 => ck (decide (x7.P ≠ 0)) (k6 (decide ((v4.tmod x7.P) = (0 : Int))))) (k6 false))) (fk v5.1 (some (v4, (0 : Int))) (nx4 (wr (v4 + (1 : Int)))))) FU (true, (0 : Int))) (some ((0 : Int), (5 : Int)))) FU (1 : Int))) FU (0 : Int))
theorem ref12_Frame_w (a0 : List Face) (r : Int × Int) (h : ref12_Frame a0 = some r) : Go.VC.Spec Tryz.prog 116 [.d (.sl (a0.map Face.enc))] (fun y => y = E_Int_Int r) := by
 refine Go.VC.Spec.of_xc (args := [.d (.sl (a0.map Face.enc))]) (fn := Tryz.f116) tab ⟨[(0, [0]), (1, [0, 10]), (2, [2, 3]), (3, [0, 4]), (4, [0, 4, 14]), (5, [0, 4]), (6, [0, 4, 22]), (7, [2, 3]), (8, [0, 5]), (9, [0, 5, 24]), (10, [0, 5]), (11, [0, 5, 6]), (12, [0, 5, 6, 7]), (13, [0, 5, 6, 7, 30]), (14, [0, 5, 6, 7]), (15, [0, 5, 6, 7]), (16, [0, 5, 44]), (17, [2, 3]), (18, [2, 3])], [], [14], []⟩ 46 [.tmp 2, .tmp 3] rfl rfl rfl rfl rfl rfl ?_
 conv => whnf
 refine lenS a0 Face.enc rfl ?_
 conv => whnf
 refine fkS h (fun h => ?_) (fun h => ?_)
 ·conv => whnf
  exact rt (E := E_Int_Int) h rfl
 conv => whnf
 refine lpS (fun v1 => ⟨[(0, .l (.d (.sl (a0.map Face.enc)))), (4, .l (.d (.int .i64 v1)))], 46, [], [], []⟩) h (Weak.refl _) (fun _ nx1 hn1 v1 h => ?_)
 conv => whnf
 refine lenS a0 Face.enc rfl ?_
 conv => whnf
 refine fkS h (fun h => ?_) (fun h => ?_)
 ·conv => whnf
  refine ixS (enc := Face.enc) h rfl (fun _ => rfl) (fun x2 h => ?_)
  conv => whnf
  refine caS (E := E_Bool) h (ref09_Right_w x2) rfl (fun _ => rfl) (fun x3 h => ?_)
  conv => whnf
  refine fkS h (fun h => ?_) (fun h => ?_)
  ·conv => whnf
   exact rt (E := E_Int_Int) h rfl
  conv => whnf
  exact leS hn1 h (Weak.refl _)
 conv => whnf
 refine lpS (fun v4 => ⟨[(0, .l (.d (.sl (a0.map Face.enc)))), (5, .l (.d (.int .i64 v4)))], 46, [], [], []⟩) h (Weak.refl _) (fun _ nx4 hn4 v4 h => ?_)
 conv => whnf
 refine fkS h (fun h => ?_) (fun h => ?_)
 ·conv => whnf
  refine lpS (fun v5 => ⟨[(0, .l (.d (.sl (a0.map Face.enc)))), (5, .l (.d (.int .i64 v4))), (6, .l (.d (.bool v5.1))), (7, .l (.d (.int .i64 v5.2)))], 46, [], [], []⟩) h (Weak.refl _) (fun _ nx5 hn5 v5 h => ?_)
  conv => whnf
  refine lenS a0 Face.enc rfl ?_
  conv => whnf
  refine fkS h (fun h => ?_) (fun h => ?_)
  ·conv => whnf
   refine jnS (fun w6 => ⟨[(0, .l (.d (.sl (a0.map Face.enc)))), (5, .l (.d (.int .i64 v4))), (6, .l (.d (.bool w6))), (7, .l (.d (.int .i64 v5.2)))], 46, [], [], []⟩) h (fun k6 hk6 h => ?_) (fun w6 h => ?_)
   ·conv => whnf
    refine fkS h (fun h => ?_) (fun h => ?_)
    ·conv => whnf
     refine ixS (enc := Face.enc) h rfl (fun _ => rfl) (fun x7 h => ?_)
     conv => whnf
     refine dvS h (fun h => ?_)
     conv => whnf
     exact jeS hk6 h (Weak.refl _)
    conv => whnf
    exact jeS hk6 h (Weak.refl _)
   conv => whnf
   exact leS hn5 h (Weak.refl _)
  conv => whnf
  refine fkS h (fun h => ?_) (fun h => ?_)
  ·conv => whnf
   exact rt (E := E_Int_Int) h rfl
  conv => whnf
  exact leS hn4 h (Weak.refl _)
 conv => whnf
 exact rt (E := E_Int_Int) h rfl
end Go.Proofs.YtldlcdnhdedoeaaGreat
namespace Go.Proofs.YtldlcdnhdedoeaaGreat
open Go Go.VC
noncomputable def ref12_Had (a0 : List Int) (a1 : Int) (a2 : Int) : Option Int :=
 lp (fun nx1 (v1 : Int × Int) => fk (decide (v1.2 < (a0.length : Int))) (jn (fun (w2 : Int) => nx1 (w2, (wr (v1.2 + (1 : Int))))) (fun k2 => ix a0 v1.2 fun x3 => fk (decide (x3 = a1)) (k2 (wr (v1.1 + (1 : Int)))) (k2 v1.1))) (some v1.1)) FU ((0 : Int), a2)
theorem ref12_Had_w (a0 : List Int) (a1 : Int) (a2 : Int) (r : Int) (h : ref12_Had a0 a1 a2 = some r) : Go.VC.Spec Tryz.prog 118 [.d (.sl (a0.map (eI .i64))), .d (.int .i64 a1), .d (.int .i64 a2)] (fun y => y = E_Int r) := by
 refine Go.VC.Spec.of_xc (args := [.d (.sl (a0.map (eI .i64))), .d (.int .i64 a1), .d (.int .i64 a2)]) (fn := Tryz.f118) tab ⟨[(0, [0, 1, 2]), (1, [0, 1, 2, 7]), (2, [0, 1, 7, 8]), (3, [0, 1, 7, 8, 13]), (4, [0, 1, 7, 8]), (5, [0, 1, 7, 8, 21]), (6, [0, 1, 7, 8]), (7, [6])], [], [4], []⟩ 25 [.tmp 6] rfl rfl rfl rfl rfl rfl ?_
 conv => whnf
 refine lpS (fun v1 => ⟨[(0, .l (.d (.sl (a0.map (eI .i64))))), (1, .l (.d (.int .i64 a1))), (7, .l (.d (.int .i64 v1.1))), (8, .l (.d (.int .i64 v1.2)))], 25, [], [], []⟩) h (Weak.refl _) (fun _ nx1 hn1 v1 h => ?_)
 conv => whnf
 refine lenS a0 (eI .i64) rfl ?_
 conv => whnf
 refine fkS h (fun h => ?_) (fun h => ?_)
 ·conv => whnf
  refine jnS (fun w2 => ⟨[(0, .l (.d (.sl (a0.map (eI .i64))))), (1, .l (.d (.int .i64 a1))), (7, .l (.d (.int .i64 w2))), (8, .l (.d (.int .i64 v1.2)))], 25, [], [], []⟩) h (fun k2 hk2 h => ?_) (fun w2 h => ?_)
  ·conv => whnf
   refine ixS (enc := (eI .i64)) h rfl (fun _ => rfl) (fun x3 h => ?_)
   conv => whnf
   refine fkS h (fun h => ?_) (fun h => ?_)
   ·conv => whnf
    exact jeS hk2 h (Weak.refl _)
   conv => whnf
   refine jeX hk2 h ?_
   conv => whnf
   refine WkF.step (Weak.keepS _ [0, 1, 7, 8]) ?_
   conv => whnf
   exact WkF.refl _
  conv => whnf
  exact leS hn1 h (Weak.refl _)
 conv => whnf
 exact rt (E := E_Int) h rfl
end Go.Proofs.YtldlcdnhdedoeaaGreat
namespace Go.Proofs.YtldlcdnhdedoeaaGreat
open Go Go.VC
noncomputable def ref12_Wants (a0 : List Face) (a1 : List Int) (a2 : Int) (a3 : Int) : Option Int :=
 ix a0 a2 fun x1 => ix a0 a2 fun x2 => ck (decide (x2.P ≠ 0)) (ix a0 a2 fun x3 => bnd (ref12_Had a1 a2 (wr ((wr (a3.tdiv x2.P)) * x3.P))) fun x4 => some (wr (x1.B - x4)))
theorem ref12_Wants_w (a0 : List Face) (a1 : List Int) (a2 : Int) (a3 : Int) (r : Int) (h : ref12_Wants a0 a1 a2 a3 = some r) : Go.VC.Spec Tryz.prog 117 [.d (.sl (a0.map Face.enc)), .d (.sl (a1.map (eI .i64))), .d (.int .i64 a2), .d (.int .i64 a3)] (fun y => y = E_Int r) := by
 refine Go.VC.Spec.of_xc (args := [.d (.sl (a0.map Face.enc)), .d (.sl (a1.map (eI .i64))), .d (.int .i64 a2), .d (.int .i64 a3)]) (fn := Tryz.f117) tab ⟨[(0, [0, 1, 2, 3]), (1, [8])], [], [], []⟩ 31 [.tmp 8] rfl rfl rfl rfl rfl rfl ?_
 conv => whnf
 refine ⟨21, ?_⟩
 conv => whnf
 refine ixS (enc := Face.enc) h rfl (fun _ => rfl) (fun x1 h => ?_)
 conv => whnf
 refine ixS (enc := Face.enc) h rfl (fun _ => rfl) (fun x2 h => ?_)
 conv => whnf
 refine dvS h (fun h => ?_)
 conv => whnf
 refine ixS (enc := Face.enc) h rfl (fun _ => rfl) (fun x3 h => ?_)
 conv => whnf
 refine daS (E := E_Int) h (ref12_Had_w a1 a2 (wr ((wr (a3.tdiv x2.P)) * x3.P))) (fun _ => rfl) (fun x4 h => ?_)
 conv => whnf
 refine drS (by kernel_rfl) ?_
 conv => whnf
 exact rt (E := E_Int) h rfl
end Go.Proofs.YtldlcdnhdedoeaaGreat
namespace Go.Proofs.YtldlcdnhdedoeaaGreat
open Go Go.VC
noncomputable def ref12_Lay (a0 : List Face) : Option ((List Int) × Int) :=
 bnd (ref12_Frame a0) fun x1 => fk (!decide (x1.2 = (0 : Int))) (some ([], x1.2)) (lp (fun nx2 (v2 : (List Int) × Int) => fk (decide (v2.2 < x1.1)) (lp (fun nx3 (v3 : Int × Int) => fk (decide (v3.2 ≥ (0 : Int))) (jn (fun (w4 : Int) => nx3 (w4, (wr (v3.2 - (1 : Int))))) (fun k4 => jn (fun (w5 : Bool) => fk w5 (k4 v3.2) (k4 v3.1)) (fun k5 => bnd (ref12_Wants a0 v2.1 v3.2 v2.2) fun x6 => fk (decide (x6 > (0 : Int))) (fk (decide (v3.1 < (0 : Int))) (k5 true) (ix a0 v3.2 fun x7 => ck (decide (x7.P ≠ 0)) (ix a0 v3.2 fun x8 => ix a0 v3.1 fun x9 => ck (decide (x9.P ≠ 0)) (ix a0 v3.1 fun x10 => k5 (decide ((wr ((wr ((wr (v2.2.tdiv x7.P)) + (1 : Int))) * x8.P)) ≤ (wr ((wr ((wr (v2.2.tdiv x9.P)) + (1 : Int))) * x10.P)))))))) (k5 false)))) (ck (decide ((v2.1.length + ([v3.1] : List Int).length) * 8 ≤ 140737488355328)) (lp (fun nx11 (v11 : Int) => fk (decide (v11 < (a0.length : Int))) (jn (fun (w12 : Bool) => fk w12 (some ([], (7 : Int))) (nx11 (wr (v11 + (1 : Int))))) (fun k12 => ix a0 v11 fun x13 => ck (decide (x13.P ≠ 0)) (fk (decide (((wr (v2.2 + (1 : Int))).tmod x13.P) = (0 : Int))) (ix a0 v11 fun x14 => bnd (ref12_Had (v2.1 ++ ([v3.1] : List Int)) v11 (wr ((wr (v2.2 + (1 : Int))) - x14.P))) fun x15 => ix a0 v11 fun x16 => k12 (decide (x15 < x16.B))) (k12 false)))) (nx2 (v2.1 ++ ([v3.1] : List Int), (wr (v2.2 + (1 : Int)))))) FU (0 : Int)))) FU ((-1 : Int), (wr ((a0.length : Int) - (1 : Int))))) (some (v2.1, (0 : Int)))) FU ([], (0 : Int)))
theorem ref12_Lay_w (a0 : List Face) (r : (List Int) × Int) (h : ref12_Lay a0 = some r) : Go.VC.Spec Tryz.prog 58 [.d (.sl (a0.map Face.enc))] (fun y => y = E_ListInt_Int r) := by
 refine Go.VC.Spec.of_xc (args := [.d (.sl (a0.map Face.enc))]) (fn := Tryz.f58) tab ⟨[(0, [0]), (1, [0, 4, 5]), (2, [0, 4, 5, 18]), (3, [2, 3]), (4, [0, 4, 6]), (5, [0, 4, 6, 7]), (6, [0, 4, 6, 7, 22]), (7, [0, 4, 6, 7]), (8, [0, 4, 6, 7, 8]), (9, [0, 4, 6, 7, 8, 9]), (10, [0, 4, 6, 7, 8, 9, 29]), (11, [0, 4, 6, 7, 8, 9]), (12, [0, 4, 6, 7, 8, 9, 72]), (13, [0, 4, 6, 7, 8, 9]), (14, [0, 4, 6, 7]), (15, [0, 4, 6, 7, 10]), (16, [0, 4, 6, 7, 10, 81]), (17, [0, 4, 6, 7, 10]), (18, [0, 4, 6, 7, 10, 11]), (19, [0, 4, 6, 7, 10, 111]), (20, [2, 3]), (21, [2, 3])], [], [100072, 11, 100111], []⟩ 113 [.tmp 2, .tmp 3] rfl rfl rfl rfl rfl rfl ?_
 conv => whnf
 refine caS (E := E_Int_Int) h (ref12_Frame_w a0) rfl (fun _ => rfl) (fun x1 h => ?_)
 conv => whnf
 refine fkS h (fun h => ?_) (fun h => ?_)
 ·conv => whnf
  exact rt (E := E_ListInt_Int) h rfl
 conv => whnf
 refine lpS (fun v2 => ⟨[(0, .l (.d (.sl (a0.map Face.enc)))), (4, .l (.d (.int .i64 x1.1))), (6, .l (.own 7)), (7, .l (.d (.int .i64 v2.2)))], 113, [], [], [(7, 3, 1, v2.1.map (eI .i64))]⟩) h (Weak.trans (Weak.nilO _ 6 7 3 1 rfl) (Weak.refl _)) (fun _ nx2 hn2 v2 h => ?_)
 conv => whnf
 refine fkS h (fun h => ?_) (fun h => ?_)
 ·conv => whnf
  refine lenS a0 Face.enc rfl ?_
  conv => whnf
  refine lpS (fun v3 => ⟨[(0, .l (.d (.sl (a0.map Face.enc)))), (4, .l (.d (.int .i64 x1.1))), (6, .l (.own 7)), (7, .l (.d (.int .i64 v2.2))), (8, .l (.d (.int .i64 v3.1))), (9, .l (.d (.int .i64 v3.2)))], 113, [], [], [(7, 3, 1, v2.1.map (eI .i64))]⟩) h (Weak.refl _) (fun _ nx3 hn3 v3 h => ?_)
  conv => whnf
  refine fkS h (fun h => ?_) (fun h => ?_)
  ·conv => whnf
   refine jnS (fun w4 => ⟨[(0, .l (.d (.sl (a0.map Face.enc)))), (4, .l (.d (.int .i64 x1.1))), (6, .l (.own 7)), (7, .l (.d (.int .i64 v2.2))), (8, .l (.d (.int .i64 w4))), (9, .l (.d (.int .i64 v3.2)))], 113, [], [], [(7, 3, 1, v2.1.map (eI .i64))]⟩) h (fun k4 hk4 h => ?_) (fun w4 h => ?_)
   ·conv => whnf
    refine jnS (fun w5 => ⟨[(0, .l (.d (.sl (a0.map Face.enc)))), (4, .l (.d (.int .i64 x1.1))), (6, .l (.own 7)), (7, .l (.d (.int .i64 v2.2))), (8, .l (.d (.int .i64 v3.1))), (9, .l (.d (.int .i64 v3.2))), (72, .l (.d (.bool w5)))], 113, [], [], [(7, 3, 1, v2.1.map (eI .i64))]⟩) h (fun k5 hk5 h => ?_) (fun w5 h => ?_)
    ·conv => whnf
     refine ⟨41, ?_⟩
     conv => whnf
     refine daS (E := E_Int) h (ref12_Wants_w a0 v2.1 v3.2 v2.2) (fun _ => rfl) (fun x6 h => ?_)
     conv => whnf
     refine fkS h (fun h => ?_) (fun h => ?_)
     ·conv => whnf
      refine fkS h (fun h => ?_) (fun h => ?_)
      ·conv => whnf
       refine drS (by kernel_rfl) ?_
       conv => whnf
       exact jeS hk5 h (Weak.refl _)
      conv => whnf
      refine ixS (enc := Face.enc) h rfl (fun _ => rfl) (fun x7 h => ?_)
      conv => whnf
      refine dvS h (fun h => ?_)
      conv => whnf
      refine ixS (enc := Face.enc) h rfl (fun _ => rfl) (fun x8 h => ?_)
      conv => whnf
      refine ixS (enc := Face.enc) h rfl (fun _ => rfl) (fun x9 h => ?_)
      conv => whnf
      refine dvS h (fun h => ?_)
      conv => whnf
      refine ixS (enc := Face.enc) h rfl (fun _ => rfl) (fun x10 h => ?_)
      conv => whnf
      refine drS (by kernel_rfl) ?_
      conv => whnf
      exact jeS hk5 h (Weak.refl _)
     conv => whnf
     refine drS (by kernel_rfl) ?_
     conv => whnf
     exact jeS hk5 h (Weak.refl _)
    conv => whnf
    refine fkS h (fun h => ?_) (fun h => ?_)
    ·conv => whnf
     exact jeS hk4 h (Weak.refl _)
    conv => whnf
    refine jeX hk4 h ?_
    conv => whnf
    refine WkF.step (Weak.keepS _ [0, 4, 6, 7, 8, 9]) ?_
    conv => whnf
    exact WkF.refl _
   conv => whnf
   exact leS hn3 h (Weak.refl _)
  conv => whnf
  refine liS ([v3.1] : List Int) (eI .i64) rfl rfl ?_
  conv => whnf
  refine apS (enc := (eI .i64)) (l1 := v2.1) (l2 := ([v3.1] : List Int)) h rfl rfl (fun _ => rfl) (fun h => ?_)
  conv => whnf
  refine lpS (fun v11 => ⟨[(0, .l (.d (.sl (a0.map Face.enc)))), (4, .l (.d (.int .i64 x1.1))), (6, .l (.own 7)), (7, .l (.d (.int .i64 v2.2))), (10, .l (.d (.int .i64 v11)))], 113, [], [], [(7, 3, 1, (v2.1 ++ ([v3.1] : List Int)).map (eI .i64))]⟩) h (Weak.refl _) (fun _ nx11 hn11 v11 h => ?_)
  conv => whnf
  refine lenS a0 Face.enc rfl ?_
  conv => whnf
  refine fkS h (fun h => ?_) (fun h => ?_)
  ·conv => whnf
   refine jnS (fun w12 => ⟨[(0, .l (.d (.sl (a0.map Face.enc)))), (4, .l (.d (.int .i64 x1.1))), (6, .l (.own 7)), (7, .l (.d (.int .i64 v2.2))), (10, .l (.d (.int .i64 v11))), (111, .l (.d (.bool w12)))], 113, [], [], [(7, 3, 1, (v2.1 ++ ([v3.1] : List Int)).map (eI .i64))]⟩) h (fun k12 hk12 h => ?_) (fun w12 h => ?_)
   ·conv => whnf
    refine ⟨26, ?_⟩
    conv => whnf
    refine ixS (enc := Face.enc) h rfl (fun _ => rfl) (fun x13 h => ?_)
    conv => whnf
    refine dvS h (fun h => ?_)
    conv => whnf
    refine fkS h (fun h => ?_) (fun h => ?_)
    ·conv => whnf
     refine ixS (enc := Face.enc) h rfl (fun _ => rfl) (fun x14 h => ?_)
     conv => whnf
     refine daS (E := E_Int) h (ref12_Had_w (v2.1 ++ ([v3.1] : List Int)) v11 (wr ((wr (v2.2 + (1 : Int))) - x14.P))) (fun _ => rfl) (fun x15 h => ?_)
     conv => whnf
     refine ixS (enc := Face.enc) h rfl (fun _ => rfl) (fun x16 h => ?_)
     conv => whnf
     refine drS (by kernel_rfl) ?_
     conv => whnf
     exact jeS hk12 h (Weak.refl _)
    conv => whnf
    refine drS (by kernel_rfl) ?_
    conv => whnf
    exact jeS hk12 h (Weak.refl _)
   conv => whnf
   refine fkS h (fun h => ?_) (fun h => ?_)
   ·conv => whnf
    exact rt (E := E_ListInt_Int) h rfl
   conv => whnf
   exact leS hn11 h (Weak.refl _)
  conv => whnf
  exact leS hn2 h (Weak.refl _)
 conv => whnf
 exact rt (E := E_ListInt_Int) h rfl
end Go.Proofs.YtldlcdnhdedoeaaGreat
namespace Go.Proofs.YtldlcdnhdedoeaaGreat
open Go Go.VC
/-! The frame. -/
def facesP (l : List Face) : Prop := (∀ f ∈ l, faceP f) ∧ l.length ≤ 4
noncomputable instance (l : List Face) : Decidable (facesP l) := Classical.propDecidable _
theorem faceP.P {f : Face} (h : faceP f) : 1 ≤ f.P ∧ f.P ≤ 200 ∧ 1 ≤ f.B ∧ f.B ≤ 200 := by unfold faceP at h; omega
def allD (l : List Face) (n : Nat) : Prop := ∀ f ∈ l, f.P.toNat ∣ n
instance (l : List Face) (n : Nat) : Decidable (allD l n) := by unfold allD; infer_instance
/-! The ticks. -/
def wv (w : List Int) (i : Nat) : Int := (w[i]?).getD 0
def begun (l : List Face) (w : List Int) (t : Nat) : List Int := (List.range l.length).map fun i => match l[i]? with | some f => if f.P.toNat ∣ t then f.B else wv w i | none => 0
def denyP (l : List Face) (w : List Int) (t : Nat) : Prop := ∃ (i : Nat) (f : Face), l[i]? = some f ∧ f.P.toNat ∣ t ∧ 0 < wv w i
def byV (f : Face) (t : Nat) : Nat := (t / f.P.toNat + 1) * f.P.toNat
def isNext (l : List Face) (w : List Int) (t k : Nat) (r : Int) : Prop :=
 (r = -1 ∧ ∀ i, i < k → wv w i ≤ 0) ∨ ∃ (i : Nat) (f : Face), i < k ∧ r = (i : Int) ∧ l[i]? = some f ∧ 0 < wv w i ∧ ∀ (j : Nat) (g : Face), j < k → l[j]? = some g → 0 < wv w j → byV f t < byV g t ∨ (byV f t = byV g t ∧ i ≤ j)
def dec (w : List Int) (r : Int) : List Int := if r = -1 then w else w.set r.toNat (wv w r.toNat - 1)
inductive LayR (l : List Face) : Nat → List Int → List Int → Prop
 | zero : LayR l 0 [] (List.replicate l.length 0)
 | step {t : Nat} {out w : List Int} {r : Int} (h : LayR l t out w) (hd : ¬ denyP l w t) (hn : isNext l (begun l w t) t l.length r) : LayR l (t + 1) (out ++ [r]) (dec (begun l w t) r)
theorem LayR.before {l : List Face} {t : Nat} {o w : List Int} (h : LayR l t o w) : ∀ s, s < t → ∃ o' w', LayR l s o' w' ∧ ¬ denyP l w' s := by
 induction h with
 | zero => intro s hs; omega
 | step h hd hn ih =>
  rename_i t out w r
  intro s hs
  by_cases e : s = t
  ·subst e; exact ⟨_, _, h, hd⟩
  ·exact ih s (by omega)
theorem begun_len (l : List Face) (w : List Int) (t : Nat) : (begun l w t).length = l.length := by unfold begun; simp
theorem begun_at {l : List Face} {w : List Int} {t i : Nat} {f : Face} (h : l[i]? = some f) : wv (begun l w t) i = if f.P.toNat ∣ t then f.B else wv w i := by
 have hi := (List.getElem?_eq_some_iff.1 h).1
 unfold begun
 unfold wv
 rw [List.getElem?_map, List.getElem?_range hi]
 simp only [Option.map_some, h, Option.getD_some]
/-- What is kept: sizes. -/
theorem LayR.ok {l : List Face} (hl : facesP l) {t : Nat} {o w : List Int} (h : LayR l t o w) : o.length = t ∧ w.length = l.length ∧ (∀ i, 0 ≤ wv w i ∧ wv w i ≤ 200) ∧ ∀ x ∈ o, -1 ≤ x ∧ x < (l.length : Int) := by
 induction h with
 | zero =>
  refine ⟨rfl, by simp, fun i => ?_, fun x h => (List.not_mem_nil h).elim⟩
  unfold wv
  rw [List.getElem?_replicate]
  split <;> simp
 | step h hd hn ih =>
  rename_i t out w r
  obtain ⟨a, b, c, d⟩ := ih
  have hb : ∀ i, 0 ≤ wv (begun l w t) i ∧ wv (begun l w t) i ≤ 200 := fun i => by
   cases hf : l[i]? with
   | some f =>
    rw [begun_at hf]
    have := (hl.1 f (List.mem_of_getElem? hf)).P
    split
    ·omega
    ·exact c i
   | none =>
    have : (begun l w t)[i]? = none := List.getElem?_eq_none (by rw [begun_len]; exact List.getElem?_eq_none_iff.1 hf)
    unfold wv; rw [this]; simp
  refine ⟨by simp [a], ?_, fun i => ?_, fun x hx => ?_⟩
  ·unfold dec; split
   ·exact begun_len _ _ _
   ·rw [List.length_set]; exact begun_len _ _ _
  ·rcases hn with ⟨rfl, _⟩ | ⟨j, f, hj, rfl, hf, hw, _⟩
   ·unfold dec; rw [if_pos rfl]; exact hb i
   ·unfold dec
    rw [if_neg (by omega), Int.toNat_natCast]
    by_cases e : j = i
    ·subst e
     have : wv ((begun l w t).set j (wv (begun l w t) j - 1)) j = wv (begun l w t) j - 1 := by
      unfold wv
      rw [List.getElem?_set_self (by rw [begun_len]; exact hj)]; rfl
     rw [this]
     have := hb j; omega
    ·have : wv ((begun l w t).set j (wv (begun l w t) j - 1)) i = wv (begun l w t) i := by
      unfold wv
      rw [List.getElem?_set_ne e]
     rw [this]; exact hb i
  ·rcases List.mem_append.1 hx with h' | h'
   ·exact d x h'
   ·rw [List.mem_singleton.1 h']
    rcases hn with ⟨rfl, _⟩ | ⟨j, f, hj, rfl, _⟩ <;> omega
end Go.Proofs.YtldlcdnhdedoeaaGreat
namespace Go.Proofs.YtldlcdnhdedoeaaGreat
open Go Go.VC
theorem eq_of_wv {u v : List Int} (hl : u.length = v.length) (h : ∀ i, wv u i = wv v i) : u = v := by
 refine List.ext_getElem hl fun i h1 h2 => ?_
 have := h i
 unfold wv at this
 rw [List.getElem?_eq_getElem h1, List.getElem?_eq_getElem h2] at this
 exact this
theorem wv_set {w : List Int} {i : Nat} {x : Int} (h : i < w.length) (j : Nat) : wv (w.set i x) j = if j = i then x else wv w j := by
 unfold wv
 by_cases e : j = i
 ·subst e; rw [if_pos rfl, List.getElem?_set_self h]; rfl
 ·rw [if_neg e, List.getElem?_set_ne (fun c => e c.symm)]
/-- What a round of 'begin' comes to, so far. -/
structure begI (l : List Face) (w : List Int) (t k : Nat) (u : List Int) : Prop where
 len : u.length = l.length
 v : ∀ i, wv u i = if i < k then wv (begun l w t) i else wv w i
 d : ∀ (i : Nat) (f : Face), i < k → l[i]? = some f → ¬ (f.P.toNat ∣ t ∧ 0 < wv w i)
theorem begI.zero {l : List Face} {w : List Int} {t : Nat} (h : w.length = l.length) : begI l w t 0 w := ⟨h, fun i => by rw [if_neg (by omega)], fun i f h => by omega⟩
theorem begI.keep {l : List Face} {w : List Int} {t k : Nat} {u : List Int} (h : begI l w t k u) (hk : k < l.length) (hn : ¬ l[k].P.toNat ∣ t) : begI l w t (k + 1) u := by
 have hf : l[k]? = some l[k] := List.getElem?_eq_getElem hk
 refine ⟨h.len, fun i => ?_, fun i f hi hfi => ?_⟩
 ·rw [h.v i]
  by_cases e : i = k
  ·subst e
   rw [if_neg (by omega), if_pos (by omega), begun_at hf, if_neg hn]
  ·by_cases c : i < k
   ·rw [if_pos c, if_pos (by omega)]
   ·rw [if_neg c, if_neg (by omega)]
 ·by_cases e : i = k
  ·subst e; rw [hf] at hfi; cases hfi; exact fun hh => hn hh.1
  ·exact h.d i f (by omega) hfi
theorem begI.set {l : List Face} {w : List Int} {t k : Nat} {u : List Int} (h : begI l w t k u) (hk : k < l.length) (hn : l[k].P.toNat ∣ t) (hw : ¬ 0 < wv w k) : begI l w t (k + 1) (u.set k l[k].B) := by
 have hf : l[k]? = some l[k] := List.getElem?_eq_getElem hk
 have hku : k < u.length := by rw [h.len]; exact hk
 refine ⟨by rw [List.length_set]; exact h.len, fun i => ?_, fun i f hi hfi => ?_⟩
 ·rw [wv_set hku]
  by_cases e : i = k
  ·subst e
   rw [if_pos rfl, if_pos (by omega), begun_at hf, if_pos hn]
  ·rw [if_neg e, h.v i]
   by_cases c : i < k
   ·rw [if_pos c, if_pos (by omega)]
   ·rw [if_neg c, if_neg (by omega)]
 ·by_cases e : i = k
  ·subst e; exact fun hh => hw hh.2
  ·exact h.d i f (by omega) hfi
theorem begI.at {l : List Face} {w : List Int} {t k : Nat} {u : List Int} (h : begI l w t k u) : wv u k = wv w k := by rw [h.v k, if_neg (by omega)]
theorem begI.end {l : List Face} {w : List Int} {t : Nat} {u : List Int} (h : begI l w t l.length u) : u = begun l w t ∧ ¬ denyP l w t := by
 refine ⟨eq_of_wv (by rw [h.len, begun_len]) fun i => ?_, ?_⟩
 ·rw [h.v i]
  by_cases c : i < l.length
  ·rw [if_pos c]
  ·rw [if_neg c]
   have hb : (begun l w t)[i]? = none := List.getElem?_eq_none (by rw [begun_len]; omega)
   have hu := h.v i
   rw [if_neg c] at hu
   have hu2 : u[i]? = none := List.getElem?_eq_none (by rw [h.len]; omega)
   rw [← hu]
   unfold wv
   rw [hb, hu2]
 ·rintro ⟨i, f, hf, a, b⟩
  exact h.d i f (List.getElem?_eq_some_iff.1 hf).1 hf ⟨a, b⟩
/-- Who is next, so far: with its time. -/
structure nxI (l : List Face) (u : List Int) (t k : Nat) (out due : Int) : Prop where
 n : isNext l u t k out
 d : ∀ (i : Nat) (f : Face), out = (i : Int) → l[i]? = some f → due = ((byV f t : Nat) : Int)
theorem nxI.zero {l : List Face} {u : List Int} {t : Nat} : nxI l u t 0 (-1) 0 := ⟨.inl ⟨rfl, fun i h => by omega⟩, fun i f h => by omega⟩
theorem nxI.keep {l : List Face} {u : List Int} {t k : Nat} {out due : Int} (h : nxI l u t k out due) (hk : k < l.length) (hc : ¬ (0 < wv u k ∧ (out = -1 ∨ ((byV l[k] t : Nat) : Int) < due))) : nxI l u t (k + 1) out due := by
 have hfk : l[k]? = some l[k] := List.getElem?_eq_getElem hk
 refine ⟨?_, h.d⟩
 rcases h.n with ⟨rfl, a⟩ | ⟨i, f, hi, rfl, hf, hw, a⟩
 ·refine .inl ⟨rfl, fun i hi => ?_⟩
  by_cases e : i = k
  ·subst e; exact Int.not_lt.1 fun hh => hc ⟨hh, .inl rfl⟩
  ·exact a i (by omega)
 ·refine .inr ⟨i, f, by omega, rfl, hf, hw, fun j g hj hg hwj => ?_⟩
  by_cases e : j = k
  ·subst e
   rw [hfk] at hg; cases hg
   have hd := h.d i f rfl hf
   have : ¬ ((byV l[j] t : Nat) : Int) < due := fun hh => hc ⟨hwj, .inr hh⟩
   omega
  ·exact a j g (by omega) hg hwj
theorem nxI.take {l : List Face} {u : List Int} {t k : Nat} {out due : Int} (h : nxI l u t k out due) (hk : k < l.length) (hw : 0 < wv u k) (hc : out = -1 ∨ ((byV l[k] t : Nat) : Int) < due) : nxI l u t (k + 1) (k : Int) ((byV l[k] t : Nat) : Int) := by
 have hfk : l[k]? = some l[k] := List.getElem?_eq_getElem hk
 refine ⟨.inr ⟨k, l[k], by omega, rfl, hfk, hw, fun j g hj hg hwj => ?_⟩, fun i f hi hf => ?_⟩
 ·by_cases e : j = k
  ·subst e; rw [hfk] at hg; cases hg; exact .inr ⟨rfl, Nat.le_refl _⟩
  ·rcases h.n with ⟨rfl, a⟩ | ⟨i, f, hi, rfl, hf, hw', a⟩
   ·have := a j (by omega); omega
   ·have hd := h.d i f rfl hf
    have hlt := hc.resolve_left (by omega)
    have := a j g (by omega) hg hwj
    omega
 ·have : i = k := by omega
  subst this
  rw [hfk] at hf; cases hf; rfl
end Go.Proofs.YtldlcdnhdedoeaaGreat
namespace Go.Proofs.YtldlcdnhdedoeaaGreat
open Go Go.VC
/-! The same, by what was given. -/
def hadN (o : List Int) (i : Int) (s : Nat) : Nat := (o.drop s).count i
theorem div_same {P t : Nat} (hP : 1 ≤ P) (ht : 0 < t) (h : ¬ P ∣ t) : (t - 1) / P = t / P := by
 have h1 := Nat.div_add_mod t P
 have h2 : t % P ≠ 0 := fun e => h (Nat.dvd_of_mod_eq_zero e)
 have h3 := Nat.mod_lt t hP
 refine Nat.div_eq_of_lt_le ?_ ?_
 ·rw [Nat.mul_comm]; omega
 ·rw [Nat.succ_mul, Nat.mul_comm]; omega
theorem hadN_snoc {o : List Int} {r i : Int} {s : Nat} (hs : s ≤ o.length) : hadN (o ++ [r]) i s = hadN o i s + (if r = i then 1 else 0) := by
 unfold hadN
 rw [List.drop_append_of_le_length hs, List.count_append, List.count_singleton]
 congr 1
 by_cases e : r = i
 ·rw [if_pos e, if_pos (by rw [e]; exact beq_self_eq_true _)]
 ·rw [if_neg e, if_neg (by rw [beq_iff_eq]; exact e)]
theorem wv_dec {w : List Int} {r : Int} {t k : Nat} {l : List Face} (hn : isNext l w t l.length r) (hw : w.length = l.length) (i : Nat) : wv (dec w r) i = wv w i - (if r = (i : Int) then 1 else 0) := by
 unfold dec
 rcases hn with ⟨rfl, _⟩ | ⟨j, f, hj, rfl, _⟩
 ·rw [if_pos rfl, if_neg (by omega)]; omega
 ·rw [if_neg (by omega), Int.toNat_natCast, wv_set (by omega)]
  by_cases e : i = j
  ·subst e; rw [if_pos rfl, if_pos rfl]
  ·rw [if_neg e, if_neg (by omega)]; omega
theorem LayR.wants {l : List Face} (hl : facesP l) {t : Nat} {o w : List Int} (h : LayR l t o w) : (t = 0 → ∀ i, wv w i = 0) ∧ (0 < t → ∀ (i : Nat) (f : Face), l[i]? = some f → wv w i = f.B - ((hadN o (i : Int) ((t - 1) / f.P.toNat * f.P.toNat) : Nat) : Int)) ∧ ∀ (i : Nat) (f : Face), l[i]? = some f → wv (begun l w t) i = f.B - ((hadN o (i : Int) (t / f.P.toNat * f.P.toNat) : Nat) : Int) := by
 have fin : ∀ {t : Nat} {o w : List Int}, LayR l t o w → ((t = 0 → ∀ i, wv w i = 0) ∧ (0 < t → ∀ (i : Nat) (f : Face), l[i]? = some f → wv w i = f.B - ((hadN o (i : Int) ((t - 1) / f.P.toNat * f.P.toNat) : Nat) : Int))) → ∀ (i : Nat) (f : Face), l[i]? = some f → wv (begun l w t) i = f.B - ((hadN o (i : Int) (t / f.P.toNat * f.P.toNat) : Nat) : Int) := by
  intro t o w h ih i f hf
  have hp := (hl.1 f (List.mem_of_getElem? hf)).P
  rw [begun_at hf]
  by_cases cd : f.P.toNat ∣ t
  ·rw [if_pos cd, Nat.div_mul_cancel cd]
   unfold hadN
   rw [List.drop_eq_nil_of_le (by rw [(h.ok hl).1]; exact Nat.le_refl _)]
   simp
  ·rw [if_neg cd]
   have ht : 0 < t := Nat.pos_of_ne_zero fun e => cd (by rw [e]; exact Nat.dvd_zero _)
   rw [ih.2 ht i f hf, div_same (by omega) ht cd]
 have main : (t = 0 → ∀ i, wv w i = 0) ∧ (0 < t → ∀ (i : Nat) (f : Face), l[i]? = some f → wv w i = f.B - ((hadN o (i : Int) ((t - 1) / f.P.toNat * f.P.toNat) : Nat) : Int)) := by
  induction h with
  | zero =>
   refine ⟨fun _ i => ?_, fun h => by omega⟩
   unfold wv
   rw [List.getElem?_replicate]
   split <;> rfl
  | step h hd hn ih =>
   rename_i t out w r
   refine ⟨fun h => by omega, fun _ i f hf => ?_⟩
   have hol := (h.ok hl).1
   have hle : t / f.P.toNat * f.P.toNat ≤ t := Nat.div_mul_le_self _ _
   rw [wv_dec (t := t) (k := 0) hn (begun_len _ _ _), fin h ih i f hf, Nat.add_sub_cancel, hadN_snoc (by omega)]
   split <;> omega
 exact ⟨main.1, main.2, fin h main⟩
/-- Who is next, downward. -/
structure dnI (l : List Face) (u : List Int) (t k : Nat) (who : Int) : Prop where
 n : (who = -1 ∧ ∀ i, k ≤ i → i < l.length → wv u i ≤ 0) ∨ ∃ (i : Nat) (f : Face), k ≤ i ∧ i < l.length ∧ who = (i : Int) ∧ l[i]? = some f ∧ 0 < wv u i ∧ ∀ (j : Nat) (g : Face), k ≤ j → l[j]? = some g → 0 < wv u j → byV f t < byV g t ∨ (byV f t = byV g t ∧ i ≤ j)
theorem dnI.end {l : List Face} {u : List Int} {t : Nat} {who : Int} (h : dnI l u t 0 who) : isNext l u t l.length who := by
 rcases h.n with ⟨rfl, a⟩ | ⟨i, f, _, hi, rfl, hf, hw, a⟩
 ·exact .inl ⟨rfl, fun i hi => a i (Nat.zero_le _) hi⟩
 ·exact .inr ⟨i, f, hi, rfl, hf, hw, fun j g _ hg hwj => a j g (Nat.zero_le _) hg hwj⟩
theorem dnI.keep {l : List Face} {u : List Int} {t k : Nat} {who : Int} (h : dnI l u t (k + 1) who) (hk : k < l.length) (hc : ¬ 0 < wv u k ∨ ∃ (i : Nat) (f : Face), who = (i : Int) ∧ l[i]? = some f ∧ byV f t < byV l[k] t) : dnI l u t k who := by
 have hfk : l[k]? = some l[k] := List.getElem?_eq_getElem hk
 refine ⟨?_⟩
 rcases h.n with ⟨rfl, a⟩ | ⟨i, f, hi, hil, rfl, hf, hw, a⟩
 ·refine .inl ⟨rfl, fun i hi hil => ?_⟩
  by_cases e : i = k
  ·subst e
   rcases hc with hc | ⟨j, f, hj, _⟩
   ·exact Int.not_lt.1 hc
   ·omega
  ·exact a i (by omega) hil
 ·refine .inr ⟨i, f, by omega, hil, rfl, hf, hw, fun j g hj hg hwj => ?_⟩
  by_cases e : j = k
  ·subst e
   rw [hfk] at hg; cases hg
   rcases hc with hc | ⟨i', f', hi', hf', hlt⟩
   ·exact absurd hwj hc
   ·have : i' = i := by omega
    subst this
    rw [hf] at hf'; cases hf'
    exact .inl hlt
  ·exact a j g (by omega) hg hwj
theorem dnI.take {l : List Face} {u : List Int} {t k : Nat} {who : Int} (h : dnI l u t (k + 1) who) (hk : k < l.length) (hw : 0 < wv u k) (hc : who = -1 ∨ ∃ (i : Nat) (f : Face), who = (i : Int) ∧ l[i]? = some f ∧ byV l[k] t ≤ byV f t) : dnI l u t k (k : Int) := by
 have hfk : l[k]? = some l[k] := List.getElem?_eq_getElem hk
 refine ⟨.inr ⟨k, l[k], Nat.le_refl _, hk, rfl, hfk, hw, fun j g hj hg hwj => ?_⟩⟩
 by_cases e : j = k
 ·subst e; rw [hfk] at hg; cases hg; exact .inr ⟨rfl, Nat.le_refl _⟩
 ·rcases h.n with ⟨rfl, a⟩ | ⟨i, f, hi, hil, rfl, hf, hw', a⟩
  ·have := a j (by omega) (List.getElem?_eq_some_iff.1 hg).1; omega
  ·have h1 := a j g (by omega) hg hwj
   rcases hc with hc | ⟨i', f', hi', hf', hle⟩
   ·omega
   ·have : i' = i := by omega
    subst this
    rw [hf] at hf'; cases hf'
    omega
end Go.Proofs.YtldlcdnhdedoeaaGreat
namespace Go.Proofs.YtldlcdnhdedoeaaGreat
open Go Go.VC
noncomputable def image_Right (a0 : Config) : Option Bool :=
 lp (fun nx1 (v1 : Int) => fk (decide (v1 < (a0.Parts.length : Int))) (ix a0.Parts v1 fun x2 => jn (fun (w3 : Bool) => fk w3 (some false) (nx1 (wr (v1 + (1 : Int))))) (fun k3 => bnd (supply_Right x2.Face) fun x4 => fk (!x4) (k3 true) (bnd (task_All x2.Tasks) fun x5 => k3 (!x5)))) (lp (fun nx6 (v6 : Int) => fk (decide (v6 < (a0.Ports.length : Int))) (ix a0.Ports v6 fun x7 => jn (fun (w8 : Bool) => fk w8 (some false) (nx6 (wr (v6 + (1 : Int))))) (fun k8 => fk (decide (x7.From ≥ (a0.Parts.length : Int))) (k8 true) (k8 (decide (x7.To ≥ (a0.Parts.length : Int)))))) (bnd (port_Open a0.Ports) fun x9 => fk (decide (x9.2 = (0 : Int))) (some (decide ((a0.Parts.length : Int) ≤ (4 : Int)))) (some false))) FU (0 : Int))) FU (0 : Int)
theorem image_Right_w (a0 : Config) (r : Bool) (h : image_Right a0 = some r) : Go.VC.Spec Tryz.prog 54 [.agg (Config.enc a0)] (fun y => y = E_Bool r) := by
 refine Go.VC.Spec.of_xc (args := [.agg (Config.enc a0)]) (fn := Tryz.f54) tab ⟨[(0, [1]), (1, [1, 10, 11, 12]), (2, [1, 10, 11, 12, 13]), (3, [1, 4, 10, 11, 12]), (4, [1, 10, 11, 12, 25]), (5, [2]), (6, [1, 10, 11, 12]), (7, [1, 28, 29, 30]), (8, [1, 28, 29, 30, 31]), (9, [1, 6, 28, 29, 30]), (10, [1, 28, 29, 30, 47]), (11, [2]), (12, [1, 28, 29, 30]), (13, [1, 8]), (14, [2])], [], [100025, 100047], []⟩ 63 [.tmp 2] rfl rfl rfl rfl rfl rfl ?_
 conv => whnf
 refine lenS a0.Parts Part.enc rfl ?_
 conv => whnf
 refine lpS (fun v1 => ⟨[(1, .l (.ptr 2 0)), (10, .l (.d (.sl (a0.Parts.map Part.enc)))), (11, .l (.d (.int .i64 (a0.Parts.length : Int)))), (12, .l (.d (.int .i64 v1)))], 63, [], [(2, [.d (.sl (a0.Parts.map Part.enc)), .d (.sl (a0.Ports.map Port.enc))])], []⟩) h (Weak.refl _) (fun _ nx1 hn1 v1 h => ?_)
 conv => whnf
 refine fkS h (fun h => ?_) (fun h => ?_)
 ·conv => whnf
  refine ixS (enc := Part.enc) h rfl (fun _ => rfl) (fun x2 h => ?_)
  conv => whnf
  refine jnS (fun w3 => ⟨[(1, .l (.ptr 2 0)), (10, .l (.d (.sl (a0.Parts.map Part.enc)))), (11, .l (.d (.int .i64 (a0.Parts.length : Int)))), (12, .l (.d (.int .i64 v1))), (25, .l (.d (.bool w3)))], 63, [], [(2, [.d (.sl (a0.Parts.map Part.enc)), .d (.sl (a0.Ports.map Port.enc))])], []⟩) h (fun k3 hk3 h => ?_) (fun w3 h => ?_)
  ·conv => whnf
   refine caS (E := E_Bool) h (supply_Right_w x2.Face) rfl (fun _ => rfl) (fun x4 h => ?_)
   conv => whnf
   refine fkS h (fun h => ?_) (fun h => ?_)
   ·conv => whnf
    exact jeS hk3 h (Weak.refl _)
   conv => whnf
   refine caS (E := E_Bool) h (task_All_w x2.Tasks) rfl (fun _ => rfl) (fun x5 h => ?_)
   conv => whnf
   exact jeS hk3 h (Weak.refl _)
  conv => whnf
  refine fkS h (fun h => ?_) (fun h => ?_)
  ·conv => whnf
   exact rt (E := E_Bool) h rfl
  conv => whnf
  exact leS hn1 h (Weak.refl _)
 conv => whnf
 refine lenS a0.Ports Port.enc rfl ?_
 conv => whnf
 refine lpS (fun v6 => ⟨[(1, .l (.ptr 2 0)), (28, .l (.d (.sl (a0.Ports.map Port.enc)))), (29, .l (.d (.int .i64 (a0.Ports.length : Int)))), (30, .l (.d (.int .i64 v6)))], 63, [], [(2, [.d (.sl (a0.Parts.map Part.enc)), .d (.sl (a0.Ports.map Port.enc))])], []⟩) h (Weak.refl _) (fun _ nx6 hn6 v6 h => ?_)
 conv => whnf
 refine fkS h (fun h => ?_) (fun h => ?_)
 ·conv => whnf
  refine ixS (enc := Port.enc) h rfl (fun _ => rfl) (fun x7 h => ?_)
  conv => whnf
  refine jnS (fun w8 => ⟨[(1, .l (.ptr 2 0)), (28, .l (.d (.sl (a0.Ports.map Port.enc)))), (29, .l (.d (.int .i64 (a0.Ports.length : Int)))), (30, .l (.d (.int .i64 v6))), (47, .l (.d (.bool w8)))], 63, [], [(2, [.d (.sl (a0.Parts.map Part.enc)), .d (.sl (a0.Ports.map Port.enc))])], []⟩) h (fun k8 hk8 h => ?_) (fun w8 h => ?_)
  ·conv => whnf
   refine lenS a0.Parts Part.enc rfl ?_
   conv => whnf
   refine fkS h (fun h => ?_) (fun h => ?_)
   ·conv => whnf
    exact jeS hk8 h (Weak.refl _)
   conv => whnf
   refine lenS a0.Parts Part.enc rfl ?_
   conv => whnf
   exact jeS hk8 h (Weak.refl _)
  conv => whnf
  refine fkS h (fun h => ?_) (fun h => ?_)
  ·conv => whnf
   exact rt (E := E_Bool) h rfl
  conv => whnf
  exact leS hn6 h (Weak.refl _)
 conv => whnf
 refine ccS (E := E_ListPortLine_Int) h (port_Open_w a0.Ports) rfl rfl (fun x9 h => ?_)
 conv => whnf
 refine fkS h (fun h => ?_) (fun h => ?_)
 ·conv => whnf
  refine lenS a0.Parts Part.enc rfl ?_
  conv => whnf
  exact rt (E := E_Bool) h rfl
 conv => whnf
 exact rt (E := E_Bool) h rfl
end Go.Proofs.YtldlcdnhdedoeaaGreat
namespace Go.Proofs.YtldlcdnhdedoeaaGreat
open Go Go.VC
noncomputable def ref18_May (a0 : Port) : Option Bool :=
 fk (decide (a0.From ≥ (0 : Int))) (fk (decide (a0.From < (4 : Int))) (fk (decide (a0.To ≥ (0 : Int))) (fk (decide (a0.To < (4 : Int))) (fk (!decide (a0.To = a0.From)) (fk (decide (a0.Cap > (0 : Int))) (some (decide (a0.Cap < (5 : Int)))) (some false)) (some false)) (some false)) (some false)) (some false)) (some false)
theorem ref18_May_w (a0 : Port) (r : Bool) (h : ref18_May a0 = some r) : Go.VC.Spec Tryz.prog 155 [.agg (Port.enc a0)] (fun y => y = E_Bool r) := by
 refine Go.VC.Spec.of_xc (args := [.agg (Port.enc a0)]) (fn := Tryz.f155) tab ⟨[(0, [1]), (1, [2])], [], [], []⟩ 38 [.tmp 2] rfl rfl rfl rfl rfl rfl ?_
 conv => whnf
 refine fkS h (fun h => ?_) (fun h => ?_)
 ·conv => whnf
  refine fkS h (fun h => ?_) (fun h => ?_)
  ·conv => whnf
   refine fkS h (fun h => ?_) (fun h => ?_)
   ·conv => whnf
    refine fkS h (fun h => ?_) (fun h => ?_)
    ·conv => whnf
     refine fkS h (fun h => ?_) (fun h => ?_)
     ·conv => whnf
      refine fkS h (fun h => ?_) (fun h => ?_)
      ·conv => whnf
       exact rt (E := E_Bool) h rfl
      conv => whnf
      exact rt (E := E_Bool) h rfl
     conv => whnf
     exact rt (E := E_Bool) h rfl
    conv => whnf
    exact rt (E := E_Bool) h rfl
   conv => whnf
   exact rt (E := E_Bool) h rfl
  conv => whnf
  exact rt (E := E_Bool) h rfl
 conv => whnf
 exact rt (E := E_Bool) h rfl
end Go.Proofs.YtldlcdnhdedoeaaGreat
namespace Go.Proofs.YtldlcdnhdedoeaaGreat
open Go Go.VC
noncomputable def ref18_All (a0 : List Port) : Option Bool :=
 lp (fun nx1 (v1 : Int) => fk (decide (v1 < (a0.length : Int))) (ix a0 v1 fun x2 => bnd (ref18_May x2) fun x3 => fk (!x3) (some false) (nx1 (wr (v1 + (1 : Int))))) (some (decide ((a0.length : Int) < (5 : Int))))) FU (0 : Int)
theorem ref18_All_w (a0 : List Port) (r : Bool) (h : ref18_All a0 = some r) : Go.VC.Spec Tryz.prog 115 [.d (.sl (a0.map Port.enc))] (fun y => y = E_Bool r) := by
 refine Go.VC.Spec.of_xc (args := [.d (.sl (a0.map Port.enc))]) (fn := Tryz.f115) tab ⟨[(0, [0]), (1, [0, 3]), (2, [0, 3, 7]), (3, [0, 3]), (4, [0, 3, 15]), (5, [2]), (6, [2])], [], [], []⟩ 19 [.tmp 2] rfl rfl rfl rfl rfl rfl ?_
 conv => whnf
 refine lpS (fun v1 => ⟨[(0, .l (.d (.sl (a0.map Port.enc)))), (3, .l (.d (.int .i64 v1)))], 19, [], [], []⟩) h (Weak.refl _) (fun _ nx1 hn1 v1 h => ?_)
 conv => whnf
 refine lenS a0 Port.enc rfl ?_
 conv => whnf
 refine fkS h (fun h => ?_) (fun h => ?_)
 ·conv => whnf
  refine ixS (enc := Port.enc) h rfl (fun _ => rfl) (fun x2 h => ?_)
  conv => whnf
  refine caS (E := E_Bool) h (ref18_May_w x2) rfl (fun _ => rfl) (fun x3 h => ?_)
  conv => whnf
  refine fkS h (fun h => ?_) (fun h => ?_)
  ·conv => whnf
   exact rt (E := E_Bool) h rfl
  conv => whnf
  exact leS hn1 h (Weak.refl _)
 conv => whnf
 refine lenS a0 Port.enc rfl ?_
 conv => whnf
 exact rt (E := E_Bool) h rfl
end Go.Proofs.YtldlcdnhdedoeaaGreat
namespace Go.Proofs.YtldlcdnhdedoeaaGreat
open Go Go.VC
noncomputable def ref19_Right (a0 : Config) : Option Bool :=
 jn (fun (w1 : Bool) => fk w1 (some false) (lp (fun nx3 (v3 : Int) => fk (decide (v3 < (a0.Parts.length : Int))) (jn (fun (w4 : Bool) => fk w4 (some false) (nx3 (wr (v3 + (1 : Int))))) (fun k4 => ix a0.Parts v3 fun x5 => bnd (ref09_Right x5.Face) fun x6 => fk (!x6) (k4 true) (ix a0.Parts v3 fun x7 => bnd (ref05_All x7.Tasks) fun x8 => k4 (!x8)))) (lp (fun nx9 (v9 : Int) => fk (decide (v9 < (a0.Ports.length : Int))) (jn (fun (w10 : Bool) => fk w10 (some false) (nx9 (wr (v9 + (1 : Int))))) (fun k10 => ix a0.Ports v9 fun x11 => fk (decide (x11.From ≥ (a0.Parts.length : Int))) (k10 true) (ix a0.Ports v9 fun x12 => k10 (decide (x12.To ≥ (a0.Parts.length : Int)))))) (some true)) FU (0 : Int))) FU (0 : Int))) (fun k1 => fk (decide ((a0.Parts.length : Int) > (4 : Int))) (k1 true) (bnd (ref18_All a0.Ports) fun x2 => k1 (!x2)))
theorem ref19_Right_w (a0 : Config) (r : Bool) (h : ref19_Right a0 = some r) : Go.VC.Spec Tryz.prog 57 [.agg (Config.enc a0)] (fun y => y = E_Bool r) := by
 refine Go.VC.Spec.of_xc (args := [.agg (Config.enc a0)]) (fn := Tryz.f57) tab ⟨[(0, [1]), (1, [1, 14]), (2, [2]), (3, [1, 3]), (4, [1, 3, 19]), (5, [1, 3]), (6, [1, 3, 39]), (7, [2]), (8, [1, 4]), (9, [1, 4, 44]), (10, [1, 4]), (11, [1, 4, 68]), (12, [2]), (13, [2])], [], [100014, 100039, 100068], []⟩ 69 [.tmp 2] rfl rfl rfl rfl rfl rfl ?_
 conv => whnf
 refine jnS (fun w1 => ⟨[(1, .l (.ptr 2 0)), (14, .l (.d (.bool w1)))], 69, [], [(2, [.d (.sl (a0.Parts.map Part.enc)), .d (.sl (a0.Ports.map Port.enc))])], []⟩) h (fun k1 hk1 h => ?_) (fun w1 h => ?_)
 ·conv => whnf
  refine lenS a0.Parts Part.enc rfl ?_
  conv => whnf
  refine fkS h (fun h => ?_) (fun h => ?_)
  ·conv => whnf
   exact jeS hk1 h (Weak.refl _)
  conv => whnf
  refine caS (E := E_Bool) h (ref18_All_w a0.Ports) rfl (fun _ => rfl) (fun x2 h => ?_)
  conv => whnf
  exact jeS hk1 h (Weak.refl _)
 conv => whnf
 refine fkS h (fun h => ?_) (fun h => ?_)
 ·conv => whnf
  exact rt (E := E_Bool) h rfl
 conv => whnf
 refine lpS (fun v3 => ⟨[(1, .l (.ptr 2 0)), (3, .l (.d (.int .i64 v3)))], 69, [], [(2, [.d (.sl (a0.Parts.map Part.enc)), .d (.sl (a0.Ports.map Port.enc))])], []⟩) h (Weak.refl _) (fun _ nx3 hn3 v3 h => ?_)
 conv => whnf
 refine lenS a0.Parts Part.enc rfl ?_
 conv => whnf
 refine fkS h (fun h => ?_) (fun h => ?_)
 ·conv => whnf
  refine jnS (fun w4 => ⟨[(1, .l (.ptr 2 0)), (3, .l (.d (.int .i64 v3))), (39, .l (.d (.bool w4)))], 69, [], [(2, [.d (.sl (a0.Parts.map Part.enc)), .d (.sl (a0.Ports.map Port.enc))])], []⟩) h (fun k4 hk4 h => ?_) (fun w4 h => ?_)
  ·conv => whnf
   refine ixS (enc := Part.enc) h rfl (fun _ => rfl) (fun x5 h => ?_)
   conv => whnf
   refine caS (E := E_Bool) h (ref09_Right_w x5.Face) rfl (fun _ => rfl) (fun x6 h => ?_)
   conv => whnf
   refine fkS h (fun h => ?_) (fun h => ?_)
   ·conv => whnf
    exact jeS hk4 h (Weak.refl _)
   conv => whnf
   refine ixS (enc := Part.enc) h rfl (fun _ => rfl) (fun x7 h => ?_)
   conv => whnf
   refine caS (E := E_Bool) h (ref05_All_w x7.Tasks) rfl (fun _ => rfl) (fun x8 h => ?_)
   conv => whnf
   exact jeS hk4 h (Weak.refl _)
  conv => whnf
  refine fkS h (fun h => ?_) (fun h => ?_)
  ·conv => whnf
   exact rt (E := E_Bool) h rfl
  conv => whnf
  exact leS hn3 h (Weak.refl _)
 conv => whnf
 refine lpS (fun v9 => ⟨[(1, .l (.ptr 2 0)), (4, .l (.d (.int .i64 v9)))], 69, [], [(2, [.d (.sl (a0.Parts.map Part.enc)), .d (.sl (a0.Ports.map Port.enc))])], []⟩) h (Weak.refl _) (fun _ nx9 hn9 v9 h => ?_)
 conv => whnf
 refine lenS a0.Ports Port.enc rfl ?_
 conv => whnf
 refine fkS h (fun h => ?_) (fun h => ?_)
 ·conv => whnf
  refine jnS (fun w10 => ⟨[(1, .l (.ptr 2 0)), (4, .l (.d (.int .i64 v9))), (68, .l (.d (.bool w10)))], 69, [], [(2, [.d (.sl (a0.Parts.map Part.enc)), .d (.sl (a0.Ports.map Port.enc))])], []⟩) h (fun k10 hk10 h => ?_) (fun w10 h => ?_)
  ·conv => whnf
   refine ⟨22, ?_⟩
   conv => whnf
   refine ixS (enc := Port.enc) h rfl (fun _ => rfl) (fun x11 h => ?_)
   conv => whnf
   refine lenS a0.Parts Part.enc rfl ?_
   conv => whnf
   refine fkS h (fun h => ?_) (fun h => ?_)
   ·conv => whnf
    refine drS (by kernel_rfl) ?_
    conv => whnf
    exact jeS hk10 h (Weak.refl _)
   conv => whnf
   refine ixS (enc := Port.enc) h rfl (fun _ => rfl) (fun x12 h => ?_)
   conv => whnf
   refine lenS a0.Parts Part.enc rfl ?_
   conv => whnf
   refine drS (by kernel_rfl) ?_
   conv => whnf
   exact jeS hk10 h (Weak.refl _)
  conv => whnf
  refine fkS h (fun h => ?_) (fun h => ?_)
  ·conv => whnf
   exact rt (E := E_Bool) h rfl
  conv => whnf
  exact leS hn9 h (Weak.refl _)
 conv => whnf
 exact rt (E := E_Bool) h rfl
end Go.Proofs.YtldlcdnhdedoeaaGreat
namespace Go.Proofs.YtldlcdnhdedoeaaGreat
open Go Go.VC
noncomputable def table_Make (a0 : List Face) : Option (TableTable × Int) :=
 bnd (synth_Lay a0) fun x1 => fk (!decide (x1.2 = (0 : Int))) (some (⟨(0 : Int), []⟩, x1.2)) (bnd (table_Of x1.1) fun x2 => some (x2.1, x2.2))
theorem table_Make_w (a0 : List Face) (r : TableTable × Int) (h : table_Make a0 = some r) : Go.VC.Spec Tryz.prog 55 [.d (.sl (a0.map Face.enc))] (fun y => y = E_TableTable_Int r) := by
 refine Go.VC.Spec.of_xc (args := [.d (.sl (a0.map Face.enc))]) (fn := Tryz.f55) tab ⟨[(0, [0, 2]), (1, [2, 4, 5]), (2, [2, 4, 5, 12]), (3, [2, 3]), (4, [2, 3])], [], [], []⟩ 19 [.cell 2 30, .tmp 3] rfl rfl rfl rfl rfl rfl ?_
 conv => whnf
 refine ccS (E := E_ListInt_Int) h (synth_Lay_w a0) rfl rfl (fun x1 h => ?_)
 conv => whnf
 refine fkS h (fun h => ?_) (fun h => ?_)
 ·conv => whnf
  exact rt (E := E_TableTable_Int) h rfl
 conv => whnf
 refine ccS (E := E_TableTable_Int) h (table_Of_w x1.1) rfl rfl (fun x2 h => ?_)
 conv => whnf
 exact rt (E := E_TableTable_Int) h rfl
end Go.Proofs.YtldlcdnhdedoeaaGreat
namespace Go.Proofs.YtldlcdnhdedoeaaGreat
open Go Go.VC
noncomputable def kernel_Boot (a0 : Config) : Option (KernelState × Int) :=
 bnd (image_Right a0) fun x1 => fk (!x1) (some (⟨⟨(0 : Int), []⟩, [], [], [], (0 : Int)⟩, (1 : Int))) (lp (fun nx2 (v2 : (List Face) × Int) => fk (decide (v2.2 < (a0.Parts.length : Int))) (ix a0.Parts v2.2 fun x3 => ck (decide ((v2.1.length + ([x3.Face] : List Face).length) * 16 ≤ 140737488355328)) (nx2 (v2.1 ++ ([x3.Face] : List Face), (wr (v2.2 + (1 : Int)))))) (bnd (table_Make v2.1) fun x4 => fk (!decide (x4.2 = (0 : Int))) (some (⟨⟨(0 : Int), []⟩, [], [], [], (0 : Int)⟩, x4.2)) (lp (fun nx5 (v5 : (List PartState) × Int) => fk (decide (v5.2 < (a0.Parts.length : Int))) (ix a0.Parts v5.2 fun x6 => bnd (admit_Boot x6) fun x7 => fk (!decide (x7.2 = (0 : Int))) (some (⟨⟨(0 : Int), []⟩, [], [], [], (0 : Int)⟩, x7.2)) (ck (decide ((v5.1.length + ([x7.1] : List PartState).length) * 120 ≤ 140737488355328)) (nx5 (v5.1 ++ ([x7.1] : List PartState), (wr (v5.2 + (1 : Int))))))) (bnd (port_Open a0.Ports) fun x8 => some (⟨x4.1, v2.1, v5.1, x8.1, (0 : Int)⟩, (0 : Int)))) FU ([], (0 : Int))))) FU ([], (0 : Int)))
theorem kernel_Boot_w (a0 : Config) (r : KernelState × Int) (h : kernel_Boot a0 = some r) : Go.VC.Spec Tryz.prog 14 [.agg (Config.enc a0)] (fun y => y = E_KernelState_Int r) := by
 refine Go.VC.Spec.of_xc (args := [.agg (Config.enc a0)]) (fn := Tryz.f14) tab ⟨[(0, [1, 2]), (1, [1, 2, 14]), (2, [2, 3]), (3, [1, 2, 4]), (4, [1, 2, 4]), (5, [1, 2, 4, 17, 18, 19]), (6, [1, 2, 4, 17, 18, 19, 20]), (7, [1, 2, 4, 7, 17, 18, 19]), (8, [1, 2, 4, 17, 18, 19]), (9, [1, 2, 4, 17, 18, 19]), (10, [1, 2, 4, 5]), (11, [1, 2, 4, 5, 39]), (12, [2, 3]), (13, [1, 2, 4, 43, 44, 45]), (14, [1, 2, 4, 43, 44, 45, 46]), (15, [1, 2, 4, 9, 43, 44, 45]), (16, [1, 2, 4, 10, 11, 43, 44, 45]), (17, [1, 2, 4, 10, 11, 43, 44, 45, 55]), (18, [2, 3]), (19, [1, 2, 4, 43, 44, 45]), (20, [1, 2, 4, 43, 44, 45]), (21, [2, 4]), (22, [2, 3])], [], [], []⟩ 73 [.cell 2 35, .tmp 3] rfl rfl rfl rfl rfl rfl ?_
 conv => whnf
 refine caS (E := E_Bool) h (image_Right_w a0) rfl (fun _ => rfl) (fun x1 h => ?_)
 conv => whnf
 refine fkS h (fun h => ?_) (fun h => ?_)
 ·conv => whnf
  exact rt (E := E_KernelState_Int) h rfl
 conv => whnf
 refine lenS a0.Parts Part.enc rfl ?_
 conv => whnf
 refine lpS (fun v2 => ⟨[(1, .l (.ptr 2 0)), (2, .l (.ptr 3 0)), (4, .l (.ptr 5 0)), (17, .l (.d (.sl (a0.Parts.map Part.enc)))), (18, .l (.d (.int .i64 (a0.Parts.length : Int)))), (19, .l (.d (.int .i64 v2.2)))], 73, [], [(2, [.d (.sl (a0.Parts.map Part.enc)), .d (.sl (a0.Ports.map Port.enc))]), (3, [.d (.int .i64 (0 : Int)), .nil, .nil, .nil, .nil, .d (.int .i64 (0 : Int))]), (5, [.d (.int .i64 (0 : Int)), .nil, .own 50502, .nil, .nil, .d (.int .i64 (0 : Int))])], [(50502, 55, 2, v2.1.map Face.enc)]⟩) h (Weak.trans (Weak.nilBO _ 5 2 50502 55 2 _ rfl rfl) (Weak.refl _)) (fun _ nx2 hn2 v2 h => ?_)
 conv => whnf
 refine fkS h (fun h => ?_) (fun h => ?_)
 ·conv => whnf
  refine ixS (enc := Part.enc) h rfl (fun _ => rfl) (fun x3 h => ?_)
  conv => whnf
  refine liS ([x3.Face] : List Face) Face.enc rfl rfl ?_
  conv => whnf
  refine apS (enc := Face.enc) (l1 := v2.1) (l2 := ([x3.Face] : List Face)) h rfl rfl (fun _ => rfl) (fun h => ?_)
  conv => whnf
  refine leX hn2 h ?_
  conv => whnf
  refine WkF.step (Weak.rekey _ 29 50502 rfl) ?_
  conv => whnf
  exact WkF.refl _
 conv => whnf
 refine iceS 50502 ?_
 conv => whnf
 refine ccS (E := E_TableTable_Int) h (table_Make_w v2.1) rfl rfl (fun x4 h => ?_)
 conv => whnf
 refine fkS h (fun h => ?_) (fun h => ?_)
 ·conv => whnf
  exact rt (E := E_KernelState_Int) h rfl
 conv => whnf
 refine lenS a0.Parts Part.enc rfl ?_
 conv => whnf
 refine lpS (fun v5 => ⟨[(1, .l (.ptr 2 0)), (2, .l (.ptr 3 0)), (4, .l (.ptr 5 0)), (43, .l (.d (.sl (a0.Parts.map Part.enc)))), (44, .l (.d (.int .i64 (a0.Parts.length : Int)))), (45, .l (.d (.int .i64 v5.2)))], 73, [], [(2, [.d (.sl (a0.Parts.map Part.enc)), .d (.sl (a0.Ports.map Port.enc))]), (3, [.d (.int .i64 (0 : Int)), .nil, .nil, .nil, .nil, .d (.int .i64 (0 : Int))]), (5, [.d (.int .i64 x4.1.Frame), .d (.sl (x4.1.Windows.map Window.enc)), .d (.sl (v2.1.map Face.enc)), .own 50503, .nil, .d (.int .i64 (0 : Int))])], [(50503, 51, 5, v5.1.map PartState.enc)]⟩) h (Weak.trans (Weak.nilBO _ 5 3 50503 51 5 _ rfl rfl) (Weak.refl _)) (fun _ nx5 hn5 v5 h => ?_)
 conv => whnf
 refine fkS h (fun h => ?_) (fun h => ?_)
 ·conv => whnf
  refine ixS (enc := Part.enc) h rfl (fun _ => rfl) (fun x6 h => ?_)
  conv => whnf
  refine ccS (E := E_PartState_Int) h (admit_Boot_w x6) rfl rfl (fun x7 h => ?_)
  conv => whnf
  refine fkS h (fun h => ?_) (fun h => ?_)
  ·conv => whnf
   exact rt (E := E_KernelState_Int) h rfl
  conv => whnf
  refine liS ([x7.1] : List PartState) PartState.enc rfl rfl ?_
  conv => whnf
  refine apS (enc := PartState.enc) (l1 := v5.1) (l2 := ([x7.1] : List PartState)) h rfl rfl (fun _ => rfl) (fun h => ?_)
  conv => whnf
  refine leX hn5 h ?_
  conv => whnf
  refine WkF.step (Weak.rekey _ 63 50503 rfl) ?_
  conv => whnf
  exact WkF.refl _
 conv => whnf
 refine ccS (E := E_ListPortLine_Int) h (port_Open_w a0.Ports) rfl rfl (fun x8 h => ?_)
 conv => whnf
 exact rt (E := E_KernelState_Int) h rfl
end Go.Proofs.YtldlcdnhdedoeaaGreat
namespace Go.Proofs.YtldlcdnhdedoeaaGreat
open Go Go.VC
noncomputable def ref21_Boot (a0 : Config) : Option ((List Int) × Int) :=
 bnd (ref19_Right a0) fun x1 => fk (!x1) (some ([], (1 : Int))) (lp (fun nx2 (v2 : (List Face) × Int) => fk (decide (v2.2 < (a0.Parts.length : Int))) (ix a0.Parts v2.2 fun x3 => ck (decide ((v2.1.length + ([x3.Face] : List Face).length) * 16 ≤ 140737488355328)) (nx2 (v2.1 ++ ([x3.Face] : List Face), (wr (v2.2 + (1 : Int)))))) (bnd (ref12_Lay v2.1) fun x4 => fk (!decide (x4.2 = (0 : Int))) (some ([], x4.2)) (lp (fun nx5 (v5 : Int) => fk (decide (v5 < (a0.Parts.length : Int))) (ix a0.Parts v5 fun x6 => bnd (ref20_Boot x6) fun x7 => fk (!decide (x7 = (0 : Int))) (some ([], x7)) (nx5 (wr (v5 + (1 : Int))))) (some (x4.1, (0 : Int)))) FU (0 : Int)))) FU ([], (0 : Int)))
theorem ref21_Boot_w (a0 : Config) (r : (List Int) × Int) (h : ref21_Boot a0 = some r) : Go.VC.Spec Tryz.prog 15 [.agg (Config.enc a0)] (fun y => y = E_ListInt_Int r) := by
 refine Go.VC.Spec.of_xc (args := [.agg (Config.enc a0)]) (fn := Tryz.f15) tab ⟨[(0, [1]), (1, [1, 12]), (2, [2, 3]), (3, [1, 4]), (4, [1, 4, 5]), (5, [1, 4, 5, 17]), (6, [1, 4, 5]), (7, [1, 4, 5]), (8, [1, 6, 7]), (9, [1, 6, 7, 35]), (10, [2, 3]), (11, [1, 6, 8]), (12, [1, 6, 8, 41]), (13, [1, 6, 8]), (14, [1, 6, 8, 9]), (15, [1, 6, 8, 9, 51]), (16, [2, 3]), (17, [2, 3])], [], [], []⟩ 54 [.tmp 2, .tmp 3] rfl rfl rfl rfl rfl rfl ?_
 conv => whnf
 refine caS (E := E_Bool) h (ref19_Right_w a0) rfl (fun _ => rfl) (fun x1 h => ?_)
 conv => whnf
 refine fkS h (fun h => ?_) (fun h => ?_)
 ·conv => whnf
  exact rt (E := E_ListInt_Int) h rfl
 conv => whnf
 refine lpS (fun v2 => ⟨[(1, .l (.ptr 2 0)), (4, .l (.own 5)), (5, .l (.d (.int .i64 v2.2)))], 54, [], [(2, [.d (.sl (a0.Parts.map Part.enc)), .d (.sl (a0.Ports.map Port.enc))])], [(5, 55, 2, v2.1.map Face.enc)]⟩) h (Weak.trans (Weak.nilO _ 4 5 55 2 rfl) (Weak.refl _)) (fun _ nx2 hn2 v2 h => ?_)
 conv => whnf
 refine lenS a0.Parts Part.enc rfl ?_
 conv => whnf
 refine fkS h (fun h => ?_) (fun h => ?_)
 ·conv => whnf
  refine ixS (enc := Part.enc) h rfl (fun _ => rfl) (fun x3 h => ?_)
  conv => whnf
  refine liS ([x3.Face] : List Face) Face.enc rfl rfl ?_
  conv => whnf
  refine apS (enc := Face.enc) (l1 := v2.1) (l2 := ([x3.Face] : List Face)) h rfl rfl (fun _ => rfl) (fun h => ?_)
  conv => whnf
  exact leS hn2 h (Weak.refl _)
 conv => whnf
 refine iceS 5 ?_
 conv => whnf
 refine ccS (E := E_ListInt_Int) h (ref12_Lay_w v2.1) rfl rfl (fun x4 h => ?_)
 conv => whnf
 refine fkS h (fun h => ?_) (fun h => ?_)
 ·conv => whnf
  exact rt (E := E_ListInt_Int) h rfl
 conv => whnf
 refine lpS (fun v5 => ⟨[(1, .l (.ptr 2 0)), (6, .l (.d (.sl (x4.1.map (eI .i64))))), (8, .l (.d (.int .i64 v5)))], 54, [], [(2, [.d (.sl (a0.Parts.map Part.enc)), .d (.sl (a0.Ports.map Port.enc))])], []⟩) h (Weak.refl _) (fun _ nx5 hn5 v5 h => ?_)
 conv => whnf
 refine lenS a0.Parts Part.enc rfl ?_
 conv => whnf
 refine fkS h (fun h => ?_) (fun h => ?_)
 ·conv => whnf
  refine ixS (enc := Part.enc) h rfl (fun _ => rfl) (fun x6 h => ?_)
  conv => whnf
  refine caS (E := E_Int) h (ref20_Boot_w x6) rfl (fun _ => rfl) (fun x7 h => ?_)
  conv => whnf
  refine fkS h (fun h => ?_) (fun h => ?_)
  ·conv => whnf
   exact rt (E := E_ListInt_Int) h rfl
  conv => whnf
  exact leS hn5 h (Weak.refl _)
 conv => whnf
 exact rt (E := E_ListInt_Int) h rfl
end Go.Proofs.YtldlcdnhdedoeaaGreat
namespace Go.Proofs.YtldlcdnhdedoeaaGreat
open Go Go.VC
noncomputable def law19_Great (a0 : Config) : Option Bool :=
 lp (fun nx1 (v1 : Int) => fk (decide (v1 < (a0.Parts.length : Int))) (ix a0.Parts v1 fun x2 => bnd (law05_Great x2.Tasks) fun x3 => fk x3 (some true) (nx1 (wr (v1 + (1 : Int))))) (fk (decide ((a0.Parts.length : Int) > (20 : Int))) (some true) (some (decide ((a0.Ports.length : Int) > (20 : Int)))))) FU (0 : Int)
theorem law19_Great_w (a0 : Config) (r : Bool) (h : law19_Great a0 = some r) : Go.VC.Spec Tryz.prog 49 [.agg (Config.enc a0)] (fun y => y = E_Bool r) := by
 refine Go.VC.Spec.of_xc (args := [.agg (Config.enc a0)]) (fn := Tryz.f49) tab ⟨[(0, [1]), (1, [1, 3]), (2, [1, 3, 8]), (3, [1, 3]), (4, [1, 3, 17]), (5, [2]), (6, [2])], [], [], []⟩ 28 [.tmp 2] rfl rfl rfl rfl rfl rfl ?_
 conv => whnf
 refine lpS (fun v1 => ⟨[(1, .l (.ptr 2 0)), (3, .l (.d (.int .i64 v1)))], 28, [], [(2, [.d (.sl (a0.Parts.map Part.enc)), .d (.sl (a0.Ports.map Port.enc))])], []⟩) h (Weak.refl _) (fun _ nx1 hn1 v1 h => ?_)
 conv => whnf
 refine lenS a0.Parts Part.enc rfl ?_
 conv => whnf
 refine fkS h (fun h => ?_) (fun h => ?_)
 ·conv => whnf
  refine ixS (enc := Part.enc) h rfl (fun _ => rfl) (fun x2 h => ?_)
  conv => whnf
  refine caS (E := E_Bool) h (law05_Great_w x2.Tasks) rfl (fun _ => rfl) (fun x3 h => ?_)
  conv => whnf
  refine fkS h (fun h => ?_) (fun h => ?_)
  ·conv => whnf
   exact rt (E := E_Bool) h rfl
  conv => whnf
  exact leS hn1 h (Weak.refl _)
 conv => whnf
 refine lenS a0.Parts Part.enc rfl ?_
 conv => whnf
 refine fkS h (fun h => ?_) (fun h => ?_)
 ·conv => whnf
  exact rt (E := E_Bool) h rfl
 conv => whnf
 refine lenS a0.Ports Port.enc rfl ?_
 conv => whnf
 exact rt (E := E_Bool) h rfl
end Go.Proofs.YtldlcdnhdedoeaaGreat
namespace Go.Proofs.YtldlcdnhdedoeaaGreat
open Go Go.VC
noncomputable def law21_Great (a0 : Config) : Option Bool :=
 bnd (law19_Great a0) fun x1 => fk x1 (some true) (lp (fun nx2 (v2 : Int) => fk (decide (v2 < (a0.Parts.length : Int))) (ix a0.Parts v2 fun x3 => ix a0.Parts v2 fun x4 => bnd (ref10_Cycle x3.Tasks x4.Face) fun x5 => fk (decide (x5.2.1 > (200 : Int))) (some true) (nx2 (wr (v2 + (1 : Int))))) (some false)) FU (0 : Int))
theorem law21_Great_w (a0 : Config) (r : Bool) (h : law21_Great a0 = some r) : Go.VC.Spec Tryz.prog 12 [.agg (Config.enc a0)] (fun y => y = E_Bool r) := by
 refine Go.VC.Spec.of_xc (args := [.agg (Config.enc a0)]) (fn := Tryz.f12) tab ⟨[(0, [1]), (1, [1, 8]), (2, [2]), (3, [1, 3]), (4, [1, 3, 13]), (5, [1, 3]), (6, [1, 3, 5]), (7, [1, 3, 34]), (8, [2]), (9, [2])], [], [], []⟩ 35 [.tmp 2] rfl rfl rfl rfl rfl rfl ?_
 conv => whnf
 refine caS (E := E_Bool) h (law19_Great_w a0) rfl (fun _ => rfl) (fun x1 h => ?_)
 conv => whnf
 refine fkS h (fun h => ?_) (fun h => ?_)
 ·conv => whnf
  exact rt (E := E_Bool) h rfl
 conv => whnf
 refine lpS (fun v2 => ⟨[(1, .l (.ptr 2 0)), (3, .l (.d (.int .i64 v2)))], 35, [], [(2, [.d (.sl (a0.Parts.map Part.enc)), .d (.sl (a0.Ports.map Port.enc))])], []⟩) h (Weak.refl _) (fun _ nx2 hn2 v2 h => ?_)
 conv => whnf
 refine lenS a0.Parts Part.enc rfl ?_
 conv => whnf
 refine fkS h (fun h => ?_) (fun h => ?_)
 ·conv => whnf
  refine ⟨19, ?_⟩
  conv => whnf
  refine ixS (enc := Part.enc) h rfl (fun _ => rfl) (fun x3 h => ?_)
  conv => whnf
  refine ixS (enc := Part.enc) h rfl (fun _ => rfl) (fun x4 h => ?_)
  conv => whnf
  refine daS (E := E_Int_Int_Int) h (ref10_Cycle_w x3.Tasks x4.Face) (fun _ => rfl) (fun x5 h => ?_)
  conv => whnf
  refine drS (by kernel_rfl) ?_
  conv => whnf
  refine fkS h (fun h => ?_) (fun h => ?_)
  ·conv => whnf
   exact rt (E := E_Bool) h rfl
  conv => whnf
  exact leS hn2 h (Weak.refl _)
 conv => whnf
 exact rt (E := E_Bool) h rfl
end Go.Proofs.YtldlcdnhdedoeaaGreat
namespace Go.Proofs.YtldlcdnhdedoeaaGreat
open Go Go.VC
/-! Systems, and how they begin. -/
def portIn (n : Int) (p : Port) : Prop := p.From < n ∧ p.To < n
structure confP (c : Config) : Prop where
 ps : ∀ p ∈ c.Parts, faceP p.Face ∧ AllP p.Tasks
 pl : c.Parts.length ≤ 4
 qs : ∀ p ∈ c.Ports, portP p
 qi : ∀ p ∈ c.Ports, portIn (c.Parts.length : Int) p
 ql : c.Ports.length ≤ 4
noncomputable instance (c : Config) : Decidable (confP c) := Classical.propDecidable _
structure confB (c : Config) : Prop where
 p : c.Parts.length ≤ 4611686018427387904
 q : c.Ports.length ≤ 1000
 t : ∀ p ∈ c.Parts, p.Tasks.length ≤ 4611686018427387904 ∧ ∀ t ∈ p.Tasks, t.Secs.length ≤ 4611686018427387904
theorem mem_take_succ {α : Type} {l : List α} {k : Nat} (h : k < l.length) {x : α} (hx : x ∈ l.take (k + 1)) : x ∈ l.take k ∨ x = l[k] := by
 rw [← List.take_append_getElem h] at hx
 rcases List.mem_append.1 hx with h | h
 ·exact .inl h
 ·exact .inr (List.mem_singleton.1 h)
structure booted (c : Config) (s : KernelState) (ticks : List Int) : Prop where
 conf : confP c
 faces : s.Faces = c.Parts.map (·.Face)
 parts : s.Parts = c.Parts.map fun p => new0 p.Tasks
 lines : s.Lines = c.Ports.map newL
 now : s.Now = 0
 tab : tabP s.Table
 len : s.Table.Frame = (ticks.length : Int)
 at' : ∀ (x : Nat) (y : Int), ticks[x]? = some y → whoV s.Table.Windows (x : Int) = y
end Go.Proofs.YtldlcdnhdedoeaaGreat
namespace Go.Proofs.YtldlcdnhdedoeaaGreat
open Go Go.VC
noncomputable def admit_Drop (a0 : PartState) (a1 : Int) : Option (PartState × Int) :=
 bnd (part_Leave a0 a1) fun x1 => some (x1.1, x1.2)
theorem admit_Drop_w (a0 : PartState) (a1 : Int) (r : PartState × Int) (h : admit_Drop a0 a1 = some r) : Go.VC.Spec Tryz.prog 32 [.agg (PartState.enc a0), .d (.int .i64 a1)] (fun y => y = E_PartState_Int r) := by
 refine Go.VC.Spec.of_xc (args := [.agg (PartState.enc a0), .d (.int .i64 a1)]) (fn := Tryz.f32) tab ⟨[(0, [1, 2, 4]), (1, [4, 5])], [], [], []⟩ 11 [.cell 4 51, .tmp 5] rfl rfl rfl rfl rfl rfl ?_
 conv => whnf
 refine ccS (E := E_PartState_Int) h (part_Leave_w a0 a1) rfl rfl (fun x1 h => ?_)
 conv => whnf
 exact rt (E := E_PartState_Int) h rfl
end Go.Proofs.YtldlcdnhdedoeaaGreat
