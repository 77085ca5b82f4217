/- It is proved that the law KernelSends returns true at every input that the row lets in; there is no condition beside the row's own. -/
import Derived.Test.YtldlcdnhdedoeaaGreatXKernelSends6
import Derived.Test.YtldlcdnhdedoeaaGreatXKernelSends8
import Derived.Test.YtldlcdnhdedoeaaGreatXKernelSends7
import Derived.Test.YtldlcdnhdedoeaaGreatRows
set_option linter.unusedVariables false
set_option linter.unusedSimpArgs false
set_option maxRecDepth 100000
set_option maxHeartbeats 4000000
namespace Go.Proofs.YtldlcdnhdedoeaaGreat
open Go Go.VC
noncomputable def image_Right (a0 : Config) : Option Bool :=
  lp (fun nx1 (v1 : Int) => fk (decide (v1 < (a0.Parts.length : Int))) (ix a0.Parts v1 fun x2 => jn (fun (w3 : Bool) => fk w3 (some false) (nx1 (wr (v1 + (1 : Int))))) (fun k3 => bnd (supply_Right x2.Face) fun x4 => fk (!x4) (k3 true) (bnd (task_All x2.Tasks) fun x5 => k3 (!x5)))) (lp (fun nx6 (v6 : Int) => fk (decide (v6 < (a0.Ports.length : Int))) (ix a0.Ports v6 fun x7 => jn (fun (w8 : Bool) => fk w8 (some false) (nx6 (wr (v6 + (1 : Int))))) (fun k8 => fk (decide (x7.From ≥ (a0.Parts.length : Int))) (k8 true) (k8 (decide (x7.To ≥ (a0.Parts.length : Int)))))) (bnd (port_Open a0.Ports) fun x9 => fk (decide (x9.2 = (0 : Int))) (some (decide ((a0.Parts.length : Int) ≤ (4 : Int)))) (some false))) FU (0 : Int))) FU (0 : Int)
theorem image_Right_w (a0 : Config) (r : Bool) (h : image_Right a0 = some r) : Go.VC.Spec Tryz.prog 54 [.agg (Config.enc a0)] (fun y => y = E_Bool r) := by
  refine Go.VC.Spec.of_xc (args := [.agg (Config.enc a0)]) (fn := Tryz.f54) tab ⟨[(0, [1]), (1, [1, 10, 11, 12]), (2, [1, 10, 11, 12, 13]), (3, [1, 4, 10, 11, 12]), (4, [1, 10, 11, 12, 25]), (5, [2]), (6, [1, 10, 11, 12]), (7, [1, 28, 29, 30]), (8, [1, 28, 29, 30, 31]), (9, [1, 6, 28, 29, 30]), (10, [1, 28, 29, 30, 47]), (11, [2]), (12, [1, 28, 29, 30]), (13, [1, 8]), (14, [2])], [], [100025, 100047], []⟩ 63 [.tmp 2] rfl rfl rfl rfl rfl rfl ?_
  conv => whnf
  refine lenS a0.Parts Part.enc rfl ?_
  conv => whnf
  refine lpS (fun v1 => ⟨[(1, .l (.ptr 2 0)), (10, .l (.d (.sl (a0.Parts.map Part.enc)))), (11, .l (.d (.int .i64 (a0.Parts.length : Int)))), (12, .l (.d (.int .i64 v1)))], 63, [], [(2, [.d (.sl (a0.Parts.map Part.enc)), .d (.sl (a0.Ports.map Port.enc))])], []⟩) h (Weak.refl _) (fun _ nx1 hn1 v1 h => ?_)
  conv => whnf
  refine fkS h (fun h => ?_) (fun h => ?_)
  · conv => whnf
    refine ixS (enc := Part.enc) h rfl (fun _ => rfl) (fun x2 h => ?_)
    conv => whnf
    refine jnS (fun w3 => ⟨[(1, .l (.ptr 2 0)), (10, .l (.d (.sl (a0.Parts.map Part.enc)))), (11, .l (.d (.int .i64 (a0.Parts.length : Int)))), (12, .l (.d (.int .i64 v1))), (25, .l (.d (.bool w3)))], 63, [], [(2, [.d (.sl (a0.Parts.map Part.enc)), .d (.sl (a0.Ports.map Port.enc))])], []⟩) h (fun k3 hk3 h => ?_) (fun w3 h => ?_)
    · conv => whnf
      refine caS (E := E_Bool) h (supply_Right_w x2.Face) rfl (fun _ => rfl) (fun x4 h => ?_)
      conv => whnf
      refine fkS h (fun h => ?_) (fun h => ?_)
      · conv => whnf
        exact jeS hk3 h (Weak.refl _)
      conv => whnf
      refine caS (E := E_Bool) h (task_All_w x2.Tasks) rfl (fun _ => rfl) (fun x5 h => ?_)
      conv => whnf
      exact jeS hk3 h (Weak.refl _)
    conv => whnf
    refine fkS h (fun h => ?_) (fun h => ?_)
    · conv => whnf
      exact rt (E := E_Bool) h rfl
    conv => whnf
    exact leS hn1 h (Weak.refl _)
  conv => whnf
  refine lenS a0.Ports Port.enc rfl ?_
  conv => whnf
  refine lpS (fun v6 => ⟨[(1, .l (.ptr 2 0)), (28, .l (.d (.sl (a0.Ports.map Port.enc)))), (29, .l (.d (.int .i64 (a0.Ports.length : Int)))), (30, .l (.d (.int .i64 v6)))], 63, [], [(2, [.d (.sl (a0.Parts.map Part.enc)), .d (.sl (a0.Ports.map Port.enc))])], []⟩) h (Weak.refl _) (fun _ nx6 hn6 v6 h => ?_)
  conv => whnf
  refine fkS h (fun h => ?_) (fun h => ?_)
  · conv => whnf
    refine ixS (enc := Port.enc) h rfl (fun _ => rfl) (fun x7 h => ?_)
    conv => whnf
    refine jnS (fun w8 => ⟨[(1, .l (.ptr 2 0)), (28, .l (.d (.sl (a0.Ports.map Port.enc)))), (29, .l (.d (.int .i64 (a0.Ports.length : Int)))), (30, .l (.d (.int .i64 v6))), (47, .l (.d (.bool w8)))], 63, [], [(2, [.d (.sl (a0.Parts.map Part.enc)), .d (.sl (a0.Ports.map Port.enc))])], []⟩) h (fun k8 hk8 h => ?_) (fun w8 h => ?_)
    · conv => whnf
      refine lenS a0.Parts Part.enc rfl ?_
      conv => whnf
      refine fkS h (fun h => ?_) (fun h => ?_)
      · conv => whnf
        exact jeS hk8 h (Weak.refl _)
      conv => whnf
      refine lenS a0.Parts Part.enc rfl ?_
      conv => whnf
      exact jeS hk8 h (Weak.refl _)
    conv => whnf
    refine fkS h (fun h => ?_) (fun h => ?_)
    · conv => whnf
      exact rt (E := E_Bool) h rfl
    conv => whnf
    exact leS hn6 h (Weak.refl _)
  conv => whnf
  refine ccS (E := E_ListPortLine_Int) h (port_Open_w a0.Ports) rfl rfl (fun x9 h => ?_)
  conv => whnf
  refine fkS h (fun h => ?_) (fun h => ?_)
  · conv => whnf
    refine lenS a0.Parts Part.enc rfl ?_
    conv => whnf
    exact rt (E := E_Bool) h rfl
  conv => whnf
  exact rt (E := E_Bool) h rfl

end Go.Proofs.YtldlcdnhdedoeaaGreat
namespace Go.Proofs.YtldlcdnhdedoeaaGreat
open Go Go.VC
noncomputable def ref18_May (a0 : Port) : Option Bool :=
  fk (decide (a0.From ≥ (0 : Int))) (fk (decide (a0.From < (4 : Int))) (fk (decide (a0.To ≥ (0 : Int))) (fk (decide (a0.To < (4 : Int))) (fk (!decide (a0.To = a0.From)) (fk (decide (a0.Cap > (0 : Int))) (some (decide (a0.Cap < (5 : Int)))) (some false)) (some false)) (some false)) (some false)) (some false)) (some false)
theorem ref18_May_w (a0 : Port) (r : Bool) (h : ref18_May a0 = some r) : Go.VC.Spec Tryz.prog 155 [.agg (Port.enc a0)] (fun y => y = E_Bool r) := by
  refine Go.VC.Spec.of_xc (args := [.agg (Port.enc a0)]) (fn := Tryz.f155) tab ⟨[(0, [1]), (1, [2])], [], [], []⟩ 38 [.tmp 2] rfl rfl rfl rfl rfl rfl ?_
  conv => whnf
  refine fkS h (fun h => ?_) (fun h => ?_)
  · conv => whnf
    refine fkS h (fun h => ?_) (fun h => ?_)
    · conv => whnf
      refine fkS h (fun h => ?_) (fun h => ?_)
      · conv => whnf
        refine fkS h (fun h => ?_) (fun h => ?_)
        · conv => whnf
          refine fkS h (fun h => ?_) (fun h => ?_)
          · conv => whnf
            refine fkS h (fun h => ?_) (fun h => ?_)
            · conv => whnf
              exact rt (E := E_Bool) h rfl
            conv => whnf
            exact rt (E := E_Bool) h rfl
          conv => whnf
          exact rt (E := E_Bool) h rfl
        conv => whnf
        exact rt (E := E_Bool) h rfl
      conv => whnf
      exact rt (E := E_Bool) h rfl
    conv => whnf
    exact rt (E := E_Bool) h rfl
  conv => whnf
  exact rt (E := E_Bool) h rfl

end Go.Proofs.YtldlcdnhdedoeaaGreat
namespace Go.Proofs.YtldlcdnhdedoeaaGreat
open Go Go.VC
noncomputable def ref18_All (a0 : List Port) : Option Bool :=
  lp (fun nx1 (v1 : Int) => fk (decide (v1 < (a0.length : Int))) (ix a0 v1 fun x2 => bnd (ref18_May x2) fun x3 => fk (!x3) (some false) (nx1 (wr (v1 + (1 : Int))))) (some (decide ((a0.length : Int) < (5 : Int))))) FU (0 : Int)
theorem ref18_All_w (a0 : List Port) (r : Bool) (h : ref18_All a0 = some r) : Go.VC.Spec Tryz.prog 115 [.d (.sl (a0.map Port.enc))] (fun y => y = E_Bool r) := by
  refine Go.VC.Spec.of_xc (args := [.d (.sl (a0.map Port.enc))]) (fn := Tryz.f115) tab ⟨[(0, [0]), (1, [0, 3]), (2, [0, 3, 7]), (3, [0, 3]), (4, [0, 3, 15]), (5, [2]), (6, [2])], [], [], []⟩ 19 [.tmp 2] rfl rfl rfl rfl rfl rfl ?_
  conv => whnf
  refine lpS (fun v1 => ⟨[(0, .l (.d (.sl (a0.map Port.enc)))), (3, .l (.d (.int .i64 v1)))], 19, [], [], []⟩) h (Weak.refl _) (fun _ nx1 hn1 v1 h => ?_)
  conv => whnf
  refine lenS a0 Port.enc rfl ?_
  conv => whnf
  refine fkS h (fun h => ?_) (fun h => ?_)
  · conv => whnf
    refine ixS (enc := Port.enc) h rfl (fun _ => rfl) (fun x2 h => ?_)
    conv => whnf
    refine caS (E := E_Bool) h (ref18_May_w x2) rfl (fun _ => rfl) (fun x3 h => ?_)
    conv => whnf
    refine fkS h (fun h => ?_) (fun h => ?_)
    · conv => whnf
      exact rt (E := E_Bool) h rfl
    conv => whnf
    exact leS hn1 h (Weak.refl _)
  conv => whnf
  refine lenS a0 Port.enc rfl ?_
  conv => whnf
  exact rt (E := E_Bool) h rfl

end Go.Proofs.YtldlcdnhdedoeaaGreat
namespace Go.Proofs.YtldlcdnhdedoeaaGreat
open Go Go.VC
noncomputable def ref19_Right (a0 : Config) : Option Bool :=
  jn (fun (w1 : Bool) => fk w1 (some false) (lp (fun nx3 (v3 : Int) => fk (decide (v3 < (a0.Parts.length : Int))) (jn (fun (w4 : Bool) => fk w4 (some false) (nx3 (wr (v3 + (1 : Int))))) (fun k4 => ix a0.Parts v3 fun x5 => bnd (ref09_Right x5.Face) fun x6 => fk (!x6) (k4 true) (ix a0.Parts v3 fun x7 => bnd (ref05_All x7.Tasks) fun x8 => k4 (!x8)))) (lp (fun nx9 (v9 : Int) => fk (decide (v9 < (a0.Ports.length : Int))) (jn (fun (w10 : Bool) => fk w10 (some false) (nx9 (wr (v9 + (1 : Int))))) (fun k10 => ix a0.Ports v9 fun x11 => fk (decide (x11.From ≥ (a0.Parts.length : Int))) (k10 true) (ix a0.Ports v9 fun x12 => k10 (decide (x12.To ≥ (a0.Parts.length : Int)))))) (some true)) FU (0 : Int))) FU (0 : Int))) (fun k1 => fk (decide ((a0.Parts.length : Int) > (4 : Int))) (k1 true) (bnd (ref18_All a0.Ports) fun x2 => k1 (!x2)))
theorem ref19_Right_w (a0 : Config) (r : Bool) (h : ref19_Right a0 = some r) : Go.VC.Spec Tryz.prog 57 [.agg (Config.enc a0)] (fun y => y = E_Bool r) := by
  refine Go.VC.Spec.of_xc (args := [.agg (Config.enc a0)]) (fn := Tryz.f57) tab ⟨[(0, [1]), (1, [1, 14]), (2, [2]), (3, [1, 3]), (4, [1, 3, 19]), (5, [1, 3]), (6, [1, 3, 39]), (7, [2]), (8, [1, 4]), (9, [1, 4, 44]), (10, [1, 4]), (11, [1, 4, 68]), (12, [2]), (13, [2])], [], [100014, 100039, 100068], []⟩ 69 [.tmp 2] rfl rfl rfl rfl rfl rfl ?_
  conv => whnf
  refine jnS (fun w1 => ⟨[(1, .l (.ptr 2 0)), (14, .l (.d (.bool w1)))], 69, [], [(2, [.d (.sl (a0.Parts.map Part.enc)), .d (.sl (a0.Ports.map Port.enc))])], []⟩) h (fun k1 hk1 h => ?_) (fun w1 h => ?_)
  · conv => whnf
    refine lenS a0.Parts Part.enc rfl ?_
    conv => whnf
    refine fkS h (fun h => ?_) (fun h => ?_)
    · conv => whnf
      exact jeS hk1 h (Weak.refl _)
    conv => whnf
    refine caS (E := E_Bool) h (ref18_All_w a0.Ports) rfl (fun _ => rfl) (fun x2 h => ?_)
    conv => whnf
    exact jeS hk1 h (Weak.refl _)
  conv => whnf
  refine fkS h (fun h => ?_) (fun h => ?_)
  · conv => whnf
    exact rt (E := E_Bool) h rfl
  conv => whnf
  refine lpS (fun v3 => ⟨[(1, .l (.ptr 2 0)), (3, .l (.d (.int .i64 v3)))], 69, [], [(2, [.d (.sl (a0.Parts.map Part.enc)), .d (.sl (a0.Ports.map Port.enc))])], []⟩) h (Weak.refl _) (fun _ nx3 hn3 v3 h => ?_)
  conv => whnf
  refine lenS a0.Parts Part.enc rfl ?_
  conv => whnf
  refine fkS h (fun h => ?_) (fun h => ?_)
  · conv => whnf
    refine jnS (fun w4 => ⟨[(1, .l (.ptr 2 0)), (3, .l (.d (.int .i64 v3))), (39, .l (.d (.bool w4)))], 69, [], [(2, [.d (.sl (a0.Parts.map Part.enc)), .d (.sl (a0.Ports.map Port.enc))])], []⟩) h (fun k4 hk4 h => ?_) (fun w4 h => ?_)
    · conv => whnf
      refine ixS (enc := Part.enc) h rfl (fun _ => rfl) (fun x5 h => ?_)
      conv => whnf
      refine caS (E := E_Bool) h (ref09_Right_w x5.Face) rfl (fun _ => rfl) (fun x6 h => ?_)
      conv => whnf
      refine fkS h (fun h => ?_) (fun h => ?_)
      · conv => whnf
        exact jeS hk4 h (Weak.refl _)
      conv => whnf
      refine ixS (enc := Part.enc) h rfl (fun _ => rfl) (fun x7 h => ?_)
      conv => whnf
      refine caS (E := E_Bool) h (ref05_All_w x7.Tasks) rfl (fun _ => rfl) (fun x8 h => ?_)
      conv => whnf
      exact jeS hk4 h (Weak.refl _)
    conv => whnf
    refine fkS h (fun h => ?_) (fun h => ?_)
    · conv => whnf
      exact rt (E := E_Bool) h rfl
    conv => whnf
    exact leS hn3 h (Weak.refl _)
  conv => whnf
  refine lpS (fun v9 => ⟨[(1, .l (.ptr 2 0)), (4, .l (.d (.int .i64 v9)))], 69, [], [(2, [.d (.sl (a0.Parts.map Part.enc)), .d (.sl (a0.Ports.map Port.enc))])], []⟩) h (Weak.refl _) (fun _ nx9 hn9 v9 h => ?_)
  conv => whnf
  refine lenS a0.Ports Port.enc rfl ?_
  conv => whnf
  refine fkS h (fun h => ?_) (fun h => ?_)
  · conv => whnf
    refine jnS (fun w10 => ⟨[(1, .l (.ptr 2 0)), (4, .l (.d (.int .i64 v9))), (68, .l (.d (.bool w10)))], 69, [], [(2, [.d (.sl (a0.Parts.map Part.enc)), .d (.sl (a0.Ports.map Port.enc))])], []⟩) h (fun k10 hk10 h => ?_) (fun w10 h => ?_)
    · conv => whnf
      refine ⟨22, ?_⟩
      conv => whnf
      refine ixS (enc := Port.enc) h rfl (fun _ => rfl) (fun x11 h => ?_)
      conv => whnf
      refine lenS a0.Parts Part.enc rfl ?_
      conv => whnf
      refine fkS h (fun h => ?_) (fun h => ?_)
      · conv => whnf
        refine drS (by kernel_rfl) ?_
        conv => whnf
        exact jeS hk10 h (Weak.refl _)
      conv => whnf
      refine ixS (enc := Port.enc) h rfl (fun _ => rfl) (fun x12 h => ?_)
      conv => whnf
      refine lenS a0.Parts Part.enc rfl ?_
      conv => whnf
      refine drS (by kernel_rfl) ?_
      conv => whnf
      exact jeS hk10 h (Weak.refl _)
    conv => whnf
    refine fkS h (fun h => ?_) (fun h => ?_)
    · conv => whnf
      exact rt (E := E_Bool) h rfl
    conv => whnf
    exact leS hn9 h (Weak.refl _)
  conv => whnf
  exact rt (E := E_Bool) h rfl

end Go.Proofs.YtldlcdnhdedoeaaGreat
namespace Go.Proofs.YtldlcdnhdedoeaaGreat
open Go Go.VC
noncomputable def table_Make (a0 : List Face) : Option (TableTable × Int) :=
  bnd (synth_Lay a0) fun x1 => fk (!decide (x1.2 = (0 : Int))) (some (⟨(0 : Int), []⟩, x1.2)) (bnd (table_Of x1.1) fun x2 => some (x2.1, x2.2))
theorem table_Make_w (a0 : List Face) (r : TableTable × Int) (h : table_Make a0 = some r) : Go.VC.Spec Tryz.prog 55 [.d (.sl (a0.map Face.enc))] (fun y => y = E_TableTable_Int r) := by
  refine Go.VC.Spec.of_xc (args := [.d (.sl (a0.map Face.enc))]) (fn := Tryz.f55) tab ⟨[(0, [0, 2]), (1, [2, 4, 5]), (2, [2, 4, 5, 12]), (3, [2, 3]), (4, [2, 3])], [], [], []⟩ 19 [.cell 2 30, .tmp 3] rfl rfl rfl rfl rfl rfl ?_
  conv => whnf
  refine ccS (E := E_ListInt_Int) h (synth_Lay_w a0) rfl rfl (fun x1 h => ?_)
  conv => whnf
  refine fkS h (fun h => ?_) (fun h => ?_)
  · conv => whnf
    exact rt (E := E_TableTable_Int) h rfl
  conv => whnf
  refine ccS (E := E_TableTable_Int) h (table_Of_w x1.1) rfl rfl (fun x2 h => ?_)
  conv => whnf
  exact rt (E := E_TableTable_Int) h rfl

end Go.Proofs.YtldlcdnhdedoeaaGreat
namespace Go.Proofs.YtldlcdnhdedoeaaGreat
open Go Go.VC
noncomputable def kernel_Boot (a0 : Config) : Option (KernelState × Int) :=
  bnd (image_Right a0) fun x1 => fk (!x1) (some (⟨⟨(0 : Int), []⟩, [], [], [], (0 : Int)⟩, (1 : Int))) (lp (fun nx2 (v2 : (List Face) × Int) => fk (decide (v2.2 < (a0.Parts.length : Int))) (ix a0.Parts v2.2 fun x3 => ck (decide ((v2.1.length + ([x3.Face] : List Face).length) * 16 ≤ 140737488355328)) (nx2 (v2.1 ++ ([x3.Face] : List Face), (wr (v2.2 + (1 : Int)))))) (bnd (table_Make v2.1) fun x4 => fk (!decide (x4.2 = (0 : Int))) (some (⟨⟨(0 : Int), []⟩, [], [], [], (0 : Int)⟩, x4.2)) (lp (fun nx5 (v5 : (List PartState) × Int) => fk (decide (v5.2 < (a0.Parts.length : Int))) (ix a0.Parts v5.2 fun x6 => bnd (admit_Boot x6) fun x7 => fk (!decide (x7.2 = (0 : Int))) (some (⟨⟨(0 : Int), []⟩, [], [], [], (0 : Int)⟩, x7.2)) (ck (decide ((v5.1.length + ([x7.1] : List PartState).length) * 120 ≤ 140737488355328)) (nx5 (v5.1 ++ ([x7.1] : List PartState), (wr (v5.2 + (1 : Int))))))) (bnd (port_Open a0.Ports) fun x8 => some (⟨x4.1, v2.1, v5.1, x8.1, (0 : Int)⟩, (0 : Int)))) FU ([], (0 : Int))))) FU ([], (0 : Int)))
theorem kernel_Boot_w (a0 : Config) (r : KernelState × Int) (h : kernel_Boot a0 = some r) : Go.VC.Spec Tryz.prog 14 [.agg (Config.enc a0)] (fun y => y = E_KernelState_Int r) := by
  refine Go.VC.Spec.of_xc (args := [.agg (Config.enc a0)]) (fn := Tryz.f14) tab ⟨[(0, [1, 2]), (1, [1, 2, 14]), (2, [2, 3]), (3, [1, 2, 4]), (4, [1, 2, 4]), (5, [1, 2, 4, 17, 18, 19]), (6, [1, 2, 4, 17, 18, 19, 20]), (7, [1, 2, 4, 7, 17, 18, 19]), (8, [1, 2, 4, 17, 18, 19]), (9, [1, 2, 4, 17, 18, 19]), (10, [1, 2, 4, 5]), (11, [1, 2, 4, 5, 39]), (12, [2, 3]), (13, [1, 2, 4, 43, 44, 45]), (14, [1, 2, 4, 43, 44, 45, 46]), (15, [1, 2, 4, 9, 43, 44, 45]), (16, [1, 2, 4, 10, 11, 43, 44, 45]), (17, [1, 2, 4, 10, 11, 43, 44, 45, 55]), (18, [2, 3]), (19, [1, 2, 4, 43, 44, 45]), (20, [1, 2, 4, 43, 44, 45]), (21, [2, 4]), (22, [2, 3])], [], [], []⟩ 73 [.cell 2 35, .tmp 3] rfl rfl rfl rfl rfl rfl ?_
  conv => whnf
  refine caS (E := E_Bool) h (image_Right_w a0) rfl (fun _ => rfl) (fun x1 h => ?_)
  conv => whnf
  refine fkS h (fun h => ?_) (fun h => ?_)
  · conv => whnf
    exact rt (E := E_KernelState_Int) h rfl
  conv => whnf
  refine lenS a0.Parts Part.enc rfl ?_
  conv => whnf
  refine lpS (fun v2 => ⟨[(1, .l (.ptr 2 0)), (2, .l (.ptr 3 0)), (4, .l (.ptr 5 0)), (17, .l (.d (.sl (a0.Parts.map Part.enc)))), (18, .l (.d (.int .i64 (a0.Parts.length : Int)))), (19, .l (.d (.int .i64 v2.2)))], 73, [], [(2, [.d (.sl (a0.Parts.map Part.enc)), .d (.sl (a0.Ports.map Port.enc))]), (3, [.d (.int .i64 (0 : Int)), .nil, .nil, .nil, .nil, .d (.int .i64 (0 : Int))]), (5, [.d (.int .i64 (0 : Int)), .nil, .own 50502, .nil, .nil, .d (.int .i64 (0 : Int))])], [(50502, 55, 2, v2.1.map Face.enc)]⟩) h (Weak.trans (Weak.nilBO _ 5 2 50502 55 2 _ rfl rfl) (Weak.refl _)) (fun _ nx2 hn2 v2 h => ?_)
  conv => whnf
  refine fkS h (fun h => ?_) (fun h => ?_)
  · conv => whnf
    refine ixS (enc := Part.enc) h rfl (fun _ => rfl) (fun x3 h => ?_)
    conv => whnf
    refine liS ([x3.Face] : List Face) Face.enc rfl rfl ?_
    conv => whnf
    refine apS (enc := Face.enc) (l1 := v2.1) (l2 := ([x3.Face] : List Face)) h rfl rfl (fun _ => rfl) (fun h => ?_)
    conv => whnf
    refine leX hn2 h ?_
    conv => whnf
    refine WkF.step (Weak.rekey _ 29 50502 rfl) ?_
    conv => whnf
    exact WkF.refl _
  conv => whnf
  refine iceS 50502 ?_
  conv => whnf
  refine ccS (E := E_TableTable_Int) h (table_Make_w v2.1) rfl rfl (fun x4 h => ?_)
  conv => whnf
  refine fkS h (fun h => ?_) (fun h => ?_)
  · conv => whnf
    exact rt (E := E_KernelState_Int) h rfl
  conv => whnf
  refine lenS a0.Parts Part.enc rfl ?_
  conv => whnf
  refine lpS (fun v5 => ⟨[(1, .l (.ptr 2 0)), (2, .l (.ptr 3 0)), (4, .l (.ptr 5 0)), (43, .l (.d (.sl (a0.Parts.map Part.enc)))), (44, .l (.d (.int .i64 (a0.Parts.length : Int)))), (45, .l (.d (.int .i64 v5.2)))], 73, [], [(2, [.d (.sl (a0.Parts.map Part.enc)), .d (.sl (a0.Ports.map Port.enc))]), (3, [.d (.int .i64 (0 : Int)), .nil, .nil, .nil, .nil, .d (.int .i64 (0 : Int))]), (5, [.d (.int .i64 x4.1.Frame), .d (.sl (x4.1.Windows.map Window.enc)), .d (.sl (v2.1.map Face.enc)), .own 50503, .nil, .d (.int .i64 (0 : Int))])], [(50503, 51, 5, v5.1.map PartState.enc)]⟩) h (Weak.trans (Weak.nilBO _ 5 3 50503 51 5 _ rfl rfl) (Weak.refl _)) (fun _ nx5 hn5 v5 h => ?_)
  conv => whnf
  refine fkS h (fun h => ?_) (fun h => ?_)
  · conv => whnf
    refine ixS (enc := Part.enc) h rfl (fun _ => rfl) (fun x6 h => ?_)
    conv => whnf
    refine ccS (E := E_PartState_Int) h (admit_Boot_w x6) rfl rfl (fun x7 h => ?_)
    conv => whnf
    refine fkS h (fun h => ?_) (fun h => ?_)
    · conv => whnf
      exact rt (E := E_KernelState_Int) h rfl
    conv => whnf
    refine liS ([x7.1] : List PartState) PartState.enc rfl rfl ?_
    conv => whnf
    refine apS (enc := PartState.enc) (l1 := v5.1) (l2 := ([x7.1] : List PartState)) h rfl rfl (fun _ => rfl) (fun h => ?_)
    conv => whnf
    refine leX hn5 h ?_
    conv => whnf
    refine WkF.step (Weak.rekey _ 63 50503 rfl) ?_
    conv => whnf
    exact WkF.refl _
  conv => whnf
  refine ccS (E := E_ListPortLine_Int) h (port_Open_w a0.Ports) rfl rfl (fun x8 h => ?_)
  conv => whnf
  exact rt (E := E_KernelState_Int) h rfl

end Go.Proofs.YtldlcdnhdedoeaaGreat
namespace Go.Proofs.YtldlcdnhdedoeaaGreat
open Go Go.VC
noncomputable def ref21_Boot (a0 : Config) : Option ((List Int) × Int) :=
  bnd (ref19_Right a0) fun x1 => fk (!x1) (some ([], (1 : Int))) (lp (fun nx2 (v2 : (List Face) × Int) => fk (decide (v2.2 < (a0.Parts.length : Int))) (ix a0.Parts v2.2 fun x3 => ck (decide ((v2.1.length + ([x3.Face] : List Face).length) * 16 ≤ 140737488355328)) (nx2 (v2.1 ++ ([x3.Face] : List Face), (wr (v2.2 + (1 : Int)))))) (bnd (ref12_Lay v2.1) fun x4 => fk (!decide (x4.2 = (0 : Int))) (some ([], x4.2)) (lp (fun nx5 (v5 : Int) => fk (decide (v5 < (a0.Parts.length : Int))) (ix a0.Parts v5 fun x6 => bnd (ref20_Boot x6) fun x7 => fk (!decide (x7 = (0 : Int))) (some ([], x7)) (nx5 (wr (v5 + (1 : Int))))) (some (x4.1, (0 : Int)))) FU (0 : Int)))) FU ([], (0 : Int)))
theorem ref21_Boot_w (a0 : Config) (r : (List Int) × Int) (h : ref21_Boot a0 = some r) : Go.VC.Spec Tryz.prog 15 [.agg (Config.enc a0)] (fun y => y = E_ListInt_Int r) := by
  refine Go.VC.Spec.of_xc (args := [.agg (Config.enc a0)]) (fn := Tryz.f15) tab ⟨[(0, [1]), (1, [1, 12]), (2, [2, 3]), (3, [1, 4]), (4, [1, 4, 5]), (5, [1, 4, 5, 17]), (6, [1, 4, 5]), (7, [1, 4, 5]), (8, [1, 6, 7]), (9, [1, 6, 7, 35]), (10, [2, 3]), (11, [1, 6, 8]), (12, [1, 6, 8, 41]), (13, [1, 6, 8]), (14, [1, 6, 8, 9]), (15, [1, 6, 8, 9, 51]), (16, [2, 3]), (17, [2, 3])], [], [], []⟩ 54 [.tmp 2, .tmp 3] rfl rfl rfl rfl rfl rfl ?_
  conv => whnf
  refine caS (E := E_Bool) h (ref19_Right_w a0) rfl (fun _ => rfl) (fun x1 h => ?_)
  conv => whnf
  refine fkS h (fun h => ?_) (fun h => ?_)
  · conv => whnf
    exact rt (E := E_ListInt_Int) h rfl
  conv => whnf
  refine lpS (fun v2 => ⟨[(1, .l (.ptr 2 0)), (4, .l (.own 5)), (5, .l (.d (.int .i64 v2.2)))], 54, [], [(2, [.d (.sl (a0.Parts.map Part.enc)), .d (.sl (a0.Ports.map Port.enc))])], [(5, 55, 2, v2.1.map Face.enc)]⟩) h (Weak.trans (Weak.nilO _ 4 5 55 2 rfl) (Weak.refl _)) (fun _ nx2 hn2 v2 h => ?_)
  conv => whnf
  refine lenS a0.Parts Part.enc rfl ?_
  conv => whnf
  refine fkS h (fun h => ?_) (fun h => ?_)
  · conv => whnf
    refine ixS (enc := Part.enc) h rfl (fun _ => rfl) (fun x3 h => ?_)
    conv => whnf
    refine liS ([x3.Face] : List Face) Face.enc rfl rfl ?_
    conv => whnf
    refine apS (enc := Face.enc) (l1 := v2.1) (l2 := ([x3.Face] : List Face)) h rfl rfl (fun _ => rfl) (fun h => ?_)
    conv => whnf
    exact leS hn2 h (Weak.refl _)
  conv => whnf
  refine iceS 5 ?_
  conv => whnf
  refine ccS (E := E_ListInt_Int) h (ref12_Lay_w v2.1) rfl rfl (fun x4 h => ?_)
  conv => whnf
  refine fkS h (fun h => ?_) (fun h => ?_)
  · conv => whnf
    exact rt (E := E_ListInt_Int) h rfl
  conv => whnf
  refine lpS (fun v5 => ⟨[(1, .l (.ptr 2 0)), (6, .l (.d (.sl (x4.1.map (eI .i64))))), (8, .l (.d (.int .i64 v5)))], 54, [], [(2, [.d (.sl (a0.Parts.map Part.enc)), .d (.sl (a0.Ports.map Port.enc))])], []⟩) h (Weak.refl _) (fun _ nx5 hn5 v5 h => ?_)
  conv => whnf
  refine lenS a0.Parts Part.enc rfl ?_
  conv => whnf
  refine fkS h (fun h => ?_) (fun h => ?_)
  · conv => whnf
    refine ixS (enc := Part.enc) h rfl (fun _ => rfl) (fun x6 h => ?_)
    conv => whnf
    refine caS (E := E_Int) h (ref20_Boot_w x6) rfl (fun _ => rfl) (fun x7 h => ?_)
    conv => whnf
    refine fkS h (fun h => ?_) (fun h => ?_)
    · conv => whnf
      exact rt (E := E_ListInt_Int) h rfl
    conv => whnf
    exact leS hn5 h (Weak.refl _)
  conv => whnf
  exact rt (E := E_ListInt_Int) h rfl

end Go.Proofs.YtldlcdnhdedoeaaGreat
namespace Go.Proofs.YtldlcdnhdedoeaaGreat
open Go Go.VC
noncomputable def law19_Great (a0 : Config) : Option Bool :=
  lp (fun nx1 (v1 : Int) => fk (decide (v1 < (a0.Parts.length : Int))) (ix a0.Parts v1 fun x2 => bnd (law05_Great x2.Tasks) fun x3 => fk x3 (some true) (nx1 (wr (v1 + (1 : Int))))) (fk (decide ((a0.Parts.length : Int) > (20 : Int))) (some true) (some (decide ((a0.Ports.length : Int) > (20 : Int)))))) FU (0 : Int)
theorem law19_Great_w (a0 : Config) (r : Bool) (h : law19_Great a0 = some r) : Go.VC.Spec Tryz.prog 49 [.agg (Config.enc a0)] (fun y => y = E_Bool r) := by
  refine Go.VC.Spec.of_xc (args := [.agg (Config.enc a0)]) (fn := Tryz.f49) tab ⟨[(0, [1]), (1, [1, 3]), (2, [1, 3, 8]), (3, [1, 3]), (4, [1, 3, 17]), (5, [2]), (6, [2])], [], [], []⟩ 28 [.tmp 2] rfl rfl rfl rfl rfl rfl ?_
  conv => whnf
  refine lpS (fun v1 => ⟨[(1, .l (.ptr 2 0)), (3, .l (.d (.int .i64 v1)))], 28, [], [(2, [.d (.sl (a0.Parts.map Part.enc)), .d (.sl (a0.Ports.map Port.enc))])], []⟩) h (Weak.refl _) (fun _ nx1 hn1 v1 h => ?_)
  conv => whnf
  refine lenS a0.Parts Part.enc rfl ?_
  conv => whnf
  refine fkS h (fun h => ?_) (fun h => ?_)
  · conv => whnf
    refine ixS (enc := Part.enc) h rfl (fun _ => rfl) (fun x2 h => ?_)
    conv => whnf
    refine caS (E := E_Bool) h (law05_Great_w x2.Tasks) rfl (fun _ => rfl) (fun x3 h => ?_)
    conv => whnf
    refine fkS h (fun h => ?_) (fun h => ?_)
    · conv => whnf
      exact rt (E := E_Bool) h rfl
    conv => whnf
    exact leS hn1 h (Weak.refl _)
  conv => whnf
  refine lenS a0.Parts Part.enc rfl ?_
  conv => whnf
  refine fkS h (fun h => ?_) (fun h => ?_)
  · conv => whnf
    exact rt (E := E_Bool) h rfl
  conv => whnf
  refine lenS a0.Ports Port.enc rfl ?_
  conv => whnf
  exact rt (E := E_Bool) h rfl

end Go.Proofs.YtldlcdnhdedoeaaGreat
namespace Go.Proofs.YtldlcdnhdedoeaaGreat
open Go Go.VC
noncomputable def law21_Great (a0 : Config) : Option Bool :=
  bnd (law19_Great a0) fun x1 => fk x1 (some true) (lp (fun nx2 (v2 : Int) => fk (decide (v2 < (a0.Parts.length : Int))) (ix a0.Parts v2 fun x3 => ix a0.Parts v2 fun x4 => bnd (ref10_Cycle x3.Tasks x4.Face) fun x5 => fk (decide (x5.2.1 > (200 : Int))) (some true) (nx2 (wr (v2 + (1 : Int))))) (some false)) FU (0 : Int))
theorem law21_Great_w (a0 : Config) (r : Bool) (h : law21_Great a0 = some r) : Go.VC.Spec Tryz.prog 12 [.agg (Config.enc a0)] (fun y => y = E_Bool r) := by
  refine Go.VC.Spec.of_xc (args := [.agg (Config.enc a0)]) (fn := Tryz.f12) tab ⟨[(0, [1]), (1, [1, 8]), (2, [2]), (3, [1, 3]), (4, [1, 3, 13]), (5, [1, 3]), (6, [1, 3, 5]), (7, [1, 3, 34]), (8, [2]), (9, [2])], [], [], []⟩ 35 [.tmp 2] rfl rfl rfl rfl rfl rfl ?_
  conv => whnf
  refine caS (E := E_Bool) h (law19_Great_w a0) rfl (fun _ => rfl) (fun x1 h => ?_)
  conv => whnf
  refine fkS h (fun h => ?_) (fun h => ?_)
  · conv => whnf
    exact rt (E := E_Bool) h rfl
  conv => whnf
  refine lpS (fun v2 => ⟨[(1, .l (.ptr 2 0)), (3, .l (.d (.int .i64 v2)))], 35, [], [(2, [.d (.sl (a0.Parts.map Part.enc)), .d (.sl (a0.Ports.map Port.enc))])], []⟩) h (Weak.refl _) (fun _ nx2 hn2 v2 h => ?_)
  conv => whnf
  refine lenS a0.Parts Part.enc rfl ?_
  conv => whnf
  refine fkS h (fun h => ?_) (fun h => ?_)
  · conv => whnf
    refine ⟨19, ?_⟩
    conv => whnf
    refine ixS (enc := Part.enc) h rfl (fun _ => rfl) (fun x3 h => ?_)
    conv => whnf
    refine ixS (enc := Part.enc) h rfl (fun _ => rfl) (fun x4 h => ?_)
    conv => whnf
    refine daS (E := E_Int_Int_Int) h (ref10_Cycle_w x3.Tasks x4.Face) (fun _ => rfl) (fun x5 h => ?_)
    conv => whnf
    refine drS (by kernel_rfl) ?_
    conv => whnf
    refine fkS h (fun h => ?_) (fun h => ?_)
    · conv => whnf
      exact rt (E := E_Bool) h rfl
    conv => whnf
    exact leS hn2 h (Weak.refl _)
  conv => whnf
  exact rt (E := E_Bool) h rfl

end Go.Proofs.YtldlcdnhdedoeaaGreat
namespace Go.Proofs.YtldlcdnhdedoeaaGreat
open Go Go.VC
/-! Systems, and how they begin. -/
def portIn (n : Int) (p : Port) : Prop := p.From < n ∧ p.To < n
structure confP (c : Config) : Prop where
  ps : ∀ p ∈ c.Parts, faceP p.Face ∧ AllP p.Tasks
  pl : c.Parts.length ≤ 4
  qs : ∀ p ∈ c.Ports, portP p
  qi : ∀ p ∈ c.Ports, portIn (c.Parts.length : Int) p
  ql : c.Ports.length ≤ 4
noncomputable instance (c : Config) : Decidable (confP c) := Classical.propDecidable _
structure confB (c : Config) : Prop where
  p : c.Parts.length ≤ 4611686018427387904
  q : c.Ports.length ≤ 1000
  t : ∀ p ∈ c.Parts, p.Tasks.length ≤ 4611686018427387904 ∧ ∀ t ∈ p.Tasks, t.Secs.length ≤ 4611686018427387904
theorem mem_take_succ {α : Type} {l : List α} {k : Nat} (h : k < l.length) {x : α} (hx : x ∈ l.take (k + 1)) : x ∈ l.take k ∨ x = l[k] := by
  rw [← List.take_append_getElem h] at hx
  rcases List.mem_append.1 hx with h | h
  · exact .inl h
  · exact .inr (List.mem_singleton.1 h)
theorem image_Right_eq (c : Config) (hb : confB c) : image_Right c = some (decide (confP c)) := by
  unfold image_Right
  refine lp_up c.Parts.length (by unfold FU; have := hb.p; omega) (fun k => ∀ p ∈ c.Parts.take k, faceP p.Face ∧ AllP p.Tasks) (fun p h => by simp at h) ?_
  intro nx k hk J hnx
  rw [lt_nat]
  by_cases hk' : k < c.Parts.length
  · have hm := List.getElem_mem hk'
    rw [decide_eq_true hk', fk_t, ix_lt hk', wr_succ k _ hk' hb.p]
    by_cases hh : faceP c.Parts[k].Face ∧ AllP c.Parts[k].Tasks
    · refine jn_to false (fun k3 => ?_) ?_
      · rw [bnd_eq (supply_Right_eq _), decide_eq_true hh.1, Bool.not_true, fk_f, bnd_eq (task_All_eq _ (hb.t _ hm).1), decide_eq_true hh.2]; rfl
      · rw [fk_f]
        refine hnx hk' fun p hp => ?_
        rcases mem_take_succ hk' hp with h | rfl
        · exact J p h
        · exact hh
    · refine jn_to true (fun k3 => ?_) ?_
      · rw [bnd_eq (supply_Right_eq _)]
        by_cases h1 : faceP c.Parts[k].Face
        · rw [decide_eq_true h1, Bool.not_true, fk_f, bnd_eq (task_All_eq _ (hb.t _ hm).1), decide_eq_false (fun h2 => hh ⟨h1, h2⟩)]; rfl
        · rw [decide_eq_false h1, Bool.not_false, fk_t]
      · rw [fk_t, decide_eq_false (fun h : confP c => hh (h.ps _ hm))]
  rw [List.take_of_length_le (by omega)] at J
  rw [decide_eq_false hk', fk_f]
  clear hnx nx hk hk' k
  refine lp_up c.Ports.length (by unfold FU; have := hb.q; omega) (fun k => ∀ p ∈ c.Ports.take k, portIn (c.Parts.length : Int) p) (fun p h => by simp at h) ?_
  intro nx k hk J2 hnx
  rw [lt_nat]
  by_cases hk' : k < c.Ports.length
  · have hm := List.getElem_mem hk'
    rw [decide_eq_true hk', fk_t, ix_lt hk', wr_succ k _ hk' (by have := hb.q; omega)]
    by_cases hh : portIn (c.Parts.length : Int) c.Ports[k]
    · refine jn_to false (fun k3 => ?_) ?_
      · unfold portIn at hh
        rw [decide_eq_false (by omega), fk_f, decide_eq_false (by omega)]
      · rw [fk_f]
        refine hnx hk' fun p hp => ?_
        rcases mem_take_succ hk' hp with h | rfl
        · exact J2 p h
        · exact hh
    · refine jn_to true (fun k3 => ?_) ?_
      · unfold portIn at hh
        by_cases h1 : c.Ports[k].From ≥ (c.Parts.length : Int)
        · rw [decide_eq_true h1, fk_t]
        · rw [decide_eq_false h1, fk_f, decide_eq_true (show c.Ports[k].To ≥ (c.Parts.length : Int) from Int.not_lt.1 fun h2 => hh ⟨by omega, h2⟩)]
      · rw [fk_t, decide_eq_false (fun h : confP c => hh (h.qi _ hm))]
  rw [List.take_of_length_le (by omega)] at J2
  rw [decide_eq_false hk', fk_f, bnd_eq (port_Open_eq _ hb.q)]
  by_cases ho : (∀ p ∈ c.Ports, portP p) ∧ c.Ports.length ≤ 4
  · rw [if_pos ho, decide_eq_true rfl, fk_t]
    exact dec_iff ⟨fun h => ⟨J, by omega, ho.1, J2, ho.2⟩, fun h => by have := h.pl; omega⟩
  · rw [if_neg ho]
    show fk (decide ((1 : Int) = 0)) _ _ = _
    rw [decide_eq_false (by decide), fk_f]
    exact dec_f fun h => ho ⟨h.qs, h.ql⟩
theorem ref18_May_eq (p : Port) : ref18_May p = some (decide (portP p)) := by
  unfold ref18_May portP
  by_cases h1 : p.From ≥ 0
  rotate_left
  · rw [decide_eq_false h1, fk_f]; exact dec_f fun a => h1 a.1
  rw [decide_eq_true h1, fk_t]
  by_cases h2 : p.From < 4
  rotate_left
  · rw [decide_eq_false h2, fk_f]; exact dec_f fun a => h2 a.2.1
  rw [decide_eq_true h2, fk_t]
  by_cases h3 : p.To ≥ 0
  rotate_left
  · rw [decide_eq_false h3, fk_f]; exact dec_f fun a => h3 a.2.2.1
  rw [decide_eq_true h3, fk_t]
  by_cases h4 : p.To < 4
  rotate_left
  · rw [decide_eq_false h4, fk_f]; exact dec_f fun a => h4 a.2.2.2.1
  rw [decide_eq_true h4, fk_t]
  by_cases h5 : p.To = p.From
  · rw [decide_eq_true h5, Bool.not_true, fk_f]; exact dec_f fun a => a.2.2.2.2.1 h5.symm
  rw [decide_eq_false h5, Bool.not_false, fk_t]
  by_cases h6 : p.Cap > 0
  rotate_left
  · rw [decide_eq_false h6, fk_f]; exact dec_f fun a => h6 (by have := a.2.2.2.2.2.1; omega)
  rw [decide_eq_true h6, fk_t]
  exact dec_iff ⟨fun a => ⟨h1, h2, h3, h4, fun e => h5 e.symm, by omega, by omega⟩, fun a => by omega⟩
theorem ref18_All_eq (l : List Port) (hl : l.length ≤ 1000) : ref18_All l = some (decide ((∀ p ∈ l, portP p) ∧ l.length ≤ 4)) := by
  unfold ref18_All
  refine lp_up l.length (by unfold FU; omega) (fun k => ∀ p ∈ l.take k, portP p) (fun p h => by simp at h) ?_
  intro nx k hk J hnx
  rw [lt_nat]
  by_cases hk' : k < l.length
  · rw [decide_eq_true hk', fk_t, ix_lt hk', bnd_eq (ref18_May_eq _), wr_succ k _ hk' (by omega)]
    by_cases hh : portP l[k]
    · rw [decide_eq_true hh, Bool.not_true, fk_f]
      refine hnx hk' fun p hp => ?_
      rcases mem_take_succ hk' hp with h | rfl
      · exact J p h
      · exact hh
    · rw [decide_eq_false hh, Bool.not_false, fk_t]
      exact dec_f fun h => hh (h.1 _ (List.getElem_mem hk'))
  · rw [List.take_of_length_le (by omega)] at J
    rw [decide_eq_false hk', fk_f]
    exact dec_iff ⟨fun h => ⟨J, by omega⟩, fun h => by have := h.2; omega⟩
theorem ref19_Right_eq (c : Config) (hb : confB c) : ref19_Right c = some (decide (confP c)) := by
  unfold ref19_Right
  by_cases h0 : c.Parts.length ≤ 4 ∧ (∀ p ∈ c.Ports, portP p) ∧ c.Ports.length ≤ 4
  rotate_left
  · refine jn_to true (fun k => ?_) (by rw [fk_t]; exact dec_f fun h => h0 ⟨h.pl, h.qs, h.ql⟩)
    by_cases h1 : c.Parts.length ≤ 4
    · rw [decide_eq_false (by omega), fk_f, bnd_eq (ref18_All_eq _ hb.q), decide_eq_false (fun h => h0 ⟨h1, h⟩)]; rfl
    · rw [decide_eq_true (by omega), fk_t]
  obtain ⟨h1, h2, h3⟩ := h0
  refine jn_to false (fun k => by rw [decide_eq_false (by omega), fk_f, bnd_eq (ref18_All_eq _ hb.q), decide_eq_true ⟨h2, h3⟩]; rfl) ?_
  rw [fk_f]
  refine lp_up c.Parts.length (by unfold FU; omega) (fun k => ∀ p ∈ c.Parts.take k, faceP p.Face ∧ AllP p.Tasks) (fun p h => by simp at h) ?_
  intro nx k hk J hnx
  rw [lt_nat]
  by_cases hk' : k < c.Parts.length
  · have hm := List.getElem_mem hk'
    rw [decide_eq_true hk', fk_t, wr_succ k _ hk' (by omega)]
    by_cases hh : faceP c.Parts[k].Face ∧ AllP c.Parts[k].Tasks
    · refine jn_to false (fun k3 => ?_) ?_
      · rw [ix_lt hk', bnd_eq (ref09_Right_eq _), decide_eq_true hh.1, Bool.not_true, fk_f, ix_lt hk', bnd_eq (ref05_All_eq _ (hb.t _ hm).1 (hb.t _ hm).2), decide_eq_true hh.2]; rfl
      · rw [fk_f]
        refine hnx hk' fun p hp => ?_
        rcases mem_take_succ hk' hp with h | rfl
        · exact J p h
        · exact hh
    · refine jn_to true (fun k3 => ?_) ?_
      · rw [ix_lt hk', bnd_eq (ref09_Right_eq _)]
        by_cases g1 : faceP c.Parts[k].Face
        · rw [decide_eq_true g1, Bool.not_true, fk_f, ix_lt hk', bnd_eq (ref05_All_eq _ (hb.t _ hm).1 (hb.t _ hm).2), decide_eq_false (fun g2 => hh ⟨g1, g2⟩)]; rfl
        · rw [decide_eq_false g1, Bool.not_false, fk_t]
      · rw [fk_t, decide_eq_false (fun h : confP c => hh (h.ps _ hm))]
  rw [List.take_of_length_le (by omega)] at J
  rw [decide_eq_false hk', fk_f]
  clear hnx nx hk hk' k
  refine lp_up c.Ports.length (by unfold FU; omega) (fun k => ∀ p ∈ c.Ports.take k, portIn (c.Parts.length : Int) p) (fun p h => by simp at h) ?_
  intro nx k hk J2 hnx
  rw [lt_nat]
  by_cases hk' : k < c.Ports.length
  · have hm := List.getElem_mem hk'
    rw [decide_eq_true hk', fk_t, wr_succ k _ hk' (by omega)]
    by_cases hh : portIn (c.Parts.length : Int) c.Ports[k]
    · refine jn_to false (fun k3 => ?_) ?_
      · unfold portIn at hh
        rw [ix_lt hk', decide_eq_false (by omega), fk_f, ix_lt hk', decide_eq_false (by omega)]
      · rw [fk_f]
        refine hnx hk' fun p hp => ?_
        rcases mem_take_succ hk' hp with h | rfl
        · exact J2 p h
        · exact hh
    · refine jn_to true (fun k3 => ?_) ?_
      · unfold portIn at hh
        rw [ix_lt hk']
        by_cases g1 : c.Ports[k].From ≥ (c.Parts.length : Int)
        · rw [decide_eq_true g1, fk_t]
        · rw [decide_eq_false g1, fk_f, ix_lt hk', decide_eq_true (show c.Ports[k].To ≥ (c.Parts.length : Int) from Int.not_lt.1 fun g2 => hh ⟨by omega, g2⟩)]
      · rw [fk_t, decide_eq_false (fun h : confP c => hh (h.qi _ hm))]
  · rw [List.take_of_length_le (by omega)] at J2
    rw [decide_eq_false hk', fk_f]
    exact dec_t ⟨J, h1, h2, J2, h3⟩
def zeroK : KernelState := ⟨⟨0, []⟩, [], [], [], 0⟩
structure booted (c : Config) (s : KernelState) (ticks : List Int) : Prop where
  conf : confP c
  faces : s.Faces = c.Parts.map (·.Face)
  parts : s.Parts = c.Parts.map fun p => new0 p.Tasks
  lines : s.Lines = c.Ports.map newL
  now : s.Now = 0
  tab : tabP s.Table
  len : s.Table.Frame = (ticks.length : Int)
  at' : ∀ (x : Nat) (y : Int), ticks[x]? = some y → whoV s.Table.Windows (x : Int) = y
theorem table_Make_ex (l : List Face) : ∃ r : List Int × Int, ref12_Lay l = some r ∧ ((r.2 = 0 ∧ ∃ t, table_Make l = some (t, 0) ∧ tabP t ∧ t.Frame = (r.1.length : Int) ∧ ∀ (x : Nat) (y : Int), r.1[x]? = some y → whoV t.Windows (x : Int) = y) ∨ (r.2 ≠ 0 ∧ r.1 = [] ∧ table_Make l = some (⟨0, []⟩, r.2))) := by
  obtain ⟨r, e1, e2, h1, h2⟩ := lay_same l
  refine ⟨r, e2, ?_⟩
  by_cases c : r.2 = 0
  · obtain ⟨a, b, d, _⟩ := h1 c
    obtain ⟨t, f1, f2, f3, f4⟩ := table_Of_ex r.1 a b d
    refine .inl ⟨c, t, ?_, f2, f3, f4⟩
    unfold table_Make
    rw [bnd_eq e1, decide_eq_true c, Bool.not_true, fk_f, bnd_eq f1]
  · refine .inr ⟨c, (h2 c).1, ?_⟩
    unfold table_Make
    rw [bnd_eq e1, decide_eq_false c, Bool.not_false, fk_t]
theorem boot_ex (c : Config) (hb : confB c) : (∃ e, e ≠ 0 ∧ kernel_Boot c = some (zeroK, e) ∧ ref21_Boot c = some ([], e)) ∨ ∃ s ticks, kernel_Boot c = some (s, 0) ∧ ref21_Boot c = some (ticks, 0) ∧ booted c s ticks := by
  by_cases hc : confP c
  rotate_left
  · refine .inl ⟨1, by decide, ?_, ?_⟩
    · unfold kernel_Boot
      rw [bnd_eq (image_Right_eq c hb), decide_eq_false hc, Bool.not_false, fk_t]; rfl
    · unfold ref21_Boot
      rw [bnd_eq (ref19_Right_eq c hb), decide_eq_false hc, Bool.not_false, fk_t]
  have h4 := hc.pl
  obtain ⟨r, eL, hM⟩ := table_Make_ex (c.Parts.map (·.Face))
  rcases hM with ⟨h0, t, eT, hT, hF, hA⟩ | ⟨h0, hn, eT⟩
  rotate_left
  · refine .inl ⟨r.2, h0, ?_, ?_⟩
    · unfold kernel_Boot
      rw [bnd_eq (image_Right_eq c hb), decide_eq_true hc, Bool.not_true, fk_f]
      refine lp_upS c.Parts.length (by unfold FU; omega) (fun k s => s = (c.Parts.take k).map (·.Face)) [] rfl ?_
      rintro nx k s hk rfl hnx
      dsimp only
      rw [lt_nat]
      by_cases hk' : k < c.Parts.length
      · rw [decide_eq_true hk', fk_t, ix_lt hk', ck_t (by simp; omega), wr_succ k _ hk' (by omega)]
        refine hnx _ hk' ?_
        rw [← List.take_append_getElem hk', List.map_append]; rfl
      · rw [decide_eq_false hk', fk_f, List.take_of_length_le (by omega)]
        rw [bnd_eq eT, decide_eq_false h0, Bool.not_false, fk_t]; rfl
    · unfold ref21_Boot
      rw [bnd_eq (ref19_Right_eq c hb), decide_eq_true hc, Bool.not_true, fk_f]
      refine lp_upS c.Parts.length (by unfold FU; omega) (fun k s => s = (c.Parts.take k).map (·.Face)) [] rfl ?_
      rintro nx k s hk rfl hnx
      dsimp only
      rw [lt_nat]
      by_cases hk' : k < c.Parts.length
      · rw [decide_eq_true hk', fk_t, ix_lt hk', ck_t (by simp; omega), wr_succ k _ hk' (by omega)]
        refine hnx _ hk' ?_
        rw [← List.take_append_getElem hk', List.map_append]; rfl
      · rw [decide_eq_false hk', fk_f, List.take_of_length_le (by omega)]
        rw [bnd_eq eL, decide_eq_false h0, Bool.not_false, fk_t]
  have hop : (∀ p ∈ c.Ports, portP p) ∧ c.Ports.length ≤ 4 := ⟨hc.qs, hc.ql⟩
  -- all boot, or the first that doesn't
  have dich : (∀ p ∈ c.Parts, bootE p = 0) ∨ ∃ (k : Nat) (h : k < c.Parts.length), bootE c.Parts[k] ≠ 0 ∧ ∀ p ∈ c.Parts.take k, bootE p = 0 := by
    have : ∀ n, n ≤ c.Parts.length → (∀ p ∈ c.Parts.take n, bootE p = 0) ∨ ∃ (k : Nat) (h : k < c.Parts.length), bootE c.Parts[k] ≠ 0 ∧ ∀ p ∈ c.Parts.take k, bootE p = 0 := by
      intro n
      induction n with
      | zero => intro _; exact .inl fun p h => by simp at h
      | succ n ih =>
        intro hn
        rcases ih (by omega) with h | h
        · by_cases e : bootE (c.Parts[n]'(by omega)) = 0
          · refine .inl fun p hp => ?_
            rcases mem_take_succ (by omega) hp with h' | rfl
            · exact h p h'
            · exact e
          · exact .inr ⟨n, by omega, e, h⟩
        · exact .inr h
    rcases this c.Parts.length (Nat.le_refl _) with h | h
    · rw [List.take_length] at h; exact .inl h
    · exact .inr h
  have kb : ∀ r', lp (fun nx5 (v5 : (List PartState) × Int) => fk (decide (v5.2 < (c.Parts.length : Int))) (ix c.Parts v5.2 fun x6 => bnd (admit_Boot x6) fun x7 => fk (!decide (x7.2 = (0 : Int))) (some (zeroK, x7.2)) (ck (decide ((v5.1.length + ([x7.1] : List PartState).length) * 120 ≤ 140737488355328)) (nx5 (v5.1 ++ ([x7.1] : List PartState), (wr (v5.2 + (1 : Int))))))) (bnd (port_Open c.Ports) fun x8 => some (⟨t, c.Parts.map (·.Face), v5.1, x8.1, (0 : Int)⟩, (0 : Int)))) FU ([], (0 : Int)) = some r' → kernel_Boot c = some r' := by
    intro r' hr
    unfold kernel_Boot
    rw [bnd_eq (image_Right_eq c hb), decide_eq_true hc, Bool.not_true, fk_f]
    refine lp_upS c.Parts.length (by unfold FU; omega) (fun k s => s = (c.Parts.take k).map (·.Face)) [] rfl ?_
    rintro nx k s hk rfl hnx
    dsimp only
    rw [lt_nat]
    by_cases hk' : k < c.Parts.length
    · rw [decide_eq_true hk', fk_t, ix_lt hk', ck_t (by simp; omega), wr_succ k _ hk' (by omega)]
      refine hnx _ hk' ?_
      rw [← List.take_append_getElem hk', List.map_append]; rfl
    · rw [decide_eq_false hk', fk_f, List.take_of_length_le (by omega)]
      rw [bnd_eq eT, decide_eq_true rfl, Bool.not_true, fk_f]
      exact hr
  have rb : ∀ r', lp (fun nx5 (v5 : Int) => fk (decide (v5 < (c.Parts.length : Int))) (ix c.Parts v5 fun x6 => bnd (ref20_Boot x6) fun x7 => fk (!decide (x7 = (0 : Int))) (some (([] : List Int), x7)) (nx5 (wr (v5 + (1 : Int))))) (some (r.1, (0 : Int)))) FU (0 : Int) = some r' → ref21_Boot c = some r' := by
    intro r' hr
    unfold ref21_Boot
    rw [bnd_eq (ref19_Right_eq c hb), decide_eq_true hc, Bool.not_true, fk_f]
    refine lp_upS c.Parts.length (by unfold FU; omega) (fun k s => s = (c.Parts.take k).map (·.Face)) [] rfl ?_
    rintro nx k s hk rfl hnx
    dsimp only
    rw [lt_nat]
    by_cases hk' : k < c.Parts.length
    · rw [decide_eq_true hk', fk_t, ix_lt hk', ck_t (by simp; omega), wr_succ k _ hk' (by omega)]
      refine hnx _ hk' ?_
      rw [← List.take_append_getElem hk', List.map_append]; rfl
    · rw [decide_eq_false hk', fk_f, List.take_of_length_le (by omega)]
      rw [bnd_eq eL, decide_eq_true h0, Bool.not_true, fk_f]
      exact hr
  rcases dich with hall | ⟨q, hq, hqe, hqa⟩
  · refine .inr ⟨⟨t, c.Parts.map (·.Face), c.Parts.map fun p => new0 p.Tasks, c.Ports.map newL, 0⟩, r.1, kb _ ?_, rb _ ?_, ⟨hc, rfl, rfl, rfl, rfl, hT, hF, hA⟩⟩
    · skip
      refine lp_upS c.Parts.length (by unfold FU; omega) (fun k s => s = (c.Parts.take k).map fun p => new0 p.Tasks) [] rfl ?_
      rintro nx k s hk rfl hnx
      dsimp only
      rw [lt_nat]
      by_cases hk' : k < c.Parts.length
      · have hm := List.getElem_mem hk'
        rw [decide_eq_true hk', fk_t, ix_lt hk', bnd_eq (admit_Boot_eq _ (hb.t _ hm).1 (hb.t _ hm).2), if_pos (hall _ hm)]
        dsimp only
        rw [decide_eq_true rfl, Bool.not_true, fk_f, ck_t (by simp; omega), wr_succ k _ hk' (by omega)]
        refine hnx _ hk' ?_
        rw [← List.take_append_getElem hk', List.map_append]; rfl
      · rw [decide_eq_false hk', fk_f, List.take_of_length_le (by omega), bnd_eq (port_Open_eq _ hb.q), if_pos hop]
    · refine lp_up c.Parts.length (by unfold FU; omega) (fun _ => True) trivial ?_
      intro nx k hk _ hnx
      rw [lt_nat]
      by_cases hk' : k < c.Parts.length
      · have hm := List.getElem_mem hk'
        rw [decide_eq_true hk', fk_t, ix_lt hk', bnd_eq (ref20_Boot_eq _ (hb.t _ hm).1 (hb.t _ hm).2), decide_eq_true (hall _ hm), Bool.not_true, fk_f, wr_succ k _ hk' (by omega)]
        exact hnx hk' trivial
      · rw [decide_eq_false hk', fk_f]
  · refine .inl ⟨bootE c.Parts[q], hqe, kb _ ?_, rb _ ?_⟩
    · skip
      refine lp_upS c.Parts.length (by unfold FU; omega) (fun k s => s = ((c.Parts.take k).map fun p => new0 p.Tasks) ∧ k ≤ q) [] ⟨rfl, Nat.zero_le _⟩ ?_
      rintro nx k s hk ⟨rfl, hkq⟩ hnx
      dsimp only
      rw [lt_nat]
      have hk' : k < c.Parts.length := by omega
      have hm := List.getElem_mem hk'
      rw [decide_eq_true hk', fk_t, ix_lt hk', bnd_eq (admit_Boot_eq _ (hb.t _ hm).1 (hb.t _ hm).2)]
      by_cases ek : k = q
      · subst ek
        rw [if_neg hqe]
        dsimp only
        rw [decide_eq_false hqe, Bool.not_false, fk_t]
      · have h0 : bootE c.Parts[k] = 0 := hqa _ (by
          have hlt : k < (c.Parts.take q).length := by rw [List.length_take]; omega
          have := List.getElem_mem hlt
          rwa [List.getElem_take] at this)
        rw [if_pos h0]
        dsimp only
        rw [decide_eq_true rfl, Bool.not_true, fk_f, ck_t (by simp; omega), wr_succ k _ hk' (by omega)]
        refine hnx _ hk' ⟨?_, by omega⟩
        rw [← List.take_append_getElem hk', List.map_append]; rfl
    · refine lp_up c.Parts.length (by unfold FU; omega) (fun k => k ≤ q) (Nat.zero_le _) ?_
      intro nx k hk hkq hnx
      have hk' : k < c.Parts.length := by omega
      have hm := List.getElem_mem hk'
      rw [lt_nat, decide_eq_true hk', fk_t, ix_lt hk', bnd_eq (ref20_Boot_eq _ (hb.t _ hm).1 (hb.t _ hm).2)]
      by_cases ek : k = q
      · subst ek
        rw [decide_eq_false hqe, Bool.not_false, fk_t]
      · have h0 : bootE c.Parts[k] = 0 := hqa _ (by
          have hlt : k < (c.Parts.take q).length := by rw [List.length_take]; omega
          have := List.getElem_mem hlt
          rwa [List.getElem_take] at this)
        rw [decide_eq_true h0, Bool.not_true, fk_f, wr_succ k _ hk' (by omega)]
        exact hnx hk' (by omega)
theorem great_ex (c : Config) (hp : c.Parts.length ≤ 4611686018427387904) (ht : ∀ p ∈ c.Parts, p.Tasks.length ≤ 4611686018427387904 ∧ ∀ t ∈ p.Tasks, t.Secs.length ≤ 4611686018427387904) : ∃ b, law21_Great c = some b ∧ (b = false → c.Parts.length ≤ 20 ∧ c.Ports.length ≤ 20) := by
  have h19 : ∃ b, law19_Great c = some b ∧ (b = false → c.Parts.length ≤ 20 ∧ c.Ports.length ≤ 20) := by
    unfold law19_Great
    refine lp_up_ex c.Parts.length (by unfold FU; omega) (fun _ => True) (fun b => b = false → c.Parts.length ≤ 20 ∧ c.Ports.length ≤ 20) trivial ?_
    intro nx k hk _ hnx
    rw [lt_nat]
    by_cases hk' : k < c.Parts.length
    · rw [decide_eq_true hk', fk_t, ix_lt hk', bnd_eq (law05_Great_eq _ (ht _ (List.getElem_mem hk')).1), wr_succ k _ hk' hp]
      by_cases hg : GreatP c.Parts[k].Tasks
      · rw [decide_eq_true hg, fk_t]; exact ⟨true, rfl, fun h => by cases h⟩
      · rw [decide_eq_false hg, fk_f]; exact hnx hk' trivial
    · rw [decide_eq_false hk', fk_f]
      by_cases h1 : (c.Parts.length : Int) > 20
      · rw [decide_eq_true h1, fk_t]; exact ⟨true, rfl, fun h => by cases h⟩
      · rw [decide_eq_false h1, fk_f]
        exact ⟨_, rfl, fun h => by rw [decide_eq_false_iff_not] at h; omega⟩
  obtain ⟨b, e, hb⟩ := h19
  unfold law21_Great
  rw [bnd_eq e]
  cases b with
  | true => rw [fk_t]; exact ⟨true, rfl, fun h => by cases h⟩
  | false =>
  rw [fk_f]
  refine lp_up_ex c.Parts.length (by unfold FU; omega) (fun _ => True) (fun b => b = false → c.Parts.length ≤ 20 ∧ c.Ports.length ≤ 20) trivial ?_
  intro nx k hk _ hnx
  rw [lt_nat]
  by_cases hk' : k < c.Parts.length
  · have hm := ht _ (List.getElem_mem hk')
    rw [decide_eq_true hk', fk_t, ix_lt hk', ix_lt hk', bnd_eq (ref10_Cycle_eq _ _ hm.1 hm.2), wr_succ k _ hk' hp]
    by_cases hg : (cycV c.Parts[k].Tasks c.Parts[k].Face).2.1 > 200
    · rw [decide_eq_true hg, fk_t]; exact ⟨true, rfl, fun h => by cases h⟩
    · rw [decide_eq_false hg, fk_f]; exact hnx hk' trivial
  · rw [decide_eq_false hk', fk_f]; exact ⟨false, rfl, fun _ => hb rfl⟩
end Go.Proofs.YtldlcdnhdedoeaaGreat
namespace Go.Proofs.YtldlcdnhdedoeaaGreat
open Go Go.VC
noncomputable def admit_Drop (a0 : PartState) (a1 : Int) : Option (PartState × Int) :=
  bnd (part_Leave a0 a1) fun x1 => some (x1.1, x1.2)
theorem admit_Drop_w (a0 : PartState) (a1 : Int) (r : PartState × Int) (h : admit_Drop a0 a1 = some r) : Go.VC.Spec Tryz.prog 32 [.agg (PartState.enc a0), .d (.int .i64 a1)] (fun y => y = E_PartState_Int r) := by
  refine Go.VC.Spec.of_xc (args := [.agg (PartState.enc a0), .d (.int .i64 a1)]) (fn := Tryz.f32) tab ⟨[(0, [1, 2, 4]), (1, [4, 5])], [], [], []⟩ 11 [.cell 4 51, .tmp 5] rfl rfl rfl rfl rfl rfl ?_
  conv => whnf
  refine ccS (E := E_PartState_Int) h (part_Leave_w a0 a1) rfl rfl (fun x1 h => ?_)
  conv => whnf
  exact rt (E := E_PartState_Int) h rfl

end Go.Proofs.YtldlcdnhdedoeaaGreat
namespace Go.Proofs.YtldlcdnhdedoeaaGreat
open Go Go.VC
noncomputable def admit_Change (a0 : PartState) (a1 : Face) (a2 : Int) (a3 : Task) : Option (PartState × Int) :=
  bnd (admit_Drop a0 a2) fun x1 => fk (!decide (x1.2 = (0 : Int))) (some (a0, x1.2)) (bnd (admit_Add x1.1 a1 a3) fun x2 => fk (!decide (x2.2 = (0 : Int))) (some (a0, x2.2)) (some (x2.1, (0 : Int))))
theorem admit_Change_w (a0 : PartState) (a1 : Face) (a2 : Int) (a3 : Task) (r : PartState × Int) (h : admit_Change a0 a1 a2 a3 = some r) : Go.VC.Spec Tryz.prog 33 [.agg (PartState.enc a0), .agg (Face.enc a1), .d (.int .i64 a2), .agg (Task.enc a3)] (fun y => y = E_PartState_Int r) := by
  refine Go.VC.Spec.of_xc (args := [.agg (PartState.enc a0), .agg (Face.enc a1), .d (.int .i64 a2), .agg (Task.enc a3)]) (fn := Tryz.f33) tab ⟨[(0, [2, 4, 5, 7, 8]), (1, [4, 5, 7, 8, 10, 11]), (2, [4, 5, 7, 8, 10, 11, 19]), (3, [8, 9]), (4, [4, 8, 10, 11]), (5, [4, 8, 10, 11, 30]), (6, [8, 9]), (7, [8, 9])], [], [], []⟩ 34 [.cell 8 51, .tmp 9] rfl rfl rfl rfl rfl rfl ?_
  conv => whnf
  refine ccS (E := E_PartState_Int) h (admit_Drop_w a0 a2) rfl rfl (fun x1 h => ?_)
  conv => whnf
  refine fkS h (fun h => ?_) (fun h => ?_)
  · conv => whnf
    exact rt (E := E_PartState_Int) h rfl
  conv => whnf
  refine ccS (E := E_PartState_Int) h (admit_Add_w x1.1 a1 a3) rfl rfl (fun x2 h => ?_)
  conv => whnf
  refine fkS h (fun h => ?_) (fun h => ?_)
  · conv => whnf
    exact rt (E := E_PartState_Int) h rfl
  conv => whnf
  exact rt (E := E_PartState_Int) h rfl

end Go.Proofs.YtldlcdnhdedoeaaGreat
namespace Go.Proofs.YtldlcdnhdedoeaaGreat
open Go Go.VC
noncomputable def kernel_Right (a0 : KernelState) : Option Bool :=
  lp (fun nx1 (v1 : Int) => fk (decide (v1 < (a0.Parts.length : Int))) (ix a0.Parts v1 fun x2 => bnd (part_Right x2) fun x3 => fk (!x3) (some false) (nx1 (wr (v1 + (1 : Int))))) (bnd (table_Right a0.Table) fun x4 => fk x4 (fk (decide ((a0.Faces.length : Int) = (a0.Parts.length : Int))) (fk (decide ((a0.Parts.length : Int) ≤ (4 : Int))) (bnd (port_Right a0.Lines) fun x5 => fk x5 (fk (decide (a0.Now ≥ (0 : Int))) (some (decide (a0.Now ≤ (4611686018427387703 : Int)))) (some false)) (some false)) (some false)) (some false)) (some false))) FU (0 : Int)
theorem kernel_Right_w (a0 : KernelState) (r : Bool) (h : kernel_Right a0 = some r) : Go.VC.Spec Tryz.prog 17 [.agg (KernelState.enc a0)] (fun y => y = E_Bool r) := by
  refine Go.VC.Spec.of_xc (args := [.agg (KernelState.enc a0)]) (fn := Tryz.f17) tab ⟨[(0, [1]), (1, [1, 6, 7, 8]), (2, [1, 6, 7, 8, 9]), (3, [1, 4, 6, 7, 8]), (4, [1, 6, 7, 8, 14]), (5, [2]), (6, [1, 6, 7, 8]), (7, [2])], [], [], []⟩ 49 [.tmp 2] rfl rfl rfl rfl rfl rfl ?_
  conv => whnf
  refine lenS a0.Parts PartState.enc rfl ?_
  conv => whnf
  refine lpS (fun v1 => ⟨[(1, .l (.ptr 2 0)), (6, .l (.d (.sl (a0.Parts.map PartState.enc)))), (7, .l (.d (.int .i64 (a0.Parts.length : Int)))), (8, .l (.d (.int .i64 v1)))], 49, [], [(2, [.d (.int .i64 a0.Table.Frame), .d (.sl (a0.Table.Windows.map Window.enc)), .d (.sl (a0.Faces.map Face.enc)), .d (.sl (a0.Parts.map PartState.enc)), .d (.sl (a0.Lines.map PortLine.enc)), .d (.int .i64 a0.Now)])], []⟩) h (Weak.refl _) (fun _ nx1 hn1 v1 h => ?_)
  conv => whnf
  refine fkS h (fun h => ?_) (fun h => ?_)
  · conv => whnf
    refine ixS (enc := PartState.enc) h rfl (fun _ => rfl) (fun x2 h => ?_)
    conv => whnf
    refine caS (E := E_Bool) h (part_Right_w x2) rfl (fun _ => rfl) (fun x3 h => ?_)
    conv => whnf
    refine fkS h (fun h => ?_) (fun h => ?_)
    · conv => whnf
      exact rt (E := E_Bool) h rfl
    conv => whnf
    exact leS hn1 h (Weak.refl _)
  conv => whnf
  refine caS (E := E_Bool) h (table_Right_w a0.Table) rfl (fun _ => rfl) (fun x4 h => ?_)
  conv => whnf
  refine fkS h (fun h => ?_) (fun h => ?_)
  · conv => whnf
    refine lenS a0.Faces Face.enc rfl ?_
    conv => whnf
    refine lenS a0.Parts PartState.enc rfl ?_
    conv => whnf
    refine fkS h (fun h => ?_) (fun h => ?_)
    · conv => whnf
      refine lenS a0.Parts PartState.enc rfl ?_
      conv => whnf
      refine fkS h (fun h => ?_) (fun h => ?_)
      · conv => whnf
        refine caS (E := E_Bool) h (port_Right_w a0.Lines) rfl (fun _ => rfl) (fun x5 h => ?_)
        conv => whnf
        refine fkS h (fun h => ?_) (fun h => ?_)
        · conv => whnf
          refine fkS h (fun h => ?_) (fun h => ?_)
          · conv => whnf
            exact rt (E := E_Bool) h rfl
          conv => whnf
          exact rt (E := E_Bool) h rfl
        conv => whnf
        exact rt (E := E_Bool) h rfl
      conv => whnf
      exact rt (E := E_Bool) h rfl
    conv => whnf
    exact rt (E := E_Bool) h rfl
  conv => whnf
  exact rt (E := E_Bool) h rfl

end Go.Proofs.YtldlcdnhdedoeaaGreat
namespace Go.Proofs.YtldlcdnhdedoeaaGreat
open Go Go.VC
noncomputable def kernel_State_with (a0 : KernelState) (a1 : Int) (a2 : PartState) : Option KernelState :=
  ck (decide ((([] : List PartState).length + a0.Parts.length) * 120 ≤ 140737488355328)) (ck (decide (0 ≤ a1) && decide (a1 < ((([] : List PartState) ++ a0.Parts).length : Int))) (ox (([] : List PartState) ++ a0.Parts) a1.toNat fun x1 => some ⟨a0.Table, a0.Faces, (([] : List PartState) ++ a0.Parts).set a1.toNat a2, a0.Lines, a0.Now⟩))
theorem kernel_State_with_w (a0 : KernelState) (a1 : Int) (a2 : PartState) (r : KernelState) (h : kernel_State_with a0 a1 a2 = some r) : Go.VC.Spec Tryz.prog 90 [.agg (KernelState.enc a0), .d (.int .i64 a1), .agg (PartState.enc a2)] (fun y => y = E_KernelState r) := by
  refine Go.VC.Spec.of_xc (args := [.agg (KernelState.enc a0), .d (.int .i64 a1), .agg (PartState.enc a2)]) (fn := Tryz.f90) tab ⟨[(0, [1, 3, 5, 6]), (1, [1, 3, 5, 6]), (2, [3, 6]), (3, [6])], [], [], []⟩ 18 [.cell 6 35] rfl rfl rfl rfl rfl rfl ?_
  conv => whnf
  refine liS ([] : List PartState) PartState.enc rfl rfl ?_
  conv => whnf
  refine apS (enc := PartState.enc) (l1 := ([] : List PartState)) (l2 := a0.Parts) h rfl rfl (fun _ => rfl) (fun h => ?_)
  conv => whnf
  refine ioS (enc := PartState.enc) h rfl (fun h => ?_)
  conv => whnf
  refine seS (enc := PartState.enc) h rfl (fun x1 => a2) (fun _ => rfl) (fun x1 h => ?_)
  conv => whnf
  exact rt (E := E_KernelState) h rfl

end Go.Proofs.YtldlcdnhdedoeaaGreat
namespace Go.Proofs.YtldlcdnhdedoeaaGreat
open Go Go.VC
def E_fn_kernel_on : Unit → List CV := fun r => [.d (.fn 158 [[.fn 126 []]])]
noncomputable def kernel_on  : Option Unit :=
  some ()
theorem kernel_on_w  (r : Unit) (h : kernel_on = some r) : Go.VC.Spec Tryz.prog 125 [.d (.fn 126 [])] (fun y => y = E_fn_kernel_on r) := by
  refine Go.VC.Spec.of_xc (args := [.d (.fn 126 [])]) (fn := Tryz.f125) tab ⟨[(0, [1]), (1, [2])], [], [], []⟩ 4 [.tmp 2] rfl rfl rfl rfl rfl rfl ?_
  conv => whnf
  exact rt (E := E_fn_kernel_on) h rfl

end Go.Proofs.YtldlcdnhdedoeaaGreat
namespace Go.Proofs.YtldlcdnhdedoeaaGreat
open Go Go.VC
def E_fn_kernel_on_i1 : Unit → List CV := fun r => [.d (.fn 158 [[.fn 127 []]])]
noncomputable def kernel_on_i1  : Option Unit :=
  some ()
theorem kernel_on_i1_w  (r : Unit) (h : kernel_on_i1 = some r) : Go.VC.Spec Tryz.prog 125 [.d (.fn 127 [])] (fun y => y = E_fn_kernel_on_i1 r) := by
  refine Go.VC.Spec.of_xc (args := [.d (.fn 127 [])]) (fn := Tryz.f125) tab ⟨[(0, [1]), (1, [2])], [], [], []⟩ 4 [.tmp 2] rfl rfl rfl rfl rfl rfl ?_
  conv => whnf
  exact rt (E := E_fn_kernel_on_i1) h rfl

end Go.Proofs.YtldlcdnhdedoeaaGreat
namespace Go.Proofs.YtldlcdnhdedoeaaGreat
open Go Go.VC
def E_fn_kernel_on_2 : Unit → List CV := fun r => [.d (.fn 158 [[.fn 128 []]])]
noncomputable def kernel_on_2  : Option Unit :=
  some ()
theorem kernel_on_2_w  (r : Unit) (h : kernel_on_2 = some r) : Go.VC.Spec Tryz.prog 125 [.d (.fn 128 [])] (fun y => y = E_fn_kernel_on_2 r) := by
  refine Go.VC.Spec.of_xc (args := [.d (.fn 128 [])]) (fn := Tryz.f125) tab ⟨[(0, [1]), (1, [2])], [], [], []⟩ 4 [.tmp 2] rfl rfl rfl rfl rfl rfl ?_
  conv => whnf
  exact rt (E := E_fn_kernel_on_2) h rfl

end Go.Proofs.YtldlcdnhdedoeaaGreat
namespace Go.Proofs.YtldlcdnhdedoeaaGreat
open Go Go.VC
def E_fn_kernel_on_3 : Unit → List CV := fun r => [.d (.fn 158 [[.fn 129 []]])]
noncomputable def kernel_on_3  : Option Unit :=
  some ()
theorem kernel_on_3_w  (r : Unit) (h : kernel_on_3 = some r) : Go.VC.Spec Tryz.prog 125 [.d (.fn 129 [])] (fun y => y = E_fn_kernel_on_3 r) := by
  refine Go.VC.Spec.of_xc (args := [.d (.fn 129 [])]) (fn := Tryz.f125) tab ⟨[(0, [1]), (1, [2])], [], [], []⟩ 4 [.tmp 2] rfl rfl rfl rfl rfl rfl ?_
  conv => whnf
  exact rt (E := E_fn_kernel_on_3) h rfl

end Go.Proofs.YtldlcdnhdedoeaaGreat
namespace Go.Proofs.YtldlcdnhdedoeaaGreat
open Go Go.VC
def E_fn_kernel_kinds : Unit → List CV := fun r => [.d (.mp [[.int .i64 (1 : Int), .fn 158 [[.fn 126 []]]], [.int .i64 (4 : Int), .fn 158 [[.fn 127 []]]], [.int .i64 (5 : Int), .fn 158 [[.fn 128 []]]], [.int .i64 (6 : Int), .fn 158 [[.fn 129 []]]], [.int .i64 (2 : Int), .fn 130 []], [.int .i64 (3 : Int), .fn 131 []]])]
noncomputable def kernel_kinds : Option Unit := some ()
theorem kernel_kinds_w (r : Unit) (h : kernel_kinds = some r) : Go.VC.Spec Tryz.prog 73 [] (fun y => y = E_fn_kernel_kinds r) := by
  refine Spec.of_wpF (args := []) (fn := Tryz.f73) rfl rfl rfl rfl ?_
  refine WpF.seq tab ⟨[(0, []), (1, [0])], [], [], []⟩ (rs := [.tmp 0]) rfl ?_
  conv => whnf
  refine WpF.reg (AWp.map rfl rfl rfl rfl rfl ?_)
  conv => whnf
  refine mp_call (r := .fn 158 [[.fn 126 []]]) rfl rfl rfl rfl rfl (kernel_on_w _ rfl) ?_
  conv => whnf
  refine mp_ins rfl rfl rfl rfl Tryz.underlying150 Tryz.underlying3 rfl ?_
  conv => whnf
  refine mp_call (r := .fn 158 [[.fn 127 []]]) rfl rfl rfl rfl rfl (kernel_on_i1_w _ rfl) ?_
  conv => whnf
  refine mp_ins rfl rfl rfl rfl Tryz.underlying150 Tryz.underlying3 rfl ?_
  conv => whnf
  refine mp_call (r := .fn 158 [[.fn 128 []]]) rfl rfl rfl rfl rfl (kernel_on_2_w _ rfl) ?_
  conv => whnf
  refine mp_ins rfl rfl rfl rfl Tryz.underlying150 Tryz.underlying3 rfl ?_
  conv => whnf
  refine mp_call (r := .fn 158 [[.fn 129 []]]) rfl rfl rfl rfl rfl (kernel_on_3_w _ rfl) ?_
  conv => whnf
  refine mp_ins rfl rfl rfl rfl Tryz.underlying150 Tryz.underlying3 rfl ?_
  conv => whnf
  refine mp_ins rfl rfl rfl rfl Tryz.underlying150 Tryz.underlying3 rfl ?_
  conv => whnf
  refine mp_ins rfl rfl rfl rfl Tryz.underlying150 Tryz.underlying3 rfl ?_
  conv => whnf
  refine mp_end tab rfl ?_
  conv => whnf
  exact WpF.ret tab (rs := [.tmp 0]) rfl (RetOk.mk ⟨_, rfl, rfl⟩)

end Go.Proofs.YtldlcdnhdedoeaaGreat
namespace Go.Proofs.YtldlcdnhdedoeaaGreat
open Go Go.VC
noncomputable def kernel_kinds_1 (a0 : PartState) (a1 : Face) (a2 : KernelCmd) (a3 : Int) : Option (PartState × Int) :=
  bnd (part_Release a0 a2.I a2.V a3) fun x1 => some (x1.1, x1.2)
theorem kernel_kinds_1_w (a0 : PartState) (a1 : Face) (a2 : KernelCmd) (a3 : Int) (r : PartState × Int) (h : kernel_kinds_1 a0 a1 a2 a3 = some r) : Go.VC.Spec Tryz.prog 126 [.agg (PartState.enc a0), .agg (Face.enc a1), .agg (KernelCmd.enc a2), .d (.int .i64 a3)] (fun y => y = E_PartState_Int r) := by
  refine Go.VC.Spec.of_xc (args := [.agg (PartState.enc a0), .agg (Face.enc a1), .agg (KernelCmd.enc a2), .d (.int .i64 a3)]) (fn := Tryz.f126) tab ⟨[(0, [3, 4, 6, 8]), (1, [8, 9])], [], [], []⟩ 19 [.cell 8 51, .tmp 9] rfl rfl rfl rfl rfl rfl ?_
  conv => whnf
  refine ccS (E := E_PartState_Int) h (part_Release_w a0 a2.I a2.V a3) rfl rfl (fun x1 h => ?_)
  conv => whnf
  exact rt (E := E_PartState_Int) h rfl

end Go.Proofs.YtldlcdnhdedoeaaGreat
namespace Go.Proofs.YtldlcdnhdedoeaaGreat
open Go Go.VC
noncomputable def kernel_on_1 (a0 : KernelState) (a1 : KernelCmd) : Option (KernelState × Int × Int) :=
  ix a0.Parts a1.Part fun x1 => ix a0.Faces a1.Part fun x2 => bnd (kernel_kinds_1 x1 x2 a1 a0.Now) fun x3 => bnd (kernel_State_with a0 a1.Part x3.1) fun x4 => some (x4, (0 : Int), x3.2)
theorem kernel_on_1_w (a0 : KernelState) (a1 : KernelCmd) (r : KernelState × Int × Int) (h : kernel_on_1 a0 a1 = some r) : Go.VC.Spec Tryz.prog 158 [.agg (KernelState.enc a0), .agg (KernelCmd.enc a1), .dp [.fn 126 []]] (fun y => y = E_KernelState_Int_Int r) := by
  refine Go.VC.Spec.of_xc (args := [.agg (KernelState.enc a0), .agg (KernelCmd.enc a1), .dp [.fn 126 []]]) (fn := Tryz.f158) tab ⟨[(0, [2, 3, 4, 5]), (1, [3, 4, 5, 8, 9]), (2, [5, 6, 7])], [], [], []⟩ 36 [.cell 5 35, .tmp 6, .tmp 7] rfl rfl rfl rfl rfl rfl ?_
  conv => whnf
  refine ⟨22, ?_⟩
  conv => whnf
  refine ixS (enc := PartState.enc) h rfl (fun _ => rfl) (fun x1 h => ?_)
  conv => whnf
  refine ixS (enc := Face.enc) h rfl (fun _ => rfl) (fun x2 h => ?_)
  conv => whnf
  refine dcS (E := E_PartState_Int) h (kernel_kinds_1_w x1 x2 a1 a0.Now) rfl (fun x3 h => ?_)
  conv => whnf
  refine drS (by kernel_rfl) ?_
  conv => whnf
  refine ccS (E := E_KernelState) h (kernel_State_with_w a0 a1.Part x3.1) rfl rfl (fun x4 h => ?_)
  conv => whnf
  exact rt (E := E_KernelState_Int_Int) h rfl

end Go.Proofs.YtldlcdnhdedoeaaGreat
namespace Go.Proofs.YtldlcdnhdedoeaaGreat
open Go Go.VC
noncomputable def kernel_kinds_2 (a0 : PartState) (a1 : Face) (a2 : KernelCmd) (a3 : Int) : Option (PartState × Int) :=
  bnd (admit_Add a0 a1 a2.T) fun x1 => some (x1.1, x1.2)
theorem kernel_kinds_2_w (a0 : PartState) (a1 : Face) (a2 : KernelCmd) (a3 : Int) (r : PartState × Int) (h : kernel_kinds_2 a0 a1 a2 a3 = some r) : Go.VC.Spec Tryz.prog 127 [.agg (PartState.enc a0), .agg (Face.enc a1), .agg (KernelCmd.enc a2), .d (.int .i64 a3)] (fun y => y = E_PartState_Int r) := by
  refine Go.VC.Spec.of_xc (args := [.agg (PartState.enc a0), .agg (Face.enc a1), .agg (KernelCmd.enc a2), .d (.int .i64 a3)]) (fn := Tryz.f127) tab ⟨[(0, [4, 5, 6, 8]), (1, [8, 9])], [], [], []⟩ 17 [.cell 8 51, .tmp 9] rfl rfl rfl rfl rfl rfl ?_
  conv => whnf
  refine ccS (E := E_PartState_Int) h (admit_Add_w a0 a1 a2.T) rfl rfl (fun x1 h => ?_)
  conv => whnf
  exact rt (E := E_PartState_Int) h rfl

end Go.Proofs.YtldlcdnhdedoeaaGreat
namespace Go.Proofs.YtldlcdnhdedoeaaGreat
open Go Go.VC
noncomputable def kernel_on_1_1 (a0 : KernelState) (a1 : KernelCmd) : Option (KernelState × Int × Int) :=
  ix a0.Parts a1.Part fun x1 => ix a0.Faces a1.Part fun x2 => bnd (kernel_kinds_2 x1 x2 a1 a0.Now) fun x3 => bnd (kernel_State_with a0 a1.Part x3.1) fun x4 => some (x4, (0 : Int), x3.2)
theorem kernel_on_1_1_w (a0 : KernelState) (a1 : KernelCmd) (r : KernelState × Int × Int) (h : kernel_on_1_1 a0 a1 = some r) : Go.VC.Spec Tryz.prog 158 [.agg (KernelState.enc a0), .agg (KernelCmd.enc a1), .dp [.fn 127 []]] (fun y => y = E_KernelState_Int_Int r) := by
  refine Go.VC.Spec.of_xc (args := [.agg (KernelState.enc a0), .agg (KernelCmd.enc a1), .dp [.fn 127 []]]) (fn := Tryz.f158) tab ⟨[(0, [2, 3, 4, 5]), (1, [3, 4, 5, 8, 9]), (2, [5, 6, 7])], [], [], []⟩ 36 [.cell 5 35, .tmp 6, .tmp 7] rfl rfl rfl rfl rfl rfl ?_
  conv => whnf
  refine ⟨22, ?_⟩
  conv => whnf
  refine ixS (enc := PartState.enc) h rfl (fun _ => rfl) (fun x1 h => ?_)
  conv => whnf
  refine ixS (enc := Face.enc) h rfl (fun _ => rfl) (fun x2 h => ?_)
  conv => whnf
  refine dcS (E := E_PartState_Int) h (kernel_kinds_2_w x1 x2 a1 a0.Now) rfl (fun x3 h => ?_)
  conv => whnf
  refine drS (by kernel_rfl) ?_
  conv => whnf
  refine ccS (E := E_KernelState) h (kernel_State_with_w a0 a1.Part x3.1) rfl rfl (fun x4 h => ?_)
  conv => whnf
  exact rt (E := E_KernelState_Int_Int) h rfl

end Go.Proofs.YtldlcdnhdedoeaaGreat
namespace Go.Proofs.YtldlcdnhdedoeaaGreat
open Go Go.VC
noncomputable def kernel_kinds_3 (a0 : PartState) (a1 : Face) (a2 : KernelCmd) (a3 : Int) : Option (PartState × Int) :=
  bnd (admit_Drop a0 a2.I) fun x1 => some (x1.1, x1.2)
theorem kernel_kinds_3_w (a0 : PartState) (a1 : Face) (a2 : KernelCmd) (a3 : Int) (r : PartState × Int) (h : kernel_kinds_3 a0 a1 a2 a3 = some r) : Go.VC.Spec Tryz.prog 128 [.agg (PartState.enc a0), .agg (Face.enc a1), .agg (KernelCmd.enc a2), .d (.int .i64 a3)] (fun y => y = E_PartState_Int r) := by
  refine Go.VC.Spec.of_xc (args := [.agg (PartState.enc a0), .agg (Face.enc a1), .agg (KernelCmd.enc a2), .d (.int .i64 a3)]) (fn := Tryz.f128) tab ⟨[(0, [4, 6, 8]), (1, [8, 9])], [], [], []⟩ 16 [.cell 8 51, .tmp 9] rfl rfl rfl rfl rfl rfl ?_
  conv => whnf
  refine ccS (E := E_PartState_Int) h (admit_Drop_w a0 a2.I) rfl rfl (fun x1 h => ?_)
  conv => whnf
  exact rt (E := E_PartState_Int) h rfl

end Go.Proofs.YtldlcdnhdedoeaaGreat
namespace Go.Proofs.YtldlcdnhdedoeaaGreat
open Go Go.VC
noncomputable def kernel_on_1_2 (a0 : KernelState) (a1 : KernelCmd) : Option (KernelState × Int × Int) :=
  ix a0.Parts a1.Part fun x1 => ix a0.Faces a1.Part fun x2 => bnd (kernel_kinds_3 x1 x2 a1 a0.Now) fun x3 => bnd (kernel_State_with a0 a1.Part x3.1) fun x4 => some (x4, (0 : Int), x3.2)
theorem kernel_on_1_2_w (a0 : KernelState) (a1 : KernelCmd) (r : KernelState × Int × Int) (h : kernel_on_1_2 a0 a1 = some r) : Go.VC.Spec Tryz.prog 158 [.agg (KernelState.enc a0), .agg (KernelCmd.enc a1), .dp [.fn 128 []]] (fun y => y = E_KernelState_Int_Int r) := by
  refine Go.VC.Spec.of_xc (args := [.agg (KernelState.enc a0), .agg (KernelCmd.enc a1), .dp [.fn 128 []]]) (fn := Tryz.f158) tab ⟨[(0, [2, 3, 4, 5]), (1, [3, 4, 5, 8, 9]), (2, [5, 6, 7])], [], [], []⟩ 36 [.cell 5 35, .tmp 6, .tmp 7] rfl rfl rfl rfl rfl rfl ?_
  conv => whnf
  refine ⟨22, ?_⟩
  conv => whnf
  refine ixS (enc := PartState.enc) h rfl (fun _ => rfl) (fun x1 h => ?_)
  conv => whnf
  refine ixS (enc := Face.enc) h rfl (fun _ => rfl) (fun x2 h => ?_)
  conv => whnf
  refine dcS (E := E_PartState_Int) h (kernel_kinds_3_w x1 x2 a1 a0.Now) rfl (fun x3 h => ?_)
  conv => whnf
  refine drS (by kernel_rfl) ?_
  conv => whnf
  refine ccS (E := E_KernelState) h (kernel_State_with_w a0 a1.Part x3.1) rfl rfl (fun x4 h => ?_)
  conv => whnf
  exact rt (E := E_KernelState_Int_Int) h rfl

end Go.Proofs.YtldlcdnhdedoeaaGreat
namespace Go.Proofs.YtldlcdnhdedoeaaGreat
open Go Go.VC
noncomputable def kernel_kinds_4 (a0 : PartState) (a1 : Face) (a2 : KernelCmd) (a3 : Int) : Option (PartState × Int) :=
  bnd (admit_Change a0 a1 a2.I a2.T) fun x1 => some (x1.1, x1.2)
theorem kernel_kinds_4_w (a0 : PartState) (a1 : Face) (a2 : KernelCmd) (a3 : Int) (r : PartState × Int) (h : kernel_kinds_4 a0 a1 a2 a3 = some r) : Go.VC.Spec Tryz.prog 129 [.agg (PartState.enc a0), .agg (Face.enc a1), .agg (KernelCmd.enc a2), .d (.int .i64 a3)] (fun y => y = E_PartState_Int r) := by
  refine Go.VC.Spec.of_xc (args := [.agg (PartState.enc a0), .agg (Face.enc a1), .agg (KernelCmd.enc a2), .d (.int .i64 a3)]) (fn := Tryz.f129) tab ⟨[(0, [4, 5, 6, 8]), (1, [8, 9])], [], [], []⟩ 19 [.cell 8 51, .tmp 9] rfl rfl rfl rfl rfl rfl ?_
  conv => whnf
  refine ccS (E := E_PartState_Int) h (admit_Change_w a0 a1 a2.I a2.T) rfl rfl (fun x1 h => ?_)
  conv => whnf
  exact rt (E := E_PartState_Int) h rfl

end Go.Proofs.YtldlcdnhdedoeaaGreat
namespace Go.Proofs.YtldlcdnhdedoeaaGreat
open Go Go.VC
noncomputable def kernel_on_1_3 (a0 : KernelState) (a1 : KernelCmd) : Option (KernelState × Int × Int) :=
  ix a0.Parts a1.Part fun x1 => ix a0.Faces a1.Part fun x2 => bnd (kernel_kinds_4 x1 x2 a1 a0.Now) fun x3 => bnd (kernel_State_with a0 a1.Part x3.1) fun x4 => some (x4, (0 : Int), x3.2)
theorem kernel_on_1_3_w (a0 : KernelState) (a1 : KernelCmd) (r : KernelState × Int × Int) (h : kernel_on_1_3 a0 a1 = some r) : Go.VC.Spec Tryz.prog 158 [.agg (KernelState.enc a0), .agg (KernelCmd.enc a1), .dp [.fn 129 []]] (fun y => y = E_KernelState_Int_Int r) := by
  refine Go.VC.Spec.of_xc (args := [.agg (KernelState.enc a0), .agg (KernelCmd.enc a1), .dp [.fn 129 []]]) (fn := Tryz.f158) tab ⟨[(0, [2, 3, 4, 5]), (1, [3, 4, 5, 8, 9]), (2, [5, 6, 7])], [], [], []⟩ 36 [.cell 5 35, .tmp 6, .tmp 7] rfl rfl rfl rfl rfl rfl ?_
  conv => whnf
  refine ⟨22, ?_⟩
  conv => whnf
  refine ixS (enc := PartState.enc) h rfl (fun _ => rfl) (fun x1 h => ?_)
  conv => whnf
  refine ixS (enc := Face.enc) h rfl (fun _ => rfl) (fun x2 h => ?_)
  conv => whnf
  refine dcS (E := E_PartState_Int) h (kernel_kinds_4_w x1 x2 a1 a0.Now) rfl (fun x3 h => ?_)
  conv => whnf
  refine drS (by kernel_rfl) ?_
  conv => whnf
  refine ccS (E := E_KernelState) h (kernel_State_with_w a0 a1.Part x3.1) rfl rfl (fun x4 h => ?_)
  conv => whnf
  exact rt (E := E_KernelState_Int_Int) h rfl

end Go.Proofs.YtldlcdnhdedoeaaGreat
namespace Go.Proofs.YtldlcdnhdedoeaaGreat
open Go Go.VC
noncomputable def kernel_kinds_5 (a0 : KernelState) (a1 : KernelCmd) : Option (KernelState × Int × Int) :=
  bnd (port_Send a0.Lines a1.Part a1.I a1.V) fun x1 => some (⟨a0.Table, a0.Faces, a0.Parts, x1.1, a0.Now⟩, (0 : Int), x1.2)
theorem kernel_kinds_5_w (a0 : KernelState) (a1 : KernelCmd) (r : KernelState × Int × Int) (h : kernel_kinds_5 a0 a1 = some r) : Go.VC.Spec Tryz.prog 130 [.agg (KernelState.enc a0), .agg (KernelCmd.enc a1)] (fun y => y = E_KernelState_Int_Int r) := by
  refine Go.VC.Spec.of_xc (args := [.agg (KernelState.enc a0), .agg (KernelCmd.enc a1)]) (fn := Tryz.f130) tab ⟨[(0, [2, 3, 4]), (1, [2, 4, 7, 8]), (2, [2, 4, 8]), (3, [4, 5, 6])], [], [], []⟩ 25 [.cell 4 35, .tmp 5, .tmp 6] rfl rfl rfl rfl rfl rfl ?_
  conv => whnf
  refine ccS (E := E_ListPortLine_Int) h (port_Send_w a0.Lines a1.Part a1.I a1.V) rfl rfl (fun x1 h => ?_)
  conv => whnf
  exact rt (E := E_KernelState_Int_Int) h rfl

end Go.Proofs.YtldlcdnhdedoeaaGreat
namespace Go.Proofs.YtldlcdnhdedoeaaGreat
open Go Go.VC
noncomputable def kernel_kinds_6 (a0 : KernelState) (a1 : KernelCmd) : Option (KernelState × Int × Int) :=
  bnd (port_Read a0.Lines a1.Part a1.I) fun x1 => some (⟨a0.Table, a0.Faces, a0.Parts, x1.2.1, a0.Now⟩, x1.1, x1.2.2)
theorem kernel_kinds_6_w (a0 : KernelState) (a1 : KernelCmd) (r : KernelState × Int × Int) (h : kernel_kinds_6 a0 a1 = some r) : Go.VC.Spec Tryz.prog 131 [.agg (KernelState.enc a0), .agg (KernelCmd.enc a1)] (fun y => y = E_KernelState_Int_Int r) := by
  refine Go.VC.Spec.of_xc (args := [.agg (KernelState.enc a0), .agg (KernelCmd.enc a1)]) (fn := Tryz.f131) tab ⟨[(0, [2, 3, 4]), (1, [2, 4, 7, 8, 9]), (2, [2, 4, 7, 9]), (3, [4, 5, 6])], [], [], []⟩ 26 [.cell 4 35, .tmp 5, .tmp 6] rfl rfl rfl rfl rfl rfl ?_
  conv => whnf
  refine ccS (E := E_Int_ListPortLine_Int) h (port_Read_w a0.Lines a1.Part a1.I) rfl rfl (fun x1 h => ?_)
  conv => whnf
  exact rt (E := E_KernelState_Int_Int) h rfl

end Go.Proofs.YtldlcdnhdedoeaaGreat
namespace Go.Proofs.YtldlcdnhdedoeaaGreat
open Go Go.VC
noncomputable def kernel_Do (a0 : KernelState) (a1 : KernelCmd) : Option (KernelState × Int × Int) :=
  bnd (kernel_Right a0) fun x1 => fk (!x1) (some (a0, (0 : Int), (1 : Int))) (bnd kernel_kinds fun x2 => fk (decide (a1.Kind = (1 : Int))) (jn (fun (w3 : Bool) => fk w3 (some (a0, (0 : Int), (4 : Int))) (bnd (kernel_on_1 a0 a1) fun x4 => some (x4.1, x4.2.1, x4.2.2))) (fun k3 => fk (decide (a1.Part < (0 : Int))) (k3 true) (k3 (decide (a1.Part ≥ (a0.Parts.length : Int)))))) (fk (decide (a1.Kind = (4 : Int))) (jn (fun (w5 : Bool) => fk w5 (some (a0, (0 : Int), (4 : Int))) (bnd (kernel_on_1_1 a0 a1) fun x6 => some (x6.1, x6.2.1, x6.2.2))) (fun k5 => fk (decide (a1.Part < (0 : Int))) (k5 true) (k5 (decide (a1.Part ≥ (a0.Parts.length : Int)))))) (fk (decide (a1.Kind = (5 : Int))) (jn (fun (w7 : Bool) => fk w7 (some (a0, (0 : Int), (4 : Int))) (bnd (kernel_on_1_2 a0 a1) fun x8 => some (x8.1, x8.2.1, x8.2.2))) (fun k7 => fk (decide (a1.Part < (0 : Int))) (k7 true) (k7 (decide (a1.Part ≥ (a0.Parts.length : Int)))))) (fk (decide (a1.Kind = (6 : Int))) (jn (fun (w9 : Bool) => fk w9 (some (a0, (0 : Int), (4 : Int))) (bnd (kernel_on_1_3 a0 a1) fun x10 => some (x10.1, x10.2.1, x10.2.2))) (fun k9 => fk (decide (a1.Part < (0 : Int))) (k9 true) (k9 (decide (a1.Part ≥ (a0.Parts.length : Int)))))) (fk (decide (a1.Kind = (2 : Int))) (jn (fun (w11 : Bool) => fk w11 (some (a0, (0 : Int), (4 : Int))) (bnd (kernel_kinds_5 a0 a1) fun x12 => some (x12.1, x12.2.1, x12.2.2))) (fun k11 => fk (decide (a1.Part < (0 : Int))) (k11 true) (k11 (decide (a1.Part ≥ (a0.Parts.length : Int)))))) (fk (decide (a1.Kind = (3 : Int))) (jn (fun (w13 : Bool) => fk w13 (some (a0, (0 : Int), (4 : Int))) (bnd (kernel_kinds_6 a0 a1) fun x14 => some (x14.1, x14.2.1, x14.2.2))) (fun k13 => fk (decide (a1.Part < (0 : Int))) (k13 true) (k13 (decide (a1.Part ≥ (a0.Parts.length : Int)))))) (jn (fun (w15 : Unit) => some (a0, (0 : Int), (4 : Int))) (fun k15 => k15 ()))))))))
theorem kernel_Do_w (a0 : KernelState) (a1 : KernelCmd) (r : KernelState × Int × Int) (h : kernel_Do a0 a1 = some r) : Go.VC.Spec Tryz.prog 27 [.agg (KernelState.enc a0), .agg (KernelCmd.enc a1)] (fun y => y = E_KernelState_Int_Int r) := by
  refine Go.VC.Spec.of_xc (args := [.agg (KernelState.enc a0), .agg (KernelCmd.enc a1)]) (fn := Tryz.f27) tab ⟨[(0, [2, 3, 4]), (1, [2, 3, 4, 10]), (2, [4, 5, 6]), (3, [2, 3, 4, 7]), (4, [2, 3, 4, 7, 30]), (5, [4, 5, 6]), (6, [4, 5, 6])], [], [100030], []⟩ 39 [.cell 4 35, .tmp 5, .tmp 6] rfl rfl rfl rfl rfl rfl ?_
  conv => whnf
  refine caS (E := E_Bool) h (kernel_Right_w a0) rfl (fun _ => rfl) (fun x1 h => ?_)
  conv => whnf
  refine fkS h (fun h => ?_) (fun h => ?_)
  · conv => whnf
    exact rt (E := E_KernelState_Int_Int) h rfl
  conv => whnf
  refine ⟨3, ?_⟩
  conv => whnf
  refine dcS (E := E_fn_kernel_kinds) h kernel_kinds_w rfl (fun x2 h => ?_)
  conv => whnf
  refine drS (by kernel_rfl) ?_
  conv => whnf
  refine lkS (zv := .nilFunc) (zd := .nilfn) rfl rfl rfl rfl Tryz.underlying150 Tryz.underlying3 (by kernel_rfl) rfl ?_
  conv => whnf
  refine fkS h (fun h => ?_) (fun h => ?_)
  · conv => whnf
    refine jnS (fun w3 => ⟨[(2, .l (.ptr 3 0)), (3, .l (.ptr 4 0)), (4, .l (.ptr 5 0)), (7, .l (.d (.fn 158 [[.fn 126 []]]))), (30, .l (.d (.bool w3)))], 39, [], [(3, [.d (.int .i64 a0.Table.Frame), .d (.sl (a0.Table.Windows.map Window.enc)), .d (.sl (a0.Faces.map Face.enc)), .d (.sl (a0.Parts.map PartState.enc)), .d (.sl (a0.Lines.map PortLine.enc)), .d (.int .i64 a0.Now)]), (4, [.d (.int .i64 a1.Part), .d (.int .i64 a1.Kind), .d (.int .i64 a1.I), .d (.int .i64 a1.V), .d (.int .i64 a1.T.C), .d (.int .i64 a1.T.D), .d (.int .i64 a1.T.T), .d (.sl (a1.T.Secs.map Sec.enc))]), (5, [.d (.int .i64 (0 : Int)), .nil, .nil, .nil, .nil, .d (.int .i64 (0 : Int))])], []⟩) h (fun k3 hk3 h => ?_) (fun w3 h => ?_)
    · conv => whnf
      refine fnS rfl rfl rfl Tryz.underlying73 ?_
      conv => whnf
      refine fkS h (fun h => ?_) (fun h => ?_)
      · conv => whnf
        exact jeS hk3 h (Weak.refl _)
      conv => whnf
      refine lenS a0.Parts PartState.enc rfl ?_
      conv => whnf
      exact jeS hk3 h (Weak.refl _)
    conv => whnf
    refine fkS h (fun h => ?_) (fun h => ?_)
    · conv => whnf
      exact rt (E := E_KernelState_Int_Int) h rfl
    conv => whnf
    refine ccS (E := E_KernelState_Int_Int) h (kernel_on_1_w a0 a1) rfl rfl (fun x4 h => ?_)
    conv => whnf
    exact rt (E := E_KernelState_Int_Int) h rfl
  conv => whnf
  refine fkS h (fun h => ?_) (fun h => ?_)
  · conv => whnf
    refine jnS (fun w5 => ⟨[(2, .l (.ptr 3 0)), (3, .l (.ptr 4 0)), (4, .l (.ptr 5 0)), (7, .l (.d (.fn 158 [[.fn 127 []]]))), (30, .l (.d (.bool w5)))], 39, [], [(3, [.d (.int .i64 a0.Table.Frame), .d (.sl (a0.Table.Windows.map Window.enc)), .d (.sl (a0.Faces.map Face.enc)), .d (.sl (a0.Parts.map PartState.enc)), .d (.sl (a0.Lines.map PortLine.enc)), .d (.int .i64 a0.Now)]), (4, [.d (.int .i64 a1.Part), .d (.int .i64 a1.Kind), .d (.int .i64 a1.I), .d (.int .i64 a1.V), .d (.int .i64 a1.T.C), .d (.int .i64 a1.T.D), .d (.int .i64 a1.T.T), .d (.sl (a1.T.Secs.map Sec.enc))]), (5, [.d (.int .i64 (0 : Int)), .nil, .nil, .nil, .nil, .d (.int .i64 (0 : Int))])], []⟩) h (fun k5 hk5 h => ?_) (fun w5 h => ?_)
    · conv => whnf
      refine fnS rfl rfl rfl Tryz.underlying73 ?_
      conv => whnf
      refine fkS h (fun h => ?_) (fun h => ?_)
      · conv => whnf
        exact jeS hk5 h (Weak.refl _)
      conv => whnf
      refine lenS a0.Parts PartState.enc rfl ?_
      conv => whnf
      exact jeS hk5 h (Weak.refl _)
    conv => whnf
    refine fkS h (fun h => ?_) (fun h => ?_)
    · conv => whnf
      exact rt (E := E_KernelState_Int_Int) h rfl
    conv => whnf
    refine ccS (E := E_KernelState_Int_Int) h (kernel_on_1_1_w a0 a1) rfl rfl (fun x6 h => ?_)
    conv => whnf
    exact rt (E := E_KernelState_Int_Int) h rfl
  conv => whnf
  refine fkS h (fun h => ?_) (fun h => ?_)
  · conv => whnf
    refine jnS (fun w7 => ⟨[(2, .l (.ptr 3 0)), (3, .l (.ptr 4 0)), (4, .l (.ptr 5 0)), (7, .l (.d (.fn 158 [[.fn 128 []]]))), (30, .l (.d (.bool w7)))], 39, [], [(3, [.d (.int .i64 a0.Table.Frame), .d (.sl (a0.Table.Windows.map Window.enc)), .d (.sl (a0.Faces.map Face.enc)), .d (.sl (a0.Parts.map PartState.enc)), .d (.sl (a0.Lines.map PortLine.enc)), .d (.int .i64 a0.Now)]), (4, [.d (.int .i64 a1.Part), .d (.int .i64 a1.Kind), .d (.int .i64 a1.I), .d (.int .i64 a1.V), .d (.int .i64 a1.T.C), .d (.int .i64 a1.T.D), .d (.int .i64 a1.T.T), .d (.sl (a1.T.Secs.map Sec.enc))]), (5, [.d (.int .i64 (0 : Int)), .nil, .nil, .nil, .nil, .d (.int .i64 (0 : Int))])], []⟩) h (fun k7 hk7 h => ?_) (fun w7 h => ?_)
    · conv => whnf
      refine fnS rfl rfl rfl Tryz.underlying73 ?_
      conv => whnf
      refine fkS h (fun h => ?_) (fun h => ?_)
      · conv => whnf
        exact jeS hk7 h (Weak.refl _)
      conv => whnf
      refine lenS a0.Parts PartState.enc rfl ?_
      conv => whnf
      exact jeS hk7 h (Weak.refl _)
    conv => whnf
    refine fkS h (fun h => ?_) (fun h => ?_)
    · conv => whnf
      exact rt (E := E_KernelState_Int_Int) h rfl
    conv => whnf
    refine ccS (E := E_KernelState_Int_Int) h (kernel_on_1_2_w a0 a1) rfl rfl (fun x8 h => ?_)
    conv => whnf
    exact rt (E := E_KernelState_Int_Int) h rfl
  conv => whnf
  refine fkS h (fun h => ?_) (fun h => ?_)
  · conv => whnf
    refine jnS (fun w9 => ⟨[(2, .l (.ptr 3 0)), (3, .l (.ptr 4 0)), (4, .l (.ptr 5 0)), (7, .l (.d (.fn 158 [[.fn 129 []]]))), (30, .l (.d (.bool w9)))], 39, [], [(3, [.d (.int .i64 a0.Table.Frame), .d (.sl (a0.Table.Windows.map Window.enc)), .d (.sl (a0.Faces.map Face.enc)), .d (.sl (a0.Parts.map PartState.enc)), .d (.sl (a0.Lines.map PortLine.enc)), .d (.int .i64 a0.Now)]), (4, [.d (.int .i64 a1.Part), .d (.int .i64 a1.Kind), .d (.int .i64 a1.I), .d (.int .i64 a1.V), .d (.int .i64 a1.T.C), .d (.int .i64 a1.T.D), .d (.int .i64 a1.T.T), .d (.sl (a1.T.Secs.map Sec.enc))]), (5, [.d (.int .i64 (0 : Int)), .nil, .nil, .nil, .nil, .d (.int .i64 (0 : Int))])], []⟩) h (fun k9 hk9 h => ?_) (fun w9 h => ?_)
    · conv => whnf
      refine fnS rfl rfl rfl Tryz.underlying73 ?_
      conv => whnf
      refine fkS h (fun h => ?_) (fun h => ?_)
      · conv => whnf
        exact jeS hk9 h (Weak.refl _)
      conv => whnf
      refine lenS a0.Parts PartState.enc rfl ?_
      conv => whnf
      exact jeS hk9 h (Weak.refl _)
    conv => whnf
    refine fkS h (fun h => ?_) (fun h => ?_)
    · conv => whnf
      exact rt (E := E_KernelState_Int_Int) h rfl
    conv => whnf
    refine ccS (E := E_KernelState_Int_Int) h (kernel_on_1_3_w a0 a1) rfl rfl (fun x10 h => ?_)
    conv => whnf
    exact rt (E := E_KernelState_Int_Int) h rfl
  conv => whnf
  refine fkS h (fun h => ?_) (fun h => ?_)
  · conv => whnf
    refine jnS (fun w11 => ⟨[(2, .l (.ptr 3 0)), (3, .l (.ptr 4 0)), (4, .l (.ptr 5 0)), (7, .l (.d (.fn 130 []))), (30, .l (.d (.bool w11)))], 39, [], [(3, [.d (.int .i64 a0.Table.Frame), .d (.sl (a0.Table.Windows.map Window.enc)), .d (.sl (a0.Faces.map Face.enc)), .d (.sl (a0.Parts.map PartState.enc)), .d (.sl (a0.Lines.map PortLine.enc)), .d (.int .i64 a0.Now)]), (4, [.d (.int .i64 a1.Part), .d (.int .i64 a1.Kind), .d (.int .i64 a1.I), .d (.int .i64 a1.V), .d (.int .i64 a1.T.C), .d (.int .i64 a1.T.D), .d (.int .i64 a1.T.T), .d (.sl (a1.T.Secs.map Sec.enc))]), (5, [.d (.int .i64 (0 : Int)), .nil, .nil, .nil, .nil, .d (.int .i64 (0 : Int))])], []⟩) h (fun k11 hk11 h => ?_) (fun w11 h => ?_)
    · conv => whnf
      refine fnS rfl rfl rfl Tryz.underlying73 ?_
      conv => whnf
      refine fkS h (fun h => ?_) (fun h => ?_)
      · conv => whnf
        exact jeS hk11 h (Weak.refl _)
      conv => whnf
      refine lenS a0.Parts PartState.enc rfl ?_
      conv => whnf
      exact jeS hk11 h (Weak.refl _)
    conv => whnf
    refine fkS h (fun h => ?_) (fun h => ?_)
    · conv => whnf
      exact rt (E := E_KernelState_Int_Int) h rfl
    conv => whnf
    refine ccS (E := E_KernelState_Int_Int) h (kernel_kinds_5_w a0 a1) rfl rfl (fun x12 h => ?_)
    conv => whnf
    exact rt (E := E_KernelState_Int_Int) h rfl
  conv => whnf
  refine fkS h (fun h => ?_) (fun h => ?_)
  · conv => whnf
    refine jnS (fun w13 => ⟨[(2, .l (.ptr 3 0)), (3, .l (.ptr 4 0)), (4, .l (.ptr 5 0)), (7, .l (.d (.fn 131 []))), (30, .l (.d (.bool w13)))], 39, [], [(3, [.d (.int .i64 a0.Table.Frame), .d (.sl (a0.Table.Windows.map Window.enc)), .d (.sl (a0.Faces.map Face.enc)), .d (.sl (a0.Parts.map PartState.enc)), .d (.sl (a0.Lines.map PortLine.enc)), .d (.int .i64 a0.Now)]), (4, [.d (.int .i64 a1.Part), .d (.int .i64 a1.Kind), .d (.int .i64 a1.I), .d (.int .i64 a1.V), .d (.int .i64 a1.T.C), .d (.int .i64 a1.T.D), .d (.int .i64 a1.T.T), .d (.sl (a1.T.Secs.map Sec.enc))]), (5, [.d (.int .i64 (0 : Int)), .nil, .nil, .nil, .nil, .d (.int .i64 (0 : Int))])], []⟩) h (fun k13 hk13 h => ?_) (fun w13 h => ?_)
    · conv => whnf
      refine fnS rfl rfl rfl Tryz.underlying73 ?_
      conv => whnf
      refine fkS h (fun h => ?_) (fun h => ?_)
      · conv => whnf
        exact jeS hk13 h (Weak.refl _)
      conv => whnf
      refine lenS a0.Parts PartState.enc rfl ?_
      conv => whnf
      exact jeS hk13 h (Weak.refl _)
    conv => whnf
    refine fkS h (fun h => ?_) (fun h => ?_)
    · conv => whnf
      exact rt (E := E_KernelState_Int_Int) h rfl
    conv => whnf
    refine ccS (E := E_KernelState_Int_Int) h (kernel_kinds_6_w a0 a1) rfl rfl (fun x14 h => ?_)
    conv => whnf
    exact rt (E := E_KernelState_Int_Int) h rfl
  conv => whnf
  refine jnS (fun w15 => ⟨[(2, .l (.ptr 3 0)), (3, .l (.ptr 4 0)), (4, .l (.ptr 5 0)), (7, .l (.d .nilfn)), (30, .l (.d (.bool true)))], 39, [], [(3, [.d (.int .i64 a0.Table.Frame), .d (.sl (a0.Table.Windows.map Window.enc)), .d (.sl (a0.Faces.map Face.enc)), .d (.sl (a0.Parts.map PartState.enc)), .d (.sl (a0.Lines.map PortLine.enc)), .d (.int .i64 a0.Now)]), (4, [.d (.int .i64 a1.Part), .d (.int .i64 a1.Kind), .d (.int .i64 a1.I), .d (.int .i64 a1.V), .d (.int .i64 a1.T.C), .d (.int .i64 a1.T.D), .d (.int .i64 a1.T.T), .d (.sl (a1.T.Secs.map Sec.enc))]), (5, [.d (.int .i64 (0 : Int)), .nil, .nil, .nil, .nil, .d (.int .i64 (0 : Int))])], []⟩) h (fun k15 hk15 h => ?_) (fun w15 h => ?_)
  · conv => whnf
    refine fnN rfl rfl rfl Tryz.underlying73 ?_
    conv => whnf
    exact jeS hk15 h (Weak.refl _)
  conv => whnf
  exact rt (E := E_KernelState_Int_Int) h rfl

end Go.Proofs.YtldlcdnhdedoeaaGreat
namespace Go.Proofs.YtldlcdnhdedoeaaGreat
open Go Go.VC
noncomputable def kernel_Tick (a0 : KernelState) : Option (KernelState × (List Int) × Int) :=
  bnd (kernel_Right a0) fun x1 => fk (!x1) (some (a0, [], (1 : Int))) (jn (fun (w2 : List PortLine) => bnd (table_At a0.Table a0.Now) fun x4 => lp (fun nx5 (v5 : Int × (List Window) × (List Face) × (List PartState) × (List PortLine) × Int × (List Int) × Int) => fk (decide (v5.2.2.2.2.2.2.2 < (a0.Parts.length : Int))) (ix a0.Parts v5.2.2.2.2.2.2.2 fun x6 => bnd (part_Tick x6 (decide (v5.2.2.2.2.2.2.2 = x4)) v5.2.2.2.2.2.1) fun x7 => bnd (kernel_State_with (⟨⟨v5.1, v5.2.1⟩, v5.2.2.1, v5.2.2.2.1, v5.2.2.2.2.1, v5.2.2.2.2.2.1⟩) v5.2.2.2.2.2.2.2 x7.1) fun x8 => ck (decide ((v5.2.2.2.2.2.2.1.length + ([x7.2.1] : List Int).length) * 8 ≤ 140737488355328)) (nx5 (x8.Table.Frame, x8.Table.Windows, x8.Faces, x8.Parts, x8.Lines, x8.Now, v5.2.2.2.2.2.2.1 ++ ([x7.2.1] : List Int), (wr (v5.2.2.2.2.2.2.2 + (1 : Int)))))) (some (⟨⟨v5.1, v5.2.1⟩, v5.2.2.1, v5.2.2.2.1, v5.2.2.2.2.1, (wr (v5.2.2.2.2.2.1 + (1 : Int)))⟩, v5.2.2.2.2.2.2.1, (0 : Int)))) FU (a0.Table.Frame, a0.Table.Windows, a0.Faces, a0.Parts, w2, a0.Now, [], (0 : Int))) (fun k2 => ck (decide (a0.Table.Frame ≠ 0)) (fk (decide ((a0.Now.tmod a0.Table.Frame) = (0 : Int))) (bnd (port_Deliver a0.Lines) fun x3 => k2 x3) (k2 a0.Lines))))
theorem kernel_Tick_w (a0 : KernelState) (r : KernelState × (List Int) × Int) (h : kernel_Tick a0 = some r) : Go.VC.Spec Tryz.prog 34 [.agg (KernelState.enc a0)] (fun y => y = E_KernelState_ListInt_Int r) := by
  refine Go.VC.Spec.of_xc (args := [.agg (KernelState.enc a0)]) (fn := Tryz.f34) tab ⟨[(0, [1, 2]), (1, [1, 2, 14]), (2, [2, 3, 4]), (3, [1, 2, 22]), (4, [1, 2]), (5, [1, 2, 5]), (6, [1, 2, 5, 6]), (7, [1, 2, 5, 6, 33, 34, 35]), (8, [1, 2, 5, 6, 33, 34, 35, 36]), (9, [1, 2, 5, 6, 7, 8, 33, 34, 35]), (10, [1, 2, 5, 6, 7, 9, 10, 33, 34, 35]), (11, [1, 2, 5, 6, 10, 33, 34, 35]), (12, [1, 2, 5, 6, 33, 34, 35]), (13, [1, 2, 5, 6, 33, 34, 35]), (14, [1, 2, 6]), (15, [2, 3, 4])], [], [5], []⟩ 66 [.cell 2 35, .tmp 3, .tmp 4] rfl rfl rfl rfl rfl rfl ?_
  conv => whnf
  refine caS (E := E_Bool) h (kernel_Right_w a0) rfl (fun _ => rfl) (fun x1 h => ?_)
  conv => whnf
  refine fkS h (fun h => ?_) (fun h => ?_)
  · conv => whnf
    exact rt (E := E_KernelState_ListInt_Int) h rfl
  conv => whnf
  refine jnS (fun w2 => ⟨[(1, .l (.ptr 2 0)), (2, .l (.ptr 3 0))], 66, [], [(2, [.d (.int .i64 a0.Table.Frame), .d (.sl (a0.Table.Windows.map Window.enc)), .d (.sl (a0.Faces.map Face.enc)), .d (.sl (a0.Parts.map PartState.enc)), .d (.sl (w2.map PortLine.enc)), .d (.int .i64 a0.Now)]), (3, [.d (.int .i64 (0 : Int)), .nil, .nil, .nil, .nil, .d (.int .i64 (0 : Int))])], []⟩) h (fun k2 hk2 h => ?_) (fun w2 h => ?_)
  · conv => whnf
    refine dvS h (fun h => ?_)
    conv => whnf
    refine fkS h (fun h => ?_) (fun h => ?_)
    · conv => whnf
      refine ccS (E := E_ListPortLine) h (port_Deliver_w a0.Lines) rfl rfl (fun x3 h => ?_)
      conv => whnf
      exact jeS hk2 h (Weak.refl _)
    conv => whnf
    refine jeX hk2 h ?_
    conv => whnf
    refine WkF.step (Weak.keepS _ [1, 2]) ?_
    conv => whnf
    exact WkF.refl _
  conv => whnf
  refine caS (E := E_Int) h (table_At_w a0.Table a0.Now) rfl (fun _ => rfl) (fun x4 h => ?_)
  conv => whnf
  refine lenS a0.Parts PartState.enc rfl ?_
  conv => whnf
  refine lpS (fun v5 => ⟨[(1, .l (.ptr 2 0)), (2, .l (.ptr 3 0)), (5, .l (.d (.int .i64 x4))), (6, .l (.own 7)), (33, .l (.d (.sl (a0.Parts.map PartState.enc)))), (34, .l (.d (.int .i64 (a0.Parts.length : Int)))), (35, .l (.d (.int .i64 v5.2.2.2.2.2.2.2)))], 66, [], [(2, [.d (.int .i64 v5.1), .d (.sl (v5.2.1.map Window.enc)), .d (.sl (v5.2.2.1.map Face.enc)), .d (.sl (v5.2.2.2.1.map PartState.enc)), .d (.sl (v5.2.2.2.2.1.map PortLine.enc)), .d (.int .i64 v5.2.2.2.2.2.1)]), (3, [.d (.int .i64 (0 : Int)), .nil, .nil, .nil, .nil, .d (.int .i64 (0 : Int))])], [(7, 3, 1, v5.2.2.2.2.2.2.1.map (eI .i64))]⟩) h (Weak.trans (Weak.nilO _ 6 7 3 1 rfl) (Weak.refl _)) (fun _ nx5 hn5 v5 h => ?_)
  conv => whnf
  refine fkS h (fun h => ?_) (fun h => ?_)
  · conv => whnf
    refine ixS (enc := PartState.enc) h rfl (fun _ => rfl) (fun x6 h => ?_)
    conv => whnf
    refine ccS (E := E_PartState_Int_Int) h (part_Tick_w x6 (decide (v5.2.2.2.2.2.2.2 = x4)) v5.2.2.2.2.2.1) rfl rfl (fun x7 h => ?_)
    conv => whnf
    refine ccS (E := E_KernelState) h (kernel_State_with_w (⟨⟨v5.1, v5.2.1⟩, v5.2.2.1, v5.2.2.2.1, v5.2.2.2.2.1, v5.2.2.2.2.2.1⟩) v5.2.2.2.2.2.2.2 x7.1) rfl rfl (fun x8 h => ?_)
    conv => whnf
    refine liS ([x7.2.1] : List Int) (eI .i64) rfl rfl ?_
    conv => whnf
    refine apS (enc := (eI .i64)) (l1 := v5.2.2.2.2.2.2.1) (l2 := ([x7.2.1] : List Int)) h rfl rfl (fun _ => rfl) (fun h => ?_)
    conv => whnf
    exact leS hn5 h (Weak.refl _)
  conv => whnf
  exact rt (E := E_KernelState_ListInt_Int) h rfl

end Go.Proofs.YtldlcdnhdedoeaaGreat
namespace Go.Proofs.YtldlcdnhdedoeaaGreat
open Go Go.VC
noncomputable def law18_As (a0 : List PortLine) : Option (List Ref18Row) :=
  lp (fun nx1 (v1 : (List Ref18Row) × Int) => fk (decide (v1.2 < (a0.length : Int))) (ix a0 v1.2 fun x2 => ix a0 v1.2 fun x3 => bnd (ring_List x3.Under) fun x4 => ix a0 v1.2 fun x5 => bnd (ring_List x5.Got) fun x6 => ck (decide ((v1.1.length + ([⟨x2.Port, x4, x6⟩] : List Ref18Row).length) * 72 ≤ 140737488355328)) (nx1 (v1.1 ++ ([⟨x2.Port, x4, x6⟩] : List Ref18Row), (wr (v1.2 + (1 : Int)))))) (some v1.1)) FU ([], (0 : Int))
theorem law18_As_w (a0 : List PortLine) (r : List Ref18Row) (h : law18_As a0 = some r) : Go.VC.Spec Tryz.prog 72 [.d (.sl (a0.map PortLine.enc))] (fun y => y = E_ListRef18Row r) := by
  refine Go.VC.Spec.of_xc (args := [.d (.sl (a0.map PortLine.enc))]) (fn := Tryz.f72) tab ⟨[(0, [0]), (1, [0, 3]), (2, [0, 3, 4]), (3, [0, 3, 4, 8]), (4, [0, 3, 4]), (5, [0, 3, 4]), (6, [2])], [], [], []⟩ 33 [.tmp 2] rfl rfl rfl rfl rfl rfl ?_
  conv => whnf
  refine lpS (fun v1 => ⟨[(0, .l (.d (.sl (a0.map PortLine.enc)))), (3, .l (.own 4)), (4, .l (.d (.int .i64 v1.2)))], 33, [], [], [(4, 213, 5, v1.1.map Ref18Row.enc)]⟩) h (Weak.trans (Weak.nilO _ 3 4 213 5 rfl) (Weak.refl _)) (fun _ nx1 hn1 v1 h => ?_)
  conv => whnf
  refine lenS a0 PortLine.enc rfl ?_
  conv => whnf
  refine fkS h (fun h => ?_) (fun h => ?_)
  · conv => whnf
    refine ⟨20, ?_⟩
    conv => whnf
    refine ixS (enc := PortLine.enc) h rfl (fun _ => rfl) (fun x2 h => ?_)
    conv => whnf
    refine ixS (enc := PortLine.enc) h rfl (fun _ => rfl) (fun x3 h => ?_)
    conv => whnf
    refine dcS (E := E_ListInt) h (ring_List_w x3.Under) rfl (fun x4 h => ?_)
    conv => whnf
    refine ixS (enc := PortLine.enc) h rfl (fun _ => rfl) (fun x5 h => ?_)
    conv => whnf
    refine dcS (E := E_ListInt) h (ring_List_w x5.Got) rfl (fun x6 h => ?_)
    conv => whnf
    refine liS ([⟨x2.Port, x4, x6⟩] : List Ref18Row) Ref18Row.enc rfl rfl ?_
    conv => whnf
    refine drS (by kernel_rfl) ?_
    conv => whnf
    refine apS (enc := Ref18Row.enc) (l1 := v1.1) (l2 := ([⟨x2.Port, x4, x6⟩] : List Ref18Row)) h rfl rfl (fun _ => rfl) (fun h => ?_)
    conv => whnf
    exact leS hn1 h (Weak.refl _)
  conv => whnf
  exact rt (E := E_ListRef18Row) h rfl

end Go.Proofs.YtldlcdnhdedoeaaGreat
namespace Go.Proofs.YtldlcdnhdedoeaaGreat
open Go Go.VC
noncomputable def ref03_SameList (a0 : List Int) (a1 : List Int) : Option Bool :=
  fk (!decide ((a0.length : Int) = (a1.length : Int))) (some false) (lp (fun nx1 (v1 : Int) => fk (decide (v1 < (a0.length : Int))) (ix a0 v1 fun x2 => ix a1 v1 fun x3 => fk (!decide (x2 = x3)) (some false) (nx1 (wr (v1 + (1 : Int))))) (some true)) FU (0 : Int))
theorem ref03_SameList_w (a0 : List Int) (a1 : List Int) (r : Bool) (h : ref03_SameList a0 a1 = some r) : Go.VC.Spec Tryz.prog 124 [.d (.sl (a0.map (eI .i64))), .d (.sl (a1.map (eI .i64)))] (fun y => y = E_Bool r) := by
  refine Go.VC.Spec.of_xc (args := [.d (.sl (a0.map (eI .i64))), .d (.sl (a1.map (eI .i64)))]) (fn := Tryz.f124) tab ⟨[(0, [0, 1]), (1, [0, 1, 10]), (2, [4]), (3, [0, 1, 5]), (4, [0, 1, 5, 14]), (5, [0, 1, 5]), (6, [0, 1, 5, 25]), (7, [4]), (8, [4])], [], [], []⟩ 26 [.tmp 4] rfl rfl rfl rfl rfl rfl ?_
  conv => whnf
  refine lenS a0 (eI .i64) rfl ?_
  conv => whnf
  refine lenS a1 (eI .i64) rfl ?_
  conv => whnf
  refine fkS h (fun h => ?_) (fun h => ?_)
  · conv => whnf
    exact rt (E := E_Bool) h rfl
  conv => whnf
  refine lpS (fun v1 => ⟨[(0, .l (.d (.sl (a0.map (eI .i64))))), (1, .l (.d (.sl (a1.map (eI .i64))))), (5, .l (.d (.int .i64 v1)))], 26, [], [], []⟩) h (Weak.refl _) (fun _ nx1 hn1 v1 h => ?_)
  conv => whnf
  refine lenS a0 (eI .i64) rfl ?_
  conv => whnf
  refine fkS h (fun h => ?_) (fun h => ?_)
  · conv => whnf
    refine ⟨8, ?_⟩
    conv => whnf
    refine ixS (enc := (eI .i64)) h rfl (fun _ => rfl) (fun x2 h => ?_)
    conv => whnf
    refine ixS (enc := (eI .i64)) h rfl (fun _ => rfl) (fun x3 h => ?_)
    conv => whnf
    refine drS (by kernel_rfl) ?_
    conv => whnf
    refine fkS h (fun h => ?_) (fun h => ?_)
    · conv => whnf
      exact rt (E := E_Bool) h rfl
    conv => whnf
    exact leS hn1 h (Weak.refl _)
  conv => whnf
  exact rt (E := E_Bool) h rfl

end Go.Proofs.YtldlcdnhdedoeaaGreat
namespace Go.Proofs.YtldlcdnhdedoeaaGreat
open Go Go.VC
noncomputable def law18_Same (a0 : List Ref18Row) (a1 : List Ref18Row) : Option Bool :=
  fk (!decide ((a0.length : Int) = (a1.length : Int))) (some false) (lp (fun nx1 (v1 : Int) => fk (decide (v1 < (a0.length : Int))) (jn (fun (w2 : Bool) => fk w2 (some false) (nx1 (wr (v1 + (1 : Int))))) (fun k2 => ix a0 v1 fun x3 => ix a1 v1 fun x4 => fk (!(eqI [.i .i64 x3.Port.From, .i .i64 x3.Port.To, .i .i64 x3.Port.Cap] [.i .i64 x4.Port.From, .i .i64 x4.Port.To, .i .i64 x4.Port.Cap])) (k2 true) (ix a0 v1 fun x5 => ix a1 v1 fun x6 => bnd (ref03_SameList x5.Under x6.Under) fun x7 => fk (!x7) (k2 true) (ix a0 v1 fun x8 => ix a1 v1 fun x9 => bnd (ref03_SameList x8.Got x9.Got) fun x10 => k2 (!x10))))) (some true)) FU (0 : Int))
theorem law18_Same_w (a0 : List Ref18Row) (a1 : List Ref18Row) (r : Bool) (h : law18_Same a0 a1 = some r) : Go.VC.Spec Tryz.prog 71 [.d (.sl (a0.map Ref18Row.enc)), .d (.sl (a1.map Ref18Row.enc))] (fun y => y = E_Bool r) := by
  refine Go.VC.Spec.of_xc (args := [.d (.sl (a0.map Ref18Row.enc)), .d (.sl (a1.map Ref18Row.enc))]) (fn := Tryz.f71) tab ⟨[(0, [0, 1]), (1, [0, 1, 10]), (2, [4]), (3, [0, 1, 5]), (4, [0, 1, 5, 14]), (5, [0, 1, 5]), (6, [0, 1, 5, 55]), (7, [4]), (8, [4])], [], [100055], []⟩ 56 [.tmp 4] rfl rfl rfl rfl rfl rfl ?_
  conv => whnf
  refine lenS a0 Ref18Row.enc rfl ?_
  conv => whnf
  refine lenS a1 Ref18Row.enc rfl ?_
  conv => whnf
  refine fkS h (fun h => ?_) (fun h => ?_)
  · conv => whnf
    exact rt (E := E_Bool) h rfl
  conv => whnf
  refine lpS (fun v1 => ⟨[(0, .l (.d (.sl (a0.map Ref18Row.enc)))), (1, .l (.d (.sl (a1.map Ref18Row.enc)))), (5, .l (.d (.int .i64 v1)))], 56, [], [], []⟩) h (Weak.refl _) (fun _ nx1 hn1 v1 h => ?_)
  conv => whnf
  refine lenS a0 Ref18Row.enc rfl ?_
  conv => whnf
  refine fkS h (fun h => ?_) (fun h => ?_)
  · conv => whnf
    refine jnS (fun w2 => ⟨[(0, .l (.d (.sl (a0.map Ref18Row.enc)))), (1, .l (.d (.sl (a1.map Ref18Row.enc)))), (5, .l (.d (.int .i64 v1))), (55, .l (.d (.bool w2)))], 56, [], [], []⟩) h (fun k2 hk2 h => ?_) (fun w2 h => ?_)
    · conv => whnf
      refine ⟨39, ?_⟩
      conv => whnf
      refine ixS (enc := Ref18Row.enc) h rfl (fun _ => rfl) (fun x3 h => ?_)
      conv => whnf
      refine ixS (enc := Ref18Row.enc) h rfl (fun _ => rfl) (fun x4 h => ?_)
      conv => whnf
      refine fkS h (fun h => ?_) (fun h => ?_)
      · conv => whnf
        refine drS (by kernel_rfl) ?_
        conv => whnf
        exact jeS hk2 h (Weak.refl _)
      conv => whnf
      refine ixS (enc := Ref18Row.enc) h rfl (fun _ => rfl) (fun x5 h => ?_)
      conv => whnf
      refine ixS (enc := Ref18Row.enc) h rfl (fun _ => rfl) (fun x6 h => ?_)
      conv => whnf
      refine daS (E := E_Bool) h (ref03_SameList_w x5.Under x6.Under) (fun _ => rfl) (fun x7 h => ?_)
      conv => whnf
      refine fkS h (fun h => ?_) (fun h => ?_)
      · conv => whnf
        refine drS (by kernel_rfl) ?_
        conv => whnf
        exact jeS hk2 h (Weak.refl _)
      conv => whnf
      refine ixS (enc := Ref18Row.enc) h rfl (fun _ => rfl) (fun x8 h => ?_)
      conv => whnf
      refine ixS (enc := Ref18Row.enc) h rfl (fun _ => rfl) (fun x9 h => ?_)
      conv => whnf
      refine daS (E := E_Bool) h (ref03_SameList_w x8.Got x9.Got) (fun _ => rfl) (fun x10 h => ?_)
      conv => whnf
      refine drS (by kernel_rfl) ?_
      conv => whnf
      exact jeS hk2 h (Weak.refl _)
    conv => whnf
    refine fkS h (fun h => ?_) (fun h => ?_)
    · conv => whnf
      exact rt (E := E_Bool) h rfl
    conv => whnf
    exact leS hn1 h (Weak.refl _)
  conv => whnf
  exact rt (E := E_Bool) h rfl

end Go.Proofs.YtldlcdnhdedoeaaGreat
namespace Go.Proofs.YtldlcdnhdedoeaaGreat
open Go Go.VC
noncomputable def law13_Same (a0 : TableTable) (a1 : TableTable) : Option Bool :=
  jn (fun (w1 : Bool) => fk w1 (some false) (lp (fun nx2 (v2 : Int) => fk (decide (v2 < (a0.Windows.length : Int))) (ix a0.Windows v2 fun x3 => ix a1.Windows v2 fun x4 => fk (!(eqI [.i .i64 x3.Part, .i .i64 x3.From, .i .i64 x3.Len] [.i .i64 x4.Part, .i .i64 x4.From, .i .i64 x4.Len])) (some false) (nx2 (wr (v2 + (1 : Int))))) (some true)) FU (0 : Int))) (fun k1 => fk (!decide (a0.Frame = a1.Frame)) (k1 true) (k1 (!decide ((a0.Windows.length : Int) = (a1.Windows.length : Int)))))
theorem law13_Same_w (a0 : TableTable) (a1 : TableTable) (r : Bool) (h : law13_Same a0 a1 = some r) : Go.VC.Spec Tryz.prog 60 [.agg (TableTable.enc a0), .agg (TableTable.enc a1)] (fun y => y = E_Bool r) := by
  refine Go.VC.Spec.of_xc (args := [.agg (TableTable.enc a0), .agg (TableTable.enc a1)]) (fn := Tryz.f60) tab ⟨[(0, [2, 3]), (1, [2, 3, 19]), (2, [4]), (3, [2, 3, 5]), (4, [2, 3, 5, 24]), (5, [2, 3, 5]), (6, [2, 3, 5, 37]), (7, [4]), (8, [4])], [], [100019], []⟩ 38 [.tmp 4] rfl rfl rfl rfl rfl rfl ?_
  conv => whnf
  refine jnS (fun w1 => ⟨[(2, .l (.ptr 3 0)), (3, .l (.ptr 4 0)), (19, .l (.d (.bool w1)))], 38, [], [(3, [.d (.int .i64 a0.Frame), .d (.sl (a0.Windows.map Window.enc))]), (4, [.d (.int .i64 a1.Frame), .d (.sl (a1.Windows.map Window.enc))])], []⟩) h (fun k1 hk1 h => ?_) (fun w1 h => ?_)
  · conv => whnf
    refine fkS h (fun h => ?_) (fun h => ?_)
    · conv => whnf
      exact jeS hk1 h (Weak.refl _)
    conv => whnf
    refine lenS a0.Windows Window.enc rfl ?_
    conv => whnf
    refine lenS a1.Windows Window.enc rfl ?_
    conv => whnf
    exact jeS hk1 h (Weak.refl _)
  conv => whnf
  refine fkS h (fun h => ?_) (fun h => ?_)
  · conv => whnf
    exact rt (E := E_Bool) h rfl
  conv => whnf
  refine lpS (fun v2 => ⟨[(2, .l (.ptr 3 0)), (3, .l (.ptr 4 0)), (5, .l (.d (.int .i64 v2)))], 38, [], [(3, [.d (.int .i64 a0.Frame), .d (.sl (a0.Windows.map Window.enc))]), (4, [.d (.int .i64 a1.Frame), .d (.sl (a1.Windows.map Window.enc))])], []⟩) h (Weak.refl _) (fun _ nx2 hn2 v2 h => ?_)
  conv => whnf
  refine lenS a0.Windows Window.enc rfl ?_
  conv => whnf
  refine fkS h (fun h => ?_) (fun h => ?_)
  · conv => whnf
    refine ⟨10, ?_⟩
    conv => whnf
    refine ixS (enc := Window.enc) h rfl (fun _ => rfl) (fun x3 h => ?_)
    conv => whnf
    refine ixS (enc := Window.enc) h rfl (fun _ => rfl) (fun x4 h => ?_)
    conv => whnf
    refine drS (by kernel_rfl) ?_
    conv => whnf
    refine fkS h (fun h => ?_) (fun h => ?_)
    · conv => whnf
      exact rt (E := E_Bool) h rfl
    conv => whnf
    exact leS hn2 h (Weak.refl _)
  conv => whnf
  exact rt (E := E_Bool) h rfl

end Go.Proofs.YtldlcdnhdedoeaaGreat
namespace Go.Proofs.YtldlcdnhdedoeaaGreat
open Go Go.VC
noncomputable def law21_lines (a0 : List PortLine) (a1 : List PortLine) : Option Bool :=
  bnd (law18_As a0) fun x1 => bnd (law18_As a1) fun x2 => bnd (law18_Same x1 x2) fun x3 => some x3
theorem law21_lines_w (a0 : List PortLine) (a1 : List PortLine) (r : Bool) (h : law21_lines a0 a1 = some r) : Go.VC.Spec Tryz.prog 24 [.d (.sl (a0.map PortLine.enc)), .d (.sl (a1.map PortLine.enc))] (fun y => y = E_Bool r) := by
  refine Go.VC.Spec.of_xc (args := [.d (.sl (a0.map PortLine.enc)), .d (.sl (a1.map PortLine.enc))]) (fn := Tryz.f24) tab ⟨[(0, [0, 1]), (1, [4])], [], [], []⟩ 10 [.tmp 4] rfl rfl rfl rfl rfl rfl ?_
  conv => whnf
  refine ccS (E := E_ListRef18Row) h (law18_As_w a0) rfl rfl (fun x1 h => ?_)
  conv => whnf
  refine ccS (E := E_ListRef18Row) h (law18_As_w a1) rfl rfl (fun x2 h => ?_)
  conv => whnf
  refine caS (E := E_Bool) h (law18_Same_w x1 x2) rfl (fun _ => rfl) (fun x3 h => ?_)
  conv => whnf
  exact rt (E := E_Bool) h rfl

end Go.Proofs.YtldlcdnhdedoeaaGreat
namespace Go.Proofs.YtldlcdnhdedoeaaGreat
open Go Go.VC
noncomputable def law21_Same (a0 : KernelState) (a1 : KernelState) : Option Bool :=
  jn (fun (w1 : Bool) => fk w1 (some false) (lp (fun nx3 (v3 : Int) => fk (decide (v3 < (a0.Parts.length : Int))) (jn (fun (w4 : Bool) => fk w4 (some false) (nx3 (wr (v3 + (1 : Int))))) (fun k4 => ix a0.Faces v3 fun x5 => ix a1.Faces v3 fun x6 => fk (!(eqI [.i .i64 x5.P, .i .i64 x5.B] [.i .i64 x6.P, .i .i64 x6.B])) (k4 true) (ix a0.Parts v3 fun x7 => bnd (law17_As x7) fun x8 => ix a1.Parts v3 fun x9 => bnd (law17_As x9) fun x10 => bnd (ref17_Same ⟨x8.Tasks, x8.Leaves, x8.Lasts, x8.Jobs, x8.Log⟩ ⟨x10.Tasks, x10.Leaves, x10.Lasts, x10.Jobs, x10.Log⟩) fun x11 => k4 (!x11)))) (bnd (law21_lines a0.Lines a1.Lines) fun x12 => some x12)) FU (0 : Int))) (fun k1 => fk (!decide ((a0.Parts.length : Int) = (a1.Parts.length : Int))) (k1 true) (fk (!decide ((a0.Faces.length : Int) = (a1.Faces.length : Int))) (k1 true) (fk (!decide (a0.Now = a1.Now)) (k1 true) (bnd (law13_Same a0.Table a1.Table) fun x2 => k1 (!x2)))))
theorem law21_Same_w (a0 : KernelState) (a1 : KernelState) (r : Bool) (h : law21_Same a0 a1 = some r) : Go.VC.Spec Tryz.prog 16 [.agg (KernelState.enc a0), .agg (KernelState.enc a1)] (fun y => y = E_Bool r) := by
  refine Go.VC.Spec.of_xc (args := [.agg (KernelState.enc a0), .agg (KernelState.enc a1)]) (fn := Tryz.f16) tab ⟨[(0, [2, 3]), (1, [2, 3, 36]), (2, [4]), (3, [2, 3, 5]), (4, [2, 3, 5, 41]), (5, [2, 3, 5]), (6, [2, 3, 5, 70]), (7, [4]), (8, [4])], [], [100036, 100070], []⟩ 76 [.tmp 4] rfl rfl rfl rfl rfl rfl ?_
  conv => whnf
  refine jnS (fun w1 => ⟨[(2, .l (.ptr 3 0)), (3, .l (.ptr 4 0)), (36, .l (.d (.bool w1)))], 76, [], [(3, [.d (.int .i64 a0.Table.Frame), .d (.sl (a0.Table.Windows.map Window.enc)), .d (.sl (a0.Faces.map Face.enc)), .d (.sl (a0.Parts.map PartState.enc)), .d (.sl (a0.Lines.map PortLine.enc)), .d (.int .i64 a0.Now)]), (4, [.d (.int .i64 a1.Table.Frame), .d (.sl (a1.Table.Windows.map Window.enc)), .d (.sl (a1.Faces.map Face.enc)), .d (.sl (a1.Parts.map PartState.enc)), .d (.sl (a1.Lines.map PortLine.enc)), .d (.int .i64 a1.Now)])], []⟩) h (fun k1 hk1 h => ?_) (fun w1 h => ?_)
  · conv => whnf
    refine lenS a0.Parts PartState.enc rfl ?_
    conv => whnf
    refine lenS a1.Parts PartState.enc rfl ?_
    conv => whnf
    refine fkS h (fun h => ?_) (fun h => ?_)
    · conv => whnf
      exact jeS hk1 h (Weak.refl _)
    conv => whnf
    refine lenS a0.Faces Face.enc rfl ?_
    conv => whnf
    refine lenS a1.Faces Face.enc rfl ?_
    conv => whnf
    refine fkS h (fun h => ?_) (fun h => ?_)
    · conv => whnf
      exact jeS hk1 h (Weak.refl _)
    conv => whnf
    refine fkS h (fun h => ?_) (fun h => ?_)
    · conv => whnf
      exact jeS hk1 h (Weak.refl _)
    conv => whnf
    refine caS (E := E_Bool) h (law13_Same_w a0.Table a1.Table) rfl (fun _ => rfl) (fun x2 h => ?_)
    conv => whnf
    exact jeS hk1 h (Weak.refl _)
  conv => whnf
  refine fkS h (fun h => ?_) (fun h => ?_)
  · conv => whnf
    exact rt (E := E_Bool) h rfl
  conv => whnf
  refine lpS (fun v3 => ⟨[(2, .l (.ptr 3 0)), (3, .l (.ptr 4 0)), (5, .l (.d (.int .i64 v3)))], 76, [], [(3, [.d (.int .i64 a0.Table.Frame), .d (.sl (a0.Table.Windows.map Window.enc)), .d (.sl (a0.Faces.map Face.enc)), .d (.sl (a0.Parts.map PartState.enc)), .d (.sl (a0.Lines.map PortLine.enc)), .d (.int .i64 a0.Now)]), (4, [.d (.int .i64 a1.Table.Frame), .d (.sl (a1.Table.Windows.map Window.enc)), .d (.sl (a1.Faces.map Face.enc)), .d (.sl (a1.Parts.map PartState.enc)), .d (.sl (a1.Lines.map PortLine.enc)), .d (.int .i64 a1.Now)])], []⟩) h (Weak.refl _) (fun _ nx3 hn3 v3 h => ?_)
  conv => whnf
  refine lenS a0.Parts PartState.enc rfl ?_
  conv => whnf
  refine fkS h (fun h => ?_) (fun h => ?_)
  · conv => whnf
    refine jnS (fun w4 => ⟨[(2, .l (.ptr 3 0)), (3, .l (.ptr 4 0)), (5, .l (.d (.int .i64 v3))), (70, .l (.d (.bool w4)))], 76, [], [(3, [.d (.int .i64 a0.Table.Frame), .d (.sl (a0.Table.Windows.map Window.enc)), .d (.sl (a0.Faces.map Face.enc)), .d (.sl (a0.Parts.map PartState.enc)), .d (.sl (a0.Lines.map PortLine.enc)), .d (.int .i64 a0.Now)]), (4, [.d (.int .i64 a1.Table.Frame), .d (.sl (a1.Table.Windows.map Window.enc)), .d (.sl (a1.Faces.map Face.enc)), .d (.sl (a1.Parts.map PartState.enc)), .d (.sl (a1.Lines.map PortLine.enc)), .d (.int .i64 a1.Now)])], []⟩) h (fun k4 hk4 h => ?_) (fun w4 h => ?_)
    · conv => whnf
      refine ⟨27, ?_⟩
      conv => whnf
      refine ixS (enc := Face.enc) h rfl (fun _ => rfl) (fun x5 h => ?_)
      conv => whnf
      refine ixS (enc := Face.enc) h rfl (fun _ => rfl) (fun x6 h => ?_)
      conv => whnf
      refine fkS h (fun h => ?_) (fun h => ?_)
      · conv => whnf
        refine drS (by kernel_rfl) ?_
        conv => whnf
        exact jeS hk4 h (Weak.refl _)
      conv => whnf
      refine ixS (enc := PartState.enc) h rfl (fun _ => rfl) (fun x7 h => ?_)
      conv => whnf
      refine dcS (E := E_Ref17State) h (law17_As_w x7) rfl (fun x8 h => ?_)
      conv => whnf
      refine ixS (enc := PartState.enc) h rfl (fun _ => rfl) (fun x9 h => ?_)
      conv => whnf
      refine dcS (E := E_Ref17State) h (law17_As_w x9) rfl (fun x10 h => ?_)
      conv => whnf
      refine daS (E := E_Bool) h (ref17_Same_w ⟨x8.Tasks, x8.Leaves, x8.Lasts, x8.Jobs, x8.Log⟩ ⟨x10.Tasks, x10.Leaves, x10.Lasts, x10.Jobs, x10.Log⟩) (fun _ => rfl) (fun x11 h => ?_)
      conv => whnf
      refine drS (by kernel_rfl) ?_
      conv => whnf
      exact jeS hk4 h (Weak.refl _)
    conv => whnf
    refine fkS h (fun h => ?_) (fun h => ?_)
    · conv => whnf
      exact rt (E := E_Bool) h rfl
    conv => whnf
    exact leS hn3 h (Weak.refl _)
  conv => whnf
  refine caS (E := E_Bool) h (law21_lines_w a0.Lines a1.Lines) rfl (fun _ => rfl) (fun x12 h => ?_)
  conv => whnf
  exact rt (E := E_Bool) h rfl

end Go.Proofs.YtldlcdnhdedoeaaGreat
namespace Go.Proofs.YtldlcdnhdedoeaaGreat
open Go Go.VC
noncomputable def law21_Few (a0 : List Law21Step) : Option Bool :=
  lp (fun nx1 (v1 : Int) => fk (decide (v1 < (a0.length : Int))) (ix a0 v1 fun x2 => fk (decide ((x2.Cmds.length : Int) > (10 : Int))) (some false) (lp (fun nx3 (v3 : Int) => ix a0 v1 fun x4 => fk (decide (v3 < (x4.Cmds.length : Int))) (ix a0 v1 fun x5 => ix x5.Cmds v3 fun x6 => fk (decide ((x6.T.Secs.length : Int) > (20 : Int))) (some false) (nx3 (wr (v3 + (1 : Int))))) (nx1 (wr (v1 + (1 : Int))))) FU (0 : Int))) (some (decide ((a0.length : Int) ≤ (100 : Int))))) FU (0 : Int)
theorem law21_Few_w (a0 : List Law21Step) (r : Bool) (h : law21_Few a0 = some r) : Go.VC.Spec Tryz.prog 25 [.d (.sl (a0.map Law21Step.enc))] (fun y => y = E_Bool r) := by
  refine Go.VC.Spec.of_xc (args := [.d (.sl (a0.map Law21Step.enc))]) (fn := Tryz.f25) tab ⟨[(0, [0]), (1, [0, 3]), (2, [0, 3, 8]), (3, [0, 3]), (4, [0, 3, 17]), (5, [2]), (6, [0, 3, 4]), (7, [0, 3, 4, 25]), (8, [0, 3, 4]), (9, [0, 3, 4, 39]), (10, [2]), (11, [2])], [], [], []⟩ 43 [.tmp 2] rfl rfl rfl rfl rfl rfl ?_
  conv => whnf
  refine lpS (fun v1 => ⟨[(0, .l (.d (.sl (a0.map Law21Step.enc)))), (3, .l (.d (.int .i64 v1)))], 43, [], [], []⟩) h (Weak.refl _) (fun _ nx1 hn1 v1 h => ?_)
  conv => whnf
  refine lenS a0 Law21Step.enc rfl ?_
  conv => whnf
  refine fkS h (fun h => ?_) (fun h => ?_)
  · conv => whnf
    refine ixS (enc := Law21Step.enc) h rfl (fun _ => rfl) (fun x2 h => ?_)
    conv => whnf
    refine lenS x2.Cmds KernelCmd.enc rfl ?_
    conv => whnf
    refine fkS h (fun h => ?_) (fun h => ?_)
    · conv => whnf
      exact rt (E := E_Bool) h rfl
    conv => whnf
    refine lpS (fun v3 => ⟨[(0, .l (.d (.sl (a0.map Law21Step.enc)))), (3, .l (.d (.int .i64 v1))), (4, .l (.d (.int .i64 v3)))], 43, [], [], []⟩) h (Weak.refl _) (fun _ nx3 hn3 v3 h => ?_)
    conv => whnf
    refine ixS (enc := Law21Step.enc) h rfl (fun _ => rfl) (fun x4 h => ?_)
    conv => whnf
    refine lenS x4.Cmds KernelCmd.enc rfl ?_
    conv => whnf
    refine fkS h (fun h => ?_) (fun h => ?_)
    · conv => whnf
      refine ixS (enc := Law21Step.enc) h rfl (fun _ => rfl) (fun x5 h => ?_)
      conv => whnf
      refine ixS (enc := KernelCmd.enc) h rfl (fun _ => rfl) (fun x6 h => ?_)
      conv => whnf
      refine lenS x6.T.Secs Sec.enc rfl ?_
      conv => whnf
      refine fkS h (fun h => ?_) (fun h => ?_)
      · conv => whnf
        exact rt (E := E_Bool) h rfl
      conv => whnf
      exact leS hn3 h (Weak.refl _)
    conv => whnf
    exact leS hn1 h (Weak.refl _)
  conv => whnf
  refine lenS a0 Law21Step.enc rfl ?_
  conv => whnf
  exact rt (E := E_Bool) h rfl

end Go.Proofs.YtldlcdnhdedoeaaGreat
namespace Go.Proofs.YtldlcdnhdedoeaaGreat
open Go Go.VC
noncomputable def law21_Play (a0 : KernelState) (a1 : List Law21Step) : Option KernelState :=
  lp (fun nx1 (v1 : Int × (List Window) × (List Face) × (List PartState) × (List PortLine) × Int × Int) => fk (decide (v1.2.2.2.2.2.2 < (a1.length : Int))) (lp (fun nx2 (v2 : Int × (List Window) × (List Face) × (List PartState) × (List PortLine) × Int × Int) => ix a1 v1.2.2.2.2.2.2 fun x3 => fk (decide (v2.2.2.2.2.2.2 < (x3.Cmds.length : Int))) (ix a1 v1.2.2.2.2.2.2 fun x4 => ix x4.Cmds v2.2.2.2.2.2.2 fun x5 => bnd (kernel_Do (⟨⟨v2.1, v2.2.1⟩, v2.2.2.1, v2.2.2.2.1, v2.2.2.2.2.1, v2.2.2.2.2.2.1⟩) x5) fun x6 => nx2 (x6.1.Table.Frame, x6.1.Table.Windows, x6.1.Faces, x6.1.Parts, x6.1.Lines, x6.1.Now, (wr (v2.2.2.2.2.2.2 + (1 : Int))))) (bnd (kernel_Tick (⟨⟨v2.1, v2.2.1⟩, v2.2.2.1, v2.2.2.2.1, v2.2.2.2.2.1, v2.2.2.2.2.2.1⟩)) fun x7 => nx1 (x7.1.Table.Frame, x7.1.Table.Windows, x7.1.Faces, x7.1.Parts, x7.1.Lines, x7.1.Now, (wr (v1.2.2.2.2.2.2 + (1 : Int)))))) FU (v1.1, v1.2.1, v1.2.2.1, v1.2.2.2.1, v1.2.2.2.2.1, v1.2.2.2.2.2.1, (0 : Int))) (some (⟨⟨v1.1, v1.2.1⟩, v1.2.2.1, v1.2.2.2.1, v1.2.2.2.2.1, v1.2.2.2.2.2.1⟩))) FU (a0.Table.Frame, a0.Table.Windows, a0.Faces, a0.Parts, a0.Lines, a0.Now, (0 : Int))
theorem law21_Play_w (a0 : KernelState) (a1 : List Law21Step) (r : KernelState) (h : law21_Play a0 a1 = some r) : Go.VC.Spec Tryz.prog 26 [.agg (KernelState.enc a0), .d (.sl (a1.map Law21Step.enc))] (fun y => y = E_KernelState r) := by
  refine Go.VC.Spec.of_xc (args := [.agg (KernelState.enc a0), .d (.sl (a1.map Law21Step.enc))]) (fn := Tryz.f26) tab ⟨[(0, [1, 2, 4]), (1, [1, 2, 4, 5]), (2, [1, 2, 4, 5, 16]), (3, [1, 2, 4, 5]), (4, [1, 2, 4, 5, 6]), (5, [1, 2, 4, 5, 6, 26]), (6, [1, 2, 4, 5, 6]), (7, [1, 2, 4, 5, 6, 7]), (8, [1, 2, 4, 5, 6]), (9, [1, 2, 4, 5, 10]), (10, [1, 2, 4, 5]), (11, [4])], [], [], []⟩ 52 [.cell 4 35] rfl rfl rfl rfl rfl rfl ?_
  conv => whnf
  refine lpS (fun v1 => ⟨[(1, .l (.d (.sl (a1.map Law21Step.enc)))), (2, .l (.ptr 3 0)), (4, .l (.ptr 5 0)), (5, .l (.d (.int .i64 v1.2.2.2.2.2.2)))], 52, [], [(3, [.d (.int .i64 v1.1), .d (.sl (v1.2.1.map Window.enc)), .d (.sl (v1.2.2.1.map Face.enc)), .d (.sl (v1.2.2.2.1.map PartState.enc)), .d (.sl (v1.2.2.2.2.1.map PortLine.enc)), .d (.int .i64 v1.2.2.2.2.2.1)]), (5, [.d (.int .i64 (0 : Int)), .nil, .nil, .nil, .nil, .d (.int .i64 (0 : Int))])], []⟩) h (Weak.refl _) (fun _ nx1 hn1 v1 h => ?_)
  conv => whnf
  refine lenS a1 Law21Step.enc rfl ?_
  conv => whnf
  refine fkS h (fun h => ?_) (fun h => ?_)
  · conv => whnf
    refine lpS (fun v2 => ⟨[(1, .l (.d (.sl (a1.map Law21Step.enc)))), (2, .l (.ptr 3 0)), (4, .l (.ptr 5 0)), (5, .l (.d (.int .i64 v1.2.2.2.2.2.2))), (6, .l (.d (.int .i64 v2.2.2.2.2.2.2)))], 52, [], [(3, [.d (.int .i64 v2.1), .d (.sl (v2.2.1.map Window.enc)), .d (.sl (v2.2.2.1.map Face.enc)), .d (.sl (v2.2.2.2.1.map PartState.enc)), .d (.sl (v2.2.2.2.2.1.map PortLine.enc)), .d (.int .i64 v2.2.2.2.2.2.1)]), (5, [.d (.int .i64 (0 : Int)), .nil, .nil, .nil, .nil, .d (.int .i64 (0 : Int))])], []⟩) h (Weak.refl _) (fun _ nx2 hn2 v2 h => ?_)
    conv => whnf
    refine ixS (enc := Law21Step.enc) h rfl (fun _ => rfl) (fun x3 h => ?_)
    conv => whnf
    refine lenS x3.Cmds KernelCmd.enc rfl ?_
    conv => whnf
    refine fkS h (fun h => ?_) (fun h => ?_)
    · conv => whnf
      refine ⟨17, ?_⟩
      conv => whnf
      refine ixS (enc := Law21Step.enc) h rfl (fun _ => rfl) (fun x4 h => ?_)
      conv => whnf
      refine ixS (enc := KernelCmd.enc) h rfl (fun _ => rfl) (fun x5 h => ?_)
      conv => whnf
      refine dcS (E := E_KernelState_Int_Int) h (kernel_Do_w (⟨⟨v2.1, v2.2.1⟩, v2.2.2.1, v2.2.2.2.1, v2.2.2.2.2.1, v2.2.2.2.2.2.1⟩) x5) rfl (fun x6 h => ?_)
      conv => whnf
      refine drS (by kernel_rfl) ?_
      conv => whnf
      exact leS hn2 h (Weak.refl _)
    conv => whnf
    refine ccS (E := E_KernelState_ListInt_Int) h (kernel_Tick_w (⟨⟨v2.1, v2.2.1⟩, v2.2.2.1, v2.2.2.2.1, v2.2.2.2.2.1, v2.2.2.2.2.2.1⟩)) rfl rfl (fun x7 h => ?_)
    conv => whnf
    exact leS hn1 h (Weak.refl _)
  conv => whnf
  exact rt (E := E_KernelState) h rfl

end Go.Proofs.YtldlcdnhdedoeaaGreat
namespace Go.Proofs.YtldlcdnhdedoeaaGreat
open Go Go.VC
/-! What is kept of a system. -/
structure kP (s : KernelState) : Prop where
  tab : tabP s.Table
  parts : ∀ p ∈ s.Parts, okS p
  len : s.Parts.length ≤ 4
  faces : s.Faces.length = s.Parts.length
  lines : linesP s.Lines
  now0 : 0 ≤ s.Now
  now1 : s.Now ≤ 100000
theorem booted.kP {c : Config} {s : KernelState} {ticks : List Int} (h : booted c s ticks) : kP s := by
  refine ⟨h.tab, fun p hp => ?_, ?_, ?_, ?_, by rw [h.now]; omega, by rw [h.now]; omega⟩
  · rw [h.parts] at hp
    obtain ⟨q, hq, rfl⟩ := List.mem_map.1 hp
    exact okS_new (h.conf.ps q hq).2
  · rw [h.parts, List.length_map]; exact h.conf.pl
  · rw [h.faces, h.parts, List.length_map, List.length_map]
  · rw [h.lines]; exact linesP_new h.conf.qs h.conf.ql
theorem kernel_Right_t {s : KernelState} (h : kP s) : kernel_Right s = some true := by
  have h4 := h.len
  have n0 := h.now0
  have n1 := h.now1
  unfold kernel_Right
  refine lp_up s.Parts.length (by unfold FU; omega) (fun _ => True) trivial ?_
  intro nx k hk _ hnx
  rw [lt_nat]
  by_cases hk' : k < s.Parts.length
  · have ho := h.parts _ (List.getElem_mem hk')
    rw [decide_eq_true hk', fk_t, ix_lt hk', bnd_eq (part_Right_eq _ (StB.of_st ho.1)), decide_eq_true ho.1, Bool.not_true, fk_f, wr_succ k _ hk' (by omega)]
    exact hnx hk' trivial
  · rw [decide_eq_false hk', fk_f, bnd_eq (table_Right_t h.tab), fk_t, decide_eq_true (by rw [h.faces]), fk_t, decide_eq_true (by omega), fk_t, bnd_eq (port_Right_t h.lines), fk_t, decide_eq_true (by omega), fk_t, decide_eq_true (by omega)]
/-! Alike. -/
theorem eqI_refl (l : List SC) : eqI l l = true := decide_eq_true rfl
theorem sameList_refl (l : List Int) (h : l.length ≤ 1000000) : ref03_SameList l l = some true := by
  unfold ref03_SameList
  rw [decide_eq_true rfl, Bool.not_true, fk_f]
  refine lp_up l.length (by unfold FU; omega) (fun _ => True) trivial ?_
  intro nx k hk _ hnx
  rw [lt_nat]
  by_cases hk' : k < l.length
  · rw [decide_eq_true hk', fk_t, ix_lt hk', ix_lt hk', decide_eq_true rfl, Bool.not_true, fk_f, wr_succ k _ hk' (by omega)]
    exact hnx hk' trivial
  · rw [decide_eq_false hk', fk_f]
def rowL (x : PortLine) : Ref18Row := ⟨x.Port, cont x.Under, cont x.Got⟩
theorem law18_As_eq (l : List PortLine) (h : linesP l) : law18_As l = some (l.map rowL) := by
  have h4 := h.2
  unfold law18_As
  refine lp_upS l.length (by unfold FU; omega) (fun k s => s = (l.take k).map rowL) [] rfl ?_
  rintro nx k s hk rfl hnx
  dsimp only
  rw [lt_nat]
  by_cases hk' : k < l.length
  · obtain ⟨_, h2, h3, _, _⟩ := h.1 _ (List.getElem_mem hk')
    rw [decide_eq_true hk', fk_t, ix_lt hk', ix_lt hk', bnd_eq (ring_List_eq _ h2), ix_lt hk', bnd_eq (ring_List_eq _ h3), ck_t (by simp; omega), wr_succ k _ hk' (by omega)]
    refine hnx _ hk' ?_
    rw [← List.take_append_getElem hk', List.map_append]; rfl
  · rw [decide_eq_false hk', fk_f, List.take_of_length_le (by omega)]
theorem lines_refl (l : List PortLine) (h : linesP l) : law21_lines l l = some true := by
  have h4 := h.2
  unfold law21_lines
  rw [bnd_eq (law18_As_eq l h), bnd_eq (law18_As_eq l h)]
  have : law18_Same (l.map rowL) (l.map rowL) = some true := by
    unfold law18_Same
    rw [decide_eq_true rfl, Bool.not_true, fk_f]
    refine lp_up (l.map rowL).length (by rw [List.length_map]; unfold FU; omega) (fun _ => True) trivial ?_
    intro nx k hk _ hnx
    rw [lt_nat]
    by_cases hk' : k < (l.map rowL).length
    · have hk2 : k < l.length := by rwa [List.length_map] at hk'
      obtain ⟨_, h2, h3, _, _⟩ := h.1 _ (List.getElem_mem hk2)
      have e : (l.map rowL)[k] = rowL l[k] := List.getElem_map _
      have l1 := (cont_len h2).2
      have l2 := (cont_len h3).2
      rw [decide_eq_true hk', fk_t, wr_succ k _ hk' (by rw [List.length_map]; omega)]
      refine jn_to false (fun k2 => ?_) (by rw [fk_f]; exact hnx hk' trivial)
      rw [ix_lt hk', ix_lt hk', eqI_refl, Bool.not_true, fk_f, ix_lt hk', ix_lt hk', e, bnd_eq (sameList_refl _ (by show (cont l[k].Under).length ≤ _; omega)), Bool.not_true, fk_f, ix_lt hk', ix_lt hk', e, bnd_eq (sameList_refl _ (by show (cont l[k].Got).length ≤ _; omega))]
      rfl
    · rw [decide_eq_false hk', fk_f]
  rw [bnd_eq this]
theorem table_refl (t : TableTable) (h : t.Windows.length ≤ 1000) : law13_Same t t = some true := by
  unfold law13_Same
  refine jn_to false (fun k => by rw [decide_eq_true rfl, Bool.not_true, fk_f, decide_eq_true rfl]; rfl) ?_
  rw [fk_f]
  refine lp_up t.Windows.length (by unfold FU; omega) (fun _ => True) trivial ?_
  intro nx k hk _ hnx
  rw [lt_nat]
  by_cases hk' : k < t.Windows.length
  · rw [decide_eq_true hk', fk_t, ix_lt hk', ix_lt hk', eqI_refl, Bool.not_true, fk_f, wr_succ k _ hk' (by omega)]
    exact hnx hk' trivial
  · rw [decide_eq_false hk', fk_f]
theorem same_refl {s : KernelState} (hw : s.Table.Windows.length ≤ 1000) (hp : ∀ p ∈ s.Parts, okS p) (h4 : s.Parts.length ≤ 1000) (hf : s.Faces.length = s.Parts.length) (hl : linesP s.Lines) : law21_Same s s = some true := by
  unfold law21_Same
  refine jn_to false (fun k => ?_) ?_
  · rw [decide_eq_true rfl, Bool.not_true, fk_f, decide_eq_true rfl, Bool.not_true, fk_f, decide_eq_true rfl, Bool.not_true, fk_f, bnd_eq (table_refl _ hw)]; rfl
  rw [fk_f]
  refine lp_up s.Parts.length (by unfold FU; omega) (fun _ => True) trivial ?_
  intro nx k hk _ hnx
  rw [lt_nat]
  by_cases hk' : k < s.Parts.length
  · have ho := hp _ (List.getElem_mem hk')
    have hs := ref17_Same_eq _ (SameB.of_st (StB.of_st ho.1) ho.1)
    rw [decide_eq_true hk', fk_t, wr_succ k _ hk' (by omega)]
    refine jn_to false (fun k4 => ?_) (by rw [fk_f]; exact hnx hk' trivial)
    rw [ix_lt (show k < s.Faces.length by omega), ix_lt (show k < s.Faces.length by omega), eqI_refl, Bool.not_true, fk_f, ix_lt hk', bnd_eq (law17_As_eq _), ix_lt hk', bnd_eq (law17_As_eq _)]
    show bnd (ref17_Same (toR s.Parts[k]) (toR s.Parts[k])) _ = _
    rw [bnd_eq hs]; rfl
  · rw [decide_eq_false hk', fk_f, bnd_eq (lines_refl _ hl)]
theorem kP.same {s : KernelState} (h : kP s) : law21_Same s s = some true := same_refl (by have := h.tab.l; omega) h.parts (by have := h.len; omega) h.faces h.lines
/-! What is asked. -/
theorem okS.len {s : PartState} (h : okS s) : s.Tasks.length ≤ 1000 ∧ s.Jobs.length ≤ 4611686018427387904 := by
  have h8 := AllP_len h.1.2.1.1
  have hj := h.1.2.2.1.2.1
  omega
theorem okS_plus {s : PartState} {f : Face} {x : Task} (h : okS s) (h0 : addE s f x = 0) : okS (plus s x) := by
  obtain ⟨a1, a2, a3, _⟩ := addE_zero h0
  have := okS_add (x := x) h
  unfold addV at this
  rwa [if_pos ⟨a1, a2⟩, if_pos a3] at this
noncomputable def admV (s : PartState) (f : Face) (x : Task) : PartState × Int := if addE s f x = 0 then (plus s x, 0) else (s, addE s f x)
theorem admit_Add_V {s : PartState} {f : Face} {x : Task} (h : okS s) : admit_Add s f x = some (admV s f x) := admit_Add_eq s f x (StB.of_st h.1) h.len.1 h.len.2
theorem okS_adm {s : PartState} {f : Face} {x : Task} (h : okS s) : okS (admV s f x).1 := by
  unfold admV
  split
  · exact okS_plus h (by assumption)
  · exact h
theorem admit_Drop_V {s : PartState} {i : Int} (h : okS s) : admit_Drop s i = some (leaveV s i) := by
  unfold admit_Drop
  rw [bnd_eq (part_Leave_eq s i (StB.of_st h.1))]
noncomputable def chgV (s : PartState) (f : Face) (i : Int) (x : Task) : PartState × Int := if (leaveV s i).2 = 0 then (if addE (leaveV s i).1 f x = 0 then (plus (leaveV s i).1 x, 0) else (s, addE (leaveV s i).1 f x)) else (s, (leaveV s i).2)
theorem admit_Change_V {s : PartState} {f : Face} {i : Int} {x : Task} (h : okS s) : admit_Change s f i x = some (chgV s f i x) := by
  unfold admit_Change chgV
  rw [bnd_eq (admit_Drop_V h)]
  by_cases c : (leaveV s i).2 = 0
  rotate_left
  · rw [decide_eq_false c, Bool.not_false, fk_t, if_neg c]
  rw [decide_eq_true c, Bool.not_true, fk_f, if_pos c, bnd_eq (admit_Add_V (okS_leave h))]
  unfold admV
  by_cases d : addE (leaveV s i).1 f x = 0
  · rw [if_pos d, if_pos d, decide_eq_true rfl, Bool.not_true, fk_f]
  · rw [if_neg d, if_neg d, decide_eq_false d, Bool.not_false, fk_t]
theorem okS_chg {s : PartState} {f : Face} {i : Int} {x : Task} (h : okS s) : okS (chgV s f i x).1 := by
  unfold chgV
  split
  · split
    · exact okS_plus (okS_leave h) (by assumption)
    · exact h
  · exact h
def withK (s : KernelState) (i : Int) (p : PartState) : KernelState := ⟨s.Table, s.Faces, s.Parts.set i.toNat p, s.Lines, s.Now⟩
theorem with_eq {s : KernelState} {i : Int} {p : PartState} (h : kP s) (h0 : 0 ≤ i) (h1 : i < (s.Parts.length : Int)) : kernel_State_with s i p = some (withK s i p) := by
  have h4 := h.len
  unfold kernel_State_with
  rw [ck_t (by simp; omega), List.nil_append, ck_t (by simp; omega), ox_lt (by omega)]; rfl
theorem kP.with {s : KernelState} {i : Int} {p : PartState} (h : kP s) (hp : okS p) : kP (withK s i p) :=
  ⟨h.tab, fun q hq => by
    rcases List.mem_or_eq_of_mem_set (show q ∈ s.Parts.set i.toNat p from hq) with h' | rfl
    · exact h.parts q h'
    · exact hp, by show (s.Parts.set _ _).length ≤ 4; rw [List.length_set]; exact h.len, by show _ = (s.Parts.set _ _).length; rw [List.length_set]; exact h.faces, h.lines, h.now0, h.now1⟩
/-- What comes of an ask of a partition that is there. -/
noncomputable def doP (p : PartState) (f : Face) (c : KernelCmd) (now : Int) : PartState × Int :=
  if c.Kind = 1 then relV p c.I c.V now else if c.Kind = 4 then admV p f c.T else if c.Kind = 5 then leaveV p c.I else chgV p f c.I c.T
theorem okS_doP {p : PartState} {f : Face} {c : KernelCmd} {now : Int} (h : okS p) : okS (doP p f c now).1 := by
  unfold doP
  split
  · exact stP_rel h.1 h.2
  · split
    · exact okS_adm h
    · split
      · exact okS_leave h
      · exact okS_chg h
noncomputable def doK (s : KernelState) (c : KernelCmd) : KernelState × Int × Int :=
  if h : 0 ≤ c.Part ∧ c.Part < (s.Parts.length : Int) ∧ s.Faces.length = s.Parts.length then
    (if c.Kind = 2 then (⟨s.Table, s.Faces, s.Parts, (sendV s.Lines c.Part c.I c.V).1, s.Now⟩, 0, (sendV s.Lines c.Part c.I c.V).2)
     else if c.Kind = 3 then (⟨s.Table, s.Faces, s.Parts, (readV s.Lines c.Part c.I).2.1, s.Now⟩, (readV s.Lines c.Part c.I).1, (readV s.Lines c.Part c.I).2.2)
     else if c.Kind = 1 ∨ c.Kind = 4 ∨ c.Kind = 5 ∨ c.Kind = 6 then (withK s c.Part (doP (s.Parts[c.Part.toNat]'(by omega)) (s.Faces[c.Part.toNat]'(by omega)) c s.Now).1, 0, (doP (s.Parts[c.Part.toNat]'(by omega)) (s.Faces[c.Part.toNat]'(by omega)) c s.Now).2)
     else (s, 0, 4))
  else (s, 0, 4)
theorem kernel_Do_eq (s : KernelState) (c : KernelCmd) (h : kP s) : kernel_Do s c = some (doK s c) := by
  have kk : kernel_kinds = some () := rfl
  unfold kernel_Do
  rw [bnd_eq (kernel_Right_t h), Bool.not_true, fk_f, bnd_eq kk]
  by_cases hc : 0 ≤ c.Part ∧ c.Part < (s.Parts.length : Int)
  rotate_left
  · have out : ∀ (X : Option (KernelState × Int × Int)), jn (fun (w3 : Bool) => fk w3 (some (s, (0 : Int), (4 : Int))) X) (fun k3 => fk (decide (c.Part < (0 : Int))) (k3 true) (k3 (decide (c.Part ≥ (s.Parts.length : Int))))) = some (s, 0, 4) := fun X => by
      refine jn_to true (fun k => ?_) (by rw [fk_t])
      by_cases c0 : c.Part < 0
      · rw [decide_eq_true c0, fk_t]
      · rw [decide_eq_false c0, fk_f, decide_eq_true (by omega)]
    have ed : doK s c = (s, 0, 4) := by unfold doK; rw [dif_neg (fun hh => hc ⟨hh.1, hh.2.1⟩)]
    rw [ed]
    have all : ∀ (b : Bool) (x y : Option (KernelState × Int × Int)), x = some (s, 0, 4) → y = some (s, 0, 4) → fk b x y = some (s, 0, 4) := fun b x y hx hy => by cases b; exact hy; exact hx
    refine all _ _ _ (out _) (all _ _ _ (out _) (all _ _ _ (out _) (all _ _ _ (out _) (all _ _ _ (out _) (all _ _ _ (out _) ?_)))))
    first | rfl | (refine jn_to true (fun k => ?_) (by rw [fk_t])
                   by_cases c0 : c.Part < 0
                   · rw [decide_eq_true c0, fk_t]
                   · rw [decide_eq_false c0, fk_f, decide_eq_true (by omega)])
  have inn : ∀ (X : Option (KernelState × Int × Int)), jn (fun (w3 : Bool) => fk w3 (some (s, (0 : Int), (4 : Int))) X) (fun k3 => fk (decide (c.Part < (0 : Int))) (k3 true) (k3 (decide (c.Part ≥ (s.Parts.length : Int))))) = X := fun X => by
    refine jn_to false (fun k => ?_) (by rw [fk_f])
    rw [decide_eq_false (by omega), fk_f, decide_eq_false (by omega)]
  simp only [inn]
  have hf := h.faces
  have hpl : c.Part.toNat < s.Parts.length := by omega
  have hfl : c.Part.toNat < s.Faces.length := by omega
  have hok := h.parts _ (List.getElem_mem hpl)
  have hb := StB.of_st hok.1
  unfold doK
  rw [dif_pos ⟨hc.1, hc.2, hf⟩]
  by_cases c1 : c.Kind = 1
  · rw [decide_eq_true c1, fk_t, if_neg (by omega), if_neg (by omega), if_pos (.inl c1)]
    have e : kernel_on_1 s c = some (withK s c.Part (relV s.Parts[c.Part.toNat] c.I c.V s.Now).1, 0, (relV s.Parts[c.Part.toNat] c.I c.V s.Now).2) := by
      unfold kernel_on_1
      rw [ix_int hc.1 hpl, ix_int hc.1 hfl]
      have : kernel_kinds_1 s.Parts[c.Part.toNat] s.Faces[c.Part.toNat] c s.Now = some (relV s.Parts[c.Part.toNat] c.I c.V s.Now) := by
        unfold kernel_kinds_1
        rw [bnd_eq (part_Release_eq _ _ _ _ hb)]
      rw [bnd_eq this, bnd_eq (with_eq h hc.1 hc.2)]
    rw [bnd_eq e]
    unfold doP
    rw [if_pos c1]
  rw [decide_eq_false c1, fk_f]
  by_cases c4 : c.Kind = 4
  · rw [decide_eq_true c4, fk_t, if_neg (by omega), if_neg (by omega), if_pos (.inr (.inl c4))]
    have e : kernel_on_1_1 s c = some (withK s c.Part (admV s.Parts[c.Part.toNat] s.Faces[c.Part.toNat] c.T).1, 0, (admV s.Parts[c.Part.toNat] s.Faces[c.Part.toNat] c.T).2) := by
      unfold kernel_on_1_1
      rw [ix_int hc.1 hpl, ix_int hc.1 hfl]
      have : kernel_kinds_2 s.Parts[c.Part.toNat] s.Faces[c.Part.toNat] c s.Now = some (admV s.Parts[c.Part.toNat] s.Faces[c.Part.toNat] c.T) := by
        unfold kernel_kinds_2
        rw [bnd_eq (admit_Add_V hok)]
      rw [bnd_eq this, bnd_eq (with_eq h hc.1 hc.2)]
    rw [bnd_eq e]
    unfold doP
    rw [if_neg c1, if_pos c4]
  rw [decide_eq_false c4, fk_f]
  by_cases c5 : c.Kind = 5
  · rw [decide_eq_true c5, fk_t, if_neg (by omega), if_neg (by omega), if_pos (.inr (.inr (.inl c5)))]
    have e : kernel_on_1_2 s c = some (withK s c.Part (leaveV s.Parts[c.Part.toNat] c.I).1, 0, (leaveV s.Parts[c.Part.toNat] c.I).2) := by
      unfold kernel_on_1_2
      rw [ix_int hc.1 hpl, ix_int hc.1 hfl]
      have : kernel_kinds_3 s.Parts[c.Part.toNat] s.Faces[c.Part.toNat] c s.Now = some (leaveV s.Parts[c.Part.toNat] c.I) := by
        unfold kernel_kinds_3
        rw [bnd_eq (admit_Drop_V hok)]
      rw [bnd_eq this, bnd_eq (with_eq h hc.1 hc.2)]
    rw [bnd_eq e]
    unfold doP
    rw [if_neg c1, if_neg c4, if_pos c5]
  rw [decide_eq_false c5, fk_f]
  by_cases c6 : c.Kind = 6
  · rw [decide_eq_true c6, fk_t, if_neg (by omega), if_neg (by omega), if_pos (.inr (.inr (.inr c6)))]
    have e : kernel_on_1_3 s c = some (withK s c.Part (chgV s.Parts[c.Part.toNat] s.Faces[c.Part.toNat] c.I c.T).1, 0, (chgV s.Parts[c.Part.toNat] s.Faces[c.Part.toNat] c.I c.T).2) := by
      unfold kernel_on_1_3
      rw [ix_int hc.1 hpl, ix_int hc.1 hfl]
      have : kernel_kinds_4 s.Parts[c.Part.toNat] s.Faces[c.Part.toNat] c s.Now = some (chgV s.Parts[c.Part.toNat] s.Faces[c.Part.toNat] c.I c.T) := by
        unfold kernel_kinds_4
        rw [bnd_eq (admit_Change_V hok)]
      rw [bnd_eq this, bnd_eq (with_eq h hc.1 hc.2)]
    rw [bnd_eq e]
    unfold doP
    rw [if_neg c1, if_neg c4, if_neg c5]
  rw [decide_eq_false c6, fk_f]
  by_cases c2 : c.Kind = 2
  · rw [decide_eq_true c2, fk_t, if_pos c2]
    have e : kernel_kinds_5 s c = some (⟨s.Table, s.Faces, s.Parts, (sendV s.Lines c.Part c.I c.V).1, s.Now⟩, 0, (sendV s.Lines c.Part c.I c.V).2) := by
      unfold kernel_kinds_5
      rw [bnd_eq (port_Send_eq _ _ _ _ h.lines)]
    rw [bnd_eq e]
  rw [decide_eq_false c2, fk_f, if_neg c2]
  by_cases c3 : c.Kind = 3
  · rw [decide_eq_true c3, fk_t, if_pos c3]
    have e : kernel_kinds_6 s c = some (⟨s.Table, s.Faces, s.Parts, (readV s.Lines c.Part c.I).2.1, s.Now⟩, (readV s.Lines c.Part c.I).1, (readV s.Lines c.Part c.I).2.2) := by
      unfold kernel_kinds_6
      rw [bnd_eq (port_Read_eq _ _ _ h.lines)]
    rw [bnd_eq e]
  rw [decide_eq_false c3, fk_f, if_neg c3, if_neg (by omega)]
  exact jn_to () (fun k => rfl) rfl
theorem kP.do {s : KernelState} (h : kP s) (c : KernelCmd) : kP (doK s c).1 ∧ (doK s c).1.Now = s.Now ∧ (doK s c).1.Table = s.Table ∧ (doK s c).1.Parts.length = s.Parts.length ∧ (doK s c).1.Lines.length = s.Lines.length := by
  unfold doK
  split
  rotate_left
  · exact ⟨h, rfl, rfl, rfl, rfl⟩
  rename_i hc
  split
  · have := sendV_ok (f := c.Part) (i := c.I) (v := c.V) h.lines
    exact ⟨⟨h.tab, h.parts, h.len, h.faces, this.1, h.now0, h.now1⟩, rfl, rfl, rfl, this.2⟩
  · split
    · have := readV_ok (f := c.Part) (i := c.I) h.lines
      exact ⟨⟨h.tab, h.parts, h.len, h.faces, this.1, h.now0, h.now1⟩, rfl, rfl, rfl, this.2⟩
    · split
      · refine ⟨h.with (okS_doP (h.parts _ (List.getElem_mem _))), rfl, rfl, ?_, rfl⟩
        show (s.Parts.set _ _).length = _
        rw [List.length_set]
      · exact ⟨h, rfl, rfl, rfl, rfl⟩
end Go.Proofs.YtldlcdnhdedoeaaGreat
namespace Go.Proofs.YtldlcdnhdedoeaaGreat
open Go Go.VC
/-! A tick of a system. -/
def emptyP : PartState := ⟨[], [], [], [], []⟩
noncomputable def tkP (s : KernelState) (who : Int) (i : Nat) : PartState × Int := tickV ((s.Parts[i]?).getD emptyP) (decide ((i : Int) = who)) s.Now
noncomputable def whoK (s : KernelState) : Int := whoV s.Table.Windows (s.Now.tmod s.Table.Frame)
noncomputable def partsK (s : KernelState) : List PartState := (List.range s.Parts.length).map fun i => (tkP s (whoK s) i).1
noncomputable def ranK (s : KernelState) : List Int := (List.range s.Parts.length).map fun i => (tkP s (whoK s) i).2
theorem tkP_at {s : KernelState} {who : Int} {i : Nat} (h : i < s.Parts.length) : tkP s who i = tickV s.Parts[i] (decide ((i : Int) = who)) s.Now := by
  unfold tkP; rw [List.getElem?_eq_getElem h]; rfl
theorem okS_tkP {s : KernelState} {who : Int} {i : Nat} (h : kP s) (hi : i < s.Parts.length) : okS (tkP s who i).1 := by
  rw [tkP_at hi]; exact okS_tick (h.parts _ (List.getElem_mem hi))
/-- The lines behind a tick. -/
def linesK (s : KernelState) (L : List PortLine) : Prop := linesP L ∧ L.length = s.Lines.length ∧ (if s.Now.tmod s.Table.Frame = 0 then port_Deliver s.Lines = some L ∧ ∀ (i : Nat) (x y : PortLine), s.Lines[i]? = some x → L[i]? = some y → gone x y else L = s.Lines)
theorem linesK_ex {s : KernelState} (h : kP s) : ∃ L, linesK s L := by
  obtain ⟨L, e, a, b, c⟩ := port_Deliver_ex s.Lines h.lines
  by_cases hh : s.Now.tmod s.Table.Frame = 0
  · exact ⟨L, a, b, by rw [if_pos hh]; exact ⟨e, c⟩⟩
  · exact ⟨s.Lines, h.lines, rfl, by rw [if_neg hh]⟩
theorem kernel_Tick_eq {s : KernelState} (h : kP s) {L : List PortLine} (hL : linesK s L) : kernel_Tick s = some (⟨s.Table, s.Faces, partsK s, L, s.Now + 1⟩, ranK s, 0) := by
  have h4 := h.len
  have n0 := h.now0
  have n1 := h.now1
  have f1 := h.tab.f1
  unfold kernel_Tick
  rw [bnd_eq (kernel_Right_t h), Bool.not_true, fk_f]
  refine jn_to L (fun k => ?_) ?_
  · rw [ck_t (decide_eq_true (by omega))]
    obtain ⟨_, _, hl⟩ := hL
    by_cases hh : s.Now.tmod s.Table.Frame = 0
    · rw [if_pos hh] at hl
      rw [decide_eq_true hh, fk_t, bnd_eq hl.1]
    · rw [if_neg hh] at hl
      rw [decide_eq_false hh, fk_f, hl]
  rw [bnd_eq (table_At_eq h.tab n0)]
  refine lp_inv (fun v => s.Parts.length - v.2.2.2.2.2.2.2.toNat) (fun v => ∃ (k : Nat) (U : List PartState), v = (s.Table.Frame, s.Table.Windows, s.Faces, U, L, s.Now, (List.range k).map (fun i => (tkP s (whoK s) i).2), (k : Int)) ∧ k ≤ s.Parts.length ∧ U.length = s.Parts.length ∧ ∀ i, U[i]? = if i < k then (if i < s.Parts.length then some (tkP s (whoK s) i).1 else none) else s.Parts[i]?) ?_ FU _ ⟨0, s.Parts, rfl, Nat.zero_le _, rfl, fun i => by rw [if_neg (by omega)]⟩ (by unfold FU; simp only; omega)
  rintro nx v ⟨k, U, rfl, hk, hU, hUv⟩ hnx
  dsimp only
  rw [lt_nat]
  by_cases c : k < s.Parts.length
  rotate_left
  · have e : k = s.Parts.length := by omega
    subst e
    have eU : U = partsK s := by
      refine List.ext_getElem? fun i => ?_
      rw [hUv i]
      unfold partsK
      rw [List.getElem?_map]
      by_cases ci : i < s.Parts.length
      · rw [if_pos ci, if_pos ci, List.getElem?_range ci]; rfl
      · rw [if_neg ci, List.getElem?_eq_none (by omega), List.getElem?_eq_none (by simp; omega)]; rfl
    rw [decide_eq_false c, fk_f, eU, wr_in _ (by omega)]; rfl
  have ho := h.parts _ (List.getElem_mem c)
  have hb := StB.of_st ho.1
  rw [decide_eq_true c, fk_t, ix_lt c, bnd_eq (part_Tick_eq _ _ _ hb), if_pos ⟨ho.1, by unfold whenP; omega⟩, wr_succ k _ c (by omega)]
  dsimp only
  have ew : kernel_State_with ⟨⟨s.Table.Frame, s.Table.Windows⟩, s.Faces, U, L, s.Now⟩ (k : Int) (tickV s.Parts[k] (decide ((k : Int) = whoK s)) s.Now).1 = some ⟨s.Table, s.Faces, U.set k (tkP s (whoK s) k).1, L, s.Now⟩ := by
    unfold kernel_State_with
    dsimp only
    rw [ck_t (by simp; omega), List.nil_append, ck_t (by simp; omega), Int.toNat_natCast, ox_lt (by omega), tkP_at c]
  rw [show whoV s.Table.Windows (s.Now.tmod s.Table.Frame) = whoK s from rfl, bnd_eq ew, ck_t (by simp; omega)]
  refine hnx _ ⟨k + 1, U.set k (tkP s (whoK s) k).1, ?_, c, by rw [List.length_set]; exact hU, fun i => ?_⟩ (by simp only [Int.toNat_natCast]; omega)
  · rw [List.range_succ, List.map_append, List.map_singleton, tkP_at c]
  · by_cases e : i = k
    · subst e
      rw [List.getElem?_set_self (by omega), if_pos (by omega), if_pos c]
    · rw [List.getElem?_set_ne (fun hh => e hh.symm), hUv i]
      by_cases ci : i < k
      · rw [if_pos ci, if_pos (show i < s.Parts.length by omega), if_pos (show i < k + 1 by omega)]
      · rw [if_neg ci, if_neg (by omega)]
theorem kP.tick {s : KernelState} (h : kP s) {L : List PortLine} (hL : linesK s L) (hn : s.Now ≤ 90000) : kP ⟨s.Table, s.Faces, partsK s, L, s.Now + 1⟩ := by
  have n0 := h.now0
  refine ⟨h.tab, fun p hp => ?_, ?_, ?_, hL.1, by show 0 ≤ s.Now + 1; omega, by show s.Now + 1 ≤ 100000; omega⟩
  · obtain ⟨i, hi, rfl⟩ := List.mem_map.1 hp
    exact okS_tkP h (by simpa using hi)
  · show (partsK s).length ≤ 4
    unfold partsK; rw [List.length_map, List.length_range]; exact h.len
  · show s.Faces.length = (partsK s).length
    unfold partsK; rw [List.length_map, List.length_range]; exact h.faces
/-! Scripts. -/
end Go.Proofs.YtldlcdnhdedoeaaGreat
namespace Go.Proofs.YtldlcdnhdedoeaaGreat
open Go Go.VC
/-! A line, and what goes over it. -/
def lineAt (s : KernelState) (k : Nat) (p : Port) (U G : List Int) : Prop := ∃ x, s.Lines[k]? = some x ∧ x.Port = p ∧ cont x.Under = U ∧ cont x.Got = G
theorem many_of {s : KernelState} (h : kP s) {k : Nat} {x : PortLine} (hx : s.Lines[k]? = some x) : lineP x := h.lines.1 x (List.mem_of_getElem? hx)
theorem send_step {s : KernelState} (h : kP s) {k : Nat} {p : Port} {U G : List Int} {v : Int} {t : Task} (hl : lineAt s k p U G) (h0 : 0 ≤ p.From) (h1 : p.From < (s.Parts.length : Int)) (hU : (U.length : Int) < p.Cap) :
    ∃ s', doK s ⟨p.From, 2, (k : Int), v, t⟩ = (s', 0, 0) ∧ kP s' ∧ s'.Table = s.Table ∧ s'.Now = s.Now ∧ s'.Parts.length = s.Parts.length ∧ lineAt s' k p (U ++ [v]) G := by
  obtain ⟨x, hx, rfl, rfl, rfl⟩ := hl
  obtain ⟨p1, p2, p3, p4, p5⟩ := many_of h hx
  have hk : k < s.Lines.length := (List.getElem?_eq_some_iff.1 hx).1
  have hc := (cont_len p2).1
  have hM := p2.2.2.2.2
  have hne : x.Under.Many ≠ (x.Under.Buf.length : Int) := by omega
  obtain ⟨q1, q2, q3⟩ := pushV_ok (v := v) p2 hne
  have e : doK s ⟨x.Port.From, 2, (k : Int), v, t⟩ = (⟨s.Table, s.Faces, s.Parts, s.Lines.set k ⟨x.Port, pushV x.Under v, x.Got⟩, s.Now⟩, 0, 0) := by
    unfold doK
    rw [dif_pos ⟨h0, h1, h.faces⟩, if_pos rfl]
    have es : sendV s.Lines x.Port.From (k : Int) v = (s.Lines.set k ⟨x.Port, pushV x.Under v, x.Got⟩, 0) := by
      unfold sendV
      rw [if_pos ⟨by omega, by omega⟩, Int.toNat_natCast, hx]
      dsimp only
      rw [if_pos rfl, if_neg hne]
    rw [es]
  have hd := h.do ⟨x.Port.From, 2, (k : Int), v, t⟩
  rw [e] at hd
  refine ⟨_, e, hd.1, rfl, rfl, rfl, ⟨_, List.getElem?_set_self hk, rfl, q3, rfl⟩⟩
theorem read_none {s : KernelState} (h : kP s) {k : Nat} {p : Port} {U : List Int} {t : Task} {w : Int} (hl : lineAt s k p U []) (h0 : 0 ≤ p.To) (h1 : p.To < (s.Parts.length : Int)) : (doK s ⟨p.To, 3, (k : Int), w, t⟩).2.2 = 4 := by
  obtain ⟨x, hx, rfl, rfl, hG⟩ := hl
  obtain ⟨p1, p2, p3, p4, p5⟩ := many_of h hx
  have hc := (cont_len p3).1
  have hM := p3.2.2.2.2
  rw [hG] at hc
  have hc : 0 = x.Got.Many.toNat := hc
  have hk : k < s.Lines.length := (List.getElem?_eq_some_iff.1 hx).1
  unfold doK
  rw [dif_pos ⟨h0, h1, h.faces⟩, if_neg (show ¬ (3 : Int) = 2 by decide), if_pos rfl]
  dsimp only
  have es : readV s.Lines x.Port.To (k : Int) = (0, s.Lines, 4) := by
    unfold readV
    rw [if_pos ⟨by omega, by omega⟩, Int.toNat_natCast, hx]
    dsimp only
    rw [if_pos rfl, if_pos (by omega)]
  rw [es]
theorem read_step {s : KernelState} (h : kP s) {k : Nat} {p : Port} {U G : List Int} {v : Int} {t : Task} {w : Int} (hl : lineAt s k p U (v :: G)) (h0 : 0 ≤ p.To) (h1 : p.To < (s.Parts.length : Int)) :
    ∃ s', doK s ⟨p.To, 3, (k : Int), w, t⟩ = (s', v, 0) ∧ kP s' ∧ s'.Table = s.Table ∧ s'.Now = s.Now ∧ s'.Parts.length = s.Parts.length ∧ lineAt s' k p U G := by
  obtain ⟨x, hx, rfl, rfl, hG⟩ := hl
  obtain ⟨p1, p2, p3, p4, p5⟩ := many_of h hx
  have hc := (cont_len p3).1
  have hM := p3.2.2.2.2
  rw [hG, List.length_cons] at hc
  have hk : k < s.Lines.length := (List.getElem?_eq_some_iff.1 hx).1
  have hne : x.Got.Many ≠ 0 := by omega
  obtain ⟨q1, q2, q3, q4⟩ := popV_ok p3 hne
  rw [hG] at q3
  injection q3 with q5 q6
  have e : doK s ⟨x.Port.To, 3, (k : Int), w, t⟩ = (⟨s.Table, s.Faces, s.Parts, s.Lines.set k ⟨x.Port, x.Under, popV x.Got⟩, s.Now⟩, v, 0) := by
    unfold doK
    rw [dif_pos ⟨h0, h1, h.faces⟩, if_neg (show ¬ (3 : Int) = 2 by decide), if_pos rfl]
    have es : readV s.Lines x.Port.To (k : Int) = (rAt x.Got 0, s.Lines.set k ⟨x.Port, x.Under, popV x.Got⟩, 0) := by
      unfold readV
      rw [if_pos ⟨by omega, by omega⟩, Int.toNat_natCast, hx]
      dsimp only
      rw [if_pos rfl, if_neg hne]
    rw [es, q5]
  have hd := h.do ⟨x.Port.To, 3, (k : Int), w, t⟩
  rw [e] at hd
  exact ⟨_, e, hd.1, rfl, rfl, rfl, ⟨_, List.getElem?_set_self hk, rfl, rfl, q6.symm⟩⟩
theorem tick_step {s : KernelState} (h : kP s) (hn : s.Now ≤ 90000) {k : Nat} {p : Port} {U : List Int} (hl : lineAt s k p U []) :
    ∃ s' ran, kernel_Tick s = some (s', ran, 0) ∧ kP s' ∧ s'.Table = s.Table ∧ s'.Now = s.Now + 1 ∧ s'.Parts.length = s.Parts.length ∧ (if s.Now.tmod s.Table.Frame = 0 then lineAt s' k p [] U else lineAt s' k p U []) := by
  obtain ⟨L, hL⟩ := linesK_ex h
  obtain ⟨x, hx, rfl, rfl, hG⟩ := hl
  refine ⟨_, _, kernel_Tick_eq h hL, h.tick hL hn, rfl, rfl, by show (partsK s).length = _; unfold partsK; simp, ?_⟩
  obtain ⟨l1, l2, l3⟩ := hL
  by_cases c : s.Now.tmod s.Table.Frame = 0
  · rw [if_pos c] at l3 ⊢
    have hk : k < L.length := by rw [l2]; exact (List.getElem?_eq_some_iff.1 hx).1
    have hy : L[k]? = some L[k] := List.getElem?_eq_getElem hk
    obtain ⟨g1, g2, g3⟩ := l3.2 k x _ hx hy
    exact ⟨_, hy, g1, g2, g3 hG⟩
  · rw [if_neg c] at l3 ⊢
    subst l3
    exact ⟨x, hx, rfl, rfl, hG⟩
end Go.Proofs.YtldlcdnhdedoeaaGreat
namespace Go.Proofs.YtldlcdnhdedoeaaGreat
open Go Go.VC
noncomputable def law21_knows  : Option Bool :=
  bnd (kernel_Boot (⟨([⟨⟨(2 : Int), (1 : Int)⟩, ([⟨(1 : Int), (4 : Int), (4 : Int), []⟩] : List Task)⟩, ⟨⟨(2 : Int), (1 : Int)⟩, ([⟨(1 : Int), (4 : Int), (4 : Int), []⟩] : List Task)⟩] : List Part), []⟩)) fun x1 => bnd (kernel_Do x1.1 (⟨(1 : Int), (1 : Int), (0 : Int), (1 : Int), ⟨(0 : Int), (0 : Int), (0 : Int), []⟩⟩)) fun x2 => bnd (kernel_Tick x2.1) fun x3 => bnd (kernel_Tick x3.1) fun x4 => fk (decide (x1.2 = (0 : Int))) (fk (decide (x2.2.2 = (0 : Int))) (fk (decide (x4.2.2 = (0 : Int))) (fk (decide ((x3.2.1.length : Int) = (2 : Int))) (ix x3.2.1 (0 : Int) fun x5 => fk (decide (x5 = (-1 : Int))) (ix x3.2.1 (1 : Int) fun x6 => fk (decide (x6 = (-1 : Int))) (fk (decide ((x4.2.1.length : Int) = (2 : Int))) (ix x4.2.1 (0 : Int) fun x7 => fk (decide (x7 = (-1 : Int))) (ix x4.2.1 (1 : Int) fun x8 => fk (decide (x8 = (0 : Int))) (fk (decide (x4.1.Now = (2 : Int))) (bnd (kernel_Right x4.1) fun x9 => some x9) (some false)) (some false)) (some false)) (some false)) (some false)) (some false)) (some false)) (some false)) (some false)) (some false)
theorem law21_knows_w  (r : Bool) (h : law21_knows = some r) : Go.VC.Spec Tryz.prog 13 [] (fun y => y = E_Bool r) := by
  refine Go.VC.Spec.of_xc (args := []) (fn := Tryz.f13) tab ⟨[(0, []), (1, [1]), (2, [2, 3]), (3, [2, 3, 5]), (4, [2, 3, 5, 6]), (5, [2, 3, 5, 6, 8, 9]), (6, [0])], [], [], [(17, [13])]⟩ 94 [.tmp 0] rfl rfl rfl rfl rfl rfl ?_
  conv => whnf
  refine liS ([⟨(1 : Int), (4 : Int), (4 : Int), []⟩] : List Task) Task.enc rfl rfl ?_
  conv => whnf
  refine liS ([⟨⟨(2 : Int), (1 : Int)⟩, ([⟨(1 : Int), (4 : Int), (4 : Int), []⟩] : List Task)⟩, ⟨⟨(2 : Int), (1 : Int)⟩, ([⟨(1 : Int), (4 : Int), (4 : Int), []⟩] : List Task)⟩] : List Part) Part.enc rfl rfl ?_
  conv => whnf
  refine iceS 18 ?_
  conv => whnf
  refine ccS (E := E_KernelState_Int) h (kernel_Boot_w (⟨([⟨⟨(2 : Int), (1 : Int)⟩, ([⟨(1 : Int), (4 : Int), (4 : Int), []⟩] : List Task)⟩, ⟨⟨(2 : Int), (1 : Int)⟩, ([⟨(1 : Int), (4 : Int), (4 : Int), []⟩] : List Task)⟩] : List Part), []⟩)) rfl rfl (fun x1 h => ?_)
  conv => whnf
  refine ccS (E := E_KernelState_Int_Int) h (kernel_Do_w x1.1 (⟨(1 : Int), (1 : Int), (0 : Int), (1 : Int), ⟨(0 : Int), (0 : Int), (0 : Int), []⟩⟩)) rfl rfl (fun x2 h => ?_)
  conv => whnf
  refine ccS (E := E_KernelState_ListInt_Int) h (kernel_Tick_w x2.1) rfl rfl (fun x3 h => ?_)
  conv => whnf
  refine ccS (E := E_KernelState_ListInt_Int) h (kernel_Tick_w x3.1) rfl rfl (fun x4 h => ?_)
  conv => whnf
  refine fkS h (fun h => ?_) (fun h => ?_)
  · conv => whnf
    refine fkS h (fun h => ?_) (fun h => ?_)
    · conv => whnf
      refine fkS h (fun h => ?_) (fun h => ?_)
      · conv => whnf
        refine lenS x3.2.1 (eI .i64) rfl ?_
        conv => whnf
        refine fkS h (fun h => ?_) (fun h => ?_)
        · conv => whnf
          refine ixS (enc := (eI .i64)) h rfl (fun _ => rfl) (fun x5 h => ?_)
          conv => whnf
          refine fkS h (fun h => ?_) (fun h => ?_)
          · conv => whnf
            refine ixS (enc := (eI .i64)) h rfl (fun _ => rfl) (fun x6 h => ?_)
            conv => whnf
            refine fkS h (fun h => ?_) (fun h => ?_)
            · conv => whnf
              refine lenS x4.2.1 (eI .i64) rfl ?_
              conv => whnf
              refine fkS h (fun h => ?_) (fun h => ?_)
              · conv => whnf
                refine ixS (enc := (eI .i64)) h rfl (fun _ => rfl) (fun x7 h => ?_)
                conv => whnf
                refine fkS h (fun h => ?_) (fun h => ?_)
                · conv => whnf
                  refine ixS (enc := (eI .i64)) h rfl (fun _ => rfl) (fun x8 h => ?_)
                  conv => whnf
                  refine fkS h (fun h => ?_) (fun h => ?_)
                  · conv => whnf
                    refine fkS h (fun h => ?_) (fun h => ?_)
                    · conv => whnf
                      refine caS (E := E_Bool) h (kernel_Right_w x4.1) rfl (fun _ => rfl) (fun x9 h => ?_)
                      conv => whnf
                      exact rt (E := E_Bool) h rfl
                    conv => whnf
                    exact rt (E := E_Bool) h rfl
                  conv => whnf
                  exact rt (E := E_Bool) h rfl
                conv => whnf
                exact rt (E := E_Bool) h rfl
              conv => whnf
              exact rt (E := E_Bool) h rfl
            conv => whnf
            exact rt (E := E_Bool) h rfl
          conv => whnf
          exact rt (E := E_Bool) h rfl
        conv => whnf
        exact rt (E := E_Bool) h rfl
      conv => whnf
      exact rt (E := E_Bool) h rfl
    conv => whnf
    exact rt (E := E_Bool) h rfl
  conv => whnf
  exact rt (E := E_Bool) h rfl

end Go.Proofs.YtldlcdnhdedoeaaGreat
namespace Go.Proofs.YtldlcdnhdedoeaaGreat
open Go Go.VC
noncomputable def law21_KernelSends (a0 : Config) (a1 : Int) (a2 : List Int) : Option Bool :=
  jn (fun (w1 : Bool) => fk w1 (bnd law21_knows fun x3 => some x3) (bnd (kernel_Boot a0) fun x4 => fk (!decide (x4.2 = (0 : Int))) (fk (decide ((x4.1.Lines.length : Int) = (0 : Int))) (bnd law21_knows fun x5 => some x5) (some false)) (ck (decide ((a0.Ports.length : Int) ≠ 0)) (ix a0.Ports ((IntKind.i64.wrap a1).tmod (a0.Ports.length : Int)) fun x6 => bnd (kernel_Tick x4.1) fun x7 => lp (fun nx8 (v8 : Int × (List Window) × (List Face) × (List PartState) × (List PortLine) × Int × Int) => jn (fun (w9 : Bool) => fk w9 (ix a2 v8.2.2.2.2.2.2 fun x10 => bnd (kernel_Do (⟨⟨v8.1, v8.2.1⟩, v8.2.2.1, v8.2.2.2.1, v8.2.2.2.2.1, v8.2.2.2.2.2.1⟩) (⟨x6.From, (2 : Int), ((IntKind.i64.wrap a1).tmod (a0.Ports.length : Int)), x10, ⟨(0 : Int), (0 : Int), (0 : Int), []⟩⟩)) fun x11 => fk (!decide (x11.2.2 = (0 : Int))) (some false) (nx8 (x11.1.Table.Frame, x11.1.Table.Windows, x11.1.Faces, x11.1.Parts, x11.1.Lines, x11.1.Now, (wr (v8.2.2.2.2.2.2 + (1 : Int)))))) (bnd (kernel_Do (⟨⟨v8.1, v8.2.1⟩, v8.2.2.1, v8.2.2.2.1, v8.2.2.2.2.1, v8.2.2.2.2.2.1⟩) (⟨x6.To, (3 : Int), ((IntKind.i64.wrap a1).tmod (a0.Ports.length : Int)), (0 : Int), ⟨(0 : Int), (0 : Int), (0 : Int), []⟩⟩)) fun x12 => fk (!decide (x12.2.2 = (4 : Int))) (some false) (lp (fun nx13 (v13 : Int × (List Window) × (List Face) × (List PartState) × (List PortLine) × Int × Int) => fk (decide (v13.2.2.2.2.2.2 < v13.1)) (bnd (kernel_Tick (⟨⟨v13.1, v13.2.1⟩, v13.2.2.1, v13.2.2.2.1, v13.2.2.2.2.1, v13.2.2.2.2.2.1⟩)) fun x14 => nx13 (x14.1.Table.Frame, x14.1.Table.Windows, x14.1.Faces, x14.1.Parts, x14.1.Lines, x14.1.Now, (wr (v13.2.2.2.2.2.2 + (1 : Int))))) (lp (fun nx15 (v15 : Int × (List Window) × (List Face) × (List PartState) × (List PortLine) × Int × Int) => jn (fun (w16 : Bool) => fk w16 (bnd (kernel_Do (⟨⟨v15.1, v15.2.1⟩, v15.2.2.1, v15.2.2.2.1, v15.2.2.2.2.1, v15.2.2.2.2.2.1⟩) (⟨x6.To, (3 : Int), ((IntKind.i64.wrap a1).tmod (a0.Ports.length : Int)), (0 : Int), ⟨(0 : Int), (0 : Int), (0 : Int), []⟩⟩)) fun x17 => jn (fun (w18 : Bool) => fk w18 (some false) (nx15 (x17.1.Table.Frame, x17.1.Table.Windows, x17.1.Faces, x17.1.Parts, x17.1.Lines, x17.1.Now, (wr (v15.2.2.2.2.2.2 + (1 : Int)))))) (fun k18 => fk (!decide (x17.2.2 = (0 : Int))) (k18 true) (ix a2 v15.2.2.2.2.2.2 fun x19 => k18 (!decide (x17.2.1 = x19))))) (ix v15.2.2.2.2.1 ((IntKind.i64.wrap a1).tmod (a0.Ports.length : Int)) fun x20 => bnd (ring_List x20.Got) fun x21 => fk (decide ((x21.length : Int) = (0 : Int))) (bnd law21_knows fun x22 => some x22) (some false))) (fun k16 => fk (decide (v15.2.2.2.2.2.2 < (a2.length : Int))) (k16 (decide (v15.2.2.2.2.2.2 < x6.Cap))) (k16 false))) FU (v13.1, v13.2.1, v13.2.2.1, v13.2.2.2.1, v13.2.2.2.2.1, v13.2.2.2.2.2.1, (0 : Int)))) FU (v8.1, v8.2.1, v8.2.2.1, v8.2.2.2.1, v8.2.2.2.2.1, v8.2.2.2.2.2.1, (0 : Int))))) (fun k9 => fk (decide (v8.2.2.2.2.2.2 < (a2.length : Int))) (k9 (decide (v8.2.2.2.2.2.2 < x6.Cap))) (k9 false))) FU (x7.1.Table.Frame, x7.1.Table.Windows, x7.1.Faces, x7.1.Parts, x7.1.Lines, x7.1.Now, (0 : Int)))))) (fun k1 => bnd (law21_Great a0) fun x2 => fk x2 (k1 true) (fk (decide ((a0.Ports.length : Int) = (0 : Int))) (k1 true) (k1 (decide ((a2.length : Int) > (4 : Int))))))
theorem law21_KernelSends_w (a0 : Config) (a1 : Int) (a2 : List Int) (r : Bool) (h : law21_KernelSends a0 a1 a2 = some r) : Go.VC.Spec Tryz.prog 6 [.agg (Config.enc a0), .d (.int .u8 a1), .d (.sl (a2.map (eI .i64)))] (fun y => y = E_Bool r) := by
  refine Go.VC.Spec.of_xc (args := [.agg (Config.enc a0), .d (.int .u8 a1), .d (.sl (a2.map (eI .i64)))]) (fn := Tryz.f6) tab ⟨[(0, [1, 2, 3]), (1, [1, 2, 3, 38]), (2, [6]), (3, [1, 2, 3, 7, 8]), (4, [1, 2, 3, 7, 46]), (5, [6]), (6, [2, 3, 7, 9]), (7, [2, 7, 9, 10]), (8, [2, 7, 9, 10]), (9, [2, 7, 9, 10, 11]), (10, [2, 7, 9, 10, 11, 80]), (11, [2, 7, 9, 10, 11]), (12, [2, 7, 9, 10, 11, 12, 14]), (13, [2, 7, 9, 10, 11, 14]), (14, [2, 7, 9, 10, 11, 99]), (15, [6]), (16, [2, 7, 9, 10, 17]), (17, [2, 7, 9, 10, 111]), (18, [6]), (19, [2, 7, 9, 10, 18]), (20, [2, 7, 9, 10, 18, 116]), (21, [2, 7, 9, 10, 18]), (22, [2, 7, 9, 10, 18, 19]), (23, [2, 7, 9, 10, 18]), (24, [2, 7, 9, 10, 22]), (25, [2, 7, 9, 10, 22, 135]), (26, [2, 7, 9, 10, 22]), (27, [2, 7, 9, 10, 22, 23, 24, 25]), (28, [2, 7, 9, 10, 22, 24, 25]), (29, [2, 7, 9, 10, 22, 158]), (30, [6]), (31, [6])], [], [100038, 100080, 100135, 100158], []⟩ 171 [.tmp 6] rfl rfl rfl rfl rfl rfl ?_
  conv => whnf
  refine jnS (fun w1 => ⟨[(1, .l (.d (.int .u8 a1))), (2, .l (.d (.sl (a2.map (eI .i64))))), (3, .l (.ptr 4 0)), (38, .l (.d (.bool w1)))], 171, [], [(4, [.d (.sl (a0.Parts.map Part.enc)), .d (.sl (a0.Ports.map Port.enc))])], []⟩) h (fun k1 hk1 h => ?_) (fun w1 h => ?_)
  · conv => whnf
    refine caS (E := E_Bool) h (law21_Great_w a0) rfl (fun _ => rfl) (fun x2 h => ?_)
    conv => whnf
    refine fkS h (fun h => ?_) (fun h => ?_)
    · conv => whnf
      exact jeS hk1 h (Weak.refl _)
    conv => whnf
    refine lenS a0.Ports Port.enc rfl ?_
    conv => whnf
    refine fkS h (fun h => ?_) (fun h => ?_)
    · conv => whnf
      exact jeS hk1 h (Weak.refl _)
    conv => whnf
    refine lenS a2 (eI .i64) rfl ?_
    conv => whnf
    exact jeS hk1 h (Weak.refl _)
  conv => whnf
  refine fkS h (fun h => ?_) (fun h => ?_)
  · conv => whnf
    refine caS (E := E_Bool) h law21_knows_w rfl (fun _ => rfl) (fun x3 h => ?_)
    conv => whnf
    exact rt (E := E_Bool) h rfl
  conv => whnf
  refine ccS (E := E_KernelState_Int) h (kernel_Boot_w a0) rfl rfl (fun x4 h => ?_)
  conv => whnf
  refine fkS h (fun h => ?_) (fun h => ?_)
  · conv => whnf
    refine lenS x4.1.Lines PortLine.enc rfl ?_
    conv => whnf
    refine fkS h (fun h => ?_) (fun h => ?_)
    · conv => whnf
      refine caS (E := E_Bool) h law21_knows_w rfl (fun _ => rfl) (fun x5 h => ?_)
      conv => whnf
      exact rt (E := E_Bool) h rfl
    conv => whnf
    exact rt (E := E_Bool) h rfl
  conv => whnf
  refine lenS a0.Ports Port.enc rfl ?_
  conv => whnf
  refine dvS h (fun h => ?_)
  conv => whnf
  refine ixS (enc := Port.enc) h rfl (fun _ => rfl) (fun x6 h => ?_)
  conv => whnf
  refine ccS (E := E_KernelState_ListInt_Int) h (kernel_Tick_w x4.1) rfl rfl (fun x7 h => ?_)
  conv => whnf
  refine lpS (fun v8 => ⟨[(2, .l (.d (.sl (a2.map (eI .i64))))), (7, .l (.ptr 8 0)), (9, .l (.d (.int .i64 ((IntKind.i64.wrap a1).tmod (a0.Ports.length : Int))))), (10, .l (.ptr 11 0)), (11, .l (.d (.int .i64 v8.2.2.2.2.2.2)))], 171, [], [(8, [.d (.int .i64 v8.1), .d (.sl (v8.2.1.map Window.enc)), .d (.sl (v8.2.2.1.map Face.enc)), .d (.sl (v8.2.2.2.1.map PartState.enc)), .d (.sl (v8.2.2.2.2.1.map PortLine.enc)), .d (.int .i64 v8.2.2.2.2.2.1)]), (11, [.d (.int .i64 x6.From), .d (.int .i64 x6.To), .d (.int .i64 x6.Cap)])], []⟩) h (Weak.refl _) (fun _ nx8 hn8 v8 h => ?_)
  conv => whnf
  refine jnS (fun w9 => ⟨[(2, .l (.d (.sl (a2.map (eI .i64))))), (7, .l (.ptr 8 0)), (9, .l (.d (.int .i64 ((IntKind.i64.wrap a1).tmod (a0.Ports.length : Int))))), (10, .l (.ptr 11 0)), (11, .l (.d (.int .i64 v8.2.2.2.2.2.2))), (80, .l (.d (.bool w9)))], 171, [], [(8, [.d (.int .i64 v8.1), .d (.sl (v8.2.1.map Window.enc)), .d (.sl (v8.2.2.1.map Face.enc)), .d (.sl (v8.2.2.2.1.map PartState.enc)), .d (.sl (v8.2.2.2.2.1.map PortLine.enc)), .d (.int .i64 v8.2.2.2.2.2.1)]), (11, [.d (.int .i64 x6.From), .d (.int .i64 x6.To), .d (.int .i64 x6.Cap)])], []⟩) h (fun k9 hk9 h => ?_) (fun w9 h => ?_)
  · conv => whnf
    refine lenS a2 (eI .i64) rfl ?_
    conv => whnf
    refine fkS h (fun h => ?_) (fun h => ?_)
    · conv => whnf
      exact jeS hk9 h (Weak.refl _)
    conv => whnf
    exact jeS hk9 h (Weak.refl _)
  conv => whnf
  refine fkS h (fun h => ?_) (fun h => ?_)
  · conv => whnf
    refine ⟨17, ?_⟩
    conv => whnf
    refine ixS (enc := (eI .i64)) h rfl (fun _ => rfl) (fun x10 h => ?_)
    conv => whnf
    refine dcS (E := E_KernelState_Int_Int) h (kernel_Do_w (⟨⟨v8.1, v8.2.1⟩, v8.2.2.1, v8.2.2.2.1, v8.2.2.2.2.1, v8.2.2.2.2.2.1⟩) (⟨x6.From, (2 : Int), ((IntKind.i64.wrap a1).tmod (a0.Ports.length : Int)), x10, ⟨(0 : Int), (0 : Int), (0 : Int), []⟩⟩)) rfl (fun x11 h => ?_)
    conv => whnf
    refine drS (by kernel_rfl) ?_
    conv => whnf
    refine fkS h (fun h => ?_) (fun h => ?_)
    · conv => whnf
      exact rt (E := E_Bool) h rfl
    conv => whnf
    exact leS hn8 h (Weak.refl _)
  conv => whnf
  refine ccS (E := E_KernelState_Int_Int) h (kernel_Do_w (⟨⟨v8.1, v8.2.1⟩, v8.2.2.1, v8.2.2.2.1, v8.2.2.2.2.1, v8.2.2.2.2.2.1⟩) (⟨x6.To, (3 : Int), ((IntKind.i64.wrap a1).tmod (a0.Ports.length : Int)), (0 : Int), ⟨(0 : Int), (0 : Int), (0 : Int), []⟩⟩)) rfl rfl (fun x12 h => ?_)
  conv => whnf
  refine fkS h (fun h => ?_) (fun h => ?_)
  · conv => whnf
    exact rt (E := E_Bool) h rfl
  conv => whnf
  refine lpS (fun v13 => ⟨[(2, .l (.d (.sl (a2.map (eI .i64))))), (7, .l (.ptr 8 0)), (9, .l (.d (.int .i64 ((IntKind.i64.wrap a1).tmod (a0.Ports.length : Int))))), (10, .l (.ptr 11 0)), (18, .l (.d (.int .i64 v13.2.2.2.2.2.2)))], 171, [], [(8, [.d (.int .i64 v13.1), .d (.sl (v13.2.1.map Window.enc)), .d (.sl (v13.2.2.1.map Face.enc)), .d (.sl (v13.2.2.2.1.map PartState.enc)), .d (.sl (v13.2.2.2.2.1.map PortLine.enc)), .d (.int .i64 v13.2.2.2.2.2.1)]), (11, [.d (.int .i64 x6.From), .d (.int .i64 x6.To), .d (.int .i64 x6.Cap)])], []⟩) h (Weak.refl _) (fun _ nx13 hn13 v13 h => ?_)
  conv => whnf
  refine fkS h (fun h => ?_) (fun h => ?_)
  · conv => whnf
    refine ccS (E := E_KernelState_ListInt_Int) h (kernel_Tick_w (⟨⟨v13.1, v13.2.1⟩, v13.2.2.1, v13.2.2.2.1, v13.2.2.2.2.1, v13.2.2.2.2.2.1⟩)) rfl rfl (fun x14 h => ?_)
    conv => whnf
    exact leS hn13 h (Weak.refl _)
  conv => whnf
  refine lpS (fun v15 => ⟨[(2, .l (.d (.sl (a2.map (eI .i64))))), (7, .l (.ptr 8 0)), (9, .l (.d (.int .i64 ((IntKind.i64.wrap a1).tmod (a0.Ports.length : Int))))), (10, .l (.ptr 11 0)), (22, .l (.d (.int .i64 v15.2.2.2.2.2.2)))], 171, [], [(8, [.d (.int .i64 v15.1), .d (.sl (v15.2.1.map Window.enc)), .d (.sl (v15.2.2.1.map Face.enc)), .d (.sl (v15.2.2.2.1.map PartState.enc)), .d (.sl (v15.2.2.2.2.1.map PortLine.enc)), .d (.int .i64 v15.2.2.2.2.2.1)]), (11, [.d (.int .i64 x6.From), .d (.int .i64 x6.To), .d (.int .i64 x6.Cap)])], []⟩) h (Weak.refl _) (fun _ nx15 hn15 v15 h => ?_)
  conv => whnf
  refine jnS (fun w16 => ⟨[(2, .l (.d (.sl (a2.map (eI .i64))))), (7, .l (.ptr 8 0)), (9, .l (.d (.int .i64 ((IntKind.i64.wrap a1).tmod (a0.Ports.length : Int))))), (10, .l (.ptr 11 0)), (22, .l (.d (.int .i64 v15.2.2.2.2.2.2))), (135, .l (.d (.bool w16)))], 171, [], [(8, [.d (.int .i64 v15.1), .d (.sl (v15.2.1.map Window.enc)), .d (.sl (v15.2.2.1.map Face.enc)), .d (.sl (v15.2.2.2.1.map PartState.enc)), .d (.sl (v15.2.2.2.2.1.map PortLine.enc)), .d (.int .i64 v15.2.2.2.2.2.1)]), (11, [.d (.int .i64 x6.From), .d (.int .i64 x6.To), .d (.int .i64 x6.Cap)])], []⟩) h (fun k16 hk16 h => ?_) (fun w16 h => ?_)
  · conv => whnf
    refine lenS a2 (eI .i64) rfl ?_
    conv => whnf
    refine fkS h (fun h => ?_) (fun h => ?_)
    · conv => whnf
      exact jeS hk16 h (Weak.refl _)
    conv => whnf
    exact jeS hk16 h (Weak.refl _)
  conv => whnf
  refine fkS h (fun h => ?_) (fun h => ?_)
  · conv => whnf
    refine ccS (E := E_KernelState_Int_Int) h (kernel_Do_w (⟨⟨v15.1, v15.2.1⟩, v15.2.2.1, v15.2.2.2.1, v15.2.2.2.2.1, v15.2.2.2.2.2.1⟩) (⟨x6.To, (3 : Int), ((IntKind.i64.wrap a1).tmod (a0.Ports.length : Int)), (0 : Int), ⟨(0 : Int), (0 : Int), (0 : Int), []⟩⟩)) rfl rfl (fun x17 h => ?_)
    conv => whnf
    refine jnS (fun w18 => ⟨[(2, .l (.d (.sl (a2.map (eI .i64))))), (7, .l (.ptr 8 0)), (9, .l (.d (.int .i64 ((IntKind.i64.wrap a1).tmod (a0.Ports.length : Int))))), (10, .l (.ptr 11 0)), (22, .l (.d (.int .i64 v15.2.2.2.2.2.2))), (158, .l (.d (.bool w18)))], 171, [], [(8, [.d (.int .i64 x17.1.Table.Frame), .d (.sl (x17.1.Table.Windows.map Window.enc)), .d (.sl (x17.1.Faces.map Face.enc)), .d (.sl (x17.1.Parts.map PartState.enc)), .d (.sl (x17.1.Lines.map PortLine.enc)), .d (.int .i64 x17.1.Now)]), (11, [.d (.int .i64 x6.From), .d (.int .i64 x6.To), .d (.int .i64 x6.Cap)])], []⟩) h (fun k18 hk18 h => ?_) (fun w18 h => ?_)
    · conv => whnf
      refine fkS h (fun h => ?_) (fun h => ?_)
      · conv => whnf
        exact jeS hk18 h (Weak.refl _)
      conv => whnf
      refine ixS (enc := (eI .i64)) h rfl (fun _ => rfl) (fun x19 h => ?_)
      conv => whnf
      exact jeS hk18 h (Weak.refl _)
    conv => whnf
    refine fkS h (fun h => ?_) (fun h => ?_)
    · conv => whnf
      exact rt (E := E_Bool) h rfl
    conv => whnf
    exact leS hn15 h (Weak.refl _)
  conv => whnf
  refine ixS (enc := PortLine.enc) h rfl (fun _ => rfl) (fun x20 h => ?_)
  conv => whnf
  refine ccS (E := E_ListInt) h (ring_List_w x20.Got) rfl rfl (fun x21 h => ?_)
  conv => whnf
  refine lenS x21 (eI .i64) rfl ?_
  conv => whnf
  refine fkS h (fun h => ?_) (fun h => ?_)
  · conv => whnf
    refine caS (E := E_Bool) h law21_knows_w rfl (fun _ => rfl) (fun x22 h => ?_)
    conv => whnf
    exact rt (E := E_Bool) h rfl
  conv => whnf
  exact rt (E := E_Bool) h rfl

end Go.Proofs.YtldlcdnhdedoeaaGreat
namespace Go.Proofs.YtldlcdnhdedoeaaGreat
open Go Go.VC
def PureKernelSends : Prop := ∀ (a0 : Config) (a1 : Int) (a2 : List Int), Config.wf a0 → wfI .u8 a1 → (a2.length * 8 ≤ BB ∧ ∀ y1 ∈ a2, wfI .i64 y1) → law21_KernelSends a0 a1 a2 = some true
end Go.Proofs.YtldlcdnhdedoeaaGreat
namespace Go.Proofs.YtldlcdnhdedoeaaGreat
open Go Go.VC
theorem law21_knows_eq : law21_knows = some true := by kernel_rfl
theorem Config.bounds {c : Config} (h : c.wf) : c.Parts.length ≤ 4611686018427387904 ∧ ∀ p ∈ c.Parts, p.Tasks.length ≤ 4611686018427387904 ∧ ∀ t ∈ p.Tasks, t.Secs.length ≤ 4611686018427387904 :=
  ⟨by have := h.1.1; unfold BB at this; omega, fun p hp => ⟨wf_len (h.1.2 p hp).2.1 (Nat.le_refl _), fun t ht => ((h.1.2 p hp).2.2 t ht).len⟩⟩
theorem proofKernelSends : PureKernelSends := by
  intro c i l hw hi hl
  obtain ⟨b1, b2⟩ := Config.bounds hw
  obtain ⟨g, hg, hgb⟩ := great_ex c b1 b2
  have hq : c.Ports.length ≤ 4611686018427387904 := by have := hw.2.1; unfold BB at this; omega
  unfold law21_KernelSends
  simp only [law21_knows_eq, bnd_some]
  cases g with
  | true => exact jn_to true (fun k => by rw [bnd_eq hg, fk_t]) (by rw [fk_t])
  | false =>
  obtain ⟨g1, g2⟩ := hgb rfl
  by_cases hz : (c.Ports.length : Int) = 0
  · exact jn_to true (fun k => by rw [bnd_eq hg, fk_f, decide_eq_true hz, fk_t]) (by rw [fk_t])
  by_cases h4 : (l.length : Int) > 4
  · exact jn_to true (fun k => by rw [bnd_eq hg, fk_f, decide_eq_false hz, fk_f, decide_eq_true h4]) (by rw [fk_t])
  refine jn_to false (fun k => by rw [bnd_eq hg, fk_f, decide_eq_false hz, fk_f, decide_eq_false h4]) ?_
  have hb : confB c := ⟨b1, by omega, b2⟩
  rw [fk_f]
  rcases boot_ex c hb with ⟨e, he, k1, r1⟩ | ⟨s0, ticks, k1, r1, hB⟩
  · rw [bnd_eq k1]
    dsimp only
    rw [decide_eq_false he, Bool.not_false, fk_t]
    rfl
  rw [bnd_eq k1]
  dsimp only
  rw [decide_eq_true rfl, Bool.not_true, fk_f, ck_t (decide_eq_true hz)]
  have hi0 : 0 ≤ i ∧ i ≤ 255 := by
    unfold wfI at hi
    unfold Lit.wf at hi
    rw [Bool.and_eq_true, decide_eq_true_eq, decide_eq_true_eq] at hi
    have h1 : (0 : Int) ≤ i := hi.1
    have h2 : i ≤ 255 := hi.2
    omega
  have ew : IntKind.i64.wrap i = i := wr_in i (by omega)
  rw [ew]
  obtain ⟨k, hk, hkl⟩ : ∃ k : Nat, i.tmod (c.Ports.length : Int) = (k : Int) ∧ k < c.Ports.length := by
    rw [Int.tmod_eq_emod_of_nonneg hi0.1]
    have h1 := Int.emod_nonneg i hz
    have h2 := Int.emod_lt_of_pos i (show (0 : Int) < (c.Ports.length : Int) by omega)
    exact ⟨(i % (c.Ports.length : Int)).toNat, by omega, by omega⟩
  rw [hk, ix_lt hkl]
  have hc := hB.conf
  have hm := List.getElem_mem hkl
  have hp := hc.qs _ hm
  have hpi := hc.qi _ hm
  unfold portP at hp
  unfold portIn at hpi
  have hL0 : lineAt s0 k c.Ports[k] [] [] := by
    obtain ⟨_, n2, n3⟩ := newL_ok (hc.qs _ hm)
    refine ⟨newL c.Ports[k], ?_, rfl, n2, n3⟩
    rw [hB.lines, List.getElem?_map, List.getElem?_eq_getElem hkl]; rfl
  have hpl : s0.Parts.length = c.Parts.length := by rw [hB.parts, List.length_map]
  generalize c.Ports[k] = p at *
  have f1 := hB.kP.tab.f1
  have f2 := hB.kP.tab.f2
  obtain ⟨s1, ran, t1, t2, t3, t4, t5, t6⟩ := tick_step hB.kP (by rw [hB.now]; omega) hL0
  have hL1 : lineAt s1 k p [] [] := by
    split at t6 <;> exact t6
  rw [bnd_eq t1]
  dsimp only
  rw [hB.now, Int.zero_add] at t4
  -- the sends
  refine lp_inv (fun v => l.length - v.2.2.2.2.2.2.toNat) (fun v => ∃ (n : Nat) (u : KernelState), v = (u.Table.Frame, u.Table.Windows, u.Faces, u.Parts, u.Lines, u.Now, (n : Int)) ∧ n ≤ l.length ∧ (n : Int) ≤ p.Cap ∧ kP u ∧ u.Table = s0.Table ∧ u.Now = 1 ∧ u.Parts.length = c.Parts.length ∧ lineAt u k p (l.take n) []) ?_ FU _ ⟨0, s1, rfl, Nat.zero_le _, by omega, t2, t3, t4, by rw [t5, hpl], hL1⟩ (by unfold FU; simp only; omega)
  rintro nx v ⟨n, u, rfl, hn, hnc, hu, hut, hun, hup, hul⟩ hnx
  dsimp only
  refine jn_to (decide (n < l.length ∧ (n : Int) < p.Cap)) (fun k9 => ?_) ?_
  · rw [lt_nat]
    by_cases c1 : n < l.length
    · rw [decide_eq_true c1, fk_t]
      congr 1
      rw [decide_eq_decide]
      exact ⟨fun h => ⟨c1, h⟩, fun h => h.2⟩
    · rw [decide_eq_false c1, fk_f, decide_eq_false (fun h => c1 h.1)]
  by_cases cn : n < l.length ∧ (n : Int) < p.Cap
  · rw [decide_eq_true cn, fk_t, ix_lt cn.1, wr_succ n _ cn.1 (by omega)]
    obtain ⟨u', e1, e2, e3, e4, e5, e6⟩ := send_step (v := l[n]) (t := ⟨0, 0, 0, []⟩) hu hul (by omega) (by rw [hup]; omega) (by rw [List.length_take]; omega)
    show bnd (kernel_Do u _) _ = _
    rw [bnd_eq (kernel_Do_eq u _ hu), e1]
    dsimp only
    rw [decide_eq_true rfl, Bool.not_true, fk_f]
    refine hnx _ ⟨n + 1, u', rfl, cn.1, by omega, e2, by rw [e3, hut], by rw [e4, hun], by rw [e5, hup], ?_⟩ (by simp only [Int.toNat_natCast]; omega)
    rw [← List.take_append_getElem cn.1]; exact e6
  rw [decide_eq_false cn, fk_f]
  show bnd (kernel_Do u _) _ = _
  rw [bnd_eq (kernel_Do_eq u _ hu), read_none hu hul (by omega) (by rw [hup]; omega), decide_eq_true rfl, Bool.not_true, fk_f]
  have hmin : ∀ j, j < n → j < l.length := fun j h => by omega
  -- the frame
  refine lp_inv (fun v => s0.Table.Frame.toNat - v.2.2.2.2.2.2.toNat) (fun v => ∃ (t : Nat) (w : KernelState), v = (w.Table.Frame, w.Table.Windows, w.Faces, w.Parts, w.Lines, w.Now, (t : Int)) ∧ (t : Int) ≤ s0.Table.Frame ∧ kP w ∧ w.Table = s0.Table ∧ w.Now = 1 + (t : Int) ∧ w.Parts.length = c.Parts.length ∧ (if (t : Int) < s0.Table.Frame then lineAt w k p (l.take n) [] else lineAt w k p [] (l.take n))) ?_ FU _ ⟨0, u, rfl, by omega, hu, hut, by omega, hup, by rw [if_pos (by omega)]; exact hul⟩ (by unfold FU; simp only; omega)
  rintro nx2 v ⟨t, w, rfl, ht, hw', hwt, hwn, hwp, hwl⟩ hnx2
  dsimp only
  have hfr : w.Table.Frame = s0.Table.Frame := by rw [hwt]
  by_cases ct : (t : Int) < s0.Table.Frame
  · rw [if_pos ct] at hwl
    rw [decide_eq_true (by omega), fk_t]
    obtain ⟨w', ran', a1, a2, a3, a4, a5, a6⟩ := tick_step hw' (by omega) hwl
    show bnd (kernel_Tick w) _ = _
    rw [bnd_eq a1, wr_in _ (by omega)]
    refine hnx2 _ ⟨t + 1, w', rfl, by omega, a2, by rw [a3, hwt], by rw [a4, hwn]; omega, by rw [a5, hwp], ?_⟩ (by simp only; omega)
    rw [hfr, hwn, Int.tmod_eq_emod_of_nonneg (by omega)] at a6
    by_cases c2 : ((t + 1 : Nat) : Int) < s0.Table.Frame
    · rw [if_pos c2]
      rw [Int.emod_eq_of_lt (by omega) (by omega), if_neg (by omega)] at a6
      exact a6
    · rw [if_neg c2]
      have : 1 + (t : Int) = s0.Table.Frame := by omega
      rw [this, Int.emod_self, if_pos rfl] at a6
      exact a6
  rw [if_neg ct] at hwl
  rw [decide_eq_false (by omega), fk_f]
  have hnle : (l.take n).length = n := by rw [List.length_take]; omega
  -- the reads
  refine lp_inv (fun v => l.length - v.2.2.2.2.2.2.toNat) (fun v => ∃ (j : Nat) (x : KernelState), v = (x.Table.Frame, x.Table.Windows, x.Faces, x.Parts, x.Lines, x.Now, (j : Int)) ∧ j ≤ n ∧ kP x ∧ x.Parts.length = c.Parts.length ∧ lineAt x k p [] ((l.take n).drop j)) ?_ FU _ ⟨0, w, rfl, Nat.zero_le _, hw', hwp, hwl⟩ (by unfold FU; simp only; omega)
  rintro nx3 v ⟨j, x, rfl, hj, hx, hxp, hxl⟩ hnx3
  dsimp only
  refine jn_to (decide (j < n)) (fun k16 => ?_) ?_
  · rw [lt_nat]
    by_cases c1 : j < l.length
    · rw [decide_eq_true c1, fk_t]
      congr 1
      rw [decide_eq_decide]
      omega
    · rw [decide_eq_false c1, fk_f, decide_eq_false (by omega)]
  by_cases cj : j < n
  · have hjl : j < l.length := by omega
    have hjt : j < (l.take n).length := by omega
    rw [decide_eq_true cj, fk_t]
    rw [List.drop_eq_getElem_cons hjt] at hxl
    obtain ⟨x', e1, e2, e3, e4, e5, e6⟩ := read_step (w := 0) (t := ⟨0, 0, 0, []⟩) hx hxl (by omega) (by rw [hxp]; omega)
    show bnd (kernel_Do x _) _ = _
    rw [bnd_eq (kernel_Do_eq x _ hx), e1, wr_succ j _ hjl (by omega)]
    refine jn_to false (fun k18 => ?_) ?_
    · dsimp only
      rw [decide_eq_true rfl, Bool.not_true, fk_f, ix_lt hjl, List.getElem_take, decide_eq_true rfl]; rfl
    · rw [fk_f]
      exact hnx3 _ ⟨j + 1, x', rfl, cj, e2, by rw [e5, hxp], e6⟩ (by simp only [Int.toNat_natCast]; omega)
  · have ej : j = n := by omega
    subst ej
    rw [List.drop_eq_nil_of_le (by omega)] at hxl
    obtain ⟨y, hy, hyp, hyu, hyg⟩ := hxl
    have hkx : k < x.Lines.length := (List.getElem?_eq_some_iff.1 hy).1
    have hy2 : x.Lines[k] = y := by rw [List.getElem?_eq_getElem hkx] at hy; exact Option.some.inj hy
    have hly := many_of hx hy
    rw [decide_eq_false cj, fk_f, ix_lt hkx, hy2, bnd_eq (ring_List_eq _ hly.2.2.1), hyg]
    rfl
end Go.Proofs.YtldlcdnhdedoeaaGreat
namespace Go.Proofs.YtldlcdnhdedoeaaGreat.kernelSends
open Go Go.VC Go.ChangeShapes Go.WideShapes Go.ChangeAt Go.RowKit
theorem own : ownKnob Tryz.prog.godebug = none := by kernel_rfl
theorem laidOut : laidOutB Tryz.prog = true := by kernel_rfl
theorem lifted (os : Os) (started : os.Started) (H : Type) (enc : TypeId × Value → H) :
    ReturnsInHanded {} Tryz.checked os 6 .any (Rows.kernelSendsSpec.pre6 enc Tryz.prog Tryz.f6 Rows.kernelSendsRow.domain false) (Rows.kernelSendsSpec.post enc Tryz.prog Tryz.f6 false true false false) := by
  refine returnsInHanded_of_change_sized (C := Tryz.checked) own started (by kernel_rfl) Tryz.func6
    (ChangeSpec.witness6 (enc := enc) (C := Tryz.checked) false ⟨#[], #[.agg #[.slice none 0 0, .slice none 0 0], .int .u8 0, .slice none 0 0], []⟩ 8 (by kernel_rfl) (by kernel_rfl) (by kernel_rfl) (by kernel_rfl)) ?_
  intro W base args ds gs before hval0 hW hcnd hsz0 _
  have hsz : (DataW.weightsEach Tryz.prog (Tryz.f6.params.toList ++ Rows.kernelSendsSpec.plain.varTypes Tryz.prog) (ds ++ gs)).all (· ≤ reachBytes) = true := hsz0
  have hval : ∀ (j : Nat) t v, Tryz.f6.params[j]? = some t → args[j]? = some v → Value.okWide Tryz.prog W .any base t v := hval0
  have hW' := hW
  obtain ⟨p, q, hA0, hV, rfl, hfz, hnd⟩ := hW
  have hA : DataW.TrodAll enc Tryz.prog W 0 (fun _ => true) true Tryz.f6.params.toList args.toList ds p := hA0
  rw [Tryz.params6] at hA hval hsz
  obtain ⟨v0, vs0, d0, ds0, p0, q0, hargs, rfl, rfl, h0, r0⟩ := trodAll_cons hA
  obtain ⟨v1, vs1, d1, ds1, p1, q1, rfl, rfl, rfl, h1, r1⟩ := trodAll_cons r0
  obtain ⟨v2, vs2, d2, ds2, p2, q2, rfl, rfl, rfl, h2, r2⟩ := trodAll_cons r1
  obtain ⟨rfl, rfl, rfl⟩ := trodAll_nil r2
  obtain rfl : args = #[v0, v1, v2] := by cases args; simp_all
  obtain ⟨rfl, rfl⟩ := trodVars_none hV
  have lt0 : ∀ x ∈ p0, x.block < W.heap.size := by obtain ⟨m, hm⟩ := h0; exact DataW.trod_lt m _ _ _ hm
  have wt0 : ∀ k ∈ d0.weights Tryz.prog 25, k ≤ BB := fun k hk => of_decide_eq_true (List.all_eq_true.1 hsz _ (DataW.weights_mem_each (j := 0) rfl rfl k hk))
  obtain ⟨c0, s0, g0⟩ := open_cv tab (m := 8) (t := 25) rfl (hval 0 25 v0 rfl rfl) h0 wt0
  have g0 := g0 _ T25
  obtain ⟨a0, rfl, w0⟩ := (Config.of s0)
  have lt1 : ∀ x ∈ p1, x.block < W.heap.size := by obtain ⟨m, hm⟩ := h1; exact DataW.trod_lt m _ _ _ hm
  have wt1 : ∀ k ∈ d1.weights Tryz.prog 5, k ≤ BB := fun k hk => of_decide_eq_true (List.all_eq_true.1 hsz _ (DataW.weights_mem_each (j := 1) rfl rfl k hk))
  obtain ⟨c1, s1, g1⟩ := open_cv tab (m := 8) (t := 5) rfl (hval 1 5 v1 rfl rfl) h1 wt1
  have g1 := g1 _ T5
  obtain ⟨a1, rfl, w1⟩ := (s1.i T5)
  have lt2 : ∀ x ∈ p2, x.block < W.heap.size := by obtain ⟨m, hm⟩ := h2; exact DataW.trod_lt m _ _ _ hm
  have wt2 : ∀ k ∈ d2.weights Tryz.prog 39, k ≤ BB := fun k hk => of_decide_eq_true (List.all_eq_true.1 hsz _ (DataW.weights_mem_each (j := 2) rfl rfl k hk))
  obtain ⟨c2, s2, g2⟩ := open_cv tab (m := 8) (t := 39) rfl (hval 2 39 v2 rfl rfl) h2 wt2
  have g2 := g2 _ T39
  obtain ⟨a2, rfl, w2⟩ := (s2.l (f := (eI .i64)) (W := (fun x => wfI .i64 x)) T39 T3 (fun _ _ h => (h.i T3)))
  clear hA0 hval0 hsz0 hsz
  have pure := proofKernelSends a0 a1 a2 w0 w1 w2
  refine ((law21_KernelSends_w a0 a1 a2 true pure).2 W (pw W) [v0, v1, v2] (fun _ h => h) (All2.cons g0 (All2.cons g1 (All2.cons g2 All2.nil)))).mono fun e W' ⟨v, rs, p', he, hR, hrep, bel, _⟩ => ?_
  subst hR he
  obtain rfl := RepD_bool hrep
  exact ⟨_, rfl, _, _, _, [], _, [], hW', trodAll_mk1 (shut_bool Tryz.underlying4 _), (trodAll_cons_mk (Below.trod laidOut (by kernel_rfl) (of_decide_eq_true (by kernel_rfl)) h0 bel lt0) (trodAll_cons_mk (Below.trod laidOut (by kernel_rfl) (of_decide_eq_true (by kernel_rfl)) h1 bel lt1) (trodAll_cons_mk (Below.trod laidOut (by kernel_rfl) (of_decide_eq_true (by kernel_rfl)) h2 bel lt2) trodAll_mk0))), rfl, bel.frame _, fun h => by cases h⟩
theorem over : Rows.kernelSendsRow.holds Tryz.pinned (OpenSpec.ofChange Rows.kernelSendsSpec) :=
  OpenClaim.holds_of_wide 6 Tryz.f6 rfl rfl rfl rfl rfl rfl rfl ⟨rfl, rfl, rfl, rfl, rfl⟩ rfl rfl rfl rfl rfl (by kernel_rfl) Tryz.func6 (by kernel_rfl)
    (of_decide_eq_true (by kernel_rfl)) (by unfold Func.isWrapper; first | (rw [if_pos (by decide +kernel)]; kernel_rfl) | (rw [if_neg (by decide +kernel)]; exact ⟨rfl, rfl⟩))
    (fun os started H enc _ => lifted os started H enc)
end Go.Proofs.YtldlcdnhdedoeaaGreat.kernelSends
namespace Go.Proofs.YtldlcdnhdedoeaaGreat
theorem kernelSends_holds : Rows.KernelSendsSaid := kernelSends.over
end Go.Proofs.YtldlcdnhdedoeaaGreat
