/- Part 20 of what follows is proved here: what the statement WorldOwns needs of functions and plain laws. -/
import Derived.Test.YtldlcdnhdedoeaaGreatXWorldOwns7
import Derived.Test.YtldlcdnhdedoeaaGreatXWorldOwns8
set_option linter.unusedVariables false
set_option linter.unusedSimpArgs false
set_option maxRecDepth 100000
set_option maxHeartbeats 40000000
namespace Go.Proofs.YtldlcdnhdedoeaaGreat
open Go Go.VC
noncomputable def admit_Change (a0 : PartState) (a1 : Face) (a2 : Int) (a3 : Task) : Option (PartState × Int) :=
 bnd (admit_Drop a0 a2) fun x1 => fk (!decide (x1.2 = (0 : Int))) (some (a0, x1.2)) (bnd (admit_Add x1.1 a1 a3) fun x2 => fk (!decide (x2.2 = (0 : Int))) (some (a0, x2.2)) (some (x2.1, (0 : Int))))
theorem admit_Change_w (a0 : PartState) (a1 : Face) (a2 : Int) (a3 : Task) (r : PartState × Int) (h : admit_Change a0 a1 a2 a3 = some r) : Go.VC.Spec Tryz.prog 33 [.agg (PartState.enc a0), .agg (Face.enc a1), .d (.int .i64 a2), .agg (Task.enc a3)] (fun y => y = E_PartState_Int r) := by
 refine Go.VC.Spec.of_xc (args := [.agg (PartState.enc a0), .agg (Face.enc a1), .d (.int .i64 a2), .agg (Task.enc a3)]) (fn := Tryz.f33) tab ⟨[(0, [2, 4, 5, 7, 8]), (1, [4, 5, 7, 8, 10, 11]), (2, [4, 5, 7, 8, 10, 11, 19]), (3, [8, 9]), (4, [4, 8, 10, 11]), (5, [4, 8, 10, 11, 30]), (6, [8, 9]), (7, [8, 9])], [], [], []⟩ 34 [.cell 8 51, .tmp 9] rfl rfl rfl rfl rfl rfl ?_
 conv => whnf
 refine ccS (E := E_PartState_Int) h (admit_Drop_w a0 a2) rfl rfl (fun x1 h => ?_)
 conv => whnf
 refine fkS h (fun h => ?_) (fun h => ?_)
 ·conv => whnf
  exact rt (E := E_PartState_Int) h rfl
 conv => whnf
 refine ccS (E := E_PartState_Int) h (admit_Add_w x1.1 a1 a3) rfl rfl (fun x2 h => ?_)
 conv => whnf
 refine fkS h (fun h => ?_) (fun h => ?_)
 ·conv => whnf
  exact rt (E := E_PartState_Int) h rfl
 conv => whnf
 exact rt (E := E_PartState_Int) h rfl
end Go.Proofs.YtldlcdnhdedoeaaGreat
namespace Go.Proofs.YtldlcdnhdedoeaaGreat
open Go Go.VC
noncomputable def kernel_Right (a0 : KernelState) : Option Bool :=
 lp (fun nx1 (v1 : Int) => fk (decide (v1 < (a0.Parts.length : Int))) (ix a0.Parts v1 fun x2 => bnd (part_Right x2) fun x3 => fk (!x3) (some false) (nx1 (wr (v1 + (1 : Int))))) (bnd (table_Right a0.Table) fun x4 => fk x4 (fk (decide ((a0.Faces.length : Int) = (a0.Parts.length : Int))) (fk (decide ((a0.Parts.length : Int) ≤ (4 : Int))) (bnd (port_Right a0.Lines) fun x5 => fk x5 (fk (decide (a0.Now ≥ (0 : Int))) (some (decide (a0.Now ≤ (4611686018427387703 : Int)))) (some false)) (some false)) (some false)) (some false)) (some false))) FU (0 : Int)
theorem kernel_Right_w (a0 : KernelState) (r : Bool) (h : kernel_Right a0 = some r) : Go.VC.Spec Tryz.prog 17 [.agg (KernelState.enc a0)] (fun y => y = E_Bool r) := by
 refine Go.VC.Spec.of_xc (args := [.agg (KernelState.enc a0)]) (fn := Tryz.f17) tab ⟨[(0, [1]), (1, [1, 6, 7, 8]), (2, [1, 6, 7, 8, 9]), (3, [1, 4, 6, 7, 8]), (4, [1, 6, 7, 8, 14]), (5, [2]), (6, [1, 6, 7, 8]), (7, [2])], [], [], []⟩ 49 [.tmp 2] rfl rfl rfl rfl rfl rfl ?_
 conv => whnf
 refine lenS a0.Parts PartState.enc rfl ?_
 conv => whnf
 refine lpS (fun v1 => ⟨[(1, .l (.ptr 2 0)), (6, .l (.d (.sl (a0.Parts.map PartState.enc)))), (7, .l (.d (.int .i64 (a0.Parts.length : Int)))), (8, .l (.d (.int .i64 v1)))], 49, [], [(2, [.d (.int .i64 a0.Table.Frame), .d (.sl (a0.Table.Windows.map Window.enc)), .d (.sl (a0.Faces.map Face.enc)), .d (.sl (a0.Parts.map PartState.enc)), .d (.sl (a0.Lines.map PortLine.enc)), .d (.int .i64 a0.Now)])], []⟩) h (Weak.refl _) (fun _ nx1 hn1 v1 h => ?_)
 conv => whnf
 refine fkS h (fun h => ?_) (fun h => ?_)
 ·conv => whnf
  refine ixS (enc := PartState.enc) h rfl (fun _ => rfl) (fun x2 h => ?_)
  conv => whnf
  refine caS (E := E_Bool) h (part_Right_w x2) rfl (fun _ => rfl) (fun x3 h => ?_)
  conv => whnf
  refine fkS h (fun h => ?_) (fun h => ?_)
  ·conv => whnf
   exact rt (E := E_Bool) h rfl
  conv => whnf
  exact leS hn1 h (Weak.refl _)
 conv => whnf
 refine caS (E := E_Bool) h (table_Right_w a0.Table) rfl (fun _ => rfl) (fun x4 h => ?_)
 conv => whnf
 refine fkS h (fun h => ?_) (fun h => ?_)
 ·conv => whnf
  refine lenS a0.Faces Face.enc rfl ?_
  conv => whnf
  refine lenS a0.Parts PartState.enc rfl ?_
  conv => whnf
  refine fkS h (fun h => ?_) (fun h => ?_)
  ·conv => whnf
   refine lenS a0.Parts PartState.enc rfl ?_
   conv => whnf
   refine fkS h (fun h => ?_) (fun h => ?_)
   ·conv => whnf
    refine caS (E := E_Bool) h (port_Right_w a0.Lines) rfl (fun _ => rfl) (fun x5 h => ?_)
    conv => whnf
    refine fkS h (fun h => ?_) (fun h => ?_)
    ·conv => whnf
     refine fkS h (fun h => ?_) (fun h => ?_)
     ·conv => whnf
      exact rt (E := E_Bool) h rfl
     conv => whnf
     exact rt (E := E_Bool) h rfl
    conv => whnf
    exact rt (E := E_Bool) h rfl
   conv => whnf
   exact rt (E := E_Bool) h rfl
  conv => whnf
  exact rt (E := E_Bool) h rfl
 conv => whnf
 exact rt (E := E_Bool) h rfl
end Go.Proofs.YtldlcdnhdedoeaaGreat
namespace Go.Proofs.YtldlcdnhdedoeaaGreat
open Go Go.VC
noncomputable def kernel_State_with (a0 : KernelState) (a1 : Int) (a2 : PartState) : Option KernelState :=
 ck (decide ((([] : List PartState).length + a0.Parts.length) * 120 ≤ 140737488355328)) (ck (decide (0 ≤ a1) && decide (a1 < ((([] : List PartState) ++ a0.Parts).length : Int))) (ox (([] : List PartState) ++ a0.Parts) a1.toNat fun x1 => some ⟨a0.Table, a0.Faces, (([] : List PartState) ++ a0.Parts).set a1.toNat a2, a0.Lines, a0.Now⟩))
theorem kernel_State_with_w (a0 : KernelState) (a1 : Int) (a2 : PartState) (r : KernelState) (h : kernel_State_with a0 a1 a2 = some r) : Go.VC.Spec Tryz.prog 90 [.agg (KernelState.enc a0), .d (.int .i64 a1), .agg (PartState.enc a2)] (fun y => y = E_KernelState r) := by
 refine Go.VC.Spec.of_xc (args := [.agg (KernelState.enc a0), .d (.int .i64 a1), .agg (PartState.enc a2)]) (fn := Tryz.f90) tab ⟨[(0, [1, 3, 5, 6]), (1, [1, 3, 5, 6]), (2, [3, 6]), (3, [6])], [], [], []⟩ 18 [.cell 6 35] rfl rfl rfl rfl rfl rfl ?_
 conv => whnf
 refine liS ([] : List PartState) PartState.enc rfl rfl ?_
 conv => whnf
 refine apS (enc := PartState.enc) (l1 := ([] : List PartState)) (l2 := a0.Parts) h rfl rfl (fun _ => rfl) (fun h => ?_)
 conv => whnf
 refine ioS (enc := PartState.enc) h rfl (fun h => ?_)
 conv => whnf
 refine seS (enc := PartState.enc) h rfl (fun x1 => a2) (fun _ => rfl) (fun x1 h => ?_)
 conv => whnf
 exact rt (E := E_KernelState) h rfl
end Go.Proofs.YtldlcdnhdedoeaaGreat
namespace Go.Proofs.YtldlcdnhdedoeaaGreat
open Go Go.VC
def E_fn_kernel_on : Unit → List CV := fun r => [.d (.fn 158 [[.fn 126 []]])]
noncomputable def kernel_on  : Option Unit :=
 some ()
theorem kernel_on_w  (r : Unit) (h : kernel_on = some r) : Go.VC.Spec Tryz.prog 125 [.d (.fn 126 [])] (fun y => y = E_fn_kernel_on r) := by
 refine Go.VC.Spec.of_xc (args := [.d (.fn 126 [])]) (fn := Tryz.f125) tab ⟨[(0, [1]), (1, [2])], [], [], []⟩ 4 [.tmp 2] rfl rfl rfl rfl rfl rfl ?_
 conv => whnf
 exact rt (E := E_fn_kernel_on) h rfl
end Go.Proofs.YtldlcdnhdedoeaaGreat
namespace Go.Proofs.YtldlcdnhdedoeaaGreat
open Go Go.VC
def E_fn_kernel_on_i1 : Unit → List CV := fun r => [.d (.fn 158 [[.fn 127 []]])]
noncomputable def kernel_on_i1  : Option Unit :=
 some ()
theorem kernel_on_i1_w  (r : Unit) (h : kernel_on_i1 = some r) : Go.VC.Spec Tryz.prog 125 [.d (.fn 127 [])] (fun y => y = E_fn_kernel_on_i1 r) := by
 refine Go.VC.Spec.of_xc (args := [.d (.fn 127 [])]) (fn := Tryz.f125) tab ⟨[(0, [1]), (1, [2])], [], [], []⟩ 4 [.tmp 2] rfl rfl rfl rfl rfl rfl ?_
 conv => whnf
 exact rt (E := E_fn_kernel_on_i1) h rfl
end Go.Proofs.YtldlcdnhdedoeaaGreat
namespace Go.Proofs.YtldlcdnhdedoeaaGreat
open Go Go.VC
def E_fn_kernel_on_2 : Unit → List CV := fun r => [.d (.fn 158 [[.fn 128 []]])]
noncomputable def kernel_on_2  : Option Unit :=
 some ()
theorem kernel_on_2_w  (r : Unit) (h : kernel_on_2 = some r) : Go.VC.Spec Tryz.prog 125 [.d (.fn 128 [])] (fun y => y = E_fn_kernel_on_2 r) := by
 refine Go.VC.Spec.of_xc (args := [.d (.fn 128 [])]) (fn := Tryz.f125) tab ⟨[(0, [1]), (1, [2])], [], [], []⟩ 4 [.tmp 2] rfl rfl rfl rfl rfl rfl ?_
 conv => whnf
 exact rt (E := E_fn_kernel_on_2) h rfl
end Go.Proofs.YtldlcdnhdedoeaaGreat
namespace Go.Proofs.YtldlcdnhdedoeaaGreat
open Go Go.VC
def E_fn_kernel_on_3 : Unit → List CV := fun r => [.d (.fn 158 [[.fn 129 []]])]
noncomputable def kernel_on_3  : Option Unit :=
 some ()
theorem kernel_on_3_w  (r : Unit) (h : kernel_on_3 = some r) : Go.VC.Spec Tryz.prog 125 [.d (.fn 129 [])] (fun y => y = E_fn_kernel_on_3 r) := by
 refine Go.VC.Spec.of_xc (args := [.d (.fn 129 [])]) (fn := Tryz.f125) tab ⟨[(0, [1]), (1, [2])], [], [], []⟩ 4 [.tmp 2] rfl rfl rfl rfl rfl rfl ?_
 conv => whnf
 exact rt (E := E_fn_kernel_on_3) h rfl
end Go.Proofs.YtldlcdnhdedoeaaGreat
namespace Go.Proofs.YtldlcdnhdedoeaaGreat
open Go Go.VC
def E_fn_kernel_kinds : Unit → List CV := fun r => [.d (.mp [[.int .i64 (1 : Int), .fn 158 [[.fn 126 []]]], [.int .i64 (4 : Int), .fn 158 [[.fn 127 []]]], [.int .i64 (5 : Int), .fn 158 [[.fn 128 []]]], [.int .i64 (6 : Int), .fn 158 [[.fn 129 []]]], [.int .i64 (2 : Int), .fn 130 []], [.int .i64 (3 : Int), .fn 131 []]])]
noncomputable def kernel_kinds : Option Unit := some ()
theorem kernel_kinds_w (r : Unit) (h : kernel_kinds = some r) : Go.VC.Spec Tryz.prog 73 [] (fun y => y = E_fn_kernel_kinds r) := by
 refine Spec.of_wpF (args := []) (fn := Tryz.f73) rfl rfl rfl rfl ?_
 refine WpF.seq tab ⟨[(0, []), (1, [0])], [], [], []⟩ (rs := [.tmp 0]) rfl ?_
 conv => whnf
 refine WpF.reg (AWp.map rfl rfl rfl rfl rfl ?_)
 conv => whnf
 refine mp_call (r := .fn 158 [[.fn 126 []]]) rfl rfl rfl rfl rfl (kernel_on_w _ rfl) ?_
 conv => whnf
 refine mp_ins rfl rfl rfl rfl Tryz.underlying150 Tryz.underlying3 rfl ?_
 conv => whnf
 refine mp_call (r := .fn 158 [[.fn 127 []]]) rfl rfl rfl rfl rfl (kernel_on_i1_w _ rfl) ?_
 conv => whnf
 refine mp_ins rfl rfl rfl rfl Tryz.underlying150 Tryz.underlying3 rfl ?_
 conv => whnf
 refine mp_call (r := .fn 158 [[.fn 128 []]]) rfl rfl rfl rfl rfl (kernel_on_2_w _ rfl) ?_
 conv => whnf
 refine mp_ins rfl rfl rfl rfl Tryz.underlying150 Tryz.underlying3 rfl ?_
 conv => whnf
 refine mp_call (r := .fn 158 [[.fn 129 []]]) rfl rfl rfl rfl rfl (kernel_on_3_w _ rfl) ?_
 conv => whnf
 refine mp_ins rfl rfl rfl rfl Tryz.underlying150 Tryz.underlying3 rfl ?_
 conv => whnf
 refine mp_ins rfl rfl rfl rfl Tryz.underlying150 Tryz.underlying3 rfl ?_
 conv => whnf
 refine mp_ins rfl rfl rfl rfl Tryz.underlying150 Tryz.underlying3 rfl ?_
 conv => whnf
 refine mp_end tab rfl ?_
 conv => whnf
 exact WpF.ret tab (rs := [.tmp 0]) rfl (RetOk.mk ⟨_, rfl, rfl⟩)
end Go.Proofs.YtldlcdnhdedoeaaGreat
namespace Go.Proofs.YtldlcdnhdedoeaaGreat
open Go Go.VC
noncomputable def kernel_kinds_1 (a0 : PartState) (a1 : Face) (a2 : KernelCmd) (a3 : Int) : Option (PartState × Int) :=
 bnd (part_Release a0 a2.I a2.V a3) fun x1 => some (x1.1, x1.2)
theorem kernel_kinds_1_w (a0 : PartState) (a1 : Face) (a2 : KernelCmd) (a3 : Int) (r : PartState × Int) (h : kernel_kinds_1 a0 a1 a2 a3 = some r) : Go.VC.Spec Tryz.prog 126 [.agg (PartState.enc a0), .agg (Face.enc a1), .agg (KernelCmd.enc a2), .d (.int .i64 a3)] (fun y => y = E_PartState_Int r) := by
 refine Go.VC.Spec.of_xc (args := [.agg (PartState.enc a0), .agg (Face.enc a1), .agg (KernelCmd.enc a2), .d (.int .i64 a3)]) (fn := Tryz.f126) tab ⟨[(0, [3, 4, 6, 8]), (1, [8, 9])], [], [], []⟩ 19 [.cell 8 51, .tmp 9] rfl rfl rfl rfl rfl rfl ?_
 conv => whnf
 refine ccS (E := E_PartState_Int) h (part_Release_w a0 a2.I a2.V a3) rfl rfl (fun x1 h => ?_)
 conv => whnf
 exact rt (E := E_PartState_Int) h rfl
end Go.Proofs.YtldlcdnhdedoeaaGreat
namespace Go.Proofs.YtldlcdnhdedoeaaGreat
open Go Go.VC
noncomputable def kernel_on_1 (a0 : KernelState) (a1 : KernelCmd) : Option (KernelState × Int × Int) :=
 ix a0.Parts a1.Part fun x1 => ix a0.Faces a1.Part fun x2 => bnd (kernel_kinds_1 x1 x2 a1 a0.Now) fun x3 => bnd (kernel_State_with a0 a1.Part x3.1) fun x4 => some (x4, (0 : Int), x3.2)
theorem kernel_on_1_w (a0 : KernelState) (a1 : KernelCmd) (r : KernelState × Int × Int) (h : kernel_on_1 a0 a1 = some r) : Go.VC.Spec Tryz.prog 158 [.agg (KernelState.enc a0), .agg (KernelCmd.enc a1), .dp [.fn 126 []]] (fun y => y = E_KernelState_Int_Int r) := by
 refine Go.VC.Spec.of_xc (args := [.agg (KernelState.enc a0), .agg (KernelCmd.enc a1), .dp [.fn 126 []]]) (fn := Tryz.f158) tab ⟨[(0, [2, 3, 4, 5]), (1, [3, 4, 5, 8, 9]), (2, [5, 6, 7])], [], [], []⟩ 36 [.cell 5 35, .tmp 6, .tmp 7] rfl rfl rfl rfl rfl rfl ?_
 conv => whnf
 refine ⟨22, ?_⟩
 conv => whnf
 refine ixS (enc := PartState.enc) h rfl (fun _ => rfl) (fun x1 h => ?_)
 conv => whnf
 refine ixS (enc := Face.enc) h rfl (fun _ => rfl) (fun x2 h => ?_)
 conv => whnf
 refine dcS (E := E_PartState_Int) h (kernel_kinds_1_w x1 x2 a1 a0.Now) rfl (fun x3 h => ?_)
 conv => whnf
 refine drS (by kernel_rfl) ?_
 conv => whnf
 refine ccS (E := E_KernelState) h (kernel_State_with_w a0 a1.Part x3.1) rfl rfl (fun x4 h => ?_)
 conv => whnf
 exact rt (E := E_KernelState_Int_Int) h rfl
end Go.Proofs.YtldlcdnhdedoeaaGreat
namespace Go.Proofs.YtldlcdnhdedoeaaGreat
open Go Go.VC
noncomputable def kernel_kinds_2 (a0 : PartState) (a1 : Face) (a2 : KernelCmd) (a3 : Int) : Option (PartState × Int) :=
 bnd (admit_Add a0 a1 a2.T) fun x1 => some (x1.1, x1.2)
theorem kernel_kinds_2_w (a0 : PartState) (a1 : Face) (a2 : KernelCmd) (a3 : Int) (r : PartState × Int) (h : kernel_kinds_2 a0 a1 a2 a3 = some r) : Go.VC.Spec Tryz.prog 127 [.agg (PartState.enc a0), .agg (Face.enc a1), .agg (KernelCmd.enc a2), .d (.int .i64 a3)] (fun y => y = E_PartState_Int r) := by
 refine Go.VC.Spec.of_xc (args := [.agg (PartState.enc a0), .agg (Face.enc a1), .agg (KernelCmd.enc a2), .d (.int .i64 a3)]) (fn := Tryz.f127) tab ⟨[(0, [4, 5, 6, 8]), (1, [8, 9])], [], [], []⟩ 17 [.cell 8 51, .tmp 9] rfl rfl rfl rfl rfl rfl ?_
 conv => whnf
 refine ccS (E := E_PartState_Int) h (admit_Add_w a0 a1 a2.T) rfl rfl (fun x1 h => ?_)
 conv => whnf
 exact rt (E := E_PartState_Int) h rfl
end Go.Proofs.YtldlcdnhdedoeaaGreat
namespace Go.Proofs.YtldlcdnhdedoeaaGreat
open Go Go.VC
noncomputable def kernel_on_1_1 (a0 : KernelState) (a1 : KernelCmd) : Option (KernelState × Int × Int) :=
 ix a0.Parts a1.Part fun x1 => ix a0.Faces a1.Part fun x2 => bnd (kernel_kinds_2 x1 x2 a1 a0.Now) fun x3 => bnd (kernel_State_with a0 a1.Part x3.1) fun x4 => some (x4, (0 : Int), x3.2)
theorem kernel_on_1_1_w (a0 : KernelState) (a1 : KernelCmd) (r : KernelState × Int × Int) (h : kernel_on_1_1 a0 a1 = some r) : Go.VC.Spec Tryz.prog 158 [.agg (KernelState.enc a0), .agg (KernelCmd.enc a1), .dp [.fn 127 []]] (fun y => y = E_KernelState_Int_Int r) := by
 refine Go.VC.Spec.of_xc (args := [.agg (KernelState.enc a0), .agg (KernelCmd.enc a1), .dp [.fn 127 []]]) (fn := Tryz.f158) tab ⟨[(0, [2, 3, 4, 5]), (1, [3, 4, 5, 8, 9]), (2, [5, 6, 7])], [], [], []⟩ 36 [.cell 5 35, .tmp 6, .tmp 7] rfl rfl rfl rfl rfl rfl ?_
 conv => whnf
 refine ⟨22, ?_⟩
 conv => whnf
 refine ixS (enc := PartState.enc) h rfl (fun _ => rfl) (fun x1 h => ?_)
 conv => whnf
 refine ixS (enc := Face.enc) h rfl (fun _ => rfl) (fun x2 h => ?_)
 conv => whnf
 refine dcS (E := E_PartState_Int) h (kernel_kinds_2_w x1 x2 a1 a0.Now) rfl (fun x3 h => ?_)
 conv => whnf
 refine drS (by kernel_rfl) ?_
 conv => whnf
 refine ccS (E := E_KernelState) h (kernel_State_with_w a0 a1.Part x3.1) rfl rfl (fun x4 h => ?_)
 conv => whnf
 exact rt (E := E_KernelState_Int_Int) h rfl
end Go.Proofs.YtldlcdnhdedoeaaGreat
namespace Go.Proofs.YtldlcdnhdedoeaaGreat
open Go Go.VC
noncomputable def kernel_kinds_3 (a0 : PartState) (a1 : Face) (a2 : KernelCmd) (a3 : Int) : Option (PartState × Int) :=
 bnd (admit_Drop a0 a2.I) fun x1 => some (x1.1, x1.2)
theorem kernel_kinds_3_w (a0 : PartState) (a1 : Face) (a2 : KernelCmd) (a3 : Int) (r : PartState × Int) (h : kernel_kinds_3 a0 a1 a2 a3 = some r) : Go.VC.Spec Tryz.prog 128 [.agg (PartState.enc a0), .agg (Face.enc a1), .agg (KernelCmd.enc a2), .d (.int .i64 a3)] (fun y => y = E_PartState_Int r) := by
 refine Go.VC.Spec.of_xc (args := [.agg (PartState.enc a0), .agg (Face.enc a1), .agg (KernelCmd.enc a2), .d (.int .i64 a3)]) (fn := Tryz.f128) tab ⟨[(0, [4, 6, 8]), (1, [8, 9])], [], [], []⟩ 16 [.cell 8 51, .tmp 9] rfl rfl rfl rfl rfl rfl ?_
 conv => whnf
 refine ccS (E := E_PartState_Int) h (admit_Drop_w a0 a2.I) rfl rfl (fun x1 h => ?_)
 conv => whnf
 exact rt (E := E_PartState_Int) h rfl
end Go.Proofs.YtldlcdnhdedoeaaGreat
namespace Go.Proofs.YtldlcdnhdedoeaaGreat
open Go Go.VC
noncomputable def kernel_on_1_2 (a0 : KernelState) (a1 : KernelCmd) : Option (KernelState × Int × Int) :=
 ix a0.Parts a1.Part fun x1 => ix a0.Faces a1.Part fun x2 => bnd (kernel_kinds_3 x1 x2 a1 a0.Now) fun x3 => bnd (kernel_State_with a0 a1.Part x3.1) fun x4 => some (x4, (0 : Int), x3.2)
theorem kernel_on_1_2_w (a0 : KernelState) (a1 : KernelCmd) (r : KernelState × Int × Int) (h : kernel_on_1_2 a0 a1 = some r) : Go.VC.Spec Tryz.prog 158 [.agg (KernelState.enc a0), .agg (KernelCmd.enc a1), .dp [.fn 128 []]] (fun y => y = E_KernelState_Int_Int r) := by
 refine Go.VC.Spec.of_xc (args := [.agg (KernelState.enc a0), .agg (KernelCmd.enc a1), .dp [.fn 128 []]]) (fn := Tryz.f158) tab ⟨[(0, [2, 3, 4, 5]), (1, [3, 4, 5, 8, 9]), (2, [5, 6, 7])], [], [], []⟩ 36 [.cell 5 35, .tmp 6, .tmp 7] rfl rfl rfl rfl rfl rfl ?_
 conv => whnf
 refine ⟨22, ?_⟩
 conv => whnf
 refine ixS (enc := PartState.enc) h rfl (fun _ => rfl) (fun x1 h => ?_)
 conv => whnf
 refine ixS (enc := Face.enc) h rfl (fun _ => rfl) (fun x2 h => ?_)
 conv => whnf
 refine dcS (E := E_PartState_Int) h (kernel_kinds_3_w x1 x2 a1 a0.Now) rfl (fun x3 h => ?_)
 conv => whnf
 refine drS (by kernel_rfl) ?_
 conv => whnf
 refine ccS (E := E_KernelState) h (kernel_State_with_w a0 a1.Part x3.1) rfl rfl (fun x4 h => ?_)
 conv => whnf
 exact rt (E := E_KernelState_Int_Int) h rfl
end Go.Proofs.YtldlcdnhdedoeaaGreat
namespace Go.Proofs.YtldlcdnhdedoeaaGreat
open Go Go.VC
noncomputable def kernel_kinds_4 (a0 : PartState) (a1 : Face) (a2 : KernelCmd) (a3 : Int) : Option (PartState × Int) :=
 bnd (admit_Change a0 a1 a2.I a2.T) fun x1 => some (x1.1, x1.2)
theorem kernel_kinds_4_w (a0 : PartState) (a1 : Face) (a2 : KernelCmd) (a3 : Int) (r : PartState × Int) (h : kernel_kinds_4 a0 a1 a2 a3 = some r) : Go.VC.Spec Tryz.prog 129 [.agg (PartState.enc a0), .agg (Face.enc a1), .agg (KernelCmd.enc a2), .d (.int .i64 a3)] (fun y => y = E_PartState_Int r) := by
 refine Go.VC.Spec.of_xc (args := [.agg (PartState.enc a0), .agg (Face.enc a1), .agg (KernelCmd.enc a2), .d (.int .i64 a3)]) (fn := Tryz.f129) tab ⟨[(0, [4, 5, 6, 8]), (1, [8, 9])], [], [], []⟩ 19 [.cell 8 51, .tmp 9] rfl rfl rfl rfl rfl rfl ?_
 conv => whnf
 refine ccS (E := E_PartState_Int) h (admit_Change_w a0 a1 a2.I a2.T) rfl rfl (fun x1 h => ?_)
 conv => whnf
 exact rt (E := E_PartState_Int) h rfl
end Go.Proofs.YtldlcdnhdedoeaaGreat
namespace Go.Proofs.YtldlcdnhdedoeaaGreat
open Go Go.VC
noncomputable def kernel_on_1_3 (a0 : KernelState) (a1 : KernelCmd) : Option (KernelState × Int × Int) :=
 ix a0.Parts a1.Part fun x1 => ix a0.Faces a1.Part fun x2 => bnd (kernel_kinds_4 x1 x2 a1 a0.Now) fun x3 => bnd (kernel_State_with a0 a1.Part x3.1) fun x4 => some (x4, (0 : Int), x3.2)
theorem kernel_on_1_3_w (a0 : KernelState) (a1 : KernelCmd) (r : KernelState × Int × Int) (h : kernel_on_1_3 a0 a1 = some r) : Go.VC.Spec Tryz.prog 158 [.agg (KernelState.enc a0), .agg (KernelCmd.enc a1), .dp [.fn 129 []]] (fun y => y = E_KernelState_Int_Int r) := by
 refine Go.VC.Spec.of_xc (args := [.agg (KernelState.enc a0), .agg (KernelCmd.enc a1), .dp [.fn 129 []]]) (fn := Tryz.f158) tab ⟨[(0, [2, 3, 4, 5]), (1, [3, 4, 5, 8, 9]), (2, [5, 6, 7])], [], [], []⟩ 36 [.cell 5 35, .tmp 6, .tmp 7] rfl rfl rfl rfl rfl rfl ?_
 conv => whnf
 refine ⟨22, ?_⟩
 conv => whnf
 refine ixS (enc := PartState.enc) h rfl (fun _ => rfl) (fun x1 h => ?_)
 conv => whnf
 refine ixS (enc := Face.enc) h rfl (fun _ => rfl) (fun x2 h => ?_)
 conv => whnf
 refine dcS (E := E_PartState_Int) h (kernel_kinds_4_w x1 x2 a1 a0.Now) rfl (fun x3 h => ?_)
 conv => whnf
 refine drS (by kernel_rfl) ?_
 conv => whnf
 refine ccS (E := E_KernelState) h (kernel_State_with_w a0 a1.Part x3.1) rfl rfl (fun x4 h => ?_)
 conv => whnf
 exact rt (E := E_KernelState_Int_Int) h rfl
end Go.Proofs.YtldlcdnhdedoeaaGreat
namespace Go.Proofs.YtldlcdnhdedoeaaGreat
open Go Go.VC
noncomputable def kernel_kinds_5 (a0 : KernelState) (a1 : KernelCmd) : Option (KernelState × Int × Int) :=
 bnd (port_Send a0.Lines a1.Part a1.I a1.V) fun x1 => some (⟨a0.Table, a0.Faces, a0.Parts, x1.1, a0.Now⟩, (0 : Int), x1.2)
theorem kernel_kinds_5_w (a0 : KernelState) (a1 : KernelCmd) (r : KernelState × Int × Int) (h : kernel_kinds_5 a0 a1 = some r) : Go.VC.Spec Tryz.prog 130 [.agg (KernelState.enc a0), .agg (KernelCmd.enc a1)] (fun y => y = E_KernelState_Int_Int r) := by
 refine Go.VC.Spec.of_xc (args := [.agg (KernelState.enc a0), .agg (KernelCmd.enc a1)]) (fn := Tryz.f130) tab ⟨[(0, [2, 3, 4]), (1, [2, 4, 7, 8]), (2, [2, 4, 8]), (3, [4, 5, 6])], [], [], []⟩ 25 [.cell 4 35, .tmp 5, .tmp 6] rfl rfl rfl rfl rfl rfl ?_
 conv => whnf
 refine ccS (E := E_ListPortLine_Int) h (port_Send_w a0.Lines a1.Part a1.I a1.V) rfl rfl (fun x1 h => ?_)
 conv => whnf
 exact rt (E := E_KernelState_Int_Int) h rfl
end Go.Proofs.YtldlcdnhdedoeaaGreat
namespace Go.Proofs.YtldlcdnhdedoeaaGreat
open Go Go.VC
noncomputable def kernel_kinds_6 (a0 : KernelState) (a1 : KernelCmd) : Option (KernelState × Int × Int) :=
 bnd (port_Read a0.Lines a1.Part a1.I) fun x1 => some (⟨a0.Table, a0.Faces, a0.Parts, x1.2.1, a0.Now⟩, x1.1, x1.2.2)
theorem kernel_kinds_6_w (a0 : KernelState) (a1 : KernelCmd) (r : KernelState × Int × Int) (h : kernel_kinds_6 a0 a1 = some r) : Go.VC.Spec Tryz.prog 131 [.agg (KernelState.enc a0), .agg (KernelCmd.enc a1)] (fun y => y = E_KernelState_Int_Int r) := by
 refine Go.VC.Spec.of_xc (args := [.agg (KernelState.enc a0), .agg (KernelCmd.enc a1)]) (fn := Tryz.f131) tab ⟨[(0, [2, 3, 4]), (1, [2, 4, 7, 8, 9]), (2, [2, 4, 7, 9]), (3, [4, 5, 6])], [], [], []⟩ 26 [.cell 4 35, .tmp 5, .tmp 6] rfl rfl rfl rfl rfl rfl ?_
 conv => whnf
 refine ccS (E := E_Int_ListPortLine_Int) h (port_Read_w a0.Lines a1.Part a1.I) rfl rfl (fun x1 h => ?_)
 conv => whnf
 exact rt (E := E_KernelState_Int_Int) h rfl
end Go.Proofs.YtldlcdnhdedoeaaGreat
namespace Go.Proofs.YtldlcdnhdedoeaaGreat
open Go Go.VC
noncomputable def kernel_Do (a0 : KernelState) (a1 : KernelCmd) : Option (KernelState × Int × Int) :=
 bnd (kernel_Right a0) fun x1 => fk (!x1) (some (a0, (0 : Int), (1 : Int))) (bnd kernel_kinds fun x2 => fk (decide (a1.Kind = (1 : Int))) (jn (fun (w3 : Bool) => fk w3 (some (a0, (0 : Int), (4 : Int))) (bnd (kernel_on_1 a0 a1) fun x4 => some (x4.1, x4.2.1, x4.2.2))) (fun k3 => fk (decide (a1.Part < (0 : Int))) (k3 true) (k3 (decide (a1.Part ≥ (a0.Parts.length : Int)))))) (fk (decide (a1.Kind = (4 : Int))) (jn (fun (w5 : Bool) => fk w5 (some (a0, (0 : Int), (4 : Int))) (bnd (kernel_on_1_1 a0 a1) fun x6 => some (x6.1, x6.2.1, x6.2.2))) (fun k5 => fk (decide (a1.Part < (0 : Int))) (k5 true) (k5 (decide (a1.Part ≥ (a0.Parts.length : Int)))))) (fk (decide (a1.Kind = (5 : Int))) (jn (fun (w7 : Bool) => fk w7 (some (a0, (0 : Int), (4 : Int))) (bnd (kernel_on_1_2 a0 a1) fun x8 => some (x8.1, x8.2.1, x8.2.2))) (fun k7 => fk (decide (a1.Part < (0 : Int))) (k7 true) (k7 (decide (a1.Part ≥ (a0.Parts.length : Int)))))) (fk (decide (a1.Kind = (6 : Int))) (jn (fun (w9 : Bool) => fk w9 (some (a0, (0 : Int), (4 : Int))) (bnd (kernel_on_1_3 a0 a1) fun x10 => some (x10.1, x10.2.1, x10.2.2))) (fun k9 => fk (decide (a1.Part < (0 : Int))) (k9 true) (k9 (decide (a1.Part ≥ (a0.Parts.length : Int)))))) (fk (decide (a1.Kind = (2 : Int))) (jn (fun (w11 : Bool) => fk w11 (some (a0, (0 : Int), (4 : Int))) (bnd (kernel_kinds_5 a0 a1) fun x12 => some (x12.1, x12.2.1, x12.2.2))) (fun k11 => fk (decide (a1.Part < (0 : Int))) (k11 true) (k11 (decide (a1.Part ≥ (a0.Parts.length : Int)))))) (fk (decide (a1.Kind = (3 : Int))) (jn (fun (w13 : Bool) => fk w13 (some (a0, (0 : Int), (4 : Int))) (bnd (kernel_kinds_6 a0 a1) fun x14 => some (x14.1, x14.2.1, x14.2.2))) (fun k13 => fk (decide (a1.Part < (0 : Int))) (k13 true) (k13 (decide (a1.Part ≥ (a0.Parts.length : Int)))))) (jn (fun (w15 : Unit) => some (a0, (0 : Int), (4 : Int))) (fun k15 => k15 ()))))))))
theorem kernel_Do_w (a0 : KernelState) (a1 : KernelCmd) (r : KernelState × Int × Int) (h : kernel_Do a0 a1 = some r) : Go.VC.Spec Tryz.prog 27 [.agg (KernelState.enc a0), .agg (KernelCmd.enc a1)] (fun y => y = E_KernelState_Int_Int r) := by
 refine Go.VC.Spec.of_xc (args := [.agg (KernelState.enc a0), .agg (KernelCmd.enc a1)]) (fn := Tryz.f27) tab ⟨[(0, [2, 3, 4]), (1, [2, 3, 4, 10]), (2, [4, 5, 6]), (3, [2, 3, 4, 7]), (4, [2, 3, 4, 7, 30]), (5, [4, 5, 6]), (6, [4, 5, 6])], [], [100030], []⟩ 39 [.cell 4 35, .tmp 5, .tmp 6] rfl rfl rfl rfl rfl rfl ?_
 conv => whnf
 refine caS (E := E_Bool) h (kernel_Right_w a0) rfl (fun _ => rfl) (fun x1 h => ?_)
 conv => whnf
 refine fkS h (fun h => ?_) (fun h => ?_)
 ·conv => whnf
  exact rt (E := E_KernelState_Int_Int) h rfl
 conv => whnf
 refine ⟨3, ?_⟩
 conv => whnf
 refine dcS (E := E_fn_kernel_kinds) h kernel_kinds_w rfl (fun x2 h => ?_)
 conv => whnf
 refine drS (by kernel_rfl) ?_
 conv => whnf
 refine lkS (zv := .nilFunc) (zd := .nilfn) rfl rfl rfl rfl Tryz.underlying150 Tryz.underlying3 (by kernel_rfl) rfl ?_
 conv => whnf
 refine fkS h (fun h => ?_) (fun h => ?_)
 ·conv => whnf
  refine jnS (fun w3 => ⟨[(2, .l (.ptr 3 0)), (3, .l (.ptr 4 0)), (4, .l (.ptr 5 0)), (7, .l (.d (.fn 158 [[.fn 126 []]]))), (30, .l (.d (.bool w3)))], 39, [], [(3, [.d (.int .i64 a0.Table.Frame), .d (.sl (a0.Table.Windows.map Window.enc)), .d (.sl (a0.Faces.map Face.enc)), .d (.sl (a0.Parts.map PartState.enc)), .d (.sl (a0.Lines.map PortLine.enc)), .d (.int .i64 a0.Now)]), (4, [.d (.int .i64 a1.Part), .d (.int .i64 a1.Kind), .d (.int .i64 a1.I), .d (.int .i64 a1.V), .d (.int .i64 a1.T.C), .d (.int .i64 a1.T.D), .d (.int .i64 a1.T.T), .d (.sl (a1.T.Secs.map Sec.enc))]), (5, [.d (.int .i64 (0 : Int)), .nil, .nil, .nil, .nil, .d (.int .i64 (0 : Int))])], []⟩) h (fun k3 hk3 h => ?_) (fun w3 h => ?_)
  ·conv => whnf
   refine fnS rfl rfl rfl Tryz.underlying73 ?_
   conv => whnf
   refine fkS h (fun h => ?_) (fun h => ?_)
   ·conv => whnf
    exact jeS hk3 h (Weak.refl _)
   conv => whnf
   refine lenS a0.Parts PartState.enc rfl ?_
   conv => whnf
   exact jeS hk3 h (Weak.refl _)
  conv => whnf
  refine fkS h (fun h => ?_) (fun h => ?_)
  ·conv => whnf
   exact rt (E := E_KernelState_Int_Int) h rfl
  conv => whnf
  refine ccS (E := E_KernelState_Int_Int) h (kernel_on_1_w a0 a1) rfl rfl (fun x4 h => ?_)
  conv => whnf
  exact rt (E := E_KernelState_Int_Int) h rfl
 conv => whnf
 refine fkS h (fun h => ?_) (fun h => ?_)
 ·conv => whnf
  refine jnS (fun w5 => ⟨[(2, .l (.ptr 3 0)), (3, .l (.ptr 4 0)), (4, .l (.ptr 5 0)), (7, .l (.d (.fn 158 [[.fn 127 []]]))), (30, .l (.d (.bool w5)))], 39, [], [(3, [.d (.int .i64 a0.Table.Frame), .d (.sl (a0.Table.Windows.map Window.enc)), .d (.sl (a0.Faces.map Face.enc)), .d (.sl (a0.Parts.map PartState.enc)), .d (.sl (a0.Lines.map PortLine.enc)), .d (.int .i64 a0.Now)]), (4, [.d (.int .i64 a1.Part), .d (.int .i64 a1.Kind), .d (.int .i64 a1.I), .d (.int .i64 a1.V), .d (.int .i64 a1.T.C), .d (.int .i64 a1.T.D), .d (.int .i64 a1.T.T), .d (.sl (a1.T.Secs.map Sec.enc))]), (5, [.d (.int .i64 (0 : Int)), .nil, .nil, .nil, .nil, .d (.int .i64 (0 : Int))])], []⟩) h (fun k5 hk5 h => ?_) (fun w5 h => ?_)
  ·conv => whnf
   refine fnS rfl rfl rfl Tryz.underlying73 ?_
   conv => whnf
   refine fkS h (fun h => ?_) (fun h => ?_)
   ·conv => whnf
    exact jeS hk5 h (Weak.refl _)
   conv => whnf
   refine lenS a0.Parts PartState.enc rfl ?_
   conv => whnf
   exact jeS hk5 h (Weak.refl _)
  conv => whnf
  refine fkS h (fun h => ?_) (fun h => ?_)
  ·conv => whnf
   exact rt (E := E_KernelState_Int_Int) h rfl
  conv => whnf
  refine ccS (E := E_KernelState_Int_Int) h (kernel_on_1_1_w a0 a1) rfl rfl (fun x6 h => ?_)
  conv => whnf
  exact rt (E := E_KernelState_Int_Int) h rfl
 conv => whnf
 refine fkS h (fun h => ?_) (fun h => ?_)
 ·conv => whnf
  refine jnS (fun w7 => ⟨[(2, .l (.ptr 3 0)), (3, .l (.ptr 4 0)), (4, .l (.ptr 5 0)), (7, .l (.d (.fn 158 [[.fn 128 []]]))), (30, .l (.d (.bool w7)))], 39, [], [(3, [.d (.int .i64 a0.Table.Frame), .d (.sl (a0.Table.Windows.map Window.enc)), .d (.sl (a0.Faces.map Face.enc)), .d (.sl (a0.Parts.map PartState.enc)), .d (.sl (a0.Lines.map PortLine.enc)), .d (.int .i64 a0.Now)]), (4, [.d (.int .i64 a1.Part), .d (.int .i64 a1.Kind), .d (.int .i64 a1.I), .d (.int .i64 a1.V), .d (.int .i64 a1.T.C), .d (.int .i64 a1.T.D), .d (.int .i64 a1.T.T), .d (.sl (a1.T.Secs.map Sec.enc))]), (5, [.d (.int .i64 (0 : Int)), .nil, .nil, .nil, .nil, .d (.int .i64 (0 : Int))])], []⟩) h (fun k7 hk7 h => ?_) (fun w7 h => ?_)
  ·conv => whnf
   refine fnS rfl rfl rfl Tryz.underlying73 ?_
   conv => whnf
   refine fkS h (fun h => ?_) (fun h => ?_)
   ·conv => whnf
    exact jeS hk7 h (Weak.refl _)
   conv => whnf
   refine lenS a0.Parts PartState.enc rfl ?_
   conv => whnf
   exact jeS hk7 h (Weak.refl _)
  conv => whnf
  refine fkS h (fun h => ?_) (fun h => ?_)
  ·conv => whnf
   exact rt (E := E_KernelState_Int_Int) h rfl
  conv => whnf
  refine ccS (E := E_KernelState_Int_Int) h (kernel_on_1_2_w a0 a1) rfl rfl (fun x8 h => ?_)
  conv => whnf
  exact rt (E := E_KernelState_Int_Int) h rfl
 conv => whnf
 refine fkS h (fun h => ?_) (fun h => ?_)
 ·conv => whnf
  refine jnS (fun w9 => ⟨[(2, .l (.ptr 3 0)), (3, .l (.ptr 4 0)), (4, .l (.ptr 5 0)), (7, .l (.d (.fn 158 [[.fn 129 []]]))), (30, .l (.d (.bool w9)))], 39, [], [(3, [.d (.int .i64 a0.Table.Frame), .d (.sl (a0.Table.Windows.map Window.enc)), .d (.sl (a0.Faces.map Face.enc)), .d (.sl (a0.Parts.map PartState.enc)), .d (.sl (a0.Lines.map PortLine.enc)), .d (.int .i64 a0.Now)]), (4, [.d (.int .i64 a1.Part), .d (.int .i64 a1.Kind), .d (.int .i64 a1.I), .d (.int .i64 a1.V), .d (.int .i64 a1.T.C), .d (.int .i64 a1.T.D), .d (.int .i64 a1.T.T), .d (.sl (a1.T.Secs.map Sec.enc))]), (5, [.d (.int .i64 (0 : Int)), .nil, .nil, .nil, .nil, .d (.int .i64 (0 : Int))])], []⟩) h (fun k9 hk9 h => ?_) (fun w9 h => ?_)
  ·conv => whnf
   refine fnS rfl rfl rfl Tryz.underlying73 ?_
   conv => whnf
   refine fkS h (fun h => ?_) (fun h => ?_)
   ·conv => whnf
    exact jeS hk9 h (Weak.refl _)
   conv => whnf
   refine lenS a0.Parts PartState.enc rfl ?_
   conv => whnf
   exact jeS hk9 h (Weak.refl _)
  conv => whnf
  refine fkS h (fun h => ?_) (fun h => ?_)
  ·conv => whnf
   exact rt (E := E_KernelState_Int_Int) h rfl
  conv => whnf
  refine ccS (E := E_KernelState_Int_Int) h (kernel_on_1_3_w a0 a1) rfl rfl (fun x10 h => ?_)
  conv => whnf
  exact rt (E := E_KernelState_Int_Int) h rfl
 conv => whnf
 refine fkS h (fun h => ?_) (fun h => ?_)
 ·conv => whnf
  refine jnS (fun w11 => ⟨[(2, .l (.ptr 3 0)), (3, .l (.ptr 4 0)), (4, .l (.ptr 5 0)), (7, .l (.d (.fn 130 []))), (30, .l (.d (.bool w11)))], 39, [], [(3, [.d (.int .i64 a0.Table.Frame), .d (.sl (a0.Table.Windows.map Window.enc)), .d (.sl (a0.Faces.map Face.enc)), .d (.sl (a0.Parts.map PartState.enc)), .d (.sl (a0.Lines.map PortLine.enc)), .d (.int .i64 a0.Now)]), (4, [.d (.int .i64 a1.Part), .d (.int .i64 a1.Kind), .d (.int .i64 a1.I), .d (.int .i64 a1.V), .d (.int .i64 a1.T.C), .d (.int .i64 a1.T.D), .d (.int .i64 a1.T.T), .d (.sl (a1.T.Secs.map Sec.enc))]), (5, [.d (.int .i64 (0 : Int)), .nil, .nil, .nil, .nil, .d (.int .i64 (0 : Int))])], []⟩) h (fun k11 hk11 h => ?_) (fun w11 h => ?_)
  ·conv => whnf
   refine fnS rfl rfl rfl Tryz.underlying73 ?_
   conv => whnf
   refine fkS h (fun h => ?_) (fun h => ?_)
   ·conv => whnf
    exact jeS hk11 h (Weak.refl _)
   conv => whnf
   refine lenS a0.Parts PartState.enc rfl ?_
   conv => whnf
   exact jeS hk11 h (Weak.refl _)
  conv => whnf
  refine fkS h (fun h => ?_) (fun h => ?_)
  ·conv => whnf
   exact rt (E := E_KernelState_Int_Int) h rfl
  conv => whnf
  refine ccS (E := E_KernelState_Int_Int) h (kernel_kinds_5_w a0 a1) rfl rfl (fun x12 h => ?_)
  conv => whnf
  exact rt (E := E_KernelState_Int_Int) h rfl
 conv => whnf
 refine fkS h (fun h => ?_) (fun h => ?_)
 ·conv => whnf
  refine jnS (fun w13 => ⟨[(2, .l (.ptr 3 0)), (3, .l (.ptr 4 0)), (4, .l (.ptr 5 0)), (7, .l (.d (.fn 131 []))), (30, .l (.d (.bool w13)))], 39, [], [(3, [.d (.int .i64 a0.Table.Frame), .d (.sl (a0.Table.Windows.map Window.enc)), .d (.sl (a0.Faces.map Face.enc)), .d (.sl (a0.Parts.map PartState.enc)), .d (.sl (a0.Lines.map PortLine.enc)), .d (.int .i64 a0.Now)]), (4, [.d (.int .i64 a1.Part), .d (.int .i64 a1.Kind), .d (.int .i64 a1.I), .d (.int .i64 a1.V), .d (.int .i64 a1.T.C), .d (.int .i64 a1.T.D), .d (.int .i64 a1.T.T), .d (.sl (a1.T.Secs.map Sec.enc))]), (5, [.d (.int .i64 (0 : Int)), .nil, .nil, .nil, .nil, .d (.int .i64 (0 : Int))])], []⟩) h (fun k13 hk13 h => ?_) (fun w13 h => ?_)
  ·conv => whnf
   refine fnS rfl rfl rfl Tryz.underlying73 ?_
   conv => whnf
   refine fkS h (fun h => ?_) (fun h => ?_)
   ·conv => whnf
    exact jeS hk13 h (Weak.refl _)
   conv => whnf
   refine lenS a0.Parts PartState.enc rfl ?_
   conv => whnf
   exact jeS hk13 h (Weak.refl _)
  conv => whnf
  refine fkS h (fun h => ?_) (fun h => ?_)
  ·conv => whnf
   exact rt (E := E_KernelState_Int_Int) h rfl
  conv => whnf
  refine ccS (E := E_KernelState_Int_Int) h (kernel_kinds_6_w a0 a1) rfl rfl (fun x14 h => ?_)
  conv => whnf
  exact rt (E := E_KernelState_Int_Int) h rfl
 conv => whnf
 refine jnS (fun w15 => ⟨[(2, .l (.ptr 3 0)), (3, .l (.ptr 4 0)), (4, .l (.ptr 5 0)), (7, .l (.d .nilfn)), (30, .l (.d (.bool true)))], 39, [], [(3, [.d (.int .i64 a0.Table.Frame), .d (.sl (a0.Table.Windows.map Window.enc)), .d (.sl (a0.Faces.map Face.enc)), .d (.sl (a0.Parts.map PartState.enc)), .d (.sl (a0.Lines.map PortLine.enc)), .d (.int .i64 a0.Now)]), (4, [.d (.int .i64 a1.Part), .d (.int .i64 a1.Kind), .d (.int .i64 a1.I), .d (.int .i64 a1.V), .d (.int .i64 a1.T.C), .d (.int .i64 a1.T.D), .d (.int .i64 a1.T.T), .d (.sl (a1.T.Secs.map Sec.enc))]), (5, [.d (.int .i64 (0 : Int)), .nil, .nil, .nil, .nil, .d (.int .i64 (0 : Int))])], []⟩) h (fun k15 hk15 h => ?_) (fun w15 h => ?_)
 ·conv => whnf
  refine fnN rfl rfl rfl Tryz.underlying73 ?_
  conv => whnf
  exact jeS hk15 h (Weak.refl _)
 conv => whnf
 exact rt (E := E_KernelState_Int_Int) h rfl
end Go.Proofs.YtldlcdnhdedoeaaGreat
namespace Go.Proofs.YtldlcdnhdedoeaaGreat
open Go Go.VC
noncomputable def kernel_Tick (a0 : KernelState) : Option (KernelState × (List Int) × Int) :=
 bnd (kernel_Right a0) fun x1 => fk (!x1) (some (a0, [], (1 : Int))) (jn (fun (w2 : List PortLine) => bnd (table_At a0.Table a0.Now) fun x4 => lp (fun nx5 (v5 : Int × (List Window) × (List Face) × (List PartState) × (List PortLine) × Int × (List Int) × Int) => fk (decide (v5.2.2.2.2.2.2.2 < (a0.Parts.length : Int))) (ix a0.Parts v5.2.2.2.2.2.2.2 fun x6 => bnd (part_Tick x6 (decide (v5.2.2.2.2.2.2.2 = x4)) v5.2.2.2.2.2.1) fun x7 => bnd (kernel_State_with (⟨⟨v5.1, v5.2.1⟩, v5.2.2.1, v5.2.2.2.1, v5.2.2.2.2.1, v5.2.2.2.2.2.1⟩) v5.2.2.2.2.2.2.2 x7.1) fun x8 => ck (decide ((v5.2.2.2.2.2.2.1.length + ([x7.2.1] : List Int).length) * 8 ≤ 140737488355328)) (nx5 (x8.Table.Frame, x8.Table.Windows, x8.Faces, x8.Parts, x8.Lines, x8.Now, v5.2.2.2.2.2.2.1 ++ ([x7.2.1] : List Int), (wr (v5.2.2.2.2.2.2.2 + (1 : Int)))))) (some (⟨⟨v5.1, v5.2.1⟩, v5.2.2.1, v5.2.2.2.1, v5.2.2.2.2.1, (wr (v5.2.2.2.2.2.1 + (1 : Int)))⟩, v5.2.2.2.2.2.2.1, (0 : Int)))) FU (a0.Table.Frame, a0.Table.Windows, a0.Faces, a0.Parts, w2, a0.Now, [], (0 : Int))) (fun k2 => ck (decide (a0.Table.Frame ≠ 0)) (fk (decide ((a0.Now.tmod a0.Table.Frame) = (0 : Int))) (bnd (port_Deliver a0.Lines) fun x3 => k2 x3) (k2 a0.Lines))))
theorem kernel_Tick_w (a0 : KernelState) (r : KernelState × (List Int) × Int) (h : kernel_Tick a0 = some r) : Go.VC.Spec Tryz.prog 34 [.agg (KernelState.enc a0)] (fun y => y = E_KernelState_ListInt_Int r) := by
 refine Go.VC.Spec.of_xc (args := [.agg (KernelState.enc a0)]) (fn := Tryz.f34) tab ⟨[(0, [1, 2]), (1, [1, 2, 14]), (2, [2, 3, 4]), (3, [1, 2, 22]), (4, [1, 2]), (5, [1, 2, 5]), (6, [1, 2, 5, 6]), (7, [1, 2, 5, 6, 33, 34, 35]), (8, [1, 2, 5, 6, 33, 34, 35, 36]), (9, [1, 2, 5, 6, 7, 8, 33, 34, 35]), (10, [1, 2, 5, 6, 7, 9, 10, 33, 34, 35]), (11, [1, 2, 5, 6, 10, 33, 34, 35]), (12, [1, 2, 5, 6, 33, 34, 35]), (13, [1, 2, 5, 6, 33, 34, 35]), (14, [1, 2, 6]), (15, [2, 3, 4])], [], [5], []⟩ 66 [.cell 2 35, .tmp 3, .tmp 4] rfl rfl rfl rfl rfl rfl ?_
 conv => whnf
 refine caS (E := E_Bool) h (kernel_Right_w a0) rfl (fun _ => rfl) (fun x1 h => ?_)
 conv => whnf
 refine fkS h (fun h => ?_) (fun h => ?_)
 ·conv => whnf
  exact rt (E := E_KernelState_ListInt_Int) h rfl
 conv => whnf
 refine jnS (fun w2 => ⟨[(1, .l (.ptr 2 0)), (2, .l (.ptr 3 0))], 66, [], [(2, [.d (.int .i64 a0.Table.Frame), .d (.sl (a0.Table.Windows.map Window.enc)), .d (.sl (a0.Faces.map Face.enc)), .d (.sl (a0.Parts.map PartState.enc)), .d (.sl (w2.map PortLine.enc)), .d (.int .i64 a0.Now)]), (3, [.d (.int .i64 (0 : Int)), .nil, .nil, .nil, .nil, .d (.int .i64 (0 : Int))])], []⟩) h (fun k2 hk2 h => ?_) (fun w2 h => ?_)
 ·conv => whnf
  refine dvS h (fun h => ?_)
  conv => whnf
  refine fkS h (fun h => ?_) (fun h => ?_)
  ·conv => whnf
   refine ccS (E := E_ListPortLine) h (port_Deliver_w a0.Lines) rfl rfl (fun x3 h => ?_)
   conv => whnf
   exact jeS hk2 h (Weak.refl _)
  conv => whnf
  refine jeX hk2 h ?_
  conv => whnf
  refine WkF.step (Weak.keepS _ [1, 2]) ?_
  conv => whnf
  exact WkF.refl _
 conv => whnf
 refine caS (E := E_Int) h (table_At_w a0.Table a0.Now) rfl (fun _ => rfl) (fun x4 h => ?_)
 conv => whnf
 refine lenS a0.Parts PartState.enc rfl ?_
 conv => whnf
 refine lpS (fun v5 => ⟨[(1, .l (.ptr 2 0)), (2, .l (.ptr 3 0)), (5, .l (.d (.int .i64 x4))), (6, .l (.own 7)), (33, .l (.d (.sl (a0.Parts.map PartState.enc)))), (34, .l (.d (.int .i64 (a0.Parts.length : Int)))), (35, .l (.d (.int .i64 v5.2.2.2.2.2.2.2)))], 66, [], [(2, [.d (.int .i64 v5.1), .d (.sl (v5.2.1.map Window.enc)), .d (.sl (v5.2.2.1.map Face.enc)), .d (.sl (v5.2.2.2.1.map PartState.enc)), .d (.sl (v5.2.2.2.2.1.map PortLine.enc)), .d (.int .i64 v5.2.2.2.2.2.1)]), (3, [.d (.int .i64 (0 : Int)), .nil, .nil, .nil, .nil, .d (.int .i64 (0 : Int))])], [(7, 3, 1, v5.2.2.2.2.2.2.1.map (eI .i64))]⟩) h (Weak.trans (Weak.nilO _ 6 7 3 1 rfl) (Weak.refl _)) (fun _ nx5 hn5 v5 h => ?_)
 conv => whnf
 refine fkS h (fun h => ?_) (fun h => ?_)
 ·conv => whnf
  refine ixS (enc := PartState.enc) h rfl (fun _ => rfl) (fun x6 h => ?_)
  conv => whnf
  refine ccS (E := E_PartState_Int_Int) h (part_Tick_w x6 (decide (v5.2.2.2.2.2.2.2 = x4)) v5.2.2.2.2.2.1) rfl rfl (fun x7 h => ?_)
  conv => whnf
  refine ccS (E := E_KernelState) h (kernel_State_with_w (⟨⟨v5.1, v5.2.1⟩, v5.2.2.1, v5.2.2.2.1, v5.2.2.2.2.1, v5.2.2.2.2.2.1⟩) v5.2.2.2.2.2.2.2 x7.1) rfl rfl (fun x8 h => ?_)
  conv => whnf
  refine liS ([x7.2.1] : List Int) (eI .i64) rfl rfl ?_
  conv => whnf
  refine apS (enc := (eI .i64)) (l1 := v5.2.2.2.2.2.2.1) (l2 := ([x7.2.1] : List Int)) h rfl rfl (fun _ => rfl) (fun h => ?_)
  conv => whnf
  exact leS hn5 h (Weak.refl _)
 conv => whnf
 exact rt (E := E_KernelState_ListInt_Int) h rfl
end Go.Proofs.YtldlcdnhdedoeaaGreat
namespace Go.Proofs.YtldlcdnhdedoeaaGreat
open Go Go.VC
noncomputable def law18_As (a0 : List PortLine) : Option (List Ref18Row) :=
 lp (fun nx1 (v1 : (List Ref18Row) × Int) => fk (decide (v1.2 < (a0.length : Int))) (ix a0 v1.2 fun x2 => ix a0 v1.2 fun x3 => bnd (ring_List x3.Under) fun x4 => ix a0 v1.2 fun x5 => bnd (ring_List x5.Got) fun x6 => ck (decide ((v1.1.length + ([⟨x2.Port, x4, x6⟩] : List Ref18Row).length) * 72 ≤ 140737488355328)) (nx1 (v1.1 ++ ([⟨x2.Port, x4, x6⟩] : List Ref18Row), (wr (v1.2 + (1 : Int)))))) (some v1.1)) FU ([], (0 : Int))
theorem law18_As_w (a0 : List PortLine) (r : List Ref18Row) (h : law18_As a0 = some r) : Go.VC.Spec Tryz.prog 72 [.d (.sl (a0.map PortLine.enc))] (fun y => y = E_ListRef18Row r) := by
 refine Go.VC.Spec.of_xc (args := [.d (.sl (a0.map PortLine.enc))]) (fn := Tryz.f72) tab ⟨[(0, [0]), (1, [0, 3]), (2, [0, 3, 4]), (3, [0, 3, 4, 8]), (4, [0, 3, 4]), (5, [0, 3, 4]), (6, [2])], [], [], []⟩ 33 [.tmp 2] rfl rfl rfl rfl rfl rfl ?_
 conv => whnf
 refine lpS (fun v1 => ⟨[(0, .l (.d (.sl (a0.map PortLine.enc)))), (3, .l (.own 4)), (4, .l (.d (.int .i64 v1.2)))], 33, [], [], [(4, 213, 5, v1.1.map Ref18Row.enc)]⟩) h (Weak.trans (Weak.nilO _ 3 4 213 5 rfl) (Weak.refl _)) (fun _ nx1 hn1 v1 h => ?_)
 conv => whnf
 refine lenS a0 PortLine.enc rfl ?_
 conv => whnf
 refine fkS h (fun h => ?_) (fun h => ?_)
 ·conv => whnf
  refine ⟨20, ?_⟩
  conv => whnf
  refine ixS (enc := PortLine.enc) h rfl (fun _ => rfl) (fun x2 h => ?_)
  conv => whnf
  refine ixS (enc := PortLine.enc) h rfl (fun _ => rfl) (fun x3 h => ?_)
  conv => whnf
  refine dcS (E := E_ListInt) h (ring_List_w x3.Under) rfl (fun x4 h => ?_)
  conv => whnf
  refine ixS (enc := PortLine.enc) h rfl (fun _ => rfl) (fun x5 h => ?_)
  conv => whnf
  refine dcS (E := E_ListInt) h (ring_List_w x5.Got) rfl (fun x6 h => ?_)
  conv => whnf
  refine liS ([⟨x2.Port, x4, x6⟩] : List Ref18Row) Ref18Row.enc rfl rfl ?_
  conv => whnf
  refine drS (by kernel_rfl) ?_
  conv => whnf
  refine apS (enc := Ref18Row.enc) (l1 := v1.1) (l2 := ([⟨x2.Port, x4, x6⟩] : List Ref18Row)) h rfl rfl (fun _ => rfl) (fun h => ?_)
  conv => whnf
  exact leS hn1 h (Weak.refl _)
 conv => whnf
 exact rt (E := E_ListRef18Row) h rfl
end Go.Proofs.YtldlcdnhdedoeaaGreat
namespace Go.Proofs.YtldlcdnhdedoeaaGreat
open Go Go.VC
noncomputable def ref03_SameList (a0 : List Int) (a1 : List Int) : Option Bool :=
 fk (!decide ((a0.length : Int) = (a1.length : Int))) (some false) (lp (fun nx1 (v1 : Int) => fk (decide (v1 < (a0.length : Int))) (ix a0 v1 fun x2 => ix a1 v1 fun x3 => fk (!decide (x2 = x3)) (some false) (nx1 (wr (v1 + (1 : Int))))) (some true)) FU (0 : Int))
theorem ref03_SameList_w (a0 : List Int) (a1 : List Int) (r : Bool) (h : ref03_SameList a0 a1 = some r) : Go.VC.Spec Tryz.prog 124 [.d (.sl (a0.map (eI .i64))), .d (.sl (a1.map (eI .i64)))] (fun y => y = E_Bool r) := by
 refine Go.VC.Spec.of_xc (args := [.d (.sl (a0.map (eI .i64))), .d (.sl (a1.map (eI .i64)))]) (fn := Tryz.f124) tab ⟨[(0, [0, 1]), (1, [0, 1, 10]), (2, [4]), (3, [0, 1, 5]), (4, [0, 1, 5, 14]), (5, [0, 1, 5]), (6, [0, 1, 5, 25]), (7, [4]), (8, [4])], [], [], []⟩ 26 [.tmp 4] rfl rfl rfl rfl rfl rfl ?_
 conv => whnf
 refine lenS a0 (eI .i64) rfl ?_
 conv => whnf
 refine lenS a1 (eI .i64) rfl ?_
 conv => whnf
 refine fkS h (fun h => ?_) (fun h => ?_)
 ·conv => whnf
  exact rt (E := E_Bool) h rfl
 conv => whnf
 refine lpS (fun v1 => ⟨[(0, .l (.d (.sl (a0.map (eI .i64))))), (1, .l (.d (.sl (a1.map (eI .i64))))), (5, .l (.d (.int .i64 v1)))], 26, [], [], []⟩) h (Weak.refl _) (fun _ nx1 hn1 v1 h => ?_)
 conv => whnf
 refine lenS a0 (eI .i64) rfl ?_
 conv => whnf
 refine fkS h (fun h => ?_) (fun h => ?_)
 ·conv => whnf
  refine ⟨8, ?_⟩
  conv => whnf
  refine ixS (enc := (eI .i64)) h rfl (fun _ => rfl) (fun x2 h => ?_)
  conv => whnf
  refine ixS (enc := (eI .i64)) h rfl (fun _ => rfl) (fun x3 h => ?_)
  conv => whnf
  refine drS (by kernel_rfl) ?_
  conv => whnf
  refine fkS h (fun h => ?_) (fun h => ?_)
  ·conv => whnf
   exact rt (E := E_Bool) h rfl
  conv => whnf
  exact leS hn1 h (Weak.refl _)
 conv => whnf
 exact rt (E := E_Bool) h rfl
end Go.Proofs.YtldlcdnhdedoeaaGreat
namespace Go.Proofs.YtldlcdnhdedoeaaGreat
open Go Go.VC
noncomputable def law18_Same (a0 : List Ref18Row) (a1 : List Ref18Row) : Option Bool :=
 fk (!decide ((a0.length : Int) = (a1.length : Int))) (some false) (lp (fun nx1 (v1 : Int) => fk (decide (v1 < (a0.length : Int))) (jn (fun (w2 : Bool) => fk w2 (some false) (nx1 (wr (v1 + (1 : Int))))) (fun k2 => ix a0 v1 fun x3 => ix a1 v1 fun x4 => fk (!(eqI [.i .i64 x3.Port.From, .i .i64 x3.Port.To, .i .i64 x3.Port.Cap] [.i .i64 x4.Port.From, .i .i64 x4.Port.To, .i .i64 x4.Port.Cap])) (k2 true) (ix a0 v1 fun x5 => ix a1 v1 fun x6 => bnd (ref03_SameList x5.Under x6.Under) fun x7 => fk (!x7) (k2 true) (ix a0 v1 fun x8 => ix a1 v1 fun x9 => bnd (ref03_SameList x8.Got x9.Got) fun x10 => k2 (!x10))))) (some true)) FU (0 : Int))
theorem law18_Same_w (a0 : List Ref18Row) (a1 : List Ref18Row) (r : Bool) (h : law18_Same a0 a1 = some r) : Go.VC.Spec Tryz.prog 71 [.d (.sl (a0.map Ref18Row.enc)), .d (.sl (a1.map Ref18Row.enc))] (fun y => y = E_Bool r) := by
 refine Go.VC.Spec.of_xc (args := [.d (.sl (a0.map Ref18Row.enc)), .d (.sl (a1.map Ref18Row.enc))]) (fn := Tryz.f71) tab ⟨[(0, [0, 1]), (1, [0, 1, 10]), (2, [4]), (3, [0, 1, 5]), (4, [0, 1, 5, 14]), (5, [0, 1, 5]), (6, [0, 1, 5, 55]), (7, [4]), (8, [4])], [], [100055], []⟩ 56 [.tmp 4] rfl rfl rfl rfl rfl rfl ?_
 conv => whnf
 refine lenS a0 Ref18Row.enc rfl ?_
 conv => whnf
 refine lenS a1 Ref18Row.enc rfl ?_
 conv => whnf
 refine fkS h (fun h => ?_) (fun h => ?_)
 ·conv => whnf
  exact rt (E := E_Bool) h rfl
 conv => whnf
 refine lpS (fun v1 => ⟨[(0, .l (.d (.sl (a0.map Ref18Row.enc)))), (1, .l (.d (.sl (a1.map Ref18Row.enc)))), (5, .l (.d (.int .i64 v1)))], 56, [], [], []⟩) h (Weak.refl _) (fun _ nx1 hn1 v1 h => ?_)
 conv => whnf
 refine lenS a0 Ref18Row.enc rfl ?_
 conv => whnf
 refine fkS h (fun h => ?_) (fun h => ?_)
 ·conv => whnf
  refine jnS (fun w2 => ⟨[(0, .l (.d (.sl (a0.map Ref18Row.enc)))), (1, .l (.d (.sl (a1.map Ref18Row.enc)))), (5, .l (.d (.int .i64 v1))), (55, .l (.d (.bool w2)))], 56, [], [], []⟩) h (fun k2 hk2 h => ?_) (fun w2 h => ?_)
  ·conv => whnf
   refine ⟨39, ?_⟩
   conv => whnf
   refine ixS (enc := Ref18Row.enc) h rfl (fun _ => rfl) (fun x3 h => ?_)
   conv => whnf
   refine ixS (enc := Ref18Row.enc) h rfl (fun _ => rfl) (fun x4 h => ?_)
   conv => whnf
   refine fkS h (fun h => ?_) (fun h => ?_)
   ·conv => whnf
    refine drS (by kernel_rfl) ?_
    conv => whnf
    exact jeS hk2 h (Weak.refl _)
   conv => whnf
   refine ixS (enc := Ref18Row.enc) h rfl (fun _ => rfl) (fun x5 h => ?_)
   conv => whnf
   refine ixS (enc := Ref18Row.enc) h rfl (fun _ => rfl) (fun x6 h => ?_)
   conv => whnf
   refine daS (E := E_Bool) h (ref03_SameList_w x5.Under x6.Under) (fun _ => rfl) (fun x7 h => ?_)
   conv => whnf
   refine fkS h (fun h => ?_) (fun h => ?_)
   ·conv => whnf
    refine drS (by kernel_rfl) ?_
    conv => whnf
    exact jeS hk2 h (Weak.refl _)
   conv => whnf
   refine ixS (enc := Ref18Row.enc) h rfl (fun _ => rfl) (fun x8 h => ?_)
   conv => whnf
   refine ixS (enc := Ref18Row.enc) h rfl (fun _ => rfl) (fun x9 h => ?_)
   conv => whnf
   refine daS (E := E_Bool) h (ref03_SameList_w x8.Got x9.Got) (fun _ => rfl) (fun x10 h => ?_)
   conv => whnf
   refine drS (by kernel_rfl) ?_
   conv => whnf
   exact jeS hk2 h (Weak.refl _)
  conv => whnf
  refine fkS h (fun h => ?_) (fun h => ?_)
  ·conv => whnf
   exact rt (E := E_Bool) h rfl
  conv => whnf
  exact leS hn1 h (Weak.refl _)
 conv => whnf
 exact rt (E := E_Bool) h rfl
end Go.Proofs.YtldlcdnhdedoeaaGreat
namespace Go.Proofs.YtldlcdnhdedoeaaGreat
open Go Go.VC
noncomputable def law13_Same (a0 : TableTable) (a1 : TableTable) : Option Bool :=
 jn (fun (w1 : Bool) => fk w1 (some false) (lp (fun nx2 (v2 : Int) => fk (decide (v2 < (a0.Windows.length : Int))) (ix a0.Windows v2 fun x3 => ix a1.Windows v2 fun x4 => fk (!(eqI [.i .i64 x3.Part, .i .i64 x3.From, .i .i64 x3.Len] [.i .i64 x4.Part, .i .i64 x4.From, .i .i64 x4.Len])) (some false) (nx2 (wr (v2 + (1 : Int))))) (some true)) FU (0 : Int))) (fun k1 => fk (!decide (a0.Frame = a1.Frame)) (k1 true) (k1 (!decide ((a0.Windows.length : Int) = (a1.Windows.length : Int)))))
theorem law13_Same_w (a0 : TableTable) (a1 : TableTable) (r : Bool) (h : law13_Same a0 a1 = some r) : Go.VC.Spec Tryz.prog 60 [.agg (TableTable.enc a0), .agg (TableTable.enc a1)] (fun y => y = E_Bool r) := by
 refine Go.VC.Spec.of_xc (args := [.agg (TableTable.enc a0), .agg (TableTable.enc a1)]) (fn := Tryz.f60) tab ⟨[(0, [2, 3]), (1, [2, 3, 19]), (2, [4]), (3, [2, 3, 5]), (4, [2, 3, 5, 24]), (5, [2, 3, 5]), (6, [2, 3, 5, 37]), (7, [4]), (8, [4])], [], [100019], []⟩ 38 [.tmp 4] rfl rfl rfl rfl rfl rfl ?_
 conv => whnf
 refine jnS (fun w1 => ⟨[(2, .l (.ptr 3 0)), (3, .l (.ptr 4 0)), (19, .l (.d (.bool w1)))], 38, [], [(3, [.d (.int .i64 a0.Frame), .d (.sl (a0.Windows.map Window.enc))]), (4, [.d (.int .i64 a1.Frame), .d (.sl (a1.Windows.map Window.enc))])], []⟩) h (fun k1 hk1 h => ?_) (fun w1 h => ?_)
 ·conv => whnf
  refine fkS h (fun h => ?_) (fun h => ?_)
  ·conv => whnf
   exact jeS hk1 h (Weak.refl _)
  conv => whnf
  refine lenS a0.Windows Window.enc rfl ?_
  conv => whnf
  refine lenS a1.Windows Window.enc rfl ?_
  conv => whnf
  exact jeS hk1 h (Weak.refl _)
 conv => whnf
 refine fkS h (fun h => ?_) (fun h => ?_)
 ·conv => whnf
  exact rt (E := E_Bool) h rfl
 conv => whnf
 refine lpS (fun v2 => ⟨[(2, .l (.ptr 3 0)), (3, .l (.ptr 4 0)), (5, .l (.d (.int .i64 v2)))], 38, [], [(3, [.d (.int .i64 a0.Frame), .d (.sl (a0.Windows.map Window.enc))]), (4, [.d (.int .i64 a1.Frame), .d (.sl (a1.Windows.map Window.enc))])], []⟩) h (Weak.refl _) (fun _ nx2 hn2 v2 h => ?_)
 conv => whnf
 refine lenS a0.Windows Window.enc rfl ?_
 conv => whnf
 refine fkS h (fun h => ?_) (fun h => ?_)
 ·conv => whnf
  refine ⟨10, ?_⟩
  conv => whnf
  refine ixS (enc := Window.enc) h rfl (fun _ => rfl) (fun x3 h => ?_)
  conv => whnf
  refine ixS (enc := Window.enc) h rfl (fun _ => rfl) (fun x4 h => ?_)
  conv => whnf
  refine drS (by kernel_rfl) ?_
  conv => whnf
  refine fkS h (fun h => ?_) (fun h => ?_)
  ·conv => whnf
   exact rt (E := E_Bool) h rfl
  conv => whnf
  exact leS hn2 h (Weak.refl _)
 conv => whnf
 exact rt (E := E_Bool) h rfl
end Go.Proofs.YtldlcdnhdedoeaaGreat
namespace Go.Proofs.YtldlcdnhdedoeaaGreat
open Go Go.VC
noncomputable def law21_lines (a0 : List PortLine) (a1 : List PortLine) : Option Bool :=
 bnd (law18_As a0) fun x1 => bnd (law18_As a1) fun x2 => bnd (law18_Same x1 x2) fun x3 => some x3
theorem law21_lines_w (a0 : List PortLine) (a1 : List PortLine) (r : Bool) (h : law21_lines a0 a1 = some r) : Go.VC.Spec Tryz.prog 24 [.d (.sl (a0.map PortLine.enc)), .d (.sl (a1.map PortLine.enc))] (fun y => y = E_Bool r) := by
 refine Go.VC.Spec.of_xc (args := [.d (.sl (a0.map PortLine.enc)), .d (.sl (a1.map PortLine.enc))]) (fn := Tryz.f24) tab ⟨[(0, [0, 1]), (1, [4])], [], [], []⟩ 10 [.tmp 4] rfl rfl rfl rfl rfl rfl ?_
 conv => whnf
 refine ccS (E := E_ListRef18Row) h (law18_As_w a0) rfl rfl (fun x1 h => ?_)
 conv => whnf
 refine ccS (E := E_ListRef18Row) h (law18_As_w a1) rfl rfl (fun x2 h => ?_)
 conv => whnf
 refine caS (E := E_Bool) h (law18_Same_w x1 x2) rfl (fun _ => rfl) (fun x3 h => ?_)
 conv => whnf
 exact rt (E := E_Bool) h rfl
end Go.Proofs.YtldlcdnhdedoeaaGreat
namespace Go.Proofs.YtldlcdnhdedoeaaGreat
open Go Go.VC
noncomputable def law21_Same (a0 : KernelState) (a1 : KernelState) : Option Bool :=
 jn (fun (w1 : Bool) => fk w1 (some false) (lp (fun nx3 (v3 : Int) => fk (decide (v3 < (a0.Parts.length : Int))) (jn (fun (w4 : Bool) => fk w4 (some false) (nx3 (wr (v3 + (1 : Int))))) (fun k4 => ix a0.Faces v3 fun x5 => ix a1.Faces v3 fun x6 => fk (!(eqI [.i .i64 x5.P, .i .i64 x5.B] [.i .i64 x6.P, .i .i64 x6.B])) (k4 true) (ix a0.Parts v3 fun x7 => bnd (law17_As x7) fun x8 => ix a1.Parts v3 fun x9 => bnd (law17_As x9) fun x10 => bnd (ref17_Same ⟨x8.Tasks, x8.Leaves, x8.Lasts, x8.Jobs, x8.Log⟩ ⟨x10.Tasks, x10.Leaves, x10.Lasts, x10.Jobs, x10.Log⟩) fun x11 => k4 (!x11)))) (bnd (law21_lines a0.Lines a1.Lines) fun x12 => some x12)) FU (0 : Int))) (fun k1 => fk (!decide ((a0.Parts.length : Int) = (a1.Parts.length : Int))) (k1 true) (fk (!decide ((a0.Faces.length : Int) = (a1.Faces.length : Int))) (k1 true) (fk (!decide (a0.Now = a1.Now)) (k1 true) (bnd (law13_Same a0.Table a1.Table) fun x2 => k1 (!x2)))))
theorem law21_Same_w (a0 : KernelState) (a1 : KernelState) (r : Bool) (h : law21_Same a0 a1 = some r) : Go.VC.Spec Tryz.prog 16 [.agg (KernelState.enc a0), .agg (KernelState.enc a1)] (fun y => y = E_Bool r) := by
 refine Go.VC.Spec.of_xc (args := [.agg (KernelState.enc a0), .agg (KernelState.enc a1)]) (fn := Tryz.f16) tab ⟨[(0, [2, 3]), (1, [2, 3, 36]), (2, [4]), (3, [2, 3, 5]), (4, [2, 3, 5, 41]), (5, [2, 3, 5]), (6, [2, 3, 5, 70]), (7, [4]), (8, [4])], [], [100036, 100070], []⟩ 76 [.tmp 4] rfl rfl rfl rfl rfl rfl ?_
 conv => whnf
 refine jnS (fun w1 => ⟨[(2, .l (.ptr 3 0)), (3, .l (.ptr 4 0)), (36, .l (.d (.bool w1)))], 76, [], [(3, [.d (.int .i64 a0.Table.Frame), .d (.sl (a0.Table.Windows.map Window.enc)), .d (.sl (a0.Faces.map Face.enc)), .d (.sl (a0.Parts.map PartState.enc)), .d (.sl (a0.Lines.map PortLine.enc)), .d (.int .i64 a0.Now)]), (4, [.d (.int .i64 a1.Table.Frame), .d (.sl (a1.Table.Windows.map Window.enc)), .d (.sl (a1.Faces.map Face.enc)), .d (.sl (a1.Parts.map PartState.enc)), .d (.sl (a1.Lines.map PortLine.enc)), .d (.int .i64 a1.Now)])], []⟩) h (fun k1 hk1 h => ?_) (fun w1 h => ?_)
 ·conv => whnf
  refine lenS a0.Parts PartState.enc rfl ?_
  conv => whnf
  refine lenS a1.Parts PartState.enc rfl ?_
  conv => whnf
  refine fkS h (fun h => ?_) (fun h => ?_)
  ·conv => whnf
   exact jeS hk1 h (Weak.refl _)
  conv => whnf
  refine lenS a0.Faces Face.enc rfl ?_
  conv => whnf
  refine lenS a1.Faces Face.enc rfl ?_
  conv => whnf
  refine fkS h (fun h => ?_) (fun h => ?_)
  ·conv => whnf
   exact jeS hk1 h (Weak.refl _)
  conv => whnf
  refine fkS h (fun h => ?_) (fun h => ?_)
  ·conv => whnf
   exact jeS hk1 h (Weak.refl _)
  conv => whnf
  refine caS (E := E_Bool) h (law13_Same_w a0.Table a1.Table) rfl (fun _ => rfl) (fun x2 h => ?_)
  conv => whnf
  exact jeS hk1 h (Weak.refl _)
 conv => whnf
 refine fkS h (fun h => ?_) (fun h => ?_)
 ·conv => whnf
  exact rt (E := E_Bool) h rfl
 conv => whnf
 refine lpS (fun v3 => ⟨[(2, .l (.ptr 3 0)), (3, .l (.ptr 4 0)), (5, .l (.d (.int .i64 v3)))], 76, [], [(3, [.d (.int .i64 a0.Table.Frame), .d (.sl (a0.Table.Windows.map Window.enc)), .d (.sl (a0.Faces.map Face.enc)), .d (.sl (a0.Parts.map PartState.enc)), .d (.sl (a0.Lines.map PortLine.enc)), .d (.int .i64 a0.Now)]), (4, [.d (.int .i64 a1.Table.Frame), .d (.sl (a1.Table.Windows.map Window.enc)), .d (.sl (a1.Faces.map Face.enc)), .d (.sl (a1.Parts.map PartState.enc)), .d (.sl (a1.Lines.map PortLine.enc)), .d (.int .i64 a1.Now)])], []⟩) h (Weak.refl _) (fun _ nx3 hn3 v3 h => ?_)
 conv => whnf
 refine lenS a0.Parts PartState.enc rfl ?_
 conv => whnf
 refine fkS h (fun h => ?_) (fun h => ?_)
 ·conv => whnf
  refine jnS (fun w4 => ⟨[(2, .l (.ptr 3 0)), (3, .l (.ptr 4 0)), (5, .l (.d (.int .i64 v3))), (70, .l (.d (.bool w4)))], 76, [], [(3, [.d (.int .i64 a0.Table.Frame), .d (.sl (a0.Table.Windows.map Window.enc)), .d (.sl (a0.Faces.map Face.enc)), .d (.sl (a0.Parts.map PartState.enc)), .d (.sl (a0.Lines.map PortLine.enc)), .d (.int .i64 a0.Now)]), (4, [.d (.int .i64 a1.Table.Frame), .d (.sl (a1.Table.Windows.map Window.enc)), .d (.sl (a1.Faces.map Face.enc)), .d (.sl (a1.Parts.map PartState.enc)), .d (.sl (a1.Lines.map PortLine.enc)), .d (.int .i64 a1.Now)])], []⟩) h (fun k4 hk4 h => ?_) (fun w4 h => ?_)
  ·conv => whnf
   refine ⟨27, ?_⟩
   conv => whnf
   refine ixS (enc := Face.enc) h rfl (fun _ => rfl) (fun x5 h => ?_)
   conv => whnf
   refine ixS (enc := Face.enc) h rfl (fun _ => rfl) (fun x6 h => ?_)
   conv => whnf
   refine fkS h (fun h => ?_) (fun h => ?_)
   ·conv => whnf
    refine drS (by kernel_rfl) ?_
    conv => whnf
    exact jeS hk4 h (Weak.refl _)
   conv => whnf
   refine ixS (enc := PartState.enc) h rfl (fun _ => rfl) (fun x7 h => ?_)
   conv => whnf
   refine dcS (E := E_Ref17State) h (law17_As_w x7) rfl (fun x8 h => ?_)
   conv => whnf
   refine ixS (enc := PartState.enc) h rfl (fun _ => rfl) (fun x9 h => ?_)
   conv => whnf
   refine dcS (E := E_Ref17State) h (law17_As_w x9) rfl (fun x10 h => ?_)
   conv => whnf
   refine daS (E := E_Bool) h (ref17_Same_w ⟨x8.Tasks, x8.Leaves, x8.Lasts, x8.Jobs, x8.Log⟩ ⟨x10.Tasks, x10.Leaves, x10.Lasts, x10.Jobs, x10.Log⟩) (fun _ => rfl) (fun x11 h => ?_)
   conv => whnf
   refine drS (by kernel_rfl) ?_
   conv => whnf
   exact jeS hk4 h (Weak.refl _)
  conv => whnf
  refine fkS h (fun h => ?_) (fun h => ?_)
  ·conv => whnf
   exact rt (E := E_Bool) h rfl
  conv => whnf
  exact leS hn3 h (Weak.refl _)
 conv => whnf
 refine caS (E := E_Bool) h (law21_lines_w a0.Lines a1.Lines) rfl (fun _ => rfl) (fun x12 h => ?_)
 conv => whnf
 exact rt (E := E_Bool) h rfl
end Go.Proofs.YtldlcdnhdedoeaaGreat
namespace Go.Proofs.YtldlcdnhdedoeaaGreat
open Go Go.VC
noncomputable def law21_Few (a0 : List Law21Step) : Option Bool :=
 lp (fun nx1 (v1 : Int) => fk (decide (v1 < (a0.length : Int))) (ix a0 v1 fun x2 => fk (decide ((x2.Cmds.length : Int) > (10 : Int))) (some false) (lp (fun nx3 (v3 : Int) => ix a0 v1 fun x4 => fk (decide (v3 < (x4.Cmds.length : Int))) (ix a0 v1 fun x5 => ix x5.Cmds v3 fun x6 => fk (decide ((x6.T.Secs.length : Int) > (20 : Int))) (some false) (nx3 (wr (v3 + (1 : Int))))) (nx1 (wr (v1 + (1 : Int))))) FU (0 : Int))) (some (decide ((a0.length : Int) ≤ (100 : Int))))) FU (0 : Int)
theorem law21_Few_w (a0 : List Law21Step) (r : Bool) (h : law21_Few a0 = some r) : Go.VC.Spec Tryz.prog 25 [.d (.sl (a0.map Law21Step.enc))] (fun y => y = E_Bool r) := by
 refine Go.VC.Spec.of_xc (args := [.d (.sl (a0.map Law21Step.enc))]) (fn := Tryz.f25) tab ⟨[(0, [0]), (1, [0, 3]), (2, [0, 3, 8]), (3, [0, 3]), (4, [0, 3, 17]), (5, [2]), (6, [0, 3, 4]), (7, [0, 3, 4, 25]), (8, [0, 3, 4]), (9, [0, 3, 4, 39]), (10, [2]), (11, [2])], [], [], []⟩ 43 [.tmp 2] rfl rfl rfl rfl rfl rfl ?_
 conv => whnf
 refine lpS (fun v1 => ⟨[(0, .l (.d (.sl (a0.map Law21Step.enc)))), (3, .l (.d (.int .i64 v1)))], 43, [], [], []⟩) h (Weak.refl _) (fun _ nx1 hn1 v1 h => ?_)
 conv => whnf
 refine lenS a0 Law21Step.enc rfl ?_
 conv => whnf
 refine fkS h (fun h => ?_) (fun h => ?_)
 ·conv => whnf
  refine ixS (enc := Law21Step.enc) h rfl (fun _ => rfl) (fun x2 h => ?_)
  conv => whnf
  refine lenS x2.Cmds KernelCmd.enc rfl ?_
  conv => whnf
  refine fkS h (fun h => ?_) (fun h => ?_)
  ·conv => whnf
   exact rt (E := E_Bool) h rfl
  conv => whnf
  refine lpS (fun v3 => ⟨[(0, .l (.d (.sl (a0.map Law21Step.enc)))), (3, .l (.d (.int .i64 v1))), (4, .l (.d (.int .i64 v3)))], 43, [], [], []⟩) h (Weak.refl _) (fun _ nx3 hn3 v3 h => ?_)
  conv => whnf
  refine ixS (enc := Law21Step.enc) h rfl (fun _ => rfl) (fun x4 h => ?_)
  conv => whnf
  refine lenS x4.Cmds KernelCmd.enc rfl ?_
  conv => whnf
  refine fkS h (fun h => ?_) (fun h => ?_)
  ·conv => whnf
   refine ixS (enc := Law21Step.enc) h rfl (fun _ => rfl) (fun x5 h => ?_)
   conv => whnf
   refine ixS (enc := KernelCmd.enc) h rfl (fun _ => rfl) (fun x6 h => ?_)
   conv => whnf
   refine lenS x6.T.Secs Sec.enc rfl ?_
   conv => whnf
   refine fkS h (fun h => ?_) (fun h => ?_)
   ·conv => whnf
    exact rt (E := E_Bool) h rfl
   conv => whnf
   exact leS hn3 h (Weak.refl _)
  conv => whnf
  exact leS hn1 h (Weak.refl _)
 conv => whnf
 refine lenS a0 Law21Step.enc rfl ?_
 conv => whnf
 exact rt (E := E_Bool) h rfl
end Go.Proofs.YtldlcdnhdedoeaaGreat
namespace Go.Proofs.YtldlcdnhdedoeaaGreat
open Go Go.VC
noncomputable def law21_Play (a0 : KernelState) (a1 : List Law21Step) : Option KernelState :=
 lp (fun nx1 (v1 : Int × (List Window) × (List Face) × (List PartState) × (List PortLine) × Int × Int) => fk (decide (v1.2.2.2.2.2.2 < (a1.length : Int))) (lp (fun nx2 (v2 : Int × (List Window) × (List Face) × (List PartState) × (List PortLine) × Int × Int) => ix a1 v1.2.2.2.2.2.2 fun x3 => fk (decide (v2.2.2.2.2.2.2 < (x3.Cmds.length : Int))) (ix a1 v1.2.2.2.2.2.2 fun x4 => ix x4.Cmds v2.2.2.2.2.2.2 fun x5 => bnd (kernel_Do (⟨⟨v2.1, v2.2.1⟩, v2.2.2.1, v2.2.2.2.1, v2.2.2.2.2.1, v2.2.2.2.2.2.1⟩) x5) fun x6 => nx2 (x6.1.Table.Frame, x6.1.Table.Windows, x6.1.Faces, x6.1.Parts, x6.1.Lines, x6.1.Now, (wr (v2.2.2.2.2.2.2 + (1 : Int))))) (bnd (kernel_Tick (⟨⟨v2.1, v2.2.1⟩, v2.2.2.1, v2.2.2.2.1, v2.2.2.2.2.1, v2.2.2.2.2.2.1⟩)) fun x7 => nx1 (x7.1.Table.Frame, x7.1.Table.Windows, x7.1.Faces, x7.1.Parts, x7.1.Lines, x7.1.Now, (wr (v1.2.2.2.2.2.2 + (1 : Int)))))) FU (v1.1, v1.2.1, v1.2.2.1, v1.2.2.2.1, v1.2.2.2.2.1, v1.2.2.2.2.2.1, (0 : Int))) (some (⟨⟨v1.1, v1.2.1⟩, v1.2.2.1, v1.2.2.2.1, v1.2.2.2.2.1, v1.2.2.2.2.2.1⟩))) FU (a0.Table.Frame, a0.Table.Windows, a0.Faces, a0.Parts, a0.Lines, a0.Now, (0 : Int))
theorem law21_Play_w (a0 : KernelState) (a1 : List Law21Step) (r : KernelState) (h : law21_Play a0 a1 = some r) : Go.VC.Spec Tryz.prog 26 [.agg (KernelState.enc a0), .d (.sl (a1.map Law21Step.enc))] (fun y => y = E_KernelState r) := by
 refine Go.VC.Spec.of_xc (args := [.agg (KernelState.enc a0), .d (.sl (a1.map Law21Step.enc))]) (fn := Tryz.f26) tab ⟨[(0, [1, 2, 4]), (1, [1, 2, 4, 5]), (2, [1, 2, 4, 5, 16]), (3, [1, 2, 4, 5]), (4, [1, 2, 4, 5, 6]), (5, [1, 2, 4, 5, 6, 26]), (6, [1, 2, 4, 5, 6]), (7, [1, 2, 4, 5, 6, 7]), (8, [1, 2, 4, 5, 6]), (9, [1, 2, 4, 5, 10]), (10, [1, 2, 4, 5]), (11, [4])], [], [], []⟩ 52 [.cell 4 35] rfl rfl rfl rfl rfl rfl ?_
 conv => whnf
 refine lpS (fun v1 => ⟨[(1, .l (.d (.sl (a1.map Law21Step.enc)))), (2, .l (.ptr 3 0)), (4, .l (.ptr 5 0)), (5, .l (.d (.int .i64 v1.2.2.2.2.2.2)))], 52, [], [(3, [.d (.int .i64 v1.1), .d (.sl (v1.2.1.map Window.enc)), .d (.sl (v1.2.2.1.map Face.enc)), .d (.sl (v1.2.2.2.1.map PartState.enc)), .d (.sl (v1.2.2.2.2.1.map PortLine.enc)), .d (.int .i64 v1.2.2.2.2.2.1)]), (5, [.d (.int .i64 (0 : Int)), .nil, .nil, .nil, .nil, .d (.int .i64 (0 : Int))])], []⟩) h (Weak.refl _) (fun _ nx1 hn1 v1 h => ?_)
 conv => whnf
 refine lenS a1 Law21Step.enc rfl ?_
 conv => whnf
 refine fkS h (fun h => ?_) (fun h => ?_)
 ·conv => whnf
  refine lpS (fun v2 => ⟨[(1, .l (.d (.sl (a1.map Law21Step.enc)))), (2, .l (.ptr 3 0)), (4, .l (.ptr 5 0)), (5, .l (.d (.int .i64 v1.2.2.2.2.2.2))), (6, .l (.d (.int .i64 v2.2.2.2.2.2.2)))], 52, [], [(3, [.d (.int .i64 v2.1), .d (.sl (v2.2.1.map Window.enc)), .d (.sl (v2.2.2.1.map Face.enc)), .d (.sl (v2.2.2.2.1.map PartState.enc)), .d (.sl (v2.2.2.2.2.1.map PortLine.enc)), .d (.int .i64 v2.2.2.2.2.2.1)]), (5, [.d (.int .i64 (0 : Int)), .nil, .nil, .nil, .nil, .d (.int .i64 (0 : Int))])], []⟩) h (Weak.refl _) (fun _ nx2 hn2 v2 h => ?_)
  conv => whnf
  refine ixS (enc := Law21Step.enc) h rfl (fun _ => rfl) (fun x3 h => ?_)
  conv => whnf
  refine lenS x3.Cmds KernelCmd.enc rfl ?_
  conv => whnf
  refine fkS h (fun h => ?_) (fun h => ?_)
  ·conv => whnf
   refine ⟨17, ?_⟩
   conv => whnf
   refine ixS (enc := Law21Step.enc) h rfl (fun _ => rfl) (fun x4 h => ?_)
   conv => whnf
   refine ixS (enc := KernelCmd.enc) h rfl (fun _ => rfl) (fun x5 h => ?_)
   conv => whnf
   refine dcS (E := E_KernelState_Int_Int) h (kernel_Do_w (⟨⟨v2.1, v2.2.1⟩, v2.2.2.1, v2.2.2.2.1, v2.2.2.2.2.1, v2.2.2.2.2.2.1⟩) x5) rfl (fun x6 h => ?_)
   conv => whnf
   refine drS (by kernel_rfl) ?_
   conv => whnf
   exact leS hn2 h (Weak.refl _)
  conv => whnf
  refine ccS (E := E_KernelState_ListInt_Int) h (kernel_Tick_w (⟨⟨v2.1, v2.2.1⟩, v2.2.2.1, v2.2.2.2.1, v2.2.2.2.2.1, v2.2.2.2.2.2.1⟩)) rfl rfl (fun x7 h => ?_)
  conv => whnf
  exact leS hn1 h (Weak.refl _)
 conv => whnf
 exact rt (E := E_KernelState) h rfl
end Go.Proofs.YtldlcdnhdedoeaaGreat
namespace Go.Proofs.YtldlcdnhdedoeaaGreat
open Go Go.VC
/-! What is kept of a system. -/
structure kP (s : KernelState) : Prop where
  tab : tabP s.Table
  parts : ∀ p ∈ s.Parts, okS p
  len : s.Parts.length ≤ 4
  faces : s.Faces.length = s.Parts.length
  lines : linesP s.Lines
  now0 : 0 ≤ s.Now
  now1 : s.Now ≤ 100000
theorem booted.kP {c : Config} {s : KernelState} {ticks : List Int} (h : booted c s ticks) : kP s := by
  refine ⟨h.tab, fun p hp => ?_, ?_, ?_, ?_, by rw [h.now]; omega, by rw [h.now]; omega⟩
  · rw [h.parts] at hp
    obtain ⟨q, hq, rfl⟩ := List.mem_map.1 hp
    exact okS_new (h.conf.ps q hq).2
  · rw [h.parts, List.length_map]; exact h.conf.pl
  · rw [h.faces, h.parts, List.length_map, List.length_map]
  · rw [h.lines]; exact linesP_new h.conf.qs h.conf.ql
/-! Alike. -/
theorem eqI_refl (l : List SC) : eqI l l = true := decide_eq_true rfl
theorem sameList_refl (l : List Int) (h : l.length ≤ 1000000) : ref03_SameList l l = some true := by
  unfold ref03_SameList
  rw [decide_eq_true rfl, Bool.not_true, fk_f]
  refine lp_up l.length (by unfold FU; omega) (fun _ => True) trivial ?_
  intro nx k hk _ hnx
  rw [lt_nat]
  by_cases hk' : k < l.length
  · rw [decide_eq_true hk', fk_t, ix_lt hk', ix_lt hk', decide_eq_true rfl, Bool.not_true, fk_f, wr_succ k _ hk' (by omega)]
    exact hnx hk' trivial
  · rw [decide_eq_false hk', fk_f]
def rowL (x : PortLine) : Ref18Row := ⟨x.Port, cont x.Under, cont x.Got⟩
theorem law18_As_eq (l : List PortLine) (h : linesP l) : law18_As l = some (l.map rowL) := by
  have h4 := h.2
  unfold law18_As
  refine lp_upS l.length (by unfold FU; omega) (fun k s => s = (l.take k).map rowL) [] rfl ?_
  rintro nx k s hk rfl hnx
  dsimp only
  rw [lt_nat]
  by_cases hk' : k < l.length
  · obtain ⟨_, h2, h3, _, _⟩ := h.1 _ (List.getElem_mem hk')
    rw [decide_eq_true hk', fk_t, ix_lt hk', ix_lt hk', bnd_eq (ring_List_eq _ h2), ix_lt hk', bnd_eq (ring_List_eq _ h3), ck_t (by simp; omega), wr_succ k _ hk' (by omega)]
    refine hnx _ hk' ?_
    rw [← List.take_append_getElem hk', List.map_append]; rfl
  · rw [decide_eq_false hk', fk_f, List.take_of_length_le (by omega)]
theorem lines_refl (l : List PortLine) (h : linesP l) : law21_lines l l = some true := by
  have h4 := h.2
  unfold law21_lines
  rw [bnd_eq (law18_As_eq l h), bnd_eq (law18_As_eq l h)]
  have : law18_Same (l.map rowL) (l.map rowL) = some true := by
    unfold law18_Same
    rw [decide_eq_true rfl, Bool.not_true, fk_f]
    refine lp_up (l.map rowL).length (by rw [List.length_map]; unfold FU; omega) (fun _ => True) trivial ?_
    intro nx k hk _ hnx
    rw [lt_nat]
    by_cases hk' : k < (l.map rowL).length
    · have hk2 : k < l.length := by rwa [List.length_map] at hk'
      obtain ⟨_, h2, h3, _, _⟩ := h.1 _ (List.getElem_mem hk2)
      have e : (l.map rowL)[k] = rowL l[k] := List.getElem_map _
      have l1 := (cont_len h2).2
      have l2 := (cont_len h3).2
      rw [decide_eq_true hk', fk_t, wr_succ k _ hk' (by rw [List.length_map]; omega)]
      refine jn_to false (fun k2 => ?_) (by rw [fk_f]; exact hnx hk' trivial)
      rw [ix_lt hk', ix_lt hk', eqI_refl, Bool.not_true, fk_f, ix_lt hk', ix_lt hk', e, bnd_eq (sameList_refl _ (by show (cont l[k].Under).length ≤ _; omega)), Bool.not_true, fk_f, ix_lt hk', ix_lt hk', e, bnd_eq (sameList_refl _ (by show (cont l[k].Got).length ≤ _; omega))]
      rfl
    · rw [decide_eq_false hk', fk_f]
  rw [bnd_eq this]
theorem table_refl (t : TableTable) (h : t.Windows.length ≤ 1000) : law13_Same t t = some true := by
  unfold law13_Same
  refine jn_to false (fun k => by rw [decide_eq_true rfl, Bool.not_true, fk_f, decide_eq_true rfl]; rfl) ?_
  rw [fk_f]
  refine lp_up t.Windows.length (by unfold FU; omega) (fun _ => True) trivial ?_
  intro nx k hk _ hnx
  rw [lt_nat]
  by_cases hk' : k < t.Windows.length
  · rw [decide_eq_true hk', fk_t, ix_lt hk', ix_lt hk', eqI_refl, Bool.not_true, fk_f, wr_succ k _ hk' (by omega)]
    exact hnx hk' trivial
  · rw [decide_eq_false hk', fk_f]
theorem same_refl {s : KernelState} (hw : s.Table.Windows.length ≤ 1000) (hp : ∀ p ∈ s.Parts, okS p) (h4 : s.Parts.length ≤ 1000) (hf : s.Faces.length = s.Parts.length) (hl : linesP s.Lines) : law21_Same s s = some true := by
  unfold law21_Same
  refine jn_to false (fun k => ?_) ?_
  · rw [decide_eq_true rfl, Bool.not_true, fk_f, decide_eq_true rfl, Bool.not_true, fk_f, decide_eq_true rfl, Bool.not_true, fk_f, bnd_eq (table_refl _ hw)]; rfl
  rw [fk_f]
  refine lp_up s.Parts.length (by unfold FU; omega) (fun _ => True) trivial ?_
  intro nx k hk _ hnx
  rw [lt_nat]
  by_cases hk' : k < s.Parts.length
  · have ho := hp _ (List.getElem_mem hk')
    have hs := ref17_Same_eq _ (SameB.of_st (StB.of_st ho.1) ho.1)
    rw [decide_eq_true hk', fk_t, wr_succ k _ hk' (by omega)]
    refine jn_to false (fun k4 => ?_) (by rw [fk_f]; exact hnx hk' trivial)
    rw [ix_lt (show k < s.Faces.length by omega), ix_lt (show k < s.Faces.length by omega), eqI_refl, Bool.not_true, fk_f, ix_lt hk', bnd_eq (law17_As_eq _), ix_lt hk', bnd_eq (law17_As_eq _)]
    show bnd (ref17_Same (toR s.Parts[k]) (toR s.Parts[k])) _ = _
    rw [bnd_eq hs]; rfl
  · rw [decide_eq_false hk', fk_f, bnd_eq (lines_refl _ hl)]
theorem kP.same {s : KernelState} (h : kP s) : law21_Same s s = some true := same_refl (by have := h.tab.l; omega) h.parts (by have := h.len; omega) h.faces h.lines
/-! What is asked. -/
theorem okS.len {s : PartState} (h : okS s) : s.Tasks.length ≤ 1000 ∧ s.Jobs.length ≤ 4611686018427387904 := by
  have h8 := AllP_len h.1.2.1.1
  have hj := h.1.2.2.1.2.1
  omega
theorem okS_plus {s : PartState} {f : Face} {x : Task} (h : okS s) (h0 : addE s f x = 0) : okS (plus s x) := by
  obtain ⟨a1, a2, a3, _⟩ := addE_zero h0
  have := okS_add (x := x) h
  unfold addV at this
  rwa [if_pos ⟨a1, a2⟩, if_pos a3] at this
noncomputable def admV (s : PartState) (f : Face) (x : Task) : PartState × Int := if addE s f x = 0 then (plus s x, 0) else (s, addE s f x)
theorem okS_adm {s : PartState} {f : Face} {x : Task} (h : okS s) : okS (admV s f x).1 := by
  unfold admV
  split
  · exact okS_plus h (by assumption)
  · exact h
noncomputable def chgV (s : PartState) (f : Face) (i : Int) (x : Task) : PartState × Int := if (leaveV s i).2 = 0 then (if addE (leaveV s i).1 f x = 0 then (plus (leaveV s i).1 x, 0) else (s, addE (leaveV s i).1 f x)) else (s, (leaveV s i).2)
theorem okS_chg {s : PartState} {f : Face} {i : Int} {x : Task} (h : okS s) : okS (chgV s f i x).1 := by
  unfold chgV
  split
  · split
    · exact okS_plus (okS_leave h) (by assumption)
    · exact h
  · exact h
def withK (s : KernelState) (i : Int) (p : PartState) : KernelState := ⟨s.Table, s.Faces, s.Parts.set i.toNat p, s.Lines, s.Now⟩
theorem kP.with {s : KernelState} {i : Int} {p : PartState} (h : kP s) (hp : okS p) : kP (withK s i p) :=
  ⟨h.tab, fun q hq => by
    rcases List.mem_or_eq_of_mem_set (show q ∈ s.Parts.set i.toNat p from hq) with h' | rfl
    · exact h.parts q h'
    · exact hp, by show (s.Parts.set _ _).length ≤ 4; rw [List.length_set]; exact h.len, by show _ = (s.Parts.set _ _).length; rw [List.length_set]; exact h.faces, h.lines, h.now0, h.now1⟩
/-- What comes of an ask of a partition that is there. -/
noncomputable def doP (p : PartState) (f : Face) (c : KernelCmd) (now : Int) : PartState × Int :=
  if c.Kind = 1 then relV p c.I c.V now else if c.Kind = 4 then admV p f c.T else if c.Kind = 5 then leaveV p c.I else chgV p f c.I c.T
theorem okS_doP {p : PartState} {f : Face} {c : KernelCmd} {now : Int} (h : okS p) : okS (doP p f c now).1 := by
  unfold doP
  split
  · exact stP_rel h.1 h.2
  · split
    · exact okS_adm h
    · split
      · exact okS_leave h
      · exact okS_chg h
noncomputable def doK (s : KernelState) (c : KernelCmd) : KernelState × Int × Int :=
  if h : 0 ≤ c.Part ∧ c.Part < (s.Parts.length : Int) ∧ s.Faces.length = s.Parts.length then
    (if c.Kind = 2 then (⟨s.Table, s.Faces, s.Parts, (sendV s.Lines c.Part c.I c.V).1, s.Now⟩, 0, (sendV s.Lines c.Part c.I c.V).2)
     else if c.Kind = 3 then (⟨s.Table, s.Faces, s.Parts, (readV s.Lines c.Part c.I).2.1, s.Now⟩, (readV s.Lines c.Part c.I).1, (readV s.Lines c.Part c.I).2.2)
     else if c.Kind = 1 ∨ c.Kind = 4 ∨ c.Kind = 5 ∨ c.Kind = 6 then (withK s c.Part (doP (s.Parts[c.Part.toNat]'(by omega)) (s.Faces[c.Part.toNat]'(by omega)) c s.Now).1, 0, (doP (s.Parts[c.Part.toNat]'(by omega)) (s.Faces[c.Part.toNat]'(by omega)) c s.Now).2)
     else (s, 0, 4))
  else (s, 0, 4)
theorem kP.do {s : KernelState} (h : kP s) (c : KernelCmd) : kP (doK s c).1 ∧ (doK s c).1.Now = s.Now ∧ (doK s c).1.Table = s.Table ∧ (doK s c).1.Parts.length = s.Parts.length ∧ (doK s c).1.Lines.length = s.Lines.length := by
  unfold doK
  split
  rotate_left
  · exact ⟨h, rfl, rfl, rfl, rfl⟩
  rename_i hc
  split
  · have := sendV_ok (f := c.Part) (i := c.I) (v := c.V) h.lines
    exact ⟨⟨h.tab, h.parts, h.len, h.faces, this.1, h.now0, h.now1⟩, rfl, rfl, rfl, this.2⟩
  · split
    · have := readV_ok (f := c.Part) (i := c.I) h.lines
      exact ⟨⟨h.tab, h.parts, h.len, h.faces, this.1, h.now0, h.now1⟩, rfl, rfl, rfl, this.2⟩
    · split
      · refine ⟨h.with (okS_doP (h.parts _ (List.getElem_mem _))), rfl, rfl, ?_, rfl⟩
        show (s.Parts.set _ _).length = _
        rw [List.length_set]
      · exact ⟨h, rfl, rfl, rfl, rfl⟩
end Go.Proofs.YtldlcdnhdedoeaaGreat
namespace Go.Proofs.YtldlcdnhdedoeaaGreat
open Go Go.VC
/-! A tick of a system. -/
def emptyP : PartState := ⟨[], [], [], [], []⟩
noncomputable def tkP (s : KernelState) (who : Int) (i : Nat) : PartState × Int := tickV ((s.Parts[i]?).getD emptyP) (decide ((i : Int) = who)) s.Now
noncomputable def whoK (s : KernelState) : Int := whoV s.Table.Windows (s.Now.tmod s.Table.Frame)
noncomputable def partsK (s : KernelState) : List PartState := (List.range s.Parts.length).map fun i => (tkP s (whoK s) i).1
theorem tkP_at {s : KernelState} {who : Int} {i : Nat} (h : i < s.Parts.length) : tkP s who i = tickV s.Parts[i] (decide ((i : Int) = who)) s.Now := by
 unfold tkP; rw [List.getElem?_eq_getElem h]; rfl
theorem okS_tkP {s : KernelState} {who : Int} {i : Nat} (h : kP s) (hi : i < s.Parts.length) : okS (tkP s who i).1 := by
 rw [tkP_at hi]; exact okS_tick (h.parts _ (List.getElem_mem hi))
/-- The lines behind a tick. -/
def linesK (s : KernelState) (L : List PortLine) : Prop := linesP L ∧ L.length = s.Lines.length ∧ (if s.Now.tmod s.Table.Frame = 0 then port_Deliver s.Lines = some L ∧ ∀ (i : Nat) (x y : PortLine), s.Lines[i]? = some x → L[i]? = some y → gone x y else L = s.Lines)
theorem kP.tick {s : KernelState} (h : kP s) {L : List PortLine} (hL : linesK s L) (hn : s.Now ≤ 90000) : kP ⟨s.Table, s.Faces, partsK s, L, s.Now + 1⟩ := by
 have n0 := h.now0
 refine ⟨h.tab, fun p hp => ?_, ?_, ?_, hL.1, by show 0 ≤ s.Now + 1; omega, by show s.Now + 1 ≤ 100000; omega⟩
 ·obtain ⟨i, hi, rfl⟩ := List.mem_map.1 hp
  exact okS_tkP h (by simpa using hi)
 ·show (partsK s).length ≤ 4
  unfold partsK; rw [List.length_map, List.length_range]; exact h.len
 ·show s.Faces.length = (partsK s).length
  unfold partsK; rw [List.length_map, List.length_range]; exact h.faces
/-! Scripts. -/
theorem few_ex (l : List Law21Step) (hl : l.length ≤ 4611686018427387904) (hc : ∀ x ∈ l, x.Cmds.length ≤ 4611686018427387904) : ∃ b, law21_Few l = some b ∧ (b = true → l.length ≤ 100 ∧ ∀ x ∈ l, x.Cmds.length ≤ 10) := by
 unfold law21_Few
 refine lp_up_ex l.length (by unfold FU; omega) (fun k => ∀ x ∈ l.take k, x.Cmds.length ≤ 10) (fun b => b = true → l.length ≤ 100 ∧ ∀ x ∈ l, x.Cmds.length ≤ 10) (fun x h => by simp at h) ?_
 intro nx k hk J hnx
 rw [lt_nat]
 by_cases c : k < l.length
 rotate_left
 ·rw [List.take_of_length_le (by omega)] at J
  rw [decide_eq_false c, fk_f]
  exact ⟨_, rfl, fun h => by rw [decide_eq_true_eq] at h; exact ⟨by omega, J⟩⟩
 rw [decide_eq_true c, fk_t, ix_lt c]
 by_cases h10 : (l[k].Cmds.length : Int) > 10
 ·rw [decide_eq_true h10, fk_t]; exact ⟨false, rfl, fun h => by cases h⟩
 rw [decide_eq_false h10, fk_f]
 refine lp_up_ex l[k].Cmds.length (by unfold FU; have := hc _ (List.getElem_mem c); omega) (fun _ => True) (fun b => b = true → l.length ≤ 100 ∧ ∀ x ∈ l, x.Cmds.length ≤ 10) trivial ?_
 intro nx3 j hj _ hnx3
 rw [ix_lt c, lt_nat]
 by_cases cj : j < l[k].Cmds.length
 ·rw [decide_eq_true cj, fk_t, ix_lt c, ix_lt cj, wr_succ j _ cj (hc _ (List.getElem_mem c))]
  by_cases h20 : (l[k].Cmds[j].T.Secs.length : Int) > 20
  ·rw [decide_eq_true h20, fk_t]; exact ⟨false, rfl, fun h => by cases h⟩
  ·rw [decide_eq_false h20, fk_f]; exact hnx3 cj trivial
 ·rw [decide_eq_false cj, fk_f, wr_succ k _ c hl]
  refine hnx c fun x hx => ?_
  rcases mem_take_succ c hx with h | rfl
  ·exact J x h
  ·omega
end Go.Proofs.YtldlcdnhdedoeaaGreat
namespace Go.Proofs.YtldlcdnhdedoeaaGreat
open Go Go.VC
noncomputable def law22_script (a0 : List Law21Step) : Option (List (List KernelCmd)) :=
 lp (fun nx1 (v1 : (List (List KernelCmd)) × Int) => fk (decide (v1.2 < (a0.length : Int))) (ix a0 v1.2 fun x2 => ck (decide ((v1.1.length + ([x2.Cmds] : List (List KernelCmd)).length) * 24 ≤ 140737488355328)) (nx1 (v1.1 ++ ([x2.Cmds] : List (List KernelCmd)), (wr (v1.2 + (1 : Int)))))) (some v1.1)) FU ([], (0 : Int))
theorem law22_script_w (a0 : List Law21Step) (r : List (List KernelCmd)) (h : law22_script a0 = some r) : Go.VC.Spec Tryz.prog 42 [.d (.sl (a0.map Law21Step.enc))] (fun y => y = E_ListListKernelCmd r) := by
 refine Go.VC.Spec.of_xc (args := [.d (.sl (a0.map Law21Step.enc))]) (fn := Tryz.f42) tab ⟨[(0, [0]), (1, [0, 3]), (2, [0, 3, 4]), (3, [0, 3, 4, 8]), (4, [0, 3, 4]), (5, [0, 3, 4]), (6, [2])], [], [], []⟩ 20 [.tmp 2] rfl rfl rfl rfl rfl rfl ?_
 conv => whnf
 refine lpS (fun v1 => ⟨[(0, .l (.d (.sl (a0.map Law21Step.enc)))), (3, .l (.own 4)), (4, .l (.d (.int .i64 v1.2)))], 20, [], [], [(4, 106, 1, v1.1.map (eL KernelCmd.enc))]⟩) h (Weak.trans (Weak.nilO _ 3 4 106 1 rfl) (Weak.refl _)) (fun _ nx1 hn1 v1 h => ?_)
 conv => whnf
 refine lenS a0 Law21Step.enc rfl ?_
 conv => whnf
 refine fkS h (fun h => ?_) (fun h => ?_)
 ·conv => whnf
  refine ixS (enc := Law21Step.enc) h rfl (fun _ => rfl) (fun x2 h => ?_)
  conv => whnf
  refine liS ([x2.Cmds] : List (List KernelCmd)) (eL KernelCmd.enc) rfl rfl ?_
  conv => whnf
  refine apS (enc := (eL KernelCmd.enc)) (l1 := v1.1) (l2 := ([x2.Cmds] : List (List KernelCmd))) h rfl rfl (fun _ => rfl) (fun h => ?_)
  conv => whnf
  exact leS hn1 h (Weak.refl _)
 conv => whnf
 exact rt (E := E_ListListKernelCmd) h rfl
end Go.Proofs.YtldlcdnhdedoeaaGreat
namespace Go.Proofs.YtldlcdnhdedoeaaGreat
open Go Go.VC
noncomputable def world_Own (a0 : List (List KernelCmd)) (a1 : Int) : Option (List (List KernelCmd)) :=
 lp (fun nx1 (v1 : (List (List KernelCmd)) × Int) => fk (decide (v1.2 < (a0.length : Int))) (ix a0 v1.2 fun x2 => lp (fun nx3 (v3 : (List KernelCmd) × Int) => fk (decide (v3.2 < (x2.length : Int))) (jn (fun (w4 : List KernelCmd) => nx3 (w4, (wr (v3.2 + (1 : Int))))) (fun k4 => ix x2 v3.2 fun x5 => fk (decide (x5.Part = a1)) (ck (decide ((v3.1.length + ([x5] : List KernelCmd).length) * 80 ≤ 140737488355328)) (k4 (v3.1 ++ ([x5] : List KernelCmd)))) (k4 v3.1))) (ck (decide ((v1.1.length + ([v3.1] : List (List KernelCmd)).length) * 24 ≤ 140737488355328)) (nx1 (v1.1 ++ ([v3.1] : List (List KernelCmd)), (wr (v1.2 + (1 : Int))))))) FU ([], (0 : Int))) (some v1.1)) FU ([], (0 : Int))
theorem world_Own_w (a0 : List (List KernelCmd)) (a1 : Int) (r : List (List KernelCmd)) (h : world_Own a0 a1 = some r) : Go.VC.Spec Tryz.prog 47 [.d (.sl (a0.map (eL KernelCmd.enc))), .d (.int .i64 a1)] (fun y => y = E_ListListKernelCmd r) := by
 refine Go.VC.Spec.of_xc (args := [.d (.sl (a0.map (eL KernelCmd.enc))), .d (.int .i64 a1)]) (fn := Tryz.f47) tab ⟨[(0, [0, 3]), (1, [4])], [], [], []⟩ 8 [.tmp 4] rfl rfl rfl rfl rfl rfl ?_
 conv => whnf
 refine inS (fn := Tryz.f106) tab ⟨[(0, [0, 1]), (1, [0, 1, 5]), (2, [1, 5, 11, 12, 13]), (3, [1, 5, 11, 12, 13, 14]), (4, [1, 5, 7, 11, 12, 13]), (5, [1, 5, 7, 8, 11, 12, 13]), (6, [1, 5, 8, 11, 12, 13, 17, 18, 19]), (7, [1, 5, 8, 11, 12, 13, 17, 18, 19, 20]), (8, [1, 5, 8, 10, 11, 12, 13, 17, 18, 19]), (9, [1, 5, 8, 10, 11, 12, 13, 17, 18, 19, 25]), (10, [1, 5, 8, 11, 12, 13, 17, 18, 19]), (11, [1, 5, 8, 11, 12, 13, 17, 18, 19]), (12, [1, 5, 11, 12, 13]), (13, [1, 5, 11, 12, 13]), (14, [4])], [], [11], [(33, [1009])]⟩ 37 [.tmp 4] rfl rfl rfl rfl rfl rfl ?_
 conv => whnf
 refine lenS a0 (eL KernelCmd.enc) rfl ?_
 conv => whnf
 refine lpS (fun v1 => ⟨[(1, .l (.func 107 [.k 4])), (5, .l (.own 1006)), (11, .l (.d (.sl (a0.map (eL KernelCmd.enc))))), (12, .l (.d (.int .i64 (a0.length : Int)))), (13, .l (.d (.int .i64 v1.2)))], 37, [⟨[(6, .l (.func 107 [.k 4])), (5, .l (.d (.sl (a0.map (eL KernelCmd.enc))))), (0, .l (.d (.sl (a0.map (eL KernelCmd.enc))))), (3, .l (.ptr 4 0))], 8⟩], [(4, [.d (.int .i64 a1)])], [(1006, 106, 1, v1.1.map (eL KernelCmd.enc))]⟩) h (Weak.trans (Weak.nilO _ 5 1006 106 1 rfl) (Weak.refl _)) (fun _ nx1 hn1 v1 h => ?_)
 conv => whnf
 refine fkS h (fun h => ?_) (fun h => ?_)
 ·conv => whnf
  refine ixS (enc := (eL KernelCmd.enc)) h rfl (fun _ => rfl) (fun x2 h => ?_)
  conv => whnf
  refine lenS x2 KernelCmd.enc rfl ?_
  conv => whnf
  refine lpS (fun v3 => ⟨[(1, .l (.func 107 [.k 4])), (5, .l (.own 1006)), (8, .l (.own 1009)), (11, .l (.d (.sl (a0.map (eL KernelCmd.enc))))), (12, .l (.d (.int .i64 (a0.length : Int)))), (13, .l (.d (.int .i64 v1.2))), (17, .l (.d (.sl (x2.map KernelCmd.enc)))), (18, .l (.d (.int .i64 (x2.length : Int)))), (19, .l (.d (.int .i64 v3.2)))], 37, [⟨[(6, .l (.func 107 [.k 4])), (5, .l (.d (.sl (a0.map (eL KernelCmd.enc))))), (0, .l (.d (.sl (a0.map (eL KernelCmd.enc))))), (3, .l (.ptr 4 0))], 8⟩], [(4, [.d (.int .i64 a1)])], [(1006, 106, 1, v1.1.map (eL KernelCmd.enc)), (1009, 69, 8, v3.1.map KernelCmd.enc)]⟩) h (Weak.trans (Weak.nilO _ 8 1009 69 8 rfl) (Weak.refl _)) (fun _ nx3 hn3 v3 h => ?_)
  conv => whnf
  refine fkS h (fun h => ?_) (fun h => ?_)
  ·conv => whnf
   refine jnS (fun w4 => ⟨[(1, .l (.func 107 [.k 4])), (5, .l (.own 1006)), (8, .l (.own 1009)), (11, .l (.d (.sl (a0.map (eL KernelCmd.enc))))), (12, .l (.d (.int .i64 (a0.length : Int)))), (13, .l (.d (.int .i64 v1.2))), (17, .l (.d (.sl (x2.map KernelCmd.enc)))), (18, .l (.d (.int .i64 (x2.length : Int)))), (19, .l (.d (.int .i64 v3.2)))], 37, [⟨[(6, .l (.func 107 [.k 4])), (5, .l (.d (.sl (a0.map (eL KernelCmd.enc))))), (0, .l (.d (.sl (a0.map (eL KernelCmd.enc))))), (3, .l (.ptr 4 0))], 8⟩], [(4, [.d (.int .i64 a1)])], [(1006, 106, 1, v1.1.map (eL KernelCmd.enc)), (1009, 69, 8, w4.map KernelCmd.enc)]⟩) h (fun k4 hk4 h => ?_) (fun w4 h => ?_)
   ·conv => whnf
    refine ixS (enc := KernelCmd.enc) h rfl (fun _ => rfl) (fun x5 h => ?_)
    conv => whnf
    refine inS (fn := Tryz.f107) tab ⟨[(0, [1, 2]), (1, [3])], [], [], []⟩ 8 [.tmp 3] rfl rfl rfl rfl rfl rfl ?_
    conv => whnf
    refine fkS h (fun h => ?_) (fun h => ?_)
    ·conv => whnf
     refine liS ([x5] : List KernelCmd) KernelCmd.enc rfl rfl ?_
     conv => whnf
     refine apS (enc := KernelCmd.enc) (l1 := v3.1) (l2 := ([x5] : List KernelCmd)) h rfl rfl (fun _ => rfl) (fun h => ?_)
     conv => whnf
     exact jeS hk4 h (Weak.refl _)
    conv => whnf
    refine jeX hk4 h ?_
    conv => whnf
    refine WkF.step (Weak.keepS _ [1, 5, 8, 11, 12, 13, 17, 18, 19]) ?_
    conv => whnf
    exact WkF.refl _
   conv => whnf
   exact leS hn3 h (Weak.refl _)
  conv => whnf
  refine liS ([v3.1] : List (List KernelCmd)) (eL KernelCmd.enc) rfl rfl ?_
  conv => whnf
  refine apS (enc := (eL KernelCmd.enc)) (l1 := v1.1) (l2 := ([v3.1] : List (List KernelCmd))) h rfl rfl (fun _ => rfl) (fun h => ?_)
  conv => whnf
  exact leS hn1 h (Weak.refl _)
 conv => whnf
 exact rt (E := E_ListListKernelCmd) h rfl
end Go.Proofs.YtldlcdnhdedoeaaGreat
namespace Go.Proofs.YtldlcdnhdedoeaaGreat
open Go Go.VC
noncomputable def world_Sends_1 (a0 : KernelCmd) : Option Bool :=
 some (decide (a0.Kind = (2 : Int)))
theorem world_Sends_1_w (a0 : KernelCmd) (r : Bool) (h : world_Sends_1 a0 = some r) : Go.VC.Spec Tryz.prog 108 [.agg (KernelCmd.enc a0)] (fun y => y = E_Bool r) := by
 refine Go.VC.Spec.of_xc (args := [.agg (KernelCmd.enc a0)]) (fn := Tryz.f108) tab ⟨[(0, [1]), (1, [2])], [], [], []⟩ 6 [.tmp 2] rfl rfl rfl rfl rfl rfl ?_
 conv => whnf
 exact rt (E := E_Bool) h rfl
end Go.Proofs.YtldlcdnhdedoeaaGreat
namespace Go.Proofs.YtldlcdnhdedoeaaGreat
open Go Go.VC
noncomputable def world_only_1 (a0 : List (List KernelCmd)) : Option (List (List KernelCmd)) :=
 lp (fun nx1 (v1 : (List (List KernelCmd)) × Int) => fk (decide (v1.2 < (a0.length : Int))) (ix a0 v1.2 fun x2 => lp (fun nx3 (v3 : (List KernelCmd) × Int) => fk (decide (v3.2 < (x2.length : Int))) (jn (fun (w4 : List KernelCmd) => nx3 (w4, (wr (v3.2 + (1 : Int))))) (fun k4 => ix x2 v3.2 fun x5 => bnd (world_Sends_1 x5) fun x6 => fk x6 (ck (decide ((v3.1.length + ([x5] : List KernelCmd).length) * 80 ≤ 140737488355328)) (k4 (v3.1 ++ ([x5] : List KernelCmd)))) (k4 v3.1))) (ck (decide ((v1.1.length + ([v3.1] : List (List KernelCmd)).length) * 24 ≤ 140737488355328)) (nx1 (v1.1 ++ ([v3.1] : List (List KernelCmd)), (wr (v1.2 + (1 : Int))))))) FU ([], (0 : Int))) (some v1.1)) FU ([], (0 : Int))
theorem world_only_1_w (a0 : List (List KernelCmd)) (r : List (List KernelCmd)) (h : world_only_1 a0 = some r) : Go.VC.Spec Tryz.prog 106 [.d (.sl (a0.map (eL KernelCmd.enc))), .d (.fn 108 [])] (fun y => y = E_ListListKernelCmd r) := by
 refine Go.VC.Spec.of_xc (args := [.d (.sl (a0.map (eL KernelCmd.enc))), .d (.fn 108 [])]) (fn := Tryz.f106) tab ⟨[(0, [0, 1]), (1, [0, 1, 5]), (2, [1, 5, 11, 12, 13]), (3, [1, 5, 11, 12, 13, 14]), (4, [1, 5, 7, 11, 12, 13]), (5, [1, 5, 7, 8, 11, 12, 13]), (6, [1, 5, 8, 11, 12, 13, 17, 18, 19]), (7, [1, 5, 8, 11, 12, 13, 17, 18, 19, 20]), (8, [1, 5, 8, 10, 11, 12, 13, 17, 18, 19]), (9, [1, 5, 8, 10, 11, 12, 13, 17, 18, 19, 25]), (10, [1, 5, 8, 11, 12, 13, 17, 18, 19]), (11, [1, 5, 8, 11, 12, 13, 17, 18, 19]), (12, [1, 5, 11, 12, 13]), (13, [1, 5, 11, 12, 13]), (14, [4])], [], [11], [(33, [9])]⟩ 37 [.tmp 4] rfl rfl rfl rfl rfl rfl ?_
 conv => whnf
 refine lenS a0 (eL KernelCmd.enc) rfl ?_
 conv => whnf
 refine lpS (fun v1 => ⟨[(1, .l (.d (.fn 108 []))), (5, .l (.own 6)), (11, .l (.d (.sl (a0.map (eL KernelCmd.enc))))), (12, .l (.d (.int .i64 (a0.length : Int)))), (13, .l (.d (.int .i64 v1.2)))], 37, [], [], [(6, 106, 1, v1.1.map (eL KernelCmd.enc))]⟩) h (Weak.trans (Weak.nilO _ 5 6 106 1 rfl) (Weak.refl _)) (fun _ nx1 hn1 v1 h => ?_)
 conv => whnf
 refine fkS h (fun h => ?_) (fun h => ?_)
 ·conv => whnf
  refine ixS (enc := (eL KernelCmd.enc)) h rfl (fun _ => rfl) (fun x2 h => ?_)
  conv => whnf
  refine lenS x2 KernelCmd.enc rfl ?_
  conv => whnf
  refine lpS (fun v3 => ⟨[(1, .l (.d (.fn 108 []))), (5, .l (.own 6)), (8, .l (.own 9)), (11, .l (.d (.sl (a0.map (eL KernelCmd.enc))))), (12, .l (.d (.int .i64 (a0.length : Int)))), (13, .l (.d (.int .i64 v1.2))), (17, .l (.d (.sl (x2.map KernelCmd.enc)))), (18, .l (.d (.int .i64 (x2.length : Int)))), (19, .l (.d (.int .i64 v3.2)))], 37, [], [], [(6, 106, 1, v1.1.map (eL KernelCmd.enc)), (9, 69, 8, v3.1.map KernelCmd.enc)]⟩) h (Weak.trans (Weak.nilO _ 8 9 69 8 rfl) (Weak.refl _)) (fun _ nx3 hn3 v3 h => ?_)
  conv => whnf
  refine fkS h (fun h => ?_) (fun h => ?_)
  ·conv => whnf
   refine jnS (fun w4 => ⟨[(1, .l (.d (.fn 108 []))), (5, .l (.own 6)), (8, .l (.own 9)), (11, .l (.d (.sl (a0.map (eL KernelCmd.enc))))), (12, .l (.d (.int .i64 (a0.length : Int)))), (13, .l (.d (.int .i64 v1.2))), (17, .l (.d (.sl (x2.map KernelCmd.enc)))), (18, .l (.d (.int .i64 (x2.length : Int)))), (19, .l (.d (.int .i64 v3.2)))], 37, [], [], [(6, 106, 1, v1.1.map (eL KernelCmd.enc)), (9, 69, 8, w4.map KernelCmd.enc)]⟩) h (fun k4 hk4 h => ?_) (fun w4 h => ?_)
   ·conv => whnf
    refine ixS (enc := KernelCmd.enc) h rfl (fun _ => rfl) (fun x5 h => ?_)
    conv => whnf
    refine caS (E := E_Bool) h (world_Sends_1_w x5) rfl (fun _ => rfl) (fun x6 h => ?_)
    conv => whnf
    refine fkS h (fun h => ?_) (fun h => ?_)
    ·conv => whnf
     refine liS ([x5] : List KernelCmd) KernelCmd.enc rfl rfl ?_
     conv => whnf
     refine apS (enc := KernelCmd.enc) (l1 := v3.1) (l2 := ([x5] : List KernelCmd)) h rfl rfl (fun _ => rfl) (fun h => ?_)
     conv => whnf
     exact jeS hk4 h (Weak.refl _)
    conv => whnf
    refine jeX hk4 h ?_
    conv => whnf
    refine WkF.step (Weak.keepS _ [1, 5, 8, 11, 12, 13, 17, 18, 19]) ?_
    conv => whnf
    exact WkF.refl _
   conv => whnf
   exact leS hn3 h (Weak.refl _)
  conv => whnf
  refine liS ([v3.1] : List (List KernelCmd)) (eL KernelCmd.enc) rfl rfl ?_
  conv => whnf
  refine apS (enc := (eL KernelCmd.enc)) (l1 := v1.1) (l2 := ([v3.1] : List (List KernelCmd))) h rfl rfl (fun _ => rfl) (fun h => ?_)
  conv => whnf
  exact leS hn1 h (Weak.refl _)
 conv => whnf
 exact rt (E := E_ListListKernelCmd) h rfl
end Go.Proofs.YtldlcdnhdedoeaaGreat
namespace Go.Proofs.YtldlcdnhdedoeaaGreat
open Go Go.VC
noncomputable def world_Sends (a0 : List (List KernelCmd)) : Option (List (List KernelCmd)) :=
 bnd (world_only_1 a0) fun x1 => some x1
theorem world_Sends_w (a0 : List (List KernelCmd)) (r : List (List KernelCmd)) (h : world_Sends a0 = some r) : Go.VC.Spec Tryz.prog 48 [.d (.sl (a0.map (eL KernelCmd.enc)))] (fun y => y = E_ListListKernelCmd r) := by
 refine Go.VC.Spec.of_xc (args := [.d (.sl (a0.map (eL KernelCmd.enc)))]) (fn := Tryz.f48) tab ⟨[(0, [0]), (1, [2])], [], [], []⟩ 5 [.tmp 2] rfl rfl rfl rfl rfl rfl ?_
 conv => whnf
 refine ccS (E := E_ListListKernelCmd) h (world_only_1_w a0) rfl rfl (fun x1 h => ?_)
 conv => whnf
 exact rt (E := E_ListListKernelCmd) h rfl
end Go.Proofs.YtldlcdnhdedoeaaGreat
namespace Go.Proofs.YtldlcdnhdedoeaaGreat
open Go Go.VC
noncomputable def ref22_Kept (a0 : List Int) (a1 : List Int) (a2 : Int) (a3 : Bool) : Option (List Bool) :=
 lp (fun nx1 (v1 : (List Bool) × Int) => fk (decide (v1.2 < (a0.length : Int))) (jn (fun (w2 : List Bool) => nx1 (w2, (wr (v1.2 + (1 : Int))))) (fun k2 => ix a0 v1.2 fun x3 => fk (decide (x3 = a2)) (ck (decide ((v1.1.length + ([true] : List Bool).length) * 1 ≤ 140737488355328)) (k2 (v1.1 ++ ([true] : List Bool)))) (fk a3 (ix a1 v1.2 fun x4 => ck (decide ((v1.1.length + ([(decide (x4 = (2 : Int)))] : List Bool).length) * 1 ≤ 140737488355328)) (k2 (v1.1 ++ ([(decide (x4 = (2 : Int)))] : List Bool)))) (ck (decide ((v1.1.length + ([false] : List Bool).length) * 1 ≤ 140737488355328)) (k2 (v1.1 ++ ([false] : List Bool))))))) (some v1.1)) FU ([], (0 : Int))
theorem ref22_Kept_w (a0 : List Int) (a1 : List Int) (a2 : Int) (a3 : Bool) (r : List Bool) (h : ref22_Kept a0 a1 a2 a3 = some r) : Go.VC.Spec Tryz.prog 104 [.d (.sl (a0.map (eI .i64))), .d (.sl (a1.map (eI .i64))), .d (.int .i64 a2), .d (.bool a3)] (fun y => y = E_ListBool r) := by
 refine Go.VC.Spec.of_xc (args := [.d (.sl (a0.map (eI .i64))), .d (.sl (a1.map (eI .i64))), .d (.int .i64 a2), .d (.bool a3)]) (fn := Tryz.f104) tab ⟨[(0, [0, 1, 2, 3]), (1, [0, 1, 2, 3, 9]), (2, [0, 1, 2, 3, 9, 10]), (3, [0, 1, 2, 3, 9, 10, 14]), (4, [0, 1, 2, 3, 9, 10]), (5, [0, 1, 2, 3, 9, 10]), (6, [8])], [], [4], []⟩ 37 [.tmp 8] rfl rfl rfl rfl rfl rfl ?_
 conv => whnf
 refine lpS (fun v1 => ⟨[(0, .l (.d (.sl (a0.map (eI .i64))))), (1, .l (.d (.sl (a1.map (eI .i64))))), (2, .l (.d (.int .i64 a2))), (3, .l (.d (.bool a3))), (9, .l (.own 10)), (10, .l (.d (.int .i64 v1.2)))], 37, [], [], [(10, 4, 1, v1.1.map eB)]⟩) h (Weak.trans (Weak.nilO _ 9 10 4 1 rfl) (Weak.refl _)) (fun _ nx1 hn1 v1 h => ?_)
 conv => whnf
 refine lenS a0 (eI .i64) rfl ?_
 conv => whnf
 refine fkS h (fun h => ?_) (fun h => ?_)
 ·conv => whnf
  refine jnS (fun w2 => ⟨[(0, .l (.d (.sl (a0.map (eI .i64))))), (1, .l (.d (.sl (a1.map (eI .i64))))), (2, .l (.d (.int .i64 a2))), (3, .l (.d (.bool a3))), (9, .l (.own 10)), (10, .l (.d (.int .i64 v1.2)))], 37, [], [], [(10, 4, 1, w2.map eB)]⟩) h (fun k2 hk2 h => ?_) (fun w2 h => ?_)
  ·conv => whnf
   refine ixS (enc := (eI .i64)) h rfl (fun _ => rfl) (fun x3 h => ?_)
   conv => whnf
   refine fkS h (fun h => ?_) (fun h => ?_)
   ·conv => whnf
    refine liS ([true] : List Bool) eB rfl rfl ?_
    conv => whnf
    refine apS (enc := eB) (l1 := v1.1) (l2 := ([true] : List Bool)) h rfl rfl (fun _ => rfl) (fun h => ?_)
    conv => whnf
    exact jeS hk2 h (Weak.refl _)
   conv => whnf
   refine fkS h (fun h => ?_) (fun h => ?_)
   ·conv => whnf
    refine ixS (enc := (eI .i64)) h rfl (fun _ => rfl) (fun x4 h => ?_)
    conv => whnf
    refine liS ([(decide (x4 = (2 : Int)))] : List Bool) eB rfl rfl ?_
    conv => whnf
    refine apS (enc := eB) (l1 := v1.1) (l2 := ([(decide (x4 = (2 : Int)))] : List Bool)) h rfl rfl (fun _ => rfl) (fun h => ?_)
    conv => whnf
    exact jeS hk2 h (Weak.refl _)
   conv => whnf
   refine liS ([false] : List Bool) eB rfl rfl ?_
   conv => whnf
   refine apS (enc := eB) (l1 := v1.1) (l2 := ([false] : List Bool)) h rfl rfl (fun _ => rfl) (fun h => ?_)
   conv => whnf
   exact jeS hk2 h (Weak.refl _)
  conv => whnf
  exact leS hn1 h (Weak.refl _)
 conv => whnf
 exact rt (E := E_ListBool) h rfl
end Go.Proofs.YtldlcdnhdedoeaaGreat
namespace Go.Proofs.YtldlcdnhdedoeaaGreat
open Go Go.VC
noncomputable def law22_kept (a0 : List Law21Step) (a1 : Int) (a2 : Bool) (a3 : List (List KernelCmd)) : Option Bool :=
 fk (!decide ((a3.length : Int) = (a0.length : Int))) (some false) (lp (fun nx1 (v1 : Int) => fk (decide (v1 < (a0.length : Int))) (lp (fun nx2 (v2 : (List Int) × (List Int) × Int) => ix a0 v1 fun x3 => fk (decide (v2.2.2 < (x3.Cmds.length : Int))) (ix a0 v1 fun x4 => ix x4.Cmds v2.2.2 fun x5 => ck (decide ((v2.1.length + ([x5.Part] : List Int).length) * 8 ≤ 140737488355328)) (ix a0 v1 fun x6 => ix x6.Cmds v2.2.2 fun x7 => ck (decide ((v2.2.1.length + ([x7.Kind] : List Int).length) * 8 ≤ 140737488355328)) (nx2 (v2.1 ++ ([x5.Part] : List Int), v2.2.1 ++ ([x7.Kind] : List Int), (wr (v2.2.2 + (1 : Int))))))) (bnd (ref22_Kept v2.1 v2.2.1 a1 a2) fun x8 => lp (fun nx9 (v9 : Int × Int) => fk (decide (v9.2 < (x8.length : Int))) (jn (fun (w10 : Int) => nx9 (w10, (wr (v9.2 + (1 : Int))))) (fun k10 => ix x8 v9.2 fun x11 => fk (!x11) (k10 v9.1) (ix a0 v1 fun x12 => ix x12.Cmds v9.2 fun x13 => jn (fun (w14 : Bool) => fk w14 (some false) (k10 (wr (v9.1 + (1 : Int))))) (fun k14 => ix a3 v1 fun x15 => fk (decide (v9.1 ≥ (x15.length : Int))) (k14 true) (ix a3 v1 fun x16 => ix x16 v9.1 fun x17 => fk (!decide (x17.Part = x13.Part)) (k14 true) (ix a3 v1 fun x18 => ix x18 v9.1 fun x19 => fk (!decide (x19.Kind = x13.Kind)) (k14 true) (ix a3 v1 fun x20 => ix x20 v9.1 fun x21 => fk (!decide (x21.I = x13.I)) (k14 true) (ix a3 v1 fun x22 => ix x22 v9.1 fun x23 => fk (!decide (x23.V = x13.V)) (k14 true) (ix a3 v1 fun x24 => ix x24 v9.1 fun x25 => bnd (ref05_Same x25.T x13.T) fun x26 => k14 (!x26)))))))))) (ix a3 v1 fun x27 => fk (!decide (v9.1 = (x27.length : Int))) (some false) (nx1 (wr (v1 + (1 : Int)))))) FU ((0 : Int), (0 : Int)))) FU ([], [], (0 : Int))) (some true)) FU (0 : Int))
theorem law22_kept_w (a0 : List Law21Step) (a1 : Int) (a2 : Bool) (a3 : List (List KernelCmd)) (r : Bool) (h : law22_kept a0 a1 a2 a3 = some r) : Go.VC.Spec Tryz.prog 46 [.d (.sl (a0.map Law21Step.enc)), .d (.int .i64 a1), .d (.bool a2), .d (.sl (a3.map (eL KernelCmd.enc)))] (fun y => y = E_Bool r) := by
 refine Go.VC.Spec.of_xc (args := [.d (.sl (a0.map Law21Step.enc)), .d (.int .i64 a1), .d (.bool a2), .d (.sl (a3.map (eL KernelCmd.enc)))]) (fn := Tryz.f46) tab ⟨[(0, [0, 1, 2, 3]), (1, [0, 1, 2, 3, 21]), (2, [8]), (3, [0, 1, 2, 3, 9]), (4, [0, 1, 2, 3, 9, 25]), (5, [0, 1, 2, 3, 9]), (6, [0, 1, 2, 3, 9, 10, 11]), (7, [0, 1, 2, 3, 9, 10, 11, 12]), (8, [0, 1, 2, 3, 9, 10, 11, 12, 35]), (9, [0, 1, 2, 3, 9, 10, 11, 12]), (10, [0, 1, 2, 3, 9, 10, 11, 12]), (11, [0, 1, 2, 3, 9, 10, 11, 12]), (12, [0, 1, 2, 3, 9, 13]), (13, [0, 1, 2, 3, 9, 13, 14]), (14, [0, 1, 2, 3, 9, 13, 14, 15]), (15, [0, 1, 2, 3, 9, 13, 14, 15, 70]), (16, [0, 1, 2, 3, 9, 13, 14, 15]), (17, [0, 1, 2, 3, 9, 13, 14, 15, 77]), (18, [0, 1, 2, 3, 9, 13, 14, 15, 16]), (19, [0, 1, 2, 3, 9, 13, 14, 15, 158]), (20, [8]), (21, [0, 1, 2, 3, 9, 13, 14, 15]), (22, [0, 1, 2, 3, 9, 167]), (23, [8]), (24, [8])], [], [100158, 16], []⟩ 168 [.tmp 8] rfl rfl rfl rfl rfl rfl ?_
 conv => whnf
 refine lenS a3 (eL KernelCmd.enc) rfl ?_
 conv => whnf
 refine lenS a0 Law21Step.enc rfl ?_
 conv => whnf
 refine fkS h (fun h => ?_) (fun h => ?_)
 ·conv => whnf
  exact rt (E := E_Bool) h rfl
 conv => whnf
 refine lpS (fun v1 => ⟨[(0, .l (.d (.sl (a0.map Law21Step.enc)))), (1, .l (.d (.int .i64 a1))), (2, .l (.d (.bool a2))), (3, .l (.d (.sl (a3.map (eL KernelCmd.enc))))), (9, .l (.d (.int .i64 v1)))], 168, [], [], []⟩) h (Weak.refl _) (fun _ nx1 hn1 v1 h => ?_)
 conv => whnf
 refine lenS a0 Law21Step.enc rfl ?_
 conv => whnf
 refine fkS h (fun h => ?_) (fun h => ?_)
 ·conv => whnf
  refine lpS (fun v2 => ⟨[(0, .l (.d (.sl (a0.map Law21Step.enc)))), (1, .l (.d (.int .i64 a1))), (2, .l (.d (.bool a2))), (3, .l (.d (.sl (a3.map (eL KernelCmd.enc))))), (9, .l (.d (.int .i64 v1))), (10, .l (.own 11)), (11, .l (.own 12)), (12, .l (.d (.int .i64 v2.2.2)))], 168, [], [], [(11, 3, 1, v2.1.map (eI .i64)), (12, 3, 1, v2.2.1.map (eI .i64))]⟩) h (Weak.trans (Weak.nilO _ 10 11 3 1 rfl) (Weak.trans (Weak.nilO _ 11 12 3 1 rfl) (Weak.refl _))) (fun _ nx2 hn2 v2 h => ?_)
  conv => whnf
  refine ixS (enc := Law21Step.enc) h rfl (fun _ => rfl) (fun x3 h => ?_)
  conv => whnf
  refine lenS x3.Cmds KernelCmd.enc rfl ?_
  conv => whnf
  refine fkS h (fun h => ?_) (fun h => ?_)
  ·conv => whnf
   refine ixS (enc := Law21Step.enc) h rfl (fun _ => rfl) (fun x4 h => ?_)
   conv => whnf
   refine ixS (enc := KernelCmd.enc) h rfl (fun _ => rfl) (fun x5 h => ?_)
   conv => whnf
   refine liS ([x5.Part] : List Int) (eI .i64) rfl rfl ?_
   conv => whnf
   refine apS (enc := (eI .i64)) (l1 := v2.1) (l2 := ([x5.Part] : List Int)) h rfl rfl (fun _ => rfl) (fun h => ?_)
   conv => whnf
   refine ixS (enc := Law21Step.enc) h rfl (fun _ => rfl) (fun x6 h => ?_)
   conv => whnf
   refine ixS (enc := KernelCmd.enc) h rfl (fun _ => rfl) (fun x7 h => ?_)
   conv => whnf
   refine liS ([x7.Kind] : List Int) (eI .i64) rfl rfl ?_
   conv => whnf
   refine apS (enc := (eI .i64)) (l1 := v2.2.1) (l2 := ([x7.Kind] : List Int)) h rfl rfl (fun _ => rfl) (fun h => ?_)
   conv => whnf
   exact leS hn2 h (Weak.refl _)
  conv => whnf
  refine iceS 11 ?_
  conv => whnf
  refine iceS 12 ?_
  conv => whnf
  refine ccS (E := E_ListBool) h (ref22_Kept_w v2.1 v2.2.1 a1 a2) rfl rfl (fun x8 h => ?_)
  conv => whnf
  refine lpS (fun v9 => ⟨[(0, .l (.d (.sl (a0.map Law21Step.enc)))), (1, .l (.d (.int .i64 a1))), (2, .l (.d (.bool a2))), (3, .l (.d (.sl (a3.map (eL KernelCmd.enc))))), (9, .l (.d (.int .i64 v1))), (13, .l (.d (.sl (x8.map eB)))), (14, .l (.d (.int .i64 v9.1))), (15, .l (.d (.int .i64 v9.2)))], 168, [], [], []⟩) h (Weak.refl _) (fun _ nx9 hn9 v9 h => ?_)
  conv => whnf
  refine lenS x8 eB rfl ?_
  conv => whnf
  refine fkS h (fun h => ?_) (fun h => ?_)
  ·conv => whnf
   refine jnS (fun w10 => ⟨[(0, .l (.d (.sl (a0.map Law21Step.enc)))), (1, .l (.d (.int .i64 a1))), (2, .l (.d (.bool a2))), (3, .l (.d (.sl (a3.map (eL KernelCmd.enc))))), (9, .l (.d (.int .i64 v1))), (13, .l (.d (.sl (x8.map eB)))), (14, .l (.d (.int .i64 w10))), (15, .l (.d (.int .i64 v9.2)))], 168, [], [], []⟩) h (fun k10 hk10 h => ?_) (fun w10 h => ?_)
   ·conv => whnf
    refine ixS (enc := eB) h rfl (fun _ => rfl) (fun x11 h => ?_)
    conv => whnf
    refine fkS h (fun h => ?_) (fun h => ?_)
    ·conv => whnf
     refine jeX hk10 h ?_
     conv => whnf
     refine WkF.step (Weak.keepS _ [0, 1, 2, 3, 9, 13, 14, 15]) ?_
     conv => whnf
     exact WkF.refl _
    conv => whnf
    refine ixS (enc := Law21Step.enc) h rfl (fun _ => rfl) (fun x12 h => ?_)
    conv => whnf
    refine ixS (enc := KernelCmd.enc) h rfl (fun _ => rfl) (fun x13 h => ?_)
    conv => whnf
    refine jnS (fun w14 => ⟨[(0, .l (.d (.sl (a0.map Law21Step.enc)))), (1, .l (.d (.int .i64 a1))), (2, .l (.d (.bool a2))), (3, .l (.d (.sl (a3.map (eL KernelCmd.enc))))), (9, .l (.d (.int .i64 v1))), (13, .l (.d (.sl (x8.map eB)))), (14, .l (.d (.int .i64 v9.1))), (15, .l (.d (.int .i64 v9.2))), (158, .l (.d (.bool w14)))], 168, [], [], []⟩) h (fun k14 hk14 h => ?_) (fun w14 h => ?_)
    ·conv => whnf
     refine ⟨73, ?_⟩
     conv => whnf
     refine ixS (enc := (eL KernelCmd.enc)) h rfl (fun _ => rfl) (fun x15 h => ?_)
     conv => whnf
     refine lenS x15 KernelCmd.enc rfl ?_
     conv => whnf
     refine fkS h (fun h => ?_) (fun h => ?_)
     ·conv => whnf
      refine drS (by kernel_rfl) ?_
      conv => whnf
      exact jeS hk14 h (Weak.refl _)
     conv => whnf
     refine ixS (enc := (eL KernelCmd.enc)) h rfl (fun _ => rfl) (fun x16 h => ?_)
     conv => whnf
     refine ixS (enc := KernelCmd.enc) h rfl (fun _ => rfl) (fun x17 h => ?_)
     conv => whnf
     refine fkS h (fun h => ?_) (fun h => ?_)
     ·conv => whnf
      refine drS (by kernel_rfl) ?_
      conv => whnf
      exact jeS hk14 h (Weak.refl _)
     conv => whnf
     refine ixS (enc := (eL KernelCmd.enc)) h rfl (fun _ => rfl) (fun x18 h => ?_)
     conv => whnf
     refine ixS (enc := KernelCmd.enc) h rfl (fun _ => rfl) (fun x19 h => ?_)
     conv => whnf
     refine fkS h (fun h => ?_) (fun h => ?_)
     ·conv => whnf
      refine drS (by kernel_rfl) ?_
      conv => whnf
      exact jeS hk14 h (Weak.refl _)
     conv => whnf
     refine ixS (enc := (eL KernelCmd.enc)) h rfl (fun _ => rfl) (fun x20 h => ?_)
     conv => whnf
     refine ixS (enc := KernelCmd.enc) h rfl (fun _ => rfl) (fun x21 h => ?_)
     conv => whnf
     refine fkS h (fun h => ?_) (fun h => ?_)
     ·conv => whnf
      refine drS (by kernel_rfl) ?_
      conv => whnf
      exact jeS hk14 h (Weak.refl _)
     conv => whnf
     refine ixS (enc := (eL KernelCmd.enc)) h rfl (fun _ => rfl) (fun x22 h => ?_)
     conv => whnf
     refine ixS (enc := KernelCmd.enc) h rfl (fun _ => rfl) (fun x23 h => ?_)
     conv => whnf
     refine fkS h (fun h => ?_) (fun h => ?_)
     ·conv => whnf
      refine drS (by kernel_rfl) ?_
      conv => whnf
      exact jeS hk14 h (Weak.refl _)
     conv => whnf
     refine ixS (enc := (eL KernelCmd.enc)) h rfl (fun _ => rfl) (fun x24 h => ?_)
     conv => whnf
     refine ixS (enc := KernelCmd.enc) h rfl (fun _ => rfl) (fun x25 h => ?_)
     conv => whnf
     refine daS (E := E_Bool) h (ref05_Same_w x25.T x13.T) (fun _ => rfl) (fun x26 h => ?_)
     conv => whnf
     refine drS (by kernel_rfl) ?_
     conv => whnf
     exact jeS hk14 h (Weak.refl _)
    conv => whnf
    refine fkS h (fun h => ?_) (fun h => ?_)
    ·conv => whnf
     exact rt (E := E_Bool) h rfl
    conv => whnf
    exact jeS hk10 h (Weak.refl _)
   conv => whnf
   exact leS hn9 h (Weak.refl _)
  conv => whnf
  refine ixS (enc := (eL KernelCmd.enc)) h rfl (fun _ => rfl) (fun x27 h => ?_)
  conv => whnf
  refine lenS x27 KernelCmd.enc rfl ?_
  conv => whnf
  refine fkS h (fun h => ?_) (fun h => ?_)
  ·conv => whnf
   exact rt (E := E_Bool) h rfl
  conv => whnf
  exact leS hn1 h (Weak.refl _)
 conv => whnf
 exact rt (E := E_Bool) h rfl
end Go.Proofs.YtldlcdnhdedoeaaGreat
namespace Go.Proofs.YtldlcdnhdedoeaaGreat
open Go Go.VC
/-! Scripts, and what is left of them. -/
theorem flt_succ {α : Type} (q : α → Bool) (x : List α) (k : Nat) (h : k < x.length) : (x.take (k + 1)).filter q = (x.take k).filter q ++ (if q x[k] then [x[k]] else []) := by
 rw [← List.take_append_getElem h, List.filter_append]
 congr 1
 cases hq : q x[k] <;> simp [hq]
theorem flt_len {α : Type} (q : α → Bool) (x : List α) (k : Nat) : ((x.take k).filter q).length ≤ k := Nat.le_trans (List.length_filter_le _ _) (by rw [List.length_take]; omega)
theorem map_take_succ {α β : Type} (f : α → β) (x : List α) (k : Nat) (h : k < x.length) : (x.take (k + 1)).map f = (x.take k).map f ++ [f x[k]] := by
 rw [← List.take_append_getElem h, List.map_append]; rfl
theorem map_take_len {α β : Type} (f : α → β) (x : List α) (k : Nat) : ((x.take k).map f).length ≤ k := by rw [List.length_map, List.length_take]; omega
theorem ck_le {α E : Type} {l : List E} {y : E} (z : Nat) {x : Option α} (hz : z ≤ 1000) (hn : l.length ≤ 1000000000) : ck (decide ((l.length + ([y] : List E).length) * z ≤ 140737488355328)) x = x := by
 refine ck_t (decide_eq_true ?_)
 simp only [List.length_cons, List.length_nil]
 have : (l.length + (0 + 1)) * z ≤ 1000000001 * 1000 := Nat.mul_le_mul (by omega) hz
 omega
theorem law22_script_eq (l : List Law21Step) (hl : l.length ≤ 1000000000) : law22_script l = some (l.map (·.Cmds)) := by
 unfold law22_script
 refine lp_upS l.length (by unfold FU; omega) (fun k o => o = (l.take k).map (·.Cmds)) [] rfl ?_
 rintro nx k o hk rfl hnx
 have hk9 : k ≤ 1000000000 := by omega
 simp only
 rw [lt_nat]
 by_cases h : k < l.length
 ·rw [decide_eq_true h, fk_t, ix_lt h, ck_le 24 (by decide) (Nat.le_trans (map_take_len _ _ _) hk9), wr_succ k _ h (by omega)]
  exact hnx _ h (map_take_succ _ l k h).symm
 ·rw [decide_eq_false h, fk_f]
  have e : k = l.length := by omega
  rw [e, List.take_length]
theorem flt_lp {α R : Type} {z : Nat} (hz : z ≤ 1000) (x : List α) (hx : x.length ≤ 1000000000) (q : α → Bool) {Y : List α → Option R} {r : R} (h : Y (x.filter q) = some r) :
  lp (fun nx3 (v3 : (List α) × Int) => fk (decide (v3.2 < (x.length : Int))) (jn (fun (w4 : List α) => nx3 (w4, (wr (v3.2 + (1 : Int))))) (fun k4 => ix x v3.2 fun x5 => fk (q x5) (ck (decide ((v3.1.length + ([x5] : List α).length) * z ≤ 140737488355328)) (k4 (v3.1 ++ ([x5] : List α)))) (k4 v3.1))) (Y v3.1)) FU ([], (0 : Int)) = some r := by
 refine lp_upS x.length (by unfold FU; omega) (fun k o => o = (x.take k).filter q) [] rfl ?_
 rintro nx k o hk rfl hnx
 have hk9 : k ≤ 1000000000 := by omega
 simp only
 rw [lt_nat]
 by_cases hlt : k < x.length
 ·rw [decide_eq_true hlt, fk_t, jn_eq, ix_lt hlt, wr_succ k _ hlt (by omega)]
  have hs := flt_succ q x k hlt
  cases hq : q x[k]
  ·rw [fk_f]
   refine hnx _ hlt ?_
   rw [hs, hq]; simp
  ·rw [fk_t, ck_le z hz (Nat.le_trans (flt_len _ _ _) hk9)]
   refine hnx _ hlt ?_
   rw [hs, hq]; rfl
 ·rw [decide_eq_false hlt, fk_f]
  have e : k = x.length := by omega
  rw [e, List.take_length]
  exact h
def ownL (p : Int) (L : List (List KernelCmd)) : List (List KernelCmd) := L.map fun x => x.filter fun c => decide (c.Part = p)
def sendL (L : List (List KernelCmd)) : List (List KernelCmd) := L.map fun x => x.filter fun c => decide (c.Kind = 2)
theorem world_Own_eq (L : List (List KernelCmd)) (p : Int) (hl : L.length ≤ 1000000000) (hc : ∀ x ∈ L, x.length ≤ 1000000000) : world_Own L p = some (ownL p L) := by
 unfold world_Own
 refine lp_upS L.length (by unfold FU; omega) (fun k o => o = ownL p (L.take k)) [] rfl ?_
 rintro nx k o hk rfl hnx
 have hk9 : k ≤ 1000000000 := by omega
 simp only
 rw [lt_nat]
 by_cases h : k < L.length
 ·rw [decide_eq_true h, fk_t, ix_lt h]
  have hlen : (ownL p (L.take k)).length ≤ 1000000000 := Nat.le_trans (map_take_len _ _ _) hk9
  refine flt_lp (z := 80) (by decide) L[k] (hc _ (List.getElem_mem h)) (fun c => decide (c.Part = p)) (Y := fun s => ck (decide (((ownL p (L.take k)).length + ([s] : List (List KernelCmd)).length) * 24 ≤ 140737488355328)) (nx (ownL p (L.take k) ++ ([s] : List (List KernelCmd)), (wr ((k : Int) + (1 : Int)))))) ?_
  rw [ck_le 24 (by decide) hlen, wr_succ k _ h (by omega)]
  exact hnx _ h (map_take_succ _ L k h).symm
 ·rw [decide_eq_false h, fk_f]
  have e : k = L.length := by omega
  rw [e, List.take_length]
theorem world_Sends_eq (L : List (List KernelCmd)) (hl : L.length ≤ 1000000000) (hc : ∀ x ∈ L, x.length ≤ 1000000000) : world_Sends L = some (sendL L) := by
 unfold world_Sends
 refine (bnd_eq (a := sendL L) ?_).trans rfl
 unfold world_only_1
 have hw : ∀ c : KernelCmd, world_Sends_1 c = some (decide (c.Kind = 2)) := fun c => rfl
 refine lp_upS L.length (by unfold FU; omega) (fun k o => o = sendL (L.take k)) [] rfl ?_
 rintro nx k o hk rfl hnx
 have hk9 : k ≤ 1000000000 := by omega
 simp only [hw, bnd_some]
 rw [lt_nat]
 by_cases h : k < L.length
 ·rw [decide_eq_true h, fk_t, ix_lt h]
  have hlen : (sendL (L.take k)).length ≤ 1000000000 := Nat.le_trans (map_take_len _ _ _) hk9
  refine flt_lp (z := 80) (by decide) L[k] (hc _ (List.getElem_mem h)) (fun c => decide (c.Kind = 2)) (Y := fun s => ck (decide (((sendL (L.take k)).length + ([s] : List (List KernelCmd)).length) * 24 ≤ 140737488355328)) (nx (sendL (L.take k) ++ ([s] : List (List KernelCmd)), (wr ((k : Int) + (1 : Int)))))) ?_
  rw [ck_le 24 (by decide) hlen, wr_succ k _ h (by omega)]
  exact hnx _ h (map_take_succ _ L k h).symm
 ·rw [decide_eq_false h, fk_f]
  have e : k = L.length := by omega
  rw [e, List.take_length]
def keepC (p : Int) (s : Bool) (part kind : Int) : Bool := if part = p then true else if s = true then decide (kind = 2) else false
theorem ref22_Kept_eq (a b : List Int) (p : Int) (s : Bool) (hl : a.length ≤ 1000000000) (hb : b.length = a.length) : ref22_Kept a b p s = some ((a.zip b).map fun x => keepC p s x.1 x.2) := by
 unfold ref22_Kept
 have hz : (a.zip b).length = a.length := by rw [List.length_zip, hb, Nat.min_self]
 refine lp_upS a.length (by unfold FU; omega) (fun k o => o = ((a.zip b).take k).map fun x => keepC p s x.1 x.2) [] rfl ?_
 rintro nx k o hk rfl hnx
 have hk9 : k ≤ 1000000000 := by omega
 simp only
 rw [lt_nat]
 by_cases h : k < a.length
 ·rw [decide_eq_true h, fk_t, jn_eq, ix_lt h, wr_succ k _ h (by omega)]
  have hkb : k < b.length := by omega
  have hs := map_take_succ (fun x : Int × Int => keepC p s x.1 x.2) (a.zip b) k (by omega)
  rw [List.getElem_zip] at hs
  have hlen := Nat.le_trans (map_take_len (fun x : Int × Int => keepC p s x.1 x.2) (a.zip b) k) (show k ≤ 1000000000 by omega)
  by_cases c : a[k] = p
  ·rw [decide_eq_true c, fk_t, ck_le 1 (by decide) hlen]
   refine hnx _ h ?_
   rw [hs]; simp only [keepC, if_pos c]
  ·rw [decide_eq_false c, fk_f]
   cases s
   ·rw [fk_f, ck_le 1 (by decide) hlen]
    refine hnx _ h ?_
    rw [hs]; simp only [keepC, if_neg c, Bool.false_eq_true, if_false]
   ·rw [fk_t, ix_lt hkb, ck_le 1 (by decide) hlen]
    refine hnx _ h ?_
    rw [hs]; simp only [keepC, if_neg c, if_true]
 ·rw [decide_eq_false h, fk_f]
  have e : k = a.length := by omega
  rw [e, ← hz, List.take_length]
end Go.Proofs.YtldlcdnhdedoeaaGreat
namespace Go.Proofs.YtldlcdnhdedoeaaGreat
open Go Go.VC
theorem flt_at {α : Type} (q : α → Bool) (x : List α) (k : Nat) (h : k < x.length) (hq : q x[k] = true) : (x.filter q)[((x.take k).filter q).length]? = some x[k] := by
 have e : x = x.take k ++ x[k] :: x.drop (k + 1) := by rw [← List.drop_eq_getElem_cons h, List.take_append_drop]
 have e2 : x.filter q = (x.take k).filter q ++ x[k] :: (x.drop (k + 1)).filter q := by
  conv => lhs; rw [e]
  rw [List.filter_append, List.filter_cons_of_pos hq]
 rw [e2, List.getElem?_append_right (Nat.le_refl _), Nat.sub_self]
 rfl
theorem ix_some {α β : Type} {l : List α} {k : Nat} {x : α} {f : α → Option β} (h : l[k]? = some x) : ix l (k : Int) f = f x := by
 have hk := (List.getElem?_eq_some_iff.1 h).1
 rw [ix_lt hk]
 rw [List.getElem?_eq_getElem hk] at h
 rw [Option.some.inj h]
def keepQ (p : Int) (s : Bool) (c : KernelCmd) : Bool := keepC p s c.Part c.Kind
theorem zip_maps {α β γ : Type} (f : α → β) (g : α → γ) (l : List α) : (l.map f).zip (l.map g) = l.map fun x => (f x, g x) := by
 induction l with
 | nil => rfl
 | cons a r ih => simp only [List.map_cons, List.zip_cons_cons, ih]
theorem law22_kept_eq (l : List Law21Step) (p : Int) (s : Bool) (hl : l.length ≤ 1000000000) (hc : ∀ x ∈ l, x.Cmds.length ≤ 1000000000) (ht : ∀ x ∈ l, ∀ c ∈ x.Cmds, c.T.Secs.length ≤ 4611686018427387904) :
  law22_kept l p s (l.map fun x => x.Cmds.filter (keepQ p s)) = some true := by
 unfold law22_kept
 rw [List.length_map, decide_eq_true rfl, Bool.not_true, fk_f]
 refine lp_up l.length (by unfold FU; omega) (fun _ => True) trivial ?_
 intro nx i hi _ hnx
 rw [lt_nat]
 by_cases h : i < l.length
 rotate_left
 ·rw [decide_eq_false h, fk_f]
 rw [decide_eq_true h, fk_t]
 have hx := hc _ (List.getElem_mem h)
 have htx := ht _ (List.getElem_mem h)
 have hA : ∀ {β : Type} (f : Law21Step → Option β), ix l (i : Int) f = f l[i] := fun f => ix_lt h
 have hO : ∀ {β : Type} (f : List KernelCmd → Option β), ix (l.map fun x => x.Cmds.filter (keepQ p s)) (i : Int) f = f (l[i].Cmds.filter (keepQ p s)) := fun f => ix_some (by rw [List.getElem?_map, List.getElem?_eq_getElem h]; rfl)
 have hW : nx (wr ((i : Int) + 1)) = some true := by rw [wr_succ i _ h (by omega)]; exact hnx h trivial
 generalize l[i] = y at hx htx hA hO
 obtain ⟨x⟩ := y
 simp only at hx htx hO
 generalize (l.map fun x => x.Cmds.filter (keepQ p s)) = out at hO ⊢
 clear hnx ht hc
 -- the rows of parts and kinds
 refine lp_inv (fun v : List Int × List Int × Int => x.length - v.2.2.toNat) (fun v : List Int × List Int × Int => ∃ k : Nat, k ≤ x.length ∧ v = ((x.take k).map (·.Part), (x.take k).map (·.Kind), (k : Int))) ?_ FU _ ⟨0, Nat.zero_le _, rfl⟩ (by unfold FU; simp only; omega)
 rintro nx2 v ⟨k, hk, rfl⟩ hnx2
 have hk9 : k ≤ 1000000000 := by omega
 simp only [hA]
 rw [lt_nat]
 by_cases hkx : k < x.length
 ·rw [decide_eq_true hkx, fk_t, ix_lt hkx, ck_le 8 (by decide) (Nat.le_trans (map_take_len _ _ _) hk9), ix_lt hkx, ck_le 8 (by decide) (Nat.le_trans (map_take_len _ _ _) hk9), wr_succ k _ hkx (by omega)]
  exact hnx2 _ ⟨k + 1, hkx, by rw [map_take_succ _ x k hkx, map_take_succ _ x k hkx]⟩ (by simp only [Int.toNat_natCast]; omega)
 rw [decide_eq_false hkx, fk_f]
 have e : k = x.length := by omega
 rw [e, List.take_length, bnd_eq (ref22_Kept_eq _ _ p s (by rw [List.length_map]; exact hx) (by rw [List.length_map, List.length_map])), zip_maps, List.map_map]
 have hm : (x.map ((fun x : Int × Int => keepC p s x.1 x.2) ∘ fun c => (c.Part, c.Kind))) = x.map (keepQ p s) := rfl
 rw [hm, List.length_map]
 clear hnx2 e hkx hk9 hk hm
 refine lp_upS x.length (by unfold FU; omega) (fun k (n : Int) => n = ((((x.take k).filter (keepQ p s)).length : Nat) : Int)) (0 : Int) rfl ?_
 rintro nx9 k n hk rfl hnx9
 simp only
 rw [lt_nat]
 by_cases hkx : k < x.length
 rotate_left
 ·rw [decide_eq_false hkx, fk_f, hO]
  have e : k = x.length := by omega
  rw [e, List.take_length, decide_eq_true rfl, Bool.not_true, fk_f]
  exact hW
 rw [decide_eq_true hkx, fk_t]
 have hs := flt_succ (keepQ p s) x k hkx
 have hK : (x.map (keepQ p s))[k]? = some (keepQ p s x[k]) := by rw [List.getElem?_map, List.getElem?_eq_getElem hkx]; rfl
 have hl9 := flt_len (keepQ p s) x k
 cases hq : keepQ p s x[k]
 ·refine jn_to (((x.take k).filter (keepQ p s)).length : Int) (fun k10 => ?_) ?_
  ·rw [ix_some hK, hq, Bool.not_false, fk_t]
  ·rw [wr_succ k _ hkx (by omega)]
   refine hnx9 _ hkx ?_
   rw [hs, hq]; simp
 ·have hF := flt_at (keepQ p s) x k hkx hq
  have hn := (List.getElem?_eq_some_iff.1 hF).1
  refine jn_to ((((x.take k).filter (keepQ p s)).length + 1 : Nat) : Int) (fun k10 => ?_) ?_
  ·rw [ix_some hK, hq, Bool.not_true, fk_f, ix_lt hkx]
   refine jn_to false (fun k14 => ?_) ?_
   ·rw [hO, decide_eq_false (by omega), fk_f]
    simp only [hO, ix_some hF]
    rw [bnd_eq (ref05_Same_eq _ _ (htx _ (List.getElem_mem hkx)))]
    simp [fk_f]
   ·rw [fk_f, wr_in _ (by omega)]; rfl
  ·rw [wr_succ k _ hkx (by omega)]
   refine hnx9 _ hkx ?_
   rw [hs, hq, List.length_append]; rfl
end Go.Proofs.YtldlcdnhdedoeaaGreat
