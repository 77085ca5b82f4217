/- It is proved that the law TopExact returns true at every input that the row lets in; there is no condition beside the row's own. -/
import Derived.Test.YtpephpefjddgcaaGreatXTopExact7
import Derived.Test.YtpephpefjddgcaaGreatXTopExact9
import Derived.Test.YtpephpefjddgcaaGreatXTopExact0
import Derived.Test.YtpephpefjddgcaaGreatXTopExact8
import Derived.Test.YtpephpefjddgcaaGreatRows
set_option linter.unusedVariables false
set_option linter.unusedSimpArgs false
set_option maxRecDepth 100000
set_option maxHeartbeats 40000000
set_option maxRecDepth 1000000
set_option maxHeartbeats 4000000
namespace Go.Proofs.YtpephpefjddgcaaGreat
open Go Go.VC
noncomputable def port_Send (a0 : List PortLine) (a1 : Int) (a2 : Int) (a3 : Int) : Option ((List PortLine) × Int) :=
  bnd (port_Right a0) fun x1 => fk (!x1) (some (a0, (1 : Int))) (jn (fun (w2 : Bool) => fk w2 (some (a0, (4 : Int))) (ix a0 a2 fun x3 => fk (!decide (x3.Port.From = a1)) (some (a0, (7 : Int))) (ix a0 a2 fun x4 => bnd (ring_Push x4.Under a3) fun x5 => fk (!decide (x5.2 = (0 : Int))) (some (a0, x5.2)) (bnd (port_with a0 a2 ⟨x4.Port, x5.1, x4.Got⟩) fun x6 => some (x6, (0 : Int)))))) (fun k2 => fk (decide (a2 < (0 : Int))) (k2 true) (k2 (decide (a2 ≥ (a0.length : Int))))))
theorem port_Send_w (a0 : List PortLine) (a1 : Int) (a2 : Int) (a3 : Int) (r : (List PortLine) × Int) (h : port_Send a0 a1 a2 a3 = some r) : Go.VC.Spec Tryz.prog 86 [.d (.sl (a0.map PortLine.enc)), .d (.int .i64 a1), .d (.int .i64 a2), .d (.int .i64 a3)] (fun y => y = E_ListPortLine_Int r) := by
  refine Go.VC.Spec.of_xc (args := [.d (.sl (a0.map PortLine.enc)), .d (.int .i64 a1), .d (.int .i64 a2), .d (.int .i64 a3)]) (fn := Tryz.f86) tab ⟨[(0, [0, 1, 2, 3]), (1, [0, 1, 2, 3, 13]), (2, [8, 9]), (3, [0, 1, 2, 3, 18]), (4, [8, 9]), (5, [0, 2, 3, 28]), (6, [8, 9]), (7, [0, 2, 3, 10]), (8, [0, 2, 10, 11, 12]), (9, [0, 2, 10, 11, 12, 50]), (10, [8, 9]), (11, [0, 2, 10]), (12, [8, 9])], [], [100018], []⟩ 59 [.tmp 8, .tmp 9] rfl rfl rfl rfl rfl rfl ?_
  conv => whnf
  refine caS (E := E_Bool) h (port_Right_w a0) rfl (fun _ => rfl) (fun x1 h => ?_)
  conv => whnf
  refine fkS h (fun h => ?_) (fun h => ?_)
  · conv => whnf
    exact rt (E := E_ListPortLine_Int) h rfl
  conv => whnf
  refine jnS (fun w2 => ⟨[(0, .l (.d (.sl (a0.map PortLine.enc)))), (1, .l (.d (.int .i64 a1))), (2, .l (.d (.int .i64 a2))), (3, .l (.d (.int .i64 a3))), (18, .l (.d (.bool w2)))], 59, [], [], []⟩) h (fun k2 hk2 h => ?_) (fun w2 h => ?_)
  · conv => whnf
    refine fkS h (fun h => ?_) (fun h => ?_)
    · conv => whnf
      exact jeS hk2 h (Weak.refl _)
    conv => whnf
    refine lenS a0 PortLine.enc rfl ?_
    conv => whnf
    exact jeS hk2 h (Weak.refl _)
  conv => whnf
  refine fkS h (fun h => ?_) (fun h => ?_)
  · conv => whnf
    exact rt (E := E_ListPortLine_Int) h rfl
  conv => whnf
  refine ixS (enc := PortLine.enc) h rfl (fun _ => rfl) (fun x3 h => ?_)
  conv => whnf
  refine fkS h (fun h => ?_) (fun h => ?_)
  · conv => whnf
    exact rt (E := E_ListPortLine_Int) h rfl
  conv => whnf
  refine ixS (enc := PortLine.enc) h rfl (fun _ => rfl) (fun x4 h => ?_)
  conv => whnf
  refine ccS (E := E_RingRing_Int) h (ring_Push_w x4.Under a3) rfl rfl (fun x5 h => ?_)
  conv => whnf
  refine fkS h (fun h => ?_) (fun h => ?_)
  · conv => whnf
    exact rt (E := E_ListPortLine_Int) h rfl
  conv => whnf
  refine ccS (E := E_ListPortLine) h (port_with_w a0 a2 ⟨x4.Port, x5.1, x4.Got⟩) rfl rfl (fun x6 h => ?_)
  conv => whnf
  exact rt (E := E_ListPortLine_Int) h rfl

end Go.Proofs.YtpephpefjddgcaaGreat
namespace Go.Proofs.YtpephpefjddgcaaGreat
open Go Go.VC
noncomputable def kernel_kinds_5 (a0 : KernelState) (a1 : KernelCmd) : Option (KernelState × Int × Int) :=
  bnd (port_Send a0.Lines a1.Part a1.I a1.V) fun x1 => some (⟨a0.Table, a0.Faces, a0.Parts, x1.1, a0.Now⟩, (0 : Int), x1.2)
theorem kernel_kinds_5_w (a0 : KernelState) (a1 : KernelCmd) (r : KernelState × Int × Int) (h : kernel_kinds_5 a0 a1 = some r) : Go.VC.Spec Tryz.prog 85 [.agg (KernelState.enc a0), .agg (KernelCmd.enc a1)] (fun y => y = E_KernelState_Int_Int r) := by
  refine Go.VC.Spec.of_xc (args := [.agg (KernelState.enc a0), .agg (KernelCmd.enc a1)]) (fn := Tryz.f85) tab ⟨[(0, [2, 3, 4]), (1, [2, 4, 7, 8]), (2, [2, 4, 8]), (3, [4, 5, 6])], [], [], []⟩ 25 [.cell 4 90, .tmp 5, .tmp 6] rfl rfl rfl rfl rfl rfl ?_
  conv => whnf
  refine ccS (E := E_ListPortLine_Int) h (port_Send_w a0.Lines a1.Part a1.I a1.V) rfl rfl (fun x1 h => ?_)
  conv => whnf
  exact rt (E := E_KernelState_Int_Int) h rfl

end Go.Proofs.YtpephpefjddgcaaGreat
namespace Go.Proofs.YtpephpefjddgcaaGreat
open Go Go.VC
noncomputable def ring_own (a0 : RingRing) : Option RingRing :=
  ck (decide ((([] : List Int).length + a0.Buf.length) * 8 ≤ 140737488355328)) (some ⟨([] : List Int) ++ a0.Buf, a0.First, a0.Many⟩)
theorem ring_own_w (a0 : RingRing) (r : RingRing) (h : ring_own a0 = some r) : Go.VC.Spec Tryz.prog 117 [.agg (RingRing.enc a0)] (fun y => y = E_RingRing r) := by
  refine Go.VC.Spec.of_xc (args := [.agg (RingRing.enc a0)]) (fn := Tryz.f117) tab ⟨[(0, [1, 2]), (1, [1, 2]), (2, [2])], [], [], []⟩ 9 [.cell 2 155] rfl rfl rfl rfl rfl rfl ?_
  conv => whnf
  refine liS ([] : List Int) (eI .i64) rfl rfl ?_
  conv => whnf
  refine apS (enc := (eI .i64)) (l1 := ([] : List Int)) (l2 := a0.Buf) h rfl rfl (fun _ => rfl) (fun h => ?_)
  conv => whnf
  exact rt (E := E_RingRing) h rfl

end Go.Proofs.YtpephpefjddgcaaGreat
namespace Go.Proofs.YtpephpefjddgcaaGreat
open Go Go.VC
noncomputable def ring_Pop (a0 : RingRing) : Option (Int × RingRing × Int) :=
  bnd (ring_Right a0) fun x1 => fk (!x1) (some ((0 : Int), a0, (1 : Int))) (fk (decide (a0.Many = (0 : Int))) (some ((0 : Int), a0, (4 : Int))) (bnd (ring_own a0) fun x2 => ix x2.Buf x2.First fun x3 => bnd (ring_at x2 (1 : Int)) fun x4 => some (x3, ⟨x2.Buf, x4, (wr (x2.Many - (1 : Int)))⟩, (0 : Int))))
theorem ring_Pop_w (a0 : RingRing) (r : Int × RingRing × Int) (h : ring_Pop a0 = some r) : Go.VC.Spec Tryz.prog 89 [.agg (RingRing.enc a0)] (fun y => y = E_Int_RingRing_Int r) := by
  refine Go.VC.Spec.of_xc (args := [.agg (RingRing.enc a0)]) (fn := Tryz.f89) tab ⟨[(0, [1, 3]), (1, [1, 3, 6]), (2, [2, 3, 4]), (3, [1, 3, 11]), (4, [2, 3, 4]), (5, [1, 3]), (6, [1, 3, 5]), (7, [1, 3, 5]), (8, [1, 3, 5]), (9, [2, 3, 4])], [], [], []⟩ 33 [.tmp 2, .cell 3 155, .tmp 4] rfl rfl rfl rfl rfl rfl ?_
  conv => whnf
  refine caS (E := E_Bool) h (ring_Right_w a0) rfl (fun _ => rfl) (fun x1 h => ?_)
  conv => whnf
  refine fkS h (fun h => ?_) (fun h => ?_)
  · conv => whnf
    refine ⟨2, ?_⟩
    conv => whnf
    refine drS (by kernel_rfl) ?_
    conv => whnf
    exact rt (E := E_Int_RingRing_Int) h rfl
  conv => whnf
  refine fkS h (fun h => ?_) (fun h => ?_)
  · conv => whnf
    refine ⟨2, ?_⟩
    conv => whnf
    refine drS (by kernel_rfl) ?_
    conv => whnf
    exact rt (E := E_Int_RingRing_Int) h rfl
  conv => whnf
  refine ccS (E := E_RingRing) h (ring_own_w a0) rfl rfl (fun x2 h => ?_)
  conv => whnf
  refine ixS (enc := (eI .i64)) h rfl (fun _ => rfl) (fun x3 h => ?_)
  conv => whnf
  refine caS (E := E_Int) h (ring_at_w x2 (1 : Int)) rfl (fun _ => rfl) (fun x4 h => ?_)
  conv => whnf
  refine ⟨3, ?_⟩
  conv => whnf
  refine drS (by kernel_rfl) ?_
  conv => whnf
  exact rt (E := E_Int_RingRing_Int) h rfl

end Go.Proofs.YtpephpefjddgcaaGreat
namespace Go.Proofs.YtpephpefjddgcaaGreat
open Go Go.VC
noncomputable def port_Read (a0 : List PortLine) (a1 : Int) (a2 : Int) : Option (Int × (List PortLine) × Int) :=
  bnd (port_Right a0) fun x1 => fk (!x1) (some ((0 : Int), a0, (1 : Int))) (jn (fun (w2 : Bool) => fk w2 (some ((0 : Int), a0, (4 : Int))) (ix a0 a2 fun x3 => fk (!decide (x3.Port.To = a1)) (some ((0 : Int), a0, (7 : Int))) (ix a0 a2 fun x4 => bnd (ring_Pop x4.Got) fun x5 => fk (!decide (x5.2.2 = (0 : Int))) (some ((0 : Int), a0, x5.2.2)) (bnd (port_with a0 a2 ⟨x4.Port, x4.Under, x5.2.1⟩) fun x6 => some (x5.1, x6, (0 : Int)))))) (fun k2 => fk (decide (a2 < (0 : Int))) (k2 true) (k2 (decide (a2 ≥ (a0.length : Int))))))
theorem port_Read_w (a0 : List PortLine) (a1 : Int) (a2 : Int) (r : Int × (List PortLine) × Int) (h : port_Read a0 a1 a2 = some r) : Go.VC.Spec Tryz.prog 88 [.d (.sl (a0.map PortLine.enc)), .d (.int .i64 a1), .d (.int .i64 a2)] (fun y => y = E_Int_ListPortLine_Int r) := by
  refine Go.VC.Spec.of_xc (args := [.d (.sl (a0.map PortLine.enc)), .d (.int .i64 a1), .d (.int .i64 a2)]) (fn := Tryz.f88) tab ⟨[(0, [0, 1, 2]), (1, [0, 1, 2, 13]), (2, [6, 7, 8]), (3, [0, 1, 2, 18]), (4, [6, 7, 8]), (5, [0, 2, 28]), (6, [6, 7, 8]), (7, [0, 2, 9]), (8, [0, 2, 9, 10, 11, 12]), (9, [0, 2, 9, 10, 11, 12, 50]), (10, [6, 7, 8]), (11, [0, 2, 9, 10]), (12, [6, 7, 8])], [], [100018], []⟩ 60 [.tmp 6, .tmp 7, .tmp 8] rfl rfl rfl rfl rfl rfl ?_
  conv => whnf
  refine caS (E := E_Bool) h (port_Right_w a0) rfl (fun _ => rfl) (fun x1 h => ?_)
  conv => whnf
  refine fkS h (fun h => ?_) (fun h => ?_)
  · conv => whnf
    exact rt (E := E_Int_ListPortLine_Int) h rfl
  conv => whnf
  refine jnS (fun w2 => ⟨[(0, .l (.d (.sl (a0.map PortLine.enc)))), (1, .l (.d (.int .i64 a1))), (2, .l (.d (.int .i64 a2))), (18, .l (.d (.bool w2)))], 60, [], [], []⟩) h (fun k2 hk2 h => ?_) (fun w2 h => ?_)
  · conv => whnf
    refine fkS h (fun h => ?_) (fun h => ?_)
    · conv => whnf
      exact jeS hk2 h (Weak.refl _)
    conv => whnf
    refine lenS a0 PortLine.enc rfl ?_
    conv => whnf
    exact jeS hk2 h (Weak.refl _)
  conv => whnf
  refine fkS h (fun h => ?_) (fun h => ?_)
  · conv => whnf
    exact rt (E := E_Int_ListPortLine_Int) h rfl
  conv => whnf
  refine ixS (enc := PortLine.enc) h rfl (fun _ => rfl) (fun x3 h => ?_)
  conv => whnf
  refine fkS h (fun h => ?_) (fun h => ?_)
  · conv => whnf
    exact rt (E := E_Int_ListPortLine_Int) h rfl
  conv => whnf
  refine ixS (enc := PortLine.enc) h rfl (fun _ => rfl) (fun x4 h => ?_)
  conv => whnf
  refine ccS (E := E_Int_RingRing_Int) h (ring_Pop_w x4.Got) rfl rfl (fun x5 h => ?_)
  conv => whnf
  refine fkS h (fun h => ?_) (fun h => ?_)
  · conv => whnf
    exact rt (E := E_Int_ListPortLine_Int) h rfl
  conv => whnf
  refine ccS (E := E_ListPortLine) h (port_with_w a0 a2 ⟨x4.Port, x4.Under, x5.2.1⟩) rfl rfl (fun x6 h => ?_)
  conv => whnf
  exact rt (E := E_Int_ListPortLine_Int) h rfl

end Go.Proofs.YtpephpefjddgcaaGreat
namespace Go.Proofs.YtpephpefjddgcaaGreat
open Go Go.VC
noncomputable def kernel_kinds_6 (a0 : KernelState) (a1 : KernelCmd) : Option (KernelState × Int × Int) :=
  bnd (port_Read a0.Lines a1.Part a1.I) fun x1 => some (⟨a0.Table, a0.Faces, a0.Parts, x1.2.1, a0.Now⟩, x1.1, x1.2.2)
theorem kernel_kinds_6_w (a0 : KernelState) (a1 : KernelCmd) (r : KernelState × Int × Int) (h : kernel_kinds_6 a0 a1 = some r) : Go.VC.Spec Tryz.prog 87 [.agg (KernelState.enc a0), .agg (KernelCmd.enc a1)] (fun y => y = E_KernelState_Int_Int r) := by
  refine Go.VC.Spec.of_xc (args := [.agg (KernelState.enc a0), .agg (KernelCmd.enc a1)]) (fn := Tryz.f87) tab ⟨[(0, [2, 3, 4]), (1, [2, 4, 7, 8, 9]), (2, [2, 4, 7, 9]), (3, [4, 5, 6])], [], [], []⟩ 26 [.cell 4 90, .tmp 5, .tmp 6] rfl rfl rfl rfl rfl rfl ?_
  conv => whnf
  refine ccS (E := E_Int_ListPortLine_Int) h (port_Read_w a0.Lines a1.Part a1.I) rfl rfl (fun x1 h => ?_)
  conv => whnf
  exact rt (E := E_KernelState_Int_Int) h rfl

end Go.Proofs.YtpephpefjddgcaaGreat
namespace Go.Proofs.YtpephpefjddgcaaGreat
open Go Go.VC
noncomputable def kernel_Do (a0 : KernelState) (a1 : KernelCmd) : Option (KernelState × Int × Int) :=
  bnd (kernel_Right a0) fun x1 => fk (!x1) (some (a0, (0 : Int), (1 : Int))) (bnd kernel_kinds fun x2 => fk (decide (a1.Kind = (1 : Int))) (jn (fun (w3 : Bool) => fk w3 (some (a0, (0 : Int), (4 : Int))) (bnd (kernel_on_1 a0 a1) fun x4 => some (x4.1, x4.2.1, x4.2.2))) (fun k3 => fk (decide (a1.Part < (0 : Int))) (k3 true) (k3 (decide (a1.Part ≥ (a0.Parts.length : Int)))))) (fk (decide (a1.Kind = (4 : Int))) (jn (fun (w5 : Bool) => fk w5 (some (a0, (0 : Int), (4 : Int))) (bnd (kernel_on_1_1 a0 a1) fun x6 => some (x6.1, x6.2.1, x6.2.2))) (fun k5 => fk (decide (a1.Part < (0 : Int))) (k5 true) (k5 (decide (a1.Part ≥ (a0.Parts.length : Int)))))) (fk (decide (a1.Kind = (5 : Int))) (jn (fun (w7 : Bool) => fk w7 (some (a0, (0 : Int), (4 : Int))) (bnd (kernel_on_1_2 a0 a1) fun x8 => some (x8.1, x8.2.1, x8.2.2))) (fun k7 => fk (decide (a1.Part < (0 : Int))) (k7 true) (k7 (decide (a1.Part ≥ (a0.Parts.length : Int)))))) (fk (decide (a1.Kind = (6 : Int))) (jn (fun (w9 : Bool) => fk w9 (some (a0, (0 : Int), (4 : Int))) (bnd (kernel_on_1_3 a0 a1) fun x10 => some (x10.1, x10.2.1, x10.2.2))) (fun k9 => fk (decide (a1.Part < (0 : Int))) (k9 true) (k9 (decide (a1.Part ≥ (a0.Parts.length : Int)))))) (fk (decide (a1.Kind = (2 : Int))) (jn (fun (w11 : Bool) => fk w11 (some (a0, (0 : Int), (4 : Int))) (bnd (kernel_kinds_5 a0 a1) fun x12 => some (x12.1, x12.2.1, x12.2.2))) (fun k11 => fk (decide (a1.Part < (0 : Int))) (k11 true) (k11 (decide (a1.Part ≥ (a0.Parts.length : Int)))))) (fk (decide (a1.Kind = (3 : Int))) (jn (fun (w13 : Bool) => fk w13 (some (a0, (0 : Int), (4 : Int))) (bnd (kernel_kinds_6 a0 a1) fun x14 => some (x14.1, x14.2.1, x14.2.2))) (fun k13 => fk (decide (a1.Part < (0 : Int))) (k13 true) (k13 (decide (a1.Part ≥ (a0.Parts.length : Int)))))) (jn (fun (w15 : Unit) => some (a0, (0 : Int), (4 : Int))) (fun k15 => k15 ()))))))))
theorem kernel_Do_w (a0 : KernelState) (a1 : KernelCmd) (r : KernelState × Int × Int) (h : kernel_Do a0 a1 = some r) : Go.VC.Spec Tryz.prog 33 [.agg (KernelState.enc a0), .agg (KernelCmd.enc a1)] (fun y => y = E_KernelState_Int_Int r) := by
  refine Go.VC.Spec.of_xc (args := [.agg (KernelState.enc a0), .agg (KernelCmd.enc a1)]) (fn := Tryz.f33) tab ⟨[(0, [2, 3, 4]), (1, [2, 3, 4, 10]), (2, [4, 5, 6]), (3, [2, 3, 4, 7]), (4, [2, 3, 4, 7, 30]), (5, [4, 5, 6]), (6, [4, 5, 6])], [], [100030], []⟩ 39 [.cell 4 90, .tmp 5, .tmp 6] rfl rfl rfl rfl rfl rfl ?_
  conv => whnf
  refine caS (E := E_Bool) h (kernel_Right_w a0) rfl (fun _ => rfl) (fun x1 h => ?_)
  conv => whnf
  refine fkS h (fun h => ?_) (fun h => ?_)
  · conv => whnf
    exact rt (E := E_KernelState_Int_Int) h rfl
  conv => whnf
  refine ⟨3, ?_⟩
  conv => whnf
  refine dcS (E := E_fn_kernel_kinds) h kernel_kinds_w rfl (fun x2 h => ?_)
  conv => whnf
  refine drS (by kernel_rfl) ?_
  conv => whnf
  refine lkS (zv := .nilFunc) (zd := .nilfn) rfl rfl rfl rfl Tryz.underlying133 Tryz.underlying3 (by kernel_rfl) rfl ?_
  conv => whnf
  refine fkS h (fun h => ?_) (fun h => ?_)
  · conv => whnf
    refine jnS (fun w3 => ⟨[(2, .l (.ptr 3 0)), (3, .l (.ptr 4 0)), (4, .l (.ptr 5 0)), (7, .l (.d (.fn 111 [[.fn 77 []]]))), (30, .l (.d (.bool w3)))], 39, [], [(3, [.d (.int .i64 a0.Table.Frame), .d (.sl (a0.Table.Windows.map Window.enc)), .d (.sl (a0.Faces.map Face.enc)), .d (.sl (a0.Parts.map PartState.enc)), .d (.sl (a0.Lines.map PortLine.enc)), .d (.int .i64 a0.Now)]), (4, [.d (.int .i64 a1.Part), .d (.int .i64 a1.Kind), .d (.int .i64 a1.I), .d (.int .i64 a1.V), .d (.int .i64 a1.T.C), .d (.int .i64 a1.T.D), .d (.int .i64 a1.T.T), .d (.sl (a1.T.Secs.map Sec.enc))]), (5, [.d (.int .i64 (0 : Int)), .nil, .nil, .nil, .nil, .d (.int .i64 (0 : Int))])], []⟩) h (fun k3 hk3 h => ?_) (fun w3 h => ?_)
    · conv => whnf
      refine fnS rfl rfl rfl Tryz.underlying95 ?_
      conv => whnf
      refine fkS h (fun h => ?_) (fun h => ?_)
      · conv => whnf
        exact jeS hk3 h (Weak.refl _)
      conv => whnf
      refine lenS a0.Parts PartState.enc rfl ?_
      conv => whnf
      exact jeS hk3 h (Weak.refl _)
    conv => whnf
    refine fkS h (fun h => ?_) (fun h => ?_)
    · conv => whnf
      exact rt (E := E_KernelState_Int_Int) h rfl
    conv => whnf
    refine ccS (E := E_KernelState_Int_Int) h (kernel_on_1_w a0 a1) rfl rfl (fun x4 h => ?_)
    conv => whnf
    exact rt (E := E_KernelState_Int_Int) h rfl
  conv => whnf
  refine fkS h (fun h => ?_) (fun h => ?_)
  · conv => whnf
    refine jnS (fun w5 => ⟨[(2, .l (.ptr 3 0)), (3, .l (.ptr 4 0)), (4, .l (.ptr 5 0)), (7, .l (.d (.fn 111 [[.fn 79 []]]))), (30, .l (.d (.bool w5)))], 39, [], [(3, [.d (.int .i64 a0.Table.Frame), .d (.sl (a0.Table.Windows.map Window.enc)), .d (.sl (a0.Faces.map Face.enc)), .d (.sl (a0.Parts.map PartState.enc)), .d (.sl (a0.Lines.map PortLine.enc)), .d (.int .i64 a0.Now)]), (4, [.d (.int .i64 a1.Part), .d (.int .i64 a1.Kind), .d (.int .i64 a1.I), .d (.int .i64 a1.V), .d (.int .i64 a1.T.C), .d (.int .i64 a1.T.D), .d (.int .i64 a1.T.T), .d (.sl (a1.T.Secs.map Sec.enc))]), (5, [.d (.int .i64 (0 : Int)), .nil, .nil, .nil, .nil, .d (.int .i64 (0 : Int))])], []⟩) h (fun k5 hk5 h => ?_) (fun w5 h => ?_)
    · conv => whnf
      refine fnS rfl rfl rfl Tryz.underlying95 ?_
      conv => whnf
      refine fkS h (fun h => ?_) (fun h => ?_)
      · conv => whnf
        exact jeS hk5 h (Weak.refl _)
      conv => whnf
      refine lenS a0.Parts PartState.enc rfl ?_
      conv => whnf
      exact jeS hk5 h (Weak.refl _)
    conv => whnf
    refine fkS h (fun h => ?_) (fun h => ?_)
    · conv => whnf
      exact rt (E := E_KernelState_Int_Int) h rfl
    conv => whnf
    refine ccS (E := E_KernelState_Int_Int) h (kernel_on_1_1_w a0 a1) rfl rfl (fun x6 h => ?_)
    conv => whnf
    exact rt (E := E_KernelState_Int_Int) h rfl
  conv => whnf
  refine fkS h (fun h => ?_) (fun h => ?_)
  · conv => whnf
    refine jnS (fun w7 => ⟨[(2, .l (.ptr 3 0)), (3, .l (.ptr 4 0)), (4, .l (.ptr 5 0)), (7, .l (.d (.fn 111 [[.fn 81 []]]))), (30, .l (.d (.bool w7)))], 39, [], [(3, [.d (.int .i64 a0.Table.Frame), .d (.sl (a0.Table.Windows.map Window.enc)), .d (.sl (a0.Faces.map Face.enc)), .d (.sl (a0.Parts.map PartState.enc)), .d (.sl (a0.Lines.map PortLine.enc)), .d (.int .i64 a0.Now)]), (4, [.d (.int .i64 a1.Part), .d (.int .i64 a1.Kind), .d (.int .i64 a1.I), .d (.int .i64 a1.V), .d (.int .i64 a1.T.C), .d (.int .i64 a1.T.D), .d (.int .i64 a1.T.T), .d (.sl (a1.T.Secs.map Sec.enc))]), (5, [.d (.int .i64 (0 : Int)), .nil, .nil, .nil, .nil, .d (.int .i64 (0 : Int))])], []⟩) h (fun k7 hk7 h => ?_) (fun w7 h => ?_)
    · conv => whnf
      refine fnS rfl rfl rfl Tryz.underlying95 ?_
      conv => whnf
      refine fkS h (fun h => ?_) (fun h => ?_)
      · conv => whnf
        exact jeS hk7 h (Weak.refl _)
      conv => whnf
      refine lenS a0.Parts PartState.enc rfl ?_
      conv => whnf
      exact jeS hk7 h (Weak.refl _)
    conv => whnf
    refine fkS h (fun h => ?_) (fun h => ?_)
    · conv => whnf
      exact rt (E := E_KernelState_Int_Int) h rfl
    conv => whnf
    refine ccS (E := E_KernelState_Int_Int) h (kernel_on_1_2_w a0 a1) rfl rfl (fun x8 h => ?_)
    conv => whnf
    exact rt (E := E_KernelState_Int_Int) h rfl
  conv => whnf
  refine fkS h (fun h => ?_) (fun h => ?_)
  · conv => whnf
    refine jnS (fun w9 => ⟨[(2, .l (.ptr 3 0)), (3, .l (.ptr 4 0)), (4, .l (.ptr 5 0)), (7, .l (.d (.fn 111 [[.fn 83 []]]))), (30, .l (.d (.bool w9)))], 39, [], [(3, [.d (.int .i64 a0.Table.Frame), .d (.sl (a0.Table.Windows.map Window.enc)), .d (.sl (a0.Faces.map Face.enc)), .d (.sl (a0.Parts.map PartState.enc)), .d (.sl (a0.Lines.map PortLine.enc)), .d (.int .i64 a0.Now)]), (4, [.d (.int .i64 a1.Part), .d (.int .i64 a1.Kind), .d (.int .i64 a1.I), .d (.int .i64 a1.V), .d (.int .i64 a1.T.C), .d (.int .i64 a1.T.D), .d (.int .i64 a1.T.T), .d (.sl (a1.T.Secs.map Sec.enc))]), (5, [.d (.int .i64 (0 : Int)), .nil, .nil, .nil, .nil, .d (.int .i64 (0 : Int))])], []⟩) h (fun k9 hk9 h => ?_) (fun w9 h => ?_)
    · conv => whnf
      refine fnS rfl rfl rfl Tryz.underlying95 ?_
      conv => whnf
      refine fkS h (fun h => ?_) (fun h => ?_)
      · conv => whnf
        exact jeS hk9 h (Weak.refl _)
      conv => whnf
      refine lenS a0.Parts PartState.enc rfl ?_
      conv => whnf
      exact jeS hk9 h (Weak.refl _)
    conv => whnf
    refine fkS h (fun h => ?_) (fun h => ?_)
    · conv => whnf
      exact rt (E := E_KernelState_Int_Int) h rfl
    conv => whnf
    refine ccS (E := E_KernelState_Int_Int) h (kernel_on_1_3_w a0 a1) rfl rfl (fun x10 h => ?_)
    conv => whnf
    exact rt (E := E_KernelState_Int_Int) h rfl
  conv => whnf
  refine fkS h (fun h => ?_) (fun h => ?_)
  · conv => whnf
    refine jnS (fun w11 => ⟨[(2, .l (.ptr 3 0)), (3, .l (.ptr 4 0)), (4, .l (.ptr 5 0)), (7, .l (.d (.fn 85 []))), (30, .l (.d (.bool w11)))], 39, [], [(3, [.d (.int .i64 a0.Table.Frame), .d (.sl (a0.Table.Windows.map Window.enc)), .d (.sl (a0.Faces.map Face.enc)), .d (.sl (a0.Parts.map PartState.enc)), .d (.sl (a0.Lines.map PortLine.enc)), .d (.int .i64 a0.Now)]), (4, [.d (.int .i64 a1.Part), .d (.int .i64 a1.Kind), .d (.int .i64 a1.I), .d (.int .i64 a1.V), .d (.int .i64 a1.T.C), .d (.int .i64 a1.T.D), .d (.int .i64 a1.T.T), .d (.sl (a1.T.Secs.map Sec.enc))]), (5, [.d (.int .i64 (0 : Int)), .nil, .nil, .nil, .nil, .d (.int .i64 (0 : Int))])], []⟩) h (fun k11 hk11 h => ?_) (fun w11 h => ?_)
    · conv => whnf
      refine fnS rfl rfl rfl Tryz.underlying95 ?_
      conv => whnf
      refine fkS h (fun h => ?_) (fun h => ?_)
      · conv => whnf
        exact jeS hk11 h (Weak.refl _)
      conv => whnf
      refine lenS a0.Parts PartState.enc rfl ?_
      conv => whnf
      exact jeS hk11 h (Weak.refl _)
    conv => whnf
    refine fkS h (fun h => ?_) (fun h => ?_)
    · conv => whnf
      exact rt (E := E_KernelState_Int_Int) h rfl
    conv => whnf
    refine ccS (E := E_KernelState_Int_Int) h (kernel_kinds_5_w a0 a1) rfl rfl (fun x12 h => ?_)
    conv => whnf
    exact rt (E := E_KernelState_Int_Int) h rfl
  conv => whnf
  refine fkS h (fun h => ?_) (fun h => ?_)
  · conv => whnf
    refine jnS (fun w13 => ⟨[(2, .l (.ptr 3 0)), (3, .l (.ptr 4 0)), (4, .l (.ptr 5 0)), (7, .l (.d (.fn 87 []))), (30, .l (.d (.bool w13)))], 39, [], [(3, [.d (.int .i64 a0.Table.Frame), .d (.sl (a0.Table.Windows.map Window.enc)), .d (.sl (a0.Faces.map Face.enc)), .d (.sl (a0.Parts.map PartState.enc)), .d (.sl (a0.Lines.map PortLine.enc)), .d (.int .i64 a0.Now)]), (4, [.d (.int .i64 a1.Part), .d (.int .i64 a1.Kind), .d (.int .i64 a1.I), .d (.int .i64 a1.V), .d (.int .i64 a1.T.C), .d (.int .i64 a1.T.D), .d (.int .i64 a1.T.T), .d (.sl (a1.T.Secs.map Sec.enc))]), (5, [.d (.int .i64 (0 : Int)), .nil, .nil, .nil, .nil, .d (.int .i64 (0 : Int))])], []⟩) h (fun k13 hk13 h => ?_) (fun w13 h => ?_)
    · conv => whnf
      refine fnS rfl rfl rfl Tryz.underlying95 ?_
      conv => whnf
      refine fkS h (fun h => ?_) (fun h => ?_)
      · conv => whnf
        exact jeS hk13 h (Weak.refl _)
      conv => whnf
      refine lenS a0.Parts PartState.enc rfl ?_
      conv => whnf
      exact jeS hk13 h (Weak.refl _)
    conv => whnf
    refine fkS h (fun h => ?_) (fun h => ?_)
    · conv => whnf
      exact rt (E := E_KernelState_Int_Int) h rfl
    conv => whnf
    refine ccS (E := E_KernelState_Int_Int) h (kernel_kinds_6_w a0 a1) rfl rfl (fun x14 h => ?_)
    conv => whnf
    exact rt (E := E_KernelState_Int_Int) h rfl
  conv => whnf
  refine jnS (fun w15 => ⟨[(2, .l (.ptr 3 0)), (3, .l (.ptr 4 0)), (4, .l (.ptr 5 0)), (7, .l (.d .nilfn)), (30, .l (.d (.bool true)))], 39, [], [(3, [.d (.int .i64 a0.Table.Frame), .d (.sl (a0.Table.Windows.map Window.enc)), .d (.sl (a0.Faces.map Face.enc)), .d (.sl (a0.Parts.map PartState.enc)), .d (.sl (a0.Lines.map PortLine.enc)), .d (.int .i64 a0.Now)]), (4, [.d (.int .i64 a1.Part), .d (.int .i64 a1.Kind), .d (.int .i64 a1.I), .d (.int .i64 a1.V), .d (.int .i64 a1.T.C), .d (.int .i64 a1.T.D), .d (.int .i64 a1.T.T), .d (.sl (a1.T.Secs.map Sec.enc))]), (5, [.d (.int .i64 (0 : Int)), .nil, .nil, .nil, .nil, .d (.int .i64 (0 : Int))])], []⟩) h (fun k15 hk15 h => ?_) (fun w15 h => ?_)
  · conv => whnf
    refine fnN rfl rfl rfl Tryz.underlying95 ?_
    conv => whnf
    exact jeS hk15 h (Weak.refl _)
  conv => whnf
  exact rt (E := E_KernelState_Int_Int) h rfl

end Go.Proofs.YtpephpefjddgcaaGreat
namespace Go.Proofs.YtpephpefjddgcaaGreat
open Go Go.VC
noncomputable def ring_Put (a0 : RingRing) (a1 : Int) : Option RingRing :=
  bnd (ring_Push a0 a1) fun x1 => fk (!decide (x1.2 = (3 : Int))) (some x1.1) (bnd (ring_Pop a0) fun x2 => bnd (ring_Push x2.2.1 a1) fun x3 => some x3.1)
theorem ring_Put_w (a0 : RingRing) (a1 : Int) (r : RingRing) (h : ring_Put a0 a1 = some r) : Go.VC.Spec Tryz.prog 90 [.agg (RingRing.enc a0), .d (.int .i64 a1)] (fun y => y = E_RingRing r) := by
  refine Go.VC.Spec.of_xc (args := [.agg (RingRing.enc a0), .d (.int .i64 a1)]) (fn := Tryz.f90) tab ⟨[(0, [1, 2, 4]), (1, [1, 2, 4, 5, 6]), (2, [1, 2, 4, 5, 16]), (3, [4]), (4, [1, 2, 4]), (5, [4, 7]), (6, [4])], [], [], []⟩ 31 [.cell 4 155] rfl rfl rfl rfl rfl rfl ?_
  conv => whnf
  refine ccS (E := E_RingRing_Int) h (ring_Push_w a0 a1) rfl rfl (fun x1 h => ?_)
  conv => whnf
  refine fkS h (fun h => ?_) (fun h => ?_)
  · conv => whnf
    exact rt (E := E_RingRing) h rfl
  conv => whnf
  refine ccS (E := E_Int_RingRing_Int) h (ring_Pop_w a0) rfl rfl (fun x2 h => ?_)
  conv => whnf
  refine ccS (E := E_RingRing_Int) h (ring_Push_w x2.2.1 a1) rfl rfl (fun x3 h => ?_)
  conv => whnf
  exact rt (E := E_RingRing) h rfl

end Go.Proofs.YtpephpefjddgcaaGreat
namespace Go.Proofs.YtpephpefjddgcaaGreat
open Go Go.VC
noncomputable def port_Deliver (a0 : List PortLine) : Option (List PortLine) :=
  bnd (port_Right a0) fun x1 => fk (!x1) (some a0) (lp (fun nx2 (v2 : (List PortLine) × Int) => fk (decide (v2.2 < (a0.length : Int))) (ix a0 v2.2 fun x3 => lp (fun nx4 (v4 : (List Int) × Int × Int × (List Int) × Int × Int × Int) => fk (decide (v4.2.2.2.2.2.2 < x3.Under.Many)) (bnd (ring_Pop ⟨v4.1, v4.2.1, v4.2.2.1⟩) fun x5 => bnd (ring_Put ⟨v4.2.2.2.1, v4.2.2.2.2.1, v4.2.2.2.2.2.1⟩ x5.1) fun x6 => nx4 (x5.2.1.Buf, x5.2.1.First, x5.2.1.Many, x6.Buf, x6.First, x6.Many, (wr (v4.2.2.2.2.2.2 + (1 : Int))))) (bnd (port_with v2.1 v2.2 (⟨x3.Port, ⟨v4.1, v4.2.1, v4.2.2.1⟩, ⟨v4.2.2.2.1, v4.2.2.2.2.1, v4.2.2.2.2.2.1⟩⟩)) fun x7 => nx2 (x7, (wr (v2.2 + (1 : Int)))))) FU (x3.Under.Buf, x3.Under.First, x3.Under.Many, x3.Got.Buf, x3.Got.First, x3.Got.Many, (0 : Int))) (some v2.1)) FU (a0, (0 : Int)))
theorem port_Deliver_w (a0 : List PortLine) (r : List PortLine) (h : port_Deliver a0 = some r) : Go.VC.Spec Tryz.prog 54 [.d (.sl (a0.map PortLine.enc))] (fun y => y = E_ListPortLine r) := by
  refine Go.VC.Spec.of_xc (args := [.d (.sl (a0.map PortLine.enc))]) (fn := Tryz.f54) tab ⟨[(0, [0]), (1, [0, 11]), (2, [2]), (3, [0, 3]), (4, [3, 14, 15, 16]), (5, [3, 14, 15, 16, 17]), (6, [3, 4, 5, 14, 15, 16]), (7, [3, 4, 5, 14, 15, 16, 23, 24]), (8, [3, 4, 5, 14, 15, 16, 23, 24, 25]), (9, [3, 4, 5, 6, 7, 14, 15, 16, 23, 24]), (10, [3, 4, 5, 14, 15, 16, 23, 24]), (11, [3, 4, 5, 14, 15, 16, 23, 24]), (12, [3, 14, 15, 16]), (13, [3, 14, 15, 16]), (14, [2])], [], [], []⟩ 47 [.tmp 2] rfl rfl rfl rfl rfl rfl ?_
  conv => whnf
  refine caS (E := E_Bool) h (port_Right_w a0) rfl (fun _ => rfl) (fun x1 h => ?_)
  conv => whnf
  refine fkS h (fun h => ?_) (fun h => ?_)
  · conv => whnf
    exact rt (E := E_ListPortLine) h rfl
  conv => whnf
  refine lenS a0 PortLine.enc rfl ?_
  conv => whnf
  refine lpS (fun v2 => ⟨[(3, .l (.d (.sl (v2.1.map PortLine.enc)))), (14, .l (.d (.sl (a0.map PortLine.enc)))), (15, .l (.d (.int .i64 (a0.length : Int)))), (16, .l (.d (.int .i64 v2.2)))], 47, [], [], []⟩) h (Weak.refl _) (fun _ nx2 hn2 v2 h => ?_)
  conv => whnf
  refine fkS h (fun h => ?_) (fun h => ?_)
  · conv => whnf
    refine ixS (enc := PortLine.enc) h rfl (fun _ => rfl) (fun x3 h => ?_)
    conv => whnf
    refine lpS (fun v4 => ⟨[(3, .l (.d (.sl (v2.1.map PortLine.enc)))), (4, .l (.d (.int .i64 v2.2))), (5, .l (.ptr 6 0)), (14, .l (.d (.sl (a0.map PortLine.enc)))), (15, .l (.d (.int .i64 (a0.length : Int)))), (16, .l (.d (.int .i64 v2.2))), (23, .l (.d (.int .i64 x3.Under.Many))), (24, .l (.d (.int .i64 v4.2.2.2.2.2.2)))], 47, [], [(6, [.d (.int .i64 x3.Port.From), .d (.int .i64 x3.Port.To), .d (.int .i64 x3.Port.Cap), .d (.sl (v4.1.map (eI .i64))), .d (.int .i64 v4.2.1), .d (.int .i64 v4.2.2.1), .d (.sl (v4.2.2.2.1.map (eI .i64))), .d (.int .i64 v4.2.2.2.2.1), .d (.int .i64 v4.2.2.2.2.2.1)])], []⟩) h (Weak.refl _) (fun _ nx4 hn4 v4 h => ?_)
    conv => whnf
    refine fkS h (fun h => ?_) (fun h => ?_)
    · conv => whnf
      refine ccS (E := E_Int_RingRing_Int) h (ring_Pop_w ⟨v4.1, v4.2.1, v4.2.2.1⟩) rfl rfl (fun x5 h => ?_)
      conv => whnf
      refine ⟨6, ?_⟩
      conv => whnf
      refine dcS (E := E_RingRing) h (ring_Put_w ⟨v4.2.2.2.1, v4.2.2.2.2.1, v4.2.2.2.2.2.1⟩ x5.1) rfl (fun x6 h => ?_)
      conv => whnf
      refine drS (by kernel_rfl) ?_
      conv => whnf
      exact leS hn4 h (Weak.refl _)
    conv => whnf
    refine ccS (E := E_ListPortLine) h (port_with_w v2.1 v2.2 (⟨x3.Port, ⟨v4.1, v4.2.1, v4.2.2.1⟩, ⟨v4.2.2.2.1, v4.2.2.2.2.1, v4.2.2.2.2.2.1⟩⟩)) rfl rfl (fun x7 h => ?_)
    conv => whnf
    exact leS hn2 h (Weak.refl _)
  conv => whnf
  exact rt (E := E_ListPortLine) h rfl

end Go.Proofs.YtpephpefjddgcaaGreat
namespace Go.Proofs.YtpephpefjddgcaaGreat
open Go Go.VC
noncomputable def job_Held (a0 : List Task) (a1 : List Job) : Option (List Int) :=
  bnd (job_All a0 a1) fun x1 => fk (!x1) (some []) (lp (fun nx2 (v2 : (List Int) × Int) => fk (decide (v2.2 < (a1.length : Int))) (ix a1 v2.2 fun x3 => ix a0 x3.Task fun x4 => bnd (task_Held x4 x3.Had) fun x5 => ck (decide ((v2.1.length + x5.length) * 8 ≤ 140737488355328)) (nx2 (v2.1 ++ x5, (wr (v2.2 + (1 : Int)))))) (some v2.1)) FU ([], (0 : Int)))
theorem job_Held_w (a0 : List Task) (a1 : List Job) (r : List Int) (h : job_Held a0 a1 = some r) : Go.VC.Spec Tryz.prog 136 [.d (.sl (a0.map Task.enc)), .d (.sl (a1.map Job.enc))] (fun y => y = E_ListInt r) := by
  refine Go.VC.Spec.of_xc (args := [.d (.sl (a0.map Task.enc)), .d (.sl (a1.map Job.enc))]) (fn := Tryz.f136) tab ⟨[(0, [0, 1]), (1, [0, 1, 11]), (2, [4]), (3, [0, 1, 5]), (4, [0, 5, 12, 13, 14]), (5, [0, 5, 12, 13, 14, 15]), (6, [0, 5, 7, 12, 13, 14]), (7, [0, 5, 12, 13, 14]), (8, [0, 5, 12, 13, 14]), (9, [4])], [], [], []⟩ 30 [.tmp 4] rfl rfl rfl rfl rfl rfl ?_
  conv => whnf
  refine caS (E := E_Bool) h (job_All_w a0 a1) rfl (fun _ => rfl) (fun x1 h => ?_)
  conv => whnf
  refine fkS h (fun h => ?_) (fun h => ?_)
  · conv => whnf
    exact rt (E := E_ListInt) h rfl
  conv => whnf
  refine lenS a1 Job.enc rfl ?_
  conv => whnf
  refine lpS (fun v2 => ⟨[(0, .l (.d (.sl (a0.map Task.enc)))), (5, .l (.own 6)), (12, .l (.d (.sl (a1.map Job.enc)))), (13, .l (.d (.int .i64 (a1.length : Int)))), (14, .l (.d (.int .i64 v2.2)))], 30, [], [], [(6, 3, 1, v2.1.map (eI .i64))]⟩) h (Weak.trans (Weak.nilO _ 5 6 3 1 rfl) (Weak.refl _)) (fun _ nx2 hn2 v2 h => ?_)
  conv => whnf
  refine fkS h (fun h => ?_) (fun h => ?_)
  · conv => whnf
    refine ixS (enc := Job.enc) h rfl (fun _ => rfl) (fun x3 h => ?_)
    conv => whnf
    refine ⟨9, ?_⟩
    conv => whnf
    refine ixS (enc := Task.enc) h rfl (fun _ => rfl) (fun x4 h => ?_)
    conv => whnf
    refine dcS (E := E_ListInt) h (task_Held_w x4 x3.Had) rfl (fun x5 h => ?_)
    conv => whnf
    refine drS (by kernel_rfl) ?_
    conv => whnf
    refine apS (enc := (eI .i64)) (l1 := v2.1) (l2 := x5) h rfl rfl (fun _ => rfl) (fun h => ?_)
    conv => whnf
    exact leS hn2 h (Weak.refl _)
  conv => whnf
  exact rt (E := E_ListInt) h rfl

end Go.Proofs.YtpephpefjddgcaaGreat
namespace Go.Proofs.YtpephpefjddgcaaGreat
open Go Go.VC
noncomputable def srp_Choose (a0 : List Task) (a1 : List Job) : Option Int :=
  bnd (job_All a0 a1) fun x1 => fk (!x1) (some (-1 : Int)) (bnd (job_First a1 false) fun x2 => bnd (job_First a1 true) fun x3 => jn (fun (w4 : Unit) => some x2) (fun k4 => fk (decide (x2 < (0 : Int))) (some x3) (jn (fun (w5 : Bool) => fk w5 (some x3) (fk (decide (x3 < (0 : Int))) (k4 ()) (ix a1 x2 fun x9 => bnd (job_Held a0 a1) fun x10 => bnd (level_Passes a0 x9.Task x10) fun x11 => fk x11 (k4 ()) (some x3)))) (fun k5 => fk (decide (x3 ≥ (0 : Int))) (ix a1 x2 fun x6 => ix a1 x3 fun x7 => bnd (job_Ahead x6 x7) fun x8 => k5 (!x8)) (k5 false)))))
theorem srp_Choose_w (a0 : List Task) (a1 : List Job) (r : Int) (h : srp_Choose a0 a1 = some r) : Go.VC.Spec Tryz.prog 132 [.d (.sl (a0.map Task.enc)), .d (.sl (a1.map Job.enc))] (fun y => y = E_Int r) := by
  refine Go.VC.Spec.of_xc (args := [.d (.sl (a0.map Task.enc)), .d (.sl (a1.map Job.enc))]) (fn := Tryz.f132) tab ⟨[(0, [0, 1]), (1, [0, 1, 10]), (2, [4]), (3, [0, 1, 5, 6]), (4, [0, 1, 5, 6, 15]), (5, [0, 1, 5, 6, 18]), (6, [0, 1, 5, 6, 33]), (7, [5, 6, 36]), (8, [4]), (9, [4]), (10, [4]), (11, [4])], [], [100018, 10], []⟩ 51 [.tmp 4] rfl rfl rfl rfl rfl rfl ?_
  conv => whnf
  refine caS (E := E_Bool) h (job_All_w a0 a1) rfl (fun _ => rfl) (fun x1 h => ?_)
  conv => whnf
  refine fkS h (fun h => ?_) (fun h => ?_)
  · conv => whnf
    exact rt (E := E_Int) h rfl
  conv => whnf
  refine caS (E := E_Int) h (job_First_w a1 false) rfl (fun _ => rfl) (fun x2 h => ?_)
  conv => whnf
  refine caS (E := E_Int) h (job_First_w a1 true) rfl (fun _ => rfl) (fun x3 h => ?_)
  conv => whnf
  refine jnS (fun w4 => ⟨[(5, .l (.d (.int .i64 x2)))], 51, [], [], []⟩) h (fun k4 hk4 h => ?_) (fun w4 h => ?_)
  · conv => whnf
    refine fkS h (fun h => ?_) (fun h => ?_)
    · conv => whnf
      exact rt (E := E_Int) h rfl
    conv => whnf
    refine jnS (fun w5 => ⟨[(0, .l (.d (.sl (a0.map Task.enc)))), (1, .l (.d (.sl (a1.map Job.enc)))), (5, .l (.d (.int .i64 x2))), (6, .l (.d (.int .i64 x3))), (18, .l (.d (.bool w5)))], 51, [], [], []⟩) h (fun k5 hk5 h => ?_) (fun w5 h => ?_)
    · conv => whnf
      refine ⟨14, ?_⟩
      conv => whnf
      refine fkS h (fun h => ?_) (fun h => ?_)
      · conv => whnf
        refine ixS (enc := Job.enc) h rfl (fun _ => rfl) (fun x6 h => ?_)
        conv => whnf
        refine ixS (enc := Job.enc) h rfl (fun _ => rfl) (fun x7 h => ?_)
        conv => whnf
        refine daS (E := E_Bool) h (job_Ahead_w x6 x7) (fun _ => rfl) (fun x8 h => ?_)
        conv => whnf
        refine drS (by kernel_rfl) ?_
        conv => whnf
        exact jeS hk5 h (Weak.refl _)
      conv => whnf
      refine drS (by kernel_rfl) ?_
      conv => whnf
      exact jeS hk5 h (Weak.refl _)
    conv => whnf
    refine fkS h (fun h => ?_) (fun h => ?_)
    · conv => whnf
      exact rt (E := E_Int) h rfl
    conv => whnf
    refine fkS h (fun h => ?_) (fun h => ?_)
    · conv => whnf
      refine jeX hk4 h ?_
      conv => whnf
      refine WkF.step (Weak.keepS _ [5]) ?_
      conv => whnf
      exact WkF.refl _
    conv => whnf
    refine ⟨9, ?_⟩
    conv => whnf
    refine ixS (enc := Job.enc) h rfl (fun _ => rfl) (fun x9 h => ?_)
    conv => whnf
    refine dcS (E := E_ListInt) h (job_Held_w a0 a1) rfl (fun x10 h => ?_)
    conv => whnf
    refine drS (by kernel_rfl) ?_
    conv => whnf
    refine caS (E := E_Bool) h (level_Passes_w a0 x9.Task x10) rfl (fun _ => rfl) (fun x11 h => ?_)
    conv => whnf
    refine fkS h (fun h => ?_) (fun h => ?_)
    · conv => whnf
      refine jeX hk4 h ?_
      conv => whnf
      refine WkF.step (Weak.keepS _ [5]) ?_
      conv => whnf
      exact WkF.refl _
    conv => whnf
    exact rt (E := E_Int) h rfl
  conv => whnf
  exact rt (E := E_Int) h rfl

end Go.Proofs.YtpephpefjddgcaaGreat
namespace Go.Proofs.YtpephpefjddgcaaGreat
open Go Go.VC
noncomputable def srp_Tick (a0 : List Task) (a1 : List Job) : Option ((List Job) × Job × Bool) :=
  bnd (srp_Choose a0 a1) fun x1 => fk (decide (x1 < (0 : Int))) (some (a1, ⟨(0 : Int), (0 : Int), (0 : Int), (0 : Int), (0 : Int), false⟩, false)) (ix a1 x1 fun x2 => ix a0 x2.Task fun x3 => ck (decide ((0 : Int) ≤ (0 : Int)) && decide ((0 : Int) ≤ x1) && decide (x1 ≤ (a1.length : Int))) (ck (decide ((([] : List Job).length + ((a1.take x1.toNat).drop (0 : Int).toNat).length) * 48 ≤ 140737488355328)) (jn (fun (w4 : List Job) => ck (decide ((0 : Int) ≤ (wr (x1 + (1 : Int)))) && decide ((wr (x1 + (1 : Int))) ≤ (a1.length : Int)) && decide ((a1.length : Int) ≤ (a1.length : Int))) (ck (decide ((w4.length + ((a1.take (a1.length : Int).toNat).drop (wr (x1 + (1 : Int))).toNat).length) * 48 ≤ 140737488355328)) (some (w4 ++ ((a1.take (a1.length : Int).toNat).drop (wr (x1 + (1 : Int))).toNat), ⟨x2.Task, x2.At, x2.Due, x2.Want, (wr (x2.Had + (1 : Int))), true⟩, (decide ((wr (x2.Had + (1 : Int))) ≥ (if x3.C < x2.Want then x3.C else x2.Want))))))) (fun k4 => fk (!(decide ((wr (x2.Had + (1 : Int))) ≥ (if x3.C < x2.Want then x3.C else x2.Want)))) (ck (decide (((([] : List Job) ++ ((a1.take x1.toNat).drop (0 : Int).toNat)).length + ([⟨x2.Task, x2.At, x2.Due, x2.Want, (wr (x2.Had + (1 : Int))), true⟩] : List Job).length) * 48 ≤ 140737488355328)) (k4 ((([] : List Job) ++ ((a1.take x1.toNat).drop (0 : Int).toNat)) ++ ([⟨x2.Task, x2.At, x2.Due, x2.Want, (wr (x2.Had + (1 : Int))), true⟩] : List Job)))) (k4 (([] : List Job) ++ ((a1.take x1.toNat).drop (0 : Int).toNat)))))))
theorem srp_Tick_w (a0 : List Task) (a1 : List Job) (r : (List Job) × Job × Bool) (h : srp_Tick a0 a1 = some r) : Go.VC.Spec Tryz.prog 119 [.d (.sl (a0.map Task.enc)), .d (.sl (a1.map Job.enc))] (fun y => y = E_ListJob_Job_Bool r) := by
  refine Go.VC.Spec.of_xc (args := [.d (.sl (a0.map Task.enc)), .d (.sl (a1.map Job.enc))]) (fn := Tryz.f119) tab ⟨[(0, [0, 1, 5]), (1, [0, 1, 5, 7]), (2, [0, 1, 5, 7, 15]), (3, [4, 5, 6]), (4, [0, 1, 5, 7, 8]), (5, [0, 1, 5, 7, 8]), (6, [0, 1, 5, 7, 8]), (7, [1, 5, 7, 8, 9]), (8, [1, 5, 7, 8, 9, 10]), (9, [1, 5, 7, 8, 9, 10, 45]), (10, [1, 5, 7, 8, 9, 10]), (11, [4, 5, 6])], [], [11], []⟩ 58 [.tmp 4, .cell 5 192, .tmp 6] rfl rfl rfl rfl rfl rfl ?_
  conv => whnf
  refine caS (E := E_Int) h (srp_Choose_w a0 a1) rfl (fun _ => rfl) (fun x1 h => ?_)
  conv => whnf
  refine fkS h (fun h => ?_) (fun h => ?_)
  · conv => whnf
    exact rt (E := E_ListJob_Job_Bool) h rfl
  conv => whnf
  refine ixS (enc := Job.enc) h rfl (fun _ => rfl) (fun x2 h => ?_)
  conv => whnf
  refine ⟨11, ?_⟩
  conv => whnf
  refine ixS (enc := Task.enc) h rfl (fun _ => rfl) (fun x3 h => ?_)
  conv => whnf
  refine drS (by kernel_rfl) ?_
  conv => whnf
  refine liS ([] : List Job) Job.enc rfl rfl ?_
  conv => whnf
  refine slS (enc := Job.enc) h rfl rfl (.inl rfl) (fun _ => rfl) (fun h => ?_)
  conv => whnf
  refine apS (enc := Job.enc) (l1 := ([] : List Job)) (l2 := (a1.take x1.toNat).drop (0 : Int).toNat) h rfl rfl (fun _ => rfl) (fun h => ?_)
  conv => whnf
  refine jnS (fun w4 => ⟨[(1, .l (.d (.sl (a1.map Job.enc)))), (5, .l (.ptr 6 0)), (7, .l (.d (.int .i64 x1))), (8, .l (.ptr 9 0)), (9, .l (.d (.bool (decide ((wr (x2.Had + (1 : Int))) ≥ (if x3.C < x2.Want then x3.C else x2.Want)))))), (10, .l (.own 11))], 58, [], [(6, [.d (.int .i64 (0 : Int)), .d (.int .i64 (0 : Int)), .d (.int .i64 (0 : Int)), .d (.int .i64 (0 : Int)), .d (.int .i64 (0 : Int)), .d (.bool false)]), (9, [.d (.int .i64 x2.Task), .d (.int .i64 x2.At), .d (.int .i64 x2.Due), .d (.int .i64 x2.Want), .d (.int .i64 (wr (x2.Had + (1 : Int)))), .d (.bool true)])], [(11, 192, 6, w4.map Job.enc)]⟩) h (fun k4 hk4 h => ?_) (fun w4 h => ?_)
  · conv => whnf
    refine fkS h (fun h => ?_) (fun h => ?_)
    · conv => whnf
      refine liS ([⟨x2.Task, x2.At, x2.Due, x2.Want, (wr (x2.Had + (1 : Int))), true⟩] : List Job) Job.enc rfl rfl ?_
      conv => whnf
      refine apS (enc := Job.enc) (l1 := ([] : List Job) ++ ((a1.take x1.toNat).drop (0 : Int).toNat)) (l2 := ([⟨x2.Task, x2.At, x2.Due, x2.Want, (wr (x2.Had + (1 : Int))), true⟩] : List Job)) h rfl rfl (fun _ => rfl) (fun h => ?_)
      conv => whnf
      exact jeS hk4 h (Weak.refl _)
    conv => whnf
    refine jeX hk4 h ?_
    conv => whnf
    refine WkF.step (Weak.keepS _ [1, 5, 7, 8, 9, 10]) ?_
    conv => whnf
    exact WkF.refl _
  conv => whnf
  refine ⟨10, ?_⟩
  conv => whnf
  refine slS (enc := Job.enc) h rfl rfl (.inl rfl) (fun _ => rfl) (fun h => ?_)
  conv => whnf
  refine apS (enc := Job.enc) (l1 := w4) (l2 := (a1.take (a1.length : Int).toNat).drop (wr (x1 + (1 : Int))).toNat) h rfl rfl (fun _ => rfl) (fun h => ?_)
  conv => whnf
  refine drS (by kernel_rfl) ?_
  conv => whnf
  exact rt (E := E_ListJob_Job_Bool) h rfl

end Go.Proofs.YtpephpefjddgcaaGreat
namespace Go.Proofs.YtpephpefjddgcaaGreat
open Go Go.VC
noncomputable def part_without_api_Task (a0 : List Task) (a1 : Int) : Option (List Task) :=
  ck (decide ((0 : Int) ≤ (0 : Int)) && decide ((0 : Int) ≤ a1) && decide (a1 ≤ (a0.length : Int))) (ck (decide ((([] : List Task).length + ((a0.take a1.toNat).drop (0 : Int).toNat).length) * 48 ≤ 140737488355328)) (ck (decide ((0 : Int) ≤ (wr (a1 + (1 : Int)))) && decide ((wr (a1 + (1 : Int))) ≤ (a0.length : Int)) && decide ((a0.length : Int) ≤ (a0.length : Int))) (ck (decide (((([] : List Task) ++ ((a0.take a1.toNat).drop (0 : Int).toNat)).length + ((a0.take (a0.length : Int).toNat).drop (wr (a1 + (1 : Int))).toNat).length) * 48 ≤ 140737488355328)) (some ((([] : List Task) ++ ((a0.take a1.toNat).drop (0 : Int).toNat)) ++ ((a0.take (a0.length : Int).toNat).drop (wr (a1 + (1 : Int))).toNat))))))
theorem part_without_api_Task_w (a0 : List Task) (a1 : Int) (r : List Task) (h : part_without_api_Task a0 a1 = some r) : Go.VC.Spec Tryz.prog 120 [.d (.sl (a0.map Task.enc)), .d (.int .i64 a1)] (fun y => y = E_ListTask r) := by
  refine Go.VC.Spec.of_xc (args := [.d (.sl (a0.map Task.enc)), .d (.int .i64 a1)]) (fn := Tryz.f120) tab ⟨[(0, [0, 1]), (1, [4])], [], [], []⟩ 15 [.tmp 4] rfl rfl rfl rfl rfl rfl ?_
  conv => whnf
  refine ⟨9, ?_⟩
  conv => whnf
  refine liS ([] : List Task) Task.enc rfl rfl ?_
  conv => whnf
  refine slS (enc := Task.enc) h rfl rfl (.inl rfl) (fun _ => rfl) (fun h => ?_)
  conv => whnf
  refine apS (enc := Task.enc) (l1 := ([] : List Task)) (l2 := (a0.take a1.toNat).drop (0 : Int).toNat) h rfl rfl (fun _ => rfl) (fun h => ?_)
  conv => whnf
  refine slS (enc := Task.enc) h rfl rfl (.inl rfl) (fun _ => rfl) (fun h => ?_)
  conv => whnf
  refine drS (by kernel_rfl) ?_
  conv => whnf
  refine apS (enc := Task.enc) (l1 := ([] : List Task) ++ ((a0.take a1.toNat).drop (0 : Int).toNat)) (l2 := (a0.take (a0.length : Int).toNat).drop (wr (a1 + (1 : Int))).toNat) h rfl rfl (fun _ => rfl) (fun h => ?_)
  conv => whnf
  exact rt (E := E_ListTask) h rfl

end Go.Proofs.YtpephpefjddgcaaGreat
namespace Go.Proofs.YtpephpefjddgcaaGreat
open Go Go.VC
noncomputable def part_without_bool (a0 : List Bool) (a1 : Int) : Option (List Bool) :=
  ck (decide ((0 : Int) ≤ (0 : Int)) && decide ((0 : Int) ≤ a1) && decide (a1 ≤ (a0.length : Int))) (ck (decide ((([] : List Bool).length + ((a0.take a1.toNat).drop (0 : Int).toNat).length) * 1 ≤ 140737488355328)) (ck (decide ((0 : Int) ≤ (wr (a1 + (1 : Int)))) && decide ((wr (a1 + (1 : Int))) ≤ (a0.length : Int)) && decide ((a0.length : Int) ≤ (a0.length : Int))) (ck (decide (((([] : List Bool) ++ ((a0.take a1.toNat).drop (0 : Int).toNat)).length + ((a0.take (a0.length : Int).toNat).drop (wr (a1 + (1 : Int))).toNat).length) * 1 ≤ 140737488355328)) (some ((([] : List Bool) ++ ((a0.take a1.toNat).drop (0 : Int).toNat)) ++ ((a0.take (a0.length : Int).toNat).drop (wr (a1 + (1 : Int))).toNat))))))
theorem part_without_bool_w (a0 : List Bool) (a1 : Int) (r : List Bool) (h : part_without_bool a0 a1 = some r) : Go.VC.Spec Tryz.prog 121 [.d (.sl (a0.map eB)), .d (.int .i64 a1)] (fun y => y = E_ListBool r) := by
  refine Go.VC.Spec.of_xc (args := [.d (.sl (a0.map eB)), .d (.int .i64 a1)]) (fn := Tryz.f121) tab ⟨[(0, [0, 1]), (1, [4])], [], [], []⟩ 15 [.tmp 4] rfl rfl rfl rfl rfl rfl ?_
  conv => whnf
  refine ⟨9, ?_⟩
  conv => whnf
  refine liS ([] : List Bool) eB rfl rfl ?_
  conv => whnf
  refine slS (enc := eB) h rfl rfl (.inl rfl) (fun _ => rfl) (fun h => ?_)
  conv => whnf
  refine apS (enc := eB) (l1 := ([] : List Bool)) (l2 := (a0.take a1.toNat).drop (0 : Int).toNat) h rfl rfl (fun _ => rfl) (fun h => ?_)
  conv => whnf
  refine slS (enc := eB) h rfl rfl (.inl rfl) (fun _ => rfl) (fun h => ?_)
  conv => whnf
  refine drS (by kernel_rfl) ?_
  conv => whnf
  refine apS (enc := eB) (l1 := ([] : List Bool) ++ ((a0.take a1.toNat).drop (0 : Int).toNat)) (l2 := (a0.take (a0.length : Int).toNat).drop (wr (a1 + (1 : Int))).toNat) h rfl rfl (fun _ => rfl) (fun h => ?_)
  conv => whnf
  exact rt (E := E_ListBool) h rfl

end Go.Proofs.YtpephpefjddgcaaGreat
namespace Go.Proofs.YtpephpefjddgcaaGreat
open Go Go.VC
noncomputable def part_without_int (a0 : List Int) (a1 : Int) : Option (List Int) :=
  ck (decide ((0 : Int) ≤ (0 : Int)) && decide ((0 : Int) ≤ a1) && decide (a1 ≤ (a0.length : Int))) (ck (decide ((([] : List Int).length + ((a0.take a1.toNat).drop (0 : Int).toNat).length) * 8 ≤ 140737488355328)) (ck (decide ((0 : Int) ≤ (wr (a1 + (1 : Int)))) && decide ((wr (a1 + (1 : Int))) ≤ (a0.length : Int)) && decide ((a0.length : Int) ≤ (a0.length : Int))) (ck (decide (((([] : List Int) ++ ((a0.take a1.toNat).drop (0 : Int).toNat)).length + ((a0.take (a0.length : Int).toNat).drop (wr (a1 + (1 : Int))).toNat).length) * 8 ≤ 140737488355328)) (some ((([] : List Int) ++ ((a0.take a1.toNat).drop (0 : Int).toNat)) ++ ((a0.take (a0.length : Int).toNat).drop (wr (a1 + (1 : Int))).toNat))))))
theorem part_without_int_w (a0 : List Int) (a1 : Int) (r : List Int) (h : part_without_int a0 a1 = some r) : Go.VC.Spec Tryz.prog 122 [.d (.sl (a0.map (eI .i64))), .d (.int .i64 a1)] (fun y => y = E_ListInt r) := by
  refine Go.VC.Spec.of_xc (args := [.d (.sl (a0.map (eI .i64))), .d (.int .i64 a1)]) (fn := Tryz.f122) tab ⟨[(0, [0, 1]), (1, [4])], [], [], []⟩ 15 [.tmp 4] rfl rfl rfl rfl rfl rfl ?_
  conv => whnf
  refine ⟨9, ?_⟩
  conv => whnf
  refine liS ([] : List Int) (eI .i64) rfl rfl ?_
  conv => whnf
  refine slS (enc := (eI .i64)) h rfl rfl (.inl rfl) (fun _ => rfl) (fun h => ?_)
  conv => whnf
  refine apS (enc := (eI .i64)) (l1 := ([] : List Int)) (l2 := (a0.take a1.toNat).drop (0 : Int).toNat) h rfl rfl (fun _ => rfl) (fun h => ?_)
  conv => whnf
  refine slS (enc := (eI .i64)) h rfl rfl (.inl rfl) (fun _ => rfl) (fun h => ?_)
  conv => whnf
  refine drS (by kernel_rfl) ?_
  conv => whnf
  refine apS (enc := (eI .i64)) (l1 := ([] : List Int) ++ ((a0.take a1.toNat).drop (0 : Int).toNat)) (l2 := (a0.take (a0.length : Int).toNat).drop (wr (a1 + (1 : Int))).toNat) h rfl rfl (fun _ => rfl) (fun h => ?_)
  conv => whnf
  exact rt (E := E_ListInt) h rfl

end Go.Proofs.YtpephpefjddgcaaGreat
namespace Go.Proofs.YtpephpefjddgcaaGreat
open Go Go.VC
noncomputable def part_Tick (a0 : PartState) (a1 : Bool) (a2 : Int) : Option (PartState × Int × Int) :=
  jn (fun (w1 : Bool) => fk w1 (some (a0, (-1 : Int), (1 : Int))) (ck (decide ((([] : List Entry).length + a0.Log.length) * 24 ≤ 140737488355328)) (lp (fun nx4 (v4 : (List Job) × (List Entry) × Int) => fk (decide (v4.2.2 < (a0.Jobs.length : Int))) (jn (fun (w5 : (List Job) × (List Entry)) => nx4 (w5.1, w5.2, (wr (v4.2.2 + (1 : Int))))) (fun k5 => ix a0.Jobs v4.2.2 fun x6 => fk (decide (x6.Due > a2)) (ck (decide ((v4.1.length + ([x6] : List Job).length) * 48 ≤ 140737488355328)) (k5 (v4.1 ++ ([x6] : List Job), v4.2.1))) (fk (decide ((v4.2.1.length : Int) < (2000 : Int))) (ck (decide ((v4.2.1.length + ([⟨a2, (6 : Int), x6.Task⟩] : List Entry).length) * 24 ≤ 140737488355328)) (k5 (v4.1, v4.2.1 ++ ([⟨a2, (6 : Int), x6.Task⟩] : List Entry)))) (k5 (v4.1, v4.2.1))))) (jn (fun (w7 : (List Job) × (List Entry) × Int) => jn (fun (w11 : (List Task) × (List Bool) × (List Int) × (List Entry)) => some (⟨w11.1, w11.2.1, w11.2.2.1, w7.1, w11.2.2.2⟩, w7.2.2, (0 : Int))) (fun k11 => fk (decide ((w7.1.length : Int) = (0 : Int))) (lp (fun nx12 (v12 : (List Task) × (List Bool) × (List Int) × (List Entry) × Int) => fk (decide (v12.2.2.2.2 ≥ (0 : Int))) (jn (fun (w13 : (List Task) × (List Bool) × (List Int) × (List Entry)) => nx12 (w13.1, w13.2.1, w13.2.2.1, w13.2.2.2, (wr (v12.2.2.2.2 - (1 : Int))))) (fun k13 => ix v12.2.1 v12.2.2.2.2 fun x14 => fk x14 (bnd (part_without_api_Task v12.1 v12.2.2.2.2) fun x15 => bnd (part_without_bool v12.2.1 v12.2.2.2.2) fun x16 => bnd (part_without_int v12.2.2.1 v12.2.2.2.2) fun x17 => fk (decide ((v12.2.2.2.1.length : Int) < (2000 : Int))) (ck (decide ((v12.2.2.2.1.length + ([⟨a2, (7 : Int), v12.2.2.2.2⟩] : List Entry).length) * 24 ≤ 140737488355328)) (k13 (x15, x16, x17, v12.2.2.2.1 ++ ([⟨a2, (7 : Int), v12.2.2.2.2⟩] : List Entry)))) (k13 (x15, x16, x17, v12.2.2.2.1))) (k13 (v12.1, v12.2.1, v12.2.2.1, v12.2.2.2.1)))) (k11 (v12.1, v12.2.1, v12.2.2.1, v12.2.2.2.1))) FU (a0.Tasks, a0.Leaves, a0.Lasts, w7.2.1, (wr ((a0.Tasks.length : Int) - (1 : Int))))) (k11 (a0.Tasks, a0.Leaves, a0.Lasts, w7.2.1)))) (fun k7 => fk a1 (bnd (srp_Tick a0.Tasks v4.1) fun x8 => fk (decide ((v4.1.length : Int) = (0 : Int))) (k7 (v4.1, v4.2.1, (-1 : Int))) (jn (fun (w9 : Bool) => fk w9 (fk (decide ((v4.2.1.length : Int) < (2000 : Int))) (ck (decide ((v4.2.1.length + ([⟨a2, (5 : Int), x8.2.1.Task⟩] : List Entry).length) * 24 ≤ 140737488355328)) (k7 (x8.1, v4.2.1 ++ ([⟨a2, (5 : Int), x8.2.1.Task⟩] : List Entry), x8.2.1.Task))) (k7 (x8.1, v4.2.1, x8.2.1.Task))) (fk x8.2.2 (fk (decide ((v4.2.1.length : Int) < (2000 : Int))) (ck (decide ((v4.2.1.length + ([⟨a2, (4 : Int), x8.2.1.Task⟩] : List Entry).length) * 24 ≤ 140737488355328)) (k7 (x8.1, v4.2.1 ++ ([⟨a2, (4 : Int), x8.2.1.Task⟩] : List Entry), x8.2.1.Task))) (k7 (x8.1, v4.2.1, x8.2.1.Task))) (k7 (x8.1, v4.2.1, x8.2.1.Task)))) (fun k9 => fk x8.2.2 (ix a0.Tasks x8.2.1.Task fun x10 => k9 (decide (x8.2.1.Want > x10.C))) (k9 false)))) (k7 (v4.1, v4.2.1, (-1 : Int)))))) FU ([], ([] : List Entry) ++ a0.Log, (0 : Int))))) (fun k1 => bnd (part_Right a0) fun x2 => fk (!x2) (k1 true) (bnd (part_when a2) fun x3 => k1 (!x3)))
theorem part_Tick_w (a0 : PartState) (a1 : Bool) (a2 : Int) (r : PartState × Int × Int) (h : part_Tick a0 a1 a2 = some r) : Go.VC.Spec Tryz.prog 56 [.agg (PartState.enc a0), .d (.bool a1), .d (.int .i64 a2)] (fun y => y = E_PartState_Int_Int r) := by
  refine Go.VC.Spec.of_xc (args := [.agg (PartState.enc a0), .d (.bool a1), .d (.int .i64 a2)]) (fn := Tryz.f56) tab ⟨[(0, [1, 2, 3, 6]), (1, [1, 2, 3, 6, 18]), (2, [6, 7, 8]), (3, [1, 6, 9]), (4, [1, 6, 9]), (5, [1, 6, 9, 10]), (6, [6, 9, 10, 25]), (7, [6, 9, 10]), (8, [6, 9, 10, 34]), (9, [6, 9, 10]), (10, [6, 7, 8])], [], [100018, 10, 8], []⟩ 40 [.cell 6 102, .tmp 7, .tmp 8] rfl rfl rfl rfl rfl rfl ?_
  conv => whnf
  refine jnS (fun w1 => ⟨[(1, .l (.d (.bool a1))), (2, .l (.d (.int .i64 a2))), (3, .l (.ptr 4 0)), (6, .l (.ptr 7 0)), (18, .l (.d (.bool w1)))], 40, [], [(4, [.d (.sl (a0.Tasks.map Task.enc)), .d (.sl (a0.Leaves.map eB)), .d (.sl (a0.Lasts.map (eI .i64))), .d (.sl (a0.Jobs.map Job.enc)), .d (.sl (a0.Log.map Entry.enc))]), (7, [.nil, .nil, .nil, .nil, .nil])], []⟩) h (fun k1 hk1 h => ?_) (fun w1 h => ?_)
  · conv => whnf
    refine caS (E := E_Bool) h (part_Right_w a0) rfl (fun _ => rfl) (fun x2 h => ?_)
    conv => whnf
    refine fkS h (fun h => ?_) (fun h => ?_)
    · conv => whnf
      exact jeS hk1 h (Weak.refl _)
    conv => whnf
    refine caS (E := E_Bool) h (part_when_w a2) rfl (fun _ => rfl) (fun x3 h => ?_)
    conv => whnf
    exact jeS hk1 h (Weak.refl _)
  conv => whnf
  refine fkS h (fun h => ?_) (fun h => ?_)
  · conv => whnf
    exact rt (E := E_PartState_Int_Int) h rfl
  conv => whnf
  refine inS (fn := Tryz.f93) tab ⟨[(0, [1, 2]), (1, [4])], [], [], []⟩ 14 [.tmp 4] rfl rfl rfl rfl rfl rfl ?_
  conv => whnf
  refine ⟨7, ?_⟩
  conv => whnf
  refine liS ([] : List Entry) Entry.enc rfl rfl ?_
  conv => whnf
  refine apS (enc := Entry.enc) (l1 := ([] : List Entry)) (l2 := a0.Log) h rfl rfl (fun _ => rfl) (fun h => ?_)
  conv => whnf
  refine drS (by kernel_rfl) ?_
  conv => whnf
  refine inS (fn := Tryz.f94) tab ⟨[(0, [0, 2]), (1, [0, 2, 9, 10, 11]), (2, [0, 2, 9, 10, 11, 12]), (3, [0, 2, 4, 9, 10, 11]), (4, [0, 2, 4, 9, 10, 11, 22]), (5, [0, 2, 9, 10, 11]), (6, [0, 2, 9, 10, 11]), (7, [0, 2, 9, 10, 11]), (8, [])], [], [7], []⟩ 39 [] rfl rfl rfl rfl rfl rfl ?_
  conv => whnf
  refine lenS a0.Jobs Job.enc rfl ?_
  conv => whnf
  refine lpS (fun v4 => ⟨[(0, .l (.ptr 1014 0)), (2, .l (.own 1003)), (9, .l (.d (.sl (a0.Jobs.map Job.enc)))), (10, .l (.d (.int .i64 (a0.Jobs.length : Int)))), (11, .l (.d (.int .i64 v4.2.2)))], 39, [⟨[(23, .l (.ptr 1014 0)), (1, .l (.d (.bool a1))), (6, .l (.ptr 7 0)), (9, .l (.ptr 1014 0))], 40⟩], [(7, [.nil, .nil, .nil, .nil, .nil]), (1014, [.own 1009, .d (.int .i64 a2), .d (.sl (a0.Tasks.map Task.enc)), .d (.sl (a0.Leaves.map eB)), .d (.sl (a0.Lasts.map (eI .i64))), .d (.sl (a0.Jobs.map Job.enc)), .d (.sl (a0.Log.map Entry.enc))])], [(1003, 192, 6, v4.1.map Job.enc), (1009, 67, 3, v4.2.1.map Entry.enc)]⟩) h (Weak.trans (Weak.nilO _ 2 1003 192 6 rfl) (Weak.refl _)) (fun _ nx4 hn4 v4 h => ?_)
  conv => whnf
  refine fkS h (fun h => ?_) (fun h => ?_)
  · conv => whnf
    refine jnS (fun w5 => ⟨[(0, .l (.ptr 1014 0)), (2, .l (.own 1003)), (9, .l (.d (.sl (a0.Jobs.map Job.enc)))), (10, .l (.d (.int .i64 (a0.Jobs.length : Int)))), (11, .l (.d (.int .i64 v4.2.2)))], 39, [⟨[(23, .l (.ptr 1014 0)), (1, .l (.d (.bool a1))), (6, .l (.ptr 7 0)), (9, .l (.ptr 1014 0))], 40⟩], [(7, [.nil, .nil, .nil, .nil, .nil]), (1014, [.own 1009, .d (.int .i64 a2), .d (.sl (a0.Tasks.map Task.enc)), .d (.sl (a0.Leaves.map eB)), .d (.sl (a0.Lasts.map (eI .i64))), .d (.sl (a0.Jobs.map Job.enc)), .d (.sl (a0.Log.map Entry.enc))])], [(1003, 192, 6, w5.1.map Job.enc), (1009, 67, 3, w5.2.map Entry.enc)]⟩) h (fun k5 hk5 h => ?_) (fun w5 h => ?_)
    · conv => whnf
      refine ixS (enc := Job.enc) h rfl (fun _ => rfl) (fun x6 h => ?_)
      conv => whnf
      refine ⟨7, ?_⟩
      conv => whnf
      refine drS (by kernel_rfl) ?_
      conv => whnf
      refine fkS h (fun h => ?_) (fun h => ?_)
      · conv => whnf
        refine liS ([x6] : List Job) Job.enc rfl rfl ?_
        conv => whnf
        refine apS (enc := Job.enc) (l1 := v4.1) (l2 := ([x6] : List Job)) h rfl rfl (fun _ => rfl) (fun h => ?_)
        conv => whnf
        exact jeS hk5 h (Weak.refl _)
      conv => whnf
      refine ⟨5, ?_⟩
      conv => whnf
      refine drS (by kernel_rfl) ?_
      conv => whnf
      refine inS (fn := Tryz.f113) tab ⟨[(0, [0, 1, 2, 11]), (1, [])], [], [], []⟩ 28 [] rfl rfl rfl rfl rfl rfl ?_
      conv => whnf
      refine lenS v4.2.1 Entry.enc rfl ?_
      conv => whnf
      refine fkS h (fun h => ?_) (fun h => ?_)
      · conv => whnf
        refine ⟨14, ?_⟩
        conv => whnf
        refine liS ([⟨a2, (6 : Int), x6.Task⟩] : List Entry) Entry.enc rfl rfl ?_
        conv => whnf
        refine apS (enc := Entry.enc) (l1 := v4.2.1) (l2 := ([⟨a2, (6 : Int), x6.Task⟩] : List Entry)) h rfl rfl (fun _ => rfl) (fun h => ?_)
        conv => whnf
        refine drS (by kernel_rfl) ?_
        conv => whnf
        refine jeX hk5 h ?_
        conv => whnf
        refine WkF.step (Weak.rekey _ 2026 1009 rfl) ?_
        conv => whnf
        exact WkF.refl _
      conv => whnf
      exact jeS hk5 h (Weak.refl _)
    conv => whnf
    exact leS hn4 h (Weak.refl _)
  conv => whnf
  refine jnS (fun w7 => ⟨[(6, .l (.ptr 7 0)), (9, .l (.ptr 1014 0)), (10, .l (.d (.int .i64 w7.2.2)))], 40, [], [(7, [.nil, .nil, .nil, .nil, .nil]), (1014, [.own 1009, .d (.int .i64 a2), .d (.sl (a0.Tasks.map Task.enc)), .d (.sl (a0.Leaves.map eB)), .d (.sl (a0.Lasts.map (eI .i64))), .d (.sl (w7.1.map Job.enc)), .d (.sl (a0.Log.map Entry.enc))])], [(1009, 67, 3, w7.2.1.map Entry.enc)]⟩) h (fun k7 hk7 h => ?_) (fun w7 h => ?_)
  · conv => whnf
    refine fkS h (fun h => ?_) (fun h => ?_)
    · conv => whnf
      refine inS (fn := Tryz.f95) tab ⟨[(0, [0]), (1, [0, 3, 4, 5]), (2, [0, 3, 4, 5, 27]), (3, [2]), (4, [0, 4, 5]), (5, [0, 4, 5, 33]), (6, [4]), (7, [0, 4, 56]), (8, [4]), (9, [2])], [(0, [1003])], [100033], []⟩ 66 [.tmp 2] rfl rfl rfl rfl rfl rfl ?_
      conv => whnf
      refine ⟨18, ?_⟩
      conv => whnf
      refine dcS (E := E_ListJob_Job_Bool) h (srp_Tick_w a0.Tasks v4.1) rfl (fun x8 h => ?_)
      conv => whnf
      refine drS (by kernel_rfl) ?_
      conv => whnf
      refine lenS v4.1 Job.enc rfl ?_
      conv => whnf
      refine fkS h (fun h => ?_) (fun h => ?_)
      · conv => whnf
        exact jeS hk7 h (Weak.refl _)
      conv => whnf
      refine jnS (fun w9 => ⟨[(0, .l (.ptr 1014 0)), (4, .l (.ptr 1005 0)), (5, .l (.d (.bool x8.2.2))), (33, .l (.d (.bool w9)))], 66, [⟨[(26, .l (.ptr 1014 0)), (25, .l (.d (.bool true))), (6, .l (.ptr 7 0)), (9, .l (.ptr 1014 0)), (10, .l (.d (.int .i64 (-1 : Int)))), (25, .l (.d (.bool a1)))], 40⟩], [(7, [.nil, .nil, .nil, .nil, .nil]), (1005, [.d (.int .i64 x8.2.1.Task), .d (.int .i64 x8.2.1.At), .d (.int .i64 x8.2.1.Due), .d (.int .i64 x8.2.1.Want), .d (.int .i64 x8.2.1.Had), .d (.bool x8.2.1.Began)]), (1014, [.own 1009, .d (.int .i64 a2), .d (.sl (a0.Tasks.map Task.enc)), .d (.sl (a0.Leaves.map eB)), .d (.sl (a0.Lasts.map (eI .i64))), .d (.sl (x8.1.map Job.enc)), .d (.sl (a0.Log.map Entry.enc))])], [(1009, 67, 3, v4.2.1.map Entry.enc)]⟩) h (fun k9 hk9 h => ?_) (fun w9 h => ?_)
      · conv => whnf
        refine ⟨16, ?_⟩
        conv => whnf
        refine fkS h (fun h => ?_) (fun h => ?_)
        · conv => whnf
          refine ixS (enc := Task.enc) h rfl (fun _ => rfl) (fun x10 h => ?_)
          conv => whnf
          refine drS (by kernel_rfl) ?_
          conv => whnf
          exact jeS hk9 h (Weak.refl _)
        conv => whnf
        refine drS (by kernel_rfl) ?_
        conv => whnf
        exact jeS hk9 h (Weak.refl _)
      conv => whnf
      refine fkS h (fun h => ?_) (fun h => ?_)
      · conv => whnf
        refine ⟨5, ?_⟩
        conv => whnf
        refine drS (by kernel_rfl) ?_
        conv => whnf
        refine inS (fn := Tryz.f113) tab ⟨[(0, [0, 1, 2, 11]), (1, [])], [], [], []⟩ 28 [] rfl rfl rfl rfl rfl rfl ?_
        conv => whnf
        refine lenS v4.2.1 Entry.enc rfl ?_
        conv => whnf
        refine fkS h (fun h => ?_) (fun h => ?_)
        · conv => whnf
          refine ⟨14, ?_⟩
          conv => whnf
          refine liS ([⟨a2, (5 : Int), x8.2.1.Task⟩] : List Entry) Entry.enc rfl rfl ?_
          conv => whnf
          refine apS (enc := Entry.enc) (l1 := v4.2.1) (l2 := ([⟨a2, (5 : Int), x8.2.1.Task⟩] : List Entry)) h rfl rfl (fun _ => rfl) (fun h => ?_)
          conv => whnf
          refine drS (by kernel_rfl) ?_
          conv => whnf
          refine jeX hk7 h ?_
          conv => whnf
          refine WkF.step (Weak.rekey _ 2026 1009 rfl) ?_
          conv => whnf
          exact WkF.refl _
        conv => whnf
        exact jeS hk7 h (Weak.refl _)
      conv => whnf
      refine fkS h (fun h => ?_) (fun h => ?_)
      · conv => whnf
        refine ⟨5, ?_⟩
        conv => whnf
        refine drS (by kernel_rfl) ?_
        conv => whnf
        refine inS (fn := Tryz.f113) tab ⟨[(0, [0, 1, 2, 11]), (1, [])], [], [], []⟩ 28 [] rfl rfl rfl rfl rfl rfl ?_
        conv => whnf
        refine lenS v4.2.1 Entry.enc rfl ?_
        conv => whnf
        refine fkS h (fun h => ?_) (fun h => ?_)
        · conv => whnf
          refine ⟨14, ?_⟩
          conv => whnf
          refine liS ([⟨a2, (4 : Int), x8.2.1.Task⟩] : List Entry) Entry.enc rfl rfl ?_
          conv => whnf
          refine apS (enc := Entry.enc) (l1 := v4.2.1) (l2 := ([⟨a2, (4 : Int), x8.2.1.Task⟩] : List Entry)) h rfl rfl (fun _ => rfl) (fun h => ?_)
          conv => whnf
          refine drS (by kernel_rfl) ?_
          conv => whnf
          refine jeX hk7 h ?_
          conv => whnf
          refine WkF.step (Weak.rekey _ 2026 1009 rfl) ?_
          conv => whnf
          exact WkF.refl _
        conv => whnf
        exact jeS hk7 h (Weak.refl _)
      conv => whnf
      exact jeS hk7 h (Weak.refl _)
    conv => whnf
    refine jeX hk7 h ?_
    conv => whnf
    refine WkF.step (Weak.keepS _ [6, 9, 10]) ?_
    conv => whnf
    refine WkF.step (Weak.ice _ 1003) ?_
    conv => whnf
    exact WkF.refl _
  conv => whnf
  refine jnS (fun w11 => ⟨[(6, .l (.ptr 7 0)), (9, .l (.ptr 1014 0)), (10, .l (.d (.int .i64 w7.2.2)))], 40, [], [(7, [.nil, .nil, .nil, .nil, .nil]), (1014, [.own 1009, .d (.int .i64 a2), .d (.sl (w11.1.map Task.enc)), .d (.sl (w11.2.1.map eB)), .d (.sl (w11.2.2.1.map (eI .i64))), .d (.sl (w7.1.map Job.enc)), .d (.sl (a0.Log.map Entry.enc))])], [(1009, 67, 3, w11.2.2.2.map Entry.enc)]⟩) h (fun k11 hk11 h => ?_) (fun w11 h => ?_)
  · conv => whnf
    refine lenS w7.1 Job.enc rfl ?_
    conv => whnf
    refine fkS h (fun h => ?_) (fun h => ?_)
    · conv => whnf
      refine inS (fn := Tryz.f96) tab ⟨[(0, [0, 2]), (1, [0, 2, 11]), (2, [0, 2]), (3, [0, 2, 21]), (4, [0, 2]), (5, [0, 2])], [], [2], []⟩ 60 [] rfl rfl rfl rfl rfl rfl ?_
      conv => whnf
      refine lenS a0.Tasks Task.enc rfl ?_
      conv => whnf
      refine lpS (fun v12 => ⟨[(0, .l (.ptr 1014 0)), (2, .l (.d (.int .i64 v12.2.2.2.2)))], 60, [⟨[(35, .l (.ptr 1014 0)), (34, .l (.d (.bool true))), (6, .l (.ptr 7 0)), (9, .l (.ptr 1014 0)), (10, .l (.d (.int .i64 w7.2.2))), (34, .l (.d (.bool (decide ((w7.1.length : Int) = (0 : Int))))))], 40⟩], [(7, [.nil, .nil, .nil, .nil, .nil]), (1014, [.own 1009, .d (.int .i64 a2), .d (.sl (v12.1.map Task.enc)), .d (.sl (v12.2.1.map eB)), .d (.sl (v12.2.2.1.map (eI .i64))), .d (.sl (w7.1.map Job.enc)), .d (.sl (a0.Log.map Entry.enc))])], [(1009, 67, 3, v12.2.2.2.1.map Entry.enc)]⟩) h (Weak.refl _) (fun _ nx12 hn12 v12 h => ?_)
      conv => whnf
      refine fkS h (fun h => ?_) (fun h => ?_)
      · conv => whnf
        refine jnS (fun w13 => ⟨[(0, .l (.ptr 1014 0)), (2, .l (.d (.int .i64 v12.2.2.2.2)))], 60, [⟨[(35, .l (.ptr 1014 0)), (34, .l (.d (.bool true))), (6, .l (.ptr 7 0)), (9, .l (.ptr 1014 0)), (10, .l (.d (.int .i64 w7.2.2))), (34, .l (.d (.bool (decide ((w7.1.length : Int) = (0 : Int))))))], 40⟩], [(7, [.nil, .nil, .nil, .nil, .nil]), (1014, [.own 2026, .d (.int .i64 a2), .d (.sl (w13.1.map Task.enc)), .d (.sl (w13.2.1.map eB)), .d (.sl (w13.2.2.1.map (eI .i64))), .d (.sl (w7.1.map Job.enc)), .d (.sl (a0.Log.map Entry.enc))])], [(2026, 67, 3, w13.2.2.2.map Entry.enc)]⟩) h (fun k13 hk13 h => ?_) (fun w13 h => ?_)
        · conv => whnf
          refine ixS (enc := eB) h rfl (fun _ => rfl) (fun x14 h => ?_)
          conv => whnf
          refine fkS h (fun h => ?_) (fun h => ?_)
          · conv => whnf
            refine ⟨32, ?_⟩
            conv => whnf
            refine dcS (E := E_ListTask) h (part_without_api_Task_w v12.1 v12.2.2.2.2) rfl (fun x15 h => ?_)
            conv => whnf
            refine dcS (E := E_ListBool) h (part_without_bool_w v12.2.1 v12.2.2.2.2) rfl (fun x16 h => ?_)
            conv => whnf
            refine dcS (E := E_ListInt) h (part_without_int_w v12.2.2.1 v12.2.2.2.2) rfl (fun x17 h => ?_)
            conv => whnf
            refine drS (by kernel_rfl) ?_
            conv => whnf
            refine inS (fn := Tryz.f113) tab ⟨[(0, [0, 1, 2, 11]), (1, [])], [], [], []⟩ 28 [] rfl rfl rfl rfl rfl rfl ?_
            conv => whnf
            refine lenS v12.2.2.2.1 Entry.enc rfl ?_
            conv => whnf
            refine fkS h (fun h => ?_) (fun h => ?_)
            · conv => whnf
              refine ⟨14, ?_⟩
              conv => whnf
              refine liS ([⟨a2, (7 : Int), v12.2.2.2.2⟩] : List Entry) Entry.enc rfl rfl ?_
              conv => whnf
              refine apS (enc := Entry.enc) (l1 := v12.2.2.2.1) (l2 := ([⟨a2, (7 : Int), v12.2.2.2.2⟩] : List Entry)) h rfl rfl (fun _ => rfl) (fun h => ?_)
              conv => whnf
              refine drS (by kernel_rfl) ?_
              conv => whnf
              exact jeS hk13 h (Weak.refl _)
            conv => whnf
            refine jeX hk13 h ?_
            conv => whnf
            refine WkF.step (Weak.rekey _ 1009 2026 rfl) ?_
            conv => whnf
            exact WkF.refl _
          conv => whnf
          refine jeX hk13 h ?_
          conv => whnf
          refine WkF.step (Weak.keepS _ [0, 2]) ?_
          conv => whnf
          refine WkF.step (Weak.rekey _ 1009 2026 rfl) ?_
          conv => whnf
          exact WkF.refl _
        conv => whnf
        refine leX hn12 h ?_
        conv => whnf
        refine WkF.step (Weak.rekey _ 2026 1009 rfl) ?_
        conv => whnf
        exact WkF.refl _
      conv => whnf
      exact jeS hk11 h (Weak.refl _)
    conv => whnf
    refine jeX hk11 h ?_
    conv => whnf
    refine WkF.step (Weak.keepS _ [6, 9, 10]) ?_
    conv => whnf
    exact WkF.refl _
  conv => whnf
  refine inS (fn := Tryz.f97) tab ⟨[(0, [0, 2]), (1, [0, 2]), (2, [2])], [], [], []⟩ 16 [.cell 2 102] rfl rfl rfl rfl rfl rfl ?_
  conv => whnf
  exact rt (E := E_PartState_Int_Int) h rfl

end Go.Proofs.YtpephpefjddgcaaGreat
namespace Go.Proofs.YtpephpefjddgcaaGreat
open Go Go.VC
noncomputable def kernel_Tick (a0 : KernelState) : Option (KernelState × (List Int) × Int) :=
  bnd (kernel_Right a0) fun x1 => fk (!x1) (some (a0, [], (1 : Int))) (jn (fun (w2 : List PortLine) => bnd (table_At a0.Table a0.Now) fun x4 => lp (fun nx5 (v5 : Int × (List Window) × (List Face) × (List PartState) × (List PortLine) × Int × (List Int) × Int) => fk (decide (v5.2.2.2.2.2.2.2 < (a0.Parts.length : Int))) (ix a0.Parts v5.2.2.2.2.2.2.2 fun x6 => bnd (part_Tick x6 (decide (v5.2.2.2.2.2.2.2 = x4)) v5.2.2.2.2.2.1) fun x7 => bnd (kernel_State_with (⟨⟨v5.1, v5.2.1⟩, v5.2.2.1, v5.2.2.2.1, v5.2.2.2.2.1, v5.2.2.2.2.2.1⟩) v5.2.2.2.2.2.2.2 x7.1) fun x8 => ck (decide ((v5.2.2.2.2.2.2.1.length + ([x7.2.1] : List Int).length) * 8 ≤ 140737488355328)) (nx5 (x8.Table.Frame, x8.Table.Windows, x8.Faces, x8.Parts, x8.Lines, x8.Now, v5.2.2.2.2.2.2.1 ++ ([x7.2.1] : List Int), (wr (v5.2.2.2.2.2.2.2 + (1 : Int)))))) (some (⟨⟨v5.1, v5.2.1⟩, v5.2.2.1, v5.2.2.2.1, v5.2.2.2.2.1, (wr (v5.2.2.2.2.2.1 + (1 : Int)))⟩, v5.2.2.2.2.2.2.1, (0 : Int)))) FU (a0.Table.Frame, a0.Table.Windows, a0.Faces, a0.Parts, w2, a0.Now, [], (0 : Int))) (fun k2 => ck (decide (a0.Table.Frame ≠ 0)) (fk (decide ((a0.Now.tmod a0.Table.Frame) = (0 : Int))) (bnd (port_Deliver a0.Lines) fun x3 => k2 x3) (k2 a0.Lines))))
theorem kernel_Tick_w (a0 : KernelState) (r : KernelState × (List Int) × Int) (h : kernel_Tick a0 = some r) : Go.VC.Spec Tryz.prog 34 [.agg (KernelState.enc a0)] (fun y => y = E_KernelState_ListInt_Int r) := by
  refine Go.VC.Spec.of_xc (args := [.agg (KernelState.enc a0)]) (fn := Tryz.f34) tab ⟨[(0, [1, 2]), (1, [1, 2, 14]), (2, [2, 3, 4]), (3, [1, 2, 22]), (4, [1, 2]), (5, [1, 2, 5]), (6, [1, 2, 5, 6]), (7, [1, 2, 5, 6, 33, 34, 35]), (8, [1, 2, 5, 6, 33, 34, 35, 36]), (9, [1, 2, 5, 6, 7, 8, 33, 34, 35]), (10, [1, 2, 5, 6, 7, 9, 10, 33, 34, 35]), (11, [1, 2, 5, 6, 10, 33, 34, 35]), (12, [1, 2, 5, 6, 33, 34, 35]), (13, [1, 2, 5, 6, 33, 34, 35]), (14, [1, 2, 6]), (15, [2, 3, 4])], [], [5], []⟩ 66 [.cell 2 90, .tmp 3, .tmp 4] rfl rfl rfl rfl rfl rfl ?_
  conv => whnf
  refine caS (E := E_Bool) h (kernel_Right_w a0) rfl (fun _ => rfl) (fun x1 h => ?_)
  conv => whnf
  refine fkS h (fun h => ?_) (fun h => ?_)
  · conv => whnf
    exact rt (E := E_KernelState_ListInt_Int) h rfl
  conv => whnf
  refine jnS (fun w2 => ⟨[(1, .l (.ptr 2 0)), (2, .l (.ptr 3 0))], 66, [], [(2, [.d (.int .i64 a0.Table.Frame), .d (.sl (a0.Table.Windows.map Window.enc)), .d (.sl (a0.Faces.map Face.enc)), .d (.sl (a0.Parts.map PartState.enc)), .d (.sl (w2.map PortLine.enc)), .d (.int .i64 a0.Now)]), (3, [.d (.int .i64 (0 : Int)), .nil, .nil, .nil, .nil, .d (.int .i64 (0 : Int))])], []⟩) h (fun k2 hk2 h => ?_) (fun w2 h => ?_)
  · conv => whnf
    refine dvS h (fun h => ?_)
    conv => whnf
    refine fkS h (fun h => ?_) (fun h => ?_)
    · conv => whnf
      refine ccS (E := E_ListPortLine) h (port_Deliver_w a0.Lines) rfl rfl (fun x3 h => ?_)
      conv => whnf
      exact jeS hk2 h (Weak.refl _)
    conv => whnf
    refine jeX hk2 h ?_
    conv => whnf
    refine WkF.step (Weak.keepS _ [1, 2]) ?_
    conv => whnf
    exact WkF.refl _
  conv => whnf
  refine caS (E := E_Int) h (table_At_w a0.Table a0.Now) rfl (fun _ => rfl) (fun x4 h => ?_)
  conv => whnf
  refine lenS a0.Parts PartState.enc rfl ?_
  conv => whnf
  refine lpS (fun v5 => ⟨[(1, .l (.ptr 2 0)), (2, .l (.ptr 3 0)), (5, .l (.d (.int .i64 x4))), (6, .l (.own 7)), (33, .l (.d (.sl (a0.Parts.map PartState.enc)))), (34, .l (.d (.int .i64 (a0.Parts.length : Int)))), (35, .l (.d (.int .i64 v5.2.2.2.2.2.2.2)))], 66, [], [(2, [.d (.int .i64 v5.1), .d (.sl (v5.2.1.map Window.enc)), .d (.sl (v5.2.2.1.map Face.enc)), .d (.sl (v5.2.2.2.1.map PartState.enc)), .d (.sl (v5.2.2.2.2.1.map PortLine.enc)), .d (.int .i64 v5.2.2.2.2.2.1)]), (3, [.d (.int .i64 (0 : Int)), .nil, .nil, .nil, .nil, .d (.int .i64 (0 : Int))])], [(7, 3, 1, v5.2.2.2.2.2.2.1.map (eI .i64))]⟩) h (Weak.trans (Weak.nilO _ 6 7 3 1 rfl) (Weak.refl _)) (fun _ nx5 hn5 v5 h => ?_)
  conv => whnf
  refine fkS h (fun h => ?_) (fun h => ?_)
  · conv => whnf
    refine ixS (enc := PartState.enc) h rfl (fun _ => rfl) (fun x6 h => ?_)
    conv => whnf
    refine ccS (E := E_PartState_Int_Int) h (part_Tick_w x6 (decide (v5.2.2.2.2.2.2.2 = x4)) v5.2.2.2.2.2.1) rfl rfl (fun x7 h => ?_)
    conv => whnf
    refine ccS (E := E_KernelState) h (kernel_State_with_w (⟨⟨v5.1, v5.2.1⟩, v5.2.2.1, v5.2.2.2.1, v5.2.2.2.2.1, v5.2.2.2.2.2.1⟩) v5.2.2.2.2.2.2.2 x7.1) rfl rfl (fun x8 h => ?_)
    conv => whnf
    refine liS ([x7.2.1] : List Int) (eI .i64) rfl rfl ?_
    conv => whnf
    refine apS (enc := (eI .i64)) (l1 := v5.2.2.2.2.2.2.1) (l2 := ([x7.2.1] : List Int)) h rfl rfl (fun _ => rfl) (fun h => ?_)
    conv => whnf
    exact leS hn5 h (Weak.refl _)
  conv => whnf
  exact rt (E := E_KernelState_ListInt_Int) h rfl

end Go.Proofs.YtpephpefjddgcaaGreat
namespace Go.Proofs.YtpephpefjddgcaaGreat
open Go Go.VC
noncomputable def world_Play (a0 : List Int) (a1 : List (List KernelCmd)) : Option ((List WorldView) × Int) :=
  bnd (image_Decode a0) fun x1 => fk (!decide (x1.2.2 = (0 : Int))) (some ([], x1.2.2)) (bnd (kernel_Boot x1.1) fun x2 => fk (!decide (x2.2 = (0 : Int))) (some ([], x2.2)) (bnd (world_may a1) fun x3 => fk (!x3) (some ([], (5 : Int))) (fk (decide ((x2.1.Parts.length : Int) = (0 : Int))) (lp (fun nx88 (v88 : Int × (List Window) × (List Face) × (List PartState) × (List PortLine) × Int × Int) => fk (decide (v88.2.2.2.2.2.2 < (a1.length : Int))) (ix a1 v88.2.2.2.2.2.2 fun x89 => lp (fun nx90 (v90 : Int × (List Window) × (List Face) × (List PartState) × (List PortLine) × Int × Int) => fk (decide (v90.2.2.2.2.2.2 < (x89.length : Int))) (ix x89 v90.2.2.2.2.2.2 fun x91 => bnd (kernel_Do (⟨⟨v90.1, v90.2.1⟩, v90.2.2.1, v90.2.2.2.1, v90.2.2.2.2.1, v90.2.2.2.2.2.1⟩) x91) fun x92 => jn (fun (w93 : Unit) => nx90 (x92.1.Table.Frame, x92.1.Table.Windows, x92.1.Faces, x92.1.Parts, x92.1.Lines, x92.1.Now, (wr (v90.2.2.2.2.2.2 + (1 : Int))))) (fun k93 => jn (fun (w94 : Bool) => fk w94 (none) (k93 ())) (fun k94 => fk (decide (x91.Part ≥ (0 : Int))) (k94 (decide (x91.Part < (0 : Int)))) (k94 false)))) (bnd (kernel_Tick (⟨⟨v90.1, v90.2.1⟩, v90.2.2.1, v90.2.2.2.1, v90.2.2.2.2.1, v90.2.2.2.2.2.1⟩)) fun x95 => lp (fun nx96 (v96 : Unit) => nx88 (x95.1.Table.Frame, x95.1.Table.Windows, x95.1.Faces, x95.1.Parts, x95.1.Lines, x95.1.Now, (wr (v88.2.2.2.2.2.2 + (1 : Int))))) FU ())) FU (v88.1, v88.2.1, v88.2.2.1, v88.2.2.2.1, v88.2.2.2.2.1, v88.2.2.2.2.2.1, (0 : Int))) (lp (fun nx97 (v97 : Unit) => some (([] : List WorldView), (0 : Int))) FU ())) FU (x2.1.Table.Frame, x2.1.Table.Windows, x2.1.Faces, x2.1.Parts, x2.1.Lines, x2.1.Now, (0 : Int))) (fk (decide ((x2.1.Parts.length : Int) = (1 : Int))) (lp (fun nx73 (v73 : Int × (List Window) × (List Face) × (List PartState) × (List PortLine) × Int × (List WorldSaw) × (List Int) × Int) => fk (decide (v73.2.2.2.2.2.2.2.2 < (a1.length : Int))) (ix a1 v73.2.2.2.2.2.2.2.2 fun x74 => lp (fun nx75 (v75 : Int × (List Window) × (List Face) × (List PartState) × (List PortLine) × Int × (List WorldSaw) × Int) => fk (decide (v75.2.2.2.2.2.2.2 < (x74.length : Int))) (ix x74 v75.2.2.2.2.2.2.2 fun x76 => bnd (kernel_Do (⟨⟨v75.1, v75.2.1⟩, v75.2.2.1, v75.2.2.2.1, v75.2.2.2.2.1, v75.2.2.2.2.2.1⟩) x76) fun x77 => jn (fun (w78 : List WorldSaw) => nx75 (x77.1.Table.Frame, x77.1.Table.Windows, x77.1.Faces, x77.1.Parts, x77.1.Lines, x77.1.Now, w78, (wr (v75.2.2.2.2.2.2.2 + (1 : Int))))) (fun k78 => jn (fun (w79 : Bool) => fk w79 (fk (decide (x76.Part = (0 : Int))) (ck (decide ((v75.2.2.2.2.2.2.1.length + ([⟨v73.2.2.2.2.2.2.2.2, x77.2.1, x77.2.2⟩] : List WorldSaw).length) * 24 ≤ 140737488355328)) (k78 (v75.2.2.2.2.2.2.1 ++ ([⟨v73.2.2.2.2.2.2.2.2, x77.2.1, x77.2.2⟩] : List WorldSaw)))) (none)) (k78 v75.2.2.2.2.2.2.1)) (fun k79 => fk (decide (x76.Part ≥ (0 : Int))) (k79 (decide (x76.Part < (1 : Int)))) (k79 false)))) (bnd (kernel_Tick (⟨⟨v75.1, v75.2.1⟩, v75.2.2.1, v75.2.2.2.1, v75.2.2.2.2.1, v75.2.2.2.2.2.1⟩)) fun x81 => lp (fun nx82 (v82 : (List Int) × Int) => fk (decide (v82.2 < (1 : Int))) (fk (decide (v82.2 = (0 : Int))) (ix x81.2.1 v82.2 fun x84 => ck (decide ((v82.1.length + ([x84] : List Int).length) * 8 ≤ 140737488355328)) (nx82 (v82.1 ++ ([x84] : List Int), (wr (v82.2 + (1 : Int)))))) (none)) (nx73 (x81.1.Table.Frame, x81.1.Table.Windows, x81.1.Faces, x81.1.Parts, x81.1.Lines, x81.1.Now, v75.2.2.2.2.2.2.1, v82.1, (wr (v73.2.2.2.2.2.2.2.2 + (1 : Int)))))) FU (v73.2.2.2.2.2.2.2.1, (0 : Int)))) FU (v73.1, v73.2.1, v73.2.2.1, v73.2.2.2.1, v73.2.2.2.2.1, v73.2.2.2.2.2.1, v73.2.2.2.2.2.2.1, (0 : Int))) (lp (fun nx85 (v85 : (List Entry) × Int) => fk (decide (v85.2 < (1 : Int))) (ix v73.2.2.2.1 v85.2 fun x86 => fk (decide (v85.2 = (0 : Int))) (nx85 (x86.Log, (wr (v85.2 + (1 : Int))))) (none)) (some (([⟨v73.2.2.2.2.2.2.1, v73.2.2.2.2.2.2.2.1, v85.1⟩] : List WorldView), (0 : Int)))) FU ([], (0 : Int)))) FU (x2.1.Table.Frame, x2.1.Table.Windows, x2.1.Faces, x2.1.Parts, x2.1.Lines, x2.1.Now, [], [], (0 : Int))) (fk (decide ((x2.1.Parts.length : Int) = (2 : Int))) (lp (fun nx54 (v54 : Int × (List Window) × (List Face) × (List PartState) × (List PortLine) × Int × (List WorldSaw) × (List Int) × (List WorldSaw) × (List Int) × Int) => fk (decide (v54.2.2.2.2.2.2.2.2.2.2 < (a1.length : Int))) (ix a1 v54.2.2.2.2.2.2.2.2.2.2 fun x55 => lp (fun nx56 (v56 : Int × (List Window) × (List Face) × (List PartState) × (List PortLine) × Int × (List WorldSaw) × (List WorldSaw) × Int) => fk (decide (v56.2.2.2.2.2.2.2.2 < (x55.length : Int))) (ix x55 v56.2.2.2.2.2.2.2.2 fun x57 => bnd (kernel_Do (⟨⟨v56.1, v56.2.1⟩, v56.2.2.1, v56.2.2.2.1, v56.2.2.2.2.1, v56.2.2.2.2.2.1⟩) x57) fun x58 => jn (fun (w59 : (List WorldSaw) × (List WorldSaw)) => nx56 (x58.1.Table.Frame, x58.1.Table.Windows, x58.1.Faces, x58.1.Parts, x58.1.Lines, x58.1.Now, w59.1, w59.2, (wr (v56.2.2.2.2.2.2.2.2 + (1 : Int))))) (fun k59 => jn (fun (w60 : Bool) => fk w60 (fk (decide (x57.Part = (0 : Int))) (ck (decide ((v56.2.2.2.2.2.2.1.length + ([⟨v54.2.2.2.2.2.2.2.2.2.2, x58.2.1, x58.2.2⟩] : List WorldSaw).length) * 24 ≤ 140737488355328)) (k59 (v56.2.2.2.2.2.2.1 ++ ([⟨v54.2.2.2.2.2.2.2.2.2.2, x58.2.1, x58.2.2⟩] : List WorldSaw), v56.2.2.2.2.2.2.2.1))) (fk (decide (x57.Part = (1 : Int))) (ck (decide ((v56.2.2.2.2.2.2.2.1.length + ([⟨v54.2.2.2.2.2.2.2.2.2.2, x58.2.1, x58.2.2⟩] : List WorldSaw).length) * 24 ≤ 140737488355328)) (k59 (v56.2.2.2.2.2.2.1, v56.2.2.2.2.2.2.2.1 ++ ([⟨v54.2.2.2.2.2.2.2.2.2.2, x58.2.1, x58.2.2⟩] : List WorldSaw)))) (none))) (k59 (v56.2.2.2.2.2.2.1, v56.2.2.2.2.2.2.2.1))) (fun k60 => fk (decide (x57.Part ≥ (0 : Int))) (k60 (decide (x57.Part < (2 : Int)))) (k60 false)))) (bnd (kernel_Tick (⟨⟨v56.1, v56.2.1⟩, v56.2.2.1, v56.2.2.2.1, v56.2.2.2.2.1, v56.2.2.2.2.2.1⟩)) fun x63 => lp (fun nx64 (v64 : (List Int) × (List Int) × Int) => fk (decide (v64.2.2 < (2 : Int))) (fk (decide (v64.2.2 = (0 : Int))) (ix x63.2.1 v64.2.2 fun x68 => ck (decide ((v64.1.length + ([x68] : List Int).length) * 8 ≤ 140737488355328)) (nx64 (v64.1 ++ ([x68] : List Int), v64.2.1, (wr (v64.2.2 + (1 : Int)))))) (fk (decide (v64.2.2 = (1 : Int))) (ix x63.2.1 v64.2.2 fun x67 => ck (decide ((v64.2.1.length + ([x67] : List Int).length) * 8 ≤ 140737488355328)) (nx64 (v64.1, v64.2.1 ++ ([x67] : List Int), (wr (v64.2.2 + (1 : Int)))))) (none))) (nx54 (x63.1.Table.Frame, x63.1.Table.Windows, x63.1.Faces, x63.1.Parts, x63.1.Lines, x63.1.Now, v56.2.2.2.2.2.2.1, v64.1, v56.2.2.2.2.2.2.2.1, v64.2.1, (wr (v54.2.2.2.2.2.2.2.2.2.2 + (1 : Int)))))) FU (v54.2.2.2.2.2.2.2.1, v54.2.2.2.2.2.2.2.2.2.1, (0 : Int)))) FU (v54.1, v54.2.1, v54.2.2.1, v54.2.2.2.1, v54.2.2.2.2.1, v54.2.2.2.2.2.1, v54.2.2.2.2.2.2.1, v54.2.2.2.2.2.2.2.2.1, (0 : Int))) (lp (fun nx69 (v69 : (List Entry) × (List Entry) × Int) => fk (decide (v69.2.2 < (2 : Int))) (ix v54.2.2.2.1 v69.2.2 fun x70 => fk (decide (v69.2.2 = (0 : Int))) (nx69 (x70.Log, v69.2.1, (wr (v69.2.2 + (1 : Int))))) (fk (decide (v69.2.2 = (1 : Int))) (nx69 (v69.1, x70.Log, (wr (v69.2.2 + (1 : Int))))) (none))) (some (([⟨v54.2.2.2.2.2.2.1, v54.2.2.2.2.2.2.2.1, v69.1⟩, ⟨v54.2.2.2.2.2.2.2.2.1, v54.2.2.2.2.2.2.2.2.2.1, v69.2.1⟩] : List WorldView), (0 : Int)))) FU ([], [], (0 : Int)))) FU (x2.1.Table.Frame, x2.1.Table.Windows, x2.1.Faces, x2.1.Parts, x2.1.Lines, x2.1.Now, [], [], [], [], (0 : Int))) (fk (decide ((x2.1.Parts.length : Int) = (3 : Int))) (lp (fun nx31 (v31 : Int × (List Window) × (List Face) × (List PartState) × (List PortLine) × Int × (List WorldSaw) × (List Int) × (List WorldSaw) × (List Int) × (List WorldSaw) × (List Int) × Int) => fk (decide (v31.2.2.2.2.2.2.2.2.2.2.2.2 < (a1.length : Int))) (ix a1 v31.2.2.2.2.2.2.2.2.2.2.2.2 fun x32 => lp (fun nx33 (v33 : Int × (List Window) × (List Face) × (List PartState) × (List PortLine) × Int × (List WorldSaw) × (List WorldSaw) × (List WorldSaw) × Int) => fk (decide (v33.2.2.2.2.2.2.2.2.2 < (x32.length : Int))) (ix x32 v33.2.2.2.2.2.2.2.2.2 fun x34 => bnd (kernel_Do (⟨⟨v33.1, v33.2.1⟩, v33.2.2.1, v33.2.2.2.1, v33.2.2.2.2.1, v33.2.2.2.2.2.1⟩) x34) fun x35 => jn (fun (w36 : (List WorldSaw) × (List WorldSaw) × (List WorldSaw)) => nx33 (x35.1.Table.Frame, x35.1.Table.Windows, x35.1.Faces, x35.1.Parts, x35.1.Lines, x35.1.Now, w36.1, w36.2.1, w36.2.2, (wr (v33.2.2.2.2.2.2.2.2.2 + (1 : Int))))) (fun k36 => jn (fun (w37 : Bool) => fk w37 (fk (decide (x34.Part = (0 : Int))) (ck (decide ((v33.2.2.2.2.2.2.1.length + ([⟨v31.2.2.2.2.2.2.2.2.2.2.2.2, x35.2.1, x35.2.2⟩] : List WorldSaw).length) * 24 ≤ 140737488355328)) (k36 (v33.2.2.2.2.2.2.1 ++ ([⟨v31.2.2.2.2.2.2.2.2.2.2.2.2, x35.2.1, x35.2.2⟩] : List WorldSaw), v33.2.2.2.2.2.2.2.1, v33.2.2.2.2.2.2.2.2.1))) (fk (decide (x34.Part = (1 : Int))) (ck (decide ((v33.2.2.2.2.2.2.2.1.length + ([⟨v31.2.2.2.2.2.2.2.2.2.2.2.2, x35.2.1, x35.2.2⟩] : List WorldSaw).length) * 24 ≤ 140737488355328)) (k36 (v33.2.2.2.2.2.2.1, v33.2.2.2.2.2.2.2.1 ++ ([⟨v31.2.2.2.2.2.2.2.2.2.2.2.2, x35.2.1, x35.2.2⟩] : List WorldSaw), v33.2.2.2.2.2.2.2.2.1))) (fk (decide (x34.Part = (2 : Int))) (ck (decide ((v33.2.2.2.2.2.2.2.2.1.length + ([⟨v31.2.2.2.2.2.2.2.2.2.2.2.2, x35.2.1, x35.2.2⟩] : List WorldSaw).length) * 24 ≤ 140737488355328)) (k36 (v33.2.2.2.2.2.2.1, v33.2.2.2.2.2.2.2.1, v33.2.2.2.2.2.2.2.2.1 ++ ([⟨v31.2.2.2.2.2.2.2.2.2.2.2.2, x35.2.1, x35.2.2⟩] : List WorldSaw)))) (none)))) (k36 (v33.2.2.2.2.2.2.1, v33.2.2.2.2.2.2.2.1, v33.2.2.2.2.2.2.2.2.1))) (fun k37 => fk (decide (x34.Part ≥ (0 : Int))) (k37 (decide (x34.Part < (3 : Int)))) (k37 false)))) (bnd (kernel_Tick (⟨⟨v33.1, v33.2.1⟩, v33.2.2.1, v33.2.2.2.1, v33.2.2.2.2.1, v33.2.2.2.2.2.1⟩)) fun x41 => lp (fun nx42 (v42 : (List Int) × (List Int) × (List Int) × Int) => fk (decide (v42.2.2.2 < (3 : Int))) (fk (decide (v42.2.2.2 = (0 : Int))) (ix x41.2.1 v42.2.2.2 fun x48 => ck (decide ((v42.1.length + ([x48] : List Int).length) * 8 ≤ 140737488355328)) (nx42 (v42.1 ++ ([x48] : List Int), v42.2.1, v42.2.2.1, (wr (v42.2.2.2 + (1 : Int)))))) (fk (decide (v42.2.2.2 = (1 : Int))) (ix x41.2.1 v42.2.2.2 fun x47 => ck (decide ((v42.2.1.length + ([x47] : List Int).length) * 8 ≤ 140737488355328)) (nx42 (v42.1, v42.2.1 ++ ([x47] : List Int), v42.2.2.1, (wr (v42.2.2.2 + (1 : Int)))))) (fk (decide (v42.2.2.2 = (2 : Int))) (ix x41.2.1 v42.2.2.2 fun x46 => ck (decide ((v42.2.2.1.length + ([x46] : List Int).length) * 8 ≤ 140737488355328)) (nx42 (v42.1, v42.2.1, v42.2.2.1 ++ ([x46] : List Int), (wr (v42.2.2.2 + (1 : Int)))))) (none)))) (nx31 (x41.1.Table.Frame, x41.1.Table.Windows, x41.1.Faces, x41.1.Parts, x41.1.Lines, x41.1.Now, v33.2.2.2.2.2.2.1, v42.1, v33.2.2.2.2.2.2.2.1, v42.2.1, v33.2.2.2.2.2.2.2.2.1, v42.2.2.1, (wr (v31.2.2.2.2.2.2.2.2.2.2.2.2 + (1 : Int)))))) FU (v31.2.2.2.2.2.2.2.1, v31.2.2.2.2.2.2.2.2.2.1, v31.2.2.2.2.2.2.2.2.2.2.2.1, (0 : Int)))) FU (v31.1, v31.2.1, v31.2.2.1, v31.2.2.2.1, v31.2.2.2.2.1, v31.2.2.2.2.2.1, v31.2.2.2.2.2.2.1, v31.2.2.2.2.2.2.2.2.1, v31.2.2.2.2.2.2.2.2.2.2.1, (0 : Int))) (lp (fun nx49 (v49 : (List Entry) × (List Entry) × (List Entry) × Int) => fk (decide (v49.2.2.2 < (3 : Int))) (ix v31.2.2.2.1 v49.2.2.2 fun x50 => fk (decide (v49.2.2.2 = (0 : Int))) (nx49 (x50.Log, v49.2.1, v49.2.2.1, (wr (v49.2.2.2 + (1 : Int))))) (fk (decide (v49.2.2.2 = (1 : Int))) (nx49 (v49.1, x50.Log, v49.2.2.1, (wr (v49.2.2.2 + (1 : Int))))) (fk (decide (v49.2.2.2 = (2 : Int))) (nx49 (v49.1, v49.2.1, x50.Log, (wr (v49.2.2.2 + (1 : Int))))) (none)))) (some (([⟨v31.2.2.2.2.2.2.1, v31.2.2.2.2.2.2.2.1, v49.1⟩, ⟨v31.2.2.2.2.2.2.2.2.1, v31.2.2.2.2.2.2.2.2.2.1, v49.2.1⟩, ⟨v31.2.2.2.2.2.2.2.2.2.2.1, v31.2.2.2.2.2.2.2.2.2.2.2.1, v49.2.2.1⟩] : List WorldView), (0 : Int)))) FU ([], [], [], (0 : Int)))) FU (x2.1.Table.Frame, x2.1.Table.Windows, x2.1.Faces, x2.1.Parts, x2.1.Lines, x2.1.Now, [], [], [], [], [], [], (0 : Int))) (fk (decide ((x2.1.Parts.length : Int) = (4 : Int))) (lp (fun nx4 (v4 : Int × (List Window) × (List Face) × (List PartState) × (List PortLine) × Int × (List WorldSaw) × (List Int) × (List WorldSaw) × (List Int) × (List WorldSaw) × (List Int) × (List WorldSaw) × (List Int) × Int) => fk (decide (v4.2.2.2.2.2.2.2.2.2.2.2.2.2.2 < (a1.length : Int))) (ix a1 v4.2.2.2.2.2.2.2.2.2.2.2.2.2.2 fun x5 => lp (fun nx6 (v6 : Int × (List Window) × (List Face) × (List PartState) × (List PortLine) × Int × (List WorldSaw) × (List WorldSaw) × (List WorldSaw) × (List WorldSaw) × Int) => fk (decide (v6.2.2.2.2.2.2.2.2.2.2 < (x5.length : Int))) (ix x5 v6.2.2.2.2.2.2.2.2.2.2 fun x7 => bnd (kernel_Do (⟨⟨v6.1, v6.2.1⟩, v6.2.2.1, v6.2.2.2.1, v6.2.2.2.2.1, v6.2.2.2.2.2.1⟩) x7) fun x8 => jn (fun (w9 : (List WorldSaw) × (List WorldSaw) × (List WorldSaw) × (List WorldSaw)) => nx6 (x8.1.Table.Frame, x8.1.Table.Windows, x8.1.Faces, x8.1.Parts, x8.1.Lines, x8.1.Now, w9.1, w9.2.1, w9.2.2.1, w9.2.2.2, (wr (v6.2.2.2.2.2.2.2.2.2.2 + (1 : Int))))) (fun k9 => jn (fun (w10 : Bool) => fk w10 (fk (decide (x7.Part = (0 : Int))) (ck (decide ((v6.2.2.2.2.2.2.1.length + ([⟨v4.2.2.2.2.2.2.2.2.2.2.2.2.2.2, x8.2.1, x8.2.2⟩] : List WorldSaw).length) * 24 ≤ 140737488355328)) (k9 (v6.2.2.2.2.2.2.1 ++ ([⟨v4.2.2.2.2.2.2.2.2.2.2.2.2.2.2, x8.2.1, x8.2.2⟩] : List WorldSaw), v6.2.2.2.2.2.2.2.1, v6.2.2.2.2.2.2.2.2.1, v6.2.2.2.2.2.2.2.2.2.1))) (fk (decide (x7.Part = (1 : Int))) (ck (decide ((v6.2.2.2.2.2.2.2.1.length + ([⟨v4.2.2.2.2.2.2.2.2.2.2.2.2.2.2, x8.2.1, x8.2.2⟩] : List WorldSaw).length) * 24 ≤ 140737488355328)) (k9 (v6.2.2.2.2.2.2.1, v6.2.2.2.2.2.2.2.1 ++ ([⟨v4.2.2.2.2.2.2.2.2.2.2.2.2.2.2, x8.2.1, x8.2.2⟩] : List WorldSaw), v6.2.2.2.2.2.2.2.2.1, v6.2.2.2.2.2.2.2.2.2.1))) (fk (decide (x7.Part = (2 : Int))) (ck (decide ((v6.2.2.2.2.2.2.2.2.1.length + ([⟨v4.2.2.2.2.2.2.2.2.2.2.2.2.2.2, x8.2.1, x8.2.2⟩] : List WorldSaw).length) * 24 ≤ 140737488355328)) (k9 (v6.2.2.2.2.2.2.1, v6.2.2.2.2.2.2.2.1, v6.2.2.2.2.2.2.2.2.1 ++ ([⟨v4.2.2.2.2.2.2.2.2.2.2.2.2.2.2, x8.2.1, x8.2.2⟩] : List WorldSaw), v6.2.2.2.2.2.2.2.2.2.1))) (fk (decide (x7.Part = (3 : Int))) (ck (decide ((v6.2.2.2.2.2.2.2.2.2.1.length + ([⟨v4.2.2.2.2.2.2.2.2.2.2.2.2.2.2, x8.2.1, x8.2.2⟩] : List WorldSaw).length) * 24 ≤ 140737488355328)) (k9 (v6.2.2.2.2.2.2.1, v6.2.2.2.2.2.2.2.1, v6.2.2.2.2.2.2.2.2.1, v6.2.2.2.2.2.2.2.2.2.1 ++ ([⟨v4.2.2.2.2.2.2.2.2.2.2.2.2.2.2, x8.2.1, x8.2.2⟩] : List WorldSaw)))) (none))))) (k9 (v6.2.2.2.2.2.2.1, v6.2.2.2.2.2.2.2.1, v6.2.2.2.2.2.2.2.2.1, v6.2.2.2.2.2.2.2.2.2.1))) (fun k10 => fk (decide (x7.Part ≥ (0 : Int))) (k10 (decide (x7.Part < (4 : Int)))) (k10 false)))) (bnd (kernel_Tick (⟨⟨v6.1, v6.2.1⟩, v6.2.2.1, v6.2.2.2.1, v6.2.2.2.2.1, v6.2.2.2.2.2.1⟩)) fun x15 => lp (fun nx16 (v16 : (List Int) × (List Int) × (List Int) × (List Int) × Int) => fk (decide (v16.2.2.2.2 < (4 : Int))) (fk (decide (v16.2.2.2.2 = (0 : Int))) (ix x15.2.1 v16.2.2.2.2 fun x24 => ck (decide ((v16.1.length + ([x24] : List Int).length) * 8 ≤ 140737488355328)) (nx16 (v16.1 ++ ([x24] : List Int), v16.2.1, v16.2.2.1, v16.2.2.2.1, (wr (v16.2.2.2.2 + (1 : Int)))))) (fk (decide (v16.2.2.2.2 = (1 : Int))) (ix x15.2.1 v16.2.2.2.2 fun x23 => ck (decide ((v16.2.1.length + ([x23] : List Int).length) * 8 ≤ 140737488355328)) (nx16 (v16.1, v16.2.1 ++ ([x23] : List Int), v16.2.2.1, v16.2.2.2.1, (wr (v16.2.2.2.2 + (1 : Int)))))) (fk (decide (v16.2.2.2.2 = (2 : Int))) (ix x15.2.1 v16.2.2.2.2 fun x22 => ck (decide ((v16.2.2.1.length + ([x22] : List Int).length) * 8 ≤ 140737488355328)) (nx16 (v16.1, v16.2.1, v16.2.2.1 ++ ([x22] : List Int), v16.2.2.2.1, (wr (v16.2.2.2.2 + (1 : Int)))))) (fk (decide (v16.2.2.2.2 = (3 : Int))) (ix x15.2.1 v16.2.2.2.2 fun x21 => ck (decide ((v16.2.2.2.1.length + ([x21] : List Int).length) * 8 ≤ 140737488355328)) (nx16 (v16.1, v16.2.1, v16.2.2.1, v16.2.2.2.1 ++ ([x21] : List Int), (wr (v16.2.2.2.2 + (1 : Int)))))) (none))))) (nx4 (x15.1.Table.Frame, x15.1.Table.Windows, x15.1.Faces, x15.1.Parts, x15.1.Lines, x15.1.Now, v6.2.2.2.2.2.2.1, v16.1, v6.2.2.2.2.2.2.2.1, v16.2.1, v6.2.2.2.2.2.2.2.2.1, v16.2.2.1, v6.2.2.2.2.2.2.2.2.2.1, v16.2.2.2.1, (wr (v4.2.2.2.2.2.2.2.2.2.2.2.2.2.2 + (1 : Int)))))) FU (v4.2.2.2.2.2.2.2.1, v4.2.2.2.2.2.2.2.2.2.1, v4.2.2.2.2.2.2.2.2.2.2.2.1, v4.2.2.2.2.2.2.2.2.2.2.2.2.2.1, (0 : Int)))) FU (v4.1, v4.2.1, v4.2.2.1, v4.2.2.2.1, v4.2.2.2.2.1, v4.2.2.2.2.2.1, v4.2.2.2.2.2.2.1, v4.2.2.2.2.2.2.2.2.1, v4.2.2.2.2.2.2.2.2.2.2.1, v4.2.2.2.2.2.2.2.2.2.2.2.2.1, (0 : Int))) (lp (fun nx25 (v25 : (List Entry) × (List Entry) × (List Entry) × (List Entry) × Int) => fk (decide (v25.2.2.2.2 < (4 : Int))) (ix v4.2.2.2.1 v25.2.2.2.2 fun x26 => fk (decide (v25.2.2.2.2 = (0 : Int))) (nx25 (x26.Log, v25.2.1, v25.2.2.1, v25.2.2.2.1, (wr (v25.2.2.2.2 + (1 : Int))))) (fk (decide (v25.2.2.2.2 = (1 : Int))) (nx25 (v25.1, x26.Log, v25.2.2.1, v25.2.2.2.1, (wr (v25.2.2.2.2 + (1 : Int))))) (fk (decide (v25.2.2.2.2 = (2 : Int))) (nx25 (v25.1, v25.2.1, x26.Log, v25.2.2.2.1, (wr (v25.2.2.2.2 + (1 : Int))))) (fk (decide (v25.2.2.2.2 = (3 : Int))) (nx25 (v25.1, v25.2.1, v25.2.2.1, x26.Log, (wr (v25.2.2.2.2 + (1 : Int))))) (none))))) (some (([⟨v4.2.2.2.2.2.2.1, v4.2.2.2.2.2.2.2.1, v25.1⟩, ⟨v4.2.2.2.2.2.2.2.2.1, v4.2.2.2.2.2.2.2.2.2.1, v25.2.1⟩, ⟨v4.2.2.2.2.2.2.2.2.2.2.1, v4.2.2.2.2.2.2.2.2.2.2.2.1, v25.2.2.1⟩, ⟨v4.2.2.2.2.2.2.2.2.2.2.2.2.1, v4.2.2.2.2.2.2.2.2.2.2.2.2.2.1, v25.2.2.2.1⟩] : List WorldView), (0 : Int)))) FU ([], [], [], [], (0 : Int)))) FU (x2.1.Table.Frame, x2.1.Table.Windows, x2.1.Faces, x2.1.Parts, x2.1.Lines, x2.1.Now, [], [], [], [], [], [], [], [], (0 : Int))) (none))))))))
theorem world_Play_w (a0 : List Int) (a1 : List (List KernelCmd)) (r : (List WorldView) × Int) (h : world_Play a0 a1 = some r) : Go.VC.Spec Tryz.prog 16 [.d (.sl (a0.map (eI .u8))), .d (.sl (a1.map (eL KernelCmd.enc)))] (fun y => y = E_ListWorldView_Int r) := by
  refine Go.VC.Spec.of_xc (args := [.d (.sl (a0.map (eI .u8))), .d (.sl (a1.map (eL KernelCmd.enc)))]) (fn := Tryz.f16) tab ⟨[(0, [0, 1]), (1, [1, 6, 8]), (2, [1, 6, 8, 30]), (3, [4, 5]), (4, [1, 8, 9]), (5, [1, 8, 9, 38]), (6, [4, 5]), (7, [1, 9, 42]), (8, [4, 5]), (9, [1, 9, 10]), (10, [9, 10, 47, 48, 49]), (11, [9, 10, 47, 48, 49, 50]), (12, [9, 10, 11, 12, 47, 48, 49]), (13, [9, 10, 11, 47, 48, 49, 54, 55, 56]), (14, [9, 10, 11, 47, 48, 49, 54, 55, 56, 57]), (15, [9, 10, 11, 14, 47, 48, 49, 54, 55, 56]), (16, [9, 10, 11, 14, 15, 16, 17, 47, 48, 49, 54, 55, 56]), (17, [9, 10, 11, 14, 15, 16, 17, 47, 48, 49, 54, 55, 56, 76]), (18, [9, 10, 11, 15, 47, 48, 49, 54, 55, 56]), (19, [9, 10, 11, 47, 48, 49, 54, 55, 56]), (20, [9, 10, 11, 47, 48, 49, 54, 55, 56]), (21, [9, 10, 18, 19, 47, 48, 49]), (22, [9, 10, 18, 19, 47, 48, 49, 103, 104]), (23, [9, 10, 18, 19, 47, 48, 49, 103, 104, 105]), (24, [9, 10, 18, 19, 21, 47, 48, 49, 103, 104]), (25, [9, 10, 18, 19, 47, 48, 49, 103, 104]), (26, [9, 10, 18, 19, 47, 48, 49, 103, 104]), (27, [9, 10, 47, 48, 49]), (28, [9, 10, 47, 48, 49]), (29, [9, 10, 126, 127]), (30, [9, 10, 126, 127, 128]), (31, [9, 10, 22, 126, 127]), (32, [9, 10, 126, 127]), (33, [9, 10, 126, 127]), (34, [4, 5])], [], [100076, 19], []⟩ 142 [.tmp 4, .tmp 5] rfl rfl rfl rfl rfl rfl ?_
  conv => whnf
  refine ccS (E := E_Config_Int_Int) h (image_Decode_w a0) rfl rfl (fun x1 h => ?_)
  conv => whnf
  refine fkS h (fun h => ?_) (fun h => ?_)
  · conv => whnf
    exact rt (E := E_ListWorldView_Int) h rfl
  conv => whnf
  refine ccS (E := E_KernelState_Int) h (kernel_Boot_w x1.1) rfl rfl (fun x2 h => ?_)
  conv => whnf
  refine fkS h (fun h => ?_) (fun h => ?_)
  · conv => whnf
    exact rt (E := E_ListWorldView_Int) h rfl
  conv => whnf
  refine caS (E := E_Bool) h (world_may_w a1) rfl (fun _ => rfl) (fun x3 h => ?_)
  conv => whnf
  refine fkS h (fun h => ?_) (fun h => ?_)
  · conv => whnf
    exact rt (E := E_ListWorldView_Int) h rfl
  conv => whnf
  refine lenS x2.1.Parts PartState.enc rfl ?_
  conv => whnf
  refine mkF h (fun hb h => ?_) (fun h => ?_)
  · conv => whnf
    refine mkB0 tab rfl rfl rfl rfl (of_decide_eq_true hb) (of_decide_eq_true hb) rfl rfl rfl ?_
    conv => whnf
    refine lenS a1 (eL KernelCmd.enc) rfl ?_
    conv => whnf
    refine lpS (fun v88 => ⟨[(9, .l (.ptr 10 0)), (10, .l (.d (.sl (([] : List WorldView).map WorldView.enc)))), (47, .l (.d (.sl (a1.map (eL KernelCmd.enc))))), (48, .l (.d (.int .i64 (a1.length : Int)))), (49, .l (.d (.int .i64 v88.2.2.2.2.2.2)))], 142, [], [(10, [.d (.int .i64 v88.1), .d (.sl (v88.2.1.map Window.enc)), .d (.sl (v88.2.2.1.map Face.enc)), .d (.sl (v88.2.2.2.1.map PartState.enc)), .d (.sl (v88.2.2.2.2.1.map PortLine.enc)), .d (.int .i64 v88.2.2.2.2.2.1)])], []⟩) h (Weak.refl _) (fun _ nx88 hn88 v88 h => ?_)
    conv => whnf
    refine fkS h (fun h => ?_) (fun h => ?_)
    · conv => whnf
      refine ixS (enc := (eL KernelCmd.enc)) h rfl (fun _ => rfl) (fun x89 h => ?_)
      conv => whnf
      refine lenS x89 KernelCmd.enc rfl ?_
      conv => whnf
      refine lpS (fun v90 => ⟨[(9, .l (.ptr 10 0)), (10, .l (.d (.sl (([] : List WorldView).map WorldView.enc)))), (11, .l (.d (.int .i64 v88.2.2.2.2.2.2))), (47, .l (.d (.sl (a1.map (eL KernelCmd.enc))))), (48, .l (.d (.int .i64 (a1.length : Int)))), (49, .l (.d (.int .i64 v88.2.2.2.2.2.2))), (54, .l (.d (.sl (x89.map KernelCmd.enc)))), (55, .l (.d (.int .i64 (x89.length : Int)))), (56, .l (.d (.int .i64 v90.2.2.2.2.2.2)))], 142, [], [(10, [.d (.int .i64 v90.1), .d (.sl (v90.2.1.map Window.enc)), .d (.sl (v90.2.2.1.map Face.enc)), .d (.sl (v90.2.2.2.1.map PartState.enc)), .d (.sl (v90.2.2.2.2.1.map PortLine.enc)), .d (.int .i64 v90.2.2.2.2.2.1)])], []⟩) h (Weak.refl _) (fun _ nx90 hn90 v90 h => ?_)
      conv => whnf
      refine fkS h (fun h => ?_) (fun h => ?_)
      · conv => whnf
        refine ixS (enc := KernelCmd.enc) h rfl (fun _ => rfl) (fun x91 h => ?_)
        conv => whnf
        refine ccS (E := E_KernelState_Int_Int) h (kernel_Do_w (⟨⟨v90.1, v90.2.1⟩, v90.2.2.1, v90.2.2.2.1, v90.2.2.2.2.1, v90.2.2.2.2.2.1⟩) x91) rfl rfl (fun x92 h => ?_)
        conv => whnf
        refine jnS (fun w93 => ⟨[(9, .l (.ptr 10 0)), (10, .l (.d (.sl (([] : List WorldView).map WorldView.enc)))), (11, .l (.d (.int .i64 v88.2.2.2.2.2.2))), (15, .l (.ptr 16 0)), (47, .l (.d (.sl (a1.map (eL KernelCmd.enc))))), (48, .l (.d (.int .i64 (a1.length : Int)))), (49, .l (.d (.int .i64 v88.2.2.2.2.2.2))), (54, .l (.d (.sl (x89.map KernelCmd.enc)))), (55, .l (.d (.int .i64 (x89.length : Int)))), (56, .l (.d (.int .i64 v90.2.2.2.2.2.2)))], 142, [], [(10, [.d (.int .i64 v90.1), .d (.sl (v90.2.1.map Window.enc)), .d (.sl (v90.2.2.1.map Face.enc)), .d (.sl (v90.2.2.2.1.map PartState.enc)), .d (.sl (v90.2.2.2.2.1.map PortLine.enc)), .d (.int .i64 v90.2.2.2.2.2.1)]), (16, [.d (.int .i64 x92.1.Table.Frame), .d (.sl (x92.1.Table.Windows.map Window.enc)), .d (.sl (x92.1.Faces.map Face.enc)), .d (.sl (x92.1.Parts.map PartState.enc)), .d (.sl (x92.1.Lines.map PortLine.enc)), .d (.int .i64 x92.1.Now)])], []⟩) h (fun k93 hk93 h => ?_) (fun w93 h => ?_)
        · conv => whnf
          refine jnS (fun w94 => ⟨[(9, .l (.ptr 10 0)), (10, .l (.d (.sl (([] : List WorldView).map WorldView.enc)))), (11, .l (.d (.int .i64 v88.2.2.2.2.2.2))), (14, .l (.ptr 15 0)), (15, .l (.ptr 16 0)), (16, .l (.d (.int .i64 x92.2.1))), (17, .l (.d (.int .i64 x92.2.2))), (47, .l (.d (.sl (a1.map (eL KernelCmd.enc))))), (48, .l (.d (.int .i64 (a1.length : Int)))), (49, .l (.d (.int .i64 v88.2.2.2.2.2.2))), (54, .l (.d (.sl (x89.map KernelCmd.enc)))), (55, .l (.d (.int .i64 (x89.length : Int)))), (56, .l (.d (.int .i64 v90.2.2.2.2.2.2))), (76, .l (.d (.bool w94)))], 142, [], [(10, [.d (.int .i64 v90.1), .d (.sl (v90.2.1.map Window.enc)), .d (.sl (v90.2.2.1.map Face.enc)), .d (.sl (v90.2.2.2.1.map PartState.enc)), .d (.sl (v90.2.2.2.2.1.map PortLine.enc)), .d (.int .i64 v90.2.2.2.2.2.1)]), (15, [.d (.int .i64 x91.Part), .d (.int .i64 x91.Kind), .d (.int .i64 x91.I), .d (.int .i64 x91.V), .d (.int .i64 x91.T.C), .d (.int .i64 x91.T.D), .d (.int .i64 x91.T.T), .d (.sl (x91.T.Secs.map Sec.enc))]), (16, [.d (.int .i64 x92.1.Table.Frame), .d (.sl (x92.1.Table.Windows.map Window.enc)), .d (.sl (x92.1.Faces.map Face.enc)), .d (.sl (x92.1.Parts.map PartState.enc)), .d (.sl (x92.1.Lines.map PortLine.enc)), .d (.int .i64 x92.1.Now)])], []⟩) h (fun k94 hk94 h => ?_) (fun w94 h => ?_)
          · conv => whnf
            refine fkS h (fun h => ?_) (fun h => ?_)
            · conv => whnf
              refine lenS ([] : List WorldView) WorldView.enc rfl ?_
              conv => whnf
              exact jeS hk94 h (Weak.refl _)
            conv => whnf
            exact jeS hk94 h (Weak.refl _)
          conv => whnf
          refine fkS h (fun h => ?_) (fun h => ?_)
          · conv => whnf
            refine ⟨15, ?_⟩
            conv => whnf
            cases h
          conv => whnf
          refine jeX hk93 h ?_
          conv => whnf
          refine WkF.step (Weak.keepS _ [9, 10, 11, 15, 47, 48, 49, 54, 55, 56]) ?_
          conv => whnf
          exact WkF.refl _
        conv => whnf
        exact leS hn90 h (Weak.refl _)
      conv => whnf
      refine ccS (E := E_KernelState_ListInt_Int) h (kernel_Tick_w (⟨⟨v90.1, v90.2.1⟩, v90.2.2.1, v90.2.2.2.1, v90.2.2.2.2.1, v90.2.2.2.2.2.1⟩)) rfl rfl (fun x95 h => ?_)
      conv => whnf
      refine lenS ([] : List WorldView) WorldView.enc rfl ?_
      conv => whnf
      refine lpS (fun v96 => ⟨[(9, .l (.ptr 10 0)), (10, .l (.d (.sl (([] : List WorldView).map WorldView.enc)))), (18, .l (.ptr 19 0)), (19, .l (.d (.sl (x95.2.1.map (eI .i64))))), (47, .l (.d (.sl (a1.map (eL KernelCmd.enc))))), (48, .l (.d (.int .i64 (a1.length : Int)))), (49, .l (.d (.int .i64 v88.2.2.2.2.2.2))), (103, .l (.d (.int .i64 (0 : Int)))), (104, .l (.d (.int .i64 (0 : Int))))], 142, [], [(10, [.d (.int .i64 v90.1), .d (.sl (v90.2.1.map Window.enc)), .d (.sl (v90.2.2.1.map Face.enc)), .d (.sl (v90.2.2.2.1.map PartState.enc)), .d (.sl (v90.2.2.2.2.1.map PortLine.enc)), .d (.int .i64 v90.2.2.2.2.2.1)]), (19, [.d (.int .i64 x95.1.Table.Frame), .d (.sl (x95.1.Table.Windows.map Window.enc)), .d (.sl (x95.1.Faces.map Face.enc)), .d (.sl (x95.1.Parts.map PartState.enc)), .d (.sl (x95.1.Lines.map PortLine.enc)), .d (.int .i64 x95.1.Now)])], []⟩) h (Weak.refl _) (fun _ nx96 hn96 v96 h => ?_)
      conv => whnf
      exact leS hn88 h (Weak.refl _)
    conv => whnf
    refine lenS ([] : List WorldView) WorldView.enc rfl ?_
    conv => whnf
    refine lpS (fun v97 => ⟨[(9, .l (.ptr 10 0)), (10, .l (.d (.sl (([] : List WorldView).map WorldView.enc)))), (126, .l (.d (.int .i64 (0 : Int)))), (127, .l (.d (.int .i64 (0 : Int))))], 142, [], [(10, [.d (.int .i64 v88.1), .d (.sl (v88.2.1.map Window.enc)), .d (.sl (v88.2.2.1.map Face.enc)), .d (.sl (v88.2.2.2.1.map PartState.enc)), .d (.sl (v88.2.2.2.2.1.map PortLine.enc)), .d (.int .i64 v88.2.2.2.2.2.1)])], []⟩) h (Weak.refl _) (fun _ nx97 hn97 v97 h => ?_)
    conv => whnf
    exact rt (E := E_ListWorldView_Int) h rfl
  conv => whnf
  refine mkF h (fun hb h => ?_) (fun h => ?_)
  · conv => whnf
    refine mkB tab 1 rfl rfl rfl rfl (of_decide_eq_true hb) (of_decide_eq_true hb) rfl rfl rfl (Nat.le_of_ble_eq_true rfl) (Nat.le_of_ble_eq_true rfl) (Nat.le_of_ble_eq_true rfl) rfl ?_
    conv => whnf
    refine lenS a1 (eL KernelCmd.enc) rfl ?_
    conv => whnf
    refine lpS (fun v73 => ⟨[(9, .l (.ptr 10 0)), (10, .l (.bsl 47 1 3)), (47, .l (.d (.sl (a1.map (eL KernelCmd.enc))))), (48, .l (.d (.int .i64 (a1.length : Int)))), (49, .l (.d (.int .i64 v73.2.2.2.2.2.2.2.2)))], 142, [], [(10, [.d (.int .i64 v73.1), .d (.sl (v73.2.1.map Window.enc)), .d (.sl (v73.2.2.1.map Face.enc)), .d (.sl (v73.2.2.2.1.map PartState.enc)), .d (.sl (v73.2.2.2.2.1.map PortLine.enc)), .d (.int .i64 v73.2.2.2.2.2.1)]), (47, [.own 54700, .own 54701, .nil])], [(54700, 97, 3, v73.2.2.2.2.2.2.1.map WorldSaw.enc), (54701, 3, 1, v73.2.2.2.2.2.2.2.1.map (eI .i64))]⟩) h (Weak.trans (Weak.nilBO _ 47 0 54700 97 3 _ rfl rfl) (Weak.trans (Weak.nilBO _ 47 1 54701 3 1 _ rfl rfl) (Weak.refl _))) (fun _ nx73 hn73 v73 h => ?_)
    conv => whnf
    refine fkS h (fun h => ?_) (fun h => ?_)
    · conv => whnf
      refine ixS (enc := (eL KernelCmd.enc)) h rfl (fun _ => rfl) (fun x74 h => ?_)
      conv => whnf
      refine lenS x74 KernelCmd.enc rfl ?_
      conv => whnf
      refine lpS (fun v75 => ⟨[(9, .l (.ptr 10 0)), (10, .l (.bsl 47 1 3)), (11, .l (.d (.int .i64 v73.2.2.2.2.2.2.2.2))), (47, .l (.d (.sl (a1.map (eL KernelCmd.enc))))), (48, .l (.d (.int .i64 (a1.length : Int)))), (49, .l (.d (.int .i64 v73.2.2.2.2.2.2.2.2))), (54, .l (.d (.sl (x74.map KernelCmd.enc)))), (55, .l (.d (.int .i64 (x74.length : Int)))), (56, .l (.d (.int .i64 v75.2.2.2.2.2.2.2)))], 142, [], [(10, [.d (.int .i64 v75.1), .d (.sl (v75.2.1.map Window.enc)), .d (.sl (v75.2.2.1.map Face.enc)), .d (.sl (v75.2.2.2.1.map PartState.enc)), .d (.sl (v75.2.2.2.2.1.map PortLine.enc)), .d (.int .i64 v75.2.2.2.2.2.1)]), (47, [.own 54700, .own 54701, .nil])], [(54700, 97, 3, v75.2.2.2.2.2.2.1.map WorldSaw.enc), (54701, 3, 1, v73.2.2.2.2.2.2.2.1.map (eI .i64))]⟩) h (Weak.refl _) (fun _ nx75 hn75 v75 h => ?_)
      conv => whnf
      refine fkS h (fun h => ?_) (fun h => ?_)
      · conv => whnf
        refine ixS (enc := KernelCmd.enc) h rfl (fun _ => rfl) (fun x76 h => ?_)
        conv => whnf
        refine ccS (E := E_KernelState_Int_Int) h (kernel_Do_w (⟨⟨v75.1, v75.2.1⟩, v75.2.2.1, v75.2.2.2.1, v75.2.2.2.2.1, v75.2.2.2.2.2.1⟩) x76) rfl rfl (fun x77 h => ?_)
        conv => whnf
        refine jnS (fun w78 => ⟨[(9, .l (.ptr 10 0)), (10, .l (.bsl 47 1 3)), (11, .l (.d (.int .i64 v73.2.2.2.2.2.2.2.2))), (15, .l (.ptr 16 0)), (47, .l (.d (.sl (a1.map (eL KernelCmd.enc))))), (48, .l (.d (.int .i64 (a1.length : Int)))), (49, .l (.d (.int .i64 v73.2.2.2.2.2.2.2.2))), (54, .l (.d (.sl (x74.map KernelCmd.enc)))), (55, .l (.d (.int .i64 (x74.length : Int)))), (56, .l (.d (.int .i64 v75.2.2.2.2.2.2.2)))], 142, [], [(10, [.d (.int .i64 v75.1), .d (.sl (v75.2.1.map Window.enc)), .d (.sl (v75.2.2.1.map Face.enc)), .d (.sl (v75.2.2.2.1.map PartState.enc)), .d (.sl (v75.2.2.2.2.1.map PortLine.enc)), .d (.int .i64 v75.2.2.2.2.2.1)]), (16, [.d (.int .i64 x77.1.Table.Frame), .d (.sl (x77.1.Table.Windows.map Window.enc)), .d (.sl (x77.1.Faces.map Face.enc)), .d (.sl (x77.1.Parts.map PartState.enc)), .d (.sl (x77.1.Lines.map PortLine.enc)), .d (.int .i64 x77.1.Now)]), (47, [.own 54700, .own 54701, .nil])], [(54700, 97, 3, w78.map WorldSaw.enc), (54701, 3, 1, v73.2.2.2.2.2.2.2.1.map (eI .i64))]⟩) h (fun k78 hk78 h => ?_) (fun w78 h => ?_)
        · conv => whnf
          refine jnS (fun w79 => ⟨[(9, .l (.ptr 10 0)), (10, .l (.bsl 47 1 3)), (11, .l (.d (.int .i64 v73.2.2.2.2.2.2.2.2))), (14, .l (.ptr 15 0)), (15, .l (.ptr 16 0)), (16, .l (.d (.int .i64 x77.2.1))), (17, .l (.d (.int .i64 x77.2.2))), (47, .l (.d (.sl (a1.map (eL KernelCmd.enc))))), (48, .l (.d (.int .i64 (a1.length : Int)))), (49, .l (.d (.int .i64 v73.2.2.2.2.2.2.2.2))), (54, .l (.d (.sl (x74.map KernelCmd.enc)))), (55, .l (.d (.int .i64 (x74.length : Int)))), (56, .l (.d (.int .i64 v75.2.2.2.2.2.2.2))), (76, .l (.d (.bool w79)))], 142, [], [(10, [.d (.int .i64 v75.1), .d (.sl (v75.2.1.map Window.enc)), .d (.sl (v75.2.2.1.map Face.enc)), .d (.sl (v75.2.2.2.1.map PartState.enc)), .d (.sl (v75.2.2.2.2.1.map PortLine.enc)), .d (.int .i64 v75.2.2.2.2.2.1)]), (15, [.d (.int .i64 x76.Part), .d (.int .i64 x76.Kind), .d (.int .i64 x76.I), .d (.int .i64 x76.V), .d (.int .i64 x76.T.C), .d (.int .i64 x76.T.D), .d (.int .i64 x76.T.T), .d (.sl (x76.T.Secs.map Sec.enc))]), (16, [.d (.int .i64 x77.1.Table.Frame), .d (.sl (x77.1.Table.Windows.map Window.enc)), .d (.sl (x77.1.Faces.map Face.enc)), .d (.sl (x77.1.Parts.map PartState.enc)), .d (.sl (x77.1.Lines.map PortLine.enc)), .d (.int .i64 x77.1.Now)]), (47, [.own 54700, .own 54701, .nil])], [(54700, 97, 3, v75.2.2.2.2.2.2.1.map WorldSaw.enc), (54701, 3, 1, v73.2.2.2.2.2.2.2.1.map (eI .i64))]⟩) h (fun k79 hk79 h => ?_) (fun w79 h => ?_)
          · conv => whnf
            refine fkS h (fun h => ?_) (fun h => ?_)
            · conv => whnf
              refine lenB tab rfl rfl rfl rfl rfl ?_
              conv => whnf
              exact jeS hk79 h (Weak.refl _)
            conv => whnf
            exact jeS hk79 h (Weak.refl _)
          conv => whnf
          refine fkS h (fun h => ?_) (fun h => ?_)
          · conv => whnf
            refine ⟨15, ?_⟩
            conv => whnf
            refine fkN h (fun q80 h => ?_) (fun q80 h => ?_)
            · conv => whnf
              refine liS ([⟨v73.2.2.2.2.2.2.2.2, x77.2.1, x77.2.2⟩] : List WorldSaw) WorldSaw.enc rfl rfl ?_
              conv => whnf
              refine apS (enc := WorldSaw.enc) (l1 := v75.2.2.2.2.2.2.1) (l2 := ([⟨v73.2.2.2.2.2.2.2.2, x77.2.1, x77.2.2⟩] : List WorldSaw)) h rfl rfl (fun _ => rfl) (fun h => ?_)
              conv => whnf
              refine drS (by kernel_rfl) ?_
              conv => whnf
              refine fork_t q80 ?_
              conv => whnf
              refine jeX hk78 h ?_
              conv => whnf
              refine WkF.step (Weak.rekey _ 92 54700 rfl) ?_
              conv => whnf
              exact WkF.refl _
            conv => whnf
            cases h
          conv => whnf
          refine jeX hk78 h ?_
          conv => whnf
          refine WkF.step (Weak.keepS _ [9, 10, 11, 15, 47, 48, 49, 54, 55, 56]) ?_
          conv => whnf
          exact WkF.refl _
        conv => whnf
        exact leS hn75 h (Weak.refl _)
      conv => whnf
      refine ccS (E := E_KernelState_ListInt_Int) h (kernel_Tick_w (⟨⟨v75.1, v75.2.1⟩, v75.2.2.1, v75.2.2.2.1, v75.2.2.2.2.1, v75.2.2.2.2.2.1⟩)) rfl rfl (fun x81 h => ?_)
      conv => whnf
      refine lenB tab rfl rfl rfl rfl rfl ?_
      conv => whnf
      refine lpS (fun v82 => ⟨[(9, .l (.ptr 10 0)), (10, .l (.bsl 47 1 3)), (18, .l (.ptr 19 0)), (19, .l (.d (.sl (x81.2.1.map (eI .i64))))), (47, .l (.d (.sl (a1.map (eL KernelCmd.enc))))), (48, .l (.d (.int .i64 (a1.length : Int)))), (49, .l (.d (.int .i64 v73.2.2.2.2.2.2.2.2))), (103, .l (.d (.int .i64 (1 : Int)))), (104, .l (.d (.int .i64 v82.2)))], 142, [], [(10, [.d (.int .i64 v75.1), .d (.sl (v75.2.1.map Window.enc)), .d (.sl (v75.2.2.1.map Face.enc)), .d (.sl (v75.2.2.2.1.map PartState.enc)), .d (.sl (v75.2.2.2.2.1.map PortLine.enc)), .d (.int .i64 v75.2.2.2.2.2.1)]), (19, [.d (.int .i64 x81.1.Table.Frame), .d (.sl (x81.1.Table.Windows.map Window.enc)), .d (.sl (x81.1.Faces.map Face.enc)), .d (.sl (x81.1.Parts.map PartState.enc)), .d (.sl (x81.1.Lines.map PortLine.enc)), .d (.int .i64 x81.1.Now)]), (47, [.own 54700, .own 54701, .nil])], [(54700, 97, 3, v75.2.2.2.2.2.2.1.map WorldSaw.enc), (54701, 3, 1, v82.1.map (eI .i64))]⟩) h (Weak.refl _) (fun _ nx82 hn82 v82 h => ?_)
      conv => whnf
      refine fkS h (fun h => ?_) (fun h => ?_)
      · conv => whnf
        refine ⟨13, ?_⟩
        conv => whnf
        refine fkN h (fun q83 h => ?_) (fun q83 h => ?_)
        · conv => whnf
          refine ixS (enc := (eI .i64)) h rfl (fun _ => rfl) (fun x84 h => ?_)
          conv => whnf
          refine liS ([x84] : List Int) (eI .i64) rfl rfl ?_
          conv => whnf
          refine apS (enc := (eI .i64)) (l1 := v82.1) (l2 := ([x84] : List Int)) h rfl rfl (fun _ => rfl) (fun h => ?_)
          conv => whnf
          refine drS (by kernel_rfl) ?_
          conv => whnf
          refine fork_t q83 ?_
          conv => whnf
          refine leX hn82 h ?_
          conv => whnf
          refine WkF.step (Weak.rekey _ 120 54701 rfl) ?_
          conv => whnf
          exact WkF.refl _
        conv => whnf
        cases h
      conv => whnf
      exact leS hn73 h (Weak.refl _)
    conv => whnf
    refine lenB tab rfl rfl rfl rfl rfl ?_
    conv => whnf
    refine lpS (fun v85 => ⟨[(9, .l (.ptr 10 0)), (10, .l (.bsl 47 1 3)), (126, .l (.d (.int .i64 (1 : Int)))), (127, .l (.d (.int .i64 v85.2)))], 142, [], [(10, [.d (.int .i64 v73.1), .d (.sl (v73.2.1.map Window.enc)), .d (.sl (v73.2.2.1.map Face.enc)), .d (.sl (v73.2.2.2.1.map PartState.enc)), .d (.sl (v73.2.2.2.2.1.map PortLine.enc)), .d (.int .i64 v73.2.2.2.2.2.1)]), (47, [.own 54700, .own 54701, .d (.sl (v85.1.map Entry.enc))])], [(54700, 97, 3, v73.2.2.2.2.2.2.1.map WorldSaw.enc), (54701, 3, 1, v73.2.2.2.2.2.2.2.1.map (eI .i64))]⟩) h (Weak.trans (Weak.nilBD _ 47 2 _ rfl rfl) (Weak.refl _)) (fun _ nx85 hn85 v85 h => ?_)
    conv => whnf
    refine fkS h (fun h => ?_) (fun h => ?_)
    · conv => whnf
      refine ixS (enc := PartState.enc) h rfl (fun _ => rfl) (fun x86 h => ?_)
      conv => whnf
      refine fkN h (fun q87 h => ?_) (fun q87 h => ?_)
      · conv => whnf
        exact leS hn85 h (Weak.refl _)
      conv => whnf
      cases h
    conv => whnf
    exact rt (E := E_ListWorldView_Int) h rfl
  conv => whnf
  refine mkF h (fun hb h => ?_) (fun h => ?_)
  · conv => whnf
    refine mkB tab 2 rfl rfl rfl rfl (of_decide_eq_true hb) (of_decide_eq_true hb) rfl rfl rfl (Nat.le_of_ble_eq_true rfl) (Nat.le_of_ble_eq_true rfl) (Nat.le_of_ble_eq_true rfl) rfl ?_
    conv => whnf
    refine lenS a1 (eL KernelCmd.enc) rfl ?_
    conv => whnf
    refine lpX (fun v54 => ⟨[(9, .l (.ptr 10 0)), (10, .l (.bsl 47 2 3)), (47, .l (.d (.sl (a1.map (eL KernelCmd.enc))))), (48, .l (.d (.int .i64 (a1.length : Int)))), (49, .l (.d (.int .i64 v54.2.2.2.2.2.2.2.2.2.2)))], 142, [], [(10, [.d (.int .i64 v54.1), .d (.sl (v54.2.1.map Window.enc)), .d (.sl (v54.2.2.1.map Face.enc)), .d (.sl (v54.2.2.2.1.map PartState.enc)), .d (.sl (v54.2.2.2.2.1.map PortLine.enc)), .d (.int .i64 v54.2.2.2.2.2.1)]), (47, [.own 54700, .own 54701, .nil, .own 54703, .own 54704, .nil])], [(54700, 97, 3, v54.2.2.2.2.2.2.1.map WorldSaw.enc), (54701, 3, 1, v54.2.2.2.2.2.2.2.1.map (eI .i64)), (54703, 97, 3, v54.2.2.2.2.2.2.2.2.1.map WorldSaw.enc), (54704, 3, 1, v54.2.2.2.2.2.2.2.2.2.1.map (eI .i64))]⟩) h ?_ (fun _ nx54 hn54 v54 h => ?_)
    · conv => whnf
      refine WkF.step (Weak.nilBO _ 47 0 54700 97 3 _ rfl rfl) ?_
      conv => whnf
      refine WkF.step (Weak.nilBO _ 47 1 54701 3 1 _ rfl rfl) ?_
      conv => whnf
      refine WkF.step (Weak.nilBO _ 47 3 54703 97 3 _ rfl rfl) ?_
      conv => whnf
      refine WkF.step (Weak.nilBO _ 47 4 54704 3 1 _ rfl rfl) ?_
      conv => whnf
      exact WkF.refl _
    conv => whnf
    refine fkS h (fun h => ?_) (fun h => ?_)
    · conv => whnf
      refine ixS (enc := (eL KernelCmd.enc)) h rfl (fun _ => rfl) (fun x55 h => ?_)
      conv => whnf
      refine lenS x55 KernelCmd.enc rfl ?_
      conv => whnf
      refine lpS (fun v56 => ⟨[(9, .l (.ptr 10 0)), (10, .l (.bsl 47 2 3)), (11, .l (.d (.int .i64 v54.2.2.2.2.2.2.2.2.2.2))), (47, .l (.d (.sl (a1.map (eL KernelCmd.enc))))), (48, .l (.d (.int .i64 (a1.length : Int)))), (49, .l (.d (.int .i64 v54.2.2.2.2.2.2.2.2.2.2))), (54, .l (.d (.sl (x55.map KernelCmd.enc)))), (55, .l (.d (.int .i64 (x55.length : Int)))), (56, .l (.d (.int .i64 v56.2.2.2.2.2.2.2.2)))], 142, [], [(10, [.d (.int .i64 v56.1), .d (.sl (v56.2.1.map Window.enc)), .d (.sl (v56.2.2.1.map Face.enc)), .d (.sl (v56.2.2.2.1.map PartState.enc)), .d (.sl (v56.2.2.2.2.1.map PortLine.enc)), .d (.int .i64 v56.2.2.2.2.2.1)]), (47, [.own 54700, .own 54701, .nil, .own 54703, .own 54704, .nil])], [(54700, 97, 3, v56.2.2.2.2.2.2.1.map WorldSaw.enc), (54701, 3, 1, v54.2.2.2.2.2.2.2.1.map (eI .i64)), (54703, 97, 3, v56.2.2.2.2.2.2.2.1.map WorldSaw.enc), (54704, 3, 1, v54.2.2.2.2.2.2.2.2.2.1.map (eI .i64))]⟩) h (Weak.refl _) (fun _ nx56 hn56 v56 h => ?_)
      conv => whnf
      refine fkS h (fun h => ?_) (fun h => ?_)
      · conv => whnf
        refine ixS (enc := KernelCmd.enc) h rfl (fun _ => rfl) (fun x57 h => ?_)
        conv => whnf
        refine ccS (E := E_KernelState_Int_Int) h (kernel_Do_w (⟨⟨v56.1, v56.2.1⟩, v56.2.2.1, v56.2.2.2.1, v56.2.2.2.2.1, v56.2.2.2.2.2.1⟩) x57) rfl rfl (fun x58 h => ?_)
        conv => whnf
        refine jnS (fun w59 => ⟨[(9, .l (.ptr 10 0)), (10, .l (.bsl 47 2 3)), (11, .l (.d (.int .i64 v54.2.2.2.2.2.2.2.2.2.2))), (15, .l (.ptr 16 0)), (47, .l (.d (.sl (a1.map (eL KernelCmd.enc))))), (48, .l (.d (.int .i64 (a1.length : Int)))), (49, .l (.d (.int .i64 v54.2.2.2.2.2.2.2.2.2.2))), (54, .l (.d (.sl (x55.map KernelCmd.enc)))), (55, .l (.d (.int .i64 (x55.length : Int)))), (56, .l (.d (.int .i64 v56.2.2.2.2.2.2.2.2)))], 142, [], [(10, [.d (.int .i64 v56.1), .d (.sl (v56.2.1.map Window.enc)), .d (.sl (v56.2.2.1.map Face.enc)), .d (.sl (v56.2.2.2.1.map PartState.enc)), .d (.sl (v56.2.2.2.2.1.map PortLine.enc)), .d (.int .i64 v56.2.2.2.2.2.1)]), (16, [.d (.int .i64 x58.1.Table.Frame), .d (.sl (x58.1.Table.Windows.map Window.enc)), .d (.sl (x58.1.Faces.map Face.enc)), .d (.sl (x58.1.Parts.map PartState.enc)), .d (.sl (x58.1.Lines.map PortLine.enc)), .d (.int .i64 x58.1.Now)]), (47, [.own 54700, .own 54701, .nil, .own 54703, .own 54704, .nil])], [(54700, 97, 3, w59.1.map WorldSaw.enc), (54701, 3, 1, v54.2.2.2.2.2.2.2.1.map (eI .i64)), (54703, 97, 3, w59.2.map WorldSaw.enc), (54704, 3, 1, v54.2.2.2.2.2.2.2.2.2.1.map (eI .i64))]⟩) h (fun k59 hk59 h => ?_) (fun w59 h => ?_)
        · conv => whnf
          refine jnS (fun w60 => ⟨[(9, .l (.ptr 10 0)), (10, .l (.bsl 47 2 3)), (11, .l (.d (.int .i64 v54.2.2.2.2.2.2.2.2.2.2))), (14, .l (.ptr 15 0)), (15, .l (.ptr 16 0)), (16, .l (.d (.int .i64 x58.2.1))), (17, .l (.d (.int .i64 x58.2.2))), (47, .l (.d (.sl (a1.map (eL KernelCmd.enc))))), (48, .l (.d (.int .i64 (a1.length : Int)))), (49, .l (.d (.int .i64 v54.2.2.2.2.2.2.2.2.2.2))), (54, .l (.d (.sl (x55.map KernelCmd.enc)))), (55, .l (.d (.int .i64 (x55.length : Int)))), (56, .l (.d (.int .i64 v56.2.2.2.2.2.2.2.2))), (76, .l (.d (.bool w60)))], 142, [], [(10, [.d (.int .i64 v56.1), .d (.sl (v56.2.1.map Window.enc)), .d (.sl (v56.2.2.1.map Face.enc)), .d (.sl (v56.2.2.2.1.map PartState.enc)), .d (.sl (v56.2.2.2.2.1.map PortLine.enc)), .d (.int .i64 v56.2.2.2.2.2.1)]), (15, [.d (.int .i64 x57.Part), .d (.int .i64 x57.Kind), .d (.int .i64 x57.I), .d (.int .i64 x57.V), .d (.int .i64 x57.T.C), .d (.int .i64 x57.T.D), .d (.int .i64 x57.T.T), .d (.sl (x57.T.Secs.map Sec.enc))]), (16, [.d (.int .i64 x58.1.Table.Frame), .d (.sl (x58.1.Table.Windows.map Window.enc)), .d (.sl (x58.1.Faces.map Face.enc)), .d (.sl (x58.1.Parts.map PartState.enc)), .d (.sl (x58.1.Lines.map PortLine.enc)), .d (.int .i64 x58.1.Now)]), (47, [.own 54700, .own 54701, .nil, .own 54703, .own 54704, .nil])], [(54700, 97, 3, v56.2.2.2.2.2.2.1.map WorldSaw.enc), (54701, 3, 1, v54.2.2.2.2.2.2.2.1.map (eI .i64)), (54703, 97, 3, v56.2.2.2.2.2.2.2.1.map WorldSaw.enc), (54704, 3, 1, v54.2.2.2.2.2.2.2.2.2.1.map (eI .i64))]⟩) h (fun k60 hk60 h => ?_) (fun w60 h => ?_)
          · conv => whnf
            refine fkS h (fun h => ?_) (fun h => ?_)
            · conv => whnf
              refine lenB tab rfl rfl rfl rfl rfl ?_
              conv => whnf
              exact jeS hk60 h (Weak.refl _)
            conv => whnf
            exact jeS hk60 h (Weak.refl _)
          conv => whnf
          refine fkS h (fun h => ?_) (fun h => ?_)
          · conv => whnf
            refine ⟨15, ?_⟩
            conv => whnf
            refine fkN h (fun q61 h => ?_) (fun q61 h => ?_)
            · conv => whnf
              refine liS ([⟨v54.2.2.2.2.2.2.2.2.2.2, x58.2.1, x58.2.2⟩] : List WorldSaw) WorldSaw.enc rfl rfl ?_
              conv => whnf
              refine apS (enc := WorldSaw.enc) (l1 := v56.2.2.2.2.2.2.1) (l2 := ([⟨v54.2.2.2.2.2.2.2.2.2.2, x58.2.1, x58.2.2⟩] : List WorldSaw)) h rfl rfl (fun _ => rfl) (fun h => ?_)
              conv => whnf
              refine drS (by kernel_rfl) ?_
              conv => whnf
              refine fork_t q61 ?_
              conv => whnf
              refine jeX hk59 h ?_
              conv => whnf
              refine WkF.step (Weak.rekey _ 92 54700 rfl) ?_
              conv => whnf
              exact WkF.refl _
            conv => whnf
            refine fkN h (fun q62 h => ?_) (fun q62 h => ?_)
            · conv => whnf
              refine liS ([⟨v54.2.2.2.2.2.2.2.2.2.2, x58.2.1, x58.2.2⟩] : List WorldSaw) WorldSaw.enc rfl rfl ?_
              conv => whnf
              refine apS (enc := WorldSaw.enc) (l1 := v56.2.2.2.2.2.2.2.1) (l2 := ([⟨v54.2.2.2.2.2.2.2.2.2.2, x58.2.1, x58.2.2⟩] : List WorldSaw)) h rfl rfl (fun _ => rfl) (fun h => ?_)
              conv => whnf
              refine drS (by kernel_rfl) ?_
              conv => whnf
              refine fork_f q61 ?_
              conv => whnf
              refine fork_t q62 ?_
              conv => whnf
              refine jeX hk59 h ?_
              conv => whnf
              refine WkF.step (Weak.rekey _ 92 54703 rfl) ?_
              conv => whnf
              exact WkF.refl _
            conv => whnf
            cases h
          conv => whnf
          refine jeX hk59 h ?_
          conv => whnf
          refine WkF.step (Weak.keepS _ [9, 10, 11, 15, 47, 48, 49, 54, 55, 56]) ?_
          conv => whnf
          exact WkF.refl _
        conv => whnf
        exact leS hn56 h (Weak.refl _)
      conv => whnf
      refine ccS (E := E_KernelState_ListInt_Int) h (kernel_Tick_w (⟨⟨v56.1, v56.2.1⟩, v56.2.2.1, v56.2.2.2.1, v56.2.2.2.2.1, v56.2.2.2.2.2.1⟩)) rfl rfl (fun x63 h => ?_)
      conv => whnf
      refine lenB tab rfl rfl rfl rfl rfl ?_
      conv => whnf
      refine lpS (fun v64 => ⟨[(9, .l (.ptr 10 0)), (10, .l (.bsl 47 2 3)), (18, .l (.ptr 19 0)), (19, .l (.d (.sl (x63.2.1.map (eI .i64))))), (47, .l (.d (.sl (a1.map (eL KernelCmd.enc))))), (48, .l (.d (.int .i64 (a1.length : Int)))), (49, .l (.d (.int .i64 v54.2.2.2.2.2.2.2.2.2.2))), (103, .l (.d (.int .i64 (2 : Int)))), (104, .l (.d (.int .i64 v64.2.2)))], 142, [], [(10, [.d (.int .i64 v56.1), .d (.sl (v56.2.1.map Window.enc)), .d (.sl (v56.2.2.1.map Face.enc)), .d (.sl (v56.2.2.2.1.map PartState.enc)), .d (.sl (v56.2.2.2.2.1.map PortLine.enc)), .d (.int .i64 v56.2.2.2.2.2.1)]), (19, [.d (.int .i64 x63.1.Table.Frame), .d (.sl (x63.1.Table.Windows.map Window.enc)), .d (.sl (x63.1.Faces.map Face.enc)), .d (.sl (x63.1.Parts.map PartState.enc)), .d (.sl (x63.1.Lines.map PortLine.enc)), .d (.int .i64 x63.1.Now)]), (47, [.own 54700, .own 54701, .nil, .own 54703, .own 54704, .nil])], [(54700, 97, 3, v56.2.2.2.2.2.2.1.map WorldSaw.enc), (54701, 3, 1, v64.1.map (eI .i64)), (54703, 97, 3, v56.2.2.2.2.2.2.2.1.map WorldSaw.enc), (54704, 3, 1, v64.2.1.map (eI .i64))]⟩) h (Weak.refl _) (fun _ nx64 hn64 v64 h => ?_)
      conv => whnf
      refine fkS h (fun h => ?_) (fun h => ?_)
      · conv => whnf
        refine ⟨13, ?_⟩
        conv => whnf
        refine fkN h (fun q65 h => ?_) (fun q65 h => ?_)
        · conv => whnf
          refine ixS (enc := (eI .i64)) h rfl (fun _ => rfl) (fun x68 h => ?_)
          conv => whnf
          refine liS ([x68] : List Int) (eI .i64) rfl rfl ?_
          conv => whnf
          refine apS (enc := (eI .i64)) (l1 := v64.1) (l2 := ([x68] : List Int)) h rfl rfl (fun _ => rfl) (fun h => ?_)
          conv => whnf
          refine drS (by kernel_rfl) ?_
          conv => whnf
          refine fork_t q65 ?_
          conv => whnf
          refine leX hn64 h ?_
          conv => whnf
          refine WkF.step (Weak.rekey _ 120 54701 rfl) ?_
          conv => whnf
          exact WkF.refl _
        conv => whnf
        refine fkN h (fun q66 h => ?_) (fun q66 h => ?_)
        · conv => whnf
          refine ixS (enc := (eI .i64)) h rfl (fun _ => rfl) (fun x67 h => ?_)
          conv => whnf
          refine liS ([x67] : List Int) (eI .i64) rfl rfl ?_
          conv => whnf
          refine apS (enc := (eI .i64)) (l1 := v64.2.1) (l2 := ([x67] : List Int)) h rfl rfl (fun _ => rfl) (fun h => ?_)
          conv => whnf
          refine drS (by kernel_rfl) ?_
          conv => whnf
          refine fork_f q65 ?_
          conv => whnf
          refine fork_t q66 ?_
          conv => whnf
          refine leX hn64 h ?_
          conv => whnf
          refine WkF.step (Weak.rekey _ 120 54704 rfl) ?_
          conv => whnf
          exact WkF.refl _
        conv => whnf
        cases h
      conv => whnf
      exact leS hn54 h (Weak.refl _)
    conv => whnf
    refine lenB tab rfl rfl rfl rfl rfl ?_
    conv => whnf
    refine lpS (fun v69 => ⟨[(9, .l (.ptr 10 0)), (10, .l (.bsl 47 2 3)), (126, .l (.d (.int .i64 (2 : Int)))), (127, .l (.d (.int .i64 v69.2.2)))], 142, [], [(10, [.d (.int .i64 v54.1), .d (.sl (v54.2.1.map Window.enc)), .d (.sl (v54.2.2.1.map Face.enc)), .d (.sl (v54.2.2.2.1.map PartState.enc)), .d (.sl (v54.2.2.2.2.1.map PortLine.enc)), .d (.int .i64 v54.2.2.2.2.2.1)]), (47, [.own 54700, .own 54701, .d (.sl (v69.1.map Entry.enc)), .own 54703, .own 54704, .d (.sl (v69.2.1.map Entry.enc))])], [(54700, 97, 3, v54.2.2.2.2.2.2.1.map WorldSaw.enc), (54701, 3, 1, v54.2.2.2.2.2.2.2.1.map (eI .i64)), (54703, 97, 3, v54.2.2.2.2.2.2.2.2.1.map WorldSaw.enc), (54704, 3, 1, v54.2.2.2.2.2.2.2.2.2.1.map (eI .i64))]⟩) h (Weak.trans (Weak.nilBD _ 47 2 _ rfl rfl) (Weak.trans (Weak.nilBD _ 47 5 _ rfl rfl) (Weak.refl _))) (fun _ nx69 hn69 v69 h => ?_)
    conv => whnf
    refine fkS h (fun h => ?_) (fun h => ?_)
    · conv => whnf
      refine ixS (enc := PartState.enc) h rfl (fun _ => rfl) (fun x70 h => ?_)
      conv => whnf
      refine fkN h (fun q71 h => ?_) (fun q71 h => ?_)
      · conv => whnf
        exact leS hn69 h (Weak.refl _)
      conv => whnf
      refine fkN h (fun q72 h => ?_) (fun q72 h => ?_)
      · conv => whnf
        exact leS hn69 h (Weak.refl _)
      conv => whnf
      cases h
    conv => whnf
    exact rt (E := E_ListWorldView_Int) h rfl
  conv => whnf
  refine mkF h (fun hb h => ?_) (fun h => ?_)
  · conv => whnf
    refine mkB tab 3 rfl rfl rfl rfl (of_decide_eq_true hb) (of_decide_eq_true hb) rfl rfl rfl (Nat.le_of_ble_eq_true rfl) (Nat.le_of_ble_eq_true rfl) (Nat.le_of_ble_eq_true rfl) rfl ?_
    conv => whnf
    refine lenS a1 (eL KernelCmd.enc) rfl ?_
    conv => whnf
    refine lpX (fun v31 => ⟨[(9, .l (.ptr 10 0)), (10, .l (.bsl 47 3 3)), (47, .l (.d (.sl (a1.map (eL KernelCmd.enc))))), (48, .l (.d (.int .i64 (a1.length : Int)))), (49, .l (.d (.int .i64 v31.2.2.2.2.2.2.2.2.2.2.2.2)))], 142, [], [(10, [.d (.int .i64 v31.1), .d (.sl (v31.2.1.map Window.enc)), .d (.sl (v31.2.2.1.map Face.enc)), .d (.sl (v31.2.2.2.1.map PartState.enc)), .d (.sl (v31.2.2.2.2.1.map PortLine.enc)), .d (.int .i64 v31.2.2.2.2.2.1)]), (47, [.own 54700, .own 54701, .nil, .own 54703, .own 54704, .nil, .own 54706, .own 54707, .nil])], [(54700, 97, 3, v31.2.2.2.2.2.2.1.map WorldSaw.enc), (54701, 3, 1, v31.2.2.2.2.2.2.2.1.map (eI .i64)), (54703, 97, 3, v31.2.2.2.2.2.2.2.2.1.map WorldSaw.enc), (54704, 3, 1, v31.2.2.2.2.2.2.2.2.2.1.map (eI .i64)), (54706, 97, 3, v31.2.2.2.2.2.2.2.2.2.2.1.map WorldSaw.enc), (54707, 3, 1, v31.2.2.2.2.2.2.2.2.2.2.2.1.map (eI .i64))]⟩) h ?_ (fun _ nx31 hn31 v31 h => ?_)
    · conv => whnf
      refine WkF.step (Weak.nilBO _ 47 0 54700 97 3 _ rfl rfl) ?_
      conv => whnf
      refine WkF.step (Weak.nilBO _ 47 1 54701 3 1 _ rfl rfl) ?_
      conv => whnf
      refine WkF.step (Weak.nilBO _ 47 3 54703 97 3 _ rfl rfl) ?_
      conv => whnf
      refine WkF.step (Weak.nilBO _ 47 4 54704 3 1 _ rfl rfl) ?_
      conv => whnf
      refine WkF.step (Weak.nilBO _ 47 6 54706 97 3 _ rfl rfl) ?_
      conv => whnf
      refine WkF.step (Weak.nilBO _ 47 7 54707 3 1 _ rfl rfl) ?_
      conv => whnf
      exact WkF.refl _
    conv => whnf
    refine fkS h (fun h => ?_) (fun h => ?_)
    · conv => whnf
      refine ixS (enc := (eL KernelCmd.enc)) h rfl (fun _ => rfl) (fun x32 h => ?_)
      conv => whnf
      refine lenS x32 KernelCmd.enc rfl ?_
      conv => whnf
      refine lpS (fun v33 => ⟨[(9, .l (.ptr 10 0)), (10, .l (.bsl 47 3 3)), (11, .l (.d (.int .i64 v31.2.2.2.2.2.2.2.2.2.2.2.2))), (47, .l (.d (.sl (a1.map (eL KernelCmd.enc))))), (48, .l (.d (.int .i64 (a1.length : Int)))), (49, .l (.d (.int .i64 v31.2.2.2.2.2.2.2.2.2.2.2.2))), (54, .l (.d (.sl (x32.map KernelCmd.enc)))), (55, .l (.d (.int .i64 (x32.length : Int)))), (56, .l (.d (.int .i64 v33.2.2.2.2.2.2.2.2.2)))], 142, [], [(10, [.d (.int .i64 v33.1), .d (.sl (v33.2.1.map Window.enc)), .d (.sl (v33.2.2.1.map Face.enc)), .d (.sl (v33.2.2.2.1.map PartState.enc)), .d (.sl (v33.2.2.2.2.1.map PortLine.enc)), .d (.int .i64 v33.2.2.2.2.2.1)]), (47, [.own 54700, .own 54701, .nil, .own 54703, .own 54704, .nil, .own 54706, .own 54707, .nil])], [(54700, 97, 3, v33.2.2.2.2.2.2.1.map WorldSaw.enc), (54701, 3, 1, v31.2.2.2.2.2.2.2.1.map (eI .i64)), (54703, 97, 3, v33.2.2.2.2.2.2.2.1.map WorldSaw.enc), (54704, 3, 1, v31.2.2.2.2.2.2.2.2.2.1.map (eI .i64)), (54706, 97, 3, v33.2.2.2.2.2.2.2.2.1.map WorldSaw.enc), (54707, 3, 1, v31.2.2.2.2.2.2.2.2.2.2.2.1.map (eI .i64))]⟩) h (Weak.refl _) (fun _ nx33 hn33 v33 h => ?_)
      conv => whnf
      refine fkS h (fun h => ?_) (fun h => ?_)
      · conv => whnf
        refine ixS (enc := KernelCmd.enc) h rfl (fun _ => rfl) (fun x34 h => ?_)
        conv => whnf
        refine ccS (E := E_KernelState_Int_Int) h (kernel_Do_w (⟨⟨v33.1, v33.2.1⟩, v33.2.2.1, v33.2.2.2.1, v33.2.2.2.2.1, v33.2.2.2.2.2.1⟩) x34) rfl rfl (fun x35 h => ?_)
        conv => whnf
        refine jnS (fun w36 => ⟨[(9, .l (.ptr 10 0)), (10, .l (.bsl 47 3 3)), (11, .l (.d (.int .i64 v31.2.2.2.2.2.2.2.2.2.2.2.2))), (15, .l (.ptr 16 0)), (47, .l (.d (.sl (a1.map (eL KernelCmd.enc))))), (48, .l (.d (.int .i64 (a1.length : Int)))), (49, .l (.d (.int .i64 v31.2.2.2.2.2.2.2.2.2.2.2.2))), (54, .l (.d (.sl (x32.map KernelCmd.enc)))), (55, .l (.d (.int .i64 (x32.length : Int)))), (56, .l (.d (.int .i64 v33.2.2.2.2.2.2.2.2.2)))], 142, [], [(10, [.d (.int .i64 v33.1), .d (.sl (v33.2.1.map Window.enc)), .d (.sl (v33.2.2.1.map Face.enc)), .d (.sl (v33.2.2.2.1.map PartState.enc)), .d (.sl (v33.2.2.2.2.1.map PortLine.enc)), .d (.int .i64 v33.2.2.2.2.2.1)]), (16, [.d (.int .i64 x35.1.Table.Frame), .d (.sl (x35.1.Table.Windows.map Window.enc)), .d (.sl (x35.1.Faces.map Face.enc)), .d (.sl (x35.1.Parts.map PartState.enc)), .d (.sl (x35.1.Lines.map PortLine.enc)), .d (.int .i64 x35.1.Now)]), (47, [.own 54700, .own 54701, .nil, .own 54703, .own 54704, .nil, .own 54706, .own 54707, .nil])], [(54700, 97, 3, w36.1.map WorldSaw.enc), (54701, 3, 1, v31.2.2.2.2.2.2.2.1.map (eI .i64)), (54703, 97, 3, w36.2.1.map WorldSaw.enc), (54704, 3, 1, v31.2.2.2.2.2.2.2.2.2.1.map (eI .i64)), (54706, 97, 3, w36.2.2.map WorldSaw.enc), (54707, 3, 1, v31.2.2.2.2.2.2.2.2.2.2.2.1.map (eI .i64))]⟩) h (fun k36 hk36 h => ?_) (fun w36 h => ?_)
        · conv => whnf
          refine jnS (fun w37 => ⟨[(9, .l (.ptr 10 0)), (10, .l (.bsl 47 3 3)), (11, .l (.d (.int .i64 v31.2.2.2.2.2.2.2.2.2.2.2.2))), (14, .l (.ptr 15 0)), (15, .l (.ptr 16 0)), (16, .l (.d (.int .i64 x35.2.1))), (17, .l (.d (.int .i64 x35.2.2))), (47, .l (.d (.sl (a1.map (eL KernelCmd.enc))))), (48, .l (.d (.int .i64 (a1.length : Int)))), (49, .l (.d (.int .i64 v31.2.2.2.2.2.2.2.2.2.2.2.2))), (54, .l (.d (.sl (x32.map KernelCmd.enc)))), (55, .l (.d (.int .i64 (x32.length : Int)))), (56, .l (.d (.int .i64 v33.2.2.2.2.2.2.2.2.2))), (76, .l (.d (.bool w37)))], 142, [], [(10, [.d (.int .i64 v33.1), .d (.sl (v33.2.1.map Window.enc)), .d (.sl (v33.2.2.1.map Face.enc)), .d (.sl (v33.2.2.2.1.map PartState.enc)), .d (.sl (v33.2.2.2.2.1.map PortLine.enc)), .d (.int .i64 v33.2.2.2.2.2.1)]), (15, [.d (.int .i64 x34.Part), .d (.int .i64 x34.Kind), .d (.int .i64 x34.I), .d (.int .i64 x34.V), .d (.int .i64 x34.T.C), .d (.int .i64 x34.T.D), .d (.int .i64 x34.T.T), .d (.sl (x34.T.Secs.map Sec.enc))]), (16, [.d (.int .i64 x35.1.Table.Frame), .d (.sl (x35.1.Table.Windows.map Window.enc)), .d (.sl (x35.1.Faces.map Face.enc)), .d (.sl (x35.1.Parts.map PartState.enc)), .d (.sl (x35.1.Lines.map PortLine.enc)), .d (.int .i64 x35.1.Now)]), (47, [.own 54700, .own 54701, .nil, .own 54703, .own 54704, .nil, .own 54706, .own 54707, .nil])], [(54700, 97, 3, v33.2.2.2.2.2.2.1.map WorldSaw.enc), (54701, 3, 1, v31.2.2.2.2.2.2.2.1.map (eI .i64)), (54703, 97, 3, v33.2.2.2.2.2.2.2.1.map WorldSaw.enc), (54704, 3, 1, v31.2.2.2.2.2.2.2.2.2.1.map (eI .i64)), (54706, 97, 3, v33.2.2.2.2.2.2.2.2.1.map WorldSaw.enc), (54707, 3, 1, v31.2.2.2.2.2.2.2.2.2.2.2.1.map (eI .i64))]⟩) h (fun k37 hk37 h => ?_) (fun w37 h => ?_)
          · conv => whnf
            refine fkS h (fun h => ?_) (fun h => ?_)
            · conv => whnf
              refine lenB tab rfl rfl rfl rfl rfl ?_
              conv => whnf
              exact jeS hk37 h (Weak.refl _)
            conv => whnf
            exact jeS hk37 h (Weak.refl _)
          conv => whnf
          refine fkS h (fun h => ?_) (fun h => ?_)
          · conv => whnf
            refine ⟨15, ?_⟩
            conv => whnf
            refine fkN h (fun q38 h => ?_) (fun q38 h => ?_)
            · conv => whnf
              refine liS ([⟨v31.2.2.2.2.2.2.2.2.2.2.2.2, x35.2.1, x35.2.2⟩] : List WorldSaw) WorldSaw.enc rfl rfl ?_
              conv => whnf
              refine apS (enc := WorldSaw.enc) (l1 := v33.2.2.2.2.2.2.1) (l2 := ([⟨v31.2.2.2.2.2.2.2.2.2.2.2.2, x35.2.1, x35.2.2⟩] : List WorldSaw)) h rfl rfl (fun _ => rfl) (fun h => ?_)
              conv => whnf
              refine drS (by kernel_rfl) ?_
              conv => whnf
              refine fork_t q38 ?_
              conv => whnf
              refine jeX hk36 h ?_
              conv => whnf
              refine WkF.step (Weak.rekey _ 92 54700 rfl) ?_
              conv => whnf
              exact WkF.refl _
            conv => whnf
            refine fkN h (fun q39 h => ?_) (fun q39 h => ?_)
            · conv => whnf
              refine liS ([⟨v31.2.2.2.2.2.2.2.2.2.2.2.2, x35.2.1, x35.2.2⟩] : List WorldSaw) WorldSaw.enc rfl rfl ?_
              conv => whnf
              refine apS (enc := WorldSaw.enc) (l1 := v33.2.2.2.2.2.2.2.1) (l2 := ([⟨v31.2.2.2.2.2.2.2.2.2.2.2.2, x35.2.1, x35.2.2⟩] : List WorldSaw)) h rfl rfl (fun _ => rfl) (fun h => ?_)
              conv => whnf
              refine drS (by kernel_rfl) ?_
              conv => whnf
              refine fork_f q38 ?_
              conv => whnf
              refine fork_t q39 ?_
              conv => whnf
              refine jeX hk36 h ?_
              conv => whnf
              refine WkF.step (Weak.rekey _ 92 54703 rfl) ?_
              conv => whnf
              exact WkF.refl _
            conv => whnf
            refine fkN h (fun q40 h => ?_) (fun q40 h => ?_)
            · conv => whnf
              refine liS ([⟨v31.2.2.2.2.2.2.2.2.2.2.2.2, x35.2.1, x35.2.2⟩] : List WorldSaw) WorldSaw.enc rfl rfl ?_
              conv => whnf
              refine apS (enc := WorldSaw.enc) (l1 := v33.2.2.2.2.2.2.2.2.1) (l2 := ([⟨v31.2.2.2.2.2.2.2.2.2.2.2.2, x35.2.1, x35.2.2⟩] : List WorldSaw)) h rfl rfl (fun _ => rfl) (fun h => ?_)
              conv => whnf
              refine drS (by kernel_rfl) ?_
              conv => whnf
              refine fork_f q38 ?_
              conv => whnf
              refine fork_f q39 ?_
              conv => whnf
              refine fork_t q40 ?_
              conv => whnf
              refine jeX hk36 h ?_
              conv => whnf
              refine WkF.step (Weak.rekey _ 92 54706 rfl) ?_
              conv => whnf
              exact WkF.refl _
            conv => whnf
            cases h
          conv => whnf
          refine jeX hk36 h ?_
          conv => whnf
          refine WkF.step (Weak.keepS _ [9, 10, 11, 15, 47, 48, 49, 54, 55, 56]) ?_
          conv => whnf
          exact WkF.refl _
        conv => whnf
        exact leS hn33 h (Weak.refl _)
      conv => whnf
      refine ccS (E := E_KernelState_ListInt_Int) h (kernel_Tick_w (⟨⟨v33.1, v33.2.1⟩, v33.2.2.1, v33.2.2.2.1, v33.2.2.2.2.1, v33.2.2.2.2.2.1⟩)) rfl rfl (fun x41 h => ?_)
      conv => whnf
      refine lenB tab rfl rfl rfl rfl rfl ?_
      conv => whnf
      refine lpS (fun v42 => ⟨[(9, .l (.ptr 10 0)), (10, .l (.bsl 47 3 3)), (18, .l (.ptr 19 0)), (19, .l (.d (.sl (x41.2.1.map (eI .i64))))), (47, .l (.d (.sl (a1.map (eL KernelCmd.enc))))), (48, .l (.d (.int .i64 (a1.length : Int)))), (49, .l (.d (.int .i64 v31.2.2.2.2.2.2.2.2.2.2.2.2))), (103, .l (.d (.int .i64 (3 : Int)))), (104, .l (.d (.int .i64 v42.2.2.2)))], 142, [], [(10, [.d (.int .i64 v33.1), .d (.sl (v33.2.1.map Window.enc)), .d (.sl (v33.2.2.1.map Face.enc)), .d (.sl (v33.2.2.2.1.map PartState.enc)), .d (.sl (v33.2.2.2.2.1.map PortLine.enc)), .d (.int .i64 v33.2.2.2.2.2.1)]), (19, [.d (.int .i64 x41.1.Table.Frame), .d (.sl (x41.1.Table.Windows.map Window.enc)), .d (.sl (x41.1.Faces.map Face.enc)), .d (.sl (x41.1.Parts.map PartState.enc)), .d (.sl (x41.1.Lines.map PortLine.enc)), .d (.int .i64 x41.1.Now)]), (47, [.own 54700, .own 54701, .nil, .own 54703, .own 54704, .nil, .own 54706, .own 54707, .nil])], [(54700, 97, 3, v33.2.2.2.2.2.2.1.map WorldSaw.enc), (54701, 3, 1, v42.1.map (eI .i64)), (54703, 97, 3, v33.2.2.2.2.2.2.2.1.map WorldSaw.enc), (54704, 3, 1, v42.2.1.map (eI .i64)), (54706, 97, 3, v33.2.2.2.2.2.2.2.2.1.map WorldSaw.enc), (54707, 3, 1, v42.2.2.1.map (eI .i64))]⟩) h (Weak.refl _) (fun _ nx42 hn42 v42 h => ?_)
      conv => whnf
      refine fkS h (fun h => ?_) (fun h => ?_)
      · conv => whnf
        refine ⟨13, ?_⟩
        conv => whnf
        refine fkN h (fun q43 h => ?_) (fun q43 h => ?_)
        · conv => whnf
          refine ixS (enc := (eI .i64)) h rfl (fun _ => rfl) (fun x48 h => ?_)
          conv => whnf
          refine liS ([x48] : List Int) (eI .i64) rfl rfl ?_
          conv => whnf
          refine apS (enc := (eI .i64)) (l1 := v42.1) (l2 := ([x48] : List Int)) h rfl rfl (fun _ => rfl) (fun h => ?_)
          conv => whnf
          refine drS (by kernel_rfl) ?_
          conv => whnf
          refine fork_t q43 ?_
          conv => whnf
          refine leX hn42 h ?_
          conv => whnf
          refine WkF.step (Weak.rekey _ 120 54701 rfl) ?_
          conv => whnf
          exact WkF.refl _
        conv => whnf
        refine fkN h (fun q44 h => ?_) (fun q44 h => ?_)
        · conv => whnf
          refine ixS (enc := (eI .i64)) h rfl (fun _ => rfl) (fun x47 h => ?_)
          conv => whnf
          refine liS ([x47] : List Int) (eI .i64) rfl rfl ?_
          conv => whnf
          refine apS (enc := (eI .i64)) (l1 := v42.2.1) (l2 := ([x47] : List Int)) h rfl rfl (fun _ => rfl) (fun h => ?_)
          conv => whnf
          refine drS (by kernel_rfl) ?_
          conv => whnf
          refine fork_f q43 ?_
          conv => whnf
          refine fork_t q44 ?_
          conv => whnf
          refine leX hn42 h ?_
          conv => whnf
          refine WkF.step (Weak.rekey _ 120 54704 rfl) ?_
          conv => whnf
          exact WkF.refl _
        conv => whnf
        refine fkN h (fun q45 h => ?_) (fun q45 h => ?_)
        · conv => whnf
          refine ixS (enc := (eI .i64)) h rfl (fun _ => rfl) (fun x46 h => ?_)
          conv => whnf
          refine liS ([x46] : List Int) (eI .i64) rfl rfl ?_
          conv => whnf
          refine apS (enc := (eI .i64)) (l1 := v42.2.2.1) (l2 := ([x46] : List Int)) h rfl rfl (fun _ => rfl) (fun h => ?_)
          conv => whnf
          refine drS (by kernel_rfl) ?_
          conv => whnf
          refine fork_f q43 ?_
          conv => whnf
          refine fork_f q44 ?_
          conv => whnf
          refine fork_t q45 ?_
          conv => whnf
          refine leX hn42 h ?_
          conv => whnf
          refine WkF.step (Weak.rekey _ 120 54707 rfl) ?_
          conv => whnf
          exact WkF.refl _
        conv => whnf
        cases h
      conv => whnf
      exact leS hn31 h (Weak.refl _)
    conv => whnf
    refine lenB tab rfl rfl rfl rfl rfl ?_
    conv => whnf
    refine lpX (fun v49 => ⟨[(9, .l (.ptr 10 0)), (10, .l (.bsl 47 3 3)), (126, .l (.d (.int .i64 (3 : Int)))), (127, .l (.d (.int .i64 v49.2.2.2)))], 142, [], [(10, [.d (.int .i64 v31.1), .d (.sl (v31.2.1.map Window.enc)), .d (.sl (v31.2.2.1.map Face.enc)), .d (.sl (v31.2.2.2.1.map PartState.enc)), .d (.sl (v31.2.2.2.2.1.map PortLine.enc)), .d (.int .i64 v31.2.2.2.2.2.1)]), (47, [.own 54700, .own 54701, .d (.sl (v49.1.map Entry.enc)), .own 54703, .own 54704, .d (.sl (v49.2.1.map Entry.enc)), .own 54706, .own 54707, .d (.sl (v49.2.2.1.map Entry.enc))])], [(54700, 97, 3, v31.2.2.2.2.2.2.1.map WorldSaw.enc), (54701, 3, 1, v31.2.2.2.2.2.2.2.1.map (eI .i64)), (54703, 97, 3, v31.2.2.2.2.2.2.2.2.1.map WorldSaw.enc), (54704, 3, 1, v31.2.2.2.2.2.2.2.2.2.1.map (eI .i64)), (54706, 97, 3, v31.2.2.2.2.2.2.2.2.2.2.1.map WorldSaw.enc), (54707, 3, 1, v31.2.2.2.2.2.2.2.2.2.2.2.1.map (eI .i64))]⟩) h ?_ (fun _ nx49 hn49 v49 h => ?_)
    · conv => whnf
      refine WkF.step (Weak.nilBD _ 47 2 _ rfl rfl) ?_
      conv => whnf
      refine WkF.step (Weak.nilBD _ 47 5 _ rfl rfl) ?_
      conv => whnf
      refine WkF.step (Weak.nilBD _ 47 8 _ rfl rfl) ?_
      conv => whnf
      exact WkF.refl _
    conv => whnf
    refine fkS h (fun h => ?_) (fun h => ?_)
    · conv => whnf
      refine ixS (enc := PartState.enc) h rfl (fun _ => rfl) (fun x50 h => ?_)
      conv => whnf
      refine fkN h (fun q51 h => ?_) (fun q51 h => ?_)
      · conv => whnf
        exact leS hn49 h (Weak.refl _)
      conv => whnf
      refine fkN h (fun q52 h => ?_) (fun q52 h => ?_)
      · conv => whnf
        exact leS hn49 h (Weak.refl _)
      conv => whnf
      refine fkN h (fun q53 h => ?_) (fun q53 h => ?_)
      · conv => whnf
        exact leS hn49 h (Weak.refl _)
      conv => whnf
      cases h
    conv => whnf
    exact rt (E := E_ListWorldView_Int) h rfl
  conv => whnf
  refine mkF h (fun hb h => ?_) (fun h => ?_)
  · conv => whnf
    refine mkB tab 4 rfl rfl rfl rfl (of_decide_eq_true hb) (of_decide_eq_true hb) rfl rfl rfl (Nat.le_of_ble_eq_true rfl) (Nat.le_of_ble_eq_true rfl) (Nat.le_of_ble_eq_true rfl) rfl ?_
    conv => whnf
    refine lenS a1 (eL KernelCmd.enc) rfl ?_
    conv => whnf
    refine lpX (fun v4 => ⟨[(9, .l (.ptr 10 0)), (10, .l (.bsl 47 4 3)), (47, .l (.d (.sl (a1.map (eL KernelCmd.enc))))), (48, .l (.d (.int .i64 (a1.length : Int)))), (49, .l (.d (.int .i64 v4.2.2.2.2.2.2.2.2.2.2.2.2.2.2)))], 142, [], [(10, [.d (.int .i64 v4.1), .d (.sl (v4.2.1.map Window.enc)), .d (.sl (v4.2.2.1.map Face.enc)), .d (.sl (v4.2.2.2.1.map PartState.enc)), .d (.sl (v4.2.2.2.2.1.map PortLine.enc)), .d (.int .i64 v4.2.2.2.2.2.1)]), (47, [.own 54700, .own 54701, .nil, .own 54703, .own 54704, .nil, .own 54706, .own 54707, .nil, .own 54709, .own 54710, .nil])], [(54700, 97, 3, v4.2.2.2.2.2.2.1.map WorldSaw.enc), (54701, 3, 1, v4.2.2.2.2.2.2.2.1.map (eI .i64)), (54703, 97, 3, v4.2.2.2.2.2.2.2.2.1.map WorldSaw.enc), (54704, 3, 1, v4.2.2.2.2.2.2.2.2.2.1.map (eI .i64)), (54706, 97, 3, v4.2.2.2.2.2.2.2.2.2.2.1.map WorldSaw.enc), (54707, 3, 1, v4.2.2.2.2.2.2.2.2.2.2.2.1.map (eI .i64)), (54709, 97, 3, v4.2.2.2.2.2.2.2.2.2.2.2.2.1.map WorldSaw.enc), (54710, 3, 1, v4.2.2.2.2.2.2.2.2.2.2.2.2.2.1.map (eI .i64))]⟩) h ?_ (fun _ nx4 hn4 v4 h => ?_)
    · conv => whnf
      refine WkF.step (Weak.nilBO _ 47 0 54700 97 3 _ rfl rfl) ?_
      conv => whnf
      refine WkF.step (Weak.nilBO _ 47 1 54701 3 1 _ rfl rfl) ?_
      conv => whnf
      refine WkF.step (Weak.nilBO _ 47 3 54703 97 3 _ rfl rfl) ?_
      conv => whnf
      refine WkF.step (Weak.nilBO _ 47 4 54704 3 1 _ rfl rfl) ?_
      conv => whnf
      refine WkF.step (Weak.nilBO _ 47 6 54706 97 3 _ rfl rfl) ?_
      conv => whnf
      refine WkF.step (Weak.nilBO _ 47 7 54707 3 1 _ rfl rfl) ?_
      conv => whnf
      refine WkF.step (Weak.nilBO _ 47 9 54709 97 3 _ rfl rfl) ?_
      conv => whnf
      refine WkF.step (Weak.nilBO _ 47 10 54710 3 1 _ rfl rfl) ?_
      conv => whnf
      exact WkF.refl _
    conv => whnf
    refine fkS h (fun h => ?_) (fun h => ?_)
    · conv => whnf
      refine ixS (enc := (eL KernelCmd.enc)) h rfl (fun _ => rfl) (fun x5 h => ?_)
      conv => whnf
      refine lenS x5 KernelCmd.enc rfl ?_
      conv => whnf
      refine lpS (fun v6 => ⟨[(9, .l (.ptr 10 0)), (10, .l (.bsl 47 4 3)), (11, .l (.d (.int .i64 v4.2.2.2.2.2.2.2.2.2.2.2.2.2.2))), (47, .l (.d (.sl (a1.map (eL KernelCmd.enc))))), (48, .l (.d (.int .i64 (a1.length : Int)))), (49, .l (.d (.int .i64 v4.2.2.2.2.2.2.2.2.2.2.2.2.2.2))), (54, .l (.d (.sl (x5.map KernelCmd.enc)))), (55, .l (.d (.int .i64 (x5.length : Int)))), (56, .l (.d (.int .i64 v6.2.2.2.2.2.2.2.2.2.2)))], 142, [], [(10, [.d (.int .i64 v6.1), .d (.sl (v6.2.1.map Window.enc)), .d (.sl (v6.2.2.1.map Face.enc)), .d (.sl (v6.2.2.2.1.map PartState.enc)), .d (.sl (v6.2.2.2.2.1.map PortLine.enc)), .d (.int .i64 v6.2.2.2.2.2.1)]), (47, [.own 54700, .own 54701, .nil, .own 54703, .own 54704, .nil, .own 54706, .own 54707, .nil, .own 54709, .own 54710, .nil])], [(54700, 97, 3, v6.2.2.2.2.2.2.1.map WorldSaw.enc), (54701, 3, 1, v4.2.2.2.2.2.2.2.1.map (eI .i64)), (54703, 97, 3, v6.2.2.2.2.2.2.2.1.map WorldSaw.enc), (54704, 3, 1, v4.2.2.2.2.2.2.2.2.2.1.map (eI .i64)), (54706, 97, 3, v6.2.2.2.2.2.2.2.2.1.map WorldSaw.enc), (54707, 3, 1, v4.2.2.2.2.2.2.2.2.2.2.2.1.map (eI .i64)), (54709, 97, 3, v6.2.2.2.2.2.2.2.2.2.1.map WorldSaw.enc), (54710, 3, 1, v4.2.2.2.2.2.2.2.2.2.2.2.2.2.1.map (eI .i64))]⟩) h (Weak.refl _) (fun _ nx6 hn6 v6 h => ?_)
      conv => whnf
      refine fkS h (fun h => ?_) (fun h => ?_)
      · conv => whnf
        refine ixS (enc := KernelCmd.enc) h rfl (fun _ => rfl) (fun x7 h => ?_)
        conv => whnf
        refine ccS (E := E_KernelState_Int_Int) h (kernel_Do_w (⟨⟨v6.1, v6.2.1⟩, v6.2.2.1, v6.2.2.2.1, v6.2.2.2.2.1, v6.2.2.2.2.2.1⟩) x7) rfl rfl (fun x8 h => ?_)
        conv => whnf
        refine jnS (fun w9 => ⟨[(9, .l (.ptr 10 0)), (10, .l (.bsl 47 4 3)), (11, .l (.d (.int .i64 v4.2.2.2.2.2.2.2.2.2.2.2.2.2.2))), (15, .l (.ptr 16 0)), (47, .l (.d (.sl (a1.map (eL KernelCmd.enc))))), (48, .l (.d (.int .i64 (a1.length : Int)))), (49, .l (.d (.int .i64 v4.2.2.2.2.2.2.2.2.2.2.2.2.2.2))), (54, .l (.d (.sl (x5.map KernelCmd.enc)))), (55, .l (.d (.int .i64 (x5.length : Int)))), (56, .l (.d (.int .i64 v6.2.2.2.2.2.2.2.2.2.2)))], 142, [], [(10, [.d (.int .i64 v6.1), .d (.sl (v6.2.1.map Window.enc)), .d (.sl (v6.2.2.1.map Face.enc)), .d (.sl (v6.2.2.2.1.map PartState.enc)), .d (.sl (v6.2.2.2.2.1.map PortLine.enc)), .d (.int .i64 v6.2.2.2.2.2.1)]), (16, [.d (.int .i64 x8.1.Table.Frame), .d (.sl (x8.1.Table.Windows.map Window.enc)), .d (.sl (x8.1.Faces.map Face.enc)), .d (.sl (x8.1.Parts.map PartState.enc)), .d (.sl (x8.1.Lines.map PortLine.enc)), .d (.int .i64 x8.1.Now)]), (47, [.own 54700, .own 54701, .nil, .own 54703, .own 54704, .nil, .own 54706, .own 54707, .nil, .own 54709, .own 54710, .nil])], [(54700, 97, 3, w9.1.map WorldSaw.enc), (54701, 3, 1, v4.2.2.2.2.2.2.2.1.map (eI .i64)), (54703, 97, 3, w9.2.1.map WorldSaw.enc), (54704, 3, 1, v4.2.2.2.2.2.2.2.2.2.1.map (eI .i64)), (54706, 97, 3, w9.2.2.1.map WorldSaw.enc), (54707, 3, 1, v4.2.2.2.2.2.2.2.2.2.2.2.1.map (eI .i64)), (54709, 97, 3, w9.2.2.2.map WorldSaw.enc), (54710, 3, 1, v4.2.2.2.2.2.2.2.2.2.2.2.2.2.1.map (eI .i64))]⟩) h (fun k9 hk9 h => ?_) (fun w9 h => ?_)
        · conv => whnf
          refine jnS (fun w10 => ⟨[(9, .l (.ptr 10 0)), (10, .l (.bsl 47 4 3)), (11, .l (.d (.int .i64 v4.2.2.2.2.2.2.2.2.2.2.2.2.2.2))), (14, .l (.ptr 15 0)), (15, .l (.ptr 16 0)), (16, .l (.d (.int .i64 x8.2.1))), (17, .l (.d (.int .i64 x8.2.2))), (47, .l (.d (.sl (a1.map (eL KernelCmd.enc))))), (48, .l (.d (.int .i64 (a1.length : Int)))), (49, .l (.d (.int .i64 v4.2.2.2.2.2.2.2.2.2.2.2.2.2.2))), (54, .l (.d (.sl (x5.map KernelCmd.enc)))), (55, .l (.d (.int .i64 (x5.length : Int)))), (56, .l (.d (.int .i64 v6.2.2.2.2.2.2.2.2.2.2))), (76, .l (.d (.bool w10)))], 142, [], [(10, [.d (.int .i64 v6.1), .d (.sl (v6.2.1.map Window.enc)), .d (.sl (v6.2.2.1.map Face.enc)), .d (.sl (v6.2.2.2.1.map PartState.enc)), .d (.sl (v6.2.2.2.2.1.map PortLine.enc)), .d (.int .i64 v6.2.2.2.2.2.1)]), (15, [.d (.int .i64 x7.Part), .d (.int .i64 x7.Kind), .d (.int .i64 x7.I), .d (.int .i64 x7.V), .d (.int .i64 x7.T.C), .d (.int .i64 x7.T.D), .d (.int .i64 x7.T.T), .d (.sl (x7.T.Secs.map Sec.enc))]), (16, [.d (.int .i64 x8.1.Table.Frame), .d (.sl (x8.1.Table.Windows.map Window.enc)), .d (.sl (x8.1.Faces.map Face.enc)), .d (.sl (x8.1.Parts.map PartState.enc)), .d (.sl (x8.1.Lines.map PortLine.enc)), .d (.int .i64 x8.1.Now)]), (47, [.own 54700, .own 54701, .nil, .own 54703, .own 54704, .nil, .own 54706, .own 54707, .nil, .own 54709, .own 54710, .nil])], [(54700, 97, 3, v6.2.2.2.2.2.2.1.map WorldSaw.enc), (54701, 3, 1, v4.2.2.2.2.2.2.2.1.map (eI .i64)), (54703, 97, 3, v6.2.2.2.2.2.2.2.1.map WorldSaw.enc), (54704, 3, 1, v4.2.2.2.2.2.2.2.2.2.1.map (eI .i64)), (54706, 97, 3, v6.2.2.2.2.2.2.2.2.1.map WorldSaw.enc), (54707, 3, 1, v4.2.2.2.2.2.2.2.2.2.2.2.1.map (eI .i64)), (54709, 97, 3, v6.2.2.2.2.2.2.2.2.2.1.map WorldSaw.enc), (54710, 3, 1, v4.2.2.2.2.2.2.2.2.2.2.2.2.2.1.map (eI .i64))]⟩) h (fun k10 hk10 h => ?_) (fun w10 h => ?_)
          · conv => whnf
            refine fkS h (fun h => ?_) (fun h => ?_)
            · conv => whnf
              refine lenB tab rfl rfl rfl rfl rfl ?_
              conv => whnf
              exact jeS hk10 h (Weak.refl _)
            conv => whnf
            exact jeS hk10 h (Weak.refl _)
          conv => whnf
          refine fkS h (fun h => ?_) (fun h => ?_)
          · conv => whnf
            refine ⟨15, ?_⟩
            conv => whnf
            refine fkN h (fun q11 h => ?_) (fun q11 h => ?_)
            · conv => whnf
              refine liS ([⟨v4.2.2.2.2.2.2.2.2.2.2.2.2.2.2, x8.2.1, x8.2.2⟩] : List WorldSaw) WorldSaw.enc rfl rfl ?_
              conv => whnf
              refine apS (enc := WorldSaw.enc) (l1 := v6.2.2.2.2.2.2.1) (l2 := ([⟨v4.2.2.2.2.2.2.2.2.2.2.2.2.2.2, x8.2.1, x8.2.2⟩] : List WorldSaw)) h rfl rfl (fun _ => rfl) (fun h => ?_)
              conv => whnf
              refine drS (by kernel_rfl) ?_
              conv => whnf
              refine fork_t q11 ?_
              conv => whnf
              refine jeX hk9 h ?_
              conv => whnf
              refine WkF.step (Weak.rekey _ 92 54700 rfl) ?_
              conv => whnf
              exact WkF.refl _
            conv => whnf
            refine fkN h (fun q12 h => ?_) (fun q12 h => ?_)
            · conv => whnf
              refine liS ([⟨v4.2.2.2.2.2.2.2.2.2.2.2.2.2.2, x8.2.1, x8.2.2⟩] : List WorldSaw) WorldSaw.enc rfl rfl ?_
              conv => whnf
              refine apS (enc := WorldSaw.enc) (l1 := v6.2.2.2.2.2.2.2.1) (l2 := ([⟨v4.2.2.2.2.2.2.2.2.2.2.2.2.2.2, x8.2.1, x8.2.2⟩] : List WorldSaw)) h rfl rfl (fun _ => rfl) (fun h => ?_)
              conv => whnf
              refine drS (by kernel_rfl) ?_
              conv => whnf
              refine fork_f q11 ?_
              conv => whnf
              refine fork_t q12 ?_
              conv => whnf
              refine jeX hk9 h ?_
              conv => whnf
              refine WkF.step (Weak.rekey _ 92 54703 rfl) ?_
              conv => whnf
              exact WkF.refl _
            conv => whnf
            refine fkN h (fun q13 h => ?_) (fun q13 h => ?_)
            · conv => whnf
              refine liS ([⟨v4.2.2.2.2.2.2.2.2.2.2.2.2.2.2, x8.2.1, x8.2.2⟩] : List WorldSaw) WorldSaw.enc rfl rfl ?_
              conv => whnf
              refine apS (enc := WorldSaw.enc) (l1 := v6.2.2.2.2.2.2.2.2.1) (l2 := ([⟨v4.2.2.2.2.2.2.2.2.2.2.2.2.2.2, x8.2.1, x8.2.2⟩] : List WorldSaw)) h rfl rfl (fun _ => rfl) (fun h => ?_)
              conv => whnf
              refine drS (by kernel_rfl) ?_
              conv => whnf
              refine fork_f q11 ?_
              conv => whnf
              refine fork_f q12 ?_
              conv => whnf
              refine fork_t q13 ?_
              conv => whnf
              refine jeX hk9 h ?_
              conv => whnf
              refine WkF.step (Weak.rekey _ 92 54706 rfl) ?_
              conv => whnf
              exact WkF.refl _
            conv => whnf
            refine fkN h (fun q14 h => ?_) (fun q14 h => ?_)
            · conv => whnf
              refine liS ([⟨v4.2.2.2.2.2.2.2.2.2.2.2.2.2.2, x8.2.1, x8.2.2⟩] : List WorldSaw) WorldSaw.enc rfl rfl ?_
              conv => whnf
              refine apS (enc := WorldSaw.enc) (l1 := v6.2.2.2.2.2.2.2.2.2.1) (l2 := ([⟨v4.2.2.2.2.2.2.2.2.2.2.2.2.2.2, x8.2.1, x8.2.2⟩] : List WorldSaw)) h rfl rfl (fun _ => rfl) (fun h => ?_)
              conv => whnf
              refine drS (by kernel_rfl) ?_
              conv => whnf
              refine fork_f q11 ?_
              conv => whnf
              refine fork_f q12 ?_
              conv => whnf
              refine fork_f q13 ?_
              conv => whnf
              refine fork_t q14 ?_
              conv => whnf
              refine jeX hk9 h ?_
              conv => whnf
              refine WkF.step (Weak.rekey _ 92 54709 rfl) ?_
              conv => whnf
              exact WkF.refl _
            conv => whnf
            cases h
          conv => whnf
          refine jeX hk9 h ?_
          conv => whnf
          refine WkF.step (Weak.keepS _ [9, 10, 11, 15, 47, 48, 49, 54, 55, 56]) ?_
          conv => whnf
          exact WkF.refl _
        conv => whnf
        exact leS hn6 h (Weak.refl _)
      conv => whnf
      refine ccS (E := E_KernelState_ListInt_Int) h (kernel_Tick_w (⟨⟨v6.1, v6.2.1⟩, v6.2.2.1, v6.2.2.2.1, v6.2.2.2.2.1, v6.2.2.2.2.2.1⟩)) rfl rfl (fun x15 h => ?_)
      conv => whnf
      refine lenB tab rfl rfl rfl rfl rfl ?_
      conv => whnf
      refine lpS (fun v16 => ⟨[(9, .l (.ptr 10 0)), (10, .l (.bsl 47 4 3)), (18, .l (.ptr 19 0)), (19, .l (.d (.sl (x15.2.1.map (eI .i64))))), (47, .l (.d (.sl (a1.map (eL KernelCmd.enc))))), (48, .l (.d (.int .i64 (a1.length : Int)))), (49, .l (.d (.int .i64 v4.2.2.2.2.2.2.2.2.2.2.2.2.2.2))), (103, .l (.d (.int .i64 (4 : Int)))), (104, .l (.d (.int .i64 v16.2.2.2.2)))], 142, [], [(10, [.d (.int .i64 v6.1), .d (.sl (v6.2.1.map Window.enc)), .d (.sl (v6.2.2.1.map Face.enc)), .d (.sl (v6.2.2.2.1.map PartState.enc)), .d (.sl (v6.2.2.2.2.1.map PortLine.enc)), .d (.int .i64 v6.2.2.2.2.2.1)]), (19, [.d (.int .i64 x15.1.Table.Frame), .d (.sl (x15.1.Table.Windows.map Window.enc)), .d (.sl (x15.1.Faces.map Face.enc)), .d (.sl (x15.1.Parts.map PartState.enc)), .d (.sl (x15.1.Lines.map PortLine.enc)), .d (.int .i64 x15.1.Now)]), (47, [.own 54700, .own 54701, .nil, .own 54703, .own 54704, .nil, .own 54706, .own 54707, .nil, .own 54709, .own 54710, .nil])], [(54700, 97, 3, v6.2.2.2.2.2.2.1.map WorldSaw.enc), (54701, 3, 1, v16.1.map (eI .i64)), (54703, 97, 3, v6.2.2.2.2.2.2.2.1.map WorldSaw.enc), (54704, 3, 1, v16.2.1.map (eI .i64)), (54706, 97, 3, v6.2.2.2.2.2.2.2.2.1.map WorldSaw.enc), (54707, 3, 1, v16.2.2.1.map (eI .i64)), (54709, 97, 3, v6.2.2.2.2.2.2.2.2.2.1.map WorldSaw.enc), (54710, 3, 1, v16.2.2.2.1.map (eI .i64))]⟩) h (Weak.refl _) (fun _ nx16 hn16 v16 h => ?_)
      conv => whnf
      refine fkS h (fun h => ?_) (fun h => ?_)
      · conv => whnf
        refine ⟨13, ?_⟩
        conv => whnf
        refine fkN h (fun q17 h => ?_) (fun q17 h => ?_)
        · conv => whnf
          refine ixS (enc := (eI .i64)) h rfl (fun _ => rfl) (fun x24 h => ?_)
          conv => whnf
          refine liS ([x24] : List Int) (eI .i64) rfl rfl ?_
          conv => whnf
          refine apS (enc := (eI .i64)) (l1 := v16.1) (l2 := ([x24] : List Int)) h rfl rfl (fun _ => rfl) (fun h => ?_)
          conv => whnf
          refine drS (by kernel_rfl) ?_
          conv => whnf
          refine fork_t q17 ?_
          conv => whnf
          refine leX hn16 h ?_
          conv => whnf
          refine WkF.step (Weak.rekey _ 120 54701 rfl) ?_
          conv => whnf
          exact WkF.refl _
        conv => whnf
        refine fkN h (fun q18 h => ?_) (fun q18 h => ?_)
        · conv => whnf
          refine ixS (enc := (eI .i64)) h rfl (fun _ => rfl) (fun x23 h => ?_)
          conv => whnf
          refine liS ([x23] : List Int) (eI .i64) rfl rfl ?_
          conv => whnf
          refine apS (enc := (eI .i64)) (l1 := v16.2.1) (l2 := ([x23] : List Int)) h rfl rfl (fun _ => rfl) (fun h => ?_)
          conv => whnf
          refine drS (by kernel_rfl) ?_
          conv => whnf
          refine fork_f q17 ?_
          conv => whnf
          refine fork_t q18 ?_
          conv => whnf
          refine leX hn16 h ?_
          conv => whnf
          refine WkF.step (Weak.rekey _ 120 54704 rfl) ?_
          conv => whnf
          exact WkF.refl _
        conv => whnf
        refine fkN h (fun q19 h => ?_) (fun q19 h => ?_)
        · conv => whnf
          refine ixS (enc := (eI .i64)) h rfl (fun _ => rfl) (fun x22 h => ?_)
          conv => whnf
          refine liS ([x22] : List Int) (eI .i64) rfl rfl ?_
          conv => whnf
          refine apS (enc := (eI .i64)) (l1 := v16.2.2.1) (l2 := ([x22] : List Int)) h rfl rfl (fun _ => rfl) (fun h => ?_)
          conv => whnf
          refine drS (by kernel_rfl) ?_
          conv => whnf
          refine fork_f q17 ?_
          conv => whnf
          refine fork_f q18 ?_
          conv => whnf
          refine fork_t q19 ?_
          conv => whnf
          refine leX hn16 h ?_
          conv => whnf
          refine WkF.step (Weak.rekey _ 120 54707 rfl) ?_
          conv => whnf
          exact WkF.refl _
        conv => whnf
        refine fkN h (fun q20 h => ?_) (fun q20 h => ?_)
        · conv => whnf
          refine ixS (enc := (eI .i64)) h rfl (fun _ => rfl) (fun x21 h => ?_)
          conv => whnf
          refine liS ([x21] : List Int) (eI .i64) rfl rfl ?_
          conv => whnf
          refine apS (enc := (eI .i64)) (l1 := v16.2.2.2.1) (l2 := ([x21] : List Int)) h rfl rfl (fun _ => rfl) (fun h => ?_)
          conv => whnf
          refine drS (by kernel_rfl) ?_
          conv => whnf
          refine fork_f q17 ?_
          conv => whnf
          refine fork_f q18 ?_
          conv => whnf
          refine fork_f q19 ?_
          conv => whnf
          refine fork_t q20 ?_
          conv => whnf
          refine leX hn16 h ?_
          conv => whnf
          refine WkF.step (Weak.rekey _ 120 54710 rfl) ?_
          conv => whnf
          exact WkF.refl _
        conv => whnf
        cases h
      conv => whnf
      exact leS hn4 h (Weak.refl _)
    conv => whnf
    refine lenB tab rfl rfl rfl rfl rfl ?_
    conv => whnf
    refine lpX (fun v25 => ⟨[(9, .l (.ptr 10 0)), (10, .l (.bsl 47 4 3)), (126, .l (.d (.int .i64 (4 : Int)))), (127, .l (.d (.int .i64 v25.2.2.2.2)))], 142, [], [(10, [.d (.int .i64 v4.1), .d (.sl (v4.2.1.map Window.enc)), .d (.sl (v4.2.2.1.map Face.enc)), .d (.sl (v4.2.2.2.1.map PartState.enc)), .d (.sl (v4.2.2.2.2.1.map PortLine.enc)), .d (.int .i64 v4.2.2.2.2.2.1)]), (47, [.own 54700, .own 54701, .d (.sl (v25.1.map Entry.enc)), .own 54703, .own 54704, .d (.sl (v25.2.1.map Entry.enc)), .own 54706, .own 54707, .d (.sl (v25.2.2.1.map Entry.enc)), .own 54709, .own 54710, .d (.sl (v25.2.2.2.1.map Entry.enc))])], [(54700, 97, 3, v4.2.2.2.2.2.2.1.map WorldSaw.enc), (54701, 3, 1, v4.2.2.2.2.2.2.2.1.map (eI .i64)), (54703, 97, 3, v4.2.2.2.2.2.2.2.2.1.map WorldSaw.enc), (54704, 3, 1, v4.2.2.2.2.2.2.2.2.2.1.map (eI .i64)), (54706, 97, 3, v4.2.2.2.2.2.2.2.2.2.2.1.map WorldSaw.enc), (54707, 3, 1, v4.2.2.2.2.2.2.2.2.2.2.2.1.map (eI .i64)), (54709, 97, 3, v4.2.2.2.2.2.2.2.2.2.2.2.2.1.map WorldSaw.enc), (54710, 3, 1, v4.2.2.2.2.2.2.2.2.2.2.2.2.2.1.map (eI .i64))]⟩) h ?_ (fun _ nx25 hn25 v25 h => ?_)
    · conv => whnf
      refine WkF.step (Weak.nilBD _ 47 2 _ rfl rfl) ?_
      conv => whnf
      refine WkF.step (Weak.nilBD _ 47 5 _ rfl rfl) ?_
      conv => whnf
      refine WkF.step (Weak.nilBD _ 47 8 _ rfl rfl) ?_
      conv => whnf
      refine WkF.step (Weak.nilBD _ 47 11 _ rfl rfl) ?_
      conv => whnf
      exact WkF.refl _
    conv => whnf
    refine fkS h (fun h => ?_) (fun h => ?_)
    · conv => whnf
      refine ixS (enc := PartState.enc) h rfl (fun _ => rfl) (fun x26 h => ?_)
      conv => whnf
      refine fkN h (fun q27 h => ?_) (fun q27 h => ?_)
      · conv => whnf
        exact leS hn25 h (Weak.refl _)
      conv => whnf
      refine fkN h (fun q28 h => ?_) (fun q28 h => ?_)
      · conv => whnf
        exact leS hn25 h (Weak.refl _)
      conv => whnf
      refine fkN h (fun q29 h => ?_) (fun q29 h => ?_)
      · conv => whnf
        exact leS hn25 h (Weak.refl _)
      conv => whnf
      refine fkN h (fun q30 h => ?_) (fun q30 h => ?_)
      · conv => whnf
        exact leS hn25 h (Weak.refl _)
      conv => whnf
      cases h
    conv => whnf
    exact rt (E := E_ListWorldView_Int) h rfl
  conv => whnf
  cases h

end Go.Proofs.YtpephpefjddgcaaGreat
namespace Go.Proofs.YtpephpefjddgcaaGreat
open Go Go.VC
noncomputable def top_works  : Option Bool :=
  bnd (world_Play ([(84 : Int), (75 : Int), (49 : Int), (1 : Int), (2 : Int), (1 : Int), (1 : Int), (1 : Int), (4 : Int), (4 : Int), (0 : Int), (0 : Int)] : List Int) ([([⟨(0 : Int), (1 : Int), (0 : Int), (1 : Int), ⟨(0 : Int), (0 : Int), (0 : Int), []⟩⟩] : List KernelCmd), ([] : List KernelCmd)] : List (List KernelCmd))) fun x1 => bnd (world_Play ([(84 : Int), (75 : Int), (49 : Int), (1 : Int), (2 : Int), (1 : Int), (1 : Int), (3 : Int), (4 : Int), (4 : Int), (0 : Int), (0 : Int)] : List Int) []) fun x2 => fk (decide (x1.2 = (0 : Int))) (fk (decide ((x1.1.length : Int) = (1 : Int))) (ix x1.1 (0 : Int) fun x3 => fk (decide ((x3.Log.length : Int) = (2 : Int))) (ix x1.1 (0 : Int) fun x4 => ix x4.Log (1 : Int) fun x5 => fk (eqI [.i .i64 x5.At, .i .i64 x5.Kind, .i .i64 x5.Task] [.i .i64 (0 : Int), .i .i64 (4 : Int), .i .i64 (0 : Int)]) (some (decide (x2.2 = (7 : Int)))) (some false)) (some false)) (some false)) (some false)
theorem top_works_w  (r : Bool) (h : top_works = some r) : Go.VC.Spec Tryz.prog 6 [] (fun y => y = E_Bool r) := by
  refine Go.VC.Spec.of_xc (args := []) (fn := Tryz.f6) tab ⟨[(0, []), (1, [1, 2]), (2, [1, 2, 4]), (3, [0])], [], [], [(11, [10, 11])]⟩ 50 [.tmp 0] rfl rfl rfl rfl rfl rfl ?_
  conv => whnf
  refine liS ([(84 : Int), (75 : Int), (49 : Int), (1 : Int), (2 : Int), (1 : Int), (1 : Int), (1 : Int), (4 : Int), (4 : Int), (0 : Int), (0 : Int)] : List Int) (eI .u8) rfl rfl ?_
  conv => whnf
  refine cvO rfl rfl rfl rfl rfl Tryz.underlying57 Tryz.underlying5 ?_
  conv => whnf
  refine liS ([⟨(0 : Int), (1 : Int), (0 : Int), (1 : Int), ⟨(0 : Int), (0 : Int), (0 : Int), []⟩⟩] : List KernelCmd) KernelCmd.enc rfl rfl ?_
  conv => whnf
  refine liS ([] : List KernelCmd) KernelCmd.enc rfl rfl ?_
  conv => whnf
  refine liS ([([⟨(0 : Int), (1 : Int), (0 : Int), (1 : Int), ⟨(0 : Int), (0 : Int), (0 : Int), []⟩⟩] : List KernelCmd), ([] : List KernelCmd)] : List (List KernelCmd)) (eL KernelCmd.enc) rfl rfl ?_
  conv => whnf
  refine iceS 12 ?_
  conv => whnf
  refine ccS (E := E_ListWorldView_Int) h (world_Play_w ([(84 : Int), (75 : Int), (49 : Int), (1 : Int), (2 : Int), (1 : Int), (1 : Int), (1 : Int), (4 : Int), (4 : Int), (0 : Int), (0 : Int)] : List Int) ([([⟨(0 : Int), (1 : Int), (0 : Int), (1 : Int), ⟨(0 : Int), (0 : Int), (0 : Int), []⟩⟩] : List KernelCmd), ([] : List KernelCmd)] : List (List KernelCmd))) rfl rfl (fun x1 h => ?_)
  conv => whnf
  refine liS ([(84 : Int), (75 : Int), (49 : Int), (1 : Int), (2 : Int), (1 : Int), (1 : Int), (3 : Int), (4 : Int), (4 : Int), (0 : Int), (0 : Int)] : List Int) (eI .u8) rfl rfl ?_
  conv => whnf
  refine cvO rfl rfl rfl rfl rfl Tryz.underlying57 Tryz.underlying5 ?_
  conv => whnf
  refine ccS (E := E_ListWorldView_Int) h (world_Play_w ([(84 : Int), (75 : Int), (49 : Int), (1 : Int), (2 : Int), (1 : Int), (1 : Int), (3 : Int), (4 : Int), (4 : Int), (0 : Int), (0 : Int)] : List Int) []) rfl rfl (fun x2 h => ?_)
  conv => whnf
  refine fkS h (fun h => ?_) (fun h => ?_)
  · conv => whnf
    refine lenS x1.1 WorldView.enc rfl ?_
    conv => whnf
    refine fkS h (fun h => ?_) (fun h => ?_)
    · conv => whnf
      refine ixS (enc := WorldView.enc) h rfl (fun _ => rfl) (fun x3 h => ?_)
      conv => whnf
      refine lenS x3.Log Entry.enc rfl ?_
      conv => whnf
      refine fkS h (fun h => ?_) (fun h => ?_)
      · conv => whnf
        refine ixS (enc := WorldView.enc) h rfl (fun _ => rfl) (fun x4 h => ?_)
        conv => whnf
        refine ixS (enc := Entry.enc) h rfl (fun _ => rfl) (fun x5 h => ?_)
        conv => whnf
        refine fkS h (fun h => ?_) (fun h => ?_)
        · conv => whnf
          exact rt (E := E_Bool) h rfl
        conv => whnf
        exact rt (E := E_Bool) h rfl
      conv => whnf
      exact rt (E := E_Bool) h rfl
    conv => whnf
    exact rt (E := E_Bool) h rfl
  conv => whnf
  exact rt (E := E_Bool) h rfl

end Go.Proofs.YtpephpefjddgcaaGreat
namespace Go.Proofs.YtpephpefjddgcaaGreat
open Go Go.VC
noncomputable def top_TopExact (a0 : List Task) (a1 : Face) (a2 : List (List Int)) (a3 : List Bool) (a4 : Int) (a5 : Int) : Option Bool :=
  jn (fun (w1 : Bool) => fk w1 (bnd top_works fun x3 => some x3) (bnd (verdict_Fits a0 a1) fun x4 => bnd (face_Least a0 a1.P) fun x5 => jn (fun (w6 : Bool) => fk w6 (some false) (lp (fun nx7 (v7 : Int) => fk (decide (v7 < (a2.length : Int))) (ix a2 v7 fun x8 => fk (decide ((x8.length : Int) > (1100 : Int))) (bnd top_works fun x9 => some x9) (nx7 (wr (v7 + (1 : Int))))) (jn (fun (w10 : Bool) => fk w10 (bnd top_works fun x13 => some x13) (jn (fun (w14 : Bool) => fk w14 (bnd top_works fun x15 => some x15) (bnd (demand_Of a0 a2 a4 a5) fun x16 => lp (fun nx17 (v17 : Int × Int) => fk (decide (v17.2 < a5)) (jn (fun (w18 : Int) => nx17 (w18, (wr (v17.2 + (1 : Int))))) (fun k18 => ix a3 v17.2 fun x19 => fk x19 (k18 (wr (v17.1 + (1 : Int)))) (k18 v17.1))) (fk (decide (x16.2 = (0 : Int))) (fk (decide (x16.1 ≤ v17.1)) (bnd top_works fun x20 => some x20) (some false)) (some false))) FU ((0 : Int), a4))) (fun k14 => fk (decide (a4 < (0 : Int))) (k14 true) (fk (decide (a5 < a4)) (k14 true) (ck (decide (a1.P ≠ 0)) (k14 (decide (a5 > (wr ((wr ((a3.length : Int).tdiv a1.P)) * a1.P)))))))))) (fun k10 => fk (!x4.1) (k10 true) (bnd (ref07_Legal a0 a2) fun x11 => fk (!x11) (k10 true) (bnd (ref09_Legal a1 a3) fun x12 => k10 (!x12)))))) FU (0 : Int))) (fun k6 => fk (decide (x4.2 = (0 : Int))) (fk (decide (x5.2 = (0 : Int))) (fk (!decide (x4.1 = (decide (a1.B ≥ x5.1.B)))) (k6 true) (fk (decide (x5.2 = (7 : Int))) (fk x4.1 (k6 true) (fk (!decide (x5.2 = (0 : Int))) (k6 (!decide (x5.2 = (7 : Int)))) (k6 false))) (fk (!decide (x5.2 = (0 : Int))) (k6 (!decide (x5.2 = (7 : Int)))) (k6 false)))) (fk (decide (x5.2 = (7 : Int))) (fk x4.1 (k6 true) (fk (!decide (x5.2 = (0 : Int))) (k6 (!decide (x5.2 = (7 : Int)))) (k6 false))) (fk (!decide (x5.2 = (0 : Int))) (k6 (!decide (x5.2 = (7 : Int)))) (k6 false)))) (k6 false)))) (fun k1 => bnd (law05_Great a0) fun x2 => fk x2 (k1 true) (fk (decide ((a3.length : Int) > (600 : Int))) (k1 true) (k1 (decide ((a2.length : Int) > (20 : Int))))))
theorem top_TopExact_w (a0 : List Task) (a1 : Face) (a2 : List (List Int)) (a3 : List Bool) (a4 : Int) (a5 : Int) (r : Bool) (h : top_TopExact a0 a1 a2 a3 a4 a5 = some r) : Go.VC.Spec Tryz.prog 3 [.d (.sl (a0.map Task.enc)), .agg (Face.enc a1), .d (.sl (a2.map (eL (eI .i64)))), .d (.sl (a3.map eB)), .d (.int .i64 a4), .d (.int .i64 a5)] (fun y => y = E_Bool r) := by
  refine Go.VC.Spec.of_xc (args := [.d (.sl (a0.map Task.enc)), .agg (Face.enc a1), .d (.sl (a2.map (eL (eI .i64)))), .d (.sl (a3.map eB)), .d (.int .i64 a4), .d (.int .i64 a5)]) (fn := Tryz.f3) tab ⟨[(0, [0, 2, 3, 4, 5, 7]), (1, [0, 2, 3, 4, 5, 7, 33]), (2, [12]), (3, [0, 2, 3, 4, 5, 7, 13, 14]), (4, [0, 2, 3, 4, 5, 7, 13, 14, 15, 16]), (5, [0, 2, 3, 4, 5, 7, 13, 77]), (6, [12]), (7, [0, 2, 3, 4, 5, 7, 13, 17]), (8, [0, 2, 3, 4, 5, 7, 13, 17, 81]), (9, [0, 2, 3, 4, 5, 7, 13, 17]), (10, [0, 2, 3, 4, 5, 7, 13, 17, 89]), (11, [12]), (12, [0, 2, 3, 4, 5, 7, 104]), (13, [12]), (14, [0, 2, 3, 4, 5, 124]), (15, [12]), (16, [3, 4, 5, 18, 19]), (17, [3, 4, 5, 18, 19, 20]), (18, [3, 5, 18, 19, 20, 21]), (19, [3, 5, 18, 19, 20, 21, 137]), (20, [3, 5, 18, 19, 20, 21]), (21, [3, 5, 18, 19, 20, 21, 143]), (22, [3, 5, 18, 19, 20, 21]), (23, [12])], [], [100033, 100077, 100104, 100124, 20], []⟩ 156 [.tmp 12] rfl rfl rfl rfl rfl rfl ?_
  conv => whnf
  refine jnS (fun w1 => ⟨[(0, .l (.d (.sl (a0.map Task.enc)))), (2, .l (.d (.sl (a2.map (eL (eI .i64)))))), (3, .l (.d (.sl (a3.map eB)))), (4, .l (.d (.int .i64 a4))), (5, .l (.d (.int .i64 a5))), (7, .l (.ptr 8 0)), (33, .l (.d (.bool w1)))], 156, [], [(8, [.d (.int .i64 a1.P), .d (.int .i64 a1.B)])], []⟩) h (fun k1 hk1 h => ?_) (fun w1 h => ?_)
  · conv => whnf
    refine caS (E := E_Bool) h (law05_Great_w a0) rfl (fun _ => rfl) (fun x2 h => ?_)
    conv => whnf
    refine fkS h (fun h => ?_) (fun h => ?_)
    · conv => whnf
      exact jeS hk1 h (Weak.refl _)
    conv => whnf
    refine lenS a3 eB rfl ?_
    conv => whnf
    refine fkS h (fun h => ?_) (fun h => ?_)
    · conv => whnf
      exact jeS hk1 h (Weak.refl _)
    conv => whnf
    refine lenS a2 (eL (eI .i64)) rfl ?_
    conv => whnf
    exact jeS hk1 h (Weak.refl _)
  conv => whnf
  refine fkS h (fun h => ?_) (fun h => ?_)
  · conv => whnf
    refine caS (E := E_Bool) h top_works_w rfl (fun _ => rfl) (fun x3 h => ?_)
    conv => whnf
    exact rt (E := E_Bool) h rfl
  conv => whnf
  refine caS (E := E_Bool_Int) h (verdict_Fits_w a0 a1) rfl (fun _ => rfl) (fun x4 h => ?_)
  conv => whnf
  refine ccS (E := E_Face_Int) h (face_Least_w a0 a1.P) rfl rfl (fun x5 h => ?_)
  conv => whnf
  refine jnS (fun w6 => ⟨[(0, .l (.d (.sl (a0.map Task.enc)))), (2, .l (.d (.sl (a2.map (eL (eI .i64)))))), (3, .l (.d (.sl (a3.map eB)))), (4, .l (.d (.int .i64 a4))), (5, .l (.d (.int .i64 a5))), (7, .l (.ptr 8 0)), (13, .l (.d (.bool x4.1))), (77, .l (.d (.bool w6)))], 156, [], [(8, [.d (.int .i64 a1.P), .d (.int .i64 a1.B)])], []⟩) h (fun k6 hk6 h => ?_) (fun w6 h => ?_)
  · conv => whnf
    refine fkS h (fun h => ?_) (fun h => ?_)
    · conv => whnf
      refine fkS h (fun h => ?_) (fun h => ?_)
      · conv => whnf
        refine fkS h (fun h => ?_) (fun h => ?_)
        · conv => whnf
          exact jeS hk6 h (Weak.refl _)
        conv => whnf
        refine fkS h (fun h => ?_) (fun h => ?_)
        · conv => whnf
          refine fkS h (fun h => ?_) (fun h => ?_)
          · conv => whnf
            exact jeS hk6 h (Weak.refl _)
          conv => whnf
          refine fkS h (fun h => ?_) (fun h => ?_)
          · conv => whnf
            exact jeS hk6 h (Weak.refl _)
          conv => whnf
          exact jeS hk6 h (Weak.refl _)
        conv => whnf
        refine fkS h (fun h => ?_) (fun h => ?_)
        · conv => whnf
          exact jeS hk6 h (Weak.refl _)
        conv => whnf
        exact jeS hk6 h (Weak.refl _)
      conv => whnf
      refine fkS h (fun h => ?_) (fun h => ?_)
      · conv => whnf
        refine fkS h (fun h => ?_) (fun h => ?_)
        · conv => whnf
          exact jeS hk6 h (Weak.refl _)
        conv => whnf
        refine fkS h (fun h => ?_) (fun h => ?_)
        · conv => whnf
          exact jeS hk6 h (Weak.refl _)
        conv => whnf
        exact jeS hk6 h (Weak.refl _)
      conv => whnf
      refine fkS h (fun h => ?_) (fun h => ?_)
      · conv => whnf
        exact jeS hk6 h (Weak.refl _)
      conv => whnf
      exact jeS hk6 h (Weak.refl _)
    conv => whnf
    exact jeS hk6 h (Weak.refl _)
  conv => whnf
  refine fkS h (fun h => ?_) (fun h => ?_)
  · conv => whnf
    exact rt (E := E_Bool) h rfl
  conv => whnf
  refine lpS (fun v7 => ⟨[(0, .l (.d (.sl (a0.map Task.enc)))), (2, .l (.d (.sl (a2.map (eL (eI .i64)))))), (3, .l (.d (.sl (a3.map eB)))), (4, .l (.d (.int .i64 a4))), (5, .l (.d (.int .i64 a5))), (7, .l (.ptr 8 0)), (13, .l (.d (.bool x4.1))), (17, .l (.d (.int .i64 v7)))], 156, [], [(8, [.d (.int .i64 a1.P), .d (.int .i64 a1.B)])], []⟩) h (Weak.refl _) (fun _ nx7 hn7 v7 h => ?_)
  conv => whnf
  refine lenS a2 (eL (eI .i64)) rfl ?_
  conv => whnf
  refine fkS h (fun h => ?_) (fun h => ?_)
  · conv => whnf
    refine ixS (enc := (eL (eI .i64))) h rfl (fun _ => rfl) (fun x8 h => ?_)
    conv => whnf
    refine lenS x8 (eI .i64) rfl ?_
    conv => whnf
    refine fkS h (fun h => ?_) (fun h => ?_)
    · conv => whnf
      refine caS (E := E_Bool) h top_works_w rfl (fun _ => rfl) (fun x9 h => ?_)
      conv => whnf
      exact rt (E := E_Bool) h rfl
    conv => whnf
    exact leS hn7 h (Weak.refl _)
  conv => whnf
  refine jnS (fun w10 => ⟨[(0, .l (.d (.sl (a0.map Task.enc)))), (2, .l (.d (.sl (a2.map (eL (eI .i64)))))), (3, .l (.d (.sl (a3.map eB)))), (4, .l (.d (.int .i64 a4))), (5, .l (.d (.int .i64 a5))), (7, .l (.ptr 8 0)), (104, .l (.d (.bool w10)))], 156, [], [(8, [.d (.int .i64 a1.P), .d (.int .i64 a1.B)])], []⟩) h (fun k10 hk10 h => ?_) (fun w10 h => ?_)
  · conv => whnf
    refine fkS h (fun h => ?_) (fun h => ?_)
    · conv => whnf
      exact jeS hk10 h (Weak.refl _)
    conv => whnf
    refine caS (E := E_Bool) h (ref07_Legal_w a0 a2) rfl (fun _ => rfl) (fun x11 h => ?_)
    conv => whnf
    refine fkS h (fun h => ?_) (fun h => ?_)
    · conv => whnf
      exact jeS hk10 h (Weak.refl _)
    conv => whnf
    refine caS (E := E_Bool) h (ref09_Legal_w a1 a3) rfl (fun _ => rfl) (fun x12 h => ?_)
    conv => whnf
    exact jeS hk10 h (Weak.refl _)
  conv => whnf
  refine fkS h (fun h => ?_) (fun h => ?_)
  · conv => whnf
    refine caS (E := E_Bool) h top_works_w rfl (fun _ => rfl) (fun x13 h => ?_)
    conv => whnf
    exact rt (E := E_Bool) h rfl
  conv => whnf
  refine jnS (fun w14 => ⟨[(0, .l (.d (.sl (a0.map Task.enc)))), (2, .l (.d (.sl (a2.map (eL (eI .i64)))))), (3, .l (.d (.sl (a3.map eB)))), (4, .l (.d (.int .i64 a4))), (5, .l (.d (.int .i64 a5))), (124, .l (.d (.bool w14)))], 156, [], [], []⟩) h (fun k14 hk14 h => ?_) (fun w14 h => ?_)
  · conv => whnf
    refine ⟨19, ?_⟩
    conv => whnf
    refine fkS h (fun h => ?_) (fun h => ?_)
    · conv => whnf
      refine drS (by kernel_rfl) ?_
      conv => whnf
      exact jeS hk14 h (Weak.refl _)
    conv => whnf
    refine fkS h (fun h => ?_) (fun h => ?_)
    · conv => whnf
      refine drS (by kernel_rfl) ?_
      conv => whnf
      exact jeS hk14 h (Weak.refl _)
    conv => whnf
    refine lenS a3 eB rfl ?_
    conv => whnf
    refine dvS h (fun h => ?_)
    conv => whnf
    refine drS (by kernel_rfl) ?_
    conv => whnf
    exact jeS hk14 h (Weak.refl _)
  conv => whnf
  refine fkS h (fun h => ?_) (fun h => ?_)
  · conv => whnf
    refine caS (E := E_Bool) h top_works_w rfl (fun _ => rfl) (fun x15 h => ?_)
    conv => whnf
    exact rt (E := E_Bool) h rfl
  conv => whnf
  refine caS (E := E_Int_Int) h (demand_Of_w a0 a2 a4 a5) rfl (fun _ => rfl) (fun x16 h => ?_)
  conv => whnf
  refine lpS (fun v17 => ⟨[(3, .l (.d (.sl (a3.map eB)))), (5, .l (.d (.int .i64 a5))), (18, .l (.d (.int .i64 x16.1))), (19, .l (.d (.int .i64 x16.2))), (20, .l (.d (.int .i64 v17.1))), (21, .l (.d (.int .i64 v17.2)))], 156, [], [], []⟩) h (Weak.refl _) (fun _ nx17 hn17 v17 h => ?_)
  conv => whnf
  refine fkS h (fun h => ?_) (fun h => ?_)
  · conv => whnf
    refine jnS (fun w18 => ⟨[(3, .l (.d (.sl (a3.map eB)))), (5, .l (.d (.int .i64 a5))), (18, .l (.d (.int .i64 x16.1))), (19, .l (.d (.int .i64 x16.2))), (20, .l (.d (.int .i64 w18))), (21, .l (.d (.int .i64 v17.2)))], 156, [], [], []⟩) h (fun k18 hk18 h => ?_) (fun w18 h => ?_)
    · conv => whnf
      refine ixS (enc := eB) h rfl (fun _ => rfl) (fun x19 h => ?_)
      conv => whnf
      refine fkS h (fun h => ?_) (fun h => ?_)
      · conv => whnf
        exact jeS hk18 h (Weak.refl _)
      conv => whnf
      refine jeX hk18 h ?_
      conv => whnf
      refine WkF.step (Weak.keepS _ [3, 5, 18, 19, 20, 21]) ?_
      conv => whnf
      exact WkF.refl _
    conv => whnf
    exact leS hn17 h (Weak.refl _)
  conv => whnf
  refine fkS h (fun h => ?_) (fun h => ?_)
  · conv => whnf
    refine fkS h (fun h => ?_) (fun h => ?_)
    · conv => whnf
      refine caS (E := E_Bool) h top_works_w rfl (fun _ => rfl) (fun x20 h => ?_)
      conv => whnf
      exact rt (E := E_Bool) h rfl
    conv => whnf
    exact rt (E := E_Bool) h rfl
  conv => whnf
  exact rt (E := E_Bool) h rfl

end Go.Proofs.YtpephpefjddgcaaGreat
namespace Go.Proofs.YtpephpefjddgcaaGreat
open Go Go.VC
def PureTopExact : Prop := ∀ (a0 : List Task) (a1 : Face) (a2 : List (List Int)) (a3 : List Bool) (a4 : Int) (a5 : Int), (a0.length * 48 ≤ BB ∧ ∀ y1 ∈ a0, Task.wf y1) → Face.wf a1 → (a2.length * 24 ≤ BB ∧ ∀ y1 ∈ a2, (y1.length * 8 ≤ BB ∧ ∀ y2 ∈ y1, wfI .i64 y2)) → (a3.length * 1 ≤ BB ∧ ∀ y1 ∈ a3, True) → wfI .i64 a4 → wfI .i64 a5 → top_TopExact a0 a1 a2 a3 a4 a5 = some true
end Go.Proofs.YtpephpefjddgcaaGreat
namespace Go.Proofs.YtpephpefjddgcaaGreat
open Go Go.VC
theorem top_works_eq : top_works = some true := by kernel_rfl
end Go.Proofs.YtpephpefjddgcaaGreat
namespace Go.Proofs.YtpephpefjddgcaaGreat
open Go Go.VC
theorem check_ok (o q : Bool) (e x : Int) (K : Bool → Option Bool) (h : e = 0 → (x = 0 ∧ o = q ∨ x = 7 ∧ o = false)) :
    fk (decide (e = (0 : Int))) (fk (decide (x = (0 : Int))) (fk (!decide (o = q)) (K true) (fk (decide (x = (7 : Int))) (fk o (K true) (fk (!decide (x = (0 : Int))) (K (!decide (x = (7 : Int)))) (K false))) (fk (!decide (x = (0 : Int))) (K (!decide (x = (7 : Int)))) (K false)))) (fk (decide (x = (7 : Int))) (fk o (K true) (fk (!decide (x = (0 : Int))) (K (!decide (x = (7 : Int)))) (K false))) (fk (!decide (x = (0 : Int))) (K (!decide (x = (7 : Int)))) (K false)))) (K false) = K false := by
  by_cases he : e = 0
  rotate_left
  · rw [decide_eq_false he, fk_f]
  rcases h he with ⟨rfl, rfl⟩ | ⟨rfl, rfl⟩
  · subst he; cases o <;> rfl
  · subst he; rfl
theorem least_check {l : List Task} {f : Face} (he : errC l f = 0) : ((leastV l f.P).2 = 0 ∧ decide (fitsF l f) = decide (f.B ≥ (leastV l f.P).1.B) ∨ (leastV l f.P).2 = 7 ∧ decide (fitsF l f) = false) := by
  have hok := errC_zero.1 he
  have hfp := hok.2.1
  unfold faceP at hfp
  have hok1 : okC l ⟨f.P, 1⟩ := okC_b (b := f.B) hok (by omega) (by omega)
  have hlv : leastV l f.P = if fitsF l ⟨f.P, f.P⟩ then (⟨f.P, leastN l f.P⟩, 0) else (⟨0, 0⟩, 7) := by unfold leastV; rw [if_pos ⟨hok.1, by omega, by omega⟩, if_pos (errC_zero.2 hok1)]
  by_cases hp : fitsF l ⟨f.P, f.P⟩
  · rw [hlv, if_pos hp]
    have hL := leastN_is hp
    refine .inl ⟨rfl, ?_⟩
    rw [decide_eq_decide]
    exact ⟨fun h => Int.not_lt.1 fun c => hL.2 _ c h, fun h => fits_le (b := leastN l f.P) (c := f.B) hL.1 h (by omega)⟩
  · rw [hlv, if_neg hp]
    exact .inr ⟨rfl, decide_eq_false fun h => hp (fits_le (b := f.B) h (by omega) (Int.le_refl _))⟩
theorem proofTopExact : PureTopExact := by
  intro l f R G a b hl hf hR hG ha hb
  have hll : l.length ≤ 4611686018427387904 := wf_len hl.1 (Nat.le_refl _)
  have hsl : ∀ t ∈ l, t.Secs.length ≤ 4611686018427387904 := fun t ht => (hl.2 t ht).len
  have hRl : R.length ≤ 4611686018427387904 := by have := hR.1; unfold BB at this; omega
  unfold top_TopExact
  by_cases hg : ¬ GreatP l ∧ G.length ≤ 600 ∧ R.length ≤ 20
  rotate_left
  · refine jn_to true (fun k1 => ?_) (by rw [fk_t, bnd_eq top_works_eq])
    rw [bnd_eq (law05_Great_eq l hll)]
    by_cases h1 : GreatP l
    · rw [decide_eq_true h1, fk_t]
    rw [decide_eq_false h1, fk_f]
    by_cases h2 : (G.length : Int) > 600
    · rw [decide_eq_true h2, fk_t]
    rw [decide_eq_false h2, fk_f, decide_eq_true (show (R.length : Int) > 20 from Int.not_le.1 fun c => hg ⟨h1, by omega, by omega⟩)]
  obtain ⟨g1, g2, g3⟩ := hg
  refine jn_to false (fun k1 => by rw [bnd_eq (law05_Great_eq l hll), decide_eq_false g1, fk_f, decide_eq_false (by omega), fk_f, decide_eq_false (by omega)]) ?_
  rw [fk_f, bnd_eq (verdict_Fits_eq l f hll), bnd_eq (face_Least_eq l f.P hll)]
  refine jn_to false (fun k6 => check_ok (decide (fitsF l f)) (decide (f.B ≥ (leastV l f.P).1.B)) (errC l f) (leastV l f.P).2 k6 least_check) ?_
  rw [fk_f]
  refine lp_up R.length (by unfold FU; omega) (fun _ => True) trivial ?_
  intro nx k hk _ hnx
  rw [lt_nat]
  by_cases c : k < R.length
  · rw [decide_eq_true c, fk_t, ix_lt c, wr_succ k _ c (by omega)]
    by_cases hr : (R[k].length : Int) > 1100
    · rw [decide_eq_true hr, fk_t, bnd_eq top_works_eq]
    · rw [decide_eq_false hr, fk_f]; exact hnx c trivial
  rw [decide_eq_false c, fk_f]
  clear hnx nx hk c k
  dsimp only
  by_cases hfit : fitsF l f
  rotate_left
  · refine jn_to true (fun k10 => ?_) (by rw [fk_t, bnd_eq top_works_eq])
    rw [decide_eq_false hfit, Bool.not_false, fk_t]
  rw [decide_eq_true hfit]
  by_cases hpat : patP l R
  rotate_left
  · refine jn_to true (fun k10 => ?_) (by rw [fk_t, bnd_eq top_works_eq])
    rw [Bool.not_true, fk_f, bnd_eq (ref07_Legal_eq l R hll hsl hRl), decide_eq_false hpat, Bool.not_false, fk_t]
  obtain ⟨bl, hb9, hleg⟩ := ref09_Legal_ex f G (by omega)
  cases bl with
  | false =>
    refine jn_to true (fun k10 => ?_) (by rw [fk_t, bnd_eq top_works_eq])
    rw [Bool.not_true, fk_f, bnd_eq (ref07_Legal_eq l R hll hsl hRl), decide_eq_true hpat, Bool.not_true, fk_f, bnd_eq hb9, Bool.not_false]
  | true =>
  refine jn_to false (fun k10 => by rw [Bool.not_true, fk_f, bnd_eq (ref07_Legal_eq l R hll hsl hRl), decide_eq_true hpat, Bool.not_true, fk_f, bnd_eq hb9, Bool.not_true]) ?_
  obtain ⟨hfp, hlg⟩ := hleg rfl
  have hfp' := hfp
  unfold faceP at hfp'
  rw [fk_f]
  have hq : G.length / f.P.toNat * f.P.toNat ≤ G.length := Nat.div_mul_le_self _ _
  have e1 : wr ((G.length : Int).tdiv f.P) = ((G.length / f.P.toNat : Nat) : Int) := by
    have : (G.length : Int).tdiv f.P = ((G.length / f.P.toNat : Nat) : Int) := by
      rw [Int.tdiv_eq_ediv_of_nonneg (by omega)]
      conv => lhs; rw [show f.P = ((f.P.toNat : Nat) : Int) by omega]
      rfl
    have h2 := Nat.div_le_self G.length f.P.toNat
    generalize G.length / f.P.toNat = z at this h2 ⊢
    rw [this, wr_in _ (by omega)]
  have e2 : wr (((G.length / f.P.toNat : Nat) : Int) * f.P) = ((G.length / f.P.toNat * f.P.toNat : Nat) : Int) := by
    have : ((G.length / f.P.toNat : Nat) : Int) * f.P = ((G.length / f.P.toNat * f.P.toNat : Nat) : Int) := by
      conv => lhs; rw [show f.P = ((f.P.toNat : Nat) : Int) by omega]
      rfl
    rw [this, wr_in _ (by omega)]
  by_cases hab : 0 ≤ a ∧ a ≤ b ∧ b ≤ ((G.length / f.P.toNat * f.P.toNat : Nat) : Int)
  rotate_left
  · refine jn_to true (fun k14 => ?_) (by rw [fk_t, bnd_eq top_works_eq])
    by_cases h1 : a < 0
    · rw [decide_eq_true h1, fk_t]
    rw [decide_eq_false h1, fk_f]
    by_cases h2 : b < a
    · rw [decide_eq_true h2, fk_t]
    rw [decide_eq_false h2, fk_f, ck_t (decide_eq_true (by omega)), e1, e2, decide_eq_true (show b > _ by omega)]
  obtain ⟨a0, ab, bg⟩ := hab
  refine jn_to false (fun k14 => by rw [decide_eq_false (by omega), fk_f, decide_eq_false (by omega), fk_f, ck_t (decide_eq_true (by omega)), e1, e2, decide_eq_false (by omega)]) ?_
  rw [fk_f, bnd_eq (demand_Of_eq l R a b hll hRl), if_pos hpat, if_pos hpat]
  dsimp only
  obtain ⟨A, rfl⟩ : ∃ A : Nat, a = (A : Int) := ⟨a.toNat, by omega⟩
  obtain ⟨N, rfl⟩ : ∃ N : Nat, b = ((A + N : Nat) : Int) := ⟨(b - A).toNat, by omega⟩
  have hwin := window hfp (P := f.P.toNat) (B := f.B.toNat) (by omega) (by omega) hlg A N (by omega)
  have hof : ofV (A : Int) ((A + N : Nat) : Int) l R ≤ sumB l (((A + N : Nat) : Int) - (A : Int)) := ofV_le (by omega) hpat.1.1 hpat.2.2
  have hneed := fits_int hfit (t := (N : Int)) (by omega)
  rw [show ((A + N : Nat) : Int) - (A : Int) = (N : Int) by omega] at hof
  have hbl : (0 : Int) ≤ (blockV l (N : Int) : Int) := by omega
  unfold needV at hneed
  refine lp_inv (fun v => A + N - v.2.toNat) (fun v => ∃ x : Nat, v = ((gcnt (gOf G) A x : Int), ((A + x : Nat) : Int)) ∧ x ≤ N) ?_ FU _ ⟨0, rfl, Nat.zero_le _⟩ (by unfold FU; simp only; omega)
  rintro nx v ⟨x, rfl, hx⟩ hnx
  dsimp only
  rw [lt_nat]
  by_cases c : A + x < A + N
  · have hlt : A + x < G.length := by omega
    have hle := gcnt_le (gOf G) A x
    have hc : gcnt (gOf G) A (x + 1) = gcnt (gOf G) A x + (if G[A + x] = true then 1 else 0) := by
      show _ + (if gOf G (A + x) = true then 1 else 0) = _
      unfold gOf
      rw [List.getElem?_eq_getElem hlt]; rfl
    rw [decide_eq_true c, fk_t, jn_eq, ix_lt hlt, wr_succ (A + x) _ c (by omega)]
    have hn := hnx (((gcnt (gOf G) A (x + 1) : Nat) : Int), ((A + x + 1 : Nat) : Int)) ⟨x + 1, rfl, by omega⟩ (by simp only [Int.toNat_natCast]; omega)
    rw [hc] at hn
    cases hv : G[A + x]
    · rw [hv] at hn
      rw [fk_f]; simpa using hn
    · rw [hv] at hn
      rw [fk_t, wr_in _ (by omega)]; simpa using hn
  · have ex : x = N := by omega
    subst ex
    rw [decide_eq_false c, fk_f, decide_eq_true rfl, fk_t, decide_eq_true (by omega), fk_t, bnd_eq top_works_eq]
end Go.Proofs.YtpephpefjddgcaaGreat
namespace Go.Proofs.YtpephpefjddgcaaGreat.topExact
open Go Go.VC Go.ChangeShapes Go.WideShapes Go.ChangeAt Go.RowKit
theorem own : ownKnob Tryz.prog.godebug = none := by kernel_rfl
theorem laidOut : laidOutB Tryz.prog = true := by kernel_rfl
theorem lifted (os : Os) (started : os.Started) (H : Type) (enc : TypeId × Value → H) :
    ReturnsInHanded {} Tryz.checked os 3 .any (Rows.topExactSpec.pre6 enc Tryz.prog Tryz.f3 Rows.topExactRow.domain false) (Rows.topExactSpec.post enc Tryz.prog Tryz.f3 false true false false) := by
  refine returnsInHanded_of_change_sized (C := Tryz.checked) own started (by kernel_rfl) Tryz.func3
    (ChangeSpec.witness6 (enc := enc) (C := Tryz.checked) false ⟨#[], #[.slice none 0 0, .agg #[.int .i64 0, .int .i64 0], .slice none 0 0, .slice none 0 0, .int .i64 0, .int .i64 0], []⟩ 8 (by kernel_rfl) (by kernel_rfl) (by kernel_rfl) (by kernel_rfl)) ?_
  intro W base args ds gs before hval0 hW hcnd hsz0 _
  have hsz : (DataW.weightsEach Tryz.prog (Tryz.f3.params.toList ++ Rows.topExactSpec.plain.varTypes Tryz.prog) (ds ++ gs)).all (· ≤ reachBytes) = true := hsz0
  have hval : ∀ (j : Nat) t v, Tryz.f3.params[j]? = some t → args[j]? = some v → Value.okWide Tryz.prog W .any base t v := hval0
  have hW' := hW
  obtain ⟨p, q, hA0, hV, rfl, hfz, hnd⟩ := hW
  have hA : DataW.TrodAll enc Tryz.prog W 0 (fun _ => true) true Tryz.f3.params.toList args.toList ds p := hA0
  rw [Tryz.params3] at hA hval hsz
  obtain ⟨v0, vs0, d0, ds0, p0, q0, hargs, rfl, rfl, h0, r0⟩ := trodAll_cons hA
  obtain ⟨v1, vs1, d1, ds1, p1, q1, rfl, rfl, rfl, h1, r1⟩ := trodAll_cons r0
  obtain ⟨v2, vs2, d2, ds2, p2, q2, rfl, rfl, rfl, h2, r2⟩ := trodAll_cons r1
  obtain ⟨v3, vs3, d3, ds3, p3, q3, rfl, rfl, rfl, h3, r3⟩ := trodAll_cons r2
  obtain ⟨v4, vs4, d4, ds4, p4, q4, rfl, rfl, rfl, h4, r4⟩ := trodAll_cons r3
  obtain ⟨v5, vs5, d5, ds5, p5, q5, rfl, rfl, rfl, h5, r5⟩ := trodAll_cons r4
  obtain ⟨rfl, rfl, rfl⟩ := trodAll_nil r5
  obtain rfl : args = #[v0, v1, v2, v3, v4, v5] := by cases args; simp_all
  obtain ⟨rfl, rfl⟩ := trodVars_none hV
  have lt0 : ∀ x ∈ p0, x.block < W.heap.size := by obtain ⟨m, hm⟩ := h0; exact DataW.trod_lt m _ _ _ hm
  have wt0 : ∀ k ∈ d0.weights Tryz.prog 22, k ≤ BB := fun k hk => of_decide_eq_true (List.all_eq_true.1 hsz _ (DataW.weights_mem_each (j := 0) rfl rfl k hk))
  obtain ⟨c0, s0, g0⟩ := open_cv tab (m := 8) (t := 22) rfl (hval 0 22 v0 rfl rfl) h0 wt0
  have g0 := g0 _ T22
  obtain ⟨a0, rfl, w0⟩ := (s0.l (f := Task.enc) (W := (fun x => Task.wf x)) T22 T53 (fun _ _ h => (Task.of h)))
  have lt1 : ∀ x ∈ p1, x.block < W.heap.size := by obtain ⟨m, hm⟩ := h1; exact DataW.trod_lt m _ _ _ hm
  have wt1 : ∀ k ∈ d1.weights Tryz.prog 24, k ≤ BB := fun k hk => of_decide_eq_true (List.all_eq_true.1 hsz _ (DataW.weights_mem_each (j := 1) rfl rfl k hk))
  obtain ⟨c1, s1, g1⟩ := open_cv tab (m := 8) (t := 24) rfl (hval 1 24 v1 rfl rfl) h1 wt1
  have g1 := g1 _ T24
  obtain ⟨a1, rfl, w1⟩ := (Face.of s1)
  have lt2 : ∀ x ∈ p2, x.block < W.heap.size := by obtain ⟨m, hm⟩ := h2; exact DataW.trod_lt m _ _ _ hm
  have wt2 : ∀ k ∈ d2.weights Tryz.prog 25, k ≤ BB := fun k hk => of_decide_eq_true (List.all_eq_true.1 hsz _ (DataW.weights_mem_each (j := 2) rfl rfl k hk))
  obtain ⟨c2, s2, g2⟩ := open_cv tab (m := 8) (t := 25) rfl (hval 2 25 v2 rfl rfl) h2 wt2
  have g2 := g2 _ T25
  obtain ⟨a2, rfl, w2⟩ := (s2.l (f := (eL (eI .i64))) (W := (fun x => (x.length * 8 ≤ BB ∧ ∀ y1 ∈ x, wfI .i64 y1))) T25 T34 (fun _ _ h => (h.l (f := (eI .i64)) (W := (fun x => wfI .i64 x)) T34 T3 (fun _ _ h => (h.i T3)))))
  have lt3 : ∀ x ∈ p3, x.block < W.heap.size := by obtain ⟨m, hm⟩ := h3; exact DataW.trod_lt m _ _ _ hm
  have wt3 : ∀ k ∈ d3.weights Tryz.prog 26, k ≤ BB := fun k hk => of_decide_eq_true (List.all_eq_true.1 hsz _ (DataW.weights_mem_each (j := 3) rfl rfl k hk))
  obtain ⟨c3, s3, g3⟩ := open_cv tab (m := 8) (t := 26) rfl (hval 3 26 v3 rfl rfl) h3 wt3
  have g3 := g3 _ T26
  obtain ⟨a3, rfl, w3⟩ := (s3.l (f := eB) (W := (fun x => True)) T26 T4 (fun _ _ h => (andT (h.b T4))))
  have lt4 : ∀ x ∈ p4, x.block < W.heap.size := by obtain ⟨m, hm⟩ := h4; exact DataW.trod_lt m _ _ _ hm
  have wt4 : ∀ k ∈ d4.weights Tryz.prog 3, k ≤ BB := fun k hk => of_decide_eq_true (List.all_eq_true.1 hsz _ (DataW.weights_mem_each (j := 4) rfl rfl k hk))
  obtain ⟨c4, s4, g4⟩ := open_cv tab (m := 8) (t := 3) rfl (hval 4 3 v4 rfl rfl) h4 wt4
  have g4 := g4 _ T3
  obtain ⟨a4, rfl, w4⟩ := (s4.i T3)
  have lt5 : ∀ x ∈ p5, x.block < W.heap.size := by obtain ⟨m, hm⟩ := h5; exact DataW.trod_lt m _ _ _ hm
  have wt5 : ∀ k ∈ d5.weights Tryz.prog 3, k ≤ BB := fun k hk => of_decide_eq_true (List.all_eq_true.1 hsz _ (DataW.weights_mem_each (j := 5) rfl rfl k hk))
  obtain ⟨c5, s5, g5⟩ := open_cv tab (m := 8) (t := 3) rfl (hval 5 3 v5 rfl rfl) h5 wt5
  have g5 := g5 _ T3
  obtain ⟨a5, rfl, w5⟩ := (s5.i T3)
  clear hA0 hval0 hsz0 hsz
  have pure := proofTopExact a0 a1 a2 a3 a4 a5 w0 w1 w2 w3 w4 w5
  refine ((top_TopExact_w a0 a1 a2 a3 a4 a5 true pure).2 W (pw W) [v0, v1, v2, v3, v4, v5] (fun _ h => h) (All2.cons g0 (All2.cons g1 (All2.cons g2 (All2.cons g3 (All2.cons g4 (All2.cons g5 All2.nil))))))).mono fun e W' ⟨v, rs, p', he, hR, hrep, bel, _⟩ => ?_
  subst hR he
  obtain rfl := RepD_bool hrep
  exact ⟨_, rfl, _, _, _, [], _, [], hW', trodAll_mk1 (shut_bool Tryz.underlying4 _), (trodAll_cons_mk (Below.trod laidOut (by kernel_rfl) (of_decide_eq_true (by kernel_rfl)) h0 bel lt0) (trodAll_cons_mk (Below.trod laidOut (by kernel_rfl) (of_decide_eq_true (by kernel_rfl)) h1 bel lt1) (trodAll_cons_mk (Below.trod laidOut (by kernel_rfl) (of_decide_eq_true (by kernel_rfl)) h2 bel lt2) (trodAll_cons_mk (Below.trod laidOut (by kernel_rfl) (of_decide_eq_true (by kernel_rfl)) h3 bel lt3) (trodAll_cons_mk (Below.trod laidOut (by kernel_rfl) (of_decide_eq_true (by kernel_rfl)) h4 bel lt4) (trodAll_cons_mk (Below.trod laidOut (by kernel_rfl) (of_decide_eq_true (by kernel_rfl)) h5 bel lt5) trodAll_mk0)))))), rfl, bel.frame _, fun h => by cases h⟩
theorem over : Rows.topExactRow.holds Tryz.pinned (OpenSpec.ofChange Rows.topExactSpec) :=
  OpenClaim.holds_of_wide 3 Tryz.f3 rfl rfl rfl rfl rfl rfl rfl ⟨rfl, rfl, rfl, rfl, rfl⟩ rfl rfl rfl rfl rfl (by kernel_rfl) Tryz.func3 (by kernel_rfl)
    (of_decide_eq_true (by kernel_rfl)) (by unfold Func.isWrapper; first | (rw [if_pos (by decide +kernel)]; kernel_rfl) | (rw [if_neg (by decide +kernel)]; exact ⟨rfl, rfl⟩))
    (fun os started H enc _ => lifted os started H enc)
end Go.Proofs.YtpephpefjddgcaaGreat.topExact
namespace Go.Proofs.YtpephpefjddgcaaGreat
theorem topExact_holds : Rows.TopExactSaid := topExact.over
end Go.Proofs.YtpephpefjddgcaaGreat
