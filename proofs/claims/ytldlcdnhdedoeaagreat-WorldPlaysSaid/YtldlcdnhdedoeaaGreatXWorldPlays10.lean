/- Part 21 of what follows is proved here: what the statement WorldPlays needs of functions and plain laws. -/
import Derived.Test.YtldlcdnhdedoeaaGreatXWorldPlays7
import Derived.Test.YtldlcdnhdedoeaaGreatXWorldPlays8
import Derived.Test.YtldlcdnhdedoeaaGreatXWorldPlays9
import Derived.Test.YtldlcdnhdedoeaaGreatXWorldPlays0
set_option linter.unusedVariables false
set_option linter.unusedSimpArgs false
set_option maxRecDepth 100000
set_option maxHeartbeats 40000000
namespace Go.Proofs.YtldlcdnhdedoeaaGreat
open Go Go.VC
noncomputable def kernel_kinds_1 (a0:PartState) (a1:Face) (a2:KernelCmd) (a3:Int):Option (PartState×Int):=
 bnd (part_Release a0 a2.I a2.V a3) fun x1=>some (x1.1,x1.2)
theorem kernel_kinds_1_w (a0:PartState) (a1:Face) (a2:KernelCmd) (a3:Int) (r:PartState×Int) (h:kernel_kinds_1 a0 a1 a2 a3=some r):Go.VC.Spec Tryz.prog 126 [.agg (PartState.enc a0),.agg (Face.enc a1),.agg (KernelCmd.enc a2),.d (.int .i64 a3)] (fun y=>y=E_PartState_Int r):=by
 refine Spec.of_xc (fn:=Tryz.f126) tab ⟨[(0,[3,4,6,8]),(1,[8,9])],[],[],[]⟩ 19 [.cell 8 51,.tmp 9] rfl rfl rfl rfl rfl rfl ?_<;>conv=>whnf
 refine ccS (E:=E_PartState_Int) h (part_Release_w a0 a2.I a2.V a3) rfl rfl (fun x1 h=>?_)<;>conv=>whnf
 exact rt (E:=E_PartState_Int) h rfl
end Go.Proofs.YtldlcdnhdedoeaaGreat
namespace Go.Proofs.YtldlcdnhdedoeaaGreat
open Go Go.VC
noncomputable def kernel_on_1 (a0:KernelState) (a1:KernelCmd):Option (KernelState×Int×Int):=
 ix a0.Parts a1.Part fun x1=>ix a0.Faces a1.Part fun x2=>bnd (kernel_kinds_1 x1 x2 a1 a0.Now) fun x3=>bnd (kernel_State_with a0 a1.Part x3.1) fun x4=>some (x4,(0:Int),x3.2)
theorem kernel_on_1_w (a0:KernelState) (a1:KernelCmd) (r:KernelState×Int×Int) (h:kernel_on_1 a0 a1=some r):Go.VC.Spec Tryz.prog 158 [.agg (KernelState.enc a0),.agg (KernelCmd.enc a1),.dp [.fn 126 []]] (fun y=>y=E_KernelState_Int_Int r):=by
 refine Spec.of_xc (fn:=Tryz.f158) tab ⟨[(0,[2,3,4,5]),(1,[3,4,5,8,9]),(2,[5,6,7])],[],[],[]⟩ 36 [.cell 5 35,.tmp 6,.tmp 7] rfl rfl rfl rfl rfl rfl ?_<;>conv=>whnf
 refine⟨22,?_⟩
 conv=>whnf
 refine ixS (enc:=PartState.enc) h rfl (fun _=>rfl) (fun x1 h=>?_)<;>conv=>whnf
 refine ixS (enc:=Face.enc) h rfl (fun _=>rfl) (fun x2 h=>?_)<;>conv=>whnf
 refine dcS (E:=E_PartState_Int) h (kernel_kinds_1_w x1 x2 a1 a0.Now) rfl (fun x3 h=>?_)<;>conv=>whnf
 refine drS (by kernel_rfl) ?_<;>conv=>whnf
 refine ccS (E:=E_KernelState) h (kernel_State_with_w a0 a1.Part x3.1) rfl rfl (fun x4 h=>?_)<;>conv=>whnf
 exact rt (E:=E_KernelState_Int_Int) h rfl
end Go.Proofs.YtldlcdnhdedoeaaGreat
namespace Go.Proofs.YtldlcdnhdedoeaaGreat
open Go Go.VC
noncomputable def kernel_kinds_2 (a0:PartState) (a1:Face) (a2:KernelCmd) (a3:Int):Option (PartState×Int):=
 bnd (admit_Add a0 a1 a2.T) fun x1=>some (x1.1,x1.2)
theorem kernel_kinds_2_w (a0:PartState) (a1:Face) (a2:KernelCmd) (a3:Int) (r:PartState×Int) (h:kernel_kinds_2 a0 a1 a2 a3=some r):Go.VC.Spec Tryz.prog 127 [.agg (PartState.enc a0),.agg (Face.enc a1),.agg (KernelCmd.enc a2),.d (.int .i64 a3)] (fun y=>y=E_PartState_Int r):=by
 refine Spec.of_xc (fn:=Tryz.f127) tab ⟨[(0,[4,5,6,8]),(1,[8,9])],[],[],[]⟩ 17 [.cell 8 51,.tmp 9] rfl rfl rfl rfl rfl rfl ?_<;>conv=>whnf
 refine ccS (E:=E_PartState_Int) h (admit_Add_w a0 a1 a2.T) rfl rfl (fun x1 h=>?_)<;>conv=>whnf
 exact rt (E:=E_PartState_Int) h rfl
end Go.Proofs.YtldlcdnhdedoeaaGreat
namespace Go.Proofs.YtldlcdnhdedoeaaGreat
open Go Go.VC
noncomputable def kernel_on_1_1 (a0:KernelState) (a1:KernelCmd):Option (KernelState×Int×Int):=
 ix a0.Parts a1.Part fun x1=>ix a0.Faces a1.Part fun x2=>bnd (kernel_kinds_2 x1 x2 a1 a0.Now) fun x3=>bnd (kernel_State_with a0 a1.Part x3.1) fun x4=>some (x4,(0:Int),x3.2)
theorem kernel_on_1_1_w (a0:KernelState) (a1:KernelCmd) (r:KernelState×Int×Int) (h:kernel_on_1_1 a0 a1=some r):Go.VC.Spec Tryz.prog 158 [.agg (KernelState.enc a0),.agg (KernelCmd.enc a1),.dp [.fn 127 []]] (fun y=>y=E_KernelState_Int_Int r):=by
 refine Spec.of_xc (fn:=Tryz.f158) tab ⟨[(0,[2,3,4,5]),(1,[3,4,5,8,9]),(2,[5,6,7])],[],[],[]⟩ 36 [.cell 5 35,.tmp 6,.tmp 7] rfl rfl rfl rfl rfl rfl ?_<;>conv=>whnf
 refine⟨22,?_⟩
 conv=>whnf
 refine ixS (enc:=PartState.enc) h rfl (fun _=>rfl) (fun x1 h=>?_)<;>conv=>whnf
 refine ixS (enc:=Face.enc) h rfl (fun _=>rfl) (fun x2 h=>?_)<;>conv=>whnf
 refine dcS (E:=E_PartState_Int) h (kernel_kinds_2_w x1 x2 a1 a0.Now) rfl (fun x3 h=>?_)<;>conv=>whnf
 refine drS (by kernel_rfl) ?_<;>conv=>whnf
 refine ccS (E:=E_KernelState) h (kernel_State_with_w a0 a1.Part x3.1) rfl rfl (fun x4 h=>?_)<;>conv=>whnf
 exact rt (E:=E_KernelState_Int_Int) h rfl
end Go.Proofs.YtldlcdnhdedoeaaGreat
namespace Go.Proofs.YtldlcdnhdedoeaaGreat
open Go Go.VC
noncomputable def kernel_kinds_3 (a0:PartState) (a1:Face) (a2:KernelCmd) (a3:Int):Option (PartState×Int):=
 bnd (admit_Drop a0 a2.I) fun x1=>some (x1.1,x1.2)
theorem kernel_kinds_3_w (a0:PartState) (a1:Face) (a2:KernelCmd) (a3:Int) (r:PartState×Int) (h:kernel_kinds_3 a0 a1 a2 a3=some r):Go.VC.Spec Tryz.prog 128 [.agg (PartState.enc a0),.agg (Face.enc a1),.agg (KernelCmd.enc a2),.d (.int .i64 a3)] (fun y=>y=E_PartState_Int r):=by
 refine Spec.of_xc (fn:=Tryz.f128) tab ⟨[(0,[4,6,8]),(1,[8,9])],[],[],[]⟩ 16 [.cell 8 51,.tmp 9] rfl rfl rfl rfl rfl rfl ?_<;>conv=>whnf
 refine ccS (E:=E_PartState_Int) h (admit_Drop_w a0 a2.I) rfl rfl (fun x1 h=>?_)<;>conv=>whnf
 exact rt (E:=E_PartState_Int) h rfl
end Go.Proofs.YtldlcdnhdedoeaaGreat
namespace Go.Proofs.YtldlcdnhdedoeaaGreat
open Go Go.VC
noncomputable def kernel_on_1_2 (a0:KernelState) (a1:KernelCmd):Option (KernelState×Int×Int):=
 ix a0.Parts a1.Part fun x1=>ix a0.Faces a1.Part fun x2=>bnd (kernel_kinds_3 x1 x2 a1 a0.Now) fun x3=>bnd (kernel_State_with a0 a1.Part x3.1) fun x4=>some (x4,(0:Int),x3.2)
theorem kernel_on_1_2_w (a0:KernelState) (a1:KernelCmd) (r:KernelState×Int×Int) (h:kernel_on_1_2 a0 a1=some r):Go.VC.Spec Tryz.prog 158 [.agg (KernelState.enc a0),.agg (KernelCmd.enc a1),.dp [.fn 128 []]] (fun y=>y=E_KernelState_Int_Int r):=by
 refine Spec.of_xc (fn:=Tryz.f158) tab ⟨[(0,[2,3,4,5]),(1,[3,4,5,8,9]),(2,[5,6,7])],[],[],[]⟩ 36 [.cell 5 35,.tmp 6,.tmp 7] rfl rfl rfl rfl rfl rfl ?_<;>conv=>whnf
 refine⟨22,?_⟩
 conv=>whnf
 refine ixS (enc:=PartState.enc) h rfl (fun _=>rfl) (fun x1 h=>?_)<;>conv=>whnf
 refine ixS (enc:=Face.enc) h rfl (fun _=>rfl) (fun x2 h=>?_)<;>conv=>whnf
 refine dcS (E:=E_PartState_Int) h (kernel_kinds_3_w x1 x2 a1 a0.Now) rfl (fun x3 h=>?_)<;>conv=>whnf
 refine drS (by kernel_rfl) ?_<;>conv=>whnf
 refine ccS (E:=E_KernelState) h (kernel_State_with_w a0 a1.Part x3.1) rfl rfl (fun x4 h=>?_)<;>conv=>whnf
 exact rt (E:=E_KernelState_Int_Int) h rfl
end Go.Proofs.YtldlcdnhdedoeaaGreat
namespace Go.Proofs.YtldlcdnhdedoeaaGreat
open Go Go.VC
noncomputable def kernel_kinds_4 (a0:PartState) (a1:Face) (a2:KernelCmd) (a3:Int):Option (PartState×Int):=
 bnd (admit_Change a0 a1 a2.I a2.T) fun x1=>some (x1.1,x1.2)
theorem kernel_kinds_4_w (a0:PartState) (a1:Face) (a2:KernelCmd) (a3:Int) (r:PartState×Int) (h:kernel_kinds_4 a0 a1 a2 a3=some r):Go.VC.Spec Tryz.prog 129 [.agg (PartState.enc a0),.agg (Face.enc a1),.agg (KernelCmd.enc a2),.d (.int .i64 a3)] (fun y=>y=E_PartState_Int r):=by
 refine Spec.of_xc (fn:=Tryz.f129) tab ⟨[(0,[4,5,6,8]),(1,[8,9])],[],[],[]⟩ 19 [.cell 8 51,.tmp 9] rfl rfl rfl rfl rfl rfl ?_<;>conv=>whnf
 refine ccS (E:=E_PartState_Int) h (admit_Change_w a0 a1 a2.I a2.T) rfl rfl (fun x1 h=>?_)<;>conv=>whnf
 exact rt (E:=E_PartState_Int) h rfl
end Go.Proofs.YtldlcdnhdedoeaaGreat
namespace Go.Proofs.YtldlcdnhdedoeaaGreat
open Go Go.VC
noncomputable def kernel_on_1_3 (a0:KernelState) (a1:KernelCmd):Option (KernelState×Int×Int):=
 ix a0.Parts a1.Part fun x1=>ix a0.Faces a1.Part fun x2=>bnd (kernel_kinds_4 x1 x2 a1 a0.Now) fun x3=>bnd (kernel_State_with a0 a1.Part x3.1) fun x4=>some (x4,(0:Int),x3.2)
theorem kernel_on_1_3_w (a0:KernelState) (a1:KernelCmd) (r:KernelState×Int×Int) (h:kernel_on_1_3 a0 a1=some r):Go.VC.Spec Tryz.prog 158 [.agg (KernelState.enc a0),.agg (KernelCmd.enc a1),.dp [.fn 129 []]] (fun y=>y=E_KernelState_Int_Int r):=by
 refine Spec.of_xc (fn:=Tryz.f158) tab ⟨[(0,[2,3,4,5]),(1,[3,4,5,8,9]),(2,[5,6,7])],[],[],[]⟩ 36 [.cell 5 35,.tmp 6,.tmp 7] rfl rfl rfl rfl rfl rfl ?_<;>conv=>whnf
 refine⟨22,?_⟩
 conv=>whnf
 refine ixS (enc:=PartState.enc) h rfl (fun _=>rfl) (fun x1 h=>?_)<;>conv=>whnf
 refine ixS (enc:=Face.enc) h rfl (fun _=>rfl) (fun x2 h=>?_)<;>conv=>whnf
 refine dcS (E:=E_PartState_Int) h (kernel_kinds_4_w x1 x2 a1 a0.Now) rfl (fun x3 h=>?_)<;>conv=>whnf
 refine drS (by kernel_rfl) ?_<;>conv=>whnf
 refine ccS (E:=E_KernelState) h (kernel_State_with_w a0 a1.Part x3.1) rfl rfl (fun x4 h=>?_)<;>conv=>whnf
 exact rt (E:=E_KernelState_Int_Int) h rfl
end Go.Proofs.YtldlcdnhdedoeaaGreat
namespace Go.Proofs.YtldlcdnhdedoeaaGreat
open Go Go.VC
noncomputable def kernel_kinds_5 (a0:KernelState) (a1:KernelCmd):Option (KernelState×Int×Int):=
 bnd (port_Send a0.Lines a1.Part a1.I a1.V) fun x1=>some (⟨a0.Table,a0.Faces,a0.Parts,x1.1,a0.Now⟩,(0:Int),x1.2)
theorem kernel_kinds_5_w (a0:KernelState) (a1:KernelCmd) (r:KernelState×Int×Int) (h:kernel_kinds_5 a0 a1=some r):Go.VC.Spec Tryz.prog 130 [.agg (KernelState.enc a0),.agg (KernelCmd.enc a1)] (fun y=>y=E_KernelState_Int_Int r):=by
 refine Spec.of_xc (fn:=Tryz.f130) tab ⟨[(0,[2,3,4]),(1,[2,4,7,8]),(2,[2,4,8]),(3,[4,5,6])],[],[],[]⟩ 25 [.cell 4 35,.tmp 5,.tmp 6] rfl rfl rfl rfl rfl rfl ?_<;>conv=>whnf
 refine ccS (E:=E_ListPortLine_Int) h (port_Send_w a0.Lines a1.Part a1.I a1.V) rfl rfl (fun x1 h=>?_)<;>conv=>whnf
 exact rt (E:=E_KernelState_Int_Int) h rfl
end Go.Proofs.YtldlcdnhdedoeaaGreat
namespace Go.Proofs.YtldlcdnhdedoeaaGreat
open Go Go.VC
noncomputable def kernel_kinds_6 (a0:KernelState) (a1:KernelCmd):Option (KernelState×Int×Int):=
 bnd (port_Read a0.Lines a1.Part a1.I) fun x1=>some (⟨a0.Table,a0.Faces,a0.Parts,x1.2.1,a0.Now⟩,x1.1,x1.2.2)
theorem kernel_kinds_6_w (a0:KernelState) (a1:KernelCmd) (r:KernelState×Int×Int) (h:kernel_kinds_6 a0 a1=some r):Go.VC.Spec Tryz.prog 131 [.agg (KernelState.enc a0),.agg (KernelCmd.enc a1)] (fun y=>y=E_KernelState_Int_Int r):=by
 refine Spec.of_xc (fn:=Tryz.f131) tab ⟨[(0,[2,3,4]),(1,[2,4,7,8,9]),(2,[2,4,7,9]),(3,[4,5,6])],[],[],[]⟩ 26 [.cell 4 35,.tmp 5,.tmp 6] rfl rfl rfl rfl rfl rfl ?_<;>conv=>whnf
 refine ccS (E:=E_Int_ListPortLine_Int) h (port_Read_w a0.Lines a1.Part a1.I) rfl rfl (fun x1 h=>?_)<;>conv=>whnf
 exact rt (E:=E_KernelState_Int_Int) h rfl
end Go.Proofs.YtldlcdnhdedoeaaGreat
namespace Go.Proofs.YtldlcdnhdedoeaaGreat
open Go Go.VC
noncomputable def kernel_Do (a0:KernelState) (a1:KernelCmd):Option (KernelState×Int×Int):=
 bnd (kernel_Right a0) fun x1=>fk (!x1) (some (a0,(0:Int),(1:Int))) (bnd kernel_kinds fun x2=>fk (decide (a1.Kind=(1:Int))) (jn (fun (w3:Bool)=>fk w3 (some (a0,(0:Int),(4:Int))) (bnd (kernel_on_1 a0 a1) fun x4=>some (x4.1,x4.2.1,x4.2.2))) (fun k3=>fk (decide (a1.Part<(0:Int))) (k3 true) (k3 (decide (a1.Part≥(a0.Parts.length:Int)))))) (fk (decide (a1.Kind=(4:Int))) (jn (fun (w5:Bool)=>fk w5 (some (a0,(0:Int),(4:Int))) (bnd (kernel_on_1_1 a0 a1) fun x6=>some (x6.1,x6.2.1,x6.2.2))) (fun k5=>fk (decide (a1.Part<(0:Int))) (k5 true) (k5 (decide (a1.Part≥(a0.Parts.length:Int)))))) (fk (decide (a1.Kind=(5:Int))) (jn (fun (w7:Bool)=>fk w7 (some (a0,(0:Int),(4:Int))) (bnd (kernel_on_1_2 a0 a1) fun x8=>some (x8.1,x8.2.1,x8.2.2))) (fun k7=>fk (decide (a1.Part<(0:Int))) (k7 true) (k7 (decide (a1.Part≥(a0.Parts.length:Int)))))) (fk (decide (a1.Kind=(6:Int))) (jn (fun (w9:Bool)=>fk w9 (some (a0,(0:Int),(4:Int))) (bnd (kernel_on_1_3 a0 a1) fun x10=>some (x10.1,x10.2.1,x10.2.2))) (fun k9=>fk (decide (a1.Part<(0:Int))) (k9 true) (k9 (decide (a1.Part≥(a0.Parts.length:Int)))))) (fk (decide (a1.Kind=(2:Int))) (jn (fun (w11:Bool)=>fk w11 (some (a0,(0:Int),(4:Int))) (bnd (kernel_kinds_5 a0 a1) fun x12=>some (x12.1,x12.2.1,x12.2.2))) (fun k11=>fk (decide (a1.Part<(0:Int))) (k11 true) (k11 (decide (a1.Part≥(a0.Parts.length:Int)))))) (fk (decide (a1.Kind=(3:Int))) (jn (fun (w13:Bool)=>fk w13 (some (a0,(0:Int),(4:Int))) (bnd (kernel_kinds_6 a0 a1) fun x14=>some (x14.1,x14.2.1,x14.2.2))) (fun k13=>fk (decide (a1.Part<(0:Int))) (k13 true) (k13 (decide (a1.Part≥(a0.Parts.length:Int)))))) (jn (fun (w15:Unit)=>some (a0,(0:Int),(4:Int))) (fun k15=>k15 ()))))))))
theorem kernel_Do_w (a0:KernelState) (a1:KernelCmd) (r:KernelState×Int×Int) (h:kernel_Do a0 a1=some r):Go.VC.Spec Tryz.prog 27 [.agg (KernelState.enc a0),.agg (KernelCmd.enc a1)] (fun y=>y=E_KernelState_Int_Int r):=by
 refine Spec.of_xc (fn:=Tryz.f27) tab ⟨[(0,[2,3,4]),(1,[2,3,4,10]),(2,[4,5,6]),(3,[2,3,4,7]),(4,[2,3,4,7,30]),(5,[4,5,6]),(6,[4,5,6])],[],[100030],[]⟩ 39 [.cell 4 35,.tmp 5,.tmp 6] rfl rfl rfl rfl rfl rfl ?_<;>conv=>whnf
 refine caS (E:=E_Bool) h (kernel_Right_w a0) rfl (fun _=>rfl) (fun x1 h=>?_)<;>conv=>whnf
 refine fkS h (fun h=>?_) (fun h=>?_)<;>conv=>whnf
 ·exact rt (E:=E_KernelState_Int_Int) h rfl
 refine⟨3,?_⟩
 conv=>whnf
 refine dcS (E:=E_fn_kernel_kinds) h kernel_kinds_w rfl (fun x2 h=>?_)<;>conv=>whnf
 refine drS (by kernel_rfl) ?_<;>conv=>whnf
 refine lkS (zv:=.nilFunc) (zd:=.nilfn) rfl rfl rfl rfl Tryz.underlying150 Tryz.underlying3 (by kernel_rfl) rfl ?_<;>conv=>whnf
 refine fkS h (fun h=>?_) (fun h=>?_)<;>conv=>whnf
 ·refine jnS (fun w3=>⟨[(2,.l (.ptr 3 0)),(3,.l (.ptr 4 0)),(4,.l (.ptr 5 0)),(7,.l (.d (.fn 158 [[.fn 126 []]]))),(30,lB w3)],39,[],[(3,[dI a0.Table.Frame,.d (.sl (a0.Table.Windows.map Window.enc)),.d (.sl (a0.Faces.map Face.enc)),.d (.sl (a0.Parts.map PartState.enc)),.d (.sl (a0.Lines.map PortLine.enc)),dI a0.Now]),(4,[dI a1.Part,dI a1.Kind,dI a1.I,dI a1.V,dI a1.T.C,dI a1.T.D,dI a1.T.T,.d (.sl (a1.T.Secs.map Sec.enc))]),(5,[dI (0:Int),.nil,.nil,.nil,.nil,dI (0:Int)])],[]⟩) h (fun k3 hk3 h=>?_) (fun w3 h=>?_)<;>conv=>whnf
  ·refine fnS rfl rfl rfl Tryz.underlying73 ?_<;>conv=>whnf
   refine fkS h (fun h=>?_) (fun h=>?_)<;>conv=>whnf
   ·exact jeS hk3 h wR
   refine lenS a0.Parts PartState.enc rfl ?_<;>conv=>whnf
   exact jeS hk3 h wR
  refine fkS h (fun h=>?_) (fun h=>?_)<;>conv=>whnf
  ·exact rt (E:=E_KernelState_Int_Int) h rfl
  refine ccS (E:=E_KernelState_Int_Int) h (kernel_on_1_w a0 a1) rfl rfl (fun x4 h=>?_)<;>conv=>whnf
  exact rt (E:=E_KernelState_Int_Int) h rfl
 refine fkS h (fun h=>?_) (fun h=>?_)<;>conv=>whnf
 ·refine jnS (fun w5=>⟨[(2,.l (.ptr 3 0)),(3,.l (.ptr 4 0)),(4,.l (.ptr 5 0)),(7,.l (.d (.fn 158 [[.fn 127 []]]))),(30,lB w5)],39,[],[(3,[dI a0.Table.Frame,.d (.sl (a0.Table.Windows.map Window.enc)),.d (.sl (a0.Faces.map Face.enc)),.d (.sl (a0.Parts.map PartState.enc)),.d (.sl (a0.Lines.map PortLine.enc)),dI a0.Now]),(4,[dI a1.Part,dI a1.Kind,dI a1.I,dI a1.V,dI a1.T.C,dI a1.T.D,dI a1.T.T,.d (.sl (a1.T.Secs.map Sec.enc))]),(5,[dI (0:Int),.nil,.nil,.nil,.nil,dI (0:Int)])],[]⟩) h (fun k5 hk5 h=>?_) (fun w5 h=>?_)<;>conv=>whnf
  ·refine fnS rfl rfl rfl Tryz.underlying73 ?_<;>conv=>whnf
   refine fkS h (fun h=>?_) (fun h=>?_)<;>conv=>whnf
   ·exact jeS hk5 h wR
   refine lenS a0.Parts PartState.enc rfl ?_<;>conv=>whnf
   exact jeS hk5 h wR
  refine fkS h (fun h=>?_) (fun h=>?_)<;>conv=>whnf
  ·exact rt (E:=E_KernelState_Int_Int) h rfl
  refine ccS (E:=E_KernelState_Int_Int) h (kernel_on_1_1_w a0 a1) rfl rfl (fun x6 h=>?_)<;>conv=>whnf
  exact rt (E:=E_KernelState_Int_Int) h rfl
 refine fkS h (fun h=>?_) (fun h=>?_)<;>conv=>whnf
 ·refine jnS (fun w7=>⟨[(2,.l (.ptr 3 0)),(3,.l (.ptr 4 0)),(4,.l (.ptr 5 0)),(7,.l (.d (.fn 158 [[.fn 128 []]]))),(30,lB w7)],39,[],[(3,[dI a0.Table.Frame,.d (.sl (a0.Table.Windows.map Window.enc)),.d (.sl (a0.Faces.map Face.enc)),.d (.sl (a0.Parts.map PartState.enc)),.d (.sl (a0.Lines.map PortLine.enc)),dI a0.Now]),(4,[dI a1.Part,dI a1.Kind,dI a1.I,dI a1.V,dI a1.T.C,dI a1.T.D,dI a1.T.T,.d (.sl (a1.T.Secs.map Sec.enc))]),(5,[dI (0:Int),.nil,.nil,.nil,.nil,dI (0:Int)])],[]⟩) h (fun k7 hk7 h=>?_) (fun w7 h=>?_)<;>conv=>whnf
  ·refine fnS rfl rfl rfl Tryz.underlying73 ?_<;>conv=>whnf
   refine fkS h (fun h=>?_) (fun h=>?_)<;>conv=>whnf
   ·exact jeS hk7 h wR
   refine lenS a0.Parts PartState.enc rfl ?_<;>conv=>whnf
   exact jeS hk7 h wR
  refine fkS h (fun h=>?_) (fun h=>?_)<;>conv=>whnf
  ·exact rt (E:=E_KernelState_Int_Int) h rfl
  refine ccS (E:=E_KernelState_Int_Int) h (kernel_on_1_2_w a0 a1) rfl rfl (fun x8 h=>?_)<;>conv=>whnf
  exact rt (E:=E_KernelState_Int_Int) h rfl
 refine fkS h (fun h=>?_) (fun h=>?_)<;>conv=>whnf
 ·refine jnS (fun w9=>⟨[(2,.l (.ptr 3 0)),(3,.l (.ptr 4 0)),(4,.l (.ptr 5 0)),(7,.l (.d (.fn 158 [[.fn 129 []]]))),(30,lB w9)],39,[],[(3,[dI a0.Table.Frame,.d (.sl (a0.Table.Windows.map Window.enc)),.d (.sl (a0.Faces.map Face.enc)),.d (.sl (a0.Parts.map PartState.enc)),.d (.sl (a0.Lines.map PortLine.enc)),dI a0.Now]),(4,[dI a1.Part,dI a1.Kind,dI a1.I,dI a1.V,dI a1.T.C,dI a1.T.D,dI a1.T.T,.d (.sl (a1.T.Secs.map Sec.enc))]),(5,[dI (0:Int),.nil,.nil,.nil,.nil,dI (0:Int)])],[]⟩) h (fun k9 hk9 h=>?_) (fun w9 h=>?_)<;>conv=>whnf
  ·refine fnS rfl rfl rfl Tryz.underlying73 ?_<;>conv=>whnf
   refine fkS h (fun h=>?_) (fun h=>?_)<;>conv=>whnf
   ·exact jeS hk9 h wR
   refine lenS a0.Parts PartState.enc rfl ?_<;>conv=>whnf
   exact jeS hk9 h wR
  refine fkS h (fun h=>?_) (fun h=>?_)<;>conv=>whnf
  ·exact rt (E:=E_KernelState_Int_Int) h rfl
  refine ccS (E:=E_KernelState_Int_Int) h (kernel_on_1_3_w a0 a1) rfl rfl (fun x10 h=>?_)<;>conv=>whnf
  exact rt (E:=E_KernelState_Int_Int) h rfl
 refine fkS h (fun h=>?_) (fun h=>?_)<;>conv=>whnf
 ·refine jnS (fun w11=>⟨[(2,.l (.ptr 3 0)),(3,.l (.ptr 4 0)),(4,.l (.ptr 5 0)),(7,.l (.d (.fn 130 []))),(30,lB w11)],39,[],[(3,[dI a0.Table.Frame,.d (.sl (a0.Table.Windows.map Window.enc)),.d (.sl (a0.Faces.map Face.enc)),.d (.sl (a0.Parts.map PartState.enc)),.d (.sl (a0.Lines.map PortLine.enc)),dI a0.Now]),(4,[dI a1.Part,dI a1.Kind,dI a1.I,dI a1.V,dI a1.T.C,dI a1.T.D,dI a1.T.T,.d (.sl (a1.T.Secs.map Sec.enc))]),(5,[dI (0:Int),.nil,.nil,.nil,.nil,dI (0:Int)])],[]⟩) h (fun k11 hk11 h=>?_) (fun w11 h=>?_)<;>conv=>whnf
  ·refine fnS rfl rfl rfl Tryz.underlying73 ?_<;>conv=>whnf
   refine fkS h (fun h=>?_) (fun h=>?_)<;>conv=>whnf
   ·exact jeS hk11 h wR
   refine lenS a0.Parts PartState.enc rfl ?_<;>conv=>whnf
   exact jeS hk11 h wR
  refine fkS h (fun h=>?_) (fun h=>?_)<;>conv=>whnf
  ·exact rt (E:=E_KernelState_Int_Int) h rfl
  refine ccS (E:=E_KernelState_Int_Int) h (kernel_kinds_5_w a0 a1) rfl rfl (fun x12 h=>?_)<;>conv=>whnf
  exact rt (E:=E_KernelState_Int_Int) h rfl
 refine fkS h (fun h=>?_) (fun h=>?_)<;>conv=>whnf
 ·refine jnS (fun w13=>⟨[(2,.l (.ptr 3 0)),(3,.l (.ptr 4 0)),(4,.l (.ptr 5 0)),(7,.l (.d (.fn 131 []))),(30,lB w13)],39,[],[(3,[dI a0.Table.Frame,.d (.sl (a0.Table.Windows.map Window.enc)),.d (.sl (a0.Faces.map Face.enc)),.d (.sl (a0.Parts.map PartState.enc)),.d (.sl (a0.Lines.map PortLine.enc)),dI a0.Now]),(4,[dI a1.Part,dI a1.Kind,dI a1.I,dI a1.V,dI a1.T.C,dI a1.T.D,dI a1.T.T,.d (.sl (a1.T.Secs.map Sec.enc))]),(5,[dI (0:Int),.nil,.nil,.nil,.nil,dI (0:Int)])],[]⟩) h (fun k13 hk13 h=>?_) (fun w13 h=>?_)<;>conv=>whnf
  ·refine fnS rfl rfl rfl Tryz.underlying73 ?_<;>conv=>whnf
   refine fkS h (fun h=>?_) (fun h=>?_)<;>conv=>whnf
   ·exact jeS hk13 h wR
   refine lenS a0.Parts PartState.enc rfl ?_<;>conv=>whnf
   exact jeS hk13 h wR
  refine fkS h (fun h=>?_) (fun h=>?_)<;>conv=>whnf
  ·exact rt (E:=E_KernelState_Int_Int) h rfl
  refine ccS (E:=E_KernelState_Int_Int) h (kernel_kinds_6_w a0 a1) rfl rfl (fun x14 h=>?_)<;>conv=>whnf
  exact rt (E:=E_KernelState_Int_Int) h rfl
 refine jnS (fun w15=>⟨[(2,.l (.ptr 3 0)),(3,.l (.ptr 4 0)),(4,.l (.ptr 5 0)),(7,.l (.d .nilfn)),(30,lB true)],39,[],[(3,[dI a0.Table.Frame,.d (.sl (a0.Table.Windows.map Window.enc)),.d (.sl (a0.Faces.map Face.enc)),.d (.sl (a0.Parts.map PartState.enc)),.d (.sl (a0.Lines.map PortLine.enc)),dI a0.Now]),(4,[dI a1.Part,dI a1.Kind,dI a1.I,dI a1.V,dI a1.T.C,dI a1.T.D,dI a1.T.T,.d (.sl (a1.T.Secs.map Sec.enc))]),(5,[dI (0:Int),.nil,.nil,.nil,.nil,dI (0:Int)])],[]⟩) h (fun k15 hk15 h=>?_) (fun w15 h=>?_)<;>conv=>whnf
 ·refine fnN rfl rfl rfl Tryz.underlying73 ?_<;>conv=>whnf
  exact jeS hk15 h wR
 exact rt (E:=E_KernelState_Int_Int) h rfl
end Go.Proofs.YtldlcdnhdedoeaaGreat
namespace Go.Proofs.YtldlcdnhdedoeaaGreat
open Go Go.VC
noncomputable def kernel_Tick (a0:KernelState):Option (KernelState×(List Int)×Int):=
 bnd (kernel_Right a0) fun x1=>fk (!x1) (some (a0,[],(1:Int))) (jn (fun (w2:List PortLine)=>bnd (table_At a0.Table a0.Now) fun x4=>lp (fun nx5 (v5:Int×(List Window)×(List Face)×(List PartState)×(List PortLine)×Int×(List Int)×Int)=>fk (decide (v5.2.2.2.2.2.2.2<(a0.Parts.length:Int))) (ix a0.Parts v5.2.2.2.2.2.2.2 fun x6=>bnd (part_Tick x6 (decide (v5.2.2.2.2.2.2.2=x4)) v5.2.2.2.2.2.1) fun x7=>bnd (kernel_State_with (⟨⟨v5.1,v5.2.1⟩,v5.2.2.1,v5.2.2.2.1,v5.2.2.2.2.1,v5.2.2.2.2.2.1⟩) v5.2.2.2.2.2.2.2 x7.1) fun x8=>ck (decide ((v5.2.2.2.2.2.2.1.length+([x7.2.1]:List Int).length)*8≤140737488355328)) (nx5 (x8.Table.Frame,x8.Table.Windows,x8.Faces,x8.Parts,x8.Lines,x8.Now,v5.2.2.2.2.2.2.1++([x7.2.1]:List Int),(wr (v5.2.2.2.2.2.2.2+(1:Int)))))) (some (⟨⟨v5.1,v5.2.1⟩,v5.2.2.1,v5.2.2.2.1,v5.2.2.2.2.1,(wr (v5.2.2.2.2.2.1+(1:Int)))⟩,v5.2.2.2.2.2.2.1,(0:Int)))) FU (a0.Table.Frame,a0.Table.Windows,a0.Faces,a0.Parts,w2,a0.Now,[],(0:Int))) (fun k2=>ck (decide (a0.Table.Frame≠0)) (fk (decide ((a0.Now.tmod a0.Table.Frame)=(0:Int))) (bnd (port_Deliver a0.Lines) fun x3=>k2 x3) (k2 a0.Lines))))
theorem kernel_Tick_w (a0:KernelState) (r:KernelState×(List Int)×Int) (h:kernel_Tick a0=some r):Go.VC.Spec Tryz.prog 34 [.agg (KernelState.enc a0)] (fun y=>y=E_KernelState_ListInt_Int r):=by
 refine Spec.of_xc (fn:=Tryz.f34) tab ⟨[(0,[1,2]),(1,[1,2,14]),(2,[2,3,4]),(3,[1,2,22]),(4,[1,2]),(5,[1,2,5]),(6,[1,2,5,6]),(7,[1,2,5,6,33,34,35]),(8,[1,2,5,6,33,34,35,36]),(9,[1,2,5,6,7,8,33,34,35]),(10,[1,2,5,6,7,9,10,33,34,35]),(11,[1,2,5,6,10,33,34,35]),(12,[1,2,5,6,33,34,35]),(13,[1,2,5,6,33,34,35]),(14,[1,2,6]),(15,[2,3,4])],[],[5],[]⟩ 66 [.cell 2 35,.tmp 3,.tmp 4] rfl rfl rfl rfl rfl rfl ?_<;>conv=>whnf
 refine caS (E:=E_Bool) h (kernel_Right_w a0) rfl (fun _=>rfl) (fun x1 h=>?_)<;>conv=>whnf
 refine fkS h (fun h=>?_) (fun h=>?_)<;>conv=>whnf
 ·exact rt (E:=E_KernelState_ListInt_Int) h rfl
 refine jnS (fun w2=>⟨[(1,.l (.ptr 2 0)),(2,.l (.ptr 3 0))],66,[],[(2,[dI a0.Table.Frame,.d (.sl (a0.Table.Windows.map Window.enc)),.d (.sl (a0.Faces.map Face.enc)),.d (.sl (a0.Parts.map PartState.enc)),.d (.sl (w2.map PortLine.enc)),dI a0.Now]),(3,[dI (0:Int),.nil,.nil,.nil,.nil,dI (0:Int)])],[]⟩) h (fun k2 hk2 h=>?_) (fun w2 h=>?_)<;>conv=>whnf
 ·refine dvS h (fun h=>?_)<;>conv=>whnf
  refine fkS h (fun h=>?_) (fun h=>?_)<;>conv=>whnf
  ·refine ccS (E:=E_ListPortLine) h (port_Deliver_w a0.Lines) rfl rfl (fun x3 h=>?_)<;>conv=>whnf
   exact jeS hk2 h wR
  refine jeX hk2 h ?_<;>conv=>whnf
  refine WkF.step (Weak.keepS _ [1,2]) ?_<;>conv=>whnf
  exact WkF.refl _
 refine caS (E:=E_Int) h (table_At_w a0.Table a0.Now) rfl (fun _=>rfl) (fun x4 h=>?_)<;>conv=>whnf
 refine lenS a0.Parts PartState.enc rfl ?_<;>conv=>whnf
 refine lpS (fun v5=>⟨[(1,.l (.ptr 2 0)),(2,.l (.ptr 3 0)),(5,lI x4),(6,.l (.own 7)),(33,.l (.d (.sl (a0.Parts.map PartState.enc)))),(34,lI (a0.Parts.length:Int)),(35,lI v5.2.2.2.2.2.2.2)],66,[],[(2,[dI v5.1,.d (.sl (v5.2.1.map Window.enc)),.d (.sl (v5.2.2.1.map Face.enc)),.d (.sl (v5.2.2.2.1.map PartState.enc)),.d (.sl (v5.2.2.2.2.1.map PortLine.enc)),dI v5.2.2.2.2.2.1]),(3,[dI (0:Int),.nil,.nil,.nil,.nil,dI (0:Int)])],[(7,3,1,v5.2.2.2.2.2.2.1.map (eI .i64))]⟩) h (Weak.trans (Weak.nilO _ 6 7 3 1 rfl) wR) (fun _ nx5 hn5 v5 h=>?_)<;>conv=>whnf
 refine fkS h (fun h=>?_) (fun h=>?_)<;>conv=>whnf
 ·refine ixS (enc:=PartState.enc) h rfl (fun _=>rfl) (fun x6 h=>?_)<;>conv=>whnf
  refine ccS (E:=E_PartState_Int_Int) h (part_Tick_w x6 (decide (v5.2.2.2.2.2.2.2=x4)) v5.2.2.2.2.2.1) rfl rfl (fun x7 h=>?_)<;>conv=>whnf
  refine ccS (E:=E_KernelState) h (kernel_State_with_w (⟨⟨v5.1,v5.2.1⟩,v5.2.2.1,v5.2.2.2.1,v5.2.2.2.2.1,v5.2.2.2.2.2.1⟩) v5.2.2.2.2.2.2.2 x7.1) rfl rfl (fun x8 h=>?_)<;>conv=>whnf
  refine liS ([x7.2.1]:List Int) (eI .i64) rfl rfl ?_<;>conv=>whnf
  refine apS (enc:=(eI .i64)) (l1:=v5.2.2.2.2.2.2.1) (l2:=([x7.2.1]:List Int)) h rfl rfl (fun _=>rfl) (fun h=>?_)<;>conv=>whnf
  exact leS hn5 h wR
 exact rt (E:=E_KernelState_ListInt_Int) h rfl
end Go.Proofs.YtldlcdnhdedoeaaGreat
namespace Go.Proofs.YtldlcdnhdedoeaaGreat
open Go Go.VC
noncomputable def law21_Few (a0:List Law21Step):Option Bool:=
 lp (fun nx1 (v1:Int)=>fk (decide (v1<(a0.length:Int))) (ix a0 v1 fun x2=>fk (decide ((x2.Cmds.length:Int)>(10:Int))) (some false) (lp (fun nx3 (v3:Int)=>ix a0 v1 fun x4=>fk (decide (v3<(x4.Cmds.length:Int))) (ix a0 v1 fun x5=>ix x5.Cmds v3 fun x6=>fk (decide ((x6.T.Secs.length:Int)>(20:Int))) (some false) (nx3 (wr (v3+(1:Int))))) (nx1 (wr (v1+(1:Int))))) FU (0:Int))) (some (decide ((a0.length:Int)≤(100:Int))))) FU (0:Int)
theorem law21_Few_w (a0:List Law21Step) (r:Bool) (h:law21_Few a0=some r):Go.VC.Spec Tryz.prog 25 [.d (.sl (a0.map Law21Step.enc))] (fun y=>y=E_Bool r):=by
 refine Spec.of_xc (fn:=Tryz.f25) tab ⟨[(0,[0]),(1,[0,3]),(2,[0,3,8]),(3,[0,3]),(4,[0,3,17]),(5,[2]),(6,[0,3,4]),(7,[0,3,4,25]),(8,[0,3,4]),(9,[0,3,4,39]),(10,[2]),(11,[2])],[],[],[]⟩ 43 [.tmp 2] rfl rfl rfl rfl rfl rfl ?_<;>conv=>whnf
 refine lpS (fun v1=>⟨[(0,.l (.d (.sl (a0.map Law21Step.enc)))),(3,lI v1)],43,[],[],[]⟩) h wR (fun _ nx1 hn1 v1 h=>?_)<;>conv=>whnf
 refine lenS a0 Law21Step.enc rfl ?_<;>conv=>whnf
 refine fkS h (fun h=>?_) (fun h=>?_)<;>conv=>whnf
 ·refine ixS (enc:=Law21Step.enc) h rfl (fun _=>rfl) (fun x2 h=>?_)<;>conv=>whnf
  refine lenS x2.Cmds KernelCmd.enc rfl ?_<;>conv=>whnf
  refine fkS h (fun h=>?_) (fun h=>?_)<;>conv=>whnf
  ·exact rt (E:=E_Bool) h rfl
  refine lpS (fun v3=>⟨[(0,.l (.d (.sl (a0.map Law21Step.enc)))),(3,lI v1),(4,lI v3)],43,[],[],[]⟩) h wR (fun _ nx3 hn3 v3 h=>?_)<;>conv=>whnf
  refine ixS (enc:=Law21Step.enc) h rfl (fun _=>rfl) (fun x4 h=>?_)<;>conv=>whnf
  refine lenS x4.Cmds KernelCmd.enc rfl ?_<;>conv=>whnf
  refine fkS h (fun h=>?_) (fun h=>?_)<;>conv=>whnf
  ·refine ixS (enc:=Law21Step.enc) h rfl (fun _=>rfl) (fun x5 h=>?_)<;>conv=>whnf
   refine ixS (enc:=KernelCmd.enc) h rfl (fun _=>rfl) (fun x6 h=>?_)<;>conv=>whnf
   refine lenS x6.T.Secs Sec.enc rfl ?_<;>conv=>whnf
   refine fkS h (fun h=>?_) (fun h=>?_)<;>conv=>whnf
   ·exact rt (E:=E_Bool) h rfl
   exact leS hn3 h wR
  exact leS hn1 h wR
 refine lenS a0 Law21Step.enc rfl ?_<;>conv=>whnf
 exact rt (E:=E_Bool) h rfl
end Go.Proofs.YtldlcdnhdedoeaaGreat
namespace Go.Proofs.YtldlcdnhdedoeaaGreat
open Go Go.VC
/-! What is kept of a system. -/
structure kP (s:KernelState):Prop where
  tab:tabP s.Table
  parts:∀p∈s.Parts,okS p
  len:s.Parts.length≤4
  faces:s.Faces.length=s.Parts.length
  lines:linesP s.Lines
  now0:0≤s.Now
  now1:s.Now≤100000
theorem kernel_Right_t {s:KernelState} (h:kP s):kernel_Right s=some true:=by
  have h4:=h.len
  have n0:=h.now0
  have n1:=h.now1
  unfold kernel_Right
  refine lp_up s.Parts.length (by unfold FU; omega) (fun _=>True) trivial ?_
  intro nx k hk _ hnx
  rw[lt_nat]
  by_cases hk':k<s.Parts.length
  · have ho:=h.parts _ (List.getElem_mem hk')
    rw[decide_eq_true hk',fk_t,ix_lt hk',bnd_eq (part_Right_eq _ (StB.of_st ho.1)),decide_eq_true ho.1,Bool.not_true,fk_f,wr_succ k _ hk' (by omega)]
    exact hnx hk' trivial
  · rw[decide_eq_false hk',fk_f,bnd_eq (table_Right_t h.tab),fk_t,decide_eq_true (by rw[h.faces]),fk_t,decide_eq_true (by omega),fk_t,bnd_eq (port_Right_t h.lines),fk_t,decide_eq_true (by omega),fk_t,decide_eq_true (by omega)]
/-! Alike. -/
theorem eqI_refl (l:List SC):eqI l l=true:=decide_eq_true rfl
/-! What is asked. -/
theorem okS.len {s:PartState} (h:okS s):s.Tasks.length≤1000∧s.Jobs.length≤4611686018427387904:=by
  have h8:=AllP_len h.1.2.1.1
  have hj:=h.1.2.2.1.2.1
  omega
theorem okS_plus {s:PartState} {f:Face} {x:Task} (h:okS s) (h0:addE s f x=0):okS (plus s x):=by
  obtain⟨a1,a2,a3,_⟩:=addE_zero h0
  have:=okS_add (x:=x) h
  unfold addV at this
  rwa [if_pos ⟨a1,a2⟩,if_pos a3] at this
noncomputable def admV (s:PartState) (f:Face) (x:Task):PartState×Int:=if addE s f x=0 then (plus s x,0) else (s,addE s f x)
theorem admit_Add_V {s:PartState} {f:Face} {x:Task} (h:okS s):admit_Add s f x=some (admV s f x):=admit_Add_eq s f x (StB.of_st h.1) h.len.1 h.len.2
theorem okS_adm {s:PartState} {f:Face} {x:Task} (h:okS s):okS (admV s f x).1:=by
  unfold admV
  split
  · exact okS_plus h (by assumption)
  · exact h
theorem admit_Drop_V {s:PartState} {i:Int} (h:okS s):admit_Drop s i=some (leaveV s i):=by
  unfold admit_Drop
  rw[bnd_eq (part_Leave_eq s i (StB.of_st h.1))]
noncomputable def chgV (s:PartState) (f:Face) (i:Int) (x:Task):PartState×Int:=if (leaveV s i).2=0 then (if addE (leaveV s i).1 f x=0 then (plus (leaveV s i).1 x,0) else (s,addE (leaveV s i).1 f x)) else (s,(leaveV s i).2)
theorem admit_Change_V {s:PartState} {f:Face} {i:Int} {x:Task} (h:okS s):admit_Change s f i x=some (chgV s f i x):=by
  unfold admit_Change chgV
  rw[bnd_eq (admit_Drop_V h)]
  by_cases c:(leaveV s i).2=0
  rotate_left
  · rw[decide_eq_false c,Bool.not_false,fk_t,if_neg c]
  rw[decide_eq_true c,Bool.not_true,fk_f,if_pos c,bnd_eq (admit_Add_V (okS_leave h))]
  unfold admV
  by_cases d:addE (leaveV s i).1 f x=0
  · rw[if_pos d,if_pos d,decide_eq_true rfl,Bool.not_true,fk_f]
  · rw[if_neg d,if_neg d,decide_eq_false d,Bool.not_false,fk_t]
theorem okS_chg {s:PartState} {f:Face} {i:Int} {x:Task} (h:okS s):okS (chgV s f i x).1:=by
  unfold chgV
  split
  · split
    · exact okS_plus (okS_leave h) (by assumption)
    · exact h
  · exact h
def withK (s:KernelState) (i:Int) (p:PartState):KernelState:=⟨s.Table,s.Faces,s.Parts.set i.toNat p,s.Lines,s.Now⟩
theorem with_eq {s:KernelState} {i:Int} {p:PartState} (h:kP s) (h0:0≤i) (h1:i<(s.Parts.length:Int)):kernel_State_with s i p=some (withK s i p):=by
  have h4:=h.len
  unfold kernel_State_with
  rw[ck_t (by simp; omega),List.nil_append,ck_t (by simp; omega),ox_lt (by omega)]; rfl
theorem kP.with {s:KernelState} {i:Int} {p:PartState} (h:kP s) (hp:okS p):kP (withK s i p):=
  ⟨h.tab,fun q hq=>by
    rcases List.mem_or_eq_of_mem_set (show q∈s.Parts.set i.toNat p from hq) with h' | rfl
    · exact h.parts q h'
    · exact hp,by show (s.Parts.set _ _).length≤4; rw[List.length_set]; exact h.len,by show _=(s.Parts.set _ _).length; rw[List.length_set]; exact h.faces,h.lines,h.now0,h.now1⟩
/-- What comes of an ask of a partition that is there. -/
noncomputable def doP (p:PartState) (f:Face) (c:KernelCmd) (now:Int):PartState×Int:=
  if c.Kind=1 then relV p c.I c.V now else if c.Kind=4 then admV p f c.T else if c.Kind=5 then leaveV p c.I else chgV p f c.I c.T
theorem okS_doP {p:PartState} {f:Face} {c:KernelCmd} {now:Int} (h:okS p):okS (doP p f c now).1:=by
  unfold doP
  split
  · exact stP_rel h.1 h.2
  · split
    · exact okS_adm h
    · split
      · exact okS_leave h
      · exact okS_chg h
noncomputable def doK (s:KernelState) (c:KernelCmd):KernelState×Int×Int:=
  if h:0≤c.Part∧c.Part<(s.Parts.length:Int)∧s.Faces.length=s.Parts.length then
    (if c.Kind=2 then (⟨s.Table,s.Faces,s.Parts,(sendV s.Lines c.Part c.I c.V).1,s.Now⟩,0,(sendV s.Lines c.Part c.I c.V).2)
     else if c.Kind=3 then (⟨s.Table,s.Faces,s.Parts,(readV s.Lines c.Part c.I).2.1,s.Now⟩,(readV s.Lines c.Part c.I).1,(readV s.Lines c.Part c.I).2.2)
     else if c.Kind=1∨c.Kind=4∨c.Kind=5∨c.Kind=6 then (withK s c.Part (doP (s.Parts[c.Part.toNat]'(by omega)) (s.Faces[c.Part.toNat]'(by omega)) c s.Now).1,0,(doP (s.Parts[c.Part.toNat]'(by omega)) (s.Faces[c.Part.toNat]'(by omega)) c s.Now).2)
     else (s,0,4))
  else (s,0,4)
theorem kernel_Do_eq (s:KernelState) (c:KernelCmd) (h:kP s):kernel_Do s c=some (doK s c):=by
  have kk:kernel_kinds=some ():=rfl
  unfold kernel_Do
  rw[bnd_eq (kernel_Right_t h),Bool.not_true,fk_f,bnd_eq kk]
  by_cases hc:0≤c.Part∧c.Part<(s.Parts.length:Int)
  rotate_left
  · have out:∀(X:Option (KernelState×Int×Int)),jn (fun (w3:Bool)=>fk w3 (some (s,(0:Int),(4:Int))) X) (fun k3=>fk (decide (c.Part<(0:Int))) (k3 true) (k3 (decide (c.Part≥(s.Parts.length:Int)))))=some (s,0,4):=fun X=>by
      refine jn_to true (fun k=>?_) (by rw[fk_t])
      by_cases c0:c.Part<0
      · rw[decide_eq_true c0,fk_t]
      · rw[decide_eq_false c0,fk_f,decide_eq_true (by omega)]
    have ed:doK s c=(s,0,4):=by unfold doK; rw[dif_neg (fun hh=>hc ⟨hh.1,hh.2.1⟩)]
    rw[ed]
    have all:∀(b:Bool) (x y:Option (KernelState×Int×Int)),x=some (s,0,4)→y=some (s,0,4)→fk b x y=some (s,0,4):=fun b x y hx hy=>by cases b; exact hy; exact hx
    refine all _ _ _ (out _) (all _ _ _ (out _) (all _ _ _ (out _) (all _ _ _ (out _) (all _ _ _ (out _) (all _ _ _ (out _) ?_)))))
    first | rfl | (refine jn_to true (fun k=>?_) (by rw[fk_t])
                   by_cases c0:c.Part<0
                   · rw[decide_eq_true c0,fk_t]
                   · rw[decide_eq_false c0,fk_f,decide_eq_true (by omega)])
  have inn:∀(X:Option (KernelState×Int×Int)),jn (fun (w3:Bool)=>fk w3 (some (s,(0:Int),(4:Int))) X) (fun k3=>fk (decide (c.Part<(0:Int))) (k3 true) (k3 (decide (c.Part≥(s.Parts.length:Int)))))=X:=fun X=>by
    refine jn_to false (fun k=>?_) (by rw[fk_f])
    rw[decide_eq_false (by omega),fk_f,decide_eq_false (by omega)]
  simp only[inn]
  have hf:=h.faces
  have hpl:c.Part.toNat<s.Parts.length:=by omega
  have hfl:c.Part.toNat<s.Faces.length:=by omega
  have hok:=h.parts _ (List.getElem_mem hpl)
  have hb:=StB.of_st hok.1
  unfold doK
  rw[dif_pos ⟨hc.1,hc.2,hf⟩]
  by_cases c1:c.Kind=1
  · rw[decide_eq_true c1,fk_t,if_neg (by omega),if_neg (by omega),if_pos (.inl c1)]
    have e:kernel_on_1 s c=some (withK s c.Part (relV s.Parts[c.Part.toNat] c.I c.V s.Now).1,0,(relV s.Parts[c.Part.toNat] c.I c.V s.Now).2):=by
      unfold kernel_on_1
      rw[ix_int hc.1 hpl,ix_int hc.1 hfl]
      have:kernel_kinds_1 s.Parts[c.Part.toNat] s.Faces[c.Part.toNat] c s.Now=some (relV s.Parts[c.Part.toNat] c.I c.V s.Now):=by
        unfold kernel_kinds_1
        rw[bnd_eq (part_Release_eq _ _ _ _ hb)]
      rw[bnd_eq this,bnd_eq (with_eq h hc.1 hc.2)]
    rw[bnd_eq e]
    unfold doP
    rw[if_pos c1]
  rw[decide_eq_false c1,fk_f]
  by_cases c4:c.Kind=4
  · rw[decide_eq_true c4,fk_t,if_neg (by omega),if_neg (by omega),if_pos (.inr (.inl c4))]
    have e:kernel_on_1_1 s c=some (withK s c.Part (admV s.Parts[c.Part.toNat] s.Faces[c.Part.toNat] c.T).1,0,(admV s.Parts[c.Part.toNat] s.Faces[c.Part.toNat] c.T).2):=by
      unfold kernel_on_1_1
      rw[ix_int hc.1 hpl,ix_int hc.1 hfl]
      have:kernel_kinds_2 s.Parts[c.Part.toNat] s.Faces[c.Part.toNat] c s.Now=some (admV s.Parts[c.Part.toNat] s.Faces[c.Part.toNat] c.T):=by
        unfold kernel_kinds_2
        rw[bnd_eq (admit_Add_V hok)]
      rw[bnd_eq this,bnd_eq (with_eq h hc.1 hc.2)]
    rw[bnd_eq e]
    unfold doP
    rw[if_neg c1,if_pos c4]
  rw[decide_eq_false c4,fk_f]
  by_cases c5:c.Kind=5
  · rw[decide_eq_true c5,fk_t,if_neg (by omega),if_neg (by omega),if_pos (.inr (.inr (.inl c5)))]
    have e:kernel_on_1_2 s c=some (withK s c.Part (leaveV s.Parts[c.Part.toNat] c.I).1,0,(leaveV s.Parts[c.Part.toNat] c.I).2):=by
      unfold kernel_on_1_2
      rw[ix_int hc.1 hpl,ix_int hc.1 hfl]
      have:kernel_kinds_3 s.Parts[c.Part.toNat] s.Faces[c.Part.toNat] c s.Now=some (leaveV s.Parts[c.Part.toNat] c.I):=by
        unfold kernel_kinds_3
        rw[bnd_eq (admit_Drop_V hok)]
      rw[bnd_eq this,bnd_eq (with_eq h hc.1 hc.2)]
    rw[bnd_eq e]
    unfold doP
    rw[if_neg c1,if_neg c4,if_pos c5]
  rw[decide_eq_false c5,fk_f]
  by_cases c6:c.Kind=6
  · rw[decide_eq_true c6,fk_t,if_neg (by omega),if_neg (by omega),if_pos (.inr (.inr (.inr c6)))]
    have e:kernel_on_1_3 s c=some (withK s c.Part (chgV s.Parts[c.Part.toNat] s.Faces[c.Part.toNat] c.I c.T).1,0,(chgV s.Parts[c.Part.toNat] s.Faces[c.Part.toNat] c.I c.T).2):=by
      unfold kernel_on_1_3
      rw[ix_int hc.1 hpl,ix_int hc.1 hfl]
      have:kernel_kinds_4 s.Parts[c.Part.toNat] s.Faces[c.Part.toNat] c s.Now=some (chgV s.Parts[c.Part.toNat] s.Faces[c.Part.toNat] c.I c.T):=by
        unfold kernel_kinds_4
        rw[bnd_eq (admit_Change_V hok)]
      rw[bnd_eq this,bnd_eq (with_eq h hc.1 hc.2)]
    rw[bnd_eq e]
    unfold doP
    rw[if_neg c1,if_neg c4,if_neg c5]
  rw[decide_eq_false c6,fk_f]
  by_cases c2:c.Kind=2
  · rw[decide_eq_true c2,fk_t,if_pos c2]
    have e:kernel_kinds_5 s c=some (⟨s.Table,s.Faces,s.Parts,(sendV s.Lines c.Part c.I c.V).1,s.Now⟩,0,(sendV s.Lines c.Part c.I c.V).2):=by
      unfold kernel_kinds_5
      rw[bnd_eq (port_Send_eq _ _ _ _ h.lines)]
    rw[bnd_eq e]
  rw[decide_eq_false c2,fk_f,if_neg c2]
  by_cases c3:c.Kind=3
  · rw[decide_eq_true c3,fk_t,if_pos c3]
    have e:kernel_kinds_6 s c=some (⟨s.Table,s.Faces,s.Parts,(readV s.Lines c.Part c.I).2.1,s.Now⟩,(readV s.Lines c.Part c.I).1,(readV s.Lines c.Part c.I).2.2):=by
      unfold kernel_kinds_6
      rw[bnd_eq (port_Read_eq _ _ _ h.lines)]
    rw[bnd_eq e]
  rw[decide_eq_false c3,fk_f,if_neg c3,if_neg (by omega)]
  exact jn_to () (fun k=>rfl) rfl
theorem kP.do {s:KernelState} (h:kP s) (c:KernelCmd):kP (doK s c).1∧(doK s c).1.Now=s.Now∧(doK s c).1.Table=s.Table∧(doK s c).1.Parts.length=s.Parts.length∧(doK s c).1.Lines.length=s.Lines.length:=by
  unfold doK
  split
  rotate_left
  · exact⟨h,rfl,rfl,rfl,rfl⟩
  rename_i hc
  split
  · have:=sendV_ok (f:=c.Part) (i:=c.I) (v:=c.V) h.lines
    exact⟨⟨h.tab,h.parts,h.len,h.faces,this.1,h.now0,h.now1⟩,rfl,rfl,rfl,this.2⟩
  · split
    · have:=readV_ok (f:=c.Part) (i:=c.I) h.lines
      exact⟨⟨h.tab,h.parts,h.len,h.faces,this.1,h.now0,h.now1⟩,rfl,rfl,rfl,this.2⟩
    · split
      · refine⟨h.with (okS_doP (h.parts _ (List.getElem_mem _))),rfl,rfl,?_,rfl⟩
        show (s.Parts.set _ _).length=_
        rw[List.length_set]
      · exact⟨h,rfl,rfl,rfl,rfl⟩
end Go.Proofs.YtldlcdnhdedoeaaGreat
namespace Go.Proofs.YtldlcdnhdedoeaaGreat
open Go Go.VC
def emptyP:PartState:=⟨[],[],[],[],[]⟩
noncomputable def tkP (s:KernelState) (who:Int) (i:Nat):PartState×Int:=tickV ((s.Parts[i]?).getD emptyP) (decide ((i:Int)=who)) s.Now
noncomputable def whoK (s:KernelState):Int:=whoV s.Table.Windows (s.Now.tmod s.Table.Frame)
noncomputable def partsK (s:KernelState):List PartState:=(List.range s.Parts.length).map fun i=>(tkP s (whoK s) i).1
noncomputable def ranK (s:KernelState):List Int:=(List.range s.Parts.length).map fun i=>(tkP s (whoK s) i).2
theorem tkP_at {s:KernelState} {who:Int} {i:Nat} (h:i<s.Parts.length):tkP s who i=tickV s.Parts[i] (decide ((i:Int)=who)) s.Now:=by
 unfold tkP; rw[List.getElem?_eq_getElem h]; rfl
theorem okS_tkP {s:KernelState} {who:Int} {i:Nat} (h:kP s) (hi:i<s.Parts.length):okS (tkP s who i).1:=by
 rw[tkP_at hi]; exact okS_tick (h.parts _ (List.getElem_mem hi))
def linesK (s:KernelState) (L:List PortLine):Prop:=linesP L∧L.length=s.Lines.length∧(if s.Now.tmod s.Table.Frame=0 then port_Deliver s.Lines=some L∧∀(i:Nat) (x y:PortLine),s.Lines[i]?=some x→L[i]?=some y→gone x y else L=s.Lines)
theorem linesK_ex {s:KernelState} (h:kP s):∃L,linesK s L:=by
 obtain⟨L,e,a,b,c⟩:=port_Deliver_ex s.Lines h.lines
 by_cases hh:s.Now.tmod s.Table.Frame=0
 ·exact⟨L,a,b,by rw[if_pos hh]; exact⟨e,c⟩⟩
 ·exact⟨s.Lines,h.lines,rfl,by rw[if_neg hh]⟩
theorem kernel_Tick_eq {s:KernelState} (h:kP s) {L:List PortLine} (hL:linesK s L):kernel_Tick s=some (⟨s.Table,s.Faces,partsK s,L,s.Now+1⟩,ranK s,0):=by
 have h4:=h.len
 have n0:=h.now0
 have n1:=h.now1
 have f1:=h.tab.f1
 unfold kernel_Tick
 rw[bnd_eq (kernel_Right_t h),Bool.not_true,fk_f]
 refine jn_to L (fun k=>?_) ?_
 ·rw[ck_t (decide_eq_true (by omega))]
  obtain⟨_,_,hl⟩:=hL
  by_cases hh:s.Now.tmod s.Table.Frame=0
  ·rw[if_pos hh] at hl
   rw[decide_eq_true hh,fk_t,bnd_eq hl.1]
  ·rw[if_neg hh] at hl
   rw[decide_eq_false hh,fk_f,hl]
 rw[bnd_eq (table_At_eq h.tab n0)]
 refine lp_inv (fun v=>s.Parts.length-v.2.2.2.2.2.2.2.toNat) (fun v=>∃(k:Nat) (U:List PartState),v=(s.Table.Frame,s.Table.Windows,s.Faces,U,L,s.Now,(List.range k).map (fun i=>(tkP s (whoK s) i).2),(k:Int))∧k≤s.Parts.length∧U.length=s.Parts.length∧∀i,U[i]?=if i<k then (if i<s.Parts.length then some (tkP s (whoK s) i).1 else none) else s.Parts[i]?) ?_ FU _ ⟨0,s.Parts,rfl,Nat.zero_le _,rfl,fun i=>by rw[if_neg (by omega)]⟩ (by unfold FU; simp only; omega)
 rintro nx v ⟨k,U,rfl,hk,hU,hUv⟩ hnx
 dsimp only
 rw[lt_nat]
 by_cases c:k<s.Parts.length
 rotate_left
 ·have e:k=s.Parts.length:=by omega
  subst e
  have eU:U=partsK s:=by
   refine List.ext_getElem? fun i=>?_
   rw[hUv i]
   unfold partsK
   rw[List.getElem?_map]
   by_cases ci:i<s.Parts.length
   ·rw[if_pos ci,if_pos ci,List.getElem?_range ci]; rfl
   ·rw[if_neg ci,List.getElem?_eq_none (by omega),List.getElem?_eq_none (by simp; omega)]; rfl
  rw[decide_eq_false c,fk_f,eU,wr_in _ (by omega)]; rfl
 have ho:=h.parts _ (List.getElem_mem c)
 have hb:=StB.of_st ho.1
 rw[decide_eq_true c,fk_t,ix_lt c,bnd_eq (part_Tick_eq _ _ _ hb),if_pos ⟨ho.1,by unfold whenP; omega⟩,wr_succ k _ c (by omega)]
 dsimp only
 have ew:kernel_State_with ⟨⟨s.Table.Frame,s.Table.Windows⟩,s.Faces,U,L,s.Now⟩ (k:Int) (tickV s.Parts[k] (decide ((k:Int)=whoK s)) s.Now).1=some ⟨s.Table,s.Faces,U.set k (tkP s (whoK s) k).1,L,s.Now⟩:=by
  unfold kernel_State_with
  dsimp only
  rw[ck_t (by simp; omega),List.nil_append,ck_t (by simp; omega),Int.toNat_natCast,ox_lt (by omega),tkP_at c]
 rw[show whoV s.Table.Windows (s.Now.tmod s.Table.Frame)=whoK s from rfl,bnd_eq ew,ck_t (by simp; omega)]
 refine hnx _ ⟨k+1,U.set k (tkP s (whoK s) k).1,?_,c,by rw[List.length_set]; exact hU,fun i=>?_⟩ (by simp only[Int.toNat_natCast]; omega)
 ·rw[List.range_succ,List.map_append,List.map_singleton,tkP_at c]
 ·by_cases e:i=k
  ·subst e
   rw[List.getElem?_set_self (by omega),if_pos (by omega),if_pos c]
  ·rw[List.getElem?_set_ne (fun hh=>e hh.symm),hUv i]
   by_cases ci:i<k
   ·rw[if_pos ci,if_pos (show i<s.Parts.length by omega),if_pos (show i<k+1 by omega)]
   ·rw[if_neg ci,if_neg (by omega)]
theorem kP.tick {s:KernelState} (h:kP s) {L:List PortLine} (hL:linesK s L) (hn:s.Now≤90000):kP ⟨s.Table,s.Faces,partsK s,L,s.Now+1⟩:=by
 have n0:=h.now0
 refine⟨h.tab,fun p hp=>?_,?_,?_,hL.1,by show 0≤s.Now+1; omega,by show s.Now+1≤100000; omega⟩
 ·obtain⟨i,hi,rfl⟩:=List.mem_map.1 hp
  exact okS_tkP h (by simpa using hi)
 ·show (partsK s).length≤4
  unfold partsK; rw[List.length_map,List.length_range]; exact h.len
 ·show s.Faces.length=(partsK s).length
  unfold partsK; rw[List.length_map,List.length_range]; exact h.faces
theorem few_ex (l:List Law21Step) (hl:l.length≤4611686018427387904) (hc:∀x∈l,x.Cmds.length≤4611686018427387904):∃b,law21_Few l=some b∧(b=true→l.length≤100∧∀x∈l,x.Cmds.length≤10):=by
 unfold law21_Few
 refine lp_up_ex l.length (by unfold FU; omega) (fun k=>∀x∈l.take k,x.Cmds.length≤10) (fun b=>b=true→l.length≤100∧∀x∈l,x.Cmds.length≤10) (fun x h=>by simp at h) ?_
 intro nx k hk J hnx
 rw[lt_nat]
 by_cases c:k<l.length
 rotate_left
 ·rw[List.take_of_length_le (by omega)] at J
  rw[decide_eq_false c,fk_f]
  exact⟨_,rfl,fun h=>by rw[decide_eq_true_eq] at h; exact⟨by omega,J⟩⟩
 rw[decide_eq_true c,fk_t,ix_lt c]
 by_cases h10:(l[k].Cmds.length:Int)>10
 ·rw[decide_eq_true h10,fk_t]; exact⟨false,rfl,fun h=>by cases h⟩
 rw[decide_eq_false h10,fk_f]
 refine lp_up_ex l[k].Cmds.length (by unfold FU; have:=hc _ (List.getElem_mem c); omega) (fun _=>True) (fun b=>b=true→l.length≤100∧∀x∈l,x.Cmds.length≤10) trivial ?_
 intro nx3 j hj _ hnx3
 rw[ix_lt c,lt_nat]
 by_cases cj:j<l[k].Cmds.length
 ·rw[decide_eq_true cj,fk_t,ix_lt c,ix_lt cj,wr_succ j _ cj (hc _ (List.getElem_mem c))]
  by_cases h20:(l[k].Cmds[j].T.Secs.length:Int)>20
  ·rw[decide_eq_true h20,fk_t]; exact⟨false,rfl,fun h=>by cases h⟩
  ·rw[decide_eq_false h20,fk_f]; exact hnx3 cj trivial
 ·rw[decide_eq_false cj,fk_f,wr_succ k _ c hl]
  refine hnx c fun x hx=>?_
  rcases mem_take_succ c hx with h | rfl
  ·exact J x h
  ·omega
end Go.Proofs.YtldlcdnhdedoeaaGreat
namespace Go.Proofs.YtldlcdnhdedoeaaGreat
open Go Go.VC
noncomputable def image_Decode (a0:List Int):Option (Config×Int×Int):=
 lp (fun nx1 (v1:Int×Int×Int)=>fk (decide (v1.2.2<(3:Int))) (jn (fun (w2:Int×Int×Int)=>jn (fun (w6:Bool)=>fk w6 (some (⟨[],[]⟩,v1.2.2,(2:Int))) (nx1 (w2.1,w2.2.1,(wr (v1.2.2+(1:Int)))))) (fun k6=>fk (decide (w2.2.1=(0:Int))) (ix ([84,75,49]:List Int) v1.2.2 fun x7=>k6 (!decide (w2.2.2=(IntKind.i64.wrap x7)))) (k6 false))) (fun k2=>jn (fun (w3:Int)=>fk (!decide (w3=(0:Int))) (k2 (v1.1,w3,(0:Int))) (ix a0 (wr ((wr (v1.1+(1:Int)))-(1:Int))) fun x5=>k2 ((wr (v1.1+(1:Int))),w3,(IntKind.i64.wrap x5)))) (fun k3=>jn (fun (w4:Bool)=>fk w4 (k3 (8:Int)) (k3 v1.2.1)) (fun k4=>fk (decide (v1.2.1=(0:Int))) (k4 (decide (v1.1≥(a0.length:Int)))) (k4 false))))) (jn (fun (w8:Int×Int×(List Part))=>jn (fun (w63:Int×Int×(List Port))=>fk (!decide (w63.2.1=(0:Int))) (some (⟨[],[]⟩,(a0.length:Int),w63.2.1)) (fk (decide (w63.1<(a0.length:Int))) (some (⟨[],[]⟩,w63.1,(2:Int))) (bnd (image_Right ⟨w8.2.2,w63.2.2⟩) fun x82=>fk (!x82) (some (⟨[],[]⟩,(0:Int),(1:Int))) (some (⟨w8.2.2,w63.2.2⟩,(0:Int),(0:Int)))))) (fun k63=>jn (fun (w64:Int×Int×Int)=>lp (fun nx68 (v68:Int×Int×(List Port)×Int)=>jn (fun (w69:Bool)=>fk w69 (jn (fun (w70:Int×Int×Int)=>jn (fun (w74:Int×Int×Int)=>jn (fun (w78:Int×Int×Int)=>ck (decide ((v68.2.2.1.length+([⟨w70.2.2,w74.2.2,w78.2.2⟩]:List Port).length)*24≤140737488355328)) (nx68 (w78.1,w78.2.1,v68.2.2.1++([⟨w70.2.2,w74.2.2,w78.2.2⟩]:List Port),(wr (v68.2.2.2-(1:Int)))))) (fun k78=>jn (fun (w79:Int)=>fk (!decide (w79=(0:Int))) (k78 (w74.1,w79,(0:Int))) (ix a0 (wr ((wr (w74.1+(1:Int)))-(1:Int))) fun x81=>k78 ((wr (w74.1+(1:Int))),w79,(IntKind.i64.wrap x81)))) (fun k79=>jn (fun (w80:Bool)=>fk w80 (k79 (8:Int)) (k79 w74.2.1)) (fun k80=>fk (decide (w74.2.1=(0:Int))) (k80 (decide (w74.1≥(a0.length:Int)))) (k80 false))))) (fun k74=>jn (fun (w75:Int)=>fk (!decide (w75=(0:Int))) (k74 (w70.1,w75,(0:Int))) (ix a0 (wr ((wr (w70.1+(1:Int)))-(1:Int))) fun x77=>k74 ((wr (w70.1+(1:Int))),w75,(IntKind.i64.wrap x77)))) (fun k75=>jn (fun (w76:Bool)=>fk w76 (k75 (8:Int)) (k75 w70.2.1)) (fun k76=>fk (decide (w70.2.1=(0:Int))) (k76 (decide (w70.1≥(a0.length:Int)))) (k76 false))))) (fun k70=>jn (fun (w71:Int)=>fk (!decide (w71=(0:Int))) (k70 (v68.1,w71,(0:Int))) (ix a0 (wr ((wr (v68.1+(1:Int)))-(1:Int))) fun x73=>k70 ((wr (v68.1+(1:Int))),w71,(IntKind.i64.wrap x73)))) (fun k71=>jn (fun (w72:Bool)=>fk w72 (k71 (8:Int)) (k71 v68.2.1)) (fun k72=>fk (decide (v68.2.1=(0:Int))) (k72 (decide (v68.1≥(a0.length:Int)))) (k72 false))))) (k63 (v68.1,v68.2.1,v68.2.2.1))) (fun k69=>fk (decide (v68.2.2.2>(0:Int))) (k69 (decide (v68.2.1=(0:Int)))) (k69 false))) FU (w64.1,w64.2.1,[],w64.2.2)) (fun k64=>jn (fun (w65:Int)=>fk (!decide (w65=(0:Int))) (k64 (w8.1,w65,(0:Int))) (ix a0 (wr ((wr (w8.1+(1:Int)))-(1:Int))) fun x67=>k64 ((wr (w8.1+(1:Int))),w65,(IntKind.i64.wrap x67)))) (fun k65=>jn (fun (w66:Bool)=>fk w66 (k65 (8:Int)) (k65 w8.2.1)) (fun k66=>fk (decide (w8.2.1=(0:Int))) (k66 (decide (w8.1≥(a0.length:Int)))) (k66 false)))))) (fun k8=>jn (fun (w9:Int×Int×Int)=>lp (fun nx13 (v13:Int×Int×(List Part)×Int)=>jn (fun (w14:Bool)=>fk w14 (jn (fun (w15:Int×Int×(List Task)×Int×Int)=>ck (decide ((v13.2.2.1.length+([⟨⟨w15.2.2.2.1,w15.2.2.2.2⟩,w15.2.2.1⟩]:List Part).length)*40≤140737488355328)) (nx13 (w15.1,w15.2.1,v13.2.2.1++([⟨⟨w15.2.2.2.1,w15.2.2.2.2⟩,w15.2.2.1⟩]:List Part),(wr (v13.2.2.2-(1:Int)))))) (fun k15=>jn (fun (w16:Int×Int×Int)=>jn (fun (w20:Int×Int×Int)=>jn (fun (w24:Int×Int×(List Task))=>k15 (w24.1,w24.2.1,w24.2.2,w16.2.2,w20.2.2)) (fun k24=>jn (fun (w25:Int×Int×Int)=>lp (fun nx29 (v29:Int×Int×(List Task)×Int)=>jn (fun (w30:Bool)=>fk w30 (jn (fun (w31:Int×Int×(List Sec)×Int×Int×Int)=>ck (decide ((v29.2.2.1.length+([⟨w31.2.2.2.1,w31.2.2.2.2.1,w31.2.2.2.2.2,w31.2.2.1⟩]:List Task).length)*48≤140737488355328)) (nx29 (w31.1,w31.2.1,v29.2.2.1++([⟨w31.2.2.2.1,w31.2.2.2.2.1,w31.2.2.2.2.2,w31.2.2.1⟩]:List Task),(wr (v29.2.2.2-(1:Int)))))) (fun k31=>jn (fun (w32:Int×Int×Int)=>jn (fun (w36:Int×Int×Int)=>jn (fun (w40:Int×Int×Int)=>jn (fun (w44:Int×Int×(List Sec))=>k31 (w44.1,w44.2.1,w44.2.2,w32.2.2,w36.2.2,w40.2.2)) (fun k44=>jn (fun (w45:Int×Int×Int)=>lp (fun nx49 (v49:Int×Int×(List Sec)×Int)=>jn (fun (w50:Bool)=>fk w50 (jn (fun (w51:Int×Int×Int)=>jn (fun (w55:Int×Int×Int)=>jn (fun (w59:Int×Int×Int)=>ck (decide ((v49.2.2.1.length+([⟨w51.2.2,w55.2.2,w59.2.2⟩]:List Sec).length)*24≤140737488355328)) (nx49 (w59.1,w59.2.1,v49.2.2.1++([⟨w51.2.2,w55.2.2,w59.2.2⟩]:List Sec),(wr (v49.2.2.2-(1:Int)))))) (fun k59=>jn (fun (w60:Int)=>fk (!decide (w60=(0:Int))) (k59 (w55.1,w60,(0:Int))) (ix a0 (wr ((wr (w55.1+(1:Int)))-(1:Int))) fun x62=>k59 ((wr (w55.1+(1:Int))),w60,(IntKind.i64.wrap x62)))) (fun k60=>jn (fun (w61:Bool)=>fk w61 (k60 (8:Int)) (k60 w55.2.1)) (fun k61=>fk (decide (w55.2.1=(0:Int))) (k61 (decide (w55.1≥(a0.length:Int)))) (k61 false))))) (fun k55=>jn (fun (w56:Int)=>fk (!decide (w56=(0:Int))) (k55 (w51.1,w56,(0:Int))) (ix a0 (wr ((wr (w51.1+(1:Int)))-(1:Int))) fun x58=>k55 ((wr (w51.1+(1:Int))),w56,(IntKind.i64.wrap x58)))) (fun k56=>jn (fun (w57:Bool)=>fk w57 (k56 (8:Int)) (k56 w51.2.1)) (fun k57=>fk (decide (w51.2.1=(0:Int))) (k57 (decide (w51.1≥(a0.length:Int)))) (k57 false))))) (fun k51=>jn (fun (w52:Int)=>fk (!decide (w52=(0:Int))) (k51 (v49.1,w52,(0:Int))) (ix a0 (wr ((wr (v49.1+(1:Int)))-(1:Int))) fun x54=>k51 ((wr (v49.1+(1:Int))),w52,(IntKind.i64.wrap x54)))) (fun k52=>jn (fun (w53:Bool)=>fk w53 (k52 (8:Int)) (k52 v49.2.1)) (fun k53=>fk (decide (v49.2.1=(0:Int))) (k53 (decide (v49.1≥(a0.length:Int)))) (k53 false))))) (k44 (v49.1,v49.2.1,v49.2.2.1))) (fun k50=>fk (decide (v49.2.2.2>(0:Int))) (k50 (decide (v49.2.1=(0:Int)))) (k50 false))) FU (w45.1,w45.2.1,[],w45.2.2)) (fun k45=>jn (fun (w46:Int)=>fk (!decide (w46=(0:Int))) (k45 (w40.1,w46,(0:Int))) (ix a0 (wr ((wr (w40.1+(1:Int)))-(1:Int))) fun x48=>k45 ((wr (w40.1+(1:Int))),w46,(IntKind.i64.wrap x48)))) (fun k46=>jn (fun (w47:Bool)=>fk w47 (k46 (8:Int)) (k46 w40.2.1)) (fun k47=>fk (decide (w40.2.1=(0:Int))) (k47 (decide (w40.1≥(a0.length:Int)))) (k47 false)))))) (fun k40=>jn (fun (w41:Int)=>fk (!decide (w41=(0:Int))) (k40 (w36.1,w41,(0:Int))) (ix a0 (wr ((wr (w36.1+(1:Int)))-(1:Int))) fun x43=>k40 ((wr (w36.1+(1:Int))),w41,(IntKind.i64.wrap x43)))) (fun k41=>jn (fun (w42:Bool)=>fk w42 (k41 (8:Int)) (k41 w36.2.1)) (fun k42=>fk (decide (w36.2.1=(0:Int))) (k42 (decide (w36.1≥(a0.length:Int)))) (k42 false))))) (fun k36=>jn (fun (w37:Int)=>fk (!decide (w37=(0:Int))) (k36 (w32.1,w37,(0:Int))) (ix a0 (wr ((wr (w32.1+(1:Int)))-(1:Int))) fun x39=>k36 ((wr (w32.1+(1:Int))),w37,(IntKind.i64.wrap x39)))) (fun k37=>jn (fun (w38:Bool)=>fk w38 (k37 (8:Int)) (k37 w32.2.1)) (fun k38=>fk (decide (w32.2.1=(0:Int))) (k38 (decide (w32.1≥(a0.length:Int)))) (k38 false))))) (fun k32=>jn (fun (w33:Int)=>fk (!decide (w33=(0:Int))) (k32 (v29.1,w33,(0:Int))) (ix a0 (wr ((wr (v29.1+(1:Int)))-(1:Int))) fun x35=>k32 ((wr (v29.1+(1:Int))),w33,(IntKind.i64.wrap x35)))) (fun k33=>jn (fun (w34:Bool)=>fk w34 (k33 (8:Int)) (k33 v29.2.1)) (fun k34=>fk (decide (v29.2.1=(0:Int))) (k34 (decide (v29.1≥(a0.length:Int)))) (k34 false)))))) (k24 (v29.1,v29.2.1,v29.2.2.1))) (fun k30=>fk (decide (v29.2.2.2>(0:Int))) (k30 (decide (v29.2.1=(0:Int)))) (k30 false))) FU (w25.1,w25.2.1,[],w25.2.2)) (fun k25=>jn (fun (w26:Int)=>fk (!decide (w26=(0:Int))) (k25 (w20.1,w26,(0:Int))) (ix a0 (wr ((wr (w20.1+(1:Int)))-(1:Int))) fun x28=>k25 ((wr (w20.1+(1:Int))),w26,(IntKind.i64.wrap x28)))) (fun k26=>jn (fun (w27:Bool)=>fk w27 (k26 (8:Int)) (k26 w20.2.1)) (fun k27=>fk (decide (w20.2.1=(0:Int))) (k27 (decide (w20.1≥(a0.length:Int)))) (k27 false)))))) (fun k20=>jn (fun (w21:Int)=>fk (!decide (w21=(0:Int))) (k20 (w16.1,w21,(0:Int))) (ix a0 (wr ((wr (w16.1+(1:Int)))-(1:Int))) fun x23=>k20 ((wr (w16.1+(1:Int))),w21,(IntKind.i64.wrap x23)))) (fun k21=>jn (fun (w22:Bool)=>fk w22 (k21 (8:Int)) (k21 w16.2.1)) (fun k22=>fk (decide (w16.2.1=(0:Int))) (k22 (decide (w16.1≥(a0.length:Int)))) (k22 false))))) (fun k16=>jn (fun (w17:Int)=>fk (!decide (w17=(0:Int))) (k16 (v13.1,w17,(0:Int))) (ix a0 (wr ((wr (v13.1+(1:Int)))-(1:Int))) fun x19=>k16 ((wr (v13.1+(1:Int))),w17,(IntKind.i64.wrap x19)))) (fun k17=>jn (fun (w18:Bool)=>fk w18 (k17 (8:Int)) (k17 v13.2.1)) (fun k18=>fk (decide (v13.2.1=(0:Int))) (k18 (decide (v13.1≥(a0.length:Int)))) (k18 false)))))) (k8 (v13.1,v13.2.1,v13.2.2.1))) (fun k14=>fk (decide (v13.2.2.2>(0:Int))) (k14 (decide (v13.2.1=(0:Int)))) (k14 false))) FU (w9.1,w9.2.1,[],w9.2.2)) (fun k9=>jn (fun (w10:Int)=>fk (!decide (w10=(0:Int))) (k9 (v1.1,w10,(0:Int))) (ix a0 (wr ((wr (v1.1+(1:Int)))-(1:Int))) fun x12=>k9 ((wr (v1.1+(1:Int))),w10,(IntKind.i64.wrap x12)))) (fun k10=>jn (fun (w11:Bool)=>fk w11 (k10 (8:Int)) (k10 v1.2.1)) (fun k11=>fk (decide (v1.2.1=(0:Int))) (k11 (decide (v1.1≥(a0.length:Int)))) (k11 false))))))) FU ((0:Int),(0:Int),(0:Int))
theorem image_Decode_w (a0:List Int) (r:Config×Int×Int) (h:image_Decode a0=some r):Go.VC.Spec Tryz.prog 43 [.d (.sl (a0.map (eI .u8)))] (fun y=>y=E_Config_Int_Int r):=by
 refine Spec.of_xc (fn:=Tryz.f43) tab ⟨[(0,[0,2]),(1,[0,2,5]),(2,[0,2,5,12]),(3,[0,2,5,12,13]),(4,[0,2,5,6,12]),(5,[0,2,5,6,7,12]),(6,[0,2,5,6,12,28]),(7,[2,3,4]),(8,[0,2,5,12]),(9,[0,2,5,8]),(10,[0,2,5,8]),(11,[0,2,5,8,42]),(12,[2,3,4]),(13,[2,5,8,55]),(14,[2,3,4]),(15,[2,8,68]),(16,[2,3,4]),(17,[2,3,4])],[],[100028],[]⟩ 74 [.cell 2 25,.tmp 3,.tmp 4] rfl rfl rfl rfl rfl rfl ?_<;>conv=>whnf
 refine lpS (fun v1=>⟨[(0,.l (.d (.sl (a0.map (eI .u8))))),(2,.l (.ptr 3 0)),(5,.l (.ptr 12 0)),(12,lI v1.2.2)],74,[],[(3,[.nil,.nil]),(12,[.d (.sl (a0.map (eI .u8))),dI v1.1,dI v1.2.1])],[]⟩) h wR (fun _ nx1 hn1 v1 h=>?_)<;>conv=>whnf
 refine fkS h (fun h=>?_) (fun h=>?_)<;>conv=>whnf
 ·refine inJ (fun w2=>⟨[(16,lI w2.2.2),(15,.l (.ptr 12 0)),(0,.l (.d (.sl (a0.map (eI .u8))))),(2,.l (.ptr 3 0)),(5,.l (.ptr 12 0)),(6,lI v1.2.2),(12,lI v1.2.2)],74,[],[(3,[.nil,.nil]),(12,[.d (.sl (a0.map (eI .u8))),dI w2.1,dI w2.2.1])],[]⟩) h (fun k2 hk2 h=>?_) (fun w2 h=>?_)<;>conv=>whnf
  ·refine inS (fn:=Tryz.f99) tab ⟨[(0,[0]),(1,[0,19]),(2,[0]),(3,[0,27]),(4,[2]),(5,[0]),(6,[2])],[],[100019,3],[]⟩ 47 [.tmp 2] rfl rfl rfl rfl rfl rfl ?_<;>conv=>whnf
   refine jnS (fun w3=>⟨[(0,.l (.ptr 12 0))],47,[⟨[(15,.l (.ptr 12 0)),(0,.l (.d (.sl (a0.map (eI .u8))))),(2,.l (.ptr 3 0)),(5,.l (.ptr 12 0)),(6,lI v1.2.2),(12,lI v1.2.2)],74⟩],[(3,[.nil,.nil]),(12,[.d (.sl (a0.map (eI .u8))),dI v1.1,dI w3])],[]⟩) h (fun k3 hk3 h=>?_) (fun w3 h=>?_)<;>conv=>whnf
   ·refine jnS (fun w4=>⟨[(0,.l (.ptr 12 0)),(19,lB w4)],47,[⟨[(15,.l (.ptr 12 0)),(0,.l (.d (.sl (a0.map (eI .u8))))),(2,.l (.ptr 3 0)),(5,.l (.ptr 12 0)),(6,lI v1.2.2),(12,lI v1.2.2)],74⟩],[(3,[.nil,.nil]),(12,[.d (.sl (a0.map (eI .u8))),dI v1.1,dI v1.2.1])],[]⟩) h (fun k4 hk4 h=>?_) (fun w4 h=>?_)<;>conv=>whnf
    ·refine⟨17,?_⟩
     conv=>whnf
     refine fkS h (fun h=>?_) (fun h=>?_)<;>conv=>whnf
     ·refine lenS a0 (eI .u8) rfl ?_<;>conv=>whnf
      refine drS (by kernel_rfl) ?_<;>conv=>whnf
      exact jeS hk4 h wR
     refine drS (by kernel_rfl) ?_<;>conv=>whnf
     exact jeS hk4 h wR
    refine fkS h (fun h=>?_) (fun h=>?_)<;>conv=>whnf
    ·exact jeS hk3 h wR
    refine jeX hk3 h ?_<;>conv=>whnf
    refine WkF.step (Weak.keepS _ [0]) ?_<;>conv=>whnf
    exact WkF.refl _
   refine fkS h (fun h=>?_) (fun h=>?_)<;>conv=>whnf
   ·exact jeS hk2 h wR
   refine⟨9,?_⟩
   conv=>whnf
   refine drS (by kernel_rfl) ?_<;>conv=>whnf
   refine ixS (enc:=(eI .u8)) h rfl (fun _=>rfl) (fun x5 h=>?_)<;>conv=>whnf
   exact jeS hk2 h wR
  refine jnS (fun w6=>⟨[(0,.l (.d (.sl (a0.map (eI .u8))))),(2,.l (.ptr 3 0)),(5,.l (.ptr 12 0)),(6,lI v1.2.2),(12,lI v1.2.2),(28,lB w6)],74,[],[(3,[.nil,.nil]),(12,[.d (.sl (a0.map (eI .u8))),dI w2.1,dI w2.2.1])],[]⟩) h (fun k6 hk6 h=>?_) (fun w6 h=>?_)<;>conv=>whnf
  ·refine fkS h (fun h=>?_) (fun h=>?_)<;>conv=>whnf
   ·refine isS ([84,75,49]:List Int) h rfl rfl rfl Tryz.underlying9 rfl (fun x7 h=>?_)<;>conv=>whnf
    exact jeS hk6 h wR
   exact jeS hk6 h wR
  refine fkS h (fun h=>?_) (fun h=>?_)<;>conv=>whnf
  ·exact rt (E:=E_Config_Int_Int) h rfl
  exact leS hn1 h wR
 refine inJ (fun w8=>⟨[(35,.l (.own 36)),(34,.l (.mfn 101 12)),(33,.l (.ptr 12 0)),(32,.l (.ptr 12 0)),(13,lB false),(0,.l (.d (.sl (a0.map (eI .u8))))),(2,.l (.ptr 3 0)),(5,.l (.ptr 12 0)),(12,lI v1.2.2)],74,[],[(3,[.nil,.nil]),(12,[.d (.sl (a0.map (eI .u8))),dI w8.1,dI w8.2.1])],[(36,57,3,w8.2.2.map Part.enc)]⟩) h (fun k8 hk8 h=>?_) (fun w8 h=>?_)<;>conv=>whnf
 ·refine inS (fn:=Tryz.f100) tab ⟨[(0,[0,1]),(1,[0,1,5]),(2,[0,1,5,6]),(3,[0,1,5,6,17]),(4,[0,1,5,6]),(5,[0,1,5,6]),(6,[4])],[],[100017],[(23,[301023])]⟩ 26 [.tmp 4] rfl rfl rfl rfl rfl rfl ?_<;>conv=>whnf
  refine inJ (fun w9=>⟨[(8,lI w9.2.2),(7,.l (.ptr 12 0)),(0,.l (.ptr 12 0)),(1,.l (.mfn 101 12)),(5,.l .nil)],26,[⟨[(34,.l (.mfn 101 12)),(33,.l (.ptr 12 0)),(32,.l (.ptr 12 0)),(13,lB false),(0,.l (.d (.sl (a0.map (eI .u8))))),(2,.l (.ptr 3 0)),(5,.l (.ptr 12 0)),(12,lI v1.2.2),(13,lB (decide (v1.2.2<(3:Int))))],74⟩],[(3,[.nil,.nil]),(12,[.d (.sl (a0.map (eI .u8))),dI w9.1,dI w9.2.1])],[]⟩) h (fun k9 hk9 h=>?_) (fun w9 h=>?_)<;>conv=>whnf
  ·refine inS (fn:=Tryz.f99) tab ⟨[(0,[0]),(1,[0,19]),(2,[0]),(3,[0,27]),(4,[2]),(5,[0]),(6,[2])],[],[100019,3],[]⟩ 47 [.tmp 2] rfl rfl rfl rfl rfl rfl ?_<;>conv=>whnf
   refine jnS (fun w10=>⟨[(0,.l (.ptr 12 0))],47,[⟨[(7,.l (.ptr 12 0)),(0,.l (.ptr 12 0)),(1,.l (.mfn 101 12)),(5,.l .nil)],26⟩,⟨[(34,.l (.mfn 101 12)),(33,.l (.ptr 12 0)),(32,.l (.ptr 12 0)),(13,lB false),(0,.l (.d (.sl (a0.map (eI .u8))))),(2,.l (.ptr 3 0)),(5,.l (.ptr 12 0)),(12,lI v1.2.2),(13,lB (decide (v1.2.2<(3:Int))))],74⟩],[(3,[.nil,.nil]),(12,[.d (.sl (a0.map (eI .u8))),dI v1.1,dI w10])],[]⟩) h (fun k10 hk10 h=>?_) (fun w10 h=>?_)<;>conv=>whnf
   ·refine jnS (fun w11=>⟨[(0,.l (.ptr 12 0)),(19,lB w11)],47,[⟨[(7,.l (.ptr 12 0)),(0,.l (.ptr 12 0)),(1,.l (.mfn 101 12)),(5,.l .nil)],26⟩,⟨[(34,.l (.mfn 101 12)),(33,.l (.ptr 12 0)),(32,.l (.ptr 12 0)),(13,lB false),(0,.l (.d (.sl (a0.map (eI .u8))))),(2,.l (.ptr 3 0)),(5,.l (.ptr 12 0)),(12,lI v1.2.2),(13,lB (decide (v1.2.2<(3:Int))))],74⟩],[(3,[.nil,.nil]),(12,[.d (.sl (a0.map (eI .u8))),dI v1.1,dI v1.2.1])],[]⟩) h (fun k11 hk11 h=>?_) (fun w11 h=>?_)<;>conv=>whnf
    ·refine⟨17,?_⟩
     conv=>whnf
     refine fkS h (fun h=>?_) (fun h=>?_)<;>conv=>whnf
     ·refine lenS a0 (eI .u8) rfl ?_<;>conv=>whnf
      refine drS (by kernel_rfl) ?_<;>conv=>whnf
      exact jeS hk11 h wR
     refine drS (by kernel_rfl) ?_<;>conv=>whnf
     exact jeS hk11 h wR
    refine fkS h (fun h=>?_) (fun h=>?_)<;>conv=>whnf
    ·exact jeS hk10 h wR
    refine jeX hk10 h ?_<;>conv=>whnf
    refine WkF.step (Weak.keepS _ [0]) ?_<;>conv=>whnf
    exact WkF.refl _
   refine fkS h (fun h=>?_) (fun h=>?_)<;>conv=>whnf
   ·exact jeS hk9 h wR
   refine⟨9,?_⟩
   conv=>whnf
   refine drS (by kernel_rfl) ?_<;>conv=>whnf
   refine ixS (enc:=(eI .u8)) h rfl (fun _=>rfl) (fun x12 h=>?_)<;>conv=>whnf
   exact jeS hk9 h wR
  refine lpS (fun v13=>⟨[(0,.l (.ptr 12 0)),(1,.l (.mfn 101 12)),(5,.l (.own 1006)),(6,lI v13.2.2.2)],26,[⟨[(34,.l (.mfn 101 12)),(33,.l (.ptr 12 0)),(32,.l (.ptr 12 0)),(13,lB false),(0,.l (.d (.sl (a0.map (eI .u8))))),(2,.l (.ptr 3 0)),(5,.l (.ptr 12 0)),(12,lI v1.2.2),(13,lB (decide (v1.2.2<(3:Int))))],74⟩],[(3,[.nil,.nil]),(12,[.d (.sl (a0.map (eI .u8))),dI v13.1,dI v13.2.1])],[(1006,57,3,v13.2.2.1.map Part.enc)]⟩) h (Weak.trans (Weak.nilO _ 5 1006 57 3 rfl) wR) (fun _ nx13 hn13 v13 h=>?_)<;>conv=>whnf
  refine jnS (fun w14=>⟨[(0,.l (.ptr 12 0)),(1,.l (.mfn 101 12)),(5,.l (.own 1006)),(6,lI v13.2.2.2),(17,lB w14)],26,[⟨[(34,.l (.mfn 101 12)),(33,.l (.ptr 12 0)),(32,.l (.ptr 12 0)),(13,lB false),(0,.l (.d (.sl (a0.map (eI .u8))))),(2,.l (.ptr 3 0)),(5,.l (.ptr 12 0)),(12,lI v1.2.2),(13,lB (decide (v1.2.2<(3:Int))))],74⟩],[(3,[.nil,.nil]),(12,[.d (.sl (a0.map (eI .u8))),dI v13.1,dI v13.2.1])],[(1006,57,3,v13.2.2.1.map Part.enc)]⟩) h (fun k14 hk14 h=>?_) (fun w14 h=>?_)<;>conv=>whnf
  ·refine fkS h (fun h=>?_) (fun h=>?_)<;>conv=>whnf
   ·exact jeS hk14 h wR
   exact jeS hk14 h wR
  refine fkS h (fun h=>?_) (fun h=>?_)<;>conv=>whnf
  ·refine inJ (fun w15=>⟨[(22,.agg [dI w15.2.2.2.1,dI w15.2.2.2.2,.own 301023]),(21,.l (.mfn 101 12)),(20,.l (.own 1006)),(17,lB true),(0,.l (.ptr 12 0)),(1,.l (.mfn 101 12)),(5,.l (.own 1006)),(6,lI v13.2.2.2)],26,[⟨[(34,.l (.mfn 101 12)),(33,.l (.ptr 12 0)),(32,.l (.ptr 12 0)),(13,lB false),(0,.l (.d (.sl (a0.map (eI .u8))))),(2,.l (.ptr 3 0)),(5,.l (.ptr 12 0)),(12,lI v1.2.2),(13,lB (decide (v1.2.2<(3:Int))))],74⟩],[(3,[.nil,.nil]),(12,[.d (.sl (a0.map (eI .u8))),dI w15.1,dI w15.2.1])],[(1006,57,3,v13.2.2.1.map Part.enc),(301023,67,4,w15.2.2.1.map Task.enc)]⟩) h (fun k15 hk15 h=>?_) (fun w15 h=>?_)<;>conv=>whnf
   ·refine inS (fn:=Tryz.f101) tab ⟨[(0,[0,2]),(1,[0,2,3,4]),(2,[2])],[],[],[]⟩ 17 [.cell 2 57] rfl rfl rfl rfl rfl rfl ?_<;>conv=>whnf
    refine inJ (fun w16=>⟨[(6,lI w16.2.2),(5,.l (.ptr 12 0)),(0,.l (.ptr 12 0)),(2,.l (.ptr 2003 0))],17,[⟨[(21,.l (.mfn 101 12)),(20,.l (.own 1006)),(17,lB true),(0,.l (.ptr 12 0)),(1,.l (.mfn 101 12)),(5,.l (.own 1006)),(6,lI v13.2.2.2),(17,lB w14)],26⟩,⟨[(34,.l (.mfn 101 12)),(33,.l (.ptr 12 0)),(32,.l (.ptr 12 0)),(13,lB false),(0,.l (.d (.sl (a0.map (eI .u8))))),(2,.l (.ptr 3 0)),(5,.l (.ptr 12 0)),(12,lI v1.2.2),(13,lB (decide (v1.2.2<(3:Int))))],74⟩],[(3,[.nil,.nil]),(12,[.d (.sl (a0.map (eI .u8))),dI w16.1,dI w16.2.1]),(2003,[dI (0:Int),dI (0:Int),.nil])],[(1006,57,3,v13.2.2.1.map Part.enc)]⟩) h (fun k16 hk16 h=>?_) (fun w16 h=>?_)<;>conv=>whnf
    ·refine inS (fn:=Tryz.f99) tab ⟨[(0,[0]),(1,[0,19]),(2,[0]),(3,[0,27]),(4,[2]),(5,[0]),(6,[2])],[],[100019,3],[]⟩ 47 [.tmp 2] rfl rfl rfl rfl rfl rfl ?_<;>conv=>whnf
     refine jnS (fun w17=>⟨[(0,.l (.ptr 12 0))],47,[⟨[(5,.l (.ptr 12 0)),(0,.l (.ptr 12 0)),(2,.l (.ptr 2003 0))],17⟩,⟨[(21,.l (.mfn 101 12)),(20,.l (.own 1006)),(17,lB true),(0,.l (.ptr 12 0)),(1,.l (.mfn 101 12)),(5,.l (.own 1006)),(6,lI v13.2.2.2),(17,lB w14)],26⟩,⟨[(34,.l (.mfn 101 12)),(33,.l (.ptr 12 0)),(32,.l (.ptr 12 0)),(13,lB false),(0,.l (.d (.sl (a0.map (eI .u8))))),(2,.l (.ptr 3 0)),(5,.l (.ptr 12 0)),(12,lI v1.2.2),(13,lB (decide (v1.2.2<(3:Int))))],74⟩],[(3,[.nil,.nil]),(12,[.d (.sl (a0.map (eI .u8))),dI v13.1,dI w17]),(2003,[dI (0:Int),dI (0:Int),.nil])],[(1006,57,3,v13.2.2.1.map Part.enc)]⟩) h (fun k17 hk17 h=>?_) (fun w17 h=>?_)<;>conv=>whnf
     ·refine jnS (fun w18=>⟨[(0,.l (.ptr 12 0)),(19,lB w18)],47,[⟨[(5,.l (.ptr 12 0)),(0,.l (.ptr 12 0)),(2,.l (.ptr 2003 0))],17⟩,⟨[(21,.l (.mfn 101 12)),(20,.l (.own 1006)),(17,lB true),(0,.l (.ptr 12 0)),(1,.l (.mfn 101 12)),(5,.l (.own 1006)),(6,lI v13.2.2.2),(17,lB w14)],26⟩,⟨[(34,.l (.mfn 101 12)),(33,.l (.ptr 12 0)),(32,.l (.ptr 12 0)),(13,lB false),(0,.l (.d (.sl (a0.map (eI .u8))))),(2,.l (.ptr 3 0)),(5,.l (.ptr 12 0)),(12,lI v1.2.2),(13,lB (decide (v1.2.2<(3:Int))))],74⟩],[(3,[.nil,.nil]),(12,[.d (.sl (a0.map (eI .u8))),dI v13.1,dI v13.2.1]),(2003,[dI (0:Int),dI (0:Int),.nil])],[(1006,57,3,v13.2.2.1.map Part.enc)]⟩) h (fun k18 hk18 h=>?_) (fun w18 h=>?_)<;>conv=>whnf
      ·refine⟨17,?_⟩
       conv=>whnf
       refine fkS h (fun h=>?_) (fun h=>?_)<;>conv=>whnf
       ·refine lenS a0 (eI .u8) rfl ?_<;>conv=>whnf
        refine drS (by kernel_rfl) ?_<;>conv=>whnf
        exact jeS hk18 h wR
       refine drS (by kernel_rfl) ?_<;>conv=>whnf
       exact jeS hk18 h wR
      refine fkS h (fun h=>?_) (fun h=>?_)<;>conv=>whnf
      ·exact jeS hk17 h wR
      refine jeX hk17 h ?_<;>conv=>whnf
      refine WkF.step (Weak.keepS _ [0]) ?_<;>conv=>whnf
      exact WkF.refl _
     refine fkS h (fun h=>?_) (fun h=>?_)<;>conv=>whnf
     ·exact jeS hk16 h wR
     refine⟨9,?_⟩
     conv=>whnf
     refine drS (by kernel_rfl) ?_<;>conv=>whnf
     refine ixS (enc:=(eI .u8)) h rfl (fun _=>rfl) (fun x19 h=>?_)<;>conv=>whnf
     exact jeS hk16 h wR
    refine inJ (fun w20=>⟨[(8,lI w20.2.2),(7,.l (.ptr 12 0)),(6,lI w16.2.2),(5,.l (.ptr 12 0)),(0,.l (.ptr 12 0)),(2,.l (.ptr 2003 0))],17,[⟨[(21,.l (.mfn 101 12)),(20,.l (.own 1006)),(17,lB true),(0,.l (.ptr 12 0)),(1,.l (.mfn 101 12)),(5,.l (.own 1006)),(6,lI v13.2.2.2),(17,lB w14)],26⟩,⟨[(34,.l (.mfn 101 12)),(33,.l (.ptr 12 0)),(32,.l (.ptr 12 0)),(13,lB false),(0,.l (.d (.sl (a0.map (eI .u8))))),(2,.l (.ptr 3 0)),(5,.l (.ptr 12 0)),(12,lI v1.2.2),(13,lB (decide (v1.2.2<(3:Int))))],74⟩],[(3,[.nil,.nil]),(12,[.d (.sl (a0.map (eI .u8))),dI w20.1,dI w20.2.1]),(2003,[dI (0:Int),dI (0:Int),.nil])],[(1006,57,3,v13.2.2.1.map Part.enc)]⟩) h (fun k20 hk20 h=>?_) (fun w20 h=>?_)<;>conv=>whnf
    ·refine inS (fn:=Tryz.f99) tab ⟨[(0,[0]),(1,[0,19]),(2,[0]),(3,[0,27]),(4,[2]),(5,[0]),(6,[2])],[],[100019,3],[]⟩ 47 [.tmp 2] rfl rfl rfl rfl rfl rfl ?_<;>conv=>whnf
     refine jnS (fun w21=>⟨[(0,.l (.ptr 12 0))],47,[⟨[(7,.l (.ptr 12 0)),(6,lI w16.2.2),(5,.l (.ptr 12 0)),(0,.l (.ptr 12 0)),(2,.l (.ptr 2003 0))],17⟩,⟨[(21,.l (.mfn 101 12)),(20,.l (.own 1006)),(17,lB true),(0,.l (.ptr 12 0)),(1,.l (.mfn 101 12)),(5,.l (.own 1006)),(6,lI v13.2.2.2),(17,lB w14)],26⟩,⟨[(34,.l (.mfn 101 12)),(33,.l (.ptr 12 0)),(32,.l (.ptr 12 0)),(13,lB false),(0,.l (.d (.sl (a0.map (eI .u8))))),(2,.l (.ptr 3 0)),(5,.l (.ptr 12 0)),(12,lI v1.2.2),(13,lB (decide (v1.2.2<(3:Int))))],74⟩],[(3,[.nil,.nil]),(12,[.d (.sl (a0.map (eI .u8))),dI w16.1,dI w21]),(2003,[dI (0:Int),dI (0:Int),.nil])],[(1006,57,3,v13.2.2.1.map Part.enc)]⟩) h (fun k21 hk21 h=>?_) (fun w21 h=>?_)<;>conv=>whnf
     ·refine jnS (fun w22=>⟨[(0,.l (.ptr 12 0)),(19,lB w22)],47,[⟨[(7,.l (.ptr 12 0)),(6,lI w16.2.2),(5,.l (.ptr 12 0)),(0,.l (.ptr 12 0)),(2,.l (.ptr 2003 0))],17⟩,⟨[(21,.l (.mfn 101 12)),(20,.l (.own 1006)),(17,lB true),(0,.l (.ptr 12 0)),(1,.l (.mfn 101 12)),(5,.l (.own 1006)),(6,lI v13.2.2.2),(17,lB w14)],26⟩,⟨[(34,.l (.mfn 101 12)),(33,.l (.ptr 12 0)),(32,.l (.ptr 12 0)),(13,lB false),(0,.l (.d (.sl (a0.map (eI .u8))))),(2,.l (.ptr 3 0)),(5,.l (.ptr 12 0)),(12,lI v1.2.2),(13,lB (decide (v1.2.2<(3:Int))))],74⟩],[(3,[.nil,.nil]),(12,[.d (.sl (a0.map (eI .u8))),dI w16.1,dI w16.2.1]),(2003,[dI (0:Int),dI (0:Int),.nil])],[(1006,57,3,v13.2.2.1.map Part.enc)]⟩) h (fun k22 hk22 h=>?_) (fun w22 h=>?_)<;>conv=>whnf
      ·refine⟨17,?_⟩
       conv=>whnf
       refine fkS h (fun h=>?_) (fun h=>?_)<;>conv=>whnf
       ·refine lenS a0 (eI .u8) rfl ?_<;>conv=>whnf
        refine drS (by kernel_rfl) ?_<;>conv=>whnf
        exact jeS hk22 h wR
       refine drS (by kernel_rfl) ?_<;>conv=>whnf
       exact jeS hk22 h wR
      refine fkS h (fun h=>?_) (fun h=>?_)<;>conv=>whnf
      ·exact jeS hk21 h wR
      refine jeX hk21 h ?_<;>conv=>whnf
      refine WkF.step (Weak.keepS _ [0]) ?_<;>conv=>whnf
      exact WkF.refl _
     refine fkS h (fun h=>?_) (fun h=>?_)<;>conv=>whnf
     ·exact jeS hk20 h wR
     refine⟨9,?_⟩
     conv=>whnf
     refine drS (by kernel_rfl) ?_<;>conv=>whnf
     refine ixS (enc:=(eI .u8)) h rfl (fun _=>rfl) (fun x23 h=>?_)<;>conv=>whnf
     exact jeS hk20 h wR
    refine inJ (fun w24=>⟨[(15,.l (.own 2016)),(14,.l (.mfn 149 12)),(13,.l (.ptr 12 0)),(12,.l (.ptr 12 0)),(11,.agg [dI w16.2.2,dI w20.2.2]),(10,lI w20.2.2),(9,lI w16.2.2),(0,.l (.ptr 12 0)),(2,.l (.ptr 2003 0)),(3,lI w16.2.2),(4,lI w20.2.2)],17,[⟨[(21,.l (.mfn 101 12)),(20,.l (.own 1006)),(17,lB true),(0,.l (.ptr 12 0)),(1,.l (.mfn 101 12)),(5,.l (.own 1006)),(6,lI v13.2.2.2),(17,lB w14)],26⟩,⟨[(34,.l (.mfn 101 12)),(33,.l (.ptr 12 0)),(32,.l (.ptr 12 0)),(13,lB false),(0,.l (.d (.sl (a0.map (eI .u8))))),(2,.l (.ptr 3 0)),(5,.l (.ptr 12 0)),(12,lI v1.2.2),(13,lB (decide (v1.2.2<(3:Int))))],74⟩],[(3,[.nil,.nil]),(12,[.d (.sl (a0.map (eI .u8))),dI w24.1,dI w24.2.1]),(2003,[dI (0:Int),dI (0:Int),.nil])],[(1006,57,3,v13.2.2.1.map Part.enc),(2016,67,4,w24.2.2.map Task.enc)]⟩) h (fun k24 hk24 h=>?_) (fun w24 h=>?_)<;>conv=>whnf
    ·refine inS (fn:=Tryz.f148) tab ⟨[(0,[0,1]),(1,[0,1,5]),(2,[0,1,5,6]),(3,[0,1,5,6,17]),(4,[0,1,5,6]),(5,[0,1,5,6]),(6,[4])],[],[100017],[(23,[403023])]⟩ 26 [.tmp 4] rfl rfl rfl rfl rfl rfl ?_<;>conv=>whnf
     refine inJ (fun w25=>⟨[(8,lI w25.2.2),(7,.l (.ptr 12 0)),(0,.l (.ptr 12 0)),(1,.l (.mfn 149 12)),(5,.l .nil)],26,[⟨[(14,.l (.mfn 149 12)),(13,.l (.ptr 12 0)),(12,.l (.ptr 12 0)),(11,.agg [dI w16.2.2,dI w20.2.2]),(10,lI w20.2.2),(9,lI w16.2.2),(0,.l (.ptr 12 0)),(2,.l (.ptr 2003 0)),(3,lI w16.2.2),(4,lI w20.2.2)],17⟩,⟨[(21,.l (.mfn 101 12)),(20,.l (.own 1006)),(17,lB true),(0,.l (.ptr 12 0)),(1,.l (.mfn 101 12)),(5,.l (.own 1006)),(6,lI v13.2.2.2),(17,lB w14)],26⟩,⟨[(34,.l (.mfn 101 12)),(33,.l (.ptr 12 0)),(32,.l (.ptr 12 0)),(13,lB false),(0,.l (.d (.sl (a0.map (eI .u8))))),(2,.l (.ptr 3 0)),(5,.l (.ptr 12 0)),(12,lI v1.2.2),(13,lB (decide (v1.2.2<(3:Int))))],74⟩],[(3,[.nil,.nil]),(12,[.d (.sl (a0.map (eI .u8))),dI w25.1,dI w25.2.1]),(2003,[dI (0:Int),dI (0:Int),.nil])],[(1006,57,3,v13.2.2.1.map Part.enc)]⟩) h (fun k25 hk25 h=>?_) (fun w25 h=>?_)<;>conv=>whnf
     ·refine inS (fn:=Tryz.f99) tab ⟨[(0,[0]),(1,[0,19]),(2,[0]),(3,[0,27]),(4,[2]),(5,[0]),(6,[2])],[],[100019,3],[]⟩ 47 [.tmp 2] rfl rfl rfl rfl rfl rfl ?_<;>conv=>whnf
      refine jnS (fun w26=>⟨[(0,.l (.ptr 12 0))],47,[⟨[(7,.l (.ptr 12 0)),(0,.l (.ptr 12 0)),(1,.l (.mfn 149 12)),(5,.l .nil)],26⟩,⟨[(14,.l (.mfn 149 12)),(13,.l (.ptr 12 0)),(12,.l (.ptr 12 0)),(11,.agg [dI w16.2.2,dI w20.2.2]),(10,lI w20.2.2),(9,lI w16.2.2),(0,.l (.ptr 12 0)),(2,.l (.ptr 2003 0)),(3,lI w16.2.2),(4,lI w20.2.2)],17⟩,⟨[(21,.l (.mfn 101 12)),(20,.l (.own 1006)),(17,lB true),(0,.l (.ptr 12 0)),(1,.l (.mfn 101 12)),(5,.l (.own 1006)),(6,lI v13.2.2.2),(17,lB w14)],26⟩,⟨[(34,.l (.mfn 101 12)),(33,.l (.ptr 12 0)),(32,.l (.ptr 12 0)),(13,lB false),(0,.l (.d (.sl (a0.map (eI .u8))))),(2,.l (.ptr 3 0)),(5,.l (.ptr 12 0)),(12,lI v1.2.2),(13,lB (decide (v1.2.2<(3:Int))))],74⟩],[(3,[.nil,.nil]),(12,[.d (.sl (a0.map (eI .u8))),dI w20.1,dI w26]),(2003,[dI (0:Int),dI (0:Int),.nil])],[(1006,57,3,v13.2.2.1.map Part.enc)]⟩) h (fun k26 hk26 h=>?_) (fun w26 h=>?_)<;>conv=>whnf
      ·refine jnS (fun w27=>⟨[(0,.l (.ptr 12 0)),(19,lB w27)],47,[⟨[(7,.l (.ptr 12 0)),(0,.l (.ptr 12 0)),(1,.l (.mfn 149 12)),(5,.l .nil)],26⟩,⟨[(14,.l (.mfn 149 12)),(13,.l (.ptr 12 0)),(12,.l (.ptr 12 0)),(11,.agg [dI w16.2.2,dI w20.2.2]),(10,lI w20.2.2),(9,lI w16.2.2),(0,.l (.ptr 12 0)),(2,.l (.ptr 2003 0)),(3,lI w16.2.2),(4,lI w20.2.2)],17⟩,⟨[(21,.l (.mfn 101 12)),(20,.l (.own 1006)),(17,lB true),(0,.l (.ptr 12 0)),(1,.l (.mfn 101 12)),(5,.l (.own 1006)),(6,lI v13.2.2.2),(17,lB w14)],26⟩,⟨[(34,.l (.mfn 101 12)),(33,.l (.ptr 12 0)),(32,.l (.ptr 12 0)),(13,lB false),(0,.l (.d (.sl (a0.map (eI .u8))))),(2,.l (.ptr 3 0)),(5,.l (.ptr 12 0)),(12,lI v1.2.2),(13,lB (decide (v1.2.2<(3:Int))))],74⟩],[(3,[.nil,.nil]),(12,[.d (.sl (a0.map (eI .u8))),dI w20.1,dI w20.2.1]),(2003,[dI (0:Int),dI (0:Int),.nil])],[(1006,57,3,v13.2.2.1.map Part.enc)]⟩) h (fun k27 hk27 h=>?_) (fun w27 h=>?_)<;>conv=>whnf
       ·refine⟨17,?_⟩
        conv=>whnf
        refine fkS h (fun h=>?_) (fun h=>?_)<;>conv=>whnf
        ·refine lenS a0 (eI .u8) rfl ?_<;>conv=>whnf
         refine drS (by kernel_rfl) ?_<;>conv=>whnf
         exact jeS hk27 h wR
        refine drS (by kernel_rfl) ?_<;>conv=>whnf
        exact jeS hk27 h wR
       refine fkS h (fun h=>?_) (fun h=>?_)<;>conv=>whnf
       ·exact jeS hk26 h wR
       refine jeX hk26 h ?_<;>conv=>whnf
       refine WkF.step (Weak.keepS _ [0]) ?_<;>conv=>whnf
       exact WkF.refl _
      refine fkS h (fun h=>?_) (fun h=>?_)<;>conv=>whnf
      ·exact jeS hk25 h wR
      refine⟨9,?_⟩
      conv=>whnf
      refine drS (by kernel_rfl) ?_<;>conv=>whnf
      refine ixS (enc:=(eI .u8)) h rfl (fun _=>rfl) (fun x28 h=>?_)<;>conv=>whnf
      exact jeS hk25 h wR
     refine lpS (fun v29=>⟨[(0,.l (.ptr 12 0)),(1,.l (.mfn 149 12)),(5,.l (.own 3006)),(6,lI v29.2.2.2)],26,[⟨[(14,.l (.mfn 149 12)),(13,.l (.ptr 12 0)),(12,.l (.ptr 12 0)),(11,.agg [dI w16.2.2,dI w20.2.2]),(10,lI w20.2.2),(9,lI w16.2.2),(0,.l (.ptr 12 0)),(2,.l (.ptr 2003 0)),(3,lI w16.2.2),(4,lI w20.2.2)],17⟩,⟨[(21,.l (.mfn 101 12)),(20,.l (.own 1006)),(17,lB true),(0,.l (.ptr 12 0)),(1,.l (.mfn 101 12)),(5,.l (.own 1006)),(6,lI v13.2.2.2),(17,lB w14)],26⟩,⟨[(34,.l (.mfn 101 12)),(33,.l (.ptr 12 0)),(32,.l (.ptr 12 0)),(13,lB false),(0,.l (.d (.sl (a0.map (eI .u8))))),(2,.l (.ptr 3 0)),(5,.l (.ptr 12 0)),(12,lI v1.2.2),(13,lB (decide (v1.2.2<(3:Int))))],74⟩],[(3,[.nil,.nil]),(12,[.d (.sl (a0.map (eI .u8))),dI v29.1,dI v29.2.1]),(2003,[dI (0:Int),dI (0:Int),.nil])],[(1006,57,3,v13.2.2.1.map Part.enc),(3006,67,4,v29.2.2.1.map Task.enc)]⟩) h (Weak.trans (Weak.nilO _ 5 3006 67 4 rfl) wR) (fun _ nx29 hn29 v29 h=>?_)<;>conv=>whnf
     refine jnS (fun w30=>⟨[(0,.l (.ptr 12 0)),(1,.l (.mfn 149 12)),(5,.l (.own 3006)),(6,lI v29.2.2.2),(17,lB w30)],26,[⟨[(14,.l (.mfn 149 12)),(13,.l (.ptr 12 0)),(12,.l (.ptr 12 0)),(11,.agg [dI w16.2.2,dI w20.2.2]),(10,lI w20.2.2),(9,lI w16.2.2),(0,.l (.ptr 12 0)),(2,.l (.ptr 2003 0)),(3,lI w16.2.2),(4,lI w20.2.2)],17⟩,⟨[(21,.l (.mfn 101 12)),(20,.l (.own 1006)),(17,lB true),(0,.l (.ptr 12 0)),(1,.l (.mfn 101 12)),(5,.l (.own 1006)),(6,lI v13.2.2.2),(17,lB w14)],26⟩,⟨[(34,.l (.mfn 101 12)),(33,.l (.ptr 12 0)),(32,.l (.ptr 12 0)),(13,lB false),(0,.l (.d (.sl (a0.map (eI .u8))))),(2,.l (.ptr 3 0)),(5,.l (.ptr 12 0)),(12,lI v1.2.2),(13,lB (decide (v1.2.2<(3:Int))))],74⟩],[(3,[.nil,.nil]),(12,[.d (.sl (a0.map (eI .u8))),dI v29.1,dI v29.2.1]),(2003,[dI (0:Int),dI (0:Int),.nil])],[(1006,57,3,v13.2.2.1.map Part.enc),(3006,67,4,v29.2.2.1.map Task.enc)]⟩) h (fun k30 hk30 h=>?_) (fun w30 h=>?_)<;>conv=>whnf
     ·refine fkS h (fun h=>?_) (fun h=>?_)<;>conv=>whnf
      ·exact jeS hk30 h wR
      exact jeS hk30 h wR
     refine fkS h (fun h=>?_) (fun h=>?_)<;>conv=>whnf
     ·refine inJ (fun w31=>⟨[(22,.agg [dI w31.2.2.2.1,dI w31.2.2.2.2.1,dI w31.2.2.2.2.2,.own 403023]),(21,.l (.mfn 149 12)),(20,.l (.own 3006)),(17,lB true),(0,.l (.ptr 12 0)),(1,.l (.mfn 149 12)),(5,.l (.own 3006)),(6,lI v29.2.2.2)],26,[⟨[(14,.l (.mfn 149 12)),(13,.l (.ptr 12 0)),(12,.l (.ptr 12 0)),(11,.agg [dI w16.2.2,dI w20.2.2]),(10,lI w20.2.2),(9,lI w16.2.2),(0,.l (.ptr 12 0)),(2,.l (.ptr 2003 0)),(3,lI w16.2.2),(4,lI w20.2.2)],17⟩,⟨[(21,.l (.mfn 101 12)),(20,.l (.own 1006)),(17,lB true),(0,.l (.ptr 12 0)),(1,.l (.mfn 101 12)),(5,.l (.own 1006)),(6,lI v13.2.2.2),(17,lB w14)],26⟩,⟨[(34,.l (.mfn 101 12)),(33,.l (.ptr 12 0)),(32,.l (.ptr 12 0)),(13,lB false),(0,.l (.d (.sl (a0.map (eI .u8))))),(2,.l (.ptr 3 0)),(5,.l (.ptr 12 0)),(12,lI v1.2.2),(13,lB (decide (v1.2.2<(3:Int))))],74⟩],[(3,[.nil,.nil]),(12,[.d (.sl (a0.map (eI .u8))),dI w31.1,dI w31.2.1]),(2003,[dI (0:Int),dI (0:Int),.nil])],[(1006,57,3,v13.2.2.1.map Part.enc),(3006,67,4,v29.2.2.1.map Task.enc),(403023,200,3,w31.2.2.1.map Sec.enc)]⟩) h (fun k31 hk31 h=>?_) (fun w31 h=>?_)<;>conv=>whnf
      ·refine inS (fn:=Tryz.f149) tab ⟨[(0,[0,2]),(1,[0,2,3,4,5]),(2,[2])],[],[],[]⟩ 20 [.cell 2 67] rfl rfl rfl rfl rfl rfl ?_<;>conv=>whnf
       refine inJ (fun w32=>⟨[(7,lI w32.2.2),(6,.l (.ptr 12 0)),(0,.l (.ptr 12 0)),(2,.l (.ptr 4003 0))],20,[⟨[(21,.l (.mfn 149 12)),(20,.l (.own 3006)),(17,lB true),(0,.l (.ptr 12 0)),(1,.l (.mfn 149 12)),(5,.l (.own 3006)),(6,lI v29.2.2.2),(17,lB w30)],26⟩,⟨[(14,.l (.mfn 149 12)),(13,.l (.ptr 12 0)),(12,.l (.ptr 12 0)),(11,.agg [dI w16.2.2,dI w20.2.2]),(10,lI w20.2.2),(9,lI w16.2.2),(0,.l (.ptr 12 0)),(2,.l (.ptr 2003 0)),(3,lI w16.2.2),(4,lI w20.2.2)],17⟩,⟨[(21,.l (.mfn 101 12)),(20,.l (.own 1006)),(17,lB true),(0,.l (.ptr 12 0)),(1,.l (.mfn 101 12)),(5,.l (.own 1006)),(6,lI v13.2.2.2),(17,lB w14)],26⟩,⟨[(34,.l (.mfn 101 12)),(33,.l (.ptr 12 0)),(32,.l (.ptr 12 0)),(13,lB false),(0,.l (.d (.sl (a0.map (eI .u8))))),(2,.l (.ptr 3 0)),(5,.l (.ptr 12 0)),(12,lI v1.2.2),(13,lB (decide (v1.2.2<(3:Int))))],74⟩],[(3,[.nil,.nil]),(12,[.d (.sl (a0.map (eI .u8))),dI w32.1,dI w32.2.1]),(2003,[dI (0:Int),dI (0:Int),.nil]),(4003,[dI (0:Int),dI (0:Int),dI (0:Int),.nil])],[(1006,57,3,v13.2.2.1.map Part.enc),(3006,67,4,v29.2.2.1.map Task.enc)]⟩) h (fun k32 hk32 h=>?_) (fun w32 h=>?_)<;>conv=>whnf
       ·refine inS (fn:=Tryz.f99) tab ⟨[(0,[0]),(1,[0,19]),(2,[0]),(3,[0,27]),(4,[2]),(5,[0]),(6,[2])],[],[100019,3],[]⟩ 47 [.tmp 2] rfl rfl rfl rfl rfl rfl ?_<;>conv=>whnf
        refine jnS (fun w33=>⟨[(0,.l (.ptr 12 0))],47,[⟨[(6,.l (.ptr 12 0)),(0,.l (.ptr 12 0)),(2,.l (.ptr 4003 0))],20⟩,⟨[(21,.l (.mfn 149 12)),(20,.l (.own 3006)),(17,lB true),(0,.l (.ptr 12 0)),(1,.l (.mfn 149 12)),(5,.l (.own 3006)),(6,lI v29.2.2.2),(17,lB w30)],26⟩,⟨[(14,.l (.mfn 149 12)),(13,.l (.ptr 12 0)),(12,.l (.ptr 12 0)),(11,.agg [dI w16.2.2,dI w20.2.2]),(10,lI w20.2.2),(9,lI w16.2.2),(0,.l (.ptr 12 0)),(2,.l (.ptr 2003 0)),(3,lI w16.2.2),(4,lI w20.2.2)],17⟩,⟨[(21,.l (.mfn 101 12)),(20,.l (.own 1006)),(17,lB true),(0,.l (.ptr 12 0)),(1,.l (.mfn 101 12)),(5,.l (.own 1006)),(6,lI v13.2.2.2),(17,lB w14)],26⟩,⟨[(34,.l (.mfn 101 12)),(33,.l (.ptr 12 0)),(32,.l (.ptr 12 0)),(13,lB false),(0,.l (.d (.sl (a0.map (eI .u8))))),(2,.l (.ptr 3 0)),(5,.l (.ptr 12 0)),(12,lI v1.2.2),(13,lB (decide (v1.2.2<(3:Int))))],74⟩],[(3,[.nil,.nil]),(12,[.d (.sl (a0.map (eI .u8))),dI v29.1,dI w33]),(2003,[dI (0:Int),dI (0:Int),.nil]),(4003,[dI (0:Int),dI (0:Int),dI (0:Int),.nil])],[(1006,57,3,v13.2.2.1.map Part.enc),(3006,67,4,v29.2.2.1.map Task.enc)]⟩) h (fun k33 hk33 h=>?_) (fun w33 h=>?_)<;>conv=>whnf
        ·refine jnS (fun w34=>⟨[(0,.l (.ptr 12 0)),(19,lB w34)],47,[⟨[(6,.l (.ptr 12 0)),(0,.l (.ptr 12 0)),(2,.l (.ptr 4003 0))],20⟩,⟨[(21,.l (.mfn 149 12)),(20,.l (.own 3006)),(17,lB true),(0,.l (.ptr 12 0)),(1,.l (.mfn 149 12)),(5,.l (.own 3006)),(6,lI v29.2.2.2),(17,lB w30)],26⟩,⟨[(14,.l (.mfn 149 12)),(13,.l (.ptr 12 0)),(12,.l (.ptr 12 0)),(11,.agg [dI w16.2.2,dI w20.2.2]),(10,lI w20.2.2),(9,lI w16.2.2),(0,.l (.ptr 12 0)),(2,.l (.ptr 2003 0)),(3,lI w16.2.2),(4,lI w20.2.2)],17⟩,⟨[(21,.l (.mfn 101 12)),(20,.l (.own 1006)),(17,lB true),(0,.l (.ptr 12 0)),(1,.l (.mfn 101 12)),(5,.l (.own 1006)),(6,lI v13.2.2.2),(17,lB w14)],26⟩,⟨[(34,.l (.mfn 101 12)),(33,.l (.ptr 12 0)),(32,.l (.ptr 12 0)),(13,lB false),(0,.l (.d (.sl (a0.map (eI .u8))))),(2,.l (.ptr 3 0)),(5,.l (.ptr 12 0)),(12,lI v1.2.2),(13,lB (decide (v1.2.2<(3:Int))))],74⟩],[(3,[.nil,.nil]),(12,[.d (.sl (a0.map (eI .u8))),dI v29.1,dI v29.2.1]),(2003,[dI (0:Int),dI (0:Int),.nil]),(4003,[dI (0:Int),dI (0:Int),dI (0:Int),.nil])],[(1006,57,3,v13.2.2.1.map Part.enc),(3006,67,4,v29.2.2.1.map Task.enc)]⟩) h (fun k34 hk34 h=>?_) (fun w34 h=>?_)<;>conv=>whnf
         ·refine⟨17,?_⟩
          conv=>whnf
          refine fkS h (fun h=>?_) (fun h=>?_)<;>conv=>whnf
          ·refine lenS a0 (eI .u8) rfl ?_<;>conv=>whnf
           refine drS (by kernel_rfl) ?_<;>conv=>whnf
           exact jeS hk34 h wR
          refine drS (by kernel_rfl) ?_<;>conv=>whnf
          exact jeS hk34 h wR
         refine fkS h (fun h=>?_) (fun h=>?_)<;>conv=>whnf
         ·exact jeS hk33 h wR
         refine jeX hk33 h ?_<;>conv=>whnf
         refine WkF.step (Weak.keepS _ [0]) ?_<;>conv=>whnf
         exact WkF.refl _
        refine fkS h (fun h=>?_) (fun h=>?_)<;>conv=>whnf
        ·exact jeS hk32 h wR
        refine⟨9,?_⟩
        conv=>whnf
        refine drS (by kernel_rfl) ?_<;>conv=>whnf
        refine ixS (enc:=(eI .u8)) h rfl (fun _=>rfl) (fun x35 h=>?_)<;>conv=>whnf
        exact jeS hk32 h wR
       refine inJ (fun w36=>⟨[(9,lI w36.2.2),(8,.l (.ptr 12 0)),(7,lI w32.2.2),(6,.l (.ptr 12 0)),(0,.l (.ptr 12 0)),(2,.l (.ptr 4003 0))],20,[⟨[(21,.l (.mfn 149 12)),(20,.l (.own 3006)),(17,lB true),(0,.l (.ptr 12 0)),(1,.l (.mfn 149 12)),(5,.l (.own 3006)),(6,lI v29.2.2.2),(17,lB w30)],26⟩,⟨[(14,.l (.mfn 149 12)),(13,.l (.ptr 12 0)),(12,.l (.ptr 12 0)),(11,.agg [dI w16.2.2,dI w20.2.2]),(10,lI w20.2.2),(9,lI w16.2.2),(0,.l (.ptr 12 0)),(2,.l (.ptr 2003 0)),(3,lI w16.2.2),(4,lI w20.2.2)],17⟩,⟨[(21,.l (.mfn 101 12)),(20,.l (.own 1006)),(17,lB true),(0,.l (.ptr 12 0)),(1,.l (.mfn 101 12)),(5,.l (.own 1006)),(6,lI v13.2.2.2),(17,lB w14)],26⟩,⟨[(34,.l (.mfn 101 12)),(33,.l (.ptr 12 0)),(32,.l (.ptr 12 0)),(13,lB false),(0,.l (.d (.sl (a0.map (eI .u8))))),(2,.l (.ptr 3 0)),(5,.l (.ptr 12 0)),(12,lI v1.2.2),(13,lB (decide (v1.2.2<(3:Int))))],74⟩],[(3,[.nil,.nil]),(12,[.d (.sl (a0.map (eI .u8))),dI w36.1,dI w36.2.1]),(2003,[dI (0:Int),dI (0:Int),.nil]),(4003,[dI (0:Int),dI (0:Int),dI (0:Int),.nil])],[(1006,57,3,v13.2.2.1.map Part.enc),(3006,67,4,v29.2.2.1.map Task.enc)]⟩) h (fun k36 hk36 h=>?_) (fun w36 h=>?_)<;>conv=>whnf
       ·refine inS (fn:=Tryz.f99) tab ⟨[(0,[0]),(1,[0,19]),(2,[0]),(3,[0,27]),(4,[2]),(5,[0]),(6,[2])],[],[100019,3],[]⟩ 47 [.tmp 2] rfl rfl rfl rfl rfl rfl ?_<;>conv=>whnf
        refine jnS (fun w37=>⟨[(0,.l (.ptr 12 0))],47,[⟨[(8,.l (.ptr 12 0)),(7,lI w32.2.2),(6,.l (.ptr 12 0)),(0,.l (.ptr 12 0)),(2,.l (.ptr 4003 0))],20⟩,⟨[(21,.l (.mfn 149 12)),(20,.l (.own 3006)),(17,lB true),(0,.l (.ptr 12 0)),(1,.l (.mfn 149 12)),(5,.l (.own 3006)),(6,lI v29.2.2.2),(17,lB w30)],26⟩,⟨[(14,.l (.mfn 149 12)),(13,.l (.ptr 12 0)),(12,.l (.ptr 12 0)),(11,.agg [dI w16.2.2,dI w20.2.2]),(10,lI w20.2.2),(9,lI w16.2.2),(0,.l (.ptr 12 0)),(2,.l (.ptr 2003 0)),(3,lI w16.2.2),(4,lI w20.2.2)],17⟩,⟨[(21,.l (.mfn 101 12)),(20,.l (.own 1006)),(17,lB true),(0,.l (.ptr 12 0)),(1,.l (.mfn 101 12)),(5,.l (.own 1006)),(6,lI v13.2.2.2),(17,lB w14)],26⟩,⟨[(34,.l (.mfn 101 12)),(33,.l (.ptr 12 0)),(32,.l (.ptr 12 0)),(13,lB false),(0,.l (.d (.sl (a0.map (eI .u8))))),(2,.l (.ptr 3 0)),(5,.l (.ptr 12 0)),(12,lI v1.2.2),(13,lB (decide (v1.2.2<(3:Int))))],74⟩],[(3,[.nil,.nil]),(12,[.d (.sl (a0.map (eI .u8))),dI w32.1,dI w37]),(2003,[dI (0:Int),dI (0:Int),.nil]),(4003,[dI (0:Int),dI (0:Int),dI (0:Int),.nil])],[(1006,57,3,v13.2.2.1.map Part.enc),(3006,67,4,v29.2.2.1.map Task.enc)]⟩) h (fun k37 hk37 h=>?_) (fun w37 h=>?_)<;>conv=>whnf
        ·refine jnS (fun w38=>⟨[(0,.l (.ptr 12 0)),(19,lB w38)],47,[⟨[(8,.l (.ptr 12 0)),(7,lI w32.2.2),(6,.l (.ptr 12 0)),(0,.l (.ptr 12 0)),(2,.l (.ptr 4003 0))],20⟩,⟨[(21,.l (.mfn 149 12)),(20,.l (.own 3006)),(17,lB true),(0,.l (.ptr 12 0)),(1,.l (.mfn 149 12)),(5,.l (.own 3006)),(6,lI v29.2.2.2),(17,lB w30)],26⟩,⟨[(14,.l (.mfn 149 12)),(13,.l (.ptr 12 0)),(12,.l (.ptr 12 0)),(11,.agg [dI w16.2.2,dI w20.2.2]),(10,lI w20.2.2),(9,lI w16.2.2),(0,.l (.ptr 12 0)),(2,.l (.ptr 2003 0)),(3,lI w16.2.2),(4,lI w20.2.2)],17⟩,⟨[(21,.l (.mfn 101 12)),(20,.l (.own 1006)),(17,lB true),(0,.l (.ptr 12 0)),(1,.l (.mfn 101 12)),(5,.l (.own 1006)),(6,lI v13.2.2.2),(17,lB w14)],26⟩,⟨[(34,.l (.mfn 101 12)),(33,.l (.ptr 12 0)),(32,.l (.ptr 12 0)),(13,lB false),(0,.l (.d (.sl (a0.map (eI .u8))))),(2,.l (.ptr 3 0)),(5,.l (.ptr 12 0)),(12,lI v1.2.2),(13,lB (decide (v1.2.2<(3:Int))))],74⟩],[(3,[.nil,.nil]),(12,[.d (.sl (a0.map (eI .u8))),dI w32.1,dI w32.2.1]),(2003,[dI (0:Int),dI (0:Int),.nil]),(4003,[dI (0:Int),dI (0:Int),dI (0:Int),.nil])],[(1006,57,3,v13.2.2.1.map Part.enc),(3006,67,4,v29.2.2.1.map Task.enc)]⟩) h (fun k38 hk38 h=>?_) (fun w38 h=>?_)<;>conv=>whnf
         ·refine⟨17,?_⟩
          conv=>whnf
          refine fkS h (fun h=>?_) (fun h=>?_)<;>conv=>whnf
          ·refine lenS a0 (eI .u8) rfl ?_<;>conv=>whnf
           refine drS (by kernel_rfl) ?_<;>conv=>whnf
           exact jeS hk38 h wR
          refine drS (by kernel_rfl) ?_<;>conv=>whnf
          exact jeS hk38 h wR
         refine fkS h (fun h=>?_) (fun h=>?_)<;>conv=>whnf
         ·exact jeS hk37 h wR
         refine jeX hk37 h ?_<;>conv=>whnf
         refine WkF.step (Weak.keepS _ [0]) ?_<;>conv=>whnf
         exact WkF.refl _
        refine fkS h (fun h=>?_) (fun h=>?_)<;>conv=>whnf
        ·exact jeS hk36 h wR
        refine⟨9,?_⟩
        conv=>whnf
        refine drS (by kernel_rfl) ?_<;>conv=>whnf
        refine ixS (enc:=(eI .u8)) h rfl (fun _=>rfl) (fun x39 h=>?_)<;>conv=>whnf
        exact jeS hk36 h wR
       refine inJ (fun w40=>⟨[(11,lI w40.2.2),(10,.l (.ptr 12 0)),(9,lI w36.2.2),(8,.l (.ptr 12 0)),(7,lI w32.2.2),(6,.l (.ptr 12 0)),(0,.l (.ptr 12 0)),(2,.l (.ptr 4003 0))],20,[⟨[(21,.l (.mfn 149 12)),(20,.l (.own 3006)),(17,lB true),(0,.l (.ptr 12 0)),(1,.l (.mfn 149 12)),(5,.l (.own 3006)),(6,lI v29.2.2.2),(17,lB w30)],26⟩,⟨[(14,.l (.mfn 149 12)),(13,.l (.ptr 12 0)),(12,.l (.ptr 12 0)),(11,.agg [dI w16.2.2,dI w20.2.2]),(10,lI w20.2.2),(9,lI w16.2.2),(0,.l (.ptr 12 0)),(2,.l (.ptr 2003 0)),(3,lI w16.2.2),(4,lI w20.2.2)],17⟩,⟨[(21,.l (.mfn 101 12)),(20,.l (.own 1006)),(17,lB true),(0,.l (.ptr 12 0)),(1,.l (.mfn 101 12)),(5,.l (.own 1006)),(6,lI v13.2.2.2),(17,lB w14)],26⟩,⟨[(34,.l (.mfn 101 12)),(33,.l (.ptr 12 0)),(32,.l (.ptr 12 0)),(13,lB false),(0,.l (.d (.sl (a0.map (eI .u8))))),(2,.l (.ptr 3 0)),(5,.l (.ptr 12 0)),(12,lI v1.2.2),(13,lB (decide (v1.2.2<(3:Int))))],74⟩],[(3,[.nil,.nil]),(12,[.d (.sl (a0.map (eI .u8))),dI w40.1,dI w40.2.1]),(2003,[dI (0:Int),dI (0:Int),.nil]),(4003,[dI (0:Int),dI (0:Int),dI (0:Int),.nil])],[(1006,57,3,v13.2.2.1.map Part.enc),(3006,67,4,v29.2.2.1.map Task.enc)]⟩) h (fun k40 hk40 h=>?_) (fun w40 h=>?_)<;>conv=>whnf
       ·refine inS (fn:=Tryz.f99) tab ⟨[(0,[0]),(1,[0,19]),(2,[0]),(3,[0,27]),(4,[2]),(5,[0]),(6,[2])],[],[100019,3],[]⟩ 47 [.tmp 2] rfl rfl rfl rfl rfl rfl ?_<;>conv=>whnf
        refine jnS (fun w41=>⟨[(0,.l (.ptr 12 0))],47,[⟨[(10,.l (.ptr 12 0)),(9,lI w36.2.2),(8,.l (.ptr 12 0)),(7,lI w32.2.2),(6,.l (.ptr 12 0)),(0,.l (.ptr 12 0)),(2,.l (.ptr 4003 0))],20⟩,⟨[(21,.l (.mfn 149 12)),(20,.l (.own 3006)),(17,lB true),(0,.l (.ptr 12 0)),(1,.l (.mfn 149 12)),(5,.l (.own 3006)),(6,lI v29.2.2.2),(17,lB w30)],26⟩,⟨[(14,.l (.mfn 149 12)),(13,.l (.ptr 12 0)),(12,.l (.ptr 12 0)),(11,.agg [dI w16.2.2,dI w20.2.2]),(10,lI w20.2.2),(9,lI w16.2.2),(0,.l (.ptr 12 0)),(2,.l (.ptr 2003 0)),(3,lI w16.2.2),(4,lI w20.2.2)],17⟩,⟨[(21,.l (.mfn 101 12)),(20,.l (.own 1006)),(17,lB true),(0,.l (.ptr 12 0)),(1,.l (.mfn 101 12)),(5,.l (.own 1006)),(6,lI v13.2.2.2),(17,lB w14)],26⟩,⟨[(34,.l (.mfn 101 12)),(33,.l (.ptr 12 0)),(32,.l (.ptr 12 0)),(13,lB false),(0,.l (.d (.sl (a0.map (eI .u8))))),(2,.l (.ptr 3 0)),(5,.l (.ptr 12 0)),(12,lI v1.2.2),(13,lB (decide (v1.2.2<(3:Int))))],74⟩],[(3,[.nil,.nil]),(12,[.d (.sl (a0.map (eI .u8))),dI w36.1,dI w41]),(2003,[dI (0:Int),dI (0:Int),.nil]),(4003,[dI (0:Int),dI (0:Int),dI (0:Int),.nil])],[(1006,57,3,v13.2.2.1.map Part.enc),(3006,67,4,v29.2.2.1.map Task.enc)]⟩) h (fun k41 hk41 h=>?_) (fun w41 h=>?_)<;>conv=>whnf
        ·refine jnS (fun w42=>⟨[(0,.l (.ptr 12 0)),(19,lB w42)],47,[⟨[(10,.l (.ptr 12 0)),(9,lI w36.2.2),(8,.l (.ptr 12 0)),(7,lI w32.2.2),(6,.l (.ptr 12 0)),(0,.l (.ptr 12 0)),(2,.l (.ptr 4003 0))],20⟩,⟨[(21,.l (.mfn 149 12)),(20,.l (.own 3006)),(17,lB true),(0,.l (.ptr 12 0)),(1,.l (.mfn 149 12)),(5,.l (.own 3006)),(6,lI v29.2.2.2),(17,lB w30)],26⟩,⟨[(14,.l (.mfn 149 12)),(13,.l (.ptr 12 0)),(12,.l (.ptr 12 0)),(11,.agg [dI w16.2.2,dI w20.2.2]),(10,lI w20.2.2),(9,lI w16.2.2),(0,.l (.ptr 12 0)),(2,.l (.ptr 2003 0)),(3,lI w16.2.2),(4,lI w20.2.2)],17⟩,⟨[(21,.l (.mfn 101 12)),(20,.l (.own 1006)),(17,lB true),(0,.l (.ptr 12 0)),(1,.l (.mfn 101 12)),(5,.l (.own 1006)),(6,lI v13.2.2.2),(17,lB w14)],26⟩,⟨[(34,.l (.mfn 101 12)),(33,.l (.ptr 12 0)),(32,.l (.ptr 12 0)),(13,lB false),(0,.l (.d (.sl (a0.map (eI .u8))))),(2,.l (.ptr 3 0)),(5,.l (.ptr 12 0)),(12,lI v1.2.2),(13,lB (decide (v1.2.2<(3:Int))))],74⟩],[(3,[.nil,.nil]),(12,[.d (.sl (a0.map (eI .u8))),dI w36.1,dI w36.2.1]),(2003,[dI (0:Int),dI (0:Int),.nil]),(4003,[dI (0:Int),dI (0:Int),dI (0:Int),.nil])],[(1006,57,3,v13.2.2.1.map Part.enc),(3006,67,4,v29.2.2.1.map Task.enc)]⟩) h (fun k42 hk42 h=>?_) (fun w42 h=>?_)<;>conv=>whnf
         ·refine⟨17,?_⟩
          conv=>whnf
          refine fkS h (fun h=>?_) (fun h=>?_)<;>conv=>whnf
          ·refine lenS a0 (eI .u8) rfl ?_<;>conv=>whnf
           refine drS (by kernel_rfl) ?_<;>conv=>whnf
           exact jeS hk42 h wR
          refine drS (by kernel_rfl) ?_<;>conv=>whnf
          exact jeS hk42 h wR
         refine fkS h (fun h=>?_) (fun h=>?_)<;>conv=>whnf
         ·exact jeS hk41 h wR
         refine jeX hk41 h ?_<;>conv=>whnf
         refine WkF.step (Weak.keepS _ [0]) ?_<;>conv=>whnf
         exact WkF.refl _
        refine fkS h (fun h=>?_) (fun h=>?_)<;>conv=>whnf
        ·exact jeS hk40 h wR
        refine⟨9,?_⟩
        conv=>whnf
        refine drS (by kernel_rfl) ?_<;>conv=>whnf
        refine ixS (enc:=(eI .u8)) h rfl (fun _=>rfl) (fun x43 h=>?_)<;>conv=>whnf
        exact jeS hk40 h wR
       refine inJ (fun w44=>⟨[(18,.l (.own 4019)),(17,.l (.mfn 163 12)),(16,.l (.ptr 12 0)),(15,.l (.ptr 12 0)),(14,lI w40.2.2),(13,lI w36.2.2),(12,lI w32.2.2),(0,.l (.ptr 12 0)),(2,.l (.ptr 4003 0)),(3,lI w32.2.2),(4,lI w36.2.2),(5,lI w40.2.2)],20,[⟨[(21,.l (.mfn 149 12)),(20,.l (.own 3006)),(17,lB true),(0,.l (.ptr 12 0)),(1,.l (.mfn 149 12)),(5,.l (.own 3006)),(6,lI v29.2.2.2),(17,lB w30)],26⟩,⟨[(14,.l (.mfn 149 12)),(13,.l (.ptr 12 0)),(12,.l (.ptr 12 0)),(11,.agg [dI w16.2.2,dI w20.2.2]),(10,lI w20.2.2),(9,lI w16.2.2),(0,.l (.ptr 12 0)),(2,.l (.ptr 2003 0)),(3,lI w16.2.2),(4,lI w20.2.2)],17⟩,⟨[(21,.l (.mfn 101 12)),(20,.l (.own 1006)),(17,lB true),(0,.l (.ptr 12 0)),(1,.l (.mfn 101 12)),(5,.l (.own 1006)),(6,lI v13.2.2.2),(17,lB w14)],26⟩,⟨[(34,.l (.mfn 101 12)),(33,.l (.ptr 12 0)),(32,.l (.ptr 12 0)),(13,lB false),(0,.l (.d (.sl (a0.map (eI .u8))))),(2,.l (.ptr 3 0)),(5,.l (.ptr 12 0)),(12,lI v1.2.2),(13,lB (decide (v1.2.2<(3:Int))))],74⟩],[(3,[.nil,.nil]),(12,[.d (.sl (a0.map (eI .u8))),dI w44.1,dI w44.2.1]),(2003,[dI (0:Int),dI (0:Int),.nil]),(4003,[dI (0:Int),dI (0:Int),dI (0:Int),.nil])],[(1006,57,3,v13.2.2.1.map Part.enc),(3006,67,4,v29.2.2.1.map Task.enc),(4019,200,3,w44.2.2.map Sec.enc)]⟩) h (fun k44 hk44 h=>?_) (fun w44 h=>?_)<;>conv=>whnf
       ·refine inS (fn:=Tryz.f162) tab ⟨[(0,[0,1]),(1,[0,1,5]),(2,[0,1,5,6]),(3,[0,1,5,6,17]),(4,[0,1,5,6]),(5,[0,1,5,6]),(6,[4])],[],[100017],[]⟩ 26 [.tmp 4] rfl rfl rfl rfl rfl rfl ?_<;>conv=>whnf
        refine inJ (fun w45=>⟨[(8,lI w45.2.2),(7,.l (.ptr 12 0)),(0,.l (.ptr 12 0)),(1,.l (.mfn 163 12)),(5,.l .nil)],26,[⟨[(17,.l (.mfn 163 12)),(16,.l (.ptr 12 0)),(15,.l (.ptr 12 0)),(14,lI w40.2.2),(13,lI w36.2.2),(12,lI w32.2.2),(0,.l (.ptr 12 0)),(2,.l (.ptr 4003 0)),(3,lI w32.2.2),(4,lI w36.2.2),(5,lI w40.2.2)],20⟩,⟨[(21,.l (.mfn 149 12)),(20,.l (.own 3006)),(17,lB true),(0,.l (.ptr 12 0)),(1,.l (.mfn 149 12)),(5,.l (.own 3006)),(6,lI v29.2.2.2),(17,lB w30)],26⟩,⟨[(14,.l (.mfn 149 12)),(13,.l (.ptr 12 0)),(12,.l (.ptr 12 0)),(11,.agg [dI w16.2.2,dI w20.2.2]),(10,lI w20.2.2),(9,lI w16.2.2),(0,.l (.ptr 12 0)),(2,.l (.ptr 2003 0)),(3,lI w16.2.2),(4,lI w20.2.2)],17⟩,⟨[(21,.l (.mfn 101 12)),(20,.l (.own 1006)),(17,lB true),(0,.l (.ptr 12 0)),(1,.l (.mfn 101 12)),(5,.l (.own 1006)),(6,lI v13.2.2.2),(17,lB w14)],26⟩,⟨[(34,.l (.mfn 101 12)),(33,.l (.ptr 12 0)),(32,.l (.ptr 12 0)),(13,lB false),(0,.l (.d (.sl (a0.map (eI .u8))))),(2,.l (.ptr 3 0)),(5,.l (.ptr 12 0)),(12,lI v1.2.2),(13,lB (decide (v1.2.2<(3:Int))))],74⟩],[(3,[.nil,.nil]),(12,[.d (.sl (a0.map (eI .u8))),dI w45.1,dI w45.2.1]),(2003,[dI (0:Int),dI (0:Int),.nil]),(4003,[dI (0:Int),dI (0:Int),dI (0:Int),.nil])],[(1006,57,3,v13.2.2.1.map Part.enc),(3006,67,4,v29.2.2.1.map Task.enc)]⟩) h (fun k45 hk45 h=>?_) (fun w45 h=>?_)<;>conv=>whnf
        ·refine inS (fn:=Tryz.f99) tab ⟨[(0,[0]),(1,[0,19]),(2,[0]),(3,[0,27]),(4,[2]),(5,[0]),(6,[2])],[],[100019,3],[]⟩ 47 [.tmp 2] rfl rfl rfl rfl rfl rfl ?_<;>conv=>whnf
         refine jnS (fun w46=>⟨[(0,.l (.ptr 12 0))],47,[⟨[(7,.l (.ptr 12 0)),(0,.l (.ptr 12 0)),(1,.l (.mfn 163 12)),(5,.l .nil)],26⟩,⟨[(17,.l (.mfn 163 12)),(16,.l (.ptr 12 0)),(15,.l (.ptr 12 0)),(14,lI w40.2.2),(13,lI w36.2.2),(12,lI w32.2.2),(0,.l (.ptr 12 0)),(2,.l (.ptr 4003 0)),(3,lI w32.2.2),(4,lI w36.2.2),(5,lI w40.2.2)],20⟩,⟨[(21,.l (.mfn 149 12)),(20,.l (.own 3006)),(17,lB true),(0,.l (.ptr 12 0)),(1,.l (.mfn 149 12)),(5,.l (.own 3006)),(6,lI v29.2.2.2),(17,lB w30)],26⟩,⟨[(14,.l (.mfn 149 12)),(13,.l (.ptr 12 0)),(12,.l (.ptr 12 0)),(11,.agg [dI w16.2.2,dI w20.2.2]),(10,lI w20.2.2),(9,lI w16.2.2),(0,.l (.ptr 12 0)),(2,.l (.ptr 2003 0)),(3,lI w16.2.2),(4,lI w20.2.2)],17⟩,⟨[(21,.l (.mfn 101 12)),(20,.l (.own 1006)),(17,lB true),(0,.l (.ptr 12 0)),(1,.l (.mfn 101 12)),(5,.l (.own 1006)),(6,lI v13.2.2.2),(17,lB w14)],26⟩,⟨[(34,.l (.mfn 101 12)),(33,.l (.ptr 12 0)),(32,.l (.ptr 12 0)),(13,lB false),(0,.l (.d (.sl (a0.map (eI .u8))))),(2,.l (.ptr 3 0)),(5,.l (.ptr 12 0)),(12,lI v1.2.2),(13,lB (decide (v1.2.2<(3:Int))))],74⟩],[(3,[.nil,.nil]),(12,[.d (.sl (a0.map (eI .u8))),dI w40.1,dI w46]),(2003,[dI (0:Int),dI (0:Int),.nil]),(4003,[dI (0:Int),dI (0:Int),dI (0:Int),.nil])],[(1006,57,3,v13.2.2.1.map Part.enc),(3006,67,4,v29.2.2.1.map Task.enc)]⟩) h (fun k46 hk46 h=>?_) (fun w46 h=>?_)<;>conv=>whnf
         ·refine jnS (fun w47=>⟨[(0,.l (.ptr 12 0)),(19,lB w47)],47,[⟨[(7,.l (.ptr 12 0)),(0,.l (.ptr 12 0)),(1,.l (.mfn 163 12)),(5,.l .nil)],26⟩,⟨[(17,.l (.mfn 163 12)),(16,.l (.ptr 12 0)),(15,.l (.ptr 12 0)),(14,lI w40.2.2),(13,lI w36.2.2),(12,lI w32.2.2),(0,.l (.ptr 12 0)),(2,.l (.ptr 4003 0)),(3,lI w32.2.2),(4,lI w36.2.2),(5,lI w40.2.2)],20⟩,⟨[(21,.l (.mfn 149 12)),(20,.l (.own 3006)),(17,lB true),(0,.l (.ptr 12 0)),(1,.l (.mfn 149 12)),(5,.l (.own 3006)),(6,lI v29.2.2.2),(17,lB w30)],26⟩,⟨[(14,.l (.mfn 149 12)),(13,.l (.ptr 12 0)),(12,.l (.ptr 12 0)),(11,.agg [dI w16.2.2,dI w20.2.2]),(10,lI w20.2.2),(9,lI w16.2.2),(0,.l (.ptr 12 0)),(2,.l (.ptr 2003 0)),(3,lI w16.2.2),(4,lI w20.2.2)],17⟩,⟨[(21,.l (.mfn 101 12)),(20,.l (.own 1006)),(17,lB true),(0,.l (.ptr 12 0)),(1,.l (.mfn 101 12)),(5,.l (.own 1006)),(6,lI v13.2.2.2),(17,lB w14)],26⟩,⟨[(34,.l (.mfn 101 12)),(33,.l (.ptr 12 0)),(32,.l (.ptr 12 0)),(13,lB false),(0,.l (.d (.sl (a0.map (eI .u8))))),(2,.l (.ptr 3 0)),(5,.l (.ptr 12 0)),(12,lI v1.2.2),(13,lB (decide (v1.2.2<(3:Int))))],74⟩],[(3,[.nil,.nil]),(12,[.d (.sl (a0.map (eI .u8))),dI w40.1,dI w40.2.1]),(2003,[dI (0:Int),dI (0:Int),.nil]),(4003,[dI (0:Int),dI (0:Int),dI (0:Int),.nil])],[(1006,57,3,v13.2.2.1.map Part.enc),(3006,67,4,v29.2.2.1.map Task.enc)]⟩) h (fun k47 hk47 h=>?_) (fun w47 h=>?_)<;>conv=>whnf
          ·refine⟨17,?_⟩
           conv=>whnf
           refine fkS h (fun h=>?_) (fun h=>?_)<;>conv=>whnf
           ·refine lenS a0 (eI .u8) rfl ?_<;>conv=>whnf
            refine drS (by kernel_rfl) ?_<;>conv=>whnf
            exact jeS hk47 h wR
           refine drS (by kernel_rfl) ?_<;>conv=>whnf
           exact jeS hk47 h wR
          refine fkS h (fun h=>?_) (fun h=>?_)<;>conv=>whnf
          ·exact jeS hk46 h wR
          refine jeX hk46 h ?_<;>conv=>whnf
          refine WkF.step (Weak.keepS _ [0]) ?_<;>conv=>whnf
          exact WkF.refl _
         refine fkS h (fun h=>?_) (fun h=>?_)<;>conv=>whnf
         ·exact jeS hk45 h wR
         refine⟨9,?_⟩
         conv=>whnf
         refine drS (by kernel_rfl) ?_<;>conv=>whnf
         refine ixS (enc:=(eI .u8)) h rfl (fun _=>rfl) (fun x48 h=>?_)<;>conv=>whnf
         exact jeS hk45 h wR
        refine lpS (fun v49=>⟨[(0,.l (.ptr 12 0)),(1,.l (.mfn 163 12)),(5,.l (.own 5006)),(6,lI v49.2.2.2)],26,[⟨[(17,.l (.mfn 163 12)),(16,.l (.ptr 12 0)),(15,.l (.ptr 12 0)),(14,lI w40.2.2),(13,lI w36.2.2),(12,lI w32.2.2),(0,.l (.ptr 12 0)),(2,.l (.ptr 4003 0)),(3,lI w32.2.2),(4,lI w36.2.2),(5,lI w40.2.2)],20⟩,⟨[(21,.l (.mfn 149 12)),(20,.l (.own 3006)),(17,lB true),(0,.l (.ptr 12 0)),(1,.l (.mfn 149 12)),(5,.l (.own 3006)),(6,lI v29.2.2.2),(17,lB w30)],26⟩,⟨[(14,.l (.mfn 149 12)),(13,.l (.ptr 12 0)),(12,.l (.ptr 12 0)),(11,.agg [dI w16.2.2,dI w20.2.2]),(10,lI w20.2.2),(9,lI w16.2.2),(0,.l (.ptr 12 0)),(2,.l (.ptr 2003 0)),(3,lI w16.2.2),(4,lI w20.2.2)],17⟩,⟨[(21,.l (.mfn 101 12)),(20,.l (.own 1006)),(17,lB true),(0,.l (.ptr 12 0)),(1,.l (.mfn 101 12)),(5,.l (.own 1006)),(6,lI v13.2.2.2),(17,lB w14)],26⟩,⟨[(34,.l (.mfn 101 12)),(33,.l (.ptr 12 0)),(32,.l (.ptr 12 0)),(13,lB false),(0,.l (.d (.sl (a0.map (eI .u8))))),(2,.l (.ptr 3 0)),(5,.l (.ptr 12 0)),(12,lI v1.2.2),(13,lB (decide (v1.2.2<(3:Int))))],74⟩],[(3,[.nil,.nil]),(12,[.d (.sl (a0.map (eI .u8))),dI v49.1,dI v49.2.1]),(2003,[dI (0:Int),dI (0:Int),.nil]),(4003,[dI (0:Int),dI (0:Int),dI (0:Int),.nil])],[(1006,57,3,v13.2.2.1.map Part.enc),(3006,67,4,v29.2.2.1.map Task.enc),(5006,200,3,v49.2.2.1.map Sec.enc)]⟩) h (Weak.trans (Weak.nilO _ 5 5006 200 3 rfl) wR) (fun _ nx49 hn49 v49 h=>?_)<;>conv=>whnf
        refine jnS (fun w50=>⟨[(0,.l (.ptr 12 0)),(1,.l (.mfn 163 12)),(5,.l (.own 5006)),(6,lI v49.2.2.2),(17,lB w50)],26,[⟨[(17,.l (.mfn 163 12)),(16,.l (.ptr 12 0)),(15,.l (.ptr 12 0)),(14,lI w40.2.2),(13,lI w36.2.2),(12,lI w32.2.2),(0,.l (.ptr 12 0)),(2,.l (.ptr 4003 0)),(3,lI w32.2.2),(4,lI w36.2.2),(5,lI w40.2.2)],20⟩,⟨[(21,.l (.mfn 149 12)),(20,.l (.own 3006)),(17,lB true),(0,.l (.ptr 12 0)),(1,.l (.mfn 149 12)),(5,.l (.own 3006)),(6,lI v29.2.2.2),(17,lB w30)],26⟩,⟨[(14,.l (.mfn 149 12)),(13,.l (.ptr 12 0)),(12,.l (.ptr 12 0)),(11,.agg [dI w16.2.2,dI w20.2.2]),(10,lI w20.2.2),(9,lI w16.2.2),(0,.l (.ptr 12 0)),(2,.l (.ptr 2003 0)),(3,lI w16.2.2),(4,lI w20.2.2)],17⟩,⟨[(21,.l (.mfn 101 12)),(20,.l (.own 1006)),(17,lB true),(0,.l (.ptr 12 0)),(1,.l (.mfn 101 12)),(5,.l (.own 1006)),(6,lI v13.2.2.2),(17,lB w14)],26⟩,⟨[(34,.l (.mfn 101 12)),(33,.l (.ptr 12 0)),(32,.l (.ptr 12 0)),(13,lB false),(0,.l (.d (.sl (a0.map (eI .u8))))),(2,.l (.ptr 3 0)),(5,.l (.ptr 12 0)),(12,lI v1.2.2),(13,lB (decide (v1.2.2<(3:Int))))],74⟩],[(3,[.nil,.nil]),(12,[.d (.sl (a0.map (eI .u8))),dI v49.1,dI v49.2.1]),(2003,[dI (0:Int),dI (0:Int),.nil]),(4003,[dI (0:Int),dI (0:Int),dI (0:Int),.nil])],[(1006,57,3,v13.2.2.1.map Part.enc),(3006,67,4,v29.2.2.1.map Task.enc),(5006,200,3,v49.2.2.1.map Sec.enc)]⟩) h (fun k50 hk50 h=>?_) (fun w50 h=>?_)<;>conv=>whnf
        ·refine fkS h (fun h=>?_) (fun h=>?_)<;>conv=>whnf
         ·exact jeS hk50 h wR
         exact jeS hk50 h wR
        refine fkS h (fun h=>?_) (fun h=>?_)<;>conv=>whnf
        ·refine inS (fn:=Tryz.f163) tab ⟨[(0,[0,2]),(1,[2,3,4,5]),(2,[2])],[],[],[]⟩ 16 [.cell 2 200] rfl rfl rfl rfl rfl rfl ?_<;>conv=>whnf
         refine inJ (fun w51=>⟨[(7,lI w51.2.2),(6,.l (.ptr 12 0)),(0,.l (.ptr 12 0)),(2,.l (.ptr 6003 0))],16,[⟨[(21,.l (.mfn 163 12)),(20,.l (.own 5006)),(17,lB true),(0,.l (.ptr 12 0)),(1,.l (.mfn 163 12)),(5,.l (.own 5006)),(6,lI v49.2.2.2),(17,lB w50)],26⟩,⟨[(17,.l (.mfn 163 12)),(16,.l (.ptr 12 0)),(15,.l (.ptr 12 0)),(14,lI w40.2.2),(13,lI w36.2.2),(12,lI w32.2.2),(0,.l (.ptr 12 0)),(2,.l (.ptr 4003 0)),(3,lI w32.2.2),(4,lI w36.2.2),(5,lI w40.2.2)],20⟩,⟨[(21,.l (.mfn 149 12)),(20,.l (.own 3006)),(17,lB true),(0,.l (.ptr 12 0)),(1,.l (.mfn 149 12)),(5,.l (.own 3006)),(6,lI v29.2.2.2),(17,lB w30)],26⟩,⟨[(14,.l (.mfn 149 12)),(13,.l (.ptr 12 0)),(12,.l (.ptr 12 0)),(11,.agg [dI w16.2.2,dI w20.2.2]),(10,lI w20.2.2),(9,lI w16.2.2),(0,.l (.ptr 12 0)),(2,.l (.ptr 2003 0)),(3,lI w16.2.2),(4,lI w20.2.2)],17⟩,⟨[(21,.l (.mfn 101 12)),(20,.l (.own 1006)),(17,lB true),(0,.l (.ptr 12 0)),(1,.l (.mfn 101 12)),(5,.l (.own 1006)),(6,lI v13.2.2.2),(17,lB w14)],26⟩,⟨[(34,.l (.mfn 101 12)),(33,.l (.ptr 12 0)),(32,.l (.ptr 12 0)),(13,lB false),(0,.l (.d (.sl (a0.map (eI .u8))))),(2,.l (.ptr 3 0)),(5,.l (.ptr 12 0)),(12,lI v1.2.2),(13,lB (decide (v1.2.2<(3:Int))))],74⟩],[(3,[.nil,.nil]),(12,[.d (.sl (a0.map (eI .u8))),dI w51.1,dI w51.2.1]),(2003,[dI (0:Int),dI (0:Int),.nil]),(4003,[dI (0:Int),dI (0:Int),dI (0:Int),.nil]),(6003,[dI (0:Int),dI (0:Int),dI (0:Int)])],[(1006,57,3,v13.2.2.1.map Part.enc),(3006,67,4,v29.2.2.1.map Task.enc),(5006,200,3,v49.2.2.1.map Sec.enc)]⟩) h (fun k51 hk51 h=>?_) (fun w51 h=>?_)<;>conv=>whnf
         ·refine inS (fn:=Tryz.f99) tab ⟨[(0,[0]),(1,[0,19]),(2,[0]),(3,[0,27]),(4,[2]),(5,[0]),(6,[2])],[],[100019,3],[]⟩ 47 [.tmp 2] rfl rfl rfl rfl rfl rfl ?_<;>conv=>whnf
          refine jnS (fun w52=>⟨[(0,.l (.ptr 12 0))],47,[⟨[(6,.l (.ptr 12 0)),(0,.l (.ptr 12 0)),(2,.l (.ptr 6003 0))],16⟩,⟨[(21,.l (.mfn 163 12)),(20,.l (.own 5006)),(17,lB true),(0,.l (.ptr 12 0)),(1,.l (.mfn 163 12)),(5,.l (.own 5006)),(6,lI v49.2.2.2),(17,lB w50)],26⟩,⟨[(17,.l (.mfn 163 12)),(16,.l (.ptr 12 0)),(15,.l (.ptr 12 0)),(14,lI w40.2.2),(13,lI w36.2.2),(12,lI w32.2.2),(0,.l (.ptr 12 0)),(2,.l (.ptr 4003 0)),(3,lI w32.2.2),(4,lI w36.2.2),(5,lI w40.2.2)],20⟩,⟨[(21,.l (.mfn 149 12)),(20,.l (.own 3006)),(17,lB true),(0,.l (.ptr 12 0)),(1,.l (.mfn 149 12)),(5,.l (.own 3006)),(6,lI v29.2.2.2),(17,lB w30)],26⟩,⟨[(14,.l (.mfn 149 12)),(13,.l (.ptr 12 0)),(12,.l (.ptr 12 0)),(11,.agg [dI w16.2.2,dI w20.2.2]),(10,lI w20.2.2),(9,lI w16.2.2),(0,.l (.ptr 12 0)),(2,.l (.ptr 2003 0)),(3,lI w16.2.2),(4,lI w20.2.2)],17⟩,⟨[(21,.l (.mfn 101 12)),(20,.l (.own 1006)),(17,lB true),(0,.l (.ptr 12 0)),(1,.l (.mfn 101 12)),(5,.l (.own 1006)),(6,lI v13.2.2.2),(17,lB w14)],26⟩,⟨[(34,.l (.mfn 101 12)),(33,.l (.ptr 12 0)),(32,.l (.ptr 12 0)),(13,lB false),(0,.l (.d (.sl (a0.map (eI .u8))))),(2,.l (.ptr 3 0)),(5,.l (.ptr 12 0)),(12,lI v1.2.2),(13,lB (decide (v1.2.2<(3:Int))))],74⟩],[(3,[.nil,.nil]),(12,[.d (.sl (a0.map (eI .u8))),dI v49.1,dI w52]),(2003,[dI (0:Int),dI (0:Int),.nil]),(4003,[dI (0:Int),dI (0:Int),dI (0:Int),.nil]),(6003,[dI (0:Int),dI (0:Int),dI (0:Int)])],[(1006,57,3,v13.2.2.1.map Part.enc),(3006,67,4,v29.2.2.1.map Task.enc),(5006,200,3,v49.2.2.1.map Sec.enc)]⟩) h (fun k52 hk52 h=>?_) (fun w52 h=>?_)<;>conv=>whnf
          ·refine jnS (fun w53=>⟨[(0,.l (.ptr 12 0)),(19,lB w53)],47,[⟨[(6,.l (.ptr 12 0)),(0,.l (.ptr 12 0)),(2,.l (.ptr 6003 0))],16⟩,⟨[(21,.l (.mfn 163 12)),(20,.l (.own 5006)),(17,lB true),(0,.l (.ptr 12 0)),(1,.l (.mfn 163 12)),(5,.l (.own 5006)),(6,lI v49.2.2.2),(17,lB w50)],26⟩,⟨[(17,.l (.mfn 163 12)),(16,.l (.ptr 12 0)),(15,.l (.ptr 12 0)),(14,lI w40.2.2),(13,lI w36.2.2),(12,lI w32.2.2),(0,.l (.ptr 12 0)),(2,.l (.ptr 4003 0)),(3,lI w32.2.2),(4,lI w36.2.2),(5,lI w40.2.2)],20⟩,⟨[(21,.l (.mfn 149 12)),(20,.l (.own 3006)),(17,lB true),(0,.l (.ptr 12 0)),(1,.l (.mfn 149 12)),(5,.l (.own 3006)),(6,lI v29.2.2.2),(17,lB w30)],26⟩,⟨[(14,.l (.mfn 149 12)),(13,.l (.ptr 12 0)),(12,.l (.ptr 12 0)),(11,.agg [dI w16.2.2,dI w20.2.2]),(10,lI w20.2.2),(9,lI w16.2.2),(0,.l (.ptr 12 0)),(2,.l (.ptr 2003 0)),(3,lI w16.2.2),(4,lI w20.2.2)],17⟩,⟨[(21,.l (.mfn 101 12)),(20,.l (.own 1006)),(17,lB true),(0,.l (.ptr 12 0)),(1,.l (.mfn 101 12)),(5,.l (.own 1006)),(6,lI v13.2.2.2),(17,lB w14)],26⟩,⟨[(34,.l (.mfn 101 12)),(33,.l (.ptr 12 0)),(32,.l (.ptr 12 0)),(13,lB false),(0,.l (.d (.sl (a0.map (eI .u8))))),(2,.l (.ptr 3 0)),(5,.l (.ptr 12 0)),(12,lI v1.2.2),(13,lB (decide (v1.2.2<(3:Int))))],74⟩],[(3,[.nil,.nil]),(12,[.d (.sl (a0.map (eI .u8))),dI v49.1,dI v49.2.1]),(2003,[dI (0:Int),dI (0:Int),.nil]),(4003,[dI (0:Int),dI (0:Int),dI (0:Int),.nil]),(6003,[dI (0:Int),dI (0:Int),dI (0:Int)])],[(1006,57,3,v13.2.2.1.map Part.enc),(3006,67,4,v29.2.2.1.map Task.enc),(5006,200,3,v49.2.2.1.map Sec.enc)]⟩) h (fun k53 hk53 h=>?_) (fun w53 h=>?_)<;>conv=>whnf
           ·refine⟨17,?_⟩
            conv=>whnf
            refine fkS h (fun h=>?_) (fun h=>?_)<;>conv=>whnf
            ·refine lenS a0 (eI .u8) rfl ?_<;>conv=>whnf
             refine drS (by kernel_rfl) ?_<;>conv=>whnf
             exact jeS hk53 h wR
            refine drS (by kernel_rfl) ?_<;>conv=>whnf
            exact jeS hk53 h wR
           refine fkS h (fun h=>?_) (fun h=>?_)<;>conv=>whnf
           ·exact jeS hk52 h wR
           refine jeX hk52 h ?_<;>conv=>whnf
           refine WkF.step (Weak.keepS _ [0]) ?_<;>conv=>whnf
           exact WkF.refl _
          refine fkS h (fun h=>?_) (fun h=>?_)<;>conv=>whnf
          ·exact jeS hk51 h wR
          refine⟨9,?_⟩
          conv=>whnf
          refine drS (by kernel_rfl) ?_<;>conv=>whnf
          refine ixS (enc:=(eI .u8)) h rfl (fun _=>rfl) (fun x54 h=>?_)<;>conv=>whnf
          exact jeS hk51 h wR
         refine inJ (fun w55=>⟨[(9,lI w55.2.2),(8,.l (.ptr 12 0)),(7,lI w51.2.2),(6,.l (.ptr 12 0)),(0,.l (.ptr 12 0)),(2,.l (.ptr 6003 0))],16,[⟨[(21,.l (.mfn 163 12)),(20,.l (.own 5006)),(17,lB true),(0,.l (.ptr 12 0)),(1,.l (.mfn 163 12)),(5,.l (.own 5006)),(6,lI v49.2.2.2),(17,lB w50)],26⟩,⟨[(17,.l (.mfn 163 12)),(16,.l (.ptr 12 0)),(15,.l (.ptr 12 0)),(14,lI w40.2.2),(13,lI w36.2.2),(12,lI w32.2.2),(0,.l (.ptr 12 0)),(2,.l (.ptr 4003 0)),(3,lI w32.2.2),(4,lI w36.2.2),(5,lI w40.2.2)],20⟩,⟨[(21,.l (.mfn 149 12)),(20,.l (.own 3006)),(17,lB true),(0,.l (.ptr 12 0)),(1,.l (.mfn 149 12)),(5,.l (.own 3006)),(6,lI v29.2.2.2),(17,lB w30)],26⟩,⟨[(14,.l (.mfn 149 12)),(13,.l (.ptr 12 0)),(12,.l (.ptr 12 0)),(11,.agg [dI w16.2.2,dI w20.2.2]),(10,lI w20.2.2),(9,lI w16.2.2),(0,.l (.ptr 12 0)),(2,.l (.ptr 2003 0)),(3,lI w16.2.2),(4,lI w20.2.2)],17⟩,⟨[(21,.l (.mfn 101 12)),(20,.l (.own 1006)),(17,lB true),(0,.l (.ptr 12 0)),(1,.l (.mfn 101 12)),(5,.l (.own 1006)),(6,lI v13.2.2.2),(17,lB w14)],26⟩,⟨[(34,.l (.mfn 101 12)),(33,.l (.ptr 12 0)),(32,.l (.ptr 12 0)),(13,lB false),(0,.l (.d (.sl (a0.map (eI .u8))))),(2,.l (.ptr 3 0)),(5,.l (.ptr 12 0)),(12,lI v1.2.2),(13,lB (decide (v1.2.2<(3:Int))))],74⟩],[(3,[.nil,.nil]),(12,[.d (.sl (a0.map (eI .u8))),dI w55.1,dI w55.2.1]),(2003,[dI (0:Int),dI (0:Int),.nil]),(4003,[dI (0:Int),dI (0:Int),dI (0:Int),.nil]),(6003,[dI (0:Int),dI (0:Int),dI (0:Int)])],[(1006,57,3,v13.2.2.1.map Part.enc),(3006,67,4,v29.2.2.1.map Task.enc),(5006,200,3,v49.2.2.1.map Sec.enc)]⟩) h (fun k55 hk55 h=>?_) (fun w55 h=>?_)<;>conv=>whnf
         ·refine inS (fn:=Tryz.f99) tab ⟨[(0,[0]),(1,[0,19]),(2,[0]),(3,[0,27]),(4,[2]),(5,[0]),(6,[2])],[],[100019,3],[]⟩ 47 [.tmp 2] rfl rfl rfl rfl rfl rfl ?_<;>conv=>whnf
          refine jnS (fun w56=>⟨[(0,.l (.ptr 12 0))],47,[⟨[(8,.l (.ptr 12 0)),(7,lI w51.2.2),(6,.l (.ptr 12 0)),(0,.l (.ptr 12 0)),(2,.l (.ptr 6003 0))],16⟩,⟨[(21,.l (.mfn 163 12)),(20,.l (.own 5006)),(17,lB true),(0,.l (.ptr 12 0)),(1,.l (.mfn 163 12)),(5,.l (.own 5006)),(6,lI v49.2.2.2),(17,lB w50)],26⟩,⟨[(17,.l (.mfn 163 12)),(16,.l (.ptr 12 0)),(15,.l (.ptr 12 0)),(14,lI w40.2.2),(13,lI w36.2.2),(12,lI w32.2.2),(0,.l (.ptr 12 0)),(2,.l (.ptr 4003 0)),(3,lI w32.2.2),(4,lI w36.2.2),(5,lI w40.2.2)],20⟩,⟨[(21,.l (.mfn 149 12)),(20,.l (.own 3006)),(17,lB true),(0,.l (.ptr 12 0)),(1,.l (.mfn 149 12)),(5,.l (.own 3006)),(6,lI v29.2.2.2),(17,lB w30)],26⟩,⟨[(14,.l (.mfn 149 12)),(13,.l (.ptr 12 0)),(12,.l (.ptr 12 0)),(11,.agg [dI w16.2.2,dI w20.2.2]),(10,lI w20.2.2),(9,lI w16.2.2),(0,.l (.ptr 12 0)),(2,.l (.ptr 2003 0)),(3,lI w16.2.2),(4,lI w20.2.2)],17⟩,⟨[(21,.l (.mfn 101 12)),(20,.l (.own 1006)),(17,lB true),(0,.l (.ptr 12 0)),(1,.l (.mfn 101 12)),(5,.l (.own 1006)),(6,lI v13.2.2.2),(17,lB w14)],26⟩,⟨[(34,.l (.mfn 101 12)),(33,.l (.ptr 12 0)),(32,.l (.ptr 12 0)),(13,lB false),(0,.l (.d (.sl (a0.map (eI .u8))))),(2,.l (.ptr 3 0)),(5,.l (.ptr 12 0)),(12,lI v1.2.2),(13,lB (decide (v1.2.2<(3:Int))))],74⟩],[(3,[.nil,.nil]),(12,[.d (.sl (a0.map (eI .u8))),dI w51.1,dI w56]),(2003,[dI (0:Int),dI (0:Int),.nil]),(4003,[dI (0:Int),dI (0:Int),dI (0:Int),.nil]),(6003,[dI (0:Int),dI (0:Int),dI (0:Int)])],[(1006,57,3,v13.2.2.1.map Part.enc),(3006,67,4,v29.2.2.1.map Task.enc),(5006,200,3,v49.2.2.1.map Sec.enc)]⟩) h (fun k56 hk56 h=>?_) (fun w56 h=>?_)<;>conv=>whnf
          ·refine jnS (fun w57=>⟨[(0,.l (.ptr 12 0)),(19,lB w57)],47,[⟨[(8,.l (.ptr 12 0)),(7,lI w51.2.2),(6,.l (.ptr 12 0)),(0,.l (.ptr 12 0)),(2,.l (.ptr 6003 0))],16⟩,⟨[(21,.l (.mfn 163 12)),(20,.l (.own 5006)),(17,lB true),(0,.l (.ptr 12 0)),(1,.l (.mfn 163 12)),(5,.l (.own 5006)),(6,lI v49.2.2.2),(17,lB w50)],26⟩,⟨[(17,.l (.mfn 163 12)),(16,.l (.ptr 12 0)),(15,.l (.ptr 12 0)),(14,lI w40.2.2),(13,lI w36.2.2),(12,lI w32.2.2),(0,.l (.ptr 12 0)),(2,.l (.ptr 4003 0)),(3,lI w32.2.2),(4,lI w36.2.2),(5,lI w40.2.2)],20⟩,⟨[(21,.l (.mfn 149 12)),(20,.l (.own 3006)),(17,lB true),(0,.l (.ptr 12 0)),(1,.l (.mfn 149 12)),(5,.l (.own 3006)),(6,lI v29.2.2.2),(17,lB w30)],26⟩,⟨[(14,.l (.mfn 149 12)),(13,.l (.ptr 12 0)),(12,.l (.ptr 12 0)),(11,.agg [dI w16.2.2,dI w20.2.2]),(10,lI w20.2.2),(9,lI w16.2.2),(0,.l (.ptr 12 0)),(2,.l (.ptr 2003 0)),(3,lI w16.2.2),(4,lI w20.2.2)],17⟩,⟨[(21,.l (.mfn 101 12)),(20,.l (.own 1006)),(17,lB true),(0,.l (.ptr 12 0)),(1,.l (.mfn 101 12)),(5,.l (.own 1006)),(6,lI v13.2.2.2),(17,lB w14)],26⟩,⟨[(34,.l (.mfn 101 12)),(33,.l (.ptr 12 0)),(32,.l (.ptr 12 0)),(13,lB false),(0,.l (.d (.sl (a0.map (eI .u8))))),(2,.l (.ptr 3 0)),(5,.l (.ptr 12 0)),(12,lI v1.2.2),(13,lB (decide (v1.2.2<(3:Int))))],74⟩],[(3,[.nil,.nil]),(12,[.d (.sl (a0.map (eI .u8))),dI w51.1,dI w51.2.1]),(2003,[dI (0:Int),dI (0:Int),.nil]),(4003,[dI (0:Int),dI (0:Int),dI (0:Int),.nil]),(6003,[dI (0:Int),dI (0:Int),dI (0:Int)])],[(1006,57,3,v13.2.2.1.map Part.enc),(3006,67,4,v29.2.2.1.map Task.enc),(5006,200,3,v49.2.2.1.map Sec.enc)]⟩) h (fun k57 hk57 h=>?_) (fun w57 h=>?_)<;>conv=>whnf
           ·refine⟨17,?_⟩
            conv=>whnf
            refine fkS h (fun h=>?_) (fun h=>?_)<;>conv=>whnf
            ·refine lenS a0 (eI .u8) rfl ?_<;>conv=>whnf
             refine drS (by kernel_rfl) ?_<;>conv=>whnf
             exact jeS hk57 h wR
            refine drS (by kernel_rfl) ?_<;>conv=>whnf
            exact jeS hk57 h wR
           refine fkS h (fun h=>?_) (fun h=>?_)<;>conv=>whnf
           ·exact jeS hk56 h wR
           refine jeX hk56 h ?_<;>conv=>whnf
           refine WkF.step (Weak.keepS _ [0]) ?_<;>conv=>whnf
           exact WkF.refl _
          refine fkS h (fun h=>?_) (fun h=>?_)<;>conv=>whnf
          ·exact jeS hk55 h wR
          refine⟨9,?_⟩
          conv=>whnf
          refine drS (by kernel_rfl) ?_<;>conv=>whnf
          refine ixS (enc:=(eI .u8)) h rfl (fun _=>rfl) (fun x58 h=>?_)<;>conv=>whnf
          exact jeS hk55 h wR
         refine inJ (fun w59=>⟨[(11,lI w59.2.2),(10,.l (.ptr 12 0)),(9,lI w55.2.2),(8,.l (.ptr 12 0)),(7,lI w51.2.2),(6,.l (.ptr 12 0)),(0,.l (.ptr 12 0)),(2,.l (.ptr 6003 0))],16,[⟨[(21,.l (.mfn 163 12)),(20,.l (.own 5006)),(17,lB true),(0,.l (.ptr 12 0)),(1,.l (.mfn 163 12)),(5,.l (.own 5006)),(6,lI v49.2.2.2),(17,lB w50)],26⟩,⟨[(17,.l (.mfn 163 12)),(16,.l (.ptr 12 0)),(15,.l (.ptr 12 0)),(14,lI w40.2.2),(13,lI w36.2.2),(12,lI w32.2.2),(0,.l (.ptr 12 0)),(2,.l (.ptr 4003 0)),(3,lI w32.2.2),(4,lI w36.2.2),(5,lI w40.2.2)],20⟩,⟨[(21,.l (.mfn 149 12)),(20,.l (.own 3006)),(17,lB true),(0,.l (.ptr 12 0)),(1,.l (.mfn 149 12)),(5,.l (.own 3006)),(6,lI v29.2.2.2),(17,lB w30)],26⟩,⟨[(14,.l (.mfn 149 12)),(13,.l (.ptr 12 0)),(12,.l (.ptr 12 0)),(11,.agg [dI w16.2.2,dI w20.2.2]),(10,lI w20.2.2),(9,lI w16.2.2),(0,.l (.ptr 12 0)),(2,.l (.ptr 2003 0)),(3,lI w16.2.2),(4,lI w20.2.2)],17⟩,⟨[(21,.l (.mfn 101 12)),(20,.l (.own 1006)),(17,lB true),(0,.l (.ptr 12 0)),(1,.l (.mfn 101 12)),(5,.l (.own 1006)),(6,lI v13.2.2.2),(17,lB w14)],26⟩,⟨[(34,.l (.mfn 101 12)),(33,.l (.ptr 12 0)),(32,.l (.ptr 12 0)),(13,lB false),(0,.l (.d (.sl (a0.map (eI .u8))))),(2,.l (.ptr 3 0)),(5,.l (.ptr 12 0)),(12,lI v1.2.2),(13,lB (decide (v1.2.2<(3:Int))))],74⟩],[(3,[.nil,.nil]),(12,[.d (.sl (a0.map (eI .u8))),dI w59.1,dI w59.2.1]),(2003,[dI (0:Int),dI (0:Int),.nil]),(4003,[dI (0:Int),dI (0:Int),dI (0:Int),.nil]),(6003,[dI (0:Int),dI (0:Int),dI (0:Int)])],[(1006,57,3,v13.2.2.1.map Part.enc),(3006,67,4,v29.2.2.1.map Task.enc),(5006,200,3,v49.2.2.1.map Sec.enc)]⟩) h (fun k59 hk59 h=>?_) (fun w59 h=>?_)<;>conv=>whnf
         ·refine inS (fn:=Tryz.f99) tab ⟨[(0,[0]),(1,[0,19]),(2,[0]),(3,[0,27]),(4,[2]),(5,[0]),(6,[2])],[],[100019,3],[]⟩ 47 [.tmp 2] rfl rfl rfl rfl rfl rfl ?_<;>conv=>whnf
          refine jnS (fun w60=>⟨[(0,.l (.ptr 12 0))],47,[⟨[(10,.l (.ptr 12 0)),(9,lI w55.2.2),(8,.l (.ptr 12 0)),(7,lI w51.2.2),(6,.l (.ptr 12 0)),(0,.l (.ptr 12 0)),(2,.l (.ptr 6003 0))],16⟩,⟨[(21,.l (.mfn 163 12)),(20,.l (.own 5006)),(17,lB true),(0,.l (.ptr 12 0)),(1,.l (.mfn 163 12)),(5,.l (.own 5006)),(6,lI v49.2.2.2),(17,lB w50)],26⟩,⟨[(17,.l (.mfn 163 12)),(16,.l (.ptr 12 0)),(15,.l (.ptr 12 0)),(14,lI w40.2.2),(13,lI w36.2.2),(12,lI w32.2.2),(0,.l (.ptr 12 0)),(2,.l (.ptr 4003 0)),(3,lI w32.2.2),(4,lI w36.2.2),(5,lI w40.2.2)],20⟩,⟨[(21,.l (.mfn 149 12)),(20,.l (.own 3006)),(17,lB true),(0,.l (.ptr 12 0)),(1,.l (.mfn 149 12)),(5,.l (.own 3006)),(6,lI v29.2.2.2),(17,lB w30)],26⟩,⟨[(14,.l (.mfn 149 12)),(13,.l (.ptr 12 0)),(12,.l (.ptr 12 0)),(11,.agg [dI w16.2.2,dI w20.2.2]),(10,lI w20.2.2),(9,lI w16.2.2),(0,.l (.ptr 12 0)),(2,.l (.ptr 2003 0)),(3,lI w16.2.2),(4,lI w20.2.2)],17⟩,⟨[(21,.l (.mfn 101 12)),(20,.l (.own 1006)),(17,lB true),(0,.l (.ptr 12 0)),(1,.l (.mfn 101 12)),(5,.l (.own 1006)),(6,lI v13.2.2.2),(17,lB w14)],26⟩,⟨[(34,.l (.mfn 101 12)),(33,.l (.ptr 12 0)),(32,.l (.ptr 12 0)),(13,lB false),(0,.l (.d (.sl (a0.map (eI .u8))))),(2,.l (.ptr 3 0)),(5,.l (.ptr 12 0)),(12,lI v1.2.2),(13,lB (decide (v1.2.2<(3:Int))))],74⟩],[(3,[.nil,.nil]),(12,[.d (.sl (a0.map (eI .u8))),dI w55.1,dI w60]),(2003,[dI (0:Int),dI (0:Int),.nil]),(4003,[dI (0:Int),dI (0:Int),dI (0:Int),.nil]),(6003,[dI (0:Int),dI (0:Int),dI (0:Int)])],[(1006,57,3,v13.2.2.1.map Part.enc),(3006,67,4,v29.2.2.1.map Task.enc),(5006,200,3,v49.2.2.1.map Sec.enc)]⟩) h (fun k60 hk60 h=>?_) (fun w60 h=>?_)<;>conv=>whnf
          ·refine jnS (fun w61=>⟨[(0,.l (.ptr 12 0)),(19,lB w61)],47,[⟨[(10,.l (.ptr 12 0)),(9,lI w55.2.2),(8,.l (.ptr 12 0)),(7,lI w51.2.2),(6,.l (.ptr 12 0)),(0,.l (.ptr 12 0)),(2,.l (.ptr 6003 0))],16⟩,⟨[(21,.l (.mfn 163 12)),(20,.l (.own 5006)),(17,lB true),(0,.l (.ptr 12 0)),(1,.l (.mfn 163 12)),(5,.l (.own 5006)),(6,lI v49.2.2.2),(17,lB w50)],26⟩,⟨[(17,.l (.mfn 163 12)),(16,.l (.ptr 12 0)),(15,.l (.ptr 12 0)),(14,lI w40.2.2),(13,lI w36.2.2),(12,lI w32.2.2),(0,.l (.ptr 12 0)),(2,.l (.ptr 4003 0)),(3,lI w32.2.2),(4,lI w36.2.2),(5,lI w40.2.2)],20⟩,⟨[(21,.l (.mfn 149 12)),(20,.l (.own 3006)),(17,lB true),(0,.l (.ptr 12 0)),(1,.l (.mfn 149 12)),(5,.l (.own 3006)),(6,lI v29.2.2.2),(17,lB w30)],26⟩,⟨[(14,.l (.mfn 149 12)),(13,.l (.ptr 12 0)),(12,.l (.ptr 12 0)),(11,.agg [dI w16.2.2,dI w20.2.2]),(10,lI w20.2.2),(9,lI w16.2.2),(0,.l (.ptr 12 0)),(2,.l (.ptr 2003 0)),(3,lI w16.2.2),(4,lI w20.2.2)],17⟩,⟨[(21,.l (.mfn 101 12)),(20,.l (.own 1006)),(17,lB true),(0,.l (.ptr 12 0)),(1,.l (.mfn 101 12)),(5,.l (.own 1006)),(6,lI v13.2.2.2),(17,lB w14)],26⟩,⟨[(34,.l (.mfn 101 12)),(33,.l (.ptr 12 0)),(32,.l (.ptr 12 0)),(13,lB false),(0,.l (.d (.sl (a0.map (eI .u8))))),(2,.l (.ptr 3 0)),(5,.l (.ptr 12 0)),(12,lI v1.2.2),(13,lB (decide (v1.2.2<(3:Int))))],74⟩],[(3,[.nil,.nil]),(12,[.d (.sl (a0.map (eI .u8))),dI w55.1,dI w55.2.1]),(2003,[dI (0:Int),dI (0:Int),.nil]),(4003,[dI (0:Int),dI (0:Int),dI (0:Int),.nil]),(6003,[dI (0:Int),dI (0:Int),dI (0:Int)])],[(1006,57,3,v13.2.2.1.map Part.enc),(3006,67,4,v29.2.2.1.map Task.enc),(5006,200,3,v49.2.2.1.map Sec.enc)]⟩) h (fun k61 hk61 h=>?_) (fun w61 h=>?_)<;>conv=>whnf
           ·refine⟨17,?_⟩
            conv=>whnf
            refine fkS h (fun h=>?_) (fun h=>?_)<;>conv=>whnf
            ·refine lenS a0 (eI .u8) rfl ?_<;>conv=>whnf
             refine drS (by kernel_rfl) ?_<;>conv=>whnf
             exact jeS hk61 h wR
            refine drS (by kernel_rfl) ?_<;>conv=>whnf
            exact jeS hk61 h wR
           refine fkS h (fun h=>?_) (fun h=>?_)<;>conv=>whnf
           ·exact jeS hk60 h wR
           refine jeX hk60 h ?_<;>conv=>whnf
           refine WkF.step (Weak.keepS _ [0]) ?_<;>conv=>whnf
           exact WkF.refl _
          refine fkS h (fun h=>?_) (fun h=>?_)<;>conv=>whnf
          ·exact jeS hk59 h wR
          refine⟨9,?_⟩
          conv=>whnf
          refine drS (by kernel_rfl) ?_<;>conv=>whnf
          refine ixS (enc:=(eI .u8)) h rfl (fun _=>rfl) (fun x62 h=>?_)<;>conv=>whnf
          exact jeS hk59 h wR
         refine liS ([⟨w51.2.2,w55.2.2,w59.2.2⟩]:List Sec) Sec.enc rfl rfl ?_<;>conv=>whnf
         refine apS (enc:=Sec.enc) (l1:=v49.2.2.1) (l2:=([⟨w51.2.2,w55.2.2,w59.2.2⟩]:List Sec)) h rfl rfl (fun _=>rfl) (fun h=>?_)<;>conv=>whnf
         exact leS hn49 h wR
        refine jeX hk44 h ?_<;>conv=>whnf
        refine WkF.step (Weak.rekey _ 5005 4019 rfl) ?_<;>conv=>whnf
        exact WkF.refl _
       refine jeX hk31 h ?_<;>conv=>whnf
       refine WkF.step (Weak.keepS _ [22,21,20,17,0,1,5,6]) ?_<;>conv=>whnf
       refine WkF.step (Weak.rekey _ 4019 403023 rfl) ?_<;>conv=>whnf
       exact WkF.refl _
      refine liS ([⟨w31.2.2.2.1,w31.2.2.2.2.1,w31.2.2.2.2.2,w31.2.2.1⟩]:List Task) Task.enc rfl rfl ?_<;>conv=>whnf
      refine apS (enc:=Task.enc) (l1:=v29.2.2.1) (l2:=([⟨w31.2.2.2.1,w31.2.2.2.2.1,w31.2.2.2.2.2,w31.2.2.1⟩]:List Task)) h rfl rfl (fun _=>rfl) (fun h=>?_)<;>conv=>whnf
      exact leS hn29 h wR
     refine jeX hk24 h ?_<;>conv=>whnf
     refine WkF.step (Weak.rekey _ 3005 2016 rfl) ?_<;>conv=>whnf
     exact WkF.refl _
    refine jeX hk15 h ?_<;>conv=>whnf
    refine WkF.step (Weak.keepS _ [22,21,20,17,0,1,5,6]) ?_<;>conv=>whnf
    refine WkF.step (Weak.rekey _ 2016 301023 rfl) ?_<;>conv=>whnf
    exact WkF.refl _
   refine liS ([⟨⟨w15.2.2.2.1,w15.2.2.2.2⟩,w15.2.2.1⟩]:List Part) Part.enc rfl rfl ?_<;>conv=>whnf
   refine apS (enc:=Part.enc) (l1:=v13.2.2.1) (l2:=([⟨⟨w15.2.2.2.1,w15.2.2.2.2⟩,w15.2.2.1⟩]:List Part)) h rfl rfl (fun _=>rfl) (fun h=>?_)<;>conv=>whnf
   exact leS hn13 h wR
  refine jeX hk8 h ?_<;>conv=>whnf
  refine WkF.step (Weak.keepS _ [35,34,33,32,13,0,2,5,12]) ?_<;>conv=>whnf
  refine WkF.step (Weak.rekey _ 1005 36 rfl) ?_<;>conv=>whnf
  exact WkF.refl _
 refine inJ (fun w63=>⟨[(40,.l (.own 41)),(39,.l (.mfn 103 12)),(38,.l (.ptr 12 0)),(37,.l (.ptr 12 0)),(0,.l (.d (.sl (a0.map (eI .u8))))),(2,.l (.ptr 3 0)),(5,.l (.ptr 12 0)),(8,.l (.ptr 9 0))],74,[],[(3,[.nil,.nil]),(9,[.own 36,.nil]),(12,[.d (.sl (a0.map (eI .u8))),dI w63.1,dI w63.2.1])],[(36,57,3,w8.2.2.map Part.enc),(41,90,3,w63.2.2.map Port.enc)]⟩) h (fun k63 hk63 h=>?_) (fun w63 h=>?_)<;>conv=>whnf
 ·refine inS (fn:=Tryz.f102) tab ⟨[(0,[0,1]),(1,[0,1,5]),(2,[0,1,5,6]),(3,[0,1,5,6,17]),(4,[0,1,5,6]),(5,[0,1,5,6]),(6,[4])],[],[100017],[]⟩ 26 [.tmp 4] rfl rfl rfl rfl rfl rfl ?_<;>conv=>whnf
  refine inJ (fun w64=>⟨[(8,lI w64.2.2),(7,.l (.ptr 12 0)),(0,.l (.ptr 12 0)),(1,.l (.mfn 103 12)),(5,.l .nil)],26,[⟨[(39,.l (.mfn 103 12)),(38,.l (.ptr 12 0)),(37,.l (.ptr 12 0)),(0,.l (.d (.sl (a0.map (eI .u8))))),(2,.l (.ptr 3 0)),(5,.l (.ptr 12 0)),(8,.l (.ptr 9 0))],74⟩],[(3,[.nil,.nil]),(9,[.own 36,.nil]),(12,[.d (.sl (a0.map (eI .u8))),dI w64.1,dI w64.2.1])],[(36,57,3,w8.2.2.map Part.enc)]⟩) h (fun k64 hk64 h=>?_) (fun w64 h=>?_)<;>conv=>whnf
  ·refine inS (fn:=Tryz.f99) tab ⟨[(0,[0]),(1,[0,19]),(2,[0]),(3,[0,27]),(4,[2]),(5,[0]),(6,[2])],[],[100019,3],[]⟩ 47 [.tmp 2] rfl rfl rfl rfl rfl rfl ?_<;>conv=>whnf
   refine jnS (fun w65=>⟨[(0,.l (.ptr 12 0))],47,[⟨[(7,.l (.ptr 12 0)),(0,.l (.ptr 12 0)),(1,.l (.mfn 103 12)),(5,.l .nil)],26⟩,⟨[(39,.l (.mfn 103 12)),(38,.l (.ptr 12 0)),(37,.l (.ptr 12 0)),(0,.l (.d (.sl (a0.map (eI .u8))))),(2,.l (.ptr 3 0)),(5,.l (.ptr 12 0)),(8,.l (.ptr 9 0))],74⟩],[(3,[.nil,.nil]),(9,[.own 36,.nil]),(12,[.d (.sl (a0.map (eI .u8))),dI w8.1,dI w65])],[(36,57,3,w8.2.2.map Part.enc)]⟩) h (fun k65 hk65 h=>?_) (fun w65 h=>?_)<;>conv=>whnf
   ·refine jnS (fun w66=>⟨[(0,.l (.ptr 12 0)),(19,lB w66)],47,[⟨[(7,.l (.ptr 12 0)),(0,.l (.ptr 12 0)),(1,.l (.mfn 103 12)),(5,.l .nil)],26⟩,⟨[(39,.l (.mfn 103 12)),(38,.l (.ptr 12 0)),(37,.l (.ptr 12 0)),(0,.l (.d (.sl (a0.map (eI .u8))))),(2,.l (.ptr 3 0)),(5,.l (.ptr 12 0)),(8,.l (.ptr 9 0))],74⟩],[(3,[.nil,.nil]),(9,[.own 36,.nil]),(12,[.d (.sl (a0.map (eI .u8))),dI w8.1,dI w8.2.1])],[(36,57,3,w8.2.2.map Part.enc)]⟩) h (fun k66 hk66 h=>?_) (fun w66 h=>?_)<;>conv=>whnf
    ·refine⟨17,?_⟩
     conv=>whnf
     refine fkS h (fun h=>?_) (fun h=>?_)<;>conv=>whnf
     ·refine lenS a0 (eI .u8) rfl ?_<;>conv=>whnf
      refine drS (by kernel_rfl) ?_<;>conv=>whnf
      exact jeS hk66 h wR
     refine drS (by kernel_rfl) ?_<;>conv=>whnf
     exact jeS hk66 h wR
    refine fkS h (fun h=>?_) (fun h=>?_)<;>conv=>whnf
    ·exact jeS hk65 h wR
    refine jeX hk65 h ?_<;>conv=>whnf
    refine WkF.step (Weak.keepS _ [0]) ?_<;>conv=>whnf
    exact WkF.refl _
   refine fkS h (fun h=>?_) (fun h=>?_)<;>conv=>whnf
   ·exact jeS hk64 h wR
   refine⟨9,?_⟩
   conv=>whnf
   refine drS (by kernel_rfl) ?_<;>conv=>whnf
   refine ixS (enc:=(eI .u8)) h rfl (fun _=>rfl) (fun x67 h=>?_)<;>conv=>whnf
   exact jeS hk64 h wR
  refine lpS (fun v68=>⟨[(0,.l (.ptr 12 0)),(1,.l (.mfn 103 12)),(5,.l (.own 1006)),(6,lI v68.2.2.2)],26,[⟨[(39,.l (.mfn 103 12)),(38,.l (.ptr 12 0)),(37,.l (.ptr 12 0)),(0,.l (.d (.sl (a0.map (eI .u8))))),(2,.l (.ptr 3 0)),(5,.l (.ptr 12 0)),(8,.l (.ptr 9 0))],74⟩],[(3,[.nil,.nil]),(9,[.own 36,.nil]),(12,[.d (.sl (a0.map (eI .u8))),dI v68.1,dI v68.2.1])],[(36,57,3,w8.2.2.map Part.enc),(1006,90,3,v68.2.2.1.map Port.enc)]⟩) h (Weak.trans (Weak.nilO _ 5 1006 90 3 rfl) wR) (fun _ nx68 hn68 v68 h=>?_)<;>conv=>whnf
  refine jnS (fun w69=>⟨[(0,.l (.ptr 12 0)),(1,.l (.mfn 103 12)),(5,.l (.own 1006)),(6,lI v68.2.2.2),(17,lB w69)],26,[⟨[(39,.l (.mfn 103 12)),(38,.l (.ptr 12 0)),(37,.l (.ptr 12 0)),(0,.l (.d (.sl (a0.map (eI .u8))))),(2,.l (.ptr 3 0)),(5,.l (.ptr 12 0)),(8,.l (.ptr 9 0))],74⟩],[(3,[.nil,.nil]),(9,[.own 36,.nil]),(12,[.d (.sl (a0.map (eI .u8))),dI v68.1,dI v68.2.1])],[(36,57,3,w8.2.2.map Part.enc),(1006,90,3,v68.2.2.1.map Port.enc)]⟩) h (fun k69 hk69 h=>?_) (fun w69 h=>?_)<;>conv=>whnf
  ·refine fkS h (fun h=>?_) (fun h=>?_)<;>conv=>whnf
   ·exact jeS hk69 h wR
   exact jeS hk69 h wR
  refine fkS h (fun h=>?_) (fun h=>?_)<;>conv=>whnf
  ·refine inS (fn:=Tryz.f103) tab ⟨[(0,[0,2]),(1,[2,3,4,5]),(2,[2])],[],[],[]⟩ 16 [.cell 2 90] rfl rfl rfl rfl rfl rfl ?_<;>conv=>whnf
   refine inJ (fun w70=>⟨[(7,lI w70.2.2),(6,.l (.ptr 12 0)),(0,.l (.ptr 12 0)),(2,.l (.ptr 2003 0))],16,[⟨[(21,.l (.mfn 103 12)),(20,.l (.own 1006)),(17,lB true),(0,.l (.ptr 12 0)),(1,.l (.mfn 103 12)),(5,.l (.own 1006)),(6,lI v68.2.2.2),(17,lB w69)],26⟩,⟨[(39,.l (.mfn 103 12)),(38,.l (.ptr 12 0)),(37,.l (.ptr 12 0)),(0,.l (.d (.sl (a0.map (eI .u8))))),(2,.l (.ptr 3 0)),(5,.l (.ptr 12 0)),(8,.l (.ptr 9 0))],74⟩],[(3,[.nil,.nil]),(9,[.own 36,.nil]),(12,[.d (.sl (a0.map (eI .u8))),dI w70.1,dI w70.2.1]),(2003,[dI (0:Int),dI (0:Int),dI (0:Int)])],[(36,57,3,w8.2.2.map Part.enc),(1006,90,3,v68.2.2.1.map Port.enc)]⟩) h (fun k70 hk70 h=>?_) (fun w70 h=>?_)<;>conv=>whnf
   ·refine inS (fn:=Tryz.f99) tab ⟨[(0,[0]),(1,[0,19]),(2,[0]),(3,[0,27]),(4,[2]),(5,[0]),(6,[2])],[],[100019,3],[]⟩ 47 [.tmp 2] rfl rfl rfl rfl rfl rfl ?_<;>conv=>whnf
    refine jnS (fun w71=>⟨[(0,.l (.ptr 12 0))],47,[⟨[(6,.l (.ptr 12 0)),(0,.l (.ptr 12 0)),(2,.l (.ptr 2003 0))],16⟩,⟨[(21,.l (.mfn 103 12)),(20,.l (.own 1006)),(17,lB true),(0,.l (.ptr 12 0)),(1,.l (.mfn 103 12)),(5,.l (.own 1006)),(6,lI v68.2.2.2),(17,lB w69)],26⟩,⟨[(39,.l (.mfn 103 12)),(38,.l (.ptr 12 0)),(37,.l (.ptr 12 0)),(0,.l (.d (.sl (a0.map (eI .u8))))),(2,.l (.ptr 3 0)),(5,.l (.ptr 12 0)),(8,.l (.ptr 9 0))],74⟩],[(3,[.nil,.nil]),(9,[.own 36,.nil]),(12,[.d (.sl (a0.map (eI .u8))),dI v68.1,dI w71]),(2003,[dI (0:Int),dI (0:Int),dI (0:Int)])],[(36,57,3,w8.2.2.map Part.enc),(1006,90,3,v68.2.2.1.map Port.enc)]⟩) h (fun k71 hk71 h=>?_) (fun w71 h=>?_)<;>conv=>whnf
    ·refine jnS (fun w72=>⟨[(0,.l (.ptr 12 0)),(19,lB w72)],47,[⟨[(6,.l (.ptr 12 0)),(0,.l (.ptr 12 0)),(2,.l (.ptr 2003 0))],16⟩,⟨[(21,.l (.mfn 103 12)),(20,.l (.own 1006)),(17,lB true),(0,.l (.ptr 12 0)),(1,.l (.mfn 103 12)),(5,.l (.own 1006)),(6,lI v68.2.2.2),(17,lB w69)],26⟩,⟨[(39,.l (.mfn 103 12)),(38,.l (.ptr 12 0)),(37,.l (.ptr 12 0)),(0,.l (.d (.sl (a0.map (eI .u8))))),(2,.l (.ptr 3 0)),(5,.l (.ptr 12 0)),(8,.l (.ptr 9 0))],74⟩],[(3,[.nil,.nil]),(9,[.own 36,.nil]),(12,[.d (.sl (a0.map (eI .u8))),dI v68.1,dI v68.2.1]),(2003,[dI (0:Int),dI (0:Int),dI (0:Int)])],[(36,57,3,w8.2.2.map Part.enc),(1006,90,3,v68.2.2.1.map Port.enc)]⟩) h (fun k72 hk72 h=>?_) (fun w72 h=>?_)<;>conv=>whnf
     ·refine⟨17,?_⟩
      conv=>whnf
      refine fkS h (fun h=>?_) (fun h=>?_)<;>conv=>whnf
      ·refine lenS a0 (eI .u8) rfl ?_<;>conv=>whnf
       refine drS (by kernel_rfl) ?_<;>conv=>whnf
       exact jeS hk72 h wR
      refine drS (by kernel_rfl) ?_<;>conv=>whnf
      exact jeS hk72 h wR
     refine fkS h (fun h=>?_) (fun h=>?_)<;>conv=>whnf
     ·exact jeS hk71 h wR
     refine jeX hk71 h ?_<;>conv=>whnf
     refine WkF.step (Weak.keepS _ [0]) ?_<;>conv=>whnf
     exact WkF.refl _
    refine fkS h (fun h=>?_) (fun h=>?_)<;>conv=>whnf
    ·exact jeS hk70 h wR
    refine⟨9,?_⟩
    conv=>whnf
    refine drS (by kernel_rfl) ?_<;>conv=>whnf
    refine ixS (enc:=(eI .u8)) h rfl (fun _=>rfl) (fun x73 h=>?_)<;>conv=>whnf
    exact jeS hk70 h wR
   refine inJ (fun w74=>⟨[(9,lI w74.2.2),(8,.l (.ptr 12 0)),(7,lI w70.2.2),(6,.l (.ptr 12 0)),(0,.l (.ptr 12 0)),(2,.l (.ptr 2003 0))],16,[⟨[(21,.l (.mfn 103 12)),(20,.l (.own 1006)),(17,lB true),(0,.l (.ptr 12 0)),(1,.l (.mfn 103 12)),(5,.l (.own 1006)),(6,lI v68.2.2.2),(17,lB w69)],26⟩,⟨[(39,.l (.mfn 103 12)),(38,.l (.ptr 12 0)),(37,.l (.ptr 12 0)),(0,.l (.d (.sl (a0.map (eI .u8))))),(2,.l (.ptr 3 0)),(5,.l (.ptr 12 0)),(8,.l (.ptr 9 0))],74⟩],[(3,[.nil,.nil]),(9,[.own 36,.nil]),(12,[.d (.sl (a0.map (eI .u8))),dI w74.1,dI w74.2.1]),(2003,[dI (0:Int),dI (0:Int),dI (0:Int)])],[(36,57,3,w8.2.2.map Part.enc),(1006,90,3,v68.2.2.1.map Port.enc)]⟩) h (fun k74 hk74 h=>?_) (fun w74 h=>?_)<;>conv=>whnf
   ·refine inS (fn:=Tryz.f99) tab ⟨[(0,[0]),(1,[0,19]),(2,[0]),(3,[0,27]),(4,[2]),(5,[0]),(6,[2])],[],[100019,3],[]⟩ 47 [.tmp 2] rfl rfl rfl rfl rfl rfl ?_<;>conv=>whnf
    refine jnS (fun w75=>⟨[(0,.l (.ptr 12 0))],47,[⟨[(8,.l (.ptr 12 0)),(7,lI w70.2.2),(6,.l (.ptr 12 0)),(0,.l (.ptr 12 0)),(2,.l (.ptr 2003 0))],16⟩,⟨[(21,.l (.mfn 103 12)),(20,.l (.own 1006)),(17,lB true),(0,.l (.ptr 12 0)),(1,.l (.mfn 103 12)),(5,.l (.own 1006)),(6,lI v68.2.2.2),(17,lB w69)],26⟩,⟨[(39,.l (.mfn 103 12)),(38,.l (.ptr 12 0)),(37,.l (.ptr 12 0)),(0,.l (.d (.sl (a0.map (eI .u8))))),(2,.l (.ptr 3 0)),(5,.l (.ptr 12 0)),(8,.l (.ptr 9 0))],74⟩],[(3,[.nil,.nil]),(9,[.own 36,.nil]),(12,[.d (.sl (a0.map (eI .u8))),dI w70.1,dI w75]),(2003,[dI (0:Int),dI (0:Int),dI (0:Int)])],[(36,57,3,w8.2.2.map Part.enc),(1006,90,3,v68.2.2.1.map Port.enc)]⟩) h (fun k75 hk75 h=>?_) (fun w75 h=>?_)<;>conv=>whnf
    ·refine jnS (fun w76=>⟨[(0,.l (.ptr 12 0)),(19,lB w76)],47,[⟨[(8,.l (.ptr 12 0)),(7,lI w70.2.2),(6,.l (.ptr 12 0)),(0,.l (.ptr 12 0)),(2,.l (.ptr 2003 0))],16⟩,⟨[(21,.l (.mfn 103 12)),(20,.l (.own 1006)),(17,lB true),(0,.l (.ptr 12 0)),(1,.l (.mfn 103 12)),(5,.l (.own 1006)),(6,lI v68.2.2.2),(17,lB w69)],26⟩,⟨[(39,.l (.mfn 103 12)),(38,.l (.ptr 12 0)),(37,.l (.ptr 12 0)),(0,.l (.d (.sl (a0.map (eI .u8))))),(2,.l (.ptr 3 0)),(5,.l (.ptr 12 0)),(8,.l (.ptr 9 0))],74⟩],[(3,[.nil,.nil]),(9,[.own 36,.nil]),(12,[.d (.sl (a0.map (eI .u8))),dI w70.1,dI w70.2.1]),(2003,[dI (0:Int),dI (0:Int),dI (0:Int)])],[(36,57,3,w8.2.2.map Part.enc),(1006,90,3,v68.2.2.1.map Port.enc)]⟩) h (fun k76 hk76 h=>?_) (fun w76 h=>?_)<;>conv=>whnf
     ·refine⟨17,?_⟩
      conv=>whnf
      refine fkS h (fun h=>?_) (fun h=>?_)<;>conv=>whnf
      ·refine lenS a0 (eI .u8) rfl ?_<;>conv=>whnf
       refine drS (by kernel_rfl) ?_<;>conv=>whnf
       exact jeS hk76 h wR
      refine drS (by kernel_rfl) ?_<;>conv=>whnf
      exact jeS hk76 h wR
     refine fkS h (fun h=>?_) (fun h=>?_)<;>conv=>whnf
     ·exact jeS hk75 h wR
     refine jeX hk75 h ?_<;>conv=>whnf
     refine WkF.step (Weak.keepS _ [0]) ?_<;>conv=>whnf
     exact WkF.refl _
    refine fkS h (fun h=>?_) (fun h=>?_)<;>conv=>whnf
    ·exact jeS hk74 h wR
    refine⟨9,?_⟩
    conv=>whnf
    refine drS (by kernel_rfl) ?_<;>conv=>whnf
    refine ixS (enc:=(eI .u8)) h rfl (fun _=>rfl) (fun x77 h=>?_)<;>conv=>whnf
    exact jeS hk74 h wR
   refine inJ (fun w78=>⟨[(11,lI w78.2.2),(10,.l (.ptr 12 0)),(9,lI w74.2.2),(8,.l (.ptr 12 0)),(7,lI w70.2.2),(6,.l (.ptr 12 0)),(0,.l (.ptr 12 0)),(2,.l (.ptr 2003 0))],16,[⟨[(21,.l (.mfn 103 12)),(20,.l (.own 1006)),(17,lB true),(0,.l (.ptr 12 0)),(1,.l (.mfn 103 12)),(5,.l (.own 1006)),(6,lI v68.2.2.2),(17,lB w69)],26⟩,⟨[(39,.l (.mfn 103 12)),(38,.l (.ptr 12 0)),(37,.l (.ptr 12 0)),(0,.l (.d (.sl (a0.map (eI .u8))))),(2,.l (.ptr 3 0)),(5,.l (.ptr 12 0)),(8,.l (.ptr 9 0))],74⟩],[(3,[.nil,.nil]),(9,[.own 36,.nil]),(12,[.d (.sl (a0.map (eI .u8))),dI w78.1,dI w78.2.1]),(2003,[dI (0:Int),dI (0:Int),dI (0:Int)])],[(36,57,3,w8.2.2.map Part.enc),(1006,90,3,v68.2.2.1.map Port.enc)]⟩) h (fun k78 hk78 h=>?_) (fun w78 h=>?_)<;>conv=>whnf
   ·refine inS (fn:=Tryz.f99) tab ⟨[(0,[0]),(1,[0,19]),(2,[0]),(3,[0,27]),(4,[2]),(5,[0]),(6,[2])],[],[100019,3],[]⟩ 47 [.tmp 2] rfl rfl rfl rfl rfl rfl ?_<;>conv=>whnf
    refine jnS (fun w79=>⟨[(0,.l (.ptr 12 0))],47,[⟨[(10,.l (.ptr 12 0)),(9,lI w74.2.2),(8,.l (.ptr 12 0)),(7,lI w70.2.2),(6,.l (.ptr 12 0)),(0,.l (.ptr 12 0)),(2,.l (.ptr 2003 0))],16⟩,⟨[(21,.l (.mfn 103 12)),(20,.l (.own 1006)),(17,lB true),(0,.l (.ptr 12 0)),(1,.l (.mfn 103 12)),(5,.l (.own 1006)),(6,lI v68.2.2.2),(17,lB w69)],26⟩,⟨[(39,.l (.mfn 103 12)),(38,.l (.ptr 12 0)),(37,.l (.ptr 12 0)),(0,.l (.d (.sl (a0.map (eI .u8))))),(2,.l (.ptr 3 0)),(5,.l (.ptr 12 0)),(8,.l (.ptr 9 0))],74⟩],[(3,[.nil,.nil]),(9,[.own 36,.nil]),(12,[.d (.sl (a0.map (eI .u8))),dI w74.1,dI w79]),(2003,[dI (0:Int),dI (0:Int),dI (0:Int)])],[(36,57,3,w8.2.2.map Part.enc),(1006,90,3,v68.2.2.1.map Port.enc)]⟩) h (fun k79 hk79 h=>?_) (fun w79 h=>?_)<;>conv=>whnf
    ·refine jnS (fun w80=>⟨[(0,.l (.ptr 12 0)),(19,lB w80)],47,[⟨[(10,.l (.ptr 12 0)),(9,lI w74.2.2),(8,.l (.ptr 12 0)),(7,lI w70.2.2),(6,.l (.ptr 12 0)),(0,.l (.ptr 12 0)),(2,.l (.ptr 2003 0))],16⟩,⟨[(21,.l (.mfn 103 12)),(20,.l (.own 1006)),(17,lB true),(0,.l (.ptr 12 0)),(1,.l (.mfn 103 12)),(5,.l (.own 1006)),(6,lI v68.2.2.2),(17,lB w69)],26⟩,⟨[(39,.l (.mfn 103 12)),(38,.l (.ptr 12 0)),(37,.l (.ptr 12 0)),(0,.l (.d (.sl (a0.map (eI .u8))))),(2,.l (.ptr 3 0)),(5,.l (.ptr 12 0)),(8,.l (.ptr 9 0))],74⟩],[(3,[.nil,.nil]),(9,[.own 36,.nil]),(12,[.d (.sl (a0.map (eI .u8))),dI w74.1,dI w74.2.1]),(2003,[dI (0:Int),dI (0:Int),dI (0:Int)])],[(36,57,3,w8.2.2.map Part.enc),(1006,90,3,v68.2.2.1.map Port.enc)]⟩) h (fun k80 hk80 h=>?_) (fun w80 h=>?_)<;>conv=>whnf
     ·refine⟨17,?_⟩
      conv=>whnf
      refine fkS h (fun h=>?_) (fun h=>?_)<;>conv=>whnf
      ·refine lenS a0 (eI .u8) rfl ?_<;>conv=>whnf
       refine drS (by kernel_rfl) ?_<;>conv=>whnf
       exact jeS hk80 h wR
      refine drS (by kernel_rfl) ?_<;>conv=>whnf
      exact jeS hk80 h wR
     refine fkS h (fun h=>?_) (fun h=>?_)<;>conv=>whnf
     ·exact jeS hk79 h wR
     refine jeX hk79 h ?_<;>conv=>whnf
     refine WkF.step (Weak.keepS _ [0]) ?_<;>conv=>whnf
     exact WkF.refl _
    refine fkS h (fun h=>?_) (fun h=>?_)<;>conv=>whnf
    ·exact jeS hk78 h wR
    refine⟨9,?_⟩
    conv=>whnf
    refine drS (by kernel_rfl) ?_<;>conv=>whnf
    refine ixS (enc:=(eI .u8)) h rfl (fun _=>rfl) (fun x81 h=>?_)<;>conv=>whnf
    exact jeS hk78 h wR
   refine liS ([⟨w70.2.2,w74.2.2,w78.2.2⟩]:List Port) Port.enc rfl rfl ?_<;>conv=>whnf
   refine apS (enc:=Port.enc) (l1:=v68.2.2.1) (l2:=([⟨w70.2.2,w74.2.2,w78.2.2⟩]:List Port)) h rfl rfl (fun _=>rfl) (fun h=>?_)<;>conv=>whnf
   exact leS hn68 h wR
  refine jeX hk63 h ?_<;>conv=>whnf
  refine WkF.step (Weak.rekey _ 1005 41 rfl) ?_<;>conv=>whnf
  exact WkF.refl _
 refine fkS h (fun h=>?_) (fun h=>?_)<;>conv=>whnf
 ·refine⟨9,?_⟩
  conv=>whnf
  refine lenS a0 (eI .u8) rfl ?_<;>conv=>whnf
  refine drS (by kernel_rfl) ?_<;>conv=>whnf
  exact rt (E:=E_Config_Int_Int) h rfl
 refine lenS a0 (eI .u8) rfl ?_<;>conv=>whnf
 refine fkS h (fun h=>?_) (fun h=>?_)<;>conv=>whnf
 ·refine⟨6,?_⟩
  conv=>whnf
  refine drS (by kernel_rfl) ?_<;>conv=>whnf
  exact rt (E:=E_Config_Int_Int) h rfl
 refine caS (E:=E_Bool) h (image_Right_w ⟨w8.2.2,w63.2.2⟩) rfl (fun _=>rfl) (fun x82 h=>?_)<;>conv=>whnf
 refine fkS h (fun h=>?_) (fun h=>?_)<;>conv=>whnf
 ·exact rt (E:=E_Config_Int_Int) h rfl
 exact rt (E:=E_Config_Int_Int) h rfl
end Go.Proofs.YtldlcdnhdedoeaaGreat
namespace Go.Proofs.YtldlcdnhdedoeaaGreat
open Go Go.VC
section
variable {R:Type} {P:R→Prop}
def bytesP (b:List Int):Prop:=b.length≤1000000∧∀x∈b,0≤x∧x≤255
noncomputable def oneV (b:List Int) (p e:Int):Int×Int×Int:=
 if e=0 then (if p≥(b.length:Int) then (p,8,0) else (p+1,0,(b[p.toNat]?).getD 0)) else (p,e,0)
theorem oneV_ok {b:List Int} (hb:bytesP b) {p:Int} (e:Int) (h0:0≤p) (h1:p≤b.length):0≤(oneV b p e).1∧(oneV b p e).1≤b.length∧0≤(oneV b p e).2.2∧(oneV b p e).2.2≤255:=by
 unfold oneV
 by_cases c:e=0
 ·rw[if_pos c]
  by_cases d:p≥(b.length:Int)
  ·rw[if_pos d]; exact⟨h0,h1,Int.le_refl _,by show (0:Int)≤255; decide⟩
  ·rw[if_neg d]
   have hp:p.toNat<b.length:=by omega
   have:=hb.2 _ (List.getElem_mem hp)
   refine⟨by show 0≤p+1; omega,by show p+1≤_; omega,?_⟩
   show 0≤(b[p.toNat]?).getD 0∧(b[p.toNat]?).getD 0≤255
   rw[List.getElem?_eq_getElem hp]
   exact this
 ·rw[if_neg c]; exact⟨h0,h1,Int.le_refl _,by show (0:Int)≤255; decide⟩
theorem one_to {b:List Int} (hb:bytesP b) {Y:Int×Int×Int→Option R} {p e:Int} (h0:0≤p) (h1:p≤b.length) (h:∃r,Y (oneV b p e)=some r∧P r) :
  ∃r,jn (fun w=>Y w) (fun k2=>jn (fun (w3:Int)=>fk (!decide (w3=(0:Int))) (k2 (p,w3,(0:Int))) (ix b (wr ((wr (p+(1:Int)))-(1:Int))) fun x5=>k2 ((wr (p+(1:Int))),w3,(IntKind.i64.wrap x5)))) (fun k3=>jn (fun (w4:Bool)=>fk w4 (k3 (8:Int)) (k3 e)) (fun k4=>fk (decide (e=(0:Int))) (k4 (decide (p≥(b.length:Int)))) (k4 false))))=some r∧P r:=by
 have hl:=hb.1
 unfold oneV at h
 by_cases c:e=0
 ·rw[if_pos c] at h
  simp only[jn_eq,decide_eq_true c,fk_t]
  by_cases d:p≥(b.length:Int)
  ·rw[if_pos d] at h
   simp only[decide_eq_true d,fk_t]
   rw[decide_eq_false (show ¬(8:Int)=0 by decide),Bool.not_false,fk_t]
   exact h
  ·rw[if_neg d] at h
   have hp:p.toNat<b.length:=by omega
   simp only[decide_eq_false d,fk_f,c]
   rw[Bool.not_true,fk_f,wr_in (p+1) (by omega),show p+1-1=p by omega,wr_in p (by omega),ix_int h0 hp]
   rw[List.getElem?_eq_getElem hp] at h
   have hx:=hb.2 _ (List.getElem_mem hp)
   rw[show IntKind.i64.wrap b[p.toNat]=b[p.toNat] from wr_in _ (by omega)]
   exact h
 ·rw[if_neg c] at h
  simp only[jn_eq,decide_eq_false c,fk_f,Bool.not_false,fk_t]
  exact h
theorem row_lp {E:Type} {N:Int} {body:(Int×Int×List E×Int→Option R)→Int×Int×List E×Int→Option R} (good:E→Prop) {p e n:Int} (hp0:0≤p) (hpN:p≤N) (hn0:0≤n) (hn:n≤255)
  (step:∀(nx:Int×Int×List E×Int→Option R) (p e:Int) (l:List E) (n:Int),0≤p→p≤N→0≤n→n≤255→l.length≤255→(0<n→l.length≤254)→(∀x∈l,good x)→(0<n→∀p' e' x,0≤p'→p'≤N→good x→∃r,nx (p',e',l++[x],wr (n-1))=some r∧P r)→∃r,body nx (p,e,l,n)=some r∧P r) :
  ∃r,lp body FU (p,e,[],n)=some r∧P r:=by
 refine lp_ex (fun v=>v.2.2.2.toNat) (fun v=>0≤v.1∧v.1≤N∧0≤v.2.2.2∧v.2.2.2≤255∧(v.2.2.1.length:Int)+v.2.2.2≤255∧∀x∈v.2.2.1,good x) P ?_ FU _ ⟨hp0,hpN,hn0,hn,by simpa using hn,fun x h=>by simp at h⟩ (by unfold FU; simp only; omega)
 rintro nx ⟨p,e,l,n⟩ ⟨a1,a2,a3,a4,a5,a6⟩ hnx
 simp only at a1 a2 a3 a4 a5 a6
 refine step nx p e l n a1 a2 a3 a4 (by omega) (fun h=>by omega) a6 fun hpos p' e' x b1 b2 hx=>?_
 have hw:wr (n-1)=n-1:=wr_in _ (by omega)
 rw[hw]
 refine hnx _ ⟨b1,b2,by show 0≤n-1; omega,by show n-1≤255; omega,?_,?_⟩ (by show (n-1).toNat<n.toNat; omega)
 ·show ((l++[x]).length:Int)+(n-1)≤255
  rw[List.length_append]; simp only[List.length_cons,List.length_nil]; omega
 ·intro y hy
  rcases List.mem_append.1 hy with hy | hy
  ·exact a6 y hy
  ·rw[List.mem_singleton.1 hy]; exact hx
theorem jn_P {σ:Type} {Y:σ→Option R} {X:(σ→Option R)→Option R} (h:∃r,X Y=some r∧P r):∃r,jn Y X=some r∧P r:=h
theorem fk_P {b:Bool} {x y:Option R} (h1:b=true→∃r,x=some r∧P r) (h2:b=false→∃r,y=some r∧P r):∃r,fk b x y=some r∧P r:=by
 cases b
 ·exact h2 rfl
 ·exact h1 rfl
theorem guard_P {n e:Int} {X Y:Option R} (hX:0<n→∃r,X=some r∧P r) (hY:∃r,Y=some r∧P r):∃r,jn (fun (w:Bool)=>fk w X Y) (fun k=>fk (decide (n>(0:Int))) (k (decide (e=(0:Int)))) (k false))=some r∧P r:=by
 rw[jn_eq]
 refine fk_P (fun hn=>fk_P (fun _=>hX (of_decide_eq_true hn)) (fun _=>hY)) (fun _=>?_)
 exact hY
theorem ck_P {b:Bool} {x:Option R} (hb:b=true) (h:∃r,x=some r∧P r):∃r,ck b x=some r∧P r:=by subst hb; exact h
theorem ck1 {E:Type} {l:List E} {x:E} {m:Nat} (h:l.length≤255) (hm:m≤1000):decide ((l.length+([x]:List E).length)*m≤140737488355328)=true:=by
 refine decide_eq_true ?_
 simp only[List.length_cons,List.length_nil]
 have:(l.length+(0+1))*m≤256*1000:=Nat.mul_le_mul (by omega) hm
 omega
end
def goodT (t:Task):Prop:=t.Secs.length≤255
def goodQ (p:Part):Prop:=p.Tasks.length≤255∧∀t∈p.Tasks,goodT t
def goodC (c:Config):Prop:=c.Parts.length≤255∧c.Ports.length≤255∧∀p∈c.Parts,goodQ p
def decR (b:List Int) (r:Config×Int×Int):Prop:=(r.2.2=0→goodC r.1∧image_Right r.1=some true)∧(r.2.2≠0→r.1=⟨[],[]⟩)
theorem decR_err {b:List Int} {i e:Int} (he:e≠0):decR b (⟨[],[]⟩,i,e):=⟨fun h=>absurd h he,fun _=>rfl⟩
theorem image_Decode_ex (b:List Int) (hb:bytesP b) (hR:∀c,goodC c→∃v,image_Right c=some v):∃r,image_Decode b=some r∧decR b r:=by
 have hl:=hb.1
 unfold image_Decode
 refine lp_ex (fun v:Int×Int×Int=>3-v.2.2.toNat) (fun v:Int×Int×Int=>0≤v.1∧v.1≤(b.length:Int)∧0≤v.2.2∧v.2.2≤3) _ ?_ FU _ ⟨Int.le_refl _,by simp,Int.le_refl _,by decide⟩ (by unfold FU; simp)
 rintro nx ⟨p,e,i⟩ ⟨h0,h1,h2,h3⟩ hnx
 simp only at h0 h1 h2 h3
 refine fk_P (fun hi=>?_) (fun _=>?_)
 ·have hi:i<3:=of_decide_eq_true hi
  refine one_to hb h0 h1 ?_
  obtain⟨a1,a2,a3,a4⟩:=oneV_ok hb e h0 h1
  generalize oneV b p e=w at a1 a2 a3 a4 ⊢
  refine jn_P ?_
  have fin:∀g:Bool,∃r,fk g (some ((⟨[],[]⟩:Config),i,(2:Int))) (nx (w.1,w.2.1,wr (i+1)))=some r∧decR b r:=fun g=>by
   refine fk_P (fun _=>⟨_,rfl,decR_err (by decide)⟩) (fun _=>?_)
   rw[wr_in (i+1) (by omega)]
   exact hnx _ ⟨a1,a2,by show 0≤i+1; omega,by show i+1≤3; omega⟩ (by show 3-(i+1).toNat<3-i.toNat; omega)
  refine fk_P (fun _=>?_) (fun _=>fin false)
  rw[ix_int h2 (by simp; omega)]
  exact fin _
 ·refine jn_P ?_
  refine one_to hb h0 h1 ?_
  obtain⟨a1,a2,a3,a4⟩:=oneV_ok hb e h0 h1
  generalize oneV b p e=w at a1 a2 a3 a4 ⊢
  refine row_lp (N:=b.length) goodQ a1 a2 a3 a4 ?_
  intro nx p e l n h0 h1 n0 n1 l1 l2 hg hnx
  have out:∃r,(fun (w8:Int×Int×(List Part))=>jn (fun (w63:Int×Int×(List Port))=>fk (!decide (w63.2.1=(0:Int))) (some ((⟨[],[]⟩:Config),(b.length:Int),w63.2.1)) (fk (decide (w63.1<(b.length:Int))) (some (⟨[],[]⟩,w63.1,(2:Int))) (bnd (image_Right ⟨w8.2.2,w63.2.2⟩) fun x82=>fk (!x82) (some (⟨[],[]⟩,(0:Int),(1:Int))) (some (⟨w8.2.2,w63.2.2⟩,(0:Int),(0:Int)))))) (fun k63=>jn (fun (w64:Int×Int×Int)=>lp (fun nx68 (v68:Int×Int×(List Port)×Int)=>jn (fun (w69:Bool)=>fk w69 (jn (fun (w70:Int×Int×Int)=>jn (fun (w74:Int×Int×Int)=>jn (fun (w78:Int×Int×Int)=>ck (decide ((v68.2.2.1.length+([⟨w70.2.2,w74.2.2,w78.2.2⟩]:List Port).length)*24≤140737488355328)) (nx68 (w78.1,w78.2.1,v68.2.2.1++([⟨w70.2.2,w74.2.2,w78.2.2⟩]:List Port),(wr (v68.2.2.2-(1:Int)))))) (fun k78=>jn (fun (w79:Int)=>fk (!decide (w79=(0:Int))) (k78 (w74.1,w79,(0:Int))) (ix b (wr ((wr (w74.1+(1:Int)))-(1:Int))) fun x81=>k78 ((wr (w74.1+(1:Int))),w79,(IntKind.i64.wrap x81)))) (fun k79=>jn (fun (w80:Bool)=>fk w80 (k79 (8:Int)) (k79 w74.2.1)) (fun k80=>fk (decide (w74.2.1=(0:Int))) (k80 (decide (w74.1≥(b.length:Int)))) (k80 false))))) (fun k74=>jn (fun (w75:Int)=>fk (!decide (w75=(0:Int))) (k74 (w70.1,w75,(0:Int))) (ix b (wr ((wr (w70.1+(1:Int)))-(1:Int))) fun x77=>k74 ((wr (w70.1+(1:Int))),w75,(IntKind.i64.wrap x77)))) (fun k75=>jn (fun (w76:Bool)=>fk w76 (k75 (8:Int)) (k75 w70.2.1)) (fun k76=>fk (decide (w70.2.1=(0:Int))) (k76 (decide (w70.1≥(b.length:Int)))) (k76 false))))) (fun k70=>jn (fun (w71:Int)=>fk (!decide (w71=(0:Int))) (k70 (v68.1,w71,(0:Int))) (ix b (wr ((wr (v68.1+(1:Int)))-(1:Int))) fun x73=>k70 ((wr (v68.1+(1:Int))),w71,(IntKind.i64.wrap x73)))) (fun k71=>jn (fun (w72:Bool)=>fk w72 (k71 (8:Int)) (k71 v68.2.1)) (fun k72=>fk (decide (v68.2.1=(0:Int))) (k72 (decide (v68.1≥(b.length:Int)))) (k72 false))))) (k63 (v68.1,v68.2.1,v68.2.2.1))) (fun k69=>fk (decide (v68.2.2.2>(0:Int))) (k69 (decide (v68.2.1=(0:Int)))) (k69 false))) FU (w64.1,w64.2.1,[],w64.2.2)) (fun k64=>jn (fun (w65:Int)=>fk (!decide (w65=(0:Int))) (k64 (w8.1,w65,(0:Int))) (ix b (wr ((wr (w8.1+(1:Int)))-(1:Int))) fun x67=>k64 ((wr (w8.1+(1:Int))),w65,(IntKind.i64.wrap x67)))) (fun k65=>jn (fun (w66:Bool)=>fk w66 (k65 (8:Int)) (k65 w8.2.1)) (fun k66=>fk (decide (w8.2.1=(0:Int))) (k66 (decide (w8.1≥(b.length:Int)))) (k66 false)))))) (p,e,l)=some r∧decR b r:=by
   simp only
   refine jn_P ?_
   refine one_to hb h0 h1 ?_
   obtain⟨a1,a2,a3,a4⟩:=oneV_ok hb e h0 h1
   generalize oneV b p e=w at a1 a2 a3 a4 ⊢
   refine row_lp (N:=b.length) (fun _=>True) a1 a2 a3 a4 ?_
   intro nx p e q n h0 h1 n0 n1 q1 q2 _ hnx
   have out:∃r,(fun (w63:Int×Int×(List Port))=>fk (!decide (w63.2.1=(0:Int))) (some ((⟨[],[]⟩:Config),(b.length:Int),w63.2.1)) (fk (decide (w63.1<(b.length:Int))) (some (⟨[],[]⟩,w63.1,(2:Int))) (bnd (image_Right ⟨l,w63.2.2⟩) fun x82=>fk (!x82) (some (⟨[],[]⟩,(0:Int),(1:Int))) (some (⟨l,w63.2.2⟩,(0:Int),(0:Int)))))) (p,e,q)=some r∧decR b r:=by
    simp only
    refine fk_P (fun he=>⟨_,rfl,decR_err (fun h=>by rw[h] at he; cases he)⟩) (fun _=>?_)
    refine fk_P (fun _=>⟨_,rfl,decR_err (by decide)⟩) (fun _=>?_)
    obtain⟨v,hv⟩:=hR ⟨l,q⟩ ⟨l1,q1,hg⟩
    rw[bnd_eq hv]
    refine fk_P (fun _=>⟨_,rfl,decR_err (by decide)⟩) (fun hv2=>⟨_,rfl,⟨fun _=>⟨⟨l1,q1,hg⟩,?_⟩,fun h=>absurd rfl h⟩⟩)
    cases v
    ·cases hv2
    ·exact hv
   refine guard_P (fun hpos=>?_) out
   refine one_to hb h0 h1 ?_
   obtain⟨a1,a2,_,_⟩:=oneV_ok hb e h0 h1
   generalize oneV b p e=w1 at a1 a2 ⊢
   refine one_to hb a1 a2 ?_
   obtain⟨b1,b2,_,_⟩:=oneV_ok hb w1.2.1 a1 a2
   generalize oneV b w1.1 w1.2.1=w2 at b1 b2 ⊢
   refine one_to hb b1 b2 ?_
   obtain⟨c1,c2,_,_⟩:=oneV_ok hb w2.2.1 b1 b2
   generalize oneV b w2.1 w2.2.1=w3 at c1 c2 ⊢
   exact ck_P (ck1 q1 (by decide)) (hnx hpos _ _ _ c1 c2 trivial)
  refine guard_P (fun hpos=>?_) out
  refine jn_P ?_
  refine one_to hb h0 h1 ?_
  obtain⟨a1,a2,_,_⟩:=oneV_ok hb e h0 h1
  generalize oneV b p e=w1 at a1 a2 ⊢
  refine one_to hb a1 a2 ?_
  obtain⟨b1,b2,_,_⟩:=oneV_ok hb w1.2.1 a1 a2
  generalize oneV b w1.1 w1.2.1=w2 at b1 b2 ⊢
  refine jn_P ?_
  refine one_to hb b1 b2 ?_
  obtain⟨c1,c2,c3,c4⟩:=oneV_ok hb w2.2.1 b1 b2
  generalize oneV b w2.1 w2.2.1=w3 at c1 c2 c3 c4 ⊢
  refine row_lp (N:=b.length) goodT c1 c2 c3 c4 ?_
  intro nx2 p2 e2 ts n2 h20 h21 n20 n21 t1 t2 tg hnx2
  have out2:=ck_P (P:=decR b) (ck1 l1 (m:=40) (x:=(⟨⟨w1.2.2,w2.2.2⟩,ts⟩:Part)) (by decide)) (hnx hpos p2 e2 ⟨⟨w1.2.2,w2.2.2⟩,ts⟩ h20 h21 ⟨t1,tg⟩)
  refine guard_P (fun hpos2=>?_) out2
  refine jn_P ?_
  refine one_to hb h20 h21 ?_
  obtain⟨a1,a2,_,_⟩:=oneV_ok hb e2 h20 h21
  generalize oneV b p2 e2=u1 at a1 a2 ⊢
  refine one_to hb a1 a2 ?_
  obtain⟨b1,b2,_,_⟩:=oneV_ok hb u1.2.1 a1 a2
  generalize oneV b u1.1 u1.2.1=u2 at b1 b2 ⊢
  refine one_to hb b1 b2 ?_
  obtain⟨c1,c2,_,_⟩:=oneV_ok hb u2.2.1 b1 b2
  generalize oneV b u2.1 u2.2.1=u3 at c1 c2 ⊢
  refine jn_P ?_
  refine one_to hb c1 c2 ?_
  obtain⟨d1,d2,d3,d4⟩:=oneV_ok hb u3.2.1 c1 c2
  generalize oneV b u3.1 u3.2.1=u4 at d1 d2 d3 d4 ⊢
  refine row_lp (N:=b.length) (fun _=>True) d1 d2 d3 d4 ?_
  intro nx3 p3 e3 ss n3 h30 h31 n30 n31 s1 s2 _ hnx3
  have out3:=ck_P (P:=decR b) (ck1 t1 (m:=48) (x:=(⟨u1.2.2,u2.2.2,u3.2.2,ss⟩:Task)) (by decide)) (hnx2 hpos2 p3 e3 ⟨u1.2.2,u2.2.2,u3.2.2,ss⟩ h30 h31 s1)
  refine guard_P (fun hpos3=>?_) out3
  refine one_to hb h30 h31 ?_
  obtain⟨a1,a2,_,_⟩:=oneV_ok hb e3 h30 h31
  generalize oneV b p3 e3=y1 at a1 a2 ⊢
  refine one_to hb a1 a2 ?_
  obtain⟨b1,b2,_,_⟩:=oneV_ok hb y1.2.1 a1 a2
  generalize oneV b y1.1 y1.2.1=y2 at b1 b2 ⊢
  refine one_to hb b1 b2 ?_
  obtain⟨c1,c2,_,_⟩:=oneV_ok hb y2.2.1 b1 b2
  generalize oneV b y2.1 y2.2.1=y3 at c1 c2 ⊢
  exact ck_P (ck1 s1 (by decide)) (hnx3 hpos3 _ _ _ c1 c2 trivial)
end Go.Proofs.YtldlcdnhdedoeaaGreat
namespace Go.Proofs.YtldlcdnhdedoeaaGreat
open Go Go.VC
noncomputable def ref19_at (a0:List Int) (a1:Int):Option Int:=
 fk (decide (a1≥(a0.length:Int))) (some (0:Int)) (ix a0 a1 fun x1=>some (IntKind.i64.wrap x1))
theorem ref19_at_w (a0:List Int) (a1:Int) (r:Int) (h:ref19_at a0 a1=some r):Go.VC.Spec Tryz.prog 147 [.d (.sl (a0.map (eI .u8))),.d (.int .i64 a1)] (fun y=>y=E_Int r):=by
 refine Spec.of_xc (fn:=Tryz.f147) tab ⟨[(0,[0,1]),(1,[0,1,8]),(2,[4]),(3,[4])],[],[],[]⟩ 14 [.tmp 4] rfl rfl rfl rfl rfl rfl ?_<;>conv=>whnf
 refine lenS a0 (eI .u8) rfl ?_<;>conv=>whnf
 refine fkS h (fun h=>?_) (fun h=>?_)<;>conv=>whnf
 ·exact rt (E:=E_Int) h rfl
 refine ixS (enc:=(eI .u8)) h rfl (fun _=>rfl) (fun x1 h=>?_)<;>conv=>whnf
 exact rt (E:=E_Int) h rfl
end Go.Proofs.YtldlcdnhdedoeaaGreat
namespace Go.Proofs.YtldlcdnhdedoeaaGreat
open Go Go.VC
noncomputable def ref19_Decode (a0:List Int):Option (Config×Int×Int):=
 lp (fun nx1 (v1:Int)=>fk (decide (v1<(3:Int))) (fk (decide (v1≥(a0.length:Int))) (some (⟨[],[]⟩,(a0.length:Int),(8:Int))) (ix a0 v1 fun x2=>ck (decide (0≤v1) && decide (v1<(([(84:Int),(75:Int),(49:Int)]:List Int).length:Int))) (ox ([(84:Int),(75:Int),(49:Int)]:List Int) v1.toNat fun x3=>fk (!decide (x2=x3)) (some (⟨[],[]⟩,v1,(2:Int))) (nx1 (wr (v1+(1:Int))))))) (lp (fun nx4 (v4:(List Part)×Int×Int)=>bnd (ref19_at a0 (3:Int)) fun x5=>fk (decide (v4.2.2<x5)) (fk (decide (v4.2.1>(a0.length:Int))) (some (⟨[],[]⟩,(a0.length:Int),(8:Int))) (bnd (ref19_at a0 v4.2.1) fun x6=>bnd (ref19_at a0 (wr (v4.2.1+(1:Int)))) fun x7=>bnd (ref19_at a0 (wr (v4.2.1+(2:Int)))) fun x8=>lp (fun nx9 (v9:(List Task)×Int×Int)=>fk (decide (v9.2.2<x8)) (bnd (ref19_at a0 v9.2.1) fun x10=>bnd (ref19_at a0 (wr (v9.2.1+(1:Int)))) fun x11=>bnd (ref19_at a0 (wr (v9.2.1+(2:Int)))) fun x12=>bnd (ref19_at a0 (wr (v9.2.1+(3:Int)))) fun x13=>lp (fun nx14 (v14:(List Sec)×Int×Int)=>fk (decide (v14.2.2<x13)) (bnd (ref19_at a0 v14.2.1) fun x15=>bnd (ref19_at a0 (wr (v14.2.1+(1:Int)))) fun x16=>bnd (ref19_at a0 (wr (v14.2.1+(2:Int)))) fun x17=>ck (decide ((v14.1.length+([⟨x15,x16,x17⟩]:List Sec).length)*24≤140737488355328)) (nx14 (v14.1++([⟨x15,x16,x17⟩]:List Sec),(wr (v14.2.1+(3:Int))),(wr (v14.2.2+(1:Int)))))) (ck (decide ((v9.1.length+([⟨x10,x11,x12,v14.1⟩]:List Task).length)*48≤140737488355328)) (nx9 (v9.1++([⟨x10,x11,x12,v14.1⟩]:List Task),v14.2.1,(wr (v9.2.2+(1:Int))))))) FU ([],(wr (v9.2.1+(4:Int))),(0:Int))) (ck (decide ((v4.1.length+([⟨⟨x6,x7⟩,v9.1⟩]:List Part).length)*40≤140737488355328)) (nx4 (v4.1++([⟨⟨x6,x7⟩,v9.1⟩]:List Part),v9.2.1,(wr (v4.2.2+(1:Int))))))) FU ([],(wr (v4.2.1+(3:Int))),(0:Int)))) (bnd (ref19_at a0 v4.2.1) fun x18=>lp (fun nx19 (v19:(List Port)×Int×Int)=>fk (decide (v19.2.2<x18)) (bnd (ref19_at a0 v19.2.1) fun x20=>bnd (ref19_at a0 (wr (v19.2.1+(1:Int)))) fun x21=>bnd (ref19_at a0 (wr (v19.2.1+(2:Int)))) fun x22=>ck (decide ((v19.1.length+([⟨x20,x21,x22⟩]:List Port).length)*24≤140737488355328)) (nx19 (v19.1++([⟨x20,x21,x22⟩]:List Port),(wr (v19.2.1+(3:Int))),(wr (v19.2.2+(1:Int)))))) (fk (decide (v19.2.1>(a0.length:Int))) (some (⟨[],[]⟩,(a0.length:Int),(8:Int))) (fk (decide (v19.2.1<(a0.length:Int))) (some (⟨[],[]⟩,v19.2.1,(2:Int))) (bnd (ref19_Right ⟨v4.1,v19.1⟩) fun x23=>fk (!x23) (some (⟨[],[]⟩,(0:Int),(1:Int))) (some (⟨v4.1,v19.1⟩,(0:Int),(0:Int))))))) FU ([],(wr (v4.2.1+(1:Int))),(0:Int)))) FU ([],(4:Int),(0:Int)))) FU (0:Int)
theorem ref19_Decode_w (a0:List Int) (r:Config×Int×Int) (h:ref19_Decode a0=some r):Go.VC.Spec Tryz.prog 97 [.d (.sl (a0.map (eI .u8)))] (fun y=>y=E_Config_Int_Int r):=by
 refine Spec.of_xc (fn:=Tryz.f97) tab ⟨[(0,[0,2]),(1,[0,2,5]),(2,[0,2,5,6]),(3,[0,2,5,6,20]),(4,[0,2,5,6]),(5,[0,2,5,6,26]),(6,[2,3,4]),(7,[0,2,5,6,38]),(8,[2,3,4]),(9,[0,2,7]),(10,[0,2,7,8]),(11,[0,2,7,8,9]),(12,[0,2,7,8,9,44]),(13,[0,2,7,8,9]),(14,[0,2,7,8,9,50]),(15,[2,3,4]),(16,[0,2,7,8,9,10]),(17,[0,2,7,8,9,10,11]),(18,[0,2,7,8,9,10,11]),(19,[0,2,7,8,9,10,11,12]),(20,[0,2,7,8,9,10,11,12,71]),(21,[0,2,7,8,9,10,11,12]),(22,[0,2,7,8,9,10,11,12,13]),(23,[0,2,7,8,9,10,11,12,13,14]),(24,[0,2,7,8,9,10,11,12,13,14]),(25,[0,2,7,8,9,10,11,12,13,14,15]),(26,[0,2,7,8,9,10,11,12,13,14,15,94]),(27,[0,2,7,8,9,10,11,12,13,14,15]),(28,[0,2,7,8,9,10,11,12,13,14,15]),(29,[0,2,7,8,9,10,11,12,13,14,15]),(30,[0,2,7,8,9,10,11,12]),(31,[0,2,7,8,9]),(32,[0,2,7,8,16]),(33,[0,2,7,8,16]),(34,[0,2,7,8,16,17]),(35,[0,2,7,8,16,17,135]),(36,[0,2,7,8,16,17]),(37,[0,2,7,8,16,17]),(38,[0,2,7,8,16,17]),(39,[0,2,7,8,160]),(40,[2,3,4]),(41,[2,7,8,167]),(42,[2,3,4]),(43,[2,7,172]),(44,[2,3,4]),(45,[2,3,4])],[],[],[(119,[51403]),(125,[51102])]⟩ 175 [.cell 2 25,.tmp 3,.tmp 4] rfl rfl rfl rfl rfl rfl ?_<;>conv=>whnf
 refine liS ([(84:Int),(75:Int),(49:Int)]:List Int) (eI .u8) rfl rfl ?_<;>conv=>whnf
 refine lpS (fun v1=>⟨[(0,.l (.d (.sl (a0.map (eI .u8))))),(2,.l (.ptr 3 0)),(5,.l (.own 6)),(6,lI v1)],175,[],[(3,[.nil,.nil])],[(6,5,1,([(84:Int),(75:Int),(49:Int)]:List Int).map (eI .u8))]⟩) h wR (fun _ nx1 hn1 v1 h=>?_)<;>conv=>whnf
 refine fkS h (fun h=>?_) (fun h=>?_)<;>conv=>whnf
 ·refine lenS a0 (eI .u8) rfl ?_<;>conv=>whnf
  refine fkS h (fun h=>?_) (fun h=>?_)<;>conv=>whnf
  ·refine lenS a0 (eI .u8) rfl ?_<;>conv=>whnf
   exact rt (E:=E_Config_Int_Int) h rfl
  refine⟨8,?_⟩
  conv=>whnf
  refine ixS (enc:=(eI .u8)) h rfl (fun _=>rfl) (fun x2 h=>?_)<;>conv=>whnf
  refine ioS (enc:=(eI .u8)) h rfl (fun h=>?_)<;>conv=>whnf
  refine oxS (enc:=(eI .u8)) h rfl (fun x3 h=>?_)<;>conv=>whnf
  refine drS (by kernel_rfl) ?_<;>conv=>whnf
  refine fkS h (fun h=>?_) (fun h=>?_)<;>conv=>whnf
  ·exact rt (E:=E_Config_Int_Int) h rfl
  exact leS hn1 h wR
 refine lpS (fun v4=>⟨[(0,.l (.d (.sl (a0.map (eI .u8))))),(2,.l (.ptr 3 0)),(7,.l (.ptr 8 0)),(8,lI v4.2.1),(9,lI v4.2.2)],175,[],[(3,[.nil,.nil]),(8,[.own 50800,.nil])],[(50800,57,3,v4.1.map Part.enc)]⟩) h (Weak.trans (Weak.nilBO _ 8 0 50800 57 3 _ rfl rfl) wR) (fun _ nx4 hn4 v4 h=>?_)<;>conv=>whnf
 refine caS (E:=E_Int) h (ref19_at_w a0 (3:Int)) rfl (fun _=>rfl) (fun x5 h=>?_)<;>conv=>whnf
 refine fkS h (fun h=>?_) (fun h=>?_)<;>conv=>whnf
 ·refine lenS a0 (eI .u8) rfl ?_<;>conv=>whnf
  refine fkS h (fun h=>?_) (fun h=>?_)<;>conv=>whnf
  ·refine lenS a0 (eI .u8) rfl ?_<;>conv=>whnf
   exact rt (E:=E_Config_Int_Int) h rfl
  refine caS (E:=E_Int) h (ref19_at_w a0 v4.2.1) rfl (fun _=>rfl) (fun x6 h=>?_)<;>conv=>whnf
  refine caS (E:=E_Int) h (ref19_at_w a0 (wr (v4.2.1+(1:Int)))) rfl (fun _=>rfl) (fun x7 h=>?_)<;>conv=>whnf
  refine caS (E:=E_Int) h (ref19_at_w a0 (wr (v4.2.1+(2:Int)))) rfl (fun _=>rfl) (fun x8 h=>?_)<;>conv=>whnf
  refine lpS (fun v9=>⟨[(0,.l (.d (.sl (a0.map (eI .u8))))),(2,.l (.ptr 3 0)),(7,.l (.ptr 8 0)),(8,lI v9.2.1),(9,lI v4.2.2),(10,.l (.ptr 11 0)),(11,lI x8),(12,lI v9.2.2)],175,[],[(3,[.nil,.nil]),(8,[.own 50800,.nil]),(11,[dI x6,dI x7,.own 51102])],[(50800,57,3,v4.1.map Part.enc),(51102,67,4,v9.1.map Task.enc)]⟩) h (Weak.trans (Weak.nilBO _ 11 2 51102 67 4 _ rfl rfl) wR) (fun _ nx9 hn9 v9 h=>?_)<;>conv=>whnf
  refine fkS h (fun h=>?_) (fun h=>?_)<;>conv=>whnf
  ·refine caS (E:=E_Int) h (ref19_at_w a0 v9.2.1) rfl (fun _=>rfl) (fun x10 h=>?_)<;>conv=>whnf
   refine caS (E:=E_Int) h (ref19_at_w a0 (wr (v9.2.1+(1:Int)))) rfl (fun _=>rfl) (fun x11 h=>?_)<;>conv=>whnf
   refine caS (E:=E_Int) h (ref19_at_w a0 (wr (v9.2.1+(2:Int)))) rfl (fun _=>rfl) (fun x12 h=>?_)<;>conv=>whnf
   refine caS (E:=E_Int) h (ref19_at_w a0 (wr (v9.2.1+(3:Int)))) rfl (fun _=>rfl) (fun x13 h=>?_)<;>conv=>whnf
   refine lpS (fun v14=>⟨[(0,.l (.d (.sl (a0.map (eI .u8))))),(2,.l (.ptr 3 0)),(7,.l (.ptr 8 0)),(8,lI v14.2.1),(9,lI v4.2.2),(10,.l (.ptr 11 0)),(11,lI x8),(12,lI v9.2.2),(13,.l (.ptr 14 0)),(14,lI x13),(15,lI v14.2.2)],175,[],[(3,[.nil,.nil]),(8,[.own 50800,.nil]),(11,[dI x6,dI x7,.own 51102]),(14,[dI x10,dI x11,dI x12,.own 51403])],[(50800,57,3,v4.1.map Part.enc),(51102,67,4,v9.1.map Task.enc),(51403,200,3,v14.1.map Sec.enc)]⟩) h (Weak.trans (Weak.nilBO _ 14 3 51403 200 3 _ rfl rfl) wR) (fun _ nx14 hn14 v14 h=>?_)<;>conv=>whnf
   refine fkS h (fun h=>?_) (fun h=>?_)<;>conv=>whnf
   ·refine⟨15,?_⟩
    conv=>whnf
    refine daS (E:=E_Int) h (ref19_at_w a0 v14.2.1) (fun _=>rfl) (fun x15 h=>?_)<;>conv=>whnf
    refine daS (E:=E_Int) h (ref19_at_w a0 (wr (v14.2.1+(1:Int)))) (fun _=>rfl) (fun x16 h=>?_)<;>conv=>whnf
    refine daS (E:=E_Int) h (ref19_at_w a0 (wr (v14.2.1+(2:Int)))) (fun _=>rfl) (fun x17 h=>?_)<;>conv=>whnf
    refine liS ([⟨x15,x16,x17⟩]:List Sec) Sec.enc rfl rfl ?_<;>conv=>whnf
    refine drS (by kernel_rfl) ?_<;>conv=>whnf
    refine apS (enc:=Sec.enc) (l1:=v14.1) (l2:=([⟨x15,x16,x17⟩]:List Sec)) h rfl rfl (fun _=>rfl) (fun h=>?_)<;>conv=>whnf
    refine leX hn14 h ?_<;>conv=>whnf
    refine WkF.step (Weak.rekey _ 113 51403 rfl) ?_<;>conv=>whnf
    exact WkF.refl _
   refine liS ([⟨x10,x11,x12,v14.1⟩]:List Task) Task.enc rfl rfl ?_<;>conv=>whnf
   refine apS (enc:=Task.enc) (l1:=v9.1) (l2:=([⟨x10,x11,x12,v14.1⟩]:List Task)) h rfl rfl (fun _=>rfl) (fun h=>?_)<;>conv=>whnf
   refine leX hn9 h ?_<;>conv=>whnf
   refine WkF.step (Weak.rekey _ 121 51102 rfl) ?_<;>conv=>whnf
   exact WkF.refl _
  refine liS ([⟨⟨x6,x7⟩,v9.1⟩]:List Part) Part.enc rfl rfl ?_<;>conv=>whnf
  refine apS (enc:=Part.enc) (l1:=v4.1) (l2:=([⟨⟨x6,x7⟩,v9.1⟩]:List Part)) h rfl rfl (fun _=>rfl) (fun h=>?_)<;>conv=>whnf
  refine leX hn4 h ?_<;>conv=>whnf
  refine WkF.step (Weak.rekey _ 127 50800 rfl) ?_<;>conv=>whnf
  exact WkF.refl _
 refine caS (E:=E_Int) h (ref19_at_w a0 v4.2.1) rfl (fun _=>rfl) (fun x18 h=>?_)<;>conv=>whnf
 refine lpS (fun v19=>⟨[(0,.l (.d (.sl (a0.map (eI .u8))))),(2,.l (.ptr 3 0)),(7,.l (.ptr 8 0)),(8,lI v19.2.1),(16,lI x18),(17,lI v19.2.2)],175,[],[(3,[.nil,.nil]),(8,[.own 50800,.own 50801])],[(50800,57,3,v4.1.map Part.enc),(50801,90,3,v19.1.map Port.enc)]⟩) h (Weak.trans (Weak.nilBO _ 8 1 50801 90 3 _ rfl rfl) wR) (fun _ nx19 hn19 v19 h=>?_)<;>conv=>whnf
 refine fkS h (fun h=>?_) (fun h=>?_)<;>conv=>whnf
 ·refine⟨15,?_⟩
  conv=>whnf
  refine daS (E:=E_Int) h (ref19_at_w a0 v19.2.1) (fun _=>rfl) (fun x20 h=>?_)<;>conv=>whnf
  refine daS (E:=E_Int) h (ref19_at_w a0 (wr (v19.2.1+(1:Int)))) (fun _=>rfl) (fun x21 h=>?_)<;>conv=>whnf
  refine daS (E:=E_Int) h (ref19_at_w a0 (wr (v19.2.1+(2:Int)))) (fun _=>rfl) (fun x22 h=>?_)<;>conv=>whnf
  refine liS ([⟨x20,x21,x22⟩]:List Port) Port.enc rfl rfl ?_<;>conv=>whnf
  refine drS (by kernel_rfl) ?_<;>conv=>whnf
  refine apS (enc:=Port.enc) (l1:=v19.1) (l2:=([⟨x20,x21,x22⟩]:List Port)) h rfl rfl (fun _=>rfl) (fun h=>?_)<;>conv=>whnf
  refine leX hn19 h ?_<;>conv=>whnf
  refine WkF.step (Weak.rekey _ 154 50801 rfl) ?_<;>conv=>whnf
  exact WkF.refl _
 refine lenS a0 (eI .u8) rfl ?_<;>conv=>whnf
 refine fkS h (fun h=>?_) (fun h=>?_)<;>conv=>whnf
 ·refine lenS a0 (eI .u8) rfl ?_<;>conv=>whnf
  exact rt (E:=E_Config_Int_Int) h rfl
 refine lenS a0 (eI .u8) rfl ?_<;>conv=>whnf
 refine fkS h (fun h=>?_) (fun h=>?_)<;>conv=>whnf
 ·exact rt (E:=E_Config_Int_Int) h rfl
 refine caS (E:=E_Bool) h (ref19_Right_w ⟨v4.1,v19.1⟩) rfl (fun _=>rfl) (fun x23 h=>?_)<;>conv=>whnf
 refine fkS h (fun h=>?_) (fun h=>?_)<;>conv=>whnf
 ·exact rt (E:=E_Config_Int_Int) h rfl
 exact rt (E:=E_Config_Int_Int) h rfl
end Go.Proofs.YtldlcdnhdedoeaaGreat
namespace Go.Proofs.YtldlcdnhdedoeaaGreat
open Go Go.VC
theorem goodC.conf {c:Config} (h:goodC c):confB c:=⟨by have:=h.1; omega,by have:=h.2.1; omega,fun p hp=>⟨by have:=(h.2.2 p hp).1; omega,fun t ht=>by have:=(h.2.2 p hp).2 t ht; unfold goodT at this; omega⟩⟩
section
variable {R:Type} {P:R→Prop}
def atV (b:List Int) (i:Int):Int:=if i≥(b.length:Int) then 0 else (b[i.toNat]?).getD 0
theorem atV_ok {b:List Int} (hb:bytesP b) (i:Int) (h0:0≤i):0≤atV b i∧atV b i≤255:=by
 unfold atV
 by_cases c:i≥(b.length:Int)
 ·rw[if_pos c]; decide
 ·rw[if_neg c]
  have hp:i.toNat<b.length:=by omega
  rw[List.getElem?_eq_getElem hp]
  exact hb.2 _ (List.getElem_mem hp)
theorem ref19_at_eq {b:List Int} (hb:bytesP b) (i:Int) (h0:0≤i):ref19_at b i=some (atV b i):=by
 unfold ref19_at atV
 by_cases c:i≥(b.length:Int)
 ·rw[decide_eq_true c,fk_t,if_pos c]
 ·have hp:i.toNat<b.length:=by omega
  rw[decide_eq_false c,fk_f,if_neg c,ix_int h0 hp,List.getElem?_eq_getElem hp]
  have:=hb.2 _ (List.getElem_mem hp)
  rw[show IntKind.i64.wrap b[i.toNat]=b[i.toNat] from wr_in _ (by omega)]
  rfl
theorem up_lp {E:Type} {body:(List E×Int×Int→Option R)→List E×Int×Int→Option R} (good:E→Prop) (B:Int) {i0:Int} (hi:0≤i0) (hB:0≤B)
  (step:∀(nx:List E×Int×Int→Option R) (l:List E) (i k:Int),0≤k→k≤255→l.length≤255→(∀x∈l,good x)→i0≤i→i≤i0+B*255→(k<255→∀x i',good x→i≤i'→i'≤i+B→∃r,nx (l++[x],i',wr (k+1))=some r∧P r)→∃r,body nx (l,i,k)=some r∧P r) :
  ∃r,lp body FU ([],i0,(0:Int))=some r∧P r:=by
 refine lp_ex (fun v:List E×Int×Int=>255-v.2.2.toNat) (fun v:List E×Int×Int=>0≤v.2.2∧v.2.2≤255∧(v.1.length:Int)=v.2.2∧(∀x∈v.1,good x)∧i0≤v.2.1∧v.2.1≤i0+B*v.2.2) P ?_ FU _ ⟨Int.le_refl _,by show (0:Int)≤255; decide,rfl,fun x h=>by simp at h,Int.le_refl _,by show i0≤i0+B*0; omega⟩ (by unfold FU; simp only; omega)
 rintro nx ⟨l,i,k⟩ ⟨a1,a2,a3,a4,a5,a6⟩ hnx
 simp only at a1 a2 a3 a4 a5 a6
 have hm:B*k≤B*255:=Int.mul_le_mul_of_nonneg_left a2 hB
 refine step nx l i k a1 a2 (by omega) a4 a5 (by omega) fun hk x i' hx h1 h2=>?_
 rw[wr_in (k+1) (by omega)]
 refine hnx _ ⟨by show 0≤k+1; omega,by show k+1≤255; omega,?_,?_,by show i0≤i'; omega,?_⟩ (by show 255-(k+1).toNat<255-k.toNat; omega)
 ·show ((l++[x]).length:Int)=k+1
  rw[List.length_append]; simp only[List.length_cons,List.length_nil]; omega
 ·intro y hy
  rcases List.mem_append.1 hy with hy | hy
  ·exact a4 y hy
  ·rw[List.mem_singleton.1 hy]; exact hx
 ·show i'≤i0+B*(k+1)
  rw[Int.mul_add,Int.mul_one]; omega
theorem bnd_P {α:Type} {c:Option α} {a:α} {f:α→Option R} (h:c=some a) (k:∃r,f a=some r∧P r):∃r,bnd c f=some r∧P r:=by rw[bnd_eq h]; exact k
end
def refR (r:Config×Int×Int):Prop:=goodC r.1
theorem emptyC:goodC ⟨[],[]⟩:=⟨by simp,by simp,fun p h=>by simp at h⟩
theorem ref19_Decode_ex (b:List Int) (hb:bytesP b):∃r,ref19_Decode b=some r∧refR r:=by
 have hl:=hb.1
 have hat:∀i,0≤i→ref19_at b i=some (atV b i):=fun i h=>ref19_at_eq hb i h
 have hok:∀i,0≤i→0≤atV b i∧atV b i≤255:=fun i h=>atV_ok hb i h
 unfold ref19_Decode
 refine lp_ex (fun v:Int=>3-v.toNat) (fun v:Int=>0≤v∧v≤3) _ ?_ FU _ ⟨Int.le_refl _,by decide⟩ (by unfold FU; simp)
 rintro nx i ⟨h2,h3⟩ hnx
 refine fk_P (fun hi=>?_) (fun _=>?_)
 ·have hi:i<3:=of_decide_eq_true hi
  refine fk_P (fun _=>⟨_,rfl,emptyC⟩) (fun hge=>?_)
  have hge:¬i≥(b.length:Int):=of_decide_eq_false hge
  rw[ix_int h2 (by omega)]
  refine ck_P (by rw[decide_eq_true h2,Bool.true_and]; exact decide_eq_true hi) ?_
  rw[ox_lt (by simp; omega)]
  refine fk_P (fun _=>⟨_,rfl,emptyC⟩) (fun _=>?_)
  rw[wr_in (i+1) (by omega)]
  exact hnx _ ⟨by omega,by omega⟩ (by omega)
 ·refine up_lp goodQ 1000000 (by decide) (by decide) ?_
  intro nx l i k k0 k1 l1 lg i00 i1 hnx
  have i0:0≤i:=by omega
  obtain⟨x0,x1⟩:=hok 3 (by decide)
  refine bnd_P (hat 3 (by decide)) ?_
  refine fk_P (fun hk=>?_) (fun _=>?_)
  ·have hk:k<atV b 3:=of_decide_eq_true hk
   refine fk_P (fun _=>⟨_,rfl,emptyC⟩) (fun _=>?_)
   rw[wr_in (i+1) (by omega),wr_in (i+2) (by omega),wr_in (i+3) (by omega)]
   obtain⟨t0,t1⟩:=hok (i+2) (by omega)
   refine bnd_P (hat i i0) (bnd_P (hat (i+1) (by omega)) (bnd_P (hat (i+2) (by omega)) ?_))
   refine up_lp goodT 1000 (by omega) (by decide) ?_
   intro nx2 ts j m m0 m1 s1 sg j00 j1 hnx2
   have j0:0≤j:=by omega
   refine fk_P (fun hm=>?_) (fun _=>?_)
   ·have hm:m<atV b (i+2):=of_decide_eq_true hm
    rw[wr_in (j+1) (by omega),wr_in (j+2) (by omega),wr_in (j+3) (by omega),wr_in (j+4) (by omega)]
    obtain⟨u0,u1⟩:=hok (j+3) (by omega)
    refine bnd_P (hat j j0) (bnd_P (hat (j+1) (by omega)) (bnd_P (hat (j+2) (by omega)) (bnd_P (hat (j+3) (by omega)) ?_)))
    refine up_lp (fun _=>True) 3 (by omega) (by decide) ?_
    intro nx3 ss y n n0 n1 q1 qg y00 y1 hnx3
    have y0:0≤y:=by omega
    refine fk_P (fun hn=>?_) (fun _=>?_)
    ·have hn:n<atV b (j+3):=of_decide_eq_true hn
     rw[wr_in (y+1) (by omega),wr_in (y+2) (by omega),wr_in (y+3) (by omega)]
     refine bnd_P (hat y y0) (bnd_P (hat (y+1) (by omega)) (bnd_P (hat (y+2) (by omega)) ?_))
     exact ck_P (ck1 q1 (by decide)) (hnx3 (by omega) _ _ trivial (by omega) (by omega))
    ·exact ck_P (ck1 s1 (by decide)) (hnx2 (by omega) _ y q1 (by omega) (by omega))
   ·exact ck_P (ck1 l1 (by decide)) (hnx (by omega) _ j ⟨s1,sg⟩ (by omega) (by omega))
  ·refine bnd_P (hat i i0) ?_
   obtain⟨t0,t1⟩:=hok i i0
   rw[wr_in (i+1) (by omega)]
   refine up_lp (fun _=>True) 3 (by omega) (by decide) ?_
   intro nx3 ss y n n0 n1 q1 qg y00 y1 hnx3
   have y0:0≤y:=by omega
   refine fk_P (fun hn=>?_) (fun _=>?_)
   ·have hn:n<atV b i:=of_decide_eq_true hn
    rw[wr_in (y+1) (by omega),wr_in (y+2) (by omega),wr_in (y+3) (by omega)]
    refine bnd_P (hat y y0) (bnd_P (hat (y+1) (by omega)) (bnd_P (hat (y+2) (by omega)) ?_))
    exact ck_P (ck1 q1 (by decide)) (hnx3 (by omega) _ _ trivial (by omega) (by omega))
   ·refine fk_P (fun _=>⟨_,rfl,emptyC⟩) (fun _=>?_)
    refine fk_P (fun _=>⟨_,rfl,emptyC⟩) (fun _=>?_)
    have hc:goodC ⟨l,ss⟩:=⟨l1,q1,lg⟩
    refine bnd_P (ref19_Right_eq _ hc.conf) ?_
    exact fk_P (fun _=>⟨_,rfl,emptyC⟩) (fun _=>⟨_,rfl,hc⟩)
end Go.Proofs.YtldlcdnhdedoeaaGreat
namespace Go.Proofs.YtldlcdnhdedoeaaGreat
open Go Go.VC
noncomputable def law22_script (a0:List Law21Step):Option (List (List KernelCmd)):=
 lp (fun nx1 (v1:(List (List KernelCmd))×Int)=>fk (decide (v1.2<(a0.length:Int))) (ix a0 v1.2 fun x2=>ck (decide ((v1.1.length+([x2.Cmds]:List (List KernelCmd)).length)*24≤140737488355328)) (nx1 (v1.1++([x2.Cmds]:List (List KernelCmd)),(wr (v1.2+(1:Int)))))) (some v1.1)) FU ([],(0:Int))
theorem law22_script_w (a0:List Law21Step) (r:List (List KernelCmd)) (h:law22_script a0=some r):Go.VC.Spec Tryz.prog 42 [.d (.sl (a0.map Law21Step.enc))] (fun y=>y=E_ListListKernelCmd r):=by
 refine Spec.of_xc (fn:=Tryz.f42) tab ⟨[(0,[0]),(1,[0,3]),(2,[0,3,4]),(3,[0,3,4,8]),(4,[0,3,4]),(5,[0,3,4]),(6,[2])],[],[],[]⟩ 20 [.tmp 2] rfl rfl rfl rfl rfl rfl ?_<;>conv=>whnf
 refine lpS (fun v1=>⟨[(0,.l (.d (.sl (a0.map Law21Step.enc)))),(3,.l (.own 4)),(4,lI v1.2)],20,[],[],[(4,106,1,v1.1.map (eL KernelCmd.enc))]⟩) h (Weak.trans (Weak.nilO _ 3 4 106 1 rfl) wR) (fun _ nx1 hn1 v1 h=>?_)<;>conv=>whnf
 refine lenS a0 Law21Step.enc rfl ?_<;>conv=>whnf
 refine fkS h (fun h=>?_) (fun h=>?_)<;>conv=>whnf
 ·refine ixS (enc:=Law21Step.enc) h rfl (fun _=>rfl) (fun x2 h=>?_)<;>conv=>whnf
  refine liS ([x2.Cmds]:List (List KernelCmd)) (eL KernelCmd.enc) rfl rfl ?_<;>conv=>whnf
  refine apS (enc:=(eL KernelCmd.enc)) (l1:=v1.1) (l2:=([x2.Cmds]:List (List KernelCmd))) h rfl rfl (fun _=>rfl) (fun h=>?_)<;>conv=>whnf
  exact leS hn1 h wR
 exact rt (E:=E_ListListKernelCmd) h rfl
end Go.Proofs.YtldlcdnhdedoeaaGreat
namespace Go.Proofs.YtldlcdnhdedoeaaGreat
open Go Go.VC
theorem map_take_succ {α β:Type} (f:α→β) (x:List α) (k:Nat) (h:k<x.length):(x.take (k+1)).map f=(x.take k).map f++[f x[k]]:=by
 rw[←List.take_append_getElem h,List.map_append]; rfl
theorem map_take_len {α β:Type} (f:α→β) (x:List α) (k:Nat):((x.take k).map f).length≤k:=by rw[List.length_map,List.length_take]; omega
theorem ck_le {α E:Type} {l:List E} {y:E} (z:Nat) {x:Option α} (hz:z≤1000) (hn:l.length≤1000000000):ck (decide ((l.length+([y]:List E).length)*z≤140737488355328)) x=x:=by
 refine ck_t (decide_eq_true ?_)
 simp only[List.length_cons,List.length_nil]
 have:(l.length+(0+1))*z≤1000000001*1000:=Nat.mul_le_mul (by omega) hz
 omega
theorem law22_script_eq (l:List Law21Step) (hl:l.length≤1000000000):law22_script l=some (l.map (·.Cmds)):=by
 unfold law22_script
 refine lp_upS l.length (by unfold FU; omega) (fun k o=>o=(l.take k).map (·.Cmds)) [] rfl ?_
 rintro nx k o hk rfl hnx
 have hk9:k≤1000000000:=by omega
 simp only
 rw[lt_nat]
 by_cases h:k<l.length
 ·rw[decide_eq_true h,fk_t,ix_lt h,ck_le 24 (by decide) (Nat.le_trans (map_take_len _ _ _) hk9),wr_succ k _ h (by omega)]
  exact hnx _ h (map_take_succ _ l k h).symm
 ·rw[decide_eq_false h,fk_f]
  have e:k=l.length:=by omega
  rw[e,List.take_length]
end Go.Proofs.YtldlcdnhdedoeaaGreat
namespace Go.Proofs.YtldlcdnhdedoeaaGreat
open Go Go.VC
noncomputable def world_may (a0:List (List KernelCmd)):Option Bool:=
 lp (fun nx1 (v1:Int)=>fk (decide (v1<(a0.length:Int))) (ix a0 v1 fun x2=>fk (decide ((x2.length:Int)>(100:Int))) (some false) (nx1 (wr (v1+(1:Int))))) (some (decide ((a0.length:Int)≤(3000:Int))))) FU (0:Int)
theorem world_may_w (a0:List (List KernelCmd)) (r:Bool) (h:world_may a0=some r):Go.VC.Spec Tryz.prog 98 [.d (.sl (a0.map (eL KernelCmd.enc)))] (fun y=>y=E_Bool r):=by
 refine Spec.of_xc (fn:=Tryz.f98) tab ⟨[(0,[0]),(1,[0,5,6,7]),(2,[0,5,6,7,8]),(3,[0,4,5,6,7]),(4,[0,5,6,7,13]),(5,[2]),(6,[0,5,6,7]),(7,[2])],[],[],[]⟩ 18 [.tmp 2] rfl rfl rfl rfl rfl rfl ?_<;>conv=>whnf
 refine lenS a0 (eL KernelCmd.enc) rfl ?_<;>conv=>whnf
 refine lpS (fun v1=>⟨[(0,.l (.d (.sl (a0.map (eL KernelCmd.enc))))),(5,.l (.d (.sl (a0.map (eL KernelCmd.enc))))),(6,lI (a0.length:Int)),(7,lI v1)],18,[],[],[]⟩) h wR (fun _ nx1 hn1 v1 h=>?_)<;>conv=>whnf
 refine fkS h (fun h=>?_) (fun h=>?_)<;>conv=>whnf
 ·refine ixS (enc:=(eL KernelCmd.enc)) h rfl (fun _=>rfl) (fun x2 h=>?_)<;>conv=>whnf
  refine lenS x2 KernelCmd.enc rfl ?_<;>conv=>whnf
  refine fkS h (fun h=>?_) (fun h=>?_)<;>conv=>whnf
  ·exact rt (E:=E_Bool) h rfl
  exact leS hn1 h wR
 refine lenS a0 (eL KernelCmd.enc) rfl ?_<;>conv=>whnf
 exact rt (E:=E_Bool) h rfl
end Go.Proofs.YtldlcdnhdedoeaaGreat
