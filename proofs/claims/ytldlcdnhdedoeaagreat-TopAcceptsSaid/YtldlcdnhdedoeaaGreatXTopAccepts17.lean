/- It is proved that the law TopAccepts returns true at every input that the row lets in; there is no condition beside the row's own. -/
import Derived.Test.YtldlcdnhdedoeaaGreatXTopAccepts8
import Derived.Test.YtldlcdnhdedoeaaGreatXTopAccepts10
import Derived.Test.YtldlcdnhdedoeaaGreatXTopAccepts0
import Derived.KernelRfl
import Derived.Test.YtldlcdnhdedoeaaGreatXTopAccepts9
import Derived.Test.YtldlcdnhdedoeaaGreatXTopAccepts11
import Derived.Test.YtldlcdnhdedoeaaGreatXTopAccepts12
import Derived.Test.YtldlcdnhdedoeaaGreatXTopAccepts13
import Derived.Test.YtldlcdnhdedoeaaGreatXTopAccepts14
import Derived.Test.YtldlcdnhdedoeaaGreatXTopAccepts15
import Derived.Test.YtldlcdnhdedoeaaGreatXTopAccepts16
import Derived.Test.YtldlcdnhdedoeaaGreatRows
set_option linter.unusedVariables false
set_option linter.unusedSimpArgs false
set_option maxRecDepth 100000
set_option maxHeartbeats 40000000
set_option maxRecDepth 1000000
set_option maxHeartbeats 4000000
namespace Go.Proofs.YtldlcdnhdedoeaaGreat
open Go Go.VC
noncomputable def top_works  : Option Bool:=
  bnd (world_Play ([(84:Int),(75:Int),(49:Int),(1:Int),(2:Int),(1:Int),(1:Int),(1:Int),(4:Int),(4:Int),(0:Int),(0:Int)]:List Int) ([([⟨(0:Int),(1:Int),(0:Int),(1:Int),⟨(0:Int),(0:Int),(0:Int),[]⟩⟩]:List KernelCmd),([]:List KernelCmd)]:List (List KernelCmd))) fun x1=>bnd (world_Play ([(84:Int),(75:Int),(49:Int),(1:Int),(2:Int),(1:Int),(1:Int),(3:Int),(4:Int),(4:Int),(0:Int),(0:Int)]:List Int) []) fun x2=>fk (decide (x1.2=(0:Int))) (fk (decide ((x1.1.length:Int)=(1:Int))) (ix x1.1 (0:Int) fun x3=>fk (decide ((x3.Log.length:Int)=(2:Int))) (ix x1.1 (0:Int) fun x4=>ix x4.Log (1:Int) fun x5=>fk (eqI [.i .i64 x5.At,.i .i64 x5.Kind,.i .i64 x5.Task] [.i .i64 (0:Int),.i .i64 (4:Int),.i .i64 (0:Int)]) (some (decide (x2.2=(7:Int)))) (some false)) (some false)) (some false)) (some false)
theorem top_works_w  (r:Bool) (h:top_works=some r):Go.VC.Spec Tryz.prog 50 [] (fun y=>y=E_Bool r):=by
  refine Go.VC.Spec.of_xc (args:=[]) (fn:=Tryz.f50) tab ⟨[(0,[]),(1,[1,2]),(2,[1,2,4]),(3,[0])],[],[],[(11,[10,11])]⟩ 50 [.tmp 0] rfl rfl rfl rfl rfl rfl ?_
  conv=>whnf
  refine liS ([(84:Int),(75:Int),(49:Int),(1:Int),(2:Int),(1:Int),(1:Int),(1:Int),(4:Int),(4:Int),(0:Int),(0:Int)]:List Int) (eI .u8) rfl rfl ?_
  conv=>whnf
  refine cvM rfl rfl rfl rfl rfl Tryz.underlying97 Tryz.underlying5 ?_
  conv=>whnf
  refine liS ([⟨(0:Int),(1:Int),(0:Int),(1:Int),⟨(0:Int),(0:Int),(0:Int),[]⟩⟩]:List KernelCmd) KernelCmd.enc rfl rfl ?_
  conv=>whnf
  refine liS ([]:List KernelCmd) KernelCmd.enc rfl rfl ?_
  conv=>whnf
  refine liS ([([⟨(0:Int),(1:Int),(0:Int),(1:Int),⟨(0:Int),(0:Int),(0:Int),[]⟩⟩]:List KernelCmd),([]:List KernelCmd)]:List (List KernelCmd)) (eL KernelCmd.enc) rfl rfl ?_
  conv=>whnf
  refine iceS 7 ?_
  conv=>whnf
  refine iceS 12 ?_
  conv=>whnf
  refine ccS (E:=E_ListWorldView_Int) h (world_Play_w ([(84:Int),(75:Int),(49:Int),(1:Int),(2:Int),(1:Int),(1:Int),(1:Int),(4:Int),(4:Int),(0:Int),(0:Int)]:List Int) ([([⟨(0:Int),(1:Int),(0:Int),(1:Int),⟨(0:Int),(0:Int),(0:Int),[]⟩⟩]:List KernelCmd),([]:List KernelCmd)]:List (List KernelCmd))) rfl rfl (fun x1 h=>?_)
  conv=>whnf
  refine liS ([(84:Int),(75:Int),(49:Int),(1:Int),(2:Int),(1:Int),(1:Int),(3:Int),(4:Int),(4:Int),(0:Int),(0:Int)]:List Int) (eI .u8) rfl rfl ?_
  conv=>whnf
  refine cvM rfl rfl rfl rfl rfl Tryz.underlying97 Tryz.underlying5 ?_
  conv=>whnf
  refine iceS 17 ?_
  conv=>whnf
  refine ccS (E:=E_ListWorldView_Int) h (world_Play_w ([(84:Int),(75:Int),(49:Int),(1:Int),(2:Int),(1:Int),(1:Int),(3:Int),(4:Int),(4:Int),(0:Int),(0:Int)]:List Int) []) rfl rfl (fun x2 h=>?_)
  conv=>whnf
  refine fkS h (fun h=>?_) (fun h=>?_)
  · conv=>whnf
    refine lenS x1.1 WorldView.enc rfl ?_
    conv=>whnf
    refine fkS h (fun h=>?_) (fun h=>?_)
    · conv=>whnf
      refine ixS (enc:=WorldView.enc) h rfl (fun _=>rfl) (fun x3 h=>?_)
      conv=>whnf
      refine lenS x3.Log Entry.enc rfl ?_
      conv=>whnf
      refine fkS h (fun h=>?_) (fun h=>?_)
      · conv=>whnf
        refine ixS (enc:=WorldView.enc) h rfl (fun _=>rfl) (fun x4 h=>?_)
        conv=>whnf
        refine ixS (enc:=Entry.enc) h rfl (fun _=>rfl) (fun x5 h=>?_)
        conv=>whnf
        refine fkS h (fun h=>?_) (fun h=>?_)
        · conv=>whnf
          exact rt (E:=E_Bool) h rfl
        conv=>whnf
        exact rt (E:=E_Bool) h rfl
      conv=>whnf
      exact rt (E:=E_Bool) h rfl
    conv=>whnf
    exact rt (E:=E_Bool) h rfl
  conv=>whnf
  exact rt (E:=E_Bool) h rfl

end Go.Proofs.YtldlcdnhdedoeaaGreat
namespace Go.Proofs.YtldlcdnhdedoeaaGreat
open Go Go.VC
theorem top_works_eq:top_works=some true:=by kernel_rfl
end Go.Proofs.YtldlcdnhdedoeaaGreat
namespace Go.Proofs.YtldlcdnhdedoeaaGreat
open Go Go.VC
noncomputable def top_TopAccepts (a0:Int) (a1:Int):Option Bool:=
  ck (decide ((50:Int)≠0)) (bnd (image_Encode (⟨([⟨⟨(2:Int),(1:Int)⟩,([⟨(wr ((1:Int)+((IntKind.i64.wrap a0).tmod (50:Int)))),(wr ((4:Int)*(wr ((1:Int)+((IntKind.i64.wrap a0).tmod (50:Int)))))),(wr ((4:Int)*(wr ((1:Int)+((IntKind.i64.wrap a0).tmod (50:Int)))))),[]⟩]:List Task)⟩,⟨⟨(2:Int),(1:Int)⟩,([⟨(wr ((1:Int)+((IntKind.i64.wrap a0).tmod (50:Int)))),(wr ((4:Int)*(wr ((1:Int)+((IntKind.i64.wrap a0).tmod (50:Int)))))),(wr ((4:Int)*(wr ((1:Int)+((IntKind.i64.wrap a0).tmod (50:Int)))))),[]⟩]:List Task)⟩]:List Part),[]⟩)) fun x1=>lp (fun nx2 (v2:(List (List KernelCmd))×Int)=>ck (decide ((200:Int)≠0)) (fk (decide (v2.2<((IntKind.i64.wrap a1).tmod (200:Int)))) (ck (decide ((v2.1.length+([([⟨(0:Int),(1:Int),(0:Int),(wr ((1:Int)+((IntKind.i64.wrap a0).tmod (50:Int)))),⟨(0:Int),(0:Int),(0:Int),[]⟩⟩,⟨(1:Int),(1:Int),(0:Int),(wr ((1:Int)+((IntKind.i64.wrap a0).tmod (50:Int)))),⟨(0:Int),(0:Int),(0:Int),[]⟩⟩]:List KernelCmd)]:List (List KernelCmd)).length)*24≤140737488355328)) (nx2 (v2.1++([([⟨(0:Int),(1:Int),(0:Int),(wr ((1:Int)+((IntKind.i64.wrap a0).tmod (50:Int)))),⟨(0:Int),(0:Int),(0:Int),[]⟩⟩,⟨(1:Int),(1:Int),(0:Int),(wr ((1:Int)+((IntKind.i64.wrap a0).tmod (50:Int)))),⟨(0:Int),(0:Int),(0:Int),[]⟩⟩]:List KernelCmd)]:List (List KernelCmd)),(wr (v2.2+(1:Int)))))) (bnd (world_Play x1.1 v2.1) fun x3=>jn (fun (w4:Bool)=>fk w4 (some false) (lp (fun nx5 (v5:Int)=>fk (decide (v5<(2:Int))) (lp (fun nx6 (v6:Int×Int×Int)=>ix x3.1 v5 fun x7=>fk (decide (v6.2.2<(x7.Log.length:Int))) (jn (fun (w8:Int×Int)=>nx6 (w8.1,w8.2,(wr (v6.2.2+(1:Int))))) (fun k8=>jn (fun (w9:Int)=>ix x3.1 v5 fun x12=>ix x12.Log v6.2.2 fun x13=>fk (decide (x13.Kind=(4:Int))) (k8 (w9,(wr (v6.2.1+(1:Int))))) (k8 (w9,v6.2.1))) (fun k9=>ix x3.1 v5 fun x10=>ix x10.Log v6.2.2 fun x11=>fk (decide (x11.Kind=(1:Int))) (k9 (wr (v6.1+(1:Int)))) (k9 v6.1)))) (jn (fun (w14:Bool)=>fk w14 (some false) (nx5 (wr (v5+(1:Int))))) (fun k14=>ck (decide ((wr ((4:Int)*(wr ((1:Int)+((IntKind.i64.wrap a0).tmod (50:Int))))))≠0)) (fk (!decide (v6.1=(wr ((wr ((wr ((v2.1.length:Int)+(wr ((4:Int)*(wr ((1:Int)+((IntKind.i64.wrap a0).tmod (50:Int))))))))-(1:Int))).tdiv (wr ((4:Int)*(wr ((1:Int)+((IntKind.i64.wrap a0).tmod (50:Int)))))))))) (k14 true) (fk (decide (v6.2.1>v6.1)) (k14 true) (k14 (decide (v6.2.1<(wr (v6.1-(1:Int))))))))))) FU ((0:Int),(0:Int),(0:Int))) (bnd top_works fun x15=>some x15)) FU (0:Int))) (fun k4=>fk (!decide (x1.2=(0:Int))) (k4 true) (fk (!decide (x3.2=(0:Int))) (k4 true) (k4 (!decide ((x3.1.length:Int)=(2:Int))))))))) FU ([],(0:Int)))
theorem top_TopAccepts_w (a0:Int) (a1:Int) (r:Bool) (h:top_TopAccepts a0 a1=some r):Go.VC.Spec Tryz.prog 11 [.d (.int .u8 a0),.d (.int .u8 a1)] (fun y=>y=E_Bool r):=by
  refine Go.VC.Spec.of_xc (args:=[.d (.int .u8 a0),.d (.int .u8 a1)]) (fn:=Tryz.f11) tab ⟨[(0,[0,1]),(1,[1,5]),(2,[1,5,6]),(3,[1,5,7,8]),(4,[1,5,7,8,9]),(5,[1,5,7,8,9,10]),(6,[1,5,7,8,9,10,42]),(7,[1,5,7,8,9,10]),(8,[1,5,7,8,9,10]),(9,[5,8,9,11,12]),(10,[5,9,11,69]),(11,[4]),(12,[5,9,11,13]),(13,[5,9,11,13,71]),(14,[5,9,11,13]),(15,[5,9,11,13,14,15]),(16,[5,9,11,13,14,15,16]),(17,[5,9,11,13,14,15,16,81]),(18,[5,9,11,13,14,15,16]),(19,[5,9,11,13,14,15,16,93]),(20,[5,9,11,13,14,15,16]),(21,[5,9,11,13,14,15,16,105]),(22,[5,9,11,13,14,15,16]),(23,[5,9,11,13,129]),(24,[4]),(25,[4])],[],[100069,21,18,100129],[(33,[29]),(51,[51])]⟩ 131 [.tmp 4] rfl rfl rfl rfl rfl rfl ?_
  conv=>whnf
  refine dvS h (fun h=>?_)
  conv=>whnf
  refine liS ([⟨(wr ((1:Int)+((IntKind.i64.wrap a0).tmod (50:Int)))),(wr ((4:Int)*(wr ((1:Int)+((IntKind.i64.wrap a0).tmod (50:Int)))))),(wr ((4:Int)*(wr ((1:Int)+((IntKind.i64.wrap a0).tmod (50:Int)))))),[]⟩]:List Task) Task.enc rfl rfl ?_
  conv=>whnf
  refine liS ([⟨⟨(2:Int),(1:Int)⟩,([⟨(wr ((1:Int)+((IntKind.i64.wrap a0).tmod (50:Int)))),(wr ((4:Int)*(wr ((1:Int)+((IntKind.i64.wrap a0).tmod (50:Int)))))),(wr ((4:Int)*(wr ((1:Int)+((IntKind.i64.wrap a0).tmod (50:Int)))))),[]⟩]:List Task)⟩,⟨⟨(2:Int),(1:Int)⟩,([⟨(wr ((1:Int)+((IntKind.i64.wrap a0).tmod (50:Int)))),(wr ((4:Int)*(wr ((1:Int)+((IntKind.i64.wrap a0).tmod (50:Int)))))),(wr ((4:Int)*(wr ((1:Int)+((IntKind.i64.wrap a0).tmod (50:Int)))))),[]⟩]:List Task)⟩]:List Part) Part.enc rfl rfl ?_
  conv=>whnf
  refine iceS 34 ?_
  conv=>whnf
  refine ccS (E:=E_ListIntu8_Int) h (image_Encode_w (⟨([⟨⟨(2:Int),(1:Int)⟩,([⟨(wr ((1:Int)+((IntKind.i64.wrap a0).tmod (50:Int)))),(wr ((4:Int)*(wr ((1:Int)+((IntKind.i64.wrap a0).tmod (50:Int)))))),(wr ((4:Int)*(wr ((1:Int)+((IntKind.i64.wrap a0).tmod (50:Int)))))),[]⟩]:List Task)⟩,⟨⟨(2:Int),(1:Int)⟩,([⟨(wr ((1:Int)+((IntKind.i64.wrap a0).tmod (50:Int)))),(wr ((4:Int)*(wr ((1:Int)+((IntKind.i64.wrap a0).tmod (50:Int)))))),(wr ((4:Int)*(wr ((1:Int)+((IntKind.i64.wrap a0).tmod (50:Int)))))),[]⟩]:List Task)⟩]:List Part),[]⟩)) rfl rfl (fun x1 h=>?_)
  conv=>whnf
  refine lpS (fun v2=>⟨[(1,.l (.d (.int .u8 a1))),(5,.l (.d (.int .i64 (wr ((1:Int)+((IntKind.i64.wrap a0).tmod (50:Int))))))),(7,.l (.d (.sl (x1.1.map (eI .u8))))),(8,.l (.d (.int .i64 x1.2))),(9,.l (.own 10)),(10,.l (.d (.int .i64 v2.2)))],131,[],[],[(10,106,1,v2.1.map (eL KernelCmd.enc))]⟩) h (Weak.trans (Weak.nilO _ 9 10 106 1 rfl) (Weak.refl _)) (fun _ nx2 hn2 v2 h=>?_)
  conv=>whnf
  refine dvS h (fun h=>?_)
  conv=>whnf
  refine fkS h (fun h=>?_) (fun h=>?_)
  · conv=>whnf
    refine liS ([⟨(0:Int),(1:Int),(0:Int),(wr ((1:Int)+((IntKind.i64.wrap a0).tmod (50:Int)))),⟨(0:Int),(0:Int),(0:Int),[]⟩⟩,⟨(1:Int),(1:Int),(0:Int),(wr ((1:Int)+((IntKind.i64.wrap a0).tmod (50:Int)))),⟨(0:Int),(0:Int),(0:Int),[]⟩⟩]:List KernelCmd) KernelCmd.enc rfl rfl ?_
    conv=>whnf
    refine liS ([([⟨(0:Int),(1:Int),(0:Int),(wr ((1:Int)+((IntKind.i64.wrap a0).tmod (50:Int)))),⟨(0:Int),(0:Int),(0:Int),[]⟩⟩,⟨(1:Int),(1:Int),(0:Int),(wr ((1:Int)+((IntKind.i64.wrap a0).tmod (50:Int)))),⟨(0:Int),(0:Int),(0:Int),[]⟩⟩]:List KernelCmd)]:List (List KernelCmd)) (eL KernelCmd.enc) rfl rfl ?_
    conv=>whnf
    refine apS (enc:=(eL KernelCmd.enc)) (l1:=v2.1) (l2:=([([⟨(0:Int),(1:Int),(0:Int),(wr ((1:Int)+((IntKind.i64.wrap a0).tmod (50:Int)))),⟨(0:Int),(0:Int),(0:Int),[]⟩⟩,⟨(1:Int),(1:Int),(0:Int),(wr ((1:Int)+((IntKind.i64.wrap a0).tmod (50:Int)))),⟨(0:Int),(0:Int),(0:Int),[]⟩⟩]:List KernelCmd)]:List (List KernelCmd))) h rfl rfl (fun _=>rfl) (fun h=>?_)
    conv=>whnf
    exact leS hn2 h (Weak.refl _)
  conv=>whnf
  refine iceS 10 ?_
  conv=>whnf
  refine ccS (E:=E_ListWorldView_Int) h (world_Play_w x1.1 v2.1) rfl rfl (fun x3 h=>?_)
  conv=>whnf
  refine jnS (fun w4=>⟨[(5,.l (.d (.int .i64 (wr ((1:Int)+((IntKind.i64.wrap a0).tmod (50:Int))))))),(9,.l (.d (.sl (v2.1.map (eL KernelCmd.enc))))),(11,.l (.d (.sl (x3.1.map WorldView.enc)))),(69,.l (.d (.bool w4)))],131,[],[],[]⟩) h (fun k4 hk4 h=>?_) (fun w4 h=>?_)
  · conv=>whnf
    refine fkS h (fun h=>?_) (fun h=>?_)
    · conv=>whnf
      exact jeS hk4 h (Weak.refl _)
    conv=>whnf
    refine fkS h (fun h=>?_) (fun h=>?_)
    · conv=>whnf
      exact jeS hk4 h (Weak.refl _)
    conv=>whnf
    refine lenS x3.1 WorldView.enc rfl ?_
    conv=>whnf
    exact jeS hk4 h (Weak.refl _)
  conv=>whnf
  refine fkS h (fun h=>?_) (fun h=>?_)
  · conv=>whnf
    exact rt (E:=E_Bool) h rfl
  conv=>whnf
  refine lpS (fun v5=>⟨[(5,.l (.d (.int .i64 (wr ((1:Int)+((IntKind.i64.wrap a0).tmod (50:Int))))))),(9,.l (.d (.sl (v2.1.map (eL KernelCmd.enc))))),(11,.l (.d (.sl (x3.1.map WorldView.enc)))),(13,.l (.d (.int .i64 v5)))],131,[],[],[]⟩) h (Weak.refl _) (fun _ nx5 hn5 v5 h=>?_)
  conv=>whnf
  refine fkS h (fun h=>?_) (fun h=>?_)
  · conv=>whnf
    refine lpS (fun v6=>⟨[(5,.l (.d (.int .i64 (wr ((1:Int)+((IntKind.i64.wrap a0).tmod (50:Int))))))),(9,.l (.d (.sl (v2.1.map (eL KernelCmd.enc))))),(11,.l (.d (.sl (x3.1.map WorldView.enc)))),(13,.l (.d (.int .i64 v5))),(14,.l (.d (.int .i64 v6.1))),(15,.l (.d (.int .i64 v6.2.1))),(16,.l (.d (.int .i64 v6.2.2)))],131,[],[],[]⟩) h (Weak.refl _) (fun _ nx6 hn6 v6 h=>?_)
    conv=>whnf
    refine ixS (enc:=WorldView.enc) h rfl (fun _=>rfl) (fun x7 h=>?_)
    conv=>whnf
    refine lenS x7.Log Entry.enc rfl ?_
    conv=>whnf
    refine fkS h (fun h=>?_) (fun h=>?_)
    · conv=>whnf
      refine jnS (fun w8=>⟨[(5,.l (.d (.int .i64 (wr ((1:Int)+((IntKind.i64.wrap a0).tmod (50:Int))))))),(9,.l (.d (.sl (v2.1.map (eL KernelCmd.enc))))),(11,.l (.d (.sl (x3.1.map WorldView.enc)))),(13,.l (.d (.int .i64 v5))),(14,.l (.d (.int .i64 w8.1))),(15,.l (.d (.int .i64 w8.2))),(16,.l (.d (.int .i64 v6.2.2)))],131,[],[],[]⟩) h (fun k8 hk8 h=>?_) (fun w8 h=>?_)
      · conv=>whnf
        refine jnS (fun w9=>⟨[(5,.l (.d (.int .i64 (wr ((1:Int)+((IntKind.i64.wrap a0).tmod (50:Int))))))),(9,.l (.d (.sl (v2.1.map (eL KernelCmd.enc))))),(11,.l (.d (.sl (x3.1.map WorldView.enc)))),(13,.l (.d (.int .i64 v5))),(14,.l (.d (.int .i64 w9))),(15,.l (.d (.int .i64 v6.2.1))),(16,.l (.d (.int .i64 v6.2.2)))],131,[],[],[]⟩) h (fun k9 hk9 h=>?_) (fun w9 h=>?_)
        · conv=>whnf
          refine ixS (enc:=WorldView.enc) h rfl (fun _=>rfl) (fun x10 h=>?_)
          conv=>whnf
          refine ixS (enc:=Entry.enc) h rfl (fun _=>rfl) (fun x11 h=>?_)
          conv=>whnf
          refine fkS h (fun h=>?_) (fun h=>?_)
          · conv=>whnf
            exact jeS hk9 h (Weak.refl _)
          conv=>whnf
          refine jeX hk9 h ?_
          conv=>whnf
          refine WkF.step (Weak.keepS _ [5,9,11,13,14,15,16]) ?_
          conv=>whnf
          exact WkF.refl _
        conv=>whnf
        refine ixS (enc:=WorldView.enc) h rfl (fun _=>rfl) (fun x12 h=>?_)
        conv=>whnf
        refine ixS (enc:=Entry.enc) h rfl (fun _=>rfl) (fun x13 h=>?_)
        conv=>whnf
        refine fkS h (fun h=>?_) (fun h=>?_)
        · conv=>whnf
          exact jeS hk8 h (Weak.refl _)
        conv=>whnf
        refine jeX hk8 h ?_
        conv=>whnf
        refine WkF.step (Weak.keepS _ [5,9,11,13,14,15,16]) ?_
        conv=>whnf
        exact WkF.refl _
      conv=>whnf
      exact leS hn6 h (Weak.refl _)
    conv=>whnf
    refine jnS (fun w14=>⟨[(5,.l (.d (.int .i64 (wr ((1:Int)+((IntKind.i64.wrap a0).tmod (50:Int))))))),(9,.l (.d (.sl (v2.1.map (eL KernelCmd.enc))))),(11,.l (.d (.sl (x3.1.map WorldView.enc)))),(13,.l (.d (.int .i64 v5))),(129,.l (.d (.bool w14)))],131,[],[],[]⟩) h (fun k14 hk14 h=>?_) (fun w14 h=>?_)
    · conv=>whnf
      refine lenS v2.1 (eL KernelCmd.enc) rfl ?_
      conv=>whnf
      refine dvS h (fun h=>?_)
      conv=>whnf
      refine fkS h (fun h=>?_) (fun h=>?_)
      · conv=>whnf
        exact jeS hk14 h (Weak.refl _)
      conv=>whnf
      refine fkS h (fun h=>?_) (fun h=>?_)
      · conv=>whnf
        exact jeS hk14 h (Weak.refl _)
      conv=>whnf
      exact jeS hk14 h (Weak.refl _)
    conv=>whnf
    refine fkS h (fun h=>?_) (fun h=>?_)
    · conv=>whnf
      exact rt (E:=E_Bool) h rfl
    conv=>whnf
    exact leS hn5 h (Weak.refl _)
  conv=>whnf
  refine caS (E:=E_Bool) h top_works_w rfl (fun _=>rfl) (fun x15 h=>?_)
  conv=>whnf
  exact rt (E:=E_Bool) h rfl

end Go.Proofs.YtldlcdnhdedoeaaGreat
namespace Go.Proofs.YtldlcdnhdedoeaaGreat
open Go Go.VC
def PureTopAccepts:Prop:=∀(a0:Int) (a1:Int),wfI .u8 a0→wfI .u8 a1→top_TopAccepts a0 a1=some true
end Go.Proofs.YtldlcdnhdedoeaaGreat
namespace Go.Proofs.YtldlcdnhdedoeaaGreat
open Go Go.VC
theorem chk_all {n:Int} (h1:1≤n) (h2:n≤50):aChk n=true:=by
  obtain⟨m,rfl⟩:∃m:Nat,n=(m:Int):=⟨n.toNat,by omega⟩
  have hm:1≤m:=by omega
  have hm2:m≤50:=by omega
  match m,hm,hm2 with
  | 1,_,_=>exact chk1
  | 2,_,_=>exact chk2
  | 3,_,_=>exact chk3
  | 4,_,_=>exact chk4
  | 5,_,_=>exact chk5
  | 6,_,_=>exact chk6
  | 7,_,_=>exact chk7
  | 8,_,_=>exact chk8
  | 9,_,_=>exact chk9
  | 10,_,_=>exact chk10
  | 11,_,_=>exact chk11
  | 12,_,_=>exact chk12
  | 13,_,_=>exact chk13
  | 14,_,_=>exact chk14
  | 15,_,_=>exact chk15
  | 16,_,_=>exact chk16
  | 17,_,_=>exact chk17
  | 18,_,_=>exact chk18
  | 19,_,_=>exact chk19
  | 20,_,_=>exact chk20
  | 21,_,_=>exact chk21
  | 22,_,_=>exact chk22
  | 23,_,_=>exact chk23
  | 24,_,_=>exact chk24
  | 25,_,_=>exact chk25
  | 26,_,_=>exact chk26
  | 27,_,_=>exact chk27
  | 28,_,_=>exact chk28
  | 29,_,_=>exact chk29
  | 30,_,_=>exact chk30
  | 31,_,_=>exact chk31
  | 32,_,_=>exact chk32
  | 33,_,_=>exact chk33
  | 34,_,_=>exact chk34
  | 35,_,_=>exact chk35
  | 36,_,_=>exact chk36
  | 37,_,_=>exact chk37
  | 38,_,_=>exact chk38
  | 39,_,_=>exact chk39
  | 40,_,_=>exact chk40
  | 41,_,_=>exact chk41
  | 42,_,_=>exact chk42
  | 43,_,_=>exact chk43
  | 44,_,_=>exact chk44
  | 45,_,_=>exact chk45
  | 46,_,_=>exact chk46
  | 47,_,_=>exact chk47
  | 48,_,_=>exact chk48
  | 49,_,_=>exact chk49
  | 50,_,_=>exact chk50
theorem aCfg_ok (n:Int):confB (aCfg n):=⟨by show (2:Nat)≤_; omega,by show (0:Nat)≤_; omega,fun p hp=>by
  have:p=⟨⟨2,1⟩,[aTask n]⟩:=by
    rcases List.mem_cons.1 hp with h | h
    · exact h
    · exact List.mem_singleton.1 h
  subst this
  refine⟨by show (1:Nat)≤_; omega,fun t ht=>?_⟩
  have:t=aTask n:=List.mem_singleton.1 ht
  subst this
  show (0:Nat)≤_; omega⟩
theorem proofTopAccepts:PureTopAccepts:=by
  intro a0 a1 h0 h1
  have b0:=wfI_8 h0
  have b1:=wfI_8 h1
  have e0:IntKind.i64.wrap a0=a0:=wr_in a0 (by omega)
  have e1:IntKind.i64.wrap a1=a1:=wr_in a1 (by omega)
  unfold top_TopAccepts
  rw[ck_t (by decide),e0,e1]
  obtain⟨m,hm,hm2⟩:∃m:Nat,a0.tmod 50=(m:Int)∧m<50:=⟨a0.toNat%50,by
    rw[Int.tmod_eq_emod_of_nonneg (by omega)]
    conv=>lhs; rw[show a0=((a0.toNat:Nat):Int) by omega]
    rfl,Nat.mod_lt _ (by omega)⟩
  obtain⟨T,hT,hT2⟩:∃T:Nat,a1.tmod 200=(T:Int)∧T<200:=⟨a1.toNat%200,by
    rw[Int.tmod_eq_emod_of_nonneg (by omega)]
    conv=>lhs; rw[show a1=((a1.toNat:Nat):Int) by omega]
    rfl,Nat.mod_lt _ (by omega)⟩
  rw[hm,hT]
  have en:wr ((1:Int)+(m:Int))=1+(m:Int):=wr_in _ (by omega)
  have en4:wr ((4:Int)*(1+(m:Int)))=4*(1+(m:Int)):=wr_in _ (by omega)
  rw[en,en4]
  have n1:1≤1+(m:Int):=by omega
  have n2:1+(m:Int)≤50:=by omega
  generalize 1+(m:Int)=n at n1 n2 ⊢
  obtain⟨b,hE,⟨i,hD⟩,s,hB,hL⟩:=aChk_is (chk_all n1 n2)
  have hk:kP s∧s.Now=0:=by
    rcases boot_k (aCfg n) (aCfg_ok n) with ⟨e,he,k1⟩ | ⟨s',k1,hs,h0⟩
    · rw[hB] at k1
      have:=congrArg (fun x:Option (KernelState×Int)=>(x.map (·.2))) k1
      simp at this
      exact absurd this.symm he
    · rw[hB] at k1
      have:=congrArg (fun x:Option (KernelState×Int)=>(x.map (·.1))) k1
      simp at this
      rw[this]; exact⟨hs,h0⟩
  obtain⟨hs,h0⟩:=hk
  show bnd (image_Encode (aCfg n)) _=_
  rw[bnd_eq hE]
  refine lp_upS T (by unfold FU; omega) (fun k o=>o=List.replicate k [aAsk 0 n,aAsk 1 n]) [] rfl ?_
  rintro nx k o hk rfl hnx
  dsimp only
  rw[ck_t (by decide),lt_nat]
  by_cases c:k<T
  · rw[decide_eq_true c,fk_t,ck_t (by simp; omega),wr_succ k _ c (by omega)]
    refine hnx _ c ?_
    rw[List.replicate_succ']; rfl
  have ek:k=T:=by omega
  subst ek
  rw[decide_eq_false c,fk_f]
  clear hnx nx hk c
  have hlen:(List.replicate k [aAsk 0 n,aAsk 1 n]).length=k:=List.length_replicate
  have hget:∀t,t<k→(List.replicate k [aAsk 0 n,aAsk 1 n]).getD t []=[aAsk 0 n,aAsk 1 n]:=fun t ht=>by
    rw[List.getD_eq_getElem?_getD,List.getElem?_replicate,if_pos ht]; rfl
  have hrun:=aRun_play hs h0 (List.replicate k [aAsk 0 n,aAsk 1 n]) (by rw[hlen]; exact hget) hL k (by omega) (by omega)
  obtain⟨v,w,hV,gv,gw⟩:=aGood_views (x:=playK s (List.replicate k [aAsk 0 n,aAsk 1 n]) k) (aLoop_good hrun)
  have hP:=world_Play_ok (script:=List.replicate k [aAsk 0 n,aAsk 1 n]) hD rfl hB hs h0 (by rw[hlen]; omega) (fun x hx=>by rw[List.eq_of_mem_replicate hx]; show (2:Nat)≤10; omega)
  rw[hlen,hV] at hP
  have hvl:∀x∈[v,w],x.Log.length≤4611686018427387904∧aGoodL n (k:Int) x.Log=true:=by
    have kp:=(playK_ok hs (List.replicate k [aAsk 0 n,aAsk 1 n]) h0 k (by omega)).1
    have hll:∀x∈viewsL (playK s (List.replicate k [aAsk 0 n,aAsk 1 n]) k),x.Log.length≤4611686018427387904:=by
      intro x hx
      obtain⟨i,hi,rfl⟩:=List.mem_map.1 hx
      show ((_:Option PartState).getD emptyP).Log.length≤_
      cases e:(playK s (List.replicate k [aAsk 0 n,aAsk 1 n]) k).s.Parts[i]? with
      | none=>exact Nat.zero_le _
      | some P=>have:=(kp.parts P (List.mem_of_getElem? e)).1.2.2.2; show P.Log.length≤_; omega
    rw[hV] at hll
    intro x hx
    refine⟨hll x hx,?_⟩
    rcases List.mem_cons.1 hx with h | h
    · rw[h]; exact gv
    · rw[List.mem_singleton.1 h]; exact gw
  show bnd (world_Play b (List.replicate k [aAsk 0 n,aAsk 1 n])) _=_
  rw[bnd_eq hP]
  refine jn_to false (fun k4=>by
    dsimp only
    rw[decide_eq_true rfl,Bool.not_true,fk_f,fk_f]
    rfl) ?_
  rw[fk_f]
  generalize hVV:[v,w]=V at hvl
  have hVl:V.length=2:=by rw[←hVV]; rfl
  clear hP hV hVV gv gw
  refine lp_up 2 (by unfold FU; omega) (fun _=>True) trivial ?_
  intro nx j hj _ hnx
  by_cases cj:j<2
  rotate_left
  · rw[decide_eq_false (by omega),fk_f,bnd_eq top_works_eq]
  have hjl:j<V.length:=by omega
  rw[decide_eq_true (by omega),fk_t]
  have hA:∀{β:Type} (f:WorldView→Option β),ix V (j:Int) f=f V[j]:=fun f=>ix_lt hjl
  obtain⟨hLl,hG⟩:=hvl _ (List.getElem_mem hjl)
  dsimp only
  simp only[hA]
  generalize V[j].Log=L at hLl hG ⊢
  unfold aGoodL at hG
  rw[Bool.and_eq_true,Bool.and_eq_true,decide_eq_true_eq,decide_eq_true_eq,decide_eq_true_eq] at hG
  obtain⟨⟨g1,g2⟩,g3⟩:=hG
  refine aCount_lp L hLl (fun nx2=>?_) (fun nx2 a b q hq a0 a1 b0 b1 hn2=>?_)
  · dsimp only
    have hlen2:((List.replicate k [aAsk 0 n,aAsk 1 n]).length:Int)=(k:Int):=by rw[hlen]
    have e3:wr (wr ((k:Int)+4*n)-1)=(k:Int)+4*n-1:=by rw[wr_in ((k:Int)+4*n) (by omega),wr_in _ (by omega)]
    have e4:((k:Int)+4*n-1).tdiv (4*n)=((k:Int)+4*n-1)/(4*n):=Int.tdiv_eq_ediv_of_nonneg (by omega)
    have hrb:((k:Int)+4*n-1)/(4*n)≤(k:Int)+4*n-1:=Int.ediv_le_self _ (by omega)
    have hr0:(aRel L:Int)≤1000:=by omega
    rw[decide_eq_false (by omega),fk_f]
    refine jn_to false (fun k14=>?_) ?_
    · rw[ck_t (decide_eq_true (by omega)),hlen2,e3,e4,←g1,wr_in ((aRel L:Nat):Int) (by omega),decide_eq_true rfl,Bool.not_true,fk_f,decide_eq_false (by omega),fk_f,wr_in ((aRel L:Int)-1) (by omega),decide_eq_false (by omega)]
    · rw[fk_f,wr_succ j _ cj (by omega)]
      exact hnx cj trivial
  · dsimp only
    rw[lt_nat,decide_eq_true hq,fk_t,jn_eq,jn_eq]
    have hq2:∀{β:Type} (f:Entry→Option β),ix L (q:Int) f=f L[q]:=fun f=>ix_lt hq
    simp only[hq2]
    have hle:q≤4611686018427387904:=by omega
    rw[wr_succ q _ hq (by omega)]
    by_cases c1:L[q].Kind=1
    · have c4:¬L[q].Kind=4:=by omega
      rw[if_pos c1,if_neg c4,Int.add_zero] at hn2
      rw[decide_eq_true c1,fk_t,decide_eq_false c4,fk_f,wr_in (a+1) (by omega)]
      exact hn2
    · rw[if_neg c1,Int.add_zero] at hn2
      rw[decide_eq_false c1,fk_f]
      by_cases c4:L[q].Kind=4
      · rw[if_pos c4] at hn2
        rw[decide_eq_true c4,fk_t,wr_in (b+1) (by omega)]
        exact hn2
      · rw[if_neg c4,Int.add_zero] at hn2
        rw[decide_eq_false c4,fk_f]
        exact hn2
end Go.Proofs.YtldlcdnhdedoeaaGreat
namespace Go.Proofs.YtldlcdnhdedoeaaGreat.topAccepts
open Go Go.VC Go.ChangeShapes Go.WideShapes Go.ChangeAt Go.RowKit
theorem own:ownKnob Tryz.prog.godebug=none:=by kernel_rfl
theorem laidOut:laidOutB Tryz.prog=true:=by kernel_rfl
theorem lifted (os:Os) (started:os.Started) (H:Type) (enc:TypeId×Value→H) :
    ReturnsInHanded {} Tryz.checked os 11 .any (Rows.topAcceptsSpec.pre6 enc Tryz.prog Tryz.f11 Rows.topAcceptsRow.domain false) (Rows.topAcceptsSpec.post enc Tryz.prog Tryz.f11 false true false false):=by
  refine returnsInHanded_of_change_sized (C:=Tryz.checked) own started (by kernel_rfl) Tryz.func11
    (ChangeSpec.witness6 (enc:=enc) (C:=Tryz.checked) false ⟨#[],#[.int .u8 0,.int .u8 0],[]⟩ 8 (by kernel_rfl) (by kernel_rfl) (by kernel_rfl) (by kernel_rfl)) ?_
  intro W base args ds gs before hval0 hW hcnd hsz0 _
  have hsz:(DataW.weightsEach Tryz.prog (Tryz.f11.params.toList++Rows.topAcceptsSpec.plain.varTypes Tryz.prog) (ds++gs)).all (·≤reachBytes)=true:=hsz0
  have hval:∀(j:Nat) t v,Tryz.f11.params[j]?=some t→args[j]?=some v→Value.okWide Tryz.prog W .any base t v:=hval0
  have hW':=hW
  obtain⟨p,q,hA0,hV,rfl,hfz,hnd⟩:=hW
  have hA:DataW.TrodAll enc Tryz.prog W 0 (fun _=>true) true Tryz.f11.params.toList args.toList ds p:=hA0
  rw[Tryz.params11] at hA hval hsz
  obtain⟨v0,vs0,d0,ds0,p0,q0,hargs,rfl,rfl,h0,r0⟩:=trodAll_cons hA
  obtain⟨v1,vs1,d1,ds1,p1,q1,rfl,rfl,rfl,h1,r1⟩:=trodAll_cons r0
  obtain⟨rfl,rfl,rfl⟩:=trodAll_nil r1
  obtain rfl:args=#[v0,v1]:=by cases args; simp_all
  obtain⟨rfl,rfl⟩:=trodVars_none hV
  have lt0:∀x∈p0,x.block<W.heap.size:=by obtain⟨m,hm⟩:=h0; exact DataW.trod_lt m _ _ _ hm
  have wt0:∀k∈d0.weights Tryz.prog 5,k≤BB:=fun k hk=>of_decide_eq_true (List.all_eq_true.1 hsz _ (DataW.weights_mem_each (j:=0) rfl rfl k hk))
  obtain⟨c0,s0,g0⟩:=open_cv tab (m:=8) (t:=5) rfl (hval 0 5 v0 rfl rfl) h0 wt0
  have g0:=g0 _ T5
  obtain⟨a0,rfl,w0⟩:=(s0.i T5)
  have lt1:∀x∈p1,x.block<W.heap.size:=by obtain⟨m,hm⟩:=h1; exact DataW.trod_lt m _ _ _ hm
  have wt1:∀k∈d1.weights Tryz.prog 5,k≤BB:=fun k hk=>of_decide_eq_true (List.all_eq_true.1 hsz _ (DataW.weights_mem_each (j:=1) rfl rfl k hk))
  obtain⟨c1,s1,g1⟩:=open_cv tab (m:=8) (t:=5) rfl (hval 1 5 v1 rfl rfl) h1 wt1
  have g1:=g1 _ T5
  obtain⟨a1,rfl,w1⟩:=(s1.i T5)
  clear hA0 hval0 hsz0 hsz
  have pure:=proofTopAccepts a0 a1 w0 w1
  refine ((top_TopAccepts_w a0 a1 true pure).2 W (pw W) [v0,v1] (fun _ h=>h) (All2.cons g0 (All2.cons g1 All2.nil))).mono fun e W' ⟨v,rs,p',he,hR,hrep,bel,_⟩=>?_
  subst hR he
  obtain rfl:=RepD_bool hrep
  exact⟨_,rfl,_,_,_,[],_,[],hW',trodAll_mk1 (shut_bool Tryz.underlying4 _),(trodAll_cons_mk (Below.trod laidOut (by kernel_rfl) (of_decide_eq_true (by kernel_rfl)) h0 bel lt0) (trodAll_cons_mk (Below.trod laidOut (by kernel_rfl) (of_decide_eq_true (by kernel_rfl)) h1 bel lt1) trodAll_mk0)),rfl,bel.frame _,fun h=>by cases h⟩
theorem over:Rows.topAcceptsRow.holds Tryz.pinned (OpenSpec.ofChange Rows.topAcceptsSpec):=
  OpenClaim.holds_of_wide 11 Tryz.f11 rfl rfl rfl rfl rfl rfl rfl ⟨rfl,rfl,rfl,rfl,rfl⟩ rfl rfl rfl rfl rfl (by kernel_rfl) Tryz.func11 (by kernel_rfl)
    (of_decide_eq_true (by kernel_rfl)) (by unfold Func.isWrapper; first | (rw[if_pos (by decide +kernel)]; kernel_rfl) | (rw[if_neg (by decide +kernel)]; exact⟨rfl,rfl⟩))
    (fun os started H enc _=>lifted os started H enc)
end Go.Proofs.YtldlcdnhdedoeaaGreat.topAccepts
namespace Go.Proofs.YtldlcdnhdedoeaaGreat
theorem topAccepts_holds:Rows.TopAcceptsSaid:=topAccepts.over
end Go.Proofs.YtldlcdnhdedoeaaGreat
