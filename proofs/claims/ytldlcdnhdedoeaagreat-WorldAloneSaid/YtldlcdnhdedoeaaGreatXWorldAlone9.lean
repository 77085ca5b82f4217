/- Part 20 of what follows is proved here: what the statement WorldAlone needs of functions and plain laws. -/
import Derived.Test.YtldlcdnhdedoeaaGreatXWorldAlone7
import Derived.Test.YtldlcdnhdedoeaaGreatXWorldAlone8
set_option linter.unusedVariables false
set_option linter.unusedSimpArgs false
set_option maxRecDepth 100000
set_option maxHeartbeats 40000000
namespace Go.Proofs.YtldlcdnhdedoeaaGreat
open Go Go.VC
noncomputable def synth_Lay (a0:List Face):Option ((List Int)×Int):=
 bnd (synth_Frame a0) fun x1=>fk (!decide (x1.2=(0:Int))) (some ([],x1.2)) (ck (decide ((0:Int)≤(a0.length:Int)) && decide ((a0.length:Int)*((8:Nat):Int)≤140737488355328) && decide ((a0.length:Int)≤1000000000000)) (lp (fun nx2 (v2:(List Int)×(List Int)×Int)=>fk (decide (v2.2.2<x1.1)) (lp (fun nx3 (v3:(List Int)×Int)=>fk (decide (v3.2<(a0.length:Int))) (jn (fun (w4:List Int)=>nx3 (w4,(wr (v3.2+(1:Int))))) (fun k4=>ix a0 v3.2 fun x5=>ck (decide (x5.P≠0)) (fk (!decide ((v2.2.2.tmod x5.P)=(0:Int))) (k4 v3.1) (ck (decide (0≤v3.2) && decide (v3.2<(v3.1.length:Int))) (ox v3.1 v3.2.toNat fun x6=>fk (decide (x6>(0:Int))) (some ([],(7:Int))) (ck (decide (0≤v3.2) && decide (v3.2<(v3.1.length:Int))) (ox v3.1 v3.2.toNat fun x7=>k4 (v3.1.set v3.2.toNat x5.B)))))))) (lp (fun nx8 (v8:Int×Int×Int)=>fk (decide (v8.2.2<(a0.length:Int))) (jn (fun (w9:Int×Int)=>nx8 (w9.1,w9.2,(wr (v8.2.2+(1:Int))))) (fun k9=>ix a0 v8.2.2 fun x10=>ck (decide (x10.P≠0)) (jn (fun (w11:Bool)=>fk w11 (k9 (v8.2.2,(wr ((wr (v2.2.2-(v2.2.2.tmod x10.P)))+x10.P)))) (k9 (v8.1,v8.2.1))) (fun k11=>ck (decide (0≤v8.2.2) && decide (v8.2.2<(v3.1.length:Int))) (ox v3.1 v8.2.2.toNat fun x12=>fk (decide (x12>(0:Int))) (fk (decide (v8.1=(-1:Int))) (k11 true) (k11 (decide ((wr ((wr (v2.2.2-(v2.2.2.tmod x10.P)))+x10.P))<v8.2.1)))) (k11 false)))))) (fk (!decide (v8.1=(-1:Int))) (ck (decide (0≤v8.1) && decide (v8.1<(v3.1.length:Int))) (ox v3.1 v8.1.toNat fun x13=>ck (decide (0≤v8.1) && decide (v8.1<(v3.1.length:Int))) (ox v3.1 v8.1.toNat fun x14=>ck (decide ((v2.1.length+([v8.1]:List Int).length)*8≤140737488355328)) (nx2 (v2.1++([v8.1]:List Int),v3.1.set v8.1.toNat (wr (x13-(1:Int))),(wr (v2.2.2+(1:Int)))))))) (ck (decide ((v2.1.length+([v8.1]:List Int).length)*8≤140737488355328)) (nx2 (v2.1++([v8.1]:List Int),v3.1,(wr (v2.2.2+(1:Int)))))))) FU ((-1:Int),(0:Int),(0:Int)))) FU (v2.2.1,(0:Int))) (lp (fun nx15 (v15:(List Int)×Int)=>fk (decide (v15.2<(a0.length:Int))) (jn (fun (w16:List Int)=>nx15 (w16,(wr (v15.2+(1:Int))))) (fun k16=>ix a0 v15.2 fun x17=>ck (decide (x17.P≠0)) (fk (!decide ((x1.1.tmod x17.P)=(0:Int))) (k16 v15.1) (ck (decide (0≤v15.2) && decide (v15.2<(v15.1.length:Int))) (ox v15.1 v15.2.toNat fun x18=>fk (decide (x18>(0:Int))) (some ([],(7:Int))) (ck (decide (0≤v15.2) && decide (v15.2<(v15.1.length:Int))) (ox v15.1 v15.2.toNat fun x19=>k16 (v15.1.set v15.2.toNat x17.B)))))))) (some (v2.1,(0:Int)))) FU (v2.2.1,(0:Int)))) FU ([],List.replicate (a0.length:Int).toNat ((0:Int):Int),(0:Int))))
theorem synth_Lay_w (a0:List Face) (r:(List Int)×Int) (h:synth_Lay a0=some r):Go.VC.Spec Tryz.prog 113 [.d (.sl (a0.map Face.enc))] (fun y=>y=E_ListInt_Int r):=by
 refine Go.VC.Spec.of_xc (args:=[.d (.sl (a0.map Face.enc))]) (fn:=Tryz.f113) tab ⟨[(0,[0]),(1,[0,4,5]),(2,[0,4,5,17]),(3,[2,3]),(4,[4,6]),(5,[4,7,8]),(6,[4,7,8,9]),(7,[4,7,8,9,29,30]),(8,[4,7,8,9,29,30,31]),(9,[4,7,8,9,10,29,30]),(10,[4,7,8,9,10,29,30,36]),(11,[2,3]),(12,[4,7,8,9,29,30]),(13,[4,7,8,9,29,30]),(14,[9,47]),(15,[2,3]),(16,[2,3])],[],[],[]⟩ 49 [.tmp 2,.tmp 3] rfl rfl rfl rfl rfl rfl ?_
 conv=>whnf
 refine caS (E:=E_Int_Int) h (synth_Frame_w a0) rfl (fun _=>rfl) (fun x1 h=>?_)
 conv=>whnf
 refine fkS h (fun h=>?_) (fun h=>?_)
 ·conv=>whnf
  exact rt (E:=E_ListInt_Int) h rfl
 conv=>whnf
 refine lenS a0 Face.enc rfl ?_
 conv=>whnf
 refine mkS ((0:Int):Int) (eI .i64) h rfl rfl (fun h=>?_)
 conv=>whnf
 refine lpS (fun v2=>⟨[(4,.l (.d (.int .i64 x1.1))),(7,.l (.mfn 152 25)),(8,.l (.mfn 153 25)),(9,.l (.own 10)),(29,.l (.d (.int .i64 x1.1))),(30,.l (.d (.int .i64 v2.2.2)))],49,[],[(25,[.d (.sl (a0.map Face.enc)),.own 23])],[(10,3,1,v2.1.map (eI .i64)),(23,3,1,v2.2.1.map (eI .i64))]⟩) h (Weak.trans (Weak.nilO _ 9 10 3 1 rfl) (Weak.refl _)) (fun _ nx2 hn2 v2 h=>?_)
 conv=>whnf
 refine fkS h (fun h=>?_) (fun h=>?_)
 ·conv=>whnf
  refine inS (fn:=Tryz.f152) tab ⟨[(0,[0,1]),(1,[0,1,10,11,12]),(2,[0,1,10,11,12,13]),(3,[0,1,5,6,10,11,12]),(4,[0,1,5,6,10,11,12,21]),(5,[0,1,5,6,10,11,12,29]),(6,[4]),(7,[0,1,10,11,12]),(8,[0,1,10,11,12]),(9,[4])],[],[8],[]⟩ 39 [.tmp 4] rfl rfl rfl rfl rfl rfl ?_
  conv=>whnf
  refine lenS a0 Face.enc rfl ?_
  conv=>whnf
  refine lpS (fun v3=>⟨[(0,.l (.ptr 25 0)),(1,.l (.d (.int .i64 v2.2.2))),(10,.l (.d (.sl (a0.map Face.enc)))),(11,.l (.d (.int .i64 (a0.length:Int)))),(12,.l (.d (.int .i64 v3.2)))],39,[⟨[(34,.l (.d (.int .i64 v2.2.2))),(33,.l (.mfn 152 25)),(4,.l (.d (.int .i64 x1.1))),(7,.l (.mfn 152 25)),(8,.l (.mfn 153 25)),(9,.l (.own 10)),(10,.l (.d (.int .i64 v2.2.2))),(29,.l (.d (.int .i64 x1.1))),(30,.l (.d (.int .i64 v2.2.2)))],49⟩],[(25,[.d (.sl (a0.map Face.enc)),.own 23])],[(10,3,1,v2.1.map (eI .i64)),(23,3,1,v3.1.map (eI .i64))]⟩) h (Weak.refl _) (fun _ nx3 hn3 v3 h=>?_)
  conv=>whnf
  refine fkS h (fun h=>?_) (fun h=>?_)
  ·conv=>whnf
   refine jnS (fun w4=>⟨[(0,.l (.ptr 25 0)),(1,.l (.d (.int .i64 v2.2.2))),(10,.l (.d (.sl (a0.map Face.enc)))),(11,.l (.d (.int .i64 (a0.length:Int)))),(12,.l (.d (.int .i64 v3.2)))],39,[⟨[(34,.l (.d (.int .i64 v2.2.2))),(33,.l (.mfn 152 25)),(4,.l (.d (.int .i64 x1.1))),(7,.l (.mfn 152 25)),(8,.l (.mfn 153 25)),(9,.l (.own 10)),(10,.l (.d (.int .i64 v2.2.2))),(29,.l (.d (.int .i64 x1.1))),(30,.l (.d (.int .i64 v2.2.2)))],49⟩],[(25,[.d (.sl (a0.map Face.enc)),.own 23])],[(10,3,1,v2.1.map (eI .i64)),(23,3,1,w4.map (eI .i64))]⟩) h (fun k4 hk4 h=>?_) (fun w4 h=>?_)
   ·conv=>whnf
    refine ixS (enc:=Face.enc) h rfl (fun _=>rfl) (fun x5 h=>?_)
    conv=>whnf
    refine dvS h (fun h=>?_)
    conv=>whnf
    refine fkS h (fun h=>?_) (fun h=>?_)
    ·conv=>whnf
     refine jeX hk4 h ?_
     conv=>whnf
     refine WkF.step (Weak.keepS _ [0,1,10,11,12]) ?_
     conv=>whnf
     exact WkF.refl _
    conv=>whnf
    refine ioS (enc:=(eI .i64)) h rfl (fun h=>?_)
    conv=>whnf
    refine oxS (enc:=(eI .i64)) h rfl (fun x6 h=>?_)
    conv=>whnf
    refine fkS h (fun h=>?_) (fun h=>?_)
    ·conv=>whnf
     exact rt (E:=E_ListInt_Int) h rfl
    conv=>whnf
    refine⟨7,?_⟩
    conv=>whnf
    refine drS (by kernel_rfl) ?_
    conv=>whnf
    refine ioS (enc:=(eI .i64)) h rfl (fun h=>?_)
    conv=>whnf
    refine seS (enc:=(eI .i64)) h rfl (fun x7=>x5.B) (fun _=>rfl) (fun x7 h=>?_)
    conv=>whnf
    exact jeS hk4 h (Weak.refl _)
   conv=>whnf
   exact leS hn3 h (Weak.refl _)
  conv=>whnf
  refine inS (fn:=Tryz.f153) tab ⟨[(0,[0,1]),(1,[0,1,5,6]),(2,[0,1,5,6,13,14,15]),(3,[0,1,5,6,13,14,15,16]),(4,[0,1,5,6,7,8,13,14,15]),(5,[0,1,5,6,7,9,13,14,15]),(6,[0,1,5,6,7,9,13,14,15,45]),(7,[0,1,5,6,13,14,15]),(8,[0,1,5,6,13,14,15]),(9,[0,5,50]),(10,[5]),(11,[4])],[],[100045,8],[]⟩ 61 [.tmp 4] rfl rfl rfl rfl rfl rfl ?_
  conv=>whnf
  refine lenS a0 Face.enc rfl ?_
  conv=>whnf
  refine lpS (fun v8=>⟨[(0,.l (.ptr 25 0)),(1,.l (.d (.int .i64 v2.2.2))),(5,.l (.d (.int .i64 v8.1))),(6,.l (.d (.int .i64 v8.2.1))),(13,.l (.d (.sl (a0.map Face.enc)))),(14,.l (.d (.int .i64 (a0.length:Int)))),(15,.l (.d (.int .i64 v8.2.2)))],61,[⟨[(39,.l (.d (.int .i64 v2.2.2))),(38,.l (.mfn 153 25)),(37,.l (.own 10)),(36,.l (.d (.bool false))),(4,.l (.d (.int .i64 x1.1))),(7,.l (.mfn 152 25)),(8,.l (.mfn 153 25)),(9,.l (.own 10)),(10,.l (.d (.int .i64 v2.2.2))),(29,.l (.d (.int .i64 x1.1))),(30,.l (.d (.int .i64 v2.2.2))),(36,.l (.d (.bool false)))],49⟩],[(25,[.d (.sl (a0.map Face.enc)),.own 23])],[(10,3,1,v2.1.map (eI .i64)),(23,3,1,v3.1.map (eI .i64))]⟩) h (Weak.refl _) (fun _ nx8 hn8 v8 h=>?_)
  conv=>whnf
  refine fkS h (fun h=>?_) (fun h=>?_)
  ·conv=>whnf
   refine jnS (fun w9=>⟨[(0,.l (.ptr 25 0)),(1,.l (.d (.int .i64 v2.2.2))),(5,.l (.d (.int .i64 w9.1))),(6,.l (.d (.int .i64 w9.2))),(13,.l (.d (.sl (a0.map Face.enc)))),(14,.l (.d (.int .i64 (a0.length:Int)))),(15,.l (.d (.int .i64 v8.2.2)))],61,[⟨[(39,.l (.d (.int .i64 v2.2.2))),(38,.l (.mfn 153 25)),(37,.l (.own 10)),(36,.l (.d (.bool false))),(4,.l (.d (.int .i64 x1.1))),(7,.l (.mfn 152 25)),(8,.l (.mfn 153 25)),(9,.l (.own 10)),(10,.l (.d (.int .i64 v2.2.2))),(29,.l (.d (.int .i64 x1.1))),(30,.l (.d (.int .i64 v2.2.2))),(36,.l (.d (.bool false)))],49⟩],[(25,[.d (.sl (a0.map Face.enc)),.own 23])],[(10,3,1,v2.1.map (eI .i64)),(23,3,1,v3.1.map (eI .i64))]⟩) h (fun k9 hk9 h=>?_) (fun w9 h=>?_)
   ·conv=>whnf
    refine ixS (enc:=Face.enc) h rfl (fun _=>rfl) (fun x10 h=>?_)
    conv=>whnf
    refine⟨8,?_⟩
    conv=>whnf
    refine dvS h (fun h=>?_)
    conv=>whnf
    refine drS (by kernel_rfl) ?_
    conv=>whnf
    refine jnS (fun w11=>⟨[(0,.l (.ptr 25 0)),(1,.l (.d (.int .i64 v2.2.2))),(5,.l (.d (.int .i64 v8.1))),(6,.l (.d (.int .i64 v8.2.1))),(7,.l (.d (.int .i64 v8.2.2))),(9,.l (.d (.int .i64 (wr ((wr (v2.2.2-(v2.2.2.tmod x10.P)))+x10.P))))),(13,.l (.d (.sl (a0.map Face.enc)))),(14,.l (.d (.int .i64 (a0.length:Int)))),(15,.l (.d (.int .i64 v8.2.2))),(45,.l (.d (.bool w11)))],61,[⟨[(39,.l (.d (.int .i64 v2.2.2))),(38,.l (.mfn 153 25)),(37,.l (.own 10)),(36,.l (.d (.bool false))),(4,.l (.d (.int .i64 x1.1))),(7,.l (.mfn 152 25)),(8,.l (.mfn 153 25)),(9,.l (.own 10)),(10,.l (.d (.int .i64 v2.2.2))),(29,.l (.d (.int .i64 x1.1))),(30,.l (.d (.int .i64 v2.2.2))),(36,.l (.d (.bool false)))],49⟩],[(25,[.d (.sl (a0.map Face.enc)),.own 23])],[(10,3,1,v2.1.map (eI .i64)),(23,3,1,v3.1.map (eI .i64))]⟩) h (fun k11 hk11 h=>?_) (fun w11 h=>?_)
    ·conv=>whnf
     refine ioS (enc:=(eI .i64)) h rfl (fun h=>?_)
     conv=>whnf
     refine oxS (enc:=(eI .i64)) h rfl (fun x12 h=>?_)
     conv=>whnf
     refine fkS h (fun h=>?_) (fun h=>?_)
     ·conv=>whnf
      refine fkS h (fun h=>?_) (fun h=>?_)
      ·conv=>whnf
       exact jeS hk11 h (Weak.refl _)
      conv=>whnf
      exact jeS hk11 h (Weak.refl _)
     conv=>whnf
     exact jeS hk11 h (Weak.refl _)
    conv=>whnf
    refine fkS h (fun h=>?_) (fun h=>?_)
    ·conv=>whnf
     exact jeS hk9 h (Weak.refl _)
    conv=>whnf
    refine jeX hk9 h ?_
    conv=>whnf
    refine WkF.step (Weak.keepS _ [0,1,5,6,13,14,15]) ?_
    conv=>whnf
    exact WkF.refl _
   conv=>whnf
   exact leS hn8 h (Weak.refl _)
  conv=>whnf
  refine fkS h (fun h=>?_) (fun h=>?_)
  ·conv=>whnf
   refine ioS (enc:=(eI .i64)) h rfl (fun h=>?_)
   conv=>whnf
   refine oxS (enc:=(eI .i64)) h rfl (fun x13 h=>?_)
   conv=>whnf
   refine ioS (enc:=(eI .i64)) h rfl (fun h=>?_)
   conv=>whnf
   refine seS (enc:=(eI .i64)) h rfl (fun x14=>(wr (x13-(1:Int)))) (fun _=>rfl) (fun x14 h=>?_)
   conv=>whnf
   refine liS ([v8.1]:List Int) (eI .i64) rfl rfl ?_
   conv=>whnf
   refine apS (enc:=(eI .i64)) (l1:=v2.1) (l2:=([v8.1]:List Int)) h rfl rfl (fun _=>rfl) (fun h=>?_)
   conv=>whnf
   exact leS hn2 h (Weak.refl _)
  conv=>whnf
  refine liS ([v8.1]:List Int) (eI .i64) rfl rfl ?_
  conv=>whnf
  refine apS (enc:=(eI .i64)) (l1:=v2.1) (l2:=([v8.1]:List Int)) h rfl rfl (fun _=>rfl) (fun h=>?_)
  conv=>whnf
  exact leS hn2 h (Weak.refl _)
 conv=>whnf
 refine inS (fn:=Tryz.f152) tab ⟨[(0,[0,1]),(1,[0,1,10,11,12]),(2,[0,1,10,11,12,13]),(3,[0,1,5,6,10,11,12]),(4,[0,1,5,6,10,11,12,21]),(5,[0,1,5,6,10,11,12,29]),(6,[4]),(7,[0,1,10,11,12]),(8,[0,1,10,11,12]),(9,[4])],[],[8],[]⟩ 39 [.tmp 4] rfl rfl rfl rfl rfl rfl ?_
 conv=>whnf
 refine lenS a0 Face.enc rfl ?_
 conv=>whnf
 refine lpS (fun v15=>⟨[(0,.l (.ptr 25 0)),(1,.l (.d (.int .i64 x1.1))),(10,.l (.d (.sl (a0.map Face.enc)))),(11,.l (.d (.int .i64 (a0.length:Int)))),(12,.l (.d (.int .i64 v15.2)))],39,[⟨[(45,.l (.d (.int .i64 x1.1))),(44,.l (.mfn 152 25)),(31,.l (.d (.bool false))),(4,.l (.d (.int .i64 x1.1))),(7,.l (.mfn 152 25)),(8,.l (.mfn 153 25)),(9,.l (.own 10)),(29,.l (.d (.int .i64 x1.1))),(30,.l (.d (.int .i64 v2.2.2))),(31,.l (.d (.bool (decide (v2.2.2<x1.1)))))],49⟩],[(25,[.d (.sl (a0.map Face.enc)),.own 23])],[(10,3,1,v2.1.map (eI .i64)),(23,3,1,v15.1.map (eI .i64))]⟩) h (Weak.refl _) (fun _ nx15 hn15 v15 h=>?_)
 conv=>whnf
 refine fkS h (fun h=>?_) (fun h=>?_)
 ·conv=>whnf
  refine jnS (fun w16=>⟨[(0,.l (.ptr 25 0)),(1,.l (.d (.int .i64 x1.1))),(10,.l (.d (.sl (a0.map Face.enc)))),(11,.l (.d (.int .i64 (a0.length:Int)))),(12,.l (.d (.int .i64 v15.2)))],39,[⟨[(45,.l (.d (.int .i64 x1.1))),(44,.l (.mfn 152 25)),(31,.l (.d (.bool false))),(4,.l (.d (.int .i64 x1.1))),(7,.l (.mfn 152 25)),(8,.l (.mfn 153 25)),(9,.l (.own 10)),(29,.l (.d (.int .i64 x1.1))),(30,.l (.d (.int .i64 v2.2.2))),(31,.l (.d (.bool (decide (v2.2.2<x1.1)))))],49⟩],[(25,[.d (.sl (a0.map Face.enc)),.own 23])],[(10,3,1,v2.1.map (eI .i64)),(23,3,1,w16.map (eI .i64))]⟩) h (fun k16 hk16 h=>?_) (fun w16 h=>?_)
  ·conv=>whnf
   refine ixS (enc:=Face.enc) h rfl (fun _=>rfl) (fun x17 h=>?_)
   conv=>whnf
   refine dvS h (fun h=>?_)
   conv=>whnf
   refine fkS h (fun h=>?_) (fun h=>?_)
   ·conv=>whnf
    refine jeX hk16 h ?_
    conv=>whnf
    refine WkF.step (Weak.keepS _ [0,1,10,11,12]) ?_
    conv=>whnf
    exact WkF.refl _
   conv=>whnf
   refine ioS (enc:=(eI .i64)) h rfl (fun h=>?_)
   conv=>whnf
   refine oxS (enc:=(eI .i64)) h rfl (fun x18 h=>?_)
   conv=>whnf
   refine fkS h (fun h=>?_) (fun h=>?_)
   ·conv=>whnf
    exact rt (E:=E_ListInt_Int) h rfl
   conv=>whnf
   refine⟨7,?_⟩
   conv=>whnf
   refine drS (by kernel_rfl) ?_
   conv=>whnf
   refine ioS (enc:=(eI .i64)) h rfl (fun h=>?_)
   conv=>whnf
   refine seS (enc:=(eI .i64)) h rfl (fun x19=>x17.B) (fun _=>rfl) (fun x19 h=>?_)
   conv=>whnf
   exact jeS hk16 h (Weak.refl _)
  conv=>whnf
  exact leS hn15 h (Weak.refl _)
 conv=>whnf
 exact rt (E:=E_ListInt_Int) h rfl
end Go.Proofs.YtldlcdnhdedoeaaGreat
namespace Go.Proofs.YtldlcdnhdedoeaaGreat
open Go Go.VC
/-! The frame. -/
def facesP (l:List Face):Prop:=(∀f∈l,faceP f)∧l.length≤4
def lcmF (c:Nat) (l:List Face):Nat:=l.foldl (fun c f=>Nat.lcm c f.P.toNat) c
theorem lcmF_succ (c:Nat) (l:List Face) (k:Nat) (h:k<l.length):lcmF c (l.take (k+1))=Nat.lcm (lcmF c (l.take k)) l[k].P.toNat:=by
 unfold lcmF
 rw[←List.take_append_getElem h,List.foldl_append]; rfl
theorem lcmF_dvd:∀(l:List Face) (c n:Nat),lcmF c l∣n↔c∣n∧∀f∈l,f.P.toNat∣n
 | [],c,n=>by simp[lcmF]
 | f::r,c,n=>by
  show lcmF (Nat.lcm c f.P.toNat) r∣n↔_
  rw[lcmF_dvd r,Nat.lcm_dvd_iff]
  simp only[List.mem_cons,forall_eq_or_imp,and_assoc]
theorem lcmF_pos:∀(l:List Face) (c:Nat),0<c→(∀f∈l,1≤f.P)→0<lcmF c l
 | [],c,h,_=>h
 | f::r,c,h,hl=>lcmF_pos r _ (Nat.lcm_pos h (by have:=hl f List.mem_cons_self; omega)) fun g hg=>hl g (List.mem_cons_of_mem _ hg)
noncomputable instance (l:List Face):Decidable (facesP l):=Classical.propDecidable _
noncomputable def frameV (l:List Face):Int×Int:=if facesP l then (if lcmF 1 l≤240 then ((lcmF 1 l:Nat),0) else (0,5)) else (0,1)
theorem faceP.P {f:Face} (h:faceP f):1≤f.P∧f.P≤200∧1≤f.B∧f.B≤200:=by unfold faceP at h; omega
theorem synth_Frame_eq (l:List Face):synth_Frame l=some (frameV l):=by
 unfold synth_Frame frameV
 by_cases h4:l.length≤4
 rotate_left
 ·rw[decide_eq_true (by omega),fk_t,if_neg (fun h=>h4 h.2)]
 rw[decide_eq_false (by omega),fk_f]
 refine lp_up l.length (by unfold FU; omega) (fun k=>∀f∈l.take k,faceP f) (fun f h=>by simp at h) ?_
 intro nx k hk J hnx
 rw[lt_nat]
 by_cases c:k<l.length
 ·rw[decide_eq_true c,fk_t,ix_lt c,bnd_eq (supply_Right_eq _),wr_succ k _ c (by omega)]
  by_cases hf:faceP l[k]
  ·rw[decide_eq_true hf,Bool.not_true,fk_f]
   refine hnx c fun f h=>?_
   rw[←List.take_append_getElem c] at h
   rcases List.mem_append.1 h with h | h
   ·exact J f h
   ·rw[List.mem_singleton.1 h]; exact hf
  ·rw[decide_eq_false hf,Bool.not_false,fk_t,if_neg (fun h=>hf (h.1 _ (List.getElem_mem c)))]
 rw[List.take_of_length_le (by omega)] at J
 have hfp:facesP l:=⟨J,h4⟩
 have hpos:∀f∈l,1≤f.P:=fun f hf=>(J f hf).P.1
 rw[decide_eq_false c,fk_f,if_pos hfp]
 clear hnx nx hk c k
 refine lp_upS l.length (by unfold FU; omega) (fun k s=>s=((lcmF 1 (l.take k):Nat):Int)∧lcmF 1 (l.take k)≤240) 1 ⟨rfl,by show (1:Nat)≤240; omega⟩ ?_
 rintro nx k s hk ⟨rfl,hb⟩ hnx
 dsimp only
 rw[lt_nat]
 by_cases c:k<l.length
 rotate_left
 ·rw[List.take_of_length_le (by omega)] at hb ⊢
  rw[decide_eq_false c,fk_f,if_pos hb]
 have hp:=(J _ (List.getElem_mem c)).P
 have hpk:0<lcmF 1 (l.take k):=lcmF_pos _ _ (by omega) fun f hf=>hpos f (List.mem_of_mem_take hf)
 have eL:=arith_Lcm_eq (lcmF 1 (l.take k)) l[k].P.toNat hpk (by omega) (by omega) (by omega)
 rw[show ((l[k].P.toNat:Nat):Int)=l[k].P by omega] at eL
 rw[decide_eq_true c,fk_t,ix_lt c,bnd_eq eL,wr_succ k _ c (by omega),←lcmF_succ 1 l k c]
 have hdv:lcmF 1 (l.take (k+1))∣lcmF 1 l:=(lcmF_dvd _ _ _).2 ⟨Nat.one_dvd _,fun f hf=>((lcmF_dvd l 1 _).1 (Nat.dvd_refl _)).2 f (List.mem_of_mem_take hf)⟩
 have hle:=Nat.le_of_dvd (lcmF_pos l 1 (by omega) hpos) hdv
 by_cases cb:lcmF 1 (l.take (k+1))≤240
 ·refine jn_to false (fun k7=>by rw[decide_eq_true rfl,Bool.not_true,fk_f,decide_eq_false (by dsimp only; omega)]) (by rw[fk_f]; exact hnx _ c ⟨rfl,cb⟩)
 ·refine jn_to true (fun k7=>by rw[decide_eq_true rfl,Bool.not_true,fk_f,decide_eq_true (by dsimp only; omega)]) (by rw[fk_t,if_neg (by omega)])
def allD (l:List Face) (n:Nat):Prop:=∀f∈l,f.P.toNat∣n
instance (l:List Face) (n:Nat):Decidable (allD l n):=by unfold allD; infer_instance
/-! The ticks. -/
def wv (w:List Int) (i:Nat):Int:=(w[i]?).getD 0
def begun (l:List Face) (w:List Int) (t:Nat):List Int:=(List.range l.length).map fun i=>match l[i]? with | some f=>if f.P.toNat∣t then f.B else wv w i | none=>0
def denyP (l:List Face) (w:List Int) (t:Nat):Prop:=∃(i:Nat) (f:Face),l[i]?=some f∧f.P.toNat∣t∧0<wv w i
def byV (f:Face) (t:Nat):Nat:=(t/f.P.toNat+1)*f.P.toNat
def isNext (l:List Face) (w:List Int) (t k:Nat) (r:Int):Prop:=
 (r = -1∧∀i,i<k→wv w i≤0)∨∃(i:Nat) (f:Face),i<k∧r=(i:Int)∧l[i]?=some f∧0<wv w i∧∀(j:Nat) (g:Face),j<k→l[j]?=some g→0<wv w j→byV f t<byV g t∨(byV f t=byV g t∧i≤j)
def dec (w:List Int) (r:Int):List Int:=if r = -1 then w else w.set r.toNat (wv w r.toNat-1)
inductive LayR (l:List Face):Nat→List Int→List Int→Prop
 | zero:LayR l 0 [] (List.replicate l.length 0)
 | step {t:Nat} {out w:List Int} {r:Int} (h:LayR l t out w) (hd:¬denyP l w t) (hn:isNext l (begun l w t) t l.length r):LayR l (t+1) (out++[r]) (dec (begun l w t) r)
def resP (l:List Face) (F:Nat) (r:List Int×Int):Prop:=
 (∃o w,LayR l F o w∧¬denyP l w F∧r=(o,0))∨(∃t,t≤F∧∃o w,LayR l t o w∧denyP l w t∧r=([],7))
theorem begun_len (l:List Face) (w:List Int) (t:Nat):(begun l w t).length=l.length:=by unfold begun; simp
theorem begun_at {l:List Face} {w:List Int} {t i:Nat} {f:Face} (h:l[i]?=some f):wv (begun l w t) i=if f.P.toNat∣t then f.B else wv w i:=by
 have hi:=(List.getElem?_eq_some_iff.1 h).1
 unfold begun
 unfold wv
 rw[List.getElem?_map,List.getElem?_range hi]
 simp only[Option.map_some,h,Option.getD_some]
/-- What is kept: sizes. -/
theorem LayR.ok {l:List Face} (hl:facesP l) {t:Nat} {o w:List Int} (h:LayR l t o w):o.length=t∧w.length=l.length∧(∀i,0≤wv w i∧wv w i≤200)∧∀x∈o,-1≤x∧x<(l.length:Int):=by
 induction h with
 | zero=>
  refine⟨rfl,by simp,fun i=>?_,fun x h=>(List.not_mem_nil h).elim⟩
  unfold wv
  rw[List.getElem?_replicate]
  split <;> simp
 | step h hd hn ih=>
  rename_i t out w r
  obtain⟨a,b,c,d⟩:=ih
  have hb:∀i,0≤wv (begun l w t) i∧wv (begun l w t) i≤200:=fun i=>by
   cases hf:l[i]? with
   | some f=>
    rw[begun_at hf]
    have:=(hl.1 f (List.mem_of_getElem? hf)).P
    split
    ·omega
    ·exact c i
   | none=>
    have:(begun l w t)[i]?=none:=List.getElem?_eq_none (by rw[begun_len]; exact List.getElem?_eq_none_iff.1 hf)
    unfold wv; rw[this]; simp
  refine⟨by simp[a],?_,fun i=>?_,fun x hx=>?_⟩
  ·unfold dec; split
   ·exact begun_len _ _ _
   ·rw[List.length_set]; exact begun_len _ _ _
  ·rcases hn with ⟨rfl,_⟩ | ⟨j,f,hj,rfl,hf,hw,_⟩
   ·unfold dec; rw[if_pos rfl]; exact hb i
   ·unfold dec
    rw[if_neg (by omega),Int.toNat_natCast]
    by_cases e:j=i
    ·subst e
     have:wv ((begun l w t).set j (wv (begun l w t) j-1)) j=wv (begun l w t) j-1:=by
      unfold wv
      rw[List.getElem?_set_self (by rw[begun_len]; exact hj)]; rfl
     rw[this]
     have:=hb j; omega
    ·have:wv ((begun l w t).set j (wv (begun l w t) j-1)) i=wv (begun l w t) i:=by
      unfold wv
      rw[List.getElem?_set_ne e]
     rw[this]; exact hb i
  ·rcases List.mem_append.1 hx with h' | h'
   ·exact d x h'
   ·rw[List.mem_singleton.1 h']
    rcases hn with ⟨rfl,_⟩ | ⟨j,f,hj,rfl,_⟩ <;> omega
end Go.Proofs.YtldlcdnhdedoeaaGreat
namespace Go.Proofs.YtldlcdnhdedoeaaGreat
open Go Go.VC
theorem tmod_dvd {f:Face} (h:1≤f.P) (t:Nat):decide ((t:Int).tmod f.P=0)=decide (f.P.toNat∣t):=by
 rw[decide_eq_decide,Int.tmod_eq_emod_of_nonneg (by omega),show f.P=((f.P.toNat:Nat):Int) by omega,Int.toNat_natCast]
 constructor
 ·intro h; exact Int.natCast_dvd_natCast.1 (Int.dvd_of_emod_eq_zero h)
 ·intro h; exact Int.emod_eq_zero_of_dvd (Int.natCast_dvd_natCast.2 h)
theorem byV_b {f:Face} (hf:faceP f) (t:Nat):byV f t=t-t%f.P.toNat+f.P.toNat∧t%f.P.toNat≤t∧byV f t≤t+200:=by
 have hp:=hf.P
 have h1:=Nat.div_add_mod t f.P.toNat
 have h2:=Nat.mod_le t f.P.toNat
 have e:byV f t=f.P.toNat*(t/f.P.toNat)+f.P.toNat:=by unfold byV; rw[Nat.add_mul,Nat.one_mul,Nat.mul_comm]
 refine⟨?_,h2,?_⟩ <;> omega
theorem by_eq {f:Face} (hf:faceP f) (t:Nat) (ht:t≤1000):wr (wr ((t:Int)-(t:Int).tmod f.P)+f.P)=((byV f t:Nat):Int):=by
 have hp:=hf.P
 obtain⟨h1,h2,h3⟩:=byV_b hf t
 have e:(t:Int).tmod f.P=((t%f.P.toNat:Nat):Int):=by
  rw[Int.tmod_eq_emod_of_nonneg (by omega)]
  conv=>lhs; rw[show f.P=((f.P.toNat:Nat):Int) by omega]
  rfl
 rw[e,wr_in ((t:Int)-((t%f.P.toNat:Nat):Int)) (by omega),wr_in _ (by omega)]
 omega
theorem eq_of_wv {u v:List Int} (hl:u.length=v.length) (h:∀i,wv u i=wv v i):u=v:=by
 refine List.ext_getElem hl fun i h1 h2=>?_
 have:=h i
 unfold wv at this
 rw[List.getElem?_eq_getElem h1,List.getElem?_eq_getElem h2] at this
 exact this
theorem wv_lt {w:List Int} {i:Nat} (h:i<w.length):w[i]=wv w i:=by unfold wv; rw[List.getElem?_eq_getElem h]; rfl
theorem wv_set {w:List Int} {i:Nat} {x:Int} (h:i<w.length) (j:Nat):wv (w.set i x) j=if j=i then x else wv w j:=by
 unfold wv
 by_cases e:j=i
 ·subst e; rw[if_pos rfl,List.getElem?_set_self h]; rfl
 ·rw[if_neg e,List.getElem?_set_ne (fun c=>e c.symm)]
/-- What a round of 'begin' comes to, so far. -/
structure begI (l:List Face) (w:List Int) (t k:Nat) (u:List Int):Prop where
 len:u.length=l.length
 v:∀i,wv u i=if i<k then wv (begun l w t) i else wv w i
 d:∀(i:Nat) (f:Face),i<k→l[i]?=some f→¬(f.P.toNat∣t∧0<wv w i)
theorem begI.zero {l:List Face} {w:List Int} {t:Nat} (h:w.length=l.length):begI l w t 0 w:=⟨h,fun i=>by rw[if_neg (by omega)],fun i f h=>by omega⟩
theorem begI.keep {l:List Face} {w:List Int} {t k:Nat} {u:List Int} (h:begI l w t k u) (hk:k<l.length) (hn:¬l[k].P.toNat∣t):begI l w t (k+1) u:=by
 have hf:l[k]?=some l[k]:=List.getElem?_eq_getElem hk
 refine⟨h.len,fun i=>?_,fun i f hi hfi=>?_⟩
 ·rw[h.v i]
  by_cases e:i=k
  ·subst e
   rw[if_neg (by omega),if_pos (by omega),begun_at hf,if_neg hn]
  ·by_cases c:i<k
   ·rw[if_pos c,if_pos (by omega)]
   ·rw[if_neg c,if_neg (by omega)]
 ·by_cases e:i=k
  ·subst e; rw[hf] at hfi; cases hfi; exact fun hh=>hn hh.1
  ·exact h.d i f (by omega) hfi
theorem begI.set {l:List Face} {w:List Int} {t k:Nat} {u:List Int} (h:begI l w t k u) (hk:k<l.length) (hn:l[k].P.toNat∣t) (hw:¬0<wv w k):begI l w t (k+1) (u.set k l[k].B):=by
 have hf:l[k]?=some l[k]:=List.getElem?_eq_getElem hk
 have hku:k<u.length:=by rw[h.len]; exact hk
 refine⟨by rw[List.length_set]; exact h.len,fun i=>?_,fun i f hi hfi=>?_⟩
 ·rw[wv_set hku]
  by_cases e:i=k
  ·subst e
   rw[if_pos rfl,if_pos (by omega),begun_at hf,if_pos hn]
  ·rw[if_neg e,h.v i]
   by_cases c:i<k
   ·rw[if_pos c,if_pos (by omega)]
   ·rw[if_neg c,if_neg (by omega)]
 ·by_cases e:i=k
  ·subst e; exact fun hh=>hw hh.2
  ·exact h.d i f (by omega) hfi
theorem begI.at {l:List Face} {w:List Int} {t k:Nat} {u:List Int} (h:begI l w t k u):wv u k=wv w k:=by rw[h.v k,if_neg (by omega)]
theorem begI.end {l:List Face} {w:List Int} {t:Nat} {u:List Int} (h:begI l w t l.length u):u=begun l w t∧¬denyP l w t:=by
 refine⟨eq_of_wv (by rw[h.len,begun_len]) fun i=>?_,?_⟩
 ·rw[h.v i]
  by_cases c:i<l.length
  ·rw[if_pos c]
  ·rw[if_neg c]
   have hb:(begun l w t)[i]?=none:=List.getElem?_eq_none (by rw[begun_len]; omega)
   have hu:=h.v i
   rw[if_neg c] at hu
   have hu2:u[i]?=none:=List.getElem?_eq_none (by rw[h.len]; omega)
   rw[←hu]
   unfold wv
   rw[hb,hu2]
 ·rintro⟨i,f,hf,a,b⟩
  exact h.d i f (List.getElem?_eq_some_iff.1 hf).1 hf ⟨a,b⟩
/-- Who is next, so far: with its time. -/
structure nxI (l:List Face) (u:List Int) (t k:Nat) (out due:Int):Prop where
 n:isNext l u t k out
 d:∀(i:Nat) (f:Face),out=(i:Int)→l[i]?=some f→due=((byV f t:Nat):Int)
theorem nxI.zero {l:List Face} {u:List Int} {t:Nat}:nxI l u t 0 (-1) 0:=⟨.inl ⟨rfl,fun i h=>by omega⟩,fun i f h=>by omega⟩
theorem nxI.keep {l:List Face} {u:List Int} {t k:Nat} {out due:Int} (h:nxI l u t k out due) (hk:k<l.length) (hc:¬(0<wv u k∧(out = -1∨((byV l[k] t:Nat):Int)<due))):nxI l u t (k+1) out due:=by
 have hfk:l[k]?=some l[k]:=List.getElem?_eq_getElem hk
 refine⟨?_,h.d⟩
 rcases h.n with ⟨rfl,a⟩ | ⟨i,f,hi,rfl,hf,hw,a⟩
 ·refine .inl ⟨rfl,fun i hi=>?_⟩
  by_cases e:i=k
  ·subst e; exact Int.not_lt.1 fun hh=>hc ⟨hh,.inl rfl⟩
  ·exact a i (by omega)
 ·refine .inr ⟨i,f,by omega,rfl,hf,hw,fun j g hj hg hwj=>?_⟩
  by_cases e:j=k
  ·subst e
   rw[hfk] at hg; cases hg
   have hd:=h.d i f rfl hf
   have:¬((byV l[j] t:Nat):Int)<due:=fun hh=>hc ⟨hwj,.inr hh⟩
   omega
  ·exact a j g (by omega) hg hwj
theorem nxI.take {l:List Face} {u:List Int} {t k:Nat} {out due:Int} (h:nxI l u t k out due) (hk:k<l.length) (hw:0<wv u k) (hc:out = -1∨((byV l[k] t:Nat):Int)<due):nxI l u t (k+1) (k:Int) ((byV l[k] t:Nat):Int):=by
 have hfk:l[k]?=some l[k]:=List.getElem?_eq_getElem hk
 refine⟨.inr ⟨k,l[k],by omega,rfl,hfk,hw,fun j g hj hg hwj=>?_⟩,fun i f hi hf=>?_⟩
 ·by_cases e:j=k
  ·subst e; rw[hfk] at hg; cases hg; exact .inr ⟨rfl,Nat.le_refl _⟩
  ·rcases h.n with ⟨rfl,a⟩ | ⟨i,f,hi,rfl,hf,hw',a⟩
   ·have:=a j (by omega); omega
   ·have hd:=h.d i f rfl hf
    have hlt:=hc.resolve_left (by omega)
    have:=a j g (by omega) hg hwj
    omega
 ·have:i=k:=by omega
  subst this
  rw[hfk] at hf; cases hf; rfl
theorem synth_Lay_ok (l:List Face) (hl:facesP l) (hF:lcmF 1 l≤240):∃r,synth_Lay l=some r∧resP l (lcmF 1 l) r:=by
 have h4:=hl.2
 have ef:frameV l=(((lcmF 1 l:Nat):Int),0):=by unfold frameV; rw[if_pos hl,if_pos hF]
 unfold synth_Lay
 rw[bnd_eq (synth_Frame_eq l),ef]
 dsimp only
 rw[decide_eq_true rfl,Bool.not_true,fk_f,ck_t (by simp; omega),Int.toNat_natCast]
 generalize lcmF 1 l=F at *
 refine lp_ex (fun v=>F-v.2.2.toNat) (fun v=>∃(t:Nat) (o w:List Int),v=(o,w,(t:Int))∧t≤F∧LayR l t o w) (resP l F) ?_ FU _ ⟨0,[],_,rfl,Nat.zero_le _,LayR.zero⟩ (by unfold FU; simp only; omega)
 rintro nx v ⟨t,o,w,rfl,ht,hL⟩ hnx
 obtain⟨hol,hwl,hwb,_⟩:=hL.ok hl
 dsimp only
 rw[lt_nat]
 by_cases c:t<F
 rotate_left
 ·have e:t=F:=by omega
  subst e
  rw[decide_eq_false c,fk_f]
  refine lp_ex (fun v=>l.length-v.2.toNat) (fun v=>∃(k:Nat) (u:List Int),v=(u,(k:Int))∧k≤l.length∧begI l w t k u) (resP l t) ?_ FU _ ⟨0,w,rfl,Nat.zero_le _,begI.zero hwl⟩ (by unfold FU; simp only; omega)
  rintro nx3 v ⟨k,u,rfl,hk,hJ⟩ hnx3
  dsimp only
  rw[lt_nat]
  by_cases ck':k<l.length
  rotate_left
  ·have e:k=l.length:=by omega
   subst e
   obtain⟨_,hd⟩:=hJ.end
   rw[decide_eq_false ck',fk_f]
   exact⟨_,rfl,.inl ⟨o,w,hL,hd,rfl⟩⟩
  have hfk:l[k]?=some l[k]:=List.getElem?_eq_getElem ck'
  have hp:=(hl.1 _ (List.getElem_mem ck')).P
  have hul:=hJ.len
  have hku:k<u.length:=by omega
  rw[decide_eq_true ck',fk_t,jn_eq,ix_lt ck',ck_t (decide_eq_true (by omega)),tmod_dvd hp.1,wr_succ k _ ck' (by omega)]
  have go:∀u',begI l w t (k+1) u'→∃r,nx3 (u',((k+1:Nat):Int))=some r∧resP l t r:=fun u' h'=>hnx3 _ ⟨k+1,u',rfl,ck',h'⟩ (by simp only[Int.toNat_natCast]; omega)
  by_cases cd:l[k].P.toNat∣t
  rotate_left
  ·rw[decide_eq_false cd,Bool.not_false,fk_t]
   exact go u (hJ.keep ck' cd)
  rw[decide_eq_true cd,Bool.not_true,fk_f,ck_t (by simp; omega),Int.toNat_natCast,ox_lt hku,wv_lt hku,hJ.at]
  by_cases cw:0<wv w k
  ·rw[decide_eq_true (show wv w k>0 from cw),fk_t]
   exact⟨_,rfl,.inr ⟨t,Nat.le_refl _,o,w,hL,⟨k,_,hfk,cd,cw⟩,rfl⟩⟩
  ·rw[decide_eq_false (show ¬wv w k>0 from cw),fk_f,ck_t (by simp; omega),ox_lt hku]
   exact go _ (hJ.set ck' cd cw)
 rw[decide_eq_true c,fk_t]
 refine lp_ex (fun v=>l.length-v.2.toNat) (fun v=>∃(k:Nat) (u:List Int),v=(u,(k:Int))∧k≤l.length∧begI l w t k u) (resP l F) ?_ FU _ ⟨0,w,rfl,Nat.zero_le _,begI.zero hwl⟩ (by unfold FU; simp only; omega)
 rintro nx3 v ⟨k,u,rfl,hk,hJ⟩ hnx3
 dsimp only
 rw[lt_nat]
 by_cases ck':k<l.length
 ·have hfk:l[k]?=some l[k]:=List.getElem?_eq_getElem ck'
  have hp:=(hl.1 _ (List.getElem_mem ck')).P
  have hul:=hJ.len
  have hku:k<u.length:=by omega
  rw[decide_eq_true ck',fk_t,jn_eq,ix_lt ck',ck_t (decide_eq_true (by omega)),tmod_dvd hp.1,wr_succ k _ ck' (by omega)]
  have go:∀u',begI l w t (k+1) u'→∃r,nx3 (u',((k+1:Nat):Int))=some r∧resP l F r:=fun u' h'=>hnx3 _ ⟨k+1,u',rfl,ck',h'⟩ (by simp only[Int.toNat_natCast]; omega)
  by_cases cd:l[k].P.toNat∣t
  rotate_left
  ·rw[decide_eq_false cd,Bool.not_false,fk_t]
   exact go u (hJ.keep ck' cd)
  rw[decide_eq_true cd,Bool.not_true,fk_f,ck_t (by simp; omega),Int.toNat_natCast,ox_lt hku,wv_lt hku,hJ.at]
  by_cases cw:0<wv w k
  ·rw[decide_eq_true (show wv w k>0 from cw),fk_t]
   exact⟨_,rfl,.inr ⟨t,by omega,o,w,hL,⟨k,_,hfk,cd,cw⟩,rfl⟩⟩
  ·rw[decide_eq_false (show ¬wv w k>0 from cw),fk_f,ck_t (by simp; omega),ox_lt hku]
   exact go _ (hJ.set ck' cd cw)
 have e:k=l.length:=by omega
 subst e
 obtain⟨rfl,hd⟩:=hJ.end
 have hbl:=begun_len l w t
 rw[decide_eq_false ck',fk_f]
 refine lp_ex (fun v=>l.length-v.2.2.toNat) (fun v=>∃(k:Nat) (out due:Int),v=(out,due,(k:Int))∧k≤l.length∧nxI l (begun l w t) t k out due) (resP l F) ?_ FU _ ⟨0,-1,0,rfl,Nat.zero_le _,nxI.zero⟩ (by unfold FU; simp only; omega)
 rintro nx8 v ⟨k,out,due,rfl,hk,hN⟩ hnx8
 dsimp only
 rw[lt_nat]
 by_cases cn:k<l.length
 rotate_left
 ·have e:k=l.length:=by omega
  subst e
  have hstep:=LayR.step hL hd hN.n
  have hnext:=hnx (o++[out],dec (begun l w t) out,((t+1:Nat):Int)) ⟨t+1,_,_,rfl,c,hstep⟩ (by simp only[Int.toNat_natCast]; omega)
  obtain⟨hsl,hswl,hswb,_⟩:=hstep.ok hl
  rw[decide_eq_false cn,fk_f]
  have e1:wr ((t:Int)+1)=((t+1:Nat):Int):=wr_succ t _ c (by omega)
  by_cases co:out = -1
  ·rw[decide_eq_true co,Bool.not_true,fk_f,ck_t (by simp; omega),e1]
   unfold dec at hnext
   rw[if_pos co] at hnext
   exact hnext
  ·rcases hN.n with ⟨h,_⟩ | ⟨i,f,hi,rfl,hf,hw,_⟩
   ·exact absurd h co
   have hib:i<(begun l w t).length:=by omega
   have hbw:wv (begun l w t) i≤201:=by
    have h2:=hswb i
    have:wv (dec (begun l w t) (i:Int)) i=wv (begun l w t) i-1:=by
     unfold dec
     rw[if_neg co,Int.toNat_natCast,wv_set hib,if_pos rfl]
    omega
   rw[decide_eq_false co,Bool.not_false,fk_t,ck_t (by simp; omega),Int.toNat_natCast,ox_lt hib,ck_t (by simp; omega),ox_lt hib,ck_t (by simp; omega),e1,wv_lt hib,wr_in _ (by omega)]
   unfold dec at hnext
   rw[if_neg co,Int.toNat_natCast] at hnext
   exact hnext
 have hfk:l[k]?=some l[k]:=List.getElem?_eq_getElem cn
 have hface:=hl.1 _ (List.getElem_mem cn)
 have hp:=hface.P
 have hkb:k<(begun l w t).length:=by omega
 rw[decide_eq_true cn,fk_t,jn_eq,ix_lt cn,ck_t (decide_eq_true (by omega)),jn_eq,by_eq hface t (by omega),wr_succ k _ cn (by omega),ck_t (by simp; omega),Int.toNat_natCast,ox_lt hkb,wv_lt hkb]
 have keep:¬(0<wv (begun l w t) k∧(out = -1∨((byV l[k] t:Nat):Int)<due))→∃r,nx8 (out,due,((k+1:Nat):Int))=some r∧resP l F r:=fun h'=>hnx8 _ ⟨k+1,out,due,rfl,cn,hN.keep cn h'⟩ (by simp only[Int.toNat_natCast]; omega)
 have take:0<wv (begun l w t) k→(out = -1∨((byV l[k] t:Nat):Int)<due)→∃r,nx8 ((k:Int),((byV l[k] t:Nat):Int),((k+1:Nat):Int))=some r∧resP l F r:=fun h1 h2=>hnx8 _ ⟨k+1,_,_,rfl,cn,hN.take cn h1 h2⟩ (by simp only[Int.toNat_natCast]; omega)
 by_cases cw:wv (begun l w t) k>0
 rotate_left
 ·rw[decide_eq_false cw,fk_f]
  exact keep fun h=>cw h.1
 rw[decide_eq_true cw,fk_t]
 by_cases co:out = -1
 ·rw[decide_eq_true co,fk_t]
  exact take cw (.inl co)
 rw[decide_eq_false co,fk_f]
 by_cases cd:((byV l[k] t:Nat):Int)<due
 ·rw[decide_eq_true cd]
  exact take cw (.inr cd)
 ·rw[decide_eq_false cd]
  exact keep fun h=>(h.2.elim co cd)
end Go.Proofs.YtldlcdnhdedoeaaGreat
namespace Go.Proofs.YtldlcdnhdedoeaaGreat
open Go Go.VC
noncomputable def image_Right (a0:Config):Option Bool:=
 lp (fun nx1 (v1:Int)=>fk (decide (v1<(a0.Parts.length:Int))) (ix a0.Parts v1 fun x2=>jn (fun (w3:Bool)=>fk w3 (some false) (nx1 (wr (v1+(1:Int))))) (fun k3=>bnd (supply_Right x2.Face) fun x4=>fk (!x4) (k3 true) (bnd (task_All x2.Tasks) fun x5=>k3 (!x5)))) (lp (fun nx6 (v6:Int)=>fk (decide (v6<(a0.Ports.length:Int))) (ix a0.Ports v6 fun x7=>jn (fun (w8:Bool)=>fk w8 (some false) (nx6 (wr (v6+(1:Int))))) (fun k8=>fk (decide (x7.From≥(a0.Parts.length:Int))) (k8 true) (k8 (decide (x7.To≥(a0.Parts.length:Int)))))) (bnd (port_Open a0.Ports) fun x9=>fk (decide (x9.2=(0:Int))) (some (decide ((a0.Parts.length:Int)≤(4:Int)))) (some false))) FU (0:Int))) FU (0:Int)
theorem image_Right_w (a0:Config) (r:Bool) (h:image_Right a0=some r):Go.VC.Spec Tryz.prog 54 [.agg (Config.enc a0)] (fun y=>y=E_Bool r):=by
 refine Go.VC.Spec.of_xc (args:=[.agg (Config.enc a0)]) (fn:=Tryz.f54) tab ⟨[(0,[1]),(1,[1,10,11,12]),(2,[1,10,11,12,13]),(3,[1,4,10,11,12]),(4,[1,10,11,12,25]),(5,[2]),(6,[1,10,11,12]),(7,[1,28,29,30]),(8,[1,28,29,30,31]),(9,[1,6,28,29,30]),(10,[1,28,29,30,47]),(11,[2]),(12,[1,28,29,30]),(13,[1,8]),(14,[2])],[],[100025,100047],[]⟩ 63 [.tmp 2] rfl rfl rfl rfl rfl rfl ?_
 conv=>whnf
 refine lenS a0.Parts Part.enc rfl ?_
 conv=>whnf
 refine lpS (fun v1=>⟨[(1,.l (.ptr 2 0)),(10,.l (.d (.sl (a0.Parts.map Part.enc)))),(11,.l (.d (.int .i64 (a0.Parts.length:Int)))),(12,.l (.d (.int .i64 v1)))],63,[],[(2,[.d (.sl (a0.Parts.map Part.enc)),.d (.sl (a0.Ports.map Port.enc))])],[]⟩) h (Weak.refl _) (fun _ nx1 hn1 v1 h=>?_)
 conv=>whnf
 refine fkS h (fun h=>?_) (fun h=>?_)
 ·conv=>whnf
  refine ixS (enc:=Part.enc) h rfl (fun _=>rfl) (fun x2 h=>?_)
  conv=>whnf
  refine jnS (fun w3=>⟨[(1,.l (.ptr 2 0)),(10,.l (.d (.sl (a0.Parts.map Part.enc)))),(11,.l (.d (.int .i64 (a0.Parts.length:Int)))),(12,.l (.d (.int .i64 v1))),(25,.l (.d (.bool w3)))],63,[],[(2,[.d (.sl (a0.Parts.map Part.enc)),.d (.sl (a0.Ports.map Port.enc))])],[]⟩) h (fun k3 hk3 h=>?_) (fun w3 h=>?_)
  ·conv=>whnf
   refine caS (E:=E_Bool) h (supply_Right_w x2.Face) rfl (fun _=>rfl) (fun x4 h=>?_)
   conv=>whnf
   refine fkS h (fun h=>?_) (fun h=>?_)
   ·conv=>whnf
    exact jeS hk3 h (Weak.refl _)
   conv=>whnf
   refine caS (E:=E_Bool) h (task_All_w x2.Tasks) rfl (fun _=>rfl) (fun x5 h=>?_)
   conv=>whnf
   exact jeS hk3 h (Weak.refl _)
  conv=>whnf
  refine fkS h (fun h=>?_) (fun h=>?_)
  ·conv=>whnf
   exact rt (E:=E_Bool) h rfl
  conv=>whnf
  exact leS hn1 h (Weak.refl _)
 conv=>whnf
 refine lenS a0.Ports Port.enc rfl ?_
 conv=>whnf
 refine lpS (fun v6=>⟨[(1,.l (.ptr 2 0)),(28,.l (.d (.sl (a0.Ports.map Port.enc)))),(29,.l (.d (.int .i64 (a0.Ports.length:Int)))),(30,.l (.d (.int .i64 v6)))],63,[],[(2,[.d (.sl (a0.Parts.map Part.enc)),.d (.sl (a0.Ports.map Port.enc))])],[]⟩) h (Weak.refl _) (fun _ nx6 hn6 v6 h=>?_)
 conv=>whnf
 refine fkS h (fun h=>?_) (fun h=>?_)
 ·conv=>whnf
  refine ixS (enc:=Port.enc) h rfl (fun _=>rfl) (fun x7 h=>?_)
  conv=>whnf
  refine jnS (fun w8=>⟨[(1,.l (.ptr 2 0)),(28,.l (.d (.sl (a0.Ports.map Port.enc)))),(29,.l (.d (.int .i64 (a0.Ports.length:Int)))),(30,.l (.d (.int .i64 v6))),(47,.l (.d (.bool w8)))],63,[],[(2,[.d (.sl (a0.Parts.map Part.enc)),.d (.sl (a0.Ports.map Port.enc))])],[]⟩) h (fun k8 hk8 h=>?_) (fun w8 h=>?_)
  ·conv=>whnf
   refine lenS a0.Parts Part.enc rfl ?_
   conv=>whnf
   refine fkS h (fun h=>?_) (fun h=>?_)
   ·conv=>whnf
    exact jeS hk8 h (Weak.refl _)
   conv=>whnf
   refine lenS a0.Parts Part.enc rfl ?_
   conv=>whnf
   exact jeS hk8 h (Weak.refl _)
  conv=>whnf
  refine fkS h (fun h=>?_) (fun h=>?_)
  ·conv=>whnf
   exact rt (E:=E_Bool) h rfl
  conv=>whnf
  exact leS hn6 h (Weak.refl _)
 conv=>whnf
 refine ccS (E:=E_ListPortLine_Int) h (port_Open_w a0.Ports) rfl rfl (fun x9 h=>?_)
 conv=>whnf
 refine fkS h (fun h=>?_) (fun h=>?_)
 ·conv=>whnf
  refine lenS a0.Parts Part.enc rfl ?_
  conv=>whnf
  exact rt (E:=E_Bool) h rfl
 conv=>whnf
 exact rt (E:=E_Bool) h rfl
end Go.Proofs.YtldlcdnhdedoeaaGreat
namespace Go.Proofs.YtldlcdnhdedoeaaGreat
open Go Go.VC
noncomputable def ref18_May (a0:Port):Option Bool:=
 fk (decide (a0.From≥(0:Int))) (fk (decide (a0.From<(4:Int))) (fk (decide (a0.To≥(0:Int))) (fk (decide (a0.To<(4:Int))) (fk (!decide (a0.To=a0.From)) (fk (decide (a0.Cap>(0:Int))) (some (decide (a0.Cap<(5:Int)))) (some false)) (some false)) (some false)) (some false)) (some false)) (some false)
theorem ref18_May_w (a0:Port) (r:Bool) (h:ref18_May a0=some r):Go.VC.Spec Tryz.prog 155 [.agg (Port.enc a0)] (fun y=>y=E_Bool r):=by
 refine Go.VC.Spec.of_xc (args:=[.agg (Port.enc a0)]) (fn:=Tryz.f155) tab ⟨[(0,[1]),(1,[2])],[],[],[]⟩ 38 [.tmp 2] rfl rfl rfl rfl rfl rfl ?_
 conv=>whnf
 refine fkS h (fun h=>?_) (fun h=>?_)
 ·conv=>whnf
  refine fkS h (fun h=>?_) (fun h=>?_)
  ·conv=>whnf
   refine fkS h (fun h=>?_) (fun h=>?_)
   ·conv=>whnf
    refine fkS h (fun h=>?_) (fun h=>?_)
    ·conv=>whnf
     refine fkS h (fun h=>?_) (fun h=>?_)
     ·conv=>whnf
      refine fkS h (fun h=>?_) (fun h=>?_)
      ·conv=>whnf
       exact rt (E:=E_Bool) h rfl
      conv=>whnf
      exact rt (E:=E_Bool) h rfl
     conv=>whnf
     exact rt (E:=E_Bool) h rfl
    conv=>whnf
    exact rt (E:=E_Bool) h rfl
   conv=>whnf
   exact rt (E:=E_Bool) h rfl
  conv=>whnf
  exact rt (E:=E_Bool) h rfl
 conv=>whnf
 exact rt (E:=E_Bool) h rfl
end Go.Proofs.YtldlcdnhdedoeaaGreat
namespace Go.Proofs.YtldlcdnhdedoeaaGreat
open Go Go.VC
noncomputable def ref18_All (a0:List Port):Option Bool:=
 lp (fun nx1 (v1:Int)=>fk (decide (v1<(a0.length:Int))) (ix a0 v1 fun x2=>bnd (ref18_May x2) fun x3=>fk (!x3) (some false) (nx1 (wr (v1+(1:Int))))) (some (decide ((a0.length:Int)<(5:Int))))) FU (0:Int)
theorem ref18_All_w (a0:List Port) (r:Bool) (h:ref18_All a0=some r):Go.VC.Spec Tryz.prog 115 [.d (.sl (a0.map Port.enc))] (fun y=>y=E_Bool r):=by
 refine Go.VC.Spec.of_xc (args:=[.d (.sl (a0.map Port.enc))]) (fn:=Tryz.f115) tab ⟨[(0,[0]),(1,[0,3]),(2,[0,3,7]),(3,[0,3]),(4,[0,3,15]),(5,[2]),(6,[2])],[],[],[]⟩ 19 [.tmp 2] rfl rfl rfl rfl rfl rfl ?_
 conv=>whnf
 refine lpS (fun v1=>⟨[(0,.l (.d (.sl (a0.map Port.enc)))),(3,.l (.d (.int .i64 v1)))],19,[],[],[]⟩) h (Weak.refl _) (fun _ nx1 hn1 v1 h=>?_)
 conv=>whnf
 refine lenS a0 Port.enc rfl ?_
 conv=>whnf
 refine fkS h (fun h=>?_) (fun h=>?_)
 ·conv=>whnf
  refine ixS (enc:=Port.enc) h rfl (fun _=>rfl) (fun x2 h=>?_)
  conv=>whnf
  refine caS (E:=E_Bool) h (ref18_May_w x2) rfl (fun _=>rfl) (fun x3 h=>?_)
  conv=>whnf
  refine fkS h (fun h=>?_) (fun h=>?_)
  ·conv=>whnf
   exact rt (E:=E_Bool) h rfl
  conv=>whnf
  exact leS hn1 h (Weak.refl _)
 conv=>whnf
 refine lenS a0 Port.enc rfl ?_
 conv=>whnf
 exact rt (E:=E_Bool) h rfl
end Go.Proofs.YtldlcdnhdedoeaaGreat
namespace Go.Proofs.YtldlcdnhdedoeaaGreat
open Go Go.VC
noncomputable def ref19_Right (a0:Config):Option Bool:=
 jn (fun (w1:Bool)=>fk w1 (some false) (lp (fun nx3 (v3:Int)=>fk (decide (v3<(a0.Parts.length:Int))) (jn (fun (w4:Bool)=>fk w4 (some false) (nx3 (wr (v3+(1:Int))))) (fun k4=>ix a0.Parts v3 fun x5=>bnd (ref09_Right x5.Face) fun x6=>fk (!x6) (k4 true) (ix a0.Parts v3 fun x7=>bnd (ref05_All x7.Tasks) fun x8=>k4 (!x8)))) (lp (fun nx9 (v9:Int)=>fk (decide (v9<(a0.Ports.length:Int))) (jn (fun (w10:Bool)=>fk w10 (some false) (nx9 (wr (v9+(1:Int))))) (fun k10=>ix a0.Ports v9 fun x11=>fk (decide (x11.From≥(a0.Parts.length:Int))) (k10 true) (ix a0.Ports v9 fun x12=>k10 (decide (x12.To≥(a0.Parts.length:Int)))))) (some true)) FU (0:Int))) FU (0:Int))) (fun k1=>fk (decide ((a0.Parts.length:Int)>(4:Int))) (k1 true) (bnd (ref18_All a0.Ports) fun x2=>k1 (!x2)))
theorem ref19_Right_w (a0:Config) (r:Bool) (h:ref19_Right a0=some r):Go.VC.Spec Tryz.prog 57 [.agg (Config.enc a0)] (fun y=>y=E_Bool r):=by
 refine Go.VC.Spec.of_xc (args:=[.agg (Config.enc a0)]) (fn:=Tryz.f57) tab ⟨[(0,[1]),(1,[1,14]),(2,[2]),(3,[1,3]),(4,[1,3,19]),(5,[1,3]),(6,[1,3,39]),(7,[2]),(8,[1,4]),(9,[1,4,44]),(10,[1,4]),(11,[1,4,68]),(12,[2]),(13,[2])],[],[100014,100039,100068],[]⟩ 69 [.tmp 2] rfl rfl rfl rfl rfl rfl ?_
 conv=>whnf
 refine jnS (fun w1=>⟨[(1,.l (.ptr 2 0)),(14,.l (.d (.bool w1)))],69,[],[(2,[.d (.sl (a0.Parts.map Part.enc)),.d (.sl (a0.Ports.map Port.enc))])],[]⟩) h (fun k1 hk1 h=>?_) (fun w1 h=>?_)
 ·conv=>whnf
  refine lenS a0.Parts Part.enc rfl ?_
  conv=>whnf
  refine fkS h (fun h=>?_) (fun h=>?_)
  ·conv=>whnf
   exact jeS hk1 h (Weak.refl _)
  conv=>whnf
  refine caS (E:=E_Bool) h (ref18_All_w a0.Ports) rfl (fun _=>rfl) (fun x2 h=>?_)
  conv=>whnf
  exact jeS hk1 h (Weak.refl _)
 conv=>whnf
 refine fkS h (fun h=>?_) (fun h=>?_)
 ·conv=>whnf
  exact rt (E:=E_Bool) h rfl
 conv=>whnf
 refine lpS (fun v3=>⟨[(1,.l (.ptr 2 0)),(3,.l (.d (.int .i64 v3)))],69,[],[(2,[.d (.sl (a0.Parts.map Part.enc)),.d (.sl (a0.Ports.map Port.enc))])],[]⟩) h (Weak.refl _) (fun _ nx3 hn3 v3 h=>?_)
 conv=>whnf
 refine lenS a0.Parts Part.enc rfl ?_
 conv=>whnf
 refine fkS h (fun h=>?_) (fun h=>?_)
 ·conv=>whnf
  refine jnS (fun w4=>⟨[(1,.l (.ptr 2 0)),(3,.l (.d (.int .i64 v3))),(39,.l (.d (.bool w4)))],69,[],[(2,[.d (.sl (a0.Parts.map Part.enc)),.d (.sl (a0.Ports.map Port.enc))])],[]⟩) h (fun k4 hk4 h=>?_) (fun w4 h=>?_)
  ·conv=>whnf
   refine ixS (enc:=Part.enc) h rfl (fun _=>rfl) (fun x5 h=>?_)
   conv=>whnf
   refine caS (E:=E_Bool) h (ref09_Right_w x5.Face) rfl (fun _=>rfl) (fun x6 h=>?_)
   conv=>whnf
   refine fkS h (fun h=>?_) (fun h=>?_)
   ·conv=>whnf
    exact jeS hk4 h (Weak.refl _)
   conv=>whnf
   refine ixS (enc:=Part.enc) h rfl (fun _=>rfl) (fun x7 h=>?_)
   conv=>whnf
   refine caS (E:=E_Bool) h (ref05_All_w x7.Tasks) rfl (fun _=>rfl) (fun x8 h=>?_)
   conv=>whnf
   exact jeS hk4 h (Weak.refl _)
  conv=>whnf
  refine fkS h (fun h=>?_) (fun h=>?_)
  ·conv=>whnf
   exact rt (E:=E_Bool) h rfl
  conv=>whnf
  exact leS hn3 h (Weak.refl _)
 conv=>whnf
 refine lpS (fun v9=>⟨[(1,.l (.ptr 2 0)),(4,.l (.d (.int .i64 v9)))],69,[],[(2,[.d (.sl (a0.Parts.map Part.enc)),.d (.sl (a0.Ports.map Port.enc))])],[]⟩) h (Weak.refl _) (fun _ nx9 hn9 v9 h=>?_)
 conv=>whnf
 refine lenS a0.Ports Port.enc rfl ?_
 conv=>whnf
 refine fkS h (fun h=>?_) (fun h=>?_)
 ·conv=>whnf
  refine jnS (fun w10=>⟨[(1,.l (.ptr 2 0)),(4,.l (.d (.int .i64 v9))),(68,.l (.d (.bool w10)))],69,[],[(2,[.d (.sl (a0.Parts.map Part.enc)),.d (.sl (a0.Ports.map Port.enc))])],[]⟩) h (fun k10 hk10 h=>?_) (fun w10 h=>?_)
  ·conv=>whnf
   refine⟨22,?_⟩
   conv=>whnf
   refine ixS (enc:=Port.enc) h rfl (fun _=>rfl) (fun x11 h=>?_)
   conv=>whnf
   refine lenS a0.Parts Part.enc rfl ?_
   conv=>whnf
   refine fkS h (fun h=>?_) (fun h=>?_)
   ·conv=>whnf
    refine drS (by kernel_rfl) ?_
    conv=>whnf
    exact jeS hk10 h (Weak.refl _)
   conv=>whnf
   refine ixS (enc:=Port.enc) h rfl (fun _=>rfl) (fun x12 h=>?_)
   conv=>whnf
   refine lenS a0.Parts Part.enc rfl ?_
   conv=>whnf
   refine drS (by kernel_rfl) ?_
   conv=>whnf
   exact jeS hk10 h (Weak.refl _)
  conv=>whnf
  refine fkS h (fun h=>?_) (fun h=>?_)
  ·conv=>whnf
   exact rt (E:=E_Bool) h rfl
  conv=>whnf
  exact leS hn9 h (Weak.refl _)
 conv=>whnf
 exact rt (E:=E_Bool) h rfl
end Go.Proofs.YtldlcdnhdedoeaaGreat
namespace Go.Proofs.YtldlcdnhdedoeaaGreat
open Go Go.VC
noncomputable def table_Make (a0:List Face):Option (TableTable×Int):=
 bnd (synth_Lay a0) fun x1=>fk (!decide (x1.2=(0:Int))) (some (⟨(0:Int),[]⟩,x1.2)) (bnd (table_Of x1.1) fun x2=>some (x2.1,x2.2))
theorem table_Make_w (a0:List Face) (r:TableTable×Int) (h:table_Make a0=some r):Go.VC.Spec Tryz.prog 55 [.d (.sl (a0.map Face.enc))] (fun y=>y=E_TableTable_Int r):=by
 refine Go.VC.Spec.of_xc (args:=[.d (.sl (a0.map Face.enc))]) (fn:=Tryz.f55) tab ⟨[(0,[0,2]),(1,[2,4,5]),(2,[2,4,5,12]),(3,[2,3]),(4,[2,3])],[],[],[]⟩ 19 [.cell 2 30,.tmp 3] rfl rfl rfl rfl rfl rfl ?_
 conv=>whnf
 refine ccS (E:=E_ListInt_Int) h (synth_Lay_w a0) rfl rfl (fun x1 h=>?_)
 conv=>whnf
 refine fkS h (fun h=>?_) (fun h=>?_)
 ·conv=>whnf
  exact rt (E:=E_TableTable_Int) h rfl
 conv=>whnf
 refine ccS (E:=E_TableTable_Int) h (table_Of_w x1.1) rfl rfl (fun x2 h=>?_)
 conv=>whnf
 exact rt (E:=E_TableTable_Int) h rfl
end Go.Proofs.YtldlcdnhdedoeaaGreat
namespace Go.Proofs.YtldlcdnhdedoeaaGreat
open Go Go.VC
noncomputable def kernel_Boot (a0:Config):Option (KernelState×Int):=
 bnd (image_Right a0) fun x1=>fk (!x1) (some (⟨⟨(0:Int),[]⟩,[],[],[],(0:Int)⟩,(1:Int))) (lp (fun nx2 (v2:(List Face)×Int)=>fk (decide (v2.2<(a0.Parts.length:Int))) (ix a0.Parts v2.2 fun x3=>ck (decide ((v2.1.length+([x3.Face]:List Face).length)*16≤140737488355328)) (nx2 (v2.1++([x3.Face]:List Face),(wr (v2.2+(1:Int)))))) (bnd (table_Make v2.1) fun x4=>fk (!decide (x4.2=(0:Int))) (some (⟨⟨(0:Int),[]⟩,[],[],[],(0:Int)⟩,x4.2)) (lp (fun nx5 (v5:(List PartState)×Int)=>fk (decide (v5.2<(a0.Parts.length:Int))) (ix a0.Parts v5.2 fun x6=>bnd (admit_Boot x6) fun x7=>fk (!decide (x7.2=(0:Int))) (some (⟨⟨(0:Int),[]⟩,[],[],[],(0:Int)⟩,x7.2)) (ck (decide ((v5.1.length+([x7.1]:List PartState).length)*120≤140737488355328)) (nx5 (v5.1++([x7.1]:List PartState),(wr (v5.2+(1:Int))))))) (bnd (port_Open a0.Ports) fun x8=>some (⟨x4.1,v2.1,v5.1,x8.1,(0:Int)⟩,(0:Int)))) FU ([],(0:Int))))) FU ([],(0:Int)))
theorem kernel_Boot_w (a0:Config) (r:KernelState×Int) (h:kernel_Boot a0=some r):Go.VC.Spec Tryz.prog 14 [.agg (Config.enc a0)] (fun y=>y=E_KernelState_Int r):=by
 refine Go.VC.Spec.of_xc (args:=[.agg (Config.enc a0)]) (fn:=Tryz.f14) tab ⟨[(0,[1,2]),(1,[1,2,14]),(2,[2,3]),(3,[1,2,4]),(4,[1,2,4]),(5,[1,2,4,17,18,19]),(6,[1,2,4,17,18,19,20]),(7,[1,2,4,7,17,18,19]),(8,[1,2,4,17,18,19]),(9,[1,2,4,17,18,19]),(10,[1,2,4,5]),(11,[1,2,4,5,39]),(12,[2,3]),(13,[1,2,4,43,44,45]),(14,[1,2,4,43,44,45,46]),(15,[1,2,4,9,43,44,45]),(16,[1,2,4,10,11,43,44,45]),(17,[1,2,4,10,11,43,44,45,55]),(18,[2,3]),(19,[1,2,4,43,44,45]),(20,[1,2,4,43,44,45]),(21,[2,4]),(22,[2,3])],[],[],[]⟩ 73 [.cell 2 35,.tmp 3] rfl rfl rfl rfl rfl rfl ?_
 conv=>whnf
 refine caS (E:=E_Bool) h (image_Right_w a0) rfl (fun _=>rfl) (fun x1 h=>?_)
 conv=>whnf
 refine fkS h (fun h=>?_) (fun h=>?_)
 ·conv=>whnf
  exact rt (E:=E_KernelState_Int) h rfl
 conv=>whnf
 refine lenS a0.Parts Part.enc rfl ?_
 conv=>whnf
 refine lpS (fun v2=>⟨[(1,.l (.ptr 2 0)),(2,.l (.ptr 3 0)),(4,.l (.ptr 5 0)),(17,.l (.d (.sl (a0.Parts.map Part.enc)))),(18,.l (.d (.int .i64 (a0.Parts.length:Int)))),(19,.l (.d (.int .i64 v2.2)))],73,[],[(2,[.d (.sl (a0.Parts.map Part.enc)),.d (.sl (a0.Ports.map Port.enc))]),(3,[.d (.int .i64 (0:Int)),.nil,.nil,.nil,.nil,.d (.int .i64 (0:Int))]),(5,[.d (.int .i64 (0:Int)),.nil,.own 50502,.nil,.nil,.d (.int .i64 (0:Int))])],[(50502,55,2,v2.1.map Face.enc)]⟩) h (Weak.trans (Weak.nilBO _ 5 2 50502 55 2 _ rfl rfl) (Weak.refl _)) (fun _ nx2 hn2 v2 h=>?_)
 conv=>whnf
 refine fkS h (fun h=>?_) (fun h=>?_)
 ·conv=>whnf
  refine ixS (enc:=Part.enc) h rfl (fun _=>rfl) (fun x3 h=>?_)
  conv=>whnf
  refine liS ([x3.Face]:List Face) Face.enc rfl rfl ?_
  conv=>whnf
  refine apS (enc:=Face.enc) (l1:=v2.1) (l2:=([x3.Face]:List Face)) h rfl rfl (fun _=>rfl) (fun h=>?_)
  conv=>whnf
  refine leX hn2 h ?_
  conv=>whnf
  refine WkF.step (Weak.rekey _ 29 50502 rfl) ?_
  conv=>whnf
  exact WkF.refl _
 conv=>whnf
 refine iceS 50502 ?_
 conv=>whnf
 refine ccS (E:=E_TableTable_Int) h (table_Make_w v2.1) rfl rfl (fun x4 h=>?_)
 conv=>whnf
 refine fkS h (fun h=>?_) (fun h=>?_)
 ·conv=>whnf
  exact rt (E:=E_KernelState_Int) h rfl
 conv=>whnf
 refine lenS a0.Parts Part.enc rfl ?_
 conv=>whnf
 refine lpS (fun v5=>⟨[(1,.l (.ptr 2 0)),(2,.l (.ptr 3 0)),(4,.l (.ptr 5 0)),(43,.l (.d (.sl (a0.Parts.map Part.enc)))),(44,.l (.d (.int .i64 (a0.Parts.length:Int)))),(45,.l (.d (.int .i64 v5.2)))],73,[],[(2,[.d (.sl (a0.Parts.map Part.enc)),.d (.sl (a0.Ports.map Port.enc))]),(3,[.d (.int .i64 (0:Int)),.nil,.nil,.nil,.nil,.d (.int .i64 (0:Int))]),(5,[.d (.int .i64 x4.1.Frame),.d (.sl (x4.1.Windows.map Window.enc)),.d (.sl (v2.1.map Face.enc)),.own 50503,.nil,.d (.int .i64 (0:Int))])],[(50503,51,5,v5.1.map PartState.enc)]⟩) h (Weak.trans (Weak.nilBO _ 5 3 50503 51 5 _ rfl rfl) (Weak.refl _)) (fun _ nx5 hn5 v5 h=>?_)
 conv=>whnf
 refine fkS h (fun h=>?_) (fun h=>?_)
 ·conv=>whnf
  refine ixS (enc:=Part.enc) h rfl (fun _=>rfl) (fun x6 h=>?_)
  conv=>whnf
  refine ccS (E:=E_PartState_Int) h (admit_Boot_w x6) rfl rfl (fun x7 h=>?_)
  conv=>whnf
  refine fkS h (fun h=>?_) (fun h=>?_)
  ·conv=>whnf
   exact rt (E:=E_KernelState_Int) h rfl
  conv=>whnf
  refine liS ([x7.1]:List PartState) PartState.enc rfl rfl ?_
  conv=>whnf
  refine apS (enc:=PartState.enc) (l1:=v5.1) (l2:=([x7.1]:List PartState)) h rfl rfl (fun _=>rfl) (fun h=>?_)
  conv=>whnf
  refine leX hn5 h ?_
  conv=>whnf
  refine WkF.step (Weak.rekey _ 63 50503 rfl) ?_
  conv=>whnf
  exact WkF.refl _
 conv=>whnf
 refine ccS (E:=E_ListPortLine_Int) h (port_Open_w a0.Ports) rfl rfl (fun x8 h=>?_)
 conv=>whnf
 exact rt (E:=E_KernelState_Int) h rfl
end Go.Proofs.YtldlcdnhdedoeaaGreat
namespace Go.Proofs.YtldlcdnhdedoeaaGreat
open Go Go.VC
noncomputable def law19_Great (a0:Config):Option Bool:=
 lp (fun nx1 (v1:Int)=>fk (decide (v1<(a0.Parts.length:Int))) (ix a0.Parts v1 fun x2=>bnd (law05_Great x2.Tasks) fun x3=>fk x3 (some true) (nx1 (wr (v1+(1:Int))))) (fk (decide ((a0.Parts.length:Int)>(20:Int))) (some true) (some (decide ((a0.Ports.length:Int)>(20:Int)))))) FU (0:Int)
theorem law19_Great_w (a0:Config) (r:Bool) (h:law19_Great a0=some r):Go.VC.Spec Tryz.prog 49 [.agg (Config.enc a0)] (fun y=>y=E_Bool r):=by
 refine Go.VC.Spec.of_xc (args:=[.agg (Config.enc a0)]) (fn:=Tryz.f49) tab ⟨[(0,[1]),(1,[1,3]),(2,[1,3,8]),(3,[1,3]),(4,[1,3,17]),(5,[2]),(6,[2])],[],[],[]⟩ 28 [.tmp 2] rfl rfl rfl rfl rfl rfl ?_
 conv=>whnf
 refine lpS (fun v1=>⟨[(1,.l (.ptr 2 0)),(3,.l (.d (.int .i64 v1)))],28,[],[(2,[.d (.sl (a0.Parts.map Part.enc)),.d (.sl (a0.Ports.map Port.enc))])],[]⟩) h (Weak.refl _) (fun _ nx1 hn1 v1 h=>?_)
 conv=>whnf
 refine lenS a0.Parts Part.enc rfl ?_
 conv=>whnf
 refine fkS h (fun h=>?_) (fun h=>?_)
 ·conv=>whnf
  refine ixS (enc:=Part.enc) h rfl (fun _=>rfl) (fun x2 h=>?_)
  conv=>whnf
  refine caS (E:=E_Bool) h (law05_Great_w x2.Tasks) rfl (fun _=>rfl) (fun x3 h=>?_)
  conv=>whnf
  refine fkS h (fun h=>?_) (fun h=>?_)
  ·conv=>whnf
   exact rt (E:=E_Bool) h rfl
  conv=>whnf
  exact leS hn1 h (Weak.refl _)
 conv=>whnf
 refine lenS a0.Parts Part.enc rfl ?_
 conv=>whnf
 refine fkS h (fun h=>?_) (fun h=>?_)
 ·conv=>whnf
  exact rt (E:=E_Bool) h rfl
 conv=>whnf
 refine lenS a0.Ports Port.enc rfl ?_
 conv=>whnf
 exact rt (E:=E_Bool) h rfl
end Go.Proofs.YtldlcdnhdedoeaaGreat
namespace Go.Proofs.YtldlcdnhdedoeaaGreat
open Go Go.VC
noncomputable def law21_Great (a0:Config):Option Bool:=
 bnd (law19_Great a0) fun x1=>fk x1 (some true) (lp (fun nx2 (v2:Int)=>fk (decide (v2<(a0.Parts.length:Int))) (ix a0.Parts v2 fun x3=>ix a0.Parts v2 fun x4=>bnd (ref10_Cycle x3.Tasks x4.Face) fun x5=>fk (decide (x5.2.1>(200:Int))) (some true) (nx2 (wr (v2+(1:Int))))) (some false)) FU (0:Int))
theorem law21_Great_w (a0:Config) (r:Bool) (h:law21_Great a0=some r):Go.VC.Spec Tryz.prog 12 [.agg (Config.enc a0)] (fun y=>y=E_Bool r):=by
 refine Go.VC.Spec.of_xc (args:=[.agg (Config.enc a0)]) (fn:=Tryz.f12) tab ⟨[(0,[1]),(1,[1,8]),(2,[2]),(3,[1,3]),(4,[1,3,13]),(5,[1,3]),(6,[1,3,5]),(7,[1,3,34]),(8,[2]),(9,[2])],[],[],[]⟩ 35 [.tmp 2] rfl rfl rfl rfl rfl rfl ?_
 conv=>whnf
 refine caS (E:=E_Bool) h (law19_Great_w a0) rfl (fun _=>rfl) (fun x1 h=>?_)
 conv=>whnf
 refine fkS h (fun h=>?_) (fun h=>?_)
 ·conv=>whnf
  exact rt (E:=E_Bool) h rfl
 conv=>whnf
 refine lpS (fun v2=>⟨[(1,.l (.ptr 2 0)),(3,.l (.d (.int .i64 v2)))],35,[],[(2,[.d (.sl (a0.Parts.map Part.enc)),.d (.sl (a0.Ports.map Port.enc))])],[]⟩) h (Weak.refl _) (fun _ nx2 hn2 v2 h=>?_)
 conv=>whnf
 refine lenS a0.Parts Part.enc rfl ?_
 conv=>whnf
 refine fkS h (fun h=>?_) (fun h=>?_)
 ·conv=>whnf
  refine⟨19,?_⟩
  conv=>whnf
  refine ixS (enc:=Part.enc) h rfl (fun _=>rfl) (fun x3 h=>?_)
  conv=>whnf
  refine ixS (enc:=Part.enc) h rfl (fun _=>rfl) (fun x4 h=>?_)
  conv=>whnf
  refine daS (E:=E_Int_Int_Int) h (ref10_Cycle_w x3.Tasks x4.Face) (fun _=>rfl) (fun x5 h=>?_)
  conv=>whnf
  refine drS (by kernel_rfl) ?_
  conv=>whnf
  refine fkS h (fun h=>?_) (fun h=>?_)
  ·conv=>whnf
   exact rt (E:=E_Bool) h rfl
  conv=>whnf
  exact leS hn2 h (Weak.refl _)
 conv=>whnf
 exact rt (E:=E_Bool) h rfl
end Go.Proofs.YtldlcdnhdedoeaaGreat
namespace Go.Proofs.YtldlcdnhdedoeaaGreat
open Go Go.VC
/-! Systems, and how they begin. -/
def portIn (n:Int) (p:Port):Prop:=p.From<n∧p.To<n
structure confP (c:Config):Prop where
 ps:∀p∈c.Parts,faceP p.Face∧AllP p.Tasks
 pl:c.Parts.length≤4
 qs:∀p∈c.Ports,portP p
 qi:∀p∈c.Ports,portIn (c.Parts.length:Int) p
 ql:c.Ports.length≤4
noncomputable instance (c:Config):Decidable (confP c):=Classical.propDecidable _
structure confB (c:Config):Prop where
 p:c.Parts.length≤4611686018427387904
 q:c.Ports.length≤1000
 t:∀p∈c.Parts,p.Tasks.length≤4611686018427387904∧∀t∈p.Tasks,t.Secs.length≤4611686018427387904
theorem mem_take_succ {α:Type} {l:List α} {k:Nat} (h:k<l.length) {x:α} (hx:x∈l.take (k+1)):x∈l.take k∨x=l[k]:=by
 rw[←List.take_append_getElem h] at hx
 rcases List.mem_append.1 hx with h | h
 ·exact .inl h
 ·exact .inr (List.mem_singleton.1 h)
theorem image_Right_eq (c:Config) (hb:confB c):image_Right c=some (decide (confP c)):=by
 unfold image_Right
 refine lp_up c.Parts.length (by unfold FU; have:=hb.p; omega) (fun k=>∀p∈c.Parts.take k,faceP p.Face∧AllP p.Tasks) (fun p h=>by simp at h) ?_
 intro nx k hk J hnx
 rw[lt_nat]
 by_cases hk':k<c.Parts.length
 ·have hm:=List.getElem_mem hk'
  rw[decide_eq_true hk',fk_t,ix_lt hk',wr_succ k _ hk' hb.p]
  by_cases hh:faceP c.Parts[k].Face∧AllP c.Parts[k].Tasks
  ·refine jn_to false (fun k3=>?_) ?_
   ·rw[bnd_eq (supply_Right_eq _),decide_eq_true hh.1,Bool.not_true,fk_f,bnd_eq (task_All_eq _ (hb.t _ hm).1),decide_eq_true hh.2]; rfl
   ·rw[fk_f]
    refine hnx hk' fun p hp=>?_
    rcases mem_take_succ hk' hp with h | rfl
    ·exact J p h
    ·exact hh
  ·refine jn_to true (fun k3=>?_) ?_
   ·rw[bnd_eq (supply_Right_eq _)]
    by_cases h1:faceP c.Parts[k].Face
    ·rw[decide_eq_true h1,Bool.not_true,fk_f,bnd_eq (task_All_eq _ (hb.t _ hm).1),decide_eq_false (fun h2=>hh ⟨h1,h2⟩)]; rfl
    ·rw[decide_eq_false h1,Bool.not_false,fk_t]
   ·rw[fk_t,decide_eq_false (fun h:confP c=>hh (h.ps _ hm))]
 rw[List.take_of_length_le (by omega)] at J
 rw[decide_eq_false hk',fk_f]
 clear hnx nx hk hk' k
 refine lp_up c.Ports.length (by unfold FU; have:=hb.q; omega) (fun k=>∀p∈c.Ports.take k,portIn (c.Parts.length:Int) p) (fun p h=>by simp at h) ?_
 intro nx k hk J2 hnx
 rw[lt_nat]
 by_cases hk':k<c.Ports.length
 ·have hm:=List.getElem_mem hk'
  rw[decide_eq_true hk',fk_t,ix_lt hk',wr_succ k _ hk' (by have:=hb.q; omega)]
  by_cases hh:portIn (c.Parts.length:Int) c.Ports[k]
  ·refine jn_to false (fun k3=>?_) ?_
   ·unfold portIn at hh
    rw[decide_eq_false (by omega),fk_f,decide_eq_false (by omega)]
   ·rw[fk_f]
    refine hnx hk' fun p hp=>?_
    rcases mem_take_succ hk' hp with h | rfl
    ·exact J2 p h
    ·exact hh
  ·refine jn_to true (fun k3=>?_) ?_
   ·unfold portIn at hh
    by_cases h1:c.Ports[k].From≥(c.Parts.length:Int)
    ·rw[decide_eq_true h1,fk_t]
    ·rw[decide_eq_false h1,fk_f,decide_eq_true (show c.Ports[k].To≥(c.Parts.length:Int) from Int.not_lt.1 fun h2=>hh ⟨by omega,h2⟩)]
   ·rw[fk_t,decide_eq_false (fun h:confP c=>hh (h.qi _ hm))]
 rw[List.take_of_length_le (by omega)] at J2
 rw[decide_eq_false hk',fk_f,bnd_eq (port_Open_eq _ hb.q)]
 by_cases ho:(∀p∈c.Ports,portP p)∧c.Ports.length≤4
 ·rw[if_pos ho,decide_eq_true rfl,fk_t]
  exact dec_iff ⟨fun h=>⟨J,by omega,ho.1,J2,ho.2⟩,fun h=>by have:=h.pl; omega⟩
 ·rw[if_neg ho]
  show fk (decide ((1:Int)=0)) _ _=_
  rw[decide_eq_false (by decide),fk_f]
  exact dec_f fun h=>ho ⟨h.qs,h.ql⟩
theorem ref18_May_eq (p:Port):ref18_May p=some (decide (portP p)):=by
 unfold ref18_May portP
 by_cases h1:p.From≥0
 rotate_left
 ·rw[decide_eq_false h1,fk_f]; exact dec_f fun a=>h1 a.1
 rw[decide_eq_true h1,fk_t]
 by_cases h2:p.From<4
 rotate_left
 ·rw[decide_eq_false h2,fk_f]; exact dec_f fun a=>h2 a.2.1
 rw[decide_eq_true h2,fk_t]
 by_cases h3:p.To≥0
 rotate_left
 ·rw[decide_eq_false h3,fk_f]; exact dec_f fun a=>h3 a.2.2.1
 rw[decide_eq_true h3,fk_t]
 by_cases h4:p.To<4
 rotate_left
 ·rw[decide_eq_false h4,fk_f]; exact dec_f fun a=>h4 a.2.2.2.1
 rw[decide_eq_true h4,fk_t]
 by_cases h5:p.To=p.From
 ·rw[decide_eq_true h5,Bool.not_true,fk_f]; exact dec_f fun a=>a.2.2.2.2.1 h5.symm
 rw[decide_eq_false h5,Bool.not_false,fk_t]
 by_cases h6:p.Cap>0
 rotate_left
 ·rw[decide_eq_false h6,fk_f]; exact dec_f fun a=>h6 (by have:=a.2.2.2.2.2.1; omega)
 rw[decide_eq_true h6,fk_t]
 exact dec_iff ⟨fun a=>⟨h1,h2,h3,h4,fun e=>h5 e.symm,by omega,by omega⟩,fun a=>by omega⟩
theorem ref18_All_eq (l:List Port) (hl:l.length≤1000):ref18_All l=some (decide ((∀p∈l,portP p)∧l.length≤4)):=by
 unfold ref18_All
 refine lp_up l.length (by unfold FU; omega) (fun k=>∀p∈l.take k,portP p) (fun p h=>by simp at h) ?_
 intro nx k hk J hnx
 rw[lt_nat]
 by_cases hk':k<l.length
 ·rw[decide_eq_true hk',fk_t,ix_lt hk',bnd_eq (ref18_May_eq _),wr_succ k _ hk' (by omega)]
  by_cases hh:portP l[k]
  ·rw[decide_eq_true hh,Bool.not_true,fk_f]
   refine hnx hk' fun p hp=>?_
   rcases mem_take_succ hk' hp with h | rfl
   ·exact J p h
   ·exact hh
  ·rw[decide_eq_false hh,Bool.not_false,fk_t]
   exact dec_f fun h=>hh (h.1 _ (List.getElem_mem hk'))
 ·rw[List.take_of_length_le (by omega)] at J
  rw[decide_eq_false hk',fk_f]
  exact dec_iff ⟨fun h=>⟨J,by omega⟩,fun h=>by have:=h.2; omega⟩
theorem ref19_Right_eq (c:Config) (hb:confB c):ref19_Right c=some (decide (confP c)):=by
 unfold ref19_Right
 by_cases h0:c.Parts.length≤4∧(∀p∈c.Ports,portP p)∧c.Ports.length≤4
 rotate_left
 ·refine jn_to true (fun k=>?_) (by rw[fk_t]; exact dec_f fun h=>h0 ⟨h.pl,h.qs,h.ql⟩)
  by_cases h1:c.Parts.length≤4
  ·rw[decide_eq_false (by omega),fk_f,bnd_eq (ref18_All_eq _ hb.q),decide_eq_false (fun h=>h0 ⟨h1,h⟩)]; rfl
  ·rw[decide_eq_true (by omega),fk_t]
 obtain⟨h1,h2,h3⟩:=h0
 refine jn_to false (fun k=>by rw[decide_eq_false (by omega),fk_f,bnd_eq (ref18_All_eq _ hb.q),decide_eq_true ⟨h2,h3⟩]; rfl) ?_
 rw[fk_f]
 refine lp_up c.Parts.length (by unfold FU; omega) (fun k=>∀p∈c.Parts.take k,faceP p.Face∧AllP p.Tasks) (fun p h=>by simp at h) ?_
 intro nx k hk J hnx
 rw[lt_nat]
 by_cases hk':k<c.Parts.length
 ·have hm:=List.getElem_mem hk'
  rw[decide_eq_true hk',fk_t,wr_succ k _ hk' (by omega)]
  by_cases hh:faceP c.Parts[k].Face∧AllP c.Parts[k].Tasks
  ·refine jn_to false (fun k3=>?_) ?_
   ·rw[ix_lt hk',bnd_eq (ref09_Right_eq _),decide_eq_true hh.1,Bool.not_true,fk_f,ix_lt hk',bnd_eq (ref05_All_eq _ (hb.t _ hm).1 (hb.t _ hm).2),decide_eq_true hh.2]; rfl
   ·rw[fk_f]
    refine hnx hk' fun p hp=>?_
    rcases mem_take_succ hk' hp with h | rfl
    ·exact J p h
    ·exact hh
  ·refine jn_to true (fun k3=>?_) ?_
   ·rw[ix_lt hk',bnd_eq (ref09_Right_eq _)]
    by_cases g1:faceP c.Parts[k].Face
    ·rw[decide_eq_true g1,Bool.not_true,fk_f,ix_lt hk',bnd_eq (ref05_All_eq _ (hb.t _ hm).1 (hb.t _ hm).2),decide_eq_false (fun g2=>hh ⟨g1,g2⟩)]; rfl
    ·rw[decide_eq_false g1,Bool.not_false,fk_t]
   ·rw[fk_t,decide_eq_false (fun h:confP c=>hh (h.ps _ hm))]
 rw[List.take_of_length_le (by omega)] at J
 rw[decide_eq_false hk',fk_f]
 clear hnx nx hk hk' k
 refine lp_up c.Ports.length (by unfold FU; omega) (fun k=>∀p∈c.Ports.take k,portIn (c.Parts.length:Int) p) (fun p h=>by simp at h) ?_
 intro nx k hk J2 hnx
 rw[lt_nat]
 by_cases hk':k<c.Ports.length
 ·have hm:=List.getElem_mem hk'
  rw[decide_eq_true hk',fk_t,wr_succ k _ hk' (by omega)]
  by_cases hh:portIn (c.Parts.length:Int) c.Ports[k]
  ·refine jn_to false (fun k3=>?_) ?_
   ·unfold portIn at hh
    rw[ix_lt hk',decide_eq_false (by omega),fk_f,ix_lt hk',decide_eq_false (by omega)]
   ·rw[fk_f]
    refine hnx hk' fun p hp=>?_
    rcases mem_take_succ hk' hp with h | rfl
    ·exact J2 p h
    ·exact hh
  ·refine jn_to true (fun k3=>?_) ?_
   ·unfold portIn at hh
    rw[ix_lt hk']
    by_cases g1:c.Ports[k].From≥(c.Parts.length:Int)
    ·rw[decide_eq_true g1,fk_t]
    ·rw[decide_eq_false g1,fk_f,ix_lt hk',decide_eq_true (show c.Ports[k].To≥(c.Parts.length:Int) from Int.not_lt.1 fun g2=>hh ⟨by omega,g2⟩)]
   ·rw[fk_t,decide_eq_false (fun h:confP c=>hh (h.qi _ hm))]
 ·rw[List.take_of_length_le (by omega)] at J2
  rw[decide_eq_false hk',fk_f]
  exact dec_t ⟨J,h1,h2,J2,h3⟩
def zeroK:KernelState:=⟨⟨0,[]⟩,[],[],[],0⟩
structure booted (c:Config) (s:KernelState) (ticks:List Int):Prop where
 conf:confP c
 faces:s.Faces=c.Parts.map (·.Face)
 parts:s.Parts=c.Parts.map fun p=>new0 p.Tasks
 lines:s.Lines=c.Ports.map newL
 now:s.Now=0
 tab:tabP s.Table
 len:s.Table.Frame=(ticks.length:Int)
 at':∀(x:Nat) (y:Int),ticks[x]?=some y→whoV s.Table.Windows (x:Int)=y
theorem great_ex (c:Config) (hp:c.Parts.length≤4611686018427387904) (ht:∀p∈c.Parts,p.Tasks.length≤4611686018427387904∧∀t∈p.Tasks,t.Secs.length≤4611686018427387904):∃b,law21_Great c=some b∧(b=false→c.Parts.length≤20∧c.Ports.length≤20):=by
 have h19:∃b,law19_Great c=some b∧(b=false→c.Parts.length≤20∧c.Ports.length≤20):=by
  unfold law19_Great
  refine lp_up_ex c.Parts.length (by unfold FU; omega) (fun _=>True) (fun b=>b=false→c.Parts.length≤20∧c.Ports.length≤20) trivial ?_
  intro nx k hk _ hnx
  rw[lt_nat]
  by_cases hk':k<c.Parts.length
  ·rw[decide_eq_true hk',fk_t,ix_lt hk',bnd_eq (law05_Great_eq _ (ht _ (List.getElem_mem hk')).1),wr_succ k _ hk' hp]
   by_cases hg:GreatP c.Parts[k].Tasks
   ·rw[decide_eq_true hg,fk_t]; exact⟨true,rfl,fun h=>by cases h⟩
   ·rw[decide_eq_false hg,fk_f]; exact hnx hk' trivial
  ·rw[decide_eq_false hk',fk_f]
   by_cases h1:(c.Parts.length:Int)>20
   ·rw[decide_eq_true h1,fk_t]; exact⟨true,rfl,fun h=>by cases h⟩
   ·rw[decide_eq_false h1,fk_f]
    exact⟨_,rfl,fun h=>by rw[decide_eq_false_iff_not] at h; omega⟩
 obtain⟨b,e,hb⟩:=h19
 unfold law21_Great
 rw[bnd_eq e]
 cases b with
 | true=>rw[fk_t]; exact⟨true,rfl,fun h=>by cases h⟩
 | false=>
 rw[fk_f]
 refine lp_up_ex c.Parts.length (by unfold FU; omega) (fun _=>True) (fun b=>b=false→c.Parts.length≤20∧c.Ports.length≤20) trivial ?_
 intro nx k hk _ hnx
 rw[lt_nat]
 by_cases hk':k<c.Parts.length
 ·have hm:=ht _ (List.getElem_mem hk')
  rw[decide_eq_true hk',fk_t,ix_lt hk',ix_lt hk',bnd_eq (ref10_Cycle_eq _ _ hm.1 hm.2),wr_succ k _ hk' hp]
  by_cases hg:(cycV c.Parts[k].Tasks c.Parts[k].Face).2.1>200
  ·rw[decide_eq_true hg,fk_t]; exact⟨true,rfl,fun h=>by cases h⟩
  ·rw[decide_eq_false hg,fk_f]; exact hnx hk' trivial
 ·rw[decide_eq_false hk',fk_f]; exact⟨false,rfl,fun _=>hb rfl⟩
end Go.Proofs.YtldlcdnhdedoeaaGreat
namespace Go.Proofs.YtldlcdnhdedoeaaGreat
open Go Go.VC
noncomputable def admit_Drop (a0:PartState) (a1:Int):Option (PartState×Int):=
 bnd (part_Leave a0 a1) fun x1=>some (x1.1,x1.2)
theorem admit_Drop_w (a0:PartState) (a1:Int) (r:PartState×Int) (h:admit_Drop a0 a1=some r):Go.VC.Spec Tryz.prog 32 [.agg (PartState.enc a0),.d (.int .i64 a1)] (fun y=>y=E_PartState_Int r):=by
 refine Go.VC.Spec.of_xc (args:=[.agg (PartState.enc a0),.d (.int .i64 a1)]) (fn:=Tryz.f32) tab ⟨[(0,[1,2,4]),(1,[4,5])],[],[],[]⟩ 11 [.cell 4 51,.tmp 5] rfl rfl rfl rfl rfl rfl ?_
 conv=>whnf
 refine ccS (E:=E_PartState_Int) h (part_Leave_w a0 a1) rfl rfl (fun x1 h=>?_)
 conv=>whnf
 exact rt (E:=E_PartState_Int) h rfl
end Go.Proofs.YtldlcdnhdedoeaaGreat
namespace Go.Proofs.YtldlcdnhdedoeaaGreat
open Go Go.VC
noncomputable def admit_Change (a0:PartState) (a1:Face) (a2:Int) (a3:Task):Option (PartState×Int):=
 bnd (admit_Drop a0 a2) fun x1=>fk (!decide (x1.2=(0:Int))) (some (a0,x1.2)) (bnd (admit_Add x1.1 a1 a3) fun x2=>fk (!decide (x2.2=(0:Int))) (some (a0,x2.2)) (some (x2.1,(0:Int))))
theorem admit_Change_w (a0:PartState) (a1:Face) (a2:Int) (a3:Task) (r:PartState×Int) (h:admit_Change a0 a1 a2 a3=some r):Go.VC.Spec Tryz.prog 33 [.agg (PartState.enc a0),.agg (Face.enc a1),.d (.int .i64 a2),.agg (Task.enc a3)] (fun y=>y=E_PartState_Int r):=by
 refine Go.VC.Spec.of_xc (args:=[.agg (PartState.enc a0),.agg (Face.enc a1),.d (.int .i64 a2),.agg (Task.enc a3)]) (fn:=Tryz.f33) tab ⟨[(0,[2,4,5,7,8]),(1,[4,5,7,8,10,11]),(2,[4,5,7,8,10,11,19]),(3,[8,9]),(4,[4,8,10,11]),(5,[4,8,10,11,30]),(6,[8,9]),(7,[8,9])],[],[],[]⟩ 34 [.cell 8 51,.tmp 9] rfl rfl rfl rfl rfl rfl ?_
 conv=>whnf
 refine ccS (E:=E_PartState_Int) h (admit_Drop_w a0 a2) rfl rfl (fun x1 h=>?_)
 conv=>whnf
 refine fkS h (fun h=>?_) (fun h=>?_)
 ·conv=>whnf
  exact rt (E:=E_PartState_Int) h rfl
 conv=>whnf
 refine ccS (E:=E_PartState_Int) h (admit_Add_w x1.1 a1 a3) rfl rfl (fun x2 h=>?_)
 conv=>whnf
 refine fkS h (fun h=>?_) (fun h=>?_)
 ·conv=>whnf
  exact rt (E:=E_PartState_Int) h rfl
 conv=>whnf
 exact rt (E:=E_PartState_Int) h rfl
end Go.Proofs.YtldlcdnhdedoeaaGreat
namespace Go.Proofs.YtldlcdnhdedoeaaGreat
open Go Go.VC
noncomputable def kernel_Right (a0:KernelState):Option Bool:=
 lp (fun nx1 (v1:Int)=>fk (decide (v1<(a0.Parts.length:Int))) (ix a0.Parts v1 fun x2=>bnd (part_Right x2) fun x3=>fk (!x3) (some false) (nx1 (wr (v1+(1:Int))))) (bnd (table_Right a0.Table) fun x4=>fk x4 (fk (decide ((a0.Faces.length:Int)=(a0.Parts.length:Int))) (fk (decide ((a0.Parts.length:Int)≤(4:Int))) (bnd (port_Right a0.Lines) fun x5=>fk x5 (fk (decide (a0.Now≥(0:Int))) (some (decide (a0.Now≤(4611686018427387703:Int)))) (some false)) (some false)) (some false)) (some false)) (some false))) FU (0:Int)
theorem kernel_Right_w (a0:KernelState) (r:Bool) (h:kernel_Right a0=some r):Go.VC.Spec Tryz.prog 17 [.agg (KernelState.enc a0)] (fun y=>y=E_Bool r):=by
 refine Go.VC.Spec.of_xc (args:=[.agg (KernelState.enc a0)]) (fn:=Tryz.f17) tab ⟨[(0,[1]),(1,[1,6,7,8]),(2,[1,6,7,8,9]),(3,[1,4,6,7,8]),(4,[1,6,7,8,14]),(5,[2]),(6,[1,6,7,8]),(7,[2])],[],[],[]⟩ 49 [.tmp 2] rfl rfl rfl rfl rfl rfl ?_
 conv=>whnf
 refine lenS a0.Parts PartState.enc rfl ?_
 conv=>whnf
 refine lpS (fun v1=>⟨[(1,.l (.ptr 2 0)),(6,.l (.d (.sl (a0.Parts.map PartState.enc)))),(7,.l (.d (.int .i64 (a0.Parts.length:Int)))),(8,.l (.d (.int .i64 v1)))],49,[],[(2,[.d (.int .i64 a0.Table.Frame),.d (.sl (a0.Table.Windows.map Window.enc)),.d (.sl (a0.Faces.map Face.enc)),.d (.sl (a0.Parts.map PartState.enc)),.d (.sl (a0.Lines.map PortLine.enc)),.d (.int .i64 a0.Now)])],[]⟩) h (Weak.refl _) (fun _ nx1 hn1 v1 h=>?_)
 conv=>whnf
 refine fkS h (fun h=>?_) (fun h=>?_)
 ·conv=>whnf
  refine ixS (enc:=PartState.enc) h rfl (fun _=>rfl) (fun x2 h=>?_)
  conv=>whnf
  refine caS (E:=E_Bool) h (part_Right_w x2) rfl (fun _=>rfl) (fun x3 h=>?_)
  conv=>whnf
  refine fkS h (fun h=>?_) (fun h=>?_)
  ·conv=>whnf
   exact rt (E:=E_Bool) h rfl
  conv=>whnf
  exact leS hn1 h (Weak.refl _)
 conv=>whnf
 refine caS (E:=E_Bool) h (table_Right_w a0.Table) rfl (fun _=>rfl) (fun x4 h=>?_)
 conv=>whnf
 refine fkS h (fun h=>?_) (fun h=>?_)
 ·conv=>whnf
  refine lenS a0.Faces Face.enc rfl ?_
  conv=>whnf
  refine lenS a0.Parts PartState.enc rfl ?_
  conv=>whnf
  refine fkS h (fun h=>?_) (fun h=>?_)
  ·conv=>whnf
   refine lenS a0.Parts PartState.enc rfl ?_
   conv=>whnf
   refine fkS h (fun h=>?_) (fun h=>?_)
   ·conv=>whnf
    refine caS (E:=E_Bool) h (port_Right_w a0.Lines) rfl (fun _=>rfl) (fun x5 h=>?_)
    conv=>whnf
    refine fkS h (fun h=>?_) (fun h=>?_)
    ·conv=>whnf
     refine fkS h (fun h=>?_) (fun h=>?_)
     ·conv=>whnf
      exact rt (E:=E_Bool) h rfl
     conv=>whnf
     exact rt (E:=E_Bool) h rfl
    conv=>whnf
    exact rt (E:=E_Bool) h rfl
   conv=>whnf
   exact rt (E:=E_Bool) h rfl
  conv=>whnf
  exact rt (E:=E_Bool) h rfl
 conv=>whnf
 exact rt (E:=E_Bool) h rfl
end Go.Proofs.YtldlcdnhdedoeaaGreat
namespace Go.Proofs.YtldlcdnhdedoeaaGreat
open Go Go.VC
noncomputable def kernel_State_with (a0:KernelState) (a1:Int) (a2:PartState):Option KernelState:=
 ck (decide ((([]:List PartState).length+a0.Parts.length)*120≤140737488355328)) (ck (decide (0≤a1) && decide (a1<((([]:List PartState)++a0.Parts).length:Int))) (ox (([]:List PartState)++a0.Parts) a1.toNat fun x1=>some ⟨a0.Table,a0.Faces,(([]:List PartState)++a0.Parts).set a1.toNat a2,a0.Lines,a0.Now⟩))
theorem kernel_State_with_w (a0:KernelState) (a1:Int) (a2:PartState) (r:KernelState) (h:kernel_State_with a0 a1 a2=some r):Go.VC.Spec Tryz.prog 90 [.agg (KernelState.enc a0),.d (.int .i64 a1),.agg (PartState.enc a2)] (fun y=>y=E_KernelState r):=by
 refine Go.VC.Spec.of_xc (args:=[.agg (KernelState.enc a0),.d (.int .i64 a1),.agg (PartState.enc a2)]) (fn:=Tryz.f90) tab ⟨[(0,[1,3,5,6]),(1,[1,3,5,6]),(2,[3,6]),(3,[6])],[],[],[]⟩ 18 [.cell 6 35] rfl rfl rfl rfl rfl rfl ?_
 conv=>whnf
 refine liS ([]:List PartState) PartState.enc rfl rfl ?_
 conv=>whnf
 refine apS (enc:=PartState.enc) (l1:=([]:List PartState)) (l2:=a0.Parts) h rfl rfl (fun _=>rfl) (fun h=>?_)
 conv=>whnf
 refine ioS (enc:=PartState.enc) h rfl (fun h=>?_)
 conv=>whnf
 refine seS (enc:=PartState.enc) h rfl (fun x1=>a2) (fun _=>rfl) (fun x1 h=>?_)
 conv=>whnf
 exact rt (E:=E_KernelState) h rfl
end Go.Proofs.YtldlcdnhdedoeaaGreat
namespace Go.Proofs.YtldlcdnhdedoeaaGreat
open Go Go.VC
def E_fn_kernel_on:Unit→List CV:=fun r=>[.d (.fn 158 [[.fn 126 []]])]
noncomputable def kernel_on  : Option Unit:=
 some ()
theorem kernel_on_w  (r:Unit) (h:kernel_on=some r):Go.VC.Spec Tryz.prog 125 [.d (.fn 126 [])] (fun y=>y=E_fn_kernel_on r):=by
 refine Go.VC.Spec.of_xc (args:=[.d (.fn 126 [])]) (fn:=Tryz.f125) tab ⟨[(0,[1]),(1,[2])],[],[],[]⟩ 4 [.tmp 2] rfl rfl rfl rfl rfl rfl ?_
 conv=>whnf
 exact rt (E:=E_fn_kernel_on) h rfl
end Go.Proofs.YtldlcdnhdedoeaaGreat
namespace Go.Proofs.YtldlcdnhdedoeaaGreat
open Go Go.VC
def E_fn_kernel_on_i1:Unit→List CV:=fun r=>[.d (.fn 158 [[.fn 127 []]])]
noncomputable def kernel_on_i1  : Option Unit:=
 some ()
theorem kernel_on_i1_w  (r:Unit) (h:kernel_on_i1=some r):Go.VC.Spec Tryz.prog 125 [.d (.fn 127 [])] (fun y=>y=E_fn_kernel_on_i1 r):=by
 refine Go.VC.Spec.of_xc (args:=[.d (.fn 127 [])]) (fn:=Tryz.f125) tab ⟨[(0,[1]),(1,[2])],[],[],[]⟩ 4 [.tmp 2] rfl rfl rfl rfl rfl rfl ?_
 conv=>whnf
 exact rt (E:=E_fn_kernel_on_i1) h rfl
end Go.Proofs.YtldlcdnhdedoeaaGreat
namespace Go.Proofs.YtldlcdnhdedoeaaGreat
open Go Go.VC
def E_fn_kernel_on_2:Unit→List CV:=fun r=>[.d (.fn 158 [[.fn 128 []]])]
noncomputable def kernel_on_2  : Option Unit:=
 some ()
theorem kernel_on_2_w  (r:Unit) (h:kernel_on_2=some r):Go.VC.Spec Tryz.prog 125 [.d (.fn 128 [])] (fun y=>y=E_fn_kernel_on_2 r):=by
 refine Go.VC.Spec.of_xc (args:=[.d (.fn 128 [])]) (fn:=Tryz.f125) tab ⟨[(0,[1]),(1,[2])],[],[],[]⟩ 4 [.tmp 2] rfl rfl rfl rfl rfl rfl ?_
 conv=>whnf
 exact rt (E:=E_fn_kernel_on_2) h rfl
end Go.Proofs.YtldlcdnhdedoeaaGreat
namespace Go.Proofs.YtldlcdnhdedoeaaGreat
open Go Go.VC
def E_fn_kernel_on_3:Unit→List CV:=fun r=>[.d (.fn 158 [[.fn 129 []]])]
noncomputable def kernel_on_3  : Option Unit:=
 some ()
theorem kernel_on_3_w  (r:Unit) (h:kernel_on_3=some r):Go.VC.Spec Tryz.prog 125 [.d (.fn 129 [])] (fun y=>y=E_fn_kernel_on_3 r):=by
 refine Go.VC.Spec.of_xc (args:=[.d (.fn 129 [])]) (fn:=Tryz.f125) tab ⟨[(0,[1]),(1,[2])],[],[],[]⟩ 4 [.tmp 2] rfl rfl rfl rfl rfl rfl ?_
 conv=>whnf
 exact rt (E:=E_fn_kernel_on_3) h rfl
end Go.Proofs.YtldlcdnhdedoeaaGreat
namespace Go.Proofs.YtldlcdnhdedoeaaGreat
open Go Go.VC
def E_fn_kernel_kinds:Unit→List CV:=fun r=>[.d (.mp [[.int .i64 (1:Int),.fn 158 [[.fn 126 []]]],[.int .i64 (4:Int),.fn 158 [[.fn 127 []]]],[.int .i64 (5:Int),.fn 158 [[.fn 128 []]]],[.int .i64 (6:Int),.fn 158 [[.fn 129 []]]],[.int .i64 (2:Int),.fn 130 []],[.int .i64 (3:Int),.fn 131 []]])]
noncomputable def kernel_kinds:Option Unit:=some ()
theorem kernel_kinds_w (r:Unit) (h:kernel_kinds=some r):Go.VC.Spec Tryz.prog 73 [] (fun y=>y=E_fn_kernel_kinds r):=by
 refine Spec.of_wpF (args:=[]) (fn:=Tryz.f73) rfl rfl rfl rfl ?_
 refine WpF.seq tab ⟨[(0,[]),(1,[0])],[],[],[]⟩ (rs:=[.tmp 0]) rfl ?_
 conv=>whnf
 refine WpF.reg (AWp.map rfl rfl rfl rfl rfl ?_)
 conv=>whnf
 refine mp_call (r:=.fn 158 [[.fn 126 []]]) rfl rfl rfl rfl rfl (kernel_on_w _ rfl) ?_
 conv=>whnf
 refine mp_ins rfl rfl rfl rfl Tryz.underlying150 Tryz.underlying3 rfl ?_
 conv=>whnf
 refine mp_call (r:=.fn 158 [[.fn 127 []]]) rfl rfl rfl rfl rfl (kernel_on_i1_w _ rfl) ?_
 conv=>whnf
 refine mp_ins rfl rfl rfl rfl Tryz.underlying150 Tryz.underlying3 rfl ?_
 conv=>whnf
 refine mp_call (r:=.fn 158 [[.fn 128 []]]) rfl rfl rfl rfl rfl (kernel_on_2_w _ rfl) ?_
 conv=>whnf
 refine mp_ins rfl rfl rfl rfl Tryz.underlying150 Tryz.underlying3 rfl ?_
 conv=>whnf
 refine mp_call (r:=.fn 158 [[.fn 129 []]]) rfl rfl rfl rfl rfl (kernel_on_3_w _ rfl) ?_
 conv=>whnf
 refine mp_ins rfl rfl rfl rfl Tryz.underlying150 Tryz.underlying3 rfl ?_
 conv=>whnf
 refine mp_ins rfl rfl rfl rfl Tryz.underlying150 Tryz.underlying3 rfl ?_
 conv=>whnf
 refine mp_ins rfl rfl rfl rfl Tryz.underlying150 Tryz.underlying3 rfl ?_
 conv=>whnf
 refine mp_end tab rfl ?_
 conv=>whnf
 exact WpF.ret tab (rs:=[.tmp 0]) rfl (RetOk.mk ⟨_,rfl,rfl⟩)
end Go.Proofs.YtldlcdnhdedoeaaGreat
namespace Go.Proofs.YtldlcdnhdedoeaaGreat
open Go Go.VC
noncomputable def kernel_kinds_1 (a0:PartState) (a1:Face) (a2:KernelCmd) (a3:Int):Option (PartState×Int):=
 bnd (part_Release a0 a2.I a2.V a3) fun x1=>some (x1.1,x1.2)
theorem kernel_kinds_1_w (a0:PartState) (a1:Face) (a2:KernelCmd) (a3:Int) (r:PartState×Int) (h:kernel_kinds_1 a0 a1 a2 a3=some r):Go.VC.Spec Tryz.prog 126 [.agg (PartState.enc a0),.agg (Face.enc a1),.agg (KernelCmd.enc a2),.d (.int .i64 a3)] (fun y=>y=E_PartState_Int r):=by
 refine Go.VC.Spec.of_xc (args:=[.agg (PartState.enc a0),.agg (Face.enc a1),.agg (KernelCmd.enc a2),.d (.int .i64 a3)]) (fn:=Tryz.f126) tab ⟨[(0,[3,4,6,8]),(1,[8,9])],[],[],[]⟩ 19 [.cell 8 51,.tmp 9] rfl rfl rfl rfl rfl rfl ?_
 conv=>whnf
 refine ccS (E:=E_PartState_Int) h (part_Release_w a0 a2.I a2.V a3) rfl rfl (fun x1 h=>?_)
 conv=>whnf
 exact rt (E:=E_PartState_Int) h rfl
end Go.Proofs.YtldlcdnhdedoeaaGreat
namespace Go.Proofs.YtldlcdnhdedoeaaGreat
open Go Go.VC
noncomputable def kernel_on_1 (a0:KernelState) (a1:KernelCmd):Option (KernelState×Int×Int):=
 ix a0.Parts a1.Part fun x1=>ix a0.Faces a1.Part fun x2=>bnd (kernel_kinds_1 x1 x2 a1 a0.Now) fun x3=>bnd (kernel_State_with a0 a1.Part x3.1) fun x4=>some (x4,(0:Int),x3.2)
theorem kernel_on_1_w (a0:KernelState) (a1:KernelCmd) (r:KernelState×Int×Int) (h:kernel_on_1 a0 a1=some r):Go.VC.Spec Tryz.prog 158 [.agg (KernelState.enc a0),.agg (KernelCmd.enc a1),.dp [.fn 126 []]] (fun y=>y=E_KernelState_Int_Int r):=by
 refine Go.VC.Spec.of_xc (args:=[.agg (KernelState.enc a0),.agg (KernelCmd.enc a1),.dp [.fn 126 []]]) (fn:=Tryz.f158) tab ⟨[(0,[2,3,4,5]),(1,[3,4,5,8,9]),(2,[5,6,7])],[],[],[]⟩ 36 [.cell 5 35,.tmp 6,.tmp 7] rfl rfl rfl rfl rfl rfl ?_
 conv=>whnf
 refine⟨22,?_⟩
 conv=>whnf
 refine ixS (enc:=PartState.enc) h rfl (fun _=>rfl) (fun x1 h=>?_)
 conv=>whnf
 refine ixS (enc:=Face.enc) h rfl (fun _=>rfl) (fun x2 h=>?_)
 conv=>whnf
 refine dcS (E:=E_PartState_Int) h (kernel_kinds_1_w x1 x2 a1 a0.Now) rfl (fun x3 h=>?_)
 conv=>whnf
 refine drS (by kernel_rfl) ?_
 conv=>whnf
 refine ccS (E:=E_KernelState) h (kernel_State_with_w a0 a1.Part x3.1) rfl rfl (fun x4 h=>?_)
 conv=>whnf
 exact rt (E:=E_KernelState_Int_Int) h rfl
end Go.Proofs.YtldlcdnhdedoeaaGreat
namespace Go.Proofs.YtldlcdnhdedoeaaGreat
open Go Go.VC
noncomputable def kernel_kinds_2 (a0:PartState) (a1:Face) (a2:KernelCmd) (a3:Int):Option (PartState×Int):=
 bnd (admit_Add a0 a1 a2.T) fun x1=>some (x1.1,x1.2)
theorem kernel_kinds_2_w (a0:PartState) (a1:Face) (a2:KernelCmd) (a3:Int) (r:PartState×Int) (h:kernel_kinds_2 a0 a1 a2 a3=some r):Go.VC.Spec Tryz.prog 127 [.agg (PartState.enc a0),.agg (Face.enc a1),.agg (KernelCmd.enc a2),.d (.int .i64 a3)] (fun y=>y=E_PartState_Int r):=by
 refine Go.VC.Spec.of_xc (args:=[.agg (PartState.enc a0),.agg (Face.enc a1),.agg (KernelCmd.enc a2),.d (.int .i64 a3)]) (fn:=Tryz.f127) tab ⟨[(0,[4,5,6,8]),(1,[8,9])],[],[],[]⟩ 17 [.cell 8 51,.tmp 9] rfl rfl rfl rfl rfl rfl ?_
 conv=>whnf
 refine ccS (E:=E_PartState_Int) h (admit_Add_w a0 a1 a2.T) rfl rfl (fun x1 h=>?_)
 conv=>whnf
 exact rt (E:=E_PartState_Int) h rfl
end Go.Proofs.YtldlcdnhdedoeaaGreat
namespace Go.Proofs.YtldlcdnhdedoeaaGreat
open Go Go.VC
noncomputable def kernel_on_1_1 (a0:KernelState) (a1:KernelCmd):Option (KernelState×Int×Int):=
 ix a0.Parts a1.Part fun x1=>ix a0.Faces a1.Part fun x2=>bnd (kernel_kinds_2 x1 x2 a1 a0.Now) fun x3=>bnd (kernel_State_with a0 a1.Part x3.1) fun x4=>some (x4,(0:Int),x3.2)
theorem kernel_on_1_1_w (a0:KernelState) (a1:KernelCmd) (r:KernelState×Int×Int) (h:kernel_on_1_1 a0 a1=some r):Go.VC.Spec Tryz.prog 158 [.agg (KernelState.enc a0),.agg (KernelCmd.enc a1),.dp [.fn 127 []]] (fun y=>y=E_KernelState_Int_Int r):=by
 refine Go.VC.Spec.of_xc (args:=[.agg (KernelState.enc a0),.agg (KernelCmd.enc a1),.dp [.fn 127 []]]) (fn:=Tryz.f158) tab ⟨[(0,[2,3,4,5]),(1,[3,4,5,8,9]),(2,[5,6,7])],[],[],[]⟩ 36 [.cell 5 35,.tmp 6,.tmp 7] rfl rfl rfl rfl rfl rfl ?_
 conv=>whnf
 refine⟨22,?_⟩
 conv=>whnf
 refine ixS (enc:=PartState.enc) h rfl (fun _=>rfl) (fun x1 h=>?_)
 conv=>whnf
 refine ixS (enc:=Face.enc) h rfl (fun _=>rfl) (fun x2 h=>?_)
 conv=>whnf
 refine dcS (E:=E_PartState_Int) h (kernel_kinds_2_w x1 x2 a1 a0.Now) rfl (fun x3 h=>?_)
 conv=>whnf
 refine drS (by kernel_rfl) ?_
 conv=>whnf
 refine ccS (E:=E_KernelState) h (kernel_State_with_w a0 a1.Part x3.1) rfl rfl (fun x4 h=>?_)
 conv=>whnf
 exact rt (E:=E_KernelState_Int_Int) h rfl
end Go.Proofs.YtldlcdnhdedoeaaGreat
namespace Go.Proofs.YtldlcdnhdedoeaaGreat
open Go Go.VC
noncomputable def kernel_kinds_3 (a0:PartState) (a1:Face) (a2:KernelCmd) (a3:Int):Option (PartState×Int):=
 bnd (admit_Drop a0 a2.I) fun x1=>some (x1.1,x1.2)
theorem kernel_kinds_3_w (a0:PartState) (a1:Face) (a2:KernelCmd) (a3:Int) (r:PartState×Int) (h:kernel_kinds_3 a0 a1 a2 a3=some r):Go.VC.Spec Tryz.prog 128 [.agg (PartState.enc a0),.agg (Face.enc a1),.agg (KernelCmd.enc a2),.d (.int .i64 a3)] (fun y=>y=E_PartState_Int r):=by
 refine Go.VC.Spec.of_xc (args:=[.agg (PartState.enc a0),.agg (Face.enc a1),.agg (KernelCmd.enc a2),.d (.int .i64 a3)]) (fn:=Tryz.f128) tab ⟨[(0,[4,6,8]),(1,[8,9])],[],[],[]⟩ 16 [.cell 8 51,.tmp 9] rfl rfl rfl rfl rfl rfl ?_
 conv=>whnf
 refine ccS (E:=E_PartState_Int) h (admit_Drop_w a0 a2.I) rfl rfl (fun x1 h=>?_)
 conv=>whnf
 exact rt (E:=E_PartState_Int) h rfl
end Go.Proofs.YtldlcdnhdedoeaaGreat
namespace Go.Proofs.YtldlcdnhdedoeaaGreat
open Go Go.VC
noncomputable def kernel_on_1_2 (a0:KernelState) (a1:KernelCmd):Option (KernelState×Int×Int):=
 ix a0.Parts a1.Part fun x1=>ix a0.Faces a1.Part fun x2=>bnd (kernel_kinds_3 x1 x2 a1 a0.Now) fun x3=>bnd (kernel_State_with a0 a1.Part x3.1) fun x4=>some (x4,(0:Int),x3.2)
theorem kernel_on_1_2_w (a0:KernelState) (a1:KernelCmd) (r:KernelState×Int×Int) (h:kernel_on_1_2 a0 a1=some r):Go.VC.Spec Tryz.prog 158 [.agg (KernelState.enc a0),.agg (KernelCmd.enc a1),.dp [.fn 128 []]] (fun y=>y=E_KernelState_Int_Int r):=by
 refine Go.VC.Spec.of_xc (args:=[.agg (KernelState.enc a0),.agg (KernelCmd.enc a1),.dp [.fn 128 []]]) (fn:=Tryz.f158) tab ⟨[(0,[2,3,4,5]),(1,[3,4,5,8,9]),(2,[5,6,7])],[],[],[]⟩ 36 [.cell 5 35,.tmp 6,.tmp 7] rfl rfl rfl rfl rfl rfl ?_
 conv=>whnf
 refine⟨22,?_⟩
 conv=>whnf
 refine ixS (enc:=PartState.enc) h rfl (fun _=>rfl) (fun x1 h=>?_)
 conv=>whnf
 refine ixS (enc:=Face.enc) h rfl (fun _=>rfl) (fun x2 h=>?_)
 conv=>whnf
 refine dcS (E:=E_PartState_Int) h (kernel_kinds_3_w x1 x2 a1 a0.Now) rfl (fun x3 h=>?_)
 conv=>whnf
 refine drS (by kernel_rfl) ?_
 conv=>whnf
 refine ccS (E:=E_KernelState) h (kernel_State_with_w a0 a1.Part x3.1) rfl rfl (fun x4 h=>?_)
 conv=>whnf
 exact rt (E:=E_KernelState_Int_Int) h rfl
end Go.Proofs.YtldlcdnhdedoeaaGreat
namespace Go.Proofs.YtldlcdnhdedoeaaGreat
open Go Go.VC
noncomputable def kernel_kinds_4 (a0:PartState) (a1:Face) (a2:KernelCmd) (a3:Int):Option (PartState×Int):=
 bnd (admit_Change a0 a1 a2.I a2.T) fun x1=>some (x1.1,x1.2)
theorem kernel_kinds_4_w (a0:PartState) (a1:Face) (a2:KernelCmd) (a3:Int) (r:PartState×Int) (h:kernel_kinds_4 a0 a1 a2 a3=some r):Go.VC.Spec Tryz.prog 129 [.agg (PartState.enc a0),.agg (Face.enc a1),.agg (KernelCmd.enc a2),.d (.int .i64 a3)] (fun y=>y=E_PartState_Int r):=by
 refine Go.VC.Spec.of_xc (args:=[.agg (PartState.enc a0),.agg (Face.enc a1),.agg (KernelCmd.enc a2),.d (.int .i64 a3)]) (fn:=Tryz.f129) tab ⟨[(0,[4,5,6,8]),(1,[8,9])],[],[],[]⟩ 19 [.cell 8 51,.tmp 9] rfl rfl rfl rfl rfl rfl ?_
 conv=>whnf
 refine ccS (E:=E_PartState_Int) h (admit_Change_w a0 a1 a2.I a2.T) rfl rfl (fun x1 h=>?_)
 conv=>whnf
 exact rt (E:=E_PartState_Int) h rfl
end Go.Proofs.YtldlcdnhdedoeaaGreat
namespace Go.Proofs.YtldlcdnhdedoeaaGreat
open Go Go.VC
noncomputable def kernel_on_1_3 (a0:KernelState) (a1:KernelCmd):Option (KernelState×Int×Int):=
 ix a0.Parts a1.Part fun x1=>ix a0.Faces a1.Part fun x2=>bnd (kernel_kinds_4 x1 x2 a1 a0.Now) fun x3=>bnd (kernel_State_with a0 a1.Part x3.1) fun x4=>some (x4,(0:Int),x3.2)
theorem kernel_on_1_3_w (a0:KernelState) (a1:KernelCmd) (r:KernelState×Int×Int) (h:kernel_on_1_3 a0 a1=some r):Go.VC.Spec Tryz.prog 158 [.agg (KernelState.enc a0),.agg (KernelCmd.enc a1),.dp [.fn 129 []]] (fun y=>y=E_KernelState_Int_Int r):=by
 refine Go.VC.Spec.of_xc (args:=[.agg (KernelState.enc a0),.agg (KernelCmd.enc a1),.dp [.fn 129 []]]) (fn:=Tryz.f158) tab ⟨[(0,[2,3,4,5]),(1,[3,4,5,8,9]),(2,[5,6,7])],[],[],[]⟩ 36 [.cell 5 35,.tmp 6,.tmp 7] rfl rfl rfl rfl rfl rfl ?_
 conv=>whnf
 refine⟨22,?_⟩
 conv=>whnf
 refine ixS (enc:=PartState.enc) h rfl (fun _=>rfl) (fun x1 h=>?_)
 conv=>whnf
 refine ixS (enc:=Face.enc) h rfl (fun _=>rfl) (fun x2 h=>?_)
 conv=>whnf
 refine dcS (E:=E_PartState_Int) h (kernel_kinds_4_w x1 x2 a1 a0.Now) rfl (fun x3 h=>?_)
 conv=>whnf
 refine drS (by kernel_rfl) ?_
 conv=>whnf
 refine ccS (E:=E_KernelState) h (kernel_State_with_w a0 a1.Part x3.1) rfl rfl (fun x4 h=>?_)
 conv=>whnf
 exact rt (E:=E_KernelState_Int_Int) h rfl
end Go.Proofs.YtldlcdnhdedoeaaGreat
namespace Go.Proofs.YtldlcdnhdedoeaaGreat
open Go Go.VC
noncomputable def kernel_kinds_5 (a0:KernelState) (a1:KernelCmd):Option (KernelState×Int×Int):=
 bnd (port_Send a0.Lines a1.Part a1.I a1.V) fun x1=>some (⟨a0.Table,a0.Faces,a0.Parts,x1.1,a0.Now⟩,(0:Int),x1.2)
theorem kernel_kinds_5_w (a0:KernelState) (a1:KernelCmd) (r:KernelState×Int×Int) (h:kernel_kinds_5 a0 a1=some r):Go.VC.Spec Tryz.prog 130 [.agg (KernelState.enc a0),.agg (KernelCmd.enc a1)] (fun y=>y=E_KernelState_Int_Int r):=by
 refine Go.VC.Spec.of_xc (args:=[.agg (KernelState.enc a0),.agg (KernelCmd.enc a1)]) (fn:=Tryz.f130) tab ⟨[(0,[2,3,4]),(1,[2,4,7,8]),(2,[2,4,8]),(3,[4,5,6])],[],[],[]⟩ 25 [.cell 4 35,.tmp 5,.tmp 6] rfl rfl rfl rfl rfl rfl ?_
 conv=>whnf
 refine ccS (E:=E_ListPortLine_Int) h (port_Send_w a0.Lines a1.Part a1.I a1.V) rfl rfl (fun x1 h=>?_)
 conv=>whnf
 exact rt (E:=E_KernelState_Int_Int) h rfl
end Go.Proofs.YtldlcdnhdedoeaaGreat
namespace Go.Proofs.YtldlcdnhdedoeaaGreat
open Go Go.VC
noncomputable def kernel_kinds_6 (a0:KernelState) (a1:KernelCmd):Option (KernelState×Int×Int):=
 bnd (port_Read a0.Lines a1.Part a1.I) fun x1=>some (⟨a0.Table,a0.Faces,a0.Parts,x1.2.1,a0.Now⟩,x1.1,x1.2.2)
theorem kernel_kinds_6_w (a0:KernelState) (a1:KernelCmd) (r:KernelState×Int×Int) (h:kernel_kinds_6 a0 a1=some r):Go.VC.Spec Tryz.prog 131 [.agg (KernelState.enc a0),.agg (KernelCmd.enc a1)] (fun y=>y=E_KernelState_Int_Int r):=by
 refine Go.VC.Spec.of_xc (args:=[.agg (KernelState.enc a0),.agg (KernelCmd.enc a1)]) (fn:=Tryz.f131) tab ⟨[(0,[2,3,4]),(1,[2,4,7,8,9]),(2,[2,4,7,9]),(3,[4,5,6])],[],[],[]⟩ 26 [.cell 4 35,.tmp 5,.tmp 6] rfl rfl rfl rfl rfl rfl ?_
 conv=>whnf
 refine ccS (E:=E_Int_ListPortLine_Int) h (port_Read_w a0.Lines a1.Part a1.I) rfl rfl (fun x1 h=>?_)
 conv=>whnf
 exact rt (E:=E_KernelState_Int_Int) h rfl
end Go.Proofs.YtldlcdnhdedoeaaGreat
namespace Go.Proofs.YtldlcdnhdedoeaaGreat
open Go Go.VC
noncomputable def kernel_Do (a0:KernelState) (a1:KernelCmd):Option (KernelState×Int×Int):=
 bnd (kernel_Right a0) fun x1=>fk (!x1) (some (a0,(0:Int),(1:Int))) (bnd kernel_kinds fun x2=>fk (decide (a1.Kind=(1:Int))) (jn (fun (w3:Bool)=>fk w3 (some (a0,(0:Int),(4:Int))) (bnd (kernel_on_1 a0 a1) fun x4=>some (x4.1,x4.2.1,x4.2.2))) (fun k3=>fk (decide (a1.Part<(0:Int))) (k3 true) (k3 (decide (a1.Part≥(a0.Parts.length:Int)))))) (fk (decide (a1.Kind=(4:Int))) (jn (fun (w5:Bool)=>fk w5 (some (a0,(0:Int),(4:Int))) (bnd (kernel_on_1_1 a0 a1) fun x6=>some (x6.1,x6.2.1,x6.2.2))) (fun k5=>fk (decide (a1.Part<(0:Int))) (k5 true) (k5 (decide (a1.Part≥(a0.Parts.length:Int)))))) (fk (decide (a1.Kind=(5:Int))) (jn (fun (w7:Bool)=>fk w7 (some (a0,(0:Int),(4:Int))) (bnd (kernel_on_1_2 a0 a1) fun x8=>some (x8.1,x8.2.1,x8.2.2))) (fun k7=>fk (decide (a1.Part<(0:Int))) (k7 true) (k7 (decide (a1.Part≥(a0.Parts.length:Int)))))) (fk (decide (a1.Kind=(6:Int))) (jn (fun (w9:Bool)=>fk w9 (some (a0,(0:Int),(4:Int))) (bnd (kernel_on_1_3 a0 a1) fun x10=>some (x10.1,x10.2.1,x10.2.2))) (fun k9=>fk (decide (a1.Part<(0:Int))) (k9 true) (k9 (decide (a1.Part≥(a0.Parts.length:Int)))))) (fk (decide (a1.Kind=(2:Int))) (jn (fun (w11:Bool)=>fk w11 (some (a0,(0:Int),(4:Int))) (bnd (kernel_kinds_5 a0 a1) fun x12=>some (x12.1,x12.2.1,x12.2.2))) (fun k11=>fk (decide (a1.Part<(0:Int))) (k11 true) (k11 (decide (a1.Part≥(a0.Parts.length:Int)))))) (fk (decide (a1.Kind=(3:Int))) (jn (fun (w13:Bool)=>fk w13 (some (a0,(0:Int),(4:Int))) (bnd (kernel_kinds_6 a0 a1) fun x14=>some (x14.1,x14.2.1,x14.2.2))) (fun k13=>fk (decide (a1.Part<(0:Int))) (k13 true) (k13 (decide (a1.Part≥(a0.Parts.length:Int)))))) (jn (fun (w15:Unit)=>some (a0,(0:Int),(4:Int))) (fun k15=>k15 ()))))))))
theorem kernel_Do_w (a0:KernelState) (a1:KernelCmd) (r:KernelState×Int×Int) (h:kernel_Do a0 a1=some r):Go.VC.Spec Tryz.prog 27 [.agg (KernelState.enc a0),.agg (KernelCmd.enc a1)] (fun y=>y=E_KernelState_Int_Int r):=by
 refine Go.VC.Spec.of_xc (args:=[.agg (KernelState.enc a0),.agg (KernelCmd.enc a1)]) (fn:=Tryz.f27) tab ⟨[(0,[2,3,4]),(1,[2,3,4,10]),(2,[4,5,6]),(3,[2,3,4,7]),(4,[2,3,4,7,30]),(5,[4,5,6]),(6,[4,5,6])],[],[100030],[]⟩ 39 [.cell 4 35,.tmp 5,.tmp 6] rfl rfl rfl rfl rfl rfl ?_
 conv=>whnf
 refine caS (E:=E_Bool) h (kernel_Right_w a0) rfl (fun _=>rfl) (fun x1 h=>?_)
 conv=>whnf
 refine fkS h (fun h=>?_) (fun h=>?_)
 ·conv=>whnf
  exact rt (E:=E_KernelState_Int_Int) h rfl
 conv=>whnf
 refine⟨3,?_⟩
 conv=>whnf
 refine dcS (E:=E_fn_kernel_kinds) h kernel_kinds_w rfl (fun x2 h=>?_)
 conv=>whnf
 refine drS (by kernel_rfl) ?_
 conv=>whnf
 refine lkS (zv:=.nilFunc) (zd:=.nilfn) rfl rfl rfl rfl Tryz.underlying150 Tryz.underlying3 (by kernel_rfl) rfl ?_
 conv=>whnf
 refine fkS h (fun h=>?_) (fun h=>?_)
 ·conv=>whnf
  refine jnS (fun w3=>⟨[(2,.l (.ptr 3 0)),(3,.l (.ptr 4 0)),(4,.l (.ptr 5 0)),(7,.l (.d (.fn 158 [[.fn 126 []]]))),(30,.l (.d (.bool w3)))],39,[],[(3,[.d (.int .i64 a0.Table.Frame),.d (.sl (a0.Table.Windows.map Window.enc)),.d (.sl (a0.Faces.map Face.enc)),.d (.sl (a0.Parts.map PartState.enc)),.d (.sl (a0.Lines.map PortLine.enc)),.d (.int .i64 a0.Now)]),(4,[.d (.int .i64 a1.Part),.d (.int .i64 a1.Kind),.d (.int .i64 a1.I),.d (.int .i64 a1.V),.d (.int .i64 a1.T.C),.d (.int .i64 a1.T.D),.d (.int .i64 a1.T.T),.d (.sl (a1.T.Secs.map Sec.enc))]),(5,[.d (.int .i64 (0:Int)),.nil,.nil,.nil,.nil,.d (.int .i64 (0:Int))])],[]⟩) h (fun k3 hk3 h=>?_) (fun w3 h=>?_)
  ·conv=>whnf
   refine fnS rfl rfl rfl Tryz.underlying73 ?_
   conv=>whnf
   refine fkS h (fun h=>?_) (fun h=>?_)
   ·conv=>whnf
    exact jeS hk3 h (Weak.refl _)
   conv=>whnf
   refine lenS a0.Parts PartState.enc rfl ?_
   conv=>whnf
   exact jeS hk3 h (Weak.refl _)
  conv=>whnf
  refine fkS h (fun h=>?_) (fun h=>?_)
  ·conv=>whnf
   exact rt (E:=E_KernelState_Int_Int) h rfl
  conv=>whnf
  refine ccS (E:=E_KernelState_Int_Int) h (kernel_on_1_w a0 a1) rfl rfl (fun x4 h=>?_)
  conv=>whnf
  exact rt (E:=E_KernelState_Int_Int) h rfl
 conv=>whnf
 refine fkS h (fun h=>?_) (fun h=>?_)
 ·conv=>whnf
  refine jnS (fun w5=>⟨[(2,.l (.ptr 3 0)),(3,.l (.ptr 4 0)),(4,.l (.ptr 5 0)),(7,.l (.d (.fn 158 [[.fn 127 []]]))),(30,.l (.d (.bool w5)))],39,[],[(3,[.d (.int .i64 a0.Table.Frame),.d (.sl (a0.Table.Windows.map Window.enc)),.d (.sl (a0.Faces.map Face.enc)),.d (.sl (a0.Parts.map PartState.enc)),.d (.sl (a0.Lines.map PortLine.enc)),.d (.int .i64 a0.Now)]),(4,[.d (.int .i64 a1.Part),.d (.int .i64 a1.Kind),.d (.int .i64 a1.I),.d (.int .i64 a1.V),.d (.int .i64 a1.T.C),.d (.int .i64 a1.T.D),.d (.int .i64 a1.T.T),.d (.sl (a1.T.Secs.map Sec.enc))]),(5,[.d (.int .i64 (0:Int)),.nil,.nil,.nil,.nil,.d (.int .i64 (0:Int))])],[]⟩) h (fun k5 hk5 h=>?_) (fun w5 h=>?_)
  ·conv=>whnf
   refine fnS rfl rfl rfl Tryz.underlying73 ?_
   conv=>whnf
   refine fkS h (fun h=>?_) (fun h=>?_)
   ·conv=>whnf
    exact jeS hk5 h (Weak.refl _)
   conv=>whnf
   refine lenS a0.Parts PartState.enc rfl ?_
   conv=>whnf
   exact jeS hk5 h (Weak.refl _)
  conv=>whnf
  refine fkS h (fun h=>?_) (fun h=>?_)
  ·conv=>whnf
   exact rt (E:=E_KernelState_Int_Int) h rfl
  conv=>whnf
  refine ccS (E:=E_KernelState_Int_Int) h (kernel_on_1_1_w a0 a1) rfl rfl (fun x6 h=>?_)
  conv=>whnf
  exact rt (E:=E_KernelState_Int_Int) h rfl
 conv=>whnf
 refine fkS h (fun h=>?_) (fun h=>?_)
 ·conv=>whnf
  refine jnS (fun w7=>⟨[(2,.l (.ptr 3 0)),(3,.l (.ptr 4 0)),(4,.l (.ptr 5 0)),(7,.l (.d (.fn 158 [[.fn 128 []]]))),(30,.l (.d (.bool w7)))],39,[],[(3,[.d (.int .i64 a0.Table.Frame),.d (.sl (a0.Table.Windows.map Window.enc)),.d (.sl (a0.Faces.map Face.enc)),.d (.sl (a0.Parts.map PartState.enc)),.d (.sl (a0.Lines.map PortLine.enc)),.d (.int .i64 a0.Now)]),(4,[.d (.int .i64 a1.Part),.d (.int .i64 a1.Kind),.d (.int .i64 a1.I),.d (.int .i64 a1.V),.d (.int .i64 a1.T.C),.d (.int .i64 a1.T.D),.d (.int .i64 a1.T.T),.d (.sl (a1.T.Secs.map Sec.enc))]),(5,[.d (.int .i64 (0:Int)),.nil,.nil,.nil,.nil,.d (.int .i64 (0:Int))])],[]⟩) h (fun k7 hk7 h=>?_) (fun w7 h=>?_)
  ·conv=>whnf
   refine fnS rfl rfl rfl Tryz.underlying73 ?_
   conv=>whnf
   refine fkS h (fun h=>?_) (fun h=>?_)
   ·conv=>whnf
    exact jeS hk7 h (Weak.refl _)
   conv=>whnf
   refine lenS a0.Parts PartState.enc rfl ?_
   conv=>whnf
   exact jeS hk7 h (Weak.refl _)
  conv=>whnf
  refine fkS h (fun h=>?_) (fun h=>?_)
  ·conv=>whnf
   exact rt (E:=E_KernelState_Int_Int) h rfl
  conv=>whnf
  refine ccS (E:=E_KernelState_Int_Int) h (kernel_on_1_2_w a0 a1) rfl rfl (fun x8 h=>?_)
  conv=>whnf
  exact rt (E:=E_KernelState_Int_Int) h rfl
 conv=>whnf
 refine fkS h (fun h=>?_) (fun h=>?_)
 ·conv=>whnf
  refine jnS (fun w9=>⟨[(2,.l (.ptr 3 0)),(3,.l (.ptr 4 0)),(4,.l (.ptr 5 0)),(7,.l (.d (.fn 158 [[.fn 129 []]]))),(30,.l (.d (.bool w9)))],39,[],[(3,[.d (.int .i64 a0.Table.Frame),.d (.sl (a0.Table.Windows.map Window.enc)),.d (.sl (a0.Faces.map Face.enc)),.d (.sl (a0.Parts.map PartState.enc)),.d (.sl (a0.Lines.map PortLine.enc)),.d (.int .i64 a0.Now)]),(4,[.d (.int .i64 a1.Part),.d (.int .i64 a1.Kind),.d (.int .i64 a1.I),.d (.int .i64 a1.V),.d (.int .i64 a1.T.C),.d (.int .i64 a1.T.D),.d (.int .i64 a1.T.T),.d (.sl (a1.T.Secs.map Sec.enc))]),(5,[.d (.int .i64 (0:Int)),.nil,.nil,.nil,.nil,.d (.int .i64 (0:Int))])],[]⟩) h (fun k9 hk9 h=>?_) (fun w9 h=>?_)
  ·conv=>whnf
   refine fnS rfl rfl rfl Tryz.underlying73 ?_
   conv=>whnf
   refine fkS h (fun h=>?_) (fun h=>?_)
   ·conv=>whnf
    exact jeS hk9 h (Weak.refl _)
   conv=>whnf
   refine lenS a0.Parts PartState.enc rfl ?_
   conv=>whnf
   exact jeS hk9 h (Weak.refl _)
  conv=>whnf
  refine fkS h (fun h=>?_) (fun h=>?_)
  ·conv=>whnf
   exact rt (E:=E_KernelState_Int_Int) h rfl
  conv=>whnf
  refine ccS (E:=E_KernelState_Int_Int) h (kernel_on_1_3_w a0 a1) rfl rfl (fun x10 h=>?_)
  conv=>whnf
  exact rt (E:=E_KernelState_Int_Int) h rfl
 conv=>whnf
 refine fkS h (fun h=>?_) (fun h=>?_)
 ·conv=>whnf
  refine jnS (fun w11=>⟨[(2,.l (.ptr 3 0)),(3,.l (.ptr 4 0)),(4,.l (.ptr 5 0)),(7,.l (.d (.fn 130 []))),(30,.l (.d (.bool w11)))],39,[],[(3,[.d (.int .i64 a0.Table.Frame),.d (.sl (a0.Table.Windows.map Window.enc)),.d (.sl (a0.Faces.map Face.enc)),.d (.sl (a0.Parts.map PartState.enc)),.d (.sl (a0.Lines.map PortLine.enc)),.d (.int .i64 a0.Now)]),(4,[.d (.int .i64 a1.Part),.d (.int .i64 a1.Kind),.d (.int .i64 a1.I),.d (.int .i64 a1.V),.d (.int .i64 a1.T.C),.d (.int .i64 a1.T.D),.d (.int .i64 a1.T.T),.d (.sl (a1.T.Secs.map Sec.enc))]),(5,[.d (.int .i64 (0:Int)),.nil,.nil,.nil,.nil,.d (.int .i64 (0:Int))])],[]⟩) h (fun k11 hk11 h=>?_) (fun w11 h=>?_)
  ·conv=>whnf
   refine fnS rfl rfl rfl Tryz.underlying73 ?_
   conv=>whnf
   refine fkS h (fun h=>?_) (fun h=>?_)
   ·conv=>whnf
    exact jeS hk11 h (Weak.refl _)
   conv=>whnf
   refine lenS a0.Parts PartState.enc rfl ?_
   conv=>whnf
   exact jeS hk11 h (Weak.refl _)
  conv=>whnf
  refine fkS h (fun h=>?_) (fun h=>?_)
  ·conv=>whnf
   exact rt (E:=E_KernelState_Int_Int) h rfl
  conv=>whnf
  refine ccS (E:=E_KernelState_Int_Int) h (kernel_kinds_5_w a0 a1) rfl rfl (fun x12 h=>?_)
  conv=>whnf
  exact rt (E:=E_KernelState_Int_Int) h rfl
 conv=>whnf
 refine fkS h (fun h=>?_) (fun h=>?_)
 ·conv=>whnf
  refine jnS (fun w13=>⟨[(2,.l (.ptr 3 0)),(3,.l (.ptr 4 0)),(4,.l (.ptr 5 0)),(7,.l (.d (.fn 131 []))),(30,.l (.d (.bool w13)))],39,[],[(3,[.d (.int .i64 a0.Table.Frame),.d (.sl (a0.Table.Windows.map Window.enc)),.d (.sl (a0.Faces.map Face.enc)),.d (.sl (a0.Parts.map PartState.enc)),.d (.sl (a0.Lines.map PortLine.enc)),.d (.int .i64 a0.Now)]),(4,[.d (.int .i64 a1.Part),.d (.int .i64 a1.Kind),.d (.int .i64 a1.I),.d (.int .i64 a1.V),.d (.int .i64 a1.T.C),.d (.int .i64 a1.T.D),.d (.int .i64 a1.T.T),.d (.sl (a1.T.Secs.map Sec.enc))]),(5,[.d (.int .i64 (0:Int)),.nil,.nil,.nil,.nil,.d (.int .i64 (0:Int))])],[]⟩) h (fun k13 hk13 h=>?_) (fun w13 h=>?_)
  ·conv=>whnf
   refine fnS rfl rfl rfl Tryz.underlying73 ?_
   conv=>whnf
   refine fkS h (fun h=>?_) (fun h=>?_)
   ·conv=>whnf
    exact jeS hk13 h (Weak.refl _)
   conv=>whnf
   refine lenS a0.Parts PartState.enc rfl ?_
   conv=>whnf
   exact jeS hk13 h (Weak.refl _)
  conv=>whnf
  refine fkS h (fun h=>?_) (fun h=>?_)
  ·conv=>whnf
   exact rt (E:=E_KernelState_Int_Int) h rfl
  conv=>whnf
  refine ccS (E:=E_KernelState_Int_Int) h (kernel_kinds_6_w a0 a1) rfl rfl (fun x14 h=>?_)
  conv=>whnf
  exact rt (E:=E_KernelState_Int_Int) h rfl
 conv=>whnf
 refine jnS (fun w15=>⟨[(2,.l (.ptr 3 0)),(3,.l (.ptr 4 0)),(4,.l (.ptr 5 0)),(7,.l (.d .nilfn)),(30,.l (.d (.bool true)))],39,[],[(3,[.d (.int .i64 a0.Table.Frame),.d (.sl (a0.Table.Windows.map Window.enc)),.d (.sl (a0.Faces.map Face.enc)),.d (.sl (a0.Parts.map PartState.enc)),.d (.sl (a0.Lines.map PortLine.enc)),.d (.int .i64 a0.Now)]),(4,[.d (.int .i64 a1.Part),.d (.int .i64 a1.Kind),.d (.int .i64 a1.I),.d (.int .i64 a1.V),.d (.int .i64 a1.T.C),.d (.int .i64 a1.T.D),.d (.int .i64 a1.T.T),.d (.sl (a1.T.Secs.map Sec.enc))]),(5,[.d (.int .i64 (0:Int)),.nil,.nil,.nil,.nil,.d (.int .i64 (0:Int))])],[]⟩) h (fun k15 hk15 h=>?_) (fun w15 h=>?_)
 ·conv=>whnf
  refine fnN rfl rfl rfl Tryz.underlying73 ?_
  conv=>whnf
  exact jeS hk15 h (Weak.refl _)
 conv=>whnf
 exact rt (E:=E_KernelState_Int_Int) h rfl
end Go.Proofs.YtldlcdnhdedoeaaGreat
namespace Go.Proofs.YtldlcdnhdedoeaaGreat
open Go Go.VC
noncomputable def kernel_Tick (a0:KernelState):Option (KernelState×(List Int)×Int):=
 bnd (kernel_Right a0) fun x1=>fk (!x1) (some (a0,[],(1:Int))) (jn (fun (w2:List PortLine)=>bnd (table_At a0.Table a0.Now) fun x4=>lp (fun nx5 (v5:Int×(List Window)×(List Face)×(List PartState)×(List PortLine)×Int×(List Int)×Int)=>fk (decide (v5.2.2.2.2.2.2.2<(a0.Parts.length:Int))) (ix a0.Parts v5.2.2.2.2.2.2.2 fun x6=>bnd (part_Tick x6 (decide (v5.2.2.2.2.2.2.2=x4)) v5.2.2.2.2.2.1) fun x7=>bnd (kernel_State_with (⟨⟨v5.1,v5.2.1⟩,v5.2.2.1,v5.2.2.2.1,v5.2.2.2.2.1,v5.2.2.2.2.2.1⟩) v5.2.2.2.2.2.2.2 x7.1) fun x8=>ck (decide ((v5.2.2.2.2.2.2.1.length+([x7.2.1]:List Int).length)*8≤140737488355328)) (nx5 (x8.Table.Frame,x8.Table.Windows,x8.Faces,x8.Parts,x8.Lines,x8.Now,v5.2.2.2.2.2.2.1++([x7.2.1]:List Int),(wr (v5.2.2.2.2.2.2.2+(1:Int)))))) (some (⟨⟨v5.1,v5.2.1⟩,v5.2.2.1,v5.2.2.2.1,v5.2.2.2.2.1,(wr (v5.2.2.2.2.2.1+(1:Int)))⟩,v5.2.2.2.2.2.2.1,(0:Int)))) FU (a0.Table.Frame,a0.Table.Windows,a0.Faces,a0.Parts,w2,a0.Now,[],(0:Int))) (fun k2=>ck (decide (a0.Table.Frame≠0)) (fk (decide ((a0.Now.tmod a0.Table.Frame)=(0:Int))) (bnd (port_Deliver a0.Lines) fun x3=>k2 x3) (k2 a0.Lines))))
theorem kernel_Tick_w (a0:KernelState) (r:KernelState×(List Int)×Int) (h:kernel_Tick a0=some r):Go.VC.Spec Tryz.prog 34 [.agg (KernelState.enc a0)] (fun y=>y=E_KernelState_ListInt_Int r):=by
 refine Go.VC.Spec.of_xc (args:=[.agg (KernelState.enc a0)]) (fn:=Tryz.f34) tab ⟨[(0,[1,2]),(1,[1,2,14]),(2,[2,3,4]),(3,[1,2,22]),(4,[1,2]),(5,[1,2,5]),(6,[1,2,5,6]),(7,[1,2,5,6,33,34,35]),(8,[1,2,5,6,33,34,35,36]),(9,[1,2,5,6,7,8,33,34,35]),(10,[1,2,5,6,7,9,10,33,34,35]),(11,[1,2,5,6,10,33,34,35]),(12,[1,2,5,6,33,34,35]),(13,[1,2,5,6,33,34,35]),(14,[1,2,6]),(15,[2,3,4])],[],[5],[]⟩ 66 [.cell 2 35,.tmp 3,.tmp 4] rfl rfl rfl rfl rfl rfl ?_
 conv=>whnf
 refine caS (E:=E_Bool) h (kernel_Right_w a0) rfl (fun _=>rfl) (fun x1 h=>?_)
 conv=>whnf
 refine fkS h (fun h=>?_) (fun h=>?_)
 ·conv=>whnf
  exact rt (E:=E_KernelState_ListInt_Int) h rfl
 conv=>whnf
 refine jnS (fun w2=>⟨[(1,.l (.ptr 2 0)),(2,.l (.ptr 3 0))],66,[],[(2,[.d (.int .i64 a0.Table.Frame),.d (.sl (a0.Table.Windows.map Window.enc)),.d (.sl (a0.Faces.map Face.enc)),.d (.sl (a0.Parts.map PartState.enc)),.d (.sl (w2.map PortLine.enc)),.d (.int .i64 a0.Now)]),(3,[.d (.int .i64 (0:Int)),.nil,.nil,.nil,.nil,.d (.int .i64 (0:Int))])],[]⟩) h (fun k2 hk2 h=>?_) (fun w2 h=>?_)
 ·conv=>whnf
  refine dvS h (fun h=>?_)
  conv=>whnf
  refine fkS h (fun h=>?_) (fun h=>?_)
  ·conv=>whnf
   refine ccS (E:=E_ListPortLine) h (port_Deliver_w a0.Lines) rfl rfl (fun x3 h=>?_)
   conv=>whnf
   exact jeS hk2 h (Weak.refl _)
  conv=>whnf
  refine jeX hk2 h ?_
  conv=>whnf
  refine WkF.step (Weak.keepS _ [1,2]) ?_
  conv=>whnf
  exact WkF.refl _
 conv=>whnf
 refine caS (E:=E_Int) h (table_At_w a0.Table a0.Now) rfl (fun _=>rfl) (fun x4 h=>?_)
 conv=>whnf
 refine lenS a0.Parts PartState.enc rfl ?_
 conv=>whnf
 refine lpS (fun v5=>⟨[(1,.l (.ptr 2 0)),(2,.l (.ptr 3 0)),(5,.l (.d (.int .i64 x4))),(6,.l (.own 7)),(33,.l (.d (.sl (a0.Parts.map PartState.enc)))),(34,.l (.d (.int .i64 (a0.Parts.length:Int)))),(35,.l (.d (.int .i64 v5.2.2.2.2.2.2.2)))],66,[],[(2,[.d (.int .i64 v5.1),.d (.sl (v5.2.1.map Window.enc)),.d (.sl (v5.2.2.1.map Face.enc)),.d (.sl (v5.2.2.2.1.map PartState.enc)),.d (.sl (v5.2.2.2.2.1.map PortLine.enc)),.d (.int .i64 v5.2.2.2.2.2.1)]),(3,[.d (.int .i64 (0:Int)),.nil,.nil,.nil,.nil,.d (.int .i64 (0:Int))])],[(7,3,1,v5.2.2.2.2.2.2.1.map (eI .i64))]⟩) h (Weak.trans (Weak.nilO _ 6 7 3 1 rfl) (Weak.refl _)) (fun _ nx5 hn5 v5 h=>?_)
 conv=>whnf
 refine fkS h (fun h=>?_) (fun h=>?_)
 ·conv=>whnf
  refine ixS (enc:=PartState.enc) h rfl (fun _=>rfl) (fun x6 h=>?_)
  conv=>whnf
  refine ccS (E:=E_PartState_Int_Int) h (part_Tick_w x6 (decide (v5.2.2.2.2.2.2.2=x4)) v5.2.2.2.2.2.1) rfl rfl (fun x7 h=>?_)
  conv=>whnf
  refine ccS (E:=E_KernelState) h (kernel_State_with_w (⟨⟨v5.1,v5.2.1⟩,v5.2.2.1,v5.2.2.2.1,v5.2.2.2.2.1,v5.2.2.2.2.2.1⟩) v5.2.2.2.2.2.2.2 x7.1) rfl rfl (fun x8 h=>?_)
  conv=>whnf
  refine liS ([x7.2.1]:List Int) (eI .i64) rfl rfl ?_
  conv=>whnf
  refine apS (enc:=(eI .i64)) (l1:=v5.2.2.2.2.2.2.1) (l2:=([x7.2.1]:List Int)) h rfl rfl (fun _=>rfl) (fun h=>?_)
  conv=>whnf
  exact leS hn5 h (Weak.refl _)
 conv=>whnf
 exact rt (E:=E_KernelState_ListInt_Int) h rfl
end Go.Proofs.YtldlcdnhdedoeaaGreat
namespace Go.Proofs.YtldlcdnhdedoeaaGreat
open Go Go.VC
noncomputable def law21_Few (a0:List Law21Step):Option Bool:=
 lp (fun nx1 (v1:Int)=>fk (decide (v1<(a0.length:Int))) (ix a0 v1 fun x2=>fk (decide ((x2.Cmds.length:Int)>(10:Int))) (some false) (lp (fun nx3 (v3:Int)=>ix a0 v1 fun x4=>fk (decide (v3<(x4.Cmds.length:Int))) (ix a0 v1 fun x5=>ix x5.Cmds v3 fun x6=>fk (decide ((x6.T.Secs.length:Int)>(20:Int))) (some false) (nx3 (wr (v3+(1:Int))))) (nx1 (wr (v1+(1:Int))))) FU (0:Int))) (some (decide ((a0.length:Int)≤(100:Int))))) FU (0:Int)
theorem law21_Few_w (a0:List Law21Step) (r:Bool) (h:law21_Few a0=some r):Go.VC.Spec Tryz.prog 25 [.d (.sl (a0.map Law21Step.enc))] (fun y=>y=E_Bool r):=by
 refine Go.VC.Spec.of_xc (args:=[.d (.sl (a0.map Law21Step.enc))]) (fn:=Tryz.f25) tab ⟨[(0,[0]),(1,[0,3]),(2,[0,3,8]),(3,[0,3]),(4,[0,3,17]),(5,[2]),(6,[0,3,4]),(7,[0,3,4,25]),(8,[0,3,4]),(9,[0,3,4,39]),(10,[2]),(11,[2])],[],[],[]⟩ 43 [.tmp 2] rfl rfl rfl rfl rfl rfl ?_
 conv=>whnf
 refine lpS (fun v1=>⟨[(0,.l (.d (.sl (a0.map Law21Step.enc)))),(3,.l (.d (.int .i64 v1)))],43,[],[],[]⟩) h (Weak.refl _) (fun _ nx1 hn1 v1 h=>?_)
 conv=>whnf
 refine lenS a0 Law21Step.enc rfl ?_
 conv=>whnf
 refine fkS h (fun h=>?_) (fun h=>?_)
 ·conv=>whnf
  refine ixS (enc:=Law21Step.enc) h rfl (fun _=>rfl) (fun x2 h=>?_)
  conv=>whnf
  refine lenS x2.Cmds KernelCmd.enc rfl ?_
  conv=>whnf
  refine fkS h (fun h=>?_) (fun h=>?_)
  ·conv=>whnf
   exact rt (E:=E_Bool) h rfl
  conv=>whnf
  refine lpS (fun v3=>⟨[(0,.l (.d (.sl (a0.map Law21Step.enc)))),(3,.l (.d (.int .i64 v1))),(4,.l (.d (.int .i64 v3)))],43,[],[],[]⟩) h (Weak.refl _) (fun _ nx3 hn3 v3 h=>?_)
  conv=>whnf
  refine ixS (enc:=Law21Step.enc) h rfl (fun _=>rfl) (fun x4 h=>?_)
  conv=>whnf
  refine lenS x4.Cmds KernelCmd.enc rfl ?_
  conv=>whnf
  refine fkS h (fun h=>?_) (fun h=>?_)
  ·conv=>whnf
   refine ixS (enc:=Law21Step.enc) h rfl (fun _=>rfl) (fun x5 h=>?_)
   conv=>whnf
   refine ixS (enc:=KernelCmd.enc) h rfl (fun _=>rfl) (fun x6 h=>?_)
   conv=>whnf
   refine lenS x6.T.Secs Sec.enc rfl ?_
   conv=>whnf
   refine fkS h (fun h=>?_) (fun h=>?_)
   ·conv=>whnf
    exact rt (E:=E_Bool) h rfl
   conv=>whnf
   exact leS hn3 h (Weak.refl _)
  conv=>whnf
  exact leS hn1 h (Weak.refl _)
 conv=>whnf
 refine lenS a0 Law21Step.enc rfl ?_
 conv=>whnf
 exact rt (E:=E_Bool) h rfl
end Go.Proofs.YtldlcdnhdedoeaaGreat
namespace Go.Proofs.YtldlcdnhdedoeaaGreat
open Go Go.VC
/-! What is kept of a system. -/
structure kP (s:KernelState):Prop where
  tab:tabP s.Table
  parts:∀p∈s.Parts,okS p
  len:s.Parts.length≤4
  faces:s.Faces.length=s.Parts.length
  lines:linesP s.Lines
  now0:0≤s.Now
  now1:s.Now≤100000
theorem kernel_Right_t {s:KernelState} (h:kP s):kernel_Right s=some true:=by
  have h4:=h.len
  have n0:=h.now0
  have n1:=h.now1
  unfold kernel_Right
  refine lp_up s.Parts.length (by unfold FU; omega) (fun _=>True) trivial ?_
  intro nx k hk _ hnx
  rw[lt_nat]
  by_cases hk':k<s.Parts.length
  · have ho:=h.parts _ (List.getElem_mem hk')
    rw[decide_eq_true hk',fk_t,ix_lt hk',bnd_eq (part_Right_eq _ (StB.of_st ho.1)),decide_eq_true ho.1,Bool.not_true,fk_f,wr_succ k _ hk' (by omega)]
    exact hnx hk' trivial
  · rw[decide_eq_false hk',fk_f,bnd_eq (table_Right_t h.tab),fk_t,decide_eq_true (by rw[h.faces]),fk_t,decide_eq_true (by omega),fk_t,bnd_eq (port_Right_t h.lines),fk_t,decide_eq_true (by omega),fk_t,decide_eq_true (by omega)]
/-! Alike. -/
theorem eqI_refl (l:List SC):eqI l l=true:=decide_eq_true rfl
/-! What is asked. -/
theorem okS.len {s:PartState} (h:okS s):s.Tasks.length≤1000∧s.Jobs.length≤4611686018427387904:=by
  have h8:=AllP_len h.1.2.1.1
  have hj:=h.1.2.2.1.2.1
  omega
theorem okS_plus {s:PartState} {f:Face} {x:Task} (h:okS s) (h0:addE s f x=0):okS (plus s x):=by
  obtain⟨a1,a2,a3,_⟩:=addE_zero h0
  have:=okS_add (x:=x) h
  unfold addV at this
  rwa [if_pos ⟨a1,a2⟩,if_pos a3] at this
noncomputable def admV (s:PartState) (f:Face) (x:Task):PartState×Int:=if addE s f x=0 then (plus s x,0) else (s,addE s f x)
theorem admit_Add_V {s:PartState} {f:Face} {x:Task} (h:okS s):admit_Add s f x=some (admV s f x):=admit_Add_eq s f x (StB.of_st h.1) h.len.1 h.len.2
theorem okS_adm {s:PartState} {f:Face} {x:Task} (h:okS s):okS (admV s f x).1:=by
  unfold admV
  split
  · exact okS_plus h (by assumption)
  · exact h
theorem admit_Drop_V {s:PartState} {i:Int} (h:okS s):admit_Drop s i=some (leaveV s i):=by
  unfold admit_Drop
  rw[bnd_eq (part_Leave_eq s i (StB.of_st h.1))]
noncomputable def chgV (s:PartState) (f:Face) (i:Int) (x:Task):PartState×Int:=if (leaveV s i).2=0 then (if addE (leaveV s i).1 f x=0 then (plus (leaveV s i).1 x,0) else (s,addE (leaveV s i).1 f x)) else (s,(leaveV s i).2)
theorem admit_Change_V {s:PartState} {f:Face} {i:Int} {x:Task} (h:okS s):admit_Change s f i x=some (chgV s f i x):=by
  unfold admit_Change chgV
  rw[bnd_eq (admit_Drop_V h)]
  by_cases c:(leaveV s i).2=0
  rotate_left
  · rw[decide_eq_false c,Bool.not_false,fk_t,if_neg c]
  rw[decide_eq_true c,Bool.not_true,fk_f,if_pos c,bnd_eq (admit_Add_V (okS_leave h))]
  unfold admV
  by_cases d:addE (leaveV s i).1 f x=0
  · rw[if_pos d,if_pos d,decide_eq_true rfl,Bool.not_true,fk_f]
  · rw[if_neg d,if_neg d,decide_eq_false d,Bool.not_false,fk_t]
theorem okS_chg {s:PartState} {f:Face} {i:Int} {x:Task} (h:okS s):okS (chgV s f i x).1:=by
  unfold chgV
  split
  · split
    · exact okS_plus (okS_leave h) (by assumption)
    · exact h
  · exact h
def withK (s:KernelState) (i:Int) (p:PartState):KernelState:=⟨s.Table,s.Faces,s.Parts.set i.toNat p,s.Lines,s.Now⟩
theorem with_eq {s:KernelState} {i:Int} {p:PartState} (h:kP s) (h0:0≤i) (h1:i<(s.Parts.length:Int)):kernel_State_with s i p=some (withK s i p):=by
  have h4:=h.len
  unfold kernel_State_with
  rw[ck_t (by simp; omega),List.nil_append,ck_t (by simp; omega),ox_lt (by omega)]; rfl
theorem kP.with {s:KernelState} {i:Int} {p:PartState} (h:kP s) (hp:okS p):kP (withK s i p):=
  ⟨h.tab,fun q hq=>by
    rcases List.mem_or_eq_of_mem_set (show q∈s.Parts.set i.toNat p from hq) with h' | rfl
    · exact h.parts q h'
    · exact hp,by show (s.Parts.set _ _).length≤4; rw[List.length_set]; exact h.len,by show _=(s.Parts.set _ _).length; rw[List.length_set]; exact h.faces,h.lines,h.now0,h.now1⟩
/-- What comes of an ask of a partition that is there. -/
noncomputable def doP (p:PartState) (f:Face) (c:KernelCmd) (now:Int):PartState×Int:=
  if c.Kind=1 then relV p c.I c.V now else if c.Kind=4 then admV p f c.T else if c.Kind=5 then leaveV p c.I else chgV p f c.I c.T
theorem okS_doP {p:PartState} {f:Face} {c:KernelCmd} {now:Int} (h:okS p):okS (doP p f c now).1:=by
  unfold doP
  split
  · exact stP_rel h.1 h.2
  · split
    · exact okS_adm h
    · split
      · exact okS_leave h
      · exact okS_chg h
noncomputable def doK (s:KernelState) (c:KernelCmd):KernelState×Int×Int:=
  if h:0≤c.Part∧c.Part<(s.Parts.length:Int)∧s.Faces.length=s.Parts.length then
    (if c.Kind=2 then (⟨s.Table,s.Faces,s.Parts,(sendV s.Lines c.Part c.I c.V).1,s.Now⟩,0,(sendV s.Lines c.Part c.I c.V).2)
     else if c.Kind=3 then (⟨s.Table,s.Faces,s.Parts,(readV s.Lines c.Part c.I).2.1,s.Now⟩,(readV s.Lines c.Part c.I).1,(readV s.Lines c.Part c.I).2.2)
     else if c.Kind=1∨c.Kind=4∨c.Kind=5∨c.Kind=6 then (withK s c.Part (doP (s.Parts[c.Part.toNat]'(by omega)) (s.Faces[c.Part.toNat]'(by omega)) c s.Now).1,0,(doP (s.Parts[c.Part.toNat]'(by omega)) (s.Faces[c.Part.toNat]'(by omega)) c s.Now).2)
     else (s,0,4))
  else (s,0,4)
theorem kernel_Do_eq (s:KernelState) (c:KernelCmd) (h:kP s):kernel_Do s c=some (doK s c):=by
  have kk:kernel_kinds=some ():=rfl
  unfold kernel_Do
  rw[bnd_eq (kernel_Right_t h),Bool.not_true,fk_f,bnd_eq kk]
  by_cases hc:0≤c.Part∧c.Part<(s.Parts.length:Int)
  rotate_left
  · have out:∀(X:Option (KernelState×Int×Int)),jn (fun (w3:Bool)=>fk w3 (some (s,(0:Int),(4:Int))) X) (fun k3=>fk (decide (c.Part<(0:Int))) (k3 true) (k3 (decide (c.Part≥(s.Parts.length:Int)))))=some (s,0,4):=fun X=>by
      refine jn_to true (fun k=>?_) (by rw[fk_t])
      by_cases c0:c.Part<0
      · rw[decide_eq_true c0,fk_t]
      · rw[decide_eq_false c0,fk_f,decide_eq_true (by omega)]
    have ed:doK s c=(s,0,4):=by unfold doK; rw[dif_neg (fun hh=>hc ⟨hh.1,hh.2.1⟩)]
    rw[ed]
    have all:∀(b:Bool) (x y:Option (KernelState×Int×Int)),x=some (s,0,4)→y=some (s,0,4)→fk b x y=some (s,0,4):=fun b x y hx hy=>by cases b; exact hy; exact hx
    refine all _ _ _ (out _) (all _ _ _ (out _) (all _ _ _ (out _) (all _ _ _ (out _) (all _ _ _ (out _) (all _ _ _ (out _) ?_)))))
    first | rfl | (refine jn_to true (fun k=>?_) (by rw[fk_t])
                   by_cases c0:c.Part<0
                   · rw[decide_eq_true c0,fk_t]
                   · rw[decide_eq_false c0,fk_f,decide_eq_true (by omega)])
  have inn:∀(X:Option (KernelState×Int×Int)),jn (fun (w3:Bool)=>fk w3 (some (s,(0:Int),(4:Int))) X) (fun k3=>fk (decide (c.Part<(0:Int))) (k3 true) (k3 (decide (c.Part≥(s.Parts.length:Int)))))=X:=fun X=>by
    refine jn_to false (fun k=>?_) (by rw[fk_f])
    rw[decide_eq_false (by omega),fk_f,decide_eq_false (by omega)]
  simp only[inn]
  have hf:=h.faces
  have hpl:c.Part.toNat<s.Parts.length:=by omega
  have hfl:c.Part.toNat<s.Faces.length:=by omega
  have hok:=h.parts _ (List.getElem_mem hpl)
  have hb:=StB.of_st hok.1
  unfold doK
  rw[dif_pos ⟨hc.1,hc.2,hf⟩]
  by_cases c1:c.Kind=1
  · rw[decide_eq_true c1,fk_t,if_neg (by omega),if_neg (by omega),if_pos (.inl c1)]
    have e:kernel_on_1 s c=some (withK s c.Part (relV s.Parts[c.Part.toNat] c.I c.V s.Now).1,0,(relV s.Parts[c.Part.toNat] c.I c.V s.Now).2):=by
      unfold kernel_on_1
      rw[ix_int hc.1 hpl,ix_int hc.1 hfl]
      have:kernel_kinds_1 s.Parts[c.Part.toNat] s.Faces[c.Part.toNat] c s.Now=some (relV s.Parts[c.Part.toNat] c.I c.V s.Now):=by
        unfold kernel_kinds_1
        rw[bnd_eq (part_Release_eq _ _ _ _ hb)]
      rw[bnd_eq this,bnd_eq (with_eq h hc.1 hc.2)]
    rw[bnd_eq e]
    unfold doP
    rw[if_pos c1]
  rw[decide_eq_false c1,fk_f]
  by_cases c4:c.Kind=4
  · rw[decide_eq_true c4,fk_t,if_neg (by omega),if_neg (by omega),if_pos (.inr (.inl c4))]
    have e:kernel_on_1_1 s c=some (withK s c.Part (admV s.Parts[c.Part.toNat] s.Faces[c.Part.toNat] c.T).1,0,(admV s.Parts[c.Part.toNat] s.Faces[c.Part.toNat] c.T).2):=by
      unfold kernel_on_1_1
      rw[ix_int hc.1 hpl,ix_int hc.1 hfl]
      have:kernel_kinds_2 s.Parts[c.Part.toNat] s.Faces[c.Part.toNat] c s.Now=some (admV s.Parts[c.Part.toNat] s.Faces[c.Part.toNat] c.T):=by
        unfold kernel_kinds_2
        rw[bnd_eq (admit_Add_V hok)]
      rw[bnd_eq this,bnd_eq (with_eq h hc.1 hc.2)]
    rw[bnd_eq e]
    unfold doP
    rw[if_neg c1,if_pos c4]
  rw[decide_eq_false c4,fk_f]
  by_cases c5:c.Kind=5
  · rw[decide_eq_true c5,fk_t,if_neg (by omega),if_neg (by omega),if_pos (.inr (.inr (.inl c5)))]
    have e:kernel_on_1_2 s c=some (withK s c.Part (leaveV s.Parts[c.Part.toNat] c.I).1,0,(leaveV s.Parts[c.Part.toNat] c.I).2):=by
      unfold kernel_on_1_2
      rw[ix_int hc.1 hpl,ix_int hc.1 hfl]
      have:kernel_kinds_3 s.Parts[c.Part.toNat] s.Faces[c.Part.toNat] c s.Now=some (leaveV s.Parts[c.Part.toNat] c.I):=by
        unfold kernel_kinds_3
        rw[bnd_eq (admit_Drop_V hok)]
      rw[bnd_eq this,bnd_eq (with_eq h hc.1 hc.2)]
    rw[bnd_eq e]
    unfold doP
    rw[if_neg c1,if_neg c4,if_pos c5]
  rw[decide_eq_false c5,fk_f]
  by_cases c6:c.Kind=6
  · rw[decide_eq_true c6,fk_t,if_neg (by omega),if_neg (by omega),if_pos (.inr (.inr (.inr c6)))]
    have e:kernel_on_1_3 s c=some (withK s c.Part (chgV s.Parts[c.Part.toNat] s.Faces[c.Part.toNat] c.I c.T).1,0,(chgV s.Parts[c.Part.toNat] s.Faces[c.Part.toNat] c.I c.T).2):=by
      unfold kernel_on_1_3
      rw[ix_int hc.1 hpl,ix_int hc.1 hfl]
      have:kernel_kinds_4 s.Parts[c.Part.toNat] s.Faces[c.Part.toNat] c s.Now=some (chgV s.Parts[c.Part.toNat] s.Faces[c.Part.toNat] c.I c.T):=by
        unfold kernel_kinds_4
        rw[bnd_eq (admit_Change_V hok)]
      rw[bnd_eq this,bnd_eq (with_eq h hc.1 hc.2)]
    rw[bnd_eq e]
    unfold doP
    rw[if_neg c1,if_neg c4,if_neg c5]
  rw[decide_eq_false c6,fk_f]
  by_cases c2:c.Kind=2
  · rw[decide_eq_true c2,fk_t,if_pos c2]
    have e:kernel_kinds_5 s c=some (⟨s.Table,s.Faces,s.Parts,(sendV s.Lines c.Part c.I c.V).1,s.Now⟩,0,(sendV s.Lines c.Part c.I c.V).2):=by
      unfold kernel_kinds_5
      rw[bnd_eq (port_Send_eq _ _ _ _ h.lines)]
    rw[bnd_eq e]
  rw[decide_eq_false c2,fk_f,if_neg c2]
  by_cases c3:c.Kind=3
  · rw[decide_eq_true c3,fk_t,if_pos c3]
    have e:kernel_kinds_6 s c=some (⟨s.Table,s.Faces,s.Parts,(readV s.Lines c.Part c.I).2.1,s.Now⟩,(readV s.Lines c.Part c.I).1,(readV s.Lines c.Part c.I).2.2):=by
      unfold kernel_kinds_6
      rw[bnd_eq (port_Read_eq _ _ _ h.lines)]
    rw[bnd_eq e]
  rw[decide_eq_false c3,fk_f,if_neg c3,if_neg (by omega)]
  exact jn_to () (fun k=>rfl) rfl
theorem kP.do {s:KernelState} (h:kP s) (c:KernelCmd):kP (doK s c).1∧(doK s c).1.Now=s.Now∧(doK s c).1.Table=s.Table∧(doK s c).1.Parts.length=s.Parts.length∧(doK s c).1.Lines.length=s.Lines.length:=by
  unfold doK
  split
  rotate_left
  · exact⟨h,rfl,rfl,rfl,rfl⟩
  rename_i hc
  split
  · have:=sendV_ok (f:=c.Part) (i:=c.I) (v:=c.V) h.lines
    exact⟨⟨h.tab,h.parts,h.len,h.faces,this.1,h.now0,h.now1⟩,rfl,rfl,rfl,this.2⟩
  · split
    · have:=readV_ok (f:=c.Part) (i:=c.I) h.lines
      exact⟨⟨h.tab,h.parts,h.len,h.faces,this.1,h.now0,h.now1⟩,rfl,rfl,rfl,this.2⟩
    · split
      · refine⟨h.with (okS_doP (h.parts _ (List.getElem_mem _))),rfl,rfl,?_,rfl⟩
        show (s.Parts.set _ _).length=_
        rw[List.length_set]
      · exact⟨h,rfl,rfl,rfl,rfl⟩
end Go.Proofs.YtldlcdnhdedoeaaGreat
namespace Go.Proofs.YtldlcdnhdedoeaaGreat
open Go Go.VC
/-! A tick of a system. -/
def emptyP:PartState:=⟨[],[],[],[],[]⟩
noncomputable def tkP (s:KernelState) (who:Int) (i:Nat):PartState×Int:=tickV ((s.Parts[i]?).getD emptyP) (decide ((i:Int)=who)) s.Now
noncomputable def whoK (s:KernelState):Int:=whoV s.Table.Windows (s.Now.tmod s.Table.Frame)
noncomputable def partsK (s:KernelState):List PartState:=(List.range s.Parts.length).map fun i=>(tkP s (whoK s) i).1
noncomputable def ranK (s:KernelState):List Int:=(List.range s.Parts.length).map fun i=>(tkP s (whoK s) i).2
theorem tkP_at {s:KernelState} {who:Int} {i:Nat} (h:i<s.Parts.length):tkP s who i=tickV s.Parts[i] (decide ((i:Int)=who)) s.Now:=by
 unfold tkP; rw[List.getElem?_eq_getElem h]; rfl
theorem okS_tkP {s:KernelState} {who:Int} {i:Nat} (h:kP s) (hi:i<s.Parts.length):okS (tkP s who i).1:=by
 rw[tkP_at hi]; exact okS_tick (h.parts _ (List.getElem_mem hi))
/-- The lines behind a tick. -/
def linesK (s:KernelState) (L:List PortLine):Prop:=linesP L∧L.length=s.Lines.length∧(if s.Now.tmod s.Table.Frame=0 then port_Deliver s.Lines=some L∧∀(i:Nat) (x y:PortLine),s.Lines[i]?=some x→L[i]?=some y→gone x y else L=s.Lines)
theorem linesK_ex {s:KernelState} (h:kP s):∃L,linesK s L:=by
 obtain⟨L,e,a,b,c⟩:=port_Deliver_ex s.Lines h.lines
 by_cases hh:s.Now.tmod s.Table.Frame=0
 ·exact⟨L,a,b,by rw[if_pos hh]; exact⟨e,c⟩⟩
 ·exact⟨s.Lines,h.lines,rfl,by rw[if_neg hh]⟩
theorem kernel_Tick_eq {s:KernelState} (h:kP s) {L:List PortLine} (hL:linesK s L):kernel_Tick s=some (⟨s.Table,s.Faces,partsK s,L,s.Now+1⟩,ranK s,0):=by
 have h4:=h.len
 have n0:=h.now0
 have n1:=h.now1
 have f1:=h.tab.f1
 unfold kernel_Tick
 rw[bnd_eq (kernel_Right_t h),Bool.not_true,fk_f]
 refine jn_to L (fun k=>?_) ?_
 ·rw[ck_t (decide_eq_true (by omega))]
  obtain⟨_,_,hl⟩:=hL
  by_cases hh:s.Now.tmod s.Table.Frame=0
  ·rw[if_pos hh] at hl
   rw[decide_eq_true hh,fk_t,bnd_eq hl.1]
  ·rw[if_neg hh] at hl
   rw[decide_eq_false hh,fk_f,hl]
 rw[bnd_eq (table_At_eq h.tab n0)]
 refine lp_inv (fun v=>s.Parts.length-v.2.2.2.2.2.2.2.toNat) (fun v=>∃(k:Nat) (U:List PartState),v=(s.Table.Frame,s.Table.Windows,s.Faces,U,L,s.Now,(List.range k).map (fun i=>(tkP s (whoK s) i).2),(k:Int))∧k≤s.Parts.length∧U.length=s.Parts.length∧∀i,U[i]?=if i<k then (if i<s.Parts.length then some (tkP s (whoK s) i).1 else none) else s.Parts[i]?) ?_ FU _ ⟨0,s.Parts,rfl,Nat.zero_le _,rfl,fun i=>by rw[if_neg (by omega)]⟩ (by unfold FU; simp only; omega)
 rintro nx v ⟨k,U,rfl,hk,hU,hUv⟩ hnx
 dsimp only
 rw[lt_nat]
 by_cases c:k<s.Parts.length
 rotate_left
 ·have e:k=s.Parts.length:=by omega
  subst e
  have eU:U=partsK s:=by
   refine List.ext_getElem? fun i=>?_
   rw[hUv i]
   unfold partsK
   rw[List.getElem?_map]
   by_cases ci:i<s.Parts.length
   ·rw[if_pos ci,if_pos ci,List.getElem?_range ci]; rfl
   ·rw[if_neg ci,List.getElem?_eq_none (by omega),List.getElem?_eq_none (by simp; omega)]; rfl
  rw[decide_eq_false c,fk_f,eU,wr_in _ (by omega)]; rfl
 have ho:=h.parts _ (List.getElem_mem c)
 have hb:=StB.of_st ho.1
 rw[decide_eq_true c,fk_t,ix_lt c,bnd_eq (part_Tick_eq _ _ _ hb),if_pos ⟨ho.1,by unfold whenP; omega⟩,wr_succ k _ c (by omega)]
 dsimp only
 have ew:kernel_State_with ⟨⟨s.Table.Frame,s.Table.Windows⟩,s.Faces,U,L,s.Now⟩ (k:Int) (tickV s.Parts[k] (decide ((k:Int)=whoK s)) s.Now).1=some ⟨s.Table,s.Faces,U.set k (tkP s (whoK s) k).1,L,s.Now⟩:=by
  unfold kernel_State_with
  dsimp only
  rw[ck_t (by simp; omega),List.nil_append,ck_t (by simp; omega),Int.toNat_natCast,ox_lt (by omega),tkP_at c]
 rw[show whoV s.Table.Windows (s.Now.tmod s.Table.Frame)=whoK s from rfl,bnd_eq ew,ck_t (by simp; omega)]
 refine hnx _ ⟨k+1,U.set k (tkP s (whoK s) k).1,?_,c,by rw[List.length_set]; exact hU,fun i=>?_⟩ (by simp only[Int.toNat_natCast]; omega)
 ·rw[List.range_succ,List.map_append,List.map_singleton,tkP_at c]
 ·by_cases e:i=k
  ·subst e
   rw[List.getElem?_set_self (by omega),if_pos (by omega),if_pos c]
  ·rw[List.getElem?_set_ne (fun hh=>e hh.symm),hUv i]
   by_cases ci:i<k
   ·rw[if_pos ci,if_pos (show i<s.Parts.length by omega),if_pos (show i<k+1 by omega)]
   ·rw[if_neg ci,if_neg (by omega)]
theorem kP.tick {s:KernelState} (h:kP s) {L:List PortLine} (hL:linesK s L) (hn:s.Now≤90000):kP ⟨s.Table,s.Faces,partsK s,L,s.Now+1⟩:=by
 have n0:=h.now0
 refine⟨h.tab,fun p hp=>?_,?_,?_,hL.1,by show 0≤s.Now+1; omega,by show s.Now+1≤100000; omega⟩
 ·obtain⟨i,hi,rfl⟩:=List.mem_map.1 hp
  exact okS_tkP h (by simpa using hi)
 ·show (partsK s).length≤4
  unfold partsK; rw[List.length_map,List.length_range]; exact h.len
 ·show s.Faces.length=(partsK s).length
  unfold partsK; rw[List.length_map,List.length_range]; exact h.faces
/-! Scripts. -/
theorem few_ex (l:List Law21Step) (hl:l.length≤4611686018427387904) (hc:∀x∈l,x.Cmds.length≤4611686018427387904):∃b,law21_Few l=some b∧(b=true→l.length≤100∧∀x∈l,x.Cmds.length≤10):=by
 unfold law21_Few
 refine lp_up_ex l.length (by unfold FU; omega) (fun k=>∀x∈l.take k,x.Cmds.length≤10) (fun b=>b=true→l.length≤100∧∀x∈l,x.Cmds.length≤10) (fun x h=>by simp at h) ?_
 intro nx k hk J hnx
 rw[lt_nat]
 by_cases c:k<l.length
 rotate_left
 ·rw[List.take_of_length_le (by omega)] at J
  rw[decide_eq_false c,fk_f]
  exact⟨_,rfl,fun h=>by rw[decide_eq_true_eq] at h; exact⟨by omega,J⟩⟩
 rw[decide_eq_true c,fk_t,ix_lt c]
 by_cases h10:(l[k].Cmds.length:Int)>10
 ·rw[decide_eq_true h10,fk_t]; exact⟨false,rfl,fun h=>by cases h⟩
 rw[decide_eq_false h10,fk_f]
 refine lp_up_ex l[k].Cmds.length (by unfold FU; have:=hc _ (List.getElem_mem c); omega) (fun _=>True) (fun b=>b=true→l.length≤100∧∀x∈l,x.Cmds.length≤10) trivial ?_
 intro nx3 j hj _ hnx3
 rw[ix_lt c,lt_nat]
 by_cases cj:j<l[k].Cmds.length
 ·rw[decide_eq_true cj,fk_t,ix_lt c,ix_lt cj,wr_succ j _ cj (hc _ (List.getElem_mem c))]
  by_cases h20:(l[k].Cmds[j].T.Secs.length:Int)>20
  ·rw[decide_eq_true h20,fk_t]; exact⟨false,rfl,fun h=>by cases h⟩
  ·rw[decide_eq_false h20,fk_f]; exact hnx3 cj trivial
 ·rw[decide_eq_false cj,fk_f,wr_succ k _ c hl]
  refine hnx c fun x hx=>?_
  rcases mem_take_succ c hx with h | rfl
  ·exact J x h
  ·omega
end Go.Proofs.YtldlcdnhdedoeaaGreat
namespace Go.Proofs.YtldlcdnhdedoeaaGreat
open Go Go.VC
noncomputable def image_Decode (a0:List Int):Option (Config×Int×Int):=
 lp (fun nx1 (v1:Int×Int×Int)=>fk (decide (v1.2.2<(3:Int))) (jn (fun (w2:Int×Int×Int)=>jn (fun (w6:Bool)=>fk w6 (some (⟨[],[]⟩,v1.2.2,(2:Int))) (nx1 (w2.1,w2.2.1,(wr (v1.2.2+(1:Int)))))) (fun k6=>fk (decide (w2.2.1=(0:Int))) (ix ([84,75,49]:List Int) v1.2.2 fun x7=>k6 (!decide (w2.2.2=(IntKind.i64.wrap x7)))) (k6 false))) (fun k2=>jn (fun (w3:Int)=>fk (!decide (w3=(0:Int))) (k2 (v1.1,w3,(0:Int))) (ix a0 (wr ((wr (v1.1+(1:Int)))-(1:Int))) fun x5=>k2 ((wr (v1.1+(1:Int))),w3,(IntKind.i64.wrap x5)))) (fun k3=>jn (fun (w4:Bool)=>fk w4 (k3 (8:Int)) (k3 v1.2.1)) (fun k4=>fk (decide (v1.2.1=(0:Int))) (k4 (decide (v1.1≥(a0.length:Int)))) (k4 false))))) (jn (fun (w8:Int×Int×(List Part))=>jn (fun (w63:Int×Int×(List Port))=>fk (!decide (w63.2.1=(0:Int))) (some (⟨[],[]⟩,(a0.length:Int),w63.2.1)) (fk (decide (w63.1<(a0.length:Int))) (some (⟨[],[]⟩,w63.1,(2:Int))) (bnd (image_Right ⟨w8.2.2,w63.2.2⟩) fun x82=>fk (!x82) (some (⟨[],[]⟩,(0:Int),(1:Int))) (some (⟨w8.2.2,w63.2.2⟩,(0:Int),(0:Int)))))) (fun k63=>jn (fun (w64:Int×Int×Int)=>lp (fun nx68 (v68:Int×Int×(List Port)×Int)=>jn (fun (w69:Bool)=>fk w69 (jn (fun (w70:Int×Int×Int)=>jn (fun (w74:Int×Int×Int)=>jn (fun (w78:Int×Int×Int)=>ck (decide ((v68.2.2.1.length+([⟨w70.2.2,w74.2.2,w78.2.2⟩]:List Port).length)*24≤140737488355328)) (nx68 (w78.1,w78.2.1,v68.2.2.1++([⟨w70.2.2,w74.2.2,w78.2.2⟩]:List Port),(wr (v68.2.2.2-(1:Int)))))) (fun k78=>jn (fun (w79:Int)=>fk (!decide (w79=(0:Int))) (k78 (w74.1,w79,(0:Int))) (ix a0 (wr ((wr (w74.1+(1:Int)))-(1:Int))) fun x81=>k78 ((wr (w74.1+(1:Int))),w79,(IntKind.i64.wrap x81)))) (fun k79=>jn (fun (w80:Bool)=>fk w80 (k79 (8:Int)) (k79 w74.2.1)) (fun k80=>fk (decide (w74.2.1=(0:Int))) (k80 (decide (w74.1≥(a0.length:Int)))) (k80 false))))) (fun k74=>jn (fun (w75:Int)=>fk (!decide (w75=(0:Int))) (k74 (w70.1,w75,(0:Int))) (ix a0 (wr ((wr (w70.1+(1:Int)))-(1:Int))) fun x77=>k74 ((wr (w70.1+(1:Int))),w75,(IntKind.i64.wrap x77)))) (fun k75=>jn (fun (w76:Bool)=>fk w76 (k75 (8:Int)) (k75 w70.2.1)) (fun k76=>fk (decide (w70.2.1=(0:Int))) (k76 (decide (w70.1≥(a0.length:Int)))) (k76 false))))) (fun k70=>jn (fun (w71:Int)=>fk (!decide (w71=(0:Int))) (k70 (v68.1,w71,(0:Int))) (ix a0 (wr ((wr (v68.1+(1:Int)))-(1:Int))) fun x73=>k70 ((wr (v68.1+(1:Int))),w71,(IntKind.i64.wrap x73)))) (fun k71=>jn (fun (w72:Bool)=>fk w72 (k71 (8:Int)) (k71 v68.2.1)) (fun k72=>fk (decide (v68.2.1=(0:Int))) (k72 (decide (v68.1≥(a0.length:Int)))) (k72 false))))) (k63 (v68.1,v68.2.1,v68.2.2.1))) (fun k69=>fk (decide (v68.2.2.2>(0:Int))) (k69 (decide (v68.2.1=(0:Int)))) (k69 false))) FU (w64.1,w64.2.1,[],w64.2.2)) (fun k64=>jn (fun (w65:Int)=>fk (!decide (w65=(0:Int))) (k64 (w8.1,w65,(0:Int))) (ix a0 (wr ((wr (w8.1+(1:Int)))-(1:Int))) fun x67=>k64 ((wr (w8.1+(1:Int))),w65,(IntKind.i64.wrap x67)))) (fun k65=>jn (fun (w66:Bool)=>fk w66 (k65 (8:Int)) (k65 w8.2.1)) (fun k66=>fk (decide (w8.2.1=(0:Int))) (k66 (decide (w8.1≥(a0.length:Int)))) (k66 false)))))) (fun k8=>jn (fun (w9:Int×Int×Int)=>lp (fun nx13 (v13:Int×Int×(List Part)×Int)=>jn (fun (w14:Bool)=>fk w14 (jn (fun (w15:Int×Int×(List Task)×Int×Int)=>ck (decide ((v13.2.2.1.length+([⟨⟨w15.2.2.2.1,w15.2.2.2.2⟩,w15.2.2.1⟩]:List Part).length)*40≤140737488355328)) (nx13 (w15.1,w15.2.1,v13.2.2.1++([⟨⟨w15.2.2.2.1,w15.2.2.2.2⟩,w15.2.2.1⟩]:List Part),(wr (v13.2.2.2-(1:Int)))))) (fun k15=>jn (fun (w16:Int×Int×Int)=>jn (fun (w20:Int×Int×Int)=>jn (fun (w24:Int×Int×(List Task))=>k15 (w24.1,w24.2.1,w24.2.2,w16.2.2,w20.2.2)) (fun k24=>jn (fun (w25:Int×Int×Int)=>lp (fun nx29 (v29:Int×Int×(List Task)×Int)=>jn (fun (w30:Bool)=>fk w30 (jn (fun (w31:Int×Int×(List Sec)×Int×Int×Int)=>ck (decide ((v29.2.2.1.length+([⟨w31.2.2.2.1,w31.2.2.2.2.1,w31.2.2.2.2.2,w31.2.2.1⟩]:List Task).length)*48≤140737488355328)) (nx29 (w31.1,w31.2.1,v29.2.2.1++([⟨w31.2.2.2.1,w31.2.2.2.2.1,w31.2.2.2.2.2,w31.2.2.1⟩]:List Task),(wr (v29.2.2.2-(1:Int)))))) (fun k31=>jn (fun (w32:Int×Int×Int)=>jn (fun (w36:Int×Int×Int)=>jn (fun (w40:Int×Int×Int)=>jn (fun (w44:Int×Int×(List Sec))=>k31 (w44.1,w44.2.1,w44.2.2,w32.2.2,w36.2.2,w40.2.2)) (fun k44=>jn (fun (w45:Int×Int×Int)=>lp (fun nx49 (v49:Int×Int×(List Sec)×Int)=>jn (fun (w50:Bool)=>fk w50 (jn (fun (w51:Int×Int×Int)=>jn (fun (w55:Int×Int×Int)=>jn (fun (w59:Int×Int×Int)=>ck (decide ((v49.2.2.1.length+([⟨w51.2.2,w55.2.2,w59.2.2⟩]:List Sec).length)*24≤140737488355328)) (nx49 (w59.1,w59.2.1,v49.2.2.1++([⟨w51.2.2,w55.2.2,w59.2.2⟩]:List Sec),(wr (v49.2.2.2-(1:Int)))))) (fun k59=>jn (fun (w60:Int)=>fk (!decide (w60=(0:Int))) (k59 (w55.1,w60,(0:Int))) (ix a0 (wr ((wr (w55.1+(1:Int)))-(1:Int))) fun x62=>k59 ((wr (w55.1+(1:Int))),w60,(IntKind.i64.wrap x62)))) (fun k60=>jn (fun (w61:Bool)=>fk w61 (k60 (8:Int)) (k60 w55.2.1)) (fun k61=>fk (decide (w55.2.1=(0:Int))) (k61 (decide (w55.1≥(a0.length:Int)))) (k61 false))))) (fun k55=>jn (fun (w56:Int)=>fk (!decide (w56=(0:Int))) (k55 (w51.1,w56,(0:Int))) (ix a0 (wr ((wr (w51.1+(1:Int)))-(1:Int))) fun x58=>k55 ((wr (w51.1+(1:Int))),w56,(IntKind.i64.wrap x58)))) (fun k56=>jn (fun (w57:Bool)=>fk w57 (k56 (8:Int)) (k56 w51.2.1)) (fun k57=>fk (decide (w51.2.1=(0:Int))) (k57 (decide (w51.1≥(a0.length:Int)))) (k57 false))))) (fun k51=>jn (fun (w52:Int)=>fk (!decide (w52=(0:Int))) (k51 (v49.1,w52,(0:Int))) (ix a0 (wr ((wr (v49.1+(1:Int)))-(1:Int))) fun x54=>k51 ((wr (v49.1+(1:Int))),w52,(IntKind.i64.wrap x54)))) (fun k52=>jn (fun (w53:Bool)=>fk w53 (k52 (8:Int)) (k52 v49.2.1)) (fun k53=>fk (decide (v49.2.1=(0:Int))) (k53 (decide (v49.1≥(a0.length:Int)))) (k53 false))))) (k44 (v49.1,v49.2.1,v49.2.2.1))) (fun k50=>fk (decide (v49.2.2.2>(0:Int))) (k50 (decide (v49.2.1=(0:Int)))) (k50 false))) FU (w45.1,w45.2.1,[],w45.2.2)) (fun k45=>jn (fun (w46:Int)=>fk (!decide (w46=(0:Int))) (k45 (w40.1,w46,(0:Int))) (ix a0 (wr ((wr (w40.1+(1:Int)))-(1:Int))) fun x48=>k45 ((wr (w40.1+(1:Int))),w46,(IntKind.i64.wrap x48)))) (fun k46=>jn (fun (w47:Bool)=>fk w47 (k46 (8:Int)) (k46 w40.2.1)) (fun k47=>fk (decide (w40.2.1=(0:Int))) (k47 (decide (w40.1≥(a0.length:Int)))) (k47 false)))))) (fun k40=>jn (fun (w41:Int)=>fk (!decide (w41=(0:Int))) (k40 (w36.1,w41,(0:Int))) (ix a0 (wr ((wr (w36.1+(1:Int)))-(1:Int))) fun x43=>k40 ((wr (w36.1+(1:Int))),w41,(IntKind.i64.wrap x43)))) (fun k41=>jn (fun (w42:Bool)=>fk w42 (k41 (8:Int)) (k41 w36.2.1)) (fun k42=>fk (decide (w36.2.1=(0:Int))) (k42 (decide (w36.1≥(a0.length:Int)))) (k42 false))))) (fun k36=>jn (fun (w37:Int)=>fk (!decide (w37=(0:Int))) (k36 (w32.1,w37,(0:Int))) (ix a0 (wr ((wr (w32.1+(1:Int)))-(1:Int))) fun x39=>k36 ((wr (w32.1+(1:Int))),w37,(IntKind.i64.wrap x39)))) (fun k37=>jn (fun (w38:Bool)=>fk w38 (k37 (8:Int)) (k37 w32.2.1)) (fun k38=>fk (decide (w32.2.1=(0:Int))) (k38 (decide (w32.1≥(a0.length:Int)))) (k38 false))))) (fun k32=>jn (fun (w33:Int)=>fk (!decide (w33=(0:Int))) (k32 (v29.1,w33,(0:Int))) (ix a0 (wr ((wr (v29.1+(1:Int)))-(1:Int))) fun x35=>k32 ((wr (v29.1+(1:Int))),w33,(IntKind.i64.wrap x35)))) (fun k33=>jn (fun (w34:Bool)=>fk w34 (k33 (8:Int)) (k33 v29.2.1)) (fun k34=>fk (decide (v29.2.1=(0:Int))) (k34 (decide (v29.1≥(a0.length:Int)))) (k34 false)))))) (k24 (v29.1,v29.2.1,v29.2.2.1))) (fun k30=>fk (decide (v29.2.2.2>(0:Int))) (k30 (decide (v29.2.1=(0:Int)))) (k30 false))) FU (w25.1,w25.2.1,[],w25.2.2)) (fun k25=>jn (fun (w26:Int)=>fk (!decide (w26=(0:Int))) (k25 (w20.1,w26,(0:Int))) (ix a0 (wr ((wr (w20.1+(1:Int)))-(1:Int))) fun x28=>k25 ((wr (w20.1+(1:Int))),w26,(IntKind.i64.wrap x28)))) (fun k26=>jn (fun (w27:Bool)=>fk w27 (k26 (8:Int)) (k26 w20.2.1)) (fun k27=>fk (decide (w20.2.1=(0:Int))) (k27 (decide (w20.1≥(a0.length:Int)))) (k27 false)))))) (fun k20=>jn (fun (w21:Int)=>fk (!decide (w21=(0:Int))) (k20 (w16.1,w21,(0:Int))) (ix a0 (wr ((wr (w16.1+(1:Int)))-(1:Int))) fun x23=>k20 ((wr (w16.1+(1:Int))),w21,(IntKind.i64.wrap x23)))) (fun k21=>jn (fun (w22:Bool)=>fk w22 (k21 (8:Int)) (k21 w16.2.1)) (fun k22=>fk (decide (w16.2.1=(0:Int))) (k22 (decide (w16.1≥(a0.length:Int)))) (k22 false))))) (fun k16=>jn (fun (w17:Int)=>fk (!decide (w17=(0:Int))) (k16 (v13.1,w17,(0:Int))) (ix a0 (wr ((wr (v13.1+(1:Int)))-(1:Int))) fun x19=>k16 ((wr (v13.1+(1:Int))),w17,(IntKind.i64.wrap x19)))) (fun k17=>jn (fun (w18:Bool)=>fk w18 (k17 (8:Int)) (k17 v13.2.1)) (fun k18=>fk (decide (v13.2.1=(0:Int))) (k18 (decide (v13.1≥(a0.length:Int)))) (k18 false)))))) (k8 (v13.1,v13.2.1,v13.2.2.1))) (fun k14=>fk (decide (v13.2.2.2>(0:Int))) (k14 (decide (v13.2.1=(0:Int)))) (k14 false))) FU (w9.1,w9.2.1,[],w9.2.2)) (fun k9=>jn (fun (w10:Int)=>fk (!decide (w10=(0:Int))) (k9 (v1.1,w10,(0:Int))) (ix a0 (wr ((wr (v1.1+(1:Int)))-(1:Int))) fun x12=>k9 ((wr (v1.1+(1:Int))),w10,(IntKind.i64.wrap x12)))) (fun k10=>jn (fun (w11:Bool)=>fk w11 (k10 (8:Int)) (k10 v1.2.1)) (fun k11=>fk (decide (v1.2.1=(0:Int))) (k11 (decide (v1.1≥(a0.length:Int)))) (k11 false))))))) FU ((0:Int),(0:Int),(0:Int))
theorem image_Decode_w (a0:List Int) (r:Config×Int×Int) (h:image_Decode a0=some r):Go.VC.Spec Tryz.prog 43 [.d (.sl (a0.map (eI .u8)))] (fun y=>y=E_Config_Int_Int r):=by
 refine Go.VC.Spec.of_xc (args:=[.d (.sl (a0.map (eI .u8)))]) (fn:=Tryz.f43) tab ⟨[(0,[0,2]),(1,[0,2,5]),(2,[0,2,5,12]),(3,[0,2,5,12,13]),(4,[0,2,5,6,12]),(5,[0,2,5,6,7,12]),(6,[0,2,5,6,12,28]),(7,[2,3,4]),(8,[0,2,5,12]),(9,[0,2,5,8]),(10,[0,2,5,8]),(11,[0,2,5,8,42]),(12,[2,3,4]),(13,[2,5,8,55]),(14,[2,3,4]),(15,[2,8,68]),(16,[2,3,4]),(17,[2,3,4])],[],[100028],[]⟩ 74 [.cell 2 25,.tmp 3,.tmp 4] rfl rfl rfl rfl rfl rfl ?_
 conv=>whnf
 refine lpS (fun v1=>⟨[(0,.l (.d (.sl (a0.map (eI .u8))))),(2,.l (.ptr 3 0)),(5,.l (.ptr 12 0)),(12,.l (.d (.int .i64 v1.2.2)))],74,[],[(3,[.nil,.nil]),(12,[.d (.sl (a0.map (eI .u8))),.d (.int .i64 v1.1),.d (.int .i64 v1.2.1)])],[]⟩) h (Weak.refl _) (fun _ nx1 hn1 v1 h=>?_)
 conv=>whnf
 refine fkS h (fun h=>?_) (fun h=>?_)
 ·conv=>whnf
  refine inJ (fun w2=>⟨[(16,.l (.d (.int .i64 w2.2.2))),(15,.l (.ptr 12 0)),(0,.l (.d (.sl (a0.map (eI .u8))))),(2,.l (.ptr 3 0)),(5,.l (.ptr 12 0)),(6,.l (.d (.int .i64 v1.2.2))),(12,.l (.d (.int .i64 v1.2.2)))],74,[],[(3,[.nil,.nil]),(12,[.d (.sl (a0.map (eI .u8))),.d (.int .i64 w2.1),.d (.int .i64 w2.2.1)])],[]⟩) h (fun k2 hk2 h=>?_) (fun w2 h=>?_)
  ·conv=>whnf
   refine inS (fn:=Tryz.f99) tab ⟨[(0,[0]),(1,[0,19]),(2,[0]),(3,[0,27]),(4,[2]),(5,[0]),(6,[2])],[],[100019,3],[]⟩ 47 [.tmp 2] rfl rfl rfl rfl rfl rfl ?_
   conv=>whnf
   refine jnS (fun w3=>⟨[(0,.l (.ptr 12 0))],47,[⟨[(15,.l (.ptr 12 0)),(0,.l (.d (.sl (a0.map (eI .u8))))),(2,.l (.ptr 3 0)),(5,.l (.ptr 12 0)),(6,.l (.d (.int .i64 v1.2.2))),(12,.l (.d (.int .i64 v1.2.2)))],74⟩],[(3,[.nil,.nil]),(12,[.d (.sl (a0.map (eI .u8))),.d (.int .i64 v1.1),.d (.int .i64 w3)])],[]⟩) h (fun k3 hk3 h=>?_) (fun w3 h=>?_)
   ·conv=>whnf
    refine jnS (fun w4=>⟨[(0,.l (.ptr 12 0)),(19,.l (.d (.bool w4)))],47,[⟨[(15,.l (.ptr 12 0)),(0,.l (.d (.sl (a0.map (eI .u8))))),(2,.l (.ptr 3 0)),(5,.l (.ptr 12 0)),(6,.l (.d (.int .i64 v1.2.2))),(12,.l (.d (.int .i64 v1.2.2)))],74⟩],[(3,[.nil,.nil]),(12,[.d (.sl (a0.map (eI .u8))),.d (.int .i64 v1.1),.d (.int .i64 v1.2.1)])],[]⟩) h (fun k4 hk4 h=>?_) (fun w4 h=>?_)
    ·conv=>whnf
     refine⟨17,?_⟩
     conv=>whnf
     refine fkS h (fun h=>?_) (fun h=>?_)
     ·conv=>whnf
      refine lenS a0 (eI .u8) rfl ?_
      conv=>whnf
      refine drS (by kernel_rfl) ?_
      conv=>whnf
      exact jeS hk4 h (Weak.refl _)
     conv=>whnf
     refine drS (by kernel_rfl) ?_
     conv=>whnf
     exact jeS hk4 h (Weak.refl _)
    conv=>whnf
    refine fkS h (fun h=>?_) (fun h=>?_)
    ·conv=>whnf
     exact jeS hk3 h (Weak.refl _)
    conv=>whnf
    refine jeX hk3 h ?_
    conv=>whnf
    refine WkF.step (Weak.keepS _ [0]) ?_
    conv=>whnf
    exact WkF.refl _
   conv=>whnf
   refine fkS h (fun h=>?_) (fun h=>?_)
   ·conv=>whnf
    exact jeS hk2 h (Weak.refl _)
   conv=>whnf
   refine⟨9,?_⟩
   conv=>whnf
   refine drS (by kernel_rfl) ?_
   conv=>whnf
   refine ixS (enc:=(eI .u8)) h rfl (fun _=>rfl) (fun x5 h=>?_)
   conv=>whnf
   exact jeS hk2 h (Weak.refl _)
  conv=>whnf
  refine jnS (fun w6=>⟨[(0,.l (.d (.sl (a0.map (eI .u8))))),(2,.l (.ptr 3 0)),(5,.l (.ptr 12 0)),(6,.l (.d (.int .i64 v1.2.2))),(12,.l (.d (.int .i64 v1.2.2))),(28,.l (.d (.bool w6)))],74,[],[(3,[.nil,.nil]),(12,[.d (.sl (a0.map (eI .u8))),.d (.int .i64 w2.1),.d (.int .i64 w2.2.1)])],[]⟩) h (fun k6 hk6 h=>?_) (fun w6 h=>?_)
  ·conv=>whnf
   refine fkS h (fun h=>?_) (fun h=>?_)
   ·conv=>whnf
    refine isS ([84,75,49]:List Int) h rfl rfl rfl Tryz.underlying9 rfl (fun x7 h=>?_)
    conv=>whnf
    exact jeS hk6 h (Weak.refl _)
   conv=>whnf
   exact jeS hk6 h (Weak.refl _)
  conv=>whnf
  refine fkS h (fun h=>?_) (fun h=>?_)
  ·conv=>whnf
   exact rt (E:=E_Config_Int_Int) h rfl
  conv=>whnf
  exact leS hn1 h (Weak.refl _)
 conv=>whnf
 refine inJ (fun w8=>⟨[(35,.l (.own 36)),(34,.l (.mfn 101 12)),(33,.l (.ptr 12 0)),(32,.l (.ptr 12 0)),(13,.l (.d (.bool false))),(0,.l (.d (.sl (a0.map (eI .u8))))),(2,.l (.ptr 3 0)),(5,.l (.ptr 12 0)),(12,.l (.d (.int .i64 v1.2.2)))],74,[],[(3,[.nil,.nil]),(12,[.d (.sl (a0.map (eI .u8))),.d (.int .i64 w8.1),.d (.int .i64 w8.2.1)])],[(36,57,3,w8.2.2.map Part.enc)]⟩) h (fun k8 hk8 h=>?_) (fun w8 h=>?_)
 ·conv=>whnf
  refine inS (fn:=Tryz.f100) tab ⟨[(0,[0,1]),(1,[0,1,5]),(2,[0,1,5,6]),(3,[0,1,5,6,17]),(4,[0,1,5,6]),(5,[0,1,5,6]),(6,[4])],[],[100017],[(23,[301023])]⟩ 26 [.tmp 4] rfl rfl rfl rfl rfl rfl ?_
  conv=>whnf
  refine inJ (fun w9=>⟨[(8,.l (.d (.int .i64 w9.2.2))),(7,.l (.ptr 12 0)),(0,.l (.ptr 12 0)),(1,.l (.mfn 101 12)),(5,.l .nil)],26,[⟨[(34,.l (.mfn 101 12)),(33,.l (.ptr 12 0)),(32,.l (.ptr 12 0)),(13,.l (.d (.bool false))),(0,.l (.d (.sl (a0.map (eI .u8))))),(2,.l (.ptr 3 0)),(5,.l (.ptr 12 0)),(12,.l (.d (.int .i64 v1.2.2))),(13,.l (.d (.bool (decide (v1.2.2<(3:Int))))))],74⟩],[(3,[.nil,.nil]),(12,[.d (.sl (a0.map (eI .u8))),.d (.int .i64 w9.1),.d (.int .i64 w9.2.1)])],[]⟩) h (fun k9 hk9 h=>?_) (fun w9 h=>?_)
  ·conv=>whnf
   refine inS (fn:=Tryz.f99) tab ⟨[(0,[0]),(1,[0,19]),(2,[0]),(3,[0,27]),(4,[2]),(5,[0]),(6,[2])],[],[100019,3],[]⟩ 47 [.tmp 2] rfl rfl rfl rfl rfl rfl ?_
   conv=>whnf
   refine jnS (fun w10=>⟨[(0,.l (.ptr 12 0))],47,[⟨[(7,.l (.ptr 12 0)),(0,.l (.ptr 12 0)),(1,.l (.mfn 101 12)),(5,.l .nil)],26⟩,⟨[(34,.l (.mfn 101 12)),(33,.l (.ptr 12 0)),(32,.l (.ptr 12 0)),(13,.l (.d (.bool false))),(0,.l (.d (.sl (a0.map (eI .u8))))),(2,.l (.ptr 3 0)),(5,.l (.ptr 12 0)),(12,.l (.d (.int .i64 v1.2.2))),(13,.l (.d (.bool (decide (v1.2.2<(3:Int))))))],74⟩],[(3,[.nil,.nil]),(12,[.d (.sl (a0.map (eI .u8))),.d (.int .i64 v1.1),.d (.int .i64 w10)])],[]⟩) h (fun k10 hk10 h=>?_) (fun w10 h=>?_)
   ·conv=>whnf
    refine jnS (fun w11=>⟨[(0,.l (.ptr 12 0)),(19,.l (.d (.bool w11)))],47,[⟨[(7,.l (.ptr 12 0)),(0,.l (.ptr 12 0)),(1,.l (.mfn 101 12)),(5,.l .nil)],26⟩,⟨[(34,.l (.mfn 101 12)),(33,.l (.ptr 12 0)),(32,.l (.ptr 12 0)),(13,.l (.d (.bool false))),(0,.l (.d (.sl (a0.map (eI .u8))))),(2,.l (.ptr 3 0)),(5,.l (.ptr 12 0)),(12,.l (.d (.int .i64 v1.2.2))),(13,.l (.d (.bool (decide (v1.2.2<(3:Int))))))],74⟩],[(3,[.nil,.nil]),(12,[.d (.sl (a0.map (eI .u8))),.d (.int .i64 v1.1),.d (.int .i64 v1.2.1)])],[]⟩) h (fun k11 hk11 h=>?_) (fun w11 h=>?_)
    ·conv=>whnf
     refine⟨17,?_⟩
     conv=>whnf
     refine fkS h (fun h=>?_) (fun h=>?_)
     ·conv=>whnf
      refine lenS a0 (eI .u8) rfl ?_
      conv=>whnf
      refine drS (by kernel_rfl) ?_
      conv=>whnf
      exact jeS hk11 h (Weak.refl _)
     conv=>whnf
     refine drS (by kernel_rfl) ?_
     conv=>whnf
     exact jeS hk11 h (Weak.refl _)
    conv=>whnf
    refine fkS h (fun h=>?_) (fun h=>?_)
    ·conv=>whnf
     exact jeS hk10 h (Weak.refl _)
    conv=>whnf
    refine jeX hk10 h ?_
    conv=>whnf
    refine WkF.step (Weak.keepS _ [0]) ?_
    conv=>whnf
    exact WkF.refl _
   conv=>whnf
   refine fkS h (fun h=>?_) (fun h=>?_)
   ·conv=>whnf
    exact jeS hk9 h (Weak.refl _)
   conv=>whnf
   refine⟨9,?_⟩
   conv=>whnf
   refine drS (by kernel_rfl) ?_
   conv=>whnf
   refine ixS (enc:=(eI .u8)) h rfl (fun _=>rfl) (fun x12 h=>?_)
   conv=>whnf
   exact jeS hk9 h (Weak.refl _)
  conv=>whnf
  refine lpS (fun v13=>⟨[(0,.l (.ptr 12 0)),(1,.l (.mfn 101 12)),(5,.l (.own 1006)),(6,.l (.d (.int .i64 v13.2.2.2)))],26,[⟨[(34,.l (.mfn 101 12)),(33,.l (.ptr 12 0)),(32,.l (.ptr 12 0)),(13,.l (.d (.bool false))),(0,.l (.d (.sl (a0.map (eI .u8))))),(2,.l (.ptr 3 0)),(5,.l (.ptr 12 0)),(12,.l (.d (.int .i64 v1.2.2))),(13,.l (.d (.bool (decide (v1.2.2<(3:Int))))))],74⟩],[(3,[.nil,.nil]),(12,[.d (.sl (a0.map (eI .u8))),.d (.int .i64 v13.1),.d (.int .i64 v13.2.1)])],[(1006,57,3,v13.2.2.1.map Part.enc)]⟩) h (Weak.trans (Weak.nilO _ 5 1006 57 3 rfl) (Weak.refl _)) (fun _ nx13 hn13 v13 h=>?_)
  conv=>whnf
  refine jnS (fun w14=>⟨[(0,.l (.ptr 12 0)),(1,.l (.mfn 101 12)),(5,.l (.own 1006)),(6,.l (.d (.int .i64 v13.2.2.2))),(17,.l (.d (.bool w14)))],26,[⟨[(34,.l (.mfn 101 12)),(33,.l (.ptr 12 0)),(32,.l (.ptr 12 0)),(13,.l (.d (.bool false))),(0,.l (.d (.sl (a0.map (eI .u8))))),(2,.l (.ptr 3 0)),(5,.l (.ptr 12 0)),(12,.l (.d (.int .i64 v1.2.2))),(13,.l (.d (.bool (decide (v1.2.2<(3:Int))))))],74⟩],[(3,[.nil,.nil]),(12,[.d (.sl (a0.map (eI .u8))),.d (.int .i64 v13.1),.d (.int .i64 v13.2.1)])],[(1006,57,3,v13.2.2.1.map Part.enc)]⟩) h (fun k14 hk14 h=>?_) (fun w14 h=>?_)
  ·conv=>whnf
   refine fkS h (fun h=>?_) (fun h=>?_)
   ·conv=>whnf
    exact jeS hk14 h (Weak.refl _)
   conv=>whnf
   exact jeS hk14 h (Weak.refl _)
  conv=>whnf
  refine fkS h (fun h=>?_) (fun h=>?_)
  ·conv=>whnf
   refine inJ (fun w15=>⟨[(22,.agg [.d (.int .i64 w15.2.2.2.1),.d (.int .i64 w15.2.2.2.2),.own 301023]),(21,.l (.mfn 101 12)),(20,.l (.own 1006)),(17,.l (.d (.bool true))),(0,.l (.ptr 12 0)),(1,.l (.mfn 101 12)),(5,.l (.own 1006)),(6,.l (.d (.int .i64 v13.2.2.2)))],26,[⟨[(34,.l (.mfn 101 12)),(33,.l (.ptr 12 0)),(32,.l (.ptr 12 0)),(13,.l (.d (.bool false))),(0,.l (.d (.sl (a0.map (eI .u8))))),(2,.l (.ptr 3 0)),(5,.l (.ptr 12 0)),(12,.l (.d (.int .i64 v1.2.2))),(13,.l (.d (.bool (decide (v1.2.2<(3:Int))))))],74⟩],[(3,[.nil,.nil]),(12,[.d (.sl (a0.map (eI .u8))),.d (.int .i64 w15.1),.d (.int .i64 w15.2.1)])],[(1006,57,3,v13.2.2.1.map Part.enc),(301023,67,4,w15.2.2.1.map Task.enc)]⟩) h (fun k15 hk15 h=>?_) (fun w15 h=>?_)
   ·conv=>whnf
    refine inS (fn:=Tryz.f101) tab ⟨[(0,[0,2]),(1,[0,2,3,4]),(2,[2])],[],[],[]⟩ 17 [.cell 2 57] rfl rfl rfl rfl rfl rfl ?_
    conv=>whnf
    refine inJ (fun w16=>⟨[(6,.l (.d (.int .i64 w16.2.2))),(5,.l (.ptr 12 0)),(0,.l (.ptr 12 0)),(2,.l (.ptr 2003 0))],17,[⟨[(21,.l (.mfn 101 12)),(20,.l (.own 1006)),(17,.l (.d (.bool true))),(0,.l (.ptr 12 0)),(1,.l (.mfn 101 12)),(5,.l (.own 1006)),(6,.l (.d (.int .i64 v13.2.2.2))),(17,.l (.d (.bool w14)))],26⟩,⟨[(34,.l (.mfn 101 12)),(33,.l (.ptr 12 0)),(32,.l (.ptr 12 0)),(13,.l (.d (.bool false))),(0,.l (.d (.sl (a0.map (eI .u8))))),(2,.l (.ptr 3 0)),(5,.l (.ptr 12 0)),(12,.l (.d (.int .i64 v1.2.2))),(13,.l (.d (.bool (decide (v1.2.2<(3:Int))))))],74⟩],[(3,[.nil,.nil]),(12,[.d (.sl (a0.map (eI .u8))),.d (.int .i64 w16.1),.d (.int .i64 w16.2.1)]),(2003,[.d (.int .i64 (0:Int)),.d (.int .i64 (0:Int)),.nil])],[(1006,57,3,v13.2.2.1.map Part.enc)]⟩) h (fun k16 hk16 h=>?_) (fun w16 h=>?_)
    ·conv=>whnf
     refine inS (fn:=Tryz.f99) tab ⟨[(0,[0]),(1,[0,19]),(2,[0]),(3,[0,27]),(4,[2]),(5,[0]),(6,[2])],[],[100019,3],[]⟩ 47 [.tmp 2] rfl rfl rfl rfl rfl rfl ?_
     conv=>whnf
     refine jnS (fun w17=>⟨[(0,.l (.ptr 12 0))],47,[⟨[(5,.l (.ptr 12 0)),(0,.l (.ptr 12 0)),(2,.l (.ptr 2003 0))],17⟩,⟨[(21,.l (.mfn 101 12)),(20,.l (.own 1006)),(17,.l (.d (.bool true))),(0,.l (.ptr 12 0)),(1,.l (.mfn 101 12)),(5,.l (.own 1006)),(6,.l (.d (.int .i64 v13.2.2.2))),(17,.l (.d (.bool w14)))],26⟩,⟨[(34,.l (.mfn 101 12)),(33,.l (.ptr 12 0)),(32,.l (.ptr 12 0)),(13,.l (.d (.bool false))),(0,.l (.d (.sl (a0.map (eI .u8))))),(2,.l (.ptr 3 0)),(5,.l (.ptr 12 0)),(12,.l (.d (.int .i64 v1.2.2))),(13,.l (.d (.bool (decide (v1.2.2<(3:Int))))))],74⟩],[(3,[.nil,.nil]),(12,[.d (.sl (a0.map (eI .u8))),.d (.int .i64 v13.1),.d (.int .i64 w17)]),(2003,[.d (.int .i64 (0:Int)),.d (.int .i64 (0:Int)),.nil])],[(1006,57,3,v13.2.2.1.map Part.enc)]⟩) h (fun k17 hk17 h=>?_) (fun w17 h=>?_)
     ·conv=>whnf
      refine jnS (fun w18=>⟨[(0,.l (.ptr 12 0)),(19,.l (.d (.bool w18)))],47,[⟨[(5,.l (.ptr 12 0)),(0,.l (.ptr 12 0)),(2,.l (.ptr 2003 0))],17⟩,⟨[(21,.l (.mfn 101 12)),(20,.l (.own 1006)),(17,.l (.d (.bool true))),(0,.l (.ptr 12 0)),(1,.l (.mfn 101 12)),(5,.l (.own 1006)),(6,.l (.d (.int .i64 v13.2.2.2))),(17,.l (.d (.bool w14)))],26⟩,⟨[(34,.l (.mfn 101 12)),(33,.l (.ptr 12 0)),(32,.l (.ptr 12 0)),(13,.l (.d (.bool false))),(0,.l (.d (.sl (a0.map (eI .u8))))),(2,.l (.ptr 3 0)),(5,.l (.ptr 12 0)),(12,.l (.d (.int .i64 v1.2.2))),(13,.l (.d (.bool (decide (v1.2.2<(3:Int))))))],74⟩],[(3,[.nil,.nil]),(12,[.d (.sl (a0.map (eI .u8))),.d (.int .i64 v13.1),.d (.int .i64 v13.2.1)]),(2003,[.d (.int .i64 (0:Int)),.d (.int .i64 (0:Int)),.nil])],[(1006,57,3,v13.2.2.1.map Part.enc)]⟩) h (fun k18 hk18 h=>?_) (fun w18 h=>?_)
      ·conv=>whnf
       refine⟨17,?_⟩
       conv=>whnf
       refine fkS h (fun h=>?_) (fun h=>?_)
       ·conv=>whnf
        refine lenS a0 (eI .u8) rfl ?_
        conv=>whnf
        refine drS (by kernel_rfl) ?_
        conv=>whnf
        exact jeS hk18 h (Weak.refl _)
       conv=>whnf
       refine drS (by kernel_rfl) ?_
       conv=>whnf
       exact jeS hk18 h (Weak.refl _)
      conv=>whnf
      refine fkS h (fun h=>?_) (fun h=>?_)
      ·conv=>whnf
       exact jeS hk17 h (Weak.refl _)
      conv=>whnf
      refine jeX hk17 h ?_
      conv=>whnf
      refine WkF.step (Weak.keepS _ [0]) ?_
      conv=>whnf
      exact WkF.refl _
     conv=>whnf
     refine fkS h (fun h=>?_) (fun h=>?_)
     ·conv=>whnf
      exact jeS hk16 h (Weak.refl _)
     conv=>whnf
     refine⟨9,?_⟩
     conv=>whnf
     refine drS (by kernel_rfl) ?_
     conv=>whnf
     refine ixS (enc:=(eI .u8)) h rfl (fun _=>rfl) (fun x19 h=>?_)
     conv=>whnf
     exact jeS hk16 h (Weak.refl _)
    conv=>whnf
    refine inJ (fun w20=>⟨[(8,.l (.d (.int .i64 w20.2.2))),(7,.l (.ptr 12 0)),(6,.l (.d (.int .i64 w16.2.2))),(5,.l (.ptr 12 0)),(0,.l (.ptr 12 0)),(2,.l (.ptr 2003 0))],17,[⟨[(21,.l (.mfn 101 12)),(20,.l (.own 1006)),(17,.l (.d (.bool true))),(0,.l (.ptr 12 0)),(1,.l (.mfn 101 12)),(5,.l (.own 1006)),(6,.l (.d (.int .i64 v13.2.2.2))),(17,.l (.d (.bool w14)))],26⟩,⟨[(34,.l (.mfn 101 12)),(33,.l (.ptr 12 0)),(32,.l (.ptr 12 0)),(13,.l (.d (.bool false))),(0,.l (.d (.sl (a0.map (eI .u8))))),(2,.l (.ptr 3 0)),(5,.l (.ptr 12 0)),(12,.l (.d (.int .i64 v1.2.2))),(13,.l (.d (.bool (decide (v1.2.2<(3:Int))))))],74⟩],[(3,[.nil,.nil]),(12,[.d (.sl (a0.map (eI .u8))),.d (.int .i64 w20.1),.d (.int .i64 w20.2.1)]),(2003,[.d (.int .i64 (0:Int)),.d (.int .i64 (0:Int)),.nil])],[(1006,57,3,v13.2.2.1.map Part.enc)]⟩) h (fun k20 hk20 h=>?_) (fun w20 h=>?_)
    ·conv=>whnf
     refine inS (fn:=Tryz.f99) tab ⟨[(0,[0]),(1,[0,19]),(2,[0]),(3,[0,27]),(4,[2]),(5,[0]),(6,[2])],[],[100019,3],[]⟩ 47 [.tmp 2] rfl rfl rfl rfl rfl rfl ?_
     conv=>whnf
     refine jnS (fun w21=>⟨[(0,.l (.ptr 12 0))],47,[⟨[(7,.l (.ptr 12 0)),(6,.l (.d (.int .i64 w16.2.2))),(5,.l (.ptr 12 0)),(0,.l (.ptr 12 0)),(2,.l (.ptr 2003 0))],17⟩,⟨[(21,.l (.mfn 101 12)),(20,.l (.own 1006)),(17,.l (.d (.bool true))),(0,.l (.ptr 12 0)),(1,.l (.mfn 101 12)),(5,.l (.own 1006)),(6,.l (.d (.int .i64 v13.2.2.2))),(17,.l (.d (.bool w14)))],26⟩,⟨[(34,.l (.mfn 101 12)),(33,.l (.ptr 12 0)),(32,.l (.ptr 12 0)),(13,.l (.d (.bool false))),(0,.l (.d (.sl (a0.map (eI .u8))))),(2,.l (.ptr 3 0)),(5,.l (.ptr 12 0)),(12,.l (.d (.int .i64 v1.2.2))),(13,.l (.d (.bool (decide (v1.2.2<(3:Int))))))],74⟩],[(3,[.nil,.nil]),(12,[.d (.sl (a0.map (eI .u8))),.d (.int .i64 w16.1),.d (.int .i64 w21)]),(2003,[.d (.int .i64 (0:Int)),.d (.int .i64 (0:Int)),.nil])],[(1006,57,3,v13.2.2.1.map Part.enc)]⟩) h (fun k21 hk21 h=>?_) (fun w21 h=>?_)
     ·conv=>whnf
      refine jnS (fun w22=>⟨[(0,.l (.ptr 12 0)),(19,.l (.d (.bool w22)))],47,[⟨[(7,.l (.ptr 12 0)),(6,.l (.d (.int .i64 w16.2.2))),(5,.l (.ptr 12 0)),(0,.l (.ptr 12 0)),(2,.l (.ptr 2003 0))],17⟩,⟨[(21,.l (.mfn 101 12)),(20,.l (.own 1006)),(17,.l (.d (.bool true))),(0,.l (.ptr 12 0)),(1,.l (.mfn 101 12)),(5,.l (.own 1006)),(6,.l (.d (.int .i64 v13.2.2.2))),(17,.l (.d (.bool w14)))],26⟩,⟨[(34,.l (.mfn 101 12)),(33,.l (.ptr 12 0)),(32,.l (.ptr 12 0)),(13,.l (.d (.bool false))),(0,.l (.d (.sl (a0.map (eI .u8))))),(2,.l (.ptr 3 0)),(5,.l (.ptr 12 0)),(12,.l (.d (.int .i64 v1.2.2))),(13,.l (.d (.bool (decide (v1.2.2<(3:Int))))))],74⟩],[(3,[.nil,.nil]),(12,[.d (.sl (a0.map (eI .u8))),.d (.int .i64 w16.1),.d (.int .i64 w16.2.1)]),(2003,[.d (.int .i64 (0:Int)),.d (.int .i64 (0:Int)),.nil])],[(1006,57,3,v13.2.2.1.map Part.enc)]⟩) h (fun k22 hk22 h=>?_) (fun w22 h=>?_)
      ·conv=>whnf
       refine⟨17,?_⟩
       conv=>whnf
       refine fkS h (fun h=>?_) (fun h=>?_)
       ·conv=>whnf
        refine lenS a0 (eI .u8) rfl ?_
        conv=>whnf
        refine drS (by kernel_rfl) ?_
        conv=>whnf
        exact jeS hk22 h (Weak.refl _)
       conv=>whnf
       refine drS (by kernel_rfl) ?_
       conv=>whnf
       exact jeS hk22 h (Weak.refl _)
      conv=>whnf
      refine fkS h (fun h=>?_) (fun h=>?_)
      ·conv=>whnf
       exact jeS hk21 h (Weak.refl _)
      conv=>whnf
      refine jeX hk21 h ?_
      conv=>whnf
      refine WkF.step (Weak.keepS _ [0]) ?_
      conv=>whnf
      exact WkF.refl _
     conv=>whnf
     refine fkS h (fun h=>?_) (fun h=>?_)
     ·conv=>whnf
      exact jeS hk20 h (Weak.refl _)
     conv=>whnf
     refine⟨9,?_⟩
     conv=>whnf
     refine drS (by kernel_rfl) ?_
     conv=>whnf
     refine ixS (enc:=(eI .u8)) h rfl (fun _=>rfl) (fun x23 h=>?_)
     conv=>whnf
     exact jeS hk20 h (Weak.refl _)
    conv=>whnf
    refine inJ (fun w24=>⟨[(15,.l (.own 2016)),(14,.l (.mfn 149 12)),(13,.l (.ptr 12 0)),(12,.l (.ptr 12 0)),(11,.agg [.d (.int .i64 w16.2.2),.d (.int .i64 w20.2.2)]),(10,.l (.d (.int .i64 w20.2.2))),(9,.l (.d (.int .i64 w16.2.2))),(0,.l (.ptr 12 0)),(2,.l (.ptr 2003 0)),(3,.l (.d (.int .i64 w16.2.2))),(4,.l (.d (.int .i64 w20.2.2)))],17,[⟨[(21,.l (.mfn 101 12)),(20,.l (.own 1006)),(17,.l (.d (.bool true))),(0,.l (.ptr 12 0)),(1,.l (.mfn 101 12)),(5,.l (.own 1006)),(6,.l (.d (.int .i64 v13.2.2.2))),(17,.l (.d (.bool w14)))],26⟩,⟨[(34,.l (.mfn 101 12)),(33,.l (.ptr 12 0)),(32,.l (.ptr 12 0)),(13,.l (.d (.bool false))),(0,.l (.d (.sl (a0.map (eI .u8))))),(2,.l (.ptr 3 0)),(5,.l (.ptr 12 0)),(12,.l (.d (.int .i64 v1.2.2))),(13,.l (.d (.bool (decide (v1.2.2<(3:Int))))))],74⟩],[(3,[.nil,.nil]),(12,[.d (.sl (a0.map (eI .u8))),.d (.int .i64 w24.1),.d (.int .i64 w24.2.1)]),(2003,[.d (.int .i64 (0:Int)),.d (.int .i64 (0:Int)),.nil])],[(1006,57,3,v13.2.2.1.map Part.enc),(2016,67,4,w24.2.2.map Task.enc)]⟩) h (fun k24 hk24 h=>?_) (fun w24 h=>?_)
    ·conv=>whnf
     refine inS (fn:=Tryz.f148) tab ⟨[(0,[0,1]),(1,[0,1,5]),(2,[0,1,5,6]),(3,[0,1,5,6,17]),(4,[0,1,5,6]),(5,[0,1,5,6]),(6,[4])],[],[100017],[(23,[403023])]⟩ 26 [.tmp 4] rfl rfl rfl rfl rfl rfl ?_
     conv=>whnf
     refine inJ (fun w25=>⟨[(8,.l (.d (.int .i64 w25.2.2))),(7,.l (.ptr 12 0)),(0,.l (.ptr 12 0)),(1,.l (.mfn 149 12)),(5,.l .nil)],26,[⟨[(14,.l (.mfn 149 12)),(13,.l (.ptr 12 0)),(12,.l (.ptr 12 0)),(11,.agg [.d (.int .i64 w16.2.2),.d (.int .i64 w20.2.2)]),(10,.l (.d (.int .i64 w20.2.2))),(9,.l (.d (.int .i64 w16.2.2))),(0,.l (.ptr 12 0)),(2,.l (.ptr 2003 0)),(3,.l (.d (.int .i64 w16.2.2))),(4,.l (.d (.int .i64 w20.2.2)))],17⟩,⟨[(21,.l (.mfn 101 12)),(20,.l (.own 1006)),(17,.l (.d (.bool true))),(0,.l (.ptr 12 0)),(1,.l (.mfn 101 12)),(5,.l (.own 1006)),(6,.l (.d (.int .i64 v13.2.2.2))),(17,.l (.d (.bool w14)))],26⟩,⟨[(34,.l (.mfn 101 12)),(33,.l (.ptr 12 0)),(32,.l (.ptr 12 0)),(13,.l (.d (.bool false))),(0,.l (.d (.sl (a0.map (eI .u8))))),(2,.l (.ptr 3 0)),(5,.l (.ptr 12 0)),(12,.l (.d (.int .i64 v1.2.2))),(13,.l (.d (.bool (decide (v1.2.2<(3:Int))))))],74⟩],[(3,[.nil,.nil]),(12,[.d (.sl (a0.map (eI .u8))),.d (.int .i64 w25.1),.d (.int .i64 w25.2.1)]),(2003,[.d (.int .i64 (0:Int)),.d (.int .i64 (0:Int)),.nil])],[(1006,57,3,v13.2.2.1.map Part.enc)]⟩) h (fun k25 hk25 h=>?_) (fun w25 h=>?_)
     ·conv=>whnf
      refine inS (fn:=Tryz.f99) tab ⟨[(0,[0]),(1,[0,19]),(2,[0]),(3,[0,27]),(4,[2]),(5,[0]),(6,[2])],[],[100019,3],[]⟩ 47 [.tmp 2] rfl rfl rfl rfl rfl rfl ?_
      conv=>whnf
      refine jnS (fun w26=>⟨[(0,.l (.ptr 12 0))],47,[⟨[(7,.l (.ptr 12 0)),(0,.l (.ptr 12 0)),(1,.l (.mfn 149 12)),(5,.l .nil)],26⟩,⟨[(14,.l (.mfn 149 12)),(13,.l (.ptr 12 0)),(12,.l (.ptr 12 0)),(11,.agg [.d (.int .i64 w16.2.2),.d (.int .i64 w20.2.2)]),(10,.l (.d (.int .i64 w20.2.2))),(9,.l (.d (.int .i64 w16.2.2))),(0,.l (.ptr 12 0)),(2,.l (.ptr 2003 0)),(3,.l (.d (.int .i64 w16.2.2))),(4,.l (.d (.int .i64 w20.2.2)))],17⟩,⟨[(21,.l (.mfn 101 12)),(20,.l (.own 1006)),(17,.l (.d (.bool true))),(0,.l (.ptr 12 0)),(1,.l (.mfn 101 12)),(5,.l (.own 1006)),(6,.l (.d (.int .i64 v13.2.2.2))),(17,.l (.d (.bool w14)))],26⟩,⟨[(34,.l (.mfn 101 12)),(33,.l (.ptr 12 0)),(32,.l (.ptr 12 0)),(13,.l (.d (.bool false))),(0,.l (.d (.sl (a0.map (eI .u8))))),(2,.l (.ptr 3 0)),(5,.l (.ptr 12 0)),(12,.l (.d (.int .i64 v1.2.2))),(13,.l (.d (.bool (decide (v1.2.2<(3:Int))))))],74⟩],[(3,[.nil,.nil]),(12,[.d (.sl (a0.map (eI .u8))),.d (.int .i64 w20.1),.d (.int .i64 w26)]),(2003,[.d (.int .i64 (0:Int)),.d (.int .i64 (0:Int)),.nil])],[(1006,57,3,v13.2.2.1.map Part.enc)]⟩) h (fun k26 hk26 h=>?_) (fun w26 h=>?_)
      ·conv=>whnf
       refine jnS (fun w27=>⟨[(0,.l (.ptr 12 0)),(19,.l (.d (.bool w27)))],47,[⟨[(7,.l (.ptr 12 0)),(0,.l (.ptr 12 0)),(1,.l (.mfn 149 12)),(5,.l .nil)],26⟩,⟨[(14,.l (.mfn 149 12)),(13,.l (.ptr 12 0)),(12,.l (.ptr 12 0)),(11,.agg [.d (.int .i64 w16.2.2),.d (.int .i64 w20.2.2)]),(10,.l (.d (.int .i64 w20.2.2))),(9,.l (.d (.int .i64 w16.2.2))),(0,.l (.ptr 12 0)),(2,.l (.ptr 2003 0)),(3,.l (.d (.int .i64 w16.2.2))),(4,.l (.d (.int .i64 w20.2.2)))],17⟩,⟨[(21,.l (.mfn 101 12)),(20,.l (.own 1006)),(17,.l (.d (.bool true))),(0,.l (.ptr 12 0)),(1,.l (.mfn 101 12)),(5,.l (.own 1006)),(6,.l (.d (.int .i64 v13.2.2.2))),(17,.l (.d (.bool w14)))],26⟩,⟨[(34,.l (.mfn 101 12)),(33,.l (.ptr 12 0)),(32,.l (.ptr 12 0)),(13,.l (.d (.bool false))),(0,.l (.d (.sl (a0.map (eI .u8))))),(2,.l (.ptr 3 0)),(5,.l (.ptr 12 0)),(12,.l (.d (.int .i64 v1.2.2))),(13,.l (.d (.bool (decide (v1.2.2<(3:Int))))))],74⟩],[(3,[.nil,.nil]),(12,[.d (.sl (a0.map (eI .u8))),.d (.int .i64 w20.1),.d (.int .i64 w20.2.1)]),(2003,[.d (.int .i64 (0:Int)),.d (.int .i64 (0:Int)),.nil])],[(1006,57,3,v13.2.2.1.map Part.enc)]⟩) h (fun k27 hk27 h=>?_) (fun w27 h=>?_)
       ·conv=>whnf
        refine⟨17,?_⟩
        conv=>whnf
        refine fkS h (fun h=>?_) (fun h=>?_)
        ·conv=>whnf
         refine lenS a0 (eI .u8) rfl ?_
         conv=>whnf
         refine drS (by kernel_rfl) ?_
         conv=>whnf
         exact jeS hk27 h (Weak.refl _)
        conv=>whnf
        refine drS (by kernel_rfl) ?_
        conv=>whnf
        exact jeS hk27 h (Weak.refl _)
       conv=>whnf
       refine fkS h (fun h=>?_) (fun h=>?_)
       ·conv=>whnf
        exact jeS hk26 h (Weak.refl _)
       conv=>whnf
       refine jeX hk26 h ?_
       conv=>whnf
       refine WkF.step (Weak.keepS _ [0]) ?_
       conv=>whnf
       exact WkF.refl _
      conv=>whnf
      refine fkS h (fun h=>?_) (fun h=>?_)
      ·conv=>whnf
       exact jeS hk25 h (Weak.refl _)
      conv=>whnf
      refine⟨9,?_⟩
      conv=>whnf
      refine drS (by kernel_rfl) ?_
      conv=>whnf
      refine ixS (enc:=(eI .u8)) h rfl (fun _=>rfl) (fun x28 h=>?_)
      conv=>whnf
      exact jeS hk25 h (Weak.refl _)
     conv=>whnf
     refine lpS (fun v29=>⟨[(0,.l (.ptr 12 0)),(1,.l (.mfn 149 12)),(5,.l (.own 3006)),(6,.l (.d (.int .i64 v29.2.2.2)))],26,[⟨[(14,.l (.mfn 149 12)),(13,.l (.ptr 12 0)),(12,.l (.ptr 12 0)),(11,.agg [.d (.int .i64 w16.2.2),.d (.int .i64 w20.2.2)]),(10,.l (.d (.int .i64 w20.2.2))),(9,.l (.d (.int .i64 w16.2.2))),(0,.l (.ptr 12 0)),(2,.l (.ptr 2003 0)),(3,.l (.d (.int .i64 w16.2.2))),(4,.l (.d (.int .i64 w20.2.2)))],17⟩,⟨[(21,.l (.mfn 101 12)),(20,.l (.own 1006)),(17,.l (.d (.bool true))),(0,.l (.ptr 12 0)),(1,.l (.mfn 101 12)),(5,.l (.own 1006)),(6,.l (.d (.int .i64 v13.2.2.2))),(17,.l (.d (.bool w14)))],26⟩,⟨[(34,.l (.mfn 101 12)),(33,.l (.ptr 12 0)),(32,.l (.ptr 12 0)),(13,.l (.d (.bool false))),(0,.l (.d (.sl (a0.map (eI .u8))))),(2,.l (.ptr 3 0)),(5,.l (.ptr 12 0)),(12,.l (.d (.int .i64 v1.2.2))),(13,.l (.d (.bool (decide (v1.2.2<(3:Int))))))],74⟩],[(3,[.nil,.nil]),(12,[.d (.sl (a0.map (eI .u8))),.d (.int .i64 v29.1),.d (.int .i64 v29.2.1)]),(2003,[.d (.int .i64 (0:Int)),.d (.int .i64 (0:Int)),.nil])],[(1006,57,3,v13.2.2.1.map Part.enc),(3006,67,4,v29.2.2.1.map Task.enc)]⟩) h (Weak.trans (Weak.nilO _ 5 3006 67 4 rfl) (Weak.refl _)) (fun _ nx29 hn29 v29 h=>?_)
     conv=>whnf
     refine jnS (fun w30=>⟨[(0,.l (.ptr 12 0)),(1,.l (.mfn 149 12)),(5,.l (.own 3006)),(6,.l (.d (.int .i64 v29.2.2.2))),(17,.l (.d (.bool w30)))],26,[⟨[(14,.l (.mfn 149 12)),(13,.l (.ptr 12 0)),(12,.l (.ptr 12 0)),(11,.agg [.d (.int .i64 w16.2.2),.d (.int .i64 w20.2.2)]),(10,.l (.d (.int .i64 w20.2.2))),(9,.l (.d (.int .i64 w16.2.2))),(0,.l (.ptr 12 0)),(2,.l (.ptr 2003 0)),(3,.l (.d (.int .i64 w16.2.2))),(4,.l (.d (.int .i64 w20.2.2)))],17⟩,⟨[(21,.l (.mfn 101 12)),(20,.l (.own 1006)),(17,.l (.d (.bool true))),(0,.l (.ptr 12 0)),(1,.l (.mfn 101 12)),(5,.l (.own 1006)),(6,.l (.d (.int .i64 v13.2.2.2))),(17,.l (.d (.bool w14)))],26⟩,⟨[(34,.l (.mfn 101 12)),(33,.l (.ptr 12 0)),(32,.l (.ptr 12 0)),(13,.l (.d (.bool false))),(0,.l (.d (.sl (a0.map (eI .u8))))),(2,.l (.ptr 3 0)),(5,.l (.ptr 12 0)),(12,.l (.d (.int .i64 v1.2.2))),(13,.l (.d (.bool (decide (v1.2.2<(3:Int))))))],74⟩],[(3,[.nil,.nil]),(12,[.d (.sl (a0.map (eI .u8))),.d (.int .i64 v29.1),.d (.int .i64 v29.2.1)]),(2003,[.d (.int .i64 (0:Int)),.d (.int .i64 (0:Int)),.nil])],[(1006,57,3,v13.2.2.1.map Part.enc),(3006,67,4,v29.2.2.1.map Task.enc)]⟩) h (fun k30 hk30 h=>?_) (fun w30 h=>?_)
     ·conv=>whnf
      refine fkS h (fun h=>?_) (fun h=>?_)
      ·conv=>whnf
       exact jeS hk30 h (Weak.refl _)
      conv=>whnf
      exact jeS hk30 h (Weak.refl _)
     conv=>whnf
     refine fkS h (fun h=>?_) (fun h=>?_)
     ·conv=>whnf
      refine inJ (fun w31=>⟨[(22,.agg [.d (.int .i64 w31.2.2.2.1),.d (.int .i64 w31.2.2.2.2.1),.d (.int .i64 w31.2.2.2.2.2),.own 403023]),(21,.l (.mfn 149 12)),(20,.l (.own 3006)),(17,.l (.d (.bool true))),(0,.l (.ptr 12 0)),(1,.l (.mfn 149 12)),(5,.l (.own 3006)),(6,.l (.d (.int .i64 v29.2.2.2)))],26,[⟨[(14,.l (.mfn 149 12)),(13,.l (.ptr 12 0)),(12,.l (.ptr 12 0)),(11,.agg [.d (.int .i64 w16.2.2),.d (.int .i64 w20.2.2)]),(10,.l (.d (.int .i64 w20.2.2))),(9,.l (.d (.int .i64 w16.2.2))),(0,.l (.ptr 12 0)),(2,.l (.ptr 2003 0)),(3,.l (.d (.int .i64 w16.2.2))),(4,.l (.d (.int .i64 w20.2.2)))],17⟩,⟨[(21,.l (.mfn 101 12)),(20,.l (.own 1006)),(17,.l (.d (.bool true))),(0,.l (.ptr 12 0)),(1,.l (.mfn 101 12)),(5,.l (.own 1006)),(6,.l (.d (.int .i64 v13.2.2.2))),(17,.l (.d (.bool w14)))],26⟩,⟨[(34,.l (.mfn 101 12)),(33,.l (.ptr 12 0)),(32,.l (.ptr 12 0)),(13,.l (.d (.bool false))),(0,.l (.d (.sl (a0.map (eI .u8))))),(2,.l (.ptr 3 0)),(5,.l (.ptr 12 0)),(12,.l (.d (.int .i64 v1.2.2))),(13,.l (.d (.bool (decide (v1.2.2<(3:Int))))))],74⟩],[(3,[.nil,.nil]),(12,[.d (.sl (a0.map (eI .u8))),.d (.int .i64 w31.1),.d (.int .i64 w31.2.1)]),(2003,[.d (.int .i64 (0:Int)),.d (.int .i64 (0:Int)),.nil])],[(1006,57,3,v13.2.2.1.map Part.enc),(3006,67,4,v29.2.2.1.map Task.enc),(403023,200,3,w31.2.2.1.map Sec.enc)]⟩) h (fun k31 hk31 h=>?_) (fun w31 h=>?_)
      ·conv=>whnf
       refine inS (fn:=Tryz.f149) tab ⟨[(0,[0,2]),(1,[0,2,3,4,5]),(2,[2])],[],[],[]⟩ 20 [.cell 2 67] rfl rfl rfl rfl rfl rfl ?_
       conv=>whnf
       refine inJ (fun w32=>⟨[(7,.l (.d (.int .i64 w32.2.2))),(6,.l (.ptr 12 0)),(0,.l (.ptr 12 0)),(2,.l (.ptr 4003 0))],20,[⟨[(21,.l (.mfn 149 12)),(20,.l (.own 3006)),(17,.l (.d (.bool true))),(0,.l (.ptr 12 0)),(1,.l (.mfn 149 12)),(5,.l (.own 3006)),(6,.l (.d (.int .i64 v29.2.2.2))),(17,.l (.d (.bool w30)))],26⟩,⟨[(14,.l (.mfn 149 12)),(13,.l (.ptr 12 0)),(12,.l (.ptr 12 0)),(11,.agg [.d (.int .i64 w16.2.2),.d (.int .i64 w20.2.2)]),(10,.l (.d (.int .i64 w20.2.2))),(9,.l (.d (.int .i64 w16.2.2))),(0,.l (.ptr 12 0)),(2,.l (.ptr 2003 0)),(3,.l (.d (.int .i64 w16.2.2))),(4,.l (.d (.int .i64 w20.2.2)))],17⟩,⟨[(21,.l (.mfn 101 12)),(20,.l (.own 1006)),(17,.l (.d (.bool true))),(0,.l (.ptr 12 0)),(1,.l (.mfn 101 12)),(5,.l (.own 1006)),(6,.l (.d (.int .i64 v13.2.2.2))),(17,.l (.d (.bool w14)))],26⟩,⟨[(34,.l (.mfn 101 12)),(33,.l (.ptr 12 0)),(32,.l (.ptr 12 0)),(13,.l (.d (.bool false))),(0,.l (.d (.sl (a0.map (eI .u8))))),(2,.l (.ptr 3 0)),(5,.l (.ptr 12 0)),(12,.l (.d (.int .i64 v1.2.2))),(13,.l (.d (.bool (decide (v1.2.2<(3:Int))))))],74⟩],[(3,[.nil,.nil]),(12,[.d (.sl (a0.map (eI .u8))),.d (.int .i64 w32.1),.d (.int .i64 w32.2.1)]),(2003,[.d (.int .i64 (0:Int)),.d (.int .i64 (0:Int)),.nil]),(4003,[.d (.int .i64 (0:Int)),.d (.int .i64 (0:Int)),.d (.int .i64 (0:Int)),.nil])],[(1006,57,3,v13.2.2.1.map Part.enc),(3006,67,4,v29.2.2.1.map Task.enc)]⟩) h (fun k32 hk32 h=>?_) (fun w32 h=>?_)
       ·conv=>whnf
        refine inS (fn:=Tryz.f99) tab ⟨[(0,[0]),(1,[0,19]),(2,[0]),(3,[0,27]),(4,[2]),(5,[0]),(6,[2])],[],[100019,3],[]⟩ 47 [.tmp 2] rfl rfl rfl rfl rfl rfl ?_
        conv=>whnf
        refine jnS (fun w33=>⟨[(0,.l (.ptr 12 0))],47,[⟨[(6,.l (.ptr 12 0)),(0,.l (.ptr 12 0)),(2,.l (.ptr 4003 0))],20⟩,⟨[(21,.l (.mfn 149 12)),(20,.l (.own 3006)),(17,.l (.d (.bool true))),(0,.l (.ptr 12 0)),(1,.l (.mfn 149 12)),(5,.l (.own 3006)),(6,.l (.d (.int .i64 v29.2.2.2))),(17,.l (.d (.bool w30)))],26⟩,⟨[(14,.l (.mfn 149 12)),(13,.l (.ptr 12 0)),(12,.l (.ptr 12 0)),(11,.agg [.d (.int .i64 w16.2.2),.d (.int .i64 w20.2.2)]),(10,.l (.d (.int .i64 w20.2.2))),(9,.l (.d (.int .i64 w16.2.2))),(0,.l (.ptr 12 0)),(2,.l (.ptr 2003 0)),(3,.l (.d (.int .i64 w16.2.2))),(4,.l (.d (.int .i64 w20.2.2)))],17⟩,⟨[(21,.l (.mfn 101 12)),(20,.l (.own 1006)),(17,.l (.d (.bool true))),(0,.l (.ptr 12 0)),(1,.l (.mfn 101 12)),(5,.l (.own 1006)),(6,.l (.d (.int .i64 v13.2.2.2))),(17,.l (.d (.bool w14)))],26⟩,⟨[(34,.l (.mfn 101 12)),(33,.l (.ptr 12 0)),(32,.l (.ptr 12 0)),(13,.l (.d (.bool false))),(0,.l (.d (.sl (a0.map (eI .u8))))),(2,.l (.ptr 3 0)),(5,.l (.ptr 12 0)),(12,.l (.d (.int .i64 v1.2.2))),(13,.l (.d (.bool (decide (v1.2.2<(3:Int))))))],74⟩],[(3,[.nil,.nil]),(12,[.d (.sl (a0.map (eI .u8))),.d (.int .i64 v29.1),.d (.int .i64 w33)]),(2003,[.d (.int .i64 (0:Int)),.d (.int .i64 (0:Int)),.nil]),(4003,[.d (.int .i64 (0:Int)),.d (.int .i64 (0:Int)),.d (.int .i64 (0:Int)),.nil])],[(1006,57,3,v13.2.2.1.map Part.enc),(3006,67,4,v29.2.2.1.map Task.enc)]⟩) h (fun k33 hk33 h=>?_) (fun w33 h=>?_)
        ·conv=>whnf
         refine jnS (fun w34=>⟨[(0,.l (.ptr 12 0)),(19,.l (.d (.bool w34)))],47,[⟨[(6,.l (.ptr 12 0)),(0,.l (.ptr 12 0)),(2,.l (.ptr 4003 0))],20⟩,⟨[(21,.l (.mfn 149 12)),(20,.l (.own 3006)),(17,.l (.d (.bool true))),(0,.l (.ptr 12 0)),(1,.l (.mfn 149 12)),(5,.l (.own 3006)),(6,.l (.d (.int .i64 v29.2.2.2))),(17,.l (.d (.bool w30)))],26⟩,⟨[(14,.l (.mfn 149 12)),(13,.l (.ptr 12 0)),(12,.l (.ptr 12 0)),(11,.agg [.d (.int .i64 w16.2.2),.d (.int .i64 w20.2.2)]),(10,.l (.d (.int .i64 w20.2.2))),(9,.l (.d (.int .i64 w16.2.2))),(0,.l (.ptr 12 0)),(2,.l (.ptr 2003 0)),(3,.l (.d (.int .i64 w16.2.2))),(4,.l (.d (.int .i64 w20.2.2)))],17⟩,⟨[(21,.l (.mfn 101 12)),(20,.l (.own 1006)),(17,.l (.d (.bool true))),(0,.l (.ptr 12 0)),(1,.l (.mfn 101 12)),(5,.l (.own 1006)),(6,.l (.d (.int .i64 v13.2.2.2))),(17,.l (.d (.bool w14)))],26⟩,⟨[(34,.l (.mfn 101 12)),(33,.l (.ptr 12 0)),(32,.l (.ptr 12 0)),(13,.l (.d (.bool false))),(0,.l (.d (.sl (a0.map (eI .u8))))),(2,.l (.ptr 3 0)),(5,.l (.ptr 12 0)),(12,.l (.d (.int .i64 v1.2.2))),(13,.l (.d (.bool (decide (v1.2.2<(3:Int))))))],74⟩],[(3,[.nil,.nil]),(12,[.d (.sl (a0.map (eI .u8))),.d (.int .i64 v29.1),.d (.int .i64 v29.2.1)]),(2003,[.d (.int .i64 (0:Int)),.d (.int .i64 (0:Int)),.nil]),(4003,[.d (.int .i64 (0:Int)),.d (.int .i64 (0:Int)),.d (.int .i64 (0:Int)),.nil])],[(1006,57,3,v13.2.2.1.map Part.enc),(3006,67,4,v29.2.2.1.map Task.enc)]⟩) h (fun k34 hk34 h=>?_) (fun w34 h=>?_)
         ·conv=>whnf
          refine⟨17,?_⟩
          conv=>whnf
          refine fkS h (fun h=>?_) (fun h=>?_)
          ·conv=>whnf
           refine lenS a0 (eI .u8) rfl ?_
           conv=>whnf
           refine drS (by kernel_rfl) ?_
           conv=>whnf
           exact jeS hk34 h (Weak.refl _)
          conv=>whnf
          refine drS (by kernel_rfl) ?_
          conv=>whnf
          exact jeS hk34 h (Weak.refl _)
         conv=>whnf
         refine fkS h (fun h=>?_) (fun h=>?_)
         ·conv=>whnf
          exact jeS hk33 h (Weak.refl _)
         conv=>whnf
         refine jeX hk33 h ?_
         conv=>whnf
         refine WkF.step (Weak.keepS _ [0]) ?_
         conv=>whnf
         exact WkF.refl _
        conv=>whnf
        refine fkS h (fun h=>?_) (fun h=>?_)
        ·conv=>whnf
         exact jeS hk32 h (Weak.refl _)
        conv=>whnf
        refine⟨9,?_⟩
        conv=>whnf
        refine drS (by kernel_rfl) ?_
        conv=>whnf
        refine ixS (enc:=(eI .u8)) h rfl (fun _=>rfl) (fun x35 h=>?_)
        conv=>whnf
        exact jeS hk32 h (Weak.refl _)
       conv=>whnf
       refine inJ (fun w36=>⟨[(9,.l (.d (.int .i64 w36.2.2))),(8,.l (.ptr 12 0)),(7,.l (.d (.int .i64 w32.2.2))),(6,.l (.ptr 12 0)),(0,.l (.ptr 12 0)),(2,.l (.ptr 4003 0))],20,[⟨[(21,.l (.mfn 149 12)),(20,.l (.own 3006)),(17,.l (.d (.bool true))),(0,.l (.ptr 12 0)),(1,.l (.mfn 149 12)),(5,.l (.own 3006)),(6,.l (.d (.int .i64 v29.2.2.2))),(17,.l (.d (.bool w30)))],26⟩,⟨[(14,.l (.mfn 149 12)),(13,.l (.ptr 12 0)),(12,.l (.ptr 12 0)),(11,.agg [.d (.int .i64 w16.2.2),.d (.int .i64 w20.2.2)]),(10,.l (.d (.int .i64 w20.2.2))),(9,.l (.d (.int .i64 w16.2.2))),(0,.l (.ptr 12 0)),(2,.l (.ptr 2003 0)),(3,.l (.d (.int .i64 w16.2.2))),(4,.l (.d (.int .i64 w20.2.2)))],17⟩,⟨[(21,.l (.mfn 101 12)),(20,.l (.own 1006)),(17,.l (.d (.bool true))),(0,.l (.ptr 12 0)),(1,.l (.mfn 101 12)),(5,.l (.own 1006)),(6,.l (.d (.int .i64 v13.2.2.2))),(17,.l (.d (.bool w14)))],26⟩,⟨[(34,.l (.mfn 101 12)),(33,.l (.ptr 12 0)),(32,.l (.ptr 12 0)),(13,.l (.d (.bool false))),(0,.l (.d (.sl (a0.map (eI .u8))))),(2,.l (.ptr 3 0)),(5,.l (.ptr 12 0)),(12,.l (.d (.int .i64 v1.2.2))),(13,.l (.d (.bool (decide (v1.2.2<(3:Int))))))],74⟩],[(3,[.nil,.nil]),(12,[.d (.sl (a0.map (eI .u8))),.d (.int .i64 w36.1),.d (.int .i64 w36.2.1)]),(2003,[.d (.int .i64 (0:Int)),.d (.int .i64 (0:Int)),.nil]),(4003,[.d (.int .i64 (0:Int)),.d (.int .i64 (0:Int)),.d (.int .i64 (0:Int)),.nil])],[(1006,57,3,v13.2.2.1.map Part.enc),(3006,67,4,v29.2.2.1.map Task.enc)]⟩) h (fun k36 hk36 h=>?_) (fun w36 h=>?_)
       ·conv=>whnf
        refine inS (fn:=Tryz.f99) tab ⟨[(0,[0]),(1,[0,19]),(2,[0]),(3,[0,27]),(4,[2]),(5,[0]),(6,[2])],[],[100019,3],[]⟩ 47 [.tmp 2] rfl rfl rfl rfl rfl rfl ?_
        conv=>whnf
        refine jnS (fun w37=>⟨[(0,.l (.ptr 12 0))],47,[⟨[(8,.l (.ptr 12 0)),(7,.l (.d (.int .i64 w32.2.2))),(6,.l (.ptr 12 0)),(0,.l (.ptr 12 0)),(2,.l (.ptr 4003 0))],20⟩,⟨[(21,.l (.mfn 149 12)),(20,.l (.own 3006)),(17,.l (.d (.bool true))),(0,.l (.ptr 12 0)),(1,.l (.mfn 149 12)),(5,.l (.own 3006)),(6,.l (.d (.int .i64 v29.2.2.2))),(17,.l (.d (.bool w30)))],26⟩,⟨[(14,.l (.mfn 149 12)),(13,.l (.ptr 12 0)),(12,.l (.ptr 12 0)),(11,.agg [.d (.int .i64 w16.2.2),.d (.int .i64 w20.2.2)]),(10,.l (.d (.int .i64 w20.2.2))),(9,.l (.d (.int .i64 w16.2.2))),(0,.l (.ptr 12 0)),(2,.l (.ptr 2003 0)),(3,.l (.d (.int .i64 w16.2.2))),(4,.l (.d (.int .i64 w20.2.2)))],17⟩,⟨[(21,.l (.mfn 101 12)),(20,.l (.own 1006)),(17,.l (.d (.bool true))),(0,.l (.ptr 12 0)),(1,.l (.mfn 101 12)),(5,.l (.own 1006)),(6,.l (.d (.int .i64 v13.2.2.2))),(17,.l (.d (.bool w14)))],26⟩,⟨[(34,.l (.mfn 101 12)),(33,.l (.ptr 12 0)),(32,.l (.ptr 12 0)),(13,.l (.d (.bool false))),(0,.l (.d (.sl (a0.map (eI .u8))))),(2,.l (.ptr 3 0)),(5,.l (.ptr 12 0)),(12,.l (.d (.int .i64 v1.2.2))),(13,.l (.d (.bool (decide (v1.2.2<(3:Int))))))],74⟩],[(3,[.nil,.nil]),(12,[.d (.sl (a0.map (eI .u8))),.d (.int .i64 w32.1),.d (.int .i64 w37)]),(2003,[.d (.int .i64 (0:Int)),.d (.int .i64 (0:Int)),.nil]),(4003,[.d (.int .i64 (0:Int)),.d (.int .i64 (0:Int)),.d (.int .i64 (0:Int)),.nil])],[(1006,57,3,v13.2.2.1.map Part.enc),(3006,67,4,v29.2.2.1.map Task.enc)]⟩) h (fun k37 hk37 h=>?_) (fun w37 h=>?_)
        ·conv=>whnf
         refine jnS (fun w38=>⟨[(0,.l (.ptr 12 0)),(19,.l (.d (.bool w38)))],47,[⟨[(8,.l (.ptr 12 0)),(7,.l (.d (.int .i64 w32.2.2))),(6,.l (.ptr 12 0)),(0,.l (.ptr 12 0)),(2,.l (.ptr 4003 0))],20⟩,⟨[(21,.l (.mfn 149 12)),(20,.l (.own 3006)),(17,.l (.d (.bool true))),(0,.l (.ptr 12 0)),(1,.l (.mfn 149 12)),(5,.l (.own 3006)),(6,.l (.d (.int .i64 v29.2.2.2))),(17,.l (.d (.bool w30)))],26⟩,⟨[(14,.l (.mfn 149 12)),(13,.l (.ptr 12 0)),(12,.l (.ptr 12 0)),(11,.agg [.d (.int .i64 w16.2.2),.d (.int .i64 w20.2.2)]),(10,.l (.d (.int .i64 w20.2.2))),(9,.l (.d (.int .i64 w16.2.2))),(0,.l (.ptr 12 0)),(2,.l (.ptr 2003 0)),(3,.l (.d (.int .i64 w16.2.2))),(4,.l (.d (.int .i64 w20.2.2)))],17⟩,⟨[(21,.l (.mfn 101 12)),(20,.l (.own 1006)),(17,.l (.d (.bool true))),(0,.l (.ptr 12 0)),(1,.l (.mfn 101 12)),(5,.l (.own 1006)),(6,.l (.d (.int .i64 v13.2.2.2))),(17,.l (.d (.bool w14)))],26⟩,⟨[(34,.l (.mfn 101 12)),(33,.l (.ptr 12 0)),(32,.l (.ptr 12 0)),(13,.l (.d (.bool false))),(0,.l (.d (.sl (a0.map (eI .u8))))),(2,.l (.ptr 3 0)),(5,.l (.ptr 12 0)),(12,.l (.d (.int .i64 v1.2.2))),(13,.l (.d (.bool (decide (v1.2.2<(3:Int))))))],74⟩],[(3,[.nil,.nil]),(12,[.d (.sl (a0.map (eI .u8))),.d (.int .i64 w32.1),.d (.int .i64 w32.2.1)]),(2003,[.d (.int .i64 (0:Int)),.d (.int .i64 (0:Int)),.nil]),(4003,[.d (.int .i64 (0:Int)),.d (.int .i64 (0:Int)),.d (.int .i64 (0:Int)),.nil])],[(1006,57,3,v13.2.2.1.map Part.enc),(3006,67,4,v29.2.2.1.map Task.enc)]⟩) h (fun k38 hk38 h=>?_) (fun w38 h=>?_)
         ·conv=>whnf
          refine⟨17,?_⟩
          conv=>whnf
          refine fkS h (fun h=>?_) (fun h=>?_)
          ·conv=>whnf
           refine lenS a0 (eI .u8) rfl ?_
           conv=>whnf
           refine drS (by kernel_rfl) ?_
           conv=>whnf
           exact jeS hk38 h (Weak.refl _)
          conv=>whnf
          refine drS (by kernel_rfl) ?_
          conv=>whnf
          exact jeS hk38 h (Weak.refl _)
         conv=>whnf
         refine fkS h (fun h=>?_) (fun h=>?_)
         ·conv=>whnf
          exact jeS hk37 h (Weak.refl _)
         conv=>whnf
         refine jeX hk37 h ?_
         conv=>whnf
         refine WkF.step (Weak.keepS _ [0]) ?_
         conv=>whnf
         exact WkF.refl _
        conv=>whnf
        refine fkS h (fun h=>?_) (fun h=>?_)
        ·conv=>whnf
         exact jeS hk36 h (Weak.refl _)
        conv=>whnf
        refine⟨9,?_⟩
        conv=>whnf
        refine drS (by kernel_rfl) ?_
        conv=>whnf
        refine ixS (enc:=(eI .u8)) h rfl (fun _=>rfl) (fun x39 h=>?_)
        conv=>whnf
        exact jeS hk36 h (Weak.refl _)
       conv=>whnf
       refine inJ (fun w40=>⟨[(11,.l (.d (.int .i64 w40.2.2))),(10,.l (.ptr 12 0)),(9,.l (.d (.int .i64 w36.2.2))),(8,.l (.ptr 12 0)),(7,.l (.d (.int .i64 w32.2.2))),(6,.l (.ptr 12 0)),(0,.l (.ptr 12 0)),(2,.l (.ptr 4003 0))],20,[⟨[(21,.l (.mfn 149 12)),(20,.l (.own 3006)),(17,.l (.d (.bool true))),(0,.l (.ptr 12 0)),(1,.l (.mfn 149 12)),(5,.l (.own 3006)),(6,.l (.d (.int .i64 v29.2.2.2))),(17,.l (.d (.bool w30)))],26⟩,⟨[(14,.l (.mfn 149 12)),(13,.l (.ptr 12 0)),(12,.l (.ptr 12 0)),(11,.agg [.d (.int .i64 w16.2.2),.d (.int .i64 w20.2.2)]),(10,.l (.d (.int .i64 w20.2.2))),(9,.l (.d (.int .i64 w16.2.2))),(0,.l (.ptr 12 0)),(2,.l (.ptr 2003 0)),(3,.l (.d (.int .i64 w16.2.2))),(4,.l (.d (.int .i64 w20.2.2)))],17⟩,⟨[(21,.l (.mfn 101 12)),(20,.l (.own 1006)),(17,.l (.d (.bool true))),(0,.l (.ptr 12 0)),(1,.l (.mfn 101 12)),(5,.l (.own 1006)),(6,.l (.d (.int .i64 v13.2.2.2))),(17,.l (.d (.bool w14)))],26⟩,⟨[(34,.l (.mfn 101 12)),(33,.l (.ptr 12 0)),(32,.l (.ptr 12 0)),(13,.l (.d (.bool false))),(0,.l (.d (.sl (a0.map (eI .u8))))),(2,.l (.ptr 3 0)),(5,.l (.ptr 12 0)),(12,.l (.d (.int .i64 v1.2.2))),(13,.l (.d (.bool (decide (v1.2.2<(3:Int))))))],74⟩],[(3,[.nil,.nil]),(12,[.d (.sl (a0.map (eI .u8))),.d (.int .i64 w40.1),.d (.int .i64 w40.2.1)]),(2003,[.d (.int .i64 (0:Int)),.d (.int .i64 (0:Int)),.nil]),(4003,[.d (.int .i64 (0:Int)),.d (.int .i64 (0:Int)),.d (.int .i64 (0:Int)),.nil])],[(1006,57,3,v13.2.2.1.map Part.enc),(3006,67,4,v29.2.2.1.map Task.enc)]⟩) h (fun k40 hk40 h=>?_) (fun w40 h=>?_)
       ·conv=>whnf
        refine inS (fn:=Tryz.f99) tab ⟨[(0,[0]),(1,[0,19]),(2,[0]),(3,[0,27]),(4,[2]),(5,[0]),(6,[2])],[],[100019,3],[]⟩ 47 [.tmp 2] rfl rfl rfl rfl rfl rfl ?_
        conv=>whnf
        refine jnS (fun w41=>⟨[(0,.l (.ptr 12 0))],47,[⟨[(10,.l (.ptr 12 0)),(9,.l (.d (.int .i64 w36.2.2))),(8,.l (.ptr 12 0)),(7,.l (.d (.int .i64 w32.2.2))),(6,.l (.ptr 12 0)),(0,.l (.ptr 12 0)),(2,.l (.ptr 4003 0))],20⟩,⟨[(21,.l (.mfn 149 12)),(20,.l (.own 3006)),(17,.l (.d (.bool true))),(0,.l (.ptr 12 0)),(1,.l (.mfn 149 12)),(5,.l (.own 3006)),(6,.l (.d (.int .i64 v29.2.2.2))),(17,.l (.d (.bool w30)))],26⟩,⟨[(14,.l (.mfn 149 12)),(13,.l (.ptr 12 0)),(12,.l (.ptr 12 0)),(11,.agg [.d (.int .i64 w16.2.2),.d (.int .i64 w20.2.2)]),(10,.l (.d (.int .i64 w20.2.2))),(9,.l (.d (.int .i64 w16.2.2))),(0,.l (.ptr 12 0)),(2,.l (.ptr 2003 0)),(3,.l (.d (.int .i64 w16.2.2))),(4,.l (.d (.int .i64 w20.2.2)))],17⟩,⟨[(21,.l (.mfn 101 12)),(20,.l (.own 1006)),(17,.l (.d (.bool true))),(0,.l (.ptr 12 0)),(1,.l (.mfn 101 12)),(5,.l (.own 1006)),(6,.l (.d (.int .i64 v13.2.2.2))),(17,.l (.d (.bool w14)))],26⟩,⟨[(34,.l (.mfn 101 12)),(33,.l (.ptr 12 0)),(32,.l (.ptr 12 0)),(13,.l (.d (.bool false))),(0,.l (.d (.sl (a0.map (eI .u8))))),(2,.l (.ptr 3 0)),(5,.l (.ptr 12 0)),(12,.l (.d (.int .i64 v1.2.2))),(13,.l (.d (.bool (decide (v1.2.2<(3:Int))))))],74⟩],[(3,[.nil,.nil]),(12,[.d (.sl (a0.map (eI .u8))),.d (.int .i64 w36.1),.d (.int .i64 w41)]),(2003,[.d (.int .i64 (0:Int)),.d (.int .i64 (0:Int)),.nil]),(4003,[.d (.int .i64 (0:Int)),.d (.int .i64 (0:Int)),.d (.int .i64 (0:Int)),.nil])],[(1006,57,3,v13.2.2.1.map Part.enc),(3006,67,4,v29.2.2.1.map Task.enc)]⟩) h (fun k41 hk41 h=>?_) (fun w41 h=>?_)
        ·conv=>whnf
         refine jnS (fun w42=>⟨[(0,.l (.ptr 12 0)),(19,.l (.d (.bool w42)))],47,[⟨[(10,.l (.ptr 12 0)),(9,.l (.d (.int .i64 w36.2.2))),(8,.l (.ptr 12 0)),(7,.l (.d (.int .i64 w32.2.2))),(6,.l (.ptr 12 0)),(0,.l (.ptr 12 0)),(2,.l (.ptr 4003 0))],20⟩,⟨[(21,.l (.mfn 149 12)),(20,.l (.own 3006)),(17,.l (.d (.bool true))),(0,.l (.ptr 12 0)),(1,.l (.mfn 149 12)),(5,.l (.own 3006)),(6,.l (.d (.int .i64 v29.2.2.2))),(17,.l (.d (.bool w30)))],26⟩,⟨[(14,.l (.mfn 149 12)),(13,.l (.ptr 12 0)),(12,.l (.ptr 12 0)),(11,.agg [.d (.int .i64 w16.2.2),.d (.int .i64 w20.2.2)]),(10,.l (.d (.int .i64 w20.2.2))),(9,.l (.d (.int .i64 w16.2.2))),(0,.l (.ptr 12 0)),(2,.l (.ptr 2003 0)),(3,.l (.d (.int .i64 w16.2.2))),(4,.l (.d (.int .i64 w20.2.2)))],17⟩,⟨[(21,.l (.mfn 101 12)),(20,.l (.own 1006)),(17,.l (.d (.bool true))),(0,.l (.ptr 12 0)),(1,.l (.mfn 101 12)),(5,.l (.own 1006)),(6,.l (.d (.int .i64 v13.2.2.2))),(17,.l (.d (.bool w14)))],26⟩,⟨[(34,.l (.mfn 101 12)),(33,.l (.ptr 12 0)),(32,.l (.ptr 12 0)),(13,.l (.d (.bool false))),(0,.l (.d (.sl (a0.map (eI .u8))))),(2,.l (.ptr 3 0)),(5,.l (.ptr 12 0)),(12,.l (.d (.int .i64 v1.2.2))),(13,.l (.d (.bool (decide (v1.2.2<(3:Int))))))],74⟩],[(3,[.nil,.nil]),(12,[.d (.sl (a0.map (eI .u8))),.d (.int .i64 w36.1),.d (.int .i64 w36.2.1)]),(2003,[.d (.int .i64 (0:Int)),.d (.int .i64 (0:Int)),.nil]),(4003,[.d (.int .i64 (0:Int)),.d (.int .i64 (0:Int)),.d (.int .i64 (0:Int)),.nil])],[(1006,57,3,v13.2.2.1.map Part.enc),(3006,67,4,v29.2.2.1.map Task.enc)]⟩) h (fun k42 hk42 h=>?_) (fun w42 h=>?_)
         ·conv=>whnf
          refine⟨17,?_⟩
          conv=>whnf
          refine fkS h (fun h=>?_) (fun h=>?_)
          ·conv=>whnf
           refine lenS a0 (eI .u8) rfl ?_
           conv=>whnf
           refine drS (by kernel_rfl) ?_
           conv=>whnf
           exact jeS hk42 h (Weak.refl _)
          conv=>whnf
          refine drS (by kernel_rfl) ?_
          conv=>whnf
          exact jeS hk42 h (Weak.refl _)
         conv=>whnf
         refine fkS h (fun h=>?_) (fun h=>?_)
         ·conv=>whnf
          exact jeS hk41 h (Weak.refl _)
         conv=>whnf
         refine jeX hk41 h ?_
         conv=>whnf
         refine WkF.step (Weak.keepS _ [0]) ?_
         conv=>whnf
         exact WkF.refl _
        conv=>whnf
        refine fkS h (fun h=>?_) (fun h=>?_)
        ·conv=>whnf
         exact jeS hk40 h (Weak.refl _)
        conv=>whnf
        refine⟨9,?_⟩
        conv=>whnf
        refine drS (by kernel_rfl) ?_
        conv=>whnf
        refine ixS (enc:=(eI .u8)) h rfl (fun _=>rfl) (fun x43 h=>?_)
        conv=>whnf
        exact jeS hk40 h (Weak.refl _)
       conv=>whnf
       refine inJ (fun w44=>⟨[(18,.l (.own 4019)),(17,.l (.mfn 163 12)),(16,.l (.ptr 12 0)),(15,.l (.ptr 12 0)),(14,.l (.d (.int .i64 w40.2.2))),(13,.l (.d (.int .i64 w36.2.2))),(12,.l (.d (.int .i64 w32.2.2))),(0,.l (.ptr 12 0)),(2,.l (.ptr 4003 0)),(3,.l (.d (.int .i64 w32.2.2))),(4,.l (.d (.int .i64 w36.2.2))),(5,.l (.d (.int .i64 w40.2.2)))],20,[⟨[(21,.l (.mfn 149 12)),(20,.l (.own 3006)),(17,.l (.d (.bool true))),(0,.l (.ptr 12 0)),(1,.l (.mfn 149 12)),(5,.l (.own 3006)),(6,.l (.d (.int .i64 v29.2.2.2))),(17,.l (.d (.bool w30)))],26⟩,⟨[(14,.l (.mfn 149 12)),(13,.l (.ptr 12 0)),(12,.l (.ptr 12 0)),(11,.agg [.d (.int .i64 w16.2.2),.d (.int .i64 w20.2.2)]),(10,.l (.d (.int .i64 w20.2.2))),(9,.l (.d (.int .i64 w16.2.2))),(0,.l (.ptr 12 0)),(2,.l (.ptr 2003 0)),(3,.l (.d (.int .i64 w16.2.2))),(4,.l (.d (.int .i64 w20.2.2)))],17⟩,⟨[(21,.l (.mfn 101 12)),(20,.l (.own 1006)),(17,.l (.d (.bool true))),(0,.l (.ptr 12 0)),(1,.l (.mfn 101 12)),(5,.l (.own 1006)),(6,.l (.d (.int .i64 v13.2.2.2))),(17,.l (.d (.bool w14)))],26⟩,⟨[(34,.l (.mfn 101 12)),(33,.l (.ptr 12 0)),(32,.l (.ptr 12 0)),(13,.l (.d (.bool false))),(0,.l (.d (.sl (a0.map (eI .u8))))),(2,.l (.ptr 3 0)),(5,.l (.ptr 12 0)),(12,.l (.d (.int .i64 v1.2.2))),(13,.l (.d (.bool (decide (v1.2.2<(3:Int))))))],74⟩],[(3,[.nil,.nil]),(12,[.d (.sl (a0.map (eI .u8))),.d (.int .i64 w44.1),.d (.int .i64 w44.2.1)]),(2003,[.d (.int .i64 (0:Int)),.d (.int .i64 (0:Int)),.nil]),(4003,[.d (.int .i64 (0:Int)),.d (.int .i64 (0:Int)),.d (.int .i64 (0:Int)),.nil])],[(1006,57,3,v13.2.2.1.map Part.enc),(3006,67,4,v29.2.2.1.map Task.enc),(4019,200,3,w44.2.2.map Sec.enc)]⟩) h (fun k44 hk44 h=>?_) (fun w44 h=>?_)
       ·conv=>whnf
        refine inS (fn:=Tryz.f162) tab ⟨[(0,[0,1]),(1,[0,1,5]),(2,[0,1,5,6]),(3,[0,1,5,6,17]),(4,[0,1,5,6]),(5,[0,1,5,6]),(6,[4])],[],[100017],[]⟩ 26 [.tmp 4] rfl rfl rfl rfl rfl rfl ?_
        conv=>whnf
        refine inJ (fun w45=>⟨[(8,.l (.d (.int .i64 w45.2.2))),(7,.l (.ptr 12 0)),(0,.l (.ptr 12 0)),(1,.l (.mfn 163 12)),(5,.l .nil)],26,[⟨[(17,.l (.mfn 163 12)),(16,.l (.ptr 12 0)),(15,.l (.ptr 12 0)),(14,.l (.d (.int .i64 w40.2.2))),(13,.l (.d (.int .i64 w36.2.2))),(12,.l (.d (.int .i64 w32.2.2))),(0,.l (.ptr 12 0)),(2,.l (.ptr 4003 0)),(3,.l (.d (.int .i64 w32.2.2))),(4,.l (.d (.int .i64 w36.2.2))),(5,.l (.d (.int .i64 w40.2.2)))],20⟩,⟨[(21,.l (.mfn 149 12)),(20,.l (.own 3006)),(17,.l (.d (.bool true))),(0,.l (.ptr 12 0)),(1,.l (.mfn 149 12)),(5,.l (.own 3006)),(6,.l (.d (.int .i64 v29.2.2.2))),(17,.l (.d (.bool w30)))],26⟩,⟨[(14,.l (.mfn 149 12)),(13,.l (.ptr 12 0)),(12,.l (.ptr 12 0)),(11,.agg [.d (.int .i64 w16.2.2),.d (.int .i64 w20.2.2)]),(10,.l (.d (.int .i64 w20.2.2))),(9,.l (.d (.int .i64 w16.2.2))),(0,.l (.ptr 12 0)),(2,.l (.ptr 2003 0)),(3,.l (.d (.int .i64 w16.2.2))),(4,.l (.d (.int .i64 w20.2.2)))],17⟩,⟨[(21,.l (.mfn 101 12)),(20,.l (.own 1006)),(17,.l (.d (.bool true))),(0,.l (.ptr 12 0)),(1,.l (.mfn 101 12)),(5,.l (.own 1006)),(6,.l (.d (.int .i64 v13.2.2.2))),(17,.l (.d (.bool w14)))],26⟩,⟨[(34,.l (.mfn 101 12)),(33,.l (.ptr 12 0)),(32,.l (.ptr 12 0)),(13,.l (.d (.bool false))),(0,.l (.d (.sl (a0.map (eI .u8))))),(2,.l (.ptr 3 0)),(5,.l (.ptr 12 0)),(12,.l (.d (.int .i64 v1.2.2))),(13,.l (.d (.bool (decide (v1.2.2<(3:Int))))))],74⟩],[(3,[.nil,.nil]),(12,[.d (.sl (a0.map (eI .u8))),.d (.int .i64 w45.1),.d (.int .i64 w45.2.1)]),(2003,[.d (.int .i64 (0:Int)),.d (.int .i64 (0:Int)),.nil]),(4003,[.d (.int .i64 (0:Int)),.d (.int .i64 (0:Int)),.d (.int .i64 (0:Int)),.nil])],[(1006,57,3,v13.2.2.1.map Part.enc),(3006,67,4,v29.2.2.1.map Task.enc)]⟩) h (fun k45 hk45 h=>?_) (fun w45 h=>?_)
        ·conv=>whnf
         refine inS (fn:=Tryz.f99) tab ⟨[(0,[0]),(1,[0,19]),(2,[0]),(3,[0,27]),(4,[2]),(5,[0]),(6,[2])],[],[100019,3],[]⟩ 47 [.tmp 2] rfl rfl rfl rfl rfl rfl ?_
         conv=>whnf
         refine jnS (fun w46=>⟨[(0,.l (.ptr 12 0))],47,[⟨[(7,.l (.ptr 12 0)),(0,.l (.ptr 12 0)),(1,.l (.mfn 163 12)),(5,.l .nil)],26⟩,⟨[(17,.l (.mfn 163 12)),(16,.l (.ptr 12 0)),(15,.l (.ptr 12 0)),(14,.l (.d (.int .i64 w40.2.2))),(13,.l (.d (.int .i64 w36.2.2))),(12,.l (.d (.int .i64 w32.2.2))),(0,.l (.ptr 12 0)),(2,.l (.ptr 4003 0)),(3,.l (.d (.int .i64 w32.2.2))),(4,.l (.d (.int .i64 w36.2.2))),(5,.l (.d (.int .i64 w40.2.2)))],20⟩,⟨[(21,.l (.mfn 149 12)),(20,.l (.own 3006)),(17,.l (.d (.bool true))),(0,.l (.ptr 12 0)),(1,.l (.mfn 149 12)),(5,.l (.own 3006)),(6,.l (.d (.int .i64 v29.2.2.2))),(17,.l (.d (.bool w30)))],26⟩,⟨[(14,.l (.mfn 149 12)),(13,.l (.ptr 12 0)),(12,.l (.ptr 12 0)),(11,.agg [.d (.int .i64 w16.2.2),.d (.int .i64 w20.2.2)]),(10,.l (.d (.int .i64 w20.2.2))),(9,.l (.d (.int .i64 w16.2.2))),(0,.l (.ptr 12 0)),(2,.l (.ptr 2003 0)),(3,.l (.d (.int .i64 w16.2.2))),(4,.l (.d (.int .i64 w20.2.2)))],17⟩,⟨[(21,.l (.mfn 101 12)),(20,.l (.own 1006)),(17,.l (.d (.bool true))),(0,.l (.ptr 12 0)),(1,.l (.mfn 101 12)),(5,.l (.own 1006)),(6,.l (.d (.int .i64 v13.2.2.2))),(17,.l (.d (.bool w14)))],26⟩,⟨[(34,.l (.mfn 101 12)),(33,.l (.ptr 12 0)),(32,.l (.ptr 12 0)),(13,.l (.d (.bool false))),(0,.l (.d (.sl (a0.map (eI .u8))))),(2,.l (.ptr 3 0)),(5,.l (.ptr 12 0)),(12,.l (.d (.int .i64 v1.2.2))),(13,.l (.d (.bool (decide (v1.2.2<(3:Int))))))],74⟩],[(3,[.nil,.nil]),(12,[.d (.sl (a0.map (eI .u8))),.d (.int .i64 w40.1),.d (.int .i64 w46)]),(2003,[.d (.int .i64 (0:Int)),.d (.int .i64 (0:Int)),.nil]),(4003,[.d (.int .i64 (0:Int)),.d (.int .i64 (0:Int)),.d (.int .i64 (0:Int)),.nil])],[(1006,57,3,v13.2.2.1.map Part.enc),(3006,67,4,v29.2.2.1.map Task.enc)]⟩) h (fun k46 hk46 h=>?_) (fun w46 h=>?_)
         ·conv=>whnf
          refine jnS (fun w47=>⟨[(0,.l (.ptr 12 0)),(19,.l (.d (.bool w47)))],47,[⟨[(7,.l (.ptr 12 0)),(0,.l (.ptr 12 0)),(1,.l (.mfn 163 12)),(5,.l .nil)],26⟩,⟨[(17,.l (.mfn 163 12)),(16,.l (.ptr 12 0)),(15,.l (.ptr 12 0)),(14,.l (.d (.int .i64 w40.2.2))),(13,.l (.d (.int .i64 w36.2.2))),(12,.l (.d (.int .i64 w32.2.2))),(0,.l (.ptr 12 0)),(2,.l (.ptr 4003 0)),(3,.l (.d (.int .i64 w32.2.2))),(4,.l (.d (.int .i64 w36.2.2))),(5,.l (.d (.int .i64 w40.2.2)))],20⟩,⟨[(21,.l (.mfn 149 12)),(20,.l (.own 3006)),(17,.l (.d (.bool true))),(0,.l (.ptr 12 0)),(1,.l (.mfn 149 12)),(5,.l (.own 3006)),(6,.l (.d (.int .i64 v29.2.2.2))),(17,.l (.d (.bool w30)))],26⟩,⟨[(14,.l (.mfn 149 12)),(13,.l (.ptr 12 0)),(12,.l (.ptr 12 0)),(11,.agg [.d (.int .i64 w16.2.2),.d (.int .i64 w20.2.2)]),(10,.l (.d (.int .i64 w20.2.2))),(9,.l (.d (.int .i64 w16.2.2))),(0,.l (.ptr 12 0)),(2,.l (.ptr 2003 0)),(3,.l (.d (.int .i64 w16.2.2))),(4,.l (.d (.int .i64 w20.2.2)))],17⟩,⟨[(21,.l (.mfn 101 12)),(20,.l (.own 1006)),(17,.l (.d (.bool true))),(0,.l (.ptr 12 0)),(1,.l (.mfn 101 12)),(5,.l (.own 1006)),(6,.l (.d (.int .i64 v13.2.2.2))),(17,.l (.d (.bool w14)))],26⟩,⟨[(34,.l (.mfn 101 12)),(33,.l (.ptr 12 0)),(32,.l (.ptr 12 0)),(13,.l (.d (.bool false))),(0,.l (.d (.sl (a0.map (eI .u8))))),(2,.l (.ptr 3 0)),(5,.l (.ptr 12 0)),(12,.l (.d (.int .i64 v1.2.2))),(13,.l (.d (.bool (decide (v1.2.2<(3:Int))))))],74⟩],[(3,[.nil,.nil]),(12,[.d (.sl (a0.map (eI .u8))),.d (.int .i64 w40.1),.d (.int .i64 w40.2.1)]),(2003,[.d (.int .i64 (0:Int)),.d (.int .i64 (0:Int)),.nil]),(4003,[.d (.int .i64 (0:Int)),.d (.int .i64 (0:Int)),.d (.int .i64 (0:Int)),.nil])],[(1006,57,3,v13.2.2.1.map Part.enc),(3006,67,4,v29.2.2.1.map Task.enc)]⟩) h (fun k47 hk47 h=>?_) (fun w47 h=>?_)
          ·conv=>whnf
           refine⟨17,?_⟩
           conv=>whnf
           refine fkS h (fun h=>?_) (fun h=>?_)
           ·conv=>whnf
            refine lenS a0 (eI .u8) rfl ?_
            conv=>whnf
            refine drS (by kernel_rfl) ?_
            conv=>whnf
            exact jeS hk47 h (Weak.refl _)
           conv=>whnf
           refine drS (by kernel_rfl) ?_
           conv=>whnf
           exact jeS hk47 h (Weak.refl _)
          conv=>whnf
          refine fkS h (fun h=>?_) (fun h=>?_)
          ·conv=>whnf
           exact jeS hk46 h (Weak.refl _)
          conv=>whnf
          refine jeX hk46 h ?_
          conv=>whnf
          refine WkF.step (Weak.keepS _ [0]) ?_
          conv=>whnf
          exact WkF.refl _
         conv=>whnf
         refine fkS h (fun h=>?_) (fun h=>?_)
         ·conv=>whnf
          exact jeS hk45 h (Weak.refl _)
         conv=>whnf
         refine⟨9,?_⟩
         conv=>whnf
         refine drS (by kernel_rfl) ?_
         conv=>whnf
         refine ixS (enc:=(eI .u8)) h rfl (fun _=>rfl) (fun x48 h=>?_)
         conv=>whnf
         exact jeS hk45 h (Weak.refl _)
        conv=>whnf
        refine lpS (fun v49=>⟨[(0,.l (.ptr 12 0)),(1,.l (.mfn 163 12)),(5,.l (.own 5006)),(6,.l (.d (.int .i64 v49.2.2.2)))],26,[⟨[(17,.l (.mfn 163 12)),(16,.l (.ptr 12 0)),(15,.l (.ptr 12 0)),(14,.l (.d (.int .i64 w40.2.2))),(13,.l (.d (.int .i64 w36.2.2))),(12,.l (.d (.int .i64 w32.2.2))),(0,.l (.ptr 12 0)),(2,.l (.ptr 4003 0)),(3,.l (.d (.int .i64 w32.2.2))),(4,.l (.d (.int .i64 w36.2.2))),(5,.l (.d (.int .i64 w40.2.2)))],20⟩,⟨[(21,.l (.mfn 149 12)),(20,.l (.own 3006)),(17,.l (.d (.bool true))),(0,.l (.ptr 12 0)),(1,.l (.mfn 149 12)),(5,.l (.own 3006)),(6,.l (.d (.int .i64 v29.2.2.2))),(17,.l (.d (.bool w30)))],26⟩,⟨[(14,.l (.mfn 149 12)),(13,.l (.ptr 12 0)),(12,.l (.ptr 12 0)),(11,.agg [.d (.int .i64 w16.2.2),.d (.int .i64 w20.2.2)]),(10,.l (.d (.int .i64 w20.2.2))),(9,.l (.d (.int .i64 w16.2.2))),(0,.l (.ptr 12 0)),(2,.l (.ptr 2003 0)),(3,.l (.d (.int .i64 w16.2.2))),(4,.l (.d (.int .i64 w20.2.2)))],17⟩,⟨[(21,.l (.mfn 101 12)),(20,.l (.own 1006)),(17,.l (.d (.bool true))),(0,.l (.ptr 12 0)),(1,.l (.mfn 101 12)),(5,.l (.own 1006)),(6,.l (.d (.int .i64 v13.2.2.2))),(17,.l (.d (.bool w14)))],26⟩,⟨[(34,.l (.mfn 101 12)),(33,.l (.ptr 12 0)),(32,.l (.ptr 12 0)),(13,.l (.d (.bool false))),(0,.l (.d (.sl (a0.map (eI .u8))))),(2,.l (.ptr 3 0)),(5,.l (.ptr 12 0)),(12,.l (.d (.int .i64 v1.2.2))),(13,.l (.d (.bool (decide (v1.2.2<(3:Int))))))],74⟩],[(3,[.nil,.nil]),(12,[.d (.sl (a0.map (eI .u8))),.d (.int .i64 v49.1),.d (.int .i64 v49.2.1)]),(2003,[.d (.int .i64 (0:Int)),.d (.int .i64 (0:Int)),.nil]),(4003,[.d (.int .i64 (0:Int)),.d (.int .i64 (0:Int)),.d (.int .i64 (0:Int)),.nil])],[(1006,57,3,v13.2.2.1.map Part.enc),(3006,67,4,v29.2.2.1.map Task.enc),(5006,200,3,v49.2.2.1.map Sec.enc)]⟩) h (Weak.trans (Weak.nilO _ 5 5006 200 3 rfl) (Weak.refl _)) (fun _ nx49 hn49 v49 h=>?_)
        conv=>whnf
        refine jnS (fun w50=>⟨[(0,.l (.ptr 12 0)),(1,.l (.mfn 163 12)),(5,.l (.own 5006)),(6,.l (.d (.int .i64 v49.2.2.2))),(17,.l (.d (.bool w50)))],26,[⟨[(17,.l (.mfn 163 12)),(16,.l (.ptr 12 0)),(15,.l (.ptr 12 0)),(14,.l (.d (.int .i64 w40.2.2))),(13,.l (.d (.int .i64 w36.2.2))),(12,.l (.d (.int .i64 w32.2.2))),(0,.l (.ptr 12 0)),(2,.l (.ptr 4003 0)),(3,.l (.d (.int .i64 w32.2.2))),(4,.l (.d (.int .i64 w36.2.2))),(5,.l (.d (.int .i64 w40.2.2)))],20⟩,⟨[(21,.l (.mfn 149 12)),(20,.l (.own 3006)),(17,.l (.d (.bool true))),(0,.l (.ptr 12 0)),(1,.l (.mfn 149 12)),(5,.l (.own 3006)),(6,.l (.d (.int .i64 v29.2.2.2))),(17,.l (.d (.bool w30)))],26⟩,⟨[(14,.l (.mfn 149 12)),(13,.l (.ptr 12 0)),(12,.l (.ptr 12 0)),(11,.agg [.d (.int .i64 w16.2.2),.d (.int .i64 w20.2.2)]),(10,.l (.d (.int .i64 w20.2.2))),(9,.l (.d (.int .i64 w16.2.2))),(0,.l (.ptr 12 0)),(2,.l (.ptr 2003 0)),(3,.l (.d (.int .i64 w16.2.2))),(4,.l (.d (.int .i64 w20.2.2)))],17⟩,⟨[(21,.l (.mfn 101 12)),(20,.l (.own 1006)),(17,.l (.d (.bool true))),(0,.l (.ptr 12 0)),(1,.l (.mfn 101 12)),(5,.l (.own 1006)),(6,.l (.d (.int .i64 v13.2.2.2))),(17,.l (.d (.bool w14)))],26⟩,⟨[(34,.l (.mfn 101 12)),(33,.l (.ptr 12 0)),(32,.l (.ptr 12 0)),(13,.l (.d (.bool false))),(0,.l (.d (.sl (a0.map (eI .u8))))),(2,.l (.ptr 3 0)),(5,.l (.ptr 12 0)),(12,.l (.d (.int .i64 v1.2.2))),(13,.l (.d (.bool (decide (v1.2.2<(3:Int))))))],74⟩],[(3,[.nil,.nil]),(12,[.d (.sl (a0.map (eI .u8))),.d (.int .i64 v49.1),.d (.int .i64 v49.2.1)]),(2003,[.d (.int .i64 (0:Int)),.d (.int .i64 (0:Int)),.nil]),(4003,[.d (.int .i64 (0:Int)),.d (.int .i64 (0:Int)),.d (.int .i64 (0:Int)),.nil])],[(1006,57,3,v13.2.2.1.map Part.enc),(3006,67,4,v29.2.2.1.map Task.enc),(5006,200,3,v49.2.2.1.map Sec.enc)]⟩) h (fun k50 hk50 h=>?_) (fun w50 h=>?_)
        ·conv=>whnf
         refine fkS h (fun h=>?_) (fun h=>?_)
         ·conv=>whnf
          exact jeS hk50 h (Weak.refl _)
         conv=>whnf
         exact jeS hk50 h (Weak.refl _)
        conv=>whnf
        refine fkS h (fun h=>?_) (fun h=>?_)
        ·conv=>whnf
         refine inS (fn:=Tryz.f163) tab ⟨[(0,[0,2]),(1,[2,3,4,5]),(2,[2])],[],[],[]⟩ 16 [.cell 2 200] rfl rfl rfl rfl rfl rfl ?_
         conv=>whnf
         refine inJ (fun w51=>⟨[(7,.l (.d (.int .i64 w51.2.2))),(6,.l (.ptr 12 0)),(0,.l (.ptr 12 0)),(2,.l (.ptr 6003 0))],16,[⟨[(21,.l (.mfn 163 12)),(20,.l (.own 5006)),(17,.l (.d (.bool true))),(0,.l (.ptr 12 0)),(1,.l (.mfn 163 12)),(5,.l (.own 5006)),(6,.l (.d (.int .i64 v49.2.2.2))),(17,.l (.d (.bool w50)))],26⟩,⟨[(17,.l (.mfn 163 12)),(16,.l (.ptr 12 0)),(15,.l (.ptr 12 0)),(14,.l (.d (.int .i64 w40.2.2))),(13,.l (.d (.int .i64 w36.2.2))),(12,.l (.d (.int .i64 w32.2.2))),(0,.l (.ptr 12 0)),(2,.l (.ptr 4003 0)),(3,.l (.d (.int .i64 w32.2.2))),(4,.l (.d (.int .i64 w36.2.2))),(5,.l (.d (.int .i64 w40.2.2)))],20⟩,⟨[(21,.l (.mfn 149 12)),(20,.l (.own 3006)),(17,.l (.d (.bool true))),(0,.l (.ptr 12 0)),(1,.l (.mfn 149 12)),(5,.l (.own 3006)),(6,.l (.d (.int .i64 v29.2.2.2))),(17,.l (.d (.bool w30)))],26⟩,⟨[(14,.l (.mfn 149 12)),(13,.l (.ptr 12 0)),(12,.l (.ptr 12 0)),(11,.agg [.d (.int .i64 w16.2.2),.d (.int .i64 w20.2.2)]),(10,.l (.d (.int .i64 w20.2.2))),(9,.l (.d (.int .i64 w16.2.2))),(0,.l (.ptr 12 0)),(2,.l (.ptr 2003 0)),(3,.l (.d (.int .i64 w16.2.2))),(4,.l (.d (.int .i64 w20.2.2)))],17⟩,⟨[(21,.l (.mfn 101 12)),(20,.l (.own 1006)),(17,.l (.d (.bool true))),(0,.l (.ptr 12 0)),(1,.l (.mfn 101 12)),(5,.l (.own 1006)),(6,.l (.d (.int .i64 v13.2.2.2))),(17,.l (.d (.bool w14)))],26⟩,⟨[(34,.l (.mfn 101 12)),(33,.l (.ptr 12 0)),(32,.l (.ptr 12 0)),(13,.l (.d (.bool false))),(0,.l (.d (.sl (a0.map (eI .u8))))),(2,.l (.ptr 3 0)),(5,.l (.ptr 12 0)),(12,.l (.d (.int .i64 v1.2.2))),(13,.l (.d (.bool (decide (v1.2.2<(3:Int))))))],74⟩],[(3,[.nil,.nil]),(12,[.d (.sl (a0.map (eI .u8))),.d (.int .i64 w51.1),.d (.int .i64 w51.2.1)]),(2003,[.d (.int .i64 (0:Int)),.d (.int .i64 (0:Int)),.nil]),(4003,[.d (.int .i64 (0:Int)),.d (.int .i64 (0:Int)),.d (.int .i64 (0:Int)),.nil]),(6003,[.d (.int .i64 (0:Int)),.d (.int .i64 (0:Int)),.d (.int .i64 (0:Int))])],[(1006,57,3,v13.2.2.1.map Part.enc),(3006,67,4,v29.2.2.1.map Task.enc),(5006,200,3,v49.2.2.1.map Sec.enc)]⟩) h (fun k51 hk51 h=>?_) (fun w51 h=>?_)
         ·conv=>whnf
          refine inS (fn:=Tryz.f99) tab ⟨[(0,[0]),(1,[0,19]),(2,[0]),(3,[0,27]),(4,[2]),(5,[0]),(6,[2])],[],[100019,3],[]⟩ 47 [.tmp 2] rfl rfl rfl rfl rfl rfl ?_
          conv=>whnf
          refine jnS (fun w52=>⟨[(0,.l (.ptr 12 0))],47,[⟨[(6,.l (.ptr 12 0)),(0,.l (.ptr 12 0)),(2,.l (.ptr 6003 0))],16⟩,⟨[(21,.l (.mfn 163 12)),(20,.l (.own 5006)),(17,.l (.d (.bool true))),(0,.l (.ptr 12 0)),(1,.l (.mfn 163 12)),(5,.l (.own 5006)),(6,.l (.d (.int .i64 v49.2.2.2))),(17,.l (.d (.bool w50)))],26⟩,⟨[(17,.l (.mfn 163 12)),(16,.l (.ptr 12 0)),(15,.l (.ptr 12 0)),(14,.l (.d (.int .i64 w40.2.2))),(13,.l (.d (.int .i64 w36.2.2))),(12,.l (.d (.int .i64 w32.2.2))),(0,.l (.ptr 12 0)),(2,.l (.ptr 4003 0)),(3,.l (.d (.int .i64 w32.2.2))),(4,.l (.d (.int .i64 w36.2.2))),(5,.l (.d (.int .i64 w40.2.2)))],20⟩,⟨[(21,.l (.mfn 149 12)),(20,.l (.own 3006)),(17,.l (.d (.bool true))),(0,.l (.ptr 12 0)),(1,.l (.mfn 149 12)),(5,.l (.own 3006)),(6,.l (.d (.int .i64 v29.2.2.2))),(17,.l (.d (.bool w30)))],26⟩,⟨[(14,.l (.mfn 149 12)),(13,.l (.ptr 12 0)),(12,.l (.ptr 12 0)),(11,.agg [.d (.int .i64 w16.2.2),.d (.int .i64 w20.2.2)]),(10,.l (.d (.int .i64 w20.2.2))),(9,.l (.d (.int .i64 w16.2.2))),(0,.l (.ptr 12 0)),(2,.l (.ptr 2003 0)),(3,.l (.d (.int .i64 w16.2.2))),(4,.l (.d (.int .i64 w20.2.2)))],17⟩,⟨[(21,.l (.mfn 101 12)),(20,.l (.own 1006)),(17,.l (.d (.bool true))),(0,.l (.ptr 12 0)),(1,.l (.mfn 101 12)),(5,.l (.own 1006)),(6,.l (.d (.int .i64 v13.2.2.2))),(17,.l (.d (.bool w14)))],26⟩,⟨[(34,.l (.mfn 101 12)),(33,.l (.ptr 12 0)),(32,.l (.ptr 12 0)),(13,.l (.d (.bool false))),(0,.l (.d (.sl (a0.map (eI .u8))))),(2,.l (.ptr 3 0)),(5,.l (.ptr 12 0)),(12,.l (.d (.int .i64 v1.2.2))),(13,.l (.d (.bool (decide (v1.2.2<(3:Int))))))],74⟩],[(3,[.nil,.nil]),(12,[.d (.sl (a0.map (eI .u8))),.d (.int .i64 v49.1),.d (.int .i64 w52)]),(2003,[.d (.int .i64 (0:Int)),.d (.int .i64 (0:Int)),.nil]),(4003,[.d (.int .i64 (0:Int)),.d (.int .i64 (0:Int)),.d (.int .i64 (0:Int)),.nil]),(6003,[.d (.int .i64 (0:Int)),.d (.int .i64 (0:Int)),.d (.int .i64 (0:Int))])],[(1006,57,3,v13.2.2.1.map Part.enc),(3006,67,4,v29.2.2.1.map Task.enc),(5006,200,3,v49.2.2.1.map Sec.enc)]⟩) h (fun k52 hk52 h=>?_) (fun w52 h=>?_)
          ·conv=>whnf
           refine jnS (fun w53=>⟨[(0,.l (.ptr 12 0)),(19,.l (.d (.bool w53)))],47,[⟨[(6,.l (.ptr 12 0)),(0,.l (.ptr 12 0)),(2,.l (.ptr 6003 0))],16⟩,⟨[(21,.l (.mfn 163 12)),(20,.l (.own 5006)),(17,.l (.d (.bool true))),(0,.l (.ptr 12 0)),(1,.l (.mfn 163 12)),(5,.l (.own 5006)),(6,.l (.d (.int .i64 v49.2.2.2))),(17,.l (.d (.bool w50)))],26⟩,⟨[(17,.l (.mfn 163 12)),(16,.l (.ptr 12 0)),(15,.l (.ptr 12 0)),(14,.l (.d (.int .i64 w40.2.2))),(13,.l (.d (.int .i64 w36.2.2))),(12,.l (.d (.int .i64 w32.2.2))),(0,.l (.ptr 12 0)),(2,.l (.ptr 4003 0)),(3,.l (.d (.int .i64 w32.2.2))),(4,.l (.d (.int .i64 w36.2.2))),(5,.l (.d (.int .i64 w40.2.2)))],20⟩,⟨[(21,.l (.mfn 149 12)),(20,.l (.own 3006)),(17,.l (.d (.bool true))),(0,.l (.ptr 12 0)),(1,.l (.mfn 149 12)),(5,.l (.own 3006)),(6,.l (.d (.int .i64 v29.2.2.2))),(17,.l (.d (.bool w30)))],26⟩,⟨[(14,.l (.mfn 149 12)),(13,.l (.ptr 12 0)),(12,.l (.ptr 12 0)),(11,.agg [.d (.int .i64 w16.2.2),.d (.int .i64 w20.2.2)]),(10,.l (.d (.int .i64 w20.2.2))),(9,.l (.d (.int .i64 w16.2.2))),(0,.l (.ptr 12 0)),(2,.l (.ptr 2003 0)),(3,.l (.d (.int .i64 w16.2.2))),(4,.l (.d (.int .i64 w20.2.2)))],17⟩,⟨[(21,.l (.mfn 101 12)),(20,.l (.own 1006)),(17,.l (.d (.bool true))),(0,.l (.ptr 12 0)),(1,.l (.mfn 101 12)),(5,.l (.own 1006)),(6,.l (.d (.int .i64 v13.2.2.2))),(17,.l (.d (.bool w14)))],26⟩,⟨[(34,.l (.mfn 101 12)),(33,.l (.ptr 12 0)),(32,.l (.ptr 12 0)),(13,.l (.d (.bool false))),(0,.l (.d (.sl (a0.map (eI .u8))))),(2,.l (.ptr 3 0)),(5,.l (.ptr 12 0)),(12,.l (.d (.int .i64 v1.2.2))),(13,.l (.d (.bool (decide (v1.2.2<(3:Int))))))],74⟩],[(3,[.nil,.nil]),(12,[.d (.sl (a0.map (eI .u8))),.d (.int .i64 v49.1),.d (.int .i64 v49.2.1)]),(2003,[.d (.int .i64 (0:Int)),.d (.int .i64 (0:Int)),.nil]),(4003,[.d (.int .i64 (0:Int)),.d (.int .i64 (0:Int)),.d (.int .i64 (0:Int)),.nil]),(6003,[.d (.int .i64 (0:Int)),.d (.int .i64 (0:Int)),.d (.int .i64 (0:Int))])],[(1006,57,3,v13.2.2.1.map Part.enc),(3006,67,4,v29.2.2.1.map Task.enc),(5006,200,3,v49.2.2.1.map Sec.enc)]⟩) h (fun k53 hk53 h=>?_) (fun w53 h=>?_)
           ·conv=>whnf
            refine⟨17,?_⟩
            conv=>whnf
            refine fkS h (fun h=>?_) (fun h=>?_)
            ·conv=>whnf
             refine lenS a0 (eI .u8) rfl ?_
             conv=>whnf
             refine drS (by kernel_rfl) ?_
             conv=>whnf
             exact jeS hk53 h (Weak.refl _)
            conv=>whnf
            refine drS (by kernel_rfl) ?_
            conv=>whnf
            exact jeS hk53 h (Weak.refl _)
           conv=>whnf
           refine fkS h (fun h=>?_) (fun h=>?_)
           ·conv=>whnf
            exact jeS hk52 h (Weak.refl _)
           conv=>whnf
           refine jeX hk52 h ?_
           conv=>whnf
           refine WkF.step (Weak.keepS _ [0]) ?_
           conv=>whnf
           exact WkF.refl _
          conv=>whnf
          refine fkS h (fun h=>?_) (fun h=>?_)
          ·conv=>whnf
           exact jeS hk51 h (Weak.refl _)
          conv=>whnf
          refine⟨9,?_⟩
          conv=>whnf
          refine drS (by kernel_rfl) ?_
          conv=>whnf
          refine ixS (enc:=(eI .u8)) h rfl (fun _=>rfl) (fun x54 h=>?_)
          conv=>whnf
          exact jeS hk51 h (Weak.refl _)
         conv=>whnf
         refine inJ (fun w55=>⟨[(9,.l (.d (.int .i64 w55.2.2))),(8,.l (.ptr 12 0)),(7,.l (.d (.int .i64 w51.2.2))),(6,.l (.ptr 12 0)),(0,.l (.ptr 12 0)),(2,.l (.ptr 6003 0))],16,[⟨[(21,.l (.mfn 163 12)),(20,.l (.own 5006)),(17,.l (.d (.bool true))),(0,.l (.ptr 12 0)),(1,.l (.mfn 163 12)),(5,.l (.own 5006)),(6,.l (.d (.int .i64 v49.2.2.2))),(17,.l (.d (.bool w50)))],26⟩,⟨[(17,.l (.mfn 163 12)),(16,.l (.ptr 12 0)),(15,.l (.ptr 12 0)),(14,.l (.d (.int .i64 w40.2.2))),(13,.l (.d (.int .i64 w36.2.2))),(12,.l (.d (.int .i64 w32.2.2))),(0,.l (.ptr 12 0)),(2,.l (.ptr 4003 0)),(3,.l (.d (.int .i64 w32.2.2))),(4,.l (.d (.int .i64 w36.2.2))),(5,.l (.d (.int .i64 w40.2.2)))],20⟩,⟨[(21,.l (.mfn 149 12)),(20,.l (.own 3006)),(17,.l (.d (.bool true))),(0,.l (.ptr 12 0)),(1,.l (.mfn 149 12)),(5,.l (.own 3006)),(6,.l (.d (.int .i64 v29.2.2.2))),(17,.l (.d (.bool w30)))],26⟩,⟨[(14,.l (.mfn 149 12)),(13,.l (.ptr 12 0)),(12,.l (.ptr 12 0)),(11,.agg [.d (.int .i64 w16.2.2),.d (.int .i64 w20.2.2)]),(10,.l (.d (.int .i64 w20.2.2))),(9,.l (.d (.int .i64 w16.2.2))),(0,.l (.ptr 12 0)),(2,.l (.ptr 2003 0)),(3,.l (.d (.int .i64 w16.2.2))),(4,.l (.d (.int .i64 w20.2.2)))],17⟩,⟨[(21,.l (.mfn 101 12)),(20,.l (.own 1006)),(17,.l (.d (.bool true))),(0,.l (.ptr 12 0)),(1,.l (.mfn 101 12)),(5,.l (.own 1006)),(6,.l (.d (.int .i64 v13.2.2.2))),(17,.l (.d (.bool w14)))],26⟩,⟨[(34,.l (.mfn 101 12)),(33,.l (.ptr 12 0)),(32,.l (.ptr 12 0)),(13,.l (.d (.bool false))),(0,.l (.d (.sl (a0.map (eI .u8))))),(2,.l (.ptr 3 0)),(5,.l (.ptr 12 0)),(12,.l (.d (.int .i64 v1.2.2))),(13,.l (.d (.bool (decide (v1.2.2<(3:Int))))))],74⟩],[(3,[.nil,.nil]),(12,[.d (.sl (a0.map (eI .u8))),.d (.int .i64 w55.1),.d (.int .i64 w55.2.1)]),(2003,[.d (.int .i64 (0:Int)),.d (.int .i64 (0:Int)),.nil]),(4003,[.d (.int .i64 (0:Int)),.d (.int .i64 (0:Int)),.d (.int .i64 (0:Int)),.nil]),(6003,[.d (.int .i64 (0:Int)),.d (.int .i64 (0:Int)),.d (.int .i64 (0:Int))])],[(1006,57,3,v13.2.2.1.map Part.enc),(3006,67,4,v29.2.2.1.map Task.enc),(5006,200,3,v49.2.2.1.map Sec.enc)]⟩) h (fun k55 hk55 h=>?_) (fun w55 h=>?_)
         ·conv=>whnf
          refine inS (fn:=Tryz.f99) tab ⟨[(0,[0]),(1,[0,19]),(2,[0]),(3,[0,27]),(4,[2]),(5,[0]),(6,[2])],[],[100019,3],[]⟩ 47 [.tmp 2] rfl rfl rfl rfl rfl rfl ?_
          conv=>whnf
          refine jnS (fun w56=>⟨[(0,.l (.ptr 12 0))],47,[⟨[(8,.l (.ptr 12 0)),(7,.l (.d (.int .i64 w51.2.2))),(6,.l (.ptr 12 0)),(0,.l (.ptr 12 0)),(2,.l (.ptr 6003 0))],16⟩,⟨[(21,.l (.mfn 163 12)),(20,.l (.own 5006)),(17,.l (.d (.bool true))),(0,.l (.ptr 12 0)),(1,.l (.mfn 163 12)),(5,.l (.own 5006)),(6,.l (.d (.int .i64 v49.2.2.2))),(17,.l (.d (.bool w50)))],26⟩,⟨[(17,.l (.mfn 163 12)),(16,.l (.ptr 12 0)),(15,.l (.ptr 12 0)),(14,.l (.d (.int .i64 w40.2.2))),(13,.l (.d (.int .i64 w36.2.2))),(12,.l (.d (.int .i64 w32.2.2))),(0,.l (.ptr 12 0)),(2,.l (.ptr 4003 0)),(3,.l (.d (.int .i64 w32.2.2))),(4,.l (.d (.int .i64 w36.2.2))),(5,.l (.d (.int .i64 w40.2.2)))],20⟩,⟨[(21,.l (.mfn 149 12)),(20,.l (.own 3006)),(17,.l (.d (.bool true))),(0,.l (.ptr 12 0)),(1,.l (.mfn 149 12)),(5,.l (.own 3006)),(6,.l (.d (.int .i64 v29.2.2.2))),(17,.l (.d (.bool w30)))],26⟩,⟨[(14,.l (.mfn 149 12)),(13,.l (.ptr 12 0)),(12,.l (.ptr 12 0)),(11,.agg [.d (.int .i64 w16.2.2),.d (.int .i64 w20.2.2)]),(10,.l (.d (.int .i64 w20.2.2))),(9,.l (.d (.int .i64 w16.2.2))),(0,.l (.ptr 12 0)),(2,.l (.ptr 2003 0)),(3,.l (.d (.int .i64 w16.2.2))),(4,.l (.d (.int .i64 w20.2.2)))],17⟩,⟨[(21,.l (.mfn 101 12)),(20,.l (.own 1006)),(17,.l (.d (.bool true))),(0,.l (.ptr 12 0)),(1,.l (.mfn 101 12)),(5,.l (.own 1006)),(6,.l (.d (.int .i64 v13.2.2.2))),(17,.l (.d (.bool w14)))],26⟩,⟨[(34,.l (.mfn 101 12)),(33,.l (.ptr 12 0)),(32,.l (.ptr 12 0)),(13,.l (.d (.bool false))),(0,.l (.d (.sl (a0.map (eI .u8))))),(2,.l (.ptr 3 0)),(5,.l (.ptr 12 0)),(12,.l (.d (.int .i64 v1.2.2))),(13,.l (.d (.bool (decide (v1.2.2<(3:Int))))))],74⟩],[(3,[.nil,.nil]),(12,[.d (.sl (a0.map (eI .u8))),.d (.int .i64 w51.1),.d (.int .i64 w56)]),(2003,[.d (.int .i64 (0:Int)),.d (.int .i64 (0:Int)),.nil]),(4003,[.d (.int .i64 (0:Int)),.d (.int .i64 (0:Int)),.d (.int .i64 (0:Int)),.nil]),(6003,[.d (.int .i64 (0:Int)),.d (.int .i64 (0:Int)),.d (.int .i64 (0:Int))])],[(1006,57,3,v13.2.2.1.map Part.enc),(3006,67,4,v29.2.2.1.map Task.enc),(5006,200,3,v49.2.2.1.map Sec.enc)]⟩) h (fun k56 hk56 h=>?_) (fun w56 h=>?_)
          ·conv=>whnf
           refine jnS (fun w57=>⟨[(0,.l (.ptr 12 0)),(19,.l (.d (.bool w57)))],47,[⟨[(8,.l (.ptr 12 0)),(7,.l (.d (.int .i64 w51.2.2))),(6,.l (.ptr 12 0)),(0,.l (.ptr 12 0)),(2,.l (.ptr 6003 0))],16⟩,⟨[(21,.l (.mfn 163 12)),(20,.l (.own 5006)),(17,.l (.d (.bool true))),(0,.l (.ptr 12 0)),(1,.l (.mfn 163 12)),(5,.l (.own 5006)),(6,.l (.d (.int .i64 v49.2.2.2))),(17,.l (.d (.bool w50)))],26⟩,⟨[(17,.l (.mfn 163 12)),(16,.l (.ptr 12 0)),(15,.l (.ptr 12 0)),(14,.l (.d (.int .i64 w40.2.2))),(13,.l (.d (.int .i64 w36.2.2))),(12,.l (.d (.int .i64 w32.2.2))),(0,.l (.ptr 12 0)),(2,.l (.ptr 4003 0)),(3,.l (.d (.int .i64 w32.2.2))),(4,.l (.d (.int .i64 w36.2.2))),(5,.l (.d (.int .i64 w40.2.2)))],20⟩,⟨[(21,.l (.mfn 149 12)),(20,.l (.own 3006)),(17,.l (.d (.bool true))),(0,.l (.ptr 12 0)),(1,.l (.mfn 149 12)),(5,.l (.own 3006)),(6,.l (.d (.int .i64 v29.2.2.2))),(17,.l (.d (.bool w30)))],26⟩,⟨[(14,.l (.mfn 149 12)),(13,.l (.ptr 12 0)),(12,.l (.ptr 12 0)),(11,.agg [.d (.int .i64 w16.2.2),.d (.int .i64 w20.2.2)]),(10,.l (.d (.int .i64 w20.2.2))),(9,.l (.d (.int .i64 w16.2.2))),(0,.l (.ptr 12 0)),(2,.l (.ptr 2003 0)),(3,.l (.d (.int .i64 w16.2.2))),(4,.l (.d (.int .i64 w20.2.2)))],17⟩,⟨[(21,.l (.mfn 101 12)),(20,.l (.own 1006)),(17,.l (.d (.bool true))),(0,.l (.ptr 12 0)),(1,.l (.mfn 101 12)),(5,.l (.own 1006)),(6,.l (.d (.int .i64 v13.2.2.2))),(17,.l (.d (.bool w14)))],26⟩,⟨[(34,.l (.mfn 101 12)),(33,.l (.ptr 12 0)),(32,.l (.ptr 12 0)),(13,.l (.d (.bool false))),(0,.l (.d (.sl (a0.map (eI .u8))))),(2,.l (.ptr 3 0)),(5,.l (.ptr 12 0)),(12,.l (.d (.int .i64 v1.2.2))),(13,.l (.d (.bool (decide (v1.2.2<(3:Int))))))],74⟩],[(3,[.nil,.nil]),(12,[.d (.sl (a0.map (eI .u8))),.d (.int .i64 w51.1),.d (.int .i64 w51.2.1)]),(2003,[.d (.int .i64 (0:Int)),.d (.int .i64 (0:Int)),.nil]),(4003,[.d (.int .i64 (0:Int)),.d (.int .i64 (0:Int)),.d (.int .i64 (0:Int)),.nil]),(6003,[.d (.int .i64 (0:Int)),.d (.int .i64 (0:Int)),.d (.int .i64 (0:Int))])],[(1006,57,3,v13.2.2.1.map Part.enc),(3006,67,4,v29.2.2.1.map Task.enc),(5006,200,3,v49.2.2.1.map Sec.enc)]⟩) h (fun k57 hk57 h=>?_) (fun w57 h=>?_)
           ·conv=>whnf
            refine⟨17,?_⟩
            conv=>whnf
            refine fkS h (fun h=>?_) (fun h=>?_)
            ·conv=>whnf
             refine lenS a0 (eI .u8) rfl ?_
             conv=>whnf
             refine drS (by kernel_rfl) ?_
             conv=>whnf
             exact jeS hk57 h (Weak.refl _)
            conv=>whnf
            refine drS (by kernel_rfl) ?_
            conv=>whnf
            exact jeS hk57 h (Weak.refl _)
           conv=>whnf
           refine fkS h (fun h=>?_) (fun h=>?_)
           ·conv=>whnf
            exact jeS hk56 h (Weak.refl _)
           conv=>whnf
           refine jeX hk56 h ?_
           conv=>whnf
           refine WkF.step (Weak.keepS _ [0]) ?_
           conv=>whnf
           exact WkF.refl _
          conv=>whnf
          refine fkS h (fun h=>?_) (fun h=>?_)
          ·conv=>whnf
           exact jeS hk55 h (Weak.refl _)
          conv=>whnf
          refine⟨9,?_⟩
          conv=>whnf
          refine drS (by kernel_rfl) ?_
          conv=>whnf
          refine ixS (enc:=(eI .u8)) h rfl (fun _=>rfl) (fun x58 h=>?_)
          conv=>whnf
          exact jeS hk55 h (Weak.refl _)
         conv=>whnf
         refine inJ (fun w59=>⟨[(11,.l (.d (.int .i64 w59.2.2))),(10,.l (.ptr 12 0)),(9,.l (.d (.int .i64 w55.2.2))),(8,.l (.ptr 12 0)),(7,.l (.d (.int .i64 w51.2.2))),(6,.l (.ptr 12 0)),(0,.l (.ptr 12 0)),(2,.l (.ptr 6003 0))],16,[⟨[(21,.l (.mfn 163 12)),(20,.l (.own 5006)),(17,.l (.d (.bool true))),(0,.l (.ptr 12 0)),(1,.l (.mfn 163 12)),(5,.l (.own 5006)),(6,.l (.d (.int .i64 v49.2.2.2))),(17,.l (.d (.bool w50)))],26⟩,⟨[(17,.l (.mfn 163 12)),(16,.l (.ptr 12 0)),(15,.l (.ptr 12 0)),(14,.l (.d (.int .i64 w40.2.2))),(13,.l (.d (.int .i64 w36.2.2))),(12,.l (.d (.int .i64 w32.2.2))),(0,.l (.ptr 12 0)),(2,.l (.ptr 4003 0)),(3,.l (.d (.int .i64 w32.2.2))),(4,.l (.d (.int .i64 w36.2.2))),(5,.l (.d (.int .i64 w40.2.2)))],20⟩,⟨[(21,.l (.mfn 149 12)),(20,.l (.own 3006)),(17,.l (.d (.bool true))),(0,.l (.ptr 12 0)),(1,.l (.mfn 149 12)),(5,.l (.own 3006)),(6,.l (.d (.int .i64 v29.2.2.2))),(17,.l (.d (.bool w30)))],26⟩,⟨[(14,.l (.mfn 149 12)),(13,.l (.ptr 12 0)),(12,.l (.ptr 12 0)),(11,.agg [.d (.int .i64 w16.2.2),.d (.int .i64 w20.2.2)]),(10,.l (.d (.int .i64 w20.2.2))),(9,.l (.d (.int .i64 w16.2.2))),(0,.l (.ptr 12 0)),(2,.l (.ptr 2003 0)),(3,.l (.d (.int .i64 w16.2.2))),(4,.l (.d (.int .i64 w20.2.2)))],17⟩,⟨[(21,.l (.mfn 101 12)),(20,.l (.own 1006)),(17,.l (.d (.bool true))),(0,.l (.ptr 12 0)),(1,.l (.mfn 101 12)),(5,.l (.own 1006)),(6,.l (.d (.int .i64 v13.2.2.2))),(17,.l (.d (.bool w14)))],26⟩,⟨[(34,.l (.mfn 101 12)),(33,.l (.ptr 12 0)),(32,.l (.ptr 12 0)),(13,.l (.d (.bool false))),(0,.l (.d (.sl (a0.map (eI .u8))))),(2,.l (.ptr 3 0)),(5,.l (.ptr 12 0)),(12,.l (.d (.int .i64 v1.2.2))),(13,.l (.d (.bool (decide (v1.2.2<(3:Int))))))],74⟩],[(3,[.nil,.nil]),(12,[.d (.sl (a0.map (eI .u8))),.d (.int .i64 w59.1),.d (.int .i64 w59.2.1)]),(2003,[.d (.int .i64 (0:Int)),.d (.int .i64 (0:Int)),.nil]),(4003,[.d (.int .i64 (0:Int)),.d (.int .i64 (0:Int)),.d (.int .i64 (0:Int)),.nil]),(6003,[.d (.int .i64 (0:Int)),.d (.int .i64 (0:Int)),.d (.int .i64 (0:Int))])],[(1006,57,3,v13.2.2.1.map Part.enc),(3006,67,4,v29.2.2.1.map Task.enc),(5006,200,3,v49.2.2.1.map Sec.enc)]⟩) h (fun k59 hk59 h=>?_) (fun w59 h=>?_)
         ·conv=>whnf
          refine inS (fn:=Tryz.f99) tab ⟨[(0,[0]),(1,[0,19]),(2,[0]),(3,[0,27]),(4,[2]),(5,[0]),(6,[2])],[],[100019,3],[]⟩ 47 [.tmp 2] rfl rfl rfl rfl rfl rfl ?_
          conv=>whnf
          refine jnS (fun w60=>⟨[(0,.l (.ptr 12 0))],47,[⟨[(10,.l (.ptr 12 0)),(9,.l (.d (.int .i64 w55.2.2))),(8,.l (.ptr 12 0)),(7,.l (.d (.int .i64 w51.2.2))),(6,.l (.ptr 12 0)),(0,.l (.ptr 12 0)),(2,.l (.ptr 6003 0))],16⟩,⟨[(21,.l (.mfn 163 12)),(20,.l (.own 5006)),(17,.l (.d (.bool true))),(0,.l (.ptr 12 0)),(1,.l (.mfn 163 12)),(5,.l (.own 5006)),(6,.l (.d (.int .i64 v49.2.2.2))),(17,.l (.d (.bool w50)))],26⟩,⟨[(17,.l (.mfn 163 12)),(16,.l (.ptr 12 0)),(15,.l (.ptr 12 0)),(14,.l (.d (.int .i64 w40.2.2))),(13,.l (.d (.int .i64 w36.2.2))),(12,.l (.d (.int .i64 w32.2.2))),(0,.l (.ptr 12 0)),(2,.l (.ptr 4003 0)),(3,.l (.d (.int .i64 w32.2.2))),(4,.l (.d (.int .i64 w36.2.2))),(5,.l (.d (.int .i64 w40.2.2)))],20⟩,⟨[(21,.l (.mfn 149 12)),(20,.l (.own 3006)),(17,.l (.d (.bool true))),(0,.l (.ptr 12 0)),(1,.l (.mfn 149 12)),(5,.l (.own 3006)),(6,.l (.d (.int .i64 v29.2.2.2))),(17,.l (.d (.bool w30)))],26⟩,⟨[(14,.l (.mfn 149 12)),(13,.l (.ptr 12 0)),(12,.l (.ptr 12 0)),(11,.agg [.d (.int .i64 w16.2.2),.d (.int .i64 w20.2.2)]),(10,.l (.d (.int .i64 w20.2.2))),(9,.l (.d (.int .i64 w16.2.2))),(0,.l (.ptr 12 0)),(2,.l (.ptr 2003 0)),(3,.l (.d (.int .i64 w16.2.2))),(4,.l (.d (.int .i64 w20.2.2)))],17⟩,⟨[(21,.l (.mfn 101 12)),(20,.l (.own 1006)),(17,.l (.d (.bool true))),(0,.l (.ptr 12 0)),(1,.l (.mfn 101 12)),(5,.l (.own 1006)),(6,.l (.d (.int .i64 v13.2.2.2))),(17,.l (.d (.bool w14)))],26⟩,⟨[(34,.l (.mfn 101 12)),(33,.l (.ptr 12 0)),(32,.l (.ptr 12 0)),(13,.l (.d (.bool false))),(0,.l (.d (.sl (a0.map (eI .u8))))),(2,.l (.ptr 3 0)),(5,.l (.ptr 12 0)),(12,.l (.d (.int .i64 v1.2.2))),(13,.l (.d (.bool (decide (v1.2.2<(3:Int))))))],74⟩],[(3,[.nil,.nil]),(12,[.d (.sl (a0.map (eI .u8))),.d (.int .i64 w55.1),.d (.int .i64 w60)]),(2003,[.d (.int .i64 (0:Int)),.d (.int .i64 (0:Int)),.nil]),(4003,[.d (.int .i64 (0:Int)),.d (.int .i64 (0:Int)),.d (.int .i64 (0:Int)),.nil]),(6003,[.d (.int .i64 (0:Int)),.d (.int .i64 (0:Int)),.d (.int .i64 (0:Int))])],[(1006,57,3,v13.2.2.1.map Part.enc),(3006,67,4,v29.2.2.1.map Task.enc),(5006,200,3,v49.2.2.1.map Sec.enc)]⟩) h (fun k60 hk60 h=>?_) (fun w60 h=>?_)
          ·conv=>whnf
           refine jnS (fun w61=>⟨[(0,.l (.ptr 12 0)),(19,.l (.d (.bool w61)))],47,[⟨[(10,.l (.ptr 12 0)),(9,.l (.d (.int .i64 w55.2.2))),(8,.l (.ptr 12 0)),(7,.l (.d (.int .i64 w51.2.2))),(6,.l (.ptr 12 0)),(0,.l (.ptr 12 0)),(2,.l (.ptr 6003 0))],16⟩,⟨[(21,.l (.mfn 163 12)),(20,.l (.own 5006)),(17,.l (.d (.bool true))),(0,.l (.ptr 12 0)),(1,.l (.mfn 163 12)),(5,.l (.own 5006)),(6,.l (.d (.int .i64 v49.2.2.2))),(17,.l (.d (.bool w50)))],26⟩,⟨[(17,.l (.mfn 163 12)),(16,.l (.ptr 12 0)),(15,.l (.ptr 12 0)),(14,.l (.d (.int .i64 w40.2.2))),(13,.l (.d (.int .i64 w36.2.2))),(12,.l (.d (.int .i64 w32.2.2))),(0,.l (.ptr 12 0)),(2,.l (.ptr 4003 0)),(3,.l (.d (.int .i64 w32.2.2))),(4,.l (.d (.int .i64 w36.2.2))),(5,.l (.d (.int .i64 w40.2.2)))],20⟩,⟨[(21,.l (.mfn 149 12)),(20,.l (.own 3006)),(17,.l (.d (.bool true))),(0,.l (.ptr 12 0)),(1,.l (.mfn 149 12)),(5,.l (.own 3006)),(6,.l (.d (.int .i64 v29.2.2.2))),(17,.l (.d (.bool w30)))],26⟩,⟨[(14,.l (.mfn 149 12)),(13,.l (.ptr 12 0)),(12,.l (.ptr 12 0)),(11,.agg [.d (.int .i64 w16.2.2),.d (.int .i64 w20.2.2)]),(10,.l (.d (.int .i64 w20.2.2))),(9,.l (.d (.int .i64 w16.2.2))),(0,.l (.ptr 12 0)),(2,.l (.ptr 2003 0)),(3,.l (.d (.int .i64 w16.2.2))),(4,.l (.d (.int .i64 w20.2.2)))],17⟩,⟨[(21,.l (.mfn 101 12)),(20,.l (.own 1006)),(17,.l (.d (.bool true))),(0,.l (.ptr 12 0)),(1,.l (.mfn 101 12)),(5,.l (.own 1006)),(6,.l (.d (.int .i64 v13.2.2.2))),(17,.l (.d (.bool w14)))],26⟩,⟨[(34,.l (.mfn 101 12)),(33,.l (.ptr 12 0)),(32,.l (.ptr 12 0)),(13,.l (.d (.bool false))),(0,.l (.d (.sl (a0.map (eI .u8))))),(2,.l (.ptr 3 0)),(5,.l (.ptr 12 0)),(12,.l (.d (.int .i64 v1.2.2))),(13,.l (.d (.bool (decide (v1.2.2<(3:Int))))))],74⟩],[(3,[.nil,.nil]),(12,[.d (.sl (a0.map (eI .u8))),.d (.int .i64 w55.1),.d (.int .i64 w55.2.1)]),(2003,[.d (.int .i64 (0:Int)),.d (.int .i64 (0:Int)),.nil]),(4003,[.d (.int .i64 (0:Int)),.d (.int .i64 (0:Int)),.d (.int .i64 (0:Int)),.nil]),(6003,[.d (.int .i64 (0:Int)),.d (.int .i64 (0:Int)),.d (.int .i64 (0:Int))])],[(1006,57,3,v13.2.2.1.map Part.enc),(3006,67,4,v29.2.2.1.map Task.enc),(5006,200,3,v49.2.2.1.map Sec.enc)]⟩) h (fun k61 hk61 h=>?_) (fun w61 h=>?_)
           ·conv=>whnf
            refine⟨17,?_⟩
            conv=>whnf
            refine fkS h (fun h=>?_) (fun h=>?_)
            ·conv=>whnf
             refine lenS a0 (eI .u8) rfl ?_
             conv=>whnf
             refine drS (by kernel_rfl) ?_
             conv=>whnf
             exact jeS hk61 h (Weak.refl _)
            conv=>whnf
            refine drS (by kernel_rfl) ?_
            conv=>whnf
            exact jeS hk61 h (Weak.refl _)
           conv=>whnf
           refine fkS h (fun h=>?_) (fun h=>?_)
           ·conv=>whnf
            exact jeS hk60 h (Weak.refl _)
           conv=>whnf
           refine jeX hk60 h ?_
           conv=>whnf
           refine WkF.step (Weak.keepS _ [0]) ?_
           conv=>whnf
           exact WkF.refl _
          conv=>whnf
          refine fkS h (fun h=>?_) (fun h=>?_)
          ·conv=>whnf
           exact jeS hk59 h (Weak.refl _)
          conv=>whnf
          refine⟨9,?_⟩
          conv=>whnf
          refine drS (by kernel_rfl) ?_
          conv=>whnf
          refine ixS (enc:=(eI .u8)) h rfl (fun _=>rfl) (fun x62 h=>?_)
          conv=>whnf
          exact jeS hk59 h (Weak.refl _)
         conv=>whnf
         refine liS ([⟨w51.2.2,w55.2.2,w59.2.2⟩]:List Sec) Sec.enc rfl rfl ?_
         conv=>whnf
         refine apS (enc:=Sec.enc) (l1:=v49.2.2.1) (l2:=([⟨w51.2.2,w55.2.2,w59.2.2⟩]:List Sec)) h rfl rfl (fun _=>rfl) (fun h=>?_)
         conv=>whnf
         exact leS hn49 h (Weak.refl _)
        conv=>whnf
        refine jeX hk44 h ?_
        conv=>whnf
        refine WkF.step (Weak.rekey _ 5005 4019 rfl) ?_
        conv=>whnf
        exact WkF.refl _
       conv=>whnf
       refine jeX hk31 h ?_
       conv=>whnf
       refine WkF.step (Weak.keepS _ [22,21,20,17,0,1,5,6]) ?_
       conv=>whnf
       refine WkF.step (Weak.rekey _ 4019 403023 rfl) ?_
       conv=>whnf
       exact WkF.refl _
      conv=>whnf
      refine liS ([⟨w31.2.2.2.1,w31.2.2.2.2.1,w31.2.2.2.2.2,w31.2.2.1⟩]:List Task) Task.enc rfl rfl ?_
      conv=>whnf
      refine apS (enc:=Task.enc) (l1:=v29.2.2.1) (l2:=([⟨w31.2.2.2.1,w31.2.2.2.2.1,w31.2.2.2.2.2,w31.2.2.1⟩]:List Task)) h rfl rfl (fun _=>rfl) (fun h=>?_)
      conv=>whnf
      exact leS hn29 h (Weak.refl _)
     conv=>whnf
     refine jeX hk24 h ?_
     conv=>whnf
     refine WkF.step (Weak.rekey _ 3005 2016 rfl) ?_
     conv=>whnf
     exact WkF.refl _
    conv=>whnf
    refine jeX hk15 h ?_
    conv=>whnf
    refine WkF.step (Weak.keepS _ [22,21,20,17,0,1,5,6]) ?_
    conv=>whnf
    refine WkF.step (Weak.rekey _ 2016 301023 rfl) ?_
    conv=>whnf
    exact WkF.refl _
   conv=>whnf
   refine liS ([⟨⟨w15.2.2.2.1,w15.2.2.2.2⟩,w15.2.2.1⟩]:List Part) Part.enc rfl rfl ?_
   conv=>whnf
   refine apS (enc:=Part.enc) (l1:=v13.2.2.1) (l2:=([⟨⟨w15.2.2.2.1,w15.2.2.2.2⟩,w15.2.2.1⟩]:List Part)) h rfl rfl (fun _=>rfl) (fun h=>?_)
   conv=>whnf
   exact leS hn13 h (Weak.refl _)
  conv=>whnf
  refine jeX hk8 h ?_
  conv=>whnf
  refine WkF.step (Weak.keepS _ [35,34,33,32,13,0,2,5,12]) ?_
  conv=>whnf
  refine WkF.step (Weak.rekey _ 1005 36 rfl) ?_
  conv=>whnf
  exact WkF.refl _
 conv=>whnf
 refine inJ (fun w63=>⟨[(40,.l (.own 41)),(39,.l (.mfn 103 12)),(38,.l (.ptr 12 0)),(37,.l (.ptr 12 0)),(0,.l (.d (.sl (a0.map (eI .u8))))),(2,.l (.ptr 3 0)),(5,.l (.ptr 12 0)),(8,.l (.ptr 9 0))],74,[],[(3,[.nil,.nil]),(9,[.own 36,.nil]),(12,[.d (.sl (a0.map (eI .u8))),.d (.int .i64 w63.1),.d (.int .i64 w63.2.1)])],[(36,57,3,w8.2.2.map Part.enc),(41,90,3,w63.2.2.map Port.enc)]⟩) h (fun k63 hk63 h=>?_) (fun w63 h=>?_)
 ·conv=>whnf
  refine inS (fn:=Tryz.f102) tab ⟨[(0,[0,1]),(1,[0,1,5]),(2,[0,1,5,6]),(3,[0,1,5,6,17]),(4,[0,1,5,6]),(5,[0,1,5,6]),(6,[4])],[],[100017],[]⟩ 26 [.tmp 4] rfl rfl rfl rfl rfl rfl ?_
  conv=>whnf
  refine inJ (fun w64=>⟨[(8,.l (.d (.int .i64 w64.2.2))),(7,.l (.ptr 12 0)),(0,.l (.ptr 12 0)),(1,.l (.mfn 103 12)),(5,.l .nil)],26,[⟨[(39,.l (.mfn 103 12)),(38,.l (.ptr 12 0)),(37,.l (.ptr 12 0)),(0,.l (.d (.sl (a0.map (eI .u8))))),(2,.l (.ptr 3 0)),(5,.l (.ptr 12 0)),(8,.l (.ptr 9 0))],74⟩],[(3,[.nil,.nil]),(9,[.own 36,.nil]),(12,[.d (.sl (a0.map (eI .u8))),.d (.int .i64 w64.1),.d (.int .i64 w64.2.1)])],[(36,57,3,w8.2.2.map Part.enc)]⟩) h (fun k64 hk64 h=>?_) (fun w64 h=>?_)
  ·conv=>whnf
   refine inS (fn:=Tryz.f99) tab ⟨[(0,[0]),(1,[0,19]),(2,[0]),(3,[0,27]),(4,[2]),(5,[0]),(6,[2])],[],[100019,3],[]⟩ 47 [.tmp 2] rfl rfl rfl rfl rfl rfl ?_
   conv=>whnf
   refine jnS (fun w65=>⟨[(0,.l (.ptr 12 0))],47,[⟨[(7,.l (.ptr 12 0)),(0,.l (.ptr 12 0)),(1,.l (.mfn 103 12)),(5,.l .nil)],26⟩,⟨[(39,.l (.mfn 103 12)),(38,.l (.ptr 12 0)),(37,.l (.ptr 12 0)),(0,.l (.d (.sl (a0.map (eI .u8))))),(2,.l (.ptr 3 0)),(5,.l (.ptr 12 0)),(8,.l (.ptr 9 0))],74⟩],[(3,[.nil,.nil]),(9,[.own 36,.nil]),(12,[.d (.sl (a0.map (eI .u8))),.d (.int .i64 w8.1),.d (.int .i64 w65)])],[(36,57,3,w8.2.2.map Part.enc)]⟩) h (fun k65 hk65 h=>?_) (fun w65 h=>?_)
   ·conv=>whnf
    refine jnS (fun w66=>⟨[(0,.l (.ptr 12 0)),(19,.l (.d (.bool w66)))],47,[⟨[(7,.l (.ptr 12 0)),(0,.l (.ptr 12 0)),(1,.l (.mfn 103 12)),(5,.l .nil)],26⟩,⟨[(39,.l (.mfn 103 12)),(38,.l (.ptr 12 0)),(37,.l (.ptr 12 0)),(0,.l (.d (.sl (a0.map (eI .u8))))),(2,.l (.ptr 3 0)),(5,.l (.ptr 12 0)),(8,.l (.ptr 9 0))],74⟩],[(3,[.nil,.nil]),(9,[.own 36,.nil]),(12,[.d (.sl (a0.map (eI .u8))),.d (.int .i64 w8.1),.d (.int .i64 w8.2.1)])],[(36,57,3,w8.2.2.map Part.enc)]⟩) h (fun k66 hk66 h=>?_) (fun w66 h=>?_)
    ·conv=>whnf
     refine⟨17,?_⟩
     conv=>whnf
     refine fkS h (fun h=>?_) (fun h=>?_)
     ·conv=>whnf
      refine lenS a0 (eI .u8) rfl ?_
      conv=>whnf
      refine drS (by kernel_rfl) ?_
      conv=>whnf
      exact jeS hk66 h (Weak.refl _)
     conv=>whnf
     refine drS (by kernel_rfl) ?_
     conv=>whnf
     exact jeS hk66 h (Weak.refl _)
    conv=>whnf
    refine fkS h (fun h=>?_) (fun h=>?_)
    ·conv=>whnf
     exact jeS hk65 h (Weak.refl _)
    conv=>whnf
    refine jeX hk65 h ?_
    conv=>whnf
    refine WkF.step (Weak.keepS _ [0]) ?_
    conv=>whnf
    exact WkF.refl _
   conv=>whnf
   refine fkS h (fun h=>?_) (fun h=>?_)
   ·conv=>whnf
    exact jeS hk64 h (Weak.refl _)
   conv=>whnf
   refine⟨9,?_⟩
   conv=>whnf
   refine drS (by kernel_rfl) ?_
   conv=>whnf
   refine ixS (enc:=(eI .u8)) h rfl (fun _=>rfl) (fun x67 h=>?_)
   conv=>whnf
   exact jeS hk64 h (Weak.refl _)
  conv=>whnf
  refine lpS (fun v68=>⟨[(0,.l (.ptr 12 0)),(1,.l (.mfn 103 12)),(5,.l (.own 1006)),(6,.l (.d (.int .i64 v68.2.2.2)))],26,[⟨[(39,.l (.mfn 103 12)),(38,.l (.ptr 12 0)),(37,.l (.ptr 12 0)),(0,.l (.d (.sl (a0.map (eI .u8))))),(2,.l (.ptr 3 0)),(5,.l (.ptr 12 0)),(8,.l (.ptr 9 0))],74⟩],[(3,[.nil,.nil]),(9,[.own 36,.nil]),(12,[.d (.sl (a0.map (eI .u8))),.d (.int .i64 v68.1),.d (.int .i64 v68.2.1)])],[(36,57,3,w8.2.2.map Part.enc),(1006,90,3,v68.2.2.1.map Port.enc)]⟩) h (Weak.trans (Weak.nilO _ 5 1006 90 3 rfl) (Weak.refl _)) (fun _ nx68 hn68 v68 h=>?_)
  conv=>whnf
  refine jnS (fun w69=>⟨[(0,.l (.ptr 12 0)),(1,.l (.mfn 103 12)),(5,.l (.own 1006)),(6,.l (.d (.int .i64 v68.2.2.2))),(17,.l (.d (.bool w69)))],26,[⟨[(39,.l (.mfn 103 12)),(38,.l (.ptr 12 0)),(37,.l (.ptr 12 0)),(0,.l (.d (.sl (a0.map (eI .u8))))),(2,.l (.ptr 3 0)),(5,.l (.ptr 12 0)),(8,.l (.ptr 9 0))],74⟩],[(3,[.nil,.nil]),(9,[.own 36,.nil]),(12,[.d (.sl (a0.map (eI .u8))),.d (.int .i64 v68.1),.d (.int .i64 v68.2.1)])],[(36,57,3,w8.2.2.map Part.enc),(1006,90,3,v68.2.2.1.map Port.enc)]⟩) h (fun k69 hk69 h=>?_) (fun w69 h=>?_)
  ·conv=>whnf
   refine fkS h (fun h=>?_) (fun h=>?_)
   ·conv=>whnf
    exact jeS hk69 h (Weak.refl _)
   conv=>whnf
   exact jeS hk69 h (Weak.refl _)
  conv=>whnf
  refine fkS h (fun h=>?_) (fun h=>?_)
  ·conv=>whnf
   refine inS (fn:=Tryz.f103) tab ⟨[(0,[0,2]),(1,[2,3,4,5]),(2,[2])],[],[],[]⟩ 16 [.cell 2 90] rfl rfl rfl rfl rfl rfl ?_
   conv=>whnf
   refine inJ (fun w70=>⟨[(7,.l (.d (.int .i64 w70.2.2))),(6,.l (.ptr 12 0)),(0,.l (.ptr 12 0)),(2,.l (.ptr 2003 0))],16,[⟨[(21,.l (.mfn 103 12)),(20,.l (.own 1006)),(17,.l (.d (.bool true))),(0,.l (.ptr 12 0)),(1,.l (.mfn 103 12)),(5,.l (.own 1006)),(6,.l (.d (.int .i64 v68.2.2.2))),(17,.l (.d (.bool w69)))],26⟩,⟨[(39,.l (.mfn 103 12)),(38,.l (.ptr 12 0)),(37,.l (.ptr 12 0)),(0,.l (.d (.sl (a0.map (eI .u8))))),(2,.l (.ptr 3 0)),(5,.l (.ptr 12 0)),(8,.l (.ptr 9 0))],74⟩],[(3,[.nil,.nil]),(9,[.own 36,.nil]),(12,[.d (.sl (a0.map (eI .u8))),.d (.int .i64 w70.1),.d (.int .i64 w70.2.1)]),(2003,[.d (.int .i64 (0:Int)),.d (.int .i64 (0:Int)),.d (.int .i64 (0:Int))])],[(36,57,3,w8.2.2.map Part.enc),(1006,90,3,v68.2.2.1.map Port.enc)]⟩) h (fun k70 hk70 h=>?_) (fun w70 h=>?_)
   ·conv=>whnf
    refine inS (fn:=Tryz.f99) tab ⟨[(0,[0]),(1,[0,19]),(2,[0]),(3,[0,27]),(4,[2]),(5,[0]),(6,[2])],[],[100019,3],[]⟩ 47 [.tmp 2] rfl rfl rfl rfl rfl rfl ?_
    conv=>whnf
    refine jnS (fun w71=>⟨[(0,.l (.ptr 12 0))],47,[⟨[(6,.l (.ptr 12 0)),(0,.l (.ptr 12 0)),(2,.l (.ptr 2003 0))],16⟩,⟨[(21,.l (.mfn 103 12)),(20,.l (.own 1006)),(17,.l (.d (.bool true))),(0,.l (.ptr 12 0)),(1,.l (.mfn 103 12)),(5,.l (.own 1006)),(6,.l (.d (.int .i64 v68.2.2.2))),(17,.l (.d (.bool w69)))],26⟩,⟨[(39,.l (.mfn 103 12)),(38,.l (.ptr 12 0)),(37,.l (.ptr 12 0)),(0,.l (.d (.sl (a0.map (eI .u8))))),(2,.l (.ptr 3 0)),(5,.l (.ptr 12 0)),(8,.l (.ptr 9 0))],74⟩],[(3,[.nil,.nil]),(9,[.own 36,.nil]),(12,[.d (.sl (a0.map (eI .u8))),.d (.int .i64 v68.1),.d (.int .i64 w71)]),(2003,[.d (.int .i64 (0:Int)),.d (.int .i64 (0:Int)),.d (.int .i64 (0:Int))])],[(36,57,3,w8.2.2.map Part.enc),(1006,90,3,v68.2.2.1.map Port.enc)]⟩) h (fun k71 hk71 h=>?_) (fun w71 h=>?_)
    ·conv=>whnf
     refine jnS (fun w72=>⟨[(0,.l (.ptr 12 0)),(19,.l (.d (.bool w72)))],47,[⟨[(6,.l (.ptr 12 0)),(0,.l (.ptr 12 0)),(2,.l (.ptr 2003 0))],16⟩,⟨[(21,.l (.mfn 103 12)),(20,.l (.own 1006)),(17,.l (.d (.bool true))),(0,.l (.ptr 12 0)),(1,.l (.mfn 103 12)),(5,.l (.own 1006)),(6,.l (.d (.int .i64 v68.2.2.2))),(17,.l (.d (.bool w69)))],26⟩,⟨[(39,.l (.mfn 103 12)),(38,.l (.ptr 12 0)),(37,.l (.ptr 12 0)),(0,.l (.d (.sl (a0.map (eI .u8))))),(2,.l (.ptr 3 0)),(5,.l (.ptr 12 0)),(8,.l (.ptr 9 0))],74⟩],[(3,[.nil,.nil]),(9,[.own 36,.nil]),(12,[.d (.sl (a0.map (eI .u8))),.d (.int .i64 v68.1),.d (.int .i64 v68.2.1)]),(2003,[.d (.int .i64 (0:Int)),.d (.int .i64 (0:Int)),.d (.int .i64 (0:Int))])],[(36,57,3,w8.2.2.map Part.enc),(1006,90,3,v68.2.2.1.map Port.enc)]⟩) h (fun k72 hk72 h=>?_) (fun w72 h=>?_)
     ·conv=>whnf
      refine⟨17,?_⟩
      conv=>whnf
      refine fkS h (fun h=>?_) (fun h=>?_)
      ·conv=>whnf
       refine lenS a0 (eI .u8) rfl ?_
       conv=>whnf
       refine drS (by kernel_rfl) ?_
       conv=>whnf
       exact jeS hk72 h (Weak.refl _)
      conv=>whnf
      refine drS (by kernel_rfl) ?_
      conv=>whnf
      exact jeS hk72 h (Weak.refl _)
     conv=>whnf
     refine fkS h (fun h=>?_) (fun h=>?_)
     ·conv=>whnf
      exact jeS hk71 h (Weak.refl _)
     conv=>whnf
     refine jeX hk71 h ?_
     conv=>whnf
     refine WkF.step (Weak.keepS _ [0]) ?_
     conv=>whnf
     exact WkF.refl _
    conv=>whnf
    refine fkS h (fun h=>?_) (fun h=>?_)
    ·conv=>whnf
     exact jeS hk70 h (Weak.refl _)
    conv=>whnf
    refine⟨9,?_⟩
    conv=>whnf
    refine drS (by kernel_rfl) ?_
    conv=>whnf
    refine ixS (enc:=(eI .u8)) h rfl (fun _=>rfl) (fun x73 h=>?_)
    conv=>whnf
    exact jeS hk70 h (Weak.refl _)
   conv=>whnf
   refine inJ (fun w74=>⟨[(9,.l (.d (.int .i64 w74.2.2))),(8,.l (.ptr 12 0)),(7,.l (.d (.int .i64 w70.2.2))),(6,.l (.ptr 12 0)),(0,.l (.ptr 12 0)),(2,.l (.ptr 2003 0))],16,[⟨[(21,.l (.mfn 103 12)),(20,.l (.own 1006)),(17,.l (.d (.bool true))),(0,.l (.ptr 12 0)),(1,.l (.mfn 103 12)),(5,.l (.own 1006)),(6,.l (.d (.int .i64 v68.2.2.2))),(17,.l (.d (.bool w69)))],26⟩,⟨[(39,.l (.mfn 103 12)),(38,.l (.ptr 12 0)),(37,.l (.ptr 12 0)),(0,.l (.d (.sl (a0.map (eI .u8))))),(2,.l (.ptr 3 0)),(5,.l (.ptr 12 0)),(8,.l (.ptr 9 0))],74⟩],[(3,[.nil,.nil]),(9,[.own 36,.nil]),(12,[.d (.sl (a0.map (eI .u8))),.d (.int .i64 w74.1),.d (.int .i64 w74.2.1)]),(2003,[.d (.int .i64 (0:Int)),.d (.int .i64 (0:Int)),.d (.int .i64 (0:Int))])],[(36,57,3,w8.2.2.map Part.enc),(1006,90,3,v68.2.2.1.map Port.enc)]⟩) h (fun k74 hk74 h=>?_) (fun w74 h=>?_)
   ·conv=>whnf
    refine inS (fn:=Tryz.f99) tab ⟨[(0,[0]),(1,[0,19]),(2,[0]),(3,[0,27]),(4,[2]),(5,[0]),(6,[2])],[],[100019,3],[]⟩ 47 [.tmp 2] rfl rfl rfl rfl rfl rfl ?_
    conv=>whnf
    refine jnS (fun w75=>⟨[(0,.l (.ptr 12 0))],47,[⟨[(8,.l (.ptr 12 0)),(7,.l (.d (.int .i64 w70.2.2))),(6,.l (.ptr 12 0)),(0,.l (.ptr 12 0)),(2,.l (.ptr 2003 0))],16⟩,⟨[(21,.l (.mfn 103 12)),(20,.l (.own 1006)),(17,.l (.d (.bool true))),(0,.l (.ptr 12 0)),(1,.l (.mfn 103 12)),(5,.l (.own 1006)),(6,.l (.d (.int .i64 v68.2.2.2))),(17,.l (.d (.bool w69)))],26⟩,⟨[(39,.l (.mfn 103 12)),(38,.l (.ptr 12 0)),(37,.l (.ptr 12 0)),(0,.l (.d (.sl (a0.map (eI .u8))))),(2,.l (.ptr 3 0)),(5,.l (.ptr 12 0)),(8,.l (.ptr 9 0))],74⟩],[(3,[.nil,.nil]),(9,[.own 36,.nil]),(12,[.d (.sl (a0.map (eI .u8))),.d (.int .i64 w70.1),.d (.int .i64 w75)]),(2003,[.d (.int .i64 (0:Int)),.d (.int .i64 (0:Int)),.d (.int .i64 (0:Int))])],[(36,57,3,w8.2.2.map Part.enc),(1006,90,3,v68.2.2.1.map Port.enc)]⟩) h (fun k75 hk75 h=>?_) (fun w75 h=>?_)
    ·conv=>whnf
     refine jnS (fun w76=>⟨[(0,.l (.ptr 12 0)),(19,.l (.d (.bool w76)))],47,[⟨[(8,.l (.ptr 12 0)),(7,.l (.d (.int .i64 w70.2.2))),(6,.l (.ptr 12 0)),(0,.l (.ptr 12 0)),(2,.l (.ptr 2003 0))],16⟩,⟨[(21,.l (.mfn 103 12)),(20,.l (.own 1006)),(17,.l (.d (.bool true))),(0,.l (.ptr 12 0)),(1,.l (.mfn 103 12)),(5,.l (.own 1006)),(6,.l (.d (.int .i64 v68.2.2.2))),(17,.l (.d (.bool w69)))],26⟩,⟨[(39,.l (.mfn 103 12)),(38,.l (.ptr 12 0)),(37,.l (.ptr 12 0)),(0,.l (.d (.sl (a0.map (eI .u8))))),(2,.l (.ptr 3 0)),(5,.l (.ptr 12 0)),(8,.l (.ptr 9 0))],74⟩],[(3,[.nil,.nil]),(9,[.own 36,.nil]),(12,[.d (.sl (a0.map (eI .u8))),.d (.int .i64 w70.1),.d (.int .i64 w70.2.1)]),(2003,[.d (.int .i64 (0:Int)),.d (.int .i64 (0:Int)),.d (.int .i64 (0:Int))])],[(36,57,3,w8.2.2.map Part.enc),(1006,90,3,v68.2.2.1.map Port.enc)]⟩) h (fun k76 hk76 h=>?_) (fun w76 h=>?_)
     ·conv=>whnf
      refine⟨17,?_⟩
      conv=>whnf
      refine fkS h (fun h=>?_) (fun h=>?_)
      ·conv=>whnf
       refine lenS a0 (eI .u8) rfl ?_
       conv=>whnf
       refine drS (by kernel_rfl) ?_
       conv=>whnf
       exact jeS hk76 h (Weak.refl _)
      conv=>whnf
      refine drS (by kernel_rfl) ?_
      conv=>whnf
      exact jeS hk76 h (Weak.refl _)
     conv=>whnf
     refine fkS h (fun h=>?_) (fun h=>?_)
     ·conv=>whnf
      exact jeS hk75 h (Weak.refl _)
     conv=>whnf
     refine jeX hk75 h ?_
     conv=>whnf
     refine WkF.step (Weak.keepS _ [0]) ?_
     conv=>whnf
     exact WkF.refl _
    conv=>whnf
    refine fkS h (fun h=>?_) (fun h=>?_)
    ·conv=>whnf
     exact jeS hk74 h (Weak.refl _)
    conv=>whnf
    refine⟨9,?_⟩
    conv=>whnf
    refine drS (by kernel_rfl) ?_
    conv=>whnf
    refine ixS (enc:=(eI .u8)) h rfl (fun _=>rfl) (fun x77 h=>?_)
    conv=>whnf
    exact jeS hk74 h (Weak.refl _)
   conv=>whnf
   refine inJ (fun w78=>⟨[(11,.l (.d (.int .i64 w78.2.2))),(10,.l (.ptr 12 0)),(9,.l (.d (.int .i64 w74.2.2))),(8,.l (.ptr 12 0)),(7,.l (.d (.int .i64 w70.2.2))),(6,.l (.ptr 12 0)),(0,.l (.ptr 12 0)),(2,.l (.ptr 2003 0))],16,[⟨[(21,.l (.mfn 103 12)),(20,.l (.own 1006)),(17,.l (.d (.bool true))),(0,.l (.ptr 12 0)),(1,.l (.mfn 103 12)),(5,.l (.own 1006)),(6,.l (.d (.int .i64 v68.2.2.2))),(17,.l (.d (.bool w69)))],26⟩,⟨[(39,.l (.mfn 103 12)),(38,.l (.ptr 12 0)),(37,.l (.ptr 12 0)),(0,.l (.d (.sl (a0.map (eI .u8))))),(2,.l (.ptr 3 0)),(5,.l (.ptr 12 0)),(8,.l (.ptr 9 0))],74⟩],[(3,[.nil,.nil]),(9,[.own 36,.nil]),(12,[.d (.sl (a0.map (eI .u8))),.d (.int .i64 w78.1),.d (.int .i64 w78.2.1)]),(2003,[.d (.int .i64 (0:Int)),.d (.int .i64 (0:Int)),.d (.int .i64 (0:Int))])],[(36,57,3,w8.2.2.map Part.enc),(1006,90,3,v68.2.2.1.map Port.enc)]⟩) h (fun k78 hk78 h=>?_) (fun w78 h=>?_)
   ·conv=>whnf
    refine inS (fn:=Tryz.f99) tab ⟨[(0,[0]),(1,[0,19]),(2,[0]),(3,[0,27]),(4,[2]),(5,[0]),(6,[2])],[],[100019,3],[]⟩ 47 [.tmp 2] rfl rfl rfl rfl rfl rfl ?_
    conv=>whnf
    refine jnS (fun w79=>⟨[(0,.l (.ptr 12 0))],47,[⟨[(10,.l (.ptr 12 0)),(9,.l (.d (.int .i64 w74.2.2))),(8,.l (.ptr 12 0)),(7,.l (.d (.int .i64 w70.2.2))),(6,.l (.ptr 12 0)),(0,.l (.ptr 12 0)),(2,.l (.ptr 2003 0))],16⟩,⟨[(21,.l (.mfn 103 12)),(20,.l (.own 1006)),(17,.l (.d (.bool true))),(0,.l (.ptr 12 0)),(1,.l (.mfn 103 12)),(5,.l (.own 1006)),(6,.l (.d (.int .i64 v68.2.2.2))),(17,.l (.d (.bool w69)))],26⟩,⟨[(39,.l (.mfn 103 12)),(38,.l (.ptr 12 0)),(37,.l (.ptr 12 0)),(0,.l (.d (.sl (a0.map (eI .u8))))),(2,.l (.ptr 3 0)),(5,.l (.ptr 12 0)),(8,.l (.ptr 9 0))],74⟩],[(3,[.nil,.nil]),(9,[.own 36,.nil]),(12,[.d (.sl (a0.map (eI .u8))),.d (.int .i64 w74.1),.d (.int .i64 w79)]),(2003,[.d (.int .i64 (0:Int)),.d (.int .i64 (0:Int)),.d (.int .i64 (0:Int))])],[(36,57,3,w8.2.2.map Part.enc),(1006,90,3,v68.2.2.1.map Port.enc)]⟩) h (fun k79 hk79 h=>?_) (fun w79 h=>?_)
    ·conv=>whnf
     refine jnS (fun w80=>⟨[(0,.l (.ptr 12 0)),(19,.l (.d (.bool w80)))],47,[⟨[(10,.l (.ptr 12 0)),(9,.l (.d (.int .i64 w74.2.2))),(8,.l (.ptr 12 0)),(7,.l (.d (.int .i64 w70.2.2))),(6,.l (.ptr 12 0)),(0,.l (.ptr 12 0)),(2,.l (.ptr 2003 0))],16⟩,⟨[(21,.l (.mfn 103 12)),(20,.l (.own 1006)),(17,.l (.d (.bool true))),(0,.l (.ptr 12 0)),(1,.l (.mfn 103 12)),(5,.l (.own 1006)),(6,.l (.d (.int .i64 v68.2.2.2))),(17,.l (.d (.bool w69)))],26⟩,⟨[(39,.l (.mfn 103 12)),(38,.l (.ptr 12 0)),(37,.l (.ptr 12 0)),(0,.l (.d (.sl (a0.map (eI .u8))))),(2,.l (.ptr 3 0)),(5,.l (.ptr 12 0)),(8,.l (.ptr 9 0))],74⟩],[(3,[.nil,.nil]),(9,[.own 36,.nil]),(12,[.d (.sl (a0.map (eI .u8))),.d (.int .i64 w74.1),.d (.int .i64 w74.2.1)]),(2003,[.d (.int .i64 (0:Int)),.d (.int .i64 (0:Int)),.d (.int .i64 (0:Int))])],[(36,57,3,w8.2.2.map Part.enc),(1006,90,3,v68.2.2.1.map Port.enc)]⟩) h (fun k80 hk80 h=>?_) (fun w80 h=>?_)
     ·conv=>whnf
      refine⟨17,?_⟩
      conv=>whnf
      refine fkS h (fun h=>?_) (fun h=>?_)
      ·conv=>whnf
       refine lenS a0 (eI .u8) rfl ?_
       conv=>whnf
       refine drS (by kernel_rfl) ?_
       conv=>whnf
       exact jeS hk80 h (Weak.refl _)
      conv=>whnf
      refine drS (by kernel_rfl) ?_
      conv=>whnf
      exact jeS hk80 h (Weak.refl _)
     conv=>whnf
     refine fkS h (fun h=>?_) (fun h=>?_)
     ·conv=>whnf
      exact jeS hk79 h (Weak.refl _)
     conv=>whnf
     refine jeX hk79 h ?_
     conv=>whnf
     refine WkF.step (Weak.keepS _ [0]) ?_
     conv=>whnf
     exact WkF.refl _
    conv=>whnf
    refine fkS h (fun h=>?_) (fun h=>?_)
    ·conv=>whnf
     exact jeS hk78 h (Weak.refl _)
    conv=>whnf
    refine⟨9,?_⟩
    conv=>whnf
    refine drS (by kernel_rfl) ?_
    conv=>whnf
    refine ixS (enc:=(eI .u8)) h rfl (fun _=>rfl) (fun x81 h=>?_)
    conv=>whnf
    exact jeS hk78 h (Weak.refl _)
   conv=>whnf
   refine liS ([⟨w70.2.2,w74.2.2,w78.2.2⟩]:List Port) Port.enc rfl rfl ?_
   conv=>whnf
   refine apS (enc:=Port.enc) (l1:=v68.2.2.1) (l2:=([⟨w70.2.2,w74.2.2,w78.2.2⟩]:List Port)) h rfl rfl (fun _=>rfl) (fun h=>?_)
   conv=>whnf
   exact leS hn68 h (Weak.refl _)
  conv=>whnf
  refine jeX hk63 h ?_
  conv=>whnf
  refine WkF.step (Weak.rekey _ 1005 41 rfl) ?_
  conv=>whnf
  exact WkF.refl _
 conv=>whnf
 refine fkS h (fun h=>?_) (fun h=>?_)
 ·conv=>whnf
  refine⟨9,?_⟩
  conv=>whnf
  refine lenS a0 (eI .u8) rfl ?_
  conv=>whnf
  refine drS (by kernel_rfl) ?_
  conv=>whnf
  exact rt (E:=E_Config_Int_Int) h rfl
 conv=>whnf
 refine lenS a0 (eI .u8) rfl ?_
 conv=>whnf
 refine fkS h (fun h=>?_) (fun h=>?_)
 ·conv=>whnf
  refine⟨6,?_⟩
  conv=>whnf
  refine drS (by kernel_rfl) ?_
  conv=>whnf
  exact rt (E:=E_Config_Int_Int) h rfl
 conv=>whnf
 refine caS (E:=E_Bool) h (image_Right_w ⟨w8.2.2,w63.2.2⟩) rfl (fun _=>rfl) (fun x82 h=>?_)
 conv=>whnf
 refine fkS h (fun h=>?_) (fun h=>?_)
 ·conv=>whnf
  exact rt (E:=E_Config_Int_Int) h rfl
 conv=>whnf
 exact rt (E:=E_Config_Int_Int) h rfl
end Go.Proofs.YtldlcdnhdedoeaaGreat
