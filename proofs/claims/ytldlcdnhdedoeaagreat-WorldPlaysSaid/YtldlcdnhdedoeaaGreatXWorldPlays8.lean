/- Part 19 of what follows is proved here: what the statement WorldPlays needs of functions and plain laws. -/
import Derived.Test.YtldlcdnhdedoeaaGreatXWorldPlays7
import Derived.Test.YtldlcdnhdedoeaaGreatXWorldPlays0
set_option linter.unusedVariables false
set_option linter.unusedSimpArgs false
set_option maxRecDepth 100000
set_option maxHeartbeats 40000000
namespace Go.VC
/-! Short names for what function walks say often. -/
abbrev dI (x : Int) : LV := .d (.int .i64 x)
abbrev lI (x : Int) : AV := .l (.d (.int .i64 x))
abbrev lB (x : Bool) : AV := .l (.d (.bool x))
theorem wR {s : St} : Weak s s := Weak.refl s
end Go.VC
namespace Go.Proofs.YtldlcdnhdedoeaaGreat
open Go Go.VC
noncomputable def task_own (a0:Task):Option Bool:=
 fk (decide (a0.C≥(1:Int))) (fk (decide (a0.C≤a0.D)) (fk (decide (a0.D≤a0.T)) (fk (decide (a0.T≤(200:Int))) (some (decide ((a0.Secs.length:Int)≤(4:Int)))) (some false)) (some false)) (some false)) (some false)
theorem task_own_w (a0:Task) (r:Bool) (h:task_own a0=some r):Go.VC.Spec Tryz.prog 135 [.agg (Task.enc a0)] (fun y=>y=E_Bool r):=by
 refine Spec.of_xc (fn:=Tryz.f135) tab ⟨[(0,[1]),(1,[2])],[],[],[]⟩ 31 [.tmp 2] rfl rfl rfl rfl rfl rfl ?_<;>conv=>whnf
 refine fkS h (fun h=>?_) (fun h=>?_)<;>conv=>whnf
 ·refine fkS h (fun h=>?_) (fun h=>?_)<;>conv=>whnf
  ·refine fkS h (fun h=>?_) (fun h=>?_)<;>conv=>whnf
   ·refine fkS h (fun h=>?_) (fun h=>?_)<;>conv=>whnf
    ·refine lenS a0.Secs Sec.enc rfl ?_<;>conv=>whnf
     exact rt (E:=E_Bool) h rfl
    exact rt (E:=E_Bool) h rfl
   exact rt (E:=E_Bool) h rfl
  exact rt (E:=E_Bool) h rfl
 exact rt (E:=E_Bool) h rfl
end Go.Proofs.YtldlcdnhdedoeaaGreat
namespace Go.Proofs.YtldlcdnhdedoeaaGreat
open Go Go.VC
noncomputable def task_may (a0:Task) (a1:Sec):Option Bool:=
 fk (decide (a1.Res≥(0:Int))) (fk (decide (a1.Res<(4:Int))) (fk (decide (a1.At≥(0:Int))) (fk (decide (a1.At<a0.C)) (fk (decide (a1.Len≥(1:Int))) (some (decide (a1.Len≤(wr (a0.C-a1.At))))) (some false)) (some false)) (some false)) (some false)) (some false)
theorem task_may_w (a0:Task) (a1:Sec) (r:Bool) (h:task_may a0 a1=some r):Go.VC.Spec Tryz.prog 136 [.agg (Task.enc a0),.agg (Sec.enc a1)] (fun y=>y=E_Bool r):=by
 refine Spec.of_xc (fn:=Tryz.f136) tab ⟨[(0,[2,3]),(1,[4])],[],[],[]⟩ 40 [.tmp 4] rfl rfl rfl rfl rfl rfl ?_<;>conv=>whnf
 refine fkS h (fun h=>?_) (fun h=>?_)<;>conv=>whnf
 ·refine fkS h (fun h=>?_) (fun h=>?_)<;>conv=>whnf
  ·refine fkS h (fun h=>?_) (fun h=>?_)<;>conv=>whnf
   ·refine fkS h (fun h=>?_) (fun h=>?_)<;>conv=>whnf
    ·refine fkS h (fun h=>?_) (fun h=>?_)<;>conv=>whnf
     ·exact rt (E:=E_Bool) h rfl
     exact rt (E:=E_Bool) h rfl
    exact rt (E:=E_Bool) h rfl
   exact rt (E:=E_Bool) h rfl
  exact rt (E:=E_Bool) h rfl
 exact rt (E:=E_Bool) h rfl
end Go.Proofs.YtldlcdnhdedoeaaGreat
namespace Go.Proofs.YtldlcdnhdedoeaaGreat
open Go Go.VC
noncomputable def task_fits (a0:Sec) (a1:Sec):Option Bool:=
 fk (decide (a1.At≥(wr (a0.At+a0.Len)))) (some true) (fk (decide (a1.At<a0.At)) (some false) (fk (decide ((wr (a1.At+a1.Len))≤(wr (a0.At+a0.Len)))) (some (!decide (a0.Res=a1.Res))) (some false)))
theorem task_fits_w (a0:Sec) (a1:Sec) (r:Bool) (h:task_fits a0 a1=some r):Go.VC.Spec Tryz.prog 137 [.agg (Sec.enc a0),.agg (Sec.enc a1)] (fun y=>y=E_Bool r):=by
 refine Spec.of_xc (fn:=Tryz.f137) tab ⟨[(0,[2,3]),(1,[2,3,5]),(2,[4]),(3,[2,3,14]),(4,[4]),(5,[4])],[],[],[]⟩ 38 [.tmp 4] rfl rfl rfl rfl rfl rfl ?_<;>conv=>whnf
 refine fkS h (fun h=>?_) (fun h=>?_)<;>conv=>whnf
 ·exact rt (E:=E_Bool) h rfl
 refine fkS h (fun h=>?_) (fun h=>?_)<;>conv=>whnf
 ·exact rt (E:=E_Bool) h rfl
 refine fkS h (fun h=>?_) (fun h=>?_)<;>conv=>whnf
 ·exact rt (E:=E_Bool) h rfl
 exact rt (E:=E_Bool) h rfl
end Go.Proofs.YtldlcdnhdedoeaaGreat
namespace Go.Proofs.YtldlcdnhdedoeaaGreat
open Go Go.VC
noncomputable def task_Right (a0:Task):Option Bool:=
 bnd (task_own a0) fun x1=>fk (!x1) (some false) (lp (fun nx2 (v2:Int)=>fk (decide (v2<(a0.Secs.length:Int))) (ix a0.Secs v2 fun x3=>bnd (task_may a0 x3) fun x4=>fk (!x4) (some false) (ck (decide ((0:Int)≤(0:Int)) && decide ((0:Int)≤v2) && decide (v2≤(a0.Secs.length:Int))) (lp (fun nx5 (v5:Int)=>fk (decide (v5<(((a0.Secs.take v2.toNat).drop (0:Int).toNat).length:Int))) (ix ((a0.Secs.take v2.toNat).drop (0:Int).toNat) v5 fun x6=>bnd (task_fits x6 x3) fun x7=>fk x7 (nx5 (wr (v5+(1:Int)))) (some (decide ((0:Int)>(0:Int))))) (nx2 (wr (v2+(1:Int))))) FU (0:Int)))) (some (decide (a0.C>(0:Int))))) FU (0:Int))
theorem task_Right_w (a0:Task) (r:Bool) (h:task_Right a0=some r):Go.VC.Spec Tryz.prog 85 [.agg (Task.enc a0)] (fun y=>y=E_Bool r):=by
 refine Spec.of_xc (fn:=Tryz.f85) tab ⟨[(0,[1]),(1,[1,9]),(2,[2]),(3,[1,11,12,13]),(4,[1,11,12,13,14]),(5,[1,3,4,11,12,13]),(6,[1,3,4,11,12,13,21]),(7,[2]),(8,[1,4,11,12,13,25,26,27]),(9,[1,4,11,12,13,25,26,27,28]),(10,[1,4,6,11,12,13,25,26,27]),(11,[1,4,11,12,13,25,26,27,33]),(12,[1]),(13,[1,4,11,12,13,25,26,27]),(14,[1,11,12,13]),(15,[2])],[],[],[]⟩ 40 [.tmp 2] rfl rfl rfl rfl rfl rfl ?_<;>conv=>whnf
 refine caS (E:=E_Bool) h (task_own_w a0) rfl (fun _=>rfl) (fun x1 h=>?_)<;>conv=>whnf
 refine fkS h (fun h=>?_) (fun h=>?_)<;>conv=>whnf
 ·exact rt (E:=E_Bool) h rfl
 refine lenS a0.Secs Sec.enc rfl ?_<;>conv=>whnf
 refine lpS (fun v2=>⟨[(1,.l (.ptr 2 0)),(11,.l (.d (.sl (a0.Secs.map Sec.enc)))),(12,lI (a0.Secs.length:Int)),(13,lI v2)],40,[],[(2,[dI a0.C,dI a0.D,dI a0.T,.d (.sl (a0.Secs.map Sec.enc))])],[]⟩) h wR (fun _ nx2 hn2 v2 h=>?_)<;>conv=>whnf
 refine fkS h (fun h=>?_) (fun h=>?_)<;>conv=>whnf
 ·refine ixS (enc:=Sec.enc) h rfl (fun _=>rfl) (fun x3 h=>?_)<;>conv=>whnf
  refine caS (E:=E_Bool) h (task_may_w a0 x3) rfl (fun _=>rfl) (fun x4 h=>?_)<;>conv=>whnf
  refine fkS h (fun h=>?_) (fun h=>?_)<;>conv=>whnf
  ·exact rt (E:=E_Bool) h rfl
  refine slS (enc:=Sec.enc) h rfl rfl (.inl rfl) (fun _=>rfl) (fun h=>?_)<;>conv=>whnf
  refine lenS ((a0.Secs.take v2.toNat).drop (0:Int).toNat) Sec.enc rfl ?_<;>conv=>whnf
  refine lpS (fun v5=>⟨[(1,.l (.ptr 2 0)),(4,.l (.ptr 5 0)),(11,.l (.d (.sl (a0.Secs.map Sec.enc)))),(12,lI (a0.Secs.length:Int)),(13,lI v2),(25,.l (.d (.sl (((a0.Secs.take v2.toNat).drop (0:Int).toNat).map Sec.enc)))),(26,lI (((a0.Secs.take v2.toNat).drop (0:Int).toNat).length:Int)),(27,lI v5)],40,[],[(2,[dI a0.C,dI a0.D,dI a0.T,.d (.sl (a0.Secs.map Sec.enc))]),(5,[dI x3.Res,dI x3.At,dI x3.Len])],[]⟩) h wR (fun _ nx5 hn5 v5 h=>?_)<;>conv=>whnf
  refine fkS h (fun h=>?_) (fun h=>?_)<;>conv=>whnf
  ·refine ixS (enc:=Sec.enc) h rfl (fun _=>rfl) (fun x6 h=>?_)<;>conv=>whnf
   refine caS (E:=E_Bool) h (task_fits_w x6 x3) rfl (fun _=>rfl) (fun x7 h=>?_)<;>conv=>whnf
   refine fkS h (fun h=>?_) (fun h=>?_)<;>conv=>whnf
   ·exact leS hn5 h wR
   exact rt (E:=E_Bool) h rfl
  exact leS hn2 h wR
 exact rt (E:=E_Bool) h rfl
end Go.Proofs.YtldlcdnhdedoeaaGreat
namespace Go.Proofs.YtldlcdnhdedoeaaGreat
open Go Go.VC
noncomputable def task_All (a0:List Task):Option Bool:=
 lp (fun nx1 (v1:Int)=>fk (decide (v1<(a0.length:Int))) (ix a0 v1 fun x2=>bnd (task_Right x2) fun x3=>fk (!x3) (some false) (nx1 (wr (v1+(1:Int))))) (some (decide ((a0.length:Int)≤(8:Int))))) FU (0:Int)
theorem task_All_w (a0:List Task) (r:Bool) (h:task_All a0=some r):Go.VC.Spec Tryz.prog 64 [.d (.sl (a0.map Task.enc))] (fun y=>y=E_Bool r):=by
 refine Spec.of_xc (fn:=Tryz.f64) tab ⟨[(0,[0]),(1,[0,5,6,7]),(2,[0,5,6,7,8]),(3,[0,4,5,6,7]),(4,[0,5,6,7,13]),(5,[2]),(6,[0,5,6,7]),(7,[2])],[],[],[]⟩ 18 [.tmp 2] rfl rfl rfl rfl rfl rfl ?_<;>conv=>whnf
 refine lenS a0 Task.enc rfl ?_<;>conv=>whnf
 refine lpS (fun v1=>⟨[(0,.l (.d (.sl (a0.map Task.enc)))),(5,.l (.d (.sl (a0.map Task.enc)))),(6,lI (a0.length:Int)),(7,lI v1)],18,[],[],[]⟩) h wR (fun _ nx1 hn1 v1 h=>?_)<;>conv=>whnf
 refine fkS h (fun h=>?_) (fun h=>?_)<;>conv=>whnf
 ·refine ixS (enc:=Task.enc) h rfl (fun _=>rfl) (fun x2 h=>?_)<;>conv=>whnf
  refine caS (E:=E_Bool) h (task_Right_w x2) rfl (fun _=>rfl) (fun x3 h=>?_)<;>conv=>whnf
  refine fkS h (fun h=>?_) (fun h=>?_)<;>conv=>whnf
  ·exact rt (E:=E_Bool) h rfl
  exact leS hn1 h wR
 refine lenS a0 Task.enc rfl ?_<;>conv=>whnf
 exact rt (E:=E_Bool) h rfl
end Go.Proofs.YtldlcdnhdedoeaaGreat
namespace Go.Proofs.YtldlcdnhdedoeaaGreat
open Go Go.VC
noncomputable def police_Right (a0:List Task) (a1:List Int):Option Bool:=
 jn (fun (w1:Bool)=>fk w1 (some false) (lp (fun nx3 (v3:Int)=>fk (decide (v3<(a1.length:Int))) (ix a1 v3 fun x4=>jn (fun (w5:Bool)=>fk w5 (some false) (nx3 (wr (v3+(1:Int))))) (fun k5=>fk (decide (x4<(-1:Int))) (k5 true) (k5 (decide (x4>(4611686018427387903:Int)))))) (some true)) FU (0:Int))) (fun k1=>bnd (task_All a0) fun x2=>fk (!x2) (k1 true) (k1 (!decide ((a1.length:Int)=(a0.length:Int)))))
theorem police_Right_w (a0:List Task) (a1:List Int) (r:Bool) (h:police_Right a0 a1=some r):Go.VC.Spec Tryz.prog 120 [.d (.sl (a0.map Task.enc)),.d (.sl (a1.map (eI .i64)))] (fun y=>y=E_Bool r):=by
 refine Spec.of_xc (fn:=Tryz.f120) tab ⟨[(0,[0,1]),(1,[1,16]),(2,[4]),(3,[17,18,19]),(4,[17,18,19,20]),(5,[6,17,18,19]),(6,[17,18,19,28]),(7,[4]),(8,[17,18,19]),(9,[4])],[],[100016,100028],[]⟩ 30 [.tmp 4] rfl rfl rfl rfl rfl rfl ?_<;>conv=>whnf
 refine jnS (fun w1=>⟨[(1,.l (.d (.sl (a1.map (eI .i64))))),(16,lB w1)],30,[],[],[]⟩) h (fun k1 hk1 h=>?_) (fun w1 h=>?_)<;>conv=>whnf
 ·refine caS (E:=E_Bool) h (task_All_w a0) rfl (fun _=>rfl) (fun x2 h=>?_)<;>conv=>whnf
  refine fkS h (fun h=>?_) (fun h=>?_)<;>conv=>whnf
  ·exact jeS hk1 h wR
  refine lenS a1 (eI .i64) rfl ?_<;>conv=>whnf
  refine lenS a0 Task.enc rfl ?_<;>conv=>whnf
  exact jeS hk1 h wR
 refine fkS h (fun h=>?_) (fun h=>?_)<;>conv=>whnf
 ·exact rt (E:=E_Bool) h rfl
 refine lenS a1 (eI .i64) rfl ?_<;>conv=>whnf
 refine lpS (fun v3=>⟨[(17,.l (.d (.sl (a1.map (eI .i64))))),(18,lI (a1.length:Int)),(19,lI v3)],30,[],[],[]⟩) h wR (fun _ nx3 hn3 v3 h=>?_)<;>conv=>whnf
 refine fkS h (fun h=>?_) (fun h=>?_)<;>conv=>whnf
 ·refine ixS (enc:=(eI .i64)) h rfl (fun _=>rfl) (fun x4 h=>?_)<;>conv=>whnf
  refine jnS (fun w5=>⟨[(17,.l (.d (.sl (a1.map (eI .i64))))),(18,lI (a1.length:Int)),(19,lI v3),(28,lB w5)],30,[],[],[]⟩) h (fun k5 hk5 h=>?_) (fun w5 h=>?_)<;>conv=>whnf
  ·refine fkS h (fun h=>?_) (fun h=>?_)<;>conv=>whnf
   ·exact jeS hk5 h wR
   exact jeS hk5 h wR
  refine fkS h (fun h=>?_) (fun h=>?_)<;>conv=>whnf
  ·exact rt (E:=E_Bool) h rfl
  exact leS hn3 h wR
 exact rt (E:=E_Bool) h rfl
end Go.Proofs.YtldlcdnhdedoeaaGreat
namespace Go.Proofs.YtldlcdnhdedoeaaGreat
open Go Go.VC
noncomputable def job_right (a0:List Task) (a1:Job):Option Bool:=
 jn (fun (w1:Bool)=>fk w1 (some false) (ix a0 a1.Task fun x2=>fk (decide (a1.Due=(wr (a1.At+x2.D)))) (fk (decide (a1.Want≥(1:Int))) (fk (decide (a1.Want≤(200:Int))) (fk (decide (a1.Had≥(0:Int))) (fk (decide (a1.Had<(if a1.Want<x2.C then a1.Want else x2.C))) (fk a1.Began (some true) (some (decide (a1.Had=(0:Int))))) (some false)) (some false)) (some false)) (some false)) (some false))) (fun k1=>fk (decide (a1.Task<(0:Int))) (k1 true) (fk (decide (a1.Task≥(a0.length:Int))) (k1 true) (fk (decide (a1.At<(0:Int))) (k1 true) (k1 (decide (a1.At>(4611686018427387703:Int)))))))
theorem job_right_w (a0:List Task) (a1:Job) (r:Bool) (h:job_right a0 a1=some r):Go.VC.Spec Tryz.prog 157 [.d (.sl (a0.map Task.enc)),.agg (Job.enc a1)] (fun y=>y=E_Bool r):=by
 refine Spec.of_xc (fn:=Tryz.f157) tab ⟨[(0,[0,3]),(1,[0,3,25]),(2,[4]),(3,[3,5]),(4,[4])],[],[100025],[]⟩ 73 [.tmp 4] rfl rfl rfl rfl rfl rfl ?_<;>conv=>whnf
 refine jnS (fun w1=>⟨[(0,.l (.d (.sl (a0.map Task.enc)))),(3,.l (.ptr 4 0)),(25,lB w1)],73,[],[(4,[dI a1.Task,dI a1.At,dI a1.Due,dI a1.Want,dI a1.Had,.d (.bool a1.Began)])],[]⟩) h (fun k1 hk1 h=>?_) (fun w1 h=>?_)<;>conv=>whnf
 ·refine fkS h (fun h=>?_) (fun h=>?_)<;>conv=>whnf
  ·exact jeS hk1 h wR
  refine lenS a0 Task.enc rfl ?_<;>conv=>whnf
  refine fkS h (fun h=>?_) (fun h=>?_)<;>conv=>whnf
  ·exact jeS hk1 h wR
  refine fkS h (fun h=>?_) (fun h=>?_)<;>conv=>whnf
  ·exact jeS hk1 h wR
  exact jeS hk1 h wR
 refine fkS h (fun h=>?_) (fun h=>?_)<;>conv=>whnf
 ·exact rt (E:=E_Bool) h rfl
 refine ixS (enc:=Task.enc) h rfl (fun _=>rfl) (fun x2 h=>?_)<;>conv=>whnf
 refine fkS h (fun h=>?_) (fun h=>?_)<;>conv=>whnf
 ·refine fkS h (fun h=>?_) (fun h=>?_)<;>conv=>whnf
  ·refine fkS h (fun h=>?_) (fun h=>?_)<;>conv=>whnf
   ·refine fkS h (fun h=>?_) (fun h=>?_)<;>conv=>whnf
    ·refine fkS h (fun h=>?_) (fun h=>?_)<;>conv=>whnf
     ·refine fkS h (fun h=>?_) (fun h=>?_)<;>conv=>whnf
      ·exact rt (E:=E_Bool) h rfl
      exact rt (E:=E_Bool) h rfl
     exact rt (E:=E_Bool) h rfl
    exact rt (E:=E_Bool) h rfl
   exact rt (E:=E_Bool) h rfl
  exact rt (E:=E_Bool) h rfl
 exact rt (E:=E_Bool) h rfl
end Go.Proofs.YtldlcdnhdedoeaaGreat
namespace Go.Proofs.YtldlcdnhdedoeaaGreat
open Go Go.VC
noncomputable def job_All (a0:List Task) (a1:List Job):Option Bool:=
 jn (fun (w1:Bool)=>fk w1 (some false) (lp (fun nx3 (v3:Int)=>fk (decide (v3<(a1.length:Int))) (ix a1 v3 fun x4=>bnd (job_right a0 x4) fun x5=>fk (!x5) (some false) (ck (decide ((0:Int)≤(0:Int)) && decide ((0:Int)≤v3) && decide (v3≤(a1.length:Int))) (lp (fun nx6 (v6:Int)=>fk (decide (v6<(((a1.take v3.toNat).drop (0:Int).toNat).length:Int))) (ix ((a1.take v3.toNat).drop (0:Int).toNat) v6 fun x7=>jn (fun (w8:Bool)=>fk w8 (some false) (nx6 (wr (v6+(1:Int))))) (fun k8=>fk (decide (x4.Task=x7.Task)) (k8 (decide (x4.At=x7.At))) (k8 false))) (nx3 (wr (v3+(1:Int))))) FU (0:Int)))) (some true)) FU (0:Int))) (fun k1=>bnd (task_All a0) fun x2=>fk (!x2) (k1 true) (k1 (decide ((a1.length:Int)>(32:Int)))))
theorem job_All_w (a0:List Task) (a1:List Job) (r:Bool) (h:job_All a0 a1=some r):Go.VC.Spec Tryz.prog 121 [.d (.sl (a0.map Task.enc)),.d (.sl (a1.map Job.enc))] (fun y=>y=E_Bool r):=by
 refine Spec.of_xc (fn:=Tryz.f121) tab ⟨[(0,[0,1]),(1,[0,1,16]),(2,[4]),(3,[0,1,17,18,19]),(4,[0,1,17,18,19,20]),(5,[0,1,5,6,17,18,19]),(6,[0,1,5,6,17,18,19,27]),(7,[4]),(8,[0,1,6,17,18,19,30,31,32]),(9,[0,1,6,17,18,19,30,31,32,33]),(10,[0,1,6,8,17,18,19,30,31,32]),(11,[0,1,6,17,18,19,30,31,32,47]),(12,[4]),(13,[0,1,6,17,18,19,30,31,32]),(14,[0,1,17,18,19]),(15,[4])],[],[100016,100047],[]⟩ 50 [.tmp 4] rfl rfl rfl rfl rfl rfl ?_<;>conv=>whnf
 refine jnS (fun w1=>⟨[(0,.l (.d (.sl (a0.map Task.enc)))),(1,.l (.d (.sl (a1.map Job.enc)))),(16,lB w1)],50,[],[],[]⟩) h (fun k1 hk1 h=>?_) (fun w1 h=>?_)<;>conv=>whnf
 ·refine caS (E:=E_Bool) h (task_All_w a0) rfl (fun _=>rfl) (fun x2 h=>?_)<;>conv=>whnf
  refine fkS h (fun h=>?_) (fun h=>?_)<;>conv=>whnf
  ·exact jeS hk1 h wR
  refine lenS a1 Job.enc rfl ?_<;>conv=>whnf
  exact jeS hk1 h wR
 refine fkS h (fun h=>?_) (fun h=>?_)<;>conv=>whnf
 ·exact rt (E:=E_Bool) h rfl
 refine lenS a1 Job.enc rfl ?_<;>conv=>whnf
 refine lpS (fun v3=>⟨[(0,.l (.d (.sl (a0.map Task.enc)))),(1,.l (.d (.sl (a1.map Job.enc)))),(17,.l (.d (.sl (a1.map Job.enc)))),(18,lI (a1.length:Int)),(19,lI v3)],50,[],[],[]⟩) h wR (fun _ nx3 hn3 v3 h=>?_)<;>conv=>whnf
 refine fkS h (fun h=>?_) (fun h=>?_)<;>conv=>whnf
 ·refine ixS (enc:=Job.enc) h rfl (fun _=>rfl) (fun x4 h=>?_)<;>conv=>whnf
  refine caS (E:=E_Bool) h (job_right_w a0 x4) rfl (fun _=>rfl) (fun x5 h=>?_)<;>conv=>whnf
  refine fkS h (fun h=>?_) (fun h=>?_)<;>conv=>whnf
  ·exact rt (E:=E_Bool) h rfl
  refine slS (enc:=Job.enc) h rfl rfl (.inl rfl) (fun _=>rfl) (fun h=>?_)<;>conv=>whnf
  refine lenS ((a1.take v3.toNat).drop (0:Int).toNat) Job.enc rfl ?_<;>conv=>whnf
  refine lpS (fun v6=>⟨[(0,.l (.d (.sl (a0.map Task.enc)))),(1,.l (.d (.sl (a1.map Job.enc)))),(6,.l (.ptr 7 0)),(17,.l (.d (.sl (a1.map Job.enc)))),(18,lI (a1.length:Int)),(19,lI v3),(30,.l (.d (.sl (((a1.take v3.toNat).drop (0:Int).toNat).map Job.enc)))),(31,lI (((a1.take v3.toNat).drop (0:Int).toNat).length:Int)),(32,lI v6)],50,[],[(7,[dI x4.Task,dI x4.At,dI x4.Due,dI x4.Want,dI x4.Had,.d (.bool x4.Began)])],[]⟩) h wR (fun _ nx6 hn6 v6 h=>?_)<;>conv=>whnf
  refine fkS h (fun h=>?_) (fun h=>?_)<;>conv=>whnf
  ·refine ixS (enc:=Job.enc) h rfl (fun _=>rfl) (fun x7 h=>?_)<;>conv=>whnf
   refine jnS (fun w8=>⟨[(0,.l (.d (.sl (a0.map Task.enc)))),(1,.l (.d (.sl (a1.map Job.enc)))),(6,.l (.ptr 7 0)),(17,.l (.d (.sl (a1.map Job.enc)))),(18,lI (a1.length:Int)),(19,lI v3),(30,.l (.d (.sl (((a1.take v3.toNat).drop (0:Int).toNat).map Job.enc)))),(31,lI (((a1.take v3.toNat).drop (0:Int).toNat).length:Int)),(32,lI v6),(47,lB w8)],50,[],[(7,[dI x4.Task,dI x4.At,dI x4.Due,dI x4.Want,dI x4.Had,.d (.bool x4.Began)])],[]⟩) h (fun k8 hk8 h=>?_) (fun w8 h=>?_)<;>conv=>whnf
   ·refine fkS h (fun h=>?_) (fun h=>?_)<;>conv=>whnf
    ·exact jeS hk8 h wR
    exact jeS hk8 h wR
   refine fkS h (fun h=>?_) (fun h=>?_)<;>conv=>whnf
   ·exact rt (E:=E_Bool) h rfl
   exact leS hn6 h wR
  exact leS hn3 h wR
 exact rt (E:=E_Bool) h rfl
end Go.Proofs.YtldlcdnhdedoeaaGreat
namespace Go.Proofs.YtldlcdnhdedoeaaGreat
open Go Go.VC
noncomputable def part_Right (a0:PartState):Option Bool:=
 fk (decide ((a0.Leaves.length:Int)=(a0.Tasks.length:Int))) (bnd (police_Right a0.Tasks a0.Lasts) fun x1=>fk x1 (bnd (job_All a0.Tasks a0.Jobs) fun x2=>fk x2 (some (decide ((a0.Log.length:Int)≤(2000:Int)))) (some false)) (some false)) (some false)
theorem part_Right_w (a0:PartState) (r:Bool) (h:part_Right a0=some r):Go.VC.Spec Tryz.prog 61 [.agg (PartState.enc a0)] (fun y=>y=E_Bool r):=by
 refine Spec.of_xc (fn:=Tryz.f61) tab ⟨[(0,[1]),(1,[2])],[],[],[]⟩ 30 [.tmp 2] rfl rfl rfl rfl rfl rfl ?_<;>conv=>whnf
 refine lenS a0.Leaves eB rfl ?_<;>conv=>whnf
 refine lenS a0.Tasks Task.enc rfl ?_<;>conv=>whnf
 refine fkS h (fun h=>?_) (fun h=>?_)<;>conv=>whnf
 ·refine caS (E:=E_Bool) h (police_Right_w a0.Tasks a0.Lasts) rfl (fun _=>rfl) (fun x1 h=>?_)<;>conv=>whnf
  refine fkS h (fun h=>?_) (fun h=>?_)<;>conv=>whnf
  ·refine caS (E:=E_Bool) h (job_All_w a0.Tasks a0.Jobs) rfl (fun _=>rfl) (fun x2 h=>?_)<;>conv=>whnf
   refine fkS h (fun h=>?_) (fun h=>?_)<;>conv=>whnf
   ·refine lenS a0.Log Entry.enc rfl ?_<;>conv=>whnf
    exact rt (E:=E_Bool) h rfl
   exact rt (E:=E_Bool) h rfl
  exact rt (E:=E_Bool) h rfl
 exact rt (E:=E_Bool) h rfl
end Go.Proofs.YtldlcdnhdedoeaaGreat
namespace Go.Proofs.YtldlcdnhdedoeaaGreat
open Go Go.VC
noncomputable def supply_Right (a0:Face):Option Bool:=
 fk (decide (a0.B≥(1:Int))) (fk (decide (a0.B≤a0.P)) (some (decide (a0.P≤(200:Int)))) (some false)) (some false)
theorem supply_Right_w (a0:Face) (r:Bool) (h:supply_Right a0=some r):Go.VC.Spec Tryz.prog 84 [.agg (Face.enc a0)] (fun y=>y=E_Bool r):=by
 refine Spec.of_xc (fn:=Tryz.f84) tab ⟨[(0,[1]),(1,[2])],[],[],[]⟩ 18 [.tmp 2] rfl rfl rfl rfl rfl rfl ?_<;>conv=>whnf
 refine fkS h (fun h=>?_) (fun h=>?_)<;>conv=>whnf
 ·refine fkS h (fun h=>?_) (fun h=>?_)<;>conv=>whnf
  ·exact rt (E:=E_Bool) h rfl
  exact rt (E:=E_Bool) h rfl
 exact rt (E:=E_Bool) h rfl
end Go.Proofs.YtldlcdnhdedoeaaGreat
namespace Go.Proofs.YtldlcdnhdedoeaaGreat
open Go Go.VC
def E_fn_admit_unless:Bool×Int→List CV:=fun r=>[.d (.fn 134 [[.bool r.1],[.int .i64 r.2]])]
noncomputable def admit_unless (a0:Bool) (a1:Int):Option (Bool×Int):=
 some (a0,a1)
theorem admit_unless_w (a0:Bool) (a1:Int) (r:Bool×Int) (h:admit_unless a0 a1=some r):Go.VC.Spec Tryz.prog 83 [.d (.bool a0),.d (.int .i64 a1)] (fun y=>y=E_fn_admit_unless r):=by
 refine Spec.of_xc (fn:=Tryz.f83) tab ⟨[(0,[2,3]),(1,[4])],[],[],[]⟩ 6 [.tmp 4] rfl rfl rfl rfl rfl rfl ?_<;>conv=>whnf
 exact rt (E:=E_fn_admit_unless) h rfl
end Go.Proofs.YtldlcdnhdedoeaaGreat
namespace Go.Proofs.YtldlcdnhdedoeaaGreat
open Go Go.VC
noncomputable def job_First_1 (a0:Job) (a1:Bool):Option Bool:=
 some (decide (a0.Began=a1))
theorem job_First_1_w (a0:Job) (a1:Bool) (r:Bool) (h:job_First_1 a0 a1=some r):Go.VC.Spec Tryz.prog 139 [.agg (Job.enc a0),.dp [.bool a1]] (fun y=>y=E_Bool r):=by
 refine Spec.of_xc (fn:=Tryz.f139) tab ⟨[(0,[1,2]),(1,[3])],[],[],[]⟩ 8 [.tmp 3] rfl rfl rfl rfl rfl rfl ?_<;>conv=>whnf
 exact rt (E:=E_Bool) h rfl
end Go.Proofs.YtldlcdnhdedoeaaGreat
namespace Go.Proofs.YtldlcdnhdedoeaaGreat
open Go Go.VC
noncomputable def job_Ahead (a0:Job) (a1:Job):Option Bool:=
 fk (!decide (a0.Due=a1.Due)) (some (decide (a0.Due<a1.Due))) (fk (!decide (a0.Task=a1.Task)) (some (decide (a0.Task<a1.Task))) (some (decide (a0.At<a1.At))))
theorem job_Ahead_w (a0:Job) (a1:Job) (r:Bool) (h:job_Ahead a0 a1=some r):Go.VC.Spec Tryz.prog 140 [.agg (Job.enc a0),.agg (Job.enc a1)] (fun y=>y=E_Bool r):=by
 refine Spec.of_xc (fn:=Tryz.f140) tab ⟨[(0,[2,3]),(1,[2,3,5]),(2,[4]),(3,[2,3,16]),(4,[4]),(5,[4])],[],[],[]⟩ 32 [.tmp 4] rfl rfl rfl rfl rfl rfl ?_<;>conv=>whnf
 refine fkS h (fun h=>?_) (fun h=>?_)<;>conv=>whnf
 ·exact rt (E:=E_Bool) h rfl
 refine fkS h (fun h=>?_) (fun h=>?_)<;>conv=>whnf
 ·exact rt (E:=E_Bool) h rfl
 exact rt (E:=E_Bool) h rfl
end Go.Proofs.YtldlcdnhdedoeaaGreat
namespace Go.Proofs.YtldlcdnhdedoeaaGreat
open Go Go.VC
noncomputable def job_first_api_Job (a0:List Job) (a1:Bool):Option Int:=
 lp (fun nx1 (v1:Int×Int)=>fk (decide (v1.2<(a0.length:Int))) (jn (fun (w2:Int)=>nx1 (w2,(wr (v1.2+(1:Int))))) (fun k2=>ix a0 v1.2 fun x3=>jn (fun (w4:Bool)=>fk w4 (k2 v1.2) (k2 v1.1)) (fun k4=>bnd (job_First_1 x3 a1) fun x5=>fk x5 (fk (decide (v1.1<(0:Int))) (k4 true) (ix a0 v1.1 fun x6=>bnd (job_Ahead x3 x6) fun x7=>k4 x7)) (k4 false)))) (some v1.1)) FU ((-1:Int),(0:Int))
theorem job_first_api_Job_w (a0:List Job) (a1:Bool) (r:Int) (h:job_first_api_Job a0 a1=some r):Go.VC.Spec Tryz.prog 138 [.d (.sl (a0.map Job.enc)),.d (.fn 139 [[.bool a1]]),.d (.fn 140 [])] (fun y=>y=E_Int r):=by
 refine Spec.of_xc (fn:=Tryz.f138) tab ⟨[(0,[0,1,2]),(1,[0,1,2,7]),(2,[0,1,2,7,10,11,12]),(3,[0,1,2,7,10,11,12,13]),(4,[0,1,2,7,8,9,10,11,12]),(5,[0,1,2,7,8,10,11,12,32]),(6,[0,1,2,7,10,11,12]),(7,[0,1,2,7,10,11,12]),(8,[6])],[],[100032,7],[]⟩ 36 [.tmp 6] rfl rfl rfl rfl rfl rfl ?_<;>conv=>whnf
 refine lenS a0 Job.enc rfl ?_<;>conv=>whnf
 refine lpS (fun v1=>⟨[(0,.l (.d (.sl (a0.map Job.enc)))),(1,.l (.d (.fn 139 [[.bool a1]]))),(2,.l (.d (.fn 140 []))),(7,lI v1.1),(10,.l (.d (.sl (a0.map Job.enc)))),(11,lI (a0.length:Int)),(12,lI v1.2)],36,[],[],[]⟩) h wR (fun _ nx1 hn1 v1 h=>?_)<;>conv=>whnf
 refine fkS h (fun h=>?_) (fun h=>?_)<;>conv=>whnf
 ·refine jnS (fun w2=>⟨[(0,.l (.d (.sl (a0.map Job.enc)))),(1,.l (.d (.fn 139 [[.bool a1]]))),(2,.l (.d (.fn 140 []))),(7,lI w2),(10,.l (.d (.sl (a0.map Job.enc)))),(11,lI (a0.length:Int)),(12,lI v1.2)],36,[],[],[]⟩) h (fun k2 hk2 h=>?_) (fun w2 h=>?_)<;>conv=>whnf
  ·refine ixS (enc:=Job.enc) h rfl (fun _=>rfl) (fun x3 h=>?_)<;>conv=>whnf
   refine jnS (fun w4=>⟨[(0,.l (.d (.sl (a0.map Job.enc)))),(1,.l (.d (.fn 139 [[.bool a1]]))),(2,.l (.d (.fn 140 []))),(7,lI v1.1),(8,lI v1.2),(10,.l (.d (.sl (a0.map Job.enc)))),(11,lI (a0.length:Int)),(12,lI v1.2),(32,lB w4)],36,[],[],[]⟩) h (fun k4 hk4 h=>?_) (fun w4 h=>?_)<;>conv=>whnf
   ·refine⟨13,?_⟩
    conv=>whnf
    refine daS (E:=E_Bool) h (job_First_1_w x3 a1) (fun _=>rfl) (fun x5 h=>?_)<;>conv=>whnf
    refine fkS h (fun h=>?_) (fun h=>?_)<;>conv=>whnf
    ·refine fkS h (fun h=>?_) (fun h=>?_)<;>conv=>whnf
     ·refine drS (by kernel_rfl) ?_<;>conv=>whnf
      exact jeS hk4 h wR
     refine ixS (enc:=Job.enc) h rfl (fun _=>rfl) (fun x6 h=>?_)<;>conv=>whnf
     refine drS (by kernel_rfl) ?_<;>conv=>whnf
     refine caS (E:=E_Bool) h (job_Ahead_w x3 x6) rfl (fun _=>rfl) (fun x7 h=>?_)<;>conv=>whnf
     exact jeS hk4 h wR
    refine drS (by kernel_rfl) ?_<;>conv=>whnf
    exact jeS hk4 h wR
   refine fkS h (fun h=>?_) (fun h=>?_)<;>conv=>whnf
   ·exact jeS hk2 h wR
   refine jeX hk2 h ?_<;>conv=>whnf
   refine WkF.step (Weak.keepS _ [0,1,2,7,10,11,12]) ?_<;>conv=>whnf
   exact WkF.refl _
  exact leS hn1 h wR
 exact rt (E:=E_Int) h rfl
end Go.Proofs.YtldlcdnhdedoeaaGreat
namespace Go.Proofs.YtldlcdnhdedoeaaGreat
open Go Go.VC
noncomputable def job_First (a0:List Job) (a1:Bool):Option Int:=
 bnd (job_first_api_Job a0 a1) fun x1=>some x1
theorem job_First_w (a0:List Job) (a1:Bool) (r:Int) (h:job_First a0 a1=some r):Go.VC.Spec Tryz.prog 86 [.d (.sl (a0.map Job.enc)),.d (.bool a1)] (fun y=>y=E_Int r):=by
 refine Spec.of_xc (fn:=Tryz.f86) tab ⟨[(0,[0,3]),(1,[4])],[],[],[]⟩ 8 [.tmp 4] rfl rfl rfl rfl rfl rfl ?_<;>conv=>whnf
 refine caS (E:=E_Int) h (job_first_api_Job_w a0 a1) rfl (fun _=>rfl) (fun x1 h=>?_)<;>conv=>whnf
 exact rt (E:=E_Int) h rfl
end Go.Proofs.YtldlcdnhdedoeaaGreat
namespace Go.Proofs.YtldlcdnhdedoeaaGreat
open Go Go.VC
def E_fn_admit_fit:(List Task)×Int×Int→List CV:=fun r=>[.d (.fn 141 [[.sl (r.1.map Task.enc)],[.int .i64 r.2.1,.int .i64 r.2.2]])]
noncomputable def admit_fit (a0:List Task) (a1:Face):Option ((List Task)×Int×Int):=
 some (a0,a1.P,a1.B)
theorem admit_fit_w (a0:List Task) (a1:Face) (r:(List Task)×Int×Int) (h:admit_fit a0 a1=some r):Go.VC.Spec Tryz.prog 87 [.d (.sl (a0.map Task.enc)),.agg (Face.enc a1)] (fun y=>y=E_fn_admit_fit r):=by
 refine Spec.of_xc (fn:=Tryz.f87) tab ⟨[(0,[2,3]),(1,[4])],[],[],[]⟩ 6 [.tmp 4] rfl rfl rfl rfl rfl rfl ?_<;>conv=>whnf
 exact rt (E:=E_fn_admit_fit) h rfl
end Go.Proofs.YtldlcdnhdedoeaaGreat
namespace Go.Proofs.YtldlcdnhdedoeaaGreat
open Go Go.VC
noncomputable def arith_may (a0:List Int):Option Bool:=
 lp (fun nx1 (v1:Int)=>fk (decide (v1<(a0.length:Int))) (ix a0 v1 fun x2=>jn (fun (w3:Bool)=>fk w3 (some false) (nx1 (wr (v1+(1:Int))))) (fun k3=>fk (decide (x2>(4611686018427387903:Int))) (k3 true) (k3 (decide (x2<(-4611686018427387903:Int)))))) (some true)) FU (0:Int)
theorem arith_may_w (a0:List Int) (r:Bool) (h:arith_may a0=some r):Go.VC.Spec Tryz.prog 180 [.d (.sl (a0.map (eI .i64)))] (fun y=>y=E_Bool r):=by
 refine Spec.of_xc (fn:=Tryz.f180) tab ⟨[(0,[0]),(1,[5,6,7]),(2,[5,6,7,8]),(3,[4,5,6,7]),(4,[5,6,7,16]),(5,[2]),(6,[5,6,7]),(7,[2])],[],[100016],[]⟩ 18 [.tmp 2] rfl rfl rfl rfl rfl rfl ?_<;>conv=>whnf
 refine lenS a0 (eI .i64) rfl ?_<;>conv=>whnf
 refine lpS (fun v1=>⟨[(5,.l (.d (.sl (a0.map (eI .i64))))),(6,lI (a0.length:Int)),(7,lI v1)],18,[],[],[]⟩) h wR (fun _ nx1 hn1 v1 h=>?_)<;>conv=>whnf
 refine fkS h (fun h=>?_) (fun h=>?_)<;>conv=>whnf
 ·refine ixS (enc:=(eI .i64)) h rfl (fun _=>rfl) (fun x2 h=>?_)<;>conv=>whnf
  refine jnS (fun w3=>⟨[(5,.l (.d (.sl (a0.map (eI .i64))))),(6,lI (a0.length:Int)),(7,lI v1),(16,lB w3)],18,[],[],[]⟩) h (fun k3 hk3 h=>?_) (fun w3 h=>?_)<;>conv=>whnf
  ·refine fkS h (fun h=>?_) (fun h=>?_)<;>conv=>whnf
   ·exact jeS hk3 h wR
   exact jeS hk3 h wR
  refine fkS h (fun h=>?_) (fun h=>?_)<;>conv=>whnf
  ·exact rt (E:=E_Bool) h rfl
  exact leS hn1 h wR
 exact rt (E:=E_Bool) h rfl
end Go.Proofs.YtldlcdnhdedoeaaGreat
namespace Go.Proofs.YtldlcdnhdedoeaaGreat
open Go Go.VC
noncomputable def arith_Gcd (a0:Int) (a1:Int):Option (Int×Int):=
 jn (fun (w1:Bool)=>fk w1 (some ((0:Int),(1:Int))) (lp (fun nx3 (v3:Int×Int)=>fk (decide (v3.2>(0:Int))) (ck (decide (v3.2≠0)) (nx3 (v3.2,(v3.1.tmod v3.2)))) (some (v3.1,(0:Int)))) FU (a0,a1))) (fun k1=>bnd (arith_may ([a0,a1]:List Int)) fun x2=>fk (!x2) (k1 true) (fk (decide (a0<(0:Int))) (k1 true) (k1 (decide (a1<(0:Int))))))
theorem arith_Gcd_w (a0:Int) (a1:Int) (r:Int×Int) (h:arith_Gcd a0 a1=some r):Go.VC.Spec Tryz.prog 170 [.d (.int .i64 a0),.d (.int .i64 a1)] (fun y=>y=E_Int_Int r):=by
 refine Spec.of_xc (fn:=Tryz.f170) tab ⟨[(0,[0,1]),(1,[0,1,18]),(2,[4,5]),(3,[0,1,20]),(4,[0,1]),(5,[4,5])],[],[100018],[]⟩ 26 [.tmp 4,.tmp 5] rfl rfl rfl rfl rfl rfl ?_<;>conv=>whnf
 refine jnS (fun w1=>⟨[(0,lI a0),(1,lI a1),(18,lB w1)],26,[],[],[]⟩) h (fun k1 hk1 h=>?_) (fun w1 h=>?_)<;>conv=>whnf
 ·refine liS ([a0,a1]:List Int) (eI .i64) rfl rfl ?_<;>conv=>whnf
  refine caS (E:=E_Bool) h (arith_may_w ([a0,a1]:List Int)) rfl (fun _=>rfl) (fun x2 h=>?_)<;>conv=>whnf
  refine fkS h (fun h=>?_) (fun h=>?_)<;>conv=>whnf
  ·exact jeS hk1 h wR
  refine fkS h (fun h=>?_) (fun h=>?_)<;>conv=>whnf
  ·exact jeS hk1 h wR
  exact jeS hk1 h wR
 refine fkS h (fun h=>?_) (fun h=>?_)<;>conv=>whnf
 ·exact rt (E:=E_Int_Int) h rfl
 refine lpS (fun v3=>⟨[(0,lI v3.1),(1,lI v3.2)],26,[],[],[]⟩) h (Weak.trans (Weak.keepS _ [0,1]) wR) (fun _ nx3 hn3 v3 h=>?_)<;>conv=>whnf
 refine fkS h (fun h=>?_) (fun h=>?_)<;>conv=>whnf
 ·refine⟨5,?_⟩
  conv=>whnf
  refine dvS h (fun h=>?_)<;>conv=>whnf
  refine drS (by kernel_rfl) ?_<;>conv=>whnf
  exact leS hn3 h wR
 exact rt (E:=E_Int_Int) h rfl
end Go.Proofs.YtldlcdnhdedoeaaGreat
namespace Go.Proofs.YtldlcdnhdedoeaaGreat
open Go Go.VC
noncomputable def arith_Mul (a0:Int) (a1:Int):Option (Int×Int):=
 bnd (arith_may ([a0,a1]:List Int)) fun x1=>fk (!x1) (some ((0:Int),(1:Int))) (jn (fun (w2:Bool)=>fk w2 (some ((0:Int),(0:Int))) (ck (decide ((if (IntKind.i64.wrap (0-a1))>a1 then (IntKind.i64.wrap (0-a1)) else a1)≠0)) (fk (decide ((if (IntKind.i64.wrap (0-a0))>a0 then (IntKind.i64.wrap (0-a0)) else a0)>(wr ((4611686018427387903:Int).tdiv (if (IntKind.i64.wrap (0-a1))>a1 then (IntKind.i64.wrap (0-a1)) else a1))))) (some ((0:Int),(5:Int))) (some ((wr (a0*a1)),(0:Int)))))) (fun k2=>fk (decide (a0=(0:Int))) (k2 true) (k2 (decide (a1=(0:Int))))))
theorem arith_Mul_w (a0:Int) (a1:Int) (r:Int×Int) (h:arith_Mul a0 a1=some r):Go.VC.Spec Tryz.prog 171 [.d (.int .i64 a0),.d (.int .i64 a1)] (fun y=>y=E_Int_Int r):=by
 refine Spec.of_xc (fn:=Tryz.f171) tab ⟨[(0,[0,1]),(1,[0,1,6]),(2,[4,5]),(3,[0,1,12]),(4,[4,5]),(5,[0,1,19]),(6,[4,5]),(7,[4,5])],[],[100012],[]⟩ 33 [.tmp 4,.tmp 5] rfl rfl rfl rfl rfl rfl ?_<;>conv=>whnf
 refine liS ([a0,a1]:List Int) (eI .i64) rfl rfl ?_<;>conv=>whnf
 refine caS (E:=E_Bool) h (arith_may_w ([a0,a1]:List Int)) rfl (fun _=>rfl) (fun x1 h=>?_)<;>conv=>whnf
 refine fkS h (fun h=>?_) (fun h=>?_)<;>conv=>whnf
 ·exact rt (E:=E_Int_Int) h rfl
 refine jnS (fun w2=>⟨[(0,lI a0),(1,lI a1),(12,lB w2)],33,[],[],[]⟩) h (fun k2 hk2 h=>?_) (fun w2 h=>?_)<;>conv=>whnf
 ·refine fkS h (fun h=>?_) (fun h=>?_)<;>conv=>whnf
  ·exact jeS hk2 h wR
  exact jeS hk2 h wR
 refine fkS h (fun h=>?_) (fun h=>?_)<;>conv=>whnf
 ·exact rt (E:=E_Int_Int) h rfl
 refine dvS h (fun h=>?_)<;>conv=>whnf
 refine fkS h (fun h=>?_) (fun h=>?_)<;>conv=>whnf
 ·exact rt (E:=E_Int_Int) h rfl
 exact rt (E:=E_Int_Int) h rfl
end Go.Proofs.YtldlcdnhdedoeaaGreat
namespace Go.Proofs.YtldlcdnhdedoeaaGreat
open Go Go.VC
noncomputable def arith_Lcm (a0:Int) (a1:Int):Option (Int×Int):=
 jn (fun (w1:Bool)=>fk w1 (some ((0:Int),(1:Int))) (bnd (arith_Gcd a0 a1) fun x2=>fk (!decide (x2.2=(0:Int))) (some ((0:Int),x2.2)) (ck (decide (x2.1≠0)) (bnd (arith_Mul (wr (a0.tdiv x2.1)) a1) fun x3=>some (x3.1,x3.2))))) (fun k1=>fk (decide (a0<(1:Int))) (k1 true) (k1 (decide (a1<(1:Int)))))
theorem arith_Lcm_w (a0:Int) (a1:Int) (r:Int×Int) (h:arith_Lcm a0 a1=some r):Go.VC.Spec Tryz.prog 164 [.d (.int .i64 a0),.d (.int .i64 a1)] (fun y=>y=E_Int_Int r):=by
 refine Spec.of_xc (fn:=Tryz.f164) tab ⟨[(0,[0,1]),(1,[0,1,13]),(2,[4,5]),(3,[0,1,6,7]),(4,[0,1,6,7,21]),(5,[4,5]),(6,[4,5])],[],[100013],[]⟩ 30 [.tmp 4,.tmp 5] rfl rfl rfl rfl rfl rfl ?_<;>conv=>whnf
 refine jnS (fun w1=>⟨[(0,lI a0),(1,lI a1),(13,lB w1)],30,[],[],[]⟩) h (fun k1 hk1 h=>?_) (fun w1 h=>?_)<;>conv=>whnf
 ·refine fkS h (fun h=>?_) (fun h=>?_)<;>conv=>whnf
  ·exact jeS hk1 h wR
  exact jeS hk1 h wR
 refine fkS h (fun h=>?_) (fun h=>?_)<;>conv=>whnf
 ·exact rt (E:=E_Int_Int) h rfl
 refine caS (E:=E_Int_Int) h (arith_Gcd_w a0 a1) rfl (fun _=>rfl) (fun x2 h=>?_)<;>conv=>whnf
 refine fkS h (fun h=>?_) (fun h=>?_)<;>conv=>whnf
 ·exact rt (E:=E_Int_Int) h rfl
 refine dvS h (fun h=>?_)<;>conv=>whnf
 refine caS (E:=E_Int_Int) h (arith_Mul_w (wr (a0.tdiv x2.1)) a1) rfl (fun _=>rfl) (fun x3 h=>?_)<;>conv=>whnf
 exact rt (E:=E_Int_Int) h rfl
end Go.Proofs.YtldlcdnhdedoeaaGreat
namespace Go.Proofs.YtldlcdnhdedoeaaGreat
open Go Go.VC
noncomputable def verdict_Cycle (a0:List Task) (a1:Face):Option (Int×Int×Int):=
 jn (fun (w1:Bool)=>fk w1 (some ((0:Int),(0:Int),(1:Int))) (lp (fun nx4 (v4:Int×Int×Int)=>fk (decide (v4.2.2<(a0.length:Int))) (ix a0 v4.2.2 fun x5=>bnd (arith_Lcm v4.1 x5.T) fun x6=>jn (fun (w7:Bool)=>fk w7 (some ((0:Int),(0:Int),(5:Int))) (nx4 (x6.1,(if x5.D>v4.2.1 then x5.D else v4.2.1),(wr (v4.2.2+(1:Int)))))) (fun k7=>fk (!decide (x6.2=(0:Int))) (k7 true) (k7 (decide (x6.1>(3000:Int)))))) (fk (decide ((wr (v4.1+v4.2.1))>(3000:Int))) (some ((0:Int),(0:Int),(5:Int))) (some (v4.1,(wr (v4.1+v4.2.1)),(0:Int))))) FU (a1.P,(wr ((2:Int)*a1.P)),(0:Int)))) (fun k1=>bnd (task_All a0) fun x2=>fk (!x2) (k1 true) (bnd (supply_Right a1) fun x3=>k1 (!x3)))
theorem verdict_Cycle_w (a0:List Task) (a1:Face) (r:Int×Int×Int) (h:verdict_Cycle a0 a1=some r):Go.VC.Spec Tryz.prog 159 [.d (.sl (a0.map Task.enc)),.agg (Face.enc a1)] (fun y=>y=E_Int_Int_Int r):=by
 refine Spec.of_xc (fn:=Tryz.f159) tab ⟨[(0,[0,3]),(1,[0,3,20]),(2,[4,5,6]),(3,[0,7,8]),(4,[7,8,26,27,28]),(5,[7,8,26,27,28,29]),(6,[7,8,10,26,27,28]),(7,[8,10,11,12,26,27,28]),(8,[8,10,11,26,27,28,44]),(9,[4,5,6]),(10,[7,8,26,27,28]),(11,[7,8,26,27,28]),(12,[7,8,54]),(13,[4,5,6]),(14,[4,5,6])],[],[100020,100044],[]⟩ 59 [.tmp 4,.tmp 5,.tmp 6] rfl rfl rfl rfl rfl rfl ?_<;>conv=>whnf
 refine jnS (fun w1=>⟨[(0,.l (.d (.sl (a0.map Task.enc)))),(3,.l (.ptr 4 0)),(20,lB w1)],59,[],[(4,[dI a1.P,dI a1.B])],[]⟩) h (fun k1 hk1 h=>?_) (fun w1 h=>?_)<;>conv=>whnf
 ·refine caS (E:=E_Bool) h (task_All_w a0) rfl (fun _=>rfl) (fun x2 h=>?_)<;>conv=>whnf
  refine fkS h (fun h=>?_) (fun h=>?_)<;>conv=>whnf
  ·exact jeS hk1 h wR
  refine caS (E:=E_Bool) h (supply_Right_w a1) rfl (fun _=>rfl) (fun x3 h=>?_)<;>conv=>whnf
  exact jeS hk1 h wR
 refine fkS h (fun h=>?_) (fun h=>?_)<;>conv=>whnf
 ·exact rt (E:=E_Int_Int_Int) h rfl
 refine⟨6,?_⟩
 conv=>whnf
 refine drS (by kernel_rfl) ?_<;>conv=>whnf
 refine lenS a0 Task.enc rfl ?_<;>conv=>whnf
 refine lpS (fun v4=>⟨[(7,lI v4.1),(8,lI v4.2.1),(26,.l (.d (.sl (a0.map Task.enc)))),(27,lI (a0.length:Int)),(28,lI v4.2.2)],59,[],[],[]⟩) h wR (fun _ nx4 hn4 v4 h=>?_)<;>conv=>whnf
 refine fkS h (fun h=>?_) (fun h=>?_)<;>conv=>whnf
 ·refine ixS (enc:=Task.enc) h rfl (fun _=>rfl) (fun x5 h=>?_)<;>conv=>whnf
  refine caS (E:=E_Int_Int) h (arith_Lcm_w v4.1 x5.T) rfl (fun _=>rfl) (fun x6 h=>?_)<;>conv=>whnf
  refine jnS (fun w7=>⟨[(8,lI v4.2.1),(10,.l (.ptr 11 0)),(11,lI x6.1),(26,.l (.d (.sl (a0.map Task.enc)))),(27,lI (a0.length:Int)),(28,lI v4.2.2),(44,lB w7)],59,[],[(11,[dI x5.C,dI x5.D,dI x5.T,.d (.sl (x5.Secs.map Sec.enc))])],[]⟩) h (fun k7 hk7 h=>?_) (fun w7 h=>?_)<;>conv=>whnf
  ·refine fkS h (fun h=>?_) (fun h=>?_)<;>conv=>whnf
   ·exact jeS hk7 h wR
   exact jeS hk7 h wR
  refine fkS h (fun h=>?_) (fun h=>?_)<;>conv=>whnf
  ·exact rt (E:=E_Int_Int_Int) h rfl
  refine⟨6,?_⟩
  conv=>whnf
  refine drS (by kernel_rfl) ?_<;>conv=>whnf
  exact leS hn4 h wR
 refine fkS h (fun h=>?_) (fun h=>?_)<;>conv=>whnf
 ·exact rt (E:=E_Int_Int_Int) h rfl
 exact rt (E:=E_Int_Int_Int) h rfl
end Go.Proofs.YtldlcdnhdedoeaaGreat
namespace Go.Proofs.YtldlcdnhdedoeaaGreat
open Go Go.VC
noncomputable def arith_Floor (a0:Int) (a1:Int):Option (Int×Int):=
 jn (fun (w1:Bool)=>fk w1 (some ((0:Int),(1:Int))) (ck (decide (a1≠0)) (ck (decide (a1≠0)) (fk (decide ((a0.tmod a1)<(0:Int))) (some ((wr ((wr (a0.tdiv a1))-(1:Int))),(0:Int))) (some ((wr (a0.tdiv a1)),(0:Int))))))) (fun k1=>bnd (arith_may ([a0,a1]:List Int)) fun x2=>fk (!x2) (k1 true) (k1 (decide (a1<(1:Int)))))
theorem arith_Floor_w (a0:Int) (a1:Int) (r:Int×Int) (h:arith_Floor a0 a1=some r):Go.VC.Spec Tryz.prog 199 [.d (.int .i64 a0),.d (.int .i64 a1)] (fun y=>y=E_Int_Int r):=by
 refine Spec.of_xc (fn:=Tryz.f199) tab ⟨[(0,[0,1]),(1,[0,1,15]),(2,[4,5]),(3,[0,1,6]),(4,[6,22]),(5,[6]),(6,[4,5])],[],[100015],[]⟩ 26 [.tmp 4,.tmp 5] rfl rfl rfl rfl rfl rfl ?_<;>conv=>whnf
 refine jnS (fun w1=>⟨[(0,lI a0),(1,lI a1),(15,lB w1)],26,[],[],[]⟩) h (fun k1 hk1 h=>?_) (fun w1 h=>?_)<;>conv=>whnf
 ·refine liS ([a0,a1]:List Int) (eI .i64) rfl rfl ?_<;>conv=>whnf
  refine caS (E:=E_Bool) h (arith_may_w ([a0,a1]:List Int)) rfl (fun _=>rfl) (fun x2 h=>?_)<;>conv=>whnf
  refine fkS h (fun h=>?_) (fun h=>?_)<;>conv=>whnf
  ·exact jeS hk1 h wR
  exact jeS hk1 h wR
 refine fkS h (fun h=>?_) (fun h=>?_)<;>conv=>whnf
 ·exact rt (E:=E_Int_Int) h rfl
 refine dvS h (fun h=>?_)<;>conv=>whnf
 refine dvS h (fun h=>?_)<;>conv=>whnf
 refine fkS h (fun h=>?_) (fun h=>?_)<;>conv=>whnf
 ·exact rt (E:=E_Int_Int) h rfl
 exact rt (E:=E_Int_Int) h rfl
end Go.Proofs.YtldlcdnhdedoeaaGreat
namespace Go.Proofs.YtldlcdnhdedoeaaGreat
open Go Go.VC
noncomputable def demand_jobs (a0:Task) (a1:Int):Option Int:=
 fk (decide (a1<a0.D)) (some (0:Int)) (bnd (arith_Floor (wr (a1-a0.D)) a0.T) fun x1=>some (wr (x1.1+(1:Int))))
theorem demand_jobs_w (a0:Task) (a1:Int) (r:Int) (h:demand_jobs a0 a1=some r):Go.VC.Spec Tryz.prog 193 [.agg (Task.enc a0),.d (.int .i64 a1)] (fun y=>y=E_Int r):=by
 refine Spec.of_xc (fn:=Tryz.f193) tab ⟨[(0,[1,2]),(1,[1,2,10]),(2,[4]),(3,[5]),(4,[4])],[],[],[]⟩ 23 [.tmp 4] rfl rfl rfl rfl rfl rfl ?_<;>conv=>whnf
 refine fkS h (fun h=>?_) (fun h=>?_)<;>conv=>whnf
 ·exact rt (E:=E_Int) h rfl
 refine caS (E:=E_Int_Int) h (arith_Floor_w (wr (a1-a0.D)) a0.T) rfl (fun _=>rfl) (fun x1 h=>?_)<;>conv=>whnf
 exact rt (E:=E_Int) h rfl
end Go.Proofs.YtldlcdnhdedoeaaGreat
namespace Go.Proofs.YtldlcdnhdedoeaaGreat
open Go Go.VC
noncomputable def arith_Add (a0:Int) (a1:Int):Option (Int×Int):=
 bnd (arith_may ([a0,a1]:List Int)) fun x1=>fk (!x1) (some ((0:Int),(1:Int))) (bnd (arith_may ([(wr (a0+a1))]:List Int)) fun x2=>fk (!x2) (some ((0:Int),(5:Int))) (some ((wr (a0+a1)),(0:Int))))
theorem arith_Add_w (a0:Int) (a1:Int) (r:Int×Int) (h:arith_Add a0 a1=some r):Go.VC.Spec Tryz.prog 186 [.d (.int .i64 a0),.d (.int .i64 a1)] (fun y=>y=E_Int_Int r):=by
 refine Spec.of_xc (fn:=Tryz.f186) tab ⟨[(0,[0,1]),(1,[0,1,6]),(2,[4,5]),(3,[0,1,12]),(4,[4,5]),(5,[4,5])],[],[],[]⟩ 22 [.tmp 4,.tmp 5] rfl rfl rfl rfl rfl rfl ?_<;>conv=>whnf
 refine liS ([a0,a1]:List Int) (eI .i64) rfl rfl ?_<;>conv=>whnf
 refine caS (E:=E_Bool) h (arith_may_w ([a0,a1]:List Int)) rfl (fun _=>rfl) (fun x1 h=>?_)<;>conv=>whnf
 refine fkS h (fun h=>?_) (fun h=>?_)<;>conv=>whnf
 ·exact rt (E:=E_Int_Int) h rfl
 refine liS ([(wr (a0+a1))]:List Int) (eI .i64) rfl rfl ?_<;>conv=>whnf
 refine caS (E:=E_Bool) h (arith_may_w ([(wr (a0+a1))]:List Int)) rfl (fun _=>rfl) (fun x2 h=>?_)<;>conv=>whnf
 refine fkS h (fun h=>?_) (fun h=>?_)<;>conv=>whnf
 ·exact rt (E:=E_Int_Int) h rfl
 exact rt (E:=E_Int_Int) h rfl
end Go.Proofs.YtldlcdnhdedoeaaGreat
namespace Go.Proofs.YtldlcdnhdedoeaaGreat
open Go Go.VC
noncomputable def demand_Bound (a0:List Task) (a1:Int):Option (Int×Int):=
 jn (fun (w1:Bool)=>fk w1 (some ((0:Int),(1:Int))) (lp (fun nx3 (v3:Int×Int×Int)=>fk (decide (v3.2.2<(a0.length:Int))) (ix a0 v3.2.2 fun x4=>bnd (demand_jobs x4 a1) fun x5=>bnd (arith_Mul x4.C x5) fun x6=>bnd (arith_Add v3.1 x6.1) fun x7=>jn (fun (w8:Bool)=>fk w8 (nx3 (v3.1,(5:Int),(wr (v3.2.2+(1:Int))))) (nx3 (x7.1,v3.2.1,(wr (v3.2.2+(1:Int)))))) (fun k8=>fk (!decide (x6.2=(0:Int))) (k8 true) (k8 (!decide (x7.2=(0:Int)))))) (fk (!decide (v3.2.1=(0:Int))) (some ((0:Int),v3.2.1)) (some (v3.1,(0:Int))))) FU ((0:Int),(0:Int),(0:Int)))) (fun k1=>bnd (task_All a0) fun x2=>fk (!x2) (k1 true) (fk (decide (a1<(0:Int))) (k1 true) (k1 (decide (a1>(4611686018427387903:Int))))))
theorem demand_Bound_w (a0:List Task) (a1:Int) (r:Int×Int) (h:demand_Bound a0 a1=some r):Go.VC.Spec Tryz.prog 184 [.d (.sl (a0.map Task.enc)),.d (.int .i64 a1)] (fun y=>y=E_Int_Int r):=by
 refine Spec.of_xc (fn:=Tryz.f184) tab ⟨[(0,[0,1]),(1,[0,1,21]),(2,[4,5]),(3,[0,1,6,7]),(4,[0,1,6,7,8]),(5,[1,6,7,8,23,24,25]),(6,[1,6,7,8,23,24,25,26]),(7,[1,6,7,8,10,23,24,25]),(8,[1,6,7,8,23,24,25]),(9,[1,6,7,8,23,24,25]),(10,[6,7,38]),(11,[4,5]),(12,[4,5])],[],[100021],[]⟩ 41 [.tmp 4,.tmp 5] rfl rfl rfl rfl rfl rfl ?_<;>conv=>whnf
 refine jnS (fun w1=>⟨[(0,.l (.d (.sl (a0.map Task.enc)))),(1,lI a1),(21,lB w1)],41,[],[],[]⟩) h (fun k1 hk1 h=>?_) (fun w1 h=>?_)<;>conv=>whnf
 ·refine caS (E:=E_Bool) h (task_All_w a0) rfl (fun _=>rfl) (fun x2 h=>?_)<;>conv=>whnf
  refine fkS h (fun h=>?_) (fun h=>?_)<;>conv=>whnf
  ·exact jeS hk1 h wR
  refine fkS h (fun h=>?_) (fun h=>?_)<;>conv=>whnf
  ·exact jeS hk1 h wR
  exact jeS hk1 h wR
 refine fkS h (fun h=>?_) (fun h=>?_)<;>conv=>whnf
 ·exact rt (E:=E_Int_Int) h rfl
 refine lenS a0 Task.enc rfl ?_<;>conv=>whnf
 refine lpS (fun v3=>⟨[(1,lI a1),(6,.l (.ptr 7 0)),(7,.l (.ptr 8 0)),(8,.l (.func 192 [.k 7,.k 8])),(23,.l (.d (.sl (a0.map Task.enc)))),(24,lI (a0.length:Int)),(25,lI v3.2.2)],41,[],[(7,[dI v3.1]),(8,[dI v3.2.1])],[]⟩) h wR (fun _ nx3 hn3 v3 h=>?_)<;>conv=>whnf
 refine fkS h (fun h=>?_) (fun h=>?_)<;>conv=>whnf
 ·refine ixS (enc:=Task.enc) h rfl (fun _=>rfl) (fun x4 h=>?_)<;>conv=>whnf
  refine⟨6,?_⟩
  conv=>whnf
  refine daS (E:=E_Int) h (demand_jobs_w x4 a1) (fun _=>rfl) (fun x5 h=>?_)<;>conv=>whnf
  refine drS (by kernel_rfl) ?_<;>conv=>whnf
  refine inS (fn:=Tryz.f192) tab ⟨[(0,[2,3,6,7]),(1,[2,3,7,8,9]),(2,[2,3,8,27]),(3,[]),(4,[])],[],[100027],[]⟩ 29 [] rfl rfl rfl rfl rfl rfl ?_<;>conv=>whnf
  refine caS (E:=E_Int_Int) h (arith_Mul_w x4.C x5) rfl (fun _=>rfl) (fun x6 h=>?_)<;>conv=>whnf
  refine caS (E:=E_Int_Int) h (arith_Add_w v3.1 x6.1) rfl (fun _=>rfl) (fun x7 h=>?_)<;>conv=>whnf
  refine jnS (fun w8=>⟨[(2,.l (.ptr 7 0)),(3,.l (.ptr 8 0)),(8,lI x7.1),(27,lB w8)],29,[⟨[(34,lI x5),(33,lI a1),(32,.agg [dI x4.C,dI x4.D,dI x4.T,.d (.sl (x4.Secs.map Sec.enc))]),(31,lI x4.C),(30,.l (.ptr 11 0)),(29,.l (.func 192 [.k 7,.k 8])),(1,lI a1),(6,.l (.ptr 7 0)),(7,.l (.ptr 8 0)),(8,.l (.func 192 [.k 7,.k 8])),(10,.l (.ptr 11 0)),(23,.l (.d (.sl (a0.map Task.enc)))),(24,lI (a0.length:Int)),(25,lI v3.2.2)],41⟩],[(7,[dI v3.1]),(8,[dI v3.2.1]),(11,[dI x4.C,dI x4.D,dI x4.T,.d (.sl (x4.Secs.map Sec.enc))])],[]⟩) h (fun k8 hk8 h=>?_) (fun w8 h=>?_)<;>conv=>whnf
  ·refine fkS h (fun h=>?_) (fun h=>?_)<;>conv=>whnf
   ·exact jeS hk8 h wR
   exact jeS hk8 h wR
  refine fkS h (fun h=>?_) (fun h=>?_)<;>conv=>whnf
  ·exact leS hn3 h wR
  exact leS hn3 h wR
 refine fkS h (fun h=>?_) (fun h=>?_)<;>conv=>whnf
 ·refine⟨2,?_⟩
  conv=>whnf
  refine drS (by kernel_rfl) ?_<;>conv=>whnf
  exact rt (E:=E_Int_Int) h rfl
 exact rt (E:=E_Int_Int) h rfl
end Go.Proofs.YtldlcdnhdedoeaaGreat
namespace Go.Proofs.YtldlcdnhdedoeaaGreat
open Go Go.VC
noncomputable def task_Uses (a0:Task) (a1:Int):Option Bool:=
 bnd (task_Right a0) fun x1=>fk (!x1) (some false) (lp (fun nx2 (v2:Int)=>fk (decide (v2<(a0.Secs.length:Int))) (ix a0.Secs v2 fun x3=>fk (decide (x3.Res=a1)) (some true) (nx2 (wr (v2+(1:Int))))) (some false)) FU (0:Int))
theorem task_Uses_w (a0:Task) (a1:Int) (r:Bool) (h:task_Uses a0 a1=some r):Go.VC.Spec Tryz.prog 198 [.agg (Task.enc a0),.d (.int .i64 a1)] (fun y=>y=E_Bool r):=by
 refine Spec.of_xc (fn:=Tryz.f198) tab ⟨[(0,[1,2]),(1,[1,2,9]),(2,[4]),(3,[1,11,12,13]),(4,[1,11,12,13,14]),(5,[1,6,11,12,13]),(6,[1,11,12,13,20]),(7,[4]),(8,[1,11,12,13]),(9,[4])],[],[],[]⟩ 22 [.tmp 4] rfl rfl rfl rfl rfl rfl ?_<;>conv=>whnf
 refine caS (E:=E_Bool) h (task_Right_w a0) rfl (fun _=>rfl) (fun x1 h=>?_)<;>conv=>whnf
 refine fkS h (fun h=>?_) (fun h=>?_)<;>conv=>whnf
 ·exact rt (E:=E_Bool) h rfl
 refine lenS a0.Secs Sec.enc rfl ?_<;>conv=>whnf
 refine lpS (fun v2=>⟨[(1,lI a1),(11,.l (.d (.sl (a0.Secs.map Sec.enc)))),(12,lI (a0.Secs.length:Int)),(13,lI v2)],22,[],[],[]⟩) h wR (fun _ nx2 hn2 v2 h=>?_)<;>conv=>whnf
 refine fkS h (fun h=>?_) (fun h=>?_)<;>conv=>whnf
 ·refine ixS (enc:=Sec.enc) h rfl (fun _=>rfl) (fun x3 h=>?_)<;>conv=>whnf
  refine fkS h (fun h=>?_) (fun h=>?_)<;>conv=>whnf
  ·exact rt (E:=E_Bool) h rfl
  exact leS hn2 h wR
 exact rt (E:=E_Bool) h rfl
end Go.Proofs.YtldlcdnhdedoeaaGreat
namespace Go.Proofs.YtldlcdnhdedoeaaGreat
open Go Go.VC
noncomputable def block_shared (a0:List Task) (a1:Int) (a2:Int):Option Bool:=
 lp (fun nx1 (v1:Int)=>fk (decide (v1<(a0.length:Int))) (ix a0 v1 fun x2=>jn (fun (w3:Bool)=>fk w3 (some true) (nx1 (wr (v1+(1:Int))))) (fun k3=>fk (decide (x2.D≤a1)) (bnd (task_Uses x2 a2) fun x4=>k3 x4) (k3 false))) (some false)) FU (0:Int)
theorem block_shared_w (a0:List Task) (a1:Int) (a2:Int) (r:Bool) (h:block_shared a0 a1 a2=some r):Go.VC.Spec Tryz.prog 195 [.d (.sl (a0.map Task.enc)),.d (.int .i64 a1),.d (.int .i64 a2)] (fun y=>y=E_Bool r):=by
 refine Spec.of_xc (fn:=Tryz.f195) tab ⟨[(0,[0,1,2]),(1,[1,2,9,10,11]),(2,[1,2,9,10,11,12]),(3,[1,2,8,9,10,11]),(4,[1,2,9,10,11,23]),(5,[6]),(6,[1,2,9,10,11]),(7,[6])],[],[100023],[]⟩ 25 [.tmp 6] rfl rfl rfl rfl rfl rfl ?_<;>conv=>whnf
 refine lenS a0 Task.enc rfl ?_<;>conv=>whnf
 refine lpS (fun v1=>⟨[(1,lI a1),(2,lI a2),(9,.l (.d (.sl (a0.map Task.enc)))),(10,lI (a0.length:Int)),(11,lI v1)],25,[],[],[]⟩) h wR (fun _ nx1 hn1 v1 h=>?_)<;>conv=>whnf
 refine fkS h (fun h=>?_) (fun h=>?_)<;>conv=>whnf
 ·refine ixS (enc:=Task.enc) h rfl (fun _=>rfl) (fun x2 h=>?_)<;>conv=>whnf
  refine jnS (fun w3=>⟨[(1,lI a1),(2,lI a2),(9,.l (.d (.sl (a0.map Task.enc)))),(10,lI (a0.length:Int)),(11,lI v1),(23,lB w3)],25,[],[],[]⟩) h (fun k3 hk3 h=>?_) (fun w3 h=>?_)<;>conv=>whnf
  ·refine fkS h (fun h=>?_) (fun h=>?_)<;>conv=>whnf
   ·refine caS (E:=E_Bool) h (task_Uses_w x2 a2) rfl (fun _=>rfl) (fun x4 h=>?_)<;>conv=>whnf
    exact jeS hk3 h wR
   exact jeS hk3 h wR
  refine fkS h (fun h=>?_) (fun h=>?_)<;>conv=>whnf
  ·exact rt (E:=E_Bool) h rfl
  exact leS hn1 h wR
 exact rt (E:=E_Bool) h rfl
end Go.Proofs.YtldlcdnhdedoeaaGreat
namespace Go.Proofs.YtldlcdnhdedoeaaGreat
open Go Go.VC
noncomputable def block_Of (a0:List Task) (a1:Int):Option (Int×Int):=
 bnd (task_All a0) fun x1=>fk (!x1) (some ((0:Int),(1:Int))) (lp (fun nx2 (v2:Int×Int)=>fk (decide (v2.2<(a0.length:Int))) (jn (fun (w3:Int)=>nx2 (w3,(wr (v2.2+(1:Int))))) (fun k3=>ix a0 v2.2 fun x4=>fk (decide (x4.D≤a1)) (k3 v2.1) (lp (fun nx5 (v5:Int×Int)=>fk (decide (v5.2<(x4.Secs.length:Int))) (ix x4.Secs v5.2 fun x6=>jn (fun (w7:Bool)=>fk w7 (nx5 (x6.Len,(wr (v5.2+(1:Int))))) (nx5 (v5.1,(wr (v5.2+(1:Int)))))) (fun k7=>fk (decide (x6.Len>v5.1)) (bnd (block_shared a0 a1 x6.Res) fun x8=>k7 x8) (k7 false))) (k3 v5.1)) FU (v2.1,(0:Int))))) (some (v2.1,(0:Int)))) FU ((0:Int),(0:Int)))
theorem block_Of_w (a0:List Task) (a1:Int) (r:Int×Int) (h:block_Of a0 a1=some r):Go.VC.Spec Tryz.prog 185 [.d (.sl (a0.map Task.enc)),.d (.int .i64 a1)] (fun y=>y=E_Int_Int r):=by
 refine Spec.of_xc (fn:=Tryz.f185) tab ⟨[(0,[2,3]),(1,[2,3,14]),(2,[4,5]),(3,[2,3,6]),(4,[2,3,6,7]),(5,[3,6,7,16,17,18]),(6,[3,6,7,16,17,18,19]),(7,[3,6,7,9,16,17,18]),(8,[3,6,7,9,16,17,18,25]),(9,[3,6,7,16,17,18,27,28,29]),(10,[3,6,7,16,17,18,27,28,29,30]),(11,[3,6,7,11,16,17,18,27,28,29]),(12,[3,6,7,16,17,18,27,28,29]),(13,[3,6,7,16,17,18,27,28,29]),(14,[3,6,7,16,17,18]),(15,[4,5])],[],[14],[]⟩ 39 [.tmp 4,.tmp 5] rfl rfl rfl rfl rfl rfl ?_<;>conv=>whnf
 refine caS (E:=E_Bool) h (task_All_w a0) rfl (fun _=>rfl) (fun x1 h=>?_)<;>conv=>whnf
 refine fkS h (fun h=>?_) (fun h=>?_)<;>conv=>whnf
 ·exact rt (E:=E_Int_Int) h rfl
 refine lenS a0 Task.enc rfl ?_<;>conv=>whnf
 refine lpS (fun v2=>⟨[(3,.l (.ptr 4 0)),(6,.l (.ptr 7 0)),(7,.l (.func 194 [.k 7,.k 3,.k 4])),(16,.l (.d (.sl (a0.map Task.enc)))),(17,lI (a0.length:Int)),(18,lI v2.2)],39,[],[(3,[.d (.sl (a0.map Task.enc))]),(4,[dI a1]),(7,[dI v2.1])],[]⟩) h wR (fun _ nx2 hn2 v2 h=>?_)<;>conv=>whnf
 refine fkS h (fun h=>?_) (fun h=>?_)<;>conv=>whnf
 ·refine jnS (fun w3=>⟨[(3,.l (.ptr 4 0)),(6,.l (.ptr 7 0)),(7,.l (.func 194 [.k 7,.k 3,.k 4])),(16,.l (.d (.sl (a0.map Task.enc)))),(17,lI (a0.length:Int)),(18,lI v2.2)],39,[],[(3,[.d (.sl (a0.map Task.enc))]),(4,[dI a1]),(7,[dI w3])],[]⟩) h (fun k3 hk3 h=>?_) (fun w3 h=>?_)<;>conv=>whnf
  ·refine ixS (enc:=Task.enc) h rfl (fun _=>rfl) (fun x4 h=>?_)<;>conv=>whnf
   refine fkS h (fun h=>?_) (fun h=>?_)<;>conv=>whnf
   ·refine jeX hk3 h ?_<;>conv=>whnf
    refine WkF.step (Weak.keepS _ [3,6,7,16,17,18]) ?_<;>conv=>whnf
    exact WkF.refl _
   refine lenS x4.Secs Sec.enc rfl ?_<;>conv=>whnf
   refine lpS (fun v5=>⟨[(3,.l (.ptr 4 0)),(6,.l (.ptr 7 0)),(7,.l (.func 194 [.k 7,.k 3,.k 4])),(16,.l (.d (.sl (a0.map Task.enc)))),(17,lI (a0.length:Int)),(18,lI v2.2),(27,.l (.d (.sl (x4.Secs.map Sec.enc)))),(28,lI (x4.Secs.length:Int)),(29,lI v5.2)],39,[],[(3,[.d (.sl (a0.map Task.enc))]),(4,[dI a1]),(7,[dI v5.1])],[]⟩) h wR (fun _ nx5 hn5 v5 h=>?_)<;>conv=>whnf
   refine fkS h (fun h=>?_) (fun h=>?_)<;>conv=>whnf
   ·refine ixS (enc:=Sec.enc) h rfl (fun _=>rfl) (fun x6 h=>?_)<;>conv=>whnf
    refine inS (fn:=Tryz.f194) tab ⟨[(0,[1,2,3,4]),(1,[1,4,15]),(2,[])],[],[100015],[]⟩ 18 [] rfl rfl rfl rfl rfl rfl ?_<;>conv=>whnf
    refine jnS (fun w7=>⟨[(1,.l (.ptr 7 0)),(4,.l (.ptr 1005 0)),(15,lB w7)],18,[⟨[(34,.agg [dI x6.Res,dI x6.At,dI x6.Len]),(33,.l (.func 194 [.k 7,.k 3,.k 4])),(3,.l (.ptr 4 0)),(6,.l (.ptr 7 0)),(7,.l (.func 194 [.k 7,.k 3,.k 4])),(11,.l (.ptr 12 0)),(16,.l (.d (.sl (a0.map Task.enc)))),(17,lI (a0.length:Int)),(18,lI v2.2),(27,.l (.d (.sl (x4.Secs.map Sec.enc)))),(28,lI (x4.Secs.length:Int)),(29,lI v5.2)],39⟩],[(3,[.d (.sl (a0.map Task.enc))]),(4,[dI a1]),(7,[dI v5.1]),(12,[dI x6.Res,dI x6.At,dI x6.Len]),(1005,[dI x6.Res,dI x6.At,dI x6.Len])],[]⟩) h (fun k7 hk7 h=>?_) (fun w7 h=>?_)<;>conv=>whnf
    ·refine fkS h (fun h=>?_) (fun h=>?_)<;>conv=>whnf
     ·refine caS (E:=E_Bool) h (block_shared_w a0 a1 x6.Res) rfl (fun _=>rfl) (fun x8 h=>?_)<;>conv=>whnf
      exact jeS hk7 h wR
     exact jeS hk7 h wR
    refine fkS h (fun h=>?_) (fun h=>?_)<;>conv=>whnf
    ·exact leS hn5 h wR
    exact leS hn5 h wR
   refine jeX hk3 h ?_<;>conv=>whnf
   refine WkF.step (Weak.keepS _ [3,6,7,16,17,18]) ?_<;>conv=>whnf
   exact WkF.refl _
  exact leS hn2 h wR
 exact rt (E:=E_Int_Int) h rfl
end Go.Proofs.YtldlcdnhdedoeaaGreat
namespace Go.Proofs.YtldlcdnhdedoeaaGreat
open Go Go.VC
noncomputable def verdict_Need (a0:List Task) (a1:Int):Option (Int×Int):=
 bnd (demand_Bound a0 a1) fun x1=>fk (!decide (x1.2=(0:Int))) (some ((0:Int),x1.2)) (bnd (block_Of a0 a1) fun x2=>bnd (arith_Add x1.1 x2.1) fun x3=>some (x3.1,x3.2))
theorem verdict_Need_w (a0:List Task) (a1:Int) (r:Int×Int) (h:verdict_Need a0 a1=some r):Go.VC.Spec Tryz.prog 175 [.d (.sl (a0.map Task.enc)),.d (.int .i64 a1)] (fun y=>y=E_Int_Int r):=by
 refine Spec.of_xc (fn:=Tryz.f175) tab ⟨[(0,[0,1]),(1,[0,1,6,7]),(2,[0,1,6,7,17]),(3,[4,5]),(4,[6,8]),(5,[4,5])],[],[],[]⟩ 30 [.tmp 4,.tmp 5] rfl rfl rfl rfl rfl rfl ?_<;>conv=>whnf
 refine caS (E:=E_Int_Int) h (demand_Bound_w a0 a1) rfl (fun _=>rfl) (fun x1 h=>?_)<;>conv=>whnf
 refine fkS h (fun h=>?_) (fun h=>?_)<;>conv=>whnf
 ·exact rt (E:=E_Int_Int) h rfl
 refine caS (E:=E_Int_Int) h (block_Of_w a0 a1) rfl (fun _=>rfl) (fun x2 h=>?_)<;>conv=>whnf
 refine caS (E:=E_Int_Int) h (arith_Add_w x1.1 x2.1) rfl (fun _=>rfl) (fun x3 h=>?_)<;>conv=>whnf
 exact rt (E:=E_Int_Int) h rfl
end Go.Proofs.YtldlcdnhdedoeaaGreat
namespace Go.Proofs.YtldlcdnhdedoeaaGreat
open Go Go.VC
noncomputable def supply_Bound (a0:Face) (a1:Int):Option (Int×Int):=
 jn (fun (w1:Bool)=>fk w1 (some ((0:Int),(1:Int))) (fk (decide (a1<(wr (a0.P-a0.B)))) (some ((0:Int),(0:Int))) (ck (decide (a0.P≠0)) (some ((wr ((wr ((wr ((wr (a1-(wr (a0.P-a0.B)))).tdiv a0.P))*a0.B))+(if (wr ((wr (a1-(wr ((2:Int)*(wr (a0.P-a0.B))))))-(wr ((wr ((wr (a1-(wr (a0.P-a0.B)))).tdiv a0.P))*a0.P))))>(0:Int) then (wr ((wr (a1-(wr ((2:Int)*(wr (a0.P-a0.B))))))-(wr ((wr ((wr (a1-(wr (a0.P-a0.B)))).tdiv a0.P))*a0.P)))) else (0:Int)))),(0:Int)))))) (fun k1=>bnd (supply_Right a0) fun x2=>fk (!x2) (k1 true) (fk (decide (a1<(0:Int))) (k1 true) (k1 (decide (a1>(4611686018427387903:Int))))))
theorem supply_Bound_w (a0:Face) (a1:Int) (r:Int×Int) (h:supply_Bound a0 a1=some r):Go.VC.Spec Tryz.prog 176 [.agg (Face.enc a0),.d (.int .i64 a1)] (fun y=>y=E_Int_Int r):=by
 refine Spec.of_xc (fn:=Tryz.f176) tab ⟨[(0,[1,2]),(1,[1,2,18]),(2,[4,5]),(3,[1,2,6]),(4,[1,2,6,26]),(5,[4,5]),(6,[1,2,6,7]),(7,[4,5])],[],[100018],[]⟩ 48 [.tmp 4,.tmp 5] rfl rfl rfl rfl rfl rfl ?_<;>conv=>whnf
 refine jnS (fun w1=>⟨[(1,lI a1),(2,.l (.ptr 3 0)),(18,lB w1)],48,[],[(3,[dI a0.P,dI a0.B])],[]⟩) h (fun k1 hk1 h=>?_) (fun w1 h=>?_)<;>conv=>whnf
 ·refine caS (E:=E_Bool) h (supply_Right_w a0) rfl (fun _=>rfl) (fun x2 h=>?_)<;>conv=>whnf
  refine fkS h (fun h=>?_) (fun h=>?_)<;>conv=>whnf
  ·exact jeS hk1 h wR
  refine fkS h (fun h=>?_) (fun h=>?_)<;>conv=>whnf
  ·exact jeS hk1 h wR
  exact jeS hk1 h wR
 refine fkS h (fun h=>?_) (fun h=>?_)<;>conv=>whnf
 ·exact rt (E:=E_Int_Int) h rfl
 refine fkS h (fun h=>?_) (fun h=>?_)<;>conv=>whnf
 ·exact rt (E:=E_Int_Int) h rfl
 refine dvS h (fun h=>?_)<;>conv=>whnf
 exact rt (E:=E_Int_Int) h rfl
end Go.Proofs.YtldlcdnhdedoeaaGreat
namespace Go.Proofs.YtldlcdnhdedoeaaGreat
open Go Go.VC
noncomputable def verdict_fails (a0:List Task) (a1:Face) (a2:Int):Option (Option Int):=
 lp (fun nx (v:Int)=>fk (decide (v≤a2)) (bnd (verdict_Need a0 v) fun x1=>bnd (supply_Bound a1 v) fun x2=>fk (decide (x1.1>x2.1)) (some (some v)) (nx (wr (v+1)))) (some none)) FU 0
theorem verdict_fails_it (a0:List Task) (a1:Face) (a2:Int) (r:Option Int) (h:verdict_fails a0 a1 a2=some r):ItC Tryz.prog 174 [.dp [.int .i64 a2],.dp [.sl (a0.map Task.enc)],.dp [.int .i64 a1.P,.int .i64 a1.B]] r:=by
 refine ItC.of (fn:=Tryz.f174) rfl rfl rfl rfl rfl (fun w0 p0 l X hy=>?_)
 refine IW.seqx tab ⟨[(0,[0,1,2,3,5]),(1,[0,1,2,3,5,12]),(2,[0,1,2,3,5]),(3,[0,1,2,3,5,6]),(4,[0,1,2,3,5,6,8]),(5,[0,1,2,3,5,35])],[],[],[]⟩ ?_
 refine IW.block ?_
 refine IW.lp (fun v=>⟨[(0,.l (.raw (.func (.yield l) #[] #[]))),(1,.l (.dptr [.int .i64 a2] 0)),(2,.l (.dptr [.sl (a0.map Task.enc)] 0)),(3,.l (.dptr [.int .i64 a1.P,.int .i64 a1.B] 0)),(5,.l (.d (.int .i64 v)))],36,[],[],[]⟩) h wR (fun _ nx hn v h=>?_)
 refine IW.seqx tab ⟨[(0,[0,1,2,3,5]),(1,[0,1,2,3,5,12]),(2,[0,1,2,3,5]),(3,[0,1,2,3,5,6]),(4,[0,1,2,3,5,6,8]),(5,[0,1,2,3,5,35])],[],[],[]⟩ ?_
 refine fkS h (fun h=>?_) (fun h=>?_)
 ·refine IW.seq (IW.block ?_)
  refine IW.seqx tab ⟨[(0,[0,1,2,3,5]),(1,[0,1,2,3,5,12]),(2,[0,1,2,3,5]),(3,[0,1,2,3,5,6]),(4,[0,1,2,3,5,6,8]),(5,[0,1,2,3,5,35])],[],[],[]⟩ ?_
  refine caS (E:=E_Int_Int) h (verdict_Need_w a0 v) rfl (fun _=>rfl) (fun x1 h=>?_)
  refine IW.seqx tab ⟨[(0,[0,1,2,3,5]),(1,[0,1,2,3,5,12]),(2,[0,1,2,3,5]),(3,[0,1,2,3,5,6]),(4,[0,1,2,3,5,6,8]),(5,[0,1,2,3,5,35])],[],[],[]⟩ ?_
  refine caS (E:=E_Int_Int) h (supply_Bound_w a1 v) rfl (fun _=>rfl) (fun x2 h=>?_)
  refine IW.yield tab (l:=l) (r0:=0) (r5:=5) (r6:=6) (r8:=8) (nd:=x1.1) (hv:=x2.1) (t:=v) rfl rfl rfl rfl rfl rfl rfl rfl rfl rfl rfl rfl rfl rfl rfl rfl rfl rfl rfl rfl rfl rfl rfl rfl rfl rfl rfl (Nat.le_of_ble_eq_true rfl) (Nat.le_of_ble_eq_true rfl) (Nat.le_of_ble_eq_true rfl) (Nat.le_of_ble_eq_true rfl) (Nat.le_of_ble_eq_true rfl) (Nat.le_of_ble_eq_true rfl) (Nat.le_of_ble_eq_true rfl) (Nat.le_of_ble_eq_true rfl) (Nat.le_of_ble_eq_true rfl) (by decide) (by decide) (by decide) (by decide) (by decide) (by decide) (by decide) (by decide) (by decide) (by decide) (by decide) (by decide) (by decide) (by decide) (by decide) (by decide) rfl rfl rfl rfl (fun hg W1 hW=>?_) (fun hg=>?_) (fun hg=>?_)
  ·rw[decide_eq_true hg] at h; exact hy v W1 (Option.some.inj h).symm hW
  ·rw[decide_eq_true hg] at h; rw[←Option.some.inj h]; rfl
  ·rw[decide_eq_false hg] at h
   refine IW.of_xc tab ⟨[(0,[0,1,2,3,5]),(1,[0,1,2,3,5,12]),(2,[0,1,2,3,5]),(3,[0,1,2,3,5,6]),(4,[0,1,2,3,5,6,8]),(5,[0,1,2,3,5,35])],[],[],[]⟩ ?_
   exact leS hn h wR
 ·exact (Option.some.inj h).symm
noncomputable def verdict_First (a0:List Task) (a1:Face):Option (Int×Bool×Int):=
 bnd (verdict_Cycle a0 a1) fun x1=>fk (!decide (x1.2.2=(0:Int))) (some ((0:Int),false,x1.2.2)) (bnd (verdict_fails a0 a1 x1.2.1) fun x2=>match x2 with | some t=>some (t,true,(0:Int)) | none=>some ((0:Int),false,(0:Int)))
theorem verdict_First_w (a0:List Task) (a1:Face) (r:Int×Bool×Int) (h:verdict_First a0 a1=some r):Go.VC.Spec Tryz.prog 160 [.d (.sl (a0.map Task.enc)),.agg (Face.enc a1)] (fun y=>y=E_Int_Bool_Int r):=by
 refine Spec.of_wpF (args:=[.d (.sl (a0.map Task.enc)),.agg (Face.enc a1)]) (fn:=Tryz.f160) rfl rfl rfl rfl ?_
 refine WpF.seq tab ⟨[(0,[0,3,4,5,6,25]),(1,[0,3,4,5,6,8,9,25]),(2,[0,3,4,5,6,8,9,19,25]),(3,[4,5,6]),(4,[4,5,6,24,25]),(5,[4,5,6,10]),(6,[4,5,6]),(7,[4,5,6])],[],[],[]⟩ (rs:=[.cell 4 3,.cell 5 4,.cell 6 36]) rfl ?_
 refine WpF.seq tab ⟨[(0,[0,3,4,5,6,25]),(1,[0,3,4,5,6,8,9,25]),(2,[0,3,4,5,6,8,9,19,25]),(3,[4,5,6]),(4,[4,5,6,24,25]),(5,[4,5,6,10]),(6,[4,5,6]),(7,[4,5,6])],[],[],[]⟩ (rs:=[.cell 4 3,.cell 5 4,.cell 6 36]) rfl ?_
 refine caS (E:=E_Int_Int_Int) h (verdict_Cycle_w a0 a1) rfl (fun _=>rfl) (fun x1 h=>?_)
 refine WpF.seq tab ⟨[(0,[0,3,4,5,6,25]),(1,[0,3,4,5,6,8,9,25]),(2,[0,3,4,5,6,8,9,19,25]),(3,[4,5,6]),(4,[4,5,6,24,25]),(5,[4,5,6,10]),(6,[4,5,6]),(7,[4,5,6])],[],[],[]⟩ (rs:=[.cell 4 3,.cell 5 4,.cell 6 36]) rfl ?_
 refine fkS h (fun h=>?_) (fun h=>?_)
 ·exact RetOk.mk ⟨_,rfl,rt (E:=E_Int_Bool_Int) h rfl⟩
 obtain⟨x2,hx2,h⟩:=bnd_of h
 refine WpF.seqA tab ⟨[(0,[0,3,4,5,6,25]),(1,[0,3,4,5,6,8,9,25]),(2,[0,3,4,5,6,8,9,19,25]),(3,[4,5,6]),(4,[4,5,6,24,25]),(5,[4,5,6,10]),(6,[4,5,6]),(7,[4,5,6])],[],[],[]⟩ (rs:=[.cell 4 3,.cell 5 4,.cell 6 36]) rfl ?_
 refine inS (fn:=Tryz.f167) tab ⟨[(0,[3,4,5]),(1,[6])],[],[],[]⟩ 8 [.tmp 6] rfl rfl rfl rfl rfl rfl ?_
 refine WpG.id ?_
 refine WpG.range tab (rs:=[.cell 4 3,.cell 5 4,.cell 6 36]) rfl rfl rfl rfl rfl ⟨_,rfl,rfl,rfl⟩ x2 rfl (verdict_fails_it a0 a1 x1.2.1 x2 hx2) rfl rfl rfl (fun x hx=>?_) (fun hx=>?_)
 ·subst hx
  refine PO.h (?_)
  refine po_move rfl rfl rfl ?_
  refine po_store rfl rfl rfl rfl rfl rfl rfl rfl rfl rfl ?_
  refine po_store rfl rfl rfl rfl rfl rfl rfl rfl rfl rfl ?_
  refine po_store rfl rfl rfl rfl rfl rfl rfl rfl rfl rfl ?_
  refine po_nil ?_
  exact RetOk.mk ⟨_,rfl,rt (E:=E_Int_Bool_Int) h rfl⟩
 ·subst hx
  refine PO.h (?_)
  refine po_store rfl rfl rfl rfl rfl rfl rfl rfl rfl rfl ?_
  refine po_store rfl rfl rfl rfl rfl rfl rfl rfl rfl rfl ?_
  refine po_store rfl rfl rfl rfl rfl rfl rfl rfl rfl rfl ?_
  refine po_nil ?_
  exact RetOk.mk ⟨_,rfl,rt (E:=E_Int_Bool_Int) h rfl⟩
end Go.Proofs.YtldlcdnhdedoeaaGreat
namespace Go.Proofs.YtldlcdnhdedoeaaGreat
open Go Go.VC
noncomputable def verdict_Fits (a0:List Task) (a1:Face):Option (Bool×Int):=
 bnd (verdict_Cycle a0 a1) fun x1=>fk (!decide (x1.2.2=(0:Int))) (some (false,x1.2.2)) (lp (fun nx2 (v2:Int×Int)=>fk (decide (v2.2<(a0.length:Int))) (ix a0 v2.2 fun x3=>ck (decide (x3.T≠0)) (nx2 ((wr (v2.1+(wr ((wr (x1.1.tdiv x3.T))*x3.C)))),(wr (v2.2+(1:Int)))))) (ck (decide (a1.P≠0)) (fk (decide (v2.1>(wr ((wr (x1.1.tdiv a1.P))*a1.B)))) (some (false,(0:Int))) (bnd (verdict_First a0 a1) fun x4=>some ((!x4.2.1),(0:Int)))))) FU ((0:Int),(0:Int)))
theorem verdict_Fits_w (a0:List Task) (a1:Face) (r:Bool×Int) (h:verdict_Fits a0 a1=some r):Go.VC.Spec Tryz.prog 142 [.d (.sl (a0.map Task.enc)),.agg (Face.enc a1)] (fun y=>y=E_Bool_Int r):=by
 refine Spec.of_xc (fn:=Tryz.f142) tab ⟨[(0,[0,3]),(1,[0,3,6,8]),(2,[0,3,6,8,23]),(3,[4,5]),(4,[0,3,6,9]),(5,[0,3,6,9,25,26,27]),(6,[0,3,6,9,25,26,27,28]),(7,[0,3,6,9,11,25,26,27]),(8,[0,3,6,9,25,26,27]),(9,[0,3,6,9,25,26,27]),(10,[0,3,49]),(11,[4,5]),(12,[13]),(13,[4,5])],[],[],[]⟩ 59 [.tmp 4,.tmp 5] rfl rfl rfl rfl rfl rfl ?_<;>conv=>whnf
 refine caS (E:=E_Int_Int_Int) h (verdict_Cycle_w a0 a1) rfl (fun _=>rfl) (fun x1 h=>?_)<;>conv=>whnf
 refine fkS h (fun h=>?_) (fun h=>?_)<;>conv=>whnf
 ·exact rt (E:=E_Bool_Int) h rfl
 refine lenS a0 Task.enc rfl ?_<;>conv=>whnf
 refine lpS (fun v2=>⟨[(0,.l (.d (.sl (a0.map Task.enc)))),(3,.l (.ptr 4 0)),(6,lI x1.1),(9,lI v2.1),(25,.l (.d (.sl (a0.map Task.enc)))),(26,lI (a0.length:Int)),(27,lI v2.2)],59,[],[(4,[dI a1.P,dI a1.B])],[]⟩) h wR (fun _ nx2 hn2 v2 h=>?_)<;>conv=>whnf
 refine fkS h (fun h=>?_) (fun h=>?_)<;>conv=>whnf
 ·refine ixS (enc:=Task.enc) h rfl (fun _=>rfl) (fun x3 h=>?_)<;>conv=>whnf
  refine⟨8,?_⟩
  conv=>whnf
  refine dvS h (fun h=>?_)<;>conv=>whnf
  refine drS (by kernel_rfl) ?_<;>conv=>whnf
  exact leS hn2 h wR
 refine⟨8,?_⟩
 conv=>whnf
 refine dvS h (fun h=>?_)<;>conv=>whnf
 refine drS (by kernel_rfl) ?_<;>conv=>whnf
 refine fkS h (fun h=>?_) (fun h=>?_)<;>conv=>whnf
 ·exact rt (E:=E_Bool_Int) h rfl
 refine caS (E:=E_Int_Bool_Int) h (verdict_First_w a0 a1) rfl (fun _=>rfl) (fun x4 h=>?_)<;>conv=>whnf
 exact rt (E:=E_Bool_Int) h rfl
end Go.Proofs.YtldlcdnhdedoeaaGreat
namespace Go.Proofs.YtldlcdnhdedoeaaGreat
open Go Go.VC
noncomputable def admit_fit_1 (a0:List Task) (a1:Int) (a2:Int):Option Int:=
 bnd (verdict_Fits a0 ⟨a1,a2⟩) fun x1=>jn (fun (w2:Bool)=>fk w2 (some (7:Int)) (some x1.2)) (fun k2=>fk (decide (x1.2=(0:Int))) (k2 (!x1.1)) (k2 false))
theorem admit_fit_1_w (a0:List Task) (a1:Int) (a2:Int) (r:Int) (h:admit_fit_1 a0 a1 a2=some r):Go.VC.Spec Tryz.prog 141 [.dp [.sl (a0.map Task.enc)],.dp [.int .i64 a1,.int .i64 a2]] (fun y=>y=E_Int r):=by
 refine Spec.of_xc (fn:=Tryz.f141) tab ⟨[(0,[0,1]),(1,[3,4]),(2,[4,16]),(3,[2]),(4,[2])],[],[100016],[]⟩ 18 [.tmp 2] rfl rfl rfl rfl rfl rfl ?_<;>conv=>whnf
 refine caS (E:=E_Bool_Int) h (verdict_Fits_w a0 ⟨a1,a2⟩) rfl (fun _=>rfl) (fun x1 h=>?_)<;>conv=>whnf
 refine jnS (fun w2=>⟨[(4,lI x1.2),(16,lB w2)],18,[],[],[]⟩) h (fun k2 hk2 h=>?_) (fun w2 h=>?_)<;>conv=>whnf
 ·refine fkS h (fun h=>?_) (fun h=>?_)<;>conv=>whnf
  ·exact jeS hk2 h wR
  exact jeS hk2 h wR
 refine fkS h (fun h=>?_) (fun h=>?_)<;>conv=>whnf
 ·exact rt (E:=E_Int) h rfl
 exact rt (E:=E_Int) h rfl
end Go.Proofs.YtldlcdnhdedoeaaGreat
namespace Go.Proofs.YtldlcdnhdedoeaaGreat
open Go Go.VC
noncomputable def admit_unless_1 (a0:Bool) (a1:Int):Option Int:=
 fk a0 (some (0:Int)) (some a1)
theorem admit_unless_1_w (a0:Bool) (a1:Int) (r:Int) (h:admit_unless_1 a0 a1=some r):Go.VC.Spec Tryz.prog 134 [.dp [.bool a0],.dp [.int .i64 a1]] (fun y=>y=E_Int r):=by
 refine Spec.of_xc (fn:=Tryz.f134) tab ⟨[(0,[0,1]),(1,[1,3]),(2,[2]),(3,[2])],[],[],[]⟩ 5 [.tmp 2] rfl rfl rfl rfl rfl rfl ?_<;>conv=>whnf
 refine fkS h (fun h=>?_) (fun h=>?_)<;>conv=>whnf
 ·exact rt (E:=E_Int) h rfl
 exact rt (E:=E_Int) h rfl
end Go.Proofs.YtldlcdnhdedoeaaGreat
namespace Go.Proofs.YtldlcdnhdedoeaaGreat
open Go Go.VC
noncomputable def admit_first_1 (a0:Bool) (a1:Int) (a2:Bool) (a3:Int) (a4:Bool) (a5:Int) (a6:List Task) (a7:Int) (a8:Int):Option Int:=
 lp (fun nx1 (v1:Int)=>fk (decide (v1<(4:Int))) (fk (decide (v1=(0:Int))) (bnd (admit_unless_1 a0 a1) fun x5=>fk (!decide (x5=(0:Int))) (some x5) (nx1 (wr (v1+(1:Int))))) (fk (decide (v1=(1:Int))) (bnd (admit_unless_1 a2 a3) fun x4=>fk (!decide (x4=(0:Int))) (some x4) (nx1 (wr (v1+(1:Int))))) (fk (decide (v1=(2:Int))) (bnd (admit_unless_1 a4 a5) fun x3=>fk (!decide (x3=(0:Int))) (some x3) (nx1 (wr (v1+(1:Int))))) (fk (decide (v1=(3:Int))) (bnd (admit_fit_1 a6 a7 a8) fun x2=>fk (!decide (x2=(0:Int))) (some x2) (nx1 (wr (v1+(1:Int))))) (none))))) (some (0:Int))) FU (0:Int)
theorem admit_first_1_w (a0:Bool) (a1:Int) (a2:Bool) (a3:Int) (a4:Bool) (a5:Int) (a6:List Task) (a7:Int) (a8:Int) (r:Int) (h:admit_first_1 a0 a1 a2 a3 a4 a5 a6 a7 a8=some r):Go.VC.Spec Tryz.prog 82 [.d (.sl [[.fn 134 [[.bool a0],[.int .i64 a1]]],[.fn 134 [[.bool a2],[.int .i64 a3]]],[.fn 134 [[.bool a4],[.int .i64 a5]]],[.fn 141 [[.sl (a6.map Task.enc)],[.int .i64 a7,.int .i64 a8]]]])] (fun y=>y=E_Int r):=by
 refine Spec.of_xc (fn:=Tryz.f82) tab ⟨[(0,[0]),(1,[6,7,8]),(2,[6,7,8,9]),(3,[4,6,7,8]),(4,[5,6,7,8]),(5,[5,6,7,8,15]),(6,[2]),(7,[6,7,8]),(8,[2])],[],[],[]⟩ 18 [.tmp 2] rfl rfl rfl rfl rfl rfl ?_<;>conv=>whnf
 refine lenR (4:Int) rfl ?_<;>conv=>whnf
 refine lpS (fun v1=>⟨[(6,.l (.d (.sl [[.fn 134 [[.bool a0],[.int .i64 a1]]],[.fn 134 [[.bool a2],[.int .i64 a3]]],[.fn 134 [[.bool a4],[.int .i64 a5]]],[.fn 141 [[.sl (a6.map Task.enc)],[.int .i64 a7,.int .i64 a8]]]]))),(7,lI (4:Int)),(8,lI v1)],18,[],[],[]⟩) h wR (fun _ nx1 hn1 v1 h=>?_)<;>conv=>whnf
 refine fkS h (fun h=>?_) (fun h=>?_)<;>conv=>whnf
 ·refine ixC 0 [.fn 134 [[.bool a0],[.int .i64 a1]]] h rfl rfl (fun h=>?_) (fun h=>?_)<;>conv=>whnf
  ·refine caS (E:=E_Int) h (admit_unless_1_w a0 a1) rfl (fun _=>rfl) (fun x5 h=>?_)<;>conv=>whnf
   refine fkS h (fun h=>?_) (fun h=>?_)<;>conv=>whnf
   ·exact rt (E:=E_Int) h rfl
   exact leS hn1 h wR
  refine ixC 1 [.fn 134 [[.bool a2],[.int .i64 a3]]] h rfl rfl (fun h=>?_) (fun h=>?_)<;>conv=>whnf
  ·refine caS (E:=E_Int) h (admit_unless_1_w a2 a3) rfl (fun _=>rfl) (fun x4 h=>?_)<;>conv=>whnf
   refine fkS h (fun h=>?_) (fun h=>?_)<;>conv=>whnf
   ·exact rt (E:=E_Int) h rfl
   exact leS hn1 h wR
  refine ixC 2 [.fn 134 [[.bool a4],[.int .i64 a5]]] h rfl rfl (fun h=>?_) (fun h=>?_)<;>conv=>whnf
  ·refine caS (E:=E_Int) h (admit_unless_1_w a4 a5) rfl (fun _=>rfl) (fun x3 h=>?_)<;>conv=>whnf
   refine fkS h (fun h=>?_) (fun h=>?_)<;>conv=>whnf
   ·exact rt (E:=E_Int) h rfl
   exact leS hn1 h wR
  refine ixC 3 [.fn 141 [[.sl (a6.map Task.enc)],[.int .i64 a7,.int .i64 a8]]] h rfl rfl (fun h=>?_) (fun h=>?_)<;>conv=>whnf
  ·refine caS (E:=E_Int) h (admit_fit_1_w a6 a7 a8) rfl (fun _=>rfl) (fun x2 h=>?_)<;>conv=>whnf
   refine fkS h (fun h=>?_) (fun h=>?_)<;>conv=>whnf
   ·exact rt (E:=E_Int) h rfl
   exact leS hn1 h wR
  exact ixN h
 exact rt (E:=E_Int) h rfl
end Go.Proofs.YtldlcdnhdedoeaaGreat
namespace Go.Proofs.YtldlcdnhdedoeaaGreat
open Go Go.VC
noncomputable def part_Add (a0:PartState) (a1:Task):Option (PartState×Int):=
 jn (fun (w1:Bool)=>fk w1 (some (a0,(1:Int))) (fk (decide ((a0.Tasks.length:Int)≥(8:Int))) (some (a0,(3:Int))) (ck (decide ((([]:List Sec).length+a1.Secs.length)*24≤140737488355328)) (ck (decide ((([]:List Task).length+a0.Tasks.length)*48≤140737488355328)) (ck (decide (((([]:List Task)++a0.Tasks).length+([⟨a1.C,a1.D,a1.T,([]:List Sec)++a1.Secs⟩]:List Task).length)*48≤140737488355328)) (ck (decide ((([]:List Bool).length+a0.Leaves.length)*1≤140737488355328)) (ck (decide (((([]:List Bool)++a0.Leaves).length+([false]:List Bool).length)*1≤140737488355328)) (ck (decide ((([]:List Int).length+a0.Lasts.length)*8≤140737488355328)) (ck (decide (((([]:List Int)++a0.Lasts).length+([(-1:Int)]:List Int).length)*8≤140737488355328)) (some (⟨(([]:List Task)++a0.Tasks)++([⟨a1.C,a1.D,a1.T,([]:List Sec)++a1.Secs⟩]:List Task),(([]:List Bool)++a0.Leaves)++([false]:List Bool),(([]:List Int)++a0.Lasts)++([(-1:Int)]:List Int),a0.Jobs,a0.Log⟩,(0:Int)))))))))))) (fun k1=>bnd (part_Right a0) fun x2=>fk (!x2) (k1 true) (bnd (task_Right a1) fun x3=>k1 (!x3)))
theorem part_Add_w (a0:PartState) (a1:Task) (r:PartState×Int) (h:part_Add a0 a1=some r):Go.VC.Spec Tryz.prog 65 [.agg (PartState.enc a0),.agg (Task.enc a1)] (fun y=>y=E_PartState_Int r):=by
 refine Spec.of_xc (fn:=Tryz.f65) tab ⟨[(0,[2,3,4]),(1,[2,3,4,6]),(2,[4,5]),(3,[2,3,4,16]),(4,[4,5]),(5,[2,3,4]),(6,[2,4]),(7,[2,4]),(8,[2,4]),(9,[4,5])],[],[100006],[(26,[26])]⟩ 50 [.cell 4 51,.tmp 5] rfl rfl rfl rfl rfl rfl ?_<;>conv=>whnf
 refine jnS (fun w1=>⟨[(2,.l (.ptr 3 0)),(3,.l (.ptr 4 0)),(4,.l (.ptr 5 0)),(6,lB w1)],50,[],[(3,[.d (.sl (a0.Tasks.map Task.enc)),.d (.sl (a0.Leaves.map eB)),.d (.sl (a0.Lasts.map (eI .i64))),.d (.sl (a0.Jobs.map Job.enc)),.d (.sl (a0.Log.map Entry.enc))]),(4,[dI a1.C,dI a1.D,dI a1.T,.d (.sl (a1.Secs.map Sec.enc))]),(5,[.nil,.nil,.nil,.nil,.nil])],[]⟩) h (fun k1 hk1 h=>?_) (fun w1 h=>?_)<;>conv=>whnf
 ·refine caS (E:=E_Bool) h (part_Right_w a0) rfl (fun _=>rfl) (fun x2 h=>?_)<;>conv=>whnf
  refine fkS h (fun h=>?_) (fun h=>?_)<;>conv=>whnf
  ·exact jeS hk1 h wR
  refine caS (E:=E_Bool) h (task_Right_w a1) rfl (fun _=>rfl) (fun x3 h=>?_)<;>conv=>whnf
  exact jeS hk1 h wR
 refine fkS h (fun h=>?_) (fun h=>?_)<;>conv=>whnf
 ·exact rt (E:=E_PartState_Int) h rfl
 refine lenS a0.Tasks Task.enc rfl ?_<;>conv=>whnf
 refine fkS h (fun h=>?_) (fun h=>?_)<;>conv=>whnf
 ·exact rt (E:=E_PartState_Int) h rfl
 refine liS ([]:List Sec) Sec.enc rfl rfl ?_<;>conv=>whnf
 refine apS (enc:=Sec.enc) (l1:=([]:List Sec)) (l2:=a1.Secs) h rfl rfl (fun _=>rfl) (fun h=>?_)<;>conv=>whnf
 refine⟨6,?_⟩
 conv=>whnf
 refine liS ([]:List Task) Task.enc rfl rfl ?_<;>conv=>whnf
 refine apS (enc:=Task.enc) (l1:=([]:List Task)) (l2:=a0.Tasks) h rfl rfl (fun _=>rfl) (fun h=>?_)<;>conv=>whnf
 refine liS ([⟨a1.C,a1.D,a1.T,([]:List Sec)++a1.Secs⟩]:List Task) Task.enc rfl rfl ?_<;>conv=>whnf
 refine drS (by kernel_rfl) ?_<;>conv=>whnf
 refine apS (enc:=Task.enc) (l1:=([]:List Task)++a0.Tasks) (l2:=([⟨a1.C,a1.D,a1.T,([]:List Sec)++a1.Secs⟩]:List Task)) h rfl rfl (fun _=>rfl) (fun h=>?_)<;>conv=>whnf
 refine liS ([]:List Bool) eB rfl rfl ?_<;>conv=>whnf
 refine apS (enc:=eB) (l1:=([]:List Bool)) (l2:=a0.Leaves) h rfl rfl (fun _=>rfl) (fun h=>?_)<;>conv=>whnf
 refine liS ([false]:List Bool) eB rfl rfl ?_<;>conv=>whnf
 refine apS (enc:=eB) (l1:=([]:List Bool)++a0.Leaves) (l2:=([false]:List Bool)) h rfl rfl (fun _=>rfl) (fun h=>?_)<;>conv=>whnf
 refine liS ([]:List Int) (eI .i64) rfl rfl ?_<;>conv=>whnf
 refine apS (enc:=(eI .i64)) (l1:=([]:List Int)) (l2:=a0.Lasts) h rfl rfl (fun _=>rfl) (fun h=>?_)<;>conv=>whnf
 refine liS ([(-1:Int)]:List Int) (eI .i64) rfl rfl ?_<;>conv=>whnf
 refine apS (enc:=(eI .i64)) (l1:=([]:List Int)++a0.Lasts) (l2:=([(-1:Int)]:List Int)) h rfl rfl (fun _=>rfl) (fun h=>?_)<;>conv=>whnf
 exact rt (E:=E_PartState_Int) h rfl
end Go.Proofs.YtldlcdnhdedoeaaGreat
namespace Go.Proofs.YtldlcdnhdedoeaaGreat
open Go Go.VC
noncomputable def admit_Add (a0:PartState) (a1:Face) (a2:Task):Option (PartState×Int):=
 ck (decide ((([]:List Task).length+a0.Tasks.length)*48≤140737488355328)) (ck (decide (((([]:List Task)++a0.Tasks).length+([a2]:List Task).length)*48≤140737488355328)) (jn (fun (w1:Int)=>fk (!decide (w1=(0:Int))) (some (a0,w1)) (bnd (part_Add a0 a2) fun x23=>some (x23.1,x23.2))) (fun k1=>bnd (part_Right a0) fun x2=>fk x2 (bnd (supply_Right a1) fun x3=>fk x3 (bnd (task_Right a2) fun x4=>bnd (admit_unless x4 (1:Int)) fun x5=>bnd (admit_unless (decide ((a0.Tasks.length:Int)<(8:Int))) (3:Int)) fun x6=>bnd (job_First a0.Jobs true) fun x7=>bnd (admit_unless (decide (x7<(0:Int))) (9:Int)) fun x8=>bnd (admit_fit ((([]:List Task)++a0.Tasks)++([a2]:List Task)) a1) fun x9=>bnd (admit_first_1 x5.1 x5.2 x6.1 x6.2 x8.1 x8.2 x9.1 x9.2.1 x9.2.2) fun x10=>k1 x10) (bnd (admit_unless false (1:Int)) fun x11=>bnd (admit_unless (decide ((a0.Tasks.length:Int)<(8:Int))) (3:Int)) fun x12=>bnd (job_First a0.Jobs true) fun x13=>bnd (admit_unless (decide (x13<(0:Int))) (9:Int)) fun x14=>bnd (admit_fit ((([]:List Task)++a0.Tasks)++([a2]:List Task)) a1) fun x15=>bnd (admit_first_1 x11.1 x11.2 x12.1 x12.2 x14.1 x14.2 x15.1 x15.2.1 x15.2.2) fun x16=>k1 x16)) (bnd (admit_unless false (1:Int)) fun x17=>bnd (admit_unless (decide ((a0.Tasks.length:Int)<(8:Int))) (3:Int)) fun x18=>bnd (job_First a0.Jobs true) fun x19=>bnd (admit_unless (decide (x19<(0:Int))) (9:Int)) fun x20=>bnd (admit_fit ((([]:List Task)++a0.Tasks)++([a2]:List Task)) a1) fun x21=>bnd (admit_first_1 x17.1 x17.2 x18.1 x18.2 x20.1 x20.2 x21.1 x21.2.1 x21.2.2) fun x22=>k1 x22))))
theorem admit_Add_w (a0:PartState) (a1:Face) (a2:Task) (r:PartState×Int) (h:admit_Add a0 a1 a2=some r):Go.VC.Spec Tryz.prog 31 [.agg (PartState.enc a0),.agg (Face.enc a1),.agg (Task.enc a2)] (fun y=>y=E_PartState_Int r):=by
 refine Spec.of_xc (fn:=Tryz.f31) tab ⟨[(0,[3,4,5,6]),(1,[3,4,5,6,8]),(2,[3,5,6,9]),(3,[3,5,6,9,44]),(4,[6,7]),(5,[6,7])],[],[3],[]⟩ 52 [.cell 6 51,.tmp 7] rfl rfl rfl rfl rfl rfl ?_<;>conv=>whnf
 refine⟨6,?_⟩
 conv=>whnf
 refine liS ([]:List Task) Task.enc rfl rfl ?_<;>conv=>whnf
 refine apS (enc:=Task.enc) (l1:=([]:List Task)) (l2:=a0.Tasks) h rfl rfl (fun _=>rfl) (fun h=>?_)<;>conv=>whnf
 refine liS ([a2]:List Task) Task.enc rfl rfl ?_<;>conv=>whnf
 refine drS (by kernel_rfl) ?_<;>conv=>whnf
 refine apS (enc:=Task.enc) (l1:=([]:List Task)++a0.Tasks) (l2:=([a2]:List Task)) h rfl rfl (fun _=>rfl) (fun h=>?_)<;>conv=>whnf
 refine jnS (fun w1=>⟨[(3,.l (.ptr 4 0)),(5,.l (.ptr 6 0)),(6,.l (.ptr 7 0)),(9,lI w1)],52,[],[(4,[.d (.sl (a0.Tasks.map Task.enc)),.d (.sl (a0.Leaves.map eB)),.d (.sl (a0.Lasts.map (eI .i64))),.d (.sl (a0.Jobs.map Job.enc)),.d (.sl (a0.Log.map Entry.enc))]),(6,[dI a2.C,dI a2.D,dI a2.T,.d (.sl (a2.Secs.map Sec.enc))]),(7,[.nil,.nil,.nil,.nil,.nil])],[]⟩) h (fun k1 hk1 h=>?_) (fun w1 h=>?_)<;>conv=>whnf
 ·refine⟨23,?_⟩
  conv=>whnf
  refine daS (E:=E_Bool) h (part_Right_w a0) (fun _=>rfl) (fun x2 h=>?_)<;>conv=>whnf
  refine fkS h (fun h=>?_) (fun h=>?_)<;>conv=>whnf
  ·refine daS (E:=E_Bool) h (supply_Right_w a1) (fun _=>rfl) (fun x3 h=>?_)<;>conv=>whnf
   refine fkS h (fun h=>?_) (fun h=>?_)<;>conv=>whnf
   ·refine daS (E:=E_Bool) h (task_Right_w a2) (fun _=>rfl) (fun x4 h=>?_)<;>conv=>whnf
    refine dcS (E:=E_fn_admit_unless) h (admit_unless_w x4 (1:Int)) rfl (fun x5 h=>?_)<;>conv=>whnf
    refine lenS a0.Tasks Task.enc rfl ?_<;>conv=>whnf
    refine dcS (E:=E_fn_admit_unless) h (admit_unless_w (decide ((a0.Tasks.length:Int)<(8:Int))) (3:Int)) rfl (fun x6 h=>?_)<;>conv=>whnf
    refine daS (E:=E_Int) h (job_First_w a0.Jobs true) (fun _=>rfl) (fun x7 h=>?_)<;>conv=>whnf
    refine dcS (E:=E_fn_admit_unless) h (admit_unless_w (decide (x7<(0:Int))) (9:Int)) rfl (fun x8 h=>?_)<;>conv=>whnf
    refine drS (by kernel_rfl) ?_<;>conv=>whnf
    refine iceS 9 ?_<;>conv=>whnf
    refine ccS (E:=E_fn_admit_fit) h (admit_fit_w ((([]:List Task)++a0.Tasks)++([a2]:List Task)) a1) rfl rfl (fun x9 h=>?_)<;>conv=>whnf
    refine liR rfl ?_<;>conv=>whnf
    refine caS (E:=E_Int) h (admit_first_1_w x5.1 x5.2 x6.1 x6.2 x8.1 x8.2 x9.1 x9.2.1 x9.2.2) rfl (fun _=>rfl) (fun x10 h=>?_)<;>conv=>whnf
    exact jeS hk1 h wR
   refine dcS (E:=E_fn_admit_unless) h (admit_unless_w false (1:Int)) rfl (fun x11 h=>?_)<;>conv=>whnf
   refine lenS a0.Tasks Task.enc rfl ?_<;>conv=>whnf
   refine dcS (E:=E_fn_admit_unless) h (admit_unless_w (decide ((a0.Tasks.length:Int)<(8:Int))) (3:Int)) rfl (fun x12 h=>?_)<;>conv=>whnf
   refine daS (E:=E_Int) h (job_First_w a0.Jobs true) (fun _=>rfl) (fun x13 h=>?_)<;>conv=>whnf
   refine dcS (E:=E_fn_admit_unless) h (admit_unless_w (decide (x13<(0:Int))) (9:Int)) rfl (fun x14 h=>?_)<;>conv=>whnf
   refine drS (by kernel_rfl) ?_<;>conv=>whnf
   refine iceS 9 ?_<;>conv=>whnf
   refine ccS (E:=E_fn_admit_fit) h (admit_fit_w ((([]:List Task)++a0.Tasks)++([a2]:List Task)) a1) rfl rfl (fun x15 h=>?_)<;>conv=>whnf
   refine liR rfl ?_<;>conv=>whnf
   refine caS (E:=E_Int) h (admit_first_1_w x11.1 x11.2 x12.1 x12.2 x14.1 x14.2 x15.1 x15.2.1 x15.2.2) rfl (fun _=>rfl) (fun x16 h=>?_)<;>conv=>whnf
   exact jeS hk1 h wR
  refine dcS (E:=E_fn_admit_unless) h (admit_unless_w false (1:Int)) rfl (fun x17 h=>?_)<;>conv=>whnf
  refine lenS a0.Tasks Task.enc rfl ?_<;>conv=>whnf
  refine dcS (E:=E_fn_admit_unless) h (admit_unless_w (decide ((a0.Tasks.length:Int)<(8:Int))) (3:Int)) rfl (fun x18 h=>?_)<;>conv=>whnf
  refine daS (E:=E_Int) h (job_First_w a0.Jobs true) (fun _=>rfl) (fun x19 h=>?_)<;>conv=>whnf
  refine dcS (E:=E_fn_admit_unless) h (admit_unless_w (decide (x19<(0:Int))) (9:Int)) rfl (fun x20 h=>?_)<;>conv=>whnf
  refine drS (by kernel_rfl) ?_<;>conv=>whnf
  refine iceS 9 ?_<;>conv=>whnf
  refine ccS (E:=E_fn_admit_fit) h (admit_fit_w ((([]:List Task)++a0.Tasks)++([a2]:List Task)) a1) rfl rfl (fun x21 h=>?_)<;>conv=>whnf
  refine liR rfl ?_<;>conv=>whnf
  refine caS (E:=E_Int) h (admit_first_1_w x17.1 x17.2 x18.1 x18.2 x20.1 x20.2 x21.1 x21.2.1 x21.2.2) rfl (fun _=>rfl) (fun x22 h=>?_)<;>conv=>whnf
  exact jeS hk1 h wR
 refine fkS h (fun h=>?_) (fun h=>?_)<;>conv=>whnf
 ·exact rt (E:=E_PartState_Int) h rfl
 refine ccS (E:=E_PartState_Int) h (part_Add_w a0 a2) rfl rfl (fun x23 h=>?_)<;>conv=>whnf
 exact rt (E:=E_PartState_Int) h rfl
end Go.Proofs.YtldlcdnhdedoeaaGreat
namespace Go.Proofs.YtldlcdnhdedoeaaGreat
open Go Go.VC
noncomputable def admit_first (a0:Bool) (a1:Int) (a2:List Task) (a3:Int) (a4:Int):Option Int:=
 lp (fun nx1 (v1:Int)=>fk (decide (v1<(2:Int))) (fk (decide (v1=(0:Int))) (bnd (admit_unless_1 a0 a1) fun x3=>fk (!decide (x3=(0:Int))) (some x3) (nx1 (wr (v1+(1:Int))))) (fk (decide (v1=(1:Int))) (bnd (admit_fit_1 a2 a3 a4) fun x2=>fk (!decide (x2=(0:Int))) (some x2) (nx1 (wr (v1+(1:Int))))) (none))) (some (0:Int))) FU (0:Int)
theorem admit_first_w (a0:Bool) (a1:Int) (a2:List Task) (a3:Int) (a4:Int) (r:Int) (h:admit_first a0 a1 a2 a3 a4=some r):Go.VC.Spec Tryz.prog 82 [.d (.sl [[.fn 134 [[.bool a0],[.int .i64 a1]]],[.fn 141 [[.sl (a2.map Task.enc)],[.int .i64 a3,.int .i64 a4]]]])] (fun y=>y=E_Int r):=by
 refine Spec.of_xc (fn:=Tryz.f82) tab ⟨[(0,[0]),(1,[6,7,8]),(2,[6,7,8,9]),(3,[4,6,7,8]),(4,[5,6,7,8]),(5,[5,6,7,8,15]),(6,[2]),(7,[6,7,8]),(8,[2])],[],[],[]⟩ 18 [.tmp 2] rfl rfl rfl rfl rfl rfl ?_<;>conv=>whnf
 refine lenR (2:Int) rfl ?_<;>conv=>whnf
 refine lpS (fun v1=>⟨[(6,.l (.d (.sl [[.fn 134 [[.bool a0],[.int .i64 a1]]],[.fn 141 [[.sl (a2.map Task.enc)],[.int .i64 a3,.int .i64 a4]]]]))),(7,lI (2:Int)),(8,lI v1)],18,[],[],[]⟩) h wR (fun _ nx1 hn1 v1 h=>?_)<;>conv=>whnf
 refine fkS h (fun h=>?_) (fun h=>?_)<;>conv=>whnf
 ·refine ixC 0 [.fn 134 [[.bool a0],[.int .i64 a1]]] h rfl rfl (fun h=>?_) (fun h=>?_)<;>conv=>whnf
  ·refine caS (E:=E_Int) h (admit_unless_1_w a0 a1) rfl (fun _=>rfl) (fun x3 h=>?_)<;>conv=>whnf
   refine fkS h (fun h=>?_) (fun h=>?_)<;>conv=>whnf
   ·exact rt (E:=E_Int) h rfl
   exact leS hn1 h wR
  refine ixC 1 [.fn 141 [[.sl (a2.map Task.enc)],[.int .i64 a3,.int .i64 a4]]] h rfl rfl (fun h=>?_) (fun h=>?_)<;>conv=>whnf
  ·refine caS (E:=E_Int) h (admit_fit_1_w a2 a3 a4) rfl (fun _=>rfl) (fun x2 h=>?_)<;>conv=>whnf
   refine fkS h (fun h=>?_) (fun h=>?_)<;>conv=>whnf
   ·exact rt (E:=E_Int) h rfl
   exact leS hn1 h wR
  exact ixN h
 exact rt (E:=E_Int) h rfl
end Go.Proofs.YtldlcdnhdedoeaaGreat
namespace Go.Proofs.YtldlcdnhdedoeaaGreat
open Go Go.VC
noncomputable def part_New (a0:List Task):Option (PartState×Int):=
 bnd (task_All a0) fun x1=>fk (!x1) (some (⟨[],[],[],[],[]⟩,(1:Int))) (lp (fun nx2 (v2:(List Task)×(List Bool)×(List Int)×(List Job)×(List Entry)×Int)=>fk (decide (v2.2.2.2.2.2<(a0.length:Int))) (ix a0 v2.2.2.2.2.2 fun x3=>bnd (part_Add ⟨v2.1,v2.2.1,v2.2.2.1,v2.2.2.2.1,v2.2.2.2.2.1⟩ x3) fun x4=>nx2 (x4.1.Tasks,x4.1.Leaves,x4.1.Lasts,x4.1.Jobs,x4.1.Log,(wr (v2.2.2.2.2.2+(1:Int))))) (some (⟨v2.1,v2.2.1,v2.2.2.1,v2.2.2.2.1,v2.2.2.2.2.1⟩,(0:Int)))) FU ([],[],[],[],[],(0:Int)))
theorem part_New_w (a0:List Task) (r:PartState×Int) (h:part_New a0=some r):Go.VC.Spec Tryz.prog 20 [.d (.sl (a0.map Task.enc))] (fun y=>y=E_PartState_Int r):=by
 refine Spec.of_xc (fn:=Tryz.f20) tab ⟨[(0,[0,2]),(1,[0,2,9]),(2,[2,3]),(3,[0,2,4]),(4,[2,4,12,13,14]),(5,[2,4,12,13,14,15]),(6,[2,4,6,12,13,14]),(7,[2,4,12,13,14]),(8,[2,4,12,13,14]),(9,[2,3])],[],[],[]⟩ 26 [.cell 2 51,.tmp 3] rfl rfl rfl rfl rfl rfl ?_<;>conv=>whnf
 refine caS (E:=E_Bool) h (task_All_w a0) rfl (fun _=>rfl) (fun x1 h=>?_)<;>conv=>whnf
 refine fkS h (fun h=>?_) (fun h=>?_)<;>conv=>whnf
 ·exact rt (E:=E_PartState_Int) h rfl
 refine lenS a0 Task.enc rfl ?_<;>conv=>whnf
 refine lpX (fun v2=>⟨[(2,.l (.ptr 3 0)),(4,.l (.ptr 5 0)),(12,.l (.d (.sl (a0.map Task.enc)))),(13,lI (a0.length:Int)),(14,lI v2.2.2.2.2.2)],26,[],[(3,[.nil,.nil,.nil,.nil,.nil]),(5,[.d (.sl (v2.1.map Task.enc)),.d (.sl (v2.2.1.map eB)),.d (.sl (v2.2.2.1.map (eI .i64))),.d (.sl (v2.2.2.2.1.map Job.enc)),.d (.sl (v2.2.2.2.2.1.map Entry.enc))])],[]⟩) h ?_ (fun _ nx2 hn2 v2 h=>?_)<;>conv=>whnf
 ·refine WkF.step (Weak.nilBD _ 5 0 _ rfl rfl) ?_<;>conv=>whnf
  refine WkF.step (Weak.nilBD _ 5 1 _ rfl rfl) ?_<;>conv=>whnf
  refine WkF.step (Weak.nilBD _ 5 2 _ rfl rfl) ?_<;>conv=>whnf
  refine WkF.step (Weak.nilBD _ 5 3 _ rfl rfl) ?_<;>conv=>whnf
  refine WkF.step (Weak.nilBD _ 5 4 _ rfl rfl) ?_<;>conv=>whnf
  exact WkF.refl _
 refine fkS h (fun h=>?_) (fun h=>?_)<;>conv=>whnf
 ·refine ixS (enc:=Task.enc) h rfl (fun _=>rfl) (fun x3 h=>?_)<;>conv=>whnf
  refine ccS (E:=E_PartState_Int) h (part_Add_w ⟨v2.1,v2.2.1,v2.2.2.1,v2.2.2.2.1,v2.2.2.2.2.1⟩ x3) rfl rfl (fun x4 h=>?_)<;>conv=>whnf
  exact leS hn2 h wR
 exact rt (E:=E_PartState_Int) h rfl
end Go.Proofs.YtldlcdnhdedoeaaGreat
namespace Go.Proofs.YtldlcdnhdedoeaaGreat
open Go Go.VC
noncomputable def admit_Boot (a0:Part):Option (PartState×Int):=
 jn (fun (w1:Int)=>fk (!decide (w1=(0:Int))) (some (⟨[],[],[],[],[]⟩,w1)) (bnd (part_New a0.Tasks) fun x10=>some (x10.1,x10.2))) (fun k1=>bnd (supply_Right a0.Face) fun x2=>fk x2 (bnd (task_All a0.Tasks) fun x3=>bnd (admit_unless x3 (1:Int)) fun x4=>bnd (admit_fit a0.Tasks a0.Face) fun x5=>bnd (admit_first x4.1 x4.2 x5.1 x5.2.1 x5.2.2) fun x6=>k1 x6) (bnd (admit_unless false (1:Int)) fun x7=>bnd (admit_fit a0.Tasks a0.Face) fun x8=>bnd (admit_first x7.1 x7.2 x8.1 x8.2.1 x8.2.2) fun x9=>k1 x9))
theorem admit_Boot_w (a0:Part) (r:PartState×Int) (h:admit_Boot a0=some r):Go.VC.Spec Tryz.prog 56 [.agg (Part.enc a0)] (fun y=>y=E_PartState_Int r):=by
 refine Spec.of_xc (fn:=Tryz.f56) tab ⟨[(0,[1,2]),(1,[1,2,4]),(2,[1,2,4,22]),(3,[2,3]),(4,[2,3])],[],[2],[]⟩ 30 [.cell 2 51,.tmp 3] rfl rfl rfl rfl rfl rfl ?_<;>conv=>whnf
 refine jnS (fun w1=>⟨[(1,.l (.ptr 2 0)),(2,.l (.ptr 3 0)),(4,lI w1)],30,[],[(2,[dI a0.Face.P,dI a0.Face.B,.d (.sl (a0.Tasks.map Task.enc))]),(3,[.nil,.nil,.nil,.nil,.nil])],[]⟩) h (fun k1 hk1 h=>?_) (fun w1 h=>?_)<;>conv=>whnf
 ·refine⟨13,?_⟩
  conv=>whnf
  refine daS (E:=E_Bool) h (supply_Right_w a0.Face) (fun _=>rfl) (fun x2 h=>?_)<;>conv=>whnf
  refine fkS h (fun h=>?_) (fun h=>?_)<;>conv=>whnf
  ·refine daS (E:=E_Bool) h (task_All_w a0.Tasks) (fun _=>rfl) (fun x3 h=>?_)<;>conv=>whnf
   refine dcS (E:=E_fn_admit_unless) h (admit_unless_w x3 (1:Int)) rfl (fun x4 h=>?_)<;>conv=>whnf
   refine drS (by kernel_rfl) ?_<;>conv=>whnf
   refine ccS (E:=E_fn_admit_fit) h (admit_fit_w a0.Tasks a0.Face) rfl rfl (fun x5 h=>?_)<;>conv=>whnf
   refine liR rfl ?_<;>conv=>whnf
   refine caS (E:=E_Int) h (admit_first_w x4.1 x4.2 x5.1 x5.2.1 x5.2.2) rfl (fun _=>rfl) (fun x6 h=>?_)<;>conv=>whnf
   exact jeS hk1 h wR
  refine dcS (E:=E_fn_admit_unless) h (admit_unless_w false (1:Int)) rfl (fun x7 h=>?_)<;>conv=>whnf
  refine drS (by kernel_rfl) ?_<;>conv=>whnf
  refine ccS (E:=E_fn_admit_fit) h (admit_fit_w a0.Tasks a0.Face) rfl rfl (fun x8 h=>?_)<;>conv=>whnf
  refine liR rfl ?_<;>conv=>whnf
  refine caS (E:=E_Int) h (admit_first_w x7.1 x7.2 x8.1 x8.2.1 x8.2.2) rfl (fun _=>rfl) (fun x9 h=>?_)<;>conv=>whnf
  exact jeS hk1 h wR
 refine fkS h (fun h=>?_) (fun h=>?_)<;>conv=>whnf
 ·exact rt (E:=E_PartState_Int) h rfl
 refine ccS (E:=E_PartState_Int) h (part_New_w a0.Tasks) rfl rfl (fun x10 h=>?_)<;>conv=>whnf
 exact rt (E:=E_PartState_Int) h rfl
end Go.Proofs.YtldlcdnhdedoeaaGreat
namespace Go.Proofs.YtldlcdnhdedoeaaGreat
open Go Go.VC
noncomputable def part_Leave (a0:PartState) (a1:Int):Option (PartState×Int):=
 jn (fun (w1:Bool)=>fk w1 (some (a0,(1:Int))) (ix a0.Leaves a1 fun x3=>fk x3 (some (a0,(9:Int))) (ck (decide ((([]:List Bool).length+a0.Leaves.length)*1≤140737488355328)) (ck (decide (0≤a1) && decide (a1<((([]:List Bool)++a0.Leaves).length:Int))) (ox (([]:List Bool)++a0.Leaves) a1.toNat fun x4=>some (⟨a0.Tasks,(([]:List Bool)++a0.Leaves).set a1.toNat true,a0.Lasts,a0.Jobs,a0.Log⟩,(0:Int))))))) (fun k1=>bnd (part_Right a0) fun x2=>fk (!x2) (k1 true) (fk (decide (a1<(0:Int))) (k1 true) (k1 (decide (a1≥(a0.Tasks.length:Int))))))
theorem part_Leave_w (a0:PartState) (a1:Int) (r:PartState×Int) (h:part_Leave a0 a1=some r):Go.VC.Spec Tryz.prog 88 [.agg (PartState.enc a0),.d (.int .i64 a1)] (fun y=>y=E_PartState_Int r):=by
 refine Spec.of_xc (fn:=Tryz.f88) tab ⟨[(0,[1,2,4]),(1,[1,2,4,6]),(2,[4,5]),(3,[1,2,4,22]),(4,[4,5]),(5,[1,2,4]),(6,[2,4]),(7,[4,5])],[],[100006],[]⟩ 39 [.cell 4 51,.tmp 5] rfl rfl rfl rfl rfl rfl ?_<;>conv=>whnf
 refine jnS (fun w1=>⟨[(1,lI a1),(2,.l (.ptr 3 0)),(4,.l (.ptr 5 0)),(6,lB w1)],39,[],[(3,[.d (.sl (a0.Tasks.map Task.enc)),.d (.sl (a0.Leaves.map eB)),.d (.sl (a0.Lasts.map (eI .i64))),.d (.sl (a0.Jobs.map Job.enc)),.d (.sl (a0.Log.map Entry.enc))]),(5,[.nil,.nil,.nil,.nil,.nil])],[]⟩) h (fun k1 hk1 h=>?_) (fun w1 h=>?_)<;>conv=>whnf
 ·refine caS (E:=E_Bool) h (part_Right_w a0) rfl (fun _=>rfl) (fun x2 h=>?_)<;>conv=>whnf
  refine fkS h (fun h=>?_) (fun h=>?_)<;>conv=>whnf
  ·exact jeS hk1 h wR
  refine fkS h (fun h=>?_) (fun h=>?_)<;>conv=>whnf
  ·exact jeS hk1 h wR
  refine lenS a0.Tasks Task.enc rfl ?_<;>conv=>whnf
  exact jeS hk1 h wR
 refine fkS h (fun h=>?_) (fun h=>?_)<;>conv=>whnf
 ·exact rt (E:=E_PartState_Int) h rfl
 refine ixS (enc:=eB) h rfl (fun _=>rfl) (fun x3 h=>?_)<;>conv=>whnf
 refine fkS h (fun h=>?_) (fun h=>?_)<;>conv=>whnf
 ·exact rt (E:=E_PartState_Int) h rfl
 refine liS ([]:List Bool) eB rfl rfl ?_<;>conv=>whnf
 refine apS (enc:=eB) (l1:=([]:List Bool)) (l2:=a0.Leaves) h rfl rfl (fun _=>rfl) (fun h=>?_)<;>conv=>whnf
 refine ioS (enc:=eB) h rfl (fun h=>?_)<;>conv=>whnf
 refine seS (enc:=eB) h rfl (fun x4=>true) (fun _=>rfl) (fun x4 h=>?_)<;>conv=>whnf
 exact rt (E:=E_PartState_Int) h rfl
end Go.Proofs.YtldlcdnhdedoeaaGreat
namespace Go.Proofs.YtldlcdnhdedoeaaGreat
open Go Go.VC
noncomputable def part_when (a0:Int):Option Bool:=
 fk (decide (a0≥(0:Int))) (some (decide (a0≤(4611686018427387703:Int)))) (some false)
theorem part_when_w (a0:Int) (r:Bool) (h:part_when a0=some r):Go.VC.Spec Tryz.prog 74 [.d (.int .i64 a0)] (fun y=>y=E_Bool r):=by
 refine Spec.of_xc (fn:=Tryz.f74) tab ⟨[(0,[0]),(1,[2])],[],[],[]⟩ 9 [.tmp 2] rfl rfl rfl rfl rfl rfl ?_<;>conv=>whnf
 refine fkS h (fun h=>?_) (fun h=>?_)<;>conv=>whnf
 ·exact rt (E:=E_Bool) h rfl
 exact rt (E:=E_Bool) h rfl
end Go.Proofs.YtldlcdnhdedoeaaGreat
namespace Go.Proofs.YtldlcdnhdedoeaaGreat
open Go Go.VC
noncomputable def police_May (a0:List Task) (a1:List Int) (a2:Int) (a3:Int):Option Int:=
 jn (fun (w1:Bool)=>fk w1 (some (1:Int)) (jn (fun (w3:Bool)=>fk w3 (some (6:Int)) (some (0:Int))) (fun k3=>ix a1 a2 fun x4=>fk (!decide (x4=(-1:Int))) (ix a1 a2 fun x5=>ix a0 a2 fun x6=>k3 (decide (a3<(wr (x5+x6.T))))) (k3 false)))) (fun k1=>bnd (police_Right a0 a1) fun x2=>fk (!x2) (k1 true) (fk (decide (a2<(0:Int))) (k1 true) (fk (decide (a2≥(a0.length:Int))) (k1 true) (fk (decide (a3<(0:Int))) (k1 true) (k1 (decide (a3>(4611686018427387703:Int))))))))
theorem police_May_w (a0:List Task) (a1:List Int) (a2:Int) (a3:Int) (r:Int) (h:police_May a0 a1 a2 a3=some r):Go.VC.Spec Tryz.prog 132 [.d (.sl (a0.map Task.enc)),.d (.sl (a1.map (eI .i64))),.d (.int .i64 a2),.d (.int .i64 a3)] (fun y=>y=E_Int r):=by
 refine Spec.of_xc (fn:=Tryz.f132) tab ⟨[(0,[0,1,2,3]),(1,[0,1,2,3,9]),(2,[8]),(3,[32]),(4,[8]),(5,[8])],[],[100032,100009],[]⟩ 52 [.tmp 8] rfl rfl rfl rfl rfl rfl ?_<;>conv=>whnf
 refine jnS (fun w1=>⟨[(0,.l (.d (.sl (a0.map Task.enc)))),(1,.l (.d (.sl (a1.map (eI .i64))))),(2,lI a2),(3,lI a3),(9,lB w1)],52,[],[],[]⟩) h (fun k1 hk1 h=>?_) (fun w1 h=>?_)<;>conv=>whnf
 ·refine caS (E:=E_Bool) h (police_Right_w a0 a1) rfl (fun _=>rfl) (fun x2 h=>?_)<;>conv=>whnf
  refine fkS h (fun h=>?_) (fun h=>?_)<;>conv=>whnf
  ·exact jeS hk1 h wR
  refine fkS h (fun h=>?_) (fun h=>?_)<;>conv=>whnf
  ·exact jeS hk1 h wR
  refine lenS a0 Task.enc rfl ?_<;>conv=>whnf
  refine fkS h (fun h=>?_) (fun h=>?_)<;>conv=>whnf
  ·exact jeS hk1 h wR
  refine fkS h (fun h=>?_) (fun h=>?_)<;>conv=>whnf
  ·exact jeS hk1 h wR
  exact jeS hk1 h wR
 refine fkS h (fun h=>?_) (fun h=>?_)<;>conv=>whnf
 ·exact rt (E:=E_Int) h rfl
 refine jnS (fun w3=>⟨[(32,lB w3)],52,[],[],[]⟩) h (fun k3 hk3 h=>?_) (fun w3 h=>?_)<;>conv=>whnf
 ·refine⟨19,?_⟩
  conv=>whnf
  refine ixS (enc:=(eI .i64)) h rfl (fun _=>rfl) (fun x4 h=>?_)<;>conv=>whnf
  refine fkS h (fun h=>?_) (fun h=>?_)<;>conv=>whnf
  ·refine ixS (enc:=(eI .i64)) h rfl (fun _=>rfl) (fun x5 h=>?_)<;>conv=>whnf
   refine ixS (enc:=Task.enc) h rfl (fun _=>rfl) (fun x6 h=>?_)<;>conv=>whnf
   refine drS (by kernel_rfl) ?_<;>conv=>whnf
   exact jeS hk3 h wR
  refine drS (by kernel_rfl) ?_<;>conv=>whnf
  exact jeS hk3 h wR
 refine fkS h (fun h=>?_) (fun h=>?_)<;>conv=>whnf
 ·exact rt (E:=E_Int) h rfl
 exact rt (E:=E_Int) h rfl
end Go.Proofs.YtldlcdnhdedoeaaGreat
namespace Go.Proofs.YtldlcdnhdedoeaaGreat
open Go Go.VC
noncomputable def police_Note (a0:List Task) (a1:List Int) (a2:Int) (a3:Int):Option ((List Int)×Int):=
 bnd (police_May a0 a1 a2 a3) fun x1=>fk (!decide (x1=(0:Int))) (some (a1,x1)) (ck (decide ((([]:List Int).length+a1.length)*8≤140737488355328)) (ck (decide (0≤a2) && decide (a2<((([]:List Int)++a1).length:Int))) (ox (([]:List Int)++a1) a2.toNat fun x2=>some ((([]:List Int)++a1).set a2.toNat a3,(0:Int)))))
theorem police_Note_w (a0:List Task) (a1:List Int) (a2:Int) (a3:Int) (r:(List Int)×Int) (h:police_Note a0 a1 a2 a3=some r):Go.VC.Spec Tryz.prog 76 [.d (.sl (a0.map Task.enc)),.d (.sl (a1.map (eI .i64))),.d (.int .i64 a2),.d (.int .i64 a3)] (fun y=>y=E_ListInt_Int r):=by
 refine Spec.of_xc (fn:=Tryz.f76) tab ⟨[(0,[0,1,2,3]),(1,[1,2,3,10]),(2,[1,2,3,10,18]),(3,[8,9]),(4,[2,3,11]),(5,[11]),(6,[8,9])],[],[],[]⟩ 29 [.tmp 8,.tmp 9] rfl rfl rfl rfl rfl rfl ?_<;>conv=>whnf
 refine caS (E:=E_Int) h (police_May_w a0 a1 a2 a3) rfl (fun _=>rfl) (fun x1 h=>?_)<;>conv=>whnf
 refine fkS h (fun h=>?_) (fun h=>?_)<;>conv=>whnf
 ·exact rt (E:=E_ListInt_Int) h rfl
 refine liS ([]:List Int) (eI .i64) rfl rfl ?_<;>conv=>whnf
 refine apS (enc:=(eI .i64)) (l1:=([]:List Int)) (l2:=a1) h rfl rfl (fun _=>rfl) (fun h=>?_)<;>conv=>whnf
 refine ioS (enc:=(eI .i64)) h rfl (fun h=>?_)<;>conv=>whnf
 refine seS (enc:=(eI .i64)) h rfl (fun x2=>a3) (fun _=>rfl) (fun x2 h=>?_)<;>conv=>whnf
 exact rt (E:=E_ListInt_Int) h rfl
end Go.Proofs.YtldlcdnhdedoeaaGreat
namespace Go.Proofs.YtldlcdnhdedoeaaGreat
open Go Go.VC
noncomputable def part_Release (a0:PartState) (a1:Int) (a2:Int) (a3:Int):Option (PartState×Int):=
 jn (fun (w1:Bool)=>fk w1 (some (a0,(1:Int))) (ix a0.Leaves a1 fun x4=>fk x4 (some (a0,(9:Int))) (ck (decide ((([]:List Entry).length+a0.Log.length)*24≤140737488355328)) (bnd (police_Note a0.Tasks a0.Lasts a1 a3) fun x5=>fk (!decide (x5.2=(0:Int))) (fk (decide (((([]:List Entry)++a0.Log).length:Int)<(2000:Int))) (ck (decide (((([]:List Entry)++a0.Log).length+([⟨a3,(2:Int),a1⟩]:List Entry).length)*24≤140737488355328)) (some (⟨a0.Tasks,a0.Leaves,a0.Lasts,a0.Jobs,(([]:List Entry)++a0.Log)++([⟨a3,(2:Int),a1⟩]:List Entry)⟩,x5.2))) (some (⟨a0.Tasks,a0.Leaves,a0.Lasts,a0.Jobs,([]:List Entry)++a0.Log⟩,x5.2))) (fk (decide ((a0.Jobs.length:Int)≥(32:Int))) (fk (decide (((([]:List Entry)++a0.Log).length:Int)<(2000:Int))) (ck (decide (((([]:List Entry)++a0.Log).length+([⟨a3,(3:Int),a1⟩]:List Entry).length)*24≤140737488355328)) (some (⟨a0.Tasks,a0.Leaves,a0.Lasts,a0.Jobs,(([]:List Entry)++a0.Log)++([⟨a3,(3:Int),a1⟩]:List Entry)⟩,(3:Int)))) (some (⟨a0.Tasks,a0.Leaves,a0.Lasts,a0.Jobs,([]:List Entry)++a0.Log⟩,(3:Int)))) (ck (decide ((([]:List Job).length+a0.Jobs.length)*48≤140737488355328)) (ix a0.Tasks a1 fun x6=>ck (decide (((([]:List Job)++a0.Jobs).length+([⟨a1,a3,(wr (a3+x6.D)),a2,(0:Int),false⟩]:List Job).length)*48≤140737488355328)) (fk (decide (((([]:List Entry)++a0.Log).length:Int)<(2000:Int))) (ck (decide (((([]:List Entry)++a0.Log).length+([⟨a3,(1:Int),a1⟩]:List Entry).length)*24≤140737488355328)) (some (⟨a0.Tasks,a0.Leaves,x5.1,(([]:List Job)++a0.Jobs)++([⟨a1,a3,(wr (a3+x6.D)),a2,(0:Int),false⟩]:List Job),(([]:List Entry)++a0.Log)++([⟨a3,(1:Int),a1⟩]:List Entry)⟩,(0:Int)))) (some (⟨a0.Tasks,a0.Leaves,x5.1,(([]:List Job)++a0.Jobs)++([⟨a1,a3,(wr (a3+x6.D)),a2,(0:Int),false⟩]:List Job),([]:List Entry)++a0.Log⟩,(0:Int))))))))))) (fun k1=>bnd (part_Right a0) fun x2=>fk (!x2) (k1 true) (fk (decide (a1<(0:Int))) (k1 true) (fk (decide (a1≥(a0.Tasks.length:Int))) (k1 true) (fk (decide (a2<(1:Int))) (k1 true) (fk (decide (a2>(200:Int))) (k1 true) (bnd (part_when a3) fun x3=>k1 (!x3)))))))
theorem part_Release_w (a0:PartState) (a1:Int) (a2:Int) (a3:Int) (r:PartState×Int) (h:part_Release a0 a1 a2 a3=some r):Go.VC.Spec Tryz.prog 28 [.agg (PartState.enc a0),.d (.int .i64 a1),.d (.int .i64 a2),.d (.int .i64 a3)] (fun y=>y=E_PartState_Int r):=by
 refine Spec.of_xc (fn:=Tryz.f28) tab ⟨[(0,[1,2,3,4,8]),(1,[1,2,3,4,8,13]),(2,[8,9]),(3,[1,2,3,4,8,42]),(4,[8,9]),(5,[1,2,3,4,8,10]),(6,[1,2,3,4,8,10,11,12]),(7,[1,2,3,4,8,10,11,12,62]),(8,[8,10,12]),(9,[8,9]),(10,[1,2,3,4,8,10,11,73]),(11,[8,10]),(12,[8,9]),(13,[1,2,3,4,8,10]),(14,[1,8,10]),(15,[8,10]),(16,[8,9])],[],[100013],[]⟩ 119 [.cell 8 51,.tmp 9] rfl rfl rfl rfl rfl rfl ?_<;>conv=>whnf
 refine jnS (fun w1=>⟨[(1,lI a1),(2,lI a2),(3,lI a3),(4,.l (.ptr 5 0)),(8,.l (.ptr 9 0)),(13,lB w1)],119,[],[(5,[.d (.sl (a0.Tasks.map Task.enc)),.d (.sl (a0.Leaves.map eB)),.d (.sl (a0.Lasts.map (eI .i64))),.d (.sl (a0.Jobs.map Job.enc)),.d (.sl (a0.Log.map Entry.enc))]),(9,[.nil,.nil,.nil,.nil,.nil])],[]⟩) h (fun k1 hk1 h=>?_) (fun w1 h=>?_)<;>conv=>whnf
 ·refine caS (E:=E_Bool) h (part_Right_w a0) rfl (fun _=>rfl) (fun x2 h=>?_)<;>conv=>whnf
  refine fkS h (fun h=>?_) (fun h=>?_)<;>conv=>whnf
  ·exact jeS hk1 h wR
  refine fkS h (fun h=>?_) (fun h=>?_)<;>conv=>whnf
  ·exact jeS hk1 h wR
  refine lenS a0.Tasks Task.enc rfl ?_<;>conv=>whnf
  refine fkS h (fun h=>?_) (fun h=>?_)<;>conv=>whnf
  ·exact jeS hk1 h wR
  refine fkS h (fun h=>?_) (fun h=>?_)<;>conv=>whnf
  ·exact jeS hk1 h wR
  refine fkS h (fun h=>?_) (fun h=>?_)<;>conv=>whnf
  ·exact jeS hk1 h wR
  refine caS (E:=E_Bool) h (part_when_w a3) rfl (fun _=>rfl) (fun x3 h=>?_)<;>conv=>whnf
  exact jeS hk1 h wR
 refine fkS h (fun h=>?_) (fun h=>?_)<;>conv=>whnf
 ·exact rt (E:=E_PartState_Int) h rfl
 refine ixS (enc:=eB) h rfl (fun _=>rfl) (fun x4 h=>?_)<;>conv=>whnf
 refine fkS h (fun h=>?_) (fun h=>?_)<;>conv=>whnf
 ·exact rt (E:=E_PartState_Int) h rfl
 refine inS (fn:=Tryz.f75) tab ⟨[(0,[1,2]),(1,[4])],[],[],[]⟩ 14 [.tmp 4] rfl rfl rfl rfl rfl rfl ?_<;>conv=>whnf
 refine⟨7,?_⟩
 conv=>whnf
 refine liS ([]:List Entry) Entry.enc rfl rfl ?_<;>conv=>whnf
 refine apS (enc:=Entry.enc) (l1:=([]:List Entry)) (l2:=a0.Log) h rfl rfl (fun _=>rfl) (fun h=>?_)<;>conv=>whnf
 refine drS (by kernel_rfl) ?_<;>conv=>whnf
 refine ccS (E:=E_ListInt_Int) h (police_Note_w a0.Tasks a0.Lasts a1 a3) rfl rfl (fun x5 h=>?_)<;>conv=>whnf
 refine fkS h (fun h=>?_) (fun h=>?_)<;>conv=>whnf
 ·refine inS (fn:=Tryz.f77) tab ⟨[(0,[0,1,2,11]),(1,[])],[],[],[]⟩ 28 [] rfl rfl rfl rfl rfl rfl ?_<;>conv=>whnf
  refine lenS (([]:List Entry)++a0.Log) Entry.enc rfl ?_<;>conv=>whnf
  refine fkS h (fun h=>?_) (fun h=>?_)<;>conv=>whnf
  ·refine⟨14,?_⟩
   conv=>whnf
   refine liS ([⟨a3,(2:Int),a1⟩]:List Entry) Entry.enc rfl rfl ?_<;>conv=>whnf
   refine apS (enc:=Entry.enc) (l1:=([]:List Entry)++a0.Log) (l2:=([⟨a3,(2:Int),a1⟩]:List Entry)) h rfl rfl (fun _=>rfl) (fun h=>?_)<;>conv=>whnf
   refine drS (by kernel_rfl) ?_<;>conv=>whnf
   refine inS (fn:=Tryz.f78) tab ⟨[(0,[0,2]),(1,[0,2]),(2,[2])],[],[],[]⟩ 16 [.cell 2 51] rfl rfl rfl rfl rfl rfl ?_<;>conv=>whnf
   exact rt (E:=E_PartState_Int) h rfl
  refine inS (fn:=Tryz.f78) tab ⟨[(0,[0,2]),(1,[0,2]),(2,[2])],[],[],[]⟩ 16 [.cell 2 51] rfl rfl rfl rfl rfl rfl ?_<;>conv=>whnf
  exact rt (E:=E_PartState_Int) h rfl
 refine lenS a0.Jobs Job.enc rfl ?_<;>conv=>whnf
 refine fkS h (fun h=>?_) (fun h=>?_)<;>conv=>whnf
 ·refine inS (fn:=Tryz.f77) tab ⟨[(0,[0,1,2,11]),(1,[])],[],[],[]⟩ 28 [] rfl rfl rfl rfl rfl rfl ?_<;>conv=>whnf
  refine lenS (([]:List Entry)++a0.Log) Entry.enc rfl ?_<;>conv=>whnf
  refine fkS h (fun h=>?_) (fun h=>?_)<;>conv=>whnf
  ·refine⟨14,?_⟩
   conv=>whnf
   refine liS ([⟨a3,(3:Int),a1⟩]:List Entry) Entry.enc rfl rfl ?_<;>conv=>whnf
   refine apS (enc:=Entry.enc) (l1:=([]:List Entry)++a0.Log) (l2:=([⟨a3,(3:Int),a1⟩]:List Entry)) h rfl rfl (fun _=>rfl) (fun h=>?_)<;>conv=>whnf
   refine drS (by kernel_rfl) ?_<;>conv=>whnf
   refine inS (fn:=Tryz.f78) tab ⟨[(0,[0,2]),(1,[0,2]),(2,[2])],[],[],[]⟩ 16 [.cell 2 51] rfl rfl rfl rfl rfl rfl ?_<;>conv=>whnf
   exact rt (E:=E_PartState_Int) h rfl
  refine inS (fn:=Tryz.f78) tab ⟨[(0,[0,2]),(1,[0,2]),(2,[2])],[],[],[]⟩ 16 [.cell 2 51] rfl rfl rfl rfl rfl rfl ?_<;>conv=>whnf
  exact rt (E:=E_PartState_Int) h rfl
 refine⟨19,?_⟩
 conv=>whnf
 refine liS ([]:List Job) Job.enc rfl rfl ?_<;>conv=>whnf
 refine apS (enc:=Job.enc) (l1:=([]:List Job)) (l2:=a0.Jobs) h rfl rfl (fun _=>rfl) (fun h=>?_)<;>conv=>whnf
 refine ixS (enc:=Task.enc) h rfl (fun _=>rfl) (fun x6 h=>?_)<;>conv=>whnf
 refine liS ([⟨a1,a3,(wr (a3+x6.D)),a2,(0:Int),false⟩]:List Job) Job.enc rfl rfl ?_<;>conv=>whnf
 refine apS (enc:=Job.enc) (l1:=([]:List Job)++a0.Jobs) (l2:=([⟨a1,a3,(wr (a3+x6.D)),a2,(0:Int),false⟩]:List Job)) h rfl rfl (fun _=>rfl) (fun h=>?_)<;>conv=>whnf
 refine drS (by kernel_rfl) ?_<;>conv=>whnf
 refine inS (fn:=Tryz.f77) tab ⟨[(0,[0,1,2,11]),(1,[])],[],[],[]⟩ 28 [] rfl rfl rfl rfl rfl rfl ?_<;>conv=>whnf
 refine lenS (([]:List Entry)++a0.Log) Entry.enc rfl ?_<;>conv=>whnf
 refine fkS h (fun h=>?_) (fun h=>?_)<;>conv=>whnf
 ·refine⟨14,?_⟩
  conv=>whnf
  refine liS ([⟨a3,(1:Int),a1⟩]:List Entry) Entry.enc rfl rfl ?_<;>conv=>whnf
  refine apS (enc:=Entry.enc) (l1:=([]:List Entry)++a0.Log) (l2:=([⟨a3,(1:Int),a1⟩]:List Entry)) h rfl rfl (fun _=>rfl) (fun h=>?_)<;>conv=>whnf
  refine drS (by kernel_rfl) ?_<;>conv=>whnf
  refine inS (fn:=Tryz.f78) tab ⟨[(0,[0,2]),(1,[0,2]),(2,[2])],[],[],[]⟩ 16 [.cell 2 51] rfl rfl rfl rfl rfl rfl ?_<;>conv=>whnf
  exact rt (E:=E_PartState_Int) h rfl
 refine inS (fn:=Tryz.f78) tab ⟨[(0,[0,2]),(1,[0,2]),(2,[2])],[],[],[]⟩ 16 [.cell 2 51] rfl rfl rfl rfl rfl rfl ?_<;>conv=>whnf
 exact rt (E:=E_PartState_Int) h rfl
end Go.Proofs.YtldlcdnhdedoeaaGreat
namespace Go.Proofs.YtldlcdnhdedoeaaGreat
open Go Go.VC
noncomputable def task_Held (a0:Task) (a1:Int):Option (List Int):=
 bnd (task_Right a0) fun x1=>fk (!x1) (some []) (lp (fun nx2 (v2:(List Int)×Int)=>fk (decide (v2.2<(a0.Secs.length:Int))) (jn (fun (w3:List Int)=>nx2 (w3,(wr (v2.2+(1:Int))))) (fun k3=>ix a0.Secs v2.2 fun x4=>jn (fun (w5:Bool)=>fk w5 (ck (decide ((v2.1.length+([x4.Res]:List Int).length)*8≤140737488355328)) (k3 (v2.1++([x4.Res]:List Int)))) (k3 v2.1)) (fun k5=>fk (decide (x4.At<a1)) (k5 (decide (a1<(wr (x4.At+x4.Len))))) (k5 false)))) (some v2.1)) FU ([],(0:Int)))
theorem task_Held_w (a0:Task) (a1:Int) (r:List Int) (h:task_Held a0 a1=some r):Go.VC.Spec Tryz.prog 179 [.agg (Task.enc a0),.d (.int .i64 a1)] (fun y=>y=E_ListInt r):=by
 refine Spec.of_xc (fn:=Tryz.f179) tab ⟨[(0,[1,2]),(1,[1,2,10]),(2,[4]),(3,[1,2,5]),(4,[1,5,12,13,14]),(5,[1,5,12,13,14,15]),(6,[1,5,7,12,13,14]),(7,[1,5,7,12,13,14,30]),(8,[1,5,12,13,14]),(9,[1,5,12,13,14]),(10,[4])],[],[100030,9],[]⟩ 38 [.tmp 4] rfl rfl rfl rfl rfl rfl ?_<;>conv=>whnf
 refine caS (E:=E_Bool) h (task_Right_w a0) rfl (fun _=>rfl) (fun x1 h=>?_)<;>conv=>whnf
 refine fkS h (fun h=>?_) (fun h=>?_)<;>conv=>whnf
 ·exact rt (E:=E_ListInt) h rfl
 refine lenS a0.Secs Sec.enc rfl ?_<;>conv=>whnf
 refine lpS (fun v2=>⟨[(1,lI a1),(5,.l (.own 6)),(12,.l (.d (.sl (a0.Secs.map Sec.enc)))),(13,lI (a0.Secs.length:Int)),(14,lI v2.2)],38,[],[],[(6,3,1,v2.1.map (eI .i64))]⟩) h (Weak.trans (Weak.nilO _ 5 6 3 1 rfl) wR) (fun _ nx2 hn2 v2 h=>?_)<;>conv=>whnf
 refine fkS h (fun h=>?_) (fun h=>?_)<;>conv=>whnf
 ·refine jnS (fun w3=>⟨[(1,lI a1),(5,.l (.own 6)),(12,.l (.d (.sl (a0.Secs.map Sec.enc)))),(13,lI (a0.Secs.length:Int)),(14,lI v2.2)],38,[],[],[(6,3,1,w3.map (eI .i64))]⟩) h (fun k3 hk3 h=>?_) (fun w3 h=>?_)<;>conv=>whnf
  ·refine ixS (enc:=Sec.enc) h rfl (fun _=>rfl) (fun x4 h=>?_)<;>conv=>whnf
   refine jnS (fun w5=>⟨[(1,lI a1),(5,.l (.own 6)),(7,.l (.ptr 8 0)),(12,.l (.d (.sl (a0.Secs.map Sec.enc)))),(13,lI (a0.Secs.length:Int)),(14,lI v2.2),(30,lB w5)],38,[],[(8,[dI x4.Res,dI x4.At,dI x4.Len])],[(6,3,1,v2.1.map (eI .i64))]⟩) h (fun k5 hk5 h=>?_) (fun w5 h=>?_)<;>conv=>whnf
   ·refine fkS h (fun h=>?_) (fun h=>?_)<;>conv=>whnf
    ·exact jeS hk5 h wR
    exact jeS hk5 h wR
   refine fkS h (fun h=>?_) (fun h=>?_)<;>conv=>whnf
   ·refine liS ([x4.Res]:List Int) (eI .i64) rfl rfl ?_<;>conv=>whnf
    refine apS (enc:=(eI .i64)) (l1:=v2.1) (l2:=([x4.Res]:List Int)) h rfl rfl (fun _=>rfl) (fun h=>?_)<;>conv=>whnf
    exact jeS hk3 h wR
   refine jeX hk3 h ?_<;>conv=>whnf
   refine WkF.step (Weak.keepS _ [1,5,12,13,14]) ?_<;>conv=>whnf
   exact WkF.refl _
  exact leS hn2 h wR
 exact rt (E:=E_ListInt) h rfl
end Go.Proofs.YtldlcdnhdedoeaaGreat
namespace Go.Proofs.YtldlcdnhdedoeaaGreat
open Go Go.VC
noncomputable def job_Held (a0:List Task) (a1:List Job):Option (List Int):=
 bnd (job_All a0 a1) fun x1=>fk (!x1) (some []) (lp (fun nx2 (v2:(List Int)×Int)=>fk (decide (v2.2<(a1.length:Int))) (ix a1 v2.2 fun x3=>ix a0 x3.Task fun x4=>bnd (task_Held x4 x3.Had) fun x5=>ck (decide ((v2.1.length+x5.length)*8≤140737488355328)) (nx2 (v2.1++x5,(wr (v2.2+(1:Int)))))) (some v2.1)) FU ([],(0:Int)))
theorem job_Held_w (a0:List Task) (a1:List Job) (r:List Int) (h:job_Held a0 a1=some r):Go.VC.Spec Tryz.prog 169 [.d (.sl (a0.map Task.enc)),.d (.sl (a1.map Job.enc))] (fun y=>y=E_ListInt r):=by
 refine Spec.of_xc (fn:=Tryz.f169) tab ⟨[(0,[0,1]),(1,[0,1,11]),(2,[4]),(3,[0,1,5]),(4,[0,5,12,13,14]),(5,[0,5,12,13,14,15]),(6,[0,5,7,12,13,14]),(7,[0,5,12,13,14]),(8,[0,5,12,13,14]),(9,[4])],[],[],[]⟩ 30 [.tmp 4] rfl rfl rfl rfl rfl rfl ?_<;>conv=>whnf
 refine caS (E:=E_Bool) h (job_All_w a0 a1) rfl (fun _=>rfl) (fun x1 h=>?_)<;>conv=>whnf
 refine fkS h (fun h=>?_) (fun h=>?_)<;>conv=>whnf
 ·exact rt (E:=E_ListInt) h rfl
 refine lenS a1 Job.enc rfl ?_<;>conv=>whnf
 refine lpS (fun v2=>⟨[(0,.l (.d (.sl (a0.map Task.enc)))),(5,.l (.own 6)),(12,.l (.d (.sl (a1.map Job.enc)))),(13,lI (a1.length:Int)),(14,lI v2.2)],30,[],[],[(6,3,1,v2.1.map (eI .i64))]⟩) h (Weak.trans (Weak.nilO _ 5 6 3 1 rfl) wR) (fun _ nx2 hn2 v2 h=>?_)<;>conv=>whnf
 refine fkS h (fun h=>?_) (fun h=>?_)<;>conv=>whnf
 ·refine ixS (enc:=Job.enc) h rfl (fun _=>rfl) (fun x3 h=>?_)<;>conv=>whnf
  refine⟨9,?_⟩
  conv=>whnf
  refine ixS (enc:=Task.enc) h rfl (fun _=>rfl) (fun x4 h=>?_)<;>conv=>whnf
  refine dcS (E:=E_ListInt) h (task_Held_w x4 x3.Had) rfl (fun x5 h=>?_)<;>conv=>whnf
  refine drS (by kernel_rfl) ?_<;>conv=>whnf
  refine apS (enc:=(eI .i64)) (l1:=v2.1) (l2:=x5) h rfl rfl (fun _=>rfl) (fun h=>?_)<;>conv=>whnf
  exact leS hn2 h wR
 exact rt (E:=E_ListInt) h rfl
end Go.Proofs.YtldlcdnhdedoeaaGreat
namespace Go.Proofs.YtldlcdnhdedoeaaGreat
open Go Go.VC
noncomputable def level_level (a0:List Task) (a1:Task):Option Int:=
 lp (fun nx1 (v1:Int×Int)=>fk (decide (v1.2<(a0.length:Int))) (jn (fun (w2:Int)=>nx1 (w2,(wr (v1.2+(1:Int))))) (fun k2=>ix a0 v1.2 fun x3=>fk (decide (x3.D>a1.D)) (k2 (wr (v1.1+(1:Int)))) (k2 v1.1))) (some v1.1)) FU ((1:Int),(0:Int))
theorem level_level_w (a0:List Task) (a1:Task) (r:Int) (h:level_level a0 a1=some r):Go.VC.Spec Tryz.prog 187 [.d (.sl (a0.map Task.enc)),.agg (Task.enc a1)] (fun y=>y=E_Int r):=by
 refine Spec.of_xc (fn:=Tryz.f187) tab ⟨[(0,[0,3]),(1,[0,3,5]),(2,[3,5,8,9,10]),(3,[3,5,8,9,10,11]),(4,[3,5,7,8,9,10]),(5,[3,5,8,9,10,18]),(6,[3,5,8,9,10]),(7,[3,5,8,9,10]),(8,[4])],[],[7],[]⟩ 23 [.tmp 4] rfl rfl rfl rfl rfl rfl ?_<;>conv=>whnf
 refine lenS a0 Task.enc rfl ?_<;>conv=>whnf
 refine lpS (fun v1=>⟨[(3,.l (.ptr 4 0)),(5,lI v1.1),(8,.l (.d (.sl (a0.map Task.enc)))),(9,lI (a0.length:Int)),(10,lI v1.2)],23,[],[(4,[dI a1.C,dI a1.D,dI a1.T,.d (.sl (a1.Secs.map Sec.enc))])],[]⟩) h wR (fun _ nx1 hn1 v1 h=>?_)<;>conv=>whnf
 refine fkS h (fun h=>?_) (fun h=>?_)<;>conv=>whnf
 ·refine jnS (fun w2=>⟨[(3,.l (.ptr 4 0)),(5,lI w2),(8,.l (.d (.sl (a0.map Task.enc)))),(9,lI (a0.length:Int)),(10,lI v1.2)],23,[],[(4,[dI a1.C,dI a1.D,dI a1.T,.d (.sl (a1.Secs.map Sec.enc))])],[]⟩) h (fun k2 hk2 h=>?_) (fun w2 h=>?_)<;>conv=>whnf
  ·refine ixS (enc:=Task.enc) h rfl (fun _=>rfl) (fun x3 h=>?_)<;>conv=>whnf
   refine fkS h (fun h=>?_) (fun h=>?_)<;>conv=>whnf
   ·exact jeS hk2 h wR
   refine jeX hk2 h ?_<;>conv=>whnf
   refine WkF.step (Weak.keepS _ [3,5,8,9,10]) ?_<;>conv=>whnf
   exact WkF.refl _
  exact leS hn1 h wR
 exact rt (E:=E_Int) h rfl
end Go.Proofs.YtldlcdnhdedoeaaGreat
namespace Go.Proofs.YtldlcdnhdedoeaaGreat
open Go Go.VC
noncomputable def level_Of (a0:List Task) (a1:Int):Option Int:=
 jn (fun (w1:Bool)=>fk w1 (some (0:Int)) (ix a0 a1 fun x3=>bnd (level_level a0 x3) fun x4=>some x4)) (fun k1=>bnd (task_All a0) fun x2=>fk (!x2) (k1 true) (fk (decide (a1<(0:Int))) (k1 true) (k1 (decide (a1≥(a0.length:Int))))))
theorem level_Of_w (a0:List Task) (a1:Int) (r:Int) (h:level_Of a0 a1=some r):Go.VC.Spec Tryz.prog 177 [.d (.sl (a0.map Task.enc)),.d (.int .i64 a1)] (fun y=>y=E_Int r):=by
 refine Spec.of_xc (fn:=Tryz.f177) tab ⟨[(0,[0,1]),(1,[0,1,17]),(2,[4]),(3,[4])],[],[100017],[]⟩ 24 [.tmp 4] rfl rfl rfl rfl rfl rfl ?_<;>conv=>whnf
 refine jnS (fun w1=>⟨[(0,.l (.d (.sl (a0.map Task.enc)))),(1,lI a1),(17,lB w1)],24,[],[],[]⟩) h (fun k1 hk1 h=>?_) (fun w1 h=>?_)<;>conv=>whnf
 ·refine caS (E:=E_Bool) h (task_All_w a0) rfl (fun _=>rfl) (fun x2 h=>?_)<;>conv=>whnf
  refine fkS h (fun h=>?_) (fun h=>?_)<;>conv=>whnf
  ·exact jeS hk1 h wR
  refine fkS h (fun h=>?_) (fun h=>?_)<;>conv=>whnf
  ·exact jeS hk1 h wR
  refine lenS a0 Task.enc rfl ?_<;>conv=>whnf
  exact jeS hk1 h wR
 refine fkS h (fun h=>?_) (fun h=>?_)<;>conv=>whnf
 ·exact rt (E:=E_Int) h rfl
 refine ixS (enc:=Task.enc) h rfl (fun _=>rfl) (fun x3 h=>?_)<;>conv=>whnf
 refine caS (E:=E_Int) h (level_level_w a0 x3) rfl (fun _=>rfl) (fun x4 h=>?_)<;>conv=>whnf
 exact rt (E:=E_Int) h rfl
end Go.Proofs.YtldlcdnhdedoeaaGreat
namespace Go.Proofs.YtldlcdnhdedoeaaGreat
open Go Go.VC
noncomputable def level_Ceiling_1 (a0:Task) (a1:Int) (a2:List Task):Option Int:=
 bnd (task_Uses a0 a1) fun x1=>fk (!x1) (some (0:Int)) (bnd (level_level a2 a0) fun x2=>some x2)
theorem level_Ceiling_1_w (a0:Task) (a1:Int) (a2:List Task) (r:Int) (h:level_Ceiling_1 a0 a1 a2=some r):Go.VC.Spec Tryz.prog 197 [.agg (Task.enc a0),.dp [.int .i64 a1],.dp [.sl (a2.map Task.enc)]] (fun y=>y=E_Int r):=by
 refine Spec.of_xc (fn:=Tryz.f197) tab ⟨[(0,[1,2,3]),(1,[2,3,8]),(2,[4]),(3,[4])],[],[],[]⟩ 12 [.tmp 4] rfl rfl rfl rfl rfl rfl ?_<;>conv=>whnf
 refine caS (E:=E_Bool) h (task_Uses_w a0 a1) rfl (fun _=>rfl) (fun x1 h=>?_)<;>conv=>whnf
 refine fkS h (fun h=>?_) (fun h=>?_)<;>conv=>whnf
 ·exact rt (E:=E_Int) h rfl
 refine caS (E:=E_Int) h (level_level_w a2 a0) rfl (fun _=>rfl) (fun x2 h=>?_)<;>conv=>whnf
 exact rt (E:=E_Int) h rfl
end Go.Proofs.YtldlcdnhdedoeaaGreat
namespace Go.Proofs.YtldlcdnhdedoeaaGreat
open Go Go.VC
noncomputable def level_most_api_Task (a0:List Task) (a1:Int) (a2:List Task):Option Int:=
 lp (fun nx1 (v1:Int×Int)=>fk (decide (v1.2<(a0.length:Int))) (ix a0 v1.2 fun x2=>bnd (level_Ceiling_1 x2 a1 a2) fun x3=>nx1 ((if x3>v1.1 then x3 else v1.1),(wr (v1.2+(1:Int))))) (some v1.1)) FU ((0:Int),(0:Int))
theorem level_most_api_Task_w (a0:List Task) (a1:Int) (a2:List Task) (r:Int) (h:level_most_api_Task a0 a1 a2=some r):Go.VC.Spec Tryz.prog 196 [.d (.sl (a0.map Task.enc)),.d (.fn 197 [[.int .i64 a1],[.sl (a2.map Task.enc)]])] (fun y=>y=E_Int r):=by
 refine Spec.of_xc (fn:=Tryz.f196) tab ⟨[(0,[0,1]),(1,[0,1,5]),(2,[1,5,8,9,10]),(3,[1,5,8,9,10,11]),(4,[1,5,7,8,9,10]),(5,[1,5,8,9,10]),(6,[1,5,8,9,10]),(7,[4])],[],[],[]⟩ 21 [.tmp 4] rfl rfl rfl rfl rfl rfl ?_<;>conv=>whnf
 refine lenS a0 Task.enc rfl ?_<;>conv=>whnf
 refine lpS (fun v1=>⟨[(1,.l (.d (.fn 197 [[.int .i64 a1],[.sl (a2.map Task.enc)]]))),(5,lI v1.1),(8,.l (.d (.sl (a0.map Task.enc)))),(9,lI (a0.length:Int)),(10,lI v1.2)],21,[],[],[]⟩) h wR (fun _ nx1 hn1 v1 h=>?_)<;>conv=>whnf
 refine fkS h (fun h=>?_) (fun h=>?_)<;>conv=>whnf
 ·refine ixS (enc:=Task.enc) h rfl (fun _=>rfl) (fun x2 h=>?_)<;>conv=>whnf
  refine caS (E:=E_Int) h (level_Ceiling_1_w x2 a1 a2) rfl (fun _=>rfl) (fun x3 h=>?_)<;>conv=>whnf
  exact leS hn1 h wR
 exact rt (E:=E_Int) h rfl
end Go.Proofs.YtldlcdnhdedoeaaGreat
namespace Go.Proofs.YtldlcdnhdedoeaaGreat
open Go Go.VC
noncomputable def level_Ceiling (a0:List Task) (a1:Int):Option Int:=
 bnd (task_All a0) fun x1=>fk (!x1) (some (0:Int)) (bnd (level_most_api_Task a0 a1 a0) fun x2=>some x2)
theorem level_Ceiling_w (a0:List Task) (a1:Int) (r:Int) (h:level_Ceiling a0 a1=some r):Go.VC.Spec Tryz.prog 190 [.d (.sl (a0.map Task.enc)),.d (.int .i64 a1)] (fun y=>y=E_Int r):=by
 refine Spec.of_xc (fn:=Tryz.f190) tab ⟨[(0,[2,3]),(1,[2,3,7]),(2,[4]),(3,[4])],[],[],[]⟩ 11 [.tmp 4] rfl rfl rfl rfl rfl rfl ?_<;>conv=>whnf
 refine caS (E:=E_Bool) h (task_All_w a0) rfl (fun _=>rfl) (fun x1 h=>?_)<;>conv=>whnf
 refine fkS h (fun h=>?_) (fun h=>?_)<;>conv=>whnf
 ·exact rt (E:=E_Int) h rfl
 refine caS (E:=E_Int) h (level_most_api_Task_w a0 a1 a0) rfl (fun _=>rfl) (fun x2 h=>?_)<;>conv=>whnf
 exact rt (E:=E_Int) h rfl
end Go.Proofs.YtldlcdnhdedoeaaGreat
namespace Go.Proofs.YtldlcdnhdedoeaaGreat
open Go Go.VC
noncomputable def level_Held_1 (a0:Int) (a1:List Task):Option Int:=
 bnd (level_Ceiling a1 a0) fun x1=>some x1
theorem level_Held_1_w (a0:Int) (a1:List Task) (r:Int) (h:level_Held_1 a0 a1=some r):Go.VC.Spec Tryz.prog 189 [.d (.int .i64 a0),.dp [.sl (a1.map Task.enc)]] (fun y=>y=E_Int r):=by
 refine Spec.of_xc (fn:=Tryz.f189) tab ⟨[(0,[0,1]),(1,[3])],[],[],[]⟩ 7 [.tmp 3] rfl rfl rfl rfl rfl rfl ?_<;>conv=>whnf
 refine caS (E:=E_Int) h (level_Ceiling_w a1 a0) rfl (fun _=>rfl) (fun x1 h=>?_)<;>conv=>whnf
 exact rt (E:=E_Int) h rfl
end Go.Proofs.YtldlcdnhdedoeaaGreat
namespace Go.Proofs.YtldlcdnhdedoeaaGreat
open Go Go.VC
noncomputable def level_most_int (a0:List Int) (a1:List Task):Option Int:=
 lp (fun nx1 (v1:Int×Int)=>fk (decide (v1.2<(a0.length:Int))) (ix a0 v1.2 fun x2=>bnd (level_Held_1 x2 a1) fun x3=>nx1 ((if x3>v1.1 then x3 else v1.1),(wr (v1.2+(1:Int))))) (some v1.1)) FU ((0:Int),(0:Int))
theorem level_most_int_w (a0:List Int) (a1:List Task) (r:Int) (h:level_most_int a0 a1=some r):Go.VC.Spec Tryz.prog 188 [.d (.sl (a0.map (eI .i64))),.d (.fn 189 [[.sl (a1.map Task.enc)]])] (fun y=>y=E_Int r):=by
 refine Spec.of_xc (fn:=Tryz.f188) tab ⟨[(0,[0,1]),(1,[0,1,5]),(2,[1,5,8,9,10]),(3,[1,5,8,9,10,11]),(4,[1,5,7,8,9,10]),(5,[1,5,8,9,10]),(6,[1,5,8,9,10]),(7,[4])],[],[],[]⟩ 21 [.tmp 4] rfl rfl rfl rfl rfl rfl ?_<;>conv=>whnf
 refine lenS a0 (eI .i64) rfl ?_<;>conv=>whnf
 refine lpS (fun v1=>⟨[(1,.l (.d (.fn 189 [[.sl (a1.map Task.enc)]]))),(5,lI v1.1),(8,.l (.d (.sl (a0.map (eI .i64))))),(9,lI (a0.length:Int)),(10,lI v1.2)],21,[],[],[]⟩) h wR (fun _ nx1 hn1 v1 h=>?_)<;>conv=>whnf
 refine fkS h (fun h=>?_) (fun h=>?_)<;>conv=>whnf
 ·refine ixS (enc:=(eI .i64)) h rfl (fun _=>rfl) (fun x2 h=>?_)<;>conv=>whnf
  refine caS (E:=E_Int) h (level_Held_1_w x2 a1) rfl (fun _=>rfl) (fun x3 h=>?_)<;>conv=>whnf
  exact leS hn1 h wR
 exact rt (E:=E_Int) h rfl
end Go.Proofs.YtldlcdnhdedoeaaGreat
namespace Go.Proofs.YtldlcdnhdedoeaaGreat
open Go Go.VC
noncomputable def level_Held (a0:List Task) (a1:List Int):Option Int:=
 bnd (level_most_int a1 a0) fun x1=>some x1
theorem level_Held_w (a0:List Task) (a1:List Int) (r:Int) (h:level_Held a0 a1=some r):Go.VC.Spec Tryz.prog 178 [.d (.sl (a0.map Task.enc)),.d (.sl (a1.map (eI .i64)))] (fun y=>y=E_Int r):=by
 refine Spec.of_xc (fn:=Tryz.f178) tab ⟨[(0,[1,2]),(1,[4])],[],[],[]⟩ 8 [.tmp 4] rfl rfl rfl rfl rfl rfl ?_<;>conv=>whnf
 refine caS (E:=E_Int) h (level_most_int_w a1 a0) rfl (fun _=>rfl) (fun x1 h=>?_)<;>conv=>whnf
 exact rt (E:=E_Int) h rfl
end Go.Proofs.YtldlcdnhdedoeaaGreat
namespace Go.Proofs.YtldlcdnhdedoeaaGreat
open Go Go.VC
noncomputable def level_Passes (a0:List Task) (a1:Int) (a2:List Int):Option Bool:=
 bnd (level_Of a0 a1) fun x1=>bnd (level_Held a0 a2) fun x2=>some (decide (x1>x2))
theorem level_Passes_w (a0:List Task) (a1:Int) (a2:List Int) (r:Bool) (h:level_Passes a0 a1 a2=some r):Go.VC.Spec Tryz.prog 168 [.d (.sl (a0.map Task.enc)),.d (.int .i64 a1),.d (.sl (a2.map (eI .i64)))] (fun y=>y=E_Bool r):=by
 refine Spec.of_xc (fn:=Tryz.f168) tab ⟨[(0,[0,1,2]),(1,[6])],[],[],[]⟩ 14 [.tmp 6] rfl rfl rfl rfl rfl rfl ?_<;>conv=>whnf
 refine caS (E:=E_Int) h (level_Of_w a0 a1) rfl (fun _=>rfl) (fun x1 h=>?_)<;>conv=>whnf
 refine caS (E:=E_Int) h (level_Held_w a0 a2) rfl (fun _=>rfl) (fun x2 h=>?_)<;>conv=>whnf
 exact rt (E:=E_Bool) h rfl
end Go.Proofs.YtldlcdnhdedoeaaGreat
namespace Go.Proofs.YtldlcdnhdedoeaaGreat
open Go Go.VC
noncomputable def srp_Choose (a0:List Task) (a1:List Job):Option Int:=
 bnd (job_All a0 a1) fun x1=>fk (!x1) (some (-1:Int)) (bnd (job_First a1 false) fun x2=>bnd (job_First a1 true) fun x3=>jn (fun (w4:Unit)=>some x2) (fun k4=>fk (decide (x2<(0:Int))) (some x3) (jn (fun (w5:Bool)=>fk w5 (some x3) (fk (decide (x3<(0:Int))) (k4 ()) (ix a1 x2 fun x9=>bnd (job_Held a0 a1) fun x10=>bnd (level_Passes a0 x9.Task x10) fun x11=>fk x11 (k4 ()) (some x3)))) (fun k5=>fk (decide (x3≥(0:Int))) (ix a1 x2 fun x6=>ix a1 x3 fun x7=>bnd (job_Ahead x6 x7) fun x8=>k5 (!x8)) (k5 false)))))
theorem srp_Choose_w (a0:List Task) (a1:List Job) (r:Int) (h:srp_Choose a0 a1=some r):Go.VC.Spec Tryz.prog 161 [.d (.sl (a0.map Task.enc)),.d (.sl (a1.map Job.enc))] (fun y=>y=E_Int r):=by
 refine Spec.of_xc (fn:=Tryz.f161) tab ⟨[(0,[0,1]),(1,[0,1,10]),(2,[4]),(3,[0,1,5,6]),(4,[0,1,5,6,15]),(5,[0,1,5,6,18]),(6,[0,1,5,6,33]),(7,[5,6,36]),(8,[4]),(9,[4]),(10,[4]),(11,[4])],[],[100018,10],[]⟩ 51 [.tmp 4] rfl rfl rfl rfl rfl rfl ?_<;>conv=>whnf
 refine caS (E:=E_Bool) h (job_All_w a0 a1) rfl (fun _=>rfl) (fun x1 h=>?_)<;>conv=>whnf
 refine fkS h (fun h=>?_) (fun h=>?_)<;>conv=>whnf
 ·exact rt (E:=E_Int) h rfl
 refine caS (E:=E_Int) h (job_First_w a1 false) rfl (fun _=>rfl) (fun x2 h=>?_)<;>conv=>whnf
 refine caS (E:=E_Int) h (job_First_w a1 true) rfl (fun _=>rfl) (fun x3 h=>?_)<;>conv=>whnf
 refine jnS (fun w4=>⟨[(5,lI x2)],51,[],[],[]⟩) h (fun k4 hk4 h=>?_) (fun w4 h=>?_)<;>conv=>whnf
 ·refine fkS h (fun h=>?_) (fun h=>?_)<;>conv=>whnf
  ·exact rt (E:=E_Int) h rfl
  refine jnS (fun w5=>⟨[(0,.l (.d (.sl (a0.map Task.enc)))),(1,.l (.d (.sl (a1.map Job.enc)))),(5,lI x2),(6,lI x3),(18,lB w5)],51,[],[],[]⟩) h (fun k5 hk5 h=>?_) (fun w5 h=>?_)<;>conv=>whnf
  ·refine⟨14,?_⟩
   conv=>whnf
   refine fkS h (fun h=>?_) (fun h=>?_)<;>conv=>whnf
   ·refine ixS (enc:=Job.enc) h rfl (fun _=>rfl) (fun x6 h=>?_)<;>conv=>whnf
    refine ixS (enc:=Job.enc) h rfl (fun _=>rfl) (fun x7 h=>?_)<;>conv=>whnf
    refine daS (E:=E_Bool) h (job_Ahead_w x6 x7) (fun _=>rfl) (fun x8 h=>?_)<;>conv=>whnf
    refine drS (by kernel_rfl) ?_<;>conv=>whnf
    exact jeS hk5 h wR
   refine drS (by kernel_rfl) ?_<;>conv=>whnf
   exact jeS hk5 h wR
  refine fkS h (fun h=>?_) (fun h=>?_)<;>conv=>whnf
  ·exact rt (E:=E_Int) h rfl
  refine fkS h (fun h=>?_) (fun h=>?_)<;>conv=>whnf
  ·refine jeX hk4 h ?_<;>conv=>whnf
   refine WkF.step (Weak.keepS _ [5]) ?_<;>conv=>whnf
   exact WkF.refl _
  refine⟨9,?_⟩
  conv=>whnf
  refine ixS (enc:=Job.enc) h rfl (fun _=>rfl) (fun x9 h=>?_)<;>conv=>whnf
  refine dcS (E:=E_ListInt) h (job_Held_w a0 a1) rfl (fun x10 h=>?_)<;>conv=>whnf
  refine drS (by kernel_rfl) ?_<;>conv=>whnf
  refine caS (E:=E_Bool) h (level_Passes_w a0 x9.Task x10) rfl (fun _=>rfl) (fun x11 h=>?_)<;>conv=>whnf
  refine fkS h (fun h=>?_) (fun h=>?_)<;>conv=>whnf
  ·refine jeX hk4 h ?_<;>conv=>whnf
   refine WkF.step (Weak.keepS _ [5]) ?_<;>conv=>whnf
   exact WkF.refl _
  exact rt (E:=E_Int) h rfl
 exact rt (E:=E_Int) h rfl
end Go.Proofs.YtldlcdnhdedoeaaGreat
namespace Go.Proofs.YtldlcdnhdedoeaaGreat
open Go Go.VC
noncomputable def srp_Tick (a0:List Task) (a1:List Job):Option ((List Job)×Job×Bool):=
 bnd (srp_Choose a0 a1) fun x1=>fk (decide (x1<(0:Int))) (some (a1,⟨(0:Int),(0:Int),(0:Int),(0:Int),(0:Int),false⟩,false)) (ix a1 x1 fun x2=>ix a0 x2.Task fun x3=>ck (decide ((0:Int)≤(0:Int)) && decide ((0:Int)≤x1) && decide (x1≤(a1.length:Int))) (ck (decide ((([]:List Job).length+((a1.take x1.toNat).drop (0:Int).toNat).length)*48≤140737488355328)) (jn (fun (w4:List Job)=>ck (decide ((0:Int)≤(wr (x1+(1:Int)))) && decide ((wr (x1+(1:Int)))≤(a1.length:Int)) && decide ((a1.length:Int)≤(a1.length:Int))) (ck (decide ((w4.length+((a1.take (a1.length:Int).toNat).drop (wr (x1+(1:Int))).toNat).length)*48≤140737488355328)) (some (w4++((a1.take (a1.length:Int).toNat).drop (wr (x1+(1:Int))).toNat),⟨x2.Task,x2.At,x2.Due,x2.Want,(wr (x2.Had+(1:Int))),true⟩,(decide ((wr (x2.Had+(1:Int)))≥(if x3.C<x2.Want then x3.C else x2.Want))))))) (fun k4=>fk (!(decide ((wr (x2.Had+(1:Int)))≥(if x3.C<x2.Want then x3.C else x2.Want)))) (ck (decide (((([]:List Job)++((a1.take x1.toNat).drop (0:Int).toNat)).length+([⟨x2.Task,x2.At,x2.Due,x2.Want,(wr (x2.Had+(1:Int))),true⟩]:List Job).length)*48≤140737488355328)) (k4 ((([]:List Job)++((a1.take x1.toNat).drop (0:Int).toNat))++([⟨x2.Task,x2.At,x2.Due,x2.Want,(wr (x2.Had+(1:Int))),true⟩]:List Job)))) (k4 (([]:List Job)++((a1.take x1.toNat).drop (0:Int).toNat)))))))
theorem srp_Tick_w (a0:List Task) (a1:List Job) (r:(List Job)×Job×Bool) (h:srp_Tick a0 a1=some r):Go.VC.Spec Tryz.prog 143 [.d (.sl (a0.map Task.enc)),.d (.sl (a1.map Job.enc))] (fun y=>y=E_ListJob_Job_Bool r):=by
 refine Spec.of_xc (fn:=Tryz.f143) tab ⟨[(0,[0,1,5]),(1,[0,1,5,7]),(2,[0,1,5,7,15]),(3,[4,5,6]),(4,[0,1,5,7,8]),(5,[0,1,5,7,8]),(6,[0,1,5,7,8]),(7,[1,5,7,8,9]),(8,[1,5,7,8,9,10]),(9,[1,5,7,8,9,10,45]),(10,[1,5,7,8,9,10]),(11,[4,5,6])],[],[11],[]⟩ 58 [.tmp 4,.cell 5 164,.tmp 6] rfl rfl rfl rfl rfl rfl ?_<;>conv=>whnf
 refine caS (E:=E_Int) h (srp_Choose_w a0 a1) rfl (fun _=>rfl) (fun x1 h=>?_)<;>conv=>whnf
 refine fkS h (fun h=>?_) (fun h=>?_)<;>conv=>whnf
 ·exact rt (E:=E_ListJob_Job_Bool) h rfl
 refine ixS (enc:=Job.enc) h rfl (fun _=>rfl) (fun x2 h=>?_)<;>conv=>whnf
 refine⟨11,?_⟩
 conv=>whnf
 refine ixS (enc:=Task.enc) h rfl (fun _=>rfl) (fun x3 h=>?_)<;>conv=>whnf
 refine drS (by kernel_rfl) ?_<;>conv=>whnf
 refine liS ([]:List Job) Job.enc rfl rfl ?_<;>conv=>whnf
 refine slS (enc:=Job.enc) h rfl rfl (.inl rfl) (fun _=>rfl) (fun h=>?_)<;>conv=>whnf
 refine apS (enc:=Job.enc) (l1:=([]:List Job)) (l2:=(a1.take x1.toNat).drop (0:Int).toNat) h rfl rfl (fun _=>rfl) (fun h=>?_)<;>conv=>whnf
 refine jnS (fun w4=>⟨[(1,.l (.d (.sl (a1.map Job.enc)))),(5,.l (.ptr 6 0)),(7,lI x1),(8,.l (.ptr 9 0)),(9,lB (decide ((wr (x2.Had+(1:Int)))≥(if x3.C<x2.Want then x3.C else x2.Want)))),(10,.l (.own 11))],58,[],[(6,[dI (0:Int),dI (0:Int),dI (0:Int),dI (0:Int),dI (0:Int),.d (.bool false)]),(9,[dI x2.Task,dI x2.At,dI x2.Due,dI x2.Want,dI (wr (x2.Had+(1:Int))),.d (.bool true)])],[(11,164,6,w4.map Job.enc)]⟩) h (fun k4 hk4 h=>?_) (fun w4 h=>?_)<;>conv=>whnf
 ·refine fkS h (fun h=>?_) (fun h=>?_)<;>conv=>whnf
  ·refine liS ([⟨x2.Task,x2.At,x2.Due,x2.Want,(wr (x2.Had+(1:Int))),true⟩]:List Job) Job.enc rfl rfl ?_<;>conv=>whnf
   refine apS (enc:=Job.enc) (l1:=([]:List Job)++((a1.take x1.toNat).drop (0:Int).toNat)) (l2:=([⟨x2.Task,x2.At,x2.Due,x2.Want,(wr (x2.Had+(1:Int))),true⟩]:List Job)) h rfl rfl (fun _=>rfl) (fun h=>?_)<;>conv=>whnf
   exact jeS hk4 h wR
  refine jeX hk4 h ?_<;>conv=>whnf
  refine WkF.step (Weak.keepS _ [1,5,7,8,9,10]) ?_<;>conv=>whnf
  exact WkF.refl _
 refine⟨10,?_⟩
 conv=>whnf
 refine slS (enc:=Job.enc) h rfl rfl (.inl rfl) (fun _=>rfl) (fun h=>?_)<;>conv=>whnf
 refine apS (enc:=Job.enc) (l1:=w4) (l2:=(a1.take (a1.length:Int).toNat).drop (wr (x1+(1:Int))).toNat) h rfl rfl (fun _=>rfl) (fun h=>?_)<;>conv=>whnf
 refine drS (by kernel_rfl) ?_<;>conv=>whnf
 exact rt (E:=E_ListJob_Job_Bool) h rfl
end Go.Proofs.YtldlcdnhdedoeaaGreat
namespace Go.Proofs.YtldlcdnhdedoeaaGreat
open Go Go.VC
noncomputable def part_without_api_Task (a0:List Task) (a1:Int):Option (List Task):=
 ck (decide ((0:Int)≤(0:Int)) && decide ((0:Int)≤a1) && decide (a1≤(a0.length:Int))) (ck (decide ((([]:List Task).length+((a0.take a1.toNat).drop (0:Int).toNat).length)*48≤140737488355328)) (ck (decide ((0:Int)≤(wr (a1+(1:Int)))) && decide ((wr (a1+(1:Int)))≤(a0.length:Int)) && decide ((a0.length:Int)≤(a0.length:Int))) (ck (decide (((([]:List Task)++((a0.take a1.toNat).drop (0:Int).toNat)).length+((a0.take (a0.length:Int).toNat).drop (wr (a1+(1:Int))).toNat).length)*48≤140737488355328)) (some ((([]:List Task)++((a0.take a1.toNat).drop (0:Int).toNat))++((a0.take (a0.length:Int).toNat).drop (wr (a1+(1:Int))).toNat))))))
theorem part_without_api_Task_w (a0:List Task) (a1:Int) (r:List Task) (h:part_without_api_Task a0 a1=some r):Go.VC.Spec Tryz.prog 144 [.d (.sl (a0.map Task.enc)),.d (.int .i64 a1)] (fun y=>y=E_ListTask r):=by
 refine Spec.of_xc (fn:=Tryz.f144) tab ⟨[(0,[0,1]),(1,[4])],[],[],[]⟩ 15 [.tmp 4] rfl rfl rfl rfl rfl rfl ?_<;>conv=>whnf
 refine⟨9,?_⟩
 conv=>whnf
 refine liS ([]:List Task) Task.enc rfl rfl ?_<;>conv=>whnf
 refine slS (enc:=Task.enc) h rfl rfl (.inl rfl) (fun _=>rfl) (fun h=>?_)<;>conv=>whnf
 refine apS (enc:=Task.enc) (l1:=([]:List Task)) (l2:=(a0.take a1.toNat).drop (0:Int).toNat) h rfl rfl (fun _=>rfl) (fun h=>?_)<;>conv=>whnf
 refine slS (enc:=Task.enc) h rfl rfl (.inl rfl) (fun _=>rfl) (fun h=>?_)<;>conv=>whnf
 refine drS (by kernel_rfl) ?_<;>conv=>whnf
 refine apS (enc:=Task.enc) (l1:=([]:List Task)++((a0.take a1.toNat).drop (0:Int).toNat)) (l2:=(a0.take (a0.length:Int).toNat).drop (wr (a1+(1:Int))).toNat) h rfl rfl (fun _=>rfl) (fun h=>?_)<;>conv=>whnf
 exact rt (E:=E_ListTask) h rfl
end Go.Proofs.YtldlcdnhdedoeaaGreat
namespace Go.Proofs.YtldlcdnhdedoeaaGreat
open Go Go.VC
noncomputable def part_without_bool (a0:List Bool) (a1:Int):Option (List Bool):=
 ck (decide ((0:Int)≤(0:Int)) && decide ((0:Int)≤a1) && decide (a1≤(a0.length:Int))) (ck (decide ((([]:List Bool).length+((a0.take a1.toNat).drop (0:Int).toNat).length)*1≤140737488355328)) (ck (decide ((0:Int)≤(wr (a1+(1:Int)))) && decide ((wr (a1+(1:Int)))≤(a0.length:Int)) && decide ((a0.length:Int)≤(a0.length:Int))) (ck (decide (((([]:List Bool)++((a0.take a1.toNat).drop (0:Int).toNat)).length+((a0.take (a0.length:Int).toNat).drop (wr (a1+(1:Int))).toNat).length)*1≤140737488355328)) (some ((([]:List Bool)++((a0.take a1.toNat).drop (0:Int).toNat))++((a0.take (a0.length:Int).toNat).drop (wr (a1+(1:Int))).toNat))))))
theorem part_without_bool_w (a0:List Bool) (a1:Int) (r:List Bool) (h:part_without_bool a0 a1=some r):Go.VC.Spec Tryz.prog 145 [.d (.sl (a0.map eB)),.d (.int .i64 a1)] (fun y=>y=E_ListBool r):=by
 refine Spec.of_xc (fn:=Tryz.f145) tab ⟨[(0,[0,1]),(1,[4])],[],[],[]⟩ 15 [.tmp 4] rfl rfl rfl rfl rfl rfl ?_<;>conv=>whnf
 refine⟨9,?_⟩
 conv=>whnf
 refine liS ([]:List Bool) eB rfl rfl ?_<;>conv=>whnf
 refine slS (enc:=eB) h rfl rfl (.inl rfl) (fun _=>rfl) (fun h=>?_)<;>conv=>whnf
 refine apS (enc:=eB) (l1:=([]:List Bool)) (l2:=(a0.take a1.toNat).drop (0:Int).toNat) h rfl rfl (fun _=>rfl) (fun h=>?_)<;>conv=>whnf
 refine slS (enc:=eB) h rfl rfl (.inl rfl) (fun _=>rfl) (fun h=>?_)<;>conv=>whnf
 refine drS (by kernel_rfl) ?_<;>conv=>whnf
 refine apS (enc:=eB) (l1:=([]:List Bool)++((a0.take a1.toNat).drop (0:Int).toNat)) (l2:=(a0.take (a0.length:Int).toNat).drop (wr (a1+(1:Int))).toNat) h rfl rfl (fun _=>rfl) (fun h=>?_)<;>conv=>whnf
 exact rt (E:=E_ListBool) h rfl
end Go.Proofs.YtldlcdnhdedoeaaGreat
namespace Go.Proofs.YtldlcdnhdedoeaaGreat
open Go Go.VC
noncomputable def part_without_int (a0:List Int) (a1:Int):Option (List Int):=
 ck (decide ((0:Int)≤(0:Int)) && decide ((0:Int)≤a1) && decide (a1≤(a0.length:Int))) (ck (decide ((([]:List Int).length+((a0.take a1.toNat).drop (0:Int).toNat).length)*8≤140737488355328)) (ck (decide ((0:Int)≤(wr (a1+(1:Int)))) && decide ((wr (a1+(1:Int)))≤(a0.length:Int)) && decide ((a0.length:Int)≤(a0.length:Int))) (ck (decide (((([]:List Int)++((a0.take a1.toNat).drop (0:Int).toNat)).length+((a0.take (a0.length:Int).toNat).drop (wr (a1+(1:Int))).toNat).length)*8≤140737488355328)) (some ((([]:List Int)++((a0.take a1.toNat).drop (0:Int).toNat))++((a0.take (a0.length:Int).toNat).drop (wr (a1+(1:Int))).toNat))))))
theorem part_without_int_w (a0:List Int) (a1:Int) (r:List Int) (h:part_without_int a0 a1=some r):Go.VC.Spec Tryz.prog 146 [.d (.sl (a0.map (eI .i64))),.d (.int .i64 a1)] (fun y=>y=E_ListInt r):=by
 refine Spec.of_xc (fn:=Tryz.f146) tab ⟨[(0,[0,1]),(1,[4])],[],[],[]⟩ 15 [.tmp 4] rfl rfl rfl rfl rfl rfl ?_<;>conv=>whnf
 refine⟨9,?_⟩
 conv=>whnf
 refine liS ([]:List Int) (eI .i64) rfl rfl ?_<;>conv=>whnf
 refine slS (enc:=(eI .i64)) h rfl rfl (.inl rfl) (fun _=>rfl) (fun h=>?_)<;>conv=>whnf
 refine apS (enc:=(eI .i64)) (l1:=([]:List Int)) (l2:=(a0.take a1.toNat).drop (0:Int).toNat) h rfl rfl (fun _=>rfl) (fun h=>?_)<;>conv=>whnf
 refine slS (enc:=(eI .i64)) h rfl rfl (.inl rfl) (fun _=>rfl) (fun h=>?_)<;>conv=>whnf
 refine drS (by kernel_rfl) ?_<;>conv=>whnf
 refine apS (enc:=(eI .i64)) (l1:=([]:List Int)++((a0.take a1.toNat).drop (0:Int).toNat)) (l2:=(a0.take (a0.length:Int).toNat).drop (wr (a1+(1:Int))).toNat) h rfl rfl (fun _=>rfl) (fun h=>?_)<;>conv=>whnf
 exact rt (E:=E_ListInt) h rfl
end Go.Proofs.YtldlcdnhdedoeaaGreat
namespace Go.Proofs.YtldlcdnhdedoeaaGreat
open Go Go.VC
noncomputable def part_Tick (a0:PartState) (a1:Bool) (a2:Int):Option (PartState×Int×Int):=
 jn (fun (w1:Bool)=>fk w1 (some (a0,(-1:Int),(1:Int))) (ck (decide ((([]:List Entry).length+a0.Log.length)*24≤140737488355328)) (lp (fun nx4 (v4:(List Job)×(List Entry)×Int)=>fk (decide (v4.2.2<(a0.Jobs.length:Int))) (jn (fun (w5:(List Job)×(List Entry))=>nx4 (w5.1,w5.2,(wr (v4.2.2+(1:Int))))) (fun k5=>ix a0.Jobs v4.2.2 fun x6=>fk (decide (x6.Due>a2)) (ck (decide ((v4.1.length+([x6]:List Job).length)*48≤140737488355328)) (k5 (v4.1++([x6]:List Job),v4.2.1))) (fk (decide ((v4.2.1.length:Int)<(2000:Int))) (ck (decide ((v4.2.1.length+([⟨a2,(6:Int),x6.Task⟩]:List Entry).length)*24≤140737488355328)) (k5 (v4.1,v4.2.1++([⟨a2,(6:Int),x6.Task⟩]:List Entry)))) (k5 (v4.1,v4.2.1))))) (jn (fun (w7:(List Job)×(List Entry)×Int)=>jn (fun (w11:(List Task)×(List Bool)×(List Int)×(List Entry))=>some (⟨w11.1,w11.2.1,w11.2.2.1,w7.1,w11.2.2.2⟩,w7.2.2,(0:Int))) (fun k11=>fk (decide ((w7.1.length:Int)=(0:Int))) (lp (fun nx12 (v12:(List Task)×(List Bool)×(List Int)×(List Entry)×Int)=>fk (decide (v12.2.2.2.2≥(0:Int))) (jn (fun (w13:(List Task)×(List Bool)×(List Int)×(List Entry))=>nx12 (w13.1,w13.2.1,w13.2.2.1,w13.2.2.2,(wr (v12.2.2.2.2-(1:Int))))) (fun k13=>ix v12.2.1 v12.2.2.2.2 fun x14=>fk x14 (bnd (part_without_api_Task v12.1 v12.2.2.2.2) fun x15=>bnd (part_without_bool v12.2.1 v12.2.2.2.2) fun x16=>bnd (part_without_int v12.2.2.1 v12.2.2.2.2) fun x17=>fk (decide ((v12.2.2.2.1.length:Int)<(2000:Int))) (ck (decide ((v12.2.2.2.1.length+([⟨a2,(7:Int),v12.2.2.2.2⟩]:List Entry).length)*24≤140737488355328)) (k13 (x15,x16,x17,v12.2.2.2.1++([⟨a2,(7:Int),v12.2.2.2.2⟩]:List Entry)))) (k13 (x15,x16,x17,v12.2.2.2.1))) (k13 (v12.1,v12.2.1,v12.2.2.1,v12.2.2.2.1)))) (k11 (v12.1,v12.2.1,v12.2.2.1,v12.2.2.2.1))) FU (a0.Tasks,a0.Leaves,a0.Lasts,w7.2.1,(wr ((a0.Tasks.length:Int)-(1:Int))))) (k11 (a0.Tasks,a0.Leaves,a0.Lasts,w7.2.1)))) (fun k7=>fk a1 (bnd (srp_Tick a0.Tasks v4.1) fun x8=>fk (decide ((v4.1.length:Int)=(0:Int))) (k7 (v4.1,v4.2.1,(-1:Int))) (jn (fun (w9:Bool)=>fk w9 (fk (decide ((v4.2.1.length:Int)<(2000:Int))) (ck (decide ((v4.2.1.length+([⟨a2,(5:Int),x8.2.1.Task⟩]:List Entry).length)*24≤140737488355328)) (k7 (x8.1,v4.2.1++([⟨a2,(5:Int),x8.2.1.Task⟩]:List Entry),x8.2.1.Task))) (k7 (x8.1,v4.2.1,x8.2.1.Task))) (fk x8.2.2 (fk (decide ((v4.2.1.length:Int)<(2000:Int))) (ck (decide ((v4.2.1.length+([⟨a2,(4:Int),x8.2.1.Task⟩]:List Entry).length)*24≤140737488355328)) (k7 (x8.1,v4.2.1++([⟨a2,(4:Int),x8.2.1.Task⟩]:List Entry),x8.2.1.Task))) (k7 (x8.1,v4.2.1,x8.2.1.Task))) (k7 (x8.1,v4.2.1,x8.2.1.Task)))) (fun k9=>fk x8.2.2 (ix a0.Tasks x8.2.1.Task fun x10=>k9 (decide (x8.2.1.Want>x10.C))) (k9 false)))) (k7 (v4.1,v4.2.1,(-1:Int)))))) FU ([],([]:List Entry)++a0.Log,(0:Int))))) (fun k1=>bnd (part_Right a0) fun x2=>fk (!x2) (k1 true) (bnd (part_when a2) fun x3=>k1 (!x3)))
theorem part_Tick_w (a0:PartState) (a1:Bool) (a2:Int) (r:PartState×Int×Int) (h:part_Tick a0 a1 a2=some r):Go.VC.Spec Tryz.prog 36 [.agg (PartState.enc a0),.d (.bool a1),.d (.int .i64 a2)] (fun y=>y=E_PartState_Int_Int r):=by
 refine Spec.of_xc (fn:=Tryz.f36) tab ⟨[(0,[1,2,3,6]),(1,[1,2,3,6,18]),(2,[6,7,8]),(3,[1,6,9]),(4,[1,6,9]),(5,[1,6,9,10]),(6,[6,9,10,25]),(7,[6,9,10]),(8,[6,9,10,34]),(9,[6,9,10]),(10,[6,7,8])],[],[100018,10,8],[]⟩ 40 [.cell 6 51,.tmp 7,.tmp 8] rfl rfl rfl rfl rfl rfl ?_<;>conv=>whnf
 refine jnS (fun w1=>⟨[(1,lB a1),(2,lI a2),(3,.l (.ptr 4 0)),(6,.l (.ptr 7 0)),(18,lB w1)],40,[],[(4,[.d (.sl (a0.Tasks.map Task.enc)),.d (.sl (a0.Leaves.map eB)),.d (.sl (a0.Lasts.map (eI .i64))),.d (.sl (a0.Jobs.map Job.enc)),.d (.sl (a0.Log.map Entry.enc))]),(7,[.nil,.nil,.nil,.nil,.nil])],[]⟩) h (fun k1 hk1 h=>?_) (fun w1 h=>?_)<;>conv=>whnf
 ·refine caS (E:=E_Bool) h (part_Right_w a0) rfl (fun _=>rfl) (fun x2 h=>?_)<;>conv=>whnf
  refine fkS h (fun h=>?_) (fun h=>?_)<;>conv=>whnf
  ·exact jeS hk1 h wR
  refine caS (E:=E_Bool) h (part_when_w a2) rfl (fun _=>rfl) (fun x3 h=>?_)<;>conv=>whnf
  exact jeS hk1 h wR
 refine fkS h (fun h=>?_) (fun h=>?_)<;>conv=>whnf
 ·exact rt (E:=E_PartState_Int_Int) h rfl
 refine inS (fn:=Tryz.f75) tab ⟨[(0,[1,2]),(1,[4])],[],[],[]⟩ 14 [.tmp 4] rfl rfl rfl rfl rfl rfl ?_<;>conv=>whnf
 refine⟨7,?_⟩
 conv=>whnf
 refine liS ([]:List Entry) Entry.enc rfl rfl ?_<;>conv=>whnf
 refine apS (enc:=Entry.enc) (l1:=([]:List Entry)) (l2:=a0.Log) h rfl rfl (fun _=>rfl) (fun h=>?_)<;>conv=>whnf
 refine drS (by kernel_rfl) ?_<;>conv=>whnf
 refine inS (fn:=Tryz.f91) tab ⟨[(0,[0,2]),(1,[0,2,9,10,11]),(2,[0,2,9,10,11,12]),(3,[0,2,4,9,10,11]),(4,[0,2,4,9,10,11,22]),(5,[0,2,9,10,11]),(6,[0,2,9,10,11]),(7,[0,2,9,10,11]),(8,[])],[],[7],[]⟩ 39 [] rfl rfl rfl rfl rfl rfl ?_<;>conv=>whnf
 refine lenS a0.Jobs Job.enc rfl ?_<;>conv=>whnf
 refine lpS (fun v4=>⟨[(0,.l (.ptr 1014 0)),(2,.l (.own 1003)),(9,.l (.d (.sl (a0.Jobs.map Job.enc)))),(10,lI (a0.Jobs.length:Int)),(11,lI v4.2.2)],39,[⟨[(23,.l (.ptr 1014 0)),(1,lB a1),(6,.l (.ptr 7 0)),(9,.l (.ptr 1014 0))],40⟩],[(7,[.nil,.nil,.nil,.nil,.nil]),(1014,[.own 1009,dI a2,.d (.sl (a0.Tasks.map Task.enc)),.d (.sl (a0.Leaves.map eB)),.d (.sl (a0.Lasts.map (eI .i64))),.d (.sl (a0.Jobs.map Job.enc)),.d (.sl (a0.Log.map Entry.enc))])],[(1003,164,6,v4.1.map Job.enc),(1009,126,3,v4.2.1.map Entry.enc)]⟩) h (Weak.trans (Weak.nilO _ 2 1003 164 6 rfl) wR) (fun _ nx4 hn4 v4 h=>?_)<;>conv=>whnf
 refine fkS h (fun h=>?_) (fun h=>?_)<;>conv=>whnf
 ·refine jnS (fun w5=>⟨[(0,.l (.ptr 1014 0)),(2,.l (.own 1003)),(9,.l (.d (.sl (a0.Jobs.map Job.enc)))),(10,lI (a0.Jobs.length:Int)),(11,lI v4.2.2)],39,[⟨[(23,.l (.ptr 1014 0)),(1,lB a1),(6,.l (.ptr 7 0)),(9,.l (.ptr 1014 0))],40⟩],[(7,[.nil,.nil,.nil,.nil,.nil]),(1014,[.own 1009,dI a2,.d (.sl (a0.Tasks.map Task.enc)),.d (.sl (a0.Leaves.map eB)),.d (.sl (a0.Lasts.map (eI .i64))),.d (.sl (a0.Jobs.map Job.enc)),.d (.sl (a0.Log.map Entry.enc))])],[(1003,164,6,w5.1.map Job.enc),(1009,126,3,w5.2.map Entry.enc)]⟩) h (fun k5 hk5 h=>?_) (fun w5 h=>?_)<;>conv=>whnf
  ·refine ixS (enc:=Job.enc) h rfl (fun _=>rfl) (fun x6 h=>?_)<;>conv=>whnf
   refine⟨7,?_⟩
   conv=>whnf
   refine drS (by kernel_rfl) ?_<;>conv=>whnf
   refine fkS h (fun h=>?_) (fun h=>?_)<;>conv=>whnf
   ·refine liS ([x6]:List Job) Job.enc rfl rfl ?_<;>conv=>whnf
    refine apS (enc:=Job.enc) (l1:=v4.1) (l2:=([x6]:List Job)) h rfl rfl (fun _=>rfl) (fun h=>?_)<;>conv=>whnf
    exact jeS hk5 h wR
   refine⟨5,?_⟩
   conv=>whnf
   refine drS (by kernel_rfl) ?_<;>conv=>whnf
   refine inS (fn:=Tryz.f77) tab ⟨[(0,[0,1,2,11]),(1,[])],[],[],[]⟩ 28 [] rfl rfl rfl rfl rfl rfl ?_<;>conv=>whnf
   refine lenS v4.2.1 Entry.enc rfl ?_<;>conv=>whnf
   refine fkS h (fun h=>?_) (fun h=>?_)<;>conv=>whnf
   ·refine⟨14,?_⟩
    conv=>whnf
    refine liS ([⟨a2,(6:Int),x6.Task⟩]:List Entry) Entry.enc rfl rfl ?_<;>conv=>whnf
    refine apS (enc:=Entry.enc) (l1:=v4.2.1) (l2:=([⟨a2,(6:Int),x6.Task⟩]:List Entry)) h rfl rfl (fun _=>rfl) (fun h=>?_)<;>conv=>whnf
    refine drS (by kernel_rfl) ?_<;>conv=>whnf
    refine jeX hk5 h ?_<;>conv=>whnf
    refine WkF.step (Weak.rekey _ 2026 1009 rfl) ?_<;>conv=>whnf
    exact WkF.refl _
   exact jeS hk5 h wR
  exact leS hn4 h wR
 refine jnS (fun w7=>⟨[(6,.l (.ptr 7 0)),(9,.l (.ptr 1014 0)),(10,lI w7.2.2)],40,[],[(7,[.nil,.nil,.nil,.nil,.nil]),(1014,[.own 1009,dI a2,.d (.sl (a0.Tasks.map Task.enc)),.d (.sl (a0.Leaves.map eB)),.d (.sl (a0.Lasts.map (eI .i64))),.d (.sl (w7.1.map Job.enc)),.d (.sl (a0.Log.map Entry.enc))])],[(1009,126,3,w7.2.1.map Entry.enc)]⟩) h (fun k7 hk7 h=>?_) (fun w7 h=>?_)<;>conv=>whnf
 ·refine fkS h (fun h=>?_) (fun h=>?_)<;>conv=>whnf
  ·refine inS (fn:=Tryz.f92) tab ⟨[(0,[0]),(1,[0,3,4,5]),(2,[0,3,4,5,27]),(3,[2]),(4,[0,4,5]),(5,[0,4,5,33]),(6,[4]),(7,[0,4,56]),(8,[4]),(9,[2])],[(0,[1003])],[100033],[]⟩ 66 [.tmp 2] rfl rfl rfl rfl rfl rfl ?_<;>conv=>whnf
   refine⟨18,?_⟩
   conv=>whnf
   refine dcS (E:=E_ListJob_Job_Bool) h (srp_Tick_w a0.Tasks v4.1) rfl (fun x8 h=>?_)<;>conv=>whnf
   refine drS (by kernel_rfl) ?_<;>conv=>whnf
   refine lenS v4.1 Job.enc rfl ?_<;>conv=>whnf
   refine fkS h (fun h=>?_) (fun h=>?_)<;>conv=>whnf
   ·exact jeS hk7 h wR
   refine jnS (fun w9=>⟨[(0,.l (.ptr 1014 0)),(4,.l (.ptr 1005 0)),(5,lB x8.2.2),(33,lB w9)],66,[⟨[(26,.l (.ptr 1014 0)),(25,lB true),(6,.l (.ptr 7 0)),(9,.l (.ptr 1014 0)),(10,lI (-1:Int)),(25,lB a1)],40⟩],[(7,[.nil,.nil,.nil,.nil,.nil]),(1005,[dI x8.2.1.Task,dI x8.2.1.At,dI x8.2.1.Due,dI x8.2.1.Want,dI x8.2.1.Had,.d (.bool x8.2.1.Began)]),(1014,[.own 1009,dI a2,.d (.sl (a0.Tasks.map Task.enc)),.d (.sl (a0.Leaves.map eB)),.d (.sl (a0.Lasts.map (eI .i64))),.d (.sl (x8.1.map Job.enc)),.d (.sl (a0.Log.map Entry.enc))])],[(1009,126,3,v4.2.1.map Entry.enc)]⟩) h (fun k9 hk9 h=>?_) (fun w9 h=>?_)<;>conv=>whnf
   ·refine⟨16,?_⟩
    conv=>whnf
    refine fkS h (fun h=>?_) (fun h=>?_)<;>conv=>whnf
    ·refine ixS (enc:=Task.enc) h rfl (fun _=>rfl) (fun x10 h=>?_)<;>conv=>whnf
     refine drS (by kernel_rfl) ?_<;>conv=>whnf
     exact jeS hk9 h wR
    refine drS (by kernel_rfl) ?_<;>conv=>whnf
    exact jeS hk9 h wR
   refine fkS h (fun h=>?_) (fun h=>?_)<;>conv=>whnf
   ·refine⟨5,?_⟩
    conv=>whnf
    refine drS (by kernel_rfl) ?_<;>conv=>whnf
    refine inS (fn:=Tryz.f77) tab ⟨[(0,[0,1,2,11]),(1,[])],[],[],[]⟩ 28 [] rfl rfl rfl rfl rfl rfl ?_<;>conv=>whnf
    refine lenS v4.2.1 Entry.enc rfl ?_<;>conv=>whnf
    refine fkS h (fun h=>?_) (fun h=>?_)<;>conv=>whnf
    ·refine⟨14,?_⟩
     conv=>whnf
     refine liS ([⟨a2,(5:Int),x8.2.1.Task⟩]:List Entry) Entry.enc rfl rfl ?_<;>conv=>whnf
     refine apS (enc:=Entry.enc) (l1:=v4.2.1) (l2:=([⟨a2,(5:Int),x8.2.1.Task⟩]:List Entry)) h rfl rfl (fun _=>rfl) (fun h=>?_)<;>conv=>whnf
     refine drS (by kernel_rfl) ?_<;>conv=>whnf
     refine jeX hk7 h ?_<;>conv=>whnf
     refine WkF.step (Weak.rekey _ 2026 1009 rfl) ?_<;>conv=>whnf
     exact WkF.refl _
    exact jeS hk7 h wR
   refine fkS h (fun h=>?_) (fun h=>?_)<;>conv=>whnf
   ·refine⟨5,?_⟩
    conv=>whnf
    refine drS (by kernel_rfl) ?_<;>conv=>whnf
    refine inS (fn:=Tryz.f77) tab ⟨[(0,[0,1,2,11]),(1,[])],[],[],[]⟩ 28 [] rfl rfl rfl rfl rfl rfl ?_<;>conv=>whnf
    refine lenS v4.2.1 Entry.enc rfl ?_<;>conv=>whnf
    refine fkS h (fun h=>?_) (fun h=>?_)<;>conv=>whnf
    ·refine⟨14,?_⟩
     conv=>whnf
     refine liS ([⟨a2,(4:Int),x8.2.1.Task⟩]:List Entry) Entry.enc rfl rfl ?_<;>conv=>whnf
     refine apS (enc:=Entry.enc) (l1:=v4.2.1) (l2:=([⟨a2,(4:Int),x8.2.1.Task⟩]:List Entry)) h rfl rfl (fun _=>rfl) (fun h=>?_)<;>conv=>whnf
     refine drS (by kernel_rfl) ?_<;>conv=>whnf
     refine jeX hk7 h ?_<;>conv=>whnf
     refine WkF.step (Weak.rekey _ 2026 1009 rfl) ?_<;>conv=>whnf
     exact WkF.refl _
    exact jeS hk7 h wR
   exact jeS hk7 h wR
  refine jeX hk7 h ?_<;>conv=>whnf
  refine WkF.step (Weak.keepS _ [6,9,10]) ?_<;>conv=>whnf
  refine WkF.step (Weak.ice _ 1003) ?_<;>conv=>whnf
  exact WkF.refl _
 refine jnS (fun w11=>⟨[(6,.l (.ptr 7 0)),(9,.l (.ptr 1014 0)),(10,lI w7.2.2)],40,[],[(7,[.nil,.nil,.nil,.nil,.nil]),(1014,[.own 1009,dI a2,.d (.sl (w11.1.map Task.enc)),.d (.sl (w11.2.1.map eB)),.d (.sl (w11.2.2.1.map (eI .i64))),.d (.sl (w7.1.map Job.enc)),.d (.sl (a0.Log.map Entry.enc))])],[(1009,126,3,w11.2.2.2.map Entry.enc)]⟩) h (fun k11 hk11 h=>?_) (fun w11 h=>?_)<;>conv=>whnf
 ·refine lenS w7.1 Job.enc rfl ?_<;>conv=>whnf
  refine fkS h (fun h=>?_) (fun h=>?_)<;>conv=>whnf
  ·refine inS (fn:=Tryz.f93) tab ⟨[(0,[0,2]),(1,[0,2,11]),(2,[0,2]),(3,[0,2,21]),(4,[0,2]),(5,[0,2])],[],[2],[]⟩ 60 [] rfl rfl rfl rfl rfl rfl ?_<;>conv=>whnf
   refine lenS a0.Tasks Task.enc rfl ?_<;>conv=>whnf
   refine lpS (fun v12=>⟨[(0,.l (.ptr 1014 0)),(2,lI v12.2.2.2.2)],60,[⟨[(35,.l (.ptr 1014 0)),(34,lB true),(6,.l (.ptr 7 0)),(9,.l (.ptr 1014 0)),(10,lI w7.2.2),(34,lB (decide ((w7.1.length:Int)=(0:Int))))],40⟩],[(7,[.nil,.nil,.nil,.nil,.nil]),(1014,[.own 1009,dI a2,.d (.sl (v12.1.map Task.enc)),.d (.sl (v12.2.1.map eB)),.d (.sl (v12.2.2.1.map (eI .i64))),.d (.sl (w7.1.map Job.enc)),.d (.sl (a0.Log.map Entry.enc))])],[(1009,126,3,v12.2.2.2.1.map Entry.enc)]⟩) h wR (fun _ nx12 hn12 v12 h=>?_)<;>conv=>whnf
   refine fkS h (fun h=>?_) (fun h=>?_)<;>conv=>whnf
   ·refine jnS (fun w13=>⟨[(0,.l (.ptr 1014 0)),(2,lI v12.2.2.2.2)],60,[⟨[(35,.l (.ptr 1014 0)),(34,lB true),(6,.l (.ptr 7 0)),(9,.l (.ptr 1014 0)),(10,lI w7.2.2),(34,lB (decide ((w7.1.length:Int)=(0:Int))))],40⟩],[(7,[.nil,.nil,.nil,.nil,.nil]),(1014,[.own 2026,dI a2,.d (.sl (w13.1.map Task.enc)),.d (.sl (w13.2.1.map eB)),.d (.sl (w13.2.2.1.map (eI .i64))),.d (.sl (w7.1.map Job.enc)),.d (.sl (a0.Log.map Entry.enc))])],[(2026,126,3,w13.2.2.2.map Entry.enc)]⟩) h (fun k13 hk13 h=>?_) (fun w13 h=>?_)<;>conv=>whnf
    ·refine ixS (enc:=eB) h rfl (fun _=>rfl) (fun x14 h=>?_)<;>conv=>whnf
     refine fkS h (fun h=>?_) (fun h=>?_)<;>conv=>whnf
     ·refine⟨32,?_⟩
      conv=>whnf
      refine dcS (E:=E_ListTask) h (part_without_api_Task_w v12.1 v12.2.2.2.2) rfl (fun x15 h=>?_)<;>conv=>whnf
      refine dcS (E:=E_ListBool) h (part_without_bool_w v12.2.1 v12.2.2.2.2) rfl (fun x16 h=>?_)<;>conv=>whnf
      refine dcS (E:=E_ListInt) h (part_without_int_w v12.2.2.1 v12.2.2.2.2) rfl (fun x17 h=>?_)<;>conv=>whnf
      refine drS (by kernel_rfl) ?_<;>conv=>whnf
      refine inS (fn:=Tryz.f77) tab ⟨[(0,[0,1,2,11]),(1,[])],[],[],[]⟩ 28 [] rfl rfl rfl rfl rfl rfl ?_<;>conv=>whnf
      refine lenS v12.2.2.2.1 Entry.enc rfl ?_<;>conv=>whnf
      refine fkS h (fun h=>?_) (fun h=>?_)<;>conv=>whnf
      ·refine⟨14,?_⟩
       conv=>whnf
       refine liS ([⟨a2,(7:Int),v12.2.2.2.2⟩]:List Entry) Entry.enc rfl rfl ?_<;>conv=>whnf
       refine apS (enc:=Entry.enc) (l1:=v12.2.2.2.1) (l2:=([⟨a2,(7:Int),v12.2.2.2.2⟩]:List Entry)) h rfl rfl (fun _=>rfl) (fun h=>?_)<;>conv=>whnf
       refine drS (by kernel_rfl) ?_<;>conv=>whnf
       exact jeS hk13 h wR
      refine jeX hk13 h ?_<;>conv=>whnf
      refine WkF.step (Weak.rekey _ 1009 2026 rfl) ?_<;>conv=>whnf
      exact WkF.refl _
     refine jeX hk13 h ?_<;>conv=>whnf
     refine WkF.step (Weak.keepS _ [0,2]) ?_<;>conv=>whnf
     refine WkF.step (Weak.rekey _ 1009 2026 rfl) ?_<;>conv=>whnf
     exact WkF.refl _
    refine leX hn12 h ?_<;>conv=>whnf
    refine WkF.step (Weak.rekey _ 2026 1009 rfl) ?_<;>conv=>whnf
    exact WkF.refl _
   exact jeS hk11 h wR
  refine jeX hk11 h ?_<;>conv=>whnf
  refine WkF.step (Weak.keepS _ [6,9,10]) ?_<;>conv=>whnf
  exact WkF.refl _
 refine inS (fn:=Tryz.f78) tab ⟨[(0,[0,2]),(1,[0,2]),(2,[2])],[],[],[]⟩ 16 [.cell 2 51] rfl rfl rfl rfl rfl rfl ?_<;>conv=>whnf
 exact rt (E:=E_PartState_Int_Int) h rfl
end Go.Proofs.YtldlcdnhdedoeaaGreat
namespace Go.Proofs.YtldlcdnhdedoeaaGreat
open Go Go.VC
noncomputable def ref05_SameInts (a0:List Int) (a1:List Int):Option Bool:=
 fk (!decide ((a0.length:Int)=(a1.length:Int))) (some false) (lp (fun nx1 (v1:Int)=>fk (decide (v1<(a0.length:Int))) (ix a0 v1 fun x2=>ix a1 v1 fun x3=>fk (!decide (x2=x3)) (some false) (nx1 (wr (v1+(1:Int))))) (some true)) FU (0:Int))
theorem ref05_SameInts_w (a0:List Int) (a1:List Int) (r:Bool) (h:ref05_SameInts a0 a1=some r):Go.VC.Spec Tryz.prog 18 [.d (.sl (a0.map (eI .i64))),.d (.sl (a1.map (eI .i64)))] (fun y=>y=E_Bool r):=by
 refine Spec.of_xc (fn:=Tryz.f18) tab ⟨[(0,[0,1]),(1,[0,1,10]),(2,[4]),(3,[0,1,5]),(4,[0,1,5,14]),(5,[0,1,5]),(6,[0,1,5,25]),(7,[4]),(8,[4])],[],[],[]⟩ 26 [.tmp 4] rfl rfl rfl rfl rfl rfl ?_<;>conv=>whnf
 refine lenS a0 (eI .i64) rfl ?_<;>conv=>whnf
 refine lenS a1 (eI .i64) rfl ?_<;>conv=>whnf
 refine fkS h (fun h=>?_) (fun h=>?_)<;>conv=>whnf
 ·exact rt (E:=E_Bool) h rfl
 refine lpS (fun v1=>⟨[(0,.l (.d (.sl (a0.map (eI .i64))))),(1,.l (.d (.sl (a1.map (eI .i64))))),(5,lI v1)],26,[],[],[]⟩) h wR (fun _ nx1 hn1 v1 h=>?_)<;>conv=>whnf
 refine lenS a0 (eI .i64) rfl ?_<;>conv=>whnf
 refine fkS h (fun h=>?_) (fun h=>?_)<;>conv=>whnf
 ·refine⟨8,?_⟩
  conv=>whnf
  refine ixS (enc:=(eI .i64)) h rfl (fun _=>rfl) (fun x2 h=>?_)<;>conv=>whnf
  refine ixS (enc:=(eI .i64)) h rfl (fun _=>rfl) (fun x3 h=>?_)<;>conv=>whnf
  refine drS (by kernel_rfl) ?_<;>conv=>whnf
  refine fkS h (fun h=>?_) (fun h=>?_)<;>conv=>whnf
  ·exact rt (E:=E_Bool) h rfl
  exact leS hn1 h wR
 exact rt (E:=E_Bool) h rfl
end Go.Proofs.YtldlcdnhdedoeaaGreat
namespace Go.Proofs.YtldlcdnhdedoeaaGreat
open Go Go.VC
noncomputable def ref17_SameLog (a0:List Entry) (a1:List Entry):Option Bool:=
 fk (!decide ((a0.length:Int)=(a1.length:Int))) (some false) (lp (fun nx1 (v1:Int)=>fk (decide (v1<(a0.length:Int))) (ix a0 v1 fun x2=>ix a1 v1 fun x3=>fk (!(eqI [.i .i64 x2.At,.i .i64 x2.Kind,.i .i64 x2.Task] [.i .i64 x3.At,.i .i64 x3.Kind,.i .i64 x3.Task])) (some false) (nx1 (wr (v1+(1:Int))))) (some true)) FU (0:Int))
theorem ref17_SameLog_w (a0:List Entry) (a1:List Entry) (r:Bool) (h:ref17_SameLog a0 a1=some r):Go.VC.Spec Tryz.prog 68 [.d (.sl (a0.map Entry.enc)),.d (.sl (a1.map Entry.enc))] (fun y=>y=E_Bool r):=by
 refine Spec.of_xc (fn:=Tryz.f68) tab ⟨[(0,[0,1]),(1,[0,1,10]),(2,[4]),(3,[0,1,5]),(4,[0,1,5,14]),(5,[0,1,5]),(6,[0,1,5,25]),(7,[4]),(8,[4])],[],[],[]⟩ 26 [.tmp 4] rfl rfl rfl rfl rfl rfl ?_<;>conv=>whnf
 refine lenS a0 Entry.enc rfl ?_<;>conv=>whnf
 refine lenS a1 Entry.enc rfl ?_<;>conv=>whnf
 refine fkS h (fun h=>?_) (fun h=>?_)<;>conv=>whnf
 ·exact rt (E:=E_Bool) h rfl
 refine lpS (fun v1=>⟨[(0,.l (.d (.sl (a0.map Entry.enc)))),(1,.l (.d (.sl (a1.map Entry.enc)))),(5,lI v1)],26,[],[],[]⟩) h wR (fun _ nx1 hn1 v1 h=>?_)<;>conv=>whnf
 refine lenS a0 Entry.enc rfl ?_<;>conv=>whnf
 refine fkS h (fun h=>?_) (fun h=>?_)<;>conv=>whnf
 ·refine⟨8,?_⟩
  conv=>whnf
  refine ixS (enc:=Entry.enc) h rfl (fun _=>rfl) (fun x2 h=>?_)<;>conv=>whnf
  refine ixS (enc:=Entry.enc) h rfl (fun _=>rfl) (fun x3 h=>?_)<;>conv=>whnf
  refine drS (by kernel_rfl) ?_<;>conv=>whnf
  refine fkS h (fun h=>?_) (fun h=>?_)<;>conv=>whnf
  ·exact rt (E:=E_Bool) h rfl
  exact leS hn1 h wR
 exact rt (E:=E_Bool) h rfl
end Go.Proofs.YtldlcdnhdedoeaaGreat
namespace Go.Proofs.YtldlcdnhdedoeaaGreat
open Go Go.VC
noncomputable def ref09_Right (a0:Face):Option Bool:=
 fk (decide (a0.P≥(1:Int))) (fk (decide (a0.P≤(200:Int))) (fk (decide (a0.B≥(1:Int))) (some (decide (a0.B≤a0.P))) (some false)) (some false)) (some false)
theorem ref09_Right_w (a0:Face) (r:Bool) (h:ref09_Right a0=some r):Go.VC.Spec Tryz.prog 112 [.agg (Face.enc a0)] (fun y=>y=E_Bool r):=by
 refine Spec.of_xc (fn:=Tryz.f112) tab ⟨[(0,[1]),(1,[2])],[],[],[]⟩ 23 [.tmp 2] rfl rfl rfl rfl rfl rfl ?_<;>conv=>whnf
 refine fkS h (fun h=>?_) (fun h=>?_)<;>conv=>whnf
 ·refine fkS h (fun h=>?_) (fun h=>?_)<;>conv=>whnf
  ·refine fkS h (fun h=>?_) (fun h=>?_)<;>conv=>whnf
   ·exact rt (E:=E_Bool) h rfl
   exact rt (E:=E_Bool) h rfl
  exact rt (E:=E_Bool) h rfl
 exact rt (E:=E_Bool) h rfl
end Go.Proofs.YtldlcdnhdedoeaaGreat
namespace Go.Proofs.YtldlcdnhdedoeaaGreat
open Go Go.VC
noncomputable def ref05_Right (a0:Task):Option Bool:=
 jn (fun (w1:Bool)=>fk w1 (some false) (lp (fun nx2 (v2:Int)=>fk (decide (v2<(a0.Secs.length:Int))) (ix a0.Secs v2 fun x3=>jn (fun (w4:Bool)=>fk w4 (some false) (lp (fun nx5 (v5:Int)=>fk (decide (v5<v2)) (ix a0.Secs v5 fun x6=>jn (fun (w7:Bool)=>fk w7 (some false) (lp (fun nx8 (v8:Int×Int×Int)=>fk (decide (v8.2.2<(wr (x3.At+x3.Len)))) (jn (fun (w9:Int×Int)=>nx8 (w9.1,w9.2,(wr (v8.2.2+(1:Int))))) (fun k9=>fk (decide (v8.2.2<(wr (x6.At+x6.Len)))) (k9 ((wr (v8.1+(1:Int))),v8.2.1)) (k9 (v8.1,(wr (v8.2.1+(1:Int))))))) (jn (fun (w10:Bool)=>fk w10 (some false) (nx5 (wr (v5+(1:Int))))) (fun k10=>fk (decide (v8.1>(0:Int))) (fk (decide (v8.2.1>(0:Int))) (k10 true) (k10 (decide (x6.Res=x3.Res)))) (k10 false)))) FU ((0:Int),(0:Int),x3.At))) (fun k7=>fk (decide (x3.At<x6.At)) (k7 true) (fk (decide (x3.At=x6.At)) (k7 (decide (x3.Len>x6.Len))) (k7 false)))) (nx2 (wr (v2+(1:Int))))) FU (0:Int))) (fun k4=>fk (decide (x3.Res<(0:Int))) (k4 true) (fk (decide (x3.Res>(3:Int))) (k4 true) (fk (decide (x3.At<(0:Int))) (k4 true) (fk (decide (x3.Len<(1:Int))) (k4 true) (fk (decide (x3.At>a0.C)) (k4 true) (fk (decide (x3.Len>a0.C)) (k4 true) (k4 (decide ((wr (x3.At+x3.Len))>a0.C)))))))))) (some true)) FU (0:Int))) (fun k1=>fk (decide (a0.C<(1:Int))) (k1 true) (fk (decide (a0.D<a0.C)) (k1 true) (fk (decide (a0.T<a0.D)) (k1 true) (fk (decide (a0.T>(200:Int))) (k1 true) (k1 (decide ((a0.Secs.length:Int)>(4:Int))))))))
theorem ref05_Right_w (a0:Task) (r:Bool) (h:ref05_Right a0=some r):Go.VC.Spec Tryz.prog 150 [.agg (Task.enc a0)] (fun y=>y=E_Bool r):=by
 refine Spec.of_xc (fn:=Tryz.f150) tab ⟨[(0,[1]),(1,[1,37]),(2,[2]),(3,[1,3]),(4,[1,3,42]),(5,[1,3]),(6,[1,3,4]),(7,[1,3,4,91]),(8,[2]),(9,[1,3,4,5]),(10,[1,3,4,5,94]),(11,[1,3,4,5]),(12,[1,3,4,5,6]),(13,[1,3,4,5,6,120]),(14,[2]),(15,[1,3,4,5,6,7,8]),(16,[1,3,4,5,6,7,8,9]),(17,[1,3,4,5,6,7,8,9,129]),(18,[1,3,4,5,6,7,8,9]),(19,[1,3,4,5,6,7,8,9,138]),(20,[1,3,4,5,6,7,8,9]),(21,[1,3,4,5,6,7,8,9]),(22,[1,3,4,5,155]),(23,[2]),(24,[2])],[],[100037,100091,100120,18,100155],[]⟩ 156 [.tmp 2] rfl rfl rfl rfl rfl rfl ?_<;>conv=>whnf
 refine jnS (fun w1=>⟨[(1,.l (.ptr 2 0)),(37,lB w1)],156,[],[(2,[dI a0.C,dI a0.D,dI a0.T,.d (.sl (a0.Secs.map Sec.enc))])],[]⟩) h (fun k1 hk1 h=>?_) (fun w1 h=>?_)<;>conv=>whnf
 ·refine fkS h (fun h=>?_) (fun h=>?_)<;>conv=>whnf
  ·exact jeS hk1 h wR
  refine fkS h (fun h=>?_) (fun h=>?_)<;>conv=>whnf
  ·exact jeS hk1 h wR
  refine fkS h (fun h=>?_) (fun h=>?_)<;>conv=>whnf
  ·exact jeS hk1 h wR
  refine fkS h (fun h=>?_) (fun h=>?_)<;>conv=>whnf
  ·exact jeS hk1 h wR
  refine lenS a0.Secs Sec.enc rfl ?_<;>conv=>whnf
  exact jeS hk1 h wR
 refine fkS h (fun h=>?_) (fun h=>?_)<;>conv=>whnf
 ·exact rt (E:=E_Bool) h rfl
 refine lpS (fun v2=>⟨[(1,.l (.ptr 2 0)),(3,lI v2)],156,[],[(2,[dI a0.C,dI a0.D,dI a0.T,.d (.sl (a0.Secs.map Sec.enc))])],[]⟩) h wR (fun _ nx2 hn2 v2 h=>?_)<;>conv=>whnf
 refine lenS a0.Secs Sec.enc rfl ?_<;>conv=>whnf
 refine fkS h (fun h=>?_) (fun h=>?_)<;>conv=>whnf
 ·refine ixS (enc:=Sec.enc) h rfl (fun _=>rfl) (fun x3 h=>?_)<;>conv=>whnf
  refine jnS (fun w4=>⟨[(1,.l (.ptr 2 0)),(3,lI v2),(4,.l (.ptr 5 0)),(91,lB w4)],156,[],[(2,[dI a0.C,dI a0.D,dI a0.T,.d (.sl (a0.Secs.map Sec.enc))]),(5,[dI x3.Res,dI x3.At,dI x3.Len])],[]⟩) h (fun k4 hk4 h=>?_) (fun w4 h=>?_)<;>conv=>whnf
  ·refine fkS h (fun h=>?_) (fun h=>?_)<;>conv=>whnf
   ·exact jeS hk4 h wR
   refine fkS h (fun h=>?_) (fun h=>?_)<;>conv=>whnf
   ·exact jeS hk4 h wR
   refine fkS h (fun h=>?_) (fun h=>?_)<;>conv=>whnf
   ·exact jeS hk4 h wR
   refine fkS h (fun h=>?_) (fun h=>?_)<;>conv=>whnf
   ·exact jeS hk4 h wR
   refine fkS h (fun h=>?_) (fun h=>?_)<;>conv=>whnf
   ·exact jeS hk4 h wR
   refine fkS h (fun h=>?_) (fun h=>?_)<;>conv=>whnf
   ·exact jeS hk4 h wR
   exact jeS hk4 h wR
  refine fkS h (fun h=>?_) (fun h=>?_)<;>conv=>whnf
  ·exact rt (E:=E_Bool) h rfl
  refine lpS (fun v5=>⟨[(1,.l (.ptr 2 0)),(3,lI v2),(4,.l (.ptr 5 0)),(5,lI v5)],156,[],[(2,[dI a0.C,dI a0.D,dI a0.T,.d (.sl (a0.Secs.map Sec.enc))]),(5,[dI x3.Res,dI x3.At,dI x3.Len])],[]⟩) h wR (fun _ nx5 hn5 v5 h=>?_)<;>conv=>whnf
  refine fkS h (fun h=>?_) (fun h=>?_)<;>conv=>whnf
  ·refine ixS (enc:=Sec.enc) h rfl (fun _=>rfl) (fun x6 h=>?_)<;>conv=>whnf
   refine jnS (fun w7=>⟨[(1,.l (.ptr 2 0)),(3,lI v2),(4,.l (.ptr 5 0)),(5,lI v5),(6,.l (.ptr 7 0)),(120,lB w7)],156,[],[(2,[dI a0.C,dI a0.D,dI a0.T,.d (.sl (a0.Secs.map Sec.enc))]),(5,[dI x3.Res,dI x3.At,dI x3.Len]),(7,[dI x6.Res,dI x6.At,dI x6.Len])],[]⟩) h (fun k7 hk7 h=>?_) (fun w7 h=>?_)<;>conv=>whnf
   ·refine fkS h (fun h=>?_) (fun h=>?_)<;>conv=>whnf
    ·exact jeS hk7 h wR
    refine fkS h (fun h=>?_) (fun h=>?_)<;>conv=>whnf
    ·exact jeS hk7 h wR
    exact jeS hk7 h wR
   refine fkS h (fun h=>?_) (fun h=>?_)<;>conv=>whnf
   ·exact rt (E:=E_Bool) h rfl
   refine lpS (fun v8=>⟨[(1,.l (.ptr 2 0)),(3,lI v2),(4,.l (.ptr 5 0)),(5,lI v5),(6,.l (.ptr 7 0)),(7,lI v8.1),(8,lI v8.2.1),(9,lI v8.2.2)],156,[],[(2,[dI a0.C,dI a0.D,dI a0.T,.d (.sl (a0.Secs.map Sec.enc))]),(5,[dI x3.Res,dI x3.At,dI x3.Len]),(7,[dI x6.Res,dI x6.At,dI x6.Len])],[]⟩) h wR (fun _ nx8 hn8 v8 h=>?_)<;>conv=>whnf
   refine fkS h (fun h=>?_) (fun h=>?_)<;>conv=>whnf
   ·refine jnS (fun w9=>⟨[(1,.l (.ptr 2 0)),(3,lI v2),(4,.l (.ptr 5 0)),(5,lI v5),(6,.l (.ptr 7 0)),(7,lI w9.1),(8,lI w9.2),(9,lI v8.2.2)],156,[],[(2,[dI a0.C,dI a0.D,dI a0.T,.d (.sl (a0.Secs.map Sec.enc))]),(5,[dI x3.Res,dI x3.At,dI x3.Len]),(7,[dI x6.Res,dI x6.At,dI x6.Len])],[]⟩) h (fun k9 hk9 h=>?_) (fun w9 h=>?_)<;>conv=>whnf
    ·refine fkS h (fun h=>?_) (fun h=>?_)<;>conv=>whnf
     ·exact jeS hk9 h wR
     exact jeS hk9 h wR
    exact leS hn8 h wR
   refine jnS (fun w10=>⟨[(1,.l (.ptr 2 0)),(3,lI v2),(4,.l (.ptr 5 0)),(5,lI v5),(155,lB w10)],156,[],[(2,[dI a0.C,dI a0.D,dI a0.T,.d (.sl (a0.Secs.map Sec.enc))]),(5,[dI x3.Res,dI x3.At,dI x3.Len])],[]⟩) h (fun k10 hk10 h=>?_) (fun w10 h=>?_)<;>conv=>whnf
   ·refine fkS h (fun h=>?_) (fun h=>?_)<;>conv=>whnf
    ·refine fkS h (fun h=>?_) (fun h=>?_)<;>conv=>whnf
     ·exact jeS hk10 h wR
     exact jeS hk10 h wR
    exact jeS hk10 h wR
   refine fkS h (fun h=>?_) (fun h=>?_)<;>conv=>whnf
   ·exact rt (E:=E_Bool) h rfl
   exact leS hn5 h wR
  exact leS hn2 h wR
 exact rt (E:=E_Bool) h rfl
end Go.Proofs.YtldlcdnhdedoeaaGreat
namespace Go.Proofs.YtldlcdnhdedoeaaGreat
open Go Go.VC
noncomputable def ref05_All (a0:List Task):Option Bool:=
 lp (fun nx1 (v1:Int×Int)=>fk (decide (v1.2<(a0.length:Int))) (jn (fun (w2:Int)=>nx1 (w2,(wr (v1.2+(1:Int))))) (fun k2=>ix a0 v1.2 fun x3=>bnd (ref05_Right x3) fun x4=>fk x4 (k2 (wr (v1.1+(1:Int)))) (k2 v1.1))) (fk (decide (v1.1=(a0.length:Int))) (some (decide (v1.1≤(8:Int)))) (some false))) FU ((0:Int),(0:Int))
theorem ref05_All_w (a0:List Task) (r:Bool) (h:ref05_All a0=some r):Go.VC.Spec Tryz.prog 111 [.d (.sl (a0.map Task.enc))] (fun y=>y=E_Bool r):=by
 refine Spec.of_xc (fn:=Tryz.f111) tab ⟨[(0,[0]),(1,[0,3]),(2,[0,3,4]),(3,[0,3,4,8]),(4,[0,3,4]),(5,[0,3,4,15]),(6,[0,3,4]),(7,[2])],[],[4],[]⟩ 26 [.tmp 2] rfl rfl rfl rfl rfl rfl ?_<;>conv=>whnf
 refine lpS (fun v1=>⟨[(0,.l (.d (.sl (a0.map Task.enc)))),(3,lI v1.1),(4,lI v1.2)],26,[],[],[]⟩) h wR (fun _ nx1 hn1 v1 h=>?_)<;>conv=>whnf
 refine lenS a0 Task.enc rfl ?_<;>conv=>whnf
 refine fkS h (fun h=>?_) (fun h=>?_)<;>conv=>whnf
 ·refine jnS (fun w2=>⟨[(0,.l (.d (.sl (a0.map Task.enc)))),(3,lI w2),(4,lI v1.2)],26,[],[],[]⟩) h (fun k2 hk2 h=>?_) (fun w2 h=>?_)<;>conv=>whnf
  ·refine ixS (enc:=Task.enc) h rfl (fun _=>rfl) (fun x3 h=>?_)<;>conv=>whnf
   refine caS (E:=E_Bool) h (ref05_Right_w x3) rfl (fun _=>rfl) (fun x4 h=>?_)<;>conv=>whnf
   refine fkS h (fun h=>?_) (fun h=>?_)<;>conv=>whnf
   ·exact jeS hk2 h wR
   refine jeX hk2 h ?_<;>conv=>whnf
   refine WkF.step (Weak.keepS _ [0,3,4]) ?_<;>conv=>whnf
   exact WkF.refl _
  exact leS hn1 h wR
 refine lenS a0 Task.enc rfl ?_<;>conv=>whnf
 refine fkS h (fun h=>?_) (fun h=>?_)<;>conv=>whnf
 ·exact rt (E:=E_Bool) h rfl
 exact rt (E:=E_Bool) h rfl
end Go.Proofs.YtldlcdnhdedoeaaGreat
namespace Go.Proofs.YtldlcdnhdedoeaaGreat
open Go Go.VC
noncomputable def ref10_Cycle (a0:List Task) (a1:Face):Option (Int×Int×Int):=
 jn (fun (w1:Bool)=>fk w1 (some ((0:Int),(0:Int),(1:Int))) (lp (fun nx4 (v4:Int×Int)=>fk (decide (v4.2<(a0.length:Int))) (jn (fun (w5:Int)=>nx4 (w5,(wr (v4.2+(1:Int))))) (fun k5=>ix a0 v4.2 fun x6=>fk (decide (x6.D>v4.1)) (ix a0 v4.2 fun x7=>k5 x7.D) (k5 v4.1))) (lp (fun nx8 (v8:Int)=>fk (decide ((wr (v8+v4.1))≤(3000:Int))) (lp (fun nx9 (v9:Bool×Int)=>fk (decide (v9.2<(a0.length:Int))) (jn (fun (w10:Bool)=>nx9 (w10,(wr (v9.2+(1:Int))))) (fun k10=>fk v9.1 (ix a0 v9.2 fun x11=>ck (decide (x11.T≠0)) (k10 (decide ((v8.tmod x11.T)=(0:Int))))) (k10 false))) (fk v9.1 (some (v8,(wr (v8+v4.1)),(0:Int))) (nx8 (wr (v8+a1.P))))) FU (true,(0:Int))) (some ((0:Int),(0:Int),(5:Int)))) FU a1.P)) FU ((wr ((2:Int)*a1.P)),(0:Int)))) (fun k1=>bnd (ref05_All a0) fun x2=>fk (!x2) (k1 true) (bnd (ref09_Right a1) fun x3=>k1 (!x3)))
theorem ref10_Cycle_w (a0:List Task) (a1:Face) (r:Int×Int×Int) (h:ref10_Cycle a0 a1=some r):Go.VC.Spec Tryz.prog 53 [.d (.sl (a0.map Task.enc)),.agg (Face.enc a1)] (fun y=>y=E_Int_Int_Int r):=by
 refine Spec.of_xc (fn:=Tryz.f53) tab ⟨[(0,[0,3]),(1,[0,3,19]),(2,[4,5,6]),(3,[0,3,7]),(4,[0,3,7,8]),(5,[0,3,7,8,26]),(6,[0,3,7,8]),(7,[0,3,7,8,35]),(8,[0,3,7,8]),(9,[0,3,7,9]),(10,[0,3,7,9,46]),(11,[0,3,7,9]),(12,[0,3,7,9,10]),(13,[0,3,7,9,10,11]),(14,[0,3,7,9,10,11,54]),(15,[0,3,7,9,10,11]),(16,[0,3,7,9,10,11]),(17,[0,3,7,9,68]),(18,[4,5,6]),(19,[4,5,6])],[],[100019,6,15],[]⟩ 73 [.tmp 4,.tmp 5,.tmp 6] rfl rfl rfl rfl rfl rfl ?_<;>conv=>whnf
 refine jnS (fun w1=>⟨[(0,.l (.d (.sl (a0.map Task.enc)))),(3,.l (.ptr 4 0)),(19,lB w1)],73,[],[(4,[dI a1.P,dI a1.B])],[]⟩) h (fun k1 hk1 h=>?_) (fun w1 h=>?_)<;>conv=>whnf
 ·refine caS (E:=E_Bool) h (ref05_All_w a0) rfl (fun _=>rfl) (fun x2 h=>?_)<;>conv=>whnf
  refine fkS h (fun h=>?_) (fun h=>?_)<;>conv=>whnf
  ·exact jeS hk1 h wR
  refine caS (E:=E_Bool) h (ref09_Right_w a1) rfl (fun _=>rfl) (fun x3 h=>?_)<;>conv=>whnf
  exact jeS hk1 h wR
 refine fkS h (fun h=>?_) (fun h=>?_)<;>conv=>whnf
 ·exact rt (E:=E_Int_Int_Int) h rfl
 refine lpS (fun v4=>⟨[(0,.l (.d (.sl (a0.map Task.enc)))),(3,.l (.ptr 4 0)),(7,lI v4.1),(8,lI v4.2)],73,[],[(4,[dI a1.P,dI a1.B])],[]⟩) h wR (fun _ nx4 hn4 v4 h=>?_)<;>conv=>whnf
 refine lenS a0 Task.enc rfl ?_<;>conv=>whnf
 refine fkS h (fun h=>?_) (fun h=>?_)<;>conv=>whnf
 ·refine jnS (fun w5=>⟨[(0,.l (.d (.sl (a0.map Task.enc)))),(3,.l (.ptr 4 0)),(7,lI w5),(8,lI v4.2)],73,[],[(4,[dI a1.P,dI a1.B])],[]⟩) h (fun k5 hk5 h=>?_) (fun w5 h=>?_)<;>conv=>whnf
  ·refine ixS (enc:=Task.enc) h rfl (fun _=>rfl) (fun x6 h=>?_)<;>conv=>whnf
   refine fkS h (fun h=>?_) (fun h=>?_)<;>conv=>whnf
   ·refine ixS (enc:=Task.enc) h rfl (fun _=>rfl) (fun x7 h=>?_)<;>conv=>whnf
    exact jeS hk5 h wR
   refine jeX hk5 h ?_<;>conv=>whnf
   refine WkF.step (Weak.keepS _ [0,3,7,8]) ?_<;>conv=>whnf
   exact WkF.refl _
  exact leS hn4 h wR
 refine lpS (fun v8=>⟨[(0,.l (.d (.sl (a0.map Task.enc)))),(3,.l (.ptr 4 0)),(7,lI v4.1),(9,lI v8)],73,[],[(4,[dI a1.P,dI a1.B])],[]⟩) h wR (fun _ nx8 hn8 v8 h=>?_)<;>conv=>whnf
 refine fkS h (fun h=>?_) (fun h=>?_)<;>conv=>whnf
 ·refine lpS (fun v9=>⟨[(0,.l (.d (.sl (a0.map Task.enc)))),(3,.l (.ptr 4 0)),(7,lI v4.1),(9,lI v8),(10,lB v9.1),(11,lI v9.2)],73,[],[(4,[dI a1.P,dI a1.B])],[]⟩) h wR (fun _ nx9 hn9 v9 h=>?_)<;>conv=>whnf
  refine lenS a0 Task.enc rfl ?_<;>conv=>whnf
  refine fkS h (fun h=>?_) (fun h=>?_)<;>conv=>whnf
  ·refine jnS (fun w10=>⟨[(0,.l (.d (.sl (a0.map Task.enc)))),(3,.l (.ptr 4 0)),(7,lI v4.1),(9,lI v8),(10,lB w10),(11,lI v9.2)],73,[],[(4,[dI a1.P,dI a1.B])],[]⟩) h (fun k10 hk10 h=>?_) (fun w10 h=>?_)<;>conv=>whnf
   ·refine fkS h (fun h=>?_) (fun h=>?_)<;>conv=>whnf
    ·refine ixS (enc:=Task.enc) h rfl (fun _=>rfl) (fun x11 h=>?_)<;>conv=>whnf
     refine dvS h (fun h=>?_)<;>conv=>whnf
     exact jeS hk10 h wR
    exact jeS hk10 h wR
   exact leS hn9 h wR
  refine fkS h (fun h=>?_) (fun h=>?_)<;>conv=>whnf
  ·exact rt (E:=E_Int_Int_Int) h rfl
  exact leS hn8 h wR
 exact rt (E:=E_Int_Int_Int) h rfl
end Go.Proofs.YtldlcdnhdedoeaaGreat
namespace Go.Proofs.YtldlcdnhdedoeaaGreat
open Go Go.VC
noncomputable def law05_Great (a0:List Task):Option Bool:=
 lp (fun nx1 (v1:Int)=>fk (decide (v1<(a0.length:Int))) (ix a0 v1 fun x2=>fk (decide ((x2.Secs.length:Int)>(20:Int))) (some true) (nx1 (wr (v1+(1:Int))))) (some (decide ((a0.length:Int)>(20:Int))))) FU (0:Int)
theorem law05_Great_w (a0:List Task) (r:Bool) (h:law05_Great a0=some r):Go.VC.Spec Tryz.prog 109 [.d (.sl (a0.map Task.enc))] (fun y=>y=E_Bool r):=by
 refine Spec.of_xc (fn:=Tryz.f109) tab ⟨[(0,[0]),(1,[0,3]),(2,[0,3,7]),(3,[0,3]),(4,[0,3,16]),(5,[2]),(6,[2])],[],[],[]⟩ 20 [.tmp 2] rfl rfl rfl rfl rfl rfl ?_<;>conv=>whnf
 refine lpS (fun v1=>⟨[(0,.l (.d (.sl (a0.map Task.enc)))),(3,lI v1)],20,[],[],[]⟩) h wR (fun _ nx1 hn1 v1 h=>?_)<;>conv=>whnf
 refine lenS a0 Task.enc rfl ?_<;>conv=>whnf
 refine fkS h (fun h=>?_) (fun h=>?_)<;>conv=>whnf
 ·refine ixS (enc:=Task.enc) h rfl (fun _=>rfl) (fun x2 h=>?_)<;>conv=>whnf
  refine lenS x2.Secs Sec.enc rfl ?_<;>conv=>whnf
  refine fkS h (fun h=>?_) (fun h=>?_)<;>conv=>whnf
  ·exact rt (E:=E_Bool) h rfl
  exact leS hn1 h wR
 refine lenS a0 Task.enc rfl ?_<;>conv=>whnf
 exact rt (E:=E_Bool) h rfl
end Go.Proofs.YtldlcdnhdedoeaaGreat
namespace Go.Proofs.YtldlcdnhdedoeaaGreat
open Go Go.VC
def fitsP (a b:Sec):Prop:=a.At+a.Len≤b.At∨(a.At≤b.At∧b.At+b.Len≤a.At+a.Len∧a.Res≠b.Res)
def secP (C:Int) (s:Sec):Prop:=0≤s.Res∧s.Res<4∧0≤s.At∧s.At<C∧1≤s.Len∧s.Len≤C-s.At
def ownP (t:Task):Prop:=1≤t.C∧t.C≤t.D∧t.D≤t.T∧t.T≤200∧t.Secs.length≤4
def RightP (t:Task):Prop:=ownP t∧(∀s∈t.Secs,secP t.C s)∧t.Secs.Pairwise fitsP
instance (a b:Sec):Decidable (fitsP a b):=by unfold fitsP; infer_instance
instance (C:Int) (s:Sec):Decidable (secP C s):=by unfold secP; infer_instance
instance (t:Task):Decidable (ownP t):=by unfold ownP; infer_instance
instance (t:Task):Decidable (RightP t):=by unfold RightP; infer_instance
def right (t:Task):Bool:=decide (RightP t)
theorem task_own_eq (t:Task):task_own t=some (decide (ownP t)):=by
 unfold task_own
 simp only[fk_if,decide_eq_true_eq]
 repeat' split
 ·exact dec_iff (by unfold ownP; omega)
 all_goals exact dec_f (by unfold ownP; omega)
theorem task_may_eq (t:Task) (s:Sec) (h:ownP t):task_may t s=some (decide (secP t.C s)):=by
 unfold ownP at h
 unfold task_may
 simp only[fk_if,decide_eq_true_eq]
 repeat' split
 ·rw[wr_in _ (by omega)]
  exact dec_iff (by unfold secP; omega)
 all_goals exact dec_f (by unfold secP; omega)
theorem task_fits_eq (C:Int) (a b:Sec) (hC:C≤200) (ha:secP C a) (hb:secP C b):task_fits a b=some (decide (fitsP a b)):=by
 unfold secP at ha hb
 unfold task_fits
 rw[wr_in _ (by omega),wr_in _ (by omega)]
 simp only[fk_if,decide_eq_true_eq]
 repeat' split
 ·exact dec_t (by unfold fitsP; omega)
 ·exact dec_f (by unfold fitsP; omega)
 ·exact dec_not (by unfold fitsP; omega)
 ·exact dec_f (by unfold fitsP; omega)
theorem task_Right_eq (t:Task):task_Right t=some (right t):=by
 unfold task_Right
 rw[bnd_eq (task_own_eq t)]
 by_cases ho:ownP t
 rotate_left
 ·simp[ho,right,RightP,fk_if]
 simp only[ho,decide_true,Bool.not_true,fk_f]
 have hlen:t.Secs.length≤4:=ho.2.2.2.2
 have hC:t.C≤200:=by unfold ownP at ho; omega
 refine lp_up t.Secs.length (by unfold FU; omega) (fun k=>(∀j (h:j<t.Secs.length),j<k→secP t.C t.Secs[j])∧(∀i j (hi:i<t.Secs.length) (hj:j<t.Secs.length),i<j→j<k→fitsP t.Secs[i] t.Secs[j])) ⟨fun j _ h=>by omega,fun i j _ _ _ h=>by omega⟩ ?_
 rintro nx k hk ⟨J1,J2⟩ hnx
 rw[lt_nat]
 by_cases h:k<t.Secs.length
 ·rw[decide_eq_true h,fk_t,ix_lt h,bnd_eq (task_may_eq t _ ho)]
  by_cases hs:secP t.C t.Secs[k]
  rotate_left
  ·have:right t=false:=decide_eq_false fun hr=>hs (hr.2.1 _ (List.getElem_mem h))
   simp[hs,this,fk_if]
  simp only[hs,decide_true,Bool.not_true,fk_f]
  rw[ck_t (by simp; omega)]
  have e:(t.Secs.take (k:Int).toNat).drop (0:Int).toNat=t.Secs.take k:=by simp
  rw[e]
  have el:(t.Secs.take k).length=k:=by simp; omega
  refine lp_up k (by unfold FU; omega) (fun j=>∀i (hi:i<t.Secs.length),i<j→fitsP t.Secs[i] t.Secs[k]) (fun i _ h=>by omega) ?_
  intro nx2 j hj J3 hnx2
  rw[el,lt_nat]
  by_cases h2:j<k
  ·have hjl:j<t.Secs.length:=by omega
   rw[decide_eq_true h2,fk_t,ix_lt (by omega),List.getElem_take,bnd_eq (task_fits_eq t.C _ _ hC (J1 j hjl h2) hs)]
   by_cases hf:fitsP t.Secs[j] t.Secs[k]
   ·rw[decide_eq_true hf,fk_t,wr_succ j k h2 (by omega)]
    refine hnx2 h2 fun i hi hij=>?_
    by_cases e:i=j
    ·subst e; exact hf
    ·exact J3 i hi (by omega)
   ·have:right t=false:=decide_eq_false fun hr=>hf (List.pairwise_iff_getElem.1 hr.2.2 j k hjl h h2)
    rw[decide_eq_false hf,fk_f,this]; rfl
  ·have hjk:j=k:=by omega
   subst hjk
   rw[decide_eq_false h2,fk_f,wr_succ j _ h (by omega)]
   refine hnx h ⟨fun i hi hij=>?_,fun a b ha hb hab hbj=>?_⟩
   ·by_cases e:i=j
    ·subst e; exact hs
    ·exact J1 i hi (by omega)
   ·by_cases e:b=j
    ·subst e; exact J3 a ha hab
    ·exact J2 a b ha hb hab (by omega)
 ·have hk2:k=t.Secs.length:=by omega
  rw[decide_eq_false h,fk_f]
  have:right t=true:=decide_eq_true ⟨ho,fun s hs=>by
   obtain⟨j,hj,rfl⟩:=List.getElem_of_mem hs
   exact J1 j hj (by omega),List.pairwise_iff_getElem.2 fun i j hi hj hij=>J2 i j hi hj hij (by omega)⟩
  rw[this]
  unfold ownP at ho
  simp; omega
def AllP (l:List Task):Prop:=(∀t∈l,RightP t)∧l.length≤8
instance (l:List Task):Decidable (AllP l):=by unfold AllP; infer_instance
theorem right_t {t:Task}:right t=true↔RightP t:=decide_eq_true_iff
theorem right_f {t:Task}:right t=false↔¬RightP t:=decide_eq_false_iff_not
theorem task_All_eq (l:List Task) (hl:l.length≤4611686018427387904):task_All l=some (decide (AllP l)):=by
 unfold task_All
 refine lp_up l.length (by unfold FU; omega) (fun k=>∀j (h:j<l.length),j<k→RightP l[j]) (fun j _ h=>by omega) ?_
 intro nx k hk J hnx
 rw[lt_nat]
 by_cases h:k<l.length
 ·rw[decide_eq_true h,fk_t,ix_lt h,bnd_eq (task_Right_eq _)]
  by_cases hr:RightP l[k]
  ·rw[right_t.2 hr,Bool.not_true,fk_f,wr_succ k _ h hl]
   refine hnx h fun j hj hjk=>?_
   by_cases e:j=k
   ·subst e; exact hr
   ·exact J j hj (by omega)
  ·rw[right_f.2 hr,Bool.not_false,fk_t]
   exact dec_f fun ha=>hr (ha.1 _ (List.getElem_mem h))
 ·rw[decide_eq_false h,fk_f]
  refine dec_iff ⟨fun h8=>⟨fun t ht=>?_,by omega⟩,fun ha=>by have:=ha.2; omega⟩
  obtain⟨j,hj,rfl⟩:=List.getElem_of_mem ht
  exact J j hj (by omega)
def holds (had:Int) (s:Sec):Bool:=decide (s.At<had) && decide (had<s.At+s.Len)
def heldL (had:Int) (l:List Sec):List Int:=(l.filter (holds had)).map (·.Res)
def held (t:Task) (had:Int):List Int:=if right t=true then heldL had t.Secs else []
theorem heldL_succ (had:Int) (l:List Sec) (i:Nat) (h:i<l.length):heldL had (l.take (i+1))=heldL had (l.take i)++(if holds had l[i]=true then [l[i].Res] else []):=by
 rw[←List.take_append_getElem h,heldL,heldL,List.filter_append,List.map_append]
 congr 1
 by_cases e:holds had l[i]=true
 ·rw[if_pos e,List.filter_cons_of_pos e]; rfl
 ·rw[if_neg e,List.filter_cons_of_neg e]; rfl
theorem heldL_len (had:Int) (l:List Sec):(heldL had l).length≤l.length:=by
 rw[heldL,List.length_map]; exact List.length_filter_le _ _
theorem RightP.sec {t:Task} (h:RightP t) {k:Nat} (hk:k<t.Secs.length):secP t.C t.Secs[k]:=h.2.1 _ (List.getElem_mem hk)
theorem RightP.len {t:Task} (h:RightP t):t.Secs.length≤4:=h.1.2.2.2.2
theorem RightP.c {t:Task} (h:RightP t):1≤t.C∧t.C≤t.D∧t.D≤t.T∧t.T≤200:=⟨h.1.1,h.1.2.1,h.1.2.2.1,h.1.2.2.2.1⟩
theorem task_Held_eq (t:Task) (had:Int):task_Held t had=some (held t had):=by
 unfold task_Held
 rw[bnd_eq (task_Right_eq _)]
 by_cases hr:RightP t
 rotate_left
 ·rw[right_f.2 hr,Bool.not_false,fk_t,held,right_f.2 hr]; rfl
 have hl:=hr.len
 have hc:=hr.c
 rw[right_t.2 hr,Bool.not_true,fk_f]
 refine lp_upS t.Secs.length (by unfold FU; omega) (fun k out=>out=heldL had (t.Secs.take k)) [] rfl ?_
 intro nx k out hk J hnx
 subst J
 rw[lt_nat]
 by_cases h:k<t.Secs.length
 ·have hs:=hr.sec h
  unfold secP at hs
  have hn:=fun s'=>hnx s' h
  have hlen:=heldL_len had (t.Secs.take k)
  rw[List.length_take] at hlen
  rw[decide_eq_true h,fk_t,jn_eq,ix_lt h]
  simp only[jn_eq]
  rw[wr_succ k _ h (by omega),wr_in _ (by omega)]
  simp only[fk_if,decide_eq_true_eq]
  split
  ·split
   ·rw[ck_t (by simp; omega)]
    refine hn _ ?_
    rw[heldL_succ _ _ _ h,if_pos]
    simp[holds, *]
   ·refine hn _ ?_
    rw[heldL_succ _ _ _ h,if_neg,List.append_nil]
    simp[holds, *]
  ·rw[if_neg (by simp)]
   refine hn _ ?_
   rw[heldL_succ _ _ _ h,if_neg,List.append_nil]
   simp[holds, *]
 ·rw[decide_eq_false h,fk_f,held,right_t.2 hr,if_pos rfl]
  have:k=t.Secs.length:=by omega
  rw[this,List.take_length]
def usesP (t:Task) (res:Int):Prop:=RightP t∧∃s∈t.Secs,s.Res=res
instance (t:Task) (res:Int):Decidable (usesP t res):=by unfold usesP; infer_instance
theorem task_Uses_eq (t:Task) (res:Int):task_Uses t res=some (decide (usesP t res)):=by
 unfold task_Uses
 rw[bnd_eq (task_Right_eq _)]
 by_cases hr:RightP t
 rotate_left
 ·rw[right_f.2 hr,Bool.not_false,fk_t]; exact dec_f fun h=>hr h.1
 have hl:=hr.len
 rw[right_t.2 hr,Bool.not_true,fk_f]
 refine lp_up t.Secs.length (by unfold FU; omega) (fun k=>∀j (h:j<t.Secs.length),j<k→t.Secs[j].Res≠res) (fun j _ h=>by omega) ?_
 intro nx k hk J hnx
 rw[lt_nat]
 by_cases h:k<t.Secs.length
 ·rw[decide_eq_true h,fk_t,ix_lt h]
  by_cases e:t.Secs[k].Res=res
  ·rw[decide_eq_true e,fk_t]; exact dec_t ⟨hr,_,List.getElem_mem h,e⟩
  ·rw[decide_eq_false e,fk_f,wr_succ k _ h (by omega)]
   refine hnx h fun j hj hjk=>?_
   by_cases e2:j=k
   ·subst e2; exact e
   ·exact J j hj (by omega)
 ·rw[decide_eq_false h,fk_f]
  refine dec_f ?_
  rintro⟨_,s,hs,e⟩
  obtain⟨j,hj,rfl⟩:=List.getElem_of_mem hs
  exact J j hj (by omega) e
theorem ref05_Right_eq (t:Task) (hlt:t.Secs.length≤4611686018427387904):ref05_Right t=some (right t):=by
 unfold ref05_Right
 simp only[jn_eq,fk_t,fk_f]
 by_cases ho:ownP t
 rotate_left
 ·have hr:right t=false:=right_f.2 fun h=>ho h.1
  by_cases c0:t.C<1
  ·rw[decide_eq_true c0,fk_t,hr]
  rw[decide_eq_false c0,fk_f]
  by_cases c1:t.D<t.C
  ·rw[decide_eq_true c1,fk_t,hr]
  rw[decide_eq_false c1,fk_f]
  by_cases c2:t.T<t.D
  ·rw[decide_eq_true c2,fk_t,hr]
  rw[decide_eq_false c2,fk_f]
  by_cases c3:t.T>200
  ·rw[decide_eq_true c3,fk_t,hr]
  rw[decide_eq_false c3,fk_f]
  by_cases c4:(t.Secs.length:Int)>4
  ·rw[decide_eq_true c4,fk_t,hr]
  rw[decide_eq_false c4,fk_f]
  exact absurd (by unfold ownP; omega) ho
 have ho':=ho
 unfold ownP at ho'
 rw[decide_eq_false (by omega),fk_f,decide_eq_false (by omega),fk_f,decide_eq_false (by omega),fk_f,decide_eq_false (by omega),fk_f,decide_eq_false (by omega),fk_f]
 refine lp_up t.Secs.length (by unfold FU; omega) (fun k=>(∀j (h:j<t.Secs.length),j<k→secP t.C t.Secs[j])∧(∀i j (hi:i<t.Secs.length) (hj:j<t.Secs.length),i<j→j<k→fitsP t.Secs[i] t.Secs[j])) ⟨fun j _ h=>by omega,fun i j _ _ _ h=>by omega⟩ ?_
 rintro nx k hk ⟨J1,J2⟩ hnx
 rw[lt_nat]
 by_cases h:k<t.Secs.length
 rotate_left
 ·rw[decide_eq_false h,fk_f]
  have:right t=true:=right_t.2 ⟨ho,fun s hs=>by
   obtain⟨j,hj,rfl⟩:=List.getElem_of_mem hs
   exact J1 j hj (by omega),List.pairwise_iff_getElem.2 fun i j hi hj hij=>J2 i j hi hj hij (by omega)⟩
  rw[this]
 rw[decide_eq_true h,fk_t,ix_lt h]
 have hn:=hnx h
 clear hnx
 generalize hs:t.Secs[k]=s at *
 by_cases hsec:secP t.C s
 rotate_left
 ·have hr:right t=false:=right_f.2 fun hr=>hsec (hs ▸ hr.2.1 _ (List.getElem_mem h))
  by_cases c0:s.Res<0
  ·rw[decide_eq_true c0,fk_t,hr]
  rw[decide_eq_false c0,fk_f]
  by_cases c1:s.Res>3
  ·rw[decide_eq_true c1,fk_t,hr]
  rw[decide_eq_false c1,fk_f]
  by_cases c2:s.At<0
  ·rw[decide_eq_true c2,fk_t,hr]
  rw[decide_eq_false c2,fk_f]
  by_cases c3:s.Len<1
  ·rw[decide_eq_true c3,fk_t,hr]
  rw[decide_eq_false c3,fk_f]
  by_cases c4:s.At>t.C
  ·rw[decide_eq_true c4,fk_t,hr]
  rw[decide_eq_false c4,fk_f]
  by_cases c5:s.Len>t.C
  ·rw[decide_eq_true c5,fk_t,hr]
  rw[decide_eq_false c5,fk_f]
  have hw:wr (s.At+s.Len)=s.At+s.Len:=wr_in _ (by omega)
  rw[hw]
  by_cases c6:s.At+s.Len>t.C
  ·rw[decide_eq_true c6,fk_t,hr]
  exact absurd (by unfold secP; omega) hsec
 have hsec':=hsec
 unfold secP at hsec'
 have hw:wr (s.At+s.Len)=s.At+s.Len:=wr_in _ (by omega)
 rw[hw]
 rw[decide_eq_false (by omega),fk_f,decide_eq_false (by omega),fk_f,decide_eq_false (by omega),fk_f,decide_eq_false (by omega),fk_f,decide_eq_false (by omega),fk_f,decide_eq_false (by omega),fk_f,decide_eq_false (by omega),fk_f]
 refine lp_up k (by unfold FU; omega) (fun j=>∀i (hi:i<t.Secs.length),i<j→fitsP t.Secs[i] s) (fun i _ h=>by omega) ?_
 intro nx2 j hj J3 hnx2
 rw[lt_nat]
 by_cases h2:j<k
 rotate_left
 ·have hjk:j=k:=by omega
  subst hjk
  rw[decide_eq_false h2,fk_f,wr_succ j _ h (by omega)]
  refine hn ⟨fun i hi hij=>?_,fun a b ha hb hab hbj=>?_⟩
  ·by_cases e:i=j
   ·subst e; rw[hs]; exact hsec
   ·exact J1 i hi (by omega)
  ·by_cases e:b=j
   ·subst e; rw[hs]; exact J3 a ha hab
   ·exact J2 a b ha hb hab (by omega)
 have hjl:j<t.Secs.length:=by omega
 rw[decide_eq_true h2,fk_t,ix_lt hjl]
 have ha:=J1 j hjl h2
 have good:fitsP t.Secs[j] s→nx2 (wr ((j:Int)+1))=some (right t):=fun hf=>by
  rw[wr_succ j k h2 (by omega)]
  refine hnx2 h2 fun i hi hij=>?_
  by_cases e:i=j
  ·subst e; exact hf
  ·exact J3 i hi (by omega)
 have bad:¬fitsP t.Secs[j] s→some false=some (right t):=fun hf=>by
  rw[right_f.2 fun hr=>hf (hs ▸ List.pairwise_iff_getElem.1 hr.2.2 j k hjl h h2)]
 generalize t.Secs[j]=a at *
 unfold secP at ha
 have hwa:wr (a.At+a.Len)=a.At+a.Len:=wr_in _ (by omega)
 rw[hwa]
 have ticks:a.At≤s.At→lp (fun nx8 (v8:Int×Int×Int)=>fk (decide (v8.2.2<s.At+s.Len)) (fk (decide (v8.2.2<a.At+a.Len)) (nx8 (wr (v8.1+1),v8.2.1,wr (v8.2.2+1))) (nx8 (v8.1,wr (v8.2.1+1),wr (v8.2.2+1))))
   (fk (decide (v8.1>0)) (fk (decide (v8.2.1>0)) (some false) (fk (decide (a.Res=s.Res)) (some false) (nx2 (wr ((j:Int)+1))))) (nx2 (wr ((j:Int)+1))))) FU (0,0,s.At)=some (right t):=by
  intro hle
  refine lp_inv (fun v=>(s.At+s.Len-v.2.2).toNat) (fun v=>s.At≤v.2.2∧v.2.2≤s.At+s.Len∧v.1=max 0 (min v.2.2 (a.At+a.Len)-s.At)∧v.2.1=v.2.2-s.At-v.1) ?_ FU _ ⟨by simp,by simp; omega,by simp; omega,by simp⟩ (by simp only[FU]; omega)
  rintro nx8 ⟨m,o,q⟩ ⟨i1,i2,i3,i4⟩ hn8
  simp only at i1 i2 i3 i4
  by_cases c1:q<s.At+s.Len
  ·rw[decide_eq_true c1,fk_t]
   by_cases c2:q<a.At+a.Len
   ·rw[decide_eq_true c2,fk_t,wr_in (m+1) (by omega),wr_in (q+1) (by omega)]
    exact hn8 _ ⟨by simp only; omega,by simp only; omega,by simp only; omega,by simp only; omega⟩ (by simp only; omega)
   ·rw[decide_eq_false c2,fk_f,wr_in (o+1) (by omega),wr_in (q+1) (by omega)]
    exact hn8 _ ⟨by simp only; omega,by simp only; omega,by simp only; omega,by simp only; omega⟩ (by simp only; omega)
  ·rw[decide_eq_false c1,fk_f]
   by_cases c3:m>0
   ·rw[decide_eq_true c3,fk_t]
    by_cases c4:o>0
    ·rw[decide_eq_true c4,fk_t]; exact bad (by unfold fitsP; omega)
    ·rw[decide_eq_false c4,fk_f]
     by_cases c5:a.Res=s.Res
     ·rw[decide_eq_true c5,fk_t]; exact bad (by unfold fitsP; omega)
     ·rw[decide_eq_false c5,fk_f]; exact good (by unfold fitsP; omega)
   ·rw[decide_eq_false c3,fk_f]; exact good (by unfold fitsP; omega)
 by_cases d1:s.At<a.At
 ·rw[decide_eq_true d1,fk_t]; exact bad (by unfold fitsP; omega)
 ·rw[decide_eq_false d1,fk_f]
  by_cases d2:s.At=a.At
  ·rw[decide_eq_true d2,fk_t]
   by_cases d3:s.Len>a.Len
   ·rw[decide_eq_true d3,fk_t]; exact bad (by unfold fitsP; omega)
   ·rw[decide_eq_false d3,fk_f]; exact ticks (by omega)
  ·rw[decide_eq_false d2,fk_f]; exact ticks (by omega)
theorem ref05_All_eq (l:List Task) (hl:l.length≤4611686018427387904) (hs:∀t∈l,t.Secs.length≤4611686018427387904):ref05_All l=some (decide (AllP l)):=by
 unfold ref05_All
 refine lp_upS l.length (by unfold FU; omega) (fun k n=>∃m:Nat,n=(m:Int)∧m≤k∧((m=k)↔∀j (h:j<l.length),j<k→RightP l[j])) 0 ⟨0,rfl,Nat.le_refl _,by simp⟩ ?_
 rintro nx k n hk ⟨m,rfl,hm,J⟩ hnx
 rw[lt_nat]
 by_cases h:k<l.length
 ·rw[decide_eq_true h,fk_t,jn_eq,ix_lt h,bnd_eq (ref05_Right_eq _ (hs _ (List.getElem_mem h)))]
  rw[wr_succ k _ h hl,wr_in ((m:Int)+1) (by omega)]
  by_cases hr:RightP l[k]
  ·rw[right_t.2 hr,fk_t]
   refine hnx _ h ⟨m+1,rfl,by omega,?_⟩
   constructor
   ·intro e j hj hjk
    by_cases e2:j=k
    ·subst e2; exact hr
    ·exact J.1 (by omega) j hj (by omega)
   ·intro ha
    have:=J.2 fun j hj hjk=>ha j hj (by omega)
    omega
  ·rw[right_f.2 hr,fk_f]
   refine hnx _ h ⟨m,rfl,by omega,?_⟩
   constructor
   ·intro e; omega
   ·intro ha; exact absurd (ha k h (by omega)) hr
 ·have hkl:k=l.length:=by omega
  subst hkl
  rw[decide_eq_false h,fk_f]
  have key:(m=l.length)↔∀t∈l,RightP t:=by
   rw[J]
   constructor
   ·intro ha t ht
    obtain⟨j,hj,rfl⟩:=List.getElem_of_mem ht
    exact ha j hj hj
   ·intro ha j hj _; exact ha _ (List.getElem_mem hj)
  by_cases e:m=l.length
  ·rw[decide_eq_true (by omega),fk_t]
   exact dec_iff ⟨fun h8=>⟨key.1 e,by omega⟩,fun ha=>by have:=ha.2; omega⟩
  ·rw[decide_eq_false (by omega),fk_f]
   exact dec_f fun ha=>e (key.2 ha.1)
def GreatP (l:List Task):Prop:=(∃t∈l,20<t.Secs.length)∨20<l.length
instance (l:List Task):Decidable (GreatP l):=by unfold GreatP; infer_instance
theorem law05_Great_eq (l:List Task) (hl:l.length≤4611686018427387904):law05_Great l=some (decide (GreatP l)):=by
 unfold law05_Great
 refine lp_up l.length (by unfold FU; omega) (fun k=>∀j (h:j<l.length),j<k→l[j].Secs.length≤20) (fun j _ h=>by omega) ?_
 intro nx k hk J hnx
 rw[lt_nat]
 by_cases h:k<l.length
 ·rw[decide_eq_true h,fk_t,ix_lt h]
  by_cases e:(l[k].Secs.length:Int)>20
  ·rw[decide_eq_true e,fk_t]; exact dec_t (.inl ⟨_,List.getElem_mem h,by omega⟩)
  ·rw[decide_eq_false e,fk_f,wr_succ k _ h hl]
   refine hnx h fun j hj hjk=>?_
   by_cases e2:j=k
   ·subst e2; omega
   ·exact J j hj (by omega)
 ·rw[decide_eq_false h,fk_f]
  refine dec_iff ⟨fun h20=>.inr (by omega),?_⟩
  rintro (⟨t,ht,h20⟩ | h20)
  ·obtain⟨j,hj,rfl⟩:=List.getElem_of_mem ht
   have:=J j hj (by omega)
   omega
  ·omega
theorem wfI_8 {n:Int} (h:wfI .u8 n):0≤n∧n≤255:=by
 unfold wfI at h
 simp only[Lit.wf,Bool.and_eq_true,decide_eq_true_eq] at h
 have h1:IntKind.u8.min=0:=rfl
 have h2:IntKind.u8.max=255:=rfl
 rwa [h1,h2] at h
theorem held_right {t:Task} (h:RightP t) (had:Int):held t had=heldL had t.Secs:=by rw[held,right_t.2 h,if_pos rfl]
theorem held_len (t:Task) (had:Int) (h:RightP t):(held t had).length≤4:=by
 rw[held_right h]; exact Nat.le_trans (heldL_len _ _) h.len
theorem holds_iff {had:Int} {s:Sec}:holds had s=true↔s.At<had∧had<s.At+s.Len:=by
 unfold holds; simp
theorem held_mem {t:Task} (h:RightP t) {had r:Int} (hr:r∈held t had):∃s∈t.Secs,s.Res=r∧s.At<had∧had<s.At+s.Len:=by
 rw[held_right h,heldL] at hr
 obtain⟨s,hs,rfl⟩:=List.mem_map.1 hr
 obtain⟨h1,h2⟩:=List.mem_filter.1 hs
 exact⟨s,h1,rfl,holds_iff.1 h2⟩
theorem held_out {t:Task} (h:RightP t) {had:Int} (ho:had≤0∨t.C≤had):held t had=[]:=by
 rw[List.eq_nil_iff_forall_not_mem]
 intro r hr
 obtain⟨s,hs,e,h1,h2⟩:=held_mem h hr
 have:=h.2.1 s hs
 unfold secP at this
 omega
def maxL {α:Type} (f:α→Nat):List α→Nat
 | []=>0
 | x::r=>max (f x) (maxL f r)
theorem maxL_append {α:Type} (f:α→Nat) (a b:List α):maxL f (a++b)=max (maxL f a) (maxL f b):=by
 induction a with
 | nil=>simp[maxL]
 | cons x r ih=>simp only[List.cons_append,maxL,ih]; omega
theorem maxL_le {α:Type} {f:α→Nat} {l:List α} {n:Nat}:maxL f l≤n↔∀x∈l,f x≤n:=by
 induction l with
 | nil=>simp[maxL]
 | cons x r ih=>simp only[maxL,List.mem_cons,forall_eq_or_imp,←ih]; omega
theorem le_maxL {α:Type} {f:α→Nat} {l:List α} {x:α} (h:x∈l):f x≤maxL f l:=maxL_le.1 (Nat.le_refl _) x h
theorem maxL_succ {α:Type} (f:α→Nat) (l:List α) (k:Nat) (h:k<l.length):maxL f (l.take (k+1))=max (maxL f (l.take k)) (f l[k]):=by
 rw[←List.take_append_getElem h,maxL_append]; simp[maxL]
theorem max_int (a b:Nat):(if (a:Int)>(b:Int) then (a:Int) else (b:Int))=((max b a:Nat):Int):=by split <;> omega
def levelN (l:List Task) (D:Int):Nat:=1+l.countP (fun x=>decide (x.D>D))
theorem countP_succ {α:Type} (p:α→Bool) (l:List α) (k:Nat) (h:k<l.length):(l.take (k+1)).countP p=(l.take k).countP p+(if p l[k]=true then 1 else 0):=by
 rw[←List.take_append_getElem h,List.countP_append,List.countP_singleton]
theorem level_level_eq (l:List Task) (t:Task) (hl:l.length≤4611686018427387904):level_level l t=some (levelN l t.D:Int):=by
 unfold level_level
 refine lp_upS l.length (by unfold FU; omega) (fun k n=>n=((1+(l.take k).countP (fun x=>decide (x.D>t.D)):Nat):Int)) 1 rfl ?_
 rintro nx k n hk rfl hnx
 simp only[jn_eq]
 rw[lt_nat]
 have hc:=List.countP_le_length (p:=fun x:Task=>decide (x.D>t.D)) (l:=l.take k)
 rw[List.length_take] at hc
 by_cases h:k<l.length
 ·rw[decide_eq_true h,fk_t,ix_lt h,wr_succ k _ h hl,wr_in _ (by omega)]
  by_cases c:l[k].D>t.D
  ·rw[decide_eq_true c,fk_t]
   refine hnx _ h ?_
   rw[countP_succ _ _ _ h,if_pos (decide_eq_true c)]; omega
  ·rw[decide_eq_false c,fk_f]
   refine hnx _ h ?_
   rw[countP_succ _ _ _ h,if_neg (by simp[c])]; rfl
 ·rw[decide_eq_false h,fk_f]
  have:k=l.length:=by omega
  rw[this,List.take_length]; rfl
def ofN (l:List Task) (i:Int):Nat:=if AllP l∧0≤i then (match l[i.toNat]? with | some t=>levelN l t.D | none=>0) else 0
theorem ofN_lt {l:List Task} (ha:AllP l) {i:Int} (h0:0≤i) (h:i.toNat<l.length):ofN l i=levelN l l[i.toNat].D:=by
 rw[ofN,if_pos ⟨ha,h0⟩,List.getElem?_eq_getElem h]
theorem level_Of_eq (l:List Task) (i:Int) (hl:l.length≤4611686018427387904):level_Of l i=some (ofN l i:Int):=by
 unfold level_Of
 simp only[jn_eq,fk_t]
 rw[bnd_eq (task_All_eq l hl)]
 by_cases ha:AllP l
 rotate_left
 ·rw[decide_eq_false ha,Bool.not_false,fk_t,ofN,if_neg (fun h=>ha h.1)]; rfl
 rw[decide_eq_true ha,Bool.not_true,fk_f]
 by_cases c1:i<0
 ·rw[decide_eq_true c1,fk_t,ofN,if_neg (fun h=>by omega)]; rfl
 rw[decide_eq_false c1,fk_f]
 by_cases c2:i≥(l.length:Int)
 ·rw[decide_eq_true c2,fk_t,ofN,List.getElem?_eq_none (by omega)]; simp
 rw[decide_eq_false c2,fk_f,ix_int (by omega) (by omega),bnd_eq (level_level_eq _ _ hl),ofN_lt ha (by omega)]
def ceilN (l:List Task) (res:Int):Nat:=maxL (fun t=>if usesP t res then levelN l t.D else 0) l
def ceil (l:List Task) (res:Int):Nat:=if AllP l then ceilN l res else 0
theorem level_Ceiling_1_eq (t:Task) (res:Int) (l:List Task) (hl:l.length≤4611686018427387904):level_Ceiling_1 t res l=some ((if usesP t res then levelN l t.D else 0:Nat):Int):=by
 unfold level_Ceiling_1
 rw[bnd_eq (task_Uses_eq _ _)]
 by_cases h:usesP t res
 ·rw[decide_eq_true h,Bool.not_true,fk_f,bnd_eq (level_level_eq _ _ hl),if_pos h]
 ·rw[decide_eq_false h,Bool.not_false,fk_t,if_neg h]; rfl
theorem level_most_eq (l:List Task) (res:Int) (hl:l.length≤4611686018427387904):level_most_api_Task l res l=some (ceilN l res:Int):=by
 unfold level_most_api_Task
 refine lp_upS l.length (by unfold FU; omega) (fun k n=>n=((maxL (fun t=>if usesP t res then levelN l t.D else 0) (l.take k):Nat):Int)) 0 rfl ?_
 rintro nx k n hk rfl hnx
 rw[lt_nat]
 by_cases h:k<l.length
 ·rw[decide_eq_true h,fk_t,ix_lt h,bnd_eq (level_Ceiling_1_eq _ _ _ hl),wr_succ k _ h hl,max_int]
  exact hnx _ h (by rw[maxL_succ _ _ _ h])
 ·rw[decide_eq_false h,fk_f]
  have:k=l.length:=by omega
  rw[this,List.take_length]; rfl
theorem level_Ceiling_eq (l:List Task) (res:Int) (hl:l.length≤4611686018427387904):level_Ceiling l res=some (ceil l res:Int):=by
 unfold level_Ceiling
 rw[bnd_eq (task_All_eq l hl),ceil]
 by_cases ha:AllP l
 ·rw[decide_eq_true ha,Bool.not_true,fk_f,bnd_eq (level_most_eq _ _ hl),if_pos ha]
 ·rw[decide_eq_false ha,Bool.not_false,fk_t,if_neg ha]; rfl
def heldN (l:List Task) (h:List Int):Nat:=maxL (ceil l) h
theorem level_Held_eq (l:List Task) (h:List Int) (hl:l.length≤4611686018427387904) (hh:h.length≤4611686018427387904):level_Held l h=some (heldN l h:Int):=by
 unfold level_Held
 have:level_most_int h l=some (heldN l h:Int):=by
  unfold level_most_int
  refine lp_upS h.length (by unfold FU; omega) (fun k n=>n=((maxL (ceil l) (h.take k):Nat):Int)) 0 rfl ?_
  rintro nx k n hk rfl hnx
  rw[lt_nat]
  by_cases c:k<h.length
  ·rw[decide_eq_true c,fk_t,ix_lt c,level_Held_1,bnd_eq (level_Ceiling_eq l _ hl),bnd_some,wr_succ k _ c hh,max_int]
   exact hnx _ c (by rw[maxL_succ _ _ _ c])
  ·rw[decide_eq_false c,fk_f]
   have:k=h.length:=by omega
   rw[this,List.take_length]; rfl
 rw[bnd_eq this]
theorem level_Passes_eq (l:List Task) (i:Int) (h:List Int) (hl:l.length≤4611686018427387904) (hh:h.length≤4611686018427387904):level_Passes l i h=some (decide (heldN l h<ofN l i)):=by
 unfold level_Passes
 rw[bnd_eq (level_Of_eq l i hl),bnd_eq (level_Held_eq l h hl hh)]
 exact dec_iff (by omega)
theorem AllP.slen {l:List Task} (h:AllP l) {t:Task} (ht:t∈l):t.Secs.length≤4611686018427387904:=by have:=(h.1 t ht).len; omega
def greatJ (l:List Task) (js:List Job):Prop:=GreatP l∨50<js.length
noncomputable instance (l:List Task) (js:List Job):Decidable (greatJ l js):=Classical.propDecidable _
def bodyP (t:Task) (j:Job):Prop:=j.Due=j.At+t.D∧1≤j.Want∧j.Want≤200∧0≤j.Had∧j.Had<j.Want∧j.Had<t.C∧(j.Began=true∨j.Had=0)
noncomputable instance (t:Task) (j:Job):Decidable (bodyP t j):=Classical.propDecidable _
def jobP (l:List Task) (j:Job):Prop:=0≤j.Task∧0≤j.At∧j.At≤4611686018427387703∧∃h:j.Task.toNat<l.length,bodyP l[j.Task.toNat] j
noncomputable instance (l:List Task) (j:Job):Decidable (jobP l j):=Classical.propDecidable _
theorem job_right_eq (l:List Task) (j:Job) (ha:AllP l):job_right l j=some (decide (jobP l j)):=by
 unfold job_right
 simp only[jn_eq,fk_t,fk_f]
 by_cases c1:j.Task<0
 ·rw[decide_eq_true c1,fk_t]; exact dec_f fun h=>by have:=h.1; omega
 rw[decide_eq_false c1,fk_f]
 by_cases c2:j.Task≥(l.length:Int)
 ·rw[decide_eq_true c2,fk_t]; exact dec_f fun h=>by have:=h.2.2.2.1; omega
 rw[decide_eq_false c2,fk_f]
 by_cases c3:j.At<0
 ·rw[decide_eq_true c3,fk_t]; exact dec_f fun h=>by have:=h.2.1; omega
 rw[decide_eq_false c3,fk_f]
 by_cases c4:j.At>4611686018427387703
 ·rw[decide_eq_true c4,fk_t]; exact dec_f fun h=>by have:=h.2.2.1; omega
 have ht:j.Task.toNat<l.length:=by omega
 have hc:=(ha.1 _ (List.getElem_mem ht)).c
 rw[decide_eq_false c4,fk_f,ix_int (by omega) ht,wr_in _ (by omega)]
 have red:decide (jobP l j)=decide (bodyP l[j.Task.toNat] j):=decide_eq_decide.2 ⟨fun h=>h.2.2.2.2,fun h=>⟨by omega,by omega,by omega,ht,h⟩⟩
 rw[red]
 generalize l[j.Task.toNat]=t at *
 have hmin:j.Had<(if j.Want<t.C then j.Want else t.C)↔j.Had<j.Want∧j.Had<t.C:=by
  by_cases c:j.Want<t.C
  ·rw[if_pos c]; omega
  ·rw[if_neg c]; omega
 by_cases d1:j.Due=j.At+t.D
 rotate_left
 ·rw[decide_eq_false d1,fk_f]; exact dec_f fun h=>d1 h.1
 rw[decide_eq_true d1,fk_t]
 by_cases d2:j.Want≥1
 rotate_left
 ·rw[decide_eq_false d2,fk_f]; exact dec_f fun h=>d2 h.2.1
 rw[decide_eq_true d2,fk_t]
 by_cases d3:j.Want≤200
 rotate_left
 ·rw[decide_eq_false d3,fk_f]; exact dec_f fun h=>d3 h.2.2.1
 rw[decide_eq_true d3,fk_t]
 by_cases d4:j.Had≥0
 rotate_left
 ·rw[decide_eq_false d4,fk_f]; exact dec_f fun h=>d4 h.2.2.2.1
 rw[decide_eq_true d4,fk_t]
 by_cases d5:j.Had<(if j.Want<t.C then j.Want else t.C)
 rotate_left
 ·rw[decide_eq_false d5,fk_f]; exact dec_f fun h=>d5 (hmin.2 ⟨h.2.2.2.2.1,h.2.2.2.2.2.1⟩)
 rw[decide_eq_true d5,fk_t]
 obtain⟨d5,d6⟩:=hmin.1 d5
 by_cases d7:j.Began=true
 ·rw[d7,fk_t]; exact dec_t ⟨d1,d2,d3,d4,d5,d6,.inl d7⟩
 ·rw[Bool.eq_false_iff.2 d7,fk_f]
  refine dec_iff ⟨fun h=>⟨d1,d2,d3,d4,d5,d6,.inr h⟩,fun h=>?_⟩
  rcases h.2.2.2.2.2.2 with h | h
  ·exact absurd h d7
  ·exact h
def apartJ (a b:Job):Prop:=¬(a.Task=b.Task∧a.At=b.At)
def jobsP (l:List Task) (js:List Job):Prop:=AllP l∧js.length≤32∧(∀j∈js,jobP l j)∧js.Pairwise apartJ
noncomputable instance (l:List Task) (js:List Job):Decidable (jobsP l js):=Classical.propDecidable _
theorem job_All_eq (l:List Task) (js:List Job) (hl:l.length≤4611686018427387904):job_All l js=some (decide (jobsP l js)):=by
 unfold job_All
 simp only[jn_eq,fk_t,fk_f]
 rw[bnd_eq (task_All_eq l hl)]
 by_cases ha:AllP l
 rotate_left
 ·rw[decide_eq_false ha,Bool.not_false,fk_t]; exact dec_f fun h=>ha h.1
 rw[decide_eq_true ha,Bool.not_true,fk_f]
 by_cases hn:(js.length:Int)>32
 ·rw[decide_eq_true hn,fk_t]; exact dec_f fun h=>by have:=h.2.1; omega
 rw[decide_eq_false hn,fk_f]
 refine lp_up js.length (by unfold FU; omega) (fun k=>(∀i (h:i<js.length),i<k→jobP l js[i])∧∀i i2 (h:i<js.length) (h2:i2<js.length),i<i2→i2<k→apartJ js[i] js[i2]) ⟨fun i _ h=>by omega,fun i i2 _ _ _ h=>by omega⟩ ?_
 rintro nx k hk ⟨J1,J2⟩ hnx
 rw[lt_nat]
 by_cases h:k<js.length
 rotate_left
 ·rw[decide_eq_false h,fk_f]
  refine dec_t ⟨ha,by omega,fun j hj=>?_,List.pairwise_iff_getElem.2 fun i i2 h1 h2 h3=>J2 i i2 h1 h2 h3 (by omega)⟩
  obtain⟨i,hi,rfl⟩:=List.getElem_of_mem hj
  exact J1 i hi (by omega)
 rw[decide_eq_true h,fk_t,ix_lt h,bnd_eq (job_right_eq l _ ha)]
 by_cases c1:jobP l js[k]
 rotate_left
 ·rw[decide_eq_false c1,Bool.not_false,fk_t]; exact dec_f fun h2=>c1 (h2.2.2.1 _ (List.getElem_mem h))
 rw[decide_eq_true c1,Bool.not_true,fk_f,ck_t (by simp; omega)]
 have e:(js.take (k:Int).toNat).drop (0:Int).toNat=js.take k:=by simp
 rw[e,wr_succ k _ h (by omega)]
 have hlen:(js.take k).length=k:=by rw[List.length_take]; omega
 refine lp_up (js.take k).length (by unfold FU; omega) (fun i=>∀q (hq:q<js.length),q<i→apartJ js[q] js[k]) (fun q _ h=>by omega) ?_
 intro nx2 i hi K hnx2
 rw[lt_nat]
 by_cases h2:i<(js.take k).length
 rotate_left
 ·rw[decide_eq_false h2,fk_f]
  refine hnx h ⟨fun q hq hqk=>?_,fun q q2 hq hq2 hqq hqk=>?_⟩
  ·by_cases e2:q=k
   ·subst e2; exact c1
   ·exact J1 q hq (by omega)
  ·by_cases e2:q2=k
   ·subst e2; exact K q hq (by omega)
   ·exact J2 q q2 hq hq2 hqq (by omega)
 rw[decide_eq_true h2,fk_t,ix_lt h2,wr_succ i _ h2 (by omega)]
 have hi2:i<js.length:=by omega
 have eg:(js.take k)[i]=js[i]:=by rw[List.getElem_take]
 rw[eg]
 have bad:js[k].Task=js[i].Task→js[k].At=js[i].At→some false=some (decide (jobsP l js)):=fun a b=>dec_f fun hp=>
  List.pairwise_iff_getElem.1 hp.2.2.2 i k hi2 h (by omega) ⟨a.symm,b.symm⟩
 have go:apartJ js[i] js[k]→nx2 ((i+1:Nat):Int)=some (decide (jobsP l js)):=fun hap=>hnx2 h2 fun q hq hqi=>by
  by_cases e2:q=i
  ·subst e2; exact hap
  ·exact K q hq (by omega)
 by_cases d1:js[k].Task=js[i].Task
 ·rw[decide_eq_true d1,fk_t]
  by_cases d2:js[k].At=js[i].At
  ·rw[decide_eq_true d2,fk_t]; exact bad d1 d2
  ·rw[decide_eq_false d2,fk_f]; exact go fun h=>d2 h.2.symm
 ·rw[decide_eq_false d1,fk_f]; exact go fun h=>d1 h.1.symm
def heldJ (l:List Task) (j:Job):List Int:=match l[j.Task.toNat]? with | some t=>held t j.Had | none=>[]
def heldA (l:List Task) (js:List Job):List Int:=js.flatMap (heldJ l)
theorem heldA_succ (l:List Task) (js:List Job) (k:Nat) (h:k<js.length):heldA l (js.take (k+1))=heldA l (js.take k)++heldJ l js[k]:=by
 unfold heldA; rw[←List.take_append_getElem h,List.flatMap_append]; simp
theorem heldA_len {l:List Task} {js:List Job} (ha:AllP l):(heldA l js).length≤4*js.length:=by
 induction js with
 | nil=>simp[heldA]
 | cons j r ih=>
  have:(heldJ l j).length≤4:=by
   unfold heldJ
   cases e:l[j.Task.toNat]? with
   | none=>simp
   | some t=>exact held_len t _ (ha.1 t (List.mem_of_getElem? e))
  simp only[heldA,List.flatMap_cons,List.length_append,List.length_cons] at *
  omega
theorem heldJ_of {l:List Task} {j:Job} (h:j.Task.toNat<l.length):heldJ l j=held l[j.Task.toNat] j.Had:=by
 unfold heldJ; rw[List.getElem?_eq_getElem h]
theorem job_Held_eq (l:List Task) (js:List Job) (hl:l.length≤4611686018427387904):job_Held l js=some (if jobsP l js then heldA l js else []):=by
 unfold job_Held
 rw[bnd_eq (job_All_eq l js hl)]
 by_cases hp:jobsP l js
 rotate_left
 ·rw[decide_eq_false hp,Bool.not_false,fk_t,if_neg hp]
 rw[decide_eq_true hp,Bool.not_true,fk_f,if_pos hp]
 have h32:=hp.2.1
 refine lp_upS js.length (by unfold FU; omega) (fun k o=>o=heldA l (js.take k)) [] (by simp[heldA]) ?_
 rintro nx k o hk rfl hnx
 simp only
 rw[lt_nat]
 by_cases h:k<js.length
 rotate_left
 ·rw[decide_eq_false h,fk_f]
  have:k=js.length:=by omega
  rw[this,List.take_length]
 have hj:=hp.2.2.1 _ (List.getElem_mem h)
 obtain⟨h1,h2,h3,h4,hb⟩:=hj
 have hlen:=heldA_len (l:=l) (js:=js.take k) hp.1
 rw[List.length_take] at hlen
 have hlen2:=held_len l[js[k].Task.toNat] js[k].Had (hp.1.1 _ (List.getElem_mem h4))
 rw[decide_eq_true h,fk_t,ix_lt h,ix_int h1 h4,bnd_eq (task_Held_eq _ _),ck_t (by simp; omega),wr_succ k _ h (by omega)]
 refine hnx _ h ?_
 rw[heldA_succ l js k h,heldJ_of h4]
def aheadP (a b:Job):Prop:=a.Due<b.Due∨(a.Due=b.Due∧(a.Task<b.Task∨(a.Task=b.Task∧a.At<b.At)))
instance (a b:Job):Decidable (aheadP a b):=by unfold aheadP; infer_instance
theorem job_Ahead_eq (a b:Job):job_Ahead a b=some (decide (aheadP a b)):=by
 unfold job_Ahead
 by_cases c1:a.Due=b.Due
 ·rw[decide_eq_true c1,Bool.not_true,fk_f]
  by_cases c2:a.Task=b.Task
  ·rw[decide_eq_true c2,Bool.not_true,fk_f]
   refine dec_iff ?_; unfold aheadP; omega
  ·rw[decide_eq_false c2,Bool.not_false,fk_t]
   refine dec_iff ?_; unfold aheadP; omega
 ·rw[decide_eq_false c1,Bool.not_false,fk_t]
  refine dec_iff ?_; unfold aheadP; omega
def IsFK (js:List Job) (b:Bool) (K:Nat) (i:Int):Prop:=
 (i = -1∧∀k (hk:k<js.length),k<K→js[k].Began≠b) ∨
 (∃n:Nat,i=(n:Int)∧∃h:n<js.length,n<K∧js[n].Began=b∧(∀k (hk:k<js.length),k<K→js[k].Began=b→¬aheadP js[k] js[n])∧∀k (hk:k<js.length),k<n→js[k].Began=b→aheadP js[n] js[k])
def IsF (js:List Job) (b:Bool) (i:Int):Prop:=IsFK js b js.length i
theorem IsF.uniq {js:List Job} {b:Bool} {i i':Int} (h:IsF js b i) (h':IsF js b i'):i=i':=by
 rcases h with ⟨h1,h2⟩ | ⟨n,rfl,hn,_,hb,h3,h4⟩ <;> rcases h' with ⟨h1',h2'⟩ | ⟨n',rfl,hn',_,hb',h3',h4'⟩
 ·omega
 ·exact absurd hb' (h2 n' hn' hn')
 ·exact absurd hb (h2' n hn hn)
 ·rcases Nat.lt_trichotomy n n' with h | h | h
  ·exact absurd (h4' n hn h hb) (h3 n' hn' hn' hb')
  ·rw[h]
  ·exact absurd (h4 n' hn' h hb') (h3' n hn hn hb)
open Classical in
noncomputable def fst (js:List Job) (b:Bool):Int:=if h:∃i,IsF js b i then Classical.choose h else -1
theorem IsF.eq {js:List Job} {b:Bool} {i:Int} (h:IsF js b i):i=fst js b:=by
 have hx:∃i,IsF js b i:=⟨i,h⟩
 unfold fst
 rw[dif_pos hx]
 exact h.uniq (Classical.choose_spec hx)
theorem aheadP_trans {a b c:Job} (h:aheadP a b) (k:aheadP b c):aheadP a c:=by unfold aheadP at *; omega
theorem aheadP_irr (a:Job):¬aheadP a a:=by unfold aheadP; omega
theorem aheadP_of {a b c:Job} (h:¬aheadP b a) (k:aheadP b c):aheadP a c:=by unfold aheadP at *; omega
theorem aheadP_of' {a b c:Job} (h:aheadP a b) (k:¬aheadP c b):aheadP a c:=by unfold aheadP at *; omega
theorem IsFK.zero (js:List Job) (b:Bool):IsFK js b 0 (-1):=.inl ⟨rfl,fun k _ h=>by omega⟩
theorem IsFK.skip {js:List Job} {b:Bool} {K:Nat} {i:Int} (h:IsFK js b K i) (hK:K<js.length) (hb:js[K].Began≠b):IsFK js b (K+1) i:=by
 rcases h with ⟨h1,h2⟩ | ⟨n,rfl,hn,hl,hb',h3,h4⟩
 ·refine .inl ⟨h1,fun k hk hkK=>?_⟩
  by_cases e:k=K
  ·subst e; exact hb
  ·exact h2 k hk (by omega)
 ·refine .inr ⟨n,rfl,hn,by omega,hb',fun k hk hkK hkb=>?_,h4⟩
  by_cases e:k=K
  ·subst e; exact absurd hkb hb
  ·exact h3 k hk (by omega) hkb
theorem IsFK.keep {js:List Job} {b:Bool} {K n:Nat} (h:IsFK js b K (n:Int)) (hK:K<js.length) (hn:n<js.length) (ha:¬aheadP js[K] js[n]):IsFK js b (K+1) (n:Int):=by
 rcases h with ⟨h1,h2⟩ | ⟨m,e,hm,hl,hb',h3,h4⟩
 ·omega
 ·have:n=m:=by omega
  subst this
  refine .inr ⟨n,rfl,hn,by omega,hb',fun k hk hkK hkb=>?_,h4⟩
  by_cases e:k=K
  ·subst e; exact ha
  ·exact h3 k hk (by omega) hkb
theorem IsFK.turn {js:List Job} {b:Bool} {K:Nat} {i:Int} (h:IsFK js b K i) (hK:K<js.length) (hb:js[K].Began=b) (ha:∀n (hn:n<js.length),i=(n:Int)→aheadP js[K] js[n]):IsFK js b (K+1) (K:Int):=by
 refine .inr ⟨K,rfl,hK,by omega,hb,fun k hk hkK hkb=>?_,fun k hk hkK hkb=>?_⟩
 ·by_cases e:k=K
  ·subst e; exact aheadP_irr _
  ·rcases h with ⟨h1,h2⟩ | ⟨m,rfl,hm,hl,hb',h3,h4⟩
   ·exact absurd hkb (h2 k hk (by omega))
   ·exact fun hh=>h3 k hk (by omega) hkb (aheadP_trans hh (ha m hm rfl))
 ·rcases h with ⟨h1,h2⟩ | ⟨m,rfl,hm,hl,hb',h3,h4⟩
  ·exact absurd hkb (h2 k hk hkK)
  ·exact aheadP_of' (ha m hm rfl) (h3 k hk hkK hkb)
theorem job_First_1_eq (j:Job) (b:Bool):job_First_1 j b=some (decide (j.Began=b)):=rfl
theorem job_First_eq (js:List Job) (b:Bool) (hl:js.length≤4611686018427387904):job_First js b=some (fst js b):=by
 unfold job_First
 have:job_first_api_Job js b=some (fst js b):=by
  unfold job_first_api_Job
  simp only[jn_eq]
  refine lp_upS js.length (by unfold FU; omega) (fun k i=>IsFK js b k i) (-1) (IsFK.zero js b) ?_
  intro nx k i hk J hnx
  simp only
  rw[lt_nat]
  by_cases h:k<js.length
  rotate_left
  ·rw[decide_eq_false h,fk_f]
   have:k=js.length:=by omega
   subst this
   rw[IsF.eq J]
  rw[decide_eq_true h,fk_t]
  simp only[ix_lt h]
  rw[job_First_1_eq,bnd_some,wr_succ k _ h hl]
  by_cases hb:js[k].Began=b
  rotate_left
  ·rw[decide_eq_false hb,fk_f,fk_f]; exact hnx _ h (J.skip h hb)
  rw[decide_eq_true hb,fk_t]
  by_cases h0:i<0
  ·rw[decide_eq_true h0,fk_t,fk_t]
   exact hnx _ h (J.turn h hb fun n hn e=>by omega)
  rw[decide_eq_false h0,fk_f]
  have hi:i.toNat<js.length:=by
   rcases J with ⟨h1,_⟩ | ⟨n,rfl,hn,_⟩
   ·omega
   ·simpa using hn
  have ei:i=(i.toNat:Int):=by omega
  rw[ix_int (by omega) hi,job_Ahead_eq,bnd_some]
  by_cases ha:aheadP js[k] js[i.toNat]
  ·rw[decide_eq_true ha,fk_t]
   exact hnx _ h (J.turn h hb fun n hn e=>by
    have:n=i.toNat:=by omega
    subst this; exact ha)
  ·rw[decide_eq_false ha,fk_f]
   refine hnx _ h ?_
   rw[ei] at J ⊢
   exact J.keep h hi ha
 rw[bnd_eq this]
theorem fst_is (js:List Job) (b:Bool):IsF js b (fst js b):=by
 have:∀K,K≤js.length→∃i,IsFK js b K i:=by
  intro K
  induction K with
  | zero=>exact fun _=>⟨-1,IsFK.zero js b⟩
  | succ K ih=>
   intro hK
   obtain⟨i,hi⟩:=ih (by omega)
   by_cases hb:js[K].Began=b
   rotate_left
   ·exact⟨i,hi.skip hK hb⟩
   by_cases ha:∀n (hn:n<js.length),i=(n:Int)→aheadP js[K] js[n]
   ·exact⟨K,hi.turn hK hb ha⟩
   ·have:∃n,∃hn:n<js.length,i=(n:Int)∧¬aheadP js[K] js[n]:=by
     by_cases c:∃n,∃hn:n<js.length,i=(n:Int)∧¬aheadP js[K] js[n]
     ·exact c
     ·exact absurd (fun n hn e=>by
       by_cases c2:aheadP js[K] js[n]
       ·exact c2
       ·exact absurd ⟨n,hn,e,c2⟩ c) ha
    obtain⟨n,hn,rfl,hna⟩:=this
    exact⟨n,hi.keep hK hn hna⟩
 obtain⟨i,hi⟩:=this js.length (Nat.le_refl _)
 rw[←IsF.eq hi]; exact hi
theorem countP_lt {α:Type} {p q:α→Bool} {l:List α} (h:∀x∈l,p x=true→q x=true) {x:α} (hx:x∈l) (hp:p x=false) (hq:q x=true):l.countP p<l.countP q:=by
 induction l with
 | nil=>cases hx
 | cons a r ih=>
  simp only[List.countP_cons]
  have hr:=fun x hx=>h x (List.mem_cons_of_mem _ hx)
  have hle:r.countP p≤r.countP q:=List.countP_mono_left hr
  rcases List.mem_cons.1 hx with rfl | hx
  ·rw[hp,hq]; simp; omega
  ·have:=ih hr hx
   have h2:=h a List.mem_cons_self
   cases hpa:p a with
   | true=>rw[h2 hpa]; simp; omega
   | false=>simp; omega
theorem levelN_lt {l:List Task} {x:Task} (hx:x∈l) (D:Int):levelN l x.D<levelN l D↔D<x.D:=by
 unfold levelN
 constructor
 ·intro h
  by_cases c:D<x.D
  ·exact c
  ·have:l.countP (fun y=>decide (y.D>D))≤l.countP (fun y=>decide (y.D>x.D)):=List.countP_mono_left fun y _ hy=>by
    simp only[decide_eq_true_eq] at *; omega
   omega
 ·intro h
  have:=countP_lt (p:=fun y:Task=>decide (y.D>x.D)) (q:=fun y=>decide (y.D>D)) (l:=l) (fun y _ hy=>by simp only[decide_eq_true_eq] at *; omega) hx (by simp) (by simpa using h)
  omega
def passD (l:List Task) (h:List Int) (D:Int):Prop:=∀r∈h,∀x∈l,usesP x r→D<x.D
theorem maxL_lt {α:Type} {f:α→Nat} {l:List α} {n:Nat} (hn:0<n):maxL f l<n↔∀x∈l,f x<n:=by
 constructor
 ·intro h x hx; exact Nat.lt_of_le_of_lt (le_maxL hx) h
 ·intro h
  have:maxL f l≤n-1:=maxL_le.2 fun x hx=>by have:=h x hx; omega
  omega
theorem passes_iff {l:List Task} {h:List Int} {i:Int} (ha:AllP l) (h0:0≤i) (hi:i.toNat<l.length):heldN l h<ofN l i↔passD l h l[i.toNat].D:=by
 rw[ofN_lt ha h0 hi]
 have hn:0<levelN l l[i.toNat].D:=by unfold levelN; omega
 unfold heldN passD
 rw[maxL_lt hn]
 refine forall_congr' fun r=>forall_congr' fun hr=>?_
 rw[ceil,if_pos ha,ceilN,maxL_lt hn]
 refine forall_congr' fun x=>forall_congr' fun hx=>?_
 by_cases c:usesP x r
 ·rw[if_pos c,levelN_lt hx]; exact⟨fun h _=>h,fun h=>h c⟩
 ·rw[if_neg c]; exact⟨fun _ h=>absurd h c,fun _=>hn⟩
def jg (js:List Job) (i:Int):Job:=(js[i.toNat]?).getD ⟨0,0,0,0,0,false⟩
theorem jg_lt {js:List Job} {i:Int} (h:i.toNat<js.length):jg js i=js[i.toNat]:=by unfold jg; rw[List.getElem?_eq_getElem h]; rfl
theorem fst_cases (js:List Job) (b:Bool):fst js b = -1∨(0≤fst js b∧(fst js b).toNat<js.length):=by
 rcases fst_is js b with ⟨h,_⟩ | ⟨n,h,hn,_⟩
 ·exact .inl h
 ·exact .inr ⟨by omega,by omega⟩
theorem fst_none {js:List Job} {b:Bool} (h:fst js b<0):∀j∈js,j.Began≠b:=by
 intro j hj
 rcases fst_is js b with ⟨_,h2⟩ | ⟨n,h1,_⟩
 ·obtain⟨k,hk,rfl⟩:=List.getElem_of_mem hj
  exact h2 k hk hk
 ·omega
theorem fst_first {js:List Job} {b:Bool} (h:0≤fst js b) (hl:(fst js b).toNat<js.length):js[(fst js b).toNat].Began=b∧∀j∈js,j.Began=b→¬aheadP j js[(fst js b).toNat]:=by
 rcases fst_is js b with ⟨h1,_⟩ | ⟨n,h1,hn,_,hb,h3,_⟩
 ·omega
 ·have e:(fst js b).toNat=n:=by omega
  subst e
  refine⟨hb,fun j hj hjb=>?_⟩
  obtain⟨k,hk,rfl⟩:=List.getElem_of_mem hj
  exact h3 k hk hk hjb
open Classical in
noncomputable def cho (l:List Task) (js:List Job):Int:=
 if fst js false<0 then fst js true
 else if 0≤fst js true∧¬aheadP (jg js (fst js false)) (jg js (fst js true)) then fst js true
 else if fst js true<0∨heldN l (heldA l js)<ofN l (jg js (fst js false)).Task then fst js false
 else fst js true
theorem heldA_none {l:List Task} {js:List Job} (hp:jobsP l js) (h:∀j∈js,j.Began≠true):heldA l js=[]:=by
 unfold heldA
 rw[List.flatMap_eq_nil_iff]
 intro j hj
 obtain⟨_,_,_,h4,hb⟩:=hp.2.2.1 j hj
 rw[heldJ_of h4]
 refine held_out (hp.1.1 _ (List.getElem_mem h4)) (.inl ?_)
 rcases hb.2.2.2.2.2.2 with h5 | h5
 ·exact absurd h5 (h j hj)
 ·omega
theorem heldN_none (l:List Task):heldN l []=0:=rfl
theorem srp_Choose_eq (l:List Task) (js:List Job) (hl:l.length≤4611686018427387904):srp_Choose l js=some (if jobsP l js then cho l js else -1):=by
 unfold srp_Choose
 simp only[jn_eq]
 rw[bnd_eq (job_All_eq l js hl)]
 by_cases hp:jobsP l js
 rotate_left
 ·rw[decide_eq_false hp,Bool.not_false,fk_t,if_neg hp]
 have h32:=hp.2.1
 have hlen:=heldA_len (l:=l) (js:=js) hp.1
 rw[decide_eq_true hp,Bool.not_true,fk_f,if_pos hp,bnd_eq (job_First_eq js _ (by omega)),bnd_eq (job_First_eq js _ (by omega))]
 unfold cho
 by_cases c1:fst js false<0
 ·rw[decide_eq_true c1,fk_t,if_pos c1]
 rw[decide_eq_false c1,fk_f,if_neg c1]
 have hf:(fst js false).toNat<js.length:=by rcases fst_cases js false with h | h <;> omega
 rw[jg_lt hf]
 have main:fk (decide (fst js true<0)) (some (fst js false)) (ix js (fst js false) fun x9=>bnd (job_Held l js) fun x10=>bnd (level_Passes l x9.Task x10) fun x11=>fk x11 (some (fst js false)) (some (fst js true)))=some (if fst js true<0∨heldN l (heldA l js)<ofN l js[(fst js false).toNat].Task then fst js false else fst js true):=by
  by_cases c2:fst js true<0
  ·rw[decide_eq_true c2,fk_t,if_pos (.inl c2)]
  rw[decide_eq_false c2,fk_f,ix_int (by omega) hf,bnd_eq (job_Held_eq l js hl),if_pos hp,bnd_eq (level_Passes_eq l _ _ hl (by omega))]
  by_cases c3:heldN l (heldA l js)<ofN l js[(fst js false).toNat].Task
  ·rw[decide_eq_true c3,fk_t,if_pos (.inr c3)]
  ·rw[decide_eq_false c3,fk_f,if_neg (fun h=>h.elim c2 c3)]
 by_cases c2:fst js true≥0
 ·have ht:(fst js true).toNat<js.length:=by rcases fst_cases js true with h | h <;> omega
  rw[decide_eq_true c2,fk_t,ix_int (by omega) hf,ix_int c2 ht,job_Ahead_eq,bnd_some,jg_lt ht]
  by_cases c3:aheadP js[(fst js false).toNat] js[(fst js true).toNat]
  ·rw[decide_eq_true c3,Bool.not_true,fk_f,main,if_neg (c:=0≤fst js true∧¬aheadP _ _) (fun h=>h.2 c3)]
  ·rw[decide_eq_false c3,Bool.not_false,fk_t,if_pos (c:=0≤fst js true∧_) ⟨c2,c3⟩]
 ·rw[decide_eq_false c2,fk_f,fk_f,main,if_neg (c:=0≤fst js true∧_) (fun h=>c2 h.1)]
theorem cho_cases {l:List Task} {js:List Job} (hp:jobsP l js) :
  (js=[]∧cho l js = -1)∨∃n,∃h:n<js.length,cho l js=(n:Int) ∧
   ((js[n].Began=true∧(∀j∈js,j.Began=true→¬aheadP j js[n])∧∀j∈js,j.Began=false→aheadP j js[n]→∃f∈js,f.Began=false∧(∀j∈js,j.Began=false→¬aheadP j f)∧∃hf:f.Task.toNat<l.length,¬passD l (heldA l js) l[f.Task.toNat].D) ∨
   (js[n].Began=false∧(∀j∈js,j.Began=false→¬aheadP j js[n])∧(∀j∈js,j.Began=true→aheadP js[n] j)∧∃hf:js[n].Task.toNat<l.length,passD l (heldA l js) l[js[n].Task.toNat].D)):=by
 unfold cho
 by_cases c1:fst js false<0
 ·rw[if_pos c1]
  by_cases c2:fst js true<0
  ·left
   have h1:=fst_none c1
   have h2:=fst_none c2
   refine⟨List.eq_nil_iff_forall_not_mem.2 fun j hj=>?_,by rcases fst_cases js true with h | h <;> omega⟩
   cases hb:j.Began with
   | true=>exact h2 j hj hb
   | false=>exact h1 j hj hb
  ·have ht:(fst js true).toNat<js.length:=by rcases fst_cases js true with h | h <;> omega
   obtain⟨h1,h2⟩:=fst_first (by omega) ht
   exact .inr ⟨_,ht,by omega,.inl ⟨h1,h2,fun j hj hb _=>absurd hb (fst_none c1 j hj)⟩⟩
 rw[if_neg c1]
 have hf:(fst js false).toNat<js.length:=by rcases fst_cases js false with h | h <;> omega
 obtain⟨t0,_,_,t3,_⟩:=hp.2.2.1 _ (List.getElem_mem hf)
 obtain⟨f1,f2⟩:=fst_first (b:=false) (by omega) hf
 rw[jg_lt hf]
 right
 by_cases c2:0≤fst js true∧¬aheadP js[(fst js false).toNat] (jg js (fst js true))
 ·rw[if_pos c2]
  have ht:(fst js true).toNat<js.length:=by rcases fst_cases js true with h | h <;> omega
  rw[jg_lt ht] at c2
  obtain⟨h1,h2⟩:=fst_first c2.1 ht
  exact⟨_,ht,by omega,.inl ⟨h1,h2,fun j hj hb ha=>absurd (aheadP_of (f2 j hj hb) ha) c2.2⟩⟩
 rw[if_neg c2]
 by_cases c3:fst js true<0∨heldN l (heldA l js)<ofN l js[(fst js false).toNat].Task
 ·rw[if_pos c3]
  refine⟨_,hf,by omega,.inr ⟨f1,f2,fun j hj hb=>?_,t3,?_⟩⟩
  ·by_cases c4:fst js true<0
   ·exact absurd hb (fst_none c4 j hj)
   ·have ht:(fst js true).toNat<js.length:=by rcases fst_cases js true with h | h <;> omega
    obtain⟨h1,h2⟩:=fst_first (b:=true) (by omega) ht
    have h3:aheadP js[(fst js false).toNat] js[(fst js true).toNat]:=by
     by_cases c:aheadP js[(fst js false).toNat] js[(fst js true).toNat]
     ·exact c
     ·exact absurd ⟨by omega,by rw[jg_lt ht]; exact c⟩ c2
    exact aheadP_of' h3 (h2 j hj hb)
  ·rw[←passes_iff hp.1 t0 t3]
   rcases c3 with c3 | c3
   ·rw[heldA_none hp (fst_none c3),heldN_none,ofN_lt hp.1 t0 t3]; unfold levelN; omega
   ·exact c3
 ·rw[if_neg c3]
  have c4:¬fst js true<0:=fun h=>c3 (.inl h)
  have ht:(fst js true).toNat<js.length:=by rcases fst_cases js true with h | h <;> omega
  obtain⟨h1,h2⟩:=fst_first (b:=true) (by omega) ht
  refine⟨_,ht,by omega,.inl ⟨h1,h2,fun j hj hb ha=>⟨_,List.getElem_mem hf,f1,f2,t3,?_⟩⟩⟩
  rw[←passes_iff hp.1 t0 t3]
  exact fun h=>c3 (.inr h)
def upd (j:Job):Job:=⟨j.Task,j.At,j.Due,j.Want,j.Had+1,true⟩
def taskC (l:List Task) (j:Job):Int:=match l[j.Task.toNat]? with | some t=>t.C | none=>0
def overB (l:List Task) (j:Job):Bool:=decide (j.Had+1≥(if taskC l j<j.Want then taskC l j else j.Want))
def zeroJ:Job:=⟨0,0,0,0,0,false⟩
def tickN (l:List Task) (js:List Job) (n:Nat) (h:n<js.length):List Job:=if overB l js[n]=true then js.eraseIdx n else js.set n (upd js[n])
open Classical in
noncomputable def tick (l:List Task) (js:List Job):List Job×Job×Bool:=
 if h:jobsP l js∧0≤cho l js∧(cho l js).toNat<js.length then (tickN l js (cho l js).toNat h.2.2,upd js[(cho l js).toNat],overB l js[(cho l js).toNat]) else (js,zeroJ,false)
theorem tick_eq {l:List Task} {js:List Job} (hp:jobsP l js) {n:Nat} (hn:n<js.length) (ec:cho l js=(n:Int)):tick l js=(tickN l js n hn,upd js[n],overB l js[n]):=by
 obtain rfl:n=(cho l js).toNat:=by omega
 unfold tick
 rw[dif_pos ⟨hp,by omega,hn⟩]
theorem cho_nat {l:List Task} {js:List Job} (hp:jobsP l js):cho l js = -1∨∃n,∃hn:n<js.length,cho l js=(n:Int):=by
 rcases cho_cases hp with ⟨_,h⟩ | ⟨n,hn,h,_⟩
 ·exact .inl h
 ·exact .inr ⟨n,hn,h⟩
theorem tickN_form {l:List Task} {js:List Job} {n:Nat} (h:n<js.length):tickN l js n h=js.take n++(if overB l js[n]=true then [] else [upd js[n]])++js.drop (n+1):=by
 unfold tickN
 split
 ·rw[List.eraseIdx_eq_take_drop_succ]; simp
 ·rw[List.set_eq_take_append_cons_drop,if_pos h]; simp
theorem had_bound {l:List Task} {js:List Job} (hp:jobsP l js) {j:Job} (hj:j∈js):0≤j.Had∧j.Had<200∧j.Had<j.Want∧j.Had<taskC l j∧j.Want≤200∧taskC l j≤200:=by
 obtain⟨_,_,_,h4,hb⟩:=hp.2.2.1 j hj
 have hc:=hp.1.1 _ (List.getElem_mem h4)
 have:=hc.1
 unfold ownP at this
 unfold bodyP at hb
 unfold taskC
 rw[List.getElem?_eq_getElem h4]
 simp only
 omega
theorem srp_Tick_eq (l:List Task) (js:List Job) (hl:l.length≤4611686018427387904):srp_Tick l js=some (tick l js):=by
 unfold srp_Tick
 simp only[jn_eq]
 rw[bnd_eq (srp_Choose_eq l js hl)]
 by_cases hp:jobsP l js
 rotate_left
 ·rw[if_neg hp,decide_eq_true (by omega),fk_t,tick,dif_neg (fun h=>hp h.1)]; rfl
 rw[if_pos hp]
 have h32:=hp.2.1
 rcases cho_nat hp with hc | ⟨n,hn,ec⟩
 ·rw[decide_eq_true (by omega),fk_t,tick,dif_neg (fun h=>by omega)]; rfl
 rw[tick_eq hp hn ec,ec]
 obtain⟨t0,t1,t2,t3,tb⟩:=hp.2.2.1 _ (List.getElem_mem hn)
 have hb:=had_bound hp (List.getElem_mem hn)
 have eC:taskC l js[n]=l[js[n].Task.toNat].C:=by unfold taskC; rw[List.getElem?_eq_getElem t3]
 rw[decide_eq_false (by omega),fk_f,ix_lt hn,ix_int t0 t3,←eC,wr_in _ (by omega),wr_in _ (by omega),tickN_form hn]
 have e2:∀m:List Job,(([]:List Job)++((js.take (n:Int).toNat).drop (0:Int).toNat))++m++((js.take (js.length:Int).toNat).drop ((n:Int)+1).toNat)=js.take n++m++js.drop (n+1):=by
  intro m
  rw[show ((n:Int)+1).toNat=n+1 by omega]; simp
 rw[ck_t (by simp; omega),ck_t (by simp; omega)]
 show fk (!overB l js[n]) _ _=_
 cases ho:overB l js[n] with
 | true=>
  rw[Bool.not_true,fk_f,ck_t (by simp; omega),ck_t (by simp; omega),if_pos rfl,←e2 [],List.append_nil]
  show some (_,upd js[n],overB l js[n])=_
  rw[ho]
 | false=>
  rw[Bool.not_false,fk_t,ck_t (by simp; omega),ck_t (by simp; omega),ck_t (by simp; omega),show (if false=true then ([]:List Job) else [upd js[n]])=[upd js[n]] from if_neg (by simp),←e2]
  show some (_,upd js[n],overB l js[n])=_
  rw[ho]; rfl
theorem over_iff {l:List Task} {js:List Job} (hp:jobsP l js) {j:Job} (hj:j∈js):overB l j=(decide (j.Had+1=j.Want) || decide (j.Had+1=taskC l j)):=by
 have hb:=had_bound hp hj
 unfold overB
 by_cases c:taskC l j<j.Want
 ·rw[if_pos c]
  rw[Bool.eq_iff_iff]; simp only[decide_eq_true_eq,Bool.or_eq_true]; omega
 ·rw[if_neg c]
  rw[Bool.eq_iff_iff]; simp only[decide_eq_true_eq,Bool.or_eq_true]; omega
theorem mem_tickN {l:List Task} {js:List Job} {n:Nat} {h:n<js.length} {j:Job} (hj:j∈tickN l js n h):(∃k,∃hk:k<js.length,k≠n∧j=js[k])∨(overB l js[n]=false∧j=upd js[n]):=by
 unfold tickN at hj
 split at hj
 ·rename_i ho
  obtain⟨k,hk,rfl⟩:=List.getElem_of_mem hj
  rw[List.length_eraseIdx,if_pos h] at hk
  rw[List.getElem_eraseIdx]
  split
  ·exact .inl ⟨k,by omega,by omega,rfl⟩
  ·exact .inl ⟨k+1,by omega,by omega,rfl⟩
 ·rename_i ho
  obtain⟨k,hk,rfl⟩:=List.getElem_of_mem hj
  rw[List.length_set] at hk
  rw[List.getElem_set]
  split
  ·exact .inr ⟨by simpa using ho,rfl⟩
  ·exact .inl ⟨k,hk,by omega,rfl⟩
theorem jobsP_tickN {l:List Task} {js:List Job} (hp:jobsP l js) (n:Nat) (h:n<js.length):jobsP l (tickN l js n h):=by
 refine⟨hp.1,?_,fun j hj=>?_,?_⟩
 ·have:=hp.2.1
  unfold tickN
  split
  ·rw[List.length_eraseIdx,if_pos h]; omega
  ·rw[List.length_set]; exact this
 ·rcases mem_tickN hj with ⟨k,hk,_,rfl⟩ | ⟨ho,rfl⟩
  ·exact hp.2.2.1 _ (List.getElem_mem hk)
  ·have hov:=over_iff hp (List.getElem_mem h)
   have hb:=had_bound hp (List.getElem_mem h)
   obtain⟨t0,t1,t2,t3,tb⟩:=hp.2.2.1 _ (List.getElem_mem h)
   have eC:taskC l js[n]=l[js[n].Task.toNat].C:=by unfold taskC; rw[List.getElem?_eq_getElem t3]
   rw[ho] at hov
   simp only[Bool.false_eq,Bool.or_eq_false_iff,decide_eq_false_iff_not] at hov
   refine⟨t0,t1,t2,t3,?_⟩
   unfold bodyP at *
   exact⟨tb.1,tb.2.1,tb.2.2.1,by simp only[upd]; omega,by simp only[upd]; omega,by simp only[upd]; rw[←eC]; omega,.inl rfl⟩
 ·unfold tickN
  split
  ·exact hp.2.2.2.sublist (List.eraseIdx_sublist _ _)
  ·rw[List.pairwise_iff_getElem]
   intro i k hi hk hik
   rw[List.length_set] at hi hk
   have hpw:=List.pairwise_iff_getElem.1 hp.2.2.2 i k hi hk hik
   rw[List.getElem_set,List.getElem_set]
   split <;> split
   ·omega
   ·rename_i e _; subst e; exact hpw
   ·rename_i _ e; subst e; exact hpw
   ·exact hpw
theorem jobsP_tick {l:List Task} {js:List Job} (hp:jobsP l js):jobsP l (tick l js).1:=by
 rcases cho_nat hp with hc | ⟨n,hn,ec⟩
 ·rw[tick,dif_neg (fun h=>by omega)]; exact hp
 ·rw[tick_eq hp hn ec]; exact jobsP_tickN hp n hn
theorem jobsP_nil {l:List Task} (ha:AllP l):jobsP l []:=⟨ha,Nat.zero_le _,fun j hj=>(List.not_mem_nil hj).elim,List.Pairwise.nil⟩
def lastsP (l:List Task) (ls:List Int):Prop:=AllP l∧ls.length=l.length∧∀x∈ls,-1≤x∧x≤4611686018427387903
noncomputable instance (l:List Task) (ls:List Int):Decidable (lastsP l ls):=Classical.propDecidable _
def argP (l:List Task) (ls:List Int) (i t:Int):Prop:=lastsP l ls∧0≤i∧i<(l.length:Int)∧0≤t∧t≤4611686018427387703
noncomputable instance (l:List Task) (ls:List Int) (i t:Int):Decidable (argP l ls i t):=Classical.propDecidable _
def lg (ls:List Int) (i:Int):Int:=(ls[i.toNat]?).getD 0
def tT (l:List Task) (i:Int):Int:=match l[i.toNat]? with | some t=>t.T | none=>0
theorem lg_lt {ls:List Int} {i:Int} (h:i.toNat<ls.length):lg ls i=ls[i.toNat]:=by unfold lg; rw[List.getElem?_eq_getElem h]; rfl
theorem tT_lt {l:List Task} {i:Int} (h:i.toNat<l.length):tT l i=l[i.toNat].T:=by unfold tT; rw[List.getElem?_eq_getElem h]
noncomputable def mayV (l:List Task) (ls:List Int) (i t:Int):Int:=if argP l ls i t then (if lg ls i ≠ -1∧t<lg ls i+tT l i then 6 else 0) else 1
theorem police_Right_eq (l:List Task) (ls:List Int) (hl:l.length≤4611686018427387904) (hs:ls.length≤4611686018427387904):police_Right l ls=some (decide (lastsP l ls)):=by
 unfold police_Right
 simp only[jn_eq,fk_t,fk_f]
 rw[bnd_eq (task_All_eq l hl)]
 by_cases ha:AllP l
 rotate_left
 ·rw[decide_eq_false ha,Bool.not_false,fk_t]; exact dec_f fun h=>ha h.1
 rw[decide_eq_true ha,Bool.not_true,fk_f]
 by_cases hn:(ls.length:Int)=(l.length:Int)
 rotate_left
 ·rw[decide_eq_false hn,Bool.not_false,fk_t]; exact dec_f fun h=>hn (by rw[h.2.1])
 rw[decide_eq_true hn,Bool.not_true,fk_f]
 refine lp_up ls.length (by unfold FU; omega) (fun k=>∀i (h:i<ls.length),i<k → -1≤ls[i]∧ls[i]≤4611686018427387903) (fun i _ h=>by omega) ?_
 intro nx k hk J hnx
 rw[lt_nat]
 by_cases h:k<ls.length
 rotate_left
 ·rw[decide_eq_false h,fk_f]
  refine dec_t ⟨ha,by omega,fun x hx=>?_⟩
  obtain⟨i,hi,rfl⟩:=List.getElem_of_mem hx
  exact J i hi (by omega)
 rw[decide_eq_true h,fk_t,ix_lt h,wr_succ k _ h hs]
 by_cases c1:ls[k] < -1
 ·rw[decide_eq_true c1,fk_t]; exact dec_f fun h2=>by have:=(h2.2.2 _ (List.getElem_mem h)).1; omega
 rw[decide_eq_false c1,fk_f]
 by_cases c2:ls[k]>4611686018427387903
 ·rw[decide_eq_true c2,fk_t]; exact dec_f fun h2=>by have:=(h2.2.2 _ (List.getElem_mem h)).2; omega
 rw[decide_eq_false c2,fk_f]
 refine hnx h fun i hi hik=>?_
 by_cases e:i=k
 ·subst e; omega
 ·exact J i hi (by omega)
theorem argP_idx {l:List Task} {ls:List Int} {i t:Int} (h:argP l ls i t):i.toNat<l.length∧i.toNat<ls.length:=by
 have:=h.1.2.1; have:=h.2.1; have:=h.2.2.1; omega
theorem argP_b {l:List Task} {ls:List Int} {i t:Int} (h:argP l ls i t) : -1≤lg ls i∧lg ls i≤4611686018427387903∧1≤tT l i∧tT l i≤200:=by
 obtain⟨h1,h2⟩:=argP_idx h
 rw[lg_lt h2,tT_lt h1]
 have a:=h.1.2.2 _ (List.getElem_mem h2)
 have b:=(h.1.1.1 _ (List.getElem_mem h1)).1
 unfold ownP at b
 omega
theorem police_May_eq (l:List Task) (ls:List Int) (i t:Int) (hl:l.length≤4611686018427387904) (hs:ls.length≤4611686018427387904):police_May l ls i t=some (mayV l ls i t):=by
 unfold police_May mayV
 simp only[jn_eq,fk_t,fk_f]
 rw[bnd_eq (police_Right_eq l ls hl hs)]
 by_cases ha:lastsP l ls
 rotate_left
 ·rw[decide_eq_false ha,Bool.not_false,fk_t,if_neg (fun h=>ha h.1)]
 rw[decide_eq_true ha,Bool.not_true,fk_f]
 by_cases c1:i<0
 ·rw[decide_eq_true c1,fk_t,if_neg (fun h=>by have:=h.2.1; omega)]
 rw[decide_eq_false c1,fk_f]
 by_cases c2:i≥(l.length:Int)
 ·rw[decide_eq_true c2,fk_t,if_neg (fun h=>by have:=h.2.2.1; omega)]
 rw[decide_eq_false c2,fk_f]
 by_cases c3:t<0
 ·rw[decide_eq_true c3,fk_t,if_neg (fun h=>by have:=h.2.2.2.1; omega)]
 rw[decide_eq_false c3,fk_f]
 by_cases c4:t>4611686018427387703
 ·rw[decide_eq_true c4,fk_t,if_neg (fun h=>by have:=h.2.2.2.2; omega)]
 have hA:argP l ls i t:=⟨ha,by omega,by omega,by omega,by omega⟩
 obtain⟨h1,h2⟩:=argP_idx hA
 have hb:=argP_b hA
 rw[decide_eq_false c4,fk_f,if_pos hA]
 have i2:∀{f:Int→Option Int},ix ls i f=f (lg ls i):=fun {f}=>by rw[lg_lt h2]; exact ix_int (by omega) h2
 have i1:∀{f:Task→Option Int},ix l i f=f l[i.toNat]:=fun {f}=>ix_int (by omega) h1
 simp only[i1,i2]
 rw[←tT_lt h1]
 by_cases c5:lg ls i = -1
 ·rw[decide_eq_true c5,Bool.not_true,fk_f,if_neg (fun h=>h.1 c5)]
 rw[decide_eq_false c5,Bool.not_false,fk_t,wr_in _ (by omega)]
 by_cases c6:t<lg ls i+tT l i
 ·rw[decide_eq_true c6,fk_t,if_pos ⟨c5,c6⟩]
 ·rw[decide_eq_false c6,fk_f,if_neg (fun h=>c6 h.2)]
noncomputable def noteL (l:List Task) (ls:List Int) (i t:Int):List Int:=if mayV l ls i t=0 then ls.set i.toNat t else ls
theorem mayV_arg {l:List Task} {ls:List Int} {i t:Int} (h:mayV l ls i t=0):argP l ls i t:=by
 by_cases c:argP l ls i t
 ·exact c
 ·unfold mayV at h; rw[if_neg c] at h; omega
theorem police_Note_eq (l:List Task) (ls:List Int) (i t:Int) (hl:l.length≤4611686018427387904) (hs:ls.length≤1000000000):police_Note l ls i t=some (noteL l ls i t,mayV l ls i t):=by
 unfold police_Note noteL
 rw[bnd_eq (police_May_eq l ls i t hl (by omega))]
 by_cases h:mayV l ls i t=0
 rotate_left
 ·rw[decide_eq_false h,Bool.not_false,fk_t,if_neg h]
 have hA:=mayV_arg h
 obtain⟨h1,h2⟩:=argP_idx hA
 have:=hA.2.1
 rw[decide_eq_true h,Bool.not_true,fk_f,if_pos h,ck_t (by simp; omega),List.nil_append,ck_t (by simp; omega),ox_lt h2,h]
theorem lastsP_note {l:List Task} {ls:List Int} (h:lastsP l ls) (i t:Int):lastsP l (noteL l ls i t):=by
 unfold noteL
 split
 ·rename_i h0
  have hA:=mayV_arg h0
  refine⟨h.1,by rw[List.length_set]; exact h.2.1,fun x hx=>?_⟩
  rcases List.mem_or_eq_of_mem_set hx with hx | hx
  ·exact h.2.2 x hx
  ·subst hx; have:=hA.2.2.2; omega
 ·exact h
end Go.Proofs.YtldlcdnhdedoeaaGreat
