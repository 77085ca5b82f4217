/- Part 20 of what follows is proved here: what the statement TopAccepts needs of functions and plain laws. -/
import Derived.Test.YtldlcdnhdedoeaaGreatXTopAccepts8
import Derived.Test.YtldlcdnhdedoeaaGreatXTopAccepts0
import Derived.Test.YtldlcdnhdedoeaaGreatV8
set_option linter.unusedVariables false
set_option linter.unusedSimpArgs false
set_option maxRecDepth 100000
set_option maxHeartbeats 40000000
set_option maxRecDepth 1000000
namespace Go.Proofs.YtldlcdnhdedoeaaGreat
open Go Go.VC
noncomputable def police_Right (a0:List Task) (a1:List Int):Option Bool:=
  jn (fun (w1:Bool)=>fk w1 (some false) (lp (fun nx3 (v3:Int)=>fk (decide (v3<(a1.length:Int))) (ix a1 v3 fun x4=>jn (fun (w5:Bool)=>fk w5 (some false) (nx3 (wr (v3+(1:Int))))) (fun k5=>fk (decide (x4<(-1:Int))) (k5 true) (k5 (decide (x4>(4611686018427387903:Int)))))) (some true)) FU (0:Int))) (fun k1=>bnd (task_All a0) fun x2=>fk (!x2) (k1 true) (k1 (!decide ((a1.length:Int)=(a0.length:Int)))))
theorem police_Right_w (a0:List Task) (a1:List Int) (r:Bool) (h:police_Right a0 a1=some r):Go.VC.Spec Tryz.prog 120 [.d (.sl (a0.map Task.enc)),.d (.sl (a1.map (eI .i64)))] (fun y=>y=E_Bool r):=by
  refine Go.VC.Spec.of_xc (args:=[.d (.sl (a0.map Task.enc)),.d (.sl (a1.map (eI .i64)))]) (fn:=Tryz.f120) tab ⟨[(0,[0,1]),(1,[1,16]),(2,[4]),(3,[17,18,19]),(4,[17,18,19,20]),(5,[6,17,18,19]),(6,[17,18,19,28]),(7,[4]),(8,[17,18,19]),(9,[4])],[],[100016,100028],[]⟩ 30 [.tmp 4] rfl rfl rfl rfl rfl rfl ?_
  conv=>whnf
  refine jnS (fun w1=>⟨[(1,.l (.d (.sl (a1.map (eI .i64))))),(16,.l (.d (.bool w1)))],30,[],[],[]⟩) h (fun k1 hk1 h=>?_) (fun w1 h=>?_)
  · conv=>whnf
    refine caS (E:=E_Bool) h (task_All_w a0) rfl (fun _=>rfl) (fun x2 h=>?_)
    conv=>whnf
    refine fkS h (fun h=>?_) (fun h=>?_)
    · conv=>whnf
      exact jeS hk1 h (Weak.refl _)
    conv=>whnf
    refine lenS a1 (eI .i64) rfl ?_
    conv=>whnf
    refine lenS a0 Task.enc rfl ?_
    conv=>whnf
    exact jeS hk1 h (Weak.refl _)
  conv=>whnf
  refine fkS h (fun h=>?_) (fun h=>?_)
  · conv=>whnf
    exact rt (E:=E_Bool) h rfl
  conv=>whnf
  refine lenS a1 (eI .i64) rfl ?_
  conv=>whnf
  refine lpS (fun v3=>⟨[(17,.l (.d (.sl (a1.map (eI .i64))))),(18,.l (.d (.int .i64 (a1.length:Int)))),(19,.l (.d (.int .i64 v3)))],30,[],[],[]⟩) h (Weak.refl _) (fun _ nx3 hn3 v3 h=>?_)
  conv=>whnf
  refine fkS h (fun h=>?_) (fun h=>?_)
  · conv=>whnf
    refine ixS (enc:=(eI .i64)) h rfl (fun _=>rfl) (fun x4 h=>?_)
    conv=>whnf
    refine jnS (fun w5=>⟨[(17,.l (.d (.sl (a1.map (eI .i64))))),(18,.l (.d (.int .i64 (a1.length:Int)))),(19,.l (.d (.int .i64 v3))),(28,.l (.d (.bool w5)))],30,[],[],[]⟩) h (fun k5 hk5 h=>?_) (fun w5 h=>?_)
    · conv=>whnf
      refine fkS h (fun h=>?_) (fun h=>?_)
      · conv=>whnf
        exact jeS hk5 h (Weak.refl _)
      conv=>whnf
      exact jeS hk5 h (Weak.refl _)
    conv=>whnf
    refine fkS h (fun h=>?_) (fun h=>?_)
    · conv=>whnf
      exact rt (E:=E_Bool) h rfl
    conv=>whnf
    exact leS hn3 h (Weak.refl _)
  conv=>whnf
  exact rt (E:=E_Bool) h rfl

end Go.Proofs.YtldlcdnhdedoeaaGreat
namespace Go.Proofs.YtldlcdnhdedoeaaGreat
open Go Go.VC
noncomputable def job_right (a0:List Task) (a1:Job):Option Bool:=
  jn (fun (w1:Bool)=>fk w1 (some false) (ix a0 a1.Task fun x2=>fk (decide (a1.Due=(wr (a1.At+x2.D)))) (fk (decide (a1.Want≥(1:Int))) (fk (decide (a1.Want≤(200:Int))) (fk (decide (a1.Had≥(0:Int))) (fk (decide (a1.Had<(if a1.Want<x2.C then a1.Want else x2.C))) (fk a1.Began (some true) (some (decide (a1.Had=(0:Int))))) (some false)) (some false)) (some false)) (some false)) (some false))) (fun k1=>fk (decide (a1.Task<(0:Int))) (k1 true) (fk (decide (a1.Task≥(a0.length:Int))) (k1 true) (fk (decide (a1.At<(0:Int))) (k1 true) (k1 (decide (a1.At>(4611686018427387703:Int)))))))
theorem job_right_w (a0:List Task) (a1:Job) (r:Bool) (h:job_right a0 a1=some r):Go.VC.Spec Tryz.prog 157 [.d (.sl (a0.map Task.enc)),.agg (Job.enc a1)] (fun y=>y=E_Bool r):=by
  refine Go.VC.Spec.of_xc (args:=[.d (.sl (a0.map Task.enc)),.agg (Job.enc a1)]) (fn:=Tryz.f157) tab ⟨[(0,[0,3]),(1,[0,3,25]),(2,[4]),(3,[3,5]),(4,[4])],[],[100025],[]⟩ 73 [.tmp 4] rfl rfl rfl rfl rfl rfl ?_
  conv=>whnf
  refine jnS (fun w1=>⟨[(0,.l (.d (.sl (a0.map Task.enc)))),(3,.l (.ptr 4 0)),(25,.l (.d (.bool w1)))],73,[],[(4,[.d (.int .i64 a1.Task),.d (.int .i64 a1.At),.d (.int .i64 a1.Due),.d (.int .i64 a1.Want),.d (.int .i64 a1.Had),.d (.bool a1.Began)])],[]⟩) h (fun k1 hk1 h=>?_) (fun w1 h=>?_)
  · conv=>whnf
    refine fkS h (fun h=>?_) (fun h=>?_)
    · conv=>whnf
      exact jeS hk1 h (Weak.refl _)
    conv=>whnf
    refine lenS a0 Task.enc rfl ?_
    conv=>whnf
    refine fkS h (fun h=>?_) (fun h=>?_)
    · conv=>whnf
      exact jeS hk1 h (Weak.refl _)
    conv=>whnf
    refine fkS h (fun h=>?_) (fun h=>?_)
    · conv=>whnf
      exact jeS hk1 h (Weak.refl _)
    conv=>whnf
    exact jeS hk1 h (Weak.refl _)
  conv=>whnf
  refine fkS h (fun h=>?_) (fun h=>?_)
  · conv=>whnf
    exact rt (E:=E_Bool) h rfl
  conv=>whnf
  refine ixS (enc:=Task.enc) h rfl (fun _=>rfl) (fun x2 h=>?_)
  conv=>whnf
  refine fkS h (fun h=>?_) (fun h=>?_)
  · conv=>whnf
    refine fkS h (fun h=>?_) (fun h=>?_)
    · conv=>whnf
      refine fkS h (fun h=>?_) (fun h=>?_)
      · conv=>whnf
        refine fkS h (fun h=>?_) (fun h=>?_)
        · conv=>whnf
          refine fkS h (fun h=>?_) (fun h=>?_)
          · conv=>whnf
            refine fkS h (fun h=>?_) (fun h=>?_)
            · conv=>whnf
              exact rt (E:=E_Bool) h rfl
            conv=>whnf
            exact rt (E:=E_Bool) h rfl
          conv=>whnf
          exact rt (E:=E_Bool) h rfl
        conv=>whnf
        exact rt (E:=E_Bool) h rfl
      conv=>whnf
      exact rt (E:=E_Bool) h rfl
    conv=>whnf
    exact rt (E:=E_Bool) h rfl
  conv=>whnf
  exact rt (E:=E_Bool) h rfl

end Go.Proofs.YtldlcdnhdedoeaaGreat
namespace Go.Proofs.YtldlcdnhdedoeaaGreat
open Go Go.VC
noncomputable def job_All (a0:List Task) (a1:List Job):Option Bool:=
  jn (fun (w1:Bool)=>fk w1 (some false) (lp (fun nx3 (v3:Int)=>fk (decide (v3<(a1.length:Int))) (ix a1 v3 fun x4=>bnd (job_right a0 x4) fun x5=>fk (!x5) (some false) (ck (decide ((0:Int)≤(0:Int)) && decide ((0:Int)≤v3) && decide (v3≤(a1.length:Int))) (lp (fun nx6 (v6:Int)=>fk (decide (v6<(((a1.take v3.toNat).drop (0:Int).toNat).length:Int))) (ix ((a1.take v3.toNat).drop (0:Int).toNat) v6 fun x7=>jn (fun (w8:Bool)=>fk w8 (some false) (nx6 (wr (v6+(1:Int))))) (fun k8=>fk (decide (x4.Task=x7.Task)) (k8 (decide (x4.At=x7.At))) (k8 false))) (nx3 (wr (v3+(1:Int))))) FU (0:Int)))) (some true)) FU (0:Int))) (fun k1=>bnd (task_All a0) fun x2=>fk (!x2) (k1 true) (k1 (decide ((a1.length:Int)>(32:Int)))))
theorem job_All_w (a0:List Task) (a1:List Job) (r:Bool) (h:job_All a0 a1=some r):Go.VC.Spec Tryz.prog 121 [.d (.sl (a0.map Task.enc)),.d (.sl (a1.map Job.enc))] (fun y=>y=E_Bool r):=by
  refine Go.VC.Spec.of_xc (args:=[.d (.sl (a0.map Task.enc)),.d (.sl (a1.map Job.enc))]) (fn:=Tryz.f121) tab ⟨[(0,[0,1]),(1,[0,1,16]),(2,[4]),(3,[0,1,17,18,19]),(4,[0,1,17,18,19,20]),(5,[0,1,5,6,17,18,19]),(6,[0,1,5,6,17,18,19,27]),(7,[4]),(8,[0,1,6,17,18,19,30,31,32]),(9,[0,1,6,17,18,19,30,31,32,33]),(10,[0,1,6,8,17,18,19,30,31,32]),(11,[0,1,6,17,18,19,30,31,32,47]),(12,[4]),(13,[0,1,6,17,18,19,30,31,32]),(14,[0,1,17,18,19]),(15,[4])],[],[100016,100047],[]⟩ 50 [.tmp 4] rfl rfl rfl rfl rfl rfl ?_
  conv=>whnf
  refine jnS (fun w1=>⟨[(0,.l (.d (.sl (a0.map Task.enc)))),(1,.l (.d (.sl (a1.map Job.enc)))),(16,.l (.d (.bool w1)))],50,[],[],[]⟩) h (fun k1 hk1 h=>?_) (fun w1 h=>?_)
  · conv=>whnf
    refine caS (E:=E_Bool) h (task_All_w a0) rfl (fun _=>rfl) (fun x2 h=>?_)
    conv=>whnf
    refine fkS h (fun h=>?_) (fun h=>?_)
    · conv=>whnf
      exact jeS hk1 h (Weak.refl _)
    conv=>whnf
    refine lenS a1 Job.enc rfl ?_
    conv=>whnf
    exact jeS hk1 h (Weak.refl _)
  conv=>whnf
  refine fkS h (fun h=>?_) (fun h=>?_)
  · conv=>whnf
    exact rt (E:=E_Bool) h rfl
  conv=>whnf
  refine lenS a1 Job.enc rfl ?_
  conv=>whnf
  refine lpS (fun v3=>⟨[(0,.l (.d (.sl (a0.map Task.enc)))),(1,.l (.d (.sl (a1.map Job.enc)))),(17,.l (.d (.sl (a1.map Job.enc)))),(18,.l (.d (.int .i64 (a1.length:Int)))),(19,.l (.d (.int .i64 v3)))],50,[],[],[]⟩) h (Weak.refl _) (fun _ nx3 hn3 v3 h=>?_)
  conv=>whnf
  refine fkS h (fun h=>?_) (fun h=>?_)
  · conv=>whnf
    refine ixS (enc:=Job.enc) h rfl (fun _=>rfl) (fun x4 h=>?_)
    conv=>whnf
    refine caS (E:=E_Bool) h (job_right_w a0 x4) rfl (fun _=>rfl) (fun x5 h=>?_)
    conv=>whnf
    refine fkS h (fun h=>?_) (fun h=>?_)
    · conv=>whnf
      exact rt (E:=E_Bool) h rfl
    conv=>whnf
    refine slS (enc:=Job.enc) h rfl rfl (.inl rfl) (fun _=>rfl) (fun h=>?_)
    conv=>whnf
    refine lenS ((a1.take v3.toNat).drop (0:Int).toNat) Job.enc rfl ?_
    conv=>whnf
    refine lpS (fun v6=>⟨[(0,.l (.d (.sl (a0.map Task.enc)))),(1,.l (.d (.sl (a1.map Job.enc)))),(6,.l (.ptr 7 0)),(17,.l (.d (.sl (a1.map Job.enc)))),(18,.l (.d (.int .i64 (a1.length:Int)))),(19,.l (.d (.int .i64 v3))),(30,.l (.d (.sl (((a1.take v3.toNat).drop (0:Int).toNat).map Job.enc)))),(31,.l (.d (.int .i64 (((a1.take v3.toNat).drop (0:Int).toNat).length:Int)))),(32,.l (.d (.int .i64 v6)))],50,[],[(7,[.d (.int .i64 x4.Task),.d (.int .i64 x4.At),.d (.int .i64 x4.Due),.d (.int .i64 x4.Want),.d (.int .i64 x4.Had),.d (.bool x4.Began)])],[]⟩) h (Weak.refl _) (fun _ nx6 hn6 v6 h=>?_)
    conv=>whnf
    refine fkS h (fun h=>?_) (fun h=>?_)
    · conv=>whnf
      refine ixS (enc:=Job.enc) h rfl (fun _=>rfl) (fun x7 h=>?_)
      conv=>whnf
      refine jnS (fun w8=>⟨[(0,.l (.d (.sl (a0.map Task.enc)))),(1,.l (.d (.sl (a1.map Job.enc)))),(6,.l (.ptr 7 0)),(17,.l (.d (.sl (a1.map Job.enc)))),(18,.l (.d (.int .i64 (a1.length:Int)))),(19,.l (.d (.int .i64 v3))),(30,.l (.d (.sl (((a1.take v3.toNat).drop (0:Int).toNat).map Job.enc)))),(31,.l (.d (.int .i64 (((a1.take v3.toNat).drop (0:Int).toNat).length:Int)))),(32,.l (.d (.int .i64 v6))),(47,.l (.d (.bool w8)))],50,[],[(7,[.d (.int .i64 x4.Task),.d (.int .i64 x4.At),.d (.int .i64 x4.Due),.d (.int .i64 x4.Want),.d (.int .i64 x4.Had),.d (.bool x4.Began)])],[]⟩) h (fun k8 hk8 h=>?_) (fun w8 h=>?_)
      · conv=>whnf
        refine fkS h (fun h=>?_) (fun h=>?_)
        · conv=>whnf
          exact jeS hk8 h (Weak.refl _)
        conv=>whnf
        exact jeS hk8 h (Weak.refl _)
      conv=>whnf
      refine fkS h (fun h=>?_) (fun h=>?_)
      · conv=>whnf
        exact rt (E:=E_Bool) h rfl
      conv=>whnf
      exact leS hn6 h (Weak.refl _)
    conv=>whnf
    exact leS hn3 h (Weak.refl _)
  conv=>whnf
  exact rt (E:=E_Bool) h rfl

end Go.Proofs.YtldlcdnhdedoeaaGreat
namespace Go.Proofs.YtldlcdnhdedoeaaGreat
open Go Go.VC
noncomputable def part_Right (a0:PartState):Option Bool:=
  fk (decide ((a0.Leaves.length:Int)=(a0.Tasks.length:Int))) (bnd (police_Right a0.Tasks a0.Lasts) fun x1=>fk x1 (bnd (job_All a0.Tasks a0.Jobs) fun x2=>fk x2 (some (decide ((a0.Log.length:Int)≤(2000:Int)))) (some false)) (some false)) (some false)
theorem part_Right_w (a0:PartState) (r:Bool) (h:part_Right a0=some r):Go.VC.Spec Tryz.prog 61 [.agg (PartState.enc a0)] (fun y=>y=E_Bool r):=by
  refine Go.VC.Spec.of_xc (args:=[.agg (PartState.enc a0)]) (fn:=Tryz.f61) tab ⟨[(0,[1]),(1,[2])],[],[],[]⟩ 30 [.tmp 2] rfl rfl rfl rfl rfl rfl ?_
  conv=>whnf
  refine lenS a0.Leaves eB rfl ?_
  conv=>whnf
  refine lenS a0.Tasks Task.enc rfl ?_
  conv=>whnf
  refine fkS h (fun h=>?_) (fun h=>?_)
  · conv=>whnf
    refine caS (E:=E_Bool) h (police_Right_w a0.Tasks a0.Lasts) rfl (fun _=>rfl) (fun x1 h=>?_)
    conv=>whnf
    refine fkS h (fun h=>?_) (fun h=>?_)
    · conv=>whnf
      refine caS (E:=E_Bool) h (job_All_w a0.Tasks a0.Jobs) rfl (fun _=>rfl) (fun x2 h=>?_)
      conv=>whnf
      refine fkS h (fun h=>?_) (fun h=>?_)
      · conv=>whnf
        refine lenS a0.Log Entry.enc rfl ?_
        conv=>whnf
        exact rt (E:=E_Bool) h rfl
      conv=>whnf
      exact rt (E:=E_Bool) h rfl
    conv=>whnf
    exact rt (E:=E_Bool) h rfl
  conv=>whnf
  exact rt (E:=E_Bool) h rfl

end Go.Proofs.YtldlcdnhdedoeaaGreat
namespace Go.Proofs.YtldlcdnhdedoeaaGreat
open Go Go.VC
noncomputable def part_Add (a0:PartState) (a1:Task):Option (PartState×Int):=
  jn (fun (w1:Bool)=>fk w1 (some (a0,(1:Int))) (fk (decide ((a0.Tasks.length:Int)≥(8:Int))) (some (a0,(3:Int))) (ck (decide ((([]:List Sec).length+a1.Secs.length)*24≤140737488355328)) (ck (decide ((([]:List Task).length+a0.Tasks.length)*48≤140737488355328)) (ck (decide (((([]:List Task)++a0.Tasks).length+([⟨a1.C,a1.D,a1.T,([]:List Sec)++a1.Secs⟩]:List Task).length)*48≤140737488355328)) (ck (decide ((([]:List Bool).length+a0.Leaves.length)*1≤140737488355328)) (ck (decide (((([]:List Bool)++a0.Leaves).length+([false]:List Bool).length)*1≤140737488355328)) (ck (decide ((([]:List Int).length+a0.Lasts.length)*8≤140737488355328)) (ck (decide (((([]:List Int)++a0.Lasts).length+([(-1:Int)]:List Int).length)*8≤140737488355328)) (some (⟨(([]:List Task)++a0.Tasks)++([⟨a1.C,a1.D,a1.T,([]:List Sec)++a1.Secs⟩]:List Task),(([]:List Bool)++a0.Leaves)++([false]:List Bool),(([]:List Int)++a0.Lasts)++([(-1:Int)]:List Int),a0.Jobs,a0.Log⟩,(0:Int)))))))))))) (fun k1=>bnd (part_Right a0) fun x2=>fk (!x2) (k1 true) (bnd (task_Right a1) fun x3=>k1 (!x3)))
theorem part_Add_w (a0:PartState) (a1:Task) (r:PartState×Int) (h:part_Add a0 a1=some r):Go.VC.Spec Tryz.prog 65 [.agg (PartState.enc a0),.agg (Task.enc a1)] (fun y=>y=E_PartState_Int r):=by
  refine Go.VC.Spec.of_xc (args:=[.agg (PartState.enc a0),.agg (Task.enc a1)]) (fn:=Tryz.f65) tab ⟨[(0,[2,3,4]),(1,[2,3,4,6]),(2,[4,5]),(3,[2,3,4,16]),(4,[4,5]),(5,[2,3,4]),(6,[2,4]),(7,[2,4]),(8,[2,4]),(9,[4,5])],[],[100006],[(26,[26])]⟩ 50 [.cell 4 51,.tmp 5] rfl rfl rfl rfl rfl rfl ?_
  conv=>whnf
  refine jnS (fun w1=>⟨[(2,.l (.ptr 3 0)),(3,.l (.ptr 4 0)),(4,.l (.ptr 5 0)),(6,.l (.d (.bool w1)))],50,[],[(3,[.d (.sl (a0.Tasks.map Task.enc)),.d (.sl (a0.Leaves.map eB)),.d (.sl (a0.Lasts.map (eI .i64))),.d (.sl (a0.Jobs.map Job.enc)),.d (.sl (a0.Log.map Entry.enc))]),(4,[.d (.int .i64 a1.C),.d (.int .i64 a1.D),.d (.int .i64 a1.T),.d (.sl (a1.Secs.map Sec.enc))]),(5,[.nil,.nil,.nil,.nil,.nil])],[]⟩) h (fun k1 hk1 h=>?_) (fun w1 h=>?_)
  · conv=>whnf
    refine caS (E:=E_Bool) h (part_Right_w a0) rfl (fun _=>rfl) (fun x2 h=>?_)
    conv=>whnf
    refine fkS h (fun h=>?_) (fun h=>?_)
    · conv=>whnf
      exact jeS hk1 h (Weak.refl _)
    conv=>whnf
    refine caS (E:=E_Bool) h (task_Right_w a1) rfl (fun _=>rfl) (fun x3 h=>?_)
    conv=>whnf
    exact jeS hk1 h (Weak.refl _)
  conv=>whnf
  refine fkS h (fun h=>?_) (fun h=>?_)
  · conv=>whnf
    exact rt (E:=E_PartState_Int) h rfl
  conv=>whnf
  refine lenS a0.Tasks Task.enc rfl ?_
  conv=>whnf
  refine fkS h (fun h=>?_) (fun h=>?_)
  · conv=>whnf
    exact rt (E:=E_PartState_Int) h rfl
  conv=>whnf
  refine liS ([]:List Sec) Sec.enc rfl rfl ?_
  conv=>whnf
  refine apS (enc:=Sec.enc) (l1:=([]:List Sec)) (l2:=a1.Secs) h rfl rfl (fun _=>rfl) (fun h=>?_)
  conv=>whnf
  refine⟨6,?_⟩
  conv=>whnf
  refine liS ([]:List Task) Task.enc rfl rfl ?_
  conv=>whnf
  refine apS (enc:=Task.enc) (l1:=([]:List Task)) (l2:=a0.Tasks) h rfl rfl (fun _=>rfl) (fun h=>?_)
  conv=>whnf
  refine liS ([⟨a1.C,a1.D,a1.T,([]:List Sec)++a1.Secs⟩]:List Task) Task.enc rfl rfl ?_
  conv=>whnf
  refine drS (by kernel_rfl) ?_
  conv=>whnf
  refine apS (enc:=Task.enc) (l1:=([]:List Task)++a0.Tasks) (l2:=([⟨a1.C,a1.D,a1.T,([]:List Sec)++a1.Secs⟩]:List Task)) h rfl rfl (fun _=>rfl) (fun h=>?_)
  conv=>whnf
  refine liS ([]:List Bool) eB rfl rfl ?_
  conv=>whnf
  refine apS (enc:=eB) (l1:=([]:List Bool)) (l2:=a0.Leaves) h rfl rfl (fun _=>rfl) (fun h=>?_)
  conv=>whnf
  refine liS ([false]:List Bool) eB rfl rfl ?_
  conv=>whnf
  refine apS (enc:=eB) (l1:=([]:List Bool)++a0.Leaves) (l2:=([false]:List Bool)) h rfl rfl (fun _=>rfl) (fun h=>?_)
  conv=>whnf
  refine liS ([]:List Int) (eI .i64) rfl rfl ?_
  conv=>whnf
  refine apS (enc:=(eI .i64)) (l1:=([]:List Int)) (l2:=a0.Lasts) h rfl rfl (fun _=>rfl) (fun h=>?_)
  conv=>whnf
  refine liS ([(-1:Int)]:List Int) (eI .i64) rfl rfl ?_
  conv=>whnf
  refine apS (enc:=(eI .i64)) (l1:=([]:List Int)++a0.Lasts) (l2:=([(-1:Int)]:List Int)) h rfl rfl (fun _=>rfl) (fun h=>?_)
  conv=>whnf
  exact rt (E:=E_PartState_Int) h rfl

end Go.Proofs.YtldlcdnhdedoeaaGreat
namespace Go.Proofs.YtldlcdnhdedoeaaGreat
open Go Go.VC
noncomputable def part_New (a0:List Task):Option (PartState×Int):=
  bnd (task_All a0) fun x1=>fk (!x1) (some (⟨[],[],[],[],[]⟩,(1:Int))) (lp (fun nx2 (v2:(List Task)×(List Bool)×(List Int)×(List Job)×(List Entry)×Int)=>fk (decide (v2.2.2.2.2.2<(a0.length:Int))) (ix a0 v2.2.2.2.2.2 fun x3=>bnd (part_Add ⟨v2.1,v2.2.1,v2.2.2.1,v2.2.2.2.1,v2.2.2.2.2.1⟩ x3) fun x4=>nx2 (x4.1.Tasks,x4.1.Leaves,x4.1.Lasts,x4.1.Jobs,x4.1.Log,(wr (v2.2.2.2.2.2+(1:Int))))) (some (⟨v2.1,v2.2.1,v2.2.2.1,v2.2.2.2.1,v2.2.2.2.2.1⟩,(0:Int)))) FU ([],[],[],[],[],(0:Int)))
theorem part_New_w (a0:List Task) (r:PartState×Int) (h:part_New a0=some r):Go.VC.Spec Tryz.prog 20 [.d (.sl (a0.map Task.enc))] (fun y=>y=E_PartState_Int r):=by
  refine Go.VC.Spec.of_xc (args:=[.d (.sl (a0.map Task.enc))]) (fn:=Tryz.f20) tab ⟨[(0,[0,2]),(1,[0,2,9]),(2,[2,3]),(3,[0,2,4]),(4,[2,4,12,13,14]),(5,[2,4,12,13,14,15]),(6,[2,4,6,12,13,14]),(7,[2,4,12,13,14]),(8,[2,4,12,13,14]),(9,[2,3])],[],[],[]⟩ 26 [.cell 2 51,.tmp 3] rfl rfl rfl rfl rfl rfl ?_
  conv=>whnf
  refine caS (E:=E_Bool) h (task_All_w a0) rfl (fun _=>rfl) (fun x1 h=>?_)
  conv=>whnf
  refine fkS h (fun h=>?_) (fun h=>?_)
  · conv=>whnf
    exact rt (E:=E_PartState_Int) h rfl
  conv=>whnf
  refine lenS a0 Task.enc rfl ?_
  conv=>whnf
  refine lpX (fun v2=>⟨[(2,.l (.ptr 3 0)),(4,.l (.ptr 5 0)),(12,.l (.d (.sl (a0.map Task.enc)))),(13,.l (.d (.int .i64 (a0.length:Int)))),(14,.l (.d (.int .i64 v2.2.2.2.2.2)))],26,[],[(3,[.nil,.nil,.nil,.nil,.nil]),(5,[.d (.sl (v2.1.map Task.enc)),.d (.sl (v2.2.1.map eB)),.d (.sl (v2.2.2.1.map (eI .i64))),.d (.sl (v2.2.2.2.1.map Job.enc)),.d (.sl (v2.2.2.2.2.1.map Entry.enc))])],[]⟩) h ?_ (fun _ nx2 hn2 v2 h=>?_)
  · conv=>whnf
    refine WkF.step (Weak.nilBD _ 5 0 _ rfl rfl) ?_
    conv=>whnf
    refine WkF.step (Weak.nilBD _ 5 1 _ rfl rfl) ?_
    conv=>whnf
    refine WkF.step (Weak.nilBD _ 5 2 _ rfl rfl) ?_
    conv=>whnf
    refine WkF.step (Weak.nilBD _ 5 3 _ rfl rfl) ?_
    conv=>whnf
    refine WkF.step (Weak.nilBD _ 5 4 _ rfl rfl) ?_
    conv=>whnf
    exact WkF.refl _
  conv=>whnf
  refine fkS h (fun h=>?_) (fun h=>?_)
  · conv=>whnf
    refine ixS (enc:=Task.enc) h rfl (fun _=>rfl) (fun x3 h=>?_)
    conv=>whnf
    refine ccS (E:=E_PartState_Int) h (part_Add_w ⟨v2.1,v2.2.1,v2.2.2.1,v2.2.2.2.1,v2.2.2.2.2.1⟩ x3) rfl rfl (fun x4 h=>?_)
    conv=>whnf
    exact leS hn2 h (Weak.refl _)
  conv=>whnf
  exact rt (E:=E_PartState_Int) h rfl

end Go.Proofs.YtldlcdnhdedoeaaGreat
namespace Go.Proofs.YtldlcdnhdedoeaaGreat
open Go Go.VC
noncomputable def admit_Boot (a0:Part):Option (PartState×Int):=
  jn (fun (w1:Int)=>fk (!decide (w1=(0:Int))) (some (⟨[],[],[],[],[]⟩,w1)) (bnd (part_New a0.Tasks) fun x10=>some (x10.1,x10.2))) (fun k1=>bnd (supply_Right a0.Face) fun x2=>fk x2 (bnd (task_All a0.Tasks) fun x3=>bnd (admit_unless x3 (1:Int)) fun x4=>bnd (admit_fit a0.Tasks a0.Face) fun x5=>bnd (admit_first x4.1 x4.2 x5.1 x5.2.1 x5.2.2) fun x6=>k1 x6) (bnd (admit_unless false (1:Int)) fun x7=>bnd (admit_fit a0.Tasks a0.Face) fun x8=>bnd (admit_first x7.1 x7.2 x8.1 x8.2.1 x8.2.2) fun x9=>k1 x9))
theorem admit_Boot_w (a0:Part) (r:PartState×Int) (h:admit_Boot a0=some r):Go.VC.Spec Tryz.prog 56 [.agg (Part.enc a0)] (fun y=>y=E_PartState_Int r):=by
  refine Go.VC.Spec.of_xc (args:=[.agg (Part.enc a0)]) (fn:=Tryz.f56) tab ⟨[(0,[1,2]),(1,[1,2,4]),(2,[1,2,4,22]),(3,[2,3]),(4,[2,3])],[],[2],[]⟩ 30 [.cell 2 51,.tmp 3] rfl rfl rfl rfl rfl rfl ?_
  conv=>whnf
  refine jnS (fun w1=>⟨[(1,.l (.ptr 2 0)),(2,.l (.ptr 3 0)),(4,.l (.d (.int .i64 w1)))],30,[],[(2,[.d (.int .i64 a0.Face.P),.d (.int .i64 a0.Face.B),.d (.sl (a0.Tasks.map Task.enc))]),(3,[.nil,.nil,.nil,.nil,.nil])],[]⟩) h (fun k1 hk1 h=>?_) (fun w1 h=>?_)
  · conv=>whnf
    refine⟨13,?_⟩
    conv=>whnf
    refine daS (E:=E_Bool) h (supply_Right_w a0.Face) (fun _=>rfl) (fun x2 h=>?_)
    conv=>whnf
    refine fkS h (fun h=>?_) (fun h=>?_)
    · conv=>whnf
      refine daS (E:=E_Bool) h (task_All_w a0.Tasks) (fun _=>rfl) (fun x3 h=>?_)
      conv=>whnf
      refine dcS (E:=E_fn_admit_unless) h (admit_unless_w x3 (1:Int)) rfl (fun x4 h=>?_)
      conv=>whnf
      refine drS (by kernel_rfl) ?_
      conv=>whnf
      refine ccS (E:=E_fn_admit_fit) h (admit_fit_w a0.Tasks a0.Face) rfl rfl (fun x5 h=>?_)
      conv=>whnf
      refine liR rfl ?_
      conv=>whnf
      refine caS (E:=E_Int) h (admit_first_w x4.1 x4.2 x5.1 x5.2.1 x5.2.2) rfl (fun _=>rfl) (fun x6 h=>?_)
      conv=>whnf
      exact jeS hk1 h (Weak.refl _)
    conv=>whnf
    refine dcS (E:=E_fn_admit_unless) h (admit_unless_w false (1:Int)) rfl (fun x7 h=>?_)
    conv=>whnf
    refine drS (by kernel_rfl) ?_
    conv=>whnf
    refine ccS (E:=E_fn_admit_fit) h (admit_fit_w a0.Tasks a0.Face) rfl rfl (fun x8 h=>?_)
    conv=>whnf
    refine liR rfl ?_
    conv=>whnf
    refine caS (E:=E_Int) h (admit_first_w x7.1 x7.2 x8.1 x8.2.1 x8.2.2) rfl (fun _=>rfl) (fun x9 h=>?_)
    conv=>whnf
    exact jeS hk1 h (Weak.refl _)
  conv=>whnf
  refine fkS h (fun h=>?_) (fun h=>?_)
  · conv=>whnf
    exact rt (E:=E_PartState_Int) h rfl
  conv=>whnf
  refine ccS (E:=E_PartState_Int) h (part_New_w a0.Tasks) rfl rfl (fun x10 h=>?_)
  conv=>whnf
  exact rt (E:=E_PartState_Int) h rfl

end Go.Proofs.YtldlcdnhdedoeaaGreat
namespace Go.Proofs.YtldlcdnhdedoeaaGreat
open Go Go.VC
noncomputable def kernel_Boot (a0:Config):Option (KernelState×Int):=
  bnd (image_Right a0) fun x1=>fk (!x1) (some (⟨⟨(0:Int),[]⟩,[],[],[],(0:Int)⟩,(1:Int))) (lp (fun nx2 (v2:(List Face)×Int)=>fk (decide (v2.2<(a0.Parts.length:Int))) (ix a0.Parts v2.2 fun x3=>ck (decide ((v2.1.length+([x3.Face]:List Face).length)*16≤140737488355328)) (nx2 (v2.1++([x3.Face]:List Face),(wr (v2.2+(1:Int)))))) (bnd (table_Make v2.1) fun x4=>fk (!decide (x4.2=(0:Int))) (some (⟨⟨(0:Int),[]⟩,[],[],[],(0:Int)⟩,x4.2)) (lp (fun nx5 (v5:(List PartState)×Int)=>fk (decide (v5.2<(a0.Parts.length:Int))) (ix a0.Parts v5.2 fun x6=>bnd (admit_Boot x6) fun x7=>fk (!decide (x7.2=(0:Int))) (some (⟨⟨(0:Int),[]⟩,[],[],[],(0:Int)⟩,x7.2)) (ck (decide ((v5.1.length+([x7.1]:List PartState).length)*120≤140737488355328)) (nx5 (v5.1++([x7.1]:List PartState),(wr (v5.2+(1:Int))))))) (bnd (port_Open a0.Ports) fun x8=>some (⟨x4.1,v2.1,v5.1,x8.1,(0:Int)⟩,(0:Int)))) FU ([],(0:Int))))) FU ([],(0:Int)))
theorem kernel_Boot_w (a0:Config) (r:KernelState×Int) (h:kernel_Boot a0=some r):Go.VC.Spec Tryz.prog 14 [.agg (Config.enc a0)] (fun y=>y=E_KernelState_Int r):=by
  refine Go.VC.Spec.of_xc (args:=[.agg (Config.enc a0)]) (fn:=Tryz.f14) tab ⟨[(0,[1,2]),(1,[1,2,14]),(2,[2,3]),(3,[1,2,4]),(4,[1,2,4]),(5,[1,2,4,17,18,19]),(6,[1,2,4,17,18,19,20]),(7,[1,2,4,7,17,18,19]),(8,[1,2,4,17,18,19]),(9,[1,2,4,17,18,19]),(10,[1,2,4,5]),(11,[1,2,4,5,39]),(12,[2,3]),(13,[1,2,4,43,44,45]),(14,[1,2,4,43,44,45,46]),(15,[1,2,4,9,43,44,45]),(16,[1,2,4,10,11,43,44,45]),(17,[1,2,4,10,11,43,44,45,55]),(18,[2,3]),(19,[1,2,4,43,44,45]),(20,[1,2,4,43,44,45]),(21,[2,4]),(22,[2,3])],[],[],[]⟩ 73 [.cell 2 35,.tmp 3] rfl rfl rfl rfl rfl rfl ?_
  conv=>whnf
  refine caS (E:=E_Bool) h (image_Right_w a0) rfl (fun _=>rfl) (fun x1 h=>?_)
  conv=>whnf
  refine fkS h (fun h=>?_) (fun h=>?_)
  · conv=>whnf
    exact rt (E:=E_KernelState_Int) h rfl
  conv=>whnf
  refine lenS a0.Parts Part.enc rfl ?_
  conv=>whnf
  refine lpS (fun v2=>⟨[(1,.l (.ptr 2 0)),(2,.l (.ptr 3 0)),(4,.l (.ptr 5 0)),(17,.l (.d (.sl (a0.Parts.map Part.enc)))),(18,.l (.d (.int .i64 (a0.Parts.length:Int)))),(19,.l (.d (.int .i64 v2.2)))],73,[],[(2,[.d (.sl (a0.Parts.map Part.enc)),.d (.sl (a0.Ports.map Port.enc))]),(3,[.d (.int .i64 (0:Int)),.nil,.nil,.nil,.nil,.d (.int .i64 (0:Int))]),(5,[.d (.int .i64 (0:Int)),.nil,.own 50502,.nil,.nil,.d (.int .i64 (0:Int))])],[(50502,55,2,v2.1.map Face.enc)]⟩) h (Weak.trans (Weak.nilBO _ 5 2 50502 55 2 _ rfl rfl) (Weak.refl _)) (fun _ nx2 hn2 v2 h=>?_)
  conv=>whnf
  refine fkS h (fun h=>?_) (fun h=>?_)
  · conv=>whnf
    refine ixS (enc:=Part.enc) h rfl (fun _=>rfl) (fun x3 h=>?_)
    conv=>whnf
    refine liS ([x3.Face]:List Face) Face.enc rfl rfl ?_
    conv=>whnf
    refine apS (enc:=Face.enc) (l1:=v2.1) (l2:=([x3.Face]:List Face)) h rfl rfl (fun _=>rfl) (fun h=>?_)
    conv=>whnf
    refine leX hn2 h ?_
    conv=>whnf
    refine WkF.step (Weak.rekey _ 29 50502 rfl) ?_
    conv=>whnf
    exact WkF.refl _
  conv=>whnf
  refine iceS 50502 ?_
  conv=>whnf
  refine ccS (E:=E_TableTable_Int) h (table_Make_w v2.1) rfl rfl (fun x4 h=>?_)
  conv=>whnf
  refine fkS h (fun h=>?_) (fun h=>?_)
  · conv=>whnf
    exact rt (E:=E_KernelState_Int) h rfl
  conv=>whnf
  refine lenS a0.Parts Part.enc rfl ?_
  conv=>whnf
  refine lpS (fun v5=>⟨[(1,.l (.ptr 2 0)),(2,.l (.ptr 3 0)),(4,.l (.ptr 5 0)),(43,.l (.d (.sl (a0.Parts.map Part.enc)))),(44,.l (.d (.int .i64 (a0.Parts.length:Int)))),(45,.l (.d (.int .i64 v5.2)))],73,[],[(2,[.d (.sl (a0.Parts.map Part.enc)),.d (.sl (a0.Ports.map Port.enc))]),(3,[.d (.int .i64 (0:Int)),.nil,.nil,.nil,.nil,.d (.int .i64 (0:Int))]),(5,[.d (.int .i64 x4.1.Frame),.d (.sl (x4.1.Windows.map Window.enc)),.d (.sl (v2.1.map Face.enc)),.own 50503,.nil,.d (.int .i64 (0:Int))])],[(50503,51,5,v5.1.map PartState.enc)]⟩) h (Weak.trans (Weak.nilBO _ 5 3 50503 51 5 _ rfl rfl) (Weak.refl _)) (fun _ nx5 hn5 v5 h=>?_)
  conv=>whnf
  refine fkS h (fun h=>?_) (fun h=>?_)
  · conv=>whnf
    refine ixS (enc:=Part.enc) h rfl (fun _=>rfl) (fun x6 h=>?_)
    conv=>whnf
    refine ccS (E:=E_PartState_Int) h (admit_Boot_w x6) rfl rfl (fun x7 h=>?_)
    conv=>whnf
    refine fkS h (fun h=>?_) (fun h=>?_)
    · conv=>whnf
      exact rt (E:=E_KernelState_Int) h rfl
    conv=>whnf
    refine liS ([x7.1]:List PartState) PartState.enc rfl rfl ?_
    conv=>whnf
    refine apS (enc:=PartState.enc) (l1:=v5.1) (l2:=([x7.1]:List PartState)) h rfl rfl (fun _=>rfl) (fun h=>?_)
    conv=>whnf
    refine leX hn5 h ?_
    conv=>whnf
    refine WkF.step (Weak.rekey _ 63 50503 rfl) ?_
    conv=>whnf
    exact WkF.refl _
  conv=>whnf
  refine ccS (E:=E_ListPortLine_Int) h (port_Open_w a0.Ports) rfl rfl (fun x8 h=>?_)
  conv=>whnf
  exact rt (E:=E_KernelState_Int) h rfl

end Go.Proofs.YtldlcdnhdedoeaaGreat
namespace Go.Proofs.YtldlcdnhdedoeaaGreat
open Go Go.VC
noncomputable def table_may (a0:Window) (a1:Int):Option Bool:=
  fk (decide (a0.Part≥(0:Int))) (fk (decide (a0.Part<(4:Int))) (fk (decide (a0.From≥(0:Int))) (fk (decide (a0.From<a1)) (fk (decide (a0.Len≥(1:Int))) (some (decide (a0.Len≤(wr (a1-a0.From))))) (some false)) (some false)) (some false)) (some false)) (some false)
theorem table_may_w (a0:Window) (a1:Int) (r:Bool) (h:table_may a0 a1=some r):Go.VC.Spec Tryz.prog 122 [.agg (Window.enc a0),.d (.int .i64 a1)] (fun y=>y=E_Bool r):=by
  refine Go.VC.Spec.of_xc (args:=[.agg (Window.enc a0),.d (.int .i64 a1)]) (fn:=Tryz.f122) tab ⟨[(0,[1,2]),(1,[4])],[],[],[]⟩ 38 [.tmp 4] rfl rfl rfl rfl rfl rfl ?_
  conv=>whnf
  refine fkS h (fun h=>?_) (fun h=>?_)
  · conv=>whnf
    refine fkS h (fun h=>?_) (fun h=>?_)
    · conv=>whnf
      refine fkS h (fun h=>?_) (fun h=>?_)
      · conv=>whnf
        refine fkS h (fun h=>?_) (fun h=>?_)
        · conv=>whnf
          refine fkS h (fun h=>?_) (fun h=>?_)
          · conv=>whnf
            exact rt (E:=E_Bool) h rfl
          conv=>whnf
          exact rt (E:=E_Bool) h rfl
        conv=>whnf
        exact rt (E:=E_Bool) h rfl
      conv=>whnf
      exact rt (E:=E_Bool) h rfl
    conv=>whnf
    exact rt (E:=E_Bool) h rfl
  conv=>whnf
  exact rt (E:=E_Bool) h rfl

end Go.Proofs.YtldlcdnhdedoeaaGreat
namespace Go.Proofs.YtldlcdnhdedoeaaGreat
open Go Go.VC
noncomputable def table_Right (a0:TableTable):Option Bool:=
  lp (fun nx1 (v1:Int×Int×Int)=>fk (decide (v1.2.2<(a0.Windows.length:Int))) (ix a0.Windows v1.2.2 fun x2=>jn (fun (w3:Bool)=>fk w3 (some false) (nx1 ((wr (x2.From+x2.Len)),x2.Part,(wr (v1.2.2+(1:Int)))))) (fun k3=>bnd (table_may x2 a0.Frame) fun x4=>fk (!x4) (k3 true) (fk (decide (x2.From<v1.1)) (k3 true) (fk (decide (x2.From=v1.1)) (k3 (decide (x2.Part=v1.2.1))) (k3 false))))) (fk (decide (a0.Frame≥(1:Int))) (some (decide (a0.Frame≤(240:Int)))) (some false))) FU ((0:Int),(-1:Int),(0:Int))
theorem table_Right_w (a0:TableTable) (r:Bool) (h:table_Right a0=some r):Go.VC.Spec Tryz.prog 62 [.agg (TableTable.enc a0)] (fun y=>y=E_Bool r):=by
  refine Go.VC.Spec.of_xc (args:=[.agg (TableTable.enc a0)]) (fn:=Tryz.f62) tab ⟨[(0,[1]),(1,[1,3,4]),(2,[1,3,4,8,9,10]),(3,[1,3,4,8,9,10,11]),(4,[1,3,4,6,8,9,10]),(5,[1,6,8,9,10,36]),(6,[2]),(7,[1,3,4,8,9,10]),(8,[1,3,4,8,9,10]),(9,[2])],[],[100036],[]⟩ 53 [.tmp 2] rfl rfl rfl rfl rfl rfl ?_
  conv=>whnf
  refine lenS a0.Windows Window.enc rfl ?_
  conv=>whnf
  refine lpS (fun v1=>⟨[(1,.l (.ptr 2 0)),(3,.l (.d (.int .i64 v1.1))),(4,.l (.d (.int .i64 v1.2.1))),(8,.l (.d (.sl (a0.Windows.map Window.enc)))),(9,.l (.d (.int .i64 (a0.Windows.length:Int)))),(10,.l (.d (.int .i64 v1.2.2)))],53,[],[(2,[.d (.int .i64 a0.Frame),.d (.sl (a0.Windows.map Window.enc))])],[]⟩) h (Weak.refl _) (fun _ nx1 hn1 v1 h=>?_)
  conv=>whnf
  refine fkS h (fun h=>?_) (fun h=>?_)
  · conv=>whnf
    refine ixS (enc:=Window.enc) h rfl (fun _=>rfl) (fun x2 h=>?_)
    conv=>whnf
    refine jnS (fun w3=>⟨[(1,.l (.ptr 2 0)),(6,.l (.ptr 7 0)),(8,.l (.d (.sl (a0.Windows.map Window.enc)))),(9,.l (.d (.int .i64 (a0.Windows.length:Int)))),(10,.l (.d (.int .i64 v1.2.2))),(36,.l (.d (.bool w3)))],53,[],[(2,[.d (.int .i64 a0.Frame),.d (.sl (a0.Windows.map Window.enc))]),(7,[.d (.int .i64 x2.Part),.d (.int .i64 x2.From),.d (.int .i64 x2.Len)])],[]⟩) h (fun k3 hk3 h=>?_) (fun w3 h=>?_)
    · conv=>whnf
      refine caS (E:=E_Bool) h (table_may_w x2 a0.Frame) rfl (fun _=>rfl) (fun x4 h=>?_)
      conv=>whnf
      refine fkS h (fun h=>?_) (fun h=>?_)
      · conv=>whnf
        exact jeS hk3 h (Weak.refl _)
      conv=>whnf
      refine fkS h (fun h=>?_) (fun h=>?_)
      · conv=>whnf
        exact jeS hk3 h (Weak.refl _)
      conv=>whnf
      refine fkS h (fun h=>?_) (fun h=>?_)
      · conv=>whnf
        exact jeS hk3 h (Weak.refl _)
      conv=>whnf
      exact jeS hk3 h (Weak.refl _)
    conv=>whnf
    refine fkS h (fun h=>?_) (fun h=>?_)
    · conv=>whnf
      exact rt (E:=E_Bool) h rfl
    conv=>whnf
    refine⟨8,?_⟩
    conv=>whnf
    refine drS (by kernel_rfl) ?_
    conv=>whnf
    exact leS hn1 h (Weak.refl _)
  conv=>whnf
  refine fkS h (fun h=>?_) (fun h=>?_)
  · conv=>whnf
    exact rt (E:=E_Bool) h rfl
  conv=>whnf
  exact rt (E:=E_Bool) h rfl

end Go.Proofs.YtldlcdnhdedoeaaGreat
namespace Go.Proofs.YtldlcdnhdedoeaaGreat
open Go Go.VC
noncomputable def ring_Right (a0:RingRing):Option Bool:=
  fk (decide ((a0.Buf.length:Int)>(0:Int))) (fk (decide (a0.First≥(0:Int))) (fk (decide (a0.First<(a0.Buf.length:Int))) (fk (decide (a0.Many≥(0:Int))) (some (decide (a0.Many≤(a0.Buf.length:Int)))) (some false)) (some false)) (some false)) (some false)
theorem ring_Right_w (a0:RingRing) (r:Bool) (h:ring_Right a0=some r):Go.VC.Spec Tryz.prog 95 [.agg (RingRing.enc a0)] (fun y=>y=E_Bool r):=by
  refine Go.VC.Spec.of_xc (args:=[.agg (RingRing.enc a0)]) (fn:=Tryz.f95) tab ⟨[(0,[1]),(1,[1,3]),(2,[2])],[],[],[]⟩ 31 [.tmp 2] rfl rfl rfl rfl rfl rfl ?_
  conv=>whnf
  refine lenS a0.Buf (eI .i64) rfl ?_
  conv=>whnf
  refine fkS h (fun h=>?_) (fun h=>?_)
  · conv=>whnf
    refine fkS h (fun h=>?_) (fun h=>?_)
    · conv=>whnf
      refine fkS h (fun h=>?_) (fun h=>?_)
      · conv=>whnf
        refine fkS h (fun h=>?_) (fun h=>?_)
        · conv=>whnf
          exact rt (E:=E_Bool) h rfl
        conv=>whnf
        exact rt (E:=E_Bool) h rfl
      conv=>whnf
      exact rt (E:=E_Bool) h rfl
    conv=>whnf
    exact rt (E:=E_Bool) h rfl
  conv=>whnf
  exact rt (E:=E_Bool) h rfl

end Go.Proofs.YtldlcdnhdedoeaaGreat
namespace Go.Proofs.YtldlcdnhdedoeaaGreat
open Go Go.VC
noncomputable def port_Right (a0:List PortLine):Option Bool:=
  lp (fun nx1 (v1:Int)=>fk (decide (v1<(a0.length:Int))) (ix a0 v1 fun x2=>jn (fun (w3:Bool)=>fk w3 (some false) (nx1 (wr (v1+(1:Int))))) (fun k3=>bnd (port_may x2.Port) fun x4=>fk (!x4) (k3 true) (bnd (ring_Right x2.Under) fun x5=>fk (!x5) (k3 true) (bnd (ring_Right x2.Got) fun x6=>fk (!x6) (k3 true) (fk (!decide ((x2.Under.Buf.length:Int)=x2.Port.Cap)) (k3 true) (k3 (!decide ((x2.Got.Buf.length:Int)=x2.Port.Cap)))))))) (some (decide ((a0.length:Int)≤(4:Int))))) FU (0:Int)
theorem port_Right_w (a0:List PortLine) (r:Bool) (h:port_Right a0=some r):Go.VC.Spec Tryz.prog 63 [.d (.sl (a0.map PortLine.enc))] (fun y=>y=E_Bool r):=by
  refine Go.VC.Spec.of_xc (args:=[.d (.sl (a0.map PortLine.enc))]) (fn:=Tryz.f63) tab ⟨[(0,[0]),(1,[0,5,6,7]),(2,[0,5,6,7,8]),(3,[0,4,5,6,7]),(4,[0,5,6,7,46]),(5,[2]),(6,[0,5,6,7]),(7,[2])],[],[100046],[]⟩ 51 [.tmp 2] rfl rfl rfl rfl rfl rfl ?_
  conv=>whnf
  refine lenS a0 PortLine.enc rfl ?_
  conv=>whnf
  refine lpS (fun v1=>⟨[(0,.l (.d (.sl (a0.map PortLine.enc)))),(5,.l (.d (.sl (a0.map PortLine.enc)))),(6,.l (.d (.int .i64 (a0.length:Int)))),(7,.l (.d (.int .i64 v1)))],51,[],[],[]⟩) h (Weak.refl _) (fun _ nx1 hn1 v1 h=>?_)
  conv=>whnf
  refine fkS h (fun h=>?_) (fun h=>?_)
  · conv=>whnf
    refine ixS (enc:=PortLine.enc) h rfl (fun _=>rfl) (fun x2 h=>?_)
    conv=>whnf
    refine jnS (fun w3=>⟨[(0,.l (.d (.sl (a0.map PortLine.enc)))),(5,.l (.d (.sl (a0.map PortLine.enc)))),(6,.l (.d (.int .i64 (a0.length:Int)))),(7,.l (.d (.int .i64 v1))),(46,.l (.d (.bool w3)))],51,[],[],[]⟩) h (fun k3 hk3 h=>?_) (fun w3 h=>?_)
    · conv=>whnf
      refine caS (E:=E_Bool) h (port_may_w x2.Port) rfl (fun _=>rfl) (fun x4 h=>?_)
      conv=>whnf
      refine fkS h (fun h=>?_) (fun h=>?_)
      · conv=>whnf
        exact jeS hk3 h (Weak.refl _)
      conv=>whnf
      refine caS (E:=E_Bool) h (ring_Right_w x2.Under) rfl (fun _=>rfl) (fun x5 h=>?_)
      conv=>whnf
      refine fkS h (fun h=>?_) (fun h=>?_)
      · conv=>whnf
        exact jeS hk3 h (Weak.refl _)
      conv=>whnf
      refine caS (E:=E_Bool) h (ring_Right_w x2.Got) rfl (fun _=>rfl) (fun x6 h=>?_)
      conv=>whnf
      refine fkS h (fun h=>?_) (fun h=>?_)
      · conv=>whnf
        exact jeS hk3 h (Weak.refl _)
      conv=>whnf
      refine lenS x2.Under.Buf (eI .i64) rfl ?_
      conv=>whnf
      refine fkS h (fun h=>?_) (fun h=>?_)
      · conv=>whnf
        exact jeS hk3 h (Weak.refl _)
      conv=>whnf
      refine lenS x2.Got.Buf (eI .i64) rfl ?_
      conv=>whnf
      exact jeS hk3 h (Weak.refl _)
    conv=>whnf
    refine fkS h (fun h=>?_) (fun h=>?_)
    · conv=>whnf
      exact rt (E:=E_Bool) h rfl
    conv=>whnf
    exact leS hn1 h (Weak.refl _)
  conv=>whnf
  refine lenS a0 PortLine.enc rfl ?_
  conv=>whnf
  exact rt (E:=E_Bool) h rfl

end Go.Proofs.YtldlcdnhdedoeaaGreat
namespace Go.Proofs.YtldlcdnhdedoeaaGreat
open Go Go.VC
noncomputable def kernel_Right (a0:KernelState):Option Bool:=
  lp (fun nx1 (v1:Int)=>fk (decide (v1<(a0.Parts.length:Int))) (ix a0.Parts v1 fun x2=>bnd (part_Right x2) fun x3=>fk (!x3) (some false) (nx1 (wr (v1+(1:Int))))) (bnd (table_Right a0.Table) fun x4=>fk x4 (fk (decide ((a0.Faces.length:Int)=(a0.Parts.length:Int))) (fk (decide ((a0.Parts.length:Int)≤(4:Int))) (bnd (port_Right a0.Lines) fun x5=>fk x5 (fk (decide (a0.Now≥(0:Int))) (some (decide (a0.Now≤(4611686018427387703:Int)))) (some false)) (some false)) (some false)) (some false)) (some false))) FU (0:Int)
theorem kernel_Right_w (a0:KernelState) (r:Bool) (h:kernel_Right a0=some r):Go.VC.Spec Tryz.prog 17 [.agg (KernelState.enc a0)] (fun y=>y=E_Bool r):=by
  refine Go.VC.Spec.of_xc (args:=[.agg (KernelState.enc a0)]) (fn:=Tryz.f17) tab ⟨[(0,[1]),(1,[1,6,7,8]),(2,[1,6,7,8,9]),(3,[1,4,6,7,8]),(4,[1,6,7,8,14]),(5,[2]),(6,[1,6,7,8]),(7,[2])],[],[],[]⟩ 49 [.tmp 2] rfl rfl rfl rfl rfl rfl ?_
  conv=>whnf
  refine lenS a0.Parts PartState.enc rfl ?_
  conv=>whnf
  refine lpS (fun v1=>⟨[(1,.l (.ptr 2 0)),(6,.l (.d (.sl (a0.Parts.map PartState.enc)))),(7,.l (.d (.int .i64 (a0.Parts.length:Int)))),(8,.l (.d (.int .i64 v1)))],49,[],[(2,[.d (.int .i64 a0.Table.Frame),.d (.sl (a0.Table.Windows.map Window.enc)),.d (.sl (a0.Faces.map Face.enc)),.d (.sl (a0.Parts.map PartState.enc)),.d (.sl (a0.Lines.map PortLine.enc)),.d (.int .i64 a0.Now)])],[]⟩) h (Weak.refl _) (fun _ nx1 hn1 v1 h=>?_)
  conv=>whnf
  refine fkS h (fun h=>?_) (fun h=>?_)
  · conv=>whnf
    refine ixS (enc:=PartState.enc) h rfl (fun _=>rfl) (fun x2 h=>?_)
    conv=>whnf
    refine caS (E:=E_Bool) h (part_Right_w x2) rfl (fun _=>rfl) (fun x3 h=>?_)
    conv=>whnf
    refine fkS h (fun h=>?_) (fun h=>?_)
    · conv=>whnf
      exact rt (E:=E_Bool) h rfl
    conv=>whnf
    exact leS hn1 h (Weak.refl _)
  conv=>whnf
  refine caS (E:=E_Bool) h (table_Right_w a0.Table) rfl (fun _=>rfl) (fun x4 h=>?_)
  conv=>whnf
  refine fkS h (fun h=>?_) (fun h=>?_)
  · conv=>whnf
    refine lenS a0.Faces Face.enc rfl ?_
    conv=>whnf
    refine lenS a0.Parts PartState.enc rfl ?_
    conv=>whnf
    refine fkS h (fun h=>?_) (fun h=>?_)
    · conv=>whnf
      refine lenS a0.Parts PartState.enc rfl ?_
      conv=>whnf
      refine fkS h (fun h=>?_) (fun h=>?_)
      · conv=>whnf
        refine caS (E:=E_Bool) h (port_Right_w a0.Lines) rfl (fun _=>rfl) (fun x5 h=>?_)
        conv=>whnf
        refine fkS h (fun h=>?_) (fun h=>?_)
        · conv=>whnf
          refine fkS h (fun h=>?_) (fun h=>?_)
          · conv=>whnf
            exact rt (E:=E_Bool) h rfl
          conv=>whnf
          exact rt (E:=E_Bool) h rfl
        conv=>whnf
        exact rt (E:=E_Bool) h rfl
      conv=>whnf
      exact rt (E:=E_Bool) h rfl
    conv=>whnf
    exact rt (E:=E_Bool) h rfl
  conv=>whnf
  exact rt (E:=E_Bool) h rfl

end Go.Proofs.YtldlcdnhdedoeaaGreat
namespace Go.Proofs.YtldlcdnhdedoeaaGreat
open Go Go.VC
def E_fn_kernel_on:Unit→List CV:=fun r=>[.d (.fn 158 [[.fn 126 []]])]
noncomputable def kernel_on  : Option Unit:=
  some ()
theorem kernel_on_w  (r:Unit) (h:kernel_on=some r):Go.VC.Spec Tryz.prog 125 [.d (.fn 126 [])] (fun y=>y=E_fn_kernel_on r):=by
  refine Go.VC.Spec.of_xc (args:=[.d (.fn 126 [])]) (fn:=Tryz.f125) tab ⟨[(0,[1]),(1,[2])],[],[],[]⟩ 4 [.tmp 2] rfl rfl rfl rfl rfl rfl ?_
  conv=>whnf
  exact rt (E:=E_fn_kernel_on) h rfl

end Go.Proofs.YtldlcdnhdedoeaaGreat
namespace Go.Proofs.YtldlcdnhdedoeaaGreat
open Go Go.VC
def E_fn_kernel_on_i1:Unit→List CV:=fun r=>[.d (.fn 158 [[.fn 127 []]])]
noncomputable def kernel_on_i1  : Option Unit:=
  some ()
theorem kernel_on_i1_w  (r:Unit) (h:kernel_on_i1=some r):Go.VC.Spec Tryz.prog 125 [.d (.fn 127 [])] (fun y=>y=E_fn_kernel_on_i1 r):=by
  refine Go.VC.Spec.of_xc (args:=[.d (.fn 127 [])]) (fn:=Tryz.f125) tab ⟨[(0,[1]),(1,[2])],[],[],[]⟩ 4 [.tmp 2] rfl rfl rfl rfl rfl rfl ?_
  conv=>whnf
  exact rt (E:=E_fn_kernel_on_i1) h rfl

end Go.Proofs.YtldlcdnhdedoeaaGreat
namespace Go.Proofs.YtldlcdnhdedoeaaGreat
open Go Go.VC
def E_fn_kernel_on_2:Unit→List CV:=fun r=>[.d (.fn 158 [[.fn 128 []]])]
noncomputable def kernel_on_2  : Option Unit:=
  some ()
theorem kernel_on_2_w  (r:Unit) (h:kernel_on_2=some r):Go.VC.Spec Tryz.prog 125 [.d (.fn 128 [])] (fun y=>y=E_fn_kernel_on_2 r):=by
  refine Go.VC.Spec.of_xc (args:=[.d (.fn 128 [])]) (fn:=Tryz.f125) tab ⟨[(0,[1]),(1,[2])],[],[],[]⟩ 4 [.tmp 2] rfl rfl rfl rfl rfl rfl ?_
  conv=>whnf
  exact rt (E:=E_fn_kernel_on_2) h rfl

end Go.Proofs.YtldlcdnhdedoeaaGreat
namespace Go.Proofs.YtldlcdnhdedoeaaGreat
open Go Go.VC
def E_fn_kernel_on_3:Unit→List CV:=fun r=>[.d (.fn 158 [[.fn 129 []]])]
noncomputable def kernel_on_3  : Option Unit:=
  some ()
theorem kernel_on_3_w  (r:Unit) (h:kernel_on_3=some r):Go.VC.Spec Tryz.prog 125 [.d (.fn 129 [])] (fun y=>y=E_fn_kernel_on_3 r):=by
  refine Go.VC.Spec.of_xc (args:=[.d (.fn 129 [])]) (fn:=Tryz.f125) tab ⟨[(0,[1]),(1,[2])],[],[],[]⟩ 4 [.tmp 2] rfl rfl rfl rfl rfl rfl ?_
  conv=>whnf
  exact rt (E:=E_fn_kernel_on_3) h rfl

end Go.Proofs.YtldlcdnhdedoeaaGreat
namespace Go.Proofs.YtldlcdnhdedoeaaGreat
open Go Go.VC
def E_fn_kernel_kinds:Unit→List CV:=fun r=>[.d (.mp [[.int .i64 (1:Int),.fn 158 [[.fn 126 []]]],[.int .i64 (4:Int),.fn 158 [[.fn 127 []]]],[.int .i64 (5:Int),.fn 158 [[.fn 128 []]]],[.int .i64 (6:Int),.fn 158 [[.fn 129 []]]],[.int .i64 (2:Int),.fn 130 []],[.int .i64 (3:Int),.fn 131 []]])]
noncomputable def kernel_kinds:Option Unit:=some ()
theorem kernel_kinds_w (r:Unit) (h:kernel_kinds=some r):Go.VC.Spec Tryz.prog 73 [] (fun y=>y=E_fn_kernel_kinds r):=by
  refine Spec.of_wpF (args:=[]) (fn:=Tryz.f73) rfl rfl rfl rfl ?_
  refine WpF.seq tab ⟨[(0,[]),(1,[0])],[],[],[]⟩ (rs:=[.tmp 0]) rfl ?_
  conv=>whnf
  refine WpF.reg (AWp.map rfl rfl rfl rfl rfl ?_)
  conv=>whnf
  refine mp_call (r:=.fn 158 [[.fn 126 []]]) rfl rfl rfl rfl rfl (kernel_on_w _ rfl) ?_
  conv=>whnf
  refine mp_ins rfl rfl rfl rfl Tryz.underlying150 Tryz.underlying3 rfl ?_
  conv=>whnf
  refine mp_call (r:=.fn 158 [[.fn 127 []]]) rfl rfl rfl rfl rfl (kernel_on_i1_w _ rfl) ?_
  conv=>whnf
  refine mp_ins rfl rfl rfl rfl Tryz.underlying150 Tryz.underlying3 rfl ?_
  conv=>whnf
  refine mp_call (r:=.fn 158 [[.fn 128 []]]) rfl rfl rfl rfl rfl (kernel_on_2_w _ rfl) ?_
  conv=>whnf
  refine mp_ins rfl rfl rfl rfl Tryz.underlying150 Tryz.underlying3 rfl ?_
  conv=>whnf
  refine mp_call (r:=.fn 158 [[.fn 129 []]]) rfl rfl rfl rfl rfl (kernel_on_3_w _ rfl) ?_
  conv=>whnf
  refine mp_ins rfl rfl rfl rfl Tryz.underlying150 Tryz.underlying3 rfl ?_
  conv=>whnf
  refine mp_ins rfl rfl rfl rfl Tryz.underlying150 Tryz.underlying3 rfl ?_
  conv=>whnf
  refine mp_ins rfl rfl rfl rfl Tryz.underlying150 Tryz.underlying3 rfl ?_
  conv=>whnf
  refine mp_end tab rfl ?_
  conv=>whnf
  exact WpF.ret tab (rs:=[.tmp 0]) rfl (RetOk.mk ⟨_,rfl,rfl⟩)

end Go.Proofs.YtldlcdnhdedoeaaGreat
namespace Go.Proofs.YtldlcdnhdedoeaaGreat
open Go Go.VC
noncomputable def part_when (a0:Int):Option Bool:=
  fk (decide (a0≥(0:Int))) (some (decide (a0≤(4611686018427387703:Int)))) (some false)
theorem part_when_w (a0:Int) (r:Bool) (h:part_when a0=some r):Go.VC.Spec Tryz.prog 74 [.d (.int .i64 a0)] (fun y=>y=E_Bool r):=by
  refine Go.VC.Spec.of_xc (args:=[.d (.int .i64 a0)]) (fn:=Tryz.f74) tab ⟨[(0,[0]),(1,[2])],[],[],[]⟩ 9 [.tmp 2] rfl rfl rfl rfl rfl rfl ?_
  conv=>whnf
  refine fkS h (fun h=>?_) (fun h=>?_)
  · conv=>whnf
    exact rt (E:=E_Bool) h rfl
  conv=>whnf
  exact rt (E:=E_Bool) h rfl

end Go.Proofs.YtldlcdnhdedoeaaGreat
namespace Go.Proofs.YtldlcdnhdedoeaaGreat
open Go Go.VC
noncomputable def police_May (a0:List Task) (a1:List Int) (a2:Int) (a3:Int):Option Int:=
  jn (fun (w1:Bool)=>fk w1 (some (1:Int)) (jn (fun (w3:Bool)=>fk w3 (some (6:Int)) (some (0:Int))) (fun k3=>ix a1 a2 fun x4=>fk (!decide (x4=(-1:Int))) (ix a1 a2 fun x5=>ix a0 a2 fun x6=>k3 (decide (a3<(wr (x5+x6.T))))) (k3 false)))) (fun k1=>bnd (police_Right a0 a1) fun x2=>fk (!x2) (k1 true) (fk (decide (a2<(0:Int))) (k1 true) (fk (decide (a2≥(a0.length:Int))) (k1 true) (fk (decide (a3<(0:Int))) (k1 true) (k1 (decide (a3>(4611686018427387703:Int))))))))
theorem police_May_w (a0:List Task) (a1:List Int) (a2:Int) (a3:Int) (r:Int) (h:police_May a0 a1 a2 a3=some r):Go.VC.Spec Tryz.prog 132 [.d (.sl (a0.map Task.enc)),.d (.sl (a1.map (eI .i64))),.d (.int .i64 a2),.d (.int .i64 a3)] (fun y=>y=E_Int r):=by
  refine Go.VC.Spec.of_xc (args:=[.d (.sl (a0.map Task.enc)),.d (.sl (a1.map (eI .i64))),.d (.int .i64 a2),.d (.int .i64 a3)]) (fn:=Tryz.f132) tab ⟨[(0,[0,1,2,3]),(1,[0,1,2,3,9]),(2,[8]),(3,[32]),(4,[8]),(5,[8])],[],[100032,100009],[]⟩ 52 [.tmp 8] rfl rfl rfl rfl rfl rfl ?_
  conv=>whnf
  refine jnS (fun w1=>⟨[(0,.l (.d (.sl (a0.map Task.enc)))),(1,.l (.d (.sl (a1.map (eI .i64))))),(2,.l (.d (.int .i64 a2))),(3,.l (.d (.int .i64 a3))),(9,.l (.d (.bool w1)))],52,[],[],[]⟩) h (fun k1 hk1 h=>?_) (fun w1 h=>?_)
  · conv=>whnf
    refine caS (E:=E_Bool) h (police_Right_w a0 a1) rfl (fun _=>rfl) (fun x2 h=>?_)
    conv=>whnf
    refine fkS h (fun h=>?_) (fun h=>?_)
    · conv=>whnf
      exact jeS hk1 h (Weak.refl _)
    conv=>whnf
    refine fkS h (fun h=>?_) (fun h=>?_)
    · conv=>whnf
      exact jeS hk1 h (Weak.refl _)
    conv=>whnf
    refine lenS a0 Task.enc rfl ?_
    conv=>whnf
    refine fkS h (fun h=>?_) (fun h=>?_)
    · conv=>whnf
      exact jeS hk1 h (Weak.refl _)
    conv=>whnf
    refine fkS h (fun h=>?_) (fun h=>?_)
    · conv=>whnf
      exact jeS hk1 h (Weak.refl _)
    conv=>whnf
    exact jeS hk1 h (Weak.refl _)
  conv=>whnf
  refine fkS h (fun h=>?_) (fun h=>?_)
  · conv=>whnf
    exact rt (E:=E_Int) h rfl
  conv=>whnf
  refine jnS (fun w3=>⟨[(32,.l (.d (.bool w3)))],52,[],[],[]⟩) h (fun k3 hk3 h=>?_) (fun w3 h=>?_)
  · conv=>whnf
    refine⟨19,?_⟩
    conv=>whnf
    refine ixS (enc:=(eI .i64)) h rfl (fun _=>rfl) (fun x4 h=>?_)
    conv=>whnf
    refine fkS h (fun h=>?_) (fun h=>?_)
    · conv=>whnf
      refine ixS (enc:=(eI .i64)) h rfl (fun _=>rfl) (fun x5 h=>?_)
      conv=>whnf
      refine ixS (enc:=Task.enc) h rfl (fun _=>rfl) (fun x6 h=>?_)
      conv=>whnf
      refine drS (by kernel_rfl) ?_
      conv=>whnf
      exact jeS hk3 h (Weak.refl _)
    conv=>whnf
    refine drS (by kernel_rfl) ?_
    conv=>whnf
    exact jeS hk3 h (Weak.refl _)
  conv=>whnf
  refine fkS h (fun h=>?_) (fun h=>?_)
  · conv=>whnf
    exact rt (E:=E_Int) h rfl
  conv=>whnf
  exact rt (E:=E_Int) h rfl

end Go.Proofs.YtldlcdnhdedoeaaGreat
namespace Go.Proofs.YtldlcdnhdedoeaaGreat
open Go Go.VC
noncomputable def police_Note (a0:List Task) (a1:List Int) (a2:Int) (a3:Int):Option ((List Int)×Int):=
  bnd (police_May a0 a1 a2 a3) fun x1=>fk (!decide (x1=(0:Int))) (some (a1,x1)) (ck (decide ((([]:List Int).length+a1.length)*8≤140737488355328)) (ck (decide (0≤a2) && decide (a2<((([]:List Int)++a1).length:Int))) (ox (([]:List Int)++a1) a2.toNat fun x2=>some ((([]:List Int)++a1).set a2.toNat a3,(0:Int)))))
theorem police_Note_w (a0:List Task) (a1:List Int) (a2:Int) (a3:Int) (r:(List Int)×Int) (h:police_Note a0 a1 a2 a3=some r):Go.VC.Spec Tryz.prog 76 [.d (.sl (a0.map Task.enc)),.d (.sl (a1.map (eI .i64))),.d (.int .i64 a2),.d (.int .i64 a3)] (fun y=>y=E_ListInt_Int r):=by
  refine Go.VC.Spec.of_xc (args:=[.d (.sl (a0.map Task.enc)),.d (.sl (a1.map (eI .i64))),.d (.int .i64 a2),.d (.int .i64 a3)]) (fn:=Tryz.f76) tab ⟨[(0,[0,1,2,3]),(1,[1,2,3,10]),(2,[1,2,3,10,18]),(3,[8,9]),(4,[2,3,11]),(5,[11]),(6,[8,9])],[],[],[]⟩ 29 [.tmp 8,.tmp 9] rfl rfl rfl rfl rfl rfl ?_
  conv=>whnf
  refine caS (E:=E_Int) h (police_May_w a0 a1 a2 a3) rfl (fun _=>rfl) (fun x1 h=>?_)
  conv=>whnf
  refine fkS h (fun h=>?_) (fun h=>?_)
  · conv=>whnf
    exact rt (E:=E_ListInt_Int) h rfl
  conv=>whnf
  refine liS ([]:List Int) (eI .i64) rfl rfl ?_
  conv=>whnf
  refine apS (enc:=(eI .i64)) (l1:=([]:List Int)) (l2:=a1) h rfl rfl (fun _=>rfl) (fun h=>?_)
  conv=>whnf
  refine ioS (enc:=(eI .i64)) h rfl (fun h=>?_)
  conv=>whnf
  refine seS (enc:=(eI .i64)) h rfl (fun x2=>a3) (fun _=>rfl) (fun x2 h=>?_)
  conv=>whnf
  exact rt (E:=E_ListInt_Int) h rfl

end Go.Proofs.YtldlcdnhdedoeaaGreat
namespace Go.Proofs.YtldlcdnhdedoeaaGreat
open Go Go.VC
noncomputable def part_Release (a0:PartState) (a1:Int) (a2:Int) (a3:Int):Option (PartState×Int):=
  jn (fun (w1:Bool)=>fk w1 (some (a0,(1:Int))) (ix a0.Leaves a1 fun x4=>fk x4 (some (a0,(9:Int))) (ck (decide ((([]:List Entry).length+a0.Log.length)*24≤140737488355328)) (bnd (police_Note a0.Tasks a0.Lasts a1 a3) fun x5=>fk (!decide (x5.2=(0:Int))) (fk (decide (((([]:List Entry)++a0.Log).length:Int)<(2000:Int))) (ck (decide (((([]:List Entry)++a0.Log).length+([⟨a3,(2:Int),a1⟩]:List Entry).length)*24≤140737488355328)) (some (⟨a0.Tasks,a0.Leaves,a0.Lasts,a0.Jobs,(([]:List Entry)++a0.Log)++([⟨a3,(2:Int),a1⟩]:List Entry)⟩,x5.2))) (some (⟨a0.Tasks,a0.Leaves,a0.Lasts,a0.Jobs,([]:List Entry)++a0.Log⟩,x5.2))) (fk (decide ((a0.Jobs.length:Int)≥(32:Int))) (fk (decide (((([]:List Entry)++a0.Log).length:Int)<(2000:Int))) (ck (decide (((([]:List Entry)++a0.Log).length+([⟨a3,(3:Int),a1⟩]:List Entry).length)*24≤140737488355328)) (some (⟨a0.Tasks,a0.Leaves,a0.Lasts,a0.Jobs,(([]:List Entry)++a0.Log)++([⟨a3,(3:Int),a1⟩]:List Entry)⟩,(3:Int)))) (some (⟨a0.Tasks,a0.Leaves,a0.Lasts,a0.Jobs,([]:List Entry)++a0.Log⟩,(3:Int)))) (ck (decide ((([]:List Job).length+a0.Jobs.length)*48≤140737488355328)) (ix a0.Tasks a1 fun x6=>ck (decide (((([]:List Job)++a0.Jobs).length+([⟨a1,a3,(wr (a3+x6.D)),a2,(0:Int),false⟩]:List Job).length)*48≤140737488355328)) (fk (decide (((([]:List Entry)++a0.Log).length:Int)<(2000:Int))) (ck (decide (((([]:List Entry)++a0.Log).length+([⟨a3,(1:Int),a1⟩]:List Entry).length)*24≤140737488355328)) (some (⟨a0.Tasks,a0.Leaves,x5.1,(([]:List Job)++a0.Jobs)++([⟨a1,a3,(wr (a3+x6.D)),a2,(0:Int),false⟩]:List Job),(([]:List Entry)++a0.Log)++([⟨a3,(1:Int),a1⟩]:List Entry)⟩,(0:Int)))) (some (⟨a0.Tasks,a0.Leaves,x5.1,(([]:List Job)++a0.Jobs)++([⟨a1,a3,(wr (a3+x6.D)),a2,(0:Int),false⟩]:List Job),([]:List Entry)++a0.Log⟩,(0:Int))))))))))) (fun k1=>bnd (part_Right a0) fun x2=>fk (!x2) (k1 true) (fk (decide (a1<(0:Int))) (k1 true) (fk (decide (a1≥(a0.Tasks.length:Int))) (k1 true) (fk (decide (a2<(1:Int))) (k1 true) (fk (decide (a2>(200:Int))) (k1 true) (bnd (part_when a3) fun x3=>k1 (!x3)))))))
theorem part_Release_w (a0:PartState) (a1:Int) (a2:Int) (a3:Int) (r:PartState×Int) (h:part_Release a0 a1 a2 a3=some r):Go.VC.Spec Tryz.prog 28 [.agg (PartState.enc a0),.d (.int .i64 a1),.d (.int .i64 a2),.d (.int .i64 a3)] (fun y=>y=E_PartState_Int r):=by
  refine Go.VC.Spec.of_xc (args:=[.agg (PartState.enc a0),.d (.int .i64 a1),.d (.int .i64 a2),.d (.int .i64 a3)]) (fn:=Tryz.f28) tab ⟨[(0,[1,2,3,4,8]),(1,[1,2,3,4,8,13]),(2,[8,9]),(3,[1,2,3,4,8,42]),(4,[8,9]),(5,[1,2,3,4,8,10]),(6,[1,2,3,4,8,10,11,12]),(7,[1,2,3,4,8,10,11,12,62]),(8,[8,10,12]),(9,[8,9]),(10,[1,2,3,4,8,10,11,73]),(11,[8,10]),(12,[8,9]),(13,[1,2,3,4,8,10]),(14,[1,8,10]),(15,[8,10]),(16,[8,9])],[],[100013],[]⟩ 119 [.cell 8 51,.tmp 9] rfl rfl rfl rfl rfl rfl ?_
  conv=>whnf
  refine jnS (fun w1=>⟨[(1,.l (.d (.int .i64 a1))),(2,.l (.d (.int .i64 a2))),(3,.l (.d (.int .i64 a3))),(4,.l (.ptr 5 0)),(8,.l (.ptr 9 0)),(13,.l (.d (.bool w1)))],119,[],[(5,[.d (.sl (a0.Tasks.map Task.enc)),.d (.sl (a0.Leaves.map eB)),.d (.sl (a0.Lasts.map (eI .i64))),.d (.sl (a0.Jobs.map Job.enc)),.d (.sl (a0.Log.map Entry.enc))]),(9,[.nil,.nil,.nil,.nil,.nil])],[]⟩) h (fun k1 hk1 h=>?_) (fun w1 h=>?_)
  · conv=>whnf
    refine caS (E:=E_Bool) h (part_Right_w a0) rfl (fun _=>rfl) (fun x2 h=>?_)
    conv=>whnf
    refine fkS h (fun h=>?_) (fun h=>?_)
    · conv=>whnf
      exact jeS hk1 h (Weak.refl _)
    conv=>whnf
    refine fkS h (fun h=>?_) (fun h=>?_)
    · conv=>whnf
      exact jeS hk1 h (Weak.refl _)
    conv=>whnf
    refine lenS a0.Tasks Task.enc rfl ?_
    conv=>whnf
    refine fkS h (fun h=>?_) (fun h=>?_)
    · conv=>whnf
      exact jeS hk1 h (Weak.refl _)
    conv=>whnf
    refine fkS h (fun h=>?_) (fun h=>?_)
    · conv=>whnf
      exact jeS hk1 h (Weak.refl _)
    conv=>whnf
    refine fkS h (fun h=>?_) (fun h=>?_)
    · conv=>whnf
      exact jeS hk1 h (Weak.refl _)
    conv=>whnf
    refine caS (E:=E_Bool) h (part_when_w a3) rfl (fun _=>rfl) (fun x3 h=>?_)
    conv=>whnf
    exact jeS hk1 h (Weak.refl _)
  conv=>whnf
  refine fkS h (fun h=>?_) (fun h=>?_)
  · conv=>whnf
    exact rt (E:=E_PartState_Int) h rfl
  conv=>whnf
  refine ixS (enc:=eB) h rfl (fun _=>rfl) (fun x4 h=>?_)
  conv=>whnf
  refine fkS h (fun h=>?_) (fun h=>?_)
  · conv=>whnf
    exact rt (E:=E_PartState_Int) h rfl
  conv=>whnf
  refine inS (fn:=Tryz.f75) tab ⟨[(0,[1,2]),(1,[4])],[],[],[]⟩ 14 [.tmp 4] rfl rfl rfl rfl rfl rfl ?_
  conv=>whnf
  refine⟨7,?_⟩
  conv=>whnf
  refine liS ([]:List Entry) Entry.enc rfl rfl ?_
  conv=>whnf
  refine apS (enc:=Entry.enc) (l1:=([]:List Entry)) (l2:=a0.Log) h rfl rfl (fun _=>rfl) (fun h=>?_)
  conv=>whnf
  refine drS (by kernel_rfl) ?_
  conv=>whnf
  refine ccS (E:=E_ListInt_Int) h (police_Note_w a0.Tasks a0.Lasts a1 a3) rfl rfl (fun x5 h=>?_)
  conv=>whnf
  refine fkS h (fun h=>?_) (fun h=>?_)
  · conv=>whnf
    refine inS (fn:=Tryz.f77) tab ⟨[(0,[0,1,2,11]),(1,[])],[],[],[]⟩ 28 [] rfl rfl rfl rfl rfl rfl ?_
    conv=>whnf
    refine lenS (([]:List Entry)++a0.Log) Entry.enc rfl ?_
    conv=>whnf
    refine fkS h (fun h=>?_) (fun h=>?_)
    · conv=>whnf
      refine⟨14,?_⟩
      conv=>whnf
      refine liS ([⟨a3,(2:Int),a1⟩]:List Entry) Entry.enc rfl rfl ?_
      conv=>whnf
      refine apS (enc:=Entry.enc) (l1:=([]:List Entry)++a0.Log) (l2:=([⟨a3,(2:Int),a1⟩]:List Entry)) h rfl rfl (fun _=>rfl) (fun h=>?_)
      conv=>whnf
      refine drS (by kernel_rfl) ?_
      conv=>whnf
      refine inS (fn:=Tryz.f78) tab ⟨[(0,[0,2]),(1,[0,2]),(2,[2])],[],[],[]⟩ 16 [.cell 2 51] rfl rfl rfl rfl rfl rfl ?_
      conv=>whnf
      exact rt (E:=E_PartState_Int) h rfl
    conv=>whnf
    refine inS (fn:=Tryz.f78) tab ⟨[(0,[0,2]),(1,[0,2]),(2,[2])],[],[],[]⟩ 16 [.cell 2 51] rfl rfl rfl rfl rfl rfl ?_
    conv=>whnf
    exact rt (E:=E_PartState_Int) h rfl
  conv=>whnf
  refine lenS a0.Jobs Job.enc rfl ?_
  conv=>whnf
  refine fkS h (fun h=>?_) (fun h=>?_)
  · conv=>whnf
    refine inS (fn:=Tryz.f77) tab ⟨[(0,[0,1,2,11]),(1,[])],[],[],[]⟩ 28 [] rfl rfl rfl rfl rfl rfl ?_
    conv=>whnf
    refine lenS (([]:List Entry)++a0.Log) Entry.enc rfl ?_
    conv=>whnf
    refine fkS h (fun h=>?_) (fun h=>?_)
    · conv=>whnf
      refine⟨14,?_⟩
      conv=>whnf
      refine liS ([⟨a3,(3:Int),a1⟩]:List Entry) Entry.enc rfl rfl ?_
      conv=>whnf
      refine apS (enc:=Entry.enc) (l1:=([]:List Entry)++a0.Log) (l2:=([⟨a3,(3:Int),a1⟩]:List Entry)) h rfl rfl (fun _=>rfl) (fun h=>?_)
      conv=>whnf
      refine drS (by kernel_rfl) ?_
      conv=>whnf
      refine inS (fn:=Tryz.f78) tab ⟨[(0,[0,2]),(1,[0,2]),(2,[2])],[],[],[]⟩ 16 [.cell 2 51] rfl rfl rfl rfl rfl rfl ?_
      conv=>whnf
      exact rt (E:=E_PartState_Int) h rfl
    conv=>whnf
    refine inS (fn:=Tryz.f78) tab ⟨[(0,[0,2]),(1,[0,2]),(2,[2])],[],[],[]⟩ 16 [.cell 2 51] rfl rfl rfl rfl rfl rfl ?_
    conv=>whnf
    exact rt (E:=E_PartState_Int) h rfl
  conv=>whnf
  refine⟨19,?_⟩
  conv=>whnf
  refine liS ([]:List Job) Job.enc rfl rfl ?_
  conv=>whnf
  refine apS (enc:=Job.enc) (l1:=([]:List Job)) (l2:=a0.Jobs) h rfl rfl (fun _=>rfl) (fun h=>?_)
  conv=>whnf
  refine ixS (enc:=Task.enc) h rfl (fun _=>rfl) (fun x6 h=>?_)
  conv=>whnf
  refine liS ([⟨a1,a3,(wr (a3+x6.D)),a2,(0:Int),false⟩]:List Job) Job.enc rfl rfl ?_
  conv=>whnf
  refine apS (enc:=Job.enc) (l1:=([]:List Job)++a0.Jobs) (l2:=([⟨a1,a3,(wr (a3+x6.D)),a2,(0:Int),false⟩]:List Job)) h rfl rfl (fun _=>rfl) (fun h=>?_)
  conv=>whnf
  refine drS (by kernel_rfl) ?_
  conv=>whnf
  refine inS (fn:=Tryz.f77) tab ⟨[(0,[0,1,2,11]),(1,[])],[],[],[]⟩ 28 [] rfl rfl rfl rfl rfl rfl ?_
  conv=>whnf
  refine lenS (([]:List Entry)++a0.Log) Entry.enc rfl ?_
  conv=>whnf
  refine fkS h (fun h=>?_) (fun h=>?_)
  · conv=>whnf
    refine⟨14,?_⟩
    conv=>whnf
    refine liS ([⟨a3,(1:Int),a1⟩]:List Entry) Entry.enc rfl rfl ?_
    conv=>whnf
    refine apS (enc:=Entry.enc) (l1:=([]:List Entry)++a0.Log) (l2:=([⟨a3,(1:Int),a1⟩]:List Entry)) h rfl rfl (fun _=>rfl) (fun h=>?_)
    conv=>whnf
    refine drS (by kernel_rfl) ?_
    conv=>whnf
    refine inS (fn:=Tryz.f78) tab ⟨[(0,[0,2]),(1,[0,2]),(2,[2])],[],[],[]⟩ 16 [.cell 2 51] rfl rfl rfl rfl rfl rfl ?_
    conv=>whnf
    exact rt (E:=E_PartState_Int) h rfl
  conv=>whnf
  refine inS (fn:=Tryz.f78) tab ⟨[(0,[0,2]),(1,[0,2]),(2,[2])],[],[],[]⟩ 16 [.cell 2 51] rfl rfl rfl rfl rfl rfl ?_
  conv=>whnf
  exact rt (E:=E_PartState_Int) h rfl

end Go.Proofs.YtldlcdnhdedoeaaGreat
namespace Go.Proofs.YtldlcdnhdedoeaaGreat
open Go Go.VC
noncomputable def kernel_kinds_1 (a0:PartState) (a1:Face) (a2:KernelCmd) (a3:Int):Option (PartState×Int):=
  bnd (part_Release a0 a2.I a2.V a3) fun x1=>some (x1.1,x1.2)
theorem kernel_kinds_1_w (a0:PartState) (a1:Face) (a2:KernelCmd) (a3:Int) (r:PartState×Int) (h:kernel_kinds_1 a0 a1 a2 a3=some r):Go.VC.Spec Tryz.prog 126 [.agg (PartState.enc a0),.agg (Face.enc a1),.agg (KernelCmd.enc a2),.d (.int .i64 a3)] (fun y=>y=E_PartState_Int r):=by
  refine Go.VC.Spec.of_xc (args:=[.agg (PartState.enc a0),.agg (Face.enc a1),.agg (KernelCmd.enc a2),.d (.int .i64 a3)]) (fn:=Tryz.f126) tab ⟨[(0,[3,4,6,8]),(1,[8,9])],[],[],[]⟩ 19 [.cell 8 51,.tmp 9] rfl rfl rfl rfl rfl rfl ?_
  conv=>whnf
  refine ccS (E:=E_PartState_Int) h (part_Release_w a0 a2.I a2.V a3) rfl rfl (fun x1 h=>?_)
  conv=>whnf
  exact rt (E:=E_PartState_Int) h rfl

end Go.Proofs.YtldlcdnhdedoeaaGreat
namespace Go.Proofs.YtldlcdnhdedoeaaGreat
open Go Go.VC
noncomputable def kernel_State_with (a0:KernelState) (a1:Int) (a2:PartState):Option KernelState:=
  ck (decide ((([]:List PartState).length+a0.Parts.length)*120≤140737488355328)) (ck (decide (0≤a1) && decide (a1<((([]:List PartState)++a0.Parts).length:Int))) (ox (([]:List PartState)++a0.Parts) a1.toNat fun x1=>some ⟨a0.Table,a0.Faces,(([]:List PartState)++a0.Parts).set a1.toNat a2,a0.Lines,a0.Now⟩))
theorem kernel_State_with_w (a0:KernelState) (a1:Int) (a2:PartState) (r:KernelState) (h:kernel_State_with a0 a1 a2=some r):Go.VC.Spec Tryz.prog 90 [.agg (KernelState.enc a0),.d (.int .i64 a1),.agg (PartState.enc a2)] (fun y=>y=E_KernelState r):=by
  refine Go.VC.Spec.of_xc (args:=[.agg (KernelState.enc a0),.d (.int .i64 a1),.agg (PartState.enc a2)]) (fn:=Tryz.f90) tab ⟨[(0,[1,3,5,6]),(1,[1,3,5,6]),(2,[3,6]),(3,[6])],[],[],[]⟩ 18 [.cell 6 35] rfl rfl rfl rfl rfl rfl ?_
  conv=>whnf
  refine liS ([]:List PartState) PartState.enc rfl rfl ?_
  conv=>whnf
  refine apS (enc:=PartState.enc) (l1:=([]:List PartState)) (l2:=a0.Parts) h rfl rfl (fun _=>rfl) (fun h=>?_)
  conv=>whnf
  refine ioS (enc:=PartState.enc) h rfl (fun h=>?_)
  conv=>whnf
  refine seS (enc:=PartState.enc) h rfl (fun x1=>a2) (fun _=>rfl) (fun x1 h=>?_)
  conv=>whnf
  exact rt (E:=E_KernelState) h rfl

end Go.Proofs.YtldlcdnhdedoeaaGreat
namespace Go.Proofs.YtldlcdnhdedoeaaGreat
open Go Go.VC
noncomputable def kernel_on_1 (a0:KernelState) (a1:KernelCmd):Option (KernelState×Int×Int):=
  ix a0.Parts a1.Part fun x1=>ix a0.Faces a1.Part fun x2=>bnd (kernel_kinds_1 x1 x2 a1 a0.Now) fun x3=>bnd (kernel_State_with a0 a1.Part x3.1) fun x4=>some (x4,(0:Int),x3.2)
theorem kernel_on_1_w (a0:KernelState) (a1:KernelCmd) (r:KernelState×Int×Int) (h:kernel_on_1 a0 a1=some r):Go.VC.Spec Tryz.prog 158 [.agg (KernelState.enc a0),.agg (KernelCmd.enc a1),.dp [.fn 126 []]] (fun y=>y=E_KernelState_Int_Int r):=by
  refine Go.VC.Spec.of_xc (args:=[.agg (KernelState.enc a0),.agg (KernelCmd.enc a1),.dp [.fn 126 []]]) (fn:=Tryz.f158) tab ⟨[(0,[2,3,4,5]),(1,[3,4,5,8,9]),(2,[5,6,7])],[],[],[]⟩ 36 [.cell 5 35,.tmp 6,.tmp 7] rfl rfl rfl rfl rfl rfl ?_
  conv=>whnf
  refine⟨22,?_⟩
  conv=>whnf
  refine ixS (enc:=PartState.enc) h rfl (fun _=>rfl) (fun x1 h=>?_)
  conv=>whnf
  refine ixS (enc:=Face.enc) h rfl (fun _=>rfl) (fun x2 h=>?_)
  conv=>whnf
  refine dcS (E:=E_PartState_Int) h (kernel_kinds_1_w x1 x2 a1 a0.Now) rfl (fun x3 h=>?_)
  conv=>whnf
  refine drS (by kernel_rfl) ?_
  conv=>whnf
  refine ccS (E:=E_KernelState) h (kernel_State_with_w a0 a1.Part x3.1) rfl rfl (fun x4 h=>?_)
  conv=>whnf
  exact rt (E:=E_KernelState_Int_Int) h rfl

end Go.Proofs.YtldlcdnhdedoeaaGreat
namespace Go.Proofs.YtldlcdnhdedoeaaGreat
open Go Go.VC
noncomputable def job_First_1 (a0:Job) (a1:Bool):Option Bool:=
  some (decide (a0.Began=a1))
theorem job_First_1_w (a0:Job) (a1:Bool) (r:Bool) (h:job_First_1 a0 a1=some r):Go.VC.Spec Tryz.prog 139 [.agg (Job.enc a0),.dp [.bool a1]] (fun y=>y=E_Bool r):=by
  refine Go.VC.Spec.of_xc (args:=[.agg (Job.enc a0),.dp [.bool a1]]) (fn:=Tryz.f139) tab ⟨[(0,[1,2]),(1,[3])],[],[],[]⟩ 8 [.tmp 3] rfl rfl rfl rfl rfl rfl ?_
  conv=>whnf
  exact rt (E:=E_Bool) h rfl

end Go.Proofs.YtldlcdnhdedoeaaGreat
namespace Go.Proofs.YtldlcdnhdedoeaaGreat
open Go Go.VC
noncomputable def job_Ahead (a0:Job) (a1:Job):Option Bool:=
  fk (!decide (a0.Due=a1.Due)) (some (decide (a0.Due<a1.Due))) (fk (!decide (a0.Task=a1.Task)) (some (decide (a0.Task<a1.Task))) (some (decide (a0.At<a1.At))))
theorem job_Ahead_w (a0:Job) (a1:Job) (r:Bool) (h:job_Ahead a0 a1=some r):Go.VC.Spec Tryz.prog 140 [.agg (Job.enc a0),.agg (Job.enc a1)] (fun y=>y=E_Bool r):=by
  refine Go.VC.Spec.of_xc (args:=[.agg (Job.enc a0),.agg (Job.enc a1)]) (fn:=Tryz.f140) tab ⟨[(0,[2,3]),(1,[2,3,5]),(2,[4]),(3,[2,3,16]),(4,[4]),(5,[4])],[],[],[]⟩ 32 [.tmp 4] rfl rfl rfl rfl rfl rfl ?_
  conv=>whnf
  refine fkS h (fun h=>?_) (fun h=>?_)
  · conv=>whnf
    exact rt (E:=E_Bool) h rfl
  conv=>whnf
  refine fkS h (fun h=>?_) (fun h=>?_)
  · conv=>whnf
    exact rt (E:=E_Bool) h rfl
  conv=>whnf
  exact rt (E:=E_Bool) h rfl

end Go.Proofs.YtldlcdnhdedoeaaGreat
namespace Go.Proofs.YtldlcdnhdedoeaaGreat
open Go Go.VC
noncomputable def job_first_api_Job (a0:List Job) (a1:Bool):Option Int:=
  lp (fun nx1 (v1:Int×Int)=>fk (decide (v1.2<(a0.length:Int))) (jn (fun (w2:Int)=>nx1 (w2,(wr (v1.2+(1:Int))))) (fun k2=>ix a0 v1.2 fun x3=>jn (fun (w4:Bool)=>fk w4 (k2 v1.2) (k2 v1.1)) (fun k4=>bnd (job_First_1 x3 a1) fun x5=>fk x5 (fk (decide (v1.1<(0:Int))) (k4 true) (ix a0 v1.1 fun x6=>bnd (job_Ahead x3 x6) fun x7=>k4 x7)) (k4 false)))) (some v1.1)) FU ((-1:Int),(0:Int))
theorem job_first_api_Job_w (a0:List Job) (a1:Bool) (r:Int) (h:job_first_api_Job a0 a1=some r):Go.VC.Spec Tryz.prog 138 [.d (.sl (a0.map Job.enc)),.d (.fn 139 [[.bool a1]]),.d (.fn 140 [])] (fun y=>y=E_Int r):=by
  refine Go.VC.Spec.of_xc (args:=[.d (.sl (a0.map Job.enc)),.d (.fn 139 [[.bool a1]]),.d (.fn 140 [])]) (fn:=Tryz.f138) tab ⟨[(0,[0,1,2]),(1,[0,1,2,7]),(2,[0,1,2,7,10,11,12]),(3,[0,1,2,7,10,11,12,13]),(4,[0,1,2,7,8,9,10,11,12]),(5,[0,1,2,7,8,10,11,12,32]),(6,[0,1,2,7,10,11,12]),(7,[0,1,2,7,10,11,12]),(8,[6])],[],[100032,7],[]⟩ 36 [.tmp 6] rfl rfl rfl rfl rfl rfl ?_
  conv=>whnf
  refine lenS a0 Job.enc rfl ?_
  conv=>whnf
  refine lpS (fun v1=>⟨[(0,.l (.d (.sl (a0.map Job.enc)))),(1,.l (.d (.fn 139 [[.bool a1]]))),(2,.l (.d (.fn 140 []))),(7,.l (.d (.int .i64 v1.1))),(10,.l (.d (.sl (a0.map Job.enc)))),(11,.l (.d (.int .i64 (a0.length:Int)))),(12,.l (.d (.int .i64 v1.2)))],36,[],[],[]⟩) h (Weak.refl _) (fun _ nx1 hn1 v1 h=>?_)
  conv=>whnf
  refine fkS h (fun h=>?_) (fun h=>?_)
  · conv=>whnf
    refine jnS (fun w2=>⟨[(0,.l (.d (.sl (a0.map Job.enc)))),(1,.l (.d (.fn 139 [[.bool a1]]))),(2,.l (.d (.fn 140 []))),(7,.l (.d (.int .i64 w2))),(10,.l (.d (.sl (a0.map Job.enc)))),(11,.l (.d (.int .i64 (a0.length:Int)))),(12,.l (.d (.int .i64 v1.2)))],36,[],[],[]⟩) h (fun k2 hk2 h=>?_) (fun w2 h=>?_)
    · conv=>whnf
      refine ixS (enc:=Job.enc) h rfl (fun _=>rfl) (fun x3 h=>?_)
      conv=>whnf
      refine jnS (fun w4=>⟨[(0,.l (.d (.sl (a0.map Job.enc)))),(1,.l (.d (.fn 139 [[.bool a1]]))),(2,.l (.d (.fn 140 []))),(7,.l (.d (.int .i64 v1.1))),(8,.l (.d (.int .i64 v1.2))),(10,.l (.d (.sl (a0.map Job.enc)))),(11,.l (.d (.int .i64 (a0.length:Int)))),(12,.l (.d (.int .i64 v1.2))),(32,.l (.d (.bool w4)))],36,[],[],[]⟩) h (fun k4 hk4 h=>?_) (fun w4 h=>?_)
      · conv=>whnf
        refine⟨13,?_⟩
        conv=>whnf
        refine daS (E:=E_Bool) h (job_First_1_w x3 a1) (fun _=>rfl) (fun x5 h=>?_)
        conv=>whnf
        refine fkS h (fun h=>?_) (fun h=>?_)
        · conv=>whnf
          refine fkS h (fun h=>?_) (fun h=>?_)
          · conv=>whnf
            refine drS (by kernel_rfl) ?_
            conv=>whnf
            exact jeS hk4 h (Weak.refl _)
          conv=>whnf
          refine ixS (enc:=Job.enc) h rfl (fun _=>rfl) (fun x6 h=>?_)
          conv=>whnf
          refine drS (by kernel_rfl) ?_
          conv=>whnf
          refine caS (E:=E_Bool) h (job_Ahead_w x3 x6) rfl (fun _=>rfl) (fun x7 h=>?_)
          conv=>whnf
          exact jeS hk4 h (Weak.refl _)
        conv=>whnf
        refine drS (by kernel_rfl) ?_
        conv=>whnf
        exact jeS hk4 h (Weak.refl _)
      conv=>whnf
      refine fkS h (fun h=>?_) (fun h=>?_)
      · conv=>whnf
        exact jeS hk2 h (Weak.refl _)
      conv=>whnf
      refine jeX hk2 h ?_
      conv=>whnf
      refine WkF.step (Weak.keepS _ [0,1,2,7,10,11,12]) ?_
      conv=>whnf
      exact WkF.refl _
    conv=>whnf
    exact leS hn1 h (Weak.refl _)
  conv=>whnf
  exact rt (E:=E_Int) h rfl

end Go.Proofs.YtldlcdnhdedoeaaGreat
namespace Go.Proofs.YtldlcdnhdedoeaaGreat
open Go Go.VC
noncomputable def job_First (a0:List Job) (a1:Bool):Option Int:=
  bnd (job_first_api_Job a0 a1) fun x1=>some x1
theorem job_First_w (a0:List Job) (a1:Bool) (r:Int) (h:job_First a0 a1=some r):Go.VC.Spec Tryz.prog 86 [.d (.sl (a0.map Job.enc)),.d (.bool a1)] (fun y=>y=E_Int r):=by
  refine Go.VC.Spec.of_xc (args:=[.d (.sl (a0.map Job.enc)),.d (.bool a1)]) (fn:=Tryz.f86) tab ⟨[(0,[0,3]),(1,[4])],[],[],[]⟩ 8 [.tmp 4] rfl rfl rfl rfl rfl rfl ?_
  conv=>whnf
  refine caS (E:=E_Int) h (job_first_api_Job_w a0 a1) rfl (fun _=>rfl) (fun x1 h=>?_)
  conv=>whnf
  exact rt (E:=E_Int) h rfl

end Go.Proofs.YtldlcdnhdedoeaaGreat
namespace Go.Proofs.YtldlcdnhdedoeaaGreat
open Go Go.VC
noncomputable def admit_first_1 (a0:Bool) (a1:Int) (a2:Bool) (a3:Int) (a4:Bool) (a5:Int) (a6:List Task) (a7:Int) (a8:Int):Option Int:=
  lp (fun nx1 (v1:Int)=>fk (decide (v1<(4:Int))) (fk (decide (v1=(0:Int))) (bnd (admit_unless_1 a0 a1) fun x5=>fk (!decide (x5=(0:Int))) (some x5) (nx1 (wr (v1+(1:Int))))) (fk (decide (v1=(1:Int))) (bnd (admit_unless_1 a2 a3) fun x4=>fk (!decide (x4=(0:Int))) (some x4) (nx1 (wr (v1+(1:Int))))) (fk (decide (v1=(2:Int))) (bnd (admit_unless_1 a4 a5) fun x3=>fk (!decide (x3=(0:Int))) (some x3) (nx1 (wr (v1+(1:Int))))) (fk (decide (v1=(3:Int))) (bnd (admit_fit_1 a6 a7 a8) fun x2=>fk (!decide (x2=(0:Int))) (some x2) (nx1 (wr (v1+(1:Int))))) (none))))) (some (0:Int))) FU (0:Int)
theorem admit_first_1_w (a0:Bool) (a1:Int) (a2:Bool) (a3:Int) (a4:Bool) (a5:Int) (a6:List Task) (a7:Int) (a8:Int) (r:Int) (h:admit_first_1 a0 a1 a2 a3 a4 a5 a6 a7 a8=some r):Go.VC.Spec Tryz.prog 82 [.d (.sl [[.fn 134 [[.bool a0],[.int .i64 a1]]],[.fn 134 [[.bool a2],[.int .i64 a3]]],[.fn 134 [[.bool a4],[.int .i64 a5]]],[.fn 141 [[.sl (a6.map Task.enc)],[.int .i64 a7,.int .i64 a8]]]])] (fun y=>y=E_Int r):=by
  refine Go.VC.Spec.of_xc (args:=[.d (.sl [[.fn 134 [[.bool a0],[.int .i64 a1]]],[.fn 134 [[.bool a2],[.int .i64 a3]]],[.fn 134 [[.bool a4],[.int .i64 a5]]],[.fn 141 [[.sl (a6.map Task.enc)],[.int .i64 a7,.int .i64 a8]]]])]) (fn:=Tryz.f82) tab ⟨[(0,[0]),(1,[6,7,8]),(2,[6,7,8,9]),(3,[4,6,7,8]),(4,[5,6,7,8]),(5,[5,6,7,8,15]),(6,[2]),(7,[6,7,8]),(8,[2])],[],[],[]⟩ 18 [.tmp 2] rfl rfl rfl rfl rfl rfl ?_
  conv=>whnf
  refine lenR (4:Int) rfl ?_
  conv=>whnf
  refine lpS (fun v1=>⟨[(6,.l (.d (.sl [[.fn 134 [[.bool a0],[.int .i64 a1]]],[.fn 134 [[.bool a2],[.int .i64 a3]]],[.fn 134 [[.bool a4],[.int .i64 a5]]],[.fn 141 [[.sl (a6.map Task.enc)],[.int .i64 a7,.int .i64 a8]]]]))),(7,.l (.d (.int .i64 (4:Int)))),(8,.l (.d (.int .i64 v1)))],18,[],[],[]⟩) h (Weak.refl _) (fun _ nx1 hn1 v1 h=>?_)
  conv=>whnf
  refine fkS h (fun h=>?_) (fun h=>?_)
  · conv=>whnf
    refine ixC 0 [.fn 134 [[.bool a0],[.int .i64 a1]]] h rfl rfl (fun h=>?_) (fun h=>?_)
    · conv=>whnf
      refine caS (E:=E_Int) h (admit_unless_1_w a0 a1) rfl (fun _=>rfl) (fun x5 h=>?_)
      conv=>whnf
      refine fkS h (fun h=>?_) (fun h=>?_)
      · conv=>whnf
        exact rt (E:=E_Int) h rfl
      conv=>whnf
      exact leS hn1 h (Weak.refl _)
    conv=>whnf
    refine ixC 1 [.fn 134 [[.bool a2],[.int .i64 a3]]] h rfl rfl (fun h=>?_) (fun h=>?_)
    · conv=>whnf
      refine caS (E:=E_Int) h (admit_unless_1_w a2 a3) rfl (fun _=>rfl) (fun x4 h=>?_)
      conv=>whnf
      refine fkS h (fun h=>?_) (fun h=>?_)
      · conv=>whnf
        exact rt (E:=E_Int) h rfl
      conv=>whnf
      exact leS hn1 h (Weak.refl _)
    conv=>whnf
    refine ixC 2 [.fn 134 [[.bool a4],[.int .i64 a5]]] h rfl rfl (fun h=>?_) (fun h=>?_)
    · conv=>whnf
      refine caS (E:=E_Int) h (admit_unless_1_w a4 a5) rfl (fun _=>rfl) (fun x3 h=>?_)
      conv=>whnf
      refine fkS h (fun h=>?_) (fun h=>?_)
      · conv=>whnf
        exact rt (E:=E_Int) h rfl
      conv=>whnf
      exact leS hn1 h (Weak.refl _)
    conv=>whnf
    refine ixC 3 [.fn 141 [[.sl (a6.map Task.enc)],[.int .i64 a7,.int .i64 a8]]] h rfl rfl (fun h=>?_) (fun h=>?_)
    · conv=>whnf
      refine caS (E:=E_Int) h (admit_fit_1_w a6 a7 a8) rfl (fun _=>rfl) (fun x2 h=>?_)
      conv=>whnf
      refine fkS h (fun h=>?_) (fun h=>?_)
      · conv=>whnf
        exact rt (E:=E_Int) h rfl
      conv=>whnf
      exact leS hn1 h (Weak.refl _)
    conv=>whnf
    exact ixN h
  conv=>whnf
  exact rt (E:=E_Int) h rfl

end Go.Proofs.YtldlcdnhdedoeaaGreat
namespace Go.Proofs.YtldlcdnhdedoeaaGreat
open Go Go.VC
noncomputable def admit_Add (a0:PartState) (a1:Face) (a2:Task):Option (PartState×Int):=
  ck (decide ((([]:List Task).length+a0.Tasks.length)*48≤140737488355328)) (ck (decide (((([]:List Task)++a0.Tasks).length+([a2]:List Task).length)*48≤140737488355328)) (jn (fun (w1:Int)=>fk (!decide (w1=(0:Int))) (some (a0,w1)) (bnd (part_Add a0 a2) fun x23=>some (x23.1,x23.2))) (fun k1=>bnd (part_Right a0) fun x2=>fk x2 (bnd (supply_Right a1) fun x3=>fk x3 (bnd (task_Right a2) fun x4=>bnd (admit_unless x4 (1:Int)) fun x5=>bnd (admit_unless (decide ((a0.Tasks.length:Int)<(8:Int))) (3:Int)) fun x6=>bnd (job_First a0.Jobs true) fun x7=>bnd (admit_unless (decide (x7<(0:Int))) (9:Int)) fun x8=>bnd (admit_fit ((([]:List Task)++a0.Tasks)++([a2]:List Task)) a1) fun x9=>bnd (admit_first_1 x5.1 x5.2 x6.1 x6.2 x8.1 x8.2 x9.1 x9.2.1 x9.2.2) fun x10=>k1 x10) (bnd (admit_unless false (1:Int)) fun x11=>bnd (admit_unless (decide ((a0.Tasks.length:Int)<(8:Int))) (3:Int)) fun x12=>bnd (job_First a0.Jobs true) fun x13=>bnd (admit_unless (decide (x13<(0:Int))) (9:Int)) fun x14=>bnd (admit_fit ((([]:List Task)++a0.Tasks)++([a2]:List Task)) a1) fun x15=>bnd (admit_first_1 x11.1 x11.2 x12.1 x12.2 x14.1 x14.2 x15.1 x15.2.1 x15.2.2) fun x16=>k1 x16)) (bnd (admit_unless false (1:Int)) fun x17=>bnd (admit_unless (decide ((a0.Tasks.length:Int)<(8:Int))) (3:Int)) fun x18=>bnd (job_First a0.Jobs true) fun x19=>bnd (admit_unless (decide (x19<(0:Int))) (9:Int)) fun x20=>bnd (admit_fit ((([]:List Task)++a0.Tasks)++([a2]:List Task)) a1) fun x21=>bnd (admit_first_1 x17.1 x17.2 x18.1 x18.2 x20.1 x20.2 x21.1 x21.2.1 x21.2.2) fun x22=>k1 x22))))
theorem admit_Add_w (a0:PartState) (a1:Face) (a2:Task) (r:PartState×Int) (h:admit_Add a0 a1 a2=some r):Go.VC.Spec Tryz.prog 31 [.agg (PartState.enc a0),.agg (Face.enc a1),.agg (Task.enc a2)] (fun y=>y=E_PartState_Int r):=by
  refine Go.VC.Spec.of_xc (args:=[.agg (PartState.enc a0),.agg (Face.enc a1),.agg (Task.enc a2)]) (fn:=Tryz.f31) tab ⟨[(0,[3,4,5,6]),(1,[3,4,5,6,8]),(2,[3,5,6,9]),(3,[3,5,6,9,44]),(4,[6,7]),(5,[6,7])],[],[3],[]⟩ 52 [.cell 6 51,.tmp 7] rfl rfl rfl rfl rfl rfl ?_
  conv=>whnf
  refine⟨6,?_⟩
  conv=>whnf
  refine liS ([]:List Task) Task.enc rfl rfl ?_
  conv=>whnf
  refine apS (enc:=Task.enc) (l1:=([]:List Task)) (l2:=a0.Tasks) h rfl rfl (fun _=>rfl) (fun h=>?_)
  conv=>whnf
  refine liS ([a2]:List Task) Task.enc rfl rfl ?_
  conv=>whnf
  refine drS (by kernel_rfl) ?_
  conv=>whnf
  refine apS (enc:=Task.enc) (l1:=([]:List Task)++a0.Tasks) (l2:=([a2]:List Task)) h rfl rfl (fun _=>rfl) (fun h=>?_)
  conv=>whnf
  refine jnS (fun w1=>⟨[(3,.l (.ptr 4 0)),(5,.l (.ptr 6 0)),(6,.l (.ptr 7 0)),(9,.l (.d (.int .i64 w1)))],52,[],[(4,[.d (.sl (a0.Tasks.map Task.enc)),.d (.sl (a0.Leaves.map eB)),.d (.sl (a0.Lasts.map (eI .i64))),.d (.sl (a0.Jobs.map Job.enc)),.d (.sl (a0.Log.map Entry.enc))]),(6,[.d (.int .i64 a2.C),.d (.int .i64 a2.D),.d (.int .i64 a2.T),.d (.sl (a2.Secs.map Sec.enc))]),(7,[.nil,.nil,.nil,.nil,.nil])],[]⟩) h (fun k1 hk1 h=>?_) (fun w1 h=>?_)
  · conv=>whnf
    refine⟨23,?_⟩
    conv=>whnf
    refine daS (E:=E_Bool) h (part_Right_w a0) (fun _=>rfl) (fun x2 h=>?_)
    conv=>whnf
    refine fkS h (fun h=>?_) (fun h=>?_)
    · conv=>whnf
      refine daS (E:=E_Bool) h (supply_Right_w a1) (fun _=>rfl) (fun x3 h=>?_)
      conv=>whnf
      refine fkS h (fun h=>?_) (fun h=>?_)
      · conv=>whnf
        refine daS (E:=E_Bool) h (task_Right_w a2) (fun _=>rfl) (fun x4 h=>?_)
        conv=>whnf
        refine dcS (E:=E_fn_admit_unless) h (admit_unless_w x4 (1:Int)) rfl (fun x5 h=>?_)
        conv=>whnf
        refine lenS a0.Tasks Task.enc rfl ?_
        conv=>whnf
        refine dcS (E:=E_fn_admit_unless) h (admit_unless_w (decide ((a0.Tasks.length:Int)<(8:Int))) (3:Int)) rfl (fun x6 h=>?_)
        conv=>whnf
        refine daS (E:=E_Int) h (job_First_w a0.Jobs true) (fun _=>rfl) (fun x7 h=>?_)
        conv=>whnf
        refine dcS (E:=E_fn_admit_unless) h (admit_unless_w (decide (x7<(0:Int))) (9:Int)) rfl (fun x8 h=>?_)
        conv=>whnf
        refine drS (by kernel_rfl) ?_
        conv=>whnf
        refine iceS 9 ?_
        conv=>whnf
        refine ccS (E:=E_fn_admit_fit) h (admit_fit_w ((([]:List Task)++a0.Tasks)++([a2]:List Task)) a1) rfl rfl (fun x9 h=>?_)
        conv=>whnf
        refine liR rfl ?_
        conv=>whnf
        refine caS (E:=E_Int) h (admit_first_1_w x5.1 x5.2 x6.1 x6.2 x8.1 x8.2 x9.1 x9.2.1 x9.2.2) rfl (fun _=>rfl) (fun x10 h=>?_)
        conv=>whnf
        exact jeS hk1 h (Weak.refl _)
      conv=>whnf
      refine dcS (E:=E_fn_admit_unless) h (admit_unless_w false (1:Int)) rfl (fun x11 h=>?_)
      conv=>whnf
      refine lenS a0.Tasks Task.enc rfl ?_
      conv=>whnf
      refine dcS (E:=E_fn_admit_unless) h (admit_unless_w (decide ((a0.Tasks.length:Int)<(8:Int))) (3:Int)) rfl (fun x12 h=>?_)
      conv=>whnf
      refine daS (E:=E_Int) h (job_First_w a0.Jobs true) (fun _=>rfl) (fun x13 h=>?_)
      conv=>whnf
      refine dcS (E:=E_fn_admit_unless) h (admit_unless_w (decide (x13<(0:Int))) (9:Int)) rfl (fun x14 h=>?_)
      conv=>whnf
      refine drS (by kernel_rfl) ?_
      conv=>whnf
      refine iceS 9 ?_
      conv=>whnf
      refine ccS (E:=E_fn_admit_fit) h (admit_fit_w ((([]:List Task)++a0.Tasks)++([a2]:List Task)) a1) rfl rfl (fun x15 h=>?_)
      conv=>whnf
      refine liR rfl ?_
      conv=>whnf
      refine caS (E:=E_Int) h (admit_first_1_w x11.1 x11.2 x12.1 x12.2 x14.1 x14.2 x15.1 x15.2.1 x15.2.2) rfl (fun _=>rfl) (fun x16 h=>?_)
      conv=>whnf
      exact jeS hk1 h (Weak.refl _)
    conv=>whnf
    refine dcS (E:=E_fn_admit_unless) h (admit_unless_w false (1:Int)) rfl (fun x17 h=>?_)
    conv=>whnf
    refine lenS a0.Tasks Task.enc rfl ?_
    conv=>whnf
    refine dcS (E:=E_fn_admit_unless) h (admit_unless_w (decide ((a0.Tasks.length:Int)<(8:Int))) (3:Int)) rfl (fun x18 h=>?_)
    conv=>whnf
    refine daS (E:=E_Int) h (job_First_w a0.Jobs true) (fun _=>rfl) (fun x19 h=>?_)
    conv=>whnf
    refine dcS (E:=E_fn_admit_unless) h (admit_unless_w (decide (x19<(0:Int))) (9:Int)) rfl (fun x20 h=>?_)
    conv=>whnf
    refine drS (by kernel_rfl) ?_
    conv=>whnf
    refine iceS 9 ?_
    conv=>whnf
    refine ccS (E:=E_fn_admit_fit) h (admit_fit_w ((([]:List Task)++a0.Tasks)++([a2]:List Task)) a1) rfl rfl (fun x21 h=>?_)
    conv=>whnf
    refine liR rfl ?_
    conv=>whnf
    refine caS (E:=E_Int) h (admit_first_1_w x17.1 x17.2 x18.1 x18.2 x20.1 x20.2 x21.1 x21.2.1 x21.2.2) rfl (fun _=>rfl) (fun x22 h=>?_)
    conv=>whnf
    exact jeS hk1 h (Weak.refl _)
  conv=>whnf
  refine fkS h (fun h=>?_) (fun h=>?_)
  · conv=>whnf
    exact rt (E:=E_PartState_Int) h rfl
  conv=>whnf
  refine ccS (E:=E_PartState_Int) h (part_Add_w a0 a2) rfl rfl (fun x23 h=>?_)
  conv=>whnf
  exact rt (E:=E_PartState_Int) h rfl

end Go.Proofs.YtldlcdnhdedoeaaGreat
namespace Go.Proofs.YtldlcdnhdedoeaaGreat
open Go Go.VC
noncomputable def kernel_kinds_2 (a0:PartState) (a1:Face) (a2:KernelCmd) (a3:Int):Option (PartState×Int):=
  bnd (admit_Add a0 a1 a2.T) fun x1=>some (x1.1,x1.2)
theorem kernel_kinds_2_w (a0:PartState) (a1:Face) (a2:KernelCmd) (a3:Int) (r:PartState×Int) (h:kernel_kinds_2 a0 a1 a2 a3=some r):Go.VC.Spec Tryz.prog 127 [.agg (PartState.enc a0),.agg (Face.enc a1),.agg (KernelCmd.enc a2),.d (.int .i64 a3)] (fun y=>y=E_PartState_Int r):=by
  refine Go.VC.Spec.of_xc (args:=[.agg (PartState.enc a0),.agg (Face.enc a1),.agg (KernelCmd.enc a2),.d (.int .i64 a3)]) (fn:=Tryz.f127) tab ⟨[(0,[4,5,6,8]),(1,[8,9])],[],[],[]⟩ 17 [.cell 8 51,.tmp 9] rfl rfl rfl rfl rfl rfl ?_
  conv=>whnf
  refine ccS (E:=E_PartState_Int) h (admit_Add_w a0 a1 a2.T) rfl rfl (fun x1 h=>?_)
  conv=>whnf
  exact rt (E:=E_PartState_Int) h rfl

end Go.Proofs.YtldlcdnhdedoeaaGreat
namespace Go.Proofs.YtldlcdnhdedoeaaGreat
open Go Go.VC
noncomputable def kernel_on_1_1 (a0:KernelState) (a1:KernelCmd):Option (KernelState×Int×Int):=
  ix a0.Parts a1.Part fun x1=>ix a0.Faces a1.Part fun x2=>bnd (kernel_kinds_2 x1 x2 a1 a0.Now) fun x3=>bnd (kernel_State_with a0 a1.Part x3.1) fun x4=>some (x4,(0:Int),x3.2)
theorem kernel_on_1_1_w (a0:KernelState) (a1:KernelCmd) (r:KernelState×Int×Int) (h:kernel_on_1_1 a0 a1=some r):Go.VC.Spec Tryz.prog 158 [.agg (KernelState.enc a0),.agg (KernelCmd.enc a1),.dp [.fn 127 []]] (fun y=>y=E_KernelState_Int_Int r):=by
  refine Go.VC.Spec.of_xc (args:=[.agg (KernelState.enc a0),.agg (KernelCmd.enc a1),.dp [.fn 127 []]]) (fn:=Tryz.f158) tab ⟨[(0,[2,3,4,5]),(1,[3,4,5,8,9]),(2,[5,6,7])],[],[],[]⟩ 36 [.cell 5 35,.tmp 6,.tmp 7] rfl rfl rfl rfl rfl rfl ?_
  conv=>whnf
  refine⟨22,?_⟩
  conv=>whnf
  refine ixS (enc:=PartState.enc) h rfl (fun _=>rfl) (fun x1 h=>?_)
  conv=>whnf
  refine ixS (enc:=Face.enc) h rfl (fun _=>rfl) (fun x2 h=>?_)
  conv=>whnf
  refine dcS (E:=E_PartState_Int) h (kernel_kinds_2_w x1 x2 a1 a0.Now) rfl (fun x3 h=>?_)
  conv=>whnf
  refine drS (by kernel_rfl) ?_
  conv=>whnf
  refine ccS (E:=E_KernelState) h (kernel_State_with_w a0 a1.Part x3.1) rfl rfl (fun x4 h=>?_)
  conv=>whnf
  exact rt (E:=E_KernelState_Int_Int) h rfl

end Go.Proofs.YtldlcdnhdedoeaaGreat
namespace Go.Proofs.YtldlcdnhdedoeaaGreat
open Go Go.VC
noncomputable def part_Leave (a0:PartState) (a1:Int):Option (PartState×Int):=
  jn (fun (w1:Bool)=>fk w1 (some (a0,(1:Int))) (ix a0.Leaves a1 fun x3=>fk x3 (some (a0,(9:Int))) (ck (decide ((([]:List Bool).length+a0.Leaves.length)*1≤140737488355328)) (ck (decide (0≤a1) && decide (a1<((([]:List Bool)++a0.Leaves).length:Int))) (ox (([]:List Bool)++a0.Leaves) a1.toNat fun x4=>some (⟨a0.Tasks,(([]:List Bool)++a0.Leaves).set a1.toNat true,a0.Lasts,a0.Jobs,a0.Log⟩,(0:Int))))))) (fun k1=>bnd (part_Right a0) fun x2=>fk (!x2) (k1 true) (fk (decide (a1<(0:Int))) (k1 true) (k1 (decide (a1≥(a0.Tasks.length:Int))))))
theorem part_Leave_w (a0:PartState) (a1:Int) (r:PartState×Int) (h:part_Leave a0 a1=some r):Go.VC.Spec Tryz.prog 88 [.agg (PartState.enc a0),.d (.int .i64 a1)] (fun y=>y=E_PartState_Int r):=by
  refine Go.VC.Spec.of_xc (args:=[.agg (PartState.enc a0),.d (.int .i64 a1)]) (fn:=Tryz.f88) tab ⟨[(0,[1,2,4]),(1,[1,2,4,6]),(2,[4,5]),(3,[1,2,4,22]),(4,[4,5]),(5,[1,2,4]),(6,[2,4]),(7,[4,5])],[],[100006],[]⟩ 39 [.cell 4 51,.tmp 5] rfl rfl rfl rfl rfl rfl ?_
  conv=>whnf
  refine jnS (fun w1=>⟨[(1,.l (.d (.int .i64 a1))),(2,.l (.ptr 3 0)),(4,.l (.ptr 5 0)),(6,.l (.d (.bool w1)))],39,[],[(3,[.d (.sl (a0.Tasks.map Task.enc)),.d (.sl (a0.Leaves.map eB)),.d (.sl (a0.Lasts.map (eI .i64))),.d (.sl (a0.Jobs.map Job.enc)),.d (.sl (a0.Log.map Entry.enc))]),(5,[.nil,.nil,.nil,.nil,.nil])],[]⟩) h (fun k1 hk1 h=>?_) (fun w1 h=>?_)
  · conv=>whnf
    refine caS (E:=E_Bool) h (part_Right_w a0) rfl (fun _=>rfl) (fun x2 h=>?_)
    conv=>whnf
    refine fkS h (fun h=>?_) (fun h=>?_)
    · conv=>whnf
      exact jeS hk1 h (Weak.refl _)
    conv=>whnf
    refine fkS h (fun h=>?_) (fun h=>?_)
    · conv=>whnf
      exact jeS hk1 h (Weak.refl _)
    conv=>whnf
    refine lenS a0.Tasks Task.enc rfl ?_
    conv=>whnf
    exact jeS hk1 h (Weak.refl _)
  conv=>whnf
  refine fkS h (fun h=>?_) (fun h=>?_)
  · conv=>whnf
    exact rt (E:=E_PartState_Int) h rfl
  conv=>whnf
  refine ixS (enc:=eB) h rfl (fun _=>rfl) (fun x3 h=>?_)
  conv=>whnf
  refine fkS h (fun h=>?_) (fun h=>?_)
  · conv=>whnf
    exact rt (E:=E_PartState_Int) h rfl
  conv=>whnf
  refine liS ([]:List Bool) eB rfl rfl ?_
  conv=>whnf
  refine apS (enc:=eB) (l1:=([]:List Bool)) (l2:=a0.Leaves) h rfl rfl (fun _=>rfl) (fun h=>?_)
  conv=>whnf
  refine ioS (enc:=eB) h rfl (fun h=>?_)
  conv=>whnf
  refine seS (enc:=eB) h rfl (fun x4=>true) (fun _=>rfl) (fun x4 h=>?_)
  conv=>whnf
  exact rt (E:=E_PartState_Int) h rfl

end Go.Proofs.YtldlcdnhdedoeaaGreat
namespace Go.Proofs.YtldlcdnhdedoeaaGreat
open Go Go.VC
noncomputable def admit_Drop (a0:PartState) (a1:Int):Option (PartState×Int):=
  bnd (part_Leave a0 a1) fun x1=>some (x1.1,x1.2)
theorem admit_Drop_w (a0:PartState) (a1:Int) (r:PartState×Int) (h:admit_Drop a0 a1=some r):Go.VC.Spec Tryz.prog 32 [.agg (PartState.enc a0),.d (.int .i64 a1)] (fun y=>y=E_PartState_Int r):=by
  refine Go.VC.Spec.of_xc (args:=[.agg (PartState.enc a0),.d (.int .i64 a1)]) (fn:=Tryz.f32) tab ⟨[(0,[1,2,4]),(1,[4,5])],[],[],[]⟩ 11 [.cell 4 51,.tmp 5] rfl rfl rfl rfl rfl rfl ?_
  conv=>whnf
  refine ccS (E:=E_PartState_Int) h (part_Leave_w a0 a1) rfl rfl (fun x1 h=>?_)
  conv=>whnf
  exact rt (E:=E_PartState_Int) h rfl

end Go.Proofs.YtldlcdnhdedoeaaGreat
namespace Go.Proofs.YtldlcdnhdedoeaaGreat
open Go Go.VC
noncomputable def kernel_kinds_3 (a0:PartState) (a1:Face) (a2:KernelCmd) (a3:Int):Option (PartState×Int):=
  bnd (admit_Drop a0 a2.I) fun x1=>some (x1.1,x1.2)
theorem kernel_kinds_3_w (a0:PartState) (a1:Face) (a2:KernelCmd) (a3:Int) (r:PartState×Int) (h:kernel_kinds_3 a0 a1 a2 a3=some r):Go.VC.Spec Tryz.prog 128 [.agg (PartState.enc a0),.agg (Face.enc a1),.agg (KernelCmd.enc a2),.d (.int .i64 a3)] (fun y=>y=E_PartState_Int r):=by
  refine Go.VC.Spec.of_xc (args:=[.agg (PartState.enc a0),.agg (Face.enc a1),.agg (KernelCmd.enc a2),.d (.int .i64 a3)]) (fn:=Tryz.f128) tab ⟨[(0,[4,6,8]),(1,[8,9])],[],[],[]⟩ 16 [.cell 8 51,.tmp 9] rfl rfl rfl rfl rfl rfl ?_
  conv=>whnf
  refine ccS (E:=E_PartState_Int) h (admit_Drop_w a0 a2.I) rfl rfl (fun x1 h=>?_)
  conv=>whnf
  exact rt (E:=E_PartState_Int) h rfl

end Go.Proofs.YtldlcdnhdedoeaaGreat
namespace Go.Proofs.YtldlcdnhdedoeaaGreat
open Go Go.VC
noncomputable def kernel_on_1_2 (a0:KernelState) (a1:KernelCmd):Option (KernelState×Int×Int):=
  ix a0.Parts a1.Part fun x1=>ix a0.Faces a1.Part fun x2=>bnd (kernel_kinds_3 x1 x2 a1 a0.Now) fun x3=>bnd (kernel_State_with a0 a1.Part x3.1) fun x4=>some (x4,(0:Int),x3.2)
theorem kernel_on_1_2_w (a0:KernelState) (a1:KernelCmd) (r:KernelState×Int×Int) (h:kernel_on_1_2 a0 a1=some r):Go.VC.Spec Tryz.prog 158 [.agg (KernelState.enc a0),.agg (KernelCmd.enc a1),.dp [.fn 128 []]] (fun y=>y=E_KernelState_Int_Int r):=by
  refine Go.VC.Spec.of_xc (args:=[.agg (KernelState.enc a0),.agg (KernelCmd.enc a1),.dp [.fn 128 []]]) (fn:=Tryz.f158) tab ⟨[(0,[2,3,4,5]),(1,[3,4,5,8,9]),(2,[5,6,7])],[],[],[]⟩ 36 [.cell 5 35,.tmp 6,.tmp 7] rfl rfl rfl rfl rfl rfl ?_
  conv=>whnf
  refine⟨22,?_⟩
  conv=>whnf
  refine ixS (enc:=PartState.enc) h rfl (fun _=>rfl) (fun x1 h=>?_)
  conv=>whnf
  refine ixS (enc:=Face.enc) h rfl (fun _=>rfl) (fun x2 h=>?_)
  conv=>whnf
  refine dcS (E:=E_PartState_Int) h (kernel_kinds_3_w x1 x2 a1 a0.Now) rfl (fun x3 h=>?_)
  conv=>whnf
  refine drS (by kernel_rfl) ?_
  conv=>whnf
  refine ccS (E:=E_KernelState) h (kernel_State_with_w a0 a1.Part x3.1) rfl rfl (fun x4 h=>?_)
  conv=>whnf
  exact rt (E:=E_KernelState_Int_Int) h rfl

end Go.Proofs.YtldlcdnhdedoeaaGreat
namespace Go.Proofs.YtldlcdnhdedoeaaGreat
open Go Go.VC
noncomputable def admit_Change (a0:PartState) (a1:Face) (a2:Int) (a3:Task):Option (PartState×Int):=
  bnd (admit_Drop a0 a2) fun x1=>fk (!decide (x1.2=(0:Int))) (some (a0,x1.2)) (bnd (admit_Add x1.1 a1 a3) fun x2=>fk (!decide (x2.2=(0:Int))) (some (a0,x2.2)) (some (x2.1,(0:Int))))
theorem admit_Change_w (a0:PartState) (a1:Face) (a2:Int) (a3:Task) (r:PartState×Int) (h:admit_Change a0 a1 a2 a3=some r):Go.VC.Spec Tryz.prog 33 [.agg (PartState.enc a0),.agg (Face.enc a1),.d (.int .i64 a2),.agg (Task.enc a3)] (fun y=>y=E_PartState_Int r):=by
  refine Go.VC.Spec.of_xc (args:=[.agg (PartState.enc a0),.agg (Face.enc a1),.d (.int .i64 a2),.agg (Task.enc a3)]) (fn:=Tryz.f33) tab ⟨[(0,[2,4,5,7,8]),(1,[4,5,7,8,10,11]),(2,[4,5,7,8,10,11,19]),(3,[8,9]),(4,[4,8,10,11]),(5,[4,8,10,11,30]),(6,[8,9]),(7,[8,9])],[],[],[]⟩ 34 [.cell 8 51,.tmp 9] rfl rfl rfl rfl rfl rfl ?_
  conv=>whnf
  refine ccS (E:=E_PartState_Int) h (admit_Drop_w a0 a2) rfl rfl (fun x1 h=>?_)
  conv=>whnf
  refine fkS h (fun h=>?_) (fun h=>?_)
  · conv=>whnf
    exact rt (E:=E_PartState_Int) h rfl
  conv=>whnf
  refine ccS (E:=E_PartState_Int) h (admit_Add_w x1.1 a1 a3) rfl rfl (fun x2 h=>?_)
  conv=>whnf
  refine fkS h (fun h=>?_) (fun h=>?_)
  · conv=>whnf
    exact rt (E:=E_PartState_Int) h rfl
  conv=>whnf
  exact rt (E:=E_PartState_Int) h rfl

end Go.Proofs.YtldlcdnhdedoeaaGreat
namespace Go.Proofs.YtldlcdnhdedoeaaGreat
open Go Go.VC
noncomputable def kernel_kinds_4 (a0:PartState) (a1:Face) (a2:KernelCmd) (a3:Int):Option (PartState×Int):=
  bnd (admit_Change a0 a1 a2.I a2.T) fun x1=>some (x1.1,x1.2)
theorem kernel_kinds_4_w (a0:PartState) (a1:Face) (a2:KernelCmd) (a3:Int) (r:PartState×Int) (h:kernel_kinds_4 a0 a1 a2 a3=some r):Go.VC.Spec Tryz.prog 129 [.agg (PartState.enc a0),.agg (Face.enc a1),.agg (KernelCmd.enc a2),.d (.int .i64 a3)] (fun y=>y=E_PartState_Int r):=by
  refine Go.VC.Spec.of_xc (args:=[.agg (PartState.enc a0),.agg (Face.enc a1),.agg (KernelCmd.enc a2),.d (.int .i64 a3)]) (fn:=Tryz.f129) tab ⟨[(0,[4,5,6,8]),(1,[8,9])],[],[],[]⟩ 19 [.cell 8 51,.tmp 9] rfl rfl rfl rfl rfl rfl ?_
  conv=>whnf
  refine ccS (E:=E_PartState_Int) h (admit_Change_w a0 a1 a2.I a2.T) rfl rfl (fun x1 h=>?_)
  conv=>whnf
  exact rt (E:=E_PartState_Int) h rfl

end Go.Proofs.YtldlcdnhdedoeaaGreat
namespace Go.Proofs.YtldlcdnhdedoeaaGreat
open Go Go.VC
noncomputable def kernel_on_1_3 (a0:KernelState) (a1:KernelCmd):Option (KernelState×Int×Int):=
  ix a0.Parts a1.Part fun x1=>ix a0.Faces a1.Part fun x2=>bnd (kernel_kinds_4 x1 x2 a1 a0.Now) fun x3=>bnd (kernel_State_with a0 a1.Part x3.1) fun x4=>some (x4,(0:Int),x3.2)
theorem kernel_on_1_3_w (a0:KernelState) (a1:KernelCmd) (r:KernelState×Int×Int) (h:kernel_on_1_3 a0 a1=some r):Go.VC.Spec Tryz.prog 158 [.agg (KernelState.enc a0),.agg (KernelCmd.enc a1),.dp [.fn 129 []]] (fun y=>y=E_KernelState_Int_Int r):=by
  refine Go.VC.Spec.of_xc (args:=[.agg (KernelState.enc a0),.agg (KernelCmd.enc a1),.dp [.fn 129 []]]) (fn:=Tryz.f158) tab ⟨[(0,[2,3,4,5]),(1,[3,4,5,8,9]),(2,[5,6,7])],[],[],[]⟩ 36 [.cell 5 35,.tmp 6,.tmp 7] rfl rfl rfl rfl rfl rfl ?_
  conv=>whnf
  refine⟨22,?_⟩
  conv=>whnf
  refine ixS (enc:=PartState.enc) h rfl (fun _=>rfl) (fun x1 h=>?_)
  conv=>whnf
  refine ixS (enc:=Face.enc) h rfl (fun _=>rfl) (fun x2 h=>?_)
  conv=>whnf
  refine dcS (E:=E_PartState_Int) h (kernel_kinds_4_w x1 x2 a1 a0.Now) rfl (fun x3 h=>?_)
  conv=>whnf
  refine drS (by kernel_rfl) ?_
  conv=>whnf
  refine ccS (E:=E_KernelState) h (kernel_State_with_w a0 a1.Part x3.1) rfl rfl (fun x4 h=>?_)
  conv=>whnf
  exact rt (E:=E_KernelState_Int_Int) h rfl

end Go.Proofs.YtldlcdnhdedoeaaGreat
namespace Go.Proofs.YtldlcdnhdedoeaaGreat
open Go Go.VC
noncomputable def ring_at (a0:RingRing) (a1:Int):Option Int:=
  ck (decide ((a0.Buf.length:Int)≠0)) (some ((wr (a0.First+a1)).tmod (a0.Buf.length:Int)))
theorem ring_at_w (a0:RingRing) (a1:Int) (r:Int) (h:ring_at a0 a1=some r):Go.VC.Spec Tryz.prog 96 [.agg (RingRing.enc a0),.d (.int .i64 a1)] (fun y=>y=E_Int r):=by
  refine Go.VC.Spec.of_xc (args:=[.agg (RingRing.enc a0),.d (.int .i64 a1)]) (fn:=Tryz.f96) tab ⟨[(0,[1,2]),(1,[4])],[],[],[]⟩ 13 [.tmp 4] rfl rfl rfl rfl rfl rfl ?_
  conv=>whnf
  refine lenS a0.Buf (eI .i64) rfl ?_
  conv=>whnf
  refine dvS h (fun h=>?_)
  conv=>whnf
  exact rt (E:=E_Int) h rfl

end Go.Proofs.YtldlcdnhdedoeaaGreat
namespace Go.Proofs.YtldlcdnhdedoeaaGreat
open Go Go.VC
noncomputable def ring_Push (a0:RingRing) (a1:Int):Option (RingRing×Int):=
  bnd (ring_Right a0) fun x1=>fk (!x1) (some (a0,(1:Int))) (fk (decide (a0.Many=(a0.Buf.length:Int))) (some (a0,(3:Int))) (ck (decide ((([]:List Int).length+a0.Buf.length)*8≤140737488355328)) (bnd (ring_at ⟨([]:List Int)++a0.Buf,a0.First,a0.Many⟩ a0.Many) fun x2=>ck (decide (0≤x2) && decide (x2<((([]:List Int)++a0.Buf).length:Int))) (ox (([]:List Int)++a0.Buf) x2.toNat fun x3=>some (⟨(([]:List Int)++a0.Buf).set x2.toNat a1,a0.First,(wr (a0.Many+(1:Int)))⟩,(0:Int))))))
theorem ring_Push_w (a0:RingRing) (a1:Int) (r:RingRing×Int) (h:ring_Push a0 a1=some r):Go.VC.Spec Tryz.prog 79 [.agg (RingRing.enc a0),.d (.int .i64 a1)] (fun y=>y=E_RingRing_Int r):=by
  refine Go.VC.Spec.of_xc (args:=[.agg (RingRing.enc a0),.d (.int .i64 a1)]) (fn:=Tryz.f79) tab ⟨[(0,[1,2,4]),(1,[1,2,4,6]),(2,[4,5]),(3,[1,2,4,11]),(4,[4,5]),(5,[1,2,4]),(6,[2,4]),(7,[2,4]),(8,[4,5])],[],[],[]⟩ 34 [.cell 4 93,.tmp 5] rfl rfl rfl rfl rfl rfl ?_
  conv=>whnf
  refine caS (E:=E_Bool) h (ring_Right_w a0) rfl (fun _=>rfl) (fun x1 h=>?_)
  conv=>whnf
  refine fkS h (fun h=>?_) (fun h=>?_)
  · conv=>whnf
    exact rt (E:=E_RingRing_Int) h rfl
  conv=>whnf
  refine lenS a0.Buf (eI .i64) rfl ?_
  conv=>whnf
  refine fkS h (fun h=>?_) (fun h=>?_)
  · conv=>whnf
    exact rt (E:=E_RingRing_Int) h rfl
  conv=>whnf
  refine inS (fn:=Tryz.f133) tab ⟨[(0,[1,2]),(1,[1,2]),(2,[2])],[],[],[]⟩ 9 [.cell 2 93] rfl rfl rfl rfl rfl rfl ?_
  conv=>whnf
  refine liS ([]:List Int) (eI .i64) rfl rfl ?_
  conv=>whnf
  refine apS (enc:=(eI .i64)) (l1:=([]:List Int)) (l2:=a0.Buf) h rfl rfl (fun _=>rfl) (fun h=>?_)
  conv=>whnf
  refine⟨7,?_⟩
  conv=>whnf
  refine daS (E:=E_Int) h (ring_at_w ⟨([]:List Int)++a0.Buf,a0.First,a0.Many⟩ a0.Many) (fun _=>rfl) (fun x2 h=>?_)
  conv=>whnf
  refine drS (by kernel_rfl) ?_
  conv=>whnf
  refine ioS (enc:=(eI .i64)) h rfl (fun h=>?_)
  conv=>whnf
  refine seS (enc:=(eI .i64)) h rfl (fun x3=>a1) (fun _=>rfl) (fun x3 h=>?_)
  conv=>whnf
  exact rt (E:=E_RingRing_Int) h rfl

end Go.Proofs.YtldlcdnhdedoeaaGreat
namespace Go.Proofs.YtldlcdnhdedoeaaGreat
open Go Go.VC
noncomputable def port_with (a0:List PortLine) (a1:Int) (a2:PortLine):Option (List PortLine):=
  ck (decide ((([]:List PortLine).length+a0.length)*104≤140737488355328)) (ck (decide (0≤a1) && decide (a1<((([]:List PortLine)++a0).length:Int))) (ox (([]:List PortLine)++a0) a1.toNat fun x1=>some ((([]:List PortLine)++a0).set a1.toNat a2)))
theorem port_with_w (a0:List PortLine) (a1:Int) (a2:PortLine) (r:List PortLine) (h:port_with a0 a1 a2=some r):Go.VC.Spec Tryz.prog 80 [.d (.sl (a0.map PortLine.enc)),.d (.int .i64 a1),.agg (PortLine.enc a2)] (fun y=>y=E_ListPortLine r):=by
  refine Go.VC.Spec.of_xc (args:=[.d (.sl (a0.map PortLine.enc)),.d (.int .i64 a1),.agg (PortLine.enc a2)]) (fn:=Tryz.f80) tab ⟨[(0,[0,1,5]),(1,[1,5,7]),(2,[7]),(3,[6])],[],[],[]⟩ 16 [.tmp 6] rfl rfl rfl rfl rfl rfl ?_
  conv=>whnf
  refine liS ([]:List PortLine) PortLine.enc rfl rfl ?_
  conv=>whnf
  refine apS (enc:=PortLine.enc) (l1:=([]:List PortLine)) (l2:=a0) h rfl rfl (fun _=>rfl) (fun h=>?_)
  conv=>whnf
  refine ioS (enc:=PortLine.enc) h rfl (fun h=>?_)
  conv=>whnf
  refine seS (enc:=PortLine.enc) h rfl (fun x1=>a2) (fun _=>rfl) (fun x1 h=>?_)
  conv=>whnf
  exact rt (E:=E_ListPortLine) h rfl

end Go.Proofs.YtldlcdnhdedoeaaGreat
namespace Go.Proofs.YtldlcdnhdedoeaaGreat
open Go Go.VC
noncomputable def port_Send (a0:List PortLine) (a1:Int) (a2:Int) (a3:Int):Option ((List PortLine)×Int):=
  bnd (port_Right a0) fun x1=>fk (!x1) (some (a0,(1:Int))) (jn (fun (w2:Bool)=>fk w2 (some (a0,(4:Int))) (ix a0 a2 fun x3=>fk (!decide (x3.Port.From=a1)) (some (a0,(7:Int))) (ix a0 a2 fun x4=>bnd (ring_Push x4.Under a3) fun x5=>fk (!decide (x5.2=(0:Int))) (some (a0,x5.2)) (bnd (port_with a0 a2 ⟨x4.Port,x5.1,x4.Got⟩) fun x6=>some (x6,(0:Int)))))) (fun k2=>fk (decide (a2<(0:Int))) (k2 true) (k2 (decide (a2≥(a0.length:Int))))))
theorem port_Send_w (a0:List PortLine) (a1:Int) (a2:Int) (a3:Int) (r:(List PortLine)×Int) (h:port_Send a0 a1 a2 a3=some r):Go.VC.Spec Tryz.prog 29 [.d (.sl (a0.map PortLine.enc)),.d (.int .i64 a1),.d (.int .i64 a2),.d (.int .i64 a3)] (fun y=>y=E_ListPortLine_Int r):=by
  refine Go.VC.Spec.of_xc (args:=[.d (.sl (a0.map PortLine.enc)),.d (.int .i64 a1),.d (.int .i64 a2),.d (.int .i64 a3)]) (fn:=Tryz.f29) tab ⟨[(0,[0,1,2,3]),(1,[0,1,2,3,13]),(2,[8,9]),(3,[0,1,2,3,18]),(4,[8,9]),(5,[0,2,3,28]),(6,[8,9]),(7,[0,2,3,10]),(8,[0,2,10,11,12]),(9,[0,2,10,11,12,50]),(10,[8,9]),(11,[0,2,10]),(12,[8,9])],[],[100018],[]⟩ 59 [.tmp 8,.tmp 9] rfl rfl rfl rfl rfl rfl ?_
  conv=>whnf
  refine caS (E:=E_Bool) h (port_Right_w a0) rfl (fun _=>rfl) (fun x1 h=>?_)
  conv=>whnf
  refine fkS h (fun h=>?_) (fun h=>?_)
  · conv=>whnf
    exact rt (E:=E_ListPortLine_Int) h rfl
  conv=>whnf
  refine jnS (fun w2=>⟨[(0,.l (.d (.sl (a0.map PortLine.enc)))),(1,.l (.d (.int .i64 a1))),(2,.l (.d (.int .i64 a2))),(3,.l (.d (.int .i64 a3))),(18,.l (.d (.bool w2)))],59,[],[],[]⟩) h (fun k2 hk2 h=>?_) (fun w2 h=>?_)
  · conv=>whnf
    refine fkS h (fun h=>?_) (fun h=>?_)
    · conv=>whnf
      exact jeS hk2 h (Weak.refl _)
    conv=>whnf
    refine lenS a0 PortLine.enc rfl ?_
    conv=>whnf
    exact jeS hk2 h (Weak.refl _)
  conv=>whnf
  refine fkS h (fun h=>?_) (fun h=>?_)
  · conv=>whnf
    exact rt (E:=E_ListPortLine_Int) h rfl
  conv=>whnf
  refine ixS (enc:=PortLine.enc) h rfl (fun _=>rfl) (fun x3 h=>?_)
  conv=>whnf
  refine fkS h (fun h=>?_) (fun h=>?_)
  · conv=>whnf
    exact rt (E:=E_ListPortLine_Int) h rfl
  conv=>whnf
  refine ixS (enc:=PortLine.enc) h rfl (fun _=>rfl) (fun x4 h=>?_)
  conv=>whnf
  refine ccS (E:=E_RingRing_Int) h (ring_Push_w x4.Under a3) rfl rfl (fun x5 h=>?_)
  conv=>whnf
  refine fkS h (fun h=>?_) (fun h=>?_)
  · conv=>whnf
    exact rt (E:=E_ListPortLine_Int) h rfl
  conv=>whnf
  refine ccS (E:=E_ListPortLine) h (port_with_w a0 a2 ⟨x4.Port,x5.1,x4.Got⟩) rfl rfl (fun x6 h=>?_)
  conv=>whnf
  exact rt (E:=E_ListPortLine_Int) h rfl

end Go.Proofs.YtldlcdnhdedoeaaGreat
namespace Go.Proofs.YtldlcdnhdedoeaaGreat
open Go Go.VC
noncomputable def kernel_kinds_5 (a0:KernelState) (a1:KernelCmd):Option (KernelState×Int×Int):=
  bnd (port_Send a0.Lines a1.Part a1.I a1.V) fun x1=>some (⟨a0.Table,a0.Faces,a0.Parts,x1.1,a0.Now⟩,(0:Int),x1.2)
theorem kernel_kinds_5_w (a0:KernelState) (a1:KernelCmd) (r:KernelState×Int×Int) (h:kernel_kinds_5 a0 a1=some r):Go.VC.Spec Tryz.prog 130 [.agg (KernelState.enc a0),.agg (KernelCmd.enc a1)] (fun y=>y=E_KernelState_Int_Int r):=by
  refine Go.VC.Spec.of_xc (args:=[.agg (KernelState.enc a0),.agg (KernelCmd.enc a1)]) (fn:=Tryz.f130) tab ⟨[(0,[2,3,4]),(1,[2,4,7,8]),(2,[2,4,8]),(3,[4,5,6])],[],[],[]⟩ 25 [.cell 4 35,.tmp 5,.tmp 6] rfl rfl rfl rfl rfl rfl ?_
  conv=>whnf
  refine ccS (E:=E_ListPortLine_Int) h (port_Send_w a0.Lines a1.Part a1.I a1.V) rfl rfl (fun x1 h=>?_)
  conv=>whnf
  exact rt (E:=E_KernelState_Int_Int) h rfl

end Go.Proofs.YtldlcdnhdedoeaaGreat
namespace Go.Proofs.YtldlcdnhdedoeaaGreat
open Go Go.VC
noncomputable def ring_own (a0:RingRing):Option RingRing:=
  ck (decide ((([]:List Int).length+a0.Buf.length)*8≤140737488355328)) (some ⟨([]:List Int)++a0.Buf,a0.First,a0.Many⟩)
theorem ring_own_w (a0:RingRing) (r:RingRing) (h:ring_own a0=some r):Go.VC.Spec Tryz.prog 133 [.agg (RingRing.enc a0)] (fun y=>y=E_RingRing r):=by
  refine Go.VC.Spec.of_xc (args:=[.agg (RingRing.enc a0)]) (fn:=Tryz.f133) tab ⟨[(0,[1,2]),(1,[1,2]),(2,[2])],[],[],[]⟩ 9 [.cell 2 93] rfl rfl rfl rfl rfl rfl ?_
  conv=>whnf
  refine liS ([]:List Int) (eI .i64) rfl rfl ?_
  conv=>whnf
  refine apS (enc:=(eI .i64)) (l1:=([]:List Int)) (l2:=a0.Buf) h rfl rfl (fun _=>rfl) (fun h=>?_)
  conv=>whnf
  exact rt (E:=E_RingRing) h rfl

end Go.Proofs.YtldlcdnhdedoeaaGreat
namespace Go.Proofs.YtldlcdnhdedoeaaGreat
open Go Go.VC
noncomputable def ring_Pop (a0:RingRing):Option (Int×RingRing×Int):=
  bnd (ring_Right a0) fun x1=>fk (!x1) (some ((0:Int),a0,(1:Int))) (fk (decide (a0.Many=(0:Int))) (some ((0:Int),a0,(4:Int))) (bnd (ring_own a0) fun x2=>ix x2.Buf x2.First fun x3=>bnd (ring_at x2 (1:Int)) fun x4=>some (x3,⟨x2.Buf,x4,(wr (x2.Many-(1:Int)))⟩,(0:Int))))
theorem ring_Pop_w (a0:RingRing) (r:Int×RingRing×Int) (h:ring_Pop a0=some r):Go.VC.Spec Tryz.prog 81 [.agg (RingRing.enc a0)] (fun y=>y=E_Int_RingRing_Int r):=by
  refine Go.VC.Spec.of_xc (args:=[.agg (RingRing.enc a0)]) (fn:=Tryz.f81) tab ⟨[(0,[1,3]),(1,[1,3,6]),(2,[2,3,4]),(3,[1,3,11]),(4,[2,3,4]),(5,[1,3]),(6,[1,3,5]),(7,[1,3,5]),(8,[1,3,5]),(9,[2,3,4])],[],[],[]⟩ 33 [.tmp 2,.cell 3 93,.tmp 4] rfl rfl rfl rfl rfl rfl ?_
  conv=>whnf
  refine caS (E:=E_Bool) h (ring_Right_w a0) rfl (fun _=>rfl) (fun x1 h=>?_)
  conv=>whnf
  refine fkS h (fun h=>?_) (fun h=>?_)
  · conv=>whnf
    refine⟨2,?_⟩
    conv=>whnf
    refine drS (by kernel_rfl) ?_
    conv=>whnf
    exact rt (E:=E_Int_RingRing_Int) h rfl
  conv=>whnf
  refine fkS h (fun h=>?_) (fun h=>?_)
  · conv=>whnf
    refine⟨2,?_⟩
    conv=>whnf
    refine drS (by kernel_rfl) ?_
    conv=>whnf
    exact rt (E:=E_Int_RingRing_Int) h rfl
  conv=>whnf
  refine ccS (E:=E_RingRing) h (ring_own_w a0) rfl rfl (fun x2 h=>?_)
  conv=>whnf
  refine ixS (enc:=(eI .i64)) h rfl (fun _=>rfl) (fun x3 h=>?_)
  conv=>whnf
  refine caS (E:=E_Int) h (ring_at_w x2 (1:Int)) rfl (fun _=>rfl) (fun x4 h=>?_)
  conv=>whnf
  refine⟨3,?_⟩
  conv=>whnf
  refine drS (by kernel_rfl) ?_
  conv=>whnf
  exact rt (E:=E_Int_RingRing_Int) h rfl

end Go.Proofs.YtldlcdnhdedoeaaGreat
namespace Go.Proofs.YtldlcdnhdedoeaaGreat
open Go Go.VC
noncomputable def port_Read (a0:List PortLine) (a1:Int) (a2:Int):Option (Int×(List PortLine)×Int):=
  bnd (port_Right a0) fun x1=>fk (!x1) (some ((0:Int),a0,(1:Int))) (jn (fun (w2:Bool)=>fk w2 (some ((0:Int),a0,(4:Int))) (ix a0 a2 fun x3=>fk (!decide (x3.Port.To=a1)) (some ((0:Int),a0,(7:Int))) (ix a0 a2 fun x4=>bnd (ring_Pop x4.Got) fun x5=>fk (!decide (x5.2.2=(0:Int))) (some ((0:Int),a0,x5.2.2)) (bnd (port_with a0 a2 ⟨x4.Port,x4.Under,x5.2.1⟩) fun x6=>some (x5.1,x6,(0:Int)))))) (fun k2=>fk (decide (a2<(0:Int))) (k2 true) (k2 (decide (a2≥(a0.length:Int))))))
theorem port_Read_w (a0:List PortLine) (a1:Int) (a2:Int) (r:Int×(List PortLine)×Int) (h:port_Read a0 a1 a2=some r):Go.VC.Spec Tryz.prog 30 [.d (.sl (a0.map PortLine.enc)),.d (.int .i64 a1),.d (.int .i64 a2)] (fun y=>y=E_Int_ListPortLine_Int r):=by
  refine Go.VC.Spec.of_xc (args:=[.d (.sl (a0.map PortLine.enc)),.d (.int .i64 a1),.d (.int .i64 a2)]) (fn:=Tryz.f30) tab ⟨[(0,[0,1,2]),(1,[0,1,2,13]),(2,[6,7,8]),(3,[0,1,2,18]),(4,[6,7,8]),(5,[0,2,28]),(6,[6,7,8]),(7,[0,2,9]),(8,[0,2,9,10,11,12]),(9,[0,2,9,10,11,12,50]),(10,[6,7,8]),(11,[0,2,9,10]),(12,[6,7,8])],[],[100018],[]⟩ 60 [.tmp 6,.tmp 7,.tmp 8] rfl rfl rfl rfl rfl rfl ?_
  conv=>whnf
  refine caS (E:=E_Bool) h (port_Right_w a0) rfl (fun _=>rfl) (fun x1 h=>?_)
  conv=>whnf
  refine fkS h (fun h=>?_) (fun h=>?_)
  · conv=>whnf
    exact rt (E:=E_Int_ListPortLine_Int) h rfl
  conv=>whnf
  refine jnS (fun w2=>⟨[(0,.l (.d (.sl (a0.map PortLine.enc)))),(1,.l (.d (.int .i64 a1))),(2,.l (.d (.int .i64 a2))),(18,.l (.d (.bool w2)))],60,[],[],[]⟩) h (fun k2 hk2 h=>?_) (fun w2 h=>?_)
  · conv=>whnf
    refine fkS h (fun h=>?_) (fun h=>?_)
    · conv=>whnf
      exact jeS hk2 h (Weak.refl _)
    conv=>whnf
    refine lenS a0 PortLine.enc rfl ?_
    conv=>whnf
    exact jeS hk2 h (Weak.refl _)
  conv=>whnf
  refine fkS h (fun h=>?_) (fun h=>?_)
  · conv=>whnf
    exact rt (E:=E_Int_ListPortLine_Int) h rfl
  conv=>whnf
  refine ixS (enc:=PortLine.enc) h rfl (fun _=>rfl) (fun x3 h=>?_)
  conv=>whnf
  refine fkS h (fun h=>?_) (fun h=>?_)
  · conv=>whnf
    exact rt (E:=E_Int_ListPortLine_Int) h rfl
  conv=>whnf
  refine ixS (enc:=PortLine.enc) h rfl (fun _=>rfl) (fun x4 h=>?_)
  conv=>whnf
  refine ccS (E:=E_Int_RingRing_Int) h (ring_Pop_w x4.Got) rfl rfl (fun x5 h=>?_)
  conv=>whnf
  refine fkS h (fun h=>?_) (fun h=>?_)
  · conv=>whnf
    exact rt (E:=E_Int_ListPortLine_Int) h rfl
  conv=>whnf
  refine ccS (E:=E_ListPortLine) h (port_with_w a0 a2 ⟨x4.Port,x4.Under,x5.2.1⟩) rfl rfl (fun x6 h=>?_)
  conv=>whnf
  exact rt (E:=E_Int_ListPortLine_Int) h rfl

end Go.Proofs.YtldlcdnhdedoeaaGreat
namespace Go.Proofs.YtldlcdnhdedoeaaGreat
open Go Go.VC
noncomputable def kernel_kinds_6 (a0:KernelState) (a1:KernelCmd):Option (KernelState×Int×Int):=
  bnd (port_Read a0.Lines a1.Part a1.I) fun x1=>some (⟨a0.Table,a0.Faces,a0.Parts,x1.2.1,a0.Now⟩,x1.1,x1.2.2)
theorem kernel_kinds_6_w (a0:KernelState) (a1:KernelCmd) (r:KernelState×Int×Int) (h:kernel_kinds_6 a0 a1=some r):Go.VC.Spec Tryz.prog 131 [.agg (KernelState.enc a0),.agg (KernelCmd.enc a1)] (fun y=>y=E_KernelState_Int_Int r):=by
  refine Go.VC.Spec.of_xc (args:=[.agg (KernelState.enc a0),.agg (KernelCmd.enc a1)]) (fn:=Tryz.f131) tab ⟨[(0,[2,3,4]),(1,[2,4,7,8,9]),(2,[2,4,7,9]),(3,[4,5,6])],[],[],[]⟩ 26 [.cell 4 35,.tmp 5,.tmp 6] rfl rfl rfl rfl rfl rfl ?_
  conv=>whnf
  refine ccS (E:=E_Int_ListPortLine_Int) h (port_Read_w a0.Lines a1.Part a1.I) rfl rfl (fun x1 h=>?_)
  conv=>whnf
  exact rt (E:=E_KernelState_Int_Int) h rfl

end Go.Proofs.YtldlcdnhdedoeaaGreat
namespace Go.Proofs.YtldlcdnhdedoeaaGreat
open Go Go.VC
noncomputable def kernel_Do (a0:KernelState) (a1:KernelCmd):Option (KernelState×Int×Int):=
  bnd (kernel_Right a0) fun x1=>fk (!x1) (some (a0,(0:Int),(1:Int))) (bnd kernel_kinds fun x2=>fk (decide (a1.Kind=(1:Int))) (jn (fun (w3:Bool)=>fk w3 (some (a0,(0:Int),(4:Int))) (bnd (kernel_on_1 a0 a1) fun x4=>some (x4.1,x4.2.1,x4.2.2))) (fun k3=>fk (decide (a1.Part<(0:Int))) (k3 true) (k3 (decide (a1.Part≥(a0.Parts.length:Int)))))) (fk (decide (a1.Kind=(4:Int))) (jn (fun (w5:Bool)=>fk w5 (some (a0,(0:Int),(4:Int))) (bnd (kernel_on_1_1 a0 a1) fun x6=>some (x6.1,x6.2.1,x6.2.2))) (fun k5=>fk (decide (a1.Part<(0:Int))) (k5 true) (k5 (decide (a1.Part≥(a0.Parts.length:Int)))))) (fk (decide (a1.Kind=(5:Int))) (jn (fun (w7:Bool)=>fk w7 (some (a0,(0:Int),(4:Int))) (bnd (kernel_on_1_2 a0 a1) fun x8=>some (x8.1,x8.2.1,x8.2.2))) (fun k7=>fk (decide (a1.Part<(0:Int))) (k7 true) (k7 (decide (a1.Part≥(a0.Parts.length:Int)))))) (fk (decide (a1.Kind=(6:Int))) (jn (fun (w9:Bool)=>fk w9 (some (a0,(0:Int),(4:Int))) (bnd (kernel_on_1_3 a0 a1) fun x10=>some (x10.1,x10.2.1,x10.2.2))) (fun k9=>fk (decide (a1.Part<(0:Int))) (k9 true) (k9 (decide (a1.Part≥(a0.Parts.length:Int)))))) (fk (decide (a1.Kind=(2:Int))) (jn (fun (w11:Bool)=>fk w11 (some (a0,(0:Int),(4:Int))) (bnd (kernel_kinds_5 a0 a1) fun x12=>some (x12.1,x12.2.1,x12.2.2))) (fun k11=>fk (decide (a1.Part<(0:Int))) (k11 true) (k11 (decide (a1.Part≥(a0.Parts.length:Int)))))) (fk (decide (a1.Kind=(3:Int))) (jn (fun (w13:Bool)=>fk w13 (some (a0,(0:Int),(4:Int))) (bnd (kernel_kinds_6 a0 a1) fun x14=>some (x14.1,x14.2.1,x14.2.2))) (fun k13=>fk (decide (a1.Part<(0:Int))) (k13 true) (k13 (decide (a1.Part≥(a0.Parts.length:Int)))))) (jn (fun (w15:Unit)=>some (a0,(0:Int),(4:Int))) (fun k15=>k15 ()))))))))
theorem kernel_Do_w (a0:KernelState) (a1:KernelCmd) (r:KernelState×Int×Int) (h:kernel_Do a0 a1=some r):Go.VC.Spec Tryz.prog 27 [.agg (KernelState.enc a0),.agg (KernelCmd.enc a1)] (fun y=>y=E_KernelState_Int_Int r):=by
  refine Go.VC.Spec.of_xc (args:=[.agg (KernelState.enc a0),.agg (KernelCmd.enc a1)]) (fn:=Tryz.f27) tab ⟨[(0,[2,3,4]),(1,[2,3,4,10]),(2,[4,5,6]),(3,[2,3,4,7]),(4,[2,3,4,7,30]),(5,[4,5,6]),(6,[4,5,6])],[],[100030],[]⟩ 39 [.cell 4 35,.tmp 5,.tmp 6] rfl rfl rfl rfl rfl rfl ?_
  conv=>whnf
  refine caS (E:=E_Bool) h (kernel_Right_w a0) rfl (fun _=>rfl) (fun x1 h=>?_)
  conv=>whnf
  refine fkS h (fun h=>?_) (fun h=>?_)
  · conv=>whnf
    exact rt (E:=E_KernelState_Int_Int) h rfl
  conv=>whnf
  refine⟨3,?_⟩
  conv=>whnf
  refine dcS (E:=E_fn_kernel_kinds) h kernel_kinds_w rfl (fun x2 h=>?_)
  conv=>whnf
  refine drS (by kernel_rfl) ?_
  conv=>whnf
  refine lkS (zv:=.nilFunc) (zd:=.nilfn) rfl rfl rfl rfl Tryz.underlying150 Tryz.underlying3 (by kernel_rfl) rfl ?_
  conv=>whnf
  refine fkS h (fun h=>?_) (fun h=>?_)
  · conv=>whnf
    refine jnS (fun w3=>⟨[(2,.l (.ptr 3 0)),(3,.l (.ptr 4 0)),(4,.l (.ptr 5 0)),(7,.l (.d (.fn 158 [[.fn 126 []]]))),(30,.l (.d (.bool w3)))],39,[],[(3,[.d (.int .i64 a0.Table.Frame),.d (.sl (a0.Table.Windows.map Window.enc)),.d (.sl (a0.Faces.map Face.enc)),.d (.sl (a0.Parts.map PartState.enc)),.d (.sl (a0.Lines.map PortLine.enc)),.d (.int .i64 a0.Now)]),(4,[.d (.int .i64 a1.Part),.d (.int .i64 a1.Kind),.d (.int .i64 a1.I),.d (.int .i64 a1.V),.d (.int .i64 a1.T.C),.d (.int .i64 a1.T.D),.d (.int .i64 a1.T.T),.d (.sl (a1.T.Secs.map Sec.enc))]),(5,[.d (.int .i64 (0:Int)),.nil,.nil,.nil,.nil,.d (.int .i64 (0:Int))])],[]⟩) h (fun k3 hk3 h=>?_) (fun w3 h=>?_)
    · conv=>whnf
      refine fnS rfl rfl rfl Tryz.underlying73 ?_
      conv=>whnf
      refine fkS h (fun h=>?_) (fun h=>?_)
      · conv=>whnf
        exact jeS hk3 h (Weak.refl _)
      conv=>whnf
      refine lenS a0.Parts PartState.enc rfl ?_
      conv=>whnf
      exact jeS hk3 h (Weak.refl _)
    conv=>whnf
    refine fkS h (fun h=>?_) (fun h=>?_)
    · conv=>whnf
      exact rt (E:=E_KernelState_Int_Int) h rfl
    conv=>whnf
    refine ccS (E:=E_KernelState_Int_Int) h (kernel_on_1_w a0 a1) rfl rfl (fun x4 h=>?_)
    conv=>whnf
    exact rt (E:=E_KernelState_Int_Int) h rfl
  conv=>whnf
  refine fkS h (fun h=>?_) (fun h=>?_)
  · conv=>whnf
    refine jnS (fun w5=>⟨[(2,.l (.ptr 3 0)),(3,.l (.ptr 4 0)),(4,.l (.ptr 5 0)),(7,.l (.d (.fn 158 [[.fn 127 []]]))),(30,.l (.d (.bool w5)))],39,[],[(3,[.d (.int .i64 a0.Table.Frame),.d (.sl (a0.Table.Windows.map Window.enc)),.d (.sl (a0.Faces.map Face.enc)),.d (.sl (a0.Parts.map PartState.enc)),.d (.sl (a0.Lines.map PortLine.enc)),.d (.int .i64 a0.Now)]),(4,[.d (.int .i64 a1.Part),.d (.int .i64 a1.Kind),.d (.int .i64 a1.I),.d (.int .i64 a1.V),.d (.int .i64 a1.T.C),.d (.int .i64 a1.T.D),.d (.int .i64 a1.T.T),.d (.sl (a1.T.Secs.map Sec.enc))]),(5,[.d (.int .i64 (0:Int)),.nil,.nil,.nil,.nil,.d (.int .i64 (0:Int))])],[]⟩) h (fun k5 hk5 h=>?_) (fun w5 h=>?_)
    · conv=>whnf
      refine fnS rfl rfl rfl Tryz.underlying73 ?_
      conv=>whnf
      refine fkS h (fun h=>?_) (fun h=>?_)
      · conv=>whnf
        exact jeS hk5 h (Weak.refl _)
      conv=>whnf
      refine lenS a0.Parts PartState.enc rfl ?_
      conv=>whnf
      exact jeS hk5 h (Weak.refl _)
    conv=>whnf
    refine fkS h (fun h=>?_) (fun h=>?_)
    · conv=>whnf
      exact rt (E:=E_KernelState_Int_Int) h rfl
    conv=>whnf
    refine ccS (E:=E_KernelState_Int_Int) h (kernel_on_1_1_w a0 a1) rfl rfl (fun x6 h=>?_)
    conv=>whnf
    exact rt (E:=E_KernelState_Int_Int) h rfl
  conv=>whnf
  refine fkS h (fun h=>?_) (fun h=>?_)
  · conv=>whnf
    refine jnS (fun w7=>⟨[(2,.l (.ptr 3 0)),(3,.l (.ptr 4 0)),(4,.l (.ptr 5 0)),(7,.l (.d (.fn 158 [[.fn 128 []]]))),(30,.l (.d (.bool w7)))],39,[],[(3,[.d (.int .i64 a0.Table.Frame),.d (.sl (a0.Table.Windows.map Window.enc)),.d (.sl (a0.Faces.map Face.enc)),.d (.sl (a0.Parts.map PartState.enc)),.d (.sl (a0.Lines.map PortLine.enc)),.d (.int .i64 a0.Now)]),(4,[.d (.int .i64 a1.Part),.d (.int .i64 a1.Kind),.d (.int .i64 a1.I),.d (.int .i64 a1.V),.d (.int .i64 a1.T.C),.d (.int .i64 a1.T.D),.d (.int .i64 a1.T.T),.d (.sl (a1.T.Secs.map Sec.enc))]),(5,[.d (.int .i64 (0:Int)),.nil,.nil,.nil,.nil,.d (.int .i64 (0:Int))])],[]⟩) h (fun k7 hk7 h=>?_) (fun w7 h=>?_)
    · conv=>whnf
      refine fnS rfl rfl rfl Tryz.underlying73 ?_
      conv=>whnf
      refine fkS h (fun h=>?_) (fun h=>?_)
      · conv=>whnf
        exact jeS hk7 h (Weak.refl _)
      conv=>whnf
      refine lenS a0.Parts PartState.enc rfl ?_
      conv=>whnf
      exact jeS hk7 h (Weak.refl _)
    conv=>whnf
    refine fkS h (fun h=>?_) (fun h=>?_)
    · conv=>whnf
      exact rt (E:=E_KernelState_Int_Int) h rfl
    conv=>whnf
    refine ccS (E:=E_KernelState_Int_Int) h (kernel_on_1_2_w a0 a1) rfl rfl (fun x8 h=>?_)
    conv=>whnf
    exact rt (E:=E_KernelState_Int_Int) h rfl
  conv=>whnf
  refine fkS h (fun h=>?_) (fun h=>?_)
  · conv=>whnf
    refine jnS (fun w9=>⟨[(2,.l (.ptr 3 0)),(3,.l (.ptr 4 0)),(4,.l (.ptr 5 0)),(7,.l (.d (.fn 158 [[.fn 129 []]]))),(30,.l (.d (.bool w9)))],39,[],[(3,[.d (.int .i64 a0.Table.Frame),.d (.sl (a0.Table.Windows.map Window.enc)),.d (.sl (a0.Faces.map Face.enc)),.d (.sl (a0.Parts.map PartState.enc)),.d (.sl (a0.Lines.map PortLine.enc)),.d (.int .i64 a0.Now)]),(4,[.d (.int .i64 a1.Part),.d (.int .i64 a1.Kind),.d (.int .i64 a1.I),.d (.int .i64 a1.V),.d (.int .i64 a1.T.C),.d (.int .i64 a1.T.D),.d (.int .i64 a1.T.T),.d (.sl (a1.T.Secs.map Sec.enc))]),(5,[.d (.int .i64 (0:Int)),.nil,.nil,.nil,.nil,.d (.int .i64 (0:Int))])],[]⟩) h (fun k9 hk9 h=>?_) (fun w9 h=>?_)
    · conv=>whnf
      refine fnS rfl rfl rfl Tryz.underlying73 ?_
      conv=>whnf
      refine fkS h (fun h=>?_) (fun h=>?_)
      · conv=>whnf
        exact jeS hk9 h (Weak.refl _)
      conv=>whnf
      refine lenS a0.Parts PartState.enc rfl ?_
      conv=>whnf
      exact jeS hk9 h (Weak.refl _)
    conv=>whnf
    refine fkS h (fun h=>?_) (fun h=>?_)
    · conv=>whnf
      exact rt (E:=E_KernelState_Int_Int) h rfl
    conv=>whnf
    refine ccS (E:=E_KernelState_Int_Int) h (kernel_on_1_3_w a0 a1) rfl rfl (fun x10 h=>?_)
    conv=>whnf
    exact rt (E:=E_KernelState_Int_Int) h rfl
  conv=>whnf
  refine fkS h (fun h=>?_) (fun h=>?_)
  · conv=>whnf
    refine jnS (fun w11=>⟨[(2,.l (.ptr 3 0)),(3,.l (.ptr 4 0)),(4,.l (.ptr 5 0)),(7,.l (.d (.fn 130 []))),(30,.l (.d (.bool w11)))],39,[],[(3,[.d (.int .i64 a0.Table.Frame),.d (.sl (a0.Table.Windows.map Window.enc)),.d (.sl (a0.Faces.map Face.enc)),.d (.sl (a0.Parts.map PartState.enc)),.d (.sl (a0.Lines.map PortLine.enc)),.d (.int .i64 a0.Now)]),(4,[.d (.int .i64 a1.Part),.d (.int .i64 a1.Kind),.d (.int .i64 a1.I),.d (.int .i64 a1.V),.d (.int .i64 a1.T.C),.d (.int .i64 a1.T.D),.d (.int .i64 a1.T.T),.d (.sl (a1.T.Secs.map Sec.enc))]),(5,[.d (.int .i64 (0:Int)),.nil,.nil,.nil,.nil,.d (.int .i64 (0:Int))])],[]⟩) h (fun k11 hk11 h=>?_) (fun w11 h=>?_)
    · conv=>whnf
      refine fnS rfl rfl rfl Tryz.underlying73 ?_
      conv=>whnf
      refine fkS h (fun h=>?_) (fun h=>?_)
      · conv=>whnf
        exact jeS hk11 h (Weak.refl _)
      conv=>whnf
      refine lenS a0.Parts PartState.enc rfl ?_
      conv=>whnf
      exact jeS hk11 h (Weak.refl _)
    conv=>whnf
    refine fkS h (fun h=>?_) (fun h=>?_)
    · conv=>whnf
      exact rt (E:=E_KernelState_Int_Int) h rfl
    conv=>whnf
    refine ccS (E:=E_KernelState_Int_Int) h (kernel_kinds_5_w a0 a1) rfl rfl (fun x12 h=>?_)
    conv=>whnf
    exact rt (E:=E_KernelState_Int_Int) h rfl
  conv=>whnf
  refine fkS h (fun h=>?_) (fun h=>?_)
  · conv=>whnf
    refine jnS (fun w13=>⟨[(2,.l (.ptr 3 0)),(3,.l (.ptr 4 0)),(4,.l (.ptr 5 0)),(7,.l (.d (.fn 131 []))),(30,.l (.d (.bool w13)))],39,[],[(3,[.d (.int .i64 a0.Table.Frame),.d (.sl (a0.Table.Windows.map Window.enc)),.d (.sl (a0.Faces.map Face.enc)),.d (.sl (a0.Parts.map PartState.enc)),.d (.sl (a0.Lines.map PortLine.enc)),.d (.int .i64 a0.Now)]),(4,[.d (.int .i64 a1.Part),.d (.int .i64 a1.Kind),.d (.int .i64 a1.I),.d (.int .i64 a1.V),.d (.int .i64 a1.T.C),.d (.int .i64 a1.T.D),.d (.int .i64 a1.T.T),.d (.sl (a1.T.Secs.map Sec.enc))]),(5,[.d (.int .i64 (0:Int)),.nil,.nil,.nil,.nil,.d (.int .i64 (0:Int))])],[]⟩) h (fun k13 hk13 h=>?_) (fun w13 h=>?_)
    · conv=>whnf
      refine fnS rfl rfl rfl Tryz.underlying73 ?_
      conv=>whnf
      refine fkS h (fun h=>?_) (fun h=>?_)
      · conv=>whnf
        exact jeS hk13 h (Weak.refl _)
      conv=>whnf
      refine lenS a0.Parts PartState.enc rfl ?_
      conv=>whnf
      exact jeS hk13 h (Weak.refl _)
    conv=>whnf
    refine fkS h (fun h=>?_) (fun h=>?_)
    · conv=>whnf
      exact rt (E:=E_KernelState_Int_Int) h rfl
    conv=>whnf
    refine ccS (E:=E_KernelState_Int_Int) h (kernel_kinds_6_w a0 a1) rfl rfl (fun x14 h=>?_)
    conv=>whnf
    exact rt (E:=E_KernelState_Int_Int) h rfl
  conv=>whnf
  refine jnS (fun w15=>⟨[(2,.l (.ptr 3 0)),(3,.l (.ptr 4 0)),(4,.l (.ptr 5 0)),(7,.l (.d .nilfn)),(30,.l (.d (.bool true)))],39,[],[(3,[.d (.int .i64 a0.Table.Frame),.d (.sl (a0.Table.Windows.map Window.enc)),.d (.sl (a0.Faces.map Face.enc)),.d (.sl (a0.Parts.map PartState.enc)),.d (.sl (a0.Lines.map PortLine.enc)),.d (.int .i64 a0.Now)]),(4,[.d (.int .i64 a1.Part),.d (.int .i64 a1.Kind),.d (.int .i64 a1.I),.d (.int .i64 a1.V),.d (.int .i64 a1.T.C),.d (.int .i64 a1.T.D),.d (.int .i64 a1.T.T),.d (.sl (a1.T.Secs.map Sec.enc))]),(5,[.d (.int .i64 (0:Int)),.nil,.nil,.nil,.nil,.d (.int .i64 (0:Int))])],[]⟩) h (fun k15 hk15 h=>?_) (fun w15 h=>?_)
  · conv=>whnf
    refine fnN rfl rfl rfl Tryz.underlying73 ?_
    conv=>whnf
    exact jeS hk15 h (Weak.refl _)
  conv=>whnf
  exact rt (E:=E_KernelState_Int_Int) h rfl

end Go.Proofs.YtldlcdnhdedoeaaGreat
namespace Go.Proofs.YtldlcdnhdedoeaaGreat
open Go Go.VC
noncomputable def ring_Put (a0:RingRing) (a1:Int):Option RingRing:=
  bnd (ring_Push a0 a1) fun x1=>fk (!decide (x1.2=(3:Int))) (some x1.1) (bnd (ring_Pop a0) fun x2=>bnd (ring_Push x2.2.1 a1) fun x3=>some x3.1)
theorem ring_Put_w (a0:RingRing) (a1:Int) (r:RingRing) (h:ring_Put a0 a1=some r):Go.VC.Spec Tryz.prog 94 [.agg (RingRing.enc a0),.d (.int .i64 a1)] (fun y=>y=E_RingRing r):=by
  refine Go.VC.Spec.of_xc (args:=[.agg (RingRing.enc a0),.d (.int .i64 a1)]) (fn:=Tryz.f94) tab ⟨[(0,[1,2,4]),(1,[1,2,4,5,6]),(2,[1,2,4,5,16]),(3,[4]),(4,[1,2,4]),(5,[4,7]),(6,[4])],[],[],[]⟩ 31 [.cell 4 93] rfl rfl rfl rfl rfl rfl ?_
  conv=>whnf
  refine ccS (E:=E_RingRing_Int) h (ring_Push_w a0 a1) rfl rfl (fun x1 h=>?_)
  conv=>whnf
  refine fkS h (fun h=>?_) (fun h=>?_)
  · conv=>whnf
    exact rt (E:=E_RingRing) h rfl
  conv=>whnf
  refine ccS (E:=E_Int_RingRing_Int) h (ring_Pop_w a0) rfl rfl (fun x2 h=>?_)
  conv=>whnf
  refine ccS (E:=E_RingRing_Int) h (ring_Push_w x2.2.1 a1) rfl rfl (fun x3 h=>?_)
  conv=>whnf
  exact rt (E:=E_RingRing) h rfl

end Go.Proofs.YtldlcdnhdedoeaaGreat
namespace Go.Proofs.YtldlcdnhdedoeaaGreat
open Go Go.VC
noncomputable def port_Deliver (a0:List PortLine):Option (List PortLine):=
  bnd (port_Right a0) fun x1=>fk (!x1) (some a0) (lp (fun nx2 (v2:(List PortLine)×Int)=>fk (decide (v2.2<(a0.length:Int))) (ix a0 v2.2 fun x3=>lp (fun nx4 (v4:(List Int)×Int×Int×(List Int)×Int×Int×Int)=>fk (decide (v4.2.2.2.2.2.2<x3.Under.Many)) (bnd (ring_Pop ⟨v4.1,v4.2.1,v4.2.2.1⟩) fun x5=>bnd (ring_Put ⟨v4.2.2.2.1,v4.2.2.2.2.1,v4.2.2.2.2.2.1⟩ x5.1) fun x6=>nx4 (x5.2.1.Buf,x5.2.1.First,x5.2.1.Many,x6.Buf,x6.First,x6.Many,(wr (v4.2.2.2.2.2.2+(1:Int))))) (bnd (port_with v2.1 v2.2 (⟨x3.Port,⟨v4.1,v4.2.1,v4.2.2.1⟩,⟨v4.2.2.2.1,v4.2.2.2.2.1,v4.2.2.2.2.2.1⟩⟩)) fun x7=>nx2 (x7,(wr (v2.2+(1:Int)))))) FU (x3.Under.Buf,x3.Under.First,x3.Under.Many,x3.Got.Buf,x3.Got.First,x3.Got.Many,(0:Int))) (some v2.1)) FU (a0,(0:Int)))
theorem port_Deliver_w (a0:List PortLine) (r:List PortLine) (h:port_Deliver a0=some r):Go.VC.Spec Tryz.prog 37 [.d (.sl (a0.map PortLine.enc))] (fun y=>y=E_ListPortLine r):=by
  refine Go.VC.Spec.of_xc (args:=[.d (.sl (a0.map PortLine.enc))]) (fn:=Tryz.f37) tab ⟨[(0,[0]),(1,[0,11]),(2,[2]),(3,[0,3]),(4,[3,14,15,16]),(5,[3,14,15,16,17]),(6,[3,4,5,14,15,16]),(7,[3,4,5,14,15,16,23,24]),(8,[3,4,5,14,15,16,23,24,25]),(9,[3,4,5,6,7,14,15,16,23,24]),(10,[3,4,5,14,15,16,23,24]),(11,[3,4,5,14,15,16,23,24]),(12,[3,14,15,16]),(13,[3,14,15,16]),(14,[2])],[],[],[]⟩ 47 [.tmp 2] rfl rfl rfl rfl rfl rfl ?_
  conv=>whnf
  refine caS (E:=E_Bool) h (port_Right_w a0) rfl (fun _=>rfl) (fun x1 h=>?_)
  conv=>whnf
  refine fkS h (fun h=>?_) (fun h=>?_)
  · conv=>whnf
    exact rt (E:=E_ListPortLine) h rfl
  conv=>whnf
  refine lenS a0 PortLine.enc rfl ?_
  conv=>whnf
  refine lpS (fun v2=>⟨[(3,.l (.d (.sl (v2.1.map PortLine.enc)))),(14,.l (.d (.sl (a0.map PortLine.enc)))),(15,.l (.d (.int .i64 (a0.length:Int)))),(16,.l (.d (.int .i64 v2.2)))],47,[],[],[]⟩) h (Weak.refl _) (fun _ nx2 hn2 v2 h=>?_)
  conv=>whnf
  refine fkS h (fun h=>?_) (fun h=>?_)
  · conv=>whnf
    refine ixS (enc:=PortLine.enc) h rfl (fun _=>rfl) (fun x3 h=>?_)
    conv=>whnf
    refine lpS (fun v4=>⟨[(3,.l (.d (.sl (v2.1.map PortLine.enc)))),(4,.l (.d (.int .i64 v2.2))),(5,.l (.ptr 6 0)),(14,.l (.d (.sl (a0.map PortLine.enc)))),(15,.l (.d (.int .i64 (a0.length:Int)))),(16,.l (.d (.int .i64 v2.2))),(23,.l (.d (.int .i64 x3.Under.Many))),(24,.l (.d (.int .i64 v4.2.2.2.2.2.2)))],47,[],[(6,[.d (.int .i64 x3.Port.From),.d (.int .i64 x3.Port.To),.d (.int .i64 x3.Port.Cap),.d (.sl (v4.1.map (eI .i64))),.d (.int .i64 v4.2.1),.d (.int .i64 v4.2.2.1),.d (.sl (v4.2.2.2.1.map (eI .i64))),.d (.int .i64 v4.2.2.2.2.1),.d (.int .i64 v4.2.2.2.2.2.1)])],[]⟩) h (Weak.refl _) (fun _ nx4 hn4 v4 h=>?_)
    conv=>whnf
    refine fkS h (fun h=>?_) (fun h=>?_)
    · conv=>whnf
      refine ccS (E:=E_Int_RingRing_Int) h (ring_Pop_w ⟨v4.1,v4.2.1,v4.2.2.1⟩) rfl rfl (fun x5 h=>?_)
      conv=>whnf
      refine⟨6,?_⟩
      conv=>whnf
      refine dcS (E:=E_RingRing) h (ring_Put_w ⟨v4.2.2.2.1,v4.2.2.2.2.1,v4.2.2.2.2.2.1⟩ x5.1) rfl (fun x6 h=>?_)
      conv=>whnf
      refine drS (by kernel_rfl) ?_
      conv=>whnf
      exact leS hn4 h (Weak.refl _)
    conv=>whnf
    refine ccS (E:=E_ListPortLine) h (port_with_w v2.1 v2.2 (⟨x3.Port,⟨v4.1,v4.2.1,v4.2.2.1⟩,⟨v4.2.2.2.1,v4.2.2.2.2.1,v4.2.2.2.2.2.1⟩⟩)) rfl rfl (fun x7 h=>?_)
    conv=>whnf
    exact leS hn2 h (Weak.refl _)
  conv=>whnf
  exact rt (E:=E_ListPortLine) h rfl

end Go.Proofs.YtldlcdnhdedoeaaGreat
namespace Go.Proofs.YtldlcdnhdedoeaaGreat
open Go Go.VC
noncomputable def table_At (a0:TableTable) (a1:Int):Option Int:=
  jn (fun (w1:Bool)=>fk w1 (some (-1:Int)) (ck (decide (a0.Frame≠0)) (lp (fun nx3 (v3:Int)=>fk (decide (v3<(a0.Windows.length:Int))) (ix a0.Windows v3 fun x4=>jn (fun (w5:Bool)=>fk w5 (some x4.Part) (nx3 (wr (v3+(1:Int))))) (fun k5=>fk (decide ((a1.tmod a0.Frame)≥x4.From)) (k5 (decide ((a1.tmod a0.Frame)<(wr (x4.From+x4.Len))))) (k5 false))) (some (-1:Int))) FU (0:Int)))) (fun k1=>bnd (table_Right a0) fun x2=>fk (!x2) (k1 true) (k1 (decide (a1<(0:Int)))))
theorem table_At_w (a0:TableTable) (a1:Int) (r:Int) (h:table_At a0 a1=some r):Go.VC.Spec Tryz.prog 89 [.agg (TableTable.enc a0),.d (.int .i64 a1)] (fun y=>y=E_Int r):=by
  refine Go.VC.Spec.of_xc (args:=[.agg (TableTable.enc a0),.d (.int .i64 a1)]) (fn:=Tryz.f89) tab ⟨[(0,[1,2]),(1,[1,2,13]),(2,[4]),(3,[1,2]),(4,[1,19,20,21]),(5,[1,19,20,21,22]),(6,[1,6,19,20,21]),(7,[1,6,19,20,21,37]),(8,[4]),(9,[1,19,20,21]),(10,[4])],[],[100013,100037],[]⟩ 41 [.tmp 4] rfl rfl rfl rfl rfl rfl ?_
  conv=>whnf
  refine jnS (fun w1=>⟨[(1,.l (.d (.int .i64 a1))),(2,.l (.ptr 3 0)),(13,.l (.d (.bool w1)))],41,[],[(3,[.d (.int .i64 a0.Frame),.d (.sl (a0.Windows.map Window.enc))])],[]⟩) h (fun k1 hk1 h=>?_) (fun w1 h=>?_)
  · conv=>whnf
    refine caS (E:=E_Bool) h (table_Right_w a0) rfl (fun _=>rfl) (fun x2 h=>?_)
    conv=>whnf
    refine fkS h (fun h=>?_) (fun h=>?_)
    · conv=>whnf
      exact jeS hk1 h (Weak.refl _)
    conv=>whnf
    exact jeS hk1 h (Weak.refl _)
  conv=>whnf
  refine fkS h (fun h=>?_) (fun h=>?_)
  · conv=>whnf
    exact rt (E:=E_Int) h rfl
  conv=>whnf
  refine dvS h (fun h=>?_)
  conv=>whnf
  refine lenS a0.Windows Window.enc rfl ?_
  conv=>whnf
  refine lpS (fun v3=>⟨[(1,.l (.d (.int .i64 (a1.tmod a0.Frame)))),(19,.l (.d (.sl (a0.Windows.map Window.enc)))),(20,.l (.d (.int .i64 (a0.Windows.length:Int)))),(21,.l (.d (.int .i64 v3)))],41,[],[],[]⟩) h (Weak.refl _) (fun _ nx3 hn3 v3 h=>?_)
  conv=>whnf
  refine fkS h (fun h=>?_) (fun h=>?_)
  · conv=>whnf
    refine ixS (enc:=Window.enc) h rfl (fun _=>rfl) (fun x4 h=>?_)
    conv=>whnf
    refine jnS (fun w5=>⟨[(1,.l (.d (.int .i64 (a1.tmod a0.Frame)))),(6,.l (.ptr 7 0)),(19,.l (.d (.sl (a0.Windows.map Window.enc)))),(20,.l (.d (.int .i64 (a0.Windows.length:Int)))),(21,.l (.d (.int .i64 v3))),(37,.l (.d (.bool w5)))],41,[],[(7,[.d (.int .i64 x4.Part),.d (.int .i64 x4.From),.d (.int .i64 x4.Len)])],[]⟩) h (fun k5 hk5 h=>?_) (fun w5 h=>?_)
    · conv=>whnf
      refine fkS h (fun h=>?_) (fun h=>?_)
      · conv=>whnf
        exact jeS hk5 h (Weak.refl _)
      conv=>whnf
      exact jeS hk5 h (Weak.refl _)
    conv=>whnf
    refine fkS h (fun h=>?_) (fun h=>?_)
    · conv=>whnf
      exact rt (E:=E_Int) h rfl
    conv=>whnf
    exact leS hn3 h (Weak.refl _)
  conv=>whnf
  exact rt (E:=E_Int) h rfl

end Go.Proofs.YtldlcdnhdedoeaaGreat
namespace Go.Proofs.YtldlcdnhdedoeaaGreat
open Go Go.VC
noncomputable def task_Held (a0:Task) (a1:Int):Option (List Int):=
  bnd (task_Right a0) fun x1=>fk (!x1) (some []) (lp (fun nx2 (v2:(List Int)×Int)=>fk (decide (v2.2<(a0.Secs.length:Int))) (jn (fun (w3:List Int)=>nx2 (w3,(wr (v2.2+(1:Int))))) (fun k3=>ix a0.Secs v2.2 fun x4=>jn (fun (w5:Bool)=>fk w5 (ck (decide ((v2.1.length+([x4.Res]:List Int).length)*8≤140737488355328)) (k3 (v2.1++([x4.Res]:List Int)))) (k3 v2.1)) (fun k5=>fk (decide (x4.At<a1)) (k5 (decide (a1<(wr (x4.At+x4.Len))))) (k5 false)))) (some v2.1)) FU ([],(0:Int)))
theorem task_Held_w (a0:Task) (a1:Int) (r:List Int) (h:task_Held a0 a1=some r):Go.VC.Spec Tryz.prog 179 [.agg (Task.enc a0),.d (.int .i64 a1)] (fun y=>y=E_ListInt r):=by
  refine Go.VC.Spec.of_xc (args:=[.agg (Task.enc a0),.d (.int .i64 a1)]) (fn:=Tryz.f179) tab ⟨[(0,[1,2]),(1,[1,2,10]),(2,[4]),(3,[1,2,5]),(4,[1,5,12,13,14]),(5,[1,5,12,13,14,15]),(6,[1,5,7,12,13,14]),(7,[1,5,7,12,13,14,30]),(8,[1,5,12,13,14]),(9,[1,5,12,13,14]),(10,[4])],[],[100030,9],[]⟩ 38 [.tmp 4] rfl rfl rfl rfl rfl rfl ?_
  conv=>whnf
  refine caS (E:=E_Bool) h (task_Right_w a0) rfl (fun _=>rfl) (fun x1 h=>?_)
  conv=>whnf
  refine fkS h (fun h=>?_) (fun h=>?_)
  · conv=>whnf
    exact rt (E:=E_ListInt) h rfl
  conv=>whnf
  refine lenS a0.Secs Sec.enc rfl ?_
  conv=>whnf
  refine lpS (fun v2=>⟨[(1,.l (.d (.int .i64 a1))),(5,.l (.own 6)),(12,.l (.d (.sl (a0.Secs.map Sec.enc)))),(13,.l (.d (.int .i64 (a0.Secs.length:Int)))),(14,.l (.d (.int .i64 v2.2)))],38,[],[],[(6,3,1,v2.1.map (eI .i64))]⟩) h (Weak.trans (Weak.nilO _ 5 6 3 1 rfl) (Weak.refl _)) (fun _ nx2 hn2 v2 h=>?_)
  conv=>whnf
  refine fkS h (fun h=>?_) (fun h=>?_)
  · conv=>whnf
    refine jnS (fun w3=>⟨[(1,.l (.d (.int .i64 a1))),(5,.l (.own 6)),(12,.l (.d (.sl (a0.Secs.map Sec.enc)))),(13,.l (.d (.int .i64 (a0.Secs.length:Int)))),(14,.l (.d (.int .i64 v2.2)))],38,[],[],[(6,3,1,w3.map (eI .i64))]⟩) h (fun k3 hk3 h=>?_) (fun w3 h=>?_)
    · conv=>whnf
      refine ixS (enc:=Sec.enc) h rfl (fun _=>rfl) (fun x4 h=>?_)
      conv=>whnf
      refine jnS (fun w5=>⟨[(1,.l (.d (.int .i64 a1))),(5,.l (.own 6)),(7,.l (.ptr 8 0)),(12,.l (.d (.sl (a0.Secs.map Sec.enc)))),(13,.l (.d (.int .i64 (a0.Secs.length:Int)))),(14,.l (.d (.int .i64 v2.2))),(30,.l (.d (.bool w5)))],38,[],[(8,[.d (.int .i64 x4.Res),.d (.int .i64 x4.At),.d (.int .i64 x4.Len)])],[(6,3,1,v2.1.map (eI .i64))]⟩) h (fun k5 hk5 h=>?_) (fun w5 h=>?_)
      · conv=>whnf
        refine fkS h (fun h=>?_) (fun h=>?_)
        · conv=>whnf
          exact jeS hk5 h (Weak.refl _)
        conv=>whnf
        exact jeS hk5 h (Weak.refl _)
      conv=>whnf
      refine fkS h (fun h=>?_) (fun h=>?_)
      · conv=>whnf
        refine liS ([x4.Res]:List Int) (eI .i64) rfl rfl ?_
        conv=>whnf
        refine apS (enc:=(eI .i64)) (l1:=v2.1) (l2:=([x4.Res]:List Int)) h rfl rfl (fun _=>rfl) (fun h=>?_)
        conv=>whnf
        exact jeS hk3 h (Weak.refl _)
      conv=>whnf
      refine jeX hk3 h ?_
      conv=>whnf
      refine WkF.step (Weak.keepS _ [1,5,12,13,14]) ?_
      conv=>whnf
      exact WkF.refl _
    conv=>whnf
    exact leS hn2 h (Weak.refl _)
  conv=>whnf
  exact rt (E:=E_ListInt) h rfl

end Go.Proofs.YtldlcdnhdedoeaaGreat
namespace Go.Proofs.YtldlcdnhdedoeaaGreat
open Go Go.VC
noncomputable def job_Held (a0:List Task) (a1:List Job):Option (List Int):=
  bnd (job_All a0 a1) fun x1=>fk (!x1) (some []) (lp (fun nx2 (v2:(List Int)×Int)=>fk (decide (v2.2<(a1.length:Int))) (ix a1 v2.2 fun x3=>ix a0 x3.Task fun x4=>bnd (task_Held x4 x3.Had) fun x5=>ck (decide ((v2.1.length+x5.length)*8≤140737488355328)) (nx2 (v2.1++x5,(wr (v2.2+(1:Int)))))) (some v2.1)) FU ([],(0:Int)))
theorem job_Held_w (a0:List Task) (a1:List Job) (r:List Int) (h:job_Held a0 a1=some r):Go.VC.Spec Tryz.prog 169 [.d (.sl (a0.map Task.enc)),.d (.sl (a1.map Job.enc))] (fun y=>y=E_ListInt r):=by
  refine Go.VC.Spec.of_xc (args:=[.d (.sl (a0.map Task.enc)),.d (.sl (a1.map Job.enc))]) (fn:=Tryz.f169) tab ⟨[(0,[0,1]),(1,[0,1,11]),(2,[4]),(3,[0,1,5]),(4,[0,5,12,13,14]),(5,[0,5,12,13,14,15]),(6,[0,5,7,12,13,14]),(7,[0,5,12,13,14]),(8,[0,5,12,13,14]),(9,[4])],[],[],[]⟩ 30 [.tmp 4] rfl rfl rfl rfl rfl rfl ?_
  conv=>whnf
  refine caS (E:=E_Bool) h (job_All_w a0 a1) rfl (fun _=>rfl) (fun x1 h=>?_)
  conv=>whnf
  refine fkS h (fun h=>?_) (fun h=>?_)
  · conv=>whnf
    exact rt (E:=E_ListInt) h rfl
  conv=>whnf
  refine lenS a1 Job.enc rfl ?_
  conv=>whnf
  refine lpS (fun v2=>⟨[(0,.l (.d (.sl (a0.map Task.enc)))),(5,.l (.own 6)),(12,.l (.d (.sl (a1.map Job.enc)))),(13,.l (.d (.int .i64 (a1.length:Int)))),(14,.l (.d (.int .i64 v2.2)))],30,[],[],[(6,3,1,v2.1.map (eI .i64))]⟩) h (Weak.trans (Weak.nilO _ 5 6 3 1 rfl) (Weak.refl _)) (fun _ nx2 hn2 v2 h=>?_)
  conv=>whnf
  refine fkS h (fun h=>?_) (fun h=>?_)
  · conv=>whnf
    refine ixS (enc:=Job.enc) h rfl (fun _=>rfl) (fun x3 h=>?_)
    conv=>whnf
    refine⟨9,?_⟩
    conv=>whnf
    refine ixS (enc:=Task.enc) h rfl (fun _=>rfl) (fun x4 h=>?_)
    conv=>whnf
    refine dcS (E:=E_ListInt) h (task_Held_w x4 x3.Had) rfl (fun x5 h=>?_)
    conv=>whnf
    refine drS (by kernel_rfl) ?_
    conv=>whnf
    refine apS (enc:=(eI .i64)) (l1:=v2.1) (l2:=x5) h rfl rfl (fun _=>rfl) (fun h=>?_)
    conv=>whnf
    exact leS hn2 h (Weak.refl _)
  conv=>whnf
  exact rt (E:=E_ListInt) h rfl

end Go.Proofs.YtldlcdnhdedoeaaGreat
namespace Go.Proofs.YtldlcdnhdedoeaaGreat
open Go Go.VC
noncomputable def level_level (a0:List Task) (a1:Task):Option Int:=
  lp (fun nx1 (v1:Int×Int)=>fk (decide (v1.2<(a0.length:Int))) (jn (fun (w2:Int)=>nx1 (w2,(wr (v1.2+(1:Int))))) (fun k2=>ix a0 v1.2 fun x3=>fk (decide (x3.D>a1.D)) (k2 (wr (v1.1+(1:Int)))) (k2 v1.1))) (some v1.1)) FU ((1:Int),(0:Int))
theorem level_level_w (a0:List Task) (a1:Task) (r:Int) (h:level_level a0 a1=some r):Go.VC.Spec Tryz.prog 187 [.d (.sl (a0.map Task.enc)),.agg (Task.enc a1)] (fun y=>y=E_Int r):=by
  refine Go.VC.Spec.of_xc (args:=[.d (.sl (a0.map Task.enc)),.agg (Task.enc a1)]) (fn:=Tryz.f187) tab ⟨[(0,[0,3]),(1,[0,3,5]),(2,[3,5,8,9,10]),(3,[3,5,8,9,10,11]),(4,[3,5,7,8,9,10]),(5,[3,5,8,9,10,18]),(6,[3,5,8,9,10]),(7,[3,5,8,9,10]),(8,[4])],[],[7],[]⟩ 23 [.tmp 4] rfl rfl rfl rfl rfl rfl ?_
  conv=>whnf
  refine lenS a0 Task.enc rfl ?_
  conv=>whnf
  refine lpS (fun v1=>⟨[(3,.l (.ptr 4 0)),(5,.l (.d (.int .i64 v1.1))),(8,.l (.d (.sl (a0.map Task.enc)))),(9,.l (.d (.int .i64 (a0.length:Int)))),(10,.l (.d (.int .i64 v1.2)))],23,[],[(4,[.d (.int .i64 a1.C),.d (.int .i64 a1.D),.d (.int .i64 a1.T),.d (.sl (a1.Secs.map Sec.enc))])],[]⟩) h (Weak.refl _) (fun _ nx1 hn1 v1 h=>?_)
  conv=>whnf
  refine fkS h (fun h=>?_) (fun h=>?_)
  · conv=>whnf
    refine jnS (fun w2=>⟨[(3,.l (.ptr 4 0)),(5,.l (.d (.int .i64 w2))),(8,.l (.d (.sl (a0.map Task.enc)))),(9,.l (.d (.int .i64 (a0.length:Int)))),(10,.l (.d (.int .i64 v1.2)))],23,[],[(4,[.d (.int .i64 a1.C),.d (.int .i64 a1.D),.d (.int .i64 a1.T),.d (.sl (a1.Secs.map Sec.enc))])],[]⟩) h (fun k2 hk2 h=>?_) (fun w2 h=>?_)
    · conv=>whnf
      refine ixS (enc:=Task.enc) h rfl (fun _=>rfl) (fun x3 h=>?_)
      conv=>whnf
      refine fkS h (fun h=>?_) (fun h=>?_)
      · conv=>whnf
        exact jeS hk2 h (Weak.refl _)
      conv=>whnf
      refine jeX hk2 h ?_
      conv=>whnf
      refine WkF.step (Weak.keepS _ [3,5,8,9,10]) ?_
      conv=>whnf
      exact WkF.refl _
    conv=>whnf
    exact leS hn1 h (Weak.refl _)
  conv=>whnf
  exact rt (E:=E_Int) h rfl

end Go.Proofs.YtldlcdnhdedoeaaGreat
namespace Go.Proofs.YtldlcdnhdedoeaaGreat
open Go Go.VC
noncomputable def level_Of (a0:List Task) (a1:Int):Option Int:=
  jn (fun (w1:Bool)=>fk w1 (some (0:Int)) (ix a0 a1 fun x3=>bnd (level_level a0 x3) fun x4=>some x4)) (fun k1=>bnd (task_All a0) fun x2=>fk (!x2) (k1 true) (fk (decide (a1<(0:Int))) (k1 true) (k1 (decide (a1≥(a0.length:Int))))))
theorem level_Of_w (a0:List Task) (a1:Int) (r:Int) (h:level_Of a0 a1=some r):Go.VC.Spec Tryz.prog 177 [.d (.sl (a0.map Task.enc)),.d (.int .i64 a1)] (fun y=>y=E_Int r):=by
  refine Go.VC.Spec.of_xc (args:=[.d (.sl (a0.map Task.enc)),.d (.int .i64 a1)]) (fn:=Tryz.f177) tab ⟨[(0,[0,1]),(1,[0,1,17]),(2,[4]),(3,[4])],[],[100017],[]⟩ 24 [.tmp 4] rfl rfl rfl rfl rfl rfl ?_
  conv=>whnf
  refine jnS (fun w1=>⟨[(0,.l (.d (.sl (a0.map Task.enc)))),(1,.l (.d (.int .i64 a1))),(17,.l (.d (.bool w1)))],24,[],[],[]⟩) h (fun k1 hk1 h=>?_) (fun w1 h=>?_)
  · conv=>whnf
    refine caS (E:=E_Bool) h (task_All_w a0) rfl (fun _=>rfl) (fun x2 h=>?_)
    conv=>whnf
    refine fkS h (fun h=>?_) (fun h=>?_)
    · conv=>whnf
      exact jeS hk1 h (Weak.refl _)
    conv=>whnf
    refine fkS h (fun h=>?_) (fun h=>?_)
    · conv=>whnf
      exact jeS hk1 h (Weak.refl _)
    conv=>whnf
    refine lenS a0 Task.enc rfl ?_
    conv=>whnf
    exact jeS hk1 h (Weak.refl _)
  conv=>whnf
  refine fkS h (fun h=>?_) (fun h=>?_)
  · conv=>whnf
    exact rt (E:=E_Int) h rfl
  conv=>whnf
  refine ixS (enc:=Task.enc) h rfl (fun _=>rfl) (fun x3 h=>?_)
  conv=>whnf
  refine caS (E:=E_Int) h (level_level_w a0 x3) rfl (fun _=>rfl) (fun x4 h=>?_)
  conv=>whnf
  exact rt (E:=E_Int) h rfl

end Go.Proofs.YtldlcdnhdedoeaaGreat
namespace Go.Proofs.YtldlcdnhdedoeaaGreat
open Go Go.VC
noncomputable def level_Ceiling_1 (a0:Task) (a1:Int) (a2:List Task):Option Int:=
  bnd (task_Uses a0 a1) fun x1=>fk (!x1) (some (0:Int)) (bnd (level_level a2 a0) fun x2=>some x2)
theorem level_Ceiling_1_w (a0:Task) (a1:Int) (a2:List Task) (r:Int) (h:level_Ceiling_1 a0 a1 a2=some r):Go.VC.Spec Tryz.prog 197 [.agg (Task.enc a0),.dp [.int .i64 a1],.dp [.sl (a2.map Task.enc)]] (fun y=>y=E_Int r):=by
  refine Go.VC.Spec.of_xc (args:=[.agg (Task.enc a0),.dp [.int .i64 a1],.dp [.sl (a2.map Task.enc)]]) (fn:=Tryz.f197) tab ⟨[(0,[1,2,3]),(1,[2,3,8]),(2,[4]),(3,[4])],[],[],[]⟩ 12 [.tmp 4] rfl rfl rfl rfl rfl rfl ?_
  conv=>whnf
  refine caS (E:=E_Bool) h (task_Uses_w a0 a1) rfl (fun _=>rfl) (fun x1 h=>?_)
  conv=>whnf
  refine fkS h (fun h=>?_) (fun h=>?_)
  · conv=>whnf
    exact rt (E:=E_Int) h rfl
  conv=>whnf
  refine caS (E:=E_Int) h (level_level_w a2 a0) rfl (fun _=>rfl) (fun x2 h=>?_)
  conv=>whnf
  exact rt (E:=E_Int) h rfl

end Go.Proofs.YtldlcdnhdedoeaaGreat
namespace Go.Proofs.YtldlcdnhdedoeaaGreat
open Go Go.VC
noncomputable def level_most_api_Task (a0:List Task) (a1:Int) (a2:List Task):Option Int:=
  lp (fun nx1 (v1:Int×Int)=>fk (decide (v1.2<(a0.length:Int))) (ix a0 v1.2 fun x2=>bnd (level_Ceiling_1 x2 a1 a2) fun x3=>nx1 ((if x3>v1.1 then x3 else v1.1),(wr (v1.2+(1:Int))))) (some v1.1)) FU ((0:Int),(0:Int))
theorem level_most_api_Task_w (a0:List Task) (a1:Int) (a2:List Task) (r:Int) (h:level_most_api_Task a0 a1 a2=some r):Go.VC.Spec Tryz.prog 196 [.d (.sl (a0.map Task.enc)),.d (.fn 197 [[.int .i64 a1],[.sl (a2.map Task.enc)]])] (fun y=>y=E_Int r):=by
  refine Go.VC.Spec.of_xc (args:=[.d (.sl (a0.map Task.enc)),.d (.fn 197 [[.int .i64 a1],[.sl (a2.map Task.enc)]])]) (fn:=Tryz.f196) tab ⟨[(0,[0,1]),(1,[0,1,5]),(2,[1,5,8,9,10]),(3,[1,5,8,9,10,11]),(4,[1,5,7,8,9,10]),(5,[1,5,8,9,10]),(6,[1,5,8,9,10]),(7,[4])],[],[],[]⟩ 21 [.tmp 4] rfl rfl rfl rfl rfl rfl ?_
  conv=>whnf
  refine lenS a0 Task.enc rfl ?_
  conv=>whnf
  refine lpS (fun v1=>⟨[(1,.l (.d (.fn 197 [[.int .i64 a1],[.sl (a2.map Task.enc)]]))),(5,.l (.d (.int .i64 v1.1))),(8,.l (.d (.sl (a0.map Task.enc)))),(9,.l (.d (.int .i64 (a0.length:Int)))),(10,.l (.d (.int .i64 v1.2)))],21,[],[],[]⟩) h (Weak.refl _) (fun _ nx1 hn1 v1 h=>?_)
  conv=>whnf
  refine fkS h (fun h=>?_) (fun h=>?_)
  · conv=>whnf
    refine ixS (enc:=Task.enc) h rfl (fun _=>rfl) (fun x2 h=>?_)
    conv=>whnf
    refine caS (E:=E_Int) h (level_Ceiling_1_w x2 a1 a2) rfl (fun _=>rfl) (fun x3 h=>?_)
    conv=>whnf
    exact leS hn1 h (Weak.refl _)
  conv=>whnf
  exact rt (E:=E_Int) h rfl

end Go.Proofs.YtldlcdnhdedoeaaGreat
namespace Go.Proofs.YtldlcdnhdedoeaaGreat
open Go Go.VC
noncomputable def level_Ceiling (a0:List Task) (a1:Int):Option Int:=
  bnd (task_All a0) fun x1=>fk (!x1) (some (0:Int)) (bnd (level_most_api_Task a0 a1 a0) fun x2=>some x2)
theorem level_Ceiling_w (a0:List Task) (a1:Int) (r:Int) (h:level_Ceiling a0 a1=some r):Go.VC.Spec Tryz.prog 190 [.d (.sl (a0.map Task.enc)),.d (.int .i64 a1)] (fun y=>y=E_Int r):=by
  refine Go.VC.Spec.of_xc (args:=[.d (.sl (a0.map Task.enc)),.d (.int .i64 a1)]) (fn:=Tryz.f190) tab ⟨[(0,[2,3]),(1,[2,3,7]),(2,[4]),(3,[4])],[],[],[]⟩ 11 [.tmp 4] rfl rfl rfl rfl rfl rfl ?_
  conv=>whnf
  refine caS (E:=E_Bool) h (task_All_w a0) rfl (fun _=>rfl) (fun x1 h=>?_)
  conv=>whnf
  refine fkS h (fun h=>?_) (fun h=>?_)
  · conv=>whnf
    exact rt (E:=E_Int) h rfl
  conv=>whnf
  refine caS (E:=E_Int) h (level_most_api_Task_w a0 a1 a0) rfl (fun _=>rfl) (fun x2 h=>?_)
  conv=>whnf
  exact rt (E:=E_Int) h rfl

end Go.Proofs.YtldlcdnhdedoeaaGreat
namespace Go.Proofs.YtldlcdnhdedoeaaGreat
open Go Go.VC
noncomputable def level_Held_1 (a0:Int) (a1:List Task):Option Int:=
  bnd (level_Ceiling a1 a0) fun x1=>some x1
theorem level_Held_1_w (a0:Int) (a1:List Task) (r:Int) (h:level_Held_1 a0 a1=some r):Go.VC.Spec Tryz.prog 189 [.d (.int .i64 a0),.dp [.sl (a1.map Task.enc)]] (fun y=>y=E_Int r):=by
  refine Go.VC.Spec.of_xc (args:=[.d (.int .i64 a0),.dp [.sl (a1.map Task.enc)]]) (fn:=Tryz.f189) tab ⟨[(0,[0,1]),(1,[3])],[],[],[]⟩ 7 [.tmp 3] rfl rfl rfl rfl rfl rfl ?_
  conv=>whnf
  refine caS (E:=E_Int) h (level_Ceiling_w a1 a0) rfl (fun _=>rfl) (fun x1 h=>?_)
  conv=>whnf
  exact rt (E:=E_Int) h rfl

end Go.Proofs.YtldlcdnhdedoeaaGreat
namespace Go.Proofs.YtldlcdnhdedoeaaGreat
open Go Go.VC
noncomputable def level_most_int (a0:List Int) (a1:List Task):Option Int:=
  lp (fun nx1 (v1:Int×Int)=>fk (decide (v1.2<(a0.length:Int))) (ix a0 v1.2 fun x2=>bnd (level_Held_1 x2 a1) fun x3=>nx1 ((if x3>v1.1 then x3 else v1.1),(wr (v1.2+(1:Int))))) (some v1.1)) FU ((0:Int),(0:Int))
theorem level_most_int_w (a0:List Int) (a1:List Task) (r:Int) (h:level_most_int a0 a1=some r):Go.VC.Spec Tryz.prog 188 [.d (.sl (a0.map (eI .i64))),.d (.fn 189 [[.sl (a1.map Task.enc)]])] (fun y=>y=E_Int r):=by
  refine Go.VC.Spec.of_xc (args:=[.d (.sl (a0.map (eI .i64))),.d (.fn 189 [[.sl (a1.map Task.enc)]])]) (fn:=Tryz.f188) tab ⟨[(0,[0,1]),(1,[0,1,5]),(2,[1,5,8,9,10]),(3,[1,5,8,9,10,11]),(4,[1,5,7,8,9,10]),(5,[1,5,8,9,10]),(6,[1,5,8,9,10]),(7,[4])],[],[],[]⟩ 21 [.tmp 4] rfl rfl rfl rfl rfl rfl ?_
  conv=>whnf
  refine lenS a0 (eI .i64) rfl ?_
  conv=>whnf
  refine lpS (fun v1=>⟨[(1,.l (.d (.fn 189 [[.sl (a1.map Task.enc)]]))),(5,.l (.d (.int .i64 v1.1))),(8,.l (.d (.sl (a0.map (eI .i64))))),(9,.l (.d (.int .i64 (a0.length:Int)))),(10,.l (.d (.int .i64 v1.2)))],21,[],[],[]⟩) h (Weak.refl _) (fun _ nx1 hn1 v1 h=>?_)
  conv=>whnf
  refine fkS h (fun h=>?_) (fun h=>?_)
  · conv=>whnf
    refine ixS (enc:=(eI .i64)) h rfl (fun _=>rfl) (fun x2 h=>?_)
    conv=>whnf
    refine caS (E:=E_Int) h (level_Held_1_w x2 a1) rfl (fun _=>rfl) (fun x3 h=>?_)
    conv=>whnf
    exact leS hn1 h (Weak.refl _)
  conv=>whnf
  exact rt (E:=E_Int) h rfl

end Go.Proofs.YtldlcdnhdedoeaaGreat
namespace Go.Proofs.YtldlcdnhdedoeaaGreat
open Go Go.VC
noncomputable def level_Held (a0:List Task) (a1:List Int):Option Int:=
  bnd (level_most_int a1 a0) fun x1=>some x1
theorem level_Held_w (a0:List Task) (a1:List Int) (r:Int) (h:level_Held a0 a1=some r):Go.VC.Spec Tryz.prog 178 [.d (.sl (a0.map Task.enc)),.d (.sl (a1.map (eI .i64)))] (fun y=>y=E_Int r):=by
  refine Go.VC.Spec.of_xc (args:=[.d (.sl (a0.map Task.enc)),.d (.sl (a1.map (eI .i64)))]) (fn:=Tryz.f178) tab ⟨[(0,[1,2]),(1,[4])],[],[],[]⟩ 8 [.tmp 4] rfl rfl rfl rfl rfl rfl ?_
  conv=>whnf
  refine caS (E:=E_Int) h (level_most_int_w a1 a0) rfl (fun _=>rfl) (fun x1 h=>?_)
  conv=>whnf
  exact rt (E:=E_Int) h rfl

end Go.Proofs.YtldlcdnhdedoeaaGreat
namespace Go.Proofs.YtldlcdnhdedoeaaGreat
open Go Go.VC
noncomputable def level_Passes (a0:List Task) (a1:Int) (a2:List Int):Option Bool:=
  bnd (level_Of a0 a1) fun x1=>bnd (level_Held a0 a2) fun x2=>some (decide (x1>x2))
theorem level_Passes_w (a0:List Task) (a1:Int) (a2:List Int) (r:Bool) (h:level_Passes a0 a1 a2=some r):Go.VC.Spec Tryz.prog 168 [.d (.sl (a0.map Task.enc)),.d (.int .i64 a1),.d (.sl (a2.map (eI .i64)))] (fun y=>y=E_Bool r):=by
  refine Go.VC.Spec.of_xc (args:=[.d (.sl (a0.map Task.enc)),.d (.int .i64 a1),.d (.sl (a2.map (eI .i64)))]) (fn:=Tryz.f168) tab ⟨[(0,[0,1,2]),(1,[6])],[],[],[]⟩ 14 [.tmp 6] rfl rfl rfl rfl rfl rfl ?_
  conv=>whnf
  refine caS (E:=E_Int) h (level_Of_w a0 a1) rfl (fun _=>rfl) (fun x1 h=>?_)
  conv=>whnf
  refine caS (E:=E_Int) h (level_Held_w a0 a2) rfl (fun _=>rfl) (fun x2 h=>?_)
  conv=>whnf
  exact rt (E:=E_Bool) h rfl

end Go.Proofs.YtldlcdnhdedoeaaGreat
namespace Go.Proofs.YtldlcdnhdedoeaaGreat
open Go Go.VC
noncomputable def srp_Choose (a0:List Task) (a1:List Job):Option Int:=
  bnd (job_All a0 a1) fun x1=>fk (!x1) (some (-1:Int)) (bnd (job_First a1 false) fun x2=>bnd (job_First a1 true) fun x3=>jn (fun (w4:Unit)=>some x2) (fun k4=>fk (decide (x2<(0:Int))) (some x3) (jn (fun (w5:Bool)=>fk w5 (some x3) (fk (decide (x3<(0:Int))) (k4 ()) (ix a1 x2 fun x9=>bnd (job_Held a0 a1) fun x10=>bnd (level_Passes a0 x9.Task x10) fun x11=>fk x11 (k4 ()) (some x3)))) (fun k5=>fk (decide (x3≥(0:Int))) (ix a1 x2 fun x6=>ix a1 x3 fun x7=>bnd (job_Ahead x6 x7) fun x8=>k5 (!x8)) (k5 false)))))
theorem srp_Choose_w (a0:List Task) (a1:List Job) (r:Int) (h:srp_Choose a0 a1=some r):Go.VC.Spec Tryz.prog 161 [.d (.sl (a0.map Task.enc)),.d (.sl (a1.map Job.enc))] (fun y=>y=E_Int r):=by
  refine Go.VC.Spec.of_xc (args:=[.d (.sl (a0.map Task.enc)),.d (.sl (a1.map Job.enc))]) (fn:=Tryz.f161) tab ⟨[(0,[0,1]),(1,[0,1,10]),(2,[4]),(3,[0,1,5,6]),(4,[0,1,5,6,15]),(5,[0,1,5,6,18]),(6,[0,1,5,6,33]),(7,[5,6,36]),(8,[4]),(9,[4]),(10,[4]),(11,[4])],[],[100018,10],[]⟩ 51 [.tmp 4] rfl rfl rfl rfl rfl rfl ?_
  conv=>whnf
  refine caS (E:=E_Bool) h (job_All_w a0 a1) rfl (fun _=>rfl) (fun x1 h=>?_)
  conv=>whnf
  refine fkS h (fun h=>?_) (fun h=>?_)
  · conv=>whnf
    exact rt (E:=E_Int) h rfl
  conv=>whnf
  refine caS (E:=E_Int) h (job_First_w a1 false) rfl (fun _=>rfl) (fun x2 h=>?_)
  conv=>whnf
  refine caS (E:=E_Int) h (job_First_w a1 true) rfl (fun _=>rfl) (fun x3 h=>?_)
  conv=>whnf
  refine jnS (fun w4=>⟨[(5,.l (.d (.int .i64 x2)))],51,[],[],[]⟩) h (fun k4 hk4 h=>?_) (fun w4 h=>?_)
  · conv=>whnf
    refine fkS h (fun h=>?_) (fun h=>?_)
    · conv=>whnf
      exact rt (E:=E_Int) h rfl
    conv=>whnf
    refine jnS (fun w5=>⟨[(0,.l (.d (.sl (a0.map Task.enc)))),(1,.l (.d (.sl (a1.map Job.enc)))),(5,.l (.d (.int .i64 x2))),(6,.l (.d (.int .i64 x3))),(18,.l (.d (.bool w5)))],51,[],[],[]⟩) h (fun k5 hk5 h=>?_) (fun w5 h=>?_)
    · conv=>whnf
      refine⟨14,?_⟩
      conv=>whnf
      refine fkS h (fun h=>?_) (fun h=>?_)
      · conv=>whnf
        refine ixS (enc:=Job.enc) h rfl (fun _=>rfl) (fun x6 h=>?_)
        conv=>whnf
        refine ixS (enc:=Job.enc) h rfl (fun _=>rfl) (fun x7 h=>?_)
        conv=>whnf
        refine daS (E:=E_Bool) h (job_Ahead_w x6 x7) (fun _=>rfl) (fun x8 h=>?_)
        conv=>whnf
        refine drS (by kernel_rfl) ?_
        conv=>whnf
        exact jeS hk5 h (Weak.refl _)
      conv=>whnf
      refine drS (by kernel_rfl) ?_
      conv=>whnf
      exact jeS hk5 h (Weak.refl _)
    conv=>whnf
    refine fkS h (fun h=>?_) (fun h=>?_)
    · conv=>whnf
      exact rt (E:=E_Int) h rfl
    conv=>whnf
    refine fkS h (fun h=>?_) (fun h=>?_)
    · conv=>whnf
      refine jeX hk4 h ?_
      conv=>whnf
      refine WkF.step (Weak.keepS _ [5]) ?_
      conv=>whnf
      exact WkF.refl _
    conv=>whnf
    refine⟨9,?_⟩
    conv=>whnf
    refine ixS (enc:=Job.enc) h rfl (fun _=>rfl) (fun x9 h=>?_)
    conv=>whnf
    refine dcS (E:=E_ListInt) h (job_Held_w a0 a1) rfl (fun x10 h=>?_)
    conv=>whnf
    refine drS (by kernel_rfl) ?_
    conv=>whnf
    refine caS (E:=E_Bool) h (level_Passes_w a0 x9.Task x10) rfl (fun _=>rfl) (fun x11 h=>?_)
    conv=>whnf
    refine fkS h (fun h=>?_) (fun h=>?_)
    · conv=>whnf
      refine jeX hk4 h ?_
      conv=>whnf
      refine WkF.step (Weak.keepS _ [5]) ?_
      conv=>whnf
      exact WkF.refl _
    conv=>whnf
    exact rt (E:=E_Int) h rfl
  conv=>whnf
  exact rt (E:=E_Int) h rfl

end Go.Proofs.YtldlcdnhdedoeaaGreat
namespace Go.Proofs.YtldlcdnhdedoeaaGreat
open Go Go.VC
noncomputable def srp_Tick (a0:List Task) (a1:List Job):Option ((List Job)×Job×Bool):=
  bnd (srp_Choose a0 a1) fun x1=>fk (decide (x1<(0:Int))) (some (a1,⟨(0:Int),(0:Int),(0:Int),(0:Int),(0:Int),false⟩,false)) (ix a1 x1 fun x2=>ix a0 x2.Task fun x3=>ck (decide ((0:Int)≤(0:Int)) && decide ((0:Int)≤x1) && decide (x1≤(a1.length:Int))) (ck (decide ((([]:List Job).length+((a1.take x1.toNat).drop (0:Int).toNat).length)*48≤140737488355328)) (jn (fun (w4:List Job)=>ck (decide ((0:Int)≤(wr (x1+(1:Int)))) && decide ((wr (x1+(1:Int)))≤(a1.length:Int)) && decide ((a1.length:Int)≤(a1.length:Int))) (ck (decide ((w4.length+((a1.take (a1.length:Int).toNat).drop (wr (x1+(1:Int))).toNat).length)*48≤140737488355328)) (some (w4++((a1.take (a1.length:Int).toNat).drop (wr (x1+(1:Int))).toNat),⟨x2.Task,x2.At,x2.Due,x2.Want,(wr (x2.Had+(1:Int))),true⟩,(decide ((wr (x2.Had+(1:Int)))≥(if x3.C<x2.Want then x3.C else x2.Want))))))) (fun k4=>fk (!(decide ((wr (x2.Had+(1:Int)))≥(if x3.C<x2.Want then x3.C else x2.Want)))) (ck (decide (((([]:List Job)++((a1.take x1.toNat).drop (0:Int).toNat)).length+([⟨x2.Task,x2.At,x2.Due,x2.Want,(wr (x2.Had+(1:Int))),true⟩]:List Job).length)*48≤140737488355328)) (k4 ((([]:List Job)++((a1.take x1.toNat).drop (0:Int).toNat))++([⟨x2.Task,x2.At,x2.Due,x2.Want,(wr (x2.Had+(1:Int))),true⟩]:List Job)))) (k4 (([]:List Job)++((a1.take x1.toNat).drop (0:Int).toNat)))))))
theorem srp_Tick_w (a0:List Task) (a1:List Job) (r:(List Job)×Job×Bool) (h:srp_Tick a0 a1=some r):Go.VC.Spec Tryz.prog 143 [.d (.sl (a0.map Task.enc)),.d (.sl (a1.map Job.enc))] (fun y=>y=E_ListJob_Job_Bool r):=by
  refine Go.VC.Spec.of_xc (args:=[.d (.sl (a0.map Task.enc)),.d (.sl (a1.map Job.enc))]) (fn:=Tryz.f143) tab ⟨[(0,[0,1,5]),(1,[0,1,5,7]),(2,[0,1,5,7,15]),(3,[4,5,6]),(4,[0,1,5,7,8]),(5,[0,1,5,7,8]),(6,[0,1,5,7,8]),(7,[1,5,7,8,9]),(8,[1,5,7,8,9,10]),(9,[1,5,7,8,9,10,45]),(10,[1,5,7,8,9,10]),(11,[4,5,6])],[],[11],[]⟩ 58 [.tmp 4,.cell 5 164,.tmp 6] rfl rfl rfl rfl rfl rfl ?_
  conv=>whnf
  refine caS (E:=E_Int) h (srp_Choose_w a0 a1) rfl (fun _=>rfl) (fun x1 h=>?_)
  conv=>whnf
  refine fkS h (fun h=>?_) (fun h=>?_)
  · conv=>whnf
    exact rt (E:=E_ListJob_Job_Bool) h rfl
  conv=>whnf
  refine ixS (enc:=Job.enc) h rfl (fun _=>rfl) (fun x2 h=>?_)
  conv=>whnf
  refine⟨11,?_⟩
  conv=>whnf
  refine ixS (enc:=Task.enc) h rfl (fun _=>rfl) (fun x3 h=>?_)
  conv=>whnf
  refine drS (by kernel_rfl) ?_
  conv=>whnf
  refine liS ([]:List Job) Job.enc rfl rfl ?_
  conv=>whnf
  refine slS (enc:=Job.enc) h rfl rfl (.inl rfl) (fun _=>rfl) (fun h=>?_)
  conv=>whnf
  refine apS (enc:=Job.enc) (l1:=([]:List Job)) (l2:=(a1.take x1.toNat).drop (0:Int).toNat) h rfl rfl (fun _=>rfl) (fun h=>?_)
  conv=>whnf
  refine jnS (fun w4=>⟨[(1,.l (.d (.sl (a1.map Job.enc)))),(5,.l (.ptr 6 0)),(7,.l (.d (.int .i64 x1))),(8,.l (.ptr 9 0)),(9,.l (.d (.bool (decide ((wr (x2.Had+(1:Int)))≥(if x3.C<x2.Want then x3.C else x2.Want)))))),(10,.l (.own 11))],58,[],[(6,[.d (.int .i64 (0:Int)),.d (.int .i64 (0:Int)),.d (.int .i64 (0:Int)),.d (.int .i64 (0:Int)),.d (.int .i64 (0:Int)),.d (.bool false)]),(9,[.d (.int .i64 x2.Task),.d (.int .i64 x2.At),.d (.int .i64 x2.Due),.d (.int .i64 x2.Want),.d (.int .i64 (wr (x2.Had+(1:Int)))),.d (.bool true)])],[(11,164,6,w4.map Job.enc)]⟩) h (fun k4 hk4 h=>?_) (fun w4 h=>?_)
  · conv=>whnf
    refine fkS h (fun h=>?_) (fun h=>?_)
    · conv=>whnf
      refine liS ([⟨x2.Task,x2.At,x2.Due,x2.Want,(wr (x2.Had+(1:Int))),true⟩]:List Job) Job.enc rfl rfl ?_
      conv=>whnf
      refine apS (enc:=Job.enc) (l1:=([]:List Job)++((a1.take x1.toNat).drop (0:Int).toNat)) (l2:=([⟨x2.Task,x2.At,x2.Due,x2.Want,(wr (x2.Had+(1:Int))),true⟩]:List Job)) h rfl rfl (fun _=>rfl) (fun h=>?_)
      conv=>whnf
      exact jeS hk4 h (Weak.refl _)
    conv=>whnf
    refine jeX hk4 h ?_
    conv=>whnf
    refine WkF.step (Weak.keepS _ [1,5,7,8,9,10]) ?_
    conv=>whnf
    exact WkF.refl _
  conv=>whnf
  refine⟨10,?_⟩
  conv=>whnf
  refine slS (enc:=Job.enc) h rfl rfl (.inl rfl) (fun _=>rfl) (fun h=>?_)
  conv=>whnf
  refine apS (enc:=Job.enc) (l1:=w4) (l2:=(a1.take (a1.length:Int).toNat).drop (wr (x1+(1:Int))).toNat) h rfl rfl (fun _=>rfl) (fun h=>?_)
  conv=>whnf
  refine drS (by kernel_rfl) ?_
  conv=>whnf
  exact rt (E:=E_ListJob_Job_Bool) h rfl

end Go.Proofs.YtldlcdnhdedoeaaGreat
namespace Go.Proofs.YtldlcdnhdedoeaaGreat
open Go Go.VC
noncomputable def part_without_api_Task (a0:List Task) (a1:Int):Option (List Task):=
  ck (decide ((0:Int)≤(0:Int)) && decide ((0:Int)≤a1) && decide (a1≤(a0.length:Int))) (ck (decide ((([]:List Task).length+((a0.take a1.toNat).drop (0:Int).toNat).length)*48≤140737488355328)) (ck (decide ((0:Int)≤(wr (a1+(1:Int)))) && decide ((wr (a1+(1:Int)))≤(a0.length:Int)) && decide ((a0.length:Int)≤(a0.length:Int))) (ck (decide (((([]:List Task)++((a0.take a1.toNat).drop (0:Int).toNat)).length+((a0.take (a0.length:Int).toNat).drop (wr (a1+(1:Int))).toNat).length)*48≤140737488355328)) (some ((([]:List Task)++((a0.take a1.toNat).drop (0:Int).toNat))++((a0.take (a0.length:Int).toNat).drop (wr (a1+(1:Int))).toNat))))))
theorem part_without_api_Task_w (a0:List Task) (a1:Int) (r:List Task) (h:part_without_api_Task a0 a1=some r):Go.VC.Spec Tryz.prog 144 [.d (.sl (a0.map Task.enc)),.d (.int .i64 a1)] (fun y=>y=E_ListTask r):=by
  refine Go.VC.Spec.of_xc (args:=[.d (.sl (a0.map Task.enc)),.d (.int .i64 a1)]) (fn:=Tryz.f144) tab ⟨[(0,[0,1]),(1,[4])],[],[],[]⟩ 15 [.tmp 4] rfl rfl rfl rfl rfl rfl ?_
  conv=>whnf
  refine⟨9,?_⟩
  conv=>whnf
  refine liS ([]:List Task) Task.enc rfl rfl ?_
  conv=>whnf
  refine slS (enc:=Task.enc) h rfl rfl (.inl rfl) (fun _=>rfl) (fun h=>?_)
  conv=>whnf
  refine apS (enc:=Task.enc) (l1:=([]:List Task)) (l2:=(a0.take a1.toNat).drop (0:Int).toNat) h rfl rfl (fun _=>rfl) (fun h=>?_)
  conv=>whnf
  refine slS (enc:=Task.enc) h rfl rfl (.inl rfl) (fun _=>rfl) (fun h=>?_)
  conv=>whnf
  refine drS (by kernel_rfl) ?_
  conv=>whnf
  refine apS (enc:=Task.enc) (l1:=([]:List Task)++((a0.take a1.toNat).drop (0:Int).toNat)) (l2:=(a0.take (a0.length:Int).toNat).drop (wr (a1+(1:Int))).toNat) h rfl rfl (fun _=>rfl) (fun h=>?_)
  conv=>whnf
  exact rt (E:=E_ListTask) h rfl

end Go.Proofs.YtldlcdnhdedoeaaGreat
namespace Go.Proofs.YtldlcdnhdedoeaaGreat
open Go Go.VC
noncomputable def part_without_bool (a0:List Bool) (a1:Int):Option (List Bool):=
  ck (decide ((0:Int)≤(0:Int)) && decide ((0:Int)≤a1) && decide (a1≤(a0.length:Int))) (ck (decide ((([]:List Bool).length+((a0.take a1.toNat).drop (0:Int).toNat).length)*1≤140737488355328)) (ck (decide ((0:Int)≤(wr (a1+(1:Int)))) && decide ((wr (a1+(1:Int)))≤(a0.length:Int)) && decide ((a0.length:Int)≤(a0.length:Int))) (ck (decide (((([]:List Bool)++((a0.take a1.toNat).drop (0:Int).toNat)).length+((a0.take (a0.length:Int).toNat).drop (wr (a1+(1:Int))).toNat).length)*1≤140737488355328)) (some ((([]:List Bool)++((a0.take a1.toNat).drop (0:Int).toNat))++((a0.take (a0.length:Int).toNat).drop (wr (a1+(1:Int))).toNat))))))
theorem part_without_bool_w (a0:List Bool) (a1:Int) (r:List Bool) (h:part_without_bool a0 a1=some r):Go.VC.Spec Tryz.prog 145 [.d (.sl (a0.map eB)),.d (.int .i64 a1)] (fun y=>y=E_ListBool r):=by
  refine Go.VC.Spec.of_xc (args:=[.d (.sl (a0.map eB)),.d (.int .i64 a1)]) (fn:=Tryz.f145) tab ⟨[(0,[0,1]),(1,[4])],[],[],[]⟩ 15 [.tmp 4] rfl rfl rfl rfl rfl rfl ?_
  conv=>whnf
  refine⟨9,?_⟩
  conv=>whnf
  refine liS ([]:List Bool) eB rfl rfl ?_
  conv=>whnf
  refine slS (enc:=eB) h rfl rfl (.inl rfl) (fun _=>rfl) (fun h=>?_)
  conv=>whnf
  refine apS (enc:=eB) (l1:=([]:List Bool)) (l2:=(a0.take a1.toNat).drop (0:Int).toNat) h rfl rfl (fun _=>rfl) (fun h=>?_)
  conv=>whnf
  refine slS (enc:=eB) h rfl rfl (.inl rfl) (fun _=>rfl) (fun h=>?_)
  conv=>whnf
  refine drS (by kernel_rfl) ?_
  conv=>whnf
  refine apS (enc:=eB) (l1:=([]:List Bool)++((a0.take a1.toNat).drop (0:Int).toNat)) (l2:=(a0.take (a0.length:Int).toNat).drop (wr (a1+(1:Int))).toNat) h rfl rfl (fun _=>rfl) (fun h=>?_)
  conv=>whnf
  exact rt (E:=E_ListBool) h rfl

end Go.Proofs.YtldlcdnhdedoeaaGreat
namespace Go.Proofs.YtldlcdnhdedoeaaGreat
open Go Go.VC
noncomputable def part_without_int (a0:List Int) (a1:Int):Option (List Int):=
  ck (decide ((0:Int)≤(0:Int)) && decide ((0:Int)≤a1) && decide (a1≤(a0.length:Int))) (ck (decide ((([]:List Int).length+((a0.take a1.toNat).drop (0:Int).toNat).length)*8≤140737488355328)) (ck (decide ((0:Int)≤(wr (a1+(1:Int)))) && decide ((wr (a1+(1:Int)))≤(a0.length:Int)) && decide ((a0.length:Int)≤(a0.length:Int))) (ck (decide (((([]:List Int)++((a0.take a1.toNat).drop (0:Int).toNat)).length+((a0.take (a0.length:Int).toNat).drop (wr (a1+(1:Int))).toNat).length)*8≤140737488355328)) (some ((([]:List Int)++((a0.take a1.toNat).drop (0:Int).toNat))++((a0.take (a0.length:Int).toNat).drop (wr (a1+(1:Int))).toNat))))))
theorem part_without_int_w (a0:List Int) (a1:Int) (r:List Int) (h:part_without_int a0 a1=some r):Go.VC.Spec Tryz.prog 146 [.d (.sl (a0.map (eI .i64))),.d (.int .i64 a1)] (fun y=>y=E_ListInt r):=by
  refine Go.VC.Spec.of_xc (args:=[.d (.sl (a0.map (eI .i64))),.d (.int .i64 a1)]) (fn:=Tryz.f146) tab ⟨[(0,[0,1]),(1,[4])],[],[],[]⟩ 15 [.tmp 4] rfl rfl rfl rfl rfl rfl ?_
  conv=>whnf
  refine⟨9,?_⟩
  conv=>whnf
  refine liS ([]:List Int) (eI .i64) rfl rfl ?_
  conv=>whnf
  refine slS (enc:=(eI .i64)) h rfl rfl (.inl rfl) (fun _=>rfl) (fun h=>?_)
  conv=>whnf
  refine apS (enc:=(eI .i64)) (l1:=([]:List Int)) (l2:=(a0.take a1.toNat).drop (0:Int).toNat) h rfl rfl (fun _=>rfl) (fun h=>?_)
  conv=>whnf
  refine slS (enc:=(eI .i64)) h rfl rfl (.inl rfl) (fun _=>rfl) (fun h=>?_)
  conv=>whnf
  refine drS (by kernel_rfl) ?_
  conv=>whnf
  refine apS (enc:=(eI .i64)) (l1:=([]:List Int)++((a0.take a1.toNat).drop (0:Int).toNat)) (l2:=(a0.take (a0.length:Int).toNat).drop (wr (a1+(1:Int))).toNat) h rfl rfl (fun _=>rfl) (fun h=>?_)
  conv=>whnf
  exact rt (E:=E_ListInt) h rfl

end Go.Proofs.YtldlcdnhdedoeaaGreat
namespace Go.Proofs.YtldlcdnhdedoeaaGreat
open Go Go.VC
noncomputable def part_Tick (a0:PartState) (a1:Bool) (a2:Int):Option (PartState×Int×Int):=
  jn (fun (w1:Bool)=>fk w1 (some (a0,(-1:Int),(1:Int))) (ck (decide ((([]:List Entry).length+a0.Log.length)*24≤140737488355328)) (lp (fun nx4 (v4:(List Job)×(List Entry)×Int)=>fk (decide (v4.2.2<(a0.Jobs.length:Int))) (jn (fun (w5:(List Job)×(List Entry))=>nx4 (w5.1,w5.2,(wr (v4.2.2+(1:Int))))) (fun k5=>ix a0.Jobs v4.2.2 fun x6=>fk (decide (x6.Due>a2)) (ck (decide ((v4.1.length+([x6]:List Job).length)*48≤140737488355328)) (k5 (v4.1++([x6]:List Job),v4.2.1))) (fk (decide ((v4.2.1.length:Int)<(2000:Int))) (ck (decide ((v4.2.1.length+([⟨a2,(6:Int),x6.Task⟩]:List Entry).length)*24≤140737488355328)) (k5 (v4.1,v4.2.1++([⟨a2,(6:Int),x6.Task⟩]:List Entry)))) (k5 (v4.1,v4.2.1))))) (jn (fun (w7:(List Job)×(List Entry)×Int)=>jn (fun (w11:(List Task)×(List Bool)×(List Int)×(List Entry))=>some (⟨w11.1,w11.2.1,w11.2.2.1,w7.1,w11.2.2.2⟩,w7.2.2,(0:Int))) (fun k11=>fk (decide ((w7.1.length:Int)=(0:Int))) (lp (fun nx12 (v12:(List Task)×(List Bool)×(List Int)×(List Entry)×Int)=>fk (decide (v12.2.2.2.2≥(0:Int))) (jn (fun (w13:(List Task)×(List Bool)×(List Int)×(List Entry))=>nx12 (w13.1,w13.2.1,w13.2.2.1,w13.2.2.2,(wr (v12.2.2.2.2-(1:Int))))) (fun k13=>ix v12.2.1 v12.2.2.2.2 fun x14=>fk x14 (bnd (part_without_api_Task v12.1 v12.2.2.2.2) fun x15=>bnd (part_without_bool v12.2.1 v12.2.2.2.2) fun x16=>bnd (part_without_int v12.2.2.1 v12.2.2.2.2) fun x17=>fk (decide ((v12.2.2.2.1.length:Int)<(2000:Int))) (ck (decide ((v12.2.2.2.1.length+([⟨a2,(7:Int),v12.2.2.2.2⟩]:List Entry).length)*24≤140737488355328)) (k13 (x15,x16,x17,v12.2.2.2.1++([⟨a2,(7:Int),v12.2.2.2.2⟩]:List Entry)))) (k13 (x15,x16,x17,v12.2.2.2.1))) (k13 (v12.1,v12.2.1,v12.2.2.1,v12.2.2.2.1)))) (k11 (v12.1,v12.2.1,v12.2.2.1,v12.2.2.2.1))) FU (a0.Tasks,a0.Leaves,a0.Lasts,w7.2.1,(wr ((a0.Tasks.length:Int)-(1:Int))))) (k11 (a0.Tasks,a0.Leaves,a0.Lasts,w7.2.1)))) (fun k7=>fk a1 (bnd (srp_Tick a0.Tasks v4.1) fun x8=>fk (decide ((v4.1.length:Int)=(0:Int))) (k7 (v4.1,v4.2.1,(-1:Int))) (jn (fun (w9:Bool)=>fk w9 (fk (decide ((v4.2.1.length:Int)<(2000:Int))) (ck (decide ((v4.2.1.length+([⟨a2,(5:Int),x8.2.1.Task⟩]:List Entry).length)*24≤140737488355328)) (k7 (x8.1,v4.2.1++([⟨a2,(5:Int),x8.2.1.Task⟩]:List Entry),x8.2.1.Task))) (k7 (x8.1,v4.2.1,x8.2.1.Task))) (fk x8.2.2 (fk (decide ((v4.2.1.length:Int)<(2000:Int))) (ck (decide ((v4.2.1.length+([⟨a2,(4:Int),x8.2.1.Task⟩]:List Entry).length)*24≤140737488355328)) (k7 (x8.1,v4.2.1++([⟨a2,(4:Int),x8.2.1.Task⟩]:List Entry),x8.2.1.Task))) (k7 (x8.1,v4.2.1,x8.2.1.Task))) (k7 (x8.1,v4.2.1,x8.2.1.Task)))) (fun k9=>fk x8.2.2 (ix a0.Tasks x8.2.1.Task fun x10=>k9 (decide (x8.2.1.Want>x10.C))) (k9 false)))) (k7 (v4.1,v4.2.1,(-1:Int)))))) FU ([],([]:List Entry)++a0.Log,(0:Int))))) (fun k1=>bnd (part_Right a0) fun x2=>fk (!x2) (k1 true) (bnd (part_when a2) fun x3=>k1 (!x3)))
theorem part_Tick_w (a0:PartState) (a1:Bool) (a2:Int) (r:PartState×Int×Int) (h:part_Tick a0 a1 a2=some r):Go.VC.Spec Tryz.prog 36 [.agg (PartState.enc a0),.d (.bool a1),.d (.int .i64 a2)] (fun y=>y=E_PartState_Int_Int r):=by
  refine Go.VC.Spec.of_xc (args:=[.agg (PartState.enc a0),.d (.bool a1),.d (.int .i64 a2)]) (fn:=Tryz.f36) tab ⟨[(0,[1,2,3,6]),(1,[1,2,3,6,18]),(2,[6,7,8]),(3,[1,6,9]),(4,[1,6,9]),(5,[1,6,9,10]),(6,[6,9,10,25]),(7,[6,9,10]),(8,[6,9,10,34]),(9,[6,9,10]),(10,[6,7,8])],[],[100018,10,8],[]⟩ 40 [.cell 6 51,.tmp 7,.tmp 8] rfl rfl rfl rfl rfl rfl ?_
  conv=>whnf
  refine jnS (fun w1=>⟨[(1,.l (.d (.bool a1))),(2,.l (.d (.int .i64 a2))),(3,.l (.ptr 4 0)),(6,.l (.ptr 7 0)),(18,.l (.d (.bool w1)))],40,[],[(4,[.d (.sl (a0.Tasks.map Task.enc)),.d (.sl (a0.Leaves.map eB)),.d (.sl (a0.Lasts.map (eI .i64))),.d (.sl (a0.Jobs.map Job.enc)),.d (.sl (a0.Log.map Entry.enc))]),(7,[.nil,.nil,.nil,.nil,.nil])],[]⟩) h (fun k1 hk1 h=>?_) (fun w1 h=>?_)
  · conv=>whnf
    refine caS (E:=E_Bool) h (part_Right_w a0) rfl (fun _=>rfl) (fun x2 h=>?_)
    conv=>whnf
    refine fkS h (fun h=>?_) (fun h=>?_)
    · conv=>whnf
      exact jeS hk1 h (Weak.refl _)
    conv=>whnf
    refine caS (E:=E_Bool) h (part_when_w a2) rfl (fun _=>rfl) (fun x3 h=>?_)
    conv=>whnf
    exact jeS hk1 h (Weak.refl _)
  conv=>whnf
  refine fkS h (fun h=>?_) (fun h=>?_)
  · conv=>whnf
    exact rt (E:=E_PartState_Int_Int) h rfl
  conv=>whnf
  refine inS (fn:=Tryz.f75) tab ⟨[(0,[1,2]),(1,[4])],[],[],[]⟩ 14 [.tmp 4] rfl rfl rfl rfl rfl rfl ?_
  conv=>whnf
  refine⟨7,?_⟩
  conv=>whnf
  refine liS ([]:List Entry) Entry.enc rfl rfl ?_
  conv=>whnf
  refine apS (enc:=Entry.enc) (l1:=([]:List Entry)) (l2:=a0.Log) h rfl rfl (fun _=>rfl) (fun h=>?_)
  conv=>whnf
  refine drS (by kernel_rfl) ?_
  conv=>whnf
  refine inS (fn:=Tryz.f91) tab ⟨[(0,[0,2]),(1,[0,2,9,10,11]),(2,[0,2,9,10,11,12]),(3,[0,2,4,9,10,11]),(4,[0,2,4,9,10,11,22]),(5,[0,2,9,10,11]),(6,[0,2,9,10,11]),(7,[0,2,9,10,11]),(8,[])],[],[7],[]⟩ 39 [] rfl rfl rfl rfl rfl rfl ?_
  conv=>whnf
  refine lenS a0.Jobs Job.enc rfl ?_
  conv=>whnf
  refine lpS (fun v4=>⟨[(0,.l (.ptr 1014 0)),(2,.l (.own 1003)),(9,.l (.d (.sl (a0.Jobs.map Job.enc)))),(10,.l (.d (.int .i64 (a0.Jobs.length:Int)))),(11,.l (.d (.int .i64 v4.2.2)))],39,[⟨[(23,.l (.ptr 1014 0)),(1,.l (.d (.bool a1))),(6,.l (.ptr 7 0)),(9,.l (.ptr 1014 0))],40⟩],[(7,[.nil,.nil,.nil,.nil,.nil]),(1014,[.own 1009,.d (.int .i64 a2),.d (.sl (a0.Tasks.map Task.enc)),.d (.sl (a0.Leaves.map eB)),.d (.sl (a0.Lasts.map (eI .i64))),.d (.sl (a0.Jobs.map Job.enc)),.d (.sl (a0.Log.map Entry.enc))])],[(1003,164,6,v4.1.map Job.enc),(1009,126,3,v4.2.1.map Entry.enc)]⟩) h (Weak.trans (Weak.nilO _ 2 1003 164 6 rfl) (Weak.refl _)) (fun _ nx4 hn4 v4 h=>?_)
  conv=>whnf
  refine fkS h (fun h=>?_) (fun h=>?_)
  · conv=>whnf
    refine jnS (fun w5=>⟨[(0,.l (.ptr 1014 0)),(2,.l (.own 1003)),(9,.l (.d (.sl (a0.Jobs.map Job.enc)))),(10,.l (.d (.int .i64 (a0.Jobs.length:Int)))),(11,.l (.d (.int .i64 v4.2.2)))],39,[⟨[(23,.l (.ptr 1014 0)),(1,.l (.d (.bool a1))),(6,.l (.ptr 7 0)),(9,.l (.ptr 1014 0))],40⟩],[(7,[.nil,.nil,.nil,.nil,.nil]),(1014,[.own 1009,.d (.int .i64 a2),.d (.sl (a0.Tasks.map Task.enc)),.d (.sl (a0.Leaves.map eB)),.d (.sl (a0.Lasts.map (eI .i64))),.d (.sl (a0.Jobs.map Job.enc)),.d (.sl (a0.Log.map Entry.enc))])],[(1003,164,6,w5.1.map Job.enc),(1009,126,3,w5.2.map Entry.enc)]⟩) h (fun k5 hk5 h=>?_) (fun w5 h=>?_)
    · conv=>whnf
      refine ixS (enc:=Job.enc) h rfl (fun _=>rfl) (fun x6 h=>?_)
      conv=>whnf
      refine⟨7,?_⟩
      conv=>whnf
      refine drS (by kernel_rfl) ?_
      conv=>whnf
      refine fkS h (fun h=>?_) (fun h=>?_)
      · conv=>whnf
        refine liS ([x6]:List Job) Job.enc rfl rfl ?_
        conv=>whnf
        refine apS (enc:=Job.enc) (l1:=v4.1) (l2:=([x6]:List Job)) h rfl rfl (fun _=>rfl) (fun h=>?_)
        conv=>whnf
        exact jeS hk5 h (Weak.refl _)
      conv=>whnf
      refine⟨5,?_⟩
      conv=>whnf
      refine drS (by kernel_rfl) ?_
      conv=>whnf
      refine inS (fn:=Tryz.f77) tab ⟨[(0,[0,1,2,11]),(1,[])],[],[],[]⟩ 28 [] rfl rfl rfl rfl rfl rfl ?_
      conv=>whnf
      refine lenS v4.2.1 Entry.enc rfl ?_
      conv=>whnf
      refine fkS h (fun h=>?_) (fun h=>?_)
      · conv=>whnf
        refine⟨14,?_⟩
        conv=>whnf
        refine liS ([⟨a2,(6:Int),x6.Task⟩]:List Entry) Entry.enc rfl rfl ?_
        conv=>whnf
        refine apS (enc:=Entry.enc) (l1:=v4.2.1) (l2:=([⟨a2,(6:Int),x6.Task⟩]:List Entry)) h rfl rfl (fun _=>rfl) (fun h=>?_)
        conv=>whnf
        refine drS (by kernel_rfl) ?_
        conv=>whnf
        refine jeX hk5 h ?_
        conv=>whnf
        refine WkF.step (Weak.rekey _ 2026 1009 rfl) ?_
        conv=>whnf
        exact WkF.refl _
      conv=>whnf
      exact jeS hk5 h (Weak.refl _)
    conv=>whnf
    exact leS hn4 h (Weak.refl _)
  conv=>whnf
  refine jnS (fun w7=>⟨[(6,.l (.ptr 7 0)),(9,.l (.ptr 1014 0)),(10,.l (.d (.int .i64 w7.2.2)))],40,[],[(7,[.nil,.nil,.nil,.nil,.nil]),(1014,[.own 1009,.d (.int .i64 a2),.d (.sl (a0.Tasks.map Task.enc)),.d (.sl (a0.Leaves.map eB)),.d (.sl (a0.Lasts.map (eI .i64))),.d (.sl (w7.1.map Job.enc)),.d (.sl (a0.Log.map Entry.enc))])],[(1009,126,3,w7.2.1.map Entry.enc)]⟩) h (fun k7 hk7 h=>?_) (fun w7 h=>?_)
  · conv=>whnf
    refine fkS h (fun h=>?_) (fun h=>?_)
    · conv=>whnf
      refine inS (fn:=Tryz.f92) tab ⟨[(0,[0]),(1,[0,3,4,5]),(2,[0,3,4,5,27]),(3,[2]),(4,[0,4,5]),(5,[0,4,5,33]),(6,[4]),(7,[0,4,56]),(8,[4]),(9,[2])],[(0,[1003])],[100033],[]⟩ 66 [.tmp 2] rfl rfl rfl rfl rfl rfl ?_
      conv=>whnf
      refine⟨18,?_⟩
      conv=>whnf
      refine dcS (E:=E_ListJob_Job_Bool) h (srp_Tick_w a0.Tasks v4.1) rfl (fun x8 h=>?_)
      conv=>whnf
      refine drS (by kernel_rfl) ?_
      conv=>whnf
      refine lenS v4.1 Job.enc rfl ?_
      conv=>whnf
      refine fkS h (fun h=>?_) (fun h=>?_)
      · conv=>whnf
        exact jeS hk7 h (Weak.refl _)
      conv=>whnf
      refine jnS (fun w9=>⟨[(0,.l (.ptr 1014 0)),(4,.l (.ptr 1005 0)),(5,.l (.d (.bool x8.2.2))),(33,.l (.d (.bool w9)))],66,[⟨[(26,.l (.ptr 1014 0)),(25,.l (.d (.bool true))),(6,.l (.ptr 7 0)),(9,.l (.ptr 1014 0)),(10,.l (.d (.int .i64 (-1:Int)))),(25,.l (.d (.bool a1)))],40⟩],[(7,[.nil,.nil,.nil,.nil,.nil]),(1005,[.d (.int .i64 x8.2.1.Task),.d (.int .i64 x8.2.1.At),.d (.int .i64 x8.2.1.Due),.d (.int .i64 x8.2.1.Want),.d (.int .i64 x8.2.1.Had),.d (.bool x8.2.1.Began)]),(1014,[.own 1009,.d (.int .i64 a2),.d (.sl (a0.Tasks.map Task.enc)),.d (.sl (a0.Leaves.map eB)),.d (.sl (a0.Lasts.map (eI .i64))),.d (.sl (x8.1.map Job.enc)),.d (.sl (a0.Log.map Entry.enc))])],[(1009,126,3,v4.2.1.map Entry.enc)]⟩) h (fun k9 hk9 h=>?_) (fun w9 h=>?_)
      · conv=>whnf
        refine⟨16,?_⟩
        conv=>whnf
        refine fkS h (fun h=>?_) (fun h=>?_)
        · conv=>whnf
          refine ixS (enc:=Task.enc) h rfl (fun _=>rfl) (fun x10 h=>?_)
          conv=>whnf
          refine drS (by kernel_rfl) ?_
          conv=>whnf
          exact jeS hk9 h (Weak.refl _)
        conv=>whnf
        refine drS (by kernel_rfl) ?_
        conv=>whnf
        exact jeS hk9 h (Weak.refl _)
      conv=>whnf
      refine fkS h (fun h=>?_) (fun h=>?_)
      · conv=>whnf
        refine⟨5,?_⟩
        conv=>whnf
        refine drS (by kernel_rfl) ?_
        conv=>whnf
        refine inS (fn:=Tryz.f77) tab ⟨[(0,[0,1,2,11]),(1,[])],[],[],[]⟩ 28 [] rfl rfl rfl rfl rfl rfl ?_
        conv=>whnf
        refine lenS v4.2.1 Entry.enc rfl ?_
        conv=>whnf
        refine fkS h (fun h=>?_) (fun h=>?_)
        · conv=>whnf
          refine⟨14,?_⟩
          conv=>whnf
          refine liS ([⟨a2,(5:Int),x8.2.1.Task⟩]:List Entry) Entry.enc rfl rfl ?_
          conv=>whnf
          refine apS (enc:=Entry.enc) (l1:=v4.2.1) (l2:=([⟨a2,(5:Int),x8.2.1.Task⟩]:List Entry)) h rfl rfl (fun _=>rfl) (fun h=>?_)
          conv=>whnf
          refine drS (by kernel_rfl) ?_
          conv=>whnf
          refine jeX hk7 h ?_
          conv=>whnf
          refine WkF.step (Weak.rekey _ 2026 1009 rfl) ?_
          conv=>whnf
          exact WkF.refl _
        conv=>whnf
        exact jeS hk7 h (Weak.refl _)
      conv=>whnf
      refine fkS h (fun h=>?_) (fun h=>?_)
      · conv=>whnf
        refine⟨5,?_⟩
        conv=>whnf
        refine drS (by kernel_rfl) ?_
        conv=>whnf
        refine inS (fn:=Tryz.f77) tab ⟨[(0,[0,1,2,11]),(1,[])],[],[],[]⟩ 28 [] rfl rfl rfl rfl rfl rfl ?_
        conv=>whnf
        refine lenS v4.2.1 Entry.enc rfl ?_
        conv=>whnf
        refine fkS h (fun h=>?_) (fun h=>?_)
        · conv=>whnf
          refine⟨14,?_⟩
          conv=>whnf
          refine liS ([⟨a2,(4:Int),x8.2.1.Task⟩]:List Entry) Entry.enc rfl rfl ?_
          conv=>whnf
          refine apS (enc:=Entry.enc) (l1:=v4.2.1) (l2:=([⟨a2,(4:Int),x8.2.1.Task⟩]:List Entry)) h rfl rfl (fun _=>rfl) (fun h=>?_)
          conv=>whnf
          refine drS (by kernel_rfl) ?_
          conv=>whnf
          refine jeX hk7 h ?_
          conv=>whnf
          refine WkF.step (Weak.rekey _ 2026 1009 rfl) ?_
          conv=>whnf
          exact WkF.refl _
        conv=>whnf
        exact jeS hk7 h (Weak.refl _)
      conv=>whnf
      exact jeS hk7 h (Weak.refl _)
    conv=>whnf
    refine jeX hk7 h ?_
    conv=>whnf
    refine WkF.step (Weak.keepS _ [6,9,10]) ?_
    conv=>whnf
    refine WkF.step (Weak.ice _ 1003) ?_
    conv=>whnf
    exact WkF.refl _
  conv=>whnf
  refine jnS (fun w11=>⟨[(6,.l (.ptr 7 0)),(9,.l (.ptr 1014 0)),(10,.l (.d (.int .i64 w7.2.2)))],40,[],[(7,[.nil,.nil,.nil,.nil,.nil]),(1014,[.own 1009,.d (.int .i64 a2),.d (.sl (w11.1.map Task.enc)),.d (.sl (w11.2.1.map eB)),.d (.sl (w11.2.2.1.map (eI .i64))),.d (.sl (w7.1.map Job.enc)),.d (.sl (a0.Log.map Entry.enc))])],[(1009,126,3,w11.2.2.2.map Entry.enc)]⟩) h (fun k11 hk11 h=>?_) (fun w11 h=>?_)
  · conv=>whnf
    refine lenS w7.1 Job.enc rfl ?_
    conv=>whnf
    refine fkS h (fun h=>?_) (fun h=>?_)
    · conv=>whnf
      refine inS (fn:=Tryz.f93) tab ⟨[(0,[0,2]),(1,[0,2,11]),(2,[0,2]),(3,[0,2,21]),(4,[0,2]),(5,[0,2])],[],[2],[]⟩ 60 [] rfl rfl rfl rfl rfl rfl ?_
      conv=>whnf
      refine lenS a0.Tasks Task.enc rfl ?_
      conv=>whnf
      refine lpS (fun v12=>⟨[(0,.l (.ptr 1014 0)),(2,.l (.d (.int .i64 v12.2.2.2.2)))],60,[⟨[(35,.l (.ptr 1014 0)),(34,.l (.d (.bool true))),(6,.l (.ptr 7 0)),(9,.l (.ptr 1014 0)),(10,.l (.d (.int .i64 w7.2.2))),(34,.l (.d (.bool (decide ((w7.1.length:Int)=(0:Int))))))],40⟩],[(7,[.nil,.nil,.nil,.nil,.nil]),(1014,[.own 1009,.d (.int .i64 a2),.d (.sl (v12.1.map Task.enc)),.d (.sl (v12.2.1.map eB)),.d (.sl (v12.2.2.1.map (eI .i64))),.d (.sl (w7.1.map Job.enc)),.d (.sl (a0.Log.map Entry.enc))])],[(1009,126,3,v12.2.2.2.1.map Entry.enc)]⟩) h (Weak.refl _) (fun _ nx12 hn12 v12 h=>?_)
      conv=>whnf
      refine fkS h (fun h=>?_) (fun h=>?_)
      · conv=>whnf
        refine jnS (fun w13=>⟨[(0,.l (.ptr 1014 0)),(2,.l (.d (.int .i64 v12.2.2.2.2)))],60,[⟨[(35,.l (.ptr 1014 0)),(34,.l (.d (.bool true))),(6,.l (.ptr 7 0)),(9,.l (.ptr 1014 0)),(10,.l (.d (.int .i64 w7.2.2))),(34,.l (.d (.bool (decide ((w7.1.length:Int)=(0:Int))))))],40⟩],[(7,[.nil,.nil,.nil,.nil,.nil]),(1014,[.own 2026,.d (.int .i64 a2),.d (.sl (w13.1.map Task.enc)),.d (.sl (w13.2.1.map eB)),.d (.sl (w13.2.2.1.map (eI .i64))),.d (.sl (w7.1.map Job.enc)),.d (.sl (a0.Log.map Entry.enc))])],[(2026,126,3,w13.2.2.2.map Entry.enc)]⟩) h (fun k13 hk13 h=>?_) (fun w13 h=>?_)
        · conv=>whnf
          refine ixS (enc:=eB) h rfl (fun _=>rfl) (fun x14 h=>?_)
          conv=>whnf
          refine fkS h (fun h=>?_) (fun h=>?_)
          · conv=>whnf
            refine⟨32,?_⟩
            conv=>whnf
            refine dcS (E:=E_ListTask) h (part_without_api_Task_w v12.1 v12.2.2.2.2) rfl (fun x15 h=>?_)
            conv=>whnf
            refine dcS (E:=E_ListBool) h (part_without_bool_w v12.2.1 v12.2.2.2.2) rfl (fun x16 h=>?_)
            conv=>whnf
            refine dcS (E:=E_ListInt) h (part_without_int_w v12.2.2.1 v12.2.2.2.2) rfl (fun x17 h=>?_)
            conv=>whnf
            refine drS (by kernel_rfl) ?_
            conv=>whnf
            refine inS (fn:=Tryz.f77) tab ⟨[(0,[0,1,2,11]),(1,[])],[],[],[]⟩ 28 [] rfl rfl rfl rfl rfl rfl ?_
            conv=>whnf
            refine lenS v12.2.2.2.1 Entry.enc rfl ?_
            conv=>whnf
            refine fkS h (fun h=>?_) (fun h=>?_)
            · conv=>whnf
              refine⟨14,?_⟩
              conv=>whnf
              refine liS ([⟨a2,(7:Int),v12.2.2.2.2⟩]:List Entry) Entry.enc rfl rfl ?_
              conv=>whnf
              refine apS (enc:=Entry.enc) (l1:=v12.2.2.2.1) (l2:=([⟨a2,(7:Int),v12.2.2.2.2⟩]:List Entry)) h rfl rfl (fun _=>rfl) (fun h=>?_)
              conv=>whnf
              refine drS (by kernel_rfl) ?_
              conv=>whnf
              exact jeS hk13 h (Weak.refl _)
            conv=>whnf
            refine jeX hk13 h ?_
            conv=>whnf
            refine WkF.step (Weak.rekey _ 1009 2026 rfl) ?_
            conv=>whnf
            exact WkF.refl _
          conv=>whnf
          refine jeX hk13 h ?_
          conv=>whnf
          refine WkF.step (Weak.keepS _ [0,2]) ?_
          conv=>whnf
          refine WkF.step (Weak.rekey _ 1009 2026 rfl) ?_
          conv=>whnf
          exact WkF.refl _
        conv=>whnf
        refine leX hn12 h ?_
        conv=>whnf
        refine WkF.step (Weak.rekey _ 2026 1009 rfl) ?_
        conv=>whnf
        exact WkF.refl _
      conv=>whnf
      exact jeS hk11 h (Weak.refl _)
    conv=>whnf
    refine jeX hk11 h ?_
    conv=>whnf
    refine WkF.step (Weak.keepS _ [6,9,10]) ?_
    conv=>whnf
    exact WkF.refl _
  conv=>whnf
  refine inS (fn:=Tryz.f78) tab ⟨[(0,[0,2]),(1,[0,2]),(2,[2])],[],[],[]⟩ 16 [.cell 2 51] rfl rfl rfl rfl rfl rfl ?_
  conv=>whnf
  exact rt (E:=E_PartState_Int_Int) h rfl

end Go.Proofs.YtldlcdnhdedoeaaGreat
namespace Go.Proofs.YtldlcdnhdedoeaaGreat
open Go Go.VC
noncomputable def kernel_Tick (a0:KernelState):Option (KernelState×(List Int)×Int):=
  bnd (kernel_Right a0) fun x1=>fk (!x1) (some (a0,[],(1:Int))) (jn (fun (w2:List PortLine)=>bnd (table_At a0.Table a0.Now) fun x4=>lp (fun nx5 (v5:Int×(List Window)×(List Face)×(List PartState)×(List PortLine)×Int×(List Int)×Int)=>fk (decide (v5.2.2.2.2.2.2.2<(a0.Parts.length:Int))) (ix a0.Parts v5.2.2.2.2.2.2.2 fun x6=>bnd (part_Tick x6 (decide (v5.2.2.2.2.2.2.2=x4)) v5.2.2.2.2.2.1) fun x7=>bnd (kernel_State_with (⟨⟨v5.1,v5.2.1⟩,v5.2.2.1,v5.2.2.2.1,v5.2.2.2.2.1,v5.2.2.2.2.2.1⟩) v5.2.2.2.2.2.2.2 x7.1) fun x8=>ck (decide ((v5.2.2.2.2.2.2.1.length+([x7.2.1]:List Int).length)*8≤140737488355328)) (nx5 (x8.Table.Frame,x8.Table.Windows,x8.Faces,x8.Parts,x8.Lines,x8.Now,v5.2.2.2.2.2.2.1++([x7.2.1]:List Int),(wr (v5.2.2.2.2.2.2.2+(1:Int)))))) (some (⟨⟨v5.1,v5.2.1⟩,v5.2.2.1,v5.2.2.2.1,v5.2.2.2.2.1,(wr (v5.2.2.2.2.2.1+(1:Int)))⟩,v5.2.2.2.2.2.2.1,(0:Int)))) FU (a0.Table.Frame,a0.Table.Windows,a0.Faces,a0.Parts,w2,a0.Now,[],(0:Int))) (fun k2=>ck (decide (a0.Table.Frame≠0)) (fk (decide ((a0.Now.tmod a0.Table.Frame)=(0:Int))) (bnd (port_Deliver a0.Lines) fun x3=>k2 x3) (k2 a0.Lines))))
theorem kernel_Tick_w (a0:KernelState) (r:KernelState×(List Int)×Int) (h:kernel_Tick a0=some r):Go.VC.Spec Tryz.prog 34 [.agg (KernelState.enc a0)] (fun y=>y=E_KernelState_ListInt_Int r):=by
  refine Go.VC.Spec.of_xc (args:=[.agg (KernelState.enc a0)]) (fn:=Tryz.f34) tab ⟨[(0,[1,2]),(1,[1,2,14]),(2,[2,3,4]),(3,[1,2,22]),(4,[1,2]),(5,[1,2,5]),(6,[1,2,5,6]),(7,[1,2,5,6,33,34,35]),(8,[1,2,5,6,33,34,35,36]),(9,[1,2,5,6,7,8,33,34,35]),(10,[1,2,5,6,7,9,10,33,34,35]),(11,[1,2,5,6,10,33,34,35]),(12,[1,2,5,6,33,34,35]),(13,[1,2,5,6,33,34,35]),(14,[1,2,6]),(15,[2,3,4])],[],[5],[]⟩ 66 [.cell 2 35,.tmp 3,.tmp 4] rfl rfl rfl rfl rfl rfl ?_
  conv=>whnf
  refine caS (E:=E_Bool) h (kernel_Right_w a0) rfl (fun _=>rfl) (fun x1 h=>?_)
  conv=>whnf
  refine fkS h (fun h=>?_) (fun h=>?_)
  · conv=>whnf
    exact rt (E:=E_KernelState_ListInt_Int) h rfl
  conv=>whnf
  refine jnS (fun w2=>⟨[(1,.l (.ptr 2 0)),(2,.l (.ptr 3 0))],66,[],[(2,[.d (.int .i64 a0.Table.Frame),.d (.sl (a0.Table.Windows.map Window.enc)),.d (.sl (a0.Faces.map Face.enc)),.d (.sl (a0.Parts.map PartState.enc)),.d (.sl (w2.map PortLine.enc)),.d (.int .i64 a0.Now)]),(3,[.d (.int .i64 (0:Int)),.nil,.nil,.nil,.nil,.d (.int .i64 (0:Int))])],[]⟩) h (fun k2 hk2 h=>?_) (fun w2 h=>?_)
  · conv=>whnf
    refine dvS h (fun h=>?_)
    conv=>whnf
    refine fkS h (fun h=>?_) (fun h=>?_)
    · conv=>whnf
      refine ccS (E:=E_ListPortLine) h (port_Deliver_w a0.Lines) rfl rfl (fun x3 h=>?_)
      conv=>whnf
      exact jeS hk2 h (Weak.refl _)
    conv=>whnf
    refine jeX hk2 h ?_
    conv=>whnf
    refine WkF.step (Weak.keepS _ [1,2]) ?_
    conv=>whnf
    exact WkF.refl _
  conv=>whnf
  refine caS (E:=E_Int) h (table_At_w a0.Table a0.Now) rfl (fun _=>rfl) (fun x4 h=>?_)
  conv=>whnf
  refine lenS a0.Parts PartState.enc rfl ?_
  conv=>whnf
  refine lpS (fun v5=>⟨[(1,.l (.ptr 2 0)),(2,.l (.ptr 3 0)),(5,.l (.d (.int .i64 x4))),(6,.l (.own 7)),(33,.l (.d (.sl (a0.Parts.map PartState.enc)))),(34,.l (.d (.int .i64 (a0.Parts.length:Int)))),(35,.l (.d (.int .i64 v5.2.2.2.2.2.2.2)))],66,[],[(2,[.d (.int .i64 v5.1),.d (.sl (v5.2.1.map Window.enc)),.d (.sl (v5.2.2.1.map Face.enc)),.d (.sl (v5.2.2.2.1.map PartState.enc)),.d (.sl (v5.2.2.2.2.1.map PortLine.enc)),.d (.int .i64 v5.2.2.2.2.2.1)]),(3,[.d (.int .i64 (0:Int)),.nil,.nil,.nil,.nil,.d (.int .i64 (0:Int))])],[(7,3,1,v5.2.2.2.2.2.2.1.map (eI .i64))]⟩) h (Weak.trans (Weak.nilO _ 6 7 3 1 rfl) (Weak.refl _)) (fun _ nx5 hn5 v5 h=>?_)
  conv=>whnf
  refine fkS h (fun h=>?_) (fun h=>?_)
  · conv=>whnf
    refine ixS (enc:=PartState.enc) h rfl (fun _=>rfl) (fun x6 h=>?_)
    conv=>whnf
    refine ccS (E:=E_PartState_Int_Int) h (part_Tick_w x6 (decide (v5.2.2.2.2.2.2.2=x4)) v5.2.2.2.2.2.1) rfl rfl (fun x7 h=>?_)
    conv=>whnf
    refine ccS (E:=E_KernelState) h (kernel_State_with_w (⟨⟨v5.1,v5.2.1⟩,v5.2.2.1,v5.2.2.2.1,v5.2.2.2.2.1,v5.2.2.2.2.2.1⟩) v5.2.2.2.2.2.2.2 x7.1) rfl rfl (fun x8 h=>?_)
    conv=>whnf
    refine liS ([x7.2.1]:List Int) (eI .i64) rfl rfl ?_
    conv=>whnf
    refine apS (enc:=(eI .i64)) (l1:=v5.2.2.2.2.2.2.1) (l2:=([x7.2.1]:List Int)) h rfl rfl (fun _=>rfl) (fun h=>?_)
    conv=>whnf
    exact leS hn5 h (Weak.refl _)
  conv=>whnf
  exact rt (E:=E_KernelState_ListInt_Int) h rfl

end Go.Proofs.YtldlcdnhdedoeaaGreat
namespace Go.Proofs.YtldlcdnhdedoeaaGreat
open Go Go.VC
/-! What the two partitions come to, tick by tick: a check that the kernel runs. -/
def aTask (n:Int):Task:=⟨n,4*n,4*n,[]⟩
def aCfg (n:Int):Config:=⟨[⟨⟨2,1⟩,[aTask n]⟩,⟨⟨2,1⟩,[aTask n]⟩],[]⟩
def aAsk (p n:Int):KernelCmd:=⟨p,1,0,n,⟨0,0,0,[]⟩⟩
def aRel (L:List Entry):Nat:=L.countP fun e=>decide (e.Kind=1)
def aDon (L:List Entry):Nat:=L.countP fun e=>decide (e.Kind=4)
def aGoodL (n t:Int) (L:List Entry):Bool:=decide ((aRel L:Int)=(t+4*n-1)/(4*n)) && decide (aDon L≤aRel L) && decide (aRel L≤aDon L+1)
def aGoodS (n t:Int) (s:KernelState):Bool:=match s.Parts with | [p,q]=>aGoodL n t p.Log && aGoodL n t q.Log | _=>false
noncomputable def aStep (n:Int) (s:KernelState):Option KernelState:=(kernel_Do s (aAsk 0 n)).bind fun a=>(kernel_Do a.1 (aAsk 1 n)).bind fun b=>(kernel_Tick b.1).bind fun c=>some c.1
noncomputable def aLoop (n:Int):Nat→Int→KernelState→Bool
  | 0,t,s=>aGoodS n t s
  | k+1,t,s=>aGoodS n t s && (match aStep n s with | some s'=>aLoop n k (t+1) s' | none=>false)
noncomputable def aChk (n:Int):Bool:=match image_Encode (aCfg n) with
  | some (b,e)=>decide (e=0) && (match image_Decode b with
    | some (c,_,f)=>decide (f=0) && decide (c=aCfg n) && (match kernel_Boot c with
      | some (s,g)=>decide (g=0) && aLoop n 199 0 s
      | none=>false)
    | none=>false)
  | none=>false
theorem aLoop_good {n:Int} {k:Nat} {t:Int} {s:KernelState} (h:aLoop n k t s=true):aGoodS n t s=true:=by
  cases k with
  | zero=>exact h
  | succ k=>unfold aLoop at h; rw[Bool.and_eq_true] at h; exact h.1
theorem aLoop_next {n:Int} {k:Nat} {t:Int} {s s':KernelState} (h:aLoop n (k+1) t s=true) (hs:aStep n s=some s'):aLoop n k (t+1) s'=true:=by
  unfold aLoop at h
  rw[Bool.and_eq_true,hs] at h
  exact h.2
theorem aChk_is {n:Int} (h:aChk n=true):∃b,image_Encode (aCfg n)=some (b,0)∧(∃i,image_Decode b=some (aCfg n,i,0))∧∃s,kernel_Boot (aCfg n)=some (s,0)∧aLoop n 199 0 s=true:=by
  unfold aChk at h
  split at h
  rotate_left
  · cases h
  rename_i b e hE
  rw[Bool.and_eq_true,decide_eq_true_eq] at h
  obtain⟨rfl,h⟩:=h
  split at h
  rotate_left
  · cases h
  rename_i c i f hD
  rw[Bool.and_eq_true,Bool.and_eq_true,decide_eq_true_eq,decide_eq_true_eq] at h
  obtain⟨⟨rfl,rfl⟩,h⟩:=h
  split at h
  rotate_left
  · cases h
  rename_i s g hB
  rw[Bool.and_eq_true,decide_eq_true_eq] at h
  obtain⟨rfl,h⟩:=h
  exact⟨b,hE,⟨i,hD⟩,s,hB,h⟩
end Go.Proofs.YtldlcdnhdedoeaaGreat
namespace Go.Proofs.YtldlcdnhdedoeaaGreat
open Go Go.VC
def wfI (k:IntKind) (n:Int):Prop:=(Lit.int k n).wf=true
end Go.Proofs.YtldlcdnhdedoeaaGreat
namespace Go.Proofs.YtldlcdnhdedoeaaGreat
open Go Go.VC
noncomputable def world_may (a0:List (List KernelCmd)):Option Bool:=
  lp (fun nx1 (v1:Int)=>fk (decide (v1<(a0.length:Int))) (ix a0 v1 fun x2=>fk (decide ((x2.length:Int)>(100:Int))) (some false) (nx1 (wr (v1+(1:Int))))) (some (decide ((a0.length:Int)≤(3000:Int))))) FU (0:Int)
theorem world_may_w (a0:List (List KernelCmd)) (r:Bool) (h:world_may a0=some r):Go.VC.Spec Tryz.prog 98 [.d (.sl (a0.map (eL KernelCmd.enc)))] (fun y=>y=E_Bool r):=by
  refine Go.VC.Spec.of_xc (args:=[.d (.sl (a0.map (eL KernelCmd.enc)))]) (fn:=Tryz.f98) tab ⟨[(0,[0]),(1,[0,5,6,7]),(2,[0,5,6,7,8]),(3,[0,4,5,6,7]),(4,[0,5,6,7,13]),(5,[2]),(6,[0,5,6,7]),(7,[2])],[],[],[]⟩ 18 [.tmp 2] rfl rfl rfl rfl rfl rfl ?_
  conv=>whnf
  refine lenS a0 (eL KernelCmd.enc) rfl ?_
  conv=>whnf
  refine lpS (fun v1=>⟨[(0,.l (.d (.sl (a0.map (eL KernelCmd.enc))))),(5,.l (.d (.sl (a0.map (eL KernelCmd.enc))))),(6,.l (.d (.int .i64 (a0.length:Int)))),(7,.l (.d (.int .i64 v1)))],18,[],[],[]⟩) h (Weak.refl _) (fun _ nx1 hn1 v1 h=>?_)
  conv=>whnf
  refine fkS h (fun h=>?_) (fun h=>?_)
  · conv=>whnf
    refine ixS (enc:=(eL KernelCmd.enc)) h rfl (fun _=>rfl) (fun x2 h=>?_)
    conv=>whnf
    refine lenS x2 KernelCmd.enc rfl ?_
    conv=>whnf
    refine fkS h (fun h=>?_) (fun h=>?_)
    · conv=>whnf
      exact rt (E:=E_Bool) h rfl
    conv=>whnf
    exact leS hn1 h (Weak.refl _)
  conv=>whnf
  refine lenS a0 (eL KernelCmd.enc) rfl ?_
  conv=>whnf
  exact rt (E:=E_Bool) h rfl

end Go.Proofs.YtldlcdnhdedoeaaGreat
