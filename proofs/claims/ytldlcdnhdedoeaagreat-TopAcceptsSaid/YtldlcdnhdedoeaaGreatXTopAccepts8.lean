/- Part 19 of what follows is proved here: what the statement TopAccepts needs of functions and plain laws. -/
import Derived.Test.YtldlcdnhdedoeaaGreatXTopAccepts7
import Derived.Laws.BytesString
import Derived.Test.YtldlcdnhdedoeaaGreatV9
set_option linter.unusedVariables false
set_option linter.unusedSimpArgs false
set_option maxRecDepth 100000
set_option maxHeartbeats 40000000
namespace Go.VC
open Go.RowKit (Below)
/-! Bytes as a string, and strings that are alike. -/
section
variable {P:Program} {T:TypeId→Option TI} {s:St} {K:St→Prop}
end
end Go.VC
namespace Go.Proofs.YtldlcdnhdedoeaaGreat
open Go Go.VC
structure Face where
  P:Int
  B:Int
  deriving DecidableEq
def Face.enc (x:Face):List Go.VC.D:=[.int .i64 x.P,.int .i64 x.B]
structure Port where
  From:Int
  To:Int
  Cap:Int
  deriving DecidableEq
def Port.enc (x:Port):List Go.VC.D:=[.int .i64 x.From,.int .i64 x.To,.int .i64 x.Cap]
structure RingRing where
  Buf:List Int
  First:Int
  Many:Int
  deriving DecidableEq
def RingRing.enc (x:RingRing):List Go.VC.D:=[.sl (x.Buf.map (eI .i64)),.int .i64 x.First,.int .i64 x.Many]
structure PortLine where
  Port:Port
  Under:RingRing
  Got:RingRing
  deriving DecidableEq
def PortLine.enc (x:PortLine):List Go.VC.D:=[.int .i64 x.Port.From,.int .i64 x.Port.To,.int .i64 x.Port.Cap,.sl (x.Under.Buf.map (eI .i64)),.int .i64 x.Under.First,.int .i64 x.Under.Many,.sl (x.Got.Buf.map (eI .i64)),.int .i64 x.Got.First,.int .i64 x.Got.Many]
structure WorldSaw where
  At:Int
  Value:Int
  Err:Int
  deriving DecidableEq
def WorldSaw.enc (x:WorldSaw):List Go.VC.D:=[.int .i64 x.At,.int .i64 x.Value,.int .i64 x.Err]
structure Entry where
  At:Int
  Kind:Int
  Task:Int
  deriving DecidableEq
def Entry.enc (x:Entry):List Go.VC.D:=[.int .i64 x.At,.int .i64 x.Kind,.int .i64 x.Task]
structure Partbook where
  log:List Entry
  now:Int
  deriving DecidableEq
structure Job where
  Task:Int
  At:Int
  Due:Int
  Want:Int
  Had:Int
  Began:Bool
  deriving DecidableEq
def Job.enc (x:Job):List Go.VC.D:=[.int .i64 x.Task,.int .i64 x.At,.int .i64 x.Due,.int .i64 x.Want,.int .i64 x.Had,.bool x.Began]
structure Window where
  Part:Int
  From:Int
  Len:Int
  deriving DecidableEq
def Window.enc (x:Window):List Go.VC.D:=[.int .i64 x.Part,.int .i64 x.From,.int .i64 x.Len]
structure Imagereader where
  b:List Int
  at':Int
  e:Int
  deriving DecidableEq
structure Sec where
  Res:Int
  At:Int
  Len:Int
  deriving DecidableEq
def Sec.enc (x:Sec):List Go.VC.D:=[.int .i64 x.Res,.int .i64 x.At,.int .i64 x.Len]
structure Ref18Row where
  Port:Port
  Under:List Int
  Got:List Int
  deriving DecidableEq
structure Synthlayer where
  l:List Face
  wants:List Int
  deriving DecidableEq
structure TableTable where
  Frame:Int
  Windows:List Window
  deriving DecidableEq
def TableTable.enc (x:TableTable):List Go.VC.D:=[.int .i64 x.Frame,.sl (x.Windows.map Window.enc)]
structure Task where
  C:Int
  D:Int
  T:Int
  Secs:List Sec
  deriving DecidableEq
def Task.enc (x:Task):List Go.VC.D:=[.int .i64 x.C,.int .i64 x.D,.int .i64 x.T,.sl (x.Secs.map Sec.enc)]
structure KernelCmd where
  Part:Int
  Kind:Int
  I:Int
  V:Int
  T:Task
  deriving DecidableEq
def KernelCmd.enc (x:KernelCmd):List Go.VC.D:=[.int .i64 x.Part,.int .i64 x.Kind,.int .i64 x.I,.int .i64 x.V,.int .i64 x.T.C,.int .i64 x.T.D,.int .i64 x.T.T,.sl (x.T.Secs.map Sec.enc)]
structure Law21Step where
  Cmds:List KernelCmd
  deriving DecidableEq
structure WorldView where
  Saws:List WorldSaw
  Ran:List Int
  Log:List Entry
  deriving DecidableEq
def WorldView.enc (x:WorldView):List Go.VC.D:=[.sl (x.Saws.map WorldSaw.enc),.sl (x.Ran.map (eI .i64)),.sl (x.Log.map Entry.enc)]
structure PartState where
  Tasks:List Task
  Leaves:List Bool
  Lasts:List Int
  Jobs:List Job
  Log:List Entry
  deriving DecidableEq
def PartState.enc (x:PartState):List Go.VC.D:=[.sl (x.Tasks.map Task.enc),.sl (x.Leaves.map eB),.sl (x.Lasts.map (eI .i64)),.sl (x.Jobs.map Job.enc),.sl (x.Log.map Entry.enc)]
structure Part where
  Face:Face
  Tasks:List Task
  deriving DecidableEq
def Part.enc (x:Part):List Go.VC.D:=[.int .i64 x.Face.P,.int .i64 x.Face.B,.sl (x.Tasks.map Task.enc)]
structure Ref17State where
  Tasks:List Task
  Leaves:List Bool
  Lasts:List Int
  Jobs:List Job
  Log:List Entry
  deriving DecidableEq
structure Parthand where
  book:Partbook
  s:PartState
  deriving DecidableEq
structure Config where
  Parts:List Part
  Ports:List Port
  deriving DecidableEq
def Config.enc (x:Config):List Go.VC.D:=[.sl (x.Parts.map Part.enc),.sl (x.Ports.map Port.enc)]
structure KernelState where
  Table:TableTable
  Faces:List Face
  Parts:List PartState
  Lines:List PortLine
  Now:Int
  deriving DecidableEq
def KernelState.enc (x:KernelState):List Go.VC.D:=[.int .i64 x.Table.Frame,.sl (x.Table.Windows.map Window.enc),.sl (x.Faces.map Face.enc),.sl (x.Parts.map PartState.enc),.sl (x.Lines.map PortLine.enc),.int .i64 x.Now]
def E_Bool:Bool→List CV:=fun r=>[.d (.bool r)]
def E_ListWorldView_Int:((List WorldView)×Int)→List CV:=fun r=>[.d (.sl (r.1.map WorldView.enc)),.d (.int .i64 r.2)]
def E_Config_Int_Int:(Config×Int×Int)→List CV:=fun r=>[.agg (Config.enc r.1),.d (.int .i64 r.2.1),.d (.int .i64 r.2.2)]
def E_ListPortLine_Int:((List PortLine)×Int)→List CV:=fun r=>[.d (.sl (r.1.map PortLine.enc)),.d (.int .i64 r.2)]
def E_RingRing_Int:(RingRing×Int)→List CV:=fun r=>[.agg (RingRing.enc r.1),.d (.int .i64 r.2)]
def E_KernelState_Int:(KernelState×Int)→List CV:=fun r=>[.agg (KernelState.enc r.1),.d (.int .i64 r.2)]
def E_TableTable_Int:(TableTable×Int)→List CV:=fun r=>[.agg (TableTable.enc r.1),.d (.int .i64 r.2)]
def E_ListInt_Int:((List Int)×Int)→List CV:=fun r=>[.d (.sl (r.1.map (eI .i64))),.d (.int .i64 r.2)]
def E_Int_Int:(Int×Int)→List CV:=fun r=>[.d (.int .i64 r.1),.d (.int .i64 r.2)]
def E_PartState_Int:(PartState×Int)→List CV:=fun r=>[.agg (PartState.enc r.1),.d (.int .i64 r.2)]
def E_Int:Int→List CV:=fun r=>[.d (.int .i64 r)]
def E_Bool_Int:(Bool×Int)→List CV:=fun r=>[.d (.bool r.1),.d (.int .i64 r.2)]
def E_Int_Int_Int:(Int×Int×Int)→List CV:=fun r=>[.d (.int .i64 r.1),.d (.int .i64 r.2.1),.d (.int .i64 r.2.2)]
def E_Int_Bool_Int:(Int×Bool×Int)→List CV:=fun r=>[.d (.int .i64 r.1),.d (.bool r.2.1),.d (.int .i64 r.2.2)]
def E_KernelState_Int_Int:(KernelState×Int×Int)→List CV:=fun r=>[.agg (KernelState.enc r.1),.d (.int .i64 r.2.1),.d (.int .i64 r.2.2)]
def E_KernelState:KernelState→List CV:=fun r=>[.agg (KernelState.enc r)]
def E_RingRing:RingRing→List CV:=fun r=>[.agg (RingRing.enc r)]
def E_ListPortLine:(List PortLine)→List CV:=fun r=>[.d (.sl (r.map PortLine.enc))]
def E_Int_ListPortLine_Int:(Int×(List PortLine)×Int)→List CV:=fun r=>[.d (.int .i64 r.1),.d (.sl (r.2.1.map PortLine.enc)),.d (.int .i64 r.2.2)]
def E_Int_RingRing_Int:(Int×RingRing×Int)→List CV:=fun r=>[.d (.int .i64 r.1),.agg (RingRing.enc r.2.1),.d (.int .i64 r.2.2)]
def E_KernelState_ListInt_Int:(KernelState×(List Int)×Int)→List CV:=fun r=>[.agg (KernelState.enc r.1),.d (.sl (r.2.1.map (eI .i64))),.d (.int .i64 r.2.2)]
def E_PartState_Int_Int:(PartState×Int×Int)→List CV:=fun r=>[.agg (PartState.enc r.1),.d (.int .i64 r.2.1),.d (.int .i64 r.2.2)]
def E_ListJob_Job_Bool:((List Job)×Job×Bool)→List CV:=fun r=>[.d (.sl (r.1.map Job.enc)),.agg (Job.enc r.2.1),.d (.bool r.2.2)]
def E_ListInt:(List Int)→List CV:=fun r=>[.d (.sl (r.map (eI .i64)))]
def E_ListTask:(List Task)→List CV:=fun r=>[.d (.sl (r.map Task.enc))]
def E_ListBool:(List Bool)→List CV:=fun r=>[.d (.sl (r.map eB))]
def E_ListIntu8_Int:((List Int)×Int)→List CV:=fun r=>[.d (.sl (r.1.map (eI .u8))),.d (.int .i64 r.2)]
end Go.Proofs.YtldlcdnhdedoeaaGreat
namespace Go.Proofs.YtldlcdnhdedoeaaGreat
open Go Go.VC
noncomputable def supply_Right (a0:Face):Option Bool:=
  fk (decide (a0.B≥(1:Int))) (fk (decide (a0.B≤a0.P)) (some (decide (a0.P≤(200:Int)))) (some false)) (some false)
theorem supply_Right_w (a0:Face) (r:Bool) (h:supply_Right a0=some r):Go.VC.Spec Tryz.prog 84 [.agg (Face.enc a0)] (fun y=>y=E_Bool r):=by
  refine Go.VC.Spec.of_xc (args:=[.agg (Face.enc a0)]) (fn:=Tryz.f84) tab ⟨[(0,[1]),(1,[2])],[],[],[]⟩ 18 [.tmp 2] rfl rfl rfl rfl rfl rfl ?_
  conv=>whnf
  refine fkS h (fun h=>?_) (fun h=>?_)
  · conv=>whnf
    refine fkS h (fun h=>?_) (fun h=>?_)
    · conv=>whnf
      exact rt (E:=E_Bool) h rfl
    conv=>whnf
    exact rt (E:=E_Bool) h rfl
  conv=>whnf
  exact rt (E:=E_Bool) h rfl

end Go.Proofs.YtldlcdnhdedoeaaGreat
namespace Go.Proofs.YtldlcdnhdedoeaaGreat
open Go Go.VC
noncomputable def task_own (a0:Task):Option Bool:=
  fk (decide (a0.C≥(1:Int))) (fk (decide (a0.C≤a0.D)) (fk (decide (a0.D≤a0.T)) (fk (decide (a0.T≤(200:Int))) (some (decide ((a0.Secs.length:Int)≤(4:Int)))) (some false)) (some false)) (some false)) (some false)
theorem task_own_w (a0:Task) (r:Bool) (h:task_own a0=some r):Go.VC.Spec Tryz.prog 135 [.agg (Task.enc a0)] (fun y=>y=E_Bool r):=by
  refine Go.VC.Spec.of_xc (args:=[.agg (Task.enc a0)]) (fn:=Tryz.f135) tab ⟨[(0,[1]),(1,[2])],[],[],[]⟩ 31 [.tmp 2] rfl rfl rfl rfl rfl rfl ?_
  conv=>whnf
  refine fkS h (fun h=>?_) (fun h=>?_)
  · conv=>whnf
    refine fkS h (fun h=>?_) (fun h=>?_)
    · conv=>whnf
      refine fkS h (fun h=>?_) (fun h=>?_)
      · conv=>whnf
        refine fkS h (fun h=>?_) (fun h=>?_)
        · conv=>whnf
          refine lenS a0.Secs Sec.enc rfl ?_
          conv=>whnf
          exact rt (E:=E_Bool) h rfl
        conv=>whnf
        exact rt (E:=E_Bool) h rfl
      conv=>whnf
      exact rt (E:=E_Bool) h rfl
    conv=>whnf
    exact rt (E:=E_Bool) h rfl
  conv=>whnf
  exact rt (E:=E_Bool) h rfl

end Go.Proofs.YtldlcdnhdedoeaaGreat
namespace Go.Proofs.YtldlcdnhdedoeaaGreat
open Go Go.VC
noncomputable def task_may (a0:Task) (a1:Sec):Option Bool:=
  fk (decide (a1.Res≥(0:Int))) (fk (decide (a1.Res<(4:Int))) (fk (decide (a1.At≥(0:Int))) (fk (decide (a1.At<a0.C)) (fk (decide (a1.Len≥(1:Int))) (some (decide (a1.Len≤(wr (a0.C-a1.At))))) (some false)) (some false)) (some false)) (some false)) (some false)
theorem task_may_w (a0:Task) (a1:Sec) (r:Bool) (h:task_may a0 a1=some r):Go.VC.Spec Tryz.prog 136 [.agg (Task.enc a0),.agg (Sec.enc a1)] (fun y=>y=E_Bool r):=by
  refine Go.VC.Spec.of_xc (args:=[.agg (Task.enc a0),.agg (Sec.enc a1)]) (fn:=Tryz.f136) tab ⟨[(0,[2,3]),(1,[4])],[],[],[]⟩ 40 [.tmp 4] rfl rfl rfl rfl rfl rfl ?_
  conv=>whnf
  refine fkS h (fun h=>?_) (fun h=>?_)
  · conv=>whnf
    refine fkS h (fun h=>?_) (fun h=>?_)
    · conv=>whnf
      refine fkS h (fun h=>?_) (fun h=>?_)
      · conv=>whnf
        refine fkS h (fun h=>?_) (fun h=>?_)
        · conv=>whnf
          refine fkS h (fun h=>?_) (fun h=>?_)
          · conv=>whnf
            exact rt (E:=E_Bool) h rfl
          conv=>whnf
          exact rt (E:=E_Bool) h rfl
        conv=>whnf
        exact rt (E:=E_Bool) h rfl
      conv=>whnf
      exact rt (E:=E_Bool) h rfl
    conv=>whnf
    exact rt (E:=E_Bool) h rfl
  conv=>whnf
  exact rt (E:=E_Bool) h rfl

end Go.Proofs.YtldlcdnhdedoeaaGreat
namespace Go.Proofs.YtldlcdnhdedoeaaGreat
open Go Go.VC
noncomputable def task_fits (a0:Sec) (a1:Sec):Option Bool:=
  fk (decide (a1.At≥(wr (a0.At+a0.Len)))) (some true) (fk (decide (a1.At<a0.At)) (some false) (fk (decide ((wr (a1.At+a1.Len))≤(wr (a0.At+a0.Len)))) (some (!decide (a0.Res=a1.Res))) (some false)))
theorem task_fits_w (a0:Sec) (a1:Sec) (r:Bool) (h:task_fits a0 a1=some r):Go.VC.Spec Tryz.prog 137 [.agg (Sec.enc a0),.agg (Sec.enc a1)] (fun y=>y=E_Bool r):=by
  refine Go.VC.Spec.of_xc (args:=[.agg (Sec.enc a0),.agg (Sec.enc a1)]) (fn:=Tryz.f137) tab ⟨[(0,[2,3]),(1,[2,3,5]),(2,[4]),(3,[2,3,14]),(4,[4]),(5,[4])],[],[],[]⟩ 38 [.tmp 4] rfl rfl rfl rfl rfl rfl ?_
  conv=>whnf
  refine fkS h (fun h=>?_) (fun h=>?_)
  · conv=>whnf
    exact rt (E:=E_Bool) h rfl
  conv=>whnf
  refine fkS h (fun h=>?_) (fun h=>?_)
  · conv=>whnf
    exact rt (E:=E_Bool) h rfl
  conv=>whnf
  refine fkS h (fun h=>?_) (fun h=>?_)
  · conv=>whnf
    exact rt (E:=E_Bool) h rfl
  conv=>whnf
  exact rt (E:=E_Bool) h rfl

end Go.Proofs.YtldlcdnhdedoeaaGreat
namespace Go.Proofs.YtldlcdnhdedoeaaGreat
open Go Go.VC
noncomputable def task_Right (a0:Task):Option Bool:=
  bnd (task_own a0) fun x1=>fk (!x1) (some false) (lp (fun nx2 (v2:Int)=>fk (decide (v2<(a0.Secs.length:Int))) (ix a0.Secs v2 fun x3=>bnd (task_may a0 x3) fun x4=>fk (!x4) (some false) (ck (decide ((0:Int)≤(0:Int)) && decide ((0:Int)≤v2) && decide (v2≤(a0.Secs.length:Int))) (lp (fun nx5 (v5:Int)=>fk (decide (v5<(((a0.Secs.take v2.toNat).drop (0:Int).toNat).length:Int))) (ix ((a0.Secs.take v2.toNat).drop (0:Int).toNat) v5 fun x6=>bnd (task_fits x6 x3) fun x7=>fk x7 (nx5 (wr (v5+(1:Int)))) (some (decide ((0:Int)>(0:Int))))) (nx2 (wr (v2+(1:Int))))) FU (0:Int)))) (some (decide (a0.C>(0:Int))))) FU (0:Int))
theorem task_Right_w (a0:Task) (r:Bool) (h:task_Right a0=some r):Go.VC.Spec Tryz.prog 85 [.agg (Task.enc a0)] (fun y=>y=E_Bool r):=by
  refine Go.VC.Spec.of_xc (args:=[.agg (Task.enc a0)]) (fn:=Tryz.f85) tab ⟨[(0,[1]),(1,[1,9]),(2,[2]),(3,[1,11,12,13]),(4,[1,11,12,13,14]),(5,[1,3,4,11,12,13]),(6,[1,3,4,11,12,13,21]),(7,[2]),(8,[1,4,11,12,13,25,26,27]),(9,[1,4,11,12,13,25,26,27,28]),(10,[1,4,6,11,12,13,25,26,27]),(11,[1,4,11,12,13,25,26,27,33]),(12,[1]),(13,[1,4,11,12,13,25,26,27]),(14,[1,11,12,13]),(15,[2])],[],[],[]⟩ 40 [.tmp 2] rfl rfl rfl rfl rfl rfl ?_
  conv=>whnf
  refine caS (E:=E_Bool) h (task_own_w a0) rfl (fun _=>rfl) (fun x1 h=>?_)
  conv=>whnf
  refine fkS h (fun h=>?_) (fun h=>?_)
  · conv=>whnf
    exact rt (E:=E_Bool) h rfl
  conv=>whnf
  refine lenS a0.Secs Sec.enc rfl ?_
  conv=>whnf
  refine lpS (fun v2=>⟨[(1,.l (.ptr 2 0)),(11,.l (.d (.sl (a0.Secs.map Sec.enc)))),(12,.l (.d (.int .i64 (a0.Secs.length:Int)))),(13,.l (.d (.int .i64 v2)))],40,[],[(2,[.d (.int .i64 a0.C),.d (.int .i64 a0.D),.d (.int .i64 a0.T),.d (.sl (a0.Secs.map Sec.enc))])],[]⟩) h (Weak.refl _) (fun _ nx2 hn2 v2 h=>?_)
  conv=>whnf
  refine fkS h (fun h=>?_) (fun h=>?_)
  · conv=>whnf
    refine ixS (enc:=Sec.enc) h rfl (fun _=>rfl) (fun x3 h=>?_)
    conv=>whnf
    refine caS (E:=E_Bool) h (task_may_w a0 x3) rfl (fun _=>rfl) (fun x4 h=>?_)
    conv=>whnf
    refine fkS h (fun h=>?_) (fun h=>?_)
    · conv=>whnf
      exact rt (E:=E_Bool) h rfl
    conv=>whnf
    refine slS (enc:=Sec.enc) h rfl rfl (.inl rfl) (fun _=>rfl) (fun h=>?_)
    conv=>whnf
    refine lenS ((a0.Secs.take v2.toNat).drop (0:Int).toNat) Sec.enc rfl ?_
    conv=>whnf
    refine lpS (fun v5=>⟨[(1,.l (.ptr 2 0)),(4,.l (.ptr 5 0)),(11,.l (.d (.sl (a0.Secs.map Sec.enc)))),(12,.l (.d (.int .i64 (a0.Secs.length:Int)))),(13,.l (.d (.int .i64 v2))),(25,.l (.d (.sl (((a0.Secs.take v2.toNat).drop (0:Int).toNat).map Sec.enc)))),(26,.l (.d (.int .i64 (((a0.Secs.take v2.toNat).drop (0:Int).toNat).length:Int)))),(27,.l (.d (.int .i64 v5)))],40,[],[(2,[.d (.int .i64 a0.C),.d (.int .i64 a0.D),.d (.int .i64 a0.T),.d (.sl (a0.Secs.map Sec.enc))]),(5,[.d (.int .i64 x3.Res),.d (.int .i64 x3.At),.d (.int .i64 x3.Len)])],[]⟩) h (Weak.refl _) (fun _ nx5 hn5 v5 h=>?_)
    conv=>whnf
    refine fkS h (fun h=>?_) (fun h=>?_)
    · conv=>whnf
      refine ixS (enc:=Sec.enc) h rfl (fun _=>rfl) (fun x6 h=>?_)
      conv=>whnf
      refine caS (E:=E_Bool) h (task_fits_w x6 x3) rfl (fun _=>rfl) (fun x7 h=>?_)
      conv=>whnf
      refine fkS h (fun h=>?_) (fun h=>?_)
      · conv=>whnf
        exact leS hn5 h (Weak.refl _)
      conv=>whnf
      exact rt (E:=E_Bool) h rfl
    conv=>whnf
    exact leS hn2 h (Weak.refl _)
  conv=>whnf
  exact rt (E:=E_Bool) h rfl

end Go.Proofs.YtldlcdnhdedoeaaGreat
namespace Go.Proofs.YtldlcdnhdedoeaaGreat
open Go Go.VC
noncomputable def task_All (a0:List Task):Option Bool:=
  lp (fun nx1 (v1:Int)=>fk (decide (v1<(a0.length:Int))) (ix a0 v1 fun x2=>bnd (task_Right x2) fun x3=>fk (!x3) (some false) (nx1 (wr (v1+(1:Int))))) (some (decide ((a0.length:Int)≤(8:Int))))) FU (0:Int)
theorem task_All_w (a0:List Task) (r:Bool) (h:task_All a0=some r):Go.VC.Spec Tryz.prog 64 [.d (.sl (a0.map Task.enc))] (fun y=>y=E_Bool r):=by
  refine Go.VC.Spec.of_xc (args:=[.d (.sl (a0.map Task.enc))]) (fn:=Tryz.f64) tab ⟨[(0,[0]),(1,[0,5,6,7]),(2,[0,5,6,7,8]),(3,[0,4,5,6,7]),(4,[0,5,6,7,13]),(5,[2]),(6,[0,5,6,7]),(7,[2])],[],[],[]⟩ 18 [.tmp 2] rfl rfl rfl rfl rfl rfl ?_
  conv=>whnf
  refine lenS a0 Task.enc rfl ?_
  conv=>whnf
  refine lpS (fun v1=>⟨[(0,.l (.d (.sl (a0.map Task.enc)))),(5,.l (.d (.sl (a0.map Task.enc)))),(6,.l (.d (.int .i64 (a0.length:Int)))),(7,.l (.d (.int .i64 v1)))],18,[],[],[]⟩) h (Weak.refl _) (fun _ nx1 hn1 v1 h=>?_)
  conv=>whnf
  refine fkS h (fun h=>?_) (fun h=>?_)
  · conv=>whnf
    refine ixS (enc:=Task.enc) h rfl (fun _=>rfl) (fun x2 h=>?_)
    conv=>whnf
    refine caS (E:=E_Bool) h (task_Right_w x2) rfl (fun _=>rfl) (fun x3 h=>?_)
    conv=>whnf
    refine fkS h (fun h=>?_) (fun h=>?_)
    · conv=>whnf
      exact rt (E:=E_Bool) h rfl
    conv=>whnf
    exact leS hn1 h (Weak.refl _)
  conv=>whnf
  refine lenS a0 Task.enc rfl ?_
  conv=>whnf
  exact rt (E:=E_Bool) h rfl

end Go.Proofs.YtldlcdnhdedoeaaGreat
namespace Go.Proofs.YtldlcdnhdedoeaaGreat
open Go Go.VC
noncomputable def port_may_1 (a0:Int):Option Bool:=
  fk (decide (a0≥(0:Int))) (some (decide (a0<(4:Int)))) (some false)
theorem port_may_1_w (a0:Int) (r:Bool) (h:port_may_1 a0=some r):Go.VC.Spec Tryz.prog 123 [.d (.int .i64 a0)] (fun y=>y=E_Bool r):=by
  refine Go.VC.Spec.of_xc (args:=[.d (.int .i64 a0)]) (fn:=Tryz.f123) tab ⟨[(0,[0]),(1,[2])],[],[],[]⟩ 9 [.tmp 2] rfl rfl rfl rfl rfl rfl ?_
  conv=>whnf
  refine fkS h (fun h=>?_) (fun h=>?_)
  · conv=>whnf
    exact rt (E:=E_Bool) h rfl
  conv=>whnf
  exact rt (E:=E_Bool) h rfl

end Go.Proofs.YtldlcdnhdedoeaaGreat
namespace Go.Proofs.YtldlcdnhdedoeaaGreat
open Go Go.VC
noncomputable def port_may (a0:Port):Option Bool:=
  bnd (port_may_1 a0.From) fun x1=>fk x1 (bnd (port_may_1 a0.To) fun x2=>fk x2 (fk (!decide (a0.From=a0.To)) (fk (decide (a0.Cap≥(1:Int))) (some (decide (a0.Cap≤(4:Int)))) (some false)) (some false)) (some false)) (some false)
theorem port_may_w (a0:Port) (r:Bool) (h:port_may a0=some r):Go.VC.Spec Tryz.prog 69 [.agg (Port.enc a0)] (fun y=>y=E_Bool r):=by
  refine Go.VC.Spec.of_xc (args:=[.agg (Port.enc a0)]) (fn:=Tryz.f69) tab ⟨[(0,[1]),(1,[1,3]),(2,[2])],[],[],[]⟩ 31 [.tmp 2] rfl rfl rfl rfl rfl rfl ?_
  conv=>whnf
  refine caS (E:=E_Bool) h (port_may_1_w a0.From) rfl (fun _=>rfl) (fun x1 h=>?_)
  conv=>whnf
  refine fkS h (fun h=>?_) (fun h=>?_)
  · conv=>whnf
    refine caS (E:=E_Bool) h (port_may_1_w a0.To) rfl (fun _=>rfl) (fun x2 h=>?_)
    conv=>whnf
    refine fkS h (fun h=>?_) (fun h=>?_)
    · conv=>whnf
      refine fkS h (fun h=>?_) (fun h=>?_)
      · conv=>whnf
        refine fkS h (fun h=>?_) (fun h=>?_)
        · conv=>whnf
          exact rt (E:=E_Bool) h rfl
        conv=>whnf
        exact rt (E:=E_Bool) h rfl
      conv=>whnf
      exact rt (E:=E_Bool) h rfl
    conv=>whnf
    exact rt (E:=E_Bool) h rfl
  conv=>whnf
  exact rt (E:=E_Bool) h rfl

end Go.Proofs.YtldlcdnhdedoeaaGreat
namespace Go.Proofs.YtldlcdnhdedoeaaGreat
open Go Go.VC
noncomputable def ring_New (a0:Int):Option (RingRing×Int):=
  jn (fun (w1:Bool)=>fk w1 (some (⟨[],(0:Int),(0:Int)⟩,(1:Int))) (ck (decide ((0:Int)≤a0) && decide (a0*((8:Nat):Int)≤140737488355328) && decide (a0≤1000000000000)) (some (⟨List.replicate a0.toNat ((0:Int):Int),(0:Int),(0:Int)⟩,(0:Int))))) (fun k1=>fk (decide (a0<(1:Int))) (k1 true) (k1 (decide (a0>(4:Int)))))
theorem ring_New_w (a0:Int) (r:RingRing×Int) (h:ring_New a0=some r):Go.VC.Spec Tryz.prog 70 [.d (.int .i64 a0)] (fun y=>y=E_RingRing_Int r):=by
  refine Go.VC.Spec.of_xc (args:=[.d (.int .i64 a0)]) (fn:=Tryz.f70) tab ⟨[(0,[0,2]),(1,[0,2,9]),(2,[2,3]),(3,[2,3])],[],[100009],[]⟩ 14 [.cell 2 93,.tmp 3] rfl rfl rfl rfl rfl rfl ?_
  conv=>whnf
  refine jnS (fun w1=>⟨[(0,.l (.d (.int .i64 a0))),(2,.l (.ptr 3 0)),(9,.l (.d (.bool w1)))],14,[],[(3,[.nil,.d (.int .i64 (0:Int)),.d (.int .i64 (0:Int))])],[]⟩) h (fun k1 hk1 h=>?_) (fun w1 h=>?_)
  · conv=>whnf
    refine fkS h (fun h=>?_) (fun h=>?_)
    · conv=>whnf
      exact jeS hk1 h (Weak.refl _)
    conv=>whnf
    exact jeS hk1 h (Weak.refl _)
  conv=>whnf
  refine fkS h (fun h=>?_) (fun h=>?_)
  · conv=>whnf
    exact rt (E:=E_RingRing_Int) h rfl
  conv=>whnf
  refine mkS ((0:Int):Int) (eI .i64) h rfl rfl (fun h=>?_)
  conv=>whnf
  exact rt (E:=E_RingRing_Int) h rfl

end Go.Proofs.YtldlcdnhdedoeaaGreat
namespace Go.Proofs.YtldlcdnhdedoeaaGreat
open Go Go.VC
noncomputable def port_Open (a0:List Port):Option ((List PortLine)×Int):=
  lp (fun nx1 (v1:(List PortLine)×Int)=>fk (decide (v1.2<(a0.length:Int))) (ix a0 v1.2 fun x2=>bnd (port_may x2) fun x3=>fk (!x3) (some ([],(1:Int))) (bnd (ring_New x2.Cap) fun x4=>bnd (ring_New x2.Cap) fun x5=>ck (decide ((v1.1.length+([⟨x2,x4.1,x5.1⟩]:List PortLine).length)*104≤140737488355328)) (nx1 (v1.1++([⟨x2,x4.1,x5.1⟩]:List PortLine),(wr (v1.2+(1:Int))))))) (fk (decide ((v1.1.length:Int)>(4:Int))) (some ([],(1:Int))) (some (v1.1,(0:Int))))) FU ([],(0:Int))
theorem port_Open_w (a0:List Port) (r:(List PortLine)×Int) (h:port_Open a0=some r):Go.VC.Spec Tryz.prog 23 [.d (.sl (a0.map Port.enc))] (fun y=>y=E_ListPortLine_Int r):=by
  refine Go.VC.Spec.of_xc (args:=[.d (.sl (a0.map Port.enc))]) (fn:=Tryz.f23) tab ⟨[(0,[0]),(1,[0,4]),(2,[4,11,12,13]),(3,[4,11,12,13,14]),(4,[4,6,11,12,13]),(5,[4,6,11,12,13,19]),(6,[2,3]),(7,[4,6,7,11,12,13]),(8,[4,6,7,9,11,12,13]),(9,[4,11,12,13]),(10,[4,11,12,13]),(11,[4,42]),(12,[2,3]),(13,[2,3])],[],[],[]⟩ 44 [.tmp 2,.tmp 3] rfl rfl rfl rfl rfl rfl ?_
  conv=>whnf
  refine lenS a0 Port.enc rfl ?_
  conv=>whnf
  refine lpS (fun v1=>⟨[(4,.l (.own 5)),(11,.l (.d (.sl (a0.map Port.enc)))),(12,.l (.d (.int .i64 (a0.length:Int)))),(13,.l (.d (.int .i64 v1.2)))],44,[],[],[(5,95,9,v1.1.map PortLine.enc)]⟩) h (Weak.trans (Weak.nilO _ 4 5 95 9 rfl) (Weak.refl _)) (fun _ nx1 hn1 v1 h=>?_)
  conv=>whnf
  refine fkS h (fun h=>?_) (fun h=>?_)
  · conv=>whnf
    refine ixS (enc:=Port.enc) h rfl (fun _=>rfl) (fun x2 h=>?_)
    conv=>whnf
    refine caS (E:=E_Bool) h (port_may_w x2) rfl (fun _=>rfl) (fun x3 h=>?_)
    conv=>whnf
    refine fkS h (fun h=>?_) (fun h=>?_)
    · conv=>whnf
      exact rt (E:=E_ListPortLine_Int) h rfl
    conv=>whnf
    refine ccS (E:=E_RingRing_Int) h (ring_New_w x2.Cap) rfl rfl (fun x4 h=>?_)
    conv=>whnf
    refine ccS (E:=E_RingRing_Int) h (ring_New_w x2.Cap) rfl rfl (fun x5 h=>?_)
    conv=>whnf
    refine liS ([⟨x2,x4.1,x5.1⟩]:List PortLine) PortLine.enc rfl rfl ?_
    conv=>whnf
    refine apS (enc:=PortLine.enc) (l1:=v1.1) (l2:=([⟨x2,x4.1,x5.1⟩]:List PortLine)) h rfl rfl (fun _=>rfl) (fun h=>?_)
    conv=>whnf
    exact leS hn1 h (Weak.refl _)
  conv=>whnf
  refine lenS v1.1 PortLine.enc rfl ?_
  conv=>whnf
  refine fkS h (fun h=>?_) (fun h=>?_)
  · conv=>whnf
    exact rt (E:=E_ListPortLine_Int) h rfl
  conv=>whnf
  exact rt (E:=E_ListPortLine_Int) h rfl

end Go.Proofs.YtldlcdnhdedoeaaGreat
namespace Go.Proofs.YtldlcdnhdedoeaaGreat
open Go Go.VC
noncomputable def image_Right (a0:Config):Option Bool:=
  lp (fun nx1 (v1:Int)=>fk (decide (v1<(a0.Parts.length:Int))) (ix a0.Parts v1 fun x2=>jn (fun (w3:Bool)=>fk w3 (some false) (nx1 (wr (v1+(1:Int))))) (fun k3=>bnd (supply_Right x2.Face) fun x4=>fk (!x4) (k3 true) (bnd (task_All x2.Tasks) fun x5=>k3 (!x5)))) (lp (fun nx6 (v6:Int)=>fk (decide (v6<(a0.Ports.length:Int))) (ix a0.Ports v6 fun x7=>jn (fun (w8:Bool)=>fk w8 (some false) (nx6 (wr (v6+(1:Int))))) (fun k8=>fk (decide (x7.From≥(a0.Parts.length:Int))) (k8 true) (k8 (decide (x7.To≥(a0.Parts.length:Int)))))) (bnd (port_Open a0.Ports) fun x9=>fk (decide (x9.2=(0:Int))) (some (decide ((a0.Parts.length:Int)≤(4:Int)))) (some false))) FU (0:Int))) FU (0:Int)
theorem image_Right_w (a0:Config) (r:Bool) (h:image_Right a0=some r):Go.VC.Spec Tryz.prog 54 [.agg (Config.enc a0)] (fun y=>y=E_Bool r):=by
  refine Go.VC.Spec.of_xc (args:=[.agg (Config.enc a0)]) (fn:=Tryz.f54) tab ⟨[(0,[1]),(1,[1,10,11,12]),(2,[1,10,11,12,13]),(3,[1,4,10,11,12]),(4,[1,10,11,12,25]),(5,[2]),(6,[1,10,11,12]),(7,[1,28,29,30]),(8,[1,28,29,30,31]),(9,[1,6,28,29,30]),(10,[1,28,29,30,47]),(11,[2]),(12,[1,28,29,30]),(13,[1,8]),(14,[2])],[],[100025,100047],[]⟩ 63 [.tmp 2] rfl rfl rfl rfl rfl rfl ?_
  conv=>whnf
  refine lenS a0.Parts Part.enc rfl ?_
  conv=>whnf
  refine lpS (fun v1=>⟨[(1,.l (.ptr 2 0)),(10,.l (.d (.sl (a0.Parts.map Part.enc)))),(11,.l (.d (.int .i64 (a0.Parts.length:Int)))),(12,.l (.d (.int .i64 v1)))],63,[],[(2,[.d (.sl (a0.Parts.map Part.enc)),.d (.sl (a0.Ports.map Port.enc))])],[]⟩) h (Weak.refl _) (fun _ nx1 hn1 v1 h=>?_)
  conv=>whnf
  refine fkS h (fun h=>?_) (fun h=>?_)
  · conv=>whnf
    refine ixS (enc:=Part.enc) h rfl (fun _=>rfl) (fun x2 h=>?_)
    conv=>whnf
    refine jnS (fun w3=>⟨[(1,.l (.ptr 2 0)),(10,.l (.d (.sl (a0.Parts.map Part.enc)))),(11,.l (.d (.int .i64 (a0.Parts.length:Int)))),(12,.l (.d (.int .i64 v1))),(25,.l (.d (.bool w3)))],63,[],[(2,[.d (.sl (a0.Parts.map Part.enc)),.d (.sl (a0.Ports.map Port.enc))])],[]⟩) h (fun k3 hk3 h=>?_) (fun w3 h=>?_)
    · conv=>whnf
      refine caS (E:=E_Bool) h (supply_Right_w x2.Face) rfl (fun _=>rfl) (fun x4 h=>?_)
      conv=>whnf
      refine fkS h (fun h=>?_) (fun h=>?_)
      · conv=>whnf
        exact jeS hk3 h (Weak.refl _)
      conv=>whnf
      refine caS (E:=E_Bool) h (task_All_w x2.Tasks) rfl (fun _=>rfl) (fun x5 h=>?_)
      conv=>whnf
      exact jeS hk3 h (Weak.refl _)
    conv=>whnf
    refine fkS h (fun h=>?_) (fun h=>?_)
    · conv=>whnf
      exact rt (E:=E_Bool) h rfl
    conv=>whnf
    exact leS hn1 h (Weak.refl _)
  conv=>whnf
  refine lenS a0.Ports Port.enc rfl ?_
  conv=>whnf
  refine lpS (fun v6=>⟨[(1,.l (.ptr 2 0)),(28,.l (.d (.sl (a0.Ports.map Port.enc)))),(29,.l (.d (.int .i64 (a0.Ports.length:Int)))),(30,.l (.d (.int .i64 v6)))],63,[],[(2,[.d (.sl (a0.Parts.map Part.enc)),.d (.sl (a0.Ports.map Port.enc))])],[]⟩) h (Weak.refl _) (fun _ nx6 hn6 v6 h=>?_)
  conv=>whnf
  refine fkS h (fun h=>?_) (fun h=>?_)
  · conv=>whnf
    refine ixS (enc:=Port.enc) h rfl (fun _=>rfl) (fun x7 h=>?_)
    conv=>whnf
    refine jnS (fun w8=>⟨[(1,.l (.ptr 2 0)),(28,.l (.d (.sl (a0.Ports.map Port.enc)))),(29,.l (.d (.int .i64 (a0.Ports.length:Int)))),(30,.l (.d (.int .i64 v6))),(47,.l (.d (.bool w8)))],63,[],[(2,[.d (.sl (a0.Parts.map Part.enc)),.d (.sl (a0.Ports.map Port.enc))])],[]⟩) h (fun k8 hk8 h=>?_) (fun w8 h=>?_)
    · conv=>whnf
      refine lenS a0.Parts Part.enc rfl ?_
      conv=>whnf
      refine fkS h (fun h=>?_) (fun h=>?_)
      · conv=>whnf
        exact jeS hk8 h (Weak.refl _)
      conv=>whnf
      refine lenS a0.Parts Part.enc rfl ?_
      conv=>whnf
      exact jeS hk8 h (Weak.refl _)
    conv=>whnf
    refine fkS h (fun h=>?_) (fun h=>?_)
    · conv=>whnf
      exact rt (E:=E_Bool) h rfl
    conv=>whnf
    exact leS hn6 h (Weak.refl _)
  conv=>whnf
  refine ccS (E:=E_ListPortLine_Int) h (port_Open_w a0.Ports) rfl rfl (fun x9 h=>?_)
  conv=>whnf
  refine fkS h (fun h=>?_) (fun h=>?_)
  · conv=>whnf
    refine lenS a0.Parts Part.enc rfl ?_
    conv=>whnf
    exact rt (E:=E_Bool) h rfl
  conv=>whnf
  exact rt (E:=E_Bool) h rfl

end Go.Proofs.YtldlcdnhdedoeaaGreat
namespace Go.Proofs.YtldlcdnhdedoeaaGreat
open Go Go.VC
noncomputable def image_Encode (a0:Config):Option ((List Int)×Int):=
  bnd (image_Right a0) fun x1=>fk (!x1) (some ([],(1:Int))) (lp (fun nx2 (v2:(List Int)×Int)=>fk (decide (v2.2<(([(a0.Parts.length:Int)]:List Int).length:Int))) (ck (decide (0≤v2.2) && decide (v2.2<(([(a0.Parts.length:Int)]:List Int).length:Int))) (ox ([(a0.Parts.length:Int)]:List Int) v2.2.toNat fun x3=>ck (decide ((v2.1.length+([(IntKind.u8.wrap x3)]:List Int).length)*1≤140737488355328)) (nx2 (v2.1++([(IntKind.u8.wrap x3)]:List Int),(wr (v2.2+(1:Int))))))) (lp (fun nx4 (v4:(List Int)×Int)=>fk (decide (v4.2<(a0.Parts.length:Int))) (ix a0.Parts v4.2 fun x5=>lp (fun nx6 (v6:(List Int)×Int)=>fk (decide (v6.2<(([x5.Face.P,x5.Face.B,(x5.Tasks.length:Int)]:List Int).length:Int))) (ck (decide (0≤v6.2) && decide (v6.2<(([x5.Face.P,x5.Face.B,(x5.Tasks.length:Int)]:List Int).length:Int))) (ox ([x5.Face.P,x5.Face.B,(x5.Tasks.length:Int)]:List Int) v6.2.toNat fun x7=>ck (decide ((v6.1.length+([(IntKind.u8.wrap x7)]:List Int).length)*1≤140737488355328)) (nx6 (v6.1++([(IntKind.u8.wrap x7)]:List Int),(wr (v6.2+(1:Int))))))) (lp (fun nx8 (v8:(List Int)×Int)=>fk (decide (v8.2<(x5.Tasks.length:Int))) (ix x5.Tasks v8.2 fun x9=>lp (fun nx10 (v10:(List Int)×Int)=>fk (decide (v10.2<(([x9.C,x9.D,x9.T,(x9.Secs.length:Int)]:List Int).length:Int))) (ck (decide (0≤v10.2) && decide (v10.2<(([x9.C,x9.D,x9.T,(x9.Secs.length:Int)]:List Int).length:Int))) (ox ([x9.C,x9.D,x9.T,(x9.Secs.length:Int)]:List Int) v10.2.toNat fun x11=>ck (decide ((v10.1.length+([(IntKind.u8.wrap x11)]:List Int).length)*1≤140737488355328)) (nx10 (v10.1++([(IntKind.u8.wrap x11)]:List Int),(wr (v10.2+(1:Int))))))) (lp (fun nx12 (v12:(List Int)×Int)=>fk (decide (v12.2<(x9.Secs.length:Int))) (ix x9.Secs v12.2 fun x13=>lp (fun nx14 (v14:(List Int)×Int)=>fk (decide (v14.2<(([x13.Res,x13.At,x13.Len]:List Int).length:Int))) (ck (decide (0≤v14.2) && decide (v14.2<(([x13.Res,x13.At,x13.Len]:List Int).length:Int))) (ox ([x13.Res,x13.At,x13.Len]:List Int) v14.2.toNat fun x15=>ck (decide ((v14.1.length+([(IntKind.u8.wrap x15)]:List Int).length)*1≤140737488355328)) (nx14 (v14.1++([(IntKind.u8.wrap x15)]:List Int),(wr (v14.2+(1:Int))))))) (nx12 (v14.1,(wr (v12.2+(1:Int)))))) FU (v12.1,(0:Int))) (nx8 (v12.1,(wr (v8.2+(1:Int)))))) FU (v10.1,(0:Int)))) FU (v8.1,(0:Int))) (nx4 (v8.1,(wr (v4.2+(1:Int)))))) FU (v6.1,(0:Int)))) FU (v4.1,(0:Int))) (lp (fun nx16 (v16:(List Int)×Int)=>fk (decide (v16.2<(([(a0.Ports.length:Int)]:List Int).length:Int))) (ck (decide (0≤v16.2) && decide (v16.2<(([(a0.Ports.length:Int)]:List Int).length:Int))) (ox ([(a0.Ports.length:Int)]:List Int) v16.2.toNat fun x17=>ck (decide ((v16.1.length+([(IntKind.u8.wrap x17)]:List Int).length)*1≤140737488355328)) (nx16 (v16.1++([(IntKind.u8.wrap x17)]:List Int),(wr (v16.2+(1:Int))))))) (lp (fun nx18 (v18:(List Int)×Int)=>fk (decide (v18.2<(a0.Ports.length:Int))) (ix a0.Ports v18.2 fun x19=>lp (fun nx20 (v20:(List Int)×Int)=>fk (decide (v20.2<(([x19.From,x19.To,x19.Cap]:List Int).length:Int))) (ck (decide (0≤v20.2) && decide (v20.2<(([x19.From,x19.To,x19.Cap]:List Int).length:Int))) (ox ([x19.From,x19.To,x19.Cap]:List Int) v20.2.toNat fun x21=>ck (decide ((v20.1.length+([(IntKind.u8.wrap x21)]:List Int).length)*1≤140737488355328)) (nx20 (v20.1++([(IntKind.u8.wrap x21)]:List Int),(wr (v20.2+(1:Int))))))) (nx18 (v20.1,(wr (v18.2+(1:Int)))))) FU (v18.1,(0:Int))) (some (v18.1,(0:Int)))) FU (v16.1,(0:Int)))) FU (v4.1,(0:Int)))) FU (v2.1,(0:Int)))) FU (([(84:Int),(75:Int),(49:Int)]:List Int),(0:Int)))
theorem image_Encode_w (a0:Config) (r:(List Int)×Int) (h:image_Encode a0=some r):Go.VC.Spec Tryz.prog 51 [.agg (Config.enc a0)] (fun y=>y=E_ListIntu8_Int r):=by
  refine Go.VC.Spec.of_xc (args:=[.agg (Config.enc a0)]) (fn:=Tryz.f51) tab ⟨[(0,[1]),(1,[1,16]),(2,[2,3]),(3,[1,4]),(4,[1,4,5]),(5,[1,4,5]),(6,[1,4,5,27,28,29]),(7,[1,4,5,27,28,29,30]),(8,[1,4,5,7,27,28,29]),(9,[1,4,5,7,27,28,29]),(10,[1,4,5,27,28,29,46,47,48]),(11,[1,4,5,27,28,29,46,47,48,49]),(12,[1,4,5,9,27,28,29,46,47,48]),(13,[1,4,5,9,27,28,29,46,47,48]),(14,[1,4,5,27,28,29,46,47,48,65,66,67]),(15,[1,4,5,27,28,29,46,47,48,65,66,67,68]),(16,[1,4,5,11,27,28,29,46,47,48,65,66,67]),(17,[1,4,5,27,28,29,46,47,48,65,66,67]),(18,[1,4,5,27,28,29,46,47,48,65,66,67]),(19,[1,4,5,27,28,29,46,47,48]),(20,[1,4,5,27,28,29]),(21,[1,4,5]),(22,[4,5,90,91,92]),(23,[4,5,90,91,92,93]),(24,[4,5,13,90,91,92]),(25,[4,5,90,91,92]),(26,[4,5,90,91,92]),(27,[2,3])],[],[],[]⟩ 107 [.tmp 2,.tmp 3] rfl rfl rfl rfl rfl rfl ?_
  conv=>whnf
  refine caS (E:=E_Bool) h (image_Right_w a0) rfl (fun _=>rfl) (fun x1 h=>?_)
  conv=>whnf
  refine fkS h (fun h=>?_) (fun h=>?_)
  · conv=>whnf
    exact rt (E:=E_ListIntu8_Int) h rfl
  conv=>whnf
  refine liS ([(84:Int),(75:Int),(49:Int)]:List Int) (eI .u8) rfl rfl ?_
  conv=>whnf
  refine cvM rfl rfl rfl rfl rfl Tryz.underlying97 Tryz.underlying5 ?_
  conv=>whnf
  refine lenS a0.Parts Part.enc rfl ?_
  conv=>whnf
  refine liS ([(a0.Parts.length:Int)]:List Int) (eI .i64) rfl rfl ?_
  conv=>whnf
  refine inS (fn:=Tryz.f110) tab ⟨[(0,[1,5,6,7]),(1,[1,5,6,7,8]),(2,[1,4,5,6,7]),(3,[1,5,6,7]),(4,[1,5,6,7])],[],[],[]⟩ 17 [] rfl rfl rfl rfl rfl rfl ?_
  conv=>whnf
  refine lenS ([(a0.Parts.length:Int)]:List Int) (eI .i64) rfl ?_
  conv=>whnf
  refine lpS (fun v2=>⟨[(1,.l (.ptr 5 0)),(5,.l (.own 25)),(6,.l (.d (.int .i64 (([(a0.Parts.length:Int)]:List Int).length:Int)))),(7,.l (.d (.int .i64 v2.2)))],17,[⟨[(24,.l (.own 25)),(23,.l (.d (.int .i64 (a0.Parts.length:Int)))),(22,.l (.d (.sl (a0.Parts.map Part.enc)))),(21,.l (.ptr 2 0)),(20,.l (.func 110 [.k 5])),(1,.l (.ptr 2 0)),(4,.l (.ptr 5 0)),(5,.l (.func 110 [.k 5]))],107⟩],[(2,[.d (.sl (a0.Parts.map Part.enc)),.d (.sl (a0.Ports.map Port.enc))]),(5,[.own 18])],[(18,5,1,v2.1.map (eI .u8)),(25,3,1,([(a0.Parts.length:Int)]:List Int).map (eI .i64))]⟩) h (Weak.refl _) (fun _ nx2 hn2 v2 h=>?_)
  conv=>whnf
  refine fkS h (fun h=>?_) (fun h=>?_)
  · conv=>whnf
    refine ioS (enc:=(eI .i64)) h rfl (fun h=>?_)
    conv=>whnf
    refine oxS (enc:=(eI .i64)) h rfl (fun x3 h=>?_)
    conv=>whnf
    refine liS ([(IntKind.u8.wrap x3)]:List Int) (eI .u8) rfl rfl ?_
    conv=>whnf
    refine apS (enc:=(eI .u8)) (l1:=v2.1) (l2:=([(IntKind.u8.wrap x3)]:List Int)) h rfl rfl (fun _=>rfl) (fun h=>?_)
    conv=>whnf
    refine leX hn2 h ?_
    conv=>whnf
    refine WkF.step (Weak.rekey _ 1016 18 rfl) ?_
    conv=>whnf
    exact WkF.refl _
  conv=>whnf
  refine lenS a0.Parts Part.enc rfl ?_
  conv=>whnf
  refine lpS (fun v4=>⟨[(1,.l (.ptr 2 0)),(4,.l (.ptr 5 0)),(5,.l (.func 110 [.k 5])),(27,.l (.d (.sl (a0.Parts.map Part.enc)))),(28,.l (.d (.int .i64 (a0.Parts.length:Int)))),(29,.l (.d (.int .i64 v4.2)))],107,[],[(2,[.d (.sl (a0.Parts.map Part.enc)),.d (.sl (a0.Ports.map Port.enc))]),(5,[.own 18])],[(18,5,1,v4.1.map (eI .u8))]⟩) h (Weak.refl _) (fun _ nx4 hn4 v4 h=>?_)
  conv=>whnf
  refine fkS h (fun h=>?_) (fun h=>?_)
  · conv=>whnf
    refine ixS (enc:=Part.enc) h rfl (fun _=>rfl) (fun x5 h=>?_)
    conv=>whnf
    refine lenS x5.Tasks Task.enc rfl ?_
    conv=>whnf
    refine liS ([x5.Face.P,x5.Face.B,(x5.Tasks.length:Int)]:List Int) (eI .i64) rfl rfl ?_
    conv=>whnf
    refine inS (fn:=Tryz.f110) tab ⟨[(0,[1,5,6,7]),(1,[1,5,6,7,8]),(2,[1,4,5,6,7]),(3,[1,5,6,7]),(4,[1,5,6,7])],[],[],[]⟩ 17 [] rfl rfl rfl rfl rfl rfl ?_
    conv=>whnf
    refine lenS ([x5.Face.P,x5.Face.B,(x5.Tasks.length:Int)]:List Int) (eI .i64) rfl ?_
    conv=>whnf
    refine lpS (fun v6=>⟨[(1,.l (.ptr 5 0)),(5,.l (.own 44)),(6,.l (.d (.int .i64 (([x5.Face.P,x5.Face.B,(x5.Tasks.length:Int)]:List Int).length:Int)))),(7,.l (.d (.int .i64 v6.2)))],17,[⟨[(43,.l (.own 44)),(42,.l (.d (.int .i64 (x5.Tasks.length:Int)))),(41,.l (.d (.sl (x5.Tasks.map Task.enc)))),(40,.l (.ptr 8 2)),(39,.l (.d (.int .i64 x5.Face.B))),(38,.l (.ptr 8 1)),(37,.l (.ptr 8 0)),(36,.l (.d (.int .i64 x5.Face.P))),(35,.l (.ptr 8 0)),(34,.l (.ptr 8 0)),(33,.l (.func 110 [.k 5])),(1,.l (.ptr 2 0)),(4,.l (.ptr 5 0)),(5,.l (.func 110 [.k 5])),(7,.l (.ptr 8 0)),(27,.l (.d (.sl (a0.Parts.map Part.enc)))),(28,.l (.d (.int .i64 (a0.Parts.length:Int)))),(29,.l (.d (.int .i64 v4.2)))],107⟩],[(2,[.d (.sl (a0.Parts.map Part.enc)),.d (.sl (a0.Ports.map Port.enc))]),(5,[.own 18]),(8,[.d (.int .i64 x5.Face.P),.d (.int .i64 x5.Face.B),.d (.sl (x5.Tasks.map Task.enc))])],[(18,5,1,v6.1.map (eI .u8)),(44,3,1,([x5.Face.P,x5.Face.B,(x5.Tasks.length:Int)]:List Int).map (eI .i64))]⟩) h (Weak.refl _) (fun _ nx6 hn6 v6 h=>?_)
    conv=>whnf
    refine fkS h (fun h=>?_) (fun h=>?_)
    · conv=>whnf
      refine ioS (enc:=(eI .i64)) h rfl (fun h=>?_)
      conv=>whnf
      refine oxS (enc:=(eI .i64)) h rfl (fun x7 h=>?_)
      conv=>whnf
      refine liS ([(IntKind.u8.wrap x7)]:List Int) (eI .u8) rfl rfl ?_
      conv=>whnf
      refine apS (enc:=(eI .u8)) (l1:=v6.1) (l2:=([(IntKind.u8.wrap x7)]:List Int)) h rfl rfl (fun _=>rfl) (fun h=>?_)
      conv=>whnf
      refine leX hn6 h ?_
      conv=>whnf
      refine WkF.step (Weak.rekey _ 1016 18 rfl) ?_
      conv=>whnf
      exact WkF.refl _
    conv=>whnf
    refine lenS x5.Tasks Task.enc rfl ?_
    conv=>whnf
    refine lpS (fun v8=>⟨[(1,.l (.ptr 2 0)),(4,.l (.ptr 5 0)),(5,.l (.func 110 [.k 5])),(27,.l (.d (.sl (a0.Parts.map Part.enc)))),(28,.l (.d (.int .i64 (a0.Parts.length:Int)))),(29,.l (.d (.int .i64 v4.2))),(46,.l (.d (.sl (x5.Tasks.map Task.enc)))),(47,.l (.d (.int .i64 (x5.Tasks.length:Int)))),(48,.l (.d (.int .i64 v8.2)))],107,[],[(2,[.d (.sl (a0.Parts.map Part.enc)),.d (.sl (a0.Ports.map Port.enc))]),(5,[.own 18])],[(18,5,1,v8.1.map (eI .u8))]⟩) h (Weak.refl _) (fun _ nx8 hn8 v8 h=>?_)
    conv=>whnf
    refine fkS h (fun h=>?_) (fun h=>?_)
    · conv=>whnf
      refine ixS (enc:=Task.enc) h rfl (fun _=>rfl) (fun x9 h=>?_)
      conv=>whnf
      refine lenS x9.Secs Sec.enc rfl ?_
      conv=>whnf
      refine liS ([x9.C,x9.D,x9.T,(x9.Secs.length:Int)]:List Int) (eI .i64) rfl rfl ?_
      conv=>whnf
      refine inS (fn:=Tryz.f110) tab ⟨[(0,[1,5,6,7]),(1,[1,5,6,7,8]),(2,[1,4,5,6,7]),(3,[1,5,6,7]),(4,[1,5,6,7])],[],[],[]⟩ 17 [] rfl rfl rfl rfl rfl rfl ?_
      conv=>whnf
      refine lenS ([x9.C,x9.D,x9.T,(x9.Secs.length:Int)]:List Int) (eI .i64) rfl ?_
      conv=>whnf
      refine lpS (fun v10=>⟨[(1,.l (.ptr 5 0)),(5,.l (.own 63)),(6,.l (.d (.int .i64 (([x9.C,x9.D,x9.T,(x9.Secs.length:Int)]:List Int).length:Int)))),(7,.l (.d (.int .i64 v10.2)))],17,[⟨[(62,.l (.own 63)),(61,.l (.d (.int .i64 (x9.Secs.length:Int)))),(60,.l (.d (.sl (x9.Secs.map Sec.enc)))),(59,.l (.ptr 10 3)),(58,.l (.d (.int .i64 x9.T))),(57,.l (.ptr 10 2)),(56,.l (.d (.int .i64 x9.D))),(55,.l (.ptr 10 1)),(54,.l (.d (.int .i64 x9.C))),(53,.l (.ptr 10 0)),(52,.l (.func 110 [.k 5])),(1,.l (.ptr 2 0)),(4,.l (.ptr 5 0)),(5,.l (.func 110 [.k 5])),(9,.l (.ptr 10 0)),(27,.l (.d (.sl (a0.Parts.map Part.enc)))),(28,.l (.d (.int .i64 (a0.Parts.length:Int)))),(29,.l (.d (.int .i64 v4.2))),(46,.l (.d (.sl (x5.Tasks.map Task.enc)))),(47,.l (.d (.int .i64 (x5.Tasks.length:Int)))),(48,.l (.d (.int .i64 v8.2)))],107⟩],[(2,[.d (.sl (a0.Parts.map Part.enc)),.d (.sl (a0.Ports.map Port.enc))]),(5,[.own 18]),(10,[.d (.int .i64 x9.C),.d (.int .i64 x9.D),.d (.int .i64 x9.T),.d (.sl (x9.Secs.map Sec.enc))])],[(18,5,1,v10.1.map (eI .u8)),(63,3,1,([x9.C,x9.D,x9.T,(x9.Secs.length:Int)]:List Int).map (eI .i64))]⟩) h (Weak.refl _) (fun _ nx10 hn10 v10 h=>?_)
      conv=>whnf
      refine fkS h (fun h=>?_) (fun h=>?_)
      · conv=>whnf
        refine ioS (enc:=(eI .i64)) h rfl (fun h=>?_)
        conv=>whnf
        refine oxS (enc:=(eI .i64)) h rfl (fun x11 h=>?_)
        conv=>whnf
        refine liS ([(IntKind.u8.wrap x11)]:List Int) (eI .u8) rfl rfl ?_
        conv=>whnf
        refine apS (enc:=(eI .u8)) (l1:=v10.1) (l2:=([(IntKind.u8.wrap x11)]:List Int)) h rfl rfl (fun _=>rfl) (fun h=>?_)
        conv=>whnf
        refine leX hn10 h ?_
        conv=>whnf
        refine WkF.step (Weak.rekey _ 1016 18 rfl) ?_
        conv=>whnf
        exact WkF.refl _
      conv=>whnf
      refine lenS x9.Secs Sec.enc rfl ?_
      conv=>whnf
      refine lpS (fun v12=>⟨[(1,.l (.ptr 2 0)),(4,.l (.ptr 5 0)),(5,.l (.func 110 [.k 5])),(27,.l (.d (.sl (a0.Parts.map Part.enc)))),(28,.l (.d (.int .i64 (a0.Parts.length:Int)))),(29,.l (.d (.int .i64 v4.2))),(46,.l (.d (.sl (x5.Tasks.map Task.enc)))),(47,.l (.d (.int .i64 (x5.Tasks.length:Int)))),(48,.l (.d (.int .i64 v8.2))),(65,.l (.d (.sl (x9.Secs.map Sec.enc)))),(66,.l (.d (.int .i64 (x9.Secs.length:Int)))),(67,.l (.d (.int .i64 v12.2)))],107,[],[(2,[.d (.sl (a0.Parts.map Part.enc)),.d (.sl (a0.Ports.map Port.enc))]),(5,[.own 18])],[(18,5,1,v12.1.map (eI .u8))]⟩) h (Weak.refl _) (fun _ nx12 hn12 v12 h=>?_)
      conv=>whnf
      refine fkS h (fun h=>?_) (fun h=>?_)
      · conv=>whnf
        refine ixS (enc:=Sec.enc) h rfl (fun _=>rfl) (fun x13 h=>?_)
        conv=>whnf
        refine liS ([x13.Res,x13.At,x13.Len]:List Int) (eI .i64) rfl rfl ?_
        conv=>whnf
        refine inS (fn:=Tryz.f110) tab ⟨[(0,[1,5,6,7]),(1,[1,5,6,7,8]),(2,[1,4,5,6,7]),(3,[1,5,6,7]),(4,[1,5,6,7])],[],[],[]⟩ 17 [] rfl rfl rfl rfl rfl rfl ?_
        conv=>whnf
        refine lenS ([x13.Res,x13.At,x13.Len]:List Int) (eI .i64) rfl ?_
        conv=>whnf
        refine lpS (fun v14=>⟨[(1,.l (.ptr 5 0)),(5,.l (.own 79)),(6,.l (.d (.int .i64 (([x13.Res,x13.At,x13.Len]:List Int).length:Int)))),(7,.l (.d (.int .i64 v14.2)))],17,[⟨[(78,.l (.own 79)),(77,.l (.d (.int .i64 x13.Len))),(76,.l (.ptr 12 2)),(75,.l (.d (.int .i64 x13.At))),(74,.l (.ptr 12 1)),(73,.l (.d (.int .i64 x13.Res))),(72,.l (.ptr 12 0)),(71,.l (.func 110 [.k 5])),(1,.l (.ptr 2 0)),(4,.l (.ptr 5 0)),(5,.l (.func 110 [.k 5])),(11,.l (.ptr 12 0)),(27,.l (.d (.sl (a0.Parts.map Part.enc)))),(28,.l (.d (.int .i64 (a0.Parts.length:Int)))),(29,.l (.d (.int .i64 v4.2))),(46,.l (.d (.sl (x5.Tasks.map Task.enc)))),(47,.l (.d (.int .i64 (x5.Tasks.length:Int)))),(48,.l (.d (.int .i64 v8.2))),(65,.l (.d (.sl (x9.Secs.map Sec.enc)))),(66,.l (.d (.int .i64 (x9.Secs.length:Int)))),(67,.l (.d (.int .i64 v12.2)))],107⟩],[(2,[.d (.sl (a0.Parts.map Part.enc)),.d (.sl (a0.Ports.map Port.enc))]),(5,[.own 18]),(12,[.d (.int .i64 x13.Res),.d (.int .i64 x13.At),.d (.int .i64 x13.Len)])],[(18,5,1,v14.1.map (eI .u8)),(79,3,1,([x13.Res,x13.At,x13.Len]:List Int).map (eI .i64))]⟩) h (Weak.refl _) (fun _ nx14 hn14 v14 h=>?_)
        conv=>whnf
        refine fkS h (fun h=>?_) (fun h=>?_)
        · conv=>whnf
          refine ioS (enc:=(eI .i64)) h rfl (fun h=>?_)
          conv=>whnf
          refine oxS (enc:=(eI .i64)) h rfl (fun x15 h=>?_)
          conv=>whnf
          refine liS ([(IntKind.u8.wrap x15)]:List Int) (eI .u8) rfl rfl ?_
          conv=>whnf
          refine apS (enc:=(eI .u8)) (l1:=v14.1) (l2:=([(IntKind.u8.wrap x15)]:List Int)) h rfl rfl (fun _=>rfl) (fun h=>?_)
          conv=>whnf
          refine leX hn14 h ?_
          conv=>whnf
          refine WkF.step (Weak.rekey _ 1016 18 rfl) ?_
          conv=>whnf
          exact WkF.refl _
        conv=>whnf
        exact leS hn12 h (Weak.refl _)
      conv=>whnf
      exact leS hn8 h (Weak.refl _)
    conv=>whnf
    exact leS hn4 h (Weak.refl _)
  conv=>whnf
  refine lenS a0.Ports Port.enc rfl ?_
  conv=>whnf
  refine liS ([(a0.Ports.length:Int)]:List Int) (eI .i64) rfl rfl ?_
  conv=>whnf
  refine inS (fn:=Tryz.f110) tab ⟨[(0,[1,5,6,7]),(1,[1,5,6,7,8]),(2,[1,4,5,6,7]),(3,[1,5,6,7]),(4,[1,5,6,7])],[],[],[]⟩ 17 [] rfl rfl rfl rfl rfl rfl ?_
  conv=>whnf
  refine lenS ([(a0.Ports.length:Int)]:List Int) (eI .i64) rfl ?_
  conv=>whnf
  refine lpS (fun v16=>⟨[(1,.l (.ptr 5 0)),(5,.l (.own 88)),(6,.l (.d (.int .i64 (([(a0.Ports.length:Int)]:List Int).length:Int)))),(7,.l (.d (.int .i64 v16.2)))],17,[⟨[(87,.l (.own 88)),(86,.l (.d (.int .i64 (a0.Ports.length:Int)))),(85,.l (.d (.sl (a0.Ports.map Port.enc)))),(84,.l (.ptr 2 1)),(83,.l (.func 110 [.k 5])),(30,.l (.d (.bool false))),(1,.l (.ptr 2 0)),(4,.l (.ptr 5 0)),(5,.l (.func 110 [.k 5])),(27,.l (.d (.sl (a0.Parts.map Part.enc)))),(28,.l (.d (.int .i64 (a0.Parts.length:Int)))),(29,.l (.d (.int .i64 v4.2))),(30,.l (.d (.bool (decide (v4.2<(a0.Parts.length:Int))))))],107⟩],[(2,[.d (.sl (a0.Parts.map Part.enc)),.d (.sl (a0.Ports.map Port.enc))]),(5,[.own 18])],[(18,5,1,v16.1.map (eI .u8)),(88,3,1,([(a0.Ports.length:Int)]:List Int).map (eI .i64))]⟩) h (Weak.refl _) (fun _ nx16 hn16 v16 h=>?_)
  conv=>whnf
  refine fkS h (fun h=>?_) (fun h=>?_)
  · conv=>whnf
    refine ioS (enc:=(eI .i64)) h rfl (fun h=>?_)
    conv=>whnf
    refine oxS (enc:=(eI .i64)) h rfl (fun x17 h=>?_)
    conv=>whnf
    refine liS ([(IntKind.u8.wrap x17)]:List Int) (eI .u8) rfl rfl ?_
    conv=>whnf
    refine apS (enc:=(eI .u8)) (l1:=v16.1) (l2:=([(IntKind.u8.wrap x17)]:List Int)) h rfl rfl (fun _=>rfl) (fun h=>?_)
    conv=>whnf
    refine leX hn16 h ?_
    conv=>whnf
    refine WkF.step (Weak.rekey _ 1016 18 rfl) ?_
    conv=>whnf
    exact WkF.refl _
  conv=>whnf
  refine lenS a0.Ports Port.enc rfl ?_
  conv=>whnf
  refine lpS (fun v18=>⟨[(4,.l (.ptr 5 0)),(5,.l (.func 110 [.k 5])),(90,.l (.d (.sl (a0.Ports.map Port.enc)))),(91,.l (.d (.int .i64 (a0.Ports.length:Int)))),(92,.l (.d (.int .i64 v18.2)))],107,[],[(5,[.own 18])],[(18,5,1,v18.1.map (eI .u8))]⟩) h (Weak.refl _) (fun _ nx18 hn18 v18 h=>?_)
  conv=>whnf
  refine fkS h (fun h=>?_) (fun h=>?_)
  · conv=>whnf
    refine ixS (enc:=Port.enc) h rfl (fun _=>rfl) (fun x19 h=>?_)
    conv=>whnf
    refine liS ([x19.From,x19.To,x19.Cap]:List Int) (eI .i64) rfl rfl ?_
    conv=>whnf
    refine inS (fn:=Tryz.f110) tab ⟨[(0,[1,5,6,7]),(1,[1,5,6,7,8]),(2,[1,4,5,6,7]),(3,[1,5,6,7]),(4,[1,5,6,7])],[],[],[]⟩ 17 [] rfl rfl rfl rfl rfl rfl ?_
    conv=>whnf
    refine lenS ([x19.From,x19.To,x19.Cap]:List Int) (eI .i64) rfl ?_
    conv=>whnf
    refine lpS (fun v20=>⟨[(1,.l (.ptr 5 0)),(5,.l (.own 104)),(6,.l (.d (.int .i64 (([x19.From,x19.To,x19.Cap]:List Int).length:Int)))),(7,.l (.d (.int .i64 v20.2)))],17,[⟨[(103,.l (.own 104)),(102,.l (.d (.int .i64 x19.Cap))),(101,.l (.ptr 14 2)),(100,.l (.d (.int .i64 x19.To))),(99,.l (.ptr 14 1)),(98,.l (.d (.int .i64 x19.From))),(97,.l (.ptr 14 0)),(96,.l (.func 110 [.k 5])),(4,.l (.ptr 5 0)),(5,.l (.func 110 [.k 5])),(13,.l (.ptr 14 0)),(90,.l (.d (.sl (a0.Ports.map Port.enc)))),(91,.l (.d (.int .i64 (a0.Ports.length:Int)))),(92,.l (.d (.int .i64 v18.2)))],107⟩],[(5,[.own 18]),(14,[.d (.int .i64 x19.From),.d (.int .i64 x19.To),.d (.int .i64 x19.Cap)])],[(18,5,1,v20.1.map (eI .u8)),(104,3,1,([x19.From,x19.To,x19.Cap]:List Int).map (eI .i64))]⟩) h (Weak.refl _) (fun _ nx20 hn20 v20 h=>?_)
    conv=>whnf
    refine fkS h (fun h=>?_) (fun h=>?_)
    · conv=>whnf
      refine ioS (enc:=(eI .i64)) h rfl (fun h=>?_)
      conv=>whnf
      refine oxS (enc:=(eI .i64)) h rfl (fun x21 h=>?_)
      conv=>whnf
      refine liS ([(IntKind.u8.wrap x21)]:List Int) (eI .u8) rfl rfl ?_
      conv=>whnf
      refine apS (enc:=(eI .u8)) (l1:=v20.1) (l2:=([(IntKind.u8.wrap x21)]:List Int)) h rfl rfl (fun _=>rfl) (fun h=>?_)
      conv=>whnf
      refine leX hn20 h ?_
      conv=>whnf
      refine WkF.step (Weak.rekey _ 1016 18 rfl) ?_
      conv=>whnf
      exact WkF.refl _
    conv=>whnf
    exact leS hn18 h (Weak.refl _)
  conv=>whnf
  exact rt (E:=E_ListIntu8_Int) h rfl

end Go.Proofs.YtldlcdnhdedoeaaGreat
namespace Go.Proofs.YtldlcdnhdedoeaaGreat
open Go Go.VC
noncomputable def image_Decode (a0:List Int):Option (Config×Int×Int):=
  lp (fun nx1 (v1:Int×Int×Int)=>fk (decide (v1.2.2<(3:Int))) (jn (fun (w2:Int×Int×Int)=>jn (fun (w6:Bool)=>fk w6 (some (⟨[],[]⟩,v1.2.2,(2:Int))) (nx1 (w2.1,w2.2.1,(wr (v1.2.2+(1:Int)))))) (fun k6=>fk (decide (w2.2.1=(0:Int))) (ix ([84,75,49]:List Int) v1.2.2 fun x7=>k6 (!decide (w2.2.2=(IntKind.i64.wrap x7)))) (k6 false))) (fun k2=>jn (fun (w3:Int)=>fk (!decide (w3=(0:Int))) (k2 (v1.1,w3,(0:Int))) (ix a0 (wr ((wr (v1.1+(1:Int)))-(1:Int))) fun x5=>k2 ((wr (v1.1+(1:Int))),w3,(IntKind.i64.wrap x5)))) (fun k3=>jn (fun (w4:Bool)=>fk w4 (k3 (8:Int)) (k3 v1.2.1)) (fun k4=>fk (decide (v1.2.1=(0:Int))) (k4 (decide (v1.1≥(a0.length:Int)))) (k4 false))))) (jn (fun (w8:Int×Int×(List Part))=>jn (fun (w63:Int×Int×(List Port))=>fk (!decide (w63.2.1=(0:Int))) (some (⟨[],[]⟩,(a0.length:Int),w63.2.1)) (fk (decide (w63.1<(a0.length:Int))) (some (⟨[],[]⟩,w63.1,(2:Int))) (bnd (image_Right ⟨w8.2.2,w63.2.2⟩) fun x82=>fk (!x82) (some (⟨[],[]⟩,(0:Int),(1:Int))) (some (⟨w8.2.2,w63.2.2⟩,(0:Int),(0:Int)))))) (fun k63=>jn (fun (w64:Int×Int×Int)=>lp (fun nx68 (v68:Int×Int×(List Port)×Int)=>jn (fun (w69:Bool)=>fk w69 (jn (fun (w70:Int×Int×Int)=>jn (fun (w74:Int×Int×Int)=>jn (fun (w78:Int×Int×Int)=>ck (decide ((v68.2.2.1.length+([⟨w70.2.2,w74.2.2,w78.2.2⟩]:List Port).length)*24≤140737488355328)) (nx68 (w78.1,w78.2.1,v68.2.2.1++([⟨w70.2.2,w74.2.2,w78.2.2⟩]:List Port),(wr (v68.2.2.2-(1:Int)))))) (fun k78=>jn (fun (w79:Int)=>fk (!decide (w79=(0:Int))) (k78 (w74.1,w79,(0:Int))) (ix a0 (wr ((wr (w74.1+(1:Int)))-(1:Int))) fun x81=>k78 ((wr (w74.1+(1:Int))),w79,(IntKind.i64.wrap x81)))) (fun k79=>jn (fun (w80:Bool)=>fk w80 (k79 (8:Int)) (k79 w74.2.1)) (fun k80=>fk (decide (w74.2.1=(0:Int))) (k80 (decide (w74.1≥(a0.length:Int)))) (k80 false))))) (fun k74=>jn (fun (w75:Int)=>fk (!decide (w75=(0:Int))) (k74 (w70.1,w75,(0:Int))) (ix a0 (wr ((wr (w70.1+(1:Int)))-(1:Int))) fun x77=>k74 ((wr (w70.1+(1:Int))),w75,(IntKind.i64.wrap x77)))) (fun k75=>jn (fun (w76:Bool)=>fk w76 (k75 (8:Int)) (k75 w70.2.1)) (fun k76=>fk (decide (w70.2.1=(0:Int))) (k76 (decide (w70.1≥(a0.length:Int)))) (k76 false))))) (fun k70=>jn (fun (w71:Int)=>fk (!decide (w71=(0:Int))) (k70 (v68.1,w71,(0:Int))) (ix a0 (wr ((wr (v68.1+(1:Int)))-(1:Int))) fun x73=>k70 ((wr (v68.1+(1:Int))),w71,(IntKind.i64.wrap x73)))) (fun k71=>jn (fun (w72:Bool)=>fk w72 (k71 (8:Int)) (k71 v68.2.1)) (fun k72=>fk (decide (v68.2.1=(0:Int))) (k72 (decide (v68.1≥(a0.length:Int)))) (k72 false))))) (k63 (v68.1,v68.2.1,v68.2.2.1))) (fun k69=>fk (decide (v68.2.2.2>(0:Int))) (k69 (decide (v68.2.1=(0:Int)))) (k69 false))) FU (w64.1,w64.2.1,[],w64.2.2)) (fun k64=>jn (fun (w65:Int)=>fk (!decide (w65=(0:Int))) (k64 (w8.1,w65,(0:Int))) (ix a0 (wr ((wr (w8.1+(1:Int)))-(1:Int))) fun x67=>k64 ((wr (w8.1+(1:Int))),w65,(IntKind.i64.wrap x67)))) (fun k65=>jn (fun (w66:Bool)=>fk w66 (k65 (8:Int)) (k65 w8.2.1)) (fun k66=>fk (decide (w8.2.1=(0:Int))) (k66 (decide (w8.1≥(a0.length:Int)))) (k66 false)))))) (fun k8=>jn (fun (w9:Int×Int×Int)=>lp (fun nx13 (v13:Int×Int×(List Part)×Int)=>jn (fun (w14:Bool)=>fk w14 (jn (fun (w15:Int×Int×(List Task)×Int×Int)=>ck (decide ((v13.2.2.1.length+([⟨⟨w15.2.2.2.1,w15.2.2.2.2⟩,w15.2.2.1⟩]:List Part).length)*40≤140737488355328)) (nx13 (w15.1,w15.2.1,v13.2.2.1++([⟨⟨w15.2.2.2.1,w15.2.2.2.2⟩,w15.2.2.1⟩]:List Part),(wr (v13.2.2.2-(1:Int)))))) (fun k15=>jn (fun (w16:Int×Int×Int)=>jn (fun (w20:Int×Int×Int)=>jn (fun (w24:Int×Int×(List Task))=>k15 (w24.1,w24.2.1,w24.2.2,w16.2.2,w20.2.2)) (fun k24=>jn (fun (w25:Int×Int×Int)=>lp (fun nx29 (v29:Int×Int×(List Task)×Int)=>jn (fun (w30:Bool)=>fk w30 (jn (fun (w31:Int×Int×(List Sec)×Int×Int×Int)=>ck (decide ((v29.2.2.1.length+([⟨w31.2.2.2.1,w31.2.2.2.2.1,w31.2.2.2.2.2,w31.2.2.1⟩]:List Task).length)*48≤140737488355328)) (nx29 (w31.1,w31.2.1,v29.2.2.1++([⟨w31.2.2.2.1,w31.2.2.2.2.1,w31.2.2.2.2.2,w31.2.2.1⟩]:List Task),(wr (v29.2.2.2-(1:Int)))))) (fun k31=>jn (fun (w32:Int×Int×Int)=>jn (fun (w36:Int×Int×Int)=>jn (fun (w40:Int×Int×Int)=>jn (fun (w44:Int×Int×(List Sec))=>k31 (w44.1,w44.2.1,w44.2.2,w32.2.2,w36.2.2,w40.2.2)) (fun k44=>jn (fun (w45:Int×Int×Int)=>lp (fun nx49 (v49:Int×Int×(List Sec)×Int)=>jn (fun (w50:Bool)=>fk w50 (jn (fun (w51:Int×Int×Int)=>jn (fun (w55:Int×Int×Int)=>jn (fun (w59:Int×Int×Int)=>ck (decide ((v49.2.2.1.length+([⟨w51.2.2,w55.2.2,w59.2.2⟩]:List Sec).length)*24≤140737488355328)) (nx49 (w59.1,w59.2.1,v49.2.2.1++([⟨w51.2.2,w55.2.2,w59.2.2⟩]:List Sec),(wr (v49.2.2.2-(1:Int)))))) (fun k59=>jn (fun (w60:Int)=>fk (!decide (w60=(0:Int))) (k59 (w55.1,w60,(0:Int))) (ix a0 (wr ((wr (w55.1+(1:Int)))-(1:Int))) fun x62=>k59 ((wr (w55.1+(1:Int))),w60,(IntKind.i64.wrap x62)))) (fun k60=>jn (fun (w61:Bool)=>fk w61 (k60 (8:Int)) (k60 w55.2.1)) (fun k61=>fk (decide (w55.2.1=(0:Int))) (k61 (decide (w55.1≥(a0.length:Int)))) (k61 false))))) (fun k55=>jn (fun (w56:Int)=>fk (!decide (w56=(0:Int))) (k55 (w51.1,w56,(0:Int))) (ix a0 (wr ((wr (w51.1+(1:Int)))-(1:Int))) fun x58=>k55 ((wr (w51.1+(1:Int))),w56,(IntKind.i64.wrap x58)))) (fun k56=>jn (fun (w57:Bool)=>fk w57 (k56 (8:Int)) (k56 w51.2.1)) (fun k57=>fk (decide (w51.2.1=(0:Int))) (k57 (decide (w51.1≥(a0.length:Int)))) (k57 false))))) (fun k51=>jn (fun (w52:Int)=>fk (!decide (w52=(0:Int))) (k51 (v49.1,w52,(0:Int))) (ix a0 (wr ((wr (v49.1+(1:Int)))-(1:Int))) fun x54=>k51 ((wr (v49.1+(1:Int))),w52,(IntKind.i64.wrap x54)))) (fun k52=>jn (fun (w53:Bool)=>fk w53 (k52 (8:Int)) (k52 v49.2.1)) (fun k53=>fk (decide (v49.2.1=(0:Int))) (k53 (decide (v49.1≥(a0.length:Int)))) (k53 false))))) (k44 (v49.1,v49.2.1,v49.2.2.1))) (fun k50=>fk (decide (v49.2.2.2>(0:Int))) (k50 (decide (v49.2.1=(0:Int)))) (k50 false))) FU (w45.1,w45.2.1,[],w45.2.2)) (fun k45=>jn (fun (w46:Int)=>fk (!decide (w46=(0:Int))) (k45 (w40.1,w46,(0:Int))) (ix a0 (wr ((wr (w40.1+(1:Int)))-(1:Int))) fun x48=>k45 ((wr (w40.1+(1:Int))),w46,(IntKind.i64.wrap x48)))) (fun k46=>jn (fun (w47:Bool)=>fk w47 (k46 (8:Int)) (k46 w40.2.1)) (fun k47=>fk (decide (w40.2.1=(0:Int))) (k47 (decide (w40.1≥(a0.length:Int)))) (k47 false)))))) (fun k40=>jn (fun (w41:Int)=>fk (!decide (w41=(0:Int))) (k40 (w36.1,w41,(0:Int))) (ix a0 (wr ((wr (w36.1+(1:Int)))-(1:Int))) fun x43=>k40 ((wr (w36.1+(1:Int))),w41,(IntKind.i64.wrap x43)))) (fun k41=>jn (fun (w42:Bool)=>fk w42 (k41 (8:Int)) (k41 w36.2.1)) (fun k42=>fk (decide (w36.2.1=(0:Int))) (k42 (decide (w36.1≥(a0.length:Int)))) (k42 false))))) (fun k36=>jn (fun (w37:Int)=>fk (!decide (w37=(0:Int))) (k36 (w32.1,w37,(0:Int))) (ix a0 (wr ((wr (w32.1+(1:Int)))-(1:Int))) fun x39=>k36 ((wr (w32.1+(1:Int))),w37,(IntKind.i64.wrap x39)))) (fun k37=>jn (fun (w38:Bool)=>fk w38 (k37 (8:Int)) (k37 w32.2.1)) (fun k38=>fk (decide (w32.2.1=(0:Int))) (k38 (decide (w32.1≥(a0.length:Int)))) (k38 false))))) (fun k32=>jn (fun (w33:Int)=>fk (!decide (w33=(0:Int))) (k32 (v29.1,w33,(0:Int))) (ix a0 (wr ((wr (v29.1+(1:Int)))-(1:Int))) fun x35=>k32 ((wr (v29.1+(1:Int))),w33,(IntKind.i64.wrap x35)))) (fun k33=>jn (fun (w34:Bool)=>fk w34 (k33 (8:Int)) (k33 v29.2.1)) (fun k34=>fk (decide (v29.2.1=(0:Int))) (k34 (decide (v29.1≥(a0.length:Int)))) (k34 false)))))) (k24 (v29.1,v29.2.1,v29.2.2.1))) (fun k30=>fk (decide (v29.2.2.2>(0:Int))) (k30 (decide (v29.2.1=(0:Int)))) (k30 false))) FU (w25.1,w25.2.1,[],w25.2.2)) (fun k25=>jn (fun (w26:Int)=>fk (!decide (w26=(0:Int))) (k25 (w20.1,w26,(0:Int))) (ix a0 (wr ((wr (w20.1+(1:Int)))-(1:Int))) fun x28=>k25 ((wr (w20.1+(1:Int))),w26,(IntKind.i64.wrap x28)))) (fun k26=>jn (fun (w27:Bool)=>fk w27 (k26 (8:Int)) (k26 w20.2.1)) (fun k27=>fk (decide (w20.2.1=(0:Int))) (k27 (decide (w20.1≥(a0.length:Int)))) (k27 false)))))) (fun k20=>jn (fun (w21:Int)=>fk (!decide (w21=(0:Int))) (k20 (w16.1,w21,(0:Int))) (ix a0 (wr ((wr (w16.1+(1:Int)))-(1:Int))) fun x23=>k20 ((wr (w16.1+(1:Int))),w21,(IntKind.i64.wrap x23)))) (fun k21=>jn (fun (w22:Bool)=>fk w22 (k21 (8:Int)) (k21 w16.2.1)) (fun k22=>fk (decide (w16.2.1=(0:Int))) (k22 (decide (w16.1≥(a0.length:Int)))) (k22 false))))) (fun k16=>jn (fun (w17:Int)=>fk (!decide (w17=(0:Int))) (k16 (v13.1,w17,(0:Int))) (ix a0 (wr ((wr (v13.1+(1:Int)))-(1:Int))) fun x19=>k16 ((wr (v13.1+(1:Int))),w17,(IntKind.i64.wrap x19)))) (fun k17=>jn (fun (w18:Bool)=>fk w18 (k17 (8:Int)) (k17 v13.2.1)) (fun k18=>fk (decide (v13.2.1=(0:Int))) (k18 (decide (v13.1≥(a0.length:Int)))) (k18 false)))))) (k8 (v13.1,v13.2.1,v13.2.2.1))) (fun k14=>fk (decide (v13.2.2.2>(0:Int))) (k14 (decide (v13.2.1=(0:Int)))) (k14 false))) FU (w9.1,w9.2.1,[],w9.2.2)) (fun k9=>jn (fun (w10:Int)=>fk (!decide (w10=(0:Int))) (k9 (v1.1,w10,(0:Int))) (ix a0 (wr ((wr (v1.1+(1:Int)))-(1:Int))) fun x12=>k9 ((wr (v1.1+(1:Int))),w10,(IntKind.i64.wrap x12)))) (fun k10=>jn (fun (w11:Bool)=>fk w11 (k10 (8:Int)) (k10 v1.2.1)) (fun k11=>fk (decide (v1.2.1=(0:Int))) (k11 (decide (v1.1≥(a0.length:Int)))) (k11 false))))))) FU ((0:Int),(0:Int),(0:Int))
theorem image_Decode_w (a0:List Int) (r:Config×Int×Int) (h:image_Decode a0=some r):Go.VC.Spec Tryz.prog 43 [.d (.sl (a0.map (eI .u8)))] (fun y=>y=E_Config_Int_Int r):=by
  refine Go.VC.Spec.of_xc (args:=[.d (.sl (a0.map (eI .u8)))]) (fn:=Tryz.f43) tab ⟨[(0,[0,2]),(1,[0,2,5]),(2,[0,2,5,12]),(3,[0,2,5,12,13]),(4,[0,2,5,6,12]),(5,[0,2,5,6,7,12]),(6,[0,2,5,6,12,28]),(7,[2,3,4]),(8,[0,2,5,12]),(9,[0,2,5,8]),(10,[0,2,5,8]),(11,[0,2,5,8,42]),(12,[2,3,4]),(13,[2,5,8,55]),(14,[2,3,4]),(15,[2,8,68]),(16,[2,3,4]),(17,[2,3,4])],[],[100028],[]⟩ 74 [.cell 2 25,.tmp 3,.tmp 4] rfl rfl rfl rfl rfl rfl ?_
  conv=>whnf
  refine lpS (fun v1=>⟨[(0,.l (.d (.sl (a0.map (eI .u8))))),(2,.l (.ptr 3 0)),(5,.l (.ptr 12 0)),(12,.l (.d (.int .i64 v1.2.2)))],74,[],[(3,[.nil,.nil]),(12,[.d (.sl (a0.map (eI .u8))),.d (.int .i64 v1.1),.d (.int .i64 v1.2.1)])],[]⟩) h (Weak.refl _) (fun _ nx1 hn1 v1 h=>?_)
  conv=>whnf
  refine fkS h (fun h=>?_) (fun h=>?_)
  · conv=>whnf
    refine inJ (fun w2=>⟨[(16,.l (.d (.int .i64 w2.2.2))),(15,.l (.ptr 12 0)),(0,.l (.d (.sl (a0.map (eI .u8))))),(2,.l (.ptr 3 0)),(5,.l (.ptr 12 0)),(6,.l (.d (.int .i64 v1.2.2))),(12,.l (.d (.int .i64 v1.2.2)))],74,[],[(3,[.nil,.nil]),(12,[.d (.sl (a0.map (eI .u8))),.d (.int .i64 w2.1),.d (.int .i64 w2.2.1)])],[]⟩) h (fun k2 hk2 h=>?_) (fun w2 h=>?_)
    · conv=>whnf
      refine inS (fn:=Tryz.f99) tab ⟨[(0,[0]),(1,[0,19]),(2,[0]),(3,[0,27]),(4,[2]),(5,[0]),(6,[2])],[],[100019,3],[]⟩ 47 [.tmp 2] rfl rfl rfl rfl rfl rfl ?_
      conv=>whnf
      refine jnS (fun w3=>⟨[(0,.l (.ptr 12 0))],47,[⟨[(15,.l (.ptr 12 0)),(0,.l (.d (.sl (a0.map (eI .u8))))),(2,.l (.ptr 3 0)),(5,.l (.ptr 12 0)),(6,.l (.d (.int .i64 v1.2.2))),(12,.l (.d (.int .i64 v1.2.2)))],74⟩],[(3,[.nil,.nil]),(12,[.d (.sl (a0.map (eI .u8))),.d (.int .i64 v1.1),.d (.int .i64 w3)])],[]⟩) h (fun k3 hk3 h=>?_) (fun w3 h=>?_)
      · conv=>whnf
        refine jnS (fun w4=>⟨[(0,.l (.ptr 12 0)),(19,.l (.d (.bool w4)))],47,[⟨[(15,.l (.ptr 12 0)),(0,.l (.d (.sl (a0.map (eI .u8))))),(2,.l (.ptr 3 0)),(5,.l (.ptr 12 0)),(6,.l (.d (.int .i64 v1.2.2))),(12,.l (.d (.int .i64 v1.2.2)))],74⟩],[(3,[.nil,.nil]),(12,[.d (.sl (a0.map (eI .u8))),.d (.int .i64 v1.1),.d (.int .i64 v1.2.1)])],[]⟩) h (fun k4 hk4 h=>?_) (fun w4 h=>?_)
        · conv=>whnf
          refine⟨17,?_⟩
          conv=>whnf
          refine fkS h (fun h=>?_) (fun h=>?_)
          · conv=>whnf
            refine lenS a0 (eI .u8) rfl ?_
            conv=>whnf
            refine drS (by kernel_rfl) ?_
            conv=>whnf
            exact jeS hk4 h (Weak.refl _)
          conv=>whnf
          refine drS (by kernel_rfl) ?_
          conv=>whnf
          exact jeS hk4 h (Weak.refl _)
        conv=>whnf
        refine fkS h (fun h=>?_) (fun h=>?_)
        · conv=>whnf
          exact jeS hk3 h (Weak.refl _)
        conv=>whnf
        refine jeX hk3 h ?_
        conv=>whnf
        refine WkF.step (Weak.keepS _ [0]) ?_
        conv=>whnf
        exact WkF.refl _
      conv=>whnf
      refine fkS h (fun h=>?_) (fun h=>?_)
      · conv=>whnf
        exact jeS hk2 h (Weak.refl _)
      conv=>whnf
      refine⟨9,?_⟩
      conv=>whnf
      refine drS (by kernel_rfl) ?_
      conv=>whnf
      refine ixS (enc:=(eI .u8)) h rfl (fun _=>rfl) (fun x5 h=>?_)
      conv=>whnf
      exact jeS hk2 h (Weak.refl _)
    conv=>whnf
    refine jnS (fun w6=>⟨[(0,.l (.d (.sl (a0.map (eI .u8))))),(2,.l (.ptr 3 0)),(5,.l (.ptr 12 0)),(6,.l (.d (.int .i64 v1.2.2))),(12,.l (.d (.int .i64 v1.2.2))),(28,.l (.d (.bool w6)))],74,[],[(3,[.nil,.nil]),(12,[.d (.sl (a0.map (eI .u8))),.d (.int .i64 w2.1),.d (.int .i64 w2.2.1)])],[]⟩) h (fun k6 hk6 h=>?_) (fun w6 h=>?_)
    · conv=>whnf
      refine fkS h (fun h=>?_) (fun h=>?_)
      · conv=>whnf
        refine isS ([84,75,49]:List Int) h rfl rfl rfl Tryz.underlying9 rfl (fun x7 h=>?_)
        conv=>whnf
        exact jeS hk6 h (Weak.refl _)
      conv=>whnf
      exact jeS hk6 h (Weak.refl _)
    conv=>whnf
    refine fkS h (fun h=>?_) (fun h=>?_)
    · conv=>whnf
      exact rt (E:=E_Config_Int_Int) h rfl
    conv=>whnf
    exact leS hn1 h (Weak.refl _)
  conv=>whnf
  refine inJ (fun w8=>⟨[(35,.l (.own 36)),(34,.l (.mfn 101 12)),(33,.l (.ptr 12 0)),(32,.l (.ptr 12 0)),(13,.l (.d (.bool false))),(0,.l (.d (.sl (a0.map (eI .u8))))),(2,.l (.ptr 3 0)),(5,.l (.ptr 12 0)),(12,.l (.d (.int .i64 v1.2.2)))],74,[],[(3,[.nil,.nil]),(12,[.d (.sl (a0.map (eI .u8))),.d (.int .i64 w8.1),.d (.int .i64 w8.2.1)])],[(36,57,3,w8.2.2.map Part.enc)]⟩) h (fun k8 hk8 h=>?_) (fun w8 h=>?_)
  · conv=>whnf
    refine inS (fn:=Tryz.f100) tab ⟨[(0,[0,1]),(1,[0,1,5]),(2,[0,1,5,6]),(3,[0,1,5,6,17]),(4,[0,1,5,6]),(5,[0,1,5,6]),(6,[4])],[],[100017],[(23,[301023])]⟩ 26 [.tmp 4] rfl rfl rfl rfl rfl rfl ?_
    conv=>whnf
    refine inJ (fun w9=>⟨[(8,.l (.d (.int .i64 w9.2.2))),(7,.l (.ptr 12 0)),(0,.l (.ptr 12 0)),(1,.l (.mfn 101 12)),(5,.l .nil)],26,[⟨[(34,.l (.mfn 101 12)),(33,.l (.ptr 12 0)),(32,.l (.ptr 12 0)),(13,.l (.d (.bool false))),(0,.l (.d (.sl (a0.map (eI .u8))))),(2,.l (.ptr 3 0)),(5,.l (.ptr 12 0)),(12,.l (.d (.int .i64 v1.2.2))),(13,.l (.d (.bool (decide (v1.2.2<(3:Int))))))],74⟩],[(3,[.nil,.nil]),(12,[.d (.sl (a0.map (eI .u8))),.d (.int .i64 w9.1),.d (.int .i64 w9.2.1)])],[]⟩) h (fun k9 hk9 h=>?_) (fun w9 h=>?_)
    · conv=>whnf
      refine inS (fn:=Tryz.f99) tab ⟨[(0,[0]),(1,[0,19]),(2,[0]),(3,[0,27]),(4,[2]),(5,[0]),(6,[2])],[],[100019,3],[]⟩ 47 [.tmp 2] rfl rfl rfl rfl rfl rfl ?_
      conv=>whnf
      refine jnS (fun w10=>⟨[(0,.l (.ptr 12 0))],47,[⟨[(7,.l (.ptr 12 0)),(0,.l (.ptr 12 0)),(1,.l (.mfn 101 12)),(5,.l .nil)],26⟩,⟨[(34,.l (.mfn 101 12)),(33,.l (.ptr 12 0)),(32,.l (.ptr 12 0)),(13,.l (.d (.bool false))),(0,.l (.d (.sl (a0.map (eI .u8))))),(2,.l (.ptr 3 0)),(5,.l (.ptr 12 0)),(12,.l (.d (.int .i64 v1.2.2))),(13,.l (.d (.bool (decide (v1.2.2<(3:Int))))))],74⟩],[(3,[.nil,.nil]),(12,[.d (.sl (a0.map (eI .u8))),.d (.int .i64 v1.1),.d (.int .i64 w10)])],[]⟩) h (fun k10 hk10 h=>?_) (fun w10 h=>?_)
      · conv=>whnf
        refine jnS (fun w11=>⟨[(0,.l (.ptr 12 0)),(19,.l (.d (.bool w11)))],47,[⟨[(7,.l (.ptr 12 0)),(0,.l (.ptr 12 0)),(1,.l (.mfn 101 12)),(5,.l .nil)],26⟩,⟨[(34,.l (.mfn 101 12)),(33,.l (.ptr 12 0)),(32,.l (.ptr 12 0)),(13,.l (.d (.bool false))),(0,.l (.d (.sl (a0.map (eI .u8))))),(2,.l (.ptr 3 0)),(5,.l (.ptr 12 0)),(12,.l (.d (.int .i64 v1.2.2))),(13,.l (.d (.bool (decide (v1.2.2<(3:Int))))))],74⟩],[(3,[.nil,.nil]),(12,[.d (.sl (a0.map (eI .u8))),.d (.int .i64 v1.1),.d (.int .i64 v1.2.1)])],[]⟩) h (fun k11 hk11 h=>?_) (fun w11 h=>?_)
        · conv=>whnf
          refine⟨17,?_⟩
          conv=>whnf
          refine fkS h (fun h=>?_) (fun h=>?_)
          · conv=>whnf
            refine lenS a0 (eI .u8) rfl ?_
            conv=>whnf
            refine drS (by kernel_rfl) ?_
            conv=>whnf
            exact jeS hk11 h (Weak.refl _)
          conv=>whnf
          refine drS (by kernel_rfl) ?_
          conv=>whnf
          exact jeS hk11 h (Weak.refl _)
        conv=>whnf
        refine fkS h (fun h=>?_) (fun h=>?_)
        · conv=>whnf
          exact jeS hk10 h (Weak.refl _)
        conv=>whnf
        refine jeX hk10 h ?_
        conv=>whnf
        refine WkF.step (Weak.keepS _ [0]) ?_
        conv=>whnf
        exact WkF.refl _
      conv=>whnf
      refine fkS h (fun h=>?_) (fun h=>?_)
      · conv=>whnf
        exact jeS hk9 h (Weak.refl _)
      conv=>whnf
      refine⟨9,?_⟩
      conv=>whnf
      refine drS (by kernel_rfl) ?_
      conv=>whnf
      refine ixS (enc:=(eI .u8)) h rfl (fun _=>rfl) (fun x12 h=>?_)
      conv=>whnf
      exact jeS hk9 h (Weak.refl _)
    conv=>whnf
    refine lpS (fun v13=>⟨[(0,.l (.ptr 12 0)),(1,.l (.mfn 101 12)),(5,.l (.own 1006)),(6,.l (.d (.int .i64 v13.2.2.2)))],26,[⟨[(34,.l (.mfn 101 12)),(33,.l (.ptr 12 0)),(32,.l (.ptr 12 0)),(13,.l (.d (.bool false))),(0,.l (.d (.sl (a0.map (eI .u8))))),(2,.l (.ptr 3 0)),(5,.l (.ptr 12 0)),(12,.l (.d (.int .i64 v1.2.2))),(13,.l (.d (.bool (decide (v1.2.2<(3:Int))))))],74⟩],[(3,[.nil,.nil]),(12,[.d (.sl (a0.map (eI .u8))),.d (.int .i64 v13.1),.d (.int .i64 v13.2.1)])],[(1006,57,3,v13.2.2.1.map Part.enc)]⟩) h (Weak.trans (Weak.nilO _ 5 1006 57 3 rfl) (Weak.refl _)) (fun _ nx13 hn13 v13 h=>?_)
    conv=>whnf
    refine jnS (fun w14=>⟨[(0,.l (.ptr 12 0)),(1,.l (.mfn 101 12)),(5,.l (.own 1006)),(6,.l (.d (.int .i64 v13.2.2.2))),(17,.l (.d (.bool w14)))],26,[⟨[(34,.l (.mfn 101 12)),(33,.l (.ptr 12 0)),(32,.l (.ptr 12 0)),(13,.l (.d (.bool false))),(0,.l (.d (.sl (a0.map (eI .u8))))),(2,.l (.ptr 3 0)),(5,.l (.ptr 12 0)),(12,.l (.d (.int .i64 v1.2.2))),(13,.l (.d (.bool (decide (v1.2.2<(3:Int))))))],74⟩],[(3,[.nil,.nil]),(12,[.d (.sl (a0.map (eI .u8))),.d (.int .i64 v13.1),.d (.int .i64 v13.2.1)])],[(1006,57,3,v13.2.2.1.map Part.enc)]⟩) h (fun k14 hk14 h=>?_) (fun w14 h=>?_)
    · conv=>whnf
      refine fkS h (fun h=>?_) (fun h=>?_)
      · conv=>whnf
        exact jeS hk14 h (Weak.refl _)
      conv=>whnf
      exact jeS hk14 h (Weak.refl _)
    conv=>whnf
    refine fkS h (fun h=>?_) (fun h=>?_)
    · conv=>whnf
      refine inJ (fun w15=>⟨[(22,.agg [.d (.int .i64 w15.2.2.2.1),.d (.int .i64 w15.2.2.2.2),.own 301023]),(21,.l (.mfn 101 12)),(20,.l (.own 1006)),(17,.l (.d (.bool true))),(0,.l (.ptr 12 0)),(1,.l (.mfn 101 12)),(5,.l (.own 1006)),(6,.l (.d (.int .i64 v13.2.2.2)))],26,[⟨[(34,.l (.mfn 101 12)),(33,.l (.ptr 12 0)),(32,.l (.ptr 12 0)),(13,.l (.d (.bool false))),(0,.l (.d (.sl (a0.map (eI .u8))))),(2,.l (.ptr 3 0)),(5,.l (.ptr 12 0)),(12,.l (.d (.int .i64 v1.2.2))),(13,.l (.d (.bool (decide (v1.2.2<(3:Int))))))],74⟩],[(3,[.nil,.nil]),(12,[.d (.sl (a0.map (eI .u8))),.d (.int .i64 w15.1),.d (.int .i64 w15.2.1)])],[(1006,57,3,v13.2.2.1.map Part.enc),(301023,67,4,w15.2.2.1.map Task.enc)]⟩) h (fun k15 hk15 h=>?_) (fun w15 h=>?_)
      · conv=>whnf
        refine inS (fn:=Tryz.f101) tab ⟨[(0,[0,2]),(1,[0,2,3,4]),(2,[2])],[],[],[]⟩ 17 [.cell 2 57] rfl rfl rfl rfl rfl rfl ?_
        conv=>whnf
        refine inJ (fun w16=>⟨[(6,.l (.d (.int .i64 w16.2.2))),(5,.l (.ptr 12 0)),(0,.l (.ptr 12 0)),(2,.l (.ptr 2003 0))],17,[⟨[(21,.l (.mfn 101 12)),(20,.l (.own 1006)),(17,.l (.d (.bool true))),(0,.l (.ptr 12 0)),(1,.l (.mfn 101 12)),(5,.l (.own 1006)),(6,.l (.d (.int .i64 v13.2.2.2))),(17,.l (.d (.bool w14)))],26⟩,⟨[(34,.l (.mfn 101 12)),(33,.l (.ptr 12 0)),(32,.l (.ptr 12 0)),(13,.l (.d (.bool false))),(0,.l (.d (.sl (a0.map (eI .u8))))),(2,.l (.ptr 3 0)),(5,.l (.ptr 12 0)),(12,.l (.d (.int .i64 v1.2.2))),(13,.l (.d (.bool (decide (v1.2.2<(3:Int))))))],74⟩],[(3,[.nil,.nil]),(12,[.d (.sl (a0.map (eI .u8))),.d (.int .i64 w16.1),.d (.int .i64 w16.2.1)]),(2003,[.d (.int .i64 (0:Int)),.d (.int .i64 (0:Int)),.nil])],[(1006,57,3,v13.2.2.1.map Part.enc)]⟩) h (fun k16 hk16 h=>?_) (fun w16 h=>?_)
        · conv=>whnf
          refine inS (fn:=Tryz.f99) tab ⟨[(0,[0]),(1,[0,19]),(2,[0]),(3,[0,27]),(4,[2]),(5,[0]),(6,[2])],[],[100019,3],[]⟩ 47 [.tmp 2] rfl rfl rfl rfl rfl rfl ?_
          conv=>whnf
          refine jnS (fun w17=>⟨[(0,.l (.ptr 12 0))],47,[⟨[(5,.l (.ptr 12 0)),(0,.l (.ptr 12 0)),(2,.l (.ptr 2003 0))],17⟩,⟨[(21,.l (.mfn 101 12)),(20,.l (.own 1006)),(17,.l (.d (.bool true))),(0,.l (.ptr 12 0)),(1,.l (.mfn 101 12)),(5,.l (.own 1006)),(6,.l (.d (.int .i64 v13.2.2.2))),(17,.l (.d (.bool w14)))],26⟩,⟨[(34,.l (.mfn 101 12)),(33,.l (.ptr 12 0)),(32,.l (.ptr 12 0)),(13,.l (.d (.bool false))),(0,.l (.d (.sl (a0.map (eI .u8))))),(2,.l (.ptr 3 0)),(5,.l (.ptr 12 0)),(12,.l (.d (.int .i64 v1.2.2))),(13,.l (.d (.bool (decide (v1.2.2<(3:Int))))))],74⟩],[(3,[.nil,.nil]),(12,[.d (.sl (a0.map (eI .u8))),.d (.int .i64 v13.1),.d (.int .i64 w17)]),(2003,[.d (.int .i64 (0:Int)),.d (.int .i64 (0:Int)),.nil])],[(1006,57,3,v13.2.2.1.map Part.enc)]⟩) h (fun k17 hk17 h=>?_) (fun w17 h=>?_)
          · conv=>whnf
            refine jnS (fun w18=>⟨[(0,.l (.ptr 12 0)),(19,.l (.d (.bool w18)))],47,[⟨[(5,.l (.ptr 12 0)),(0,.l (.ptr 12 0)),(2,.l (.ptr 2003 0))],17⟩,⟨[(21,.l (.mfn 101 12)),(20,.l (.own 1006)),(17,.l (.d (.bool true))),(0,.l (.ptr 12 0)),(1,.l (.mfn 101 12)),(5,.l (.own 1006)),(6,.l (.d (.int .i64 v13.2.2.2))),(17,.l (.d (.bool w14)))],26⟩,⟨[(34,.l (.mfn 101 12)),(33,.l (.ptr 12 0)),(32,.l (.ptr 12 0)),(13,.l (.d (.bool false))),(0,.l (.d (.sl (a0.map (eI .u8))))),(2,.l (.ptr 3 0)),(5,.l (.ptr 12 0)),(12,.l (.d (.int .i64 v1.2.2))),(13,.l (.d (.bool (decide (v1.2.2<(3:Int))))))],74⟩],[(3,[.nil,.nil]),(12,[.d (.sl (a0.map (eI .u8))),.d (.int .i64 v13.1),.d (.int .i64 v13.2.1)]),(2003,[.d (.int .i64 (0:Int)),.d (.int .i64 (0:Int)),.nil])],[(1006,57,3,v13.2.2.1.map Part.enc)]⟩) h (fun k18 hk18 h=>?_) (fun w18 h=>?_)
            · conv=>whnf
              refine⟨17,?_⟩
              conv=>whnf
              refine fkS h (fun h=>?_) (fun h=>?_)
              · conv=>whnf
                refine lenS a0 (eI .u8) rfl ?_
                conv=>whnf
                refine drS (by kernel_rfl) ?_
                conv=>whnf
                exact jeS hk18 h (Weak.refl _)
              conv=>whnf
              refine drS (by kernel_rfl) ?_
              conv=>whnf
              exact jeS hk18 h (Weak.refl _)
            conv=>whnf
            refine fkS h (fun h=>?_) (fun h=>?_)
            · conv=>whnf
              exact jeS hk17 h (Weak.refl _)
            conv=>whnf
            refine jeX hk17 h ?_
            conv=>whnf
            refine WkF.step (Weak.keepS _ [0]) ?_
            conv=>whnf
            exact WkF.refl _
          conv=>whnf
          refine fkS h (fun h=>?_) (fun h=>?_)
          · conv=>whnf
            exact jeS hk16 h (Weak.refl _)
          conv=>whnf
          refine⟨9,?_⟩
          conv=>whnf
          refine drS (by kernel_rfl) ?_
          conv=>whnf
          refine ixS (enc:=(eI .u8)) h rfl (fun _=>rfl) (fun x19 h=>?_)
          conv=>whnf
          exact jeS hk16 h (Weak.refl _)
        conv=>whnf
        refine inJ (fun w20=>⟨[(8,.l (.d (.int .i64 w20.2.2))),(7,.l (.ptr 12 0)),(6,.l (.d (.int .i64 w16.2.2))),(5,.l (.ptr 12 0)),(0,.l (.ptr 12 0)),(2,.l (.ptr 2003 0))],17,[⟨[(21,.l (.mfn 101 12)),(20,.l (.own 1006)),(17,.l (.d (.bool true))),(0,.l (.ptr 12 0)),(1,.l (.mfn 101 12)),(5,.l (.own 1006)),(6,.l (.d (.int .i64 v13.2.2.2))),(17,.l (.d (.bool w14)))],26⟩,⟨[(34,.l (.mfn 101 12)),(33,.l (.ptr 12 0)),(32,.l (.ptr 12 0)),(13,.l (.d (.bool false))),(0,.l (.d (.sl (a0.map (eI .u8))))),(2,.l (.ptr 3 0)),(5,.l (.ptr 12 0)),(12,.l (.d (.int .i64 v1.2.2))),(13,.l (.d (.bool (decide (v1.2.2<(3:Int))))))],74⟩],[(3,[.nil,.nil]),(12,[.d (.sl (a0.map (eI .u8))),.d (.int .i64 w20.1),.d (.int .i64 w20.2.1)]),(2003,[.d (.int .i64 (0:Int)),.d (.int .i64 (0:Int)),.nil])],[(1006,57,3,v13.2.2.1.map Part.enc)]⟩) h (fun k20 hk20 h=>?_) (fun w20 h=>?_)
        · conv=>whnf
          refine inS (fn:=Tryz.f99) tab ⟨[(0,[0]),(1,[0,19]),(2,[0]),(3,[0,27]),(4,[2]),(5,[0]),(6,[2])],[],[100019,3],[]⟩ 47 [.tmp 2] rfl rfl rfl rfl rfl rfl ?_
          conv=>whnf
          refine jnS (fun w21=>⟨[(0,.l (.ptr 12 0))],47,[⟨[(7,.l (.ptr 12 0)),(6,.l (.d (.int .i64 w16.2.2))),(5,.l (.ptr 12 0)),(0,.l (.ptr 12 0)),(2,.l (.ptr 2003 0))],17⟩,⟨[(21,.l (.mfn 101 12)),(20,.l (.own 1006)),(17,.l (.d (.bool true))),(0,.l (.ptr 12 0)),(1,.l (.mfn 101 12)),(5,.l (.own 1006)),(6,.l (.d (.int .i64 v13.2.2.2))),(17,.l (.d (.bool w14)))],26⟩,⟨[(34,.l (.mfn 101 12)),(33,.l (.ptr 12 0)),(32,.l (.ptr 12 0)),(13,.l (.d (.bool false))),(0,.l (.d (.sl (a0.map (eI .u8))))),(2,.l (.ptr 3 0)),(5,.l (.ptr 12 0)),(12,.l (.d (.int .i64 v1.2.2))),(13,.l (.d (.bool (decide (v1.2.2<(3:Int))))))],74⟩],[(3,[.nil,.nil]),(12,[.d (.sl (a0.map (eI .u8))),.d (.int .i64 w16.1),.d (.int .i64 w21)]),(2003,[.d (.int .i64 (0:Int)),.d (.int .i64 (0:Int)),.nil])],[(1006,57,3,v13.2.2.1.map Part.enc)]⟩) h (fun k21 hk21 h=>?_) (fun w21 h=>?_)
          · conv=>whnf
            refine jnS (fun w22=>⟨[(0,.l (.ptr 12 0)),(19,.l (.d (.bool w22)))],47,[⟨[(7,.l (.ptr 12 0)),(6,.l (.d (.int .i64 w16.2.2))),(5,.l (.ptr 12 0)),(0,.l (.ptr 12 0)),(2,.l (.ptr 2003 0))],17⟩,⟨[(21,.l (.mfn 101 12)),(20,.l (.own 1006)),(17,.l (.d (.bool true))),(0,.l (.ptr 12 0)),(1,.l (.mfn 101 12)),(5,.l (.own 1006)),(6,.l (.d (.int .i64 v13.2.2.2))),(17,.l (.d (.bool w14)))],26⟩,⟨[(34,.l (.mfn 101 12)),(33,.l (.ptr 12 0)),(32,.l (.ptr 12 0)),(13,.l (.d (.bool false))),(0,.l (.d (.sl (a0.map (eI .u8))))),(2,.l (.ptr 3 0)),(5,.l (.ptr 12 0)),(12,.l (.d (.int .i64 v1.2.2))),(13,.l (.d (.bool (decide (v1.2.2<(3:Int))))))],74⟩],[(3,[.nil,.nil]),(12,[.d (.sl (a0.map (eI .u8))),.d (.int .i64 w16.1),.d (.int .i64 w16.2.1)]),(2003,[.d (.int .i64 (0:Int)),.d (.int .i64 (0:Int)),.nil])],[(1006,57,3,v13.2.2.1.map Part.enc)]⟩) h (fun k22 hk22 h=>?_) (fun w22 h=>?_)
            · conv=>whnf
              refine⟨17,?_⟩
              conv=>whnf
              refine fkS h (fun h=>?_) (fun h=>?_)
              · conv=>whnf
                refine lenS a0 (eI .u8) rfl ?_
                conv=>whnf
                refine drS (by kernel_rfl) ?_
                conv=>whnf
                exact jeS hk22 h (Weak.refl _)
              conv=>whnf
              refine drS (by kernel_rfl) ?_
              conv=>whnf
              exact jeS hk22 h (Weak.refl _)
            conv=>whnf
            refine fkS h (fun h=>?_) (fun h=>?_)
            · conv=>whnf
              exact jeS hk21 h (Weak.refl _)
            conv=>whnf
            refine jeX hk21 h ?_
            conv=>whnf
            refine WkF.step (Weak.keepS _ [0]) ?_
            conv=>whnf
            exact WkF.refl _
          conv=>whnf
          refine fkS h (fun h=>?_) (fun h=>?_)
          · conv=>whnf
            exact jeS hk20 h (Weak.refl _)
          conv=>whnf
          refine⟨9,?_⟩
          conv=>whnf
          refine drS (by kernel_rfl) ?_
          conv=>whnf
          refine ixS (enc:=(eI .u8)) h rfl (fun _=>rfl) (fun x23 h=>?_)
          conv=>whnf
          exact jeS hk20 h (Weak.refl _)
        conv=>whnf
        refine inJ (fun w24=>⟨[(15,.l (.own 2016)),(14,.l (.mfn 149 12)),(13,.l (.ptr 12 0)),(12,.l (.ptr 12 0)),(11,.agg [.d (.int .i64 w16.2.2),.d (.int .i64 w20.2.2)]),(10,.l (.d (.int .i64 w20.2.2))),(9,.l (.d (.int .i64 w16.2.2))),(0,.l (.ptr 12 0)),(2,.l (.ptr 2003 0)),(3,.l (.d (.int .i64 w16.2.2))),(4,.l (.d (.int .i64 w20.2.2)))],17,[⟨[(21,.l (.mfn 101 12)),(20,.l (.own 1006)),(17,.l (.d (.bool true))),(0,.l (.ptr 12 0)),(1,.l (.mfn 101 12)),(5,.l (.own 1006)),(6,.l (.d (.int .i64 v13.2.2.2))),(17,.l (.d (.bool w14)))],26⟩,⟨[(34,.l (.mfn 101 12)),(33,.l (.ptr 12 0)),(32,.l (.ptr 12 0)),(13,.l (.d (.bool false))),(0,.l (.d (.sl (a0.map (eI .u8))))),(2,.l (.ptr 3 0)),(5,.l (.ptr 12 0)),(12,.l (.d (.int .i64 v1.2.2))),(13,.l (.d (.bool (decide (v1.2.2<(3:Int))))))],74⟩],[(3,[.nil,.nil]),(12,[.d (.sl (a0.map (eI .u8))),.d (.int .i64 w24.1),.d (.int .i64 w24.2.1)]),(2003,[.d (.int .i64 (0:Int)),.d (.int .i64 (0:Int)),.nil])],[(1006,57,3,v13.2.2.1.map Part.enc),(2016,67,4,w24.2.2.map Task.enc)]⟩) h (fun k24 hk24 h=>?_) (fun w24 h=>?_)
        · conv=>whnf
          refine inS (fn:=Tryz.f148) tab ⟨[(0,[0,1]),(1,[0,1,5]),(2,[0,1,5,6]),(3,[0,1,5,6,17]),(4,[0,1,5,6]),(5,[0,1,5,6]),(6,[4])],[],[100017],[(23,[403023])]⟩ 26 [.tmp 4] rfl rfl rfl rfl rfl rfl ?_
          conv=>whnf
          refine inJ (fun w25=>⟨[(8,.l (.d (.int .i64 w25.2.2))),(7,.l (.ptr 12 0)),(0,.l (.ptr 12 0)),(1,.l (.mfn 149 12)),(5,.l .nil)],26,[⟨[(14,.l (.mfn 149 12)),(13,.l (.ptr 12 0)),(12,.l (.ptr 12 0)),(11,.agg [.d (.int .i64 w16.2.2),.d (.int .i64 w20.2.2)]),(10,.l (.d (.int .i64 w20.2.2))),(9,.l (.d (.int .i64 w16.2.2))),(0,.l (.ptr 12 0)),(2,.l (.ptr 2003 0)),(3,.l (.d (.int .i64 w16.2.2))),(4,.l (.d (.int .i64 w20.2.2)))],17⟩,⟨[(21,.l (.mfn 101 12)),(20,.l (.own 1006)),(17,.l (.d (.bool true))),(0,.l (.ptr 12 0)),(1,.l (.mfn 101 12)),(5,.l (.own 1006)),(6,.l (.d (.int .i64 v13.2.2.2))),(17,.l (.d (.bool w14)))],26⟩,⟨[(34,.l (.mfn 101 12)),(33,.l (.ptr 12 0)),(32,.l (.ptr 12 0)),(13,.l (.d (.bool false))),(0,.l (.d (.sl (a0.map (eI .u8))))),(2,.l (.ptr 3 0)),(5,.l (.ptr 12 0)),(12,.l (.d (.int .i64 v1.2.2))),(13,.l (.d (.bool (decide (v1.2.2<(3:Int))))))],74⟩],[(3,[.nil,.nil]),(12,[.d (.sl (a0.map (eI .u8))),.d (.int .i64 w25.1),.d (.int .i64 w25.2.1)]),(2003,[.d (.int .i64 (0:Int)),.d (.int .i64 (0:Int)),.nil])],[(1006,57,3,v13.2.2.1.map Part.enc)]⟩) h (fun k25 hk25 h=>?_) (fun w25 h=>?_)
          · conv=>whnf
            refine inS (fn:=Tryz.f99) tab ⟨[(0,[0]),(1,[0,19]),(2,[0]),(3,[0,27]),(4,[2]),(5,[0]),(6,[2])],[],[100019,3],[]⟩ 47 [.tmp 2] rfl rfl rfl rfl rfl rfl ?_
            conv=>whnf
            refine jnS (fun w26=>⟨[(0,.l (.ptr 12 0))],47,[⟨[(7,.l (.ptr 12 0)),(0,.l (.ptr 12 0)),(1,.l (.mfn 149 12)),(5,.l .nil)],26⟩,⟨[(14,.l (.mfn 149 12)),(13,.l (.ptr 12 0)),(12,.l (.ptr 12 0)),(11,.agg [.d (.int .i64 w16.2.2),.d (.int .i64 w20.2.2)]),(10,.l (.d (.int .i64 w20.2.2))),(9,.l (.d (.int .i64 w16.2.2))),(0,.l (.ptr 12 0)),(2,.l (.ptr 2003 0)),(3,.l (.d (.int .i64 w16.2.2))),(4,.l (.d (.int .i64 w20.2.2)))],17⟩,⟨[(21,.l (.mfn 101 12)),(20,.l (.own 1006)),(17,.l (.d (.bool true))),(0,.l (.ptr 12 0)),(1,.l (.mfn 101 12)),(5,.l (.own 1006)),(6,.l (.d (.int .i64 v13.2.2.2))),(17,.l (.d (.bool w14)))],26⟩,⟨[(34,.l (.mfn 101 12)),(33,.l (.ptr 12 0)),(32,.l (.ptr 12 0)),(13,.l (.d (.bool false))),(0,.l (.d (.sl (a0.map (eI .u8))))),(2,.l (.ptr 3 0)),(5,.l (.ptr 12 0)),(12,.l (.d (.int .i64 v1.2.2))),(13,.l (.d (.bool (decide (v1.2.2<(3:Int))))))],74⟩],[(3,[.nil,.nil]),(12,[.d (.sl (a0.map (eI .u8))),.d (.int .i64 w20.1),.d (.int .i64 w26)]),(2003,[.d (.int .i64 (0:Int)),.d (.int .i64 (0:Int)),.nil])],[(1006,57,3,v13.2.2.1.map Part.enc)]⟩) h (fun k26 hk26 h=>?_) (fun w26 h=>?_)
            · conv=>whnf
              refine jnS (fun w27=>⟨[(0,.l (.ptr 12 0)),(19,.l (.d (.bool w27)))],47,[⟨[(7,.l (.ptr 12 0)),(0,.l (.ptr 12 0)),(1,.l (.mfn 149 12)),(5,.l .nil)],26⟩,⟨[(14,.l (.mfn 149 12)),(13,.l (.ptr 12 0)),(12,.l (.ptr 12 0)),(11,.agg [.d (.int .i64 w16.2.2),.d (.int .i64 w20.2.2)]),(10,.l (.d (.int .i64 w20.2.2))),(9,.l (.d (.int .i64 w16.2.2))),(0,.l (.ptr 12 0)),(2,.l (.ptr 2003 0)),(3,.l (.d (.int .i64 w16.2.2))),(4,.l (.d (.int .i64 w20.2.2)))],17⟩,⟨[(21,.l (.mfn 101 12)),(20,.l (.own 1006)),(17,.l (.d (.bool true))),(0,.l (.ptr 12 0)),(1,.l (.mfn 101 12)),(5,.l (.own 1006)),(6,.l (.d (.int .i64 v13.2.2.2))),(17,.l (.d (.bool w14)))],26⟩,⟨[(34,.l (.mfn 101 12)),(33,.l (.ptr 12 0)),(32,.l (.ptr 12 0)),(13,.l (.d (.bool false))),(0,.l (.d (.sl (a0.map (eI .u8))))),(2,.l (.ptr 3 0)),(5,.l (.ptr 12 0)),(12,.l (.d (.int .i64 v1.2.2))),(13,.l (.d (.bool (decide (v1.2.2<(3:Int))))))],74⟩],[(3,[.nil,.nil]),(12,[.d (.sl (a0.map (eI .u8))),.d (.int .i64 w20.1),.d (.int .i64 w20.2.1)]),(2003,[.d (.int .i64 (0:Int)),.d (.int .i64 (0:Int)),.nil])],[(1006,57,3,v13.2.2.1.map Part.enc)]⟩) h (fun k27 hk27 h=>?_) (fun w27 h=>?_)
              · conv=>whnf
                refine⟨17,?_⟩
                conv=>whnf
                refine fkS h (fun h=>?_) (fun h=>?_)
                · conv=>whnf
                  refine lenS a0 (eI .u8) rfl ?_
                  conv=>whnf
                  refine drS (by kernel_rfl) ?_
                  conv=>whnf
                  exact jeS hk27 h (Weak.refl _)
                conv=>whnf
                refine drS (by kernel_rfl) ?_
                conv=>whnf
                exact jeS hk27 h (Weak.refl _)
              conv=>whnf
              refine fkS h (fun h=>?_) (fun h=>?_)
              · conv=>whnf
                exact jeS hk26 h (Weak.refl _)
              conv=>whnf
              refine jeX hk26 h ?_
              conv=>whnf
              refine WkF.step (Weak.keepS _ [0]) ?_
              conv=>whnf
              exact WkF.refl _
            conv=>whnf
            refine fkS h (fun h=>?_) (fun h=>?_)
            · conv=>whnf
              exact jeS hk25 h (Weak.refl _)
            conv=>whnf
            refine⟨9,?_⟩
            conv=>whnf
            refine drS (by kernel_rfl) ?_
            conv=>whnf
            refine ixS (enc:=(eI .u8)) h rfl (fun _=>rfl) (fun x28 h=>?_)
            conv=>whnf
            exact jeS hk25 h (Weak.refl _)
          conv=>whnf
          refine lpS (fun v29=>⟨[(0,.l (.ptr 12 0)),(1,.l (.mfn 149 12)),(5,.l (.own 3006)),(6,.l (.d (.int .i64 v29.2.2.2)))],26,[⟨[(14,.l (.mfn 149 12)),(13,.l (.ptr 12 0)),(12,.l (.ptr 12 0)),(11,.agg [.d (.int .i64 w16.2.2),.d (.int .i64 w20.2.2)]),(10,.l (.d (.int .i64 w20.2.2))),(9,.l (.d (.int .i64 w16.2.2))),(0,.l (.ptr 12 0)),(2,.l (.ptr 2003 0)),(3,.l (.d (.int .i64 w16.2.2))),(4,.l (.d (.int .i64 w20.2.2)))],17⟩,⟨[(21,.l (.mfn 101 12)),(20,.l (.own 1006)),(17,.l (.d (.bool true))),(0,.l (.ptr 12 0)),(1,.l (.mfn 101 12)),(5,.l (.own 1006)),(6,.l (.d (.int .i64 v13.2.2.2))),(17,.l (.d (.bool w14)))],26⟩,⟨[(34,.l (.mfn 101 12)),(33,.l (.ptr 12 0)),(32,.l (.ptr 12 0)),(13,.l (.d (.bool false))),(0,.l (.d (.sl (a0.map (eI .u8))))),(2,.l (.ptr 3 0)),(5,.l (.ptr 12 0)),(12,.l (.d (.int .i64 v1.2.2))),(13,.l (.d (.bool (decide (v1.2.2<(3:Int))))))],74⟩],[(3,[.nil,.nil]),(12,[.d (.sl (a0.map (eI .u8))),.d (.int .i64 v29.1),.d (.int .i64 v29.2.1)]),(2003,[.d (.int .i64 (0:Int)),.d (.int .i64 (0:Int)),.nil])],[(1006,57,3,v13.2.2.1.map Part.enc),(3006,67,4,v29.2.2.1.map Task.enc)]⟩) h (Weak.trans (Weak.nilO _ 5 3006 67 4 rfl) (Weak.refl _)) (fun _ nx29 hn29 v29 h=>?_)
          conv=>whnf
          refine jnS (fun w30=>⟨[(0,.l (.ptr 12 0)),(1,.l (.mfn 149 12)),(5,.l (.own 3006)),(6,.l (.d (.int .i64 v29.2.2.2))),(17,.l (.d (.bool w30)))],26,[⟨[(14,.l (.mfn 149 12)),(13,.l (.ptr 12 0)),(12,.l (.ptr 12 0)),(11,.agg [.d (.int .i64 w16.2.2),.d (.int .i64 w20.2.2)]),(10,.l (.d (.int .i64 w20.2.2))),(9,.l (.d (.int .i64 w16.2.2))),(0,.l (.ptr 12 0)),(2,.l (.ptr 2003 0)),(3,.l (.d (.int .i64 w16.2.2))),(4,.l (.d (.int .i64 w20.2.2)))],17⟩,⟨[(21,.l (.mfn 101 12)),(20,.l (.own 1006)),(17,.l (.d (.bool true))),(0,.l (.ptr 12 0)),(1,.l (.mfn 101 12)),(5,.l (.own 1006)),(6,.l (.d (.int .i64 v13.2.2.2))),(17,.l (.d (.bool w14)))],26⟩,⟨[(34,.l (.mfn 101 12)),(33,.l (.ptr 12 0)),(32,.l (.ptr 12 0)),(13,.l (.d (.bool false))),(0,.l (.d (.sl (a0.map (eI .u8))))),(2,.l (.ptr 3 0)),(5,.l (.ptr 12 0)),(12,.l (.d (.int .i64 v1.2.2))),(13,.l (.d (.bool (decide (v1.2.2<(3:Int))))))],74⟩],[(3,[.nil,.nil]),(12,[.d (.sl (a0.map (eI .u8))),.d (.int .i64 v29.1),.d (.int .i64 v29.2.1)]),(2003,[.d (.int .i64 (0:Int)),.d (.int .i64 (0:Int)),.nil])],[(1006,57,3,v13.2.2.1.map Part.enc),(3006,67,4,v29.2.2.1.map Task.enc)]⟩) h (fun k30 hk30 h=>?_) (fun w30 h=>?_)
          · conv=>whnf
            refine fkS h (fun h=>?_) (fun h=>?_)
            · conv=>whnf
              exact jeS hk30 h (Weak.refl _)
            conv=>whnf
            exact jeS hk30 h (Weak.refl _)
          conv=>whnf
          refine fkS h (fun h=>?_) (fun h=>?_)
          · conv=>whnf
            refine inJ (fun w31=>⟨[(22,.agg [.d (.int .i64 w31.2.2.2.1),.d (.int .i64 w31.2.2.2.2.1),.d (.int .i64 w31.2.2.2.2.2),.own 403023]),(21,.l (.mfn 149 12)),(20,.l (.own 3006)),(17,.l (.d (.bool true))),(0,.l (.ptr 12 0)),(1,.l (.mfn 149 12)),(5,.l (.own 3006)),(6,.l (.d (.int .i64 v29.2.2.2)))],26,[⟨[(14,.l (.mfn 149 12)),(13,.l (.ptr 12 0)),(12,.l (.ptr 12 0)),(11,.agg [.d (.int .i64 w16.2.2),.d (.int .i64 w20.2.2)]),(10,.l (.d (.int .i64 w20.2.2))),(9,.l (.d (.int .i64 w16.2.2))),(0,.l (.ptr 12 0)),(2,.l (.ptr 2003 0)),(3,.l (.d (.int .i64 w16.2.2))),(4,.l (.d (.int .i64 w20.2.2)))],17⟩,⟨[(21,.l (.mfn 101 12)),(20,.l (.own 1006)),(17,.l (.d (.bool true))),(0,.l (.ptr 12 0)),(1,.l (.mfn 101 12)),(5,.l (.own 1006)),(6,.l (.d (.int .i64 v13.2.2.2))),(17,.l (.d (.bool w14)))],26⟩,⟨[(34,.l (.mfn 101 12)),(33,.l (.ptr 12 0)),(32,.l (.ptr 12 0)),(13,.l (.d (.bool false))),(0,.l (.d (.sl (a0.map (eI .u8))))),(2,.l (.ptr 3 0)),(5,.l (.ptr 12 0)),(12,.l (.d (.int .i64 v1.2.2))),(13,.l (.d (.bool (decide (v1.2.2<(3:Int))))))],74⟩],[(3,[.nil,.nil]),(12,[.d (.sl (a0.map (eI .u8))),.d (.int .i64 w31.1),.d (.int .i64 w31.2.1)]),(2003,[.d (.int .i64 (0:Int)),.d (.int .i64 (0:Int)),.nil])],[(1006,57,3,v13.2.2.1.map Part.enc),(3006,67,4,v29.2.2.1.map Task.enc),(403023,200,3,w31.2.2.1.map Sec.enc)]⟩) h (fun k31 hk31 h=>?_) (fun w31 h=>?_)
            · conv=>whnf
              refine inS (fn:=Tryz.f149) tab ⟨[(0,[0,2]),(1,[0,2,3,4,5]),(2,[2])],[],[],[]⟩ 20 [.cell 2 67] rfl rfl rfl rfl rfl rfl ?_
              conv=>whnf
              refine inJ (fun w32=>⟨[(7,.l (.d (.int .i64 w32.2.2))),(6,.l (.ptr 12 0)),(0,.l (.ptr 12 0)),(2,.l (.ptr 4003 0))],20,[⟨[(21,.l (.mfn 149 12)),(20,.l (.own 3006)),(17,.l (.d (.bool true))),(0,.l (.ptr 12 0)),(1,.l (.mfn 149 12)),(5,.l (.own 3006)),(6,.l (.d (.int .i64 v29.2.2.2))),(17,.l (.d (.bool w30)))],26⟩,⟨[(14,.l (.mfn 149 12)),(13,.l (.ptr 12 0)),(12,.l (.ptr 12 0)),(11,.agg [.d (.int .i64 w16.2.2),.d (.int .i64 w20.2.2)]),(10,.l (.d (.int .i64 w20.2.2))),(9,.l (.d (.int .i64 w16.2.2))),(0,.l (.ptr 12 0)),(2,.l (.ptr 2003 0)),(3,.l (.d (.int .i64 w16.2.2))),(4,.l (.d (.int .i64 w20.2.2)))],17⟩,⟨[(21,.l (.mfn 101 12)),(20,.l (.own 1006)),(17,.l (.d (.bool true))),(0,.l (.ptr 12 0)),(1,.l (.mfn 101 12)),(5,.l (.own 1006)),(6,.l (.d (.int .i64 v13.2.2.2))),(17,.l (.d (.bool w14)))],26⟩,⟨[(34,.l (.mfn 101 12)),(33,.l (.ptr 12 0)),(32,.l (.ptr 12 0)),(13,.l (.d (.bool false))),(0,.l (.d (.sl (a0.map (eI .u8))))),(2,.l (.ptr 3 0)),(5,.l (.ptr 12 0)),(12,.l (.d (.int .i64 v1.2.2))),(13,.l (.d (.bool (decide (v1.2.2<(3:Int))))))],74⟩],[(3,[.nil,.nil]),(12,[.d (.sl (a0.map (eI .u8))),.d (.int .i64 w32.1),.d (.int .i64 w32.2.1)]),(2003,[.d (.int .i64 (0:Int)),.d (.int .i64 (0:Int)),.nil]),(4003,[.d (.int .i64 (0:Int)),.d (.int .i64 (0:Int)),.d (.int .i64 (0:Int)),.nil])],[(1006,57,3,v13.2.2.1.map Part.enc),(3006,67,4,v29.2.2.1.map Task.enc)]⟩) h (fun k32 hk32 h=>?_) (fun w32 h=>?_)
              · conv=>whnf
                refine inS (fn:=Tryz.f99) tab ⟨[(0,[0]),(1,[0,19]),(2,[0]),(3,[0,27]),(4,[2]),(5,[0]),(6,[2])],[],[100019,3],[]⟩ 47 [.tmp 2] rfl rfl rfl rfl rfl rfl ?_
                conv=>whnf
                refine jnS (fun w33=>⟨[(0,.l (.ptr 12 0))],47,[⟨[(6,.l (.ptr 12 0)),(0,.l (.ptr 12 0)),(2,.l (.ptr 4003 0))],20⟩,⟨[(21,.l (.mfn 149 12)),(20,.l (.own 3006)),(17,.l (.d (.bool true))),(0,.l (.ptr 12 0)),(1,.l (.mfn 149 12)),(5,.l (.own 3006)),(6,.l (.d (.int .i64 v29.2.2.2))),(17,.l (.d (.bool w30)))],26⟩,⟨[(14,.l (.mfn 149 12)),(13,.l (.ptr 12 0)),(12,.l (.ptr 12 0)),(11,.agg [.d (.int .i64 w16.2.2),.d (.int .i64 w20.2.2)]),(10,.l (.d (.int .i64 w20.2.2))),(9,.l (.d (.int .i64 w16.2.2))),(0,.l (.ptr 12 0)),(2,.l (.ptr 2003 0)),(3,.l (.d (.int .i64 w16.2.2))),(4,.l (.d (.int .i64 w20.2.2)))],17⟩,⟨[(21,.l (.mfn 101 12)),(20,.l (.own 1006)),(17,.l (.d (.bool true))),(0,.l (.ptr 12 0)),(1,.l (.mfn 101 12)),(5,.l (.own 1006)),(6,.l (.d (.int .i64 v13.2.2.2))),(17,.l (.d (.bool w14)))],26⟩,⟨[(34,.l (.mfn 101 12)),(33,.l (.ptr 12 0)),(32,.l (.ptr 12 0)),(13,.l (.d (.bool false))),(0,.l (.d (.sl (a0.map (eI .u8))))),(2,.l (.ptr 3 0)),(5,.l (.ptr 12 0)),(12,.l (.d (.int .i64 v1.2.2))),(13,.l (.d (.bool (decide (v1.2.2<(3:Int))))))],74⟩],[(3,[.nil,.nil]),(12,[.d (.sl (a0.map (eI .u8))),.d (.int .i64 v29.1),.d (.int .i64 w33)]),(2003,[.d (.int .i64 (0:Int)),.d (.int .i64 (0:Int)),.nil]),(4003,[.d (.int .i64 (0:Int)),.d (.int .i64 (0:Int)),.d (.int .i64 (0:Int)),.nil])],[(1006,57,3,v13.2.2.1.map Part.enc),(3006,67,4,v29.2.2.1.map Task.enc)]⟩) h (fun k33 hk33 h=>?_) (fun w33 h=>?_)
                · conv=>whnf
                  refine jnS (fun w34=>⟨[(0,.l (.ptr 12 0)),(19,.l (.d (.bool w34)))],47,[⟨[(6,.l (.ptr 12 0)),(0,.l (.ptr 12 0)),(2,.l (.ptr 4003 0))],20⟩,⟨[(21,.l (.mfn 149 12)),(20,.l (.own 3006)),(17,.l (.d (.bool true))),(0,.l (.ptr 12 0)),(1,.l (.mfn 149 12)),(5,.l (.own 3006)),(6,.l (.d (.int .i64 v29.2.2.2))),(17,.l (.d (.bool w30)))],26⟩,⟨[(14,.l (.mfn 149 12)),(13,.l (.ptr 12 0)),(12,.l (.ptr 12 0)),(11,.agg [.d (.int .i64 w16.2.2),.d (.int .i64 w20.2.2)]),(10,.l (.d (.int .i64 w20.2.2))),(9,.l (.d (.int .i64 w16.2.2))),(0,.l (.ptr 12 0)),(2,.l (.ptr 2003 0)),(3,.l (.d (.int .i64 w16.2.2))),(4,.l (.d (.int .i64 w20.2.2)))],17⟩,⟨[(21,.l (.mfn 101 12)),(20,.l (.own 1006)),(17,.l (.d (.bool true))),(0,.l (.ptr 12 0)),(1,.l (.mfn 101 12)),(5,.l (.own 1006)),(6,.l (.d (.int .i64 v13.2.2.2))),(17,.l (.d (.bool w14)))],26⟩,⟨[(34,.l (.mfn 101 12)),(33,.l (.ptr 12 0)),(32,.l (.ptr 12 0)),(13,.l (.d (.bool false))),(0,.l (.d (.sl (a0.map (eI .u8))))),(2,.l (.ptr 3 0)),(5,.l (.ptr 12 0)),(12,.l (.d (.int .i64 v1.2.2))),(13,.l (.d (.bool (decide (v1.2.2<(3:Int))))))],74⟩],[(3,[.nil,.nil]),(12,[.d (.sl (a0.map (eI .u8))),.d (.int .i64 v29.1),.d (.int .i64 v29.2.1)]),(2003,[.d (.int .i64 (0:Int)),.d (.int .i64 (0:Int)),.nil]),(4003,[.d (.int .i64 (0:Int)),.d (.int .i64 (0:Int)),.d (.int .i64 (0:Int)),.nil])],[(1006,57,3,v13.2.2.1.map Part.enc),(3006,67,4,v29.2.2.1.map Task.enc)]⟩) h (fun k34 hk34 h=>?_) (fun w34 h=>?_)
                  · conv=>whnf
                    refine⟨17,?_⟩
                    conv=>whnf
                    refine fkS h (fun h=>?_) (fun h=>?_)
                    · conv=>whnf
                      refine lenS a0 (eI .u8) rfl ?_
                      conv=>whnf
                      refine drS (by kernel_rfl) ?_
                      conv=>whnf
                      exact jeS hk34 h (Weak.refl _)
                    conv=>whnf
                    refine drS (by kernel_rfl) ?_
                    conv=>whnf
                    exact jeS hk34 h (Weak.refl _)
                  conv=>whnf
                  refine fkS h (fun h=>?_) (fun h=>?_)
                  · conv=>whnf
                    exact jeS hk33 h (Weak.refl _)
                  conv=>whnf
                  refine jeX hk33 h ?_
                  conv=>whnf
                  refine WkF.step (Weak.keepS _ [0]) ?_
                  conv=>whnf
                  exact WkF.refl _
                conv=>whnf
                refine fkS h (fun h=>?_) (fun h=>?_)
                · conv=>whnf
                  exact jeS hk32 h (Weak.refl _)
                conv=>whnf
                refine⟨9,?_⟩
                conv=>whnf
                refine drS (by kernel_rfl) ?_
                conv=>whnf
                refine ixS (enc:=(eI .u8)) h rfl (fun _=>rfl) (fun x35 h=>?_)
                conv=>whnf
                exact jeS hk32 h (Weak.refl _)
              conv=>whnf
              refine inJ (fun w36=>⟨[(9,.l (.d (.int .i64 w36.2.2))),(8,.l (.ptr 12 0)),(7,.l (.d (.int .i64 w32.2.2))),(6,.l (.ptr 12 0)),(0,.l (.ptr 12 0)),(2,.l (.ptr 4003 0))],20,[⟨[(21,.l (.mfn 149 12)),(20,.l (.own 3006)),(17,.l (.d (.bool true))),(0,.l (.ptr 12 0)),(1,.l (.mfn 149 12)),(5,.l (.own 3006)),(6,.l (.d (.int .i64 v29.2.2.2))),(17,.l (.d (.bool w30)))],26⟩,⟨[(14,.l (.mfn 149 12)),(13,.l (.ptr 12 0)),(12,.l (.ptr 12 0)),(11,.agg [.d (.int .i64 w16.2.2),.d (.int .i64 w20.2.2)]),(10,.l (.d (.int .i64 w20.2.2))),(9,.l (.d (.int .i64 w16.2.2))),(0,.l (.ptr 12 0)),(2,.l (.ptr 2003 0)),(3,.l (.d (.int .i64 w16.2.2))),(4,.l (.d (.int .i64 w20.2.2)))],17⟩,⟨[(21,.l (.mfn 101 12)),(20,.l (.own 1006)),(17,.l (.d (.bool true))),(0,.l (.ptr 12 0)),(1,.l (.mfn 101 12)),(5,.l (.own 1006)),(6,.l (.d (.int .i64 v13.2.2.2))),(17,.l (.d (.bool w14)))],26⟩,⟨[(34,.l (.mfn 101 12)),(33,.l (.ptr 12 0)),(32,.l (.ptr 12 0)),(13,.l (.d (.bool false))),(0,.l (.d (.sl (a0.map (eI .u8))))),(2,.l (.ptr 3 0)),(5,.l (.ptr 12 0)),(12,.l (.d (.int .i64 v1.2.2))),(13,.l (.d (.bool (decide (v1.2.2<(3:Int))))))],74⟩],[(3,[.nil,.nil]),(12,[.d (.sl (a0.map (eI .u8))),.d (.int .i64 w36.1),.d (.int .i64 w36.2.1)]),(2003,[.d (.int .i64 (0:Int)),.d (.int .i64 (0:Int)),.nil]),(4003,[.d (.int .i64 (0:Int)),.d (.int .i64 (0:Int)),.d (.int .i64 (0:Int)),.nil])],[(1006,57,3,v13.2.2.1.map Part.enc),(3006,67,4,v29.2.2.1.map Task.enc)]⟩) h (fun k36 hk36 h=>?_) (fun w36 h=>?_)
              · conv=>whnf
                refine inS (fn:=Tryz.f99) tab ⟨[(0,[0]),(1,[0,19]),(2,[0]),(3,[0,27]),(4,[2]),(5,[0]),(6,[2])],[],[100019,3],[]⟩ 47 [.tmp 2] rfl rfl rfl rfl rfl rfl ?_
                conv=>whnf
                refine jnS (fun w37=>⟨[(0,.l (.ptr 12 0))],47,[⟨[(8,.l (.ptr 12 0)),(7,.l (.d (.int .i64 w32.2.2))),(6,.l (.ptr 12 0)),(0,.l (.ptr 12 0)),(2,.l (.ptr 4003 0))],20⟩,⟨[(21,.l (.mfn 149 12)),(20,.l (.own 3006)),(17,.l (.d (.bool true))),(0,.l (.ptr 12 0)),(1,.l (.mfn 149 12)),(5,.l (.own 3006)),(6,.l (.d (.int .i64 v29.2.2.2))),(17,.l (.d (.bool w30)))],26⟩,⟨[(14,.l (.mfn 149 12)),(13,.l (.ptr 12 0)),(12,.l (.ptr 12 0)),(11,.agg [.d (.int .i64 w16.2.2),.d (.int .i64 w20.2.2)]),(10,.l (.d (.int .i64 w20.2.2))),(9,.l (.d (.int .i64 w16.2.2))),(0,.l (.ptr 12 0)),(2,.l (.ptr 2003 0)),(3,.l (.d (.int .i64 w16.2.2))),(4,.l (.d (.int .i64 w20.2.2)))],17⟩,⟨[(21,.l (.mfn 101 12)),(20,.l (.own 1006)),(17,.l (.d (.bool true))),(0,.l (.ptr 12 0)),(1,.l (.mfn 101 12)),(5,.l (.own 1006)),(6,.l (.d (.int .i64 v13.2.2.2))),(17,.l (.d (.bool w14)))],26⟩,⟨[(34,.l (.mfn 101 12)),(33,.l (.ptr 12 0)),(32,.l (.ptr 12 0)),(13,.l (.d (.bool false))),(0,.l (.d (.sl (a0.map (eI .u8))))),(2,.l (.ptr 3 0)),(5,.l (.ptr 12 0)),(12,.l (.d (.int .i64 v1.2.2))),(13,.l (.d (.bool (decide (v1.2.2<(3:Int))))))],74⟩],[(3,[.nil,.nil]),(12,[.d (.sl (a0.map (eI .u8))),.d (.int .i64 w32.1),.d (.int .i64 w37)]),(2003,[.d (.int .i64 (0:Int)),.d (.int .i64 (0:Int)),.nil]),(4003,[.d (.int .i64 (0:Int)),.d (.int .i64 (0:Int)),.d (.int .i64 (0:Int)),.nil])],[(1006,57,3,v13.2.2.1.map Part.enc),(3006,67,4,v29.2.2.1.map Task.enc)]⟩) h (fun k37 hk37 h=>?_) (fun w37 h=>?_)
                · conv=>whnf
                  refine jnS (fun w38=>⟨[(0,.l (.ptr 12 0)),(19,.l (.d (.bool w38)))],47,[⟨[(8,.l (.ptr 12 0)),(7,.l (.d (.int .i64 w32.2.2))),(6,.l (.ptr 12 0)),(0,.l (.ptr 12 0)),(2,.l (.ptr 4003 0))],20⟩,⟨[(21,.l (.mfn 149 12)),(20,.l (.own 3006)),(17,.l (.d (.bool true))),(0,.l (.ptr 12 0)),(1,.l (.mfn 149 12)),(5,.l (.own 3006)),(6,.l (.d (.int .i64 v29.2.2.2))),(17,.l (.d (.bool w30)))],26⟩,⟨[(14,.l (.mfn 149 12)),(13,.l (.ptr 12 0)),(12,.l (.ptr 12 0)),(11,.agg [.d (.int .i64 w16.2.2),.d (.int .i64 w20.2.2)]),(10,.l (.d (.int .i64 w20.2.2))),(9,.l (.d (.int .i64 w16.2.2))),(0,.l (.ptr 12 0)),(2,.l (.ptr 2003 0)),(3,.l (.d (.int .i64 w16.2.2))),(4,.l (.d (.int .i64 w20.2.2)))],17⟩,⟨[(21,.l (.mfn 101 12)),(20,.l (.own 1006)),(17,.l (.d (.bool true))),(0,.l (.ptr 12 0)),(1,.l (.mfn 101 12)),(5,.l (.own 1006)),(6,.l (.d (.int .i64 v13.2.2.2))),(17,.l (.d (.bool w14)))],26⟩,⟨[(34,.l (.mfn 101 12)),(33,.l (.ptr 12 0)),(32,.l (.ptr 12 0)),(13,.l (.d (.bool false))),(0,.l (.d (.sl (a0.map (eI .u8))))),(2,.l (.ptr 3 0)),(5,.l (.ptr 12 0)),(12,.l (.d (.int .i64 v1.2.2))),(13,.l (.d (.bool (decide (v1.2.2<(3:Int))))))],74⟩],[(3,[.nil,.nil]),(12,[.d (.sl (a0.map (eI .u8))),.d (.int .i64 w32.1),.d (.int .i64 w32.2.1)]),(2003,[.d (.int .i64 (0:Int)),.d (.int .i64 (0:Int)),.nil]),(4003,[.d (.int .i64 (0:Int)),.d (.int .i64 (0:Int)),.d (.int .i64 (0:Int)),.nil])],[(1006,57,3,v13.2.2.1.map Part.enc),(3006,67,4,v29.2.2.1.map Task.enc)]⟩) h (fun k38 hk38 h=>?_) (fun w38 h=>?_)
                  · conv=>whnf
                    refine⟨17,?_⟩
                    conv=>whnf
                    refine fkS h (fun h=>?_) (fun h=>?_)
                    · conv=>whnf
                      refine lenS a0 (eI .u8) rfl ?_
                      conv=>whnf
                      refine drS (by kernel_rfl) ?_
                      conv=>whnf
                      exact jeS hk38 h (Weak.refl _)
                    conv=>whnf
                    refine drS (by kernel_rfl) ?_
                    conv=>whnf
                    exact jeS hk38 h (Weak.refl _)
                  conv=>whnf
                  refine fkS h (fun h=>?_) (fun h=>?_)
                  · conv=>whnf
                    exact jeS hk37 h (Weak.refl _)
                  conv=>whnf
                  refine jeX hk37 h ?_
                  conv=>whnf
                  refine WkF.step (Weak.keepS _ [0]) ?_
                  conv=>whnf
                  exact WkF.refl _
                conv=>whnf
                refine fkS h (fun h=>?_) (fun h=>?_)
                · conv=>whnf
                  exact jeS hk36 h (Weak.refl _)
                conv=>whnf
                refine⟨9,?_⟩
                conv=>whnf
                refine drS (by kernel_rfl) ?_
                conv=>whnf
                refine ixS (enc:=(eI .u8)) h rfl (fun _=>rfl) (fun x39 h=>?_)
                conv=>whnf
                exact jeS hk36 h (Weak.refl _)
              conv=>whnf
              refine inJ (fun w40=>⟨[(11,.l (.d (.int .i64 w40.2.2))),(10,.l (.ptr 12 0)),(9,.l (.d (.int .i64 w36.2.2))),(8,.l (.ptr 12 0)),(7,.l (.d (.int .i64 w32.2.2))),(6,.l (.ptr 12 0)),(0,.l (.ptr 12 0)),(2,.l (.ptr 4003 0))],20,[⟨[(21,.l (.mfn 149 12)),(20,.l (.own 3006)),(17,.l (.d (.bool true))),(0,.l (.ptr 12 0)),(1,.l (.mfn 149 12)),(5,.l (.own 3006)),(6,.l (.d (.int .i64 v29.2.2.2))),(17,.l (.d (.bool w30)))],26⟩,⟨[(14,.l (.mfn 149 12)),(13,.l (.ptr 12 0)),(12,.l (.ptr 12 0)),(11,.agg [.d (.int .i64 w16.2.2),.d (.int .i64 w20.2.2)]),(10,.l (.d (.int .i64 w20.2.2))),(9,.l (.d (.int .i64 w16.2.2))),(0,.l (.ptr 12 0)),(2,.l (.ptr 2003 0)),(3,.l (.d (.int .i64 w16.2.2))),(4,.l (.d (.int .i64 w20.2.2)))],17⟩,⟨[(21,.l (.mfn 101 12)),(20,.l (.own 1006)),(17,.l (.d (.bool true))),(0,.l (.ptr 12 0)),(1,.l (.mfn 101 12)),(5,.l (.own 1006)),(6,.l (.d (.int .i64 v13.2.2.2))),(17,.l (.d (.bool w14)))],26⟩,⟨[(34,.l (.mfn 101 12)),(33,.l (.ptr 12 0)),(32,.l (.ptr 12 0)),(13,.l (.d (.bool false))),(0,.l (.d (.sl (a0.map (eI .u8))))),(2,.l (.ptr 3 0)),(5,.l (.ptr 12 0)),(12,.l (.d (.int .i64 v1.2.2))),(13,.l (.d (.bool (decide (v1.2.2<(3:Int))))))],74⟩],[(3,[.nil,.nil]),(12,[.d (.sl (a0.map (eI .u8))),.d (.int .i64 w40.1),.d (.int .i64 w40.2.1)]),(2003,[.d (.int .i64 (0:Int)),.d (.int .i64 (0:Int)),.nil]),(4003,[.d (.int .i64 (0:Int)),.d (.int .i64 (0:Int)),.d (.int .i64 (0:Int)),.nil])],[(1006,57,3,v13.2.2.1.map Part.enc),(3006,67,4,v29.2.2.1.map Task.enc)]⟩) h (fun k40 hk40 h=>?_) (fun w40 h=>?_)
              · conv=>whnf
                refine inS (fn:=Tryz.f99) tab ⟨[(0,[0]),(1,[0,19]),(2,[0]),(3,[0,27]),(4,[2]),(5,[0]),(6,[2])],[],[100019,3],[]⟩ 47 [.tmp 2] rfl rfl rfl rfl rfl rfl ?_
                conv=>whnf
                refine jnS (fun w41=>⟨[(0,.l (.ptr 12 0))],47,[⟨[(10,.l (.ptr 12 0)),(9,.l (.d (.int .i64 w36.2.2))),(8,.l (.ptr 12 0)),(7,.l (.d (.int .i64 w32.2.2))),(6,.l (.ptr 12 0)),(0,.l (.ptr 12 0)),(2,.l (.ptr 4003 0))],20⟩,⟨[(21,.l (.mfn 149 12)),(20,.l (.own 3006)),(17,.l (.d (.bool true))),(0,.l (.ptr 12 0)),(1,.l (.mfn 149 12)),(5,.l (.own 3006)),(6,.l (.d (.int .i64 v29.2.2.2))),(17,.l (.d (.bool w30)))],26⟩,⟨[(14,.l (.mfn 149 12)),(13,.l (.ptr 12 0)),(12,.l (.ptr 12 0)),(11,.agg [.d (.int .i64 w16.2.2),.d (.int .i64 w20.2.2)]),(10,.l (.d (.int .i64 w20.2.2))),(9,.l (.d (.int .i64 w16.2.2))),(0,.l (.ptr 12 0)),(2,.l (.ptr 2003 0)),(3,.l (.d (.int .i64 w16.2.2))),(4,.l (.d (.int .i64 w20.2.2)))],17⟩,⟨[(21,.l (.mfn 101 12)),(20,.l (.own 1006)),(17,.l (.d (.bool true))),(0,.l (.ptr 12 0)),(1,.l (.mfn 101 12)),(5,.l (.own 1006)),(6,.l (.d (.int .i64 v13.2.2.2))),(17,.l (.d (.bool w14)))],26⟩,⟨[(34,.l (.mfn 101 12)),(33,.l (.ptr 12 0)),(32,.l (.ptr 12 0)),(13,.l (.d (.bool false))),(0,.l (.d (.sl (a0.map (eI .u8))))),(2,.l (.ptr 3 0)),(5,.l (.ptr 12 0)),(12,.l (.d (.int .i64 v1.2.2))),(13,.l (.d (.bool (decide (v1.2.2<(3:Int))))))],74⟩],[(3,[.nil,.nil]),(12,[.d (.sl (a0.map (eI .u8))),.d (.int .i64 w36.1),.d (.int .i64 w41)]),(2003,[.d (.int .i64 (0:Int)),.d (.int .i64 (0:Int)),.nil]),(4003,[.d (.int .i64 (0:Int)),.d (.int .i64 (0:Int)),.d (.int .i64 (0:Int)),.nil])],[(1006,57,3,v13.2.2.1.map Part.enc),(3006,67,4,v29.2.2.1.map Task.enc)]⟩) h (fun k41 hk41 h=>?_) (fun w41 h=>?_)
                · conv=>whnf
                  refine jnS (fun w42=>⟨[(0,.l (.ptr 12 0)),(19,.l (.d (.bool w42)))],47,[⟨[(10,.l (.ptr 12 0)),(9,.l (.d (.int .i64 w36.2.2))),(8,.l (.ptr 12 0)),(7,.l (.d (.int .i64 w32.2.2))),(6,.l (.ptr 12 0)),(0,.l (.ptr 12 0)),(2,.l (.ptr 4003 0))],20⟩,⟨[(21,.l (.mfn 149 12)),(20,.l (.own 3006)),(17,.l (.d (.bool true))),(0,.l (.ptr 12 0)),(1,.l (.mfn 149 12)),(5,.l (.own 3006)),(6,.l (.d (.int .i64 v29.2.2.2))),(17,.l (.d (.bool w30)))],26⟩,⟨[(14,.l (.mfn 149 12)),(13,.l (.ptr 12 0)),(12,.l (.ptr 12 0)),(11,.agg [.d (.int .i64 w16.2.2),.d (.int .i64 w20.2.2)]),(10,.l (.d (.int .i64 w20.2.2))),(9,.l (.d (.int .i64 w16.2.2))),(0,.l (.ptr 12 0)),(2,.l (.ptr 2003 0)),(3,.l (.d (.int .i64 w16.2.2))),(4,.l (.d (.int .i64 w20.2.2)))],17⟩,⟨[(21,.l (.mfn 101 12)),(20,.l (.own 1006)),(17,.l (.d (.bool true))),(0,.l (.ptr 12 0)),(1,.l (.mfn 101 12)),(5,.l (.own 1006)),(6,.l (.d (.int .i64 v13.2.2.2))),(17,.l (.d (.bool w14)))],26⟩,⟨[(34,.l (.mfn 101 12)),(33,.l (.ptr 12 0)),(32,.l (.ptr 12 0)),(13,.l (.d (.bool false))),(0,.l (.d (.sl (a0.map (eI .u8))))),(2,.l (.ptr 3 0)),(5,.l (.ptr 12 0)),(12,.l (.d (.int .i64 v1.2.2))),(13,.l (.d (.bool (decide (v1.2.2<(3:Int))))))],74⟩],[(3,[.nil,.nil]),(12,[.d (.sl (a0.map (eI .u8))),.d (.int .i64 w36.1),.d (.int .i64 w36.2.1)]),(2003,[.d (.int .i64 (0:Int)),.d (.int .i64 (0:Int)),.nil]),(4003,[.d (.int .i64 (0:Int)),.d (.int .i64 (0:Int)),.d (.int .i64 (0:Int)),.nil])],[(1006,57,3,v13.2.2.1.map Part.enc),(3006,67,4,v29.2.2.1.map Task.enc)]⟩) h (fun k42 hk42 h=>?_) (fun w42 h=>?_)
                  · conv=>whnf
                    refine⟨17,?_⟩
                    conv=>whnf
                    refine fkS h (fun h=>?_) (fun h=>?_)
                    · conv=>whnf
                      refine lenS a0 (eI .u8) rfl ?_
                      conv=>whnf
                      refine drS (by kernel_rfl) ?_
                      conv=>whnf
                      exact jeS hk42 h (Weak.refl _)
                    conv=>whnf
                    refine drS (by kernel_rfl) ?_
                    conv=>whnf
                    exact jeS hk42 h (Weak.refl _)
                  conv=>whnf
                  refine fkS h (fun h=>?_) (fun h=>?_)
                  · conv=>whnf
                    exact jeS hk41 h (Weak.refl _)
                  conv=>whnf
                  refine jeX hk41 h ?_
                  conv=>whnf
                  refine WkF.step (Weak.keepS _ [0]) ?_
                  conv=>whnf
                  exact WkF.refl _
                conv=>whnf
                refine fkS h (fun h=>?_) (fun h=>?_)
                · conv=>whnf
                  exact jeS hk40 h (Weak.refl _)
                conv=>whnf
                refine⟨9,?_⟩
                conv=>whnf
                refine drS (by kernel_rfl) ?_
                conv=>whnf
                refine ixS (enc:=(eI .u8)) h rfl (fun _=>rfl) (fun x43 h=>?_)
                conv=>whnf
                exact jeS hk40 h (Weak.refl _)
              conv=>whnf
              refine inJ (fun w44=>⟨[(18,.l (.own 4019)),(17,.l (.mfn 163 12)),(16,.l (.ptr 12 0)),(15,.l (.ptr 12 0)),(14,.l (.d (.int .i64 w40.2.2))),(13,.l (.d (.int .i64 w36.2.2))),(12,.l (.d (.int .i64 w32.2.2))),(0,.l (.ptr 12 0)),(2,.l (.ptr 4003 0)),(3,.l (.d (.int .i64 w32.2.2))),(4,.l (.d (.int .i64 w36.2.2))),(5,.l (.d (.int .i64 w40.2.2)))],20,[⟨[(21,.l (.mfn 149 12)),(20,.l (.own 3006)),(17,.l (.d (.bool true))),(0,.l (.ptr 12 0)),(1,.l (.mfn 149 12)),(5,.l (.own 3006)),(6,.l (.d (.int .i64 v29.2.2.2))),(17,.l (.d (.bool w30)))],26⟩,⟨[(14,.l (.mfn 149 12)),(13,.l (.ptr 12 0)),(12,.l (.ptr 12 0)),(11,.agg [.d (.int .i64 w16.2.2),.d (.int .i64 w20.2.2)]),(10,.l (.d (.int .i64 w20.2.2))),(9,.l (.d (.int .i64 w16.2.2))),(0,.l (.ptr 12 0)),(2,.l (.ptr 2003 0)),(3,.l (.d (.int .i64 w16.2.2))),(4,.l (.d (.int .i64 w20.2.2)))],17⟩,⟨[(21,.l (.mfn 101 12)),(20,.l (.own 1006)),(17,.l (.d (.bool true))),(0,.l (.ptr 12 0)),(1,.l (.mfn 101 12)),(5,.l (.own 1006)),(6,.l (.d (.int .i64 v13.2.2.2))),(17,.l (.d (.bool w14)))],26⟩,⟨[(34,.l (.mfn 101 12)),(33,.l (.ptr 12 0)),(32,.l (.ptr 12 0)),(13,.l (.d (.bool false))),(0,.l (.d (.sl (a0.map (eI .u8))))),(2,.l (.ptr 3 0)),(5,.l (.ptr 12 0)),(12,.l (.d (.int .i64 v1.2.2))),(13,.l (.d (.bool (decide (v1.2.2<(3:Int))))))],74⟩],[(3,[.nil,.nil]),(12,[.d (.sl (a0.map (eI .u8))),.d (.int .i64 w44.1),.d (.int .i64 w44.2.1)]),(2003,[.d (.int .i64 (0:Int)),.d (.int .i64 (0:Int)),.nil]),(4003,[.d (.int .i64 (0:Int)),.d (.int .i64 (0:Int)),.d (.int .i64 (0:Int)),.nil])],[(1006,57,3,v13.2.2.1.map Part.enc),(3006,67,4,v29.2.2.1.map Task.enc),(4019,200,3,w44.2.2.map Sec.enc)]⟩) h (fun k44 hk44 h=>?_) (fun w44 h=>?_)
              · conv=>whnf
                refine inS (fn:=Tryz.f162) tab ⟨[(0,[0,1]),(1,[0,1,5]),(2,[0,1,5,6]),(3,[0,1,5,6,17]),(4,[0,1,5,6]),(5,[0,1,5,6]),(6,[4])],[],[100017],[]⟩ 26 [.tmp 4] rfl rfl rfl rfl rfl rfl ?_
                conv=>whnf
                refine inJ (fun w45=>⟨[(8,.l (.d (.int .i64 w45.2.2))),(7,.l (.ptr 12 0)),(0,.l (.ptr 12 0)),(1,.l (.mfn 163 12)),(5,.l .nil)],26,[⟨[(17,.l (.mfn 163 12)),(16,.l (.ptr 12 0)),(15,.l (.ptr 12 0)),(14,.l (.d (.int .i64 w40.2.2))),(13,.l (.d (.int .i64 w36.2.2))),(12,.l (.d (.int .i64 w32.2.2))),(0,.l (.ptr 12 0)),(2,.l (.ptr 4003 0)),(3,.l (.d (.int .i64 w32.2.2))),(4,.l (.d (.int .i64 w36.2.2))),(5,.l (.d (.int .i64 w40.2.2)))],20⟩,⟨[(21,.l (.mfn 149 12)),(20,.l (.own 3006)),(17,.l (.d (.bool true))),(0,.l (.ptr 12 0)),(1,.l (.mfn 149 12)),(5,.l (.own 3006)),(6,.l (.d (.int .i64 v29.2.2.2))),(17,.l (.d (.bool w30)))],26⟩,⟨[(14,.l (.mfn 149 12)),(13,.l (.ptr 12 0)),(12,.l (.ptr 12 0)),(11,.agg [.d (.int .i64 w16.2.2),.d (.int .i64 w20.2.2)]),(10,.l (.d (.int .i64 w20.2.2))),(9,.l (.d (.int .i64 w16.2.2))),(0,.l (.ptr 12 0)),(2,.l (.ptr 2003 0)),(3,.l (.d (.int .i64 w16.2.2))),(4,.l (.d (.int .i64 w20.2.2)))],17⟩,⟨[(21,.l (.mfn 101 12)),(20,.l (.own 1006)),(17,.l (.d (.bool true))),(0,.l (.ptr 12 0)),(1,.l (.mfn 101 12)),(5,.l (.own 1006)),(6,.l (.d (.int .i64 v13.2.2.2))),(17,.l (.d (.bool w14)))],26⟩,⟨[(34,.l (.mfn 101 12)),(33,.l (.ptr 12 0)),(32,.l (.ptr 12 0)),(13,.l (.d (.bool false))),(0,.l (.d (.sl (a0.map (eI .u8))))),(2,.l (.ptr 3 0)),(5,.l (.ptr 12 0)),(12,.l (.d (.int .i64 v1.2.2))),(13,.l (.d (.bool (decide (v1.2.2<(3:Int))))))],74⟩],[(3,[.nil,.nil]),(12,[.d (.sl (a0.map (eI .u8))),.d (.int .i64 w45.1),.d (.int .i64 w45.2.1)]),(2003,[.d (.int .i64 (0:Int)),.d (.int .i64 (0:Int)),.nil]),(4003,[.d (.int .i64 (0:Int)),.d (.int .i64 (0:Int)),.d (.int .i64 (0:Int)),.nil])],[(1006,57,3,v13.2.2.1.map Part.enc),(3006,67,4,v29.2.2.1.map Task.enc)]⟩) h (fun k45 hk45 h=>?_) (fun w45 h=>?_)
                · conv=>whnf
                  refine inS (fn:=Tryz.f99) tab ⟨[(0,[0]),(1,[0,19]),(2,[0]),(3,[0,27]),(4,[2]),(5,[0]),(6,[2])],[],[100019,3],[]⟩ 47 [.tmp 2] rfl rfl rfl rfl rfl rfl ?_
                  conv=>whnf
                  refine jnS (fun w46=>⟨[(0,.l (.ptr 12 0))],47,[⟨[(7,.l (.ptr 12 0)),(0,.l (.ptr 12 0)),(1,.l (.mfn 163 12)),(5,.l .nil)],26⟩,⟨[(17,.l (.mfn 163 12)),(16,.l (.ptr 12 0)),(15,.l (.ptr 12 0)),(14,.l (.d (.int .i64 w40.2.2))),(13,.l (.d (.int .i64 w36.2.2))),(12,.l (.d (.int .i64 w32.2.2))),(0,.l (.ptr 12 0)),(2,.l (.ptr 4003 0)),(3,.l (.d (.int .i64 w32.2.2))),(4,.l (.d (.int .i64 w36.2.2))),(5,.l (.d (.int .i64 w40.2.2)))],20⟩,⟨[(21,.l (.mfn 149 12)),(20,.l (.own 3006)),(17,.l (.d (.bool true))),(0,.l (.ptr 12 0)),(1,.l (.mfn 149 12)),(5,.l (.own 3006)),(6,.l (.d (.int .i64 v29.2.2.2))),(17,.l (.d (.bool w30)))],26⟩,⟨[(14,.l (.mfn 149 12)),(13,.l (.ptr 12 0)),(12,.l (.ptr 12 0)),(11,.agg [.d (.int .i64 w16.2.2),.d (.int .i64 w20.2.2)]),(10,.l (.d (.int .i64 w20.2.2))),(9,.l (.d (.int .i64 w16.2.2))),(0,.l (.ptr 12 0)),(2,.l (.ptr 2003 0)),(3,.l (.d (.int .i64 w16.2.2))),(4,.l (.d (.int .i64 w20.2.2)))],17⟩,⟨[(21,.l (.mfn 101 12)),(20,.l (.own 1006)),(17,.l (.d (.bool true))),(0,.l (.ptr 12 0)),(1,.l (.mfn 101 12)),(5,.l (.own 1006)),(6,.l (.d (.int .i64 v13.2.2.2))),(17,.l (.d (.bool w14)))],26⟩,⟨[(34,.l (.mfn 101 12)),(33,.l (.ptr 12 0)),(32,.l (.ptr 12 0)),(13,.l (.d (.bool false))),(0,.l (.d (.sl (a0.map (eI .u8))))),(2,.l (.ptr 3 0)),(5,.l (.ptr 12 0)),(12,.l (.d (.int .i64 v1.2.2))),(13,.l (.d (.bool (decide (v1.2.2<(3:Int))))))],74⟩],[(3,[.nil,.nil]),(12,[.d (.sl (a0.map (eI .u8))),.d (.int .i64 w40.1),.d (.int .i64 w46)]),(2003,[.d (.int .i64 (0:Int)),.d (.int .i64 (0:Int)),.nil]),(4003,[.d (.int .i64 (0:Int)),.d (.int .i64 (0:Int)),.d (.int .i64 (0:Int)),.nil])],[(1006,57,3,v13.2.2.1.map Part.enc),(3006,67,4,v29.2.2.1.map Task.enc)]⟩) h (fun k46 hk46 h=>?_) (fun w46 h=>?_)
                  · conv=>whnf
                    refine jnS (fun w47=>⟨[(0,.l (.ptr 12 0)),(19,.l (.d (.bool w47)))],47,[⟨[(7,.l (.ptr 12 0)),(0,.l (.ptr 12 0)),(1,.l (.mfn 163 12)),(5,.l .nil)],26⟩,⟨[(17,.l (.mfn 163 12)),(16,.l (.ptr 12 0)),(15,.l (.ptr 12 0)),(14,.l (.d (.int .i64 w40.2.2))),(13,.l (.d (.int .i64 w36.2.2))),(12,.l (.d (.int .i64 w32.2.2))),(0,.l (.ptr 12 0)),(2,.l (.ptr 4003 0)),(3,.l (.d (.int .i64 w32.2.2))),(4,.l (.d (.int .i64 w36.2.2))),(5,.l (.d (.int .i64 w40.2.2)))],20⟩,⟨[(21,.l (.mfn 149 12)),(20,.l (.own 3006)),(17,.l (.d (.bool true))),(0,.l (.ptr 12 0)),(1,.l (.mfn 149 12)),(5,.l (.own 3006)),(6,.l (.d (.int .i64 v29.2.2.2))),(17,.l (.d (.bool w30)))],26⟩,⟨[(14,.l (.mfn 149 12)),(13,.l (.ptr 12 0)),(12,.l (.ptr 12 0)),(11,.agg [.d (.int .i64 w16.2.2),.d (.int .i64 w20.2.2)]),(10,.l (.d (.int .i64 w20.2.2))),(9,.l (.d (.int .i64 w16.2.2))),(0,.l (.ptr 12 0)),(2,.l (.ptr 2003 0)),(3,.l (.d (.int .i64 w16.2.2))),(4,.l (.d (.int .i64 w20.2.2)))],17⟩,⟨[(21,.l (.mfn 101 12)),(20,.l (.own 1006)),(17,.l (.d (.bool true))),(0,.l (.ptr 12 0)),(1,.l (.mfn 101 12)),(5,.l (.own 1006)),(6,.l (.d (.int .i64 v13.2.2.2))),(17,.l (.d (.bool w14)))],26⟩,⟨[(34,.l (.mfn 101 12)),(33,.l (.ptr 12 0)),(32,.l (.ptr 12 0)),(13,.l (.d (.bool false))),(0,.l (.d (.sl (a0.map (eI .u8))))),(2,.l (.ptr 3 0)),(5,.l (.ptr 12 0)),(12,.l (.d (.int .i64 v1.2.2))),(13,.l (.d (.bool (decide (v1.2.2<(3:Int))))))],74⟩],[(3,[.nil,.nil]),(12,[.d (.sl (a0.map (eI .u8))),.d (.int .i64 w40.1),.d (.int .i64 w40.2.1)]),(2003,[.d (.int .i64 (0:Int)),.d (.int .i64 (0:Int)),.nil]),(4003,[.d (.int .i64 (0:Int)),.d (.int .i64 (0:Int)),.d (.int .i64 (0:Int)),.nil])],[(1006,57,3,v13.2.2.1.map Part.enc),(3006,67,4,v29.2.2.1.map Task.enc)]⟩) h (fun k47 hk47 h=>?_) (fun w47 h=>?_)
                    · conv=>whnf
                      refine⟨17,?_⟩
                      conv=>whnf
                      refine fkS h (fun h=>?_) (fun h=>?_)
                      · conv=>whnf
                        refine lenS a0 (eI .u8) rfl ?_
                        conv=>whnf
                        refine drS (by kernel_rfl) ?_
                        conv=>whnf
                        exact jeS hk47 h (Weak.refl _)
                      conv=>whnf
                      refine drS (by kernel_rfl) ?_
                      conv=>whnf
                      exact jeS hk47 h (Weak.refl _)
                    conv=>whnf
                    refine fkS h (fun h=>?_) (fun h=>?_)
                    · conv=>whnf
                      exact jeS hk46 h (Weak.refl _)
                    conv=>whnf
                    refine jeX hk46 h ?_
                    conv=>whnf
                    refine WkF.step (Weak.keepS _ [0]) ?_
                    conv=>whnf
                    exact WkF.refl _
                  conv=>whnf
                  refine fkS h (fun h=>?_) (fun h=>?_)
                  · conv=>whnf
                    exact jeS hk45 h (Weak.refl _)
                  conv=>whnf
                  refine⟨9,?_⟩
                  conv=>whnf
                  refine drS (by kernel_rfl) ?_
                  conv=>whnf
                  refine ixS (enc:=(eI .u8)) h rfl (fun _=>rfl) (fun x48 h=>?_)
                  conv=>whnf
                  exact jeS hk45 h (Weak.refl _)
                conv=>whnf
                refine lpS (fun v49=>⟨[(0,.l (.ptr 12 0)),(1,.l (.mfn 163 12)),(5,.l (.own 5006)),(6,.l (.d (.int .i64 v49.2.2.2)))],26,[⟨[(17,.l (.mfn 163 12)),(16,.l (.ptr 12 0)),(15,.l (.ptr 12 0)),(14,.l (.d (.int .i64 w40.2.2))),(13,.l (.d (.int .i64 w36.2.2))),(12,.l (.d (.int .i64 w32.2.2))),(0,.l (.ptr 12 0)),(2,.l (.ptr 4003 0)),(3,.l (.d (.int .i64 w32.2.2))),(4,.l (.d (.int .i64 w36.2.2))),(5,.l (.d (.int .i64 w40.2.2)))],20⟩,⟨[(21,.l (.mfn 149 12)),(20,.l (.own 3006)),(17,.l (.d (.bool true))),(0,.l (.ptr 12 0)),(1,.l (.mfn 149 12)),(5,.l (.own 3006)),(6,.l (.d (.int .i64 v29.2.2.2))),(17,.l (.d (.bool w30)))],26⟩,⟨[(14,.l (.mfn 149 12)),(13,.l (.ptr 12 0)),(12,.l (.ptr 12 0)),(11,.agg [.d (.int .i64 w16.2.2),.d (.int .i64 w20.2.2)]),(10,.l (.d (.int .i64 w20.2.2))),(9,.l (.d (.int .i64 w16.2.2))),(0,.l (.ptr 12 0)),(2,.l (.ptr 2003 0)),(3,.l (.d (.int .i64 w16.2.2))),(4,.l (.d (.int .i64 w20.2.2)))],17⟩,⟨[(21,.l (.mfn 101 12)),(20,.l (.own 1006)),(17,.l (.d (.bool true))),(0,.l (.ptr 12 0)),(1,.l (.mfn 101 12)),(5,.l (.own 1006)),(6,.l (.d (.int .i64 v13.2.2.2))),(17,.l (.d (.bool w14)))],26⟩,⟨[(34,.l (.mfn 101 12)),(33,.l (.ptr 12 0)),(32,.l (.ptr 12 0)),(13,.l (.d (.bool false))),(0,.l (.d (.sl (a0.map (eI .u8))))),(2,.l (.ptr 3 0)),(5,.l (.ptr 12 0)),(12,.l (.d (.int .i64 v1.2.2))),(13,.l (.d (.bool (decide (v1.2.2<(3:Int))))))],74⟩],[(3,[.nil,.nil]),(12,[.d (.sl (a0.map (eI .u8))),.d (.int .i64 v49.1),.d (.int .i64 v49.2.1)]),(2003,[.d (.int .i64 (0:Int)),.d (.int .i64 (0:Int)),.nil]),(4003,[.d (.int .i64 (0:Int)),.d (.int .i64 (0:Int)),.d (.int .i64 (0:Int)),.nil])],[(1006,57,3,v13.2.2.1.map Part.enc),(3006,67,4,v29.2.2.1.map Task.enc),(5006,200,3,v49.2.2.1.map Sec.enc)]⟩) h (Weak.trans (Weak.nilO _ 5 5006 200 3 rfl) (Weak.refl _)) (fun _ nx49 hn49 v49 h=>?_)
                conv=>whnf
                refine jnS (fun w50=>⟨[(0,.l (.ptr 12 0)),(1,.l (.mfn 163 12)),(5,.l (.own 5006)),(6,.l (.d (.int .i64 v49.2.2.2))),(17,.l (.d (.bool w50)))],26,[⟨[(17,.l (.mfn 163 12)),(16,.l (.ptr 12 0)),(15,.l (.ptr 12 0)),(14,.l (.d (.int .i64 w40.2.2))),(13,.l (.d (.int .i64 w36.2.2))),(12,.l (.d (.int .i64 w32.2.2))),(0,.l (.ptr 12 0)),(2,.l (.ptr 4003 0)),(3,.l (.d (.int .i64 w32.2.2))),(4,.l (.d (.int .i64 w36.2.2))),(5,.l (.d (.int .i64 w40.2.2)))],20⟩,⟨[(21,.l (.mfn 149 12)),(20,.l (.own 3006)),(17,.l (.d (.bool true))),(0,.l (.ptr 12 0)),(1,.l (.mfn 149 12)),(5,.l (.own 3006)),(6,.l (.d (.int .i64 v29.2.2.2))),(17,.l (.d (.bool w30)))],26⟩,⟨[(14,.l (.mfn 149 12)),(13,.l (.ptr 12 0)),(12,.l (.ptr 12 0)),(11,.agg [.d (.int .i64 w16.2.2),.d (.int .i64 w20.2.2)]),(10,.l (.d (.int .i64 w20.2.2))),(9,.l (.d (.int .i64 w16.2.2))),(0,.l (.ptr 12 0)),(2,.l (.ptr 2003 0)),(3,.l (.d (.int .i64 w16.2.2))),(4,.l (.d (.int .i64 w20.2.2)))],17⟩,⟨[(21,.l (.mfn 101 12)),(20,.l (.own 1006)),(17,.l (.d (.bool true))),(0,.l (.ptr 12 0)),(1,.l (.mfn 101 12)),(5,.l (.own 1006)),(6,.l (.d (.int .i64 v13.2.2.2))),(17,.l (.d (.bool w14)))],26⟩,⟨[(34,.l (.mfn 101 12)),(33,.l (.ptr 12 0)),(32,.l (.ptr 12 0)),(13,.l (.d (.bool false))),(0,.l (.d (.sl (a0.map (eI .u8))))),(2,.l (.ptr 3 0)),(5,.l (.ptr 12 0)),(12,.l (.d (.int .i64 v1.2.2))),(13,.l (.d (.bool (decide (v1.2.2<(3:Int))))))],74⟩],[(3,[.nil,.nil]),(12,[.d (.sl (a0.map (eI .u8))),.d (.int .i64 v49.1),.d (.int .i64 v49.2.1)]),(2003,[.d (.int .i64 (0:Int)),.d (.int .i64 (0:Int)),.nil]),(4003,[.d (.int .i64 (0:Int)),.d (.int .i64 (0:Int)),.d (.int .i64 (0:Int)),.nil])],[(1006,57,3,v13.2.2.1.map Part.enc),(3006,67,4,v29.2.2.1.map Task.enc),(5006,200,3,v49.2.2.1.map Sec.enc)]⟩) h (fun k50 hk50 h=>?_) (fun w50 h=>?_)
                · conv=>whnf
                  refine fkS h (fun h=>?_) (fun h=>?_)
                  · conv=>whnf
                    exact jeS hk50 h (Weak.refl _)
                  conv=>whnf
                  exact jeS hk50 h (Weak.refl _)
                conv=>whnf
                refine fkS h (fun h=>?_) (fun h=>?_)
                · conv=>whnf
                  refine inS (fn:=Tryz.f163) tab ⟨[(0,[0,2]),(1,[2,3,4,5]),(2,[2])],[],[],[]⟩ 16 [.cell 2 200] rfl rfl rfl rfl rfl rfl ?_
                  conv=>whnf
                  refine inJ (fun w51=>⟨[(7,.l (.d (.int .i64 w51.2.2))),(6,.l (.ptr 12 0)),(0,.l (.ptr 12 0)),(2,.l (.ptr 6003 0))],16,[⟨[(21,.l (.mfn 163 12)),(20,.l (.own 5006)),(17,.l (.d (.bool true))),(0,.l (.ptr 12 0)),(1,.l (.mfn 163 12)),(5,.l (.own 5006)),(6,.l (.d (.int .i64 v49.2.2.2))),(17,.l (.d (.bool w50)))],26⟩,⟨[(17,.l (.mfn 163 12)),(16,.l (.ptr 12 0)),(15,.l (.ptr 12 0)),(14,.l (.d (.int .i64 w40.2.2))),(13,.l (.d (.int .i64 w36.2.2))),(12,.l (.d (.int .i64 w32.2.2))),(0,.l (.ptr 12 0)),(2,.l (.ptr 4003 0)),(3,.l (.d (.int .i64 w32.2.2))),(4,.l (.d (.int .i64 w36.2.2))),(5,.l (.d (.int .i64 w40.2.2)))],20⟩,⟨[(21,.l (.mfn 149 12)),(20,.l (.own 3006)),(17,.l (.d (.bool true))),(0,.l (.ptr 12 0)),(1,.l (.mfn 149 12)),(5,.l (.own 3006)),(6,.l (.d (.int .i64 v29.2.2.2))),(17,.l (.d (.bool w30)))],26⟩,⟨[(14,.l (.mfn 149 12)),(13,.l (.ptr 12 0)),(12,.l (.ptr 12 0)),(11,.agg [.d (.int .i64 w16.2.2),.d (.int .i64 w20.2.2)]),(10,.l (.d (.int .i64 w20.2.2))),(9,.l (.d (.int .i64 w16.2.2))),(0,.l (.ptr 12 0)),(2,.l (.ptr 2003 0)),(3,.l (.d (.int .i64 w16.2.2))),(4,.l (.d (.int .i64 w20.2.2)))],17⟩,⟨[(21,.l (.mfn 101 12)),(20,.l (.own 1006)),(17,.l (.d (.bool true))),(0,.l (.ptr 12 0)),(1,.l (.mfn 101 12)),(5,.l (.own 1006)),(6,.l (.d (.int .i64 v13.2.2.2))),(17,.l (.d (.bool w14)))],26⟩,⟨[(34,.l (.mfn 101 12)),(33,.l (.ptr 12 0)),(32,.l (.ptr 12 0)),(13,.l (.d (.bool false))),(0,.l (.d (.sl (a0.map (eI .u8))))),(2,.l (.ptr 3 0)),(5,.l (.ptr 12 0)),(12,.l (.d (.int .i64 v1.2.2))),(13,.l (.d (.bool (decide (v1.2.2<(3:Int))))))],74⟩],[(3,[.nil,.nil]),(12,[.d (.sl (a0.map (eI .u8))),.d (.int .i64 w51.1),.d (.int .i64 w51.2.1)]),(2003,[.d (.int .i64 (0:Int)),.d (.int .i64 (0:Int)),.nil]),(4003,[.d (.int .i64 (0:Int)),.d (.int .i64 (0:Int)),.d (.int .i64 (0:Int)),.nil]),(6003,[.d (.int .i64 (0:Int)),.d (.int .i64 (0:Int)),.d (.int .i64 (0:Int))])],[(1006,57,3,v13.2.2.1.map Part.enc),(3006,67,4,v29.2.2.1.map Task.enc),(5006,200,3,v49.2.2.1.map Sec.enc)]⟩) h (fun k51 hk51 h=>?_) (fun w51 h=>?_)
                  · conv=>whnf
                    refine inS (fn:=Tryz.f99) tab ⟨[(0,[0]),(1,[0,19]),(2,[0]),(3,[0,27]),(4,[2]),(5,[0]),(6,[2])],[],[100019,3],[]⟩ 47 [.tmp 2] rfl rfl rfl rfl rfl rfl ?_
                    conv=>whnf
                    refine jnS (fun w52=>⟨[(0,.l (.ptr 12 0))],47,[⟨[(6,.l (.ptr 12 0)),(0,.l (.ptr 12 0)),(2,.l (.ptr 6003 0))],16⟩,⟨[(21,.l (.mfn 163 12)),(20,.l (.own 5006)),(17,.l (.d (.bool true))),(0,.l (.ptr 12 0)),(1,.l (.mfn 163 12)),(5,.l (.own 5006)),(6,.l (.d (.int .i64 v49.2.2.2))),(17,.l (.d (.bool w50)))],26⟩,⟨[(17,.l (.mfn 163 12)),(16,.l (.ptr 12 0)),(15,.l (.ptr 12 0)),(14,.l (.d (.int .i64 w40.2.2))),(13,.l (.d (.int .i64 w36.2.2))),(12,.l (.d (.int .i64 w32.2.2))),(0,.l (.ptr 12 0)),(2,.l (.ptr 4003 0)),(3,.l (.d (.int .i64 w32.2.2))),(4,.l (.d (.int .i64 w36.2.2))),(5,.l (.d (.int .i64 w40.2.2)))],20⟩,⟨[(21,.l (.mfn 149 12)),(20,.l (.own 3006)),(17,.l (.d (.bool true))),(0,.l (.ptr 12 0)),(1,.l (.mfn 149 12)),(5,.l (.own 3006)),(6,.l (.d (.int .i64 v29.2.2.2))),(17,.l (.d (.bool w30)))],26⟩,⟨[(14,.l (.mfn 149 12)),(13,.l (.ptr 12 0)),(12,.l (.ptr 12 0)),(11,.agg [.d (.int .i64 w16.2.2),.d (.int .i64 w20.2.2)]),(10,.l (.d (.int .i64 w20.2.2))),(9,.l (.d (.int .i64 w16.2.2))),(0,.l (.ptr 12 0)),(2,.l (.ptr 2003 0)),(3,.l (.d (.int .i64 w16.2.2))),(4,.l (.d (.int .i64 w20.2.2)))],17⟩,⟨[(21,.l (.mfn 101 12)),(20,.l (.own 1006)),(17,.l (.d (.bool true))),(0,.l (.ptr 12 0)),(1,.l (.mfn 101 12)),(5,.l (.own 1006)),(6,.l (.d (.int .i64 v13.2.2.2))),(17,.l (.d (.bool w14)))],26⟩,⟨[(34,.l (.mfn 101 12)),(33,.l (.ptr 12 0)),(32,.l (.ptr 12 0)),(13,.l (.d (.bool false))),(0,.l (.d (.sl (a0.map (eI .u8))))),(2,.l (.ptr 3 0)),(5,.l (.ptr 12 0)),(12,.l (.d (.int .i64 v1.2.2))),(13,.l (.d (.bool (decide (v1.2.2<(3:Int))))))],74⟩],[(3,[.nil,.nil]),(12,[.d (.sl (a0.map (eI .u8))),.d (.int .i64 v49.1),.d (.int .i64 w52)]),(2003,[.d (.int .i64 (0:Int)),.d (.int .i64 (0:Int)),.nil]),(4003,[.d (.int .i64 (0:Int)),.d (.int .i64 (0:Int)),.d (.int .i64 (0:Int)),.nil]),(6003,[.d (.int .i64 (0:Int)),.d (.int .i64 (0:Int)),.d (.int .i64 (0:Int))])],[(1006,57,3,v13.2.2.1.map Part.enc),(3006,67,4,v29.2.2.1.map Task.enc),(5006,200,3,v49.2.2.1.map Sec.enc)]⟩) h (fun k52 hk52 h=>?_) (fun w52 h=>?_)
                    · conv=>whnf
                      refine jnS (fun w53=>⟨[(0,.l (.ptr 12 0)),(19,.l (.d (.bool w53)))],47,[⟨[(6,.l (.ptr 12 0)),(0,.l (.ptr 12 0)),(2,.l (.ptr 6003 0))],16⟩,⟨[(21,.l (.mfn 163 12)),(20,.l (.own 5006)),(17,.l (.d (.bool true))),(0,.l (.ptr 12 0)),(1,.l (.mfn 163 12)),(5,.l (.own 5006)),(6,.l (.d (.int .i64 v49.2.2.2))),(17,.l (.d (.bool w50)))],26⟩,⟨[(17,.l (.mfn 163 12)),(16,.l (.ptr 12 0)),(15,.l (.ptr 12 0)),(14,.l (.d (.int .i64 w40.2.2))),(13,.l (.d (.int .i64 w36.2.2))),(12,.l (.d (.int .i64 w32.2.2))),(0,.l (.ptr 12 0)),(2,.l (.ptr 4003 0)),(3,.l (.d (.int .i64 w32.2.2))),(4,.l (.d (.int .i64 w36.2.2))),(5,.l (.d (.int .i64 w40.2.2)))],20⟩,⟨[(21,.l (.mfn 149 12)),(20,.l (.own 3006)),(17,.l (.d (.bool true))),(0,.l (.ptr 12 0)),(1,.l (.mfn 149 12)),(5,.l (.own 3006)),(6,.l (.d (.int .i64 v29.2.2.2))),(17,.l (.d (.bool w30)))],26⟩,⟨[(14,.l (.mfn 149 12)),(13,.l (.ptr 12 0)),(12,.l (.ptr 12 0)),(11,.agg [.d (.int .i64 w16.2.2),.d (.int .i64 w20.2.2)]),(10,.l (.d (.int .i64 w20.2.2))),(9,.l (.d (.int .i64 w16.2.2))),(0,.l (.ptr 12 0)),(2,.l (.ptr 2003 0)),(3,.l (.d (.int .i64 w16.2.2))),(4,.l (.d (.int .i64 w20.2.2)))],17⟩,⟨[(21,.l (.mfn 101 12)),(20,.l (.own 1006)),(17,.l (.d (.bool true))),(0,.l (.ptr 12 0)),(1,.l (.mfn 101 12)),(5,.l (.own 1006)),(6,.l (.d (.int .i64 v13.2.2.2))),(17,.l (.d (.bool w14)))],26⟩,⟨[(34,.l (.mfn 101 12)),(33,.l (.ptr 12 0)),(32,.l (.ptr 12 0)),(13,.l (.d (.bool false))),(0,.l (.d (.sl (a0.map (eI .u8))))),(2,.l (.ptr 3 0)),(5,.l (.ptr 12 0)),(12,.l (.d (.int .i64 v1.2.2))),(13,.l (.d (.bool (decide (v1.2.2<(3:Int))))))],74⟩],[(3,[.nil,.nil]),(12,[.d (.sl (a0.map (eI .u8))),.d (.int .i64 v49.1),.d (.int .i64 v49.2.1)]),(2003,[.d (.int .i64 (0:Int)),.d (.int .i64 (0:Int)),.nil]),(4003,[.d (.int .i64 (0:Int)),.d (.int .i64 (0:Int)),.d (.int .i64 (0:Int)),.nil]),(6003,[.d (.int .i64 (0:Int)),.d (.int .i64 (0:Int)),.d (.int .i64 (0:Int))])],[(1006,57,3,v13.2.2.1.map Part.enc),(3006,67,4,v29.2.2.1.map Task.enc),(5006,200,3,v49.2.2.1.map Sec.enc)]⟩) h (fun k53 hk53 h=>?_) (fun w53 h=>?_)
                      · conv=>whnf
                        refine⟨17,?_⟩
                        conv=>whnf
                        refine fkS h (fun h=>?_) (fun h=>?_)
                        · conv=>whnf
                          refine lenS a0 (eI .u8) rfl ?_
                          conv=>whnf
                          refine drS (by kernel_rfl) ?_
                          conv=>whnf
                          exact jeS hk53 h (Weak.refl _)
                        conv=>whnf
                        refine drS (by kernel_rfl) ?_
                        conv=>whnf
                        exact jeS hk53 h (Weak.refl _)
                      conv=>whnf
                      refine fkS h (fun h=>?_) (fun h=>?_)
                      · conv=>whnf
                        exact jeS hk52 h (Weak.refl _)
                      conv=>whnf
                      refine jeX hk52 h ?_
                      conv=>whnf
                      refine WkF.step (Weak.keepS _ [0]) ?_
                      conv=>whnf
                      exact WkF.refl _
                    conv=>whnf
                    refine fkS h (fun h=>?_) (fun h=>?_)
                    · conv=>whnf
                      exact jeS hk51 h (Weak.refl _)
                    conv=>whnf
                    refine⟨9,?_⟩
                    conv=>whnf
                    refine drS (by kernel_rfl) ?_
                    conv=>whnf
                    refine ixS (enc:=(eI .u8)) h rfl (fun _=>rfl) (fun x54 h=>?_)
                    conv=>whnf
                    exact jeS hk51 h (Weak.refl _)
                  conv=>whnf
                  refine inJ (fun w55=>⟨[(9,.l (.d (.int .i64 w55.2.2))),(8,.l (.ptr 12 0)),(7,.l (.d (.int .i64 w51.2.2))),(6,.l (.ptr 12 0)),(0,.l (.ptr 12 0)),(2,.l (.ptr 6003 0))],16,[⟨[(21,.l (.mfn 163 12)),(20,.l (.own 5006)),(17,.l (.d (.bool true))),(0,.l (.ptr 12 0)),(1,.l (.mfn 163 12)),(5,.l (.own 5006)),(6,.l (.d (.int .i64 v49.2.2.2))),(17,.l (.d (.bool w50)))],26⟩,⟨[(17,.l (.mfn 163 12)),(16,.l (.ptr 12 0)),(15,.l (.ptr 12 0)),(14,.l (.d (.int .i64 w40.2.2))),(13,.l (.d (.int .i64 w36.2.2))),(12,.l (.d (.int .i64 w32.2.2))),(0,.l (.ptr 12 0)),(2,.l (.ptr 4003 0)),(3,.l (.d (.int .i64 w32.2.2))),(4,.l (.d (.int .i64 w36.2.2))),(5,.l (.d (.int .i64 w40.2.2)))],20⟩,⟨[(21,.l (.mfn 149 12)),(20,.l (.own 3006)),(17,.l (.d (.bool true))),(0,.l (.ptr 12 0)),(1,.l (.mfn 149 12)),(5,.l (.own 3006)),(6,.l (.d (.int .i64 v29.2.2.2))),(17,.l (.d (.bool w30)))],26⟩,⟨[(14,.l (.mfn 149 12)),(13,.l (.ptr 12 0)),(12,.l (.ptr 12 0)),(11,.agg [.d (.int .i64 w16.2.2),.d (.int .i64 w20.2.2)]),(10,.l (.d (.int .i64 w20.2.2))),(9,.l (.d (.int .i64 w16.2.2))),(0,.l (.ptr 12 0)),(2,.l (.ptr 2003 0)),(3,.l (.d (.int .i64 w16.2.2))),(4,.l (.d (.int .i64 w20.2.2)))],17⟩,⟨[(21,.l (.mfn 101 12)),(20,.l (.own 1006)),(17,.l (.d (.bool true))),(0,.l (.ptr 12 0)),(1,.l (.mfn 101 12)),(5,.l (.own 1006)),(6,.l (.d (.int .i64 v13.2.2.2))),(17,.l (.d (.bool w14)))],26⟩,⟨[(34,.l (.mfn 101 12)),(33,.l (.ptr 12 0)),(32,.l (.ptr 12 0)),(13,.l (.d (.bool false))),(0,.l (.d (.sl (a0.map (eI .u8))))),(2,.l (.ptr 3 0)),(5,.l (.ptr 12 0)),(12,.l (.d (.int .i64 v1.2.2))),(13,.l (.d (.bool (decide (v1.2.2<(3:Int))))))],74⟩],[(3,[.nil,.nil]),(12,[.d (.sl (a0.map (eI .u8))),.d (.int .i64 w55.1),.d (.int .i64 w55.2.1)]),(2003,[.d (.int .i64 (0:Int)),.d (.int .i64 (0:Int)),.nil]),(4003,[.d (.int .i64 (0:Int)),.d (.int .i64 (0:Int)),.d (.int .i64 (0:Int)),.nil]),(6003,[.d (.int .i64 (0:Int)),.d (.int .i64 (0:Int)),.d (.int .i64 (0:Int))])],[(1006,57,3,v13.2.2.1.map Part.enc),(3006,67,4,v29.2.2.1.map Task.enc),(5006,200,3,v49.2.2.1.map Sec.enc)]⟩) h (fun k55 hk55 h=>?_) (fun w55 h=>?_)
                  · conv=>whnf
                    refine inS (fn:=Tryz.f99) tab ⟨[(0,[0]),(1,[0,19]),(2,[0]),(3,[0,27]),(4,[2]),(5,[0]),(6,[2])],[],[100019,3],[]⟩ 47 [.tmp 2] rfl rfl rfl rfl rfl rfl ?_
                    conv=>whnf
                    refine jnS (fun w56=>⟨[(0,.l (.ptr 12 0))],47,[⟨[(8,.l (.ptr 12 0)),(7,.l (.d (.int .i64 w51.2.2))),(6,.l (.ptr 12 0)),(0,.l (.ptr 12 0)),(2,.l (.ptr 6003 0))],16⟩,⟨[(21,.l (.mfn 163 12)),(20,.l (.own 5006)),(17,.l (.d (.bool true))),(0,.l (.ptr 12 0)),(1,.l (.mfn 163 12)),(5,.l (.own 5006)),(6,.l (.d (.int .i64 v49.2.2.2))),(17,.l (.d (.bool w50)))],26⟩,⟨[(17,.l (.mfn 163 12)),(16,.l (.ptr 12 0)),(15,.l (.ptr 12 0)),(14,.l (.d (.int .i64 w40.2.2))),(13,.l (.d (.int .i64 w36.2.2))),(12,.l (.d (.int .i64 w32.2.2))),(0,.l (.ptr 12 0)),(2,.l (.ptr 4003 0)),(3,.l (.d (.int .i64 w32.2.2))),(4,.l (.d (.int .i64 w36.2.2))),(5,.l (.d (.int .i64 w40.2.2)))],20⟩,⟨[(21,.l (.mfn 149 12)),(20,.l (.own 3006)),(17,.l (.d (.bool true))),(0,.l (.ptr 12 0)),(1,.l (.mfn 149 12)),(5,.l (.own 3006)),(6,.l (.d (.int .i64 v29.2.2.2))),(17,.l (.d (.bool w30)))],26⟩,⟨[(14,.l (.mfn 149 12)),(13,.l (.ptr 12 0)),(12,.l (.ptr 12 0)),(11,.agg [.d (.int .i64 w16.2.2),.d (.int .i64 w20.2.2)]),(10,.l (.d (.int .i64 w20.2.2))),(9,.l (.d (.int .i64 w16.2.2))),(0,.l (.ptr 12 0)),(2,.l (.ptr 2003 0)),(3,.l (.d (.int .i64 w16.2.2))),(4,.l (.d (.int .i64 w20.2.2)))],17⟩,⟨[(21,.l (.mfn 101 12)),(20,.l (.own 1006)),(17,.l (.d (.bool true))),(0,.l (.ptr 12 0)),(1,.l (.mfn 101 12)),(5,.l (.own 1006)),(6,.l (.d (.int .i64 v13.2.2.2))),(17,.l (.d (.bool w14)))],26⟩,⟨[(34,.l (.mfn 101 12)),(33,.l (.ptr 12 0)),(32,.l (.ptr 12 0)),(13,.l (.d (.bool false))),(0,.l (.d (.sl (a0.map (eI .u8))))),(2,.l (.ptr 3 0)),(5,.l (.ptr 12 0)),(12,.l (.d (.int .i64 v1.2.2))),(13,.l (.d (.bool (decide (v1.2.2<(3:Int))))))],74⟩],[(3,[.nil,.nil]),(12,[.d (.sl (a0.map (eI .u8))),.d (.int .i64 w51.1),.d (.int .i64 w56)]),(2003,[.d (.int .i64 (0:Int)),.d (.int .i64 (0:Int)),.nil]),(4003,[.d (.int .i64 (0:Int)),.d (.int .i64 (0:Int)),.d (.int .i64 (0:Int)),.nil]),(6003,[.d (.int .i64 (0:Int)),.d (.int .i64 (0:Int)),.d (.int .i64 (0:Int))])],[(1006,57,3,v13.2.2.1.map Part.enc),(3006,67,4,v29.2.2.1.map Task.enc),(5006,200,3,v49.2.2.1.map Sec.enc)]⟩) h (fun k56 hk56 h=>?_) (fun w56 h=>?_)
                    · conv=>whnf
                      refine jnS (fun w57=>⟨[(0,.l (.ptr 12 0)),(19,.l (.d (.bool w57)))],47,[⟨[(8,.l (.ptr 12 0)),(7,.l (.d (.int .i64 w51.2.2))),(6,.l (.ptr 12 0)),(0,.l (.ptr 12 0)),(2,.l (.ptr 6003 0))],16⟩,⟨[(21,.l (.mfn 163 12)),(20,.l (.own 5006)),(17,.l (.d (.bool true))),(0,.l (.ptr 12 0)),(1,.l (.mfn 163 12)),(5,.l (.own 5006)),(6,.l (.d (.int .i64 v49.2.2.2))),(17,.l (.d (.bool w50)))],26⟩,⟨[(17,.l (.mfn 163 12)),(16,.l (.ptr 12 0)),(15,.l (.ptr 12 0)),(14,.l (.d (.int .i64 w40.2.2))),(13,.l (.d (.int .i64 w36.2.2))),(12,.l (.d (.int .i64 w32.2.2))),(0,.l (.ptr 12 0)),(2,.l (.ptr 4003 0)),(3,.l (.d (.int .i64 w32.2.2))),(4,.l (.d (.int .i64 w36.2.2))),(5,.l (.d (.int .i64 w40.2.2)))],20⟩,⟨[(21,.l (.mfn 149 12)),(20,.l (.own 3006)),(17,.l (.d (.bool true))),(0,.l (.ptr 12 0)),(1,.l (.mfn 149 12)),(5,.l (.own 3006)),(6,.l (.d (.int .i64 v29.2.2.2))),(17,.l (.d (.bool w30)))],26⟩,⟨[(14,.l (.mfn 149 12)),(13,.l (.ptr 12 0)),(12,.l (.ptr 12 0)),(11,.agg [.d (.int .i64 w16.2.2),.d (.int .i64 w20.2.2)]),(10,.l (.d (.int .i64 w20.2.2))),(9,.l (.d (.int .i64 w16.2.2))),(0,.l (.ptr 12 0)),(2,.l (.ptr 2003 0)),(3,.l (.d (.int .i64 w16.2.2))),(4,.l (.d (.int .i64 w20.2.2)))],17⟩,⟨[(21,.l (.mfn 101 12)),(20,.l (.own 1006)),(17,.l (.d (.bool true))),(0,.l (.ptr 12 0)),(1,.l (.mfn 101 12)),(5,.l (.own 1006)),(6,.l (.d (.int .i64 v13.2.2.2))),(17,.l (.d (.bool w14)))],26⟩,⟨[(34,.l (.mfn 101 12)),(33,.l (.ptr 12 0)),(32,.l (.ptr 12 0)),(13,.l (.d (.bool false))),(0,.l (.d (.sl (a0.map (eI .u8))))),(2,.l (.ptr 3 0)),(5,.l (.ptr 12 0)),(12,.l (.d (.int .i64 v1.2.2))),(13,.l (.d (.bool (decide (v1.2.2<(3:Int))))))],74⟩],[(3,[.nil,.nil]),(12,[.d (.sl (a0.map (eI .u8))),.d (.int .i64 w51.1),.d (.int .i64 w51.2.1)]),(2003,[.d (.int .i64 (0:Int)),.d (.int .i64 (0:Int)),.nil]),(4003,[.d (.int .i64 (0:Int)),.d (.int .i64 (0:Int)),.d (.int .i64 (0:Int)),.nil]),(6003,[.d (.int .i64 (0:Int)),.d (.int .i64 (0:Int)),.d (.int .i64 (0:Int))])],[(1006,57,3,v13.2.2.1.map Part.enc),(3006,67,4,v29.2.2.1.map Task.enc),(5006,200,3,v49.2.2.1.map Sec.enc)]⟩) h (fun k57 hk57 h=>?_) (fun w57 h=>?_)
                      · conv=>whnf
                        refine⟨17,?_⟩
                        conv=>whnf
                        refine fkS h (fun h=>?_) (fun h=>?_)
                        · conv=>whnf
                          refine lenS a0 (eI .u8) rfl ?_
                          conv=>whnf
                          refine drS (by kernel_rfl) ?_
                          conv=>whnf
                          exact jeS hk57 h (Weak.refl _)
                        conv=>whnf
                        refine drS (by kernel_rfl) ?_
                        conv=>whnf
                        exact jeS hk57 h (Weak.refl _)
                      conv=>whnf
                      refine fkS h (fun h=>?_) (fun h=>?_)
                      · conv=>whnf
                        exact jeS hk56 h (Weak.refl _)
                      conv=>whnf
                      refine jeX hk56 h ?_
                      conv=>whnf
                      refine WkF.step (Weak.keepS _ [0]) ?_
                      conv=>whnf
                      exact WkF.refl _
                    conv=>whnf
                    refine fkS h (fun h=>?_) (fun h=>?_)
                    · conv=>whnf
                      exact jeS hk55 h (Weak.refl _)
                    conv=>whnf
                    refine⟨9,?_⟩
                    conv=>whnf
                    refine drS (by kernel_rfl) ?_
                    conv=>whnf
                    refine ixS (enc:=(eI .u8)) h rfl (fun _=>rfl) (fun x58 h=>?_)
                    conv=>whnf
                    exact jeS hk55 h (Weak.refl _)
                  conv=>whnf
                  refine inJ (fun w59=>⟨[(11,.l (.d (.int .i64 w59.2.2))),(10,.l (.ptr 12 0)),(9,.l (.d (.int .i64 w55.2.2))),(8,.l (.ptr 12 0)),(7,.l (.d (.int .i64 w51.2.2))),(6,.l (.ptr 12 0)),(0,.l (.ptr 12 0)),(2,.l (.ptr 6003 0))],16,[⟨[(21,.l (.mfn 163 12)),(20,.l (.own 5006)),(17,.l (.d (.bool true))),(0,.l (.ptr 12 0)),(1,.l (.mfn 163 12)),(5,.l (.own 5006)),(6,.l (.d (.int .i64 v49.2.2.2))),(17,.l (.d (.bool w50)))],26⟩,⟨[(17,.l (.mfn 163 12)),(16,.l (.ptr 12 0)),(15,.l (.ptr 12 0)),(14,.l (.d (.int .i64 w40.2.2))),(13,.l (.d (.int .i64 w36.2.2))),(12,.l (.d (.int .i64 w32.2.2))),(0,.l (.ptr 12 0)),(2,.l (.ptr 4003 0)),(3,.l (.d (.int .i64 w32.2.2))),(4,.l (.d (.int .i64 w36.2.2))),(5,.l (.d (.int .i64 w40.2.2)))],20⟩,⟨[(21,.l (.mfn 149 12)),(20,.l (.own 3006)),(17,.l (.d (.bool true))),(0,.l (.ptr 12 0)),(1,.l (.mfn 149 12)),(5,.l (.own 3006)),(6,.l (.d (.int .i64 v29.2.2.2))),(17,.l (.d (.bool w30)))],26⟩,⟨[(14,.l (.mfn 149 12)),(13,.l (.ptr 12 0)),(12,.l (.ptr 12 0)),(11,.agg [.d (.int .i64 w16.2.2),.d (.int .i64 w20.2.2)]),(10,.l (.d (.int .i64 w20.2.2))),(9,.l (.d (.int .i64 w16.2.2))),(0,.l (.ptr 12 0)),(2,.l (.ptr 2003 0)),(3,.l (.d (.int .i64 w16.2.2))),(4,.l (.d (.int .i64 w20.2.2)))],17⟩,⟨[(21,.l (.mfn 101 12)),(20,.l (.own 1006)),(17,.l (.d (.bool true))),(0,.l (.ptr 12 0)),(1,.l (.mfn 101 12)),(5,.l (.own 1006)),(6,.l (.d (.int .i64 v13.2.2.2))),(17,.l (.d (.bool w14)))],26⟩,⟨[(34,.l (.mfn 101 12)),(33,.l (.ptr 12 0)),(32,.l (.ptr 12 0)),(13,.l (.d (.bool false))),(0,.l (.d (.sl (a0.map (eI .u8))))),(2,.l (.ptr 3 0)),(5,.l (.ptr 12 0)),(12,.l (.d (.int .i64 v1.2.2))),(13,.l (.d (.bool (decide (v1.2.2<(3:Int))))))],74⟩],[(3,[.nil,.nil]),(12,[.d (.sl (a0.map (eI .u8))),.d (.int .i64 w59.1),.d (.int .i64 w59.2.1)]),(2003,[.d (.int .i64 (0:Int)),.d (.int .i64 (0:Int)),.nil]),(4003,[.d (.int .i64 (0:Int)),.d (.int .i64 (0:Int)),.d (.int .i64 (0:Int)),.nil]),(6003,[.d (.int .i64 (0:Int)),.d (.int .i64 (0:Int)),.d (.int .i64 (0:Int))])],[(1006,57,3,v13.2.2.1.map Part.enc),(3006,67,4,v29.2.2.1.map Task.enc),(5006,200,3,v49.2.2.1.map Sec.enc)]⟩) h (fun k59 hk59 h=>?_) (fun w59 h=>?_)
                  · conv=>whnf
                    refine inS (fn:=Tryz.f99) tab ⟨[(0,[0]),(1,[0,19]),(2,[0]),(3,[0,27]),(4,[2]),(5,[0]),(6,[2])],[],[100019,3],[]⟩ 47 [.tmp 2] rfl rfl rfl rfl rfl rfl ?_
                    conv=>whnf
                    refine jnS (fun w60=>⟨[(0,.l (.ptr 12 0))],47,[⟨[(10,.l (.ptr 12 0)),(9,.l (.d (.int .i64 w55.2.2))),(8,.l (.ptr 12 0)),(7,.l (.d (.int .i64 w51.2.2))),(6,.l (.ptr 12 0)),(0,.l (.ptr 12 0)),(2,.l (.ptr 6003 0))],16⟩,⟨[(21,.l (.mfn 163 12)),(20,.l (.own 5006)),(17,.l (.d (.bool true))),(0,.l (.ptr 12 0)),(1,.l (.mfn 163 12)),(5,.l (.own 5006)),(6,.l (.d (.int .i64 v49.2.2.2))),(17,.l (.d (.bool w50)))],26⟩,⟨[(17,.l (.mfn 163 12)),(16,.l (.ptr 12 0)),(15,.l (.ptr 12 0)),(14,.l (.d (.int .i64 w40.2.2))),(13,.l (.d (.int .i64 w36.2.2))),(12,.l (.d (.int .i64 w32.2.2))),(0,.l (.ptr 12 0)),(2,.l (.ptr 4003 0)),(3,.l (.d (.int .i64 w32.2.2))),(4,.l (.d (.int .i64 w36.2.2))),(5,.l (.d (.int .i64 w40.2.2)))],20⟩,⟨[(21,.l (.mfn 149 12)),(20,.l (.own 3006)),(17,.l (.d (.bool true))),(0,.l (.ptr 12 0)),(1,.l (.mfn 149 12)),(5,.l (.own 3006)),(6,.l (.d (.int .i64 v29.2.2.2))),(17,.l (.d (.bool w30)))],26⟩,⟨[(14,.l (.mfn 149 12)),(13,.l (.ptr 12 0)),(12,.l (.ptr 12 0)),(11,.agg [.d (.int .i64 w16.2.2),.d (.int .i64 w20.2.2)]),(10,.l (.d (.int .i64 w20.2.2))),(9,.l (.d (.int .i64 w16.2.2))),(0,.l (.ptr 12 0)),(2,.l (.ptr 2003 0)),(3,.l (.d (.int .i64 w16.2.2))),(4,.l (.d (.int .i64 w20.2.2)))],17⟩,⟨[(21,.l (.mfn 101 12)),(20,.l (.own 1006)),(17,.l (.d (.bool true))),(0,.l (.ptr 12 0)),(1,.l (.mfn 101 12)),(5,.l (.own 1006)),(6,.l (.d (.int .i64 v13.2.2.2))),(17,.l (.d (.bool w14)))],26⟩,⟨[(34,.l (.mfn 101 12)),(33,.l (.ptr 12 0)),(32,.l (.ptr 12 0)),(13,.l (.d (.bool false))),(0,.l (.d (.sl (a0.map (eI .u8))))),(2,.l (.ptr 3 0)),(5,.l (.ptr 12 0)),(12,.l (.d (.int .i64 v1.2.2))),(13,.l (.d (.bool (decide (v1.2.2<(3:Int))))))],74⟩],[(3,[.nil,.nil]),(12,[.d (.sl (a0.map (eI .u8))),.d (.int .i64 w55.1),.d (.int .i64 w60)]),(2003,[.d (.int .i64 (0:Int)),.d (.int .i64 (0:Int)),.nil]),(4003,[.d (.int .i64 (0:Int)),.d (.int .i64 (0:Int)),.d (.int .i64 (0:Int)),.nil]),(6003,[.d (.int .i64 (0:Int)),.d (.int .i64 (0:Int)),.d (.int .i64 (0:Int))])],[(1006,57,3,v13.2.2.1.map Part.enc),(3006,67,4,v29.2.2.1.map Task.enc),(5006,200,3,v49.2.2.1.map Sec.enc)]⟩) h (fun k60 hk60 h=>?_) (fun w60 h=>?_)
                    · conv=>whnf
                      refine jnS (fun w61=>⟨[(0,.l (.ptr 12 0)),(19,.l (.d (.bool w61)))],47,[⟨[(10,.l (.ptr 12 0)),(9,.l (.d (.int .i64 w55.2.2))),(8,.l (.ptr 12 0)),(7,.l (.d (.int .i64 w51.2.2))),(6,.l (.ptr 12 0)),(0,.l (.ptr 12 0)),(2,.l (.ptr 6003 0))],16⟩,⟨[(21,.l (.mfn 163 12)),(20,.l (.own 5006)),(17,.l (.d (.bool true))),(0,.l (.ptr 12 0)),(1,.l (.mfn 163 12)),(5,.l (.own 5006)),(6,.l (.d (.int .i64 v49.2.2.2))),(17,.l (.d (.bool w50)))],26⟩,⟨[(17,.l (.mfn 163 12)),(16,.l (.ptr 12 0)),(15,.l (.ptr 12 0)),(14,.l (.d (.int .i64 w40.2.2))),(13,.l (.d (.int .i64 w36.2.2))),(12,.l (.d (.int .i64 w32.2.2))),(0,.l (.ptr 12 0)),(2,.l (.ptr 4003 0)),(3,.l (.d (.int .i64 w32.2.2))),(4,.l (.d (.int .i64 w36.2.2))),(5,.l (.d (.int .i64 w40.2.2)))],20⟩,⟨[(21,.l (.mfn 149 12)),(20,.l (.own 3006)),(17,.l (.d (.bool true))),(0,.l (.ptr 12 0)),(1,.l (.mfn 149 12)),(5,.l (.own 3006)),(6,.l (.d (.int .i64 v29.2.2.2))),(17,.l (.d (.bool w30)))],26⟩,⟨[(14,.l (.mfn 149 12)),(13,.l (.ptr 12 0)),(12,.l (.ptr 12 0)),(11,.agg [.d (.int .i64 w16.2.2),.d (.int .i64 w20.2.2)]),(10,.l (.d (.int .i64 w20.2.2))),(9,.l (.d (.int .i64 w16.2.2))),(0,.l (.ptr 12 0)),(2,.l (.ptr 2003 0)),(3,.l (.d (.int .i64 w16.2.2))),(4,.l (.d (.int .i64 w20.2.2)))],17⟩,⟨[(21,.l (.mfn 101 12)),(20,.l (.own 1006)),(17,.l (.d (.bool true))),(0,.l (.ptr 12 0)),(1,.l (.mfn 101 12)),(5,.l (.own 1006)),(6,.l (.d (.int .i64 v13.2.2.2))),(17,.l (.d (.bool w14)))],26⟩,⟨[(34,.l (.mfn 101 12)),(33,.l (.ptr 12 0)),(32,.l (.ptr 12 0)),(13,.l (.d (.bool false))),(0,.l (.d (.sl (a0.map (eI .u8))))),(2,.l (.ptr 3 0)),(5,.l (.ptr 12 0)),(12,.l (.d (.int .i64 v1.2.2))),(13,.l (.d (.bool (decide (v1.2.2<(3:Int))))))],74⟩],[(3,[.nil,.nil]),(12,[.d (.sl (a0.map (eI .u8))),.d (.int .i64 w55.1),.d (.int .i64 w55.2.1)]),(2003,[.d (.int .i64 (0:Int)),.d (.int .i64 (0:Int)),.nil]),(4003,[.d (.int .i64 (0:Int)),.d (.int .i64 (0:Int)),.d (.int .i64 (0:Int)),.nil]),(6003,[.d (.int .i64 (0:Int)),.d (.int .i64 (0:Int)),.d (.int .i64 (0:Int))])],[(1006,57,3,v13.2.2.1.map Part.enc),(3006,67,4,v29.2.2.1.map Task.enc),(5006,200,3,v49.2.2.1.map Sec.enc)]⟩) h (fun k61 hk61 h=>?_) (fun w61 h=>?_)
                      · conv=>whnf
                        refine⟨17,?_⟩
                        conv=>whnf
                        refine fkS h (fun h=>?_) (fun h=>?_)
                        · conv=>whnf
                          refine lenS a0 (eI .u8) rfl ?_
                          conv=>whnf
                          refine drS (by kernel_rfl) ?_
                          conv=>whnf
                          exact jeS hk61 h (Weak.refl _)
                        conv=>whnf
                        refine drS (by kernel_rfl) ?_
                        conv=>whnf
                        exact jeS hk61 h (Weak.refl _)
                      conv=>whnf
                      refine fkS h (fun h=>?_) (fun h=>?_)
                      · conv=>whnf
                        exact jeS hk60 h (Weak.refl _)
                      conv=>whnf
                      refine jeX hk60 h ?_
                      conv=>whnf
                      refine WkF.step (Weak.keepS _ [0]) ?_
                      conv=>whnf
                      exact WkF.refl _
                    conv=>whnf
                    refine fkS h (fun h=>?_) (fun h=>?_)
                    · conv=>whnf
                      exact jeS hk59 h (Weak.refl _)
                    conv=>whnf
                    refine⟨9,?_⟩
                    conv=>whnf
                    refine drS (by kernel_rfl) ?_
                    conv=>whnf
                    refine ixS (enc:=(eI .u8)) h rfl (fun _=>rfl) (fun x62 h=>?_)
                    conv=>whnf
                    exact jeS hk59 h (Weak.refl _)
                  conv=>whnf
                  refine liS ([⟨w51.2.2,w55.2.2,w59.2.2⟩]:List Sec) Sec.enc rfl rfl ?_
                  conv=>whnf
                  refine apS (enc:=Sec.enc) (l1:=v49.2.2.1) (l2:=([⟨w51.2.2,w55.2.2,w59.2.2⟩]:List Sec)) h rfl rfl (fun _=>rfl) (fun h=>?_)
                  conv=>whnf
                  exact leS hn49 h (Weak.refl _)
                conv=>whnf
                refine jeX hk44 h ?_
                conv=>whnf
                refine WkF.step (Weak.rekey _ 5005 4019 rfl) ?_
                conv=>whnf
                exact WkF.refl _
              conv=>whnf
              refine jeX hk31 h ?_
              conv=>whnf
              refine WkF.step (Weak.keepS _ [22,21,20,17,0,1,5,6]) ?_
              conv=>whnf
              refine WkF.step (Weak.rekey _ 4019 403023 rfl) ?_
              conv=>whnf
              exact WkF.refl _
            conv=>whnf
            refine liS ([⟨w31.2.2.2.1,w31.2.2.2.2.1,w31.2.2.2.2.2,w31.2.2.1⟩]:List Task) Task.enc rfl rfl ?_
            conv=>whnf
            refine apS (enc:=Task.enc) (l1:=v29.2.2.1) (l2:=([⟨w31.2.2.2.1,w31.2.2.2.2.1,w31.2.2.2.2.2,w31.2.2.1⟩]:List Task)) h rfl rfl (fun _=>rfl) (fun h=>?_)
            conv=>whnf
            exact leS hn29 h (Weak.refl _)
          conv=>whnf
          refine jeX hk24 h ?_
          conv=>whnf
          refine WkF.step (Weak.rekey _ 3005 2016 rfl) ?_
          conv=>whnf
          exact WkF.refl _
        conv=>whnf
        refine jeX hk15 h ?_
        conv=>whnf
        refine WkF.step (Weak.keepS _ [22,21,20,17,0,1,5,6]) ?_
        conv=>whnf
        refine WkF.step (Weak.rekey _ 2016 301023 rfl) ?_
        conv=>whnf
        exact WkF.refl _
      conv=>whnf
      refine liS ([⟨⟨w15.2.2.2.1,w15.2.2.2.2⟩,w15.2.2.1⟩]:List Part) Part.enc rfl rfl ?_
      conv=>whnf
      refine apS (enc:=Part.enc) (l1:=v13.2.2.1) (l2:=([⟨⟨w15.2.2.2.1,w15.2.2.2.2⟩,w15.2.2.1⟩]:List Part)) h rfl rfl (fun _=>rfl) (fun h=>?_)
      conv=>whnf
      exact leS hn13 h (Weak.refl _)
    conv=>whnf
    refine jeX hk8 h ?_
    conv=>whnf
    refine WkF.step (Weak.keepS _ [35,34,33,32,13,0,2,5,12]) ?_
    conv=>whnf
    refine WkF.step (Weak.rekey _ 1005 36 rfl) ?_
    conv=>whnf
    exact WkF.refl _
  conv=>whnf
  refine inJ (fun w63=>⟨[(40,.l (.own 41)),(39,.l (.mfn 103 12)),(38,.l (.ptr 12 0)),(37,.l (.ptr 12 0)),(0,.l (.d (.sl (a0.map (eI .u8))))),(2,.l (.ptr 3 0)),(5,.l (.ptr 12 0)),(8,.l (.ptr 9 0))],74,[],[(3,[.nil,.nil]),(9,[.own 36,.nil]),(12,[.d (.sl (a0.map (eI .u8))),.d (.int .i64 w63.1),.d (.int .i64 w63.2.1)])],[(36,57,3,w8.2.2.map Part.enc),(41,90,3,w63.2.2.map Port.enc)]⟩) h (fun k63 hk63 h=>?_) (fun w63 h=>?_)
  · conv=>whnf
    refine inS (fn:=Tryz.f102) tab ⟨[(0,[0,1]),(1,[0,1,5]),(2,[0,1,5,6]),(3,[0,1,5,6,17]),(4,[0,1,5,6]),(5,[0,1,5,6]),(6,[4])],[],[100017],[]⟩ 26 [.tmp 4] rfl rfl rfl rfl rfl rfl ?_
    conv=>whnf
    refine inJ (fun w64=>⟨[(8,.l (.d (.int .i64 w64.2.2))),(7,.l (.ptr 12 0)),(0,.l (.ptr 12 0)),(1,.l (.mfn 103 12)),(5,.l .nil)],26,[⟨[(39,.l (.mfn 103 12)),(38,.l (.ptr 12 0)),(37,.l (.ptr 12 0)),(0,.l (.d (.sl (a0.map (eI .u8))))),(2,.l (.ptr 3 0)),(5,.l (.ptr 12 0)),(8,.l (.ptr 9 0))],74⟩],[(3,[.nil,.nil]),(9,[.own 36,.nil]),(12,[.d (.sl (a0.map (eI .u8))),.d (.int .i64 w64.1),.d (.int .i64 w64.2.1)])],[(36,57,3,w8.2.2.map Part.enc)]⟩) h (fun k64 hk64 h=>?_) (fun w64 h=>?_)
    · conv=>whnf
      refine inS (fn:=Tryz.f99) tab ⟨[(0,[0]),(1,[0,19]),(2,[0]),(3,[0,27]),(4,[2]),(5,[0]),(6,[2])],[],[100019,3],[]⟩ 47 [.tmp 2] rfl rfl rfl rfl rfl rfl ?_
      conv=>whnf
      refine jnS (fun w65=>⟨[(0,.l (.ptr 12 0))],47,[⟨[(7,.l (.ptr 12 0)),(0,.l (.ptr 12 0)),(1,.l (.mfn 103 12)),(5,.l .nil)],26⟩,⟨[(39,.l (.mfn 103 12)),(38,.l (.ptr 12 0)),(37,.l (.ptr 12 0)),(0,.l (.d (.sl (a0.map (eI .u8))))),(2,.l (.ptr 3 0)),(5,.l (.ptr 12 0)),(8,.l (.ptr 9 0))],74⟩],[(3,[.nil,.nil]),(9,[.own 36,.nil]),(12,[.d (.sl (a0.map (eI .u8))),.d (.int .i64 w8.1),.d (.int .i64 w65)])],[(36,57,3,w8.2.2.map Part.enc)]⟩) h (fun k65 hk65 h=>?_) (fun w65 h=>?_)
      · conv=>whnf
        refine jnS (fun w66=>⟨[(0,.l (.ptr 12 0)),(19,.l (.d (.bool w66)))],47,[⟨[(7,.l (.ptr 12 0)),(0,.l (.ptr 12 0)),(1,.l (.mfn 103 12)),(5,.l .nil)],26⟩,⟨[(39,.l (.mfn 103 12)),(38,.l (.ptr 12 0)),(37,.l (.ptr 12 0)),(0,.l (.d (.sl (a0.map (eI .u8))))),(2,.l (.ptr 3 0)),(5,.l (.ptr 12 0)),(8,.l (.ptr 9 0))],74⟩],[(3,[.nil,.nil]),(9,[.own 36,.nil]),(12,[.d (.sl (a0.map (eI .u8))),.d (.int .i64 w8.1),.d (.int .i64 w8.2.1)])],[(36,57,3,w8.2.2.map Part.enc)]⟩) h (fun k66 hk66 h=>?_) (fun w66 h=>?_)
        · conv=>whnf
          refine⟨17,?_⟩
          conv=>whnf
          refine fkS h (fun h=>?_) (fun h=>?_)
          · conv=>whnf
            refine lenS a0 (eI .u8) rfl ?_
            conv=>whnf
            refine drS (by kernel_rfl) ?_
            conv=>whnf
            exact jeS hk66 h (Weak.refl _)
          conv=>whnf
          refine drS (by kernel_rfl) ?_
          conv=>whnf
          exact jeS hk66 h (Weak.refl _)
        conv=>whnf
        refine fkS h (fun h=>?_) (fun h=>?_)
        · conv=>whnf
          exact jeS hk65 h (Weak.refl _)
        conv=>whnf
        refine jeX hk65 h ?_
        conv=>whnf
        refine WkF.step (Weak.keepS _ [0]) ?_
        conv=>whnf
        exact WkF.refl _
      conv=>whnf
      refine fkS h (fun h=>?_) (fun h=>?_)
      · conv=>whnf
        exact jeS hk64 h (Weak.refl _)
      conv=>whnf
      refine⟨9,?_⟩
      conv=>whnf
      refine drS (by kernel_rfl) ?_
      conv=>whnf
      refine ixS (enc:=(eI .u8)) h rfl (fun _=>rfl) (fun x67 h=>?_)
      conv=>whnf
      exact jeS hk64 h (Weak.refl _)
    conv=>whnf
    refine lpS (fun v68=>⟨[(0,.l (.ptr 12 0)),(1,.l (.mfn 103 12)),(5,.l (.own 1006)),(6,.l (.d (.int .i64 v68.2.2.2)))],26,[⟨[(39,.l (.mfn 103 12)),(38,.l (.ptr 12 0)),(37,.l (.ptr 12 0)),(0,.l (.d (.sl (a0.map (eI .u8))))),(2,.l (.ptr 3 0)),(5,.l (.ptr 12 0)),(8,.l (.ptr 9 0))],74⟩],[(3,[.nil,.nil]),(9,[.own 36,.nil]),(12,[.d (.sl (a0.map (eI .u8))),.d (.int .i64 v68.1),.d (.int .i64 v68.2.1)])],[(36,57,3,w8.2.2.map Part.enc),(1006,90,3,v68.2.2.1.map Port.enc)]⟩) h (Weak.trans (Weak.nilO _ 5 1006 90 3 rfl) (Weak.refl _)) (fun _ nx68 hn68 v68 h=>?_)
    conv=>whnf
    refine jnS (fun w69=>⟨[(0,.l (.ptr 12 0)),(1,.l (.mfn 103 12)),(5,.l (.own 1006)),(6,.l (.d (.int .i64 v68.2.2.2))),(17,.l (.d (.bool w69)))],26,[⟨[(39,.l (.mfn 103 12)),(38,.l (.ptr 12 0)),(37,.l (.ptr 12 0)),(0,.l (.d (.sl (a0.map (eI .u8))))),(2,.l (.ptr 3 0)),(5,.l (.ptr 12 0)),(8,.l (.ptr 9 0))],74⟩],[(3,[.nil,.nil]),(9,[.own 36,.nil]),(12,[.d (.sl (a0.map (eI .u8))),.d (.int .i64 v68.1),.d (.int .i64 v68.2.1)])],[(36,57,3,w8.2.2.map Part.enc),(1006,90,3,v68.2.2.1.map Port.enc)]⟩) h (fun k69 hk69 h=>?_) (fun w69 h=>?_)
    · conv=>whnf
      refine fkS h (fun h=>?_) (fun h=>?_)
      · conv=>whnf
        exact jeS hk69 h (Weak.refl _)
      conv=>whnf
      exact jeS hk69 h (Weak.refl _)
    conv=>whnf
    refine fkS h (fun h=>?_) (fun h=>?_)
    · conv=>whnf
      refine inS (fn:=Tryz.f103) tab ⟨[(0,[0,2]),(1,[2,3,4,5]),(2,[2])],[],[],[]⟩ 16 [.cell 2 90] rfl rfl rfl rfl rfl rfl ?_
      conv=>whnf
      refine inJ (fun w70=>⟨[(7,.l (.d (.int .i64 w70.2.2))),(6,.l (.ptr 12 0)),(0,.l (.ptr 12 0)),(2,.l (.ptr 2003 0))],16,[⟨[(21,.l (.mfn 103 12)),(20,.l (.own 1006)),(17,.l (.d (.bool true))),(0,.l (.ptr 12 0)),(1,.l (.mfn 103 12)),(5,.l (.own 1006)),(6,.l (.d (.int .i64 v68.2.2.2))),(17,.l (.d (.bool w69)))],26⟩,⟨[(39,.l (.mfn 103 12)),(38,.l (.ptr 12 0)),(37,.l (.ptr 12 0)),(0,.l (.d (.sl (a0.map (eI .u8))))),(2,.l (.ptr 3 0)),(5,.l (.ptr 12 0)),(8,.l (.ptr 9 0))],74⟩],[(3,[.nil,.nil]),(9,[.own 36,.nil]),(12,[.d (.sl (a0.map (eI .u8))),.d (.int .i64 w70.1),.d (.int .i64 w70.2.1)]),(2003,[.d (.int .i64 (0:Int)),.d (.int .i64 (0:Int)),.d (.int .i64 (0:Int))])],[(36,57,3,w8.2.2.map Part.enc),(1006,90,3,v68.2.2.1.map Port.enc)]⟩) h (fun k70 hk70 h=>?_) (fun w70 h=>?_)
      · conv=>whnf
        refine inS (fn:=Tryz.f99) tab ⟨[(0,[0]),(1,[0,19]),(2,[0]),(3,[0,27]),(4,[2]),(5,[0]),(6,[2])],[],[100019,3],[]⟩ 47 [.tmp 2] rfl rfl rfl rfl rfl rfl ?_
        conv=>whnf
        refine jnS (fun w71=>⟨[(0,.l (.ptr 12 0))],47,[⟨[(6,.l (.ptr 12 0)),(0,.l (.ptr 12 0)),(2,.l (.ptr 2003 0))],16⟩,⟨[(21,.l (.mfn 103 12)),(20,.l (.own 1006)),(17,.l (.d (.bool true))),(0,.l (.ptr 12 0)),(1,.l (.mfn 103 12)),(5,.l (.own 1006)),(6,.l (.d (.int .i64 v68.2.2.2))),(17,.l (.d (.bool w69)))],26⟩,⟨[(39,.l (.mfn 103 12)),(38,.l (.ptr 12 0)),(37,.l (.ptr 12 0)),(0,.l (.d (.sl (a0.map (eI .u8))))),(2,.l (.ptr 3 0)),(5,.l (.ptr 12 0)),(8,.l (.ptr 9 0))],74⟩],[(3,[.nil,.nil]),(9,[.own 36,.nil]),(12,[.d (.sl (a0.map (eI .u8))),.d (.int .i64 v68.1),.d (.int .i64 w71)]),(2003,[.d (.int .i64 (0:Int)),.d (.int .i64 (0:Int)),.d (.int .i64 (0:Int))])],[(36,57,3,w8.2.2.map Part.enc),(1006,90,3,v68.2.2.1.map Port.enc)]⟩) h (fun k71 hk71 h=>?_) (fun w71 h=>?_)
        · conv=>whnf
          refine jnS (fun w72=>⟨[(0,.l (.ptr 12 0)),(19,.l (.d (.bool w72)))],47,[⟨[(6,.l (.ptr 12 0)),(0,.l (.ptr 12 0)),(2,.l (.ptr 2003 0))],16⟩,⟨[(21,.l (.mfn 103 12)),(20,.l (.own 1006)),(17,.l (.d (.bool true))),(0,.l (.ptr 12 0)),(1,.l (.mfn 103 12)),(5,.l (.own 1006)),(6,.l (.d (.int .i64 v68.2.2.2))),(17,.l (.d (.bool w69)))],26⟩,⟨[(39,.l (.mfn 103 12)),(38,.l (.ptr 12 0)),(37,.l (.ptr 12 0)),(0,.l (.d (.sl (a0.map (eI .u8))))),(2,.l (.ptr 3 0)),(5,.l (.ptr 12 0)),(8,.l (.ptr 9 0))],74⟩],[(3,[.nil,.nil]),(9,[.own 36,.nil]),(12,[.d (.sl (a0.map (eI .u8))),.d (.int .i64 v68.1),.d (.int .i64 v68.2.1)]),(2003,[.d (.int .i64 (0:Int)),.d (.int .i64 (0:Int)),.d (.int .i64 (0:Int))])],[(36,57,3,w8.2.2.map Part.enc),(1006,90,3,v68.2.2.1.map Port.enc)]⟩) h (fun k72 hk72 h=>?_) (fun w72 h=>?_)
          · conv=>whnf
            refine⟨17,?_⟩
            conv=>whnf
            refine fkS h (fun h=>?_) (fun h=>?_)
            · conv=>whnf
              refine lenS a0 (eI .u8) rfl ?_
              conv=>whnf
              refine drS (by kernel_rfl) ?_
              conv=>whnf
              exact jeS hk72 h (Weak.refl _)
            conv=>whnf
            refine drS (by kernel_rfl) ?_
            conv=>whnf
            exact jeS hk72 h (Weak.refl _)
          conv=>whnf
          refine fkS h (fun h=>?_) (fun h=>?_)
          · conv=>whnf
            exact jeS hk71 h (Weak.refl _)
          conv=>whnf
          refine jeX hk71 h ?_
          conv=>whnf
          refine WkF.step (Weak.keepS _ [0]) ?_
          conv=>whnf
          exact WkF.refl _
        conv=>whnf
        refine fkS h (fun h=>?_) (fun h=>?_)
        · conv=>whnf
          exact jeS hk70 h (Weak.refl _)
        conv=>whnf
        refine⟨9,?_⟩
        conv=>whnf
        refine drS (by kernel_rfl) ?_
        conv=>whnf
        refine ixS (enc:=(eI .u8)) h rfl (fun _=>rfl) (fun x73 h=>?_)
        conv=>whnf
        exact jeS hk70 h (Weak.refl _)
      conv=>whnf
      refine inJ (fun w74=>⟨[(9,.l (.d (.int .i64 w74.2.2))),(8,.l (.ptr 12 0)),(7,.l (.d (.int .i64 w70.2.2))),(6,.l (.ptr 12 0)),(0,.l (.ptr 12 0)),(2,.l (.ptr 2003 0))],16,[⟨[(21,.l (.mfn 103 12)),(20,.l (.own 1006)),(17,.l (.d (.bool true))),(0,.l (.ptr 12 0)),(1,.l (.mfn 103 12)),(5,.l (.own 1006)),(6,.l (.d (.int .i64 v68.2.2.2))),(17,.l (.d (.bool w69)))],26⟩,⟨[(39,.l (.mfn 103 12)),(38,.l (.ptr 12 0)),(37,.l (.ptr 12 0)),(0,.l (.d (.sl (a0.map (eI .u8))))),(2,.l (.ptr 3 0)),(5,.l (.ptr 12 0)),(8,.l (.ptr 9 0))],74⟩],[(3,[.nil,.nil]),(9,[.own 36,.nil]),(12,[.d (.sl (a0.map (eI .u8))),.d (.int .i64 w74.1),.d (.int .i64 w74.2.1)]),(2003,[.d (.int .i64 (0:Int)),.d (.int .i64 (0:Int)),.d (.int .i64 (0:Int))])],[(36,57,3,w8.2.2.map Part.enc),(1006,90,3,v68.2.2.1.map Port.enc)]⟩) h (fun k74 hk74 h=>?_) (fun w74 h=>?_)
      · conv=>whnf
        refine inS (fn:=Tryz.f99) tab ⟨[(0,[0]),(1,[0,19]),(2,[0]),(3,[0,27]),(4,[2]),(5,[0]),(6,[2])],[],[100019,3],[]⟩ 47 [.tmp 2] rfl rfl rfl rfl rfl rfl ?_
        conv=>whnf
        refine jnS (fun w75=>⟨[(0,.l (.ptr 12 0))],47,[⟨[(8,.l (.ptr 12 0)),(7,.l (.d (.int .i64 w70.2.2))),(6,.l (.ptr 12 0)),(0,.l (.ptr 12 0)),(2,.l (.ptr 2003 0))],16⟩,⟨[(21,.l (.mfn 103 12)),(20,.l (.own 1006)),(17,.l (.d (.bool true))),(0,.l (.ptr 12 0)),(1,.l (.mfn 103 12)),(5,.l (.own 1006)),(6,.l (.d (.int .i64 v68.2.2.2))),(17,.l (.d (.bool w69)))],26⟩,⟨[(39,.l (.mfn 103 12)),(38,.l (.ptr 12 0)),(37,.l (.ptr 12 0)),(0,.l (.d (.sl (a0.map (eI .u8))))),(2,.l (.ptr 3 0)),(5,.l (.ptr 12 0)),(8,.l (.ptr 9 0))],74⟩],[(3,[.nil,.nil]),(9,[.own 36,.nil]),(12,[.d (.sl (a0.map (eI .u8))),.d (.int .i64 w70.1),.d (.int .i64 w75)]),(2003,[.d (.int .i64 (0:Int)),.d (.int .i64 (0:Int)),.d (.int .i64 (0:Int))])],[(36,57,3,w8.2.2.map Part.enc),(1006,90,3,v68.2.2.1.map Port.enc)]⟩) h (fun k75 hk75 h=>?_) (fun w75 h=>?_)
        · conv=>whnf
          refine jnS (fun w76=>⟨[(0,.l (.ptr 12 0)),(19,.l (.d (.bool w76)))],47,[⟨[(8,.l (.ptr 12 0)),(7,.l (.d (.int .i64 w70.2.2))),(6,.l (.ptr 12 0)),(0,.l (.ptr 12 0)),(2,.l (.ptr 2003 0))],16⟩,⟨[(21,.l (.mfn 103 12)),(20,.l (.own 1006)),(17,.l (.d (.bool true))),(0,.l (.ptr 12 0)),(1,.l (.mfn 103 12)),(5,.l (.own 1006)),(6,.l (.d (.int .i64 v68.2.2.2))),(17,.l (.d (.bool w69)))],26⟩,⟨[(39,.l (.mfn 103 12)),(38,.l (.ptr 12 0)),(37,.l (.ptr 12 0)),(0,.l (.d (.sl (a0.map (eI .u8))))),(2,.l (.ptr 3 0)),(5,.l (.ptr 12 0)),(8,.l (.ptr 9 0))],74⟩],[(3,[.nil,.nil]),(9,[.own 36,.nil]),(12,[.d (.sl (a0.map (eI .u8))),.d (.int .i64 w70.1),.d (.int .i64 w70.2.1)]),(2003,[.d (.int .i64 (0:Int)),.d (.int .i64 (0:Int)),.d (.int .i64 (0:Int))])],[(36,57,3,w8.2.2.map Part.enc),(1006,90,3,v68.2.2.1.map Port.enc)]⟩) h (fun k76 hk76 h=>?_) (fun w76 h=>?_)
          · conv=>whnf
            refine⟨17,?_⟩
            conv=>whnf
            refine fkS h (fun h=>?_) (fun h=>?_)
            · conv=>whnf
              refine lenS a0 (eI .u8) rfl ?_
              conv=>whnf
              refine drS (by kernel_rfl) ?_
              conv=>whnf
              exact jeS hk76 h (Weak.refl _)
            conv=>whnf
            refine drS (by kernel_rfl) ?_
            conv=>whnf
            exact jeS hk76 h (Weak.refl _)
          conv=>whnf
          refine fkS h (fun h=>?_) (fun h=>?_)
          · conv=>whnf
            exact jeS hk75 h (Weak.refl _)
          conv=>whnf
          refine jeX hk75 h ?_
          conv=>whnf
          refine WkF.step (Weak.keepS _ [0]) ?_
          conv=>whnf
          exact WkF.refl _
        conv=>whnf
        refine fkS h (fun h=>?_) (fun h=>?_)
        · conv=>whnf
          exact jeS hk74 h (Weak.refl _)
        conv=>whnf
        refine⟨9,?_⟩
        conv=>whnf
        refine drS (by kernel_rfl) ?_
        conv=>whnf
        refine ixS (enc:=(eI .u8)) h rfl (fun _=>rfl) (fun x77 h=>?_)
        conv=>whnf
        exact jeS hk74 h (Weak.refl _)
      conv=>whnf
      refine inJ (fun w78=>⟨[(11,.l (.d (.int .i64 w78.2.2))),(10,.l (.ptr 12 0)),(9,.l (.d (.int .i64 w74.2.2))),(8,.l (.ptr 12 0)),(7,.l (.d (.int .i64 w70.2.2))),(6,.l (.ptr 12 0)),(0,.l (.ptr 12 0)),(2,.l (.ptr 2003 0))],16,[⟨[(21,.l (.mfn 103 12)),(20,.l (.own 1006)),(17,.l (.d (.bool true))),(0,.l (.ptr 12 0)),(1,.l (.mfn 103 12)),(5,.l (.own 1006)),(6,.l (.d (.int .i64 v68.2.2.2))),(17,.l (.d (.bool w69)))],26⟩,⟨[(39,.l (.mfn 103 12)),(38,.l (.ptr 12 0)),(37,.l (.ptr 12 0)),(0,.l (.d (.sl (a0.map (eI .u8))))),(2,.l (.ptr 3 0)),(5,.l (.ptr 12 0)),(8,.l (.ptr 9 0))],74⟩],[(3,[.nil,.nil]),(9,[.own 36,.nil]),(12,[.d (.sl (a0.map (eI .u8))),.d (.int .i64 w78.1),.d (.int .i64 w78.2.1)]),(2003,[.d (.int .i64 (0:Int)),.d (.int .i64 (0:Int)),.d (.int .i64 (0:Int))])],[(36,57,3,w8.2.2.map Part.enc),(1006,90,3,v68.2.2.1.map Port.enc)]⟩) h (fun k78 hk78 h=>?_) (fun w78 h=>?_)
      · conv=>whnf
        refine inS (fn:=Tryz.f99) tab ⟨[(0,[0]),(1,[0,19]),(2,[0]),(3,[0,27]),(4,[2]),(5,[0]),(6,[2])],[],[100019,3],[]⟩ 47 [.tmp 2] rfl rfl rfl rfl rfl rfl ?_
        conv=>whnf
        refine jnS (fun w79=>⟨[(0,.l (.ptr 12 0))],47,[⟨[(10,.l (.ptr 12 0)),(9,.l (.d (.int .i64 w74.2.2))),(8,.l (.ptr 12 0)),(7,.l (.d (.int .i64 w70.2.2))),(6,.l (.ptr 12 0)),(0,.l (.ptr 12 0)),(2,.l (.ptr 2003 0))],16⟩,⟨[(21,.l (.mfn 103 12)),(20,.l (.own 1006)),(17,.l (.d (.bool true))),(0,.l (.ptr 12 0)),(1,.l (.mfn 103 12)),(5,.l (.own 1006)),(6,.l (.d (.int .i64 v68.2.2.2))),(17,.l (.d (.bool w69)))],26⟩,⟨[(39,.l (.mfn 103 12)),(38,.l (.ptr 12 0)),(37,.l (.ptr 12 0)),(0,.l (.d (.sl (a0.map (eI .u8))))),(2,.l (.ptr 3 0)),(5,.l (.ptr 12 0)),(8,.l (.ptr 9 0))],74⟩],[(3,[.nil,.nil]),(9,[.own 36,.nil]),(12,[.d (.sl (a0.map (eI .u8))),.d (.int .i64 w74.1),.d (.int .i64 w79)]),(2003,[.d (.int .i64 (0:Int)),.d (.int .i64 (0:Int)),.d (.int .i64 (0:Int))])],[(36,57,3,w8.2.2.map Part.enc),(1006,90,3,v68.2.2.1.map Port.enc)]⟩) h (fun k79 hk79 h=>?_) (fun w79 h=>?_)
        · conv=>whnf
          refine jnS (fun w80=>⟨[(0,.l (.ptr 12 0)),(19,.l (.d (.bool w80)))],47,[⟨[(10,.l (.ptr 12 0)),(9,.l (.d (.int .i64 w74.2.2))),(8,.l (.ptr 12 0)),(7,.l (.d (.int .i64 w70.2.2))),(6,.l (.ptr 12 0)),(0,.l (.ptr 12 0)),(2,.l (.ptr 2003 0))],16⟩,⟨[(21,.l (.mfn 103 12)),(20,.l (.own 1006)),(17,.l (.d (.bool true))),(0,.l (.ptr 12 0)),(1,.l (.mfn 103 12)),(5,.l (.own 1006)),(6,.l (.d (.int .i64 v68.2.2.2))),(17,.l (.d (.bool w69)))],26⟩,⟨[(39,.l (.mfn 103 12)),(38,.l (.ptr 12 0)),(37,.l (.ptr 12 0)),(0,.l (.d (.sl (a0.map (eI .u8))))),(2,.l (.ptr 3 0)),(5,.l (.ptr 12 0)),(8,.l (.ptr 9 0))],74⟩],[(3,[.nil,.nil]),(9,[.own 36,.nil]),(12,[.d (.sl (a0.map (eI .u8))),.d (.int .i64 w74.1),.d (.int .i64 w74.2.1)]),(2003,[.d (.int .i64 (0:Int)),.d (.int .i64 (0:Int)),.d (.int .i64 (0:Int))])],[(36,57,3,w8.2.2.map Part.enc),(1006,90,3,v68.2.2.1.map Port.enc)]⟩) h (fun k80 hk80 h=>?_) (fun w80 h=>?_)
          · conv=>whnf
            refine⟨17,?_⟩
            conv=>whnf
            refine fkS h (fun h=>?_) (fun h=>?_)
            · conv=>whnf
              refine lenS a0 (eI .u8) rfl ?_
              conv=>whnf
              refine drS (by kernel_rfl) ?_
              conv=>whnf
              exact jeS hk80 h (Weak.refl _)
            conv=>whnf
            refine drS (by kernel_rfl) ?_
            conv=>whnf
            exact jeS hk80 h (Weak.refl _)
          conv=>whnf
          refine fkS h (fun h=>?_) (fun h=>?_)
          · conv=>whnf
            exact jeS hk79 h (Weak.refl _)
          conv=>whnf
          refine jeX hk79 h ?_
          conv=>whnf
          refine WkF.step (Weak.keepS _ [0]) ?_
          conv=>whnf
          exact WkF.refl _
        conv=>whnf
        refine fkS h (fun h=>?_) (fun h=>?_)
        · conv=>whnf
          exact jeS hk78 h (Weak.refl _)
        conv=>whnf
        refine⟨9,?_⟩
        conv=>whnf
        refine drS (by kernel_rfl) ?_
        conv=>whnf
        refine ixS (enc:=(eI .u8)) h rfl (fun _=>rfl) (fun x81 h=>?_)
        conv=>whnf
        exact jeS hk78 h (Weak.refl _)
      conv=>whnf
      refine liS ([⟨w70.2.2,w74.2.2,w78.2.2⟩]:List Port) Port.enc rfl rfl ?_
      conv=>whnf
      refine apS (enc:=Port.enc) (l1:=v68.2.2.1) (l2:=([⟨w70.2.2,w74.2.2,w78.2.2⟩]:List Port)) h rfl rfl (fun _=>rfl) (fun h=>?_)
      conv=>whnf
      exact leS hn68 h (Weak.refl _)
    conv=>whnf
    refine jeX hk63 h ?_
    conv=>whnf
    refine WkF.step (Weak.rekey _ 1005 41 rfl) ?_
    conv=>whnf
    exact WkF.refl _
  conv=>whnf
  refine fkS h (fun h=>?_) (fun h=>?_)
  · conv=>whnf
    refine⟨9,?_⟩
    conv=>whnf
    refine lenS a0 (eI .u8) rfl ?_
    conv=>whnf
    refine drS (by kernel_rfl) ?_
    conv=>whnf
    exact rt (E:=E_Config_Int_Int) h rfl
  conv=>whnf
  refine lenS a0 (eI .u8) rfl ?_
  conv=>whnf
  refine fkS h (fun h=>?_) (fun h=>?_)
  · conv=>whnf
    refine⟨6,?_⟩
    conv=>whnf
    refine drS (by kernel_rfl) ?_
    conv=>whnf
    exact rt (E:=E_Config_Int_Int) h rfl
  conv=>whnf
  refine caS (E:=E_Bool) h (image_Right_w ⟨w8.2.2,w63.2.2⟩) rfl (fun _=>rfl) (fun x82 h=>?_)
  conv=>whnf
  refine fkS h (fun h=>?_) (fun h=>?_)
  · conv=>whnf
    exact rt (E:=E_Config_Int_Int) h rfl
  conv=>whnf
  exact rt (E:=E_Config_Int_Int) h rfl

end Go.Proofs.YtldlcdnhdedoeaaGreat
namespace Go.Proofs.YtldlcdnhdedoeaaGreat
open Go Go.VC
noncomputable def arith_may (a0:List Int):Option Bool:=
  lp (fun nx1 (v1:Int)=>fk (decide (v1<(a0.length:Int))) (ix a0 v1 fun x2=>jn (fun (w3:Bool)=>fk w3 (some false) (nx1 (wr (v1+(1:Int))))) (fun k3=>fk (decide (x2>(4611686018427387903:Int))) (k3 true) (k3 (decide (x2<(-4611686018427387903:Int)))))) (some true)) FU (0:Int)
theorem arith_may_w (a0:List Int) (r:Bool) (h:arith_may a0=some r):Go.VC.Spec Tryz.prog 180 [.d (.sl (a0.map (eI .i64)))] (fun y=>y=E_Bool r):=by
  refine Go.VC.Spec.of_xc (args:=[.d (.sl (a0.map (eI .i64)))]) (fn:=Tryz.f180) tab ⟨[(0,[0]),(1,[5,6,7]),(2,[5,6,7,8]),(3,[4,5,6,7]),(4,[5,6,7,16]),(5,[2]),(6,[5,6,7]),(7,[2])],[],[100016],[]⟩ 18 [.tmp 2] rfl rfl rfl rfl rfl rfl ?_
  conv=>whnf
  refine lenS a0 (eI .i64) rfl ?_
  conv=>whnf
  refine lpS (fun v1=>⟨[(5,.l (.d (.sl (a0.map (eI .i64))))),(6,.l (.d (.int .i64 (a0.length:Int)))),(7,.l (.d (.int .i64 v1)))],18,[],[],[]⟩) h (Weak.refl _) (fun _ nx1 hn1 v1 h=>?_)
  conv=>whnf
  refine fkS h (fun h=>?_) (fun h=>?_)
  · conv=>whnf
    refine ixS (enc:=(eI .i64)) h rfl (fun _=>rfl) (fun x2 h=>?_)
    conv=>whnf
    refine jnS (fun w3=>⟨[(5,.l (.d (.sl (a0.map (eI .i64))))),(6,.l (.d (.int .i64 (a0.length:Int)))),(7,.l (.d (.int .i64 v1))),(16,.l (.d (.bool w3)))],18,[],[],[]⟩) h (fun k3 hk3 h=>?_) (fun w3 h=>?_)
    · conv=>whnf
      refine fkS h (fun h=>?_) (fun h=>?_)
      · conv=>whnf
        exact jeS hk3 h (Weak.refl _)
      conv=>whnf
      exact jeS hk3 h (Weak.refl _)
    conv=>whnf
    refine fkS h (fun h=>?_) (fun h=>?_)
    · conv=>whnf
      exact rt (E:=E_Bool) h rfl
    conv=>whnf
    exact leS hn1 h (Weak.refl _)
  conv=>whnf
  exact rt (E:=E_Bool) h rfl

end Go.Proofs.YtldlcdnhdedoeaaGreat
namespace Go.Proofs.YtldlcdnhdedoeaaGreat
open Go Go.VC
noncomputable def arith_Gcd (a0:Int) (a1:Int):Option (Int×Int):=
  jn (fun (w1:Bool)=>fk w1 (some ((0:Int),(1:Int))) (lp (fun nx3 (v3:Int×Int)=>fk (decide (v3.2>(0:Int))) (ck (decide (v3.2≠0)) (nx3 (v3.2,(v3.1.tmod v3.2)))) (some (v3.1,(0:Int)))) FU (a0,a1))) (fun k1=>bnd (arith_may ([a0,a1]:List Int)) fun x2=>fk (!x2) (k1 true) (fk (decide (a0<(0:Int))) (k1 true) (k1 (decide (a1<(0:Int))))))
theorem arith_Gcd_w (a0:Int) (a1:Int) (r:Int×Int) (h:arith_Gcd a0 a1=some r):Go.VC.Spec Tryz.prog 170 [.d (.int .i64 a0),.d (.int .i64 a1)] (fun y=>y=E_Int_Int r):=by
  refine Go.VC.Spec.of_xc (args:=[.d (.int .i64 a0),.d (.int .i64 a1)]) (fn:=Tryz.f170) tab ⟨[(0,[0,1]),(1,[0,1,18]),(2,[4,5]),(3,[0,1,20]),(4,[0,1]),(5,[4,5])],[],[100018],[]⟩ 26 [.tmp 4,.tmp 5] rfl rfl rfl rfl rfl rfl ?_
  conv=>whnf
  refine jnS (fun w1=>⟨[(0,.l (.d (.int .i64 a0))),(1,.l (.d (.int .i64 a1))),(18,.l (.d (.bool w1)))],26,[],[],[]⟩) h (fun k1 hk1 h=>?_) (fun w1 h=>?_)
  · conv=>whnf
    refine liS ([a0,a1]:List Int) (eI .i64) rfl rfl ?_
    conv=>whnf
    refine caS (E:=E_Bool) h (arith_may_w ([a0,a1]:List Int)) rfl (fun _=>rfl) (fun x2 h=>?_)
    conv=>whnf
    refine fkS h (fun h=>?_) (fun h=>?_)
    · conv=>whnf
      exact jeS hk1 h (Weak.refl _)
    conv=>whnf
    refine fkS h (fun h=>?_) (fun h=>?_)
    · conv=>whnf
      exact jeS hk1 h (Weak.refl _)
    conv=>whnf
    exact jeS hk1 h (Weak.refl _)
  conv=>whnf
  refine fkS h (fun h=>?_) (fun h=>?_)
  · conv=>whnf
    exact rt (E:=E_Int_Int) h rfl
  conv=>whnf
  refine lpS (fun v3=>⟨[(0,.l (.d (.int .i64 v3.1))),(1,.l (.d (.int .i64 v3.2)))],26,[],[],[]⟩) h (Weak.trans (Weak.keepS _ [0,1]) (Weak.refl _)) (fun _ nx3 hn3 v3 h=>?_)
  conv=>whnf
  refine fkS h (fun h=>?_) (fun h=>?_)
  · conv=>whnf
    refine⟨5,?_⟩
    conv=>whnf
    refine dvS h (fun h=>?_)
    conv=>whnf
    refine drS (by kernel_rfl) ?_
    conv=>whnf
    exact leS hn3 h (Weak.refl _)
  conv=>whnf
  exact rt (E:=E_Int_Int) h rfl

end Go.Proofs.YtldlcdnhdedoeaaGreat
namespace Go.Proofs.YtldlcdnhdedoeaaGreat
open Go Go.VC
noncomputable def arith_Mul (a0:Int) (a1:Int):Option (Int×Int):=
  bnd (arith_may ([a0,a1]:List Int)) fun x1=>fk (!x1) (some ((0:Int),(1:Int))) (jn (fun (w2:Bool)=>fk w2 (some ((0:Int),(0:Int))) (ck (decide ((if (IntKind.i64.wrap (0-a1))>a1 then (IntKind.i64.wrap (0-a1)) else a1)≠0)) (fk (decide ((if (IntKind.i64.wrap (0-a0))>a0 then (IntKind.i64.wrap (0-a0)) else a0)>(wr ((4611686018427387903:Int).tdiv (if (IntKind.i64.wrap (0-a1))>a1 then (IntKind.i64.wrap (0-a1)) else a1))))) (some ((0:Int),(5:Int))) (some ((wr (a0*a1)),(0:Int)))))) (fun k2=>fk (decide (a0=(0:Int))) (k2 true) (k2 (decide (a1=(0:Int))))))
theorem arith_Mul_w (a0:Int) (a1:Int) (r:Int×Int) (h:arith_Mul a0 a1=some r):Go.VC.Spec Tryz.prog 171 [.d (.int .i64 a0),.d (.int .i64 a1)] (fun y=>y=E_Int_Int r):=by
  refine Go.VC.Spec.of_xc (args:=[.d (.int .i64 a0),.d (.int .i64 a1)]) (fn:=Tryz.f171) tab ⟨[(0,[0,1]),(1,[0,1,6]),(2,[4,5]),(3,[0,1,12]),(4,[4,5]),(5,[0,1,19]),(6,[4,5]),(7,[4,5])],[],[100012],[]⟩ 33 [.tmp 4,.tmp 5] rfl rfl rfl rfl rfl rfl ?_
  conv=>whnf
  refine liS ([a0,a1]:List Int) (eI .i64) rfl rfl ?_
  conv=>whnf
  refine caS (E:=E_Bool) h (arith_may_w ([a0,a1]:List Int)) rfl (fun _=>rfl) (fun x1 h=>?_)
  conv=>whnf
  refine fkS h (fun h=>?_) (fun h=>?_)
  · conv=>whnf
    exact rt (E:=E_Int_Int) h rfl
  conv=>whnf
  refine jnS (fun w2=>⟨[(0,.l (.d (.int .i64 a0))),(1,.l (.d (.int .i64 a1))),(12,.l (.d (.bool w2)))],33,[],[],[]⟩) h (fun k2 hk2 h=>?_) (fun w2 h=>?_)
  · conv=>whnf
    refine fkS h (fun h=>?_) (fun h=>?_)
    · conv=>whnf
      exact jeS hk2 h (Weak.refl _)
    conv=>whnf
    exact jeS hk2 h (Weak.refl _)
  conv=>whnf
  refine fkS h (fun h=>?_) (fun h=>?_)
  · conv=>whnf
    exact rt (E:=E_Int_Int) h rfl
  conv=>whnf
  refine dvS h (fun h=>?_)
  conv=>whnf
  refine fkS h (fun h=>?_) (fun h=>?_)
  · conv=>whnf
    exact rt (E:=E_Int_Int) h rfl
  conv=>whnf
  exact rt (E:=E_Int_Int) h rfl

end Go.Proofs.YtldlcdnhdedoeaaGreat
namespace Go.Proofs.YtldlcdnhdedoeaaGreat
open Go Go.VC
noncomputable def arith_Lcm (a0:Int) (a1:Int):Option (Int×Int):=
  jn (fun (w1:Bool)=>fk w1 (some ((0:Int),(1:Int))) (bnd (arith_Gcd a0 a1) fun x2=>fk (!decide (x2.2=(0:Int))) (some ((0:Int),x2.2)) (ck (decide (x2.1≠0)) (bnd (arith_Mul (wr (a0.tdiv x2.1)) a1) fun x3=>some (x3.1,x3.2))))) (fun k1=>fk (decide (a0<(1:Int))) (k1 true) (k1 (decide (a1<(1:Int)))))
theorem arith_Lcm_w (a0:Int) (a1:Int) (r:Int×Int) (h:arith_Lcm a0 a1=some r):Go.VC.Spec Tryz.prog 164 [.d (.int .i64 a0),.d (.int .i64 a1)] (fun y=>y=E_Int_Int r):=by
  refine Go.VC.Spec.of_xc (args:=[.d (.int .i64 a0),.d (.int .i64 a1)]) (fn:=Tryz.f164) tab ⟨[(0,[0,1]),(1,[0,1,13]),(2,[4,5]),(3,[0,1,6,7]),(4,[0,1,6,7,21]),(5,[4,5]),(6,[4,5])],[],[100013],[]⟩ 30 [.tmp 4,.tmp 5] rfl rfl rfl rfl rfl rfl ?_
  conv=>whnf
  refine jnS (fun w1=>⟨[(0,.l (.d (.int .i64 a0))),(1,.l (.d (.int .i64 a1))),(13,.l (.d (.bool w1)))],30,[],[],[]⟩) h (fun k1 hk1 h=>?_) (fun w1 h=>?_)
  · conv=>whnf
    refine fkS h (fun h=>?_) (fun h=>?_)
    · conv=>whnf
      exact jeS hk1 h (Weak.refl _)
    conv=>whnf
    exact jeS hk1 h (Weak.refl _)
  conv=>whnf
  refine fkS h (fun h=>?_) (fun h=>?_)
  · conv=>whnf
    exact rt (E:=E_Int_Int) h rfl
  conv=>whnf
  refine caS (E:=E_Int_Int) h (arith_Gcd_w a0 a1) rfl (fun _=>rfl) (fun x2 h=>?_)
  conv=>whnf
  refine fkS h (fun h=>?_) (fun h=>?_)
  · conv=>whnf
    exact rt (E:=E_Int_Int) h rfl
  conv=>whnf
  refine dvS h (fun h=>?_)
  conv=>whnf
  refine caS (E:=E_Int_Int) h (arith_Mul_w (wr (a0.tdiv x2.1)) a1) rfl (fun _=>rfl) (fun x3 h=>?_)
  conv=>whnf
  exact rt (E:=E_Int_Int) h rfl

end Go.Proofs.YtldlcdnhdedoeaaGreat
namespace Go.Proofs.YtldlcdnhdedoeaaGreat
open Go Go.VC
noncomputable def synth_Frame (a0:List Face):Option (Int×Int):=
  fk (decide ((a0.length:Int)>(4:Int))) (some ((0:Int),(1:Int))) (lp (fun nx1 (v1:Int)=>fk (decide (v1<(a0.length:Int))) (ix a0 v1 fun x2=>bnd (supply_Right x2) fun x3=>fk (!x3) (some ((0:Int),(1:Int))) (nx1 (wr (v1+(1:Int))))) (lp (fun nx4 (v4:Int×Int)=>fk (decide (v4.2<(a0.length:Int))) (ix a0 v4.2 fun x5=>bnd (arith_Lcm v4.1 x5.P) fun x6=>jn (fun (w7:Bool)=>fk w7 (some ((0:Int),(5:Int))) (nx4 (x6.1,(wr (v4.2+(1:Int)))))) (fun k7=>fk (!decide (x6.2=(0:Int))) (k7 true) (k7 (decide (x6.1>(240:Int)))))) (some (v4.1,(0:Int)))) FU ((1:Int),(0:Int)))) FU (0:Int))
theorem synth_Frame_w (a0:List Face) (r:Int×Int) (h:synth_Frame a0=some r):Go.VC.Spec Tryz.prog 151 [.d (.sl (a0.map Face.enc))] (fun y=>y=E_Int_Int r):=by
  refine Go.VC.Spec.of_xc (args:=[.d (.sl (a0.map Face.enc))]) (fn:=Tryz.f151) tab ⟨[(0,[0]),(1,[0,13]),(2,[2,3]),(3,[0,14,15,16]),(4,[0,14,15,16,17]),(5,[0,5,14,15,16]),(6,[0,14,15,16,22]),(7,[2,3]),(8,[0,14,15,16]),(9,[0,6]),(10,[6,24,25,26]),(11,[6,24,25,26,27]),(12,[6,8,24,25,26]),(13,[9,10,24,25,26]),(14,[9,24,25,26,42]),(15,[2,3]),(16,[6,24,25,26]),(17,[6,24,25,26]),(18,[2,3])],[],[100042],[]⟩ 46 [.tmp 2,.tmp 3] rfl rfl rfl rfl rfl rfl ?_
  conv=>whnf
  refine lenS a0 Face.enc rfl ?_
  conv=>whnf
  refine fkS h (fun h=>?_) (fun h=>?_)
  · conv=>whnf
    exact rt (E:=E_Int_Int) h rfl
  conv=>whnf
  refine lenS a0 Face.enc rfl ?_
  conv=>whnf
  refine lpS (fun v1=>⟨[(0,.l (.d (.sl (a0.map Face.enc)))),(14,.l (.d (.sl (a0.map Face.enc)))),(15,.l (.d (.int .i64 (a0.length:Int)))),(16,.l (.d (.int .i64 v1)))],46,[],[],[]⟩) h (Weak.refl _) (fun _ nx1 hn1 v1 h=>?_)
  conv=>whnf
  refine fkS h (fun h=>?_) (fun h=>?_)
  · conv=>whnf
    refine ixS (enc:=Face.enc) h rfl (fun _=>rfl) (fun x2 h=>?_)
    conv=>whnf
    refine caS (E:=E_Bool) h (supply_Right_w x2) rfl (fun _=>rfl) (fun x3 h=>?_)
    conv=>whnf
    refine fkS h (fun h=>?_) (fun h=>?_)
    · conv=>whnf
      exact rt (E:=E_Int_Int) h rfl
    conv=>whnf
    exact leS hn1 h (Weak.refl _)
  conv=>whnf
  refine lenS a0 Face.enc rfl ?_
  conv=>whnf
  refine lpS (fun v4=>⟨[(6,.l (.d (.int .i64 v4.1))),(24,.l (.d (.sl (a0.map Face.enc)))),(25,.l (.d (.int .i64 (a0.length:Int)))),(26,.l (.d (.int .i64 v4.2)))],46,[],[],[]⟩) h (Weak.refl _) (fun _ nx4 hn4 v4 h=>?_)
  conv=>whnf
  refine fkS h (fun h=>?_) (fun h=>?_)
  · conv=>whnf
    refine ixS (enc:=Face.enc) h rfl (fun _=>rfl) (fun x5 h=>?_)
    conv=>whnf
    refine caS (E:=E_Int_Int) h (arith_Lcm_w v4.1 x5.P) rfl (fun _=>rfl) (fun x6 h=>?_)
    conv=>whnf
    refine jnS (fun w7=>⟨[(9,.l (.d (.int .i64 x6.1))),(24,.l (.d (.sl (a0.map Face.enc)))),(25,.l (.d (.int .i64 (a0.length:Int)))),(26,.l (.d (.int .i64 v4.2))),(42,.l (.d (.bool w7)))],46,[],[],[]⟩) h (fun k7 hk7 h=>?_) (fun w7 h=>?_)
    · conv=>whnf
      refine fkS h (fun h=>?_) (fun h=>?_)
      · conv=>whnf
        exact jeS hk7 h (Weak.refl _)
      conv=>whnf
      exact jeS hk7 h (Weak.refl _)
    conv=>whnf
    refine fkS h (fun h=>?_) (fun h=>?_)
    · conv=>whnf
      exact rt (E:=E_Int_Int) h rfl
    conv=>whnf
    exact leS hn4 h (Weak.refl _)
  conv=>whnf
  exact rt (E:=E_Int_Int) h rfl

end Go.Proofs.YtldlcdnhdedoeaaGreat
namespace Go.Proofs.YtldlcdnhdedoeaaGreat
open Go Go.VC
noncomputable def synth_Lay (a0:List Face):Option ((List Int)×Int):=
  bnd (synth_Frame a0) fun x1=>fk (!decide (x1.2=(0:Int))) (some ([],x1.2)) (ck (decide ((0:Int)≤(a0.length:Int)) && decide ((a0.length:Int)*((8:Nat):Int)≤140737488355328) && decide ((a0.length:Int)≤1000000000000)) (lp (fun nx2 (v2:(List Int)×(List Int)×Int)=>fk (decide (v2.2.2<x1.1)) (lp (fun nx3 (v3:(List Int)×Int)=>fk (decide (v3.2<(a0.length:Int))) (jn (fun (w4:List Int)=>nx3 (w4,(wr (v3.2+(1:Int))))) (fun k4=>ix a0 v3.2 fun x5=>ck (decide (x5.P≠0)) (fk (!decide ((v2.2.2.tmod x5.P)=(0:Int))) (k4 v3.1) (ck (decide (0≤v3.2) && decide (v3.2<(v3.1.length:Int))) (ox v3.1 v3.2.toNat fun x6=>fk (decide (x6>(0:Int))) (some ([],(7:Int))) (ck (decide (0≤v3.2) && decide (v3.2<(v3.1.length:Int))) (ox v3.1 v3.2.toNat fun x7=>k4 (v3.1.set v3.2.toNat x5.B)))))))) (lp (fun nx8 (v8:Int×Int×Int)=>fk (decide (v8.2.2<(a0.length:Int))) (jn (fun (w9:Int×Int)=>nx8 (w9.1,w9.2,(wr (v8.2.2+(1:Int))))) (fun k9=>ix a0 v8.2.2 fun x10=>ck (decide (x10.P≠0)) (jn (fun (w11:Bool)=>fk w11 (k9 (v8.2.2,(wr ((wr (v2.2.2-(v2.2.2.tmod x10.P)))+x10.P)))) (k9 (v8.1,v8.2.1))) (fun k11=>ck (decide (0≤v8.2.2) && decide (v8.2.2<(v3.1.length:Int))) (ox v3.1 v8.2.2.toNat fun x12=>fk (decide (x12>(0:Int))) (fk (decide (v8.1=(-1:Int))) (k11 true) (k11 (decide ((wr ((wr (v2.2.2-(v2.2.2.tmod x10.P)))+x10.P))<v8.2.1)))) (k11 false)))))) (fk (!decide (v8.1=(-1:Int))) (ck (decide (0≤v8.1) && decide (v8.1<(v3.1.length:Int))) (ox v3.1 v8.1.toNat fun x13=>ck (decide (0≤v8.1) && decide (v8.1<(v3.1.length:Int))) (ox v3.1 v8.1.toNat fun x14=>ck (decide ((v2.1.length+([v8.1]:List Int).length)*8≤140737488355328)) (nx2 (v2.1++([v8.1]:List Int),v3.1.set v8.1.toNat (wr (x13-(1:Int))),(wr (v2.2.2+(1:Int)))))))) (ck (decide ((v2.1.length+([v8.1]:List Int).length)*8≤140737488355328)) (nx2 (v2.1++([v8.1]:List Int),v3.1,(wr (v2.2.2+(1:Int)))))))) FU ((-1:Int),(0:Int),(0:Int)))) FU (v2.2.1,(0:Int))) (lp (fun nx15 (v15:(List Int)×Int)=>fk (decide (v15.2<(a0.length:Int))) (jn (fun (w16:List Int)=>nx15 (w16,(wr (v15.2+(1:Int))))) (fun k16=>ix a0 v15.2 fun x17=>ck (decide (x17.P≠0)) (fk (!decide ((x1.1.tmod x17.P)=(0:Int))) (k16 v15.1) (ck (decide (0≤v15.2) && decide (v15.2<(v15.1.length:Int))) (ox v15.1 v15.2.toNat fun x18=>fk (decide (x18>(0:Int))) (some ([],(7:Int))) (ck (decide (0≤v15.2) && decide (v15.2<(v15.1.length:Int))) (ox v15.1 v15.2.toNat fun x19=>k16 (v15.1.set v15.2.toNat x17.B)))))))) (some (v2.1,(0:Int)))) FU (v2.2.1,(0:Int)))) FU ([],List.replicate (a0.length:Int).toNat ((0:Int):Int),(0:Int))))
theorem synth_Lay_w (a0:List Face) (r:(List Int)×Int) (h:synth_Lay a0=some r):Go.VC.Spec Tryz.prog 113 [.d (.sl (a0.map Face.enc))] (fun y=>y=E_ListInt_Int r):=by
  refine Go.VC.Spec.of_xc (args:=[.d (.sl (a0.map Face.enc))]) (fn:=Tryz.f113) tab ⟨[(0,[0]),(1,[0,4,5]),(2,[0,4,5,17]),(3,[2,3]),(4,[4,6]),(5,[4,7,8]),(6,[4,7,8,9]),(7,[4,7,8,9,29,30]),(8,[4,7,8,9,29,30,31]),(9,[4,7,8,9,10,29,30]),(10,[4,7,8,9,10,29,30,36]),(11,[2,3]),(12,[4,7,8,9,29,30]),(13,[4,7,8,9,29,30]),(14,[9,47]),(15,[2,3]),(16,[2,3])],[],[],[]⟩ 49 [.tmp 2,.tmp 3] rfl rfl rfl rfl rfl rfl ?_
  conv=>whnf
  refine caS (E:=E_Int_Int) h (synth_Frame_w a0) rfl (fun _=>rfl) (fun x1 h=>?_)
  conv=>whnf
  refine fkS h (fun h=>?_) (fun h=>?_)
  · conv=>whnf
    exact rt (E:=E_ListInt_Int) h rfl
  conv=>whnf
  refine lenS a0 Face.enc rfl ?_
  conv=>whnf
  refine mkS ((0:Int):Int) (eI .i64) h rfl rfl (fun h=>?_)
  conv=>whnf
  refine lpS (fun v2=>⟨[(4,.l (.d (.int .i64 x1.1))),(7,.l (.mfn 152 25)),(8,.l (.mfn 153 25)),(9,.l (.own 10)),(29,.l (.d (.int .i64 x1.1))),(30,.l (.d (.int .i64 v2.2.2)))],49,[],[(25,[.d (.sl (a0.map Face.enc)),.own 23])],[(10,3,1,v2.1.map (eI .i64)),(23,3,1,v2.2.1.map (eI .i64))]⟩) h (Weak.trans (Weak.nilO _ 9 10 3 1 rfl) (Weak.refl _)) (fun _ nx2 hn2 v2 h=>?_)
  conv=>whnf
  refine fkS h (fun h=>?_) (fun h=>?_)
  · conv=>whnf
    refine inS (fn:=Tryz.f152) tab ⟨[(0,[0,1]),(1,[0,1,10,11,12]),(2,[0,1,10,11,12,13]),(3,[0,1,5,6,10,11,12]),(4,[0,1,5,6,10,11,12,21]),(5,[0,1,5,6,10,11,12,29]),(6,[4]),(7,[0,1,10,11,12]),(8,[0,1,10,11,12]),(9,[4])],[],[8],[]⟩ 39 [.tmp 4] rfl rfl rfl rfl rfl rfl ?_
    conv=>whnf
    refine lenS a0 Face.enc rfl ?_
    conv=>whnf
    refine lpS (fun v3=>⟨[(0,.l (.ptr 25 0)),(1,.l (.d (.int .i64 v2.2.2))),(10,.l (.d (.sl (a0.map Face.enc)))),(11,.l (.d (.int .i64 (a0.length:Int)))),(12,.l (.d (.int .i64 v3.2)))],39,[⟨[(34,.l (.d (.int .i64 v2.2.2))),(33,.l (.mfn 152 25)),(4,.l (.d (.int .i64 x1.1))),(7,.l (.mfn 152 25)),(8,.l (.mfn 153 25)),(9,.l (.own 10)),(10,.l (.d (.int .i64 v2.2.2))),(29,.l (.d (.int .i64 x1.1))),(30,.l (.d (.int .i64 v2.2.2)))],49⟩],[(25,[.d (.sl (a0.map Face.enc)),.own 23])],[(10,3,1,v2.1.map (eI .i64)),(23,3,1,v3.1.map (eI .i64))]⟩) h (Weak.refl _) (fun _ nx3 hn3 v3 h=>?_)
    conv=>whnf
    refine fkS h (fun h=>?_) (fun h=>?_)
    · conv=>whnf
      refine jnS (fun w4=>⟨[(0,.l (.ptr 25 0)),(1,.l (.d (.int .i64 v2.2.2))),(10,.l (.d (.sl (a0.map Face.enc)))),(11,.l (.d (.int .i64 (a0.length:Int)))),(12,.l (.d (.int .i64 v3.2)))],39,[⟨[(34,.l (.d (.int .i64 v2.2.2))),(33,.l (.mfn 152 25)),(4,.l (.d (.int .i64 x1.1))),(7,.l (.mfn 152 25)),(8,.l (.mfn 153 25)),(9,.l (.own 10)),(10,.l (.d (.int .i64 v2.2.2))),(29,.l (.d (.int .i64 x1.1))),(30,.l (.d (.int .i64 v2.2.2)))],49⟩],[(25,[.d (.sl (a0.map Face.enc)),.own 23])],[(10,3,1,v2.1.map (eI .i64)),(23,3,1,w4.map (eI .i64))]⟩) h (fun k4 hk4 h=>?_) (fun w4 h=>?_)
      · conv=>whnf
        refine ixS (enc:=Face.enc) h rfl (fun _=>rfl) (fun x5 h=>?_)
        conv=>whnf
        refine dvS h (fun h=>?_)
        conv=>whnf
        refine fkS h (fun h=>?_) (fun h=>?_)
        · conv=>whnf
          refine jeX hk4 h ?_
          conv=>whnf
          refine WkF.step (Weak.keepS _ [0,1,10,11,12]) ?_
          conv=>whnf
          exact WkF.refl _
        conv=>whnf
        refine ioS (enc:=(eI .i64)) h rfl (fun h=>?_)
        conv=>whnf
        refine oxS (enc:=(eI .i64)) h rfl (fun x6 h=>?_)
        conv=>whnf
        refine fkS h (fun h=>?_) (fun h=>?_)
        · conv=>whnf
          exact rt (E:=E_ListInt_Int) h rfl
        conv=>whnf
        refine⟨7,?_⟩
        conv=>whnf
        refine drS (by kernel_rfl) ?_
        conv=>whnf
        refine ioS (enc:=(eI .i64)) h rfl (fun h=>?_)
        conv=>whnf
        refine seS (enc:=(eI .i64)) h rfl (fun x7=>x5.B) (fun _=>rfl) (fun x7 h=>?_)
        conv=>whnf
        exact jeS hk4 h (Weak.refl _)
      conv=>whnf
      exact leS hn3 h (Weak.refl _)
    conv=>whnf
    refine inS (fn:=Tryz.f153) tab ⟨[(0,[0,1]),(1,[0,1,5,6]),(2,[0,1,5,6,13,14,15]),(3,[0,1,5,6,13,14,15,16]),(4,[0,1,5,6,7,8,13,14,15]),(5,[0,1,5,6,7,9,13,14,15]),(6,[0,1,5,6,7,9,13,14,15,45]),(7,[0,1,5,6,13,14,15]),(8,[0,1,5,6,13,14,15]),(9,[0,5,50]),(10,[5]),(11,[4])],[],[100045,8],[]⟩ 61 [.tmp 4] rfl rfl rfl rfl rfl rfl ?_
    conv=>whnf
    refine lenS a0 Face.enc rfl ?_
    conv=>whnf
    refine lpS (fun v8=>⟨[(0,.l (.ptr 25 0)),(1,.l (.d (.int .i64 v2.2.2))),(5,.l (.d (.int .i64 v8.1))),(6,.l (.d (.int .i64 v8.2.1))),(13,.l (.d (.sl (a0.map Face.enc)))),(14,.l (.d (.int .i64 (a0.length:Int)))),(15,.l (.d (.int .i64 v8.2.2)))],61,[⟨[(39,.l (.d (.int .i64 v2.2.2))),(38,.l (.mfn 153 25)),(37,.l (.own 10)),(36,.l (.d (.bool false))),(4,.l (.d (.int .i64 x1.1))),(7,.l (.mfn 152 25)),(8,.l (.mfn 153 25)),(9,.l (.own 10)),(10,.l (.d (.int .i64 v2.2.2))),(29,.l (.d (.int .i64 x1.1))),(30,.l (.d (.int .i64 v2.2.2))),(36,.l (.d (.bool false)))],49⟩],[(25,[.d (.sl (a0.map Face.enc)),.own 23])],[(10,3,1,v2.1.map (eI .i64)),(23,3,1,v3.1.map (eI .i64))]⟩) h (Weak.refl _) (fun _ nx8 hn8 v8 h=>?_)
    conv=>whnf
    refine fkS h (fun h=>?_) (fun h=>?_)
    · conv=>whnf
      refine jnS (fun w9=>⟨[(0,.l (.ptr 25 0)),(1,.l (.d (.int .i64 v2.2.2))),(5,.l (.d (.int .i64 w9.1))),(6,.l (.d (.int .i64 w9.2))),(13,.l (.d (.sl (a0.map Face.enc)))),(14,.l (.d (.int .i64 (a0.length:Int)))),(15,.l (.d (.int .i64 v8.2.2)))],61,[⟨[(39,.l (.d (.int .i64 v2.2.2))),(38,.l (.mfn 153 25)),(37,.l (.own 10)),(36,.l (.d (.bool false))),(4,.l (.d (.int .i64 x1.1))),(7,.l (.mfn 152 25)),(8,.l (.mfn 153 25)),(9,.l (.own 10)),(10,.l (.d (.int .i64 v2.2.2))),(29,.l (.d (.int .i64 x1.1))),(30,.l (.d (.int .i64 v2.2.2))),(36,.l (.d (.bool false)))],49⟩],[(25,[.d (.sl (a0.map Face.enc)),.own 23])],[(10,3,1,v2.1.map (eI .i64)),(23,3,1,v3.1.map (eI .i64))]⟩) h (fun k9 hk9 h=>?_) (fun w9 h=>?_)
      · conv=>whnf
        refine ixS (enc:=Face.enc) h rfl (fun _=>rfl) (fun x10 h=>?_)
        conv=>whnf
        refine⟨8,?_⟩
        conv=>whnf
        refine dvS h (fun h=>?_)
        conv=>whnf
        refine drS (by kernel_rfl) ?_
        conv=>whnf
        refine jnS (fun w11=>⟨[(0,.l (.ptr 25 0)),(1,.l (.d (.int .i64 v2.2.2))),(5,.l (.d (.int .i64 v8.1))),(6,.l (.d (.int .i64 v8.2.1))),(7,.l (.d (.int .i64 v8.2.2))),(9,.l (.d (.int .i64 (wr ((wr (v2.2.2-(v2.2.2.tmod x10.P)))+x10.P))))),(13,.l (.d (.sl (a0.map Face.enc)))),(14,.l (.d (.int .i64 (a0.length:Int)))),(15,.l (.d (.int .i64 v8.2.2))),(45,.l (.d (.bool w11)))],61,[⟨[(39,.l (.d (.int .i64 v2.2.2))),(38,.l (.mfn 153 25)),(37,.l (.own 10)),(36,.l (.d (.bool false))),(4,.l (.d (.int .i64 x1.1))),(7,.l (.mfn 152 25)),(8,.l (.mfn 153 25)),(9,.l (.own 10)),(10,.l (.d (.int .i64 v2.2.2))),(29,.l (.d (.int .i64 x1.1))),(30,.l (.d (.int .i64 v2.2.2))),(36,.l (.d (.bool false)))],49⟩],[(25,[.d (.sl (a0.map Face.enc)),.own 23])],[(10,3,1,v2.1.map (eI .i64)),(23,3,1,v3.1.map (eI .i64))]⟩) h (fun k11 hk11 h=>?_) (fun w11 h=>?_)
        · conv=>whnf
          refine ioS (enc:=(eI .i64)) h rfl (fun h=>?_)
          conv=>whnf
          refine oxS (enc:=(eI .i64)) h rfl (fun x12 h=>?_)
          conv=>whnf
          refine fkS h (fun h=>?_) (fun h=>?_)
          · conv=>whnf
            refine fkS h (fun h=>?_) (fun h=>?_)
            · conv=>whnf
              exact jeS hk11 h (Weak.refl _)
            conv=>whnf
            exact jeS hk11 h (Weak.refl _)
          conv=>whnf
          exact jeS hk11 h (Weak.refl _)
        conv=>whnf
        refine fkS h (fun h=>?_) (fun h=>?_)
        · conv=>whnf
          exact jeS hk9 h (Weak.refl _)
        conv=>whnf
        refine jeX hk9 h ?_
        conv=>whnf
        refine WkF.step (Weak.keepS _ [0,1,5,6,13,14,15]) ?_
        conv=>whnf
        exact WkF.refl _
      conv=>whnf
      exact leS hn8 h (Weak.refl _)
    conv=>whnf
    refine fkS h (fun h=>?_) (fun h=>?_)
    · conv=>whnf
      refine ioS (enc:=(eI .i64)) h rfl (fun h=>?_)
      conv=>whnf
      refine oxS (enc:=(eI .i64)) h rfl (fun x13 h=>?_)
      conv=>whnf
      refine ioS (enc:=(eI .i64)) h rfl (fun h=>?_)
      conv=>whnf
      refine seS (enc:=(eI .i64)) h rfl (fun x14=>(wr (x13-(1:Int)))) (fun _=>rfl) (fun x14 h=>?_)
      conv=>whnf
      refine liS ([v8.1]:List Int) (eI .i64) rfl rfl ?_
      conv=>whnf
      refine apS (enc:=(eI .i64)) (l1:=v2.1) (l2:=([v8.1]:List Int)) h rfl rfl (fun _=>rfl) (fun h=>?_)
      conv=>whnf
      exact leS hn2 h (Weak.refl _)
    conv=>whnf
    refine liS ([v8.1]:List Int) (eI .i64) rfl rfl ?_
    conv=>whnf
    refine apS (enc:=(eI .i64)) (l1:=v2.1) (l2:=([v8.1]:List Int)) h rfl rfl (fun _=>rfl) (fun h=>?_)
    conv=>whnf
    exact leS hn2 h (Weak.refl _)
  conv=>whnf
  refine inS (fn:=Tryz.f152) tab ⟨[(0,[0,1]),(1,[0,1,10,11,12]),(2,[0,1,10,11,12,13]),(3,[0,1,5,6,10,11,12]),(4,[0,1,5,6,10,11,12,21]),(5,[0,1,5,6,10,11,12,29]),(6,[4]),(7,[0,1,10,11,12]),(8,[0,1,10,11,12]),(9,[4])],[],[8],[]⟩ 39 [.tmp 4] rfl rfl rfl rfl rfl rfl ?_
  conv=>whnf
  refine lenS a0 Face.enc rfl ?_
  conv=>whnf
  refine lpS (fun v15=>⟨[(0,.l (.ptr 25 0)),(1,.l (.d (.int .i64 x1.1))),(10,.l (.d (.sl (a0.map Face.enc)))),(11,.l (.d (.int .i64 (a0.length:Int)))),(12,.l (.d (.int .i64 v15.2)))],39,[⟨[(45,.l (.d (.int .i64 x1.1))),(44,.l (.mfn 152 25)),(31,.l (.d (.bool false))),(4,.l (.d (.int .i64 x1.1))),(7,.l (.mfn 152 25)),(8,.l (.mfn 153 25)),(9,.l (.own 10)),(29,.l (.d (.int .i64 x1.1))),(30,.l (.d (.int .i64 v2.2.2))),(31,.l (.d (.bool (decide (v2.2.2<x1.1)))))],49⟩],[(25,[.d (.sl (a0.map Face.enc)),.own 23])],[(10,3,1,v2.1.map (eI .i64)),(23,3,1,v15.1.map (eI .i64))]⟩) h (Weak.refl _) (fun _ nx15 hn15 v15 h=>?_)
  conv=>whnf
  refine fkS h (fun h=>?_) (fun h=>?_)
  · conv=>whnf
    refine jnS (fun w16=>⟨[(0,.l (.ptr 25 0)),(1,.l (.d (.int .i64 x1.1))),(10,.l (.d (.sl (a0.map Face.enc)))),(11,.l (.d (.int .i64 (a0.length:Int)))),(12,.l (.d (.int .i64 v15.2)))],39,[⟨[(45,.l (.d (.int .i64 x1.1))),(44,.l (.mfn 152 25)),(31,.l (.d (.bool false))),(4,.l (.d (.int .i64 x1.1))),(7,.l (.mfn 152 25)),(8,.l (.mfn 153 25)),(9,.l (.own 10)),(29,.l (.d (.int .i64 x1.1))),(30,.l (.d (.int .i64 v2.2.2))),(31,.l (.d (.bool (decide (v2.2.2<x1.1)))))],49⟩],[(25,[.d (.sl (a0.map Face.enc)),.own 23])],[(10,3,1,v2.1.map (eI .i64)),(23,3,1,w16.map (eI .i64))]⟩) h (fun k16 hk16 h=>?_) (fun w16 h=>?_)
    · conv=>whnf
      refine ixS (enc:=Face.enc) h rfl (fun _=>rfl) (fun x17 h=>?_)
      conv=>whnf
      refine dvS h (fun h=>?_)
      conv=>whnf
      refine fkS h (fun h=>?_) (fun h=>?_)
      · conv=>whnf
        refine jeX hk16 h ?_
        conv=>whnf
        refine WkF.step (Weak.keepS _ [0,1,10,11,12]) ?_
        conv=>whnf
        exact WkF.refl _
      conv=>whnf
      refine ioS (enc:=(eI .i64)) h rfl (fun h=>?_)
      conv=>whnf
      refine oxS (enc:=(eI .i64)) h rfl (fun x18 h=>?_)
      conv=>whnf
      refine fkS h (fun h=>?_) (fun h=>?_)
      · conv=>whnf
        exact rt (E:=E_ListInt_Int) h rfl
      conv=>whnf
      refine⟨7,?_⟩
      conv=>whnf
      refine drS (by kernel_rfl) ?_
      conv=>whnf
      refine ioS (enc:=(eI .i64)) h rfl (fun h=>?_)
      conv=>whnf
      refine seS (enc:=(eI .i64)) h rfl (fun x19=>x17.B) (fun _=>rfl) (fun x19 h=>?_)
      conv=>whnf
      exact jeS hk16 h (Weak.refl _)
    conv=>whnf
    exact leS hn15 h (Weak.refl _)
  conv=>whnf
  exact rt (E:=E_ListInt_Int) h rfl

end Go.Proofs.YtldlcdnhdedoeaaGreat
namespace Go.Proofs.YtldlcdnhdedoeaaGreat
open Go Go.VC
noncomputable def table_Of (a0:List Int):Option (TableTable×Int):=
  jn (fun (w1:Bool)=>fk w1 (some (⟨(0:Int),[]⟩,(1:Int))) (lp (fun nx2 (v2:Int×(List Window)×Int)=>fk (decide (v2.2.2<(a0.length:Int))) (ix a0 v2.2.2 fun x3=>jn (fun (w4:Bool)=>fk w4 (some (⟨(0:Int),[]⟩,(1:Int))) (jn (fun (w5:List Window)=>nx2 (x3,w5,(wr (v2.2.2+(1:Int))))) (fun k5=>jn (fun (w6:Bool)=>fk w6 (ck (decide (0≤(wr ((v2.2.1.length:Int)-(1:Int)))) && decide ((wr ((v2.2.1.length:Int)-(1:Int)))<(v2.2.1.length:Int))) (ox v2.2.1 ((wr ((v2.2.1.length:Int)-(1:Int))).toNat) fun x7=>ck (decide (0≤(wr ((v2.2.1.length:Int)-(1:Int)))) && decide ((wr ((v2.2.1.length:Int)-(1:Int)))<(v2.2.1.length:Int))) (ox v2.2.1 ((wr ((v2.2.1.length:Int)-(1:Int))).toNat) fun x8=>k5 (v2.2.1.set ((wr ((v2.2.1.length:Int)-(1:Int))).toNat) ⟨x8.Part,x8.From,(wr (x7.Len+(1:Int)))⟩)))) (fk (!decide (x3=(-1:Int))) (ck (decide ((v2.2.1.length+([⟨x3,v2.2.2,(1:Int)⟩]:List Window).length)*24≤140737488355328)) (k5 (v2.2.1++([⟨x3,v2.2.2,(1:Int)⟩]:List Window)))) (k5 v2.2.1))) (fun k6=>fk (decide (x3=v2.1)) (k6 (!decide (x3=(-1:Int)))) (k6 false))))) (fun k4=>fk (decide (x3<(-1:Int))) (k4 true) (k4 (decide (x3≥(4:Int)))))) (some (⟨(a0.length:Int),v2.2.1⟩,(0:Int)))) FU ((-1:Int),[],(0:Int)))) (fun k1=>fk (decide ((a0.length:Int)=(0:Int))) (k1 true) (k1 (decide ((a0.length:Int)>(240:Int)))))
theorem table_Of_w (a0:List Int) (r:TableTable×Int) (h:table_Of a0=some r):Go.VC.Spec Tryz.prog 114 [.d (.sl (a0.map (eI .i64)))] (fun y=>y=E_TableTable_Int r):=by
  refine Go.VC.Spec.of_xc (args:=[.d (.sl (a0.map (eI .i64)))]) (fn:=Tryz.f114) tab ⟨[(0,[0,2]),(1,[0,2,16]),(2,[2,3]),(3,[0,2,4]),(4,[0,2,4,5]),(5,[0,2,4,6]),(6,[2,4,6,22,23,24]),(7,[2,4,6,22,23,24,25]),(8,[2,4,6,7,8,22,23,24]),(9,[2,4,6,7,8,22,23,24,34]),(10,[2,3]),(11,[2,4,6,22,23,24]),(12,[2,4,6,22,23,24]),(13,[2,3])],[],[100016,100034],[]⟩ 42 [.cell 2 30,.tmp 3] rfl rfl rfl rfl rfl rfl ?_
  conv=>whnf
  refine jnS (fun w1=>⟨[(0,.l (.d (.sl (a0.map (eI .i64))))),(2,.l (.ptr 3 0)),(16,.l (.d (.bool w1)))],42,[],[(3,[.d (.int .i64 (0:Int)),.nil])],[]⟩) h (fun k1 hk1 h=>?_) (fun w1 h=>?_)
  · conv=>whnf
    refine lenS a0 (eI .i64) rfl ?_
    conv=>whnf
    refine fkS h (fun h=>?_) (fun h=>?_)
    · conv=>whnf
      exact jeS hk1 h (Weak.refl _)
    conv=>whnf
    refine lenS a0 (eI .i64) rfl ?_
    conv=>whnf
    exact jeS hk1 h (Weak.refl _)
  conv=>whnf
  refine fkS h (fun h=>?_) (fun h=>?_)
  · conv=>whnf
    exact rt (E:=E_TableTable_Int) h rfl
  conv=>whnf
  refine lenS a0 (eI .i64) rfl ?_
  conv=>whnf
  refine lenS a0 (eI .i64) rfl ?_
  conv=>whnf
  refine lpS (fun v2=>⟨[(2,.l (.ptr 3 0)),(4,.l (.ptr 5 0)),(6,.l (.func 154 [.k 6,.k 5])),(22,.l (.d (.sl (a0.map (eI .i64))))),(23,.l (.d (.int .i64 (a0.length:Int)))),(24,.l (.d (.int .i64 v2.2.2)))],42,[],[(3,[.d (.int .i64 (0:Int)),.nil]),(5,[.d (.int .i64 (a0.length:Int)),.own 50501]),(6,[.d (.int .i64 v2.1)])],[(50501,179,3,v2.2.1.map Window.enc)]⟩) h (Weak.trans (Weak.nilBO _ 5 1 50501 179 3 _ rfl rfl) (Weak.refl _)) (fun _ nx2 hn2 v2 h=>?_)
  conv=>whnf
  refine fkS h (fun h=>?_) (fun h=>?_)
  · conv=>whnf
    refine ixS (enc:=(eI .i64)) h rfl (fun _=>rfl) (fun x3 h=>?_)
    conv=>whnf
    refine jnS (fun w4=>⟨[(2,.l (.ptr 3 0)),(4,.l (.ptr 5 0)),(6,.l (.func 154 [.k 6,.k 5])),(7,.l (.d (.int .i64 v2.2.2))),(8,.l (.d (.int .i64 x3))),(22,.l (.d (.sl (a0.map (eI .i64))))),(23,.l (.d (.int .i64 (a0.length:Int)))),(24,.l (.d (.int .i64 v2.2.2))),(34,.l (.d (.bool w4)))],42,[],[(3,[.d (.int .i64 (0:Int)),.nil]),(5,[.d (.int .i64 (a0.length:Int)),.own 50501]),(6,[.d (.int .i64 v2.1)])],[(50501,179,3,v2.2.1.map Window.enc)]⟩) h (fun k4 hk4 h=>?_) (fun w4 h=>?_)
    · conv=>whnf
      refine fkS h (fun h=>?_) (fun h=>?_)
      · conv=>whnf
        exact jeS hk4 h (Weak.refl _)
      conv=>whnf
      exact jeS hk4 h (Weak.refl _)
    conv=>whnf
    refine fkS h (fun h=>?_) (fun h=>?_)
    · conv=>whnf
      exact rt (E:=E_TableTable_Int) h rfl
    conv=>whnf
    refine inS (fn:=Tryz.f154) tab ⟨[(0,[0,1,2,3,12]),(1,[1,2]),(2,[0,1,2,3,26]),(3,[1,2]),(4,[])],[],[100012,4],[]⟩ 36 [] rfl rfl rfl rfl rfl rfl ?_
    conv=>whnf
    refine jnS (fun w5=>⟨[(1,.l (.d (.int .i64 x3))),(2,.l (.ptr 6 0))],36,[⟨[(38,.l (.d (.int .i64 x3))),(37,.l (.d (.int .i64 v2.2.2))),(36,.l (.func 154 [.k 6,.k 5])),(34,.l (.d (.bool false))),(2,.l (.ptr 3 0)),(4,.l (.ptr 5 0)),(6,.l (.func 154 [.k 6,.k 5])),(7,.l (.d (.int .i64 v2.2.2))),(8,.l (.d (.int .i64 x3))),(22,.l (.d (.sl (a0.map (eI .i64))))),(23,.l (.d (.int .i64 (a0.length:Int)))),(24,.l (.d (.int .i64 v2.2.2))),(34,.l (.d (.bool w4)))],42⟩],[(3,[.d (.int .i64 (0:Int)),.nil]),(5,[.d (.int .i64 (a0.length:Int)),.own 50501]),(6,[.d (.int .i64 v2.1)])],[(50501,179,3,w5.map Window.enc)]⟩) h (fun k5 hk5 h=>?_) (fun w5 h=>?_)
    · conv=>whnf
      refine jnS (fun w6=>⟨[(0,.l (.d (.int .i64 v2.2.2))),(1,.l (.d (.int .i64 x3))),(2,.l (.ptr 6 0)),(3,.l (.ptr 5 0)),(12,.l (.d (.bool w6)))],36,[⟨[(38,.l (.d (.int .i64 x3))),(37,.l (.d (.int .i64 v2.2.2))),(36,.l (.func 154 [.k 6,.k 5])),(34,.l (.d (.bool false))),(2,.l (.ptr 3 0)),(4,.l (.ptr 5 0)),(6,.l (.func 154 [.k 6,.k 5])),(7,.l (.d (.int .i64 v2.2.2))),(8,.l (.d (.int .i64 x3))),(22,.l (.d (.sl (a0.map (eI .i64))))),(23,.l (.d (.int .i64 (a0.length:Int)))),(24,.l (.d (.int .i64 v2.2.2))),(34,.l (.d (.bool w4)))],42⟩],[(3,[.d (.int .i64 (0:Int)),.nil]),(5,[.d (.int .i64 (a0.length:Int)),.own 50501]),(6,[.d (.int .i64 v2.1)])],[(50501,179,3,v2.2.1.map Window.enc)]⟩) h (fun k6 hk6 h=>?_) (fun w6 h=>?_)
      · conv=>whnf
        refine fkS h (fun h=>?_) (fun h=>?_)
        · conv=>whnf
          exact jeS hk6 h (Weak.refl _)
        conv=>whnf
        exact jeS hk6 h (Weak.refl _)
      conv=>whnf
      refine fkS h (fun h=>?_) (fun h=>?_)
      · conv=>whnf
        refine lenS v2.2.1 Window.enc rfl ?_
        conv=>whnf
        refine ioS (enc:=Window.enc) h rfl (fun h=>?_)
        conv=>whnf
        refine oxS (enc:=Window.enc) h rfl (fun x7 h=>?_)
        conv=>whnf
        refine ioS (enc:=Window.enc) h rfl (fun h=>?_)
        conv=>whnf
        refine seS (enc:=Window.enc) h rfl (fun x8=>⟨x8.Part,x8.From,(wr (x7.Len+(1:Int)))⟩) (fun _=>rfl) (fun x8 h=>?_)
        conv=>whnf
        exact jeS hk5 h (Weak.refl _)
      conv=>whnf
      refine fkS h (fun h=>?_) (fun h=>?_)
      · conv=>whnf
        refine liS ([⟨x3,v2.2.2,(1:Int)⟩]:List Window) Window.enc rfl rfl ?_
        conv=>whnf
        refine apS (enc:=Window.enc) (l1:=v2.2.1) (l2:=([⟨x3,v2.2.2,(1:Int)⟩]:List Window)) h rfl rfl (fun _=>rfl) (fun h=>?_)
        conv=>whnf
        refine jeX hk5 h ?_
        conv=>whnf
        refine WkF.step (Weak.rekey _ 1034 50501 rfl) ?_
        conv=>whnf
        exact WkF.refl _
      conv=>whnf
      refine jeX hk5 h ?_
      conv=>whnf
      refine WkF.step (Weak.keepS _ [1,2]) ?_
      conv=>whnf
      exact WkF.refl _
    conv=>whnf
    exact leS hn2 h (Weak.refl _)
  conv=>whnf
  exact rt (E:=E_TableTable_Int) h rfl

end Go.Proofs.YtldlcdnhdedoeaaGreat
namespace Go.Proofs.YtldlcdnhdedoeaaGreat
open Go Go.VC
noncomputable def table_Make (a0:List Face):Option (TableTable×Int):=
  bnd (synth_Lay a0) fun x1=>fk (!decide (x1.2=(0:Int))) (some (⟨(0:Int),[]⟩,x1.2)) (bnd (table_Of x1.1) fun x2=>some (x2.1,x2.2))
theorem table_Make_w (a0:List Face) (r:TableTable×Int) (h:table_Make a0=some r):Go.VC.Spec Tryz.prog 55 [.d (.sl (a0.map Face.enc))] (fun y=>y=E_TableTable_Int r):=by
  refine Go.VC.Spec.of_xc (args:=[.d (.sl (a0.map Face.enc))]) (fn:=Tryz.f55) tab ⟨[(0,[0,2]),(1,[2,4,5]),(2,[2,4,5,12]),(3,[2,3]),(4,[2,3])],[],[],[]⟩ 19 [.cell 2 30,.tmp 3] rfl rfl rfl rfl rfl rfl ?_
  conv=>whnf
  refine ccS (E:=E_ListInt_Int) h (synth_Lay_w a0) rfl rfl (fun x1 h=>?_)
  conv=>whnf
  refine fkS h (fun h=>?_) (fun h=>?_)
  · conv=>whnf
    exact rt (E:=E_TableTable_Int) h rfl
  conv=>whnf
  refine ccS (E:=E_TableTable_Int) h (table_Of_w x1.1) rfl rfl (fun x2 h=>?_)
  conv=>whnf
  exact rt (E:=E_TableTable_Int) h rfl

end Go.Proofs.YtldlcdnhdedoeaaGreat
namespace Go.Proofs.YtldlcdnhdedoeaaGreat
open Go Go.VC
def E_fn_admit_unless:Bool×Int→List CV:=fun r=>[.d (.fn 134 [[.bool r.1],[.int .i64 r.2]])]
noncomputable def admit_unless (a0:Bool) (a1:Int):Option (Bool×Int):=
  some (a0,a1)
theorem admit_unless_w (a0:Bool) (a1:Int) (r:Bool×Int) (h:admit_unless a0 a1=some r):Go.VC.Spec Tryz.prog 83 [.d (.bool a0),.d (.int .i64 a1)] (fun y=>y=E_fn_admit_unless r):=by
  refine Go.VC.Spec.of_xc (args:=[.d (.bool a0),.d (.int .i64 a1)]) (fn:=Tryz.f83) tab ⟨[(0,[2,3]),(1,[4])],[],[],[]⟩ 6 [.tmp 4] rfl rfl rfl rfl rfl rfl ?_
  conv=>whnf
  exact rt (E:=E_fn_admit_unless) h rfl

end Go.Proofs.YtldlcdnhdedoeaaGreat
namespace Go.Proofs.YtldlcdnhdedoeaaGreat
open Go Go.VC
def E_fn_admit_fit:(List Task)×Int×Int→List CV:=fun r=>[.d (.fn 141 [[.sl (r.1.map Task.enc)],[.int .i64 r.2.1,.int .i64 r.2.2]])]
noncomputable def admit_fit (a0:List Task) (a1:Face):Option ((List Task)×Int×Int):=
  some (a0,a1.P,a1.B)
theorem admit_fit_w (a0:List Task) (a1:Face) (r:(List Task)×Int×Int) (h:admit_fit a0 a1=some r):Go.VC.Spec Tryz.prog 87 [.d (.sl (a0.map Task.enc)),.agg (Face.enc a1)] (fun y=>y=E_fn_admit_fit r):=by
  refine Go.VC.Spec.of_xc (args:=[.d (.sl (a0.map Task.enc)),.agg (Face.enc a1)]) (fn:=Tryz.f87) tab ⟨[(0,[2,3]),(1,[4])],[],[],[]⟩ 6 [.tmp 4] rfl rfl rfl rfl rfl rfl ?_
  conv=>whnf
  exact rt (E:=E_fn_admit_fit) h rfl

end Go.Proofs.YtldlcdnhdedoeaaGreat
namespace Go.Proofs.YtldlcdnhdedoeaaGreat
open Go Go.VC
noncomputable def verdict_Cycle (a0:List Task) (a1:Face):Option (Int×Int×Int):=
  jn (fun (w1:Bool)=>fk w1 (some ((0:Int),(0:Int),(1:Int))) (lp (fun nx4 (v4:Int×Int×Int)=>fk (decide (v4.2.2<(a0.length:Int))) (ix a0 v4.2.2 fun x5=>bnd (arith_Lcm v4.1 x5.T) fun x6=>jn (fun (w7:Bool)=>fk w7 (some ((0:Int),(0:Int),(5:Int))) (nx4 (x6.1,(if x5.D>v4.2.1 then x5.D else v4.2.1),(wr (v4.2.2+(1:Int)))))) (fun k7=>fk (!decide (x6.2=(0:Int))) (k7 true) (k7 (decide (x6.1>(3000:Int)))))) (fk (decide ((wr (v4.1+v4.2.1))>(3000:Int))) (some ((0:Int),(0:Int),(5:Int))) (some (v4.1,(wr (v4.1+v4.2.1)),(0:Int))))) FU (a1.P,(wr ((2:Int)*a1.P)),(0:Int)))) (fun k1=>bnd (task_All a0) fun x2=>fk (!x2) (k1 true) (bnd (supply_Right a1) fun x3=>k1 (!x3)))
theorem verdict_Cycle_w (a0:List Task) (a1:Face) (r:Int×Int×Int) (h:verdict_Cycle a0 a1=some r):Go.VC.Spec Tryz.prog 159 [.d (.sl (a0.map Task.enc)),.agg (Face.enc a1)] (fun y=>y=E_Int_Int_Int r):=by
  refine Go.VC.Spec.of_xc (args:=[.d (.sl (a0.map Task.enc)),.agg (Face.enc a1)]) (fn:=Tryz.f159) tab ⟨[(0,[0,3]),(1,[0,3,20]),(2,[4,5,6]),(3,[0,7,8]),(4,[7,8,26,27,28]),(5,[7,8,26,27,28,29]),(6,[7,8,10,26,27,28]),(7,[8,10,11,12,26,27,28]),(8,[8,10,11,26,27,28,44]),(9,[4,5,6]),(10,[7,8,26,27,28]),(11,[7,8,26,27,28]),(12,[7,8,54]),(13,[4,5,6]),(14,[4,5,6])],[],[100020,100044],[]⟩ 59 [.tmp 4,.tmp 5,.tmp 6] rfl rfl rfl rfl rfl rfl ?_
  conv=>whnf
  refine jnS (fun w1=>⟨[(0,.l (.d (.sl (a0.map Task.enc)))),(3,.l (.ptr 4 0)),(20,.l (.d (.bool w1)))],59,[],[(4,[.d (.int .i64 a1.P),.d (.int .i64 a1.B)])],[]⟩) h (fun k1 hk1 h=>?_) (fun w1 h=>?_)
  · conv=>whnf
    refine caS (E:=E_Bool) h (task_All_w a0) rfl (fun _=>rfl) (fun x2 h=>?_)
    conv=>whnf
    refine fkS h (fun h=>?_) (fun h=>?_)
    · conv=>whnf
      exact jeS hk1 h (Weak.refl _)
    conv=>whnf
    refine caS (E:=E_Bool) h (supply_Right_w a1) rfl (fun _=>rfl) (fun x3 h=>?_)
    conv=>whnf
    exact jeS hk1 h (Weak.refl _)
  conv=>whnf
  refine fkS h (fun h=>?_) (fun h=>?_)
  · conv=>whnf
    exact rt (E:=E_Int_Int_Int) h rfl
  conv=>whnf
  refine⟨6,?_⟩
  conv=>whnf
  refine drS (by kernel_rfl) ?_
  conv=>whnf
  refine lenS a0 Task.enc rfl ?_
  conv=>whnf
  refine lpS (fun v4=>⟨[(7,.l (.d (.int .i64 v4.1))),(8,.l (.d (.int .i64 v4.2.1))),(26,.l (.d (.sl (a0.map Task.enc)))),(27,.l (.d (.int .i64 (a0.length:Int)))),(28,.l (.d (.int .i64 v4.2.2)))],59,[],[],[]⟩) h (Weak.refl _) (fun _ nx4 hn4 v4 h=>?_)
  conv=>whnf
  refine fkS h (fun h=>?_) (fun h=>?_)
  · conv=>whnf
    refine ixS (enc:=Task.enc) h rfl (fun _=>rfl) (fun x5 h=>?_)
    conv=>whnf
    refine caS (E:=E_Int_Int) h (arith_Lcm_w v4.1 x5.T) rfl (fun _=>rfl) (fun x6 h=>?_)
    conv=>whnf
    refine jnS (fun w7=>⟨[(8,.l (.d (.int .i64 v4.2.1))),(10,.l (.ptr 11 0)),(11,.l (.d (.int .i64 x6.1))),(26,.l (.d (.sl (a0.map Task.enc)))),(27,.l (.d (.int .i64 (a0.length:Int)))),(28,.l (.d (.int .i64 v4.2.2))),(44,.l (.d (.bool w7)))],59,[],[(11,[.d (.int .i64 x5.C),.d (.int .i64 x5.D),.d (.int .i64 x5.T),.d (.sl (x5.Secs.map Sec.enc))])],[]⟩) h (fun k7 hk7 h=>?_) (fun w7 h=>?_)
    · conv=>whnf
      refine fkS h (fun h=>?_) (fun h=>?_)
      · conv=>whnf
        exact jeS hk7 h (Weak.refl _)
      conv=>whnf
      exact jeS hk7 h (Weak.refl _)
    conv=>whnf
    refine fkS h (fun h=>?_) (fun h=>?_)
    · conv=>whnf
      exact rt (E:=E_Int_Int_Int) h rfl
    conv=>whnf
    refine⟨6,?_⟩
    conv=>whnf
    refine drS (by kernel_rfl) ?_
    conv=>whnf
    exact leS hn4 h (Weak.refl _)
  conv=>whnf
  refine fkS h (fun h=>?_) (fun h=>?_)
  · conv=>whnf
    exact rt (E:=E_Int_Int_Int) h rfl
  conv=>whnf
  exact rt (E:=E_Int_Int_Int) h rfl

end Go.Proofs.YtldlcdnhdedoeaaGreat
namespace Go.Proofs.YtldlcdnhdedoeaaGreat
open Go Go.VC
noncomputable def arith_Floor (a0:Int) (a1:Int):Option (Int×Int):=
  jn (fun (w1:Bool)=>fk w1 (some ((0:Int),(1:Int))) (ck (decide (a1≠0)) (ck (decide (a1≠0)) (fk (decide ((a0.tmod a1)<(0:Int))) (some ((wr ((wr (a0.tdiv a1))-(1:Int))),(0:Int))) (some ((wr (a0.tdiv a1)),(0:Int))))))) (fun k1=>bnd (arith_may ([a0,a1]:List Int)) fun x2=>fk (!x2) (k1 true) (k1 (decide (a1<(1:Int)))))
theorem arith_Floor_w (a0:Int) (a1:Int) (r:Int×Int) (h:arith_Floor a0 a1=some r):Go.VC.Spec Tryz.prog 199 [.d (.int .i64 a0),.d (.int .i64 a1)] (fun y=>y=E_Int_Int r):=by
  refine Go.VC.Spec.of_xc (args:=[.d (.int .i64 a0),.d (.int .i64 a1)]) (fn:=Tryz.f199) tab ⟨[(0,[0,1]),(1,[0,1,15]),(2,[4,5]),(3,[0,1,6]),(4,[6,22]),(5,[6]),(6,[4,5])],[],[100015],[]⟩ 26 [.tmp 4,.tmp 5] rfl rfl rfl rfl rfl rfl ?_
  conv=>whnf
  refine jnS (fun w1=>⟨[(0,.l (.d (.int .i64 a0))),(1,.l (.d (.int .i64 a1))),(15,.l (.d (.bool w1)))],26,[],[],[]⟩) h (fun k1 hk1 h=>?_) (fun w1 h=>?_)
  · conv=>whnf
    refine liS ([a0,a1]:List Int) (eI .i64) rfl rfl ?_
    conv=>whnf
    refine caS (E:=E_Bool) h (arith_may_w ([a0,a1]:List Int)) rfl (fun _=>rfl) (fun x2 h=>?_)
    conv=>whnf
    refine fkS h (fun h=>?_) (fun h=>?_)
    · conv=>whnf
      exact jeS hk1 h (Weak.refl _)
    conv=>whnf
    exact jeS hk1 h (Weak.refl _)
  conv=>whnf
  refine fkS h (fun h=>?_) (fun h=>?_)
  · conv=>whnf
    exact rt (E:=E_Int_Int) h rfl
  conv=>whnf
  refine dvS h (fun h=>?_)
  conv=>whnf
  refine dvS h (fun h=>?_)
  conv=>whnf
  refine fkS h (fun h=>?_) (fun h=>?_)
  · conv=>whnf
    exact rt (E:=E_Int_Int) h rfl
  conv=>whnf
  exact rt (E:=E_Int_Int) h rfl

end Go.Proofs.YtldlcdnhdedoeaaGreat
namespace Go.Proofs.YtldlcdnhdedoeaaGreat
open Go Go.VC
noncomputable def demand_jobs (a0:Task) (a1:Int):Option Int:=
  fk (decide (a1<a0.D)) (some (0:Int)) (bnd (arith_Floor (wr (a1-a0.D)) a0.T) fun x1=>some (wr (x1.1+(1:Int))))
theorem demand_jobs_w (a0:Task) (a1:Int) (r:Int) (h:demand_jobs a0 a1=some r):Go.VC.Spec Tryz.prog 193 [.agg (Task.enc a0),.d (.int .i64 a1)] (fun y=>y=E_Int r):=by
  refine Go.VC.Spec.of_xc (args:=[.agg (Task.enc a0),.d (.int .i64 a1)]) (fn:=Tryz.f193) tab ⟨[(0,[1,2]),(1,[1,2,10]),(2,[4]),(3,[5]),(4,[4])],[],[],[]⟩ 23 [.tmp 4] rfl rfl rfl rfl rfl rfl ?_
  conv=>whnf
  refine fkS h (fun h=>?_) (fun h=>?_)
  · conv=>whnf
    exact rt (E:=E_Int) h rfl
  conv=>whnf
  refine caS (E:=E_Int_Int) h (arith_Floor_w (wr (a1-a0.D)) a0.T) rfl (fun _=>rfl) (fun x1 h=>?_)
  conv=>whnf
  exact rt (E:=E_Int) h rfl

end Go.Proofs.YtldlcdnhdedoeaaGreat
namespace Go.Proofs.YtldlcdnhdedoeaaGreat
open Go Go.VC
noncomputable def arith_Add (a0:Int) (a1:Int):Option (Int×Int):=
  bnd (arith_may ([a0,a1]:List Int)) fun x1=>fk (!x1) (some ((0:Int),(1:Int))) (bnd (arith_may ([(wr (a0+a1))]:List Int)) fun x2=>fk (!x2) (some ((0:Int),(5:Int))) (some ((wr (a0+a1)),(0:Int))))
theorem arith_Add_w (a0:Int) (a1:Int) (r:Int×Int) (h:arith_Add a0 a1=some r):Go.VC.Spec Tryz.prog 186 [.d (.int .i64 a0),.d (.int .i64 a1)] (fun y=>y=E_Int_Int r):=by
  refine Go.VC.Spec.of_xc (args:=[.d (.int .i64 a0),.d (.int .i64 a1)]) (fn:=Tryz.f186) tab ⟨[(0,[0,1]),(1,[0,1,6]),(2,[4,5]),(3,[0,1,12]),(4,[4,5]),(5,[4,5])],[],[],[]⟩ 22 [.tmp 4,.tmp 5] rfl rfl rfl rfl rfl rfl ?_
  conv=>whnf
  refine liS ([a0,a1]:List Int) (eI .i64) rfl rfl ?_
  conv=>whnf
  refine caS (E:=E_Bool) h (arith_may_w ([a0,a1]:List Int)) rfl (fun _=>rfl) (fun x1 h=>?_)
  conv=>whnf
  refine fkS h (fun h=>?_) (fun h=>?_)
  · conv=>whnf
    exact rt (E:=E_Int_Int) h rfl
  conv=>whnf
  refine liS ([(wr (a0+a1))]:List Int) (eI .i64) rfl rfl ?_
  conv=>whnf
  refine caS (E:=E_Bool) h (arith_may_w ([(wr (a0+a1))]:List Int)) rfl (fun _=>rfl) (fun x2 h=>?_)
  conv=>whnf
  refine fkS h (fun h=>?_) (fun h=>?_)
  · conv=>whnf
    exact rt (E:=E_Int_Int) h rfl
  conv=>whnf
  exact rt (E:=E_Int_Int) h rfl

end Go.Proofs.YtldlcdnhdedoeaaGreat
namespace Go.Proofs.YtldlcdnhdedoeaaGreat
open Go Go.VC
noncomputable def demand_Bound (a0:List Task) (a1:Int):Option (Int×Int):=
  jn (fun (w1:Bool)=>fk w1 (some ((0:Int),(1:Int))) (lp (fun nx3 (v3:Int×Int×Int)=>fk (decide (v3.2.2<(a0.length:Int))) (ix a0 v3.2.2 fun x4=>bnd (demand_jobs x4 a1) fun x5=>bnd (arith_Mul x4.C x5) fun x6=>bnd (arith_Add v3.1 x6.1) fun x7=>jn (fun (w8:Bool)=>fk w8 (nx3 (v3.1,(5:Int),(wr (v3.2.2+(1:Int))))) (nx3 (x7.1,v3.2.1,(wr (v3.2.2+(1:Int)))))) (fun k8=>fk (!decide (x6.2=(0:Int))) (k8 true) (k8 (!decide (x7.2=(0:Int)))))) (fk (!decide (v3.2.1=(0:Int))) (some ((0:Int),v3.2.1)) (some (v3.1,(0:Int))))) FU ((0:Int),(0:Int),(0:Int)))) (fun k1=>bnd (task_All a0) fun x2=>fk (!x2) (k1 true) (fk (decide (a1<(0:Int))) (k1 true) (k1 (decide (a1>(4611686018427387903:Int))))))
theorem demand_Bound_w (a0:List Task) (a1:Int) (r:Int×Int) (h:demand_Bound a0 a1=some r):Go.VC.Spec Tryz.prog 184 [.d (.sl (a0.map Task.enc)),.d (.int .i64 a1)] (fun y=>y=E_Int_Int r):=by
  refine Go.VC.Spec.of_xc (args:=[.d (.sl (a0.map Task.enc)),.d (.int .i64 a1)]) (fn:=Tryz.f184) tab ⟨[(0,[0,1]),(1,[0,1,21]),(2,[4,5]),(3,[0,1,6,7]),(4,[0,1,6,7,8]),(5,[1,6,7,8,23,24,25]),(6,[1,6,7,8,23,24,25,26]),(7,[1,6,7,8,10,23,24,25]),(8,[1,6,7,8,23,24,25]),(9,[1,6,7,8,23,24,25]),(10,[6,7,38]),(11,[4,5]),(12,[4,5])],[],[100021],[]⟩ 41 [.tmp 4,.tmp 5] rfl rfl rfl rfl rfl rfl ?_
  conv=>whnf
  refine jnS (fun w1=>⟨[(0,.l (.d (.sl (a0.map Task.enc)))),(1,.l (.d (.int .i64 a1))),(21,.l (.d (.bool w1)))],41,[],[],[]⟩) h (fun k1 hk1 h=>?_) (fun w1 h=>?_)
  · conv=>whnf
    refine caS (E:=E_Bool) h (task_All_w a0) rfl (fun _=>rfl) (fun x2 h=>?_)
    conv=>whnf
    refine fkS h (fun h=>?_) (fun h=>?_)
    · conv=>whnf
      exact jeS hk1 h (Weak.refl _)
    conv=>whnf
    refine fkS h (fun h=>?_) (fun h=>?_)
    · conv=>whnf
      exact jeS hk1 h (Weak.refl _)
    conv=>whnf
    exact jeS hk1 h (Weak.refl _)
  conv=>whnf
  refine fkS h (fun h=>?_) (fun h=>?_)
  · conv=>whnf
    exact rt (E:=E_Int_Int) h rfl
  conv=>whnf
  refine lenS a0 Task.enc rfl ?_
  conv=>whnf
  refine lpS (fun v3=>⟨[(1,.l (.d (.int .i64 a1))),(6,.l (.ptr 7 0)),(7,.l (.ptr 8 0)),(8,.l (.func 192 [.k 7,.k 8])),(23,.l (.d (.sl (a0.map Task.enc)))),(24,.l (.d (.int .i64 (a0.length:Int)))),(25,.l (.d (.int .i64 v3.2.2)))],41,[],[(7,[.d (.int .i64 v3.1)]),(8,[.d (.int .i64 v3.2.1)])],[]⟩) h (Weak.refl _) (fun _ nx3 hn3 v3 h=>?_)
  conv=>whnf
  refine fkS h (fun h=>?_) (fun h=>?_)
  · conv=>whnf
    refine ixS (enc:=Task.enc) h rfl (fun _=>rfl) (fun x4 h=>?_)
    conv=>whnf
    refine⟨6,?_⟩
    conv=>whnf
    refine daS (E:=E_Int) h (demand_jobs_w x4 a1) (fun _=>rfl) (fun x5 h=>?_)
    conv=>whnf
    refine drS (by kernel_rfl) ?_
    conv=>whnf
    refine inS (fn:=Tryz.f192) tab ⟨[(0,[2,3,6,7]),(1,[2,3,7,8,9]),(2,[2,3,8,27]),(3,[]),(4,[])],[],[100027],[]⟩ 29 [] rfl rfl rfl rfl rfl rfl ?_
    conv=>whnf
    refine caS (E:=E_Int_Int) h (arith_Mul_w x4.C x5) rfl (fun _=>rfl) (fun x6 h=>?_)
    conv=>whnf
    refine caS (E:=E_Int_Int) h (arith_Add_w v3.1 x6.1) rfl (fun _=>rfl) (fun x7 h=>?_)
    conv=>whnf
    refine jnS (fun w8=>⟨[(2,.l (.ptr 7 0)),(3,.l (.ptr 8 0)),(8,.l (.d (.int .i64 x7.1))),(27,.l (.d (.bool w8)))],29,[⟨[(34,.l (.d (.int .i64 x5))),(33,.l (.d (.int .i64 a1))),(32,.agg [.d (.int .i64 x4.C),.d (.int .i64 x4.D),.d (.int .i64 x4.T),.d (.sl (x4.Secs.map Sec.enc))]),(31,.l (.d (.int .i64 x4.C))),(30,.l (.ptr 11 0)),(29,.l (.func 192 [.k 7,.k 8])),(1,.l (.d (.int .i64 a1))),(6,.l (.ptr 7 0)),(7,.l (.ptr 8 0)),(8,.l (.func 192 [.k 7,.k 8])),(10,.l (.ptr 11 0)),(23,.l (.d (.sl (a0.map Task.enc)))),(24,.l (.d (.int .i64 (a0.length:Int)))),(25,.l (.d (.int .i64 v3.2.2)))],41⟩],[(7,[.d (.int .i64 v3.1)]),(8,[.d (.int .i64 v3.2.1)]),(11,[.d (.int .i64 x4.C),.d (.int .i64 x4.D),.d (.int .i64 x4.T),.d (.sl (x4.Secs.map Sec.enc))])],[]⟩) h (fun k8 hk8 h=>?_) (fun w8 h=>?_)
    · conv=>whnf
      refine fkS h (fun h=>?_) (fun h=>?_)
      · conv=>whnf
        exact jeS hk8 h (Weak.refl _)
      conv=>whnf
      exact jeS hk8 h (Weak.refl _)
    conv=>whnf
    refine fkS h (fun h=>?_) (fun h=>?_)
    · conv=>whnf
      exact leS hn3 h (Weak.refl _)
    conv=>whnf
    exact leS hn3 h (Weak.refl _)
  conv=>whnf
  refine fkS h (fun h=>?_) (fun h=>?_)
  · conv=>whnf
    refine⟨2,?_⟩
    conv=>whnf
    refine drS (by kernel_rfl) ?_
    conv=>whnf
    exact rt (E:=E_Int_Int) h rfl
  conv=>whnf
  exact rt (E:=E_Int_Int) h rfl

end Go.Proofs.YtldlcdnhdedoeaaGreat
namespace Go.Proofs.YtldlcdnhdedoeaaGreat
open Go Go.VC
noncomputable def task_Uses (a0:Task) (a1:Int):Option Bool:=
  bnd (task_Right a0) fun x1=>fk (!x1) (some false) (lp (fun nx2 (v2:Int)=>fk (decide (v2<(a0.Secs.length:Int))) (ix a0.Secs v2 fun x3=>fk (decide (x3.Res=a1)) (some true) (nx2 (wr (v2+(1:Int))))) (some false)) FU (0:Int))
theorem task_Uses_w (a0:Task) (a1:Int) (r:Bool) (h:task_Uses a0 a1=some r):Go.VC.Spec Tryz.prog 198 [.agg (Task.enc a0),.d (.int .i64 a1)] (fun y=>y=E_Bool r):=by
  refine Go.VC.Spec.of_xc (args:=[.agg (Task.enc a0),.d (.int .i64 a1)]) (fn:=Tryz.f198) tab ⟨[(0,[1,2]),(1,[1,2,9]),(2,[4]),(3,[1,11,12,13]),(4,[1,11,12,13,14]),(5,[1,6,11,12,13]),(6,[1,11,12,13,20]),(7,[4]),(8,[1,11,12,13]),(9,[4])],[],[],[]⟩ 22 [.tmp 4] rfl rfl rfl rfl rfl rfl ?_
  conv=>whnf
  refine caS (E:=E_Bool) h (task_Right_w a0) rfl (fun _=>rfl) (fun x1 h=>?_)
  conv=>whnf
  refine fkS h (fun h=>?_) (fun h=>?_)
  · conv=>whnf
    exact rt (E:=E_Bool) h rfl
  conv=>whnf
  refine lenS a0.Secs Sec.enc rfl ?_
  conv=>whnf
  refine lpS (fun v2=>⟨[(1,.l (.d (.int .i64 a1))),(11,.l (.d (.sl (a0.Secs.map Sec.enc)))),(12,.l (.d (.int .i64 (a0.Secs.length:Int)))),(13,.l (.d (.int .i64 v2)))],22,[],[],[]⟩) h (Weak.refl _) (fun _ nx2 hn2 v2 h=>?_)
  conv=>whnf
  refine fkS h (fun h=>?_) (fun h=>?_)
  · conv=>whnf
    refine ixS (enc:=Sec.enc) h rfl (fun _=>rfl) (fun x3 h=>?_)
    conv=>whnf
    refine fkS h (fun h=>?_) (fun h=>?_)
    · conv=>whnf
      exact rt (E:=E_Bool) h rfl
    conv=>whnf
    exact leS hn2 h (Weak.refl _)
  conv=>whnf
  exact rt (E:=E_Bool) h rfl

end Go.Proofs.YtldlcdnhdedoeaaGreat
namespace Go.Proofs.YtldlcdnhdedoeaaGreat
open Go Go.VC
noncomputable def block_shared (a0:List Task) (a1:Int) (a2:Int):Option Bool:=
  lp (fun nx1 (v1:Int)=>fk (decide (v1<(a0.length:Int))) (ix a0 v1 fun x2=>jn (fun (w3:Bool)=>fk w3 (some true) (nx1 (wr (v1+(1:Int))))) (fun k3=>fk (decide (x2.D≤a1)) (bnd (task_Uses x2 a2) fun x4=>k3 x4) (k3 false))) (some false)) FU (0:Int)
theorem block_shared_w (a0:List Task) (a1:Int) (a2:Int) (r:Bool) (h:block_shared a0 a1 a2=some r):Go.VC.Spec Tryz.prog 195 [.d (.sl (a0.map Task.enc)),.d (.int .i64 a1),.d (.int .i64 a2)] (fun y=>y=E_Bool r):=by
  refine Go.VC.Spec.of_xc (args:=[.d (.sl (a0.map Task.enc)),.d (.int .i64 a1),.d (.int .i64 a2)]) (fn:=Tryz.f195) tab ⟨[(0,[0,1,2]),(1,[1,2,9,10,11]),(2,[1,2,9,10,11,12]),(3,[1,2,8,9,10,11]),(4,[1,2,9,10,11,23]),(5,[6]),(6,[1,2,9,10,11]),(7,[6])],[],[100023],[]⟩ 25 [.tmp 6] rfl rfl rfl rfl rfl rfl ?_
  conv=>whnf
  refine lenS a0 Task.enc rfl ?_
  conv=>whnf
  refine lpS (fun v1=>⟨[(1,.l (.d (.int .i64 a1))),(2,.l (.d (.int .i64 a2))),(9,.l (.d (.sl (a0.map Task.enc)))),(10,.l (.d (.int .i64 (a0.length:Int)))),(11,.l (.d (.int .i64 v1)))],25,[],[],[]⟩) h (Weak.refl _) (fun _ nx1 hn1 v1 h=>?_)
  conv=>whnf
  refine fkS h (fun h=>?_) (fun h=>?_)
  · conv=>whnf
    refine ixS (enc:=Task.enc) h rfl (fun _=>rfl) (fun x2 h=>?_)
    conv=>whnf
    refine jnS (fun w3=>⟨[(1,.l (.d (.int .i64 a1))),(2,.l (.d (.int .i64 a2))),(9,.l (.d (.sl (a0.map Task.enc)))),(10,.l (.d (.int .i64 (a0.length:Int)))),(11,.l (.d (.int .i64 v1))),(23,.l (.d (.bool w3)))],25,[],[],[]⟩) h (fun k3 hk3 h=>?_) (fun w3 h=>?_)
    · conv=>whnf
      refine fkS h (fun h=>?_) (fun h=>?_)
      · conv=>whnf
        refine caS (E:=E_Bool) h (task_Uses_w x2 a2) rfl (fun _=>rfl) (fun x4 h=>?_)
        conv=>whnf
        exact jeS hk3 h (Weak.refl _)
      conv=>whnf
      exact jeS hk3 h (Weak.refl _)
    conv=>whnf
    refine fkS h (fun h=>?_) (fun h=>?_)
    · conv=>whnf
      exact rt (E:=E_Bool) h rfl
    conv=>whnf
    exact leS hn1 h (Weak.refl _)
  conv=>whnf
  exact rt (E:=E_Bool) h rfl

end Go.Proofs.YtldlcdnhdedoeaaGreat
namespace Go.Proofs.YtldlcdnhdedoeaaGreat
open Go Go.VC
noncomputable def block_Of (a0:List Task) (a1:Int):Option (Int×Int):=
  bnd (task_All a0) fun x1=>fk (!x1) (some ((0:Int),(1:Int))) (lp (fun nx2 (v2:Int×Int)=>fk (decide (v2.2<(a0.length:Int))) (jn (fun (w3:Int)=>nx2 (w3,(wr (v2.2+(1:Int))))) (fun k3=>ix a0 v2.2 fun x4=>fk (decide (x4.D≤a1)) (k3 v2.1) (lp (fun nx5 (v5:Int×Int)=>fk (decide (v5.2<(x4.Secs.length:Int))) (ix x4.Secs v5.2 fun x6=>jn (fun (w7:Bool)=>fk w7 (nx5 (x6.Len,(wr (v5.2+(1:Int))))) (nx5 (v5.1,(wr (v5.2+(1:Int)))))) (fun k7=>fk (decide (x6.Len>v5.1)) (bnd (block_shared a0 a1 x6.Res) fun x8=>k7 x8) (k7 false))) (k3 v5.1)) FU (v2.1,(0:Int))))) (some (v2.1,(0:Int)))) FU ((0:Int),(0:Int)))
theorem block_Of_w (a0:List Task) (a1:Int) (r:Int×Int) (h:block_Of a0 a1=some r):Go.VC.Spec Tryz.prog 185 [.d (.sl (a0.map Task.enc)),.d (.int .i64 a1)] (fun y=>y=E_Int_Int r):=by
  refine Go.VC.Spec.of_xc (args:=[.d (.sl (a0.map Task.enc)),.d (.int .i64 a1)]) (fn:=Tryz.f185) tab ⟨[(0,[2,3]),(1,[2,3,14]),(2,[4,5]),(3,[2,3,6]),(4,[2,3,6,7]),(5,[3,6,7,16,17,18]),(6,[3,6,7,16,17,18,19]),(7,[3,6,7,9,16,17,18]),(8,[3,6,7,9,16,17,18,25]),(9,[3,6,7,16,17,18,27,28,29]),(10,[3,6,7,16,17,18,27,28,29,30]),(11,[3,6,7,11,16,17,18,27,28,29]),(12,[3,6,7,16,17,18,27,28,29]),(13,[3,6,7,16,17,18,27,28,29]),(14,[3,6,7,16,17,18]),(15,[4,5])],[],[14],[]⟩ 39 [.tmp 4,.tmp 5] rfl rfl rfl rfl rfl rfl ?_
  conv=>whnf
  refine caS (E:=E_Bool) h (task_All_w a0) rfl (fun _=>rfl) (fun x1 h=>?_)
  conv=>whnf
  refine fkS h (fun h=>?_) (fun h=>?_)
  · conv=>whnf
    exact rt (E:=E_Int_Int) h rfl
  conv=>whnf
  refine lenS a0 Task.enc rfl ?_
  conv=>whnf
  refine lpS (fun v2=>⟨[(3,.l (.ptr 4 0)),(6,.l (.ptr 7 0)),(7,.l (.func 194 [.k 7,.k 3,.k 4])),(16,.l (.d (.sl (a0.map Task.enc)))),(17,.l (.d (.int .i64 (a0.length:Int)))),(18,.l (.d (.int .i64 v2.2)))],39,[],[(3,[.d (.sl (a0.map Task.enc))]),(4,[.d (.int .i64 a1)]),(7,[.d (.int .i64 v2.1)])],[]⟩) h (Weak.refl _) (fun _ nx2 hn2 v2 h=>?_)
  conv=>whnf
  refine fkS h (fun h=>?_) (fun h=>?_)
  · conv=>whnf
    refine jnS (fun w3=>⟨[(3,.l (.ptr 4 0)),(6,.l (.ptr 7 0)),(7,.l (.func 194 [.k 7,.k 3,.k 4])),(16,.l (.d (.sl (a0.map Task.enc)))),(17,.l (.d (.int .i64 (a0.length:Int)))),(18,.l (.d (.int .i64 v2.2)))],39,[],[(3,[.d (.sl (a0.map Task.enc))]),(4,[.d (.int .i64 a1)]),(7,[.d (.int .i64 w3)])],[]⟩) h (fun k3 hk3 h=>?_) (fun w3 h=>?_)
    · conv=>whnf
      refine ixS (enc:=Task.enc) h rfl (fun _=>rfl) (fun x4 h=>?_)
      conv=>whnf
      refine fkS h (fun h=>?_) (fun h=>?_)
      · conv=>whnf
        refine jeX hk3 h ?_
        conv=>whnf
        refine WkF.step (Weak.keepS _ [3,6,7,16,17,18]) ?_
        conv=>whnf
        exact WkF.refl _
      conv=>whnf
      refine lenS x4.Secs Sec.enc rfl ?_
      conv=>whnf
      refine lpS (fun v5=>⟨[(3,.l (.ptr 4 0)),(6,.l (.ptr 7 0)),(7,.l (.func 194 [.k 7,.k 3,.k 4])),(16,.l (.d (.sl (a0.map Task.enc)))),(17,.l (.d (.int .i64 (a0.length:Int)))),(18,.l (.d (.int .i64 v2.2))),(27,.l (.d (.sl (x4.Secs.map Sec.enc)))),(28,.l (.d (.int .i64 (x4.Secs.length:Int)))),(29,.l (.d (.int .i64 v5.2)))],39,[],[(3,[.d (.sl (a0.map Task.enc))]),(4,[.d (.int .i64 a1)]),(7,[.d (.int .i64 v5.1)])],[]⟩) h (Weak.refl _) (fun _ nx5 hn5 v5 h=>?_)
      conv=>whnf
      refine fkS h (fun h=>?_) (fun h=>?_)
      · conv=>whnf
        refine ixS (enc:=Sec.enc) h rfl (fun _=>rfl) (fun x6 h=>?_)
        conv=>whnf
        refine inS (fn:=Tryz.f194) tab ⟨[(0,[1,2,3,4]),(1,[1,4,15]),(2,[])],[],[100015],[]⟩ 18 [] rfl rfl rfl rfl rfl rfl ?_
        conv=>whnf
        refine jnS (fun w7=>⟨[(1,.l (.ptr 7 0)),(4,.l (.ptr 1005 0)),(15,.l (.d (.bool w7)))],18,[⟨[(34,.agg [.d (.int .i64 x6.Res),.d (.int .i64 x6.At),.d (.int .i64 x6.Len)]),(33,.l (.func 194 [.k 7,.k 3,.k 4])),(3,.l (.ptr 4 0)),(6,.l (.ptr 7 0)),(7,.l (.func 194 [.k 7,.k 3,.k 4])),(11,.l (.ptr 12 0)),(16,.l (.d (.sl (a0.map Task.enc)))),(17,.l (.d (.int .i64 (a0.length:Int)))),(18,.l (.d (.int .i64 v2.2))),(27,.l (.d (.sl (x4.Secs.map Sec.enc)))),(28,.l (.d (.int .i64 (x4.Secs.length:Int)))),(29,.l (.d (.int .i64 v5.2)))],39⟩],[(3,[.d (.sl (a0.map Task.enc))]),(4,[.d (.int .i64 a1)]),(7,[.d (.int .i64 v5.1)]),(12,[.d (.int .i64 x6.Res),.d (.int .i64 x6.At),.d (.int .i64 x6.Len)]),(1005,[.d (.int .i64 x6.Res),.d (.int .i64 x6.At),.d (.int .i64 x6.Len)])],[]⟩) h (fun k7 hk7 h=>?_) (fun w7 h=>?_)
        · conv=>whnf
          refine fkS h (fun h=>?_) (fun h=>?_)
          · conv=>whnf
            refine caS (E:=E_Bool) h (block_shared_w a0 a1 x6.Res) rfl (fun _=>rfl) (fun x8 h=>?_)
            conv=>whnf
            exact jeS hk7 h (Weak.refl _)
          conv=>whnf
          exact jeS hk7 h (Weak.refl _)
        conv=>whnf
        refine fkS h (fun h=>?_) (fun h=>?_)
        · conv=>whnf
          exact leS hn5 h (Weak.refl _)
        conv=>whnf
        exact leS hn5 h (Weak.refl _)
      conv=>whnf
      refine jeX hk3 h ?_
      conv=>whnf
      refine WkF.step (Weak.keepS _ [3,6,7,16,17,18]) ?_
      conv=>whnf
      exact WkF.refl _
    conv=>whnf
    exact leS hn2 h (Weak.refl _)
  conv=>whnf
  exact rt (E:=E_Int_Int) h rfl

end Go.Proofs.YtldlcdnhdedoeaaGreat
namespace Go.Proofs.YtldlcdnhdedoeaaGreat
open Go Go.VC
noncomputable def verdict_Need (a0:List Task) (a1:Int):Option (Int×Int):=
  bnd (demand_Bound a0 a1) fun x1=>fk (!decide (x1.2=(0:Int))) (some ((0:Int),x1.2)) (bnd (block_Of a0 a1) fun x2=>bnd (arith_Add x1.1 x2.1) fun x3=>some (x3.1,x3.2))
theorem verdict_Need_w (a0:List Task) (a1:Int) (r:Int×Int) (h:verdict_Need a0 a1=some r):Go.VC.Spec Tryz.prog 175 [.d (.sl (a0.map Task.enc)),.d (.int .i64 a1)] (fun y=>y=E_Int_Int r):=by
  refine Go.VC.Spec.of_xc (args:=[.d (.sl (a0.map Task.enc)),.d (.int .i64 a1)]) (fn:=Tryz.f175) tab ⟨[(0,[0,1]),(1,[0,1,6,7]),(2,[0,1,6,7,17]),(3,[4,5]),(4,[6,8]),(5,[4,5])],[],[],[]⟩ 30 [.tmp 4,.tmp 5] rfl rfl rfl rfl rfl rfl ?_
  conv=>whnf
  refine caS (E:=E_Int_Int) h (demand_Bound_w a0 a1) rfl (fun _=>rfl) (fun x1 h=>?_)
  conv=>whnf
  refine fkS h (fun h=>?_) (fun h=>?_)
  · conv=>whnf
    exact rt (E:=E_Int_Int) h rfl
  conv=>whnf
  refine caS (E:=E_Int_Int) h (block_Of_w a0 a1) rfl (fun _=>rfl) (fun x2 h=>?_)
  conv=>whnf
  refine caS (E:=E_Int_Int) h (arith_Add_w x1.1 x2.1) rfl (fun _=>rfl) (fun x3 h=>?_)
  conv=>whnf
  exact rt (E:=E_Int_Int) h rfl

end Go.Proofs.YtldlcdnhdedoeaaGreat
namespace Go.Proofs.YtldlcdnhdedoeaaGreat
open Go Go.VC
noncomputable def supply_Bound (a0:Face) (a1:Int):Option (Int×Int):=
  jn (fun (w1:Bool)=>fk w1 (some ((0:Int),(1:Int))) (fk (decide (a1<(wr (a0.P-a0.B)))) (some ((0:Int),(0:Int))) (ck (decide (a0.P≠0)) (some ((wr ((wr ((wr ((wr (a1-(wr (a0.P-a0.B)))).tdiv a0.P))*a0.B))+(if (wr ((wr (a1-(wr ((2:Int)*(wr (a0.P-a0.B))))))-(wr ((wr ((wr (a1-(wr (a0.P-a0.B)))).tdiv a0.P))*a0.P))))>(0:Int) then (wr ((wr (a1-(wr ((2:Int)*(wr (a0.P-a0.B))))))-(wr ((wr ((wr (a1-(wr (a0.P-a0.B)))).tdiv a0.P))*a0.P)))) else (0:Int)))),(0:Int)))))) (fun k1=>bnd (supply_Right a0) fun x2=>fk (!x2) (k1 true) (fk (decide (a1<(0:Int))) (k1 true) (k1 (decide (a1>(4611686018427387903:Int))))))
theorem supply_Bound_w (a0:Face) (a1:Int) (r:Int×Int) (h:supply_Bound a0 a1=some r):Go.VC.Spec Tryz.prog 176 [.agg (Face.enc a0),.d (.int .i64 a1)] (fun y=>y=E_Int_Int r):=by
  refine Go.VC.Spec.of_xc (args:=[.agg (Face.enc a0),.d (.int .i64 a1)]) (fn:=Tryz.f176) tab ⟨[(0,[1,2]),(1,[1,2,18]),(2,[4,5]),(3,[1,2,6]),(4,[1,2,6,26]),(5,[4,5]),(6,[1,2,6,7]),(7,[4,5])],[],[100018],[]⟩ 48 [.tmp 4,.tmp 5] rfl rfl rfl rfl rfl rfl ?_
  conv=>whnf
  refine jnS (fun w1=>⟨[(1,.l (.d (.int .i64 a1))),(2,.l (.ptr 3 0)),(18,.l (.d (.bool w1)))],48,[],[(3,[.d (.int .i64 a0.P),.d (.int .i64 a0.B)])],[]⟩) h (fun k1 hk1 h=>?_) (fun w1 h=>?_)
  · conv=>whnf
    refine caS (E:=E_Bool) h (supply_Right_w a0) rfl (fun _=>rfl) (fun x2 h=>?_)
    conv=>whnf
    refine fkS h (fun h=>?_) (fun h=>?_)
    · conv=>whnf
      exact jeS hk1 h (Weak.refl _)
    conv=>whnf
    refine fkS h (fun h=>?_) (fun h=>?_)
    · conv=>whnf
      exact jeS hk1 h (Weak.refl _)
    conv=>whnf
    exact jeS hk1 h (Weak.refl _)
  conv=>whnf
  refine fkS h (fun h=>?_) (fun h=>?_)
  · conv=>whnf
    exact rt (E:=E_Int_Int) h rfl
  conv=>whnf
  refine fkS h (fun h=>?_) (fun h=>?_)
  · conv=>whnf
    exact rt (E:=E_Int_Int) h rfl
  conv=>whnf
  refine dvS h (fun h=>?_)
  conv=>whnf
  exact rt (E:=E_Int_Int) h rfl

end Go.Proofs.YtldlcdnhdedoeaaGreat
namespace Go.Proofs.YtldlcdnhdedoeaaGreat
open Go Go.VC
noncomputable def verdict_fails (a0:List Task) (a1:Face) (a2:Int):Option (Option Int):=
  lp (fun nx (v:Int)=>fk (decide (v≤a2)) (bnd (verdict_Need a0 v) fun x1=>bnd (supply_Bound a1 v) fun x2=>fk (decide (x1.1>x2.1)) (some (some v)) (nx (wr (v+1)))) (some none)) FU 0
theorem verdict_fails_it (a0:List Task) (a1:Face) (a2:Int) (r:Option Int) (h:verdict_fails a0 a1 a2=some r):ItC Tryz.prog 174 [.dp [.int .i64 a2],.dp [.sl (a0.map Task.enc)],.dp [.int .i64 a1.P,.int .i64 a1.B]] r:=by
  refine ItC.of (fn:=Tryz.f174) rfl rfl rfl rfl rfl (fun w0 p0 l X hy=>?_)
  refine IW.seqx tab ⟨[(0,[0,1,2,3,5]),(1,[0,1,2,3,5,12]),(2,[0,1,2,3,5]),(3,[0,1,2,3,5,6]),(4,[0,1,2,3,5,6,8]),(5,[0,1,2,3,5,35])],[],[],[]⟩ ?_
  refine IW.block ?_
  refine IW.lp (fun v=>⟨[(0,.l (.raw (.func (.yield l) #[] #[]))),(1,.l (.dptr [.int .i64 a2] 0)),(2,.l (.dptr [.sl (a0.map Task.enc)] 0)),(3,.l (.dptr [.int .i64 a1.P,.int .i64 a1.B] 0)),(5,.l (.d (.int .i64 v)))],36,[],[],[]⟩) h (Weak.refl _) (fun _ nx hn v h=>?_)
  refine IW.seqx tab ⟨[(0,[0,1,2,3,5]),(1,[0,1,2,3,5,12]),(2,[0,1,2,3,5]),(3,[0,1,2,3,5,6]),(4,[0,1,2,3,5,6,8]),(5,[0,1,2,3,5,35])],[],[],[]⟩ ?_
  refine fkS h (fun h=>?_) (fun h=>?_)
  · refine IW.seq (IW.block ?_)
    refine IW.seqx tab ⟨[(0,[0,1,2,3,5]),(1,[0,1,2,3,5,12]),(2,[0,1,2,3,5]),(3,[0,1,2,3,5,6]),(4,[0,1,2,3,5,6,8]),(5,[0,1,2,3,5,35])],[],[],[]⟩ ?_
    refine caS (E:=E_Int_Int) h (verdict_Need_w a0 v) rfl (fun _=>rfl) (fun x1 h=>?_)
    refine IW.seqx tab ⟨[(0,[0,1,2,3,5]),(1,[0,1,2,3,5,12]),(2,[0,1,2,3,5]),(3,[0,1,2,3,5,6]),(4,[0,1,2,3,5,6,8]),(5,[0,1,2,3,5,35])],[],[],[]⟩ ?_
    refine caS (E:=E_Int_Int) h (supply_Bound_w a1 v) rfl (fun _=>rfl) (fun x2 h=>?_)
    refine IW.yield tab (l:=l) (r0:=0) (r5:=5) (r6:=6) (r8:=8) (nd:=x1.1) (hv:=x2.1) (t:=v) rfl rfl rfl rfl rfl rfl rfl rfl rfl rfl rfl rfl rfl rfl rfl rfl rfl rfl rfl rfl rfl rfl rfl rfl rfl rfl rfl (Nat.le_of_ble_eq_true rfl) (Nat.le_of_ble_eq_true rfl) (Nat.le_of_ble_eq_true rfl) (Nat.le_of_ble_eq_true rfl) (Nat.le_of_ble_eq_true rfl) (Nat.le_of_ble_eq_true rfl) (Nat.le_of_ble_eq_true rfl) (Nat.le_of_ble_eq_true rfl) (Nat.le_of_ble_eq_true rfl) (by decide) (by decide) (by decide) (by decide) (by decide) (by decide) (by decide) (by decide) (by decide) (by decide) (by decide) (by decide) (by decide) (by decide) (by decide) (by decide) rfl rfl rfl rfl (fun hg W1 hW=>?_) (fun hg=>?_) (fun hg=>?_)
    · rw[decide_eq_true hg] at h; exact hy v W1 (Option.some.inj h).symm hW
    · rw[decide_eq_true hg] at h; rw[←Option.some.inj h]; rfl
    · rw[decide_eq_false hg] at h
      refine IW.of_xc tab ⟨[(0,[0,1,2,3,5]),(1,[0,1,2,3,5,12]),(2,[0,1,2,3,5]),(3,[0,1,2,3,5,6]),(4,[0,1,2,3,5,6,8]),(5,[0,1,2,3,5,35])],[],[],[]⟩ ?_
      exact leS hn h (Weak.refl _)
  · exact (Option.some.inj h).symm
noncomputable def verdict_First (a0:List Task) (a1:Face):Option (Int×Bool×Int):=
  bnd (verdict_Cycle a0 a1) fun x1=>fk (!decide (x1.2.2=(0:Int))) (some ((0:Int),false,x1.2.2)) (bnd (verdict_fails a0 a1 x1.2.1) fun x2=>match x2 with | some t=>some (t,true,(0:Int)) | none=>some ((0:Int),false,(0:Int)))
theorem verdict_First_w (a0:List Task) (a1:Face) (r:Int×Bool×Int) (h:verdict_First a0 a1=some r):Go.VC.Spec Tryz.prog 160 [.d (.sl (a0.map Task.enc)),.agg (Face.enc a1)] (fun y=>y=E_Int_Bool_Int r):=by
  refine Spec.of_wpF (args:=[.d (.sl (a0.map Task.enc)),.agg (Face.enc a1)]) (fn:=Tryz.f160) rfl rfl rfl rfl ?_
  refine WpF.seq tab ⟨[(0,[0,3,4,5,6,25]),(1,[0,3,4,5,6,8,9,25]),(2,[0,3,4,5,6,8,9,19,25]),(3,[4,5,6]),(4,[4,5,6,24,25]),(5,[4,5,6,10]),(6,[4,5,6]),(7,[4,5,6])],[],[],[]⟩ (rs:=[.cell 4 3,.cell 5 4,.cell 6 36]) rfl ?_
  refine WpF.seq tab ⟨[(0,[0,3,4,5,6,25]),(1,[0,3,4,5,6,8,9,25]),(2,[0,3,4,5,6,8,9,19,25]),(3,[4,5,6]),(4,[4,5,6,24,25]),(5,[4,5,6,10]),(6,[4,5,6]),(7,[4,5,6])],[],[],[]⟩ (rs:=[.cell 4 3,.cell 5 4,.cell 6 36]) rfl ?_
  refine caS (E:=E_Int_Int_Int) h (verdict_Cycle_w a0 a1) rfl (fun _=>rfl) (fun x1 h=>?_)
  refine WpF.seq tab ⟨[(0,[0,3,4,5,6,25]),(1,[0,3,4,5,6,8,9,25]),(2,[0,3,4,5,6,8,9,19,25]),(3,[4,5,6]),(4,[4,5,6,24,25]),(5,[4,5,6,10]),(6,[4,5,6]),(7,[4,5,6])],[],[],[]⟩ (rs:=[.cell 4 3,.cell 5 4,.cell 6 36]) rfl ?_
  refine fkS h (fun h=>?_) (fun h=>?_)
  · exact RetOk.mk ⟨_,rfl,rt (E:=E_Int_Bool_Int) h rfl⟩
  obtain⟨x2,hx2,h⟩:=bnd_of h
  refine WpF.seqA tab ⟨[(0,[0,3,4,5,6,25]),(1,[0,3,4,5,6,8,9,25]),(2,[0,3,4,5,6,8,9,19,25]),(3,[4,5,6]),(4,[4,5,6,24,25]),(5,[4,5,6,10]),(6,[4,5,6]),(7,[4,5,6])],[],[],[]⟩ (rs:=[.cell 4 3,.cell 5 4,.cell 6 36]) rfl ?_
  refine inS (fn:=Tryz.f167) tab ⟨[(0,[3,4,5]),(1,[6])],[],[],[]⟩ 8 [.tmp 6] rfl rfl rfl rfl rfl rfl ?_
  refine WpG.id ?_
  refine WpG.range tab (rs:=[.cell 4 3,.cell 5 4,.cell 6 36]) rfl rfl rfl rfl rfl ⟨_,rfl,rfl,rfl⟩ x2 rfl (verdict_fails_it a0 a1 x1.2.1 x2 hx2) rfl rfl rfl (fun x hx=>?_) (fun hx=>?_)
  · subst hx
    refine PO.h (?_)
    refine po_move rfl rfl rfl ?_
    refine po_store rfl rfl rfl rfl rfl rfl rfl rfl rfl rfl ?_
    refine po_store rfl rfl rfl rfl rfl rfl rfl rfl rfl rfl ?_
    refine po_store rfl rfl rfl rfl rfl rfl rfl rfl rfl rfl ?_
    refine po_nil ?_
    exact RetOk.mk ⟨_,rfl,rt (E:=E_Int_Bool_Int) h rfl⟩
  · subst hx
    refine PO.h (?_)
    refine po_store rfl rfl rfl rfl rfl rfl rfl rfl rfl rfl ?_
    refine po_store rfl rfl rfl rfl rfl rfl rfl rfl rfl rfl ?_
    refine po_store rfl rfl rfl rfl rfl rfl rfl rfl rfl rfl ?_
    refine po_nil ?_
    exact RetOk.mk ⟨_,rfl,rt (E:=E_Int_Bool_Int) h rfl⟩

end Go.Proofs.YtldlcdnhdedoeaaGreat
namespace Go.Proofs.YtldlcdnhdedoeaaGreat
open Go Go.VC
noncomputable def verdict_Fits (a0:List Task) (a1:Face):Option (Bool×Int):=
  bnd (verdict_Cycle a0 a1) fun x1=>fk (!decide (x1.2.2=(0:Int))) (some (false,x1.2.2)) (lp (fun nx2 (v2:Int×Int)=>fk (decide (v2.2<(a0.length:Int))) (ix a0 v2.2 fun x3=>ck (decide (x3.T≠0)) (nx2 ((wr (v2.1+(wr ((wr (x1.1.tdiv x3.T))*x3.C)))),(wr (v2.2+(1:Int)))))) (ck (decide (a1.P≠0)) (fk (decide (v2.1>(wr ((wr (x1.1.tdiv a1.P))*a1.B)))) (some (false,(0:Int))) (bnd (verdict_First a0 a1) fun x4=>some ((!x4.2.1),(0:Int)))))) FU ((0:Int),(0:Int)))
theorem verdict_Fits_w (a0:List Task) (a1:Face) (r:Bool×Int) (h:verdict_Fits a0 a1=some r):Go.VC.Spec Tryz.prog 142 [.d (.sl (a0.map Task.enc)),.agg (Face.enc a1)] (fun y=>y=E_Bool_Int r):=by
  refine Go.VC.Spec.of_xc (args:=[.d (.sl (a0.map Task.enc)),.agg (Face.enc a1)]) (fn:=Tryz.f142) tab ⟨[(0,[0,3]),(1,[0,3,6,8]),(2,[0,3,6,8,23]),(3,[4,5]),(4,[0,3,6,9]),(5,[0,3,6,9,25,26,27]),(6,[0,3,6,9,25,26,27,28]),(7,[0,3,6,9,11,25,26,27]),(8,[0,3,6,9,25,26,27]),(9,[0,3,6,9,25,26,27]),(10,[0,3,49]),(11,[4,5]),(12,[13]),(13,[4,5])],[],[],[]⟩ 59 [.tmp 4,.tmp 5] rfl rfl rfl rfl rfl rfl ?_
  conv=>whnf
  refine caS (E:=E_Int_Int_Int) h (verdict_Cycle_w a0 a1) rfl (fun _=>rfl) (fun x1 h=>?_)
  conv=>whnf
  refine fkS h (fun h=>?_) (fun h=>?_)
  · conv=>whnf
    exact rt (E:=E_Bool_Int) h rfl
  conv=>whnf
  refine lenS a0 Task.enc rfl ?_
  conv=>whnf
  refine lpS (fun v2=>⟨[(0,.l (.d (.sl (a0.map Task.enc)))),(3,.l (.ptr 4 0)),(6,.l (.d (.int .i64 x1.1))),(9,.l (.d (.int .i64 v2.1))),(25,.l (.d (.sl (a0.map Task.enc)))),(26,.l (.d (.int .i64 (a0.length:Int)))),(27,.l (.d (.int .i64 v2.2)))],59,[],[(4,[.d (.int .i64 a1.P),.d (.int .i64 a1.B)])],[]⟩) h (Weak.refl _) (fun _ nx2 hn2 v2 h=>?_)
  conv=>whnf
  refine fkS h (fun h=>?_) (fun h=>?_)
  · conv=>whnf
    refine ixS (enc:=Task.enc) h rfl (fun _=>rfl) (fun x3 h=>?_)
    conv=>whnf
    refine⟨8,?_⟩
    conv=>whnf
    refine dvS h (fun h=>?_)
    conv=>whnf
    refine drS (by kernel_rfl) ?_
    conv=>whnf
    exact leS hn2 h (Weak.refl _)
  conv=>whnf
  refine⟨8,?_⟩
  conv=>whnf
  refine dvS h (fun h=>?_)
  conv=>whnf
  refine drS (by kernel_rfl) ?_
  conv=>whnf
  refine fkS h (fun h=>?_) (fun h=>?_)
  · conv=>whnf
    exact rt (E:=E_Bool_Int) h rfl
  conv=>whnf
  refine caS (E:=E_Int_Bool_Int) h (verdict_First_w a0 a1) rfl (fun _=>rfl) (fun x4 h=>?_)
  conv=>whnf
  exact rt (E:=E_Bool_Int) h rfl

end Go.Proofs.YtldlcdnhdedoeaaGreat
namespace Go.Proofs.YtldlcdnhdedoeaaGreat
open Go Go.VC
noncomputable def admit_fit_1 (a0:List Task) (a1:Int) (a2:Int):Option Int:=
  bnd (verdict_Fits a0 ⟨a1,a2⟩) fun x1=>jn (fun (w2:Bool)=>fk w2 (some (7:Int)) (some x1.2)) (fun k2=>fk (decide (x1.2=(0:Int))) (k2 (!x1.1)) (k2 false))
theorem admit_fit_1_w (a0:List Task) (a1:Int) (a2:Int) (r:Int) (h:admit_fit_1 a0 a1 a2=some r):Go.VC.Spec Tryz.prog 141 [.dp [.sl (a0.map Task.enc)],.dp [.int .i64 a1,.int .i64 a2]] (fun y=>y=E_Int r):=by
  refine Go.VC.Spec.of_xc (args:=[.dp [.sl (a0.map Task.enc)],.dp [.int .i64 a1,.int .i64 a2]]) (fn:=Tryz.f141) tab ⟨[(0,[0,1]),(1,[3,4]),(2,[4,16]),(3,[2]),(4,[2])],[],[100016],[]⟩ 18 [.tmp 2] rfl rfl rfl rfl rfl rfl ?_
  conv=>whnf
  refine caS (E:=E_Bool_Int) h (verdict_Fits_w a0 ⟨a1,a2⟩) rfl (fun _=>rfl) (fun x1 h=>?_)
  conv=>whnf
  refine jnS (fun w2=>⟨[(4,.l (.d (.int .i64 x1.2))),(16,.l (.d (.bool w2)))],18,[],[],[]⟩) h (fun k2 hk2 h=>?_) (fun w2 h=>?_)
  · conv=>whnf
    refine fkS h (fun h=>?_) (fun h=>?_)
    · conv=>whnf
      exact jeS hk2 h (Weak.refl _)
    conv=>whnf
    exact jeS hk2 h (Weak.refl _)
  conv=>whnf
  refine fkS h (fun h=>?_) (fun h=>?_)
  · conv=>whnf
    exact rt (E:=E_Int) h rfl
  conv=>whnf
  exact rt (E:=E_Int) h rfl

end Go.Proofs.YtldlcdnhdedoeaaGreat
namespace Go.Proofs.YtldlcdnhdedoeaaGreat
open Go Go.VC
noncomputable def admit_unless_1 (a0:Bool) (a1:Int):Option Int:=
  fk a0 (some (0:Int)) (some a1)
theorem admit_unless_1_w (a0:Bool) (a1:Int) (r:Int) (h:admit_unless_1 a0 a1=some r):Go.VC.Spec Tryz.prog 134 [.dp [.bool a0],.dp [.int .i64 a1]] (fun y=>y=E_Int r):=by
  refine Go.VC.Spec.of_xc (args:=[.dp [.bool a0],.dp [.int .i64 a1]]) (fn:=Tryz.f134) tab ⟨[(0,[0,1]),(1,[1,3]),(2,[2]),(3,[2])],[],[],[]⟩ 5 [.tmp 2] rfl rfl rfl rfl rfl rfl ?_
  conv=>whnf
  refine fkS h (fun h=>?_) (fun h=>?_)
  · conv=>whnf
    exact rt (E:=E_Int) h rfl
  conv=>whnf
  exact rt (E:=E_Int) h rfl

end Go.Proofs.YtldlcdnhdedoeaaGreat
namespace Go.Proofs.YtldlcdnhdedoeaaGreat
open Go Go.VC
noncomputable def admit_first (a0:Bool) (a1:Int) (a2:List Task) (a3:Int) (a4:Int):Option Int:=
  lp (fun nx1 (v1:Int)=>fk (decide (v1<(2:Int))) (fk (decide (v1=(0:Int))) (bnd (admit_unless_1 a0 a1) fun x3=>fk (!decide (x3=(0:Int))) (some x3) (nx1 (wr (v1+(1:Int))))) (fk (decide (v1=(1:Int))) (bnd (admit_fit_1 a2 a3 a4) fun x2=>fk (!decide (x2=(0:Int))) (some x2) (nx1 (wr (v1+(1:Int))))) (none))) (some (0:Int))) FU (0:Int)
theorem admit_first_w (a0:Bool) (a1:Int) (a2:List Task) (a3:Int) (a4:Int) (r:Int) (h:admit_first a0 a1 a2 a3 a4=some r):Go.VC.Spec Tryz.prog 82 [.d (.sl [[.fn 134 [[.bool a0],[.int .i64 a1]]],[.fn 141 [[.sl (a2.map Task.enc)],[.int .i64 a3,.int .i64 a4]]]])] (fun y=>y=E_Int r):=by
  refine Go.VC.Spec.of_xc (args:=[.d (.sl [[.fn 134 [[.bool a0],[.int .i64 a1]]],[.fn 141 [[.sl (a2.map Task.enc)],[.int .i64 a3,.int .i64 a4]]]])]) (fn:=Tryz.f82) tab ⟨[(0,[0]),(1,[6,7,8]),(2,[6,7,8,9]),(3,[4,6,7,8]),(4,[5,6,7,8]),(5,[5,6,7,8,15]),(6,[2]),(7,[6,7,8]),(8,[2])],[],[],[]⟩ 18 [.tmp 2] rfl rfl rfl rfl rfl rfl ?_
  conv=>whnf
  refine lenR (2:Int) rfl ?_
  conv=>whnf
  refine lpS (fun v1=>⟨[(6,.l (.d (.sl [[.fn 134 [[.bool a0],[.int .i64 a1]]],[.fn 141 [[.sl (a2.map Task.enc)],[.int .i64 a3,.int .i64 a4]]]]))),(7,.l (.d (.int .i64 (2:Int)))),(8,.l (.d (.int .i64 v1)))],18,[],[],[]⟩) h (Weak.refl _) (fun _ nx1 hn1 v1 h=>?_)
  conv=>whnf
  refine fkS h (fun h=>?_) (fun h=>?_)
  · conv=>whnf
    refine ixC 0 [.fn 134 [[.bool a0],[.int .i64 a1]]] h rfl rfl (fun h=>?_) (fun h=>?_)
    · conv=>whnf
      refine caS (E:=E_Int) h (admit_unless_1_w a0 a1) rfl (fun _=>rfl) (fun x3 h=>?_)
      conv=>whnf
      refine fkS h (fun h=>?_) (fun h=>?_)
      · conv=>whnf
        exact rt (E:=E_Int) h rfl
      conv=>whnf
      exact leS hn1 h (Weak.refl _)
    conv=>whnf
    refine ixC 1 [.fn 141 [[.sl (a2.map Task.enc)],[.int .i64 a3,.int .i64 a4]]] h rfl rfl (fun h=>?_) (fun h=>?_)
    · conv=>whnf
      refine caS (E:=E_Int) h (admit_fit_1_w a2 a3 a4) rfl (fun _=>rfl) (fun x2 h=>?_)
      conv=>whnf
      refine fkS h (fun h=>?_) (fun h=>?_)
      · conv=>whnf
        exact rt (E:=E_Int) h rfl
      conv=>whnf
      exact leS hn1 h (Weak.refl _)
    conv=>whnf
    exact ixN h
  conv=>whnf
  exact rt (E:=E_Int) h rfl

end Go.Proofs.YtldlcdnhdedoeaaGreat
