/- Part 21 of what follows is proved here: what the statement TopAccepts needs of functions and plain laws. -/
import Derived.Test.YtldlcdnhdedoeaaGreatXTopAccepts8
import Derived.Test.YtldlcdnhdedoeaaGreatXTopAccepts9
import Derived.Test.YtldlcdnhdedoeaaGreatXTopAccepts0
set_option linter.unusedVariables false
set_option linter.unusedSimpArgs false
set_option maxRecDepth 100000
set_option maxHeartbeats 40000000
namespace Go.Proofs.YtldlcdnhdedoeaaGreat
open Go Go.VC
noncomputable def world_Play (a0:List Int) (a1:List (List KernelCmd)):Option ((List WorldView)×Int):=
  bnd (image_Decode a0) fun x1=>fk (!decide (x1.2.2=(0:Int))) (some ([],x1.2.2)) (bnd (kernel_Boot x1.1) fun x2=>fk (!decide (x2.2=(0:Int))) (some ([],x2.2)) (bnd (world_may a1) fun x3=>fk (!x3) (some ([],(5:Int))) (fk (decide ((x2.1.Parts.length:Int)=(0:Int))) (lp (fun nx88 (v88:Int×(List Window)×(List Face)×(List PartState)×(List PortLine)×Int×Int)=>fk (decide (v88.2.2.2.2.2.2<(a1.length:Int))) (ix a1 v88.2.2.2.2.2.2 fun x89=>lp (fun nx90 (v90:Int×(List Window)×(List Face)×(List PartState)×(List PortLine)×Int×Int)=>fk (decide (v90.2.2.2.2.2.2<(x89.length:Int))) (ix x89 v90.2.2.2.2.2.2 fun x91=>bnd (kernel_Do (⟨⟨v90.1,v90.2.1⟩,v90.2.2.1,v90.2.2.2.1,v90.2.2.2.2.1,v90.2.2.2.2.2.1⟩) x91) fun x92=>jn (fun (w93:Unit)=>nx90 (x92.1.Table.Frame,x92.1.Table.Windows,x92.1.Faces,x92.1.Parts,x92.1.Lines,x92.1.Now,(wr (v90.2.2.2.2.2.2+(1:Int))))) (fun k93=>jn (fun (w94:Bool)=>fk w94 (none) (k93 ())) (fun k94=>fk (decide (x91.Part≥(0:Int))) (k94 (decide (x91.Part<(0:Int)))) (k94 false)))) (bnd (kernel_Tick (⟨⟨v90.1,v90.2.1⟩,v90.2.2.1,v90.2.2.2.1,v90.2.2.2.2.1,v90.2.2.2.2.2.1⟩)) fun x95=>lp (fun nx96 (v96:Unit)=>nx88 (x95.1.Table.Frame,x95.1.Table.Windows,x95.1.Faces,x95.1.Parts,x95.1.Lines,x95.1.Now,(wr (v88.2.2.2.2.2.2+(1:Int))))) FU ())) FU (v88.1,v88.2.1,v88.2.2.1,v88.2.2.2.1,v88.2.2.2.2.1,v88.2.2.2.2.2.1,(0:Int))) (lp (fun nx97 (v97:Unit)=>some (([]:List WorldView),(0:Int))) FU ())) FU (x2.1.Table.Frame,x2.1.Table.Windows,x2.1.Faces,x2.1.Parts,x2.1.Lines,x2.1.Now,(0:Int))) (fk (decide ((x2.1.Parts.length:Int)=(1:Int))) (lp (fun nx73 (v73:Int×(List Window)×(List Face)×(List PartState)×(List PortLine)×Int×(List WorldSaw)×(List Int)×Int)=>fk (decide (v73.2.2.2.2.2.2.2.2<(a1.length:Int))) (ix a1 v73.2.2.2.2.2.2.2.2 fun x74=>lp (fun nx75 (v75:Int×(List Window)×(List Face)×(List PartState)×(List PortLine)×Int×(List WorldSaw)×Int)=>fk (decide (v75.2.2.2.2.2.2.2<(x74.length:Int))) (ix x74 v75.2.2.2.2.2.2.2 fun x76=>bnd (kernel_Do (⟨⟨v75.1,v75.2.1⟩,v75.2.2.1,v75.2.2.2.1,v75.2.2.2.2.1,v75.2.2.2.2.2.1⟩) x76) fun x77=>jn (fun (w78:List WorldSaw)=>nx75 (x77.1.Table.Frame,x77.1.Table.Windows,x77.1.Faces,x77.1.Parts,x77.1.Lines,x77.1.Now,w78,(wr (v75.2.2.2.2.2.2.2+(1:Int))))) (fun k78=>jn (fun (w79:Bool)=>fk w79 (fk (decide (x76.Part=(0:Int))) (ck (decide ((v75.2.2.2.2.2.2.1.length+([⟨v73.2.2.2.2.2.2.2.2,x77.2.1,x77.2.2⟩]:List WorldSaw).length)*24≤140737488355328)) (k78 (v75.2.2.2.2.2.2.1++([⟨v73.2.2.2.2.2.2.2.2,x77.2.1,x77.2.2⟩]:List WorldSaw)))) (none)) (k78 v75.2.2.2.2.2.2.1)) (fun k79=>fk (decide (x76.Part≥(0:Int))) (k79 (decide (x76.Part<(1:Int)))) (k79 false)))) (bnd (kernel_Tick (⟨⟨v75.1,v75.2.1⟩,v75.2.2.1,v75.2.2.2.1,v75.2.2.2.2.1,v75.2.2.2.2.2.1⟩)) fun x81=>lp (fun nx82 (v82:(List Int)×Int)=>fk (decide (v82.2<(1:Int))) (fk (decide (v82.2=(0:Int))) (ix x81.2.1 v82.2 fun x84=>ck (decide ((v82.1.length+([x84]:List Int).length)*8≤140737488355328)) (nx82 (v82.1++([x84]:List Int),(wr (v82.2+(1:Int)))))) (none)) (nx73 (x81.1.Table.Frame,x81.1.Table.Windows,x81.1.Faces,x81.1.Parts,x81.1.Lines,x81.1.Now,v75.2.2.2.2.2.2.1,v82.1,(wr (v73.2.2.2.2.2.2.2.2+(1:Int)))))) FU (v73.2.2.2.2.2.2.2.1,(0:Int)))) FU (v73.1,v73.2.1,v73.2.2.1,v73.2.2.2.1,v73.2.2.2.2.1,v73.2.2.2.2.2.1,v73.2.2.2.2.2.2.1,(0:Int))) (lp (fun nx85 (v85:(List Entry)×Int)=>fk (decide (v85.2<(1:Int))) (ix v73.2.2.2.1 v85.2 fun x86=>fk (decide (v85.2=(0:Int))) (nx85 (x86.Log,(wr (v85.2+(1:Int))))) (none)) (some (([⟨v73.2.2.2.2.2.2.1,v73.2.2.2.2.2.2.2.1,v85.1⟩]:List WorldView),(0:Int)))) FU ([],(0:Int)))) FU (x2.1.Table.Frame,x2.1.Table.Windows,x2.1.Faces,x2.1.Parts,x2.1.Lines,x2.1.Now,[],[],(0:Int))) (fk (decide ((x2.1.Parts.length:Int)=(2:Int))) (lp (fun nx54 (v54:Int×(List Window)×(List Face)×(List PartState)×(List PortLine)×Int×(List WorldSaw)×(List Int)×(List WorldSaw)×(List Int)×Int)=>fk (decide (v54.2.2.2.2.2.2.2.2.2.2<(a1.length:Int))) (ix a1 v54.2.2.2.2.2.2.2.2.2.2 fun x55=>lp (fun nx56 (v56:Int×(List Window)×(List Face)×(List PartState)×(List PortLine)×Int×(List WorldSaw)×(List WorldSaw)×Int)=>fk (decide (v56.2.2.2.2.2.2.2.2<(x55.length:Int))) (ix x55 v56.2.2.2.2.2.2.2.2 fun x57=>bnd (kernel_Do (⟨⟨v56.1,v56.2.1⟩,v56.2.2.1,v56.2.2.2.1,v56.2.2.2.2.1,v56.2.2.2.2.2.1⟩) x57) fun x58=>jn (fun (w59:(List WorldSaw)×(List WorldSaw))=>nx56 (x58.1.Table.Frame,x58.1.Table.Windows,x58.1.Faces,x58.1.Parts,x58.1.Lines,x58.1.Now,w59.1,w59.2,(wr (v56.2.2.2.2.2.2.2.2+(1:Int))))) (fun k59=>jn (fun (w60:Bool)=>fk w60 (fk (decide (x57.Part=(0:Int))) (ck (decide ((v56.2.2.2.2.2.2.1.length+([⟨v54.2.2.2.2.2.2.2.2.2.2,x58.2.1,x58.2.2⟩]:List WorldSaw).length)*24≤140737488355328)) (k59 (v56.2.2.2.2.2.2.1++([⟨v54.2.2.2.2.2.2.2.2.2.2,x58.2.1,x58.2.2⟩]:List WorldSaw),v56.2.2.2.2.2.2.2.1))) (fk (decide (x57.Part=(1:Int))) (ck (decide ((v56.2.2.2.2.2.2.2.1.length+([⟨v54.2.2.2.2.2.2.2.2.2.2,x58.2.1,x58.2.2⟩]:List WorldSaw).length)*24≤140737488355328)) (k59 (v56.2.2.2.2.2.2.1,v56.2.2.2.2.2.2.2.1++([⟨v54.2.2.2.2.2.2.2.2.2.2,x58.2.1,x58.2.2⟩]:List WorldSaw)))) (none))) (k59 (v56.2.2.2.2.2.2.1,v56.2.2.2.2.2.2.2.1))) (fun k60=>fk (decide (x57.Part≥(0:Int))) (k60 (decide (x57.Part<(2:Int)))) (k60 false)))) (bnd (kernel_Tick (⟨⟨v56.1,v56.2.1⟩,v56.2.2.1,v56.2.2.2.1,v56.2.2.2.2.1,v56.2.2.2.2.2.1⟩)) fun x63=>lp (fun nx64 (v64:(List Int)×(List Int)×Int)=>fk (decide (v64.2.2<(2:Int))) (fk (decide (v64.2.2=(0:Int))) (ix x63.2.1 v64.2.2 fun x68=>ck (decide ((v64.1.length+([x68]:List Int).length)*8≤140737488355328)) (nx64 (v64.1++([x68]:List Int),v64.2.1,(wr (v64.2.2+(1:Int)))))) (fk (decide (v64.2.2=(1:Int))) (ix x63.2.1 v64.2.2 fun x67=>ck (decide ((v64.2.1.length+([x67]:List Int).length)*8≤140737488355328)) (nx64 (v64.1,v64.2.1++([x67]:List Int),(wr (v64.2.2+(1:Int)))))) (none))) (nx54 (x63.1.Table.Frame,x63.1.Table.Windows,x63.1.Faces,x63.1.Parts,x63.1.Lines,x63.1.Now,v56.2.2.2.2.2.2.1,v64.1,v56.2.2.2.2.2.2.2.1,v64.2.1,(wr (v54.2.2.2.2.2.2.2.2.2.2+(1:Int)))))) FU (v54.2.2.2.2.2.2.2.1,v54.2.2.2.2.2.2.2.2.2.1,(0:Int)))) FU (v54.1,v54.2.1,v54.2.2.1,v54.2.2.2.1,v54.2.2.2.2.1,v54.2.2.2.2.2.1,v54.2.2.2.2.2.2.1,v54.2.2.2.2.2.2.2.2.1,(0:Int))) (lp (fun nx69 (v69:(List Entry)×(List Entry)×Int)=>fk (decide (v69.2.2<(2:Int))) (ix v54.2.2.2.1 v69.2.2 fun x70=>fk (decide (v69.2.2=(0:Int))) (nx69 (x70.Log,v69.2.1,(wr (v69.2.2+(1:Int))))) (fk (decide (v69.2.2=(1:Int))) (nx69 (v69.1,x70.Log,(wr (v69.2.2+(1:Int))))) (none))) (some (([⟨v54.2.2.2.2.2.2.1,v54.2.2.2.2.2.2.2.1,v69.1⟩,⟨v54.2.2.2.2.2.2.2.2.1,v54.2.2.2.2.2.2.2.2.2.1,v69.2.1⟩]:List WorldView),(0:Int)))) FU ([],[],(0:Int)))) FU (x2.1.Table.Frame,x2.1.Table.Windows,x2.1.Faces,x2.1.Parts,x2.1.Lines,x2.1.Now,[],[],[],[],(0:Int))) (fk (decide ((x2.1.Parts.length:Int)=(3:Int))) (lp (fun nx31 (v31:Int×(List Window)×(List Face)×(List PartState)×(List PortLine)×Int×(List WorldSaw)×(List Int)×(List WorldSaw)×(List Int)×(List WorldSaw)×(List Int)×Int)=>fk (decide (v31.2.2.2.2.2.2.2.2.2.2.2.2<(a1.length:Int))) (ix a1 v31.2.2.2.2.2.2.2.2.2.2.2.2 fun x32=>lp (fun nx33 (v33:Int×(List Window)×(List Face)×(List PartState)×(List PortLine)×Int×(List WorldSaw)×(List WorldSaw)×(List WorldSaw)×Int)=>fk (decide (v33.2.2.2.2.2.2.2.2.2<(x32.length:Int))) (ix x32 v33.2.2.2.2.2.2.2.2.2 fun x34=>bnd (kernel_Do (⟨⟨v33.1,v33.2.1⟩,v33.2.2.1,v33.2.2.2.1,v33.2.2.2.2.1,v33.2.2.2.2.2.1⟩) x34) fun x35=>jn (fun (w36:(List WorldSaw)×(List WorldSaw)×(List WorldSaw))=>nx33 (x35.1.Table.Frame,x35.1.Table.Windows,x35.1.Faces,x35.1.Parts,x35.1.Lines,x35.1.Now,w36.1,w36.2.1,w36.2.2,(wr (v33.2.2.2.2.2.2.2.2.2+(1:Int))))) (fun k36=>jn (fun (w37:Bool)=>fk w37 (fk (decide (x34.Part=(0:Int))) (ck (decide ((v33.2.2.2.2.2.2.1.length+([⟨v31.2.2.2.2.2.2.2.2.2.2.2.2,x35.2.1,x35.2.2⟩]:List WorldSaw).length)*24≤140737488355328)) (k36 (v33.2.2.2.2.2.2.1++([⟨v31.2.2.2.2.2.2.2.2.2.2.2.2,x35.2.1,x35.2.2⟩]:List WorldSaw),v33.2.2.2.2.2.2.2.1,v33.2.2.2.2.2.2.2.2.1))) (fk (decide (x34.Part=(1:Int))) (ck (decide ((v33.2.2.2.2.2.2.2.1.length+([⟨v31.2.2.2.2.2.2.2.2.2.2.2.2,x35.2.1,x35.2.2⟩]:List WorldSaw).length)*24≤140737488355328)) (k36 (v33.2.2.2.2.2.2.1,v33.2.2.2.2.2.2.2.1++([⟨v31.2.2.2.2.2.2.2.2.2.2.2.2,x35.2.1,x35.2.2⟩]:List WorldSaw),v33.2.2.2.2.2.2.2.2.1))) (fk (decide (x34.Part=(2:Int))) (ck (decide ((v33.2.2.2.2.2.2.2.2.1.length+([⟨v31.2.2.2.2.2.2.2.2.2.2.2.2,x35.2.1,x35.2.2⟩]:List WorldSaw).length)*24≤140737488355328)) (k36 (v33.2.2.2.2.2.2.1,v33.2.2.2.2.2.2.2.1,v33.2.2.2.2.2.2.2.2.1++([⟨v31.2.2.2.2.2.2.2.2.2.2.2.2,x35.2.1,x35.2.2⟩]:List WorldSaw)))) (none)))) (k36 (v33.2.2.2.2.2.2.1,v33.2.2.2.2.2.2.2.1,v33.2.2.2.2.2.2.2.2.1))) (fun k37=>fk (decide (x34.Part≥(0:Int))) (k37 (decide (x34.Part<(3:Int)))) (k37 false)))) (bnd (kernel_Tick (⟨⟨v33.1,v33.2.1⟩,v33.2.2.1,v33.2.2.2.1,v33.2.2.2.2.1,v33.2.2.2.2.2.1⟩)) fun x41=>lp (fun nx42 (v42:(List Int)×(List Int)×(List Int)×Int)=>fk (decide (v42.2.2.2<(3:Int))) (fk (decide (v42.2.2.2=(0:Int))) (ix x41.2.1 v42.2.2.2 fun x48=>ck (decide ((v42.1.length+([x48]:List Int).length)*8≤140737488355328)) (nx42 (v42.1++([x48]:List Int),v42.2.1,v42.2.2.1,(wr (v42.2.2.2+(1:Int)))))) (fk (decide (v42.2.2.2=(1:Int))) (ix x41.2.1 v42.2.2.2 fun x47=>ck (decide ((v42.2.1.length+([x47]:List Int).length)*8≤140737488355328)) (nx42 (v42.1,v42.2.1++([x47]:List Int),v42.2.2.1,(wr (v42.2.2.2+(1:Int)))))) (fk (decide (v42.2.2.2=(2:Int))) (ix x41.2.1 v42.2.2.2 fun x46=>ck (decide ((v42.2.2.1.length+([x46]:List Int).length)*8≤140737488355328)) (nx42 (v42.1,v42.2.1,v42.2.2.1++([x46]:List Int),(wr (v42.2.2.2+(1:Int)))))) (none)))) (nx31 (x41.1.Table.Frame,x41.1.Table.Windows,x41.1.Faces,x41.1.Parts,x41.1.Lines,x41.1.Now,v33.2.2.2.2.2.2.1,v42.1,v33.2.2.2.2.2.2.2.1,v42.2.1,v33.2.2.2.2.2.2.2.2.1,v42.2.2.1,(wr (v31.2.2.2.2.2.2.2.2.2.2.2.2+(1:Int)))))) FU (v31.2.2.2.2.2.2.2.1,v31.2.2.2.2.2.2.2.2.2.1,v31.2.2.2.2.2.2.2.2.2.2.2.1,(0:Int)))) FU (v31.1,v31.2.1,v31.2.2.1,v31.2.2.2.1,v31.2.2.2.2.1,v31.2.2.2.2.2.1,v31.2.2.2.2.2.2.1,v31.2.2.2.2.2.2.2.2.1,v31.2.2.2.2.2.2.2.2.2.2.1,(0:Int))) (lp (fun nx49 (v49:(List Entry)×(List Entry)×(List Entry)×Int)=>fk (decide (v49.2.2.2<(3:Int))) (ix v31.2.2.2.1 v49.2.2.2 fun x50=>fk (decide (v49.2.2.2=(0:Int))) (nx49 (x50.Log,v49.2.1,v49.2.2.1,(wr (v49.2.2.2+(1:Int))))) (fk (decide (v49.2.2.2=(1:Int))) (nx49 (v49.1,x50.Log,v49.2.2.1,(wr (v49.2.2.2+(1:Int))))) (fk (decide (v49.2.2.2=(2:Int))) (nx49 (v49.1,v49.2.1,x50.Log,(wr (v49.2.2.2+(1:Int))))) (none)))) (some (([⟨v31.2.2.2.2.2.2.1,v31.2.2.2.2.2.2.2.1,v49.1⟩,⟨v31.2.2.2.2.2.2.2.2.1,v31.2.2.2.2.2.2.2.2.2.1,v49.2.1⟩,⟨v31.2.2.2.2.2.2.2.2.2.2.1,v31.2.2.2.2.2.2.2.2.2.2.2.1,v49.2.2.1⟩]:List WorldView),(0:Int)))) FU ([],[],[],(0:Int)))) FU (x2.1.Table.Frame,x2.1.Table.Windows,x2.1.Faces,x2.1.Parts,x2.1.Lines,x2.1.Now,[],[],[],[],[],[],(0:Int))) (fk (decide ((x2.1.Parts.length:Int)=(4:Int))) (lp (fun nx4 (v4:Int×(List Window)×(List Face)×(List PartState)×(List PortLine)×Int×(List WorldSaw)×(List Int)×(List WorldSaw)×(List Int)×(List WorldSaw)×(List Int)×(List WorldSaw)×(List Int)×Int)=>fk (decide (v4.2.2.2.2.2.2.2.2.2.2.2.2.2.2<(a1.length:Int))) (ix a1 v4.2.2.2.2.2.2.2.2.2.2.2.2.2.2 fun x5=>lp (fun nx6 (v6:Int×(List Window)×(List Face)×(List PartState)×(List PortLine)×Int×(List WorldSaw)×(List WorldSaw)×(List WorldSaw)×(List WorldSaw)×Int)=>fk (decide (v6.2.2.2.2.2.2.2.2.2.2<(x5.length:Int))) (ix x5 v6.2.2.2.2.2.2.2.2.2.2 fun x7=>bnd (kernel_Do (⟨⟨v6.1,v6.2.1⟩,v6.2.2.1,v6.2.2.2.1,v6.2.2.2.2.1,v6.2.2.2.2.2.1⟩) x7) fun x8=>jn (fun (w9:(List WorldSaw)×(List WorldSaw)×(List WorldSaw)×(List WorldSaw))=>nx6 (x8.1.Table.Frame,x8.1.Table.Windows,x8.1.Faces,x8.1.Parts,x8.1.Lines,x8.1.Now,w9.1,w9.2.1,w9.2.2.1,w9.2.2.2,(wr (v6.2.2.2.2.2.2.2.2.2.2+(1:Int))))) (fun k9=>jn (fun (w10:Bool)=>fk w10 (fk (decide (x7.Part=(0:Int))) (ck (decide ((v6.2.2.2.2.2.2.1.length+([⟨v4.2.2.2.2.2.2.2.2.2.2.2.2.2.2,x8.2.1,x8.2.2⟩]:List WorldSaw).length)*24≤140737488355328)) (k9 (v6.2.2.2.2.2.2.1++([⟨v4.2.2.2.2.2.2.2.2.2.2.2.2.2.2,x8.2.1,x8.2.2⟩]:List WorldSaw),v6.2.2.2.2.2.2.2.1,v6.2.2.2.2.2.2.2.2.1,v6.2.2.2.2.2.2.2.2.2.1))) (fk (decide (x7.Part=(1:Int))) (ck (decide ((v6.2.2.2.2.2.2.2.1.length+([⟨v4.2.2.2.2.2.2.2.2.2.2.2.2.2.2,x8.2.1,x8.2.2⟩]:List WorldSaw).length)*24≤140737488355328)) (k9 (v6.2.2.2.2.2.2.1,v6.2.2.2.2.2.2.2.1++([⟨v4.2.2.2.2.2.2.2.2.2.2.2.2.2.2,x8.2.1,x8.2.2⟩]:List WorldSaw),v6.2.2.2.2.2.2.2.2.1,v6.2.2.2.2.2.2.2.2.2.1))) (fk (decide (x7.Part=(2:Int))) (ck (decide ((v6.2.2.2.2.2.2.2.2.1.length+([⟨v4.2.2.2.2.2.2.2.2.2.2.2.2.2.2,x8.2.1,x8.2.2⟩]:List WorldSaw).length)*24≤140737488355328)) (k9 (v6.2.2.2.2.2.2.1,v6.2.2.2.2.2.2.2.1,v6.2.2.2.2.2.2.2.2.1++([⟨v4.2.2.2.2.2.2.2.2.2.2.2.2.2.2,x8.2.1,x8.2.2⟩]:List WorldSaw),v6.2.2.2.2.2.2.2.2.2.1))) (fk (decide (x7.Part=(3:Int))) (ck (decide ((v6.2.2.2.2.2.2.2.2.2.1.length+([⟨v4.2.2.2.2.2.2.2.2.2.2.2.2.2.2,x8.2.1,x8.2.2⟩]:List WorldSaw).length)*24≤140737488355328)) (k9 (v6.2.2.2.2.2.2.1,v6.2.2.2.2.2.2.2.1,v6.2.2.2.2.2.2.2.2.1,v6.2.2.2.2.2.2.2.2.2.1++([⟨v4.2.2.2.2.2.2.2.2.2.2.2.2.2.2,x8.2.1,x8.2.2⟩]:List WorldSaw)))) (none))))) (k9 (v6.2.2.2.2.2.2.1,v6.2.2.2.2.2.2.2.1,v6.2.2.2.2.2.2.2.2.1,v6.2.2.2.2.2.2.2.2.2.1))) (fun k10=>fk (decide (x7.Part≥(0:Int))) (k10 (decide (x7.Part<(4:Int)))) (k10 false)))) (bnd (kernel_Tick (⟨⟨v6.1,v6.2.1⟩,v6.2.2.1,v6.2.2.2.1,v6.2.2.2.2.1,v6.2.2.2.2.2.1⟩)) fun x15=>lp (fun nx16 (v16:(List Int)×(List Int)×(List Int)×(List Int)×Int)=>fk (decide (v16.2.2.2.2<(4:Int))) (fk (decide (v16.2.2.2.2=(0:Int))) (ix x15.2.1 v16.2.2.2.2 fun x24=>ck (decide ((v16.1.length+([x24]:List Int).length)*8≤140737488355328)) (nx16 (v16.1++([x24]:List Int),v16.2.1,v16.2.2.1,v16.2.2.2.1,(wr (v16.2.2.2.2+(1:Int)))))) (fk (decide (v16.2.2.2.2=(1:Int))) (ix x15.2.1 v16.2.2.2.2 fun x23=>ck (decide ((v16.2.1.length+([x23]:List Int).length)*8≤140737488355328)) (nx16 (v16.1,v16.2.1++([x23]:List Int),v16.2.2.1,v16.2.2.2.1,(wr (v16.2.2.2.2+(1:Int)))))) (fk (decide (v16.2.2.2.2=(2:Int))) (ix x15.2.1 v16.2.2.2.2 fun x22=>ck (decide ((v16.2.2.1.length+([x22]:List Int).length)*8≤140737488355328)) (nx16 (v16.1,v16.2.1,v16.2.2.1++([x22]:List Int),v16.2.2.2.1,(wr (v16.2.2.2.2+(1:Int)))))) (fk (decide (v16.2.2.2.2=(3:Int))) (ix x15.2.1 v16.2.2.2.2 fun x21=>ck (decide ((v16.2.2.2.1.length+([x21]:List Int).length)*8≤140737488355328)) (nx16 (v16.1,v16.2.1,v16.2.2.1,v16.2.2.2.1++([x21]:List Int),(wr (v16.2.2.2.2+(1:Int)))))) (none))))) (nx4 (x15.1.Table.Frame,x15.1.Table.Windows,x15.1.Faces,x15.1.Parts,x15.1.Lines,x15.1.Now,v6.2.2.2.2.2.2.1,v16.1,v6.2.2.2.2.2.2.2.1,v16.2.1,v6.2.2.2.2.2.2.2.2.1,v16.2.2.1,v6.2.2.2.2.2.2.2.2.2.1,v16.2.2.2.1,(wr (v4.2.2.2.2.2.2.2.2.2.2.2.2.2.2+(1:Int)))))) FU (v4.2.2.2.2.2.2.2.1,v4.2.2.2.2.2.2.2.2.2.1,v4.2.2.2.2.2.2.2.2.2.2.2.1,v4.2.2.2.2.2.2.2.2.2.2.2.2.2.1,(0:Int)))) FU (v4.1,v4.2.1,v4.2.2.1,v4.2.2.2.1,v4.2.2.2.2.1,v4.2.2.2.2.2.1,v4.2.2.2.2.2.2.1,v4.2.2.2.2.2.2.2.2.1,v4.2.2.2.2.2.2.2.2.2.2.1,v4.2.2.2.2.2.2.2.2.2.2.2.2.1,(0:Int))) (lp (fun nx25 (v25:(List Entry)×(List Entry)×(List Entry)×(List Entry)×Int)=>fk (decide (v25.2.2.2.2<(4:Int))) (ix v4.2.2.2.1 v25.2.2.2.2 fun x26=>fk (decide (v25.2.2.2.2=(0:Int))) (nx25 (x26.Log,v25.2.1,v25.2.2.1,v25.2.2.2.1,(wr (v25.2.2.2.2+(1:Int))))) (fk (decide (v25.2.2.2.2=(1:Int))) (nx25 (v25.1,x26.Log,v25.2.2.1,v25.2.2.2.1,(wr (v25.2.2.2.2+(1:Int))))) (fk (decide (v25.2.2.2.2=(2:Int))) (nx25 (v25.1,v25.2.1,x26.Log,v25.2.2.2.1,(wr (v25.2.2.2.2+(1:Int))))) (fk (decide (v25.2.2.2.2=(3:Int))) (nx25 (v25.1,v25.2.1,v25.2.2.1,x26.Log,(wr (v25.2.2.2.2+(1:Int))))) (none))))) (some (([⟨v4.2.2.2.2.2.2.1,v4.2.2.2.2.2.2.2.1,v25.1⟩,⟨v4.2.2.2.2.2.2.2.2.1,v4.2.2.2.2.2.2.2.2.2.1,v25.2.1⟩,⟨v4.2.2.2.2.2.2.2.2.2.2.1,v4.2.2.2.2.2.2.2.2.2.2.2.1,v25.2.2.1⟩,⟨v4.2.2.2.2.2.2.2.2.2.2.2.2.1,v4.2.2.2.2.2.2.2.2.2.2.2.2.2.1,v25.2.2.2.1⟩]:List WorldView),(0:Int)))) FU ([],[],[],[],(0:Int)))) FU (x2.1.Table.Frame,x2.1.Table.Windows,x2.1.Faces,x2.1.Parts,x2.1.Lines,x2.1.Now,[],[],[],[],[],[],[],[],(0:Int))) (none))))))))
theorem world_Play_w (a0:List Int) (a1:List (List KernelCmd)) (r:(List WorldView)×Int) (h:world_Play a0 a1=some r):Go.VC.Spec Tryz.prog 41 [.d (.sl (a0.map (eI .u8))),.d (.sl (a1.map (eL KernelCmd.enc)))] (fun y=>y=E_ListWorldView_Int r):=by
  refine Go.VC.Spec.of_xc (args:=[.d (.sl (a0.map (eI .u8))),.d (.sl (a1.map (eL KernelCmd.enc)))]) (fn:=Tryz.f41) tab ⟨[(0,[0,1]),(1,[1,6,8]),(2,[1,6,8,30]),(3,[4,5]),(4,[1,8,9]),(5,[1,8,9,38]),(6,[4,5]),(7,[1,9,42]),(8,[4,5]),(9,[1,9,10]),(10,[9,10,47,48,49]),(11,[9,10,47,48,49,50]),(12,[9,10,11,12,47,48,49]),(13,[9,10,11,47,48,49,54,55,56]),(14,[9,10,11,47,48,49,54,55,56,57]),(15,[9,10,11,14,47,48,49,54,55,56]),(16,[9,10,11,14,15,16,17,47,48,49,54,55,56]),(17,[9,10,11,14,15,16,17,47,48,49,54,55,56,76]),(18,[9,10,11,15,47,48,49,54,55,56]),(19,[9,10,11,47,48,49,54,55,56]),(20,[9,10,11,47,48,49,54,55,56]),(21,[9,10,18,19,47,48,49]),(22,[9,10,18,19,47,48,49,103,104]),(23,[9,10,18,19,47,48,49,103,104,105]),(24,[9,10,18,19,21,47,48,49,103,104]),(25,[9,10,18,19,47,48,49,103,104]),(26,[9,10,18,19,47,48,49,103,104]),(27,[9,10,47,48,49]),(28,[9,10,47,48,49]),(29,[9,10,126,127]),(30,[9,10,126,127,128]),(31,[9,10,22,126,127]),(32,[9,10,126,127]),(33,[9,10,126,127]),(34,[4,5])],[],[100076,19],[]⟩ 142 [.tmp 4,.tmp 5] rfl rfl rfl rfl rfl rfl ?_
  conv=>whnf
  refine ccS (E:=E_Config_Int_Int) h (image_Decode_w a0) rfl rfl (fun x1 h=>?_)
  conv=>whnf
  refine fkS h (fun h=>?_) (fun h=>?_)
  · conv=>whnf
    exact rt (E:=E_ListWorldView_Int) h rfl
  conv=>whnf
  refine ccS (E:=E_KernelState_Int) h (kernel_Boot_w x1.1) rfl rfl (fun x2 h=>?_)
  conv=>whnf
  refine fkS h (fun h=>?_) (fun h=>?_)
  · conv=>whnf
    exact rt (E:=E_ListWorldView_Int) h rfl
  conv=>whnf
  refine caS (E:=E_Bool) h (world_may_w a1) rfl (fun _=>rfl) (fun x3 h=>?_)
  conv=>whnf
  refine fkS h (fun h=>?_) (fun h=>?_)
  · conv=>whnf
    exact rt (E:=E_ListWorldView_Int) h rfl
  conv=>whnf
  refine lenS x2.1.Parts PartState.enc rfl ?_
  conv=>whnf
  refine mkF h (fun hb h=>?_) (fun h=>?_)
  · conv=>whnf
    refine mkB0 tab rfl rfl rfl rfl (of_decide_eq_true hb) (of_decide_eq_true hb) rfl rfl rfl ?_
    conv=>whnf
    refine lenS a1 (eL KernelCmd.enc) rfl ?_
    conv=>whnf
    refine lpS (fun v88=>⟨[(9,.l (.ptr 10 0)),(10,.l (.d (.sl (([]:List WorldView).map WorldView.enc)))),(47,.l (.d (.sl (a1.map (eL KernelCmd.enc))))),(48,.l (.d (.int .i64 (a1.length:Int)))),(49,.l (.d (.int .i64 v88.2.2.2.2.2.2)))],142,[],[(10,[.d (.int .i64 v88.1),.d (.sl (v88.2.1.map Window.enc)),.d (.sl (v88.2.2.1.map Face.enc)),.d (.sl (v88.2.2.2.1.map PartState.enc)),.d (.sl (v88.2.2.2.2.1.map PortLine.enc)),.d (.int .i64 v88.2.2.2.2.2.1)])],[]⟩) h (Weak.refl _) (fun _ nx88 hn88 v88 h=>?_)
    conv=>whnf
    refine fkS h (fun h=>?_) (fun h=>?_)
    · conv=>whnf
      refine ixS (enc:=(eL KernelCmd.enc)) h rfl (fun _=>rfl) (fun x89 h=>?_)
      conv=>whnf
      refine lenS x89 KernelCmd.enc rfl ?_
      conv=>whnf
      refine lpS (fun v90=>⟨[(9,.l (.ptr 10 0)),(10,.l (.d (.sl (([]:List WorldView).map WorldView.enc)))),(11,.l (.d (.int .i64 v88.2.2.2.2.2.2))),(47,.l (.d (.sl (a1.map (eL KernelCmd.enc))))),(48,.l (.d (.int .i64 (a1.length:Int)))),(49,.l (.d (.int .i64 v88.2.2.2.2.2.2))),(54,.l (.d (.sl (x89.map KernelCmd.enc)))),(55,.l (.d (.int .i64 (x89.length:Int)))),(56,.l (.d (.int .i64 v90.2.2.2.2.2.2)))],142,[],[(10,[.d (.int .i64 v90.1),.d (.sl (v90.2.1.map Window.enc)),.d (.sl (v90.2.2.1.map Face.enc)),.d (.sl (v90.2.2.2.1.map PartState.enc)),.d (.sl (v90.2.2.2.2.1.map PortLine.enc)),.d (.int .i64 v90.2.2.2.2.2.1)])],[]⟩) h (Weak.refl _) (fun _ nx90 hn90 v90 h=>?_)
      conv=>whnf
      refine fkS h (fun h=>?_) (fun h=>?_)
      · conv=>whnf
        refine ixS (enc:=KernelCmd.enc) h rfl (fun _=>rfl) (fun x91 h=>?_)
        conv=>whnf
        refine ccS (E:=E_KernelState_Int_Int) h (kernel_Do_w (⟨⟨v90.1,v90.2.1⟩,v90.2.2.1,v90.2.2.2.1,v90.2.2.2.2.1,v90.2.2.2.2.2.1⟩) x91) rfl rfl (fun x92 h=>?_)
        conv=>whnf
        refine jnS (fun w93=>⟨[(9,.l (.ptr 10 0)),(10,.l (.d (.sl (([]:List WorldView).map WorldView.enc)))),(11,.l (.d (.int .i64 v88.2.2.2.2.2.2))),(15,.l (.ptr 16 0)),(47,.l (.d (.sl (a1.map (eL KernelCmd.enc))))),(48,.l (.d (.int .i64 (a1.length:Int)))),(49,.l (.d (.int .i64 v88.2.2.2.2.2.2))),(54,.l (.d (.sl (x89.map KernelCmd.enc)))),(55,.l (.d (.int .i64 (x89.length:Int)))),(56,.l (.d (.int .i64 v90.2.2.2.2.2.2)))],142,[],[(10,[.d (.int .i64 v90.1),.d (.sl (v90.2.1.map Window.enc)),.d (.sl (v90.2.2.1.map Face.enc)),.d (.sl (v90.2.2.2.1.map PartState.enc)),.d (.sl (v90.2.2.2.2.1.map PortLine.enc)),.d (.int .i64 v90.2.2.2.2.2.1)]),(16,[.d (.int .i64 x92.1.Table.Frame),.d (.sl (x92.1.Table.Windows.map Window.enc)),.d (.sl (x92.1.Faces.map Face.enc)),.d (.sl (x92.1.Parts.map PartState.enc)),.d (.sl (x92.1.Lines.map PortLine.enc)),.d (.int .i64 x92.1.Now)])],[]⟩) h (fun k93 hk93 h=>?_) (fun w93 h=>?_)
        · conv=>whnf
          refine jnS (fun w94=>⟨[(9,.l (.ptr 10 0)),(10,.l (.d (.sl (([]:List WorldView).map WorldView.enc)))),(11,.l (.d (.int .i64 v88.2.2.2.2.2.2))),(14,.l (.ptr 15 0)),(15,.l (.ptr 16 0)),(16,.l (.d (.int .i64 x92.2.1))),(17,.l (.d (.int .i64 x92.2.2))),(47,.l (.d (.sl (a1.map (eL KernelCmd.enc))))),(48,.l (.d (.int .i64 (a1.length:Int)))),(49,.l (.d (.int .i64 v88.2.2.2.2.2.2))),(54,.l (.d (.sl (x89.map KernelCmd.enc)))),(55,.l (.d (.int .i64 (x89.length:Int)))),(56,.l (.d (.int .i64 v90.2.2.2.2.2.2))),(76,.l (.d (.bool w94)))],142,[],[(10,[.d (.int .i64 v90.1),.d (.sl (v90.2.1.map Window.enc)),.d (.sl (v90.2.2.1.map Face.enc)),.d (.sl (v90.2.2.2.1.map PartState.enc)),.d (.sl (v90.2.2.2.2.1.map PortLine.enc)),.d (.int .i64 v90.2.2.2.2.2.1)]),(15,[.d (.int .i64 x91.Part),.d (.int .i64 x91.Kind),.d (.int .i64 x91.I),.d (.int .i64 x91.V),.d (.int .i64 x91.T.C),.d (.int .i64 x91.T.D),.d (.int .i64 x91.T.T),.d (.sl (x91.T.Secs.map Sec.enc))]),(16,[.d (.int .i64 x92.1.Table.Frame),.d (.sl (x92.1.Table.Windows.map Window.enc)),.d (.sl (x92.1.Faces.map Face.enc)),.d (.sl (x92.1.Parts.map PartState.enc)),.d (.sl (x92.1.Lines.map PortLine.enc)),.d (.int .i64 x92.1.Now)])],[]⟩) h (fun k94 hk94 h=>?_) (fun w94 h=>?_)
          · conv=>whnf
            refine fkS h (fun h=>?_) (fun h=>?_)
            · conv=>whnf
              refine lenS ([]:List WorldView) WorldView.enc rfl ?_
              conv=>whnf
              exact jeS hk94 h (Weak.refl _)
            conv=>whnf
            exact jeS hk94 h (Weak.refl _)
          conv=>whnf
          refine fkS h (fun h=>?_) (fun h=>?_)
          · conv=>whnf
            refine⟨15,?_⟩
            conv=>whnf
            cases h
          conv=>whnf
          refine jeX hk93 h ?_
          conv=>whnf
          refine WkF.step (Weak.keepS _ [9,10,11,15,47,48,49,54,55,56]) ?_
          conv=>whnf
          exact WkF.refl _
        conv=>whnf
        exact leS hn90 h (Weak.refl _)
      conv=>whnf
      refine ccS (E:=E_KernelState_ListInt_Int) h (kernel_Tick_w (⟨⟨v90.1,v90.2.1⟩,v90.2.2.1,v90.2.2.2.1,v90.2.2.2.2.1,v90.2.2.2.2.2.1⟩)) rfl rfl (fun x95 h=>?_)
      conv=>whnf
      refine lenS ([]:List WorldView) WorldView.enc rfl ?_
      conv=>whnf
      refine lpS (fun v96=>⟨[(9,.l (.ptr 10 0)),(10,.l (.d (.sl (([]:List WorldView).map WorldView.enc)))),(18,.l (.ptr 19 0)),(19,.l (.d (.sl (x95.2.1.map (eI .i64))))),(47,.l (.d (.sl (a1.map (eL KernelCmd.enc))))),(48,.l (.d (.int .i64 (a1.length:Int)))),(49,.l (.d (.int .i64 v88.2.2.2.2.2.2))),(103,.l (.d (.int .i64 (0:Int)))),(104,.l (.d (.int .i64 (0:Int))))],142,[],[(10,[.d (.int .i64 v90.1),.d (.sl (v90.2.1.map Window.enc)),.d (.sl (v90.2.2.1.map Face.enc)),.d (.sl (v90.2.2.2.1.map PartState.enc)),.d (.sl (v90.2.2.2.2.1.map PortLine.enc)),.d (.int .i64 v90.2.2.2.2.2.1)]),(19,[.d (.int .i64 x95.1.Table.Frame),.d (.sl (x95.1.Table.Windows.map Window.enc)),.d (.sl (x95.1.Faces.map Face.enc)),.d (.sl (x95.1.Parts.map PartState.enc)),.d (.sl (x95.1.Lines.map PortLine.enc)),.d (.int .i64 x95.1.Now)])],[]⟩) h (Weak.refl _) (fun _ nx96 hn96 v96 h=>?_)
      conv=>whnf
      exact leS hn88 h (Weak.refl _)
    conv=>whnf
    refine lenS ([]:List WorldView) WorldView.enc rfl ?_
    conv=>whnf
    refine lpS (fun v97=>⟨[(9,.l (.ptr 10 0)),(10,.l (.d (.sl (([]:List WorldView).map WorldView.enc)))),(126,.l (.d (.int .i64 (0:Int)))),(127,.l (.d (.int .i64 (0:Int))))],142,[],[(10,[.d (.int .i64 v88.1),.d (.sl (v88.2.1.map Window.enc)),.d (.sl (v88.2.2.1.map Face.enc)),.d (.sl (v88.2.2.2.1.map PartState.enc)),.d (.sl (v88.2.2.2.2.1.map PortLine.enc)),.d (.int .i64 v88.2.2.2.2.2.1)])],[]⟩) h (Weak.refl _) (fun _ nx97 hn97 v97 h=>?_)
    conv=>whnf
    exact rt (E:=E_ListWorldView_Int) h rfl
  conv=>whnf
  refine mkF h (fun hb h=>?_) (fun h=>?_)
  · conv=>whnf
    refine mkB tab 1 rfl rfl rfl rfl (of_decide_eq_true hb) (of_decide_eq_true hb) rfl rfl rfl (Nat.le_of_ble_eq_true rfl) (Nat.le_of_ble_eq_true rfl) (Nat.le_of_ble_eq_true rfl) rfl ?_
    conv=>whnf
    refine lenS a1 (eL KernelCmd.enc) rfl ?_
    conv=>whnf
    refine lpS (fun v73=>⟨[(9,.l (.ptr 10 0)),(10,.l (.bsl 47 1 3)),(47,.l (.d (.sl (a1.map (eL KernelCmd.enc))))),(48,.l (.d (.int .i64 (a1.length:Int)))),(49,.l (.d (.int .i64 v73.2.2.2.2.2.2.2.2)))],142,[],[(10,[.d (.int .i64 v73.1),.d (.sl (v73.2.1.map Window.enc)),.d (.sl (v73.2.2.1.map Face.enc)),.d (.sl (v73.2.2.2.1.map PartState.enc)),.d (.sl (v73.2.2.2.2.1.map PortLine.enc)),.d (.int .i64 v73.2.2.2.2.2.1)]),(47,[.own 54700,.own 54701,.nil])],[(54700,113,3,v73.2.2.2.2.2.2.1.map WorldSaw.enc),(54701,3,1,v73.2.2.2.2.2.2.2.1.map (eI .i64))]⟩) h (Weak.trans (Weak.nilBO _ 47 0 54700 113 3 _ rfl rfl) (Weak.trans (Weak.nilBO _ 47 1 54701 3 1 _ rfl rfl) (Weak.refl _))) (fun _ nx73 hn73 v73 h=>?_)
    conv=>whnf
    refine fkS h (fun h=>?_) (fun h=>?_)
    · conv=>whnf
      refine ixS (enc:=(eL KernelCmd.enc)) h rfl (fun _=>rfl) (fun x74 h=>?_)
      conv=>whnf
      refine lenS x74 KernelCmd.enc rfl ?_
      conv=>whnf
      refine lpS (fun v75=>⟨[(9,.l (.ptr 10 0)),(10,.l (.bsl 47 1 3)),(11,.l (.d (.int .i64 v73.2.2.2.2.2.2.2.2))),(47,.l (.d (.sl (a1.map (eL KernelCmd.enc))))),(48,.l (.d (.int .i64 (a1.length:Int)))),(49,.l (.d (.int .i64 v73.2.2.2.2.2.2.2.2))),(54,.l (.d (.sl (x74.map KernelCmd.enc)))),(55,.l (.d (.int .i64 (x74.length:Int)))),(56,.l (.d (.int .i64 v75.2.2.2.2.2.2.2)))],142,[],[(10,[.d (.int .i64 v75.1),.d (.sl (v75.2.1.map Window.enc)),.d (.sl (v75.2.2.1.map Face.enc)),.d (.sl (v75.2.2.2.1.map PartState.enc)),.d (.sl (v75.2.2.2.2.1.map PortLine.enc)),.d (.int .i64 v75.2.2.2.2.2.1)]),(47,[.own 54700,.own 54701,.nil])],[(54700,113,3,v75.2.2.2.2.2.2.1.map WorldSaw.enc),(54701,3,1,v73.2.2.2.2.2.2.2.1.map (eI .i64))]⟩) h (Weak.refl _) (fun _ nx75 hn75 v75 h=>?_)
      conv=>whnf
      refine fkS h (fun h=>?_) (fun h=>?_)
      · conv=>whnf
        refine ixS (enc:=KernelCmd.enc) h rfl (fun _=>rfl) (fun x76 h=>?_)
        conv=>whnf
        refine ccS (E:=E_KernelState_Int_Int) h (kernel_Do_w (⟨⟨v75.1,v75.2.1⟩,v75.2.2.1,v75.2.2.2.1,v75.2.2.2.2.1,v75.2.2.2.2.2.1⟩) x76) rfl rfl (fun x77 h=>?_)
        conv=>whnf
        refine jnS (fun w78=>⟨[(9,.l (.ptr 10 0)),(10,.l (.bsl 47 1 3)),(11,.l (.d (.int .i64 v73.2.2.2.2.2.2.2.2))),(15,.l (.ptr 16 0)),(47,.l (.d (.sl (a1.map (eL KernelCmd.enc))))),(48,.l (.d (.int .i64 (a1.length:Int)))),(49,.l (.d (.int .i64 v73.2.2.2.2.2.2.2.2))),(54,.l (.d (.sl (x74.map KernelCmd.enc)))),(55,.l (.d (.int .i64 (x74.length:Int)))),(56,.l (.d (.int .i64 v75.2.2.2.2.2.2.2)))],142,[],[(10,[.d (.int .i64 v75.1),.d (.sl (v75.2.1.map Window.enc)),.d (.sl (v75.2.2.1.map Face.enc)),.d (.sl (v75.2.2.2.1.map PartState.enc)),.d (.sl (v75.2.2.2.2.1.map PortLine.enc)),.d (.int .i64 v75.2.2.2.2.2.1)]),(16,[.d (.int .i64 x77.1.Table.Frame),.d (.sl (x77.1.Table.Windows.map Window.enc)),.d (.sl (x77.1.Faces.map Face.enc)),.d (.sl (x77.1.Parts.map PartState.enc)),.d (.sl (x77.1.Lines.map PortLine.enc)),.d (.int .i64 x77.1.Now)]),(47,[.own 54700,.own 54701,.nil])],[(54700,113,3,w78.map WorldSaw.enc),(54701,3,1,v73.2.2.2.2.2.2.2.1.map (eI .i64))]⟩) h (fun k78 hk78 h=>?_) (fun w78 h=>?_)
        · conv=>whnf
          refine jnS (fun w79=>⟨[(9,.l (.ptr 10 0)),(10,.l (.bsl 47 1 3)),(11,.l (.d (.int .i64 v73.2.2.2.2.2.2.2.2))),(14,.l (.ptr 15 0)),(15,.l (.ptr 16 0)),(16,.l (.d (.int .i64 x77.2.1))),(17,.l (.d (.int .i64 x77.2.2))),(47,.l (.d (.sl (a1.map (eL KernelCmd.enc))))),(48,.l (.d (.int .i64 (a1.length:Int)))),(49,.l (.d (.int .i64 v73.2.2.2.2.2.2.2.2))),(54,.l (.d (.sl (x74.map KernelCmd.enc)))),(55,.l (.d (.int .i64 (x74.length:Int)))),(56,.l (.d (.int .i64 v75.2.2.2.2.2.2.2))),(76,.l (.d (.bool w79)))],142,[],[(10,[.d (.int .i64 v75.1),.d (.sl (v75.2.1.map Window.enc)),.d (.sl (v75.2.2.1.map Face.enc)),.d (.sl (v75.2.2.2.1.map PartState.enc)),.d (.sl (v75.2.2.2.2.1.map PortLine.enc)),.d (.int .i64 v75.2.2.2.2.2.1)]),(15,[.d (.int .i64 x76.Part),.d (.int .i64 x76.Kind),.d (.int .i64 x76.I),.d (.int .i64 x76.V),.d (.int .i64 x76.T.C),.d (.int .i64 x76.T.D),.d (.int .i64 x76.T.T),.d (.sl (x76.T.Secs.map Sec.enc))]),(16,[.d (.int .i64 x77.1.Table.Frame),.d (.sl (x77.1.Table.Windows.map Window.enc)),.d (.sl (x77.1.Faces.map Face.enc)),.d (.sl (x77.1.Parts.map PartState.enc)),.d (.sl (x77.1.Lines.map PortLine.enc)),.d (.int .i64 x77.1.Now)]),(47,[.own 54700,.own 54701,.nil])],[(54700,113,3,v75.2.2.2.2.2.2.1.map WorldSaw.enc),(54701,3,1,v73.2.2.2.2.2.2.2.1.map (eI .i64))]⟩) h (fun k79 hk79 h=>?_) (fun w79 h=>?_)
          · conv=>whnf
            refine fkS h (fun h=>?_) (fun h=>?_)
            · conv=>whnf
              refine lenB tab rfl rfl rfl rfl rfl ?_
              conv=>whnf
              exact jeS hk79 h (Weak.refl _)
            conv=>whnf
            exact jeS hk79 h (Weak.refl _)
          conv=>whnf
          refine fkS h (fun h=>?_) (fun h=>?_)
          · conv=>whnf
            refine⟨15,?_⟩
            conv=>whnf
            refine fkN h (fun q80 h=>?_) (fun q80 h=>?_)
            · conv=>whnf
              refine liS ([⟨v73.2.2.2.2.2.2.2.2,x77.2.1,x77.2.2⟩]:List WorldSaw) WorldSaw.enc rfl rfl ?_
              conv=>whnf
              refine apS (enc:=WorldSaw.enc) (l1:=v75.2.2.2.2.2.2.1) (l2:=([⟨v73.2.2.2.2.2.2.2.2,x77.2.1,x77.2.2⟩]:List WorldSaw)) h rfl rfl (fun _=>rfl) (fun h=>?_)
              conv=>whnf
              refine drS (by kernel_rfl) ?_
              conv=>whnf
              refine fork_t q80 ?_
              conv=>whnf
              refine jeX hk78 h ?_
              conv=>whnf
              refine WkF.step (Weak.rekey _ 92 54700 rfl) ?_
              conv=>whnf
              exact WkF.refl _
            conv=>whnf
            cases h
          conv=>whnf
          refine jeX hk78 h ?_
          conv=>whnf
          refine WkF.step (Weak.keepS _ [9,10,11,15,47,48,49,54,55,56]) ?_
          conv=>whnf
          exact WkF.refl _
        conv=>whnf
        exact leS hn75 h (Weak.refl _)
      conv=>whnf
      refine ccS (E:=E_KernelState_ListInt_Int) h (kernel_Tick_w (⟨⟨v75.1,v75.2.1⟩,v75.2.2.1,v75.2.2.2.1,v75.2.2.2.2.1,v75.2.2.2.2.2.1⟩)) rfl rfl (fun x81 h=>?_)
      conv=>whnf
      refine lenB tab rfl rfl rfl rfl rfl ?_
      conv=>whnf
      refine lpS (fun v82=>⟨[(9,.l (.ptr 10 0)),(10,.l (.bsl 47 1 3)),(18,.l (.ptr 19 0)),(19,.l (.d (.sl (x81.2.1.map (eI .i64))))),(47,.l (.d (.sl (a1.map (eL KernelCmd.enc))))),(48,.l (.d (.int .i64 (a1.length:Int)))),(49,.l (.d (.int .i64 v73.2.2.2.2.2.2.2.2))),(103,.l (.d (.int .i64 (1:Int)))),(104,.l (.d (.int .i64 v82.2)))],142,[],[(10,[.d (.int .i64 v75.1),.d (.sl (v75.2.1.map Window.enc)),.d (.sl (v75.2.2.1.map Face.enc)),.d (.sl (v75.2.2.2.1.map PartState.enc)),.d (.sl (v75.2.2.2.2.1.map PortLine.enc)),.d (.int .i64 v75.2.2.2.2.2.1)]),(19,[.d (.int .i64 x81.1.Table.Frame),.d (.sl (x81.1.Table.Windows.map Window.enc)),.d (.sl (x81.1.Faces.map Face.enc)),.d (.sl (x81.1.Parts.map PartState.enc)),.d (.sl (x81.1.Lines.map PortLine.enc)),.d (.int .i64 x81.1.Now)]),(47,[.own 54700,.own 54701,.nil])],[(54700,113,3,v75.2.2.2.2.2.2.1.map WorldSaw.enc),(54701,3,1,v82.1.map (eI .i64))]⟩) h (Weak.refl _) (fun _ nx82 hn82 v82 h=>?_)
      conv=>whnf
      refine fkS h (fun h=>?_) (fun h=>?_)
      · conv=>whnf
        refine⟨13,?_⟩
        conv=>whnf
        refine fkN h (fun q83 h=>?_) (fun q83 h=>?_)
        · conv=>whnf
          refine ixS (enc:=(eI .i64)) h rfl (fun _=>rfl) (fun x84 h=>?_)
          conv=>whnf
          refine liS ([x84]:List Int) (eI .i64) rfl rfl ?_
          conv=>whnf
          refine apS (enc:=(eI .i64)) (l1:=v82.1) (l2:=([x84]:List Int)) h rfl rfl (fun _=>rfl) (fun h=>?_)
          conv=>whnf
          refine drS (by kernel_rfl) ?_
          conv=>whnf
          refine fork_t q83 ?_
          conv=>whnf
          refine leX hn82 h ?_
          conv=>whnf
          refine WkF.step (Weak.rekey _ 120 54701 rfl) ?_
          conv=>whnf
          exact WkF.refl _
        conv=>whnf
        cases h
      conv=>whnf
      exact leS hn73 h (Weak.refl _)
    conv=>whnf
    refine lenB tab rfl rfl rfl rfl rfl ?_
    conv=>whnf
    refine lpS (fun v85=>⟨[(9,.l (.ptr 10 0)),(10,.l (.bsl 47 1 3)),(126,.l (.d (.int .i64 (1:Int)))),(127,.l (.d (.int .i64 v85.2)))],142,[],[(10,[.d (.int .i64 v73.1),.d (.sl (v73.2.1.map Window.enc)),.d (.sl (v73.2.2.1.map Face.enc)),.d (.sl (v73.2.2.2.1.map PartState.enc)),.d (.sl (v73.2.2.2.2.1.map PortLine.enc)),.d (.int .i64 v73.2.2.2.2.2.1)]),(47,[.own 54700,.own 54701,.d (.sl (v85.1.map Entry.enc))])],[(54700,113,3,v73.2.2.2.2.2.2.1.map WorldSaw.enc),(54701,3,1,v73.2.2.2.2.2.2.2.1.map (eI .i64))]⟩) h (Weak.trans (Weak.nilBD _ 47 2 _ rfl rfl) (Weak.refl _)) (fun _ nx85 hn85 v85 h=>?_)
    conv=>whnf
    refine fkS h (fun h=>?_) (fun h=>?_)
    · conv=>whnf
      refine ixS (enc:=PartState.enc) h rfl (fun _=>rfl) (fun x86 h=>?_)
      conv=>whnf
      refine fkN h (fun q87 h=>?_) (fun q87 h=>?_)
      · conv=>whnf
        exact leS hn85 h (Weak.refl _)
      conv=>whnf
      cases h
    conv=>whnf
    exact rt (E:=E_ListWorldView_Int) h rfl
  conv=>whnf
  refine mkF h (fun hb h=>?_) (fun h=>?_)
  · conv=>whnf
    refine mkB tab 2 rfl rfl rfl rfl (of_decide_eq_true hb) (of_decide_eq_true hb) rfl rfl rfl (Nat.le_of_ble_eq_true rfl) (Nat.le_of_ble_eq_true rfl) (Nat.le_of_ble_eq_true rfl) rfl ?_
    conv=>whnf
    refine lenS a1 (eL KernelCmd.enc) rfl ?_
    conv=>whnf
    refine lpX (fun v54=>⟨[(9,.l (.ptr 10 0)),(10,.l (.bsl 47 2 3)),(47,.l (.d (.sl (a1.map (eL KernelCmd.enc))))),(48,.l (.d (.int .i64 (a1.length:Int)))),(49,.l (.d (.int .i64 v54.2.2.2.2.2.2.2.2.2.2)))],142,[],[(10,[.d (.int .i64 v54.1),.d (.sl (v54.2.1.map Window.enc)),.d (.sl (v54.2.2.1.map Face.enc)),.d (.sl (v54.2.2.2.1.map PartState.enc)),.d (.sl (v54.2.2.2.2.1.map PortLine.enc)),.d (.int .i64 v54.2.2.2.2.2.1)]),(47,[.own 54700,.own 54701,.nil,.own 54703,.own 54704,.nil])],[(54700,113,3,v54.2.2.2.2.2.2.1.map WorldSaw.enc),(54701,3,1,v54.2.2.2.2.2.2.2.1.map (eI .i64)),(54703,113,3,v54.2.2.2.2.2.2.2.2.1.map WorldSaw.enc),(54704,3,1,v54.2.2.2.2.2.2.2.2.2.1.map (eI .i64))]⟩) h ?_ (fun _ nx54 hn54 v54 h=>?_)
    · conv=>whnf
      refine WkF.step (Weak.nilBO _ 47 0 54700 113 3 _ rfl rfl) ?_
      conv=>whnf
      refine WkF.step (Weak.nilBO _ 47 1 54701 3 1 _ rfl rfl) ?_
      conv=>whnf
      refine WkF.step (Weak.nilBO _ 47 3 54703 113 3 _ rfl rfl) ?_
      conv=>whnf
      refine WkF.step (Weak.nilBO _ 47 4 54704 3 1 _ rfl rfl) ?_
      conv=>whnf
      exact WkF.refl _
    conv=>whnf
    refine fkS h (fun h=>?_) (fun h=>?_)
    · conv=>whnf
      refine ixS (enc:=(eL KernelCmd.enc)) h rfl (fun _=>rfl) (fun x55 h=>?_)
      conv=>whnf
      refine lenS x55 KernelCmd.enc rfl ?_
      conv=>whnf
      refine lpS (fun v56=>⟨[(9,.l (.ptr 10 0)),(10,.l (.bsl 47 2 3)),(11,.l (.d (.int .i64 v54.2.2.2.2.2.2.2.2.2.2))),(47,.l (.d (.sl (a1.map (eL KernelCmd.enc))))),(48,.l (.d (.int .i64 (a1.length:Int)))),(49,.l (.d (.int .i64 v54.2.2.2.2.2.2.2.2.2.2))),(54,.l (.d (.sl (x55.map KernelCmd.enc)))),(55,.l (.d (.int .i64 (x55.length:Int)))),(56,.l (.d (.int .i64 v56.2.2.2.2.2.2.2.2)))],142,[],[(10,[.d (.int .i64 v56.1),.d (.sl (v56.2.1.map Window.enc)),.d (.sl (v56.2.2.1.map Face.enc)),.d (.sl (v56.2.2.2.1.map PartState.enc)),.d (.sl (v56.2.2.2.2.1.map PortLine.enc)),.d (.int .i64 v56.2.2.2.2.2.1)]),(47,[.own 54700,.own 54701,.nil,.own 54703,.own 54704,.nil])],[(54700,113,3,v56.2.2.2.2.2.2.1.map WorldSaw.enc),(54701,3,1,v54.2.2.2.2.2.2.2.1.map (eI .i64)),(54703,113,3,v56.2.2.2.2.2.2.2.1.map WorldSaw.enc),(54704,3,1,v54.2.2.2.2.2.2.2.2.2.1.map (eI .i64))]⟩) h (Weak.refl _) (fun _ nx56 hn56 v56 h=>?_)
      conv=>whnf
      refine fkS h (fun h=>?_) (fun h=>?_)
      · conv=>whnf
        refine ixS (enc:=KernelCmd.enc) h rfl (fun _=>rfl) (fun x57 h=>?_)
        conv=>whnf
        refine ccS (E:=E_KernelState_Int_Int) h (kernel_Do_w (⟨⟨v56.1,v56.2.1⟩,v56.2.2.1,v56.2.2.2.1,v56.2.2.2.2.1,v56.2.2.2.2.2.1⟩) x57) rfl rfl (fun x58 h=>?_)
        conv=>whnf
        refine jnS (fun w59=>⟨[(9,.l (.ptr 10 0)),(10,.l (.bsl 47 2 3)),(11,.l (.d (.int .i64 v54.2.2.2.2.2.2.2.2.2.2))),(15,.l (.ptr 16 0)),(47,.l (.d (.sl (a1.map (eL KernelCmd.enc))))),(48,.l (.d (.int .i64 (a1.length:Int)))),(49,.l (.d (.int .i64 v54.2.2.2.2.2.2.2.2.2.2))),(54,.l (.d (.sl (x55.map KernelCmd.enc)))),(55,.l (.d (.int .i64 (x55.length:Int)))),(56,.l (.d (.int .i64 v56.2.2.2.2.2.2.2.2)))],142,[],[(10,[.d (.int .i64 v56.1),.d (.sl (v56.2.1.map Window.enc)),.d (.sl (v56.2.2.1.map Face.enc)),.d (.sl (v56.2.2.2.1.map PartState.enc)),.d (.sl (v56.2.2.2.2.1.map PortLine.enc)),.d (.int .i64 v56.2.2.2.2.2.1)]),(16,[.d (.int .i64 x58.1.Table.Frame),.d (.sl (x58.1.Table.Windows.map Window.enc)),.d (.sl (x58.1.Faces.map Face.enc)),.d (.sl (x58.1.Parts.map PartState.enc)),.d (.sl (x58.1.Lines.map PortLine.enc)),.d (.int .i64 x58.1.Now)]),(47,[.own 54700,.own 54701,.nil,.own 54703,.own 54704,.nil])],[(54700,113,3,w59.1.map WorldSaw.enc),(54701,3,1,v54.2.2.2.2.2.2.2.1.map (eI .i64)),(54703,113,3,w59.2.map WorldSaw.enc),(54704,3,1,v54.2.2.2.2.2.2.2.2.2.1.map (eI .i64))]⟩) h (fun k59 hk59 h=>?_) (fun w59 h=>?_)
        · conv=>whnf
          refine jnS (fun w60=>⟨[(9,.l (.ptr 10 0)),(10,.l (.bsl 47 2 3)),(11,.l (.d (.int .i64 v54.2.2.2.2.2.2.2.2.2.2))),(14,.l (.ptr 15 0)),(15,.l (.ptr 16 0)),(16,.l (.d (.int .i64 x58.2.1))),(17,.l (.d (.int .i64 x58.2.2))),(47,.l (.d (.sl (a1.map (eL KernelCmd.enc))))),(48,.l (.d (.int .i64 (a1.length:Int)))),(49,.l (.d (.int .i64 v54.2.2.2.2.2.2.2.2.2.2))),(54,.l (.d (.sl (x55.map KernelCmd.enc)))),(55,.l (.d (.int .i64 (x55.length:Int)))),(56,.l (.d (.int .i64 v56.2.2.2.2.2.2.2.2))),(76,.l (.d (.bool w60)))],142,[],[(10,[.d (.int .i64 v56.1),.d (.sl (v56.2.1.map Window.enc)),.d (.sl (v56.2.2.1.map Face.enc)),.d (.sl (v56.2.2.2.1.map PartState.enc)),.d (.sl (v56.2.2.2.2.1.map PortLine.enc)),.d (.int .i64 v56.2.2.2.2.2.1)]),(15,[.d (.int .i64 x57.Part),.d (.int .i64 x57.Kind),.d (.int .i64 x57.I),.d (.int .i64 x57.V),.d (.int .i64 x57.T.C),.d (.int .i64 x57.T.D),.d (.int .i64 x57.T.T),.d (.sl (x57.T.Secs.map Sec.enc))]),(16,[.d (.int .i64 x58.1.Table.Frame),.d (.sl (x58.1.Table.Windows.map Window.enc)),.d (.sl (x58.1.Faces.map Face.enc)),.d (.sl (x58.1.Parts.map PartState.enc)),.d (.sl (x58.1.Lines.map PortLine.enc)),.d (.int .i64 x58.1.Now)]),(47,[.own 54700,.own 54701,.nil,.own 54703,.own 54704,.nil])],[(54700,113,3,v56.2.2.2.2.2.2.1.map WorldSaw.enc),(54701,3,1,v54.2.2.2.2.2.2.2.1.map (eI .i64)),(54703,113,3,v56.2.2.2.2.2.2.2.1.map WorldSaw.enc),(54704,3,1,v54.2.2.2.2.2.2.2.2.2.1.map (eI .i64))]⟩) h (fun k60 hk60 h=>?_) (fun w60 h=>?_)
          · conv=>whnf
            refine fkS h (fun h=>?_) (fun h=>?_)
            · conv=>whnf
              refine lenB tab rfl rfl rfl rfl rfl ?_
              conv=>whnf
              exact jeS hk60 h (Weak.refl _)
            conv=>whnf
            exact jeS hk60 h (Weak.refl _)
          conv=>whnf
          refine fkS h (fun h=>?_) (fun h=>?_)
          · conv=>whnf
            refine⟨15,?_⟩
            conv=>whnf
            refine fkN h (fun q61 h=>?_) (fun q61 h=>?_)
            · conv=>whnf
              refine liS ([⟨v54.2.2.2.2.2.2.2.2.2.2,x58.2.1,x58.2.2⟩]:List WorldSaw) WorldSaw.enc rfl rfl ?_
              conv=>whnf
              refine apS (enc:=WorldSaw.enc) (l1:=v56.2.2.2.2.2.2.1) (l2:=([⟨v54.2.2.2.2.2.2.2.2.2.2,x58.2.1,x58.2.2⟩]:List WorldSaw)) h rfl rfl (fun _=>rfl) (fun h=>?_)
              conv=>whnf
              refine drS (by kernel_rfl) ?_
              conv=>whnf
              refine fork_t q61 ?_
              conv=>whnf
              refine jeX hk59 h ?_
              conv=>whnf
              refine WkF.step (Weak.rekey _ 92 54700 rfl) ?_
              conv=>whnf
              exact WkF.refl _
            conv=>whnf
            refine fkN h (fun q62 h=>?_) (fun q62 h=>?_)
            · conv=>whnf
              refine liS ([⟨v54.2.2.2.2.2.2.2.2.2.2,x58.2.1,x58.2.2⟩]:List WorldSaw) WorldSaw.enc rfl rfl ?_
              conv=>whnf
              refine apS (enc:=WorldSaw.enc) (l1:=v56.2.2.2.2.2.2.2.1) (l2:=([⟨v54.2.2.2.2.2.2.2.2.2.2,x58.2.1,x58.2.2⟩]:List WorldSaw)) h rfl rfl (fun _=>rfl) (fun h=>?_)
              conv=>whnf
              refine drS (by kernel_rfl) ?_
              conv=>whnf
              refine fork_f q61 ?_
              conv=>whnf
              refine fork_t q62 ?_
              conv=>whnf
              refine jeX hk59 h ?_
              conv=>whnf
              refine WkF.step (Weak.rekey _ 92 54703 rfl) ?_
              conv=>whnf
              exact WkF.refl _
            conv=>whnf
            cases h
          conv=>whnf
          refine jeX hk59 h ?_
          conv=>whnf
          refine WkF.step (Weak.keepS _ [9,10,11,15,47,48,49,54,55,56]) ?_
          conv=>whnf
          exact WkF.refl _
        conv=>whnf
        exact leS hn56 h (Weak.refl _)
      conv=>whnf
      refine ccS (E:=E_KernelState_ListInt_Int) h (kernel_Tick_w (⟨⟨v56.1,v56.2.1⟩,v56.2.2.1,v56.2.2.2.1,v56.2.2.2.2.1,v56.2.2.2.2.2.1⟩)) rfl rfl (fun x63 h=>?_)
      conv=>whnf
      refine lenB tab rfl rfl rfl rfl rfl ?_
      conv=>whnf
      refine lpS (fun v64=>⟨[(9,.l (.ptr 10 0)),(10,.l (.bsl 47 2 3)),(18,.l (.ptr 19 0)),(19,.l (.d (.sl (x63.2.1.map (eI .i64))))),(47,.l (.d (.sl (a1.map (eL KernelCmd.enc))))),(48,.l (.d (.int .i64 (a1.length:Int)))),(49,.l (.d (.int .i64 v54.2.2.2.2.2.2.2.2.2.2))),(103,.l (.d (.int .i64 (2:Int)))),(104,.l (.d (.int .i64 v64.2.2)))],142,[],[(10,[.d (.int .i64 v56.1),.d (.sl (v56.2.1.map Window.enc)),.d (.sl (v56.2.2.1.map Face.enc)),.d (.sl (v56.2.2.2.1.map PartState.enc)),.d (.sl (v56.2.2.2.2.1.map PortLine.enc)),.d (.int .i64 v56.2.2.2.2.2.1)]),(19,[.d (.int .i64 x63.1.Table.Frame),.d (.sl (x63.1.Table.Windows.map Window.enc)),.d (.sl (x63.1.Faces.map Face.enc)),.d (.sl (x63.1.Parts.map PartState.enc)),.d (.sl (x63.1.Lines.map PortLine.enc)),.d (.int .i64 x63.1.Now)]),(47,[.own 54700,.own 54701,.nil,.own 54703,.own 54704,.nil])],[(54700,113,3,v56.2.2.2.2.2.2.1.map WorldSaw.enc),(54701,3,1,v64.1.map (eI .i64)),(54703,113,3,v56.2.2.2.2.2.2.2.1.map WorldSaw.enc),(54704,3,1,v64.2.1.map (eI .i64))]⟩) h (Weak.refl _) (fun _ nx64 hn64 v64 h=>?_)
      conv=>whnf
      refine fkS h (fun h=>?_) (fun h=>?_)
      · conv=>whnf
        refine⟨13,?_⟩
        conv=>whnf
        refine fkN h (fun q65 h=>?_) (fun q65 h=>?_)
        · conv=>whnf
          refine ixS (enc:=(eI .i64)) h rfl (fun _=>rfl) (fun x68 h=>?_)
          conv=>whnf
          refine liS ([x68]:List Int) (eI .i64) rfl rfl ?_
          conv=>whnf
          refine apS (enc:=(eI .i64)) (l1:=v64.1) (l2:=([x68]:List Int)) h rfl rfl (fun _=>rfl) (fun h=>?_)
          conv=>whnf
          refine drS (by kernel_rfl) ?_
          conv=>whnf
          refine fork_t q65 ?_
          conv=>whnf
          refine leX hn64 h ?_
          conv=>whnf
          refine WkF.step (Weak.rekey _ 120 54701 rfl) ?_
          conv=>whnf
          exact WkF.refl _
        conv=>whnf
        refine fkN h (fun q66 h=>?_) (fun q66 h=>?_)
        · conv=>whnf
          refine ixS (enc:=(eI .i64)) h rfl (fun _=>rfl) (fun x67 h=>?_)
          conv=>whnf
          refine liS ([x67]:List Int) (eI .i64) rfl rfl ?_
          conv=>whnf
          refine apS (enc:=(eI .i64)) (l1:=v64.2.1) (l2:=([x67]:List Int)) h rfl rfl (fun _=>rfl) (fun h=>?_)
          conv=>whnf
          refine drS (by kernel_rfl) ?_
          conv=>whnf
          refine fork_f q65 ?_
          conv=>whnf
          refine fork_t q66 ?_
          conv=>whnf
          refine leX hn64 h ?_
          conv=>whnf
          refine WkF.step (Weak.rekey _ 120 54704 rfl) ?_
          conv=>whnf
          exact WkF.refl _
        conv=>whnf
        cases h
      conv=>whnf
      exact leS hn54 h (Weak.refl _)
    conv=>whnf
    refine lenB tab rfl rfl rfl rfl rfl ?_
    conv=>whnf
    refine lpS (fun v69=>⟨[(9,.l (.ptr 10 0)),(10,.l (.bsl 47 2 3)),(126,.l (.d (.int .i64 (2:Int)))),(127,.l (.d (.int .i64 v69.2.2)))],142,[],[(10,[.d (.int .i64 v54.1),.d (.sl (v54.2.1.map Window.enc)),.d (.sl (v54.2.2.1.map Face.enc)),.d (.sl (v54.2.2.2.1.map PartState.enc)),.d (.sl (v54.2.2.2.2.1.map PortLine.enc)),.d (.int .i64 v54.2.2.2.2.2.1)]),(47,[.own 54700,.own 54701,.d (.sl (v69.1.map Entry.enc)),.own 54703,.own 54704,.d (.sl (v69.2.1.map Entry.enc))])],[(54700,113,3,v54.2.2.2.2.2.2.1.map WorldSaw.enc),(54701,3,1,v54.2.2.2.2.2.2.2.1.map (eI .i64)),(54703,113,3,v54.2.2.2.2.2.2.2.2.1.map WorldSaw.enc),(54704,3,1,v54.2.2.2.2.2.2.2.2.2.1.map (eI .i64))]⟩) h (Weak.trans (Weak.nilBD _ 47 2 _ rfl rfl) (Weak.trans (Weak.nilBD _ 47 5 _ rfl rfl) (Weak.refl _))) (fun _ nx69 hn69 v69 h=>?_)
    conv=>whnf
    refine fkS h (fun h=>?_) (fun h=>?_)
    · conv=>whnf
      refine ixS (enc:=PartState.enc) h rfl (fun _=>rfl) (fun x70 h=>?_)
      conv=>whnf
      refine fkN h (fun q71 h=>?_) (fun q71 h=>?_)
      · conv=>whnf
        exact leS hn69 h (Weak.refl _)
      conv=>whnf
      refine fkN h (fun q72 h=>?_) (fun q72 h=>?_)
      · conv=>whnf
        exact leS hn69 h (Weak.refl _)
      conv=>whnf
      cases h
    conv=>whnf
    exact rt (E:=E_ListWorldView_Int) h rfl
  conv=>whnf
  refine mkF h (fun hb h=>?_) (fun h=>?_)
  · conv=>whnf
    refine mkB tab 3 rfl rfl rfl rfl (of_decide_eq_true hb) (of_decide_eq_true hb) rfl rfl rfl (Nat.le_of_ble_eq_true rfl) (Nat.le_of_ble_eq_true rfl) (Nat.le_of_ble_eq_true rfl) rfl ?_
    conv=>whnf
    refine lenS a1 (eL KernelCmd.enc) rfl ?_
    conv=>whnf
    refine lpX (fun v31=>⟨[(9,.l (.ptr 10 0)),(10,.l (.bsl 47 3 3)),(47,.l (.d (.sl (a1.map (eL KernelCmd.enc))))),(48,.l (.d (.int .i64 (a1.length:Int)))),(49,.l (.d (.int .i64 v31.2.2.2.2.2.2.2.2.2.2.2.2)))],142,[],[(10,[.d (.int .i64 v31.1),.d (.sl (v31.2.1.map Window.enc)),.d (.sl (v31.2.2.1.map Face.enc)),.d (.sl (v31.2.2.2.1.map PartState.enc)),.d (.sl (v31.2.2.2.2.1.map PortLine.enc)),.d (.int .i64 v31.2.2.2.2.2.1)]),(47,[.own 54700,.own 54701,.nil,.own 54703,.own 54704,.nil,.own 54706,.own 54707,.nil])],[(54700,113,3,v31.2.2.2.2.2.2.1.map WorldSaw.enc),(54701,3,1,v31.2.2.2.2.2.2.2.1.map (eI .i64)),(54703,113,3,v31.2.2.2.2.2.2.2.2.1.map WorldSaw.enc),(54704,3,1,v31.2.2.2.2.2.2.2.2.2.1.map (eI .i64)),(54706,113,3,v31.2.2.2.2.2.2.2.2.2.2.1.map WorldSaw.enc),(54707,3,1,v31.2.2.2.2.2.2.2.2.2.2.2.1.map (eI .i64))]⟩) h ?_ (fun _ nx31 hn31 v31 h=>?_)
    · conv=>whnf
      refine WkF.step (Weak.nilBO _ 47 0 54700 113 3 _ rfl rfl) ?_
      conv=>whnf
      refine WkF.step (Weak.nilBO _ 47 1 54701 3 1 _ rfl rfl) ?_
      conv=>whnf
      refine WkF.step (Weak.nilBO _ 47 3 54703 113 3 _ rfl rfl) ?_
      conv=>whnf
      refine WkF.step (Weak.nilBO _ 47 4 54704 3 1 _ rfl rfl) ?_
      conv=>whnf
      refine WkF.step (Weak.nilBO _ 47 6 54706 113 3 _ rfl rfl) ?_
      conv=>whnf
      refine WkF.step (Weak.nilBO _ 47 7 54707 3 1 _ rfl rfl) ?_
      conv=>whnf
      exact WkF.refl _
    conv=>whnf
    refine fkS h (fun h=>?_) (fun h=>?_)
    · conv=>whnf
      refine ixS (enc:=(eL KernelCmd.enc)) h rfl (fun _=>rfl) (fun x32 h=>?_)
      conv=>whnf
      refine lenS x32 KernelCmd.enc rfl ?_
      conv=>whnf
      refine lpS (fun v33=>⟨[(9,.l (.ptr 10 0)),(10,.l (.bsl 47 3 3)),(11,.l (.d (.int .i64 v31.2.2.2.2.2.2.2.2.2.2.2.2))),(47,.l (.d (.sl (a1.map (eL KernelCmd.enc))))),(48,.l (.d (.int .i64 (a1.length:Int)))),(49,.l (.d (.int .i64 v31.2.2.2.2.2.2.2.2.2.2.2.2))),(54,.l (.d (.sl (x32.map KernelCmd.enc)))),(55,.l (.d (.int .i64 (x32.length:Int)))),(56,.l (.d (.int .i64 v33.2.2.2.2.2.2.2.2.2)))],142,[],[(10,[.d (.int .i64 v33.1),.d (.sl (v33.2.1.map Window.enc)),.d (.sl (v33.2.2.1.map Face.enc)),.d (.sl (v33.2.2.2.1.map PartState.enc)),.d (.sl (v33.2.2.2.2.1.map PortLine.enc)),.d (.int .i64 v33.2.2.2.2.2.1)]),(47,[.own 54700,.own 54701,.nil,.own 54703,.own 54704,.nil,.own 54706,.own 54707,.nil])],[(54700,113,3,v33.2.2.2.2.2.2.1.map WorldSaw.enc),(54701,3,1,v31.2.2.2.2.2.2.2.1.map (eI .i64)),(54703,113,3,v33.2.2.2.2.2.2.2.1.map WorldSaw.enc),(54704,3,1,v31.2.2.2.2.2.2.2.2.2.1.map (eI .i64)),(54706,113,3,v33.2.2.2.2.2.2.2.2.1.map WorldSaw.enc),(54707,3,1,v31.2.2.2.2.2.2.2.2.2.2.2.1.map (eI .i64))]⟩) h (Weak.refl _) (fun _ nx33 hn33 v33 h=>?_)
      conv=>whnf
      refine fkS h (fun h=>?_) (fun h=>?_)
      · conv=>whnf
        refine ixS (enc:=KernelCmd.enc) h rfl (fun _=>rfl) (fun x34 h=>?_)
        conv=>whnf
        refine ccS (E:=E_KernelState_Int_Int) h (kernel_Do_w (⟨⟨v33.1,v33.2.1⟩,v33.2.2.1,v33.2.2.2.1,v33.2.2.2.2.1,v33.2.2.2.2.2.1⟩) x34) rfl rfl (fun x35 h=>?_)
        conv=>whnf
        refine jnS (fun w36=>⟨[(9,.l (.ptr 10 0)),(10,.l (.bsl 47 3 3)),(11,.l (.d (.int .i64 v31.2.2.2.2.2.2.2.2.2.2.2.2))),(15,.l (.ptr 16 0)),(47,.l (.d (.sl (a1.map (eL KernelCmd.enc))))),(48,.l (.d (.int .i64 (a1.length:Int)))),(49,.l (.d (.int .i64 v31.2.2.2.2.2.2.2.2.2.2.2.2))),(54,.l (.d (.sl (x32.map KernelCmd.enc)))),(55,.l (.d (.int .i64 (x32.length:Int)))),(56,.l (.d (.int .i64 v33.2.2.2.2.2.2.2.2.2)))],142,[],[(10,[.d (.int .i64 v33.1),.d (.sl (v33.2.1.map Window.enc)),.d (.sl (v33.2.2.1.map Face.enc)),.d (.sl (v33.2.2.2.1.map PartState.enc)),.d (.sl (v33.2.2.2.2.1.map PortLine.enc)),.d (.int .i64 v33.2.2.2.2.2.1)]),(16,[.d (.int .i64 x35.1.Table.Frame),.d (.sl (x35.1.Table.Windows.map Window.enc)),.d (.sl (x35.1.Faces.map Face.enc)),.d (.sl (x35.1.Parts.map PartState.enc)),.d (.sl (x35.1.Lines.map PortLine.enc)),.d (.int .i64 x35.1.Now)]),(47,[.own 54700,.own 54701,.nil,.own 54703,.own 54704,.nil,.own 54706,.own 54707,.nil])],[(54700,113,3,w36.1.map WorldSaw.enc),(54701,3,1,v31.2.2.2.2.2.2.2.1.map (eI .i64)),(54703,113,3,w36.2.1.map WorldSaw.enc),(54704,3,1,v31.2.2.2.2.2.2.2.2.2.1.map (eI .i64)),(54706,113,3,w36.2.2.map WorldSaw.enc),(54707,3,1,v31.2.2.2.2.2.2.2.2.2.2.2.1.map (eI .i64))]⟩) h (fun k36 hk36 h=>?_) (fun w36 h=>?_)
        · conv=>whnf
          refine jnS (fun w37=>⟨[(9,.l (.ptr 10 0)),(10,.l (.bsl 47 3 3)),(11,.l (.d (.int .i64 v31.2.2.2.2.2.2.2.2.2.2.2.2))),(14,.l (.ptr 15 0)),(15,.l (.ptr 16 0)),(16,.l (.d (.int .i64 x35.2.1))),(17,.l (.d (.int .i64 x35.2.2))),(47,.l (.d (.sl (a1.map (eL KernelCmd.enc))))),(48,.l (.d (.int .i64 (a1.length:Int)))),(49,.l (.d (.int .i64 v31.2.2.2.2.2.2.2.2.2.2.2.2))),(54,.l (.d (.sl (x32.map KernelCmd.enc)))),(55,.l (.d (.int .i64 (x32.length:Int)))),(56,.l (.d (.int .i64 v33.2.2.2.2.2.2.2.2.2))),(76,.l (.d (.bool w37)))],142,[],[(10,[.d (.int .i64 v33.1),.d (.sl (v33.2.1.map Window.enc)),.d (.sl (v33.2.2.1.map Face.enc)),.d (.sl (v33.2.2.2.1.map PartState.enc)),.d (.sl (v33.2.2.2.2.1.map PortLine.enc)),.d (.int .i64 v33.2.2.2.2.2.1)]),(15,[.d (.int .i64 x34.Part),.d (.int .i64 x34.Kind),.d (.int .i64 x34.I),.d (.int .i64 x34.V),.d (.int .i64 x34.T.C),.d (.int .i64 x34.T.D),.d (.int .i64 x34.T.T),.d (.sl (x34.T.Secs.map Sec.enc))]),(16,[.d (.int .i64 x35.1.Table.Frame),.d (.sl (x35.1.Table.Windows.map Window.enc)),.d (.sl (x35.1.Faces.map Face.enc)),.d (.sl (x35.1.Parts.map PartState.enc)),.d (.sl (x35.1.Lines.map PortLine.enc)),.d (.int .i64 x35.1.Now)]),(47,[.own 54700,.own 54701,.nil,.own 54703,.own 54704,.nil,.own 54706,.own 54707,.nil])],[(54700,113,3,v33.2.2.2.2.2.2.1.map WorldSaw.enc),(54701,3,1,v31.2.2.2.2.2.2.2.1.map (eI .i64)),(54703,113,3,v33.2.2.2.2.2.2.2.1.map WorldSaw.enc),(54704,3,1,v31.2.2.2.2.2.2.2.2.2.1.map (eI .i64)),(54706,113,3,v33.2.2.2.2.2.2.2.2.1.map WorldSaw.enc),(54707,3,1,v31.2.2.2.2.2.2.2.2.2.2.2.1.map (eI .i64))]⟩) h (fun k37 hk37 h=>?_) (fun w37 h=>?_)
          · conv=>whnf
            refine fkS h (fun h=>?_) (fun h=>?_)
            · conv=>whnf
              refine lenB tab rfl rfl rfl rfl rfl ?_
              conv=>whnf
              exact jeS hk37 h (Weak.refl _)
            conv=>whnf
            exact jeS hk37 h (Weak.refl _)
          conv=>whnf
          refine fkS h (fun h=>?_) (fun h=>?_)
          · conv=>whnf
            refine⟨15,?_⟩
            conv=>whnf
            refine fkN h (fun q38 h=>?_) (fun q38 h=>?_)
            · conv=>whnf
              refine liS ([⟨v31.2.2.2.2.2.2.2.2.2.2.2.2,x35.2.1,x35.2.2⟩]:List WorldSaw) WorldSaw.enc rfl rfl ?_
              conv=>whnf
              refine apS (enc:=WorldSaw.enc) (l1:=v33.2.2.2.2.2.2.1) (l2:=([⟨v31.2.2.2.2.2.2.2.2.2.2.2.2,x35.2.1,x35.2.2⟩]:List WorldSaw)) h rfl rfl (fun _=>rfl) (fun h=>?_)
              conv=>whnf
              refine drS (by kernel_rfl) ?_
              conv=>whnf
              refine fork_t q38 ?_
              conv=>whnf
              refine jeX hk36 h ?_
              conv=>whnf
              refine WkF.step (Weak.rekey _ 92 54700 rfl) ?_
              conv=>whnf
              exact WkF.refl _
            conv=>whnf
            refine fkN h (fun q39 h=>?_) (fun q39 h=>?_)
            · conv=>whnf
              refine liS ([⟨v31.2.2.2.2.2.2.2.2.2.2.2.2,x35.2.1,x35.2.2⟩]:List WorldSaw) WorldSaw.enc rfl rfl ?_
              conv=>whnf
              refine apS (enc:=WorldSaw.enc) (l1:=v33.2.2.2.2.2.2.2.1) (l2:=([⟨v31.2.2.2.2.2.2.2.2.2.2.2.2,x35.2.1,x35.2.2⟩]:List WorldSaw)) h rfl rfl (fun _=>rfl) (fun h=>?_)
              conv=>whnf
              refine drS (by kernel_rfl) ?_
              conv=>whnf
              refine fork_f q38 ?_
              conv=>whnf
              refine fork_t q39 ?_
              conv=>whnf
              refine jeX hk36 h ?_
              conv=>whnf
              refine WkF.step (Weak.rekey _ 92 54703 rfl) ?_
              conv=>whnf
              exact WkF.refl _
            conv=>whnf
            refine fkN h (fun q40 h=>?_) (fun q40 h=>?_)
            · conv=>whnf
              refine liS ([⟨v31.2.2.2.2.2.2.2.2.2.2.2.2,x35.2.1,x35.2.2⟩]:List WorldSaw) WorldSaw.enc rfl rfl ?_
              conv=>whnf
              refine apS (enc:=WorldSaw.enc) (l1:=v33.2.2.2.2.2.2.2.2.1) (l2:=([⟨v31.2.2.2.2.2.2.2.2.2.2.2.2,x35.2.1,x35.2.2⟩]:List WorldSaw)) h rfl rfl (fun _=>rfl) (fun h=>?_)
              conv=>whnf
              refine drS (by kernel_rfl) ?_
              conv=>whnf
              refine fork_f q38 ?_
              conv=>whnf
              refine fork_f q39 ?_
              conv=>whnf
              refine fork_t q40 ?_
              conv=>whnf
              refine jeX hk36 h ?_
              conv=>whnf
              refine WkF.step (Weak.rekey _ 92 54706 rfl) ?_
              conv=>whnf
              exact WkF.refl _
            conv=>whnf
            cases h
          conv=>whnf
          refine jeX hk36 h ?_
          conv=>whnf
          refine WkF.step (Weak.keepS _ [9,10,11,15,47,48,49,54,55,56]) ?_
          conv=>whnf
          exact WkF.refl _
        conv=>whnf
        exact leS hn33 h (Weak.refl _)
      conv=>whnf
      refine ccS (E:=E_KernelState_ListInt_Int) h (kernel_Tick_w (⟨⟨v33.1,v33.2.1⟩,v33.2.2.1,v33.2.2.2.1,v33.2.2.2.2.1,v33.2.2.2.2.2.1⟩)) rfl rfl (fun x41 h=>?_)
      conv=>whnf
      refine lenB tab rfl rfl rfl rfl rfl ?_
      conv=>whnf
      refine lpS (fun v42=>⟨[(9,.l (.ptr 10 0)),(10,.l (.bsl 47 3 3)),(18,.l (.ptr 19 0)),(19,.l (.d (.sl (x41.2.1.map (eI .i64))))),(47,.l (.d (.sl (a1.map (eL KernelCmd.enc))))),(48,.l (.d (.int .i64 (a1.length:Int)))),(49,.l (.d (.int .i64 v31.2.2.2.2.2.2.2.2.2.2.2.2))),(103,.l (.d (.int .i64 (3:Int)))),(104,.l (.d (.int .i64 v42.2.2.2)))],142,[],[(10,[.d (.int .i64 v33.1),.d (.sl (v33.2.1.map Window.enc)),.d (.sl (v33.2.2.1.map Face.enc)),.d (.sl (v33.2.2.2.1.map PartState.enc)),.d (.sl (v33.2.2.2.2.1.map PortLine.enc)),.d (.int .i64 v33.2.2.2.2.2.1)]),(19,[.d (.int .i64 x41.1.Table.Frame),.d (.sl (x41.1.Table.Windows.map Window.enc)),.d (.sl (x41.1.Faces.map Face.enc)),.d (.sl (x41.1.Parts.map PartState.enc)),.d (.sl (x41.1.Lines.map PortLine.enc)),.d (.int .i64 x41.1.Now)]),(47,[.own 54700,.own 54701,.nil,.own 54703,.own 54704,.nil,.own 54706,.own 54707,.nil])],[(54700,113,3,v33.2.2.2.2.2.2.1.map WorldSaw.enc),(54701,3,1,v42.1.map (eI .i64)),(54703,113,3,v33.2.2.2.2.2.2.2.1.map WorldSaw.enc),(54704,3,1,v42.2.1.map (eI .i64)),(54706,113,3,v33.2.2.2.2.2.2.2.2.1.map WorldSaw.enc),(54707,3,1,v42.2.2.1.map (eI .i64))]⟩) h (Weak.refl _) (fun _ nx42 hn42 v42 h=>?_)
      conv=>whnf
      refine fkS h (fun h=>?_) (fun h=>?_)
      · conv=>whnf
        refine⟨13,?_⟩
        conv=>whnf
        refine fkN h (fun q43 h=>?_) (fun q43 h=>?_)
        · conv=>whnf
          refine ixS (enc:=(eI .i64)) h rfl (fun _=>rfl) (fun x48 h=>?_)
          conv=>whnf
          refine liS ([x48]:List Int) (eI .i64) rfl rfl ?_
          conv=>whnf
          refine apS (enc:=(eI .i64)) (l1:=v42.1) (l2:=([x48]:List Int)) h rfl rfl (fun _=>rfl) (fun h=>?_)
          conv=>whnf
          refine drS (by kernel_rfl) ?_
          conv=>whnf
          refine fork_t q43 ?_
          conv=>whnf
          refine leX hn42 h ?_
          conv=>whnf
          refine WkF.step (Weak.rekey _ 120 54701 rfl) ?_
          conv=>whnf
          exact WkF.refl _
        conv=>whnf
        refine fkN h (fun q44 h=>?_) (fun q44 h=>?_)
        · conv=>whnf
          refine ixS (enc:=(eI .i64)) h rfl (fun _=>rfl) (fun x47 h=>?_)
          conv=>whnf
          refine liS ([x47]:List Int) (eI .i64) rfl rfl ?_
          conv=>whnf
          refine apS (enc:=(eI .i64)) (l1:=v42.2.1) (l2:=([x47]:List Int)) h rfl rfl (fun _=>rfl) (fun h=>?_)
          conv=>whnf
          refine drS (by kernel_rfl) ?_
          conv=>whnf
          refine fork_f q43 ?_
          conv=>whnf
          refine fork_t q44 ?_
          conv=>whnf
          refine leX hn42 h ?_
          conv=>whnf
          refine WkF.step (Weak.rekey _ 120 54704 rfl) ?_
          conv=>whnf
          exact WkF.refl _
        conv=>whnf
        refine fkN h (fun q45 h=>?_) (fun q45 h=>?_)
        · conv=>whnf
          refine ixS (enc:=(eI .i64)) h rfl (fun _=>rfl) (fun x46 h=>?_)
          conv=>whnf
          refine liS ([x46]:List Int) (eI .i64) rfl rfl ?_
          conv=>whnf
          refine apS (enc:=(eI .i64)) (l1:=v42.2.2.1) (l2:=([x46]:List Int)) h rfl rfl (fun _=>rfl) (fun h=>?_)
          conv=>whnf
          refine drS (by kernel_rfl) ?_
          conv=>whnf
          refine fork_f q43 ?_
          conv=>whnf
          refine fork_f q44 ?_
          conv=>whnf
          refine fork_t q45 ?_
          conv=>whnf
          refine leX hn42 h ?_
          conv=>whnf
          refine WkF.step (Weak.rekey _ 120 54707 rfl) ?_
          conv=>whnf
          exact WkF.refl _
        conv=>whnf
        cases h
      conv=>whnf
      exact leS hn31 h (Weak.refl _)
    conv=>whnf
    refine lenB tab rfl rfl rfl rfl rfl ?_
    conv=>whnf
    refine lpX (fun v49=>⟨[(9,.l (.ptr 10 0)),(10,.l (.bsl 47 3 3)),(126,.l (.d (.int .i64 (3:Int)))),(127,.l (.d (.int .i64 v49.2.2.2)))],142,[],[(10,[.d (.int .i64 v31.1),.d (.sl (v31.2.1.map Window.enc)),.d (.sl (v31.2.2.1.map Face.enc)),.d (.sl (v31.2.2.2.1.map PartState.enc)),.d (.sl (v31.2.2.2.2.1.map PortLine.enc)),.d (.int .i64 v31.2.2.2.2.2.1)]),(47,[.own 54700,.own 54701,.d (.sl (v49.1.map Entry.enc)),.own 54703,.own 54704,.d (.sl (v49.2.1.map Entry.enc)),.own 54706,.own 54707,.d (.sl (v49.2.2.1.map Entry.enc))])],[(54700,113,3,v31.2.2.2.2.2.2.1.map WorldSaw.enc),(54701,3,1,v31.2.2.2.2.2.2.2.1.map (eI .i64)),(54703,113,3,v31.2.2.2.2.2.2.2.2.1.map WorldSaw.enc),(54704,3,1,v31.2.2.2.2.2.2.2.2.2.1.map (eI .i64)),(54706,113,3,v31.2.2.2.2.2.2.2.2.2.2.1.map WorldSaw.enc),(54707,3,1,v31.2.2.2.2.2.2.2.2.2.2.2.1.map (eI .i64))]⟩) h ?_ (fun _ nx49 hn49 v49 h=>?_)
    · conv=>whnf
      refine WkF.step (Weak.nilBD _ 47 2 _ rfl rfl) ?_
      conv=>whnf
      refine WkF.step (Weak.nilBD _ 47 5 _ rfl rfl) ?_
      conv=>whnf
      refine WkF.step (Weak.nilBD _ 47 8 _ rfl rfl) ?_
      conv=>whnf
      exact WkF.refl _
    conv=>whnf
    refine fkS h (fun h=>?_) (fun h=>?_)
    · conv=>whnf
      refine ixS (enc:=PartState.enc) h rfl (fun _=>rfl) (fun x50 h=>?_)
      conv=>whnf
      refine fkN h (fun q51 h=>?_) (fun q51 h=>?_)
      · conv=>whnf
        exact leS hn49 h (Weak.refl _)
      conv=>whnf
      refine fkN h (fun q52 h=>?_) (fun q52 h=>?_)
      · conv=>whnf
        exact leS hn49 h (Weak.refl _)
      conv=>whnf
      refine fkN h (fun q53 h=>?_) (fun q53 h=>?_)
      · conv=>whnf
        exact leS hn49 h (Weak.refl _)
      conv=>whnf
      cases h
    conv=>whnf
    exact rt (E:=E_ListWorldView_Int) h rfl
  conv=>whnf
  refine mkF h (fun hb h=>?_) (fun h=>?_)
  · conv=>whnf
    refine mkB tab 4 rfl rfl rfl rfl (of_decide_eq_true hb) (of_decide_eq_true hb) rfl rfl rfl (Nat.le_of_ble_eq_true rfl) (Nat.le_of_ble_eq_true rfl) (Nat.le_of_ble_eq_true rfl) rfl ?_
    conv=>whnf
    refine lenS a1 (eL KernelCmd.enc) rfl ?_
    conv=>whnf
    refine lpX (fun v4=>⟨[(9,.l (.ptr 10 0)),(10,.l (.bsl 47 4 3)),(47,.l (.d (.sl (a1.map (eL KernelCmd.enc))))),(48,.l (.d (.int .i64 (a1.length:Int)))),(49,.l (.d (.int .i64 v4.2.2.2.2.2.2.2.2.2.2.2.2.2.2)))],142,[],[(10,[.d (.int .i64 v4.1),.d (.sl (v4.2.1.map Window.enc)),.d (.sl (v4.2.2.1.map Face.enc)),.d (.sl (v4.2.2.2.1.map PartState.enc)),.d (.sl (v4.2.2.2.2.1.map PortLine.enc)),.d (.int .i64 v4.2.2.2.2.2.1)]),(47,[.own 54700,.own 54701,.nil,.own 54703,.own 54704,.nil,.own 54706,.own 54707,.nil,.own 54709,.own 54710,.nil])],[(54700,113,3,v4.2.2.2.2.2.2.1.map WorldSaw.enc),(54701,3,1,v4.2.2.2.2.2.2.2.1.map (eI .i64)),(54703,113,3,v4.2.2.2.2.2.2.2.2.1.map WorldSaw.enc),(54704,3,1,v4.2.2.2.2.2.2.2.2.2.1.map (eI .i64)),(54706,113,3,v4.2.2.2.2.2.2.2.2.2.2.1.map WorldSaw.enc),(54707,3,1,v4.2.2.2.2.2.2.2.2.2.2.2.1.map (eI .i64)),(54709,113,3,v4.2.2.2.2.2.2.2.2.2.2.2.2.1.map WorldSaw.enc),(54710,3,1,v4.2.2.2.2.2.2.2.2.2.2.2.2.2.1.map (eI .i64))]⟩) h ?_ (fun _ nx4 hn4 v4 h=>?_)
    · conv=>whnf
      refine WkF.step (Weak.nilBO _ 47 0 54700 113 3 _ rfl rfl) ?_
      conv=>whnf
      refine WkF.step (Weak.nilBO _ 47 1 54701 3 1 _ rfl rfl) ?_
      conv=>whnf
      refine WkF.step (Weak.nilBO _ 47 3 54703 113 3 _ rfl rfl) ?_
      conv=>whnf
      refine WkF.step (Weak.nilBO _ 47 4 54704 3 1 _ rfl rfl) ?_
      conv=>whnf
      refine WkF.step (Weak.nilBO _ 47 6 54706 113 3 _ rfl rfl) ?_
      conv=>whnf
      refine WkF.step (Weak.nilBO _ 47 7 54707 3 1 _ rfl rfl) ?_
      conv=>whnf
      refine WkF.step (Weak.nilBO _ 47 9 54709 113 3 _ rfl rfl) ?_
      conv=>whnf
      refine WkF.step (Weak.nilBO _ 47 10 54710 3 1 _ rfl rfl) ?_
      conv=>whnf
      exact WkF.refl _
    conv=>whnf
    refine fkS h (fun h=>?_) (fun h=>?_)
    · conv=>whnf
      refine ixS (enc:=(eL KernelCmd.enc)) h rfl (fun _=>rfl) (fun x5 h=>?_)
      conv=>whnf
      refine lenS x5 KernelCmd.enc rfl ?_
      conv=>whnf
      refine lpS (fun v6=>⟨[(9,.l (.ptr 10 0)),(10,.l (.bsl 47 4 3)),(11,.l (.d (.int .i64 v4.2.2.2.2.2.2.2.2.2.2.2.2.2.2))),(47,.l (.d (.sl (a1.map (eL KernelCmd.enc))))),(48,.l (.d (.int .i64 (a1.length:Int)))),(49,.l (.d (.int .i64 v4.2.2.2.2.2.2.2.2.2.2.2.2.2.2))),(54,.l (.d (.sl (x5.map KernelCmd.enc)))),(55,.l (.d (.int .i64 (x5.length:Int)))),(56,.l (.d (.int .i64 v6.2.2.2.2.2.2.2.2.2.2)))],142,[],[(10,[.d (.int .i64 v6.1),.d (.sl (v6.2.1.map Window.enc)),.d (.sl (v6.2.2.1.map Face.enc)),.d (.sl (v6.2.2.2.1.map PartState.enc)),.d (.sl (v6.2.2.2.2.1.map PortLine.enc)),.d (.int .i64 v6.2.2.2.2.2.1)]),(47,[.own 54700,.own 54701,.nil,.own 54703,.own 54704,.nil,.own 54706,.own 54707,.nil,.own 54709,.own 54710,.nil])],[(54700,113,3,v6.2.2.2.2.2.2.1.map WorldSaw.enc),(54701,3,1,v4.2.2.2.2.2.2.2.1.map (eI .i64)),(54703,113,3,v6.2.2.2.2.2.2.2.1.map WorldSaw.enc),(54704,3,1,v4.2.2.2.2.2.2.2.2.2.1.map (eI .i64)),(54706,113,3,v6.2.2.2.2.2.2.2.2.1.map WorldSaw.enc),(54707,3,1,v4.2.2.2.2.2.2.2.2.2.2.2.1.map (eI .i64)),(54709,113,3,v6.2.2.2.2.2.2.2.2.2.1.map WorldSaw.enc),(54710,3,1,v4.2.2.2.2.2.2.2.2.2.2.2.2.2.1.map (eI .i64))]⟩) h (Weak.refl _) (fun _ nx6 hn6 v6 h=>?_)
      conv=>whnf
      refine fkS h (fun h=>?_) (fun h=>?_)
      · conv=>whnf
        refine ixS (enc:=KernelCmd.enc) h rfl (fun _=>rfl) (fun x7 h=>?_)
        conv=>whnf
        refine ccS (E:=E_KernelState_Int_Int) h (kernel_Do_w (⟨⟨v6.1,v6.2.1⟩,v6.2.2.1,v6.2.2.2.1,v6.2.2.2.2.1,v6.2.2.2.2.2.1⟩) x7) rfl rfl (fun x8 h=>?_)
        conv=>whnf
        refine jnS (fun w9=>⟨[(9,.l (.ptr 10 0)),(10,.l (.bsl 47 4 3)),(11,.l (.d (.int .i64 v4.2.2.2.2.2.2.2.2.2.2.2.2.2.2))),(15,.l (.ptr 16 0)),(47,.l (.d (.sl (a1.map (eL KernelCmd.enc))))),(48,.l (.d (.int .i64 (a1.length:Int)))),(49,.l (.d (.int .i64 v4.2.2.2.2.2.2.2.2.2.2.2.2.2.2))),(54,.l (.d (.sl (x5.map KernelCmd.enc)))),(55,.l (.d (.int .i64 (x5.length:Int)))),(56,.l (.d (.int .i64 v6.2.2.2.2.2.2.2.2.2.2)))],142,[],[(10,[.d (.int .i64 v6.1),.d (.sl (v6.2.1.map Window.enc)),.d (.sl (v6.2.2.1.map Face.enc)),.d (.sl (v6.2.2.2.1.map PartState.enc)),.d (.sl (v6.2.2.2.2.1.map PortLine.enc)),.d (.int .i64 v6.2.2.2.2.2.1)]),(16,[.d (.int .i64 x8.1.Table.Frame),.d (.sl (x8.1.Table.Windows.map Window.enc)),.d (.sl (x8.1.Faces.map Face.enc)),.d (.sl (x8.1.Parts.map PartState.enc)),.d (.sl (x8.1.Lines.map PortLine.enc)),.d (.int .i64 x8.1.Now)]),(47,[.own 54700,.own 54701,.nil,.own 54703,.own 54704,.nil,.own 54706,.own 54707,.nil,.own 54709,.own 54710,.nil])],[(54700,113,3,w9.1.map WorldSaw.enc),(54701,3,1,v4.2.2.2.2.2.2.2.1.map (eI .i64)),(54703,113,3,w9.2.1.map WorldSaw.enc),(54704,3,1,v4.2.2.2.2.2.2.2.2.2.1.map (eI .i64)),(54706,113,3,w9.2.2.1.map WorldSaw.enc),(54707,3,1,v4.2.2.2.2.2.2.2.2.2.2.2.1.map (eI .i64)),(54709,113,3,w9.2.2.2.map WorldSaw.enc),(54710,3,1,v4.2.2.2.2.2.2.2.2.2.2.2.2.2.1.map (eI .i64))]⟩) h (fun k9 hk9 h=>?_) (fun w9 h=>?_)
        · conv=>whnf
          refine jnS (fun w10=>⟨[(9,.l (.ptr 10 0)),(10,.l (.bsl 47 4 3)),(11,.l (.d (.int .i64 v4.2.2.2.2.2.2.2.2.2.2.2.2.2.2))),(14,.l (.ptr 15 0)),(15,.l (.ptr 16 0)),(16,.l (.d (.int .i64 x8.2.1))),(17,.l (.d (.int .i64 x8.2.2))),(47,.l (.d (.sl (a1.map (eL KernelCmd.enc))))),(48,.l (.d (.int .i64 (a1.length:Int)))),(49,.l (.d (.int .i64 v4.2.2.2.2.2.2.2.2.2.2.2.2.2.2))),(54,.l (.d (.sl (x5.map KernelCmd.enc)))),(55,.l (.d (.int .i64 (x5.length:Int)))),(56,.l (.d (.int .i64 v6.2.2.2.2.2.2.2.2.2.2))),(76,.l (.d (.bool w10)))],142,[],[(10,[.d (.int .i64 v6.1),.d (.sl (v6.2.1.map Window.enc)),.d (.sl (v6.2.2.1.map Face.enc)),.d (.sl (v6.2.2.2.1.map PartState.enc)),.d (.sl (v6.2.2.2.2.1.map PortLine.enc)),.d (.int .i64 v6.2.2.2.2.2.1)]),(15,[.d (.int .i64 x7.Part),.d (.int .i64 x7.Kind),.d (.int .i64 x7.I),.d (.int .i64 x7.V),.d (.int .i64 x7.T.C),.d (.int .i64 x7.T.D),.d (.int .i64 x7.T.T),.d (.sl (x7.T.Secs.map Sec.enc))]),(16,[.d (.int .i64 x8.1.Table.Frame),.d (.sl (x8.1.Table.Windows.map Window.enc)),.d (.sl (x8.1.Faces.map Face.enc)),.d (.sl (x8.1.Parts.map PartState.enc)),.d (.sl (x8.1.Lines.map PortLine.enc)),.d (.int .i64 x8.1.Now)]),(47,[.own 54700,.own 54701,.nil,.own 54703,.own 54704,.nil,.own 54706,.own 54707,.nil,.own 54709,.own 54710,.nil])],[(54700,113,3,v6.2.2.2.2.2.2.1.map WorldSaw.enc),(54701,3,1,v4.2.2.2.2.2.2.2.1.map (eI .i64)),(54703,113,3,v6.2.2.2.2.2.2.2.1.map WorldSaw.enc),(54704,3,1,v4.2.2.2.2.2.2.2.2.2.1.map (eI .i64)),(54706,113,3,v6.2.2.2.2.2.2.2.2.1.map WorldSaw.enc),(54707,3,1,v4.2.2.2.2.2.2.2.2.2.2.2.1.map (eI .i64)),(54709,113,3,v6.2.2.2.2.2.2.2.2.2.1.map WorldSaw.enc),(54710,3,1,v4.2.2.2.2.2.2.2.2.2.2.2.2.2.1.map (eI .i64))]⟩) h (fun k10 hk10 h=>?_) (fun w10 h=>?_)
          · conv=>whnf
            refine fkS h (fun h=>?_) (fun h=>?_)
            · conv=>whnf
              refine lenB tab rfl rfl rfl rfl rfl ?_
              conv=>whnf
              exact jeS hk10 h (Weak.refl _)
            conv=>whnf
            exact jeS hk10 h (Weak.refl _)
          conv=>whnf
          refine fkS h (fun h=>?_) (fun h=>?_)
          · conv=>whnf
            refine⟨15,?_⟩
            conv=>whnf
            refine fkN h (fun q11 h=>?_) (fun q11 h=>?_)
            · conv=>whnf
              refine liS ([⟨v4.2.2.2.2.2.2.2.2.2.2.2.2.2.2,x8.2.1,x8.2.2⟩]:List WorldSaw) WorldSaw.enc rfl rfl ?_
              conv=>whnf
              refine apS (enc:=WorldSaw.enc) (l1:=v6.2.2.2.2.2.2.1) (l2:=([⟨v4.2.2.2.2.2.2.2.2.2.2.2.2.2.2,x8.2.1,x8.2.2⟩]:List WorldSaw)) h rfl rfl (fun _=>rfl) (fun h=>?_)
              conv=>whnf
              refine drS (by kernel_rfl) ?_
              conv=>whnf
              refine fork_t q11 ?_
              conv=>whnf
              refine jeX hk9 h ?_
              conv=>whnf
              refine WkF.step (Weak.rekey _ 92 54700 rfl) ?_
              conv=>whnf
              exact WkF.refl _
            conv=>whnf
            refine fkN h (fun q12 h=>?_) (fun q12 h=>?_)
            · conv=>whnf
              refine liS ([⟨v4.2.2.2.2.2.2.2.2.2.2.2.2.2.2,x8.2.1,x8.2.2⟩]:List WorldSaw) WorldSaw.enc rfl rfl ?_
              conv=>whnf
              refine apS (enc:=WorldSaw.enc) (l1:=v6.2.2.2.2.2.2.2.1) (l2:=([⟨v4.2.2.2.2.2.2.2.2.2.2.2.2.2.2,x8.2.1,x8.2.2⟩]:List WorldSaw)) h rfl rfl (fun _=>rfl) (fun h=>?_)
              conv=>whnf
              refine drS (by kernel_rfl) ?_
              conv=>whnf
              refine fork_f q11 ?_
              conv=>whnf
              refine fork_t q12 ?_
              conv=>whnf
              refine jeX hk9 h ?_
              conv=>whnf
              refine WkF.step (Weak.rekey _ 92 54703 rfl) ?_
              conv=>whnf
              exact WkF.refl _
            conv=>whnf
            refine fkN h (fun q13 h=>?_) (fun q13 h=>?_)
            · conv=>whnf
              refine liS ([⟨v4.2.2.2.2.2.2.2.2.2.2.2.2.2.2,x8.2.1,x8.2.2⟩]:List WorldSaw) WorldSaw.enc rfl rfl ?_
              conv=>whnf
              refine apS (enc:=WorldSaw.enc) (l1:=v6.2.2.2.2.2.2.2.2.1) (l2:=([⟨v4.2.2.2.2.2.2.2.2.2.2.2.2.2.2,x8.2.1,x8.2.2⟩]:List WorldSaw)) h rfl rfl (fun _=>rfl) (fun h=>?_)
              conv=>whnf
              refine drS (by kernel_rfl) ?_
              conv=>whnf
              refine fork_f q11 ?_
              conv=>whnf
              refine fork_f q12 ?_
              conv=>whnf
              refine fork_t q13 ?_
              conv=>whnf
              refine jeX hk9 h ?_
              conv=>whnf
              refine WkF.step (Weak.rekey _ 92 54706 rfl) ?_
              conv=>whnf
              exact WkF.refl _
            conv=>whnf
            refine fkN h (fun q14 h=>?_) (fun q14 h=>?_)
            · conv=>whnf
              refine liS ([⟨v4.2.2.2.2.2.2.2.2.2.2.2.2.2.2,x8.2.1,x8.2.2⟩]:List WorldSaw) WorldSaw.enc rfl rfl ?_
              conv=>whnf
              refine apS (enc:=WorldSaw.enc) (l1:=v6.2.2.2.2.2.2.2.2.2.1) (l2:=([⟨v4.2.2.2.2.2.2.2.2.2.2.2.2.2.2,x8.2.1,x8.2.2⟩]:List WorldSaw)) h rfl rfl (fun _=>rfl) (fun h=>?_)
              conv=>whnf
              refine drS (by kernel_rfl) ?_
              conv=>whnf
              refine fork_f q11 ?_
              conv=>whnf
              refine fork_f q12 ?_
              conv=>whnf
              refine fork_f q13 ?_
              conv=>whnf
              refine fork_t q14 ?_
              conv=>whnf
              refine jeX hk9 h ?_
              conv=>whnf
              refine WkF.step (Weak.rekey _ 92 54709 rfl) ?_
              conv=>whnf
              exact WkF.refl _
            conv=>whnf
            cases h
          conv=>whnf
          refine jeX hk9 h ?_
          conv=>whnf
          refine WkF.step (Weak.keepS _ [9,10,11,15,47,48,49,54,55,56]) ?_
          conv=>whnf
          exact WkF.refl _
        conv=>whnf
        exact leS hn6 h (Weak.refl _)
      conv=>whnf
      refine ccS (E:=E_KernelState_ListInt_Int) h (kernel_Tick_w (⟨⟨v6.1,v6.2.1⟩,v6.2.2.1,v6.2.2.2.1,v6.2.2.2.2.1,v6.2.2.2.2.2.1⟩)) rfl rfl (fun x15 h=>?_)
      conv=>whnf
      refine lenB tab rfl rfl rfl rfl rfl ?_
      conv=>whnf
      refine lpS (fun v16=>⟨[(9,.l (.ptr 10 0)),(10,.l (.bsl 47 4 3)),(18,.l (.ptr 19 0)),(19,.l (.d (.sl (x15.2.1.map (eI .i64))))),(47,.l (.d (.sl (a1.map (eL KernelCmd.enc))))),(48,.l (.d (.int .i64 (a1.length:Int)))),(49,.l (.d (.int .i64 v4.2.2.2.2.2.2.2.2.2.2.2.2.2.2))),(103,.l (.d (.int .i64 (4:Int)))),(104,.l (.d (.int .i64 v16.2.2.2.2)))],142,[],[(10,[.d (.int .i64 v6.1),.d (.sl (v6.2.1.map Window.enc)),.d (.sl (v6.2.2.1.map Face.enc)),.d (.sl (v6.2.2.2.1.map PartState.enc)),.d (.sl (v6.2.2.2.2.1.map PortLine.enc)),.d (.int .i64 v6.2.2.2.2.2.1)]),(19,[.d (.int .i64 x15.1.Table.Frame),.d (.sl (x15.1.Table.Windows.map Window.enc)),.d (.sl (x15.1.Faces.map Face.enc)),.d (.sl (x15.1.Parts.map PartState.enc)),.d (.sl (x15.1.Lines.map PortLine.enc)),.d (.int .i64 x15.1.Now)]),(47,[.own 54700,.own 54701,.nil,.own 54703,.own 54704,.nil,.own 54706,.own 54707,.nil,.own 54709,.own 54710,.nil])],[(54700,113,3,v6.2.2.2.2.2.2.1.map WorldSaw.enc),(54701,3,1,v16.1.map (eI .i64)),(54703,113,3,v6.2.2.2.2.2.2.2.1.map WorldSaw.enc),(54704,3,1,v16.2.1.map (eI .i64)),(54706,113,3,v6.2.2.2.2.2.2.2.2.1.map WorldSaw.enc),(54707,3,1,v16.2.2.1.map (eI .i64)),(54709,113,3,v6.2.2.2.2.2.2.2.2.2.1.map WorldSaw.enc),(54710,3,1,v16.2.2.2.1.map (eI .i64))]⟩) h (Weak.refl _) (fun _ nx16 hn16 v16 h=>?_)
      conv=>whnf
      refine fkS h (fun h=>?_) (fun h=>?_)
      · conv=>whnf
        refine⟨13,?_⟩
        conv=>whnf
        refine fkN h (fun q17 h=>?_) (fun q17 h=>?_)
        · conv=>whnf
          refine ixS (enc:=(eI .i64)) h rfl (fun _=>rfl) (fun x24 h=>?_)
          conv=>whnf
          refine liS ([x24]:List Int) (eI .i64) rfl rfl ?_
          conv=>whnf
          refine apS (enc:=(eI .i64)) (l1:=v16.1) (l2:=([x24]:List Int)) h rfl rfl (fun _=>rfl) (fun h=>?_)
          conv=>whnf
          refine drS (by kernel_rfl) ?_
          conv=>whnf
          refine fork_t q17 ?_
          conv=>whnf
          refine leX hn16 h ?_
          conv=>whnf
          refine WkF.step (Weak.rekey _ 120 54701 rfl) ?_
          conv=>whnf
          exact WkF.refl _
        conv=>whnf
        refine fkN h (fun q18 h=>?_) (fun q18 h=>?_)
        · conv=>whnf
          refine ixS (enc:=(eI .i64)) h rfl (fun _=>rfl) (fun x23 h=>?_)
          conv=>whnf
          refine liS ([x23]:List Int) (eI .i64) rfl rfl ?_
          conv=>whnf
          refine apS (enc:=(eI .i64)) (l1:=v16.2.1) (l2:=([x23]:List Int)) h rfl rfl (fun _=>rfl) (fun h=>?_)
          conv=>whnf
          refine drS (by kernel_rfl) ?_
          conv=>whnf
          refine fork_f q17 ?_
          conv=>whnf
          refine fork_t q18 ?_
          conv=>whnf
          refine leX hn16 h ?_
          conv=>whnf
          refine WkF.step (Weak.rekey _ 120 54704 rfl) ?_
          conv=>whnf
          exact WkF.refl _
        conv=>whnf
        refine fkN h (fun q19 h=>?_) (fun q19 h=>?_)
        · conv=>whnf
          refine ixS (enc:=(eI .i64)) h rfl (fun _=>rfl) (fun x22 h=>?_)
          conv=>whnf
          refine liS ([x22]:List Int) (eI .i64) rfl rfl ?_
          conv=>whnf
          refine apS (enc:=(eI .i64)) (l1:=v16.2.2.1) (l2:=([x22]:List Int)) h rfl rfl (fun _=>rfl) (fun h=>?_)
          conv=>whnf
          refine drS (by kernel_rfl) ?_
          conv=>whnf
          refine fork_f q17 ?_
          conv=>whnf
          refine fork_f q18 ?_
          conv=>whnf
          refine fork_t q19 ?_
          conv=>whnf
          refine leX hn16 h ?_
          conv=>whnf
          refine WkF.step (Weak.rekey _ 120 54707 rfl) ?_
          conv=>whnf
          exact WkF.refl _
        conv=>whnf
        refine fkN h (fun q20 h=>?_) (fun q20 h=>?_)
        · conv=>whnf
          refine ixS (enc:=(eI .i64)) h rfl (fun _=>rfl) (fun x21 h=>?_)
          conv=>whnf
          refine liS ([x21]:List Int) (eI .i64) rfl rfl ?_
          conv=>whnf
          refine apS (enc:=(eI .i64)) (l1:=v16.2.2.2.1) (l2:=([x21]:List Int)) h rfl rfl (fun _=>rfl) (fun h=>?_)
          conv=>whnf
          refine drS (by kernel_rfl) ?_
          conv=>whnf
          refine fork_f q17 ?_
          conv=>whnf
          refine fork_f q18 ?_
          conv=>whnf
          refine fork_f q19 ?_
          conv=>whnf
          refine fork_t q20 ?_
          conv=>whnf
          refine leX hn16 h ?_
          conv=>whnf
          refine WkF.step (Weak.rekey _ 120 54710 rfl) ?_
          conv=>whnf
          exact WkF.refl _
        conv=>whnf
        cases h
      conv=>whnf
      exact leS hn4 h (Weak.refl _)
    conv=>whnf
    refine lenB tab rfl rfl rfl rfl rfl ?_
    conv=>whnf
    refine lpX (fun v25=>⟨[(9,.l (.ptr 10 0)),(10,.l (.bsl 47 4 3)),(126,.l (.d (.int .i64 (4:Int)))),(127,.l (.d (.int .i64 v25.2.2.2.2)))],142,[],[(10,[.d (.int .i64 v4.1),.d (.sl (v4.2.1.map Window.enc)),.d (.sl (v4.2.2.1.map Face.enc)),.d (.sl (v4.2.2.2.1.map PartState.enc)),.d (.sl (v4.2.2.2.2.1.map PortLine.enc)),.d (.int .i64 v4.2.2.2.2.2.1)]),(47,[.own 54700,.own 54701,.d (.sl (v25.1.map Entry.enc)),.own 54703,.own 54704,.d (.sl (v25.2.1.map Entry.enc)),.own 54706,.own 54707,.d (.sl (v25.2.2.1.map Entry.enc)),.own 54709,.own 54710,.d (.sl (v25.2.2.2.1.map Entry.enc))])],[(54700,113,3,v4.2.2.2.2.2.2.1.map WorldSaw.enc),(54701,3,1,v4.2.2.2.2.2.2.2.1.map (eI .i64)),(54703,113,3,v4.2.2.2.2.2.2.2.2.1.map WorldSaw.enc),(54704,3,1,v4.2.2.2.2.2.2.2.2.2.1.map (eI .i64)),(54706,113,3,v4.2.2.2.2.2.2.2.2.2.2.1.map WorldSaw.enc),(54707,3,1,v4.2.2.2.2.2.2.2.2.2.2.2.1.map (eI .i64)),(54709,113,3,v4.2.2.2.2.2.2.2.2.2.2.2.2.1.map WorldSaw.enc),(54710,3,1,v4.2.2.2.2.2.2.2.2.2.2.2.2.2.1.map (eI .i64))]⟩) h ?_ (fun _ nx25 hn25 v25 h=>?_)
    · conv=>whnf
      refine WkF.step (Weak.nilBD _ 47 2 _ rfl rfl) ?_
      conv=>whnf
      refine WkF.step (Weak.nilBD _ 47 5 _ rfl rfl) ?_
      conv=>whnf
      refine WkF.step (Weak.nilBD _ 47 8 _ rfl rfl) ?_
      conv=>whnf
      refine WkF.step (Weak.nilBD _ 47 11 _ rfl rfl) ?_
      conv=>whnf
      exact WkF.refl _
    conv=>whnf
    refine fkS h (fun h=>?_) (fun h=>?_)
    · conv=>whnf
      refine ixS (enc:=PartState.enc) h rfl (fun _=>rfl) (fun x26 h=>?_)
      conv=>whnf
      refine fkN h (fun q27 h=>?_) (fun q27 h=>?_)
      · conv=>whnf
        exact leS hn25 h (Weak.refl _)
      conv=>whnf
      refine fkN h (fun q28 h=>?_) (fun q28 h=>?_)
      · conv=>whnf
        exact leS hn25 h (Weak.refl _)
      conv=>whnf
      refine fkN h (fun q29 h=>?_) (fun q29 h=>?_)
      · conv=>whnf
        exact leS hn25 h (Weak.refl _)
      conv=>whnf
      refine fkN h (fun q30 h=>?_) (fun q30 h=>?_)
      · conv=>whnf
        exact leS hn25 h (Weak.refl _)
      conv=>whnf
      cases h
    conv=>whnf
    exact rt (E:=E_ListWorldView_Int) h rfl
  conv=>whnf
  cases h

end Go.Proofs.YtldlcdnhdedoeaaGreat
namespace Go.Proofs.YtldlcdnhdedoeaaGreat
open Go Go.VC

/-! ### Tasks -/
def fitsP (a b:Sec):Prop:=a.At+a.Len≤b.At∨(a.At≤b.At∧b.At+b.Len≤a.At+a.Len∧a.Res≠b.Res)
def secP (C:Int) (s:Sec):Prop:=0≤s.Res∧s.Res<4∧0≤s.At∧s.At<C∧1≤s.Len∧s.Len≤C-s.At
def ownP (t:Task):Prop:=1≤t.C∧t.C≤t.D∧t.D≤t.T∧t.T≤200∧t.Secs.length≤4
def RightP (t:Task):Prop:=ownP t∧(∀s∈t.Secs,secP t.C s)∧t.Secs.Pairwise fitsP
instance (a b:Sec):Decidable (fitsP a b):=by unfold fitsP; infer_instance
instance (C:Int) (s:Sec):Decidable (secP C s):=by unfold secP; infer_instance
instance (t:Task):Decidable (ownP t):=by unfold ownP; infer_instance
instance (t:Task):Decidable (RightP t):=by unfold RightP; infer_instance
def right (t:Task):Bool:=decide (RightP t)

theorem task_own_eq (t:Task):task_own t=some (decide (ownP t)):=by
  unfold task_own
  simp only[fk_if,decide_eq_true_eq]
  repeat' split
  · exact dec_iff (by unfold ownP; omega)
  all_goals exact dec_f (by unfold ownP; omega)

theorem task_may_eq (t:Task) (s:Sec) (h:ownP t):task_may t s=some (decide (secP t.C s)):=by
  unfold ownP at h
  unfold task_may
  simp only[fk_if,decide_eq_true_eq]
  repeat' split
  · rw[wr_in _ (by omega)]
    exact dec_iff (by unfold secP; omega)
  all_goals exact dec_f (by unfold secP; omega)

theorem task_fits_eq (C:Int) (a b:Sec) (hC:C≤200) (ha:secP C a) (hb:secP C b):task_fits a b=some (decide (fitsP a b)):=by
  unfold secP at ha hb
  unfold task_fits
  rw[wr_in _ (by omega),wr_in _ (by omega)]
  simp only[fk_if,decide_eq_true_eq]
  repeat' split
  · exact dec_t (by unfold fitsP; omega)
  · exact dec_f (by unfold fitsP; omega)
  · exact dec_not (by unfold fitsP; omega)
  · exact dec_f (by unfold fitsP; omega)

theorem task_Right_eq (t:Task):task_Right t=some (right t):=by
  unfold task_Right
  rw[bnd_eq (task_own_eq t)]
  by_cases ho:ownP t
  rotate_left
  · simp[ho,right,RightP,fk_if]
  simp only[ho,decide_true,Bool.not_true,fk_f]
  have hlen:t.Secs.length≤4:=ho.2.2.2.2
  have hC:t.C≤200:=by unfold ownP at ho; omega
  refine lp_up t.Secs.length (by unfold FU; omega) (fun k=>(∀j (h:j<t.Secs.length),j<k→secP t.C t.Secs[j])∧(∀i j (hi:i<t.Secs.length) (hj:j<t.Secs.length),i<j→j<k→fitsP t.Secs[i] t.Secs[j])) ⟨fun j _ h=>by omega,fun i j _ _ _ h=>by omega⟩ ?_
  rintro nx k hk ⟨J1,J2⟩ hnx
  rw[lt_nat]
  by_cases h:k<t.Secs.length
  · rw[decide_eq_true h,fk_t,ix_lt h,bnd_eq (task_may_eq t _ ho)]
    by_cases hs:secP t.C t.Secs[k]
    rotate_left
    · have:right t=false:=decide_eq_false fun hr=>hs (hr.2.1 _ (List.getElem_mem h))
      simp[hs,this,fk_if]
    simp only[hs,decide_true,Bool.not_true,fk_f]
    rw[ck_t (by simp; omega)]
    have e:(t.Secs.take (k:Int).toNat).drop (0:Int).toNat=t.Secs.take k:=by simp
    rw[e]
    have el:(t.Secs.take k).length=k:=by simp; omega
    refine lp_up k (by unfold FU; omega) (fun j=>∀i (hi:i<t.Secs.length),i<j→fitsP t.Secs[i] t.Secs[k]) (fun i _ h=>by omega) ?_
    intro nx2 j hj J3 hnx2
    rw[el,lt_nat]
    by_cases h2:j<k
    · have hjl:j<t.Secs.length:=by omega
      rw[decide_eq_true h2,fk_t,ix_lt (by omega),List.getElem_take,bnd_eq (task_fits_eq t.C _ _ hC (J1 j hjl h2) hs)]
      by_cases hf:fitsP t.Secs[j] t.Secs[k]
      · rw[decide_eq_true hf,fk_t,wr_succ j k h2 (by omega)]
        refine hnx2 h2 fun i hi hij=>?_
        by_cases e:i=j
        · subst e; exact hf
        · exact J3 i hi (by omega)
      · have:right t=false:=decide_eq_false fun hr=>hf (List.pairwise_iff_getElem.1 hr.2.2 j k hjl h h2)
        rw[decide_eq_false hf,fk_f,this]; rfl
    · have hjk:j=k:=by omega
      subst hjk
      rw[decide_eq_false h2,fk_f,wr_succ j _ h (by omega)]
      refine hnx h ⟨fun i hi hij=>?_,fun a b ha hb hab hbj=>?_⟩
      · by_cases e:i=j
        · subst e; exact hs
        · exact J1 i hi (by omega)
      · by_cases e:b=j
        · subst e; exact J3 a ha hab
        · exact J2 a b ha hb hab (by omega)
  · have hk2:k=t.Secs.length:=by omega
    rw[decide_eq_false h,fk_f]
    have:right t=true:=decide_eq_true ⟨ho,fun s hs=>by
      obtain⟨j,hj,rfl⟩:=List.getElem_of_mem hs
      exact J1 j hj (by omega),List.pairwise_iff_getElem.2 fun i j hi hj hij=>J2 i j hi hj hij (by omega)⟩
    rw[this]
    unfold ownP at ho
    simp; omega


def AllP (l:List Task):Prop:=(∀t∈l,RightP t)∧l.length≤8
instance (l:List Task):Decidable (AllP l):=by unfold AllP; infer_instance
theorem right_t {t:Task}:right t=true↔RightP t:=decide_eq_true_iff
theorem right_f {t:Task}:right t=false↔¬RightP t:=decide_eq_false_iff_not

theorem task_All_eq (l:List Task) (hl:l.length≤4611686018427387904):task_All l=some (decide (AllP l)):=by
  unfold task_All
  refine lp_up l.length (by unfold FU; omega) (fun k=>∀j (h:j<l.length),j<k→RightP l[j]) (fun j _ h=>by omega) ?_
  intro nx k hk J hnx
  rw[lt_nat]
  by_cases h:k<l.length
  · rw[decide_eq_true h,fk_t,ix_lt h,bnd_eq (task_Right_eq _)]
    by_cases hr:RightP l[k]
    · rw[right_t.2 hr,Bool.not_true,fk_f,wr_succ k _ h hl]
      refine hnx h fun j hj hjk=>?_
      by_cases e:j=k
      · subst e; exact hr
      · exact J j hj (by omega)
    · rw[right_f.2 hr,Bool.not_false,fk_t]
      exact dec_f fun ha=>hr (ha.1 _ (List.getElem_mem h))
  · rw[decide_eq_false h,fk_f]
    refine dec_iff ⟨fun h8=>⟨fun t ht=>?_,by omega⟩,fun ha=>by have:=ha.2; omega⟩
    obtain⟨j,hj,rfl⟩:=List.getElem_of_mem ht
    exact J j hj (by omega)

def holds (had:Int) (s:Sec):Bool:=decide (s.At<had) && decide (had<s.At+s.Len)
def heldL (had:Int) (l:List Sec):List Int:=(l.filter (holds had)).map (·.Res)
def held (t:Task) (had:Int):List Int:=if right t=true then heldL had t.Secs else []
theorem heldL_succ (had:Int) (l:List Sec) (i:Nat) (h:i<l.length):heldL had (l.take (i+1))=heldL had (l.take i)++(if holds had l[i]=true then [l[i].Res] else []):=by
  rw[←List.take_append_getElem h,heldL,heldL,List.filter_append,List.map_append]
  congr 1
  by_cases e:holds had l[i]=true
  · rw[if_pos e,List.filter_cons_of_pos e]; rfl
  · rw[if_neg e,List.filter_cons_of_neg e]; rfl
theorem heldL_len (had:Int) (l:List Sec):(heldL had l).length≤l.length:=by
  rw[heldL,List.length_map]; exact List.length_filter_le _ _
theorem RightP.sec {t:Task} (h:RightP t) {k:Nat} (hk:k<t.Secs.length):secP t.C t.Secs[k]:=h.2.1 _ (List.getElem_mem hk)
theorem RightP.len {t:Task} (h:RightP t):t.Secs.length≤4:=h.1.2.2.2.2
theorem RightP.c {t:Task} (h:RightP t):1≤t.C∧t.C≤t.D∧t.D≤t.T∧t.T≤200:=⟨h.1.1,h.1.2.1,h.1.2.2.1,h.1.2.2.2.1⟩

theorem task_Held_eq (t:Task) (had:Int):task_Held t had=some (held t had):=by
  unfold task_Held
  rw[bnd_eq (task_Right_eq _)]
  by_cases hr:RightP t
  rotate_left
  · rw[right_f.2 hr,Bool.not_false,fk_t,held,right_f.2 hr]; rfl
  have hl:=hr.len
  have hc:=hr.c
  rw[right_t.2 hr,Bool.not_true,fk_f]
  refine lp_upS t.Secs.length (by unfold FU; omega) (fun k out=>out=heldL had (t.Secs.take k)) [] rfl ?_
  intro nx k out hk J hnx
  subst J
  rw[lt_nat]
  by_cases h:k<t.Secs.length
  · have hs:=hr.sec h
    unfold secP at hs
    have hn:=fun s'=>hnx s' h
    have hlen:=heldL_len had (t.Secs.take k)
    rw[List.length_take] at hlen
    rw[decide_eq_true h,fk_t,jn_eq,ix_lt h]
    simp only[jn_eq]
    rw[wr_succ k _ h (by omega),wr_in _ (by omega)]
    simp only[fk_if,decide_eq_true_eq]
    split
    · split
      · rw[ck_t (by simp; omega)]
        refine hn _ ?_
        rw[heldL_succ _ _ _ h,if_pos]
        simp[holds, *]
      · refine hn _ ?_
        rw[heldL_succ _ _ _ h,if_neg,List.append_nil]
        simp[holds, *]
    · rw[if_neg (by simp)]
      refine hn _ ?_
      rw[heldL_succ _ _ _ h,if_neg,List.append_nil]
      simp[holds, *]
  · rw[decide_eq_false h,fk_f,held,right_t.2 hr,if_pos rfl]
    have:k=t.Secs.length:=by omega
    rw[this,List.take_length]

def usesP (t:Task) (res:Int):Prop:=RightP t∧∃s∈t.Secs,s.Res=res
instance (t:Task) (res:Int):Decidable (usesP t res):=by unfold usesP; infer_instance
theorem task_Uses_eq (t:Task) (res:Int):task_Uses t res=some (decide (usesP t res)):=by
  unfold task_Uses
  rw[bnd_eq (task_Right_eq _)]
  by_cases hr:RightP t
  rotate_left
  · rw[right_f.2 hr,Bool.not_false,fk_t]; exact dec_f fun h=>hr h.1
  have hl:=hr.len
  rw[right_t.2 hr,Bool.not_true,fk_f]
  refine lp_up t.Secs.length (by unfold FU; omega) (fun k=>∀j (h:j<t.Secs.length),j<k→t.Secs[j].Res≠res) (fun j _ h=>by omega) ?_
  intro nx k hk J hnx
  rw[lt_nat]
  by_cases h:k<t.Secs.length
  · rw[decide_eq_true h,fk_t,ix_lt h]
    by_cases e:t.Secs[k].Res=res
    · rw[decide_eq_true e,fk_t]; exact dec_t ⟨hr,_,List.getElem_mem h,e⟩
    · rw[decide_eq_false e,fk_f,wr_succ k _ h (by omega)]
      refine hnx h fun j hj hjk=>?_
      by_cases e2:j=k
      · subst e2; exact e
      · exact J j hj (by omega)
  · rw[decide_eq_false h,fk_f]
    refine dec_f ?_
    rintro⟨_,s,hs,e⟩
    obtain⟨j,hj,rfl⟩:=List.getElem_of_mem hs
    exact J j hj (by omega) e



def GreatP (l:List Task):Prop:=(∃t∈l,20<t.Secs.length)∨20<l.length
instance (l:List Task):Decidable (GreatP l):=by unfold GreatP; infer_instance
theorem wfI_8 {n:Int} (h:wfI .u8 n):0≤n∧n≤255:=by
  unfold wfI at h
  simp only[Lit.wf,Bool.and_eq_true,decide_eq_true_eq] at h
  have h1:IntKind.u8.min=0:=rfl
  have h2:IntKind.u8.max=255:=rfl
  rwa [h1,h2] at h


theorem held_right {t:Task} (h:RightP t) (had:Int):held t had=heldL had t.Secs:=by rw[held,right_t.2 h,if_pos rfl]
theorem held_len (t:Task) (had:Int) (h:RightP t):(held t had).length≤4:=by
  rw[held_right h]; exact Nat.le_trans (heldL_len _ _) h.len
theorem holds_iff {had:Int} {s:Sec}:holds had s=true↔s.At<had∧had<s.At+s.Len:=by
  unfold holds; simp
theorem held_mem {t:Task} (h:RightP t) {had r:Int} (hr:r∈held t had):∃s∈t.Secs,s.Res=r∧s.At<had∧had<s.At+s.Len:=by
  rw[held_right h,heldL] at hr
  obtain⟨s,hs,rfl⟩:=List.mem_map.1 hr
  obtain⟨h1,h2⟩:=List.mem_filter.1 hs
  exact⟨s,h1,rfl,holds_iff.1 h2⟩
theorem held_out {t:Task} (h:RightP t) {had:Int} (ho:had≤0∨t.C≤had):held t had=[]:=by
  rw[List.eq_nil_iff_forall_not_mem]
  intro r hr
  obtain⟨s,hs,e,h1,h2⟩:=held_mem h hr
  have:=h.2.1 s hs
  unfold secP at this
  omega

/-! ### Levels -/
def maxL {α:Type} (f:α→Nat):List α→Nat
  | []=>0
  | x::r=>max (f x) (maxL f r)
theorem maxL_append {α:Type} (f:α→Nat) (a b:List α):maxL f (a++b)=max (maxL f a) (maxL f b):=by
  induction a with
  | nil=>simp[maxL]
  | cons x r ih=>simp only[List.cons_append,maxL,ih]; omega
theorem maxL_le {α:Type} {f:α→Nat} {l:List α} {n:Nat}:maxL f l≤n↔∀x∈l,f x≤n:=by
  induction l with
  | nil=>simp[maxL]
  | cons x r ih=>simp only[maxL,List.mem_cons,forall_eq_or_imp,←ih]; omega
theorem le_maxL {α:Type} {f:α→Nat} {l:List α} {x:α} (h:x∈l):f x≤maxL f l:=maxL_le.1 (Nat.le_refl _) x h
theorem maxL_succ {α:Type} (f:α→Nat) (l:List α) (k:Nat) (h:k<l.length):maxL f (l.take (k+1))=max (maxL f (l.take k)) (f l[k]):=by
  rw[←List.take_append_getElem h,maxL_append]; simp[maxL]
theorem max_int (a b:Nat):(if (a:Int)>(b:Int) then (a:Int) else (b:Int))=((max b a:Nat):Int):=by split <;> omega

def levelN (l:List Task) (D:Int):Nat:=1+l.countP (fun x=>decide (x.D>D))
theorem countP_succ {α:Type} (p:α→Bool) (l:List α) (k:Nat) (h:k<l.length):(l.take (k+1)).countP p=(l.take k).countP p+(if p l[k]=true then 1 else 0):=by
  rw[←List.take_append_getElem h,List.countP_append,List.countP_singleton]
theorem level_level_eq (l:List Task) (t:Task) (hl:l.length≤4611686018427387904):level_level l t=some (levelN l t.D:Int):=by
  unfold level_level
  refine lp_upS l.length (by unfold FU; omega) (fun k n=>n=((1+(l.take k).countP (fun x=>decide (x.D>t.D)):Nat):Int)) 1 rfl ?_
  rintro nx k n hk rfl hnx
  simp only[jn_eq]
  rw[lt_nat]
  have hc:=List.countP_le_length (p:=fun x:Task=>decide (x.D>t.D)) (l:=l.take k)
  rw[List.length_take] at hc
  by_cases h:k<l.length
  · rw[decide_eq_true h,fk_t,ix_lt h,wr_succ k _ h hl,wr_in _ (by omega)]
    by_cases c:l[k].D>t.D
    · rw[decide_eq_true c,fk_t]
      refine hnx _ h ?_
      rw[countP_succ _ _ _ h,if_pos (decide_eq_true c)]; omega
    · rw[decide_eq_false c,fk_f]
      refine hnx _ h ?_
      rw[countP_succ _ _ _ h,if_neg (by simp[c])]; rfl
  · rw[decide_eq_false h,fk_f]
    have:k=l.length:=by omega
    rw[this,List.take_length]; rfl
def ofN (l:List Task) (i:Int):Nat:=if AllP l∧0≤i then (match l[i.toNat]? with | some t=>levelN l t.D | none=>0) else 0
theorem ofN_lt {l:List Task} (ha:AllP l) {i:Int} (h0:0≤i) (h:i.toNat<l.length):ofN l i=levelN l l[i.toNat].D:=by
  rw[ofN,if_pos ⟨ha,h0⟩,List.getElem?_eq_getElem h]
theorem level_Of_eq (l:List Task) (i:Int) (hl:l.length≤4611686018427387904):level_Of l i=some (ofN l i:Int):=by
  unfold level_Of
  simp only[jn_eq,fk_t]
  rw[bnd_eq (task_All_eq l hl)]
  by_cases ha:AllP l
  rotate_left
  · rw[decide_eq_false ha,Bool.not_false,fk_t,ofN,if_neg (fun h=>ha h.1)]; rfl
  rw[decide_eq_true ha,Bool.not_true,fk_f]
  by_cases c1:i<0
  · rw[decide_eq_true c1,fk_t,ofN,if_neg (fun h=>by omega)]; rfl
  rw[decide_eq_false c1,fk_f]
  by_cases c2:i≥(l.length:Int)
  · rw[decide_eq_true c2,fk_t,ofN,List.getElem?_eq_none (by omega)]; simp
  rw[decide_eq_false c2,fk_f,ix_int (by omega) (by omega),bnd_eq (level_level_eq _ _ hl),ofN_lt ha (by omega)]
def ceilN (l:List Task) (res:Int):Nat:=maxL (fun t=>if usesP t res then levelN l t.D else 0) l
def ceil (l:List Task) (res:Int):Nat:=if AllP l then ceilN l res else 0
theorem level_Ceiling_1_eq (t:Task) (res:Int) (l:List Task) (hl:l.length≤4611686018427387904):level_Ceiling_1 t res l=some ((if usesP t res then levelN l t.D else 0:Nat):Int):=by
  unfold level_Ceiling_1
  rw[bnd_eq (task_Uses_eq _ _)]
  by_cases h:usesP t res
  · rw[decide_eq_true h,Bool.not_true,fk_f,bnd_eq (level_level_eq _ _ hl),if_pos h]
  · rw[decide_eq_false h,Bool.not_false,fk_t,if_neg h]; rfl
theorem level_most_eq (l:List Task) (res:Int) (hl:l.length≤4611686018427387904):level_most_api_Task l res l=some (ceilN l res:Int):=by
  unfold level_most_api_Task
  refine lp_upS l.length (by unfold FU; omega) (fun k n=>n=((maxL (fun t=>if usesP t res then levelN l t.D else 0) (l.take k):Nat):Int)) 0 rfl ?_
  rintro nx k n hk rfl hnx
  rw[lt_nat]
  by_cases h:k<l.length
  · rw[decide_eq_true h,fk_t,ix_lt h,bnd_eq (level_Ceiling_1_eq _ _ _ hl),wr_succ k _ h hl,max_int]
    exact hnx _ h (by rw[maxL_succ _ _ _ h])
  · rw[decide_eq_false h,fk_f]
    have:k=l.length:=by omega
    rw[this,List.take_length]; rfl
theorem level_Ceiling_eq (l:List Task) (res:Int) (hl:l.length≤4611686018427387904):level_Ceiling l res=some (ceil l res:Int):=by
  unfold level_Ceiling
  rw[bnd_eq (task_All_eq l hl),ceil]
  by_cases ha:AllP l
  · rw[decide_eq_true ha,Bool.not_true,fk_f,bnd_eq (level_most_eq _ _ hl),if_pos ha]
  · rw[decide_eq_false ha,Bool.not_false,fk_t,if_neg ha]; rfl
def heldN (l:List Task) (h:List Int):Nat:=maxL (ceil l) h
theorem level_Held_eq (l:List Task) (h:List Int) (hl:l.length≤4611686018427387904) (hh:h.length≤4611686018427387904):level_Held l h=some (heldN l h:Int):=by
  unfold level_Held
  have:level_most_int h l=some (heldN l h:Int):=by
    unfold level_most_int
    refine lp_upS h.length (by unfold FU; omega) (fun k n=>n=((maxL (ceil l) (h.take k):Nat):Int)) 0 rfl ?_
    rintro nx k n hk rfl hnx
    rw[lt_nat]
    by_cases c:k<h.length
    · rw[decide_eq_true c,fk_t,ix_lt c,level_Held_1,bnd_eq (level_Ceiling_eq l _ hl),bnd_some,wr_succ k _ c hh,max_int]
      exact hnx _ c (by rw[maxL_succ _ _ _ c])
    · rw[decide_eq_false c,fk_f]
      have:k=h.length:=by omega
      rw[this,List.take_length]; rfl
  rw[bnd_eq this]
theorem level_Passes_eq (l:List Task) (i:Int) (h:List Int) (hl:l.length≤4611686018427387904) (hh:h.length≤4611686018427387904):level_Passes l i h=some (decide (heldN l h<ofN l i)):=by
  unfold level_Passes
  rw[bnd_eq (level_Of_eq l i hl),bnd_eq (level_Held_eq l h hl hh)]
  exact dec_iff (by omega)

/-! The document's. -/
theorem AllP.slen {l:List Task} (h:AllP l) {t:Task} (ht:t∈l):t.Secs.length≤4611686018427387904:=by have:=(h.1 t ht).len; omega
def greatJ (l:List Task) (js:List Job):Prop:=GreatP l∨50<js.length
noncomputable instance (l:List Task) (js:List Job):Decidable (greatJ l js):=Classical.propDecidable _
/-- what a job must be over tasks that are right -/
def bodyP (t:Task) (j:Job):Prop:=j.Due=j.At+t.D∧1≤j.Want∧j.Want≤200∧0≤j.Had∧j.Had<j.Want∧j.Had<t.C∧(j.Began=true∨j.Had=0)
noncomputable instance (t:Task) (j:Job):Decidable (bodyP t j):=Classical.propDecidable _
def jobP (l:List Task) (j:Job):Prop:=0≤j.Task∧0≤j.At∧j.At≤4611686018427387703∧∃h:j.Task.toNat<l.length,bodyP l[j.Task.toNat] j
noncomputable instance (l:List Task) (j:Job):Decidable (jobP l j):=Classical.propDecidable _
theorem job_right_eq (l:List Task) (j:Job) (ha:AllP l):job_right l j=some (decide (jobP l j)):=by
  unfold job_right
  simp only[jn_eq,fk_t,fk_f]
  by_cases c1:j.Task<0
  · rw[decide_eq_true c1,fk_t]; exact dec_f fun h=>by have:=h.1; omega
  rw[decide_eq_false c1,fk_f]
  by_cases c2:j.Task≥(l.length:Int)
  · rw[decide_eq_true c2,fk_t]; exact dec_f fun h=>by have:=h.2.2.2.1; omega
  rw[decide_eq_false c2,fk_f]
  by_cases c3:j.At<0
  · rw[decide_eq_true c3,fk_t]; exact dec_f fun h=>by have:=h.2.1; omega
  rw[decide_eq_false c3,fk_f]
  by_cases c4:j.At>4611686018427387703
  · rw[decide_eq_true c4,fk_t]; exact dec_f fun h=>by have:=h.2.2.1; omega
  have ht:j.Task.toNat<l.length:=by omega
  have hc:=(ha.1 _ (List.getElem_mem ht)).c
  rw[decide_eq_false c4,fk_f,ix_int (by omega) ht,wr_in _ (by omega)]
  have red:decide (jobP l j)=decide (bodyP l[j.Task.toNat] j):=decide_eq_decide.2 ⟨fun h=>h.2.2.2.2,fun h=>⟨by omega,by omega,by omega,ht,h⟩⟩
  rw[red]
  generalize l[j.Task.toNat]=t at *
  have hmin:j.Had<(if j.Want<t.C then j.Want else t.C)↔j.Had<j.Want∧j.Had<t.C:=by
    by_cases c:j.Want<t.C
    · rw[if_pos c]; omega
    · rw[if_neg c]; omega
  by_cases d1:j.Due=j.At+t.D
  rotate_left
  · rw[decide_eq_false d1,fk_f]; exact dec_f fun h=>d1 h.1
  rw[decide_eq_true d1,fk_t]
  by_cases d2:j.Want≥1
  rotate_left
  · rw[decide_eq_false d2,fk_f]; exact dec_f fun h=>d2 h.2.1
  rw[decide_eq_true d2,fk_t]
  by_cases d3:j.Want≤200
  rotate_left
  · rw[decide_eq_false d3,fk_f]; exact dec_f fun h=>d3 h.2.2.1
  rw[decide_eq_true d3,fk_t]
  by_cases d4:j.Had≥0
  rotate_left
  · rw[decide_eq_false d4,fk_f]; exact dec_f fun h=>d4 h.2.2.2.1
  rw[decide_eq_true d4,fk_t]
  by_cases d5:j.Had<(if j.Want<t.C then j.Want else t.C)
  rotate_left
  · rw[decide_eq_false d5,fk_f]; exact dec_f fun h=>d5 (hmin.2 ⟨h.2.2.2.2.1,h.2.2.2.2.2.1⟩)
  rw[decide_eq_true d5,fk_t]
  obtain⟨d5,d6⟩:=hmin.1 d5
  by_cases d7:j.Began=true
  · rw[d7,fk_t]; exact dec_t ⟨d1,d2,d3,d4,d5,d6,.inl d7⟩
  · rw[Bool.eq_false_iff.2 d7,fk_f]
    refine dec_iff ⟨fun h=>⟨d1,d2,d3,d4,d5,d6,.inr h⟩,fun h=>?_⟩
    rcases h.2.2.2.2.2.2 with h | h
    · exact absurd h d7
    · exact h
def apartJ (a b:Job):Prop:=¬(a.Task=b.Task∧a.At=b.At)
def jobsP (l:List Task) (js:List Job):Prop:=AllP l∧js.length≤32∧(∀j∈js,jobP l j)∧js.Pairwise apartJ
noncomputable instance (l:List Task) (js:List Job):Decidable (jobsP l js):=Classical.propDecidable _
theorem job_All_eq (l:List Task) (js:List Job) (hl:l.length≤4611686018427387904):job_All l js=some (decide (jobsP l js)):=by
  unfold job_All
  simp only[jn_eq,fk_t,fk_f]
  rw[bnd_eq (task_All_eq l hl)]
  by_cases ha:AllP l
  rotate_left
  · rw[decide_eq_false ha,Bool.not_false,fk_t]; exact dec_f fun h=>ha h.1
  rw[decide_eq_true ha,Bool.not_true,fk_f]
  by_cases hn:(js.length:Int)>32
  · rw[decide_eq_true hn,fk_t]; exact dec_f fun h=>by have:=h.2.1; omega
  rw[decide_eq_false hn,fk_f]
  refine lp_up js.length (by unfold FU; omega) (fun k=>(∀i (h:i<js.length),i<k→jobP l js[i])∧∀i i2 (h:i<js.length) (h2:i2<js.length),i<i2→i2<k→apartJ js[i] js[i2]) ⟨fun i _ h=>by omega,fun i i2 _ _ _ h=>by omega⟩ ?_
  rintro nx k hk ⟨J1,J2⟩ hnx
  rw[lt_nat]
  by_cases h:k<js.length
  rotate_left
  · rw[decide_eq_false h,fk_f]
    refine dec_t ⟨ha,by omega,fun j hj=>?_,List.pairwise_iff_getElem.2 fun i i2 h1 h2 h3=>J2 i i2 h1 h2 h3 (by omega)⟩
    obtain⟨i,hi,rfl⟩:=List.getElem_of_mem hj
    exact J1 i hi (by omega)
  rw[decide_eq_true h,fk_t,ix_lt h,bnd_eq (job_right_eq l _ ha)]
  by_cases c1:jobP l js[k]
  rotate_left
  · rw[decide_eq_false c1,Bool.not_false,fk_t]; exact dec_f fun h2=>c1 (h2.2.2.1 _ (List.getElem_mem h))
  rw[decide_eq_true c1,Bool.not_true,fk_f,ck_t (by simp; omega)]
  have e:(js.take (k:Int).toNat).drop (0:Int).toNat=js.take k:=by simp
  rw[e,wr_succ k _ h (by omega)]
  have hlen:(js.take k).length=k:=by rw[List.length_take]; omega
  refine lp_up (js.take k).length (by unfold FU; omega) (fun i=>∀q (hq:q<js.length),q<i→apartJ js[q] js[k]) (fun q _ h=>by omega) ?_
  intro nx2 i hi K hnx2
  rw[lt_nat]
  by_cases h2:i<(js.take k).length
  rotate_left
  · rw[decide_eq_false h2,fk_f]
    refine hnx h ⟨fun q hq hqk=>?_,fun q q2 hq hq2 hqq hqk=>?_⟩
    · by_cases e2:q=k
      · subst e2; exact c1
      · exact J1 q hq (by omega)
    · by_cases e2:q2=k
      · subst e2; exact K q hq (by omega)
      · exact J2 q q2 hq hq2 hqq (by omega)
  rw[decide_eq_true h2,fk_t,ix_lt h2,wr_succ i _ h2 (by omega)]
  have hi2:i<js.length:=by omega
  have eg:(js.take k)[i]=js[i]:=by rw[List.getElem_take]
  rw[eg]
  have bad:js[k].Task=js[i].Task→js[k].At=js[i].At→some false=some (decide (jobsP l js)):=fun a b=>dec_f fun hp=>
    List.pairwise_iff_getElem.1 hp.2.2.2 i k hi2 h (by omega) ⟨a.symm,b.symm⟩
  have go:apartJ js[i] js[k]→nx2 ((i+1:Nat):Int)=some (decide (jobsP l js)):=fun hap=>hnx2 h2 fun q hq hqi=>by
    by_cases e2:q=i
    · subst e2; exact hap
    · exact K q hq (by omega)
  by_cases d1:js[k].Task=js[i].Task
  · rw[decide_eq_true d1,fk_t]
    by_cases d2:js[k].At=js[i].At
    · rw[decide_eq_true d2,fk_t]; exact bad d1 d2
    · rw[decide_eq_false d2,fk_f]; exact go fun h=>d2 h.2.symm
  · rw[decide_eq_false d1,fk_f]; exact go fun h=>d1 h.1.symm
def heldJ (l:List Task) (j:Job):List Int:=match l[j.Task.toNat]? with | some t=>held t j.Had | none=>[]
def heldA (l:List Task) (js:List Job):List Int:=js.flatMap (heldJ l)
theorem heldA_succ (l:List Task) (js:List Job) (k:Nat) (h:k<js.length):heldA l (js.take (k+1))=heldA l (js.take k)++heldJ l js[k]:=by
  unfold heldA; rw[←List.take_append_getElem h,List.flatMap_append]; simp
theorem heldA_len {l:List Task} {js:List Job} (ha:AllP l):(heldA l js).length≤4*js.length:=by
  induction js with
  | nil=>simp[heldA]
  | cons j r ih=>
    have:(heldJ l j).length≤4:=by
      unfold heldJ
      cases e:l[j.Task.toNat]? with
      | none=>simp
      | some t=>exact held_len t _ (ha.1 t (List.mem_of_getElem? e))
    simp only[heldA,List.flatMap_cons,List.length_append,List.length_cons] at *
    omega
theorem heldJ_of {l:List Task} {j:Job} (h:j.Task.toNat<l.length):heldJ l j=held l[j.Task.toNat] j.Had:=by
  unfold heldJ; rw[List.getElem?_eq_getElem h]
theorem job_Held_eq (l:List Task) (js:List Job) (hl:l.length≤4611686018427387904):job_Held l js=some (if jobsP l js then heldA l js else []):=by
  unfold job_Held
  rw[bnd_eq (job_All_eq l js hl)]
  by_cases hp:jobsP l js
  rotate_left
  · rw[decide_eq_false hp,Bool.not_false,fk_t,if_neg hp]
  rw[decide_eq_true hp,Bool.not_true,fk_f,if_pos hp]
  have h32:=hp.2.1
  refine lp_upS js.length (by unfold FU; omega) (fun k o=>o=heldA l (js.take k)) [] (by simp[heldA]) ?_
  rintro nx k o hk rfl hnx
  simp only
  rw[lt_nat]
  by_cases h:k<js.length
  rotate_left
  · rw[decide_eq_false h,fk_f]
    have:k=js.length:=by omega
    rw[this,List.take_length]
  have hj:=hp.2.2.1 _ (List.getElem_mem h)
  obtain⟨h1,h2,h3,h4,hb⟩:=hj
  have hlen:=heldA_len (l:=l) (js:=js.take k) hp.1
  rw[List.length_take] at hlen
  have hlen2:=held_len l[js[k].Task.toNat] js[k].Had (hp.1.1 _ (List.getElem_mem h4))
  rw[decide_eq_true h,fk_t,ix_lt h,ix_int h1 h4,bnd_eq (task_Held_eq _ _),ck_t (by simp; omega),wr_succ k _ h (by omega)]
  refine hnx _ h ?_
  rw[heldA_succ l js k h,heldJ_of h4]
def aheadP (a b:Job):Prop:=a.Due<b.Due∨(a.Due=b.Due∧(a.Task<b.Task∨(a.Task=b.Task∧a.At<b.At)))
instance (a b:Job):Decidable (aheadP a b):=by unfold aheadP; infer_instance
theorem job_Ahead_eq (a b:Job):job_Ahead a b=some (decide (aheadP a b)):=by
  unfold job_Ahead
  by_cases c1:a.Due=b.Due
  · rw[decide_eq_true c1,Bool.not_true,fk_f]
    by_cases c2:a.Task=b.Task
    · rw[decide_eq_true c2,Bool.not_true,fk_f]
      refine dec_iff ?_; unfold aheadP; omega
    · rw[decide_eq_false c2,Bool.not_false,fk_t]
      refine dec_iff ?_; unfold aheadP; omega
  · rw[decide_eq_false c1,Bool.not_false,fk_t]
    refine dec_iff ?_; unfold aheadP; omega
/-! The first one. -/
def IsFK (js:List Job) (b:Bool) (K:Nat) (i:Int):Prop:=
  (i = -1∧∀k (hk:k<js.length),k<K→js[k].Began≠b) ∨
  (∃n:Nat,i=(n:Int)∧∃h:n<js.length,n<K∧js[n].Began=b∧(∀k (hk:k<js.length),k<K→js[k].Began=b→¬aheadP js[k] js[n])∧∀k (hk:k<js.length),k<n→js[k].Began=b→aheadP js[n] js[k])
def IsF (js:List Job) (b:Bool) (i:Int):Prop:=IsFK js b js.length i
theorem IsF.uniq {js:List Job} {b:Bool} {i i':Int} (h:IsF js b i) (h':IsF js b i'):i=i':=by
  rcases h with ⟨h1,h2⟩ | ⟨n,rfl,hn,_,hb,h3,h4⟩ <;> rcases h' with ⟨h1',h2'⟩ | ⟨n',rfl,hn',_,hb',h3',h4'⟩
  · omega
  · exact absurd hb' (h2 n' hn' hn')
  · exact absurd hb (h2' n hn hn)
  · rcases Nat.lt_trichotomy n n' with h | h | h
    · exact absurd (h4' n hn h hb) (h3 n' hn' hn' hb')
    · rw[h]
    · exact absurd (h4 n' hn' h hb') (h3' n hn hn hb)
open Classical in
noncomputable def fst (js:List Job) (b:Bool):Int:=if h:∃i,IsF js b i then Classical.choose h else -1
theorem IsF.eq {js:List Job} {b:Bool} {i:Int} (h:IsF js b i):i=fst js b:=by
  have hx:∃i,IsF js b i:=⟨i,h⟩
  unfold fst
  rw[dif_pos hx]
  exact h.uniq (Classical.choose_spec hx)
theorem aheadP_trans {a b c:Job} (h:aheadP a b) (k:aheadP b c):aheadP a c:=by unfold aheadP at *; omega
theorem aheadP_irr (a:Job):¬aheadP a a:=by unfold aheadP; omega
theorem aheadP_of {a b c:Job} (h:¬aheadP b a) (k:aheadP b c):aheadP a c:=by unfold aheadP at *; omega
theorem aheadP_of' {a b c:Job} (h:aheadP a b) (k:¬aheadP c b):aheadP a c:=by unfold aheadP at *; omega
theorem IsFK.zero (js:List Job) (b:Bool):IsFK js b 0 (-1):=.inl ⟨rfl,fun k _ h=>by omega⟩
theorem IsFK.skip {js:List Job} {b:Bool} {K:Nat} {i:Int} (h:IsFK js b K i) (hK:K<js.length) (hb:js[K].Began≠b):IsFK js b (K+1) i:=by
  rcases h with ⟨h1,h2⟩ | ⟨n,rfl,hn,hl,hb',h3,h4⟩
  · refine .inl ⟨h1,fun k hk hkK=>?_⟩
    by_cases e:k=K
    · subst e; exact hb
    · exact h2 k hk (by omega)
  · refine .inr ⟨n,rfl,hn,by omega,hb',fun k hk hkK hkb=>?_,h4⟩
    by_cases e:k=K
    · subst e; exact absurd hkb hb
    · exact h3 k hk (by omega) hkb
theorem IsFK.keep {js:List Job} {b:Bool} {K n:Nat} (h:IsFK js b K (n:Int)) (hK:K<js.length) (hn:n<js.length) (ha:¬aheadP js[K] js[n]):IsFK js b (K+1) (n:Int):=by
  rcases h with ⟨h1,h2⟩ | ⟨m,e,hm,hl,hb',h3,h4⟩
  · omega
  · have:n=m:=by omega
    subst this
    refine .inr ⟨n,rfl,hn,by omega,hb',fun k hk hkK hkb=>?_,h4⟩
    by_cases e:k=K
    · subst e; exact ha
    · exact h3 k hk (by omega) hkb
theorem IsFK.turn {js:List Job} {b:Bool} {K:Nat} {i:Int} (h:IsFK js b K i) (hK:K<js.length) (hb:js[K].Began=b) (ha:∀n (hn:n<js.length),i=(n:Int)→aheadP js[K] js[n]):IsFK js b (K+1) (K:Int):=by
  refine .inr ⟨K,rfl,hK,by omega,hb,fun k hk hkK hkb=>?_,fun k hk hkK hkb=>?_⟩
  · by_cases e:k=K
    · subst e; exact aheadP_irr _
    · rcases h with ⟨h1,h2⟩ | ⟨m,rfl,hm,hl,hb',h3,h4⟩
      · exact absurd hkb (h2 k hk (by omega))
      · exact fun hh=>h3 k hk (by omega) hkb (aheadP_trans hh (ha m hm rfl))
  · rcases h with ⟨h1,h2⟩ | ⟨m,rfl,hm,hl,hb',h3,h4⟩
    · exact absurd hkb (h2 k hk hkK)
    · exact aheadP_of' (ha m hm rfl) (h3 k hk hkK hkb)
theorem job_First_1_eq (j:Job) (b:Bool):job_First_1 j b=some (decide (j.Began=b)):=rfl
theorem job_First_eq (js:List Job) (b:Bool) (hl:js.length≤4611686018427387904):job_First js b=some (fst js b):=by
  unfold job_First
  have:job_first_api_Job js b=some (fst js b):=by
    unfold job_first_api_Job
    simp only[jn_eq]
    refine lp_upS js.length (by unfold FU; omega) (fun k i=>IsFK js b k i) (-1) (IsFK.zero js b) ?_
    intro nx k i hk J hnx
    simp only
    rw[lt_nat]
    by_cases h:k<js.length
    rotate_left
    · rw[decide_eq_false h,fk_f]
      have:k=js.length:=by omega
      subst this
      rw[IsF.eq J]
    rw[decide_eq_true h,fk_t]
    simp only[ix_lt h]
    rw[job_First_1_eq,bnd_some,wr_succ k _ h hl]
    by_cases hb:js[k].Began=b
    rotate_left
    · rw[decide_eq_false hb,fk_f,fk_f]; exact hnx _ h (J.skip h hb)
    rw[decide_eq_true hb,fk_t]
    by_cases h0:i<0
    · rw[decide_eq_true h0,fk_t,fk_t]
      exact hnx _ h (J.turn h hb fun n hn e=>by omega)
    rw[decide_eq_false h0,fk_f]
    have hi:i.toNat<js.length:=by
      rcases J with ⟨h1,_⟩ | ⟨n,rfl,hn,_⟩
      · omega
      · simpa using hn
    have ei:i=(i.toNat:Int):=by omega
    rw[ix_int (by omega) hi,job_Ahead_eq,bnd_some]
    by_cases ha:aheadP js[k] js[i.toNat]
    · rw[decide_eq_true ha,fk_t]
      exact hnx _ h (J.turn h hb fun n hn e=>by
        have:n=i.toNat:=by omega
        subst this; exact ha)
    · rw[decide_eq_false ha,fk_f]
      refine hnx _ h ?_
      rw[ei] at J ⊢
      exact J.keep h hi ha
  rw[bnd_eq this]
theorem fst_is (js:List Job) (b:Bool):IsF js b (fst js b):=by
  have:∀K,K≤js.length→∃i,IsFK js b K i:=by
    intro K
    induction K with
    | zero=>exact fun _=>⟨-1,IsFK.zero js b⟩
    | succ K ih=>
      intro hK
      obtain⟨i,hi⟩:=ih (by omega)
      by_cases hb:js[K].Began=b
      rotate_left
      · exact⟨i,hi.skip hK hb⟩
      by_cases ha:∀n (hn:n<js.length),i=(n:Int)→aheadP js[K] js[n]
      · exact⟨K,hi.turn hK hb ha⟩
      · have:∃n,∃hn:n<js.length,i=(n:Int)∧¬aheadP js[K] js[n]:=by
          by_cases c:∃n,∃hn:n<js.length,i=(n:Int)∧¬aheadP js[K] js[n]
          · exact c
          · exact absurd (fun n hn e=>by
              by_cases c2:aheadP js[K] js[n]
              · exact c2
              · exact absurd ⟨n,hn,e,c2⟩ c) ha
        obtain⟨n,hn,rfl,hna⟩:=this
        exact⟨n,hi.keep hK hn hna⟩
  obtain⟨i,hi⟩:=this js.length (Nat.le_refl _)
  rw[←IsF.eq hi]; exact hi

/-! Sorted jobs. -/
/-! Levels by deadlines. -/
theorem countP_lt {α:Type} {p q:α→Bool} {l:List α} (h:∀x∈l,p x=true→q x=true) {x:α} (hx:x∈l) (hp:p x=false) (hq:q x=true):l.countP p<l.countP q:=by
  induction l with
  | nil=>cases hx
  | cons a r ih=>
    simp only[List.countP_cons]
    have hr:=fun x hx=>h x (List.mem_cons_of_mem _ hx)
    have hle:r.countP p≤r.countP q:=List.countP_mono_left hr
    rcases List.mem_cons.1 hx with rfl | hx
    · rw[hp,hq]; simp; omega
    · have:=ih hr hx
      have h2:=h a List.mem_cons_self
      cases hpa:p a with
      | true=>rw[h2 hpa]; simp; omega
      | false=>simp; omega
theorem levelN_lt {l:List Task} {x:Task} (hx:x∈l) (D:Int):levelN l x.D<levelN l D↔D<x.D:=by
  unfold levelN
  constructor
  · intro h
    by_cases c:D<x.D
    · exact c
    · have:l.countP (fun y=>decide (y.D>D))≤l.countP (fun y=>decide (y.D>x.D)):=List.countP_mono_left fun y _ hy=>by
        simp only[decide_eq_true_eq] at *; omega
      omega
  · intro h
    have:=countP_lt (p:=fun y:Task=>decide (y.D>x.D)) (q:=fun y=>decide (y.D>D)) (l:=l) (fun y _ hy=>by simp only[decide_eq_true_eq] at *; omega) hx (by simp) (by simpa using h)
    omega
/-- A task of this deadline uses nothing of what is held, and passes. -/
def passD (l:List Task) (h:List Int) (D:Int):Prop:=∀r∈h,∀x∈l,usesP x r→D<x.D
theorem maxL_lt {α:Type} {f:α→Nat} {l:List α} {n:Nat} (hn:0<n):maxL f l<n↔∀x∈l,f x<n:=by
  constructor
  · intro h x hx; exact Nat.lt_of_le_of_lt (le_maxL hx) h
  · intro h
    have:maxL f l≤n-1:=maxL_le.2 fun x hx=>by have:=h x hx; omega
    omega
theorem passes_iff {l:List Task} {h:List Int} {i:Int} (ha:AllP l) (h0:0≤i) (hi:i.toNat<l.length):heldN l h<ofN l i↔passD l h l[i.toNat].D:=by
  rw[ofN_lt ha h0 hi]
  have hn:0<levelN l l[i.toNat].D:=by unfold levelN; omega
  unfold heldN passD
  rw[maxL_lt hn]
  refine forall_congr' fun r=>forall_congr' fun hr=>?_
  rw[ceil,if_pos ha,ceilN,maxL_lt hn]
  refine forall_congr' fun x=>forall_congr' fun hx=>?_
  by_cases c:usesP x r
  · rw[if_pos c,levelN_lt hx]; exact⟨fun h _=>h,fun h=>h c⟩
  · rw[if_neg c]; exact⟨fun _ h=>absurd h c,fun _=>hn⟩

/-! Who runs. -/
def jg (js:List Job) (i:Int):Job:=(js[i.toNat]?).getD ⟨0,0,0,0,0,false⟩
theorem jg_lt {js:List Job} {i:Int} (h:i.toNat<js.length):jg js i=js[i.toNat]:=by unfold jg; rw[List.getElem?_eq_getElem h]; rfl
theorem fst_cases (js:List Job) (b:Bool):fst js b = -1∨(0≤fst js b∧(fst js b).toNat<js.length):=by
  rcases fst_is js b with ⟨h,_⟩ | ⟨n,h,hn,_⟩
  · exact .inl h
  · exact .inr ⟨by omega,by omega⟩
theorem fst_none {js:List Job} {b:Bool} (h:fst js b<0):∀j∈js,j.Began≠b:=by
  intro j hj
  rcases fst_is js b with ⟨_,h2⟩ | ⟨n,h1,_⟩
  · obtain⟨k,hk,rfl⟩:=List.getElem_of_mem hj
    exact h2 k hk hk
  · omega
theorem fst_first {js:List Job} {b:Bool} (h:0≤fst js b) (hl:(fst js b).toNat<js.length):js[(fst js b).toNat].Began=b∧∀j∈js,j.Began=b→¬aheadP j js[(fst js b).toNat]:=by
  rcases fst_is js b with ⟨h1,_⟩ | ⟨n,h1,hn,_,hb,h3,_⟩
  · omega
  · have e:(fst js b).toNat=n:=by omega
    subst e
    refine⟨hb,fun j hj hjb=>?_⟩
    obtain⟨k,hk,rfl⟩:=List.getElem_of_mem hj
    exact h3 k hk hk hjb
open Classical in
noncomputable def cho (l:List Task) (js:List Job):Int:=
  if fst js false<0 then fst js true
  else if 0≤fst js true∧¬aheadP (jg js (fst js false)) (jg js (fst js true)) then fst js true
  else if fst js true<0∨heldN l (heldA l js)<ofN l (jg js (fst js false)).Task then fst js false
  else fst js true
theorem heldA_none {l:List Task} {js:List Job} (hp:jobsP l js) (h:∀j∈js,j.Began≠true):heldA l js=[]:=by
  unfold heldA
  rw[List.flatMap_eq_nil_iff]
  intro j hj
  obtain⟨_,_,_,h4,hb⟩:=hp.2.2.1 j hj
  rw[heldJ_of h4]
  refine held_out (hp.1.1 _ (List.getElem_mem h4)) (.inl ?_)
  rcases hb.2.2.2.2.2.2 with h5 | h5
  · exact absurd h5 (h j hj)
  · omega
theorem heldN_none (l:List Task):heldN l []=0:=rfl
theorem srp_Choose_eq (l:List Task) (js:List Job) (hl:l.length≤4611686018427387904):srp_Choose l js=some (if jobsP l js then cho l js else -1):=by
  unfold srp_Choose
  simp only[jn_eq]
  rw[bnd_eq (job_All_eq l js hl)]
  by_cases hp:jobsP l js
  rotate_left
  · rw[decide_eq_false hp,Bool.not_false,fk_t,if_neg hp]
  have h32:=hp.2.1
  have hlen:=heldA_len (l:=l) (js:=js) hp.1
  rw[decide_eq_true hp,Bool.not_true,fk_f,if_pos hp,bnd_eq (job_First_eq js _ (by omega)),bnd_eq (job_First_eq js _ (by omega))]
  unfold cho
  by_cases c1:fst js false<0
  · rw[decide_eq_true c1,fk_t,if_pos c1]
  rw[decide_eq_false c1,fk_f,if_neg c1]
  have hf:(fst js false).toNat<js.length:=by rcases fst_cases js false with h | h <;> omega
  rw[jg_lt hf]
  have main:fk (decide (fst js true<0)) (some (fst js false)) (ix js (fst js false) fun x9=>bnd (job_Held l js) fun x10=>bnd (level_Passes l x9.Task x10) fun x11=>fk x11 (some (fst js false)) (some (fst js true)))=some (if fst js true<0∨heldN l (heldA l js)<ofN l js[(fst js false).toNat].Task then fst js false else fst js true):=by
    by_cases c2:fst js true<0
    · rw[decide_eq_true c2,fk_t,if_pos (.inl c2)]
    rw[decide_eq_false c2,fk_f,ix_int (by omega) hf,bnd_eq (job_Held_eq l js hl),if_pos hp,bnd_eq (level_Passes_eq l _ _ hl (by omega))]
    by_cases c3:heldN l (heldA l js)<ofN l js[(fst js false).toNat].Task
    · rw[decide_eq_true c3,fk_t,if_pos (.inr c3)]
    · rw[decide_eq_false c3,fk_f,if_neg (fun h=>h.elim c2 c3)]
  by_cases c2:fst js true≥0
  · have ht:(fst js true).toNat<js.length:=by rcases fst_cases js true with h | h <;> omega
    rw[decide_eq_true c2,fk_t,ix_int (by omega) hf,ix_int c2 ht,job_Ahead_eq,bnd_some,jg_lt ht]
    by_cases c3:aheadP js[(fst js false).toNat] js[(fst js true).toNat]
    · rw[decide_eq_true c3,Bool.not_true,fk_f,main,if_neg (c:=0≤fst js true∧¬aheadP _ _) (fun h=>h.2 c3)]
    · rw[decide_eq_false c3,Bool.not_false,fk_t,if_pos (c:=0≤fst js true∧_) ⟨c2,c3⟩]
  · rw[decide_eq_false c2,fk_f,fk_f,main,if_neg (c:=0≤fst js true∧_) (fun h=>c2 h.1)]
/-- What is chosen, by cases. -/
theorem cho_cases {l:List Task} {js:List Job} (hp:jobsP l js) :
    (js=[]∧cho l js = -1)∨∃n,∃h:n<js.length,cho l js=(n:Int) ∧
      ((js[n].Began=true∧(∀j∈js,j.Began=true→¬aheadP j js[n])∧∀j∈js,j.Began=false→aheadP j js[n]→∃f∈js,f.Began=false∧(∀j∈js,j.Began=false→¬aheadP j f)∧∃hf:f.Task.toNat<l.length,¬passD l (heldA l js) l[f.Task.toNat].D) ∨
       (js[n].Began=false∧(∀j∈js,j.Began=false→¬aheadP j js[n])∧(∀j∈js,j.Began=true→aheadP js[n] j)∧∃hf:js[n].Task.toNat<l.length,passD l (heldA l js) l[js[n].Task.toNat].D)):=by
  unfold cho
  by_cases c1:fst js false<0
  · rw[if_pos c1]
    by_cases c2:fst js true<0
    · left
      have h1:=fst_none c1
      have h2:=fst_none c2
      refine⟨List.eq_nil_iff_forall_not_mem.2 fun j hj=>?_,by rcases fst_cases js true with h | h <;> omega⟩
      cases hb:j.Began with
      | true=>exact h2 j hj hb
      | false=>exact h1 j hj hb
    · have ht:(fst js true).toNat<js.length:=by rcases fst_cases js true with h | h <;> omega
      obtain⟨h1,h2⟩:=fst_first (by omega) ht
      exact .inr ⟨_,ht,by omega,.inl ⟨h1,h2,fun j hj hb _=>absurd hb (fst_none c1 j hj)⟩⟩
  rw[if_neg c1]
  have hf:(fst js false).toNat<js.length:=by rcases fst_cases js false with h | h <;> omega
  obtain⟨t0,_,_,t3,_⟩:=hp.2.2.1 _ (List.getElem_mem hf)
  obtain⟨f1,f2⟩:=fst_first (b:=false) (by omega) hf
  rw[jg_lt hf]
  right
  by_cases c2:0≤fst js true∧¬aheadP js[(fst js false).toNat] (jg js (fst js true))
  · rw[if_pos c2]
    have ht:(fst js true).toNat<js.length:=by rcases fst_cases js true with h | h <;> omega
    rw[jg_lt ht] at c2
    obtain⟨h1,h2⟩:=fst_first c2.1 ht
    exact⟨_,ht,by omega,.inl ⟨h1,h2,fun j hj hb ha=>absurd (aheadP_of (f2 j hj hb) ha) c2.2⟩⟩
  rw[if_neg c2]
  by_cases c3:fst js true<0∨heldN l (heldA l js)<ofN l js[(fst js false).toNat].Task
  · rw[if_pos c3]
    refine⟨_,hf,by omega,.inr ⟨f1,f2,fun j hj hb=>?_,t3,?_⟩⟩
    · by_cases c4:fst js true<0
      · exact absurd hb (fst_none c4 j hj)
      · have ht:(fst js true).toNat<js.length:=by rcases fst_cases js true with h | h <;> omega
        obtain⟨h1,h2⟩:=fst_first (b:=true) (by omega) ht
        have h3:aheadP js[(fst js false).toNat] js[(fst js true).toNat]:=by
          by_cases c:aheadP js[(fst js false).toNat] js[(fst js true).toNat]
          · exact c
          · exact absurd ⟨by omega,by rw[jg_lt ht]; exact c⟩ c2
        exact aheadP_of' h3 (h2 j hj hb)
    · rw[←passes_iff hp.1 t0 t3]
      rcases c3 with c3 | c3
      · rw[heldA_none hp (fst_none c3),heldN_none,ofN_lt hp.1 t0 t3]; unfold levelN; omega
      · exact c3
  · rw[if_neg c3]
    have c4:¬fst js true<0:=fun h=>c3 (.inl h)
    have ht:(fst js true).toNat<js.length:=by rcases fst_cases js true with h | h <;> omega
    obtain⟨h1,h2⟩:=fst_first (b:=true) (by omega) ht
    refine⟨_,ht,by omega,.inl ⟨h1,h2,fun j hj hb ha=>⟨_,List.getElem_mem hf,f1,f2,t3,?_⟩⟩⟩
    rw[←passes_iff hp.1 t0 t3]
    exact fun h=>c3 (.inr h)


/-! A tick. -/
def upd (j:Job):Job:=⟨j.Task,j.At,j.Due,j.Want,j.Had+1,true⟩
def taskC (l:List Task) (j:Job):Int:=match l[j.Task.toNat]? with | some t=>t.C | none=>0
def overB (l:List Task) (j:Job):Bool:=decide (j.Had+1≥(if taskC l j<j.Want then taskC l j else j.Want))
def zeroJ:Job:=⟨0,0,0,0,0,false⟩
def tickN (l:List Task) (js:List Job) (n:Nat) (h:n<js.length):List Job:=if overB l js[n]=true then js.eraseIdx n else js.set n (upd js[n])
open Classical in
noncomputable def tick (l:List Task) (js:List Job):List Job×Job×Bool:=
  if h:jobsP l js∧0≤cho l js∧(cho l js).toNat<js.length then (tickN l js (cho l js).toNat h.2.2,upd js[(cho l js).toNat],overB l js[(cho l js).toNat]) else (js,zeroJ,false)
theorem tick_eq {l:List Task} {js:List Job} (hp:jobsP l js) {n:Nat} (hn:n<js.length) (ec:cho l js=(n:Int)):tick l js=(tickN l js n hn,upd js[n],overB l js[n]):=by
  obtain rfl:n=(cho l js).toNat:=by omega
  unfold tick
  rw[dif_pos ⟨hp,by omega,hn⟩]
theorem cho_nat {l:List Task} {js:List Job} (hp:jobsP l js):cho l js = -1∨∃n,∃hn:n<js.length,cho l js=(n:Int):=by
  rcases cho_cases hp with ⟨_,h⟩ | ⟨n,hn,h,_⟩
  · exact .inl h
  · exact .inr ⟨n,hn,h⟩
theorem tickN_form {l:List Task} {js:List Job} {n:Nat} (h:n<js.length):tickN l js n h=js.take n++(if overB l js[n]=true then [] else [upd js[n]])++js.drop (n+1):=by
  unfold tickN
  split
  · rw[List.eraseIdx_eq_take_drop_succ]; simp
  · rw[List.set_eq_take_append_cons_drop,if_pos h]; simp
theorem had_bound {l:List Task} {js:List Job} (hp:jobsP l js) {j:Job} (hj:j∈js):0≤j.Had∧j.Had<200∧j.Had<j.Want∧j.Had<taskC l j∧j.Want≤200∧taskC l j≤200:=by
  obtain⟨_,_,_,h4,hb⟩:=hp.2.2.1 j hj
  have hc:=hp.1.1 _ (List.getElem_mem h4)
  have:=hc.1
  unfold ownP at this
  unfold bodyP at hb
  unfold taskC
  rw[List.getElem?_eq_getElem h4]
  simp only
  omega
theorem srp_Tick_eq (l:List Task) (js:List Job) (hl:l.length≤4611686018427387904):srp_Tick l js=some (tick l js):=by
  unfold srp_Tick
  simp only[jn_eq]
  rw[bnd_eq (srp_Choose_eq l js hl)]
  by_cases hp:jobsP l js
  rotate_left
  · rw[if_neg hp,decide_eq_true (by omega),fk_t,tick,dif_neg (fun h=>hp h.1)]; rfl
  rw[if_pos hp]
  have h32:=hp.2.1
  rcases cho_nat hp with hc | ⟨n,hn,ec⟩
  · rw[decide_eq_true (by omega),fk_t,tick,dif_neg (fun h=>by omega)]; rfl
  rw[tick_eq hp hn ec,ec]
  obtain⟨t0,t1,t2,t3,tb⟩:=hp.2.2.1 _ (List.getElem_mem hn)
  have hb:=had_bound hp (List.getElem_mem hn)
  have eC:taskC l js[n]=l[js[n].Task.toNat].C:=by unfold taskC; rw[List.getElem?_eq_getElem t3]
  rw[decide_eq_false (by omega),fk_f,ix_lt hn,ix_int t0 t3,←eC,wr_in _ (by omega),wr_in _ (by omega),tickN_form hn]
  have e2:∀m:List Job,(([]:List Job)++((js.take (n:Int).toNat).drop (0:Int).toNat))++m++((js.take (js.length:Int).toNat).drop ((n:Int)+1).toNat)=js.take n++m++js.drop (n+1):=by
    intro m
    rw[show ((n:Int)+1).toNat=n+1 by omega]; simp
  rw[ck_t (by simp; omega),ck_t (by simp; omega)]
  show fk (!overB l js[n]) _ _=_
  cases ho:overB l js[n] with
  | true=>
    rw[Bool.not_true,fk_f,ck_t (by simp; omega),ck_t (by simp; omega),if_pos rfl,←e2 [],List.append_nil]
    show some (_,upd js[n],overB l js[n])=_
    rw[ho]
  | false=>
    rw[Bool.not_false,fk_t,ck_t (by simp; omega),ck_t (by simp; omega),ck_t (by simp; omega),show (if false=true then ([]:List Job) else [upd js[n]])=[upd js[n]] from if_neg (by simp),←e2]
    show some (_,upd js[n],overB l js[n])=_
    rw[ho]; rfl
theorem over_iff {l:List Task} {js:List Job} (hp:jobsP l js) {j:Job} (hj:j∈js):overB l j=(decide (j.Had+1=j.Want) || decide (j.Had+1=taskC l j)):=by
  have hb:=had_bound hp hj
  unfold overB
  by_cases c:taskC l j<j.Want
  · rw[if_pos c]
    rw[Bool.eq_iff_iff]; simp only[decide_eq_true_eq,Bool.or_eq_true]; omega
  · rw[if_neg c]
    rw[Bool.eq_iff_iff]; simp only[decide_eq_true_eq,Bool.or_eq_true]; omega

/-- Where what is there behind a tick comes from. -/
theorem mem_tickN {l:List Task} {js:List Job} {n:Nat} {h:n<js.length} {j:Job} (hj:j∈tickN l js n h):(∃k,∃hk:k<js.length,k≠n∧j=js[k])∨(overB l js[n]=false∧j=upd js[n]):=by
  unfold tickN at hj
  split at hj
  · rename_i ho
    obtain⟨k,hk,rfl⟩:=List.getElem_of_mem hj
    rw[List.length_eraseIdx,if_pos h] at hk
    rw[List.getElem_eraseIdx]
    split
    · exact .inl ⟨k,by omega,by omega,rfl⟩
    · exact .inl ⟨k+1,by omega,by omega,rfl⟩
  · rename_i ho
    obtain⟨k,hk,rfl⟩:=List.getElem_of_mem hj
    rw[List.length_set] at hk
    rw[List.getElem_set]
    split
    · exact .inr ⟨by simpa using ho,rfl⟩
    · exact .inl ⟨k,hk,by omega,rfl⟩
theorem jobsP_tickN {l:List Task} {js:List Job} (hp:jobsP l js) (n:Nat) (h:n<js.length):jobsP l (tickN l js n h):=by
  refine⟨hp.1,?_,fun j hj=>?_,?_⟩
  · have:=hp.2.1
    unfold tickN
    split
    · rw[List.length_eraseIdx,if_pos h]; omega
    · rw[List.length_set]; exact this
  · rcases mem_tickN hj with ⟨k,hk,_,rfl⟩ | ⟨ho,rfl⟩
    · exact hp.2.2.1 _ (List.getElem_mem hk)
    · have hov:=over_iff hp (List.getElem_mem h)
      have hb:=had_bound hp (List.getElem_mem h)
      obtain⟨t0,t1,t2,t3,tb⟩:=hp.2.2.1 _ (List.getElem_mem h)
      have eC:taskC l js[n]=l[js[n].Task.toNat].C:=by unfold taskC; rw[List.getElem?_eq_getElem t3]
      rw[ho] at hov
      simp only[Bool.false_eq,Bool.or_eq_false_iff,decide_eq_false_iff_not] at hov
      refine⟨t0,t1,t2,t3,?_⟩
      unfold bodyP at *
      exact⟨tb.1,tb.2.1,tb.2.2.1,by simp only[upd]; omega,by simp only[upd]; omega,by simp only[upd]; rw[←eC]; omega,.inl rfl⟩
  · unfold tickN
    split
    · exact hp.2.2.2.sublist (List.eraseIdx_sublist _ _)
    · rw[List.pairwise_iff_getElem]
      intro i k hi hk hik
      rw[List.length_set] at hi hk
      have hpw:=List.pairwise_iff_getElem.1 hp.2.2.2 i k hi hk hik
      rw[List.getElem_set,List.getElem_set]
      split <;> split
      · omega
      · rename_i e _; subst e; exact hpw
      · rename_i _ e; subst e; exact hpw
      · exact hpw
theorem jobsP_tick {l:List Task} {js:List Job} (hp:jobsP l js):jobsP l (tick l js).1:=by
  rcases cho_nat hp with hc | ⟨n,hn,ec⟩
  · rw[tick,dif_neg (fun h=>by omega)]; exact hp
  · rw[tick_eq hp hn ec]; exact jobsP_tickN hp n hn

/-! What jobs hold, of those that began. -/
/-! Jobs that came to be. -/
theorem jobsP_nil {l:List Task} (ha:AllP l):jobsP l []:=⟨ha,Nat.zero_le _,fun j hj=>(List.not_mem_nil hj).elim,List.Pairwise.nil⟩

/-! Releases, not too early. -/
def lastsP (l:List Task) (ls:List Int):Prop:=AllP l∧ls.length=l.length∧∀x∈ls,-1≤x∧x≤4611686018427387903
noncomputable instance (l:List Task) (ls:List Int):Decidable (lastsP l ls):=Classical.propDecidable _
def argP (l:List Task) (ls:List Int) (i t:Int):Prop:=lastsP l ls∧0≤i∧i<(l.length:Int)∧0≤t∧t≤4611686018427387703
noncomputable instance (l:List Task) (ls:List Int) (i t:Int):Decidable (argP l ls i t):=Classical.propDecidable _
def lg (ls:List Int) (i:Int):Int:=(ls[i.toNat]?).getD 0
def tT (l:List Task) (i:Int):Int:=match l[i.toNat]? with | some t=>t.T | none=>0
theorem lg_lt {ls:List Int} {i:Int} (h:i.toNat<ls.length):lg ls i=ls[i.toNat]:=by unfold lg; rw[List.getElem?_eq_getElem h]; rfl
theorem tT_lt {l:List Task} {i:Int} (h:i.toNat<l.length):tT l i=l[i.toNat].T:=by unfold tT; rw[List.getElem?_eq_getElem h]
noncomputable def mayV (l:List Task) (ls:List Int) (i t:Int):Int:=if argP l ls i t then (if lg ls i ≠ -1∧t<lg ls i+tT l i then 6 else 0) else 1
theorem police_Right_eq (l:List Task) (ls:List Int) (hl:l.length≤4611686018427387904) (hs:ls.length≤4611686018427387904):police_Right l ls=some (decide (lastsP l ls)):=by
  unfold police_Right
  simp only[jn_eq,fk_t,fk_f]
  rw[bnd_eq (task_All_eq l hl)]
  by_cases ha:AllP l
  rotate_left
  · rw[decide_eq_false ha,Bool.not_false,fk_t]; exact dec_f fun h=>ha h.1
  rw[decide_eq_true ha,Bool.not_true,fk_f]
  by_cases hn:(ls.length:Int)=(l.length:Int)
  rotate_left
  · rw[decide_eq_false hn,Bool.not_false,fk_t]; exact dec_f fun h=>hn (by rw[h.2.1])
  rw[decide_eq_true hn,Bool.not_true,fk_f]
  refine lp_up ls.length (by unfold FU; omega) (fun k=>∀i (h:i<ls.length),i<k → -1≤ls[i]∧ls[i]≤4611686018427387903) (fun i _ h=>by omega) ?_
  intro nx k hk J hnx
  rw[lt_nat]
  by_cases h:k<ls.length
  rotate_left
  · rw[decide_eq_false h,fk_f]
    refine dec_t ⟨ha,by omega,fun x hx=>?_⟩
    obtain⟨i,hi,rfl⟩:=List.getElem_of_mem hx
    exact J i hi (by omega)
  rw[decide_eq_true h,fk_t,ix_lt h,wr_succ k _ h hs]
  by_cases c1:ls[k] < -1
  · rw[decide_eq_true c1,fk_t]; exact dec_f fun h2=>by have:=(h2.2.2 _ (List.getElem_mem h)).1; omega
  rw[decide_eq_false c1,fk_f]
  by_cases c2:ls[k]>4611686018427387903
  · rw[decide_eq_true c2,fk_t]; exact dec_f fun h2=>by have:=(h2.2.2 _ (List.getElem_mem h)).2; omega
  rw[decide_eq_false c2,fk_f]
  refine hnx h fun i hi hik=>?_
  by_cases e:i=k
  · subst e; omega
  · exact J i hi (by omega)
theorem argP_idx {l:List Task} {ls:List Int} {i t:Int} (h:argP l ls i t):i.toNat<l.length∧i.toNat<ls.length:=by
  have:=h.1.2.1; have:=h.2.1; have:=h.2.2.1; omega
theorem argP_b {l:List Task} {ls:List Int} {i t:Int} (h:argP l ls i t) : -1≤lg ls i∧lg ls i≤4611686018427387903∧1≤tT l i∧tT l i≤200:=by
  obtain⟨h1,h2⟩:=argP_idx h
  rw[lg_lt h2,tT_lt h1]
  have a:=h.1.2.2 _ (List.getElem_mem h2)
  have b:=(h.1.1.1 _ (List.getElem_mem h1)).1
  unfold ownP at b
  omega
theorem police_May_eq (l:List Task) (ls:List Int) (i t:Int) (hl:l.length≤4611686018427387904) (hs:ls.length≤4611686018427387904):police_May l ls i t=some (mayV l ls i t):=by
  unfold police_May mayV
  simp only[jn_eq,fk_t,fk_f]
  rw[bnd_eq (police_Right_eq l ls hl hs)]
  by_cases ha:lastsP l ls
  rotate_left
  · rw[decide_eq_false ha,Bool.not_false,fk_t,if_neg (fun h=>ha h.1)]
  rw[decide_eq_true ha,Bool.not_true,fk_f]
  by_cases c1:i<0
  · rw[decide_eq_true c1,fk_t,if_neg (fun h=>by have:=h.2.1; omega)]
  rw[decide_eq_false c1,fk_f]
  by_cases c2:i≥(l.length:Int)
  · rw[decide_eq_true c2,fk_t,if_neg (fun h=>by have:=h.2.2.1; omega)]
  rw[decide_eq_false c2,fk_f]
  by_cases c3:t<0
  · rw[decide_eq_true c3,fk_t,if_neg (fun h=>by have:=h.2.2.2.1; omega)]
  rw[decide_eq_false c3,fk_f]
  by_cases c4:t>4611686018427387703
  · rw[decide_eq_true c4,fk_t,if_neg (fun h=>by have:=h.2.2.2.2; omega)]
  have hA:argP l ls i t:=⟨ha,by omega,by omega,by omega,by omega⟩
  obtain⟨h1,h2⟩:=argP_idx hA
  have hb:=argP_b hA
  rw[decide_eq_false c4,fk_f,if_pos hA]
  have i2:∀{f:Int→Option Int},ix ls i f=f (lg ls i):=fun {f}=>by rw[lg_lt h2]; exact ix_int (by omega) h2
  have i1:∀{f:Task→Option Int},ix l i f=f l[i.toNat]:=fun {f}=>ix_int (by omega) h1
  simp only[i1,i2]
  rw[←tT_lt h1]
  by_cases c5:lg ls i = -1
  · rw[decide_eq_true c5,Bool.not_true,fk_f,if_neg (fun h=>h.1 c5)]
  rw[decide_eq_false c5,Bool.not_false,fk_t,wr_in _ (by omega)]
  by_cases c6:t<lg ls i+tT l i
  · rw[decide_eq_true c6,fk_t,if_pos ⟨c5,c6⟩]
  · rw[decide_eq_false c6,fk_f,if_neg (fun h=>c6 h.2)]
noncomputable def noteL (l:List Task) (ls:List Int) (i t:Int):List Int:=if mayV l ls i t=0 then ls.set i.toNat t else ls
theorem mayV_arg {l:List Task} {ls:List Int} {i t:Int} (h:mayV l ls i t=0):argP l ls i t:=by
  by_cases c:argP l ls i t
  · exact c
  · unfold mayV at h; rw[if_neg c] at h; omega
theorem police_Note_eq (l:List Task) (ls:List Int) (i t:Int) (hl:l.length≤4611686018427387904) (hs:ls.length≤1000000000):police_Note l ls i t=some (noteL l ls i t,mayV l ls i t):=by
  unfold police_Note noteL
  rw[bnd_eq (police_May_eq l ls i t hl (by omega))]
  by_cases h:mayV l ls i t=0
  rotate_left
  · rw[decide_eq_false h,Bool.not_false,fk_t,if_neg h]
  have hA:=mayV_arg h
  obtain⟨h1,h2⟩:=argP_idx hA
  have:=hA.2.1
  rw[decide_eq_true h,Bool.not_true,fk_f,if_pos h,ck_t (by simp; omega),List.nil_append,ck_t (by simp; omega),ox_lt h2,h]
theorem lastsP_note {l:List Task} {ls:List Int} (h:lastsP l ls) (i t:Int):lastsP l (noteL l ls i t):=by
  unfold noteL
  split
  · rename_i h0
    have hA:=mayV_arg h0
    refine⟨h.1,by rw[List.length_set]; exact h.2.1,fun x hx=>?_⟩
    rcases List.mem_or_eq_of_mem_set hx with hx | hx
    · exact h.2.2 x hx
    · subst hx; have:=hA.2.2.2; omega
  · exact h
/-! Asks, one by one. -/
end Go.Proofs.YtldlcdnhdedoeaaGreat
namespace Go.Proofs.YtldlcdnhdedoeaaGreat
open Go Go.VC

/-! ### Tasks -/




/-! ### Levels -/
/-! The document's. -/

def sumI {α:Type} (f:α→Int):List α→Int
  | []=>0
  | x::r=>f x+sumI f r
theorem sumI_append {α:Type} (f:α→Int) (a b:List α):sumI f (a++b)=sumI f a+sumI f b:=by
  induction a with
  | nil=>simp[sumI]
  | cons x r ih=>simp only[List.cons_append,sumI,ih]; omega
theorem sumI_succ {α:Type} (f:α→Int) (l:List α) (k:Nat) (h:k<l.length):sumI f (l.take (k+1))=sumI f (l.take k)+f l[k]:=by
  rw[←List.take_append_getElem h,sumI_append]; simp[sumI]
theorem sumI_nonneg {α:Type} {f:α→Int}:∀{l:List α},(∀x∈l,0≤f x)→0≤sumI f l
  | [],_=>Int.le_refl _
  | x::r,h=>by
    have h1:=h x List.mem_cons_self
    have h2:=sumI_nonneg (f:=f) (l:=r) fun y hy=>h y (List.mem_cons_of_mem _ hy)
    simp only[sumI]; omega
theorem sumI_bound {α:Type} {f:α→Int} {n:Int}:∀{l:List α},(∀x∈l,f x≤n)→sumI f l≤n*(l.length:Int)
  | [],_=>by simp[sumI]
  | x::r,h=>by
    have h1:=h x List.mem_cons_self
    have h2:=sumI_bound (f:=f) (l:=r) fun y hy=>h y (List.mem_cons_of_mem _ hy)
    have e:n*((x::r).length:Int)=n+n*(r.length:Int):=by
      rw[List.length_cons,Int.natCast_add,Int.mul_add,Int.add_comm]; simp
    simp only[sumI]; omega

def inM (x:Int):Prop := -4611686018427387903≤x∧x≤4611686018427387903
instance (x:Int):Decidable (inM x):=by unfold inM; infer_instance
theorem arith_may_eq (l:List Int) (hl:l.length≤1000):arith_may l=some (decide (∀x∈l,inM x)):=by
  unfold arith_may
  refine lp_up l.length (by unfold FU; omega) (fun k=>∀j (h:j<l.length),j<k→inM l[j]) (fun j _ h=>by omega) ?_
  intro nx k hk J hnx
  simp only[jn_eq]
  rw[lt_nat]
  by_cases h:k<l.length
  · rw[decide_eq_true h,fk_t,ix_lt h,wr_succ k _ h (by omega),fk_t]
    have bad:¬inM l[k]→some false=some (decide (∀x∈l,inM x)):=fun hb=>dec_f fun ha=>hb (ha _ (List.getElem_mem h))
    by_cases c1:l[k]>4611686018427387903
    · rw[decide_eq_true c1,fk_t]; exact bad fun hh=>by unfold inM at hh; omega
    rw[decide_eq_false c1,fk_f]
    by_cases c2:l[k] < -4611686018427387903
    · rw[decide_eq_true c2,fk_t]; exact bad fun hh=>by unfold inM at hh; omega
    rw[decide_eq_false c2,fk_f]
    refine hnx h fun j hj hjk=>?_
    by_cases e:j=k
    · subst e; unfold inM; omega
    · exact J j hj (by omega)
  · rw[decide_eq_false h,fk_f]
    refine dec_t fun x hx=>?_
    obtain⟨j,hj,rfl⟩:=List.getElem_of_mem hx
    exact J j hj (by omega)
theorem arith_may2 (a b:Int):arith_may [a,b]=some (decide (inM a∧inM b)):=by
  rw[arith_may_eq _ (by simp)]; refine dec_iff ?_; simp
theorem arith_may1 (a:Int):arith_may [a]=some (decide (inM a)):=by
  rw[arith_may_eq _ (by simp)]; refine dec_iff ?_; simp
theorem arith_Floor_eq (a b:Int) (ha:0≤a) (ha2:a≤4611686018427387903) (hb:1≤b) (hb2:b≤200):arith_Floor a b=some (a/b,0):=by
  unfold arith_Floor
  simp only[jn_eq,fk_t]
  have hq0:0≤a/b:=Int.ediv_nonneg ha (by omega)
  have hq1:a/b≤a:=Int.ediv_le_self _ ha
  rw[bnd_eq (arith_may2 a b),decide_eq_true ⟨by unfold inM; omega,by unfold inM; omega⟩,Bool.not_true,fk_f,decide_eq_false (by omega:¬b<1),fk_f,ck_t (by simp; omega),ck_t (by simp; omega)]
  rw[Int.tmod_eq_emod_of_nonneg ha,Int.tdiv_eq_ediv_of_nonneg ha]
  have:=Int.emod_nonneg a (b:=b) (by omega)
  rw[decide_eq_false (by omega),fk_f,wr_in _ (by omega)]
def jobsN (t:Task) (k:Int):Int:=if k<t.D then 0 else (k-t.D)/t.T+1
theorem jobsN_b {t:Task} (h:RightP t) {k:Int} (h0:0≤k):0≤jobsN t k∧jobsN t k≤k:=by
  have hc:=h.c
  unfold jobsN
  by_cases c:k<t.D
  · rw[if_pos c]; omega
  · rw[if_neg c]
    have h1:=Int.ediv_nonneg (a:=k-t.D) (b:=t.T) (by omega) (by omega)
    have h2:=Int.ediv_le_self (a:=k-t.D) t.T (by omega)
    omega
theorem demand_jobs_eq (t:Task) (k:Int) (h:RightP t) (h0:0≤k) (h1:k≤4611686018427387903):demand_jobs t k=some (jobsN t k):=by
  have hc:=h.c
  have hj:=jobsN_b h h0
  unfold demand_jobs
  unfold jobsN at *
  by_cases c:k<t.D
  · rw[decide_eq_true c,fk_t,if_pos c]
  · rw[if_neg c] at *
    rw[decide_eq_false c,fk_f,wr_in (k-t.D) (by omega),bnd_eq (arith_Floor_eq _ _ (by omega) (by omega) (by omega) (by omega)),wr_in _ (by simp only; omega)]
theorem arith_Mul_eq (a b:Int) (ha:1≤a) (ha2:a≤200) (hb:0≤b) (hb2:b≤4611686018427387903):arith_Mul a b=some (if a*b≤4611686018427387903 then a*b else 0,if a*b≤4611686018427387903 then 0 else 5):=by
  unfold arith_Mul
  simp only[jn_eq,fk_t]
  rw[bnd_eq (arith_may2 a b),decide_eq_true ⟨by unfold inM; omega,by unfold inM; omega⟩,Bool.not_true,fk_f,decide_eq_false (by omega:¬a=0),fk_f]
  by_cases c:b=0
  · subst c; rw[decide_eq_true rfl,fk_t]; simp
  rw[decide_eq_false c,fk_f]
  have e1:IntKind.i64.wrap (0-b)=0-b:=wr_in _ (by omega)
  have e2:IntKind.i64.wrap (0-a)=0-a:=wr_in _ (by omega)
  rw[e1,e2,if_neg (by omega:¬(0-b>b)),if_neg (by omega:¬(0-a>a)),ck_t (by simp; omega),Int.tdiv_eq_ediv_of_nonneg (by decide)]
  have hq:(4611686018427387903:Int)/b≤4611686018427387903:=Int.ediv_le_self _ (by decide)
  have hq0:0≤(4611686018427387903:Int)/b:=Int.ediv_nonneg (by decide) hb
  rw[wr_in _ (by omega)]
  have key:a>(4611686018427387903:Int)/b↔¬a*b≤4611686018427387903:=by
    rw[←Int.le_ediv_iff_mul_le (by omega)]; omega
  by_cases d:a*b≤4611686018427387903
  · have:0≤a*b:=Int.mul_nonneg (by omega) hb
    rw[decide_eq_false (fun h=>key.1 h d),fk_f,if_pos d,if_pos d,wr_in _ (by omega)]
  · rw[decide_eq_true (key.2 d),fk_t,if_neg d,if_neg d]
theorem arith_Add_eq (a b:Int) (ha:0≤a) (ha2:a≤4611686018427387903) (hb:0≤b) (hb2:b≤4611686018427387903):arith_Add a b=some (if a+b≤4611686018427387903 then a+b else 0,if a+b≤4611686018427387903 then 0 else 5):=by
  unfold arith_Add
  rw[bnd_eq (arith_may2 a b),decide_eq_true ⟨by unfold inM; omega,by unfold inM; omega⟩,Bool.not_true,fk_f,wr_in _ (by omega),bnd_eq (arith_may1 _)]
  by_cases d:a+b≤4611686018427387903
  · rw[decide_eq_true (by unfold inM; omega),Bool.not_true,fk_f,if_pos d,if_pos d]
  · rw[decide_eq_false (by unfold inM; omega),Bool.not_false,fk_t,if_neg d,if_neg d]
def costN (k:Int) (t:Task):Int:=t.C*jobsN t k
def sumB (l:List Task) (k:Int):Int:=sumI (costN k) l
theorem costN_nonneg {t:Task} (h:RightP t) {k:Int} (h0:0≤k):0≤costN k t:=Int.mul_nonneg (by have:=h.c; omega) (jobsN_b h h0).1
theorem costN_le {t:Task} (h:RightP t) {k:Int} (h0:0≤k):costN k t≤200*k:=by
  have hc:=h.c
  have hj:=jobsN_b h h0
  exact Int.mul_le_mul (by omega) hj.2 hj.1 (by omega)
def askP (l:List Task) (k:Int):Prop:=AllP l∧0≤k∧k≤4611686018427387903
instance (l:List Task) (k:Int):Decidable (askP l k):=by unfold askP; infer_instance
theorem demand_Bound_eq (l:List Task) (k:Int) (hl:l.length≤4611686018427387904):demand_Bound l k=some (if askP l k∧sumB l k≤4611686018427387903 then sumB l k else 0,if askP l k then (if sumB l k≤4611686018427387903 then 0 else 5) else 1):=by
  unfold demand_Bound
  simp only[jn_eq,fk_t]
  rw[bnd_eq (task_All_eq l hl)]
  have no:¬askP l k→some ((0:Int),(1:Int))=some (if askP l k∧sumB l k≤4611686018427387903 then sumB l k else 0,if askP l k then (if sumB l k≤4611686018427387903 then (0:Int) else 5) else 1):=fun h=>by
    rw[if_neg (fun h2=>h h2.1),if_neg h]
  by_cases ha:AllP l
  rotate_left
  · rw[decide_eq_false ha,Bool.not_false,fk_t]; exact no fun h=>ha h.1
  rw[decide_eq_true ha,Bool.not_true,fk_f]
  by_cases c1:k<0
  · rw[decide_eq_true c1,fk_t]; exact no fun h=>by have:=h.2.1; omega
  rw[decide_eq_false c1,fk_f]
  by_cases c2:k>4611686018427387903
  · rw[decide_eq_true c2,fk_t]; exact no fun h=>by have:=h.2.2; omega
  rw[decide_eq_false c2,fk_f]
  have hask:askP l k:=⟨ha,by omega,by omega⟩
  rw[if_pos hask]
  refine lp_inv (fun v=>l.length-v.2.2.toNat) (fun v=>∃i:Nat,v.2.2=(i:Int)∧i≤l.length∧0≤v.1∧v.1≤4611686018427387903∧0≤sumI (costN k) (l.take i)∧((v.2.1=0∧v.1=sumI (costN k) (l.take i))∨(v.2.1=5∧sumI (costN k) (l.take i)>4611686018427387903))) ?_ FU _ ⟨0,rfl,Nat.zero_le _,by decide,by decide,by simp[sumI],.inl ⟨rfl,by simp[sumI]⟩⟩ (by show l.length-0<FU; unfold FU; omega)
  rintro nx ⟨w,s,iv⟩ ⟨i,hi,hil,hw0,hw1,hS0,J⟩ hnx
  simp only at hi hw0 hw1 J
  subst hi
  simp only
  rw[lt_nat]
  by_cases h:i<l.length
  · have hr:=ha.1 _ (List.getElem_mem h)
    have hcc:=hr.c
    have hj:=jobsN_b hr (k:=k) (by omega)
    have hcn:=costN_nonneg hr (k:=k) (by omega)
    have hS:=sumI_succ (costN k) l i h
    have hce:costN k l[i]=l[i].C*jobsN l[i] k:=rfl
    rw[decide_eq_true h,fk_t,ix_lt h,bnd_eq (demand_jobs_eq _ _ hr (by omega) (by omega)),bnd_eq (arith_Mul_eq _ _ hcc.1 (by omega) hj.1 (by omega)),wr_succ i _ h hl]
    rw[←hce]
    by_cases c3:costN k l[i]≤4611686018427387903
    · rw[if_pos c3,if_pos c3,bnd_eq (arith_Add_eq w (costN k l[i]) hw0 hw1 hcn c3),decide_eq_true rfl,Bool.not_true,fk_f]
      by_cases c4:w+costN k l[i]≤4611686018427387903
      · rw[if_pos c4,if_pos c4,decide_eq_true rfl,Bool.not_true,fk_f]
        refine hnx _ ⟨i+1,rfl,h,by simp only; omega,by simp only; omega,by omega,?_⟩ (by simp only[Int.toNat_natCast]; omega)
        rcases J with ⟨j1,j2⟩ | ⟨j1,j2⟩
        · exact .inl ⟨j1,by simp only; omega⟩
        · exact .inr ⟨j1,by omega⟩
      · rw[if_neg c4,if_neg c4,show decide ((5:Int)=0)=false from rfl,Bool.not_false,fk_t]
        refine hnx _ ⟨i+1,rfl,h,hw0,hw1,by omega,.inr ⟨rfl,?_⟩⟩ (by simp only[Int.toNat_natCast]; omega)
        rcases J with ⟨j1,j2⟩ | ⟨j1,j2⟩ <;> omega
    · rw[if_neg c3,if_neg c3,bnd_eq (arith_Add_eq w 0 hw0 hw1 (by decide) (by decide)),show decide ((5:Int)=0)=false from rfl,Bool.not_false,fk_t]
      refine hnx _ ⟨i+1,rfl,h,hw0,hw1,by omega,.inr ⟨rfl,?_⟩⟩ (by simp only[Int.toNat_natCast]; omega)
      rcases J with ⟨j1,j2⟩ | ⟨j1,j2⟩ <;> omega
  · rw[decide_eq_false h,fk_f]
    have:i=l.length:=by omega
    subst this
    rw[List.take_length] at J hS0
    have hsB:sumB l k=sumI (costN k) l:=rfl
    rcases J with ⟨j1,j2⟩ | ⟨j1,j2⟩
    · rw[j1,decide_eq_true rfl,Bool.not_true,fk_f,if_pos ⟨hask,by omega⟩,if_pos (by omega),j2]; rfl
    · rw[j1,show decide ((5:Int)=0)=false from rfl,Bool.not_false,fk_t,if_neg (by omega),if_neg (by omega)]
theorem sumB_le {l:List Task} (ha:AllP l) {k:Int} (h0:0≤k):sumB l k≤1600*k:=by
  have h:=sumI_bound (f:=costN k) (l:=l) fun x hx=>costN_le (ha.1 x hx) h0
  have h2:200*k*(l.length:Int)≤200*k*8:=Int.mul_le_mul_of_nonneg_left (by have:=ha.2; omega) (by omega)
  unfold sumB
  omega
theorem sumB_nonneg {l:List Task} (ha:AllP l) {k:Int} (h0:0≤k):0≤sumB l k:=sumI_nonneg fun x hx=>costN_nonneg (ha.1 x hx) h0
theorem demand_Bound_small (l:List Task) (k:Int) (ha:AllP l) (h0:0≤k) (h1:k≤2199023255552):demand_Bound l k=some (sumB l k,0):=by
  have hb:=sumB_le ha h0
  have hk:askP l k:=⟨ha,h0,by omega⟩
  rw[demand_Bound_eq l k (by have:=ha.2; omega),if_pos ⟨hk,by omega⟩,if_pos hk,if_pos (by omega)]
/-! ### Patterns -/
/-- place j of a row keeps its distance -/
def stepP (T:Int) (r:List Int) (j:Nat):Prop:=∀(h:j<r.length),0≤r[j]∧r[j]≤4611686018427387903∧(0<j→r[j-1]+T≤r[j])
def rowP (T:Int) (r:List Int):Prop:=r.length≤1000∧∀j (h:j<r.length),0≤r[j]∧r[j]≤4611686018427387903∧(0<j→r[j-1]+T≤r[j])
def patP (l:List Task) (a:List (List Int)):Prop:=AllP l∧a.length=l.length∧∀i (h:i<a.length) (h2:i<l.length),rowP l[i].T a[i]
noncomputable instance (l:List Task) (a:List (List Int)):Decidable (patP l a):=Classical.propDecidable _
def great7 (l:List Task) (a:List (List Int)):Prop:=(∃r∈a,1100<r.length)∨GreatP l∨20<a.length
instance (l:List Task) (a:List (List Int)):Decidable (great7 l a):=by unfold great7; infer_instance
/-! ### Blocking -/
def sharedP (l:List Task) (t res:Int):Prop:=∃x∈l,x.D≤t∧usesP x res
instance (l:List Task) (t res:Int):Decidable (sharedP l t res):=by unfold sharedP; infer_instance
theorem block_shared_eq (l:List Task) (t res:Int) (hl:l.length≤4611686018427387904):block_shared l t res=some (decide (sharedP l t res)):=by
  unfold block_shared
  refine lp_up l.length (by unfold FU; omega) (fun k=>∀j (h:j<l.length),j<k→¬(l[j].D≤t∧usesP l[j] res)) (fun j _ h=>by omega) ?_
  intro nx k hk J hnx
  rw[lt_nat]
  by_cases h:k<l.length
  · simp only[jn_eq]
    rw[decide_eq_true h,fk_t,ix_lt h,bnd_eq (task_Uses_eq _ _),wr_succ k _ h hl,fk_f]
    have go:¬(l[k].D≤t∧usesP l[k] res)→nx ((k+1:Nat):Int)=some (decide (sharedP l t res)):=fun hn=>hnx h fun j hj hjk=>by
      by_cases e:j=k
      · subst e; exact hn
      · exact J j hj (by omega)
    by_cases c1:l[k].D≤t
    · rw[decide_eq_true c1,fk_t]
      by_cases c2:usesP l[k] res
      · rw[decide_eq_true c2,fk_t]; exact dec_t ⟨_,List.getElem_mem h,c1,c2⟩
      · rw[decide_eq_false c2,fk_f]; exact go fun hh=>c2 hh.2
    · rw[decide_eq_false c1,fk_f]; exact go fun hh=>c1 hh.1
  · rw[decide_eq_false h,fk_f]
    refine dec_f ?_
    rintro⟨x,hx,hh⟩
    obtain⟨j,hj,rfl⟩:=List.getElem_of_mem hx
    exact J j hj (by omega) hh
def secN (l:List Task) (t:Int) (s:Sec):Nat:=if sharedP l t s.Res then s.Len.toNat else 0
def taskN (l:List Task) (t:Int) (x:Task):Nat:=if x.D≤t then 0 else maxL (secN l t) x.Secs
def blockV (l:List Task) (t:Int):Nat:=maxL (taskN l t) l
theorem RightP.sl {t:Task} (h:RightP t) {s:Sec} (hs:s∈t.Secs):1≤s.Len∧s.Len≤200:=by
  have h1:=h.2.1 s hs
  have h2:=h.c
  unfold secP at h1
  omega
theorem maxL_bound {α:Type} {f:α→Nat} {l:List α} {n:Nat} (h:∀x∈l,f x≤n):maxL f l≤n:=maxL_le.2 h
theorem block_Of_eq (l:List Task) (t:Int) (hl:l.length≤4611686018427387904):block_Of l t=some (if AllP l then ((blockV l t:Nat):Int) else 0,if AllP l then 0 else 1):=by
  unfold block_Of
  rw[bnd_eq (task_All_eq l hl)]
  by_cases ha:AllP l
  rotate_left
  · rw[decide_eq_false ha,Bool.not_false,fk_t,if_neg ha,if_neg ha]
  rw[decide_eq_true ha,Bool.not_true,fk_f,if_pos ha,if_pos ha]
  refine lp_upS l.length (by unfold FU; omega) (fun k n=>n=((maxL (taskN l t) (l.take k):Nat):Int)) 0 rfl ?_
  rintro nx k n hk rfl hnx
  simp only[jn_eq]
  rw[lt_nat]
  by_cases h:k<l.length
  · have hm:=maxL_succ (taskN l t) l k h
    have hx:l[k]∈l:=List.getElem_mem h
    have hr:=ha.1 _ hx
    have hsl:=hr.len
    rw[decide_eq_true h,fk_t,ix_lt h,wr_succ k _ h hl]
    by_cases c1:l[k].D≤t
    · rw[decide_eq_true c1,fk_t]
      refine hnx _ h ?_
      rw[hm,taskN,if_pos c1]; omega
    rw[decide_eq_false c1,fk_f]
    rw[taskN,if_neg c1] at hm
    generalize hA:maxL (taskN l t) (l.take k)=A at *
    refine lp_upS l[k].Secs.length (by unfold FU; omega) (fun j n=>n=((max A (maxL (secN l t) (l[k].Secs.take j)):Nat):Int)) _ (by simp[maxL]) ?_
    rintro nx2 j n hj rfl hnx2
    simp only
    rw[lt_nat]
    by_cases h2:j<l[k].Secs.length
    · have hm2:=maxL_succ (secN l t) l[k].Secs j h2
      have hlen:=hr.sl (List.getElem_mem h2)
      rw[decide_eq_true h2,fk_t,ix_lt h2,bnd_eq (block_shared_eq _ _ _ hl),wr_succ j _ h2 (by omega),fk_f]
      unfold secN at hm2
      by_cases c2:l[k].Secs[j].Len>((max A (maxL (secN l t) (l[k].Secs.take j)):Nat):Int)
      · rw[decide_eq_true c2,fk_t]
        by_cases c3:sharedP l t l[k].Secs[j].Res
        · rw[decide_eq_true c3,fk_t]
          refine hnx2 _ h2 ?_
          rw[if_pos c3] at hm2
          unfold secN at c2 ⊢
          rw[hm2]; omega
        · rw[decide_eq_false c3,fk_f]
          refine hnx2 _ h2 ?_
          rw[if_neg c3] at hm2
          unfold secN
          rw[hm2]; omega
      · rw[decide_eq_false c2,fk_f]
        refine hnx2 _ h2 ?_
        unfold secN at c2 ⊢
        rw[hm2]
        split <;> omega
    · rw[decide_eq_false h2,fk_f]
      have:j=l[k].Secs.length:=by omega
      rw[this,List.take_length]
      exact hnx _ h (by rw[hm])
  · rw[decide_eq_false h,fk_f]
    have:k=l.length:=by omega
    rw[this,List.take_length]; rfl
/-! Where it may change. -/
/-! The least supply. -/
def faceP (f:Face):Prop:=1≤f.B∧f.B≤f.P∧f.P≤200
instance (f:Face):Decidable (faceP f):=by unfold faceP; infer_instance
theorem supply_Right_eq (f:Face):supply_Right f=some (decide (faceP f)):=by
  unfold supply_Right
  simp only[fk_if,decide_eq_true_eq]
  repeat' split
  all_goals first
    | exact dec_iff (by unfold faceP; omega)
    | exact dec_f (by unfold faceP; omega)
def max0 (x:Int):Int:=if x>0 then x else 0
def supV (f:Face) (t:Int):Int:=if t<f.P-f.B then 0 else ((t-(f.P-f.B))/f.P)*f.B+max0 (t-2*(f.P-f.B)-((t-(f.P-f.B))/f.P)*f.P)
theorem supV_qr {f:Face} (hf:faceP f) {t q r:Int} (ht:t=(f.P-f.B)+q*f.P+r) (hq:0≤q) (hr:0≤r) (hr2:r<f.P):supV f t=q*f.B+max0 (r-(f.P-f.B)):=by
  unfold faceP at hf
  have hqP:0≤q*f.P:=Int.mul_nonneg hq (by omega)
  have e:(t-(f.P-f.B))/f.P=q:=by
    rw[ht,show f.P-f.B+q*f.P+r-(f.P-f.B)=r+q*f.P by omega,Int.add_mul_ediv_right _ _ (by omega),Int.ediv_eq_zero_of_lt hr hr2]; omega
  unfold supV
  rw[if_neg (by omega),e,show t-2*(f.P-f.B)-q*f.P=r-(f.P-f.B) by omega]
theorem supV_low {f:Face} {t:Int} (h:t<f.P-f.B):supV f t=0:=by unfold supV; rw[if_pos h]
theorem qr_of {f:Face} (hf:faceP f) {t:Int} (h:f.P-f.B≤t):∃q r,t=(f.P-f.B)+q*f.P+r∧0≤q∧0≤r∧r<f.P:=by
  unfold faceP at hf
  refine⟨(t-(f.P-f.B))/f.P,(t-(f.P-f.B))%f.P,?_,Int.ediv_nonneg (by omega) (by omega),Int.emod_nonneg _ (by omega),Int.emod_lt_of_pos _ (by omega)⟩
  have:=Int.mul_ediv_add_emod (t-(f.P-f.B)) f.P
  rw[Int.mul_comm] at this
  omega
theorem max0_b (x:Int):0≤max0 x∧x≤max0 x∧(max0 x=0∨max0 x=x):=by unfold max0; split <;> omega
theorem supply_Bound_eq (f:Face) (t:Int):supply_Bound f t=some (if faceP f∧0≤t∧t≤4611686018427387903 then supV f t else 0,if faceP f∧0≤t∧t≤4611686018427387903 then 0 else 1):=by
  unfold supply_Bound
  simp only[jn_eq,fk_t,fk_f]
  rw[bnd_eq (supply_Right_eq f)]
  by_cases hf:faceP f
  rotate_left
  · rw[decide_eq_false hf,Bool.not_false,fk_t,if_neg (fun h=>hf h.1),if_neg (fun h=>hf h.1)]
  rw[decide_eq_true hf,Bool.not_true,fk_f]
  by_cases c1:t<0
  · rw[decide_eq_true c1,fk_t,if_neg (fun h=>by omega),if_neg (fun h=>by omega)]
  rw[decide_eq_false c1,fk_f]
  by_cases c2:t>4611686018427387903
  · rw[decide_eq_true c2,fk_t,if_neg (fun h=>by omega),if_neg (fun h=>by omega)]
  have hf':=hf
  unfold faceP at hf'
  have hA:faceP f∧0≤t∧t≤4611686018427387903:=⟨hf,by omega,by omega⟩
  rw[show (if faceP f∧0≤t∧t≤4611686018427387903 then supV f t else 0)=supV f t from if_pos hA,show (if faceP f∧0≤t∧t≤4611686018427387903 then (0:Int) else 1)=0 from if_pos hA]
  rw[decide_eq_false c2,fk_f,wr_in (f.P-f.B) (by omega)]
  by_cases c3:t<f.P-f.B
  · rw[decide_eq_true c3,fk_t,supV_low c3]
  obtain⟨q,r,ht,hq,hr,hr2⟩:=qr_of hf (show f.P-f.B≤t by omega)
  have h1:0≤q*f.B:=Int.mul_nonneg hq (by omega)
  have h2:q*f.B≤q*f.P:=Int.mul_le_mul_of_nonneg_left (by omega) hq
  have h3:=max0_b (r-(f.P-f.B))
  have e:(t-(f.P-f.B)).tdiv f.P=q:=by
    rw[Int.tdiv_eq_ediv_of_nonneg (by omega),ht,show f.P-f.B+q*f.P+r-(f.P-f.B)=r+q*f.P by omega,Int.add_mul_ediv_right _ _ (by omega),Int.ediv_eq_zero_of_lt hr hr2]; omega
  have hqq:q≤q*f.P:=by
    have:=Int.mul_le_mul_of_nonneg_left (show (1:Int)≤f.P by omega) hq
    omega
  rw[decide_eq_false c3,fk_f,ck_t (decide_eq_true (by omega)),wr_in (t-(f.P-f.B)) (by omega),e,wr_in q (by omega),wr_in (2*(f.P-f.B)) (by omega),wr_in (t-2*(f.P-f.B)) (by omega),wr_in (q*f.P) (by omega),wr_in (q*f.B) (by omega),wr_in (t-2*(f.P-f.B)-q*f.P) (by omega),supV_qr hf ht hq hr hr2]
  have e2:t-2*(f.P-f.B)-q*f.P=r-(f.P-f.B):=by omega
  rw[e2]
  show some (wr (q*f.B+max0 (r-(f.P-f.B))),(0:Int))=_
  rw[wr_in _ (by omega)]
/-- One tick more. -/
def worstP (f:Face) (i:Int):Prop:=if i<f.P then i<f.B else i%f.P≥f.P-f.B
instance (f:Face) (i:Int):Decidable (worstP f i):=by unfold worstP; infer_instance
/-! Need. -/
def needV (l:List Task) (t:Int):Int:=sumB l t+(blockV l t:Int)
theorem blockV_le {l:List Task} (ha:AllP l) (t:Int):blockV l t≤200:=by
  unfold blockV
  refine maxL_bound fun x hx=>?_
  unfold taskN
  split
  · omega
  · refine maxL_bound fun s hs=>?_
    unfold secN
    have:=(ha.1 x hx).sl hs
    split <;> omega
theorem verdict_Need_eq (l:List Task) (t:Int) (hl:l.length≤4611686018427387904) (h1:t≤2199023255552):verdict_Need l t=some (if AllP l∧0≤t then needV l t else 0,if AllP l∧0≤t then 0 else 1):=by
  unfold verdict_Need
  by_cases ha:AllP l∧0≤t
  · have h2:=sumB_le ha.1 ha.2
    have h3:=sumB_nonneg ha.1 ha.2
    have h4:=blockV_le ha.1 t
    rw[bnd_eq (demand_Bound_small l t ha.1 ha.2 h1),decide_eq_true rfl,Bool.not_true,fk_f,bnd_eq (block_Of_eq l t hl),if_pos ha.1]
    simp only
    rw[bnd_eq (arith_Add_eq _ _ h3 (by omega) (by omega) (by omega)),if_pos (by omega),if_pos (by omega),if_pos ha,if_pos ha]
    rfl
  · have:¬askP l t:=fun h=>ha ⟨h.1,h.2.1⟩
    rw[bnd_eq (demand_Bound_eq l t hl),if_neg (fun h=>this h.1),if_neg this,if_neg ha,if_neg ha]
    rfl

/-! Cycles. -/
theorem arith_Gcd_eq (a b:Int) (ha:0≤a) (ha2:a≤4611686018427387903) (hb:0≤b) (hb2:b≤4611686018427387903):arith_Gcd a b=some (((Nat.gcd a.toNat b.toNat:Nat):Int),0):=by
  unfold arith_Gcd
  simp only[jn_eq,fk_t,fk_f]
  rw[bnd_eq (arith_may2 a b),decide_eq_true (by unfold inM; omega),Bool.not_true,fk_f,decide_eq_false (show ¬a<0 by omega),fk_f,decide_eq_false (show ¬b<0 by omega),fk_f]
  refine lp_inv (fun v=>v.2.toNat) (fun v=>∃x y:Nat,v=((x:Int),(y:Int))∧Nat.gcd x y=Nat.gcd a.toNat b.toNat) ?_ FU _ ⟨a.toNat,b.toNat,by rw[Int.toNat_of_nonneg ha,Int.toNat_of_nonneg hb],rfl⟩ (by unfold FU; simp only; omega)
  rintro nx v ⟨x,y,rfl,hg⟩ hnx
  simp only
  by_cases h:(y:Int)>0
  · rw[decide_eq_true h,fk_t,ck_t (decide_eq_true (by omega)),Int.tmod_eq_emod_of_nonneg (by omega)]
    have e:(x:Int)%(y:Int)=((x%y:Nat):Int):=rfl
    rw[e]
    refine hnx _ ⟨y,x%y,rfl,?_⟩ (by simp only[Int.toNat_natCast]; exact Nat.mod_lt _ (by omega))
    rw[←hg,Nat.gcd_comm x y,Nat.gcd_rec y x,Nat.gcd_comm]
  · rw[decide_eq_false h,fk_f]
    have:y=0:=by omega
    subst this
    rw[←hg,Nat.gcd_zero_right]
theorem arith_Mul_small (a b:Int) (ha:1≤a) (ha2:a≤3000) (hb:1≤b) (hb2:b≤200):arith_Mul a b=some (a*b,0):=by
  unfold arith_Mul
  simp only[jn_eq,fk_t,fk_f]
  have h1:a*b≤3000*200:=Int.mul_le_mul ha2 hb2 (by omega) (by omega)
  have h2:0≤a*b:=Int.mul_nonneg (by omega) (by omega)
  have h3:4611686018427387903/b≥23058430092136939:=by
    exact (Int.le_ediv_iff_mul_le (by omega)).2 (by omega)
  rw[bnd_eq (arith_may2 a b),decide_eq_true (by unfold inM; omega),Bool.not_true,fk_f,decide_eq_false (show ¬a=0 by omega),fk_f,decide_eq_false (show ¬b=0 by omega),fk_f]
  have wa:IntKind.i64.wrap (0-a)=0-a:=wr_in _ (by omega)
  have wb:IntKind.i64.wrap (0-b)=0-b:=wr_in _ (by omega)
  rw[wa,wb,if_neg (show ¬0-b>b by omega),if_neg (show ¬0-a>a by omega),ck_t (decide_eq_true (by omega)),Int.tdiv_eq_ediv_of_nonneg (by omega)]
  have h4:4611686018427387903/b≤4611686018427387903:=Int.ediv_le_self _ (by omega)
  rw[wr_in (4611686018427387903/b) (by omega),decide_eq_false (by omega),fk_f,wr_in _ (by omega)]
theorem arith_Lcm_eq (a b:Nat) (ha:1≤a) (ha2:a≤3000) (hb:1≤b) (hb2:b≤200):arith_Lcm (a:Int) (b:Int)=some (((Nat.lcm a b:Nat):Int),0):=by
  unfold arith_Lcm
  simp only[jn_eq,fk_t,fk_f]
  rw[decide_eq_false (show ¬(a:Int)<1 by omega),fk_f,decide_eq_false (show ¬(b:Int)<1 by omega),fk_f,bnd_eq (arith_Gcd_eq _ _ (by omega) (by omega) (by omega) (by omega)),decide_eq_true rfl,Bool.not_true,fk_f]
  simp only[Int.toNat_natCast]
  have hg:0<Nat.gcd a b:=Nat.gcd_pos_of_pos_left _ (by omega)
  have hd:=Nat.gcd_dvd_left a b
  have hk:1≤a/Nat.gcd a b:=Nat.div_pos (Nat.le_of_dvd (by omega) hd) hg
  have hk2:a/Nat.gcd a b≤a:=Nat.div_le_self _ _
  have e:(a:Int).tdiv (Nat.gcd a b:Int)=((a/Nat.gcd a b:Nat):Int):=by rw[Int.tdiv_eq_ediv_of_nonneg (by omega)]; rfl
  rw[ck_t (decide_eq_true (by omega)),e,wr_in _ (by omega),bnd_eq (arith_Mul_small _ _ (by omega) (by omega) (by omega) (by omega))]
  have:Nat.lcm a b=a/Nat.gcd a b*b:=by
    unfold Nat.lcm
    exact (Nat.div_mul_right_comm hd b).symm
  rw[this]; simp
def lcmL (P:Nat) (l:List Task):Nat:=l.foldl (fun c t=>Nat.lcm c t.T.toNat) P
def farL (x:Int) (l:List Task):Int:=l.foldl (fun m t=>if t.D>m then t.D else m) x
theorem lcmL_succ (P:Nat) (l:List Task) (k:Nat) (h:k<l.length):lcmL P (l.take (k+1))=Nat.lcm (lcmL P (l.take k)) l[k].T.toNat:=by
  unfold lcmL; rw[←List.take_append_getElem h,List.foldl_append]; rfl
theorem farL_succ (x:Int) (l:List Task) (k:Nat) (h:k<l.length):farL x (l.take (k+1))=if l[k].D>farL x (l.take k) then l[k].D else farL x (l.take k):=by
  unfold farL; rw[←List.take_append_getElem h,List.foldl_append]; rfl
theorem lcmL_dvd:∀(l:List Task) (P n:Nat),lcmL P l∣n↔P∣n∧∀t∈l,t.T.toNat∣n
  | [],P,n=>by simp[lcmL]
  | t::l,P,n=>by
    have ih:=lcmL_dvd l (Nat.lcm P t.T.toNat) n
    show lcmL (Nat.lcm P t.T.toNat) l∣n↔_
    rw[ih]
    constructor
    · rintro⟨h1,h2⟩
      refine⟨Nat.dvd_trans (Nat.dvd_lcm_left _ _) h1,fun x hx=>?_⟩
      rcases List.mem_cons.1 hx with rfl | hx
      · exact Nat.dvd_trans (Nat.dvd_lcm_right _ _) h1
      · exact h2 x hx
    · rintro⟨h1,h2⟩
      exact⟨Nat.lcm_dvd h1 (h2 t List.mem_cons_self),fun x hx=>h2 x (List.mem_cons_of_mem _ hx)⟩
theorem lcmL_pos:∀(l:List Task) (P:Nat),0<P→(∀t∈l,1≤t.T)→0<lcmL P l
  | [],P,hP,_=>hP
  | t::l,P,hP,h=>lcmL_pos l _ (Nat.lcm_pos hP (by have:=h t List.mem_cons_self; omega)) fun x hx=>h x (List.mem_cons_of_mem _ hx)
theorem farL_b:∀(l:List Task) (x:Int),x≤farL x l∧(∀t∈l,t.D≤farL x l)∧∀m,x≤m→(∀t∈l,t.D≤m)→farL x l≤m
  | [],x=>⟨Int.le_refl _,fun t ht=>(List.not_mem_nil ht).elim,fun m h _=>h⟩
  | t::l,x=>by
    obtain⟨h1,h2,h3⟩:=farL_b l (if t.D>x then t.D else x)
    show _∧_∧_
    have e:farL x (t::l)=farL (if t.D>x then t.D else x) l:=rfl
    rw[e]
    refine⟨?_,fun y hy=>?_,fun m hm hl=>h3 m ?_ fun y hy=>hl y (List.mem_cons_of_mem _ hy)⟩
    · exact Int.le_trans (show x≤(if t.D>x then t.D else x) by split <;> omega) h1
    · rcases List.mem_cons.1 hy with rfl | hy
      · exact Int.le_trans (show y.D≤(if y.D>x then y.D else x) by split <;> omega) h1
      · exact h2 y hy
    · have:=hl t List.mem_cons_self
      split <;> omega
theorem AllP.T {l:List Task} (h:AllP l) {t:Task} (ht:t∈l):1≤t.T∧t.T≤200∧1≤t.C∧t.C≤200∧1≤t.D∧t.D≤200∧t.C≤t.D∧t.D≤t.T:=by
  have:=(h.1 t ht).1
  unfold ownP at this
  omega
def cyc (l:List Task) (f:Face):Nat:=lcmL f.P.toNat l
def farv (l:List Task) (f:Face):Int:=farL (2*f.P) l
theorem cyc_take {l:List Task} {f:Face} (ha:AllP l) (hf:faceP f) (k:Nat):0<lcmL f.P.toNat (l.take k)∧lcmL f.P.toNat (l.take k)≤cyc l f:=by
  unfold faceP at hf
  have h1:=lcmL_pos (l.take k) f.P.toNat (by omega) fun t ht=>(ha.T (List.mem_of_mem_take ht)).1
  have h2:=lcmL_pos l f.P.toNat (by omega) fun t ht=>(ha.T ht).1
  refine⟨h1,Nat.le_of_dvd h2 ?_⟩
  have h3:=(lcmL_dvd l f.P.toNat (lcmL f.P.toNat l)).1 (Nat.dvd_refl _)
  exact (lcmL_dvd _ _ _).2 ⟨h3.1,fun t ht=>h3.2 t (List.mem_of_mem_take ht)⟩
theorem farv_b {l:List Task} {f:Face} (ha:AllP l) (hf:faceP f):2*f.P≤farv l f∧farv l f≤400∧∀t∈l,t.D≤farv l f:=by
  unfold faceP at hf
  obtain⟨h1,h2,h3⟩:=farL_b l (2*f.P)
  exact⟨h1,h3 400 (by omega) (fun t ht=>by have:=ha.T ht; omega),h2⟩
theorem farL_take {l:List Task} {f:Face} (ha:AllP l) (hf:faceP f) (k:Nat):0≤farL (2*f.P) (l.take k)∧farL (2*f.P) (l.take k)≤400:=by
  unfold faceP at hf
  obtain⟨h1,h2,h3⟩:=farL_b (l.take k) (2*f.P)
  exact⟨by omega,h3 400 (by omega) (fun t ht=>by have:=ha.T (List.mem_of_mem_take ht); omega)⟩
def okC (l:List Task) (f:Face):Prop:=AllP l∧faceP f∧(cyc l f:Int)+farv l f≤3000
noncomputable instance (l:List Task) (f:Face):Decidable (okC l f):=Classical.propDecidable _
noncomputable def errC (l:List Task) (f:Face):Int:=if okC l f then 0 else if AllP l∧faceP f then 5 else 1
noncomputable def cycV (l:List Task) (f:Face):Int×Int×Int:=if okC l f then ((cyc l f:Int),(cyc l f:Int)+farv l f,0) else (0,0,errC l f)
theorem cycV_arg {l:List Task} {f:Face} (h:¬(AllP l∧faceP f)):cycV l f=(0,0,1):=by
  have h2:¬okC l f:=fun hh=>h ⟨hh.1,hh.2.1⟩
  unfold cycV errC; rw[if_neg h2,if_neg h2,if_neg h]
theorem cycV_big {l:List Task} {f:Face} (h:AllP l∧faceP f) (h2:¬(cyc l f:Int)+farv l f≤3000):cycV l f=(0,0,5):=by
  have h3:¬okC l f:=fun hh=>h2 hh.2.2
  unfold cycV errC; rw[if_neg h3,if_neg h3,if_pos h]
theorem verdict_Cycle_eq (l:List Task) (f:Face) (hl:l.length≤4611686018427387904):verdict_Cycle l f=some (cycV l f):=by
  unfold verdict_Cycle
  simp only[jn_eq,fk_t,fk_f]
  rw[bnd_eq (task_All_eq l hl)]
  by_cases ha:AllP l
  rotate_left
  · rw[decide_eq_false ha,Bool.not_false,fk_t,cycV_arg (fun h=>ha h.1)]
  rw[decide_eq_true ha,Bool.not_true,fk_f,bnd_eq (supply_Right_eq f)]
  by_cases hf:faceP f
  rotate_left
  · rw[decide_eq_false hf,Bool.not_false,fk_t,cycV_arg (fun h=>hf h.2)]
  have hf':=hf
  unfold faceP at hf'
  have h8:=ha.2
  rw[decide_eq_true hf,Bool.not_true,fk_f,wr_in (2*f.P) (by omega)]
  refine lp_inv (fun v=>l.length-v.2.2.toNat) (fun v=>∃k:Nat,v=(((lcmL f.P.toNat (l.take k):Nat):Int),farL (2*f.P) (l.take k),(k:Int))∧k≤l.length∧lcmL f.P.toNat (l.take k)≤3000) ?_ FU _ ⟨0,by simp[lcmL,farL]; omega,Nat.zero_le _,by simp[lcmL]; omega⟩ (by unfold FU; simp; omega)
  rintro nx v ⟨k,rfl,hk,hc⟩ hnx
  simp only
  rw[lt_nat]
  obtain⟨c1,c2⟩:=cyc_take ha hf k
  have hfr:=farL_take ha hf k
  by_cases h:k<l.length
  · obtain⟨t1,t2,_⟩:=ha.T (List.getElem_mem h)
    have eT:l[k].T=((l[k].T.toNat:Nat):Int):=by omega
    rw[decide_eq_true h,fk_t,ix_lt h,wr_succ k _ h (by omega),eT,bnd_eq (arith_Lcm_eq _ _ c1 hc (by omega) (by omega)),decide_eq_true rfl,Bool.not_true,fk_f,←lcmL_succ _ _ _ h,←farL_succ _ _ _ h]
    obtain⟨d1,d2⟩:=cyc_take ha hf (k+1)
    have hfv:=farv_b ha hf
    by_cases c:((lcmL f.P.toNat (l.take (k+1)):Nat):Int)>3000
    · rw[decide_eq_true c,fk_t,cycV_big ⟨ha,hf⟩ (by omega)]
    · rw[decide_eq_false c,fk_f]
      exact hnx _ ⟨k+1,rfl,by omega,by omega⟩ (by simp only[Int.toNat_natCast]; omega)
  · have:k=l.length:=by omega
    subst this
    rw[decide_eq_false h,fk_f,wr_in _ (by omega),List.take_length]
    show fk (decide (((cyc l f:Nat):Int)+farv l f>3000)) _ (some (((cyc l f:Nat):Int),((cyc l f:Nat):Int)+farv l f,0))=_
    by_cases c:((cyc l f:Nat):Int)+farv l f>3000
    · rw[decide_eq_true c,fk_t,cycV_big ⟨ha,hf⟩ (by omega)]
    · rw[decide_eq_false c,fk_f,cycV,if_pos ⟨ha,hf,by omega⟩]

/-! The first tick for which tasks don't fit. -/
def badB (l:List Task) (f:Face) (t:Nat):Bool:=decide (needV l t>supV f t)
def badV (l:List Task) (f:Face) (e:Nat):Option Nat:=(List.range (e+1)).find? (badB l f)
theorem badV_some {l:List Task} {f:Face} {e t:Nat}:badV l f e=some t↔t≤e∧needV l t>supV f t∧∀j,j<t→needV l j≤supV f j:=by
  unfold badV
  rw[List.find?_range_eq_some]
  unfold badB
  simp only[decide_eq_true_eq,List.mem_range,Bool.not_eq_true',decide_eq_false_iff_not]
  constructor
  · rintro⟨h1,h2,h3⟩; exact⟨by omega,h1,fun j hj=>by have:=h3 j hj; omega⟩
  · rintro⟨h1,h2,h3⟩; exact⟨h2,by omega,fun j hj=>by have:=h3 j hj; omega⟩
theorem badV_none {l:List Task} {f:Face} {e:Nat}:badV l f e=none↔∀t,t≤e→needV l t≤supV f t:=by
  unfold badV
  rw[List.find?_range_eq_none]
  unfold badB
  simp only[Bool.not_eq_true',decide_eq_false_iff_not]
  exact⟨fun h t ht=>by have:=h t (by omega); omega,fun h t ht=>by have:=h t (by omega); omega⟩
theorem scan_eq {R:Type} (l:List Task) (f:Face) (e:Nat) (he:e≤1000000) (A:Int→Option R) (B:Option R) (r:R) (h1:∀t,badV l f e=some t→A (t:Int)=some r) (h2:badV l f e=none→B=some r) {body:(Int→Option R)→Int→Option R}
    (hb:∀nx (k:Nat),k≤e+1→body nx (k:Int)=fk (decide ((k:Int)≤(e:Int))) (fk (decide (needV l k>supV f k)) (A k) (nx ((k+1:Nat):Int))) B):lp body FU 0=some r:=by
  refine lp_up (e+1) (by unfold FU; omega) (fun k=>∀j:Nat,j<k→needV l j≤supV f j) (fun j h=>by omega) ?_
  intro nx k hk J hnx
  rw[hb nx k hk]
  by_cases c:(k:Int)≤(e:Int)
  · rw[decide_eq_true c,fk_t]
    by_cases d:needV l k>supV f k
    · rw[decide_eq_true d,fk_t]
      exact h1 k (badV_some.2 ⟨by omega,d,J⟩)
    · rw[decide_eq_false d,fk_f]
      refine hnx (by omega) fun j hj=>?_
      by_cases e2:j=k
      · subst e2; omega
      · exact J j (by omega)
  · rw[decide_eq_false c,fk_f]
    exact h2 (badV_none.2 fun t ht=>J t (by omega))
theorem okC_end {l:List Task} {f:Face} (h:okC l f):∃e:Nat,(e:Int)=(cyc l f:Int)+farv l f∧e≤3000:=by
  have h1:=farv_b h.1 h.2.1
  have h2:=h.2.2
  have h3:=h.2.1
  unfold faceP at h3
  exact⟨((cyc l f:Int)+farv l f).toNat,by omega,by omega⟩
def endN (l:List Task) (f:Face):Nat:=((cyc l f:Int)+farv l f).toNat
theorem endN_eq {l:List Task} {f:Face} (h:okC l f):((endN l f:Nat):Int)=(cyc l f:Int)+farv l f∧endN l f≤3000:=by
  obtain⟨e,h1,h2⟩:=okC_end h
  unfold endN; omega
noncomputable def firstV (l:List Task) (f:Face):Int×Bool×Int:=if okC l f then (match badV l f (endN l f) with | some t=>((t:Int),true,0) | none=>(0,false,0)) else (0,false,errC l f)
theorem errC_ne {l:List Task} {f:Face} (h:¬okC l f):errC l f≠0:=by
  unfold errC; rw[if_neg h]; split <;> omega
theorem verdict_First_eq (l:List Task) (f:Face) (hl:l.length≤4611686018427387904):verdict_First l f=some (firstV l f):=by
  unfold verdict_First firstV
  rw[bnd_eq (verdict_Cycle_eq l f hl)]
  by_cases h:okC l f
  rotate_left
  · have:=errC_ne h
    rw[cycV,if_neg h,if_neg h]
    simp only
    rw[decide_eq_false this,Bool.not_false,fk_t]
  obtain⟨e1,e2⟩:=endN_eq h
  rw[cycV,if_pos h,if_pos h]
  rw[show (!decide (((cyc l f:Int),(cyc l f:Int)+farv l f,(0:Int)).2.2=0))=false from rfl,fk_f,show ((cyc l f:Int),(cyc l f:Int)+farv l f,(0:Int)).2.1=(cyc l f:Int)+farv l f from rfl,←e1]
  have:verdict_fails l f ((endN l f:Nat):Int)=some ((badV l f (endN l f)).map fun t=>(t:Int)):=by
    unfold verdict_fails
    refine scan_eq l f (endN l f) (by omega) (fun v=>some (some v)) (some none) _ (fun t ht=>by rw[ht]; rfl) (fun ht=>by rw[ht]; rfl) ?_
    intro nx k hk
    by_cases c:(k:Int)≤((endN l f:Nat):Int)
    · rw[decide_eq_true c,fk_t,fk_t,bnd_eq (verdict_Need_eq l k hl (by omega)),bnd_eq (supply_Bound_eq f k),if_pos ⟨h.1,by omega⟩,if_pos (show faceP f∧0≤(k:Int)∧(k:Int)≤4611686018427387903 from ⟨h.2.1,by omega,by omega⟩),wr_in _ (by omega)]
      rfl
    · rw[decide_eq_false c,fk_f,fk_f]
  rw[bnd_eq this]
  cases badV l f (endN l f) with
  | none=>rfl
  | some t=>rfl
/-! What is asked for in a cycle. -/
def askC (c:Int) (t:Task):Int:=t.C*(c/t.T)
def asked (l:List Task) (c:Int):Int:=sumI (askC c) l
def givenC (f:Face) (c:Int):Int:=f.B*(c/f.P)
theorem div_b {c T:Int} (hc:0≤c) (hT:1≤T):0≤c/T∧c/T≤c:=⟨Int.ediv_nonneg hc (by omega),Int.ediv_le_self _ hc⟩
theorem asked_b {l:List Task} (ha:AllP l) {c:Int} (h0:0≤c) (h1:c≤3000) (k:Nat):0≤asked (l.take k) c∧asked (l.take k) c≤600000*8:=by
  have hx:∀t∈l.take k,0≤askC c t∧askC c t≤600000:=fun t ht=>by
    have hT:=ha.T (List.mem_of_mem_take ht)
    have hd:=div_b h0 hT.1
    unfold askC
    refine⟨Int.mul_nonneg (by omega) hd.1,?_⟩
    have:=Int.mul_le_mul (show t.C≤200 by omega) (show c/t.T≤3000 by omega) hd.1 (by omega)
    omega
  refine⟨sumI_nonneg fun t ht=>(hx t ht).1,?_⟩
  have h2:=sumI_bound (l:=l.take k) fun t ht=>(hx t ht).2
  have h3:(l.take k).length≤8:=by rw[List.length_take]; have:=ha.2; omega
  unfold asked
  have h4:(600000:Int)*((l.take k).length:Int)≤600000*8:=Int.mul_le_mul_of_nonneg_left (by omega) (by omega)
  omega
theorem givenC_b {f:Face} (hf:faceP f) {c:Int} (h0:0≤c) (h1:c≤3000):0≤givenC f c∧givenC f c≤600000:=by
  unfold faceP at hf
  have hd:=div_b h0 (show 1≤f.P by omega)
  unfold givenC
  refine⟨Int.mul_nonneg (by omega) hd.1,?_⟩
  have:=Int.mul_le_mul (show f.B≤200 by omega) (show c/f.P≤3000 by omega) hd.1 (by omega)
  omega
theorem cyc_b {l:List Task} {f:Face} (h:okC l f):1≤(cyc l f:Int)∧(cyc l f:Int)≤3000:=by
  have h1:=farv_b h.1 h.2.1
  have h2:=h.2.2
  have h3:=h.2.1
  have h4:=(cyc_take h.1 h.2.1 l.length).1
  rw[List.take_length] at h4
  unfold faceP at h3
  have:0<cyc l f:=h4
  omega
def fitsF (l:List Task) (f:Face):Prop:=okC l f∧asked l (cyc l f)≤givenC f (cyc l f)∧badV l f (endN l f)=none
noncomputable instance (l:List Task) (f:Face):Decidable (fitsF l f):=Classical.propDecidable _
theorem verdict_Fits_eq (l:List Task) (f:Face) (hl:l.length≤4611686018427387904):verdict_Fits l f=some (decide (fitsF l f),errC l f):=by
  unfold verdict_Fits
  rw[bnd_eq (verdict_Cycle_eq l f hl)]
  by_cases h:okC l f
  rotate_left
  · have:=errC_ne h
    rw[cycV,if_neg h]
    simp only
    rw[decide_eq_false this,Bool.not_false,fk_t,decide_eq_false (fun hh=>h hh.1)]
  have e0:errC l f=0:=by unfold errC; rw[if_pos h]
  have h8:=h.1.2
  have hc:=cyc_b h
  rw[cycV,if_pos h]
  rw[show (!decide (((cyc l f:Int),(cyc l f:Int)+farv l f,(0:Int)).2.2=0))=false from rfl,fk_f]
  refine lp_upS l.length (by unfold FU; omega) (fun k v=>v=asked (l.take k) (cyc l f)) 0 (by simp[asked,sumI]) ?_
  rintro nx k v hk rfl hnx
  simp only
  rw[lt_nat]
  by_cases hh:k<l.length
  · have hT:=h.1.T (List.getElem_mem hh)
    have hd:=div_b (show 0≤(cyc l f:Int) by omega) hT.1
    have hb:=asked_b h.1 (show 0≤(cyc l f:Int) by omega) hc.2 k
    have hb2:=asked_b h.1 (show 0≤(cyc l f:Int) by omega) hc.2 (k+1)
    have hs:asked (l.take (k+1)) (cyc l f)=asked (l.take k) (cyc l f)+askC (cyc l f) l[k]:=sumI_succ _ _ _ hh
    have hm:0≤l[k].C*((cyc l f:Int)/l[k].T):=Int.mul_nonneg (by omega) hd.1
    unfold askC at hs
    rw[Int.mul_comm] at hs hm
    rw[decide_eq_true hh,fk_t,ix_lt hh,ck_t (decide_eq_true (by omega)),Int.tdiv_eq_ediv_of_nonneg (by omega),wr_in ((cyc l f:Int)/l[k].T) (by omega),wr_in ((cyc l f:Int)/l[k].T*l[k].C) (by omega),wr_in _ (by omega),wr_succ k _ hh (by omega)]
    exact hnx _ hh hs.symm
  · have hf:=h.2.1
    unfold faceP at hf
    have hd:=div_b (show 0≤(cyc l f:Int) by omega) (show 1≤f.P by omega)
    have hg:=givenC_b h.2.1 (show 0≤(cyc l f:Int) by omega) hc.2
    have:k=l.length:=by omega
    subst this
    have eg:(cyc l f:Int)/f.P*f.B=givenC f (cyc l f):=by unfold givenC; rw[Int.mul_comm]
    rw[decide_eq_false hh,fk_f,ck_t (decide_eq_true (by omega)),Int.tdiv_eq_ediv_of_nonneg (by omega),wr_in ((cyc l f:Int)/f.P) (by omega),eg,wr_in _ (by omega),List.take_length,e0]
    by_cases c:asked l (cyc l f)>givenC f (cyc l f)
    · rw[decide_eq_true c,fk_t,decide_eq_false (fun hx=>by have:=hx.2.1; omega)]
    rw[decide_eq_false c,fk_f,bnd_eq (verdict_First_eq l f hl)]
    unfold firstV
    rw[if_pos h]
    cases hb:badV l f (endN l f) with
    | none=>rw[show decide (fitsF l f)=true from decide_eq_true ⟨h,by omega,hb⟩]; rfl
    | some t=>rw[show decide (fitsF l f)=false from decide_eq_false fun hx=>by rw[hx.2.2] at hb; cases hb]; rfl

/-! From the end on all goes on by cycles. -/
/-! Fewer tasks; more of a budget. -/
end Go.Proofs.YtldlcdnhdedoeaaGreat
namespace Go.Proofs.YtldlcdnhdedoeaaGreat
open Go Go.VC
/-! A partition's state. -/
def stP (s:PartState):Prop:=s.Leaves.length=s.Tasks.length∧lastsP s.Tasks s.Lasts∧jobsP s.Tasks s.Jobs∧s.Log.length≤2000
noncomputable instance (s:PartState):Decidable (stP s):=Classical.propDecidable _
structure StB (s:PartState):Prop where
  t:s.Tasks.length≤4611686018427387904
  u:∀t∈s.Tasks,t.Secs.length≤4611686018427387904
  a:s.Lasts.length≤4611686018427387904
theorem part_Right_eq (s:PartState) (hb:StB s):part_Right s=some (decide (stP s)):=by
  unfold part_Right
  by_cases h1:s.Leaves.length=s.Tasks.length
  rotate_left
  · rw[decide_eq_false (by omega),fk_f]; exact dec_f fun h=>h1 h.1
  rw[decide_eq_true (by omega),fk_t,bnd_eq (police_Right_eq _ _ hb.t hb.a)]
  by_cases h2:lastsP s.Tasks s.Lasts
  rotate_left
  · rw[decide_eq_false h2,fk_f]; exact dec_f fun h=>h2 h.2.1
  rw[decide_eq_true h2,fk_t,bnd_eq (job_All_eq _ _ hb.t)]
  by_cases h3:jobsP s.Tasks s.Jobs
  rotate_left
  · rw[decide_eq_false h3,fk_f]; exact dec_f fun h=>h3 h.2.2.1
  rw[decide_eq_true h3,fk_t]
  exact dec_iff ⟨fun h=>⟨h1,h2,h3,by omega⟩,fun h=>by have:=h.2.2.2; omega⟩
/-! The log. -/
def nt (lg:List Entry) (e:Entry):List Entry:=if lg.length<2000 then lg++[e] else lg
theorem nt_len {lg:List Entry} {e:Entry} (h:lg.length≤2000):(nt lg e).length≤2000:=by
  unfold nt; split
  · rw[List.length_append]; simp; omega
  · exact h
theorem nt_fk {R:Type} (lg:List Entry) (e:Entry) (K:List Entry→Option R):fk (decide ((lg.length:Int)<2000)) (ck (decide ((lg.length+([e]:List Entry).length)*24≤140737488355328)) (K (lg++[e]))) (K lg)=K (nt lg e):=by
  unfold nt
  by_cases h:lg.length<2000
  · rw[decide_eq_true (by omega),fk_t,if_pos h,ck_t (by simp; omega)]
  · rw[decide_eq_false (by omega),fk_f,if_neg h]
def whenP (t:Int):Prop:=0≤t∧t≤4611686018427387703
instance (t:Int):Decidable (whenP t):=by unfold whenP; infer_instance
theorem part_when_eq (t:Int):part_when t=some (decide (whenP t)):=by
  unfold part_when
  by_cases h:0≤t
  · rw[decide_eq_true (by omega),fk_t]; exact dec_iff ⟨fun k=>⟨h,k⟩,fun k=>k.2⟩
  · rw[decide_eq_false (by omega),fk_f]; exact dec_f fun k=>h k.1
/-! The same. -/
structure SameB (s:Ref17State):Prop where
  t:s.Tasks.length≤4611686018427387904
  u:∀t∈s.Tasks,t.Secs.length≤4611686018427387904
  l:s.Leaves.length≤4611686018427387904
  a:s.Lasts.length≤1000
  j:s.Jobs.length≤4611686018427387904
  g:s.Log.length≤4611686018427387904
/-! Too great. -/
def greatS (s:PartState):Prop:=GreatP s.Tasks∨50<s.Leaves.length∨50<s.Lasts.length∨50<s.Jobs.length∨2010<s.Log.length
noncomputable instance (s:PartState):Decidable (greatS s):=Classical.propDecidable _
theorem AllP_len {l:List Task} (h:AllP l):l.length≤8:=h.2
/-! A release. -/
def relArg (s:PartState) (i w t:Int):Prop:=stP s∧0≤i∧i<(s.Tasks.length:Int)∧1≤w∧w≤200∧whenP t
noncomputable instance (s:PartState) (i w t:Int):Decidable (relArg s i w t):=Classical.propDecidable _
def tD (l:List Task) (i:Int):Int:=match l[i.toNat]? with | some t=>t.D | none=>0
def newJob (l:List Task) (i w t:Int):Job:=⟨i,t,t+tD l i,w,0,false⟩
noncomputable def relV (s:PartState) (i w t:Int):PartState×Int:=
  if relArg s i w t then
    if (s.Leaves[i.toNat]?).getD false=true then (s,9)
    else if mayV s.Tasks s.Lasts i t=0 then
      if s.Jobs.length<32 then (⟨s.Tasks,s.Leaves,s.Lasts.set i.toNat t,s.Jobs++[newJob s.Tasks i w t],nt s.Log ⟨t,1,i⟩⟩,0)
      else (⟨s.Tasks,s.Leaves,s.Lasts,s.Jobs,nt s.Log ⟨t,3,i⟩⟩,3)
    else (⟨s.Tasks,s.Leaves,s.Lasts,s.Jobs,nt s.Log ⟨t,2,i⟩⟩,6)
  else (s,1)
theorem relArg_arg {s:PartState} {i w t:Int} (h:relArg s i w t):argP s.Tasks s.Lasts i t:=⟨h.1.2.1,h.2.1,h.2.2.1,h.2.2.2.2.2.1,h.2.2.2.2.2.2⟩
theorem mayV_06 {l:List Task} {ls:List Int} {i t:Int} (h:argP l ls i t):mayV l ls i t=0∨mayV l ls i t=6:=by
  unfold mayV; rw[if_pos h]; split
  · exact .inr rfl
  · exact .inl rfl
theorem tD_lt {l:List Task} {i:Int} (h:i.toNat<l.length):tD l i=l[i.toNat].D:=by unfold tD; rw[List.getElem?_eq_getElem h]
theorem tD_b {l:List Task} (ha:AllP l) {i:Int} (h:i.toNat<l.length):1≤tD l i∧tD l i≤200:=by
  rw[tD_lt h]
  have:=(ha.1 _ (List.getElem_mem h)).1
  unfold ownP at this
  omega
theorem part_Release_eq (s:PartState) (i w t:Int) (hb:StB s):part_Release s i w t=some (relV s i w t):=by
  unfold part_Release
  simp only[jn_eq]
  rw[bnd_eq (part_Right_eq s hb)]
  by_cases h1:stP s
  rotate_left
  · rw[decide_eq_false h1,Bool.not_false,fk_t,fk_t,relV,if_neg (fun h=>h1 h.1)]
  rw[decide_eq_true h1,Bool.not_true,fk_f]
  by_cases h2:0≤i
  rotate_left
  · rw[decide_eq_true (by omega),fk_t,fk_t,relV,if_neg (fun h=>h2 h.2.1)]
  rw[decide_eq_false (by omega),fk_f]
  by_cases h3:i<(s.Tasks.length:Int)
  rotate_left
  · rw[decide_eq_true (by omega),fk_t,fk_t,relV,if_neg (fun h=>h3 h.2.2.1)]
  rw[decide_eq_false (by omega),fk_f]
  by_cases h4:1≤w
  rotate_left
  · rw[decide_eq_true (by omega),fk_t,fk_t,relV,if_neg (fun h=>h4 h.2.2.2.1)]
  rw[decide_eq_false (by omega),fk_f]
  by_cases h5:w≤200
  rotate_left
  · rw[decide_eq_true (by omega),fk_t,fk_t,relV,if_neg (fun h=>h5 h.2.2.2.2.1)]
  rw[decide_eq_false (by omega),fk_f,bnd_eq (part_when_eq t)]
  by_cases h6:whenP t
  rotate_left
  · rw[decide_eq_false h6,Bool.not_false,fk_t,relV,if_neg (fun h=>h6 h.2.2.2.2.2)]
  have hA:relArg s i w t:=⟨h1,h2,h3,h4,h5,h6⟩
  have hLl:=h1.1
  have hLs:=h1.2.1.2.1
  have hT8:=AllP_len h1.2.1.1
  have hi:i.toNat<s.Tasks.length:=by omega
  have hiL:i.toNat<s.Leaves.length:=by omega
  have hiA:i.toNat<s.Lasts.length:=by omega
  have hJ:=h1.2.2.1.2.1
  have hG:=h1.2.2.2
  rw[decide_eq_true h6,Bool.not_true,fk_f,ix_int h2 hiL]
  have eL:(s.Leaves[i.toNat]?).getD false=s.Leaves[i.toNat]:=by rw[List.getElem?_eq_getElem hiL]; rfl
  by_cases h7:s.Leaves[i.toNat]=true
  · rw[h7,fk_t,relV,if_pos hA,eL,if_pos h7]
  rw[Bool.eq_false_iff.2 h7,fk_f,ck_t (by simp; omega),bnd_eq (police_Note_eq _ _ _ _ hb.t (by omega)),relV,if_pos hA,eL,if_neg h7,List.nil_append]
  dsimp only
  by_cases h8:mayV s.Tasks s.Lasts i t=0
  rotate_left
  · have h86:mayV s.Tasks s.Lasts i t=6:=(mayV_06 (relArg_arg hA)).resolve_left h8
    rw[decide_eq_false h8,Bool.not_false,fk_t,if_neg h8,h86]
    exact nt_fk s.Log ⟨t,2,i⟩ (fun lg=>some ((⟨s.Tasks,s.Leaves,s.Lasts,s.Jobs,lg⟩:PartState),(6:Int)))
  rw[decide_eq_true h8,Bool.not_true,fk_f,if_pos h8]
  by_cases h9:s.Jobs.length<32
  rotate_left
  · rw[decide_eq_true (by omega),fk_t,if_neg h9]
    exact nt_fk s.Log ⟨t,3,i⟩ (fun lg=>some ((⟨s.Tasks,s.Leaves,s.Lasts,s.Jobs,lg⟩:PartState),(3:Int)))
  have hD:=tD_b h1.2.1.1 hi
  have hw:=h6
  unfold whenP at hw
  rw[decide_eq_false (by omega),fk_f,if_pos h9,ck_t (by simp; omega),List.nil_append,ix_int h2 hi,ck_t (by simp; omega),←tD_lt hi,wr_in _ (by omega)]
  have eN:noteL s.Tasks s.Lasts i t=s.Lasts.set i.toNat t:=by unfold noteL; rw[if_pos h8]
  rw[eN]
  exact nt_fk s.Log ⟨t,1,i⟩ (fun lg=>some ((⟨s.Tasks,s.Leaves,s.Lasts.set i.toNat t,s.Jobs++[newJob s.Tasks i w t],lg⟩:PartState),(0:Int)))
def atP (ls:List Int) (js:List Job):Prop:=∀j∈js,j.At≤lg ls j.Task
theorem lg_set {ls:List Int} {i t j:Int} (hi:0≤i) (hj:0≤j) (hjl:j.toNat<ls.length):lg (ls.set i.toNat t) j=if i=j then t else lg ls j:=by
  unfold lg
  by_cases c:i=j
  · subst c; rw[List.getElem?_set_self hjl,if_pos rfl]; rfl
  · rw[List.getElem?_set_ne (by omega),if_neg c]
theorem stP_rel {s:PartState} {i w t:Int} (h:stP s) (hat:atP s.Lasts s.Jobs):stP (relV s i w t).1∧atP (relV s i w t).1.Lasts (relV s i w t).1.Jobs:=by
  unfold relV
  split
  rotate_left
  · exact⟨h,hat⟩
  rename_i hA
  split
  · exact⟨h,hat⟩
  split
  rotate_left
  · exact⟨⟨h.1,h.2.1,h.2.2.1,nt_len h.2.2.2⟩,hat⟩
  rename_i h8
  split
  rotate_left
  · exact⟨⟨h.1,h.2.1,h.2.2.1,nt_len h.2.2.2⟩,hat⟩
  rename_i h9
  have hn:=lastsP_note h.2.1 i t
  have eN:noteL s.Tasks s.Lasts i t=s.Lasts.set i.toNat t:=by unfold noteL; rw[if_pos h8]
  rw[eN] at hn
  have hls:=h.2.1.2.1
  have hlt:∀j∈s.Jobs,j.Task=i→j.At<t:=by
    intro j hj e
    have h1:=hat j hj
    have h2:=(h.2.2.1.2.2.1 j hj).2.1
    have hT:=argP_b (relArg_arg hA)
    unfold mayV at h8
    rw[if_pos (relArg_arg hA)] at h8
    by_cases c:lg s.Lasts i ≠ -1∧t<lg s.Lasts i+tT s.Tasks i
    · rw[if_pos c] at h8; omega
    rw[e] at h1
    omega
  have hAt:atP (s.Lasts.set i.toNat t) (s.Jobs++[newJob s.Tasks i w t]):=by
    intro j hj
    have h2:=hA.2.1
    have h3:=hA.2.2.1
    rcases List.mem_append.1 hj with hj | hj
    · obtain⟨t0,_,_,t3,_⟩:=h.2.2.1.2.2.1 j hj
      rw[lg_set h2 t0 (by omega)]
      split
      · have:=hlt j hj (by omega); omega
      · exact hat j hj
    · obtain rfl:=List.mem_singleton.1 hj
      show t≤lg (s.Lasts.set i.toNat t) i
      rw[lg_set h2 h2 (by omega),if_pos rfl]; exact Int.le_refl _
  refine⟨⟨h.1,hn,?_,nt_len h.2.2.2⟩,hAt⟩
  obtain⟨p1,p2,p3,p4⟩:=h.2.2.1
  have hi:i.toNat<s.Tasks.length:=by have:=hA.2.1; have:=hA.2.2.1; omega
  have hC:=(p1.1 _ (List.getElem_mem hi)).1
  unfold ownP at hC
  have hD:=tD_b p1 hi
  have hw:=hA.2.2.2.2.2
  unfold whenP at hw
  refine⟨p1,by rw[List.length_append]; simp; omega,?_,?_⟩
  · intro j hj
    rcases List.mem_append.1 hj with hj | hj
    · exact p3 j hj
    · obtain rfl:=List.mem_singleton.1 hj
      refine⟨hA.2.1,hw.1,hw.2,hi,?_⟩
      unfold newJob bodyP
      rw[tD_lt hi]
      have hw1:=hA.2.2.2.1
      have hw2:=hA.2.2.2.2.1
      refine⟨rfl,hw1,hw2,Int.le_refl _,by show (0:Int)<w; omega,?_,.inr rfl⟩
      show (0:Int)<s.Tasks[i.toNat].C
      omega
  · refine List.pairwise_append.2 ⟨p4,List.pairwise_singleton _ _,fun a ha b hb=>?_⟩
    obtain rfl:=List.mem_singleton.1 hb
    intro ⟨e1,e2⟩
    have:=hlt a ha e1
    have e3:a.At=t:=e2
    omega

/-! A tick. -/
def missJ (t:Int) (js:List Job):List Job:=js.filter (fun j=>decide (t<j.Due))
def missG (t:Int):List Job→List Entry→List Entry
  | [],lg=>lg
  | j::r,lg=>missG t r (if t<j.Due then lg else nt lg ⟨t,6,j.Task⟩)
theorem missG_snoc (t:Int) (j:Job):∀(l:List Job) (lg:List Entry),missG t (l++[j]) lg=if t<j.Due then missG t l lg else nt (missG t l lg) ⟨t,6,j.Task⟩
  | [],lg=>by simp only[List.nil_append,missG]
  | a::r,lg=>by simp only[List.cons_append,missG]; exact missG_snoc t j r _
theorem missG_len (t:Int):∀(l:List Job) {lg:List Entry},lg.length≤2000→(missG t l lg).length≤2000
  | [],lg,h=>h
  | a::r,lg,h=>by
    unfold missG
    refine missG_len t r ?_
    split
    · exact h
    · exact nt_len h
theorem missJ_snoc (t:Int) (l:List Job) (j:Job):missJ t (l++[j])=if t<j.Due then missJ t l++[j] else missJ t l:=by
  unfold missJ
  rw[List.filter_append]
  split
  · rename_i h; rw[List.filter_cons_of_pos (by simpa using h)]; rfl
  · rename_i h; rw[List.filter_cons_of_neg (by simpa using h)]; simp
theorem jobsP_sub {l:List Task} {js js':List Job} (h:jobsP l js) (hs:js'.Sublist js):jobsP l js':=
  ⟨h.1,Nat.le_trans hs.length_le h.2.1,fun j hj=>h.2.2.1 j (hs.subset hj),h.2.2.2.sublist hs⟩
theorem jobsP_miss {l:List Task} {js:List Job} (t:Int) (h:jobsP l js):jobsP l (missJ t js):=jobsP_sub h (List.filter_sublist)
noncomputable def runV (l:List Task) (js:List Job) (lg:List Entry) (g:Bool) (t:Int):List Job×List Entry×Int:=
  if g=true∧0<js.length then ((tick l js).1,(if (tick l js).2.2=true then nt lg ⟨t,(if taskC l (tick l js).2.1<(tick l js).2.1.Want then 5 else 4),(tick l js).2.1.Task⟩ else lg),(tick l js).2.1.Task) else (js,lg,-1)
def keepB {α:Type}:List Bool→List α→List α
  | b::bs,x::xs=>if b=true then keepB bs xs else x::keepB bs xs
  | _,_=>[]
theorem keepB_drop {α:Type} {b:List Bool} {l:List α} {i:Nat} (hb:i<b.length) (hl:i<l.length):keepB (b.drop i) (l.drop i)=if b[i]=true then keepB (b.drop (i+1)) (l.drop (i+1)) else l[i]::keepB (b.drop (i+1)) (l.drop (i+1)):=by
  rw[List.drop_eq_getElem_cons hb,List.drop_eq_getElem_cons hl]; rfl
theorem keepB_nil {α:Type} (l:List α):keepB [] l=[]:=by cases l <;> rfl
theorem keepB_len {α:Type}:∀(b:List Bool) (l:List α),(keepB b l).length≤l.length
  | [],l=>by rw[keepB_nil]; exact Nat.zero_le _
  | _::_,[]=>Nat.le_refl _
  | b::bs,x::xs=>by
    have:=keepB_len bs xs
    simp only[keepB]
    split
    · simp only[List.length_cons]; omega
    · simp only[List.length_cons]; omega
theorem keepB_sub {α:Type}:∀(b:List Bool) (l:List α),(keepB b l).Sublist l
  | [],l=>by rw[keepB_nil]; exact List.nil_sublist _
  | _::_,[]=>List.Sublist.refl _
  | b::bs,x::xs=>by
    have:=keepB_sub bs xs
    simp only[keepB]
    split
    · exact this.cons _
    · exact this.cons_cons _
theorem keepB_len_eq {α β:Type}:∀(b:List Bool) (l:List α) (m:List β),l.length=m.length→(keepB b l).length=(keepB b m).length
  | [],l,m,_=>by rw[keepB_nil,keepB_nil]; rfl
  | _::_,[],[],_=>rfl
  | _::_,[],_::_,h=>by simp at h
  | _::_,_::_,[],h=>by simp at h
  | b::bs,x::xs,y::ys,h=>by
    have:=keepB_len_eq bs xs ys (by simpa using h)
    simp only[keepB]
    split
    · exact this
    · simp only[List.length_cons]; omega
def leftG (b:List Bool) (t:Int):Nat→List Entry→List Entry
  | 0,lg=>lg
  | n+1,lg=>leftG b t n (if (b[n]?).getD false=true then nt lg ⟨t,7,(n:Int)⟩ else lg)
theorem leftG_len (b:List Bool) (t:Int):∀(n:Nat) {lg:List Entry},lg.length≤2000→(leftG b t n lg).length≤2000
  | 0,lg,h=>h
  | n+1,lg,h=>by
    unfold leftG
    refine leftG_len b t n ?_
    split
    · exact nt_len h
    · exact h
noncomputable def tickR (s:PartState) (g:Bool) (t:Int):List Job×List Entry×Int:=runV s.Tasks (missJ t s.Jobs) (missG t s.Jobs s.Log) g t
noncomputable def tickV (s:PartState) (g:Bool) (t:Int):PartState×Int:=
  if (tickR s g t).1.length=0 then (⟨keepB s.Leaves s.Tasks,keepB s.Leaves s.Leaves,keepB s.Leaves s.Lasts,(tickR s g t).1,leftG s.Leaves t s.Tasks.length (tickR s g t).2.1⟩,(tickR s g t).2.2)
  else (⟨s.Tasks,s.Leaves,s.Lasts,(tickR s g t).1,(tickR s g t).2.1⟩,(tickR s g t).2.2)
theorem tick_over {l:List Task} {js:List Job} (h:(tick l js).2.2=true):0≤(tick l js).2.1.Task∧∃hl:(tick l js).2.1.Task.toNat<l.length,l[(tick l js).2.1.Task.toNat].C=taskC l (tick l js).2.1:=by
  unfold tick at h
  split at h
  rotate_left
  · cases h
  rename_i hh
  obtain⟨t0,_,_,t3,_⟩:=hh.1.2.2.1 _ (List.getElem_mem hh.2.2)
  have e:(tick l js).2.1=upd js[(cho l js).toNat]:=by unfold tick; rw[dif_pos hh]
  rw[e]
  refine⟨t0,t3,?_⟩
  unfold taskC
  rw[List.getElem?_eq_getElem (show (upd js[(cho l js).toNat]).Task.toNat<l.length from t3)]
  rfl
/-- What leaves, index by index from the last one down. -/
theorem left_down {R:Type} {L:List Bool} {T:List Task} {A:List Int} {t:Int} {r:R} (h1:L.length=T.length) (h2:A.length=T.length) (h8:T.length≤8) (lg:List Entry)
    (K:List Task→List Bool→List Int→List Entry→Option R) (hK:K (keepB L T) (keepB L L) (keepB L A) (leftG L t T.length lg)=some r)
    {body:((List Task)×(List Bool)×(List Int)×(List Entry)×Int→Option R)→(List Task)×(List Bool)×(List Int)×(List Entry)×Int→Option R}
    (h0:∀nx T' L' A' g',body nx (T',L',A',g',-1)=K T' L' A' g')
    (hs:∀nx T' L' A' g' (m:Nat) (hm:m<L'.length),m<T'.length→m<A'.length→L'.length≤8→T'.length≤8→A'.length≤8→body nx (T',L',A',g',(m:Int))=if L'[m]=true then nx (T'.take m++T'.drop (m+1),L'.take m++L'.drop (m+1),A'.take m++A'.drop (m+1),nt g' ⟨t,7,(m:Int)⟩,(m:Int)-1) else nx (T',L',A',g',(m:Int)-1)) :
    lp body FU (T,L,A,lg,(T.length:Int)-1)=some r:=by
  have cut:∀{α:Type} (X:List α) (m:Nat),X.length=T.length→m<T.length→∀(Y:List α),(X.take (m+1)++Y).take m++(X.take (m+1)++Y).drop (m+1)=X.take m++Y:=by
    intro α X m hX hm Y
    have e:(X.take (m+1)).length=m+1:=by rw[List.length_take]; omega
    rw[List.take_append_of_le_length (by omega),List.drop_left' e,List.take_take,Nat.min_eq_left (by omega)]
  have put:∀{α:Type} (X:List α) (m:Nat) (hX:m<X.length) (Y:List α),X.take (m+1)++Y=X.take m++(X[m]::Y):=by
    intro α X m hX Y
    rw[←List.take_append_getElem hX,List.append_assoc]; rfl
  refine lp_inv (fun v=>(v.2.2.2.2+1).toNat) (fun v=>∃(m:Nat) (g:List Entry),m≤T.length∧v=(T.take m++keepB (L.drop m) (T.drop m),L.take m++keepB (L.drop m) (L.drop m),A.take m++keepB (L.drop m) (A.drop m),g,(m:Int)-1)∧leftG L t m g=leftG L t T.length lg) ?_ FU _ ⟨T.length,lg,Nat.le_refl _,?_,rfl⟩ (by unfold FU; simp only; omega)
  rotate_left
  · rw[←h1,List.drop_length,keepB_nil,keepB_nil,keepB_nil,List.take_length,h1,List.take_length,←h2,List.take_length,List.append_nil,List.append_nil,List.append_nil]
  rintro nx v ⟨m,g,hm,rfl,hg⟩ hnx
  cases m with
  | zero=>
    simp only[leftG] at hg
    show body nx (_,_,_,_,-1)=_
    rw[h0,List.take_zero,List.take_zero,List.take_zero,List.drop_zero,List.drop_zero,List.drop_zero,List.nil_append,List.nil_append,List.nil_append,hg]
    exact hK
  | succ m=>
    rw[show ((m+1:Nat):Int)-1=(m:Int) by omega]
    have l1:=keepB_len (L.drop (m+1)) (L.drop (m+1))
    have l2:=keepB_len (L.drop (m+1)) (T.drop (m+1))
    have l3:=keepB_len (L.drop (m+1)) (A.drop (m+1))
    simp only[List.length_drop] at l1 l2 l3
    have mL:m<L.length:=by omega
    have mA:m<A.length:=by omega
    have hmL:m<(L.take (m+1)++keepB (L.drop (m+1)) (L.drop (m+1))).length:=by simp only[List.length_append,List.length_take]; omega
    rw[hs nx _ _ _ g m hmL (by simp only[List.length_append,List.length_take]; omega) (by simp only[List.length_append,List.length_take]; omega) (by simp only[List.length_append,List.length_take]; omega) (by simp only[List.length_append,List.length_take]; omega) (by simp only[List.length_append,List.length_take]; omega)]
    have eL:(L.take (m+1)++keepB (L.drop (m+1)) (L.drop (m+1)))[m]=L[m]:=by
      rw[List.getElem_append_left (by rw[List.length_take]; omega),List.getElem_take]
    have eo:(L[m]?).getD false=L[m]:=by rw[List.getElem?_eq_getElem mL]; rfl
    rw[eL]
    have hg:leftG L t m (if (L[m]?).getD false=true then nt g ⟨t,7,(m:Int)⟩ else g)=leftG L t T.length lg:=hg
    rw[eo] at hg
    by_cases c:L[m]=true
    · rw[if_pos c,cut T m rfl (by omega),cut L m h1 (by omega),cut A m h2 (by omega)]
      rw[if_pos c] at hg
      refine hnx _ ⟨m,_,by omega,?_,hg⟩ (by simp only; omega)
      rw[keepB_drop mL (show m<T.length by omega),keepB_drop mL mL,keepB_drop mL mA,if_pos c,if_pos c,if_pos c]
    · rw[if_neg c,put T m (by omega),put L m mL,put A m mA]
      rw[if_neg c] at hg
      refine hnx _ ⟨m,_,by omega,?_,hg⟩ (by simp only; omega)
      rw[keepB_drop mL (show m<T.length by omega),keepB_drop mL mL,keepB_drop mL mA,if_neg c,if_neg c,if_neg c]
theorem without_eq1 (l:List Task) (m:Nat) (h:m<l.length) (h8:l.length≤8):part_without_api_Task l (m:Int)=some (l.take m++l.drop (m+1)):=by
  have e:((m:Int)+1).toNat=m+1:=by omega
  unfold part_without_api_Task
  rw[wr_in _ (by omega),ck_t (by simp; omega),ck_t (by simp; omega),ck_t (by simp; omega),ck_t (by simp; omega)]
  simp[e]
theorem without_eq2 (l:List Bool) (m:Nat) (h:m<l.length) (h8:l.length≤8):part_without_bool l (m:Int)=some (l.take m++l.drop (m+1)):=by
  have e:((m:Int)+1).toNat=m+1:=by omega
  unfold part_without_bool
  rw[wr_in _ (by omega),ck_t (by simp; omega),ck_t (by simp; omega),ck_t (by simp; omega),ck_t (by simp; omega)]
  simp[e]
theorem without_eq3 (l:List Int) (m:Nat) (h:m<l.length) (h8:l.length≤8):part_without_int l (m:Int)=some (l.take m++l.drop (m+1)):=by
  have e:((m:Int)+1).toNat=m+1:=by omega
  unfold part_without_int
  rw[wr_in _ (by omega),ck_t (by simp; omega),ck_t (by simp; omega),ck_t (by simp; omega),ck_t (by simp; omega)]
  simp[e]
theorem jn_to {σ R:Type} {Y:σ→Option R} {X:(σ→Option R)→Option R} {r:Option R} (v:σ) (hX:∀k,X k=k v) (hY:Y v=r):jn Y X=r:=by
  rw[jn_eq,hX]; exact hY
theorem part_Tick_eq (s:PartState) (g:Bool) (t:Int) (hb:StB s):part_Tick s g t=some (if stP s∧whenP t then ((tickV s g t).1,(tickV s g t).2,0) else (s,-1,1)):=by
  unfold part_Tick
  refine jn_to (!decide (stP s∧whenP t)) ?_ ?_
  · intro k
    rw[bnd_eq (part_Right_eq s hb)]
    by_cases h1:stP s
    rotate_left
    · rw[decide_eq_false h1,Bool.not_false,fk_t,decide_eq_false (fun h=>h1 h.1)]; rfl
    rw[decide_eq_true h1,Bool.not_true,fk_f,bnd_eq (part_when_eq t)]
    by_cases h2:whenP t
    · rw[decide_eq_true h2,decide_eq_true ⟨h1,h2⟩]
    · rw[decide_eq_false h2,decide_eq_false (fun h=>h2 h.2)]
  by_cases hh:stP s∧whenP t
  rotate_left
  · rw[decide_eq_false hh,Bool.not_false,fk_t,if_neg hh]
  obtain⟨h1,h2⟩:=hh
  have hLl:=h1.1
  have hLs:=h1.2.1.2.1
  have hT8:=AllP_len h1.2.1.1
  have hJ:=h1.2.2.1.2.1
  have hG:=h1.2.2.2
  rw[decide_eq_true (⟨h1,h2⟩:stP s∧whenP t),Bool.not_true,fk_f,if_pos ⟨h1,h2⟩,ck_t (by simp; omega),List.nil_append]
  refine lp_inv (fun v=>s.Jobs.length-v.2.2.toNat) (fun v=>∃k:Nat,v=(missJ t (s.Jobs.take k),missG t (s.Jobs.take k) s.Log,(k:Int))∧k≤s.Jobs.length) ?_ FU _ ⟨0,rfl,Nat.zero_le _⟩ (by unfold FU; simp only; omega)
  rintro nx v ⟨k,rfl,hk⟩ hnx
  dsimp only
  have hgl:=missG_len t (s.Jobs.take k) hG
  have hjl:(missJ t (s.Jobs.take k)).length≤32:=by
    have h1:(missJ t (s.Jobs.take k)).length≤(s.Jobs.take k).length:=List.length_filter_le _ _
    rw[List.length_take] at h1; omega
  rw[lt_nat]
  by_cases hk':k<s.Jobs.length
  · rw[decide_eq_true hk',fk_t,jn_eq,ix_lt hk',wr_succ k _ hk' (by omega)]
    have nxt:=hnx (missJ t (s.Jobs.take (k+1)),missG t (s.Jobs.take (k+1)) s.Log,((k+1:Nat):Int)) ⟨k+1,rfl,hk'⟩ (by simp only[Int.toNat_natCast]; omega)
    rw[←List.take_append_getElem hk',missJ_snoc,missG_snoc] at nxt
    by_cases c:t<s.Jobs[k].Due
    · rw[if_pos c,if_pos c] at nxt
      rw[decide_eq_true (show s.Jobs[k].Due>t from c),fk_t,ck_t (by simp; omega)]
      exact nxt
    · rw[if_neg c,if_neg c] at nxt
      rw[decide_eq_false (show ¬s.Jobs[k].Due>t from c),fk_f]
      exact (nt_fk (missG t (s.Jobs.take k) s.Log) ⟨t,6,s.Jobs[k].Task⟩ (fun lg=>nx (missJ t (s.Jobs.take k),lg,((k+1:Nat):Int)))).trans nxt
  rw[decide_eq_false hk',fk_f,show k=s.Jobs.length by omega,List.take_length]
  have hpm:=jobsP_miss t h1.2.2.1
  have hml:(missJ t s.Jobs).length≤32:=hpm.2.1
  have hgl:=missG_len t s.Jobs hG
  refine jn_to (tickR s g t) ?_ ?_
  · intro k7
    unfold tickR runV
    cases g with
    | false=>rw[fk_f,if_neg (fun h=>by cases h.1)]
    | true=>
      rw[fk_t,bnd_eq (srp_Tick_eq _ _ hb.t)]
      by_cases c0:(missJ t s.Jobs).length=0
      · rw[decide_eq_true (by omega),fk_t,if_neg (fun h=>by omega)]
      rw[decide_eq_false (by omega),fk_f,if_pos ⟨rfl,by omega⟩]
      cases ov:(tick s.Tasks (missJ t s.Jobs)).2.2 with
      | false=>
        refine jn_to false (fun k=>by rw[fk_f]) ?_
        rw[fk_f,fk_f,if_neg (by simp)]
      | true=>
        obtain⟨t0,t3,eC⟩:=tick_over ov
        by_cases c5:taskC s.Tasks (tick s.Tasks (missJ t s.Jobs)).2.1<(tick s.Tasks (missJ t s.Jobs)).2.1.Want
        · refine jn_to true (fun k=>?_) ?_
          · rw[fk_t,ix_int t0 t3,eC,decide_eq_true (show _>_ from c5)]
          rw[fk_t,if_pos rfl,if_pos c5]
          exact nt_fk _ ⟨t,5,(tick s.Tasks (missJ t s.Jobs)).2.1.Task⟩ (fun lg=>k7 ((tick s.Tasks (missJ t s.Jobs)).1,lg,(tick s.Tasks (missJ t s.Jobs)).2.1.Task))
        · refine jn_to false (fun k=>?_) ?_
          · rw[fk_t,ix_int t0 t3,eC,decide_eq_false (show ¬_>_ from c5)]
          rw[fk_f,fk_t,if_pos rfl,if_neg c5]
          exact nt_fk _ ⟨t,4,(tick s.Tasks (missJ t s.Jobs)).2.1.Task⟩ (fun lg=>k7 ((tick s.Tasks (missJ t s.Jobs)).1,lg,(tick s.Tasks (missJ t s.Jobs)).2.1.Task))
  rw[jn_eq]
  by_cases c0:(tickR s g t).1.length=0
  rotate_left
  · rw[decide_eq_false (by omega),fk_f]
    unfold tickV
    rw[if_neg c0]
  rw[decide_eq_true (by omega),fk_t,wr_in _ (by omega)]
  unfold tickV
  rw[if_pos c0]
  refine left_down (t:=t) hLl hLs hT8 (tickR s g t).2.1 (fun T' L' A' g'=>some ((⟨T',L',A',(tickR s g t).1,g'⟩:PartState),(tickR s g t).2.2,(0:Int))) rfl ?_ ?_
  · intro nx T' L' A' g'
    dsimp only
    rw[decide_eq_false (by omega),fk_f]
  · intro nx T' L' A' g' m hm hmT hmA h8L h8T h8A
    dsimp only
    rw[decide_eq_true (by omega),fk_t,jn_eq,ix_lt hm,wr_in _ (by omega)]
    by_cases c:L'[m]=true
    · rw[if_pos c,c,fk_t,bnd_eq (without_eq1 _ _ hmT h8T),bnd_eq (without_eq2 _ _ hm h8L),bnd_eq (without_eq3 _ _ hmA h8A)]
      exact nt_fk g' ⟨t,7,(m:Int)⟩ (fun lg=>nx (_,_,_,lg,(m:Int)-1))
    · rw[if_neg c,Bool.eq_false_iff.2 c,fk_f]

/-! How long what comes out is. -/
/-! Tasks come and go. -/
def plus (s:PartState) (x:Task):PartState:=⟨s.Tasks++[x],s.Leaves++[false],s.Lasts++[-1],s.Jobs,s.Log⟩
noncomputable def addV (s:PartState) (x:Task):PartState×Int:=if stP s∧RightP x then (if s.Tasks.length<8 then (plus s x,0) else (s,3)) else (s,1)
theorem part_Add_eq (s:PartState) (x:Task) (hb:StB s):part_Add s x=some (addV s x):=by
  unfold part_Add
  refine jn_to (!decide (stP s∧RightP x)) (fun k=>?_) ?_
  · rw[bnd_eq (part_Right_eq s hb)]
    by_cases h1:stP s
    rotate_left
    · rw[decide_eq_false h1,Bool.not_false,fk_t,decide_eq_false (fun h=>h1 h.1)]; rfl
    rw[decide_eq_true h1,Bool.not_true,fk_f,bnd_eq (task_Right_eq x)]
    unfold right
    by_cases h2:RightP x
    · rw[decide_eq_true h2,decide_eq_true (⟨h1,h2⟩:stP s∧RightP x)]
    · rw[decide_eq_false h2,decide_eq_false (fun h=>h2 h.2)]
  unfold addV
  by_cases hh:stP s∧RightP x
  rotate_left
  · rw[decide_eq_false hh,Bool.not_false,fk_t,if_neg hh]
  obtain⟨h1,h2⟩:=hh
  rw[decide_eq_true (⟨h1,h2⟩:stP s∧RightP x),Bool.not_true,fk_f,if_pos (⟨h1,h2⟩:stP s∧RightP x)]
  by_cases h8:s.Tasks.length<8
  rotate_left
  · rw[decide_eq_true (by omega),fk_t,if_neg h8]
  have hLl:=h1.1
  have hLs:=h1.2.1.2.1
  have hS:x.Secs.length≤4:=h2.len
  rw[decide_eq_false (by omega),fk_f,if_pos h8,ck_t (by simp; omega),ck_t (by simp; omega),ck_t (by simp; omega),ck_t (by simp; omega),ck_t (by simp; omega),ck_t (by simp; omega),ck_t (by simp; omega)]
  simp only[List.nil_append]
  rfl
noncomputable def leaveV (s:PartState) (i:Int):PartState×Int:=if stP s∧0≤i∧i<(s.Tasks.length:Int) then (if (s.Leaves[i.toNat]?).getD false=true then (s,9) else (⟨s.Tasks,s.Leaves.set i.toNat true,s.Lasts,s.Jobs,s.Log⟩,0)) else (s,1)
theorem part_Leave_eq (s:PartState) (i:Int) (hb:StB s):part_Leave s i=some (leaveV s i):=by
  unfold part_Leave
  refine jn_to (!decide (stP s∧0≤i∧i<(s.Tasks.length:Int))) (fun k=>?_) ?_
  · rw[bnd_eq (part_Right_eq s hb)]
    by_cases h1:stP s
    rotate_left
    · rw[decide_eq_false h1,Bool.not_false,fk_t,decide_eq_false (fun h=>h1 h.1)]; rfl
    rw[decide_eq_true h1,Bool.not_true,fk_f]
    by_cases h2:0≤i
    rotate_left
    · rw[decide_eq_true (by omega),fk_t,decide_eq_false (fun h=>h2 h.2.1)]; rfl
    rw[decide_eq_false (by omega),fk_f]
    by_cases h3:i<(s.Tasks.length:Int)
    · rw[decide_eq_false (by omega),decide_eq_true (⟨h1,h2,h3⟩:stP s∧0≤i∧i<(s.Tasks.length:Int))]; rfl
    · rw[decide_eq_true (by omega),decide_eq_false (fun h=>h3 h.2.2)]; rfl
  unfold leaveV
  by_cases hh:stP s∧0≤i∧i<(s.Tasks.length:Int)
  rotate_left
  · rw[decide_eq_false hh,Bool.not_false,fk_t,if_neg hh]
  obtain⟨h1,h2,h3⟩:=hh
  have hLl:=h1.1
  have hT8:=AllP_len h1.2.1.1
  have hiL:i.toNat<s.Leaves.length:=by omega
  rw[decide_eq_true (⟨h1,h2,h3⟩:stP s∧0≤i∧i<(s.Tasks.length:Int)),Bool.not_true,fk_f,if_pos (⟨h1,h2,h3⟩:stP s∧0≤i∧i<(s.Tasks.length:Int)),ix_int h2 hiL]
  have eL:(s.Leaves[i.toNat]?).getD false=s.Leaves[i.toNat]:=by rw[List.getElem?_eq_getElem hiL]; rfl
  rw[eL]
  cases c:s.Leaves[i.toNat] with
  | true=>rw[fk_t,if_pos rfl]
  | false=>
    rw[fk_f,if_neg (by simp),ck_t (by simp; omega),List.nil_append,ck_t (by simp; omega),ox_lt hiL]
/-! A new one. -/
def new0 (l:List Task):PartState:=⟨l,List.replicate l.length false,List.replicate l.length (-1),[],[]⟩
theorem AllP_take {l:List Task} (h:AllP l) (k:Nat):AllP (l.take k):=⟨fun t ht=>h.1 t (List.mem_of_mem_take ht),by rw[List.length_take]; have:=h.2; omega⟩
theorem stP_new {l:List Task} (h:AllP l):stP (new0 l):=
  ⟨by simp[new0],⟨h,by simp[new0],fun x hx=>by have:=List.eq_of_mem_replicate hx; omega⟩,jobsP_nil h,by simp[new0]⟩
theorem stB_new {l:List Task} (h:AllP l) (hs:∀t∈l,t.Secs.length≤4611686018427387904):StB (new0 l):=⟨by show l.length≤_; have:=h.2; omega,hs,by simp[new0]; have:=h.2; omega⟩
theorem part_New_eq (l:List Task) (hl:l.length≤4611686018427387904) (hs:∀t∈l,t.Secs.length≤4611686018427387904):part_New l=some (if AllP l then (new0 l,0) else (⟨[],[],[],[],[]⟩,1)):=by
  unfold part_New
  rw[bnd_eq (task_All_eq l hl)]
  by_cases ha:AllP l
  rotate_left
  · rw[decide_eq_false ha,Bool.not_false,fk_t,if_neg ha]
  have h8:=ha.2
  rw[decide_eq_true ha,Bool.not_true,fk_f,if_pos ha]
  refine lp_inv (fun v=>l.length-v.2.2.2.2.2.toNat) (fun v=>∃k:Nat,v=((new0 (l.take k)).Tasks,(new0 (l.take k)).Leaves,(new0 (l.take k)).Lasts,(new0 (l.take k)).Jobs,(new0 (l.take k)).Log,(k:Int))∧k≤l.length) ?_ FU _ ⟨0,rfl,Nat.zero_le _⟩ (by unfold FU; simp only; omega)
  rintro nx v ⟨k,rfl,hk⟩ hnx
  dsimp only
  rw[lt_nat]
  by_cases hk':k<l.length
  rotate_left
  · rw[decide_eq_false hk',fk_f,show k=l.length by omega,List.take_length]
  rw[decide_eq_true hk',fk_t,ix_lt hk',wr_succ k _ hk' (by omega)]
  have hak:=AllP_take ha k
  have hk8:(l.take k).length=k:=by rw[List.length_take]; omega
  have e:addV (new0 (l.take k)) l[k]=(plus (new0 (l.take k)) l[k],0):=by
    unfold addV
    rw[if_pos ⟨stP_new hak,ha.1 _ (List.getElem_mem hk')⟩,if_pos (show (new0 (l.take k)).Tasks.length<8 by show (l.take k).length<8; omega)]
  have hA:=part_Add_eq (new0 (l.take k)) l[k] (stB_new hak fun t ht=>hs t (List.mem_of_mem_take ht))
  rw[e] at hA
  have hA':part_Add ⟨(new0 (l.take k)).Tasks,(new0 (l.take k)).Leaves,(new0 (l.take k)).Lasts,(new0 (l.take k)).Jobs,(new0 (l.take k)).Log⟩ l[k]=some (plus (new0 (l.take k)) l[k],0):=hA
  rw[bnd_eq hA']
  refine hnx _ ⟨k+1,?_,hk'⟩ (by simp only[Int.toNat_natCast]; omega)
  have e2:plus (new0 (l.take k)) l[k]=new0 (l.take (k+1)):=by
    unfold plus new0
    rw[←List.take_append_getElem hk',List.length_append,List.length_singleton,List.replicate_succ',List.replicate_succ']
  rw[e2]

/-! A play. -/
def okS (s:PartState):Prop:=stP s∧atP s.Lasts s.Jobs
theorem StB.of_st {s:PartState} (h:stP s):StB s:=by
  have h8:=AllP_len h.2.1.1
  have hA:=h.2.1.2.1
  exact⟨by omega,fun t ht=>h.2.1.1.slen ht,by omega⟩
theorem okS_new {l:List Task} (h:AllP l):okS (new0 l):=⟨stP_new h,fun j hj=>(List.not_mem_nil hj).elim⟩
theorem okS_leave {s:PartState} {i:Int} (h:okS s):okS (leaveV s i).1:=by
  unfold leaveV
  split
  · split
    · exact h
    · exact⟨⟨by show (s.Leaves.set _ _).length=_; rw[List.length_set]; exact h.1.1,h.1.2⟩,h.2⟩
  · exact h
theorem okS_add {s:PartState} {x:Task} (h:okS s):okS (addV s x).1:=by
  unfold addV
  split
  rotate_left
  · exact h
  rename_i hx
  split
  rotate_left
  · exact h
  rename_i h8
  obtain⟨⟨h1,⟨ha,h2,h3⟩,⟨_,h4,h5,h6⟩,h7⟩,hat⟩:=h
  have ha':AllP (s.Tasks++[x]):=⟨fun t ht=>by
    rcases List.mem_append.1 ht with h | h
    · exact ha.1 t h
    · rw[List.mem_singleton.1 h]; exact hx.2,by simp; omega⟩
  refine⟨⟨by show (s.Leaves++[false]).length=(s.Tasks++[x]).length; simp; omega,⟨ha',by show (s.Lasts++[-1]).length=(s.Tasks++[x]).length; simp; omega,fun y hy=>?_⟩,⟨ha',h4,fun j hj=>?_,h6⟩,h7⟩,fun j hj=>?_⟩
  · rcases List.mem_append.1 hy with h | h
    · exact h3 y h
    · rw[List.mem_singleton.1 h]; omega
  · obtain⟨t0,t1,t2,t3,tb⟩:=h5 j hj
    refine⟨t0,t1,t2,by show _<(s.Tasks++[x]).length; simp; omega,?_⟩
    have e:(s.Tasks++[x])[j.Task.toNat]'(by simp; omega)=s.Tasks[j.Task.toNat]:=List.getElem_append_left t3
    show bodyP ((s.Tasks++[x])[j.Task.toNat]'(by simp; omega)) j
    rw[e]; exact tb
  · have hj':=hat j hj
    obtain⟨t0,_,_,t3,_⟩:=h5 j hj
    have e:lg (s.Lasts++[-1]) j.Task=lg s.Lasts j.Task:=by unfold lg; rw[List.getElem?_append_left (by omega)]
    show j.At≤lg (s.Lasts++[-1]) j.Task
    rw[e]; exact hj'
/-! The log only grows, by entries of now. -/
/-! A tick keeps what is right. -/
theorem tickR_len {s:PartState} {g:Bool} {t:Int} (h1:stP s):(tickR s g t).2.1.length≤2000:=by
  have hm:=missG_len t s.Jobs h1.2.2.2
  unfold tickR runV
  split
  · simp only
    split
    · exact nt_len hm
    · exact hm
  · exact hm
theorem tickR_jobs {s:PartState} {g:Bool} {t:Int} (h1:stP s):jobsP s.Tasks (tickR s g t).1:=by
  have hm:=jobsP_miss t h1.2.2.1
  unfold tickR runV
  split
  · exact jobsP_tick hm
  · exact hm
theorem mem_tick {l:List Task} {js:List Job} {j:Job} (h:j∈(tick l js).1):∃i∈js,i.Task=j.Task∧i.At=j.At∧i.Due=j.Due∧i.Want=j.Want:=by
  unfold tick at h
  split at h
  · rename_i hh
    rcases mem_tickN h with ⟨k,hk,_,rfl⟩ | ⟨_,rfl⟩
    · exact⟨_,List.getElem_mem hk,rfl,rfl,rfl,rfl⟩
    · exact⟨_,List.getElem_mem hh.2.2,rfl,rfl,rfl,rfl⟩
  · exact⟨j,h,rfl,rfl,rfl,rfl⟩
theorem mem_tickR {s:PartState} {g:Bool} {t:Int} {j:Job} (h:j∈(tickR s g t).1):∃i∈s.Jobs,i.Task=j.Task∧i.At=j.At∧i.Due=j.Due∧i.Want=j.Want∧t<i.Due:=by
  have key:∀i∈missJ t s.Jobs,i∈s.Jobs∧t<i.Due:=fun i hi=>by
    unfold missJ at hi
    rw[List.mem_filter,decide_eq_true_eq] at hi
    exact hi
  unfold tickR runV at h
  split at h
  · obtain⟨i,hi,e1,e2,e3,e4⟩:=mem_tick h
    exact⟨i,(key i hi).1,e1,e2,e3,e4,(key i hi).2⟩
  · exact⟨j,(key j h).1,rfl,rfl,rfl,rfl,(key j h).2⟩
theorem okS_tick {s:PartState} {g:Bool} {t:Int} (h:okS s):okS (tickV s g t).1:=by
  obtain⟨h1,hat⟩:=h
  have hj:=tickR_jobs (g:=g) (t:=t) h1
  have hl:=tickR_len (g:=g) (t:=t) h1
  unfold tickV
  split
  · rename_i h0
    have e0:(tickR s g t).1=[]:=List.eq_nil_of_length_eq_zero h0
    have ha:AllP (keepB s.Leaves s.Tasks):=⟨fun x hx=>h1.2.1.1.1 x ((keepB_sub _ _).subset hx),Nat.le_trans (keepB_len _ _) h1.2.1.1.2⟩
    refine⟨⟨keepB_len_eq _ _ _ h1.1,⟨ha,keepB_len_eq _ _ _ h1.2.1.2.1,fun x hx=>h1.2.1.2.2 x ((keepB_sub _ _).subset hx)⟩,?_,leftG_len _ _ _ hl⟩,?_⟩
    · show jobsP (keepB s.Leaves s.Tasks) (tickR s g t).1
      rw[e0]; exact jobsP_nil ha
    · show atP _ (tickR s g t).1
      rw[e0]; exact fun j hj=>(List.not_mem_nil hj).elim
  · refine⟨⟨h1.1,h1.2.1,hj,hl⟩,fun j hj=>?_⟩
    obtain⟨i,hi,e1,e2,_⟩:=mem_tickR hj
    have:=hat i hi
    rw[e1,e2] at this
    exact this
/-! The steps. -/
/-! Who is let in. -/
noncomputable def fitE (l:List Task) (f:Face):Int:=if errC l f=0∧¬fitsF l f then 7 else errC l f
theorem fitE_zero {l:List Task} {f:Face}:fitE l f=0↔fitsF l f:=by
  unfold fitE
  constructor
  · intro h
    refine Classical.byContradiction fun hf=>?_
    by_cases c:errC l f=0
    · rw[if_pos ⟨c,hf⟩] at h; omega
    · rw[if_neg (fun h=>c h.1)] at h; exact c h
  · intro h
    rw[if_neg (fun hh=>hh.2 h)]
    unfold errC; rw[if_pos h.1]
theorem admit_fit_1_eq (l:List Task) (P B:Int) (hl:l.length≤4611686018427387904):admit_fit_1 l P B=some (fitE l ⟨P,B⟩):=by
  unfold admit_fit_1
  rw[bnd_eq (verdict_Fits_eq l ⟨P,B⟩ hl)]
  unfold fitE
  by_cases h:errC l ⟨P,B⟩=0
  · by_cases hf:fitsF l ⟨P,B⟩
    · refine jn_to false (fun k=>by rw[decide_eq_true h,fk_t,decide_eq_true hf]; rfl) ?_
      rw[fk_f,if_neg (fun hh=>hh.2 hf)]
    · refine jn_to true (fun k=>by rw[decide_eq_true h,fk_t,decide_eq_false hf]; rfl) ?_
      rw[fk_t,if_pos ⟨h,hf⟩]
  · refine jn_to false (fun k=>by rw[decide_eq_false h,fk_f]) ?_
    rw[fk_f,if_neg (fun hh=>h hh.1)]
theorem admit_unless_1_eq (a:Bool) (e:Int):admit_unless_1 a e=some (if a=true then 0 else e):=by cases a <;> rfl
theorem admit_first_eq (a:Bool) (e:Int) (l:List Task) (P B:Int) (hl:l.length≤4611686018427387904) (he:e≠0):admit_first a e l P B=some (if a=true then fitE l ⟨P,B⟩ else e):=by
  unfold admit_first
  refine lp_up 2 (by unfold FU; omega) (fun k=>(1≤k→a=true)∧(2≤k→fitE l ⟨P,B⟩=0)) ⟨fun h=>by omega,fun h=>by omega⟩ ?_
  intro nx k hk J hnx
  by_cases h0:k=0
  · subst h0
    rw[decide_eq_true (by omega),fk_t,decide_eq_true (show ((0:Nat):Int)=0 by omega),fk_t,bnd_eq (admit_unless_1_eq a e),wr_succ 0 2 (by omega) (by omega)]
    cases a with
    | true=>rw[if_pos rfl,decide_eq_true rfl,Bool.not_true,fk_f]; exact hnx (by omega) ⟨fun _=>rfl,fun h=>by omega⟩
    | false=>rw[if_neg (by simp),decide_eq_false he,Bool.not_false,fk_t,if_neg (by simp)]
  by_cases h1:k=1
  · subst h1
    have ha:=J.1 (by omega)
    rw[decide_eq_true (by omega),fk_t,decide_eq_false (by omega),fk_f,decide_eq_true (show ((1:Nat):Int)=1 by omega),fk_t,bnd_eq (admit_fit_1_eq l P B hl),if_pos ha]
    by_cases c:fitE l ⟨P,B⟩=0
    · rw[decide_eq_true c,Bool.not_true,fk_f,wr_succ 1 2 (by omega) (by omega)]
      rw[if_pos ha] at hnx
      exact hnx (by omega) ⟨fun _=>ha,fun _=>c⟩
    · rw[decide_eq_false c,Bool.not_false,fk_t]
  · rw[decide_eq_false (by omega),fk_f,if_pos (J.1 (by omega)),J.2 (by omega)]
theorem admit_first_1_eq (a:Bool) (e:Int) (a2:Bool) (e2:Int) (a3:Bool) (e3:Int) (l:List Task) (P B:Int) (hl:l.length≤4611686018427387904) (he:e≠0) (he2:e2≠0) (he3:e3≠0):admit_first_1 a e a2 e2 a3 e3 l P B=some (if a=true then (if a2=true then (if a3=true then fitE l ⟨P,B⟩ else e3) else e2) else e):=by
  unfold admit_first_1
  refine lp_up 4 (by unfold FU; omega) (fun k=>(1≤k→a=true)∧(2≤k→a2=true)∧(3≤k→a3=true)∧(4≤k→fitE l ⟨P,B⟩=0)) ⟨fun h=>by omega,fun h=>by omega,fun h=>by omega,fun h=>by omega⟩ ?_
  intro nx k hk J hnx
  obtain⟨J1,J2,J3,J4⟩:=J
  by_cases h0:k=0
  · subst h0
    rw[decide_eq_true (by omega),fk_t,decide_eq_true (show ((0:Nat):Int)=0 by omega),fk_t,bnd_eq (admit_unless_1_eq a e),wr_succ 0 4 (by omega) (by omega)]
    cases a with
    | true=>rw[if_pos rfl,decide_eq_true rfl,Bool.not_true,fk_f]; exact hnx (by omega) ⟨fun _=>rfl,fun h=>by omega,fun h=>by omega,fun h=>by omega⟩
    | false=>rw[if_neg (by simp),decide_eq_false he,Bool.not_false,fk_t,if_neg (by simp)]
  have ha:=J1 (by omega)
  rw[if_pos ha] at hnx ⊢
  by_cases h1:k=1
  · subst h1
    rw[decide_eq_true (by omega),fk_t,decide_eq_false (by omega),fk_f,decide_eq_true (show ((1:Nat):Int)=1 by omega),fk_t,bnd_eq (admit_unless_1_eq a2 e2),wr_succ 1 4 (by omega) (by omega)]
    cases a2 with
    | true=>rw[if_pos rfl,decide_eq_true rfl,Bool.not_true,fk_f]; exact hnx (by omega) ⟨fun _=>ha,fun _=>rfl,fun h=>by omega,fun h=>by omega⟩
    | false=>rw[if_neg (by simp),decide_eq_false he2,Bool.not_false,fk_t,if_neg (by simp)]
  have ha2:=J2 (by omega)
  rw[if_pos ha2] at hnx ⊢
  by_cases h2:k=2
  · subst h2
    rw[decide_eq_true (by omega),fk_t,decide_eq_false (by omega),fk_f,decide_eq_false (by omega),fk_f,decide_eq_true (show ((2:Nat):Int)=2 by omega),fk_t,bnd_eq (admit_unless_1_eq a3 e3),wr_succ 2 4 (by omega) (by omega)]
    cases a3 with
    | true=>rw[if_pos rfl,decide_eq_true rfl,Bool.not_true,fk_f]; exact hnx (by omega) ⟨fun _=>ha,fun _=>ha2,fun _=>rfl,fun h=>by omega⟩
    | false=>rw[if_neg (by simp),decide_eq_false he3,Bool.not_false,fk_t,if_neg (by simp)]
  have ha3:=J3 (by omega)
  rw[if_pos ha3] at hnx ⊢
  by_cases h3:k=3
  · subst h3
    rw[decide_eq_true (by omega),fk_t,decide_eq_false (by omega),fk_f,decide_eq_false (by omega),fk_f,decide_eq_false (by omega),fk_f,decide_eq_true (show ((3:Nat):Int)=3 by omega),fk_t,bnd_eq (admit_fit_1_eq l P B hl)]
    by_cases c:fitE l ⟨P,B⟩=0
    · rw[decide_eq_true c,Bool.not_true,fk_f,wr_succ 3 4 (by omega) (by omega)]
      exact hnx (by omega) ⟨fun _=>ha,fun _=>ha2,fun _=>ha3,fun _=>c⟩
    · rw[decide_eq_false c,Bool.not_false,fk_t]
  · rw[decide_eq_false (by omega),fk_f,J4 (by omega)]

theorem admit_unless_eq (a:Bool) (e:Int):admit_unless a e=some (a,e):=rfl
theorem admit_fit_eq (l:List Task) (f:Face):admit_fit l f=some (l,f.P,f.B):=rfl
noncomputable def bootE (p:Part):Int:=if faceP p.Face∧AllP p.Tasks then fitE p.Tasks p.Face else 1
theorem bootE_zero {p:Part}:bootE p=0↔fitsF p.Tasks p.Face:=by
  unfold bootE
  constructor
  · intro h
    split at h
    · exact fitE_zero.1 h
    · omega
  · intro h
    rw[if_pos ⟨h.1.2.1,h.1.1⟩]; exact fitE_zero.2 h
theorem admit_Boot_eq (p:Part) (hl:p.Tasks.length≤4611686018427387904) (hs:∀t∈p.Tasks,t.Secs.length≤4611686018427387904):admit_Boot p=some (if bootE p=0 then (new0 p.Tasks,0) else (⟨[],[],[],[],[]⟩,bootE p)):=by
  unfold admit_Boot
  refine jn_to (bootE p) (fun k=>?_) ?_
  · rw[bnd_eq (supply_Right_eq p.Face)]
    unfold bootE
    by_cases h1:faceP p.Face
    · rw[decide_eq_true h1,fk_t,bnd_eq (task_All_eq _ hl),bnd_eq (admit_unless_eq _ _),bnd_eq (admit_fit_eq _ _),bnd_eq (admit_first_eq _ _ _ _ _ hl (show (1:Int)≠0 by decide))]
      by_cases h2:AllP p.Tasks
      · rw[if_pos (decide_eq_true h2),if_pos ⟨h1,h2⟩]
      · rw[if_neg (by simpa using h2),if_neg (fun h=>h2 h.2)]
    · rw[decide_eq_false h1,fk_f,bnd_eq (admit_unless_eq _ _),bnd_eq (admit_fit_eq _ _),bnd_eq (admit_first_eq _ _ _ _ _ hl (show (1:Int)≠0 by decide)),if_neg (by simp),if_neg (fun h=>h1 h.1)]
  by_cases h:bootE p=0
  · have hf:=bootE_zero.1 h
    rw[decide_eq_true h,Bool.not_true,fk_f,if_pos h,bnd_eq (part_New_eq _ hl hs),if_pos hf.1.1]
  · rw[decide_eq_false h,Bool.not_false,fk_t,if_neg h]
def begunP (js:List Job):Prop:=∃j∈js,j.Began=true
noncomputable instance (js:List Job):Decidable (begunP js):=Classical.propDecidable _
theorem fst_begun (js:List Job):fst js true<0↔¬begunP js:=by
  constructor
  · rintro h ⟨j,hj,hb⟩; exact fst_none h j hj hb
  · intro h
    rcases fst_cases js true with h1 | ⟨h1,h2⟩
    · omega
    · exact absurd ⟨_,List.getElem_mem h2,(fst_first h1 h2).1⟩ h
noncomputable def addE (s:PartState) (f:Face) (x:Task):Int:=
  if stP s∧faceP f∧RightP x then (if s.Tasks.length<8 then (if begunP s.Jobs then 9 else fitE (s.Tasks++[x]) f) else 3) else 1
theorem addE_zero {s:PartState} {f:Face} {x:Task} (h:addE s f x=0):stP s∧RightP x∧s.Tasks.length<8∧¬begunP s.Jobs∧fitsF (s.Tasks++[x]) f:=by
  unfold addE at h
  split at h
  rotate_left
  · omega
  rename_i h1
  split at h
  rotate_left
  · omega
  rename_i h2
  split at h
  · omega
  rename_i h3
  exact⟨h1.1,h1.2.2,h2,h3,fitE_zero.1 h⟩
theorem admit_Add_eq (s:PartState) (f:Face) (x:Task) (hb:StB s) (h50:s.Tasks.length≤1000) (hj:s.Jobs.length≤4611686018427387904):admit_Add s f x=some (if addE s f x=0 then (plus s x,0) else (s,addE s f x)):=by
  have hl:(s.Tasks++[x]).length≤4611686018427387904:=by simp; omega
  unfold admit_Add
  rw[ck_t (by simp; omega),ck_t (by simp; omega),List.nil_append]
  have tail:∀(b:Bool) (k:Int→Option (PartState×Int)),(bnd (admit_unless b (1:Int)) fun x5=>bnd (admit_unless (decide ((s.Tasks.length:Int)<(8:Int))) (3:Int)) fun x6=>bnd (job_First s.Jobs true) fun x7=>bnd (admit_unless (decide (x7<(0:Int))) (9:Int)) fun x8=>bnd (admit_fit (s.Tasks++([x]:List Task)) f) fun x9=>bnd (admit_first_1 x5.1 x5.2 x6.1 x6.2 x8.1 x8.2 x9.1 x9.2.1 x9.2.2) fun x10=>k x10)=k (if b=true then (if s.Tasks.length<8 then (if begunP s.Jobs then 9 else fitE (s.Tasks++[x]) f) else 3) else 1):=by
    intro b k
    rw[bnd_eq (admit_unless_eq _ _),bnd_eq (admit_unless_eq _ _),bnd_eq (job_First_eq _ _ hj),bnd_eq (admit_unless_eq _ _),bnd_eq (admit_fit_eq _ _),bnd_eq (admit_first_1_eq _ _ _ _ _ _ _ _ _ hl (show (1:Int)≠0 by decide) (show (3:Int)≠0 by decide) (show (9:Int)≠0 by decide))]
    congr 1
    cases b with
    | false=>rfl
    | true=>
      rw[if_pos rfl,if_pos rfl]
      by_cases h2:s.Tasks.length<8
      · rw[if_pos (decide_eq_true (by omega)),if_pos h2]
        by_cases h3:begunP s.Jobs
        · rw[if_pos h3,if_neg (by rw[decide_eq_true_eq,fst_begun]; exact fun h=>h h3)]
        · rw[if_neg h3,if_pos (decide_eq_true ((fst_begun _).2 h3))]
      · rw[if_neg h2,if_neg (by rw[decide_eq_true_eq]; omega)]
  refine jn_to (addE s f x) (fun k=>?_) ?_
  · rw[bnd_eq (part_Right_eq s hb)]
    unfold addE
    by_cases h1:stP s
    rotate_left
    · rw[decide_eq_false h1,fk_f,if_neg (fun h=>h1 h.1)]; exact tail false k
    rw[decide_eq_true h1,fk_t,bnd_eq (supply_Right_eq f)]
    by_cases h2:faceP f
    rotate_left
    · rw[decide_eq_false h2,fk_f,if_neg (fun h=>h2 h.2.1)]; exact tail false k
    rw[decide_eq_true h2,fk_t,bnd_eq (task_Right_eq x)]
    unfold right
    by_cases h3:RightP x
    · rw[decide_eq_true h3,if_pos ⟨h1,h2,h3⟩]; exact tail true k
    · rw[decide_eq_false h3,if_neg (fun h=>h3 h.2.2)]; exact tail false k
  by_cases h:addE s f x=0
  · obtain⟨a1,a2,a3,_⟩:=addE_zero h
    rw[decide_eq_true h,Bool.not_true,fk_f,if_pos h,bnd_eq (part_Add_eq s x hb)]
    unfold addV
    rw[if_pos ⟨a1,a2⟩,if_pos a3]
  · rw[decide_eq_false h,Bool.not_false,fk_t,if_neg h]

end Go.Proofs.YtldlcdnhdedoeaaGreat
