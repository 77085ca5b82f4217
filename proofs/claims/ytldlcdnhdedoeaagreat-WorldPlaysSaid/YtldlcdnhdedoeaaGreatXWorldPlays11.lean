/- Part 22 of what follows is proved here: what the statement WorldPlays needs of functions and plain laws. -/
import Derived.Test.YtldlcdnhdedoeaaGreatXWorldPlays8
import Derived.Test.YtldlcdnhdedoeaaGreatXWorldPlays7
import Derived.Test.YtldlcdnhdedoeaaGreatXWorldPlays10
import Derived.Test.YtldlcdnhdedoeaaGreatXWorldPlays9
import Derived.Test.YtldlcdnhdedoeaaGreatXWorldPlays0
set_option linter.unusedVariables false
set_option linter.unusedSimpArgs false
set_option maxRecDepth 100000
set_option maxHeartbeats 40000000
set_option maxRecDepth 1000000
set_option maxHeartbeats 4000000
namespace Go.Proofs.YtldlcdnhdedoeaaGreat
open Go Go.VC
noncomputable def world_Play (a0:List Int) (a1:List (List KernelCmd)):Option ((List WorldView)×Int):=
 bnd (image_Decode a0) fun x1=>fk (!decide (x1.2.2=(0:Int))) (some ([],x1.2.2)) (bnd (kernel_Boot x1.1) fun x2=>fk (!decide (x2.2=(0:Int))) (some ([],x2.2)) (bnd (world_may a1) fun x3=>fk (!x3) (some ([],(5:Int))) (fk (decide ((x2.1.Parts.length:Int)=(0:Int))) (lp (fun nx88 (v88:Int×(List Window)×(List Face)×(List PartState)×(List PortLine)×Int×Int)=>fk (decide (v88.2.2.2.2.2.2<(a1.length:Int))) (ix a1 v88.2.2.2.2.2.2 fun x89=>lp (fun nx90 (v90:Int×(List Window)×(List Face)×(List PartState)×(List PortLine)×Int×Int)=>fk (decide (v90.2.2.2.2.2.2<(x89.length:Int))) (ix x89 v90.2.2.2.2.2.2 fun x91=>bnd (kernel_Do (⟨⟨v90.1,v90.2.1⟩,v90.2.2.1,v90.2.2.2.1,v90.2.2.2.2.1,v90.2.2.2.2.2.1⟩) x91) fun x92=>jn (fun (w93:Unit)=>nx90 (x92.1.Table.Frame,x92.1.Table.Windows,x92.1.Faces,x92.1.Parts,x92.1.Lines,x92.1.Now,(wr (v90.2.2.2.2.2.2+(1:Int))))) (fun k93=>jn (fun (w94:Bool)=>fk w94 (none) (k93 ())) (fun k94=>fk (decide (x91.Part≥(0:Int))) (k94 (decide (x91.Part<(0:Int)))) (k94 false)))) (bnd (kernel_Tick (⟨⟨v90.1,v90.2.1⟩,v90.2.2.1,v90.2.2.2.1,v90.2.2.2.2.1,v90.2.2.2.2.2.1⟩)) fun x95=>lp (fun nx96 (v96:Unit)=>nx88 (x95.1.Table.Frame,x95.1.Table.Windows,x95.1.Faces,x95.1.Parts,x95.1.Lines,x95.1.Now,(wr (v88.2.2.2.2.2.2+(1:Int))))) FU ())) FU (v88.1,v88.2.1,v88.2.2.1,v88.2.2.2.1,v88.2.2.2.2.1,v88.2.2.2.2.2.1,(0:Int))) (lp (fun nx97 (v97:Unit)=>some (([]:List WorldView),(0:Int))) FU ())) FU (x2.1.Table.Frame,x2.1.Table.Windows,x2.1.Faces,x2.1.Parts,x2.1.Lines,x2.1.Now,(0:Int))) (fk (decide ((x2.1.Parts.length:Int)=(1:Int))) (lp (fun nx73 (v73:Int×(List Window)×(List Face)×(List PartState)×(List PortLine)×Int×(List WorldSaw)×(List Int)×Int)=>fk (decide (v73.2.2.2.2.2.2.2.2<(a1.length:Int))) (ix a1 v73.2.2.2.2.2.2.2.2 fun x74=>lp (fun nx75 (v75:Int×(List Window)×(List Face)×(List PartState)×(List PortLine)×Int×(List WorldSaw)×Int)=>fk (decide (v75.2.2.2.2.2.2.2<(x74.length:Int))) (ix x74 v75.2.2.2.2.2.2.2 fun x76=>bnd (kernel_Do (⟨⟨v75.1,v75.2.1⟩,v75.2.2.1,v75.2.2.2.1,v75.2.2.2.2.1,v75.2.2.2.2.2.1⟩) x76) fun x77=>jn (fun (w78:List WorldSaw)=>nx75 (x77.1.Table.Frame,x77.1.Table.Windows,x77.1.Faces,x77.1.Parts,x77.1.Lines,x77.1.Now,w78,(wr (v75.2.2.2.2.2.2.2+(1:Int))))) (fun k78=>jn (fun (w79:Bool)=>fk w79 (fk (decide (x76.Part=(0:Int))) (ck (decide ((v75.2.2.2.2.2.2.1.length+([⟨v73.2.2.2.2.2.2.2.2,x77.2.1,x77.2.2⟩]:List WorldSaw).length)*24≤140737488355328)) (k78 (v75.2.2.2.2.2.2.1++([⟨v73.2.2.2.2.2.2.2.2,x77.2.1,x77.2.2⟩]:List WorldSaw)))) (none)) (k78 v75.2.2.2.2.2.2.1)) (fun k79=>fk (decide (x76.Part≥(0:Int))) (k79 (decide (x76.Part<(1:Int)))) (k79 false)))) (bnd (kernel_Tick (⟨⟨v75.1,v75.2.1⟩,v75.2.2.1,v75.2.2.2.1,v75.2.2.2.2.1,v75.2.2.2.2.2.1⟩)) fun x81=>lp (fun nx82 (v82:(List Int)×Int)=>fk (decide (v82.2<(1:Int))) (fk (decide (v82.2=(0:Int))) (ix x81.2.1 v82.2 fun x84=>ck (decide ((v82.1.length+([x84]:List Int).length)*8≤140737488355328)) (nx82 (v82.1++([x84]:List Int),(wr (v82.2+(1:Int)))))) (none)) (nx73 (x81.1.Table.Frame,x81.1.Table.Windows,x81.1.Faces,x81.1.Parts,x81.1.Lines,x81.1.Now,v75.2.2.2.2.2.2.1,v82.1,(wr (v73.2.2.2.2.2.2.2.2+(1:Int)))))) FU (v73.2.2.2.2.2.2.2.1,(0:Int)))) FU (v73.1,v73.2.1,v73.2.2.1,v73.2.2.2.1,v73.2.2.2.2.1,v73.2.2.2.2.2.1,v73.2.2.2.2.2.2.1,(0:Int))) (lp (fun nx85 (v85:(List Entry)×Int)=>fk (decide (v85.2<(1:Int))) (ix v73.2.2.2.1 v85.2 fun x86=>fk (decide (v85.2=(0:Int))) (nx85 (x86.Log,(wr (v85.2+(1:Int))))) (none)) (some (([⟨v73.2.2.2.2.2.2.1,v73.2.2.2.2.2.2.2.1,v85.1⟩]:List WorldView),(0:Int)))) FU ([],(0:Int)))) FU (x2.1.Table.Frame,x2.1.Table.Windows,x2.1.Faces,x2.1.Parts,x2.1.Lines,x2.1.Now,[],[],(0:Int))) (fk (decide ((x2.1.Parts.length:Int)=(2:Int))) (lp (fun nx54 (v54:Int×(List Window)×(List Face)×(List PartState)×(List PortLine)×Int×(List WorldSaw)×(List Int)×(List WorldSaw)×(List Int)×Int)=>fk (decide (v54.2.2.2.2.2.2.2.2.2.2<(a1.length:Int))) (ix a1 v54.2.2.2.2.2.2.2.2.2.2 fun x55=>lp (fun nx56 (v56:Int×(List Window)×(List Face)×(List PartState)×(List PortLine)×Int×(List WorldSaw)×(List WorldSaw)×Int)=>fk (decide (v56.2.2.2.2.2.2.2.2<(x55.length:Int))) (ix x55 v56.2.2.2.2.2.2.2.2 fun x57=>bnd (kernel_Do (⟨⟨v56.1,v56.2.1⟩,v56.2.2.1,v56.2.2.2.1,v56.2.2.2.2.1,v56.2.2.2.2.2.1⟩) x57) fun x58=>jn (fun (w59:(List WorldSaw)×(List WorldSaw))=>nx56 (x58.1.Table.Frame,x58.1.Table.Windows,x58.1.Faces,x58.1.Parts,x58.1.Lines,x58.1.Now,w59.1,w59.2,(wr (v56.2.2.2.2.2.2.2.2+(1:Int))))) (fun k59=>jn (fun (w60:Bool)=>fk w60 (fk (decide (x57.Part=(0:Int))) (ck (decide ((v56.2.2.2.2.2.2.1.length+([⟨v54.2.2.2.2.2.2.2.2.2.2,x58.2.1,x58.2.2⟩]:List WorldSaw).length)*24≤140737488355328)) (k59 (v56.2.2.2.2.2.2.1++([⟨v54.2.2.2.2.2.2.2.2.2.2,x58.2.1,x58.2.2⟩]:List WorldSaw),v56.2.2.2.2.2.2.2.1))) (fk (decide (x57.Part=(1:Int))) (ck (decide ((v56.2.2.2.2.2.2.2.1.length+([⟨v54.2.2.2.2.2.2.2.2.2.2,x58.2.1,x58.2.2⟩]:List WorldSaw).length)*24≤140737488355328)) (k59 (v56.2.2.2.2.2.2.1,v56.2.2.2.2.2.2.2.1++([⟨v54.2.2.2.2.2.2.2.2.2.2,x58.2.1,x58.2.2⟩]:List WorldSaw)))) (none))) (k59 (v56.2.2.2.2.2.2.1,v56.2.2.2.2.2.2.2.1))) (fun k60=>fk (decide (x57.Part≥(0:Int))) (k60 (decide (x57.Part<(2:Int)))) (k60 false)))) (bnd (kernel_Tick (⟨⟨v56.1,v56.2.1⟩,v56.2.2.1,v56.2.2.2.1,v56.2.2.2.2.1,v56.2.2.2.2.2.1⟩)) fun x63=>lp (fun nx64 (v64:(List Int)×(List Int)×Int)=>fk (decide (v64.2.2<(2:Int))) (fk (decide (v64.2.2=(0:Int))) (ix x63.2.1 v64.2.2 fun x68=>ck (decide ((v64.1.length+([x68]:List Int).length)*8≤140737488355328)) (nx64 (v64.1++([x68]:List Int),v64.2.1,(wr (v64.2.2+(1:Int)))))) (fk (decide (v64.2.2=(1:Int))) (ix x63.2.1 v64.2.2 fun x67=>ck (decide ((v64.2.1.length+([x67]:List Int).length)*8≤140737488355328)) (nx64 (v64.1,v64.2.1++([x67]:List Int),(wr (v64.2.2+(1:Int)))))) (none))) (nx54 (x63.1.Table.Frame,x63.1.Table.Windows,x63.1.Faces,x63.1.Parts,x63.1.Lines,x63.1.Now,v56.2.2.2.2.2.2.1,v64.1,v56.2.2.2.2.2.2.2.1,v64.2.1,(wr (v54.2.2.2.2.2.2.2.2.2.2+(1:Int)))))) FU (v54.2.2.2.2.2.2.2.1,v54.2.2.2.2.2.2.2.2.2.1,(0:Int)))) FU (v54.1,v54.2.1,v54.2.2.1,v54.2.2.2.1,v54.2.2.2.2.1,v54.2.2.2.2.2.1,v54.2.2.2.2.2.2.1,v54.2.2.2.2.2.2.2.2.1,(0:Int))) (lp (fun nx69 (v69:(List Entry)×(List Entry)×Int)=>fk (decide (v69.2.2<(2:Int))) (ix v54.2.2.2.1 v69.2.2 fun x70=>fk (decide (v69.2.2=(0:Int))) (nx69 (x70.Log,v69.2.1,(wr (v69.2.2+(1:Int))))) (fk (decide (v69.2.2=(1:Int))) (nx69 (v69.1,x70.Log,(wr (v69.2.2+(1:Int))))) (none))) (some (([⟨v54.2.2.2.2.2.2.1,v54.2.2.2.2.2.2.2.1,v69.1⟩,⟨v54.2.2.2.2.2.2.2.2.1,v54.2.2.2.2.2.2.2.2.2.1,v69.2.1⟩]:List WorldView),(0:Int)))) FU ([],[],(0:Int)))) FU (x2.1.Table.Frame,x2.1.Table.Windows,x2.1.Faces,x2.1.Parts,x2.1.Lines,x2.1.Now,[],[],[],[],(0:Int))) (fk (decide ((x2.1.Parts.length:Int)=(3:Int))) (lp (fun nx31 (v31:Int×(List Window)×(List Face)×(List PartState)×(List PortLine)×Int×(List WorldSaw)×(List Int)×(List WorldSaw)×(List Int)×(List WorldSaw)×(List Int)×Int)=>fk (decide (v31.2.2.2.2.2.2.2.2.2.2.2.2<(a1.length:Int))) (ix a1 v31.2.2.2.2.2.2.2.2.2.2.2.2 fun x32=>lp (fun nx33 (v33:Int×(List Window)×(List Face)×(List PartState)×(List PortLine)×Int×(List WorldSaw)×(List WorldSaw)×(List WorldSaw)×Int)=>fk (decide (v33.2.2.2.2.2.2.2.2.2<(x32.length:Int))) (ix x32 v33.2.2.2.2.2.2.2.2.2 fun x34=>bnd (kernel_Do (⟨⟨v33.1,v33.2.1⟩,v33.2.2.1,v33.2.2.2.1,v33.2.2.2.2.1,v33.2.2.2.2.2.1⟩) x34) fun x35=>jn (fun (w36:(List WorldSaw)×(List WorldSaw)×(List WorldSaw))=>nx33 (x35.1.Table.Frame,x35.1.Table.Windows,x35.1.Faces,x35.1.Parts,x35.1.Lines,x35.1.Now,w36.1,w36.2.1,w36.2.2,(wr (v33.2.2.2.2.2.2.2.2.2+(1:Int))))) (fun k36=>jn (fun (w37:Bool)=>fk w37 (fk (decide (x34.Part=(0:Int))) (ck (decide ((v33.2.2.2.2.2.2.1.length+([⟨v31.2.2.2.2.2.2.2.2.2.2.2.2,x35.2.1,x35.2.2⟩]:List WorldSaw).length)*24≤140737488355328)) (k36 (v33.2.2.2.2.2.2.1++([⟨v31.2.2.2.2.2.2.2.2.2.2.2.2,x35.2.1,x35.2.2⟩]:List WorldSaw),v33.2.2.2.2.2.2.2.1,v33.2.2.2.2.2.2.2.2.1))) (fk (decide (x34.Part=(1:Int))) (ck (decide ((v33.2.2.2.2.2.2.2.1.length+([⟨v31.2.2.2.2.2.2.2.2.2.2.2.2,x35.2.1,x35.2.2⟩]:List WorldSaw).length)*24≤140737488355328)) (k36 (v33.2.2.2.2.2.2.1,v33.2.2.2.2.2.2.2.1++([⟨v31.2.2.2.2.2.2.2.2.2.2.2.2,x35.2.1,x35.2.2⟩]:List WorldSaw),v33.2.2.2.2.2.2.2.2.1))) (fk (decide (x34.Part=(2:Int))) (ck (decide ((v33.2.2.2.2.2.2.2.2.1.length+([⟨v31.2.2.2.2.2.2.2.2.2.2.2.2,x35.2.1,x35.2.2⟩]:List WorldSaw).length)*24≤140737488355328)) (k36 (v33.2.2.2.2.2.2.1,v33.2.2.2.2.2.2.2.1,v33.2.2.2.2.2.2.2.2.1++([⟨v31.2.2.2.2.2.2.2.2.2.2.2.2,x35.2.1,x35.2.2⟩]:List WorldSaw)))) (none)))) (k36 (v33.2.2.2.2.2.2.1,v33.2.2.2.2.2.2.2.1,v33.2.2.2.2.2.2.2.2.1))) (fun k37=>fk (decide (x34.Part≥(0:Int))) (k37 (decide (x34.Part<(3:Int)))) (k37 false)))) (bnd (kernel_Tick (⟨⟨v33.1,v33.2.1⟩,v33.2.2.1,v33.2.2.2.1,v33.2.2.2.2.1,v33.2.2.2.2.2.1⟩)) fun x41=>lp (fun nx42 (v42:(List Int)×(List Int)×(List Int)×Int)=>fk (decide (v42.2.2.2<(3:Int))) (fk (decide (v42.2.2.2=(0:Int))) (ix x41.2.1 v42.2.2.2 fun x48=>ck (decide ((v42.1.length+([x48]:List Int).length)*8≤140737488355328)) (nx42 (v42.1++([x48]:List Int),v42.2.1,v42.2.2.1,(wr (v42.2.2.2+(1:Int)))))) (fk (decide (v42.2.2.2=(1:Int))) (ix x41.2.1 v42.2.2.2 fun x47=>ck (decide ((v42.2.1.length+([x47]:List Int).length)*8≤140737488355328)) (nx42 (v42.1,v42.2.1++([x47]:List Int),v42.2.2.1,(wr (v42.2.2.2+(1:Int)))))) (fk (decide (v42.2.2.2=(2:Int))) (ix x41.2.1 v42.2.2.2 fun x46=>ck (decide ((v42.2.2.1.length+([x46]:List Int).length)*8≤140737488355328)) (nx42 (v42.1,v42.2.1,v42.2.2.1++([x46]:List Int),(wr (v42.2.2.2+(1:Int)))))) (none)))) (nx31 (x41.1.Table.Frame,x41.1.Table.Windows,x41.1.Faces,x41.1.Parts,x41.1.Lines,x41.1.Now,v33.2.2.2.2.2.2.1,v42.1,v33.2.2.2.2.2.2.2.1,v42.2.1,v33.2.2.2.2.2.2.2.2.1,v42.2.2.1,(wr (v31.2.2.2.2.2.2.2.2.2.2.2.2+(1:Int)))))) FU (v31.2.2.2.2.2.2.2.1,v31.2.2.2.2.2.2.2.2.2.1,v31.2.2.2.2.2.2.2.2.2.2.2.1,(0:Int)))) FU (v31.1,v31.2.1,v31.2.2.1,v31.2.2.2.1,v31.2.2.2.2.1,v31.2.2.2.2.2.1,v31.2.2.2.2.2.2.1,v31.2.2.2.2.2.2.2.2.1,v31.2.2.2.2.2.2.2.2.2.2.1,(0:Int))) (lp (fun nx49 (v49:(List Entry)×(List Entry)×(List Entry)×Int)=>fk (decide (v49.2.2.2<(3:Int))) (ix v31.2.2.2.1 v49.2.2.2 fun x50=>fk (decide (v49.2.2.2=(0:Int))) (nx49 (x50.Log,v49.2.1,v49.2.2.1,(wr (v49.2.2.2+(1:Int))))) (fk (decide (v49.2.2.2=(1:Int))) (nx49 (v49.1,x50.Log,v49.2.2.1,(wr (v49.2.2.2+(1:Int))))) (fk (decide (v49.2.2.2=(2:Int))) (nx49 (v49.1,v49.2.1,x50.Log,(wr (v49.2.2.2+(1:Int))))) (none)))) (some (([⟨v31.2.2.2.2.2.2.1,v31.2.2.2.2.2.2.2.1,v49.1⟩,⟨v31.2.2.2.2.2.2.2.2.1,v31.2.2.2.2.2.2.2.2.2.1,v49.2.1⟩,⟨v31.2.2.2.2.2.2.2.2.2.2.1,v31.2.2.2.2.2.2.2.2.2.2.2.1,v49.2.2.1⟩]:List WorldView),(0:Int)))) FU ([],[],[],(0:Int)))) FU (x2.1.Table.Frame,x2.1.Table.Windows,x2.1.Faces,x2.1.Parts,x2.1.Lines,x2.1.Now,[],[],[],[],[],[],(0:Int))) (fk (decide ((x2.1.Parts.length:Int)=(4:Int))) (lp (fun nx4 (v4:Int×(List Window)×(List Face)×(List PartState)×(List PortLine)×Int×(List WorldSaw)×(List Int)×(List WorldSaw)×(List Int)×(List WorldSaw)×(List Int)×(List WorldSaw)×(List Int)×Int)=>fk (decide (v4.2.2.2.2.2.2.2.2.2.2.2.2.2.2<(a1.length:Int))) (ix a1 v4.2.2.2.2.2.2.2.2.2.2.2.2.2.2 fun x5=>lp (fun nx6 (v6:Int×(List Window)×(List Face)×(List PartState)×(List PortLine)×Int×(List WorldSaw)×(List WorldSaw)×(List WorldSaw)×(List WorldSaw)×Int)=>fk (decide (v6.2.2.2.2.2.2.2.2.2.2<(x5.length:Int))) (ix x5 v6.2.2.2.2.2.2.2.2.2.2 fun x7=>bnd (kernel_Do (⟨⟨v6.1,v6.2.1⟩,v6.2.2.1,v6.2.2.2.1,v6.2.2.2.2.1,v6.2.2.2.2.2.1⟩) x7) fun x8=>jn (fun (w9:(List WorldSaw)×(List WorldSaw)×(List WorldSaw)×(List WorldSaw))=>nx6 (x8.1.Table.Frame,x8.1.Table.Windows,x8.1.Faces,x8.1.Parts,x8.1.Lines,x8.1.Now,w9.1,w9.2.1,w9.2.2.1,w9.2.2.2,(wr (v6.2.2.2.2.2.2.2.2.2.2+(1:Int))))) (fun k9=>jn (fun (w10:Bool)=>fk w10 (fk (decide (x7.Part=(0:Int))) (ck (decide ((v6.2.2.2.2.2.2.1.length+([⟨v4.2.2.2.2.2.2.2.2.2.2.2.2.2.2,x8.2.1,x8.2.2⟩]:List WorldSaw).length)*24≤140737488355328)) (k9 (v6.2.2.2.2.2.2.1++([⟨v4.2.2.2.2.2.2.2.2.2.2.2.2.2.2,x8.2.1,x8.2.2⟩]:List WorldSaw),v6.2.2.2.2.2.2.2.1,v6.2.2.2.2.2.2.2.2.1,v6.2.2.2.2.2.2.2.2.2.1))) (fk (decide (x7.Part=(1:Int))) (ck (decide ((v6.2.2.2.2.2.2.2.1.length+([⟨v4.2.2.2.2.2.2.2.2.2.2.2.2.2.2,x8.2.1,x8.2.2⟩]:List WorldSaw).length)*24≤140737488355328)) (k9 (v6.2.2.2.2.2.2.1,v6.2.2.2.2.2.2.2.1++([⟨v4.2.2.2.2.2.2.2.2.2.2.2.2.2.2,x8.2.1,x8.2.2⟩]:List WorldSaw),v6.2.2.2.2.2.2.2.2.1,v6.2.2.2.2.2.2.2.2.2.1))) (fk (decide (x7.Part=(2:Int))) (ck (decide ((v6.2.2.2.2.2.2.2.2.1.length+([⟨v4.2.2.2.2.2.2.2.2.2.2.2.2.2.2,x8.2.1,x8.2.2⟩]:List WorldSaw).length)*24≤140737488355328)) (k9 (v6.2.2.2.2.2.2.1,v6.2.2.2.2.2.2.2.1,v6.2.2.2.2.2.2.2.2.1++([⟨v4.2.2.2.2.2.2.2.2.2.2.2.2.2.2,x8.2.1,x8.2.2⟩]:List WorldSaw),v6.2.2.2.2.2.2.2.2.2.1))) (fk (decide (x7.Part=(3:Int))) (ck (decide ((v6.2.2.2.2.2.2.2.2.2.1.length+([⟨v4.2.2.2.2.2.2.2.2.2.2.2.2.2.2,x8.2.1,x8.2.2⟩]:List WorldSaw).length)*24≤140737488355328)) (k9 (v6.2.2.2.2.2.2.1,v6.2.2.2.2.2.2.2.1,v6.2.2.2.2.2.2.2.2.1,v6.2.2.2.2.2.2.2.2.2.1++([⟨v4.2.2.2.2.2.2.2.2.2.2.2.2.2.2,x8.2.1,x8.2.2⟩]:List WorldSaw)))) (none))))) (k9 (v6.2.2.2.2.2.2.1,v6.2.2.2.2.2.2.2.1,v6.2.2.2.2.2.2.2.2.1,v6.2.2.2.2.2.2.2.2.2.1))) (fun k10=>fk (decide (x7.Part≥(0:Int))) (k10 (decide (x7.Part<(4:Int)))) (k10 false)))) (bnd (kernel_Tick (⟨⟨v6.1,v6.2.1⟩,v6.2.2.1,v6.2.2.2.1,v6.2.2.2.2.1,v6.2.2.2.2.2.1⟩)) fun x15=>lp (fun nx16 (v16:(List Int)×(List Int)×(List Int)×(List Int)×Int)=>fk (decide (v16.2.2.2.2<(4:Int))) (fk (decide (v16.2.2.2.2=(0:Int))) (ix x15.2.1 v16.2.2.2.2 fun x24=>ck (decide ((v16.1.length+([x24]:List Int).length)*8≤140737488355328)) (nx16 (v16.1++([x24]:List Int),v16.2.1,v16.2.2.1,v16.2.2.2.1,(wr (v16.2.2.2.2+(1:Int)))))) (fk (decide (v16.2.2.2.2=(1:Int))) (ix x15.2.1 v16.2.2.2.2 fun x23=>ck (decide ((v16.2.1.length+([x23]:List Int).length)*8≤140737488355328)) (nx16 (v16.1,v16.2.1++([x23]:List Int),v16.2.2.1,v16.2.2.2.1,(wr (v16.2.2.2.2+(1:Int)))))) (fk (decide (v16.2.2.2.2=(2:Int))) (ix x15.2.1 v16.2.2.2.2 fun x22=>ck (decide ((v16.2.2.1.length+([x22]:List Int).length)*8≤140737488355328)) (nx16 (v16.1,v16.2.1,v16.2.2.1++([x22]:List Int),v16.2.2.2.1,(wr (v16.2.2.2.2+(1:Int)))))) (fk (decide (v16.2.2.2.2=(3:Int))) (ix x15.2.1 v16.2.2.2.2 fun x21=>ck (decide ((v16.2.2.2.1.length+([x21]:List Int).length)*8≤140737488355328)) (nx16 (v16.1,v16.2.1,v16.2.2.1,v16.2.2.2.1++([x21]:List Int),(wr (v16.2.2.2.2+(1:Int)))))) (none))))) (nx4 (x15.1.Table.Frame,x15.1.Table.Windows,x15.1.Faces,x15.1.Parts,x15.1.Lines,x15.1.Now,v6.2.2.2.2.2.2.1,v16.1,v6.2.2.2.2.2.2.2.1,v16.2.1,v6.2.2.2.2.2.2.2.2.1,v16.2.2.1,v6.2.2.2.2.2.2.2.2.2.1,v16.2.2.2.1,(wr (v4.2.2.2.2.2.2.2.2.2.2.2.2.2.2+(1:Int)))))) FU (v4.2.2.2.2.2.2.2.1,v4.2.2.2.2.2.2.2.2.2.1,v4.2.2.2.2.2.2.2.2.2.2.2.1,v4.2.2.2.2.2.2.2.2.2.2.2.2.2.1,(0:Int)))) FU (v4.1,v4.2.1,v4.2.2.1,v4.2.2.2.1,v4.2.2.2.2.1,v4.2.2.2.2.2.1,v4.2.2.2.2.2.2.1,v4.2.2.2.2.2.2.2.2.1,v4.2.2.2.2.2.2.2.2.2.2.1,v4.2.2.2.2.2.2.2.2.2.2.2.2.1,(0:Int))) (lp (fun nx25 (v25:(List Entry)×(List Entry)×(List Entry)×(List Entry)×Int)=>fk (decide (v25.2.2.2.2<(4:Int))) (ix v4.2.2.2.1 v25.2.2.2.2 fun x26=>fk (decide (v25.2.2.2.2=(0:Int))) (nx25 (x26.Log,v25.2.1,v25.2.2.1,v25.2.2.2.1,(wr (v25.2.2.2.2+(1:Int))))) (fk (decide (v25.2.2.2.2=(1:Int))) (nx25 (v25.1,x26.Log,v25.2.2.1,v25.2.2.2.1,(wr (v25.2.2.2.2+(1:Int))))) (fk (decide (v25.2.2.2.2=(2:Int))) (nx25 (v25.1,v25.2.1,x26.Log,v25.2.2.2.1,(wr (v25.2.2.2.2+(1:Int))))) (fk (decide (v25.2.2.2.2=(3:Int))) (nx25 (v25.1,v25.2.1,v25.2.2.1,x26.Log,(wr (v25.2.2.2.2+(1:Int))))) (none))))) (some (([⟨v4.2.2.2.2.2.2.1,v4.2.2.2.2.2.2.2.1,v25.1⟩,⟨v4.2.2.2.2.2.2.2.2.1,v4.2.2.2.2.2.2.2.2.2.1,v25.2.1⟩,⟨v4.2.2.2.2.2.2.2.2.2.2.1,v4.2.2.2.2.2.2.2.2.2.2.2.1,v25.2.2.1⟩,⟨v4.2.2.2.2.2.2.2.2.2.2.2.2.1,v4.2.2.2.2.2.2.2.2.2.2.2.2.2.1,v25.2.2.2.1⟩]:List WorldView),(0:Int)))) FU ([],[],[],[],(0:Int)))) FU (x2.1.Table.Frame,x2.1.Table.Windows,x2.1.Faces,x2.1.Parts,x2.1.Lines,x2.1.Now,[],[],[],[],[],[],[],[],(0:Int))) (none))))))))
theorem world_Play_w (a0:List Int) (a1:List (List KernelCmd)) (r:(List WorldView)×Int) (h:world_Play a0 a1=some r):Go.VC.Spec Tryz.prog 41 [.d (.sl (a0.map (eI .u8))),.d (.sl (a1.map (eL KernelCmd.enc)))] (fun y=>y=E_ListWorldView_Int r):=by
 refine Spec.of_xc (fn:=Tryz.f41) tab ⟨[(0,[0,1]),(1,[1,6,8]),(2,[1,6,8,30]),(3,[4,5]),(4,[1,8,9]),(5,[1,8,9,38]),(6,[4,5]),(7,[1,9,42]),(8,[4,5]),(9,[1,9,10]),(10,[9,10,47,48,49]),(11,[9,10,47,48,49,50]),(12,[9,10,11,12,47,48,49]),(13,[9,10,11,47,48,49,54,55,56]),(14,[9,10,11,47,48,49,54,55,56,57]),(15,[9,10,11,14,47,48,49,54,55,56]),(16,[9,10,11,14,15,16,17,47,48,49,54,55,56]),(17,[9,10,11,14,15,16,17,47,48,49,54,55,56,76]),(18,[9,10,11,15,47,48,49,54,55,56]),(19,[9,10,11,47,48,49,54,55,56]),(20,[9,10,11,47,48,49,54,55,56]),(21,[9,10,18,19,47,48,49]),(22,[9,10,18,19,47,48,49,103,104]),(23,[9,10,18,19,47,48,49,103,104,105]),(24,[9,10,18,19,21,47,48,49,103,104]),(25,[9,10,18,19,47,48,49,103,104]),(26,[9,10,18,19,47,48,49,103,104]),(27,[9,10,47,48,49]),(28,[9,10,47,48,49]),(29,[9,10,126,127]),(30,[9,10,126,127,128]),(31,[9,10,22,126,127]),(32,[9,10,126,127]),(33,[9,10,126,127]),(34,[4,5])],[],[100076,19],[]⟩ 142 [.tmp 4,.tmp 5] rfl rfl rfl rfl rfl rfl ?_<;>conv=>whnf
 refine ccS (E:=E_Config_Int_Int) h (image_Decode_w a0) rfl rfl (fun x1 h=>?_)<;>conv=>whnf
 refine fkS h (fun h=>?_) (fun h=>?_)<;>conv=>whnf
 ·exact rt (E:=E_ListWorldView_Int) h rfl
 refine ccS (E:=E_KernelState_Int) h (kernel_Boot_w x1.1) rfl rfl (fun x2 h=>?_)<;>conv=>whnf
 refine fkS h (fun h=>?_) (fun h=>?_)<;>conv=>whnf
 ·exact rt (E:=E_ListWorldView_Int) h rfl
 refine caS (E:=E_Bool) h (world_may_w a1) rfl (fun _=>rfl) (fun x3 h=>?_)<;>conv=>whnf
 refine fkS h (fun h=>?_) (fun h=>?_)<;>conv=>whnf
 ·exact rt (E:=E_ListWorldView_Int) h rfl
 refine lenS x2.1.Parts PartState.enc rfl ?_<;>conv=>whnf
 refine mkF h (fun hb h=>?_) (fun h=>?_)<;>conv=>whnf
 ·refine mkB0 tab rfl rfl rfl rfl (of_decide_eq_true hb) (of_decide_eq_true hb) rfl rfl rfl ?_<;>conv=>whnf
  refine lenS a1 (eL KernelCmd.enc) rfl ?_<;>conv=>whnf
  refine lpS (fun v88=>⟨[(9,.l (.ptr 10 0)),(10,.l (.d (.sl (([]:List WorldView).map WorldView.enc)))),(47,.l (.d (.sl (a1.map (eL KernelCmd.enc))))),(48,lI (a1.length:Int)),(49,lI v88.2.2.2.2.2.2)],142,[],[(10,[dI v88.1,.d (.sl (v88.2.1.map Window.enc)),.d (.sl (v88.2.2.1.map Face.enc)),.d (.sl (v88.2.2.2.1.map PartState.enc)),.d (.sl (v88.2.2.2.2.1.map PortLine.enc)),dI v88.2.2.2.2.2.1])],[]⟩) h wR (fun _ nx88 hn88 v88 h=>?_)<;>conv=>whnf
  refine fkS h (fun h=>?_) (fun h=>?_)<;>conv=>whnf
  ·refine ixS (enc:=(eL KernelCmd.enc)) h rfl (fun _=>rfl) (fun x89 h=>?_)<;>conv=>whnf
   refine lenS x89 KernelCmd.enc rfl ?_<;>conv=>whnf
   refine lpS (fun v90=>⟨[(9,.l (.ptr 10 0)),(10,.l (.d (.sl (([]:List WorldView).map WorldView.enc)))),(11,lI v88.2.2.2.2.2.2),(47,.l (.d (.sl (a1.map (eL KernelCmd.enc))))),(48,lI (a1.length:Int)),(49,lI v88.2.2.2.2.2.2),(54,.l (.d (.sl (x89.map KernelCmd.enc)))),(55,lI (x89.length:Int)),(56,lI v90.2.2.2.2.2.2)],142,[],[(10,[dI v90.1,.d (.sl (v90.2.1.map Window.enc)),.d (.sl (v90.2.2.1.map Face.enc)),.d (.sl (v90.2.2.2.1.map PartState.enc)),.d (.sl (v90.2.2.2.2.1.map PortLine.enc)),dI v90.2.2.2.2.2.1])],[]⟩) h wR (fun _ nx90 hn90 v90 h=>?_)<;>conv=>whnf
   refine fkS h (fun h=>?_) (fun h=>?_)<;>conv=>whnf
   ·refine ixS (enc:=KernelCmd.enc) h rfl (fun _=>rfl) (fun x91 h=>?_)<;>conv=>whnf
    refine ccS (E:=E_KernelState_Int_Int) h (kernel_Do_w (⟨⟨v90.1,v90.2.1⟩,v90.2.2.1,v90.2.2.2.1,v90.2.2.2.2.1,v90.2.2.2.2.2.1⟩) x91) rfl rfl (fun x92 h=>?_)<;>conv=>whnf
    refine jnS (fun w93=>⟨[(9,.l (.ptr 10 0)),(10,.l (.d (.sl (([]:List WorldView).map WorldView.enc)))),(11,lI v88.2.2.2.2.2.2),(15,.l (.ptr 16 0)),(47,.l (.d (.sl (a1.map (eL KernelCmd.enc))))),(48,lI (a1.length:Int)),(49,lI v88.2.2.2.2.2.2),(54,.l (.d (.sl (x89.map KernelCmd.enc)))),(55,lI (x89.length:Int)),(56,lI v90.2.2.2.2.2.2)],142,[],[(10,[dI v90.1,.d (.sl (v90.2.1.map Window.enc)),.d (.sl (v90.2.2.1.map Face.enc)),.d (.sl (v90.2.2.2.1.map PartState.enc)),.d (.sl (v90.2.2.2.2.1.map PortLine.enc)),dI v90.2.2.2.2.2.1]),(16,[dI x92.1.Table.Frame,.d (.sl (x92.1.Table.Windows.map Window.enc)),.d (.sl (x92.1.Faces.map Face.enc)),.d (.sl (x92.1.Parts.map PartState.enc)),.d (.sl (x92.1.Lines.map PortLine.enc)),dI x92.1.Now])],[]⟩) h (fun k93 hk93 h=>?_) (fun w93 h=>?_)<;>conv=>whnf
    ·refine jnS (fun w94=>⟨[(9,.l (.ptr 10 0)),(10,.l (.d (.sl (([]:List WorldView).map WorldView.enc)))),(11,lI v88.2.2.2.2.2.2),(14,.l (.ptr 15 0)),(15,.l (.ptr 16 0)),(16,lI x92.2.1),(17,lI x92.2.2),(47,.l (.d (.sl (a1.map (eL KernelCmd.enc))))),(48,lI (a1.length:Int)),(49,lI v88.2.2.2.2.2.2),(54,.l (.d (.sl (x89.map KernelCmd.enc)))),(55,lI (x89.length:Int)),(56,lI v90.2.2.2.2.2.2),(76,lB w94)],142,[],[(10,[dI v90.1,.d (.sl (v90.2.1.map Window.enc)),.d (.sl (v90.2.2.1.map Face.enc)),.d (.sl (v90.2.2.2.1.map PartState.enc)),.d (.sl (v90.2.2.2.2.1.map PortLine.enc)),dI v90.2.2.2.2.2.1]),(15,[dI x91.Part,dI x91.Kind,dI x91.I,dI x91.V,dI x91.T.C,dI x91.T.D,dI x91.T.T,.d (.sl (x91.T.Secs.map Sec.enc))]),(16,[dI x92.1.Table.Frame,.d (.sl (x92.1.Table.Windows.map Window.enc)),.d (.sl (x92.1.Faces.map Face.enc)),.d (.sl (x92.1.Parts.map PartState.enc)),.d (.sl (x92.1.Lines.map PortLine.enc)),dI x92.1.Now])],[]⟩) h (fun k94 hk94 h=>?_) (fun w94 h=>?_)<;>conv=>whnf
     ·refine fkS h (fun h=>?_) (fun h=>?_)<;>conv=>whnf
      ·refine lenS ([]:List WorldView) WorldView.enc rfl ?_<;>conv=>whnf
       exact jeS hk94 h wR
      exact jeS hk94 h wR
     refine fkS h (fun h=>?_) (fun h=>?_)<;>conv=>whnf
     ·refine⟨15,?_⟩
      conv=>whnf
      cases h
     refine jeX hk93 h ?_<;>conv=>whnf
     refine WkF.step (Weak.keepS _ [9,10,11,15,47,48,49,54,55,56]) ?_<;>conv=>whnf
     exact WkF.refl _
    exact leS hn90 h wR
   refine ccS (E:=E_KernelState_ListInt_Int) h (kernel_Tick_w (⟨⟨v90.1,v90.2.1⟩,v90.2.2.1,v90.2.2.2.1,v90.2.2.2.2.1,v90.2.2.2.2.2.1⟩)) rfl rfl (fun x95 h=>?_)<;>conv=>whnf
   refine lenS ([]:List WorldView) WorldView.enc rfl ?_<;>conv=>whnf
   refine lpS (fun v96=>⟨[(9,.l (.ptr 10 0)),(10,.l (.d (.sl (([]:List WorldView).map WorldView.enc)))),(18,.l (.ptr 19 0)),(19,.l (.d (.sl (x95.2.1.map (eI .i64))))),(47,.l (.d (.sl (a1.map (eL KernelCmd.enc))))),(48,lI (a1.length:Int)),(49,lI v88.2.2.2.2.2.2),(103,lI (0:Int)),(104,lI (0:Int))],142,[],[(10,[dI v90.1,.d (.sl (v90.2.1.map Window.enc)),.d (.sl (v90.2.2.1.map Face.enc)),.d (.sl (v90.2.2.2.1.map PartState.enc)),.d (.sl (v90.2.2.2.2.1.map PortLine.enc)),dI v90.2.2.2.2.2.1]),(19,[dI x95.1.Table.Frame,.d (.sl (x95.1.Table.Windows.map Window.enc)),.d (.sl (x95.1.Faces.map Face.enc)),.d (.sl (x95.1.Parts.map PartState.enc)),.d (.sl (x95.1.Lines.map PortLine.enc)),dI x95.1.Now])],[]⟩) h wR (fun _ nx96 hn96 v96 h=>?_)<;>conv=>whnf
   exact leS hn88 h wR
  refine lenS ([]:List WorldView) WorldView.enc rfl ?_<;>conv=>whnf
  refine lpS (fun v97=>⟨[(9,.l (.ptr 10 0)),(10,.l (.d (.sl (([]:List WorldView).map WorldView.enc)))),(126,lI (0:Int)),(127,lI (0:Int))],142,[],[(10,[dI v88.1,.d (.sl (v88.2.1.map Window.enc)),.d (.sl (v88.2.2.1.map Face.enc)),.d (.sl (v88.2.2.2.1.map PartState.enc)),.d (.sl (v88.2.2.2.2.1.map PortLine.enc)),dI v88.2.2.2.2.2.1])],[]⟩) h wR (fun _ nx97 hn97 v97 h=>?_)<;>conv=>whnf
  exact rt (E:=E_ListWorldView_Int) h rfl
 refine mkF h (fun hb h=>?_) (fun h=>?_)<;>conv=>whnf
 ·refine mkB tab 1 rfl rfl rfl rfl (of_decide_eq_true hb) (of_decide_eq_true hb) rfl rfl rfl (Nat.le_of_ble_eq_true rfl) (Nat.le_of_ble_eq_true rfl) (Nat.le_of_ble_eq_true rfl) rfl ?_<;>conv=>whnf
  refine lenS a1 (eL KernelCmd.enc) rfl ?_<;>conv=>whnf
  refine lpS (fun v73=>⟨[(9,.l (.ptr 10 0)),(10,.l (.bsl 47 1 3)),(47,.l (.d (.sl (a1.map (eL KernelCmd.enc))))),(48,lI (a1.length:Int)),(49,lI v73.2.2.2.2.2.2.2.2)],142,[],[(10,[dI v73.1,.d (.sl (v73.2.1.map Window.enc)),.d (.sl (v73.2.2.1.map Face.enc)),.d (.sl (v73.2.2.2.1.map PartState.enc)),.d (.sl (v73.2.2.2.2.1.map PortLine.enc)),dI v73.2.2.2.2.2.1]),(47,[.own 54700,.own 54701,.nil])],[(54700,113,3,v73.2.2.2.2.2.2.1.map WorldSaw.enc),(54701,3,1,v73.2.2.2.2.2.2.2.1.map (eI .i64))]⟩) h (Weak.trans (Weak.nilBO _ 47 0 54700 113 3 _ rfl rfl) (Weak.trans (Weak.nilBO _ 47 1 54701 3 1 _ rfl rfl) wR)) (fun _ nx73 hn73 v73 h=>?_)<;>conv=>whnf
  refine fkS h (fun h=>?_) (fun h=>?_)<;>conv=>whnf
  ·refine ixS (enc:=(eL KernelCmd.enc)) h rfl (fun _=>rfl) (fun x74 h=>?_)<;>conv=>whnf
   refine lenS x74 KernelCmd.enc rfl ?_<;>conv=>whnf
   refine lpS (fun v75=>⟨[(9,.l (.ptr 10 0)),(10,.l (.bsl 47 1 3)),(11,lI v73.2.2.2.2.2.2.2.2),(47,.l (.d (.sl (a1.map (eL KernelCmd.enc))))),(48,lI (a1.length:Int)),(49,lI v73.2.2.2.2.2.2.2.2),(54,.l (.d (.sl (x74.map KernelCmd.enc)))),(55,lI (x74.length:Int)),(56,lI v75.2.2.2.2.2.2.2)],142,[],[(10,[dI v75.1,.d (.sl (v75.2.1.map Window.enc)),.d (.sl (v75.2.2.1.map Face.enc)),.d (.sl (v75.2.2.2.1.map PartState.enc)),.d (.sl (v75.2.2.2.2.1.map PortLine.enc)),dI v75.2.2.2.2.2.1]),(47,[.own 54700,.own 54701,.nil])],[(54700,113,3,v75.2.2.2.2.2.2.1.map WorldSaw.enc),(54701,3,1,v73.2.2.2.2.2.2.2.1.map (eI .i64))]⟩) h wR (fun _ nx75 hn75 v75 h=>?_)<;>conv=>whnf
   refine fkS h (fun h=>?_) (fun h=>?_)<;>conv=>whnf
   ·refine ixS (enc:=KernelCmd.enc) h rfl (fun _=>rfl) (fun x76 h=>?_)<;>conv=>whnf
    refine ccS (E:=E_KernelState_Int_Int) h (kernel_Do_w (⟨⟨v75.1,v75.2.1⟩,v75.2.2.1,v75.2.2.2.1,v75.2.2.2.2.1,v75.2.2.2.2.2.1⟩) x76) rfl rfl (fun x77 h=>?_)<;>conv=>whnf
    refine jnS (fun w78=>⟨[(9,.l (.ptr 10 0)),(10,.l (.bsl 47 1 3)),(11,lI v73.2.2.2.2.2.2.2.2),(15,.l (.ptr 16 0)),(47,.l (.d (.sl (a1.map (eL KernelCmd.enc))))),(48,lI (a1.length:Int)),(49,lI v73.2.2.2.2.2.2.2.2),(54,.l (.d (.sl (x74.map KernelCmd.enc)))),(55,lI (x74.length:Int)),(56,lI v75.2.2.2.2.2.2.2)],142,[],[(10,[dI v75.1,.d (.sl (v75.2.1.map Window.enc)),.d (.sl (v75.2.2.1.map Face.enc)),.d (.sl (v75.2.2.2.1.map PartState.enc)),.d (.sl (v75.2.2.2.2.1.map PortLine.enc)),dI v75.2.2.2.2.2.1]),(16,[dI x77.1.Table.Frame,.d (.sl (x77.1.Table.Windows.map Window.enc)),.d (.sl (x77.1.Faces.map Face.enc)),.d (.sl (x77.1.Parts.map PartState.enc)),.d (.sl (x77.1.Lines.map PortLine.enc)),dI x77.1.Now]),(47,[.own 54700,.own 54701,.nil])],[(54700,113,3,w78.map WorldSaw.enc),(54701,3,1,v73.2.2.2.2.2.2.2.1.map (eI .i64))]⟩) h (fun k78 hk78 h=>?_) (fun w78 h=>?_)<;>conv=>whnf
    ·refine jnS (fun w79=>⟨[(9,.l (.ptr 10 0)),(10,.l (.bsl 47 1 3)),(11,lI v73.2.2.2.2.2.2.2.2),(14,.l (.ptr 15 0)),(15,.l (.ptr 16 0)),(16,lI x77.2.1),(17,lI x77.2.2),(47,.l (.d (.sl (a1.map (eL KernelCmd.enc))))),(48,lI (a1.length:Int)),(49,lI v73.2.2.2.2.2.2.2.2),(54,.l (.d (.sl (x74.map KernelCmd.enc)))),(55,lI (x74.length:Int)),(56,lI v75.2.2.2.2.2.2.2),(76,lB w79)],142,[],[(10,[dI v75.1,.d (.sl (v75.2.1.map Window.enc)),.d (.sl (v75.2.2.1.map Face.enc)),.d (.sl (v75.2.2.2.1.map PartState.enc)),.d (.sl (v75.2.2.2.2.1.map PortLine.enc)),dI v75.2.2.2.2.2.1]),(15,[dI x76.Part,dI x76.Kind,dI x76.I,dI x76.V,dI x76.T.C,dI x76.T.D,dI x76.T.T,.d (.sl (x76.T.Secs.map Sec.enc))]),(16,[dI x77.1.Table.Frame,.d (.sl (x77.1.Table.Windows.map Window.enc)),.d (.sl (x77.1.Faces.map Face.enc)),.d (.sl (x77.1.Parts.map PartState.enc)),.d (.sl (x77.1.Lines.map PortLine.enc)),dI x77.1.Now]),(47,[.own 54700,.own 54701,.nil])],[(54700,113,3,v75.2.2.2.2.2.2.1.map WorldSaw.enc),(54701,3,1,v73.2.2.2.2.2.2.2.1.map (eI .i64))]⟩) h (fun k79 hk79 h=>?_) (fun w79 h=>?_)<;>conv=>whnf
     ·refine fkS h (fun h=>?_) (fun h=>?_)<;>conv=>whnf
      ·refine lenB tab rfl rfl rfl rfl rfl ?_<;>conv=>whnf
       exact jeS hk79 h wR
      exact jeS hk79 h wR
     refine fkS h (fun h=>?_) (fun h=>?_)<;>conv=>whnf
     ·refine⟨15,?_⟩
      conv=>whnf
      refine fkN h (fun q80 h=>?_) (fun q80 h=>?_)<;>conv=>whnf
      ·refine liS ([⟨v73.2.2.2.2.2.2.2.2,x77.2.1,x77.2.2⟩]:List WorldSaw) WorldSaw.enc rfl rfl ?_<;>conv=>whnf
       refine apS (enc:=WorldSaw.enc) (l1:=v75.2.2.2.2.2.2.1) (l2:=([⟨v73.2.2.2.2.2.2.2.2,x77.2.1,x77.2.2⟩]:List WorldSaw)) h rfl rfl (fun _=>rfl) (fun h=>?_)<;>conv=>whnf
       refine drS (by kernel_rfl) ?_<;>conv=>whnf
       refine fork_t q80 ?_<;>conv=>whnf
       refine jeX hk78 h ?_<;>conv=>whnf
       refine WkF.step (Weak.rekey _ 92 54700 rfl) ?_<;>conv=>whnf
       exact WkF.refl _
      cases h
     refine jeX hk78 h ?_<;>conv=>whnf
     refine WkF.step (Weak.keepS _ [9,10,11,15,47,48,49,54,55,56]) ?_<;>conv=>whnf
     exact WkF.refl _
    exact leS hn75 h wR
   refine ccS (E:=E_KernelState_ListInt_Int) h (kernel_Tick_w (⟨⟨v75.1,v75.2.1⟩,v75.2.2.1,v75.2.2.2.1,v75.2.2.2.2.1,v75.2.2.2.2.2.1⟩)) rfl rfl (fun x81 h=>?_)<;>conv=>whnf
   refine lenB tab rfl rfl rfl rfl rfl ?_<;>conv=>whnf
   refine lpS (fun v82=>⟨[(9,.l (.ptr 10 0)),(10,.l (.bsl 47 1 3)),(18,.l (.ptr 19 0)),(19,.l (.d (.sl (x81.2.1.map (eI .i64))))),(47,.l (.d (.sl (a1.map (eL KernelCmd.enc))))),(48,lI (a1.length:Int)),(49,lI v73.2.2.2.2.2.2.2.2),(103,lI (1:Int)),(104,lI v82.2)],142,[],[(10,[dI v75.1,.d (.sl (v75.2.1.map Window.enc)),.d (.sl (v75.2.2.1.map Face.enc)),.d (.sl (v75.2.2.2.1.map PartState.enc)),.d (.sl (v75.2.2.2.2.1.map PortLine.enc)),dI v75.2.2.2.2.2.1]),(19,[dI x81.1.Table.Frame,.d (.sl (x81.1.Table.Windows.map Window.enc)),.d (.sl (x81.1.Faces.map Face.enc)),.d (.sl (x81.1.Parts.map PartState.enc)),.d (.sl (x81.1.Lines.map PortLine.enc)),dI x81.1.Now]),(47,[.own 54700,.own 54701,.nil])],[(54700,113,3,v75.2.2.2.2.2.2.1.map WorldSaw.enc),(54701,3,1,v82.1.map (eI .i64))]⟩) h wR (fun _ nx82 hn82 v82 h=>?_)<;>conv=>whnf
   refine fkS h (fun h=>?_) (fun h=>?_)<;>conv=>whnf
   ·refine⟨13,?_⟩
    conv=>whnf
    refine fkN h (fun q83 h=>?_) (fun q83 h=>?_)<;>conv=>whnf
    ·refine ixS (enc:=(eI .i64)) h rfl (fun _=>rfl) (fun x84 h=>?_)<;>conv=>whnf
     refine liS ([x84]:List Int) (eI .i64) rfl rfl ?_<;>conv=>whnf
     refine apS (enc:=(eI .i64)) (l1:=v82.1) (l2:=([x84]:List Int)) h rfl rfl (fun _=>rfl) (fun h=>?_)<;>conv=>whnf
     refine drS (by kernel_rfl) ?_<;>conv=>whnf
     refine fork_t q83 ?_<;>conv=>whnf
     refine leX hn82 h ?_<;>conv=>whnf
     refine WkF.step (Weak.rekey _ 120 54701 rfl) ?_<;>conv=>whnf
     exact WkF.refl _
    cases h
   exact leS hn73 h wR
  refine lenB tab rfl rfl rfl rfl rfl ?_<;>conv=>whnf
  refine lpS (fun v85=>⟨[(9,.l (.ptr 10 0)),(10,.l (.bsl 47 1 3)),(126,lI (1:Int)),(127,lI v85.2)],142,[],[(10,[dI v73.1,.d (.sl (v73.2.1.map Window.enc)),.d (.sl (v73.2.2.1.map Face.enc)),.d (.sl (v73.2.2.2.1.map PartState.enc)),.d (.sl (v73.2.2.2.2.1.map PortLine.enc)),dI v73.2.2.2.2.2.1]),(47,[.own 54700,.own 54701,.d (.sl (v85.1.map Entry.enc))])],[(54700,113,3,v73.2.2.2.2.2.2.1.map WorldSaw.enc),(54701,3,1,v73.2.2.2.2.2.2.2.1.map (eI .i64))]⟩) h (Weak.trans (Weak.nilBD _ 47 2 _ rfl rfl) wR) (fun _ nx85 hn85 v85 h=>?_)<;>conv=>whnf
  refine fkS h (fun h=>?_) (fun h=>?_)<;>conv=>whnf
  ·refine ixS (enc:=PartState.enc) h rfl (fun _=>rfl) (fun x86 h=>?_)<;>conv=>whnf
   refine fkN h (fun q87 h=>?_) (fun q87 h=>?_)<;>conv=>whnf
   ·exact leS hn85 h wR
   cases h
  exact rt (E:=E_ListWorldView_Int) h rfl
 refine mkF h (fun hb h=>?_) (fun h=>?_)<;>conv=>whnf
 ·refine mkB tab 2 rfl rfl rfl rfl (of_decide_eq_true hb) (of_decide_eq_true hb) rfl rfl rfl (Nat.le_of_ble_eq_true rfl) (Nat.le_of_ble_eq_true rfl) (Nat.le_of_ble_eq_true rfl) rfl ?_<;>conv=>whnf
  refine lenS a1 (eL KernelCmd.enc) rfl ?_<;>conv=>whnf
  refine lpX (fun v54=>⟨[(9,.l (.ptr 10 0)),(10,.l (.bsl 47 2 3)),(47,.l (.d (.sl (a1.map (eL KernelCmd.enc))))),(48,lI (a1.length:Int)),(49,lI v54.2.2.2.2.2.2.2.2.2.2)],142,[],[(10,[dI v54.1,.d (.sl (v54.2.1.map Window.enc)),.d (.sl (v54.2.2.1.map Face.enc)),.d (.sl (v54.2.2.2.1.map PartState.enc)),.d (.sl (v54.2.2.2.2.1.map PortLine.enc)),dI v54.2.2.2.2.2.1]),(47,[.own 54700,.own 54701,.nil,.own 54703,.own 54704,.nil])],[(54700,113,3,v54.2.2.2.2.2.2.1.map WorldSaw.enc),(54701,3,1,v54.2.2.2.2.2.2.2.1.map (eI .i64)),(54703,113,3,v54.2.2.2.2.2.2.2.2.1.map WorldSaw.enc),(54704,3,1,v54.2.2.2.2.2.2.2.2.2.1.map (eI .i64))]⟩) h ?_ (fun _ nx54 hn54 v54 h=>?_)<;>conv=>whnf
  ·refine WkF.step (Weak.nilBO _ 47 0 54700 113 3 _ rfl rfl) ?_<;>conv=>whnf
   refine WkF.step (Weak.nilBO _ 47 1 54701 3 1 _ rfl rfl) ?_<;>conv=>whnf
   refine WkF.step (Weak.nilBO _ 47 3 54703 113 3 _ rfl rfl) ?_<;>conv=>whnf
   refine WkF.step (Weak.nilBO _ 47 4 54704 3 1 _ rfl rfl) ?_<;>conv=>whnf
   exact WkF.refl _
  refine fkS h (fun h=>?_) (fun h=>?_)<;>conv=>whnf
  ·refine ixS (enc:=(eL KernelCmd.enc)) h rfl (fun _=>rfl) (fun x55 h=>?_)<;>conv=>whnf
   refine lenS x55 KernelCmd.enc rfl ?_<;>conv=>whnf
   refine lpS (fun v56=>⟨[(9,.l (.ptr 10 0)),(10,.l (.bsl 47 2 3)),(11,lI v54.2.2.2.2.2.2.2.2.2.2),(47,.l (.d (.sl (a1.map (eL KernelCmd.enc))))),(48,lI (a1.length:Int)),(49,lI v54.2.2.2.2.2.2.2.2.2.2),(54,.l (.d (.sl (x55.map KernelCmd.enc)))),(55,lI (x55.length:Int)),(56,lI v56.2.2.2.2.2.2.2.2)],142,[],[(10,[dI v56.1,.d (.sl (v56.2.1.map Window.enc)),.d (.sl (v56.2.2.1.map Face.enc)),.d (.sl (v56.2.2.2.1.map PartState.enc)),.d (.sl (v56.2.2.2.2.1.map PortLine.enc)),dI v56.2.2.2.2.2.1]),(47,[.own 54700,.own 54701,.nil,.own 54703,.own 54704,.nil])],[(54700,113,3,v56.2.2.2.2.2.2.1.map WorldSaw.enc),(54701,3,1,v54.2.2.2.2.2.2.2.1.map (eI .i64)),(54703,113,3,v56.2.2.2.2.2.2.2.1.map WorldSaw.enc),(54704,3,1,v54.2.2.2.2.2.2.2.2.2.1.map (eI .i64))]⟩) h wR (fun _ nx56 hn56 v56 h=>?_)<;>conv=>whnf
   refine fkS h (fun h=>?_) (fun h=>?_)<;>conv=>whnf
   ·refine ixS (enc:=KernelCmd.enc) h rfl (fun _=>rfl) (fun x57 h=>?_)<;>conv=>whnf
    refine ccS (E:=E_KernelState_Int_Int) h (kernel_Do_w (⟨⟨v56.1,v56.2.1⟩,v56.2.2.1,v56.2.2.2.1,v56.2.2.2.2.1,v56.2.2.2.2.2.1⟩) x57) rfl rfl (fun x58 h=>?_)<;>conv=>whnf
    refine jnS (fun w59=>⟨[(9,.l (.ptr 10 0)),(10,.l (.bsl 47 2 3)),(11,lI v54.2.2.2.2.2.2.2.2.2.2),(15,.l (.ptr 16 0)),(47,.l (.d (.sl (a1.map (eL KernelCmd.enc))))),(48,lI (a1.length:Int)),(49,lI v54.2.2.2.2.2.2.2.2.2.2),(54,.l (.d (.sl (x55.map KernelCmd.enc)))),(55,lI (x55.length:Int)),(56,lI v56.2.2.2.2.2.2.2.2)],142,[],[(10,[dI v56.1,.d (.sl (v56.2.1.map Window.enc)),.d (.sl (v56.2.2.1.map Face.enc)),.d (.sl (v56.2.2.2.1.map PartState.enc)),.d (.sl (v56.2.2.2.2.1.map PortLine.enc)),dI v56.2.2.2.2.2.1]),(16,[dI x58.1.Table.Frame,.d (.sl (x58.1.Table.Windows.map Window.enc)),.d (.sl (x58.1.Faces.map Face.enc)),.d (.sl (x58.1.Parts.map PartState.enc)),.d (.sl (x58.1.Lines.map PortLine.enc)),dI x58.1.Now]),(47,[.own 54700,.own 54701,.nil,.own 54703,.own 54704,.nil])],[(54700,113,3,w59.1.map WorldSaw.enc),(54701,3,1,v54.2.2.2.2.2.2.2.1.map (eI .i64)),(54703,113,3,w59.2.map WorldSaw.enc),(54704,3,1,v54.2.2.2.2.2.2.2.2.2.1.map (eI .i64))]⟩) h (fun k59 hk59 h=>?_) (fun w59 h=>?_)<;>conv=>whnf
    ·refine jnS (fun w60=>⟨[(9,.l (.ptr 10 0)),(10,.l (.bsl 47 2 3)),(11,lI v54.2.2.2.2.2.2.2.2.2.2),(14,.l (.ptr 15 0)),(15,.l (.ptr 16 0)),(16,lI x58.2.1),(17,lI x58.2.2),(47,.l (.d (.sl (a1.map (eL KernelCmd.enc))))),(48,lI (a1.length:Int)),(49,lI v54.2.2.2.2.2.2.2.2.2.2),(54,.l (.d (.sl (x55.map KernelCmd.enc)))),(55,lI (x55.length:Int)),(56,lI v56.2.2.2.2.2.2.2.2),(76,lB w60)],142,[],[(10,[dI v56.1,.d (.sl (v56.2.1.map Window.enc)),.d (.sl (v56.2.2.1.map Face.enc)),.d (.sl (v56.2.2.2.1.map PartState.enc)),.d (.sl (v56.2.2.2.2.1.map PortLine.enc)),dI v56.2.2.2.2.2.1]),(15,[dI x57.Part,dI x57.Kind,dI x57.I,dI x57.V,dI x57.T.C,dI x57.T.D,dI x57.T.T,.d (.sl (x57.T.Secs.map Sec.enc))]),(16,[dI x58.1.Table.Frame,.d (.sl (x58.1.Table.Windows.map Window.enc)),.d (.sl (x58.1.Faces.map Face.enc)),.d (.sl (x58.1.Parts.map PartState.enc)),.d (.sl (x58.1.Lines.map PortLine.enc)),dI x58.1.Now]),(47,[.own 54700,.own 54701,.nil,.own 54703,.own 54704,.nil])],[(54700,113,3,v56.2.2.2.2.2.2.1.map WorldSaw.enc),(54701,3,1,v54.2.2.2.2.2.2.2.1.map (eI .i64)),(54703,113,3,v56.2.2.2.2.2.2.2.1.map WorldSaw.enc),(54704,3,1,v54.2.2.2.2.2.2.2.2.2.1.map (eI .i64))]⟩) h (fun k60 hk60 h=>?_) (fun w60 h=>?_)<;>conv=>whnf
     ·refine fkS h (fun h=>?_) (fun h=>?_)<;>conv=>whnf
      ·refine lenB tab rfl rfl rfl rfl rfl ?_<;>conv=>whnf
       exact jeS hk60 h wR
      exact jeS hk60 h wR
     refine fkS h (fun h=>?_) (fun h=>?_)<;>conv=>whnf
     ·refine⟨15,?_⟩
      conv=>whnf
      refine fkN h (fun q61 h=>?_) (fun q61 h=>?_)<;>conv=>whnf
      ·refine liS ([⟨v54.2.2.2.2.2.2.2.2.2.2,x58.2.1,x58.2.2⟩]:List WorldSaw) WorldSaw.enc rfl rfl ?_<;>conv=>whnf
       refine apS (enc:=WorldSaw.enc) (l1:=v56.2.2.2.2.2.2.1) (l2:=([⟨v54.2.2.2.2.2.2.2.2.2.2,x58.2.1,x58.2.2⟩]:List WorldSaw)) h rfl rfl (fun _=>rfl) (fun h=>?_)<;>conv=>whnf
       refine drS (by kernel_rfl) ?_<;>conv=>whnf
       refine fork_t q61 ?_<;>conv=>whnf
       refine jeX hk59 h ?_<;>conv=>whnf
       refine WkF.step (Weak.rekey _ 92 54700 rfl) ?_<;>conv=>whnf
       exact WkF.refl _
      refine fkN h (fun q62 h=>?_) (fun q62 h=>?_)<;>conv=>whnf
      ·refine liS ([⟨v54.2.2.2.2.2.2.2.2.2.2,x58.2.1,x58.2.2⟩]:List WorldSaw) WorldSaw.enc rfl rfl ?_<;>conv=>whnf
       refine apS (enc:=WorldSaw.enc) (l1:=v56.2.2.2.2.2.2.2.1) (l2:=([⟨v54.2.2.2.2.2.2.2.2.2.2,x58.2.1,x58.2.2⟩]:List WorldSaw)) h rfl rfl (fun _=>rfl) (fun h=>?_)<;>conv=>whnf
       refine drS (by kernel_rfl) ?_<;>conv=>whnf
       refine fork_f q61 ?_<;>conv=>whnf
       refine fork_t q62 ?_<;>conv=>whnf
       refine jeX hk59 h ?_<;>conv=>whnf
       refine WkF.step (Weak.rekey _ 92 54703 rfl) ?_<;>conv=>whnf
       exact WkF.refl _
      cases h
     refine jeX hk59 h ?_<;>conv=>whnf
     refine WkF.step (Weak.keepS _ [9,10,11,15,47,48,49,54,55,56]) ?_<;>conv=>whnf
     exact WkF.refl _
    exact leS hn56 h wR
   refine ccS (E:=E_KernelState_ListInt_Int) h (kernel_Tick_w (⟨⟨v56.1,v56.2.1⟩,v56.2.2.1,v56.2.2.2.1,v56.2.2.2.2.1,v56.2.2.2.2.2.1⟩)) rfl rfl (fun x63 h=>?_)<;>conv=>whnf
   refine lenB tab rfl rfl rfl rfl rfl ?_<;>conv=>whnf
   refine lpS (fun v64=>⟨[(9,.l (.ptr 10 0)),(10,.l (.bsl 47 2 3)),(18,.l (.ptr 19 0)),(19,.l (.d (.sl (x63.2.1.map (eI .i64))))),(47,.l (.d (.sl (a1.map (eL KernelCmd.enc))))),(48,lI (a1.length:Int)),(49,lI v54.2.2.2.2.2.2.2.2.2.2),(103,lI (2:Int)),(104,lI v64.2.2)],142,[],[(10,[dI v56.1,.d (.sl (v56.2.1.map Window.enc)),.d (.sl (v56.2.2.1.map Face.enc)),.d (.sl (v56.2.2.2.1.map PartState.enc)),.d (.sl (v56.2.2.2.2.1.map PortLine.enc)),dI v56.2.2.2.2.2.1]),(19,[dI x63.1.Table.Frame,.d (.sl (x63.1.Table.Windows.map Window.enc)),.d (.sl (x63.1.Faces.map Face.enc)),.d (.sl (x63.1.Parts.map PartState.enc)),.d (.sl (x63.1.Lines.map PortLine.enc)),dI x63.1.Now]),(47,[.own 54700,.own 54701,.nil,.own 54703,.own 54704,.nil])],[(54700,113,3,v56.2.2.2.2.2.2.1.map WorldSaw.enc),(54701,3,1,v64.1.map (eI .i64)),(54703,113,3,v56.2.2.2.2.2.2.2.1.map WorldSaw.enc),(54704,3,1,v64.2.1.map (eI .i64))]⟩) h wR (fun _ nx64 hn64 v64 h=>?_)<;>conv=>whnf
   refine fkS h (fun h=>?_) (fun h=>?_)<;>conv=>whnf
   ·refine⟨13,?_⟩
    conv=>whnf
    refine fkN h (fun q65 h=>?_) (fun q65 h=>?_)<;>conv=>whnf
    ·refine ixS (enc:=(eI .i64)) h rfl (fun _=>rfl) (fun x68 h=>?_)<;>conv=>whnf
     refine liS ([x68]:List Int) (eI .i64) rfl rfl ?_<;>conv=>whnf
     refine apS (enc:=(eI .i64)) (l1:=v64.1) (l2:=([x68]:List Int)) h rfl rfl (fun _=>rfl) (fun h=>?_)<;>conv=>whnf
     refine drS (by kernel_rfl) ?_<;>conv=>whnf
     refine fork_t q65 ?_<;>conv=>whnf
     refine leX hn64 h ?_<;>conv=>whnf
     refine WkF.step (Weak.rekey _ 120 54701 rfl) ?_<;>conv=>whnf
     exact WkF.refl _
    refine fkN h (fun q66 h=>?_) (fun q66 h=>?_)<;>conv=>whnf
    ·refine ixS (enc:=(eI .i64)) h rfl (fun _=>rfl) (fun x67 h=>?_)<;>conv=>whnf
     refine liS ([x67]:List Int) (eI .i64) rfl rfl ?_<;>conv=>whnf
     refine apS (enc:=(eI .i64)) (l1:=v64.2.1) (l2:=([x67]:List Int)) h rfl rfl (fun _=>rfl) (fun h=>?_)<;>conv=>whnf
     refine drS (by kernel_rfl) ?_<;>conv=>whnf
     refine fork_f q65 ?_<;>conv=>whnf
     refine fork_t q66 ?_<;>conv=>whnf
     refine leX hn64 h ?_<;>conv=>whnf
     refine WkF.step (Weak.rekey _ 120 54704 rfl) ?_<;>conv=>whnf
     exact WkF.refl _
    cases h
   exact leS hn54 h wR
  refine lenB tab rfl rfl rfl rfl rfl ?_<;>conv=>whnf
  refine lpS (fun v69=>⟨[(9,.l (.ptr 10 0)),(10,.l (.bsl 47 2 3)),(126,lI (2:Int)),(127,lI v69.2.2)],142,[],[(10,[dI v54.1,.d (.sl (v54.2.1.map Window.enc)),.d (.sl (v54.2.2.1.map Face.enc)),.d (.sl (v54.2.2.2.1.map PartState.enc)),.d (.sl (v54.2.2.2.2.1.map PortLine.enc)),dI v54.2.2.2.2.2.1]),(47,[.own 54700,.own 54701,.d (.sl (v69.1.map Entry.enc)),.own 54703,.own 54704,.d (.sl (v69.2.1.map Entry.enc))])],[(54700,113,3,v54.2.2.2.2.2.2.1.map WorldSaw.enc),(54701,3,1,v54.2.2.2.2.2.2.2.1.map (eI .i64)),(54703,113,3,v54.2.2.2.2.2.2.2.2.1.map WorldSaw.enc),(54704,3,1,v54.2.2.2.2.2.2.2.2.2.1.map (eI .i64))]⟩) h (Weak.trans (Weak.nilBD _ 47 2 _ rfl rfl) (Weak.trans (Weak.nilBD _ 47 5 _ rfl rfl) wR)) (fun _ nx69 hn69 v69 h=>?_)<;>conv=>whnf
  refine fkS h (fun h=>?_) (fun h=>?_)<;>conv=>whnf
  ·refine ixS (enc:=PartState.enc) h rfl (fun _=>rfl) (fun x70 h=>?_)<;>conv=>whnf
   refine fkN h (fun q71 h=>?_) (fun q71 h=>?_)<;>conv=>whnf
   ·exact leS hn69 h wR
   refine fkN h (fun q72 h=>?_) (fun q72 h=>?_)<;>conv=>whnf
   ·exact leS hn69 h wR
   cases h
  exact rt (E:=E_ListWorldView_Int) h rfl
 refine mkF h (fun hb h=>?_) (fun h=>?_)<;>conv=>whnf
 ·refine mkB tab 3 rfl rfl rfl rfl (of_decide_eq_true hb) (of_decide_eq_true hb) rfl rfl rfl (Nat.le_of_ble_eq_true rfl) (Nat.le_of_ble_eq_true rfl) (Nat.le_of_ble_eq_true rfl) rfl ?_<;>conv=>whnf
  refine lenS a1 (eL KernelCmd.enc) rfl ?_<;>conv=>whnf
  refine lpX (fun v31=>⟨[(9,.l (.ptr 10 0)),(10,.l (.bsl 47 3 3)),(47,.l (.d (.sl (a1.map (eL KernelCmd.enc))))),(48,lI (a1.length:Int)),(49,lI v31.2.2.2.2.2.2.2.2.2.2.2.2)],142,[],[(10,[dI v31.1,.d (.sl (v31.2.1.map Window.enc)),.d (.sl (v31.2.2.1.map Face.enc)),.d (.sl (v31.2.2.2.1.map PartState.enc)),.d (.sl (v31.2.2.2.2.1.map PortLine.enc)),dI v31.2.2.2.2.2.1]),(47,[.own 54700,.own 54701,.nil,.own 54703,.own 54704,.nil,.own 54706,.own 54707,.nil])],[(54700,113,3,v31.2.2.2.2.2.2.1.map WorldSaw.enc),(54701,3,1,v31.2.2.2.2.2.2.2.1.map (eI .i64)),(54703,113,3,v31.2.2.2.2.2.2.2.2.1.map WorldSaw.enc),(54704,3,1,v31.2.2.2.2.2.2.2.2.2.1.map (eI .i64)),(54706,113,3,v31.2.2.2.2.2.2.2.2.2.2.1.map WorldSaw.enc),(54707,3,1,v31.2.2.2.2.2.2.2.2.2.2.2.1.map (eI .i64))]⟩) h ?_ (fun _ nx31 hn31 v31 h=>?_)<;>conv=>whnf
  ·refine WkF.step (Weak.nilBO _ 47 0 54700 113 3 _ rfl rfl) ?_<;>conv=>whnf
   refine WkF.step (Weak.nilBO _ 47 1 54701 3 1 _ rfl rfl) ?_<;>conv=>whnf
   refine WkF.step (Weak.nilBO _ 47 3 54703 113 3 _ rfl rfl) ?_<;>conv=>whnf
   refine WkF.step (Weak.nilBO _ 47 4 54704 3 1 _ rfl rfl) ?_<;>conv=>whnf
   refine WkF.step (Weak.nilBO _ 47 6 54706 113 3 _ rfl rfl) ?_<;>conv=>whnf
   refine WkF.step (Weak.nilBO _ 47 7 54707 3 1 _ rfl rfl) ?_<;>conv=>whnf
   exact WkF.refl _
  refine fkS h (fun h=>?_) (fun h=>?_)<;>conv=>whnf
  ·refine ixS (enc:=(eL KernelCmd.enc)) h rfl (fun _=>rfl) (fun x32 h=>?_)<;>conv=>whnf
   refine lenS x32 KernelCmd.enc rfl ?_<;>conv=>whnf
   refine lpS (fun v33=>⟨[(9,.l (.ptr 10 0)),(10,.l (.bsl 47 3 3)),(11,lI v31.2.2.2.2.2.2.2.2.2.2.2.2),(47,.l (.d (.sl (a1.map (eL KernelCmd.enc))))),(48,lI (a1.length:Int)),(49,lI v31.2.2.2.2.2.2.2.2.2.2.2.2),(54,.l (.d (.sl (x32.map KernelCmd.enc)))),(55,lI (x32.length:Int)),(56,lI v33.2.2.2.2.2.2.2.2.2)],142,[],[(10,[dI v33.1,.d (.sl (v33.2.1.map Window.enc)),.d (.sl (v33.2.2.1.map Face.enc)),.d (.sl (v33.2.2.2.1.map PartState.enc)),.d (.sl (v33.2.2.2.2.1.map PortLine.enc)),dI v33.2.2.2.2.2.1]),(47,[.own 54700,.own 54701,.nil,.own 54703,.own 54704,.nil,.own 54706,.own 54707,.nil])],[(54700,113,3,v33.2.2.2.2.2.2.1.map WorldSaw.enc),(54701,3,1,v31.2.2.2.2.2.2.2.1.map (eI .i64)),(54703,113,3,v33.2.2.2.2.2.2.2.1.map WorldSaw.enc),(54704,3,1,v31.2.2.2.2.2.2.2.2.2.1.map (eI .i64)),(54706,113,3,v33.2.2.2.2.2.2.2.2.1.map WorldSaw.enc),(54707,3,1,v31.2.2.2.2.2.2.2.2.2.2.2.1.map (eI .i64))]⟩) h wR (fun _ nx33 hn33 v33 h=>?_)<;>conv=>whnf
   refine fkS h (fun h=>?_) (fun h=>?_)<;>conv=>whnf
   ·refine ixS (enc:=KernelCmd.enc) h rfl (fun _=>rfl) (fun x34 h=>?_)<;>conv=>whnf
    refine ccS (E:=E_KernelState_Int_Int) h (kernel_Do_w (⟨⟨v33.1,v33.2.1⟩,v33.2.2.1,v33.2.2.2.1,v33.2.2.2.2.1,v33.2.2.2.2.2.1⟩) x34) rfl rfl (fun x35 h=>?_)<;>conv=>whnf
    refine jnS (fun w36=>⟨[(9,.l (.ptr 10 0)),(10,.l (.bsl 47 3 3)),(11,lI v31.2.2.2.2.2.2.2.2.2.2.2.2),(15,.l (.ptr 16 0)),(47,.l (.d (.sl (a1.map (eL KernelCmd.enc))))),(48,lI (a1.length:Int)),(49,lI v31.2.2.2.2.2.2.2.2.2.2.2.2),(54,.l (.d (.sl (x32.map KernelCmd.enc)))),(55,lI (x32.length:Int)),(56,lI v33.2.2.2.2.2.2.2.2.2)],142,[],[(10,[dI v33.1,.d (.sl (v33.2.1.map Window.enc)),.d (.sl (v33.2.2.1.map Face.enc)),.d (.sl (v33.2.2.2.1.map PartState.enc)),.d (.sl (v33.2.2.2.2.1.map PortLine.enc)),dI v33.2.2.2.2.2.1]),(16,[dI x35.1.Table.Frame,.d (.sl (x35.1.Table.Windows.map Window.enc)),.d (.sl (x35.1.Faces.map Face.enc)),.d (.sl (x35.1.Parts.map PartState.enc)),.d (.sl (x35.1.Lines.map PortLine.enc)),dI x35.1.Now]),(47,[.own 54700,.own 54701,.nil,.own 54703,.own 54704,.nil,.own 54706,.own 54707,.nil])],[(54700,113,3,w36.1.map WorldSaw.enc),(54701,3,1,v31.2.2.2.2.2.2.2.1.map (eI .i64)),(54703,113,3,w36.2.1.map WorldSaw.enc),(54704,3,1,v31.2.2.2.2.2.2.2.2.2.1.map (eI .i64)),(54706,113,3,w36.2.2.map WorldSaw.enc),(54707,3,1,v31.2.2.2.2.2.2.2.2.2.2.2.1.map (eI .i64))]⟩) h (fun k36 hk36 h=>?_) (fun w36 h=>?_)<;>conv=>whnf
    ·refine jnS (fun w37=>⟨[(9,.l (.ptr 10 0)),(10,.l (.bsl 47 3 3)),(11,lI v31.2.2.2.2.2.2.2.2.2.2.2.2),(14,.l (.ptr 15 0)),(15,.l (.ptr 16 0)),(16,lI x35.2.1),(17,lI x35.2.2),(47,.l (.d (.sl (a1.map (eL KernelCmd.enc))))),(48,lI (a1.length:Int)),(49,lI v31.2.2.2.2.2.2.2.2.2.2.2.2),(54,.l (.d (.sl (x32.map KernelCmd.enc)))),(55,lI (x32.length:Int)),(56,lI v33.2.2.2.2.2.2.2.2.2),(76,lB w37)],142,[],[(10,[dI v33.1,.d (.sl (v33.2.1.map Window.enc)),.d (.sl (v33.2.2.1.map Face.enc)),.d (.sl (v33.2.2.2.1.map PartState.enc)),.d (.sl (v33.2.2.2.2.1.map PortLine.enc)),dI v33.2.2.2.2.2.1]),(15,[dI x34.Part,dI x34.Kind,dI x34.I,dI x34.V,dI x34.T.C,dI x34.T.D,dI x34.T.T,.d (.sl (x34.T.Secs.map Sec.enc))]),(16,[dI x35.1.Table.Frame,.d (.sl (x35.1.Table.Windows.map Window.enc)),.d (.sl (x35.1.Faces.map Face.enc)),.d (.sl (x35.1.Parts.map PartState.enc)),.d (.sl (x35.1.Lines.map PortLine.enc)),dI x35.1.Now]),(47,[.own 54700,.own 54701,.nil,.own 54703,.own 54704,.nil,.own 54706,.own 54707,.nil])],[(54700,113,3,v33.2.2.2.2.2.2.1.map WorldSaw.enc),(54701,3,1,v31.2.2.2.2.2.2.2.1.map (eI .i64)),(54703,113,3,v33.2.2.2.2.2.2.2.1.map WorldSaw.enc),(54704,3,1,v31.2.2.2.2.2.2.2.2.2.1.map (eI .i64)),(54706,113,3,v33.2.2.2.2.2.2.2.2.1.map WorldSaw.enc),(54707,3,1,v31.2.2.2.2.2.2.2.2.2.2.2.1.map (eI .i64))]⟩) h (fun k37 hk37 h=>?_) (fun w37 h=>?_)<;>conv=>whnf
     ·refine fkS h (fun h=>?_) (fun h=>?_)<;>conv=>whnf
      ·refine lenB tab rfl rfl rfl rfl rfl ?_<;>conv=>whnf
       exact jeS hk37 h wR
      exact jeS hk37 h wR
     refine fkS h (fun h=>?_) (fun h=>?_)<;>conv=>whnf
     ·refine⟨15,?_⟩
      conv=>whnf
      refine fkN h (fun q38 h=>?_) (fun q38 h=>?_)<;>conv=>whnf
      ·refine liS ([⟨v31.2.2.2.2.2.2.2.2.2.2.2.2,x35.2.1,x35.2.2⟩]:List WorldSaw) WorldSaw.enc rfl rfl ?_<;>conv=>whnf
       refine apS (enc:=WorldSaw.enc) (l1:=v33.2.2.2.2.2.2.1) (l2:=([⟨v31.2.2.2.2.2.2.2.2.2.2.2.2,x35.2.1,x35.2.2⟩]:List WorldSaw)) h rfl rfl (fun _=>rfl) (fun h=>?_)<;>conv=>whnf
       refine drS (by kernel_rfl) ?_<;>conv=>whnf
       refine fork_t q38 ?_<;>conv=>whnf
       refine jeX hk36 h ?_<;>conv=>whnf
       refine WkF.step (Weak.rekey _ 92 54700 rfl) ?_<;>conv=>whnf
       exact WkF.refl _
      refine fkN h (fun q39 h=>?_) (fun q39 h=>?_)<;>conv=>whnf
      ·refine liS ([⟨v31.2.2.2.2.2.2.2.2.2.2.2.2,x35.2.1,x35.2.2⟩]:List WorldSaw) WorldSaw.enc rfl rfl ?_<;>conv=>whnf
       refine apS (enc:=WorldSaw.enc) (l1:=v33.2.2.2.2.2.2.2.1) (l2:=([⟨v31.2.2.2.2.2.2.2.2.2.2.2.2,x35.2.1,x35.2.2⟩]:List WorldSaw)) h rfl rfl (fun _=>rfl) (fun h=>?_)<;>conv=>whnf
       refine drS (by kernel_rfl) ?_<;>conv=>whnf
       refine fork_f q38 ?_<;>conv=>whnf
       refine fork_t q39 ?_<;>conv=>whnf
       refine jeX hk36 h ?_<;>conv=>whnf
       refine WkF.step (Weak.rekey _ 92 54703 rfl) ?_<;>conv=>whnf
       exact WkF.refl _
      refine fkN h (fun q40 h=>?_) (fun q40 h=>?_)<;>conv=>whnf
      ·refine liS ([⟨v31.2.2.2.2.2.2.2.2.2.2.2.2,x35.2.1,x35.2.2⟩]:List WorldSaw) WorldSaw.enc rfl rfl ?_<;>conv=>whnf
       refine apS (enc:=WorldSaw.enc) (l1:=v33.2.2.2.2.2.2.2.2.1) (l2:=([⟨v31.2.2.2.2.2.2.2.2.2.2.2.2,x35.2.1,x35.2.2⟩]:List WorldSaw)) h rfl rfl (fun _=>rfl) (fun h=>?_)<;>conv=>whnf
       refine drS (by kernel_rfl) ?_<;>conv=>whnf
       refine fork_f q38 ?_<;>conv=>whnf
       refine fork_f q39 ?_<;>conv=>whnf
       refine fork_t q40 ?_<;>conv=>whnf
       refine jeX hk36 h ?_<;>conv=>whnf
       refine WkF.step (Weak.rekey _ 92 54706 rfl) ?_<;>conv=>whnf
       exact WkF.refl _
      cases h
     refine jeX hk36 h ?_<;>conv=>whnf
     refine WkF.step (Weak.keepS _ [9,10,11,15,47,48,49,54,55,56]) ?_<;>conv=>whnf
     exact WkF.refl _
    exact leS hn33 h wR
   refine ccS (E:=E_KernelState_ListInt_Int) h (kernel_Tick_w (⟨⟨v33.1,v33.2.1⟩,v33.2.2.1,v33.2.2.2.1,v33.2.2.2.2.1,v33.2.2.2.2.2.1⟩)) rfl rfl (fun x41 h=>?_)<;>conv=>whnf
   refine lenB tab rfl rfl rfl rfl rfl ?_<;>conv=>whnf
   refine lpS (fun v42=>⟨[(9,.l (.ptr 10 0)),(10,.l (.bsl 47 3 3)),(18,.l (.ptr 19 0)),(19,.l (.d (.sl (x41.2.1.map (eI .i64))))),(47,.l (.d (.sl (a1.map (eL KernelCmd.enc))))),(48,lI (a1.length:Int)),(49,lI v31.2.2.2.2.2.2.2.2.2.2.2.2),(103,lI (3:Int)),(104,lI v42.2.2.2)],142,[],[(10,[dI v33.1,.d (.sl (v33.2.1.map Window.enc)),.d (.sl (v33.2.2.1.map Face.enc)),.d (.sl (v33.2.2.2.1.map PartState.enc)),.d (.sl (v33.2.2.2.2.1.map PortLine.enc)),dI v33.2.2.2.2.2.1]),(19,[dI x41.1.Table.Frame,.d (.sl (x41.1.Table.Windows.map Window.enc)),.d (.sl (x41.1.Faces.map Face.enc)),.d (.sl (x41.1.Parts.map PartState.enc)),.d (.sl (x41.1.Lines.map PortLine.enc)),dI x41.1.Now]),(47,[.own 54700,.own 54701,.nil,.own 54703,.own 54704,.nil,.own 54706,.own 54707,.nil])],[(54700,113,3,v33.2.2.2.2.2.2.1.map WorldSaw.enc),(54701,3,1,v42.1.map (eI .i64)),(54703,113,3,v33.2.2.2.2.2.2.2.1.map WorldSaw.enc),(54704,3,1,v42.2.1.map (eI .i64)),(54706,113,3,v33.2.2.2.2.2.2.2.2.1.map WorldSaw.enc),(54707,3,1,v42.2.2.1.map (eI .i64))]⟩) h wR (fun _ nx42 hn42 v42 h=>?_)<;>conv=>whnf
   refine fkS h (fun h=>?_) (fun h=>?_)<;>conv=>whnf
   ·refine⟨13,?_⟩
    conv=>whnf
    refine fkN h (fun q43 h=>?_) (fun q43 h=>?_)<;>conv=>whnf
    ·refine ixS (enc:=(eI .i64)) h rfl (fun _=>rfl) (fun x48 h=>?_)<;>conv=>whnf
     refine liS ([x48]:List Int) (eI .i64) rfl rfl ?_<;>conv=>whnf
     refine apS (enc:=(eI .i64)) (l1:=v42.1) (l2:=([x48]:List Int)) h rfl rfl (fun _=>rfl) (fun h=>?_)<;>conv=>whnf
     refine drS (by kernel_rfl) ?_<;>conv=>whnf
     refine fork_t q43 ?_<;>conv=>whnf
     refine leX hn42 h ?_<;>conv=>whnf
     refine WkF.step (Weak.rekey _ 120 54701 rfl) ?_<;>conv=>whnf
     exact WkF.refl _
    refine fkN h (fun q44 h=>?_) (fun q44 h=>?_)<;>conv=>whnf
    ·refine ixS (enc:=(eI .i64)) h rfl (fun _=>rfl) (fun x47 h=>?_)<;>conv=>whnf
     refine liS ([x47]:List Int) (eI .i64) rfl rfl ?_<;>conv=>whnf
     refine apS (enc:=(eI .i64)) (l1:=v42.2.1) (l2:=([x47]:List Int)) h rfl rfl (fun _=>rfl) (fun h=>?_)<;>conv=>whnf
     refine drS (by kernel_rfl) ?_<;>conv=>whnf
     refine fork_f q43 ?_<;>conv=>whnf
     refine fork_t q44 ?_<;>conv=>whnf
     refine leX hn42 h ?_<;>conv=>whnf
     refine WkF.step (Weak.rekey _ 120 54704 rfl) ?_<;>conv=>whnf
     exact WkF.refl _
    refine fkN h (fun q45 h=>?_) (fun q45 h=>?_)<;>conv=>whnf
    ·refine ixS (enc:=(eI .i64)) h rfl (fun _=>rfl) (fun x46 h=>?_)<;>conv=>whnf
     refine liS ([x46]:List Int) (eI .i64) rfl rfl ?_<;>conv=>whnf
     refine apS (enc:=(eI .i64)) (l1:=v42.2.2.1) (l2:=([x46]:List Int)) h rfl rfl (fun _=>rfl) (fun h=>?_)<;>conv=>whnf
     refine drS (by kernel_rfl) ?_<;>conv=>whnf
     refine fork_f q43 ?_<;>conv=>whnf
     refine fork_f q44 ?_<;>conv=>whnf
     refine fork_t q45 ?_<;>conv=>whnf
     refine leX hn42 h ?_<;>conv=>whnf
     refine WkF.step (Weak.rekey _ 120 54707 rfl) ?_<;>conv=>whnf
     exact WkF.refl _
    cases h
   exact leS hn31 h wR
  refine lenB tab rfl rfl rfl rfl rfl ?_<;>conv=>whnf
  refine lpX (fun v49=>⟨[(9,.l (.ptr 10 0)),(10,.l (.bsl 47 3 3)),(126,lI (3:Int)),(127,lI v49.2.2.2)],142,[],[(10,[dI v31.1,.d (.sl (v31.2.1.map Window.enc)),.d (.sl (v31.2.2.1.map Face.enc)),.d (.sl (v31.2.2.2.1.map PartState.enc)),.d (.sl (v31.2.2.2.2.1.map PortLine.enc)),dI v31.2.2.2.2.2.1]),(47,[.own 54700,.own 54701,.d (.sl (v49.1.map Entry.enc)),.own 54703,.own 54704,.d (.sl (v49.2.1.map Entry.enc)),.own 54706,.own 54707,.d (.sl (v49.2.2.1.map Entry.enc))])],[(54700,113,3,v31.2.2.2.2.2.2.1.map WorldSaw.enc),(54701,3,1,v31.2.2.2.2.2.2.2.1.map (eI .i64)),(54703,113,3,v31.2.2.2.2.2.2.2.2.1.map WorldSaw.enc),(54704,3,1,v31.2.2.2.2.2.2.2.2.2.1.map (eI .i64)),(54706,113,3,v31.2.2.2.2.2.2.2.2.2.2.1.map WorldSaw.enc),(54707,3,1,v31.2.2.2.2.2.2.2.2.2.2.2.1.map (eI .i64))]⟩) h ?_ (fun _ nx49 hn49 v49 h=>?_)<;>conv=>whnf
  ·refine WkF.step (Weak.nilBD _ 47 2 _ rfl rfl) ?_<;>conv=>whnf
   refine WkF.step (Weak.nilBD _ 47 5 _ rfl rfl) ?_<;>conv=>whnf
   refine WkF.step (Weak.nilBD _ 47 8 _ rfl rfl) ?_<;>conv=>whnf
   exact WkF.refl _
  refine fkS h (fun h=>?_) (fun h=>?_)<;>conv=>whnf
  ·refine ixS (enc:=PartState.enc) h rfl (fun _=>rfl) (fun x50 h=>?_)<;>conv=>whnf
   refine fkN h (fun q51 h=>?_) (fun q51 h=>?_)<;>conv=>whnf
   ·exact leS hn49 h wR
   refine fkN h (fun q52 h=>?_) (fun q52 h=>?_)<;>conv=>whnf
   ·exact leS hn49 h wR
   refine fkN h (fun q53 h=>?_) (fun q53 h=>?_)<;>conv=>whnf
   ·exact leS hn49 h wR
   cases h
  exact rt (E:=E_ListWorldView_Int) h rfl
 refine mkF h (fun hb h=>?_) (fun h=>?_)<;>conv=>whnf
 ·refine mkB tab 4 rfl rfl rfl rfl (of_decide_eq_true hb) (of_decide_eq_true hb) rfl rfl rfl (Nat.le_of_ble_eq_true rfl) (Nat.le_of_ble_eq_true rfl) (Nat.le_of_ble_eq_true rfl) rfl ?_<;>conv=>whnf
  refine lenS a1 (eL KernelCmd.enc) rfl ?_<;>conv=>whnf
  refine lpX (fun v4=>⟨[(9,.l (.ptr 10 0)),(10,.l (.bsl 47 4 3)),(47,.l (.d (.sl (a1.map (eL KernelCmd.enc))))),(48,lI (a1.length:Int)),(49,lI v4.2.2.2.2.2.2.2.2.2.2.2.2.2.2)],142,[],[(10,[dI v4.1,.d (.sl (v4.2.1.map Window.enc)),.d (.sl (v4.2.2.1.map Face.enc)),.d (.sl (v4.2.2.2.1.map PartState.enc)),.d (.sl (v4.2.2.2.2.1.map PortLine.enc)),dI v4.2.2.2.2.2.1]),(47,[.own 54700,.own 54701,.nil,.own 54703,.own 54704,.nil,.own 54706,.own 54707,.nil,.own 54709,.own 54710,.nil])],[(54700,113,3,v4.2.2.2.2.2.2.1.map WorldSaw.enc),(54701,3,1,v4.2.2.2.2.2.2.2.1.map (eI .i64)),(54703,113,3,v4.2.2.2.2.2.2.2.2.1.map WorldSaw.enc),(54704,3,1,v4.2.2.2.2.2.2.2.2.2.1.map (eI .i64)),(54706,113,3,v4.2.2.2.2.2.2.2.2.2.2.1.map WorldSaw.enc),(54707,3,1,v4.2.2.2.2.2.2.2.2.2.2.2.1.map (eI .i64)),(54709,113,3,v4.2.2.2.2.2.2.2.2.2.2.2.2.1.map WorldSaw.enc),(54710,3,1,v4.2.2.2.2.2.2.2.2.2.2.2.2.2.1.map (eI .i64))]⟩) h ?_ (fun _ nx4 hn4 v4 h=>?_)<;>conv=>whnf
  ·refine WkF.step (Weak.nilBO _ 47 0 54700 113 3 _ rfl rfl) ?_<;>conv=>whnf
   refine WkF.step (Weak.nilBO _ 47 1 54701 3 1 _ rfl rfl) ?_<;>conv=>whnf
   refine WkF.step (Weak.nilBO _ 47 3 54703 113 3 _ rfl rfl) ?_<;>conv=>whnf
   refine WkF.step (Weak.nilBO _ 47 4 54704 3 1 _ rfl rfl) ?_<;>conv=>whnf
   refine WkF.step (Weak.nilBO _ 47 6 54706 113 3 _ rfl rfl) ?_<;>conv=>whnf
   refine WkF.step (Weak.nilBO _ 47 7 54707 3 1 _ rfl rfl) ?_<;>conv=>whnf
   refine WkF.step (Weak.nilBO _ 47 9 54709 113 3 _ rfl rfl) ?_<;>conv=>whnf
   refine WkF.step (Weak.nilBO _ 47 10 54710 3 1 _ rfl rfl) ?_<;>conv=>whnf
   exact WkF.refl _
  refine fkS h (fun h=>?_) (fun h=>?_)<;>conv=>whnf
  ·refine ixS (enc:=(eL KernelCmd.enc)) h rfl (fun _=>rfl) (fun x5 h=>?_)<;>conv=>whnf
   refine lenS x5 KernelCmd.enc rfl ?_<;>conv=>whnf
   refine lpS (fun v6=>⟨[(9,.l (.ptr 10 0)),(10,.l (.bsl 47 4 3)),(11,lI v4.2.2.2.2.2.2.2.2.2.2.2.2.2.2),(47,.l (.d (.sl (a1.map (eL KernelCmd.enc))))),(48,lI (a1.length:Int)),(49,lI v4.2.2.2.2.2.2.2.2.2.2.2.2.2.2),(54,.l (.d (.sl (x5.map KernelCmd.enc)))),(55,lI (x5.length:Int)),(56,lI v6.2.2.2.2.2.2.2.2.2.2)],142,[],[(10,[dI v6.1,.d (.sl (v6.2.1.map Window.enc)),.d (.sl (v6.2.2.1.map Face.enc)),.d (.sl (v6.2.2.2.1.map PartState.enc)),.d (.sl (v6.2.2.2.2.1.map PortLine.enc)),dI v6.2.2.2.2.2.1]),(47,[.own 54700,.own 54701,.nil,.own 54703,.own 54704,.nil,.own 54706,.own 54707,.nil,.own 54709,.own 54710,.nil])],[(54700,113,3,v6.2.2.2.2.2.2.1.map WorldSaw.enc),(54701,3,1,v4.2.2.2.2.2.2.2.1.map (eI .i64)),(54703,113,3,v6.2.2.2.2.2.2.2.1.map WorldSaw.enc),(54704,3,1,v4.2.2.2.2.2.2.2.2.2.1.map (eI .i64)),(54706,113,3,v6.2.2.2.2.2.2.2.2.1.map WorldSaw.enc),(54707,3,1,v4.2.2.2.2.2.2.2.2.2.2.2.1.map (eI .i64)),(54709,113,3,v6.2.2.2.2.2.2.2.2.2.1.map WorldSaw.enc),(54710,3,1,v4.2.2.2.2.2.2.2.2.2.2.2.2.2.1.map (eI .i64))]⟩) h wR (fun _ nx6 hn6 v6 h=>?_)<;>conv=>whnf
   refine fkS h (fun h=>?_) (fun h=>?_)<;>conv=>whnf
   ·refine ixS (enc:=KernelCmd.enc) h rfl (fun _=>rfl) (fun x7 h=>?_)<;>conv=>whnf
    refine ccS (E:=E_KernelState_Int_Int) h (kernel_Do_w (⟨⟨v6.1,v6.2.1⟩,v6.2.2.1,v6.2.2.2.1,v6.2.2.2.2.1,v6.2.2.2.2.2.1⟩) x7) rfl rfl (fun x8 h=>?_)<;>conv=>whnf
    refine jnS (fun w9=>⟨[(9,.l (.ptr 10 0)),(10,.l (.bsl 47 4 3)),(11,lI v4.2.2.2.2.2.2.2.2.2.2.2.2.2.2),(15,.l (.ptr 16 0)),(47,.l (.d (.sl (a1.map (eL KernelCmd.enc))))),(48,lI (a1.length:Int)),(49,lI v4.2.2.2.2.2.2.2.2.2.2.2.2.2.2),(54,.l (.d (.sl (x5.map KernelCmd.enc)))),(55,lI (x5.length:Int)),(56,lI v6.2.2.2.2.2.2.2.2.2.2)],142,[],[(10,[dI v6.1,.d (.sl (v6.2.1.map Window.enc)),.d (.sl (v6.2.2.1.map Face.enc)),.d (.sl (v6.2.2.2.1.map PartState.enc)),.d (.sl (v6.2.2.2.2.1.map PortLine.enc)),dI v6.2.2.2.2.2.1]),(16,[dI x8.1.Table.Frame,.d (.sl (x8.1.Table.Windows.map Window.enc)),.d (.sl (x8.1.Faces.map Face.enc)),.d (.sl (x8.1.Parts.map PartState.enc)),.d (.sl (x8.1.Lines.map PortLine.enc)),dI x8.1.Now]),(47,[.own 54700,.own 54701,.nil,.own 54703,.own 54704,.nil,.own 54706,.own 54707,.nil,.own 54709,.own 54710,.nil])],[(54700,113,3,w9.1.map WorldSaw.enc),(54701,3,1,v4.2.2.2.2.2.2.2.1.map (eI .i64)),(54703,113,3,w9.2.1.map WorldSaw.enc),(54704,3,1,v4.2.2.2.2.2.2.2.2.2.1.map (eI .i64)),(54706,113,3,w9.2.2.1.map WorldSaw.enc),(54707,3,1,v4.2.2.2.2.2.2.2.2.2.2.2.1.map (eI .i64)),(54709,113,3,w9.2.2.2.map WorldSaw.enc),(54710,3,1,v4.2.2.2.2.2.2.2.2.2.2.2.2.2.1.map (eI .i64))]⟩) h (fun k9 hk9 h=>?_) (fun w9 h=>?_)<;>conv=>whnf
    ·refine jnS (fun w10=>⟨[(9,.l (.ptr 10 0)),(10,.l (.bsl 47 4 3)),(11,lI v4.2.2.2.2.2.2.2.2.2.2.2.2.2.2),(14,.l (.ptr 15 0)),(15,.l (.ptr 16 0)),(16,lI x8.2.1),(17,lI x8.2.2),(47,.l (.d (.sl (a1.map (eL KernelCmd.enc))))),(48,lI (a1.length:Int)),(49,lI v4.2.2.2.2.2.2.2.2.2.2.2.2.2.2),(54,.l (.d (.sl (x5.map KernelCmd.enc)))),(55,lI (x5.length:Int)),(56,lI v6.2.2.2.2.2.2.2.2.2.2),(76,lB w10)],142,[],[(10,[dI v6.1,.d (.sl (v6.2.1.map Window.enc)),.d (.sl (v6.2.2.1.map Face.enc)),.d (.sl (v6.2.2.2.1.map PartState.enc)),.d (.sl (v6.2.2.2.2.1.map PortLine.enc)),dI v6.2.2.2.2.2.1]),(15,[dI x7.Part,dI x7.Kind,dI x7.I,dI x7.V,dI x7.T.C,dI x7.T.D,dI x7.T.T,.d (.sl (x7.T.Secs.map Sec.enc))]),(16,[dI x8.1.Table.Frame,.d (.sl (x8.1.Table.Windows.map Window.enc)),.d (.sl (x8.1.Faces.map Face.enc)),.d (.sl (x8.1.Parts.map PartState.enc)),.d (.sl (x8.1.Lines.map PortLine.enc)),dI x8.1.Now]),(47,[.own 54700,.own 54701,.nil,.own 54703,.own 54704,.nil,.own 54706,.own 54707,.nil,.own 54709,.own 54710,.nil])],[(54700,113,3,v6.2.2.2.2.2.2.1.map WorldSaw.enc),(54701,3,1,v4.2.2.2.2.2.2.2.1.map (eI .i64)),(54703,113,3,v6.2.2.2.2.2.2.2.1.map WorldSaw.enc),(54704,3,1,v4.2.2.2.2.2.2.2.2.2.1.map (eI .i64)),(54706,113,3,v6.2.2.2.2.2.2.2.2.1.map WorldSaw.enc),(54707,3,1,v4.2.2.2.2.2.2.2.2.2.2.2.1.map (eI .i64)),(54709,113,3,v6.2.2.2.2.2.2.2.2.2.1.map WorldSaw.enc),(54710,3,1,v4.2.2.2.2.2.2.2.2.2.2.2.2.2.1.map (eI .i64))]⟩) h (fun k10 hk10 h=>?_) (fun w10 h=>?_)<;>conv=>whnf
     ·refine fkS h (fun h=>?_) (fun h=>?_)<;>conv=>whnf
      ·refine lenB tab rfl rfl rfl rfl rfl ?_<;>conv=>whnf
       exact jeS hk10 h wR
      exact jeS hk10 h wR
     refine fkS h (fun h=>?_) (fun h=>?_)<;>conv=>whnf
     ·refine⟨15,?_⟩
      conv=>whnf
      refine fkN h (fun q11 h=>?_) (fun q11 h=>?_)<;>conv=>whnf
      ·refine liS ([⟨v4.2.2.2.2.2.2.2.2.2.2.2.2.2.2,x8.2.1,x8.2.2⟩]:List WorldSaw) WorldSaw.enc rfl rfl ?_<;>conv=>whnf
       refine apS (enc:=WorldSaw.enc) (l1:=v6.2.2.2.2.2.2.1) (l2:=([⟨v4.2.2.2.2.2.2.2.2.2.2.2.2.2.2,x8.2.1,x8.2.2⟩]:List WorldSaw)) h rfl rfl (fun _=>rfl) (fun h=>?_)<;>conv=>whnf
       refine drS (by kernel_rfl) ?_<;>conv=>whnf
       refine fork_t q11 ?_<;>conv=>whnf
       refine jeX hk9 h ?_<;>conv=>whnf
       refine WkF.step (Weak.rekey _ 92 54700 rfl) ?_<;>conv=>whnf
       exact WkF.refl _
      refine fkN h (fun q12 h=>?_) (fun q12 h=>?_)<;>conv=>whnf
      ·refine liS ([⟨v4.2.2.2.2.2.2.2.2.2.2.2.2.2.2,x8.2.1,x8.2.2⟩]:List WorldSaw) WorldSaw.enc rfl rfl ?_<;>conv=>whnf
       refine apS (enc:=WorldSaw.enc) (l1:=v6.2.2.2.2.2.2.2.1) (l2:=([⟨v4.2.2.2.2.2.2.2.2.2.2.2.2.2.2,x8.2.1,x8.2.2⟩]:List WorldSaw)) h rfl rfl (fun _=>rfl) (fun h=>?_)<;>conv=>whnf
       refine drS (by kernel_rfl) ?_<;>conv=>whnf
       refine fork_f q11 ?_<;>conv=>whnf
       refine fork_t q12 ?_<;>conv=>whnf
       refine jeX hk9 h ?_<;>conv=>whnf
       refine WkF.step (Weak.rekey _ 92 54703 rfl) ?_<;>conv=>whnf
       exact WkF.refl _
      refine fkN h (fun q13 h=>?_) (fun q13 h=>?_)<;>conv=>whnf
      ·refine liS ([⟨v4.2.2.2.2.2.2.2.2.2.2.2.2.2.2,x8.2.1,x8.2.2⟩]:List WorldSaw) WorldSaw.enc rfl rfl ?_<;>conv=>whnf
       refine apS (enc:=WorldSaw.enc) (l1:=v6.2.2.2.2.2.2.2.2.1) (l2:=([⟨v4.2.2.2.2.2.2.2.2.2.2.2.2.2.2,x8.2.1,x8.2.2⟩]:List WorldSaw)) h rfl rfl (fun _=>rfl) (fun h=>?_)<;>conv=>whnf
       refine drS (by kernel_rfl) ?_<;>conv=>whnf
       refine fork_f q11 ?_<;>conv=>whnf
       refine fork_f q12 ?_<;>conv=>whnf
       refine fork_t q13 ?_<;>conv=>whnf
       refine jeX hk9 h ?_<;>conv=>whnf
       refine WkF.step (Weak.rekey _ 92 54706 rfl) ?_<;>conv=>whnf
       exact WkF.refl _
      refine fkN h (fun q14 h=>?_) (fun q14 h=>?_)<;>conv=>whnf
      ·refine liS ([⟨v4.2.2.2.2.2.2.2.2.2.2.2.2.2.2,x8.2.1,x8.2.2⟩]:List WorldSaw) WorldSaw.enc rfl rfl ?_<;>conv=>whnf
       refine apS (enc:=WorldSaw.enc) (l1:=v6.2.2.2.2.2.2.2.2.2.1) (l2:=([⟨v4.2.2.2.2.2.2.2.2.2.2.2.2.2.2,x8.2.1,x8.2.2⟩]:List WorldSaw)) h rfl rfl (fun _=>rfl) (fun h=>?_)<;>conv=>whnf
       refine drS (by kernel_rfl) ?_<;>conv=>whnf
       refine fork_f q11 ?_<;>conv=>whnf
       refine fork_f q12 ?_<;>conv=>whnf
       refine fork_f q13 ?_<;>conv=>whnf
       refine fork_t q14 ?_<;>conv=>whnf
       refine jeX hk9 h ?_<;>conv=>whnf
       refine WkF.step (Weak.rekey _ 92 54709 rfl) ?_<;>conv=>whnf
       exact WkF.refl _
      cases h
     refine jeX hk9 h ?_<;>conv=>whnf
     refine WkF.step (Weak.keepS _ [9,10,11,15,47,48,49,54,55,56]) ?_<;>conv=>whnf
     exact WkF.refl _
    exact leS hn6 h wR
   refine ccS (E:=E_KernelState_ListInt_Int) h (kernel_Tick_w (⟨⟨v6.1,v6.2.1⟩,v6.2.2.1,v6.2.2.2.1,v6.2.2.2.2.1,v6.2.2.2.2.2.1⟩)) rfl rfl (fun x15 h=>?_)<;>conv=>whnf
   refine lenB tab rfl rfl rfl rfl rfl ?_<;>conv=>whnf
   refine lpS (fun v16=>⟨[(9,.l (.ptr 10 0)),(10,.l (.bsl 47 4 3)),(18,.l (.ptr 19 0)),(19,.l (.d (.sl (x15.2.1.map (eI .i64))))),(47,.l (.d (.sl (a1.map (eL KernelCmd.enc))))),(48,lI (a1.length:Int)),(49,lI v4.2.2.2.2.2.2.2.2.2.2.2.2.2.2),(103,lI (4:Int)),(104,lI v16.2.2.2.2)],142,[],[(10,[dI v6.1,.d (.sl (v6.2.1.map Window.enc)),.d (.sl (v6.2.2.1.map Face.enc)),.d (.sl (v6.2.2.2.1.map PartState.enc)),.d (.sl (v6.2.2.2.2.1.map PortLine.enc)),dI v6.2.2.2.2.2.1]),(19,[dI x15.1.Table.Frame,.d (.sl (x15.1.Table.Windows.map Window.enc)),.d (.sl (x15.1.Faces.map Face.enc)),.d (.sl (x15.1.Parts.map PartState.enc)),.d (.sl (x15.1.Lines.map PortLine.enc)),dI x15.1.Now]),(47,[.own 54700,.own 54701,.nil,.own 54703,.own 54704,.nil,.own 54706,.own 54707,.nil,.own 54709,.own 54710,.nil])],[(54700,113,3,v6.2.2.2.2.2.2.1.map WorldSaw.enc),(54701,3,1,v16.1.map (eI .i64)),(54703,113,3,v6.2.2.2.2.2.2.2.1.map WorldSaw.enc),(54704,3,1,v16.2.1.map (eI .i64)),(54706,113,3,v6.2.2.2.2.2.2.2.2.1.map WorldSaw.enc),(54707,3,1,v16.2.2.1.map (eI .i64)),(54709,113,3,v6.2.2.2.2.2.2.2.2.2.1.map WorldSaw.enc),(54710,3,1,v16.2.2.2.1.map (eI .i64))]⟩) h wR (fun _ nx16 hn16 v16 h=>?_)<;>conv=>whnf
   refine fkS h (fun h=>?_) (fun h=>?_)<;>conv=>whnf
   ·refine⟨13,?_⟩
    conv=>whnf
    refine fkN h (fun q17 h=>?_) (fun q17 h=>?_)<;>conv=>whnf
    ·refine ixS (enc:=(eI .i64)) h rfl (fun _=>rfl) (fun x24 h=>?_)<;>conv=>whnf
     refine liS ([x24]:List Int) (eI .i64) rfl rfl ?_<;>conv=>whnf
     refine apS (enc:=(eI .i64)) (l1:=v16.1) (l2:=([x24]:List Int)) h rfl rfl (fun _=>rfl) (fun h=>?_)<;>conv=>whnf
     refine drS (by kernel_rfl) ?_<;>conv=>whnf
     refine fork_t q17 ?_<;>conv=>whnf
     refine leX hn16 h ?_<;>conv=>whnf
     refine WkF.step (Weak.rekey _ 120 54701 rfl) ?_<;>conv=>whnf
     exact WkF.refl _
    refine fkN h (fun q18 h=>?_) (fun q18 h=>?_)<;>conv=>whnf
    ·refine ixS (enc:=(eI .i64)) h rfl (fun _=>rfl) (fun x23 h=>?_)<;>conv=>whnf
     refine liS ([x23]:List Int) (eI .i64) rfl rfl ?_<;>conv=>whnf
     refine apS (enc:=(eI .i64)) (l1:=v16.2.1) (l2:=([x23]:List Int)) h rfl rfl (fun _=>rfl) (fun h=>?_)<;>conv=>whnf
     refine drS (by kernel_rfl) ?_<;>conv=>whnf
     refine fork_f q17 ?_<;>conv=>whnf
     refine fork_t q18 ?_<;>conv=>whnf
     refine leX hn16 h ?_<;>conv=>whnf
     refine WkF.step (Weak.rekey _ 120 54704 rfl) ?_<;>conv=>whnf
     exact WkF.refl _
    refine fkN h (fun q19 h=>?_) (fun q19 h=>?_)<;>conv=>whnf
    ·refine ixS (enc:=(eI .i64)) h rfl (fun _=>rfl) (fun x22 h=>?_)<;>conv=>whnf
     refine liS ([x22]:List Int) (eI .i64) rfl rfl ?_<;>conv=>whnf
     refine apS (enc:=(eI .i64)) (l1:=v16.2.2.1) (l2:=([x22]:List Int)) h rfl rfl (fun _=>rfl) (fun h=>?_)<;>conv=>whnf
     refine drS (by kernel_rfl) ?_<;>conv=>whnf
     refine fork_f q17 ?_<;>conv=>whnf
     refine fork_f q18 ?_<;>conv=>whnf
     refine fork_t q19 ?_<;>conv=>whnf
     refine leX hn16 h ?_<;>conv=>whnf
     refine WkF.step (Weak.rekey _ 120 54707 rfl) ?_<;>conv=>whnf
     exact WkF.refl _
    refine fkN h (fun q20 h=>?_) (fun q20 h=>?_)<;>conv=>whnf
    ·refine ixS (enc:=(eI .i64)) h rfl (fun _=>rfl) (fun x21 h=>?_)<;>conv=>whnf
     refine liS ([x21]:List Int) (eI .i64) rfl rfl ?_<;>conv=>whnf
     refine apS (enc:=(eI .i64)) (l1:=v16.2.2.2.1) (l2:=([x21]:List Int)) h rfl rfl (fun _=>rfl) (fun h=>?_)<;>conv=>whnf
     refine drS (by kernel_rfl) ?_<;>conv=>whnf
     refine fork_f q17 ?_<;>conv=>whnf
     refine fork_f q18 ?_<;>conv=>whnf
     refine fork_f q19 ?_<;>conv=>whnf
     refine fork_t q20 ?_<;>conv=>whnf
     refine leX hn16 h ?_<;>conv=>whnf
     refine WkF.step (Weak.rekey _ 120 54710 rfl) ?_<;>conv=>whnf
     exact WkF.refl _
    cases h
   exact leS hn4 h wR
  refine lenB tab rfl rfl rfl rfl rfl ?_<;>conv=>whnf
  refine lpX (fun v25=>⟨[(9,.l (.ptr 10 0)),(10,.l (.bsl 47 4 3)),(126,lI (4:Int)),(127,lI v25.2.2.2.2)],142,[],[(10,[dI v4.1,.d (.sl (v4.2.1.map Window.enc)),.d (.sl (v4.2.2.1.map Face.enc)),.d (.sl (v4.2.2.2.1.map PartState.enc)),.d (.sl (v4.2.2.2.2.1.map PortLine.enc)),dI v4.2.2.2.2.2.1]),(47,[.own 54700,.own 54701,.d (.sl (v25.1.map Entry.enc)),.own 54703,.own 54704,.d (.sl (v25.2.1.map Entry.enc)),.own 54706,.own 54707,.d (.sl (v25.2.2.1.map Entry.enc)),.own 54709,.own 54710,.d (.sl (v25.2.2.2.1.map Entry.enc))])],[(54700,113,3,v4.2.2.2.2.2.2.1.map WorldSaw.enc),(54701,3,1,v4.2.2.2.2.2.2.2.1.map (eI .i64)),(54703,113,3,v4.2.2.2.2.2.2.2.2.1.map WorldSaw.enc),(54704,3,1,v4.2.2.2.2.2.2.2.2.2.1.map (eI .i64)),(54706,113,3,v4.2.2.2.2.2.2.2.2.2.2.1.map WorldSaw.enc),(54707,3,1,v4.2.2.2.2.2.2.2.2.2.2.2.1.map (eI .i64)),(54709,113,3,v4.2.2.2.2.2.2.2.2.2.2.2.2.1.map WorldSaw.enc),(54710,3,1,v4.2.2.2.2.2.2.2.2.2.2.2.2.2.1.map (eI .i64))]⟩) h ?_ (fun _ nx25 hn25 v25 h=>?_)<;>conv=>whnf
  ·refine WkF.step (Weak.nilBD _ 47 2 _ rfl rfl) ?_<;>conv=>whnf
   refine WkF.step (Weak.nilBD _ 47 5 _ rfl rfl) ?_<;>conv=>whnf
   refine WkF.step (Weak.nilBD _ 47 8 _ rfl rfl) ?_<;>conv=>whnf
   refine WkF.step (Weak.nilBD _ 47 11 _ rfl rfl) ?_<;>conv=>whnf
   exact WkF.refl _
  refine fkS h (fun h=>?_) (fun h=>?_)<;>conv=>whnf
  ·refine ixS (enc:=PartState.enc) h rfl (fun _=>rfl) (fun x26 h=>?_)<;>conv=>whnf
   refine fkN h (fun q27 h=>?_) (fun q27 h=>?_)<;>conv=>whnf
   ·exact leS hn25 h wR
   refine fkN h (fun q28 h=>?_) (fun q28 h=>?_)<;>conv=>whnf
   ·exact leS hn25 h wR
   refine fkN h (fun q29 h=>?_) (fun q29 h=>?_)<;>conv=>whnf
   ·exact leS hn25 h wR
   refine fkN h (fun q30 h=>?_) (fun q30 h=>?_)<;>conv=>whnf
   ·exact leS hn25 h wR
   cases h
  exact rt (E:=E_ListWorldView_Int) h rfl
 cases h
end Go.Proofs.YtldlcdnhdedoeaaGreat
namespace Go.Proofs.YtldlcdnhdedoeaaGreat
open Go Go.VC
noncomputable def law22_knows  : Option Bool:=
 bnd (world_Play ([(84:Int),(75:Int),(49:Int),(0:Int),(0:Int)]:List Int) []) fun x1=>bnd (world_Play ([(84:Int),(75:Int),(49:Int),(1:Int),(2:Int),(1:Int),(1:Int),(1:Int),(4:Int),(4:Int),(0:Int),(0:Int)]:List Int) ([([⟨(0:Int),(1:Int),(0:Int),(1:Int),⟨(0:Int),(0:Int),(0:Int),[]⟩⟩]:List KernelCmd),([]:List KernelCmd)]:List (List KernelCmd))) fun x2=>bnd (world_Play [] []) fun x3=>fk (decide ((x1.1.length:Int)=(0:Int))) (fk (decide (x1.2=(0:Int))) (fk (decide ((x2.1.length:Int)=(1:Int))) (fk (decide (x2.2=(0:Int))) (ix x2.1 (0:Int) fun x4=>fk (decide ((x4.Ran.length:Int)=(2:Int))) (ix x2.1 (0:Int) fun x5=>ix x5.Ran (0:Int) fun x6=>fk (decide (x6=(0:Int))) (ix x2.1 (0:Int) fun x7=>ix x7.Ran (1:Int) fun x8=>fk (decide (x8=(-1:Int))) (ix x2.1 (0:Int) fun x9=>fk (decide ((x9.Saws.length:Int)=(1:Int))) (ix x2.1 (0:Int) fun x10=>fk (decide ((x10.Log.length:Int)=(2:Int))) (some (decide (x3.2=(8:Int)))) (some false)) (some false)) (some false)) (some false)) (some false)) (some false)) (some false)) (some false)) (some false)
theorem law22_knows_w  (r:Bool) (h:law22_knows=some r):Go.VC.Spec Tryz.prog 40 [] (fun y=>y=E_Bool r):=by
 refine Spec.of_xc (fn:=Tryz.f40) tab ⟨[(0,[]),(1,[1,2]),(2,[1,2,3,4]),(3,[1,2,3,4,6]),(4,[0])],[],[],[(19,[18,19])]⟩ 89 [.tmp 0] rfl rfl rfl rfl rfl rfl ?_<;>conv=>whnf
 refine liS ([(84:Int),(75:Int),(49:Int),(0:Int),(0:Int)]:List Int) (eI .u8) rfl rfl ?_<;>conv=>whnf
 refine cvO rfl rfl rfl rfl rfl Tryz.underlying97 Tryz.underlying5 ?_<;>conv=>whnf
 refine ccS (E:=E_ListWorldView_Int) h (world_Play_w ([(84:Int),(75:Int),(49:Int),(0:Int),(0:Int)]:List Int) []) rfl rfl (fun x1 h=>?_)<;>conv=>whnf
 refine liS ([(84:Int),(75:Int),(49:Int),(1:Int),(2:Int),(1:Int),(1:Int),(1:Int),(4:Int),(4:Int),(0:Int),(0:Int)]:List Int) (eI .u8) rfl rfl ?_<;>conv=>whnf
 refine cvO rfl rfl rfl rfl rfl Tryz.underlying97 Tryz.underlying5 ?_<;>conv=>whnf
 refine liS ([⟨(0:Int),(1:Int),(0:Int),(1:Int),⟨(0:Int),(0:Int),(0:Int),[]⟩⟩]:List KernelCmd) KernelCmd.enc rfl rfl ?_<;>conv=>whnf
 refine liS ([]:List KernelCmd) KernelCmd.enc rfl rfl ?_<;>conv=>whnf
 refine liS ([([⟨(0:Int),(1:Int),(0:Int),(1:Int),⟨(0:Int),(0:Int),(0:Int),[]⟩⟩]:List KernelCmd),([]:List KernelCmd)]:List (List KernelCmd)) (eL KernelCmd.enc) rfl rfl ?_<;>conv=>whnf
 refine iceS 20 ?_<;>conv=>whnf
 refine ccS (E:=E_ListWorldView_Int) h (world_Play_w ([(84:Int),(75:Int),(49:Int),(1:Int),(2:Int),(1:Int),(1:Int),(1:Int),(4:Int),(4:Int),(0:Int),(0:Int)]:List Int) ([([⟨(0:Int),(1:Int),(0:Int),(1:Int),⟨(0:Int),(0:Int),(0:Int),[]⟩⟩]:List KernelCmd),([]:List KernelCmd)]:List (List KernelCmd))) rfl rfl (fun x2 h=>?_)<;>conv=>whnf
 refine ccS (E:=E_ListWorldView_Int) h (world_Play_w [] []) rfl rfl (fun x3 h=>?_)<;>conv=>whnf
 refine lenS x1.1 WorldView.enc rfl ?_<;>conv=>whnf
 refine fkS h (fun h=>?_) (fun h=>?_)<;>conv=>whnf
 ·refine fkS h (fun h=>?_) (fun h=>?_)<;>conv=>whnf
  ·refine lenS x2.1 WorldView.enc rfl ?_<;>conv=>whnf
   refine fkS h (fun h=>?_) (fun h=>?_)<;>conv=>whnf
   ·refine fkS h (fun h=>?_) (fun h=>?_)<;>conv=>whnf
    ·refine ixS (enc:=WorldView.enc) h rfl (fun _=>rfl) (fun x4 h=>?_)<;>conv=>whnf
     refine lenS x4.Ran (eI .i64) rfl ?_<;>conv=>whnf
     refine fkS h (fun h=>?_) (fun h=>?_)<;>conv=>whnf
     ·refine ixS (enc:=WorldView.enc) h rfl (fun _=>rfl) (fun x5 h=>?_)<;>conv=>whnf
      refine ixS (enc:=(eI .i64)) h rfl (fun _=>rfl) (fun x6 h=>?_)<;>conv=>whnf
      refine fkS h (fun h=>?_) (fun h=>?_)<;>conv=>whnf
      ·refine ixS (enc:=WorldView.enc) h rfl (fun _=>rfl) (fun x7 h=>?_)<;>conv=>whnf
       refine ixS (enc:=(eI .i64)) h rfl (fun _=>rfl) (fun x8 h=>?_)<;>conv=>whnf
       refine fkS h (fun h=>?_) (fun h=>?_)<;>conv=>whnf
       ·refine ixS (enc:=WorldView.enc) h rfl (fun _=>rfl) (fun x9 h=>?_)<;>conv=>whnf
        refine lenS x9.Saws WorldSaw.enc rfl ?_<;>conv=>whnf
        refine fkS h (fun h=>?_) (fun h=>?_)<;>conv=>whnf
        ·refine ixS (enc:=WorldView.enc) h rfl (fun _=>rfl) (fun x10 h=>?_)<;>conv=>whnf
         refine lenS x10.Log Entry.enc rfl ?_<;>conv=>whnf
         refine fkS h (fun h=>?_) (fun h=>?_)<;>conv=>whnf
         ·exact rt (E:=E_Bool) h rfl
         exact rt (E:=E_Bool) h rfl
        exact rt (E:=E_Bool) h rfl
       exact rt (E:=E_Bool) h rfl
      exact rt (E:=E_Bool) h rfl
     exact rt (E:=E_Bool) h rfl
    exact rt (E:=E_Bool) h rfl
   exact rt (E:=E_Bool) h rfl
  exact rt (E:=E_Bool) h rfl
 exact rt (E:=E_Bool) h rfl
end Go.Proofs.YtldlcdnhdedoeaaGreat
namespace Go.Proofs.YtldlcdnhdedoeaaGreat
open Go Go.VC
theorem law22_knows_eq:law22_knows=some true:=by kernel_rfl
end Go.Proofs.YtldlcdnhdedoeaaGreat
namespace Go.Proofs.YtldlcdnhdedoeaaGreat
open Go Go.VC
noncomputable def delK (s:KernelState):List PortLine:=if s.Now.tmod s.Table.Frame=0 then (port_Deliver s.Lines).getD [] else s.Lines
theorem linesK_del {s:KernelState} (h:kP s):linesK s (delK s):=by
 obtain⟨L,hL⟩:=linesK_ex h
 have e:delK s=L:=by
  have h3:=hL.2.2
  unfold delK
  by_cases c:s.Now.tmod s.Table.Frame=0
  ·rw[if_pos c] at h3 ⊢; rw[h3.1]; rfl
  ·rw[if_neg c] at h3 ⊢; exact h3.symm
 rw[e]; exact hL
noncomputable def tickK (s:KernelState):KernelState:=⟨s.Table,s.Faces,partsK s,delK s,s.Now+1⟩
theorem tickK_eq {s:KernelState} (h:kP s):kernel_Tick s=some (tickK s,ranK s,0):=kernel_Tick_eq h (linesK_del h)
theorem kP.tickK {s:KernelState} (h:kP s) (hn:s.Now≤90000):kP (tickK s):=h.tick (linesK_del h) hn
theorem ranK_len (s:KernelState):(ranK s).length=s.Parts.length:=by unfold ranK; simp
theorem tickK_len (s:KernelState):(tickK s).Parts.length=s.Parts.length:=by show (partsK s).length=_; unfold partsK; simp
def sawStep (t:Int) (c:KernelCmd) (v e:Int) (S:List (List WorldSaw)):List (List WorldSaw):=if 0≤c.Part∧c.Part<(S.length:Int) then S.set c.Part.toNat (S.getD c.Part.toNat []++[⟨t,v,e⟩]) else S
theorem sawStep_len (t:Int) (c:KernelCmd) (v e:Int) (S:List (List WorldSaw)):(sawStep t c v e S).length=S.length:=by unfold sawStep; split <;> simp
noncomputable def askL (t:Int) (x:KernelState×List (List WorldSaw)) (c:KernelCmd):KernelState×List (List WorldSaw):=((doK x.1 c).1,sawStep t c (doK x.1 c).2.1 (doK x.1 c).2.2 x.2)
noncomputable def asksL (t:Int) (x:KernelState×List (List WorldSaw)) (l:List KernelCmd):KernelState×List (List WorldSaw):=l.foldl (askL t) x
theorem asksL_succ (t:Int) (x:KernelState×List (List WorldSaw)) (l:List KernelCmd) (k:Nat) (h:k<l.length):asksL t x (l.take (k+1))=askL t (asksL t x (l.take k)) l[k]:=by
 unfold asksL
 rw[←List.take_append_getElem h,List.foldl_append]; rfl
theorem asksL_ok {t:Int} {x:KernelState×List (List WorldSaw)} (h:kP x.1):∀(l:List KernelCmd),kP (asksL t x l).1∧(asksL t x l).1.Now=x.1.Now∧(asksL t x l).1.Parts.length=x.1.Parts.length∧(asksL t x l).2.length=x.2.length:=by
 intro l
 induction l generalizing x with
 | nil=>exact⟨h,rfl,rfl,rfl⟩
 | cons c r ih=>
  obtain⟨d1,d2,d3,d4,d5⟩:=h.do c
  obtain⟨a,b,c',d⟩:=ih (x:=askL t x c) d1
  exact⟨a,b.trans d2,c'.trans d4,d.trans (sawStep_len _ _ _ _ _)⟩
structure PlayS where
 s:KernelState
 saws:List (List WorldSaw)
 rans:List (List Int)
def ranStep (r:List Int) (R:List (List Int)):List (List Int):=List.zipWith (fun a x=>a++[x]) R r
noncomputable def tickL (t:Int) (x:PlayS) (l:List KernelCmd):PlayS:=⟨tickK (asksL t (x.s,x.saws) l).1,(asksL t (x.s,x.saws) l).2,ranStep (ranK (asksL t (x.s,x.saws) l).1) x.rans⟩
noncomputable def playK (s:KernelState) (script:List (List KernelCmd)):Nat→PlayS
 | 0=>⟨s,List.replicate s.Parts.length [],List.replicate s.Parts.length []⟩
 | k+1=>tickL k (playK s script k) (script.getD k [])
theorem playK_ok {s:KernelState} (h:kP s) (script:List (List KernelCmd)) (h0:s.Now=0):∀k,k≤80000→kP (playK s script k).s∧(playK s script k).s.Now=k∧(playK s script k).s.Parts.length=s.Parts.length∧(playK s script k).saws.length=s.Parts.length∧(playK s script k).rans.length=s.Parts.length
 | 0,_=>⟨h,h0,rfl,by simp[playK],by simp[playK]⟩
 | k+1,hk=>by
  obtain⟨a,b,c,d,e⟩:=playK_ok h script h0 k (by omega)
  obtain⟨a2,b2,c2,d2⟩:=asksL_ok (t:=k) (x:=((playK s script k).s,(playK s script k).saws)) a (script.getD k [])
  simp only at b2 c2 d2
  refine⟨a2.tickK (by omega),?_,?_,d2.trans d,?_⟩
  ·show (asksL _ _ _).1.Now+1=_
   rw[b2,b]; rfl
  ·show (tickK _).Parts.length=_
   rw[tickK_len,c2,c]
  ·show (ranStep _ _).length=_
   unfold ranStep
   rw[List.length_zipWith,ranK_len,e,c2,c,Nat.min_self]
def viewsL (x:PlayS):List WorldView:=(List.range x.s.Parts.length).map fun i=>⟨x.saws.getD i [],x.rans.getD i [],((x.s.Parts[i]?).getD emptyP).Log⟩
end Go.Proofs.YtldlcdnhdedoeaaGreat
namespace Go.Proofs.YtldlcdnhdedoeaaGreat
open Go Go.VC
section
variable {σ R:Type} {r:R} {body:(σ→Option R)→σ→Option R}
theorem asksL_lens {t:Int} {x:KernelState×List (List WorldSaw)} {m:Nat} (h:∀q∈x.2,q.length≤m):∀(l:List KernelCmd),∀q∈(asksL t x l).2,q.length≤m+l.length:=by
 intro l
 induction l generalizing x m with
 | nil=>exact h
 | cons c r ih=>
  have h1:∀q∈(askL t x c).2,q.length≤m+1:=by
   intro q hq
   have hq:q∈sawStep t c (doK x.1 c).2.1 (doK x.1 c).2.2 x.2:=hq
   unfold sawStep at hq
   split at hq
   ·rename_i hc
    rcases List.mem_or_eq_of_mem_set hq with hq | hq
    ·have:=h q hq; omega
    ·rw[hq,List.length_append]
     have hlt:c.Part.toNat<x.2.length:=by omega
     rw[List.getD_eq_getElem?_getD,List.getElem?_eq_getElem hlt]
     have:=h _ (List.getElem_mem hlt)
     simpa using this
   ·have:=h q hq; omega
  intro q hq
  have:=ih (x:=askL t x c) h1 q hq
  simp only[List.length_cons]; omega
theorem do_lp {m:Nat} (t:Int) (x0:KernelState×List (List WorldSaw)) (l:List KernelCmd) (hl:l.length≤1000) (hk:kP x0.1) (hm:∀q∈x0.2,q.length≤m) (toX:σ→KernelState×List (List WorldSaw)) (idx:σ→Int) (v0:σ) (h0:idx v0=0) (hX0:toX v0=x0)
  (hEnd:∀nx v,idx v=l.length→toX v=asksL t x0 l→kP (toX v).1→(toX v).2.length=x0.2.length→(toX v).1.Parts.length=x0.1.Parts.length→body nx v=some r)
  (hStep:∀nx v (k:Nat) (h:k<l.length),idx v=k→kP (toX v).1→(toX v).2.length=x0.2.length→(∀q∈(toX v).2,q.length≤m+1000)→(∀v',idx v'=(k+1:Nat)→toX v'=askL t (toX v) l[k]→nx v'=some r)→body nx v=some r) :
  lp body FU v0=some r:=by
 refine lp_inv (fun v=>l.length-(idx v).toNat) (fun v=>∃k:Nat,idx v=k∧k≤l.length∧toX v=asksL t x0 (l.take k)) ?_ FU _ ⟨0,h0,Nat.zero_le _,hX0⟩ (by unfold FU; omega)
 rintro nx v ⟨k,h1,h2,h3⟩ hnx
 obtain⟨a,b,c,d⟩:=asksL_ok (t:=t) hk (l.take k)
 by_cases h:k<l.length
 ·refine hStep nx v k h h1 (by rw[h3]; exact a) (by rw[h3]; exact d) (by
   intro q hq
   rw[h3] at hq
   have:=asksL_lens (t:=t) hm (l.take k) q hq
   rw[List.length_take] at this; omega) fun v' e1 e2=>hnx v' ⟨k+1,e1,h,?_⟩ (by rw[e1,h1]; omega)
  rw[e2,h3,asksL_succ t x0 l k h]
 ·have e:k=l.length:=by omega
  subst e
  rw[List.take_length] at h3 a c d
  exact hEnd nx v h1 h3 (by rw[h3]; exact a) (by rw[h3]; exact d) (by rw[h3]; exact c)
theorem out_lp {s:KernelState} (h:kP s) (hz:s.Now=0) (script:List (List KernelCmd)) (hl:script.length≤1000) (hc:∀x∈script,x.length≤1000) (toP:σ→PlayS) (idx:σ→Int) (v0:σ) (h0:idx v0=0) (hX0:toP v0=playK s script 0)
  (hEnd:∀nx v,idx v=script.length→toP v=playK s script script.length→(toP v).s.Parts.length=s.Parts.length→kP (toP v).s→(∀q∈(toP v).saws,q.length≤1000000)→(∀q∈(toP v).rans,q.length≤1000000)→body nx v=some r)
  (hStep:∀nx v (k:Nat) (h:k<script.length),idx v=k→kP (toP v).s→(toP v).s.Parts.length=s.Parts.length→(toP v).saws.length=s.Parts.length→(toP v).rans.length=s.Parts.length→(∀q∈(toP v).saws,q.length≤1000000)→(∀q∈(toP v).rans,q.length≤1000000)→(∀v',idx v'=(k+1:Nat)→toP v'=tickL k (toP v) script[k]→nx v'=some r)→body nx v=some r) :
  lp body FU v0=some r:=by
 have lens:∀k,k≤script.length→(∀q∈(playK s script k).saws,q.length≤1000*k)∧∀q∈(playK s script k).rans,q.length≤k:=by
  intro k
  induction k with
  | zero=>intro _; exact⟨fun q hq=>by rw[List.eq_of_mem_replicate hq]; simp,fun q hq=>by rw[List.eq_of_mem_replicate hq]; simp⟩
  | succ k ih=>
   intro hk
   obtain⟨a,b⟩:=ih (by omega)
   refine⟨fun q hq=>?_,fun q hq=>?_⟩
   ·have:=asksL_lens (t:=k) (x:=((playK s script k).s,(playK s script k).saws)) a (script.getD k []) q hq
    have hk2:k<script.length:=by omega
    rw[List.getD_eq_getElem?_getD,List.getElem?_eq_getElem hk2] at this
    have h2:=hc _ (List.getElem_mem hk2)
    simp only[Option.getD_some] at this
    omega
   ·have hq:q∈ranStep (ranK (asksL k ((playK s script k).s,(playK s script k).saws) (script.getD k [])).1) (playK s script k).rans:=hq
    unfold ranStep at hq
    obtain⟨i,hi⟩:=List.getElem?_of_mem hq
    rw[List.getElem?_zipWith] at hi
    split at hi
    ·rename_i a' b' ha hb
     cases hi
     rw[List.length_append]
     have:=b a' (List.mem_of_getElem? ha)
     simpa using this
    ·cases hi
 refine lp_inv (fun v=>script.length-(idx v).toNat) (fun v=>∃k:Nat,idx v=k∧k≤script.length∧toP v=playK s script k) ?_ FU _ ⟨0,h0,Nat.zero_le _,hX0⟩ (by unfold FU; omega)
 rintro nx v ⟨k,h1,h2,h3⟩ hnx
 obtain⟨a,b,c,d,e⟩:=playK_ok h script hz k (by omega)
 obtain⟨l1,l2⟩:=lens k h2
 by_cases hk:k<script.length
 ·refine hStep nx v k hk h1 (by rw[h3]; exact a) (by rw[h3]; exact c) (by rw[h3]; exact d) (by rw[h3]; exact e) (fun q hq=>by have:=l1 q (by rw[←h3]; exact hq); omega) (fun q hq=>by have:=l2 q (by rw[←h3]; exact hq); omega) fun v' e1 e2=>hnx v' ⟨k+1,e1,hk,?_⟩ (by rw[e1,h1]; omega)
  rw[e2,h3]
  show tickL k (playK s script k) script[k]=tickL k (playK s script k) (script.getD k [])
  rw[List.getD_eq_getElem?_getD,List.getElem?_eq_getElem hk]; rfl
 ·have e:k=script.length:=by omega
  subst e
  exact hEnd nx v h1 h3 (by rw[h3]; exact c) (by rw[h3]; exact a) (fun q hq=>by have:=l1 q (by rw[←h3]; exact hq); omega) (fun q hq=>by have:=l2 q (by rw[←h3]; exact hq); omega)
theorem set_lp {E:Type} (n:Nat) (hn:n≤1000) (L0 L1:List E) (e0:L0.length=n) (e1:L1.length=n) (toL:σ→List E) (idx:σ→Int) (v0:σ) (h0:idx v0=0) (hX0:toL v0=L0)
  (hEnd:∀nx v,idx v=n→toL v=L1→body nx v=some r)
  (hStep:∀nx v (k:Nat) (h:k<n),idx v=k→(toL v)[k]?=L0[k]?→(toL v).length=n→(∀v',idx v'=(k+1:Nat)→toL v'=(toL v).set k (L1[k]'(by omega))→nx v'=some r)→body nx v=some r) :
  lp body FU v0=some r:=by
 refine lp_inv (fun v=>n-(idx v).toNat) (fun v=>∃k:Nat,idx v=k∧k≤n∧toL v=L1.take k++L0.drop k) ?_ FU _ ⟨0,h0,Nat.zero_le _,by rw[hX0]; simp⟩ (by unfold FU; omega)
 rintro nx v ⟨k,h1,h2,h3⟩ hnx
 by_cases hk:k<n
 ·refine hStep nx v k hk h1 ?_ ?_ fun v' e2 e3=>hnx v' ⟨k+1,e2,hk,?_⟩ (by rw[e2,h1]; omega)
  ·rw[h3,List.getElem?_append_right (by rw[List.length_take]; omega),List.length_take,List.getElem?_drop]
   congr 1; omega
  ·rw[h3,List.length_append,List.length_take,List.length_drop]; omega
  ·rw[e3,h3]
   have hd:L0.drop k=L0[k]'(by omega)::L0.drop (k+1):=List.drop_eq_getElem_cons (by omega)
   rw[hd,List.set_append_right _ _ (by rw[List.length_take]; omega)]
   rw[show k-(L1.take k).length=0 by rw[List.length_take]; omega,List.set_cons_zero]
   rw[←List.take_append_getElem (l:=L1) (i:=k) (by omega),List.append_assoc]; rfl
 ·have e:k=n:=by omega
  subst e
  refine hEnd nx v h1 ?_
  rw[h3,List.take_of_length_le (by omega),List.drop_of_length_le (by omega),List.append_nil]
end
end Go.Proofs.YtldlcdnhdedoeaaGreat
namespace Go.Proofs.YtldlcdnhdedoeaaGreat
open Go Go.VC
theorem list0 {α:Type} {l:List α} (h:l.length=0):l=[]:=by
 match l,h with
 | [],_=>exact rfl
theorem list1 {α:Type} {l:List α} (h:l.length=1):∃a0,l=[a0]:=by
 match l,h with
 | [a0],_=>exact⟨a0,rfl⟩
theorem list2 {α:Type} {l:List α} (h:l.length=2):∃a0 a1,l=[a0,a1]:=by
 match l,h with
 | [a0,a1],_=>exact⟨a0,a1,rfl⟩
theorem list3 {α:Type} {l:List α} (h:l.length=3):∃a0 a1 a2,l=[a0,a1,a2]:=by
 match l,h with
 | [a0,a1,a2],_=>exact⟨a0,a1,a2,rfl⟩
theorem list4 {α:Type} {l:List α} (h:l.length=4):∃a0 a1 a2 a3,l=[a0,a1,a2,a3]:=by
 match l,h with
 | [a0,a1,a2,a3],_=>exact⟨a0,a1,a2,a3,rfl⟩
theorem world_may_eq (l:List (List KernelCmd)) (hl:l.length≤100) (hc:∀x∈l,x.length≤10):world_may l=some true:=by
 unfold world_may
 refine lp_up l.length (by unfold FU; omega) (fun _=>True) trivial ?_
 intro nx k hk _ hnx
 rw[lt_nat]
 by_cases h:k<l.length
 ·have:=hc _ (List.getElem_mem h)
  rw[decide_eq_true h,fk_t,ix_lt h,decide_eq_false (by omega),fk_f,wr_succ k _ h (by omega)]
  exact hnx h trivial
 ·rw[decide_eq_false h,fk_f,decide_eq_true (by omega)]
end Go.Proofs.YtldlcdnhdedoeaaGreat
namespace Go.Proofs.YtldlcdnhdedoeaaGreat
open Go Go.VC
theorem world_Play_e1 {b:List Int} {script:List (List KernelCmd)} {r:Config×Int×Int} (hd:image_Decode b=some r) (he:r.2.2≠0):world_Play b script=some ([],r.2.2):=by
 unfold world_Play
 rw[bnd_eq hd,decide_eq_false he,Bool.not_false,fk_t]
theorem world_Play_e2 {b:List Int} {script:List (List KernelCmd)} {r:Config×Int×Int} {k:KernelState×Int} (hd:image_Decode b=some r) (he:r.2.2=0) (hk:kernel_Boot r.1=some k) (h2:k.2≠0):world_Play b script=some ([],k.2):=by
 unfold world_Play
 rw[bnd_eq hd,decide_eq_true he,Bool.not_true,fk_f,bnd_eq hk,decide_eq_false h2,Bool.not_false,fk_t]
theorem world_Play_ok {b:List Int} {script:List (List KernelCmd)} {r:Config×Int×Int} {s:KernelState} (hd:image_Decode b=some r) (he:r.2.2=0) (hk:kernel_Boot r.1=some (s,0)) (hs:kP s) (h0:s.Now=0) (hl:script.length≤100) (hc:∀x∈script,x.length≤10):world_Play b script=some (viewsL (playK s script script.length),0):=by
 have h4:=hs.len
 unfold world_Play
 rw[bnd_eq hd,decide_eq_true he,Bool.not_true,fk_f,bnd_eq hk]
 dsimp only
 rw[decide_eq_true rfl,Bool.not_true,fk_f,bnd_eq (world_may_eq script hl hc),Bool.not_true,fk_f]
 by_cases n0:s.Parts.length=0
 ·rw[decide_eq_true (by omega),fk_t]
  have hlen:=n0
  refine out_lp hs h0 script (by omega) (fun x hx=>by have:=hc x hx; omega) (fun v=>⟨(⟨⟨v.1,v.2.1⟩,v.2.2.1,v.2.2.2.1,v.2.2.2.2.1,v.2.2.2.2.2.1⟩:KernelState),[],[]⟩) (fun v=>v.2.2.2.2.2.2) _ rfl (by show PlayS.mk _ _ _=_; unfold playK; rw[hlen]; rfl) ?_ ?_
  ·rintro nx ⟨f,w,fa,pa,li,nw,q⟩ hv hp hn _ _ _
   simp only at hv hp hn
   rw[hlen] at hn
   subst hv
   simp only
   rw[decide_eq_false (by omega),fk_f]
   refine lp_inv (fun _=>0) (fun _=>True) (fun nx v _ _=>?_) FU () trivial (by unfold FU; omega)
   rw[←hp,show pa=[] from list0 hn]; rfl
  ·rintro nx ⟨f,w,fa,pa,li,nw,q⟩ k hk hv kp hn hs2 hr2 lS lR hnx
   simp only at hv kp hn lS lR
   rw[hlen] at hn
   subst hv
   simp only
   rw[decide_eq_true (by omega),fk_t,ix_lt hk]
   refine do_lp (m:=1000000) (k:Int) (⟨⟨f,w⟩,fa,pa,li,nw⟩,[]) script[k] (by have:=hc _ (List.getElem_mem hk); omega) kp lS (fun v=>((⟨⟨v.1,v.2.1⟩,v.2.2.1,v.2.2.2.1,v.2.2.2.2.1,v.2.2.2.2.2.1⟩:KernelState),[])) (fun v=>v.2.2.2.2.2.2) _ rfl rfl ?_ ?_
   ·rintro nx2 ⟨f2,w2,fa2,pa2,li2,nw2,q2⟩ hv2 hX kp2 hl2 hp2
    simp only at hv2 hX kp2 hl2 hp2
    rw[hn] at hp2
    subst hv2
    simp only
    rw[decide_eq_false (by omega),fk_f,bnd_eq (tickK_eq kp2)]
    dsimp only
    have hrl:(ranK ⟨⟨f2,w2⟩,fa2,pa2,li2,nw2⟩).length=0:=by rw[ranK_len]; exact hp2
    refine lp_inv (fun _=>0) (fun _=>True) (fun nx3 v _ _=>?_) FU () trivial (by unfold FU; omega)
    rw[wr_succ k _ hk (by omega)]
    refine hnx _ rfl ?_
    unfold tickL
    dsimp only
    rw[←hX]
    show PlayS.mk _ _ _=PlayS.mk _ _ _
    unfold ranStep
    rfl
   ·rintro nx2 ⟨f2,w2,fa2,pa2,li2,nw2,q2⟩ k2 hk2 hv2 kp2 hl2 lS2 hnx2
    simp only at hv2 kp2 hl2 lS2
    subst hv2
    simp only
    rw[decide_eq_true (by omega),fk_t,ix_lt hk2,bnd_eq (kernel_Do_eq _ _ kp2)]
    generalize hd:doK ⟨⟨f2,w2⟩,fa2,pa2,li2,nw2⟩ script[k][k2]=d
    rw[wr_succ k2 _ hk2 (by have:=hc _ (List.getElem_mem hk); omega)]
    generalize hcc:script[k][k2]=c at hd hnx2 ⊢
    have nxt:∀S,S=sawStep (k:Int) c d.2.1 d.2.2 []→(⟨⟨d.1.Table.Frame,d.1.Table.Windows⟩,d.1.Faces,d.1.Parts,d.1.Lines,d.1.Now⟩,S)=askL (k:Int) (⟨⟨f2,w2⟩,fa2,pa2,li2,nw2⟩,[]) c:=fun S hS=>by unfold askL; dsimp only; rw[hd,hS]
    by_cases q0:0≤c.Part∧c.Part<(0:Int)
    rotate_left
    ·refine jn_to () (fun k1=>jn_to false (fun k4=>?_) ?_) ?_
     ·by_cases z:c.Part≥0
      ·rw[decide_eq_true z,fk_t,decide_eq_false (by omega)]
      ·rw[decide_eq_false z,fk_f]
     ·rw[fk_f]
     ·refine hnx2 _ rfl (nxt _ ?_)
      unfold sawStep
      rw[if_neg (by simp)]
    ·omega
 rw[decide_eq_false (by omega),fk_f]
 by_cases n1:s.Parts.length=1
 ·rw[decide_eq_true (by omega),fk_t]
  have hlen:=n1
  refine out_lp hs h0 script (by omega) (fun x hx=>by have:=hc x hx; omega) (fun v=>⟨(⟨⟨v.1,v.2.1⟩,v.2.2.1,v.2.2.2.1,v.2.2.2.2.1,v.2.2.2.2.2.1⟩:KernelState),[v.2.2.2.2.2.2.1],[v.2.2.2.2.2.2.2.1]⟩) (fun v=>v.2.2.2.2.2.2.2.2) _ rfl (by show PlayS.mk _ _ _=_; unfold playK; rw[hlen]; rfl) ?_ ?_
  ·rintro nx ⟨f,w,fa,pa,li,nw,s0,r0,q⟩ hv hp hn _ _ _
   simp only at hv hp hn
   rw[hlen] at hn
   subst hv
   simp only
   rw[decide_eq_false (by omega),fk_f]
   obtain⟨p0,rfl⟩:=list1 hn
   refine set_lp 1 (by decide) [([]:List Entry)] [p0.Log] rfl rfl (fun v=>[v.1]) (fun v=>v.2) _ rfl rfl ?_ ?_
   ·rintro nx2 ⟨l0,q2⟩ hv2 hL
    simp only at hv2 hL
    subst hv2
    simp only[List.cons.injEq,and_true] at hL
    obtain rfl:=hL
    simp only
    rw[decide_eq_false (by decide),fk_f,←hp]; rfl
   ·rintro nx2 ⟨l0,q2⟩ k hk hv2 _ _ hnx2
    simp only at hv2
    subst hv2
    have hk2:k=0:=by omega
    rcases hk2 with rfl
    ·exact hnx2 (p0.Log,((1:Nat):Int)) rfl rfl
  ·rintro nx ⟨f,w,fa,pa,li,nw,s0,r0,q⟩ k hk hv kp hn hs2 hr2 lS lR hnx
   simp only at hv kp hn lS lR
   rw[hlen] at hn
   subst hv
   simp only
   rw[decide_eq_true (by omega),fk_t,ix_lt hk]
   refine do_lp (m:=1000000) (k:Int) (⟨⟨f,w⟩,fa,pa,li,nw⟩,[s0]) script[k] (by have:=hc _ (List.getElem_mem hk); omega) kp lS (fun v=>((⟨⟨v.1,v.2.1⟩,v.2.2.1,v.2.2.2.1,v.2.2.2.2.1,v.2.2.2.2.2.1⟩:KernelState),[v.2.2.2.2.2.2.1])) (fun v=>v.2.2.2.2.2.2.2) _ rfl rfl ?_ ?_
   ·rintro nx2 ⟨f2,w2,fa2,pa2,li2,nw2,t0,q2⟩ hv2 hX kp2 hl2 hp2
    simp only at hv2 hX kp2 hl2 hp2
    rw[hn] at hp2
    subst hv2
    simp only
    rw[decide_eq_false (by omega),fk_f,bnd_eq (tickK_eq kp2)]
    dsimp only
    have hrl:(ranK ⟨⟨f2,w2⟩,fa2,pa2,li2,nw2⟩).length=1:=by rw[ranK_len]; exact hp2
    obtain⟨y0,hy⟩:=list1 hrl
    rw[hy]
    refine set_lp 1 (by decide) [r0] [r0++[y0]] rfl rfl (fun v=>[v.1]) (fun v=>v.2) _ rfl rfl ?_ ?_
    ·rintro nx3 ⟨u0,q3⟩ hv3 hL
     simp only at hv3 hL
     subst hv3
     simp only[List.cons.injEq,and_true] at hL
     obtain rfl:=hL
     simp only
     rw[decide_eq_false (by decide),fk_f]
     rw[wr_succ k _ hk (by omega)]
     refine hnx _ rfl ?_
     unfold tickL
     dsimp only
     rw[←hX,hy]
     rfl
    ·rintro nx3 ⟨u0,q3⟩ k3 hk3 hv3 hg _ hnx3
     simp only at hv3 hg
     subst hv3
     have hk2:k3=0:=by omega
     rcases hk2 with rfl
     ·have hu:u0=r0:=Option.some.inj hg
      subst hu
      have hlen9:u0.length≤1000000000:=by have:=lR u0 (by simp); omega
      exact (ck_le 8 (by decide) hlen9).trans (hnx3 (u0++[y0],((1:Nat):Int)) rfl rfl)
   ·rintro nx2 ⟨f2,w2,fa2,pa2,li2,nw2,t0,q2⟩ k2 hk2 hv2 kp2 hl2 lS2 hnx2
    simp only at hv2 kp2 hl2 lS2
    subst hv2
    simp only
    rw[decide_eq_true (by omega),fk_t,ix_lt hk2,bnd_eq (kernel_Do_eq _ _ kp2)]
    generalize hd:doK ⟨⟨f2,w2⟩,fa2,pa2,li2,nw2⟩ script[k][k2]=d
    rw[wr_succ k2 _ hk2 (by have:=hc _ (List.getElem_mem hk); omega)]
    generalize hcc:script[k][k2]=c at hd hnx2 ⊢
    have nxt:∀S,S=sawStep (k:Int) c d.2.1 d.2.2 [t0]→(⟨⟨d.1.Table.Frame,d.1.Table.Windows⟩,d.1.Faces,d.1.Parts,d.1.Lines,d.1.Now⟩,S)=askL (k:Int) (⟨⟨f2,w2⟩,fa2,pa2,li2,nw2⟩,[t0]) c:=fun S hS=>by unfold askL; dsimp only; rw[hd,hS]
    by_cases q0:0≤c.Part∧c.Part<(1:Int)
    rotate_left
    ·refine jn_to t0 (fun k1=>jn_to false (fun k4=>?_) ?_) ?_
     ·by_cases z:c.Part≥0
      ·rw[decide_eq_true z,fk_t,decide_eq_false (by omega)]
      ·rw[decide_eq_false z,fk_f]
     ·rw[fk_f]
     ·refine hnx2 _ rfl (nxt _ ?_)
      unfold sawStep
      rw[if_neg (by simpa using q0)]
    have hi:c.Part=0:=by omega
    rcases hi with hi
    ·refine jn_to (t0++[⟨(k:Int),d.2.1,d.2.2⟩]) (fun k1=>jn_to true (fun k4=>?_) ?_) ?_
     ·rw[decide_eq_true (by omega),fk_t,decide_eq_true (by omega)]
     ·rw[fk_t]
      rw[decide_eq_true (p:=c.Part=(0:Int)) hi,fk_t]
      exact ck_le 24 (by decide) (by have:=lS2 t0 (by simp); omega)
     ·refine hnx2 _ rfl (nxt _ ?_)
      unfold sawStep
      rw[if_pos (by simpa using q0),hi]; rfl
 rw[decide_eq_false (by omega),fk_f]
 by_cases n2:s.Parts.length=2
 ·rw[decide_eq_true (by omega),fk_t]
  have hlen:=n2
  refine out_lp hs h0 script (by omega) (fun x hx=>by have:=hc x hx; omega) (fun v=>⟨(⟨⟨v.1,v.2.1⟩,v.2.2.1,v.2.2.2.1,v.2.2.2.2.1,v.2.2.2.2.2.1⟩:KernelState),[v.2.2.2.2.2.2.1,v.2.2.2.2.2.2.2.2.1],[v.2.2.2.2.2.2.2.1,v.2.2.2.2.2.2.2.2.2.1]⟩) (fun v=>v.2.2.2.2.2.2.2.2.2.2) _ rfl (by show PlayS.mk _ _ _=_; unfold playK; rw[hlen]; rfl) ?_ ?_
  ·rintro nx ⟨f,w,fa,pa,li,nw,s0,r0,s1,r1,q⟩ hv hp hn _ _ _
   simp only at hv hp hn
   rw[hlen] at hn
   subst hv
   simp only
   rw[decide_eq_false (by omega),fk_f]
   obtain⟨p0,p1,rfl⟩:=list2 hn
   refine set_lp 2 (by decide) [([]:List Entry),([]:List Entry)] [p0.Log,p1.Log] rfl rfl (fun v=>[v.1,v.2.1]) (fun v=>v.2.2) _ rfl rfl ?_ ?_
   ·rintro nx2 ⟨l0,l1,q2⟩ hv2 hL
    simp only at hv2 hL
    subst hv2
    simp only[List.cons.injEq,and_true] at hL
    obtain⟨rfl,rfl⟩:=hL
    simp only
    rw[decide_eq_false (by decide),fk_f,←hp]; rfl
   ·rintro nx2 ⟨l0,l1,q2⟩ k hk hv2 _ _ hnx2
    simp only at hv2
    subst hv2
    have hk2:k=0∨k=1:=by omega
    rcases hk2 with rfl | rfl
    ·exact hnx2 (p0.Log,l1,((1:Nat):Int)) rfl rfl
    ·exact hnx2 (l0,p1.Log,((2:Nat):Int)) rfl rfl
  ·rintro nx ⟨f,w,fa,pa,li,nw,s0,r0,s1,r1,q⟩ k hk hv kp hn hs2 hr2 lS lR hnx
   simp only at hv kp hn lS lR
   rw[hlen] at hn
   subst hv
   simp only
   rw[decide_eq_true (by omega),fk_t,ix_lt hk]
   refine do_lp (m:=1000000) (k:Int) (⟨⟨f,w⟩,fa,pa,li,nw⟩,[s0,s1]) script[k] (by have:=hc _ (List.getElem_mem hk); omega) kp lS (fun v=>((⟨⟨v.1,v.2.1⟩,v.2.2.1,v.2.2.2.1,v.2.2.2.2.1,v.2.2.2.2.2.1⟩:KernelState),[v.2.2.2.2.2.2.1,v.2.2.2.2.2.2.2.1])) (fun v=>v.2.2.2.2.2.2.2.2) _ rfl rfl ?_ ?_
   ·rintro nx2 ⟨f2,w2,fa2,pa2,li2,nw2,t0,t1,q2⟩ hv2 hX kp2 hl2 hp2
    simp only at hv2 hX kp2 hl2 hp2
    rw[hn] at hp2
    subst hv2
    simp only
    rw[decide_eq_false (by omega),fk_f,bnd_eq (tickK_eq kp2)]
    dsimp only
    have hrl:(ranK ⟨⟨f2,w2⟩,fa2,pa2,li2,nw2⟩).length=2:=by rw[ranK_len]; exact hp2
    obtain⟨y0,y1,hy⟩:=list2 hrl
    rw[hy]
    refine set_lp 2 (by decide) [r0,r1] [r0++[y0],r1++[y1]] rfl rfl (fun v=>[v.1,v.2.1]) (fun v=>v.2.2) _ rfl rfl ?_ ?_
    ·rintro nx3 ⟨u0,u1,q3⟩ hv3 hL
     simp only at hv3 hL
     subst hv3
     simp only[List.cons.injEq,and_true] at hL
     obtain⟨rfl,rfl⟩:=hL
     simp only
     rw[decide_eq_false (by decide),fk_f]
     rw[wr_succ k _ hk (by omega)]
     refine hnx _ rfl ?_
     unfold tickL
     dsimp only
     rw[←hX,hy]
     rfl
    ·rintro nx3 ⟨u0,u1,q3⟩ k3 hk3 hv3 hg _ hnx3
     simp only at hv3 hg
     subst hv3
     have hk2:k3=0∨k3=1:=by omega
     rcases hk2 with rfl | rfl
     ·have hu:u0=r0:=Option.some.inj hg
      subst hu
      have hlen9:u0.length≤1000000000:=by have:=lR u0 (by simp); omega
      exact (ck_le 8 (by decide) hlen9).trans (hnx3 (u0++[y0],u1,((1:Nat):Int)) rfl rfl)
     ·have hu:u1=r1:=Option.some.inj hg
      subst hu
      have hlen9:u1.length≤1000000000:=by have:=lR u1 (by simp); omega
      exact (ck_le 8 (by decide) hlen9).trans (hnx3 (u0,u1++[y1],((2:Nat):Int)) rfl rfl)
   ·rintro nx2 ⟨f2,w2,fa2,pa2,li2,nw2,t0,t1,q2⟩ k2 hk2 hv2 kp2 hl2 lS2 hnx2
    simp only at hv2 kp2 hl2 lS2
    subst hv2
    simp only
    rw[decide_eq_true (by omega),fk_t,ix_lt hk2,bnd_eq (kernel_Do_eq _ _ kp2)]
    generalize hd:doK ⟨⟨f2,w2⟩,fa2,pa2,li2,nw2⟩ script[k][k2]=d
    rw[wr_succ k2 _ hk2 (by have:=hc _ (List.getElem_mem hk); omega)]
    generalize hcc:script[k][k2]=c at hd hnx2 ⊢
    have nxt:∀S,S=sawStep (k:Int) c d.2.1 d.2.2 [t0,t1]→(⟨⟨d.1.Table.Frame,d.1.Table.Windows⟩,d.1.Faces,d.1.Parts,d.1.Lines,d.1.Now⟩,S)=askL (k:Int) (⟨⟨f2,w2⟩,fa2,pa2,li2,nw2⟩,[t0,t1]) c:=fun S hS=>by unfold askL; dsimp only; rw[hd,hS]
    by_cases q0:0≤c.Part∧c.Part<(2:Int)
    rotate_left
    ·refine jn_to (t0,t1) (fun k1=>jn_to false (fun k4=>?_) ?_) ?_
     ·by_cases z:c.Part≥0
      ·rw[decide_eq_true z,fk_t,decide_eq_false (by omega)]
      ·rw[decide_eq_false z,fk_f]
     ·rw[fk_f]
     ·refine hnx2 _ rfl (nxt _ ?_)
      unfold sawStep
      rw[if_neg (by simpa using q0)]
    have hi:c.Part=0∨c.Part=1:=by omega
    rcases hi with hi | hi
    ·refine jn_to (t0++[⟨(k:Int),d.2.1,d.2.2⟩],t1) (fun k1=>jn_to true (fun k4=>?_) ?_) ?_
     ·rw[decide_eq_true (by omega),fk_t,decide_eq_true (by omega)]
     ·rw[fk_t]
      rw[decide_eq_true (p:=c.Part=(0:Int)) hi,fk_t]
      exact ck_le 24 (by decide) (by have:=lS2 t0 (by simp); omega)
     ·refine hnx2 _ rfl (nxt _ ?_)
      unfold sawStep
      rw[if_pos (by simpa using q0),hi]; rfl
    ·refine jn_to (t0,t1++[⟨(k:Int),d.2.1,d.2.2⟩]) (fun k1=>jn_to true (fun k4=>?_) ?_) ?_
     ·rw[decide_eq_true (by omega),fk_t,decide_eq_true (by omega)]
     ·rw[fk_t]
      rw[decide_eq_false (p:=c.Part=(0:Int)) (by omega),fk_f]
      rw[decide_eq_true (p:=c.Part=(1:Int)) hi,fk_t]
      exact ck_le 24 (by decide) (by have:=lS2 t1 (by simp); omega)
     ·refine hnx2 _ rfl (nxt _ ?_)
      unfold sawStep
      rw[if_pos (by simpa using q0),hi]; rfl
 rw[decide_eq_false (by omega),fk_f]
 by_cases n3:s.Parts.length=3
 ·rw[decide_eq_true (by omega),fk_t]
  have hlen:=n3
  refine out_lp hs h0 script (by omega) (fun x hx=>by have:=hc x hx; omega) (fun v=>⟨(⟨⟨v.1,v.2.1⟩,v.2.2.1,v.2.2.2.1,v.2.2.2.2.1,v.2.2.2.2.2.1⟩:KernelState),[v.2.2.2.2.2.2.1,v.2.2.2.2.2.2.2.2.1,v.2.2.2.2.2.2.2.2.2.2.1],[v.2.2.2.2.2.2.2.1,v.2.2.2.2.2.2.2.2.2.1,v.2.2.2.2.2.2.2.2.2.2.2.1]⟩) (fun v=>v.2.2.2.2.2.2.2.2.2.2.2.2) _ rfl (by show PlayS.mk _ _ _=_; unfold playK; rw[hlen]; rfl) ?_ ?_
  ·rintro nx ⟨f,w,fa,pa,li,nw,s0,r0,s1,r1,s2,r2,q⟩ hv hp hn _ _ _
   simp only at hv hp hn
   rw[hlen] at hn
   subst hv
   simp only
   rw[decide_eq_false (by omega),fk_f]
   obtain⟨p0,p1,p2,rfl⟩:=list3 hn
   refine set_lp 3 (by decide) [([]:List Entry),([]:List Entry),([]:List Entry)] [p0.Log,p1.Log,p2.Log] rfl rfl (fun v=>[v.1,v.2.1,v.2.2.1]) (fun v=>v.2.2.2) _ rfl rfl ?_ ?_
   ·rintro nx2 ⟨l0,l1,l2,q2⟩ hv2 hL
    simp only at hv2 hL
    subst hv2
    simp only[List.cons.injEq,and_true] at hL
    obtain⟨rfl,rfl,rfl⟩:=hL
    simp only
    rw[decide_eq_false (by decide),fk_f,←hp]; rfl
   ·rintro nx2 ⟨l0,l1,l2,q2⟩ k hk hv2 _ _ hnx2
    simp only at hv2
    subst hv2
    have hk2:k=0∨k=1∨k=2:=by omega
    rcases hk2 with rfl | rfl | rfl
    ·exact hnx2 (p0.Log,l1,l2,((1:Nat):Int)) rfl rfl
    ·exact hnx2 (l0,p1.Log,l2,((2:Nat):Int)) rfl rfl
    ·exact hnx2 (l0,l1,p2.Log,((3:Nat):Int)) rfl rfl
  ·rintro nx ⟨f,w,fa,pa,li,nw,s0,r0,s1,r1,s2,r2,q⟩ k hk hv kp hn hs2 hr2 lS lR hnx
   simp only at hv kp hn lS lR
   rw[hlen] at hn
   subst hv
   simp only
   rw[decide_eq_true (by omega),fk_t,ix_lt hk]
   refine do_lp (m:=1000000) (k:Int) (⟨⟨f,w⟩,fa,pa,li,nw⟩,[s0,s1,s2]) script[k] (by have:=hc _ (List.getElem_mem hk); omega) kp lS (fun v=>((⟨⟨v.1,v.2.1⟩,v.2.2.1,v.2.2.2.1,v.2.2.2.2.1,v.2.2.2.2.2.1⟩:KernelState),[v.2.2.2.2.2.2.1,v.2.2.2.2.2.2.2.1,v.2.2.2.2.2.2.2.2.1])) (fun v=>v.2.2.2.2.2.2.2.2.2) _ rfl rfl ?_ ?_
   ·rintro nx2 ⟨f2,w2,fa2,pa2,li2,nw2,t0,t1,t2,q2⟩ hv2 hX kp2 hl2 hp2
    simp only at hv2 hX kp2 hl2 hp2
    rw[hn] at hp2
    subst hv2
    simp only
    rw[decide_eq_false (by omega),fk_f,bnd_eq (tickK_eq kp2)]
    dsimp only
    have hrl:(ranK ⟨⟨f2,w2⟩,fa2,pa2,li2,nw2⟩).length=3:=by rw[ranK_len]; exact hp2
    obtain⟨y0,y1,y2,hy⟩:=list3 hrl
    rw[hy]
    refine set_lp 3 (by decide) [r0,r1,r2] [r0++[y0],r1++[y1],r2++[y2]] rfl rfl (fun v=>[v.1,v.2.1,v.2.2.1]) (fun v=>v.2.2.2) _ rfl rfl ?_ ?_
    ·rintro nx3 ⟨u0,u1,u2,q3⟩ hv3 hL
     simp only at hv3 hL
     subst hv3
     simp only[List.cons.injEq,and_true] at hL
     obtain⟨rfl,rfl,rfl⟩:=hL
     simp only
     rw[decide_eq_false (by decide),fk_f]
     rw[wr_succ k _ hk (by omega)]
     refine hnx _ rfl ?_
     unfold tickL
     dsimp only
     rw[←hX,hy]
     rfl
    ·rintro nx3 ⟨u0,u1,u2,q3⟩ k3 hk3 hv3 hg _ hnx3
     simp only at hv3 hg
     subst hv3
     have hk2:k3=0∨k3=1∨k3=2:=by omega
     rcases hk2 with rfl | rfl | rfl
     ·have hu:u0=r0:=Option.some.inj hg
      subst hu
      have hlen9:u0.length≤1000000000:=by have:=lR u0 (by simp); omega
      exact (ck_le 8 (by decide) hlen9).trans (hnx3 (u0++[y0],u1,u2,((1:Nat):Int)) rfl rfl)
     ·have hu:u1=r1:=Option.some.inj hg
      subst hu
      have hlen9:u1.length≤1000000000:=by have:=lR u1 (by simp); omega
      exact (ck_le 8 (by decide) hlen9).trans (hnx3 (u0,u1++[y1],u2,((2:Nat):Int)) rfl rfl)
     ·have hu:u2=r2:=Option.some.inj hg
      subst hu
      have hlen9:u2.length≤1000000000:=by have:=lR u2 (by simp); omega
      exact (ck_le 8 (by decide) hlen9).trans (hnx3 (u0,u1,u2++[y2],((3:Nat):Int)) rfl rfl)
   ·rintro nx2 ⟨f2,w2,fa2,pa2,li2,nw2,t0,t1,t2,q2⟩ k2 hk2 hv2 kp2 hl2 lS2 hnx2
    simp only at hv2 kp2 hl2 lS2
    subst hv2
    simp only
    rw[decide_eq_true (by omega),fk_t,ix_lt hk2,bnd_eq (kernel_Do_eq _ _ kp2)]
    generalize hd:doK ⟨⟨f2,w2⟩,fa2,pa2,li2,nw2⟩ script[k][k2]=d
    rw[wr_succ k2 _ hk2 (by have:=hc _ (List.getElem_mem hk); omega)]
    generalize hcc:script[k][k2]=c at hd hnx2 ⊢
    have nxt:∀S,S=sawStep (k:Int) c d.2.1 d.2.2 [t0,t1,t2]→(⟨⟨d.1.Table.Frame,d.1.Table.Windows⟩,d.1.Faces,d.1.Parts,d.1.Lines,d.1.Now⟩,S)=askL (k:Int) (⟨⟨f2,w2⟩,fa2,pa2,li2,nw2⟩,[t0,t1,t2]) c:=fun S hS=>by unfold askL; dsimp only; rw[hd,hS]
    by_cases q0:0≤c.Part∧c.Part<(3:Int)
    rotate_left
    ·refine jn_to (t0,t1,t2) (fun k1=>jn_to false (fun k4=>?_) ?_) ?_
     ·by_cases z:c.Part≥0
      ·rw[decide_eq_true z,fk_t,decide_eq_false (by omega)]
      ·rw[decide_eq_false z,fk_f]
     ·rw[fk_f]
     ·refine hnx2 _ rfl (nxt _ ?_)
      unfold sawStep
      rw[if_neg (by simpa using q0)]
    have hi:c.Part=0∨c.Part=1∨c.Part=2:=by omega
    rcases hi with hi | hi | hi
    ·refine jn_to (t0++[⟨(k:Int),d.2.1,d.2.2⟩],t1,t2) (fun k1=>jn_to true (fun k4=>?_) ?_) ?_
     ·rw[decide_eq_true (by omega),fk_t,decide_eq_true (by omega)]
     ·rw[fk_t]
      rw[decide_eq_true (p:=c.Part=(0:Int)) hi,fk_t]
      exact ck_le 24 (by decide) (by have:=lS2 t0 (by simp); omega)
     ·refine hnx2 _ rfl (nxt _ ?_)
      unfold sawStep
      rw[if_pos (by simpa using q0),hi]; rfl
    ·refine jn_to (t0,t1++[⟨(k:Int),d.2.1,d.2.2⟩],t2) (fun k1=>jn_to true (fun k4=>?_) ?_) ?_
     ·rw[decide_eq_true (by omega),fk_t,decide_eq_true (by omega)]
     ·rw[fk_t]
      rw[decide_eq_false (p:=c.Part=(0:Int)) (by omega),fk_f]
      rw[decide_eq_true (p:=c.Part=(1:Int)) hi,fk_t]
      exact ck_le 24 (by decide) (by have:=lS2 t1 (by simp); omega)
     ·refine hnx2 _ rfl (nxt _ ?_)
      unfold sawStep
      rw[if_pos (by simpa using q0),hi]; rfl
    ·refine jn_to (t0,t1,t2++[⟨(k:Int),d.2.1,d.2.2⟩]) (fun k1=>jn_to true (fun k4=>?_) ?_) ?_
     ·rw[decide_eq_true (by omega),fk_t,decide_eq_true (by omega)]
     ·rw[fk_t]
      rw[decide_eq_false (p:=c.Part=(0:Int)) (by omega),fk_f]
      rw[decide_eq_false (p:=c.Part=(1:Int)) (by omega),fk_f]
      rw[decide_eq_true (p:=c.Part=(2:Int)) hi,fk_t]
      exact ck_le 24 (by decide) (by have:=lS2 t2 (by simp); omega)
     ·refine hnx2 _ rfl (nxt _ ?_)
      unfold sawStep
      rw[if_pos (by simpa using q0),hi]; rfl
 rw[decide_eq_false (by omega),fk_f]
 have n4:s.Parts.length=4:=by omega
 rw[decide_eq_true (by omega),fk_t]
 have hlen:=n4
 refine out_lp hs h0 script (by omega) (fun x hx=>by have:=hc x hx; omega) (fun v=>⟨(⟨⟨v.1,v.2.1⟩,v.2.2.1,v.2.2.2.1,v.2.2.2.2.1,v.2.2.2.2.2.1⟩:KernelState),[v.2.2.2.2.2.2.1,v.2.2.2.2.2.2.2.2.1,v.2.2.2.2.2.2.2.2.2.2.1,v.2.2.2.2.2.2.2.2.2.2.2.2.1],[v.2.2.2.2.2.2.2.1,v.2.2.2.2.2.2.2.2.2.1,v.2.2.2.2.2.2.2.2.2.2.2.1,v.2.2.2.2.2.2.2.2.2.2.2.2.2.1]⟩) (fun v=>v.2.2.2.2.2.2.2.2.2.2.2.2.2.2) _ rfl (by show PlayS.mk _ _ _=_; unfold playK; rw[hlen]; rfl) ?_ ?_
 ·rintro nx ⟨f,w,fa,pa,li,nw,s0,r0,s1,r1,s2,r2,s3,r3,q⟩ hv hp hn _ _ _
  simp only at hv hp hn
  rw[hlen] at hn
  subst hv
  simp only
  rw[decide_eq_false (by omega),fk_f]
  obtain⟨p0,p1,p2,p3,rfl⟩:=list4 hn
  refine set_lp 4 (by decide) [([]:List Entry),([]:List Entry),([]:List Entry),([]:List Entry)] [p0.Log,p1.Log,p2.Log,p3.Log] rfl rfl (fun v=>[v.1,v.2.1,v.2.2.1,v.2.2.2.1]) (fun v=>v.2.2.2.2) _ rfl rfl ?_ ?_
  ·rintro nx2 ⟨l0,l1,l2,l3,q2⟩ hv2 hL
   simp only at hv2 hL
   subst hv2
   simp only[List.cons.injEq,and_true] at hL
   obtain⟨rfl,rfl,rfl,rfl⟩:=hL
   simp only
   rw[decide_eq_false (by decide),fk_f,←hp]; rfl
  ·rintro nx2 ⟨l0,l1,l2,l3,q2⟩ k hk hv2 _ _ hnx2
   simp only at hv2
   subst hv2
   have hk2:k=0∨k=1∨k=2∨k=3:=by omega
   rcases hk2 with rfl | rfl | rfl | rfl
   ·exact hnx2 (p0.Log,l1,l2,l3,((1:Nat):Int)) rfl rfl
   ·exact hnx2 (l0,p1.Log,l2,l3,((2:Nat):Int)) rfl rfl
   ·exact hnx2 (l0,l1,p2.Log,l3,((3:Nat):Int)) rfl rfl
   ·exact hnx2 (l0,l1,l2,p3.Log,((4:Nat):Int)) rfl rfl
 ·rintro nx ⟨f,w,fa,pa,li,nw,s0,r0,s1,r1,s2,r2,s3,r3,q⟩ k hk hv kp hn hs2 hr2 lS lR hnx
  simp only at hv kp hn lS lR
  rw[hlen] at hn
  subst hv
  simp only
  rw[decide_eq_true (by omega),fk_t,ix_lt hk]
  refine do_lp (m:=1000000) (k:Int) (⟨⟨f,w⟩,fa,pa,li,nw⟩,[s0,s1,s2,s3]) script[k] (by have:=hc _ (List.getElem_mem hk); omega) kp lS (fun v=>((⟨⟨v.1,v.2.1⟩,v.2.2.1,v.2.2.2.1,v.2.2.2.2.1,v.2.2.2.2.2.1⟩:KernelState),[v.2.2.2.2.2.2.1,v.2.2.2.2.2.2.2.1,v.2.2.2.2.2.2.2.2.1,v.2.2.2.2.2.2.2.2.2.1])) (fun v=>v.2.2.2.2.2.2.2.2.2.2) _ rfl rfl ?_ ?_
  ·rintro nx2 ⟨f2,w2,fa2,pa2,li2,nw2,t0,t1,t2,t3,q2⟩ hv2 hX kp2 hl2 hp2
   simp only at hv2 hX kp2 hl2 hp2
   rw[hn] at hp2
   subst hv2
   simp only
   rw[decide_eq_false (by omega),fk_f,bnd_eq (tickK_eq kp2)]
   dsimp only
   have hrl:(ranK ⟨⟨f2,w2⟩,fa2,pa2,li2,nw2⟩).length=4:=by rw[ranK_len]; exact hp2
   obtain⟨y0,y1,y2,y3,hy⟩:=list4 hrl
   rw[hy]
   refine set_lp 4 (by decide) [r0,r1,r2,r3] [r0++[y0],r1++[y1],r2++[y2],r3++[y3]] rfl rfl (fun v=>[v.1,v.2.1,v.2.2.1,v.2.2.2.1]) (fun v=>v.2.2.2.2) _ rfl rfl ?_ ?_
   ·rintro nx3 ⟨u0,u1,u2,u3,q3⟩ hv3 hL
    simp only at hv3 hL
    subst hv3
    simp only[List.cons.injEq,and_true] at hL
    obtain⟨rfl,rfl,rfl,rfl⟩:=hL
    simp only
    rw[decide_eq_false (by decide),fk_f]
    rw[wr_succ k _ hk (by omega)]
    refine hnx _ rfl ?_
    unfold tickL
    dsimp only
    rw[←hX,hy]
    rfl
   ·rintro nx3 ⟨u0,u1,u2,u3,q3⟩ k3 hk3 hv3 hg _ hnx3
    simp only at hv3 hg
    subst hv3
    have hk2:k3=0∨k3=1∨k3=2∨k3=3:=by omega
    rcases hk2 with rfl | rfl | rfl | rfl
    ·have hu:u0=r0:=Option.some.inj hg
     subst hu
     have hlen9:u0.length≤1000000000:=by have:=lR u0 (by simp); omega
     exact (ck_le 8 (by decide) hlen9).trans (hnx3 (u0++[y0],u1,u2,u3,((1:Nat):Int)) rfl rfl)
    ·have hu:u1=r1:=Option.some.inj hg
     subst hu
     have hlen9:u1.length≤1000000000:=by have:=lR u1 (by simp); omega
     exact (ck_le 8 (by decide) hlen9).trans (hnx3 (u0,u1++[y1],u2,u3,((2:Nat):Int)) rfl rfl)
    ·have hu:u2=r2:=Option.some.inj hg
     subst hu
     have hlen9:u2.length≤1000000000:=by have:=lR u2 (by simp); omega
     exact (ck_le 8 (by decide) hlen9).trans (hnx3 (u0,u1,u2++[y2],u3,((3:Nat):Int)) rfl rfl)
    ·have hu:u3=r3:=Option.some.inj hg
     subst hu
     have hlen9:u3.length≤1000000000:=by have:=lR u3 (by simp); omega
     exact (ck_le 8 (by decide) hlen9).trans (hnx3 (u0,u1,u2,u3++[y3],((4:Nat):Int)) rfl rfl)
  ·rintro nx2 ⟨f2,w2,fa2,pa2,li2,nw2,t0,t1,t2,t3,q2⟩ k2 hk2 hv2 kp2 hl2 lS2 hnx2
   simp only at hv2 kp2 hl2 lS2
   subst hv2
   simp only
   rw[decide_eq_true (by omega),fk_t,ix_lt hk2,bnd_eq (kernel_Do_eq _ _ kp2)]
   generalize hd:doK ⟨⟨f2,w2⟩,fa2,pa2,li2,nw2⟩ script[k][k2]=d
   rw[wr_succ k2 _ hk2 (by have:=hc _ (List.getElem_mem hk); omega)]
   generalize hcc:script[k][k2]=c at hd hnx2 ⊢
   have nxt:∀S,S=sawStep (k:Int) c d.2.1 d.2.2 [t0,t1,t2,t3]→(⟨⟨d.1.Table.Frame,d.1.Table.Windows⟩,d.1.Faces,d.1.Parts,d.1.Lines,d.1.Now⟩,S)=askL (k:Int) (⟨⟨f2,w2⟩,fa2,pa2,li2,nw2⟩,[t0,t1,t2,t3]) c:=fun S hS=>by unfold askL; dsimp only; rw[hd,hS]
   by_cases q0:0≤c.Part∧c.Part<(4:Int)
   rotate_left
   ·refine jn_to (t0,t1,t2,t3) (fun k1=>jn_to false (fun k4=>?_) ?_) ?_
    ·by_cases z:c.Part≥0
     ·rw[decide_eq_true z,fk_t,decide_eq_false (by omega)]
     ·rw[decide_eq_false z,fk_f]
    ·rw[fk_f]
    ·refine hnx2 _ rfl (nxt _ ?_)
     unfold sawStep
     rw[if_neg (by simpa using q0)]
   have hi:c.Part=0∨c.Part=1∨c.Part=2∨c.Part=3:=by omega
   rcases hi with hi | hi | hi | hi
   ·refine jn_to (t0++[⟨(k:Int),d.2.1,d.2.2⟩],t1,t2,t3) (fun k1=>jn_to true (fun k4=>?_) ?_) ?_
    ·rw[decide_eq_true (by omega),fk_t,decide_eq_true (by omega)]
    ·rw[fk_t]
     rw[decide_eq_true (p:=c.Part=(0:Int)) hi,fk_t]
     exact ck_le 24 (by decide) (by have:=lS2 t0 (by simp); omega)
    ·refine hnx2 _ rfl (nxt _ ?_)
     unfold sawStep
     rw[if_pos (by simpa using q0),hi]; rfl
   ·refine jn_to (t0,t1++[⟨(k:Int),d.2.1,d.2.2⟩],t2,t3) (fun k1=>jn_to true (fun k4=>?_) ?_) ?_
    ·rw[decide_eq_true (by omega),fk_t,decide_eq_true (by omega)]
    ·rw[fk_t]
     rw[decide_eq_false (p:=c.Part=(0:Int)) (by omega),fk_f]
     rw[decide_eq_true (p:=c.Part=(1:Int)) hi,fk_t]
     exact ck_le 24 (by decide) (by have:=lS2 t1 (by simp); omega)
    ·refine hnx2 _ rfl (nxt _ ?_)
     unfold sawStep
     rw[if_pos (by simpa using q0),hi]; rfl
   ·refine jn_to (t0,t1,t2++[⟨(k:Int),d.2.1,d.2.2⟩],t3) (fun k1=>jn_to true (fun k4=>?_) ?_) ?_
    ·rw[decide_eq_true (by omega),fk_t,decide_eq_true (by omega)]
    ·rw[fk_t]
     rw[decide_eq_false (p:=c.Part=(0:Int)) (by omega),fk_f]
     rw[decide_eq_false (p:=c.Part=(1:Int)) (by omega),fk_f]
     rw[decide_eq_true (p:=c.Part=(2:Int)) hi,fk_t]
     exact ck_le 24 (by decide) (by have:=lS2 t2 (by simp); omega)
    ·refine hnx2 _ rfl (nxt _ ?_)
     unfold sawStep
     rw[if_pos (by simpa using q0),hi]; rfl
   ·refine jn_to (t0,t1,t2,t3++[⟨(k:Int),d.2.1,d.2.2⟩]) (fun k1=>jn_to true (fun k4=>?_) ?_) ?_
    ·rw[decide_eq_true (by omega),fk_t,decide_eq_true (by omega)]
    ·rw[fk_t]
     rw[decide_eq_false (p:=c.Part=(0:Int)) (by omega),fk_f]
     rw[decide_eq_false (p:=c.Part=(1:Int)) (by omega),fk_f]
     rw[decide_eq_false (p:=c.Part=(2:Int)) (by omega),fk_f]
     rw[decide_eq_true (p:=c.Part=(3:Int)) hi,fk_t]
     exact ck_le 24 (by decide) (by have:=lS2 t3 (by simp); omega)
    ·refine hnx2 _ rfl (nxt _ ?_)
     unfold sawStep
     rw[if_pos (by simpa using q0),hi]; rfl
end Go.Proofs.YtldlcdnhdedoeaaGreat
namespace Go.Proofs.YtldlcdnhdedoeaaGreat
open Go Go.VC
noncomputable def law22_Great (a0:List Int) (a1:List Law21Step):Option Bool:=
 jn (fun (w1:Bool)=>fk w1 (some true) (bnd (ref19_Decode a0) fun x3=>fk (decide (x3.2.2=(0:Int))) (bnd (law21_Great x3.1) fun x4=>some x4) (some false))) (fun k1=>fk (decide ((a0.length:Int)>(500:Int))) (k1 true) (bnd (law21_Few a1) fun x2=>k1 (!x2)))
theorem law22_Great_w (a0:List Int) (a1:List Law21Step) (r:Bool) (h:law22_Great a0 a1=some r):Go.VC.Spec Tryz.prog 39 [.d (.sl (a0.map (eI .u8))),.d (.sl (a1.map Law21Step.enc))] (fun y=>y=E_Bool r):=by
 refine Spec.of_xc (fn:=Tryz.f39) tab ⟨[(0,[0,1]),(1,[0,15]),(2,[4]),(3,[5,7]),(4,[4])],[],[100015],[]⟩ 28 [.tmp 4] rfl rfl rfl rfl rfl rfl ?_<;>conv=>whnf
 refine jnS (fun w1=>⟨[(0,.l (.d (.sl (a0.map (eI .u8))))),(15,lB w1)],28,[],[],[]⟩) h (fun k1 hk1 h=>?_) (fun w1 h=>?_)<;>conv=>whnf
 ·refine lenS a0 (eI .u8) rfl ?_<;>conv=>whnf
  refine fkS h (fun h=>?_) (fun h=>?_)<;>conv=>whnf
  ·exact jeS hk1 h wR
  refine caS (E:=E_Bool) h (law21_Few_w a1) rfl (fun _=>rfl) (fun x2 h=>?_)<;>conv=>whnf
  exact jeS hk1 h wR
 refine fkS h (fun h=>?_) (fun h=>?_)<;>conv=>whnf
 ·exact rt (E:=E_Bool) h rfl
 refine ccS (E:=E_Config_Int_Int) h (ref19_Decode_w a0) rfl rfl (fun x3 h=>?_)<;>conv=>whnf
 refine fkS h (fun h=>?_) (fun h=>?_)<;>conv=>whnf
 ·refine caS (E:=E_Bool) h (law21_Great_w x3.1) rfl (fun _=>rfl) (fun x4 h=>?_)<;>conv=>whnf
  exact rt (E:=E_Bool) h rfl
 exact rt (E:=E_Bool) h rfl
end Go.Proofs.YtldlcdnhdedoeaaGreat
namespace Go.Proofs.YtldlcdnhdedoeaaGreat
open Go Go.VC
noncomputable def law22_Same (a0:WorldView) (a1:WorldView):Option Bool:=
 fk (!decide ((a0.Saws.length:Int)=(a1.Saws.length:Int))) (some false) (lp (fun nx1 (v1:Int)=>fk (decide (v1<(a0.Saws.length:Int))) (ix a0.Saws v1 fun x2=>ix a1.Saws v1 fun x3=>fk (!(eqI [.i .i64 x2.At,.i .i64 x2.Value,.i .i64 x2.Err] [.i .i64 x3.At,.i .i64 x3.Value,.i .i64 x3.Err])) (some false) (nx1 (wr (v1+(1:Int))))) (bnd (ref05_SameInts a0.Ran a1.Ran) fun x4=>fk x4 (bnd (ref17_SameLog a0.Log a1.Log) fun x5=>some x5) (some false))) FU (0:Int))
theorem law22_Same_w (a0:WorldView) (a1:WorldView) (r:Bool) (h:law22_Same a0 a1=some r):Go.VC.Spec Tryz.prog 44 [.agg (WorldView.enc a0),.agg (WorldView.enc a1)] (fun y=>y=E_Bool r):=by
 refine Spec.of_xc (fn:=Tryz.f44) tab ⟨[(0,[2,3]),(1,[2,3,12]),(2,[4]),(3,[2,3,5]),(4,[2,3,5,17]),(5,[2,3,5]),(6,[2,3,5,30]),(7,[4]),(8,[4])],[],[],[]⟩ 43 [.tmp 4] rfl rfl rfl rfl rfl rfl ?_<;>conv=>whnf
 refine lenS a0.Saws WorldSaw.enc rfl ?_<;>conv=>whnf
 refine lenS a1.Saws WorldSaw.enc rfl ?_<;>conv=>whnf
 refine fkS h (fun h=>?_) (fun h=>?_)<;>conv=>whnf
 ·exact rt (E:=E_Bool) h rfl
 refine lpS (fun v1=>⟨[(2,.l (.ptr 3 0)),(3,.l (.ptr 4 0)),(5,lI v1)],43,[],[(3,[.d (.sl (a0.Saws.map WorldSaw.enc)),.d (.sl (a0.Ran.map (eI .i64))),.d (.sl (a0.Log.map Entry.enc))]),(4,[.d (.sl (a1.Saws.map WorldSaw.enc)),.d (.sl (a1.Ran.map (eI .i64))),.d (.sl (a1.Log.map Entry.enc))])],[]⟩) h wR (fun _ nx1 hn1 v1 h=>?_)<;>conv=>whnf
 refine lenS a0.Saws WorldSaw.enc rfl ?_<;>conv=>whnf
 refine fkS h (fun h=>?_) (fun h=>?_)<;>conv=>whnf
 ·refine⟨10,?_⟩
  conv=>whnf
  refine ixS (enc:=WorldSaw.enc) h rfl (fun _=>rfl) (fun x2 h=>?_)<;>conv=>whnf
  refine ixS (enc:=WorldSaw.enc) h rfl (fun _=>rfl) (fun x3 h=>?_)<;>conv=>whnf
  refine drS (by kernel_rfl) ?_<;>conv=>whnf
  refine fkS h (fun h=>?_) (fun h=>?_)<;>conv=>whnf
  ·exact rt (E:=E_Bool) h rfl
  exact leS hn1 h wR
 refine caS (E:=E_Bool) h (ref05_SameInts_w a0.Ran a1.Ran) rfl (fun _=>rfl) (fun x4 h=>?_)<;>conv=>whnf
 refine fkS h (fun h=>?_) (fun h=>?_)<;>conv=>whnf
 ·refine caS (E:=E_Bool) h (ref17_SameLog_w a0.Log a1.Log) rfl (fun _=>rfl) (fun x5 h=>?_)<;>conv=>whnf
  exact rt (E:=E_Bool) h rfl
 exact rt (E:=E_Bool) h rfl
end Go.Proofs.YtldlcdnhdedoeaaGreat
namespace Go.Proofs.YtldlcdnhdedoeaaGreat
open Go Go.VC
theorem great22_ex (b:List Int) (l:List Law21Step) (hb:bytesP b) (hl:l.length≤4611686018427387904) (hc:∀x∈l,x.Cmds.length≤4611686018427387904) :
  ∃g,law22_Great b l=some g∧(g=false→b.length≤500∧l.length≤100∧∀x∈l,x.Cmds.length≤10):=by
 unfold law22_Great
 rw[jn_eq]
 by_cases h5:(b.length:Int)>500
 ·rw[decide_eq_true h5,fk_t]; exact⟨true,rfl,fun h=>by cases h⟩
 rw[decide_eq_false h5,fk_f]
 obtain⟨f,hf,hff⟩:=few_ex l hl hc
 rw[bnd_eq hf]
 cases f with
 | false=>exact⟨true,rfl,fun h=>by cases h⟩
 | true=>
 obtain⟨g1,g2⟩:=hff rfl
 have hd:=ref19_Decode_ex b hb
 obtain⟨r,hr,hg⟩:=hd
 show ∃g,fk false _ (bnd (ref19_Decode b) _)=some g∧_
 rw[fk_f,bnd_eq hr]
 by_cases he:r.2.2=0
 ·rw[decide_eq_true he,fk_t]
  obtain⟨g,e,_⟩:=great_ex r.1 (goodC.conf hg).p (goodC.conf hg).t
  rw[bnd_eq e]
  exact⟨g,rfl,fun _=>⟨by omega,g1,g2⟩⟩
 ·rw[decide_eq_false he,fk_f]
  exact⟨false,rfl,fun _=>⟨by omega,g1,g2⟩⟩
theorem sameInts_refl (l:List Int) (hl:l.length≤4611686018427387904):ref05_SameInts l l=some true:=by
 unfold ref05_SameInts
 rw[decide_eq_true rfl,Bool.not_true,fk_f]
 refine lp_up l.length (by unfold FU; omega) (fun _=>True) trivial ?_
 intro nx k hk _ hnx
 rw[lt_nat]
 by_cases h:k<l.length
 ·rw[decide_eq_true h,fk_t,ix_lt h,ix_lt h,decide_eq_true rfl,Bool.not_true,fk_f,wr_succ k _ h (by omega)]
  exact hnx h trivial
 ·rw[decide_eq_false h,fk_f]
theorem sameV_refl (v:WorldView) (h1:v.Saws.length≤4611686018427387904) (h2:v.Ran.length≤4611686018427387904) (h3:v.Log.length≤4611686018427387904):law22_Same v v=some true:=by
 unfold law22_Same
 rw[decide_eq_true rfl,Bool.not_true,fk_f]
 refine lp_up v.Saws.length (by unfold FU; omega) (fun _=>True) trivial ?_
 intro nx k hk _ hnx
 rw[lt_nat]
 by_cases h:k<v.Saws.length
 ·rw[decide_eq_true h,fk_t,ix_lt h,ix_lt h,eqI_refl,Bool.not_true,fk_f,wr_succ k _ h (by omega)]
  exact hnx h trivial
 ·rw[decide_eq_false h,fk_f,bnd_eq (sameInts_refl _ h2),fk_t,bnd_eq (sameLog_eq _ h3)]
end Go.Proofs.YtldlcdnhdedoeaaGreat
namespace Go.Proofs.YtldlcdnhdedoeaaGreat
open Go Go.VC
noncomputable def law22_WorldPlays (a0:List Int) (a1:List Law21Step):Option Bool:=
 bnd (law22_Great a0 a1) fun x1=>fk x1 (bnd law22_knows fun x2=>some x2) (ck (decide ((([]:List Int).length+a0.length)*1≤140737488355328)) (bnd (law22_script a1) fun x3=>bnd (world_Play (([]:List Int)++a0) x3) fun x4=>bnd (image_Decode a0) fun x5=>fk (!decide (x5.2.2=(0:Int))) (fk (decide ((x4.1.length:Int)=(0:Int))) (fk (decide (x4.2=x5.2.2)) (bnd law22_knows fun x6=>some x6) (some false)) (some false)) (bnd (kernel_Boot x5.1) fun x7=>fk (!decide (x7.2=(0:Int))) (fk (decide ((x4.1.length:Int)=(0:Int))) (fk (decide (x4.2=x7.2)) (bnd law22_knows fun x8=>some x8) (some false)) (some false)) (fk (decide ((x7.1.Parts.length:Int)=(0:Int))) (lp (fun nx125 (v125:Int×(List Window)×(List Face)×(List PartState)×(List PortLine)×Int×Int)=>fk (decide (v125.2.2.2.2.2.2<(a1.length:Int))) (lp (fun nx126 (v126:Int×(List Window)×(List Face)×(List PartState)×(List PortLine)×Int×Int)=>ix a1 v125.2.2.2.2.2.2 fun x127=>fk (decide (v126.2.2.2.2.2.2<(x127.Cmds.length:Int))) (jn (fun (w128:Int×(List Window)×(List Face)×(List PartState)×(List PortLine)×Int)=>nx126 (w128.1,w128.2.1,w128.2.2.1,w128.2.2.2.1,w128.2.2.2.2.1,w128.2.2.2.2.2,(wr (v126.2.2.2.2.2.2+(1:Int))))) (fun k128=>ix a1 v125.2.2.2.2.2.2 fun x129=>ix x129.Cmds v126.2.2.2.2.2.2 fun x130=>bnd (kernel_Do (⟨⟨v126.1,v126.2.1⟩,v126.2.2.1,v126.2.2.2.1,v126.2.2.2.2.1,v126.2.2.2.2.2.1⟩) x130) fun x131=>jn (fun (w132:Bool)=>fk w132 (none) (k128 (x131.1.Table.Frame,x131.1.Table.Windows,x131.1.Faces,x131.1.Parts,x131.1.Lines,x131.1.Now))) (fun k132=>fk (decide (x130.Part≥(0:Int))) (k132 (decide (x130.Part<(0:Int)))) (k132 false)))) (bnd (kernel_Tick (⟨⟨v126.1,v126.2.1⟩,v126.2.2.1,v126.2.2.2.1,v126.2.2.2.2.1,v126.2.2.2.2.2.1⟩)) fun x133=>fk (!decide ((x133.2.1.length:Int)=(0:Int))) (some false) (lp (fun nx134 (v134:Unit)=>nx125 (x133.1.Table.Frame,x133.1.Table.Windows,x133.1.Faces,x133.1.Parts,x133.1.Lines,x133.1.Now,(wr (v125.2.2.2.2.2.2+(1:Int))))) FU ()))) FU (v125.1,v125.2.1,v125.2.2.1,v125.2.2.2.1,v125.2.2.2.2.1,v125.2.2.2.2.2.1,(0:Int))) (jn (fun (w135:Bool)=>fk w135 (some false) (lp (fun nx136 (v136:Unit)=>bnd law22_knows fun x137=>some x137) FU ())) (fun k135=>fk (!decide ((x4.1.length:Int)=(0:Int))) (k135 true) (k135 (!decide (x4.2=(0:Int))))))) FU (x7.1.Table.Frame,x7.1.Table.Windows,x7.1.Faces,x7.1.Parts,x7.1.Lines,x7.1.Now,(0:Int))) (fk (decide ((x7.1.Parts.length:Int)=(1:Int))) (lp (fun nx105 (v105:Int×(List Window)×(List Face)×(List PartState)×(List PortLine)×Int×(List WorldSaw)×(List Int)×Int)=>fk (decide (v105.2.2.2.2.2.2.2.2<(a1.length:Int))) (lp (fun nx106 (v106:Int×(List Window)×(List Face)×(List PartState)×(List PortLine)×Int×(List WorldSaw)×Int)=>ix a1 v105.2.2.2.2.2.2.2.2 fun x107=>fk (decide (v106.2.2.2.2.2.2.2<(x107.Cmds.length:Int))) (jn (fun (w108:Int×(List Window)×(List Face)×(List PartState)×(List PortLine)×Int×(List WorldSaw))=>nx106 (w108.1,w108.2.1,w108.2.2.1,w108.2.2.2.1,w108.2.2.2.2.1,w108.2.2.2.2.2.1,w108.2.2.2.2.2.2,(wr (v106.2.2.2.2.2.2.2+(1:Int))))) (fun k108=>ix a1 v105.2.2.2.2.2.2.2.2 fun x109=>ix x109.Cmds v106.2.2.2.2.2.2.2 fun x110=>bnd (kernel_Do (⟨⟨v106.1,v106.2.1⟩,v106.2.2.1,v106.2.2.2.1,v106.2.2.2.2.1,v106.2.2.2.2.2.1⟩) x110) fun x111=>jn (fun (w112:Bool)=>fk w112 (fk (decide (x110.Part=(0:Int))) (ck (decide ((v106.2.2.2.2.2.2.1.length+([⟨v105.2.2.2.2.2.2.2.2,x111.2.1,x111.2.2⟩]:List WorldSaw).length)*24≤140737488355328)) (k108 (x111.1.Table.Frame,x111.1.Table.Windows,x111.1.Faces,x111.1.Parts,x111.1.Lines,x111.1.Now,v106.2.2.2.2.2.2.1++([⟨v105.2.2.2.2.2.2.2.2,x111.2.1,x111.2.2⟩]:List WorldSaw)))) (none)) (k108 (x111.1.Table.Frame,x111.1.Table.Windows,x111.1.Faces,x111.1.Parts,x111.1.Lines,x111.1.Now,v106.2.2.2.2.2.2.1))) (fun k112=>fk (decide (x110.Part≥(0:Int))) (k112 (decide (x110.Part<(1:Int)))) (k112 false)))) (bnd (kernel_Tick (⟨⟨v106.1,v106.2.1⟩,v106.2.2.1,v106.2.2.2.1,v106.2.2.2.2.1,v106.2.2.2.2.2.1⟩)) fun x114=>fk (!decide ((x114.2.1.length:Int)=(1:Int))) (some false) (lp (fun nx115 (v115:(List Int)×Int)=>fk (decide (v115.2<(1:Int))) (fk (decide (v115.2=(0:Int))) (ix x114.2.1 v115.2 fun x117=>ck (decide ((v115.1.length+([x117]:List Int).length)*8≤140737488355328)) (nx115 (v115.1++([x117]:List Int),(wr (v115.2+(1:Int)))))) (none)) (nx105 (x114.1.Table.Frame,x114.1.Table.Windows,x114.1.Faces,x114.1.Parts,x114.1.Lines,x114.1.Now,v106.2.2.2.2.2.2.1,v115.1,(wr (v105.2.2.2.2.2.2.2.2+(1:Int)))))) FU (v105.2.2.2.2.2.2.2.1,(0:Int))))) FU (v105.1,v105.2.1,v105.2.2.1,v105.2.2.2.1,v105.2.2.2.2.1,v105.2.2.2.2.2.1,v105.2.2.2.2.2.2.1,(0:Int))) (jn (fun (w118:Bool)=>fk w118 (some false) (lp (fun nx119 (v119:(List Entry)×Int)=>fk (decide (v119.2<(1:Int))) (ix v105.2.2.2.1 v119.2 fun x120=>fk (decide (v119.2=(0:Int))) (ix x4.1 v119.2 fun x122=>bnd (law22_Same x122 ⟨v105.2.2.2.2.2.2.1,v105.2.2.2.2.2.2.2.1,x120.Log⟩) fun x123=>fk (!x123) (some false) (nx119 (x120.Log,(wr (v119.2+(1:Int)))))) (none)) (bnd law22_knows fun x124=>some x124)) FU ([],(0:Int)))) (fun k118=>fk (!decide ((x4.1.length:Int)=(1:Int))) (k118 true) (k118 (!decide (x4.2=(0:Int))))))) FU (x7.1.Table.Frame,x7.1.Table.Windows,x7.1.Faces,x7.1.Parts,x7.1.Lines,x7.1.Now,[],[],(0:Int))) (fk (decide ((x7.1.Parts.length:Int)=(2:Int))) (lp (fun nx79 (v79:Int×(List Window)×(List Face)×(List PartState)×(List PortLine)×Int×(List WorldSaw)×(List Int)×(List WorldSaw)×(List Int)×Int)=>fk (decide (v79.2.2.2.2.2.2.2.2.2.2<(a1.length:Int))) (lp (fun nx80 (v80:Int×(List Window)×(List Face)×(List PartState)×(List PortLine)×Int×(List WorldSaw)×(List WorldSaw)×Int)=>ix a1 v79.2.2.2.2.2.2.2.2.2.2 fun x81=>fk (decide (v80.2.2.2.2.2.2.2.2<(x81.Cmds.length:Int))) (jn (fun (w82:Int×(List Window)×(List Face)×(List PartState)×(List PortLine)×Int×(List WorldSaw)×(List WorldSaw))=>nx80 (w82.1,w82.2.1,w82.2.2.1,w82.2.2.2.1,w82.2.2.2.2.1,w82.2.2.2.2.2.1,w82.2.2.2.2.2.2.1,w82.2.2.2.2.2.2.2,(wr (v80.2.2.2.2.2.2.2.2+(1:Int))))) (fun k82=>ix a1 v79.2.2.2.2.2.2.2.2.2.2 fun x83=>ix x83.Cmds v80.2.2.2.2.2.2.2.2 fun x84=>bnd (kernel_Do (⟨⟨v80.1,v80.2.1⟩,v80.2.2.1,v80.2.2.2.1,v80.2.2.2.2.1,v80.2.2.2.2.2.1⟩) x84) fun x85=>jn (fun (w86:Bool)=>fk w86 (fk (decide (x84.Part=(0:Int))) (ck (decide ((v80.2.2.2.2.2.2.1.length+([⟨v79.2.2.2.2.2.2.2.2.2.2,x85.2.1,x85.2.2⟩]:List WorldSaw).length)*24≤140737488355328)) (k82 (x85.1.Table.Frame,x85.1.Table.Windows,x85.1.Faces,x85.1.Parts,x85.1.Lines,x85.1.Now,v80.2.2.2.2.2.2.1++([⟨v79.2.2.2.2.2.2.2.2.2.2,x85.2.1,x85.2.2⟩]:List WorldSaw),v80.2.2.2.2.2.2.2.1))) (fk (decide (x84.Part=(1:Int))) (ck (decide ((v80.2.2.2.2.2.2.2.1.length+([⟨v79.2.2.2.2.2.2.2.2.2.2,x85.2.1,x85.2.2⟩]:List WorldSaw).length)*24≤140737488355328)) (k82 (x85.1.Table.Frame,x85.1.Table.Windows,x85.1.Faces,x85.1.Parts,x85.1.Lines,x85.1.Now,v80.2.2.2.2.2.2.1,v80.2.2.2.2.2.2.2.1++([⟨v79.2.2.2.2.2.2.2.2.2.2,x85.2.1,x85.2.2⟩]:List WorldSaw)))) (none))) (k82 (x85.1.Table.Frame,x85.1.Table.Windows,x85.1.Faces,x85.1.Parts,x85.1.Lines,x85.1.Now,v80.2.2.2.2.2.2.1,v80.2.2.2.2.2.2.2.1))) (fun k86=>fk (decide (x84.Part≥(0:Int))) (k86 (decide (x84.Part<(2:Int)))) (k86 false)))) (bnd (kernel_Tick (⟨⟨v80.1,v80.2.1⟩,v80.2.2.1,v80.2.2.2.1,v80.2.2.2.2.1,v80.2.2.2.2.2.1⟩)) fun x89=>fk (!decide ((x89.2.1.length:Int)=(2:Int))) (some false) (lp (fun nx90 (v90:(List Int)×(List Int)×Int)=>fk (decide (v90.2.2<(2:Int))) (fk (decide (v90.2.2=(0:Int))) (ix x89.2.1 v90.2.2 fun x94=>ck (decide ((v90.1.length+([x94]:List Int).length)*8≤140737488355328)) (nx90 (v90.1++([x94]:List Int),v90.2.1,(wr (v90.2.2+(1:Int)))))) (fk (decide (v90.2.2=(1:Int))) (ix x89.2.1 v90.2.2 fun x93=>ck (decide ((v90.2.1.length+([x93]:List Int).length)*8≤140737488355328)) (nx90 (v90.1,v90.2.1++([x93]:List Int),(wr (v90.2.2+(1:Int)))))) (none))) (nx79 (x89.1.Table.Frame,x89.1.Table.Windows,x89.1.Faces,x89.1.Parts,x89.1.Lines,x89.1.Now,v80.2.2.2.2.2.2.1,v90.1,v80.2.2.2.2.2.2.2.1,v90.2.1,(wr (v79.2.2.2.2.2.2.2.2.2.2+(1:Int)))))) FU (v79.2.2.2.2.2.2.2.1,v79.2.2.2.2.2.2.2.2.2.1,(0:Int))))) FU (v79.1,v79.2.1,v79.2.2.1,v79.2.2.2.1,v79.2.2.2.2.1,v79.2.2.2.2.2.1,v79.2.2.2.2.2.2.1,v79.2.2.2.2.2.2.2.2.1,(0:Int))) (jn (fun (w95:Bool)=>fk w95 (some false) (lp (fun nx96 (v96:(List Entry)×(List Entry)×Int)=>fk (decide (v96.2.2<(2:Int))) (ix v79.2.2.2.1 v96.2.2 fun x97=>fk (decide (v96.2.2=(0:Int))) (ix x4.1 v96.2.2 fun x102=>bnd (law22_Same x102 ⟨v79.2.2.2.2.2.2.1,v79.2.2.2.2.2.2.2.1,x97.Log⟩) fun x103=>fk (!x103) (some false) (nx96 (x97.Log,v96.2.1,(wr (v96.2.2+(1:Int)))))) (fk (decide (v96.2.2=(1:Int))) (ix x4.1 v96.2.2 fun x100=>bnd (law22_Same x100 ⟨v79.2.2.2.2.2.2.2.2.1,v79.2.2.2.2.2.2.2.2.2.1,x97.Log⟩) fun x101=>fk (!x101) (some false) (nx96 (v96.1,x97.Log,(wr (v96.2.2+(1:Int)))))) (none))) (bnd law22_knows fun x104=>some x104)) FU ([],[],(0:Int)))) (fun k95=>fk (!decide ((x4.1.length:Int)=(2:Int))) (k95 true) (k95 (!decide (x4.2=(0:Int))))))) FU (x7.1.Table.Frame,x7.1.Table.Windows,x7.1.Faces,x7.1.Parts,x7.1.Lines,x7.1.Now,[],[],[],[],(0:Int))) (fk (decide ((x7.1.Parts.length:Int)=(3:Int))) (lp (fun nx47 (v47:Int×(List Window)×(List Face)×(List PartState)×(List PortLine)×Int×(List WorldSaw)×(List Int)×(List WorldSaw)×(List Int)×(List WorldSaw)×(List Int)×Int)=>fk (decide (v47.2.2.2.2.2.2.2.2.2.2.2.2<(a1.length:Int))) (lp (fun nx48 (v48:Int×(List Window)×(List Face)×(List PartState)×(List PortLine)×Int×(List WorldSaw)×(List WorldSaw)×(List WorldSaw)×Int)=>ix a1 v47.2.2.2.2.2.2.2.2.2.2.2.2 fun x49=>fk (decide (v48.2.2.2.2.2.2.2.2.2<(x49.Cmds.length:Int))) (jn (fun (w50:Int×(List Window)×(List Face)×(List PartState)×(List PortLine)×Int×(List WorldSaw)×(List WorldSaw)×(List WorldSaw))=>nx48 (w50.1,w50.2.1,w50.2.2.1,w50.2.2.2.1,w50.2.2.2.2.1,w50.2.2.2.2.2.1,w50.2.2.2.2.2.2.1,w50.2.2.2.2.2.2.2.1,w50.2.2.2.2.2.2.2.2,(wr (v48.2.2.2.2.2.2.2.2.2+(1:Int))))) (fun k50=>ix a1 v47.2.2.2.2.2.2.2.2.2.2.2.2 fun x51=>ix x51.Cmds v48.2.2.2.2.2.2.2.2.2 fun x52=>bnd (kernel_Do (⟨⟨v48.1,v48.2.1⟩,v48.2.2.1,v48.2.2.2.1,v48.2.2.2.2.1,v48.2.2.2.2.2.1⟩) x52) fun x53=>jn (fun (w54:Bool)=>fk w54 (fk (decide (x52.Part=(0:Int))) (ck (decide ((v48.2.2.2.2.2.2.1.length+([⟨v47.2.2.2.2.2.2.2.2.2.2.2.2,x53.2.1,x53.2.2⟩]:List WorldSaw).length)*24≤140737488355328)) (k50 (x53.1.Table.Frame,x53.1.Table.Windows,x53.1.Faces,x53.1.Parts,x53.1.Lines,x53.1.Now,v48.2.2.2.2.2.2.1++([⟨v47.2.2.2.2.2.2.2.2.2.2.2.2,x53.2.1,x53.2.2⟩]:List WorldSaw),v48.2.2.2.2.2.2.2.1,v48.2.2.2.2.2.2.2.2.1))) (fk (decide (x52.Part=(1:Int))) (ck (decide ((v48.2.2.2.2.2.2.2.1.length+([⟨v47.2.2.2.2.2.2.2.2.2.2.2.2,x53.2.1,x53.2.2⟩]:List WorldSaw).length)*24≤140737488355328)) (k50 (x53.1.Table.Frame,x53.1.Table.Windows,x53.1.Faces,x53.1.Parts,x53.1.Lines,x53.1.Now,v48.2.2.2.2.2.2.1,v48.2.2.2.2.2.2.2.1++([⟨v47.2.2.2.2.2.2.2.2.2.2.2.2,x53.2.1,x53.2.2⟩]:List WorldSaw),v48.2.2.2.2.2.2.2.2.1))) (fk (decide (x52.Part=(2:Int))) (ck (decide ((v48.2.2.2.2.2.2.2.2.1.length+([⟨v47.2.2.2.2.2.2.2.2.2.2.2.2,x53.2.1,x53.2.2⟩]:List WorldSaw).length)*24≤140737488355328)) (k50 (x53.1.Table.Frame,x53.1.Table.Windows,x53.1.Faces,x53.1.Parts,x53.1.Lines,x53.1.Now,v48.2.2.2.2.2.2.1,v48.2.2.2.2.2.2.2.1,v48.2.2.2.2.2.2.2.2.1++([⟨v47.2.2.2.2.2.2.2.2.2.2.2.2,x53.2.1,x53.2.2⟩]:List WorldSaw)))) (none)))) (k50 (x53.1.Table.Frame,x53.1.Table.Windows,x53.1.Faces,x53.1.Parts,x53.1.Lines,x53.1.Now,v48.2.2.2.2.2.2.1,v48.2.2.2.2.2.2.2.1,v48.2.2.2.2.2.2.2.2.1))) (fun k54=>fk (decide (x52.Part≥(0:Int))) (k54 (decide (x52.Part<(3:Int)))) (k54 false)))) (bnd (kernel_Tick (⟨⟨v48.1,v48.2.1⟩,v48.2.2.1,v48.2.2.2.1,v48.2.2.2.2.1,v48.2.2.2.2.2.1⟩)) fun x58=>fk (!decide ((x58.2.1.length:Int)=(3:Int))) (some false) (lp (fun nx59 (v59:(List Int)×(List Int)×(List Int)×Int)=>fk (decide (v59.2.2.2<(3:Int))) (fk (decide (v59.2.2.2=(0:Int))) (ix x58.2.1 v59.2.2.2 fun x65=>ck (decide ((v59.1.length+([x65]:List Int).length)*8≤140737488355328)) (nx59 (v59.1++([x65]:List Int),v59.2.1,v59.2.2.1,(wr (v59.2.2.2+(1:Int)))))) (fk (decide (v59.2.2.2=(1:Int))) (ix x58.2.1 v59.2.2.2 fun x64=>ck (decide ((v59.2.1.length+([x64]:List Int).length)*8≤140737488355328)) (nx59 (v59.1,v59.2.1++([x64]:List Int),v59.2.2.1,(wr (v59.2.2.2+(1:Int)))))) (fk (decide (v59.2.2.2=(2:Int))) (ix x58.2.1 v59.2.2.2 fun x63=>ck (decide ((v59.2.2.1.length+([x63]:List Int).length)*8≤140737488355328)) (nx59 (v59.1,v59.2.1,v59.2.2.1++([x63]:List Int),(wr (v59.2.2.2+(1:Int)))))) (none)))) (nx47 (x58.1.Table.Frame,x58.1.Table.Windows,x58.1.Faces,x58.1.Parts,x58.1.Lines,x58.1.Now,v48.2.2.2.2.2.2.1,v59.1,v48.2.2.2.2.2.2.2.1,v59.2.1,v48.2.2.2.2.2.2.2.2.1,v59.2.2.1,(wr (v47.2.2.2.2.2.2.2.2.2.2.2.2+(1:Int)))))) FU (v47.2.2.2.2.2.2.2.1,v47.2.2.2.2.2.2.2.2.2.1,v47.2.2.2.2.2.2.2.2.2.2.2.1,(0:Int))))) FU (v47.1,v47.2.1,v47.2.2.1,v47.2.2.2.1,v47.2.2.2.2.1,v47.2.2.2.2.2.1,v47.2.2.2.2.2.2.1,v47.2.2.2.2.2.2.2.2.1,v47.2.2.2.2.2.2.2.2.2.2.1,(0:Int))) (jn (fun (w66:Bool)=>fk w66 (some false) (lp (fun nx67 (v67:(List Entry)×(List Entry)×(List Entry)×Int)=>fk (decide (v67.2.2.2<(3:Int))) (ix v47.2.2.2.1 v67.2.2.2 fun x68=>fk (decide (v67.2.2.2=(0:Int))) (ix x4.1 v67.2.2.2 fun x76=>bnd (law22_Same x76 ⟨v47.2.2.2.2.2.2.1,v47.2.2.2.2.2.2.2.1,x68.Log⟩) fun x77=>fk (!x77) (some false) (nx67 (x68.Log,v67.2.1,v67.2.2.1,(wr (v67.2.2.2+(1:Int)))))) (fk (decide (v67.2.2.2=(1:Int))) (ix x4.1 v67.2.2.2 fun x74=>bnd (law22_Same x74 ⟨v47.2.2.2.2.2.2.2.2.1,v47.2.2.2.2.2.2.2.2.2.1,x68.Log⟩) fun x75=>fk (!x75) (some false) (nx67 (v67.1,x68.Log,v67.2.2.1,(wr (v67.2.2.2+(1:Int)))))) (fk (decide (v67.2.2.2=(2:Int))) (ix x4.1 v67.2.2.2 fun x72=>bnd (law22_Same x72 ⟨v47.2.2.2.2.2.2.2.2.2.2.1,v47.2.2.2.2.2.2.2.2.2.2.2.1,x68.Log⟩) fun x73=>fk (!x73) (some false) (nx67 (v67.1,v67.2.1,x68.Log,(wr (v67.2.2.2+(1:Int)))))) (none)))) (bnd law22_knows fun x78=>some x78)) FU ([],[],[],(0:Int)))) (fun k66=>fk (!decide ((x4.1.length:Int)=(3:Int))) (k66 true) (k66 (!decide (x4.2=(0:Int))))))) FU (x7.1.Table.Frame,x7.1.Table.Windows,x7.1.Faces,x7.1.Parts,x7.1.Lines,x7.1.Now,[],[],[],[],[],[],(0:Int))) (fk (decide ((x7.1.Parts.length:Int)=(4:Int))) (lp (fun nx9 (v9:Int×(List Window)×(List Face)×(List PartState)×(List PortLine)×Int×(List WorldSaw)×(List Int)×(List WorldSaw)×(List Int)×(List WorldSaw)×(List Int)×(List WorldSaw)×(List Int)×Int)=>fk (decide (v9.2.2.2.2.2.2.2.2.2.2.2.2.2.2<(a1.length:Int))) (lp (fun nx10 (v10:Int×(List Window)×(List Face)×(List PartState)×(List PortLine)×Int×(List WorldSaw)×(List WorldSaw)×(List WorldSaw)×(List WorldSaw)×Int)=>ix a1 v9.2.2.2.2.2.2.2.2.2.2.2.2.2.2 fun x11=>fk (decide (v10.2.2.2.2.2.2.2.2.2.2<(x11.Cmds.length:Int))) (jn (fun (w12:Int×(List Window)×(List Face)×(List PartState)×(List PortLine)×Int×(List WorldSaw)×(List WorldSaw)×(List WorldSaw)×(List WorldSaw))=>nx10 (w12.1,w12.2.1,w12.2.2.1,w12.2.2.2.1,w12.2.2.2.2.1,w12.2.2.2.2.2.1,w12.2.2.2.2.2.2.1,w12.2.2.2.2.2.2.2.1,w12.2.2.2.2.2.2.2.2.1,w12.2.2.2.2.2.2.2.2.2,(wr (v10.2.2.2.2.2.2.2.2.2.2+(1:Int))))) (fun k12=>ix a1 v9.2.2.2.2.2.2.2.2.2.2.2.2.2.2 fun x13=>ix x13.Cmds v10.2.2.2.2.2.2.2.2.2.2 fun x14=>bnd (kernel_Do (⟨⟨v10.1,v10.2.1⟩,v10.2.2.1,v10.2.2.2.1,v10.2.2.2.2.1,v10.2.2.2.2.2.1⟩) x14) fun x15=>jn (fun (w16:Bool)=>fk w16 (fk (decide (x14.Part=(0:Int))) (ck (decide ((v10.2.2.2.2.2.2.1.length+([⟨v9.2.2.2.2.2.2.2.2.2.2.2.2.2.2,x15.2.1,x15.2.2⟩]:List WorldSaw).length)*24≤140737488355328)) (k12 (x15.1.Table.Frame,x15.1.Table.Windows,x15.1.Faces,x15.1.Parts,x15.1.Lines,x15.1.Now,v10.2.2.2.2.2.2.1++([⟨v9.2.2.2.2.2.2.2.2.2.2.2.2.2.2,x15.2.1,x15.2.2⟩]:List WorldSaw),v10.2.2.2.2.2.2.2.1,v10.2.2.2.2.2.2.2.2.1,v10.2.2.2.2.2.2.2.2.2.1))) (fk (decide (x14.Part=(1:Int))) (ck (decide ((v10.2.2.2.2.2.2.2.1.length+([⟨v9.2.2.2.2.2.2.2.2.2.2.2.2.2.2,x15.2.1,x15.2.2⟩]:List WorldSaw).length)*24≤140737488355328)) (k12 (x15.1.Table.Frame,x15.1.Table.Windows,x15.1.Faces,x15.1.Parts,x15.1.Lines,x15.1.Now,v10.2.2.2.2.2.2.1,v10.2.2.2.2.2.2.2.1++([⟨v9.2.2.2.2.2.2.2.2.2.2.2.2.2.2,x15.2.1,x15.2.2⟩]:List WorldSaw),v10.2.2.2.2.2.2.2.2.1,v10.2.2.2.2.2.2.2.2.2.1))) (fk (decide (x14.Part=(2:Int))) (ck (decide ((v10.2.2.2.2.2.2.2.2.1.length+([⟨v9.2.2.2.2.2.2.2.2.2.2.2.2.2.2,x15.2.1,x15.2.2⟩]:List WorldSaw).length)*24≤140737488355328)) (k12 (x15.1.Table.Frame,x15.1.Table.Windows,x15.1.Faces,x15.1.Parts,x15.1.Lines,x15.1.Now,v10.2.2.2.2.2.2.1,v10.2.2.2.2.2.2.2.1,v10.2.2.2.2.2.2.2.2.1++([⟨v9.2.2.2.2.2.2.2.2.2.2.2.2.2.2,x15.2.1,x15.2.2⟩]:List WorldSaw),v10.2.2.2.2.2.2.2.2.2.1))) (fk (decide (x14.Part=(3:Int))) (ck (decide ((v10.2.2.2.2.2.2.2.2.2.1.length+([⟨v9.2.2.2.2.2.2.2.2.2.2.2.2.2.2,x15.2.1,x15.2.2⟩]:List WorldSaw).length)*24≤140737488355328)) (k12 (x15.1.Table.Frame,x15.1.Table.Windows,x15.1.Faces,x15.1.Parts,x15.1.Lines,x15.1.Now,v10.2.2.2.2.2.2.1,v10.2.2.2.2.2.2.2.1,v10.2.2.2.2.2.2.2.2.1,v10.2.2.2.2.2.2.2.2.2.1++([⟨v9.2.2.2.2.2.2.2.2.2.2.2.2.2.2,x15.2.1,x15.2.2⟩]:List WorldSaw)))) (none))))) (k12 (x15.1.Table.Frame,x15.1.Table.Windows,x15.1.Faces,x15.1.Parts,x15.1.Lines,x15.1.Now,v10.2.2.2.2.2.2.1,v10.2.2.2.2.2.2.2.1,v10.2.2.2.2.2.2.2.2.1,v10.2.2.2.2.2.2.2.2.2.1))) (fun k16=>fk (decide (x14.Part≥(0:Int))) (k16 (decide (x14.Part<(4:Int)))) (k16 false)))) (bnd (kernel_Tick (⟨⟨v10.1,v10.2.1⟩,v10.2.2.1,v10.2.2.2.1,v10.2.2.2.2.1,v10.2.2.2.2.2.1⟩)) fun x21=>fk (!decide ((x21.2.1.length:Int)=(4:Int))) (some false) (lp (fun nx22 (v22:(List Int)×(List Int)×(List Int)×(List Int)×Int)=>fk (decide (v22.2.2.2.2<(4:Int))) (fk (decide (v22.2.2.2.2=(0:Int))) (ix x21.2.1 v22.2.2.2.2 fun x30=>ck (decide ((v22.1.length+([x30]:List Int).length)*8≤140737488355328)) (nx22 (v22.1++([x30]:List Int),v22.2.1,v22.2.2.1,v22.2.2.2.1,(wr (v22.2.2.2.2+(1:Int)))))) (fk (decide (v22.2.2.2.2=(1:Int))) (ix x21.2.1 v22.2.2.2.2 fun x29=>ck (decide ((v22.2.1.length+([x29]:List Int).length)*8≤140737488355328)) (nx22 (v22.1,v22.2.1++([x29]:List Int),v22.2.2.1,v22.2.2.2.1,(wr (v22.2.2.2.2+(1:Int)))))) (fk (decide (v22.2.2.2.2=(2:Int))) (ix x21.2.1 v22.2.2.2.2 fun x28=>ck (decide ((v22.2.2.1.length+([x28]:List Int).length)*8≤140737488355328)) (nx22 (v22.1,v22.2.1,v22.2.2.1++([x28]:List Int),v22.2.2.2.1,(wr (v22.2.2.2.2+(1:Int)))))) (fk (decide (v22.2.2.2.2=(3:Int))) (ix x21.2.1 v22.2.2.2.2 fun x27=>ck (decide ((v22.2.2.2.1.length+([x27]:List Int).length)*8≤140737488355328)) (nx22 (v22.1,v22.2.1,v22.2.2.1,v22.2.2.2.1++([x27]:List Int),(wr (v22.2.2.2.2+(1:Int)))))) (none))))) (nx9 (x21.1.Table.Frame,x21.1.Table.Windows,x21.1.Faces,x21.1.Parts,x21.1.Lines,x21.1.Now,v10.2.2.2.2.2.2.1,v22.1,v10.2.2.2.2.2.2.2.1,v22.2.1,v10.2.2.2.2.2.2.2.2.1,v22.2.2.1,v10.2.2.2.2.2.2.2.2.2.1,v22.2.2.2.1,(wr (v9.2.2.2.2.2.2.2.2.2.2.2.2.2.2+(1:Int)))))) FU (v9.2.2.2.2.2.2.2.1,v9.2.2.2.2.2.2.2.2.2.1,v9.2.2.2.2.2.2.2.2.2.2.2.1,v9.2.2.2.2.2.2.2.2.2.2.2.2.2.1,(0:Int))))) FU (v9.1,v9.2.1,v9.2.2.1,v9.2.2.2.1,v9.2.2.2.2.1,v9.2.2.2.2.2.1,v9.2.2.2.2.2.2.1,v9.2.2.2.2.2.2.2.2.1,v9.2.2.2.2.2.2.2.2.2.2.1,v9.2.2.2.2.2.2.2.2.2.2.2.2.1,(0:Int))) (jn (fun (w31:Bool)=>fk w31 (some false) (lp (fun nx32 (v32:(List Entry)×(List Entry)×(List Entry)×(List Entry)×Int)=>fk (decide (v32.2.2.2.2<(4:Int))) (ix v9.2.2.2.1 v32.2.2.2.2 fun x33=>fk (decide (v32.2.2.2.2=(0:Int))) (ix x4.1 v32.2.2.2.2 fun x44=>bnd (law22_Same x44 ⟨v9.2.2.2.2.2.2.1,v9.2.2.2.2.2.2.2.1,x33.Log⟩) fun x45=>fk (!x45) (some false) (nx32 (x33.Log,v32.2.1,v32.2.2.1,v32.2.2.2.1,(wr (v32.2.2.2.2+(1:Int)))))) (fk (decide (v32.2.2.2.2=(1:Int))) (ix x4.1 v32.2.2.2.2 fun x42=>bnd (law22_Same x42 ⟨v9.2.2.2.2.2.2.2.2.1,v9.2.2.2.2.2.2.2.2.2.1,x33.Log⟩) fun x43=>fk (!x43) (some false) (nx32 (v32.1,x33.Log,v32.2.2.1,v32.2.2.2.1,(wr (v32.2.2.2.2+(1:Int)))))) (fk (decide (v32.2.2.2.2=(2:Int))) (ix x4.1 v32.2.2.2.2 fun x40=>bnd (law22_Same x40 ⟨v9.2.2.2.2.2.2.2.2.2.2.1,v9.2.2.2.2.2.2.2.2.2.2.2.1,x33.Log⟩) fun x41=>fk (!x41) (some false) (nx32 (v32.1,v32.2.1,x33.Log,v32.2.2.2.1,(wr (v32.2.2.2.2+(1:Int)))))) (fk (decide (v32.2.2.2.2=(3:Int))) (ix x4.1 v32.2.2.2.2 fun x38=>bnd (law22_Same x38 ⟨v9.2.2.2.2.2.2.2.2.2.2.2.2.1,v9.2.2.2.2.2.2.2.2.2.2.2.2.2.1,x33.Log⟩) fun x39=>fk (!x39) (some false) (nx32 (v32.1,v32.2.1,v32.2.2.1,x33.Log,(wr (v32.2.2.2.2+(1:Int)))))) (none))))) (bnd law22_knows fun x46=>some x46)) FU ([],[],[],[],(0:Int)))) (fun k31=>fk (!decide ((x4.1.length:Int)=(4:Int))) (k31 true) (k31 (!decide (x4.2=(0:Int))))))) FU (x7.1.Table.Frame,x7.1.Table.Windows,x7.1.Faces,x7.1.Parts,x7.1.Lines,x7.1.Now,[],[],[],[],[],[],[],[],(0:Int))) (none)))))))))
theorem law22_WorldPlays_w (a0:List Int) (a1:List Law21Step) (r:Bool) (h:law22_WorldPlays a0 a1=some r):Go.VC.Spec Tryz.prog 7 [.d (.sl (a0.map (eI .u8))),.d (.sl (a1.map Law21Step.enc))] (fun y=>y=E_Bool r):=by
 refine Spec.of_xc (fn:=Tryz.f7) tab ⟨[(0,[0,1]),(1,[0,1,26]),(2,[4]),(3,[0,1,5,6]),(4,[1,5,6,7,9]),(5,[1,5,6,7,9,44]),(6,[4]),(7,[1,5,6,10,11]),(8,[1,5,6,10,11,62]),(9,[4]),(10,[1,5,6,10,12]),(11,[1,5,6,10,12,13]),(12,[1,5,6,10,12,13,81]),(13,[1,5,6,10,12,13]),(14,[1,5,6,10,12,13,14]),(15,[1,5,6,10,12,13,14,91]),(16,[1,5,6,10,12,13,14]),(17,[1,5,6,10,12,13,14,15]),(18,[1,5,6,10,12,13,14,15,16,17,18]),(19,[1,5,6,10,12,13,14,15,17,18]),(20,[1,5,6,10,12,13,14,15,17,18,119]),(21,[1,5,6,10,12,13,14]),(22,[1,5,6,10,12,13,19,20]),(23,[1,5,6,10,12,13,20]),(24,[1,5,6,10,12,13,20,148]),(25,[4]),(26,[1,5,6,10,12,13,20,22]),(27,[1,5,6,10,12,13,20,22,152]),(28,[1,5,6,10,12,13,20,22]),(29,[1,5,6,10,12,13,20,22]),(30,[5,10,12,178]),(31,[4]),(32,[5,10,12,23]),(33,[5,10,12,23,182]),(34,[5,10,12,23]),(35,[5,10,12,23]),(36,[5,10,12,23,204]),(37,[4]),(38,[4])],[],[100119,16,100178],[]⟩ 206 [.tmp 4] rfl rfl rfl rfl rfl rfl ?_<;>conv=>whnf
 refine caS (E:=E_Bool) h (law22_Great_w a0 a1) rfl (fun _=>rfl) (fun x1 h=>?_)<;>conv=>whnf
 refine fkS h (fun h=>?_) (fun h=>?_)<;>conv=>whnf
 ·refine caS (E:=E_Bool) h law22_knows_w rfl (fun _=>rfl) (fun x2 h=>?_)<;>conv=>whnf
  exact rt (E:=E_Bool) h rfl
 refine liS ([]:List Int) (eI .u8) rfl rfl ?_<;>conv=>whnf
 refine apS (enc:=(eI .u8)) (l1:=([]:List Int)) (l2:=a0) h rfl rfl (fun _=>rfl) (fun h=>?_)<;>conv=>whnf
 refine ccS (E:=E_ListListKernelCmd) h (law22_script_w a1) rfl rfl (fun x3 h=>?_)<;>conv=>whnf
 refine iceS 32 ?_<;>conv=>whnf
 refine ccS (E:=E_ListWorldView_Int) h (world_Play_w (([]:List Int)++a0) x3) rfl rfl (fun x4 h=>?_)<;>conv=>whnf
 refine ccS (E:=E_Config_Int_Int) h (image_Decode_w a0) rfl rfl (fun x5 h=>?_)<;>conv=>whnf
 refine fkS h (fun h=>?_) (fun h=>?_)<;>conv=>whnf
 ·refine lenS x4.1 WorldView.enc rfl ?_<;>conv=>whnf
  refine fkS h (fun h=>?_) (fun h=>?_)<;>conv=>whnf
  ·refine fkS h (fun h=>?_) (fun h=>?_)<;>conv=>whnf
   ·refine caS (E:=E_Bool) h law22_knows_w rfl (fun _=>rfl) (fun x6 h=>?_)<;>conv=>whnf
    exact rt (E:=E_Bool) h rfl
   exact rt (E:=E_Bool) h rfl
  exact rt (E:=E_Bool) h rfl
 refine ccS (E:=E_KernelState_Int) h (kernel_Boot_w x5.1) rfl rfl (fun x7 h=>?_)<;>conv=>whnf
 refine fkS h (fun h=>?_) (fun h=>?_)<;>conv=>whnf
 ·refine lenS x4.1 WorldView.enc rfl ?_<;>conv=>whnf
  refine fkS h (fun h=>?_) (fun h=>?_)<;>conv=>whnf
  ·refine fkS h (fun h=>?_) (fun h=>?_)<;>conv=>whnf
   ·refine caS (E:=E_Bool) h law22_knows_w rfl (fun _=>rfl) (fun x8 h=>?_)<;>conv=>whnf
    exact rt (E:=E_Bool) h rfl
   exact rt (E:=E_Bool) h rfl
  exact rt (E:=E_Bool) h rfl
 refine lenS x7.1.Parts PartState.enc rfl ?_<;>conv=>whnf
 refine mkF h (fun hb h=>?_) (fun h=>?_)<;>conv=>whnf
 ·refine mkB0 tab rfl rfl rfl rfl (of_decide_eq_true hb) (of_decide_eq_true hb) rfl rfl rfl ?_<;>conv=>whnf
  refine lpS (fun v125=>⟨[(1,.l (.d (.sl (a1.map Law21Step.enc)))),(5,.l (.d (.sl (x4.1.map WorldView.enc)))),(6,lI x4.2),(10,.l (.ptr 11 0)),(12,.l (.d (.sl (([]:List WorldView).map WorldView.enc)))),(13,lI v125.2.2.2.2.2.2)],206,[],[(11,[dI v125.1,.d (.sl (v125.2.1.map Window.enc)),.d (.sl (v125.2.2.1.map Face.enc)),.d (.sl (v125.2.2.2.1.map PartState.enc)),.d (.sl (v125.2.2.2.2.1.map PortLine.enc)),dI v125.2.2.2.2.2.1])],[]⟩) h wR (fun _ nx125 hn125 v125 h=>?_)<;>conv=>whnf
  refine lenS a1 Law21Step.enc rfl ?_<;>conv=>whnf
  refine fkS h (fun h=>?_) (fun h=>?_)<;>conv=>whnf
  ·refine lpS (fun v126=>⟨[(1,.l (.d (.sl (a1.map Law21Step.enc)))),(5,.l (.d (.sl (x4.1.map WorldView.enc)))),(6,lI x4.2),(10,.l (.ptr 11 0)),(12,.l (.d (.sl (([]:List WorldView).map WorldView.enc)))),(13,lI v125.2.2.2.2.2.2),(14,lI v126.2.2.2.2.2.2)],206,[],[(11,[dI v126.1,.d (.sl (v126.2.1.map Window.enc)),.d (.sl (v126.2.2.1.map Face.enc)),.d (.sl (v126.2.2.2.1.map PartState.enc)),.d (.sl (v126.2.2.2.2.1.map PortLine.enc)),dI v126.2.2.2.2.2.1])],[]⟩) h wR (fun _ nx126 hn126 v126 h=>?_)<;>conv=>whnf
   refine ixS (enc:=Law21Step.enc) h rfl (fun _=>rfl) (fun x127 h=>?_)<;>conv=>whnf
   refine lenS x127.Cmds KernelCmd.enc rfl ?_<;>conv=>whnf
   refine fkS h (fun h=>?_) (fun h=>?_)<;>conv=>whnf
   ·refine jnS (fun w128=>⟨[(1,.l (.d (.sl (a1.map Law21Step.enc)))),(5,.l (.d (.sl (x4.1.map WorldView.enc)))),(6,lI x4.2),(10,.l (.ptr 11 0)),(12,.l (.d (.sl (([]:List WorldView).map WorldView.enc)))),(13,lI v125.2.2.2.2.2.2),(14,lI v126.2.2.2.2.2.2)],206,[],[(11,[dI w128.1,.d (.sl (w128.2.1.map Window.enc)),.d (.sl (w128.2.2.1.map Face.enc)),.d (.sl (w128.2.2.2.1.map PartState.enc)),.d (.sl (w128.2.2.2.2.1.map PortLine.enc)),dI w128.2.2.2.2.2])],[]⟩) h (fun k128 hk128 h=>?_) (fun w128 h=>?_)<;>conv=>whnf
    ·refine ixS (enc:=Law21Step.enc) h rfl (fun _=>rfl) (fun x129 h=>?_)<;>conv=>whnf
     refine ixS (enc:=KernelCmd.enc) h rfl (fun _=>rfl) (fun x130 h=>?_)<;>conv=>whnf
     refine ccS (E:=E_KernelState_Int_Int) h (kernel_Do_w (⟨⟨v126.1,v126.2.1⟩,v126.2.2.1,v126.2.2.2.1,v126.2.2.2.2.1,v126.2.2.2.2.2.1⟩) x130) rfl rfl (fun x131 h=>?_)<;>conv=>whnf
     refine jnS (fun w132=>⟨[(1,.l (.d (.sl (a1.map Law21Step.enc)))),(5,.l (.d (.sl (x4.1.map WorldView.enc)))),(6,lI x4.2),(10,.l (.ptr 11 0)),(12,.l (.d (.sl (([]:List WorldView).map WorldView.enc)))),(13,lI v125.2.2.2.2.2.2),(14,lI v126.2.2.2.2.2.2),(15,.l (.ptr 16 0)),(17,lI x131.2.1),(18,lI x131.2.2),(119,lB w132)],206,[],[(11,[dI x131.1.Table.Frame,.d (.sl (x131.1.Table.Windows.map Window.enc)),.d (.sl (x131.1.Faces.map Face.enc)),.d (.sl (x131.1.Parts.map PartState.enc)),.d (.sl (x131.1.Lines.map PortLine.enc)),dI x131.1.Now]),(16,[dI x130.Part,dI x130.Kind,dI x130.I,dI x130.V,dI x130.T.C,dI x130.T.D,dI x130.T.T,.d (.sl (x130.T.Secs.map Sec.enc))])],[]⟩) h (fun k132 hk132 h=>?_) (fun w132 h=>?_)<;>conv=>whnf
     ·refine fkS h (fun h=>?_) (fun h=>?_)<;>conv=>whnf
      ·refine lenS ([]:List WorldView) WorldView.enc rfl ?_<;>conv=>whnf
       exact jeS hk132 h wR
      exact jeS hk132 h wR
     refine fkS h (fun h=>?_) (fun h=>?_)<;>conv=>whnf
     ·refine⟨15,?_⟩
      conv=>whnf
      cases h
     refine jeX hk128 h ?_<;>conv=>whnf
     refine WkF.step (Weak.keepS _ [1,5,6,10,12,13,14]) ?_<;>conv=>whnf
     exact WkF.refl _
    exact leS hn126 h wR
   refine ccS (E:=E_KernelState_ListInt_Int) h (kernel_Tick_w (⟨⟨v126.1,v126.2.1⟩,v126.2.2.1,v126.2.2.2.1,v126.2.2.2.2.1,v126.2.2.2.2.2.1⟩)) rfl rfl (fun x133 h=>?_)<;>conv=>whnf
   refine lenS x133.2.1 (eI .i64) rfl ?_<;>conv=>whnf
   refine lenS ([]:List WorldView) WorldView.enc rfl ?_<;>conv=>whnf
   refine fkS h (fun h=>?_) (fun h=>?_)<;>conv=>whnf
   ·exact rt (E:=E_Bool) h rfl
   refine lpS (fun v134=>⟨[(1,.l (.d (.sl (a1.map Law21Step.enc)))),(5,.l (.d (.sl (x4.1.map WorldView.enc)))),(6,lI x4.2),(10,.l (.ptr 11 0)),(12,.l (.d (.sl (([]:List WorldView).map WorldView.enc)))),(13,lI v125.2.2.2.2.2.2),(20,.l (.d (.sl (x133.2.1.map (eI .i64))))),(22,lI (0:Int))],206,[],[(11,[dI x133.1.Table.Frame,.d (.sl (x133.1.Table.Windows.map Window.enc)),.d (.sl (x133.1.Faces.map Face.enc)),.d (.sl (x133.1.Parts.map PartState.enc)),.d (.sl (x133.1.Lines.map PortLine.enc)),dI x133.1.Now])],[]⟩) h wR (fun _ nx134 hn134 v134 h=>?_)<;>conv=>whnf
   refine lenS ([]:List WorldView) WorldView.enc rfl ?_<;>conv=>whnf
   exact leS hn125 h wR
  refine jnS (fun w135=>⟨[(5,.l (.d (.sl (x4.1.map WorldView.enc)))),(10,.l (.ptr 11 0)),(12,.l (.d (.sl (([]:List WorldView).map WorldView.enc)))),(178,lB w135)],206,[],[(11,[dI v125.1,.d (.sl (v125.2.1.map Window.enc)),.d (.sl (v125.2.2.1.map Face.enc)),.d (.sl (v125.2.2.2.1.map PartState.enc)),.d (.sl (v125.2.2.2.2.1.map PortLine.enc)),dI v125.2.2.2.2.2.1])],[]⟩) h (fun k135 hk135 h=>?_) (fun w135 h=>?_)<;>conv=>whnf
  ·refine lenS x4.1 WorldView.enc rfl ?_<;>conv=>whnf
   refine lenS ([]:List WorldView) WorldView.enc rfl ?_<;>conv=>whnf
   refine fkS h (fun h=>?_) (fun h=>?_)<;>conv=>whnf
   ·exact jeS hk135 h wR
   exact jeS hk135 h wR
  refine fkS h (fun h=>?_) (fun h=>?_)<;>conv=>whnf
  ·exact rt (E:=E_Bool) h rfl
  refine lpS (fun v136=>⟨[(5,.l (.d (.sl (x4.1.map WorldView.enc)))),(10,.l (.ptr 11 0)),(12,.l (.d (.sl (([]:List WorldView).map WorldView.enc)))),(23,lI (0:Int))],206,[],[(11,[dI v125.1,.d (.sl (v125.2.1.map Window.enc)),.d (.sl (v125.2.2.1.map Face.enc)),.d (.sl (v125.2.2.2.1.map PartState.enc)),.d (.sl (v125.2.2.2.2.1.map PortLine.enc)),dI v125.2.2.2.2.2.1])],[]⟩) h wR (fun _ nx136 hn136 v136 h=>?_)<;>conv=>whnf
  refine lenS ([]:List WorldView) WorldView.enc rfl ?_<;>conv=>whnf
  refine caS (E:=E_Bool) h law22_knows_w rfl (fun _=>rfl) (fun x137 h=>?_)<;>conv=>whnf
  exact rt (E:=E_Bool) h rfl
 refine mkF h (fun hb h=>?_) (fun h=>?_)<;>conv=>whnf
 ·refine mkB tab 1 rfl rfl rfl rfl (of_decide_eq_true hb) (of_decide_eq_true hb) rfl rfl rfl (Nat.le_of_ble_eq_true rfl) (Nat.le_of_ble_eq_true rfl) (Nat.le_of_ble_eq_true rfl) rfl ?_<;>conv=>whnf
  refine lpS (fun v105=>⟨[(1,.l (.d (.sl (a1.map Law21Step.enc)))),(5,.l (.d (.sl (x4.1.map WorldView.enc)))),(6,lI x4.2),(10,.l (.ptr 11 0)),(12,.l (.bsl 78 1 3)),(13,lI v105.2.2.2.2.2.2.2.2)],206,[],[(11,[dI v105.1,.d (.sl (v105.2.1.map Window.enc)),.d (.sl (v105.2.2.1.map Face.enc)),.d (.sl (v105.2.2.2.1.map PartState.enc)),.d (.sl (v105.2.2.2.2.1.map PortLine.enc)),dI v105.2.2.2.2.2.1]),(78,[.own 57800,.own 57801,.nil])],[(57800,113,3,v105.2.2.2.2.2.2.1.map WorldSaw.enc),(57801,3,1,v105.2.2.2.2.2.2.2.1.map (eI .i64))]⟩) h (Weak.trans (Weak.nilBO _ 78 0 57800 113 3 _ rfl rfl) (Weak.trans (Weak.nilBO _ 78 1 57801 3 1 _ rfl rfl) wR)) (fun _ nx105 hn105 v105 h=>?_)<;>conv=>whnf
  refine lenS a1 Law21Step.enc rfl ?_<;>conv=>whnf
  refine fkS h (fun h=>?_) (fun h=>?_)<;>conv=>whnf
  ·refine lpS (fun v106=>⟨[(1,.l (.d (.sl (a1.map Law21Step.enc)))),(5,.l (.d (.sl (x4.1.map WorldView.enc)))),(6,lI x4.2),(10,.l (.ptr 11 0)),(12,.l (.bsl 78 1 3)),(13,lI v105.2.2.2.2.2.2.2.2),(14,lI v106.2.2.2.2.2.2.2)],206,[],[(11,[dI v106.1,.d (.sl (v106.2.1.map Window.enc)),.d (.sl (v106.2.2.1.map Face.enc)),.d (.sl (v106.2.2.2.1.map PartState.enc)),.d (.sl (v106.2.2.2.2.1.map PortLine.enc)),dI v106.2.2.2.2.2.1]),(78,[.own 57800,.own 57801,.nil])],[(57800,113,3,v106.2.2.2.2.2.2.1.map WorldSaw.enc),(57801,3,1,v105.2.2.2.2.2.2.2.1.map (eI .i64))]⟩) h wR (fun _ nx106 hn106 v106 h=>?_)<;>conv=>whnf
   refine ixS (enc:=Law21Step.enc) h rfl (fun _=>rfl) (fun x107 h=>?_)<;>conv=>whnf
   refine lenS x107.Cmds KernelCmd.enc rfl ?_<;>conv=>whnf
   refine fkS h (fun h=>?_) (fun h=>?_)<;>conv=>whnf
   ·refine jnS (fun w108=>⟨[(1,.l (.d (.sl (a1.map Law21Step.enc)))),(5,.l (.d (.sl (x4.1.map WorldView.enc)))),(6,lI x4.2),(10,.l (.ptr 11 0)),(12,.l (.bsl 78 1 3)),(13,lI v105.2.2.2.2.2.2.2.2),(14,lI v106.2.2.2.2.2.2.2)],206,[],[(11,[dI w108.1,.d (.sl (w108.2.1.map Window.enc)),.d (.sl (w108.2.2.1.map Face.enc)),.d (.sl (w108.2.2.2.1.map PartState.enc)),.d (.sl (w108.2.2.2.2.1.map PortLine.enc)),dI w108.2.2.2.2.2.1]),(78,[.own 57800,.own 57801,.nil])],[(57800,113,3,w108.2.2.2.2.2.2.map WorldSaw.enc),(57801,3,1,v105.2.2.2.2.2.2.2.1.map (eI .i64))]⟩) h (fun k108 hk108 h=>?_) (fun w108 h=>?_)<;>conv=>whnf
    ·refine ixS (enc:=Law21Step.enc) h rfl (fun _=>rfl) (fun x109 h=>?_)<;>conv=>whnf
     refine ixS (enc:=KernelCmd.enc) h rfl (fun _=>rfl) (fun x110 h=>?_)<;>conv=>whnf
     refine ccS (E:=E_KernelState_Int_Int) h (kernel_Do_w (⟨⟨v106.1,v106.2.1⟩,v106.2.2.1,v106.2.2.2.1,v106.2.2.2.2.1,v106.2.2.2.2.2.1⟩) x110) rfl rfl (fun x111 h=>?_)<;>conv=>whnf
     refine jnS (fun w112=>⟨[(1,.l (.d (.sl (a1.map Law21Step.enc)))),(5,.l (.d (.sl (x4.1.map WorldView.enc)))),(6,lI x4.2),(10,.l (.ptr 11 0)),(12,.l (.bsl 78 1 3)),(13,lI v105.2.2.2.2.2.2.2.2),(14,lI v106.2.2.2.2.2.2.2),(15,.l (.ptr 16 0)),(17,lI x111.2.1),(18,lI x111.2.2),(119,lB w112)],206,[],[(11,[dI x111.1.Table.Frame,.d (.sl (x111.1.Table.Windows.map Window.enc)),.d (.sl (x111.1.Faces.map Face.enc)),.d (.sl (x111.1.Parts.map PartState.enc)),.d (.sl (x111.1.Lines.map PortLine.enc)),dI x111.1.Now]),(16,[dI x110.Part,dI x110.Kind,dI x110.I,dI x110.V,dI x110.T.C,dI x110.T.D,dI x110.T.T,.d (.sl (x110.T.Secs.map Sec.enc))]),(78,[.own 57800,.own 57801,.nil])],[(57800,113,3,v106.2.2.2.2.2.2.1.map WorldSaw.enc),(57801,3,1,v105.2.2.2.2.2.2.2.1.map (eI .i64))]⟩) h (fun k112 hk112 h=>?_) (fun w112 h=>?_)<;>conv=>whnf
     ·refine fkS h (fun h=>?_) (fun h=>?_)<;>conv=>whnf
      ·refine lenB tab rfl rfl rfl rfl rfl ?_<;>conv=>whnf
       exact jeS hk112 h wR
      exact jeS hk112 h wR
     refine fkS h (fun h=>?_) (fun h=>?_)<;>conv=>whnf
     ·refine⟨15,?_⟩
      conv=>whnf
      refine fkN h (fun q113 h=>?_) (fun q113 h=>?_)<;>conv=>whnf
      ·refine liS ([⟨v105.2.2.2.2.2.2.2.2,x111.2.1,x111.2.2⟩]:List WorldSaw) WorldSaw.enc rfl rfl ?_<;>conv=>whnf
       refine apS (enc:=WorldSaw.enc) (l1:=v106.2.2.2.2.2.2.1) (l2:=([⟨v105.2.2.2.2.2.2.2.2,x111.2.1,x111.2.2⟩]:List WorldSaw)) h rfl rfl (fun _=>rfl) (fun h=>?_)<;>conv=>whnf
       refine drS (by kernel_rfl) ?_<;>conv=>whnf
       refine fork_t q113 ?_<;>conv=>whnf
       refine jeX hk108 h ?_<;>conv=>whnf
       refine WkF.step (Weak.rekey _ 135 57800 rfl) ?_<;>conv=>whnf
       exact WkF.refl _
      cases h
     refine jeX hk108 h ?_<;>conv=>whnf
     refine WkF.step (Weak.keepS _ [1,5,6,10,12,13,14]) ?_<;>conv=>whnf
     exact WkF.refl _
    exact leS hn106 h wR
   refine ccS (E:=E_KernelState_ListInt_Int) h (kernel_Tick_w (⟨⟨v106.1,v106.2.1⟩,v106.2.2.1,v106.2.2.2.1,v106.2.2.2.2.1,v106.2.2.2.2.2.1⟩)) rfl rfl (fun x114 h=>?_)<;>conv=>whnf
   refine lenS x114.2.1 (eI .i64) rfl ?_<;>conv=>whnf
   refine lenB tab rfl rfl rfl rfl rfl ?_<;>conv=>whnf
   refine fkS h (fun h=>?_) (fun h=>?_)<;>conv=>whnf
   ·exact rt (E:=E_Bool) h rfl
   refine lpS (fun v115=>⟨[(1,.l (.d (.sl (a1.map Law21Step.enc)))),(5,.l (.d (.sl (x4.1.map WorldView.enc)))),(6,lI x4.2),(10,.l (.ptr 11 0)),(12,.l (.bsl 78 1 3)),(13,lI v105.2.2.2.2.2.2.2.2),(20,.l (.d (.sl (x114.2.1.map (eI .i64))))),(22,lI v115.2)],206,[],[(11,[dI x114.1.Table.Frame,.d (.sl (x114.1.Table.Windows.map Window.enc)),.d (.sl (x114.1.Faces.map Face.enc)),.d (.sl (x114.1.Parts.map PartState.enc)),.d (.sl (x114.1.Lines.map PortLine.enc)),dI x114.1.Now]),(78,[.own 57800,.own 57801,.nil])],[(57800,113,3,v106.2.2.2.2.2.2.1.map WorldSaw.enc),(57801,3,1,v115.1.map (eI .i64))]⟩) h wR (fun _ nx115 hn115 v115 h=>?_)<;>conv=>whnf
   refine lenB tab rfl rfl rfl rfl rfl ?_<;>conv=>whnf
   refine fkS h (fun h=>?_) (fun h=>?_)<;>conv=>whnf
   ·refine⟨13,?_⟩
    conv=>whnf
    refine fkN h (fun q116 h=>?_) (fun q116 h=>?_)<;>conv=>whnf
    ·refine ixS (enc:=(eI .i64)) h rfl (fun _=>rfl) (fun x117 h=>?_)<;>conv=>whnf
     refine liS ([x117]:List Int) (eI .i64) rfl rfl ?_<;>conv=>whnf
     refine apS (enc:=(eI .i64)) (l1:=v115.1) (l2:=([x117]:List Int)) h rfl rfl (fun _=>rfl) (fun h=>?_)<;>conv=>whnf
     refine drS (by kernel_rfl) ?_<;>conv=>whnf
     refine fork_t q116 ?_<;>conv=>whnf
     refine leX hn115 h ?_<;>conv=>whnf
     refine WkF.step (Weak.rekey _ 168 57801 rfl) ?_<;>conv=>whnf
     exact WkF.refl _
    cases h
   exact leS hn105 h wR
  refine jnS (fun w118=>⟨[(5,.l (.d (.sl (x4.1.map WorldView.enc)))),(10,.l (.ptr 11 0)),(12,.l (.bsl 78 1 3)),(178,lB w118)],206,[],[(11,[dI v105.1,.d (.sl (v105.2.1.map Window.enc)),.d (.sl (v105.2.2.1.map Face.enc)),.d (.sl (v105.2.2.2.1.map PartState.enc)),.d (.sl (v105.2.2.2.2.1.map PortLine.enc)),dI v105.2.2.2.2.2.1]),(78,[.own 57800,.own 57801,.nil])],[(57800,113,3,v105.2.2.2.2.2.2.1.map WorldSaw.enc),(57801,3,1,v105.2.2.2.2.2.2.2.1.map (eI .i64))]⟩) h (fun k118 hk118 h=>?_) (fun w118 h=>?_)<;>conv=>whnf
  ·refine lenS x4.1 WorldView.enc rfl ?_<;>conv=>whnf
   refine lenB tab rfl rfl rfl rfl rfl ?_<;>conv=>whnf
   refine fkS h (fun h=>?_) (fun h=>?_)<;>conv=>whnf
   ·exact jeS hk118 h wR
   exact jeS hk118 h wR
  refine fkS h (fun h=>?_) (fun h=>?_)<;>conv=>whnf
  ·exact rt (E:=E_Bool) h rfl
  refine lpS (fun v119=>⟨[(5,.l (.d (.sl (x4.1.map WorldView.enc)))),(10,.l (.ptr 11 0)),(12,.l (.bsl 78 1 3)),(23,lI v119.2)],206,[],[(11,[dI v105.1,.d (.sl (v105.2.1.map Window.enc)),.d (.sl (v105.2.2.1.map Face.enc)),.d (.sl (v105.2.2.2.1.map PartState.enc)),.d (.sl (v105.2.2.2.2.1.map PortLine.enc)),dI v105.2.2.2.2.2.1]),(78,[.own 57800,.own 57801,.d (.sl (v119.1.map Entry.enc))])],[(57800,113,3,v105.2.2.2.2.2.2.1.map WorldSaw.enc),(57801,3,1,v105.2.2.2.2.2.2.2.1.map (eI .i64))]⟩) h (Weak.trans (Weak.nilBD _ 78 2 _ rfl rfl) wR) (fun _ nx119 hn119 v119 h=>?_)<;>conv=>whnf
  refine lenB tab rfl rfl rfl rfl rfl ?_<;>conv=>whnf
  refine fkS h (fun h=>?_) (fun h=>?_)<;>conv=>whnf
  ·refine ixS (enc:=PartState.enc) h rfl (fun _=>rfl) (fun x120 h=>?_)<;>conv=>whnf
   refine fkN h (fun q121 h=>?_) (fun q121 h=>?_)<;>conv=>whnf
   ·refine⟨8,?_⟩
    conv=>whnf
    refine ixS (enc:=WorldView.enc) h rfl (fun _=>rfl) (fun x122 h=>?_)<;>conv=>whnf
    refine fork_t q121 ?_<;>conv=>whnf
    refine drS (by kernel_rfl) ?_<;>conv=>whnf
    refine caS (E:=E_Bool) h (law22_Same_w x122 ⟨v105.2.2.2.2.2.2.1,v105.2.2.2.2.2.2.2.1,x120.Log⟩) rfl (fun _=>rfl) (fun x123 h=>?_)<;>conv=>whnf
    refine fkS h (fun h=>?_) (fun h=>?_)<;>conv=>whnf
    ·exact rt (E:=E_Bool) h rfl
    exact leS hn119 h wR
   cases h
  refine caS (E:=E_Bool) h law22_knows_w rfl (fun _=>rfl) (fun x124 h=>?_)<;>conv=>whnf
  exact rt (E:=E_Bool) h rfl
 refine mkF h (fun hb h=>?_) (fun h=>?_)<;>conv=>whnf
 ·refine mkB tab 2 rfl rfl rfl rfl (of_decide_eq_true hb) (of_decide_eq_true hb) rfl rfl rfl (Nat.le_of_ble_eq_true rfl) (Nat.le_of_ble_eq_true rfl) (Nat.le_of_ble_eq_true rfl) rfl ?_<;>conv=>whnf
  refine lpX (fun v79=>⟨[(1,.l (.d (.sl (a1.map Law21Step.enc)))),(5,.l (.d (.sl (x4.1.map WorldView.enc)))),(6,lI x4.2),(10,.l (.ptr 11 0)),(12,.l (.bsl 78 2 3)),(13,lI v79.2.2.2.2.2.2.2.2.2.2)],206,[],[(11,[dI v79.1,.d (.sl (v79.2.1.map Window.enc)),.d (.sl (v79.2.2.1.map Face.enc)),.d (.sl (v79.2.2.2.1.map PartState.enc)),.d (.sl (v79.2.2.2.2.1.map PortLine.enc)),dI v79.2.2.2.2.2.1]),(78,[.own 57800,.own 57801,.nil,.own 57803,.own 57804,.nil])],[(57800,113,3,v79.2.2.2.2.2.2.1.map WorldSaw.enc),(57801,3,1,v79.2.2.2.2.2.2.2.1.map (eI .i64)),(57803,113,3,v79.2.2.2.2.2.2.2.2.1.map WorldSaw.enc),(57804,3,1,v79.2.2.2.2.2.2.2.2.2.1.map (eI .i64))]⟩) h ?_ (fun _ nx79 hn79 v79 h=>?_)<;>conv=>whnf
  ·refine WkF.step (Weak.nilBO _ 78 0 57800 113 3 _ rfl rfl) ?_<;>conv=>whnf
   refine WkF.step (Weak.nilBO _ 78 1 57801 3 1 _ rfl rfl) ?_<;>conv=>whnf
   refine WkF.step (Weak.nilBO _ 78 3 57803 113 3 _ rfl rfl) ?_<;>conv=>whnf
   refine WkF.step (Weak.nilBO _ 78 4 57804 3 1 _ rfl rfl) ?_<;>conv=>whnf
   exact WkF.refl _
  refine lenS a1 Law21Step.enc rfl ?_<;>conv=>whnf
  refine fkS h (fun h=>?_) (fun h=>?_)<;>conv=>whnf
  ·refine lpS (fun v80=>⟨[(1,.l (.d (.sl (a1.map Law21Step.enc)))),(5,.l (.d (.sl (x4.1.map WorldView.enc)))),(6,lI x4.2),(10,.l (.ptr 11 0)),(12,.l (.bsl 78 2 3)),(13,lI v79.2.2.2.2.2.2.2.2.2.2),(14,lI v80.2.2.2.2.2.2.2.2)],206,[],[(11,[dI v80.1,.d (.sl (v80.2.1.map Window.enc)),.d (.sl (v80.2.2.1.map Face.enc)),.d (.sl (v80.2.2.2.1.map PartState.enc)),.d (.sl (v80.2.2.2.2.1.map PortLine.enc)),dI v80.2.2.2.2.2.1]),(78,[.own 57800,.own 57801,.nil,.own 57803,.own 57804,.nil])],[(57800,113,3,v80.2.2.2.2.2.2.1.map WorldSaw.enc),(57801,3,1,v79.2.2.2.2.2.2.2.1.map (eI .i64)),(57803,113,3,v80.2.2.2.2.2.2.2.1.map WorldSaw.enc),(57804,3,1,v79.2.2.2.2.2.2.2.2.2.1.map (eI .i64))]⟩) h wR (fun _ nx80 hn80 v80 h=>?_)<;>conv=>whnf
   refine ixS (enc:=Law21Step.enc) h rfl (fun _=>rfl) (fun x81 h=>?_)<;>conv=>whnf
   refine lenS x81.Cmds KernelCmd.enc rfl ?_<;>conv=>whnf
   refine fkS h (fun h=>?_) (fun h=>?_)<;>conv=>whnf
   ·refine jnS (fun w82=>⟨[(1,.l (.d (.sl (a1.map Law21Step.enc)))),(5,.l (.d (.sl (x4.1.map WorldView.enc)))),(6,lI x4.2),(10,.l (.ptr 11 0)),(12,.l (.bsl 78 2 3)),(13,lI v79.2.2.2.2.2.2.2.2.2.2),(14,lI v80.2.2.2.2.2.2.2.2)],206,[],[(11,[dI w82.1,.d (.sl (w82.2.1.map Window.enc)),.d (.sl (w82.2.2.1.map Face.enc)),.d (.sl (w82.2.2.2.1.map PartState.enc)),.d (.sl (w82.2.2.2.2.1.map PortLine.enc)),dI w82.2.2.2.2.2.1]),(78,[.own 57800,.own 57801,.nil,.own 57803,.own 57804,.nil])],[(57800,113,3,w82.2.2.2.2.2.2.1.map WorldSaw.enc),(57801,3,1,v79.2.2.2.2.2.2.2.1.map (eI .i64)),(57803,113,3,w82.2.2.2.2.2.2.2.map WorldSaw.enc),(57804,3,1,v79.2.2.2.2.2.2.2.2.2.1.map (eI .i64))]⟩) h (fun k82 hk82 h=>?_) (fun w82 h=>?_)<;>conv=>whnf
    ·refine ixS (enc:=Law21Step.enc) h rfl (fun _=>rfl) (fun x83 h=>?_)<;>conv=>whnf
     refine ixS (enc:=KernelCmd.enc) h rfl (fun _=>rfl) (fun x84 h=>?_)<;>conv=>whnf
     refine ccS (E:=E_KernelState_Int_Int) h (kernel_Do_w (⟨⟨v80.1,v80.2.1⟩,v80.2.2.1,v80.2.2.2.1,v80.2.2.2.2.1,v80.2.2.2.2.2.1⟩) x84) rfl rfl (fun x85 h=>?_)<;>conv=>whnf
     refine jnS (fun w86=>⟨[(1,.l (.d (.sl (a1.map Law21Step.enc)))),(5,.l (.d (.sl (x4.1.map WorldView.enc)))),(6,lI x4.2),(10,.l (.ptr 11 0)),(12,.l (.bsl 78 2 3)),(13,lI v79.2.2.2.2.2.2.2.2.2.2),(14,lI v80.2.2.2.2.2.2.2.2),(15,.l (.ptr 16 0)),(17,lI x85.2.1),(18,lI x85.2.2),(119,lB w86)],206,[],[(11,[dI x85.1.Table.Frame,.d (.sl (x85.1.Table.Windows.map Window.enc)),.d (.sl (x85.1.Faces.map Face.enc)),.d (.sl (x85.1.Parts.map PartState.enc)),.d (.sl (x85.1.Lines.map PortLine.enc)),dI x85.1.Now]),(16,[dI x84.Part,dI x84.Kind,dI x84.I,dI x84.V,dI x84.T.C,dI x84.T.D,dI x84.T.T,.d (.sl (x84.T.Secs.map Sec.enc))]),(78,[.own 57800,.own 57801,.nil,.own 57803,.own 57804,.nil])],[(57800,113,3,v80.2.2.2.2.2.2.1.map WorldSaw.enc),(57801,3,1,v79.2.2.2.2.2.2.2.1.map (eI .i64)),(57803,113,3,v80.2.2.2.2.2.2.2.1.map WorldSaw.enc),(57804,3,1,v79.2.2.2.2.2.2.2.2.2.1.map (eI .i64))]⟩) h (fun k86 hk86 h=>?_) (fun w86 h=>?_)<;>conv=>whnf
     ·refine fkS h (fun h=>?_) (fun h=>?_)<;>conv=>whnf
      ·refine lenB tab rfl rfl rfl rfl rfl ?_<;>conv=>whnf
       exact jeS hk86 h wR
      exact jeS hk86 h wR
     refine fkS h (fun h=>?_) (fun h=>?_)<;>conv=>whnf
     ·refine⟨15,?_⟩
      conv=>whnf
      refine fkN h (fun q87 h=>?_) (fun q87 h=>?_)<;>conv=>whnf
      ·refine liS ([⟨v79.2.2.2.2.2.2.2.2.2.2,x85.2.1,x85.2.2⟩]:List WorldSaw) WorldSaw.enc rfl rfl ?_<;>conv=>whnf
       refine apS (enc:=WorldSaw.enc) (l1:=v80.2.2.2.2.2.2.1) (l2:=([⟨v79.2.2.2.2.2.2.2.2.2.2,x85.2.1,x85.2.2⟩]:List WorldSaw)) h rfl rfl (fun _=>rfl) (fun h=>?_)<;>conv=>whnf
       refine drS (by kernel_rfl) ?_<;>conv=>whnf
       refine fork_t q87 ?_<;>conv=>whnf
       refine jeX hk82 h ?_<;>conv=>whnf
       refine WkF.step (Weak.rekey _ 135 57800 rfl) ?_<;>conv=>whnf
       exact WkF.refl _
      refine fkN h (fun q88 h=>?_) (fun q88 h=>?_)<;>conv=>whnf
      ·refine liS ([⟨v79.2.2.2.2.2.2.2.2.2.2,x85.2.1,x85.2.2⟩]:List WorldSaw) WorldSaw.enc rfl rfl ?_<;>conv=>whnf
       refine apS (enc:=WorldSaw.enc) (l1:=v80.2.2.2.2.2.2.2.1) (l2:=([⟨v79.2.2.2.2.2.2.2.2.2.2,x85.2.1,x85.2.2⟩]:List WorldSaw)) h rfl rfl (fun _=>rfl) (fun h=>?_)<;>conv=>whnf
       refine drS (by kernel_rfl) ?_<;>conv=>whnf
       refine fork_f q87 ?_<;>conv=>whnf
       refine fork_t q88 ?_<;>conv=>whnf
       refine jeX hk82 h ?_<;>conv=>whnf
       refine WkF.step (Weak.rekey _ 135 57803 rfl) ?_<;>conv=>whnf
       exact WkF.refl _
      cases h
     refine jeX hk82 h ?_<;>conv=>whnf
     refine WkF.step (Weak.keepS _ [1,5,6,10,12,13,14]) ?_<;>conv=>whnf
     exact WkF.refl _
    exact leS hn80 h wR
   refine ccS (E:=E_KernelState_ListInt_Int) h (kernel_Tick_w (⟨⟨v80.1,v80.2.1⟩,v80.2.2.1,v80.2.2.2.1,v80.2.2.2.2.1,v80.2.2.2.2.2.1⟩)) rfl rfl (fun x89 h=>?_)<;>conv=>whnf
   refine lenS x89.2.1 (eI .i64) rfl ?_<;>conv=>whnf
   refine lenB tab rfl rfl rfl rfl rfl ?_<;>conv=>whnf
   refine fkS h (fun h=>?_) (fun h=>?_)<;>conv=>whnf
   ·exact rt (E:=E_Bool) h rfl
   refine lpS (fun v90=>⟨[(1,.l (.d (.sl (a1.map Law21Step.enc)))),(5,.l (.d (.sl (x4.1.map WorldView.enc)))),(6,lI x4.2),(10,.l (.ptr 11 0)),(12,.l (.bsl 78 2 3)),(13,lI v79.2.2.2.2.2.2.2.2.2.2),(20,.l (.d (.sl (x89.2.1.map (eI .i64))))),(22,lI v90.2.2)],206,[],[(11,[dI x89.1.Table.Frame,.d (.sl (x89.1.Table.Windows.map Window.enc)),.d (.sl (x89.1.Faces.map Face.enc)),.d (.sl (x89.1.Parts.map PartState.enc)),.d (.sl (x89.1.Lines.map PortLine.enc)),dI x89.1.Now]),(78,[.own 57800,.own 57801,.nil,.own 57803,.own 57804,.nil])],[(57800,113,3,v80.2.2.2.2.2.2.1.map WorldSaw.enc),(57801,3,1,v90.1.map (eI .i64)),(57803,113,3,v80.2.2.2.2.2.2.2.1.map WorldSaw.enc),(57804,3,1,v90.2.1.map (eI .i64))]⟩) h wR (fun _ nx90 hn90 v90 h=>?_)<;>conv=>whnf
   refine lenB tab rfl rfl rfl rfl rfl ?_<;>conv=>whnf
   refine fkS h (fun h=>?_) (fun h=>?_)<;>conv=>whnf
   ·refine⟨13,?_⟩
    conv=>whnf
    refine fkN h (fun q91 h=>?_) (fun q91 h=>?_)<;>conv=>whnf
    ·refine ixS (enc:=(eI .i64)) h rfl (fun _=>rfl) (fun x94 h=>?_)<;>conv=>whnf
     refine liS ([x94]:List Int) (eI .i64) rfl rfl ?_<;>conv=>whnf
     refine apS (enc:=(eI .i64)) (l1:=v90.1) (l2:=([x94]:List Int)) h rfl rfl (fun _=>rfl) (fun h=>?_)<;>conv=>whnf
     refine drS (by kernel_rfl) ?_<;>conv=>whnf
     refine fork_t q91 ?_<;>conv=>whnf
     refine leX hn90 h ?_<;>conv=>whnf
     refine WkF.step (Weak.rekey _ 168 57801 rfl) ?_<;>conv=>whnf
     exact WkF.refl _
    refine fkN h (fun q92 h=>?_) (fun q92 h=>?_)<;>conv=>whnf
    ·refine ixS (enc:=(eI .i64)) h rfl (fun _=>rfl) (fun x93 h=>?_)<;>conv=>whnf
     refine liS ([x93]:List Int) (eI .i64) rfl rfl ?_<;>conv=>whnf
     refine apS (enc:=(eI .i64)) (l1:=v90.2.1) (l2:=([x93]:List Int)) h rfl rfl (fun _=>rfl) (fun h=>?_)<;>conv=>whnf
     refine drS (by kernel_rfl) ?_<;>conv=>whnf
     refine fork_f q91 ?_<;>conv=>whnf
     refine fork_t q92 ?_<;>conv=>whnf
     refine leX hn90 h ?_<;>conv=>whnf
     refine WkF.step (Weak.rekey _ 168 57804 rfl) ?_<;>conv=>whnf
     exact WkF.refl _
    cases h
   exact leS hn79 h wR
  refine jnS (fun w95=>⟨[(5,.l (.d (.sl (x4.1.map WorldView.enc)))),(10,.l (.ptr 11 0)),(12,.l (.bsl 78 2 3)),(178,lB w95)],206,[],[(11,[dI v79.1,.d (.sl (v79.2.1.map Window.enc)),.d (.sl (v79.2.2.1.map Face.enc)),.d (.sl (v79.2.2.2.1.map PartState.enc)),.d (.sl (v79.2.2.2.2.1.map PortLine.enc)),dI v79.2.2.2.2.2.1]),(78,[.own 57800,.own 57801,.nil,.own 57803,.own 57804,.nil])],[(57800,113,3,v79.2.2.2.2.2.2.1.map WorldSaw.enc),(57801,3,1,v79.2.2.2.2.2.2.2.1.map (eI .i64)),(57803,113,3,v79.2.2.2.2.2.2.2.2.1.map WorldSaw.enc),(57804,3,1,v79.2.2.2.2.2.2.2.2.2.1.map (eI .i64))]⟩) h (fun k95 hk95 h=>?_) (fun w95 h=>?_)<;>conv=>whnf
  ·refine lenS x4.1 WorldView.enc rfl ?_<;>conv=>whnf
   refine lenB tab rfl rfl rfl rfl rfl ?_<;>conv=>whnf
   refine fkS h (fun h=>?_) (fun h=>?_)<;>conv=>whnf
   ·exact jeS hk95 h wR
   exact jeS hk95 h wR
  refine fkS h (fun h=>?_) (fun h=>?_)<;>conv=>whnf
  ·exact rt (E:=E_Bool) h rfl
  refine lpS (fun v96=>⟨[(5,.l (.d (.sl (x4.1.map WorldView.enc)))),(10,.l (.ptr 11 0)),(12,.l (.bsl 78 2 3)),(23,lI v96.2.2)],206,[],[(11,[dI v79.1,.d (.sl (v79.2.1.map Window.enc)),.d (.sl (v79.2.2.1.map Face.enc)),.d (.sl (v79.2.2.2.1.map PartState.enc)),.d (.sl (v79.2.2.2.2.1.map PortLine.enc)),dI v79.2.2.2.2.2.1]),(78,[.own 57800,.own 57801,.d (.sl (v96.1.map Entry.enc)),.own 57803,.own 57804,.d (.sl (v96.2.1.map Entry.enc))])],[(57800,113,3,v79.2.2.2.2.2.2.1.map WorldSaw.enc),(57801,3,1,v79.2.2.2.2.2.2.2.1.map (eI .i64)),(57803,113,3,v79.2.2.2.2.2.2.2.2.1.map WorldSaw.enc),(57804,3,1,v79.2.2.2.2.2.2.2.2.2.1.map (eI .i64))]⟩) h (Weak.trans (Weak.nilBD _ 78 2 _ rfl rfl) (Weak.trans (Weak.nilBD _ 78 5 _ rfl rfl) wR)) (fun _ nx96 hn96 v96 h=>?_)<;>conv=>whnf
  refine lenB tab rfl rfl rfl rfl rfl ?_<;>conv=>whnf
  refine fkS h (fun h=>?_) (fun h=>?_)<;>conv=>whnf
  ·refine ixS (enc:=PartState.enc) h rfl (fun _=>rfl) (fun x97 h=>?_)<;>conv=>whnf
   refine fkN h (fun q98 h=>?_) (fun q98 h=>?_)<;>conv=>whnf
   ·refine⟨8,?_⟩
    conv=>whnf
    refine ixS (enc:=WorldView.enc) h rfl (fun _=>rfl) (fun x102 h=>?_)<;>conv=>whnf
    refine fork_t q98 ?_<;>conv=>whnf
    refine drS (by kernel_rfl) ?_<;>conv=>whnf
    refine caS (E:=E_Bool) h (law22_Same_w x102 ⟨v79.2.2.2.2.2.2.1,v79.2.2.2.2.2.2.2.1,x97.Log⟩) rfl (fun _=>rfl) (fun x103 h=>?_)<;>conv=>whnf
    refine fkS h (fun h=>?_) (fun h=>?_)<;>conv=>whnf
    ·exact rt (E:=E_Bool) h rfl
    exact leS hn96 h wR
   refine fkN h (fun q99 h=>?_) (fun q99 h=>?_)<;>conv=>whnf
   ·refine⟨8,?_⟩
    conv=>whnf
    refine ixS (enc:=WorldView.enc) h rfl (fun _=>rfl) (fun x100 h=>?_)<;>conv=>whnf
    refine fork_f q98 ?_<;>conv=>whnf
    refine fork_t q99 ?_<;>conv=>whnf
    refine drS (by kernel_rfl) ?_<;>conv=>whnf
    refine caS (E:=E_Bool) h (law22_Same_w x100 ⟨v79.2.2.2.2.2.2.2.2.1,v79.2.2.2.2.2.2.2.2.2.1,x97.Log⟩) rfl (fun _=>rfl) (fun x101 h=>?_)<;>conv=>whnf
    refine fkS h (fun h=>?_) (fun h=>?_)<;>conv=>whnf
    ·exact rt (E:=E_Bool) h rfl
    exact leS hn96 h wR
   cases h
  refine caS (E:=E_Bool) h law22_knows_w rfl (fun _=>rfl) (fun x104 h=>?_)<;>conv=>whnf
  exact rt (E:=E_Bool) h rfl
 refine mkF h (fun hb h=>?_) (fun h=>?_)<;>conv=>whnf
 ·refine mkB tab 3 rfl rfl rfl rfl (of_decide_eq_true hb) (of_decide_eq_true hb) rfl rfl rfl (Nat.le_of_ble_eq_true rfl) (Nat.le_of_ble_eq_true rfl) (Nat.le_of_ble_eq_true rfl) rfl ?_<;>conv=>whnf
  refine lpX (fun v47=>⟨[(1,.l (.d (.sl (a1.map Law21Step.enc)))),(5,.l (.d (.sl (x4.1.map WorldView.enc)))),(6,lI x4.2),(10,.l (.ptr 11 0)),(12,.l (.bsl 78 3 3)),(13,lI v47.2.2.2.2.2.2.2.2.2.2.2.2)],206,[],[(11,[dI v47.1,.d (.sl (v47.2.1.map Window.enc)),.d (.sl (v47.2.2.1.map Face.enc)),.d (.sl (v47.2.2.2.1.map PartState.enc)),.d (.sl (v47.2.2.2.2.1.map PortLine.enc)),dI v47.2.2.2.2.2.1]),(78,[.own 57800,.own 57801,.nil,.own 57803,.own 57804,.nil,.own 57806,.own 57807,.nil])],[(57800,113,3,v47.2.2.2.2.2.2.1.map WorldSaw.enc),(57801,3,1,v47.2.2.2.2.2.2.2.1.map (eI .i64)),(57803,113,3,v47.2.2.2.2.2.2.2.2.1.map WorldSaw.enc),(57804,3,1,v47.2.2.2.2.2.2.2.2.2.1.map (eI .i64)),(57806,113,3,v47.2.2.2.2.2.2.2.2.2.2.1.map WorldSaw.enc),(57807,3,1,v47.2.2.2.2.2.2.2.2.2.2.2.1.map (eI .i64))]⟩) h ?_ (fun _ nx47 hn47 v47 h=>?_)<;>conv=>whnf
  ·refine WkF.step (Weak.nilBO _ 78 0 57800 113 3 _ rfl rfl) ?_<;>conv=>whnf
   refine WkF.step (Weak.nilBO _ 78 1 57801 3 1 _ rfl rfl) ?_<;>conv=>whnf
   refine WkF.step (Weak.nilBO _ 78 3 57803 113 3 _ rfl rfl) ?_<;>conv=>whnf
   refine WkF.step (Weak.nilBO _ 78 4 57804 3 1 _ rfl rfl) ?_<;>conv=>whnf
   refine WkF.step (Weak.nilBO _ 78 6 57806 113 3 _ rfl rfl) ?_<;>conv=>whnf
   refine WkF.step (Weak.nilBO _ 78 7 57807 3 1 _ rfl rfl) ?_<;>conv=>whnf
   exact WkF.refl _
  refine lenS a1 Law21Step.enc rfl ?_<;>conv=>whnf
  refine fkS h (fun h=>?_) (fun h=>?_)<;>conv=>whnf
  ·refine lpS (fun v48=>⟨[(1,.l (.d (.sl (a1.map Law21Step.enc)))),(5,.l (.d (.sl (x4.1.map WorldView.enc)))),(6,lI x4.2),(10,.l (.ptr 11 0)),(12,.l (.bsl 78 3 3)),(13,lI v47.2.2.2.2.2.2.2.2.2.2.2.2),(14,lI v48.2.2.2.2.2.2.2.2.2)],206,[],[(11,[dI v48.1,.d (.sl (v48.2.1.map Window.enc)),.d (.sl (v48.2.2.1.map Face.enc)),.d (.sl (v48.2.2.2.1.map PartState.enc)),.d (.sl (v48.2.2.2.2.1.map PortLine.enc)),dI v48.2.2.2.2.2.1]),(78,[.own 57800,.own 57801,.nil,.own 57803,.own 57804,.nil,.own 57806,.own 57807,.nil])],[(57800,113,3,v48.2.2.2.2.2.2.1.map WorldSaw.enc),(57801,3,1,v47.2.2.2.2.2.2.2.1.map (eI .i64)),(57803,113,3,v48.2.2.2.2.2.2.2.1.map WorldSaw.enc),(57804,3,1,v47.2.2.2.2.2.2.2.2.2.1.map (eI .i64)),(57806,113,3,v48.2.2.2.2.2.2.2.2.1.map WorldSaw.enc),(57807,3,1,v47.2.2.2.2.2.2.2.2.2.2.2.1.map (eI .i64))]⟩) h wR (fun _ nx48 hn48 v48 h=>?_)<;>conv=>whnf
   refine ixS (enc:=Law21Step.enc) h rfl (fun _=>rfl) (fun x49 h=>?_)<;>conv=>whnf
   refine lenS x49.Cmds KernelCmd.enc rfl ?_<;>conv=>whnf
   refine fkS h (fun h=>?_) (fun h=>?_)<;>conv=>whnf
   ·refine jnS (fun w50=>⟨[(1,.l (.d (.sl (a1.map Law21Step.enc)))),(5,.l (.d (.sl (x4.1.map WorldView.enc)))),(6,lI x4.2),(10,.l (.ptr 11 0)),(12,.l (.bsl 78 3 3)),(13,lI v47.2.2.2.2.2.2.2.2.2.2.2.2),(14,lI v48.2.2.2.2.2.2.2.2.2)],206,[],[(11,[dI w50.1,.d (.sl (w50.2.1.map Window.enc)),.d (.sl (w50.2.2.1.map Face.enc)),.d (.sl (w50.2.2.2.1.map PartState.enc)),.d (.sl (w50.2.2.2.2.1.map PortLine.enc)),dI w50.2.2.2.2.2.1]),(78,[.own 57800,.own 57801,.nil,.own 57803,.own 57804,.nil,.own 57806,.own 57807,.nil])],[(57800,113,3,w50.2.2.2.2.2.2.1.map WorldSaw.enc),(57801,3,1,v47.2.2.2.2.2.2.2.1.map (eI .i64)),(57803,113,3,w50.2.2.2.2.2.2.2.1.map WorldSaw.enc),(57804,3,1,v47.2.2.2.2.2.2.2.2.2.1.map (eI .i64)),(57806,113,3,w50.2.2.2.2.2.2.2.2.map WorldSaw.enc),(57807,3,1,v47.2.2.2.2.2.2.2.2.2.2.2.1.map (eI .i64))]⟩) h (fun k50 hk50 h=>?_) (fun w50 h=>?_)<;>conv=>whnf
    ·refine ixS (enc:=Law21Step.enc) h rfl (fun _=>rfl) (fun x51 h=>?_)<;>conv=>whnf
     refine ixS (enc:=KernelCmd.enc) h rfl (fun _=>rfl) (fun x52 h=>?_)<;>conv=>whnf
     refine ccS (E:=E_KernelState_Int_Int) h (kernel_Do_w (⟨⟨v48.1,v48.2.1⟩,v48.2.2.1,v48.2.2.2.1,v48.2.2.2.2.1,v48.2.2.2.2.2.1⟩) x52) rfl rfl (fun x53 h=>?_)<;>conv=>whnf
     refine jnS (fun w54=>⟨[(1,.l (.d (.sl (a1.map Law21Step.enc)))),(5,.l (.d (.sl (x4.1.map WorldView.enc)))),(6,lI x4.2),(10,.l (.ptr 11 0)),(12,.l (.bsl 78 3 3)),(13,lI v47.2.2.2.2.2.2.2.2.2.2.2.2),(14,lI v48.2.2.2.2.2.2.2.2.2),(15,.l (.ptr 16 0)),(17,lI x53.2.1),(18,lI x53.2.2),(119,lB w54)],206,[],[(11,[dI x53.1.Table.Frame,.d (.sl (x53.1.Table.Windows.map Window.enc)),.d (.sl (x53.1.Faces.map Face.enc)),.d (.sl (x53.1.Parts.map PartState.enc)),.d (.sl (x53.1.Lines.map PortLine.enc)),dI x53.1.Now]),(16,[dI x52.Part,dI x52.Kind,dI x52.I,dI x52.V,dI x52.T.C,dI x52.T.D,dI x52.T.T,.d (.sl (x52.T.Secs.map Sec.enc))]),(78,[.own 57800,.own 57801,.nil,.own 57803,.own 57804,.nil,.own 57806,.own 57807,.nil])],[(57800,113,3,v48.2.2.2.2.2.2.1.map WorldSaw.enc),(57801,3,1,v47.2.2.2.2.2.2.2.1.map (eI .i64)),(57803,113,3,v48.2.2.2.2.2.2.2.1.map WorldSaw.enc),(57804,3,1,v47.2.2.2.2.2.2.2.2.2.1.map (eI .i64)),(57806,113,3,v48.2.2.2.2.2.2.2.2.1.map WorldSaw.enc),(57807,3,1,v47.2.2.2.2.2.2.2.2.2.2.2.1.map (eI .i64))]⟩) h (fun k54 hk54 h=>?_) (fun w54 h=>?_)<;>conv=>whnf
     ·refine fkS h (fun h=>?_) (fun h=>?_)<;>conv=>whnf
      ·refine lenB tab rfl rfl rfl rfl rfl ?_<;>conv=>whnf
       exact jeS hk54 h wR
      exact jeS hk54 h wR
     refine fkS h (fun h=>?_) (fun h=>?_)<;>conv=>whnf
     ·refine⟨15,?_⟩
      conv=>whnf
      refine fkN h (fun q55 h=>?_) (fun q55 h=>?_)<;>conv=>whnf
      ·refine liS ([⟨v47.2.2.2.2.2.2.2.2.2.2.2.2,x53.2.1,x53.2.2⟩]:List WorldSaw) WorldSaw.enc rfl rfl ?_<;>conv=>whnf
       refine apS (enc:=WorldSaw.enc) (l1:=v48.2.2.2.2.2.2.1) (l2:=([⟨v47.2.2.2.2.2.2.2.2.2.2.2.2,x53.2.1,x53.2.2⟩]:List WorldSaw)) h rfl rfl (fun _=>rfl) (fun h=>?_)<;>conv=>whnf
       refine drS (by kernel_rfl) ?_<;>conv=>whnf
       refine fork_t q55 ?_<;>conv=>whnf
       refine jeX hk50 h ?_<;>conv=>whnf
       refine WkF.step (Weak.rekey _ 135 57800 rfl) ?_<;>conv=>whnf
       exact WkF.refl _
      refine fkN h (fun q56 h=>?_) (fun q56 h=>?_)<;>conv=>whnf
      ·refine liS ([⟨v47.2.2.2.2.2.2.2.2.2.2.2.2,x53.2.1,x53.2.2⟩]:List WorldSaw) WorldSaw.enc rfl rfl ?_<;>conv=>whnf
       refine apS (enc:=WorldSaw.enc) (l1:=v48.2.2.2.2.2.2.2.1) (l2:=([⟨v47.2.2.2.2.2.2.2.2.2.2.2.2,x53.2.1,x53.2.2⟩]:List WorldSaw)) h rfl rfl (fun _=>rfl) (fun h=>?_)<;>conv=>whnf
       refine drS (by kernel_rfl) ?_<;>conv=>whnf
       refine fork_f q55 ?_<;>conv=>whnf
       refine fork_t q56 ?_<;>conv=>whnf
       refine jeX hk50 h ?_<;>conv=>whnf
       refine WkF.step (Weak.rekey _ 135 57803 rfl) ?_<;>conv=>whnf
       exact WkF.refl _
      refine fkN h (fun q57 h=>?_) (fun q57 h=>?_)<;>conv=>whnf
      ·refine liS ([⟨v47.2.2.2.2.2.2.2.2.2.2.2.2,x53.2.1,x53.2.2⟩]:List WorldSaw) WorldSaw.enc rfl rfl ?_<;>conv=>whnf
       refine apS (enc:=WorldSaw.enc) (l1:=v48.2.2.2.2.2.2.2.2.1) (l2:=([⟨v47.2.2.2.2.2.2.2.2.2.2.2.2,x53.2.1,x53.2.2⟩]:List WorldSaw)) h rfl rfl (fun _=>rfl) (fun h=>?_)<;>conv=>whnf
       refine drS (by kernel_rfl) ?_<;>conv=>whnf
       refine fork_f q55 ?_<;>conv=>whnf
       refine fork_f q56 ?_<;>conv=>whnf
       refine fork_t q57 ?_<;>conv=>whnf
       refine jeX hk50 h ?_<;>conv=>whnf
       refine WkF.step (Weak.rekey _ 135 57806 rfl) ?_<;>conv=>whnf
       exact WkF.refl _
      cases h
     refine jeX hk50 h ?_<;>conv=>whnf
     refine WkF.step (Weak.keepS _ [1,5,6,10,12,13,14]) ?_<;>conv=>whnf
     exact WkF.refl _
    exact leS hn48 h wR
   refine ccS (E:=E_KernelState_ListInt_Int) h (kernel_Tick_w (⟨⟨v48.1,v48.2.1⟩,v48.2.2.1,v48.2.2.2.1,v48.2.2.2.2.1,v48.2.2.2.2.2.1⟩)) rfl rfl (fun x58 h=>?_)<;>conv=>whnf
   refine lenS x58.2.1 (eI .i64) rfl ?_<;>conv=>whnf
   refine lenB tab rfl rfl rfl rfl rfl ?_<;>conv=>whnf
   refine fkS h (fun h=>?_) (fun h=>?_)<;>conv=>whnf
   ·exact rt (E:=E_Bool) h rfl
   refine lpS (fun v59=>⟨[(1,.l (.d (.sl (a1.map Law21Step.enc)))),(5,.l (.d (.sl (x4.1.map WorldView.enc)))),(6,lI x4.2),(10,.l (.ptr 11 0)),(12,.l (.bsl 78 3 3)),(13,lI v47.2.2.2.2.2.2.2.2.2.2.2.2),(20,.l (.d (.sl (x58.2.1.map (eI .i64))))),(22,lI v59.2.2.2)],206,[],[(11,[dI x58.1.Table.Frame,.d (.sl (x58.1.Table.Windows.map Window.enc)),.d (.sl (x58.1.Faces.map Face.enc)),.d (.sl (x58.1.Parts.map PartState.enc)),.d (.sl (x58.1.Lines.map PortLine.enc)),dI x58.1.Now]),(78,[.own 57800,.own 57801,.nil,.own 57803,.own 57804,.nil,.own 57806,.own 57807,.nil])],[(57800,113,3,v48.2.2.2.2.2.2.1.map WorldSaw.enc),(57801,3,1,v59.1.map (eI .i64)),(57803,113,3,v48.2.2.2.2.2.2.2.1.map WorldSaw.enc),(57804,3,1,v59.2.1.map (eI .i64)),(57806,113,3,v48.2.2.2.2.2.2.2.2.1.map WorldSaw.enc),(57807,3,1,v59.2.2.1.map (eI .i64))]⟩) h wR (fun _ nx59 hn59 v59 h=>?_)<;>conv=>whnf
   refine lenB tab rfl rfl rfl rfl rfl ?_<;>conv=>whnf
   refine fkS h (fun h=>?_) (fun h=>?_)<;>conv=>whnf
   ·refine⟨13,?_⟩
    conv=>whnf
    refine fkN h (fun q60 h=>?_) (fun q60 h=>?_)<;>conv=>whnf
    ·refine ixS (enc:=(eI .i64)) h rfl (fun _=>rfl) (fun x65 h=>?_)<;>conv=>whnf
     refine liS ([x65]:List Int) (eI .i64) rfl rfl ?_<;>conv=>whnf
     refine apS (enc:=(eI .i64)) (l1:=v59.1) (l2:=([x65]:List Int)) h rfl rfl (fun _=>rfl) (fun h=>?_)<;>conv=>whnf
     refine drS (by kernel_rfl) ?_<;>conv=>whnf
     refine fork_t q60 ?_<;>conv=>whnf
     refine leX hn59 h ?_<;>conv=>whnf
     refine WkF.step (Weak.rekey _ 168 57801 rfl) ?_<;>conv=>whnf
     exact WkF.refl _
    refine fkN h (fun q61 h=>?_) (fun q61 h=>?_)<;>conv=>whnf
    ·refine ixS (enc:=(eI .i64)) h rfl (fun _=>rfl) (fun x64 h=>?_)<;>conv=>whnf
     refine liS ([x64]:List Int) (eI .i64) rfl rfl ?_<;>conv=>whnf
     refine apS (enc:=(eI .i64)) (l1:=v59.2.1) (l2:=([x64]:List Int)) h rfl rfl (fun _=>rfl) (fun h=>?_)<;>conv=>whnf
     refine drS (by kernel_rfl) ?_<;>conv=>whnf
     refine fork_f q60 ?_<;>conv=>whnf
     refine fork_t q61 ?_<;>conv=>whnf
     refine leX hn59 h ?_<;>conv=>whnf
     refine WkF.step (Weak.rekey _ 168 57804 rfl) ?_<;>conv=>whnf
     exact WkF.refl _
    refine fkN h (fun q62 h=>?_) (fun q62 h=>?_)<;>conv=>whnf
    ·refine ixS (enc:=(eI .i64)) h rfl (fun _=>rfl) (fun x63 h=>?_)<;>conv=>whnf
     refine liS ([x63]:List Int) (eI .i64) rfl rfl ?_<;>conv=>whnf
     refine apS (enc:=(eI .i64)) (l1:=v59.2.2.1) (l2:=([x63]:List Int)) h rfl rfl (fun _=>rfl) (fun h=>?_)<;>conv=>whnf
     refine drS (by kernel_rfl) ?_<;>conv=>whnf
     refine fork_f q60 ?_<;>conv=>whnf
     refine fork_f q61 ?_<;>conv=>whnf
     refine fork_t q62 ?_<;>conv=>whnf
     refine leX hn59 h ?_<;>conv=>whnf
     refine WkF.step (Weak.rekey _ 168 57807 rfl) ?_<;>conv=>whnf
     exact WkF.refl _
    cases h
   exact leS hn47 h wR
  refine jnS (fun w66=>⟨[(5,.l (.d (.sl (x4.1.map WorldView.enc)))),(10,.l (.ptr 11 0)),(12,.l (.bsl 78 3 3)),(178,lB w66)],206,[],[(11,[dI v47.1,.d (.sl (v47.2.1.map Window.enc)),.d (.sl (v47.2.2.1.map Face.enc)),.d (.sl (v47.2.2.2.1.map PartState.enc)),.d (.sl (v47.2.2.2.2.1.map PortLine.enc)),dI v47.2.2.2.2.2.1]),(78,[.own 57800,.own 57801,.nil,.own 57803,.own 57804,.nil,.own 57806,.own 57807,.nil])],[(57800,113,3,v47.2.2.2.2.2.2.1.map WorldSaw.enc),(57801,3,1,v47.2.2.2.2.2.2.2.1.map (eI .i64)),(57803,113,3,v47.2.2.2.2.2.2.2.2.1.map WorldSaw.enc),(57804,3,1,v47.2.2.2.2.2.2.2.2.2.1.map (eI .i64)),(57806,113,3,v47.2.2.2.2.2.2.2.2.2.2.1.map WorldSaw.enc),(57807,3,1,v47.2.2.2.2.2.2.2.2.2.2.2.1.map (eI .i64))]⟩) h (fun k66 hk66 h=>?_) (fun w66 h=>?_)<;>conv=>whnf
  ·refine lenS x4.1 WorldView.enc rfl ?_<;>conv=>whnf
   refine lenB tab rfl rfl rfl rfl rfl ?_<;>conv=>whnf
   refine fkS h (fun h=>?_) (fun h=>?_)<;>conv=>whnf
   ·exact jeS hk66 h wR
   exact jeS hk66 h wR
  refine fkS h (fun h=>?_) (fun h=>?_)<;>conv=>whnf
  ·exact rt (E:=E_Bool) h rfl
  refine lpX (fun v67=>⟨[(5,.l (.d (.sl (x4.1.map WorldView.enc)))),(10,.l (.ptr 11 0)),(12,.l (.bsl 78 3 3)),(23,lI v67.2.2.2)],206,[],[(11,[dI v47.1,.d (.sl (v47.2.1.map Window.enc)),.d (.sl (v47.2.2.1.map Face.enc)),.d (.sl (v47.2.2.2.1.map PartState.enc)),.d (.sl (v47.2.2.2.2.1.map PortLine.enc)),dI v47.2.2.2.2.2.1]),(78,[.own 57800,.own 57801,.d (.sl (v67.1.map Entry.enc)),.own 57803,.own 57804,.d (.sl (v67.2.1.map Entry.enc)),.own 57806,.own 57807,.d (.sl (v67.2.2.1.map Entry.enc))])],[(57800,113,3,v47.2.2.2.2.2.2.1.map WorldSaw.enc),(57801,3,1,v47.2.2.2.2.2.2.2.1.map (eI .i64)),(57803,113,3,v47.2.2.2.2.2.2.2.2.1.map WorldSaw.enc),(57804,3,1,v47.2.2.2.2.2.2.2.2.2.1.map (eI .i64)),(57806,113,3,v47.2.2.2.2.2.2.2.2.2.2.1.map WorldSaw.enc),(57807,3,1,v47.2.2.2.2.2.2.2.2.2.2.2.1.map (eI .i64))]⟩) h ?_ (fun _ nx67 hn67 v67 h=>?_)<;>conv=>whnf
  ·refine WkF.step (Weak.nilBD _ 78 2 _ rfl rfl) ?_<;>conv=>whnf
   refine WkF.step (Weak.nilBD _ 78 5 _ rfl rfl) ?_<;>conv=>whnf
   refine WkF.step (Weak.nilBD _ 78 8 _ rfl rfl) ?_<;>conv=>whnf
   exact WkF.refl _
  refine lenB tab rfl rfl rfl rfl rfl ?_<;>conv=>whnf
  refine fkS h (fun h=>?_) (fun h=>?_)<;>conv=>whnf
  ·refine ixS (enc:=PartState.enc) h rfl (fun _=>rfl) (fun x68 h=>?_)<;>conv=>whnf
   refine fkN h (fun q69 h=>?_) (fun q69 h=>?_)<;>conv=>whnf
   ·refine⟨8,?_⟩
    conv=>whnf
    refine ixS (enc:=WorldView.enc) h rfl (fun _=>rfl) (fun x76 h=>?_)<;>conv=>whnf
    refine fork_t q69 ?_<;>conv=>whnf
    refine drS (by kernel_rfl) ?_<;>conv=>whnf
    refine caS (E:=E_Bool) h (law22_Same_w x76 ⟨v47.2.2.2.2.2.2.1,v47.2.2.2.2.2.2.2.1,x68.Log⟩) rfl (fun _=>rfl) (fun x77 h=>?_)<;>conv=>whnf
    refine fkS h (fun h=>?_) (fun h=>?_)<;>conv=>whnf
    ·exact rt (E:=E_Bool) h rfl
    exact leS hn67 h wR
   refine fkN h (fun q70 h=>?_) (fun q70 h=>?_)<;>conv=>whnf
   ·refine⟨8,?_⟩
    conv=>whnf
    refine ixS (enc:=WorldView.enc) h rfl (fun _=>rfl) (fun x74 h=>?_)<;>conv=>whnf
    refine fork_f q69 ?_<;>conv=>whnf
    refine fork_t q70 ?_<;>conv=>whnf
    refine drS (by kernel_rfl) ?_<;>conv=>whnf
    refine caS (E:=E_Bool) h (law22_Same_w x74 ⟨v47.2.2.2.2.2.2.2.2.1,v47.2.2.2.2.2.2.2.2.2.1,x68.Log⟩) rfl (fun _=>rfl) (fun x75 h=>?_)<;>conv=>whnf
    refine fkS h (fun h=>?_) (fun h=>?_)<;>conv=>whnf
    ·exact rt (E:=E_Bool) h rfl
    exact leS hn67 h wR
   refine fkN h (fun q71 h=>?_) (fun q71 h=>?_)<;>conv=>whnf
   ·refine⟨8,?_⟩
    conv=>whnf
    refine ixS (enc:=WorldView.enc) h rfl (fun _=>rfl) (fun x72 h=>?_)<;>conv=>whnf
    refine fork_f q69 ?_<;>conv=>whnf
    refine fork_f q70 ?_<;>conv=>whnf
    refine fork_t q71 ?_<;>conv=>whnf
    refine drS (by kernel_rfl) ?_<;>conv=>whnf
    refine caS (E:=E_Bool) h (law22_Same_w x72 ⟨v47.2.2.2.2.2.2.2.2.2.2.1,v47.2.2.2.2.2.2.2.2.2.2.2.1,x68.Log⟩) rfl (fun _=>rfl) (fun x73 h=>?_)<;>conv=>whnf
    refine fkS h (fun h=>?_) (fun h=>?_)<;>conv=>whnf
    ·exact rt (E:=E_Bool) h rfl
    exact leS hn67 h wR
   cases h
  refine caS (E:=E_Bool) h law22_knows_w rfl (fun _=>rfl) (fun x78 h=>?_)<;>conv=>whnf
  exact rt (E:=E_Bool) h rfl
 refine mkF h (fun hb h=>?_) (fun h=>?_)<;>conv=>whnf
 ·refine mkB tab 4 rfl rfl rfl rfl (of_decide_eq_true hb) (of_decide_eq_true hb) rfl rfl rfl (Nat.le_of_ble_eq_true rfl) (Nat.le_of_ble_eq_true rfl) (Nat.le_of_ble_eq_true rfl) rfl ?_<;>conv=>whnf
  refine lpX (fun v9=>⟨[(1,.l (.d (.sl (a1.map Law21Step.enc)))),(5,.l (.d (.sl (x4.1.map WorldView.enc)))),(6,lI x4.2),(10,.l (.ptr 11 0)),(12,.l (.bsl 78 4 3)),(13,lI v9.2.2.2.2.2.2.2.2.2.2.2.2.2.2)],206,[],[(11,[dI v9.1,.d (.sl (v9.2.1.map Window.enc)),.d (.sl (v9.2.2.1.map Face.enc)),.d (.sl (v9.2.2.2.1.map PartState.enc)),.d (.sl (v9.2.2.2.2.1.map PortLine.enc)),dI v9.2.2.2.2.2.1]),(78,[.own 57800,.own 57801,.nil,.own 57803,.own 57804,.nil,.own 57806,.own 57807,.nil,.own 57809,.own 57810,.nil])],[(57800,113,3,v9.2.2.2.2.2.2.1.map WorldSaw.enc),(57801,3,1,v9.2.2.2.2.2.2.2.1.map (eI .i64)),(57803,113,3,v9.2.2.2.2.2.2.2.2.1.map WorldSaw.enc),(57804,3,1,v9.2.2.2.2.2.2.2.2.2.1.map (eI .i64)),(57806,113,3,v9.2.2.2.2.2.2.2.2.2.2.1.map WorldSaw.enc),(57807,3,1,v9.2.2.2.2.2.2.2.2.2.2.2.1.map (eI .i64)),(57809,113,3,v9.2.2.2.2.2.2.2.2.2.2.2.2.1.map WorldSaw.enc),(57810,3,1,v9.2.2.2.2.2.2.2.2.2.2.2.2.2.1.map (eI .i64))]⟩) h ?_ (fun _ nx9 hn9 v9 h=>?_)<;>conv=>whnf
  ·refine WkF.step (Weak.nilBO _ 78 0 57800 113 3 _ rfl rfl) ?_<;>conv=>whnf
   refine WkF.step (Weak.nilBO _ 78 1 57801 3 1 _ rfl rfl) ?_<;>conv=>whnf
   refine WkF.step (Weak.nilBO _ 78 3 57803 113 3 _ rfl rfl) ?_<;>conv=>whnf
   refine WkF.step (Weak.nilBO _ 78 4 57804 3 1 _ rfl rfl) ?_<;>conv=>whnf
   refine WkF.step (Weak.nilBO _ 78 6 57806 113 3 _ rfl rfl) ?_<;>conv=>whnf
   refine WkF.step (Weak.nilBO _ 78 7 57807 3 1 _ rfl rfl) ?_<;>conv=>whnf
   refine WkF.step (Weak.nilBO _ 78 9 57809 113 3 _ rfl rfl) ?_<;>conv=>whnf
   refine WkF.step (Weak.nilBO _ 78 10 57810 3 1 _ rfl rfl) ?_<;>conv=>whnf
   exact WkF.refl _
  refine lenS a1 Law21Step.enc rfl ?_<;>conv=>whnf
  refine fkS h (fun h=>?_) (fun h=>?_)<;>conv=>whnf
  ·refine lpS (fun v10=>⟨[(1,.l (.d (.sl (a1.map Law21Step.enc)))),(5,.l (.d (.sl (x4.1.map WorldView.enc)))),(6,lI x4.2),(10,.l (.ptr 11 0)),(12,.l (.bsl 78 4 3)),(13,lI v9.2.2.2.2.2.2.2.2.2.2.2.2.2.2),(14,lI v10.2.2.2.2.2.2.2.2.2.2)],206,[],[(11,[dI v10.1,.d (.sl (v10.2.1.map Window.enc)),.d (.sl (v10.2.2.1.map Face.enc)),.d (.sl (v10.2.2.2.1.map PartState.enc)),.d (.sl (v10.2.2.2.2.1.map PortLine.enc)),dI v10.2.2.2.2.2.1]),(78,[.own 57800,.own 57801,.nil,.own 57803,.own 57804,.nil,.own 57806,.own 57807,.nil,.own 57809,.own 57810,.nil])],[(57800,113,3,v10.2.2.2.2.2.2.1.map WorldSaw.enc),(57801,3,1,v9.2.2.2.2.2.2.2.1.map (eI .i64)),(57803,113,3,v10.2.2.2.2.2.2.2.1.map WorldSaw.enc),(57804,3,1,v9.2.2.2.2.2.2.2.2.2.1.map (eI .i64)),(57806,113,3,v10.2.2.2.2.2.2.2.2.1.map WorldSaw.enc),(57807,3,1,v9.2.2.2.2.2.2.2.2.2.2.2.1.map (eI .i64)),(57809,113,3,v10.2.2.2.2.2.2.2.2.2.1.map WorldSaw.enc),(57810,3,1,v9.2.2.2.2.2.2.2.2.2.2.2.2.2.1.map (eI .i64))]⟩) h wR (fun _ nx10 hn10 v10 h=>?_)<;>conv=>whnf
   refine ixS (enc:=Law21Step.enc) h rfl (fun _=>rfl) (fun x11 h=>?_)<;>conv=>whnf
   refine lenS x11.Cmds KernelCmd.enc rfl ?_<;>conv=>whnf
   refine fkS h (fun h=>?_) (fun h=>?_)<;>conv=>whnf
   ·refine jnS (fun w12=>⟨[(1,.l (.d (.sl (a1.map Law21Step.enc)))),(5,.l (.d (.sl (x4.1.map WorldView.enc)))),(6,lI x4.2),(10,.l (.ptr 11 0)),(12,.l (.bsl 78 4 3)),(13,lI v9.2.2.2.2.2.2.2.2.2.2.2.2.2.2),(14,lI v10.2.2.2.2.2.2.2.2.2.2)],206,[],[(11,[dI w12.1,.d (.sl (w12.2.1.map Window.enc)),.d (.sl (w12.2.2.1.map Face.enc)),.d (.sl (w12.2.2.2.1.map PartState.enc)),.d (.sl (w12.2.2.2.2.1.map PortLine.enc)),dI w12.2.2.2.2.2.1]),(78,[.own 57800,.own 57801,.nil,.own 57803,.own 57804,.nil,.own 57806,.own 57807,.nil,.own 57809,.own 57810,.nil])],[(57800,113,3,w12.2.2.2.2.2.2.1.map WorldSaw.enc),(57801,3,1,v9.2.2.2.2.2.2.2.1.map (eI .i64)),(57803,113,3,w12.2.2.2.2.2.2.2.1.map WorldSaw.enc),(57804,3,1,v9.2.2.2.2.2.2.2.2.2.1.map (eI .i64)),(57806,113,3,w12.2.2.2.2.2.2.2.2.1.map WorldSaw.enc),(57807,3,1,v9.2.2.2.2.2.2.2.2.2.2.2.1.map (eI .i64)),(57809,113,3,w12.2.2.2.2.2.2.2.2.2.map WorldSaw.enc),(57810,3,1,v9.2.2.2.2.2.2.2.2.2.2.2.2.2.1.map (eI .i64))]⟩) h (fun k12 hk12 h=>?_) (fun w12 h=>?_)<;>conv=>whnf
    ·refine ixS (enc:=Law21Step.enc) h rfl (fun _=>rfl) (fun x13 h=>?_)<;>conv=>whnf
     refine ixS (enc:=KernelCmd.enc) h rfl (fun _=>rfl) (fun x14 h=>?_)<;>conv=>whnf
     refine ccS (E:=E_KernelState_Int_Int) h (kernel_Do_w (⟨⟨v10.1,v10.2.1⟩,v10.2.2.1,v10.2.2.2.1,v10.2.2.2.2.1,v10.2.2.2.2.2.1⟩) x14) rfl rfl (fun x15 h=>?_)<;>conv=>whnf
     refine jnS (fun w16=>⟨[(1,.l (.d (.sl (a1.map Law21Step.enc)))),(5,.l (.d (.sl (x4.1.map WorldView.enc)))),(6,lI x4.2),(10,.l (.ptr 11 0)),(12,.l (.bsl 78 4 3)),(13,lI v9.2.2.2.2.2.2.2.2.2.2.2.2.2.2),(14,lI v10.2.2.2.2.2.2.2.2.2.2),(15,.l (.ptr 16 0)),(17,lI x15.2.1),(18,lI x15.2.2),(119,lB w16)],206,[],[(11,[dI x15.1.Table.Frame,.d (.sl (x15.1.Table.Windows.map Window.enc)),.d (.sl (x15.1.Faces.map Face.enc)),.d (.sl (x15.1.Parts.map PartState.enc)),.d (.sl (x15.1.Lines.map PortLine.enc)),dI x15.1.Now]),(16,[dI x14.Part,dI x14.Kind,dI x14.I,dI x14.V,dI x14.T.C,dI x14.T.D,dI x14.T.T,.d (.sl (x14.T.Secs.map Sec.enc))]),(78,[.own 57800,.own 57801,.nil,.own 57803,.own 57804,.nil,.own 57806,.own 57807,.nil,.own 57809,.own 57810,.nil])],[(57800,113,3,v10.2.2.2.2.2.2.1.map WorldSaw.enc),(57801,3,1,v9.2.2.2.2.2.2.2.1.map (eI .i64)),(57803,113,3,v10.2.2.2.2.2.2.2.1.map WorldSaw.enc),(57804,3,1,v9.2.2.2.2.2.2.2.2.2.1.map (eI .i64)),(57806,113,3,v10.2.2.2.2.2.2.2.2.1.map WorldSaw.enc),(57807,3,1,v9.2.2.2.2.2.2.2.2.2.2.2.1.map (eI .i64)),(57809,113,3,v10.2.2.2.2.2.2.2.2.2.1.map WorldSaw.enc),(57810,3,1,v9.2.2.2.2.2.2.2.2.2.2.2.2.2.1.map (eI .i64))]⟩) h (fun k16 hk16 h=>?_) (fun w16 h=>?_)<;>conv=>whnf
     ·refine fkS h (fun h=>?_) (fun h=>?_)<;>conv=>whnf
      ·refine lenB tab rfl rfl rfl rfl rfl ?_<;>conv=>whnf
       exact jeS hk16 h wR
      exact jeS hk16 h wR
     refine fkS h (fun h=>?_) (fun h=>?_)<;>conv=>whnf
     ·refine⟨15,?_⟩
      conv=>whnf
      refine fkN h (fun q17 h=>?_) (fun q17 h=>?_)<;>conv=>whnf
      ·refine liS ([⟨v9.2.2.2.2.2.2.2.2.2.2.2.2.2.2,x15.2.1,x15.2.2⟩]:List WorldSaw) WorldSaw.enc rfl rfl ?_<;>conv=>whnf
       refine apS (enc:=WorldSaw.enc) (l1:=v10.2.2.2.2.2.2.1) (l2:=([⟨v9.2.2.2.2.2.2.2.2.2.2.2.2.2.2,x15.2.1,x15.2.2⟩]:List WorldSaw)) h rfl rfl (fun _=>rfl) (fun h=>?_)<;>conv=>whnf
       refine drS (by kernel_rfl) ?_<;>conv=>whnf
       refine fork_t q17 ?_<;>conv=>whnf
       refine jeX hk12 h ?_<;>conv=>whnf
       refine WkF.step (Weak.rekey _ 135 57800 rfl) ?_<;>conv=>whnf
       exact WkF.refl _
      refine fkN h (fun q18 h=>?_) (fun q18 h=>?_)<;>conv=>whnf
      ·refine liS ([⟨v9.2.2.2.2.2.2.2.2.2.2.2.2.2.2,x15.2.1,x15.2.2⟩]:List WorldSaw) WorldSaw.enc rfl rfl ?_<;>conv=>whnf
       refine apS (enc:=WorldSaw.enc) (l1:=v10.2.2.2.2.2.2.2.1) (l2:=([⟨v9.2.2.2.2.2.2.2.2.2.2.2.2.2.2,x15.2.1,x15.2.2⟩]:List WorldSaw)) h rfl rfl (fun _=>rfl) (fun h=>?_)<;>conv=>whnf
       refine drS (by kernel_rfl) ?_<;>conv=>whnf
       refine fork_f q17 ?_<;>conv=>whnf
       refine fork_t q18 ?_<;>conv=>whnf
       refine jeX hk12 h ?_<;>conv=>whnf
       refine WkF.step (Weak.rekey _ 135 57803 rfl) ?_<;>conv=>whnf
       exact WkF.refl _
      refine fkN h (fun q19 h=>?_) (fun q19 h=>?_)<;>conv=>whnf
      ·refine liS ([⟨v9.2.2.2.2.2.2.2.2.2.2.2.2.2.2,x15.2.1,x15.2.2⟩]:List WorldSaw) WorldSaw.enc rfl rfl ?_<;>conv=>whnf
       refine apS (enc:=WorldSaw.enc) (l1:=v10.2.2.2.2.2.2.2.2.1) (l2:=([⟨v9.2.2.2.2.2.2.2.2.2.2.2.2.2.2,x15.2.1,x15.2.2⟩]:List WorldSaw)) h rfl rfl (fun _=>rfl) (fun h=>?_)<;>conv=>whnf
       refine drS (by kernel_rfl) ?_<;>conv=>whnf
       refine fork_f q17 ?_<;>conv=>whnf
       refine fork_f q18 ?_<;>conv=>whnf
       refine fork_t q19 ?_<;>conv=>whnf
       refine jeX hk12 h ?_<;>conv=>whnf
       refine WkF.step (Weak.rekey _ 135 57806 rfl) ?_<;>conv=>whnf
       exact WkF.refl _
      refine fkN h (fun q20 h=>?_) (fun q20 h=>?_)<;>conv=>whnf
      ·refine liS ([⟨v9.2.2.2.2.2.2.2.2.2.2.2.2.2.2,x15.2.1,x15.2.2⟩]:List WorldSaw) WorldSaw.enc rfl rfl ?_<;>conv=>whnf
       refine apS (enc:=WorldSaw.enc) (l1:=v10.2.2.2.2.2.2.2.2.2.1) (l2:=([⟨v9.2.2.2.2.2.2.2.2.2.2.2.2.2.2,x15.2.1,x15.2.2⟩]:List WorldSaw)) h rfl rfl (fun _=>rfl) (fun h=>?_)<;>conv=>whnf
       refine drS (by kernel_rfl) ?_<;>conv=>whnf
       refine fork_f q17 ?_<;>conv=>whnf
       refine fork_f q18 ?_<;>conv=>whnf
       refine fork_f q19 ?_<;>conv=>whnf
       refine fork_t q20 ?_<;>conv=>whnf
       refine jeX hk12 h ?_<;>conv=>whnf
       refine WkF.step (Weak.rekey _ 135 57809 rfl) ?_<;>conv=>whnf
       exact WkF.refl _
      cases h
     refine jeX hk12 h ?_<;>conv=>whnf
     refine WkF.step (Weak.keepS _ [1,5,6,10,12,13,14]) ?_<;>conv=>whnf
     exact WkF.refl _
    exact leS hn10 h wR
   refine ccS (E:=E_KernelState_ListInt_Int) h (kernel_Tick_w (⟨⟨v10.1,v10.2.1⟩,v10.2.2.1,v10.2.2.2.1,v10.2.2.2.2.1,v10.2.2.2.2.2.1⟩)) rfl rfl (fun x21 h=>?_)<;>conv=>whnf
   refine lenS x21.2.1 (eI .i64) rfl ?_<;>conv=>whnf
   refine lenB tab rfl rfl rfl rfl rfl ?_<;>conv=>whnf
   refine fkS h (fun h=>?_) (fun h=>?_)<;>conv=>whnf
   ·exact rt (E:=E_Bool) h rfl
   refine lpS (fun v22=>⟨[(1,.l (.d (.sl (a1.map Law21Step.enc)))),(5,.l (.d (.sl (x4.1.map WorldView.enc)))),(6,lI x4.2),(10,.l (.ptr 11 0)),(12,.l (.bsl 78 4 3)),(13,lI v9.2.2.2.2.2.2.2.2.2.2.2.2.2.2),(20,.l (.d (.sl (x21.2.1.map (eI .i64))))),(22,lI v22.2.2.2.2)],206,[],[(11,[dI x21.1.Table.Frame,.d (.sl (x21.1.Table.Windows.map Window.enc)),.d (.sl (x21.1.Faces.map Face.enc)),.d (.sl (x21.1.Parts.map PartState.enc)),.d (.sl (x21.1.Lines.map PortLine.enc)),dI x21.1.Now]),(78,[.own 57800,.own 57801,.nil,.own 57803,.own 57804,.nil,.own 57806,.own 57807,.nil,.own 57809,.own 57810,.nil])],[(57800,113,3,v10.2.2.2.2.2.2.1.map WorldSaw.enc),(57801,3,1,v22.1.map (eI .i64)),(57803,113,3,v10.2.2.2.2.2.2.2.1.map WorldSaw.enc),(57804,3,1,v22.2.1.map (eI .i64)),(57806,113,3,v10.2.2.2.2.2.2.2.2.1.map WorldSaw.enc),(57807,3,1,v22.2.2.1.map (eI .i64)),(57809,113,3,v10.2.2.2.2.2.2.2.2.2.1.map WorldSaw.enc),(57810,3,1,v22.2.2.2.1.map (eI .i64))]⟩) h wR (fun _ nx22 hn22 v22 h=>?_)<;>conv=>whnf
   refine lenB tab rfl rfl rfl rfl rfl ?_<;>conv=>whnf
   refine fkS h (fun h=>?_) (fun h=>?_)<;>conv=>whnf
   ·refine⟨13,?_⟩
    conv=>whnf
    refine fkN h (fun q23 h=>?_) (fun q23 h=>?_)<;>conv=>whnf
    ·refine ixS (enc:=(eI .i64)) h rfl (fun _=>rfl) (fun x30 h=>?_)<;>conv=>whnf
     refine liS ([x30]:List Int) (eI .i64) rfl rfl ?_<;>conv=>whnf
     refine apS (enc:=(eI .i64)) (l1:=v22.1) (l2:=([x30]:List Int)) h rfl rfl (fun _=>rfl) (fun h=>?_)<;>conv=>whnf
     refine drS (by kernel_rfl) ?_<;>conv=>whnf
     refine fork_t q23 ?_<;>conv=>whnf
     refine leX hn22 h ?_<;>conv=>whnf
     refine WkF.step (Weak.rekey _ 168 57801 rfl) ?_<;>conv=>whnf
     exact WkF.refl _
    refine fkN h (fun q24 h=>?_) (fun q24 h=>?_)<;>conv=>whnf
    ·refine ixS (enc:=(eI .i64)) h rfl (fun _=>rfl) (fun x29 h=>?_)<;>conv=>whnf
     refine liS ([x29]:List Int) (eI .i64) rfl rfl ?_<;>conv=>whnf
     refine apS (enc:=(eI .i64)) (l1:=v22.2.1) (l2:=([x29]:List Int)) h rfl rfl (fun _=>rfl) (fun h=>?_)<;>conv=>whnf
     refine drS (by kernel_rfl) ?_<;>conv=>whnf
     refine fork_f q23 ?_<;>conv=>whnf
     refine fork_t q24 ?_<;>conv=>whnf
     refine leX hn22 h ?_<;>conv=>whnf
     refine WkF.step (Weak.rekey _ 168 57804 rfl) ?_<;>conv=>whnf
     exact WkF.refl _
    refine fkN h (fun q25 h=>?_) (fun q25 h=>?_)<;>conv=>whnf
    ·refine ixS (enc:=(eI .i64)) h rfl (fun _=>rfl) (fun x28 h=>?_)<;>conv=>whnf
     refine liS ([x28]:List Int) (eI .i64) rfl rfl ?_<;>conv=>whnf
     refine apS (enc:=(eI .i64)) (l1:=v22.2.2.1) (l2:=([x28]:List Int)) h rfl rfl (fun _=>rfl) (fun h=>?_)<;>conv=>whnf
     refine drS (by kernel_rfl) ?_<;>conv=>whnf
     refine fork_f q23 ?_<;>conv=>whnf
     refine fork_f q24 ?_<;>conv=>whnf
     refine fork_t q25 ?_<;>conv=>whnf
     refine leX hn22 h ?_<;>conv=>whnf
     refine WkF.step (Weak.rekey _ 168 57807 rfl) ?_<;>conv=>whnf
     exact WkF.refl _
    refine fkN h (fun q26 h=>?_) (fun q26 h=>?_)<;>conv=>whnf
    ·refine ixS (enc:=(eI .i64)) h rfl (fun _=>rfl) (fun x27 h=>?_)<;>conv=>whnf
     refine liS ([x27]:List Int) (eI .i64) rfl rfl ?_<;>conv=>whnf
     refine apS (enc:=(eI .i64)) (l1:=v22.2.2.2.1) (l2:=([x27]:List Int)) h rfl rfl (fun _=>rfl) (fun h=>?_)<;>conv=>whnf
     refine drS (by kernel_rfl) ?_<;>conv=>whnf
     refine fork_f q23 ?_<;>conv=>whnf
     refine fork_f q24 ?_<;>conv=>whnf
     refine fork_f q25 ?_<;>conv=>whnf
     refine fork_t q26 ?_<;>conv=>whnf
     refine leX hn22 h ?_<;>conv=>whnf
     refine WkF.step (Weak.rekey _ 168 57810 rfl) ?_<;>conv=>whnf
     exact WkF.refl _
    cases h
   exact leS hn9 h wR
  refine jnS (fun w31=>⟨[(5,.l (.d (.sl (x4.1.map WorldView.enc)))),(10,.l (.ptr 11 0)),(12,.l (.bsl 78 4 3)),(178,lB w31)],206,[],[(11,[dI v9.1,.d (.sl (v9.2.1.map Window.enc)),.d (.sl (v9.2.2.1.map Face.enc)),.d (.sl (v9.2.2.2.1.map PartState.enc)),.d (.sl (v9.2.2.2.2.1.map PortLine.enc)),dI v9.2.2.2.2.2.1]),(78,[.own 57800,.own 57801,.nil,.own 57803,.own 57804,.nil,.own 57806,.own 57807,.nil,.own 57809,.own 57810,.nil])],[(57800,113,3,v9.2.2.2.2.2.2.1.map WorldSaw.enc),(57801,3,1,v9.2.2.2.2.2.2.2.1.map (eI .i64)),(57803,113,3,v9.2.2.2.2.2.2.2.2.1.map WorldSaw.enc),(57804,3,1,v9.2.2.2.2.2.2.2.2.2.1.map (eI .i64)),(57806,113,3,v9.2.2.2.2.2.2.2.2.2.2.1.map WorldSaw.enc),(57807,3,1,v9.2.2.2.2.2.2.2.2.2.2.2.1.map (eI .i64)),(57809,113,3,v9.2.2.2.2.2.2.2.2.2.2.2.2.1.map WorldSaw.enc),(57810,3,1,v9.2.2.2.2.2.2.2.2.2.2.2.2.2.1.map (eI .i64))]⟩) h (fun k31 hk31 h=>?_) (fun w31 h=>?_)<;>conv=>whnf
  ·refine lenS x4.1 WorldView.enc rfl ?_<;>conv=>whnf
   refine lenB tab rfl rfl rfl rfl rfl ?_<;>conv=>whnf
   refine fkS h (fun h=>?_) (fun h=>?_)<;>conv=>whnf
   ·exact jeS hk31 h wR
   exact jeS hk31 h wR
  refine fkS h (fun h=>?_) (fun h=>?_)<;>conv=>whnf
  ·exact rt (E:=E_Bool) h rfl
  refine lpX (fun v32=>⟨[(5,.l (.d (.sl (x4.1.map WorldView.enc)))),(10,.l (.ptr 11 0)),(12,.l (.bsl 78 4 3)),(23,lI v32.2.2.2.2)],206,[],[(11,[dI v9.1,.d (.sl (v9.2.1.map Window.enc)),.d (.sl (v9.2.2.1.map Face.enc)),.d (.sl (v9.2.2.2.1.map PartState.enc)),.d (.sl (v9.2.2.2.2.1.map PortLine.enc)),dI v9.2.2.2.2.2.1]),(78,[.own 57800,.own 57801,.d (.sl (v32.1.map Entry.enc)),.own 57803,.own 57804,.d (.sl (v32.2.1.map Entry.enc)),.own 57806,.own 57807,.d (.sl (v32.2.2.1.map Entry.enc)),.own 57809,.own 57810,.d (.sl (v32.2.2.2.1.map Entry.enc))])],[(57800,113,3,v9.2.2.2.2.2.2.1.map WorldSaw.enc),(57801,3,1,v9.2.2.2.2.2.2.2.1.map (eI .i64)),(57803,113,3,v9.2.2.2.2.2.2.2.2.1.map WorldSaw.enc),(57804,3,1,v9.2.2.2.2.2.2.2.2.2.1.map (eI .i64)),(57806,113,3,v9.2.2.2.2.2.2.2.2.2.2.1.map WorldSaw.enc),(57807,3,1,v9.2.2.2.2.2.2.2.2.2.2.2.1.map (eI .i64)),(57809,113,3,v9.2.2.2.2.2.2.2.2.2.2.2.2.1.map WorldSaw.enc),(57810,3,1,v9.2.2.2.2.2.2.2.2.2.2.2.2.2.1.map (eI .i64))]⟩) h ?_ (fun _ nx32 hn32 v32 h=>?_)<;>conv=>whnf
  ·refine WkF.step (Weak.nilBD _ 78 2 _ rfl rfl) ?_<;>conv=>whnf
   refine WkF.step (Weak.nilBD _ 78 5 _ rfl rfl) ?_<;>conv=>whnf
   refine WkF.step (Weak.nilBD _ 78 8 _ rfl rfl) ?_<;>conv=>whnf
   refine WkF.step (Weak.nilBD _ 78 11 _ rfl rfl) ?_<;>conv=>whnf
   exact WkF.refl _
  refine lenB tab rfl rfl rfl rfl rfl ?_<;>conv=>whnf
  refine fkS h (fun h=>?_) (fun h=>?_)<;>conv=>whnf
  ·refine ixS (enc:=PartState.enc) h rfl (fun _=>rfl) (fun x33 h=>?_)<;>conv=>whnf
   refine fkN h (fun q34 h=>?_) (fun q34 h=>?_)<;>conv=>whnf
   ·refine⟨8,?_⟩
    conv=>whnf
    refine ixS (enc:=WorldView.enc) h rfl (fun _=>rfl) (fun x44 h=>?_)<;>conv=>whnf
    refine fork_t q34 ?_<;>conv=>whnf
    refine drS (by kernel_rfl) ?_<;>conv=>whnf
    refine caS (E:=E_Bool) h (law22_Same_w x44 ⟨v9.2.2.2.2.2.2.1,v9.2.2.2.2.2.2.2.1,x33.Log⟩) rfl (fun _=>rfl) (fun x45 h=>?_)<;>conv=>whnf
    refine fkS h (fun h=>?_) (fun h=>?_)<;>conv=>whnf
    ·exact rt (E:=E_Bool) h rfl
    exact leS hn32 h wR
   refine fkN h (fun q35 h=>?_) (fun q35 h=>?_)<;>conv=>whnf
   ·refine⟨8,?_⟩
    conv=>whnf
    refine ixS (enc:=WorldView.enc) h rfl (fun _=>rfl) (fun x42 h=>?_)<;>conv=>whnf
    refine fork_f q34 ?_<;>conv=>whnf
    refine fork_t q35 ?_<;>conv=>whnf
    refine drS (by kernel_rfl) ?_<;>conv=>whnf
    refine caS (E:=E_Bool) h (law22_Same_w x42 ⟨v9.2.2.2.2.2.2.2.2.1,v9.2.2.2.2.2.2.2.2.2.1,x33.Log⟩) rfl (fun _=>rfl) (fun x43 h=>?_)<;>conv=>whnf
    refine fkS h (fun h=>?_) (fun h=>?_)<;>conv=>whnf
    ·exact rt (E:=E_Bool) h rfl
    exact leS hn32 h wR
   refine fkN h (fun q36 h=>?_) (fun q36 h=>?_)<;>conv=>whnf
   ·refine⟨8,?_⟩
    conv=>whnf
    refine ixS (enc:=WorldView.enc) h rfl (fun _=>rfl) (fun x40 h=>?_)<;>conv=>whnf
    refine fork_f q34 ?_<;>conv=>whnf
    refine fork_f q35 ?_<;>conv=>whnf
    refine fork_t q36 ?_<;>conv=>whnf
    refine drS (by kernel_rfl) ?_<;>conv=>whnf
    refine caS (E:=E_Bool) h (law22_Same_w x40 ⟨v9.2.2.2.2.2.2.2.2.2.2.1,v9.2.2.2.2.2.2.2.2.2.2.2.1,x33.Log⟩) rfl (fun _=>rfl) (fun x41 h=>?_)<;>conv=>whnf
    refine fkS h (fun h=>?_) (fun h=>?_)<;>conv=>whnf
    ·exact rt (E:=E_Bool) h rfl
    exact leS hn32 h wR
   refine fkN h (fun q37 h=>?_) (fun q37 h=>?_)<;>conv=>whnf
   ·refine⟨8,?_⟩
    conv=>whnf
    refine ixS (enc:=WorldView.enc) h rfl (fun _=>rfl) (fun x38 h=>?_)<;>conv=>whnf
    refine fork_f q34 ?_<;>conv=>whnf
    refine fork_f q35 ?_<;>conv=>whnf
    refine fork_f q36 ?_<;>conv=>whnf
    refine fork_t q37 ?_<;>conv=>whnf
    refine drS (by kernel_rfl) ?_<;>conv=>whnf
    refine caS (E:=E_Bool) h (law22_Same_w x38 ⟨v9.2.2.2.2.2.2.2.2.2.2.2.2.1,v9.2.2.2.2.2.2.2.2.2.2.2.2.2.1,x33.Log⟩) rfl (fun _=>rfl) (fun x39 h=>?_)<;>conv=>whnf
    refine fkS h (fun h=>?_) (fun h=>?_)<;>conv=>whnf
    ·exact rt (E:=E_Bool) h rfl
    exact leS hn32 h wR
   cases h
  refine caS (E:=E_Bool) h law22_knows_w rfl (fun _=>rfl) (fun x46 h=>?_)<;>conv=>whnf
  exact rt (E:=E_Bool) h rfl
 cases h
end Go.Proofs.YtldlcdnhdedoeaaGreat
namespace Go.Proofs.YtldlcdnhdedoeaaGreat
open Go Go.VC
theorem lay_k (l:List Face):∃r:List Int×Int,synth_Lay l=some r∧(r.2=0→1≤r.1.length∧r.1.length≤240∧(∀x∈r.1,-1≤x∧x<4)∧facesP l)∧(r.2≠0→r.1=[]∧(r.2=1∨r.2=5∨r.2=7)):=by
 by_cases h:facesP l∧lcmF 1 l≤240
 ·obtain⟨hl,hF⟩:=h
  obtain⟨r,e1,h1⟩:=synth_Lay_ok l hl hF
  have hpos:=lcmF_pos l 1 (by omega) fun f hf=>(hl.1 f hf).P.1
  refine⟨r,e1,fun h0=>?_,fun h0=>?_⟩
  ·rcases h1 with ⟨o,w,a,b,rfl⟩ | ⟨t,ht,o,w,a,b,rfl⟩
   ·obtain⟨g1,_,_,g4⟩:=a.ok hl
    refine⟨by show 1≤o.length; omega,by show o.length≤240; omega,fun x hx=>?_,hl⟩
    have:=g4 x hx
    have:=hl.2
    omega
   ·exact absurd h0 (by decide)
  ·rcases h1 with ⟨o,w,a,b,rfl⟩ | ⟨t,ht,o,w,a,b,rfl⟩
   ·exact absurd rfl h0
   ·exact⟨rfl,.inr (.inr rfl)⟩
 ·have ef:(frameV l).2≠0∧((frameV l).2=1∨(frameV l).2=5):=by
   unfold frameV
   by_cases hl:facesP l
   ·rw[if_pos hl,if_neg (fun hF=>h ⟨hl,hF⟩)]; exact⟨by decide,.inr rfl⟩
   ·rw[if_neg hl]; exact⟨by decide,.inl rfl⟩
  refine⟨([],(frameV l).2),?_,fun h0=>absurd h0 ef.1,fun _=>⟨rfl,ef.2.elim .inl fun h=>.inr (.inl h)⟩⟩
  ·unfold synth_Lay
   rw[bnd_eq (synth_Frame_eq l),decide_eq_false ef.1,Bool.not_false,fk_t]
theorem table_Make_k (l:List Face):(∃t,table_Make l=some (t,0)∧tabP t)∨∃e,e≠0∧table_Make l=some (⟨0,[]⟩,e):=by
 obtain⟨r,e1,h1,h2⟩:=lay_k l
 by_cases c:r.2=0
 ·obtain⟨a,b,d,_⟩:=h1 c
  obtain⟨t,f1,f2,_⟩:=table_Of_ex r.1 a b d
  refine .inl ⟨t,?_,f2⟩
  unfold table_Make
  rw[bnd_eq e1,decide_eq_true c,Bool.not_true,fk_f,bnd_eq f1]
 ·refine .inr ⟨r.2,c,?_⟩
  unfold table_Make
  rw[bnd_eq e1,decide_eq_false c,Bool.not_false,fk_t]
theorem bootK {c:Config} {t:TableTable} (hc:confP c) (hT:tabP t):kP ⟨t,c.Parts.map (·.Face),c.Parts.map fun p=>new0 p.Tasks,c.Ports.map newL,0⟩:=by
 refine⟨hT,fun p hp=>?_,?_,?_,linesP_new hc.qs hc.ql,Int.le_refl _,by show (0:Int)≤100000; omega⟩
 ·obtain⟨q,hq,rfl⟩:=List.mem_map.1 hp
  exact okS_new (hc.ps q hq).2
 ·show (c.Parts.map _).length≤4
  rw[List.length_map]; exact hc.pl
 ·show (c.Parts.map _).length=(c.Parts.map _).length
  rw[List.length_map,List.length_map]
theorem boot_k (c:Config) (hb:confB c):(∃e,e≠0∧kernel_Boot c=some (zeroK,e))∨∃s,kernel_Boot c=some (s,0)∧kP s∧s.Now=0:=by
 by_cases hc:confP c
 rotate_left
 ·refine .inl ⟨1,by decide,?_⟩
  unfold kernel_Boot
  rw[bnd_eq (image_Right_eq c hb),decide_eq_false hc,Bool.not_false,fk_t]; rfl
 have h4:=hc.pl
 rcases table_Make_k (c.Parts.map (·.Face)) with ⟨t,eT,hT⟩ | ⟨e,h0,eT⟩
 rotate_left
 ·refine .inl ⟨e,h0,?_⟩
  unfold kernel_Boot
  rw[bnd_eq (image_Right_eq c hb),decide_eq_true hc,Bool.not_true,fk_f]
  refine lp_upS c.Parts.length (by unfold FU; omega) (fun k s=>s=(c.Parts.take k).map (·.Face)) [] rfl ?_
  rintro nx k s hk rfl hnx
  dsimp only
  rw[lt_nat]
  by_cases hk':k<c.Parts.length
  ·rw[decide_eq_true hk',fk_t,ix_lt hk',ck_t (by simp; omega),wr_succ k _ hk' (by omega)]
   refine hnx _ hk' ?_
   rw[←List.take_append_getElem hk',List.map_append]; rfl
  ·rw[decide_eq_false hk',fk_f,List.take_of_length_le (by omega)]
   rw[bnd_eq eT,decide_eq_false h0,Bool.not_false,fk_t]; rfl
 have hop:(∀p∈c.Ports,portP p)∧c.Ports.length≤4:=⟨hc.qs,hc.ql⟩
 have dich:(∀p∈c.Parts,bootE p=0)∨∃(k:Nat) (h:k<c.Parts.length),bootE c.Parts[k]≠0∧∀p∈c.Parts.take k,bootE p=0:=by
  have:∀n,n≤c.Parts.length→(∀p∈c.Parts.take n,bootE p=0)∨∃(k:Nat) (h:k<c.Parts.length),bootE c.Parts[k]≠0∧∀p∈c.Parts.take k,bootE p=0:=by
   intro n
   induction n with
   | zero=>intro _; exact .inl fun p h=>by simp at h
   | succ n ih=>
    intro hn
    rcases ih (by omega) with h | h
    ·by_cases e:bootE (c.Parts[n]'(by omega))=0
     ·refine .inl fun p hp=>?_
      rcases mem_take_succ (by omega) hp with h' | rfl
      ·exact h p h'
      ·exact e
     ·exact .inr ⟨n,by omega,e,h⟩
    ·exact .inr h
  rcases this c.Parts.length (Nat.le_refl _) with h | h
  ·rw[List.take_length] at h; exact .inl h
  ·exact .inr h
 have kb:∀r',lp (fun nx5 (v5:(List PartState)×Int)=>fk (decide (v5.2<(c.Parts.length:Int))) (ix c.Parts v5.2 fun x6=>bnd (admit_Boot x6) fun x7=>fk (!decide (x7.2=(0:Int))) (some (zeroK,x7.2)) (ck (decide ((v5.1.length+([x7.1]:List PartState).length)*120≤140737488355328)) (nx5 (v5.1++([x7.1]:List PartState),(wr (v5.2+(1:Int))))))) (bnd (port_Open c.Ports) fun x8=>some (⟨t,c.Parts.map (·.Face),v5.1,x8.1,(0:Int)⟩,(0:Int)))) FU ([],(0:Int))=some r'→kernel_Boot c=some r':=by
  intro r' hr
  unfold kernel_Boot
  rw[bnd_eq (image_Right_eq c hb),decide_eq_true hc,Bool.not_true,fk_f]
  refine lp_upS c.Parts.length (by unfold FU; omega) (fun k s=>s=(c.Parts.take k).map (·.Face)) [] rfl ?_
  rintro nx k s hk rfl hnx
  dsimp only
  rw[lt_nat]
  by_cases hk':k<c.Parts.length
  ·rw[decide_eq_true hk',fk_t,ix_lt hk',ck_t (by simp; omega),wr_succ k _ hk' (by omega)]
   refine hnx _ hk' ?_
   rw[←List.take_append_getElem hk',List.map_append]; rfl
  ·rw[decide_eq_false hk',fk_f,List.take_of_length_le (by omega)]
   rw[bnd_eq eT,decide_eq_true rfl,Bool.not_true,fk_f]
   exact hr
 rcases dich with hall | ⟨q,hq,hqe,hqa⟩
 ·refine .inr ⟨⟨t,c.Parts.map (·.Face),c.Parts.map fun p=>new0 p.Tasks,c.Ports.map newL,0⟩,kb _ ?_,bootK hc hT,rfl⟩
  ·skip
   refine lp_upS c.Parts.length (by unfold FU; omega) (fun k s=>s=(c.Parts.take k).map fun p=>new0 p.Tasks) [] rfl ?_
   rintro nx k s hk rfl hnx
   dsimp only
   rw[lt_nat]
   by_cases hk':k<c.Parts.length
   ·have hm:=List.getElem_mem hk'
    rw[decide_eq_true hk',fk_t,ix_lt hk',bnd_eq (admit_Boot_eq _ (hb.t _ hm).1 (hb.t _ hm).2),if_pos (hall _ hm)]
    dsimp only
    rw[decide_eq_true rfl,Bool.not_true,fk_f,ck_t (by simp; omega),wr_succ k _ hk' (by omega)]
    refine hnx _ hk' ?_
    rw[←List.take_append_getElem hk',List.map_append]; rfl
   ·rw[decide_eq_false hk',fk_f,List.take_of_length_le (by omega),bnd_eq (port_Open_eq _ hb.q),if_pos hop]
 ·refine .inl ⟨bootE c.Parts[q],hqe,kb _ ?_⟩
  ·skip
   refine lp_upS c.Parts.length (by unfold FU; omega) (fun k s=>s=((c.Parts.take k).map fun p=>new0 p.Tasks)∧k≤q) [] ⟨rfl,Nat.zero_le _⟩ ?_
   rintro nx k s hk ⟨rfl,hkq⟩ hnx
   dsimp only
   rw[lt_nat]
   have hk':k<c.Parts.length:=by omega
   have hm:=List.getElem_mem hk'
   rw[decide_eq_true hk',fk_t,ix_lt hk',bnd_eq (admit_Boot_eq _ (hb.t _ hm).1 (hb.t _ hm).2)]
   by_cases ek:k=q
   ·subst ek
    rw[if_neg hqe]
    dsimp only
    rw[decide_eq_false hqe,Bool.not_false,fk_t]
   ·have h0:bootE c.Parts[k]=0:=hqa _ (by
     have hlt:k<(c.Parts.take q).length:=by rw[List.length_take]; omega
     have:=List.getElem_mem hlt
     rwa [List.getElem_take] at this)
    rw[if_pos h0]
    dsimp only
    rw[decide_eq_true rfl,Bool.not_true,fk_f,ck_t (by simp; omega),wr_succ k _ hk' (by omega)]
    refine hnx _ hk' ⟨?_,by omega⟩
    rw[←List.take_append_getElem hk',List.map_append]; rfl
end Go.Proofs.YtldlcdnhdedoeaaGreat
namespace Go.Proofs.YtldlcdnhdedoeaaGreat
open Go Go.VC
def PureWorldPlays:Prop:=∀(a0:List Int) (a1:List Law21Step),(a0.length*1≤BB∧∀y1∈a0,wfI .u8 y1)→(a1.length*24≤BB∧∀y1∈a1,Law21Step.wf y1)→law22_WorldPlays a0 a1=some true
end Go.Proofs.YtldlcdnhdedoeaaGreat
