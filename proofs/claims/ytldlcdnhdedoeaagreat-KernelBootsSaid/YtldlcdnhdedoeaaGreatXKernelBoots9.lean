/- It is proved that the law KernelBoots returns true at every input that the row lets in; there is no condition beside the row's own. -/
import Derived.Test.YtldlcdnhdedoeaaGreatXKernelBoots6
import Derived.Test.YtldlcdnhdedoeaaGreatXKernelBoots8
import Derived.Test.YtldlcdnhdedoeaaGreatXKernelBoots7
import Derived.Test.YtldlcdnhdedoeaaGreatRows
set_option linter.unusedVariables false
set_option linter.unusedSimpArgs false
set_option maxRecDepth 100000
set_option maxHeartbeats 4000000
namespace Go.Proofs.YtldlcdnhdedoeaaGreat
open Go Go.VC
noncomputable def law13_Same (a0 : TableTable) (a1 : TableTable) : Option Bool :=
  jn (fun (w1 : Bool) => fk w1 (some false) (lp (fun nx2 (v2 : Int) => fk (decide (v2 < (a0.Windows.length : Int))) (ix a0.Windows v2 fun x3 => ix a1.Windows v2 fun x4 => fk (!(eqI [.i .i64 x3.Part, .i .i64 x3.From, .i .i64 x3.Len] [.i .i64 x4.Part, .i .i64 x4.From, .i .i64 x4.Len])) (some false) (nx2 (wr (v2 + (1 : Int))))) (some true)) FU (0 : Int))) (fun k1 => fk (!decide (a0.Frame = a1.Frame)) (k1 true) (k1 (!decide ((a0.Windows.length : Int) = (a1.Windows.length : Int)))))
theorem law13_Same_w (a0 : TableTable) (a1 : TableTable) (r : Bool) (h : law13_Same a0 a1 = some r) : Go.VC.Spec Tryz.prog 60 [.agg (TableTable.enc a0), .agg (TableTable.enc a1)] (fun y => y = E_Bool r) := by
  refine Go.VC.Spec.of_xc (args := [.agg (TableTable.enc a0), .agg (TableTable.enc a1)]) (fn := Tryz.f60) tab ⟨[(0, [2, 3]), (1, [2, 3, 19]), (2, [4]), (3, [2, 3, 5]), (4, [2, 3, 5, 24]), (5, [2, 3, 5]), (6, [2, 3, 5, 37]), (7, [4]), (8, [4])], [], [100019], []⟩ 38 [.tmp 4] rfl rfl rfl rfl rfl rfl ?_
  conv => whnf
  refine jnS (fun w1 => ⟨[(2, .l (.ptr 3 0)), (3, .l (.ptr 4 0)), (19, .l (.d (.bool w1)))], 38, [], [(3, [.d (.int .i64 a0.Frame), .d (.sl (a0.Windows.map Window.enc))]), (4, [.d (.int .i64 a1.Frame), .d (.sl (a1.Windows.map Window.enc))])], []⟩) h (fun k1 hk1 h => ?_) (fun w1 h => ?_)
  · conv => whnf
    refine fkS h (fun h => ?_) (fun h => ?_)
    · conv => whnf
      exact jeS hk1 h (Weak.refl _)
    conv => whnf
    refine lenS a0.Windows Window.enc rfl ?_
    conv => whnf
    refine lenS a1.Windows Window.enc rfl ?_
    conv => whnf
    exact jeS hk1 h (Weak.refl _)
  conv => whnf
  refine fkS h (fun h => ?_) (fun h => ?_)
  · conv => whnf
    exact rt (E := E_Bool) h rfl
  conv => whnf
  refine lpS (fun v2 => ⟨[(2, .l (.ptr 3 0)), (3, .l (.ptr 4 0)), (5, .l (.d (.int .i64 v2)))], 38, [], [(3, [.d (.int .i64 a0.Frame), .d (.sl (a0.Windows.map Window.enc))]), (4, [.d (.int .i64 a1.Frame), .d (.sl (a1.Windows.map Window.enc))])], []⟩) h (Weak.refl _) (fun _ nx2 hn2 v2 h => ?_)
  conv => whnf
  refine lenS a0.Windows Window.enc rfl ?_
  conv => whnf
  refine fkS h (fun h => ?_) (fun h => ?_)
  · conv => whnf
    refine ⟨10, ?_⟩
    conv => whnf
    refine ixS (enc := Window.enc) h rfl (fun _ => rfl) (fun x3 h => ?_)
    conv => whnf
    refine ixS (enc := Window.enc) h rfl (fun _ => rfl) (fun x4 h => ?_)
    conv => whnf
    refine drS (by kernel_rfl) ?_
    conv => whnf
    refine fkS h (fun h => ?_) (fun h => ?_)
    · conv => whnf
      exact rt (E := E_Bool) h rfl
    conv => whnf
    exact leS hn2 h (Weak.refl _)
  conv => whnf
  exact rt (E := E_Bool) h rfl

end Go.Proofs.YtldlcdnhdedoeaaGreat
namespace Go.Proofs.YtldlcdnhdedoeaaGreat
open Go Go.VC
noncomputable def law21_lines (a0 : List PortLine) (a1 : List PortLine) : Option Bool :=
  bnd (law18_As a0) fun x1 => bnd (law18_As a1) fun x2 => bnd (law18_Same x1 x2) fun x3 => some x3
theorem law21_lines_w (a0 : List PortLine) (a1 : List PortLine) (r : Bool) (h : law21_lines a0 a1 = some r) : Go.VC.Spec Tryz.prog 24 [.d (.sl (a0.map PortLine.enc)), .d (.sl (a1.map PortLine.enc))] (fun y => y = E_Bool r) := by
  refine Go.VC.Spec.of_xc (args := [.d (.sl (a0.map PortLine.enc)), .d (.sl (a1.map PortLine.enc))]) (fn := Tryz.f24) tab ⟨[(0, [0, 1]), (1, [4])], [], [], []⟩ 10 [.tmp 4] rfl rfl rfl rfl rfl rfl ?_
  conv => whnf
  refine ccS (E := E_ListRef18Row) h (law18_As_w a0) rfl rfl (fun x1 h => ?_)
  conv => whnf
  refine ccS (E := E_ListRef18Row) h (law18_As_w a1) rfl rfl (fun x2 h => ?_)
  conv => whnf
  refine caS (E := E_Bool) h (law18_Same_w x1 x2) rfl (fun _ => rfl) (fun x3 h => ?_)
  conv => whnf
  exact rt (E := E_Bool) h rfl

end Go.Proofs.YtldlcdnhdedoeaaGreat
namespace Go.Proofs.YtldlcdnhdedoeaaGreat
open Go Go.VC
noncomputable def law21_Same (a0 : KernelState) (a1 : KernelState) : Option Bool :=
  jn (fun (w1 : Bool) => fk w1 (some false) (lp (fun nx3 (v3 : Int) => fk (decide (v3 < (a0.Parts.length : Int))) (jn (fun (w4 : Bool) => fk w4 (some false) (nx3 (wr (v3 + (1 : Int))))) (fun k4 => ix a0.Faces v3 fun x5 => ix a1.Faces v3 fun x6 => fk (!(eqI [.i .i64 x5.P, .i .i64 x5.B] [.i .i64 x6.P, .i .i64 x6.B])) (k4 true) (ix a0.Parts v3 fun x7 => bnd (law17_As x7) fun x8 => ix a1.Parts v3 fun x9 => bnd (law17_As x9) fun x10 => bnd (ref17_Same ⟨x8.Tasks, x8.Leaves, x8.Lasts, x8.Jobs, x8.Log⟩ ⟨x10.Tasks, x10.Leaves, x10.Lasts, x10.Jobs, x10.Log⟩) fun x11 => k4 (!x11)))) (bnd (law21_lines a0.Lines a1.Lines) fun x12 => some x12)) FU (0 : Int))) (fun k1 => fk (!decide ((a0.Parts.length : Int) = (a1.Parts.length : Int))) (k1 true) (fk (!decide ((a0.Faces.length : Int) = (a1.Faces.length : Int))) (k1 true) (fk (!decide (a0.Now = a1.Now)) (k1 true) (bnd (law13_Same a0.Table a1.Table) fun x2 => k1 (!x2)))))
theorem law21_Same_w (a0 : KernelState) (a1 : KernelState) (r : Bool) (h : law21_Same a0 a1 = some r) : Go.VC.Spec Tryz.prog 16 [.agg (KernelState.enc a0), .agg (KernelState.enc a1)] (fun y => y = E_Bool r) := by
  refine Go.VC.Spec.of_xc (args := [.agg (KernelState.enc a0), .agg (KernelState.enc a1)]) (fn := Tryz.f16) tab ⟨[(0, [2, 3]), (1, [2, 3, 36]), (2, [4]), (3, [2, 3, 5]), (4, [2, 3, 5, 41]), (5, [2, 3, 5]), (6, [2, 3, 5, 70]), (7, [4]), (8, [4])], [], [100036, 100070], []⟩ 76 [.tmp 4] rfl rfl rfl rfl rfl rfl ?_
  conv => whnf
  refine jnS (fun w1 => ⟨[(2, .l (.ptr 3 0)), (3, .l (.ptr 4 0)), (36, .l (.d (.bool w1)))], 76, [], [(3, [.d (.int .i64 a0.Table.Frame), .d (.sl (a0.Table.Windows.map Window.enc)), .d (.sl (a0.Faces.map Face.enc)), .d (.sl (a0.Parts.map PartState.enc)), .d (.sl (a0.Lines.map PortLine.enc)), .d (.int .i64 a0.Now)]), (4, [.d (.int .i64 a1.Table.Frame), .d (.sl (a1.Table.Windows.map Window.enc)), .d (.sl (a1.Faces.map Face.enc)), .d (.sl (a1.Parts.map PartState.enc)), .d (.sl (a1.Lines.map PortLine.enc)), .d (.int .i64 a1.Now)])], []⟩) h (fun k1 hk1 h => ?_) (fun w1 h => ?_)
  · conv => whnf
    refine lenS a0.Parts PartState.enc rfl ?_
    conv => whnf
    refine lenS a1.Parts PartState.enc rfl ?_
    conv => whnf
    refine fkS h (fun h => ?_) (fun h => ?_)
    · conv => whnf
      exact jeS hk1 h (Weak.refl _)
    conv => whnf
    refine lenS a0.Faces Face.enc rfl ?_
    conv => whnf
    refine lenS a1.Faces Face.enc rfl ?_
    conv => whnf
    refine fkS h (fun h => ?_) (fun h => ?_)
    · conv => whnf
      exact jeS hk1 h (Weak.refl _)
    conv => whnf
    refine fkS h (fun h => ?_) (fun h => ?_)
    · conv => whnf
      exact jeS hk1 h (Weak.refl _)
    conv => whnf
    refine caS (E := E_Bool) h (law13_Same_w a0.Table a1.Table) rfl (fun _ => rfl) (fun x2 h => ?_)
    conv => whnf
    exact jeS hk1 h (Weak.refl _)
  conv => whnf
  refine fkS h (fun h => ?_) (fun h => ?_)
  · conv => whnf
    exact rt (E := E_Bool) h rfl
  conv => whnf
  refine lpS (fun v3 => ⟨[(2, .l (.ptr 3 0)), (3, .l (.ptr 4 0)), (5, .l (.d (.int .i64 v3)))], 76, [], [(3, [.d (.int .i64 a0.Table.Frame), .d (.sl (a0.Table.Windows.map Window.enc)), .d (.sl (a0.Faces.map Face.enc)), .d (.sl (a0.Parts.map PartState.enc)), .d (.sl (a0.Lines.map PortLine.enc)), .d (.int .i64 a0.Now)]), (4, [.d (.int .i64 a1.Table.Frame), .d (.sl (a1.Table.Windows.map Window.enc)), .d (.sl (a1.Faces.map Face.enc)), .d (.sl (a1.Parts.map PartState.enc)), .d (.sl (a1.Lines.map PortLine.enc)), .d (.int .i64 a1.Now)])], []⟩) h (Weak.refl _) (fun _ nx3 hn3 v3 h => ?_)
  conv => whnf
  refine lenS a0.Parts PartState.enc rfl ?_
  conv => whnf
  refine fkS h (fun h => ?_) (fun h => ?_)
  · conv => whnf
    refine jnS (fun w4 => ⟨[(2, .l (.ptr 3 0)), (3, .l (.ptr 4 0)), (5, .l (.d (.int .i64 v3))), (70, .l (.d (.bool w4)))], 76, [], [(3, [.d (.int .i64 a0.Table.Frame), .d (.sl (a0.Table.Windows.map Window.enc)), .d (.sl (a0.Faces.map Face.enc)), .d (.sl (a0.Parts.map PartState.enc)), .d (.sl (a0.Lines.map PortLine.enc)), .d (.int .i64 a0.Now)]), (4, [.d (.int .i64 a1.Table.Frame), .d (.sl (a1.Table.Windows.map Window.enc)), .d (.sl (a1.Faces.map Face.enc)), .d (.sl (a1.Parts.map PartState.enc)), .d (.sl (a1.Lines.map PortLine.enc)), .d (.int .i64 a1.Now)])], []⟩) h (fun k4 hk4 h => ?_) (fun w4 h => ?_)
    · conv => whnf
      refine ⟨27, ?_⟩
      conv => whnf
      refine ixS (enc := Face.enc) h rfl (fun _ => rfl) (fun x5 h => ?_)
      conv => whnf
      refine ixS (enc := Face.enc) h rfl (fun _ => rfl) (fun x6 h => ?_)
      conv => whnf
      refine fkS h (fun h => ?_) (fun h => ?_)
      · conv => whnf
        refine drS (by kernel_rfl) ?_
        conv => whnf
        exact jeS hk4 h (Weak.refl _)
      conv => whnf
      refine ixS (enc := PartState.enc) h rfl (fun _ => rfl) (fun x7 h => ?_)
      conv => whnf
      refine dcS (E := E_Ref17State) h (law17_As_w x7) rfl (fun x8 h => ?_)
      conv => whnf
      refine ixS (enc := PartState.enc) h rfl (fun _ => rfl) (fun x9 h => ?_)
      conv => whnf
      refine dcS (E := E_Ref17State) h (law17_As_w x9) rfl (fun x10 h => ?_)
      conv => whnf
      refine daS (E := E_Bool) h (ref17_Same_w ⟨x8.Tasks, x8.Leaves, x8.Lasts, x8.Jobs, x8.Log⟩ ⟨x10.Tasks, x10.Leaves, x10.Lasts, x10.Jobs, x10.Log⟩) (fun _ => rfl) (fun x11 h => ?_)
      conv => whnf
      refine drS (by kernel_rfl) ?_
      conv => whnf
      exact jeS hk4 h (Weak.refl _)
    conv => whnf
    refine fkS h (fun h => ?_) (fun h => ?_)
    · conv => whnf
      exact rt (E := E_Bool) h rfl
    conv => whnf
    exact leS hn3 h (Weak.refl _)
  conv => whnf
  refine caS (E := E_Bool) h (law21_lines_w a0.Lines a1.Lines) rfl (fun _ => rfl) (fun x12 h => ?_)
  conv => whnf
  exact rt (E := E_Bool) h rfl

end Go.Proofs.YtldlcdnhdedoeaaGreat
namespace Go.Proofs.YtldlcdnhdedoeaaGreat
open Go Go.VC
noncomputable def law21_Few (a0 : List Law21Step) : Option Bool :=
  lp (fun nx1 (v1 : Int) => fk (decide (v1 < (a0.length : Int))) (ix a0 v1 fun x2 => fk (decide ((x2.Cmds.length : Int) > (10 : Int))) (some false) (lp (fun nx3 (v3 : Int) => ix a0 v1 fun x4 => fk (decide (v3 < (x4.Cmds.length : Int))) (ix a0 v1 fun x5 => ix x5.Cmds v3 fun x6 => fk (decide ((x6.T.Secs.length : Int) > (20 : Int))) (some false) (nx3 (wr (v3 + (1 : Int))))) (nx1 (wr (v1 + (1 : Int))))) FU (0 : Int))) (some (decide ((a0.length : Int) ≤ (100 : Int))))) FU (0 : Int)
theorem law21_Few_w (a0 : List Law21Step) (r : Bool) (h : law21_Few a0 = some r) : Go.VC.Spec Tryz.prog 25 [.d (.sl (a0.map Law21Step.enc))] (fun y => y = E_Bool r) := by
  refine Go.VC.Spec.of_xc (args := [.d (.sl (a0.map Law21Step.enc))]) (fn := Tryz.f25) tab ⟨[(0, [0]), (1, [0, 3]), (2, [0, 3, 8]), (3, [0, 3]), (4, [0, 3, 17]), (5, [2]), (6, [0, 3, 4]), (7, [0, 3, 4, 25]), (8, [0, 3, 4]), (9, [0, 3, 4, 39]), (10, [2]), (11, [2])], [], [], []⟩ 43 [.tmp 2] rfl rfl rfl rfl rfl rfl ?_
  conv => whnf
  refine lpS (fun v1 => ⟨[(0, .l (.d (.sl (a0.map Law21Step.enc)))), (3, .l (.d (.int .i64 v1)))], 43, [], [], []⟩) h (Weak.refl _) (fun _ nx1 hn1 v1 h => ?_)
  conv => whnf
  refine lenS a0 Law21Step.enc rfl ?_
  conv => whnf
  refine fkS h (fun h => ?_) (fun h => ?_)
  · conv => whnf
    refine ixS (enc := Law21Step.enc) h rfl (fun _ => rfl) (fun x2 h => ?_)
    conv => whnf
    refine lenS x2.Cmds KernelCmd.enc rfl ?_
    conv => whnf
    refine fkS h (fun h => ?_) (fun h => ?_)
    · conv => whnf
      exact rt (E := E_Bool) h rfl
    conv => whnf
    refine lpS (fun v3 => ⟨[(0, .l (.d (.sl (a0.map Law21Step.enc)))), (3, .l (.d (.int .i64 v1))), (4, .l (.d (.int .i64 v3)))], 43, [], [], []⟩) h (Weak.refl _) (fun _ nx3 hn3 v3 h => ?_)
    conv => whnf
    refine ixS (enc := Law21Step.enc) h rfl (fun _ => rfl) (fun x4 h => ?_)
    conv => whnf
    refine lenS x4.Cmds KernelCmd.enc rfl ?_
    conv => whnf
    refine fkS h (fun h => ?_) (fun h => ?_)
    · conv => whnf
      refine ixS (enc := Law21Step.enc) h rfl (fun _ => rfl) (fun x5 h => ?_)
      conv => whnf
      refine ixS (enc := KernelCmd.enc) h rfl (fun _ => rfl) (fun x6 h => ?_)
      conv => whnf
      refine lenS x6.T.Secs Sec.enc rfl ?_
      conv => whnf
      refine fkS h (fun h => ?_) (fun h => ?_)
      · conv => whnf
        exact rt (E := E_Bool) h rfl
      conv => whnf
      exact leS hn3 h (Weak.refl _)
    conv => whnf
    exact leS hn1 h (Weak.refl _)
  conv => whnf
  refine lenS a0 Law21Step.enc rfl ?_
  conv => whnf
  exact rt (E := E_Bool) h rfl

end Go.Proofs.YtldlcdnhdedoeaaGreat
namespace Go.Proofs.YtldlcdnhdedoeaaGreat
open Go Go.VC
noncomputable def law21_Play (a0 : KernelState) (a1 : List Law21Step) : Option KernelState :=
  lp (fun nx1 (v1 : Int × (List Window) × (List Face) × (List PartState) × (List PortLine) × Int × Int) => fk (decide (v1.2.2.2.2.2.2 < (a1.length : Int))) (lp (fun nx2 (v2 : Int × (List Window) × (List Face) × (List PartState) × (List PortLine) × Int × Int) => ix a1 v1.2.2.2.2.2.2 fun x3 => fk (decide (v2.2.2.2.2.2.2 < (x3.Cmds.length : Int))) (ix a1 v1.2.2.2.2.2.2 fun x4 => ix x4.Cmds v2.2.2.2.2.2.2 fun x5 => bnd (kernel_Do (⟨⟨v2.1, v2.2.1⟩, v2.2.2.1, v2.2.2.2.1, v2.2.2.2.2.1, v2.2.2.2.2.2.1⟩) x5) fun x6 => nx2 (x6.1.Table.Frame, x6.1.Table.Windows, x6.1.Faces, x6.1.Parts, x6.1.Lines, x6.1.Now, (wr (v2.2.2.2.2.2.2 + (1 : Int))))) (bnd (kernel_Tick (⟨⟨v2.1, v2.2.1⟩, v2.2.2.1, v2.2.2.2.1, v2.2.2.2.2.1, v2.2.2.2.2.2.1⟩)) fun x7 => nx1 (x7.1.Table.Frame, x7.1.Table.Windows, x7.1.Faces, x7.1.Parts, x7.1.Lines, x7.1.Now, (wr (v1.2.2.2.2.2.2 + (1 : Int)))))) FU (v1.1, v1.2.1, v1.2.2.1, v1.2.2.2.1, v1.2.2.2.2.1, v1.2.2.2.2.2.1, (0 : Int))) (some (⟨⟨v1.1, v1.2.1⟩, v1.2.2.1, v1.2.2.2.1, v1.2.2.2.2.1, v1.2.2.2.2.2.1⟩))) FU (a0.Table.Frame, a0.Table.Windows, a0.Faces, a0.Parts, a0.Lines, a0.Now, (0 : Int))
theorem law21_Play_w (a0 : KernelState) (a1 : List Law21Step) (r : KernelState) (h : law21_Play a0 a1 = some r) : Go.VC.Spec Tryz.prog 26 [.agg (KernelState.enc a0), .d (.sl (a1.map Law21Step.enc))] (fun y => y = E_KernelState r) := by
  refine Go.VC.Spec.of_xc (args := [.agg (KernelState.enc a0), .d (.sl (a1.map Law21Step.enc))]) (fn := Tryz.f26) tab ⟨[(0, [1, 2, 4]), (1, [1, 2, 4, 5]), (2, [1, 2, 4, 5, 16]), (3, [1, 2, 4, 5]), (4, [1, 2, 4, 5, 6]), (5, [1, 2, 4, 5, 6, 26]), (6, [1, 2, 4, 5, 6]), (7, [1, 2, 4, 5, 6, 7]), (8, [1, 2, 4, 5, 6]), (9, [1, 2, 4, 5, 10]), (10, [1, 2, 4, 5]), (11, [4])], [], [], []⟩ 52 [.cell 4 35] rfl rfl rfl rfl rfl rfl ?_
  conv => whnf
  refine lpS (fun v1 => ⟨[(1, .l (.d (.sl (a1.map Law21Step.enc)))), (2, .l (.ptr 3 0)), (4, .l (.ptr 5 0)), (5, .l (.d (.int .i64 v1.2.2.2.2.2.2)))], 52, [], [(3, [.d (.int .i64 v1.1), .d (.sl (v1.2.1.map Window.enc)), .d (.sl (v1.2.2.1.map Face.enc)), .d (.sl (v1.2.2.2.1.map PartState.enc)), .d (.sl (v1.2.2.2.2.1.map PortLine.enc)), .d (.int .i64 v1.2.2.2.2.2.1)]), (5, [.d (.int .i64 (0 : Int)), .nil, .nil, .nil, .nil, .d (.int .i64 (0 : Int))])], []⟩) h (Weak.refl _) (fun _ nx1 hn1 v1 h => ?_)
  conv => whnf
  refine lenS a1 Law21Step.enc rfl ?_
  conv => whnf
  refine fkS h (fun h => ?_) (fun h => ?_)
  · conv => whnf
    refine lpS (fun v2 => ⟨[(1, .l (.d (.sl (a1.map Law21Step.enc)))), (2, .l (.ptr 3 0)), (4, .l (.ptr 5 0)), (5, .l (.d (.int .i64 v1.2.2.2.2.2.2))), (6, .l (.d (.int .i64 v2.2.2.2.2.2.2)))], 52, [], [(3, [.d (.int .i64 v2.1), .d (.sl (v2.2.1.map Window.enc)), .d (.sl (v2.2.2.1.map Face.enc)), .d (.sl (v2.2.2.2.1.map PartState.enc)), .d (.sl (v2.2.2.2.2.1.map PortLine.enc)), .d (.int .i64 v2.2.2.2.2.2.1)]), (5, [.d (.int .i64 (0 : Int)), .nil, .nil, .nil, .nil, .d (.int .i64 (0 : Int))])], []⟩) h (Weak.refl _) (fun _ nx2 hn2 v2 h => ?_)
    conv => whnf
    refine ixS (enc := Law21Step.enc) h rfl (fun _ => rfl) (fun x3 h => ?_)
    conv => whnf
    refine lenS x3.Cmds KernelCmd.enc rfl ?_
    conv => whnf
    refine fkS h (fun h => ?_) (fun h => ?_)
    · conv => whnf
      refine ⟨17, ?_⟩
      conv => whnf
      refine ixS (enc := Law21Step.enc) h rfl (fun _ => rfl) (fun x4 h => ?_)
      conv => whnf
      refine ixS (enc := KernelCmd.enc) h rfl (fun _ => rfl) (fun x5 h => ?_)
      conv => whnf
      refine dcS (E := E_KernelState_Int_Int) h (kernel_Do_w (⟨⟨v2.1, v2.2.1⟩, v2.2.2.1, v2.2.2.2.1, v2.2.2.2.2.1, v2.2.2.2.2.2.1⟩) x5) rfl (fun x6 h => ?_)
      conv => whnf
      refine drS (by kernel_rfl) ?_
      conv => whnf
      exact leS hn2 h (Weak.refl _)
    conv => whnf
    refine ccS (E := E_KernelState_ListInt_Int) h (kernel_Tick_w (⟨⟨v2.1, v2.2.1⟩, v2.2.2.1, v2.2.2.2.1, v2.2.2.2.2.1, v2.2.2.2.2.2.1⟩)) rfl rfl (fun x7 h => ?_)
    conv => whnf
    exact leS hn1 h (Weak.refl _)
  conv => whnf
  exact rt (E := E_KernelState) h rfl

end Go.Proofs.YtldlcdnhdedoeaaGreat
namespace Go.Proofs.YtldlcdnhdedoeaaGreat
open Go Go.VC
/-! What is kept of a system. -/
structure kP (s : KernelState) : Prop where
  tab : tabP s.Table
  parts : ∀ p ∈ s.Parts, okS p
  len : s.Parts.length ≤ 4
  faces : s.Faces.length = s.Parts.length
  lines : linesP s.Lines
  now0 : 0 ≤ s.Now
  now1 : s.Now ≤ 100000
theorem booted.kP {c : Config} {s : KernelState} {ticks : List Int} (h : booted c s ticks) : kP s := by
  refine ⟨h.tab, fun p hp => ?_, ?_, ?_, ?_, by rw [h.now]; omega, by rw [h.now]; omega⟩
  · rw [h.parts] at hp
    obtain ⟨q, hq, rfl⟩ := List.mem_map.1 hp
    exact okS_new (h.conf.ps q hq).2
  · rw [h.parts, List.length_map]; exact h.conf.pl
  · rw [h.faces, h.parts, List.length_map, List.length_map]
  · rw [h.lines]; exact linesP_new h.conf.qs h.conf.ql
theorem kernel_Right_t {s : KernelState} (h : kP s) : kernel_Right s = some true := by
  have h4 := h.len
  have n0 := h.now0
  have n1 := h.now1
  unfold kernel_Right
  refine lp_up s.Parts.length (by unfold FU; omega) (fun _ => True) trivial ?_
  intro nx k hk _ hnx
  rw [lt_nat]
  by_cases hk' : k < s.Parts.length
  · have ho := h.parts _ (List.getElem_mem hk')
    rw [decide_eq_true hk', fk_t, ix_lt hk', bnd_eq (part_Right_eq _ (StB.of_st ho.1)), decide_eq_true ho.1, Bool.not_true, fk_f, wr_succ k _ hk' (by omega)]
    exact hnx hk' trivial
  · rw [decide_eq_false hk', fk_f, bnd_eq (table_Right_t h.tab), fk_t, decide_eq_true (by rw [h.faces]), fk_t, decide_eq_true (by omega), fk_t, bnd_eq (port_Right_t h.lines), fk_t, decide_eq_true (by omega), fk_t, decide_eq_true (by omega)]
/-! Alike. -/
theorem eqI_refl (l : List SC) : eqI l l = true := decide_eq_true rfl
theorem sameList_refl (l : List Int) (h : l.length ≤ 1000000) : ref03_SameList l l = some true := by
  unfold ref03_SameList
  rw [decide_eq_true rfl, Bool.not_true, fk_f]
  refine lp_up l.length (by unfold FU; omega) (fun _ => True) trivial ?_
  intro nx k hk _ hnx
  rw [lt_nat]
  by_cases hk' : k < l.length
  · rw [decide_eq_true hk', fk_t, ix_lt hk', ix_lt hk', decide_eq_true rfl, Bool.not_true, fk_f, wr_succ k _ hk' (by omega)]
    exact hnx hk' trivial
  · rw [decide_eq_false hk', fk_f]
def rowL (x : PortLine) : Ref18Row := ⟨x.Port, cont x.Under, cont x.Got⟩
theorem law18_As_eq (l : List PortLine) (h : linesP l) : law18_As l = some (l.map rowL) := by
  have h4 := h.2
  unfold law18_As
  refine lp_upS l.length (by unfold FU; omega) (fun k s => s = (l.take k).map rowL) [] rfl ?_
  rintro nx k s hk rfl hnx
  dsimp only
  rw [lt_nat]
  by_cases hk' : k < l.length
  · obtain ⟨_, h2, h3, _, _⟩ := h.1 _ (List.getElem_mem hk')
    rw [decide_eq_true hk', fk_t, ix_lt hk', ix_lt hk', bnd_eq (ring_List_eq _ h2), ix_lt hk', bnd_eq (ring_List_eq _ h3), ck_t (by simp; omega), wr_succ k _ hk' (by omega)]
    refine hnx _ hk' ?_
    rw [← List.take_append_getElem hk', List.map_append]; rfl
  · rw [decide_eq_false hk', fk_f, List.take_of_length_le (by omega)]
theorem lines_refl (l : List PortLine) (h : linesP l) : law21_lines l l = some true := by
  have h4 := h.2
  unfold law21_lines
  rw [bnd_eq (law18_As_eq l h), bnd_eq (law18_As_eq l h)]
  have : law18_Same (l.map rowL) (l.map rowL) = some true := by
    unfold law18_Same
    rw [decide_eq_true rfl, Bool.not_true, fk_f]
    refine lp_up (l.map rowL).length (by rw [List.length_map]; unfold FU; omega) (fun _ => True) trivial ?_
    intro nx k hk _ hnx
    rw [lt_nat]
    by_cases hk' : k < (l.map rowL).length
    · have hk2 : k < l.length := by rwa [List.length_map] at hk'
      obtain ⟨_, h2, h3, _, _⟩ := h.1 _ (List.getElem_mem hk2)
      have e : (l.map rowL)[k] = rowL l[k] := List.getElem_map _
      have l1 := (cont_len h2).2
      have l2 := (cont_len h3).2
      rw [decide_eq_true hk', fk_t, wr_succ k _ hk' (by rw [List.length_map]; omega)]
      refine jn_to false (fun k2 => ?_) (by rw [fk_f]; exact hnx hk' trivial)
      rw [ix_lt hk', ix_lt hk', eqI_refl, Bool.not_true, fk_f, ix_lt hk', ix_lt hk', e, bnd_eq (sameList_refl _ (by show (cont l[k].Under).length ≤ _; omega)), Bool.not_true, fk_f, ix_lt hk', ix_lt hk', e, bnd_eq (sameList_refl _ (by show (cont l[k].Got).length ≤ _; omega))]
      rfl
    · rw [decide_eq_false hk', fk_f]
  rw [bnd_eq this]
theorem table_refl (t : TableTable) (h : t.Windows.length ≤ 1000) : law13_Same t t = some true := by
  unfold law13_Same
  refine jn_to false (fun k => by rw [decide_eq_true rfl, Bool.not_true, fk_f, decide_eq_true rfl]; rfl) ?_
  rw [fk_f]
  refine lp_up t.Windows.length (by unfold FU; omega) (fun _ => True) trivial ?_
  intro nx k hk _ hnx
  rw [lt_nat]
  by_cases hk' : k < t.Windows.length
  · rw [decide_eq_true hk', fk_t, ix_lt hk', ix_lt hk', eqI_refl, Bool.not_true, fk_f, wr_succ k _ hk' (by omega)]
    exact hnx hk' trivial
  · rw [decide_eq_false hk', fk_f]
theorem same_refl {s : KernelState} (hw : s.Table.Windows.length ≤ 1000) (hp : ∀ p ∈ s.Parts, okS p) (h4 : s.Parts.length ≤ 1000) (hf : s.Faces.length = s.Parts.length) (hl : linesP s.Lines) : law21_Same s s = some true := by
  unfold law21_Same
  refine jn_to false (fun k => ?_) ?_
  · rw [decide_eq_true rfl, Bool.not_true, fk_f, decide_eq_true rfl, Bool.not_true, fk_f, decide_eq_true rfl, Bool.not_true, fk_f, bnd_eq (table_refl _ hw)]; rfl
  rw [fk_f]
  refine lp_up s.Parts.length (by unfold FU; omega) (fun _ => True) trivial ?_
  intro nx k hk _ hnx
  rw [lt_nat]
  by_cases hk' : k < s.Parts.length
  · have ho := hp _ (List.getElem_mem hk')
    have hs := ref17_Same_eq _ (SameB.of_st (StB.of_st ho.1) ho.1)
    rw [decide_eq_true hk', fk_t, wr_succ k _ hk' (by omega)]
    refine jn_to false (fun k4 => ?_) (by rw [fk_f]; exact hnx hk' trivial)
    rw [ix_lt (show k < s.Faces.length by omega), ix_lt (show k < s.Faces.length by omega), eqI_refl, Bool.not_true, fk_f, ix_lt hk', bnd_eq (law17_As_eq _), ix_lt hk', bnd_eq (law17_As_eq _)]
    show bnd (ref17_Same (toR s.Parts[k]) (toR s.Parts[k])) _ = _
    rw [bnd_eq hs]; rfl
  · rw [decide_eq_false hk', fk_f, bnd_eq (lines_refl _ hl)]
theorem kP.same {s : KernelState} (h : kP s) : law21_Same s s = some true := same_refl (by have := h.tab.l; omega) h.parts (by have := h.len; omega) h.faces h.lines
theorem zeroK_same : law21_Same zeroK zeroK = some true := same_refl (by show (0 : Nat) ≤ _; omega) (fun p h => (List.not_mem_nil h).elim) (by show (0 : Nat) ≤ _; omega) rfl ⟨fun x h => (List.not_mem_nil h).elim, by show (0 : Nat) ≤ 4; omega⟩
/-! What is asked. -/
theorem okS.len {s : PartState} (h : okS s) : s.Tasks.length ≤ 1000 ∧ s.Jobs.length ≤ 4611686018427387904 := by
  have h8 := AllP_len h.1.2.1.1
  have hj := h.1.2.2.1.2.1
  omega
theorem okS_plus {s : PartState} {f : Face} {x : Task} (h : okS s) (h0 : addE s f x = 0) : okS (plus s x) := by
  obtain ⟨a1, a2, a3, _⟩ := addE_zero h0
  have := okS_add (x := x) h
  unfold addV at this
  rwa [if_pos ⟨a1, a2⟩, if_pos a3] at this
noncomputable def admV (s : PartState) (f : Face) (x : Task) : PartState × Int := if addE s f x = 0 then (plus s x, 0) else (s, addE s f x)
theorem okS_adm {s : PartState} {f : Face} {x : Task} (h : okS s) : okS (admV s f x).1 := by
  unfold admV
  split
  · exact okS_plus h (by assumption)
  · exact h
noncomputable def chgV (s : PartState) (f : Face) (i : Int) (x : Task) : PartState × Int := if (leaveV s i).2 = 0 then (if addE (leaveV s i).1 f x = 0 then (plus (leaveV s i).1 x, 0) else (s, addE (leaveV s i).1 f x)) else (s, (leaveV s i).2)
theorem okS_chg {s : PartState} {f : Face} {i : Int} {x : Task} (h : okS s) : okS (chgV s f i x).1 := by
  unfold chgV
  split
  · split
    · exact okS_plus (okS_leave h) (by assumption)
    · exact h
  · exact h
def withK (s : KernelState) (i : Int) (p : PartState) : KernelState := ⟨s.Table, s.Faces, s.Parts.set i.toNat p, s.Lines, s.Now⟩
theorem kP.with {s : KernelState} {i : Int} {p : PartState} (h : kP s) (hp : okS p) : kP (withK s i p) :=
  ⟨h.tab, fun q hq => by
    rcases List.mem_or_eq_of_mem_set (show q ∈ s.Parts.set i.toNat p from hq) with h' | rfl
    · exact h.parts q h'
    · exact hp, by show (s.Parts.set _ _).length ≤ 4; rw [List.length_set]; exact h.len, by show _ = (s.Parts.set _ _).length; rw [List.length_set]; exact h.faces, h.lines, h.now0, h.now1⟩
/-- What comes of an ask of a partition that is there. -/
noncomputable def doP (p : PartState) (f : Face) (c : KernelCmd) (now : Int) : PartState × Int :=
  if c.Kind = 1 then relV p c.I c.V now else if c.Kind = 4 then admV p f c.T else if c.Kind = 5 then leaveV p c.I else chgV p f c.I c.T
theorem okS_doP {p : PartState} {f : Face} {c : KernelCmd} {now : Int} (h : okS p) : okS (doP p f c now).1 := by
  unfold doP
  split
  · exact stP_rel h.1 h.2
  · split
    · exact okS_adm h
    · split
      · exact okS_leave h
      · exact okS_chg h
noncomputable def doK (s : KernelState) (c : KernelCmd) : KernelState × Int × Int :=
  if h : 0 ≤ c.Part ∧ c.Part < (s.Parts.length : Int) ∧ s.Faces.length = s.Parts.length then
    (if c.Kind = 2 then (⟨s.Table, s.Faces, s.Parts, (sendV s.Lines c.Part c.I c.V).1, s.Now⟩, 0, (sendV s.Lines c.Part c.I c.V).2)
     else if c.Kind = 3 then (⟨s.Table, s.Faces, s.Parts, (readV s.Lines c.Part c.I).2.1, s.Now⟩, (readV s.Lines c.Part c.I).1, (readV s.Lines c.Part c.I).2.2)
     else if c.Kind = 1 ∨ c.Kind = 4 ∨ c.Kind = 5 ∨ c.Kind = 6 then (withK s c.Part (doP (s.Parts[c.Part.toNat]'(by omega)) (s.Faces[c.Part.toNat]'(by omega)) c s.Now).1, 0, (doP (s.Parts[c.Part.toNat]'(by omega)) (s.Faces[c.Part.toNat]'(by omega)) c s.Now).2)
     else (s, 0, 4))
  else (s, 0, 4)
theorem kP.do {s : KernelState} (h : kP s) (c : KernelCmd) : kP (doK s c).1 ∧ (doK s c).1.Now = s.Now ∧ (doK s c).1.Table = s.Table ∧ (doK s c).1.Parts.length = s.Parts.length ∧ (doK s c).1.Lines.length = s.Lines.length := by
  unfold doK
  split
  rotate_left
  · exact ⟨h, rfl, rfl, rfl, rfl⟩
  rename_i hc
  split
  · have := sendV_ok (f := c.Part) (i := c.I) (v := c.V) h.lines
    exact ⟨⟨h.tab, h.parts, h.len, h.faces, this.1, h.now0, h.now1⟩, rfl, rfl, rfl, this.2⟩
  · split
    · have := readV_ok (f := c.Part) (i := c.I) h.lines
      exact ⟨⟨h.tab, h.parts, h.len, h.faces, this.1, h.now0, h.now1⟩, rfl, rfl, rfl, this.2⟩
    · split
      · refine ⟨h.with (okS_doP (h.parts _ (List.getElem_mem _))), rfl, rfl, ?_, rfl⟩
        show (s.Parts.set _ _).length = _
        rw [List.length_set]
      · exact ⟨h, rfl, rfl, rfl, rfl⟩
end Go.Proofs.YtldlcdnhdedoeaaGreat
namespace Go.Proofs.YtldlcdnhdedoeaaGreat
open Go Go.VC
/-! A tick of a system. -/
def emptyP : PartState := ⟨[], [], [], [], []⟩
noncomputable def tkP (s : KernelState) (who : Int) (i : Nat) : PartState × Int := tickV ((s.Parts[i]?).getD emptyP) (decide ((i : Int) = who)) s.Now
noncomputable def whoK (s : KernelState) : Int := whoV s.Table.Windows (s.Now.tmod s.Table.Frame)
noncomputable def partsK (s : KernelState) : List PartState := (List.range s.Parts.length).map fun i => (tkP s (whoK s) i).1
theorem tkP_at {s : KernelState} {who : Int} {i : Nat} (h : i < s.Parts.length) : tkP s who i = tickV s.Parts[i] (decide ((i : Int) = who)) s.Now := by
  unfold tkP; rw [List.getElem?_eq_getElem h]; rfl
theorem okS_tkP {s : KernelState} {who : Int} {i : Nat} (h : kP s) (hi : i < s.Parts.length) : okS (tkP s who i).1 := by
  rw [tkP_at hi]; exact okS_tick (h.parts _ (List.getElem_mem hi))
/-- The lines behind a tick. -/
def linesK (s : KernelState) (L : List PortLine) : Prop := linesP L ∧ L.length = s.Lines.length ∧ (if s.Now.tmod s.Table.Frame = 0 then port_Deliver s.Lines = some L ∧ ∀ (i : Nat) (x y : PortLine), s.Lines[i]? = some x → L[i]? = some y → gone x y else L = s.Lines)
theorem kP.tick {s : KernelState} (h : kP s) {L : List PortLine} (hL : linesK s L) (hn : s.Now ≤ 90000) : kP ⟨s.Table, s.Faces, partsK s, L, s.Now + 1⟩ := by
  have n0 := h.now0
  refine ⟨h.tab, fun p hp => ?_, ?_, ?_, hL.1, by show 0 ≤ s.Now + 1; omega, by show s.Now + 1 ≤ 100000; omega⟩
  · obtain ⟨i, hi, rfl⟩ := List.mem_map.1 hp
    exact okS_tkP h (by simpa using hi)
  · show (partsK s).length ≤ 4
    unfold partsK; rw [List.length_map, List.length_range]; exact h.len
  · show s.Faces.length = (partsK s).length
    unfold partsK; rw [List.length_map, List.length_range]; exact h.faces
/-! Scripts. -/
end Go.Proofs.YtldlcdnhdedoeaaGreat
namespace Go.Proofs.YtldlcdnhdedoeaaGreat
open Go Go.VC
noncomputable def law21_knows  : Option Bool :=
  bnd (kernel_Boot (⟨([⟨⟨(2 : Int), (1 : Int)⟩, ([⟨(1 : Int), (4 : Int), (4 : Int), []⟩] : List Task)⟩, ⟨⟨(2 : Int), (1 : Int)⟩, ([⟨(1 : Int), (4 : Int), (4 : Int), []⟩] : List Task)⟩] : List Part), []⟩)) fun x1 => bnd (kernel_Do x1.1 (⟨(1 : Int), (1 : Int), (0 : Int), (1 : Int), ⟨(0 : Int), (0 : Int), (0 : Int), []⟩⟩)) fun x2 => bnd (kernel_Tick x2.1) fun x3 => bnd (kernel_Tick x3.1) fun x4 => fk (decide (x1.2 = (0 : Int))) (fk (decide (x2.2.2 = (0 : Int))) (fk (decide (x4.2.2 = (0 : Int))) (fk (decide ((x3.2.1.length : Int) = (2 : Int))) (ix x3.2.1 (0 : Int) fun x5 => fk (decide (x5 = (-1 : Int))) (ix x3.2.1 (1 : Int) fun x6 => fk (decide (x6 = (-1 : Int))) (fk (decide ((x4.2.1.length : Int) = (2 : Int))) (ix x4.2.1 (0 : Int) fun x7 => fk (decide (x7 = (-1 : Int))) (ix x4.2.1 (1 : Int) fun x8 => fk (decide (x8 = (0 : Int))) (fk (decide (x4.1.Now = (2 : Int))) (bnd (kernel_Right x4.1) fun x9 => some x9) (some false)) (some false)) (some false)) (some false)) (some false)) (some false)) (some false)) (some false)) (some false)) (some false)
theorem law21_knows_w  (r : Bool) (h : law21_knows = some r) : Go.VC.Spec Tryz.prog 13 [] (fun y => y = E_Bool r) := by
  refine Go.VC.Spec.of_xc (args := []) (fn := Tryz.f13) tab ⟨[(0, []), (1, [1]), (2, [2, 3]), (3, [2, 3, 5]), (4, [2, 3, 5, 6]), (5, [2, 3, 5, 6, 8, 9]), (6, [0])], [], [], [(17, [13])]⟩ 94 [.tmp 0] rfl rfl rfl rfl rfl rfl ?_
  conv => whnf
  refine liS ([⟨(1 : Int), (4 : Int), (4 : Int), []⟩] : List Task) Task.enc rfl rfl ?_
  conv => whnf
  refine liS ([⟨⟨(2 : Int), (1 : Int)⟩, ([⟨(1 : Int), (4 : Int), (4 : Int), []⟩] : List Task)⟩, ⟨⟨(2 : Int), (1 : Int)⟩, ([⟨(1 : Int), (4 : Int), (4 : Int), []⟩] : List Task)⟩] : List Part) Part.enc rfl rfl ?_
  conv => whnf
  refine iceS 18 ?_
  conv => whnf
  refine ccS (E := E_KernelState_Int) h (kernel_Boot_w (⟨([⟨⟨(2 : Int), (1 : Int)⟩, ([⟨(1 : Int), (4 : Int), (4 : Int), []⟩] : List Task)⟩, ⟨⟨(2 : Int), (1 : Int)⟩, ([⟨(1 : Int), (4 : Int), (4 : Int), []⟩] : List Task)⟩] : List Part), []⟩)) rfl rfl (fun x1 h => ?_)
  conv => whnf
  refine ccS (E := E_KernelState_Int_Int) h (kernel_Do_w x1.1 (⟨(1 : Int), (1 : Int), (0 : Int), (1 : Int), ⟨(0 : Int), (0 : Int), (0 : Int), []⟩⟩)) rfl rfl (fun x2 h => ?_)
  conv => whnf
  refine ccS (E := E_KernelState_ListInt_Int) h (kernel_Tick_w x2.1) rfl rfl (fun x3 h => ?_)
  conv => whnf
  refine ccS (E := E_KernelState_ListInt_Int) h (kernel_Tick_w x3.1) rfl rfl (fun x4 h => ?_)
  conv => whnf
  refine fkS h (fun h => ?_) (fun h => ?_)
  · conv => whnf
    refine fkS h (fun h => ?_) (fun h => ?_)
    · conv => whnf
      refine fkS h (fun h => ?_) (fun h => ?_)
      · conv => whnf
        refine lenS x3.2.1 (eI .i64) rfl ?_
        conv => whnf
        refine fkS h (fun h => ?_) (fun h => ?_)
        · conv => whnf
          refine ixS (enc := (eI .i64)) h rfl (fun _ => rfl) (fun x5 h => ?_)
          conv => whnf
          refine fkS h (fun h => ?_) (fun h => ?_)
          · conv => whnf
            refine ixS (enc := (eI .i64)) h rfl (fun _ => rfl) (fun x6 h => ?_)
            conv => whnf
            refine fkS h (fun h => ?_) (fun h => ?_)
            · conv => whnf
              refine lenS x4.2.1 (eI .i64) rfl ?_
              conv => whnf
              refine fkS h (fun h => ?_) (fun h => ?_)
              · conv => whnf
                refine ixS (enc := (eI .i64)) h rfl (fun _ => rfl) (fun x7 h => ?_)
                conv => whnf
                refine fkS h (fun h => ?_) (fun h => ?_)
                · conv => whnf
                  refine ixS (enc := (eI .i64)) h rfl (fun _ => rfl) (fun x8 h => ?_)
                  conv => whnf
                  refine fkS h (fun h => ?_) (fun h => ?_)
                  · conv => whnf
                    refine fkS h (fun h => ?_) (fun h => ?_)
                    · conv => whnf
                      refine caS (E := E_Bool) h (kernel_Right_w x4.1) rfl (fun _ => rfl) (fun x9 h => ?_)
                      conv => whnf
                      exact rt (E := E_Bool) h rfl
                    conv => whnf
                    exact rt (E := E_Bool) h rfl
                  conv => whnf
                  exact rt (E := E_Bool) h rfl
                conv => whnf
                exact rt (E := E_Bool) h rfl
              conv => whnf
              exact rt (E := E_Bool) h rfl
            conv => whnf
            exact rt (E := E_Bool) h rfl
          conv => whnf
          exact rt (E := E_Bool) h rfl
        conv => whnf
        exact rt (E := E_Bool) h rfl
      conv => whnf
      exact rt (E := E_Bool) h rfl
    conv => whnf
    exact rt (E := E_Bool) h rfl
  conv => whnf
  exact rt (E := E_Bool) h rfl

end Go.Proofs.YtldlcdnhdedoeaaGreat
namespace Go.Proofs.YtldlcdnhdedoeaaGreat
open Go Go.VC
noncomputable def law21_KernelBoots (a0 : Config) : Option Bool :=
  bnd (law21_Great a0) fun x1 => fk x1 (bnd law21_knows fun x2 => some x2) (bnd (kernel_Boot a0) fun x3 => bnd (ref21_Boot a0) fun x4 => fk (!decide (x4.2 = (0 : Int))) (bnd (law21_Same x3.1 (⟨⟨(0 : Int), []⟩, [], [], [], (0 : Int)⟩)) fun x5 => fk x5 (fk (decide (x3.2 = x4.2)) (bnd law21_knows fun x6 => some x6) (some false)) (some false)) (jn (fun (w7 : Bool) => fk w7 (some false) (lp (fun nx11 (v11 : Int) => fk (decide (v11 < (a0.Parts.length : Int))) (ix a0.Parts v11 fun x12 => bnd (part_New x12.Tasks) fun x13 => jn (fun (w14 : Bool) => fk w14 (some false) (nx11 (wr (v11 + (1 : Int))))) (fun k14 => fk (!decide (x13.2 = (0 : Int))) (k14 true) (ix x3.1.Faces v11 fun x15 => ix a0.Parts v11 fun x16 => fk (!(eqI [.i .i64 x15.P, .i .i64 x15.B] [.i .i64 x16.Face.P, .i .i64 x16.Face.B])) (k14 true) (ix x3.1.Parts v11 fun x17 => bnd (law17_As x17) fun x18 => bnd (law17_As x13.1) fun x19 => bnd (ref17_Same ⟨x18.Tasks, x18.Leaves, x18.Lasts, x18.Jobs, x18.Log⟩ ⟨x19.Tasks, x19.Leaves, x19.Lasts, x19.Jobs, x19.Log⟩) fun x20 => k14 (!x20))))) (bnd (port_Open a0.Ports) fun x21 => fk (decide (x21.2 = (0 : Int))) (bnd (law21_lines x3.1.Lines x21.1) fun x22 => fk x22 (bnd law21_knows fun x23 => some x23) (some false)) (some false))) FU (0 : Int))) (fun k7 => fk (!decide (x3.2 = (0 : Int))) (k7 true) (fk (!decide ((x3.1.Parts.length : Int) = (a0.Parts.length : Int))) (k7 true) (fk (!decide ((x3.1.Faces.length : Int) = (a0.Parts.length : Int))) (k7 true) (fk (!decide (x3.1.Now = (0 : Int))) (k7 true) (bnd (kernel_Right x3.1) fun x8 => fk (!x8) (k7 true) (bnd (ref13_Ticks x3.1.Table.Frame x3.1.Table.Windows) fun x9 => bnd (ref05_SameInts x9 x4.1) fun x10 => k7 (!x10)))))))))
theorem law21_KernelBoots_w (a0 : Config) (r : Bool) (h : law21_KernelBoots a0 = some r) : Go.VC.Spec Tryz.prog 3 [.agg (Config.enc a0)] (fun y => y = E_Bool r) := by
  refine Go.VC.Spec.of_xc (args := [.agg (Config.enc a0)]) (fn := Tryz.f3) tab ⟨[(0, [1]), (1, [1, 13]), (2, [2]), (3, [1, 3, 4]), (4, [1, 3, 4, 5, 6]), (5, [1, 3, 4, 5, 6, 26]), (6, [2]), (7, [1, 3, 79]), (8, [2]), (9, [1, 3, 7]), (10, [1, 3, 7, 84]), (11, [1, 3, 7]), (12, [1, 3, 7, 8, 9]), (13, [1, 3, 7, 124]), (14, [2]), (15, [3, 10, 11]), (16, [2])], [], [100079, 100124], []⟩ 142 [.tmp 2] rfl rfl rfl rfl rfl rfl ?_
  conv => whnf
  refine caS (E := E_Bool) h (law21_Great_w a0) rfl (fun _ => rfl) (fun x1 h => ?_)
  conv => whnf
  refine fkS h (fun h => ?_) (fun h => ?_)
  · conv => whnf
    refine caS (E := E_Bool) h law21_knows_w rfl (fun _ => rfl) (fun x2 h => ?_)
    conv => whnf
    exact rt (E := E_Bool) h rfl
  conv => whnf
  refine ccS (E := E_KernelState_Int) h (kernel_Boot_w a0) rfl rfl (fun x3 h => ?_)
  conv => whnf
  refine ccS (E := E_ListInt_Int) h (ref21_Boot_w a0) rfl rfl (fun x4 h => ?_)
  conv => whnf
  refine fkS h (fun h => ?_) (fun h => ?_)
  · conv => whnf
    refine caS (E := E_Bool) h (law21_Same_w x3.1 (⟨⟨(0 : Int), []⟩, [], [], [], (0 : Int)⟩)) rfl (fun _ => rfl) (fun x5 h => ?_)
    conv => whnf
    refine fkS h (fun h => ?_) (fun h => ?_)
    · conv => whnf
      refine fkS h (fun h => ?_) (fun h => ?_)
      · conv => whnf
        refine caS (E := E_Bool) h law21_knows_w rfl (fun _ => rfl) (fun x6 h => ?_)
        conv => whnf
        exact rt (E := E_Bool) h rfl
      conv => whnf
      exact rt (E := E_Bool) h rfl
    conv => whnf
    exact rt (E := E_Bool) h rfl
  conv => whnf
  refine jnS (fun w7 => ⟨[(1, .l (.ptr 2 0)), (3, .l (.ptr 4 0)), (79, .l (.d (.bool w7)))], 142, [], [(2, [.d (.sl (a0.Parts.map Part.enc)), .d (.sl (a0.Ports.map Port.enc))]), (4, [.d (.int .i64 x3.1.Table.Frame), .d (.sl (x3.1.Table.Windows.map Window.enc)), .d (.sl (x3.1.Faces.map Face.enc)), .d (.sl (x3.1.Parts.map PartState.enc)), .d (.sl (x3.1.Lines.map PortLine.enc)), .d (.int .i64 x3.1.Now)])], []⟩) h (fun k7 hk7 h => ?_) (fun w7 h => ?_)
  · conv => whnf
    refine fkS h (fun h => ?_) (fun h => ?_)
    · conv => whnf
      exact jeS hk7 h (Weak.refl _)
    conv => whnf
    refine lenS x3.1.Parts PartState.enc rfl ?_
    conv => whnf
    refine lenS a0.Parts Part.enc rfl ?_
    conv => whnf
    refine fkS h (fun h => ?_) (fun h => ?_)
    · conv => whnf
      exact jeS hk7 h (Weak.refl _)
    conv => whnf
    refine lenS x3.1.Faces Face.enc rfl ?_
    conv => whnf
    refine lenS a0.Parts Part.enc rfl ?_
    conv => whnf
    refine fkS h (fun h => ?_) (fun h => ?_)
    · conv => whnf
      exact jeS hk7 h (Weak.refl _)
    conv => whnf
    refine fkS h (fun h => ?_) (fun h => ?_)
    · conv => whnf
      exact jeS hk7 h (Weak.refl _)
    conv => whnf
    refine caS (E := E_Bool) h (kernel_Right_w x3.1) rfl (fun _ => rfl) (fun x8 h => ?_)
    conv => whnf
    refine fkS h (fun h => ?_) (fun h => ?_)
    · conv => whnf
      exact jeS hk7 h (Weak.refl _)
    conv => whnf
    refine ccS (E := E_ListInt) h (ref13_Ticks_w x3.1.Table.Frame x3.1.Table.Windows) rfl rfl (fun x9 h => ?_)
    conv => whnf
    refine caS (E := E_Bool) h (ref05_SameInts_w x9 x4.1) rfl (fun _ => rfl) (fun x10 h => ?_)
    conv => whnf
    exact jeS hk7 h (Weak.refl _)
  conv => whnf
  refine fkS h (fun h => ?_) (fun h => ?_)
  · conv => whnf
    exact rt (E := E_Bool) h rfl
  conv => whnf
  refine lpS (fun v11 => ⟨[(1, .l (.ptr 2 0)), (3, .l (.ptr 4 0)), (7, .l (.d (.int .i64 v11)))], 142, [], [(2, [.d (.sl (a0.Parts.map Part.enc)), .d (.sl (a0.Ports.map Port.enc))]), (4, [.d (.int .i64 x3.1.Table.Frame), .d (.sl (x3.1.Table.Windows.map Window.enc)), .d (.sl (x3.1.Faces.map Face.enc)), .d (.sl (x3.1.Parts.map PartState.enc)), .d (.sl (x3.1.Lines.map PortLine.enc)), .d (.int .i64 x3.1.Now)])], []⟩) h (Weak.refl _) (fun _ nx11 hn11 v11 h => ?_)
  conv => whnf
  refine lenS a0.Parts Part.enc rfl ?_
  conv => whnf
  refine fkS h (fun h => ?_) (fun h => ?_)
  · conv => whnf
    refine ixS (enc := Part.enc) h rfl (fun _ => rfl) (fun x12 h => ?_)
    conv => whnf
    refine ccS (E := E_PartState_Int) h (part_New_w x12.Tasks) rfl rfl (fun x13 h => ?_)
    conv => whnf
    refine jnS (fun w14 => ⟨[(1, .l (.ptr 2 0)), (3, .l (.ptr 4 0)), (7, .l (.d (.int .i64 v11))), (124, .l (.d (.bool w14)))], 142, [], [(2, [.d (.sl (a0.Parts.map Part.enc)), .d (.sl (a0.Ports.map Port.enc))]), (4, [.d (.int .i64 x3.1.Table.Frame), .d (.sl (x3.1.Table.Windows.map Window.enc)), .d (.sl (x3.1.Faces.map Face.enc)), .d (.sl (x3.1.Parts.map PartState.enc)), .d (.sl (x3.1.Lines.map PortLine.enc)), .d (.int .i64 x3.1.Now)])], []⟩) h (fun k14 hk14 h => ?_) (fun w14 h => ?_)
    · conv => whnf
      refine ⟨28, ?_⟩
      conv => whnf
      refine fkS h (fun h => ?_) (fun h => ?_)
      · conv => whnf
        refine drS (by kernel_rfl) ?_
        conv => whnf
        exact jeS hk14 h (Weak.refl _)
      conv => whnf
      refine ixS (enc := Face.enc) h rfl (fun _ => rfl) (fun x15 h => ?_)
      conv => whnf
      refine ixS (enc := Part.enc) h rfl (fun _ => rfl) (fun x16 h => ?_)
      conv => whnf
      refine fkS h (fun h => ?_) (fun h => ?_)
      · conv => whnf
        refine drS (by kernel_rfl) ?_
        conv => whnf
        exact jeS hk14 h (Weak.refl _)
      conv => whnf
      refine ixS (enc := PartState.enc) h rfl (fun _ => rfl) (fun x17 h => ?_)
      conv => whnf
      refine dcS (E := E_Ref17State) h (law17_As_w x17) rfl (fun x18 h => ?_)
      conv => whnf
      refine dcS (E := E_Ref17State) h (law17_As_w x13.1) rfl (fun x19 h => ?_)
      conv => whnf
      refine daS (E := E_Bool) h (ref17_Same_w ⟨x18.Tasks, x18.Leaves, x18.Lasts, x18.Jobs, x18.Log⟩ ⟨x19.Tasks, x19.Leaves, x19.Lasts, x19.Jobs, x19.Log⟩) (fun _ => rfl) (fun x20 h => ?_)
      conv => whnf
      refine drS (by kernel_rfl) ?_
      conv => whnf
      exact jeS hk14 h (Weak.refl _)
    conv => whnf
    refine fkS h (fun h => ?_) (fun h => ?_)
    · conv => whnf
      exact rt (E := E_Bool) h rfl
    conv => whnf
    exact leS hn11 h (Weak.refl _)
  conv => whnf
  refine ccS (E := E_ListPortLine_Int) h (port_Open_w a0.Ports) rfl rfl (fun x21 h => ?_)
  conv => whnf
  refine fkS h (fun h => ?_) (fun h => ?_)
  · conv => whnf
    refine caS (E := E_Bool) h (law21_lines_w x3.1.Lines x21.1) rfl (fun _ => rfl) (fun x22 h => ?_)
    conv => whnf
    refine fkS h (fun h => ?_) (fun h => ?_)
    · conv => whnf
      refine caS (E := E_Bool) h law21_knows_w rfl (fun _ => rfl) (fun x23 h => ?_)
      conv => whnf
      exact rt (E := E_Bool) h rfl
    conv => whnf
    exact rt (E := E_Bool) h rfl
  conv => whnf
  exact rt (E := E_Bool) h rfl

end Go.Proofs.YtldlcdnhdedoeaaGreat
namespace Go.Proofs.YtldlcdnhdedoeaaGreat
open Go Go.VC
def PureKernelBoots : Prop := ∀ (a0 : Config), Config.wf a0 → law21_KernelBoots a0 = some true
end Go.Proofs.YtldlcdnhdedoeaaGreat
namespace Go.Proofs.YtldlcdnhdedoeaaGreat
open Go Go.VC
theorem law21_knows_eq : law21_knows = some true := by kernel_rfl
theorem sameInts_refl (l : List Int) (h : l.length ≤ 1000000) : ref05_SameInts l l = some true := by
  unfold ref05_SameInts
  rw [decide_eq_true rfl, Bool.not_true, fk_f]
  refine lp_up l.length (by unfold FU; omega) (fun _ => True) trivial ?_
  intro nx k hk _ hnx
  rw [lt_nat]
  by_cases hk' : k < l.length
  · rw [decide_eq_true hk', fk_t, ix_lt hk', ix_lt hk', decide_eq_true rfl, Bool.not_true, fk_f, wr_succ k _ hk' (by omega)]
    exact hnx hk' trivial
  · rw [decide_eq_false hk', fk_f]
theorem Config.bounds {c : Config} (h : c.wf) : c.Parts.length ≤ 4611686018427387904 ∧ ∀ p ∈ c.Parts, p.Tasks.length ≤ 4611686018427387904 ∧ ∀ t ∈ p.Tasks, t.Secs.length ≤ 4611686018427387904 :=
  ⟨by have := h.1.1; unfold BB at this; omega, fun p hp => ⟨wf_len (h.1.2 p hp).2.1 (Nat.le_refl _), fun t ht => ((h.1.2 p hp).2.2 t ht).len⟩⟩
theorem proofKernelBoots : PureKernelBoots := by
  intro c hw
  obtain ⟨b1, b2⟩ := Config.bounds hw
  obtain ⟨g, hg, hgb⟩ := great_ex c b1 b2
  unfold law21_KernelBoots
  simp only [law21_knows_eq, bnd_some]
  rw [bnd_eq hg]
  cases g with
  | true => rw [fk_t]
  | false =>
  obtain ⟨g1, g2⟩ := hgb rfl
  have hb : confB c := ⟨b1, by omega, b2⟩
  rw [fk_f]
  rcases boot_ex c hb with ⟨e, he, k1, r1⟩ | ⟨s, ticks, k1, r1, hB⟩
  · rw [bnd_eq k1, bnd_eq r1, decide_eq_false he, Bool.not_false, fk_t]
    show bnd (law21_Same zeroK zeroK) _ = _
    rw [bnd_eq zeroK_same, fk_t, decide_eq_true rfl, fk_t]
  have hk := hB.kP
  have hc := hB.conf
  have hpl : s.Parts.length = c.Parts.length := by rw [hB.parts, List.length_map]
  have hfl : s.Faces.length = c.Parts.length := by rw [hB.faces, List.length_map]
  have f1 := hk.tab.f1
  have f2 := hk.tab.f2
  have eT : ((List.range s.Table.Frame.toNat).map fun (x : Nat) => whoV s.Table.Windows (x : Int)) = ticks := by
    have hl := hB.len
    refine List.ext_getElem (by simp; omega) fun i h1 h2 => ?_
    rw [List.getElem_map, List.getElem_range]
    exact hB.at' i _ (List.getElem?_eq_getElem h2)
  rw [bnd_eq k1, bnd_eq r1, decide_eq_true rfl, Bool.not_true, fk_f]
  refine jn_to false (fun k => ?_) ?_
  · dsimp only
    rw [fk_f, decide_eq_true (by omega), Bool.not_true, fk_f, decide_eq_true (by omega), Bool.not_true, fk_f, decide_eq_true hB.now, Bool.not_true, fk_f, bnd_eq (kernel_Right_t hk), Bool.not_true, fk_f, bnd_eq (ref13_Ticks_eq hk.tab), eT, bnd_eq (sameInts_refl ticks (by have := hB.len; omega))]
    rfl
  rw [fk_f]
  have h4 := hc.pl
  refine lp_up c.Parts.length (by unfold FU; omega) (fun _ => True) trivial ?_
  intro nx k hk0 _ hnx
  rw [lt_nat]
  by_cases c0 : k < c.Parts.length
  · have hm := List.getElem_mem c0
    have ha := (hc.ps _ hm).2
    have e1 : s.Faces[k]'(by omega) = c.Parts[k].Face := by simp only [hB.faces, List.getElem_map]
    have e2 : s.Parts[k]'(by omega) = new0 c.Parts[k].Tasks := by simp only [hB.parts, List.getElem_map]
    rw [decide_eq_true c0, fk_t, ix_lt c0, bnd_eq (part_New_eq _ (b2 _ hm).1 (b2 _ hm).2), if_pos ha, wr_succ k _ c0 (by omega)]
    refine jn_to false (fun k14 => ?_) (by rw [fk_f]; exact hnx c0 trivial)
    dsimp only
    have hs := ref17_Same_eq _ (SameB.of_st (StB.of_st (okS_new ha).1) (okS_new ha).1)
    rw [decide_eq_true rfl, Bool.not_true, fk_f, ix_lt (show k < s.Faces.length by omega), ix_lt c0, e1, eqI_refl, Bool.not_true, fk_f, ix_lt (show k < s.Parts.length by omega), e2, bnd_eq (law17_As_eq _), bnd_eq (law17_As_eq _)]
    show bnd (ref17_Same (toR (new0 c.Parts[k].Tasks)) (toR (new0 c.Parts[k].Tasks))) _ = _
    rw [bnd_eq hs]; rfl
  · have hl := lines_refl _ hk.lines
    have el := hB.lines
    rw [decide_eq_false c0, fk_f, bnd_eq (port_Open_eq _ hb.q), if_pos ⟨hc.qs, hc.ql⟩]
    dsimp only
    rw [decide_eq_true rfl, fk_t, ← el, bnd_eq hl, fk_t]
end Go.Proofs.YtldlcdnhdedoeaaGreat
namespace Go.Proofs.YtldlcdnhdedoeaaGreat.kernelBoots
open Go Go.VC Go.ChangeShapes Go.WideShapes Go.ChangeAt Go.RowKit
theorem own : ownKnob Tryz.prog.godebug = none := by kernel_rfl
theorem laidOut : laidOutB Tryz.prog = true := by kernel_rfl
theorem lifted (os : Os) (started : os.Started) (H : Type) (enc : TypeId × Value → H) :
    ReturnsInHanded {} Tryz.checked os 3 .any (Rows.kernelBootsSpec.pre6 enc Tryz.prog Tryz.f3 Rows.kernelBootsRow.domain false) (Rows.kernelBootsSpec.post enc Tryz.prog Tryz.f3 false true false false) := by
  refine returnsInHanded_of_change_sized (C := Tryz.checked) own started (by kernel_rfl) Tryz.func3
    (ChangeSpec.witness6 (enc := enc) (C := Tryz.checked) false ⟨#[], #[.agg #[.slice none 0 0, .slice none 0 0]], []⟩ 8 (by kernel_rfl) (by kernel_rfl) (by kernel_rfl) (by kernel_rfl)) ?_
  intro W base args ds gs before hval0 hW hcnd hsz0 _
  have hsz : (DataW.weightsEach Tryz.prog (Tryz.f3.params.toList ++ Rows.kernelBootsSpec.plain.varTypes Tryz.prog) (ds ++ gs)).all (· ≤ reachBytes) = true := hsz0
  have hval : ∀ (j : Nat) t v, Tryz.f3.params[j]? = some t → args[j]? = some v → Value.okWide Tryz.prog W .any base t v := hval0
  have hW' := hW
  obtain ⟨p, q, hA0, hV, rfl, hfz, hnd⟩ := hW
  have hA : DataW.TrodAll enc Tryz.prog W 0 (fun _ => true) true Tryz.f3.params.toList args.toList ds p := hA0
  rw [Tryz.params3] at hA hval hsz
  obtain ⟨v0, vs0, d0, ds0, p0, q0, hargs, rfl, rfl, h0, r0⟩ := trodAll_cons hA
  obtain ⟨rfl, rfl, rfl⟩ := trodAll_nil r0
  obtain rfl : args = #[v0] := by cases args; simp_all
  obtain ⟨rfl, rfl⟩ := trodVars_none hV
  have lt0 : ∀ x ∈ p0, x.block < W.heap.size := by obtain ⟨m, hm⟩ := h0; exact DataW.trod_lt m _ _ _ hm
  have wt0 : ∀ k ∈ d0.weights Tryz.prog 25, k ≤ BB := fun k hk => of_decide_eq_true (List.all_eq_true.1 hsz _ (DataW.weights_mem_each (j := 0) rfl rfl k hk))
  obtain ⟨c0, s0, g0⟩ := open_cv tab (m := 8) (t := 25) rfl (hval 0 25 v0 rfl rfl) h0 wt0
  have g0 := g0 _ T25
  obtain ⟨a0, rfl, w0⟩ := (Config.of s0)
  clear hA0 hval0 hsz0 hsz
  have pure := proofKernelBoots a0 w0
  refine ((law21_KernelBoots_w a0 true pure).2 W (pw W) [v0] (fun _ h => h) (All2.cons g0 All2.nil)).mono fun e W' ⟨v, rs, p', he, hR, hrep, bel, _⟩ => ?_
  subst hR he
  obtain rfl := RepD_bool hrep
  exact ⟨_, rfl, _, _, _, [], _, [], hW', trodAll_mk1 (shut_bool Tryz.underlying4 _), (trodAll_cons_mk (Below.trod laidOut (by kernel_rfl) (of_decide_eq_true (by kernel_rfl)) h0 bel lt0) trodAll_mk0), rfl, bel.frame _, fun h => by cases h⟩
theorem over : Rows.kernelBootsRow.holds Tryz.pinned (OpenSpec.ofChange Rows.kernelBootsSpec) :=
  OpenClaim.holds_of_wide 3 Tryz.f3 rfl rfl rfl rfl rfl rfl rfl ⟨rfl, rfl, rfl, rfl, rfl⟩ rfl rfl rfl rfl rfl (by kernel_rfl) Tryz.func3 (by kernel_rfl)
    (of_decide_eq_true (by kernel_rfl)) (by unfold Func.isWrapper; first | (rw [if_pos (by decide +kernel)]; kernel_rfl) | (rw [if_neg (by decide +kernel)]; exact ⟨rfl, rfl⟩))
    (fun os started H enc _ => lifted os started H enc)
end Go.Proofs.YtldlcdnhdedoeaaGreat.kernelBoots
namespace Go.Proofs.YtldlcdnhdedoeaaGreat
theorem kernelBoots_holds : Rows.KernelBootsSaid := kernelBoots.over
end Go.Proofs.YtldlcdnhdedoeaaGreat
