/- It is proved that the law TopBack returns true at every input that the row lets in; there is no condition beside the row's own. -/
import Derived.Test.YtfnaclhllopoeaaGreatXTopBack9
import Derived.Test.YtfnaclhllopoeaaGreatXTopBack10
import Derived.Test.YtfnaclhllopoeaaGreatXTopBack0
import Derived.KernelRfl
import Derived.Test.YtfnaclhllopoeaaGreatRows
set_option linter.unusedVariables false
set_option linter.unusedSimpArgs false
set_option maxRecDepth 100000
set_option maxHeartbeats 40000000
set_option maxHeartbeats 1000000
set_option maxHeartbeats 4000000
set_option maxRecDepth 1000000
namespace Go.Proofs.YtfnaclhllopoeaaGreat
open Go Go.VC
noncomputable def image_Encode (a0 : Config) : Option ((List Int) × Int) :=
  bnd (image_Right a0) fun x1 => fk (!x1) (some ([], (1 : Int))) (lp (fun nx2 (v2 : (List Int) × Int) => fk (decide (v2.2 < (([(a0.Parts.length : Int)] : List Int).length : Int))) (ck (decide (0 ≤ v2.2) && decide (v2.2 < (([(a0.Parts.length : Int)] : List Int).length : Int))) (ox ([(a0.Parts.length : Int)] : List Int) v2.2.toNat fun x3 => ck (decide ((v2.1.length + ([(IntKind.u8.wrap x3)] : List Int).length) * 1 ≤ 140737488355328)) (nx2 (v2.1 ++ ([(IntKind.u8.wrap x3)] : List Int), (wr (v2.2 + (1 : Int))))))) (lp (fun nx4 (v4 : (List Int) × Int) => fk (decide (v4.2 < (a0.Parts.length : Int))) (ix a0.Parts v4.2 fun x5 => lp (fun nx6 (v6 : (List Int) × Int) => fk (decide (v6.2 < (([x5.Face.P, x5.Face.B, (x5.Tasks.length : Int)] : List Int).length : Int))) (ck (decide (0 ≤ v6.2) && decide (v6.2 < (([x5.Face.P, x5.Face.B, (x5.Tasks.length : Int)] : List Int).length : Int))) (ox ([x5.Face.P, x5.Face.B, (x5.Tasks.length : Int)] : List Int) v6.2.toNat fun x7 => ck (decide ((v6.1.length + ([(IntKind.u8.wrap x7)] : List Int).length) * 1 ≤ 140737488355328)) (nx6 (v6.1 ++ ([(IntKind.u8.wrap x7)] : List Int), (wr (v6.2 + (1 : Int))))))) (lp (fun nx8 (v8 : (List Int) × Int) => fk (decide (v8.2 < (x5.Tasks.length : Int))) (ix x5.Tasks v8.2 fun x9 => lp (fun nx10 (v10 : (List Int) × Int) => fk (decide (v10.2 < (([x9.C, x9.D, x9.T, (x9.Secs.length : Int)] : List Int).length : Int))) (ck (decide (0 ≤ v10.2) && decide (v10.2 < (([x9.C, x9.D, x9.T, (x9.Secs.length : Int)] : List Int).length : Int))) (ox ([x9.C, x9.D, x9.T, (x9.Secs.length : Int)] : List Int) v10.2.toNat fun x11 => ck (decide ((v10.1.length + ([(IntKind.u8.wrap x11)] : List Int).length) * 1 ≤ 140737488355328)) (nx10 (v10.1 ++ ([(IntKind.u8.wrap x11)] : List Int), (wr (v10.2 + (1 : Int))))))) (lp (fun nx12 (v12 : (List Int) × Int) => fk (decide (v12.2 < (x9.Secs.length : Int))) (ix x9.Secs v12.2 fun x13 => lp (fun nx14 (v14 : (List Int) × Int) => fk (decide (v14.2 < (([x13.Res, x13.At, x13.Len] : List Int).length : Int))) (ck (decide (0 ≤ v14.2) && decide (v14.2 < (([x13.Res, x13.At, x13.Len] : List Int).length : Int))) (ox ([x13.Res, x13.At, x13.Len] : List Int) v14.2.toNat fun x15 => ck (decide ((v14.1.length + ([(IntKind.u8.wrap x15)] : List Int).length) * 1 ≤ 140737488355328)) (nx14 (v14.1 ++ ([(IntKind.u8.wrap x15)] : List Int), (wr (v14.2 + (1 : Int))))))) (nx12 (v14.1, (wr (v12.2 + (1 : Int)))))) FU (v12.1, (0 : Int))) (nx8 (v12.1, (wr (v8.2 + (1 : Int)))))) FU (v10.1, (0 : Int)))) FU (v8.1, (0 : Int))) (nx4 (v8.1, (wr (v4.2 + (1 : Int)))))) FU (v6.1, (0 : Int)))) FU (v4.1, (0 : Int))) (lp (fun nx16 (v16 : (List Int) × Int) => fk (decide (v16.2 < (([(a0.Ports.length : Int)] : List Int).length : Int))) (ck (decide (0 ≤ v16.2) && decide (v16.2 < (([(a0.Ports.length : Int)] : List Int).length : Int))) (ox ([(a0.Ports.length : Int)] : List Int) v16.2.toNat fun x17 => ck (decide ((v16.1.length + ([(IntKind.u8.wrap x17)] : List Int).length) * 1 ≤ 140737488355328)) (nx16 (v16.1 ++ ([(IntKind.u8.wrap x17)] : List Int), (wr (v16.2 + (1 : Int))))))) (lp (fun nx18 (v18 : (List Int) × Int) => fk (decide (v18.2 < (a0.Ports.length : Int))) (ix a0.Ports v18.2 fun x19 => lp (fun nx20 (v20 : (List Int) × Int) => fk (decide (v20.2 < (([x19.From, x19.To, x19.Cap] : List Int).length : Int))) (ck (decide (0 ≤ v20.2) && decide (v20.2 < (([x19.From, x19.To, x19.Cap] : List Int).length : Int))) (ox ([x19.From, x19.To, x19.Cap] : List Int) v20.2.toNat fun x21 => ck (decide ((v20.1.length + ([(IntKind.u8.wrap x21)] : List Int).length) * 1 ≤ 140737488355328)) (nx20 (v20.1 ++ ([(IntKind.u8.wrap x21)] : List Int), (wr (v20.2 + (1 : Int))))))) (nx18 (v20.1, (wr (v18.2 + (1 : Int)))))) FU (v18.1, (0 : Int))) (some (v18.1, (0 : Int)))) FU (v16.1, (0 : Int)))) FU (v4.1, (0 : Int)))) FU (v2.1, (0 : Int)))) FU (([(84 : Int), (75 : Int), (49 : Int)] : List Int), (0 : Int)))
theorem image_Encode_w (a0 : Config) (r : (List Int) × Int) (h : image_Encode a0 = some r) : Go.VC.Spec Tryz.prog 6 [.agg (Config.enc a0)] (fun y => y = E_ListIntu8_Int r) := by
  refine Go.VC.Spec.of_xc (args := [.agg (Config.enc a0)]) (fn := Tryz.f6) tab ⟨[(0, [1]), (1, [1, 16]), (2, [2, 3]), (3, [1, 4]), (4, [1, 4, 5]), (5, [1, 4, 5]), (6, [1, 4, 5, 27, 28, 29]), (7, [1, 4, 5, 27, 28, 29, 30]), (8, [1, 4, 5, 7, 27, 28, 29]), (9, [1, 4, 5, 7, 27, 28, 29]), (10, [1, 4, 5, 27, 28, 29, 46, 47, 48]), (11, [1, 4, 5, 27, 28, 29, 46, 47, 48, 49]), (12, [1, 4, 5, 9, 27, 28, 29, 46, 47, 48]), (13, [1, 4, 5, 9, 27, 28, 29, 46, 47, 48]), (14, [1, 4, 5, 27, 28, 29, 46, 47, 48, 65, 66, 67]), (15, [1, 4, 5, 27, 28, 29, 46, 47, 48, 65, 66, 67, 68]), (16, [1, 4, 5, 11, 27, 28, 29, 46, 47, 48, 65, 66, 67]), (17, [1, 4, 5, 27, 28, 29, 46, 47, 48, 65, 66, 67]), (18, [1, 4, 5, 27, 28, 29, 46, 47, 48, 65, 66, 67]), (19, [1, 4, 5, 27, 28, 29, 46, 47, 48]), (20, [1, 4, 5, 27, 28, 29]), (21, [1, 4, 5]), (22, [4, 5, 90, 91, 92]), (23, [4, 5, 90, 91, 92, 93]), (24, [4, 5, 13, 90, 91, 92]), (25, [4, 5, 90, 91, 92]), (26, [4, 5, 90, 91, 92]), (27, [2, 3])], [], [], []⟩ 107 [.tmp 2, .tmp 3] rfl rfl rfl rfl rfl rfl ?_
  conv => whnf
  refine caS (E := E_Bool) h (image_Right_w a0) rfl (fun _ => rfl) (fun x1 h => ?_)
  conv => whnf
  refine fkS h (fun h => ?_) (fun h => ?_)
  · conv => whnf
    exact rt (E := E_ListIntu8_Int) h rfl
  conv => whnf
  refine liS ([(84 : Int), (75 : Int), (49 : Int)] : List Int) (eI .u8) rfl rfl ?_
  conv => whnf
  refine cvM rfl rfl rfl rfl rfl Tryz.underlying26 Tryz.underlying5 ?_
  conv => whnf
  refine lenS a0.Parts Part.enc rfl ?_
  conv => whnf
  refine liS ([(a0.Parts.length : Int)] : List Int) (eI .i64) rfl rfl ?_
  conv => whnf
  refine inS (fn := Tryz.f12) tab ⟨[(0, [1, 5, 6, 7]), (1, [1, 5, 6, 7, 8]), (2, [1, 4, 5, 6, 7]), (3, [1, 5, 6, 7]), (4, [1, 5, 6, 7])], [], [], []⟩ 17 [] rfl rfl rfl rfl rfl rfl ?_
  conv => whnf
  refine lenS ([(a0.Parts.length : Int)] : List Int) (eI .i64) rfl ?_
  conv => whnf
  refine lpS (fun v2 => ⟨[(1, .l (.ptr 5 0)), (5, .l (.own 25)), (6, .l (.d (.int .i64 (([(a0.Parts.length : Int)] : List Int).length : Int)))), (7, .l (.d (.int .i64 v2.2)))], 17, [⟨[(24, .l (.own 25)), (23, .l (.d (.int .i64 (a0.Parts.length : Int)))), (22, .l (.d (.sl (a0.Parts.map Part.enc)))), (21, .l (.ptr 2 0)), (20, .l (.func 12 [.k 5])), (1, .l (.ptr 2 0)), (4, .l (.ptr 5 0)), (5, .l (.func 12 [.k 5]))], 107⟩], [(2, [.d (.sl (a0.Parts.map Part.enc)), .d (.sl (a0.Ports.map Port.enc))]), (5, [.own 18])], [(18, 5, 1, v2.1.map (eI .u8)), (25, 3, 1, ([(a0.Parts.length : Int)] : List Int).map (eI .i64))]⟩) h (Weak.refl _) (fun _ nx2 hn2 v2 h => ?_)
  conv => whnf
  refine fkS h (fun h => ?_) (fun h => ?_)
  · conv => whnf
    refine ioS (enc := (eI .i64)) h rfl (fun h => ?_)
    conv => whnf
    refine oxS (enc := (eI .i64)) h rfl (fun x3 h => ?_)
    conv => whnf
    refine liS ([(IntKind.u8.wrap x3)] : List Int) (eI .u8) rfl rfl ?_
    conv => whnf
    refine apS (enc := (eI .u8)) (l1 := v2.1) (l2 := ([(IntKind.u8.wrap x3)] : List Int)) h rfl rfl (fun _ => rfl) (fun h => ?_)
    conv => whnf
    refine leX hn2 h ?_
    conv => whnf
    refine WkF.step (Weak.rekey _ 1016 18 rfl) ?_
    conv => whnf
    exact WkF.refl _
  conv => whnf
  refine lenS a0.Parts Part.enc rfl ?_
  conv => whnf
  refine lpS (fun v4 => ⟨[(1, .l (.ptr 2 0)), (4, .l (.ptr 5 0)), (5, .l (.func 12 [.k 5])), (27, .l (.d (.sl (a0.Parts.map Part.enc)))), (28, .l (.d (.int .i64 (a0.Parts.length : Int)))), (29, .l (.d (.int .i64 v4.2)))], 107, [], [(2, [.d (.sl (a0.Parts.map Part.enc)), .d (.sl (a0.Ports.map Port.enc))]), (5, [.own 18])], [(18, 5, 1, v4.1.map (eI .u8))]⟩) h (Weak.refl _) (fun _ nx4 hn4 v4 h => ?_)
  conv => whnf
  refine fkS h (fun h => ?_) (fun h => ?_)
  · conv => whnf
    refine ixS (enc := Part.enc) h rfl (fun _ => rfl) (fun x5 h => ?_)
    conv => whnf
    refine lenS x5.Tasks Task.enc rfl ?_
    conv => whnf
    refine liS ([x5.Face.P, x5.Face.B, (x5.Tasks.length : Int)] : List Int) (eI .i64) rfl rfl ?_
    conv => whnf
    refine inS (fn := Tryz.f12) tab ⟨[(0, [1, 5, 6, 7]), (1, [1, 5, 6, 7, 8]), (2, [1, 4, 5, 6, 7]), (3, [1, 5, 6, 7]), (4, [1, 5, 6, 7])], [], [], []⟩ 17 [] rfl rfl rfl rfl rfl rfl ?_
    conv => whnf
    refine lenS ([x5.Face.P, x5.Face.B, (x5.Tasks.length : Int)] : List Int) (eI .i64) rfl ?_
    conv => whnf
    refine lpS (fun v6 => ⟨[(1, .l (.ptr 5 0)), (5, .l (.own 44)), (6, .l (.d (.int .i64 (([x5.Face.P, x5.Face.B, (x5.Tasks.length : Int)] : List Int).length : Int)))), (7, .l (.d (.int .i64 v6.2)))], 17, [⟨[(43, .l (.own 44)), (42, .l (.d (.int .i64 (x5.Tasks.length : Int)))), (41, .l (.d (.sl (x5.Tasks.map Task.enc)))), (40, .l (.ptr 8 2)), (39, .l (.d (.int .i64 x5.Face.B))), (38, .l (.ptr 8 1)), (37, .l (.ptr 8 0)), (36, .l (.d (.int .i64 x5.Face.P))), (35, .l (.ptr 8 0)), (34, .l (.ptr 8 0)), (33, .l (.func 12 [.k 5])), (1, .l (.ptr 2 0)), (4, .l (.ptr 5 0)), (5, .l (.func 12 [.k 5])), (7, .l (.ptr 8 0)), (27, .l (.d (.sl (a0.Parts.map Part.enc)))), (28, .l (.d (.int .i64 (a0.Parts.length : Int)))), (29, .l (.d (.int .i64 v4.2)))], 107⟩], [(2, [.d (.sl (a0.Parts.map Part.enc)), .d (.sl (a0.Ports.map Port.enc))]), (5, [.own 18]), (8, [.d (.int .i64 x5.Face.P), .d (.int .i64 x5.Face.B), .d (.sl (x5.Tasks.map Task.enc))])], [(18, 5, 1, v6.1.map (eI .u8)), (44, 3, 1, ([x5.Face.P, x5.Face.B, (x5.Tasks.length : Int)] : List Int).map (eI .i64))]⟩) h (Weak.refl _) (fun _ nx6 hn6 v6 h => ?_)
    conv => whnf
    refine fkS h (fun h => ?_) (fun h => ?_)
    · conv => whnf
      refine ioS (enc := (eI .i64)) h rfl (fun h => ?_)
      conv => whnf
      refine oxS (enc := (eI .i64)) h rfl (fun x7 h => ?_)
      conv => whnf
      refine liS ([(IntKind.u8.wrap x7)] : List Int) (eI .u8) rfl rfl ?_
      conv => whnf
      refine apS (enc := (eI .u8)) (l1 := v6.1) (l2 := ([(IntKind.u8.wrap x7)] : List Int)) h rfl rfl (fun _ => rfl) (fun h => ?_)
      conv => whnf
      refine leX hn6 h ?_
      conv => whnf
      refine WkF.step (Weak.rekey _ 1016 18 rfl) ?_
      conv => whnf
      exact WkF.refl _
    conv => whnf
    refine lenS x5.Tasks Task.enc rfl ?_
    conv => whnf
    refine lpS (fun v8 => ⟨[(1, .l (.ptr 2 0)), (4, .l (.ptr 5 0)), (5, .l (.func 12 [.k 5])), (27, .l (.d (.sl (a0.Parts.map Part.enc)))), (28, .l (.d (.int .i64 (a0.Parts.length : Int)))), (29, .l (.d (.int .i64 v4.2))), (46, .l (.d (.sl (x5.Tasks.map Task.enc)))), (47, .l (.d (.int .i64 (x5.Tasks.length : Int)))), (48, .l (.d (.int .i64 v8.2)))], 107, [], [(2, [.d (.sl (a0.Parts.map Part.enc)), .d (.sl (a0.Ports.map Port.enc))]), (5, [.own 18])], [(18, 5, 1, v8.1.map (eI .u8))]⟩) h (Weak.refl _) (fun _ nx8 hn8 v8 h => ?_)
    conv => whnf
    refine fkS h (fun h => ?_) (fun h => ?_)
    · conv => whnf
      refine ixS (enc := Task.enc) h rfl (fun _ => rfl) (fun x9 h => ?_)
      conv => whnf
      refine lenS x9.Secs Sec.enc rfl ?_
      conv => whnf
      refine liS ([x9.C, x9.D, x9.T, (x9.Secs.length : Int)] : List Int) (eI .i64) rfl rfl ?_
      conv => whnf
      refine inS (fn := Tryz.f12) tab ⟨[(0, [1, 5, 6, 7]), (1, [1, 5, 6, 7, 8]), (2, [1, 4, 5, 6, 7]), (3, [1, 5, 6, 7]), (4, [1, 5, 6, 7])], [], [], []⟩ 17 [] rfl rfl rfl rfl rfl rfl ?_
      conv => whnf
      refine lenS ([x9.C, x9.D, x9.T, (x9.Secs.length : Int)] : List Int) (eI .i64) rfl ?_
      conv => whnf
      refine lpS (fun v10 => ⟨[(1, .l (.ptr 5 0)), (5, .l (.own 63)), (6, .l (.d (.int .i64 (([x9.C, x9.D, x9.T, (x9.Secs.length : Int)] : List Int).length : Int)))), (7, .l (.d (.int .i64 v10.2)))], 17, [⟨[(62, .l (.own 63)), (61, .l (.d (.int .i64 (x9.Secs.length : Int)))), (60, .l (.d (.sl (x9.Secs.map Sec.enc)))), (59, .l (.ptr 10 3)), (58, .l (.d (.int .i64 x9.T))), (57, .l (.ptr 10 2)), (56, .l (.d (.int .i64 x9.D))), (55, .l (.ptr 10 1)), (54, .l (.d (.int .i64 x9.C))), (53, .l (.ptr 10 0)), (52, .l (.func 12 [.k 5])), (1, .l (.ptr 2 0)), (4, .l (.ptr 5 0)), (5, .l (.func 12 [.k 5])), (9, .l (.ptr 10 0)), (27, .l (.d (.sl (a0.Parts.map Part.enc)))), (28, .l (.d (.int .i64 (a0.Parts.length : Int)))), (29, .l (.d (.int .i64 v4.2))), (46, .l (.d (.sl (x5.Tasks.map Task.enc)))), (47, .l (.d (.int .i64 (x5.Tasks.length : Int)))), (48, .l (.d (.int .i64 v8.2)))], 107⟩], [(2, [.d (.sl (a0.Parts.map Part.enc)), .d (.sl (a0.Ports.map Port.enc))]), (5, [.own 18]), (10, [.d (.int .i64 x9.C), .d (.int .i64 x9.D), .d (.int .i64 x9.T), .d (.sl (x9.Secs.map Sec.enc))])], [(18, 5, 1, v10.1.map (eI .u8)), (63, 3, 1, ([x9.C, x9.D, x9.T, (x9.Secs.length : Int)] : List Int).map (eI .i64))]⟩) h (Weak.refl _) (fun _ nx10 hn10 v10 h => ?_)
      conv => whnf
      refine fkS h (fun h => ?_) (fun h => ?_)
      · conv => whnf
        refine ioS (enc := (eI .i64)) h rfl (fun h => ?_)
        conv => whnf
        refine oxS (enc := (eI .i64)) h rfl (fun x11 h => ?_)
        conv => whnf
        refine liS ([(IntKind.u8.wrap x11)] : List Int) (eI .u8) rfl rfl ?_
        conv => whnf
        refine apS (enc := (eI .u8)) (l1 := v10.1) (l2 := ([(IntKind.u8.wrap x11)] : List Int)) h rfl rfl (fun _ => rfl) (fun h => ?_)
        conv => whnf
        refine leX hn10 h ?_
        conv => whnf
        refine WkF.step (Weak.rekey _ 1016 18 rfl) ?_
        conv => whnf
        exact WkF.refl _
      conv => whnf
      refine lenS x9.Secs Sec.enc rfl ?_
      conv => whnf
      refine lpS (fun v12 => ⟨[(1, .l (.ptr 2 0)), (4, .l (.ptr 5 0)), (5, .l (.func 12 [.k 5])), (27, .l (.d (.sl (a0.Parts.map Part.enc)))), (28, .l (.d (.int .i64 (a0.Parts.length : Int)))), (29, .l (.d (.int .i64 v4.2))), (46, .l (.d (.sl (x5.Tasks.map Task.enc)))), (47, .l (.d (.int .i64 (x5.Tasks.length : Int)))), (48, .l (.d (.int .i64 v8.2))), (65, .l (.d (.sl (x9.Secs.map Sec.enc)))), (66, .l (.d (.int .i64 (x9.Secs.length : Int)))), (67, .l (.d (.int .i64 v12.2)))], 107, [], [(2, [.d (.sl (a0.Parts.map Part.enc)), .d (.sl (a0.Ports.map Port.enc))]), (5, [.own 18])], [(18, 5, 1, v12.1.map (eI .u8))]⟩) h (Weak.refl _) (fun _ nx12 hn12 v12 h => ?_)
      conv => whnf
      refine fkS h (fun h => ?_) (fun h => ?_)
      · conv => whnf
        refine ixS (enc := Sec.enc) h rfl (fun _ => rfl) (fun x13 h => ?_)
        conv => whnf
        refine liS ([x13.Res, x13.At, x13.Len] : List Int) (eI .i64) rfl rfl ?_
        conv => whnf
        refine inS (fn := Tryz.f12) tab ⟨[(0, [1, 5, 6, 7]), (1, [1, 5, 6, 7, 8]), (2, [1, 4, 5, 6, 7]), (3, [1, 5, 6, 7]), (4, [1, 5, 6, 7])], [], [], []⟩ 17 [] rfl rfl rfl rfl rfl rfl ?_
        conv => whnf
        refine lenS ([x13.Res, x13.At, x13.Len] : List Int) (eI .i64) rfl ?_
        conv => whnf
        refine lpS (fun v14 => ⟨[(1, .l (.ptr 5 0)), (5, .l (.own 79)), (6, .l (.d (.int .i64 (([x13.Res, x13.At, x13.Len] : List Int).length : Int)))), (7, .l (.d (.int .i64 v14.2)))], 17, [⟨[(78, .l (.own 79)), (77, .l (.d (.int .i64 x13.Len))), (76, .l (.ptr 12 2)), (75, .l (.d (.int .i64 x13.At))), (74, .l (.ptr 12 1)), (73, .l (.d (.int .i64 x13.Res))), (72, .l (.ptr 12 0)), (71, .l (.func 12 [.k 5])), (1, .l (.ptr 2 0)), (4, .l (.ptr 5 0)), (5, .l (.func 12 [.k 5])), (11, .l (.ptr 12 0)), (27, .l (.d (.sl (a0.Parts.map Part.enc)))), (28, .l (.d (.int .i64 (a0.Parts.length : Int)))), (29, .l (.d (.int .i64 v4.2))), (46, .l (.d (.sl (x5.Tasks.map Task.enc)))), (47, .l (.d (.int .i64 (x5.Tasks.length : Int)))), (48, .l (.d (.int .i64 v8.2))), (65, .l (.d (.sl (x9.Secs.map Sec.enc)))), (66, .l (.d (.int .i64 (x9.Secs.length : Int)))), (67, .l (.d (.int .i64 v12.2)))], 107⟩], [(2, [.d (.sl (a0.Parts.map Part.enc)), .d (.sl (a0.Ports.map Port.enc))]), (5, [.own 18]), (12, [.d (.int .i64 x13.Res), .d (.int .i64 x13.At), .d (.int .i64 x13.Len)])], [(18, 5, 1, v14.1.map (eI .u8)), (79, 3, 1, ([x13.Res, x13.At, x13.Len] : List Int).map (eI .i64))]⟩) h (Weak.refl _) (fun _ nx14 hn14 v14 h => ?_)
        conv => whnf
        refine fkS h (fun h => ?_) (fun h => ?_)
        · conv => whnf
          refine ioS (enc := (eI .i64)) h rfl (fun h => ?_)
          conv => whnf
          refine oxS (enc := (eI .i64)) h rfl (fun x15 h => ?_)
          conv => whnf
          refine liS ([(IntKind.u8.wrap x15)] : List Int) (eI .u8) rfl rfl ?_
          conv => whnf
          refine apS (enc := (eI .u8)) (l1 := v14.1) (l2 := ([(IntKind.u8.wrap x15)] : List Int)) h rfl rfl (fun _ => rfl) (fun h => ?_)
          conv => whnf
          refine leX hn14 h ?_
          conv => whnf
          refine WkF.step (Weak.rekey _ 1016 18 rfl) ?_
          conv => whnf
          exact WkF.refl _
        conv => whnf
        exact leS hn12 h (Weak.refl _)
      conv => whnf
      exact leS hn8 h (Weak.refl _)
    conv => whnf
    exact leS hn4 h (Weak.refl _)
  conv => whnf
  refine lenS a0.Ports Port.enc rfl ?_
  conv => whnf
  refine liS ([(a0.Ports.length : Int)] : List Int) (eI .i64) rfl rfl ?_
  conv => whnf
  refine inS (fn := Tryz.f12) tab ⟨[(0, [1, 5, 6, 7]), (1, [1, 5, 6, 7, 8]), (2, [1, 4, 5, 6, 7]), (3, [1, 5, 6, 7]), (4, [1, 5, 6, 7])], [], [], []⟩ 17 [] rfl rfl rfl rfl rfl rfl ?_
  conv => whnf
  refine lenS ([(a0.Ports.length : Int)] : List Int) (eI .i64) rfl ?_
  conv => whnf
  refine lpS (fun v16 => ⟨[(1, .l (.ptr 5 0)), (5, .l (.own 88)), (6, .l (.d (.int .i64 (([(a0.Ports.length : Int)] : List Int).length : Int)))), (7, .l (.d (.int .i64 v16.2)))], 17, [⟨[(87, .l (.own 88)), (86, .l (.d (.int .i64 (a0.Ports.length : Int)))), (85, .l (.d (.sl (a0.Ports.map Port.enc)))), (84, .l (.ptr 2 1)), (83, .l (.func 12 [.k 5])), (30, .l (.d (.bool false))), (1, .l (.ptr 2 0)), (4, .l (.ptr 5 0)), (5, .l (.func 12 [.k 5])), (27, .l (.d (.sl (a0.Parts.map Part.enc)))), (28, .l (.d (.int .i64 (a0.Parts.length : Int)))), (29, .l (.d (.int .i64 v4.2))), (30, .l (.d (.bool (decide (v4.2 < (a0.Parts.length : Int))))))], 107⟩], [(2, [.d (.sl (a0.Parts.map Part.enc)), .d (.sl (a0.Ports.map Port.enc))]), (5, [.own 18])], [(18, 5, 1, v16.1.map (eI .u8)), (88, 3, 1, ([(a0.Ports.length : Int)] : List Int).map (eI .i64))]⟩) h (Weak.refl _) (fun _ nx16 hn16 v16 h => ?_)
  conv => whnf
  refine fkS h (fun h => ?_) (fun h => ?_)
  · conv => whnf
    refine ioS (enc := (eI .i64)) h rfl (fun h => ?_)
    conv => whnf
    refine oxS (enc := (eI .i64)) h rfl (fun x17 h => ?_)
    conv => whnf
    refine liS ([(IntKind.u8.wrap x17)] : List Int) (eI .u8) rfl rfl ?_
    conv => whnf
    refine apS (enc := (eI .u8)) (l1 := v16.1) (l2 := ([(IntKind.u8.wrap x17)] : List Int)) h rfl rfl (fun _ => rfl) (fun h => ?_)
    conv => whnf
    refine leX hn16 h ?_
    conv => whnf
    refine WkF.step (Weak.rekey _ 1016 18 rfl) ?_
    conv => whnf
    exact WkF.refl _
  conv => whnf
  refine lenS a0.Ports Port.enc rfl ?_
  conv => whnf
  refine lpS (fun v18 => ⟨[(4, .l (.ptr 5 0)), (5, .l (.func 12 [.k 5])), (90, .l (.d (.sl (a0.Ports.map Port.enc)))), (91, .l (.d (.int .i64 (a0.Ports.length : Int)))), (92, .l (.d (.int .i64 v18.2)))], 107, [], [(5, [.own 18])], [(18, 5, 1, v18.1.map (eI .u8))]⟩) h (Weak.refl _) (fun _ nx18 hn18 v18 h => ?_)
  conv => whnf
  refine fkS h (fun h => ?_) (fun h => ?_)
  · conv => whnf
    refine ixS (enc := Port.enc) h rfl (fun _ => rfl) (fun x19 h => ?_)
    conv => whnf
    refine liS ([x19.From, x19.To, x19.Cap] : List Int) (eI .i64) rfl rfl ?_
    conv => whnf
    refine inS (fn := Tryz.f12) tab ⟨[(0, [1, 5, 6, 7]), (1, [1, 5, 6, 7, 8]), (2, [1, 4, 5, 6, 7]), (3, [1, 5, 6, 7]), (4, [1, 5, 6, 7])], [], [], []⟩ 17 [] rfl rfl rfl rfl rfl rfl ?_
    conv => whnf
    refine lenS ([x19.From, x19.To, x19.Cap] : List Int) (eI .i64) rfl ?_
    conv => whnf
    refine lpS (fun v20 => ⟨[(1, .l (.ptr 5 0)), (5, .l (.own 104)), (6, .l (.d (.int .i64 (([x19.From, x19.To, x19.Cap] : List Int).length : Int)))), (7, .l (.d (.int .i64 v20.2)))], 17, [⟨[(103, .l (.own 104)), (102, .l (.d (.int .i64 x19.Cap))), (101, .l (.ptr 14 2)), (100, .l (.d (.int .i64 x19.To))), (99, .l (.ptr 14 1)), (98, .l (.d (.int .i64 x19.From))), (97, .l (.ptr 14 0)), (96, .l (.func 12 [.k 5])), (4, .l (.ptr 5 0)), (5, .l (.func 12 [.k 5])), (13, .l (.ptr 14 0)), (90, .l (.d (.sl (a0.Ports.map Port.enc)))), (91, .l (.d (.int .i64 (a0.Ports.length : Int)))), (92, .l (.d (.int .i64 v18.2)))], 107⟩], [(5, [.own 18]), (14, [.d (.int .i64 x19.From), .d (.int .i64 x19.To), .d (.int .i64 x19.Cap)])], [(18, 5, 1, v20.1.map (eI .u8)), (104, 3, 1, ([x19.From, x19.To, x19.Cap] : List Int).map (eI .i64))]⟩) h (Weak.refl _) (fun _ nx20 hn20 v20 h => ?_)
    conv => whnf
    refine fkS h (fun h => ?_) (fun h => ?_)
    · conv => whnf
      refine ioS (enc := (eI .i64)) h rfl (fun h => ?_)
      conv => whnf
      refine oxS (enc := (eI .i64)) h rfl (fun x21 h => ?_)
      conv => whnf
      refine liS ([(IntKind.u8.wrap x21)] : List Int) (eI .u8) rfl rfl ?_
      conv => whnf
      refine apS (enc := (eI .u8)) (l1 := v20.1) (l2 := ([(IntKind.u8.wrap x21)] : List Int)) h rfl rfl (fun _ => rfl) (fun h => ?_)
      conv => whnf
      refine leX hn20 h ?_
      conv => whnf
      refine WkF.step (Weak.rekey _ 1016 18 rfl) ?_
      conv => whnf
      exact WkF.refl _
    conv => whnf
    exact leS hn18 h (Weak.refl _)
  conv => whnf
  exact rt (E := E_ListIntu8_Int) h rfl

end Go.Proofs.YtfnaclhllopoeaaGreat
namespace Go.Proofs.YtfnaclhllopoeaaGreat
open Go Go.VC
/-! Systems as bytes. -/
def u8 (n : Int) : Int := IntKind.u8.wrap n
def encS (x : Sec) : List Int := [x.Res, x.At, x.Len].map u8
def encT (x : Task) : List Int := [x.C, x.D, x.T, (x.Secs.length : Int)].map u8 ++ x.Secs.flatMap encS
def encQ (x : Part) : List Int := [x.Face.P, x.Face.B, (x.Tasks.length : Int)].map u8 ++ x.Tasks.flatMap encT
def encP (x : Port) : List Int := [x.From, x.To, x.Cap].map u8
def encC (c : Config) : List Int := [84, 75, 49] ++ [(c.Parts.length : Int)].map u8 ++ c.Parts.flatMap encQ ++ [(c.Ports.length : Int)].map u8 ++ c.Ports.flatMap encP
theorem flatMap_len {E : Type} (f : E → List Int) (m : Nat) : ∀ (l : List E), (∀ x ∈ l, (f x).length ≤ m) → (l.flatMap f).length ≤ l.length * m
  | [], _ => by simp
  | a :: r, h => by
    have h1 := h a List.mem_cons_self
    have h2 := flatMap_len f m r fun x hx => h x (List.mem_cons_of_mem _ hx)
    rw [List.flatMap_cons, List.length_append, List.length_cons, Nat.add_mul]; omega
theorem flatMap_succ {E : Type} (f : E → List Int) (l : List E) (k : Nat) (h : k < l.length) : (l.take (k + 1)).flatMap f = (l.take k).flatMap f ++ f l[k] := by
  rw [← List.take_append_getElem h, List.flatMap_append]; simp
theorem fk_end {R : Type} {n : Nat} {X Z : Option R} {r : R} (h : Z = some r) : fk (decide ((n : Int) < (n : Int))) X Z = some r := by
  rw [decide_eq_false (by omega), fk_f]; exact h
theorem fk_ix {E R : Type} {xs : List E} {k : Nat} (h : k < xs.length) {F : E → Option R} {Z : Option R} {r : R} (hf : F xs[k] = some r) : fk (decide ((k : Int) < (xs.length : Int))) (ix xs (k : Int) F) Z = some r := by
  rw [lt_nat, decide_eq_true h, fk_t, ix_lt h]; exact hf
theorem put_step {R : Type} {L : List Int} {nx : List Int × Int → Option R} {o : List Int} {k : Nat} (h : k < L.length) (hL : L.length ≤ 1000) (ho : o.length ≤ 2000000000) {Z : Option R} {r : R} (hn : nx (o ++ [u8 L[k]], ((k + 1 : Nat) : Int)) = some r) :
    fk (decide ((k : Int) < (L.length : Int))) (ck (decide (0 ≤ (k : Int)) && decide ((k : Int) < (L.length : Int))) (ox L ((k : Int)).toNat fun x3 => ck (decide ((o.length + ([(IntKind.u8.wrap x3)] : List Int).length) * 1 ≤ 140737488355328)) (nx (o ++ ([(IntKind.u8.wrap x3)] : List Int), (wr ((k : Int) + (1 : Int))))))) Z = some r := by
  rw [lt_nat, decide_eq_true h, fk_t, ck_t (by simp), Int.toNat_natCast, ox_lt h, ck_t (decide_eq_true (by simp only [List.length_cons, List.length_nil]; omega)), wr_succ k _ h (by omega)]
  exact hn
theorem put_lp {R : Type} {body : (List Int × Int → Option R) → List Int × Int → Option R} {r : R} (L : List Int) (hL : L.length ≤ 1000) (s : List Int) (hs : s.length ≤ 1000000000)
    (hEnd : ∀ nx, body nx (s ++ L.map u8, (L.length : Int)) = some r)
    (hStep : ∀ nx (o : List Int) (k : Nat) (h : k < L.length), o.length ≤ 2000000000 → nx (o ++ [u8 L[k]], ((k + 1 : Nat) : Int)) = some r → body nx (o, (k : Int)) = some r) : lp body FU (s, (0 : Int)) = some r := by
  refine lp_upS L.length (by unfold FU; omega) (fun k o => o = s ++ (L.take k).map u8) s (by simp) ?_
  rintro nx k o hk rfl hnx
  by_cases c : k < L.length
  · refine hStep nx _ k c (by rw [List.length_append, List.length_map, List.length_take]; omega) (hnx _ c ?_)
    rw [← List.take_append_getElem c, List.map_append, ← List.append_assoc]; rfl
  · have e : k = L.length := by omega
    subst e
    rw [List.take_length]
    exact hEnd nx
theorem each_lp {E R : Type} {body : (List Int × Int → Option R) → List Int × Int → Option R} {r : R} (xs : List E) (f : E → List Int) (m : Nat) (hm : ∀ x ∈ xs, (f x).length ≤ m) (hx : xs.length ≤ 1000) (hmm : m ≤ 1000) (s : List Int) (hs : s.length ≤ 100000000)
    (hEnd : ∀ nx, body nx (s ++ xs.flatMap f, (xs.length : Int)) = some r)
    (hStep : ∀ nx (o : List Int) (k : Nat) (h : k < xs.length), o.length ≤ s.length + 1000000 → nx (o ++ f xs[k], ((k + 1 : Nat) : Int)) = some r → body nx (o, (k : Int)) = some r) : lp body FU (s, (0 : Int)) = some r := by
  refine lp_upS xs.length (by unfold FU; omega) (fun k o => o = s ++ (xs.take k).flatMap f) s (by simp) ?_
  rintro nx k o hk rfl hnx
  by_cases c : k < xs.length
  · refine hStep nx _ k c ?_ (hnx _ c ?_)
    · have h1 := flatMap_len f m (xs.take k) fun x hx => hm x (List.mem_of_mem_take hx)
      have h2 : (xs.take k).length * m ≤ 1000 * 1000 := Nat.mul_le_mul (by rw [List.length_take]; omega) hmm
      rw [List.length_append]; omega
    · rw [flatMap_succ f xs k c, List.append_assoc]
  · have e : k = xs.length := by omega
    subst e
    rw [List.take_length]
    exact hEnd nx
theorem encS_len (x : Sec) : (encS x).length = 3 := rfl
theorem encT_len {x : Task} (h : x.Secs.length ≤ 4) : (encT x).length ≤ 16 := by
  have := flatMap_len encS 3 x.Secs fun y _ => by rw [encS_len]; omega
  unfold encT
  rw [List.length_append, List.length_map]
  simp only [List.length_cons, List.length_nil]
  omega
theorem encQ_len {x : Part} (h : x.Tasks.length ≤ 8) (h2 : ∀ t ∈ x.Tasks, t.Secs.length ≤ 4) : (encQ x).length ≤ 131 := by
  have := flatMap_len encT 16 x.Tasks fun y hy => encT_len (h2 y hy)
  unfold encQ
  rw [List.length_append, List.length_map]
  simp only [List.length_cons, List.length_nil]
  omega
theorem encP_len (x : Port) : (encP x).length = 3 := rfl
structure fewC (c : Config) : Prop where
  p : c.Parts.length ≤ 4
  q : c.Ports.length ≤ 4
  t : ∀ p ∈ c.Parts, p.Tasks.length ≤ 8 ∧ ∀ t ∈ p.Tasks, t.Secs.length ≤ 4
theorem confP.few {c : Config} (h : confP c) : fewC c := ⟨h.pl, h.ql, fun p hp => ⟨AllP_len (h.ps p hp).2, fun t ht => ((h.ps p hp).2.1 t ht).len⟩⟩
theorem image_Encode_eq (c : Config) (hb : confB c) : image_Encode c = some (if confP c then (encC c, 0) else ([], 1)) := by
  unfold image_Encode
  rw [bnd_eq (image_Right_eq c hb)]
  by_cases hc : confP c
  rotate_left
  · rw [decide_eq_false hc, Bool.not_false, fk_t, if_neg hc]
  rw [decide_eq_true hc, Bool.not_true, fk_f, if_pos hc]
  obtain ⟨hp, hq, ht⟩ := hc.few
  have hl0 : (([84, 75, 49] : List Int) ++ [(c.Parts.length : Int)].map u8).length = 4 := by simp
  have h1 := flatMap_len encQ 131 c.Parts fun x hx => encQ_len (ht x hx).1 (ht x hx).2
  have hl3 : (([84, 75, 49] : List Int) ++ [(c.Parts.length : Int)].map u8 ++ c.Parts.flatMap encQ).length ≤ 1000 := by rw [List.length_append, hl0]; omega
  have hl4 : (([84, 75, 49] : List Int) ++ [(c.Parts.length : Int)].map u8 ++ c.Parts.flatMap encQ ++ [(c.Ports.length : Int)].map u8).length ≤ 1001 := by rw [List.length_append]; simp only [List.length_map, List.length_cons, List.length_nil]; omega
  refine put_lp [(c.Parts.length : Int)] (by simp) [84, 75, 49] (by simp) (fun _ => fk_end ?_) (fun _ o' k' h ho' hn => put_step h (by simp) ho' hn)
  dsimp only
  refine each_lp c.Parts encQ 131 (fun x hx => encQ_len (ht x hx).1 (ht x hx).2) (by omega) (by omega) _ (by rw [hl0]; omega) (fun nx => fk_end ?_) (fun nx o k hk ho hnx => fk_ix hk ?_)
  · dsimp only
    refine put_lp [(c.Ports.length : Int)] (by simp) _ (by omega) (fun _ => fk_end ?_) (fun _ o' k' h ho' hn => put_step h (by simp) ho' hn)
    dsimp only
    refine each_lp c.Ports encP 3 (fun z hz => by rw [encP_len]; omega) (by omega) (by omega) _ (by omega) (fun nx3 => fk_end rfl) (fun nx3 o3 k3 hk3 ho3 hnx3 => fk_ix hk3 ?_)
    have hw3 := wr_succ k3 _ hk3 (by omega)
    generalize c.Ports[k3] = z at hnx3 ⊢
    dsimp only at ho3 ⊢
    refine put_lp [z.From, z.To, z.Cap] (by simp) o3 (by omega) (fun _ => fk_end ?_) (fun _ o' k' h ho' hn => put_step h (by simp) ho' hn)
    show nx3 (_, wr ((k3 : Int) + 1)) = _
    rw [hw3]
    exact hnx3
  · obtain ⟨t8, ts⟩ := ht _ (List.getElem_mem hk)
    dsimp only at ho ⊢
    rw [hl0] at ho
    have hw := wr_succ k _ hk (by omega)
    generalize c.Parts[k] = x at t8 ts hnx ⊢
    have hl1 : (o ++ [x.Face.P, x.Face.B, (x.Tasks.length : Int)].map u8).length = o.length + 3 := by rw [List.length_append]; rfl
    refine put_lp [x.Face.P, x.Face.B, (x.Tasks.length : Int)] (by simp) o (by omega) (fun _ => fk_end ?_) (fun _ o' k' h ho' hn => put_step h (by simp) ho' hn)
    dsimp only
    refine each_lp x.Tasks encT 16 (fun y hy => encT_len (ts y hy)) (by omega) (by omega) _ (by rw [hl1]; omega) (fun nx2 => fk_end ?_) (fun nx2 o2 k2 hk2 ho2 hnx2 => fk_ix hk2 ?_)
    · show nx (_, wr ((k : Int) + 1)) = _
      rw [hw, List.append_assoc]
      exact hnx
    · have s4 := ts _ (List.getElem_mem hk2)
      dsimp only at ho2 ⊢
      rw [hl1] at ho2
      have hw2 := wr_succ k2 _ hk2 (by omega)
      generalize x.Tasks[k2] = y at s4 hnx2 ⊢
      have hl2 : (o2 ++ [y.C, y.D, y.T, (y.Secs.length : Int)].map u8).length = o2.length + 4 := by rw [List.length_append]; rfl
      refine put_lp [y.C, y.D, y.T, (y.Secs.length : Int)] (by simp) o2 (by omega) (fun _ => fk_end ?_) (fun _ o' k' h ho' hn => put_step h (by simp) ho' hn)
      dsimp only
      refine each_lp y.Secs encS 3 (fun z hz => by rw [encS_len]; omega) (by omega) (by omega) _ (by rw [hl2]; omega) (fun nx3 => fk_end ?_) (fun nx3 o3 k3 hk3 ho3 hnx3 => fk_ix hk3 ?_)
      · show nx2 (_, wr ((k2 : Int) + 1)) = _
        rw [hw2, List.append_assoc]
        exact hnx2
      · have hw3 := wr_succ k3 _ hk3 (by omega)
        generalize y.Secs[k3] = z at hnx3 ⊢
        dsimp only at ho3 ⊢
        rw [hl2] at ho3
        refine put_lp [z.Res, z.At, z.Len] (by simp) o3 (by omega) (fun _ => fk_end ?_) (fun _ o' k' h ho' hn => put_step h (by simp) ho' hn)
        show nx3 (_, wr ((k3 : Int) + 1)) = _
        rw [hw3]
        exact hnx3
end Go.Proofs.YtfnaclhllopoeaaGreat
namespace Go.Proofs.YtfnaclhllopoeaaGreat
open Go Go.VC
theorem u8_id {n : Int} (h0 : 0 ≤ n) (h1 : n ≤ 255) : u8 n = n := by
  exact IntWalk.u8_in n ⟨h0, h1⟩
/-! What is read are the bytes of what comes of it. -/
def preD (b : List Int) (p e : Int) (bs : List Int) : Prop := 0 ≤ p ∧ p ≤ (b.length : Int) ∧ (e = 0 ∨ e = 8) ∧ (e = 0 → b.take p.toNat = bs)
theorem one_pre {b : List Int} (hb : bytesP b) {p e : Int} {bs : List Int} (h : preD b p e bs) : preD b (oneV b p e).1 (oneV b p e).2.1 (bs ++ [u8 (oneV b p e).2.2]) := by
  obtain ⟨h0, h1, he, h2⟩ := h
  obtain ⟨a1, a2, a3, a4⟩ := oneV_ok hb e h0 h1
  refine ⟨a1, a2, ?_, ?_⟩
  · unfold oneV
    by_cases c : e = 0
    · rw [if_pos c]
      by_cases d : p ≥ (b.length : Int)
      · rw [if_pos d]; exact .inr rfl
      · rw [if_neg d]; exact .inl rfl
    · rw [if_neg c]; exact he
  · rw [u8_id a3 a4]
    unfold oneV
    intro hz
    by_cases c : e = 0
    · rw [if_pos c] at hz ⊢
      by_cases d : p ≥ (b.length : Int)
      · rw [if_pos d] at hz; cases hz
      · rw [if_neg d]
        have hp : p.toNat < b.length := by omega
        show b.take (p + 1).toNat = bs ++ [(b[p.toNat]?).getD 0]
        rw [show (p + 1).toNat = p.toNat + 1 by omega, ← List.take_append_getElem hp, h2 c, List.getElem?_eq_getElem hp]; rfl
    · rw [if_neg c] at hz; exact absurd hz c
theorem row_pre {E : Type} {b : List Int} {take : Int → Int → Int × Int × E} {enc : E → List Int} (htk : ∀ p e bs, preD b p e bs → preD b (take p e).1 (take p e).2.1 (bs ++ enc (take p e).2.2)) : ∀ (n : Nat) (p e : Int) (l : List E) (bs : List Int), preD b p e bs → ∃ l1, (rdRow take n p e l).2.2 = l ++ l1 ∧ ((rdRow take n p e l).2.1 = 0 → l1.length = n) ∧ preD b (rdRow take n p e l).1 (rdRow take n p e l).2.1 (bs ++ l1.flatMap enc)
  | 0, p, e, l, bs, h => ⟨[], by simp [rdRow], fun _ => rfl, by simpa [rdRow] using h⟩
  | n + 1, p, e, l, bs, h => by
    unfold rdRow
    by_cases c : e = 0
    · rw [if_pos c]
      obtain ⟨l1, q1, q2, q3⟩ := row_pre htk n (take p e).1 (take p e).2.1 (l ++ [(take p e).2.2]) (bs ++ enc (take p e).2.2) (htk p e bs h)
      refine ⟨(take p e).2.2 :: l1, by rw [q1, List.append_assoc]; rfl, fun hz => by rw [List.length_cons, q2 hz], ?_⟩
      rw [List.flatMap_cons, ← List.append_assoc]
      exact q3
    · rw [if_neg c]
      refine ⟨[], by simp, fun hz => absurd hz c, ?_⟩
      exact ⟨h.1, h.2.1, h.2.2.1, fun hz => absurd hz c⟩
theorem sec_pre {b : List Int} (hb : bytesP b) (p e : Int) (bs : List Int) (h : preD b p e bs) : preD b (secRd b p e).1 (secRd b p e).2.1 (bs ++ encS (secRd b p e).2.2) := by
  have h3 := one_pre hb (one_pre hb (one_pre hb h))
  simp only [List.append_assoc] at h3
  exact h3
theorem port_pre {b : List Int} (hb : bytesP b) (p e : Int) (bs : List Int) (h : preD b p e bs) : preD b (portRd b p e).1 (portRd b p e).2.1 (bs ++ encP (portRd b p e).2.2) := by
  have h3 := one_pre hb (one_pre hb (one_pre hb h))
  simp only [List.append_assoc] at h3
  exact h3
theorem task_pre {b : List Int} (hb : bytesP b) (p e : Int) (bs : List Int) (h : preD b p e bs) : preD b (taskRd b p e).1 (taskRd b p e).2.1 (bs ++ encT (taskRd b p e).2.2) := by
  have h3 := one_pre hb (one_pre hb (one_pre hb h))
  unfold taskRd
  dsimp only
  generalize oneV b p e = c at h3 ⊢
  generalize oneV b c.1 c.2.1 = d at h3 ⊢
  generalize oneV b d.1 d.2.1 = t at h3 ⊢
  have h4 := one_pre hb h3
  obtain ⟨k1, k2, k3, k4⟩ := oneV_ok hb t.2.1 h3.1 h3.2.1
  generalize oneV b t.1 t.2.1 = n at h4 k1 k2 k3 k4 ⊢
  obtain ⟨l1, q1, q2, q3⟩ := row_pre (sec_pre hb) n.2.2.toNat n.1 n.2.1 [] _ h4
  generalize rdRow (secRd b) n.2.2.toNat n.1 n.2.1 [] = s at q1 q2 q3 ⊢
  rw [List.nil_append] at q1
  refine ⟨q3.1, q3.2.1, q3.2.2.1, fun hz => ?_⟩
  have hl := q2 hz
  have := q3.2.2.2 hz
  rw [this]
  unfold encT
  dsimp only
  rw [q1, show (l1.length : Int) = n.2.2 by omega]
  simp only [List.append_assoc, List.map_cons, List.map_nil, List.cons_append, List.nil_append]
theorem part_pre {b : List Int} (hb : bytesP b) (p e : Int) (bs : List Int) (h : preD b p e bs) : preD b (partRd b p e).1 (partRd b p e).2.1 (bs ++ encQ (partRd b p e).2.2) := by
  have h3 := one_pre hb (one_pre hb h)
  unfold partRd
  dsimp only
  generalize oneV b p e = c at h3 ⊢
  generalize oneV b c.1 c.2.1 = d at h3 ⊢
  have h4 := one_pre hb h3
  obtain ⟨k1, k2, k3, k4⟩ := oneV_ok hb d.2.1 h3.1 h3.2.1
  generalize oneV b d.1 d.2.1 = n at h4 k1 k2 k3 k4 ⊢
  obtain ⟨l1, q1, q2, q3⟩ := row_pre (task_pre hb) n.2.2.toNat n.1 n.2.1 [] _ h4
  generalize rdRow (taskRd b) n.2.2.toNat n.1 n.2.1 [] = s at q1 q2 q3 ⊢
  rw [List.nil_append] at q1
  refine ⟨q3.1, q3.2.1, q3.2.2.1, fun hz => ?_⟩
  have hl := q2 hz
  have := q3.2.2.2 hz
  rw [this]
  unfold encQ
  dsimp only
  rw [q1, show (l1.length : Int) = n.2.2 by omega]
  simp only [List.append_assoc, List.map_cons, List.map_nil, List.cons_append, List.nil_append]
def okR (b : List Int) (r : Config × Int × Int) : Prop := (r.2.2 = 0 → b = encC r.1 ∧ r.2.1 = 0 ∧ confP r.1) ∧ (r.2.2 ≠ 0 → r.1 = ⟨[], []⟩ ∧ 0 ≤ r.2.1 ∧ r.2.1 ≤ (b.length : Int) ∧ (r.2.2 = 8 ∨ r.2.2 = 2 ∨ r.2.2 = 1))
theorem okR_err {b : List Int} {i e : Int} (h0 : 0 ≤ i) (h1 : i ≤ (b.length : Int)) (he : e = 8 ∨ e = 2 ∨ e = 1) : okR b (⟨[], []⟩, i, e) := ⟨fun h => by simp only at h; omega, fun _ => ⟨rfl, h0, h1, he⟩⟩
theorem rest_ok {b : List Int} (hb : bytesP b) {p e : Int} (h : preD b p e [84, 75, 49]) : okR b (restRd b p e) := by
  have h1 := one_pre hb h
  unfold restRd
  dsimp only
  obtain ⟨k1, k2, k3, k4⟩ := oneV_ok hb e h.1 h.2.1
  generalize oneV b p e = n at h1 k1 k2 k3 k4 ⊢
  obtain ⟨l1, q1, q2, q3⟩ := row_pre (part_pre hb) n.2.2.toNat n.1 n.2.1 [] _ h1
  generalize rdRow (partRd b) n.2.2.toNat n.1 n.2.1 [] = s at q1 q2 q3 ⊢
  rw [List.nil_append] at q1
  have h2 := one_pre hb q3
  obtain ⟨m1, m2, m3, m4⟩ := oneV_ok hb s.2.1 q3.1 q3.2.1
  have hse : (oneV b s.1 s.2.1).2.1 = 0 → s.2.1 = 0 := fun hz => by
    unfold oneV at hz
    by_cases c : s.2.1 = 0
    · exact c
    · rw [if_neg c] at hz; exact hz
  generalize oneV b s.1 s.2.1 = m at h2 m1 m2 m3 m4 hse ⊢
  have hme : ∀ k (q : List Port), (rdRow (portRd b) k m.1 m.2.1 q).2.1 = 0 → m.2.1 = 0 := by
    intro k q hz
    by_cases c : m.2.1 = 0
    · exact c
    · cases k with
      | zero => exact hz
      | succ k => unfold rdRow at hz; rw [if_neg c] at hz; exact hz
  obtain ⟨l2, r1, r2, r3⟩ := row_pre (port_pre hb) m.2.2.toNat m.1 m.2.1 [] _ h2
  have hme := hme m.2.2.toNat []
  generalize rdRow (portRd b) m.2.2.toNat m.1 m.2.1 [] = q at r1 r2 r3 hme ⊢
  rw [List.nil_append] at r1
  unfold endRd
  by_cases he : q.2.1 = 0
  rotate_left
  · rw [if_neg he]
    refine okR_err (by omega) (Int.le_refl _) ?_
    rcases r3.2.2.1 with h | h
    · exact absurd h he
    · exact .inl h
  rw [if_pos he]
  by_cases hp : q.1 < (b.length : Int)
  · rw [if_pos hp]; exact okR_err r3.1 r3.2.1 (.inr (.inl rfl))
  rw [if_neg hp]
  by_cases hc : confP ⟨s.2.2, q.2.2⟩
  rotate_left
  · rw [if_neg hc]; exact okR_err (Int.le_refl _) (by omega) (.inr (.inr rfl))
  rw [if_pos hc]
  refine ⟨fun _ => ⟨?_, rfl, hc⟩, fun h => absurd rfl h⟩
  have hm := hme he
  have hs := hse hm
  have e1 := q2 hs
  have e2 := r2 he
  have e3 := r3.2.2.2 he
  rw [List.take_of_length_le (by have := r3.2.1; omega)] at e3
  rw [e3]
  unfold encC
  dsimp only
  rw [q1, r1, show (l1.length : Int) = n.2.2 by omega, show (l2.length : Int) = m.2.2 by omega]
  simp only [List.append_assoc, List.map_cons, List.map_nil]
theorem mag_ok {b : List Int} (hb : bytesP b) : ∀ (k : Nat), k ≤ 3 → ∀ p e, preD b p e (([84, 75, 49] : List Int).take (3 - k)) → okR b (magRd b k p e)
  | 0, _, p, e, h => rest_ok hb h
  | k + 1, hk, p, e, h => by
    have h1 := one_pre hb h
    unfold magRd
    by_cases c : (oneV b p e).2.1 = 0 ∧ (oneV b p e).2.2 ≠ ([84, 75, 49] : List Int).getD (2 - k) 0
    · rw [if_pos c]
      have hpl := h1.2.2.2 c.1
      have := congrArg List.length hpl
      rw [List.length_take, List.length_append, List.length_take] at this
      simp only [List.length_cons, List.length_nil] at this
      exact okR_err (by omega) (by omega) (.inr (.inl rfl))
    · rw [if_neg c]
      refine mag_ok hb k (by omega) _ _ ⟨h1.1, h1.2.1, h1.2.2.1, fun hz => ?_⟩
      have hx : (oneV b p e).2.2 = ([84, 75, 49] : List Int).getD (2 - k) 0 := Classical.byContradiction fun g => c ⟨hz, g⟩
      rw [h1.2.2.2 hz, hx]
      match k, hk with
      | 0, _ => rfl
      | 1, _ => rfl
      | 2, _ => rfl
theorem decode_ok {b : List Int} (hb : bytesP b) : okR b (magRd b 3 0 0) := mag_ok hb 3 (Nat.le_refl _) 0 0 ⟨Int.le_refl _, by omega, .inl rfl, fun _ => rfl⟩
/-! Bytes of a system are read as it. -/
def remD (b : List Int) (p : Int) (tl : List Int) : Prop := 0 ≤ p ∧ b.drop p.toNat = tl
theorem one_rem {b : List Int} {p x : Int} {tl : List Int} (h : remD b p (x :: tl)) : oneV b p 0 = (p + 1, 0, x) ∧ remD b (p + 1) tl := by
  obtain ⟨h0, h1⟩ := h
  have hlt : p.toNat < b.length := by
    rcases Nat.lt_or_ge p.toNat b.length with h | h
    · exact h
    · rw [List.drop_eq_nil_of_le h] at h1; cases h1
  rw [List.drop_eq_getElem_cons hlt] at h1
  injection h1 with h2 h3
  refine ⟨?_, by omega, by rw [show (p + 1).toNat = p.toNat + 1 by omega]; exact h3⟩
  unfold oneV
  rw [if_pos rfl, if_neg (by omega), List.getElem?_eq_getElem hlt, h2]; rfl
def takes {E : Type} (b : List Int) (take : Int → Int → Int × Int × E) (enc : E → List Int) (x : E) : Prop := ∀ p tl, remD b p (enc x ++ tl) → ∃ p', take p 0 = (p', 0, x) ∧ remD b p' tl
theorem row_rem {E : Type} {b : List Int} {take : Int → Int → Int × Int × E} {enc : E → List Int} : ∀ (xs : List E), (∀ x ∈ xs, takes b take enc x) → ∀ (l : List E) (p : Int) (tl : List Int), remD b p (xs.flatMap enc ++ tl) → ∃ p', rdRow take xs.length p 0 l = (p', 0, l ++ xs) ∧ remD b p' tl
  | [], _, l, p, tl, h => ⟨p, by simp [rdRow], h⟩
  | x :: xs, hx, l, p, tl, h => by
    rw [List.flatMap_cons, List.append_assoc] at h
    obtain ⟨p1, a, b'⟩ := hx x List.mem_cons_self p _ h
    obtain ⟨p2, c, d⟩ := row_rem xs (fun y hy => hx y (List.mem_cons_of_mem _ hy)) (l ++ [x]) p1 tl b'
    refine ⟨p2, ?_, d⟩
    rw [List.length_cons]
    unfold rdRow
    rw [if_pos rfl, a]
    dsimp only
    rw [c, List.append_assoc]; rfl
def byteI (n : Int) : Prop := 0 ≤ n ∧ n ≤ 255
theorem sec_rem {b : List Int} {x : Sec} (h1 : byteI x.Res) (h2 : byteI x.At) (h3 : byteI x.Len) : takes b (secRd b) encS x := by
  intro p tl h
  unfold encS at h
  simp only [List.map_cons, List.map_nil, List.cons_append, List.nil_append, u8_id h1.1 h1.2, u8_id h2.1 h2.2, u8_id h3.1 h3.2] at h
  obtain ⟨a1, a2⟩ := one_rem h
  obtain ⟨b1, b2⟩ := one_rem a2
  obtain ⟨c1, c2⟩ := one_rem b2
  refine ⟨_, ?_, c2⟩
  unfold secRd
  simp only [a1, b1, c1]
theorem port_rem {b : List Int} {x : Port} (h1 : byteI x.From) (h2 : byteI x.To) (h3 : byteI x.Cap) : takes b (portRd b) encP x := by
  intro p tl h
  unfold encP at h
  simp only [List.map_cons, List.map_nil, List.cons_append, List.nil_append, u8_id h1.1 h1.2, u8_id h2.1 h2.2, u8_id h3.1 h3.2] at h
  obtain ⟨a1, a2⟩ := one_rem h
  obtain ⟨b1, b2⟩ := one_rem a2
  obtain ⟨c1, c2⟩ := one_rem b2
  refine ⟨_, ?_, c2⟩
  unfold portRd
  simp only [a1, b1, c1]
theorem task_rem {b : List Int} {x : Task} (h : RightP x) : takes b (taskRd b) encT x := by
  intro p tl hr
  have hc := h.c
  have hl := h.len
  unfold encT at hr
  simp only [List.map_cons, List.map_nil, List.cons_append, List.nil_append, List.append_assoc] at hr
  rw [u8_id (show 0 ≤ x.C by omega) (by omega), u8_id (show 0 ≤ x.D by omega) (by omega), u8_id (show 0 ≤ x.T by omega) (by omega), u8_id (show 0 ≤ (x.Secs.length : Int) by omega) (by omega)] at hr
  obtain ⟨a1, a2⟩ := one_rem hr
  obtain ⟨b1, b2⟩ := one_rem a2
  obtain ⟨c1, c2⟩ := one_rem b2
  obtain ⟨d1, d2⟩ := one_rem c2
  obtain ⟨p', e1, e2⟩ := row_rem x.Secs (fun y hy => by
    have hs := h.2.1 y hy
    unfold secP at hs
    exact sec_rem ⟨by omega, by omega⟩ ⟨by omega, by omega⟩ ⟨by omega, by omega⟩) [] _ _ d2
  refine ⟨p', ?_, e2⟩
  unfold taskRd
  simp only [a1, b1, c1, d1, Int.toNat_natCast, e1, List.nil_append]
theorem part_rem {b : List Int} {x : Part} (h1 : faceP x.Face) (h2 : AllP x.Tasks) : takes b (partRd b) encQ x := by
  intro p tl hr
  unfold faceP at h1
  have hl := AllP_len h2
  unfold encQ at hr
  simp only [List.map_cons, List.map_nil, List.cons_append, List.nil_append, List.append_assoc] at hr
  rw [u8_id (show 0 ≤ x.Face.P by omega) (by omega), u8_id (show 0 ≤ x.Face.B by omega) (by omega), u8_id (show 0 ≤ (x.Tasks.length : Int) by omega) (by omega)] at hr
  obtain ⟨a1, a2⟩ := one_rem hr
  obtain ⟨b1, b2⟩ := one_rem a2
  obtain ⟨c1, c2⟩ := one_rem b2
  obtain ⟨p', e1, e2⟩ := row_rem x.Tasks (fun y hy => task_rem (h2.1 y hy)) [] _ _ c2
  refine ⟨p', ?_, e2⟩
  unfold partRd
  simp only [a1, b1, c1, Int.toNat_natCast, e1, List.nil_append]
theorem decode_enc {c : Config} (hc : confP c) : magRd (encC c) 3 0 0 = (c, 0, 0) := by
  have hp := hc.pl
  have hq := hc.ql
  have h0 : remD (encC c) 0 (84 :: 75 :: 49 :: (c.Parts.length : Int) :: (c.Parts.flatMap encQ ++ ((c.Ports.length : Int) :: (c.Ports.flatMap encP ++ [])))) := by
    refine ⟨Int.le_refl _, ?_⟩
    unfold encC
    simp only [List.map_cons, List.map_nil, List.append_assoc, List.cons_append, List.nil_append, List.append_nil, Int.toNat_zero, List.drop_zero]
    rw [u8_id (show 0 ≤ (c.Parts.length : Int) by omega) (by omega), u8_id (show 0 ≤ (c.Ports.length : Int) by omega) (by omega)]
  obtain ⟨a1, a2⟩ := one_rem h0
  obtain ⟨b1, b2⟩ := one_rem a2
  obtain ⟨c1, c2⟩ := one_rem b2
  obtain ⟨d1, d2⟩ := one_rem c2
  obtain ⟨p1, e1, e2⟩ := row_rem (take := partRd (encC c)) c.Parts (fun x hx => part_rem (hc.ps x hx).1 (hc.ps x hx).2) [] _ _ d2
  obtain ⟨f1, f2⟩ := one_rem e2
  obtain ⟨p2, g1, g2⟩ := row_rem (take := portRd (encC c)) c.Ports (fun x hx => by
    have hs := hc.qs x hx
    unfold portP at hs
    exact port_rem ⟨by omega, by omega⟩ ⟨by omega, by omega⟩ ⟨by omega, by omega⟩) [] _ _ f2
  have hend : ¬ p2 < ((encC c).length : Int) := fun h => by
    have h2 := g2.2
    have hlt : p2.toNat < (encC c).length := by have := g2.1; omega
    rw [List.drop_eq_getElem_cons hlt] at h2
    cases h2
  have hrest : restRd (encC c) (0 + 1 + 1 + 1) 0 = (c, 0, 0) := by
    unfold restRd
    simp only [d1, Int.toNat_natCast, e1, List.nil_append, f1, g1]
    unfold endRd
    simp only [if_true]
    rw [if_neg hend, if_pos hc]
  unfold magRd
  simp only [a1]
  rw [if_neg (fun h => h.2 rfl)]
  unfold magRd
  simp only [b1]
  rw [if_neg (fun h => h.2 rfl)]
  unfold magRd
  simp only [c1]
  rw [if_neg (fun h => h.2 rfl)]
  unfold magRd
  exact hrest
end Go.Proofs.YtfnaclhllopoeaaGreat
namespace Go.Proofs.YtfnaclhllopoeaaGreat
open Go Go.VC
noncomputable def law19_Great (a0 : Config) : Option Bool :=
  lp (fun nx1 (v1 : Int) => fk (decide (v1 < (a0.Parts.length : Int))) (ix a0.Parts v1 fun x2 => bnd (law05_Great x2.Tasks) fun x3 => fk x3 (some true) (nx1 (wr (v1 + (1 : Int))))) (fk (decide ((a0.Parts.length : Int) > (20 : Int))) (some true) (some (decide ((a0.Ports.length : Int) > (20 : Int)))))) FU (0 : Int)
theorem law19_Great_w (a0 : Config) (r : Bool) (h : law19_Great a0 = some r) : Go.VC.Spec Tryz.prog 4 [.agg (Config.enc a0)] (fun y => y = E_Bool r) := by
  refine Go.VC.Spec.of_xc (args := [.agg (Config.enc a0)]) (fn := Tryz.f4) tab ⟨[(0, [1]), (1, [1, 3]), (2, [1, 3, 8]), (3, [1, 3]), (4, [1, 3, 17]), (5, [2]), (6, [2])], [], [], []⟩ 28 [.tmp 2] rfl rfl rfl rfl rfl rfl ?_
  conv => whnf
  refine lpS (fun v1 => ⟨[(1, .l (.ptr 2 0)), (3, .l (.d (.int .i64 v1)))], 28, [], [(2, [.d (.sl (a0.Parts.map Part.enc)), .d (.sl (a0.Ports.map Port.enc))])], []⟩) h (Weak.refl _) (fun _ nx1 hn1 v1 h => ?_)
  conv => whnf
  refine lenS a0.Parts Part.enc rfl ?_
  conv => whnf
  refine fkS h (fun h => ?_) (fun h => ?_)
  · conv => whnf
    refine ixS (enc := Part.enc) h rfl (fun _ => rfl) (fun x2 h => ?_)
    conv => whnf
    refine caS (E := E_Bool) h (law05_Great_w x2.Tasks) rfl (fun _ => rfl) (fun x3 h => ?_)
    conv => whnf
    refine fkS h (fun h => ?_) (fun h => ?_)
    · conv => whnf
      exact rt (E := E_Bool) h rfl
    conv => whnf
    exact leS hn1 h (Weak.refl _)
  conv => whnf
  refine lenS a0.Parts Part.enc rfl ?_
  conv => whnf
  refine fkS h (fun h => ?_) (fun h => ?_)
  · conv => whnf
    exact rt (E := E_Bool) h rfl
  conv => whnf
  refine lenS a0.Ports Port.enc rfl ?_
  conv => whnf
  exact rt (E := E_Bool) h rfl

end Go.Proofs.YtfnaclhllopoeaaGreat
namespace Go.Proofs.YtfnaclhllopoeaaGreat
open Go Go.VC
noncomputable def ref19_Same (a0 : Config) (a1 : Config) : Option Bool :=
  jn (fun (w1 : Bool) => fk w1 (some false) (lp (fun nx2 (v2 : Int) => fk (decide (v2 < (a0.Parts.length : Int))) (jn (fun (w3 : Bool) => fk w3 (some false) (nx2 (wr (v2 + (1 : Int))))) (fun k3 => ix a0.Parts v2 fun x4 => ix a1.Parts v2 fun x5 => fk (!(eqI [.i .i64 x4.Face.P, .i .i64 x4.Face.B] [.i .i64 x5.Face.P, .i .i64 x5.Face.B])) (k3 true) (ix a0.Parts v2 fun x6 => ix a1.Parts v2 fun x7 => bnd (ref05_SameAll x6.Tasks x7.Tasks) fun x8 => k3 (!x8)))) (lp (fun nx9 (v9 : Int) => fk (decide (v9 < (a0.Ports.length : Int))) (ix a0.Ports v9 fun x10 => ix a1.Ports v9 fun x11 => fk (!(eqI [.i .i64 x10.From, .i .i64 x10.To, .i .i64 x10.Cap] [.i .i64 x11.From, .i .i64 x11.To, .i .i64 x11.Cap])) (some false) (nx9 (wr (v9 + (1 : Int))))) (some true)) FU (0 : Int))) FU (0 : Int))) (fun k1 => fk (!decide ((a0.Parts.length : Int) = (a1.Parts.length : Int))) (k1 true) (k1 (!decide ((a0.Ports.length : Int) = (a1.Ports.length : Int)))))
theorem ref19_Same_w (a0 : Config) (a1 : Config) (r : Bool) (h : ref19_Same a0 a1 = some r) : Go.VC.Spec Tryz.prog 8 [.agg (Config.enc a0), .agg (Config.enc a1)] (fun y => y = E_Bool r) := by
  refine Go.VC.Spec.of_xc (args := [.agg (Config.enc a0), .agg (Config.enc a1)]) (fn := Tryz.f8) tab ⟨[(0, [2, 3]), (1, [2, 3, 22]), (2, [4]), (3, [2, 3, 5]), (4, [2, 3, 5, 27]), (5, [2, 3, 5]), (6, [2, 3, 5, 58]), (7, [4]), (8, [2, 3, 6]), (9, [2, 3, 6, 63]), (10, [2, 3, 6]), (11, [2, 3, 6, 76]), (12, [4]), (13, [4])], [], [100022, 100058], []⟩ 77 [.tmp 4] rfl rfl rfl rfl rfl rfl ?_
  conv => whnf
  refine jnS (fun w1 => ⟨[(2, .l (.ptr 3 0)), (3, .l (.ptr 4 0)), (22, .l (.d (.bool w1)))], 77, [], [(3, [.d (.sl (a0.Parts.map Part.enc)), .d (.sl (a0.Ports.map Port.enc))]), (4, [.d (.sl (a1.Parts.map Part.enc)), .d (.sl (a1.Ports.map Port.enc))])], []⟩) h (fun k1 hk1 h => ?_) (fun w1 h => ?_)
  · conv => whnf
    refine lenS a0.Parts Part.enc rfl ?_
    conv => whnf
    refine lenS a1.Parts Part.enc rfl ?_
    conv => whnf
    refine fkS h (fun h => ?_) (fun h => ?_)
    · conv => whnf
      exact jeS hk1 h (Weak.refl _)
    conv => whnf
    refine lenS a0.Ports Port.enc rfl ?_
    conv => whnf
    refine lenS a1.Ports Port.enc rfl ?_
    conv => whnf
    exact jeS hk1 h (Weak.refl _)
  conv => whnf
  refine fkS h (fun h => ?_) (fun h => ?_)
  · conv => whnf
    exact rt (E := E_Bool) h rfl
  conv => whnf
  refine lpS (fun v2 => ⟨[(2, .l (.ptr 3 0)), (3, .l (.ptr 4 0)), (5, .l (.d (.int .i64 v2)))], 77, [], [(3, [.d (.sl (a0.Parts.map Part.enc)), .d (.sl (a0.Ports.map Port.enc))]), (4, [.d (.sl (a1.Parts.map Part.enc)), .d (.sl (a1.Ports.map Port.enc))])], []⟩) h (Weak.refl _) (fun _ nx2 hn2 v2 h => ?_)
  conv => whnf
  refine lenS a0.Parts Part.enc rfl ?_
  conv => whnf
  refine fkS h (fun h => ?_) (fun h => ?_)
  · conv => whnf
    refine jnS (fun w3 => ⟨[(2, .l (.ptr 3 0)), (3, .l (.ptr 4 0)), (5, .l (.d (.int .i64 v2))), (58, .l (.d (.bool w3)))], 77, [], [(3, [.d (.sl (a0.Parts.map Part.enc)), .d (.sl (a0.Ports.map Port.enc))]), (4, [.d (.sl (a1.Parts.map Part.enc)), .d (.sl (a1.Ports.map Port.enc))])], []⟩) h (fun k3 hk3 h => ?_) (fun w3 h => ?_)
    · conv => whnf
      refine ⟨29, ?_⟩
      conv => whnf
      refine ixS (enc := Part.enc) h rfl (fun _ => rfl) (fun x4 h => ?_)
      conv => whnf
      refine ixS (enc := Part.enc) h rfl (fun _ => rfl) (fun x5 h => ?_)
      conv => whnf
      refine fkS h (fun h => ?_) (fun h => ?_)
      · conv => whnf
        refine drS (by kernel_rfl) ?_
        conv => whnf
        exact jeS hk3 h (Weak.refl _)
      conv => whnf
      refine ixS (enc := Part.enc) h rfl (fun _ => rfl) (fun x6 h => ?_)
      conv => whnf
      refine ixS (enc := Part.enc) h rfl (fun _ => rfl) (fun x7 h => ?_)
      conv => whnf
      refine daS (E := E_Bool) h (ref05_SameAll_w x6.Tasks x7.Tasks) (fun _ => rfl) (fun x8 h => ?_)
      conv => whnf
      refine drS (by kernel_rfl) ?_
      conv => whnf
      exact jeS hk3 h (Weak.refl _)
    conv => whnf
    refine fkS h (fun h => ?_) (fun h => ?_)
    · conv => whnf
      exact rt (E := E_Bool) h rfl
    conv => whnf
    exact leS hn2 h (Weak.refl _)
  conv => whnf
  refine lpS (fun v9 => ⟨[(2, .l (.ptr 3 0)), (3, .l (.ptr 4 0)), (6, .l (.d (.int .i64 v9)))], 77, [], [(3, [.d (.sl (a0.Parts.map Part.enc)), .d (.sl (a0.Ports.map Port.enc))]), (4, [.d (.sl (a1.Parts.map Part.enc)), .d (.sl (a1.Ports.map Port.enc))])], []⟩) h (Weak.refl _) (fun _ nx9 hn9 v9 h => ?_)
  conv => whnf
  refine lenS a0.Ports Port.enc rfl ?_
  conv => whnf
  refine fkS h (fun h => ?_) (fun h => ?_)
  · conv => whnf
    refine ⟨10, ?_⟩
    conv => whnf
    refine ixS (enc := Port.enc) h rfl (fun _ => rfl) (fun x10 h => ?_)
    conv => whnf
    refine ixS (enc := Port.enc) h rfl (fun _ => rfl) (fun x11 h => ?_)
    conv => whnf
    refine drS (by kernel_rfl) ?_
    conv => whnf
    refine fkS h (fun h => ?_) (fun h => ?_)
    · conv => whnf
      exact rt (E := E_Bool) h rfl
    conv => whnf
    exact leS hn9 h (Weak.refl _)
  conv => whnf
  exact rt (E := E_Bool) h rfl

end Go.Proofs.YtfnaclhllopoeaaGreat
namespace Go.Proofs.YtfnaclhllopoeaaGreat
open Go Go.VC
theorem great19_ex (c : Config) (hp : c.Parts.length ≤ 4611686018427387904) (ht : ∀ p ∈ c.Parts, p.Tasks.length ≤ 4611686018427387904) : ∃ b, law19_Great c = some b ∧ (b = false → c.Parts.length ≤ 20 ∧ c.Ports.length ≤ 20) := by
  unfold law19_Great
  refine lp_up_ex c.Parts.length (by unfold FU; omega) (fun _ => True) (fun b => b = false → c.Parts.length ≤ 20 ∧ c.Ports.length ≤ 20) trivial ?_
  intro nx k hk _ hnx
  rw [lt_nat]
  by_cases hk' : k < c.Parts.length
  · rw [decide_eq_true hk', fk_t, ix_lt hk', bnd_eq (law05_Great_eq _ (ht _ (List.getElem_mem hk'))), wr_succ k _ hk' hp]
    by_cases hg : GreatP c.Parts[k].Tasks
    · rw [decide_eq_true hg, fk_t]; exact ⟨true, rfl, fun h => by cases h⟩
    · rw [decide_eq_false hg, fk_f]; exact hnx hk' trivial
  · rw [decide_eq_false hk', fk_f]
    by_cases h1 : (c.Parts.length : Int) > 20
    · rw [decide_eq_true h1, fk_t]; exact ⟨true, rfl, fun h => by cases h⟩
    · rw [decide_eq_false h1, fk_f]
      exact ⟨_, rfl, fun h => by rw [decide_eq_false_iff_not] at h; omega⟩
theorem eqI_rfl' (l : List SC) : eqI l l = true := decide_eq_true rfl
theorem same05_refl (t : Task) (hl : t.Secs.length ≤ 4611686018427387904) : ref05_Same t t = some true := by rw [ref05_Same_eq t t hl, decide_eq_true rfl]
theorem sameAll_refl (l : List Task) (hl : l.length ≤ 4611686018427387904) (hs : ∀ t ∈ l, t.Secs.length ≤ 4611686018427387904) : ref05_SameAll l l = some true := by
  unfold ref05_SameAll
  rw [decide_eq_true rfl, Bool.not_true, fk_f]
  refine lp_up l.length (by unfold FU; omega) (fun _ => True) trivial ?_
  intro nx k hk _ hnx
  rw [lt_nat]
  by_cases c : k < l.length
  · rw [decide_eq_true c, fk_t, ix_lt c, ix_lt c, bnd_eq (same05_refl _ (hs _ (List.getElem_mem c))), Bool.not_true, fk_f, wr_succ k _ c hl]
    exact hnx c trivial
  · rw [decide_eq_false c, fk_f]
theorem same19_refl (c : Config) (hp : c.Parts.length ≤ 1000) (hq : c.Ports.length ≤ 1000) (ht : ∀ p ∈ c.Parts, p.Tasks.length ≤ 4611686018427387904 ∧ ∀ t ∈ p.Tasks, t.Secs.length ≤ 4611686018427387904) : ref19_Same c c = some true := by
  unfold ref19_Same
  refine jn_to false (fun k => by rw [decide_eq_true rfl, Bool.not_true, fk_f, decide_eq_true rfl, Bool.not_true]) ?_
  rw [fk_f]
  refine lp_up c.Parts.length (by unfold FU; omega) (fun _ => True) trivial ?_
  intro nx k hk _ hnx
  rw [lt_nat]
  by_cases hk' : k < c.Parts.length
  · have hm := ht _ (List.getElem_mem hk')
    rw [decide_eq_true hk', fk_t, wr_succ k _ hk' (by omega)]
    refine jn_to false (fun k3 => ?_) (by rw [fk_f]; exact hnx hk' trivial)
    rw [ix_lt hk', ix_lt hk', eqI_rfl', Bool.not_true, fk_f, ix_lt hk', ix_lt hk', bnd_eq (sameAll_refl _ hm.1 hm.2), Bool.not_true]
  · rw [decide_eq_false hk', fk_f]
    clear hnx nx hk hk' k
    refine lp_up c.Ports.length (by unfold FU; omega) (fun _ => True) trivial ?_
    intro nx k hk _ hnx
    rw [lt_nat]
    by_cases hk' : k < c.Ports.length
    · rw [decide_eq_true hk', fk_t, ix_lt hk', ix_lt hk', eqI_rfl', Bool.not_true, fk_f, wr_succ k _ hk' (by omega)]
      exact hnx hk' trivial
    · rw [decide_eq_false hk', fk_f]
end Go.Proofs.YtfnaclhllopoeaaGreat
namespace Go.Proofs.YtfnaclhllopoeaaGreat
open Go Go.VC
noncomputable def table_Make (a0 : List Face) : Option (TableTable × Int) :=
  bnd (synth_Lay a0) fun x1 => fk (!decide (x1.2 = (0 : Int))) (some (⟨(0 : Int), []⟩, x1.2)) (bnd (table_Of x1.1) fun x2 => some (x2.1, x2.2))
theorem table_Make_w (a0 : List Face) (r : TableTable × Int) (h : table_Make a0 = some r) : Go.VC.Spec Tryz.prog 29 [.d (.sl (a0.map Face.enc))] (fun y => y = E_TableTable_Int r) := by
  refine Go.VC.Spec.of_xc (args := [.d (.sl (a0.map Face.enc))]) (fn := Tryz.f29) tab ⟨[(0, [0, 2]), (1, [2, 4, 5]), (2, [2, 4, 5, 12]), (3, [2, 3]), (4, [2, 3])], [], [], []⟩ 19 [.cell 2 75, .tmp 3] rfl rfl rfl rfl rfl rfl ?_
  conv => whnf
  refine ccS (E := E_ListInt_Int) h (synth_Lay_w a0) rfl rfl (fun x1 h => ?_)
  conv => whnf
  refine fkS h (fun h => ?_) (fun h => ?_)
  · conv => whnf
    exact rt (E := E_TableTable_Int) h rfl
  conv => whnf
  refine ccS (E := E_TableTable_Int) h (table_Of_w x1.1) rfl rfl (fun x2 h => ?_)
  conv => whnf
  exact rt (E := E_TableTable_Int) h rfl

end Go.Proofs.YtfnaclhllopoeaaGreat
namespace Go.Proofs.YtfnaclhllopoeaaGreat
open Go Go.VC
noncomputable def kernel_Boot (a0 : Config) : Option (KernelState × Int) :=
  bnd (image_Right a0) fun x1 => fk (!x1) (some (⟨⟨(0 : Int), []⟩, [], [], [], (0 : Int)⟩, (1 : Int))) (lp (fun nx2 (v2 : (List Face) × Int) => fk (decide (v2.2 < (a0.Parts.length : Int))) (ix a0.Parts v2.2 fun x3 => ck (decide ((v2.1.length + ([x3.Face] : List Face).length) * 16 ≤ 140737488355328)) (nx2 (v2.1 ++ ([x3.Face] : List Face), (wr (v2.2 + (1 : Int)))))) (bnd (table_Make v2.1) fun x4 => fk (!decide (x4.2 = (0 : Int))) (some (⟨⟨(0 : Int), []⟩, [], [], [], (0 : Int)⟩, x4.2)) (lp (fun nx5 (v5 : (List PartState) × Int) => fk (decide (v5.2 < (a0.Parts.length : Int))) (ix a0.Parts v5.2 fun x6 => bnd (admit_Boot x6) fun x7 => fk (!decide (x7.2 = (0 : Int))) (some (⟨⟨(0 : Int), []⟩, [], [], [], (0 : Int)⟩, x7.2)) (ck (decide ((v5.1.length + ([x7.1] : List PartState).length) * 120 ≤ 140737488355328)) (nx5 (v5.1 ++ ([x7.1] : List PartState), (wr (v5.2 + (1 : Int))))))) (bnd (port_Open a0.Ports) fun x8 => some (⟨x4.1, v2.1, v5.1, x8.1, (0 : Int)⟩, (0 : Int)))) FU ([], (0 : Int))))) FU ([], (0 : Int)))
theorem kernel_Boot_w (a0 : Config) (r : KernelState × Int) (h : kernel_Boot a0 = some r) : Go.VC.Spec Tryz.prog 19 [.agg (Config.enc a0)] (fun y => y = E_KernelState_Int r) := by
  refine Go.VC.Spec.of_xc (args := [.agg (Config.enc a0)]) (fn := Tryz.f19) tab ⟨[(0, [1, 2]), (1, [1, 2, 14]), (2, [2, 3]), (3, [1, 2, 4]), (4, [1, 2, 4]), (5, [1, 2, 4, 17, 18, 19]), (6, [1, 2, 4, 17, 18, 19, 20]), (7, [1, 2, 4, 7, 17, 18, 19]), (8, [1, 2, 4, 17, 18, 19]), (9, [1, 2, 4, 17, 18, 19]), (10, [1, 2, 4, 5]), (11, [1, 2, 4, 5, 39]), (12, [2, 3]), (13, [1, 2, 4, 43, 44, 45]), (14, [1, 2, 4, 43, 44, 45, 46]), (15, [1, 2, 4, 9, 43, 44, 45]), (16, [1, 2, 4, 10, 11, 43, 44, 45]), (17, [1, 2, 4, 10, 11, 43, 44, 45, 55]), (18, [2, 3]), (19, [1, 2, 4, 43, 44, 45]), (20, [1, 2, 4, 43, 44, 45]), (21, [2, 4]), (22, [2, 3])], [], [], []⟩ 73 [.cell 2 80, .tmp 3] rfl rfl rfl rfl rfl rfl ?_
  conv => whnf
  refine caS (E := E_Bool) h (image_Right_w a0) rfl (fun _ => rfl) (fun x1 h => ?_)
  conv => whnf
  refine fkS h (fun h => ?_) (fun h => ?_)
  · conv => whnf
    exact rt (E := E_KernelState_Int) h rfl
  conv => whnf
  refine lenS a0.Parts Part.enc rfl ?_
  conv => whnf
  refine lpS (fun v2 => ⟨[(1, .l (.ptr 2 0)), (2, .l (.ptr 3 0)), (4, .l (.ptr 5 0)), (17, .l (.d (.sl (a0.Parts.map Part.enc)))), (18, .l (.d (.int .i64 (a0.Parts.length : Int)))), (19, .l (.d (.int .i64 v2.2)))], 73, [], [(2, [.d (.sl (a0.Parts.map Part.enc)), .d (.sl (a0.Ports.map Port.enc))]), (3, [.d (.int .i64 (0 : Int)), .nil, .nil, .nil, .nil, .d (.int .i64 (0 : Int))]), (5, [.d (.int .i64 (0 : Int)), .nil, .own 50502, .nil, .nil, .d (.int .i64 (0 : Int))])], [(50502, 38, 2, v2.1.map Face.enc)]⟩) h (Weak.trans (Weak.nilBO _ 5 2 50502 38 2 _ rfl rfl) (Weak.refl _)) (fun _ nx2 hn2 v2 h => ?_)
  conv => whnf
  refine fkS h (fun h => ?_) (fun h => ?_)
  · conv => whnf
    refine ixS (enc := Part.enc) h rfl (fun _ => rfl) (fun x3 h => ?_)
    conv => whnf
    refine liS ([x3.Face] : List Face) Face.enc rfl rfl ?_
    conv => whnf
    refine apS (enc := Face.enc) (l1 := v2.1) (l2 := ([x3.Face] : List Face)) h rfl rfl (fun _ => rfl) (fun h => ?_)
    conv => whnf
    refine leX hn2 h ?_
    conv => whnf
    refine WkF.step (Weak.rekey _ 29 50502 rfl) ?_
    conv => whnf
    exact WkF.refl _
  conv => whnf
  refine iceS 50502 ?_
  conv => whnf
  refine ccS (E := E_TableTable_Int) h (table_Make_w v2.1) rfl rfl (fun x4 h => ?_)
  conv => whnf
  refine fkS h (fun h => ?_) (fun h => ?_)
  · conv => whnf
    exact rt (E := E_KernelState_Int) h rfl
  conv => whnf
  refine lenS a0.Parts Part.enc rfl ?_
  conv => whnf
  refine lpS (fun v5 => ⟨[(1, .l (.ptr 2 0)), (2, .l (.ptr 3 0)), (4, .l (.ptr 5 0)), (43, .l (.d (.sl (a0.Parts.map Part.enc)))), (44, .l (.d (.int .i64 (a0.Parts.length : Int)))), (45, .l (.d (.int .i64 v5.2)))], 73, [], [(2, [.d (.sl (a0.Parts.map Part.enc)), .d (.sl (a0.Ports.map Port.enc))]), (3, [.d (.int .i64 (0 : Int)), .nil, .nil, .nil, .nil, .d (.int .i64 (0 : Int))]), (5, [.d (.int .i64 x4.1.Frame), .d (.sl (x4.1.Windows.map Window.enc)), .d (.sl (v2.1.map Face.enc)), .own 50503, .nil, .d (.int .i64 (0 : Int))])], [(50503, 93, 5, v5.1.map PartState.enc)]⟩) h (Weak.trans (Weak.nilBO _ 5 3 50503 93 5 _ rfl rfl) (Weak.refl _)) (fun _ nx5 hn5 v5 h => ?_)
  conv => whnf
  refine fkS h (fun h => ?_) (fun h => ?_)
  · conv => whnf
    refine ixS (enc := Part.enc) h rfl (fun _ => rfl) (fun x6 h => ?_)
    conv => whnf
    refine ccS (E := E_PartState_Int) h (admit_Boot_w x6) rfl rfl (fun x7 h => ?_)
    conv => whnf
    refine fkS h (fun h => ?_) (fun h => ?_)
    · conv => whnf
      exact rt (E := E_KernelState_Int) h rfl
    conv => whnf
    refine liS ([x7.1] : List PartState) PartState.enc rfl rfl ?_
    conv => whnf
    refine apS (enc := PartState.enc) (l1 := v5.1) (l2 := ([x7.1] : List PartState)) h rfl rfl (fun _ => rfl) (fun h => ?_)
    conv => whnf
    refine leX hn5 h ?_
    conv => whnf
    refine WkF.step (Weak.rekey _ 63 50503 rfl) ?_
    conv => whnf
    exact WkF.refl _
  conv => whnf
  refine ccS (E := E_ListPortLine_Int) h (port_Open_w a0.Ports) rfl rfl (fun x8 h => ?_)
  conv => whnf
  exact rt (E := E_KernelState_Int) h rfl

end Go.Proofs.YtfnaclhllopoeaaGreat
namespace Go.Proofs.YtfnaclhllopoeaaGreat
open Go Go.VC
noncomputable def world_may (a0 : List (List KernelCmd)) : Option Bool :=
  lp (fun nx1 (v1 : Int) => fk (decide (v1 < (a0.length : Int))) (ix a0 v1 fun x2 => fk (decide ((x2.length : Int) > (100 : Int))) (some false) (nx1 (wr (v1 + (1 : Int))))) (some (decide ((a0.length : Int) ≤ (3000 : Int))))) FU (0 : Int)
theorem world_may_w (a0 : List (List KernelCmd)) (r : Bool) (h : world_may a0 = some r) : Go.VC.Spec Tryz.prog 20 [.d (.sl (a0.map (eL KernelCmd.enc)))] (fun y => y = E_Bool r) := by
  refine Go.VC.Spec.of_xc (args := [.d (.sl (a0.map (eL KernelCmd.enc)))]) (fn := Tryz.f20) tab ⟨[(0, [0]), (1, [0, 5, 6, 7]), (2, [0, 5, 6, 7, 8]), (3, [0, 4, 5, 6, 7]), (4, [0, 5, 6, 7, 13]), (5, [2]), (6, [0, 5, 6, 7]), (7, [2])], [], [], []⟩ 18 [.tmp 2] rfl rfl rfl rfl rfl rfl ?_
  conv => whnf
  refine lenS a0 (eL KernelCmd.enc) rfl ?_
  conv => whnf
  refine lpS (fun v1 => ⟨[(0, .l (.d (.sl (a0.map (eL KernelCmd.enc))))), (5, .l (.d (.sl (a0.map (eL KernelCmd.enc))))), (6, .l (.d (.int .i64 (a0.length : Int)))), (7, .l (.d (.int .i64 v1)))], 18, [], [], []⟩) h (Weak.refl _) (fun _ nx1 hn1 v1 h => ?_)
  conv => whnf
  refine fkS h (fun h => ?_) (fun h => ?_)
  · conv => whnf
    refine ixS (enc := (eL KernelCmd.enc)) h rfl (fun _ => rfl) (fun x2 h => ?_)
    conv => whnf
    refine lenS x2 KernelCmd.enc rfl ?_
    conv => whnf
    refine fkS h (fun h => ?_) (fun h => ?_)
    · conv => whnf
      exact rt (E := E_Bool) h rfl
    conv => whnf
    exact leS hn1 h (Weak.refl _)
  conv => whnf
  refine lenS a0 (eL KernelCmd.enc) rfl ?_
  conv => whnf
  exact rt (E := E_Bool) h rfl

end Go.Proofs.YtfnaclhllopoeaaGreat
namespace Go.Proofs.YtfnaclhllopoeaaGreat
open Go Go.VC
noncomputable def kernel_Right (a0 : KernelState) : Option Bool :=
  lp (fun nx1 (v1 : Int) => fk (decide (v1 < (a0.Parts.length : Int))) (ix a0.Parts v1 fun x2 => bnd (part_Right x2) fun x3 => fk (!x3) (some false) (nx1 (wr (v1 + (1 : Int))))) (bnd (table_Right a0.Table) fun x4 => fk x4 (fk (decide ((a0.Faces.length : Int) = (a0.Parts.length : Int))) (fk (decide ((a0.Parts.length : Int) ≤ (4 : Int))) (bnd (port_Right a0.Lines) fun x5 => fk x5 (fk (decide (a0.Now ≥ (0 : Int))) (some (decide (a0.Now ≤ (4611686018427387703 : Int)))) (some false)) (some false)) (some false)) (some false)) (some false))) FU (0 : Int)
theorem kernel_Right_w (a0 : KernelState) (r : Bool) (h : kernel_Right a0 = some r) : Go.VC.Spec Tryz.prog 31 [.agg (KernelState.enc a0)] (fun y => y = E_Bool r) := by
  refine Go.VC.Spec.of_xc (args := [.agg (KernelState.enc a0)]) (fn := Tryz.f31) tab ⟨[(0, [1]), (1, [1, 6, 7, 8]), (2, [1, 6, 7, 8, 9]), (3, [1, 4, 6, 7, 8]), (4, [1, 6, 7, 8, 14]), (5, [2]), (6, [1, 6, 7, 8]), (7, [2])], [], [], []⟩ 49 [.tmp 2] rfl rfl rfl rfl rfl rfl ?_
  conv => whnf
  refine lenS a0.Parts PartState.enc rfl ?_
  conv => whnf
  refine lpS (fun v1 => ⟨[(1, .l (.ptr 2 0)), (6, .l (.d (.sl (a0.Parts.map PartState.enc)))), (7, .l (.d (.int .i64 (a0.Parts.length : Int)))), (8, .l (.d (.int .i64 v1)))], 49, [], [(2, [.d (.int .i64 a0.Table.Frame), .d (.sl (a0.Table.Windows.map Window.enc)), .d (.sl (a0.Faces.map Face.enc)), .d (.sl (a0.Parts.map PartState.enc)), .d (.sl (a0.Lines.map PortLine.enc)), .d (.int .i64 a0.Now)])], []⟩) h (Weak.refl _) (fun _ nx1 hn1 v1 h => ?_)
  conv => whnf
  refine fkS h (fun h => ?_) (fun h => ?_)
  · conv => whnf
    refine ixS (enc := PartState.enc) h rfl (fun _ => rfl) (fun x2 h => ?_)
    conv => whnf
    refine caS (E := E_Bool) h (part_Right_w x2) rfl (fun _ => rfl) (fun x3 h => ?_)
    conv => whnf
    refine fkS h (fun h => ?_) (fun h => ?_)
    · conv => whnf
      exact rt (E := E_Bool) h rfl
    conv => whnf
    exact leS hn1 h (Weak.refl _)
  conv => whnf
  refine caS (E := E_Bool) h (table_Right_w a0.Table) rfl (fun _ => rfl) (fun x4 h => ?_)
  conv => whnf
  refine fkS h (fun h => ?_) (fun h => ?_)
  · conv => whnf
    refine lenS a0.Faces Face.enc rfl ?_
    conv => whnf
    refine lenS a0.Parts PartState.enc rfl ?_
    conv => whnf
    refine fkS h (fun h => ?_) (fun h => ?_)
    · conv => whnf
      refine lenS a0.Parts PartState.enc rfl ?_
      conv => whnf
      refine fkS h (fun h => ?_) (fun h => ?_)
      · conv => whnf
        refine caS (E := E_Bool) h (port_Right_w a0.Lines) rfl (fun _ => rfl) (fun x5 h => ?_)
        conv => whnf
        refine fkS h (fun h => ?_) (fun h => ?_)
        · conv => whnf
          refine fkS h (fun h => ?_) (fun h => ?_)
          · conv => whnf
            exact rt (E := E_Bool) h rfl
          conv => whnf
          exact rt (E := E_Bool) h rfl
        conv => whnf
        exact rt (E := E_Bool) h rfl
      conv => whnf
      exact rt (E := E_Bool) h rfl
    conv => whnf
    exact rt (E := E_Bool) h rfl
  conv => whnf
  exact rt (E := E_Bool) h rfl

end Go.Proofs.YtfnaclhllopoeaaGreat
namespace Go.Proofs.YtfnaclhllopoeaaGreat
open Go Go.VC
def E_fn_kernel_on : Unit → List CV := fun r => [.d (.fn 89 [[.fn 52 []]])]
noncomputable def kernel_on  : Option Unit :=
  some ()
theorem kernel_on_w  (r : Unit) (h : kernel_on = some r) : Go.VC.Spec Tryz.prog 51 [.d (.fn 52 [])] (fun y => y = E_fn_kernel_on r) := by
  refine Go.VC.Spec.of_xc (args := [.d (.fn 52 [])]) (fn := Tryz.f51) tab ⟨[(0, [1]), (1, [2])], [], [], []⟩ 4 [.tmp 2] rfl rfl rfl rfl rfl rfl ?_
  conv => whnf
  exact rt (E := E_fn_kernel_on) h rfl

end Go.Proofs.YtfnaclhllopoeaaGreat
namespace Go.Proofs.YtfnaclhllopoeaaGreat
open Go Go.VC
def E_fn_kernel_on_i1 : Unit → List CV := fun r => [.d (.fn 89 [[.fn 54 []]])]
noncomputable def kernel_on_i1  : Option Unit :=
  some ()
theorem kernel_on_i1_w  (r : Unit) (h : kernel_on_i1 = some r) : Go.VC.Spec Tryz.prog 51 [.d (.fn 54 [])] (fun y => y = E_fn_kernel_on_i1 r) := by
  refine Go.VC.Spec.of_xc (args := [.d (.fn 54 [])]) (fn := Tryz.f51) tab ⟨[(0, [1]), (1, [2])], [], [], []⟩ 4 [.tmp 2] rfl rfl rfl rfl rfl rfl ?_
  conv => whnf
  exact rt (E := E_fn_kernel_on_i1) h rfl

end Go.Proofs.YtfnaclhllopoeaaGreat
namespace Go.Proofs.YtfnaclhllopoeaaGreat
open Go Go.VC
def E_fn_kernel_on_2 : Unit → List CV := fun r => [.d (.fn 89 [[.fn 56 []]])]
noncomputable def kernel_on_2  : Option Unit :=
  some ()
theorem kernel_on_2_w  (r : Unit) (h : kernel_on_2 = some r) : Go.VC.Spec Tryz.prog 51 [.d (.fn 56 [])] (fun y => y = E_fn_kernel_on_2 r) := by
  refine Go.VC.Spec.of_xc (args := [.d (.fn 56 [])]) (fn := Tryz.f51) tab ⟨[(0, [1]), (1, [2])], [], [], []⟩ 4 [.tmp 2] rfl rfl rfl rfl rfl rfl ?_
  conv => whnf
  exact rt (E := E_fn_kernel_on_2) h rfl

end Go.Proofs.YtfnaclhllopoeaaGreat
namespace Go.Proofs.YtfnaclhllopoeaaGreat
open Go Go.VC
def E_fn_kernel_on_3 : Unit → List CV := fun r => [.d (.fn 89 [[.fn 58 []]])]
noncomputable def kernel_on_3  : Option Unit :=
  some ()
theorem kernel_on_3_w  (r : Unit) (h : kernel_on_3 = some r) : Go.VC.Spec Tryz.prog 51 [.d (.fn 58 [])] (fun y => y = E_fn_kernel_on_3 r) := by
  refine Go.VC.Spec.of_xc (args := [.d (.fn 58 [])]) (fn := Tryz.f51) tab ⟨[(0, [1]), (1, [2])], [], [], []⟩ 4 [.tmp 2] rfl rfl rfl rfl rfl rfl ?_
  conv => whnf
  exact rt (E := E_fn_kernel_on_3) h rfl

end Go.Proofs.YtfnaclhllopoeaaGreat
namespace Go.Proofs.YtfnaclhllopoeaaGreat
open Go Go.VC
def E_fn_kernel_kinds : Unit → List CV := fun r => [.d (.mp [[.int .i64 (1 : Int), .fn 89 [[.fn 52 []]]], [.int .i64 (4 : Int), .fn 89 [[.fn 54 []]]], [.int .i64 (5 : Int), .fn 89 [[.fn 56 []]]], [.int .i64 (6 : Int), .fn 89 [[.fn 58 []]]], [.int .i64 (2 : Int), .fn 60 []], [.int .i64 (3 : Int), .fn 62 []]])]
noncomputable def kernel_kinds : Option Unit := some ()
theorem kernel_kinds_w (r : Unit) (h : kernel_kinds = some r) : Go.VC.Spec Tryz.prog 32 [] (fun y => y = E_fn_kernel_kinds r) := by
  refine Spec.of_wpF (args := []) (fn := Tryz.f32) rfl rfl rfl rfl ?_
  refine WpF.seq tab ⟨[(0, []), (1, [0])], [], [], []⟩ (rs := [.tmp 0]) rfl ?_
  conv => whnf
  refine WpF.reg (AWp.map rfl rfl rfl rfl rfl ?_)
  conv => whnf
  refine mp_call (r := .fn 89 [[.fn 52 []]]) rfl rfl rfl rfl rfl (kernel_on_w _ rfl) ?_
  conv => whnf
  refine mp_ins rfl rfl rfl rfl Tryz.underlying105 Tryz.underlying3 rfl ?_
  conv => whnf
  refine mp_call (r := .fn 89 [[.fn 54 []]]) rfl rfl rfl rfl rfl (kernel_on_i1_w _ rfl) ?_
  conv => whnf
  refine mp_ins rfl rfl rfl rfl Tryz.underlying105 Tryz.underlying3 rfl ?_
  conv => whnf
  refine mp_call (r := .fn 89 [[.fn 56 []]]) rfl rfl rfl rfl rfl (kernel_on_2_w _ rfl) ?_
  conv => whnf
  refine mp_ins rfl rfl rfl rfl Tryz.underlying105 Tryz.underlying3 rfl ?_
  conv => whnf
  refine mp_call (r := .fn 89 [[.fn 58 []]]) rfl rfl rfl rfl rfl (kernel_on_3_w _ rfl) ?_
  conv => whnf
  refine mp_ins rfl rfl rfl rfl Tryz.underlying105 Tryz.underlying3 rfl ?_
  conv => whnf
  refine mp_ins rfl rfl rfl rfl Tryz.underlying105 Tryz.underlying3 rfl ?_
  conv => whnf
  refine mp_ins rfl rfl rfl rfl Tryz.underlying105 Tryz.underlying3 rfl ?_
  conv => whnf
  refine mp_end tab rfl ?_
  conv => whnf
  exact WpF.ret tab (rs := [.tmp 0]) rfl (RetOk.mk ⟨_, rfl, rfl⟩)

end Go.Proofs.YtfnaclhllopoeaaGreat
namespace Go.Proofs.YtfnaclhllopoeaaGreat
open Go Go.VC
noncomputable def kernel_kinds_1 (a0 : PartState) (a1 : Face) (a2 : KernelCmd) (a3 : Int) : Option (PartState × Int) :=
  bnd (part_Release a0 a2.I a2.V a3) fun x1 => some (x1.1, x1.2)
theorem kernel_kinds_1_w (a0 : PartState) (a1 : Face) (a2 : KernelCmd) (a3 : Int) (r : PartState × Int) (h : kernel_kinds_1 a0 a1 a2 a3 = some r) : Go.VC.Spec Tryz.prog 52 [.agg (PartState.enc a0), .agg (Face.enc a1), .agg (KernelCmd.enc a2), .d (.int .i64 a3)] (fun y => y = E_PartState_Int r) := by
  refine Go.VC.Spec.of_xc (args := [.agg (PartState.enc a0), .agg (Face.enc a1), .agg (KernelCmd.enc a2), .d (.int .i64 a3)]) (fn := Tryz.f52) tab ⟨[(0, [3, 4, 6, 8]), (1, [8, 9])], [], [], []⟩ 19 [.cell 8 93, .tmp 9] rfl rfl rfl rfl rfl rfl ?_
  conv => whnf
  refine ccS (E := E_PartState_Int) h (part_Release_w a0 a2.I a2.V a3) rfl rfl (fun x1 h => ?_)
  conv => whnf
  exact rt (E := E_PartState_Int) h rfl

end Go.Proofs.YtfnaclhllopoeaaGreat
namespace Go.Proofs.YtfnaclhllopoeaaGreat
open Go Go.VC
noncomputable def kernel_State_with (a0 : KernelState) (a1 : Int) (a2 : PartState) : Option KernelState :=
  ck (decide ((([] : List PartState).length + a0.Parts.length) * 120 ≤ 140737488355328)) (ck (decide (0 ≤ a1) && decide (a1 < ((([] : List PartState) ++ a0.Parts).length : Int))) (ox (([] : List PartState) ++ a0.Parts) a1.toNat fun x1 => some ⟨a0.Table, a0.Faces, (([] : List PartState) ++ a0.Parts).set a1.toNat a2, a0.Lines, a0.Now⟩))
theorem kernel_State_with_w (a0 : KernelState) (a1 : Int) (a2 : PartState) (r : KernelState) (h : kernel_State_with a0 a1 a2 = some r) : Go.VC.Spec Tryz.prog 36 [.agg (KernelState.enc a0), .d (.int .i64 a1), .agg (PartState.enc a2)] (fun y => y = E_KernelState r) := by
  refine Go.VC.Spec.of_xc (args := [.agg (KernelState.enc a0), .d (.int .i64 a1), .agg (PartState.enc a2)]) (fn := Tryz.f36) tab ⟨[(0, [1, 3, 5, 6]), (1, [1, 3, 5, 6]), (2, [3, 6]), (3, [6])], [], [], []⟩ 18 [.cell 6 80] rfl rfl rfl rfl rfl rfl ?_
  conv => whnf
  refine liS ([] : List PartState) PartState.enc rfl rfl ?_
  conv => whnf
  refine apS (enc := PartState.enc) (l1 := ([] : List PartState)) (l2 := a0.Parts) h rfl rfl (fun _ => rfl) (fun h => ?_)
  conv => whnf
  refine ioS (enc := PartState.enc) h rfl (fun h => ?_)
  conv => whnf
  refine seS (enc := PartState.enc) h rfl (fun x1 => a2) (fun _ => rfl) (fun x1 h => ?_)
  conv => whnf
  exact rt (E := E_KernelState) h rfl

end Go.Proofs.YtfnaclhllopoeaaGreat
namespace Go.Proofs.YtfnaclhllopoeaaGreat
open Go Go.VC
noncomputable def kernel_on_1 (a0 : KernelState) (a1 : KernelCmd) : Option (KernelState × Int × Int) :=
  ix a0.Parts a1.Part fun x1 => ix a0.Faces a1.Part fun x2 => bnd (kernel_kinds_1 x1 x2 a1 a0.Now) fun x3 => bnd (kernel_State_with a0 a1.Part x3.1) fun x4 => some (x4, (0 : Int), x3.2)
theorem kernel_on_1_w (a0 : KernelState) (a1 : KernelCmd) (r : KernelState × Int × Int) (h : kernel_on_1 a0 a1 = some r) : Go.VC.Spec Tryz.prog 89 [.agg (KernelState.enc a0), .agg (KernelCmd.enc a1), .dp [.fn 52 []]] (fun y => y = E_KernelState_Int_Int r) := by
  refine Go.VC.Spec.of_xc (args := [.agg (KernelState.enc a0), .agg (KernelCmd.enc a1), .dp [.fn 52 []]]) (fn := Tryz.f89) tab ⟨[(0, [2, 3, 4, 5]), (1, [3, 4, 5, 8, 9]), (2, [5, 6, 7])], [], [], []⟩ 36 [.cell 5 80, .tmp 6, .tmp 7] rfl rfl rfl rfl rfl rfl ?_
  conv => whnf
  refine ⟨22, ?_⟩
  conv => whnf
  refine ixS (enc := PartState.enc) h rfl (fun _ => rfl) (fun x1 h => ?_)
  conv => whnf
  refine ixS (enc := Face.enc) h rfl (fun _ => rfl) (fun x2 h => ?_)
  conv => whnf
  refine dcS (E := E_PartState_Int) h (kernel_kinds_1_w x1 x2 a1 a0.Now) rfl (fun x3 h => ?_)
  conv => whnf
  refine drS (by kernel_rfl) ?_
  conv => whnf
  refine ccS (E := E_KernelState) h (kernel_State_with_w a0 a1.Part x3.1) rfl rfl (fun x4 h => ?_)
  conv => whnf
  exact rt (E := E_KernelState_Int_Int) h rfl

end Go.Proofs.YtfnaclhllopoeaaGreat
namespace Go.Proofs.YtfnaclhllopoeaaGreat
open Go Go.VC
noncomputable def kernel_kinds_2 (a0 : PartState) (a1 : Face) (a2 : KernelCmd) (a3 : Int) : Option (PartState × Int) :=
  bnd (admit_Add a0 a1 a2.T) fun x1 => some (x1.1, x1.2)
theorem kernel_kinds_2_w (a0 : PartState) (a1 : Face) (a2 : KernelCmd) (a3 : Int) (r : PartState × Int) (h : kernel_kinds_2 a0 a1 a2 a3 = some r) : Go.VC.Spec Tryz.prog 54 [.agg (PartState.enc a0), .agg (Face.enc a1), .agg (KernelCmd.enc a2), .d (.int .i64 a3)] (fun y => y = E_PartState_Int r) := by
  refine Go.VC.Spec.of_xc (args := [.agg (PartState.enc a0), .agg (Face.enc a1), .agg (KernelCmd.enc a2), .d (.int .i64 a3)]) (fn := Tryz.f54) tab ⟨[(0, [4, 5, 6, 8]), (1, [8, 9])], [], [], []⟩ 17 [.cell 8 93, .tmp 9] rfl rfl rfl rfl rfl rfl ?_
  conv => whnf
  refine ccS (E := E_PartState_Int) h (admit_Add_w a0 a1 a2.T) rfl rfl (fun x1 h => ?_)
  conv => whnf
  exact rt (E := E_PartState_Int) h rfl

end Go.Proofs.YtfnaclhllopoeaaGreat
namespace Go.Proofs.YtfnaclhllopoeaaGreat
open Go Go.VC
noncomputable def kernel_on_1_1 (a0 : KernelState) (a1 : KernelCmd) : Option (KernelState × Int × Int) :=
  ix a0.Parts a1.Part fun x1 => ix a0.Faces a1.Part fun x2 => bnd (kernel_kinds_2 x1 x2 a1 a0.Now) fun x3 => bnd (kernel_State_with a0 a1.Part x3.1) fun x4 => some (x4, (0 : Int), x3.2)
theorem kernel_on_1_1_w (a0 : KernelState) (a1 : KernelCmd) (r : KernelState × Int × Int) (h : kernel_on_1_1 a0 a1 = some r) : Go.VC.Spec Tryz.prog 89 [.agg (KernelState.enc a0), .agg (KernelCmd.enc a1), .dp [.fn 54 []]] (fun y => y = E_KernelState_Int_Int r) := by
  refine Go.VC.Spec.of_xc (args := [.agg (KernelState.enc a0), .agg (KernelCmd.enc a1), .dp [.fn 54 []]]) (fn := Tryz.f89) tab ⟨[(0, [2, 3, 4, 5]), (1, [3, 4, 5, 8, 9]), (2, [5, 6, 7])], [], [], []⟩ 36 [.cell 5 80, .tmp 6, .tmp 7] rfl rfl rfl rfl rfl rfl ?_
  conv => whnf
  refine ⟨22, ?_⟩
  conv => whnf
  refine ixS (enc := PartState.enc) h rfl (fun _ => rfl) (fun x1 h => ?_)
  conv => whnf
  refine ixS (enc := Face.enc) h rfl (fun _ => rfl) (fun x2 h => ?_)
  conv => whnf
  refine dcS (E := E_PartState_Int) h (kernel_kinds_2_w x1 x2 a1 a0.Now) rfl (fun x3 h => ?_)
  conv => whnf
  refine drS (by kernel_rfl) ?_
  conv => whnf
  refine ccS (E := E_KernelState) h (kernel_State_with_w a0 a1.Part x3.1) rfl rfl (fun x4 h => ?_)
  conv => whnf
  exact rt (E := E_KernelState_Int_Int) h rfl

end Go.Proofs.YtfnaclhllopoeaaGreat
namespace Go.Proofs.YtfnaclhllopoeaaGreat
open Go Go.VC
noncomputable def admit_Drop (a0 : PartState) (a1 : Int) : Option (PartState × Int) :=
  bnd (part_Leave a0 a1) fun x1 => some (x1.1, x1.2)
theorem admit_Drop_w (a0 : PartState) (a1 : Int) (r : PartState × Int) (h : admit_Drop a0 a1 = some r) : Go.VC.Spec Tryz.prog 57 [.agg (PartState.enc a0), .d (.int .i64 a1)] (fun y => y = E_PartState_Int r) := by
  refine Go.VC.Spec.of_xc (args := [.agg (PartState.enc a0), .d (.int .i64 a1)]) (fn := Tryz.f57) tab ⟨[(0, [1, 2, 4]), (1, [4, 5])], [], [], []⟩ 11 [.cell 4 93, .tmp 5] rfl rfl rfl rfl rfl rfl ?_
  conv => whnf
  refine ccS (E := E_PartState_Int) h (part_Leave_w a0 a1) rfl rfl (fun x1 h => ?_)
  conv => whnf
  exact rt (E := E_PartState_Int) h rfl

end Go.Proofs.YtfnaclhllopoeaaGreat
namespace Go.Proofs.YtfnaclhllopoeaaGreat
open Go Go.VC
noncomputable def kernel_kinds_3 (a0 : PartState) (a1 : Face) (a2 : KernelCmd) (a3 : Int) : Option (PartState × Int) :=
  bnd (admit_Drop a0 a2.I) fun x1 => some (x1.1, x1.2)
theorem kernel_kinds_3_w (a0 : PartState) (a1 : Face) (a2 : KernelCmd) (a3 : Int) (r : PartState × Int) (h : kernel_kinds_3 a0 a1 a2 a3 = some r) : Go.VC.Spec Tryz.prog 56 [.agg (PartState.enc a0), .agg (Face.enc a1), .agg (KernelCmd.enc a2), .d (.int .i64 a3)] (fun y => y = E_PartState_Int r) := by
  refine Go.VC.Spec.of_xc (args := [.agg (PartState.enc a0), .agg (Face.enc a1), .agg (KernelCmd.enc a2), .d (.int .i64 a3)]) (fn := Tryz.f56) tab ⟨[(0, [4, 6, 8]), (1, [8, 9])], [], [], []⟩ 16 [.cell 8 93, .tmp 9] rfl rfl rfl rfl rfl rfl ?_
  conv => whnf
  refine ccS (E := E_PartState_Int) h (admit_Drop_w a0 a2.I) rfl rfl (fun x1 h => ?_)
  conv => whnf
  exact rt (E := E_PartState_Int) h rfl

end Go.Proofs.YtfnaclhllopoeaaGreat
namespace Go.Proofs.YtfnaclhllopoeaaGreat
open Go Go.VC
noncomputable def kernel_on_1_2 (a0 : KernelState) (a1 : KernelCmd) : Option (KernelState × Int × Int) :=
  ix a0.Parts a1.Part fun x1 => ix a0.Faces a1.Part fun x2 => bnd (kernel_kinds_3 x1 x2 a1 a0.Now) fun x3 => bnd (kernel_State_with a0 a1.Part x3.1) fun x4 => some (x4, (0 : Int), x3.2)
theorem kernel_on_1_2_w (a0 : KernelState) (a1 : KernelCmd) (r : KernelState × Int × Int) (h : kernel_on_1_2 a0 a1 = some r) : Go.VC.Spec Tryz.prog 89 [.agg (KernelState.enc a0), .agg (KernelCmd.enc a1), .dp [.fn 56 []]] (fun y => y = E_KernelState_Int_Int r) := by
  refine Go.VC.Spec.of_xc (args := [.agg (KernelState.enc a0), .agg (KernelCmd.enc a1), .dp [.fn 56 []]]) (fn := Tryz.f89) tab ⟨[(0, [2, 3, 4, 5]), (1, [3, 4, 5, 8, 9]), (2, [5, 6, 7])], [], [], []⟩ 36 [.cell 5 80, .tmp 6, .tmp 7] rfl rfl rfl rfl rfl rfl ?_
  conv => whnf
  refine ⟨22, ?_⟩
  conv => whnf
  refine ixS (enc := PartState.enc) h rfl (fun _ => rfl) (fun x1 h => ?_)
  conv => whnf
  refine ixS (enc := Face.enc) h rfl (fun _ => rfl) (fun x2 h => ?_)
  conv => whnf
  refine dcS (E := E_PartState_Int) h (kernel_kinds_3_w x1 x2 a1 a0.Now) rfl (fun x3 h => ?_)
  conv => whnf
  refine drS (by kernel_rfl) ?_
  conv => whnf
  refine ccS (E := E_KernelState) h (kernel_State_with_w a0 a1.Part x3.1) rfl rfl (fun x4 h => ?_)
  conv => whnf
  exact rt (E := E_KernelState_Int_Int) h rfl

end Go.Proofs.YtfnaclhllopoeaaGreat
namespace Go.Proofs.YtfnaclhllopoeaaGreat
open Go Go.VC
noncomputable def admit_Change (a0 : PartState) (a1 : Face) (a2 : Int) (a3 : Task) : Option (PartState × Int) :=
  bnd (admit_Drop a0 a2) fun x1 => fk (!decide (x1.2 = (0 : Int))) (some (a0, x1.2)) (bnd (admit_Add x1.1 a1 a3) fun x2 => fk (!decide (x2.2 = (0 : Int))) (some (a0, x2.2)) (some (x2.1, (0 : Int))))
theorem admit_Change_w (a0 : PartState) (a1 : Face) (a2 : Int) (a3 : Task) (r : PartState × Int) (h : admit_Change a0 a1 a2 a3 = some r) : Go.VC.Spec Tryz.prog 59 [.agg (PartState.enc a0), .agg (Face.enc a1), .d (.int .i64 a2), .agg (Task.enc a3)] (fun y => y = E_PartState_Int r) := by
  refine Go.VC.Spec.of_xc (args := [.agg (PartState.enc a0), .agg (Face.enc a1), .d (.int .i64 a2), .agg (Task.enc a3)]) (fn := Tryz.f59) tab ⟨[(0, [2, 4, 5, 7, 8]), (1, [4, 5, 7, 8, 10, 11]), (2, [4, 5, 7, 8, 10, 11, 19]), (3, [8, 9]), (4, [4, 8, 10, 11]), (5, [4, 8, 10, 11, 30]), (6, [8, 9]), (7, [8, 9])], [], [], []⟩ 34 [.cell 8 93, .tmp 9] rfl rfl rfl rfl rfl rfl ?_
  conv => whnf
  refine ccS (E := E_PartState_Int) h (admit_Drop_w a0 a2) rfl rfl (fun x1 h => ?_)
  conv => whnf
  refine fkS h (fun h => ?_) (fun h => ?_)
  · conv => whnf
    exact rt (E := E_PartState_Int) h rfl
  conv => whnf
  refine ccS (E := E_PartState_Int) h (admit_Add_w x1.1 a1 a3) rfl rfl (fun x2 h => ?_)
  conv => whnf
  refine fkS h (fun h => ?_) (fun h => ?_)
  · conv => whnf
    exact rt (E := E_PartState_Int) h rfl
  conv => whnf
  exact rt (E := E_PartState_Int) h rfl

end Go.Proofs.YtfnaclhllopoeaaGreat
namespace Go.Proofs.YtfnaclhllopoeaaGreat
open Go Go.VC
noncomputable def kernel_kinds_4 (a0 : PartState) (a1 : Face) (a2 : KernelCmd) (a3 : Int) : Option (PartState × Int) :=
  bnd (admit_Change a0 a1 a2.I a2.T) fun x1 => some (x1.1, x1.2)
theorem kernel_kinds_4_w (a0 : PartState) (a1 : Face) (a2 : KernelCmd) (a3 : Int) (r : PartState × Int) (h : kernel_kinds_4 a0 a1 a2 a3 = some r) : Go.VC.Spec Tryz.prog 58 [.agg (PartState.enc a0), .agg (Face.enc a1), .agg (KernelCmd.enc a2), .d (.int .i64 a3)] (fun y => y = E_PartState_Int r) := by
  refine Go.VC.Spec.of_xc (args := [.agg (PartState.enc a0), .agg (Face.enc a1), .agg (KernelCmd.enc a2), .d (.int .i64 a3)]) (fn := Tryz.f58) tab ⟨[(0, [4, 5, 6, 8]), (1, [8, 9])], [], [], []⟩ 19 [.cell 8 93, .tmp 9] rfl rfl rfl rfl rfl rfl ?_
  conv => whnf
  refine ccS (E := E_PartState_Int) h (admit_Change_w a0 a1 a2.I a2.T) rfl rfl (fun x1 h => ?_)
  conv => whnf
  exact rt (E := E_PartState_Int) h rfl

end Go.Proofs.YtfnaclhllopoeaaGreat
namespace Go.Proofs.YtfnaclhllopoeaaGreat
open Go Go.VC
noncomputable def kernel_on_1_3 (a0 : KernelState) (a1 : KernelCmd) : Option (KernelState × Int × Int) :=
  ix a0.Parts a1.Part fun x1 => ix a0.Faces a1.Part fun x2 => bnd (kernel_kinds_4 x1 x2 a1 a0.Now) fun x3 => bnd (kernel_State_with a0 a1.Part x3.1) fun x4 => some (x4, (0 : Int), x3.2)
theorem kernel_on_1_3_w (a0 : KernelState) (a1 : KernelCmd) (r : KernelState × Int × Int) (h : kernel_on_1_3 a0 a1 = some r) : Go.VC.Spec Tryz.prog 89 [.agg (KernelState.enc a0), .agg (KernelCmd.enc a1), .dp [.fn 58 []]] (fun y => y = E_KernelState_Int_Int r) := by
  refine Go.VC.Spec.of_xc (args := [.agg (KernelState.enc a0), .agg (KernelCmd.enc a1), .dp [.fn 58 []]]) (fn := Tryz.f89) tab ⟨[(0, [2, 3, 4, 5]), (1, [3, 4, 5, 8, 9]), (2, [5, 6, 7])], [], [], []⟩ 36 [.cell 5 80, .tmp 6, .tmp 7] rfl rfl rfl rfl rfl rfl ?_
  conv => whnf
  refine ⟨22, ?_⟩
  conv => whnf
  refine ixS (enc := PartState.enc) h rfl (fun _ => rfl) (fun x1 h => ?_)
  conv => whnf
  refine ixS (enc := Face.enc) h rfl (fun _ => rfl) (fun x2 h => ?_)
  conv => whnf
  refine dcS (E := E_PartState_Int) h (kernel_kinds_4_w x1 x2 a1 a0.Now) rfl (fun x3 h => ?_)
  conv => whnf
  refine drS (by kernel_rfl) ?_
  conv => whnf
  refine ccS (E := E_KernelState) h (kernel_State_with_w a0 a1.Part x3.1) rfl rfl (fun x4 h => ?_)
  conv => whnf
  exact rt (E := E_KernelState_Int_Int) h rfl

end Go.Proofs.YtfnaclhllopoeaaGreat
namespace Go.Proofs.YtfnaclhllopoeaaGreat
open Go Go.VC
noncomputable def kernel_kinds_5 (a0 : KernelState) (a1 : KernelCmd) : Option (KernelState × Int × Int) :=
  bnd (port_Send a0.Lines a1.Part a1.I a1.V) fun x1 => some (⟨a0.Table, a0.Faces, a0.Parts, x1.1, a0.Now⟩, (0 : Int), x1.2)
theorem kernel_kinds_5_w (a0 : KernelState) (a1 : KernelCmd) (r : KernelState × Int × Int) (h : kernel_kinds_5 a0 a1 = some r) : Go.VC.Spec Tryz.prog 60 [.agg (KernelState.enc a0), .agg (KernelCmd.enc a1)] (fun y => y = E_KernelState_Int_Int r) := by
  refine Go.VC.Spec.of_xc (args := [.agg (KernelState.enc a0), .agg (KernelCmd.enc a1)]) (fn := Tryz.f60) tab ⟨[(0, [2, 3, 4]), (1, [2, 4, 7, 8]), (2, [2, 4, 8]), (3, [4, 5, 6])], [], [], []⟩ 25 [.cell 4 80, .tmp 5, .tmp 6] rfl rfl rfl rfl rfl rfl ?_
  conv => whnf
  refine ccS (E := E_ListPortLine_Int) h (port_Send_w a0.Lines a1.Part a1.I a1.V) rfl rfl (fun x1 h => ?_)
  conv => whnf
  exact rt (E := E_KernelState_Int_Int) h rfl

end Go.Proofs.YtfnaclhllopoeaaGreat
namespace Go.Proofs.YtfnaclhllopoeaaGreat
open Go Go.VC
noncomputable def kernel_kinds_6 (a0 : KernelState) (a1 : KernelCmd) : Option (KernelState × Int × Int) :=
  bnd (port_Read a0.Lines a1.Part a1.I) fun x1 => some (⟨a0.Table, a0.Faces, a0.Parts, x1.2.1, a0.Now⟩, x1.1, x1.2.2)
theorem kernel_kinds_6_w (a0 : KernelState) (a1 : KernelCmd) (r : KernelState × Int × Int) (h : kernel_kinds_6 a0 a1 = some r) : Go.VC.Spec Tryz.prog 62 [.agg (KernelState.enc a0), .agg (KernelCmd.enc a1)] (fun y => y = E_KernelState_Int_Int r) := by
  refine Go.VC.Spec.of_xc (args := [.agg (KernelState.enc a0), .agg (KernelCmd.enc a1)]) (fn := Tryz.f62) tab ⟨[(0, [2, 3, 4]), (1, [2, 4, 7, 8, 9]), (2, [2, 4, 7, 9]), (3, [4, 5, 6])], [], [], []⟩ 26 [.cell 4 80, .tmp 5, .tmp 6] rfl rfl rfl rfl rfl rfl ?_
  conv => whnf
  refine ccS (E := E_Int_ListPortLine_Int) h (port_Read_w a0.Lines a1.Part a1.I) rfl rfl (fun x1 h => ?_)
  conv => whnf
  exact rt (E := E_KernelState_Int_Int) h rfl

end Go.Proofs.YtfnaclhllopoeaaGreat
namespace Go.Proofs.YtfnaclhllopoeaaGreat
open Go Go.VC
noncomputable def kernel_Do (a0 : KernelState) (a1 : KernelCmd) : Option (KernelState × Int × Int) :=
  bnd (kernel_Right a0) fun x1 => fk (!x1) (some (a0, (0 : Int), (1 : Int))) (bnd kernel_kinds fun x2 => fk (decide (a1.Kind = (1 : Int))) (jn (fun (w3 : Bool) => fk w3 (some (a0, (0 : Int), (4 : Int))) (bnd (kernel_on_1 a0 a1) fun x4 => some (x4.1, x4.2.1, x4.2.2))) (fun k3 => fk (decide (a1.Part < (0 : Int))) (k3 true) (k3 (decide (a1.Part ≥ (a0.Parts.length : Int)))))) (fk (decide (a1.Kind = (4 : Int))) (jn (fun (w5 : Bool) => fk w5 (some (a0, (0 : Int), (4 : Int))) (bnd (kernel_on_1_1 a0 a1) fun x6 => some (x6.1, x6.2.1, x6.2.2))) (fun k5 => fk (decide (a1.Part < (0 : Int))) (k5 true) (k5 (decide (a1.Part ≥ (a0.Parts.length : Int)))))) (fk (decide (a1.Kind = (5 : Int))) (jn (fun (w7 : Bool) => fk w7 (some (a0, (0 : Int), (4 : Int))) (bnd (kernel_on_1_2 a0 a1) fun x8 => some (x8.1, x8.2.1, x8.2.2))) (fun k7 => fk (decide (a1.Part < (0 : Int))) (k7 true) (k7 (decide (a1.Part ≥ (a0.Parts.length : Int)))))) (fk (decide (a1.Kind = (6 : Int))) (jn (fun (w9 : Bool) => fk w9 (some (a0, (0 : Int), (4 : Int))) (bnd (kernel_on_1_3 a0 a1) fun x10 => some (x10.1, x10.2.1, x10.2.2))) (fun k9 => fk (decide (a1.Part < (0 : Int))) (k9 true) (k9 (decide (a1.Part ≥ (a0.Parts.length : Int)))))) (fk (decide (a1.Kind = (2 : Int))) (jn (fun (w11 : Bool) => fk w11 (some (a0, (0 : Int), (4 : Int))) (bnd (kernel_kinds_5 a0 a1) fun x12 => some (x12.1, x12.2.1, x12.2.2))) (fun k11 => fk (decide (a1.Part < (0 : Int))) (k11 true) (k11 (decide (a1.Part ≥ (a0.Parts.length : Int)))))) (fk (decide (a1.Kind = (3 : Int))) (jn (fun (w13 : Bool) => fk w13 (some (a0, (0 : Int), (4 : Int))) (bnd (kernel_kinds_6 a0 a1) fun x14 => some (x14.1, x14.2.1, x14.2.2))) (fun k13 => fk (decide (a1.Part < (0 : Int))) (k13 true) (k13 (decide (a1.Part ≥ (a0.Parts.length : Int)))))) (jn (fun (w15 : Unit) => some (a0, (0 : Int), (4 : Int))) (fun k15 => k15 ()))))))))
theorem kernel_Do_w (a0 : KernelState) (a1 : KernelCmd) (r : KernelState × Int × Int) (h : kernel_Do a0 a1 = some r) : Go.VC.Spec Tryz.prog 21 [.agg (KernelState.enc a0), .agg (KernelCmd.enc a1)] (fun y => y = E_KernelState_Int_Int r) := by
  refine Go.VC.Spec.of_xc (args := [.agg (KernelState.enc a0), .agg (KernelCmd.enc a1)]) (fn := Tryz.f21) tab ⟨[(0, [2, 3, 4]), (1, [2, 3, 4, 10]), (2, [4, 5, 6]), (3, [2, 3, 4, 7]), (4, [2, 3, 4, 7, 30]), (5, [4, 5, 6]), (6, [4, 5, 6])], [], [100030], []⟩ 39 [.cell 4 80, .tmp 5, .tmp 6] rfl rfl rfl rfl rfl rfl ?_
  conv => whnf
  refine caS (E := E_Bool) h (kernel_Right_w a0) rfl (fun _ => rfl) (fun x1 h => ?_)
  conv => whnf
  refine fkS h (fun h => ?_) (fun h => ?_)
  · conv => whnf
    exact rt (E := E_KernelState_Int_Int) h rfl
  conv => whnf
  refine ⟨3, ?_⟩
  conv => whnf
  refine dcS (E := E_fn_kernel_kinds) h kernel_kinds_w rfl (fun x2 h => ?_)
  conv => whnf
  refine drS (by kernel_rfl) ?_
  conv => whnf
  refine lkS (zv := .nilFunc) (zd := .nilfn) rfl rfl rfl rfl Tryz.underlying105 Tryz.underlying3 (by kernel_rfl) rfl ?_
  conv => whnf
  refine fkS h (fun h => ?_) (fun h => ?_)
  · conv => whnf
    refine jnS (fun w3 => ⟨[(2, .l (.ptr 3 0)), (3, .l (.ptr 4 0)), (4, .l (.ptr 5 0)), (7, .l (.d (.fn 89 [[.fn 52 []]]))), (30, .l (.d (.bool w3)))], 39, [], [(3, [.d (.int .i64 a0.Table.Frame), .d (.sl (a0.Table.Windows.map Window.enc)), .d (.sl (a0.Faces.map Face.enc)), .d (.sl (a0.Parts.map PartState.enc)), .d (.sl (a0.Lines.map PortLine.enc)), .d (.int .i64 a0.Now)]), (4, [.d (.int .i64 a1.Part), .d (.int .i64 a1.Kind), .d (.int .i64 a1.I), .d (.int .i64 a1.V), .d (.int .i64 a1.T.C), .d (.int .i64 a1.T.D), .d (.int .i64 a1.T.T), .d (.sl (a1.T.Secs.map Sec.enc))]), (5, [.d (.int .i64 (0 : Int)), .nil, .nil, .nil, .nil, .d (.int .i64 (0 : Int))])], []⟩) h (fun k3 hk3 h => ?_) (fun w3 h => ?_)
    · conv => whnf
      refine fnS rfl rfl rfl Tryz.underlying85 ?_
      conv => whnf
      refine fkS h (fun h => ?_) (fun h => ?_)
      · conv => whnf
        exact jeS hk3 h (Weak.refl _)
      conv => whnf
      refine lenS a0.Parts PartState.enc rfl ?_
      conv => whnf
      exact jeS hk3 h (Weak.refl _)
    conv => whnf
    refine fkS h (fun h => ?_) (fun h => ?_)
    · conv => whnf
      exact rt (E := E_KernelState_Int_Int) h rfl
    conv => whnf
    refine ccS (E := E_KernelState_Int_Int) h (kernel_on_1_w a0 a1) rfl rfl (fun x4 h => ?_)
    conv => whnf
    exact rt (E := E_KernelState_Int_Int) h rfl
  conv => whnf
  refine fkS h (fun h => ?_) (fun h => ?_)
  · conv => whnf
    refine jnS (fun w5 => ⟨[(2, .l (.ptr 3 0)), (3, .l (.ptr 4 0)), (4, .l (.ptr 5 0)), (7, .l (.d (.fn 89 [[.fn 54 []]]))), (30, .l (.d (.bool w5)))], 39, [], [(3, [.d (.int .i64 a0.Table.Frame), .d (.sl (a0.Table.Windows.map Window.enc)), .d (.sl (a0.Faces.map Face.enc)), .d (.sl (a0.Parts.map PartState.enc)), .d (.sl (a0.Lines.map PortLine.enc)), .d (.int .i64 a0.Now)]), (4, [.d (.int .i64 a1.Part), .d (.int .i64 a1.Kind), .d (.int .i64 a1.I), .d (.int .i64 a1.V), .d (.int .i64 a1.T.C), .d (.int .i64 a1.T.D), .d (.int .i64 a1.T.T), .d (.sl (a1.T.Secs.map Sec.enc))]), (5, [.d (.int .i64 (0 : Int)), .nil, .nil, .nil, .nil, .d (.int .i64 (0 : Int))])], []⟩) h (fun k5 hk5 h => ?_) (fun w5 h => ?_)
    · conv => whnf
      refine fnS rfl rfl rfl Tryz.underlying85 ?_
      conv => whnf
      refine fkS h (fun h => ?_) (fun h => ?_)
      · conv => whnf
        exact jeS hk5 h (Weak.refl _)
      conv => whnf
      refine lenS a0.Parts PartState.enc rfl ?_
      conv => whnf
      exact jeS hk5 h (Weak.refl _)
    conv => whnf
    refine fkS h (fun h => ?_) (fun h => ?_)
    · conv => whnf
      exact rt (E := E_KernelState_Int_Int) h rfl
    conv => whnf
    refine ccS (E := E_KernelState_Int_Int) h (kernel_on_1_1_w a0 a1) rfl rfl (fun x6 h => ?_)
    conv => whnf
    exact rt (E := E_KernelState_Int_Int) h rfl
  conv => whnf
  refine fkS h (fun h => ?_) (fun h => ?_)
  · conv => whnf
    refine jnS (fun w7 => ⟨[(2, .l (.ptr 3 0)), (3, .l (.ptr 4 0)), (4, .l (.ptr 5 0)), (7, .l (.d (.fn 89 [[.fn 56 []]]))), (30, .l (.d (.bool w7)))], 39, [], [(3, [.d (.int .i64 a0.Table.Frame), .d (.sl (a0.Table.Windows.map Window.enc)), .d (.sl (a0.Faces.map Face.enc)), .d (.sl (a0.Parts.map PartState.enc)), .d (.sl (a0.Lines.map PortLine.enc)), .d (.int .i64 a0.Now)]), (4, [.d (.int .i64 a1.Part), .d (.int .i64 a1.Kind), .d (.int .i64 a1.I), .d (.int .i64 a1.V), .d (.int .i64 a1.T.C), .d (.int .i64 a1.T.D), .d (.int .i64 a1.T.T), .d (.sl (a1.T.Secs.map Sec.enc))]), (5, [.d (.int .i64 (0 : Int)), .nil, .nil, .nil, .nil, .d (.int .i64 (0 : Int))])], []⟩) h (fun k7 hk7 h => ?_) (fun w7 h => ?_)
    · conv => whnf
      refine fnS rfl rfl rfl Tryz.underlying85 ?_
      conv => whnf
      refine fkS h (fun h => ?_) (fun h => ?_)
      · conv => whnf
        exact jeS hk7 h (Weak.refl _)
      conv => whnf
      refine lenS a0.Parts PartState.enc rfl ?_
      conv => whnf
      exact jeS hk7 h (Weak.refl _)
    conv => whnf
    refine fkS h (fun h => ?_) (fun h => ?_)
    · conv => whnf
      exact rt (E := E_KernelState_Int_Int) h rfl
    conv => whnf
    refine ccS (E := E_KernelState_Int_Int) h (kernel_on_1_2_w a0 a1) rfl rfl (fun x8 h => ?_)
    conv => whnf
    exact rt (E := E_KernelState_Int_Int) h rfl
  conv => whnf
  refine fkS h (fun h => ?_) (fun h => ?_)
  · conv => whnf
    refine jnS (fun w9 => ⟨[(2, .l (.ptr 3 0)), (3, .l (.ptr 4 0)), (4, .l (.ptr 5 0)), (7, .l (.d (.fn 89 [[.fn 58 []]]))), (30, .l (.d (.bool w9)))], 39, [], [(3, [.d (.int .i64 a0.Table.Frame), .d (.sl (a0.Table.Windows.map Window.enc)), .d (.sl (a0.Faces.map Face.enc)), .d (.sl (a0.Parts.map PartState.enc)), .d (.sl (a0.Lines.map PortLine.enc)), .d (.int .i64 a0.Now)]), (4, [.d (.int .i64 a1.Part), .d (.int .i64 a1.Kind), .d (.int .i64 a1.I), .d (.int .i64 a1.V), .d (.int .i64 a1.T.C), .d (.int .i64 a1.T.D), .d (.int .i64 a1.T.T), .d (.sl (a1.T.Secs.map Sec.enc))]), (5, [.d (.int .i64 (0 : Int)), .nil, .nil, .nil, .nil, .d (.int .i64 (0 : Int))])], []⟩) h (fun k9 hk9 h => ?_) (fun w9 h => ?_)
    · conv => whnf
      refine fnS rfl rfl rfl Tryz.underlying85 ?_
      conv => whnf
      refine fkS h (fun h => ?_) (fun h => ?_)
      · conv => whnf
        exact jeS hk9 h (Weak.refl _)
      conv => whnf
      refine lenS a0.Parts PartState.enc rfl ?_
      conv => whnf
      exact jeS hk9 h (Weak.refl _)
    conv => whnf
    refine fkS h (fun h => ?_) (fun h => ?_)
    · conv => whnf
      exact rt (E := E_KernelState_Int_Int) h rfl
    conv => whnf
    refine ccS (E := E_KernelState_Int_Int) h (kernel_on_1_3_w a0 a1) rfl rfl (fun x10 h => ?_)
    conv => whnf
    exact rt (E := E_KernelState_Int_Int) h rfl
  conv => whnf
  refine fkS h (fun h => ?_) (fun h => ?_)
  · conv => whnf
    refine jnS (fun w11 => ⟨[(2, .l (.ptr 3 0)), (3, .l (.ptr 4 0)), (4, .l (.ptr 5 0)), (7, .l (.d (.fn 60 []))), (30, .l (.d (.bool w11)))], 39, [], [(3, [.d (.int .i64 a0.Table.Frame), .d (.sl (a0.Table.Windows.map Window.enc)), .d (.sl (a0.Faces.map Face.enc)), .d (.sl (a0.Parts.map PartState.enc)), .d (.sl (a0.Lines.map PortLine.enc)), .d (.int .i64 a0.Now)]), (4, [.d (.int .i64 a1.Part), .d (.int .i64 a1.Kind), .d (.int .i64 a1.I), .d (.int .i64 a1.V), .d (.int .i64 a1.T.C), .d (.int .i64 a1.T.D), .d (.int .i64 a1.T.T), .d (.sl (a1.T.Secs.map Sec.enc))]), (5, [.d (.int .i64 (0 : Int)), .nil, .nil, .nil, .nil, .d (.int .i64 (0 : Int))])], []⟩) h (fun k11 hk11 h => ?_) (fun w11 h => ?_)
    · conv => whnf
      refine fnS rfl rfl rfl Tryz.underlying85 ?_
      conv => whnf
      refine fkS h (fun h => ?_) (fun h => ?_)
      · conv => whnf
        exact jeS hk11 h (Weak.refl _)
      conv => whnf
      refine lenS a0.Parts PartState.enc rfl ?_
      conv => whnf
      exact jeS hk11 h (Weak.refl _)
    conv => whnf
    refine fkS h (fun h => ?_) (fun h => ?_)
    · conv => whnf
      exact rt (E := E_KernelState_Int_Int) h rfl
    conv => whnf
    refine ccS (E := E_KernelState_Int_Int) h (kernel_kinds_5_w a0 a1) rfl rfl (fun x12 h => ?_)
    conv => whnf
    exact rt (E := E_KernelState_Int_Int) h rfl
  conv => whnf
  refine fkS h (fun h => ?_) (fun h => ?_)
  · conv => whnf
    refine jnS (fun w13 => ⟨[(2, .l (.ptr 3 0)), (3, .l (.ptr 4 0)), (4, .l (.ptr 5 0)), (7, .l (.d (.fn 62 []))), (30, .l (.d (.bool w13)))], 39, [], [(3, [.d (.int .i64 a0.Table.Frame), .d (.sl (a0.Table.Windows.map Window.enc)), .d (.sl (a0.Faces.map Face.enc)), .d (.sl (a0.Parts.map PartState.enc)), .d (.sl (a0.Lines.map PortLine.enc)), .d (.int .i64 a0.Now)]), (4, [.d (.int .i64 a1.Part), .d (.int .i64 a1.Kind), .d (.int .i64 a1.I), .d (.int .i64 a1.V), .d (.int .i64 a1.T.C), .d (.int .i64 a1.T.D), .d (.int .i64 a1.T.T), .d (.sl (a1.T.Secs.map Sec.enc))]), (5, [.d (.int .i64 (0 : Int)), .nil, .nil, .nil, .nil, .d (.int .i64 (0 : Int))])], []⟩) h (fun k13 hk13 h => ?_) (fun w13 h => ?_)
    · conv => whnf
      refine fnS rfl rfl rfl Tryz.underlying85 ?_
      conv => whnf
      refine fkS h (fun h => ?_) (fun h => ?_)
      · conv => whnf
        exact jeS hk13 h (Weak.refl _)
      conv => whnf
      refine lenS a0.Parts PartState.enc rfl ?_
      conv => whnf
      exact jeS hk13 h (Weak.refl _)
    conv => whnf
    refine fkS h (fun h => ?_) (fun h => ?_)
    · conv => whnf
      exact rt (E := E_KernelState_Int_Int) h rfl
    conv => whnf
    refine ccS (E := E_KernelState_Int_Int) h (kernel_kinds_6_w a0 a1) rfl rfl (fun x14 h => ?_)
    conv => whnf
    exact rt (E := E_KernelState_Int_Int) h rfl
  conv => whnf
  refine jnS (fun w15 => ⟨[(2, .l (.ptr 3 0)), (3, .l (.ptr 4 0)), (4, .l (.ptr 5 0)), (7, .l (.d .nilfn)), (30, .l (.d (.bool true)))], 39, [], [(3, [.d (.int .i64 a0.Table.Frame), .d (.sl (a0.Table.Windows.map Window.enc)), .d (.sl (a0.Faces.map Face.enc)), .d (.sl (a0.Parts.map PartState.enc)), .d (.sl (a0.Lines.map PortLine.enc)), .d (.int .i64 a0.Now)]), (4, [.d (.int .i64 a1.Part), .d (.int .i64 a1.Kind), .d (.int .i64 a1.I), .d (.int .i64 a1.V), .d (.int .i64 a1.T.C), .d (.int .i64 a1.T.D), .d (.int .i64 a1.T.T), .d (.sl (a1.T.Secs.map Sec.enc))]), (5, [.d (.int .i64 (0 : Int)), .nil, .nil, .nil, .nil, .d (.int .i64 (0 : Int))])], []⟩) h (fun k15 hk15 h => ?_) (fun w15 h => ?_)
  · conv => whnf
    refine fnN rfl rfl rfl Tryz.underlying85 ?_
    conv => whnf
    exact jeS hk15 h (Weak.refl _)
  conv => whnf
  exact rt (E := E_KernelState_Int_Int) h rfl

end Go.Proofs.YtfnaclhllopoeaaGreat
namespace Go.Proofs.YtfnaclhllopoeaaGreat
open Go Go.VC
noncomputable def kernel_Tick (a0 : KernelState) : Option (KernelState × (List Int) × Int) :=
  bnd (kernel_Right a0) fun x1 => fk (!x1) (some (a0, [], (1 : Int))) (jn (fun (w2 : List PortLine) => bnd (table_At a0.Table a0.Now) fun x4 => lp (fun nx5 (v5 : Int × (List Window) × (List Face) × (List PartState) × (List PortLine) × Int × (List Int) × Int) => fk (decide (v5.2.2.2.2.2.2.2 < (a0.Parts.length : Int))) (ix a0.Parts v5.2.2.2.2.2.2.2 fun x6 => bnd (part_Tick x6 (decide (v5.2.2.2.2.2.2.2 = x4)) v5.2.2.2.2.2.1) fun x7 => bnd (kernel_State_with (⟨⟨v5.1, v5.2.1⟩, v5.2.2.1, v5.2.2.2.1, v5.2.2.2.2.1, v5.2.2.2.2.2.1⟩) v5.2.2.2.2.2.2.2 x7.1) fun x8 => ck (decide ((v5.2.2.2.2.2.2.1.length + ([x7.2.1] : List Int).length) * 8 ≤ 140737488355328)) (nx5 (x8.Table.Frame, x8.Table.Windows, x8.Faces, x8.Parts, x8.Lines, x8.Now, v5.2.2.2.2.2.2.1 ++ ([x7.2.1] : List Int), (wr (v5.2.2.2.2.2.2.2 + (1 : Int)))))) (some (⟨⟨v5.1, v5.2.1⟩, v5.2.2.1, v5.2.2.2.1, v5.2.2.2.2.1, (wr (v5.2.2.2.2.2.1 + (1 : Int)))⟩, v5.2.2.2.2.2.2.1, (0 : Int)))) FU (a0.Table.Frame, a0.Table.Windows, a0.Faces, a0.Parts, w2, a0.Now, [], (0 : Int))) (fun k2 => ck (decide (a0.Table.Frame ≠ 0)) (fk (decide ((a0.Now.tmod a0.Table.Frame) = (0 : Int))) (bnd (port_Deliver a0.Lines) fun x3 => k2 x3) (k2 a0.Lines))))
theorem kernel_Tick_w (a0 : KernelState) (r : KernelState × (List Int) × Int) (h : kernel_Tick a0 = some r) : Go.VC.Spec Tryz.prog 22 [.agg (KernelState.enc a0)] (fun y => y = E_KernelState_ListInt_Int r) := by
  refine Go.VC.Spec.of_xc (args := [.agg (KernelState.enc a0)]) (fn := Tryz.f22) tab ⟨[(0, [1, 2]), (1, [1, 2, 14]), (2, [2, 3, 4]), (3, [1, 2, 22]), (4, [1, 2]), (5, [1, 2, 5]), (6, [1, 2, 5, 6]), (7, [1, 2, 5, 6, 33, 34, 35]), (8, [1, 2, 5, 6, 33, 34, 35, 36]), (9, [1, 2, 5, 6, 7, 8, 33, 34, 35]), (10, [1, 2, 5, 6, 7, 9, 10, 33, 34, 35]), (11, [1, 2, 5, 6, 10, 33, 34, 35]), (12, [1, 2, 5, 6, 33, 34, 35]), (13, [1, 2, 5, 6, 33, 34, 35]), (14, [1, 2, 6]), (15, [2, 3, 4])], [], [5], []⟩ 66 [.cell 2 80, .tmp 3, .tmp 4] rfl rfl rfl rfl rfl rfl ?_
  conv => whnf
  refine caS (E := E_Bool) h (kernel_Right_w a0) rfl (fun _ => rfl) (fun x1 h => ?_)
  conv => whnf
  refine fkS h (fun h => ?_) (fun h => ?_)
  · conv => whnf
    exact rt (E := E_KernelState_ListInt_Int) h rfl
  conv => whnf
  refine jnS (fun w2 => ⟨[(1, .l (.ptr 2 0)), (2, .l (.ptr 3 0))], 66, [], [(2, [.d (.int .i64 a0.Table.Frame), .d (.sl (a0.Table.Windows.map Window.enc)), .d (.sl (a0.Faces.map Face.enc)), .d (.sl (a0.Parts.map PartState.enc)), .d (.sl (w2.map PortLine.enc)), .d (.int .i64 a0.Now)]), (3, [.d (.int .i64 (0 : Int)), .nil, .nil, .nil, .nil, .d (.int .i64 (0 : Int))])], []⟩) h (fun k2 hk2 h => ?_) (fun w2 h => ?_)
  · conv => whnf
    refine dvS h (fun h => ?_)
    conv => whnf
    refine fkS h (fun h => ?_) (fun h => ?_)
    · conv => whnf
      refine ccS (E := E_ListPortLine) h (port_Deliver_w a0.Lines) rfl rfl (fun x3 h => ?_)
      conv => whnf
      exact jeS hk2 h (Weak.refl _)
    conv => whnf
    refine jeX hk2 h ?_
    conv => whnf
    refine WkF.step (Weak.keepS _ [1, 2]) ?_
    conv => whnf
    exact WkF.refl _
  conv => whnf
  refine caS (E := E_Int) h (table_At_w a0.Table a0.Now) rfl (fun _ => rfl) (fun x4 h => ?_)
  conv => whnf
  refine lenS a0.Parts PartState.enc rfl ?_
  conv => whnf
  refine lpS (fun v5 => ⟨[(1, .l (.ptr 2 0)), (2, .l (.ptr 3 0)), (5, .l (.d (.int .i64 x4))), (6, .l (.own 7)), (33, .l (.d (.sl (a0.Parts.map PartState.enc)))), (34, .l (.d (.int .i64 (a0.Parts.length : Int)))), (35, .l (.d (.int .i64 v5.2.2.2.2.2.2.2)))], 66, [], [(2, [.d (.int .i64 v5.1), .d (.sl (v5.2.1.map Window.enc)), .d (.sl (v5.2.2.1.map Face.enc)), .d (.sl (v5.2.2.2.1.map PartState.enc)), .d (.sl (v5.2.2.2.2.1.map PortLine.enc)), .d (.int .i64 v5.2.2.2.2.2.1)]), (3, [.d (.int .i64 (0 : Int)), .nil, .nil, .nil, .nil, .d (.int .i64 (0 : Int))])], [(7, 3, 1, v5.2.2.2.2.2.2.1.map (eI .i64))]⟩) h (Weak.trans (Weak.nilO _ 6 7 3 1 rfl) (Weak.refl _)) (fun _ nx5 hn5 v5 h => ?_)
  conv => whnf
  refine fkS h (fun h => ?_) (fun h => ?_)
  · conv => whnf
    refine ixS (enc := PartState.enc) h rfl (fun _ => rfl) (fun x6 h => ?_)
    conv => whnf
    refine ccS (E := E_PartState_Int_Int) h (part_Tick_w x6 (decide (v5.2.2.2.2.2.2.2 = x4)) v5.2.2.2.2.2.1) rfl rfl (fun x7 h => ?_)
    conv => whnf
    refine ccS (E := E_KernelState) h (kernel_State_with_w (⟨⟨v5.1, v5.2.1⟩, v5.2.2.1, v5.2.2.2.1, v5.2.2.2.2.1, v5.2.2.2.2.2.1⟩) v5.2.2.2.2.2.2.2 x7.1) rfl rfl (fun x8 h => ?_)
    conv => whnf
    refine liS ([x7.2.1] : List Int) (eI .i64) rfl rfl ?_
    conv => whnf
    refine apS (enc := (eI .i64)) (l1 := v5.2.2.2.2.2.2.1) (l2 := ([x7.2.1] : List Int)) h rfl rfl (fun _ => rfl) (fun h => ?_)
    conv => whnf
    exact leS hn5 h (Weak.refl _)
  conv => whnf
  exact rt (E := E_KernelState_ListInt_Int) h rfl

end Go.Proofs.YtfnaclhllopoeaaGreat
namespace Go.Proofs.YtfnaclhllopoeaaGreat
open Go Go.VC
noncomputable def world_Play (a0 : List Int) (a1 : List (List KernelCmd)) : Option ((List WorldView) × Int) :=
  bnd (image_Decode a0) fun x1 => fk (!decide (x1.2.2 = (0 : Int))) (some ([], x1.2.2)) (bnd (kernel_Boot x1.1) fun x2 => fk (!decide (x2.2 = (0 : Int))) (some ([], x2.2)) (bnd (world_may a1) fun x3 => fk (!x3) (some ([], (5 : Int))) (fk (decide ((x2.1.Parts.length : Int) = (0 : Int))) (lp (fun nx88 (v88 : Int × (List Window) × (List Face) × (List PartState) × (List PortLine) × Int × Int) => fk (decide (v88.2.2.2.2.2.2 < (a1.length : Int))) (ix a1 v88.2.2.2.2.2.2 fun x89 => lp (fun nx90 (v90 : Int × (List Window) × (List Face) × (List PartState) × (List PortLine) × Int × Int) => fk (decide (v90.2.2.2.2.2.2 < (x89.length : Int))) (ix x89 v90.2.2.2.2.2.2 fun x91 => bnd (kernel_Do (⟨⟨v90.1, v90.2.1⟩, v90.2.2.1, v90.2.2.2.1, v90.2.2.2.2.1, v90.2.2.2.2.2.1⟩) x91) fun x92 => jn (fun (w93 : Unit) => nx90 (x92.1.Table.Frame, x92.1.Table.Windows, x92.1.Faces, x92.1.Parts, x92.1.Lines, x92.1.Now, (wr (v90.2.2.2.2.2.2 + (1 : Int))))) (fun k93 => jn (fun (w94 : Bool) => fk w94 (none) (k93 ())) (fun k94 => fk (decide (x91.Part ≥ (0 : Int))) (k94 (decide (x91.Part < (0 : Int)))) (k94 false)))) (bnd (kernel_Tick (⟨⟨v90.1, v90.2.1⟩, v90.2.2.1, v90.2.2.2.1, v90.2.2.2.2.1, v90.2.2.2.2.2.1⟩)) fun x95 => lp (fun nx96 (v96 : Unit) => nx88 (x95.1.Table.Frame, x95.1.Table.Windows, x95.1.Faces, x95.1.Parts, x95.1.Lines, x95.1.Now, (wr (v88.2.2.2.2.2.2 + (1 : Int))))) FU ())) FU (v88.1, v88.2.1, v88.2.2.1, v88.2.2.2.1, v88.2.2.2.2.1, v88.2.2.2.2.2.1, (0 : Int))) (lp (fun nx97 (v97 : Unit) => some (([] : List WorldView), (0 : Int))) FU ())) FU (x2.1.Table.Frame, x2.1.Table.Windows, x2.1.Faces, x2.1.Parts, x2.1.Lines, x2.1.Now, (0 : Int))) (fk (decide ((x2.1.Parts.length : Int) = (1 : Int))) (lp (fun nx73 (v73 : Int × (List Window) × (List Face) × (List PartState) × (List PortLine) × Int × (List WorldSaw) × (List Int) × Int) => fk (decide (v73.2.2.2.2.2.2.2.2 < (a1.length : Int))) (ix a1 v73.2.2.2.2.2.2.2.2 fun x74 => lp (fun nx75 (v75 : Int × (List Window) × (List Face) × (List PartState) × (List PortLine) × Int × (List WorldSaw) × Int) => fk (decide (v75.2.2.2.2.2.2.2 < (x74.length : Int))) (ix x74 v75.2.2.2.2.2.2.2 fun x76 => bnd (kernel_Do (⟨⟨v75.1, v75.2.1⟩, v75.2.2.1, v75.2.2.2.1, v75.2.2.2.2.1, v75.2.2.2.2.2.1⟩) x76) fun x77 => jn (fun (w78 : List WorldSaw) => nx75 (x77.1.Table.Frame, x77.1.Table.Windows, x77.1.Faces, x77.1.Parts, x77.1.Lines, x77.1.Now, w78, (wr (v75.2.2.2.2.2.2.2 + (1 : Int))))) (fun k78 => jn (fun (w79 : Bool) => fk w79 (fk (decide (x76.Part = (0 : Int))) (ck (decide ((v75.2.2.2.2.2.2.1.length + ([⟨v73.2.2.2.2.2.2.2.2, x77.2.1, x77.2.2⟩] : List WorldSaw).length) * 24 ≤ 140737488355328)) (k78 (v75.2.2.2.2.2.2.1 ++ ([⟨v73.2.2.2.2.2.2.2.2, x77.2.1, x77.2.2⟩] : List WorldSaw)))) (none)) (k78 v75.2.2.2.2.2.2.1)) (fun k79 => fk (decide (x76.Part ≥ (0 : Int))) (k79 (decide (x76.Part < (1 : Int)))) (k79 false)))) (bnd (kernel_Tick (⟨⟨v75.1, v75.2.1⟩, v75.2.2.1, v75.2.2.2.1, v75.2.2.2.2.1, v75.2.2.2.2.2.1⟩)) fun x81 => lp (fun nx82 (v82 : (List Int) × Int) => fk (decide (v82.2 < (1 : Int))) (fk (decide (v82.2 = (0 : Int))) (ix x81.2.1 v82.2 fun x84 => ck (decide ((v82.1.length + ([x84] : List Int).length) * 8 ≤ 140737488355328)) (nx82 (v82.1 ++ ([x84] : List Int), (wr (v82.2 + (1 : Int)))))) (none)) (nx73 (x81.1.Table.Frame, x81.1.Table.Windows, x81.1.Faces, x81.1.Parts, x81.1.Lines, x81.1.Now, v75.2.2.2.2.2.2.1, v82.1, (wr (v73.2.2.2.2.2.2.2.2 + (1 : Int)))))) FU (v73.2.2.2.2.2.2.2.1, (0 : Int)))) FU (v73.1, v73.2.1, v73.2.2.1, v73.2.2.2.1, v73.2.2.2.2.1, v73.2.2.2.2.2.1, v73.2.2.2.2.2.2.1, (0 : Int))) (lp (fun nx85 (v85 : (List Entry) × Int) => fk (decide (v85.2 < (1 : Int))) (ix v73.2.2.2.1 v85.2 fun x86 => fk (decide (v85.2 = (0 : Int))) (nx85 (x86.Log, (wr (v85.2 + (1 : Int))))) (none)) (some (([⟨v73.2.2.2.2.2.2.1, v73.2.2.2.2.2.2.2.1, v85.1⟩] : List WorldView), (0 : Int)))) FU ([], (0 : Int)))) FU (x2.1.Table.Frame, x2.1.Table.Windows, x2.1.Faces, x2.1.Parts, x2.1.Lines, x2.1.Now, [], [], (0 : Int))) (fk (decide ((x2.1.Parts.length : Int) = (2 : Int))) (lp (fun nx54 (v54 : Int × (List Window) × (List Face) × (List PartState) × (List PortLine) × Int × (List WorldSaw) × (List Int) × (List WorldSaw) × (List Int) × Int) => fk (decide (v54.2.2.2.2.2.2.2.2.2.2 < (a1.length : Int))) (ix a1 v54.2.2.2.2.2.2.2.2.2.2 fun x55 => lp (fun nx56 (v56 : Int × (List Window) × (List Face) × (List PartState) × (List PortLine) × Int × (List WorldSaw) × (List WorldSaw) × Int) => fk (decide (v56.2.2.2.2.2.2.2.2 < (x55.length : Int))) (ix x55 v56.2.2.2.2.2.2.2.2 fun x57 => bnd (kernel_Do (⟨⟨v56.1, v56.2.1⟩, v56.2.2.1, v56.2.2.2.1, v56.2.2.2.2.1, v56.2.2.2.2.2.1⟩) x57) fun x58 => jn (fun (w59 : (List WorldSaw) × (List WorldSaw)) => nx56 (x58.1.Table.Frame, x58.1.Table.Windows, x58.1.Faces, x58.1.Parts, x58.1.Lines, x58.1.Now, w59.1, w59.2, (wr (v56.2.2.2.2.2.2.2.2 + (1 : Int))))) (fun k59 => jn (fun (w60 : Bool) => fk w60 (fk (decide (x57.Part = (0 : Int))) (ck (decide ((v56.2.2.2.2.2.2.1.length + ([⟨v54.2.2.2.2.2.2.2.2.2.2, x58.2.1, x58.2.2⟩] : List WorldSaw).length) * 24 ≤ 140737488355328)) (k59 (v56.2.2.2.2.2.2.1 ++ ([⟨v54.2.2.2.2.2.2.2.2.2.2, x58.2.1, x58.2.2⟩] : List WorldSaw), v56.2.2.2.2.2.2.2.1))) (fk (decide (x57.Part = (1 : Int))) (ck (decide ((v56.2.2.2.2.2.2.2.1.length + ([⟨v54.2.2.2.2.2.2.2.2.2.2, x58.2.1, x58.2.2⟩] : List WorldSaw).length) * 24 ≤ 140737488355328)) (k59 (v56.2.2.2.2.2.2.1, v56.2.2.2.2.2.2.2.1 ++ ([⟨v54.2.2.2.2.2.2.2.2.2.2, x58.2.1, x58.2.2⟩] : List WorldSaw)))) (none))) (k59 (v56.2.2.2.2.2.2.1, v56.2.2.2.2.2.2.2.1))) (fun k60 => fk (decide (x57.Part ≥ (0 : Int))) (k60 (decide (x57.Part < (2 : Int)))) (k60 false)))) (bnd (kernel_Tick (⟨⟨v56.1, v56.2.1⟩, v56.2.2.1, v56.2.2.2.1, v56.2.2.2.2.1, v56.2.2.2.2.2.1⟩)) fun x63 => lp (fun nx64 (v64 : (List Int) × (List Int) × Int) => fk (decide (v64.2.2 < (2 : Int))) (fk (decide (v64.2.2 = (0 : Int))) (ix x63.2.1 v64.2.2 fun x68 => ck (decide ((v64.1.length + ([x68] : List Int).length) * 8 ≤ 140737488355328)) (nx64 (v64.1 ++ ([x68] : List Int), v64.2.1, (wr (v64.2.2 + (1 : Int)))))) (fk (decide (v64.2.2 = (1 : Int))) (ix x63.2.1 v64.2.2 fun x67 => ck (decide ((v64.2.1.length + ([x67] : List Int).length) * 8 ≤ 140737488355328)) (nx64 (v64.1, v64.2.1 ++ ([x67] : List Int), (wr (v64.2.2 + (1 : Int)))))) (none))) (nx54 (x63.1.Table.Frame, x63.1.Table.Windows, x63.1.Faces, x63.1.Parts, x63.1.Lines, x63.1.Now, v56.2.2.2.2.2.2.1, v64.1, v56.2.2.2.2.2.2.2.1, v64.2.1, (wr (v54.2.2.2.2.2.2.2.2.2.2 + (1 : Int)))))) FU (v54.2.2.2.2.2.2.2.1, v54.2.2.2.2.2.2.2.2.2.1, (0 : Int)))) FU (v54.1, v54.2.1, v54.2.2.1, v54.2.2.2.1, v54.2.2.2.2.1, v54.2.2.2.2.2.1, v54.2.2.2.2.2.2.1, v54.2.2.2.2.2.2.2.2.1, (0 : Int))) (lp (fun nx69 (v69 : (List Entry) × (List Entry) × Int) => fk (decide (v69.2.2 < (2 : Int))) (ix v54.2.2.2.1 v69.2.2 fun x70 => fk (decide (v69.2.2 = (0 : Int))) (nx69 (x70.Log, v69.2.1, (wr (v69.2.2 + (1 : Int))))) (fk (decide (v69.2.2 = (1 : Int))) (nx69 (v69.1, x70.Log, (wr (v69.2.2 + (1 : Int))))) (none))) (some (([⟨v54.2.2.2.2.2.2.1, v54.2.2.2.2.2.2.2.1, v69.1⟩, ⟨v54.2.2.2.2.2.2.2.2.1, v54.2.2.2.2.2.2.2.2.2.1, v69.2.1⟩] : List WorldView), (0 : Int)))) FU ([], [], (0 : Int)))) FU (x2.1.Table.Frame, x2.1.Table.Windows, x2.1.Faces, x2.1.Parts, x2.1.Lines, x2.1.Now, [], [], [], [], (0 : Int))) (fk (decide ((x2.1.Parts.length : Int) = (3 : Int))) (lp (fun nx31 (v31 : Int × (List Window) × (List Face) × (List PartState) × (List PortLine) × Int × (List WorldSaw) × (List Int) × (List WorldSaw) × (List Int) × (List WorldSaw) × (List Int) × Int) => fk (decide (v31.2.2.2.2.2.2.2.2.2.2.2.2 < (a1.length : Int))) (ix a1 v31.2.2.2.2.2.2.2.2.2.2.2.2 fun x32 => lp (fun nx33 (v33 : Int × (List Window) × (List Face) × (List PartState) × (List PortLine) × Int × (List WorldSaw) × (List WorldSaw) × (List WorldSaw) × Int) => fk (decide (v33.2.2.2.2.2.2.2.2.2 < (x32.length : Int))) (ix x32 v33.2.2.2.2.2.2.2.2.2 fun x34 => bnd (kernel_Do (⟨⟨v33.1, v33.2.1⟩, v33.2.2.1, v33.2.2.2.1, v33.2.2.2.2.1, v33.2.2.2.2.2.1⟩) x34) fun x35 => jn (fun (w36 : (List WorldSaw) × (List WorldSaw) × (List WorldSaw)) => nx33 (x35.1.Table.Frame, x35.1.Table.Windows, x35.1.Faces, x35.1.Parts, x35.1.Lines, x35.1.Now, w36.1, w36.2.1, w36.2.2, (wr (v33.2.2.2.2.2.2.2.2.2 + (1 : Int))))) (fun k36 => jn (fun (w37 : Bool) => fk w37 (fk (decide (x34.Part = (0 : Int))) (ck (decide ((v33.2.2.2.2.2.2.1.length + ([⟨v31.2.2.2.2.2.2.2.2.2.2.2.2, x35.2.1, x35.2.2⟩] : List WorldSaw).length) * 24 ≤ 140737488355328)) (k36 (v33.2.2.2.2.2.2.1 ++ ([⟨v31.2.2.2.2.2.2.2.2.2.2.2.2, x35.2.1, x35.2.2⟩] : List WorldSaw), v33.2.2.2.2.2.2.2.1, v33.2.2.2.2.2.2.2.2.1))) (fk (decide (x34.Part = (1 : Int))) (ck (decide ((v33.2.2.2.2.2.2.2.1.length + ([⟨v31.2.2.2.2.2.2.2.2.2.2.2.2, x35.2.1, x35.2.2⟩] : List WorldSaw).length) * 24 ≤ 140737488355328)) (k36 (v33.2.2.2.2.2.2.1, v33.2.2.2.2.2.2.2.1 ++ ([⟨v31.2.2.2.2.2.2.2.2.2.2.2.2, x35.2.1, x35.2.2⟩] : List WorldSaw), v33.2.2.2.2.2.2.2.2.1))) (fk (decide (x34.Part = (2 : Int))) (ck (decide ((v33.2.2.2.2.2.2.2.2.1.length + ([⟨v31.2.2.2.2.2.2.2.2.2.2.2.2, x35.2.1, x35.2.2⟩] : List WorldSaw).length) * 24 ≤ 140737488355328)) (k36 (v33.2.2.2.2.2.2.1, v33.2.2.2.2.2.2.2.1, v33.2.2.2.2.2.2.2.2.1 ++ ([⟨v31.2.2.2.2.2.2.2.2.2.2.2.2, x35.2.1, x35.2.2⟩] : List WorldSaw)))) (none)))) (k36 (v33.2.2.2.2.2.2.1, v33.2.2.2.2.2.2.2.1, v33.2.2.2.2.2.2.2.2.1))) (fun k37 => fk (decide (x34.Part ≥ (0 : Int))) (k37 (decide (x34.Part < (3 : Int)))) (k37 false)))) (bnd (kernel_Tick (⟨⟨v33.1, v33.2.1⟩, v33.2.2.1, v33.2.2.2.1, v33.2.2.2.2.1, v33.2.2.2.2.2.1⟩)) fun x41 => lp (fun nx42 (v42 : (List Int) × (List Int) × (List Int) × Int) => fk (decide (v42.2.2.2 < (3 : Int))) (fk (decide (v42.2.2.2 = (0 : Int))) (ix x41.2.1 v42.2.2.2 fun x48 => ck (decide ((v42.1.length + ([x48] : List Int).length) * 8 ≤ 140737488355328)) (nx42 (v42.1 ++ ([x48] : List Int), v42.2.1, v42.2.2.1, (wr (v42.2.2.2 + (1 : Int)))))) (fk (decide (v42.2.2.2 = (1 : Int))) (ix x41.2.1 v42.2.2.2 fun x47 => ck (decide ((v42.2.1.length + ([x47] : List Int).length) * 8 ≤ 140737488355328)) (nx42 (v42.1, v42.2.1 ++ ([x47] : List Int), v42.2.2.1, (wr (v42.2.2.2 + (1 : Int)))))) (fk (decide (v42.2.2.2 = (2 : Int))) (ix x41.2.1 v42.2.2.2 fun x46 => ck (decide ((v42.2.2.1.length + ([x46] : List Int).length) * 8 ≤ 140737488355328)) (nx42 (v42.1, v42.2.1, v42.2.2.1 ++ ([x46] : List Int), (wr (v42.2.2.2 + (1 : Int)))))) (none)))) (nx31 (x41.1.Table.Frame, x41.1.Table.Windows, x41.1.Faces, x41.1.Parts, x41.1.Lines, x41.1.Now, v33.2.2.2.2.2.2.1, v42.1, v33.2.2.2.2.2.2.2.1, v42.2.1, v33.2.2.2.2.2.2.2.2.1, v42.2.2.1, (wr (v31.2.2.2.2.2.2.2.2.2.2.2.2 + (1 : Int)))))) FU (v31.2.2.2.2.2.2.2.1, v31.2.2.2.2.2.2.2.2.2.1, v31.2.2.2.2.2.2.2.2.2.2.2.1, (0 : Int)))) FU (v31.1, v31.2.1, v31.2.2.1, v31.2.2.2.1, v31.2.2.2.2.1, v31.2.2.2.2.2.1, v31.2.2.2.2.2.2.1, v31.2.2.2.2.2.2.2.2.1, v31.2.2.2.2.2.2.2.2.2.2.1, (0 : Int))) (lp (fun nx49 (v49 : (List Entry) × (List Entry) × (List Entry) × Int) => fk (decide (v49.2.2.2 < (3 : Int))) (ix v31.2.2.2.1 v49.2.2.2 fun x50 => fk (decide (v49.2.2.2 = (0 : Int))) (nx49 (x50.Log, v49.2.1, v49.2.2.1, (wr (v49.2.2.2 + (1 : Int))))) (fk (decide (v49.2.2.2 = (1 : Int))) (nx49 (v49.1, x50.Log, v49.2.2.1, (wr (v49.2.2.2 + (1 : Int))))) (fk (decide (v49.2.2.2 = (2 : Int))) (nx49 (v49.1, v49.2.1, x50.Log, (wr (v49.2.2.2 + (1 : Int))))) (none)))) (some (([⟨v31.2.2.2.2.2.2.1, v31.2.2.2.2.2.2.2.1, v49.1⟩, ⟨v31.2.2.2.2.2.2.2.2.1, v31.2.2.2.2.2.2.2.2.2.1, v49.2.1⟩, ⟨v31.2.2.2.2.2.2.2.2.2.2.1, v31.2.2.2.2.2.2.2.2.2.2.2.1, v49.2.2.1⟩] : List WorldView), (0 : Int)))) FU ([], [], [], (0 : Int)))) FU (x2.1.Table.Frame, x2.1.Table.Windows, x2.1.Faces, x2.1.Parts, x2.1.Lines, x2.1.Now, [], [], [], [], [], [], (0 : Int))) (fk (decide ((x2.1.Parts.length : Int) = (4 : Int))) (lp (fun nx4 (v4 : Int × (List Window) × (List Face) × (List PartState) × (List PortLine) × Int × (List WorldSaw) × (List Int) × (List WorldSaw) × (List Int) × (List WorldSaw) × (List Int) × (List WorldSaw) × (List Int) × Int) => fk (decide (v4.2.2.2.2.2.2.2.2.2.2.2.2.2.2 < (a1.length : Int))) (ix a1 v4.2.2.2.2.2.2.2.2.2.2.2.2.2.2 fun x5 => lp (fun nx6 (v6 : Int × (List Window) × (List Face) × (List PartState) × (List PortLine) × Int × (List WorldSaw) × (List WorldSaw) × (List WorldSaw) × (List WorldSaw) × Int) => fk (decide (v6.2.2.2.2.2.2.2.2.2.2 < (x5.length : Int))) (ix x5 v6.2.2.2.2.2.2.2.2.2.2 fun x7 => bnd (kernel_Do (⟨⟨v6.1, v6.2.1⟩, v6.2.2.1, v6.2.2.2.1, v6.2.2.2.2.1, v6.2.2.2.2.2.1⟩) x7) fun x8 => jn (fun (w9 : (List WorldSaw) × (List WorldSaw) × (List WorldSaw) × (List WorldSaw)) => nx6 (x8.1.Table.Frame, x8.1.Table.Windows, x8.1.Faces, x8.1.Parts, x8.1.Lines, x8.1.Now, w9.1, w9.2.1, w9.2.2.1, w9.2.2.2, (wr (v6.2.2.2.2.2.2.2.2.2.2 + (1 : Int))))) (fun k9 => jn (fun (w10 : Bool) => fk w10 (fk (decide (x7.Part = (0 : Int))) (ck (decide ((v6.2.2.2.2.2.2.1.length + ([⟨v4.2.2.2.2.2.2.2.2.2.2.2.2.2.2, x8.2.1, x8.2.2⟩] : List WorldSaw).length) * 24 ≤ 140737488355328)) (k9 (v6.2.2.2.2.2.2.1 ++ ([⟨v4.2.2.2.2.2.2.2.2.2.2.2.2.2.2, x8.2.1, x8.2.2⟩] : List WorldSaw), v6.2.2.2.2.2.2.2.1, v6.2.2.2.2.2.2.2.2.1, v6.2.2.2.2.2.2.2.2.2.1))) (fk (decide (x7.Part = (1 : Int))) (ck (decide ((v6.2.2.2.2.2.2.2.1.length + ([⟨v4.2.2.2.2.2.2.2.2.2.2.2.2.2.2, x8.2.1, x8.2.2⟩] : List WorldSaw).length) * 24 ≤ 140737488355328)) (k9 (v6.2.2.2.2.2.2.1, v6.2.2.2.2.2.2.2.1 ++ ([⟨v4.2.2.2.2.2.2.2.2.2.2.2.2.2.2, x8.2.1, x8.2.2⟩] : List WorldSaw), v6.2.2.2.2.2.2.2.2.1, v6.2.2.2.2.2.2.2.2.2.1))) (fk (decide (x7.Part = (2 : Int))) (ck (decide ((v6.2.2.2.2.2.2.2.2.1.length + ([⟨v4.2.2.2.2.2.2.2.2.2.2.2.2.2.2, x8.2.1, x8.2.2⟩] : List WorldSaw).length) * 24 ≤ 140737488355328)) (k9 (v6.2.2.2.2.2.2.1, v6.2.2.2.2.2.2.2.1, v6.2.2.2.2.2.2.2.2.1 ++ ([⟨v4.2.2.2.2.2.2.2.2.2.2.2.2.2.2, x8.2.1, x8.2.2⟩] : List WorldSaw), v6.2.2.2.2.2.2.2.2.2.1))) (fk (decide (x7.Part = (3 : Int))) (ck (decide ((v6.2.2.2.2.2.2.2.2.2.1.length + ([⟨v4.2.2.2.2.2.2.2.2.2.2.2.2.2.2, x8.2.1, x8.2.2⟩] : List WorldSaw).length) * 24 ≤ 140737488355328)) (k9 (v6.2.2.2.2.2.2.1, v6.2.2.2.2.2.2.2.1, v6.2.2.2.2.2.2.2.2.1, v6.2.2.2.2.2.2.2.2.2.1 ++ ([⟨v4.2.2.2.2.2.2.2.2.2.2.2.2.2.2, x8.2.1, x8.2.2⟩] : List WorldSaw)))) (none))))) (k9 (v6.2.2.2.2.2.2.1, v6.2.2.2.2.2.2.2.1, v6.2.2.2.2.2.2.2.2.1, v6.2.2.2.2.2.2.2.2.2.1))) (fun k10 => fk (decide (x7.Part ≥ (0 : Int))) (k10 (decide (x7.Part < (4 : Int)))) (k10 false)))) (bnd (kernel_Tick (⟨⟨v6.1, v6.2.1⟩, v6.2.2.1, v6.2.2.2.1, v6.2.2.2.2.1, v6.2.2.2.2.2.1⟩)) fun x15 => lp (fun nx16 (v16 : (List Int) × (List Int) × (List Int) × (List Int) × Int) => fk (decide (v16.2.2.2.2 < (4 : Int))) (fk (decide (v16.2.2.2.2 = (0 : Int))) (ix x15.2.1 v16.2.2.2.2 fun x24 => ck (decide ((v16.1.length + ([x24] : List Int).length) * 8 ≤ 140737488355328)) (nx16 (v16.1 ++ ([x24] : List Int), v16.2.1, v16.2.2.1, v16.2.2.2.1, (wr (v16.2.2.2.2 + (1 : Int)))))) (fk (decide (v16.2.2.2.2 = (1 : Int))) (ix x15.2.1 v16.2.2.2.2 fun x23 => ck (decide ((v16.2.1.length + ([x23] : List Int).length) * 8 ≤ 140737488355328)) (nx16 (v16.1, v16.2.1 ++ ([x23] : List Int), v16.2.2.1, v16.2.2.2.1, (wr (v16.2.2.2.2 + (1 : Int)))))) (fk (decide (v16.2.2.2.2 = (2 : Int))) (ix x15.2.1 v16.2.2.2.2 fun x22 => ck (decide ((v16.2.2.1.length + ([x22] : List Int).length) * 8 ≤ 140737488355328)) (nx16 (v16.1, v16.2.1, v16.2.2.1 ++ ([x22] : List Int), v16.2.2.2.1, (wr (v16.2.2.2.2 + (1 : Int)))))) (fk (decide (v16.2.2.2.2 = (3 : Int))) (ix x15.2.1 v16.2.2.2.2 fun x21 => ck (decide ((v16.2.2.2.1.length + ([x21] : List Int).length) * 8 ≤ 140737488355328)) (nx16 (v16.1, v16.2.1, v16.2.2.1, v16.2.2.2.1 ++ ([x21] : List Int), (wr (v16.2.2.2.2 + (1 : Int)))))) (none))))) (nx4 (x15.1.Table.Frame, x15.1.Table.Windows, x15.1.Faces, x15.1.Parts, x15.1.Lines, x15.1.Now, v6.2.2.2.2.2.2.1, v16.1, v6.2.2.2.2.2.2.2.1, v16.2.1, v6.2.2.2.2.2.2.2.2.1, v16.2.2.1, v6.2.2.2.2.2.2.2.2.2.1, v16.2.2.2.1, (wr (v4.2.2.2.2.2.2.2.2.2.2.2.2.2.2 + (1 : Int)))))) FU (v4.2.2.2.2.2.2.2.1, v4.2.2.2.2.2.2.2.2.2.1, v4.2.2.2.2.2.2.2.2.2.2.2.1, v4.2.2.2.2.2.2.2.2.2.2.2.2.2.1, (0 : Int)))) FU (v4.1, v4.2.1, v4.2.2.1, v4.2.2.2.1, v4.2.2.2.2.1, v4.2.2.2.2.2.1, v4.2.2.2.2.2.2.1, v4.2.2.2.2.2.2.2.2.1, v4.2.2.2.2.2.2.2.2.2.2.1, v4.2.2.2.2.2.2.2.2.2.2.2.2.1, (0 : Int))) (lp (fun nx25 (v25 : (List Entry) × (List Entry) × (List Entry) × (List Entry) × Int) => fk (decide (v25.2.2.2.2 < (4 : Int))) (ix v4.2.2.2.1 v25.2.2.2.2 fun x26 => fk (decide (v25.2.2.2.2 = (0 : Int))) (nx25 (x26.Log, v25.2.1, v25.2.2.1, v25.2.2.2.1, (wr (v25.2.2.2.2 + (1 : Int))))) (fk (decide (v25.2.2.2.2 = (1 : Int))) (nx25 (v25.1, x26.Log, v25.2.2.1, v25.2.2.2.1, (wr (v25.2.2.2.2 + (1 : Int))))) (fk (decide (v25.2.2.2.2 = (2 : Int))) (nx25 (v25.1, v25.2.1, x26.Log, v25.2.2.2.1, (wr (v25.2.2.2.2 + (1 : Int))))) (fk (decide (v25.2.2.2.2 = (3 : Int))) (nx25 (v25.1, v25.2.1, v25.2.2.1, x26.Log, (wr (v25.2.2.2.2 + (1 : Int))))) (none))))) (some (([⟨v4.2.2.2.2.2.2.1, v4.2.2.2.2.2.2.2.1, v25.1⟩, ⟨v4.2.2.2.2.2.2.2.2.1, v4.2.2.2.2.2.2.2.2.2.1, v25.2.1⟩, ⟨v4.2.2.2.2.2.2.2.2.2.2.1, v4.2.2.2.2.2.2.2.2.2.2.2.1, v25.2.2.1⟩, ⟨v4.2.2.2.2.2.2.2.2.2.2.2.2.1, v4.2.2.2.2.2.2.2.2.2.2.2.2.2.1, v25.2.2.2.1⟩] : List WorldView), (0 : Int)))) FU ([], [], [], [], (0 : Int)))) FU (x2.1.Table.Frame, x2.1.Table.Windows, x2.1.Faces, x2.1.Parts, x2.1.Lines, x2.1.Now, [], [], [], [], [], [], [], [], (0 : Int))) (none))))))))
theorem world_Play_w (a0 : List Int) (a1 : List (List KernelCmd)) (r : (List WorldView) × Int) (h : world_Play a0 a1 = some r) : Go.VC.Spec Tryz.prog 10 [.d (.sl (a0.map (eI .u8))), .d (.sl (a1.map (eL KernelCmd.enc)))] (fun y => y = E_ListWorldView_Int r) := by
  refine Go.VC.Spec.of_xc (args := [.d (.sl (a0.map (eI .u8))), .d (.sl (a1.map (eL KernelCmd.enc)))]) (fn := Tryz.f10) tab ⟨[(0, [0, 1]), (1, [1, 6, 8]), (2, [1, 6, 8, 30]), (3, [4, 5]), (4, [1, 8, 9]), (5, [1, 8, 9, 38]), (6, [4, 5]), (7, [1, 9, 42]), (8, [4, 5]), (9, [1, 9, 10]), (10, [9, 10, 47, 48, 49]), (11, [9, 10, 47, 48, 49, 50]), (12, [9, 10, 11, 12, 47, 48, 49]), (13, [9, 10, 11, 47, 48, 49, 54, 55, 56]), (14, [9, 10, 11, 47, 48, 49, 54, 55, 56, 57]), (15, [9, 10, 11, 14, 47, 48, 49, 54, 55, 56]), (16, [9, 10, 11, 14, 15, 16, 17, 47, 48, 49, 54, 55, 56]), (17, [9, 10, 11, 14, 15, 16, 17, 47, 48, 49, 54, 55, 56, 76]), (18, [9, 10, 11, 15, 47, 48, 49, 54, 55, 56]), (19, [9, 10, 11, 47, 48, 49, 54, 55, 56]), (20, [9, 10, 11, 47, 48, 49, 54, 55, 56]), (21, [9, 10, 18, 19, 47, 48, 49]), (22, [9, 10, 18, 19, 47, 48, 49, 103, 104]), (23, [9, 10, 18, 19, 47, 48, 49, 103, 104, 105]), (24, [9, 10, 18, 19, 21, 47, 48, 49, 103, 104]), (25, [9, 10, 18, 19, 47, 48, 49, 103, 104]), (26, [9, 10, 18, 19, 47, 48, 49, 103, 104]), (27, [9, 10, 47, 48, 49]), (28, [9, 10, 47, 48, 49]), (29, [9, 10, 126, 127]), (30, [9, 10, 126, 127, 128]), (31, [9, 10, 22, 126, 127]), (32, [9, 10, 126, 127]), (33, [9, 10, 126, 127]), (34, [4, 5])], [], [100076, 19], []⟩ 142 [.tmp 4, .tmp 5] rfl rfl rfl rfl rfl rfl ?_
  conv => whnf
  refine ccS (E := E_Config_Int_Int) h (image_Decode_w a0) rfl rfl (fun x1 h => ?_)
  conv => whnf
  refine fkS h (fun h => ?_) (fun h => ?_)
  · conv => whnf
    exact rt (E := E_ListWorldView_Int) h rfl
  conv => whnf
  refine ccS (E := E_KernelState_Int) h (kernel_Boot_w x1.1) rfl rfl (fun x2 h => ?_)
  conv => whnf
  refine fkS h (fun h => ?_) (fun h => ?_)
  · conv => whnf
    exact rt (E := E_ListWorldView_Int) h rfl
  conv => whnf
  refine caS (E := E_Bool) h (world_may_w a1) rfl (fun _ => rfl) (fun x3 h => ?_)
  conv => whnf
  refine fkS h (fun h => ?_) (fun h => ?_)
  · conv => whnf
    exact rt (E := E_ListWorldView_Int) h rfl
  conv => whnf
  refine lenS x2.1.Parts PartState.enc rfl ?_
  conv => whnf
  refine mkF h (fun hb h => ?_) (fun h => ?_)
  · conv => whnf
    refine mkB0 tab rfl rfl rfl rfl (of_decide_eq_true hb) (of_decide_eq_true hb) rfl rfl rfl ?_
    conv => whnf
    refine lenS a1 (eL KernelCmd.enc) rfl ?_
    conv => whnf
    refine lpS (fun v88 => ⟨[(9, .l (.ptr 10 0)), (10, .l (.d (.sl (([] : List WorldView).map WorldView.enc)))), (47, .l (.d (.sl (a1.map (eL KernelCmd.enc))))), (48, .l (.d (.int .i64 (a1.length : Int)))), (49, .l (.d (.int .i64 v88.2.2.2.2.2.2)))], 142, [], [(10, [.d (.int .i64 v88.1), .d (.sl (v88.2.1.map Window.enc)), .d (.sl (v88.2.2.1.map Face.enc)), .d (.sl (v88.2.2.2.1.map PartState.enc)), .d (.sl (v88.2.2.2.2.1.map PortLine.enc)), .d (.int .i64 v88.2.2.2.2.2.1)])], []⟩) h (Weak.refl _) (fun _ nx88 hn88 v88 h => ?_)
    conv => whnf
    refine fkS h (fun h => ?_) (fun h => ?_)
    · conv => whnf
      refine ixS (enc := (eL KernelCmd.enc)) h rfl (fun _ => rfl) (fun x89 h => ?_)
      conv => whnf
      refine lenS x89 KernelCmd.enc rfl ?_
      conv => whnf
      refine lpS (fun v90 => ⟨[(9, .l (.ptr 10 0)), (10, .l (.d (.sl (([] : List WorldView).map WorldView.enc)))), (11, .l (.d (.int .i64 v88.2.2.2.2.2.2))), (47, .l (.d (.sl (a1.map (eL KernelCmd.enc))))), (48, .l (.d (.int .i64 (a1.length : Int)))), (49, .l (.d (.int .i64 v88.2.2.2.2.2.2))), (54, .l (.d (.sl (x89.map KernelCmd.enc)))), (55, .l (.d (.int .i64 (x89.length : Int)))), (56, .l (.d (.int .i64 v90.2.2.2.2.2.2)))], 142, [], [(10, [.d (.int .i64 v90.1), .d (.sl (v90.2.1.map Window.enc)), .d (.sl (v90.2.2.1.map Face.enc)), .d (.sl (v90.2.2.2.1.map PartState.enc)), .d (.sl (v90.2.2.2.2.1.map PortLine.enc)), .d (.int .i64 v90.2.2.2.2.2.1)])], []⟩) h (Weak.refl _) (fun _ nx90 hn90 v90 h => ?_)
      conv => whnf
      refine fkS h (fun h => ?_) (fun h => ?_)
      · conv => whnf
        refine ixS (enc := KernelCmd.enc) h rfl (fun _ => rfl) (fun x91 h => ?_)
        conv => whnf
        refine ccS (E := E_KernelState_Int_Int) h (kernel_Do_w (⟨⟨v90.1, v90.2.1⟩, v90.2.2.1, v90.2.2.2.1, v90.2.2.2.2.1, v90.2.2.2.2.2.1⟩) x91) rfl rfl (fun x92 h => ?_)
        conv => whnf
        refine jnS (fun w93 => ⟨[(9, .l (.ptr 10 0)), (10, .l (.d (.sl (([] : List WorldView).map WorldView.enc)))), (11, .l (.d (.int .i64 v88.2.2.2.2.2.2))), (15, .l (.ptr 16 0)), (47, .l (.d (.sl (a1.map (eL KernelCmd.enc))))), (48, .l (.d (.int .i64 (a1.length : Int)))), (49, .l (.d (.int .i64 v88.2.2.2.2.2.2))), (54, .l (.d (.sl (x89.map KernelCmd.enc)))), (55, .l (.d (.int .i64 (x89.length : Int)))), (56, .l (.d (.int .i64 v90.2.2.2.2.2.2)))], 142, [], [(10, [.d (.int .i64 v90.1), .d (.sl (v90.2.1.map Window.enc)), .d (.sl (v90.2.2.1.map Face.enc)), .d (.sl (v90.2.2.2.1.map PartState.enc)), .d (.sl (v90.2.2.2.2.1.map PortLine.enc)), .d (.int .i64 v90.2.2.2.2.2.1)]), (16, [.d (.int .i64 x92.1.Table.Frame), .d (.sl (x92.1.Table.Windows.map Window.enc)), .d (.sl (x92.1.Faces.map Face.enc)), .d (.sl (x92.1.Parts.map PartState.enc)), .d (.sl (x92.1.Lines.map PortLine.enc)), .d (.int .i64 x92.1.Now)])], []⟩) h (fun k93 hk93 h => ?_) (fun w93 h => ?_)
        · conv => whnf
          refine jnS (fun w94 => ⟨[(9, .l (.ptr 10 0)), (10, .l (.d (.sl (([] : List WorldView).map WorldView.enc)))), (11, .l (.d (.int .i64 v88.2.2.2.2.2.2))), (14, .l (.ptr 15 0)), (15, .l (.ptr 16 0)), (16, .l (.d (.int .i64 x92.2.1))), (17, .l (.d (.int .i64 x92.2.2))), (47, .l (.d (.sl (a1.map (eL KernelCmd.enc))))), (48, .l (.d (.int .i64 (a1.length : Int)))), (49, .l (.d (.int .i64 v88.2.2.2.2.2.2))), (54, .l (.d (.sl (x89.map KernelCmd.enc)))), (55, .l (.d (.int .i64 (x89.length : Int)))), (56, .l (.d (.int .i64 v90.2.2.2.2.2.2))), (76, .l (.d (.bool w94)))], 142, [], [(10, [.d (.int .i64 v90.1), .d (.sl (v90.2.1.map Window.enc)), .d (.sl (v90.2.2.1.map Face.enc)), .d (.sl (v90.2.2.2.1.map PartState.enc)), .d (.sl (v90.2.2.2.2.1.map PortLine.enc)), .d (.int .i64 v90.2.2.2.2.2.1)]), (15, [.d (.int .i64 x91.Part), .d (.int .i64 x91.Kind), .d (.int .i64 x91.I), .d (.int .i64 x91.V), .d (.int .i64 x91.T.C), .d (.int .i64 x91.T.D), .d (.int .i64 x91.T.T), .d (.sl (x91.T.Secs.map Sec.enc))]), (16, [.d (.int .i64 x92.1.Table.Frame), .d (.sl (x92.1.Table.Windows.map Window.enc)), .d (.sl (x92.1.Faces.map Face.enc)), .d (.sl (x92.1.Parts.map PartState.enc)), .d (.sl (x92.1.Lines.map PortLine.enc)), .d (.int .i64 x92.1.Now)])], []⟩) h (fun k94 hk94 h => ?_) (fun w94 h => ?_)
          · conv => whnf
            refine fkS h (fun h => ?_) (fun h => ?_)
            · conv => whnf
              refine lenS ([] : List WorldView) WorldView.enc rfl ?_
              conv => whnf
              exact jeS hk94 h (Weak.refl _)
            conv => whnf
            exact jeS hk94 h (Weak.refl _)
          conv => whnf
          refine fkS h (fun h => ?_) (fun h => ?_)
          · conv => whnf
            refine ⟨15, ?_⟩
            conv => whnf
            cases h
          conv => whnf
          refine jeX hk93 h ?_
          conv => whnf
          refine WkF.step (Weak.keepS _ [9, 10, 11, 15, 47, 48, 49, 54, 55, 56]) ?_
          conv => whnf
          exact WkF.refl _
        conv => whnf
        exact leS hn90 h (Weak.refl _)
      conv => whnf
      refine ccS (E := E_KernelState_ListInt_Int) h (kernel_Tick_w (⟨⟨v90.1, v90.2.1⟩, v90.2.2.1, v90.2.2.2.1, v90.2.2.2.2.1, v90.2.2.2.2.2.1⟩)) rfl rfl (fun x95 h => ?_)
      conv => whnf
      refine lenS ([] : List WorldView) WorldView.enc rfl ?_
      conv => whnf
      refine lpS (fun v96 => ⟨[(9, .l (.ptr 10 0)), (10, .l (.d (.sl (([] : List WorldView).map WorldView.enc)))), (18, .l (.ptr 19 0)), (19, .l (.d (.sl (x95.2.1.map (eI .i64))))), (47, .l (.d (.sl (a1.map (eL KernelCmd.enc))))), (48, .l (.d (.int .i64 (a1.length : Int)))), (49, .l (.d (.int .i64 v88.2.2.2.2.2.2))), (103, .l (.d (.int .i64 (0 : Int)))), (104, .l (.d (.int .i64 (0 : Int))))], 142, [], [(10, [.d (.int .i64 v90.1), .d (.sl (v90.2.1.map Window.enc)), .d (.sl (v90.2.2.1.map Face.enc)), .d (.sl (v90.2.2.2.1.map PartState.enc)), .d (.sl (v90.2.2.2.2.1.map PortLine.enc)), .d (.int .i64 v90.2.2.2.2.2.1)]), (19, [.d (.int .i64 x95.1.Table.Frame), .d (.sl (x95.1.Table.Windows.map Window.enc)), .d (.sl (x95.1.Faces.map Face.enc)), .d (.sl (x95.1.Parts.map PartState.enc)), .d (.sl (x95.1.Lines.map PortLine.enc)), .d (.int .i64 x95.1.Now)])], []⟩) h (Weak.refl _) (fun _ nx96 hn96 v96 h => ?_)
      conv => whnf
      exact leS hn88 h (Weak.refl _)
    conv => whnf
    refine lenS ([] : List WorldView) WorldView.enc rfl ?_
    conv => whnf
    refine lpS (fun v97 => ⟨[(9, .l (.ptr 10 0)), (10, .l (.d (.sl (([] : List WorldView).map WorldView.enc)))), (126, .l (.d (.int .i64 (0 : Int)))), (127, .l (.d (.int .i64 (0 : Int))))], 142, [], [(10, [.d (.int .i64 v88.1), .d (.sl (v88.2.1.map Window.enc)), .d (.sl (v88.2.2.1.map Face.enc)), .d (.sl (v88.2.2.2.1.map PartState.enc)), .d (.sl (v88.2.2.2.2.1.map PortLine.enc)), .d (.int .i64 v88.2.2.2.2.2.1)])], []⟩) h (Weak.refl _) (fun _ nx97 hn97 v97 h => ?_)
    conv => whnf
    exact rt (E := E_ListWorldView_Int) h rfl
  conv => whnf
  refine mkF h (fun hb h => ?_) (fun h => ?_)
  · conv => whnf
    refine mkB tab 1 rfl rfl rfl rfl (of_decide_eq_true hb) (of_decide_eq_true hb) rfl rfl rfl (Nat.le_of_ble_eq_true rfl) (Nat.le_of_ble_eq_true rfl) (Nat.le_of_ble_eq_true rfl) rfl ?_
    conv => whnf
    refine lenS a1 (eL KernelCmd.enc) rfl ?_
    conv => whnf
    refine lpS (fun v73 => ⟨[(9, .l (.ptr 10 0)), (10, .l (.bsl 47 1 3)), (47, .l (.d (.sl (a1.map (eL KernelCmd.enc))))), (48, .l (.d (.int .i64 (a1.length : Int)))), (49, .l (.d (.int .i64 v73.2.2.2.2.2.2.2.2)))], 142, [], [(10, [.d (.int .i64 v73.1), .d (.sl (v73.2.1.map Window.enc)), .d (.sl (v73.2.2.1.map Face.enc)), .d (.sl (v73.2.2.2.1.map PartState.enc)), .d (.sl (v73.2.2.2.2.1.map PortLine.enc)), .d (.int .i64 v73.2.2.2.2.2.1)]), (47, [.own 54700, .own 54701, .nil])], [(54700, 87, 3, v73.2.2.2.2.2.2.1.map WorldSaw.enc), (54701, 3, 1, v73.2.2.2.2.2.2.2.1.map (eI .i64))]⟩) h (Weak.trans (Weak.nilBO _ 47 0 54700 87 3 _ rfl rfl) (Weak.trans (Weak.nilBO _ 47 1 54701 3 1 _ rfl rfl) (Weak.refl _))) (fun _ nx73 hn73 v73 h => ?_)
    conv => whnf
    refine fkS h (fun h => ?_) (fun h => ?_)
    · conv => whnf
      refine ixS (enc := (eL KernelCmd.enc)) h rfl (fun _ => rfl) (fun x74 h => ?_)
      conv => whnf
      refine lenS x74 KernelCmd.enc rfl ?_
      conv => whnf
      refine lpS (fun v75 => ⟨[(9, .l (.ptr 10 0)), (10, .l (.bsl 47 1 3)), (11, .l (.d (.int .i64 v73.2.2.2.2.2.2.2.2))), (47, .l (.d (.sl (a1.map (eL KernelCmd.enc))))), (48, .l (.d (.int .i64 (a1.length : Int)))), (49, .l (.d (.int .i64 v73.2.2.2.2.2.2.2.2))), (54, .l (.d (.sl (x74.map KernelCmd.enc)))), (55, .l (.d (.int .i64 (x74.length : Int)))), (56, .l (.d (.int .i64 v75.2.2.2.2.2.2.2)))], 142, [], [(10, [.d (.int .i64 v75.1), .d (.sl (v75.2.1.map Window.enc)), .d (.sl (v75.2.2.1.map Face.enc)), .d (.sl (v75.2.2.2.1.map PartState.enc)), .d (.sl (v75.2.2.2.2.1.map PortLine.enc)), .d (.int .i64 v75.2.2.2.2.2.1)]), (47, [.own 54700, .own 54701, .nil])], [(54700, 87, 3, v75.2.2.2.2.2.2.1.map WorldSaw.enc), (54701, 3, 1, v73.2.2.2.2.2.2.2.1.map (eI .i64))]⟩) h (Weak.refl _) (fun _ nx75 hn75 v75 h => ?_)
      conv => whnf
      refine fkS h (fun h => ?_) (fun h => ?_)
      · conv => whnf
        refine ixS (enc := KernelCmd.enc) h rfl (fun _ => rfl) (fun x76 h => ?_)
        conv => whnf
        refine ccS (E := E_KernelState_Int_Int) h (kernel_Do_w (⟨⟨v75.1, v75.2.1⟩, v75.2.2.1, v75.2.2.2.1, v75.2.2.2.2.1, v75.2.2.2.2.2.1⟩) x76) rfl rfl (fun x77 h => ?_)
        conv => whnf
        refine jnS (fun w78 => ⟨[(9, .l (.ptr 10 0)), (10, .l (.bsl 47 1 3)), (11, .l (.d (.int .i64 v73.2.2.2.2.2.2.2.2))), (15, .l (.ptr 16 0)), (47, .l (.d (.sl (a1.map (eL KernelCmd.enc))))), (48, .l (.d (.int .i64 (a1.length : Int)))), (49, .l (.d (.int .i64 v73.2.2.2.2.2.2.2.2))), (54, .l (.d (.sl (x74.map KernelCmd.enc)))), (55, .l (.d (.int .i64 (x74.length : Int)))), (56, .l (.d (.int .i64 v75.2.2.2.2.2.2.2)))], 142, [], [(10, [.d (.int .i64 v75.1), .d (.sl (v75.2.1.map Window.enc)), .d (.sl (v75.2.2.1.map Face.enc)), .d (.sl (v75.2.2.2.1.map PartState.enc)), .d (.sl (v75.2.2.2.2.1.map PortLine.enc)), .d (.int .i64 v75.2.2.2.2.2.1)]), (16, [.d (.int .i64 x77.1.Table.Frame), .d (.sl (x77.1.Table.Windows.map Window.enc)), .d (.sl (x77.1.Faces.map Face.enc)), .d (.sl (x77.1.Parts.map PartState.enc)), .d (.sl (x77.1.Lines.map PortLine.enc)), .d (.int .i64 x77.1.Now)]), (47, [.own 54700, .own 54701, .nil])], [(54700, 87, 3, w78.map WorldSaw.enc), (54701, 3, 1, v73.2.2.2.2.2.2.2.1.map (eI .i64))]⟩) h (fun k78 hk78 h => ?_) (fun w78 h => ?_)
        · conv => whnf
          refine jnS (fun w79 => ⟨[(9, .l (.ptr 10 0)), (10, .l (.bsl 47 1 3)), (11, .l (.d (.int .i64 v73.2.2.2.2.2.2.2.2))), (14, .l (.ptr 15 0)), (15, .l (.ptr 16 0)), (16, .l (.d (.int .i64 x77.2.1))), (17, .l (.d (.int .i64 x77.2.2))), (47, .l (.d (.sl (a1.map (eL KernelCmd.enc))))), (48, .l (.d (.int .i64 (a1.length : Int)))), (49, .l (.d (.int .i64 v73.2.2.2.2.2.2.2.2))), (54, .l (.d (.sl (x74.map KernelCmd.enc)))), (55, .l (.d (.int .i64 (x74.length : Int)))), (56, .l (.d (.int .i64 v75.2.2.2.2.2.2.2))), (76, .l (.d (.bool w79)))], 142, [], [(10, [.d (.int .i64 v75.1), .d (.sl (v75.2.1.map Window.enc)), .d (.sl (v75.2.2.1.map Face.enc)), .d (.sl (v75.2.2.2.1.map PartState.enc)), .d (.sl (v75.2.2.2.2.1.map PortLine.enc)), .d (.int .i64 v75.2.2.2.2.2.1)]), (15, [.d (.int .i64 x76.Part), .d (.int .i64 x76.Kind), .d (.int .i64 x76.I), .d (.int .i64 x76.V), .d (.int .i64 x76.T.C), .d (.int .i64 x76.T.D), .d (.int .i64 x76.T.T), .d (.sl (x76.T.Secs.map Sec.enc))]), (16, [.d (.int .i64 x77.1.Table.Frame), .d (.sl (x77.1.Table.Windows.map Window.enc)), .d (.sl (x77.1.Faces.map Face.enc)), .d (.sl (x77.1.Parts.map PartState.enc)), .d (.sl (x77.1.Lines.map PortLine.enc)), .d (.int .i64 x77.1.Now)]), (47, [.own 54700, .own 54701, .nil])], [(54700, 87, 3, v75.2.2.2.2.2.2.1.map WorldSaw.enc), (54701, 3, 1, v73.2.2.2.2.2.2.2.1.map (eI .i64))]⟩) h (fun k79 hk79 h => ?_) (fun w79 h => ?_)
          · conv => whnf
            refine fkS h (fun h => ?_) (fun h => ?_)
            · conv => whnf
              refine lenB tab rfl rfl rfl rfl rfl ?_
              conv => whnf
              exact jeS hk79 h (Weak.refl _)
            conv => whnf
            exact jeS hk79 h (Weak.refl _)
          conv => whnf
          refine fkS h (fun h => ?_) (fun h => ?_)
          · conv => whnf
            refine ⟨15, ?_⟩
            conv => whnf
            refine fkN h (fun q80 h => ?_) (fun q80 h => ?_)
            · conv => whnf
              refine liS ([⟨v73.2.2.2.2.2.2.2.2, x77.2.1, x77.2.2⟩] : List WorldSaw) WorldSaw.enc rfl rfl ?_
              conv => whnf
              refine apS (enc := WorldSaw.enc) (l1 := v75.2.2.2.2.2.2.1) (l2 := ([⟨v73.2.2.2.2.2.2.2.2, x77.2.1, x77.2.2⟩] : List WorldSaw)) h rfl rfl (fun _ => rfl) (fun h => ?_)
              conv => whnf
              refine drS (by kernel_rfl) ?_
              conv => whnf
              refine fork_t q80 ?_
              conv => whnf
              refine jeX hk78 h ?_
              conv => whnf
              refine WkF.step (Weak.rekey _ 92 54700 rfl) ?_
              conv => whnf
              exact WkF.refl _
            conv => whnf
            cases h
          conv => whnf
          refine jeX hk78 h ?_
          conv => whnf
          refine WkF.step (Weak.keepS _ [9, 10, 11, 15, 47, 48, 49, 54, 55, 56]) ?_
          conv => whnf
          exact WkF.refl _
        conv => whnf
        exact leS hn75 h (Weak.refl _)
      conv => whnf
      refine ccS (E := E_KernelState_ListInt_Int) h (kernel_Tick_w (⟨⟨v75.1, v75.2.1⟩, v75.2.2.1, v75.2.2.2.1, v75.2.2.2.2.1, v75.2.2.2.2.2.1⟩)) rfl rfl (fun x81 h => ?_)
      conv => whnf
      refine lenB tab rfl rfl rfl rfl rfl ?_
      conv => whnf
      refine lpS (fun v82 => ⟨[(9, .l (.ptr 10 0)), (10, .l (.bsl 47 1 3)), (18, .l (.ptr 19 0)), (19, .l (.d (.sl (x81.2.1.map (eI .i64))))), (47, .l (.d (.sl (a1.map (eL KernelCmd.enc))))), (48, .l (.d (.int .i64 (a1.length : Int)))), (49, .l (.d (.int .i64 v73.2.2.2.2.2.2.2.2))), (103, .l (.d (.int .i64 (1 : Int)))), (104, .l (.d (.int .i64 v82.2)))], 142, [], [(10, [.d (.int .i64 v75.1), .d (.sl (v75.2.1.map Window.enc)), .d (.sl (v75.2.2.1.map Face.enc)), .d (.sl (v75.2.2.2.1.map PartState.enc)), .d (.sl (v75.2.2.2.2.1.map PortLine.enc)), .d (.int .i64 v75.2.2.2.2.2.1)]), (19, [.d (.int .i64 x81.1.Table.Frame), .d (.sl (x81.1.Table.Windows.map Window.enc)), .d (.sl (x81.1.Faces.map Face.enc)), .d (.sl (x81.1.Parts.map PartState.enc)), .d (.sl (x81.1.Lines.map PortLine.enc)), .d (.int .i64 x81.1.Now)]), (47, [.own 54700, .own 54701, .nil])], [(54700, 87, 3, v75.2.2.2.2.2.2.1.map WorldSaw.enc), (54701, 3, 1, v82.1.map (eI .i64))]⟩) h (Weak.refl _) (fun _ nx82 hn82 v82 h => ?_)
      conv => whnf
      refine fkS h (fun h => ?_) (fun h => ?_)
      · conv => whnf
        refine ⟨13, ?_⟩
        conv => whnf
        refine fkN h (fun q83 h => ?_) (fun q83 h => ?_)
        · conv => whnf
          refine ixS (enc := (eI .i64)) h rfl (fun _ => rfl) (fun x84 h => ?_)
          conv => whnf
          refine liS ([x84] : List Int) (eI .i64) rfl rfl ?_
          conv => whnf
          refine apS (enc := (eI .i64)) (l1 := v82.1) (l2 := ([x84] : List Int)) h rfl rfl (fun _ => rfl) (fun h => ?_)
          conv => whnf
          refine drS (by kernel_rfl) ?_
          conv => whnf
          refine fork_t q83 ?_
          conv => whnf
          refine leX hn82 h ?_
          conv => whnf
          refine WkF.step (Weak.rekey _ 120 54701 rfl) ?_
          conv => whnf
          exact WkF.refl _
        conv => whnf
        cases h
      conv => whnf
      exact leS hn73 h (Weak.refl _)
    conv => whnf
    refine lenB tab rfl rfl rfl rfl rfl ?_
    conv => whnf
    refine lpS (fun v85 => ⟨[(9, .l (.ptr 10 0)), (10, .l (.bsl 47 1 3)), (126, .l (.d (.int .i64 (1 : Int)))), (127, .l (.d (.int .i64 v85.2)))], 142, [], [(10, [.d (.int .i64 v73.1), .d (.sl (v73.2.1.map Window.enc)), .d (.sl (v73.2.2.1.map Face.enc)), .d (.sl (v73.2.2.2.1.map PartState.enc)), .d (.sl (v73.2.2.2.2.1.map PortLine.enc)), .d (.int .i64 v73.2.2.2.2.2.1)]), (47, [.own 54700, .own 54701, .d (.sl (v85.1.map Entry.enc))])], [(54700, 87, 3, v73.2.2.2.2.2.2.1.map WorldSaw.enc), (54701, 3, 1, v73.2.2.2.2.2.2.2.1.map (eI .i64))]⟩) h (Weak.trans (Weak.nilBD _ 47 2 _ rfl rfl) (Weak.refl _)) (fun _ nx85 hn85 v85 h => ?_)
    conv => whnf
    refine fkS h (fun h => ?_) (fun h => ?_)
    · conv => whnf
      refine ixS (enc := PartState.enc) h rfl (fun _ => rfl) (fun x86 h => ?_)
      conv => whnf
      refine fkN h (fun q87 h => ?_) (fun q87 h => ?_)
      · conv => whnf
        exact leS hn85 h (Weak.refl _)
      conv => whnf
      cases h
    conv => whnf
    exact rt (E := E_ListWorldView_Int) h rfl
  conv => whnf
  refine mkF h (fun hb h => ?_) (fun h => ?_)
  · conv => whnf
    refine mkB tab 2 rfl rfl rfl rfl (of_decide_eq_true hb) (of_decide_eq_true hb) rfl rfl rfl (Nat.le_of_ble_eq_true rfl) (Nat.le_of_ble_eq_true rfl) (Nat.le_of_ble_eq_true rfl) rfl ?_
    conv => whnf
    refine lenS a1 (eL KernelCmd.enc) rfl ?_
    conv => whnf
    refine lpX (fun v54 => ⟨[(9, .l (.ptr 10 0)), (10, .l (.bsl 47 2 3)), (47, .l (.d (.sl (a1.map (eL KernelCmd.enc))))), (48, .l (.d (.int .i64 (a1.length : Int)))), (49, .l (.d (.int .i64 v54.2.2.2.2.2.2.2.2.2.2)))], 142, [], [(10, [.d (.int .i64 v54.1), .d (.sl (v54.2.1.map Window.enc)), .d (.sl (v54.2.2.1.map Face.enc)), .d (.sl (v54.2.2.2.1.map PartState.enc)), .d (.sl (v54.2.2.2.2.1.map PortLine.enc)), .d (.int .i64 v54.2.2.2.2.2.1)]), (47, [.own 54700, .own 54701, .nil, .own 54703, .own 54704, .nil])], [(54700, 87, 3, v54.2.2.2.2.2.2.1.map WorldSaw.enc), (54701, 3, 1, v54.2.2.2.2.2.2.2.1.map (eI .i64)), (54703, 87, 3, v54.2.2.2.2.2.2.2.2.1.map WorldSaw.enc), (54704, 3, 1, v54.2.2.2.2.2.2.2.2.2.1.map (eI .i64))]⟩) h ?_ (fun _ nx54 hn54 v54 h => ?_)
    · conv => whnf
      refine WkF.step (Weak.nilBO _ 47 0 54700 87 3 _ rfl rfl) ?_
      conv => whnf
      refine WkF.step (Weak.nilBO _ 47 1 54701 3 1 _ rfl rfl) ?_
      conv => whnf
      refine WkF.step (Weak.nilBO _ 47 3 54703 87 3 _ rfl rfl) ?_
      conv => whnf
      refine WkF.step (Weak.nilBO _ 47 4 54704 3 1 _ rfl rfl) ?_
      conv => whnf
      exact WkF.refl _
    conv => whnf
    refine fkS h (fun h => ?_) (fun h => ?_)
    · conv => whnf
      refine ixS (enc := (eL KernelCmd.enc)) h rfl (fun _ => rfl) (fun x55 h => ?_)
      conv => whnf
      refine lenS x55 KernelCmd.enc rfl ?_
      conv => whnf
      refine lpS (fun v56 => ⟨[(9, .l (.ptr 10 0)), (10, .l (.bsl 47 2 3)), (11, .l (.d (.int .i64 v54.2.2.2.2.2.2.2.2.2.2))), (47, .l (.d (.sl (a1.map (eL KernelCmd.enc))))), (48, .l (.d (.int .i64 (a1.length : Int)))), (49, .l (.d (.int .i64 v54.2.2.2.2.2.2.2.2.2.2))), (54, .l (.d (.sl (x55.map KernelCmd.enc)))), (55, .l (.d (.int .i64 (x55.length : Int)))), (56, .l (.d (.int .i64 v56.2.2.2.2.2.2.2.2)))], 142, [], [(10, [.d (.int .i64 v56.1), .d (.sl (v56.2.1.map Window.enc)), .d (.sl (v56.2.2.1.map Face.enc)), .d (.sl (v56.2.2.2.1.map PartState.enc)), .d (.sl (v56.2.2.2.2.1.map PortLine.enc)), .d (.int .i64 v56.2.2.2.2.2.1)]), (47, [.own 54700, .own 54701, .nil, .own 54703, .own 54704, .nil])], [(54700, 87, 3, v56.2.2.2.2.2.2.1.map WorldSaw.enc), (54701, 3, 1, v54.2.2.2.2.2.2.2.1.map (eI .i64)), (54703, 87, 3, v56.2.2.2.2.2.2.2.1.map WorldSaw.enc), (54704, 3, 1, v54.2.2.2.2.2.2.2.2.2.1.map (eI .i64))]⟩) h (Weak.refl _) (fun _ nx56 hn56 v56 h => ?_)
      conv => whnf
      refine fkS h (fun h => ?_) (fun h => ?_)
      · conv => whnf
        refine ixS (enc := KernelCmd.enc) h rfl (fun _ => rfl) (fun x57 h => ?_)
        conv => whnf
        refine ccS (E := E_KernelState_Int_Int) h (kernel_Do_w (⟨⟨v56.1, v56.2.1⟩, v56.2.2.1, v56.2.2.2.1, v56.2.2.2.2.1, v56.2.2.2.2.2.1⟩) x57) rfl rfl (fun x58 h => ?_)
        conv => whnf
        refine jnS (fun w59 => ⟨[(9, .l (.ptr 10 0)), (10, .l (.bsl 47 2 3)), (11, .l (.d (.int .i64 v54.2.2.2.2.2.2.2.2.2.2))), (15, .l (.ptr 16 0)), (47, .l (.d (.sl (a1.map (eL KernelCmd.enc))))), (48, .l (.d (.int .i64 (a1.length : Int)))), (49, .l (.d (.int .i64 v54.2.2.2.2.2.2.2.2.2.2))), (54, .l (.d (.sl (x55.map KernelCmd.enc)))), (55, .l (.d (.int .i64 (x55.length : Int)))), (56, .l (.d (.int .i64 v56.2.2.2.2.2.2.2.2)))], 142, [], [(10, [.d (.int .i64 v56.1), .d (.sl (v56.2.1.map Window.enc)), .d (.sl (v56.2.2.1.map Face.enc)), .d (.sl (v56.2.2.2.1.map PartState.enc)), .d (.sl (v56.2.2.2.2.1.map PortLine.enc)), .d (.int .i64 v56.2.2.2.2.2.1)]), (16, [.d (.int .i64 x58.1.Table.Frame), .d (.sl (x58.1.Table.Windows.map Window.enc)), .d (.sl (x58.1.Faces.map Face.enc)), .d (.sl (x58.1.Parts.map PartState.enc)), .d (.sl (x58.1.Lines.map PortLine.enc)), .d (.int .i64 x58.1.Now)]), (47, [.own 54700, .own 54701, .nil, .own 54703, .own 54704, .nil])], [(54700, 87, 3, w59.1.map WorldSaw.enc), (54701, 3, 1, v54.2.2.2.2.2.2.2.1.map (eI .i64)), (54703, 87, 3, w59.2.map WorldSaw.enc), (54704, 3, 1, v54.2.2.2.2.2.2.2.2.2.1.map (eI .i64))]⟩) h (fun k59 hk59 h => ?_) (fun w59 h => ?_)
        · conv => whnf
          refine jnS (fun w60 => ⟨[(9, .l (.ptr 10 0)), (10, .l (.bsl 47 2 3)), (11, .l (.d (.int .i64 v54.2.2.2.2.2.2.2.2.2.2))), (14, .l (.ptr 15 0)), (15, .l (.ptr 16 0)), (16, .l (.d (.int .i64 x58.2.1))), (17, .l (.d (.int .i64 x58.2.2))), (47, .l (.d (.sl (a1.map (eL KernelCmd.enc))))), (48, .l (.d (.int .i64 (a1.length : Int)))), (49, .l (.d (.int .i64 v54.2.2.2.2.2.2.2.2.2.2))), (54, .l (.d (.sl (x55.map KernelCmd.enc)))), (55, .l (.d (.int .i64 (x55.length : Int)))), (56, .l (.d (.int .i64 v56.2.2.2.2.2.2.2.2))), (76, .l (.d (.bool w60)))], 142, [], [(10, [.d (.int .i64 v56.1), .d (.sl (v56.2.1.map Window.enc)), .d (.sl (v56.2.2.1.map Face.enc)), .d (.sl (v56.2.2.2.1.map PartState.enc)), .d (.sl (v56.2.2.2.2.1.map PortLine.enc)), .d (.int .i64 v56.2.2.2.2.2.1)]), (15, [.d (.int .i64 x57.Part), .d (.int .i64 x57.Kind), .d (.int .i64 x57.I), .d (.int .i64 x57.V), .d (.int .i64 x57.T.C), .d (.int .i64 x57.T.D), .d (.int .i64 x57.T.T), .d (.sl (x57.T.Secs.map Sec.enc))]), (16, [.d (.int .i64 x58.1.Table.Frame), .d (.sl (x58.1.Table.Windows.map Window.enc)), .d (.sl (x58.1.Faces.map Face.enc)), .d (.sl (x58.1.Parts.map PartState.enc)), .d (.sl (x58.1.Lines.map PortLine.enc)), .d (.int .i64 x58.1.Now)]), (47, [.own 54700, .own 54701, .nil, .own 54703, .own 54704, .nil])], [(54700, 87, 3, v56.2.2.2.2.2.2.1.map WorldSaw.enc), (54701, 3, 1, v54.2.2.2.2.2.2.2.1.map (eI .i64)), (54703, 87, 3, v56.2.2.2.2.2.2.2.1.map WorldSaw.enc), (54704, 3, 1, v54.2.2.2.2.2.2.2.2.2.1.map (eI .i64))]⟩) h (fun k60 hk60 h => ?_) (fun w60 h => ?_)
          · conv => whnf
            refine fkS h (fun h => ?_) (fun h => ?_)
            · conv => whnf
              refine lenB tab rfl rfl rfl rfl rfl ?_
              conv => whnf
              exact jeS hk60 h (Weak.refl _)
            conv => whnf
            exact jeS hk60 h (Weak.refl _)
          conv => whnf
          refine fkS h (fun h => ?_) (fun h => ?_)
          · conv => whnf
            refine ⟨15, ?_⟩
            conv => whnf
            refine fkN h (fun q61 h => ?_) (fun q61 h => ?_)
            · conv => whnf
              refine liS ([⟨v54.2.2.2.2.2.2.2.2.2.2, x58.2.1, x58.2.2⟩] : List WorldSaw) WorldSaw.enc rfl rfl ?_
              conv => whnf
              refine apS (enc := WorldSaw.enc) (l1 := v56.2.2.2.2.2.2.1) (l2 := ([⟨v54.2.2.2.2.2.2.2.2.2.2, x58.2.1, x58.2.2⟩] : List WorldSaw)) h rfl rfl (fun _ => rfl) (fun h => ?_)
              conv => whnf
              refine drS (by kernel_rfl) ?_
              conv => whnf
              refine fork_t q61 ?_
              conv => whnf
              refine jeX hk59 h ?_
              conv => whnf
              refine WkF.step (Weak.rekey _ 92 54700 rfl) ?_
              conv => whnf
              exact WkF.refl _
            conv => whnf
            refine fkN h (fun q62 h => ?_) (fun q62 h => ?_)
            · conv => whnf
              refine liS ([⟨v54.2.2.2.2.2.2.2.2.2.2, x58.2.1, x58.2.2⟩] : List WorldSaw) WorldSaw.enc rfl rfl ?_
              conv => whnf
              refine apS (enc := WorldSaw.enc) (l1 := v56.2.2.2.2.2.2.2.1) (l2 := ([⟨v54.2.2.2.2.2.2.2.2.2.2, x58.2.1, x58.2.2⟩] : List WorldSaw)) h rfl rfl (fun _ => rfl) (fun h => ?_)
              conv => whnf
              refine drS (by kernel_rfl) ?_
              conv => whnf
              refine fork_f q61 ?_
              conv => whnf
              refine fork_t q62 ?_
              conv => whnf
              refine jeX hk59 h ?_
              conv => whnf
              refine WkF.step (Weak.rekey _ 92 54703 rfl) ?_
              conv => whnf
              exact WkF.refl _
            conv => whnf
            cases h
          conv => whnf
          refine jeX hk59 h ?_
          conv => whnf
          refine WkF.step (Weak.keepS _ [9, 10, 11, 15, 47, 48, 49, 54, 55, 56]) ?_
          conv => whnf
          exact WkF.refl _
        conv => whnf
        exact leS hn56 h (Weak.refl _)
      conv => whnf
      refine ccS (E := E_KernelState_ListInt_Int) h (kernel_Tick_w (⟨⟨v56.1, v56.2.1⟩, v56.2.2.1, v56.2.2.2.1, v56.2.2.2.2.1, v56.2.2.2.2.2.1⟩)) rfl rfl (fun x63 h => ?_)
      conv => whnf
      refine lenB tab rfl rfl rfl rfl rfl ?_
      conv => whnf
      refine lpS (fun v64 => ⟨[(9, .l (.ptr 10 0)), (10, .l (.bsl 47 2 3)), (18, .l (.ptr 19 0)), (19, .l (.d (.sl (x63.2.1.map (eI .i64))))), (47, .l (.d (.sl (a1.map (eL KernelCmd.enc))))), (48, .l (.d (.int .i64 (a1.length : Int)))), (49, .l (.d (.int .i64 v54.2.2.2.2.2.2.2.2.2.2))), (103, .l (.d (.int .i64 (2 : Int)))), (104, .l (.d (.int .i64 v64.2.2)))], 142, [], [(10, [.d (.int .i64 v56.1), .d (.sl (v56.2.1.map Window.enc)), .d (.sl (v56.2.2.1.map Face.enc)), .d (.sl (v56.2.2.2.1.map PartState.enc)), .d (.sl (v56.2.2.2.2.1.map PortLine.enc)), .d (.int .i64 v56.2.2.2.2.2.1)]), (19, [.d (.int .i64 x63.1.Table.Frame), .d (.sl (x63.1.Table.Windows.map Window.enc)), .d (.sl (x63.1.Faces.map Face.enc)), .d (.sl (x63.1.Parts.map PartState.enc)), .d (.sl (x63.1.Lines.map PortLine.enc)), .d (.int .i64 x63.1.Now)]), (47, [.own 54700, .own 54701, .nil, .own 54703, .own 54704, .nil])], [(54700, 87, 3, v56.2.2.2.2.2.2.1.map WorldSaw.enc), (54701, 3, 1, v64.1.map (eI .i64)), (54703, 87, 3, v56.2.2.2.2.2.2.2.1.map WorldSaw.enc), (54704, 3, 1, v64.2.1.map (eI .i64))]⟩) h (Weak.refl _) (fun _ nx64 hn64 v64 h => ?_)
      conv => whnf
      refine fkS h (fun h => ?_) (fun h => ?_)
      · conv => whnf
        refine ⟨13, ?_⟩
        conv => whnf
        refine fkN h (fun q65 h => ?_) (fun q65 h => ?_)
        · conv => whnf
          refine ixS (enc := (eI .i64)) h rfl (fun _ => rfl) (fun x68 h => ?_)
          conv => whnf
          refine liS ([x68] : List Int) (eI .i64) rfl rfl ?_
          conv => whnf
          refine apS (enc := (eI .i64)) (l1 := v64.1) (l2 := ([x68] : List Int)) h rfl rfl (fun _ => rfl) (fun h => ?_)
          conv => whnf
          refine drS (by kernel_rfl) ?_
          conv => whnf
          refine fork_t q65 ?_
          conv => whnf
          refine leX hn64 h ?_
          conv => whnf
          refine WkF.step (Weak.rekey _ 120 54701 rfl) ?_
          conv => whnf
          exact WkF.refl _
        conv => whnf
        refine fkN h (fun q66 h => ?_) (fun q66 h => ?_)
        · conv => whnf
          refine ixS (enc := (eI .i64)) h rfl (fun _ => rfl) (fun x67 h => ?_)
          conv => whnf
          refine liS ([x67] : List Int) (eI .i64) rfl rfl ?_
          conv => whnf
          refine apS (enc := (eI .i64)) (l1 := v64.2.1) (l2 := ([x67] : List Int)) h rfl rfl (fun _ => rfl) (fun h => ?_)
          conv => whnf
          refine drS (by kernel_rfl) ?_
          conv => whnf
          refine fork_f q65 ?_
          conv => whnf
          refine fork_t q66 ?_
          conv => whnf
          refine leX hn64 h ?_
          conv => whnf
          refine WkF.step (Weak.rekey _ 120 54704 rfl) ?_
          conv => whnf
          exact WkF.refl _
        conv => whnf
        cases h
      conv => whnf
      exact leS hn54 h (Weak.refl _)
    conv => whnf
    refine lenB tab rfl rfl rfl rfl rfl ?_
    conv => whnf
    refine lpS (fun v69 => ⟨[(9, .l (.ptr 10 0)), (10, .l (.bsl 47 2 3)), (126, .l (.d (.int .i64 (2 : Int)))), (127, .l (.d (.int .i64 v69.2.2)))], 142, [], [(10, [.d (.int .i64 v54.1), .d (.sl (v54.2.1.map Window.enc)), .d (.sl (v54.2.2.1.map Face.enc)), .d (.sl (v54.2.2.2.1.map PartState.enc)), .d (.sl (v54.2.2.2.2.1.map PortLine.enc)), .d (.int .i64 v54.2.2.2.2.2.1)]), (47, [.own 54700, .own 54701, .d (.sl (v69.1.map Entry.enc)), .own 54703, .own 54704, .d (.sl (v69.2.1.map Entry.enc))])], [(54700, 87, 3, v54.2.2.2.2.2.2.1.map WorldSaw.enc), (54701, 3, 1, v54.2.2.2.2.2.2.2.1.map (eI .i64)), (54703, 87, 3, v54.2.2.2.2.2.2.2.2.1.map WorldSaw.enc), (54704, 3, 1, v54.2.2.2.2.2.2.2.2.2.1.map (eI .i64))]⟩) h (Weak.trans (Weak.nilBD _ 47 2 _ rfl rfl) (Weak.trans (Weak.nilBD _ 47 5 _ rfl rfl) (Weak.refl _))) (fun _ nx69 hn69 v69 h => ?_)
    conv => whnf
    refine fkS h (fun h => ?_) (fun h => ?_)
    · conv => whnf
      refine ixS (enc := PartState.enc) h rfl (fun _ => rfl) (fun x70 h => ?_)
      conv => whnf
      refine fkN h (fun q71 h => ?_) (fun q71 h => ?_)
      · conv => whnf
        exact leS hn69 h (Weak.refl _)
      conv => whnf
      refine fkN h (fun q72 h => ?_) (fun q72 h => ?_)
      · conv => whnf
        exact leS hn69 h (Weak.refl _)
      conv => whnf
      cases h
    conv => whnf
    exact rt (E := E_ListWorldView_Int) h rfl
  conv => whnf
  refine mkF h (fun hb h => ?_) (fun h => ?_)
  · conv => whnf
    refine mkB tab 3 rfl rfl rfl rfl (of_decide_eq_true hb) (of_decide_eq_true hb) rfl rfl rfl (Nat.le_of_ble_eq_true rfl) (Nat.le_of_ble_eq_true rfl) (Nat.le_of_ble_eq_true rfl) rfl ?_
    conv => whnf
    refine lenS a1 (eL KernelCmd.enc) rfl ?_
    conv => whnf
    refine lpX (fun v31 => ⟨[(9, .l (.ptr 10 0)), (10, .l (.bsl 47 3 3)), (47, .l (.d (.sl (a1.map (eL KernelCmd.enc))))), (48, .l (.d (.int .i64 (a1.length : Int)))), (49, .l (.d (.int .i64 v31.2.2.2.2.2.2.2.2.2.2.2.2)))], 142, [], [(10, [.d (.int .i64 v31.1), .d (.sl (v31.2.1.map Window.enc)), .d (.sl (v31.2.2.1.map Face.enc)), .d (.sl (v31.2.2.2.1.map PartState.enc)), .d (.sl (v31.2.2.2.2.1.map PortLine.enc)), .d (.int .i64 v31.2.2.2.2.2.1)]), (47, [.own 54700, .own 54701, .nil, .own 54703, .own 54704, .nil, .own 54706, .own 54707, .nil])], [(54700, 87, 3, v31.2.2.2.2.2.2.1.map WorldSaw.enc), (54701, 3, 1, v31.2.2.2.2.2.2.2.1.map (eI .i64)), (54703, 87, 3, v31.2.2.2.2.2.2.2.2.1.map WorldSaw.enc), (54704, 3, 1, v31.2.2.2.2.2.2.2.2.2.1.map (eI .i64)), (54706, 87, 3, v31.2.2.2.2.2.2.2.2.2.2.1.map WorldSaw.enc), (54707, 3, 1, v31.2.2.2.2.2.2.2.2.2.2.2.1.map (eI .i64))]⟩) h ?_ (fun _ nx31 hn31 v31 h => ?_)
    · conv => whnf
      refine WkF.step (Weak.nilBO _ 47 0 54700 87 3 _ rfl rfl) ?_
      conv => whnf
      refine WkF.step (Weak.nilBO _ 47 1 54701 3 1 _ rfl rfl) ?_
      conv => whnf
      refine WkF.step (Weak.nilBO _ 47 3 54703 87 3 _ rfl rfl) ?_
      conv => whnf
      refine WkF.step (Weak.nilBO _ 47 4 54704 3 1 _ rfl rfl) ?_
      conv => whnf
      refine WkF.step (Weak.nilBO _ 47 6 54706 87 3 _ rfl rfl) ?_
      conv => whnf
      refine WkF.step (Weak.nilBO _ 47 7 54707 3 1 _ rfl rfl) ?_
      conv => whnf
      exact WkF.refl _
    conv => whnf
    refine fkS h (fun h => ?_) (fun h => ?_)
    · conv => whnf
      refine ixS (enc := (eL KernelCmd.enc)) h rfl (fun _ => rfl) (fun x32 h => ?_)
      conv => whnf
      refine lenS x32 KernelCmd.enc rfl ?_
      conv => whnf
      refine lpS (fun v33 => ⟨[(9, .l (.ptr 10 0)), (10, .l (.bsl 47 3 3)), (11, .l (.d (.int .i64 v31.2.2.2.2.2.2.2.2.2.2.2.2))), (47, .l (.d (.sl (a1.map (eL KernelCmd.enc))))), (48, .l (.d (.int .i64 (a1.length : Int)))), (49, .l (.d (.int .i64 v31.2.2.2.2.2.2.2.2.2.2.2.2))), (54, .l (.d (.sl (x32.map KernelCmd.enc)))), (55, .l (.d (.int .i64 (x32.length : Int)))), (56, .l (.d (.int .i64 v33.2.2.2.2.2.2.2.2.2)))], 142, [], [(10, [.d (.int .i64 v33.1), .d (.sl (v33.2.1.map Window.enc)), .d (.sl (v33.2.2.1.map Face.enc)), .d (.sl (v33.2.2.2.1.map PartState.enc)), .d (.sl (v33.2.2.2.2.1.map PortLine.enc)), .d (.int .i64 v33.2.2.2.2.2.1)]), (47, [.own 54700, .own 54701, .nil, .own 54703, .own 54704, .nil, .own 54706, .own 54707, .nil])], [(54700, 87, 3, v33.2.2.2.2.2.2.1.map WorldSaw.enc), (54701, 3, 1, v31.2.2.2.2.2.2.2.1.map (eI .i64)), (54703, 87, 3, v33.2.2.2.2.2.2.2.1.map WorldSaw.enc), (54704, 3, 1, v31.2.2.2.2.2.2.2.2.2.1.map (eI .i64)), (54706, 87, 3, v33.2.2.2.2.2.2.2.2.1.map WorldSaw.enc), (54707, 3, 1, v31.2.2.2.2.2.2.2.2.2.2.2.1.map (eI .i64))]⟩) h (Weak.refl _) (fun _ nx33 hn33 v33 h => ?_)
      conv => whnf
      refine fkS h (fun h => ?_) (fun h => ?_)
      · conv => whnf
        refine ixS (enc := KernelCmd.enc) h rfl (fun _ => rfl) (fun x34 h => ?_)
        conv => whnf
        refine ccS (E := E_KernelState_Int_Int) h (kernel_Do_w (⟨⟨v33.1, v33.2.1⟩, v33.2.2.1, v33.2.2.2.1, v33.2.2.2.2.1, v33.2.2.2.2.2.1⟩) x34) rfl rfl (fun x35 h => ?_)
        conv => whnf
        refine jnS (fun w36 => ⟨[(9, .l (.ptr 10 0)), (10, .l (.bsl 47 3 3)), (11, .l (.d (.int .i64 v31.2.2.2.2.2.2.2.2.2.2.2.2))), (15, .l (.ptr 16 0)), (47, .l (.d (.sl (a1.map (eL KernelCmd.enc))))), (48, .l (.d (.int .i64 (a1.length : Int)))), (49, .l (.d (.int .i64 v31.2.2.2.2.2.2.2.2.2.2.2.2))), (54, .l (.d (.sl (x32.map KernelCmd.enc)))), (55, .l (.d (.int .i64 (x32.length : Int)))), (56, .l (.d (.int .i64 v33.2.2.2.2.2.2.2.2.2)))], 142, [], [(10, [.d (.int .i64 v33.1), .d (.sl (v33.2.1.map Window.enc)), .d (.sl (v33.2.2.1.map Face.enc)), .d (.sl (v33.2.2.2.1.map PartState.enc)), .d (.sl (v33.2.2.2.2.1.map PortLine.enc)), .d (.int .i64 v33.2.2.2.2.2.1)]), (16, [.d (.int .i64 x35.1.Table.Frame), .d (.sl (x35.1.Table.Windows.map Window.enc)), .d (.sl (x35.1.Faces.map Face.enc)), .d (.sl (x35.1.Parts.map PartState.enc)), .d (.sl (x35.1.Lines.map PortLine.enc)), .d (.int .i64 x35.1.Now)]), (47, [.own 54700, .own 54701, .nil, .own 54703, .own 54704, .nil, .own 54706, .own 54707, .nil])], [(54700, 87, 3, w36.1.map WorldSaw.enc), (54701, 3, 1, v31.2.2.2.2.2.2.2.1.map (eI .i64)), (54703, 87, 3, w36.2.1.map WorldSaw.enc), (54704, 3, 1, v31.2.2.2.2.2.2.2.2.2.1.map (eI .i64)), (54706, 87, 3, w36.2.2.map WorldSaw.enc), (54707, 3, 1, v31.2.2.2.2.2.2.2.2.2.2.2.1.map (eI .i64))]⟩) h (fun k36 hk36 h => ?_) (fun w36 h => ?_)
        · conv => whnf
          refine jnS (fun w37 => ⟨[(9, .l (.ptr 10 0)), (10, .l (.bsl 47 3 3)), (11, .l (.d (.int .i64 v31.2.2.2.2.2.2.2.2.2.2.2.2))), (14, .l (.ptr 15 0)), (15, .l (.ptr 16 0)), (16, .l (.d (.int .i64 x35.2.1))), (17, .l (.d (.int .i64 x35.2.2))), (47, .l (.d (.sl (a1.map (eL KernelCmd.enc))))), (48, .l (.d (.int .i64 (a1.length : Int)))), (49, .l (.d (.int .i64 v31.2.2.2.2.2.2.2.2.2.2.2.2))), (54, .l (.d (.sl (x32.map KernelCmd.enc)))), (55, .l (.d (.int .i64 (x32.length : Int)))), (56, .l (.d (.int .i64 v33.2.2.2.2.2.2.2.2.2))), (76, .l (.d (.bool w37)))], 142, [], [(10, [.d (.int .i64 v33.1), .d (.sl (v33.2.1.map Window.enc)), .d (.sl (v33.2.2.1.map Face.enc)), .d (.sl (v33.2.2.2.1.map PartState.enc)), .d (.sl (v33.2.2.2.2.1.map PortLine.enc)), .d (.int .i64 v33.2.2.2.2.2.1)]), (15, [.d (.int .i64 x34.Part), .d (.int .i64 x34.Kind), .d (.int .i64 x34.I), .d (.int .i64 x34.V), .d (.int .i64 x34.T.C), .d (.int .i64 x34.T.D), .d (.int .i64 x34.T.T), .d (.sl (x34.T.Secs.map Sec.enc))]), (16, [.d (.int .i64 x35.1.Table.Frame), .d (.sl (x35.1.Table.Windows.map Window.enc)), .d (.sl (x35.1.Faces.map Face.enc)), .d (.sl (x35.1.Parts.map PartState.enc)), .d (.sl (x35.1.Lines.map PortLine.enc)), .d (.int .i64 x35.1.Now)]), (47, [.own 54700, .own 54701, .nil, .own 54703, .own 54704, .nil, .own 54706, .own 54707, .nil])], [(54700, 87, 3, v33.2.2.2.2.2.2.1.map WorldSaw.enc), (54701, 3, 1, v31.2.2.2.2.2.2.2.1.map (eI .i64)), (54703, 87, 3, v33.2.2.2.2.2.2.2.1.map WorldSaw.enc), (54704, 3, 1, v31.2.2.2.2.2.2.2.2.2.1.map (eI .i64)), (54706, 87, 3, v33.2.2.2.2.2.2.2.2.1.map WorldSaw.enc), (54707, 3, 1, v31.2.2.2.2.2.2.2.2.2.2.2.1.map (eI .i64))]⟩) h (fun k37 hk37 h => ?_) (fun w37 h => ?_)
          · conv => whnf
            refine fkS h (fun h => ?_) (fun h => ?_)
            · conv => whnf
              refine lenB tab rfl rfl rfl rfl rfl ?_
              conv => whnf
              exact jeS hk37 h (Weak.refl _)
            conv => whnf
            exact jeS hk37 h (Weak.refl _)
          conv => whnf
          refine fkS h (fun h => ?_) (fun h => ?_)
          · conv => whnf
            refine ⟨15, ?_⟩
            conv => whnf
            refine fkN h (fun q38 h => ?_) (fun q38 h => ?_)
            · conv => whnf
              refine liS ([⟨v31.2.2.2.2.2.2.2.2.2.2.2.2, x35.2.1, x35.2.2⟩] : List WorldSaw) WorldSaw.enc rfl rfl ?_
              conv => whnf
              refine apS (enc := WorldSaw.enc) (l1 := v33.2.2.2.2.2.2.1) (l2 := ([⟨v31.2.2.2.2.2.2.2.2.2.2.2.2, x35.2.1, x35.2.2⟩] : List WorldSaw)) h rfl rfl (fun _ => rfl) (fun h => ?_)
              conv => whnf
              refine drS (by kernel_rfl) ?_
              conv => whnf
              refine fork_t q38 ?_
              conv => whnf
              refine jeX hk36 h ?_
              conv => whnf
              refine WkF.step (Weak.rekey _ 92 54700 rfl) ?_
              conv => whnf
              exact WkF.refl _
            conv => whnf
            refine fkN h (fun q39 h => ?_) (fun q39 h => ?_)
            · conv => whnf
              refine liS ([⟨v31.2.2.2.2.2.2.2.2.2.2.2.2, x35.2.1, x35.2.2⟩] : List WorldSaw) WorldSaw.enc rfl rfl ?_
              conv => whnf
              refine apS (enc := WorldSaw.enc) (l1 := v33.2.2.2.2.2.2.2.1) (l2 := ([⟨v31.2.2.2.2.2.2.2.2.2.2.2.2, x35.2.1, x35.2.2⟩] : List WorldSaw)) h rfl rfl (fun _ => rfl) (fun h => ?_)
              conv => whnf
              refine drS (by kernel_rfl) ?_
              conv => whnf
              refine fork_f q38 ?_
              conv => whnf
              refine fork_t q39 ?_
              conv => whnf
              refine jeX hk36 h ?_
              conv => whnf
              refine WkF.step (Weak.rekey _ 92 54703 rfl) ?_
              conv => whnf
              exact WkF.refl _
            conv => whnf
            refine fkN h (fun q40 h => ?_) (fun q40 h => ?_)
            · conv => whnf
              refine liS ([⟨v31.2.2.2.2.2.2.2.2.2.2.2.2, x35.2.1, x35.2.2⟩] : List WorldSaw) WorldSaw.enc rfl rfl ?_
              conv => whnf
              refine apS (enc := WorldSaw.enc) (l1 := v33.2.2.2.2.2.2.2.2.1) (l2 := ([⟨v31.2.2.2.2.2.2.2.2.2.2.2.2, x35.2.1, x35.2.2⟩] : List WorldSaw)) h rfl rfl (fun _ => rfl) (fun h => ?_)
              conv => whnf
              refine drS (by kernel_rfl) ?_
              conv => whnf
              refine fork_f q38 ?_
              conv => whnf
              refine fork_f q39 ?_
              conv => whnf
              refine fork_t q40 ?_
              conv => whnf
              refine jeX hk36 h ?_
              conv => whnf
              refine WkF.step (Weak.rekey _ 92 54706 rfl) ?_
              conv => whnf
              exact WkF.refl _
            conv => whnf
            cases h
          conv => whnf
          refine jeX hk36 h ?_
          conv => whnf
          refine WkF.step (Weak.keepS _ [9, 10, 11, 15, 47, 48, 49, 54, 55, 56]) ?_
          conv => whnf
          exact WkF.refl _
        conv => whnf
        exact leS hn33 h (Weak.refl _)
      conv => whnf
      refine ccS (E := E_KernelState_ListInt_Int) h (kernel_Tick_w (⟨⟨v33.1, v33.2.1⟩, v33.2.2.1, v33.2.2.2.1, v33.2.2.2.2.1, v33.2.2.2.2.2.1⟩)) rfl rfl (fun x41 h => ?_)
      conv => whnf
      refine lenB tab rfl rfl rfl rfl rfl ?_
      conv => whnf
      refine lpS (fun v42 => ⟨[(9, .l (.ptr 10 0)), (10, .l (.bsl 47 3 3)), (18, .l (.ptr 19 0)), (19, .l (.d (.sl (x41.2.1.map (eI .i64))))), (47, .l (.d (.sl (a1.map (eL KernelCmd.enc))))), (48, .l (.d (.int .i64 (a1.length : Int)))), (49, .l (.d (.int .i64 v31.2.2.2.2.2.2.2.2.2.2.2.2))), (103, .l (.d (.int .i64 (3 : Int)))), (104, .l (.d (.int .i64 v42.2.2.2)))], 142, [], [(10, [.d (.int .i64 v33.1), .d (.sl (v33.2.1.map Window.enc)), .d (.sl (v33.2.2.1.map Face.enc)), .d (.sl (v33.2.2.2.1.map PartState.enc)), .d (.sl (v33.2.2.2.2.1.map PortLine.enc)), .d (.int .i64 v33.2.2.2.2.2.1)]), (19, [.d (.int .i64 x41.1.Table.Frame), .d (.sl (x41.1.Table.Windows.map Window.enc)), .d (.sl (x41.1.Faces.map Face.enc)), .d (.sl (x41.1.Parts.map PartState.enc)), .d (.sl (x41.1.Lines.map PortLine.enc)), .d (.int .i64 x41.1.Now)]), (47, [.own 54700, .own 54701, .nil, .own 54703, .own 54704, .nil, .own 54706, .own 54707, .nil])], [(54700, 87, 3, v33.2.2.2.2.2.2.1.map WorldSaw.enc), (54701, 3, 1, v42.1.map (eI .i64)), (54703, 87, 3, v33.2.2.2.2.2.2.2.1.map WorldSaw.enc), (54704, 3, 1, v42.2.1.map (eI .i64)), (54706, 87, 3, v33.2.2.2.2.2.2.2.2.1.map WorldSaw.enc), (54707, 3, 1, v42.2.2.1.map (eI .i64))]⟩) h (Weak.refl _) (fun _ nx42 hn42 v42 h => ?_)
      conv => whnf
      refine fkS h (fun h => ?_) (fun h => ?_)
      · conv => whnf
        refine ⟨13, ?_⟩
        conv => whnf
        refine fkN h (fun q43 h => ?_) (fun q43 h => ?_)
        · conv => whnf
          refine ixS (enc := (eI .i64)) h rfl (fun _ => rfl) (fun x48 h => ?_)
          conv => whnf
          refine liS ([x48] : List Int) (eI .i64) rfl rfl ?_
          conv => whnf
          refine apS (enc := (eI .i64)) (l1 := v42.1) (l2 := ([x48] : List Int)) h rfl rfl (fun _ => rfl) (fun h => ?_)
          conv => whnf
          refine drS (by kernel_rfl) ?_
          conv => whnf
          refine fork_t q43 ?_
          conv => whnf
          refine leX hn42 h ?_
          conv => whnf
          refine WkF.step (Weak.rekey _ 120 54701 rfl) ?_
          conv => whnf
          exact WkF.refl _
        conv => whnf
        refine fkN h (fun q44 h => ?_) (fun q44 h => ?_)
        · conv => whnf
          refine ixS (enc := (eI .i64)) h rfl (fun _ => rfl) (fun x47 h => ?_)
          conv => whnf
          refine liS ([x47] : List Int) (eI .i64) rfl rfl ?_
          conv => whnf
          refine apS (enc := (eI .i64)) (l1 := v42.2.1) (l2 := ([x47] : List Int)) h rfl rfl (fun _ => rfl) (fun h => ?_)
          conv => whnf
          refine drS (by kernel_rfl) ?_
          conv => whnf
          refine fork_f q43 ?_
          conv => whnf
          refine fork_t q44 ?_
          conv => whnf
          refine leX hn42 h ?_
          conv => whnf
          refine WkF.step (Weak.rekey _ 120 54704 rfl) ?_
          conv => whnf
          exact WkF.refl _
        conv => whnf
        refine fkN h (fun q45 h => ?_) (fun q45 h => ?_)
        · conv => whnf
          refine ixS (enc := (eI .i64)) h rfl (fun _ => rfl) (fun x46 h => ?_)
          conv => whnf
          refine liS ([x46] : List Int) (eI .i64) rfl rfl ?_
          conv => whnf
          refine apS (enc := (eI .i64)) (l1 := v42.2.2.1) (l2 := ([x46] : List Int)) h rfl rfl (fun _ => rfl) (fun h => ?_)
          conv => whnf
          refine drS (by kernel_rfl) ?_
          conv => whnf
          refine fork_f q43 ?_
          conv => whnf
          refine fork_f q44 ?_
          conv => whnf
          refine fork_t q45 ?_
          conv => whnf
          refine leX hn42 h ?_
          conv => whnf
          refine WkF.step (Weak.rekey _ 120 54707 rfl) ?_
          conv => whnf
          exact WkF.refl _
        conv => whnf
        cases h
      conv => whnf
      exact leS hn31 h (Weak.refl _)
    conv => whnf
    refine lenB tab rfl rfl rfl rfl rfl ?_
    conv => whnf
    refine lpX (fun v49 => ⟨[(9, .l (.ptr 10 0)), (10, .l (.bsl 47 3 3)), (126, .l (.d (.int .i64 (3 : Int)))), (127, .l (.d (.int .i64 v49.2.2.2)))], 142, [], [(10, [.d (.int .i64 v31.1), .d (.sl (v31.2.1.map Window.enc)), .d (.sl (v31.2.2.1.map Face.enc)), .d (.sl (v31.2.2.2.1.map PartState.enc)), .d (.sl (v31.2.2.2.2.1.map PortLine.enc)), .d (.int .i64 v31.2.2.2.2.2.1)]), (47, [.own 54700, .own 54701, .d (.sl (v49.1.map Entry.enc)), .own 54703, .own 54704, .d (.sl (v49.2.1.map Entry.enc)), .own 54706, .own 54707, .d (.sl (v49.2.2.1.map Entry.enc))])], [(54700, 87, 3, v31.2.2.2.2.2.2.1.map WorldSaw.enc), (54701, 3, 1, v31.2.2.2.2.2.2.2.1.map (eI .i64)), (54703, 87, 3, v31.2.2.2.2.2.2.2.2.1.map WorldSaw.enc), (54704, 3, 1, v31.2.2.2.2.2.2.2.2.2.1.map (eI .i64)), (54706, 87, 3, v31.2.2.2.2.2.2.2.2.2.2.1.map WorldSaw.enc), (54707, 3, 1, v31.2.2.2.2.2.2.2.2.2.2.2.1.map (eI .i64))]⟩) h ?_ (fun _ nx49 hn49 v49 h => ?_)
    · conv => whnf
      refine WkF.step (Weak.nilBD _ 47 2 _ rfl rfl) ?_
      conv => whnf
      refine WkF.step (Weak.nilBD _ 47 5 _ rfl rfl) ?_
      conv => whnf
      refine WkF.step (Weak.nilBD _ 47 8 _ rfl rfl) ?_
      conv => whnf
      exact WkF.refl _
    conv => whnf
    refine fkS h (fun h => ?_) (fun h => ?_)
    · conv => whnf
      refine ixS (enc := PartState.enc) h rfl (fun _ => rfl) (fun x50 h => ?_)
      conv => whnf
      refine fkN h (fun q51 h => ?_) (fun q51 h => ?_)
      · conv => whnf
        exact leS hn49 h (Weak.refl _)
      conv => whnf
      refine fkN h (fun q52 h => ?_) (fun q52 h => ?_)
      · conv => whnf
        exact leS hn49 h (Weak.refl _)
      conv => whnf
      refine fkN h (fun q53 h => ?_) (fun q53 h => ?_)
      · conv => whnf
        exact leS hn49 h (Weak.refl _)
      conv => whnf
      cases h
    conv => whnf
    exact rt (E := E_ListWorldView_Int) h rfl
  conv => whnf
  refine mkF h (fun hb h => ?_) (fun h => ?_)
  · conv => whnf
    refine mkB tab 4 rfl rfl rfl rfl (of_decide_eq_true hb) (of_decide_eq_true hb) rfl rfl rfl (Nat.le_of_ble_eq_true rfl) (Nat.le_of_ble_eq_true rfl) (Nat.le_of_ble_eq_true rfl) rfl ?_
    conv => whnf
    refine lenS a1 (eL KernelCmd.enc) rfl ?_
    conv => whnf
    refine lpX (fun v4 => ⟨[(9, .l (.ptr 10 0)), (10, .l (.bsl 47 4 3)), (47, .l (.d (.sl (a1.map (eL KernelCmd.enc))))), (48, .l (.d (.int .i64 (a1.length : Int)))), (49, .l (.d (.int .i64 v4.2.2.2.2.2.2.2.2.2.2.2.2.2.2)))], 142, [], [(10, [.d (.int .i64 v4.1), .d (.sl (v4.2.1.map Window.enc)), .d (.sl (v4.2.2.1.map Face.enc)), .d (.sl (v4.2.2.2.1.map PartState.enc)), .d (.sl (v4.2.2.2.2.1.map PortLine.enc)), .d (.int .i64 v4.2.2.2.2.2.1)]), (47, [.own 54700, .own 54701, .nil, .own 54703, .own 54704, .nil, .own 54706, .own 54707, .nil, .own 54709, .own 54710, .nil])], [(54700, 87, 3, v4.2.2.2.2.2.2.1.map WorldSaw.enc), (54701, 3, 1, v4.2.2.2.2.2.2.2.1.map (eI .i64)), (54703, 87, 3, v4.2.2.2.2.2.2.2.2.1.map WorldSaw.enc), (54704, 3, 1, v4.2.2.2.2.2.2.2.2.2.1.map (eI .i64)), (54706, 87, 3, v4.2.2.2.2.2.2.2.2.2.2.1.map WorldSaw.enc), (54707, 3, 1, v4.2.2.2.2.2.2.2.2.2.2.2.1.map (eI .i64)), (54709, 87, 3, v4.2.2.2.2.2.2.2.2.2.2.2.2.1.map WorldSaw.enc), (54710, 3, 1, v4.2.2.2.2.2.2.2.2.2.2.2.2.2.1.map (eI .i64))]⟩) h ?_ (fun _ nx4 hn4 v4 h => ?_)
    · conv => whnf
      refine WkF.step (Weak.nilBO _ 47 0 54700 87 3 _ rfl rfl) ?_
      conv => whnf
      refine WkF.step (Weak.nilBO _ 47 1 54701 3 1 _ rfl rfl) ?_
      conv => whnf
      refine WkF.step (Weak.nilBO _ 47 3 54703 87 3 _ rfl rfl) ?_
      conv => whnf
      refine WkF.step (Weak.nilBO _ 47 4 54704 3 1 _ rfl rfl) ?_
      conv => whnf
      refine WkF.step (Weak.nilBO _ 47 6 54706 87 3 _ rfl rfl) ?_
      conv => whnf
      refine WkF.step (Weak.nilBO _ 47 7 54707 3 1 _ rfl rfl) ?_
      conv => whnf
      refine WkF.step (Weak.nilBO _ 47 9 54709 87 3 _ rfl rfl) ?_
      conv => whnf
      refine WkF.step (Weak.nilBO _ 47 10 54710 3 1 _ rfl rfl) ?_
      conv => whnf
      exact WkF.refl _
    conv => whnf
    refine fkS h (fun h => ?_) (fun h => ?_)
    · conv => whnf
      refine ixS (enc := (eL KernelCmd.enc)) h rfl (fun _ => rfl) (fun x5 h => ?_)
      conv => whnf
      refine lenS x5 KernelCmd.enc rfl ?_
      conv => whnf
      refine lpS (fun v6 => ⟨[(9, .l (.ptr 10 0)), (10, .l (.bsl 47 4 3)), (11, .l (.d (.int .i64 v4.2.2.2.2.2.2.2.2.2.2.2.2.2.2))), (47, .l (.d (.sl (a1.map (eL KernelCmd.enc))))), (48, .l (.d (.int .i64 (a1.length : Int)))), (49, .l (.d (.int .i64 v4.2.2.2.2.2.2.2.2.2.2.2.2.2.2))), (54, .l (.d (.sl (x5.map KernelCmd.enc)))), (55, .l (.d (.int .i64 (x5.length : Int)))), (56, .l (.d (.int .i64 v6.2.2.2.2.2.2.2.2.2.2)))], 142, [], [(10, [.d (.int .i64 v6.1), .d (.sl (v6.2.1.map Window.enc)), .d (.sl (v6.2.2.1.map Face.enc)), .d (.sl (v6.2.2.2.1.map PartState.enc)), .d (.sl (v6.2.2.2.2.1.map PortLine.enc)), .d (.int .i64 v6.2.2.2.2.2.1)]), (47, [.own 54700, .own 54701, .nil, .own 54703, .own 54704, .nil, .own 54706, .own 54707, .nil, .own 54709, .own 54710, .nil])], [(54700, 87, 3, v6.2.2.2.2.2.2.1.map WorldSaw.enc), (54701, 3, 1, v4.2.2.2.2.2.2.2.1.map (eI .i64)), (54703, 87, 3, v6.2.2.2.2.2.2.2.1.map WorldSaw.enc), (54704, 3, 1, v4.2.2.2.2.2.2.2.2.2.1.map (eI .i64)), (54706, 87, 3, v6.2.2.2.2.2.2.2.2.1.map WorldSaw.enc), (54707, 3, 1, v4.2.2.2.2.2.2.2.2.2.2.2.1.map (eI .i64)), (54709, 87, 3, v6.2.2.2.2.2.2.2.2.2.1.map WorldSaw.enc), (54710, 3, 1, v4.2.2.2.2.2.2.2.2.2.2.2.2.2.1.map (eI .i64))]⟩) h (Weak.refl _) (fun _ nx6 hn6 v6 h => ?_)
      conv => whnf
      refine fkS h (fun h => ?_) (fun h => ?_)
      · conv => whnf
        refine ixS (enc := KernelCmd.enc) h rfl (fun _ => rfl) (fun x7 h => ?_)
        conv => whnf
        refine ccS (E := E_KernelState_Int_Int) h (kernel_Do_w (⟨⟨v6.1, v6.2.1⟩, v6.2.2.1, v6.2.2.2.1, v6.2.2.2.2.1, v6.2.2.2.2.2.1⟩) x7) rfl rfl (fun x8 h => ?_)
        conv => whnf
        refine jnS (fun w9 => ⟨[(9, .l (.ptr 10 0)), (10, .l (.bsl 47 4 3)), (11, .l (.d (.int .i64 v4.2.2.2.2.2.2.2.2.2.2.2.2.2.2))), (15, .l (.ptr 16 0)), (47, .l (.d (.sl (a1.map (eL KernelCmd.enc))))), (48, .l (.d (.int .i64 (a1.length : Int)))), (49, .l (.d (.int .i64 v4.2.2.2.2.2.2.2.2.2.2.2.2.2.2))), (54, .l (.d (.sl (x5.map KernelCmd.enc)))), (55, .l (.d (.int .i64 (x5.length : Int)))), (56, .l (.d (.int .i64 v6.2.2.2.2.2.2.2.2.2.2)))], 142, [], [(10, [.d (.int .i64 v6.1), .d (.sl (v6.2.1.map Window.enc)), .d (.sl (v6.2.2.1.map Face.enc)), .d (.sl (v6.2.2.2.1.map PartState.enc)), .d (.sl (v6.2.2.2.2.1.map PortLine.enc)), .d (.int .i64 v6.2.2.2.2.2.1)]), (16, [.d (.int .i64 x8.1.Table.Frame), .d (.sl (x8.1.Table.Windows.map Window.enc)), .d (.sl (x8.1.Faces.map Face.enc)), .d (.sl (x8.1.Parts.map PartState.enc)), .d (.sl (x8.1.Lines.map PortLine.enc)), .d (.int .i64 x8.1.Now)]), (47, [.own 54700, .own 54701, .nil, .own 54703, .own 54704, .nil, .own 54706, .own 54707, .nil, .own 54709, .own 54710, .nil])], [(54700, 87, 3, w9.1.map WorldSaw.enc), (54701, 3, 1, v4.2.2.2.2.2.2.2.1.map (eI .i64)), (54703, 87, 3, w9.2.1.map WorldSaw.enc), (54704, 3, 1, v4.2.2.2.2.2.2.2.2.2.1.map (eI .i64)), (54706, 87, 3, w9.2.2.1.map WorldSaw.enc), (54707, 3, 1, v4.2.2.2.2.2.2.2.2.2.2.2.1.map (eI .i64)), (54709, 87, 3, w9.2.2.2.map WorldSaw.enc), (54710, 3, 1, v4.2.2.2.2.2.2.2.2.2.2.2.2.2.1.map (eI .i64))]⟩) h (fun k9 hk9 h => ?_) (fun w9 h => ?_)
        · conv => whnf
          refine jnS (fun w10 => ⟨[(9, .l (.ptr 10 0)), (10, .l (.bsl 47 4 3)), (11, .l (.d (.int .i64 v4.2.2.2.2.2.2.2.2.2.2.2.2.2.2))), (14, .l (.ptr 15 0)), (15, .l (.ptr 16 0)), (16, .l (.d (.int .i64 x8.2.1))), (17, .l (.d (.int .i64 x8.2.2))), (47, .l (.d (.sl (a1.map (eL KernelCmd.enc))))), (48, .l (.d (.int .i64 (a1.length : Int)))), (49, .l (.d (.int .i64 v4.2.2.2.2.2.2.2.2.2.2.2.2.2.2))), (54, .l (.d (.sl (x5.map KernelCmd.enc)))), (55, .l (.d (.int .i64 (x5.length : Int)))), (56, .l (.d (.int .i64 v6.2.2.2.2.2.2.2.2.2.2))), (76, .l (.d (.bool w10)))], 142, [], [(10, [.d (.int .i64 v6.1), .d (.sl (v6.2.1.map Window.enc)), .d (.sl (v6.2.2.1.map Face.enc)), .d (.sl (v6.2.2.2.1.map PartState.enc)), .d (.sl (v6.2.2.2.2.1.map PortLine.enc)), .d (.int .i64 v6.2.2.2.2.2.1)]), (15, [.d (.int .i64 x7.Part), .d (.int .i64 x7.Kind), .d (.int .i64 x7.I), .d (.int .i64 x7.V), .d (.int .i64 x7.T.C), .d (.int .i64 x7.T.D), .d (.int .i64 x7.T.T), .d (.sl (x7.T.Secs.map Sec.enc))]), (16, [.d (.int .i64 x8.1.Table.Frame), .d (.sl (x8.1.Table.Windows.map Window.enc)), .d (.sl (x8.1.Faces.map Face.enc)), .d (.sl (x8.1.Parts.map PartState.enc)), .d (.sl (x8.1.Lines.map PortLine.enc)), .d (.int .i64 x8.1.Now)]), (47, [.own 54700, .own 54701, .nil, .own 54703, .own 54704, .nil, .own 54706, .own 54707, .nil, .own 54709, .own 54710, .nil])], [(54700, 87, 3, v6.2.2.2.2.2.2.1.map WorldSaw.enc), (54701, 3, 1, v4.2.2.2.2.2.2.2.1.map (eI .i64)), (54703, 87, 3, v6.2.2.2.2.2.2.2.1.map WorldSaw.enc), (54704, 3, 1, v4.2.2.2.2.2.2.2.2.2.1.map (eI .i64)), (54706, 87, 3, v6.2.2.2.2.2.2.2.2.1.map WorldSaw.enc), (54707, 3, 1, v4.2.2.2.2.2.2.2.2.2.2.2.1.map (eI .i64)), (54709, 87, 3, v6.2.2.2.2.2.2.2.2.2.1.map WorldSaw.enc), (54710, 3, 1, v4.2.2.2.2.2.2.2.2.2.2.2.2.2.1.map (eI .i64))]⟩) h (fun k10 hk10 h => ?_) (fun w10 h => ?_)
          · conv => whnf
            refine fkS h (fun h => ?_) (fun h => ?_)
            · conv => whnf
              refine lenB tab rfl rfl rfl rfl rfl ?_
              conv => whnf
              exact jeS hk10 h (Weak.refl _)
            conv => whnf
            exact jeS hk10 h (Weak.refl _)
          conv => whnf
          refine fkS h (fun h => ?_) (fun h => ?_)
          · conv => whnf
            refine ⟨15, ?_⟩
            conv => whnf
            refine fkN h (fun q11 h => ?_) (fun q11 h => ?_)
            · conv => whnf
              refine liS ([⟨v4.2.2.2.2.2.2.2.2.2.2.2.2.2.2, x8.2.1, x8.2.2⟩] : List WorldSaw) WorldSaw.enc rfl rfl ?_
              conv => whnf
              refine apS (enc := WorldSaw.enc) (l1 := v6.2.2.2.2.2.2.1) (l2 := ([⟨v4.2.2.2.2.2.2.2.2.2.2.2.2.2.2, x8.2.1, x8.2.2⟩] : List WorldSaw)) h rfl rfl (fun _ => rfl) (fun h => ?_)
              conv => whnf
              refine drS (by kernel_rfl) ?_
              conv => whnf
              refine fork_t q11 ?_
              conv => whnf
              refine jeX hk9 h ?_
              conv => whnf
              refine WkF.step (Weak.rekey _ 92 54700 rfl) ?_
              conv => whnf
              exact WkF.refl _
            conv => whnf
            refine fkN h (fun q12 h => ?_) (fun q12 h => ?_)
            · conv => whnf
              refine liS ([⟨v4.2.2.2.2.2.2.2.2.2.2.2.2.2.2, x8.2.1, x8.2.2⟩] : List WorldSaw) WorldSaw.enc rfl rfl ?_
              conv => whnf
              refine apS (enc := WorldSaw.enc) (l1 := v6.2.2.2.2.2.2.2.1) (l2 := ([⟨v4.2.2.2.2.2.2.2.2.2.2.2.2.2.2, x8.2.1, x8.2.2⟩] : List WorldSaw)) h rfl rfl (fun _ => rfl) (fun h => ?_)
              conv => whnf
              refine drS (by kernel_rfl) ?_
              conv => whnf
              refine fork_f q11 ?_
              conv => whnf
              refine fork_t q12 ?_
              conv => whnf
              refine jeX hk9 h ?_
              conv => whnf
              refine WkF.step (Weak.rekey _ 92 54703 rfl) ?_
              conv => whnf
              exact WkF.refl _
            conv => whnf
            refine fkN h (fun q13 h => ?_) (fun q13 h => ?_)
            · conv => whnf
              refine liS ([⟨v4.2.2.2.2.2.2.2.2.2.2.2.2.2.2, x8.2.1, x8.2.2⟩] : List WorldSaw) WorldSaw.enc rfl rfl ?_
              conv => whnf
              refine apS (enc := WorldSaw.enc) (l1 := v6.2.2.2.2.2.2.2.2.1) (l2 := ([⟨v4.2.2.2.2.2.2.2.2.2.2.2.2.2.2, x8.2.1, x8.2.2⟩] : List WorldSaw)) h rfl rfl (fun _ => rfl) (fun h => ?_)
              conv => whnf
              refine drS (by kernel_rfl) ?_
              conv => whnf
              refine fork_f q11 ?_
              conv => whnf
              refine fork_f q12 ?_
              conv => whnf
              refine fork_t q13 ?_
              conv => whnf
              refine jeX hk9 h ?_
              conv => whnf
              refine WkF.step (Weak.rekey _ 92 54706 rfl) ?_
              conv => whnf
              exact WkF.refl _
            conv => whnf
            refine fkN h (fun q14 h => ?_) (fun q14 h => ?_)
            · conv => whnf
              refine liS ([⟨v4.2.2.2.2.2.2.2.2.2.2.2.2.2.2, x8.2.1, x8.2.2⟩] : List WorldSaw) WorldSaw.enc rfl rfl ?_
              conv => whnf
              refine apS (enc := WorldSaw.enc) (l1 := v6.2.2.2.2.2.2.2.2.2.1) (l2 := ([⟨v4.2.2.2.2.2.2.2.2.2.2.2.2.2.2, x8.2.1, x8.2.2⟩] : List WorldSaw)) h rfl rfl (fun _ => rfl) (fun h => ?_)
              conv => whnf
              refine drS (by kernel_rfl) ?_
              conv => whnf
              refine fork_f q11 ?_
              conv => whnf
              refine fork_f q12 ?_
              conv => whnf
              refine fork_f q13 ?_
              conv => whnf
              refine fork_t q14 ?_
              conv => whnf
              refine jeX hk9 h ?_
              conv => whnf
              refine WkF.step (Weak.rekey _ 92 54709 rfl) ?_
              conv => whnf
              exact WkF.refl _
            conv => whnf
            cases h
          conv => whnf
          refine jeX hk9 h ?_
          conv => whnf
          refine WkF.step (Weak.keepS _ [9, 10, 11, 15, 47, 48, 49, 54, 55, 56]) ?_
          conv => whnf
          exact WkF.refl _
        conv => whnf
        exact leS hn6 h (Weak.refl _)
      conv => whnf
      refine ccS (E := E_KernelState_ListInt_Int) h (kernel_Tick_w (⟨⟨v6.1, v6.2.1⟩, v6.2.2.1, v6.2.2.2.1, v6.2.2.2.2.1, v6.2.2.2.2.2.1⟩)) rfl rfl (fun x15 h => ?_)
      conv => whnf
      refine lenB tab rfl rfl rfl rfl rfl ?_
      conv => whnf
      refine lpS (fun v16 => ⟨[(9, .l (.ptr 10 0)), (10, .l (.bsl 47 4 3)), (18, .l (.ptr 19 0)), (19, .l (.d (.sl (x15.2.1.map (eI .i64))))), (47, .l (.d (.sl (a1.map (eL KernelCmd.enc))))), (48, .l (.d (.int .i64 (a1.length : Int)))), (49, .l (.d (.int .i64 v4.2.2.2.2.2.2.2.2.2.2.2.2.2.2))), (103, .l (.d (.int .i64 (4 : Int)))), (104, .l (.d (.int .i64 v16.2.2.2.2)))], 142, [], [(10, [.d (.int .i64 v6.1), .d (.sl (v6.2.1.map Window.enc)), .d (.sl (v6.2.2.1.map Face.enc)), .d (.sl (v6.2.2.2.1.map PartState.enc)), .d (.sl (v6.2.2.2.2.1.map PortLine.enc)), .d (.int .i64 v6.2.2.2.2.2.1)]), (19, [.d (.int .i64 x15.1.Table.Frame), .d (.sl (x15.1.Table.Windows.map Window.enc)), .d (.sl (x15.1.Faces.map Face.enc)), .d (.sl (x15.1.Parts.map PartState.enc)), .d (.sl (x15.1.Lines.map PortLine.enc)), .d (.int .i64 x15.1.Now)]), (47, [.own 54700, .own 54701, .nil, .own 54703, .own 54704, .nil, .own 54706, .own 54707, .nil, .own 54709, .own 54710, .nil])], [(54700, 87, 3, v6.2.2.2.2.2.2.1.map WorldSaw.enc), (54701, 3, 1, v16.1.map (eI .i64)), (54703, 87, 3, v6.2.2.2.2.2.2.2.1.map WorldSaw.enc), (54704, 3, 1, v16.2.1.map (eI .i64)), (54706, 87, 3, v6.2.2.2.2.2.2.2.2.1.map WorldSaw.enc), (54707, 3, 1, v16.2.2.1.map (eI .i64)), (54709, 87, 3, v6.2.2.2.2.2.2.2.2.2.1.map WorldSaw.enc), (54710, 3, 1, v16.2.2.2.1.map (eI .i64))]⟩) h (Weak.refl _) (fun _ nx16 hn16 v16 h => ?_)
      conv => whnf
      refine fkS h (fun h => ?_) (fun h => ?_)
      · conv => whnf
        refine ⟨13, ?_⟩
        conv => whnf
        refine fkN h (fun q17 h => ?_) (fun q17 h => ?_)
        · conv => whnf
          refine ixS (enc := (eI .i64)) h rfl (fun _ => rfl) (fun x24 h => ?_)
          conv => whnf
          refine liS ([x24] : List Int) (eI .i64) rfl rfl ?_
          conv => whnf
          refine apS (enc := (eI .i64)) (l1 := v16.1) (l2 := ([x24] : List Int)) h rfl rfl (fun _ => rfl) (fun h => ?_)
          conv => whnf
          refine drS (by kernel_rfl) ?_
          conv => whnf
          refine fork_t q17 ?_
          conv => whnf
          refine leX hn16 h ?_
          conv => whnf
          refine WkF.step (Weak.rekey _ 120 54701 rfl) ?_
          conv => whnf
          exact WkF.refl _
        conv => whnf
        refine fkN h (fun q18 h => ?_) (fun q18 h => ?_)
        · conv => whnf
          refine ixS (enc := (eI .i64)) h rfl (fun _ => rfl) (fun x23 h => ?_)
          conv => whnf
          refine liS ([x23] : List Int) (eI .i64) rfl rfl ?_
          conv => whnf
          refine apS (enc := (eI .i64)) (l1 := v16.2.1) (l2 := ([x23] : List Int)) h rfl rfl (fun _ => rfl) (fun h => ?_)
          conv => whnf
          refine drS (by kernel_rfl) ?_
          conv => whnf
          refine fork_f q17 ?_
          conv => whnf
          refine fork_t q18 ?_
          conv => whnf
          refine leX hn16 h ?_
          conv => whnf
          refine WkF.step (Weak.rekey _ 120 54704 rfl) ?_
          conv => whnf
          exact WkF.refl _
        conv => whnf
        refine fkN h (fun q19 h => ?_) (fun q19 h => ?_)
        · conv => whnf
          refine ixS (enc := (eI .i64)) h rfl (fun _ => rfl) (fun x22 h => ?_)
          conv => whnf
          refine liS ([x22] : List Int) (eI .i64) rfl rfl ?_
          conv => whnf
          refine apS (enc := (eI .i64)) (l1 := v16.2.2.1) (l2 := ([x22] : List Int)) h rfl rfl (fun _ => rfl) (fun h => ?_)
          conv => whnf
          refine drS (by kernel_rfl) ?_
          conv => whnf
          refine fork_f q17 ?_
          conv => whnf
          refine fork_f q18 ?_
          conv => whnf
          refine fork_t q19 ?_
          conv => whnf
          refine leX hn16 h ?_
          conv => whnf
          refine WkF.step (Weak.rekey _ 120 54707 rfl) ?_
          conv => whnf
          exact WkF.refl _
        conv => whnf
        refine fkN h (fun q20 h => ?_) (fun q20 h => ?_)
        · conv => whnf
          refine ixS (enc := (eI .i64)) h rfl (fun _ => rfl) (fun x21 h => ?_)
          conv => whnf
          refine liS ([x21] : List Int) (eI .i64) rfl rfl ?_
          conv => whnf
          refine apS (enc := (eI .i64)) (l1 := v16.2.2.2.1) (l2 := ([x21] : List Int)) h rfl rfl (fun _ => rfl) (fun h => ?_)
          conv => whnf
          refine drS (by kernel_rfl) ?_
          conv => whnf
          refine fork_f q17 ?_
          conv => whnf
          refine fork_f q18 ?_
          conv => whnf
          refine fork_f q19 ?_
          conv => whnf
          refine fork_t q20 ?_
          conv => whnf
          refine leX hn16 h ?_
          conv => whnf
          refine WkF.step (Weak.rekey _ 120 54710 rfl) ?_
          conv => whnf
          exact WkF.refl _
        conv => whnf
        cases h
      conv => whnf
      exact leS hn4 h (Weak.refl _)
    conv => whnf
    refine lenB tab rfl rfl rfl rfl rfl ?_
    conv => whnf
    refine lpX (fun v25 => ⟨[(9, .l (.ptr 10 0)), (10, .l (.bsl 47 4 3)), (126, .l (.d (.int .i64 (4 : Int)))), (127, .l (.d (.int .i64 v25.2.2.2.2)))], 142, [], [(10, [.d (.int .i64 v4.1), .d (.sl (v4.2.1.map Window.enc)), .d (.sl (v4.2.2.1.map Face.enc)), .d (.sl (v4.2.2.2.1.map PartState.enc)), .d (.sl (v4.2.2.2.2.1.map PortLine.enc)), .d (.int .i64 v4.2.2.2.2.2.1)]), (47, [.own 54700, .own 54701, .d (.sl (v25.1.map Entry.enc)), .own 54703, .own 54704, .d (.sl (v25.2.1.map Entry.enc)), .own 54706, .own 54707, .d (.sl (v25.2.2.1.map Entry.enc)), .own 54709, .own 54710, .d (.sl (v25.2.2.2.1.map Entry.enc))])], [(54700, 87, 3, v4.2.2.2.2.2.2.1.map WorldSaw.enc), (54701, 3, 1, v4.2.2.2.2.2.2.2.1.map (eI .i64)), (54703, 87, 3, v4.2.2.2.2.2.2.2.2.1.map WorldSaw.enc), (54704, 3, 1, v4.2.2.2.2.2.2.2.2.2.1.map (eI .i64)), (54706, 87, 3, v4.2.2.2.2.2.2.2.2.2.2.1.map WorldSaw.enc), (54707, 3, 1, v4.2.2.2.2.2.2.2.2.2.2.2.1.map (eI .i64)), (54709, 87, 3, v4.2.2.2.2.2.2.2.2.2.2.2.2.1.map WorldSaw.enc), (54710, 3, 1, v4.2.2.2.2.2.2.2.2.2.2.2.2.2.1.map (eI .i64))]⟩) h ?_ (fun _ nx25 hn25 v25 h => ?_)
    · conv => whnf
      refine WkF.step (Weak.nilBD _ 47 2 _ rfl rfl) ?_
      conv => whnf
      refine WkF.step (Weak.nilBD _ 47 5 _ rfl rfl) ?_
      conv => whnf
      refine WkF.step (Weak.nilBD _ 47 8 _ rfl rfl) ?_
      conv => whnf
      refine WkF.step (Weak.nilBD _ 47 11 _ rfl rfl) ?_
      conv => whnf
      exact WkF.refl _
    conv => whnf
    refine fkS h (fun h => ?_) (fun h => ?_)
    · conv => whnf
      refine ixS (enc := PartState.enc) h rfl (fun _ => rfl) (fun x26 h => ?_)
      conv => whnf
      refine fkN h (fun q27 h => ?_) (fun q27 h => ?_)
      · conv => whnf
        exact leS hn25 h (Weak.refl _)
      conv => whnf
      refine fkN h (fun q28 h => ?_) (fun q28 h => ?_)
      · conv => whnf
        exact leS hn25 h (Weak.refl _)
      conv => whnf
      refine fkN h (fun q29 h => ?_) (fun q29 h => ?_)
      · conv => whnf
        exact leS hn25 h (Weak.refl _)
      conv => whnf
      refine fkN h (fun q30 h => ?_) (fun q30 h => ?_)
      · conv => whnf
        exact leS hn25 h (Weak.refl _)
      conv => whnf
      cases h
    conv => whnf
    exact rt (E := E_ListWorldView_Int) h rfl
  conv => whnf
  cases h

end Go.Proofs.YtfnaclhllopoeaaGreat
namespace Go.Proofs.YtfnaclhllopoeaaGreat
open Go Go.VC
noncomputable def top_works  : Option Bool :=
  bnd (world_Play ([(84 : Int), (75 : Int), (49 : Int), (1 : Int), (2 : Int), (1 : Int), (1 : Int), (1 : Int), (4 : Int), (4 : Int), (0 : Int), (0 : Int)] : List Int) ([([⟨(0 : Int), (1 : Int), (0 : Int), (1 : Int), ⟨(0 : Int), (0 : Int), (0 : Int), []⟩⟩] : List KernelCmd), ([] : List KernelCmd)] : List (List KernelCmd))) fun x1 => bnd (world_Play ([(84 : Int), (75 : Int), (49 : Int), (1 : Int), (2 : Int), (1 : Int), (1 : Int), (3 : Int), (4 : Int), (4 : Int), (0 : Int), (0 : Int)] : List Int) []) fun x2 => fk (decide (x1.2 = (0 : Int))) (fk (decide ((x1.1.length : Int) = (1 : Int))) (ix x1.1 (0 : Int) fun x3 => fk (decide ((x3.Log.length : Int) = (2 : Int))) (ix x1.1 (0 : Int) fun x4 => ix x4.Log (1 : Int) fun x5 => fk (eqI [.i .i64 x5.At, .i .i64 x5.Kind, .i .i64 x5.Task] [.i .i64 (0 : Int), .i .i64 (4 : Int), .i .i64 (0 : Int)]) (some (decide (x2.2 = (7 : Int)))) (some false)) (some false)) (some false)) (some false)
theorem top_works_w  (r : Bool) (h : top_works = some r) : Go.VC.Spec Tryz.prog 5 [] (fun y => y = E_Bool r) := by
  refine Go.VC.Spec.of_xc (args := []) (fn := Tryz.f5) tab ⟨[(0, []), (1, [1, 2]), (2, [1, 2, 4]), (3, [0])], [], [], [(11, [10, 11])]⟩ 50 [.tmp 0] rfl rfl rfl rfl rfl rfl ?_
  conv => whnf
  refine liS ([(84 : Int), (75 : Int), (49 : Int), (1 : Int), (2 : Int), (1 : Int), (1 : Int), (1 : Int), (4 : Int), (4 : Int), (0 : Int), (0 : Int)] : List Int) (eI .u8) rfl rfl ?_
  conv => whnf
  refine cvM rfl rfl rfl rfl rfl Tryz.underlying26 Tryz.underlying5 ?_
  conv => whnf
  refine liS ([⟨(0 : Int), (1 : Int), (0 : Int), (1 : Int), ⟨(0 : Int), (0 : Int), (0 : Int), []⟩⟩] : List KernelCmd) KernelCmd.enc rfl rfl ?_
  conv => whnf
  refine liS ([] : List KernelCmd) KernelCmd.enc rfl rfl ?_
  conv => whnf
  refine liS ([([⟨(0 : Int), (1 : Int), (0 : Int), (1 : Int), ⟨(0 : Int), (0 : Int), (0 : Int), []⟩⟩] : List KernelCmd), ([] : List KernelCmd)] : List (List KernelCmd)) (eL KernelCmd.enc) rfl rfl ?_
  conv => whnf
  refine iceS 7 ?_
  conv => whnf
  refine iceS 12 ?_
  conv => whnf
  refine ccS (E := E_ListWorldView_Int) h (world_Play_w ([(84 : Int), (75 : Int), (49 : Int), (1 : Int), (2 : Int), (1 : Int), (1 : Int), (1 : Int), (4 : Int), (4 : Int), (0 : Int), (0 : Int)] : List Int) ([([⟨(0 : Int), (1 : Int), (0 : Int), (1 : Int), ⟨(0 : Int), (0 : Int), (0 : Int), []⟩⟩] : List KernelCmd), ([] : List KernelCmd)] : List (List KernelCmd))) rfl rfl (fun x1 h => ?_)
  conv => whnf
  refine liS ([(84 : Int), (75 : Int), (49 : Int), (1 : Int), (2 : Int), (1 : Int), (1 : Int), (3 : Int), (4 : Int), (4 : Int), (0 : Int), (0 : Int)] : List Int) (eI .u8) rfl rfl ?_
  conv => whnf
  refine cvM rfl rfl rfl rfl rfl Tryz.underlying26 Tryz.underlying5 ?_
  conv => whnf
  refine iceS 17 ?_
  conv => whnf
  refine ccS (E := E_ListWorldView_Int) h (world_Play_w ([(84 : Int), (75 : Int), (49 : Int), (1 : Int), (2 : Int), (1 : Int), (1 : Int), (3 : Int), (4 : Int), (4 : Int), (0 : Int), (0 : Int)] : List Int) []) rfl rfl (fun x2 h => ?_)
  conv => whnf
  refine fkS h (fun h => ?_) (fun h => ?_)
  · conv => whnf
    refine lenS x1.1 WorldView.enc rfl ?_
    conv => whnf
    refine fkS h (fun h => ?_) (fun h => ?_)
    · conv => whnf
      refine ixS (enc := WorldView.enc) h rfl (fun _ => rfl) (fun x3 h => ?_)
      conv => whnf
      refine lenS x3.Log Entry.enc rfl ?_
      conv => whnf
      refine fkS h (fun h => ?_) (fun h => ?_)
      · conv => whnf
        refine ixS (enc := WorldView.enc) h rfl (fun _ => rfl) (fun x4 h => ?_)
        conv => whnf
        refine ixS (enc := Entry.enc) h rfl (fun _ => rfl) (fun x5 h => ?_)
        conv => whnf
        refine fkS h (fun h => ?_) (fun h => ?_)
        · conv => whnf
          exact rt (E := E_Bool) h rfl
        conv => whnf
        exact rt (E := E_Bool) h rfl
      conv => whnf
      exact rt (E := E_Bool) h rfl
    conv => whnf
    exact rt (E := E_Bool) h rfl
  conv => whnf
  exact rt (E := E_Bool) h rfl

end Go.Proofs.YtfnaclhllopoeaaGreat
namespace Go.Proofs.YtfnaclhllopoeaaGreat
open Go Go.VC
theorem top_works_eq : top_works = some true := by kernel_rfl
end Go.Proofs.YtfnaclhllopoeaaGreat
namespace Go.Proofs.YtfnaclhllopoeaaGreat
open Go Go.VC
noncomputable def top_TopBack (a0 : Config) (a1 : List Int) : Option Bool :=
  jn (fun (w1 : Bool) => fk w1 (bnd top_works fun x3 => some x3) (bnd (image_Encode a0) fun x4 => bnd (image_Decode x4.1) fun x5 => jn (fun (w6 : Bool) => fk w6 (some false) (ck (decide ((([] : List Int).length + a1.length) * 1 ≤ 140737488355328)) (bnd (image_Decode (([] : List Int) ++ a1)) fun x8 => bnd (image_Encode x8.1) fun x9 => fk (decide (x8.2.2 = (0 : Int))) (fk (decide (x9.2 = (0 : Int))) (fk ((strB x9.1).toList == (strB a1).toList) (fk (decide (x8.2.1 = (0 : Int))) (bnd top_works fun x10 => some x10) (some false)) (some false)) (some false)) (fk (decide (x8.2.1 ≥ (0 : Int))) (fk (decide (x8.2.1 ≤ (a1.length : Int))) (bnd (ref19_Same x8.1 ⟨[], []⟩) fun x11 => fk x11 (fk (decide (x8.2.2 = (8 : Int))) (bnd top_works fun x12 => some x12) (fk (decide (x8.2.2 = (2 : Int))) (bnd top_works fun x13 => some x13) (fk (decide (x8.2.2 = (1 : Int))) (bnd top_works fun x14 => some x14) (some false)))) (some false)) (some false)) (some false))))) (fun k6 => fk (decide (x4.2 = (0 : Int))) (fk (!decide (x5.2.2 = (0 : Int))) (k6 true) (bnd (ref19_Same a0 x5.1) fun x7 => k6 (!x7))) (k6 false)))) (fun k1 => bnd (law19_Great a0) fun x2 => fk x2 (k1 true) (k1 (decide ((a1.length : Int) > (2000 : Int)))))
theorem top_TopBack_w (a0 : Config) (a1 : List Int) (r : Bool) (h : top_TopBack a0 a1 = some r) : Go.VC.Spec Tryz.prog 3 [.agg (Config.enc a0), .d (.sl (a1.map (eI .u8)))] (fun y => y = E_Bool r) := by
  refine Go.VC.Spec.of_xc (args := [.agg (Config.enc a0), .d (.sl (a1.map (eI .u8)))]) (fn := Tryz.f3) tab ⟨[(0, [1, 2]), (1, [1, 2, 21]), (2, [4]), (3, [1, 2, 5, 6]), (4, [1, 2, 6, 7, 9]), (5, [1, 45]), (6, [4]), (7, [1, 10, 11, 12]), (8, [1, 10, 11, 12, 13, 14]), (9, [1, 10, 11, 12, 13, 14, 60]), (10, [4]), (11, [4])], [], [100021, 100045], []⟩ 105 [.tmp 4] rfl rfl rfl rfl rfl rfl ?_
  conv => whnf
  refine jnS (fun w1 => ⟨[(1, .l (.d (.sl (a1.map (eI .u8))))), (2, .l (.ptr 3 0)), (21, .l (.d (.bool w1)))], 105, [], [(3, [.d (.sl (a0.Parts.map Part.enc)), .d (.sl (a0.Ports.map Port.enc))])], []⟩) h (fun k1 hk1 h => ?_) (fun w1 h => ?_)
  · conv => whnf
    refine caS (E := E_Bool) h (law19_Great_w a0) rfl (fun _ => rfl) (fun x2 h => ?_)
    conv => whnf
    refine fkS h (fun h => ?_) (fun h => ?_)
    · conv => whnf
      exact jeS hk1 h (Weak.refl _)
    conv => whnf
    refine lenS a1 (eI .u8) rfl ?_
    conv => whnf
    exact jeS hk1 h (Weak.refl _)
  conv => whnf
  refine fkS h (fun h => ?_) (fun h => ?_)
  · conv => whnf
    refine caS (E := E_Bool) h top_works_w rfl (fun _ => rfl) (fun x3 h => ?_)
    conv => whnf
    exact rt (E := E_Bool) h rfl
  conv => whnf
  refine ccS (E := E_ListIntu8_Int) h (image_Encode_w a0) rfl rfl (fun x4 h => ?_)
  conv => whnf
  refine ccS (E := E_Config_Int_Int) h (image_Decode_w x4.1) rfl rfl (fun x5 h => ?_)
  conv => whnf
  refine jnS (fun w6 => ⟨[(1, .l (.d (.sl (a1.map (eI .u8))))), (45, .l (.d (.bool w6)))], 105, [], [], []⟩) h (fun k6 hk6 h => ?_) (fun w6 h => ?_)
  · conv => whnf
    refine fkS h (fun h => ?_) (fun h => ?_)
    · conv => whnf
      refine fkS h (fun h => ?_) (fun h => ?_)
      · conv => whnf
        exact jeS hk6 h (Weak.refl _)
      conv => whnf
      refine caS (E := E_Bool) h (ref19_Same_w a0 x5.1) rfl (fun _ => rfl) (fun x7 h => ?_)
      conv => whnf
      exact jeS hk6 h (Weak.refl _)
    conv => whnf
    exact jeS hk6 h (Weak.refl _)
  conv => whnf
  refine fkS h (fun h => ?_) (fun h => ?_)
  · conv => whnf
    exact rt (E := E_Bool) h rfl
  conv => whnf
  refine liS ([] : List Int) (eI .u8) rfl rfl ?_
  conv => whnf
  refine apS (enc := (eI .u8)) (l1 := ([] : List Int)) (l2 := a1) h rfl rfl (fun _ => rfl) (fun h => ?_)
  conv => whnf
  refine iceS 50 ?_
  conv => whnf
  refine ccS (E := E_Config_Int_Int) h (image_Decode_w (([] : List Int) ++ a1)) rfl rfl (fun x8 h => ?_)
  conv => whnf
  refine ccS (E := E_ListIntu8_Int) h (image_Encode_w x8.1) rfl rfl (fun x9 h => ?_)
  conv => whnf
  refine fkS h (fun h => ?_) (fun h => ?_)
  · conv => whnf
    refine fkS h (fun h => ?_) (fun h => ?_)
    · conv => whnf
      refine csD x9.1 rfl rfl rfl Tryz.underlying26 Tryz.underlying5 Tryz.underlying9 ?_
      conv => whnf
      refine csD a1 rfl rfl rfl Tryz.underlying26 Tryz.underlying5 Tryz.underlying9 ?_
      conv => whnf
      refine eqD rfl rfl rfl rfl ?_
      conv => whnf
      refine fkS h (fun h => ?_) (fun h => ?_)
      · conv => whnf
        refine fkS h (fun h => ?_) (fun h => ?_)
        · conv => whnf
          refine caS (E := E_Bool) h top_works_w rfl (fun _ => rfl) (fun x10 h => ?_)
          conv => whnf
          exact rt (E := E_Bool) h rfl
        conv => whnf
        exact rt (E := E_Bool) h rfl
      conv => whnf
      exact rt (E := E_Bool) h rfl
    conv => whnf
    exact rt (E := E_Bool) h rfl
  conv => whnf
  refine fkS h (fun h => ?_) (fun h => ?_)
  · conv => whnf
    refine lenS a1 (eI .u8) rfl ?_
    conv => whnf
    refine fkS h (fun h => ?_) (fun h => ?_)
    · conv => whnf
      refine caS (E := E_Bool) h (ref19_Same_w x8.1 ⟨[], []⟩) rfl (fun _ => rfl) (fun x11 h => ?_)
      conv => whnf
      refine fkS h (fun h => ?_) (fun h => ?_)
      · conv => whnf
        refine fkS h (fun h => ?_) (fun h => ?_)
        · conv => whnf
          refine caS (E := E_Bool) h top_works_w rfl (fun _ => rfl) (fun x12 h => ?_)
          conv => whnf
          exact rt (E := E_Bool) h rfl
        conv => whnf
        refine fkS h (fun h => ?_) (fun h => ?_)
        · conv => whnf
          refine caS (E := E_Bool) h top_works_w rfl (fun _ => rfl) (fun x13 h => ?_)
          conv => whnf
          exact rt (E := E_Bool) h rfl
        conv => whnf
        refine fkS h (fun h => ?_) (fun h => ?_)
        · conv => whnf
          refine caS (E := E_Bool) h top_works_w rfl (fun _ => rfl) (fun x14 h => ?_)
          conv => whnf
          exact rt (E := E_Bool) h rfl
        conv => whnf
        exact rt (E := E_Bool) h rfl
      conv => whnf
      exact rt (E := E_Bool) h rfl
    conv => whnf
    exact rt (E := E_Bool) h rfl
  conv => whnf
  exact rt (E := E_Bool) h rfl

end Go.Proofs.YtfnaclhllopoeaaGreat
namespace Go.Proofs.YtfnaclhllopoeaaGreat
open Go Go.VC
def PureTopBack : Prop := ∀ (a0 : Config) (a1 : List Int), Config.wf a0 → (a1.length * 1 ≤ BB ∧ ∀ y1 ∈ a1, wfI .u8 y1) → top_TopBack a0 a1 = some true
end Go.Proofs.YtfnaclhllopoeaaGreat
namespace Go.Proofs.YtfnaclhllopoeaaGreat
open Go Go.VC
theorem encQ_byte {c : Config} (x : Int) : 0 ≤ u8 x ∧ u8 x ≤ 255 := by
  unfold u8
  rw [IntKind.wrap_u8]
  omega
theorem mapu8_byte (l : List Int) : ∀ x ∈ l.map u8, 0 ≤ x ∧ x ≤ 255 := fun x hx => by
  obtain ⟨y, _, rfl⟩ := List.mem_map.1 hx
  exact encQ_byte (c := ⟨[], []⟩) y
theorem flat_byte {E : Type} {f : E → List Int} {l : List E} (h : ∀ x ∈ l, ∀ y ∈ f x, 0 ≤ y ∧ y ≤ 255) : ∀ y ∈ l.flatMap f, 0 ≤ y ∧ y ≤ 255 := fun y hy => by
  obtain ⟨x, hx, hxy⟩ := List.mem_flatMap.1 hy
  exact h x hx y hxy
theorem app_byte {a b : List Int} (h1 : ∀ y ∈ a, 0 ≤ y ∧ y ≤ 255) (h2 : ∀ y ∈ b, 0 ≤ y ∧ y ≤ 255) : ∀ y ∈ a ++ b, 0 ≤ y ∧ y ≤ 255 := fun y hy => (List.mem_append.1 hy).elim (h1 y) (h2 y)
theorem encC_bytes {c : Config} (hc : confP c) : bytesP (encC c) := by
  obtain ⟨hp, hq, ht⟩ := hc.few
  have h1 := flatMap_len encQ 131 c.Parts fun x hx => encQ_len (ht x hx).1 (ht x hx).2
  have h2 := flatMap_len encP 3 c.Ports fun x hx => by rw [encP_len]; omega
  refine ⟨?_, ?_⟩
  · unfold encC
    simp only [List.length_append, List.length_map, List.length_cons, List.length_nil]
    omega
  · unfold encC
    refine app_byte (app_byte (app_byte (app_byte (by decide) (mapu8_byte _)) (flat_byte fun x _ => ?_)) (mapu8_byte _)) (flat_byte fun x _ => mapu8_byte _)
    unfold encQ
    refine app_byte (mapu8_byte _) (flat_byte fun t _ => ?_)
    unfold encT
    exact app_byte (mapu8_byte _) (flat_byte fun s _ => mapu8_byte _)
theorem zero_conf : confP ⟨[], []⟩ := ⟨fun p h => (List.not_mem_nil h).elim, by show (0 : Nat) ≤ 4; omega, fun p h => (List.not_mem_nil h).elim, fun p h => (List.not_mem_nil h).elim, by show (0 : Nat) ≤ 4; omega⟩
theorem zero_confB : confB ⟨[], []⟩ := ⟨by show (0 : Nat) ≤ _; omega, by show (0 : Nat) ≤ _; omega, fun p h => (List.not_mem_nil h).elim⟩
theorem confP.confB {c : Config} (h : confP c) : confB c := by
  obtain ⟨hp, hq, ht⟩ := h.few
  exact ⟨by omega, by omega, fun p hp => ⟨by have := (ht p hp).1; omega, fun t h2 => by have := (ht p hp).2 t h2; omega⟩⟩
theorem confP.same {c : Config} (h : confP c) : ref19_Same c c = some true := by
  obtain ⟨hp, hq, ht⟩ := h.few
  exact same19_refl c (by omega) (by omega) fun p hp => ⟨by have := (ht p hp).1; omega, fun t h2 => by have := (ht p hp).2 t h2; omega⟩
theorem proofTopBack : PureTopBack := by
  intro c b hc hb
  have hcl : c.Parts.length ≤ 4611686018427387904 := by have := hc.1.1; unfold BB at this; omega
  have hct : ∀ p ∈ c.Parts, p.Tasks.length ≤ 4611686018427387904 ∧ ∀ t ∈ p.Tasks, t.Secs.length ≤ 4611686018427387904 := fun p hp => by
    have h1 := (hc.1.2 p hp).2
    refine ⟨by have := h1.1; unfold BB at this; omega, fun t ht => ?_⟩
    have := (h1.2 t ht).2.2.2.1
    unfold BB at this; omega
  unfold top_TopBack
  obtain ⟨g, hg, hgg⟩ := great19_ex c hcl fun p hp => (hct p hp).1
  by_cases hG : g = true ∨ b.length > 2000
  · refine jn_to true (fun k1 => ?_) (by rw [fk_t, bnd_eq top_works_eq])
    rw [bnd_eq hg]
    cases g with
    | true => rw [fk_t]
    | false =>
      have hl : b.length > 2000 := hG.resolve_left fun h => by cases h
      rw [fk_f, decide_eq_true (by omega)]
  have hgf : g = false := by
    cases g with
    | true => exact absurd (.inl rfl) hG
    | false => rfl
  subst hgf
  have hbl : ¬ b.length > 2000 := fun h => hG (.inr h)
  obtain ⟨g1, g2⟩ := hgg rfl
  refine jn_to false (fun k1 => by rw [bnd_eq hg, fk_f, decide_eq_false (by omega)]) ?_
  have hcB : confB c := ⟨hcl, by omega, hct⟩
  have hbp : bytesP b := ⟨by omega, fun x hx => wfI_8 (hb.2 x hx)⟩
  rw [fk_f, bnd_eq (image_Encode_eq c hcB)]
  have part1 : ∀ (Z : Option Bool), Z = some true → bnd (image_Decode (if confP c then (encC c, (0 : Int)) else ([], 1)).1) (fun x5 => jn (fun (w6 : Bool) => fk w6 (some false) Z) (fun k6 => fk (decide ((if confP c then (encC c, (0 : Int)) else ([], 1)).2 = (0 : Int))) (fk (!decide (x5.2.2 = (0 : Int))) (k6 true) (bnd (ref19_Same c x5.1) fun x7 => k6 (!x7))) (k6 false))) = some true := by
    intro Z hZ
    by_cases hcp : confP c
    · rw [if_pos hcp]
      obtain ⟨r, h1, h2⟩ := image_Decode_is (encC c) (encC_bytes hcp)
      rw [bnd_eq h1, h2, decode_enc hcp]
      refine jn_to false (fun k6 => ?_) (by rw [fk_f]; exact hZ)
      dsimp only
      rw [decide_eq_true rfl, fk_t, Bool.not_true, fk_f, bnd_eq hcp.same, Bool.not_true]
    · rw [if_neg hcp]
      obtain ⟨r, h1, h2⟩ := image_Decode_is [] ⟨by show (0 : Nat) ≤ _; omega, fun x h => (List.not_mem_nil h).elim⟩
      rw [bnd_eq h1]
      refine jn_to false (fun k6 => ?_) (by rw [fk_f]; exact hZ)
      dsimp only
      rw [decide_eq_false (by decide), fk_f]
  refine part1 _ ?_
  rw [ck_t (by simp; omega), List.nil_append]
  obtain ⟨r, h1, h2⟩ := image_Decode_is b hbp
  have hok := decode_ok hbp
  rw [← h2] at hok
  rw [bnd_eq h1]
  by_cases he : r.2.2 = 0
  · obtain ⟨e1, e2, e3⟩ := hok.1 he
    rw [bnd_eq (image_Encode_eq r.1 e3.confB), if_pos e3, decide_eq_true he, fk_t, decide_eq_true rfl, fk_t]
    dsimp only
    rw [← e1]
    have : ((strB b).toList == (strB b).toList) = true := by simp
    rw [this, fk_t, decide_eq_true e2, fk_t, bnd_eq top_works_eq]
  · obtain ⟨e1, e2, e3, e4⟩ := hok.2 he
    rw [e1, bnd_eq (image_Encode_eq ⟨[], []⟩ zero_confB), decide_eq_false he, fk_f, decide_eq_true (show r.2.1 ≥ 0 from e2), fk_t, decide_eq_true e3, fk_t, bnd_eq zero_conf.same, fk_t]
    rcases e4 with h | h | h
    · rw [decide_eq_true h, fk_t, bnd_eq top_works_eq]
    · rw [decide_eq_false (by omega), fk_f, decide_eq_true h, fk_t, bnd_eq top_works_eq]
    · rw [decide_eq_false (by omega), fk_f, decide_eq_false (by omega), fk_f, decide_eq_true h, fk_t, bnd_eq top_works_eq]
end Go.Proofs.YtfnaclhllopoeaaGreat
namespace Go.Proofs.YtfnaclhllopoeaaGreat.topBack
open Go Go.VC Go.ChangeShapes Go.WideShapes Go.ChangeAt Go.RowKit
theorem own : ownKnob Tryz.prog.godebug = none := by kernel_rfl
theorem laidOut : laidOutB Tryz.prog = true := by kernel_rfl
theorem lifted (os : Os) (started : os.Started) (H : Type) (enc : TypeId × Value → H) :
    ReturnsInHanded {} Tryz.checked os 3 .any (Rows.topBackSpec.pre6 enc Tryz.prog Tryz.f3 Rows.topBackRow.domain false) (Rows.topBackSpec.post enc Tryz.prog Tryz.f3 false true false false) := by
  refine returnsInHanded_of_change_sized (C := Tryz.checked) own started (by kernel_rfl) Tryz.func3
    (ChangeSpec.witness6 (enc := enc) (C := Tryz.checked) false ⟨#[], #[.agg #[.slice none 0 0, .slice none 0 0], .slice none 0 0], []⟩ 8 (by kernel_rfl) (by kernel_rfl) (by kernel_rfl) (by kernel_rfl)) ?_
  intro W base args ds gs before hval0 hW hcnd hsz0 _
  have hsz : (DataW.weightsEach Tryz.prog (Tryz.f3.params.toList ++ Rows.topBackSpec.plain.varTypes Tryz.prog) (ds ++ gs)).all (· ≤ reachBytes) = true := hsz0
  have hval : ∀ (j : Nat) t v, Tryz.f3.params[j]? = some t → args[j]? = some v → Value.okWide Tryz.prog W .any base t v := hval0
  have hW' := hW
  obtain ⟨p, q, hA0, hV, rfl, hfz, hnd⟩ := hW
  have hA : DataW.TrodAll enc Tryz.prog W 0 (fun _ => true) true Tryz.f3.params.toList args.toList ds p := hA0
  rw [Tryz.params3] at hA hval hsz
  obtain ⟨v0, vs0, d0, ds0, p0, q0, hargs, rfl, rfl, h0, r0⟩ := trodAll_cons hA
  obtain ⟨v1, vs1, d1, ds1, p1, q1, rfl, rfl, rfl, h1, r1⟩ := trodAll_cons r0
  obtain ⟨rfl, rfl, rfl⟩ := trodAll_nil r1
  obtain rfl : args = #[v0, v1] := by cases args; simp_all
  obtain ⟨rfl, rfl⟩ := trodVars_none hV
  have lt0 : ∀ x ∈ p0, x.block < W.heap.size := by obtain ⟨m, hm⟩ := h0; exact DataW.trod_lt m _ _ _ hm
  have wt0 : ∀ k ∈ d0.weights Tryz.prog 25, k ≤ BB := fun k hk => of_decide_eq_true (List.all_eq_true.1 hsz _ (DataW.weights_mem_each (j := 0) rfl rfl k hk))
  obtain ⟨c0, s0, g0⟩ := open_cv tab (m := 8) (t := 25) rfl (hval 0 25 v0 rfl rfl) h0 wt0
  have g0 := g0 _ T25
  obtain ⟨a0, rfl, w0⟩ := (Config.of s0)
  have lt1 : ∀ x ∈ p1, x.block < W.heap.size := by obtain ⟨m, hm⟩ := h1; exact DataW.trod_lt m _ _ _ hm
  have wt1 : ∀ k ∈ d1.weights Tryz.prog 26, k ≤ BB := fun k hk => of_decide_eq_true (List.all_eq_true.1 hsz _ (DataW.weights_mem_each (j := 1) rfl rfl k hk))
  obtain ⟨c1, s1, g1⟩ := open_cv tab (m := 8) (t := 26) rfl (hval 1 26 v1 rfl rfl) h1 wt1
  have g1 := g1 _ T26
  obtain ⟨a1, rfl, w1⟩ := (s1.l (f := (eI .u8)) (W := (fun x => wfI .u8 x)) T26 T5 (fun _ _ h => (h.i T5)))
  clear hA0 hval0 hsz0 hsz
  have pure := proofTopBack a0 a1 w0 w1
  refine ((top_TopBack_w a0 a1 true pure).2 W (pw W) [v0, v1] (fun _ h => h) (All2.cons g0 (All2.cons g1 All2.nil))).mono fun e W' ⟨v, rs, p', he, hR, hrep, bel, _⟩ => ?_
  subst hR he
  obtain rfl := RepD_bool hrep
  exact ⟨_, rfl, _, _, _, [], _, [], hW', trodAll_mk1 (shut_bool Tryz.underlying4 _), (trodAll_cons_mk (Below.trod laidOut (by kernel_rfl) (of_decide_eq_true (by kernel_rfl)) h0 bel lt0) (trodAll_cons_mk (Below.trod laidOut (by kernel_rfl) (of_decide_eq_true (by kernel_rfl)) h1 bel lt1) trodAll_mk0)), rfl, bel.frame _, fun h => by cases h⟩
theorem over : Rows.topBackRow.holds Tryz.pinned (OpenSpec.ofChange Rows.topBackSpec) :=
  OpenClaim.holds_of_wide 3 Tryz.f3 rfl rfl rfl rfl rfl rfl rfl ⟨rfl, rfl, rfl, rfl, rfl⟩ rfl rfl rfl rfl rfl (by kernel_rfl) Tryz.func3 (by kernel_rfl)
    (of_decide_eq_true (by kernel_rfl)) (by unfold Func.isWrapper; first | (rw [if_pos (by decide +kernel)]; kernel_rfl) | (rw [if_neg (by decide +kernel)]; exact ⟨rfl, rfl⟩))
    (fun os started H enc _ => lifted os started H enc)
end Go.Proofs.YtfnaclhllopoeaaGreat.topBack
namespace Go.Proofs.YtfnaclhllopoeaaGreat
theorem topBack_holds : Rows.TopBackSaid := topBack.over
end Go.Proofs.YtfnaclhllopoeaaGreat
