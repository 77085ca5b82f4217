/- It is proved that the law PoliceLater returns true at every input that the row lets in; there is no condition beside the row's own. -/
import Derived.Test.YtkhebjkplmidnaaV9
import Derived.Test.YtkhebjkplmidnaaV7
import Derived.Test.YtkhebjkplmidnaaV8
import Derived.Test.YtkhebjkplmidnaaRows
set_option linter.unusedVariables false
set_option linter.unusedSimpArgs false
set_option maxRecDepth 100000
set_option maxHeartbeats 4000000
namespace Go.Proofs.Ytkhebjkplmidnaa
open Go Go.VC
structure PoliceAsk where
  Task : Int
  At : Int
  deriving DecidableEq
def PoliceAsk.enc (x : PoliceAsk) : List Go.VC.D := [.int .i64 x.Task, .int .i64 x.At]
structure Job where
  Task : Int
  At : Int
  Due : Int
  Want : Int
  Had : Int
  Began : Bool
  deriving DecidableEq
def Job.enc (x : Job) : List Go.VC.D := [.int .i64 x.Task, .int .i64 x.At, .int .i64 x.Due, .int .i64 x.Want, .int .i64 x.Had, .bool x.Began]
structure Sec where
  Res : Int
  At : Int
  Len : Int
  deriving DecidableEq
def Sec.enc (x : Sec) : List Go.VC.D := [.int .i64 x.Res, .int .i64 x.At, .int .i64 x.Len]
structure Law15Come where
  Some : Bool
  Task : Int
  Want : Int
  deriving DecidableEq
def Law15Come.enc (x : Law15Come) : List Go.VC.D := [.bool x.Some, .int .i64 x.Task, .int .i64 x.Want]
structure Task where
  C : Int
  D : Int
  T : Int
  Secs : List Sec
  deriving DecidableEq
def Task.enc (x : Task) : List Go.VC.D := [.int .i64 x.C, .int .i64 x.D, .int .i64 x.T, .sl (x.Secs.map Sec.enc)]
structure Policegate where
  l : List Task
  lasts : List Int
  deriving DecidableEq
def Policegate.enc (x : Policegate) : List Go.VC.D := [.sl (x.l.map Task.enc), .sl (x.lasts.map (eI .i64))]
def E_Bool : Bool → List CV := fun r => [.d (.bool r)]
def E_ListBool : (List Bool) → List CV := fun r => [.d (.sl (r.map eB))]
def E_ListInt_Int : ((List Int) × Int) → List CV := fun r => [.d (.sl (r.1.map (eI .i64))), .d (.int .i64 r.2)]
def E_Int : Int → List CV := fun r => [.d (.int .i64 r)]
def E_ListInt_ListInt : ((List Int) × (List Int)) → List CV := fun r => [.d (.sl (r.1.map (eI .i64))), .d (.sl (r.2.map (eI .i64)))]
def E_ListInt : (List Int) → List CV := fun r => [.d (.sl (r.map (eI .i64)))]
def E_ListJob : (List Job) → List CV := fun r => [.d (.sl (r.map Job.enc))]
def E_ListJob_Job_Bool : ((List Job) × Job × Bool) → List CV := fun r => [.d (.sl (r.1.map Job.enc)), .agg (Job.enc r.2.1), .d (.bool r.2.2)]
end Go.Proofs.Ytkhebjkplmidnaa
namespace Go.Proofs.Ytkhebjkplmidnaa
open Go Go.VC
noncomputable def law05_Great (a0 : List Task) : Option Bool :=
  lp (fun nx1 (v1 : Int) => fk (decide (v1 < (a0.length : Int))) (ix a0 v1 fun x2 => fk (decide ((x2.Secs.length : Int) > (20 : Int))) (some true) (nx1 (wr (v1 + (1 : Int))))) (some (decide ((a0.length : Int) > (20 : Int))))) FU (0 : Int)
theorem law05_Great_w (a0 : List Task) (r : Bool) (h : law05_Great a0 = some r) : Go.VC.Spec Try.prog 14 [.d (.sl (a0.map Task.enc))] (fun y => y = E_Bool r) := by
  refine Go.VC.Spec.of_xc (args := [.d (.sl (a0.map Task.enc))]) (fn := Try.f14) tab ⟨[(0, [0]), (1, [0, 3]), (2, [0, 3, 7]), (3, [0, 3]), (4, [0, 3, 16]), (5, [2]), (6, [2])], [], [], []⟩ 20 [.tmp 2] rfl rfl rfl rfl rfl rfl ?_
  refine lpS (fun v1 => ⟨[(0, .l (.d (.sl (a0.map Task.enc)))), (3, .l (.d (.int .i64 v1)))], 20, [], [], []⟩) h (Weak.refl _) (fun _ nx1 hn1 v1 h => ?_)
  refine lenS a0 Task.enc rfl ?_
  refine fkS h (fun h => ?_) (fun h => ?_)
  · refine ixS (enc := Task.enc) h rfl (fun _ => rfl) (fun x2 h => ?_)
    refine lenS x2.Secs Sec.enc rfl ?_
    refine fkS h (fun h => ?_) (fun h => ?_)
    · exact rt (E := E_Bool) h rfl
    exact leS hn1 h (Weak.refl _)
  refine lenS a0 Task.enc rfl ?_
  exact rt (E := E_Bool) h rfl

end Go.Proofs.Ytkhebjkplmidnaa
namespace Go.Proofs.Ytkhebjkplmidnaa
open Go Go.VC
noncomputable def task_own (a0 : Task) : Option Bool :=
  fk (decide (a0.C ≥ (1 : Int))) (fk (decide (a0.C ≤ a0.D)) (fk (decide (a0.D ≤ a0.T)) (fk (decide (a0.T ≤ (200 : Int))) (some (decide ((a0.Secs.length : Int) ≤ (4 : Int)))) (some false)) (some false)) (some false)) (some false)
theorem task_own_w (a0 : Task) (r : Bool) (h : task_own a0 = some r) : Go.VC.Spec Try.prog 64 [.agg (Task.enc a0)] (fun y => y = E_Bool r) := by
  refine Go.VC.Spec.of_xc (args := [.agg (Task.enc a0)]) (fn := Try.f64) tab ⟨[(0, [1]), (1, [2])], [], [], []⟩ 31 [.tmp 2] rfl rfl rfl rfl rfl rfl ?_
  refine fkS h (fun h => ?_) (fun h => ?_)
  · refine fkS h (fun h => ?_) (fun h => ?_)
    · refine fkS h (fun h => ?_) (fun h => ?_)
      · refine fkS h (fun h => ?_) (fun h => ?_)
        · refine lenS a0.Secs Sec.enc rfl ?_
          exact rt (E := E_Bool) h rfl
        exact rt (E := E_Bool) h rfl
      exact rt (E := E_Bool) h rfl
    exact rt (E := E_Bool) h rfl
  exact rt (E := E_Bool) h rfl

end Go.Proofs.Ytkhebjkplmidnaa
namespace Go.Proofs.Ytkhebjkplmidnaa
open Go Go.VC
noncomputable def task_may (a0 : Task) (a1 : Sec) : Option Bool :=
  fk (decide (a1.Res ≥ (0 : Int))) (fk (decide (a1.Res < (4 : Int))) (fk (decide (a1.At ≥ (0 : Int))) (fk (decide (a1.At < a0.C)) (fk (decide (a1.Len ≥ (1 : Int))) (some (decide (a1.Len ≤ (wr (a0.C - a1.At))))) (some false)) (some false)) (some false)) (some false)) (some false)
theorem task_may_w (a0 : Task) (a1 : Sec) (r : Bool) (h : task_may a0 a1 = some r) : Go.VC.Spec Try.prog 65 [.agg (Task.enc a0), .agg (Sec.enc a1)] (fun y => y = E_Bool r) := by
  refine Go.VC.Spec.of_xc (args := [.agg (Task.enc a0), .agg (Sec.enc a1)]) (fn := Try.f65) tab ⟨[(0, [2, 3]), (1, [4])], [], [], []⟩ 40 [.tmp 4] rfl rfl rfl rfl rfl rfl ?_
  refine fkS h (fun h => ?_) (fun h => ?_)
  · refine fkS h (fun h => ?_) (fun h => ?_)
    · refine fkS h (fun h => ?_) (fun h => ?_)
      · refine fkS h (fun h => ?_) (fun h => ?_)
        · refine fkS h (fun h => ?_) (fun h => ?_)
          · exact rt (E := E_Bool) h rfl
          exact rt (E := E_Bool) h rfl
        exact rt (E := E_Bool) h rfl
      exact rt (E := E_Bool) h rfl
    exact rt (E := E_Bool) h rfl
  exact rt (E := E_Bool) h rfl

end Go.Proofs.Ytkhebjkplmidnaa
namespace Go.Proofs.Ytkhebjkplmidnaa
open Go Go.VC
noncomputable def task_fits (a0 : Sec) (a1 : Sec) : Option Bool :=
  fk (decide (a1.At ≥ (wr (a0.At + a0.Len)))) (some true) (fk (decide (a1.At < a0.At)) (some false) (fk (decide ((wr (a1.At + a1.Len)) ≤ (wr (a0.At + a0.Len)))) (some (!decide (a0.Res = a1.Res))) (some false)))
theorem task_fits_w (a0 : Sec) (a1 : Sec) (r : Bool) (h : task_fits a0 a1 = some r) : Go.VC.Spec Try.prog 66 [.agg (Sec.enc a0), .agg (Sec.enc a1)] (fun y => y = E_Bool r) := by
  refine Go.VC.Spec.of_xc (args := [.agg (Sec.enc a0), .agg (Sec.enc a1)]) (fn := Try.f66) tab ⟨[(0, [2, 3]), (1, [2, 3, 5]), (2, [4]), (3, [2, 3, 14]), (4, [4]), (5, [4])], [], [], []⟩ 38 [.tmp 4] rfl rfl rfl rfl rfl rfl ?_
  refine fkS h (fun h => ?_) (fun h => ?_)
  · exact rt (E := E_Bool) h rfl
  refine fkS h (fun h => ?_) (fun h => ?_)
  · exact rt (E := E_Bool) h rfl
  refine fkS h (fun h => ?_) (fun h => ?_)
  · exact rt (E := E_Bool) h rfl
  exact rt (E := E_Bool) h rfl

end Go.Proofs.Ytkhebjkplmidnaa
namespace Go.Proofs.Ytkhebjkplmidnaa
open Go Go.VC
noncomputable def task_Right (a0 : Task) : Option Bool :=
  bnd (task_own a0) fun x1 => fk (!x1) (some false) (lp (fun nx2 (v2 : Int) => fk (decide (v2 < (a0.Secs.length : Int))) (ix a0.Secs v2 fun x3 => bnd (task_may a0 x3) fun x4 => fk (!x4) (some false) (ck (decide ((0 : Int) ≤ (0 : Int)) && decide ((0 : Int) ≤ v2) && decide (v2 ≤ (a0.Secs.length : Int))) (lp (fun nx5 (v5 : Int) => fk (decide (v5 < (((a0.Secs.take v2.toNat).drop (0 : Int).toNat).length : Int))) (ix ((a0.Secs.take v2.toNat).drop (0 : Int).toNat) v5 fun x6 => bnd (task_fits x6 x3) fun x7 => fk x7 (nx5 (wr (v5 + (1 : Int)))) (some (decide ((0 : Int) > (0 : Int))))) (nx2 (wr (v2 + (1 : Int))))) FU (0 : Int)))) (some (decide (a0.C > (0 : Int))))) FU (0 : Int))
theorem task_Right_w (a0 : Task) (r : Bool) (h : task_Right a0 = some r) : Go.VC.Spec Try.prog 59 [.agg (Task.enc a0)] (fun y => y = E_Bool r) := by
  refine Go.VC.Spec.of_xc (args := [.agg (Task.enc a0)]) (fn := Try.f59) tab ⟨[(0, [1]), (1, [1, 9]), (2, [2]), (3, [1, 11, 12, 13]), (4, [1, 11, 12, 13, 14]), (5, [1, 3, 4, 11, 12, 13]), (6, [1, 3, 4, 11, 12, 13, 21]), (7, [2]), (8, [1, 4, 11, 12, 13, 25, 26, 27]), (9, [1, 4, 11, 12, 13, 25, 26, 27, 28]), (10, [1, 4, 6, 11, 12, 13, 25, 26, 27]), (11, [1, 4, 11, 12, 13, 25, 26, 27, 33]), (12, [1]), (13, [1, 4, 11, 12, 13, 25, 26, 27]), (14, [1, 11, 12, 13]), (15, [2])], [], [], []⟩ 40 [.tmp 2] rfl rfl rfl rfl rfl rfl ?_
  refine caS (E := E_Bool) h (task_own_w a0) rfl (fun _ => rfl) (fun x1 h => ?_)
  refine fkS h (fun h => ?_) (fun h => ?_)
  · exact rt (E := E_Bool) h rfl
  refine lenS a0.Secs Sec.enc rfl ?_
  refine lpS (fun v2 => ⟨[(1, .l (.ptr 2 0)), (11, .l (.d (.sl (a0.Secs.map Sec.enc)))), (12, .l (.d (.int .i64 (a0.Secs.length : Int)))), (13, .l (.d (.int .i64 v2)))], 40, [], [(2, [.d (.int .i64 a0.C), .d (.int .i64 a0.D), .d (.int .i64 a0.T), .d (.sl (a0.Secs.map Sec.enc))])], []⟩) h (Weak.refl _) (fun _ nx2 hn2 v2 h => ?_)
  refine fkS h (fun h => ?_) (fun h => ?_)
  · refine ixS (enc := Sec.enc) h rfl (fun _ => rfl) (fun x3 h => ?_)
    refine caS (E := E_Bool) h (task_may_w a0 x3) rfl (fun _ => rfl) (fun x4 h => ?_)
    refine fkS h (fun h => ?_) (fun h => ?_)
    · exact rt (E := E_Bool) h rfl
    refine slS (enc := Sec.enc) h rfl rfl (.inl rfl) (fun _ => rfl) (fun h => ?_)
    refine lenS ((a0.Secs.take v2.toNat).drop (0 : Int).toNat) Sec.enc rfl ?_
    refine lpS (fun v5 => ⟨[(1, .l (.ptr 2 0)), (4, .l (.ptr 5 0)), (11, .l (.d (.sl (a0.Secs.map Sec.enc)))), (12, .l (.d (.int .i64 (a0.Secs.length : Int)))), (13, .l (.d (.int .i64 v2))), (25, .l (.d (.sl (((a0.Secs.take v2.toNat).drop (0 : Int).toNat).map Sec.enc)))), (26, .l (.d (.int .i64 (((a0.Secs.take v2.toNat).drop (0 : Int).toNat).length : Int)))), (27, .l (.d (.int .i64 v5)))], 40, [], [(2, [.d (.int .i64 a0.C), .d (.int .i64 a0.D), .d (.int .i64 a0.T), .d (.sl (a0.Secs.map Sec.enc))]), (5, [.d (.int .i64 x3.Res), .d (.int .i64 x3.At), .d (.int .i64 x3.Len)])], []⟩) h (Weak.refl _) (fun _ nx5 hn5 v5 h => ?_)
    refine fkS h (fun h => ?_) (fun h => ?_)
    · refine ixS (enc := Sec.enc) h rfl (fun _ => rfl) (fun x6 h => ?_)
      refine caS (E := E_Bool) h (task_fits_w x6 x3) rfl (fun _ => rfl) (fun x7 h => ?_)
      refine fkS h (fun h => ?_) (fun h => ?_)
      · exact leS hn5 h (Weak.refl _)
      exact rt (E := E_Bool) h rfl
    exact leS hn2 h (Weak.refl _)
  exact rt (E := E_Bool) h rfl

end Go.Proofs.Ytkhebjkplmidnaa
namespace Go.Proofs.Ytkhebjkplmidnaa
open Go Go.VC
noncomputable def task_All (a0 : List Task) : Option Bool :=
  lp (fun nx1 (v1 : Int) => fk (decide (v1 < (a0.length : Int))) (ix a0 v1 fun x2 => bnd (task_Right x2) fun x3 => fk (!x3) (some false) (nx1 (wr (v1 + (1 : Int))))) (some (decide ((a0.length : Int) ≤ (8 : Int))))) FU (0 : Int)
theorem task_All_w (a0 : List Task) (r : Bool) (h : task_All a0 = some r) : Go.VC.Spec Try.prog 44 [.d (.sl (a0.map Task.enc))] (fun y => y = E_Bool r) := by
  refine Go.VC.Spec.of_xc (args := [.d (.sl (a0.map Task.enc))]) (fn := Try.f44) tab ⟨[(0, [0]), (1, [0, 5, 6, 7]), (2, [0, 5, 6, 7, 8]), (3, [0, 4, 5, 6, 7]), (4, [0, 5, 6, 7, 13]), (5, [2]), (6, [0, 5, 6, 7]), (7, [2])], [], [], []⟩ 18 [.tmp 2] rfl rfl rfl rfl rfl rfl ?_
  refine lenS a0 Task.enc rfl ?_
  refine lpS (fun v1 => ⟨[(0, .l (.d (.sl (a0.map Task.enc)))), (5, .l (.d (.sl (a0.map Task.enc)))), (6, .l (.d (.int .i64 (a0.length : Int)))), (7, .l (.d (.int .i64 v1)))], 18, [], [], []⟩) h (Weak.refl _) (fun _ nx1 hn1 v1 h => ?_)
  refine fkS h (fun h => ?_) (fun h => ?_)
  · refine ixS (enc := Task.enc) h rfl (fun _ => rfl) (fun x2 h => ?_)
    refine caS (E := E_Bool) h (task_Right_w x2) rfl (fun _ => rfl) (fun x3 h => ?_)
    refine fkS h (fun h => ?_) (fun h => ?_)
    · exact rt (E := E_Bool) h rfl
    exact leS hn1 h (Weak.refl _)
  refine lenS a0 Task.enc rfl ?_
  exact rt (E := E_Bool) h rfl

end Go.Proofs.Ytkhebjkplmidnaa
namespace Go.Proofs.Ytkhebjkplmidnaa
open Go Go.VC
noncomputable def police_Right (a0 : List Task) (a1 : List Int) : Option Bool :=
  jn (fun (w1 : Bool) => fk w1 (some false) (lp (fun nx3 (v3 : Int) => fk (decide (v3 < (a1.length : Int))) (ix a1 v3 fun x4 => jn (fun (w5 : Bool) => fk w5 (some false) (nx3 (wr (v3 + (1 : Int))))) (fun k5 => fk (decide (x4 < (-1 : Int))) (k5 true) (k5 (decide (x4 > (4611686018427387903 : Int)))))) (some true)) FU (0 : Int))) (fun k1 => bnd (task_All a0) fun x2 => fk (!x2) (k1 true) (k1 (!decide ((a1.length : Int) = (a0.length : Int)))))
theorem police_Right_w (a0 : List Task) (a1 : List Int) (r : Bool) (h : police_Right a0 a1 = some r) : Go.VC.Spec Try.prog 18 [.d (.sl (a0.map Task.enc)), .d (.sl (a1.map (eI .i64)))] (fun y => y = E_Bool r) := by
  refine Go.VC.Spec.of_xc (args := [.d (.sl (a0.map Task.enc)), .d (.sl (a1.map (eI .i64)))]) (fn := Try.f18) tab ⟨[(0, [0, 1]), (1, [1, 16]), (2, [4]), (3, [17, 18, 19]), (4, [17, 18, 19, 20]), (5, [6, 17, 18, 19]), (6, [17, 18, 19, 28]), (7, [4]), (8, [17, 18, 19]), (9, [4])], [], [100016, 100028], []⟩ 30 [.tmp 4] rfl rfl rfl rfl rfl rfl ?_
  refine jnS (fun w1 => ⟨[(1, .l (.d (.sl (a1.map (eI .i64))))), (16, .l (.d (.bool w1)))], 30, [], [], []⟩) h (fun k1 hk1 h => ?_) (fun w1 h => ?_)
  · refine caS (E := E_Bool) h (task_All_w a0) rfl (fun _ => rfl) (fun x2 h => ?_)
    refine fkS h (fun h => ?_) (fun h => ?_)
    · exact jeS hk1 h (Weak.refl _)
    refine lenS a1 (eI .i64) rfl ?_
    refine lenS a0 Task.enc rfl ?_
    exact jeS hk1 h (Weak.refl _)
  refine fkS h (fun h => ?_) (fun h => ?_)
  · exact rt (E := E_Bool) h rfl
  refine lenS a1 (eI .i64) rfl ?_
  refine lpS (fun v3 => ⟨[(17, .l (.d (.sl (a1.map (eI .i64))))), (18, .l (.d (.int .i64 (a1.length : Int)))), (19, .l (.d (.int .i64 v3)))], 30, [], [], []⟩) h (Weak.refl _) (fun _ nx3 hn3 v3 h => ?_)
  refine fkS h (fun h => ?_) (fun h => ?_)
  · refine ixS (enc := (eI .i64)) h rfl (fun _ => rfl) (fun x4 h => ?_)
    refine jnS (fun w5 => ⟨[(17, .l (.d (.sl (a1.map (eI .i64))))), (18, .l (.d (.int .i64 (a1.length : Int)))), (19, .l (.d (.int .i64 v3))), (28, .l (.d (.bool w5)))], 30, [], [], []⟩) h (fun k5 hk5 h => ?_) (fun w5 h => ?_)
    · refine fkS h (fun h => ?_) (fun h => ?_)
      · exact jeS hk5 h (Weak.refl _)
      exact jeS hk5 h (Weak.refl _)
    refine fkS h (fun h => ?_) (fun h => ?_)
    · exact rt (E := E_Bool) h rfl
    exact leS hn3 h (Weak.refl _)
  exact rt (E := E_Bool) h rfl

end Go.Proofs.Ytkhebjkplmidnaa
namespace Go.Proofs.Ytkhebjkplmidnaa
open Go Go.VC
noncomputable def police_May (a0 : List Task) (a1 : List Int) (a2 : Int) (a3 : Int) : Option Int :=
  jn (fun (w1 : Bool) => fk w1 (some (1 : Int)) (jn (fun (w3 : Bool) => fk w3 (some (6 : Int)) (some (0 : Int))) (fun k3 => ix a1 a2 fun x4 => fk (!decide (x4 = (-1 : Int))) (ix a1 a2 fun x5 => ix a0 a2 fun x6 => k3 (decide (a3 < (wr (x5 + x6.T))))) (k3 false)))) (fun k1 => bnd (police_Right a0 a1) fun x2 => fk (!x2) (k1 true) (fk (decide (a2 < (0 : Int))) (k1 true) (fk (decide (a2 ≥ (a0.length : Int))) (k1 true) (fk (decide (a3 < (0 : Int))) (k1 true) (k1 (decide (a3 > (4611686018427387703 : Int))))))))
theorem police_May_w (a0 : List Task) (a1 : List Int) (a2 : Int) (a3 : Int) (r : Int) (h : police_May a0 a1 a2 a3 = some r) : Go.VC.Spec Try.prog 20 [.d (.sl (a0.map Task.enc)), .d (.sl (a1.map (eI .i64))), .d (.int .i64 a2), .d (.int .i64 a3)] (fun y => y = E_Int r) := by
  refine Go.VC.Spec.of_xc (args := [.d (.sl (a0.map Task.enc)), .d (.sl (a1.map (eI .i64))), .d (.int .i64 a2), .d (.int .i64 a3)]) (fn := Try.f20) tab ⟨[(0, [0, 1, 2, 3]), (1, [0, 1, 2, 3, 9]), (2, [8]), (3, [32]), (4, [8]), (5, [8])], [], [100032, 100009], []⟩ 52 [.tmp 8] rfl rfl rfl rfl rfl rfl ?_
  refine jnS (fun w1 => ⟨[(0, .l (.d (.sl (a0.map Task.enc)))), (1, .l (.d (.sl (a1.map (eI .i64))))), (2, .l (.d (.int .i64 a2))), (3, .l (.d (.int .i64 a3))), (9, .l (.d (.bool w1)))], 52, [], [], []⟩) h (fun k1 hk1 h => ?_) (fun w1 h => ?_)
  · refine caS (E := E_Bool) h (police_Right_w a0 a1) rfl (fun _ => rfl) (fun x2 h => ?_)
    refine fkS h (fun h => ?_) (fun h => ?_)
    · exact jeS hk1 h (Weak.refl _)
    refine fkS h (fun h => ?_) (fun h => ?_)
    · exact jeS hk1 h (Weak.refl _)
    refine lenS a0 Task.enc rfl ?_
    refine fkS h (fun h => ?_) (fun h => ?_)
    · exact jeS hk1 h (Weak.refl _)
    refine fkS h (fun h => ?_) (fun h => ?_)
    · exact jeS hk1 h (Weak.refl _)
    exact jeS hk1 h (Weak.refl _)
  refine fkS h (fun h => ?_) (fun h => ?_)
  · exact rt (E := E_Int) h rfl
  refine jnS (fun w3 => ⟨[(32, .l (.d (.bool w3)))], 52, [], [], []⟩) h (fun k3 hk3 h => ?_) (fun w3 h => ?_)
  · refine ⟨19, ?_⟩
    refine ixS (enc := (eI .i64)) h rfl (fun _ => rfl) (fun x4 h => ?_)
    refine fkS h (fun h => ?_) (fun h => ?_)
    · refine ixS (enc := (eI .i64)) h rfl (fun _ => rfl) (fun x5 h => ?_)
      refine ixS (enc := Task.enc) h rfl (fun _ => rfl) (fun x6 h => ?_)
      refine drS (by kernel_rfl) ?_
      exact jeS hk3 h (Weak.refl _)
    refine drS (by kernel_rfl) ?_
    exact jeS hk3 h (Weak.refl _)
  refine fkS h (fun h => ?_) (fun h => ?_)
  · exact rt (E := E_Int) h rfl
  exact rt (E := E_Int) h rfl

end Go.Proofs.Ytkhebjkplmidnaa
namespace Go.Proofs.Ytkhebjkplmidnaa
open Go Go.VC
noncomputable def police_Note (a0 : List Task) (a1 : List Int) (a2 : Int) (a3 : Int) : Option ((List Int) × Int) :=
  bnd (police_May a0 a1 a2 a3) fun x1 => fk (!decide (x1 = (0 : Int))) (some (a1, x1)) (ck (decide ((([] : List Int).length + a1.length) * 8 ≤ 140737488355328)) (ck (decide (0 ≤ a2) && decide (a2 < ((([] : List Int) ++ a1).length : Int))) (ox (([] : List Int) ++ a1) a2.toNat fun x2 => some ((([] : List Int) ++ a1).set a2.toNat a3, (0 : Int)))))
theorem police_Note_w (a0 : List Task) (a1 : List Int) (a2 : Int) (a3 : Int) (r : (List Int) × Int) (h : police_Note a0 a1 a2 a3 = some r) : Go.VC.Spec Try.prog 17 [.d (.sl (a0.map Task.enc)), .d (.sl (a1.map (eI .i64))), .d (.int .i64 a2), .d (.int .i64 a3)] (fun y => y = E_ListInt_Int r) := by
  refine Go.VC.Spec.of_xc (args := [.d (.sl (a0.map Task.enc)), .d (.sl (a1.map (eI .i64))), .d (.int .i64 a2), .d (.int .i64 a3)]) (fn := Try.f17) tab ⟨[(0, [0, 1, 2, 3]), (1, [1, 2, 3, 10]), (2, [1, 2, 3, 10, 18]), (3, [8, 9]), (4, [2, 3, 11]), (5, [11]), (6, [8, 9])], [], [], []⟩ 29 [.tmp 8, .tmp 9] rfl rfl rfl rfl rfl rfl ?_
  refine caS (E := E_Int) h (police_May_w a0 a1 a2 a3) rfl (fun _ => rfl) (fun x1 h => ?_)
  refine fkS h (fun h => ?_) (fun h => ?_)
  · exact rt (E := E_ListInt_Int) h rfl
  refine liS ([] : List Int) (eI .i64) rfl rfl ?_
  refine apS (enc := (eI .i64)) (l1 := ([] : List Int)) (l2 := a1) h rfl rfl (fun _ => rfl) (fun h => ?_)
  refine ioS (enc := (eI .i64)) h rfl (fun h => ?_)
  refine seS (enc := (eI .i64)) h rfl (fun x2 => a3) (fun _ => rfl) (fun x2 h => ?_)
  exact rt (E := E_ListInt_Int) h rfl

end Go.Proofs.Ytkhebjkplmidnaa
namespace Go.Proofs.Ytkhebjkplmidnaa
open Go Go.VC
noncomputable def police_Filter (a0 : List Task) (a1 : List PoliceAsk) : Option (List Bool) :=
  bnd (task_All a0) fun x1 => fk (!x1) (some []) (lp (fun nx2 (v2 : (List Int) × Int) => fk (decide (v2.2 < (a0.length : Int))) (ck (decide ((v2.1.length + ([(-1 : Int)] : List Int).length) * 8 ≤ 140737488355328)) (nx2 (v2.1 ++ ([(-1 : Int)] : List Int), (wr (v2.2 + (1 : Int)))))) (lp (fun nx3 (v3 : (List Int) × (List Bool) × Int) => fk (decide (v3.2.2 < (a1.length : Int))) (ix a1 v3.2.2 fun x4 => bnd (police_Note a0 v3.1 x4.Task x4.At) fun x5 => ck (decide ((v3.2.1.length + ([(decide (x5.2 = (0 : Int)))] : List Bool).length) * 1 ≤ 140737488355328)) (nx3 (x5.1, v3.2.1 ++ ([(decide (x5.2 = (0 : Int)))] : List Bool), (wr (v3.2.2 + (1 : Int)))))) (some v3.2.1)) FU (v2.1, [], (0 : Int)))) FU ([], (0 : Int)))
theorem police_Filter_w (a0 : List Task) (a1 : List PoliceAsk) (r : List Bool) (h : police_Filter a0 a1 = some r) : Go.VC.Spec Try.prog 21 [.d (.sl (a0.map Task.enc)), .d (.sl (a1.map PoliceAsk.enc))] (fun y => y = E_ListBool r) := by
  refine Go.VC.Spec.of_xc (args := [.d (.sl (a0.map Task.enc)), .d (.sl (a1.map PoliceAsk.enc))]) (fn := Try.f21) tab ⟨[(0, [0, 1]), (1, [0, 1, 12]), (2, [4]), (3, [0, 1, 5]), (4, [1, 5, 17, 18]), (5, [1, 5, 17, 18, 19]), (6, [1, 5, 17, 18]), (7, [1, 5, 17, 18]), (8, [1, 6]), (9, [1, 6, 7]), (10, [6, 7, 32, 33, 34]), (11, [6, 7, 32, 33, 34, 35]), (12, [6, 7, 9, 32, 33, 34]), (13, [6, 7, 32, 33, 34]), (14, [6, 7, 32, 33, 34]), (15, [4])], [], [], []⟩ 46 [.tmp 4] rfl rfl rfl rfl rfl rfl ?_
  refine caS (E := E_Bool) h (task_All_w a0) rfl (fun _ => rfl) (fun x1 h => ?_)
  refine fkS h (fun h => ?_) (fun h => ?_)
  · exact rt (E := E_ListBool) h rfl
  refine lenS a0 Task.enc rfl ?_
  refine lpS (fun v2 => ⟨[(1, .l (.d (.sl (a1.map PoliceAsk.enc)))), (5, .l (.ptr 16 0)), (17, .l (.d (.int .i64 (a0.length : Int)))), (18, .l (.d (.int .i64 v2.2)))], 46, [], [(16, [.d (.sl (a0.map Task.enc)), .own 51601])], [(51601, 3, 1, v2.1.map (eI .i64))]⟩) h (Weak.trans (Weak.nilBO _ 16 1 51601 3 1 _ rfl rfl) (Weak.refl _)) (fun _ nx2 hn2 v2 h => ?_)
  refine fkS h (fun h => ?_) (fun h => ?_)
  · refine liS ([(-1 : Int)] : List Int) (eI .i64) rfl rfl ?_
    refine apS (enc := (eI .i64)) (l1 := v2.1) (l2 := ([(-1 : Int)] : List Int)) h rfl rfl (fun _ => rfl) (fun h => ?_)
    exact leS hn2 h (Weak.trans (Weak.rekey _ 27 51601 rfl) (Weak.refl _))
  refine lenS a1 PoliceAsk.enc rfl ?_
  refine lpS (fun v3 => ⟨[(6, .l (.mfn 45 16)), (7, .l (.own 8)), (32, .l (.d (.sl (a1.map PoliceAsk.enc)))), (33, .l (.d (.int .i64 (a1.length : Int)))), (34, .l (.d (.int .i64 v3.2.2)))], 46, [], [(16, [.d (.sl (a0.map Task.enc)), .d (.sl (v3.1.map (eI .i64)))])], [(8, 4, 1, v3.2.1.map eB)]⟩) h (Weak.trans (Weak.nilO _ 7 8 4 1 rfl) (Weak.trans (Weak.ice _ 51601) (Weak.refl _))) (fun _ nx3 hn3 v3 h => ?_)
  refine fkS h (fun h => ?_) (fun h => ?_)
  · refine ixS (enc := PoliceAsk.enc) h rfl (fun _ => rfl) (fun x4 h => ?_)
    refine inS (fn := Try.f45) tab ⟨[(0, [0, 3]), (1, [0, 5, 6]), (2, [6]), (3, [4])], [(0, [51601])], [], []⟩ 29 [.tmp 4] rfl rfl rfl rfl rfl rfl ?_
    refine ⟨17, ?_⟩
    refine dcS (E := E_ListInt_Int) h (police_Note_w a0 v3.1 x4.Task x4.At) rfl (fun x5 h => ?_)
    refine drS (by kernel_rfl) ?_
    refine liS ([(decide (x5.2 = (0 : Int)))] : List Bool) eB rfl rfl ?_
    refine apS (enc := eB) (l1 := v3.2.1) (l2 := ([(decide (x5.2 = (0 : Int)))] : List Bool)) h rfl rfl (fun _ => rfl) (fun h => ?_)
    exact leS hn3 h (Weak.refl _)
  exact rt (E := E_ListBool) h rfl

end Go.Proofs.Ytkhebjkplmidnaa
namespace Go.Proofs.Ytkhebjkplmidnaa
open Go Go.VC
noncomputable def law16_knows  : Option Bool :=
  bnd (police_Filter ([⟨(1 : Int), (5 : Int), (5 : Int), []⟩] : List Task) ([⟨(0 : Int), (0 : Int)⟩, ⟨(0 : Int), (4 : Int)⟩, ⟨(0 : Int), (5 : Int)⟩, ⟨(0 : Int), (9 : Int)⟩, ⟨(0 : Int), (11 : Int)⟩] : List PoliceAsk)) fun x1 => bnd (police_Note ([⟨(1 : Int), (5 : Int), (5 : Int), []⟩] : List Task) ([(-1 : Int)] : List Int) (0 : Int) (7 : Int)) fun x2 => fk (decide ((x1.length : Int) = (5 : Int))) (ix x1 (0 : Int) fun x3 => fk x3 (ix x1 (1 : Int) fun x4 => fk (!x4) (ix x1 (2 : Int) fun x5 => fk x5 (ix x1 (3 : Int) fun x6 => fk (!x6) (ix x1 (4 : Int) fun x7 => fk x7 (fk (decide ((x2.1.length : Int) = (1 : Int))) (ix x2.1 (0 : Int) fun x8 => fk (decide (x8 = (7 : Int))) (fk (decide (x2.2 = (0 : Int))) (bnd (police_May ([⟨(1 : Int), (5 : Int), (5 : Int), []⟩] : List Task) x2.1 (0 : Int) (11 : Int)) fun x9 => fk (decide (x9 = (6 : Int))) (bnd (police_May ([⟨(1 : Int), (5 : Int), (5 : Int), []⟩] : List Task) x2.1 (0 : Int) (12 : Int)) fun x10 => fk (decide (x10 = (0 : Int))) (bnd (police_Right ([⟨(1 : Int), (5 : Int), (5 : Int), []⟩] : List Task) x2.1) fun x11 => some x11) (some false)) (some false)) (some false)) (some false)) (some false)) (some false)) (some false)) (some false)) (some false)) (some false)) (some false)
theorem law16_knows_w  (r : Bool) (h : law16_knows = some r) : Go.VC.Spec Try.prog 15 [] (fun y => y = E_Bool r) := by
  refine Go.VC.Spec.of_xc (args := []) (fn := Try.f15) tab ⟨[(0, []), (1, [1]), (2, [1, 2]), (3, [1, 2, 3, 4]), (4, [0])], [], [], []⟩ 83 [.tmp 0] rfl rfl rfl rfl rfl rfl ?_
  refine liS ([⟨(1 : Int), (5 : Int), (5 : Int), []⟩] : List Task) Task.enc rfl rfl ?_
  refine liS ([⟨(0 : Int), (0 : Int)⟩, ⟨(0 : Int), (4 : Int)⟩, ⟨(0 : Int), (5 : Int)⟩, ⟨(0 : Int), (9 : Int)⟩, ⟨(0 : Int), (11 : Int)⟩] : List PoliceAsk) PoliceAsk.enc rfl rfl ?_
  refine iceS 2 ?_
  refine iceS 14 ?_
  refine ccS (E := E_ListBool) h (police_Filter_w ([⟨(1 : Int), (5 : Int), (5 : Int), []⟩] : List Task) ([⟨(0 : Int), (0 : Int)⟩, ⟨(0 : Int), (4 : Int)⟩, ⟨(0 : Int), (5 : Int)⟩, ⟨(0 : Int), (9 : Int)⟩, ⟨(0 : Int), (11 : Int)⟩] : List PoliceAsk)) rfl rfl (fun x1 h => ?_)
  refine liS ([(-1 : Int)] : List Int) (eI .i64) rfl rfl ?_
  refine iceS 18 ?_
  refine ccS (E := E_ListInt_Int) h (police_Note_w ([⟨(1 : Int), (5 : Int), (5 : Int), []⟩] : List Task) ([(-1 : Int)] : List Int) (0 : Int) (7 : Int)) rfl rfl (fun x2 h => ?_)
  refine lenS x1 eB rfl ?_
  refine fkS h (fun h => ?_) (fun h => ?_)
  · refine ixS (enc := eB) h rfl (fun _ => rfl) (fun x3 h => ?_)
    refine fkS h (fun h => ?_) (fun h => ?_)
    · refine ixS (enc := eB) h rfl (fun _ => rfl) (fun x4 h => ?_)
      refine fkS h (fun h => ?_) (fun h => ?_)
      · refine ixS (enc := eB) h rfl (fun _ => rfl) (fun x5 h => ?_)
        refine fkS h (fun h => ?_) (fun h => ?_)
        · refine ixS (enc := eB) h rfl (fun _ => rfl) (fun x6 h => ?_)
          refine fkS h (fun h => ?_) (fun h => ?_)
          · refine ixS (enc := eB) h rfl (fun _ => rfl) (fun x7 h => ?_)
            refine fkS h (fun h => ?_) (fun h => ?_)
            · refine lenS x2.1 (eI .i64) rfl ?_
              refine fkS h (fun h => ?_) (fun h => ?_)
              · refine ixS (enc := (eI .i64)) h rfl (fun _ => rfl) (fun x8 h => ?_)
                refine fkS h (fun h => ?_) (fun h => ?_)
                · refine fkS h (fun h => ?_) (fun h => ?_)
                  · refine caS (E := E_Int) h (police_May_w ([⟨(1 : Int), (5 : Int), (5 : Int), []⟩] : List Task) x2.1 (0 : Int) (11 : Int)) rfl (fun _ => rfl) (fun x9 h => ?_)
                    refine fkS h (fun h => ?_) (fun h => ?_)
                    · refine caS (E := E_Int) h (police_May_w ([⟨(1 : Int), (5 : Int), (5 : Int), []⟩] : List Task) x2.1 (0 : Int) (12 : Int)) rfl (fun _ => rfl) (fun x10 h => ?_)
                      refine fkS h (fun h => ?_) (fun h => ?_)
                      · refine caS (E := E_Bool) h (police_Right_w ([⟨(1 : Int), (5 : Int), (5 : Int), []⟩] : List Task) x2.1) rfl (fun _ => rfl) (fun x11 h => ?_)
                        exact rt (E := E_Bool) h rfl
                      exact rt (E := E_Bool) h rfl
                    exact rt (E := E_Bool) h rfl
                  exact rt (E := E_Bool) h rfl
                exact rt (E := E_Bool) h rfl
              exact rt (E := E_Bool) h rfl
            exact rt (E := E_Bool) h rfl
          exact rt (E := E_Bool) h rfl
        exact rt (E := E_Bool) h rfl
      exact rt (E := E_Bool) h rfl
    exact rt (E := E_Bool) h rfl
  exact rt (E := E_Bool) h rfl

end Go.Proofs.Ytkhebjkplmidnaa
namespace Go.Proofs.Ytkhebjkplmidnaa
open Go Go.VC
noncomputable def ref05_Right (a0 : Task) : Option Bool :=
  jn (fun (w1 : Bool) => fk w1 (some false) (lp (fun nx2 (v2 : Int) => fk (decide (v2 < (a0.Secs.length : Int))) (ix a0.Secs v2 fun x3 => jn (fun (w4 : Bool) => fk w4 (some false) (lp (fun nx5 (v5 : Int) => fk (decide (v5 < v2)) (ix a0.Secs v5 fun x6 => jn (fun (w7 : Bool) => fk w7 (some false) (lp (fun nx8 (v8 : Int × Int × Int) => fk (decide (v8.2.2 < (wr (x3.At + x3.Len)))) (jn (fun (w9 : Int × Int) => nx8 (w9.1, w9.2, (wr (v8.2.2 + (1 : Int))))) (fun k9 => fk (decide (v8.2.2 < (wr (x6.At + x6.Len)))) (k9 ((wr (v8.1 + (1 : Int))), v8.2.1)) (k9 (v8.1, (wr (v8.2.1 + (1 : Int))))))) (jn (fun (w10 : Bool) => fk w10 (some false) (nx5 (wr (v5 + (1 : Int))))) (fun k10 => fk (decide (v8.1 > (0 : Int))) (fk (decide (v8.2.1 > (0 : Int))) (k10 true) (k10 (decide (x6.Res = x3.Res)))) (k10 false)))) FU ((0 : Int), (0 : Int), x3.At))) (fun k7 => fk (decide (x3.At < x6.At)) (k7 true) (fk (decide (x3.At = x6.At)) (k7 (decide (x3.Len > x6.Len))) (k7 false)))) (nx2 (wr (v2 + (1 : Int))))) FU (0 : Int))) (fun k4 => fk (decide (x3.Res < (0 : Int))) (k4 true) (fk (decide (x3.Res > (3 : Int))) (k4 true) (fk (decide (x3.At < (0 : Int))) (k4 true) (fk (decide (x3.Len < (1 : Int))) (k4 true) (fk (decide (x3.At > a0.C)) (k4 true) (fk (decide (x3.Len > a0.C)) (k4 true) (k4 (decide ((wr (x3.At + x3.Len)) > a0.C)))))))))) (some true)) FU (0 : Int))) (fun k1 => fk (decide (a0.C < (1 : Int))) (k1 true) (fk (decide (a0.D < a0.C)) (k1 true) (fk (decide (a0.T < a0.D)) (k1 true) (fk (decide (a0.T > (200 : Int))) (k1 true) (k1 (decide ((a0.Secs.length : Int) > (4 : Int))))))))
theorem ref05_Right_w (a0 : Task) (r : Bool) (h : ref05_Right a0 = some r) : Go.VC.Spec Try.prog 46 [.agg (Task.enc a0)] (fun y => y = E_Bool r) := by
  refine Go.VC.Spec.of_xc (args := [.agg (Task.enc a0)]) (fn := Try.f46) tab ⟨[(0, [1]), (1, [1, 37]), (2, [2]), (3, [1, 3]), (4, [1, 3, 42]), (5, [1, 3]), (6, [1, 3, 4]), (7, [1, 3, 4, 91]), (8, [2]), (9, [1, 3, 4, 5]), (10, [1, 3, 4, 5, 94]), (11, [1, 3, 4, 5]), (12, [1, 3, 4, 5, 6]), (13, [1, 3, 4, 5, 6, 120]), (14, [2]), (15, [1, 3, 4, 5, 6, 7, 8]), (16, [1, 3, 4, 5, 6, 7, 8, 9]), (17, [1, 3, 4, 5, 6, 7, 8, 9, 129]), (18, [1, 3, 4, 5, 6, 7, 8, 9]), (19, [1, 3, 4, 5, 6, 7, 8, 9, 138]), (20, [1, 3, 4, 5, 6, 7, 8, 9]), (21, [1, 3, 4, 5, 6, 7, 8, 9]), (22, [1, 3, 4, 5, 155]), (23, [2]), (24, [2])], [], [100037, 100091, 100120, 18, 100155], []⟩ 156 [.tmp 2] rfl rfl rfl rfl rfl rfl ?_
  refine jnS (fun w1 => ⟨[(1, .l (.ptr 2 0)), (37, .l (.d (.bool w1)))], 156, [], [(2, [.d (.int .i64 a0.C), .d (.int .i64 a0.D), .d (.int .i64 a0.T), .d (.sl (a0.Secs.map Sec.enc))])], []⟩) h (fun k1 hk1 h => ?_) (fun w1 h => ?_)
  · refine fkS h (fun h => ?_) (fun h => ?_)
    · exact jeS hk1 h (Weak.refl _)
    refine fkS h (fun h => ?_) (fun h => ?_)
    · exact jeS hk1 h (Weak.refl _)
    refine fkS h (fun h => ?_) (fun h => ?_)
    · exact jeS hk1 h (Weak.refl _)
    refine fkS h (fun h => ?_) (fun h => ?_)
    · exact jeS hk1 h (Weak.refl _)
    refine lenS a0.Secs Sec.enc rfl ?_
    exact jeS hk1 h (Weak.refl _)
  refine fkS h (fun h => ?_) (fun h => ?_)
  · exact rt (E := E_Bool) h rfl
  refine lpS (fun v2 => ⟨[(1, .l (.ptr 2 0)), (3, .l (.d (.int .i64 v2)))], 156, [], [(2, [.d (.int .i64 a0.C), .d (.int .i64 a0.D), .d (.int .i64 a0.T), .d (.sl (a0.Secs.map Sec.enc))])], []⟩) h (Weak.refl _) (fun _ nx2 hn2 v2 h => ?_)
  refine lenS a0.Secs Sec.enc rfl ?_
  refine fkS h (fun h => ?_) (fun h => ?_)
  · refine ixS (enc := Sec.enc) h rfl (fun _ => rfl) (fun x3 h => ?_)
    refine jnS (fun w4 => ⟨[(1, .l (.ptr 2 0)), (3, .l (.d (.int .i64 v2))), (4, .l (.ptr 5 0)), (91, .l (.d (.bool w4)))], 156, [], [(2, [.d (.int .i64 a0.C), .d (.int .i64 a0.D), .d (.int .i64 a0.T), .d (.sl (a0.Secs.map Sec.enc))]), (5, [.d (.int .i64 x3.Res), .d (.int .i64 x3.At), .d (.int .i64 x3.Len)])], []⟩) h (fun k4 hk4 h => ?_) (fun w4 h => ?_)
    · refine fkS h (fun h => ?_) (fun h => ?_)
      · exact jeS hk4 h (Weak.refl _)
      refine fkS h (fun h => ?_) (fun h => ?_)
      · exact jeS hk4 h (Weak.refl _)
      refine fkS h (fun h => ?_) (fun h => ?_)
      · exact jeS hk4 h (Weak.refl _)
      refine fkS h (fun h => ?_) (fun h => ?_)
      · exact jeS hk4 h (Weak.refl _)
      refine fkS h (fun h => ?_) (fun h => ?_)
      · exact jeS hk4 h (Weak.refl _)
      refine fkS h (fun h => ?_) (fun h => ?_)
      · exact jeS hk4 h (Weak.refl _)
      exact jeS hk4 h (Weak.refl _)
    refine fkS h (fun h => ?_) (fun h => ?_)
    · exact rt (E := E_Bool) h rfl
    refine lpS (fun v5 => ⟨[(1, .l (.ptr 2 0)), (3, .l (.d (.int .i64 v2))), (4, .l (.ptr 5 0)), (5, .l (.d (.int .i64 v5)))], 156, [], [(2, [.d (.int .i64 a0.C), .d (.int .i64 a0.D), .d (.int .i64 a0.T), .d (.sl (a0.Secs.map Sec.enc))]), (5, [.d (.int .i64 x3.Res), .d (.int .i64 x3.At), .d (.int .i64 x3.Len)])], []⟩) h (Weak.refl _) (fun _ nx5 hn5 v5 h => ?_)
    refine fkS h (fun h => ?_) (fun h => ?_)
    · refine ixS (enc := Sec.enc) h rfl (fun _ => rfl) (fun x6 h => ?_)
      refine jnS (fun w7 => ⟨[(1, .l (.ptr 2 0)), (3, .l (.d (.int .i64 v2))), (4, .l (.ptr 5 0)), (5, .l (.d (.int .i64 v5))), (6, .l (.ptr 7 0)), (120, .l (.d (.bool w7)))], 156, [], [(2, [.d (.int .i64 a0.C), .d (.int .i64 a0.D), .d (.int .i64 a0.T), .d (.sl (a0.Secs.map Sec.enc))]), (5, [.d (.int .i64 x3.Res), .d (.int .i64 x3.At), .d (.int .i64 x3.Len)]), (7, [.d (.int .i64 x6.Res), .d (.int .i64 x6.At), .d (.int .i64 x6.Len)])], []⟩) h (fun k7 hk7 h => ?_) (fun w7 h => ?_)
      · refine fkS h (fun h => ?_) (fun h => ?_)
        · exact jeS hk7 h (Weak.refl _)
        refine fkS h (fun h => ?_) (fun h => ?_)
        · exact jeS hk7 h (Weak.refl _)
        exact jeS hk7 h (Weak.refl _)
      refine fkS h (fun h => ?_) (fun h => ?_)
      · exact rt (E := E_Bool) h rfl
      refine lpS (fun v8 => ⟨[(1, .l (.ptr 2 0)), (3, .l (.d (.int .i64 v2))), (4, .l (.ptr 5 0)), (5, .l (.d (.int .i64 v5))), (6, .l (.ptr 7 0)), (7, .l (.d (.int .i64 v8.1))), (8, .l (.d (.int .i64 v8.2.1))), (9, .l (.d (.int .i64 v8.2.2)))], 156, [], [(2, [.d (.int .i64 a0.C), .d (.int .i64 a0.D), .d (.int .i64 a0.T), .d (.sl (a0.Secs.map Sec.enc))]), (5, [.d (.int .i64 x3.Res), .d (.int .i64 x3.At), .d (.int .i64 x3.Len)]), (7, [.d (.int .i64 x6.Res), .d (.int .i64 x6.At), .d (.int .i64 x6.Len)])], []⟩) h (Weak.refl _) (fun _ nx8 hn8 v8 h => ?_)
      refine fkS h (fun h => ?_) (fun h => ?_)
      · refine jnS (fun w9 => ⟨[(1, .l (.ptr 2 0)), (3, .l (.d (.int .i64 v2))), (4, .l (.ptr 5 0)), (5, .l (.d (.int .i64 v5))), (6, .l (.ptr 7 0)), (7, .l (.d (.int .i64 w9.1))), (8, .l (.d (.int .i64 w9.2))), (9, .l (.d (.int .i64 v8.2.2)))], 156, [], [(2, [.d (.int .i64 a0.C), .d (.int .i64 a0.D), .d (.int .i64 a0.T), .d (.sl (a0.Secs.map Sec.enc))]), (5, [.d (.int .i64 x3.Res), .d (.int .i64 x3.At), .d (.int .i64 x3.Len)]), (7, [.d (.int .i64 x6.Res), .d (.int .i64 x6.At), .d (.int .i64 x6.Len)])], []⟩) h (fun k9 hk9 h => ?_) (fun w9 h => ?_)
        · refine fkS h (fun h => ?_) (fun h => ?_)
          · exact jeS hk9 h (Weak.refl _)
          exact jeS hk9 h (Weak.refl _)
        exact leS hn8 h (Weak.refl _)
      refine jnS (fun w10 => ⟨[(1, .l (.ptr 2 0)), (3, .l (.d (.int .i64 v2))), (4, .l (.ptr 5 0)), (5, .l (.d (.int .i64 v5))), (155, .l (.d (.bool w10)))], 156, [], [(2, [.d (.int .i64 a0.C), .d (.int .i64 a0.D), .d (.int .i64 a0.T), .d (.sl (a0.Secs.map Sec.enc))]), (5, [.d (.int .i64 x3.Res), .d (.int .i64 x3.At), .d (.int .i64 x3.Len)])], []⟩) h (fun k10 hk10 h => ?_) (fun w10 h => ?_)
      · refine fkS h (fun h => ?_) (fun h => ?_)
        · refine fkS h (fun h => ?_) (fun h => ?_)
          · exact jeS hk10 h (Weak.refl _)
          exact jeS hk10 h (Weak.refl _)
        exact jeS hk10 h (Weak.refl _)
      refine fkS h (fun h => ?_) (fun h => ?_)
      · exact rt (E := E_Bool) h rfl
      exact leS hn5 h (Weak.refl _)
    exact leS hn2 h (Weak.refl _)
  exact rt (E := E_Bool) h rfl

end Go.Proofs.Ytkhebjkplmidnaa
namespace Go.Proofs.Ytkhebjkplmidnaa
open Go Go.VC
noncomputable def ref05_All (a0 : List Task) : Option Bool :=
  lp (fun nx1 (v1 : Int × Int) => fk (decide (v1.2 < (a0.length : Int))) (jn (fun (w2 : Int) => nx1 (w2, (wr (v1.2 + (1 : Int))))) (fun k2 => ix a0 v1.2 fun x3 => bnd (ref05_Right x3) fun x4 => fk x4 (k2 (wr (v1.1 + (1 : Int)))) (k2 v1.1))) (fk (decide (v1.1 = (a0.length : Int))) (some (decide (v1.1 ≤ (8 : Int)))) (some false))) FU ((0 : Int), (0 : Int))
theorem ref05_All_w (a0 : List Task) (r : Bool) (h : ref05_All a0 = some r) : Go.VC.Spec Try.prog 22 [.d (.sl (a0.map Task.enc))] (fun y => y = E_Bool r) := by
  refine Go.VC.Spec.of_xc (args := [.d (.sl (a0.map Task.enc))]) (fn := Try.f22) tab ⟨[(0, [0]), (1, [0, 3]), (2, [0, 3, 4]), (3, [0, 3, 4, 8]), (4, [0, 3, 4]), (5, [0, 3, 4, 15]), (6, [0, 3, 4]), (7, [2])], [], [4], []⟩ 26 [.tmp 2] rfl rfl rfl rfl rfl rfl ?_
  refine lpS (fun v1 => ⟨[(0, .l (.d (.sl (a0.map Task.enc)))), (3, .l (.d (.int .i64 v1.1))), (4, .l (.d (.int .i64 v1.2)))], 26, [], [], []⟩) h (Weak.refl _) (fun _ nx1 hn1 v1 h => ?_)
  refine lenS a0 Task.enc rfl ?_
  refine fkS h (fun h => ?_) (fun h => ?_)
  · refine jnS (fun w2 => ⟨[(0, .l (.d (.sl (a0.map Task.enc)))), (3, .l (.d (.int .i64 w2))), (4, .l (.d (.int .i64 v1.2)))], 26, [], [], []⟩) h (fun k2 hk2 h => ?_) (fun w2 h => ?_)
    · refine ixS (enc := Task.enc) h rfl (fun _ => rfl) (fun x3 h => ?_)
      refine caS (E := E_Bool) h (ref05_Right_w x3) rfl (fun _ => rfl) (fun x4 h => ?_)
      refine fkS h (fun h => ?_) (fun h => ?_)
      · exact jeS hk2 h (Weak.refl _)
      exact jeS hk2 h (Weak.trans (Weak.keepS _ [0, 3, 4]) (Weak.refl _))
    exact leS hn1 h (Weak.refl _)
  refine lenS a0 Task.enc rfl ?_
  refine fkS h (fun h => ?_) (fun h => ?_)
  · exact rt (E := E_Bool) h rfl
  exact rt (E := E_Bool) h rfl

end Go.Proofs.Ytkhebjkplmidnaa
namespace Go.Proofs.Ytkhebjkplmidnaa
open Go Go.VC
noncomputable def law16_PoliceLater (a0 : List Task) (a1 : List Int) (a2 : Int) (a3 : Int) (a4 : Int) : Option Bool :=
  jn (fun (w1 : Bool) => fk w1 (bnd law16_knows fun x3 => some x3) (jn (fun (w4 : Bool) => fk w4 (some false) (jn (fun (w7 : Bool) => fk w7 (bnd (police_May a0 a1 a2 a3) fun x9 => fk (decide (x9 = (1 : Int))) (bnd law16_knows fun x10 => some x10) (some false)) (lp (fun nx11 (v11 : (List Int) × Int) => fk (decide (v11.2 < (a0.length : Int))) (ck (decide ((v11.1.length + ([(-1 : Int)] : List Int).length) * 8 ≤ 140737488355328)) (nx11 (v11.1 ++ ([(-1 : Int)] : List Int), (wr (v11.2 + (1 : Int)))))) (bnd (police_May a0 v11.1 a2 a3) fun x12 => fk (decide (x12 = (0 : Int))) (bnd law16_knows fun x13 => some x13) (some false))) FU ([], (0 : Int)))) (fun k7 => bnd (ref05_All a0) fun x8 => fk (!x8) (k7 true) (fk (decide (a2 < (0 : Int))) (k7 true) (k7 (decide (a2 ≥ (a0.length : Int)))))))) (fun k4 => bnd (police_May a0 a1 a2 a3) fun x5 => fk (decide (x5 = (0 : Int))) (bnd (police_May a0 a1 a2 (wr (a3 + (IntKind.i64.wrap a4)))) fun x6 => k4 (!decide (x6 = (0 : Int)))) (k4 false)))) (fun k1 => bnd (law05_Great a0) fun x2 => fk x2 (k1 true) (fk (decide ((a1.length : Int) > (50 : Int))) (k1 true) (fk (decide (a3 > (4611686018427386903 : Int))) (k1 true) (k1 (decide (a3 < (0 : Int)))))))
theorem law16_PoliceLater_w (a0 : List Task) (a1 : List Int) (a2 : Int) (a3 : Int) (a4 : Int) (r : Bool) (h : law16_PoliceLater a0 a1 a2 a3 a4 = some r) : Go.VC.Spec Try.prog 5 [.d (.sl (a0.map Task.enc)), .d (.sl (a1.map (eI .i64))), .d (.int .i64 a2), .d (.int .i64 a3), .d (.int .u8 a4)] (fun y => y = E_Bool r) := by
  refine Go.VC.Spec.of_xc (args := [.d (.sl (a0.map Task.enc)), .d (.sl (a1.map (eI .i64))), .d (.int .i64 a2), .d (.int .i64 a3), .d (.int .u8 a4)]) (fn := Try.f5) tab ⟨[(0, [0, 1, 2, 3, 4]), (1, [0, 1, 2, 3, 4, 27]), (2, [10]), (3, [0, 1, 2, 3, 45]), (4, [10]), (5, [0, 1, 2, 3, 58]), (6, [10]), (7, [0, 2, 3, 11]), (8, [0, 2, 3, 11, 12]), (9, [0, 2, 3, 11, 12, 71]), (10, [0, 2, 3, 11, 12]), (11, [0, 2, 3, 11, 12]), (12, [10])], [], [100027, 100045, 100058], []⟩ 86 [.tmp 10] rfl rfl rfl rfl rfl rfl ?_
  refine jnS (fun w1 => ⟨[(0, .l (.d (.sl (a0.map Task.enc)))), (1, .l (.d (.sl (a1.map (eI .i64))))), (2, .l (.d (.int .i64 a2))), (3, .l (.d (.int .i64 a3))), (4, .l (.d (.int .u8 a4))), (27, .l (.d (.bool w1)))], 86, [], [], []⟩) h (fun k1 hk1 h => ?_) (fun w1 h => ?_)
  · refine caS (E := E_Bool) h (law05_Great_w a0) rfl (fun _ => rfl) (fun x2 h => ?_)
    refine fkS h (fun h => ?_) (fun h => ?_)
    · exact jeS hk1 h (Weak.refl _)
    refine lenS a1 (eI .i64) rfl ?_
    refine fkS h (fun h => ?_) (fun h => ?_)
    · exact jeS hk1 h (Weak.refl _)
    refine fkS h (fun h => ?_) (fun h => ?_)
    · exact jeS hk1 h (Weak.refl _)
    exact jeS hk1 h (Weak.refl _)
  refine fkS h (fun h => ?_) (fun h => ?_)
  · refine caS (E := E_Bool) h law16_knows_w rfl (fun _ => rfl) (fun x3 h => ?_)
    exact rt (E := E_Bool) h rfl
  refine jnS (fun w4 => ⟨[(0, .l (.d (.sl (a0.map Task.enc)))), (1, .l (.d (.sl (a1.map (eI .i64))))), (2, .l (.d (.int .i64 a2))), (3, .l (.d (.int .i64 a3))), (45, .l (.d (.bool w4)))], 86, [], [], []⟩) h (fun k4 hk4 h => ?_) (fun w4 h => ?_)
  · refine caS (E := E_Int) h (police_May_w a0 a1 a2 a3) rfl (fun _ => rfl) (fun x5 h => ?_)
    refine fkS h (fun h => ?_) (fun h => ?_)
    · refine caS (E := E_Int) h (police_May_w a0 a1 a2 (wr (a3 + (IntKind.i64.wrap a4)))) rfl (fun _ => rfl) (fun x6 h => ?_)
      exact jeS hk4 h (Weak.refl _)
    exact jeS hk4 h (Weak.refl _)
  refine fkS h (fun h => ?_) (fun h => ?_)
  · exact rt (E := E_Bool) h rfl
  refine jnS (fun w7 => ⟨[(0, .l (.d (.sl (a0.map Task.enc)))), (1, .l (.d (.sl (a1.map (eI .i64))))), (2, .l (.d (.int .i64 a2))), (3, .l (.d (.int .i64 a3))), (58, .l (.d (.bool w7)))], 86, [], [], []⟩) h (fun k7 hk7 h => ?_) (fun w7 h => ?_)
  · refine caS (E := E_Bool) h (ref05_All_w a0) rfl (fun _ => rfl) (fun x8 h => ?_)
    refine fkS h (fun h => ?_) (fun h => ?_)
    · exact jeS hk7 h (Weak.refl _)
    refine fkS h (fun h => ?_) (fun h => ?_)
    · exact jeS hk7 h (Weak.refl _)
    refine lenS a0 Task.enc rfl ?_
    exact jeS hk7 h (Weak.refl _)
  refine fkS h (fun h => ?_) (fun h => ?_)
  · refine caS (E := E_Int) h (police_May_w a0 a1 a2 a3) rfl (fun _ => rfl) (fun x9 h => ?_)
    refine fkS h (fun h => ?_) (fun h => ?_)
    · refine caS (E := E_Bool) h law16_knows_w rfl (fun _ => rfl) (fun x10 h => ?_)
      exact rt (E := E_Bool) h rfl
    exact rt (E := E_Bool) h rfl
  refine lpS (fun v11 => ⟨[(0, .l (.d (.sl (a0.map Task.enc)))), (2, .l (.d (.int .i64 a2))), (3, .l (.d (.int .i64 a3))), (11, .l (.own 12)), (12, .l (.d (.int .i64 v11.2)))], 86, [], [], [(12, 3, 1, v11.1.map (eI .i64))]⟩) h (Weak.trans (Weak.nilO _ 11 12 3 1 rfl) (Weak.refl _)) (fun _ nx11 hn11 v11 h => ?_)
  refine lenS a0 Task.enc rfl ?_
  refine fkS h (fun h => ?_) (fun h => ?_)
  · refine liS ([(-1 : Int)] : List Int) (eI .i64) rfl rfl ?_
    refine apS (enc := (eI .i64)) (l1 := v11.1) (l2 := ([(-1 : Int)] : List Int)) h rfl rfl (fun _ => rfl) (fun h => ?_)
    exact leS hn11 h (Weak.refl _)
  refine caS (E := E_Int) h (police_May_w a0 v11.1 a2 a3) rfl (fun _ => rfl) (fun x12 h => ?_)
  refine fkS h (fun h => ?_) (fun h => ?_)
  · refine caS (E := E_Bool) h law16_knows_w rfl (fun _ => rfl) (fun x13 h => ?_)
    exact rt (E := E_Bool) h rfl
  exact rt (E := E_Bool) h rfl

end Go.Proofs.Ytkhebjkplmidnaa
namespace Go.Proofs.Ytkhebjkplmidnaa
open Go Go.VC
theorem andT {α : Type} {p : α → Prop} (h : ∃ x, p x) : ∃ x, p x ∧ True := h.imp fun _ h => ⟨h, trivial⟩
def wfI (k : IntKind) (n : Int) : Prop := (Lit.int k n).wf = true
abbrev tyT := T
def Sec.wf (x : Sec) : Prop := wfI .i64 x.Res ∧ wfI .i64 x.At ∧ wfI .i64 x.Len
theorem Sec.of {n : Nat} {ds : List Go.VC.D} (h : ShD tyT n 73 ds) : ∃ x : Sec, ds = x.enc ∧ x.wf := by
  obtain ⟨m, q0⟩ := h.st T73
  clear h
  obtain ⟨d0, r0, e0, h0, q1⟩ := q0.c
  obtain ⟨y0, z0, w0⟩ := (h0.i T3)
  obtain ⟨d1, r1, e1, h1, q2⟩ := q1.c
  obtain ⟨y1, z1, w1⟩ := (h1.i T3)
  obtain ⟨d2, r2, e2, h2, q3⟩ := q2.c
  obtain ⟨y2, z2, w2⟩ := (h2.i T3)
  subst e0 z0 e1 z1 e2 z2
  cases q3
  exact ⟨⟨y0, y1, y2⟩, rfl, w0, w1, w2⟩
def Task.wf (x : Task) : Prop := wfI .i64 x.C ∧ wfI .i64 x.D ∧ wfI .i64 x.T ∧ (x.Secs.length * 24 ≤ BB ∧ ∀ y1 ∈ x.Secs, Sec.wf y1)
theorem Task.of {n : Nat} {ds : List Go.VC.D} (h : ShD tyT n 65 ds) : ∃ x : Task, ds = x.enc ∧ x.wf := by
  obtain ⟨m, q0⟩ := h.st T65
  clear h
  obtain ⟨d0, r0, e0, h0, q1⟩ := q0.c
  obtain ⟨y0, z0, w0⟩ := (h0.i T3)
  obtain ⟨d1, r1, e1, h1, q2⟩ := q1.c
  obtain ⟨y1, z1, w1⟩ := (h1.i T3)
  obtain ⟨d2, r2, e2, h2, q3⟩ := q2.c
  obtain ⟨y2, z2, w2⟩ := (h2.i T3)
  obtain ⟨d3, r3, e3, h3, q4⟩ := q3.c
  obtain ⟨y3, z3, w3⟩ := (h3.l (f := Sec.enc) (W := (fun x => Sec.wf x)) T63 T73 (fun _ _ h => (Sec.of h)))
  subst e0 z0 e1 z1 e2 z2 e3 z3
  cases q4
  exact ⟨⟨y0, y1, y2, y3⟩, rfl, w0, w1, w2, w3⟩
def PoliceAsk.wf (x : PoliceAsk) : Prop := wfI .i64 x.Task ∧ wfI .i64 x.At
theorem PoliceAsk.of {n : Nat} {ds : List Go.VC.D} (h : ShD tyT n 43 ds) : ∃ x : PoliceAsk, ds = x.enc ∧ x.wf := by
  obtain ⟨m, q0⟩ := h.st T43
  clear h
  obtain ⟨d0, r0, e0, h0, q1⟩ := q0.c
  obtain ⟨y0, z0, w0⟩ := (h0.i T3)
  obtain ⟨d1, r1, e1, h1, q2⟩ := q1.c
  obtain ⟨y1, z1, w1⟩ := (h1.i T3)
  subst e0 z0 e1 z1
  cases q2
  exact ⟨⟨y0, y1⟩, rfl, w0, w1⟩
def Job.wf (x : Job) : Prop := wfI .i64 x.Task ∧ wfI .i64 x.At ∧ wfI .i64 x.Due ∧ wfI .i64 x.Want ∧ wfI .i64 x.Had ∧ True
theorem Job.of {n : Nat} {ds : List Go.VC.D} (h : ShD tyT n 50 ds) : ∃ x : Job, ds = x.enc ∧ x.wf := by
  obtain ⟨m, q0⟩ := h.st T50
  clear h
  obtain ⟨d0, r0, e0, h0, q1⟩ := q0.c
  obtain ⟨y0, z0, w0⟩ := (h0.i T3)
  obtain ⟨d1, r1, e1, h1, q2⟩ := q1.c
  obtain ⟨y1, z1, w1⟩ := (h1.i T3)
  obtain ⟨d2, r2, e2, h2, q3⟩ := q2.c
  obtain ⟨y2, z2, w2⟩ := (h2.i T3)
  obtain ⟨d3, r3, e3, h3, q4⟩ := q3.c
  obtain ⟨y3, z3, w3⟩ := (h3.i T3)
  obtain ⟨d4, r4, e4, h4, q5⟩ := q4.c
  obtain ⟨y4, z4, w4⟩ := (h4.i T3)
  obtain ⟨d5, r5, e5, h5, q6⟩ := q5.c
  obtain ⟨y5, z5, w5⟩ := (andT (h5.b T4))
  subst e0 z0 e1 z1 e2 z2 e3 z3 e4 z4 e5 z5
  cases q6
  exact ⟨⟨y0, y1, y2, y3, y4, y5⟩, rfl, w0, w1, w2, w3, w4, w5⟩
def Law15Come.wf (x : Law15Come) : Prop := True ∧ wfI .i64 x.Task ∧ wfI .i64 x.Want
theorem Law15Come.of {n : Nat} {ds : List Go.VC.D} (h : ShD tyT n 82 ds) : ∃ x : Law15Come, ds = x.enc ∧ x.wf := by
  obtain ⟨m, q0⟩ := h.st T82
  clear h
  obtain ⟨d0, r0, e0, h0, q1⟩ := q0.c
  obtain ⟨y0, z0, w0⟩ := (andT (h0.b T4))
  obtain ⟨d1, r1, e1, h1, q2⟩ := q1.c
  obtain ⟨y1, z1, w1⟩ := (h1.i T3)
  obtain ⟨d2, r2, e2, h2, q3⟩ := q2.c
  obtain ⟨y2, z2, w2⟩ := (h2.i T3)
  subst e0 z0 e1 z1 e2 z2
  cases q3
  exact ⟨⟨y0, y1, y2⟩, rfl, w0, w1, w2⟩
end Go.Proofs.Ytkhebjkplmidnaa
namespace Go.Proofs.Ytkhebjkplmidnaa
open Go Go.VC
def PurePoliceLater : Prop := ∀ (a0 : List Task) (a1 : List Int) (a2 : Int) (a3 : Int) (a4 : Int), (a0.length * 48 ≤ BB ∧ ∀ y1 ∈ a0, Task.wf y1) → (a1.length * 8 ≤ BB ∧ ∀ y1 ∈ a1, wfI .i64 y1) → wfI .i64 a2 → wfI .i64 a3 → wfI .u8 a4 → law16_PoliceLater a0 a1 a2 a3 a4 = some true
end Go.Proofs.Ytkhebjkplmidnaa
namespace Go.VC
/-! Loops that answer something of which more is known. -/
section
variable {α β σ R : Type}
theorem lp_ex {body : (σ → Option R) → σ → Option R} (m : σ → Nat) (I : σ → Prop) (P : R → Prop) (step : ∀ (nx : σ → Option R) (v : σ), I v → (∀ v', I v' → m v' < m v → ∃ r, nx v' = some r ∧ P r) → ∃ r, body nx v = some r ∧ P r) :
    ∀ (n : Nat) (v : σ), I v → m v < n → ∃ r, lp body n v = some r ∧ P r
  | 0, v, _, h => by omega
  | n + 1, v, hI, h => by
    rw [lp_succ]
    exact step _ v hI fun v' hI' hlt => lp_ex m I P step n v' hI' (by omega)
theorem lp_upS_ex {S : Type} {body : (S × Int → Option R) → S × Int → Option R} (N : Nat) (hN : N < FU) (J : Nat → S → Prop) (P : R → Prop) (s0 : S) (h0 : J 0 s0)
    (step : ∀ (nx : S × Int → Option R) (k : Nat) (s : S), k ≤ N → J k s → (∀ s', k < N → J (k + 1) s' → ∃ r, nx (s', ((k + 1 : Nat) : Int)) = some r ∧ P r) → ∃ r, body nx (s, (k : Int)) = some r ∧ P r) : ∃ r, lp body FU (s0, (0 : Int)) = some r ∧ P r := by
  refine lp_ex (fun v => N - v.2.toNat) (fun v => ∃ k : Nat, v.2 = (k : Int) ∧ k ≤ N ∧ J k v.1) P ?_ FU _ ⟨0, rfl, Nat.zero_le _, h0⟩ (by simp; omega)
  rintro nx ⟨s, v⟩ ⟨k, hv, hk, hJ⟩ hnx
  simp only at hv hJ
  subst hv
  exact step nx k s hk hJ fun s' hlt hJ' => hnx _ ⟨k + 1, rfl, hlt, hJ'⟩ (by simp only [Int.toNat_natCast]; omega)
theorem lp_up_ex {body : (Int → Option R) → Int → Option R} (N : Nat) (hN : N < FU) (J : Nat → Prop) (P : R → Prop) (h0 : J 0)
    (step : ∀ (nx : Int → Option R) (k : Nat), k ≤ N → J k → (k < N → J (k + 1) → ∃ r, nx ((k + 1 : Nat) : Int) = some r ∧ P r) → ∃ r, body nx (k : Int) = some r ∧ P r) : ∃ r, lp body FU (0 : Int) = some r ∧ P r := by
  refine lp_ex (fun v => N - v.toNat) (fun v => ∃ k : Nat, v = (k : Int) ∧ k ≤ N ∧ J k) P ?_ FU _ ⟨0, rfl, Nat.zero_le _, h0⟩ (by simp; omega)
  rintro nx v ⟨k, rfl, hk, hJ⟩ hnx
  exact step nx k hk hJ fun hlt hJ' => hnx _ ⟨k + 1, rfl, hlt, hJ'⟩ (by simp only [Int.toNat_natCast]; omega)
end
end Go.VC
namespace Go.Proofs.Ytkhebjkplmidnaa
open Go Go.VC
noncomputable def task_Uses (a0 : Task) (a1 : Int) : Option Bool :=
  bnd (task_Right a0) fun x1 => fk (!x1) (some false) (lp (fun nx2 (v2 : Int) => fk (decide (v2 < (a0.Secs.length : Int))) (ix a0.Secs v2 fun x3 => fk (decide (x3.Res = a1)) (some true) (nx2 (wr (v2 + (1 : Int))))) (some false)) FU (0 : Int))
theorem task_Uses_w (a0 : Task) (a1 : Int) (r : Bool) (h : task_Uses a0 a1 = some r) : Go.VC.Spec Try.prog 73 [.agg (Task.enc a0), .d (.int .i64 a1)] (fun y => y = E_Bool r) := by
  refine Go.VC.Spec.of_xc (args := [.agg (Task.enc a0), .d (.int .i64 a1)]) (fn := Try.f73) tab ⟨[(0, [1, 2]), (1, [1, 2, 9]), (2, [4]), (3, [1, 11, 12, 13]), (4, [1, 11, 12, 13, 14]), (5, [1, 6, 11, 12, 13]), (6, [1, 11, 12, 13, 20]), (7, [4]), (8, [1, 11, 12, 13]), (9, [4])], [], [], []⟩ 22 [.tmp 4] rfl rfl rfl rfl rfl rfl ?_
  refine caS (E := E_Bool) h (task_Right_w a0) rfl (fun _ => rfl) (fun x1 h => ?_)
  refine fkS h (fun h => ?_) (fun h => ?_)
  · exact rt (E := E_Bool) h rfl
  refine lenS a0.Secs Sec.enc rfl ?_
  refine lpS (fun v2 => ⟨[(1, .l (.d (.int .i64 a1))), (11, .l (.d (.sl (a0.Secs.map Sec.enc)))), (12, .l (.d (.int .i64 (a0.Secs.length : Int)))), (13, .l (.d (.int .i64 v2)))], 22, [], [], []⟩) h (Weak.refl _) (fun _ nx2 hn2 v2 h => ?_)
  refine fkS h (fun h => ?_) (fun h => ?_)
  · refine ixS (enc := Sec.enc) h rfl (fun _ => rfl) (fun x3 h => ?_)
    refine fkS h (fun h => ?_) (fun h => ?_)
    · exact rt (E := E_Bool) h rfl
    exact leS hn2 h (Weak.refl _)
  exact rt (E := E_Bool) h rfl

end Go.Proofs.Ytkhebjkplmidnaa
namespace Go.Proofs.Ytkhebjkplmidnaa
open Go Go.VC
noncomputable def level_level (a0 : List Task) (a1 : Task) : Option Int :=
  lp (fun nx1 (v1 : Int × Int) => fk (decide (v1.2 < (a0.length : Int))) (jn (fun (w2 : Int) => nx1 (w2, (wr (v1.2 + (1 : Int))))) (fun k2 => ix a0 v1.2 fun x3 => fk (decide (x3.D > a1.D)) (k2 (wr (v1.1 + (1 : Int)))) (k2 v1.1))) (some v1.1)) FU ((1 : Int), (0 : Int))
theorem level_level_w (a0 : List Task) (a1 : Task) (r : Int) (h : level_level a0 a1 = some r) : Go.VC.Spec Try.prog 67 [.d (.sl (a0.map Task.enc)), .agg (Task.enc a1)] (fun y => y = E_Int r) := by
  refine Go.VC.Spec.of_xc (args := [.d (.sl (a0.map Task.enc)), .agg (Task.enc a1)]) (fn := Try.f67) tab ⟨[(0, [0, 3]), (1, [0, 3, 5]), (2, [3, 5, 8, 9, 10]), (3, [3, 5, 8, 9, 10, 11]), (4, [3, 5, 7, 8, 9, 10]), (5, [3, 5, 8, 9, 10, 18]), (6, [3, 5, 8, 9, 10]), (7, [3, 5, 8, 9, 10]), (8, [4])], [], [7], []⟩ 23 [.tmp 4] rfl rfl rfl rfl rfl rfl ?_
  refine lenS a0 Task.enc rfl ?_
  refine lpS (fun v1 => ⟨[(3, .l (.ptr 4 0)), (5, .l (.d (.int .i64 v1.1))), (8, .l (.d (.sl (a0.map Task.enc)))), (9, .l (.d (.int .i64 (a0.length : Int)))), (10, .l (.d (.int .i64 v1.2)))], 23, [], [(4, [.d (.int .i64 a1.C), .d (.int .i64 a1.D), .d (.int .i64 a1.T), .d (.sl (a1.Secs.map Sec.enc))])], []⟩) h (Weak.refl _) (fun _ nx1 hn1 v1 h => ?_)
  refine fkS h (fun h => ?_) (fun h => ?_)
  · refine jnS (fun w2 => ⟨[(3, .l (.ptr 4 0)), (5, .l (.d (.int .i64 w2))), (8, .l (.d (.sl (a0.map Task.enc)))), (9, .l (.d (.int .i64 (a0.length : Int)))), (10, .l (.d (.int .i64 v1.2)))], 23, [], [(4, [.d (.int .i64 a1.C), .d (.int .i64 a1.D), .d (.int .i64 a1.T), .d (.sl (a1.Secs.map Sec.enc))])], []⟩) h (fun k2 hk2 h => ?_) (fun w2 h => ?_)
    · refine ixS (enc := Task.enc) h rfl (fun _ => rfl) (fun x3 h => ?_)
      refine fkS h (fun h => ?_) (fun h => ?_)
      · exact jeS hk2 h (Weak.refl _)
      exact jeS hk2 h (Weak.trans (Weak.keepS _ [3, 5, 8, 9, 10]) (Weak.refl _))
    exact leS hn1 h (Weak.refl _)
  exact rt (E := E_Int) h rfl

end Go.Proofs.Ytkhebjkplmidnaa
namespace Go.Proofs.Ytkhebjkplmidnaa
open Go Go.VC
noncomputable def level_Ceiling_1 (a0 : Task) (a1 : Int) (a2 : List Task) : Option Int :=
  bnd (task_Uses a0 a1) fun x1 => fk (!x1) (some (0 : Int)) (bnd (level_level a2 a0) fun x2 => some x2)
theorem level_Ceiling_1_w (a0 : Task) (a1 : Int) (a2 : List Task) (r : Int) (h : level_Ceiling_1 a0 a1 a2 = some r) : Go.VC.Spec Try.prog 72 [.agg (Task.enc a0), .dp [.int .i64 a1], .dp [.sl (a2.map Task.enc)]] (fun y => y = E_Int r) := by
  refine Go.VC.Spec.of_xc (args := [.agg (Task.enc a0), .dp [.int .i64 a1], .dp [.sl (a2.map Task.enc)]]) (fn := Try.f72) tab ⟨[(0, [1, 2, 3]), (1, [2, 3, 8]), (2, [4]), (3, [4])], [], [], []⟩ 12 [.tmp 4] rfl rfl rfl rfl rfl rfl ?_
  refine caS (E := E_Bool) h (task_Uses_w a0 a1) rfl (fun _ => rfl) (fun x1 h => ?_)
  refine fkS h (fun h => ?_) (fun h => ?_)
  · exact rt (E := E_Int) h rfl
  refine caS (E := E_Int) h (level_level_w a2 a0) rfl (fun _ => rfl) (fun x2 h => ?_)
  exact rt (E := E_Int) h rfl

end Go.Proofs.Ytkhebjkplmidnaa
namespace Go.Proofs.Ytkhebjkplmidnaa
open Go Go.VC
noncomputable def level_most_api_Task (a0 : List Task) (a1 : Int) (a2 : List Task) : Option Int :=
  lp (fun nx1 (v1 : Int × Int) => fk (decide (v1.2 < (a0.length : Int))) (ix a0 v1.2 fun x2 => bnd (level_Ceiling_1 x2 a1 a2) fun x3 => nx1 ((if x3 > v1.1 then x3 else v1.1), (wr (v1.2 + (1 : Int))))) (some v1.1)) FU ((0 : Int), (0 : Int))
theorem level_most_api_Task_w (a0 : List Task) (a1 : Int) (a2 : List Task) (r : Int) (h : level_most_api_Task a0 a1 a2 = some r) : Go.VC.Spec Try.prog 71 [.d (.sl (a0.map Task.enc)), .d (.fn 72 [[.int .i64 a1], [.sl (a2.map Task.enc)]])] (fun y => y = E_Int r) := by
  refine Go.VC.Spec.of_xc (args := [.d (.sl (a0.map Task.enc)), .d (.fn 72 [[.int .i64 a1], [.sl (a2.map Task.enc)]])]) (fn := Try.f71) tab ⟨[(0, [0, 1]), (1, [0, 1, 5]), (2, [1, 5, 8, 9, 10]), (3, [1, 5, 8, 9, 10, 11]), (4, [1, 5, 7, 8, 9, 10]), (5, [1, 5, 8, 9, 10]), (6, [1, 5, 8, 9, 10]), (7, [4])], [], [], []⟩ 21 [.tmp 4] rfl rfl rfl rfl rfl rfl ?_
  refine lenS a0 Task.enc rfl ?_
  refine lpS (fun v1 => ⟨[(1, .l (.d (.fn 72 [[.int .i64 a1], [.sl (a2.map Task.enc)]]))), (5, .l (.d (.int .i64 v1.1))), (8, .l (.d (.sl (a0.map Task.enc)))), (9, .l (.d (.int .i64 (a0.length : Int)))), (10, .l (.d (.int .i64 v1.2)))], 21, [], [], []⟩) h (Weak.refl _) (fun _ nx1 hn1 v1 h => ?_)
  refine fkS h (fun h => ?_) (fun h => ?_)
  · refine ixS (enc := Task.enc) h rfl (fun _ => rfl) (fun x2 h => ?_)
    refine caS (E := E_Int) h (level_Ceiling_1_w x2 a1 a2) rfl (fun _ => rfl) (fun x3 h => ?_)
    exact leS hn1 h (Weak.refl _)
  exact rt (E := E_Int) h rfl

end Go.Proofs.Ytkhebjkplmidnaa
namespace Go.Proofs.Ytkhebjkplmidnaa
open Go Go.VC
noncomputable def level_Ceiling (a0 : List Task) (a1 : Int) : Option Int :=
  bnd (task_All a0) fun x1 => fk (!x1) (some (0 : Int)) (bnd (level_most_api_Task a0 a1 a0) fun x2 => some x2)
theorem level_Ceiling_w (a0 : List Task) (a1 : Int) (r : Int) (h : level_Ceiling a0 a1 = some r) : Go.VC.Spec Try.prog 70 [.d (.sl (a0.map Task.enc)), .d (.int .i64 a1)] (fun y => y = E_Int r) := by
  refine Go.VC.Spec.of_xc (args := [.d (.sl (a0.map Task.enc)), .d (.int .i64 a1)]) (fn := Try.f70) tab ⟨[(0, [2, 3]), (1, [2, 3, 7]), (2, [4]), (3, [4])], [], [], []⟩ 11 [.tmp 4] rfl rfl rfl rfl rfl rfl ?_
  refine caS (E := E_Bool) h (task_All_w a0) rfl (fun _ => rfl) (fun x1 h => ?_)
  refine fkS h (fun h => ?_) (fun h => ?_)
  · exact rt (E := E_Int) h rfl
  refine caS (E := E_Int) h (level_most_api_Task_w a0 a1 a0) rfl (fun _ => rfl) (fun x2 h => ?_)
  exact rt (E := E_Int) h rfl

end Go.Proofs.Ytkhebjkplmidnaa
namespace Go.Proofs.Ytkhebjkplmidnaa
open Go Go.VC
noncomputable def level_Held_1 (a0 : Int) (a1 : List Task) : Option Int :=
  bnd (level_Ceiling a1 a0) fun x1 => some x1
theorem level_Held_1_w (a0 : Int) (a1 : List Task) (r : Int) (h : level_Held_1 a0 a1 = some r) : Go.VC.Spec Try.prog 69 [.d (.int .i64 a0), .dp [.sl (a1.map Task.enc)]] (fun y => y = E_Int r) := by
  refine Go.VC.Spec.of_xc (args := [.d (.int .i64 a0), .dp [.sl (a1.map Task.enc)]]) (fn := Try.f69) tab ⟨[(0, [0, 1]), (1, [3])], [], [], []⟩ 7 [.tmp 3] rfl rfl rfl rfl rfl rfl ?_
  refine caS (E := E_Int) h (level_Ceiling_w a1 a0) rfl (fun _ => rfl) (fun x1 h => ?_)
  exact rt (E := E_Int) h rfl

end Go.Proofs.Ytkhebjkplmidnaa
namespace Go.Proofs.Ytkhebjkplmidnaa
open Go Go.VC
noncomputable def level_most_int (a0 : List Int) (a1 : List Task) : Option Int :=
  lp (fun nx1 (v1 : Int × Int) => fk (decide (v1.2 < (a0.length : Int))) (ix a0 v1.2 fun x2 => bnd (level_Held_1 x2 a1) fun x3 => nx1 ((if x3 > v1.1 then x3 else v1.1), (wr (v1.2 + (1 : Int))))) (some v1.1)) FU ((0 : Int), (0 : Int))
theorem level_most_int_w (a0 : List Int) (a1 : List Task) (r : Int) (h : level_most_int a0 a1 = some r) : Go.VC.Spec Try.prog 68 [.d (.sl (a0.map (eI .i64))), .d (.fn 69 [[.sl (a1.map Task.enc)]])] (fun y => y = E_Int r) := by
  refine Go.VC.Spec.of_xc (args := [.d (.sl (a0.map (eI .i64))), .d (.fn 69 [[.sl (a1.map Task.enc)]])]) (fn := Try.f68) tab ⟨[(0, [0, 1]), (1, [0, 1, 5]), (2, [1, 5, 8, 9, 10]), (3, [1, 5, 8, 9, 10, 11]), (4, [1, 5, 7, 8, 9, 10]), (5, [1, 5, 8, 9, 10]), (6, [1, 5, 8, 9, 10]), (7, [4])], [], [], []⟩ 21 [.tmp 4] rfl rfl rfl rfl rfl rfl ?_
  refine lenS a0 (eI .i64) rfl ?_
  refine lpS (fun v1 => ⟨[(1, .l (.d (.fn 69 [[.sl (a1.map Task.enc)]]))), (5, .l (.d (.int .i64 v1.1))), (8, .l (.d (.sl (a0.map (eI .i64))))), (9, .l (.d (.int .i64 (a0.length : Int)))), (10, .l (.d (.int .i64 v1.2)))], 21, [], [], []⟩) h (Weak.refl _) (fun _ nx1 hn1 v1 h => ?_)
  refine fkS h (fun h => ?_) (fun h => ?_)
  · refine ixS (enc := (eI .i64)) h rfl (fun _ => rfl) (fun x2 h => ?_)
    refine caS (E := E_Int) h (level_Held_1_w x2 a1) rfl (fun _ => rfl) (fun x3 h => ?_)
    exact leS hn1 h (Weak.refl _)
  exact rt (E := E_Int) h rfl

end Go.Proofs.Ytkhebjkplmidnaa
namespace Go.Proofs.Ytkhebjkplmidnaa
open Go Go.VC
noncomputable def level_Held (a0 : List Task) (a1 : List Int) : Option Int :=
  bnd (level_most_int a1 a0) fun x1 => some x1
theorem level_Held_w (a0 : List Task) (a1 : List Int) (r : Int) (h : level_Held a0 a1 = some r) : Go.VC.Spec Try.prog 62 [.d (.sl (a0.map Task.enc)), .d (.sl (a1.map (eI .i64)))] (fun y => y = E_Int r) := by
  refine Go.VC.Spec.of_xc (args := [.d (.sl (a0.map Task.enc)), .d (.sl (a1.map (eI .i64)))]) (fn := Try.f62) tab ⟨[(0, [1, 2]), (1, [4])], [], [], []⟩ 8 [.tmp 4] rfl rfl rfl rfl rfl rfl ?_
  refine caS (E := E_Int) h (level_most_int_w a1 a0) rfl (fun _ => rfl) (fun x1 h => ?_)
  exact rt (E := E_Int) h rfl

end Go.Proofs.Ytkhebjkplmidnaa
namespace Go.Proofs.Ytkhebjkplmidnaa
open Go Go.VC
noncomputable def level_Of (a0 : List Task) (a1 : Int) : Option Int :=
  jn (fun (w1 : Bool) => fk w1 (some (0 : Int)) (ix a0 a1 fun x3 => bnd (level_level a0 x3) fun x4 => some x4)) (fun k1 => bnd (task_All a0) fun x2 => fk (!x2) (k1 true) (fk (decide (a1 < (0 : Int))) (k1 true) (k1 (decide (a1 ≥ (a0.length : Int))))))
theorem level_Of_w (a0 : List Task) (a1 : Int) (r : Int) (h : level_Of a0 a1 = some r) : Go.VC.Spec Try.prog 61 [.d (.sl (a0.map Task.enc)), .d (.int .i64 a1)] (fun y => y = E_Int r) := by
  refine Go.VC.Spec.of_xc (args := [.d (.sl (a0.map Task.enc)), .d (.int .i64 a1)]) (fn := Try.f61) tab ⟨[(0, [0, 1]), (1, [0, 1, 17]), (2, [4]), (3, [4])], [], [100017], []⟩ 24 [.tmp 4] rfl rfl rfl rfl rfl rfl ?_
  refine jnS (fun w1 => ⟨[(0, .l (.d (.sl (a0.map Task.enc)))), (1, .l (.d (.int .i64 a1))), (17, .l (.d (.bool w1)))], 24, [], [], []⟩) h (fun k1 hk1 h => ?_) (fun w1 h => ?_)
  · refine caS (E := E_Bool) h (task_All_w a0) rfl (fun _ => rfl) (fun x2 h => ?_)
    refine fkS h (fun h => ?_) (fun h => ?_)
    · exact jeS hk1 h (Weak.refl _)
    refine fkS h (fun h => ?_) (fun h => ?_)
    · exact jeS hk1 h (Weak.refl _)
    refine lenS a0 Task.enc rfl ?_
    exact jeS hk1 h (Weak.refl _)
  refine fkS h (fun h => ?_) (fun h => ?_)
  · exact rt (E := E_Int) h rfl
  refine ixS (enc := Task.enc) h rfl (fun _ => rfl) (fun x3 h => ?_)
  refine caS (E := E_Int) h (level_level_w a0 x3) rfl (fun _ => rfl) (fun x4 h => ?_)
  exact rt (E := E_Int) h rfl

end Go.Proofs.Ytkhebjkplmidnaa
namespace Go.Proofs.Ytkhebjkplmidnaa
open Go Go.VC
noncomputable def level_Passes (a0 : List Task) (a1 : Int) (a2 : List Int) : Option Bool :=
  bnd (level_Of a0 a1) fun x1 => bnd (level_Held a0 a2) fun x2 => some (decide (x1 > x2))
theorem level_Passes_w (a0 : List Task) (a1 : Int) (a2 : List Int) (r : Bool) (h : level_Passes a0 a1 a2 = some r) : Go.VC.Spec Try.prog 54 [.d (.sl (a0.map Task.enc)), .d (.int .i64 a1), .d (.sl (a2.map (eI .i64)))] (fun y => y = E_Bool r) := by
  refine Go.VC.Spec.of_xc (args := [.d (.sl (a0.map Task.enc)), .d (.int .i64 a1), .d (.sl (a2.map (eI .i64)))]) (fn := Try.f54) tab ⟨[(0, [0, 1, 2]), (1, [6])], [], [], []⟩ 14 [.tmp 6] rfl rfl rfl rfl rfl rfl ?_
  refine caS (E := E_Int) h (level_Of_w a0 a1) rfl (fun _ => rfl) (fun x1 h => ?_)
  refine caS (E := E_Int) h (level_Held_w a0 a2) rfl (fun _ => rfl) (fun x2 h => ?_)
  exact rt (E := E_Bool) h rfl

end Go.Proofs.Ytkhebjkplmidnaa
namespace Go.Proofs.Ytkhebjkplmidnaa
open Go Go.VC
noncomputable def ref05_Uses (a0 : Task) (a1 : Int) : Option Bool :=
  lp (fun nx1 (v1 : Int × Int) => fk (decide (v1.2 < (a0.Secs.length : Int))) (jn (fun (w2 : Int) => nx1 (w2, (wr (v1.2 + (1 : Int))))) (fun k2 => ix a0.Secs v1.2 fun x3 => fk (decide (x3.Res = a1)) (k2 (wr (v1.1 + (1 : Int)))) (k2 v1.1))) (some (decide (v1.1 > (0 : Int))))) FU ((0 : Int), (0 : Int))
theorem ref05_Uses_w (a0 : Task) (a1 : Int) (r : Bool) (h : ref05_Uses a0 a1 = some r) : Go.VC.Spec Try.prog 42 [.agg (Task.enc a0), .d (.int .i64 a1)] (fun y => y = E_Bool r) := by
  refine Go.VC.Spec.of_xc (args := [.agg (Task.enc a0), .d (.int .i64 a1)]) (fn := Try.f42) tab ⟨[(0, [1, 2]), (1, [1, 2, 5]), (2, [1, 2, 5, 6]), (3, [1, 2, 5, 6, 11]), (4, [1, 2, 5, 6]), (5, [1, 2, 5, 6, 21]), (6, [1, 2, 5, 6]), (7, [4])], [], [4], []⟩ 26 [.tmp 4] rfl rfl rfl rfl rfl rfl ?_
  refine lpS (fun v1 => ⟨[(1, .l (.d (.int .i64 a1))), (2, .l (.ptr 3 0)), (5, .l (.d (.int .i64 v1.1))), (6, .l (.d (.int .i64 v1.2)))], 26, [], [(3, [.d (.int .i64 a0.C), .d (.int .i64 a0.D), .d (.int .i64 a0.T), .d (.sl (a0.Secs.map Sec.enc))])], []⟩) h (Weak.refl _) (fun _ nx1 hn1 v1 h => ?_)
  refine lenS a0.Secs Sec.enc rfl ?_
  refine fkS h (fun h => ?_) (fun h => ?_)
  · refine jnS (fun w2 => ⟨[(1, .l (.d (.int .i64 a1))), (2, .l (.ptr 3 0)), (5, .l (.d (.int .i64 w2))), (6, .l (.d (.int .i64 v1.2)))], 26, [], [(3, [.d (.int .i64 a0.C), .d (.int .i64 a0.D), .d (.int .i64 a0.T), .d (.sl (a0.Secs.map Sec.enc))])], []⟩) h (fun k2 hk2 h => ?_) (fun w2 h => ?_)
    · refine ixS (enc := Sec.enc) h rfl (fun _ => rfl) (fun x3 h => ?_)
      refine fkS h (fun h => ?_) (fun h => ?_)
      · exact jeS hk2 h (Weak.refl _)
      exact jeS hk2 h (Weak.trans (Weak.keepS _ [1, 2, 5, 6]) (Weak.refl _))
    exact leS hn1 h (Weak.refl _)
  exact rt (E := E_Bool) h rfl

end Go.Proofs.Ytkhebjkplmidnaa
namespace Go.Proofs.Ytkhebjkplmidnaa
open Go Go.VC
noncomputable def ref06_Of (a0 : List Task) (a1 : Int) : Option Int :=
  lp (fun nx1 (v1 : Int × Int) => fk (decide (v1.2 < (a0.length : Int))) (jn (fun (w2 : Int) => nx1 (w2, (wr (v1.2 + (1 : Int))))) (fun k2 => ix a0 v1.2 fun x3 => ix a0 a1 fun x4 => fk (decide (x3.D > x4.D)) (k2 (wr (v1.1 + (1 : Int)))) (k2 v1.1))) (some (wr (v1.1 + (1 : Int))))) FU ((0 : Int), (0 : Int))
theorem ref06_Of_w (a0 : List Task) (a1 : Int) (r : Int) (h : ref06_Of a0 a1 = some r) : Go.VC.Spec Try.prog 57 [.d (.sl (a0.map Task.enc)), .d (.int .i64 a1)] (fun y => y = E_Int r) := by
  refine Go.VC.Spec.of_xc (args := [.d (.sl (a0.map Task.enc)), .d (.int .i64 a1)]) (fn := Try.f57) tab ⟨[(0, [0, 1]), (1, [0, 1, 5]), (2, [0, 1, 5, 6]), (3, [0, 1, 5, 6, 10]), (4, [0, 1, 5, 6]), (5, [0, 1, 5, 6, 23]), (6, [0, 1, 5, 6]), (7, [4])], [], [4], []⟩ 28 [.tmp 4] rfl rfl rfl rfl rfl rfl ?_
  refine lpS (fun v1 => ⟨[(0, .l (.d (.sl (a0.map Task.enc)))), (1, .l (.d (.int .i64 a1))), (5, .l (.d (.int .i64 v1.1))), (6, .l (.d (.int .i64 v1.2)))], 28, [], [], []⟩) h (Weak.refl _) (fun _ nx1 hn1 v1 h => ?_)
  refine lenS a0 Task.enc rfl ?_
  refine fkS h (fun h => ?_) (fun h => ?_)
  · refine jnS (fun w2 => ⟨[(0, .l (.d (.sl (a0.map Task.enc)))), (1, .l (.d (.int .i64 a1))), (5, .l (.d (.int .i64 w2))), (6, .l (.d (.int .i64 v1.2)))], 28, [], [], []⟩) h (fun k2 hk2 h => ?_) (fun w2 h => ?_)
    · refine ⟨10, ?_⟩
      refine ixS (enc := Task.enc) h rfl (fun _ => rfl) (fun x3 h => ?_)
      refine ixS (enc := Task.enc) h rfl (fun _ => rfl) (fun x4 h => ?_)
      refine drS (by kernel_rfl) ?_
      refine fkS h (fun h => ?_) (fun h => ?_)
      · exact jeS hk2 h (Weak.refl _)
      exact jeS hk2 h (Weak.trans (Weak.keepS _ [0, 1, 5, 6]) (Weak.refl _))
    exact leS hn1 h (Weak.refl _)
  exact rt (E := E_Int) h rfl

end Go.Proofs.Ytkhebjkplmidnaa
namespace Go.Proofs.Ytkhebjkplmidnaa
open Go Go.VC
noncomputable def ref06_Ceiling (a0 : List Task) (a1 : Int) : Option Int :=
  lp (fun nx1 (v1 : Int × Int) => fk (decide (v1.2 < (a0.length : Int))) (jn (fun (w2 : Int) => nx1 (w2, (wr (v1.2 + (1 : Int))))) (fun k2 => jn (fun (w3 : Bool) => fk w3 (bnd (ref06_Of a0 v1.2) fun x7 => k2 x7) (k2 v1.1)) (fun k3 => ix a0 v1.2 fun x4 => bnd (ref05_Uses x4 a1) fun x5 => fk x5 (bnd (ref06_Of a0 v1.2) fun x6 => k3 (decide (x6 > v1.1))) (k3 false)))) (some v1.1)) FU ((0 : Int), (0 : Int))
theorem ref06_Ceiling_w (a0 : List Task) (a1 : Int) (r : Int) (h : ref06_Ceiling a0 a1 = some r) : Go.VC.Spec Try.prog 63 [.d (.sl (a0.map Task.enc)), .d (.int .i64 a1)] (fun y => y = E_Int r) := by
  refine Go.VC.Spec.of_xc (args := [.d (.sl (a0.map Task.enc)), .d (.int .i64 a1)]) (fn := Try.f63) tab ⟨[(0, [0, 1]), (1, [0, 1, 5]), (2, [0, 1, 5, 6]), (3, [0, 1, 5, 6, 10]), (4, [0, 1, 5, 6]), (5, [0, 1, 5, 6, 25]), (6, [0, 1, 5, 6]), (7, [4])], [], [100025, 4], []⟩ 30 [.tmp 4] rfl rfl rfl rfl rfl rfl ?_
  refine lpS (fun v1 => ⟨[(0, .l (.d (.sl (a0.map Task.enc)))), (1, .l (.d (.int .i64 a1))), (5, .l (.d (.int .i64 v1.1))), (6, .l (.d (.int .i64 v1.2)))], 30, [], [], []⟩) h (Weak.refl _) (fun _ nx1 hn1 v1 h => ?_)
  refine lenS a0 Task.enc rfl ?_
  refine fkS h (fun h => ?_) (fun h => ?_)
  · refine jnS (fun w2 => ⟨[(0, .l (.d (.sl (a0.map Task.enc)))), (1, .l (.d (.int .i64 a1))), (5, .l (.d (.int .i64 w2))), (6, .l (.d (.int .i64 v1.2)))], 30, [], [], []⟩) h (fun k2 hk2 h => ?_) (fun w2 h => ?_)
    · refine jnS (fun w3 => ⟨[(0, .l (.d (.sl (a0.map Task.enc)))), (1, .l (.d (.int .i64 a1))), (5, .l (.d (.int .i64 v1.1))), (6, .l (.d (.int .i64 v1.2))), (25, .l (.d (.bool w3)))], 30, [], [], []⟩) h (fun k3 hk3 h => ?_) (fun w3 h => ?_)
      · refine ixS (enc := Task.enc) h rfl (fun _ => rfl) (fun x4 h => ?_)
        refine caS (E := E_Bool) h (ref05_Uses_w x4 a1) rfl (fun _ => rfl) (fun x5 h => ?_)
        refine fkS h (fun h => ?_) (fun h => ?_)
        · refine caS (E := E_Int) h (ref06_Of_w a0 v1.2) rfl (fun _ => rfl) (fun x6 h => ?_)
          exact jeS hk3 h (Weak.refl _)
        exact jeS hk3 h (Weak.refl _)
      refine fkS h (fun h => ?_) (fun h => ?_)
      · refine caS (E := E_Int) h (ref06_Of_w a0 v1.2) rfl (fun _ => rfl) (fun x7 h => ?_)
        exact jeS hk2 h (Weak.refl _)
      exact jeS hk2 h (Weak.trans (Weak.keepS _ [0, 1, 5, 6]) (Weak.refl _))
    exact leS hn1 h (Weak.refl _)
  exact rt (E := E_Int) h rfl

end Go.Proofs.Ytkhebjkplmidnaa
namespace Go.Proofs.Ytkhebjkplmidnaa
open Go Go.VC
noncomputable def ref06_Held (a0 : List Task) (a1 : List Int) : Option Int :=
  lp (fun nx1 (v1 : Int × Int) => fk (decide (v1.2 < (a1.length : Int))) (jn (fun (w2 : Int) => nx1 (w2, (wr (v1.2 + (1 : Int))))) (fun k2 => ix a1 v1.2 fun x3 => bnd (ref06_Ceiling a0 x3) fun x4 => fk (decide (x4 > v1.1)) (ix a1 v1.2 fun x5 => bnd (ref06_Ceiling a0 x5) fun x6 => k2 x6) (k2 v1.1))) (some v1.1)) FU ((0 : Int), (0 : Int))
theorem ref06_Held_w (a0 : List Task) (a1 : List Int) (r : Int) (h : ref06_Held a0 a1 = some r) : Go.VC.Spec Try.prog 58 [.d (.sl (a0.map Task.enc)), .d (.sl (a1.map (eI .i64)))] (fun y => y = E_Int r) := by
  refine Go.VC.Spec.of_xc (args := [.d (.sl (a0.map Task.enc)), .d (.sl (a1.map (eI .i64)))]) (fn := Try.f58) tab ⟨[(0, [0, 1]), (1, [0, 1, 5]), (2, [0, 1, 5, 6]), (3, [0, 1, 5, 6, 10]), (4, [0, 1, 5, 6]), (5, [0, 1, 5, 6, 20]), (6, [0, 1, 5, 6]), (7, [4])], [], [4], []⟩ 28 [.tmp 4] rfl rfl rfl rfl rfl rfl ?_
  refine lpS (fun v1 => ⟨[(0, .l (.d (.sl (a0.map Task.enc)))), (1, .l (.d (.sl (a1.map (eI .i64))))), (5, .l (.d (.int .i64 v1.1))), (6, .l (.d (.int .i64 v1.2)))], 28, [], [], []⟩) h (Weak.refl _) (fun _ nx1 hn1 v1 h => ?_)
  refine lenS a1 (eI .i64) rfl ?_
  refine fkS h (fun h => ?_) (fun h => ?_)
  · refine jnS (fun w2 => ⟨[(0, .l (.d (.sl (a0.map Task.enc)))), (1, .l (.d (.sl (a1.map (eI .i64))))), (5, .l (.d (.int .i64 w2))), (6, .l (.d (.int .i64 v1.2)))], 28, [], [], []⟩) h (fun k2 hk2 h => ?_) (fun w2 h => ?_)
    · refine ixS (enc := (eI .i64)) h rfl (fun _ => rfl) (fun x3 h => ?_)
      refine caS (E := E_Int) h (ref06_Ceiling_w a0 x3) rfl (fun _ => rfl) (fun x4 h => ?_)
      refine fkS h (fun h => ?_) (fun h => ?_)
      · refine ixS (enc := (eI .i64)) h rfl (fun _ => rfl) (fun x5 h => ?_)
        refine caS (E := E_Int) h (ref06_Ceiling_w a0 x5) rfl (fun _ => rfl) (fun x6 h => ?_)
        exact jeS hk2 h (Weak.refl _)
      exact jeS hk2 h (Weak.trans (Weak.keepS _ [0, 1, 5, 6]) (Weak.refl _))
    exact leS hn1 h (Weak.refl _)
  exact rt (E := E_Int) h rfl

end Go.Proofs.Ytkhebjkplmidnaa
namespace Go.Proofs.Ytkhebjkplmidnaa
open Go Go.VC
noncomputable def task_Held (a0 : Task) (a1 : Int) : Option (List Int) :=
  bnd (task_Right a0) fun x1 => fk (!x1) (some []) (lp (fun nx2 (v2 : (List Int) × Int) => fk (decide (v2.2 < (a0.Secs.length : Int))) (jn (fun (w3 : List Int) => nx2 (w3, (wr (v2.2 + (1 : Int))))) (fun k3 => ix a0.Secs v2.2 fun x4 => jn (fun (w5 : Bool) => fk w5 (ck (decide ((v2.1.length + ([x4.Res] : List Int).length) * 8 ≤ 140737488355328)) (k3 (v2.1 ++ ([x4.Res] : List Int)))) (k3 v2.1)) (fun k5 => fk (decide (x4.At < a1)) (k5 (decide (a1 < (wr (x4.At + x4.Len))))) (k5 false)))) (some v2.1)) FU ([], (0 : Int)))
theorem task_Held_w (a0 : Task) (a1 : Int) (r : List Int) (h : task_Held a0 a1 = some r) : Go.VC.Spec Try.prog 49 [.agg (Task.enc a0), .d (.int .i64 a1)] (fun y => y = E_ListInt r) := by
  refine Go.VC.Spec.of_xc (args := [.agg (Task.enc a0), .d (.int .i64 a1)]) (fn := Try.f49) tab ⟨[(0, [1, 2]), (1, [1, 2, 10]), (2, [4]), (3, [1, 2, 5]), (4, [1, 5, 12, 13, 14]), (5, [1, 5, 12, 13, 14, 15]), (6, [1, 5, 7, 12, 13, 14]), (7, [1, 5, 7, 12, 13, 14, 30]), (8, [1, 5, 12, 13, 14]), (9, [1, 5, 12, 13, 14]), (10, [4])], [], [100030, 9], []⟩ 38 [.tmp 4] rfl rfl rfl rfl rfl rfl ?_
  refine caS (E := E_Bool) h (task_Right_w a0) rfl (fun _ => rfl) (fun x1 h => ?_)
  refine fkS h (fun h => ?_) (fun h => ?_)
  · exact rt (E := E_ListInt) h rfl
  refine lenS a0.Secs Sec.enc rfl ?_
  refine lpS (fun v2 => ⟨[(1, .l (.d (.int .i64 a1))), (5, .l (.own 6)), (12, .l (.d (.sl (a0.Secs.map Sec.enc)))), (13, .l (.d (.int .i64 (a0.Secs.length : Int)))), (14, .l (.d (.int .i64 v2.2)))], 38, [], [], [(6, 3, 1, v2.1.map (eI .i64))]⟩) h (Weak.trans (Weak.nilO _ 5 6 3 1 rfl) (Weak.refl _)) (fun _ nx2 hn2 v2 h => ?_)
  refine fkS h (fun h => ?_) (fun h => ?_)
  · refine jnS (fun w3 => ⟨[(1, .l (.d (.int .i64 a1))), (5, .l (.own 6)), (12, .l (.d (.sl (a0.Secs.map Sec.enc)))), (13, .l (.d (.int .i64 (a0.Secs.length : Int)))), (14, .l (.d (.int .i64 v2.2)))], 38, [], [], [(6, 3, 1, w3.map (eI .i64))]⟩) h (fun k3 hk3 h => ?_) (fun w3 h => ?_)
    · refine ixS (enc := Sec.enc) h rfl (fun _ => rfl) (fun x4 h => ?_)
      refine jnS (fun w5 => ⟨[(1, .l (.d (.int .i64 a1))), (5, .l (.own 6)), (7, .l (.ptr 8 0)), (12, .l (.d (.sl (a0.Secs.map Sec.enc)))), (13, .l (.d (.int .i64 (a0.Secs.length : Int)))), (14, .l (.d (.int .i64 v2.2))), (30, .l (.d (.bool w5)))], 38, [], [(8, [.d (.int .i64 x4.Res), .d (.int .i64 x4.At), .d (.int .i64 x4.Len)])], [(6, 3, 1, v2.1.map (eI .i64))]⟩) h (fun k5 hk5 h => ?_) (fun w5 h => ?_)
      · refine fkS h (fun h => ?_) (fun h => ?_)
        · exact jeS hk5 h (Weak.refl _)
        exact jeS hk5 h (Weak.refl _)
      refine fkS h (fun h => ?_) (fun h => ?_)
      · refine liS ([x4.Res] : List Int) (eI .i64) rfl rfl ?_
        refine apS (enc := (eI .i64)) (l1 := v2.1) (l2 := ([x4.Res] : List Int)) h rfl rfl (fun _ => rfl) (fun h => ?_)
        exact jeS hk3 h (Weak.refl _)
      exact jeS hk3 h (Weak.trans (Weak.keepS _ [1, 5, 12, 13, 14]) (Weak.refl _))
    exact leS hn2 h (Weak.refl _)
  exact rt (E := E_ListInt) h rfl

end Go.Proofs.Ytkhebjkplmidnaa
namespace Go.Proofs.Ytkhebjkplmidnaa
open Go Go.VC

/-! ### Tasks -/
def fitsP (a b : Sec) : Prop := a.At + a.Len ≤ b.At ∨ (a.At ≤ b.At ∧ b.At + b.Len ≤ a.At + a.Len ∧ a.Res ≠ b.Res)
def secP (C : Int) (s : Sec) : Prop := 0 ≤ s.Res ∧ s.Res < 4 ∧ 0 ≤ s.At ∧ s.At < C ∧ 1 ≤ s.Len ∧ s.Len ≤ C - s.At
def ownP (t : Task) : Prop := 1 ≤ t.C ∧ t.C ≤ t.D ∧ t.D ≤ t.T ∧ t.T ≤ 200 ∧ t.Secs.length ≤ 4
def RightP (t : Task) : Prop := ownP t ∧ (∀ s ∈ t.Secs, secP t.C s) ∧ t.Secs.Pairwise fitsP
instance (a b : Sec) : Decidable (fitsP a b) := by unfold fitsP; infer_instance
instance (C : Int) (s : Sec) : Decidable (secP C s) := by unfold secP; infer_instance
instance (t : Task) : Decidable (ownP t) := by unfold ownP; infer_instance
instance (t : Task) : Decidable (RightP t) := by unfold RightP; infer_instance
def right (t : Task) : Bool := decide (RightP t)

theorem task_own_eq (t : Task) : task_own t = some (decide (ownP t)) := by
  unfold task_own
  simp only [fk_if, decide_eq_true_eq]
  repeat' split
  · exact dec_iff (by unfold ownP; omega)
  all_goals exact dec_f (by unfold ownP; omega)

theorem task_may_eq (t : Task) (s : Sec) (h : ownP t) : task_may t s = some (decide (secP t.C s)) := by
  unfold ownP at h
  unfold task_may
  simp only [fk_if, decide_eq_true_eq]
  repeat' split
  · rw [wr_in _ (by omega)]
    exact dec_iff (by unfold secP; omega)
  all_goals exact dec_f (by unfold secP; omega)

theorem task_fits_eq (C : Int) (a b : Sec) (hC : C ≤ 200) (ha : secP C a) (hb : secP C b) : task_fits a b = some (decide (fitsP a b)) := by
  unfold secP at ha hb
  unfold task_fits
  rw [wr_in _ (by omega), wr_in _ (by omega)]
  simp only [fk_if, decide_eq_true_eq]
  repeat' split
  · exact dec_t (by unfold fitsP; omega)
  · exact dec_f (by unfold fitsP; omega)
  · exact dec_not (by unfold fitsP; omega)
  · exact dec_f (by unfold fitsP; omega)

theorem task_Right_eq (t : Task) : task_Right t = some (right t) := by
  unfold task_Right
  rw [bnd_eq (task_own_eq t)]
  by_cases ho : ownP t
  rotate_left
  · simp [ho, right, RightP, fk_if]
  simp only [ho, decide_true, Bool.not_true, fk_f]
  have hlen : t.Secs.length ≤ 4 := ho.2.2.2.2
  have hC : t.C ≤ 200 := by unfold ownP at ho; omega
  refine lp_up t.Secs.length (by unfold FU; omega) (fun k => (∀ j (h : j < t.Secs.length), j < k → secP t.C t.Secs[j]) ∧ (∀ i j (hi : i < t.Secs.length) (hj : j < t.Secs.length), i < j → j < k → fitsP t.Secs[i] t.Secs[j])) ⟨fun j _ h => by omega, fun i j _ _ _ h => by omega⟩ ?_
  rintro nx k hk ⟨J1, J2⟩ hnx
  rw [lt_nat]
  by_cases h : k < t.Secs.length
  · rw [decide_eq_true h, fk_t, ix_lt h, bnd_eq (task_may_eq t _ ho)]
    by_cases hs : secP t.C t.Secs[k]
    rotate_left
    · have : right t = false := decide_eq_false fun hr => hs (hr.2.1 _ (List.getElem_mem h))
      simp [hs, this, fk_if]
    simp only [hs, decide_true, Bool.not_true, fk_f]
    rw [ck_t (by simp; omega)]
    have e : (t.Secs.take (k : Int).toNat).drop (0 : Int).toNat = t.Secs.take k := by simp
    rw [e]
    have el : (t.Secs.take k).length = k := by simp; omega
    refine lp_up k (by unfold FU; omega) (fun j => ∀ i (hi : i < t.Secs.length), i < j → fitsP t.Secs[i] t.Secs[k]) (fun i _ h => by omega) ?_
    intro nx2 j hj J3 hnx2
    rw [el, lt_nat]
    by_cases h2 : j < k
    · have hjl : j < t.Secs.length := by omega
      rw [decide_eq_true h2, fk_t, ix_lt (by omega), List.getElem_take, bnd_eq (task_fits_eq t.C _ _ hC (J1 j hjl h2) hs)]
      by_cases hf : fitsP t.Secs[j] t.Secs[k]
      · rw [decide_eq_true hf, fk_t, wr_succ j k h2 (by omega)]
        refine hnx2 h2 fun i hi hij => ?_
        by_cases e : i = j
        · subst e; exact hf
        · exact J3 i hi (by omega)
      · have : right t = false := decide_eq_false fun hr => hf (List.pairwise_iff_getElem.1 hr.2.2 j k hjl h h2)
        rw [decide_eq_false hf, fk_f, this]; rfl
    · have hjk : j = k := by omega
      subst hjk
      rw [decide_eq_false h2, fk_f, wr_succ j _ h (by omega)]
      refine hnx h ⟨fun i hi hij => ?_, fun a b ha hb hab hbj => ?_⟩
      · by_cases e : i = j
        · subst e; exact hs
        · exact J1 i hi (by omega)
      · by_cases e : b = j
        · subst e; exact J3 a ha hab
        · exact J2 a b ha hb hab (by omega)
  · have hk2 : k = t.Secs.length := by omega
    rw [decide_eq_false h, fk_f]
    have : right t = true := decide_eq_true ⟨ho, fun s hs => by
      obtain ⟨j, hj, rfl⟩ := List.getElem_of_mem hs
      exact J1 j hj (by omega), List.pairwise_iff_getElem.2 fun i j hi hj hij => J2 i j hi hj hij (by omega)⟩
    rw [this]
    unfold ownP at ho
    simp; omega


def AllP (l : List Task) : Prop := (∀ t ∈ l, RightP t) ∧ l.length ≤ 8
instance (l : List Task) : Decidable (AllP l) := by unfold AllP; infer_instance
theorem right_t {t : Task} : right t = true ↔ RightP t := decide_eq_true_iff
theorem right_f {t : Task} : right t = false ↔ ¬ RightP t := decide_eq_false_iff_not

theorem task_All_eq (l : List Task) (hl : l.length ≤ 4611686018427387904) : task_All l = some (decide (AllP l)) := by
  unfold task_All
  refine lp_up l.length (by unfold FU; omega) (fun k => ∀ j (h : j < l.length), j < k → RightP l[j]) (fun j _ h => by omega) ?_
  intro nx k hk J hnx
  rw [lt_nat]
  by_cases h : k < l.length
  · rw [decide_eq_true h, fk_t, ix_lt h, bnd_eq (task_Right_eq _)]
    by_cases hr : RightP l[k]
    · rw [right_t.2 hr, Bool.not_true, fk_f, wr_succ k _ h hl]
      refine hnx h fun j hj hjk => ?_
      by_cases e : j = k
      · subst e; exact hr
      · exact J j hj (by omega)
    · rw [right_f.2 hr, Bool.not_false, fk_t]
      exact dec_f fun ha => hr (ha.1 _ (List.getElem_mem h))
  · rw [decide_eq_false h, fk_f]
    refine dec_iff ⟨fun h8 => ⟨fun t ht => ?_, by omega⟩, fun ha => by have := ha.2; omega⟩
    obtain ⟨j, hj, rfl⟩ := List.getElem_of_mem ht
    exact J j hj (by omega)

def holds (had : Int) (s : Sec) : Bool := decide (s.At < had) && decide (had < s.At + s.Len)
def heldL (had : Int) (l : List Sec) : List Int := (l.filter (holds had)).map (·.Res)
def held (t : Task) (had : Int) : List Int := if right t = true then heldL had t.Secs else []
theorem heldL_succ (had : Int) (l : List Sec) (i : Nat) (h : i < l.length) : heldL had (l.take (i + 1)) = heldL had (l.take i) ++ (if holds had l[i] = true then [l[i].Res] else []) := by
  rw [← List.take_append_getElem h, heldL, heldL, List.filter_append, List.map_append]
  congr 1
  by_cases e : holds had l[i] = true
  · rw [if_pos e, List.filter_cons_of_pos e]; rfl
  · rw [if_neg e, List.filter_cons_of_neg e]; rfl
theorem heldL_len (had : Int) (l : List Sec) : (heldL had l).length ≤ l.length := by
  rw [heldL, List.length_map]; exact List.length_filter_le _ _
theorem RightP.sec {t : Task} (h : RightP t) {k : Nat} (hk : k < t.Secs.length) : secP t.C t.Secs[k] := h.2.1 _ (List.getElem_mem hk)
theorem RightP.len {t : Task} (h : RightP t) : t.Secs.length ≤ 4 := h.1.2.2.2.2
theorem RightP.c {t : Task} (h : RightP t) : 1 ≤ t.C ∧ t.C ≤ t.D ∧ t.D ≤ t.T ∧ t.T ≤ 200 := ⟨h.1.1, h.1.2.1, h.1.2.2.1, h.1.2.2.2.1⟩

theorem task_Held_eq (t : Task) (had : Int) : task_Held t had = some (held t had) := by
  unfold task_Held
  rw [bnd_eq (task_Right_eq _)]
  by_cases hr : RightP t
  rotate_left
  · rw [right_f.2 hr, Bool.not_false, fk_t, held, right_f.2 hr]; rfl
  have hl := hr.len
  have hc := hr.c
  rw [right_t.2 hr, Bool.not_true, fk_f]
  refine lp_upS t.Secs.length (by unfold FU; omega) (fun k out => out = heldL had (t.Secs.take k)) [] rfl ?_
  intro nx k out hk J hnx
  subst J
  rw [lt_nat]
  by_cases h : k < t.Secs.length
  · have hs := hr.sec h
    unfold secP at hs
    have hn := fun s' => hnx s' h
    have hlen := heldL_len had (t.Secs.take k)
    rw [List.length_take] at hlen
    rw [decide_eq_true h, fk_t, jn_eq, ix_lt h]
    simp only [jn_eq]
    rw [wr_succ k _ h (by omega), wr_in _ (by omega)]
    simp only [fk_if, decide_eq_true_eq]
    split
    · split
      · rw [ck_t (by simp; omega)]
        refine hn _ ?_
        rw [heldL_succ _ _ _ h, if_pos]
        simp [holds, *]
      · refine hn _ ?_
        rw [heldL_succ _ _ _ h, if_neg, List.append_nil]
        simp [holds, *]
    · rw [if_neg (by simp)]
      refine hn _ ?_
      rw [heldL_succ _ _ _ h, if_neg, List.append_nil]
      simp [holds, *]
  · rw [decide_eq_false h, fk_f, held, right_t.2 hr, if_pos rfl]
    have : k = t.Secs.length := by omega
    rw [this, List.take_length]

def usesP (t : Task) (res : Int) : Prop := RightP t ∧ ∃ s ∈ t.Secs, s.Res = res
instance (t : Task) (res : Int) : Decidable (usesP t res) := by unfold usesP; infer_instance
theorem task_Uses_eq (t : Task) (res : Int) : task_Uses t res = some (decide (usesP t res)) := by
  unfold task_Uses
  rw [bnd_eq (task_Right_eq _)]
  by_cases hr : RightP t
  rotate_left
  · rw [right_f.2 hr, Bool.not_false, fk_t]; exact dec_f fun h => hr h.1
  have hl := hr.len
  rw [right_t.2 hr, Bool.not_true, fk_f]
  refine lp_up t.Secs.length (by unfold FU; omega) (fun k => ∀ j (h : j < t.Secs.length), j < k → t.Secs[j].Res ≠ res) (fun j _ h => by omega) ?_
  intro nx k hk J hnx
  rw [lt_nat]
  by_cases h : k < t.Secs.length
  · rw [decide_eq_true h, fk_t, ix_lt h]
    by_cases e : t.Secs[k].Res = res
    · rw [decide_eq_true e, fk_t]; exact dec_t ⟨hr, _, List.getElem_mem h, e⟩
    · rw [decide_eq_false e, fk_f, wr_succ k _ h (by omega)]
      refine hnx h fun j hj hjk => ?_
      by_cases e2 : j = k
      · subst e2; exact e
      · exact J j hj (by omega)
  · rw [decide_eq_false h, fk_f]
    refine dec_f ?_
    rintro ⟨_, s, hs, e⟩
    obtain ⟨j, hj, rfl⟩ := List.getElem_of_mem hs
    exact J j hj (by omega) e


theorem ref05_Right_eq (t : Task) (hlt : t.Secs.length ≤ 4611686018427387904) : ref05_Right t = some (right t) := by
  unfold ref05_Right
  simp only [jn_eq, fk_t, fk_f]
  by_cases ho : ownP t
  rotate_left
  · have hr : right t = false := right_f.2 fun h => ho h.1
    by_cases c0 : t.C < 1
    · rw [decide_eq_true c0, fk_t, hr]
    rw [decide_eq_false c0, fk_f]
    by_cases c1 : t.D < t.C
    · rw [decide_eq_true c1, fk_t, hr]
    rw [decide_eq_false c1, fk_f]
    by_cases c2 : t.T < t.D
    · rw [decide_eq_true c2, fk_t, hr]
    rw [decide_eq_false c2, fk_f]
    by_cases c3 : t.T > 200
    · rw [decide_eq_true c3, fk_t, hr]
    rw [decide_eq_false c3, fk_f]
    by_cases c4 : (t.Secs.length : Int) > 4
    · rw [decide_eq_true c4, fk_t, hr]
    rw [decide_eq_false c4, fk_f]
    exact absurd (by unfold ownP; omega) ho
  have ho' := ho
  unfold ownP at ho'
  rw [decide_eq_false (by omega), fk_f, decide_eq_false (by omega), fk_f, decide_eq_false (by omega), fk_f, decide_eq_false (by omega), fk_f, decide_eq_false (by omega), fk_f]
  refine lp_up t.Secs.length (by unfold FU; omega) (fun k => (∀ j (h : j < t.Secs.length), j < k → secP t.C t.Secs[j]) ∧ (∀ i j (hi : i < t.Secs.length) (hj : j < t.Secs.length), i < j → j < k → fitsP t.Secs[i] t.Secs[j])) ⟨fun j _ h => by omega, fun i j _ _ _ h => by omega⟩ ?_
  rintro nx k hk ⟨J1, J2⟩ hnx
  rw [lt_nat]
  by_cases h : k < t.Secs.length
  rotate_left
  · rw [decide_eq_false h, fk_f]
    have : right t = true := right_t.2 ⟨ho, fun s hs => by
      obtain ⟨j, hj, rfl⟩ := List.getElem_of_mem hs
      exact J1 j hj (by omega), List.pairwise_iff_getElem.2 fun i j hi hj hij => J2 i j hi hj hij (by omega)⟩
    rw [this]
  rw [decide_eq_true h, fk_t, ix_lt h]
  have hn := hnx h
  clear hnx
  generalize hs : t.Secs[k] = s at *
  by_cases hsec : secP t.C s
  rotate_left
  · have hr : right t = false := right_f.2 fun hr => hsec (hs ▸ hr.2.1 _ (List.getElem_mem h))
    by_cases c0 : s.Res < 0
    · rw [decide_eq_true c0, fk_t, hr]
    rw [decide_eq_false c0, fk_f]
    by_cases c1 : s.Res > 3
    · rw [decide_eq_true c1, fk_t, hr]
    rw [decide_eq_false c1, fk_f]
    by_cases c2 : s.At < 0
    · rw [decide_eq_true c2, fk_t, hr]
    rw [decide_eq_false c2, fk_f]
    by_cases c3 : s.Len < 1
    · rw [decide_eq_true c3, fk_t, hr]
    rw [decide_eq_false c3, fk_f]
    by_cases c4 : s.At > t.C
    · rw [decide_eq_true c4, fk_t, hr]
    rw [decide_eq_false c4, fk_f]
    by_cases c5 : s.Len > t.C
    · rw [decide_eq_true c5, fk_t, hr]
    rw [decide_eq_false c5, fk_f]
    have hw : wr (s.At + s.Len) = s.At + s.Len := wr_in _ (by omega)
    rw [hw]
    by_cases c6 : s.At + s.Len > t.C
    · rw [decide_eq_true c6, fk_t, hr]
    exact absurd (by unfold secP; omega) hsec
  have hsec' := hsec
  unfold secP at hsec'
  have hw : wr (s.At + s.Len) = s.At + s.Len := wr_in _ (by omega)
  rw [hw]
  rw [decide_eq_false (by omega), fk_f, decide_eq_false (by omega), fk_f, decide_eq_false (by omega), fk_f, decide_eq_false (by omega), fk_f, decide_eq_false (by omega), fk_f, decide_eq_false (by omega), fk_f, decide_eq_false (by omega), fk_f]
  refine lp_up k (by unfold FU; omega) (fun j => ∀ i (hi : i < t.Secs.length), i < j → fitsP t.Secs[i] s) (fun i _ h => by omega) ?_
  intro nx2 j hj J3 hnx2
  rw [lt_nat]
  by_cases h2 : j < k
  rotate_left
  · have hjk : j = k := by omega
    subst hjk
    rw [decide_eq_false h2, fk_f, wr_succ j _ h (by omega)]
    refine hn ⟨fun i hi hij => ?_, fun a b ha hb hab hbj => ?_⟩
    · by_cases e : i = j
      · subst e; rw [hs]; exact hsec
      · exact J1 i hi (by omega)
    · by_cases e : b = j
      · subst e; rw [hs]; exact J3 a ha hab
      · exact J2 a b ha hb hab (by omega)
  have hjl : j < t.Secs.length := by omega
  rw [decide_eq_true h2, fk_t, ix_lt hjl]
  have ha := J1 j hjl h2
  have good : fitsP t.Secs[j] s → nx2 (wr ((j : Int) + 1)) = some (right t) := fun hf => by
    rw [wr_succ j k h2 (by omega)]
    refine hnx2 h2 fun i hi hij => ?_
    by_cases e : i = j
    · subst e; exact hf
    · exact J3 i hi (by omega)
  have bad : ¬ fitsP t.Secs[j] s → some false = some (right t) := fun hf => by
    rw [right_f.2 fun hr => hf (hs ▸ List.pairwise_iff_getElem.1 hr.2.2 j k hjl h h2)]
  generalize t.Secs[j] = a at *
  unfold secP at ha
  have hwa : wr (a.At + a.Len) = a.At + a.Len := wr_in _ (by omega)
  rw [hwa]
  have ticks : a.At ≤ s.At → lp (fun nx8 (v8 : Int × Int × Int) => fk (decide (v8.2.2 < s.At + s.Len)) (fk (decide (v8.2.2 < a.At + a.Len)) (nx8 (wr (v8.1 + 1), v8.2.1, wr (v8.2.2 + 1))) (nx8 (v8.1, wr (v8.2.1 + 1), wr (v8.2.2 + 1))))
      (fk (decide (v8.1 > 0)) (fk (decide (v8.2.1 > 0)) (some false) (fk (decide (a.Res = s.Res)) (some false) (nx2 (wr ((j : Int) + 1))))) (nx2 (wr ((j : Int) + 1))))) FU (0, 0, s.At) = some (right t) := by
    intro hle
    refine lp_inv (fun v => (s.At + s.Len - v.2.2).toNat) (fun v => s.At ≤ v.2.2 ∧ v.2.2 ≤ s.At + s.Len ∧ v.1 = max 0 (min v.2.2 (a.At + a.Len) - s.At) ∧ v.2.1 = v.2.2 - s.At - v.1) ?_ FU _ ⟨by simp, by simp; omega, by simp; omega, by simp⟩ (by simp only [FU]; omega)
    rintro nx8 ⟨m, o, q⟩ ⟨i1, i2, i3, i4⟩ hn8
    simp only at i1 i2 i3 i4
    by_cases c1 : q < s.At + s.Len
    · rw [decide_eq_true c1, fk_t]
      by_cases c2 : q < a.At + a.Len
      · rw [decide_eq_true c2, fk_t, wr_in (m + 1) (by omega), wr_in (q + 1) (by omega)]
        exact hn8 _ ⟨by simp only; omega, by simp only; omega, by simp only; omega, by simp only; omega⟩ (by simp only; omega)
      · rw [decide_eq_false c2, fk_f, wr_in (o + 1) (by omega), wr_in (q + 1) (by omega)]
        exact hn8 _ ⟨by simp only; omega, by simp only; omega, by simp only; omega, by simp only; omega⟩ (by simp only; omega)
    · rw [decide_eq_false c1, fk_f]
      by_cases c3 : m > 0
      · rw [decide_eq_true c3, fk_t]
        by_cases c4 : o > 0
        · rw [decide_eq_true c4, fk_t]; exact bad (by unfold fitsP; omega)
        · rw [decide_eq_false c4, fk_f]
          by_cases c5 : a.Res = s.Res
          · rw [decide_eq_true c5, fk_t]; exact bad (by unfold fitsP; omega)
          · rw [decide_eq_false c5, fk_f]; exact good (by unfold fitsP; omega)
      · rw [decide_eq_false c3, fk_f]; exact good (by unfold fitsP; omega)
  by_cases d1 : s.At < a.At
  · rw [decide_eq_true d1, fk_t]; exact bad (by unfold fitsP; omega)
  · rw [decide_eq_false d1, fk_f]
    by_cases d2 : s.At = a.At
    · rw [decide_eq_true d2, fk_t]
      by_cases d3 : s.Len > a.Len
      · rw [decide_eq_true d3, fk_t]; exact bad (by unfold fitsP; omega)
      · rw [decide_eq_false d3, fk_f]; exact ticks (by omega)
    · rw [decide_eq_false d2, fk_f]; exact ticks (by omega)


theorem eqI_sec (x y : Sec) : eqI [.i .i64 x.Res, .i .i64 x.At, .i .i64 x.Len] [.i .i64 y.Res, .i .i64 y.At, .i .i64 y.Len] = decide (x = y) := by
  unfold eqI
  rw [decide_eq_decide]
  cases x; cases y; simp

theorem ref05_All_eq (l : List Task) (hl : l.length ≤ 4611686018427387904) (hs : ∀ t ∈ l, t.Secs.length ≤ 4611686018427387904) : ref05_All l = some (decide (AllP l)) := by
  unfold ref05_All
  refine lp_upS l.length (by unfold FU; omega) (fun k n => ∃ m : Nat, n = (m : Int) ∧ m ≤ k ∧ ((m = k) ↔ ∀ j (h : j < l.length), j < k → RightP l[j])) 0 ⟨0, rfl, Nat.le_refl _, by simp⟩ ?_
  rintro nx k n hk ⟨m, rfl, hm, J⟩ hnx
  rw [lt_nat]
  by_cases h : k < l.length
  · rw [decide_eq_true h, fk_t, jn_eq, ix_lt h, bnd_eq (ref05_Right_eq _ (hs _ (List.getElem_mem h)))]
    rw [wr_succ k _ h hl, wr_in ((m : Int) + 1) (by omega)]
    by_cases hr : RightP l[k]
    · rw [right_t.2 hr, fk_t]
      refine hnx _ h ⟨m + 1, rfl, by omega, ?_⟩
      constructor
      · intro e j hj hjk
        by_cases e2 : j = k
        · subst e2; exact hr
        · exact J.1 (by omega) j hj (by omega)
      · intro ha
        have := J.2 fun j hj hjk => ha j hj (by omega)
        omega
    · rw [right_f.2 hr, fk_f]
      refine hnx _ h ⟨m, rfl, by omega, ?_⟩
      constructor
      · intro e; omega
      · intro ha; exact absurd (ha k h (by omega)) hr
  · have hkl : k = l.length := by omega
    subst hkl
    rw [decide_eq_false h, fk_f]
    have key : (m = l.length) ↔ ∀ t ∈ l, RightP t := by
      rw [J]
      constructor
      · intro ha t ht
        obtain ⟨j, hj, rfl⟩ := List.getElem_of_mem ht
        exact ha j hj hj
      · intro ha j hj _; exact ha _ (List.getElem_mem hj)
    by_cases e : m = l.length
    · rw [decide_eq_true (by omega), fk_t]
      exact dec_iff ⟨fun h8 => ⟨key.1 e, by omega⟩, fun ha => by have := ha.2; omega⟩
    · rw [decide_eq_false (by omega), fk_f]
      exact dec_f fun ha => e (key.2 ha.1)

theorem secs_eq {a b : Task} : a = b ↔ a.C = b.C ∧ a.D = b.D ∧ a.T = b.T ∧ a.Secs = b.Secs := by
  cases a; cases b; simp

def GreatP (l : List Task) : Prop := (∃ t ∈ l, 20 < t.Secs.length) ∨ 20 < l.length
instance (l : List Task) : Decidable (GreatP l) := by unfold GreatP; infer_instance
theorem law05_Great_eq (l : List Task) (hl : l.length ≤ 4611686018427387904) : law05_Great l = some (decide (GreatP l)) := by
  unfold law05_Great
  refine lp_up l.length (by unfold FU; omega) (fun k => ∀ j (h : j < l.length), j < k → l[j].Secs.length ≤ 20) (fun j _ h => by omega) ?_
  intro nx k hk J hnx
  rw [lt_nat]
  by_cases h : k < l.length
  · rw [decide_eq_true h, fk_t, ix_lt h]
    by_cases e : (l[k].Secs.length : Int) > 20
    · rw [decide_eq_true e, fk_t]; exact dec_t (.inl ⟨_, List.getElem_mem h, by omega⟩)
    · rw [decide_eq_false e, fk_f, wr_succ k _ h hl]
      refine hnx h fun j hj hjk => ?_
      by_cases e2 : j = k
      · subst e2; omega
      · exact J j hj (by omega)
  · rw [decide_eq_false h, fk_f]
    refine dec_iff ⟨fun h20 => .inr (by omega), ?_⟩
    rintro (⟨t, ht, h20⟩ | h20)
    · obtain ⟨j, hj, rfl⟩ := List.getElem_of_mem ht
      have := J j hj (by omega)
      omega
    · omega

theorem wf_len {l : List Task} {n : Nat} (h : l.length * 48 ≤ n) (hn : n ≤ BB) : l.length ≤ 4611686018427387904 := by unfold BB at hn; omega
theorem Task.wf.len {t : Task} (h : t.wf) : t.Secs.length ≤ 4611686018427387904 := by have := h.2.2.2.1; unfold BB at this; omega
theorem wfI_64 {n : Int} (h : wfI .i64 n) : -9223372036854775808 ≤ n ∧ n ≤ 9223372036854775807 := by
  unfold wfI at h
  simp only [Lit.wf, Bool.and_eq_true, decide_eq_true_eq] at h
  have h1 : IntKind.i64.min = -9223372036854775808 := rfl
  have h2 : IntKind.i64.max = 9223372036854775807 := rfl
  rwa [h1, h2] at h
theorem wfI_8 {n : Int} (h : wfI .u8 n) : 0 ≤ n ∧ n ≤ 255 := by
  unfold wfI at h
  simp only [Lit.wf, Bool.and_eq_true, decide_eq_true_eq] at h
  have h1 : IntKind.u8.min = 0 := rfl
  have h2 : IntKind.u8.max = 255 := rfl
  rwa [h1, h2] at h


theorem held_right {t : Task} (h : RightP t) (had : Int) : held t had = heldL had t.Secs := by rw [held, right_t.2 h, if_pos rfl]
theorem held_len (t : Task) (had : Int) (h : RightP t) : (held t had).length ≤ 4 := by
  rw [held_right h]; exact Nat.le_trans (heldL_len _ _) h.len
theorem holds_iff {had : Int} {s : Sec} : holds had s = true ↔ s.At < had ∧ had < s.At + s.Len := by
  unfold holds; simp
theorem held_nodup {t : Task} (h : RightP t) (had : Int) : (held t had).Nodup := by
  rw [held_right h, heldL, List.Nodup, List.pairwise_map]
  have hp := (h.2.2).filter (holds had)
  refine hp.imp_of_mem ?_
  intro a b ha hb hf
  have h1 := holds_iff.1 (List.mem_filter.1 ha).2
  have h2 := holds_iff.1 (List.mem_filter.1 hb).2
  unfold fitsP at hf
  omega
theorem held_mem {t : Task} (h : RightP t) {had r : Int} (hr : r ∈ held t had) : ∃ s ∈ t.Secs, s.Res = r ∧ s.At < had ∧ had < s.At + s.Len := by
  rw [held_right h, heldL] at hr
  obtain ⟨s, hs, rfl⟩ := List.mem_map.1 hr
  obtain ⟨h1, h2⟩ := List.mem_filter.1 hs
  exact ⟨s, h1, rfl, holds_iff.1 h2⟩
theorem held_uses {t : Task} (h : RightP t) {had r : Int} (hr : r ∈ held t had) : usesP t r := by
  obtain ⟨s, hs, e, _⟩ := held_mem h hr
  exact ⟨h, s, hs, e⟩
theorem held_out {t : Task} (h : RightP t) {had : Int} (ho : had ≤ 0 ∨ t.C ≤ had) : held t had = [] := by
  rw [List.eq_nil_iff_forall_not_mem]
  intro r hr
  obtain ⟨s, hs, e, h1, h2⟩ := held_mem h hr
  have := h.2.1 s hs
  unfold secP at this
  omega

theorem idx_u8 {l : List Task} {a : Int} (ha : wfI .u8 a) (hl : l.length ≤ 4611686018427387904) (h0 : l.length ≠ 0) : 0 ≤ (IntKind.i64.wrap a).tmod (l.length : Int) ∧ ((IntKind.i64.wrap a).tmod (l.length : Int)).toNat < l.length := by
  have := wfI_8 ha
  have e : IntKind.i64.wrap a = a := wr_in a (by omega)
  rw [e, Int.tmod_eq_emod_of_nonneg (by omega)]
  have h1 := Int.emod_nonneg a (b := (l.length : Int)) (by omega)
  have h2 := Int.emod_lt_of_pos a (b := (l.length : Int)) (by omega)
  omega
theorem knows_if (b : Bool) : fk b (some true) (some true) = some true := by cases b <;> rfl


/-! ### Levels -/
def maxL {α : Type} (f : α → Nat) : List α → Nat
  | [] => 0
  | x :: r => max (f x) (maxL f r)
theorem maxL_append {α : Type} (f : α → Nat) (a b : List α) : maxL f (a ++ b) = max (maxL f a) (maxL f b) := by
  induction a with
  | nil => simp [maxL]
  | cons x r ih => simp only [List.cons_append, maxL, ih]; omega
theorem maxL_le {α : Type} {f : α → Nat} {l : List α} {n : Nat} : maxL f l ≤ n ↔ ∀ x ∈ l, f x ≤ n := by
  induction l with
  | nil => simp [maxL]
  | cons x r ih => simp only [maxL, List.mem_cons, forall_eq_or_imp, ← ih]; omega
theorem le_maxL {α : Type} {f : α → Nat} {l : List α} {x : α} (h : x ∈ l) : f x ≤ maxL f l := maxL_le.1 (Nat.le_refl _) x h
theorem maxL_succ {α : Type} (f : α → Nat) (l : List α) (k : Nat) (h : k < l.length) : maxL f (l.take (k + 1)) = max (maxL f (l.take k)) (f l[k]) := by
  rw [← List.take_append_getElem h, maxL_append]; simp [maxL]
theorem maxL_zero {α : Type} {f : α → Nat} {l : List α} (h : ∀ x ∈ l, f x = 0) : maxL f l = 0 := Nat.le_zero.1 (maxL_le.2 fun x hx => by rw [h x hx]; exact Nat.le_refl _)
theorem maxL_perm {α : Type} {f : α → Nat} {a b : List α} (h : ∀ x, x ∈ a ↔ x ∈ b) : maxL f a = maxL f b :=
  Nat.le_antisymm (maxL_le.2 fun x hx => le_maxL ((h x).1 hx)) (maxL_le.2 fun x hx => le_maxL ((h x).2 hx))
theorem max_int (a b : Nat) : (if (a : Int) > (b : Int) then (a : Int) else (b : Int)) = ((max b a : Nat) : Int) := by split <;> omega

def levelN (l : List Task) (D : Int) : Nat := 1 + l.countP (fun x => decide (x.D > D))
theorem countP_succ {α : Type} (p : α → Bool) (l : List α) (k : Nat) (h : k < l.length) : (l.take (k + 1)).countP p = (l.take k).countP p + (if p l[k] = true then 1 else 0) := by
  rw [← List.take_append_getElem h, List.countP_append, List.countP_singleton]
theorem level_level_eq (l : List Task) (t : Task) (hl : l.length ≤ 4611686018427387904) : level_level l t = some (levelN l t.D : Int) := by
  unfold level_level
  refine lp_upS l.length (by unfold FU; omega) (fun k n => n = ((1 + (l.take k).countP (fun x => decide (x.D > t.D)) : Nat) : Int)) 1 rfl ?_
  rintro nx k n hk rfl hnx
  simp only [jn_eq]
  rw [lt_nat]
  have hc := List.countP_le_length (p := fun x : Task => decide (x.D > t.D)) (l := l.take k)
  rw [List.length_take] at hc
  by_cases h : k < l.length
  · rw [decide_eq_true h, fk_t, ix_lt h, wr_succ k _ h hl, wr_in _ (by omega)]
    by_cases c : l[k].D > t.D
    · rw [decide_eq_true c, fk_t]
      refine hnx _ h ?_
      rw [countP_succ _ _ _ h, if_pos (decide_eq_true c)]; omega
    · rw [decide_eq_false c, fk_f]
      refine hnx _ h ?_
      rw [countP_succ _ _ _ h, if_neg (by simp [c])]; rfl
  · rw [decide_eq_false h, fk_f]
    have : k = l.length := by omega
    rw [this, List.take_length]; rfl
def ofN (l : List Task) (i : Int) : Nat := if AllP l ∧ 0 ≤ i then (match l[i.toNat]? with | some t => levelN l t.D | none => 0) else 0
theorem ofN_lt {l : List Task} (ha : AllP l) {i : Int} (h0 : 0 ≤ i) (h : i.toNat < l.length) : ofN l i = levelN l l[i.toNat].D := by
  rw [ofN, if_pos ⟨ha, h0⟩, List.getElem?_eq_getElem h]
theorem level_Of_eq (l : List Task) (i : Int) (hl : l.length ≤ 4611686018427387904) : level_Of l i = some (ofN l i : Int) := by
  unfold level_Of
  simp only [jn_eq, fk_t]
  rw [bnd_eq (task_All_eq l hl)]
  by_cases ha : AllP l
  rotate_left
  · rw [decide_eq_false ha, Bool.not_false, fk_t, ofN, if_neg (fun h => ha h.1)]; rfl
  rw [decide_eq_true ha, Bool.not_true, fk_f]
  by_cases c1 : i < 0
  · rw [decide_eq_true c1, fk_t, ofN, if_neg (fun h => by omega)]; rfl
  rw [decide_eq_false c1, fk_f]
  by_cases c2 : i ≥ (l.length : Int)
  · rw [decide_eq_true c2, fk_t, ofN, List.getElem?_eq_none (by omega)]; simp
  rw [decide_eq_false c2, fk_f, ix_int (by omega) (by omega), bnd_eq (level_level_eq _ _ hl), ofN_lt ha (by omega)]
def ceilN (l : List Task) (res : Int) : Nat := maxL (fun t => if usesP t res then levelN l t.D else 0) l
def ceil (l : List Task) (res : Int) : Nat := if AllP l then ceilN l res else 0
theorem level_Ceiling_1_eq (t : Task) (res : Int) (l : List Task) (hl : l.length ≤ 4611686018427387904) : level_Ceiling_1 t res l = some ((if usesP t res then levelN l t.D else 0 : Nat) : Int) := by
  unfold level_Ceiling_1
  rw [bnd_eq (task_Uses_eq _ _)]
  by_cases h : usesP t res
  · rw [decide_eq_true h, Bool.not_true, fk_f, bnd_eq (level_level_eq _ _ hl), if_pos h]
  · rw [decide_eq_false h, Bool.not_false, fk_t, if_neg h]; rfl
theorem level_most_eq (l : List Task) (res : Int) (hl : l.length ≤ 4611686018427387904) : level_most_api_Task l res l = some (ceilN l res : Int) := by
  unfold level_most_api_Task
  refine lp_upS l.length (by unfold FU; omega) (fun k n => n = ((maxL (fun t => if usesP t res then levelN l t.D else 0) (l.take k) : Nat) : Int)) 0 rfl ?_
  rintro nx k n hk rfl hnx
  rw [lt_nat]
  by_cases h : k < l.length
  · rw [decide_eq_true h, fk_t, ix_lt h, bnd_eq (level_Ceiling_1_eq _ _ _ hl), wr_succ k _ h hl, max_int]
    exact hnx _ h (by rw [maxL_succ _ _ _ h])
  · rw [decide_eq_false h, fk_f]
    have : k = l.length := by omega
    rw [this, List.take_length]; rfl
theorem level_Ceiling_eq (l : List Task) (res : Int) (hl : l.length ≤ 4611686018427387904) : level_Ceiling l res = some (ceil l res : Int) := by
  unfold level_Ceiling
  rw [bnd_eq (task_All_eq l hl), ceil]
  by_cases ha : AllP l
  · rw [decide_eq_true ha, Bool.not_true, fk_f, bnd_eq (level_most_eq _ _ hl), if_pos ha]
  · rw [decide_eq_false ha, Bool.not_false, fk_t, if_neg ha]; rfl
def heldN (l : List Task) (h : List Int) : Nat := maxL (ceil l) h
theorem level_Held_eq (l : List Task) (h : List Int) (hl : l.length ≤ 4611686018427387904) (hh : h.length ≤ 4611686018427387904) : level_Held l h = some (heldN l h : Int) := by
  unfold level_Held
  have : level_most_int h l = some (heldN l h : Int) := by
    unfold level_most_int
    refine lp_upS h.length (by unfold FU; omega) (fun k n => n = ((maxL (ceil l) (h.take k) : Nat) : Int)) 0 rfl ?_
    rintro nx k n hk rfl hnx
    rw [lt_nat]
    by_cases c : k < h.length
    · rw [decide_eq_true c, fk_t, ix_lt c, level_Held_1, bnd_eq (level_Ceiling_eq l _ hl), bnd_some, wr_succ k _ c hh, max_int]
      exact hnx _ c (by rw [maxL_succ _ _ _ c])
    · rw [decide_eq_false c, fk_f]
      have : k = h.length := by omega
      rw [this, List.take_length]; rfl
  rw [bnd_eq this]
theorem level_Passes_eq (l : List Task) (i : Int) (h : List Int) (hl : l.length ≤ 4611686018427387904) (hh : h.length ≤ 4611686018427387904) : level_Passes l i h = some (decide (heldN l h < ofN l i)) := by
  unfold level_Passes
  rw [bnd_eq (level_Of_eq l i hl), bnd_eq (level_Held_eq l h hl hh)]
  exact dec_iff (by omega)

/-! The document's. -/
theorem ref05_Uses_eq (t : Task) (res : Int) (hl : t.Secs.length ≤ 4611686018427387904) : ref05_Uses t res = some (decide (∃ s ∈ t.Secs, s.Res = res)) := by
  unfold ref05_Uses
  refine lp_upS t.Secs.length (by unfold FU; omega) (fun k n => ∃ m : Nat, n = (m : Int) ∧ m ≤ k ∧ (0 < m ↔ ∃ j, ∃ h : j < t.Secs.length, j < k ∧ t.Secs[j].Res = res)) 0 ⟨0, rfl, Nat.le_refl _, by simp⟩ ?_
  rintro nx k n hk ⟨m, rfl, hm, J⟩ hnx
  simp only [jn_eq]
  rw [lt_nat]
  by_cases h : k < t.Secs.length
  · rw [decide_eq_true h, fk_t, ix_lt h, wr_succ k _ h hl, wr_in _ (by omega)]
    by_cases c : t.Secs[k].Res = res
    · rw [decide_eq_true c, fk_t]
      exact hnx _ h ⟨m + 1, rfl, by omega, ⟨fun _ => ⟨k, h, by omega, c⟩, fun _ => by omega⟩⟩
    · rw [decide_eq_false c, fk_f]
      refine hnx _ h ⟨m, rfl, by omega, J.trans ⟨fun ⟨j, hj, hjk, e⟩ => ⟨j, hj, by omega, e⟩, fun ⟨j, hj, hjk, e⟩ => ⟨j, hj, ?_, e⟩⟩⟩
      by_cases e2 : j = k
      · subst e2; exact absurd e c
      · omega
  · rw [decide_eq_false h, fk_f]
    refine dec_iff ?_
    have : ((m : Int) > 0) ↔ 0 < m := by omega
    rw [this, J]
    constructor
    · rintro ⟨j, hj, _, e⟩; exact ⟨_, List.getElem_mem hj, e⟩
    · rintro ⟨s, hs, e⟩
      obtain ⟨j, hj, rfl⟩ := List.getElem_of_mem hs
      exact ⟨j, hj, by omega, e⟩
theorem ref06_Of_eq (l : List Task) (i : Int) (hl : l.length ≤ 4611686018427387904) (ha : AllP l) (h0 : 0 ≤ i) (hi : i.toNat < l.length) : ref06_Of l i = some (ofN l i : Int) := by
  unfold ref06_Of
  rw [ofN_lt ha h0 hi]
  refine lp_upS l.length (by unfold FU; omega) (fun k n => n = (((l.take k).countP (fun x => decide (x.D > l[i.toNat].D)) : Nat) : Int)) 0 rfl ?_
  rintro nx k n hk rfl hnx
  simp only [jn_eq]
  rw [lt_nat]
  have hc := List.countP_le_length (p := fun x : Task => decide (x.D > l[i.toNat].D)) (l := l.take k)
  rw [List.length_take] at hc
  by_cases h : k < l.length
  · rw [decide_eq_true h, fk_t, ix_lt h, ix_int h0 hi, wr_succ k _ h hl, wr_in _ (by omega)]
    by_cases c : l[k].D > l[i.toNat].D
    · rw [decide_eq_true c, fk_t]
      refine hnx _ h ?_
      rw [countP_succ _ _ _ h, if_pos (decide_eq_true c)]; omega
    · rw [decide_eq_false c, fk_f]
      refine hnx _ h ?_
      rw [countP_succ _ _ _ h, if_neg (by simp [c])]; rfl
  · rw [decide_eq_false h, fk_f]
    have : k = l.length := by omega
    rw [wr_in _ (by omega), this, List.take_length, levelN]; congr 1; omega
theorem AllP.len {l : List Task} (h : AllP l) : l.length ≤ 4611686018427387904 := by have := h.2; omega
theorem AllP.slen {l : List Task} (h : AllP l) {t : Task} (ht : t ∈ l) : t.Secs.length ≤ 4611686018427387904 := by have := (h.1 t ht).len; omega
theorem ref06_Ceiling_eq (l : List Task) (res : Int) (ha : AllP l) : ref06_Ceiling l res = some (ceil l res : Int) := by
  unfold ref06_Ceiling
  rw [ceil, if_pos ha]
  refine lp_upS l.length (by have := ha.2; unfold FU; omega) (fun k n => n = ((maxL (fun t => if usesP t res then levelN l t.D else 0) (l.take k) : Nat) : Int)) 0 rfl ?_
  rintro nx k n hk rfl hnx
  simp only [jn_eq]
  rw [lt_nat]
  by_cases h : k < l.length
  · have hof := ref06_Of_eq l (k : Int) ha.len ha (by omega) (by simpa using h)
    rw [ofN_lt ha (by omega) (by simpa using h)] at hof
    simp only [Int.toNat_natCast] at hof
    have hu : (∃ s ∈ l[k].Secs, s.Res = res) ↔ usesP l[k] res := ⟨fun e => ⟨ha.1 _ (List.getElem_mem h), e⟩, fun e => e.2⟩
    rw [decide_eq_true h, fk_t, ix_lt h, bnd_eq (ref05_Uses_eq _ _ (ha.slen (List.getElem_mem h))), wr_succ k _ h ha.len, bnd_eq hof, bnd_eq hof, decide_eq_decide.2 hu]
    have hm := maxL_succ (fun t => if usesP t res then levelN l t.D else 0) l k h
    by_cases c : usesP l[k] res
    · rw [if_pos c] at hm
      rw [decide_eq_true c, fk_t]
      by_cases c2 : ((levelN l l[k].D : Nat) : Int) > ((maxL (fun t => if usesP t res then levelN l t.D else 0) (l.take k) : Nat) : Int)
      · rw [decide_eq_true c2, fk_t]; exact hnx _ h (by rw [hm]; omega)
      · rw [decide_eq_false c2, fk_f]; exact hnx _ h (by rw [hm]; omega)
    · rw [if_neg c] at hm
      rw [decide_eq_false c, fk_f, fk_f]; exact hnx _ h (by rw [hm]; omega)
  · rw [decide_eq_false h, fk_f]
    have : k = l.length := by omega
    rw [this, List.take_length]; rfl
theorem ref06_Held_eq (l : List Task) (h : List Int) (ha : AllP l) (hh : h.length ≤ 4611686018427387904) : ref06_Held l h = some (heldN l h : Int) := by
  unfold ref06_Held
  refine lp_upS h.length (by unfold FU; omega) (fun k n => n = ((maxL (ceil l) (h.take k) : Nat) : Int)) 0 rfl ?_
  rintro nx k n hk rfl hnx
  simp only [jn_eq]
  rw [lt_nat]
  by_cases c : k < h.length
  · rw [decide_eq_true c, fk_t, ix_lt c, bnd_eq (ref06_Ceiling_eq l _ ha), wr_succ k _ c hh, ix_lt c, bnd_eq (ref06_Ceiling_eq l _ ha)]
    have hm := maxL_succ (ceil l) h k c
    by_cases c2 : ((ceil l h[k] : Nat) : Int) > ((maxL (ceil l) (h.take k) : Nat) : Int)
    · rw [decide_eq_true c2, fk_t]; exact hnx _ c (by rw [hm]; omega)
    · rw [decide_eq_false c2, fk_f]; exact hnx _ c (by rw [hm]; omega)
  · rw [decide_eq_false c, fk_f]
    have : k = h.length := by omega
    rw [this, List.take_length]; rfl
theorem wf_ilen {l : List Int} (h : l.length * 8 ≤ BB) : l.length ≤ 4611686018427387904 := by unfold BB at h; omega

end Go.Proofs.Ytkhebjkplmidnaa
namespace Go.Proofs.Ytkhebjkplmidnaa
open Go Go.VC
noncomputable def law14_Great (a0 : List Task) (a1 : List Job) : Option Bool :=
  bnd (law05_Great a0) fun x1 => fk x1 (some true) (some (decide ((a1.length : Int) > (50 : Int))))
theorem law14_Great_w (a0 : List Task) (a1 : List Job) (r : Bool) (h : law14_Great a0 a1 = some r) : Go.VC.Spec Try.prog 26 [.d (.sl (a0.map Task.enc)), .d (.sl (a1.map Job.enc))] (fun y => y = E_Bool r) := by
  refine Go.VC.Spec.of_xc (args := [.d (.sl (a0.map Task.enc)), .d (.sl (a1.map Job.enc))]) (fn := Try.f26) tab ⟨[(0, [0, 1]), (1, [4])], [], [], []⟩ 12 [.tmp 4] rfl rfl rfl rfl rfl rfl ?_
  refine caS (E := E_Bool) h (law05_Great_w a0) rfl (fun _ => rfl) (fun x1 h => ?_)
  refine fkS h (fun h => ?_) (fun h => ?_)
  · exact rt (E := E_Bool) h rfl
  refine lenS a1 Job.enc rfl ?_
  exact rt (E := E_Bool) h rfl

end Go.Proofs.Ytkhebjkplmidnaa
namespace Go.Proofs.Ytkhebjkplmidnaa
open Go Go.VC
noncomputable def job_right (a0 : List Task) (a1 : Job) : Option Bool :=
  jn (fun (w1 : Bool) => fk w1 (some false) (ix a0 a1.Task fun x2 => fk (decide (a1.Due = (wr (a1.At + x2.D)))) (fk (decide (a1.Want ≥ (1 : Int))) (fk (decide (a1.Want ≤ (200 : Int))) (fk (decide (a1.Had ≥ (0 : Int))) (fk (decide (a1.Had < (if a1.Want < x2.C then a1.Want else x2.C))) (fk a1.Began (some true) (some (decide (a1.Had = (0 : Int))))) (some false)) (some false)) (some false)) (some false)) (some false))) (fun k1 => fk (decide (a1.Task < (0 : Int))) (k1 true) (fk (decide (a1.Task ≥ (a0.length : Int))) (k1 true) (fk (decide (a1.At < (0 : Int))) (k1 true) (k1 (decide (a1.At > (4611686018427387703 : Int)))))))
theorem job_right_w (a0 : List Task) (a1 : Job) (r : Bool) (h : job_right a0 a1 = some r) : Go.VC.Spec Try.prog 60 [.d (.sl (a0.map Task.enc)), .agg (Job.enc a1)] (fun y => y = E_Bool r) := by
  refine Go.VC.Spec.of_xc (args := [.d (.sl (a0.map Task.enc)), .agg (Job.enc a1)]) (fn := Try.f60) tab ⟨[(0, [0, 3]), (1, [0, 3, 25]), (2, [4]), (3, [3, 5]), (4, [4])], [], [100025], []⟩ 73 [.tmp 4] rfl rfl rfl rfl rfl rfl ?_
  refine jnS (fun w1 => ⟨[(0, .l (.d (.sl (a0.map Task.enc)))), (3, .l (.ptr 4 0)), (25, .l (.d (.bool w1)))], 73, [], [(4, [.d (.int .i64 a1.Task), .d (.int .i64 a1.At), .d (.int .i64 a1.Due), .d (.int .i64 a1.Want), .d (.int .i64 a1.Had), .d (.bool a1.Began)])], []⟩) h (fun k1 hk1 h => ?_) (fun w1 h => ?_)
  · refine fkS h (fun h => ?_) (fun h => ?_)
    · exact jeS hk1 h (Weak.refl _)
    refine lenS a0 Task.enc rfl ?_
    refine fkS h (fun h => ?_) (fun h => ?_)
    · exact jeS hk1 h (Weak.refl _)
    refine fkS h (fun h => ?_) (fun h => ?_)
    · exact jeS hk1 h (Weak.refl _)
    exact jeS hk1 h (Weak.refl _)
  refine fkS h (fun h => ?_) (fun h => ?_)
  · exact rt (E := E_Bool) h rfl
  refine ixS (enc := Task.enc) h rfl (fun _ => rfl) (fun x2 h => ?_)
  refine fkS h (fun h => ?_) (fun h => ?_)
  · refine fkS h (fun h => ?_) (fun h => ?_)
    · refine fkS h (fun h => ?_) (fun h => ?_)
      · refine fkS h (fun h => ?_) (fun h => ?_)
        · refine fkS h (fun h => ?_) (fun h => ?_)
          · refine fkS h (fun h => ?_) (fun h => ?_)
            · exact rt (E := E_Bool) h rfl
            exact rt (E := E_Bool) h rfl
          exact rt (E := E_Bool) h rfl
        exact rt (E := E_Bool) h rfl
      exact rt (E := E_Bool) h rfl
    exact rt (E := E_Bool) h rfl
  exact rt (E := E_Bool) h rfl

end Go.Proofs.Ytkhebjkplmidnaa
namespace Go.Proofs.Ytkhebjkplmidnaa
open Go Go.VC
noncomputable def job_All (a0 : List Task) (a1 : List Job) : Option Bool :=
  jn (fun (w1 : Bool) => fk w1 (some false) (lp (fun nx3 (v3 : Int) => fk (decide (v3 < (a1.length : Int))) (ix a1 v3 fun x4 => bnd (job_right a0 x4) fun x5 => fk (!x5) (some false) (ck (decide ((0 : Int) ≤ (0 : Int)) && decide ((0 : Int) ≤ v3) && decide (v3 ≤ (a1.length : Int))) (lp (fun nx6 (v6 : Int) => fk (decide (v6 < (((a1.take v3.toNat).drop (0 : Int).toNat).length : Int))) (ix ((a1.take v3.toNat).drop (0 : Int).toNat) v6 fun x7 => jn (fun (w8 : Bool) => fk w8 (some false) (nx6 (wr (v6 + (1 : Int))))) (fun k8 => fk (decide (x4.Task = x7.Task)) (k8 (decide (x4.At = x7.At))) (k8 false))) (nx3 (wr (v3 + (1 : Int))))) FU (0 : Int)))) (some true)) FU (0 : Int))) (fun k1 => bnd (task_All a0) fun x2 => fk (!x2) (k1 true) (k1 (decide ((a1.length : Int) > (32 : Int)))))
theorem job_All_w (a0 : List Task) (a1 : List Job) (r : Bool) (h : job_All a0 a1 = some r) : Go.VC.Spec Try.prog 48 [.d (.sl (a0.map Task.enc)), .d (.sl (a1.map Job.enc))] (fun y => y = E_Bool r) := by
  refine Go.VC.Spec.of_xc (args := [.d (.sl (a0.map Task.enc)), .d (.sl (a1.map Job.enc))]) (fn := Try.f48) tab ⟨[(0, [0, 1]), (1, [0, 1, 16]), (2, [4]), (3, [0, 1, 17, 18, 19]), (4, [0, 1, 17, 18, 19, 20]), (5, [0, 1, 5, 6, 17, 18, 19]), (6, [0, 1, 5, 6, 17, 18, 19, 27]), (7, [4]), (8, [0, 1, 6, 17, 18, 19, 30, 31, 32]), (9, [0, 1, 6, 17, 18, 19, 30, 31, 32, 33]), (10, [0, 1, 6, 8, 17, 18, 19, 30, 31, 32]), (11, [0, 1, 6, 17, 18, 19, 30, 31, 32, 47]), (12, [4]), (13, [0, 1, 6, 17, 18, 19, 30, 31, 32]), (14, [0, 1, 17, 18, 19]), (15, [4])], [], [100016, 100047], []⟩ 50 [.tmp 4] rfl rfl rfl rfl rfl rfl ?_
  refine jnS (fun w1 => ⟨[(0, .l (.d (.sl (a0.map Task.enc)))), (1, .l (.d (.sl (a1.map Job.enc)))), (16, .l (.d (.bool w1)))], 50, [], [], []⟩) h (fun k1 hk1 h => ?_) (fun w1 h => ?_)
  · refine caS (E := E_Bool) h (task_All_w a0) rfl (fun _ => rfl) (fun x2 h => ?_)
    refine fkS h (fun h => ?_) (fun h => ?_)
    · exact jeS hk1 h (Weak.refl _)
    refine lenS a1 Job.enc rfl ?_
    exact jeS hk1 h (Weak.refl _)
  refine fkS h (fun h => ?_) (fun h => ?_)
  · exact rt (E := E_Bool) h rfl
  refine lenS a1 Job.enc rfl ?_
  refine lpS (fun v3 => ⟨[(0, .l (.d (.sl (a0.map Task.enc)))), (1, .l (.d (.sl (a1.map Job.enc)))), (17, .l (.d (.sl (a1.map Job.enc)))), (18, .l (.d (.int .i64 (a1.length : Int)))), (19, .l (.d (.int .i64 v3)))], 50, [], [], []⟩) h (Weak.refl _) (fun _ nx3 hn3 v3 h => ?_)
  refine fkS h (fun h => ?_) (fun h => ?_)
  · refine ixS (enc := Job.enc) h rfl (fun _ => rfl) (fun x4 h => ?_)
    refine caS (E := E_Bool) h (job_right_w a0 x4) rfl (fun _ => rfl) (fun x5 h => ?_)
    refine fkS h (fun h => ?_) (fun h => ?_)
    · exact rt (E := E_Bool) h rfl
    refine slS (enc := Job.enc) h rfl rfl (.inl rfl) (fun _ => rfl) (fun h => ?_)
    refine lenS ((a1.take v3.toNat).drop (0 : Int).toNat) Job.enc rfl ?_
    refine lpS (fun v6 => ⟨[(0, .l (.d (.sl (a0.map Task.enc)))), (1, .l (.d (.sl (a1.map Job.enc)))), (6, .l (.ptr 7 0)), (17, .l (.d (.sl (a1.map Job.enc)))), (18, .l (.d (.int .i64 (a1.length : Int)))), (19, .l (.d (.int .i64 v3))), (30, .l (.d (.sl (((a1.take v3.toNat).drop (0 : Int).toNat).map Job.enc)))), (31, .l (.d (.int .i64 (((a1.take v3.toNat).drop (0 : Int).toNat).length : Int)))), (32, .l (.d (.int .i64 v6)))], 50, [], [(7, [.d (.int .i64 x4.Task), .d (.int .i64 x4.At), .d (.int .i64 x4.Due), .d (.int .i64 x4.Want), .d (.int .i64 x4.Had), .d (.bool x4.Began)])], []⟩) h (Weak.refl _) (fun _ nx6 hn6 v6 h => ?_)
    refine fkS h (fun h => ?_) (fun h => ?_)
    · refine ixS (enc := Job.enc) h rfl (fun _ => rfl) (fun x7 h => ?_)
      refine jnS (fun w8 => ⟨[(0, .l (.d (.sl (a0.map Task.enc)))), (1, .l (.d (.sl (a1.map Job.enc)))), (6, .l (.ptr 7 0)), (17, .l (.d (.sl (a1.map Job.enc)))), (18, .l (.d (.int .i64 (a1.length : Int)))), (19, .l (.d (.int .i64 v3))), (30, .l (.d (.sl (((a1.take v3.toNat).drop (0 : Int).toNat).map Job.enc)))), (31, .l (.d (.int .i64 (((a1.take v3.toNat).drop (0 : Int).toNat).length : Int)))), (32, .l (.d (.int .i64 v6))), (47, .l (.d (.bool w8)))], 50, [], [(7, [.d (.int .i64 x4.Task), .d (.int .i64 x4.At), .d (.int .i64 x4.Due), .d (.int .i64 x4.Want), .d (.int .i64 x4.Had), .d (.bool x4.Began)])], []⟩) h (fun k8 hk8 h => ?_) (fun w8 h => ?_)
      · refine fkS h (fun h => ?_) (fun h => ?_)
        · exact jeS hk8 h (Weak.refl _)
        exact jeS hk8 h (Weak.refl _)
      refine fkS h (fun h => ?_) (fun h => ?_)
      · exact rt (E := E_Bool) h rfl
      exact leS hn6 h (Weak.refl _)
    exact leS hn3 h (Weak.refl _)
  exact rt (E := E_Bool) h rfl

end Go.Proofs.Ytkhebjkplmidnaa
namespace Go.Proofs.Ytkhebjkplmidnaa
open Go Go.VC
noncomputable def job_Held (a0 : List Task) (a1 : List Job) : Option (List Int) :=
  bnd (job_All a0 a1) fun x1 => fk (!x1) (some []) (lp (fun nx2 (v2 : (List Int) × Int) => fk (decide (v2.2 < (a1.length : Int))) (ix a1 v2.2 fun x3 => ix a0 x3.Task fun x4 => bnd (task_Held x4 x3.Had) fun x5 => ck (decide ((v2.1.length + x5.length) * 8 ≤ 140737488355328)) (nx2 (v2.1 ++ x5, (wr (v2.2 + (1 : Int)))))) (some v2.1)) FU ([], (0 : Int)))
theorem job_Held_w (a0 : List Task) (a1 : List Job) (r : List Int) (h : job_Held a0 a1 = some r) : Go.VC.Spec Try.prog 28 [.d (.sl (a0.map Task.enc)), .d (.sl (a1.map Job.enc))] (fun y => y = E_ListInt r) := by
  refine Go.VC.Spec.of_xc (args := [.d (.sl (a0.map Task.enc)), .d (.sl (a1.map Job.enc))]) (fn := Try.f28) tab ⟨[(0, [0, 1]), (1, [0, 1, 11]), (2, [4]), (3, [0, 1, 5]), (4, [0, 5, 12, 13, 14]), (5, [0, 5, 12, 13, 14, 15]), (6, [0, 5, 7, 12, 13, 14]), (7, [0, 5, 12, 13, 14]), (8, [0, 5, 12, 13, 14]), (9, [4])], [], [], []⟩ 30 [.tmp 4] rfl rfl rfl rfl rfl rfl ?_
  refine caS (E := E_Bool) h (job_All_w a0 a1) rfl (fun _ => rfl) (fun x1 h => ?_)
  refine fkS h (fun h => ?_) (fun h => ?_)
  · exact rt (E := E_ListInt) h rfl
  refine lenS a1 Job.enc rfl ?_
  refine lpS (fun v2 => ⟨[(0, .l (.d (.sl (a0.map Task.enc)))), (5, .l (.own 6)), (12, .l (.d (.sl (a1.map Job.enc)))), (13, .l (.d (.int .i64 (a1.length : Int)))), (14, .l (.d (.int .i64 v2.2)))], 30, [], [], [(6, 3, 1, v2.1.map (eI .i64))]⟩) h (Weak.trans (Weak.nilO _ 5 6 3 1 rfl) (Weak.refl _)) (fun _ nx2 hn2 v2 h => ?_)
  refine fkS h (fun h => ?_) (fun h => ?_)
  · refine ixS (enc := Job.enc) h rfl (fun _ => rfl) (fun x3 h => ?_)
    refine ⟨9, ?_⟩
    refine ixS (enc := Task.enc) h rfl (fun _ => rfl) (fun x4 h => ?_)
    refine dcS (E := E_ListInt) h (task_Held_w x4 x3.Had) rfl (fun x5 h => ?_)
    refine drS (by kernel_rfl) ?_
    refine apS (enc := (eI .i64)) (l1 := v2.1) (l2 := x5) h rfl rfl (fun _ => rfl) (fun h => ?_)
    exact leS hn2 h (Weak.refl _)
  exact rt (E := E_ListInt) h rfl

end Go.Proofs.Ytkhebjkplmidnaa
namespace Go.Proofs.Ytkhebjkplmidnaa
open Go Go.VC
noncomputable def job_Ahead (a0 : Job) (a1 : Job) : Option Bool :=
  fk (!decide (a0.Due = a1.Due)) (some (decide (a0.Due < a1.Due))) (fk (!decide (a0.Task = a1.Task)) (some (decide (a0.Task < a1.Task))) (some (decide (a0.At < a1.At))))
theorem job_Ahead_w (a0 : Job) (a1 : Job) (r : Bool) (h : job_Ahead a0 a1 = some r) : Go.VC.Spec Try.prog 32 [.agg (Job.enc a0), .agg (Job.enc a1)] (fun y => y = E_Bool r) := by
  refine Go.VC.Spec.of_xc (args := [.agg (Job.enc a0), .agg (Job.enc a1)]) (fn := Try.f32) tab ⟨[(0, [2, 3]), (1, [2, 3, 5]), (2, [4]), (3, [2, 3, 16]), (4, [4]), (5, [4])], [], [], []⟩ 32 [.tmp 4] rfl rfl rfl rfl rfl rfl ?_
  refine fkS h (fun h => ?_) (fun h => ?_)
  · exact rt (E := E_Bool) h rfl
  refine fkS h (fun h => ?_) (fun h => ?_)
  · exact rt (E := E_Bool) h rfl
  exact rt (E := E_Bool) h rfl

end Go.Proofs.Ytkhebjkplmidnaa
namespace Go.Proofs.Ytkhebjkplmidnaa
open Go Go.VC
noncomputable def job_First_1 (a0 : Job) (a1 : Bool) : Option Bool :=
  some (decide (a0.Began = a1))
theorem job_First_1_w (a0 : Job) (a1 : Bool) (r : Bool) (h : job_First_1 a0 a1 = some r) : Go.VC.Spec Try.prog 53 [.agg (Job.enc a0), .dp [.bool a1]] (fun y => y = E_Bool r) := by
  refine Go.VC.Spec.of_xc (args := [.agg (Job.enc a0), .dp [.bool a1]]) (fn := Try.f53) tab ⟨[(0, [1, 2]), (1, [3])], [], [], []⟩ 8 [.tmp 3] rfl rfl rfl rfl rfl rfl ?_
  exact rt (E := E_Bool) h rfl

end Go.Proofs.Ytkhebjkplmidnaa
namespace Go.Proofs.Ytkhebjkplmidnaa
open Go Go.VC
noncomputable def job_first_api_Job (a0 : List Job) (a1 : Bool) : Option Int :=
  lp (fun nx1 (v1 : Int × Int) => fk (decide (v1.2 < (a0.length : Int))) (jn (fun (w2 : Int) => nx1 (w2, (wr (v1.2 + (1 : Int))))) (fun k2 => ix a0 v1.2 fun x3 => jn (fun (w4 : Bool) => fk w4 (k2 v1.2) (k2 v1.1)) (fun k4 => bnd (job_First_1 x3 a1) fun x5 => fk x5 (fk (decide (v1.1 < (0 : Int))) (k4 true) (ix a0 v1.1 fun x6 => bnd (job_Ahead x3 x6) fun x7 => k4 x7)) (k4 false)))) (some v1.1)) FU ((-1 : Int), (0 : Int))
theorem job_first_api_Job_w (a0 : List Job) (a1 : Bool) (r : Int) (h : job_first_api_Job a0 a1 = some r) : Go.VC.Spec Try.prog 52 [.d (.sl (a0.map Job.enc)), .d (.fn 53 [[.bool a1]]), .d (.fn 32 [])] (fun y => y = E_Int r) := by
  refine Go.VC.Spec.of_xc (args := [.d (.sl (a0.map Job.enc)), .d (.fn 53 [[.bool a1]]), .d (.fn 32 [])]) (fn := Try.f52) tab ⟨[(0, [0, 1, 2]), (1, [0, 1, 2, 7]), (2, [0, 1, 2, 7, 10, 11, 12]), (3, [0, 1, 2, 7, 10, 11, 12, 13]), (4, [0, 1, 2, 7, 8, 9, 10, 11, 12]), (5, [0, 1, 2, 7, 8, 10, 11, 12, 32]), (6, [0, 1, 2, 7, 10, 11, 12]), (7, [0, 1, 2, 7, 10, 11, 12]), (8, [6])], [], [100032, 7], []⟩ 36 [.tmp 6] rfl rfl rfl rfl rfl rfl ?_
  refine lenS a0 Job.enc rfl ?_
  refine lpS (fun v1 => ⟨[(0, .l (.d (.sl (a0.map Job.enc)))), (1, .l (.d (.fn 53 [[.bool a1]]))), (2, .l (.d (.fn 32 []))), (7, .l (.d (.int .i64 v1.1))), (10, .l (.d (.sl (a0.map Job.enc)))), (11, .l (.d (.int .i64 (a0.length : Int)))), (12, .l (.d (.int .i64 v1.2)))], 36, [], [], []⟩) h (Weak.refl _) (fun _ nx1 hn1 v1 h => ?_)
  refine fkS h (fun h => ?_) (fun h => ?_)
  · refine jnS (fun w2 => ⟨[(0, .l (.d (.sl (a0.map Job.enc)))), (1, .l (.d (.fn 53 [[.bool a1]]))), (2, .l (.d (.fn 32 []))), (7, .l (.d (.int .i64 w2))), (10, .l (.d (.sl (a0.map Job.enc)))), (11, .l (.d (.int .i64 (a0.length : Int)))), (12, .l (.d (.int .i64 v1.2)))], 36, [], [], []⟩) h (fun k2 hk2 h => ?_) (fun w2 h => ?_)
    · refine ixS (enc := Job.enc) h rfl (fun _ => rfl) (fun x3 h => ?_)
      refine jnS (fun w4 => ⟨[(0, .l (.d (.sl (a0.map Job.enc)))), (1, .l (.d (.fn 53 [[.bool a1]]))), (2, .l (.d (.fn 32 []))), (7, .l (.d (.int .i64 v1.1))), (8, .l (.d (.int .i64 v1.2))), (10, .l (.d (.sl (a0.map Job.enc)))), (11, .l (.d (.int .i64 (a0.length : Int)))), (12, .l (.d (.int .i64 v1.2))), (32, .l (.d (.bool w4)))], 36, [], [], []⟩) h (fun k4 hk4 h => ?_) (fun w4 h => ?_)
      · refine ⟨13, ?_⟩
        refine daS (E := E_Bool) h (job_First_1_w x3 a1) (fun _ => rfl) (fun x5 h => ?_)
        refine fkS h (fun h => ?_) (fun h => ?_)
        · refine fkS h (fun h => ?_) (fun h => ?_)
          · refine drS (by kernel_rfl) ?_
            exact jeS hk4 h (Weak.refl _)
          refine ixS (enc := Job.enc) h rfl (fun _ => rfl) (fun x6 h => ?_)
          refine drS (by kernel_rfl) ?_
          refine caS (E := E_Bool) h (job_Ahead_w x3 x6) rfl (fun _ => rfl) (fun x7 h => ?_)
          exact jeS hk4 h (Weak.refl _)
        refine drS (by kernel_rfl) ?_
        exact jeS hk4 h (Weak.refl _)
      refine fkS h (fun h => ?_) (fun h => ?_)
      · exact jeS hk2 h (Weak.refl _)
      exact jeS hk2 h (Weak.trans (Weak.keepS _ [0, 1, 2, 7, 10, 11, 12]) (Weak.refl _))
    exact leS hn1 h (Weak.refl _)
  exact rt (E := E_Int) h rfl

end Go.Proofs.Ytkhebjkplmidnaa
namespace Go.Proofs.Ytkhebjkplmidnaa
open Go Go.VC
noncomputable def job_First (a0 : List Job) (a1 : Bool) : Option Int :=
  bnd (job_first_api_Job a0 a1) fun x1 => some x1
theorem job_First_w (a0 : List Job) (a1 : Bool) (r : Int) (h : job_First a0 a1 = some r) : Go.VC.Spec Try.prog 35 [.d (.sl (a0.map Job.enc)), .d (.bool a1)] (fun y => y = E_Int r) := by
  refine Go.VC.Spec.of_xc (args := [.d (.sl (a0.map Job.enc)), .d (.bool a1)]) (fn := Try.f35) tab ⟨[(0, [0, 3]), (1, [4])], [], [], []⟩ 8 [.tmp 4] rfl rfl rfl rfl rfl rfl ?_
  refine caS (E := E_Int) h (job_first_api_Job_w a0 a1) rfl (fun _ => rfl) (fun x1 h => ?_)
  exact rt (E := E_Int) h rfl

end Go.Proofs.Ytkhebjkplmidnaa
namespace Go.Proofs.Ytkhebjkplmidnaa
open Go Go.VC
noncomputable def job_Right (a0 : List Task) (a1 : Job) : Option Bool :=
  bnd (task_All a0) fun x1 => fk x1 (bnd (job_right a0 a1) fun x2 => some x2) (some false)
theorem job_Right_w (a0 : List Task) (a1 : Job) (r : Bool) (h : job_Right a0 a1 = some r) : Go.VC.Spec Try.prog 47 [.d (.sl (a0.map Task.enc)), .agg (Job.enc a1)] (fun y => y = E_Bool r) := by
  refine Go.VC.Spec.of_xc (args := [.d (.sl (a0.map Task.enc)), .agg (Job.enc a1)]) (fn := Try.f47) tab ⟨[(0, [0, 3]), (1, [4])], [], [], []⟩ 12 [.tmp 4] rfl rfl rfl rfl rfl rfl ?_
  refine caS (E := E_Bool) h (task_All_w a0) rfl (fun _ => rfl) (fun x1 h => ?_)
  refine fkS h (fun h => ?_) (fun h => ?_)
  · refine caS (E := E_Bool) h (job_right_w a0 a1) rfl (fun _ => rfl) (fun x2 h => ?_)
    exact rt (E := E_Bool) h rfl
  exact rt (E := E_Bool) h rfl

end Go.Proofs.Ytkhebjkplmidnaa
namespace Go.Proofs.Ytkhebjkplmidnaa
open Go Go.VC
noncomputable def law14_knows  : Option Bool :=
  bnd (job_Held ([⟨(3 : Int), (5 : Int), (9 : Int), ([⟨(2 : Int), (0 : Int), (2 : Int)⟩] : List Sec)⟩] : List Task) ([⟨(0 : Int), (4 : Int), (9 : Int), (3 : Int), (1 : Int), true⟩] : List Job)) fun x1 => bnd (job_Ahead ⟨(1 : Int), (0 : Int), (9 : Int), (0 : Int), (0 : Int), false⟩ ⟨(2 : Int), (0 : Int), (9 : Int), (0 : Int), (0 : Int), false⟩) fun x2 => fk x2 (bnd (job_Ahead ⟨(2 : Int), (0 : Int), (9 : Int), (0 : Int), (0 : Int), false⟩ ⟨(0 : Int), (0 : Int), (10 : Int), (0 : Int), (0 : Int), false⟩) fun x3 => fk x3 (bnd (job_Ahead ⟨(0 : Int), (0 : Int), (10 : Int), (0 : Int), (0 : Int), false⟩ ⟨(1 : Int), (0 : Int), (9 : Int), (0 : Int), (0 : Int), false⟩) fun x4 => fk (!x4) (bnd (job_First ([⟨(0 : Int), (0 : Int), (10 : Int), (0 : Int), (0 : Int), false⟩, ⟨(2 : Int), (0 : Int), (9 : Int), (0 : Int), (0 : Int), false⟩, ⟨(1 : Int), (0 : Int), (9 : Int), (0 : Int), (0 : Int), false⟩] : List Job) false) fun x5 => fk (decide (x5 = (2 : Int))) (bnd (job_First [] true) fun x6 => fk (decide (x6 = (-1 : Int))) (bnd (job_Right ([⟨(3 : Int), (5 : Int), (9 : Int), ([⟨(2 : Int), (0 : Int), (2 : Int)⟩] : List Sec)⟩] : List Task) ⟨(0 : Int), (4 : Int), (9 : Int), (3 : Int), (1 : Int), true⟩) fun x7 => fk x7 (fk (decide ((x1.length : Int) = (1 : Int))) (ix x1 (0 : Int) fun x8 => some (decide (x8 = (2 : Int)))) (some false)) (some false)) (some false)) (some false)) (some false)) (some false)) (some false)
theorem law14_knows_w  (r : Bool) (h : law14_knows = some r) : Go.VC.Spec Try.prog 27 [] (fun y => y = E_Bool r) := by
  refine Go.VC.Spec.of_xc (args := []) (fn := Try.f27) tab ⟨[(0, []), (1, [1, 2, 3]), (2, [1, 2, 3, 4]), (3, [1, 2, 3, 4, 5]), (4, [1, 2, 3, 4, 5, 6]), (5, [0])], [], [], [(13, [12])]⟩ 61 [.tmp 0] rfl rfl rfl rfl rfl rfl ?_
  refine liS ([⟨(2 : Int), (0 : Int), (2 : Int)⟩] : List Sec) Sec.enc rfl rfl ?_
  refine liS ([⟨(3 : Int), (5 : Int), (9 : Int), ([⟨(2 : Int), (0 : Int), (2 : Int)⟩] : List Sec)⟩] : List Task) Task.enc rfl rfl ?_
  refine liS ([⟨(0 : Int), (4 : Int), (9 : Int), (3 : Int), (1 : Int), true⟩] : List Job) Job.enc rfl rfl ?_
  refine iceS 5 ?_
  refine iceS 18 ?_
  refine ccS (E := E_ListInt) h (job_Held_w ([⟨(3 : Int), (5 : Int), (9 : Int), ([⟨(2 : Int), (0 : Int), (2 : Int)⟩] : List Sec)⟩] : List Task) ([⟨(0 : Int), (4 : Int), (9 : Int), (3 : Int), (1 : Int), true⟩] : List Job)) rfl rfl (fun x1 h => ?_)
  refine caS (E := E_Bool) h (job_Ahead_w ⟨(1 : Int), (0 : Int), (9 : Int), (0 : Int), (0 : Int), false⟩ ⟨(2 : Int), (0 : Int), (9 : Int), (0 : Int), (0 : Int), false⟩) rfl (fun _ => rfl) (fun x2 h => ?_)
  refine fkS h (fun h => ?_) (fun h => ?_)
  · refine caS (E := E_Bool) h (job_Ahead_w ⟨(2 : Int), (0 : Int), (9 : Int), (0 : Int), (0 : Int), false⟩ ⟨(0 : Int), (0 : Int), (10 : Int), (0 : Int), (0 : Int), false⟩) rfl (fun _ => rfl) (fun x3 h => ?_)
    refine fkS h (fun h => ?_) (fun h => ?_)
    · refine caS (E := E_Bool) h (job_Ahead_w ⟨(0 : Int), (0 : Int), (10 : Int), (0 : Int), (0 : Int), false⟩ ⟨(1 : Int), (0 : Int), (9 : Int), (0 : Int), (0 : Int), false⟩) rfl (fun _ => rfl) (fun x4 h => ?_)
      refine fkS h (fun h => ?_) (fun h => ?_)
      · refine liS ([⟨(0 : Int), (0 : Int), (10 : Int), (0 : Int), (0 : Int), false⟩, ⟨(2 : Int), (0 : Int), (9 : Int), (0 : Int), (0 : Int), false⟩, ⟨(1 : Int), (0 : Int), (9 : Int), (0 : Int), (0 : Int), false⟩] : List Job) Job.enc rfl rfl ?_
        refine caS (E := E_Int) h (job_First_w ([⟨(0 : Int), (0 : Int), (10 : Int), (0 : Int), (0 : Int), false⟩, ⟨(2 : Int), (0 : Int), (9 : Int), (0 : Int), (0 : Int), false⟩, ⟨(1 : Int), (0 : Int), (9 : Int), (0 : Int), (0 : Int), false⟩] : List Job) false) rfl (fun _ => rfl) (fun x5 h => ?_)
        refine fkS h (fun h => ?_) (fun h => ?_)
        · refine caS (E := E_Int) h (job_First_w [] true) rfl (fun _ => rfl) (fun x6 h => ?_)
          refine fkS h (fun h => ?_) (fun h => ?_)
          · refine caS (E := E_Bool) h (job_Right_w ([⟨(3 : Int), (5 : Int), (9 : Int), ([⟨(2 : Int), (0 : Int), (2 : Int)⟩] : List Sec)⟩] : List Task) ⟨(0 : Int), (4 : Int), (9 : Int), (3 : Int), (1 : Int), true⟩) rfl (fun _ => rfl) (fun x7 h => ?_)
            refine fkS h (fun h => ?_) (fun h => ?_)
            · refine lenS x1 (eI .i64) rfl ?_
              refine fkS h (fun h => ?_) (fun h => ?_)
              · refine ixS (enc := (eI .i64)) h rfl (fun _ => rfl) (fun x8 h => ?_)
                exact rt (E := E_Bool) h rfl
              exact rt (E := E_Bool) h rfl
            exact rt (E := E_Bool) h rfl
          exact rt (E := E_Bool) h rfl
        exact rt (E := E_Bool) h rfl
      exact rt (E := E_Bool) h rfl
    exact rt (E := E_Bool) h rfl
  exact rt (E := E_Bool) h rfl

end Go.Proofs.Ytkhebjkplmidnaa
namespace Go.Proofs.Ytkhebjkplmidnaa
open Go Go.VC
noncomputable def ref14_Right (a0 : List Task) (a1 : Job) : Option Bool :=
  jn (fun (w1 : Bool) => fk w1 (some false) (jn (fun (w3 : Bool) => fk w3 (some false) (fk a1.Began (some true) (some (decide (a1.Had < (1 : Int)))))) (fun k3 => fk (decide (a1.Want < (1 : Int))) (k3 true) (fk (decide (a1.Want > (200 : Int))) (k3 true) (fk (decide (a1.Had < (0 : Int))) (k3 true) (fk (decide (a1.Had ≥ a1.Want)) (k3 true) (ix a0 a1.Task fun x4 => k3 (decide (a1.Had ≥ x4.C))))))))) (fun k1 => fk (decide (a1.Task < (0 : Int))) (k1 true) (fk (decide (a1.Task ≥ (a0.length : Int))) (k1 true) (fk (decide (a1.At < (0 : Int))) (k1 true) (fk (decide (a1.At > (4611686018427387703 : Int))) (k1 true) (ix a0 a1.Task fun x2 => k1 (!decide (a1.Due = (wr (a1.At + x2.D)))))))))
theorem ref14_Right_w (a0 : List Task) (a1 : Job) (r : Bool) (h : ref14_Right a0 a1 = some r) : Go.VC.Spec Try.prog 50 [.d (.sl (a0.map Task.enc)), .agg (Job.enc a1)] (fun y => y = E_Bool r) := by
  refine Go.VC.Spec.of_xc (args := [.d (.sl (a0.map Task.enc)), .agg (Job.enc a1)]) (fn := Try.f50) tab ⟨[(0, [0, 3]), (1, [0, 3, 38]), (2, [4]), (3, [3, 69]), (4, [4]), (5, [4])], [], [100038, 100069], []⟩ 77 [.tmp 4] rfl rfl rfl rfl rfl rfl ?_
  refine jnS (fun w1 => ⟨[(0, .l (.d (.sl (a0.map Task.enc)))), (3, .l (.ptr 4 0)), (38, .l (.d (.bool w1)))], 77, [], [(4, [.d (.int .i64 a1.Task), .d (.int .i64 a1.At), .d (.int .i64 a1.Due), .d (.int .i64 a1.Want), .d (.int .i64 a1.Had), .d (.bool a1.Began)])], []⟩) h (fun k1 hk1 h => ?_) (fun w1 h => ?_)
  · refine ⟨34, ?_⟩
    refine fkS h (fun h => ?_) (fun h => ?_)
    · refine drS (by kernel_rfl) ?_
      exact jeS hk1 h (Weak.refl _)
    refine lenS a0 Task.enc rfl ?_
    refine fkS h (fun h => ?_) (fun h => ?_)
    · refine drS (by kernel_rfl) ?_
      exact jeS hk1 h (Weak.refl _)
    refine fkS h (fun h => ?_) (fun h => ?_)
    · refine drS (by kernel_rfl) ?_
      exact jeS hk1 h (Weak.refl _)
    refine fkS h (fun h => ?_) (fun h => ?_)
    · refine drS (by kernel_rfl) ?_
      exact jeS hk1 h (Weak.refl _)
    refine ixS (enc := Task.enc) h rfl (fun _ => rfl) (fun x2 h => ?_)
    refine drS (by kernel_rfl) ?_
    exact jeS hk1 h (Weak.refl _)
  refine fkS h (fun h => ?_) (fun h => ?_)
  · exact rt (E := E_Bool) h rfl
  refine jnS (fun w3 => ⟨[(3, .l (.ptr 4 0)), (69, .l (.d (.bool w3)))], 77, [], [(4, [.d (.int .i64 a1.Task), .d (.int .i64 a1.At), .d (.int .i64 a1.Due), .d (.int .i64 a1.Want), .d (.int .i64 a1.Had), .d (.bool a1.Began)])], []⟩) h (fun k3 hk3 h => ?_) (fun w3 h => ?_)
  · refine ⟨31, ?_⟩
    refine fkS h (fun h => ?_) (fun h => ?_)
    · refine drS (by kernel_rfl) ?_
      exact jeS hk3 h (Weak.refl _)
    refine fkS h (fun h => ?_) (fun h => ?_)
    · refine drS (by kernel_rfl) ?_
      exact jeS hk3 h (Weak.refl _)
    refine fkS h (fun h => ?_) (fun h => ?_)
    · refine drS (by kernel_rfl) ?_
      exact jeS hk3 h (Weak.refl _)
    refine fkS h (fun h => ?_) (fun h => ?_)
    · refine drS (by kernel_rfl) ?_
      exact jeS hk3 h (Weak.refl _)
    refine ixS (enc := Task.enc) h rfl (fun _ => rfl) (fun x4 h => ?_)
    refine drS (by kernel_rfl) ?_
    exact jeS hk3 h (Weak.refl _)
  refine fkS h (fun h => ?_) (fun h => ?_)
  · exact rt (E := E_Bool) h rfl
  refine fkS h (fun h => ?_) (fun h => ?_)
  · exact rt (E := E_Bool) h rfl
  exact rt (E := E_Bool) h rfl

end Go.Proofs.Ytkhebjkplmidnaa
namespace Go.Proofs.Ytkhebjkplmidnaa
open Go Go.VC
noncomputable def ref14_All (a0 : List Task) (a1 : List Job) : Option Bool :=
  jn (fun (w1 : Bool) => fk w1 (some false) (lp (fun nx3 (v3 : Int) => fk (decide (v3 < (a1.length : Int))) (lp (fun nx4 (v4 : Int) => fk (decide (v4 < (a1.length : Int))) (jn (fun (w5 : Bool) => fk w5 (some false) (nx4 (wr (v4 + (1 : Int))))) (fun k5 => fk (!decide (v4 = v3)) (ix a1 v4 fun x6 => ix a1 v3 fun x7 => fk (decide (x6.Task = x7.Task)) (ix a1 v4 fun x8 => ix a1 v3 fun x9 => k5 (decide (x8.At = x9.At))) (k5 false)) (k5 false))) (ix a1 v3 fun x10 => bnd (ref14_Right a0 x10) fun x11 => fk (!x11) (some false) (nx3 (wr (v3 + (1 : Int)))))) FU (0 : Int)) (some true)) FU (0 : Int))) (fun k1 => bnd (ref05_All a0) fun x2 => fk (!x2) (k1 true) (k1 (decide ((a1.length : Int) > (32 : Int)))))
theorem ref14_All_w (a0 : List Task) (a1 : List Job) (r : Bool) (h : ref14_All a0 a1 = some r) : Go.VC.Spec Try.prog 29 [.d (.sl (a0.map Task.enc)), .d (.sl (a1.map Job.enc))] (fun y => y = E_Bool r) := by
  refine Go.VC.Spec.of_xc (args := [.d (.sl (a0.map Task.enc)), .d (.sl (a1.map Job.enc))]) (fn := Try.f29) tab ⟨[(0, [0, 1]), (1, [0, 1, 14]), (2, [4]), (3, [0, 1, 5]), (4, [0, 1, 5, 18]), (5, [0, 1, 5]), (6, [0, 1, 5, 6]), (7, [0, 1, 5, 6, 24]), (8, [0, 1, 5, 6]), (9, [0, 1, 5, 6, 55]), (10, [4]), (11, [0, 1, 5, 62]), (12, [4]), (13, [4])], [], [100014, 100055], []⟩ 63 [.tmp 4] rfl rfl rfl rfl rfl rfl ?_
  refine jnS (fun w1 => ⟨[(0, .l (.d (.sl (a0.map Task.enc)))), (1, .l (.d (.sl (a1.map Job.enc)))), (14, .l (.d (.bool w1)))], 63, [], [], []⟩) h (fun k1 hk1 h => ?_) (fun w1 h => ?_)
  · refine caS (E := E_Bool) h (ref05_All_w a0) rfl (fun _ => rfl) (fun x2 h => ?_)
    refine fkS h (fun h => ?_) (fun h => ?_)
    · exact jeS hk1 h (Weak.refl _)
    refine lenS a1 Job.enc rfl ?_
    exact jeS hk1 h (Weak.refl _)
  refine fkS h (fun h => ?_) (fun h => ?_)
  · exact rt (E := E_Bool) h rfl
  refine lpS (fun v3 => ⟨[(0, .l (.d (.sl (a0.map Task.enc)))), (1, .l (.d (.sl (a1.map Job.enc)))), (5, .l (.d (.int .i64 v3)))], 63, [], [], []⟩) h (Weak.refl _) (fun _ nx3 hn3 v3 h => ?_)
  refine lenS a1 Job.enc rfl ?_
  refine fkS h (fun h => ?_) (fun h => ?_)
  · refine lpS (fun v4 => ⟨[(0, .l (.d (.sl (a0.map Task.enc)))), (1, .l (.d (.sl (a1.map Job.enc)))), (5, .l (.d (.int .i64 v3))), (6, .l (.d (.int .i64 v4)))], 63, [], [], []⟩) h (Weak.refl _) (fun _ nx4 hn4 v4 h => ?_)
    refine lenS a1 Job.enc rfl ?_
    refine fkS h (fun h => ?_) (fun h => ?_)
    · refine jnS (fun w5 => ⟨[(0, .l (.d (.sl (a0.map Task.enc)))), (1, .l (.d (.sl (a1.map Job.enc)))), (5, .l (.d (.int .i64 v3))), (6, .l (.d (.int .i64 v4))), (55, .l (.d (.bool w5)))], 63, [], [], []⟩) h (fun k5 hk5 h => ?_) (fun w5 h => ?_)
      · refine ⟨29, ?_⟩
        refine fkS h (fun h => ?_) (fun h => ?_)
        · refine ixS (enc := Job.enc) h rfl (fun _ => rfl) (fun x6 h => ?_)
          refine ixS (enc := Job.enc) h rfl (fun _ => rfl) (fun x7 h => ?_)
          refine fkS h (fun h => ?_) (fun h => ?_)
          · refine ixS (enc := Job.enc) h rfl (fun _ => rfl) (fun x8 h => ?_)
            refine ixS (enc := Job.enc) h rfl (fun _ => rfl) (fun x9 h => ?_)
            refine drS (by kernel_rfl) ?_
            exact jeS hk5 h (Weak.refl _)
          refine drS (by kernel_rfl) ?_
          exact jeS hk5 h (Weak.refl _)
        refine drS (by kernel_rfl) ?_
        exact jeS hk5 h (Weak.refl _)
      refine fkS h (fun h => ?_) (fun h => ?_)
      · exact rt (E := E_Bool) h rfl
      exact leS hn4 h (Weak.refl _)
    refine ixS (enc := Job.enc) h rfl (fun _ => rfl) (fun x10 h => ?_)
    refine caS (E := E_Bool) h (ref14_Right_w a0 x10) rfl (fun _ => rfl) (fun x11 h => ?_)
    refine fkS h (fun h => ?_) (fun h => ?_)
    · exact rt (E := E_Bool) h rfl
    exact leS hn3 h (Weak.refl _)
  exact rt (E := E_Bool) h rfl

end Go.Proofs.Ytkhebjkplmidnaa
namespace Go.Proofs.Ytkhebjkplmidnaa
open Go Go.VC
noncomputable def ref05_Held (a0 : Task) (a1 : Int) : Option (List Int) :=
  lp (fun nx1 (v1 : (List Int) × Int) => fk (decide (v1.2 < (a0.Secs.length : Int))) (jn (fun (w2 : List Int) => nx1 (w2, (wr (v1.2 + (1 : Int))))) (fun k2 => ix a0.Secs v1.2 fun x3 => ix a0.Secs v1.2 fun x4 => ix a0.Secs v1.2 fun x5 => jn (fun (w6 : Bool) => fk w6 (ix a0.Secs v1.2 fun x7 => ck (decide ((v1.1.length + ([x7.Res] : List Int).length) * 8 ≤ 140737488355328)) (k2 (v1.1 ++ ([x7.Res] : List Int)))) (k2 v1.1)) (fun k6 => fk (decide (x3.At < a1)) (k6 (!(decide (a1 ≥ (wr (x4.At + x5.Len)))))) (k6 false)))) (some v1.1)) FU ([], (0 : Int))
theorem ref05_Held_w (a0 : Task) (a1 : Int) (r : List Int) (h : ref05_Held a0 a1 = some r) : Go.VC.Spec Try.prog 51 [.agg (Task.enc a0), .d (.int .i64 a1)] (fun y => y = E_ListInt r) := by
  refine Go.VC.Spec.of_xc (args := [.agg (Task.enc a0), .d (.int .i64 a1)]) (fn := Try.f51) tab ⟨[(0, [1, 2]), (1, [1, 2, 5]), (2, [1, 2, 5, 6]), (3, [1, 2, 5, 6, 13]), (4, [1, 2, 5, 6]), (5, [1, 2, 5, 6, 7]), (6, [1, 2, 5, 6, 7, 8]), (7, [1, 2, 5, 6, 43]), (8, [1, 2, 5, 6]), (9, [4])], [], [100043, 4], []⟩ 54 [.tmp 4] rfl rfl rfl rfl rfl rfl ?_
  refine lpS (fun v1 => ⟨[(1, .l (.d (.int .i64 a1))), (2, .l (.ptr 3 0)), (5, .l (.own 6)), (6, .l (.d (.int .i64 v1.2)))], 54, [], [(3, [.d (.int .i64 a0.C), .d (.int .i64 a0.D), .d (.int .i64 a0.T), .d (.sl (a0.Secs.map Sec.enc))])], [(6, 3, 1, v1.1.map (eI .i64))]⟩) h (Weak.trans (Weak.nilO _ 5 6 3 1 rfl) (Weak.refl _)) (fun _ nx1 hn1 v1 h => ?_)
  refine lenS a0.Secs Sec.enc rfl ?_
  refine fkS h (fun h => ?_) (fun h => ?_)
  · refine jnS (fun w2 => ⟨[(1, .l (.d (.int .i64 a1))), (2, .l (.ptr 3 0)), (5, .l (.own 6)), (6, .l (.d (.int .i64 v1.2)))], 54, [], [(3, [.d (.int .i64 a0.C), .d (.int .i64 a0.D), .d (.int .i64 a0.T), .d (.sl (a0.Secs.map Sec.enc))])], [(6, 3, 1, w2.map (eI .i64))]⟩) h (fun k2 hk2 h => ?_) (fun w2 h => ?_)
    · refine ixS (enc := Sec.enc) h rfl (fun _ => rfl) (fun x3 h => ?_)
      refine ⟨14, ?_⟩
      refine ixS (enc := Sec.enc) h rfl (fun _ => rfl) (fun x4 h => ?_)
      refine ixS (enc := Sec.enc) h rfl (fun _ => rfl) (fun x5 h => ?_)
      refine drS (by kernel_rfl) ?_
      refine jnS (fun w6 => ⟨[(1, .l (.d (.int .i64 a1))), (2, .l (.ptr 3 0)), (5, .l (.own 6)), (6, .l (.d (.int .i64 v1.2))), (43, .l (.d (.bool w6)))], 54, [], [(3, [.d (.int .i64 a0.C), .d (.int .i64 a0.D), .d (.int .i64 a0.T), .d (.sl (a0.Secs.map Sec.enc))])], [(6, 3, 1, v1.1.map (eI .i64))]⟩) h (fun k6 hk6 h => ?_) (fun w6 h => ?_)
      · refine fkS h (fun h => ?_) (fun h => ?_)
        · exact jeS hk6 h (Weak.refl _)
        exact jeS hk6 h (Weak.refl _)
      refine fkS h (fun h => ?_) (fun h => ?_)
      · refine ixS (enc := Sec.enc) h rfl (fun _ => rfl) (fun x7 h => ?_)
        refine liS ([x7.Res] : List Int) (eI .i64) rfl rfl ?_
        refine apS (enc := (eI .i64)) (l1 := v1.1) (l2 := ([x7.Res] : List Int)) h rfl rfl (fun _ => rfl) (fun h => ?_)
        exact jeS hk2 h (Weak.refl _)
      exact jeS hk2 h (Weak.trans (Weak.keepS _ [1, 2, 5, 6]) (Weak.refl _))
    exact leS hn1 h (Weak.refl _)
  exact rt (E := E_ListInt) h rfl

end Go.Proofs.Ytkhebjkplmidnaa
namespace Go.Proofs.Ytkhebjkplmidnaa
open Go Go.VC
noncomputable def ref14_Held (a0 : List Task) (a1 : List Job) : Option (List Int) :=
  lp (fun nx1 (v1 : (List Int) × Int) => fk (decide (v1.2 < (a1.length : Int))) (jn (fun (w2 : List Int) => nx1 (w2, (wr (v1.2 + (1 : Int))))) (fun k2 => ix a1 v1.2 fun x3 => fk x3.Began (ix a1 v1.2 fun x4 => ix a0 x4.Task fun x5 => ix a1 v1.2 fun x6 => bnd (ref05_Held x5 x6.Had) fun x7 => ck (decide ((v1.1.length + x7.length) * 8 ≤ 140737488355328)) (k2 (v1.1 ++ x7))) (k2 v1.1))) (some v1.1)) FU ([], (0 : Int))
theorem ref14_Held_w (a0 : List Task) (a1 : List Job) (r : List Int) (h : ref14_Held a0 a1 = some r) : Go.VC.Spec Try.prog 31 [.d (.sl (a0.map Task.enc)), .d (.sl (a1.map Job.enc))] (fun y => y = E_ListInt r) := by
  refine Go.VC.Spec.of_xc (args := [.d (.sl (a0.map Task.enc)), .d (.sl (a1.map Job.enc))]) (fn := Try.f31) tab ⟨[(0, [0, 1]), (1, [0, 1, 5]), (2, [0, 1, 5, 6]), (3, [0, 1, 5, 6, 10]), (4, [0, 1, 5, 6]), (5, [0, 1, 5, 6, 17]), (6, [0, 1, 5, 6]), (7, [4])], [], [4], []⟩ 35 [.tmp 4] rfl rfl rfl rfl rfl rfl ?_
  refine lpS (fun v1 => ⟨[(0, .l (.d (.sl (a0.map Task.enc)))), (1, .l (.d (.sl (a1.map Job.enc)))), (5, .l (.own 6)), (6, .l (.d (.int .i64 v1.2)))], 35, [], [], [(6, 3, 1, v1.1.map (eI .i64))]⟩) h (Weak.trans (Weak.nilO _ 5 6 3 1 rfl) (Weak.refl _)) (fun _ nx1 hn1 v1 h => ?_)
  refine lenS a1 Job.enc rfl ?_
  refine fkS h (fun h => ?_) (fun h => ?_)
  · refine jnS (fun w2 => ⟨[(0, .l (.d (.sl (a0.map Task.enc)))), (1, .l (.d (.sl (a1.map Job.enc)))), (5, .l (.own 6)), (6, .l (.d (.int .i64 v1.2)))], 35, [], [], [(6, 3, 1, w2.map (eI .i64))]⟩) h (fun k2 hk2 h => ?_) (fun w2 h => ?_)
    · refine ixS (enc := Job.enc) h rfl (fun _ => rfl) (fun x3 h => ?_)
      refine fkS h (fun h => ?_) (fun h => ?_)
      · refine ⟨15, ?_⟩
        refine ixS (enc := Job.enc) h rfl (fun _ => rfl) (fun x4 h => ?_)
        refine ixS (enc := Task.enc) h rfl (fun _ => rfl) (fun x5 h => ?_)
        refine ixS (enc := Job.enc) h rfl (fun _ => rfl) (fun x6 h => ?_)
        refine dcS (E := E_ListInt) h (ref05_Held_w x5 x6.Had) rfl (fun x7 h => ?_)
        refine drS (by kernel_rfl) ?_
        refine apS (enc := (eI .i64)) (l1 := v1.1) (l2 := x7) h rfl rfl (fun _ => rfl) (fun h => ?_)
        exact jeS hk2 h (Weak.refl _)
      exact jeS hk2 h (Weak.trans (Weak.keepS _ [0, 1, 5, 6]) (Weak.refl _))
    exact leS hn1 h (Weak.refl _)
  exact rt (E := E_ListInt) h rfl

end Go.Proofs.Ytkhebjkplmidnaa
namespace Go.Proofs.Ytkhebjkplmidnaa
open Go Go.VC
noncomputable def ref05_SameInts (a0 : List Int) (a1 : List Int) : Option Bool :=
  fk (!decide ((a0.length : Int) = (a1.length : Int))) (some false) (lp (fun nx1 (v1 : Int) => fk (decide (v1 < (a0.length : Int))) (ix a0 v1 fun x2 => ix a1 v1 fun x3 => fk (!decide (x2 = x3)) (some false) (nx1 (wr (v1 + (1 : Int))))) (some true)) FU (0 : Int))
theorem ref05_SameInts_w (a0 : List Int) (a1 : List Int) (r : Bool) (h : ref05_SameInts a0 a1 = some r) : Go.VC.Spec Try.prog 30 [.d (.sl (a0.map (eI .i64))), .d (.sl (a1.map (eI .i64)))] (fun y => y = E_Bool r) := by
  refine Go.VC.Spec.of_xc (args := [.d (.sl (a0.map (eI .i64))), .d (.sl (a1.map (eI .i64)))]) (fn := Try.f30) tab ⟨[(0, [0, 1]), (1, [0, 1, 10]), (2, [4]), (3, [0, 1, 5]), (4, [0, 1, 5, 14]), (5, [0, 1, 5]), (6, [0, 1, 5, 25]), (7, [4]), (8, [4])], [], [], []⟩ 26 [.tmp 4] rfl rfl rfl rfl rfl rfl ?_
  refine lenS a0 (eI .i64) rfl ?_
  refine lenS a1 (eI .i64) rfl ?_
  refine fkS h (fun h => ?_) (fun h => ?_)
  · exact rt (E := E_Bool) h rfl
  refine lpS (fun v1 => ⟨[(0, .l (.d (.sl (a0.map (eI .i64))))), (1, .l (.d (.sl (a1.map (eI .i64))))), (5, .l (.d (.int .i64 v1)))], 26, [], [], []⟩) h (Weak.refl _) (fun _ nx1 hn1 v1 h => ?_)
  refine lenS a0 (eI .i64) rfl ?_
  refine fkS h (fun h => ?_) (fun h => ?_)
  · refine ⟨8, ?_⟩
    refine ixS (enc := (eI .i64)) h rfl (fun _ => rfl) (fun x2 h => ?_)
    refine ixS (enc := (eI .i64)) h rfl (fun _ => rfl) (fun x3 h => ?_)
    refine drS (by kernel_rfl) ?_
    refine fkS h (fun h => ?_) (fun h => ?_)
    · exact rt (E := E_Bool) h rfl
    exact leS hn1 h (Weak.refl _)
  exact rt (E := E_Bool) h rfl

end Go.Proofs.Ytkhebjkplmidnaa
namespace Go.Proofs.Ytkhebjkplmidnaa
open Go Go.VC
noncomputable def law14_JobHolds (a0 : List Task) (a1 : List Job) : Option Bool :=
  bnd (law14_Great a0 a1) fun x1 => fk x1 (bnd law14_knows fun x2 => some x2) (bnd (job_Held a0 a1) fun x3 => bnd (ref14_All a0 a1) fun x4 => fk (!x4) (fk (decide ((x3.length : Int) = (0 : Int))) (bnd law14_knows fun x5 => some x5) (some false)) (bnd (ref14_Held a0 a1) fun x6 => bnd (ref05_SameInts x3 x6) fun x7 => fk x7 (bnd law14_knows fun x8 => some x8) (some false)))
theorem law14_JobHolds_w (a0 : List Task) (a1 : List Job) (r : Bool) (h : law14_JobHolds a0 a1 = some r) : Go.VC.Spec Try.prog 7 [.d (.sl (a0.map Task.enc)), .d (.sl (a1.map Job.enc))] (fun y => y = E_Bool r) := by
  refine Go.VC.Spec.of_xc (args := [.d (.sl (a0.map Task.enc)), .d (.sl (a1.map Job.enc))]) (fn := Try.f7) tab ⟨[(0, [0, 1]), (1, [0, 1, 8]), (2, [4]), (3, [0, 1, 5]), (4, [0, 1, 5, 16]), (5, [4]), (6, [4])], [], [], []⟩ 31 [.tmp 4] rfl rfl rfl rfl rfl rfl ?_
  refine caS (E := E_Bool) h (law14_Great_w a0 a1) rfl (fun _ => rfl) (fun x1 h => ?_)
  refine fkS h (fun h => ?_) (fun h => ?_)
  · refine caS (E := E_Bool) h law14_knows_w rfl (fun _ => rfl) (fun x2 h => ?_)
    exact rt (E := E_Bool) h rfl
  refine ccS (E := E_ListInt) h (job_Held_w a0 a1) rfl rfl (fun x3 h => ?_)
  refine caS (E := E_Bool) h (ref14_All_w a0 a1) rfl (fun _ => rfl) (fun x4 h => ?_)
  refine fkS h (fun h => ?_) (fun h => ?_)
  · refine lenS x3 (eI .i64) rfl ?_
    refine fkS h (fun h => ?_) (fun h => ?_)
    · refine caS (E := E_Bool) h law14_knows_w rfl (fun _ => rfl) (fun x5 h => ?_)
      exact rt (E := E_Bool) h rfl
    exact rt (E := E_Bool) h rfl
  refine ccS (E := E_ListInt) h (ref14_Held_w a0 a1) rfl rfl (fun x6 h => ?_)
  refine caS (E := E_Bool) h (ref05_SameInts_w x3 x6) rfl (fun _ => rfl) (fun x7 h => ?_)
  refine fkS h (fun h => ?_) (fun h => ?_)
  · refine caS (E := E_Bool) h law14_knows_w rfl (fun _ => rfl) (fun x8 h => ?_)
    exact rt (E := E_Bool) h rfl
  exact rt (E := E_Bool) h rfl

end Go.Proofs.Ytkhebjkplmidnaa
namespace Go.Proofs.Ytkhebjkplmidnaa
open Go Go.VC
noncomputable def law14_JobOne (a0 : List Task) (a1 : List Job) (a2 : Int) (a3 : Int) (a4 : Int) : Option Bool :=
  jn (fun (w1 : Bool) => fk w1 (bnd law14_knows fun x4 => some x4) (ck (decide ((a1.length : Int) ≠ 0)) (ix a1 ((IntKind.i64.wrap a2).tmod (a1.length : Int)) fun x5 => ck (decide ((a1.length : Int) ≠ 0)) (ix a1 ((IntKind.i64.wrap a3).tmod (a1.length : Int)) fun x6 => ck (decide ((a1.length : Int) ≠ 0)) (ix a1 ((IntKind.i64.wrap a4).tmod (a1.length : Int)) fun x7 => jn (fun (w8 : Bool) => fk w8 (some false) (bnd (job_Ahead x5 x6) fun x13 => fk (!x13) (bnd law14_knows fun x14 => some x14) (bnd (job_Ahead x6 x7) fun x15 => fk (!x15) (bnd law14_knows fun x16 => some x16) (bnd (job_Ahead x5 x7) fun x17 => fk x17 (bnd law14_knows fun x18 => some x18) (some false))))) (fun k8 => fk (!(eqI [.i .i64 x5.Task, .i .i64 x5.At, .i .i64 x5.Due, .i .i64 x5.Want, .i .i64 x5.Had, .b x5.Began] [.i .i64 x6.Task, .i .i64 x6.At, .i .i64 x6.Due, .i .i64 x6.Want, .i .i64 x6.Had, .b x6.Began])) (bnd (job_Ahead x5 x6) fun x9 => bnd (job_Ahead x6 x5) fun x10 => fk (decide (x9 = x10)) (k8 true) (bnd (job_Ahead x5 x5) fun x11 => k8 x11)) (bnd (job_Ahead x5 x5) fun x12 => k8 x12))))))) (fun k1 => bnd (law14_Great a0 a1) fun x2 => fk x2 (k1 true) (fk (decide ((a1.length : Int) = (0 : Int))) (k1 true) (bnd (ref14_All a0 a1) fun x3 => k1 (!x3))))
theorem law14_JobOne_w (a0 : List Task) (a1 : List Job) (a2 : Int) (a3 : Int) (a4 : Int) (r : Bool) (h : law14_JobOne a0 a1 a2 a3 a4 = some r) : Go.VC.Spec Try.prog 8 [.d (.sl (a0.map Task.enc)), .d (.sl (a1.map Job.enc)), .d (.int .u8 a2), .d (.int .u8 a3), .d (.int .u8 a4)] (fun y => y = E_Bool r) := by
  refine Go.VC.Spec.of_xc (args := [.d (.sl (a0.map Task.enc)), .d (.sl (a1.map Job.enc)), .d (.int .u8 a2), .d (.int .u8 a3), .d (.int .u8 a4)]) (fn := Try.f8) tab ⟨[(0, [0, 1, 2, 3, 4]), (1, [1, 2, 3, 4, 27]), (2, [10]), (3, [11, 12, 13]), (4, [11, 12, 13, 69]), (5, [10]), (6, [10])], [], [100027, 100069], []⟩ 88 [.tmp 10] rfl rfl rfl rfl rfl rfl ?_
  refine jnS (fun w1 => ⟨[(1, .l (.d (.sl (a1.map Job.enc)))), (2, .l (.d (.int .u8 a2))), (3, .l (.d (.int .u8 a3))), (4, .l (.d (.int .u8 a4))), (27, .l (.d (.bool w1)))], 88, [], [], []⟩) h (fun k1 hk1 h => ?_) (fun w1 h => ?_)
  · refine caS (E := E_Bool) h (law14_Great_w a0 a1) rfl (fun _ => rfl) (fun x2 h => ?_)
    refine fkS h (fun h => ?_) (fun h => ?_)
    · exact jeS hk1 h (Weak.refl _)
    refine lenS a1 Job.enc rfl ?_
    refine fkS h (fun h => ?_) (fun h => ?_)
    · exact jeS hk1 h (Weak.refl _)
    refine caS (E := E_Bool) h (ref14_All_w a0 a1) rfl (fun _ => rfl) (fun x3 h => ?_)
    exact jeS hk1 h (Weak.refl _)
  refine fkS h (fun h => ?_) (fun h => ?_)
  · refine caS (E := E_Bool) h law14_knows_w rfl (fun _ => rfl) (fun x4 h => ?_)
    exact rt (E := E_Bool) h rfl
  refine ⟨29, ?_⟩
  refine lenS a1 Job.enc rfl ?_
  refine dvS h (fun h => ?_)
  refine ixS (enc := Job.enc) h rfl (fun _ => rfl) (fun x5 h => ?_)
  refine lenS a1 Job.enc rfl ?_
  refine dvS h (fun h => ?_)
  refine ixS (enc := Job.enc) h rfl (fun _ => rfl) (fun x6 h => ?_)
  refine lenS a1 Job.enc rfl ?_
  refine dvS h (fun h => ?_)
  refine ixS (enc := Job.enc) h rfl (fun _ => rfl) (fun x7 h => ?_)
  refine drS (by kernel_rfl) ?_
  refine jnS (fun w8 => ⟨[(11, .l (.ptr 12 0)), (12, .l (.ptr 13 0)), (13, .l (.ptr 14 0)), (69, .l (.d (.bool w8)))], 88, [], [(12, [.d (.int .i64 x5.Task), .d (.int .i64 x5.At), .d (.int .i64 x5.Due), .d (.int .i64 x5.Want), .d (.int .i64 x5.Had), .d (.bool x5.Began)]), (13, [.d (.int .i64 x6.Task), .d (.int .i64 x6.At), .d (.int .i64 x6.Due), .d (.int .i64 x6.Want), .d (.int .i64 x6.Had), .d (.bool x6.Began)]), (14, [.d (.int .i64 x7.Task), .d (.int .i64 x7.At), .d (.int .i64 x7.Due), .d (.int .i64 x7.Want), .d (.int .i64 x7.Had), .d (.bool x7.Began)])], []⟩) h (fun k8 hk8 h => ?_) (fun w8 h => ?_)
  · refine ⟨17, ?_⟩
    refine fkS h (fun h => ?_) (fun h => ?_)
    · refine daS (E := E_Bool) h (job_Ahead_w x5 x6) (fun _ => rfl) (fun x9 h => ?_)
      refine daS (E := E_Bool) h (job_Ahead_w x6 x5) (fun _ => rfl) (fun x10 h => ?_)
      refine fkS h (fun h => ?_) (fun h => ?_)
      · refine drS (by kernel_rfl) ?_
        exact jeS hk8 h (Weak.refl _)
      refine daS (E := E_Bool) h (job_Ahead_w x5 x5) (fun _ => rfl) (fun x11 h => ?_)
      refine drS (by kernel_rfl) ?_
      exact jeS hk8 h (Weak.refl _)
    refine daS (E := E_Bool) h (job_Ahead_w x5 x5) (fun _ => rfl) (fun x12 h => ?_)
    refine drS (by kernel_rfl) ?_
    exact jeS hk8 h (Weak.refl _)
  refine fkS h (fun h => ?_) (fun h => ?_)
  · exact rt (E := E_Bool) h rfl
  refine caS (E := E_Bool) h (job_Ahead_w x5 x6) rfl (fun _ => rfl) (fun x13 h => ?_)
  refine fkS h (fun h => ?_) (fun h => ?_)
  · refine caS (E := E_Bool) h law14_knows_w rfl (fun _ => rfl) (fun x14 h => ?_)
    exact rt (E := E_Bool) h rfl
  refine caS (E := E_Bool) h (job_Ahead_w x6 x7) rfl (fun _ => rfl) (fun x15 h => ?_)
  refine fkS h (fun h => ?_) (fun h => ?_)
  · refine caS (E := E_Bool) h law14_knows_w rfl (fun _ => rfl) (fun x16 h => ?_)
    exact rt (E := E_Bool) h rfl
  refine caS (E := E_Bool) h (job_Ahead_w x5 x7) rfl (fun _ => rfl) (fun x17 h => ?_)
  refine fkS h (fun h => ?_) (fun h => ?_)
  · refine caS (E := E_Bool) h law14_knows_w rfl (fun _ => rfl) (fun x18 h => ?_)
    exact rt (E := E_Bool) h rfl
  exact rt (E := E_Bool) h rfl

end Go.Proofs.Ytkhebjkplmidnaa
namespace Go.Proofs.Ytkhebjkplmidnaa
open Go Go.VC
noncomputable def job_Sort (a0 : List Job) : Option (List Job) :=
  lp (fun nx1 (v1 : (List Job) × Int) => fk (decide (v1.2 < (a0.length : Int))) (ix a0 v1.2 fun x2 => lp (fun nx3 (v3 : Int) => jn (fun (w4 : Bool) => fk w4 (nx3 (wr (v3 - (1 : Int)))) (ck (decide ((0 : Int) ≤ (0 : Int)) && decide ((0 : Int) ≤ v3) && decide (v3 ≤ (v1.1.length : Int))) (ck (decide ((0 : Int) ≤ v3) && decide (v3 ≤ (v1.1.length : Int)) && decide ((v1.1.length : Int) ≤ (v1.1.length : Int))) (ck (decide ((([x2] : List Job).length + ((v1.1.take ((v1.1.length : Int).toNat)).drop v3.toNat).length) * 48 ≤ 140737488355328)) (ck (decide (0 < (([x2] : List Job) ++ ((v1.1.take ((v1.1.length : Int).toNat)).drop v3.toNat)).length) && decide (v3.toNat ≤ v1.1.length) && decide ((v3.toNat + (([x2] : List Job) ++ ((v1.1.take ((v1.1.length : Int).toNat)).drop v3.toNat)).length) * 48 ≤ 140737488355328)) (nx1 (v1.1.take v3.toNat ++ (([x2] : List Job) ++ ((v1.1.take ((v1.1.length : Int).toNat)).drop v3.toNat)), (wr (v1.2 + (1 : Int)))))))))) (fun k4 => fk (decide (v3 > (0 : Int))) (ck (decide (0 ≤ (wr (v3 - (1 : Int)))) && decide ((wr (v3 - (1 : Int))) < (v1.1.length : Int))) (ox v1.1 ((wr (v3 - (1 : Int))).toNat) fun x5 => bnd (job_Ahead x2 x5) fun x6 => k4 x6)) (k4 false))) FU (v1.1.length : Int)) (some v1.1)) FU ([], (0 : Int))
theorem job_Sort_w (a0 : List Job) (r : List Job) (h : job_Sort a0 = some r) : Go.VC.Spec Try.prog 33 [.d (.sl (a0.map Job.enc))] (fun y => y = E_ListJob r) := by
  refine Go.VC.Spec.of_xc (args := [.d (.sl (a0.map Job.enc))]) (fn := Try.f33) tab ⟨[(0, [0]), (1, [0, 3]), (2, [3, 7, 8, 9]), (3, [3, 7, 8, 9, 10]), (4, [3, 5, 7, 8, 9]), (5, [3, 5, 6, 7, 8, 9]), (6, [3, 5, 6, 7, 8, 9, 25]), (7, [3, 5, 6, 7, 8, 9]), (8, [3, 7, 8, 9]), (9, [3, 7, 8, 9]), (10, [2])], [], [100025], []⟩ 41 [.tmp 2] rfl rfl rfl rfl rfl rfl ?_
  refine lenS a0 Job.enc rfl ?_
  refine lpS (fun v1 => ⟨[(3, .l (.own 4)), (7, .l (.d (.sl (a0.map Job.enc)))), (8, .l (.d (.int .i64 (a0.length : Int)))), (9, .l (.d (.int .i64 v1.2)))], 41, [], [], [(4, 50, 6, v1.1.map Job.enc)]⟩) h (Weak.trans (Weak.nilO _ 3 4 50 6 rfl) (Weak.refl _)) (fun _ nx1 hn1 v1 h => ?_)
  refine fkS h (fun h => ?_) (fun h => ?_)
  · refine ixS (enc := Job.enc) h rfl (fun _ => rfl) (fun x2 h => ?_)
    refine lenS v1.1 Job.enc rfl ?_
    refine lpS (fun v3 => ⟨[(3, .l (.own 4)), (5, .l (.ptr 6 0)), (6, .l (.d (.int .i64 v3))), (7, .l (.d (.sl (a0.map Job.enc)))), (8, .l (.d (.int .i64 (a0.length : Int)))), (9, .l (.d (.int .i64 v1.2)))], 41, [], [(6, [.d (.int .i64 x2.Task), .d (.int .i64 x2.At), .d (.int .i64 x2.Due), .d (.int .i64 x2.Want), .d (.int .i64 x2.Had), .d (.bool x2.Began)])], [(4, 50, 6, v1.1.map Job.enc)]⟩) h (Weak.refl _) (fun _ nx3 hn3 v3 h => ?_)
    refine jnS (fun w4 => ⟨[(3, .l (.own 4)), (5, .l (.ptr 6 0)), (6, .l (.d (.int .i64 v3))), (7, .l (.d (.sl (a0.map Job.enc)))), (8, .l (.d (.int .i64 (a0.length : Int)))), (9, .l (.d (.int .i64 v1.2))), (25, .l (.d (.bool w4)))], 41, [], [(6, [.d (.int .i64 x2.Task), .d (.int .i64 x2.At), .d (.int .i64 x2.Due), .d (.int .i64 x2.Want), .d (.int .i64 x2.Had), .d (.bool x2.Began)])], [(4, 50, 6, v1.1.map Job.enc)]⟩) h (fun k4 hk4 h => ?_) (fun w4 h => ?_)
    · refine ⟨11, ?_⟩
      refine fkS h (fun h => ?_) (fun h => ?_)
      · refine ioS (enc := Job.enc) h rfl (fun h => ?_)
        refine oxS (enc := Job.enc) h rfl (fun x5 h => ?_)
        refine daS (E := E_Bool) h (job_Ahead_w x2 x5) (fun _ => rfl) (fun x6 h => ?_)
        refine drS (by kernel_rfl) ?_
        exact jeS hk4 h (Weak.refl _)
      refine drS (by kernel_rfl) ?_
      exact jeS hk4 h (Weak.refl _)
    refine fkS h (fun h => ?_) (fun h => ?_)
    · exact leS hn3 h (Weak.refl _)
    refine ⟨10, ?_⟩
    refine soS (enc := Job.enc) h rfl rfl (.inr rfl) (fun h => ?_)
    refine liS ([x2] : List Job) Job.enc rfl rfl ?_
    refine soS (enc := Job.enc) h rfl rfl (.inl rfl) (fun h => ?_)
    refine apS (enc := Job.enc) (l1 := ([x2] : List Job)) (l2 := (v1.1.take ((v1.1.length : Int).toNat)).drop v3.toNat) h rfl (map_td _ _ _ _) (fun _ => rfl) (fun h => ?_)
    refine drS (by kernel_rfl) ?_
    refine avS (enc := Job.enc) (l1 := v1.1) (l2 := ([x2] : List Job) ++ ((v1.1.take ((v1.1.length : Int).toNat)).drop v3.toNat)) h rfl rfl rfl (fun _ => rfl) (fun h => ?_)
    exact leS hn1 h (Weak.refl _)
  exact rt (E := E_ListJob) h rfl

end Go.Proofs.Ytkhebjkplmidnaa
namespace Go.Proofs.Ytkhebjkplmidnaa
open Go Go.VC
noncomputable def ref14_Same (a0 : List Job) (a1 : List Job) : Option Bool :=
  fk (!decide ((a0.length : Int) = (a1.length : Int))) (some false) (lp (fun nx1 (v1 : Int) => fk (decide (v1 < (a0.length : Int))) (ix a0 v1 fun x2 => ix a1 v1 fun x3 => fk (!(eqI [.i .i64 x2.Task, .i .i64 x2.At, .i .i64 x2.Due, .i .i64 x2.Want, .i .i64 x2.Had, .b x2.Began] [.i .i64 x3.Task, .i .i64 x3.At, .i .i64 x3.Due, .i .i64 x3.Want, .i .i64 x3.Had, .b x3.Began])) (some false) (nx1 (wr (v1 + (1 : Int))))) (some true)) FU (0 : Int))
theorem ref14_Same_w (a0 : List Job) (a1 : List Job) (r : Bool) (h : ref14_Same a0 a1 = some r) : Go.VC.Spec Try.prog 34 [.d (.sl (a0.map Job.enc)), .d (.sl (a1.map Job.enc))] (fun y => y = E_Bool r) := by
  refine Go.VC.Spec.of_xc (args := [.d (.sl (a0.map Job.enc)), .d (.sl (a1.map Job.enc))]) (fn := Try.f34) tab ⟨[(0, [0, 1]), (1, [0, 1, 10]), (2, [4]), (3, [0, 1, 5]), (4, [0, 1, 5, 14]), (5, [0, 1, 5]), (6, [0, 1, 5, 25]), (7, [4]), (8, [4])], [], [], []⟩ 26 [.tmp 4] rfl rfl rfl rfl rfl rfl ?_
  refine lenS a0 Job.enc rfl ?_
  refine lenS a1 Job.enc rfl ?_
  refine fkS h (fun h => ?_) (fun h => ?_)
  · exact rt (E := E_Bool) h rfl
  refine lpS (fun v1 => ⟨[(0, .l (.d (.sl (a0.map Job.enc)))), (1, .l (.d (.sl (a1.map Job.enc)))), (5, .l (.d (.int .i64 v1)))], 26, [], [], []⟩) h (Weak.refl _) (fun _ nx1 hn1 v1 h => ?_)
  refine lenS a0 Job.enc rfl ?_
  refine fkS h (fun h => ?_) (fun h => ?_)
  · refine ⟨8, ?_⟩
    refine ixS (enc := Job.enc) h rfl (fun _ => rfl) (fun x2 h => ?_)
    refine ixS (enc := Job.enc) h rfl (fun _ => rfl) (fun x3 h => ?_)
    refine drS (by kernel_rfl) ?_
    refine fkS h (fun h => ?_) (fun h => ?_)
    · exact rt (E := E_Bool) h rfl
    exact leS hn1 h (Weak.refl _)
  exact rt (E := E_Bool) h rfl

end Go.Proofs.Ytkhebjkplmidnaa
namespace Go.Proofs.Ytkhebjkplmidnaa
open Go Go.VC
noncomputable def law14_JobFirst (a0 : List Task) (a1 : List Job) (a2 : Int) : Option Bool :=
  jn (fun (w1 : Bool) => fk w1 (bnd law14_knows fun x4 => some x4) (ck (decide ((a1.length : Int) ≠ 0)) (bnd (job_Sort a1) fun x5 => ck (decide ((0 : Int) ≤ ((IntKind.i64.wrap a2).tmod (a1.length : Int))) && decide (((IntKind.i64.wrap a2).tmod (a1.length : Int)) ≤ (a1.length : Int)) && decide ((a1.length : Int) ≤ (a1.length : Int))) (ck (decide ((([] : List Job).length + ((a1.take (a1.length : Int).toNat).drop ((IntKind.i64.wrap a2).tmod (a1.length : Int)).toNat).length) * 48 ≤ 140737488355328)) (ck (decide ((0 : Int) ≤ (0 : Int)) && decide ((0 : Int) ≤ ((IntKind.i64.wrap a2).tmod (a1.length : Int))) && decide (((IntKind.i64.wrap a2).tmod (a1.length : Int)) ≤ (a1.length : Int))) (ck (decide (((([] : List Job) ++ ((a1.take (a1.length : Int).toNat).drop ((IntKind.i64.wrap a2).tmod (a1.length : Int)).toNat)).length + ((a1.take ((IntKind.i64.wrap a2).tmod (a1.length : Int)).toNat).drop (0 : Int).toNat).length) * 48 ≤ 140737488355328)) (bnd (job_Sort ((([] : List Job) ++ ((a1.take (a1.length : Int).toNat).drop ((IntKind.i64.wrap a2).tmod (a1.length : Int)).toNat)) ++ ((a1.take ((IntKind.i64.wrap a2).tmod (a1.length : Int)).toNat).drop (0 : Int).toNat))) fun x6 => jn (fun (w7 : Bool) => fk w7 (some false) (ix x5 (0 : Int) fun x9 => bnd (job_First a1 x9.Began) fun x10 => fk (decide (x10 ≥ (0 : Int))) (fk (decide (x10 < (a1.length : Int))) (ix a1 x10 fun x11 => ix x5 (0 : Int) fun x12 => fk (eqI [.i .i64 x11.Task, .i .i64 x11.At, .i .i64 x11.Due, .i .i64 x11.Want, .i .i64 x11.Had, .b x11.Began] [.i .i64 x12.Task, .i .i64 x12.At, .i .i64 x12.Due, .i .i64 x12.Want, .i .i64 x12.Had, .b x12.Began]) (bnd law14_knows fun x13 => some x13) (some false)) (some false)) (some false))) (fun k7 => bnd (ref14_Same x5 x6) fun x8 => fk (!x8) (k7 true) (k7 (!decide ((x5.length : Int) = (a1.length : Int)))))))))))) (fun k1 => bnd (law14_Great a0 a1) fun x2 => fk x2 (k1 true) (fk (decide ((a1.length : Int) = (0 : Int))) (k1 true) (bnd (ref14_All a0 a1) fun x3 => k1 (!x3))))
theorem law14_JobFirst_w (a0 : List Task) (a1 : List Job) (a2 : Int) (r : Bool) (h : law14_JobFirst a0 a1 a2 = some r) : Go.VC.Spec Try.prog 9 [.d (.sl (a0.map Task.enc)), .d (.sl (a1.map Job.enc)), .d (.int .u8 a2)] (fun y => y = E_Bool r) := by
  refine Go.VC.Spec.of_xc (args := [.d (.sl (a0.map Task.enc)), .d (.sl (a1.map Job.enc)), .d (.int .u8 a2)]) (fn := Try.f9) tab ⟨[(0, [0, 1, 2]), (1, [1, 2, 24]), (2, [6]), (3, [1, 7]), (4, [1, 7, 8]), (5, [1, 8, 9]), (6, [1, 8, 53]), (7, [6]), (8, [1, 8, 10]), (9, [6])], [], [100024, 100053], []⟩ 81 [.tmp 6] rfl rfl rfl rfl rfl rfl ?_
  refine jnS (fun w1 => ⟨[(1, .l (.d (.sl (a1.map Job.enc)))), (2, .l (.d (.int .u8 a2))), (24, .l (.d (.bool w1)))], 81, [], [], []⟩) h (fun k1 hk1 h => ?_) (fun w1 h => ?_)
  · refine caS (E := E_Bool) h (law14_Great_w a0 a1) rfl (fun _ => rfl) (fun x2 h => ?_)
    refine fkS h (fun h => ?_) (fun h => ?_)
    · exact jeS hk1 h (Weak.refl _)
    refine lenS a1 Job.enc rfl ?_
    refine fkS h (fun h => ?_) (fun h => ?_)
    · exact jeS hk1 h (Weak.refl _)
    refine caS (E := E_Bool) h (ref14_All_w a0 a1) rfl (fun _ => rfl) (fun x3 h => ?_)
    exact jeS hk1 h (Weak.refl _)
  refine fkS h (fun h => ?_) (fun h => ?_)
  · refine caS (E := E_Bool) h law14_knows_w rfl (fun _ => rfl) (fun x4 h => ?_)
    exact rt (E := E_Bool) h rfl
  refine lenS a1 Job.enc rfl ?_
  refine dvS h (fun h => ?_)
  refine ccS (E := E_ListJob) h (job_Sort_w a1) rfl rfl (fun x5 h => ?_)
  refine ⟨8, ?_⟩
  refine liS ([] : List Job) Job.enc rfl rfl ?_
  refine slS (enc := Job.enc) h rfl rfl (.inl rfl) (fun _ => rfl) (fun h => ?_)
  refine apS (enc := Job.enc) (l1 := ([] : List Job)) (l2 := (a1.take (a1.length : Int).toNat).drop ((IntKind.i64.wrap a2).tmod (a1.length : Int)).toNat) h rfl rfl (fun _ => rfl) (fun h => ?_)
  refine slS (enc := Job.enc) h rfl rfl (.inl rfl) (fun _ => rfl) (fun h => ?_)
  refine drS (by kernel_rfl) ?_
  refine apS (enc := Job.enc) (l1 := ([] : List Job) ++ ((a1.take (a1.length : Int).toNat).drop ((IntKind.i64.wrap a2).tmod (a1.length : Int)).toNat)) (l2 := (a1.take ((IntKind.i64.wrap a2).tmod (a1.length : Int)).toNat).drop (0 : Int).toNat) h rfl rfl (fun _ => rfl) (fun h => ?_)
  refine iceS 42 ?_
  refine ccS (E := E_ListJob) h (job_Sort_w ((([] : List Job) ++ ((a1.take (a1.length : Int).toNat).drop ((IntKind.i64.wrap a2).tmod (a1.length : Int)).toNat)) ++ ((a1.take ((IntKind.i64.wrap a2).tmod (a1.length : Int)).toNat).drop (0 : Int).toNat))) rfl rfl (fun x6 h => ?_)
  refine jnS (fun w7 => ⟨[(1, .l (.d (.sl (a1.map Job.enc)))), (8, .l (.d (.sl (x5.map Job.enc)))), (53, .l (.d (.bool w7)))], 81, [], [], []⟩) h (fun k7 hk7 h => ?_) (fun w7 h => ?_)
  · refine caS (E := E_Bool) h (ref14_Same_w x5 x6) rfl (fun _ => rfl) (fun x8 h => ?_)
    refine fkS h (fun h => ?_) (fun h => ?_)
    · exact jeS hk7 h (Weak.refl _)
    refine lenS x5 Job.enc rfl ?_
    refine lenS a1 Job.enc rfl ?_
    exact jeS hk7 h (Weak.refl _)
  refine fkS h (fun h => ?_) (fun h => ?_)
  · exact rt (E := E_Bool) h rfl
  refine ixS (enc := Job.enc) h rfl (fun _ => rfl) (fun x9 h => ?_)
  refine caS (E := E_Int) h (job_First_w a1 x9.Began) rfl (fun _ => rfl) (fun x10 h => ?_)
  refine ⟨21, ?_⟩
  refine fkS h (fun h => ?_) (fun h => ?_)
  · refine lenS a1 Job.enc rfl ?_
    refine fkS h (fun h => ?_) (fun h => ?_)
    · refine ixS (enc := Job.enc) h rfl (fun _ => rfl) (fun x11 h => ?_)
      refine ixS (enc := Job.enc) h rfl (fun _ => rfl) (fun x12 h => ?_)
      refine fkS h (fun h => ?_) (fun h => ?_)
      · refine daS (E := E_Bool) h law14_knows_w (fun _ => rfl) (fun x13 h => ?_)
        refine drS (by kernel_rfl) ?_
        exact rt (E := E_Bool) h rfl
      refine drS (by kernel_rfl) ?_
      exact rt (E := E_Bool) h rfl
    refine drS (by kernel_rfl) ?_
    exact rt (E := E_Bool) h rfl
  refine drS (by kernel_rfl) ?_
  exact rt (E := E_Bool) h rfl

end Go.Proofs.Ytkhebjkplmidnaa
namespace Go.Proofs.Ytkhebjkplmidnaa
open Go Go.VC
theorem law14_knows_eq : law14_knows = some true := by kernel_rfl
def greatJ (l : List Task) (js : List Job) : Prop := GreatP l ∨ 50 < js.length
noncomputable instance (l : List Task) (js : List Job) : Decidable (greatJ l js) := Classical.propDecidable _
theorem law14_Great_eq (l : List Task) (js : List Job) (hl : l.length ≤ 4611686018427387904) : law14_Great l js = some (decide (greatJ l js)) := by
  unfold law14_Great
  rw [bnd_eq (law05_Great_eq l hl)]
  by_cases h : GreatP l
  · rw [decide_eq_true h, fk_t]; exact dec_t (.inl h)
  · rw [decide_eq_false h, fk_f]
    refine dec_iff ⟨fun h1 => .inr (by omega), fun h1 => ?_⟩
    rcases h1 with h1 | h1
    · exact absurd h1 h
    · omega
/-- what a job must be over tasks that are right -/
def bodyP (t : Task) (j : Job) : Prop := j.Due = j.At + t.D ∧ 1 ≤ j.Want ∧ j.Want ≤ 200 ∧ 0 ≤ j.Had ∧ j.Had < j.Want ∧ j.Had < t.C ∧ (j.Began = true ∨ j.Had = 0)
noncomputable instance (t : Task) (j : Job) : Decidable (bodyP t j) := Classical.propDecidable _
def jobP (l : List Task) (j : Job) : Prop := 0 ≤ j.Task ∧ 0 ≤ j.At ∧ j.At ≤ 4611686018427387703 ∧ ∃ h : j.Task.toNat < l.length, bodyP l[j.Task.toNat] j
noncomputable instance (l : List Task) (j : Job) : Decidable (jobP l j) := Classical.propDecidable _
theorem job_right_eq (l : List Task) (j : Job) (ha : AllP l) : job_right l j = some (decide (jobP l j)) := by
  unfold job_right
  simp only [jn_eq, fk_t, fk_f]
  by_cases c1 : j.Task < 0
  · rw [decide_eq_true c1, fk_t]; exact dec_f fun h => by have := h.1; omega
  rw [decide_eq_false c1, fk_f]
  by_cases c2 : j.Task ≥ (l.length : Int)
  · rw [decide_eq_true c2, fk_t]; exact dec_f fun h => by have := h.2.2.2.1; omega
  rw [decide_eq_false c2, fk_f]
  by_cases c3 : j.At < 0
  · rw [decide_eq_true c3, fk_t]; exact dec_f fun h => by have := h.2.1; omega
  rw [decide_eq_false c3, fk_f]
  by_cases c4 : j.At > 4611686018427387703
  · rw [decide_eq_true c4, fk_t]; exact dec_f fun h => by have := h.2.2.1; omega
  have ht : j.Task.toNat < l.length := by omega
  have hc := (ha.1 _ (List.getElem_mem ht)).c
  rw [decide_eq_false c4, fk_f, ix_int (by omega) ht, wr_in _ (by omega)]
  have red : decide (jobP l j) = decide (bodyP l[j.Task.toNat] j) := decide_eq_decide.2 ⟨fun h => h.2.2.2.2, fun h => ⟨by omega, by omega, by omega, ht, h⟩⟩
  rw [red]
  generalize l[j.Task.toNat] = t at *
  have hmin : j.Had < (if j.Want < t.C then j.Want else t.C) ↔ j.Had < j.Want ∧ j.Had < t.C := by
    by_cases c : j.Want < t.C
    · rw [if_pos c]; omega
    · rw [if_neg c]; omega
  by_cases d1 : j.Due = j.At + t.D
  rotate_left
  · rw [decide_eq_false d1, fk_f]; exact dec_f fun h => d1 h.1
  rw [decide_eq_true d1, fk_t]
  by_cases d2 : j.Want ≥ 1
  rotate_left
  · rw [decide_eq_false d2, fk_f]; exact dec_f fun h => d2 h.2.1
  rw [decide_eq_true d2, fk_t]
  by_cases d3 : j.Want ≤ 200
  rotate_left
  · rw [decide_eq_false d3, fk_f]; exact dec_f fun h => d3 h.2.2.1
  rw [decide_eq_true d3, fk_t]
  by_cases d4 : j.Had ≥ 0
  rotate_left
  · rw [decide_eq_false d4, fk_f]; exact dec_f fun h => d4 h.2.2.2.1
  rw [decide_eq_true d4, fk_t]
  by_cases d5 : j.Had < (if j.Want < t.C then j.Want else t.C)
  rotate_left
  · rw [decide_eq_false d5, fk_f]; exact dec_f fun h => d5 (hmin.2 ⟨h.2.2.2.2.1, h.2.2.2.2.2.1⟩)
  rw [decide_eq_true d5, fk_t]
  obtain ⟨d5, d6⟩ := hmin.1 d5
  by_cases d7 : j.Began = true
  · rw [d7, fk_t]; exact dec_t ⟨d1, d2, d3, d4, d5, d6, .inl d7⟩
  · rw [Bool.eq_false_iff.2 d7, fk_f]
    refine dec_iff ⟨fun h => ⟨d1, d2, d3, d4, d5, d6, .inr h⟩, fun h => ?_⟩
    rcases h.2.2.2.2.2.2 with h | h
    · exact absurd h d7
    · exact h
theorem ref14_Right_eq (l : List Task) (j : Job) (ha : AllP l) : ref14_Right l j = some (decide (jobP l j)) := by
  unfold ref14_Right
  simp only [jn_eq, fk_t, fk_f]
  by_cases c1 : j.Task < 0
  · rw [decide_eq_true c1, fk_t]; exact dec_f fun h => by have := h.1; omega
  rw [decide_eq_false c1, fk_f]
  by_cases c2 : j.Task ≥ (l.length : Int)
  · rw [decide_eq_true c2, fk_t]; exact dec_f fun h => by have := h.2.2.2.1; omega
  rw [decide_eq_false c2, fk_f]
  by_cases c3 : j.At < 0
  · rw [decide_eq_true c3, fk_t]; exact dec_f fun h => by have := h.2.1; omega
  rw [decide_eq_false c3, fk_f]
  by_cases c4 : j.At > 4611686018427387703
  · rw [decide_eq_true c4, fk_t]; exact dec_f fun h => by have := h.2.2.1; omega
  have ht : j.Task.toNat < l.length := by omega
  have hc := (ha.1 _ (List.getElem_mem ht)).c
  rw [decide_eq_false c4, fk_f, ix_int (by omega) ht, wr_in _ (by omega)]
  have red : decide (jobP l j) = decide (bodyP l[j.Task.toNat] j) := decide_eq_decide.2 ⟨fun h => h.2.2.2.2, fun h => ⟨by omega, by omega, by omega, ht, h⟩⟩
  rw [red]
  have hx : ∀ {f : Task → Option Bool}, ix l j.Task f = f l[j.Task.toNat] := fun {f} => ix_int (by omega) ht
  simp only [hx]
  generalize l[j.Task.toNat] = t at *
  by_cases d1 : j.Due = j.At + t.D
  rotate_left
  · rw [decide_eq_false d1, Bool.not_false, fk_t]; exact dec_f fun h => d1 h.1
  rw [decide_eq_true d1, Bool.not_true, fk_f]
  by_cases d2 : j.Want < 1
  · rw [decide_eq_true d2, fk_t]; exact dec_f fun h => by have := h.2.1; omega
  rw [decide_eq_false d2, fk_f]
  by_cases d3 : j.Want > 200
  · rw [decide_eq_true d3, fk_t]; exact dec_f fun h => by have := h.2.2.1; omega
  rw [decide_eq_false d3, fk_f]
  by_cases d4 : j.Had < 0
  · rw [decide_eq_true d4, fk_t]; exact dec_f fun h => by have := h.2.2.2.1; omega
  rw [decide_eq_false d4, fk_f]
  by_cases d5 : j.Had ≥ j.Want
  · rw [decide_eq_true d5, fk_t]; exact dec_f fun h => by have := h.2.2.2.2.1; omega
  rw [decide_eq_false d5, fk_f]
  by_cases d6 : j.Had ≥ t.C
  · rw [decide_eq_true d6, fk_t]; exact dec_f fun h => by have := h.2.2.2.2.2.1; omega
  rw [decide_eq_false d6, fk_f]
  by_cases d7 : j.Began = true
  · rw [d7, fk_t]; exact dec_t ⟨d1, by omega, by omega, by omega, by omega, by omega, .inl d7⟩
  · rw [Bool.eq_false_iff.2 d7, fk_f]
    refine dec_iff ⟨fun h => ⟨d1, by omega, by omega, by omega, by omega, by omega, .inr (by omega)⟩, fun h => ?_⟩
    rcases h.2.2.2.2.2.2 with h | h
    · exact absurd h d7
    · omega
end Go.Proofs.Ytkhebjkplmidnaa
namespace Go.Proofs.Ytkhebjkplmidnaa
open Go Go.VC
noncomputable def ref16_Filter (a0 : List Task) (a1 : List Int) (a2 : List Int) : Option (List Bool) :=
  lp (fun nx1 (v1 : (List Bool) × Int) => fk (decide (v1.2 < (a1.length : Int))) (ix a1 v1.2 fun x2 => ix a2 v1.2 fun x3 => jn (fun (w4 : Bool) => lp (fun nx5 (v5 : Int × Int) => fk (decide (v5.2 < v1.2)) (jn (fun (w6 : Int) => nx5 (w6, (wr (v5.2 + (1 : Int))))) (fun k6 => jn (fun (w7 : Bool) => fk w7 (ix a2 v5.2 fun x10 => k6 x10) (k6 v5.1)) (fun k7 => ck (decide (0 ≤ v5.2) && decide (v5.2 < (v1.1.length : Int))) (ox v1.1 v5.2.toNat fun x8 => fk x8 (ix a1 v5.2 fun x9 => k7 (decide (x9 = x2))) (k7 false))))) (jn (fun (w11 : Bool) => ck (decide ((v1.1.length + ([w11] : List Bool).length) * 1 ≤ 140737488355328)) (nx1 (v1.1 ++ ([w11] : List Bool), (wr (v1.2 + (1 : Int)))))) (fun k11 => jn (fun (w12 : Bool) => fk w12 (k11 false) (k11 w4)) (fun k12 => fk w4 (fk (decide (v5.1 ≥ (0 : Int))) (ix a0 x2 fun x13 => k12 (decide ((wr (x3 - v5.1)) < x13.T))) (k12 false)) (k12 false))))) FU ((-1 : Int), (0 : Int))) (fun k4 => fk (decide (x2 ≥ (0 : Int))) (fk (decide (x2 < (a0.length : Int))) (fk (decide (x3 ≥ (0 : Int))) (k4 (decide (x3 ≤ (4611686018427387703 : Int)))) (k4 false)) (k4 false)) (k4 false))) (some v1.1)) FU ([], (0 : Int))
theorem ref16_Filter_w (a0 : List Task) (a1 : List Int) (a2 : List Int) (r : List Bool) (h : ref16_Filter a0 a1 a2 = some r) : Go.VC.Spec Try.prog 24 [.d (.sl (a0.map Task.enc)), .d (.sl (a1.map (eI .i64))), .d (.sl (a2.map (eI .i64)))] (fun y => y = E_ListBool r) := by
  refine Go.VC.Spec.of_xc (args := [.d (.sl (a0.map Task.enc)), .d (.sl (a1.map (eI .i64))), .d (.sl (a2.map (eI .i64)))]) (fn := Try.f24) tab ⟨[(0, [0, 1, 2]), (1, [0, 1, 2, 7]), (2, [0, 1, 2, 7, 8]), (3, [0, 1, 2, 7, 8, 17]), (4, [0, 1, 2, 7, 8]), (5, [0, 1, 2, 7, 8, 9, 10]), (6, [0, 1, 2, 7, 8, 9, 10, 11]), (7, [0, 1, 2, 7, 8, 9, 10, 11, 12]), (8, [0, 1, 2, 7, 8, 9, 10, 11, 12, 13]), (9, [0, 1, 2, 7, 8, 9, 10, 11, 12, 13, 46]), (10, [0, 1, 2, 7, 8, 9, 10, 11, 12, 13]), (11, [0, 1, 2, 7, 8, 9, 10, 11, 12, 13, 60]), (12, [0, 1, 2, 7, 8, 9, 10, 11, 12, 13]), (13, [0, 1, 2, 7, 8, 11, 80]), (14, [0, 1, 2, 7, 8, 11]), (15, [0, 1, 2, 7, 8]), (16, [6])], [], [100060, 10, 100080, 15, 7], []⟩ 86 [.tmp 6] rfl rfl rfl rfl rfl rfl ?_
  refine lpS (fun v1 => ⟨[(0, .l (.d (.sl (a0.map Task.enc)))), (1, .l (.d (.sl (a1.map (eI .i64))))), (2, .l (.d (.sl (a2.map (eI .i64))))), (7, .l (.own 8)), (8, .l (.d (.int .i64 v1.2)))], 86, [], [], [(8, 4, 1, v1.1.map eB)]⟩) h (Weak.trans (Weak.nilO _ 7 8 4 1 rfl) (Weak.refl _)) (fun _ nx1 hn1 v1 h => ?_)
  refine lenS a1 (eI .i64) rfl ?_
  refine fkS h (fun h => ?_) (fun h => ?_)
  · refine ⟨9, ?_⟩
    refine ixS (enc := (eI .i64)) h rfl (fun _ => rfl) (fun x2 h => ?_)
    refine ixS (enc := (eI .i64)) h rfl (fun _ => rfl) (fun x3 h => ?_)
    refine drS (by kernel_rfl) ?_
    refine jnS (fun w4 => ⟨[(0, .l (.d (.sl (a0.map Task.enc)))), (1, .l (.d (.sl (a1.map (eI .i64))))), (2, .l (.d (.sl (a2.map (eI .i64))))), (7, .l (.own 8)), (8, .l (.d (.int .i64 v1.2))), (9, .l (.d (.int .i64 x2))), (10, .l (.d (.int .i64 x3))), (11, .l (.d (.bool w4)))], 86, [], [], [(8, 4, 1, v1.1.map eB)]⟩) h (fun k4 hk4 h => ?_) (fun w4 h => ?_)
    · refine fkS h (fun h => ?_) (fun h => ?_)
      · refine lenS a0 Task.enc rfl ?_
        refine fkS h (fun h => ?_) (fun h => ?_)
        · refine fkS h (fun h => ?_) (fun h => ?_)
          · exact jeS hk4 h (Weak.refl _)
          exact jeS hk4 h (Weak.refl _)
        exact jeS hk4 h (Weak.refl _)
      exact jeS hk4 h (Weak.refl _)
    refine lpS (fun v5 => ⟨[(0, .l (.d (.sl (a0.map Task.enc)))), (1, .l (.d (.sl (a1.map (eI .i64))))), (2, .l (.d (.sl (a2.map (eI .i64))))), (7, .l (.own 8)), (8, .l (.d (.int .i64 v1.2))), (9, .l (.d (.int .i64 x2))), (10, .l (.d (.int .i64 x3))), (11, .l (.d (.bool w4))), (12, .l (.d (.int .i64 v5.1))), (13, .l (.d (.int .i64 v5.2)))], 86, [], [], [(8, 4, 1, v1.1.map eB)]⟩) h (Weak.refl _) (fun _ nx5 hn5 v5 h => ?_)
    refine fkS h (fun h => ?_) (fun h => ?_)
    · refine jnS (fun w6 => ⟨[(0, .l (.d (.sl (a0.map Task.enc)))), (1, .l (.d (.sl (a1.map (eI .i64))))), (2, .l (.d (.sl (a2.map (eI .i64))))), (7, .l (.own 8)), (8, .l (.d (.int .i64 v1.2))), (9, .l (.d (.int .i64 x2))), (10, .l (.d (.int .i64 x3))), (11, .l (.d (.bool w4))), (12, .l (.d (.int .i64 w6))), (13, .l (.d (.int .i64 v5.2)))], 86, [], [], [(8, 4, 1, v1.1.map eB)]⟩) h (fun k6 hk6 h => ?_) (fun w6 h => ?_)
      · refine jnS (fun w7 => ⟨[(0, .l (.d (.sl (a0.map Task.enc)))), (1, .l (.d (.sl (a1.map (eI .i64))))), (2, .l (.d (.sl (a2.map (eI .i64))))), (7, .l (.own 8)), (8, .l (.d (.int .i64 v1.2))), (9, .l (.d (.int .i64 x2))), (10, .l (.d (.int .i64 x3))), (11, .l (.d (.bool w4))), (12, .l (.d (.int .i64 v5.1))), (13, .l (.d (.int .i64 v5.2))), (60, .l (.d (.bool w7)))], 86, [], [], [(8, 4, 1, v1.1.map eB)]⟩) h (fun k7 hk7 h => ?_) (fun w7 h => ?_)
        · refine ioS (enc := eB) h rfl (fun h => ?_)
          refine oxS (enc := eB) h rfl (fun x8 h => ?_)
          refine fkS h (fun h => ?_) (fun h => ?_)
          · refine ixS (enc := (eI .i64)) h rfl (fun _ => rfl) (fun x9 h => ?_)
            exact jeS hk7 h (Weak.refl _)
          exact jeS hk7 h (Weak.refl _)
        refine fkS h (fun h => ?_) (fun h => ?_)
        · refine ixS (enc := (eI .i64)) h rfl (fun _ => rfl) (fun x10 h => ?_)
          exact jeS hk6 h (Weak.refl _)
        exact jeS hk6 h (Weak.trans (Weak.keepS _ [0, 1, 2, 7, 8, 9, 10, 11, 12, 13]) (Weak.refl _))
      exact leS hn5 h (Weak.refl _)
    refine jnS (fun w11 => ⟨[(0, .l (.d (.sl (a0.map Task.enc)))), (1, .l (.d (.sl (a1.map (eI .i64))))), (2, .l (.d (.sl (a2.map (eI .i64))))), (7, .l (.own 8)), (8, .l (.d (.int .i64 v1.2))), (11, .l (.d (.bool w11)))], 86, [], [], [(8, 4, 1, v1.1.map eB)]⟩) h (fun k11 hk11 h => ?_) (fun w11 h => ?_)
    · refine jnS (fun w12 => ⟨[(0, .l (.d (.sl (a0.map Task.enc)))), (1, .l (.d (.sl (a1.map (eI .i64))))), (2, .l (.d (.sl (a2.map (eI .i64))))), (7, .l (.own 8)), (8, .l (.d (.int .i64 v1.2))), (11, .l (.d (.bool w4))), (80, .l (.d (.bool w12)))], 86, [], [], [(8, 4, 1, v1.1.map eB)]⟩) h (fun k12 hk12 h => ?_) (fun w12 h => ?_)
      · refine fkS h (fun h => ?_) (fun h => ?_)
        · refine fkS h (fun h => ?_) (fun h => ?_)
          · refine ixS (enc := Task.enc) h rfl (fun _ => rfl) (fun x13 h => ?_)
            exact jeS hk12 h (Weak.refl _)
          exact jeS hk12 h (Weak.refl _)
        exact jeS hk12 h (Weak.refl _)
      refine fkS h (fun h => ?_) (fun h => ?_)
      · exact jeS hk11 h (Weak.refl _)
      exact jeS hk11 h (Weak.trans (Weak.keepS _ [0, 1, 2, 7, 8, 11]) (Weak.refl _))
    refine liS ([w11] : List Bool) eB rfl rfl ?_
    refine apS (enc := eB) (l1 := v1.1) (l2 := ([w11] : List Bool)) h rfl rfl (fun _ => rfl) (fun h => ?_)
    exact leS hn1 h (Weak.refl _)
  exact rt (E := E_ListBool) h rfl

end Go.Proofs.Ytkhebjkplmidnaa
namespace Go.Proofs.Ytkhebjkplmidnaa
open Go Go.VC
noncomputable def ref16_Right (a0 : List Task) (a1 : List Int) : Option Bool :=
  jn (fun (w1 : Bool) => fk w1 (some false) (lp (fun nx3 (v3 : Int) => fk (decide (v3 < (a1.length : Int))) (jn (fun (w4 : Bool) => fk w4 (some false) (nx3 (wr (v3 + (1 : Int))))) (fun k4 => ix a1 v3 fun x5 => fk (decide (x5 < (-1 : Int))) (k4 true) (ix a1 v3 fun x6 => k4 (decide (x6 > (4611686018427387903 : Int)))))) (some true)) FU (0 : Int))) (fun k1 => fk (!decide ((a1.length : Int) = (a0.length : Int))) (k1 true) (bnd (ref05_All a0) fun x2 => k1 (!x2)))
theorem ref16_Right_w (a0 : List Task) (a1 : List Int) (r : Bool) (h : ref16_Right a0 a1 = some r) : Go.VC.Spec Try.prog 19 [.d (.sl (a0.map Task.enc)), .d (.sl (a1.map (eI .i64)))] (fun y => y = E_Bool r) := by
  refine Go.VC.Spec.of_xc (args := [.d (.sl (a0.map Task.enc)), .d (.sl (a1.map (eI .i64)))]) (fn := Try.f19) tab ⟨[(0, [0, 1]), (1, [1, 15]), (2, [4]), (3, [1, 5]), (4, [1, 5, 19]), (5, [1, 5]), (6, [1, 5, 33]), (7, [4]), (8, [4])], [], [100015, 100033], []⟩ 34 [.tmp 4] rfl rfl rfl rfl rfl rfl ?_
  refine jnS (fun w1 => ⟨[(1, .l (.d (.sl (a1.map (eI .i64))))), (15, .l (.d (.bool w1)))], 34, [], [], []⟩) h (fun k1 hk1 h => ?_) (fun w1 h => ?_)
  · refine lenS a1 (eI .i64) rfl ?_
    refine lenS a0 Task.enc rfl ?_
    refine fkS h (fun h => ?_) (fun h => ?_)
    · exact jeS hk1 h (Weak.refl _)
    refine caS (E := E_Bool) h (ref05_All_w a0) rfl (fun _ => rfl) (fun x2 h => ?_)
    exact jeS hk1 h (Weak.refl _)
  refine fkS h (fun h => ?_) (fun h => ?_)
  · exact rt (E := E_Bool) h rfl
  refine lpS (fun v3 => ⟨[(1, .l (.d (.sl (a1.map (eI .i64))))), (5, .l (.d (.int .i64 v3)))], 34, [], [], []⟩) h (Weak.refl _) (fun _ nx3 hn3 v3 h => ?_)
  refine lenS a1 (eI .i64) rfl ?_
  refine fkS h (fun h => ?_) (fun h => ?_)
  · refine jnS (fun w4 => ⟨[(1, .l (.d (.sl (a1.map (eI .i64))))), (5, .l (.d (.int .i64 v3))), (33, .l (.d (.bool w4)))], 34, [], [], []⟩) h (fun k4 hk4 h => ?_) (fun w4 h => ?_)
    · refine ixS (enc := (eI .i64)) h rfl (fun _ => rfl) (fun x5 h => ?_)
      refine fkS h (fun h => ?_) (fun h => ?_)
      · exact jeS hk4 h (Weak.refl _)
      refine ixS (enc := (eI .i64)) h rfl (fun _ => rfl) (fun x6 h => ?_)
      exact jeS hk4 h (Weak.refl _)
    refine fkS h (fun h => ?_) (fun h => ?_)
    · exact rt (E := E_Bool) h rfl
    exact leS hn3 h (Weak.refl _)
  exact rt (E := E_Bool) h rfl

end Go.Proofs.Ytkhebjkplmidnaa
namespace Go.Proofs.Ytkhebjkplmidnaa
open Go Go.VC
noncomputable def ref16_May (a0 : List Task) (a1 : List Int) (a2 : Int) (a3 : Int) : Option Int :=
  jn (fun (w1 : Bool) => fk w1 (some (1 : Int)) (jn (fun (w3 : Bool) => fk w3 (some (6 : Int)) (some (0 : Int))) (fun k3 => ix a1 a2 fun x4 => fk (decide (x4 ≥ (0 : Int))) (ix a1 a2 fun x5 => ix a0 a2 fun x6 => k3 (decide ((wr (a3 - x5)) < x6.T))) (k3 false)))) (fun k1 => bnd (ref16_Right a0 a1) fun x2 => fk (!x2) (k1 true) (fk (decide (a2 < (0 : Int))) (k1 true) (fk (decide (a2 ≥ (a0.length : Int))) (k1 true) (fk (decide (a3 < (0 : Int))) (k1 true) (k1 (decide (a3 > (4611686018427387703 : Int))))))))
theorem ref16_May_w (a0 : List Task) (a1 : List Int) (a2 : Int) (a3 : Int) (r : Int) (h : ref16_May a0 a1 a2 a3 = some r) : Go.VC.Spec Try.prog 16 [.d (.sl (a0.map Task.enc)), .d (.sl (a1.map (eI .i64))), .d (.int .i64 a2), .d (.int .i64 a3)] (fun y => y = E_Int r) := by
  refine Go.VC.Spec.of_xc (args := [.d (.sl (a0.map Task.enc)), .d (.sl (a1.map (eI .i64))), .d (.int .i64 a2), .d (.int .i64 a3)]) (fn := Try.f16) tab ⟨[(0, [0, 1, 2, 3]), (1, [0, 1, 2, 3, 30]), (2, [8]), (3, [49]), (4, [8]), (5, [8])], [], [100030, 100049], []⟩ 50 [.tmp 8] rfl rfl rfl rfl rfl rfl ?_
  refine jnS (fun w1 => ⟨[(0, .l (.d (.sl (a0.map Task.enc)))), (1, .l (.d (.sl (a1.map (eI .i64))))), (2, .l (.d (.int .i64 a2))), (3, .l (.d (.int .i64 a3))), (30, .l (.d (.bool w1)))], 50, [], [], []⟩) h (fun k1 hk1 h => ?_) (fun w1 h => ?_)
  · refine caS (E := E_Bool) h (ref16_Right_w a0 a1) rfl (fun _ => rfl) (fun x2 h => ?_)
    refine fkS h (fun h => ?_) (fun h => ?_)
    · exact jeS hk1 h (Weak.refl _)
    refine fkS h (fun h => ?_) (fun h => ?_)
    · exact jeS hk1 h (Weak.refl _)
    refine lenS a0 Task.enc rfl ?_
    refine fkS h (fun h => ?_) (fun h => ?_)
    · exact jeS hk1 h (Weak.refl _)
    refine fkS h (fun h => ?_) (fun h => ?_)
    · exact jeS hk1 h (Weak.refl _)
    exact jeS hk1 h (Weak.refl _)
  refine fkS h (fun h => ?_) (fun h => ?_)
  · exact rt (E := E_Int) h rfl
  refine jnS (fun w3 => ⟨[(49, .l (.d (.bool w3)))], 50, [], [], []⟩) h (fun k3 hk3 h => ?_) (fun w3 h => ?_)
  · refine ⟨19, ?_⟩
    refine ixS (enc := (eI .i64)) h rfl (fun _ => rfl) (fun x4 h => ?_)
    refine fkS h (fun h => ?_) (fun h => ?_)
    · refine ixS (enc := (eI .i64)) h rfl (fun _ => rfl) (fun x5 h => ?_)
      refine ixS (enc := Task.enc) h rfl (fun _ => rfl) (fun x6 h => ?_)
      refine drS (by kernel_rfl) ?_
      exact jeS hk3 h (Weak.refl _)
    refine drS (by kernel_rfl) ?_
    exact jeS hk3 h (Weak.refl _)
  refine fkS h (fun h => ?_) (fun h => ?_)
  · exact rt (E := E_Int) h rfl
  exact rt (E := E_Int) h rfl

end Go.Proofs.Ytkhebjkplmidnaa
namespace Go.Proofs.Ytkhebjkplmidnaa
open Go Go.VC
noncomputable def law16_parts (a0 : List PoliceAsk) : Option ((List Int) × (List Int)) :=
  lp (fun nx1 (v1 : (List Int) × (List Int) × Int) => fk (decide (v1.2.2 < (a0.length : Int))) (ix a0 v1.2.2 fun x2 => ck (decide ((v1.1.length + ([x2.Task] : List Int).length) * 8 ≤ 140737488355328)) (ix a0 v1.2.2 fun x3 => ck (decide ((v1.2.1.length + ([x3.At] : List Int).length) * 8 ≤ 140737488355328)) (nx1 (v1.1 ++ ([x2.Task] : List Int), v1.2.1 ++ ([x3.At] : List Int), (wr (v1.2.2 + (1 : Int))))))) (some (v1.1, v1.2.1))) FU ([], [], (0 : Int))
theorem law16_parts_w (a0 : List PoliceAsk) (r : (List Int) × (List Int)) (h : law16_parts a0 = some r) : Go.VC.Spec Try.prog 23 [.d (.sl (a0.map PoliceAsk.enc))] (fun y => y = E_ListInt_ListInt r) := by
  refine Go.VC.Spec.of_xc (args := [.d (.sl (a0.map PoliceAsk.enc))]) (fn := Try.f23) tab ⟨[(0, [0]), (1, [0, 4, 5]), (2, [0, 4, 5, 6]), (3, [0, 4, 5, 6, 10]), (4, [0, 4, 5, 6]), (5, [0, 4, 5, 6]), (6, [0, 4, 5, 6]), (7, [2, 3])], [], [], []⟩ 31 [.tmp 2, .tmp 3] rfl rfl rfl rfl rfl rfl ?_
  refine lpS (fun v1 => ⟨[(0, .l (.d (.sl (a0.map PoliceAsk.enc)))), (4, .l (.own 5)), (5, .l (.own 6)), (6, .l (.d (.int .i64 v1.2.2)))], 31, [], [], [(5, 3, 1, v1.1.map (eI .i64)), (6, 3, 1, v1.2.1.map (eI .i64))]⟩) h (Weak.trans (Weak.nilO _ 4 5 3 1 rfl) (Weak.trans (Weak.nilO _ 5 6 3 1 rfl) (Weak.refl _))) (fun _ nx1 hn1 v1 h => ?_)
  refine lenS a0 PoliceAsk.enc rfl ?_
  refine fkS h (fun h => ?_) (fun h => ?_)
  · refine ixS (enc := PoliceAsk.enc) h rfl (fun _ => rfl) (fun x2 h => ?_)
    refine liS ([x2.Task] : List Int) (eI .i64) rfl rfl ?_
    refine apS (enc := (eI .i64)) (l1 := v1.1) (l2 := ([x2.Task] : List Int)) h rfl rfl (fun _ => rfl) (fun h => ?_)
    refine ixS (enc := PoliceAsk.enc) h rfl (fun _ => rfl) (fun x3 h => ?_)
    refine liS ([x3.At] : List Int) (eI .i64) rfl rfl ?_
    refine apS (enc := (eI .i64)) (l1 := v1.2.1) (l2 := ([x3.At] : List Int)) h rfl rfl (fun _ => rfl) (fun h => ?_)
    exact leS hn1 h (Weak.refl _)
  exact rt (E := E_ListInt_ListInt) h rfl

end Go.Proofs.Ytkhebjkplmidnaa
namespace Go.Proofs.Ytkhebjkplmidnaa
open Go Go.VC

/-! Releases, not too early. -/
def lastsP (l : List Task) (ls : List Int) : Prop := AllP l ∧ ls.length = l.length ∧ ∀ x ∈ ls, -1 ≤ x ∧ x ≤ 4611686018427387903
noncomputable instance (l : List Task) (ls : List Int) : Decidable (lastsP l ls) := Classical.propDecidable _
def argP (l : List Task) (ls : List Int) (i t : Int) : Prop := lastsP l ls ∧ 0 ≤ i ∧ i < (l.length : Int) ∧ 0 ≤ t ∧ t ≤ 4611686018427387703
noncomputable instance (l : List Task) (ls : List Int) (i t : Int) : Decidable (argP l ls i t) := Classical.propDecidable _
def lg (ls : List Int) (i : Int) : Int := (ls[i.toNat]?).getD 0
def tT (l : List Task) (i : Int) : Int := match l[i.toNat]? with | some t => t.T | none => 0
theorem lg_lt {ls : List Int} {i : Int} (h : i.toNat < ls.length) : lg ls i = ls[i.toNat] := by unfold lg; rw [List.getElem?_eq_getElem h]; rfl
theorem tT_lt {l : List Task} {i : Int} (h : i.toNat < l.length) : tT l i = l[i.toNat].T := by unfold tT; rw [List.getElem?_eq_getElem h]
noncomputable def mayV (l : List Task) (ls : List Int) (i t : Int) : Int := if argP l ls i t then (if lg ls i ≠ -1 ∧ t < lg ls i + tT l i then 6 else 0) else 1
theorem police_Right_eq (l : List Task) (ls : List Int) (hl : l.length ≤ 4611686018427387904) (hs : ls.length ≤ 4611686018427387904) : police_Right l ls = some (decide (lastsP l ls)) := by
  unfold police_Right
  simp only [jn_eq, fk_t, fk_f]
  rw [bnd_eq (task_All_eq l hl)]
  by_cases ha : AllP l
  rotate_left
  · rw [decide_eq_false ha, Bool.not_false, fk_t]; exact dec_f fun h => ha h.1
  rw [decide_eq_true ha, Bool.not_true, fk_f]
  by_cases hn : (ls.length : Int) = (l.length : Int)
  rotate_left
  · rw [decide_eq_false hn, Bool.not_false, fk_t]; exact dec_f fun h => hn (by rw [h.2.1])
  rw [decide_eq_true hn, Bool.not_true, fk_f]
  refine lp_up ls.length (by unfold FU; omega) (fun k => ∀ i (h : i < ls.length), i < k → -1 ≤ ls[i] ∧ ls[i] ≤ 4611686018427387903) (fun i _ h => by omega) ?_
  intro nx k hk J hnx
  rw [lt_nat]
  by_cases h : k < ls.length
  rotate_left
  · rw [decide_eq_false h, fk_f]
    refine dec_t ⟨ha, by omega, fun x hx => ?_⟩
    obtain ⟨i, hi, rfl⟩ := List.getElem_of_mem hx
    exact J i hi (by omega)
  rw [decide_eq_true h, fk_t, ix_lt h, wr_succ k _ h hs]
  by_cases c1 : ls[k] < -1
  · rw [decide_eq_true c1, fk_t]; exact dec_f fun h2 => by have := (h2.2.2 _ (List.getElem_mem h)).1; omega
  rw [decide_eq_false c1, fk_f]
  by_cases c2 : ls[k] > 4611686018427387903
  · rw [decide_eq_true c2, fk_t]; exact dec_f fun h2 => by have := (h2.2.2 _ (List.getElem_mem h)).2; omega
  rw [decide_eq_false c2, fk_f]
  refine hnx h fun i hi hik => ?_
  by_cases e : i = k
  · subst e; omega
  · exact J i hi (by omega)
theorem ref16_Right_eq (l : List Task) (ls : List Int) (hl : l.length ≤ 4611686018427387904) (hsl : ∀ t ∈ l, t.Secs.length ≤ 4611686018427387904) (hs : ls.length ≤ 4611686018427387904) : ref16_Right l ls = some (decide (lastsP l ls)) := by
  unfold ref16_Right
  simp only [jn_eq, fk_t, fk_f]
  by_cases hn : (ls.length : Int) = (l.length : Int)
  rotate_left
  · rw [decide_eq_false hn, Bool.not_false, fk_t]; exact dec_f fun h => hn (by rw [h.2.1])
  rw [decide_eq_true hn, Bool.not_true, fk_f, bnd_eq (ref05_All_eq l hl hsl)]
  by_cases ha : AllP l
  rotate_left
  · rw [decide_eq_false ha, Bool.not_false, fk_t]; exact dec_f fun h => ha h.1
  rw [decide_eq_true ha, Bool.not_true, fk_f]
  refine lp_up ls.length (by unfold FU; omega) (fun k => ∀ i (h : i < ls.length), i < k → -1 ≤ ls[i] ∧ ls[i] ≤ 4611686018427387903) (fun i _ h => by omega) ?_
  intro nx k hk J hnx
  rw [lt_nat]
  by_cases h : k < ls.length
  rotate_left
  · rw [decide_eq_false h, fk_f]
    refine dec_t ⟨ha, by omega, fun x hx => ?_⟩
    obtain ⟨i, hi, rfl⟩ := List.getElem_of_mem hx
    exact J i hi (by omega)
  rw [decide_eq_true h, fk_t]
  simp only [ix_lt h]
  rw [wr_succ k _ h hs]
  by_cases c1 : ls[k] < -1
  · rw [decide_eq_true c1, fk_t]; exact dec_f fun h2 => by have := (h2.2.2 _ (List.getElem_mem h)).1; omega
  rw [decide_eq_false c1, fk_f]
  by_cases c2 : ls[k] > 4611686018427387903
  · rw [decide_eq_true c2, fk_t]; exact dec_f fun h2 => by have := (h2.2.2 _ (List.getElem_mem h)).2; omega
  rw [decide_eq_false c2, fk_f]
  refine hnx h fun i hi hik => ?_
  by_cases e : i = k
  · subst e; omega
  · exact J i hi (by omega)
theorem argP_idx {l : List Task} {ls : List Int} {i t : Int} (h : argP l ls i t) : i.toNat < l.length ∧ i.toNat < ls.length := by
  have := h.1.2.1; have := h.2.1; have := h.2.2.1; omega
theorem argP_b {l : List Task} {ls : List Int} {i t : Int} (h : argP l ls i t) : -1 ≤ lg ls i ∧ lg ls i ≤ 4611686018427387903 ∧ 1 ≤ tT l i ∧ tT l i ≤ 200 := by
  obtain ⟨h1, h2⟩ := argP_idx h
  rw [lg_lt h2, tT_lt h1]
  have a := h.1.2.2 _ (List.getElem_mem h2)
  have b := (h.1.1.1 _ (List.getElem_mem h1)).1
  unfold ownP at b
  omega
theorem police_May_eq (l : List Task) (ls : List Int) (i t : Int) (hl : l.length ≤ 4611686018427387904) (hs : ls.length ≤ 4611686018427387904) : police_May l ls i t = some (mayV l ls i t) := by
  unfold police_May mayV
  simp only [jn_eq, fk_t, fk_f]
  rw [bnd_eq (police_Right_eq l ls hl hs)]
  by_cases ha : lastsP l ls
  rotate_left
  · rw [decide_eq_false ha, Bool.not_false, fk_t, if_neg (fun h => ha h.1)]
  rw [decide_eq_true ha, Bool.not_true, fk_f]
  by_cases c1 : i < 0
  · rw [decide_eq_true c1, fk_t, if_neg (fun h => by have := h.2.1; omega)]
  rw [decide_eq_false c1, fk_f]
  by_cases c2 : i ≥ (l.length : Int)
  · rw [decide_eq_true c2, fk_t, if_neg (fun h => by have := h.2.2.1; omega)]
  rw [decide_eq_false c2, fk_f]
  by_cases c3 : t < 0
  · rw [decide_eq_true c3, fk_t, if_neg (fun h => by have := h.2.2.2.1; omega)]
  rw [decide_eq_false c3, fk_f]
  by_cases c4 : t > 4611686018427387703
  · rw [decide_eq_true c4, fk_t, if_neg (fun h => by have := h.2.2.2.2; omega)]
  have hA : argP l ls i t := ⟨ha, by omega, by omega, by omega, by omega⟩
  obtain ⟨h1, h2⟩ := argP_idx hA
  have hb := argP_b hA
  rw [decide_eq_false c4, fk_f, if_pos hA]
  have i2 : ∀ {f : Int → Option Int}, ix ls i f = f (lg ls i) := fun {f} => by rw [lg_lt h2]; exact ix_int (by omega) h2
  have i1 : ∀ {f : Task → Option Int}, ix l i f = f l[i.toNat] := fun {f} => ix_int (by omega) h1
  simp only [i1, i2]
  rw [← tT_lt h1]
  by_cases c5 : lg ls i = -1
  · rw [decide_eq_true c5, Bool.not_true, fk_f, if_neg (fun h => h.1 c5)]
  rw [decide_eq_false c5, Bool.not_false, fk_t, wr_in _ (by omega)]
  by_cases c6 : t < lg ls i + tT l i
  · rw [decide_eq_true c6, fk_t, if_pos ⟨c5, c6⟩]
  · rw [decide_eq_false c6, fk_f, if_neg (fun h => c6 h.2)]
theorem ref16_May_eq (l : List Task) (ls : List Int) (i t : Int) (hl : l.length ≤ 4611686018427387904) (hsl : ∀ t ∈ l, t.Secs.length ≤ 4611686018427387904) (hs : ls.length ≤ 4611686018427387904) : ref16_May l ls i t = some (mayV l ls i t) := by
  unfold ref16_May mayV
  simp only [jn_eq, fk_t, fk_f]
  rw [bnd_eq (ref16_Right_eq l ls hl hsl hs)]
  by_cases ha : lastsP l ls
  rotate_left
  · rw [decide_eq_false ha, Bool.not_false, fk_t, if_neg (fun h => ha h.1)]
  rw [decide_eq_true ha, Bool.not_true, fk_f]
  by_cases c1 : i < 0
  · rw [decide_eq_true c1, fk_t, if_neg (fun h => by have := h.2.1; omega)]
  rw [decide_eq_false c1, fk_f]
  by_cases c2 : i ≥ (l.length : Int)
  · rw [decide_eq_true c2, fk_t, if_neg (fun h => by have := h.2.2.1; omega)]
  rw [decide_eq_false c2, fk_f]
  by_cases c3 : t < 0
  · rw [decide_eq_true c3, fk_t, if_neg (fun h => by have := h.2.2.2.1; omega)]
  rw [decide_eq_false c3, fk_f]
  by_cases c4 : t > 4611686018427387703
  · rw [decide_eq_true c4, fk_t, if_neg (fun h => by have := h.2.2.2.2; omega)]
  have hA : argP l ls i t := ⟨ha, by omega, by omega, by omega, by omega⟩
  obtain ⟨h1, h2⟩ := argP_idx hA
  have hb := argP_b hA
  rw [decide_eq_false c4, fk_f, if_pos hA]
  have i2 : ∀ {f : Int → Option Int}, ix ls i f = f (lg ls i) := fun {f} => by rw [lg_lt h2]; exact ix_int (by omega) h2
  have i1 : ∀ {f : Task → Option Int}, ix l i f = f l[i.toNat] := fun {f} => ix_int (by omega) h1
  simp only [i1, i2]
  rw [← tT_lt h1]
  by_cases c5 : lg ls i ≥ 0
  rotate_left
  · rw [decide_eq_false c5, fk_f, if_neg (fun h => by omega)]
  rw [decide_eq_true c5, fk_t, wr_in _ (by omega)]
  by_cases c6 : t - lg ls i < tT l i
  · rw [decide_eq_true c6, fk_t, if_pos ⟨by omega, by omega⟩]
  · rw [decide_eq_false c6, fk_f, if_neg (fun h => by omega)]
noncomputable def noteL (l : List Task) (ls : List Int) (i t : Int) : List Int := if mayV l ls i t = 0 then ls.set i.toNat t else ls
theorem mayV_arg {l : List Task} {ls : List Int} {i t : Int} (h : mayV l ls i t = 0) : argP l ls i t := by
  by_cases c : argP l ls i t
  · exact c
  · unfold mayV at h; rw [if_neg c] at h; omega
theorem noteL_len (l : List Task) (ls : List Int) (i t : Int) : (noteL l ls i t).length = ls.length := by
  unfold noteL; split
  · rw [List.length_set]
  · rfl
theorem police_Note_eq (l : List Task) (ls : List Int) (i t : Int) (hl : l.length ≤ 4611686018427387904) (hs : ls.length ≤ 1000000000) : police_Note l ls i t = some (noteL l ls i t, mayV l ls i t) := by
  unfold police_Note noteL
  rw [bnd_eq (police_May_eq l ls i t hl (by omega))]
  by_cases h : mayV l ls i t = 0
  rotate_left
  · rw [decide_eq_false h, Bool.not_false, fk_t, if_neg h]
  have hA := mayV_arg h
  obtain ⟨h1, h2⟩ := argP_idx hA
  have := hA.2.1
  rw [decide_eq_true h, Bool.not_true, fk_f, if_pos h, ck_t (by simp; omega), List.nil_append, ck_t (by simp; omega), ox_lt h2, h]
theorem lastsP_note {l : List Task} {ls : List Int} (h : lastsP l ls) (i t : Int) : lastsP l (noteL l ls i t) := by
  unfold noteL
  split
  · rename_i h0
    have hA := mayV_arg h0
    refine ⟨h.1, by rw [List.length_set]; exact h.2.1, fun x hx => ?_⟩
    rcases List.mem_or_eq_of_mem_set hx with hx | hx
    · exact h.2.2 x hx
    · subst hx; have := hA.2.2.2; omega
  · exact h
/-! Asks, one by one. -/
noncomputable def filterL (l : List Task) : List Int → List PoliceAsk → List Bool
  | _, [] => []
  | ls, a :: r => decide (mayV l ls a.Task a.At = 0) :: filterL l (noteL l ls a.Task a.At) r
noncomputable def lastsL (l : List Task) : List Int → List PoliceAsk → List Int
  | ls, [] => ls
  | ls, a :: r => lastsL l (noteL l ls a.Task a.At) r
theorem filterL_snoc (l : List Task) : ∀ (xs : List PoliceAsk) (ls : List Int) (a : PoliceAsk), filterL l ls (xs ++ [a]) = filterL l ls xs ++ [decide (mayV l (lastsL l ls xs) a.Task a.At = 0)]
  | [], ls, a => rfl
  | x :: xs, ls, a => congrArg (_ :: ·) (filterL_snoc l xs (noteL l ls x.Task x.At) a)
theorem lastsL_snoc (l : List Task) : ∀ (xs : List PoliceAsk) (ls : List Int) (a : PoliceAsk), lastsL l ls (xs ++ [a]) = noteL l (lastsL l ls xs) a.Task a.At
  | [], ls, a => rfl
  | x :: xs, ls, a => by simp only [List.cons_append, lastsL, lastsL_snoc l xs]
theorem filterL_len (l : List Task) : ∀ (xs : List PoliceAsk) (ls : List Int), (filterL l ls xs).length = xs.length
  | [], ls => rfl
  | x :: xs, ls => by simp only [filterL, List.length_cons, filterL_len l xs]
theorem lastsP_L {l : List Task} : ∀ (xs : List PoliceAsk) {ls : List Int}, lastsP l ls → lastsP l (lastsL l ls xs)
  | [], ls, h => h
  | x :: xs, ls, h => lastsP_L xs (lastsP_note h _ _)
def noneL (l : List Task) : List Int := List.replicate l.length (-1)
theorem noneL_P {l : List Task} (ha : AllP l) : lastsP l (noneL l) := ⟨ha, by simp [noneL], fun x hx => by rw [List.eq_of_mem_replicate hx]; omega⟩
theorem take_succ' {α : Type} (l : List α) (k : Nat) (h : k < l.length) : l.take (k + 1) = l.take k ++ [l[k]] := (List.take_append_getElem h).symm
theorem police_Filter_eq (l : List Task) (qs : List PoliceAsk) (hl : l.length ≤ 4611686018427387904) (hs : qs.length ≤ 1000000000) : police_Filter l qs = some (if AllP l then filterL l (noneL l) qs else []) := by
  unfold police_Filter
  rw [bnd_eq (task_All_eq l hl)]
  by_cases ha : AllP l
  rotate_left
  · rw [decide_eq_false ha, Bool.not_false, fk_t, if_neg ha]
  have h8 := ha.2
  rw [decide_eq_true ha, Bool.not_true, fk_f, if_pos ha]
  refine lp_upS l.length (by unfold FU; omega) (fun k o => o = List.replicate k (-1)) [] rfl ?_
  rintro nx k o hk rfl hnx
  simp only
  rw [lt_nat]
  by_cases h : k < l.length
  · rw [decide_eq_true h, fk_t, ck_t (by simp; omega), wr_succ k _ h (by omega)]
    exact hnx _ h (by rw [List.replicate_succ'])
  rw [decide_eq_false h, fk_f]
  have : k = l.length := by omega
  subst this
  refine lp_inv (fun v => qs.length - v.2.2.toNat) (fun v => ∃ q : Nat, v = (lastsL l (noneL l) (qs.take q), filterL l (noneL l) (qs.take q), (q : Int)) ∧ q ≤ qs.length) ?_ FU _ ⟨0, rfl, Nat.zero_le _⟩ (by unfold FU; simp; omega)
  rintro nx2 v ⟨q, rfl, hq⟩ hnx2
  simp only
  rw [lt_nat]
  by_cases h2 : q < qs.length
  rotate_left
  · rw [decide_eq_false h2, fk_f]
    have : q = qs.length := by omega
    rw [this, List.take_length]
  have hP := lastsP_L (qs.take q) (noneL_P ha)
  have hfl := filterL_len l (qs.take q) (noneL l)
  rw [List.length_take] at hfl
  rw [decide_eq_true h2, fk_t, ix_lt h2, bnd_eq (police_Note_eq l _ _ _ hl (by rw [hP.2.1]; omega)), ck_t (by simp; omega), wr_succ q _ h2 (by omega)]
  refine hnx2 _ ⟨q + 1, ?_, by omega⟩ (by simp only [Int.toNat_natCast]; omega)
  rw [take_succ' qs q h2, lastsL_snoc, filterL_snoc]
theorem law16_parts_eq (qs : List PoliceAsk) (hs : qs.length ≤ 1000000000) : law16_parts qs = some (qs.map (·.Task), qs.map (·.At)) := by
  unfold law16_parts
  refine lp_inv (fun v => qs.length - v.2.2.toNat) (fun v => ∃ q : Nat, v = ((qs.take q).map (·.Task), (qs.take q).map (·.At), (q : Int)) ∧ q ≤ qs.length) ?_ FU _ ⟨0, rfl, Nat.zero_le _⟩ (by unfold FU; simp; omega)
  rintro nx2 v ⟨q, rfl, hq⟩ hnx2
  simp only
  rw [lt_nat]
  by_cases h2 : q < qs.length
  rotate_left
  · rw [decide_eq_false h2, fk_f]
    have : q = qs.length := by omega
    rw [this, List.take_length]
  rw [decide_eq_true h2, fk_t]
  simp only [ix_lt h2]
  rw [ck_t (by simp; omega), ck_t (by simp; omega), wr_succ q _ h2 (by omega)]
  refine hnx2 _ ⟨q + 1, ?_, by omega⟩ (by simp only [Int.toNat_natCast]; omega)
  rw [take_succ' qs q h2, List.map_append, List.map_append]; rfl
theorem lg_note {l : List Task} {ls : List Int} {i t j : Int} (hj : 0 ≤ j) (hjl : j.toNat < ls.length) : lg (noteL l ls i t) j = if mayV l ls i t = 0 ∧ i = j then t else lg ls j := by
  unfold noteL
  by_cases h : mayV l ls i t = 0
  · rw [if_pos h]
    have hA := mayV_arg h
    have h0 := hA.2.1
    unfold lg
    rw [List.getElem?_set]
    by_cases e : i = j
    · subst e; rw [if_pos rfl, if_pos hjl, if_pos ⟨h, rfl⟩]; rfl
    · rw [if_neg (by omega), if_neg (fun h => e h.2)]
  · rw [if_neg h, if_neg (fun hh => h hh.1)]
theorem ref16_Filter_eq (l : List Task) (qs : List PoliceAsk) (ha : AllP l) (hs : qs.length ≤ 1000000000) (hw : ∀ a ∈ qs, -9223372036854775808 ≤ a.At ∧ a.At ≤ 9223372036854775807) : ref16_Filter l (qs.map (·.Task)) (qs.map (·.At)) = some (filterL l (noneL l) qs) := by
  unfold ref16_Filter
  simp only [jn_eq]
  have h8 := ha.2
  have el : (qs.map (·.Task)).length = qs.length := List.length_map ..
  have el2 : (qs.map (·.At)).length = qs.length := List.length_map ..
  have i1 : ∀ {β : Type} {f : Int → Option β} {k : Nat} (h : k < qs.length), ix (qs.map (·.Task)) (k : Int) f = f qs[k].Task := fun {β f k} h => by rw [ix_lt (by rw [el]; exact h), List.getElem_map]
  have i2 : ∀ {β : Type} {f : Int → Option β} {k : Nat} (h : k < qs.length), ix (qs.map (·.At)) (k : Int) f = f qs[k].At := fun {β f k} h => by rw [ix_lt (by rw [el2]; exact h), List.getElem_map]
  rw [el]
  refine lp_upS qs.length (by unfold FU; omega) (fun k o => o = filterL l (noneL l) (qs.take k)) [] rfl ?_
  rintro nx k o hk rfl hnx
  simp only
  by_cases h : k < qs.length
  rotate_left
  · rw [decide_eq_false (show ¬ (k : Int) < (qs.length : Int) by omega), fk_f]
    have : k = qs.length := by omega
    rw [this, List.take_length]
  rw [decide_eq_true (show (k : Int) < (qs.length : Int) by omega), fk_t, i1 h, i2 h, wr_succ k _ h (by omega)]
  have hfl := filterL_len l (qs.take k) (noneL l)
  rw [List.length_take] at hfl
  have hP := lastsP_L (qs.take k) (noneL_P ha)
  have hat := hw _ (List.getElem_mem h)
  have fin : ∀ b : Bool, b = decide (mayV l (lastsL l (noneL l) (qs.take k)) qs[k].Task qs[k].At = 0) → ck (decide (((filterL l (noneL l) (qs.take k)).length + ([b] : List Bool).length) * 1 ≤ 140737488355328)) (nx (filterL l (noneL l) (qs.take k) ++ ([b] : List Bool), ((k + 1 : Nat) : Int))) = some (filterL l (noneL l) qs) := by
    rintro b rfl
    rw [ck_t (by simp; omega)]
    refine hnx _ h ?_
    rw [take_succ' qs k h, filterL_snoc]
  -- the scan
  have scan : ∀ (ok : Bool), (ok = true ↔ 0 ≤ qs[k].Task ∧ qs[k].Task < (l.length : Int) ∧ 0 ≤ qs[k].At ∧ qs[k].At ≤ 4611686018427387703) → lp (fun nx5 (v5 : Int × Int) => fk (decide (v5.2 < (k : Int))) (fk true (ck (decide (0 ≤ v5.2) && decide (v5.2 < ((filterL l (noneL l) (qs.take k)).length : Int))) (ox (filterL l (noneL l) (qs.take k)) v5.2.toNat fun x8 => fk x8 (ix (qs.map (·.Task)) v5.2 fun x9 => fk (decide (x9 = qs[k].Task)) (ix (qs.map (·.At)) v5.2 fun x10 => nx5 (x10, (wr (v5.2 + (1 : Int))))) (nx5 (v5.1, (wr (v5.2 + (1 : Int)))))) (nx5 (v5.1, (wr (v5.2 + (1 : Int))))))) (some ([] : List Bool))) (fk ok (fk (decide (v5.1 ≥ (0 : Int))) (ix l qs[k].Task fun x13 => fk (decide ((wr (qs[k].At - v5.1)) < x13.T)) (ck (decide (((filterL l (noneL l) (qs.take k)).length + ([false] : List Bool).length) * 1 ≤ 140737488355328)) (nx (filterL l (noneL l) (qs.take k) ++ ([false] : List Bool), ((k + 1 : Nat) : Int)))) (ck (decide (((filterL l (noneL l) (qs.take k)).length + ([ok] : List Bool).length) * 1 ≤ 140737488355328)) (nx (filterL l (noneL l) (qs.take k) ++ ([ok] : List Bool), ((k + 1 : Nat) : Int))))) (ck (decide (((filterL l (noneL l) (qs.take k)).length + ([ok] : List Bool).length) * 1 ≤ 140737488355328)) (nx (filterL l (noneL l) (qs.take k) ++ ([ok] : List Bool), ((k + 1 : Nat) : Int))))) (ck (decide (((filterL l (noneL l) (qs.take k)).length + ([ok] : List Bool).length) * 1 ≤ 140737488355328)) (nx (filterL l (noneL l) (qs.take k) ++ ([ok] : List Bool), ((k + 1 : Nat) : Int)))))) FU (-1, 0) = some (filterL l (noneL l) qs) := by
    intro ok hok
    refine lp_upS k (by unfold FU; omega) (fun q v => (0 ≤ qs[k].Task ∧ qs[k].Task < (l.length : Int)) → v = lg (lastsL l (noneL l) (qs.take q)) qs[k].Task) (-1) (fun hi => by
      show -1 = lg (noneL l) _
      rw [lg_lt (by simp [noneL]; omega)]; simp [noneL]) ?_
    rintro nx5 q v hq J hnx5
    simp only
    by_cases h2 : q < k
    rotate_left
    · have : q = k := by omega
      subst this
      rw [decide_eq_false (show ¬ (q : Int) < (q : Int) by omega), fk_f]
      cases hb : ok with
      | false =>
        rw [fk_f]
        refine fin false ?_
        refine (decide_eq_false fun hz => ?_).symm
        have hA := mayV_arg hz
        have := hok.2 ⟨hA.2.1, hA.2.2.1, hA.2.2.2.1, hA.2.2.2.2⟩
        rw [hb] at this; cases this
      | true =>
        have ho := hok.1 hb
        have hA : argP l (lastsL l (noneL l) (qs.take q)) qs[q].Task qs[q].At := ⟨hP, ho⟩
        obtain ⟨x1, x2⟩ := argP_idx hA
        have hbb := argP_b hA
        rw [fk_t, J ⟨ho.1, ho.2.1⟩]
        by_cases c5 : lg (lastsL l (noneL l) (qs.take q)) qs[q].Task ≥ 0
        rotate_left
        · rw [decide_eq_false c5, fk_f]
          refine fin true ?_
          refine (decide_eq_true ?_).symm
          unfold mayV; rw [if_pos hA, if_neg (fun hh => by omega)]
        rw [decide_eq_true c5, fk_t, ix_int ho.1 x1, wr_in _ (by omega), ← tT_lt x1]
        by_cases c6 : qs[q].At - lg (lastsL l (noneL l) (qs.take q)) qs[q].Task < tT l qs[q].Task
        · rw [decide_eq_true c6, fk_t]
          refine fin false ?_
          refine (decide_eq_false ?_).symm
          unfold mayV; rw [if_pos hA, if_pos ⟨by omega, by omega⟩]; omega
        · rw [decide_eq_false c6, fk_f]
          refine fin true ?_
          refine (decide_eq_true ?_).symm
          unfold mayV; rw [if_pos hA, if_neg (fun hh => by omega)]
    have hqa : q < qs.length := by omega
    rw [decide_eq_true (show (q : Int) < (k : Int) by omega), fk_t, fk_t, ck_t (by simp; omega), Int.toNat_natCast, ox_lt (by omega), i1 hqa, i2 hqa, wr_succ q k h2 (by omega)]
    have hP2 := lastsP_L (qs.take q) (noneL_P ha)
    have ef : (filterL l (noneL l) (qs.take k))[q]'(by omega) = decide (mayV l (lastsL l (noneL l) (qs.take q)) qs[q].Task qs[q].At = 0) := by
      have e1 : qs.take k = qs.take (q + 1) ++ (qs.take k).drop (q + 1) := by
        have := (List.take_append_drop (q + 1) (qs.take k)).symm
        rwa [List.take_take, show min (q + 1) k = q + 1 by omega] at this
      have e2 : ∀ (xs ys : List PoliceAsk) (ls : List Int), filterL l ls (xs ++ ys) = filterL l ls xs ++ filterL l (lastsL l ls xs) ys := by
        intro xs
        induction xs with
        | nil => intro ys ls; rfl
        | cons x xs ih => intro ys ls; simp only [List.cons_append, filterL, lastsL, ih]
      have e3 : (filterL l (noneL l) (qs.take k))[q]? = some (decide (mayV l (lastsL l (noneL l) (qs.take q)) qs[q].Task qs[q].At = 0)) := by
        rw [e1, e2, take_succ' qs q hqa, filterL_snoc, List.append_assoc]
        have hl2 := filterL_len l (qs.take q) (noneL l)
        rw [List.length_take] at hl2
        rw [List.getElem?_append_right (by omega), show q - (filterL l (noneL l) (qs.take q)).length = 0 by omega]
        rfl
      rw [List.getElem?_eq_getElem (by omega)] at e3
      exact Option.some.inj e3
    rw [ef]
    have next : lastsL l (noneL l) (qs.take (q + 1)) = noteL l (lastsL l (noneL l) (qs.take q)) qs[q].Task qs[q].At := by rw [take_succ' qs q hqa, lastsL_snoc]
    by_cases c1 : mayV l (lastsL l (noneL l) (qs.take q)) qs[q].Task qs[q].At = 0
    · rw [decide_eq_true c1, fk_t]
      by_cases c2 : qs[q].Task = qs[k].Task
      · rw [decide_eq_true c2, fk_t]
        refine hnx5 _ h2 fun hi => ?_
        rw [next, lg_note hi.1 (by rw [hP2.2.1]; omega), if_pos ⟨c1, c2⟩]
      · rw [decide_eq_false c2, fk_f]
        refine hnx5 _ h2 fun hi => ?_
        rw [next, lg_note hi.1 (by rw [hP2.2.1]; omega), if_neg (fun hh => c2 hh.2)]
        exact J hi
    · rw [decide_eq_false c1, fk_f]
      refine hnx5 _ h2 fun hi => ?_
      rw [next, lg_note hi.1 (by rw [hP2.2.1]; omega), if_neg (fun hh => c1 hh.1)]
      exact J hi
  have scan' := scan
  simp only [fk_t] at scan'
  by_cases d1 : qs[k].Task ≥ 0
  rotate_left
  · rw [decide_eq_false d1, fk_f]; exact scan' false ⟨fun e => (Bool.false_ne_true e).elim, fun hh => absurd hh.1 (by omega)⟩
  rw [decide_eq_true d1, fk_t]
  by_cases d2 : qs[k].Task < (l.length : Int)
  rotate_left
  · rw [decide_eq_false d2, fk_f]; exact scan' false ⟨fun e => (Bool.false_ne_true e).elim, fun hh => absurd hh.2.1 d2⟩
  rw [decide_eq_true d2, fk_t]
  by_cases d3 : qs[k].At ≥ 0
  rotate_left
  · rw [decide_eq_false d3, fk_f]; exact scan' false ⟨fun e => (Bool.false_ne_true e).elim, fun hh => absurd hh.2.2.1 (by omega)⟩
  rw [decide_eq_true d3, fk_t]
  refine scan' _ ⟨fun e => ⟨by omega, d2, by omega, of_decide_eq_true e⟩, fun hh => decide_eq_true hh.2.2.2⟩
theorem law16_knows_eq : law16_knows = some true := by kernel_rfl
end Go.Proofs.Ytkhebjkplmidnaa
namespace Go.Proofs.Ytkhebjkplmidnaa
open Go Go.VC
theorem proofPoliceLater : PurePoliceLater := by
  intro l ls i t m hl hls hi ht hm
  have hll : l.length ≤ 4611686018427387904 := wf_len hl.1 (Nat.le_refl _)
  have hsl : ∀ t ∈ l, t.Secs.length ≤ 4611686018427387904 := fun t ht => (hl.2 t ht).len
  have hm8 := wfI_8 hm
  unfold law16_PoliceLater
  simp only [jn_eq, law16_knows_eq, bnd_some]
  rw [bnd_eq (law05_Great_eq l hll)]
  by_cases hg : GreatP l
  · rw [decide_eq_true hg, fk_t, fk_t]
  rw [decide_eq_false hg, fk_f]
  by_cases h50 : (ls.length : Int) > 50
  · rw [decide_eq_true h50, fk_t, fk_t]
  rw [decide_eq_false h50, fk_f]
  by_cases h1 : t > 4611686018427386903
  · rw [decide_eq_true h1, fk_t, fk_t]
  rw [decide_eq_false h1, fk_f]
  by_cases h2 : t < 0
  · rw [decide_eq_true h2, fk_t]
  rw [decide_eq_false h2, fk_f]
  simp only [police_May_eq l ls i t hll (by omega), bnd_some]
  have e1 : IntKind.i64.wrap m = m := wr_in m (by omega)
  rw [e1, wr_in _ (by omega), bnd_eq (police_May_eq l ls i (t + m) hll (by omega))]
  have rest : fk false (some false) (bnd (ref05_All l) fun x8 => fk (!x8) (fk true (fk (decide (mayV l ls i t = (1 : Int))) (some true) (some false)) (some false)) (fk (decide (i < (0 : Int))) (fk true (fk (decide (mayV l ls i t = (1 : Int))) (some true) (some false)) (some false)) (fk (decide (i ≥ (l.length : Int))) (fk (decide (mayV l ls i t = (1 : Int))) (some true) (some false)) (lp (fun nx11 (v11 : (List Int) × Int) => fk (decide (v11.2 < (l.length : Int))) (ck (decide ((v11.1.length + ([(-1 : Int)] : List Int).length) * 8 ≤ 140737488355328)) (nx11 (v11.1 ++ ([(-1 : Int)] : List Int), (wr (v11.2 + (1 : Int)))))) (bnd (police_May l v11.1 i t) fun x12 => fk (decide (x12 = (0 : Int))) (some true) (some false))) FU ([], (0 : Int)))))) = some true := by
    rw [fk_f, bnd_eq (ref05_All_eq l hll hsl)]
    by_cases ha : AllP l
    rotate_left
    · rw [decide_eq_false ha, Bool.not_false, fk_t, fk_t, decide_eq_true (by unfold mayV; rw [if_neg (fun h => ha h.1.1)]), fk_t]
    have h8 := ha.2
    rw [decide_eq_true ha, Bool.not_true, fk_f]
    by_cases c1 : i < 0
    · rw [decide_eq_true c1, fk_t, fk_t, decide_eq_true (by unfold mayV; rw [if_neg (fun h => by have := h.2.1; omega)]), fk_t]
    rw [decide_eq_false c1, fk_f]
    by_cases c2 : i ≥ (l.length : Int)
    · rw [decide_eq_true c2, fk_t, decide_eq_true (by unfold mayV; rw [if_neg (fun h => by have := h.2.2.1; omega)]), fk_t]
    rw [decide_eq_false c2, fk_f]
    refine lp_upS l.length (by unfold FU; omega) (fun k o => o = List.replicate k (-1)) [] rfl ?_
    rintro nx k o hk rfl hnx
    simp only
    rw [lt_nat]
    by_cases h : k < l.length
    · rw [decide_eq_true h, fk_t, ck_t (by simp; omega), wr_succ k _ h (by omega)]
      exact hnx _ h (by rw [List.replicate_succ'])
    rw [decide_eq_false h, fk_f]
    have : k = l.length := by omega
    subst this
    have hP := noneL_P ha
    have hA : argP l (noneL l) i t := ⟨hP, by omega, by omega, by omega, by omega⟩
    obtain ⟨x1, x2⟩ := argP_idx hA
    have hlg : lg (noneL l) i = -1 := by rw [lg_lt x2]; simp [noneL]
    rw [show List.replicate l.length (-1 : Int) = noneL l from rfl, bnd_eq (police_May_eq l _ i t hll (by rw [hP.2.1]; omega)), decide_eq_true (by unfold mayV; rw [if_pos hA, if_neg (fun h => h.1 hlg)]), fk_t]
  simp only [fk_t] at rest ⊢
  by_cases c : mayV l ls i t = 0
  · have hA := mayV_arg c
    have hb := argP_b hA
    have hA2 : argP l ls i (t + m) := ⟨hA.1, hA.2.1, hA.2.2.1, by omega, by omega⟩
    have c2 : mayV l ls i (t + m) = 0 := by
      unfold mayV at c ⊢
      rw [if_pos hA] at c
      rw [if_pos hA2]
      by_cases d : lg ls i ≠ -1 ∧ t < lg ls i + tT l i
      · rw [if_pos d] at c; omega
      · rw [if_neg (fun h => d ⟨h.1, by omega⟩)]
    rw [decide_eq_true c2, Bool.not_true]
    have := rest
    rw [c] at this ⊢
    rw [show decide ((0 : Int) = 0) = true from rfl, fk_t]
    exact this
  · rw [show decide (mayV l ls i t = 0) = false from decide_eq_false c, fk_f]
    exact rest
end Go.Proofs.Ytkhebjkplmidnaa
namespace Go.Proofs.Ytkhebjkplmidnaa.policeLater
open Go Go.VC Go.ChangeShapes Go.WideShapes Go.ChangeAt Go.RowKit
theorem own : ownKnob Try.prog.godebug = none := by kernel_rfl
theorem laidOut : laidOutB Try.prog = true := by kernel_rfl
theorem lifted (os : Os) (started : os.Started) (H : Type) (enc : TypeId × Value → H) :
    ReturnsInHanded {} Try.checked os 5 .any (Rows.policeLaterSpec.pre6 enc Try.prog Try.f5 Rows.policeLaterRow.domain false) (Rows.policeLaterSpec.post enc Try.prog Try.f5 false true false false) := by
  refine returnsInHanded_of_change_sized (C := Try.checked) own started (by kernel_rfl) Try.func5
    (ChangeSpec.witness6 (enc := enc) (C := Try.checked) false ⟨#[], #[.slice none 0 0, .slice none 0 0, .int .i64 0, .int .i64 0, .int .u8 0], []⟩ 8 (by kernel_rfl) (by kernel_rfl) (by kernel_rfl) (by kernel_rfl)) ?_
  intro W base args ds gs before hval0 hW hcnd hsz0 _
  have hsz : (DataW.weightsEach Try.prog (Try.f5.params.toList ++ Rows.policeLaterSpec.plain.varTypes Try.prog) (ds ++ gs)).all (· ≤ reachBytes) = true := hsz0
  have hval : ∀ (j : Nat) t v, Try.f5.params[j]? = some t → args[j]? = some v → Value.okWide Try.prog W .any base t v := hval0
  have hW' := hW
  obtain ⟨p, q, hA0, hV, rfl, hfz, hnd⟩ := hW
  have hA : DataW.TrodAll enc Try.prog W 0 (fun _ => true) true Try.f5.params.toList args.toList ds p := hA0
  rw [Try.params5] at hA hval hsz
  obtain ⟨v0, vs0, d0, ds0, p0, q0, hargs, rfl, rfl, h0, r0⟩ := trodAll_cons hA
  obtain ⟨v1, vs1, d1, ds1, p1, q1, rfl, rfl, rfl, h1, r1⟩ := trodAll_cons r0
  obtain ⟨v2, vs2, d2, ds2, p2, q2, rfl, rfl, rfl, h2, r2⟩ := trodAll_cons r1
  obtain ⟨v3, vs3, d3, ds3, p3, q3, rfl, rfl, rfl, h3, r3⟩ := trodAll_cons r2
  obtain ⟨v4, vs4, d4, ds4, p4, q4, rfl, rfl, rfl, h4, r4⟩ := trodAll_cons r3
  obtain ⟨rfl, rfl, rfl⟩ := trodAll_nil r4
  obtain rfl : args = #[v0, v1, v2, v3, v4] := by cases args; simp_all
  obtain ⟨rfl, rfl⟩ := trodVars_none hV
  have lt0 : ∀ x ∈ p0, x.block < W.heap.size := by obtain ⟨m, hm⟩ := h0; exact DataW.trod_lt m _ _ _ hm
  have wt0 : ∀ k ∈ d0.weights Try.prog 22, k ≤ BB := fun k hk => of_decide_eq_true (List.all_eq_true.1 hsz _ (DataW.weights_mem_each (j := 0) rfl rfl k hk))
  obtain ⟨c0, s0, g0⟩ := open_cv tab (m := 8) (t := 22) rfl (hval 0 22 v0 rfl rfl) h0 wt0
  have g0 := g0 _ T22
  obtain ⟨a0, rfl, w0⟩ := (s0.l (f := Task.enc) (W := (fun x => Task.wf x)) T22 T65 (fun _ _ h => (Task.of h)))
  have lt1 : ∀ x ∈ p1, x.block < W.heap.size := by obtain ⟨m, hm⟩ := h1; exact DataW.trod_lt m _ _ _ hm
  have wt1 : ∀ k ∈ d1.weights Try.prog 23, k ≤ BB := fun k hk => of_decide_eq_true (List.all_eq_true.1 hsz _ (DataW.weights_mem_each (j := 1) rfl rfl k hk))
  obtain ⟨c1, s1, g1⟩ := open_cv tab (m := 8) (t := 23) rfl (hval 1 23 v1 rfl rfl) h1 wt1
  have g1 := g1 _ T23
  obtain ⟨a1, rfl, w1⟩ := (s1.l (f := (eI .i64)) (W := (fun x => wfI .i64 x)) T23 T3 (fun _ _ h => (h.i T3)))
  have lt2 : ∀ x ∈ p2, x.block < W.heap.size := by obtain ⟨m, hm⟩ := h2; exact DataW.trod_lt m _ _ _ hm
  have wt2 : ∀ k ∈ d2.weights Try.prog 3, k ≤ BB := fun k hk => of_decide_eq_true (List.all_eq_true.1 hsz _ (DataW.weights_mem_each (j := 2) rfl rfl k hk))
  obtain ⟨c2, s2, g2⟩ := open_cv tab (m := 8) (t := 3) rfl (hval 2 3 v2 rfl rfl) h2 wt2
  have g2 := g2 _ T3
  obtain ⟨a2, rfl, w2⟩ := (s2.i T3)
  have lt3 : ∀ x ∈ p3, x.block < W.heap.size := by obtain ⟨m, hm⟩ := h3; exact DataW.trod_lt m _ _ _ hm
  have wt3 : ∀ k ∈ d3.weights Try.prog 3, k ≤ BB := fun k hk => of_decide_eq_true (List.all_eq_true.1 hsz _ (DataW.weights_mem_each (j := 3) rfl rfl k hk))
  obtain ⟨c3, s3, g3⟩ := open_cv tab (m := 8) (t := 3) rfl (hval 3 3 v3 rfl rfl) h3 wt3
  have g3 := g3 _ T3
  obtain ⟨a3, rfl, w3⟩ := (s3.i T3)
  have lt4 : ∀ x ∈ p4, x.block < W.heap.size := by obtain ⟨m, hm⟩ := h4; exact DataW.trod_lt m _ _ _ hm
  have wt4 : ∀ k ∈ d4.weights Try.prog 5, k ≤ BB := fun k hk => of_decide_eq_true (List.all_eq_true.1 hsz _ (DataW.weights_mem_each (j := 4) rfl rfl k hk))
  obtain ⟨c4, s4, g4⟩ := open_cv tab (m := 8) (t := 5) rfl (hval 4 5 v4 rfl rfl) h4 wt4
  have g4 := g4 _ T5
  obtain ⟨a4, rfl, w4⟩ := (s4.i T5)
  clear hA0 hval0 hsz0 hsz
  have pure := proofPoliceLater a0 a1 a2 a3 a4 w0 w1 w2 w3 w4
  refine ((law16_PoliceLater_w a0 a1 a2 a3 a4 true pure).2 W (pw W) [v0, v1, v2, v3, v4] (fun _ h => h) (All2.cons g0 (All2.cons g1 (All2.cons g2 (All2.cons g3 (All2.cons g4 All2.nil)))))).mono fun e W' ⟨v, rs, p', he, hR, hrep, bel, _⟩ => ?_
  subst hR he
  obtain rfl := RepD_bool hrep
  exact ⟨_, rfl, _, _, _, [], _, [], hW', trodAll_mk1 (shut_bool Try.underlying4 _), (trodAll_cons_mk (Below.trod laidOut (by kernel_rfl) (of_decide_eq_true (by kernel_rfl)) h0 bel lt0) (trodAll_cons_mk (Below.trod laidOut (by kernel_rfl) (of_decide_eq_true (by kernel_rfl)) h1 bel lt1) (trodAll_cons_mk (Below.trod laidOut (by kernel_rfl) (of_decide_eq_true (by kernel_rfl)) h2 bel lt2) (trodAll_cons_mk (Below.trod laidOut (by kernel_rfl) (of_decide_eq_true (by kernel_rfl)) h3 bel lt3) (trodAll_cons_mk (Below.trod laidOut (by kernel_rfl) (of_decide_eq_true (by kernel_rfl)) h4 bel lt4) trodAll_mk0))))), rfl, bel.frame _, fun h => by cases h⟩
theorem over : Rows.policeLaterRow.holds Try.pinned (OpenSpec.ofChange Rows.policeLaterSpec) :=
  OpenClaim.holds_of_wide 5 Try.f5 rfl rfl rfl rfl rfl rfl rfl ⟨rfl, rfl, rfl, rfl, rfl⟩ rfl rfl rfl rfl rfl (by kernel_rfl) Try.func5 (by kernel_rfl)
    (of_decide_eq_true (by kernel_rfl)) (by unfold Func.isWrapper; first | (rw [if_pos (by decide +kernel)]; kernel_rfl) | (rw [if_neg (by decide +kernel)]; exact ⟨rfl, rfl⟩))
    (fun os started H enc _ => lifted os started H enc)
end Go.Proofs.Ytkhebjkplmidnaa.policeLater
namespace Go.Proofs.Ytkhebjkplmidnaa
theorem policeLater_holds : Rows.PoliceLaterSaid := policeLater.over
end Go.Proofs.Ytkhebjkplmidnaa
