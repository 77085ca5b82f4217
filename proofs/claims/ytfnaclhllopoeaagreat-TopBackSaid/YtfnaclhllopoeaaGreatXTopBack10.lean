/- Part 21 of what follows is proved here: what the statement TopBack needs of functions and plain laws. -/
import Derived.Test.YtfnaclhllopoeaaGreatXTopBack9
import Derived.Test.YtfnaclhllopoeaaGreatXTopBack0
set_option linter.unusedVariables false
set_option linter.unusedSimpArgs false
set_option maxRecDepth 100000
set_option maxHeartbeats 40000000
namespace Go.Proofs.YtfnaclhllopoeaaGreat
open Go Go.VC
noncomputable def police_Right (a0 : List Task) (a1 : List Int) : Option Bool :=
  jn (fun (w1 : Bool) => fk w1 (some false) (lp (fun nx3 (v3 : Int) => fk (decide (v3 < (a1.length : Int))) (ix a1 v3 fun x4 => jn (fun (w5 : Bool) => fk w5 (some false) (nx3 (wr (v3 + (1 : Int))))) (fun k5 => fk (decide (x4 < (-1 : Int))) (k5 true) (k5 (decide (x4 > (4611686018427387903 : Int)))))) (some true)) FU (0 : Int))) (fun k1 => bnd (task_All a0) fun x2 => fk (!x2) (k1 true) (k1 (!decide ((a1.length : Int) = (a0.length : Int)))))
theorem police_Right_w (a0 : List Task) (a1 : List Int) (r : Bool) (h : police_Right a0 a1 = some r) : Go.VC.Spec Tryz.prog 85 [.d (.sl (a0.map Task.enc)), .d (.sl (a1.map (eI .i64)))] (fun y => y = E_Bool r) := by
  refine Go.VC.Spec.of_xc (args := [.d (.sl (a0.map Task.enc)), .d (.sl (a1.map (eI .i64)))]) (fn := Tryz.f85) tab ⟨[(0, [0, 1]), (1, [1, 16]), (2, [4]), (3, [17, 18, 19]), (4, [17, 18, 19, 20]), (5, [6, 17, 18, 19]), (6, [17, 18, 19, 28]), (7, [4]), (8, [17, 18, 19]), (9, [4])], [], [100016, 100028], []⟩ 30 [.tmp 4] rfl rfl rfl rfl rfl rfl ?_
  conv => whnf
  refine jnS (fun w1 => ⟨[(1, .l (.d (.sl (a1.map (eI .i64))))), (16, .l (.d (.bool w1)))], 30, [], [], []⟩) h (fun k1 hk1 h => ?_) (fun w1 h => ?_)
  · conv => whnf
    refine caS (E := E_Bool) h (task_All_w a0) rfl (fun _ => rfl) (fun x2 h => ?_)
    conv => whnf
    refine fkS h (fun h => ?_) (fun h => ?_)
    · conv => whnf
      exact jeS hk1 h (Weak.refl _)
    conv => whnf
    refine lenS a1 (eI .i64) rfl ?_
    conv => whnf
    refine lenS a0 Task.enc rfl ?_
    conv => whnf
    exact jeS hk1 h (Weak.refl _)
  conv => whnf
  refine fkS h (fun h => ?_) (fun h => ?_)
  · conv => whnf
    exact rt (E := E_Bool) h rfl
  conv => whnf
  refine lenS a1 (eI .i64) rfl ?_
  conv => whnf
  refine lpS (fun v3 => ⟨[(17, .l (.d (.sl (a1.map (eI .i64))))), (18, .l (.d (.int .i64 (a1.length : Int)))), (19, .l (.d (.int .i64 v3)))], 30, [], [], []⟩) h (Weak.refl _) (fun _ nx3 hn3 v3 h => ?_)
  conv => whnf
  refine fkS h (fun h => ?_) (fun h => ?_)
  · conv => whnf
    refine ixS (enc := (eI .i64)) h rfl (fun _ => rfl) (fun x4 h => ?_)
    conv => whnf
    refine jnS (fun w5 => ⟨[(17, .l (.d (.sl (a1.map (eI .i64))))), (18, .l (.d (.int .i64 (a1.length : Int)))), (19, .l (.d (.int .i64 v3))), (28, .l (.d (.bool w5)))], 30, [], [], []⟩) h (fun k5 hk5 h => ?_) (fun w5 h => ?_)
    · conv => whnf
      refine fkS h (fun h => ?_) (fun h => ?_)
      · conv => whnf
        exact jeS hk5 h (Weak.refl _)
      conv => whnf
      exact jeS hk5 h (Weak.refl _)
    conv => whnf
    refine fkS h (fun h => ?_) (fun h => ?_)
    · conv => whnf
      exact rt (E := E_Bool) h rfl
    conv => whnf
    exact leS hn3 h (Weak.refl _)
  conv => whnf
  exact rt (E := E_Bool) h rfl

end Go.Proofs.YtfnaclhllopoeaaGreat
namespace Go.Proofs.YtfnaclhllopoeaaGreat
open Go Go.VC
noncomputable def job_right (a0 : List Task) (a1 : Job) : Option Bool :=
  jn (fun (w1 : Bool) => fk w1 (some false) (ix a0 a1.Task fun x2 => fk (decide (a1.Due = (wr (a1.At + x2.D)))) (fk (decide (a1.Want ≥ (1 : Int))) (fk (decide (a1.Want ≤ (200 : Int))) (fk (decide (a1.Had ≥ (0 : Int))) (fk (decide (a1.Had < (if a1.Want < x2.C then a1.Want else x2.C))) (fk a1.Began (some true) (some (decide (a1.Had = (0 : Int))))) (some false)) (some false)) (some false)) (some false)) (some false))) (fun k1 => fk (decide (a1.Task < (0 : Int))) (k1 true) (fk (decide (a1.Task ≥ (a0.length : Int))) (k1 true) (fk (decide (a1.At < (0 : Int))) (k1 true) (k1 (decide (a1.At > (4611686018427387703 : Int)))))))
theorem job_right_w (a0 : List Task) (a1 : Job) (r : Bool) (h : job_right a0 a1 = some r) : Go.VC.Spec Tryz.prog 104 [.d (.sl (a0.map Task.enc)), .agg (Job.enc a1)] (fun y => y = E_Bool r) := by
  refine Go.VC.Spec.of_xc (args := [.d (.sl (a0.map Task.enc)), .agg (Job.enc a1)]) (fn := Tryz.f104) tab ⟨[(0, [0, 3]), (1, [0, 3, 25]), (2, [4]), (3, [3, 5]), (4, [4])], [], [100025], []⟩ 73 [.tmp 4] rfl rfl rfl rfl rfl rfl ?_
  conv => whnf
  refine jnS (fun w1 => ⟨[(0, .l (.d (.sl (a0.map Task.enc)))), (3, .l (.ptr 4 0)), (25, .l (.d (.bool w1)))], 73, [], [(4, [.d (.int .i64 a1.Task), .d (.int .i64 a1.At), .d (.int .i64 a1.Due), .d (.int .i64 a1.Want), .d (.int .i64 a1.Had), .d (.bool a1.Began)])], []⟩) h (fun k1 hk1 h => ?_) (fun w1 h => ?_)
  · conv => whnf
    refine fkS h (fun h => ?_) (fun h => ?_)
    · conv => whnf
      exact jeS hk1 h (Weak.refl _)
    conv => whnf
    refine lenS a0 Task.enc rfl ?_
    conv => whnf
    refine fkS h (fun h => ?_) (fun h => ?_)
    · conv => whnf
      exact jeS hk1 h (Weak.refl _)
    conv => whnf
    refine fkS h (fun h => ?_) (fun h => ?_)
    · conv => whnf
      exact jeS hk1 h (Weak.refl _)
    conv => whnf
    exact jeS hk1 h (Weak.refl _)
  conv => whnf
  refine fkS h (fun h => ?_) (fun h => ?_)
  · conv => whnf
    exact rt (E := E_Bool) h rfl
  conv => whnf
  refine ixS (enc := Task.enc) h rfl (fun _ => rfl) (fun x2 h => ?_)
  conv => whnf
  refine fkS h (fun h => ?_) (fun h => ?_)
  · conv => whnf
    refine fkS h (fun h => ?_) (fun h => ?_)
    · conv => whnf
      refine fkS h (fun h => ?_) (fun h => ?_)
      · conv => whnf
        refine fkS h (fun h => ?_) (fun h => ?_)
        · conv => whnf
          refine fkS h (fun h => ?_) (fun h => ?_)
          · conv => whnf
            refine fkS h (fun h => ?_) (fun h => ?_)
            · conv => whnf
              exact rt (E := E_Bool) h rfl
            conv => whnf
            exact rt (E := E_Bool) h rfl
          conv => whnf
          exact rt (E := E_Bool) h rfl
        conv => whnf
        exact rt (E := E_Bool) h rfl
      conv => whnf
      exact rt (E := E_Bool) h rfl
    conv => whnf
    exact rt (E := E_Bool) h rfl
  conv => whnf
  exact rt (E := E_Bool) h rfl

end Go.Proofs.YtfnaclhllopoeaaGreat
namespace Go.Proofs.YtfnaclhllopoeaaGreat
open Go Go.VC
noncomputable def job_All (a0 : List Task) (a1 : List Job) : Option Bool :=
  jn (fun (w1 : Bool) => fk w1 (some false) (lp (fun nx3 (v3 : Int) => fk (decide (v3 < (a1.length : Int))) (ix a1 v3 fun x4 => bnd (job_right a0 x4) fun x5 => fk (!x5) (some false) (ck (decide ((0 : Int) ≤ (0 : Int)) && decide ((0 : Int) ≤ v3) && decide (v3 ≤ (a1.length : Int))) (lp (fun nx6 (v6 : Int) => fk (decide (v6 < (((a1.take v3.toNat).drop (0 : Int).toNat).length : Int))) (ix ((a1.take v3.toNat).drop (0 : Int).toNat) v6 fun x7 => jn (fun (w8 : Bool) => fk w8 (some false) (nx6 (wr (v6 + (1 : Int))))) (fun k8 => fk (decide (x4.Task = x7.Task)) (k8 (decide (x4.At = x7.At))) (k8 false))) (nx3 (wr (v3 + (1 : Int))))) FU (0 : Int)))) (some true)) FU (0 : Int))) (fun k1 => bnd (task_All a0) fun x2 => fk (!x2) (k1 true) (k1 (decide ((a1.length : Int) > (32 : Int)))))
theorem job_All_w (a0 : List Task) (a1 : List Job) (r : Bool) (h : job_All a0 a1 = some r) : Go.VC.Spec Tryz.prog 86 [.d (.sl (a0.map Task.enc)), .d (.sl (a1.map Job.enc))] (fun y => y = E_Bool r) := by
  refine Go.VC.Spec.of_xc (args := [.d (.sl (a0.map Task.enc)), .d (.sl (a1.map Job.enc))]) (fn := Tryz.f86) tab ⟨[(0, [0, 1]), (1, [0, 1, 16]), (2, [4]), (3, [0, 1, 17, 18, 19]), (4, [0, 1, 17, 18, 19, 20]), (5, [0, 1, 5, 6, 17, 18, 19]), (6, [0, 1, 5, 6, 17, 18, 19, 27]), (7, [4]), (8, [0, 1, 6, 17, 18, 19, 30, 31, 32]), (9, [0, 1, 6, 17, 18, 19, 30, 31, 32, 33]), (10, [0, 1, 6, 8, 17, 18, 19, 30, 31, 32]), (11, [0, 1, 6, 17, 18, 19, 30, 31, 32, 47]), (12, [4]), (13, [0, 1, 6, 17, 18, 19, 30, 31, 32]), (14, [0, 1, 17, 18, 19]), (15, [4])], [], [100016, 100047], []⟩ 50 [.tmp 4] rfl rfl rfl rfl rfl rfl ?_
  conv => whnf
  refine jnS (fun w1 => ⟨[(0, .l (.d (.sl (a0.map Task.enc)))), (1, .l (.d (.sl (a1.map Job.enc)))), (16, .l (.d (.bool w1)))], 50, [], [], []⟩) h (fun k1 hk1 h => ?_) (fun w1 h => ?_)
  · conv => whnf
    refine caS (E := E_Bool) h (task_All_w a0) rfl (fun _ => rfl) (fun x2 h => ?_)
    conv => whnf
    refine fkS h (fun h => ?_) (fun h => ?_)
    · conv => whnf
      exact jeS hk1 h (Weak.refl _)
    conv => whnf
    refine lenS a1 Job.enc rfl ?_
    conv => whnf
    exact jeS hk1 h (Weak.refl _)
  conv => whnf
  refine fkS h (fun h => ?_) (fun h => ?_)
  · conv => whnf
    exact rt (E := E_Bool) h rfl
  conv => whnf
  refine lenS a1 Job.enc rfl ?_
  conv => whnf
  refine lpS (fun v3 => ⟨[(0, .l (.d (.sl (a0.map Task.enc)))), (1, .l (.d (.sl (a1.map Job.enc)))), (17, .l (.d (.sl (a1.map Job.enc)))), (18, .l (.d (.int .i64 (a1.length : Int)))), (19, .l (.d (.int .i64 v3)))], 50, [], [], []⟩) h (Weak.refl _) (fun _ nx3 hn3 v3 h => ?_)
  conv => whnf
  refine fkS h (fun h => ?_) (fun h => ?_)
  · conv => whnf
    refine ixS (enc := Job.enc) h rfl (fun _ => rfl) (fun x4 h => ?_)
    conv => whnf
    refine caS (E := E_Bool) h (job_right_w a0 x4) rfl (fun _ => rfl) (fun x5 h => ?_)
    conv => whnf
    refine fkS h (fun h => ?_) (fun h => ?_)
    · conv => whnf
      exact rt (E := E_Bool) h rfl
    conv => whnf
    refine slS (enc := Job.enc) h rfl rfl (.inl rfl) (fun _ => rfl) (fun h => ?_)
    conv => whnf
    refine lenS ((a1.take v3.toNat).drop (0 : Int).toNat) Job.enc rfl ?_
    conv => whnf
    refine lpS (fun v6 => ⟨[(0, .l (.d (.sl (a0.map Task.enc)))), (1, .l (.d (.sl (a1.map Job.enc)))), (6, .l (.ptr 7 0)), (17, .l (.d (.sl (a1.map Job.enc)))), (18, .l (.d (.int .i64 (a1.length : Int)))), (19, .l (.d (.int .i64 v3))), (30, .l (.d (.sl (((a1.take v3.toNat).drop (0 : Int).toNat).map Job.enc)))), (31, .l (.d (.int .i64 (((a1.take v3.toNat).drop (0 : Int).toNat).length : Int)))), (32, .l (.d (.int .i64 v6)))], 50, [], [(7, [.d (.int .i64 x4.Task), .d (.int .i64 x4.At), .d (.int .i64 x4.Due), .d (.int .i64 x4.Want), .d (.int .i64 x4.Had), .d (.bool x4.Began)])], []⟩) h (Weak.refl _) (fun _ nx6 hn6 v6 h => ?_)
    conv => whnf
    refine fkS h (fun h => ?_) (fun h => ?_)
    · conv => whnf
      refine ixS (enc := Job.enc) h rfl (fun _ => rfl) (fun x7 h => ?_)
      conv => whnf
      refine jnS (fun w8 => ⟨[(0, .l (.d (.sl (a0.map Task.enc)))), (1, .l (.d (.sl (a1.map Job.enc)))), (6, .l (.ptr 7 0)), (17, .l (.d (.sl (a1.map Job.enc)))), (18, .l (.d (.int .i64 (a1.length : Int)))), (19, .l (.d (.int .i64 v3))), (30, .l (.d (.sl (((a1.take v3.toNat).drop (0 : Int).toNat).map Job.enc)))), (31, .l (.d (.int .i64 (((a1.take v3.toNat).drop (0 : Int).toNat).length : Int)))), (32, .l (.d (.int .i64 v6))), (47, .l (.d (.bool w8)))], 50, [], [(7, [.d (.int .i64 x4.Task), .d (.int .i64 x4.At), .d (.int .i64 x4.Due), .d (.int .i64 x4.Want), .d (.int .i64 x4.Had), .d (.bool x4.Began)])], []⟩) h (fun k8 hk8 h => ?_) (fun w8 h => ?_)
      · conv => whnf
        refine fkS h (fun h => ?_) (fun h => ?_)
        · conv => whnf
          exact jeS hk8 h (Weak.refl _)
        conv => whnf
        exact jeS hk8 h (Weak.refl _)
      conv => whnf
      refine fkS h (fun h => ?_) (fun h => ?_)
      · conv => whnf
        exact rt (E := E_Bool) h rfl
      conv => whnf
      exact leS hn6 h (Weak.refl _)
    conv => whnf
    exact leS hn3 h (Weak.refl _)
  conv => whnf
  exact rt (E := E_Bool) h rfl

end Go.Proofs.YtfnaclhllopoeaaGreat
namespace Go.Proofs.YtfnaclhllopoeaaGreat
open Go Go.VC
noncomputable def part_Right (a0 : PartState) : Option Bool :=
  fk (decide ((a0.Leaves.length : Int) = (a0.Tasks.length : Int))) (bnd (police_Right a0.Tasks a0.Lasts) fun x1 => fk x1 (bnd (job_All a0.Tasks a0.Jobs) fun x2 => fk x2 (some (decide ((a0.Log.length : Int) ≤ (2000 : Int)))) (some false)) (some false)) (some false)
theorem part_Right_w (a0 : PartState) (r : Bool) (h : part_Right a0 = some r) : Go.VC.Spec Tryz.prog 48 [.agg (PartState.enc a0)] (fun y => y = E_Bool r) := by
  refine Go.VC.Spec.of_xc (args := [.agg (PartState.enc a0)]) (fn := Tryz.f48) tab ⟨[(0, [1]), (1, [2])], [], [], []⟩ 30 [.tmp 2] rfl rfl rfl rfl rfl rfl ?_
  conv => whnf
  refine lenS a0.Leaves eB rfl ?_
  conv => whnf
  refine lenS a0.Tasks Task.enc rfl ?_
  conv => whnf
  refine fkS h (fun h => ?_) (fun h => ?_)
  · conv => whnf
    refine caS (E := E_Bool) h (police_Right_w a0.Tasks a0.Lasts) rfl (fun _ => rfl) (fun x1 h => ?_)
    conv => whnf
    refine fkS h (fun h => ?_) (fun h => ?_)
    · conv => whnf
      refine caS (E := E_Bool) h (job_All_w a0.Tasks a0.Jobs) rfl (fun _ => rfl) (fun x2 h => ?_)
      conv => whnf
      refine fkS h (fun h => ?_) (fun h => ?_)
      · conv => whnf
        refine lenS a0.Log Entry.enc rfl ?_
        conv => whnf
        exact rt (E := E_Bool) h rfl
      conv => whnf
      exact rt (E := E_Bool) h rfl
    conv => whnf
    exact rt (E := E_Bool) h rfl
  conv => whnf
  exact rt (E := E_Bool) h rfl

end Go.Proofs.YtfnaclhllopoeaaGreat
namespace Go.Proofs.YtfnaclhllopoeaaGreat
open Go Go.VC
def E_fn_admit_unless : Bool × Int → List CV := fun r => [.d (.fn 81 [[.bool r.1], [.int .i64 r.2]])]
noncomputable def admit_unless (a0 : Bool) (a1 : Int) : Option (Bool × Int) :=
  some (a0, a1)
theorem admit_unless_w (a0 : Bool) (a1 : Int) (r : Bool × Int) (h : admit_unless a0 a1 = some r) : Go.VC.Spec Tryz.prog 45 [.d (.bool a0), .d (.int .i64 a1)] (fun y => y = E_fn_admit_unless r) := by
  refine Go.VC.Spec.of_xc (args := [.d (.bool a0), .d (.int .i64 a1)]) (fn := Tryz.f45) tab ⟨[(0, [2, 3]), (1, [4])], [], [], []⟩ 6 [.tmp 4] rfl rfl rfl rfl rfl rfl ?_
  conv => whnf
  exact rt (E := E_fn_admit_unless) h rfl

end Go.Proofs.YtfnaclhllopoeaaGreat
namespace Go.Proofs.YtfnaclhllopoeaaGreat
open Go Go.VC
noncomputable def job_First_1 (a0 : Job) (a1 : Bool) : Option Bool :=
  some (decide (a0.Began = a1))
theorem job_First_1_w (a0 : Job) (a1 : Bool) (r : Bool) (h : job_First_1 a0 a1 = some r) : Go.VC.Spec Tryz.prog 107 [.agg (Job.enc a0), .dp [.bool a1]] (fun y => y = E_Bool r) := by
  refine Go.VC.Spec.of_xc (args := [.agg (Job.enc a0), .dp [.bool a1]]) (fn := Tryz.f107) tab ⟨[(0, [1, 2]), (1, [3])], [], [], []⟩ 8 [.tmp 3] rfl rfl rfl rfl rfl rfl ?_
  conv => whnf
  exact rt (E := E_Bool) h rfl

end Go.Proofs.YtfnaclhllopoeaaGreat
namespace Go.Proofs.YtfnaclhllopoeaaGreat
open Go Go.VC
noncomputable def job_Ahead (a0 : Job) (a1 : Job) : Option Bool :=
  fk (!decide (a0.Due = a1.Due)) (some (decide (a0.Due < a1.Due))) (fk (!decide (a0.Task = a1.Task)) (some (decide (a0.Task < a1.Task))) (some (decide (a0.At < a1.At))))
theorem job_Ahead_w (a0 : Job) (a1 : Job) (r : Bool) (h : job_Ahead a0 a1 = some r) : Go.VC.Spec Tryz.prog 108 [.agg (Job.enc a0), .agg (Job.enc a1)] (fun y => y = E_Bool r) := by
  refine Go.VC.Spec.of_xc (args := [.agg (Job.enc a0), .agg (Job.enc a1)]) (fn := Tryz.f108) tab ⟨[(0, [2, 3]), (1, [2, 3, 5]), (2, [4]), (3, [2, 3, 16]), (4, [4]), (5, [4])], [], [], []⟩ 32 [.tmp 4] rfl rfl rfl rfl rfl rfl ?_
  conv => whnf
  refine fkS h (fun h => ?_) (fun h => ?_)
  · conv => whnf
    exact rt (E := E_Bool) h rfl
  conv => whnf
  refine fkS h (fun h => ?_) (fun h => ?_)
  · conv => whnf
    exact rt (E := E_Bool) h rfl
  conv => whnf
  exact rt (E := E_Bool) h rfl

end Go.Proofs.YtfnaclhllopoeaaGreat
namespace Go.Proofs.YtfnaclhllopoeaaGreat
open Go Go.VC
noncomputable def job_first_api_Job (a0 : List Job) (a1 : Bool) : Option Int :=
  lp (fun nx1 (v1 : Int × Int) => fk (decide (v1.2 < (a0.length : Int))) (jn (fun (w2 : Int) => nx1 (w2, (wr (v1.2 + (1 : Int))))) (fun k2 => ix a0 v1.2 fun x3 => jn (fun (w4 : Bool) => fk w4 (k2 v1.2) (k2 v1.1)) (fun k4 => bnd (job_First_1 x3 a1) fun x5 => fk x5 (fk (decide (v1.1 < (0 : Int))) (k4 true) (ix a0 v1.1 fun x6 => bnd (job_Ahead x3 x6) fun x7 => k4 x7)) (k4 false)))) (some v1.1)) FU ((-1 : Int), (0 : Int))
theorem job_first_api_Job_w (a0 : List Job) (a1 : Bool) (r : Int) (h : job_first_api_Job a0 a1 = some r) : Go.VC.Spec Tryz.prog 106 [.d (.sl (a0.map Job.enc)), .d (.fn 107 [[.bool a1]]), .d (.fn 108 [])] (fun y => y = E_Int r) := by
  refine Go.VC.Spec.of_xc (args := [.d (.sl (a0.map Job.enc)), .d (.fn 107 [[.bool a1]]), .d (.fn 108 [])]) (fn := Tryz.f106) tab ⟨[(0, [0, 1, 2]), (1, [0, 1, 2, 7]), (2, [0, 1, 2, 7, 10, 11, 12]), (3, [0, 1, 2, 7, 10, 11, 12, 13]), (4, [0, 1, 2, 7, 8, 9, 10, 11, 12]), (5, [0, 1, 2, 7, 8, 10, 11, 12, 32]), (6, [0, 1, 2, 7, 10, 11, 12]), (7, [0, 1, 2, 7, 10, 11, 12]), (8, [6])], [], [100032, 7], []⟩ 36 [.tmp 6] rfl rfl rfl rfl rfl rfl ?_
  conv => whnf
  refine lenS a0 Job.enc rfl ?_
  conv => whnf
  refine lpS (fun v1 => ⟨[(0, .l (.d (.sl (a0.map Job.enc)))), (1, .l (.d (.fn 107 [[.bool a1]]))), (2, .l (.d (.fn 108 []))), (7, .l (.d (.int .i64 v1.1))), (10, .l (.d (.sl (a0.map Job.enc)))), (11, .l (.d (.int .i64 (a0.length : Int)))), (12, .l (.d (.int .i64 v1.2)))], 36, [], [], []⟩) h (Weak.refl _) (fun _ nx1 hn1 v1 h => ?_)
  conv => whnf
  refine fkS h (fun h => ?_) (fun h => ?_)
  · conv => whnf
    refine jnS (fun w2 => ⟨[(0, .l (.d (.sl (a0.map Job.enc)))), (1, .l (.d (.fn 107 [[.bool a1]]))), (2, .l (.d (.fn 108 []))), (7, .l (.d (.int .i64 w2))), (10, .l (.d (.sl (a0.map Job.enc)))), (11, .l (.d (.int .i64 (a0.length : Int)))), (12, .l (.d (.int .i64 v1.2)))], 36, [], [], []⟩) h (fun k2 hk2 h => ?_) (fun w2 h => ?_)
    · conv => whnf
      refine ixS (enc := Job.enc) h rfl (fun _ => rfl) (fun x3 h => ?_)
      conv => whnf
      refine jnS (fun w4 => ⟨[(0, .l (.d (.sl (a0.map Job.enc)))), (1, .l (.d (.fn 107 [[.bool a1]]))), (2, .l (.d (.fn 108 []))), (7, .l (.d (.int .i64 v1.1))), (8, .l (.d (.int .i64 v1.2))), (10, .l (.d (.sl (a0.map Job.enc)))), (11, .l (.d (.int .i64 (a0.length : Int)))), (12, .l (.d (.int .i64 v1.2))), (32, .l (.d (.bool w4)))], 36, [], [], []⟩) h (fun k4 hk4 h => ?_) (fun w4 h => ?_)
      · conv => whnf
        refine ⟨13, ?_⟩
        conv => whnf
        refine daS (E := E_Bool) h (job_First_1_w x3 a1) (fun _ => rfl) (fun x5 h => ?_)
        conv => whnf
        refine fkS h (fun h => ?_) (fun h => ?_)
        · conv => whnf
          refine fkS h (fun h => ?_) (fun h => ?_)
          · conv => whnf
            refine drS (by kernel_rfl) ?_
            conv => whnf
            exact jeS hk4 h (Weak.refl _)
          conv => whnf
          refine ixS (enc := Job.enc) h rfl (fun _ => rfl) (fun x6 h => ?_)
          conv => whnf
          refine drS (by kernel_rfl) ?_
          conv => whnf
          refine caS (E := E_Bool) h (job_Ahead_w x3 x6) rfl (fun _ => rfl) (fun x7 h => ?_)
          conv => whnf
          exact jeS hk4 h (Weak.refl _)
        conv => whnf
        refine drS (by kernel_rfl) ?_
        conv => whnf
        exact jeS hk4 h (Weak.refl _)
      conv => whnf
      refine fkS h (fun h => ?_) (fun h => ?_)
      · conv => whnf
        exact jeS hk2 h (Weak.refl _)
      conv => whnf
      refine jeX hk2 h ?_
      conv => whnf
      refine WkF.step (Weak.keepS _ [0, 1, 2, 7, 10, 11, 12]) ?_
      conv => whnf
      exact WkF.refl _
    conv => whnf
    exact leS hn1 h (Weak.refl _)
  conv => whnf
  exact rt (E := E_Int) h rfl

end Go.Proofs.YtfnaclhllopoeaaGreat
namespace Go.Proofs.YtfnaclhllopoeaaGreat
open Go Go.VC
noncomputable def job_First (a0 : List Job) (a1 : Bool) : Option Int :=
  bnd (job_first_api_Job a0 a1) fun x1 => some x1
theorem job_First_w (a0 : List Job) (a1 : Bool) (r : Int) (h : job_First a0 a1 = some r) : Go.VC.Spec Tryz.prog 92 [.d (.sl (a0.map Job.enc)), .d (.bool a1)] (fun y => y = E_Int r) := by
  refine Go.VC.Spec.of_xc (args := [.d (.sl (a0.map Job.enc)), .d (.bool a1)]) (fn := Tryz.f92) tab ⟨[(0, [0, 3]), (1, [4])], [], [], []⟩ 8 [.tmp 4] rfl rfl rfl rfl rfl rfl ?_
  conv => whnf
  refine caS (E := E_Int) h (job_first_api_Job_w a0 a1) rfl (fun _ => rfl) (fun x1 h => ?_)
  conv => whnf
  exact rt (E := E_Int) h rfl

end Go.Proofs.YtfnaclhllopoeaaGreat
namespace Go.Proofs.YtfnaclhllopoeaaGreat
open Go Go.VC
def E_fn_admit_fit : (List Task) × Int × Int → List CV := fun r => [.d (.fn 82 [[.sl (r.1.map Task.enc)], [.int .i64 r.2.1, .int .i64 r.2.2]])]
noncomputable def admit_fit (a0 : List Task) (a1 : Face) : Option ((List Task) × Int × Int) :=
  some (a0, a1.P, a1.B)
theorem admit_fit_w (a0 : List Task) (a1 : Face) (r : (List Task) × Int × Int) (h : admit_fit a0 a1 = some r) : Go.VC.Spec Tryz.prog 46 [.d (.sl (a0.map Task.enc)), .agg (Face.enc a1)] (fun y => y = E_fn_admit_fit r) := by
  refine Go.VC.Spec.of_xc (args := [.d (.sl (a0.map Task.enc)), .agg (Face.enc a1)]) (fn := Tryz.f46) tab ⟨[(0, [2, 3]), (1, [4])], [], [], []⟩ 6 [.tmp 4] rfl rfl rfl rfl rfl rfl ?_
  conv => whnf
  exact rt (E := E_fn_admit_fit) h rfl

end Go.Proofs.YtfnaclhllopoeaaGreat
namespace Go.Proofs.YtfnaclhllopoeaaGreat
open Go Go.VC
noncomputable def verdict_Cycle (a0 : List Task) (a1 : Face) : Option (Int × Int × Int) :=
  jn (fun (w1 : Bool) => fk w1 (some ((0 : Int), (0 : Int), (1 : Int))) (lp (fun nx4 (v4 : Int × Int × Int) => fk (decide (v4.2.2 < (a0.length : Int))) (ix a0 v4.2.2 fun x5 => bnd (arith_Lcm v4.1 x5.T) fun x6 => jn (fun (w7 : Bool) => fk w7 (some ((0 : Int), (0 : Int), (5 : Int))) (nx4 (x6.1, (if x5.D > v4.2.1 then x5.D else v4.2.1), (wr (v4.2.2 + (1 : Int)))))) (fun k7 => fk (!decide (x6.2 = (0 : Int))) (k7 true) (k7 (decide (x6.1 > (3000 : Int)))))) (fk (decide ((wr (v4.1 + v4.2.1)) > (3000 : Int))) (some ((0 : Int), (0 : Int), (5 : Int))) (some (v4.1, (wr (v4.1 + v4.2.1)), (0 : Int))))) FU (a1.P, (wr ((2 : Int) * a1.P)), (0 : Int)))) (fun k1 => bnd (task_All a0) fun x2 => fk (!x2) (k1 true) (bnd (supply_Right a1) fun x3 => k1 (!x3)))
theorem verdict_Cycle_w (a0 : List Task) (a1 : Face) (r : Int × Int × Int) (h : verdict_Cycle a0 a1 = some r) : Go.VC.Spec Tryz.prog 102 [.d (.sl (a0.map Task.enc)), .agg (Face.enc a1)] (fun y => y = E_Int_Int_Int r) := by
  refine Go.VC.Spec.of_xc (args := [.d (.sl (a0.map Task.enc)), .agg (Face.enc a1)]) (fn := Tryz.f102) tab ⟨[(0, [0, 3]), (1, [0, 3, 20]), (2, [4, 5, 6]), (3, [0, 7, 8]), (4, [7, 8, 26, 27, 28]), (5, [7, 8, 26, 27, 28, 29]), (6, [7, 8, 10, 26, 27, 28]), (7, [8, 10, 11, 12, 26, 27, 28]), (8, [8, 10, 11, 26, 27, 28, 44]), (9, [4, 5, 6]), (10, [7, 8, 26, 27, 28]), (11, [7, 8, 26, 27, 28]), (12, [7, 8, 54]), (13, [4, 5, 6]), (14, [4, 5, 6])], [], [100020, 100044], []⟩ 59 [.tmp 4, .tmp 5, .tmp 6] rfl rfl rfl rfl rfl rfl ?_
  conv => whnf
  refine jnS (fun w1 => ⟨[(0, .l (.d (.sl (a0.map Task.enc)))), (3, .l (.ptr 4 0)), (20, .l (.d (.bool w1)))], 59, [], [(4, [.d (.int .i64 a1.P), .d (.int .i64 a1.B)])], []⟩) h (fun k1 hk1 h => ?_) (fun w1 h => ?_)
  · conv => whnf
    refine caS (E := E_Bool) h (task_All_w a0) rfl (fun _ => rfl) (fun x2 h => ?_)
    conv => whnf
    refine fkS h (fun h => ?_) (fun h => ?_)
    · conv => whnf
      exact jeS hk1 h (Weak.refl _)
    conv => whnf
    refine caS (E := E_Bool) h (supply_Right_w a1) rfl (fun _ => rfl) (fun x3 h => ?_)
    conv => whnf
    exact jeS hk1 h (Weak.refl _)
  conv => whnf
  refine fkS h (fun h => ?_) (fun h => ?_)
  · conv => whnf
    exact rt (E := E_Int_Int_Int) h rfl
  conv => whnf
  refine ⟨6, ?_⟩
  conv => whnf
  refine drS (by kernel_rfl) ?_
  conv => whnf
  refine lenS a0 Task.enc rfl ?_
  conv => whnf
  refine lpS (fun v4 => ⟨[(7, .l (.d (.int .i64 v4.1))), (8, .l (.d (.int .i64 v4.2.1))), (26, .l (.d (.sl (a0.map Task.enc)))), (27, .l (.d (.int .i64 (a0.length : Int)))), (28, .l (.d (.int .i64 v4.2.2)))], 59, [], [], []⟩) h (Weak.refl _) (fun _ nx4 hn4 v4 h => ?_)
  conv => whnf
  refine fkS h (fun h => ?_) (fun h => ?_)
  · conv => whnf
    refine ixS (enc := Task.enc) h rfl (fun _ => rfl) (fun x5 h => ?_)
    conv => whnf
    refine caS (E := E_Int_Int) h (arith_Lcm_w v4.1 x5.T) rfl (fun _ => rfl) (fun x6 h => ?_)
    conv => whnf
    refine jnS (fun w7 => ⟨[(8, .l (.d (.int .i64 v4.2.1))), (10, .l (.ptr 11 0)), (11, .l (.d (.int .i64 x6.1))), (26, .l (.d (.sl (a0.map Task.enc)))), (27, .l (.d (.int .i64 (a0.length : Int)))), (28, .l (.d (.int .i64 v4.2.2))), (44, .l (.d (.bool w7)))], 59, [], [(11, [.d (.int .i64 x5.C), .d (.int .i64 x5.D), .d (.int .i64 x5.T), .d (.sl (x5.Secs.map Sec.enc))])], []⟩) h (fun k7 hk7 h => ?_) (fun w7 h => ?_)
    · conv => whnf
      refine fkS h (fun h => ?_) (fun h => ?_)
      · conv => whnf
        exact jeS hk7 h (Weak.refl _)
      conv => whnf
      exact jeS hk7 h (Weak.refl _)
    conv => whnf
    refine fkS h (fun h => ?_) (fun h => ?_)
    · conv => whnf
      exact rt (E := E_Int_Int_Int) h rfl
    conv => whnf
    refine ⟨6, ?_⟩
    conv => whnf
    refine drS (by kernel_rfl) ?_
    conv => whnf
    exact leS hn4 h (Weak.refl _)
  conv => whnf
  refine fkS h (fun h => ?_) (fun h => ?_)
  · conv => whnf
    exact rt (E := E_Int_Int_Int) h rfl
  conv => whnf
  exact rt (E := E_Int_Int_Int) h rfl

end Go.Proofs.YtfnaclhllopoeaaGreat
namespace Go.Proofs.YtfnaclhllopoeaaGreat
open Go Go.VC
noncomputable def arith_Floor (a0 : Int) (a1 : Int) : Option (Int × Int) :=
  jn (fun (w1 : Bool) => fk w1 (some ((0 : Int), (1 : Int))) (ck (decide (a1 ≠ 0)) (ck (decide (a1 ≠ 0)) (fk (decide ((a0.tmod a1) < (0 : Int))) (some ((wr ((wr (a0.tdiv a1)) - (1 : Int))), (0 : Int))) (some ((wr (a0.tdiv a1)), (0 : Int))))))) (fun k1 => bnd (arith_may ([a0, a1] : List Int)) fun x2 => fk (!x2) (k1 true) (k1 (decide (a1 < (1 : Int)))))
theorem arith_Floor_w (a0 : Int) (a1 : Int) (r : Int × Int) (h : arith_Floor a0 a1 = some r) : Go.VC.Spec Tryz.prog 136 [.d (.int .i64 a0), .d (.int .i64 a1)] (fun y => y = E_Int_Int r) := by
  refine Go.VC.Spec.of_xc (args := [.d (.int .i64 a0), .d (.int .i64 a1)]) (fn := Tryz.f136) tab ⟨[(0, [0, 1]), (1, [0, 1, 15]), (2, [4, 5]), (3, [0, 1, 6]), (4, [6, 22]), (5, [6]), (6, [4, 5])], [], [100015], []⟩ 26 [.tmp 4, .tmp 5] rfl rfl rfl rfl rfl rfl ?_
  conv => whnf
  refine jnS (fun w1 => ⟨[(0, .l (.d (.int .i64 a0))), (1, .l (.d (.int .i64 a1))), (15, .l (.d (.bool w1)))], 26, [], [], []⟩) h (fun k1 hk1 h => ?_) (fun w1 h => ?_)
  · conv => whnf
    refine liS ([a0, a1] : List Int) (eI .i64) rfl rfl ?_
    conv => whnf
    refine caS (E := E_Bool) h (arith_may_w ([a0, a1] : List Int)) rfl (fun _ => rfl) (fun x2 h => ?_)
    conv => whnf
    refine fkS h (fun h => ?_) (fun h => ?_)
    · conv => whnf
      exact jeS hk1 h (Weak.refl _)
    conv => whnf
    exact jeS hk1 h (Weak.refl _)
  conv => whnf
  refine fkS h (fun h => ?_) (fun h => ?_)
  · conv => whnf
    exact rt (E := E_Int_Int) h rfl
  conv => whnf
  refine dvS h (fun h => ?_)
  conv => whnf
  refine dvS h (fun h => ?_)
  conv => whnf
  refine fkS h (fun h => ?_) (fun h => ?_)
  · conv => whnf
    exact rt (E := E_Int_Int) h rfl
  conv => whnf
  exact rt (E := E_Int_Int) h rfl

end Go.Proofs.YtfnaclhllopoeaaGreat
namespace Go.Proofs.YtfnaclhllopoeaaGreat
open Go Go.VC
noncomputable def demand_jobs (a0 : Task) (a1 : Int) : Option Int :=
  fk (decide (a1 < a0.D)) (some (0 : Int)) (bnd (arith_Floor (wr (a1 - a0.D)) a0.T) fun x1 => some (wr (x1.1 + (1 : Int))))
theorem demand_jobs_w (a0 : Task) (a1 : Int) (r : Int) (h : demand_jobs a0 a1 = some r) : Go.VC.Spec Tryz.prog 130 [.agg (Task.enc a0), .d (.int .i64 a1)] (fun y => y = E_Int r) := by
  refine Go.VC.Spec.of_xc (args := [.agg (Task.enc a0), .d (.int .i64 a1)]) (fn := Tryz.f130) tab ⟨[(0, [1, 2]), (1, [1, 2, 10]), (2, [4]), (3, [5]), (4, [4])], [], [], []⟩ 23 [.tmp 4] rfl rfl rfl rfl rfl rfl ?_
  conv => whnf
  refine fkS h (fun h => ?_) (fun h => ?_)
  · conv => whnf
    exact rt (E := E_Int) h rfl
  conv => whnf
  refine caS (E := E_Int_Int) h (arith_Floor_w (wr (a1 - a0.D)) a0.T) rfl (fun _ => rfl) (fun x1 h => ?_)
  conv => whnf
  exact rt (E := E_Int) h rfl

end Go.Proofs.YtfnaclhllopoeaaGreat
namespace Go.Proofs.YtfnaclhllopoeaaGreat
open Go Go.VC
noncomputable def arith_Add (a0 : Int) (a1 : Int) : Option (Int × Int) :=
  bnd (arith_may ([a0, a1] : List Int)) fun x1 => fk (!x1) (some ((0 : Int), (1 : Int))) (bnd (arith_may ([(wr (a0 + a1))] : List Int)) fun x2 => fk (!x2) (some ((0 : Int), (5 : Int))) (some ((wr (a0 + a1)), (0 : Int))))
theorem arith_Add_w (a0 : Int) (a1 : Int) (r : Int × Int) (h : arith_Add a0 a1 = some r) : Go.VC.Spec Tryz.prog 124 [.d (.int .i64 a0), .d (.int .i64 a1)] (fun y => y = E_Int_Int r) := by
  refine Go.VC.Spec.of_xc (args := [.d (.int .i64 a0), .d (.int .i64 a1)]) (fn := Tryz.f124) tab ⟨[(0, [0, 1]), (1, [0, 1, 6]), (2, [4, 5]), (3, [0, 1, 12]), (4, [4, 5]), (5, [4, 5])], [], [], []⟩ 22 [.tmp 4, .tmp 5] rfl rfl rfl rfl rfl rfl ?_
  conv => whnf
  refine liS ([a0, a1] : List Int) (eI .i64) rfl rfl ?_
  conv => whnf
  refine caS (E := E_Bool) h (arith_may_w ([a0, a1] : List Int)) rfl (fun _ => rfl) (fun x1 h => ?_)
  conv => whnf
  refine fkS h (fun h => ?_) (fun h => ?_)
  · conv => whnf
    exact rt (E := E_Int_Int) h rfl
  conv => whnf
  refine liS ([(wr (a0 + a1))] : List Int) (eI .i64) rfl rfl ?_
  conv => whnf
  refine caS (E := E_Bool) h (arith_may_w ([(wr (a0 + a1))] : List Int)) rfl (fun _ => rfl) (fun x2 h => ?_)
  conv => whnf
  refine fkS h (fun h => ?_) (fun h => ?_)
  · conv => whnf
    exact rt (E := E_Int_Int) h rfl
  conv => whnf
  exact rt (E := E_Int_Int) h rfl

end Go.Proofs.YtfnaclhllopoeaaGreat
namespace Go.Proofs.YtfnaclhllopoeaaGreat
open Go Go.VC
noncomputable def demand_Bound (a0 : List Task) (a1 : Int) : Option (Int × Int) :=
  jn (fun (w1 : Bool) => fk w1 (some ((0 : Int), (1 : Int))) (lp (fun nx3 (v3 : Int × Int × Int) => fk (decide (v3.2.2 < (a0.length : Int))) (ix a0 v3.2.2 fun x4 => bnd (demand_jobs x4 a1) fun x5 => bnd (arith_Mul x4.C x5) fun x6 => bnd (arith_Add v3.1 x6.1) fun x7 => jn (fun (w8 : Bool) => fk w8 (nx3 (v3.1, (5 : Int), (wr (v3.2.2 + (1 : Int))))) (nx3 (x7.1, v3.2.1, (wr (v3.2.2 + (1 : Int)))))) (fun k8 => fk (!decide (x6.2 = (0 : Int))) (k8 true) (k8 (!decide (x7.2 = (0 : Int)))))) (fk (!decide (v3.2.1 = (0 : Int))) (some ((0 : Int), v3.2.1)) (some (v3.1, (0 : Int))))) FU ((0 : Int), (0 : Int), (0 : Int)))) (fun k1 => bnd (task_All a0) fun x2 => fk (!x2) (k1 true) (fk (decide (a1 < (0 : Int))) (k1 true) (k1 (decide (a1 > (4611686018427387903 : Int))))))
theorem demand_Bound_w (a0 : List Task) (a1 : Int) (r : Int × Int) (h : demand_Bound a0 a1 = some r) : Go.VC.Spec Tryz.prog 122 [.d (.sl (a0.map Task.enc)), .d (.int .i64 a1)] (fun y => y = E_Int_Int r) := by
  refine Go.VC.Spec.of_xc (args := [.d (.sl (a0.map Task.enc)), .d (.int .i64 a1)]) (fn := Tryz.f122) tab ⟨[(0, [0, 1]), (1, [0, 1, 21]), (2, [4, 5]), (3, [0, 1, 6, 7]), (4, [0, 1, 6, 7, 8]), (5, [1, 6, 7, 8, 23, 24, 25]), (6, [1, 6, 7, 8, 23, 24, 25, 26]), (7, [1, 6, 7, 8, 10, 23, 24, 25]), (8, [1, 6, 7, 8, 23, 24, 25]), (9, [1, 6, 7, 8, 23, 24, 25]), (10, [6, 7, 38]), (11, [4, 5]), (12, [4, 5])], [], [100021], []⟩ 41 [.tmp 4, .tmp 5] rfl rfl rfl rfl rfl rfl ?_
  conv => whnf
  refine jnS (fun w1 => ⟨[(0, .l (.d (.sl (a0.map Task.enc)))), (1, .l (.d (.int .i64 a1))), (21, .l (.d (.bool w1)))], 41, [], [], []⟩) h (fun k1 hk1 h => ?_) (fun w1 h => ?_)
  · conv => whnf
    refine caS (E := E_Bool) h (task_All_w a0) rfl (fun _ => rfl) (fun x2 h => ?_)
    conv => whnf
    refine fkS h (fun h => ?_) (fun h => ?_)
    · conv => whnf
      exact jeS hk1 h (Weak.refl _)
    conv => whnf
    refine fkS h (fun h => ?_) (fun h => ?_)
    · conv => whnf
      exact jeS hk1 h (Weak.refl _)
    conv => whnf
    exact jeS hk1 h (Weak.refl _)
  conv => whnf
  refine fkS h (fun h => ?_) (fun h => ?_)
  · conv => whnf
    exact rt (E := E_Int_Int) h rfl
  conv => whnf
  refine lenS a0 Task.enc rfl ?_
  conv => whnf
  refine lpS (fun v3 => ⟨[(1, .l (.d (.int .i64 a1))), (6, .l (.ptr 7 0)), (7, .l (.ptr 8 0)), (8, .l (.func 129 [.k 7, .k 8])), (23, .l (.d (.sl (a0.map Task.enc)))), (24, .l (.d (.int .i64 (a0.length : Int)))), (25, .l (.d (.int .i64 v3.2.2)))], 41, [], [(7, [.d (.int .i64 v3.1)]), (8, [.d (.int .i64 v3.2.1)])], []⟩) h (Weak.refl _) (fun _ nx3 hn3 v3 h => ?_)
  conv => whnf
  refine fkS h (fun h => ?_) (fun h => ?_)
  · conv => whnf
    refine ixS (enc := Task.enc) h rfl (fun _ => rfl) (fun x4 h => ?_)
    conv => whnf
    refine ⟨6, ?_⟩
    conv => whnf
    refine daS (E := E_Int) h (demand_jobs_w x4 a1) (fun _ => rfl) (fun x5 h => ?_)
    conv => whnf
    refine drS (by kernel_rfl) ?_
    conv => whnf
    refine inS (fn := Tryz.f129) tab ⟨[(0, [2, 3, 6, 7]), (1, [2, 3, 7, 8, 9]), (2, [2, 3, 8, 27]), (3, []), (4, [])], [], [100027], []⟩ 29 [] rfl rfl rfl rfl rfl rfl ?_
    conv => whnf
    refine caS (E := E_Int_Int) h (arith_Mul_w x4.C x5) rfl (fun _ => rfl) (fun x6 h => ?_)
    conv => whnf
    refine caS (E := E_Int_Int) h (arith_Add_w v3.1 x6.1) rfl (fun _ => rfl) (fun x7 h => ?_)
    conv => whnf
    refine jnS (fun w8 => ⟨[(2, .l (.ptr 7 0)), (3, .l (.ptr 8 0)), (8, .l (.d (.int .i64 x7.1))), (27, .l (.d (.bool w8)))], 29, [⟨[(34, .l (.d (.int .i64 x5))), (33, .l (.d (.int .i64 a1))), (32, .agg [.d (.int .i64 x4.C), .d (.int .i64 x4.D), .d (.int .i64 x4.T), .d (.sl (x4.Secs.map Sec.enc))]), (31, .l (.d (.int .i64 x4.C))), (30, .l (.ptr 11 0)), (29, .l (.func 129 [.k 7, .k 8])), (1, .l (.d (.int .i64 a1))), (6, .l (.ptr 7 0)), (7, .l (.ptr 8 0)), (8, .l (.func 129 [.k 7, .k 8])), (10, .l (.ptr 11 0)), (23, .l (.d (.sl (a0.map Task.enc)))), (24, .l (.d (.int .i64 (a0.length : Int)))), (25, .l (.d (.int .i64 v3.2.2)))], 41⟩], [(7, [.d (.int .i64 v3.1)]), (8, [.d (.int .i64 v3.2.1)]), (11, [.d (.int .i64 x4.C), .d (.int .i64 x4.D), .d (.int .i64 x4.T), .d (.sl (x4.Secs.map Sec.enc))])], []⟩) h (fun k8 hk8 h => ?_) (fun w8 h => ?_)
    · conv => whnf
      refine fkS h (fun h => ?_) (fun h => ?_)
      · conv => whnf
        exact jeS hk8 h (Weak.refl _)
      conv => whnf
      exact jeS hk8 h (Weak.refl _)
    conv => whnf
    refine fkS h (fun h => ?_) (fun h => ?_)
    · conv => whnf
      exact leS hn3 h (Weak.refl _)
    conv => whnf
    exact leS hn3 h (Weak.refl _)
  conv => whnf
  refine fkS h (fun h => ?_) (fun h => ?_)
  · conv => whnf
    refine ⟨2, ?_⟩
    conv => whnf
    refine drS (by kernel_rfl) ?_
    conv => whnf
    exact rt (E := E_Int_Int) h rfl
  conv => whnf
  exact rt (E := E_Int_Int) h rfl

end Go.Proofs.YtfnaclhllopoeaaGreat
namespace Go.Proofs.YtfnaclhllopoeaaGreat
open Go Go.VC
noncomputable def task_Uses (a0 : Task) (a1 : Int) : Option Bool :=
  bnd (task_Right a0) fun x1 => fk (!x1) (some false) (lp (fun nx2 (v2 : Int) => fk (decide (v2 < (a0.Secs.length : Int))) (ix a0.Secs v2 fun x3 => fk (decide (x3.Res = a1)) (some true) (nx2 (wr (v2 + (1 : Int))))) (some false)) FU (0 : Int))
theorem task_Uses_w (a0 : Task) (a1 : Int) (r : Bool) (h : task_Uses a0 a1 = some r) : Go.VC.Spec Tryz.prog 135 [.agg (Task.enc a0), .d (.int .i64 a1)] (fun y => y = E_Bool r) := by
  refine Go.VC.Spec.of_xc (args := [.agg (Task.enc a0), .d (.int .i64 a1)]) (fn := Tryz.f135) tab ⟨[(0, [1, 2]), (1, [1, 2, 9]), (2, [4]), (3, [1, 11, 12, 13]), (4, [1, 11, 12, 13, 14]), (5, [1, 6, 11, 12, 13]), (6, [1, 11, 12, 13, 20]), (7, [4]), (8, [1, 11, 12, 13]), (9, [4])], [], [], []⟩ 22 [.tmp 4] rfl rfl rfl rfl rfl rfl ?_
  conv => whnf
  refine caS (E := E_Bool) h (task_Right_w a0) rfl (fun _ => rfl) (fun x1 h => ?_)
  conv => whnf
  refine fkS h (fun h => ?_) (fun h => ?_)
  · conv => whnf
    exact rt (E := E_Bool) h rfl
  conv => whnf
  refine lenS a0.Secs Sec.enc rfl ?_
  conv => whnf
  refine lpS (fun v2 => ⟨[(1, .l (.d (.int .i64 a1))), (11, .l (.d (.sl (a0.Secs.map Sec.enc)))), (12, .l (.d (.int .i64 (a0.Secs.length : Int)))), (13, .l (.d (.int .i64 v2)))], 22, [], [], []⟩) h (Weak.refl _) (fun _ nx2 hn2 v2 h => ?_)
  conv => whnf
  refine fkS h (fun h => ?_) (fun h => ?_)
  · conv => whnf
    refine ixS (enc := Sec.enc) h rfl (fun _ => rfl) (fun x3 h => ?_)
    conv => whnf
    refine fkS h (fun h => ?_) (fun h => ?_)
    · conv => whnf
      exact rt (E := E_Bool) h rfl
    conv => whnf
    exact leS hn2 h (Weak.refl _)
  conv => whnf
  exact rt (E := E_Bool) h rfl

end Go.Proofs.YtfnaclhllopoeaaGreat
namespace Go.Proofs.YtfnaclhllopoeaaGreat
open Go Go.VC
noncomputable def block_shared (a0 : List Task) (a1 : Int) (a2 : Int) : Option Bool :=
  lp (fun nx1 (v1 : Int) => fk (decide (v1 < (a0.length : Int))) (ix a0 v1 fun x2 => jn (fun (w3 : Bool) => fk w3 (some true) (nx1 (wr (v1 + (1 : Int))))) (fun k3 => fk (decide (x2.D ≤ a1)) (bnd (task_Uses x2 a2) fun x4 => k3 x4) (k3 false))) (some false)) FU (0 : Int)
theorem block_shared_w (a0 : List Task) (a1 : Int) (a2 : Int) (r : Bool) (h : block_shared a0 a1 a2 = some r) : Go.VC.Spec Tryz.prog 132 [.d (.sl (a0.map Task.enc)), .d (.int .i64 a1), .d (.int .i64 a2)] (fun y => y = E_Bool r) := by
  refine Go.VC.Spec.of_xc (args := [.d (.sl (a0.map Task.enc)), .d (.int .i64 a1), .d (.int .i64 a2)]) (fn := Tryz.f132) tab ⟨[(0, [0, 1, 2]), (1, [1, 2, 9, 10, 11]), (2, [1, 2, 9, 10, 11, 12]), (3, [1, 2, 8, 9, 10, 11]), (4, [1, 2, 9, 10, 11, 23]), (5, [6]), (6, [1, 2, 9, 10, 11]), (7, [6])], [], [100023], []⟩ 25 [.tmp 6] rfl rfl rfl rfl rfl rfl ?_
  conv => whnf
  refine lenS a0 Task.enc rfl ?_
  conv => whnf
  refine lpS (fun v1 => ⟨[(1, .l (.d (.int .i64 a1))), (2, .l (.d (.int .i64 a2))), (9, .l (.d (.sl (a0.map Task.enc)))), (10, .l (.d (.int .i64 (a0.length : Int)))), (11, .l (.d (.int .i64 v1)))], 25, [], [], []⟩) h (Weak.refl _) (fun _ nx1 hn1 v1 h => ?_)
  conv => whnf
  refine fkS h (fun h => ?_) (fun h => ?_)
  · conv => whnf
    refine ixS (enc := Task.enc) h rfl (fun _ => rfl) (fun x2 h => ?_)
    conv => whnf
    refine jnS (fun w3 => ⟨[(1, .l (.d (.int .i64 a1))), (2, .l (.d (.int .i64 a2))), (9, .l (.d (.sl (a0.map Task.enc)))), (10, .l (.d (.int .i64 (a0.length : Int)))), (11, .l (.d (.int .i64 v1))), (23, .l (.d (.bool w3)))], 25, [], [], []⟩) h (fun k3 hk3 h => ?_) (fun w3 h => ?_)
    · conv => whnf
      refine fkS h (fun h => ?_) (fun h => ?_)
      · conv => whnf
        refine caS (E := E_Bool) h (task_Uses_w x2 a2) rfl (fun _ => rfl) (fun x4 h => ?_)
        conv => whnf
        exact jeS hk3 h (Weak.refl _)
      conv => whnf
      exact jeS hk3 h (Weak.refl _)
    conv => whnf
    refine fkS h (fun h => ?_) (fun h => ?_)
    · conv => whnf
      exact rt (E := E_Bool) h rfl
    conv => whnf
    exact leS hn1 h (Weak.refl _)
  conv => whnf
  exact rt (E := E_Bool) h rfl

end Go.Proofs.YtfnaclhllopoeaaGreat
namespace Go.Proofs.YtfnaclhllopoeaaGreat
open Go Go.VC
noncomputable def block_Of (a0 : List Task) (a1 : Int) : Option (Int × Int) :=
  bnd (task_All a0) fun x1 => fk (!x1) (some ((0 : Int), (1 : Int))) (lp (fun nx2 (v2 : Int × Int) => fk (decide (v2.2 < (a0.length : Int))) (jn (fun (w3 : Int) => nx2 (w3, (wr (v2.2 + (1 : Int))))) (fun k3 => ix a0 v2.2 fun x4 => fk (decide (x4.D ≤ a1)) (k3 v2.1) (lp (fun nx5 (v5 : Int × Int) => fk (decide (v5.2 < (x4.Secs.length : Int))) (ix x4.Secs v5.2 fun x6 => jn (fun (w7 : Bool) => fk w7 (nx5 (x6.Len, (wr (v5.2 + (1 : Int))))) (nx5 (v5.1, (wr (v5.2 + (1 : Int)))))) (fun k7 => fk (decide (x6.Len > v5.1)) (bnd (block_shared a0 a1 x6.Res) fun x8 => k7 x8) (k7 false))) (k3 v5.1)) FU (v2.1, (0 : Int))))) (some (v2.1, (0 : Int)))) FU ((0 : Int), (0 : Int)))
theorem block_Of_w (a0 : List Task) (a1 : Int) (r : Int × Int) (h : block_Of a0 a1 = some r) : Go.VC.Spec Tryz.prog 123 [.d (.sl (a0.map Task.enc)), .d (.int .i64 a1)] (fun y => y = E_Int_Int r) := by
  refine Go.VC.Spec.of_xc (args := [.d (.sl (a0.map Task.enc)), .d (.int .i64 a1)]) (fn := Tryz.f123) tab ⟨[(0, [2, 3]), (1, [2, 3, 14]), (2, [4, 5]), (3, [2, 3, 6]), (4, [2, 3, 6, 7]), (5, [3, 6, 7, 16, 17, 18]), (6, [3, 6, 7, 16, 17, 18, 19]), (7, [3, 6, 7, 9, 16, 17, 18]), (8, [3, 6, 7, 9, 16, 17, 18, 25]), (9, [3, 6, 7, 16, 17, 18, 27, 28, 29]), (10, [3, 6, 7, 16, 17, 18, 27, 28, 29, 30]), (11, [3, 6, 7, 11, 16, 17, 18, 27, 28, 29]), (12, [3, 6, 7, 16, 17, 18, 27, 28, 29]), (13, [3, 6, 7, 16, 17, 18, 27, 28, 29]), (14, [3, 6, 7, 16, 17, 18]), (15, [4, 5])], [], [14], []⟩ 39 [.tmp 4, .tmp 5] rfl rfl rfl rfl rfl rfl ?_
  conv => whnf
  refine caS (E := E_Bool) h (task_All_w a0) rfl (fun _ => rfl) (fun x1 h => ?_)
  conv => whnf
  refine fkS h (fun h => ?_) (fun h => ?_)
  · conv => whnf
    exact rt (E := E_Int_Int) h rfl
  conv => whnf
  refine lenS a0 Task.enc rfl ?_
  conv => whnf
  refine lpS (fun v2 => ⟨[(3, .l (.ptr 4 0)), (6, .l (.ptr 7 0)), (7, .l (.func 131 [.k 7, .k 3, .k 4])), (16, .l (.d (.sl (a0.map Task.enc)))), (17, .l (.d (.int .i64 (a0.length : Int)))), (18, .l (.d (.int .i64 v2.2)))], 39, [], [(3, [.d (.sl (a0.map Task.enc))]), (4, [.d (.int .i64 a1)]), (7, [.d (.int .i64 v2.1)])], []⟩) h (Weak.refl _) (fun _ nx2 hn2 v2 h => ?_)
  conv => whnf
  refine fkS h (fun h => ?_) (fun h => ?_)
  · conv => whnf
    refine jnS (fun w3 => ⟨[(3, .l (.ptr 4 0)), (6, .l (.ptr 7 0)), (7, .l (.func 131 [.k 7, .k 3, .k 4])), (16, .l (.d (.sl (a0.map Task.enc)))), (17, .l (.d (.int .i64 (a0.length : Int)))), (18, .l (.d (.int .i64 v2.2)))], 39, [], [(3, [.d (.sl (a0.map Task.enc))]), (4, [.d (.int .i64 a1)]), (7, [.d (.int .i64 w3)])], []⟩) h (fun k3 hk3 h => ?_) (fun w3 h => ?_)
    · conv => whnf
      refine ixS (enc := Task.enc) h rfl (fun _ => rfl) (fun x4 h => ?_)
      conv => whnf
      refine fkS h (fun h => ?_) (fun h => ?_)
      · conv => whnf
        refine jeX hk3 h ?_
        conv => whnf
        refine WkF.step (Weak.keepS _ [3, 6, 7, 16, 17, 18]) ?_
        conv => whnf
        exact WkF.refl _
      conv => whnf
      refine lenS x4.Secs Sec.enc rfl ?_
      conv => whnf
      refine lpS (fun v5 => ⟨[(3, .l (.ptr 4 0)), (6, .l (.ptr 7 0)), (7, .l (.func 131 [.k 7, .k 3, .k 4])), (16, .l (.d (.sl (a0.map Task.enc)))), (17, .l (.d (.int .i64 (a0.length : Int)))), (18, .l (.d (.int .i64 v2.2))), (27, .l (.d (.sl (x4.Secs.map Sec.enc)))), (28, .l (.d (.int .i64 (x4.Secs.length : Int)))), (29, .l (.d (.int .i64 v5.2)))], 39, [], [(3, [.d (.sl (a0.map Task.enc))]), (4, [.d (.int .i64 a1)]), (7, [.d (.int .i64 v5.1)])], []⟩) h (Weak.refl _) (fun _ nx5 hn5 v5 h => ?_)
      conv => whnf
      refine fkS h (fun h => ?_) (fun h => ?_)
      · conv => whnf
        refine ixS (enc := Sec.enc) h rfl (fun _ => rfl) (fun x6 h => ?_)
        conv => whnf
        refine inS (fn := Tryz.f131) tab ⟨[(0, [1, 2, 3, 4]), (1, [1, 4, 15]), (2, [])], [], [100015], []⟩ 18 [] rfl rfl rfl rfl rfl rfl ?_
        conv => whnf
        refine jnS (fun w7 => ⟨[(1, .l (.ptr 7 0)), (4, .l (.ptr 1005 0)), (15, .l (.d (.bool w7)))], 18, [⟨[(34, .agg [.d (.int .i64 x6.Res), .d (.int .i64 x6.At), .d (.int .i64 x6.Len)]), (33, .l (.func 131 [.k 7, .k 3, .k 4])), (3, .l (.ptr 4 0)), (6, .l (.ptr 7 0)), (7, .l (.func 131 [.k 7, .k 3, .k 4])), (11, .l (.ptr 12 0)), (16, .l (.d (.sl (a0.map Task.enc)))), (17, .l (.d (.int .i64 (a0.length : Int)))), (18, .l (.d (.int .i64 v2.2))), (27, .l (.d (.sl (x4.Secs.map Sec.enc)))), (28, .l (.d (.int .i64 (x4.Secs.length : Int)))), (29, .l (.d (.int .i64 v5.2)))], 39⟩], [(3, [.d (.sl (a0.map Task.enc))]), (4, [.d (.int .i64 a1)]), (7, [.d (.int .i64 v5.1)]), (12, [.d (.int .i64 x6.Res), .d (.int .i64 x6.At), .d (.int .i64 x6.Len)]), (1005, [.d (.int .i64 x6.Res), .d (.int .i64 x6.At), .d (.int .i64 x6.Len)])], []⟩) h (fun k7 hk7 h => ?_) (fun w7 h => ?_)
        · conv => whnf
          refine fkS h (fun h => ?_) (fun h => ?_)
          · conv => whnf
            refine caS (E := E_Bool) h (block_shared_w a0 a1 x6.Res) rfl (fun _ => rfl) (fun x8 h => ?_)
            conv => whnf
            exact jeS hk7 h (Weak.refl _)
          conv => whnf
          exact jeS hk7 h (Weak.refl _)
        conv => whnf
        refine fkS h (fun h => ?_) (fun h => ?_)
        · conv => whnf
          exact leS hn5 h (Weak.refl _)
        conv => whnf
        exact leS hn5 h (Weak.refl _)
      conv => whnf
      refine jeX hk3 h ?_
      conv => whnf
      refine WkF.step (Weak.keepS _ [3, 6, 7, 16, 17, 18]) ?_
      conv => whnf
      exact WkF.refl _
    conv => whnf
    exact leS hn2 h (Weak.refl _)
  conv => whnf
  exact rt (E := E_Int_Int) h rfl

end Go.Proofs.YtfnaclhllopoeaaGreat
namespace Go.Proofs.YtfnaclhllopoeaaGreat
open Go Go.VC
noncomputable def verdict_Need (a0 : List Task) (a1 : Int) : Option (Int × Int) :=
  bnd (demand_Bound a0 a1) fun x1 => fk (!decide (x1.2 = (0 : Int))) (some ((0 : Int), x1.2)) (bnd (block_Of a0 a1) fun x2 => bnd (arith_Add x1.1 x2.1) fun x3 => some (x3.1, x3.2))
theorem verdict_Need_w (a0 : List Task) (a1 : Int) (r : Int × Int) (h : verdict_Need a0 a1 = some r) : Go.VC.Spec Tryz.prog 117 [.d (.sl (a0.map Task.enc)), .d (.int .i64 a1)] (fun y => y = E_Int_Int r) := by
  refine Go.VC.Spec.of_xc (args := [.d (.sl (a0.map Task.enc)), .d (.int .i64 a1)]) (fn := Tryz.f117) tab ⟨[(0, [0, 1]), (1, [0, 1, 6, 7]), (2, [0, 1, 6, 7, 17]), (3, [4, 5]), (4, [6, 8]), (5, [4, 5])], [], [], []⟩ 30 [.tmp 4, .tmp 5] rfl rfl rfl rfl rfl rfl ?_
  conv => whnf
  refine caS (E := E_Int_Int) h (demand_Bound_w a0 a1) rfl (fun _ => rfl) (fun x1 h => ?_)
  conv => whnf
  refine fkS h (fun h => ?_) (fun h => ?_)
  · conv => whnf
    exact rt (E := E_Int_Int) h rfl
  conv => whnf
  refine caS (E := E_Int_Int) h (block_Of_w a0 a1) rfl (fun _ => rfl) (fun x2 h => ?_)
  conv => whnf
  refine caS (E := E_Int_Int) h (arith_Add_w x1.1 x2.1) rfl (fun _ => rfl) (fun x3 h => ?_)
  conv => whnf
  exact rt (E := E_Int_Int) h rfl

end Go.Proofs.YtfnaclhllopoeaaGreat
namespace Go.Proofs.YtfnaclhllopoeaaGreat
open Go Go.VC
noncomputable def supply_Bound (a0 : Face) (a1 : Int) : Option (Int × Int) :=
  jn (fun (w1 : Bool) => fk w1 (some ((0 : Int), (1 : Int))) (fk (decide (a1 < (wr (a0.P - a0.B)))) (some ((0 : Int), (0 : Int))) (ck (decide (a0.P ≠ 0)) (some ((wr ((wr ((wr ((wr (a1 - (wr (a0.P - a0.B)))).tdiv a0.P)) * a0.B)) + (if (wr ((wr (a1 - (wr ((2 : Int) * (wr (a0.P - a0.B)))))) - (wr ((wr ((wr (a1 - (wr (a0.P - a0.B)))).tdiv a0.P)) * a0.P)))) > (0 : Int) then (wr ((wr (a1 - (wr ((2 : Int) * (wr (a0.P - a0.B)))))) - (wr ((wr ((wr (a1 - (wr (a0.P - a0.B)))).tdiv a0.P)) * a0.P)))) else (0 : Int)))), (0 : Int)))))) (fun k1 => bnd (supply_Right a0) fun x2 => fk (!x2) (k1 true) (fk (decide (a1 < (0 : Int))) (k1 true) (k1 (decide (a1 > (4611686018427387903 : Int))))))
theorem supply_Bound_w (a0 : Face) (a1 : Int) (r : Int × Int) (h : supply_Bound a0 a1 = some r) : Go.VC.Spec Tryz.prog 118 [.agg (Face.enc a0), .d (.int .i64 a1)] (fun y => y = E_Int_Int r) := by
  refine Go.VC.Spec.of_xc (args := [.agg (Face.enc a0), .d (.int .i64 a1)]) (fn := Tryz.f118) tab ⟨[(0, [1, 2]), (1, [1, 2, 18]), (2, [4, 5]), (3, [1, 2, 6]), (4, [1, 2, 6, 26]), (5, [4, 5]), (6, [1, 2, 6, 7]), (7, [4, 5])], [], [100018], []⟩ 48 [.tmp 4, .tmp 5] rfl rfl rfl rfl rfl rfl ?_
  conv => whnf
  refine jnS (fun w1 => ⟨[(1, .l (.d (.int .i64 a1))), (2, .l (.ptr 3 0)), (18, .l (.d (.bool w1)))], 48, [], [(3, [.d (.int .i64 a0.P), .d (.int .i64 a0.B)])], []⟩) h (fun k1 hk1 h => ?_) (fun w1 h => ?_)
  · conv => whnf
    refine caS (E := E_Bool) h (supply_Right_w a0) rfl (fun _ => rfl) (fun x2 h => ?_)
    conv => whnf
    refine fkS h (fun h => ?_) (fun h => ?_)
    · conv => whnf
      exact jeS hk1 h (Weak.refl _)
    conv => whnf
    refine fkS h (fun h => ?_) (fun h => ?_)
    · conv => whnf
      exact jeS hk1 h (Weak.refl _)
    conv => whnf
    exact jeS hk1 h (Weak.refl _)
  conv => whnf
  refine fkS h (fun h => ?_) (fun h => ?_)
  · conv => whnf
    exact rt (E := E_Int_Int) h rfl
  conv => whnf
  refine fkS h (fun h => ?_) (fun h => ?_)
  · conv => whnf
    exact rt (E := E_Int_Int) h rfl
  conv => whnf
  refine dvS h (fun h => ?_)
  conv => whnf
  exact rt (E := E_Int_Int) h rfl

end Go.Proofs.YtfnaclhllopoeaaGreat
namespace Go.Proofs.YtfnaclhllopoeaaGreat
open Go Go.VC
noncomputable def verdict_fails (a0 : List Task) (a1 : Face) (a2 : Int) : Option (Option Int) :=
  lp (fun nx (v : Int) => fk (decide (v ≤ a2)) (bnd (verdict_Need a0 v) fun x1 => bnd (supply_Bound a1 v) fun x2 => fk (decide (x1.1 > x2.1)) (some (some v)) (nx (wr (v + 1)))) (some none)) FU 0
theorem verdict_fails_it (a0 : List Task) (a1 : Face) (a2 : Int) (r : Option Int) (h : verdict_fails a0 a1 a2 = some r) : ItC Tryz.prog 116 [.dp [.int .i64 a2], .dp [.sl (a0.map Task.enc)], .dp [.int .i64 a1.P, .int .i64 a1.B]] r := by
  refine ItC.of (fn := Tryz.f116) rfl rfl rfl rfl rfl (fun w0 p0 l X hy => ?_)
  refine IW.seqx tab ⟨[(0, [0, 1, 2, 3, 5]), (1, [0, 1, 2, 3, 5, 12]), (2, [0, 1, 2, 3, 5]), (3, [0, 1, 2, 3, 5, 6]), (4, [0, 1, 2, 3, 5, 6, 8]), (5, [0, 1, 2, 3, 5, 35])], [], [], []⟩ ?_
  refine IW.block ?_
  refine IW.lp (fun v => ⟨[(0, .l (.raw (.func (.yield l) #[] #[]))), (1, .l (.dptr [.int .i64 a2] 0)), (2, .l (.dptr [.sl (a0.map Task.enc)] 0)), (3, .l (.dptr [.int .i64 a1.P, .int .i64 a1.B] 0)), (5, .l (.d (.int .i64 v)))], 36, [], [], []⟩) h (Weak.refl _) (fun _ nx hn v h => ?_)
  refine IW.seqx tab ⟨[(0, [0, 1, 2, 3, 5]), (1, [0, 1, 2, 3, 5, 12]), (2, [0, 1, 2, 3, 5]), (3, [0, 1, 2, 3, 5, 6]), (4, [0, 1, 2, 3, 5, 6, 8]), (5, [0, 1, 2, 3, 5, 35])], [], [], []⟩ ?_
  refine fkS h (fun h => ?_) (fun h => ?_)
  · refine IW.seq (IW.block ?_)
    refine IW.seqx tab ⟨[(0, [0, 1, 2, 3, 5]), (1, [0, 1, 2, 3, 5, 12]), (2, [0, 1, 2, 3, 5]), (3, [0, 1, 2, 3, 5, 6]), (4, [0, 1, 2, 3, 5, 6, 8]), (5, [0, 1, 2, 3, 5, 35])], [], [], []⟩ ?_
    refine caS (E := E_Int_Int) h (verdict_Need_w a0 v) rfl (fun _ => rfl) (fun x1 h => ?_)
    refine IW.seqx tab ⟨[(0, [0, 1, 2, 3, 5]), (1, [0, 1, 2, 3, 5, 12]), (2, [0, 1, 2, 3, 5]), (3, [0, 1, 2, 3, 5, 6]), (4, [0, 1, 2, 3, 5, 6, 8]), (5, [0, 1, 2, 3, 5, 35])], [], [], []⟩ ?_
    refine caS (E := E_Int_Int) h (supply_Bound_w a1 v) rfl (fun _ => rfl) (fun x2 h => ?_)
    refine IW.yield tab (l := l) (r0 := 0) (r5 := 5) (r6 := 6) (r8 := 8) (nd := x1.1) (hv := x2.1) (t := v) rfl rfl rfl rfl rfl rfl rfl rfl rfl rfl rfl rfl rfl rfl rfl rfl rfl rfl rfl rfl rfl rfl rfl rfl rfl rfl rfl (Nat.le_of_ble_eq_true rfl) (Nat.le_of_ble_eq_true rfl) (Nat.le_of_ble_eq_true rfl) (Nat.le_of_ble_eq_true rfl) (Nat.le_of_ble_eq_true rfl) (Nat.le_of_ble_eq_true rfl) (Nat.le_of_ble_eq_true rfl) (Nat.le_of_ble_eq_true rfl) (Nat.le_of_ble_eq_true rfl) (by decide) (by decide) (by decide) (by decide) (by decide) (by decide) (by decide) (by decide) (by decide) (by decide) (by decide) (by decide) (by decide) (by decide) (by decide) (by decide) rfl rfl rfl rfl (fun hg W1 hW => ?_) (fun hg => ?_) (fun hg => ?_)
    · rw [decide_eq_true hg] at h; exact hy v W1 (Option.some.inj h).symm hW
    · rw [decide_eq_true hg] at h; rw [← Option.some.inj h]; rfl
    · rw [decide_eq_false hg] at h
      refine IW.of_xc tab ⟨[(0, [0, 1, 2, 3, 5]), (1, [0, 1, 2, 3, 5, 12]), (2, [0, 1, 2, 3, 5]), (3, [0, 1, 2, 3, 5, 6]), (4, [0, 1, 2, 3, 5, 6, 8]), (5, [0, 1, 2, 3, 5, 35])], [], [], []⟩ ?_
      exact leS hn h (Weak.refl _)
  · exact (Option.some.inj h).symm
noncomputable def verdict_First (a0 : List Task) (a1 : Face) : Option (Int × Bool × Int) :=
  bnd (verdict_Cycle a0 a1) fun x1 => fk (!decide (x1.2.2 = (0 : Int))) (some ((0 : Int), false, x1.2.2)) (bnd (verdict_fails a0 a1 x1.2.1) fun x2 => match x2 with | some t => some (t, true, (0 : Int)) | none => some ((0 : Int), false, (0 : Int)))
theorem verdict_First_w (a0 : List Task) (a1 : Face) (r : Int × Bool × Int) (h : verdict_First a0 a1 = some r) : Go.VC.Spec Tryz.prog 103 [.d (.sl (a0.map Task.enc)), .agg (Face.enc a1)] (fun y => y = E_Int_Bool_Int r) := by
  refine Spec.of_wpF (args := [.d (.sl (a0.map Task.enc)), .agg (Face.enc a1)]) (fn := Tryz.f103) rfl rfl rfl rfl ?_
  refine WpF.seq tab ⟨[(0, [0, 3, 4, 5, 6, 25]), (1, [0, 3, 4, 5, 6, 8, 9, 25]), (2, [0, 3, 4, 5, 6, 8, 9, 19, 25]), (3, [4, 5, 6]), (4, [4, 5, 6, 24, 25]), (5, [4, 5, 6, 10]), (6, [4, 5, 6]), (7, [4, 5, 6])], [], [], []⟩ (rs := [.cell 4 3, .cell 5 4, .cell 6 29]) rfl ?_
  refine WpF.seq tab ⟨[(0, [0, 3, 4, 5, 6, 25]), (1, [0, 3, 4, 5, 6, 8, 9, 25]), (2, [0, 3, 4, 5, 6, 8, 9, 19, 25]), (3, [4, 5, 6]), (4, [4, 5, 6, 24, 25]), (5, [4, 5, 6, 10]), (6, [4, 5, 6]), (7, [4, 5, 6])], [], [], []⟩ (rs := [.cell 4 3, .cell 5 4, .cell 6 29]) rfl ?_
  refine caS (E := E_Int_Int_Int) h (verdict_Cycle_w a0 a1) rfl (fun _ => rfl) (fun x1 h => ?_)
  refine WpF.seq tab ⟨[(0, [0, 3, 4, 5, 6, 25]), (1, [0, 3, 4, 5, 6, 8, 9, 25]), (2, [0, 3, 4, 5, 6, 8, 9, 19, 25]), (3, [4, 5, 6]), (4, [4, 5, 6, 24, 25]), (5, [4, 5, 6, 10]), (6, [4, 5, 6]), (7, [4, 5, 6])], [], [], []⟩ (rs := [.cell 4 3, .cell 5 4, .cell 6 29]) rfl ?_
  refine fkS h (fun h => ?_) (fun h => ?_)
  · exact RetOk.mk ⟨_, rfl, rt (E := E_Int_Bool_Int) h rfl⟩
  obtain ⟨x2, hx2, h⟩ := bnd_of h
  refine WpF.seqA tab ⟨[(0, [0, 3, 4, 5, 6, 25]), (1, [0, 3, 4, 5, 6, 8, 9, 25]), (2, [0, 3, 4, 5, 6, 8, 9, 19, 25]), (3, [4, 5, 6]), (4, [4, 5, 6, 24, 25]), (5, [4, 5, 6, 10]), (6, [4, 5, 6]), (7, [4, 5, 6])], [], [], []⟩ (rs := [.cell 4 3, .cell 5 4, .cell 6 29]) rfl ?_
  refine inS (fn := Tryz.f112) tab ⟨[(0, [3, 4, 5]), (1, [6])], [], [], []⟩ 8 [.tmp 6] rfl rfl rfl rfl rfl rfl ?_
  refine WpG.id ?_
  refine WpG.range tab (rs := [.cell 4 3, .cell 5 4, .cell 6 29]) rfl rfl rfl rfl rfl ⟨_, rfl, rfl, rfl⟩ x2 rfl (verdict_fails_it a0 a1 x1.2.1 x2 hx2) rfl rfl rfl (fun x hx => ?_) (fun hx => ?_)
  · subst hx
    refine PO.h (?_)
    refine po_move rfl rfl rfl ?_
    refine po_store rfl rfl rfl rfl rfl rfl rfl rfl rfl rfl ?_
    refine po_store rfl rfl rfl rfl rfl rfl rfl rfl rfl rfl ?_
    refine po_store rfl rfl rfl rfl rfl rfl rfl rfl rfl rfl ?_
    refine po_nil ?_
    exact RetOk.mk ⟨_, rfl, rt (E := E_Int_Bool_Int) h rfl⟩
  · subst hx
    refine PO.h (?_)
    refine po_store rfl rfl rfl rfl rfl rfl rfl rfl rfl rfl ?_
    refine po_store rfl rfl rfl rfl rfl rfl rfl rfl rfl rfl ?_
    refine po_store rfl rfl rfl rfl rfl rfl rfl rfl rfl rfl ?_
    refine po_nil ?_
    exact RetOk.mk ⟨_, rfl, rt (E := E_Int_Bool_Int) h rfl⟩

end Go.Proofs.YtfnaclhllopoeaaGreat
namespace Go.Proofs.YtfnaclhllopoeaaGreat
open Go Go.VC
noncomputable def verdict_Fits (a0 : List Task) (a1 : Face) : Option (Bool × Int) :=
  bnd (verdict_Cycle a0 a1) fun x1 => fk (!decide (x1.2.2 = (0 : Int))) (some (false, x1.2.2)) (lp (fun nx2 (v2 : Int × Int) => fk (decide (v2.2 < (a0.length : Int))) (ix a0 v2.2 fun x3 => ck (decide (x3.T ≠ 0)) (nx2 ((wr (v2.1 + (wr ((wr (x1.1.tdiv x3.T)) * x3.C)))), (wr (v2.2 + (1 : Int)))))) (ck (decide (a1.P ≠ 0)) (fk (decide (v2.1 > (wr ((wr (x1.1.tdiv a1.P)) * a1.B)))) (some (false, (0 : Int))) (bnd (verdict_First a0 a1) fun x4 => some ((!x4.2.1), (0 : Int)))))) FU ((0 : Int), (0 : Int)))
theorem verdict_Fits_w (a0 : List Task) (a1 : Face) (r : Bool × Int) (h : verdict_Fits a0 a1 = some r) : Go.VC.Spec Tryz.prog 83 [.d (.sl (a0.map Task.enc)), .agg (Face.enc a1)] (fun y => y = E_Bool_Int r) := by
  refine Go.VC.Spec.of_xc (args := [.d (.sl (a0.map Task.enc)), .agg (Face.enc a1)]) (fn := Tryz.f83) tab ⟨[(0, [0, 3]), (1, [0, 3, 6, 8]), (2, [0, 3, 6, 8, 23]), (3, [4, 5]), (4, [0, 3, 6, 9]), (5, [0, 3, 6, 9, 25, 26, 27]), (6, [0, 3, 6, 9, 25, 26, 27, 28]), (7, [0, 3, 6, 9, 11, 25, 26, 27]), (8, [0, 3, 6, 9, 25, 26, 27]), (9, [0, 3, 6, 9, 25, 26, 27]), (10, [0, 3, 49]), (11, [4, 5]), (12, [13]), (13, [4, 5])], [], [], []⟩ 59 [.tmp 4, .tmp 5] rfl rfl rfl rfl rfl rfl ?_
  conv => whnf
  refine caS (E := E_Int_Int_Int) h (verdict_Cycle_w a0 a1) rfl (fun _ => rfl) (fun x1 h => ?_)
  conv => whnf
  refine fkS h (fun h => ?_) (fun h => ?_)
  · conv => whnf
    exact rt (E := E_Bool_Int) h rfl
  conv => whnf
  refine lenS a0 Task.enc rfl ?_
  conv => whnf
  refine lpS (fun v2 => ⟨[(0, .l (.d (.sl (a0.map Task.enc)))), (3, .l (.ptr 4 0)), (6, .l (.d (.int .i64 x1.1))), (9, .l (.d (.int .i64 v2.1))), (25, .l (.d (.sl (a0.map Task.enc)))), (26, .l (.d (.int .i64 (a0.length : Int)))), (27, .l (.d (.int .i64 v2.2)))], 59, [], [(4, [.d (.int .i64 a1.P), .d (.int .i64 a1.B)])], []⟩) h (Weak.refl _) (fun _ nx2 hn2 v2 h => ?_)
  conv => whnf
  refine fkS h (fun h => ?_) (fun h => ?_)
  · conv => whnf
    refine ixS (enc := Task.enc) h rfl (fun _ => rfl) (fun x3 h => ?_)
    conv => whnf
    refine ⟨8, ?_⟩
    conv => whnf
    refine dvS h (fun h => ?_)
    conv => whnf
    refine drS (by kernel_rfl) ?_
    conv => whnf
    exact leS hn2 h (Weak.refl _)
  conv => whnf
  refine ⟨8, ?_⟩
  conv => whnf
  refine dvS h (fun h => ?_)
  conv => whnf
  refine drS (by kernel_rfl) ?_
  conv => whnf
  refine fkS h (fun h => ?_) (fun h => ?_)
  · conv => whnf
    exact rt (E := E_Bool_Int) h rfl
  conv => whnf
  refine caS (E := E_Int_Bool_Int) h (verdict_First_w a0 a1) rfl (fun _ => rfl) (fun x4 h => ?_)
  conv => whnf
  exact rt (E := E_Bool_Int) h rfl

end Go.Proofs.YtfnaclhllopoeaaGreat
namespace Go.Proofs.YtfnaclhllopoeaaGreat
open Go Go.VC
noncomputable def admit_fit_1 (a0 : List Task) (a1 : Int) (a2 : Int) : Option Int :=
  bnd (verdict_Fits a0 ⟨a1, a2⟩) fun x1 => jn (fun (w2 : Bool) => fk w2 (some (7 : Int)) (some x1.2)) (fun k2 => fk (decide (x1.2 = (0 : Int))) (k2 (!x1.1)) (k2 false))
theorem admit_fit_1_w (a0 : List Task) (a1 : Int) (a2 : Int) (r : Int) (h : admit_fit_1 a0 a1 a2 = some r) : Go.VC.Spec Tryz.prog 82 [.dp [.sl (a0.map Task.enc)], .dp [.int .i64 a1, .int .i64 a2]] (fun y => y = E_Int r) := by
  refine Go.VC.Spec.of_xc (args := [.dp [.sl (a0.map Task.enc)], .dp [.int .i64 a1, .int .i64 a2]]) (fn := Tryz.f82) tab ⟨[(0, [0, 1]), (1, [3, 4]), (2, [4, 16]), (3, [2]), (4, [2])], [], [100016], []⟩ 18 [.tmp 2] rfl rfl rfl rfl rfl rfl ?_
  conv => whnf
  refine caS (E := E_Bool_Int) h (verdict_Fits_w a0 ⟨a1, a2⟩) rfl (fun _ => rfl) (fun x1 h => ?_)
  conv => whnf
  refine jnS (fun w2 => ⟨[(4, .l (.d (.int .i64 x1.2))), (16, .l (.d (.bool w2)))], 18, [], [], []⟩) h (fun k2 hk2 h => ?_) (fun w2 h => ?_)
  · conv => whnf
    refine fkS h (fun h => ?_) (fun h => ?_)
    · conv => whnf
      exact jeS hk2 h (Weak.refl _)
    conv => whnf
    exact jeS hk2 h (Weak.refl _)
  conv => whnf
  refine fkS h (fun h => ?_) (fun h => ?_)
  · conv => whnf
    exact rt (E := E_Int) h rfl
  conv => whnf
  exact rt (E := E_Int) h rfl

end Go.Proofs.YtfnaclhllopoeaaGreat
namespace Go.Proofs.YtfnaclhllopoeaaGreat
open Go Go.VC
noncomputable def admit_unless_1 (a0 : Bool) (a1 : Int) : Option Int :=
  fk a0 (some (0 : Int)) (some a1)
theorem admit_unless_1_w (a0 : Bool) (a1 : Int) (r : Int) (h : admit_unless_1 a0 a1 = some r) : Go.VC.Spec Tryz.prog 81 [.dp [.bool a0], .dp [.int .i64 a1]] (fun y => y = E_Int r) := by
  refine Go.VC.Spec.of_xc (args := [.dp [.bool a0], .dp [.int .i64 a1]]) (fn := Tryz.f81) tab ⟨[(0, [0, 1]), (1, [1, 3]), (2, [2]), (3, [2])], [], [], []⟩ 5 [.tmp 2] rfl rfl rfl rfl rfl rfl ?_
  conv => whnf
  refine fkS h (fun h => ?_) (fun h => ?_)
  · conv => whnf
    exact rt (E := E_Int) h rfl
  conv => whnf
  exact rt (E := E_Int) h rfl

end Go.Proofs.YtfnaclhllopoeaaGreat
namespace Go.Proofs.YtfnaclhllopoeaaGreat
open Go Go.VC
noncomputable def admit_first_1 (a0 : Bool) (a1 : Int) (a2 : Bool) (a3 : Int) (a4 : Bool) (a5 : Int) (a6 : List Task) (a7 : Int) (a8 : Int) : Option Int :=
  lp (fun nx1 (v1 : Int) => fk (decide (v1 < (4 : Int))) (fk (decide (v1 = (0 : Int))) (bnd (admit_unless_1 a0 a1) fun x5 => fk (!decide (x5 = (0 : Int))) (some x5) (nx1 (wr (v1 + (1 : Int))))) (fk (decide (v1 = (1 : Int))) (bnd (admit_unless_1 a2 a3) fun x4 => fk (!decide (x4 = (0 : Int))) (some x4) (nx1 (wr (v1 + (1 : Int))))) (fk (decide (v1 = (2 : Int))) (bnd (admit_unless_1 a4 a5) fun x3 => fk (!decide (x3 = (0 : Int))) (some x3) (nx1 (wr (v1 + (1 : Int))))) (fk (decide (v1 = (3 : Int))) (bnd (admit_fit_1 a6 a7 a8) fun x2 => fk (!decide (x2 = (0 : Int))) (some x2) (nx1 (wr (v1 + (1 : Int))))) (none))))) (some (0 : Int))) FU (0 : Int)
theorem admit_first_1_w (a0 : Bool) (a1 : Int) (a2 : Bool) (a3 : Int) (a4 : Bool) (a5 : Int) (a6 : List Task) (a7 : Int) (a8 : Int) (r : Int) (h : admit_first_1 a0 a1 a2 a3 a4 a5 a6 a7 a8 = some r) : Go.VC.Spec Tryz.prog 44 [.d (.sl [[.fn 81 [[.bool a0], [.int .i64 a1]]], [.fn 81 [[.bool a2], [.int .i64 a3]]], [.fn 81 [[.bool a4], [.int .i64 a5]]], [.fn 82 [[.sl (a6.map Task.enc)], [.int .i64 a7, .int .i64 a8]]]])] (fun y => y = E_Int r) := by
  refine Go.VC.Spec.of_xc (args := [.d (.sl [[.fn 81 [[.bool a0], [.int .i64 a1]]], [.fn 81 [[.bool a2], [.int .i64 a3]]], [.fn 81 [[.bool a4], [.int .i64 a5]]], [.fn 82 [[.sl (a6.map Task.enc)], [.int .i64 a7, .int .i64 a8]]]])]) (fn := Tryz.f44) tab ⟨[(0, [0]), (1, [6, 7, 8]), (2, [6, 7, 8, 9]), (3, [4, 6, 7, 8]), (4, [5, 6, 7, 8]), (5, [5, 6, 7, 8, 15]), (6, [2]), (7, [6, 7, 8]), (8, [2])], [], [], []⟩ 18 [.tmp 2] rfl rfl rfl rfl rfl rfl ?_
  conv => whnf
  refine lenR (4 : Int) rfl ?_
  conv => whnf
  refine lpS (fun v1 => ⟨[(6, .l (.d (.sl [[.fn 81 [[.bool a0], [.int .i64 a1]]], [.fn 81 [[.bool a2], [.int .i64 a3]]], [.fn 81 [[.bool a4], [.int .i64 a5]]], [.fn 82 [[.sl (a6.map Task.enc)], [.int .i64 a7, .int .i64 a8]]]]))), (7, .l (.d (.int .i64 (4 : Int)))), (8, .l (.d (.int .i64 v1)))], 18, [], [], []⟩) h (Weak.refl _) (fun _ nx1 hn1 v1 h => ?_)
  conv => whnf
  refine fkS h (fun h => ?_) (fun h => ?_)
  · conv => whnf
    refine ixC 0 [.fn 81 [[.bool a0], [.int .i64 a1]]] h rfl rfl (fun h => ?_) (fun h => ?_)
    · conv => whnf
      refine caS (E := E_Int) h (admit_unless_1_w a0 a1) rfl (fun _ => rfl) (fun x5 h => ?_)
      conv => whnf
      refine fkS h (fun h => ?_) (fun h => ?_)
      · conv => whnf
        exact rt (E := E_Int) h rfl
      conv => whnf
      exact leS hn1 h (Weak.refl _)
    conv => whnf
    refine ixC 1 [.fn 81 [[.bool a2], [.int .i64 a3]]] h rfl rfl (fun h => ?_) (fun h => ?_)
    · conv => whnf
      refine caS (E := E_Int) h (admit_unless_1_w a2 a3) rfl (fun _ => rfl) (fun x4 h => ?_)
      conv => whnf
      refine fkS h (fun h => ?_) (fun h => ?_)
      · conv => whnf
        exact rt (E := E_Int) h rfl
      conv => whnf
      exact leS hn1 h (Weak.refl _)
    conv => whnf
    refine ixC 2 [.fn 81 [[.bool a4], [.int .i64 a5]]] h rfl rfl (fun h => ?_) (fun h => ?_)
    · conv => whnf
      refine caS (E := E_Int) h (admit_unless_1_w a4 a5) rfl (fun _ => rfl) (fun x3 h => ?_)
      conv => whnf
      refine fkS h (fun h => ?_) (fun h => ?_)
      · conv => whnf
        exact rt (E := E_Int) h rfl
      conv => whnf
      exact leS hn1 h (Weak.refl _)
    conv => whnf
    refine ixC 3 [.fn 82 [[.sl (a6.map Task.enc)], [.int .i64 a7, .int .i64 a8]]] h rfl rfl (fun h => ?_) (fun h => ?_)
    · conv => whnf
      refine caS (E := E_Int) h (admit_fit_1_w a6 a7 a8) rfl (fun _ => rfl) (fun x2 h => ?_)
      conv => whnf
      refine fkS h (fun h => ?_) (fun h => ?_)
      · conv => whnf
        exact rt (E := E_Int) h rfl
      conv => whnf
      exact leS hn1 h (Weak.refl _)
    conv => whnf
    exact ixN h
  conv => whnf
  exact rt (E := E_Int) h rfl

end Go.Proofs.YtfnaclhllopoeaaGreat
namespace Go.Proofs.YtfnaclhllopoeaaGreat
open Go Go.VC
noncomputable def part_Add (a0 : PartState) (a1 : Task) : Option (PartState × Int) :=
  jn (fun (w1 : Bool) => fk w1 (some (a0, (1 : Int))) (fk (decide ((a0.Tasks.length : Int) ≥ (8 : Int))) (some (a0, (3 : Int))) (ck (decide ((([] : List Sec).length + a1.Secs.length) * 24 ≤ 140737488355328)) (ck (decide ((([] : List Task).length + a0.Tasks.length) * 48 ≤ 140737488355328)) (ck (decide (((([] : List Task) ++ a0.Tasks).length + ([⟨a1.C, a1.D, a1.T, ([] : List Sec) ++ a1.Secs⟩] : List Task).length) * 48 ≤ 140737488355328)) (ck (decide ((([] : List Bool).length + a0.Leaves.length) * 1 ≤ 140737488355328)) (ck (decide (((([] : List Bool) ++ a0.Leaves).length + ([false] : List Bool).length) * 1 ≤ 140737488355328)) (ck (decide ((([] : List Int).length + a0.Lasts.length) * 8 ≤ 140737488355328)) (ck (decide (((([] : List Int) ++ a0.Lasts).length + ([(-1 : Int)] : List Int).length) * 8 ≤ 140737488355328)) (some (⟨(([] : List Task) ++ a0.Tasks) ++ ([⟨a1.C, a1.D, a1.T, ([] : List Sec) ++ a1.Secs⟩] : List Task), (([] : List Bool) ++ a0.Leaves) ++ ([false] : List Bool), (([] : List Int) ++ a0.Lasts) ++ ([(-1 : Int)] : List Int), a0.Jobs, a0.Log⟩, (0 : Int)))))))))))) (fun k1 => bnd (part_Right a0) fun x2 => fk (!x2) (k1 true) (bnd (task_Right a1) fun x3 => k1 (!x3)))
theorem part_Add_w (a0 : PartState) (a1 : Task) (r : PartState × Int) (h : part_Add a0 a1 = some r) : Go.VC.Spec Tryz.prog 84 [.agg (PartState.enc a0), .agg (Task.enc a1)] (fun y => y = E_PartState_Int r) := by
  refine Go.VC.Spec.of_xc (args := [.agg (PartState.enc a0), .agg (Task.enc a1)]) (fn := Tryz.f84) tab ⟨[(0, [2, 3, 4]), (1, [2, 3, 4, 6]), (2, [4, 5]), (3, [2, 3, 4, 16]), (4, [4, 5]), (5, [2, 3, 4]), (6, [2, 4]), (7, [2, 4]), (8, [2, 4]), (9, [4, 5])], [], [100006], [(26, [26])]⟩ 50 [.cell 4 93, .tmp 5] rfl rfl rfl rfl rfl rfl ?_
  conv => whnf
  refine jnS (fun w1 => ⟨[(2, .l (.ptr 3 0)), (3, .l (.ptr 4 0)), (4, .l (.ptr 5 0)), (6, .l (.d (.bool w1)))], 50, [], [(3, [.d (.sl (a0.Tasks.map Task.enc)), .d (.sl (a0.Leaves.map eB)), .d (.sl (a0.Lasts.map (eI .i64))), .d (.sl (a0.Jobs.map Job.enc)), .d (.sl (a0.Log.map Entry.enc))]), (4, [.d (.int .i64 a1.C), .d (.int .i64 a1.D), .d (.int .i64 a1.T), .d (.sl (a1.Secs.map Sec.enc))]), (5, [.nil, .nil, .nil, .nil, .nil])], []⟩) h (fun k1 hk1 h => ?_) (fun w1 h => ?_)
  · conv => whnf
    refine caS (E := E_Bool) h (part_Right_w a0) rfl (fun _ => rfl) (fun x2 h => ?_)
    conv => whnf
    refine fkS h (fun h => ?_) (fun h => ?_)
    · conv => whnf
      exact jeS hk1 h (Weak.refl _)
    conv => whnf
    refine caS (E := E_Bool) h (task_Right_w a1) rfl (fun _ => rfl) (fun x3 h => ?_)
    conv => whnf
    exact jeS hk1 h (Weak.refl _)
  conv => whnf
  refine fkS h (fun h => ?_) (fun h => ?_)
  · conv => whnf
    exact rt (E := E_PartState_Int) h rfl
  conv => whnf
  refine lenS a0.Tasks Task.enc rfl ?_
  conv => whnf
  refine fkS h (fun h => ?_) (fun h => ?_)
  · conv => whnf
    exact rt (E := E_PartState_Int) h rfl
  conv => whnf
  refine liS ([] : List Sec) Sec.enc rfl rfl ?_
  conv => whnf
  refine apS (enc := Sec.enc) (l1 := ([] : List Sec)) (l2 := a1.Secs) h rfl rfl (fun _ => rfl) (fun h => ?_)
  conv => whnf
  refine ⟨6, ?_⟩
  conv => whnf
  refine liS ([] : List Task) Task.enc rfl rfl ?_
  conv => whnf
  refine apS (enc := Task.enc) (l1 := ([] : List Task)) (l2 := a0.Tasks) h rfl rfl (fun _ => rfl) (fun h => ?_)
  conv => whnf
  refine liS ([⟨a1.C, a1.D, a1.T, ([] : List Sec) ++ a1.Secs⟩] : List Task) Task.enc rfl rfl ?_
  conv => whnf
  refine drS (by kernel_rfl) ?_
  conv => whnf
  refine apS (enc := Task.enc) (l1 := ([] : List Task) ++ a0.Tasks) (l2 := ([⟨a1.C, a1.D, a1.T, ([] : List Sec) ++ a1.Secs⟩] : List Task)) h rfl rfl (fun _ => rfl) (fun h => ?_)
  conv => whnf
  refine liS ([] : List Bool) eB rfl rfl ?_
  conv => whnf
  refine apS (enc := eB) (l1 := ([] : List Bool)) (l2 := a0.Leaves) h rfl rfl (fun _ => rfl) (fun h => ?_)
  conv => whnf
  refine liS ([false] : List Bool) eB rfl rfl ?_
  conv => whnf
  refine apS (enc := eB) (l1 := ([] : List Bool) ++ a0.Leaves) (l2 := ([false] : List Bool)) h rfl rfl (fun _ => rfl) (fun h => ?_)
  conv => whnf
  refine liS ([] : List Int) (eI .i64) rfl rfl ?_
  conv => whnf
  refine apS (enc := (eI .i64)) (l1 := ([] : List Int)) (l2 := a0.Lasts) h rfl rfl (fun _ => rfl) (fun h => ?_)
  conv => whnf
  refine liS ([(-1 : Int)] : List Int) (eI .i64) rfl rfl ?_
  conv => whnf
  refine apS (enc := (eI .i64)) (l1 := ([] : List Int) ++ a0.Lasts) (l2 := ([(-1 : Int)] : List Int)) h rfl rfl (fun _ => rfl) (fun h => ?_)
  conv => whnf
  exact rt (E := E_PartState_Int) h rfl

end Go.Proofs.YtfnaclhllopoeaaGreat
namespace Go.Proofs.YtfnaclhllopoeaaGreat
open Go Go.VC
noncomputable def admit_Add (a0 : PartState) (a1 : Face) (a2 : Task) : Option (PartState × Int) :=
  ck (decide ((([] : List Task).length + a0.Tasks.length) * 48 ≤ 140737488355328)) (ck (decide (((([] : List Task) ++ a0.Tasks).length + ([a2] : List Task).length) * 48 ≤ 140737488355328)) (jn (fun (w1 : Int) => fk (!decide (w1 = (0 : Int))) (some (a0, w1)) (bnd (part_Add a0 a2) fun x23 => some (x23.1, x23.2))) (fun k1 => bnd (part_Right a0) fun x2 => fk x2 (bnd (supply_Right a1) fun x3 => fk x3 (bnd (task_Right a2) fun x4 => bnd (admit_unless x4 (1 : Int)) fun x5 => bnd (admit_unless (decide ((a0.Tasks.length : Int) < (8 : Int))) (3 : Int)) fun x6 => bnd (job_First a0.Jobs true) fun x7 => bnd (admit_unless (decide (x7 < (0 : Int))) (9 : Int)) fun x8 => bnd (admit_fit ((([] : List Task) ++ a0.Tasks) ++ ([a2] : List Task)) a1) fun x9 => bnd (admit_first_1 x5.1 x5.2 x6.1 x6.2 x8.1 x8.2 x9.1 x9.2.1 x9.2.2) fun x10 => k1 x10) (bnd (admit_unless false (1 : Int)) fun x11 => bnd (admit_unless (decide ((a0.Tasks.length : Int) < (8 : Int))) (3 : Int)) fun x12 => bnd (job_First a0.Jobs true) fun x13 => bnd (admit_unless (decide (x13 < (0 : Int))) (9 : Int)) fun x14 => bnd (admit_fit ((([] : List Task) ++ a0.Tasks) ++ ([a2] : List Task)) a1) fun x15 => bnd (admit_first_1 x11.1 x11.2 x12.1 x12.2 x14.1 x14.2 x15.1 x15.2.1 x15.2.2) fun x16 => k1 x16)) (bnd (admit_unless false (1 : Int)) fun x17 => bnd (admit_unless (decide ((a0.Tasks.length : Int) < (8 : Int))) (3 : Int)) fun x18 => bnd (job_First a0.Jobs true) fun x19 => bnd (admit_unless (decide (x19 < (0 : Int))) (9 : Int)) fun x20 => bnd (admit_fit ((([] : List Task) ++ a0.Tasks) ++ ([a2] : List Task)) a1) fun x21 => bnd (admit_first_1 x17.1 x17.2 x18.1 x18.2 x20.1 x20.2 x21.1 x21.2.1 x21.2.2) fun x22 => k1 x22))))
theorem admit_Add_w (a0 : PartState) (a1 : Face) (a2 : Task) (r : PartState × Int) (h : admit_Add a0 a1 a2 = some r) : Go.VC.Spec Tryz.prog 55 [.agg (PartState.enc a0), .agg (Face.enc a1), .agg (Task.enc a2)] (fun y => y = E_PartState_Int r) := by
  refine Go.VC.Spec.of_xc (args := [.agg (PartState.enc a0), .agg (Face.enc a1), .agg (Task.enc a2)]) (fn := Tryz.f55) tab ⟨[(0, [3, 4, 5, 6]), (1, [3, 4, 5, 6, 8]), (2, [3, 5, 6, 9]), (3, [3, 5, 6, 9, 44]), (4, [6, 7]), (5, [6, 7])], [], [3], []⟩ 52 [.cell 6 93, .tmp 7] rfl rfl rfl rfl rfl rfl ?_
  conv => whnf
  refine ⟨6, ?_⟩
  conv => whnf
  refine liS ([] : List Task) Task.enc rfl rfl ?_
  conv => whnf
  refine apS (enc := Task.enc) (l1 := ([] : List Task)) (l2 := a0.Tasks) h rfl rfl (fun _ => rfl) (fun h => ?_)
  conv => whnf
  refine liS ([a2] : List Task) Task.enc rfl rfl ?_
  conv => whnf
  refine drS (by kernel_rfl) ?_
  conv => whnf
  refine apS (enc := Task.enc) (l1 := ([] : List Task) ++ a0.Tasks) (l2 := ([a2] : List Task)) h rfl rfl (fun _ => rfl) (fun h => ?_)
  conv => whnf
  refine jnS (fun w1 => ⟨[(3, .l (.ptr 4 0)), (5, .l (.ptr 6 0)), (6, .l (.ptr 7 0)), (9, .l (.d (.int .i64 w1)))], 52, [], [(4, [.d (.sl (a0.Tasks.map Task.enc)), .d (.sl (a0.Leaves.map eB)), .d (.sl (a0.Lasts.map (eI .i64))), .d (.sl (a0.Jobs.map Job.enc)), .d (.sl (a0.Log.map Entry.enc))]), (6, [.d (.int .i64 a2.C), .d (.int .i64 a2.D), .d (.int .i64 a2.T), .d (.sl (a2.Secs.map Sec.enc))]), (7, [.nil, .nil, .nil, .nil, .nil])], []⟩) h (fun k1 hk1 h => ?_) (fun w1 h => ?_)
  · conv => whnf
    refine ⟨23, ?_⟩
    conv => whnf
    refine daS (E := E_Bool) h (part_Right_w a0) (fun _ => rfl) (fun x2 h => ?_)
    conv => whnf
    refine fkS h (fun h => ?_) (fun h => ?_)
    · conv => whnf
      refine daS (E := E_Bool) h (supply_Right_w a1) (fun _ => rfl) (fun x3 h => ?_)
      conv => whnf
      refine fkS h (fun h => ?_) (fun h => ?_)
      · conv => whnf
        refine daS (E := E_Bool) h (task_Right_w a2) (fun _ => rfl) (fun x4 h => ?_)
        conv => whnf
        refine dcS (E := E_fn_admit_unless) h (admit_unless_w x4 (1 : Int)) rfl (fun x5 h => ?_)
        conv => whnf
        refine lenS a0.Tasks Task.enc rfl ?_
        conv => whnf
        refine dcS (E := E_fn_admit_unless) h (admit_unless_w (decide ((a0.Tasks.length : Int) < (8 : Int))) (3 : Int)) rfl (fun x6 h => ?_)
        conv => whnf
        refine daS (E := E_Int) h (job_First_w a0.Jobs true) (fun _ => rfl) (fun x7 h => ?_)
        conv => whnf
        refine dcS (E := E_fn_admit_unless) h (admit_unless_w (decide (x7 < (0 : Int))) (9 : Int)) rfl (fun x8 h => ?_)
        conv => whnf
        refine drS (by kernel_rfl) ?_
        conv => whnf
        refine iceS 9 ?_
        conv => whnf
        refine ccS (E := E_fn_admit_fit) h (admit_fit_w ((([] : List Task) ++ a0.Tasks) ++ ([a2] : List Task)) a1) rfl rfl (fun x9 h => ?_)
        conv => whnf
        refine liR rfl ?_
        conv => whnf
        refine caS (E := E_Int) h (admit_first_1_w x5.1 x5.2 x6.1 x6.2 x8.1 x8.2 x9.1 x9.2.1 x9.2.2) rfl (fun _ => rfl) (fun x10 h => ?_)
        conv => whnf
        exact jeS hk1 h (Weak.refl _)
      conv => whnf
      refine dcS (E := E_fn_admit_unless) h (admit_unless_w false (1 : Int)) rfl (fun x11 h => ?_)
      conv => whnf
      refine lenS a0.Tasks Task.enc rfl ?_
      conv => whnf
      refine dcS (E := E_fn_admit_unless) h (admit_unless_w (decide ((a0.Tasks.length : Int) < (8 : Int))) (3 : Int)) rfl (fun x12 h => ?_)
      conv => whnf
      refine daS (E := E_Int) h (job_First_w a0.Jobs true) (fun _ => rfl) (fun x13 h => ?_)
      conv => whnf
      refine dcS (E := E_fn_admit_unless) h (admit_unless_w (decide (x13 < (0 : Int))) (9 : Int)) rfl (fun x14 h => ?_)
      conv => whnf
      refine drS (by kernel_rfl) ?_
      conv => whnf
      refine iceS 9 ?_
      conv => whnf
      refine ccS (E := E_fn_admit_fit) h (admit_fit_w ((([] : List Task) ++ a0.Tasks) ++ ([a2] : List Task)) a1) rfl rfl (fun x15 h => ?_)
      conv => whnf
      refine liR rfl ?_
      conv => whnf
      refine caS (E := E_Int) h (admit_first_1_w x11.1 x11.2 x12.1 x12.2 x14.1 x14.2 x15.1 x15.2.1 x15.2.2) rfl (fun _ => rfl) (fun x16 h => ?_)
      conv => whnf
      exact jeS hk1 h (Weak.refl _)
    conv => whnf
    refine dcS (E := E_fn_admit_unless) h (admit_unless_w false (1 : Int)) rfl (fun x17 h => ?_)
    conv => whnf
    refine lenS a0.Tasks Task.enc rfl ?_
    conv => whnf
    refine dcS (E := E_fn_admit_unless) h (admit_unless_w (decide ((a0.Tasks.length : Int) < (8 : Int))) (3 : Int)) rfl (fun x18 h => ?_)
    conv => whnf
    refine daS (E := E_Int) h (job_First_w a0.Jobs true) (fun _ => rfl) (fun x19 h => ?_)
    conv => whnf
    refine dcS (E := E_fn_admit_unless) h (admit_unless_w (decide (x19 < (0 : Int))) (9 : Int)) rfl (fun x20 h => ?_)
    conv => whnf
    refine drS (by kernel_rfl) ?_
    conv => whnf
    refine iceS 9 ?_
    conv => whnf
    refine ccS (E := E_fn_admit_fit) h (admit_fit_w ((([] : List Task) ++ a0.Tasks) ++ ([a2] : List Task)) a1) rfl rfl (fun x21 h => ?_)
    conv => whnf
    refine liR rfl ?_
    conv => whnf
    refine caS (E := E_Int) h (admit_first_1_w x17.1 x17.2 x18.1 x18.2 x20.1 x20.2 x21.1 x21.2.1 x21.2.2) rfl (fun _ => rfl) (fun x22 h => ?_)
    conv => whnf
    exact jeS hk1 h (Weak.refl _)
  conv => whnf
  refine fkS h (fun h => ?_) (fun h => ?_)
  · conv => whnf
    exact rt (E := E_PartState_Int) h rfl
  conv => whnf
  refine ccS (E := E_PartState_Int) h (part_Add_w a0 a2) rfl rfl (fun x23 h => ?_)
  conv => whnf
  exact rt (E := E_PartState_Int) h rfl

end Go.Proofs.YtfnaclhllopoeaaGreat
namespace Go.Proofs.YtfnaclhllopoeaaGreat
open Go Go.VC
noncomputable def admit_first (a0 : Bool) (a1 : Int) (a2 : List Task) (a3 : Int) (a4 : Int) : Option Int :=
  lp (fun nx1 (v1 : Int) => fk (decide (v1 < (2 : Int))) (fk (decide (v1 = (0 : Int))) (bnd (admit_unless_1 a0 a1) fun x3 => fk (!decide (x3 = (0 : Int))) (some x3) (nx1 (wr (v1 + (1 : Int))))) (fk (decide (v1 = (1 : Int))) (bnd (admit_fit_1 a2 a3 a4) fun x2 => fk (!decide (x2 = (0 : Int))) (some x2) (nx1 (wr (v1 + (1 : Int))))) (none))) (some (0 : Int))) FU (0 : Int)
theorem admit_first_w (a0 : Bool) (a1 : Int) (a2 : List Task) (a3 : Int) (a4 : Int) (r : Int) (h : admit_first a0 a1 a2 a3 a4 = some r) : Go.VC.Spec Tryz.prog 44 [.d (.sl [[.fn 81 [[.bool a0], [.int .i64 a1]]], [.fn 82 [[.sl (a2.map Task.enc)], [.int .i64 a3, .int .i64 a4]]]])] (fun y => y = E_Int r) := by
  refine Go.VC.Spec.of_xc (args := [.d (.sl [[.fn 81 [[.bool a0], [.int .i64 a1]]], [.fn 82 [[.sl (a2.map Task.enc)], [.int .i64 a3, .int .i64 a4]]]])]) (fn := Tryz.f44) tab ⟨[(0, [0]), (1, [6, 7, 8]), (2, [6, 7, 8, 9]), (3, [4, 6, 7, 8]), (4, [5, 6, 7, 8]), (5, [5, 6, 7, 8, 15]), (6, [2]), (7, [6, 7, 8]), (8, [2])], [], [], []⟩ 18 [.tmp 2] rfl rfl rfl rfl rfl rfl ?_
  conv => whnf
  refine lenR (2 : Int) rfl ?_
  conv => whnf
  refine lpS (fun v1 => ⟨[(6, .l (.d (.sl [[.fn 81 [[.bool a0], [.int .i64 a1]]], [.fn 82 [[.sl (a2.map Task.enc)], [.int .i64 a3, .int .i64 a4]]]]))), (7, .l (.d (.int .i64 (2 : Int)))), (8, .l (.d (.int .i64 v1)))], 18, [], [], []⟩) h (Weak.refl _) (fun _ nx1 hn1 v1 h => ?_)
  conv => whnf
  refine fkS h (fun h => ?_) (fun h => ?_)
  · conv => whnf
    refine ixC 0 [.fn 81 [[.bool a0], [.int .i64 a1]]] h rfl rfl (fun h => ?_) (fun h => ?_)
    · conv => whnf
      refine caS (E := E_Int) h (admit_unless_1_w a0 a1) rfl (fun _ => rfl) (fun x3 h => ?_)
      conv => whnf
      refine fkS h (fun h => ?_) (fun h => ?_)
      · conv => whnf
        exact rt (E := E_Int) h rfl
      conv => whnf
      exact leS hn1 h (Weak.refl _)
    conv => whnf
    refine ixC 1 [.fn 82 [[.sl (a2.map Task.enc)], [.int .i64 a3, .int .i64 a4]]] h rfl rfl (fun h => ?_) (fun h => ?_)
    · conv => whnf
      refine caS (E := E_Int) h (admit_fit_1_w a2 a3 a4) rfl (fun _ => rfl) (fun x2 h => ?_)
      conv => whnf
      refine fkS h (fun h => ?_) (fun h => ?_)
      · conv => whnf
        exact rt (E := E_Int) h rfl
      conv => whnf
      exact leS hn1 h (Weak.refl _)
    conv => whnf
    exact ixN h
  conv => whnf
  exact rt (E := E_Int) h rfl

end Go.Proofs.YtfnaclhllopoeaaGreat
namespace Go.Proofs.YtfnaclhllopoeaaGreat
open Go Go.VC
noncomputable def part_New (a0 : List Task) : Option (PartState × Int) :=
  bnd (task_All a0) fun x1 => fk (!x1) (some (⟨[], [], [], [], []⟩, (1 : Int))) (lp (fun nx2 (v2 : (List Task) × (List Bool) × (List Int) × (List Job) × (List Entry) × Int) => fk (decide (v2.2.2.2.2.2 < (a0.length : Int))) (ix a0 v2.2.2.2.2.2 fun x3 => bnd (part_Add ⟨v2.1, v2.2.1, v2.2.2.1, v2.2.2.2.1, v2.2.2.2.2.1⟩ x3) fun x4 => nx2 (x4.1.Tasks, x4.1.Leaves, x4.1.Lasts, x4.1.Jobs, x4.1.Log, (wr (v2.2.2.2.2.2 + (1 : Int))))) (some (⟨v2.1, v2.2.1, v2.2.2.1, v2.2.2.2.1, v2.2.2.2.2.1⟩, (0 : Int)))) FU ([], [], [], [], [], (0 : Int)))
theorem part_New_w (a0 : List Task) (r : PartState × Int) (h : part_New a0 = some r) : Go.VC.Spec Tryz.prog 47 [.d (.sl (a0.map Task.enc))] (fun y => y = E_PartState_Int r) := by
  refine Go.VC.Spec.of_xc (args := [.d (.sl (a0.map Task.enc))]) (fn := Tryz.f47) tab ⟨[(0, [0, 2]), (1, [0, 2, 9]), (2, [2, 3]), (3, [0, 2, 4]), (4, [2, 4, 12, 13, 14]), (5, [2, 4, 12, 13, 14, 15]), (6, [2, 4, 6, 12, 13, 14]), (7, [2, 4, 12, 13, 14]), (8, [2, 4, 12, 13, 14]), (9, [2, 3])], [], [], []⟩ 26 [.cell 2 93, .tmp 3] rfl rfl rfl rfl rfl rfl ?_
  conv => whnf
  refine caS (E := E_Bool) h (task_All_w a0) rfl (fun _ => rfl) (fun x1 h => ?_)
  conv => whnf
  refine fkS h (fun h => ?_) (fun h => ?_)
  · conv => whnf
    exact rt (E := E_PartState_Int) h rfl
  conv => whnf
  refine lenS a0 Task.enc rfl ?_
  conv => whnf
  refine lpX (fun v2 => ⟨[(2, .l (.ptr 3 0)), (4, .l (.ptr 5 0)), (12, .l (.d (.sl (a0.map Task.enc)))), (13, .l (.d (.int .i64 (a0.length : Int)))), (14, .l (.d (.int .i64 v2.2.2.2.2.2)))], 26, [], [(3, [.nil, .nil, .nil, .nil, .nil]), (5, [.d (.sl (v2.1.map Task.enc)), .d (.sl (v2.2.1.map eB)), .d (.sl (v2.2.2.1.map (eI .i64))), .d (.sl (v2.2.2.2.1.map Job.enc)), .d (.sl (v2.2.2.2.2.1.map Entry.enc))])], []⟩) h ?_ (fun _ nx2 hn2 v2 h => ?_)
  · conv => whnf
    refine WkF.step (Weak.nilBD _ 5 0 _ rfl rfl) ?_
    conv => whnf
    refine WkF.step (Weak.nilBD _ 5 1 _ rfl rfl) ?_
    conv => whnf
    refine WkF.step (Weak.nilBD _ 5 2 _ rfl rfl) ?_
    conv => whnf
    refine WkF.step (Weak.nilBD _ 5 3 _ rfl rfl) ?_
    conv => whnf
    refine WkF.step (Weak.nilBD _ 5 4 _ rfl rfl) ?_
    conv => whnf
    exact WkF.refl _
  conv => whnf
  refine fkS h (fun h => ?_) (fun h => ?_)
  · conv => whnf
    refine ixS (enc := Task.enc) h rfl (fun _ => rfl) (fun x3 h => ?_)
    conv => whnf
    refine ccS (E := E_PartState_Int) h (part_Add_w ⟨v2.1, v2.2.1, v2.2.2.1, v2.2.2.2.1, v2.2.2.2.2.1⟩ x3) rfl rfl (fun x4 h => ?_)
    conv => whnf
    exact leS hn2 h (Weak.refl _)
  conv => whnf
  exact rt (E := E_PartState_Int) h rfl

end Go.Proofs.YtfnaclhllopoeaaGreat
namespace Go.Proofs.YtfnaclhllopoeaaGreat
open Go Go.VC
noncomputable def admit_Boot (a0 : Part) : Option (PartState × Int) :=
  jn (fun (w1 : Int) => fk (!decide (w1 = (0 : Int))) (some (⟨[], [], [], [], []⟩, w1)) (bnd (part_New a0.Tasks) fun x10 => some (x10.1, x10.2))) (fun k1 => bnd (supply_Right a0.Face) fun x2 => fk x2 (bnd (task_All a0.Tasks) fun x3 => bnd (admit_unless x3 (1 : Int)) fun x4 => bnd (admit_fit a0.Tasks a0.Face) fun x5 => bnd (admit_first x4.1 x4.2 x5.1 x5.2.1 x5.2.2) fun x6 => k1 x6) (bnd (admit_unless false (1 : Int)) fun x7 => bnd (admit_fit a0.Tasks a0.Face) fun x8 => bnd (admit_first x7.1 x7.2 x8.1 x8.2.1 x8.2.2) fun x9 => k1 x9))
theorem admit_Boot_w (a0 : Part) (r : PartState × Int) (h : admit_Boot a0 = some r) : Go.VC.Spec Tryz.prog 30 [.agg (Part.enc a0)] (fun y => y = E_PartState_Int r) := by
  refine Go.VC.Spec.of_xc (args := [.agg (Part.enc a0)]) (fn := Tryz.f30) tab ⟨[(0, [1, 2]), (1, [1, 2, 4]), (2, [1, 2, 4, 22]), (3, [2, 3]), (4, [2, 3])], [], [2], []⟩ 30 [.cell 2 93, .tmp 3] rfl rfl rfl rfl rfl rfl ?_
  conv => whnf
  refine jnS (fun w1 => ⟨[(1, .l (.ptr 2 0)), (2, .l (.ptr 3 0)), (4, .l (.d (.int .i64 w1)))], 30, [], [(2, [.d (.int .i64 a0.Face.P), .d (.int .i64 a0.Face.B), .d (.sl (a0.Tasks.map Task.enc))]), (3, [.nil, .nil, .nil, .nil, .nil])], []⟩) h (fun k1 hk1 h => ?_) (fun w1 h => ?_)
  · conv => whnf
    refine ⟨13, ?_⟩
    conv => whnf
    refine daS (E := E_Bool) h (supply_Right_w a0.Face) (fun _ => rfl) (fun x2 h => ?_)
    conv => whnf
    refine fkS h (fun h => ?_) (fun h => ?_)
    · conv => whnf
      refine daS (E := E_Bool) h (task_All_w a0.Tasks) (fun _ => rfl) (fun x3 h => ?_)
      conv => whnf
      refine dcS (E := E_fn_admit_unless) h (admit_unless_w x3 (1 : Int)) rfl (fun x4 h => ?_)
      conv => whnf
      refine drS (by kernel_rfl) ?_
      conv => whnf
      refine ccS (E := E_fn_admit_fit) h (admit_fit_w a0.Tasks a0.Face) rfl rfl (fun x5 h => ?_)
      conv => whnf
      refine liR rfl ?_
      conv => whnf
      refine caS (E := E_Int) h (admit_first_w x4.1 x4.2 x5.1 x5.2.1 x5.2.2) rfl (fun _ => rfl) (fun x6 h => ?_)
      conv => whnf
      exact jeS hk1 h (Weak.refl _)
    conv => whnf
    refine dcS (E := E_fn_admit_unless) h (admit_unless_w false (1 : Int)) rfl (fun x7 h => ?_)
    conv => whnf
    refine drS (by kernel_rfl) ?_
    conv => whnf
    refine ccS (E := E_fn_admit_fit) h (admit_fit_w a0.Tasks a0.Face) rfl rfl (fun x8 h => ?_)
    conv => whnf
    refine liR rfl ?_
    conv => whnf
    refine caS (E := E_Int) h (admit_first_w x7.1 x7.2 x8.1 x8.2.1 x8.2.2) rfl (fun _ => rfl) (fun x9 h => ?_)
    conv => whnf
    exact jeS hk1 h (Weak.refl _)
  conv => whnf
  refine fkS h (fun h => ?_) (fun h => ?_)
  · conv => whnf
    exact rt (E := E_PartState_Int) h rfl
  conv => whnf
  refine ccS (E := E_PartState_Int) h (part_New_w a0.Tasks) rfl rfl (fun x10 h => ?_)
  conv => whnf
  exact rt (E := E_PartState_Int) h rfl

end Go.Proofs.YtfnaclhllopoeaaGreat
namespace Go.Proofs.YtfnaclhllopoeaaGreat
open Go Go.VC
noncomputable def part_Leave (a0 : PartState) (a1 : Int) : Option (PartState × Int) :=
  jn (fun (w1 : Bool) => fk w1 (some (a0, (1 : Int))) (ix a0.Leaves a1 fun x3 => fk x3 (some (a0, (9 : Int))) (ck (decide ((([] : List Bool).length + a0.Leaves.length) * 1 ≤ 140737488355328)) (ck (decide (0 ≤ a1) && decide (a1 < ((([] : List Bool) ++ a0.Leaves).length : Int))) (ox (([] : List Bool) ++ a0.Leaves) a1.toNat fun x4 => some (⟨a0.Tasks, (([] : List Bool) ++ a0.Leaves).set a1.toNat true, a0.Lasts, a0.Jobs, a0.Log⟩, (0 : Int))))))) (fun k1 => bnd (part_Right a0) fun x2 => fk (!x2) (k1 true) (fk (decide (a1 < (0 : Int))) (k1 true) (k1 (decide (a1 ≥ (a0.Tasks.length : Int))))))
theorem part_Leave_w (a0 : PartState) (a1 : Int) (r : PartState × Int) (h : part_Leave a0 a1 = some r) : Go.VC.Spec Tryz.prog 93 [.agg (PartState.enc a0), .d (.int .i64 a1)] (fun y => y = E_PartState_Int r) := by
  refine Go.VC.Spec.of_xc (args := [.agg (PartState.enc a0), .d (.int .i64 a1)]) (fn := Tryz.f93) tab ⟨[(0, [1, 2, 4]), (1, [1, 2, 4, 6]), (2, [4, 5]), (3, [1, 2, 4, 22]), (4, [4, 5]), (5, [1, 2, 4]), (6, [2, 4]), (7, [4, 5])], [], [100006], []⟩ 39 [.cell 4 93, .tmp 5] rfl rfl rfl rfl rfl rfl ?_
  conv => whnf
  refine jnS (fun w1 => ⟨[(1, .l (.d (.int .i64 a1))), (2, .l (.ptr 3 0)), (4, .l (.ptr 5 0)), (6, .l (.d (.bool w1)))], 39, [], [(3, [.d (.sl (a0.Tasks.map Task.enc)), .d (.sl (a0.Leaves.map eB)), .d (.sl (a0.Lasts.map (eI .i64))), .d (.sl (a0.Jobs.map Job.enc)), .d (.sl (a0.Log.map Entry.enc))]), (5, [.nil, .nil, .nil, .nil, .nil])], []⟩) h (fun k1 hk1 h => ?_) (fun w1 h => ?_)
  · conv => whnf
    refine caS (E := E_Bool) h (part_Right_w a0) rfl (fun _ => rfl) (fun x2 h => ?_)
    conv => whnf
    refine fkS h (fun h => ?_) (fun h => ?_)
    · conv => whnf
      exact jeS hk1 h (Weak.refl _)
    conv => whnf
    refine fkS h (fun h => ?_) (fun h => ?_)
    · conv => whnf
      exact jeS hk1 h (Weak.refl _)
    conv => whnf
    refine lenS a0.Tasks Task.enc rfl ?_
    conv => whnf
    exact jeS hk1 h (Weak.refl _)
  conv => whnf
  refine fkS h (fun h => ?_) (fun h => ?_)
  · conv => whnf
    exact rt (E := E_PartState_Int) h rfl
  conv => whnf
  refine ixS (enc := eB) h rfl (fun _ => rfl) (fun x3 h => ?_)
  conv => whnf
  refine fkS h (fun h => ?_) (fun h => ?_)
  · conv => whnf
    exact rt (E := E_PartState_Int) h rfl
  conv => whnf
  refine liS ([] : List Bool) eB rfl rfl ?_
  conv => whnf
  refine apS (enc := eB) (l1 := ([] : List Bool)) (l2 := a0.Leaves) h rfl rfl (fun _ => rfl) (fun h => ?_)
  conv => whnf
  refine ioS (enc := eB) h rfl (fun h => ?_)
  conv => whnf
  refine seS (enc := eB) h rfl (fun x4 => true) (fun _ => rfl) (fun x4 h => ?_)
  conv => whnf
  exact rt (E := E_PartState_Int) h rfl

end Go.Proofs.YtfnaclhllopoeaaGreat
namespace Go.Proofs.YtfnaclhllopoeaaGreat
open Go Go.VC
noncomputable def part_when (a0 : Int) : Option Bool :=
  fk (decide (a0 ≥ (0 : Int))) (some (decide (a0 ≤ (4611686018427387703 : Int)))) (some false)
theorem part_when_w (a0 : Int) (r : Bool) (h : part_when a0 = some r) : Go.VC.Spec Tryz.prog 67 [.d (.int .i64 a0)] (fun y => y = E_Bool r) := by
  refine Go.VC.Spec.of_xc (args := [.d (.int .i64 a0)]) (fn := Tryz.f67) tab ⟨[(0, [0]), (1, [2])], [], [], []⟩ 9 [.tmp 2] rfl rfl rfl rfl rfl rfl ?_
  conv => whnf
  refine fkS h (fun h => ?_) (fun h => ?_)
  · conv => whnf
    exact rt (E := E_Bool) h rfl
  conv => whnf
  exact rt (E := E_Bool) h rfl

end Go.Proofs.YtfnaclhllopoeaaGreat
namespace Go.Proofs.YtfnaclhllopoeaaGreat
open Go Go.VC
noncomputable def police_May (a0 : List Task) (a1 : List Int) (a2 : Int) (a3 : Int) : Option Int :=
  jn (fun (w1 : Bool) => fk w1 (some (1 : Int)) (jn (fun (w3 : Bool) => fk w3 (some (6 : Int)) (some (0 : Int))) (fun k3 => ix a1 a2 fun x4 => fk (!decide (x4 = (-1 : Int))) (ix a1 a2 fun x5 => ix a0 a2 fun x6 => k3 (decide (a3 < (wr (x5 + x6.T))))) (k3 false)))) (fun k1 => bnd (police_Right a0 a1) fun x2 => fk (!x2) (k1 true) (fk (decide (a2 < (0 : Int))) (k1 true) (fk (decide (a2 ≥ (a0.length : Int))) (k1 true) (fk (decide (a3 < (0 : Int))) (k1 true) (k1 (decide (a3 > (4611686018427387703 : Int))))))))
theorem police_May_w (a0 : List Task) (a1 : List Int) (a2 : Int) (a3 : Int) (r : Int) (h : police_May a0 a1 a2 a3 = some r) : Go.VC.Spec Tryz.prog 105 [.d (.sl (a0.map Task.enc)), .d (.sl (a1.map (eI .i64))), .d (.int .i64 a2), .d (.int .i64 a3)] (fun y => y = E_Int r) := by
  refine Go.VC.Spec.of_xc (args := [.d (.sl (a0.map Task.enc)), .d (.sl (a1.map (eI .i64))), .d (.int .i64 a2), .d (.int .i64 a3)]) (fn := Tryz.f105) tab ⟨[(0, [0, 1, 2, 3]), (1, [0, 1, 2, 3, 9]), (2, [8]), (3, [32]), (4, [8]), (5, [8])], [], [100032, 100009], []⟩ 52 [.tmp 8] rfl rfl rfl rfl rfl rfl ?_
  conv => whnf
  refine jnS (fun w1 => ⟨[(0, .l (.d (.sl (a0.map Task.enc)))), (1, .l (.d (.sl (a1.map (eI .i64))))), (2, .l (.d (.int .i64 a2))), (3, .l (.d (.int .i64 a3))), (9, .l (.d (.bool w1)))], 52, [], [], []⟩) h (fun k1 hk1 h => ?_) (fun w1 h => ?_)
  · conv => whnf
    refine caS (E := E_Bool) h (police_Right_w a0 a1) rfl (fun _ => rfl) (fun x2 h => ?_)
    conv => whnf
    refine fkS h (fun h => ?_) (fun h => ?_)
    · conv => whnf
      exact jeS hk1 h (Weak.refl _)
    conv => whnf
    refine fkS h (fun h => ?_) (fun h => ?_)
    · conv => whnf
      exact jeS hk1 h (Weak.refl _)
    conv => whnf
    refine lenS a0 Task.enc rfl ?_
    conv => whnf
    refine fkS h (fun h => ?_) (fun h => ?_)
    · conv => whnf
      exact jeS hk1 h (Weak.refl _)
    conv => whnf
    refine fkS h (fun h => ?_) (fun h => ?_)
    · conv => whnf
      exact jeS hk1 h (Weak.refl _)
    conv => whnf
    exact jeS hk1 h (Weak.refl _)
  conv => whnf
  refine fkS h (fun h => ?_) (fun h => ?_)
  · conv => whnf
    exact rt (E := E_Int) h rfl
  conv => whnf
  refine jnS (fun w3 => ⟨[(32, .l (.d (.bool w3)))], 52, [], [], []⟩) h (fun k3 hk3 h => ?_) (fun w3 h => ?_)
  · conv => whnf
    refine ⟨19, ?_⟩
    conv => whnf
    refine ixS (enc := (eI .i64)) h rfl (fun _ => rfl) (fun x4 h => ?_)
    conv => whnf
    refine fkS h (fun h => ?_) (fun h => ?_)
    · conv => whnf
      refine ixS (enc := (eI .i64)) h rfl (fun _ => rfl) (fun x5 h => ?_)
      conv => whnf
      refine ixS (enc := Task.enc) h rfl (fun _ => rfl) (fun x6 h => ?_)
      conv => whnf
      refine drS (by kernel_rfl) ?_
      conv => whnf
      exact jeS hk3 h (Weak.refl _)
    conv => whnf
    refine drS (by kernel_rfl) ?_
    conv => whnf
    exact jeS hk3 h (Weak.refl _)
  conv => whnf
  refine fkS h (fun h => ?_) (fun h => ?_)
  · conv => whnf
    exact rt (E := E_Int) h rfl
  conv => whnf
  exact rt (E := E_Int) h rfl

end Go.Proofs.YtfnaclhllopoeaaGreat
namespace Go.Proofs.YtfnaclhllopoeaaGreat
open Go Go.VC
noncomputable def police_Note (a0 : List Task) (a1 : List Int) (a2 : Int) (a3 : Int) : Option ((List Int) × Int) :=
  bnd (police_May a0 a1 a2 a3) fun x1 => fk (!decide (x1 = (0 : Int))) (some (a1, x1)) (ck (decide ((([] : List Int).length + a1.length) * 8 ≤ 140737488355328)) (ck (decide (0 ≤ a2) && decide (a2 < ((([] : List Int) ++ a1).length : Int))) (ox (([] : List Int) ++ a1) a2.toNat fun x2 => some ((([] : List Int) ++ a1).set a2.toNat a3, (0 : Int)))))
theorem police_Note_w (a0 : List Task) (a1 : List Int) (a2 : Int) (a3 : Int) (r : (List Int) × Int) (h : police_Note a0 a1 a2 a3 = some r) : Go.VC.Spec Tryz.prog 90 [.d (.sl (a0.map Task.enc)), .d (.sl (a1.map (eI .i64))), .d (.int .i64 a2), .d (.int .i64 a3)] (fun y => y = E_ListInt_Int r) := by
  refine Go.VC.Spec.of_xc (args := [.d (.sl (a0.map Task.enc)), .d (.sl (a1.map (eI .i64))), .d (.int .i64 a2), .d (.int .i64 a3)]) (fn := Tryz.f90) tab ⟨[(0, [0, 1, 2, 3]), (1, [1, 2, 3, 10]), (2, [1, 2, 3, 10, 18]), (3, [8, 9]), (4, [2, 3, 11]), (5, [11]), (6, [8, 9])], [], [], []⟩ 29 [.tmp 8, .tmp 9] rfl rfl rfl rfl rfl rfl ?_
  conv => whnf
  refine caS (E := E_Int) h (police_May_w a0 a1 a2 a3) rfl (fun _ => rfl) (fun x1 h => ?_)
  conv => whnf
  refine fkS h (fun h => ?_) (fun h => ?_)
  · conv => whnf
    exact rt (E := E_ListInt_Int) h rfl
  conv => whnf
  refine liS ([] : List Int) (eI .i64) rfl rfl ?_
  conv => whnf
  refine apS (enc := (eI .i64)) (l1 := ([] : List Int)) (l2 := a1) h rfl rfl (fun _ => rfl) (fun h => ?_)
  conv => whnf
  refine ioS (enc := (eI .i64)) h rfl (fun h => ?_)
  conv => whnf
  refine seS (enc := (eI .i64)) h rfl (fun x2 => a3) (fun _ => rfl) (fun x2 h => ?_)
  conv => whnf
  exact rt (E := E_ListInt_Int) h rfl

end Go.Proofs.YtfnaclhllopoeaaGreat
namespace Go.Proofs.YtfnaclhllopoeaaGreat
open Go Go.VC
noncomputable def part_Release (a0 : PartState) (a1 : Int) (a2 : Int) (a3 : Int) : Option (PartState × Int) :=
  jn (fun (w1 : Bool) => fk w1 (some (a0, (1 : Int))) (ix a0.Leaves a1 fun x4 => fk x4 (some (a0, (9 : Int))) (ck (decide ((([] : List Entry).length + a0.Log.length) * 24 ≤ 140737488355328)) (bnd (police_Note a0.Tasks a0.Lasts a1 a3) fun x5 => fk (!decide (x5.2 = (0 : Int))) (fk (decide (((([] : List Entry) ++ a0.Log).length : Int) < (2000 : Int))) (ck (decide (((([] : List Entry) ++ a0.Log).length + ([⟨a3, (2 : Int), a1⟩] : List Entry).length) * 24 ≤ 140737488355328)) (some (⟨a0.Tasks, a0.Leaves, a0.Lasts, a0.Jobs, (([] : List Entry) ++ a0.Log) ++ ([⟨a3, (2 : Int), a1⟩] : List Entry)⟩, x5.2))) (some (⟨a0.Tasks, a0.Leaves, a0.Lasts, a0.Jobs, ([] : List Entry) ++ a0.Log⟩, x5.2))) (fk (decide ((a0.Jobs.length : Int) ≥ (32 : Int))) (fk (decide (((([] : List Entry) ++ a0.Log).length : Int) < (2000 : Int))) (ck (decide (((([] : List Entry) ++ a0.Log).length + ([⟨a3, (3 : Int), a1⟩] : List Entry).length) * 24 ≤ 140737488355328)) (some (⟨a0.Tasks, a0.Leaves, a0.Lasts, a0.Jobs, (([] : List Entry) ++ a0.Log) ++ ([⟨a3, (3 : Int), a1⟩] : List Entry)⟩, (3 : Int)))) (some (⟨a0.Tasks, a0.Leaves, a0.Lasts, a0.Jobs, ([] : List Entry) ++ a0.Log⟩, (3 : Int)))) (ck (decide ((([] : List Job).length + a0.Jobs.length) * 48 ≤ 140737488355328)) (ix a0.Tasks a1 fun x6 => ck (decide (((([] : List Job) ++ a0.Jobs).length + ([⟨a1, a3, (wr (a3 + x6.D)), a2, (0 : Int), false⟩] : List Job).length) * 48 ≤ 140737488355328)) (fk (decide (((([] : List Entry) ++ a0.Log).length : Int) < (2000 : Int))) (ck (decide (((([] : List Entry) ++ a0.Log).length + ([⟨a3, (1 : Int), a1⟩] : List Entry).length) * 24 ≤ 140737488355328)) (some (⟨a0.Tasks, a0.Leaves, x5.1, (([] : List Job) ++ a0.Jobs) ++ ([⟨a1, a3, (wr (a3 + x6.D)), a2, (0 : Int), false⟩] : List Job), (([] : List Entry) ++ a0.Log) ++ ([⟨a3, (1 : Int), a1⟩] : List Entry)⟩, (0 : Int)))) (some (⟨a0.Tasks, a0.Leaves, x5.1, (([] : List Job) ++ a0.Jobs) ++ ([⟨a1, a3, (wr (a3 + x6.D)), a2, (0 : Int), false⟩] : List Job), ([] : List Entry) ++ a0.Log⟩, (0 : Int))))))))))) (fun k1 => bnd (part_Right a0) fun x2 => fk (!x2) (k1 true) (fk (decide (a1 < (0 : Int))) (k1 true) (fk (decide (a1 ≥ (a0.Tasks.length : Int))) (k1 true) (fk (decide (a2 < (1 : Int))) (k1 true) (fk (decide (a2 > (200 : Int))) (k1 true) (bnd (part_when a3) fun x3 => k1 (!x3)))))))
theorem part_Release_w (a0 : PartState) (a1 : Int) (a2 : Int) (a3 : Int) (r : PartState × Int) (h : part_Release a0 a1 a2 a3 = some r) : Go.VC.Spec Tryz.prog 53 [.agg (PartState.enc a0), .d (.int .i64 a1), .d (.int .i64 a2), .d (.int .i64 a3)] (fun y => y = E_PartState_Int r) := by
  refine Go.VC.Spec.of_xc (args := [.agg (PartState.enc a0), .d (.int .i64 a1), .d (.int .i64 a2), .d (.int .i64 a3)]) (fn := Tryz.f53) tab ⟨[(0, [1, 2, 3, 4, 8]), (1, [1, 2, 3, 4, 8, 13]), (2, [8, 9]), (3, [1, 2, 3, 4, 8, 42]), (4, [8, 9]), (5, [1, 2, 3, 4, 8, 10]), (6, [1, 2, 3, 4, 8, 10, 11, 12]), (7, [1, 2, 3, 4, 8, 10, 11, 12, 62]), (8, [8, 10, 12]), (9, [8, 9]), (10, [1, 2, 3, 4, 8, 10, 11, 73]), (11, [8, 10]), (12, [8, 9]), (13, [1, 2, 3, 4, 8, 10]), (14, [1, 8, 10]), (15, [8, 10]), (16, [8, 9])], [], [100013], []⟩ 119 [.cell 8 93, .tmp 9] rfl rfl rfl rfl rfl rfl ?_
  conv => whnf
  refine jnS (fun w1 => ⟨[(1, .l (.d (.int .i64 a1))), (2, .l (.d (.int .i64 a2))), (3, .l (.d (.int .i64 a3))), (4, .l (.ptr 5 0)), (8, .l (.ptr 9 0)), (13, .l (.d (.bool w1)))], 119, [], [(5, [.d (.sl (a0.Tasks.map Task.enc)), .d (.sl (a0.Leaves.map eB)), .d (.sl (a0.Lasts.map (eI .i64))), .d (.sl (a0.Jobs.map Job.enc)), .d (.sl (a0.Log.map Entry.enc))]), (9, [.nil, .nil, .nil, .nil, .nil])], []⟩) h (fun k1 hk1 h => ?_) (fun w1 h => ?_)
  · conv => whnf
    refine caS (E := E_Bool) h (part_Right_w a0) rfl (fun _ => rfl) (fun x2 h => ?_)
    conv => whnf
    refine fkS h (fun h => ?_) (fun h => ?_)
    · conv => whnf
      exact jeS hk1 h (Weak.refl _)
    conv => whnf
    refine fkS h (fun h => ?_) (fun h => ?_)
    · conv => whnf
      exact jeS hk1 h (Weak.refl _)
    conv => whnf
    refine lenS a0.Tasks Task.enc rfl ?_
    conv => whnf
    refine fkS h (fun h => ?_) (fun h => ?_)
    · conv => whnf
      exact jeS hk1 h (Weak.refl _)
    conv => whnf
    refine fkS h (fun h => ?_) (fun h => ?_)
    · conv => whnf
      exact jeS hk1 h (Weak.refl _)
    conv => whnf
    refine fkS h (fun h => ?_) (fun h => ?_)
    · conv => whnf
      exact jeS hk1 h (Weak.refl _)
    conv => whnf
    refine caS (E := E_Bool) h (part_when_w a3) rfl (fun _ => rfl) (fun x3 h => ?_)
    conv => whnf
    exact jeS hk1 h (Weak.refl _)
  conv => whnf
  refine fkS h (fun h => ?_) (fun h => ?_)
  · conv => whnf
    exact rt (E := E_PartState_Int) h rfl
  conv => whnf
  refine ixS (enc := eB) h rfl (fun _ => rfl) (fun x4 h => ?_)
  conv => whnf
  refine fkS h (fun h => ?_) (fun h => ?_)
  · conv => whnf
    exact rt (E := E_PartState_Int) h rfl
  conv => whnf
  refine inS (fn := Tryz.f68) tab ⟨[(0, [1, 2]), (1, [4])], [], [], []⟩ 14 [.tmp 4] rfl rfl rfl rfl rfl rfl ?_
  conv => whnf
  refine ⟨7, ?_⟩
  conv => whnf
  refine liS ([] : List Entry) Entry.enc rfl rfl ?_
  conv => whnf
  refine apS (enc := Entry.enc) (l1 := ([] : List Entry)) (l2 := a0.Log) h rfl rfl (fun _ => rfl) (fun h => ?_)
  conv => whnf
  refine drS (by kernel_rfl) ?_
  conv => whnf
  refine ccS (E := E_ListInt_Int) h (police_Note_w a0.Tasks a0.Lasts a1 a3) rfl rfl (fun x5 h => ?_)
  conv => whnf
  refine fkS h (fun h => ?_) (fun h => ?_)
  · conv => whnf
    refine inS (fn := Tryz.f91) tab ⟨[(0, [0, 1, 2, 11]), (1, [])], [], [], []⟩ 28 [] rfl rfl rfl rfl rfl rfl ?_
    conv => whnf
    refine lenS (([] : List Entry) ++ a0.Log) Entry.enc rfl ?_
    conv => whnf
    refine fkS h (fun h => ?_) (fun h => ?_)
    · conv => whnf
      refine ⟨14, ?_⟩
      conv => whnf
      refine liS ([⟨a3, (2 : Int), a1⟩] : List Entry) Entry.enc rfl rfl ?_
      conv => whnf
      refine apS (enc := Entry.enc) (l1 := ([] : List Entry) ++ a0.Log) (l2 := ([⟨a3, (2 : Int), a1⟩] : List Entry)) h rfl rfl (fun _ => rfl) (fun h => ?_)
      conv => whnf
      refine drS (by kernel_rfl) ?_
      conv => whnf
      refine inS (fn := Tryz.f72) tab ⟨[(0, [0, 2]), (1, [0, 2]), (2, [2])], [], [], []⟩ 16 [.cell 2 93] rfl rfl rfl rfl rfl rfl ?_
      conv => whnf
      exact rt (E := E_PartState_Int) h rfl
    conv => whnf
    refine inS (fn := Tryz.f72) tab ⟨[(0, [0, 2]), (1, [0, 2]), (2, [2])], [], [], []⟩ 16 [.cell 2 93] rfl rfl rfl rfl rfl rfl ?_
    conv => whnf
    exact rt (E := E_PartState_Int) h rfl
  conv => whnf
  refine lenS a0.Jobs Job.enc rfl ?_
  conv => whnf
  refine fkS h (fun h => ?_) (fun h => ?_)
  · conv => whnf
    refine inS (fn := Tryz.f91) tab ⟨[(0, [0, 1, 2, 11]), (1, [])], [], [], []⟩ 28 [] rfl rfl rfl rfl rfl rfl ?_
    conv => whnf
    refine lenS (([] : List Entry) ++ a0.Log) Entry.enc rfl ?_
    conv => whnf
    refine fkS h (fun h => ?_) (fun h => ?_)
    · conv => whnf
      refine ⟨14, ?_⟩
      conv => whnf
      refine liS ([⟨a3, (3 : Int), a1⟩] : List Entry) Entry.enc rfl rfl ?_
      conv => whnf
      refine apS (enc := Entry.enc) (l1 := ([] : List Entry) ++ a0.Log) (l2 := ([⟨a3, (3 : Int), a1⟩] : List Entry)) h rfl rfl (fun _ => rfl) (fun h => ?_)
      conv => whnf
      refine drS (by kernel_rfl) ?_
      conv => whnf
      refine inS (fn := Tryz.f72) tab ⟨[(0, [0, 2]), (1, [0, 2]), (2, [2])], [], [], []⟩ 16 [.cell 2 93] rfl rfl rfl rfl rfl rfl ?_
      conv => whnf
      exact rt (E := E_PartState_Int) h rfl
    conv => whnf
    refine inS (fn := Tryz.f72) tab ⟨[(0, [0, 2]), (1, [0, 2]), (2, [2])], [], [], []⟩ 16 [.cell 2 93] rfl rfl rfl rfl rfl rfl ?_
    conv => whnf
    exact rt (E := E_PartState_Int) h rfl
  conv => whnf
  refine ⟨19, ?_⟩
  conv => whnf
  refine liS ([] : List Job) Job.enc rfl rfl ?_
  conv => whnf
  refine apS (enc := Job.enc) (l1 := ([] : List Job)) (l2 := a0.Jobs) h rfl rfl (fun _ => rfl) (fun h => ?_)
  conv => whnf
  refine ixS (enc := Task.enc) h rfl (fun _ => rfl) (fun x6 h => ?_)
  conv => whnf
  refine liS ([⟨a1, a3, (wr (a3 + x6.D)), a2, (0 : Int), false⟩] : List Job) Job.enc rfl rfl ?_
  conv => whnf
  refine apS (enc := Job.enc) (l1 := ([] : List Job) ++ a0.Jobs) (l2 := ([⟨a1, a3, (wr (a3 + x6.D)), a2, (0 : Int), false⟩] : List Job)) h rfl rfl (fun _ => rfl) (fun h => ?_)
  conv => whnf
  refine drS (by kernel_rfl) ?_
  conv => whnf
  refine inS (fn := Tryz.f91) tab ⟨[(0, [0, 1, 2, 11]), (1, [])], [], [], []⟩ 28 [] rfl rfl rfl rfl rfl rfl ?_
  conv => whnf
  refine lenS (([] : List Entry) ++ a0.Log) Entry.enc rfl ?_
  conv => whnf
  refine fkS h (fun h => ?_) (fun h => ?_)
  · conv => whnf
    refine ⟨14, ?_⟩
    conv => whnf
    refine liS ([⟨a3, (1 : Int), a1⟩] : List Entry) Entry.enc rfl rfl ?_
    conv => whnf
    refine apS (enc := Entry.enc) (l1 := ([] : List Entry) ++ a0.Log) (l2 := ([⟨a3, (1 : Int), a1⟩] : List Entry)) h rfl rfl (fun _ => rfl) (fun h => ?_)
    conv => whnf
    refine drS (by kernel_rfl) ?_
    conv => whnf
    refine inS (fn := Tryz.f72) tab ⟨[(0, [0, 2]), (1, [0, 2]), (2, [2])], [], [], []⟩ 16 [.cell 2 93] rfl rfl rfl rfl rfl rfl ?_
    conv => whnf
    exact rt (E := E_PartState_Int) h rfl
  conv => whnf
  refine inS (fn := Tryz.f72) tab ⟨[(0, [0, 2]), (1, [0, 2]), (2, [2])], [], [], []⟩ 16 [.cell 2 93] rfl rfl rfl rfl rfl rfl ?_
  conv => whnf
  exact rt (E := E_PartState_Int) h rfl

end Go.Proofs.YtfnaclhllopoeaaGreat
namespace Go.Proofs.YtfnaclhllopoeaaGreat
open Go Go.VC
noncomputable def task_Held (a0 : Task) (a1 : Int) : Option (List Int) :=
  bnd (task_Right a0) fun x1 => fk (!x1) (some []) (lp (fun nx2 (v2 : (List Int) × Int) => fk (decide (v2.2 < (a0.Secs.length : Int))) (jn (fun (w3 : List Int) => nx2 (w3, (wr (v2.2 + (1 : Int))))) (fun k3 => ix a0.Secs v2.2 fun x4 => jn (fun (w5 : Bool) => fk w5 (ck (decide ((v2.1.length + ([x4.Res] : List Int).length) * 8 ≤ 140737488355328)) (k3 (v2.1 ++ ([x4.Res] : List Int)))) (k3 v2.1)) (fun k5 => fk (decide (x4.At < a1)) (k5 (decide (a1 < (wr (x4.At + x4.Len))))) (k5 false)))) (some v2.1)) FU ([], (0 : Int)))
theorem task_Held_w (a0 : Task) (a1 : Int) (r : List Int) (h : task_Held a0 a1 = some r) : Go.VC.Spec Tryz.prog 121 [.agg (Task.enc a0), .d (.int .i64 a1)] (fun y => y = E_ListInt r) := by
  refine Go.VC.Spec.of_xc (args := [.agg (Task.enc a0), .d (.int .i64 a1)]) (fn := Tryz.f121) tab ⟨[(0, [1, 2]), (1, [1, 2, 10]), (2, [4]), (3, [1, 2, 5]), (4, [1, 5, 12, 13, 14]), (5, [1, 5, 12, 13, 14, 15]), (6, [1, 5, 7, 12, 13, 14]), (7, [1, 5, 7, 12, 13, 14, 30]), (8, [1, 5, 12, 13, 14]), (9, [1, 5, 12, 13, 14]), (10, [4])], [], [100030, 9], []⟩ 38 [.tmp 4] rfl rfl rfl rfl rfl rfl ?_
  conv => whnf
  refine caS (E := E_Bool) h (task_Right_w a0) rfl (fun _ => rfl) (fun x1 h => ?_)
  conv => whnf
  refine fkS h (fun h => ?_) (fun h => ?_)
  · conv => whnf
    exact rt (E := E_ListInt) h rfl
  conv => whnf
  refine lenS a0.Secs Sec.enc rfl ?_
  conv => whnf
  refine lpS (fun v2 => ⟨[(1, .l (.d (.int .i64 a1))), (5, .l (.own 6)), (12, .l (.d (.sl (a0.Secs.map Sec.enc)))), (13, .l (.d (.int .i64 (a0.Secs.length : Int)))), (14, .l (.d (.int .i64 v2.2)))], 38, [], [], [(6, 3, 1, v2.1.map (eI .i64))]⟩) h (Weak.trans (Weak.nilO _ 5 6 3 1 rfl) (Weak.refl _)) (fun _ nx2 hn2 v2 h => ?_)
  conv => whnf
  refine fkS h (fun h => ?_) (fun h => ?_)
  · conv => whnf
    refine jnS (fun w3 => ⟨[(1, .l (.d (.int .i64 a1))), (5, .l (.own 6)), (12, .l (.d (.sl (a0.Secs.map Sec.enc)))), (13, .l (.d (.int .i64 (a0.Secs.length : Int)))), (14, .l (.d (.int .i64 v2.2)))], 38, [], [], [(6, 3, 1, w3.map (eI .i64))]⟩) h (fun k3 hk3 h => ?_) (fun w3 h => ?_)
    · conv => whnf
      refine ixS (enc := Sec.enc) h rfl (fun _ => rfl) (fun x4 h => ?_)
      conv => whnf
      refine jnS (fun w5 => ⟨[(1, .l (.d (.int .i64 a1))), (5, .l (.own 6)), (7, .l (.ptr 8 0)), (12, .l (.d (.sl (a0.Secs.map Sec.enc)))), (13, .l (.d (.int .i64 (a0.Secs.length : Int)))), (14, .l (.d (.int .i64 v2.2))), (30, .l (.d (.bool w5)))], 38, [], [(8, [.d (.int .i64 x4.Res), .d (.int .i64 x4.At), .d (.int .i64 x4.Len)])], [(6, 3, 1, v2.1.map (eI .i64))]⟩) h (fun k5 hk5 h => ?_) (fun w5 h => ?_)
      · conv => whnf
        refine fkS h (fun h => ?_) (fun h => ?_)
        · conv => whnf
          exact jeS hk5 h (Weak.refl _)
        conv => whnf
        exact jeS hk5 h (Weak.refl _)
      conv => whnf
      refine fkS h (fun h => ?_) (fun h => ?_)
      · conv => whnf
        refine liS ([x4.Res] : List Int) (eI .i64) rfl rfl ?_
        conv => whnf
        refine apS (enc := (eI .i64)) (l1 := v2.1) (l2 := ([x4.Res] : List Int)) h rfl rfl (fun _ => rfl) (fun h => ?_)
        conv => whnf
        exact jeS hk3 h (Weak.refl _)
      conv => whnf
      refine jeX hk3 h ?_
      conv => whnf
      refine WkF.step (Weak.keepS _ [1, 5, 12, 13, 14]) ?_
      conv => whnf
      exact WkF.refl _
    conv => whnf
    exact leS hn2 h (Weak.refl _)
  conv => whnf
  exact rt (E := E_ListInt) h rfl

end Go.Proofs.YtfnaclhllopoeaaGreat
namespace Go.Proofs.YtfnaclhllopoeaaGreat
open Go Go.VC
noncomputable def job_Held (a0 : List Task) (a1 : List Job) : Option (List Int) :=
  bnd (job_All a0 a1) fun x1 => fk (!x1) (some []) (lp (fun nx2 (v2 : (List Int) × Int) => fk (decide (v2.2 < (a1.length : Int))) (ix a1 v2.2 fun x3 => ix a0 x3.Task fun x4 => bnd (task_Held x4 x3.Had) fun x5 => ck (decide ((v2.1.length + x5.length) * 8 ≤ 140737488355328)) (nx2 (v2.1 ++ x5, (wr (v2.2 + (1 : Int)))))) (some v2.1)) FU ([], (0 : Int)))
theorem job_Held_w (a0 : List Task) (a1 : List Job) (r : List Int) (h : job_Held a0 a1 = some r) : Go.VC.Spec Tryz.prog 114 [.d (.sl (a0.map Task.enc)), .d (.sl (a1.map Job.enc))] (fun y => y = E_ListInt r) := by
  refine Go.VC.Spec.of_xc (args := [.d (.sl (a0.map Task.enc)), .d (.sl (a1.map Job.enc))]) (fn := Tryz.f114) tab ⟨[(0, [0, 1]), (1, [0, 1, 11]), (2, [4]), (3, [0, 1, 5]), (4, [0, 5, 12, 13, 14]), (5, [0, 5, 12, 13, 14, 15]), (6, [0, 5, 7, 12, 13, 14]), (7, [0, 5, 12, 13, 14]), (8, [0, 5, 12, 13, 14]), (9, [4])], [], [], []⟩ 30 [.tmp 4] rfl rfl rfl rfl rfl rfl ?_
  conv => whnf
  refine caS (E := E_Bool) h (job_All_w a0 a1) rfl (fun _ => rfl) (fun x1 h => ?_)
  conv => whnf
  refine fkS h (fun h => ?_) (fun h => ?_)
  · conv => whnf
    exact rt (E := E_ListInt) h rfl
  conv => whnf
  refine lenS a1 Job.enc rfl ?_
  conv => whnf
  refine lpS (fun v2 => ⟨[(0, .l (.d (.sl (a0.map Task.enc)))), (5, .l (.own 6)), (12, .l (.d (.sl (a1.map Job.enc)))), (13, .l (.d (.int .i64 (a1.length : Int)))), (14, .l (.d (.int .i64 v2.2)))], 30, [], [], [(6, 3, 1, v2.1.map (eI .i64))]⟩) h (Weak.trans (Weak.nilO _ 5 6 3 1 rfl) (Weak.refl _)) (fun _ nx2 hn2 v2 h => ?_)
  conv => whnf
  refine fkS h (fun h => ?_) (fun h => ?_)
  · conv => whnf
    refine ixS (enc := Job.enc) h rfl (fun _ => rfl) (fun x3 h => ?_)
    conv => whnf
    refine ⟨9, ?_⟩
    conv => whnf
    refine ixS (enc := Task.enc) h rfl (fun _ => rfl) (fun x4 h => ?_)
    conv => whnf
    refine dcS (E := E_ListInt) h (task_Held_w x4 x3.Had) rfl (fun x5 h => ?_)
    conv => whnf
    refine drS (by kernel_rfl) ?_
    conv => whnf
    refine apS (enc := (eI .i64)) (l1 := v2.1) (l2 := x5) h rfl rfl (fun _ => rfl) (fun h => ?_)
    conv => whnf
    exact leS hn2 h (Weak.refl _)
  conv => whnf
  exact rt (E := E_ListInt) h rfl

end Go.Proofs.YtfnaclhllopoeaaGreat
namespace Go.Proofs.YtfnaclhllopoeaaGreat
open Go Go.VC
noncomputable def level_level (a0 : List Task) (a1 : Task) : Option Int :=
  lp (fun nx1 (v1 : Int × Int) => fk (decide (v1.2 < (a0.length : Int))) (jn (fun (w2 : Int) => nx1 (w2, (wr (v1.2 + (1 : Int))))) (fun k2 => ix a0 v1.2 fun x3 => fk (decide (x3.D > a1.D)) (k2 (wr (v1.1 + (1 : Int)))) (k2 v1.1))) (some v1.1)) FU ((1 : Int), (0 : Int))
theorem level_level_w (a0 : List Task) (a1 : Task) (r : Int) (h : level_level a0 a1 = some r) : Go.VC.Spec Tryz.prog 125 [.d (.sl (a0.map Task.enc)), .agg (Task.enc a1)] (fun y => y = E_Int r) := by
  refine Go.VC.Spec.of_xc (args := [.d (.sl (a0.map Task.enc)), .agg (Task.enc a1)]) (fn := Tryz.f125) tab ⟨[(0, [0, 3]), (1, [0, 3, 5]), (2, [3, 5, 8, 9, 10]), (3, [3, 5, 8, 9, 10, 11]), (4, [3, 5, 7, 8, 9, 10]), (5, [3, 5, 8, 9, 10, 18]), (6, [3, 5, 8, 9, 10]), (7, [3, 5, 8, 9, 10]), (8, [4])], [], [7], []⟩ 23 [.tmp 4] rfl rfl rfl rfl rfl rfl ?_
  conv => whnf
  refine lenS a0 Task.enc rfl ?_
  conv => whnf
  refine lpS (fun v1 => ⟨[(3, .l (.ptr 4 0)), (5, .l (.d (.int .i64 v1.1))), (8, .l (.d (.sl (a0.map Task.enc)))), (9, .l (.d (.int .i64 (a0.length : Int)))), (10, .l (.d (.int .i64 v1.2)))], 23, [], [(4, [.d (.int .i64 a1.C), .d (.int .i64 a1.D), .d (.int .i64 a1.T), .d (.sl (a1.Secs.map Sec.enc))])], []⟩) h (Weak.refl _) (fun _ nx1 hn1 v1 h => ?_)
  conv => whnf
  refine fkS h (fun h => ?_) (fun h => ?_)
  · conv => whnf
    refine jnS (fun w2 => ⟨[(3, .l (.ptr 4 0)), (5, .l (.d (.int .i64 w2))), (8, .l (.d (.sl (a0.map Task.enc)))), (9, .l (.d (.int .i64 (a0.length : Int)))), (10, .l (.d (.int .i64 v1.2)))], 23, [], [(4, [.d (.int .i64 a1.C), .d (.int .i64 a1.D), .d (.int .i64 a1.T), .d (.sl (a1.Secs.map Sec.enc))])], []⟩) h (fun k2 hk2 h => ?_) (fun w2 h => ?_)
    · conv => whnf
      refine ixS (enc := Task.enc) h rfl (fun _ => rfl) (fun x3 h => ?_)
      conv => whnf
      refine fkS h (fun h => ?_) (fun h => ?_)
      · conv => whnf
        exact jeS hk2 h (Weak.refl _)
      conv => whnf
      refine jeX hk2 h ?_
      conv => whnf
      refine WkF.step (Weak.keepS _ [3, 5, 8, 9, 10]) ?_
      conv => whnf
      exact WkF.refl _
    conv => whnf
    exact leS hn1 h (Weak.refl _)
  conv => whnf
  exact rt (E := E_Int) h rfl

end Go.Proofs.YtfnaclhllopoeaaGreat
namespace Go.Proofs.YtfnaclhllopoeaaGreat
open Go Go.VC
noncomputable def level_Of (a0 : List Task) (a1 : Int) : Option Int :=
  jn (fun (w1 : Bool) => fk w1 (some (0 : Int)) (ix a0 a1 fun x3 => bnd (level_level a0 x3) fun x4 => some x4)) (fun k1 => bnd (task_All a0) fun x2 => fk (!x2) (k1 true) (fk (decide (a1 < (0 : Int))) (k1 true) (k1 (decide (a1 ≥ (a0.length : Int))))))
theorem level_Of_w (a0 : List Task) (a1 : Int) (r : Int) (h : level_Of a0 a1 = some r) : Go.VC.Spec Tryz.prog 119 [.d (.sl (a0.map Task.enc)), .d (.int .i64 a1)] (fun y => y = E_Int r) := by
  refine Go.VC.Spec.of_xc (args := [.d (.sl (a0.map Task.enc)), .d (.int .i64 a1)]) (fn := Tryz.f119) tab ⟨[(0, [0, 1]), (1, [0, 1, 17]), (2, [4]), (3, [4])], [], [100017], []⟩ 24 [.tmp 4] rfl rfl rfl rfl rfl rfl ?_
  conv => whnf
  refine jnS (fun w1 => ⟨[(0, .l (.d (.sl (a0.map Task.enc)))), (1, .l (.d (.int .i64 a1))), (17, .l (.d (.bool w1)))], 24, [], [], []⟩) h (fun k1 hk1 h => ?_) (fun w1 h => ?_)
  · conv => whnf
    refine caS (E := E_Bool) h (task_All_w a0) rfl (fun _ => rfl) (fun x2 h => ?_)
    conv => whnf
    refine fkS h (fun h => ?_) (fun h => ?_)
    · conv => whnf
      exact jeS hk1 h (Weak.refl _)
    conv => whnf
    refine fkS h (fun h => ?_) (fun h => ?_)
    · conv => whnf
      exact jeS hk1 h (Weak.refl _)
    conv => whnf
    refine lenS a0 Task.enc rfl ?_
    conv => whnf
    exact jeS hk1 h (Weak.refl _)
  conv => whnf
  refine fkS h (fun h => ?_) (fun h => ?_)
  · conv => whnf
    exact rt (E := E_Int) h rfl
  conv => whnf
  refine ixS (enc := Task.enc) h rfl (fun _ => rfl) (fun x3 h => ?_)
  conv => whnf
  refine caS (E := E_Int) h (level_level_w a0 x3) rfl (fun _ => rfl) (fun x4 h => ?_)
  conv => whnf
  exact rt (E := E_Int) h rfl

end Go.Proofs.YtfnaclhllopoeaaGreat
namespace Go.Proofs.YtfnaclhllopoeaaGreat
open Go Go.VC
noncomputable def level_Ceiling_1 (a0 : Task) (a1 : Int) (a2 : List Task) : Option Int :=
  bnd (task_Uses a0 a1) fun x1 => fk (!x1) (some (0 : Int)) (bnd (level_level a2 a0) fun x2 => some x2)
theorem level_Ceiling_1_w (a0 : Task) (a1 : Int) (a2 : List Task) (r : Int) (h : level_Ceiling_1 a0 a1 a2 = some r) : Go.VC.Spec Tryz.prog 134 [.agg (Task.enc a0), .dp [.int .i64 a1], .dp [.sl (a2.map Task.enc)]] (fun y => y = E_Int r) := by
  refine Go.VC.Spec.of_xc (args := [.agg (Task.enc a0), .dp [.int .i64 a1], .dp [.sl (a2.map Task.enc)]]) (fn := Tryz.f134) tab ⟨[(0, [1, 2, 3]), (1, [2, 3, 8]), (2, [4]), (3, [4])], [], [], []⟩ 12 [.tmp 4] rfl rfl rfl rfl rfl rfl ?_
  conv => whnf
  refine caS (E := E_Bool) h (task_Uses_w a0 a1) rfl (fun _ => rfl) (fun x1 h => ?_)
  conv => whnf
  refine fkS h (fun h => ?_) (fun h => ?_)
  · conv => whnf
    exact rt (E := E_Int) h rfl
  conv => whnf
  refine caS (E := E_Int) h (level_level_w a2 a0) rfl (fun _ => rfl) (fun x2 h => ?_)
  conv => whnf
  exact rt (E := E_Int) h rfl

end Go.Proofs.YtfnaclhllopoeaaGreat
namespace Go.Proofs.YtfnaclhllopoeaaGreat
open Go Go.VC
noncomputable def level_most_api_Task (a0 : List Task) (a1 : Int) (a2 : List Task) : Option Int :=
  lp (fun nx1 (v1 : Int × Int) => fk (decide (v1.2 < (a0.length : Int))) (ix a0 v1.2 fun x2 => bnd (level_Ceiling_1 x2 a1 a2) fun x3 => nx1 ((if x3 > v1.1 then x3 else v1.1), (wr (v1.2 + (1 : Int))))) (some v1.1)) FU ((0 : Int), (0 : Int))
theorem level_most_api_Task_w (a0 : List Task) (a1 : Int) (a2 : List Task) (r : Int) (h : level_most_api_Task a0 a1 a2 = some r) : Go.VC.Spec Tryz.prog 133 [.d (.sl (a0.map Task.enc)), .d (.fn 134 [[.int .i64 a1], [.sl (a2.map Task.enc)]])] (fun y => y = E_Int r) := by
  refine Go.VC.Spec.of_xc (args := [.d (.sl (a0.map Task.enc)), .d (.fn 134 [[.int .i64 a1], [.sl (a2.map Task.enc)]])]) (fn := Tryz.f133) tab ⟨[(0, [0, 1]), (1, [0, 1, 5]), (2, [1, 5, 8, 9, 10]), (3, [1, 5, 8, 9, 10, 11]), (4, [1, 5, 7, 8, 9, 10]), (5, [1, 5, 8, 9, 10]), (6, [1, 5, 8, 9, 10]), (7, [4])], [], [], []⟩ 21 [.tmp 4] rfl rfl rfl rfl rfl rfl ?_
  conv => whnf
  refine lenS a0 Task.enc rfl ?_
  conv => whnf
  refine lpS (fun v1 => ⟨[(1, .l (.d (.fn 134 [[.int .i64 a1], [.sl (a2.map Task.enc)]]))), (5, .l (.d (.int .i64 v1.1))), (8, .l (.d (.sl (a0.map Task.enc)))), (9, .l (.d (.int .i64 (a0.length : Int)))), (10, .l (.d (.int .i64 v1.2)))], 21, [], [], []⟩) h (Weak.refl _) (fun _ nx1 hn1 v1 h => ?_)
  conv => whnf
  refine fkS h (fun h => ?_) (fun h => ?_)
  · conv => whnf
    refine ixS (enc := Task.enc) h rfl (fun _ => rfl) (fun x2 h => ?_)
    conv => whnf
    refine caS (E := E_Int) h (level_Ceiling_1_w x2 a1 a2) rfl (fun _ => rfl) (fun x3 h => ?_)
    conv => whnf
    exact leS hn1 h (Weak.refl _)
  conv => whnf
  exact rt (E := E_Int) h rfl

end Go.Proofs.YtfnaclhllopoeaaGreat
namespace Go.Proofs.YtfnaclhllopoeaaGreat
open Go Go.VC
noncomputable def level_Ceiling (a0 : List Task) (a1 : Int) : Option Int :=
  bnd (task_All a0) fun x1 => fk (!x1) (some (0 : Int)) (bnd (level_most_api_Task a0 a1 a0) fun x2 => some x2)
theorem level_Ceiling_w (a0 : List Task) (a1 : Int) (r : Int) (h : level_Ceiling a0 a1 = some r) : Go.VC.Spec Tryz.prog 128 [.d (.sl (a0.map Task.enc)), .d (.int .i64 a1)] (fun y => y = E_Int r) := by
  refine Go.VC.Spec.of_xc (args := [.d (.sl (a0.map Task.enc)), .d (.int .i64 a1)]) (fn := Tryz.f128) tab ⟨[(0, [2, 3]), (1, [2, 3, 7]), (2, [4]), (3, [4])], [], [], []⟩ 11 [.tmp 4] rfl rfl rfl rfl rfl rfl ?_
  conv => whnf
  refine caS (E := E_Bool) h (task_All_w a0) rfl (fun _ => rfl) (fun x1 h => ?_)
  conv => whnf
  refine fkS h (fun h => ?_) (fun h => ?_)
  · conv => whnf
    exact rt (E := E_Int) h rfl
  conv => whnf
  refine caS (E := E_Int) h (level_most_api_Task_w a0 a1 a0) rfl (fun _ => rfl) (fun x2 h => ?_)
  conv => whnf
  exact rt (E := E_Int) h rfl

end Go.Proofs.YtfnaclhllopoeaaGreat
namespace Go.Proofs.YtfnaclhllopoeaaGreat
open Go Go.VC
noncomputable def level_Held_1 (a0 : Int) (a1 : List Task) : Option Int :=
  bnd (level_Ceiling a1 a0) fun x1 => some x1
theorem level_Held_1_w (a0 : Int) (a1 : List Task) (r : Int) (h : level_Held_1 a0 a1 = some r) : Go.VC.Spec Tryz.prog 127 [.d (.int .i64 a0), .dp [.sl (a1.map Task.enc)]] (fun y => y = E_Int r) := by
  refine Go.VC.Spec.of_xc (args := [.d (.int .i64 a0), .dp [.sl (a1.map Task.enc)]]) (fn := Tryz.f127) tab ⟨[(0, [0, 1]), (1, [3])], [], [], []⟩ 7 [.tmp 3] rfl rfl rfl rfl rfl rfl ?_
  conv => whnf
  refine caS (E := E_Int) h (level_Ceiling_w a1 a0) rfl (fun _ => rfl) (fun x1 h => ?_)
  conv => whnf
  exact rt (E := E_Int) h rfl

end Go.Proofs.YtfnaclhllopoeaaGreat
namespace Go.Proofs.YtfnaclhllopoeaaGreat
open Go Go.VC
noncomputable def level_most_int (a0 : List Int) (a1 : List Task) : Option Int :=
  lp (fun nx1 (v1 : Int × Int) => fk (decide (v1.2 < (a0.length : Int))) (ix a0 v1.2 fun x2 => bnd (level_Held_1 x2 a1) fun x3 => nx1 ((if x3 > v1.1 then x3 else v1.1), (wr (v1.2 + (1 : Int))))) (some v1.1)) FU ((0 : Int), (0 : Int))
theorem level_most_int_w (a0 : List Int) (a1 : List Task) (r : Int) (h : level_most_int a0 a1 = some r) : Go.VC.Spec Tryz.prog 126 [.d (.sl (a0.map (eI .i64))), .d (.fn 127 [[.sl (a1.map Task.enc)]])] (fun y => y = E_Int r) := by
  refine Go.VC.Spec.of_xc (args := [.d (.sl (a0.map (eI .i64))), .d (.fn 127 [[.sl (a1.map Task.enc)]])]) (fn := Tryz.f126) tab ⟨[(0, [0, 1]), (1, [0, 1, 5]), (2, [1, 5, 8, 9, 10]), (3, [1, 5, 8, 9, 10, 11]), (4, [1, 5, 7, 8, 9, 10]), (5, [1, 5, 8, 9, 10]), (6, [1, 5, 8, 9, 10]), (7, [4])], [], [], []⟩ 21 [.tmp 4] rfl rfl rfl rfl rfl rfl ?_
  conv => whnf
  refine lenS a0 (eI .i64) rfl ?_
  conv => whnf
  refine lpS (fun v1 => ⟨[(1, .l (.d (.fn 127 [[.sl (a1.map Task.enc)]]))), (5, .l (.d (.int .i64 v1.1))), (8, .l (.d (.sl (a0.map (eI .i64))))), (9, .l (.d (.int .i64 (a0.length : Int)))), (10, .l (.d (.int .i64 v1.2)))], 21, [], [], []⟩) h (Weak.refl _) (fun _ nx1 hn1 v1 h => ?_)
  conv => whnf
  refine fkS h (fun h => ?_) (fun h => ?_)
  · conv => whnf
    refine ixS (enc := (eI .i64)) h rfl (fun _ => rfl) (fun x2 h => ?_)
    conv => whnf
    refine caS (E := E_Int) h (level_Held_1_w x2 a1) rfl (fun _ => rfl) (fun x3 h => ?_)
    conv => whnf
    exact leS hn1 h (Weak.refl _)
  conv => whnf
  exact rt (E := E_Int) h rfl

end Go.Proofs.YtfnaclhllopoeaaGreat
namespace Go.Proofs.YtfnaclhllopoeaaGreat
open Go Go.VC
noncomputable def level_Held (a0 : List Task) (a1 : List Int) : Option Int :=
  bnd (level_most_int a1 a0) fun x1 => some x1
theorem level_Held_w (a0 : List Task) (a1 : List Int) (r : Int) (h : level_Held a0 a1 = some r) : Go.VC.Spec Tryz.prog 120 [.d (.sl (a0.map Task.enc)), .d (.sl (a1.map (eI .i64)))] (fun y => y = E_Int r) := by
  refine Go.VC.Spec.of_xc (args := [.d (.sl (a0.map Task.enc)), .d (.sl (a1.map (eI .i64)))]) (fn := Tryz.f120) tab ⟨[(0, [1, 2]), (1, [4])], [], [], []⟩ 8 [.tmp 4] rfl rfl rfl rfl rfl rfl ?_
  conv => whnf
  refine caS (E := E_Int) h (level_most_int_w a1 a0) rfl (fun _ => rfl) (fun x1 h => ?_)
  conv => whnf
  exact rt (E := E_Int) h rfl

end Go.Proofs.YtfnaclhllopoeaaGreat
namespace Go.Proofs.YtfnaclhllopoeaaGreat
open Go Go.VC
noncomputable def level_Passes (a0 : List Task) (a1 : Int) (a2 : List Int) : Option Bool :=
  bnd (level_Of a0 a1) fun x1 => bnd (level_Held a0 a2) fun x2 => some (decide (x1 > x2))
theorem level_Passes_w (a0 : List Task) (a1 : Int) (a2 : List Int) (r : Bool) (h : level_Passes a0 a1 a2 = some r) : Go.VC.Spec Tryz.prog 113 [.d (.sl (a0.map Task.enc)), .d (.int .i64 a1), .d (.sl (a2.map (eI .i64)))] (fun y => y = E_Bool r) := by
  refine Go.VC.Spec.of_xc (args := [.d (.sl (a0.map Task.enc)), .d (.int .i64 a1), .d (.sl (a2.map (eI .i64)))]) (fn := Tryz.f113) tab ⟨[(0, [0, 1, 2]), (1, [6])], [], [], []⟩ 14 [.tmp 6] rfl rfl rfl rfl rfl rfl ?_
  conv => whnf
  refine caS (E := E_Int) h (level_Of_w a0 a1) rfl (fun _ => rfl) (fun x1 h => ?_)
  conv => whnf
  refine caS (E := E_Int) h (level_Held_w a0 a2) rfl (fun _ => rfl) (fun x2 h => ?_)
  conv => whnf
  exact rt (E := E_Bool) h rfl

end Go.Proofs.YtfnaclhllopoeaaGreat
namespace Go.Proofs.YtfnaclhllopoeaaGreat
open Go Go.VC
noncomputable def srp_Choose (a0 : List Task) (a1 : List Job) : Option Int :=
  bnd (job_All a0 a1) fun x1 => fk (!x1) (some (-1 : Int)) (bnd (job_First a1 false) fun x2 => bnd (job_First a1 true) fun x3 => jn (fun (w4 : Unit) => some x2) (fun k4 => fk (decide (x2 < (0 : Int))) (some x3) (jn (fun (w5 : Bool) => fk w5 (some x3) (fk (decide (x3 < (0 : Int))) (k4 ()) (ix a1 x2 fun x9 => bnd (job_Held a0 a1) fun x10 => bnd (level_Passes a0 x9.Task x10) fun x11 => fk x11 (k4 ()) (some x3)))) (fun k5 => fk (decide (x3 ≥ (0 : Int))) (ix a1 x2 fun x6 => ix a1 x3 fun x7 => bnd (job_Ahead x6 x7) fun x8 => k5 (!x8)) (k5 false)))))
theorem srp_Choose_w (a0 : List Task) (a1 : List Job) (r : Int) (h : srp_Choose a0 a1 = some r) : Go.VC.Spec Tryz.prog 109 [.d (.sl (a0.map Task.enc)), .d (.sl (a1.map Job.enc))] (fun y => y = E_Int r) := by
  refine Go.VC.Spec.of_xc (args := [.d (.sl (a0.map Task.enc)), .d (.sl (a1.map Job.enc))]) (fn := Tryz.f109) tab ⟨[(0, [0, 1]), (1, [0, 1, 10]), (2, [4]), (3, [0, 1, 5, 6]), (4, [0, 1, 5, 6, 15]), (5, [0, 1, 5, 6, 18]), (6, [0, 1, 5, 6, 33]), (7, [5, 6, 36]), (8, [4]), (9, [4]), (10, [4]), (11, [4])], [], [100018, 10], []⟩ 51 [.tmp 4] rfl rfl rfl rfl rfl rfl ?_
  conv => whnf
  refine caS (E := E_Bool) h (job_All_w a0 a1) rfl (fun _ => rfl) (fun x1 h => ?_)
  conv => whnf
  refine fkS h (fun h => ?_) (fun h => ?_)
  · conv => whnf
    exact rt (E := E_Int) h rfl
  conv => whnf
  refine caS (E := E_Int) h (job_First_w a1 false) rfl (fun _ => rfl) (fun x2 h => ?_)
  conv => whnf
  refine caS (E := E_Int) h (job_First_w a1 true) rfl (fun _ => rfl) (fun x3 h => ?_)
  conv => whnf
  refine jnS (fun w4 => ⟨[(5, .l (.d (.int .i64 x2)))], 51, [], [], []⟩) h (fun k4 hk4 h => ?_) (fun w4 h => ?_)
  · conv => whnf
    refine fkS h (fun h => ?_) (fun h => ?_)
    · conv => whnf
      exact rt (E := E_Int) h rfl
    conv => whnf
    refine jnS (fun w5 => ⟨[(0, .l (.d (.sl (a0.map Task.enc)))), (1, .l (.d (.sl (a1.map Job.enc)))), (5, .l (.d (.int .i64 x2))), (6, .l (.d (.int .i64 x3))), (18, .l (.d (.bool w5)))], 51, [], [], []⟩) h (fun k5 hk5 h => ?_) (fun w5 h => ?_)
    · conv => whnf
      refine ⟨14, ?_⟩
      conv => whnf
      refine fkS h (fun h => ?_) (fun h => ?_)
      · conv => whnf
        refine ixS (enc := Job.enc) h rfl (fun _ => rfl) (fun x6 h => ?_)
        conv => whnf
        refine ixS (enc := Job.enc) h rfl (fun _ => rfl) (fun x7 h => ?_)
        conv => whnf
        refine daS (E := E_Bool) h (job_Ahead_w x6 x7) (fun _ => rfl) (fun x8 h => ?_)
        conv => whnf
        refine drS (by kernel_rfl) ?_
        conv => whnf
        exact jeS hk5 h (Weak.refl _)
      conv => whnf
      refine drS (by kernel_rfl) ?_
      conv => whnf
      exact jeS hk5 h (Weak.refl _)
    conv => whnf
    refine fkS h (fun h => ?_) (fun h => ?_)
    · conv => whnf
      exact rt (E := E_Int) h rfl
    conv => whnf
    refine fkS h (fun h => ?_) (fun h => ?_)
    · conv => whnf
      refine jeX hk4 h ?_
      conv => whnf
      refine WkF.step (Weak.keepS _ [5]) ?_
      conv => whnf
      exact WkF.refl _
    conv => whnf
    refine ⟨9, ?_⟩
    conv => whnf
    refine ixS (enc := Job.enc) h rfl (fun _ => rfl) (fun x9 h => ?_)
    conv => whnf
    refine dcS (E := E_ListInt) h (job_Held_w a0 a1) rfl (fun x10 h => ?_)
    conv => whnf
    refine drS (by kernel_rfl) ?_
    conv => whnf
    refine caS (E := E_Bool) h (level_Passes_w a0 x9.Task x10) rfl (fun _ => rfl) (fun x11 h => ?_)
    conv => whnf
    refine fkS h (fun h => ?_) (fun h => ?_)
    · conv => whnf
      refine jeX hk4 h ?_
      conv => whnf
      refine WkF.step (Weak.keepS _ [5]) ?_
      conv => whnf
      exact WkF.refl _
    conv => whnf
    exact rt (E := E_Int) h rfl
  conv => whnf
  exact rt (E := E_Int) h rfl

end Go.Proofs.YtfnaclhllopoeaaGreat
namespace Go.Proofs.YtfnaclhllopoeaaGreat
open Go Go.VC
noncomputable def srp_Tick (a0 : List Task) (a1 : List Job) : Option ((List Job) × Job × Bool) :=
  bnd (srp_Choose a0 a1) fun x1 => fk (decide (x1 < (0 : Int))) (some (a1, ⟨(0 : Int), (0 : Int), (0 : Int), (0 : Int), (0 : Int), false⟩, false)) (ix a1 x1 fun x2 => ix a0 x2.Task fun x3 => ck (decide ((0 : Int) ≤ (0 : Int)) && decide ((0 : Int) ≤ x1) && decide (x1 ≤ (a1.length : Int))) (ck (decide ((([] : List Job).length + ((a1.take x1.toNat).drop (0 : Int).toNat).length) * 48 ≤ 140737488355328)) (jn (fun (w4 : List Job) => ck (decide ((0 : Int) ≤ (wr (x1 + (1 : Int)))) && decide ((wr (x1 + (1 : Int))) ≤ (a1.length : Int)) && decide ((a1.length : Int) ≤ (a1.length : Int))) (ck (decide ((w4.length + ((a1.take (a1.length : Int).toNat).drop (wr (x1 + (1 : Int))).toNat).length) * 48 ≤ 140737488355328)) (some (w4 ++ ((a1.take (a1.length : Int).toNat).drop (wr (x1 + (1 : Int))).toNat), ⟨x2.Task, x2.At, x2.Due, x2.Want, (wr (x2.Had + (1 : Int))), true⟩, (decide ((wr (x2.Had + (1 : Int))) ≥ (if x3.C < x2.Want then x3.C else x2.Want))))))) (fun k4 => fk (!(decide ((wr (x2.Had + (1 : Int))) ≥ (if x3.C < x2.Want then x3.C else x2.Want)))) (ck (decide (((([] : List Job) ++ ((a1.take x1.toNat).drop (0 : Int).toNat)).length + ([⟨x2.Task, x2.At, x2.Due, x2.Want, (wr (x2.Had + (1 : Int))), true⟩] : List Job).length) * 48 ≤ 140737488355328)) (k4 ((([] : List Job) ++ ((a1.take x1.toNat).drop (0 : Int).toNat)) ++ ([⟨x2.Task, x2.At, x2.Due, x2.Want, (wr (x2.Had + (1 : Int))), true⟩] : List Job)))) (k4 (([] : List Job) ++ ((a1.take x1.toNat).drop (0 : Int).toNat)))))))
theorem srp_Tick_w (a0 : List Task) (a1 : List Job) (r : (List Job) × Job × Bool) (h : srp_Tick a0 a1 = some r) : Go.VC.Spec Tryz.prog 97 [.d (.sl (a0.map Task.enc)), .d (.sl (a1.map Job.enc))] (fun y => y = E_ListJob_Job_Bool r) := by
  refine Go.VC.Spec.of_xc (args := [.d (.sl (a0.map Task.enc)), .d (.sl (a1.map Job.enc))]) (fn := Tryz.f97) tab ⟨[(0, [0, 1, 5]), (1, [0, 1, 5, 7]), (2, [0, 1, 5, 7, 15]), (3, [4, 5, 6]), (4, [0, 1, 5, 7, 8]), (5, [0, 1, 5, 7, 8]), (6, [0, 1, 5, 7, 8]), (7, [1, 5, 7, 8, 9]), (8, [1, 5, 7, 8, 9, 10]), (9, [1, 5, 7, 8, 9, 10, 45]), (10, [1, 5, 7, 8, 9, 10]), (11, [4, 5, 6])], [], [11], []⟩ 58 [.tmp 4, .cell 5 175, .tmp 6] rfl rfl rfl rfl rfl rfl ?_
  conv => whnf
  refine caS (E := E_Int) h (srp_Choose_w a0 a1) rfl (fun _ => rfl) (fun x1 h => ?_)
  conv => whnf
  refine fkS h (fun h => ?_) (fun h => ?_)
  · conv => whnf
    exact rt (E := E_ListJob_Job_Bool) h rfl
  conv => whnf
  refine ixS (enc := Job.enc) h rfl (fun _ => rfl) (fun x2 h => ?_)
  conv => whnf
  refine ⟨11, ?_⟩
  conv => whnf
  refine ixS (enc := Task.enc) h rfl (fun _ => rfl) (fun x3 h => ?_)
  conv => whnf
  refine drS (by kernel_rfl) ?_
  conv => whnf
  refine liS ([] : List Job) Job.enc rfl rfl ?_
  conv => whnf
  refine slS (enc := Job.enc) h rfl rfl (.inl rfl) (fun _ => rfl) (fun h => ?_)
  conv => whnf
  refine apS (enc := Job.enc) (l1 := ([] : List Job)) (l2 := (a1.take x1.toNat).drop (0 : Int).toNat) h rfl rfl (fun _ => rfl) (fun h => ?_)
  conv => whnf
  refine jnS (fun w4 => ⟨[(1, .l (.d (.sl (a1.map Job.enc)))), (5, .l (.ptr 6 0)), (7, .l (.d (.int .i64 x1))), (8, .l (.ptr 9 0)), (9, .l (.d (.bool (decide ((wr (x2.Had + (1 : Int))) ≥ (if x3.C < x2.Want then x3.C else x2.Want)))))), (10, .l (.own 11))], 58, [], [(6, [.d (.int .i64 (0 : Int)), .d (.int .i64 (0 : Int)), .d (.int .i64 (0 : Int)), .d (.int .i64 (0 : Int)), .d (.int .i64 (0 : Int)), .d (.bool false)]), (9, [.d (.int .i64 x2.Task), .d (.int .i64 x2.At), .d (.int .i64 x2.Due), .d (.int .i64 x2.Want), .d (.int .i64 (wr (x2.Had + (1 : Int)))), .d (.bool true)])], [(11, 175, 6, w4.map Job.enc)]⟩) h (fun k4 hk4 h => ?_) (fun w4 h => ?_)
  · conv => whnf
    refine fkS h (fun h => ?_) (fun h => ?_)
    · conv => whnf
      refine liS ([⟨x2.Task, x2.At, x2.Due, x2.Want, (wr (x2.Had + (1 : Int))), true⟩] : List Job) Job.enc rfl rfl ?_
      conv => whnf
      refine apS (enc := Job.enc) (l1 := ([] : List Job) ++ ((a1.take x1.toNat).drop (0 : Int).toNat)) (l2 := ([⟨x2.Task, x2.At, x2.Due, x2.Want, (wr (x2.Had + (1 : Int))), true⟩] : List Job)) h rfl rfl (fun _ => rfl) (fun h => ?_)
      conv => whnf
      exact jeS hk4 h (Weak.refl _)
    conv => whnf
    refine jeX hk4 h ?_
    conv => whnf
    refine WkF.step (Weak.keepS _ [1, 5, 7, 8, 9, 10]) ?_
    conv => whnf
    exact WkF.refl _
  conv => whnf
  refine ⟨10, ?_⟩
  conv => whnf
  refine slS (enc := Job.enc) h rfl rfl (.inl rfl) (fun _ => rfl) (fun h => ?_)
  conv => whnf
  refine apS (enc := Job.enc) (l1 := w4) (l2 := (a1.take (a1.length : Int).toNat).drop (wr (x1 + (1 : Int))).toNat) h rfl rfl (fun _ => rfl) (fun h => ?_)
  conv => whnf
  refine drS (by kernel_rfl) ?_
  conv => whnf
  exact rt (E := E_ListJob_Job_Bool) h rfl

end Go.Proofs.YtfnaclhllopoeaaGreat
namespace Go.Proofs.YtfnaclhllopoeaaGreat
open Go Go.VC
noncomputable def part_without_api_Task (a0 : List Task) (a1 : Int) : Option (List Task) :=
  ck (decide ((0 : Int) ≤ (0 : Int)) && decide ((0 : Int) ≤ a1) && decide (a1 ≤ (a0.length : Int))) (ck (decide ((([] : List Task).length + ((a0.take a1.toNat).drop (0 : Int).toNat).length) * 48 ≤ 140737488355328)) (ck (decide ((0 : Int) ≤ (wr (a1 + (1 : Int)))) && decide ((wr (a1 + (1 : Int))) ≤ (a0.length : Int)) && decide ((a0.length : Int) ≤ (a0.length : Int))) (ck (decide (((([] : List Task) ++ ((a0.take a1.toNat).drop (0 : Int).toNat)).length + ((a0.take (a0.length : Int).toNat).drop (wr (a1 + (1 : Int))).toNat).length) * 48 ≤ 140737488355328)) (some ((([] : List Task) ++ ((a0.take a1.toNat).drop (0 : Int).toNat)) ++ ((a0.take (a0.length : Int).toNat).drop (wr (a1 + (1 : Int))).toNat))))))
theorem part_without_api_Task_w (a0 : List Task) (a1 : Int) (r : List Task) (h : part_without_api_Task a0 a1 = some r) : Go.VC.Spec Tryz.prog 98 [.d (.sl (a0.map Task.enc)), .d (.int .i64 a1)] (fun y => y = E_ListTask r) := by
  refine Go.VC.Spec.of_xc (args := [.d (.sl (a0.map Task.enc)), .d (.int .i64 a1)]) (fn := Tryz.f98) tab ⟨[(0, [0, 1]), (1, [4])], [], [], []⟩ 15 [.tmp 4] rfl rfl rfl rfl rfl rfl ?_
  conv => whnf
  refine ⟨9, ?_⟩
  conv => whnf
  refine liS ([] : List Task) Task.enc rfl rfl ?_
  conv => whnf
  refine slS (enc := Task.enc) h rfl rfl (.inl rfl) (fun _ => rfl) (fun h => ?_)
  conv => whnf
  refine apS (enc := Task.enc) (l1 := ([] : List Task)) (l2 := (a0.take a1.toNat).drop (0 : Int).toNat) h rfl rfl (fun _ => rfl) (fun h => ?_)
  conv => whnf
  refine slS (enc := Task.enc) h rfl rfl (.inl rfl) (fun _ => rfl) (fun h => ?_)
  conv => whnf
  refine drS (by kernel_rfl) ?_
  conv => whnf
  refine apS (enc := Task.enc) (l1 := ([] : List Task) ++ ((a0.take a1.toNat).drop (0 : Int).toNat)) (l2 := (a0.take (a0.length : Int).toNat).drop (wr (a1 + (1 : Int))).toNat) h rfl rfl (fun _ => rfl) (fun h => ?_)
  conv => whnf
  exact rt (E := E_ListTask) h rfl

end Go.Proofs.YtfnaclhllopoeaaGreat
namespace Go.Proofs.YtfnaclhllopoeaaGreat
open Go Go.VC
noncomputable def part_without_bool (a0 : List Bool) (a1 : Int) : Option (List Bool) :=
  ck (decide ((0 : Int) ≤ (0 : Int)) && decide ((0 : Int) ≤ a1) && decide (a1 ≤ (a0.length : Int))) (ck (decide ((([] : List Bool).length + ((a0.take a1.toNat).drop (0 : Int).toNat).length) * 1 ≤ 140737488355328)) (ck (decide ((0 : Int) ≤ (wr (a1 + (1 : Int)))) && decide ((wr (a1 + (1 : Int))) ≤ (a0.length : Int)) && decide ((a0.length : Int) ≤ (a0.length : Int))) (ck (decide (((([] : List Bool) ++ ((a0.take a1.toNat).drop (0 : Int).toNat)).length + ((a0.take (a0.length : Int).toNat).drop (wr (a1 + (1 : Int))).toNat).length) * 1 ≤ 140737488355328)) (some ((([] : List Bool) ++ ((a0.take a1.toNat).drop (0 : Int).toNat)) ++ ((a0.take (a0.length : Int).toNat).drop (wr (a1 + (1 : Int))).toNat))))))
theorem part_without_bool_w (a0 : List Bool) (a1 : Int) (r : List Bool) (h : part_without_bool a0 a1 = some r) : Go.VC.Spec Tryz.prog 99 [.d (.sl (a0.map eB)), .d (.int .i64 a1)] (fun y => y = E_ListBool r) := by
  refine Go.VC.Spec.of_xc (args := [.d (.sl (a0.map eB)), .d (.int .i64 a1)]) (fn := Tryz.f99) tab ⟨[(0, [0, 1]), (1, [4])], [], [], []⟩ 15 [.tmp 4] rfl rfl rfl rfl rfl rfl ?_
  conv => whnf
  refine ⟨9, ?_⟩
  conv => whnf
  refine liS ([] : List Bool) eB rfl rfl ?_
  conv => whnf
  refine slS (enc := eB) h rfl rfl (.inl rfl) (fun _ => rfl) (fun h => ?_)
  conv => whnf
  refine apS (enc := eB) (l1 := ([] : List Bool)) (l2 := (a0.take a1.toNat).drop (0 : Int).toNat) h rfl rfl (fun _ => rfl) (fun h => ?_)
  conv => whnf
  refine slS (enc := eB) h rfl rfl (.inl rfl) (fun _ => rfl) (fun h => ?_)
  conv => whnf
  refine drS (by kernel_rfl) ?_
  conv => whnf
  refine apS (enc := eB) (l1 := ([] : List Bool) ++ ((a0.take a1.toNat).drop (0 : Int).toNat)) (l2 := (a0.take (a0.length : Int).toNat).drop (wr (a1 + (1 : Int))).toNat) h rfl rfl (fun _ => rfl) (fun h => ?_)
  conv => whnf
  exact rt (E := E_ListBool) h rfl

end Go.Proofs.YtfnaclhllopoeaaGreat
namespace Go.Proofs.YtfnaclhllopoeaaGreat
open Go Go.VC
noncomputable def part_without_int (a0 : List Int) (a1 : Int) : Option (List Int) :=
  ck (decide ((0 : Int) ≤ (0 : Int)) && decide ((0 : Int) ≤ a1) && decide (a1 ≤ (a0.length : Int))) (ck (decide ((([] : List Int).length + ((a0.take a1.toNat).drop (0 : Int).toNat).length) * 8 ≤ 140737488355328)) (ck (decide ((0 : Int) ≤ (wr (a1 + (1 : Int)))) && decide ((wr (a1 + (1 : Int))) ≤ (a0.length : Int)) && decide ((a0.length : Int) ≤ (a0.length : Int))) (ck (decide (((([] : List Int) ++ ((a0.take a1.toNat).drop (0 : Int).toNat)).length + ((a0.take (a0.length : Int).toNat).drop (wr (a1 + (1 : Int))).toNat).length) * 8 ≤ 140737488355328)) (some ((([] : List Int) ++ ((a0.take a1.toNat).drop (0 : Int).toNat)) ++ ((a0.take (a0.length : Int).toNat).drop (wr (a1 + (1 : Int))).toNat))))))
theorem part_without_int_w (a0 : List Int) (a1 : Int) (r : List Int) (h : part_without_int a0 a1 = some r) : Go.VC.Spec Tryz.prog 100 [.d (.sl (a0.map (eI .i64))), .d (.int .i64 a1)] (fun y => y = E_ListInt r) := by
  refine Go.VC.Spec.of_xc (args := [.d (.sl (a0.map (eI .i64))), .d (.int .i64 a1)]) (fn := Tryz.f100) tab ⟨[(0, [0, 1]), (1, [4])], [], [], []⟩ 15 [.tmp 4] rfl rfl rfl rfl rfl rfl ?_
  conv => whnf
  refine ⟨9, ?_⟩
  conv => whnf
  refine liS ([] : List Int) (eI .i64) rfl rfl ?_
  conv => whnf
  refine slS (enc := (eI .i64)) h rfl rfl (.inl rfl) (fun _ => rfl) (fun h => ?_)
  conv => whnf
  refine apS (enc := (eI .i64)) (l1 := ([] : List Int)) (l2 := (a0.take a1.toNat).drop (0 : Int).toNat) h rfl rfl (fun _ => rfl) (fun h => ?_)
  conv => whnf
  refine slS (enc := (eI .i64)) h rfl rfl (.inl rfl) (fun _ => rfl) (fun h => ?_)
  conv => whnf
  refine drS (by kernel_rfl) ?_
  conv => whnf
  refine apS (enc := (eI .i64)) (l1 := ([] : List Int) ++ ((a0.take a1.toNat).drop (0 : Int).toNat)) (l2 := (a0.take (a0.length : Int).toNat).drop (wr (a1 + (1 : Int))).toNat) h rfl rfl (fun _ => rfl) (fun h => ?_)
  conv => whnf
  exact rt (E := E_ListInt) h rfl

end Go.Proofs.YtfnaclhllopoeaaGreat
namespace Go.Proofs.YtfnaclhllopoeaaGreat
open Go Go.VC
noncomputable def part_Tick (a0 : PartState) (a1 : Bool) (a2 : Int) : Option (PartState × Int × Int) :=
  jn (fun (w1 : Bool) => fk w1 (some (a0, (-1 : Int), (1 : Int))) (ck (decide ((([] : List Entry).length + a0.Log.length) * 24 ≤ 140737488355328)) (lp (fun nx4 (v4 : (List Job) × (List Entry) × Int) => fk (decide (v4.2.2 < (a0.Jobs.length : Int))) (jn (fun (w5 : (List Job) × (List Entry)) => nx4 (w5.1, w5.2, (wr (v4.2.2 + (1 : Int))))) (fun k5 => ix a0.Jobs v4.2.2 fun x6 => fk (decide (x6.Due > a2)) (ck (decide ((v4.1.length + ([x6] : List Job).length) * 48 ≤ 140737488355328)) (k5 (v4.1 ++ ([x6] : List Job), v4.2.1))) (fk (decide ((v4.2.1.length : Int) < (2000 : Int))) (ck (decide ((v4.2.1.length + ([⟨a2, (6 : Int), x6.Task⟩] : List Entry).length) * 24 ≤ 140737488355328)) (k5 (v4.1, v4.2.1 ++ ([⟨a2, (6 : Int), x6.Task⟩] : List Entry)))) (k5 (v4.1, v4.2.1))))) (jn (fun (w7 : (List Job) × (List Entry) × Int) => jn (fun (w11 : (List Task) × (List Bool) × (List Int) × (List Entry)) => some (⟨w11.1, w11.2.1, w11.2.2.1, w7.1, w11.2.2.2⟩, w7.2.2, (0 : Int))) (fun k11 => fk (decide ((w7.1.length : Int) = (0 : Int))) (lp (fun nx12 (v12 : (List Task) × (List Bool) × (List Int) × (List Entry) × Int) => fk (decide (v12.2.2.2.2 ≥ (0 : Int))) (jn (fun (w13 : (List Task) × (List Bool) × (List Int) × (List Entry)) => nx12 (w13.1, w13.2.1, w13.2.2.1, w13.2.2.2, (wr (v12.2.2.2.2 - (1 : Int))))) (fun k13 => ix v12.2.1 v12.2.2.2.2 fun x14 => fk x14 (bnd (part_without_api_Task v12.1 v12.2.2.2.2) fun x15 => bnd (part_without_bool v12.2.1 v12.2.2.2.2) fun x16 => bnd (part_without_int v12.2.2.1 v12.2.2.2.2) fun x17 => fk (decide ((v12.2.2.2.1.length : Int) < (2000 : Int))) (ck (decide ((v12.2.2.2.1.length + ([⟨a2, (7 : Int), v12.2.2.2.2⟩] : List Entry).length) * 24 ≤ 140737488355328)) (k13 (x15, x16, x17, v12.2.2.2.1 ++ ([⟨a2, (7 : Int), v12.2.2.2.2⟩] : List Entry)))) (k13 (x15, x16, x17, v12.2.2.2.1))) (k13 (v12.1, v12.2.1, v12.2.2.1, v12.2.2.2.1)))) (k11 (v12.1, v12.2.1, v12.2.2.1, v12.2.2.2.1))) FU (a0.Tasks, a0.Leaves, a0.Lasts, w7.2.1, (wr ((a0.Tasks.length : Int) - (1 : Int))))) (k11 (a0.Tasks, a0.Leaves, a0.Lasts, w7.2.1)))) (fun k7 => fk a1 (bnd (srp_Tick a0.Tasks v4.1) fun x8 => fk (decide ((v4.1.length : Int) = (0 : Int))) (k7 (v4.1, v4.2.1, (-1 : Int))) (jn (fun (w9 : Bool) => fk w9 (fk (decide ((v4.2.1.length : Int) < (2000 : Int))) (ck (decide ((v4.2.1.length + ([⟨a2, (5 : Int), x8.2.1.Task⟩] : List Entry).length) * 24 ≤ 140737488355328)) (k7 (x8.1, v4.2.1 ++ ([⟨a2, (5 : Int), x8.2.1.Task⟩] : List Entry), x8.2.1.Task))) (k7 (x8.1, v4.2.1, x8.2.1.Task))) (fk x8.2.2 (fk (decide ((v4.2.1.length : Int) < (2000 : Int))) (ck (decide ((v4.2.1.length + ([⟨a2, (4 : Int), x8.2.1.Task⟩] : List Entry).length) * 24 ≤ 140737488355328)) (k7 (x8.1, v4.2.1 ++ ([⟨a2, (4 : Int), x8.2.1.Task⟩] : List Entry), x8.2.1.Task))) (k7 (x8.1, v4.2.1, x8.2.1.Task))) (k7 (x8.1, v4.2.1, x8.2.1.Task)))) (fun k9 => fk x8.2.2 (ix a0.Tasks x8.2.1.Task fun x10 => k9 (decide (x8.2.1.Want > x10.C))) (k9 false)))) (k7 (v4.1, v4.2.1, (-1 : Int)))))) FU ([], ([] : List Entry) ++ a0.Log, (0 : Int))))) (fun k1 => bnd (part_Right a0) fun x2 => fk (!x2) (k1 true) (bnd (part_when a2) fun x3 => k1 (!x3)))
theorem part_Tick_w (a0 : PartState) (a1 : Bool) (a2 : Int) (r : PartState × Int × Int) (h : part_Tick a0 a1 a2 = some r) : Go.VC.Spec Tryz.prog 35 [.agg (PartState.enc a0), .d (.bool a1), .d (.int .i64 a2)] (fun y => y = E_PartState_Int_Int r) := by
  refine Go.VC.Spec.of_xc (args := [.agg (PartState.enc a0), .d (.bool a1), .d (.int .i64 a2)]) (fn := Tryz.f35) tab ⟨[(0, [1, 2, 3, 6]), (1, [1, 2, 3, 6, 18]), (2, [6, 7, 8]), (3, [1, 6, 9]), (4, [1, 6, 9]), (5, [1, 6, 9, 10]), (6, [6, 9, 10, 25]), (7, [6, 9, 10]), (8, [6, 9, 10, 34]), (9, [6, 9, 10]), (10, [6, 7, 8])], [], [100018, 10, 8], []⟩ 40 [.cell 6 93, .tmp 7, .tmp 8] rfl rfl rfl rfl rfl rfl ?_
  conv => whnf
  refine jnS (fun w1 => ⟨[(1, .l (.d (.bool a1))), (2, .l (.d (.int .i64 a2))), (3, .l (.ptr 4 0)), (6, .l (.ptr 7 0)), (18, .l (.d (.bool w1)))], 40, [], [(4, [.d (.sl (a0.Tasks.map Task.enc)), .d (.sl (a0.Leaves.map eB)), .d (.sl (a0.Lasts.map (eI .i64))), .d (.sl (a0.Jobs.map Job.enc)), .d (.sl (a0.Log.map Entry.enc))]), (7, [.nil, .nil, .nil, .nil, .nil])], []⟩) h (fun k1 hk1 h => ?_) (fun w1 h => ?_)
  · conv => whnf
    refine caS (E := E_Bool) h (part_Right_w a0) rfl (fun _ => rfl) (fun x2 h => ?_)
    conv => whnf
    refine fkS h (fun h => ?_) (fun h => ?_)
    · conv => whnf
      exact jeS hk1 h (Weak.refl _)
    conv => whnf
    refine caS (E := E_Bool) h (part_when_w a2) rfl (fun _ => rfl) (fun x3 h => ?_)
    conv => whnf
    exact jeS hk1 h (Weak.refl _)
  conv => whnf
  refine fkS h (fun h => ?_) (fun h => ?_)
  · conv => whnf
    exact rt (E := E_PartState_Int_Int) h rfl
  conv => whnf
  refine inS (fn := Tryz.f68) tab ⟨[(0, [1, 2]), (1, [4])], [], [], []⟩ 14 [.tmp 4] rfl rfl rfl rfl rfl rfl ?_
  conv => whnf
  refine ⟨7, ?_⟩
  conv => whnf
  refine liS ([] : List Entry) Entry.enc rfl rfl ?_
  conv => whnf
  refine apS (enc := Entry.enc) (l1 := ([] : List Entry)) (l2 := a0.Log) h rfl rfl (fun _ => rfl) (fun h => ?_)
  conv => whnf
  refine drS (by kernel_rfl) ?_
  conv => whnf
  refine inS (fn := Tryz.f69) tab ⟨[(0, [0, 2]), (1, [0, 2, 9, 10, 11]), (2, [0, 2, 9, 10, 11, 12]), (3, [0, 2, 4, 9, 10, 11]), (4, [0, 2, 4, 9, 10, 11, 22]), (5, [0, 2, 9, 10, 11]), (6, [0, 2, 9, 10, 11]), (7, [0, 2, 9, 10, 11]), (8, [])], [], [7], []⟩ 39 [] rfl rfl rfl rfl rfl rfl ?_
  conv => whnf
  refine lenS a0.Jobs Job.enc rfl ?_
  conv => whnf
  refine lpS (fun v4 => ⟨[(0, .l (.ptr 1014 0)), (2, .l (.own 1003)), (9, .l (.d (.sl (a0.Jobs.map Job.enc)))), (10, .l (.d (.int .i64 (a0.Jobs.length : Int)))), (11, .l (.d (.int .i64 v4.2.2)))], 39, [⟨[(23, .l (.ptr 1014 0)), (1, .l (.d (.bool a1))), (6, .l (.ptr 7 0)), (9, .l (.ptr 1014 0))], 40⟩], [(7, [.nil, .nil, .nil, .nil, .nil]), (1014, [.own 1009, .d (.int .i64 a2), .d (.sl (a0.Tasks.map Task.enc)), .d (.sl (a0.Leaves.map eB)), .d (.sl (a0.Lasts.map (eI .i64))), .d (.sl (a0.Jobs.map Job.enc)), .d (.sl (a0.Log.map Entry.enc))])], [(1003, 175, 6, v4.1.map Job.enc), (1009, 58, 3, v4.2.1.map Entry.enc)]⟩) h (Weak.trans (Weak.nilO _ 2 1003 175 6 rfl) (Weak.refl _)) (fun _ nx4 hn4 v4 h => ?_)
  conv => whnf
  refine fkS h (fun h => ?_) (fun h => ?_)
  · conv => whnf
    refine jnS (fun w5 => ⟨[(0, .l (.ptr 1014 0)), (2, .l (.own 1003)), (9, .l (.d (.sl (a0.Jobs.map Job.enc)))), (10, .l (.d (.int .i64 (a0.Jobs.length : Int)))), (11, .l (.d (.int .i64 v4.2.2)))], 39, [⟨[(23, .l (.ptr 1014 0)), (1, .l (.d (.bool a1))), (6, .l (.ptr 7 0)), (9, .l (.ptr 1014 0))], 40⟩], [(7, [.nil, .nil, .nil, .nil, .nil]), (1014, [.own 1009, .d (.int .i64 a2), .d (.sl (a0.Tasks.map Task.enc)), .d (.sl (a0.Leaves.map eB)), .d (.sl (a0.Lasts.map (eI .i64))), .d (.sl (a0.Jobs.map Job.enc)), .d (.sl (a0.Log.map Entry.enc))])], [(1003, 175, 6, w5.1.map Job.enc), (1009, 58, 3, w5.2.map Entry.enc)]⟩) h (fun k5 hk5 h => ?_) (fun w5 h => ?_)
    · conv => whnf
      refine ixS (enc := Job.enc) h rfl (fun _ => rfl) (fun x6 h => ?_)
      conv => whnf
      refine ⟨7, ?_⟩
      conv => whnf
      refine drS (by kernel_rfl) ?_
      conv => whnf
      refine fkS h (fun h => ?_) (fun h => ?_)
      · conv => whnf
        refine liS ([x6] : List Job) Job.enc rfl rfl ?_
        conv => whnf
        refine apS (enc := Job.enc) (l1 := v4.1) (l2 := ([x6] : List Job)) h rfl rfl (fun _ => rfl) (fun h => ?_)
        conv => whnf
        exact jeS hk5 h (Weak.refl _)
      conv => whnf
      refine ⟨5, ?_⟩
      conv => whnf
      refine drS (by kernel_rfl) ?_
      conv => whnf
      refine inS (fn := Tryz.f91) tab ⟨[(0, [0, 1, 2, 11]), (1, [])], [], [], []⟩ 28 [] rfl rfl rfl rfl rfl rfl ?_
      conv => whnf
      refine lenS v4.2.1 Entry.enc rfl ?_
      conv => whnf
      refine fkS h (fun h => ?_) (fun h => ?_)
      · conv => whnf
        refine ⟨14, ?_⟩
        conv => whnf
        refine liS ([⟨a2, (6 : Int), x6.Task⟩] : List Entry) Entry.enc rfl rfl ?_
        conv => whnf
        refine apS (enc := Entry.enc) (l1 := v4.2.1) (l2 := ([⟨a2, (6 : Int), x6.Task⟩] : List Entry)) h rfl rfl (fun _ => rfl) (fun h => ?_)
        conv => whnf
        refine drS (by kernel_rfl) ?_
        conv => whnf
        refine jeX hk5 h ?_
        conv => whnf
        refine WkF.step (Weak.rekey _ 2026 1009 rfl) ?_
        conv => whnf
        exact WkF.refl _
      conv => whnf
      exact jeS hk5 h (Weak.refl _)
    conv => whnf
    exact leS hn4 h (Weak.refl _)
  conv => whnf
  refine jnS (fun w7 => ⟨[(6, .l (.ptr 7 0)), (9, .l (.ptr 1014 0)), (10, .l (.d (.int .i64 w7.2.2)))], 40, [], [(7, [.nil, .nil, .nil, .nil, .nil]), (1014, [.own 1009, .d (.int .i64 a2), .d (.sl (a0.Tasks.map Task.enc)), .d (.sl (a0.Leaves.map eB)), .d (.sl (a0.Lasts.map (eI .i64))), .d (.sl (w7.1.map Job.enc)), .d (.sl (a0.Log.map Entry.enc))])], [(1009, 58, 3, w7.2.1.map Entry.enc)]⟩) h (fun k7 hk7 h => ?_) (fun w7 h => ?_)
  · conv => whnf
    refine fkS h (fun h => ?_) (fun h => ?_)
    · conv => whnf
      refine inS (fn := Tryz.f70) tab ⟨[(0, [0]), (1, [0, 3, 4, 5]), (2, [0, 3, 4, 5, 27]), (3, [2]), (4, [0, 4, 5]), (5, [0, 4, 5, 33]), (6, [4]), (7, [0, 4, 56]), (8, [4]), (9, [2])], [(0, [1003])], [100033], []⟩ 66 [.tmp 2] rfl rfl rfl rfl rfl rfl ?_
      conv => whnf
      refine ⟨18, ?_⟩
      conv => whnf
      refine dcS (E := E_ListJob_Job_Bool) h (srp_Tick_w a0.Tasks v4.1) rfl (fun x8 h => ?_)
      conv => whnf
      refine drS (by kernel_rfl) ?_
      conv => whnf
      refine lenS v4.1 Job.enc rfl ?_
      conv => whnf
      refine fkS h (fun h => ?_) (fun h => ?_)
      · conv => whnf
        exact jeS hk7 h (Weak.refl _)
      conv => whnf
      refine jnS (fun w9 => ⟨[(0, .l (.ptr 1014 0)), (4, .l (.ptr 1005 0)), (5, .l (.d (.bool x8.2.2))), (33, .l (.d (.bool w9)))], 66, [⟨[(26, .l (.ptr 1014 0)), (25, .l (.d (.bool true))), (6, .l (.ptr 7 0)), (9, .l (.ptr 1014 0)), (10, .l (.d (.int .i64 (-1 : Int)))), (25, .l (.d (.bool a1)))], 40⟩], [(7, [.nil, .nil, .nil, .nil, .nil]), (1005, [.d (.int .i64 x8.2.1.Task), .d (.int .i64 x8.2.1.At), .d (.int .i64 x8.2.1.Due), .d (.int .i64 x8.2.1.Want), .d (.int .i64 x8.2.1.Had), .d (.bool x8.2.1.Began)]), (1014, [.own 1009, .d (.int .i64 a2), .d (.sl (a0.Tasks.map Task.enc)), .d (.sl (a0.Leaves.map eB)), .d (.sl (a0.Lasts.map (eI .i64))), .d (.sl (x8.1.map Job.enc)), .d (.sl (a0.Log.map Entry.enc))])], [(1009, 58, 3, v4.2.1.map Entry.enc)]⟩) h (fun k9 hk9 h => ?_) (fun w9 h => ?_)
      · conv => whnf
        refine ⟨16, ?_⟩
        conv => whnf
        refine fkS h (fun h => ?_) (fun h => ?_)
        · conv => whnf
          refine ixS (enc := Task.enc) h rfl (fun _ => rfl) (fun x10 h => ?_)
          conv => whnf
          refine drS (by kernel_rfl) ?_
          conv => whnf
          exact jeS hk9 h (Weak.refl _)
        conv => whnf
        refine drS (by kernel_rfl) ?_
        conv => whnf
        exact jeS hk9 h (Weak.refl _)
      conv => whnf
      refine fkS h (fun h => ?_) (fun h => ?_)
      · conv => whnf
        refine ⟨5, ?_⟩
        conv => whnf
        refine drS (by kernel_rfl) ?_
        conv => whnf
        refine inS (fn := Tryz.f91) tab ⟨[(0, [0, 1, 2, 11]), (1, [])], [], [], []⟩ 28 [] rfl rfl rfl rfl rfl rfl ?_
        conv => whnf
        refine lenS v4.2.1 Entry.enc rfl ?_
        conv => whnf
        refine fkS h (fun h => ?_) (fun h => ?_)
        · conv => whnf
          refine ⟨14, ?_⟩
          conv => whnf
          refine liS ([⟨a2, (5 : Int), x8.2.1.Task⟩] : List Entry) Entry.enc rfl rfl ?_
          conv => whnf
          refine apS (enc := Entry.enc) (l1 := v4.2.1) (l2 := ([⟨a2, (5 : Int), x8.2.1.Task⟩] : List Entry)) h rfl rfl (fun _ => rfl) (fun h => ?_)
          conv => whnf
          refine drS (by kernel_rfl) ?_
          conv => whnf
          refine jeX hk7 h ?_
          conv => whnf
          refine WkF.step (Weak.rekey _ 2026 1009 rfl) ?_
          conv => whnf
          exact WkF.refl _
        conv => whnf
        exact jeS hk7 h (Weak.refl _)
      conv => whnf
      refine fkS h (fun h => ?_) (fun h => ?_)
      · conv => whnf
        refine ⟨5, ?_⟩
        conv => whnf
        refine drS (by kernel_rfl) ?_
        conv => whnf
        refine inS (fn := Tryz.f91) tab ⟨[(0, [0, 1, 2, 11]), (1, [])], [], [], []⟩ 28 [] rfl rfl rfl rfl rfl rfl ?_
        conv => whnf
        refine lenS v4.2.1 Entry.enc rfl ?_
        conv => whnf
        refine fkS h (fun h => ?_) (fun h => ?_)
        · conv => whnf
          refine ⟨14, ?_⟩
          conv => whnf
          refine liS ([⟨a2, (4 : Int), x8.2.1.Task⟩] : List Entry) Entry.enc rfl rfl ?_
          conv => whnf
          refine apS (enc := Entry.enc) (l1 := v4.2.1) (l2 := ([⟨a2, (4 : Int), x8.2.1.Task⟩] : List Entry)) h rfl rfl (fun _ => rfl) (fun h => ?_)
          conv => whnf
          refine drS (by kernel_rfl) ?_
          conv => whnf
          refine jeX hk7 h ?_
          conv => whnf
          refine WkF.step (Weak.rekey _ 2026 1009 rfl) ?_
          conv => whnf
          exact WkF.refl _
        conv => whnf
        exact jeS hk7 h (Weak.refl _)
      conv => whnf
      exact jeS hk7 h (Weak.refl _)
    conv => whnf
    refine jeX hk7 h ?_
    conv => whnf
    refine WkF.step (Weak.keepS _ [6, 9, 10]) ?_
    conv => whnf
    refine WkF.step (Weak.ice _ 1003) ?_
    conv => whnf
    exact WkF.refl _
  conv => whnf
  refine jnS (fun w11 => ⟨[(6, .l (.ptr 7 0)), (9, .l (.ptr 1014 0)), (10, .l (.d (.int .i64 w7.2.2)))], 40, [], [(7, [.nil, .nil, .nil, .nil, .nil]), (1014, [.own 1009, .d (.int .i64 a2), .d (.sl (w11.1.map Task.enc)), .d (.sl (w11.2.1.map eB)), .d (.sl (w11.2.2.1.map (eI .i64))), .d (.sl (w7.1.map Job.enc)), .d (.sl (a0.Log.map Entry.enc))])], [(1009, 58, 3, w11.2.2.2.map Entry.enc)]⟩) h (fun k11 hk11 h => ?_) (fun w11 h => ?_)
  · conv => whnf
    refine lenS w7.1 Job.enc rfl ?_
    conv => whnf
    refine fkS h (fun h => ?_) (fun h => ?_)
    · conv => whnf
      refine inS (fn := Tryz.f71) tab ⟨[(0, [0, 2]), (1, [0, 2, 11]), (2, [0, 2]), (3, [0, 2, 21]), (4, [0, 2]), (5, [0, 2])], [], [2], []⟩ 60 [] rfl rfl rfl rfl rfl rfl ?_
      conv => whnf
      refine lenS a0.Tasks Task.enc rfl ?_
      conv => whnf
      refine lpS (fun v12 => ⟨[(0, .l (.ptr 1014 0)), (2, .l (.d (.int .i64 v12.2.2.2.2)))], 60, [⟨[(35, .l (.ptr 1014 0)), (34, .l (.d (.bool true))), (6, .l (.ptr 7 0)), (9, .l (.ptr 1014 0)), (10, .l (.d (.int .i64 w7.2.2))), (34, .l (.d (.bool (decide ((w7.1.length : Int) = (0 : Int))))))], 40⟩], [(7, [.nil, .nil, .nil, .nil, .nil]), (1014, [.own 1009, .d (.int .i64 a2), .d (.sl (v12.1.map Task.enc)), .d (.sl (v12.2.1.map eB)), .d (.sl (v12.2.2.1.map (eI .i64))), .d (.sl (w7.1.map Job.enc)), .d (.sl (a0.Log.map Entry.enc))])], [(1009, 58, 3, v12.2.2.2.1.map Entry.enc)]⟩) h (Weak.refl _) (fun _ nx12 hn12 v12 h => ?_)
      conv => whnf
      refine fkS h (fun h => ?_) (fun h => ?_)
      · conv => whnf
        refine jnS (fun w13 => ⟨[(0, .l (.ptr 1014 0)), (2, .l (.d (.int .i64 v12.2.2.2.2)))], 60, [⟨[(35, .l (.ptr 1014 0)), (34, .l (.d (.bool true))), (6, .l (.ptr 7 0)), (9, .l (.ptr 1014 0)), (10, .l (.d (.int .i64 w7.2.2))), (34, .l (.d (.bool (decide ((w7.1.length : Int) = (0 : Int))))))], 40⟩], [(7, [.nil, .nil, .nil, .nil, .nil]), (1014, [.own 2026, .d (.int .i64 a2), .d (.sl (w13.1.map Task.enc)), .d (.sl (w13.2.1.map eB)), .d (.sl (w13.2.2.1.map (eI .i64))), .d (.sl (w7.1.map Job.enc)), .d (.sl (a0.Log.map Entry.enc))])], [(2026, 58, 3, w13.2.2.2.map Entry.enc)]⟩) h (fun k13 hk13 h => ?_) (fun w13 h => ?_)
        · conv => whnf
          refine ixS (enc := eB) h rfl (fun _ => rfl) (fun x14 h => ?_)
          conv => whnf
          refine fkS h (fun h => ?_) (fun h => ?_)
          · conv => whnf
            refine ⟨32, ?_⟩
            conv => whnf
            refine dcS (E := E_ListTask) h (part_without_api_Task_w v12.1 v12.2.2.2.2) rfl (fun x15 h => ?_)
            conv => whnf
            refine dcS (E := E_ListBool) h (part_without_bool_w v12.2.1 v12.2.2.2.2) rfl (fun x16 h => ?_)
            conv => whnf
            refine dcS (E := E_ListInt) h (part_without_int_w v12.2.2.1 v12.2.2.2.2) rfl (fun x17 h => ?_)
            conv => whnf
            refine drS (by kernel_rfl) ?_
            conv => whnf
            refine inS (fn := Tryz.f91) tab ⟨[(0, [0, 1, 2, 11]), (1, [])], [], [], []⟩ 28 [] rfl rfl rfl rfl rfl rfl ?_
            conv => whnf
            refine lenS v12.2.2.2.1 Entry.enc rfl ?_
            conv => whnf
            refine fkS h (fun h => ?_) (fun h => ?_)
            · conv => whnf
              refine ⟨14, ?_⟩
              conv => whnf
              refine liS ([⟨a2, (7 : Int), v12.2.2.2.2⟩] : List Entry) Entry.enc rfl rfl ?_
              conv => whnf
              refine apS (enc := Entry.enc) (l1 := v12.2.2.2.1) (l2 := ([⟨a2, (7 : Int), v12.2.2.2.2⟩] : List Entry)) h rfl rfl (fun _ => rfl) (fun h => ?_)
              conv => whnf
              refine drS (by kernel_rfl) ?_
              conv => whnf
              exact jeS hk13 h (Weak.refl _)
            conv => whnf
            refine jeX hk13 h ?_
            conv => whnf
            refine WkF.step (Weak.rekey _ 1009 2026 rfl) ?_
            conv => whnf
            exact WkF.refl _
          conv => whnf
          refine jeX hk13 h ?_
          conv => whnf
          refine WkF.step (Weak.keepS _ [0, 2]) ?_
          conv => whnf
          refine WkF.step (Weak.rekey _ 1009 2026 rfl) ?_
          conv => whnf
          exact WkF.refl _
        conv => whnf
        refine leX hn12 h ?_
        conv => whnf
        refine WkF.step (Weak.rekey _ 2026 1009 rfl) ?_
        conv => whnf
        exact WkF.refl _
      conv => whnf
      exact jeS hk11 h (Weak.refl _)
    conv => whnf
    refine jeX hk11 h ?_
    conv => whnf
    refine WkF.step (Weak.keepS _ [6, 9, 10]) ?_
    conv => whnf
    exact WkF.refl _
  conv => whnf
  refine inS (fn := Tryz.f72) tab ⟨[(0, [0, 2]), (1, [0, 2]), (2, [2])], [], [], []⟩ 16 [.cell 2 93] rfl rfl rfl rfl rfl rfl ?_
  conv => whnf
  exact rt (E := E_PartState_Int_Int) h rfl

end Go.Proofs.YtfnaclhllopoeaaGreat
namespace Go.Proofs.YtfnaclhllopoeaaGreat
open Go Go.VC
noncomputable def ref05_Same (a0 : Task) (a1 : Task) : Option Bool :=
  lp (fun nx1 (v1 : Int) => jn (fun (w2 : Bool) => fk w2 (ix a0.Secs v1 fun x3 => ix a1.Secs v1 fun x4 => fk (!(eqI [.i .i64 x3.Res, .i .i64 x3.At, .i .i64 x3.Len] [.i .i64 x4.Res, .i .i64 x4.At, .i .i64 x4.Len])) (some false) (nx1 (wr (v1 + (1 : Int))))) (fk (decide (a0.C = a1.C)) (fk (decide (a0.D = a1.D)) (fk (decide (a0.T = a1.T)) (some (decide ((a0.Secs.length : Int) = (a1.Secs.length : Int)))) (some false)) (some false)) (some false))) (fun k2 => fk (decide (v1 < (a0.Secs.length : Int))) (k2 (decide (v1 < (a1.Secs.length : Int)))) (k2 false))) FU (0 : Int)
theorem ref05_Same_w (a0 : Task) (a1 : Task) (r : Bool) (h : ref05_Same a0 a1 = some r) : Go.VC.Spec Tryz.prog 28 [.agg (Task.enc a0), .agg (Task.enc a1)] (fun y => y = E_Bool r) := by
  refine Go.VC.Spec.of_xc (args := [.agg (Task.enc a0), .agg (Task.enc a1)]) (fn := Tryz.f28) tab ⟨[(0, [2, 3]), (1, [2, 3, 5]), (2, [2, 3, 5, 17]), (3, [2, 3, 5]), (4, [2, 3, 5, 30]), (5, [4]), (6, [4])], [], [100017], []⟩ 59 [.tmp 4] rfl rfl rfl rfl rfl rfl ?_
  conv => whnf
  refine lpS (fun v1 => ⟨[(2, .l (.ptr 3 0)), (3, .l (.ptr 4 0)), (5, .l (.d (.int .i64 v1)))], 59, [], [(3, [.d (.int .i64 a0.C), .d (.int .i64 a0.D), .d (.int .i64 a0.T), .d (.sl (a0.Secs.map Sec.enc))]), (4, [.d (.int .i64 a1.C), .d (.int .i64 a1.D), .d (.int .i64 a1.T), .d (.sl (a1.Secs.map Sec.enc))])], []⟩) h (Weak.refl _) (fun _ nx1 hn1 v1 h => ?_)
  conv => whnf
  refine jnS (fun w2 => ⟨[(2, .l (.ptr 3 0)), (3, .l (.ptr 4 0)), (5, .l (.d (.int .i64 v1))), (17, .l (.d (.bool w2)))], 59, [], [(3, [.d (.int .i64 a0.C), .d (.int .i64 a0.D), .d (.int .i64 a0.T), .d (.sl (a0.Secs.map Sec.enc))]), (4, [.d (.int .i64 a1.C), .d (.int .i64 a1.D), .d (.int .i64 a1.T), .d (.sl (a1.Secs.map Sec.enc))])], []⟩) h (fun k2 hk2 h => ?_) (fun w2 h => ?_)
  · conv => whnf
    refine lenS a0.Secs Sec.enc rfl ?_
    conv => whnf
    refine fkS h (fun h => ?_) (fun h => ?_)
    · conv => whnf
      refine lenS a1.Secs Sec.enc rfl ?_
      conv => whnf
      exact jeS hk2 h (Weak.refl _)
    conv => whnf
    exact jeS hk2 h (Weak.refl _)
  conv => whnf
  refine fkS h (fun h => ?_) (fun h => ?_)
  · conv => whnf
    refine ⟨10, ?_⟩
    conv => whnf
    refine ixS (enc := Sec.enc) h rfl (fun _ => rfl) (fun x3 h => ?_)
    conv => whnf
    refine ixS (enc := Sec.enc) h rfl (fun _ => rfl) (fun x4 h => ?_)
    conv => whnf
    refine drS (by kernel_rfl) ?_
    conv => whnf
    refine fkS h (fun h => ?_) (fun h => ?_)
    · conv => whnf
      exact rt (E := E_Bool) h rfl
    conv => whnf
    exact leS hn1 h (Weak.refl _)
  conv => whnf
  refine fkS h (fun h => ?_) (fun h => ?_)
  · conv => whnf
    refine fkS h (fun h => ?_) (fun h => ?_)
    · conv => whnf
      refine fkS h (fun h => ?_) (fun h => ?_)
      · conv => whnf
        refine lenS a0.Secs Sec.enc rfl ?_
        conv => whnf
        refine lenS a1.Secs Sec.enc rfl ?_
        conv => whnf
        exact rt (E := E_Bool) h rfl
      conv => whnf
      exact rt (E := E_Bool) h rfl
    conv => whnf
    exact rt (E := E_Bool) h rfl
  conv => whnf
  exact rt (E := E_Bool) h rfl

end Go.Proofs.YtfnaclhllopoeaaGreat
namespace Go.Proofs.YtfnaclhllopoeaaGreat
open Go Go.VC
noncomputable def ref05_SameAll (a0 : List Task) (a1 : List Task) : Option Bool :=
  fk (!decide ((a0.length : Int) = (a1.length : Int))) (some false) (lp (fun nx1 (v1 : Int) => fk (decide (v1 < (a0.length : Int))) (ix a0 v1 fun x2 => ix a1 v1 fun x3 => bnd (ref05_Same x2 x3) fun x4 => fk (!x4) (some false) (nx1 (wr (v1 + (1 : Int))))) (some true)) FU (0 : Int))
theorem ref05_SameAll_w (a0 : List Task) (a1 : List Task) (r : Bool) (h : ref05_SameAll a0 a1 = some r) : Go.VC.Spec Tryz.prog 18 [.d (.sl (a0.map Task.enc)), .d (.sl (a1.map Task.enc))] (fun y => y = E_Bool r) := by
  refine Go.VC.Spec.of_xc (args := [.d (.sl (a0.map Task.enc)), .d (.sl (a1.map Task.enc))]) (fn := Tryz.f18) tab ⟨[(0, [0, 1]), (1, [0, 1, 10]), (2, [4]), (3, [0, 1, 5]), (4, [0, 1, 5, 14]), (5, [0, 1, 5]), (6, [0, 1, 5, 26]), (7, [4]), (8, [4])], [], [], []⟩ 27 [.tmp 4] rfl rfl rfl rfl rfl rfl ?_
  conv => whnf
  refine lenS a0 Task.enc rfl ?_
  conv => whnf
  refine lenS a1 Task.enc rfl ?_
  conv => whnf
  refine fkS h (fun h => ?_) (fun h => ?_)
  · conv => whnf
    exact rt (E := E_Bool) h rfl
  conv => whnf
  refine lpS (fun v1 => ⟨[(0, .l (.d (.sl (a0.map Task.enc)))), (1, .l (.d (.sl (a1.map Task.enc)))), (5, .l (.d (.int .i64 v1)))], 27, [], [], []⟩) h (Weak.refl _) (fun _ nx1 hn1 v1 h => ?_)
  conv => whnf
  refine lenS a0 Task.enc rfl ?_
  conv => whnf
  refine fkS h (fun h => ?_) (fun h => ?_)
  · conv => whnf
    refine ⟨8, ?_⟩
    conv => whnf
    refine ixS (enc := Task.enc) h rfl (fun _ => rfl) (fun x2 h => ?_)
    conv => whnf
    refine ixS (enc := Task.enc) h rfl (fun _ => rfl) (fun x3 h => ?_)
    conv => whnf
    refine drS (by kernel_rfl) ?_
    conv => whnf
    refine caS (E := E_Bool) h (ref05_Same_w x2 x3) rfl (fun _ => rfl) (fun x4 h => ?_)
    conv => whnf
    refine fkS h (fun h => ?_) (fun h => ?_)
    · conv => whnf
      exact rt (E := E_Bool) h rfl
    conv => whnf
    exact leS hn1 h (Weak.refl _)
  conv => whnf
  exact rt (E := E_Bool) h rfl

end Go.Proofs.YtfnaclhllopoeaaGreat
namespace Go.Proofs.YtfnaclhllopoeaaGreat
open Go Go.VC
noncomputable def law05_Great (a0 : List Task) : Option Bool :=
  lp (fun nx1 (v1 : Int) => fk (decide (v1 < (a0.length : Int))) (ix a0 v1 fun x2 => fk (decide ((x2.Secs.length : Int) > (20 : Int))) (some true) (nx1 (wr (v1 + (1 : Int))))) (some (decide ((a0.length : Int) > (20 : Int))))) FU (0 : Int)
theorem law05_Great_w (a0 : List Task) (r : Bool) (h : law05_Great a0 = some r) : Go.VC.Spec Tryz.prog 9 [.d (.sl (a0.map Task.enc))] (fun y => y = E_Bool r) := by
  refine Go.VC.Spec.of_xc (args := [.d (.sl (a0.map Task.enc))]) (fn := Tryz.f9) tab ⟨[(0, [0]), (1, [0, 3]), (2, [0, 3, 7]), (3, [0, 3]), (4, [0, 3, 16]), (5, [2]), (6, [2])], [], [], []⟩ 20 [.tmp 2] rfl rfl rfl rfl rfl rfl ?_
  conv => whnf
  refine lpS (fun v1 => ⟨[(0, .l (.d (.sl (a0.map Task.enc)))), (3, .l (.d (.int .i64 v1)))], 20, [], [], []⟩) h (Weak.refl _) (fun _ nx1 hn1 v1 h => ?_)
  conv => whnf
  refine lenS a0 Task.enc rfl ?_
  conv => whnf
  refine fkS h (fun h => ?_) (fun h => ?_)
  · conv => whnf
    refine ixS (enc := Task.enc) h rfl (fun _ => rfl) (fun x2 h => ?_)
    conv => whnf
    refine lenS x2.Secs Sec.enc rfl ?_
    conv => whnf
    refine fkS h (fun h => ?_) (fun h => ?_)
    · conv => whnf
      exact rt (E := E_Bool) h rfl
    conv => whnf
    exact leS hn1 h (Weak.refl _)
  conv => whnf
  refine lenS a0 Task.enc rfl ?_
  conv => whnf
  exact rt (E := E_Bool) h rfl

end Go.Proofs.YtfnaclhllopoeaaGreat
namespace Go.Proofs.YtfnaclhllopoeaaGreat
open Go Go.VC

/-! ### Tasks -/
def fitsP (a b : Sec) : Prop := a.At + a.Len ≤ b.At ∨ (a.At ≤ b.At ∧ b.At + b.Len ≤ a.At + a.Len ∧ a.Res ≠ b.Res)
def secP (C : Int) (s : Sec) : Prop := 0 ≤ s.Res ∧ s.Res < 4 ∧ 0 ≤ s.At ∧ s.At < C ∧ 1 ≤ s.Len ∧ s.Len ≤ C - s.At
def ownP (t : Task) : Prop := 1 ≤ t.C ∧ t.C ≤ t.D ∧ t.D ≤ t.T ∧ t.T ≤ 200 ∧ t.Secs.length ≤ 4
def RightP (t : Task) : Prop := ownP t ∧ (∀ s ∈ t.Secs, secP t.C s) ∧ t.Secs.Pairwise fitsP
instance (a b : Sec) : Decidable (fitsP a b) := by unfold fitsP; infer_instance
instance (C : Int) (s : Sec) : Decidable (secP C s) := by unfold secP; infer_instance
instance (t : Task) : Decidable (ownP t) := by unfold ownP; infer_instance
instance (t : Task) : Decidable (RightP t) := by unfold RightP; infer_instance
def right (t : Task) : Bool := decide (RightP t)

theorem task_own_eq (t : Task) : task_own t = some (decide (ownP t)) := by
  unfold task_own
  simp only [fk_if, decide_eq_true_eq]
  repeat' split
  · exact dec_iff (by unfold ownP; omega)
  all_goals exact dec_f (by unfold ownP; omega)

theorem task_may_eq (t : Task) (s : Sec) (h : ownP t) : task_may t s = some (decide (secP t.C s)) := by
  unfold ownP at h
  unfold task_may
  simp only [fk_if, decide_eq_true_eq]
  repeat' split
  · rw [wr_in _ (by omega)]
    exact dec_iff (by unfold secP; omega)
  all_goals exact dec_f (by unfold secP; omega)

theorem task_fits_eq (C : Int) (a b : Sec) (hC : C ≤ 200) (ha : secP C a) (hb : secP C b) : task_fits a b = some (decide (fitsP a b)) := by
  unfold secP at ha hb
  unfold task_fits
  rw [wr_in _ (by omega), wr_in _ (by omega)]
  simp only [fk_if, decide_eq_true_eq]
  repeat' split
  · exact dec_t (by unfold fitsP; omega)
  · exact dec_f (by unfold fitsP; omega)
  · exact dec_not (by unfold fitsP; omega)
  · exact dec_f (by unfold fitsP; omega)

theorem task_Right_eq (t : Task) : task_Right t = some (right t) := by
  unfold task_Right
  rw [bnd_eq (task_own_eq t)]
  by_cases ho : ownP t
  rotate_left
  · simp [ho, right, RightP, fk_if]
  simp only [ho, decide_true, Bool.not_true, fk_f]
  have hlen : t.Secs.length ≤ 4 := ho.2.2.2.2
  have hC : t.C ≤ 200 := by unfold ownP at ho; omega
  refine lp_up t.Secs.length (by unfold FU; omega) (fun k => (∀ j (h : j < t.Secs.length), j < k → secP t.C t.Secs[j]) ∧ (∀ i j (hi : i < t.Secs.length) (hj : j < t.Secs.length), i < j → j < k → fitsP t.Secs[i] t.Secs[j])) ⟨fun j _ h => by omega, fun i j _ _ _ h => by omega⟩ ?_
  rintro nx k hk ⟨J1, J2⟩ hnx
  rw [lt_nat]
  by_cases h : k < t.Secs.length
  · rw [decide_eq_true h, fk_t, ix_lt h, bnd_eq (task_may_eq t _ ho)]
    by_cases hs : secP t.C t.Secs[k]
    rotate_left
    · have : right t = false := decide_eq_false fun hr => hs (hr.2.1 _ (List.getElem_mem h))
      simp [hs, this, fk_if]
    simp only [hs, decide_true, Bool.not_true, fk_f]
    rw [ck_t (by simp; omega)]
    have e : (t.Secs.take (k : Int).toNat).drop (0 : Int).toNat = t.Secs.take k := by simp
    rw [e]
    have el : (t.Secs.take k).length = k := by simp; omega
    refine lp_up k (by unfold FU; omega) (fun j => ∀ i (hi : i < t.Secs.length), i < j → fitsP t.Secs[i] t.Secs[k]) (fun i _ h => by omega) ?_
    intro nx2 j hj J3 hnx2
    rw [el, lt_nat]
    by_cases h2 : j < k
    · have hjl : j < t.Secs.length := by omega
      rw [decide_eq_true h2, fk_t, ix_lt (by omega), List.getElem_take, bnd_eq (task_fits_eq t.C _ _ hC (J1 j hjl h2) hs)]
      by_cases hf : fitsP t.Secs[j] t.Secs[k]
      · rw [decide_eq_true hf, fk_t, wr_succ j k h2 (by omega)]
        refine hnx2 h2 fun i hi hij => ?_
        by_cases e : i = j
        · subst e; exact hf
        · exact J3 i hi (by omega)
      · have : right t = false := decide_eq_false fun hr => hf (List.pairwise_iff_getElem.1 hr.2.2 j k hjl h h2)
        rw [decide_eq_false hf, fk_f, this]; rfl
    · have hjk : j = k := by omega
      subst hjk
      rw [decide_eq_false h2, fk_f, wr_succ j _ h (by omega)]
      refine hnx h ⟨fun i hi hij => ?_, fun a b ha hb hab hbj => ?_⟩
      · by_cases e : i = j
        · subst e; exact hs
        · exact J1 i hi (by omega)
      · by_cases e : b = j
        · subst e; exact J3 a ha hab
        · exact J2 a b ha hb hab (by omega)
  · have hk2 : k = t.Secs.length := by omega
    rw [decide_eq_false h, fk_f]
    have : right t = true := decide_eq_true ⟨ho, fun s hs => by
      obtain ⟨j, hj, rfl⟩ := List.getElem_of_mem hs
      exact J1 j hj (by omega), List.pairwise_iff_getElem.2 fun i j hi hj hij => J2 i j hi hj hij (by omega)⟩
    rw [this]
    unfold ownP at ho
    simp; omega


def AllP (l : List Task) : Prop := (∀ t ∈ l, RightP t) ∧ l.length ≤ 8
instance (l : List Task) : Decidable (AllP l) := by unfold AllP; infer_instance
theorem right_t {t : Task} : right t = true ↔ RightP t := decide_eq_true_iff
theorem right_f {t : Task} : right t = false ↔ ¬ RightP t := decide_eq_false_iff_not

theorem task_All_eq (l : List Task) (hl : l.length ≤ 4611686018427387904) : task_All l = some (decide (AllP l)) := by
  unfold task_All
  refine lp_up l.length (by unfold FU; omega) (fun k => ∀ j (h : j < l.length), j < k → RightP l[j]) (fun j _ h => by omega) ?_
  intro nx k hk J hnx
  rw [lt_nat]
  by_cases h : k < l.length
  · rw [decide_eq_true h, fk_t, ix_lt h, bnd_eq (task_Right_eq _)]
    by_cases hr : RightP l[k]
    · rw [right_t.2 hr, Bool.not_true, fk_f, wr_succ k _ h hl]
      refine hnx h fun j hj hjk => ?_
      by_cases e : j = k
      · subst e; exact hr
      · exact J j hj (by omega)
    · rw [right_f.2 hr, Bool.not_false, fk_t]
      exact dec_f fun ha => hr (ha.1 _ (List.getElem_mem h))
  · rw [decide_eq_false h, fk_f]
    refine dec_iff ⟨fun h8 => ⟨fun t ht => ?_, by omega⟩, fun ha => by have := ha.2; omega⟩
    obtain ⟨j, hj, rfl⟩ := List.getElem_of_mem ht
    exact J j hj (by omega)

def holds (had : Int) (s : Sec) : Bool := decide (s.At < had) && decide (had < s.At + s.Len)
def heldL (had : Int) (l : List Sec) : List Int := (l.filter (holds had)).map (·.Res)
def held (t : Task) (had : Int) : List Int := if right t = true then heldL had t.Secs else []
theorem RightP.len {t : Task} (h : RightP t) : t.Secs.length ≤ 4 := h.1.2.2.2.2
theorem RightP.c {t : Task} (h : RightP t) : 1 ≤ t.C ∧ t.C ≤ t.D ∧ t.D ≤ t.T ∧ t.T ≤ 200 := ⟨h.1.1, h.1.2.1, h.1.2.2.1, h.1.2.2.2.1⟩

def usesP (t : Task) (res : Int) : Prop := RightP t ∧ ∃ s ∈ t.Secs, s.Res = res
instance (t : Task) (res : Int) : Decidable (usesP t res) := by unfold usesP; infer_instance
theorem eqI_sec (x y : Sec) : eqI [.i .i64 x.Res, .i .i64 x.At, .i .i64 x.Len] [.i .i64 y.Res, .i .i64 y.At, .i .i64 y.Len] = decide (x = y) := by
  unfold eqI
  rw [decide_eq_decide]
  cases x; cases y; simp

theorem secs_eq {a b : Task} : a = b ↔ a.C = b.C ∧ a.D = b.D ∧ a.T = b.T ∧ a.Secs = b.Secs := by
  cases a; cases b; simp

theorem ref05_Same_eq (a b : Task) (hl : a.Secs.length ≤ 4611686018427387904) : ref05_Same a b = some (decide (a = b)) := by
  unfold ref05_Same
  refine lp_up a.Secs.length (by unfold FU; omega) (fun k => k ≤ b.Secs.length ∧ ∀ j (h : j < a.Secs.length) (h' : j < b.Secs.length), j < k → a.Secs[j] = b.Secs[j]) ⟨Nat.zero_le _, fun j _ _ h => by omega⟩ ?_
  rintro nx k hk ⟨hkb, J⟩ hnx
  simp only [jn_eq]
  have fin : ¬ (k < a.Secs.length ∧ k < b.Secs.length) → (fk (decide (a.C = b.C)) (fk (decide (a.D = b.D)) (fk (decide (a.T = b.T)) (some (decide ((a.Secs.length : Int) = (b.Secs.length : Int)))) (some false)) (some false)) (some false)) = some (decide (a = b)) := by
    intro hn
    by_cases c1 : a.C = b.C
    rotate_left
    · rw [decide_eq_false c1, fk_f]; exact dec_f fun e => c1 (e ▸ rfl)
    by_cases c2 : a.D = b.D
    rotate_left
    · rw [decide_eq_true c1, fk_t, decide_eq_false c2, fk_f]; exact dec_f fun e => c2 (e ▸ rfl)
    by_cases c3 : a.T = b.T
    rotate_left
    · rw [decide_eq_true c1, fk_t, decide_eq_true c2, fk_t, decide_eq_false c3, fk_f]; exact dec_f fun e => c3 (e ▸ rfl)
    rw [decide_eq_true c1, fk_t, decide_eq_true c2, fk_t, decide_eq_true c3, fk_t]
    refine dec_iff ⟨fun e => ?_, fun e => by rw [e]⟩
    have c5 : a.Secs.length = b.Secs.length := by omega
    exact secs_eq.2 ⟨c1, c2, c3, List.ext_getElem c5 fun j h1 h2 => J j h1 h2 (by omega)⟩
  rw [lt_nat]
  by_cases h : k < a.Secs.length
  rotate_left
  · rw [decide_eq_false h, fk_f, fk_f]; exact fin fun hh => h hh.1
  rw [decide_eq_true h, fk_t, lt_nat]
  by_cases h' : k < b.Secs.length
  rotate_left
  · rw [decide_eq_false h', fk_f]; exact fin fun hh => h' hh.2
  rw [decide_eq_true h', fk_t, ix_lt h, ix_lt h', eqI_sec]
  by_cases e : a.Secs[k] = b.Secs[k]
  · rw [decide_eq_true e, Bool.not_true, fk_f, wr_succ k _ h hl]
    refine hnx h ⟨by omega, fun j hj hj' hjk => ?_⟩
    by_cases e2 : j = k
    · subst e2; exact e
    · exact J j hj hj' (by omega)
  · rw [decide_eq_false e, Bool.not_false, fk_t]
    exact dec_f fun e2 => e (by subst e2; rfl)

def GreatP (l : List Task) : Prop := (∃ t ∈ l, 20 < t.Secs.length) ∨ 20 < l.length
instance (l : List Task) : Decidable (GreatP l) := by unfold GreatP; infer_instance
theorem law05_Great_eq (l : List Task) (hl : l.length ≤ 4611686018427387904) : law05_Great l = some (decide (GreatP l)) := by
  unfold law05_Great
  refine lp_up l.length (by unfold FU; omega) (fun k => ∀ j (h : j < l.length), j < k → l[j].Secs.length ≤ 20) (fun j _ h => by omega) ?_
  intro nx k hk J hnx
  rw [lt_nat]
  by_cases h : k < l.length
  · rw [decide_eq_true h, fk_t, ix_lt h]
    by_cases e : (l[k].Secs.length : Int) > 20
    · rw [decide_eq_true e, fk_t]; exact dec_t (.inl ⟨_, List.getElem_mem h, by omega⟩)
    · rw [decide_eq_false e, fk_f, wr_succ k _ h hl]
      refine hnx h fun j hj hjk => ?_
      by_cases e2 : j = k
      · subst e2; omega
      · exact J j hj (by omega)
  · rw [decide_eq_false h, fk_f]
    refine dec_iff ⟨fun h20 => .inr (by omega), ?_⟩
    rintro (⟨t, ht, h20⟩ | h20)
    · obtain ⟨j, hj, rfl⟩ := List.getElem_of_mem ht
      have := J j hj (by omega)
      omega
    · omega

theorem Task.wf.len {t : Task} (h : t.wf) : t.Secs.length ≤ 4611686018427387904 := by have := h.2.2.2.1; unfold BB at this; omega
theorem wfI_8 {n : Int} (h : wfI .u8 n) : 0 ≤ n ∧ n ≤ 255 := by
  unfold wfI at h
  simp only [Lit.wf, Bool.and_eq_true, decide_eq_true_eq] at h
  have h1 : IntKind.u8.min = 0 := rfl
  have h2 : IntKind.u8.max = 255 := rfl
  rwa [h1, h2] at h


/-! ### Levels -/
def maxL {α : Type} (f : α → Nat) : List α → Nat
  | [] => 0
  | x :: r => max (f x) (maxL f r)
def levelN (l : List Task) (D : Int) : Nat := 1 + l.countP (fun x => decide (x.D > D))
def ofN (l : List Task) (i : Int) : Nat := if AllP l ∧ 0 ≤ i then (match l[i.toNat]? with | some t => levelN l t.D | none => 0) else 0
def ceilN (l : List Task) (res : Int) : Nat := maxL (fun t => if usesP t res then levelN l t.D else 0) l
def ceil (l : List Task) (res : Int) : Nat := if AllP l then ceilN l res else 0
def heldN (l : List Task) (h : List Int) : Nat := maxL (ceil l) h
/-! The document's. -/
theorem AllP.len {l : List Task} (h : AllP l) : l.length ≤ 4611686018427387904 := by have := h.2; omega
def greatJ (l : List Task) (js : List Job) : Prop := GreatP l ∨ 50 < js.length
noncomputable instance (l : List Task) (js : List Job) : Decidable (greatJ l js) := Classical.propDecidable _
/-- what a job must be over tasks that are right -/
def bodyP (t : Task) (j : Job) : Prop := j.Due = j.At + t.D ∧ 1 ≤ j.Want ∧ j.Want ≤ 200 ∧ 0 ≤ j.Had ∧ j.Had < j.Want ∧ j.Had < t.C ∧ (j.Began = true ∨ j.Had = 0)
noncomputable instance (t : Task) (j : Job) : Decidable (bodyP t j) := Classical.propDecidable _
def jobP (l : List Task) (j : Job) : Prop := 0 ≤ j.Task ∧ 0 ≤ j.At ∧ j.At ≤ 4611686018427387703 ∧ ∃ h : j.Task.toNat < l.length, bodyP l[j.Task.toNat] j
noncomputable instance (l : List Task) (j : Job) : Decidable (jobP l j) := Classical.propDecidable _
def apartJ (a b : Job) : Prop := ¬ (a.Task = b.Task ∧ a.At = b.At)
def jobsP (l : List Task) (js : List Job) : Prop := AllP l ∧ js.length ≤ 32 ∧ (∀ j ∈ js, jobP l j) ∧ js.Pairwise apartJ
noncomputable instance (l : List Task) (js : List Job) : Decidable (jobsP l js) := Classical.propDecidable _
def heldJ (l : List Task) (j : Job) : List Int := match l[j.Task.toNat]? with | some t => held t j.Had | none => []
def heldA (l : List Task) (js : List Job) : List Int := js.flatMap (heldJ l)
def aheadP (a b : Job) : Prop := a.Due < b.Due ∨ (a.Due = b.Due ∧ (a.Task < b.Task ∨ (a.Task = b.Task ∧ a.At < b.At)))
instance (a b : Job) : Decidable (aheadP a b) := by unfold aheadP; infer_instance
/-! The first one. -/
def IsFK (js : List Job) (b : Bool) (K : Nat) (i : Int) : Prop :=
  (i = -1 ∧ ∀ k (hk : k < js.length), k < K → js[k].Began ≠ b) ∨
  (∃ n : Nat, i = (n : Int) ∧ ∃ h : n < js.length, n < K ∧ js[n].Began = b ∧ (∀ k (hk : k < js.length), k < K → js[k].Began = b → ¬ aheadP js[k] js[n]) ∧ ∀ k (hk : k < js.length), k < n → js[k].Began = b → aheadP js[n] js[k])
def IsF (js : List Job) (b : Bool) (i : Int) : Prop := IsFK js b js.length i
theorem IsF.uniq {js : List Job} {b : Bool} {i i' : Int} (h : IsF js b i) (h' : IsF js b i') : i = i' := by
  rcases h with ⟨h1, h2⟩ | ⟨n, rfl, hn, _, hb, h3, h4⟩ <;> rcases h' with ⟨h1', h2'⟩ | ⟨n', rfl, hn', _, hb', h3', h4'⟩
  · omega
  · exact absurd hb' (h2 n' hn' hn')
  · exact absurd hb (h2' n hn hn)
  · rcases Nat.lt_trichotomy n n' with h | h | h
    · exact absurd (h4' n hn h hb) (h3 n' hn' hn' hb')
    · rw [h]
    · exact absurd (h4 n' hn' h hb') (h3' n hn hn hb)
open Classical in
noncomputable def fst (js : List Job) (b : Bool) : Int := if h : ∃ i, IsF js b i then Classical.choose h else -1
theorem IsF.eq {js : List Job} {b : Bool} {i : Int} (h : IsF js b i) : i = fst js b := by
  have hx : ∃ i, IsF js b i := ⟨i, h⟩
  unfold fst
  rw [dif_pos hx]
  exact h.uniq (Classical.choose_spec hx)
theorem IsFK.zero (js : List Job) (b : Bool) : IsFK js b 0 (-1) := .inl ⟨rfl, fun k _ h => by omega⟩
theorem IsFK.skip {js : List Job} {b : Bool} {K : Nat} {i : Int} (h : IsFK js b K i) (hK : K < js.length) (hb : js[K].Began ≠ b) : IsFK js b (K + 1) i := by
  rcases h with ⟨h1, h2⟩ | ⟨n, rfl, hn, hl, hb', h3, h4⟩
  · refine .inl ⟨h1, fun k hk hkK => ?_⟩
    by_cases e : k = K
    · subst e; exact hb
    · exact h2 k hk (by omega)
  · refine .inr ⟨n, rfl, hn, by omega, hb', fun k hk hkK hkb => ?_, h4⟩
    by_cases e : k = K
    · subst e; exact absurd hkb hb
    · exact h3 k hk (by omega) hkb
theorem IsFK.keep {js : List Job} {b : Bool} {K n : Nat} (h : IsFK js b K (n : Int)) (hK : K < js.length) (hn : n < js.length) (ha : ¬ aheadP js[K] js[n]) : IsFK js b (K + 1) (n : Int) := by
  rcases h with ⟨h1, h2⟩ | ⟨m, e, hm, hl, hb', h3, h4⟩
  · omega
  · have : n = m := by omega
    subst this
    refine .inr ⟨n, rfl, hn, by omega, hb', fun k hk hkK hkb => ?_, h4⟩
    by_cases e : k = K
    · subst e; exact ha
    · exact h3 k hk (by omega) hkb
/-! Sorted jobs. -/
/-! Levels by deadlines. -/
/-! Who runs. -/
def jg (js : List Job) (i : Int) : Job := (js[i.toNat]?).getD ⟨0, 0, 0, 0, 0, false⟩
open Classical in
noncomputable def cho (l : List Task) (js : List Job) : Int :=
  if fst js false < 0 then fst js true
  else if 0 ≤ fst js true ∧ ¬ aheadP (jg js (fst js false)) (jg js (fst js true)) then fst js true
  else if fst js true < 0 ∨ heldN l (heldA l js) < ofN l (jg js (fst js false)).Task then fst js false
  else fst js true
/-! A tick. -/
def upd (j : Job) : Job := ⟨j.Task, j.At, j.Due, j.Want, j.Had + 1, true⟩
def taskC (l : List Task) (j : Job) : Int := match l[j.Task.toNat]? with | some t => t.C | none => 0
def overB (l : List Task) (j : Job) : Bool := decide (j.Had + 1 ≥ (if taskC l j < j.Want then taskC l j else j.Want))
def zeroJ : Job := ⟨0, 0, 0, 0, 0, false⟩
def tickN (l : List Task) (js : List Job) (n : Nat) (h : n < js.length) : List Job := if overB l js[n] = true then js.eraseIdx n else js.set n (upd js[n])
open Classical in
noncomputable def tick (l : List Task) (js : List Job) : List Job × Job × Bool :=
  if h : jobsP l js ∧ 0 ≤ cho l js ∧ (cho l js).toNat < js.length then (tickN l js (cho l js).toNat h.2.2, upd js[(cho l js).toNat], overB l js[(cho l js).toNat]) else (js, zeroJ, false)
/-! What jobs hold, of those that began. -/
/-! Jobs that came to be. -/
/-! Releases, not too early. -/
def lastsP (l : List Task) (ls : List Int) : Prop := AllP l ∧ ls.length = l.length ∧ ∀ x ∈ ls, -1 ≤ x ∧ x ≤ 4611686018427387903
noncomputable instance (l : List Task) (ls : List Int) : Decidable (lastsP l ls) := Classical.propDecidable _
def argP (l : List Task) (ls : List Int) (i t : Int) : Prop := lastsP l ls ∧ 0 ≤ i ∧ i < (l.length : Int) ∧ 0 ≤ t ∧ t ≤ 4611686018427387703
noncomputable instance (l : List Task) (ls : List Int) (i t : Int) : Decidable (argP l ls i t) := Classical.propDecidable _
def lg (ls : List Int) (i : Int) : Int := (ls[i.toNat]?).getD 0
def tT (l : List Task) (i : Int) : Int := match l[i.toNat]? with | some t => t.T | none => 0
noncomputable def mayV (l : List Task) (ls : List Int) (i t : Int) : Int := if argP l ls i t then (if lg ls i ≠ -1 ∧ t < lg ls i + tT l i then 6 else 0) else 1
/-! Asks, one by one. -/
end Go.Proofs.YtfnaclhllopoeaaGreat
namespace Go.Proofs.YtfnaclhllopoeaaGreat
open Go Go.VC

/-! ### Tasks -/




/-! ### Levels -/
/-! The document's. -/

def sumI {α : Type} (f : α → Int) : List α → Int
  | [] => 0
  | x :: r => f x + sumI f r
def inM (x : Int) : Prop := -4611686018427387903 ≤ x ∧ x ≤ 4611686018427387903
instance (x : Int) : Decidable (inM x) := by unfold inM; infer_instance
def jobsN (t : Task) (k : Int) : Int := if k < t.D then 0 else (k - t.D) / t.T + 1
def costN (k : Int) (t : Task) : Int := t.C * jobsN t k
def sumB (l : List Task) (k : Int) : Int := sumI (costN k) l
def askP (l : List Task) (k : Int) : Prop := AllP l ∧ 0 ≤ k ∧ k ≤ 4611686018427387903
instance (l : List Task) (k : Int) : Decidable (askP l k) := by unfold askP; infer_instance
/-! ### Patterns -/
def rowP (T : Int) (r : List Int) : Prop := r.length ≤ 1000 ∧ ∀ j (h : j < r.length), 0 ≤ r[j] ∧ r[j] ≤ 4611686018427387903 ∧ (0 < j → r[j - 1] + T ≤ r[j])
def patP (l : List Task) (a : List (List Int)) : Prop := AllP l ∧ a.length = l.length ∧ ∀ i (h : i < a.length) (h2 : i < l.length), rowP l[i].T a[i]
noncomputable instance (l : List Task) (a : List (List Int)) : Decidable (patP l a) := Classical.propDecidable _
theorem patP.rows {l : List Task} {a : List (List Int)} (h : patP l a) : ∀ r ∈ a, r.length ≤ 1000 := by
  intro r hr
  obtain ⟨i, hi, rfl⟩ := List.getElem_of_mem hr
  exact (h.2.2 i hi (by have := h.2.1; omega)).1
def great7 (l : List Task) (a : List (List Int)) : Prop := (∃ r ∈ a, 1100 < r.length) ∨ GreatP l ∨ 20 < a.length
instance (l : List Task) (a : List (List Int)) : Decidable (great7 l a) := by unfold great7; infer_instance
/-! ### Blocking -/
def sharedP (l : List Task) (t res : Int) : Prop := ∃ x ∈ l, x.D ≤ t ∧ usesP x res
instance (l : List Task) (t res : Int) : Decidable (sharedP l t res) := by unfold sharedP; infer_instance
def secN (l : List Task) (t : Int) (s : Sec) : Nat := if sharedP l t s.Res then s.Len.toNat else 0
def taskN (l : List Task) (t : Int) (x : Task) : Nat := if x.D ≤ t then 0 else maxL (secN l t) x.Secs
def blockV (l : List Task) (t : Int) : Nat := maxL (taskN l t) l
theorem RightP.sl {t : Task} (h : RightP t) {s : Sec} (hs : s ∈ t.Secs) : 1 ≤ s.Len ∧ s.Len ≤ 200 := by
  have h1 := h.2.1 s hs
  have h2 := h.c
  unfold secP at h1
  omega
/-! Where it may change. -/
/-! The least supply. -/
def faceP (f : Face) : Prop := 1 ≤ f.B ∧ f.B ≤ f.P ∧ f.P ≤ 200
instance (f : Face) : Decidable (faceP f) := by unfold faceP; infer_instance
theorem supply_Right_eq (f : Face) : supply_Right f = some (decide (faceP f)) := by
  unfold supply_Right
  simp only [fk_if, decide_eq_true_eq]
  repeat' split
  all_goals first
    | exact dec_iff (by unfold faceP; omega)
    | exact dec_f (by unfold faceP; omega)
def max0 (x : Int) : Int := if x > 0 then x else 0
def supV (f : Face) (t : Int) : Int := if t < f.P - f.B then 0 else ((t - (f.P - f.B)) / f.P) * f.B + max0 (t - 2 * (f.P - f.B) - ((t - (f.P - f.B)) / f.P) * f.P)
/-- One tick more. -/
def worstP (f : Face) (i : Int) : Prop := if i < f.P then i < f.B else i % f.P ≥ f.P - f.B
instance (f : Face) (i : Int) : Decidable (worstP f i) := by unfold worstP; infer_instance
/-! Need. -/
def needV (l : List Task) (t : Int) : Int := sumB l t + (blockV l t : Int)
/-! Cycles. -/
def lcmL (P : Nat) (l : List Task) : Nat := l.foldl (fun c t => Nat.lcm c t.T.toNat) P
def farL (x : Int) (l : List Task) : Int := l.foldl (fun m t => if t.D > m then t.D else m) x
theorem AllP.T {l : List Task} (h : AllP l) {t : Task} (ht : t ∈ l) : 1 ≤ t.T ∧ t.T ≤ 200 ∧ 1 ≤ t.C ∧ t.C ≤ 200 ∧ 1 ≤ t.D ∧ t.D ≤ 200 ∧ t.C ≤ t.D ∧ t.D ≤ t.T := by
  have := (h.1 t ht).1
  unfold ownP at this
  omega
def cyc (l : List Task) (f : Face) : Nat := lcmL f.P.toNat l
def farv (l : List Task) (f : Face) : Int := farL (2 * f.P) l
def okC (l : List Task) (f : Face) : Prop := AllP l ∧ faceP f ∧ (cyc l f : Int) + farv l f ≤ 3000
noncomputable instance (l : List Task) (f : Face) : Decidable (okC l f) := Classical.propDecidable _
/-! The first tick for which tasks don't fit. -/
def badB (l : List Task) (f : Face) (t : Nat) : Bool := decide (needV l t > supV f t)
def badV (l : List Task) (f : Face) (e : Nat) : Option Nat := (List.range (e + 1)).find? (badB l f)
def endN (l : List Task) (f : Face) : Nat := ((cyc l f : Int) + farv l f).toNat
/-! What is asked for in a cycle. -/
def askC (c : Int) (t : Task) : Int := t.C * (c / t.T)
def asked (l : List Task) (c : Int) : Int := sumI (askC c) l
def givenC (f : Face) (c : Int) : Int := f.B * (c / f.P)
def fitsF (l : List Task) (f : Face) : Prop := okC l f ∧ asked l (cyc l f) ≤ givenC f (cyc l f) ∧ badV l f (endN l f) = none
noncomputable instance (l : List Task) (f : Face) : Decidable (fitsF l f) := Classical.propDecidable _
/-! From the end on all goes on by cycles. -/
/-! Fewer tasks; more of a budget. -/
theorem AllP.sub {l l' : List Task} (h : AllP l) (hs : l'.Sublist l) : AllP l' := ⟨fun t ht => h.1 t (hs.subset ht), Nat.le_trans hs.length_le h.2⟩
end Go.Proofs.YtfnaclhllopoeaaGreat
namespace Go.Proofs.YtfnaclhllopoeaaGreat
open Go Go.VC
/-! A partition's state. -/
def stP (s : PartState) : Prop := s.Leaves.length = s.Tasks.length ∧ lastsP s.Tasks s.Lasts ∧ jobsP s.Tasks s.Jobs ∧ s.Log.length ≤ 2000
noncomputable instance (s : PartState) : Decidable (stP s) := Classical.propDecidable _
structure StB (s : PartState) : Prop where
  t : s.Tasks.length ≤ 4611686018427387904
  u : ∀ t ∈ s.Tasks, t.Secs.length ≤ 4611686018427387904
  a : s.Lasts.length ≤ 4611686018427387904
/-! The log. -/
def nt (lg : List Entry) (e : Entry) : List Entry := if lg.length < 2000 then lg ++ [e] else lg
def whenP (t : Int) : Prop := 0 ≤ t ∧ t ≤ 4611686018427387703
instance (t : Int) : Decidable (whenP t) := by unfold whenP; infer_instance
/-! The same. -/
/-! Too great. -/
def greatS (s : PartState) : Prop := GreatP s.Tasks ∨ 50 < s.Leaves.length ∨ 50 < s.Lasts.length ∨ 50 < s.Jobs.length ∨ 2010 < s.Log.length
noncomputable instance (s : PartState) : Decidable (greatS s) := Classical.propDecidable _
theorem AllP_len {l : List Task} (h : AllP l) : l.length ≤ 8 := h.2
/-! A release. -/
def relArg (s : PartState) (i w t : Int) : Prop := stP s ∧ 0 ≤ i ∧ i < (s.Tasks.length : Int) ∧ 1 ≤ w ∧ w ≤ 200 ∧ whenP t
noncomputable instance (s : PartState) (i w t : Int) : Decidable (relArg s i w t) := Classical.propDecidable _
def tD (l : List Task) (i : Int) : Int := match l[i.toNat]? with | some t => t.D | none => 0
def newJob (l : List Task) (i w t : Int) : Job := ⟨i, t, t + tD l i, w, 0, false⟩
noncomputable def relV (s : PartState) (i w t : Int) : PartState × Int :=
  if relArg s i w t then
    if (s.Leaves[i.toNat]?).getD false = true then (s, 9)
    else if mayV s.Tasks s.Lasts i t = 0 then
      if s.Jobs.length < 32 then (⟨s.Tasks, s.Leaves, s.Lasts.set i.toNat t, s.Jobs ++ [newJob s.Tasks i w t], nt s.Log ⟨t, 1, i⟩⟩, 0)
      else (⟨s.Tasks, s.Leaves, s.Lasts, s.Jobs, nt s.Log ⟨t, 3, i⟩⟩, 3)
    else (⟨s.Tasks, s.Leaves, s.Lasts, s.Jobs, nt s.Log ⟨t, 2, i⟩⟩, 6)
  else (s, 1)
/-! A tick. -/
def missJ (t : Int) (js : List Job) : List Job := js.filter (fun j => decide (t < j.Due))
def missG (t : Int) : List Job → List Entry → List Entry
  | [], lg => lg
  | j :: r, lg => missG t r (if t < j.Due then lg else nt lg ⟨t, 6, j.Task⟩)
noncomputable def runV (l : List Task) (js : List Job) (lg : List Entry) (g : Bool) (t : Int) : List Job × List Entry × Int :=
  if g = true ∧ 0 < js.length then ((tick l js).1, (if (tick l js).2.2 = true then nt lg ⟨t, (if taskC l (tick l js).2.1 < (tick l js).2.1.Want then 5 else 4), (tick l js).2.1.Task⟩ else lg), (tick l js).2.1.Task) else (js, lg, -1)
def keepB {α : Type} : List Bool → List α → List α
  | b :: bs, x :: xs => if b = true then keepB bs xs else x :: keepB bs xs
  | _, _ => []
def leftG (b : List Bool) (t : Int) : Nat → List Entry → List Entry
  | 0, lg => lg
  | n + 1, lg => leftG b t n (if (b[n]?).getD false = true then nt lg ⟨t, 7, (n : Int)⟩ else lg)
noncomputable def tickR (s : PartState) (g : Bool) (t : Int) : List Job × List Entry × Int := runV s.Tasks (missJ t s.Jobs) (missG t s.Jobs s.Log) g t
noncomputable def tickV (s : PartState) (g : Bool) (t : Int) : PartState × Int :=
  if (tickR s g t).1.length = 0 then (⟨keepB s.Leaves s.Tasks, keepB s.Leaves s.Leaves, keepB s.Leaves s.Lasts, (tickR s g t).1, leftG s.Leaves t s.Tasks.length (tickR s g t).2.1⟩, (tickR s g t).2.2)
  else (⟨s.Tasks, s.Leaves, s.Lasts, (tickR s g t).1, (tickR s g t).2.1⟩, (tickR s g t).2.2)
theorem jn_to {σ R : Type} {Y : σ → Option R} {X : (σ → Option R) → Option R} {r : Option R} (v : σ) (hX : ∀ k, X k = k v) (hY : Y v = r) : jn Y X = r := by
  rw [jn_eq, hX]; exact hY
/-! How long what comes out is. -/
/-! Tasks come and go. -/
/-! A new one. -/
def new0 (l : List Task) : PartState := ⟨l, List.replicate l.length false, List.replicate l.length (-1), [], []⟩
/-! A play. -/
/-! The log only grows, by entries of now. -/
def Ext (t : Int) (a b : List Entry) : Prop := ∃ e, b = a ++ e ∧ ∀ x ∈ e, x.At = t
theorem Ext.rfl {t : Int} {a : List Entry} : Ext t a a := ⟨[], (List.append_nil a).symm, fun x hx => (List.not_mem_nil hx).elim⟩
theorem Ext.trans {t : Int} {a b c : List Entry} (h : Ext t a b) (k : Ext t b c) : Ext t a c := by
  obtain ⟨e, rfl, h⟩ := h
  obtain ⟨f, rfl, k⟩ := k
  exact ⟨e ++ f, List.append_assoc _ _ _, fun x hx => (List.mem_append.1 hx).elim (h x) (k x)⟩
theorem Ext.nt {t : Int} {a : List Entry} {k i : Int} : Ext t a (nt a ⟨t, k, i⟩) := by
  unfold Go.Proofs.YtfnaclhllopoeaaGreat.nt
  split
  · exact ⟨_, Eq.refl _, fun x hx => by rw [List.mem_singleton.1 hx]⟩
  · exact Ext.rfl
theorem Ext.miss {t : Int} : ∀ (js : List Job) {a : List Entry}, Ext t a (missG t js a)
  | [], a => Ext.rfl
  | j :: r, a => by
    unfold missG
    refine Ext.trans ?_ (Ext.miss r)
    split
    · exact Ext.rfl
    · exact Ext.nt
theorem Ext.left {t : Int} {b : List Bool} : ∀ (n : Nat) {a : List Entry}, Ext t a (leftG b t n a)
  | 0, a => Ext.rfl
  | n + 1, a => by
    unfold leftG
    refine Ext.trans ?_ (Ext.left n)
    split
    · exact Ext.nt
    · exact Ext.rfl
theorem Ext.run {t : Int} {l : List Task} {js : List Job} {g : Bool} {a : List Entry} : Ext t a (runV l js a g t).2.1 := by
  unfold runV
  split
  · simp only
    split
    · exact Ext.nt
    · exact Ext.rfl
  · exact Ext.rfl
theorem Ext.tick {s : PartState} {g : Bool} {t : Int} : Ext t s.Log (tickV s g t).1.Log := by
  have h : Ext t s.Log (tickR s g t).2.1 := (Ext.miss s.Jobs).trans Ext.run
  unfold tickV
  split
  · exact h.trans (Ext.left _)
  · exact h
theorem Ext.rel {s : PartState} {i w t : Int} : Ext t s.Log (relV s i w t).1.Log := by
  unfold relV
  split
  · split
    · exact Ext.rfl
    · split
      · split
        · exact Ext.nt
        · exact Ext.nt
      · exact Ext.nt
  · exact Ext.rfl
/-! A tick keeps what is right. -/
/-! The steps. -/
/-! Who is let in. -/
def begunP (js : List Job) : Prop := ∃ j ∈ js, j.Began = true
noncomputable instance (js : List Job) : Decidable (begunP js) := Classical.propDecidable _
end Go.Proofs.YtfnaclhllopoeaaGreat
namespace Go.Proofs.YtfnaclhllopoeaaGreat
open Go Go.VC
/-! Rings. -/
theorem ring_New_eq (n : Int) (h1 : 1 ≤ n) (h2 : n ≤ 4) : ring_New n = some (⟨List.replicate n.toNat 0, 0, 0⟩, 0) := by
  unfold ring_New
  refine jn_to false (fun k => by rw [decide_eq_false (by omega), fk_f, decide_eq_false (by omega)]) ?_
  rw [fk_f, ck_t (by simp; omega)]
/-! Lines. -/
def portP (p : Port) : Prop := 0 ≤ p.From ∧ p.From < 4 ∧ 0 ≤ p.To ∧ p.To < 4 ∧ p.From ≠ p.To ∧ 1 ≤ p.Cap ∧ p.Cap ≤ 4
instance (p : Port) : Decidable (portP p) := by unfold portP; infer_instance
theorem port_may_1_eq (x : Int) : port_may_1 x = some (decide (0 ≤ x ∧ x < 4)) := by
  unfold port_may_1
  by_cases h : 0 ≤ x
  · rw [decide_eq_true (by omega), fk_t]; exact dec_iff ⟨fun a => ⟨h, a⟩, fun a => a.2⟩
  · rw [decide_eq_false (by omega), fk_f]; exact dec_f fun a => h a.1
theorem port_may_eq (p : Port) : port_may p = some (decide (portP p)) := by
  unfold port_may portP
  rw [bnd_eq (port_may_1_eq p.From)]
  by_cases h1 : 0 ≤ p.From ∧ p.From < 4
  rotate_left
  · rw [decide_eq_false h1, fk_f]; exact dec_f fun a => h1 ⟨a.1, a.2.1⟩
  rw [decide_eq_true h1, fk_t, bnd_eq (port_may_1_eq p.To)]
  by_cases h2 : 0 ≤ p.To ∧ p.To < 4
  rotate_left
  · rw [decide_eq_false h2, fk_f]; exact dec_f fun a => h2 ⟨a.2.2.1, a.2.2.2.1⟩
  rw [decide_eq_true h2, fk_t]
  by_cases h3 : p.From = p.To
  · rw [decide_eq_true h3, Bool.not_true, fk_f]; exact dec_f fun a => a.2.2.2.2.1 h3
  rw [decide_eq_false h3, Bool.not_false, fk_t]
  by_cases h4 : p.Cap ≥ 1
  · rw [decide_eq_true h4, fk_t]; exact dec_iff ⟨fun a => ⟨h1.1, h1.2, h2.1, h2.2, h3, h4, a⟩, fun a => a.2.2.2.2.2.2⟩
  · rw [decide_eq_false h4, fk_f]; exact dec_f fun a => h4 a.2.2.2.2.2.1
def newL (p : Port) : PortLine := ⟨p, ⟨List.replicate p.Cap.toNat 0, 0, 0⟩, ⟨List.replicate p.Cap.toNat 0, 0, 0⟩⟩
theorem port_Open_eq (ps : List Port) (hl : ps.length ≤ 1000) : port_Open ps = some (if (∀ p ∈ ps, portP p) ∧ ps.length ≤ 4 then (ps.map newL, 0) else ([], 1)) := by
  unfold port_Open
  refine lp_upS ps.length (by unfold FU; omega) (fun k s => s = (ps.take k).map newL ∧ ∀ p ∈ ps.take k, portP p) [] ⟨rfl, fun p h => (List.not_mem_nil h).elim⟩ ?_
  rintro nx k s hk ⟨rfl, hp⟩ hnx
  dsimp only
  have hlen : ((ps.take k).map newL).length = k := by simp; omega
  rw [lt_nat, hlen]
  by_cases c : k < ps.length
  rotate_left
  · have e : k = ps.length := by omega
    subst e
    rw [List.take_length] at hp ⊢
    rw [decide_eq_false c, fk_f]
    by_cases h4 : ps.length ≤ 4
    · rw [decide_eq_false (by omega), fk_f, if_pos ⟨hp, h4⟩]
    · rw [decide_eq_true (by omega), fk_t, if_neg (fun h => h4 h.2)]
  rw [decide_eq_true c, fk_t, ix_lt c, bnd_eq (port_may_eq _)]
  by_cases hm : portP ps[k]
  rotate_left
  · rw [decide_eq_false hm, Bool.not_false, fk_t, if_neg (fun h => hm (h.1 _ (List.getElem_mem c)))]
  have hcap := hm.2.2.2.2.2
  rw [decide_eq_true hm, Bool.not_true, fk_f, bnd_eq (ring_New_eq _ hcap.1 hcap.2), bnd_eq (ring_New_eq _ hcap.1 hcap.2), ck_t (by simp; omega), wr_succ k _ c (by omega)]
  refine hnx _ c ⟨?_, fun p hp' => ?_⟩
  · rw [← List.take_append_getElem c, List.map_append]; rfl
  · rw [← List.take_append_getElem c] at hp'
    rcases List.mem_append.1 hp' with h | h
    · exact hp p h
    · rw [List.mem_singleton.1 h]; exact hm
/-! Tables. -/
def inW (w : Window) (x : Int) : Prop := w.From ≤ x ∧ x < w.From + w.Len
instance (w : Window) (x : Int) : Decidable (inW w x) := by unfold inW; infer_instance
def whoV : List Window → Int → Int
  | [], _ => -1
  | w :: r, x => if inW w x then w.Part else whoV r x
def winP (F : Int) (w : Window) : Prop := 0 ≤ w.Part ∧ w.Part < 4 ∧ 0 ≤ w.From ∧ 1 ≤ w.Len ∧ w.From + w.Len ≤ F
structure tabP (t : TableTable) : Prop where
  f1 : 1 ≤ t.Frame
  f2 : t.Frame ≤ 240
  w : ∀ w ∈ t.Windows, winP t.Frame w
  p : t.Windows.Pairwise fun a b => a.From + a.Len ≤ b.From
  c : ∀ (i : Nat) (a b : Window), t.Windows[i]? = some a → t.Windows[i + 1]? = some b → ¬ (a.From + a.Len = b.From ∧ b.Part = a.Part)
  l : t.Windows.length ≤ 240
/-- The table of ticks. -/
structure ofI (n : Int) (ts : List Int) (k : Nat) (last : Int) (W : List Window) : Prop where
  w : ∀ w ∈ W, winP n w ∧ w.From + w.Len ≤ (k : Int)
  p : W.Pairwise fun a b => a.From + a.Len ≤ b.From
  c : ∀ (i : Nat) (a b : Window), W[i]? = some a → W[i + 1]? = some b → ¬ (a.From + a.Len = b.From ∧ b.Part = a.Part)
  l : W.length ≤ k
  v : ∀ x : Nat, x < k → ∀ y, ts[x]? = some y → whoV W (x : Int) = y
  e1 : last ≠ -1 → ∃ W0 w, W = W0 ++ [w] ∧ w.Part = last ∧ w.From + w.Len = (k : Int)
  e2 : ∀ W0 w, W = W0 ++ [w] → w.From + w.Len = (k : Int) → w.Part = last
/-! The frame. -/
def facesP (l : List Face) : Prop := (∀ f ∈ l, faceP f) ∧ l.length ≤ 4
noncomputable instance (l : List Face) : Decidable (facesP l) := Classical.propDecidable _
theorem faceP.P {f : Face} (h : faceP f) : 1 ≤ f.P ∧ f.P ≤ 200 ∧ 1 ≤ f.B ∧ f.B ≤ 200 := by unfold faceP at h; omega
def allD (l : List Face) (n : Nat) : Prop := ∀ f ∈ l, f.P.toNat ∣ n
instance (l : List Face) (n : Nat) : Decidable (allD l n) := by unfold allD; infer_instance
/-! The ticks. -/
def wv (w : List Int) (i : Nat) : Int := (w[i]?).getD 0
def begun (l : List Face) (w : List Int) (t : Nat) : List Int := (List.range l.length).map fun i => match l[i]? with | some f => if f.P.toNat ∣ t then f.B else wv w i | none => 0
def denyP (l : List Face) (w : List Int) (t : Nat) : Prop := ∃ (i : Nat) (f : Face), l[i]? = some f ∧ f.P.toNat ∣ t ∧ 0 < wv w i
def byV (f : Face) (t : Nat) : Nat := (t / f.P.toNat + 1) * f.P.toNat
def isNext (l : List Face) (w : List Int) (t k : Nat) (r : Int) : Prop :=
  (r = -1 ∧ ∀ i, i < k → wv w i ≤ 0) ∨ ∃ (i : Nat) (f : Face), i < k ∧ r = (i : Int) ∧ l[i]? = some f ∧ 0 < wv w i ∧ ∀ (j : Nat) (g : Face), j < k → l[j]? = some g → 0 < wv w j → byV f t < byV g t ∨ (byV f t = byV g t ∧ i ≤ j)
def dec (w : List Int) (r : Int) : List Int := if r = -1 then w else w.set r.toNat (wv w r.toNat - 1)
inductive LayR (l : List Face) : Nat → List Int → List Int → Prop
  | zero : LayR l 0 [] (List.replicate l.length 0)
  | step {t : Nat} {out w : List Int} {r : Int} (h : LayR l t out w) (hd : ¬ denyP l w t) (hn : isNext l (begun l w t) t l.length r) : LayR l (t + 1) (out ++ [r]) (dec (begun l w t) r)
theorem LayR.before {l : List Face} {t : Nat} {o w : List Int} (h : LayR l t o w) : ∀ s, s < t → ∃ o' w', LayR l s o' w' ∧ ¬ denyP l w' s := by
  induction h with
  | zero => intro s hs; omega
  | step h hd hn ih =>
    rename_i t out w r
    intro s hs
    by_cases e : s = t
    · subst e; exact ⟨_, _, h, hd⟩
    · exact ih s (by omega)
theorem begun_len (l : List Face) (w : List Int) (t : Nat) : (begun l w t).length = l.length := by unfold begun; simp
theorem begun_at {l : List Face} {w : List Int} {t i : Nat} {f : Face} (h : l[i]? = some f) : wv (begun l w t) i = if f.P.toNat ∣ t then f.B else wv w i := by
  have hi := (List.getElem?_eq_some_iff.1 h).1
  unfold begun
  unfold wv
  rw [List.getElem?_map, List.getElem?_range hi]
  simp only [Option.map_some, h, Option.getD_some]
/-- What is kept: sizes. -/
theorem LayR.ok {l : List Face} (hl : facesP l) {t : Nat} {o w : List Int} (h : LayR l t o w) : o.length = t ∧ w.length = l.length ∧ (∀ i, 0 ≤ wv w i ∧ wv w i ≤ 200) ∧ ∀ x ∈ o, -1 ≤ x ∧ x < (l.length : Int) := by
  induction h with
  | zero =>
    refine ⟨rfl, by simp, fun i => ?_, fun x h => (List.not_mem_nil h).elim⟩
    unfold wv
    rw [List.getElem?_replicate]
    split <;> simp
  | step h hd hn ih =>
    rename_i t out w r
    obtain ⟨a, b, c, d⟩ := ih
    have hb : ∀ i, 0 ≤ wv (begun l w t) i ∧ wv (begun l w t) i ≤ 200 := fun i => by
      cases hf : l[i]? with
      | some f =>
        rw [begun_at hf]
        have := (hl.1 f (List.mem_of_getElem? hf)).P
        split
        · omega
        · exact c i
      | none =>
        have : (begun l w t)[i]? = none := List.getElem?_eq_none (by rw [begun_len]; exact List.getElem?_eq_none_iff.1 hf)
        unfold wv; rw [this]; simp
    refine ⟨by simp [a], ?_, fun i => ?_, fun x hx => ?_⟩
    · unfold dec; split
      · exact begun_len _ _ _
      · rw [List.length_set]; exact begun_len _ _ _
    · rcases hn with ⟨rfl, _⟩ | ⟨j, f, hj, rfl, hf, hw, _⟩
      · unfold dec; rw [if_pos rfl]; exact hb i
      · unfold dec
        rw [if_neg (by omega), Int.toNat_natCast]
        by_cases e : j = i
        · subst e
          have : wv ((begun l w t).set j (wv (begun l w t) j - 1)) j = wv (begun l w t) j - 1 := by
            unfold wv
            rw [List.getElem?_set_self (by rw [begun_len]; exact hj)]; rfl
          rw [this]
          have := hb j; omega
        · have : wv ((begun l w t).set j (wv (begun l w t) j - 1)) i = wv (begun l w t) i := by
            unfold wv
            rw [List.getElem?_set_ne e]
          rw [this]; exact hb i
    · rcases List.mem_append.1 hx with h' | h'
      · exact d x h'
      · rw [List.mem_singleton.1 h']
        rcases hn with ⟨rfl, _⟩ | ⟨j, f, hj, rfl, _⟩ <;> omega

theorem eq_of_wv {u v : List Int} (hl : u.length = v.length) (h : ∀ i, wv u i = wv v i) : u = v := by
  refine List.ext_getElem hl fun i h1 h2 => ?_
  have := h i
  unfold wv at this
  rw [List.getElem?_eq_getElem h1, List.getElem?_eq_getElem h2] at this
  exact this
theorem wv_set {w : List Int} {i : Nat} {x : Int} (h : i < w.length) (j : Nat) : wv (w.set i x) j = if j = i then x else wv w j := by
  unfold wv
  by_cases e : j = i
  · subst e; rw [if_pos rfl, List.getElem?_set_self h]; rfl
  · rw [if_neg e, List.getElem?_set_ne (fun c => e c.symm)]
/-- What a round of 'begin' comes to, so far. -/
structure begI (l : List Face) (w : List Int) (t k : Nat) (u : List Int) : Prop where
  len : u.length = l.length
  v : ∀ i, wv u i = if i < k then wv (begun l w t) i else wv w i
  d : ∀ (i : Nat) (f : Face), i < k → l[i]? = some f → ¬ (f.P.toNat ∣ t ∧ 0 < wv w i)
theorem begI.zero {l : List Face} {w : List Int} {t : Nat} (h : w.length = l.length) : begI l w t 0 w := ⟨h, fun i => by rw [if_neg (by omega)], fun i f h => by omega⟩
theorem begI.keep {l : List Face} {w : List Int} {t k : Nat} {u : List Int} (h : begI l w t k u) (hk : k < l.length) (hn : ¬ l[k].P.toNat ∣ t) : begI l w t (k + 1) u := by
  have hf : l[k]? = some l[k] := List.getElem?_eq_getElem hk
  refine ⟨h.len, fun i => ?_, fun i f hi hfi => ?_⟩
  · rw [h.v i]
    by_cases e : i = k
    · subst e
      rw [if_neg (by omega), if_pos (by omega), begun_at hf, if_neg hn]
    · by_cases c : i < k
      · rw [if_pos c, if_pos (by omega)]
      · rw [if_neg c, if_neg (by omega)]
  · by_cases e : i = k
    · subst e; rw [hf] at hfi; cases hfi; exact fun hh => hn hh.1
    · exact h.d i f (by omega) hfi
theorem begI.set {l : List Face} {w : List Int} {t k : Nat} {u : List Int} (h : begI l w t k u) (hk : k < l.length) (hn : l[k].P.toNat ∣ t) (hw : ¬ 0 < wv w k) : begI l w t (k + 1) (u.set k l[k].B) := by
  have hf : l[k]? = some l[k] := List.getElem?_eq_getElem hk
  have hku : k < u.length := by rw [h.len]; exact hk
  refine ⟨by rw [List.length_set]; exact h.len, fun i => ?_, fun i f hi hfi => ?_⟩
  · rw [wv_set hku]
    by_cases e : i = k
    · subst e
      rw [if_pos rfl, if_pos (by omega), begun_at hf, if_pos hn]
    · rw [if_neg e, h.v i]
      by_cases c : i < k
      · rw [if_pos c, if_pos (by omega)]
      · rw [if_neg c, if_neg (by omega)]
  · by_cases e : i = k
    · subst e; exact fun hh => hw hh.2
    · exact h.d i f (by omega) hfi
theorem begI.at {l : List Face} {w : List Int} {t k : Nat} {u : List Int} (h : begI l w t k u) : wv u k = wv w k := by rw [h.v k, if_neg (by omega)]
theorem begI.end {l : List Face} {w : List Int} {t : Nat} {u : List Int} (h : begI l w t l.length u) : u = begun l w t ∧ ¬ denyP l w t := by
  refine ⟨eq_of_wv (by rw [h.len, begun_len]) fun i => ?_, ?_⟩
  · rw [h.v i]
    by_cases c : i < l.length
    · rw [if_pos c]
    · rw [if_neg c]
      have hb : (begun l w t)[i]? = none := List.getElem?_eq_none (by rw [begun_len]; omega)
      have hu := h.v i
      rw [if_neg c] at hu
      have hu2 : u[i]? = none := List.getElem?_eq_none (by rw [h.len]; omega)
      rw [← hu]
      unfold wv
      rw [hb, hu2]
  · rintro ⟨i, f, hf, a, b⟩
    exact h.d i f (List.getElem?_eq_some_iff.1 hf).1 hf ⟨a, b⟩
/-- Who is next, so far: with its time. -/
structure nxI (l : List Face) (u : List Int) (t k : Nat) (out due : Int) : Prop where
  n : isNext l u t k out
  d : ∀ (i : Nat) (f : Face), out = (i : Int) → l[i]? = some f → due = ((byV f t : Nat) : Int)
theorem nxI.zero {l : List Face} {u : List Int} {t : Nat} : nxI l u t 0 (-1) 0 := ⟨.inl ⟨rfl, fun i h => by omega⟩, fun i f h => by omega⟩
theorem nxI.keep {l : List Face} {u : List Int} {t k : Nat} {out due : Int} (h : nxI l u t k out due) (hk : k < l.length) (hc : ¬ (0 < wv u k ∧ (out = -1 ∨ ((byV l[k] t : Nat) : Int) < due))) : nxI l u t (k + 1) out due := by
  have hfk : l[k]? = some l[k] := List.getElem?_eq_getElem hk
  refine ⟨?_, h.d⟩
  rcases h.n with ⟨rfl, a⟩ | ⟨i, f, hi, rfl, hf, hw, a⟩
  · refine .inl ⟨rfl, fun i hi => ?_⟩
    by_cases e : i = k
    · subst e; exact Int.not_lt.1 fun hh => hc ⟨hh, .inl rfl⟩
    · exact a i (by omega)
  · refine .inr ⟨i, f, by omega, rfl, hf, hw, fun j g hj hg hwj => ?_⟩
    by_cases e : j = k
    · subst e
      rw [hfk] at hg; cases hg
      have hd := h.d i f rfl hf
      have : ¬ ((byV l[j] t : Nat) : Int) < due := fun hh => hc ⟨hwj, .inr hh⟩
      omega
    · exact a j g (by omega) hg hwj
theorem nxI.take {l : List Face} {u : List Int} {t k : Nat} {out due : Int} (h : nxI l u t k out due) (hk : k < l.length) (hw : 0 < wv u k) (hc : out = -1 ∨ ((byV l[k] t : Nat) : Int) < due) : nxI l u t (k + 1) (k : Int) ((byV l[k] t : Nat) : Int) := by
  have hfk : l[k]? = some l[k] := List.getElem?_eq_getElem hk
  refine ⟨.inr ⟨k, l[k], by omega, rfl, hfk, hw, fun j g hj hg hwj => ?_⟩, fun i f hi hf => ?_⟩
  · by_cases e : j = k
    · subst e; rw [hfk] at hg; cases hg; exact .inr ⟨rfl, Nat.le_refl _⟩
    · rcases h.n with ⟨rfl, a⟩ | ⟨i, f, hi, rfl, hf, hw', a⟩
      · have := a j (by omega); omega
      · have hd := h.d i f rfl hf
        have hlt := hc.resolve_left (by omega)
        have := a j g (by omega) hg hwj
        omega
  · have : i = k := by omega
    subst this
    rw [hfk] at hf; cases hf; rfl
/-! Systems, and how they begin. -/
def portIn (n : Int) (p : Port) : Prop := p.From < n ∧ p.To < n
structure confP (c : Config) : Prop where
  ps : ∀ p ∈ c.Parts, faceP p.Face ∧ AllP p.Tasks
  pl : c.Parts.length ≤ 4
  qs : ∀ p ∈ c.Ports, portP p
  qi : ∀ p ∈ c.Ports, portIn (c.Parts.length : Int) p
  ql : c.Ports.length ≤ 4
noncomputable instance (c : Config) : Decidable (confP c) := Classical.propDecidable _
structure confB (c : Config) : Prop where
  p : c.Parts.length ≤ 4611686018427387904
  q : c.Ports.length ≤ 1000
  t : ∀ p ∈ c.Parts, p.Tasks.length ≤ 4611686018427387904 ∧ ∀ t ∈ p.Tasks, t.Secs.length ≤ 4611686018427387904
theorem mem_take_succ {α : Type} {l : List α} {k : Nat} (h : k < l.length) {x : α} (hx : x ∈ l.take (k + 1)) : x ∈ l.take k ∨ x = l[k] := by
  rw [← List.take_append_getElem h] at hx
  rcases List.mem_append.1 hx with h | h
  · exact .inl h
  · exact .inr (List.mem_singleton.1 h)
theorem image_Right_eq (c : Config) (hb : confB c) : image_Right c = some (decide (confP c)) := by
  unfold image_Right
  refine lp_up c.Parts.length (by unfold FU; have := hb.p; omega) (fun k => ∀ p ∈ c.Parts.take k, faceP p.Face ∧ AllP p.Tasks) (fun p h => by simp at h) ?_
  intro nx k hk J hnx
  rw [lt_nat]
  by_cases hk' : k < c.Parts.length
  · have hm := List.getElem_mem hk'
    rw [decide_eq_true hk', fk_t, ix_lt hk', wr_succ k _ hk' hb.p]
    by_cases hh : faceP c.Parts[k].Face ∧ AllP c.Parts[k].Tasks
    · refine jn_to false (fun k3 => ?_) ?_
      · rw [bnd_eq (supply_Right_eq _), decide_eq_true hh.1, Bool.not_true, fk_f, bnd_eq (task_All_eq _ (hb.t _ hm).1), decide_eq_true hh.2]; rfl
      · rw [fk_f]
        refine hnx hk' fun p hp => ?_
        rcases mem_take_succ hk' hp with h | rfl
        · exact J p h
        · exact hh
    · refine jn_to true (fun k3 => ?_) ?_
      · rw [bnd_eq (supply_Right_eq _)]
        by_cases h1 : faceP c.Parts[k].Face
        · rw [decide_eq_true h1, Bool.not_true, fk_f, bnd_eq (task_All_eq _ (hb.t _ hm).1), decide_eq_false (fun h2 => hh ⟨h1, h2⟩)]; rfl
        · rw [decide_eq_false h1, Bool.not_false, fk_t]
      · rw [fk_t, decide_eq_false (fun h : confP c => hh (h.ps _ hm))]
  rw [List.take_of_length_le (by omega)] at J
  rw [decide_eq_false hk', fk_f]
  clear hnx nx hk hk' k
  refine lp_up c.Ports.length (by unfold FU; have := hb.q; omega) (fun k => ∀ p ∈ c.Ports.take k, portIn (c.Parts.length : Int) p) (fun p h => by simp at h) ?_
  intro nx k hk J2 hnx
  rw [lt_nat]
  by_cases hk' : k < c.Ports.length
  · have hm := List.getElem_mem hk'
    rw [decide_eq_true hk', fk_t, ix_lt hk', wr_succ k _ hk' (by have := hb.q; omega)]
    by_cases hh : portIn (c.Parts.length : Int) c.Ports[k]
    · refine jn_to false (fun k3 => ?_) ?_
      · unfold portIn at hh
        rw [decide_eq_false (by omega), fk_f, decide_eq_false (by omega)]
      · rw [fk_f]
        refine hnx hk' fun p hp => ?_
        rcases mem_take_succ hk' hp with h | rfl
        · exact J2 p h
        · exact hh
    · refine jn_to true (fun k3 => ?_) ?_
      · unfold portIn at hh
        by_cases h1 : c.Ports[k].From ≥ (c.Parts.length : Int)
        · rw [decide_eq_true h1, fk_t]
        · rw [decide_eq_false h1, fk_f, decide_eq_true (show c.Ports[k].To ≥ (c.Parts.length : Int) from Int.not_lt.1 fun h2 => hh ⟨by omega, h2⟩)]
      · rw [fk_t, decide_eq_false (fun h : confP c => hh (h.qi _ hm))]
  rw [List.take_of_length_le (by omega)] at J2
  rw [decide_eq_false hk', fk_f, bnd_eq (port_Open_eq _ hb.q)]
  by_cases ho : (∀ p ∈ c.Ports, portP p) ∧ c.Ports.length ≤ 4
  · rw [if_pos ho, decide_eq_true rfl, fk_t]
    exact dec_iff ⟨fun h => ⟨J, by omega, ho.1, J2, ho.2⟩, fun h => by have := h.pl; omega⟩
  · rw [if_neg ho]
    show fk (decide ((1 : Int) = 0)) _ _ = _
    rw [decide_eq_false (by decide), fk_f]
    exact dec_f fun h => ho ⟨h.qs, h.ql⟩
structure booted (c : Config) (s : KernelState) (ticks : List Int) : Prop where
  conf : confP c
  faces : s.Faces = c.Parts.map (·.Face)
  parts : s.Parts = c.Parts.map fun p => new0 p.Tasks
  lines : s.Lines = c.Ports.map newL
  now : s.Now = 0
  tab : tabP s.Table
  len : s.Table.Frame = (ticks.length : Int)
  at' : ∀ (x : Nat) (y : Int), ticks[x]? = some y → whoV s.Table.Windows (x : Int) = y
end Go.Proofs.YtfnaclhllopoeaaGreat
namespace Go.Proofs.YtfnaclhllopoeaaGreat
open Go Go.VC
/-! Bytes are read: just what comes of it. -/
section
variable {R : Type} {P : R → Prop}
theorem jn_at {σ : Type} {Y : σ → Option R} {X : (σ → Option R) → Option R} (h : ∀ k, k = Y → ∃ r, X k = some r ∧ P r) : ∃ r, jn Y X = some r ∧ P r := h Y rfl
noncomputable def rdRow {E : Type} (take : Int → Int → Int × Int × E) : Nat → Int → Int → List E → Int × Int × List E
  | 0, p, e, l => (p, e, l)
  | n + 1, p, e, l => if e = 0 then rdRow take n (take p e).1 (take p e).2.1 (l ++ [(take p e).2.2]) else (p, e, l)
theorem rdRow_ok {E : Type} {take : Int → Int → Int × Int × E} {N : Int} {good : E → Prop} (tk : ∀ p e, 0 ≤ p → p ≤ N → 0 ≤ (take p e).1 ∧ (take p e).1 ≤ N ∧ good (take p e).2.2) : ∀ (n : Nat) (p e : Int) (l : List E), 0 ≤ p → p ≤ N → (∀ x ∈ l, good x) → 0 ≤ (rdRow take n p e l).1 ∧ (rdRow take n p e l).1 ≤ N ∧ (rdRow take n p e l).2.2.length ≤ l.length + n ∧ ∀ x ∈ (rdRow take n p e l).2.2, good x
  | 0, p, e, l, h0, h1, hg => ⟨h0, h1, Nat.le_refl _, hg⟩
  | n + 1, p, e, l, h0, h1, hg => by
    unfold rdRow
    by_cases c : e = 0
    · rw [if_pos c]
      obtain ⟨a, b, d⟩ := tk p e h0 h1
      obtain ⟨q1, q2, q3, q4⟩ := rdRow_ok tk n (take p e).1 (take p e).2.1 (l ++ [(take p e).2.2]) a b (fun x hx => by
        rcases List.mem_append.1 hx with h | h
        · exact hg x h
        · rw [List.mem_singleton.1 h]; exact d)
      refine ⟨q1, q2, ?_, q4⟩
      rw [List.length_append] at q3
      simp only [List.length_cons, List.length_nil] at q3
      omega
    · rw [if_neg c]
      exact ⟨h0, h1, by show l.length ≤ _; omega, hg⟩
theorem row_eq {E : Type} {N : Int} {body : (Int × Int × List E × Int → Option R) → Int × Int × List E × Int → Option R} {Y : Int × Int × List E → Option R} (take : Int → Int → Int × Int × E) {p e n : Int} (hp0 : 0 ≤ p) (hpN : p ≤ N) (hn0 : 0 ≤ n) (hn : n ≤ 255)
    (tk : ∀ p e, 0 ≤ p → p ≤ N → 0 ≤ (take p e).1 ∧ (take p e).1 ≤ N) (hY : ∃ r, Y (rdRow take n.toNat p e []) = some r ∧ P r)
    (step : ∀ (nx : Int × Int × List E × Int → Option R) (p e : Int) (l : List E) (n : Int), 0 ≤ p → p ≤ N → 0 ≤ n → n ≤ 255 → l.length ≤ 255 → (0 < n → l.length ≤ 254) → (0 < n → e = 0 → ∃ r, nx ((take p e).1, (take p e).2.1, l ++ [(take p e).2.2], wr (n - 1)) = some r ∧ P r) → (¬ (0 < n ∧ e = 0) → ∃ r, Y (p, e, l) = some r ∧ P r) → ∃ r, body nx (p, e, l, n) = some r ∧ P r) :
    ∃ r, lp body FU (p, e, [], n) = some r ∧ P r := by
  refine lp_ex (fun v => v.2.2.2.toNat) (fun v => 0 ≤ v.1 ∧ v.1 ≤ N ∧ 0 ≤ v.2.2.2 ∧ v.2.2.2 ≤ 255 ∧ (v.2.2.1.length : Int) + v.2.2.2 ≤ 255 ∧ ∃ r, Y (rdRow take v.2.2.2.toNat v.1 v.2.1 v.2.2.1) = some r ∧ P r) P ?_ FU _ ⟨hp0, hpN, hn0, hn, by simpa using hn, hY⟩ (by unfold FU; simp only; omega)
  rintro nx ⟨p, e, l, n⟩ ⟨a1, a2, a3, a4, a5, a6⟩ hnx
  simp only at a1 a2 a3 a4 a5 a6
  refine step nx p e l n a1 a2 a3 a4 (by omega) (fun h => by omega) (fun hpos he => ?_) (fun hno => ?_)
  · have hw : wr (n - 1) = n - 1 := wr_in _ (by omega)
    obtain ⟨b1, b2⟩ := tk p e a1 a2
    rw [hw]
    rw [show n.toNat = (n - 1).toNat + 1 by omega] at a6
    unfold rdRow at a6
    rw [if_pos he] at a6
    refine hnx _ ⟨b1, b2, by show 0 ≤ n - 1; omega, by show n - 1 ≤ 255; omega, ?_, a6⟩ (by show (n - 1).toNat < n.toNat; omega)
    show ((l ++ [_]).length : Int) + (n - 1) ≤ 255
    rw [List.length_append]; simp only [List.length_cons, List.length_nil]; omega
  · by_cases h0 : 0 < n
    · have he : ¬ e = 0 := fun h => hno ⟨h0, h⟩
      rw [show n.toNat = (n - 1).toNat + 1 by omega] at a6
      unfold rdRow at a6
      rw [if_neg he] at a6
      exact a6
    · rw [show n.toNat = 0 by omega] at a6
      exact a6
theorem guard_Q {n e : Int} {X Y : Option R} (hX : 0 < n → e = 0 → ∃ r, X = some r ∧ P r) (hY : ¬ (0 < n ∧ e = 0) → ∃ r, Y = some r ∧ P r) : ∃ r, jn (fun (w : Bool) => fk w X Y) (fun k => fk (decide (n > (0 : Int))) (k (decide (e = (0 : Int)))) (k false)) = some r ∧ P r := by
  rw [jn_eq]
  by_cases h : 0 < n
  · rw [decide_eq_true h, fk_t]
    by_cases c : e = 0
    · rw [decide_eq_true c]; exact hX h c
    · rw [decide_eq_false c]; exact hY fun g => c g.2
  · rw [decide_eq_false h, fk_f]; exact hY fun g => h g.1
end
noncomputable def secRd (b : List Int) (p e : Int) : Int × Int × Sec :=
  let x := oneV b p e; let y := oneV b x.1 x.2.1; let z := oneV b y.1 y.2.1; (z.1, z.2.1, ⟨x.2.2, y.2.2, z.2.2⟩)
noncomputable def portRd (b : List Int) (p e : Int) : Int × Int × Port :=
  let x := oneV b p e; let y := oneV b x.1 x.2.1; let z := oneV b y.1 y.2.1; (z.1, z.2.1, ⟨x.2.2, y.2.2, z.2.2⟩)
noncomputable def taskRd (b : List Int) (p e : Int) : Int × Int × Task :=
  let c := oneV b p e; let d := oneV b c.1 c.2.1; let t := oneV b d.1 d.2.1; let n := oneV b t.1 t.2.1; let s := rdRow (secRd b) n.2.2.toNat n.1 n.2.1 []; (s.1, s.2.1, ⟨c.2.2, d.2.2, t.2.2, s.2.2⟩)
noncomputable def partRd (b : List Int) (p e : Int) : Int × Int × Part :=
  let q := oneV b p e; let r := oneV b q.1 q.2.1; let n := oneV b r.1 r.2.1; let s := rdRow (taskRd b) n.2.2.toNat n.1 n.2.1 []; (s.1, s.2.1, ⟨⟨q.2.2, r.2.2⟩, s.2.2⟩)
noncomputable def endRd (b : List Int) (l : List Part) (w : Int × Int × List Port) : Config × Int × Int :=
  if w.2.1 = 0 then (if w.1 < (b.length : Int) then (⟨[], []⟩, w.1, 2) else if confP ⟨l, w.2.2⟩ then (⟨l, w.2.2⟩, 0, 0) else (⟨[], []⟩, 0, 1)) else (⟨[], []⟩, (b.length : Int), w.2.1)
noncomputable def restRd (b : List Int) (p e : Int) : Config × Int × Int :=
  let n := oneV b p e; let s := rdRow (partRd b) n.2.2.toNat n.1 n.2.1 []; let m := oneV b s.1 s.2.1; endRd b s.2.2 (rdRow (portRd b) m.2.2.toNat m.1 m.2.1 [])
noncomputable def magRd (b : List Int) : Nat → Int → Int → Config × Int × Int
  | 0, p, e => restRd b p e
  | k + 1, p, e => if (oneV b p e).2.1 = 0 ∧ (oneV b p e).2.2 ≠ ([84, 75, 49] : List Int).getD (2 - k) 0 then (⟨[], []⟩, ((2 - k : Nat) : Int), 2) else magRd b k (oneV b p e).1 (oneV b p e).2.1
theorem secRd_ok {b : List Int} (hb : bytesP b) (p e : Int) (h0 : 0 ≤ p) (h1 : p ≤ b.length) : 0 ≤ (secRd b p e).1 ∧ (secRd b p e).1 ≤ b.length ∧ True := by
  obtain ⟨a1, a2, _⟩ := oneV_ok hb e h0 h1
  obtain ⟨b1, b2, _⟩ := oneV_ok hb (oneV b p e).2.1 a1 a2
  obtain ⟨c1, c2, _⟩ := oneV_ok hb (oneV b (oneV b p e).1 (oneV b p e).2.1).2.1 b1 b2
  exact ⟨c1, c2, trivial⟩
theorem portRd_ok {b : List Int} (hb : bytesP b) (p e : Int) (h0 : 0 ≤ p) (h1 : p ≤ b.length) : 0 ≤ (portRd b p e).1 ∧ (portRd b p e).1 ≤ b.length ∧ True := by
  obtain ⟨a1, a2, _⟩ := oneV_ok hb e h0 h1
  obtain ⟨b1, b2, _⟩ := oneV_ok hb (oneV b p e).2.1 a1 a2
  obtain ⟨c1, c2, _⟩ := oneV_ok hb (oneV b (oneV b p e).1 (oneV b p e).2.1).2.1 b1 b2
  exact ⟨c1, c2, trivial⟩
theorem taskRd_ok {b : List Int} (hb : bytesP b) (p e : Int) (h0 : 0 ≤ p) (h1 : p ≤ b.length) : 0 ≤ (taskRd b p e).1 ∧ (taskRd b p e).1 ≤ b.length ∧ goodT (taskRd b p e).2.2 := by
  unfold taskRd
  dsimp only
  obtain ⟨a1, a2, _⟩ := oneV_ok hb e h0 h1
  generalize oneV b p e = c at *
  obtain ⟨b1, b2, _⟩ := oneV_ok hb c.2.1 a1 a2
  generalize oneV b c.1 c.2.1 = d at *
  obtain ⟨c1, c2, _⟩ := oneV_ok hb d.2.1 b1 b2
  generalize oneV b d.1 d.2.1 = t at *
  obtain ⟨d1, d2, d3, d4⟩ := oneV_ok hb t.2.1 c1 c2
  generalize oneV b t.1 t.2.1 = n at *
  obtain ⟨q1, q2, q3, _⟩ := rdRow_ok (take := secRd b) (good := fun _ => True) (secRd_ok hb) n.2.2.toNat n.1 n.2.1 [] d1 d2 (fun x h => (List.not_mem_nil h).elim)
  refine ⟨q1, q2, ?_⟩
  show (rdRow (secRd b) _ _ _ []).2.2.length ≤ 255
  rw [List.length_nil] at q3
  omega
theorem partRd_ok {b : List Int} (hb : bytesP b) (p e : Int) (h0 : 0 ≤ p) (h1 : p ≤ b.length) : 0 ≤ (partRd b p e).1 ∧ (partRd b p e).1 ≤ b.length ∧ goodQ (partRd b p e).2.2 := by
  unfold partRd
  dsimp only
  obtain ⟨a1, a2, _⟩ := oneV_ok hb e h0 h1
  generalize oneV b p e = c at *
  obtain ⟨b1, b2, _⟩ := oneV_ok hb c.2.1 a1 a2
  generalize oneV b c.1 c.2.1 = d at *
  obtain ⟨c1, c2, c3, c4⟩ := oneV_ok hb d.2.1 b1 b2
  generalize oneV b d.1 d.2.1 = n at *
  obtain ⟨q1, q2, q3, q4⟩ := rdRow_ok (take := taskRd b) (good := goodT) (taskRd_ok hb) n.2.2.toNat n.1 n.2.1 [] c1 c2 (fun x h => (List.not_mem_nil h).elim)
  refine ⟨q1, q2, ?_, q4⟩
  show (rdRow (taskRd b) _ _ _ []).2.2.length ≤ 255
  rw [List.length_nil] at q3
  omega
theorem goodC.confB {c : Config} (h : goodC c) : confB c := ⟨by have := h.1; omega, by have := h.2.1; omega, fun p hp => ⟨by have := (h.2.2 p hp).1; omega, fun t ht => by have := (h.2.2 p hp).2 t ht; unfold goodT at this; omega⟩⟩
theorem image_Decode_is (b : List Int) (hb : bytesP b) : ∃ r, image_Decode b = some r ∧ r = magRd b 3 0 0 := by
  have hl := hb.1
  obtain ⟨G, hG⟩ : ∃ G, G = magRd b 3 0 0 := ⟨_, rfl⟩
  rw [← hG]
  unfold image_Decode
  refine lp_ex (fun v : Int × Int × Int => 3 - v.2.2.toNat) (fun v : Int × Int × Int => 0 ≤ v.1 ∧ v.1 ≤ (b.length : Int) ∧ 0 ≤ v.2.2 ∧ v.2.2 ≤ 3 ∧ G = magRd b (3 - v.2.2.toNat) v.1 v.2.1) _ ?_ FU _ ⟨Int.le_refl _, by simp, Int.le_refl _, by decide, hG⟩ (by unfold FU; simp)
  clear hG
  rintro nx ⟨p, e, i⟩ ⟨h0, h1, h2, h3, hm⟩ hnx
  simp only at h0 h1 h2 h3 hm
  refine fk_P (fun hi => ?_) (fun hi => ?_)
  · have hi : i < 3 := of_decide_eq_true hi
    refine one_to hb h0 h1 ?_
    obtain ⟨a1, a2, a3, a4⟩ := oneV_ok hb e h0 h1
    rw [show 3 - i.toNat = (2 - i.toNat) + 1 by omega] at hm
    unfold magRd at hm
    rw [show 2 - (2 - i.toNat) = i.toNat by omega] at hm
    generalize oneV b p e = w at a1 a2 a3 a4 hm ⊢
    refine jn_P ?_
    have fin : (¬ (w.2.1 = 0 ∧ w.2.2 ≠ ([84, 75, 49] : List Int).getD i.toNat 0)) → ∃ r, nx (w.1, w.2.1, wr (i + 1)) = some r ∧ r = G := fun hn => by
      rw [if_neg hn] at hm
      rw [wr_in (i + 1) (by omega)]
      refine hnx _ ⟨a1, a2, by show 0 ≤ i + 1; omega, by show i + 1 ≤ 3; omega, ?_⟩ (by show 3 - (i + 1).toNat < 3 - i.toNat; omega)
      rw [hm]
      show magRd b _ w.1 w.2.1 = magRd b _ w.1 w.2.1
      rw [show 2 - i.toNat = 3 - (i + 1).toNat by omega]
    refine fk_P (fun he => ?_) (fun he => ?_)
    · have he : w.2.1 = 0 := of_decide_eq_true he
      have hlt : i.toNat < ([84, 75, 49] : List Int).length := by simp; omega
      rw [ix_int h2 hlt]
      have hgd : ([84, 75, 49] : List Int).getD i.toNat 0 = ([84, 75, 49] : List Int)[i.toNat] := by rw [List.getD_eq_getElem?_getD, List.getElem?_eq_getElem hlt]; rfl
      have hwr : IntKind.i64.wrap (([84, 75, 49] : List Int)[i.toNat]) = ([84, 75, 49] : List Int)[i.toNat] := by
        refine wr_in _ ?_
        have : ∀ x ∈ ([84, 75, 49] : List Int), 0 ≤ x ∧ x ≤ 100 := by decide
        have := this _ (List.getElem_mem hlt)
        omega
      rw [hgd] at hm fin
      dsimp only
      rw [hwr]
      by_cases hc : w.2.2 = ([84, 75, 49] : List Int)[i.toNat]
      · rw [decide_eq_true hc, Bool.not_true, fk_f]
        exact fin fun g => g.2 hc
      · rw [decide_eq_false hc, Bool.not_false, fk_t]
        rw [if_pos ⟨he, hc⟩] at hm
        exact ⟨_, rfl, by rw [hm, show ((i.toNat : Nat) : Int) = i by omega]⟩
    · have he : ¬ w.2.1 = 0 := of_decide_eq_false he
      exact fin fun g => he g.1
  · have hi : ¬ i < 3 := of_decide_eq_false hi
    rw [show 3 - i.toNat = 0 by omega] at hm
    rw [hm]
    show ∃ r, _ = some r ∧ r = restRd b p e
    unfold restRd
    dsimp only
    refine jn_at fun k8 hk8 => ?_
    refine one_to hb h0 h1 ?_
    obtain ⟨a1, a2, a3, a4⟩ := oneV_ok hb e h0 h1
    generalize oneV b p e = w at a1 a2 a3 a4 ⊢
    refine row_eq (N := b.length) (Y := k8) (partRd b) a1 a2 a3 a4 (fun p e x y => ⟨(partRd_ok hb p e x y).1, (partRd_ok hb p e x y).2.1⟩) ?_ ?_
    · subst hk8
      obtain ⟨c1, c2, c3, c4⟩ := rdRow_ok (take := partRd b) (good := goodQ) (partRd_ok hb) w.2.2.toNat w.1 w.2.1 [] a1 a2 (fun x h => (List.not_mem_nil h).elim)
      generalize rdRow (partRd b) w.2.2.toNat w.1 w.2.1 [] = s at c1 c2 c3 c4 ⊢
      rw [List.length_nil] at c3
      refine jn_at fun k63 hk63 => ?_
      refine one_to hb c1 c2 ?_
      obtain ⟨d1, d2, d3, d4⟩ := oneV_ok hb s.2.1 c1 c2
      generalize oneV b s.1 s.2.1 = m at d1 d2 d3 d4 ⊢
      refine row_eq (N := b.length) (Y := k63) (portRd b) d1 d2 d3 d4 (fun p e x y => ⟨(portRd_ok hb p e x y).1, (portRd_ok hb p e x y).2.1⟩) ?_ ?_
      · subst hk63
        obtain ⟨f1, f2, f3, f4⟩ := rdRow_ok (take := portRd b) (good := fun _ => True) (portRd_ok hb) m.2.2.toNat m.1 m.2.1 [] d1 d2 (fun x h => (List.not_mem_nil h).elim)
        generalize rdRow (portRd b) m.2.2.toNat m.1 m.2.1 [] = q at f1 f2 f3 f4 ⊢
        rw [List.length_nil] at f3
        have hg : goodC ⟨s.2.2, q.2.2⟩ := ⟨by show s.2.2.length ≤ 255; omega, by show q.2.2.length ≤ 255; omega, c4⟩
        have hv := image_Right_eq ⟨s.2.2, q.2.2⟩ hg.confB
        unfold endRd
        refine fk_P (fun he => ?_) (fun he => ?_)
        · have he : ¬ q.2.1 = 0 := fun h => by rw [h] at he; cases he
          rw [if_neg he]; exact ⟨_, rfl, rfl⟩
        have he : q.2.1 = 0 := by
          by_cases c : q.2.1 = 0
          · exact c
          · rw [decide_eq_false c] at he; cases he
        rw [if_pos he]
        refine fk_P (fun hp => ?_) (fun hp => ?_)
        · rw [if_pos (of_decide_eq_true hp)]; exact ⟨_, rfl, rfl⟩
        rw [if_neg (of_decide_eq_false hp), bnd_eq hv]
        by_cases hc : confP ⟨s.2.2, q.2.2⟩
        · rw [decide_eq_true hc, Bool.not_true, fk_f, if_pos hc]; exact ⟨_, rfl, rfl⟩
        · rw [decide_eq_false hc, Bool.not_false, fk_t, if_neg hc]; exact ⟨_, rfl, rfl⟩
      · intro nx p e l n h0 h1 n0 n1 q1 q2 hnx hout
        refine guard_Q (fun hpos he => ?_) hout
        have hn2 := hnx hpos he
        unfold portRd at hn2
        dsimp only at hn2
        refine one_to hb h0 h1 ?_
        obtain ⟨a1, a2, _, _⟩ := oneV_ok hb e h0 h1
        generalize oneV b p e = w1 at a1 a2 hn2 ⊢
        refine one_to hb a1 a2 ?_
        obtain ⟨b1, b2, _, _⟩ := oneV_ok hb w1.2.1 a1 a2
        generalize oneV b w1.1 w1.2.1 = w2 at b1 b2 hn2 ⊢
        refine one_to hb b1 b2 ?_
        obtain ⟨c1, c2, _, _⟩ := oneV_ok hb w2.2.1 b1 b2
        generalize oneV b w2.1 w2.2.1 = w3 at c1 c2 hn2 ⊢
        exact ck_P (ck1 q1 (by decide)) hn2
    · intro nx p e l n h0 h1 n0 n1 l1 l2 hnx hout
      refine guard_Q (fun hpos he => ?_) hout
      have hn2 := hnx hpos he
      unfold partRd at hn2
      dsimp only at hn2
      refine jn_P ?_
      refine one_to hb h0 h1 ?_
      obtain ⟨a1, a2, _, _⟩ := oneV_ok hb e h0 h1
      generalize oneV b p e = w1 at a1 a2 hn2 ⊢
      refine one_to hb a1 a2 ?_
      obtain ⟨b1, b2, _, _⟩ := oneV_ok hb w1.2.1 a1 a2
      generalize oneV b w1.1 w1.2.1 = w2 at b1 b2 hn2 ⊢
      refine jn_at fun kt hkt => ?_
      refine one_to hb b1 b2 ?_
      obtain ⟨c1, c2, c3, c4⟩ := oneV_ok hb w2.2.1 b1 b2
      generalize oneV b w2.1 w2.2.1 = w3 at c1 c2 c3 c4 hn2 ⊢
      refine row_eq (N := b.length) (Y := kt) (taskRd b) c1 c2 c3 c4 (fun p e x y => ⟨(taskRd_ok hb p e x y).1, (taskRd_ok hb p e x y).2.1⟩) ?_ ?_
      · subst hkt
        exact ck_P (ck1 l1 (by decide)) hn2
      · intro nx2 p2 e2 ts n2 h20 h21 n20 n21 t1 t2 hnx2 hout2
        refine guard_Q (fun hpos2 he2 => ?_) hout2
        have hn3 := hnx2 hpos2 he2
        unfold taskRd at hn3
        dsimp only at hn3
        refine jn_P ?_
        refine one_to hb h20 h21 ?_
        obtain ⟨a1, a2, _, _⟩ := oneV_ok hb e2 h20 h21
        generalize oneV b p2 e2 = u1 at a1 a2 hn3 ⊢
        refine one_to hb a1 a2 ?_
        obtain ⟨b1, b2, _, _⟩ := oneV_ok hb u1.2.1 a1 a2
        generalize oneV b u1.1 u1.2.1 = u2 at b1 b2 hn3 ⊢
        refine one_to hb b1 b2 ?_
        obtain ⟨c1, c2, _, _⟩ := oneV_ok hb u2.2.1 b1 b2
        generalize oneV b u2.1 u2.2.1 = u3 at c1 c2 hn3 ⊢
        refine jn_at fun ks hks => ?_
        refine one_to hb c1 c2 ?_
        obtain ⟨d1, d2, d3, d4⟩ := oneV_ok hb u3.2.1 c1 c2
        generalize oneV b u3.1 u3.2.1 = u4 at d1 d2 d3 d4 hn3 ⊢
        refine row_eq (N := b.length) (Y := ks) (secRd b) d1 d2 d3 d4 (fun p e x y => ⟨(secRd_ok hb p e x y).1, (secRd_ok hb p e x y).2.1⟩) ?_ ?_
        · subst hks
          exact ck_P (ck1 t1 (by decide)) hn3
        · intro nx3 p3 e3 ss n3 h30 h31 n30 n31 s1 s2 hnx3 hout3
          refine guard_Q (fun hpos3 he3 => ?_) hout3
          have hn4 := hnx3 hpos3 he3
          unfold secRd at hn4
          dsimp only at hn4
          refine one_to hb h30 h31 ?_
          obtain ⟨a1, a2, _, _⟩ := oneV_ok hb e3 h30 h31
          generalize oneV b p3 e3 = y1 at a1 a2 hn4 ⊢
          refine one_to hb a1 a2 ?_
          obtain ⟨b1, b2, _, _⟩ := oneV_ok hb y1.2.1 a1 a2
          generalize oneV b y1.1 y1.2.1 = y2 at b1 b2 hn4 ⊢
          refine one_to hb b1 b2 ?_
          obtain ⟨c1, c2, _, _⟩ := oneV_ok hb y2.2.1 b1 b2
          generalize oneV b y2.1 y2.2.1 = y3 at c1 c2 hn4 ⊢
          exact ck_P (ck1 s1 (by decide)) hn4
end Go.Proofs.YtfnaclhllopoeaaGreat
