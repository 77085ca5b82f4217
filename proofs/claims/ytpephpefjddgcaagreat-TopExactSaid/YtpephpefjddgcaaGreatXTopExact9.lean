/- Part 20 of what follows is proved here: what the statement TopExact needs of functions and plain laws. -/
import Derived.Test.YtpephpefjddgcaaGreatXTopExact7
import Derived.Test.YtpephpefjddgcaaGreatXTopExact8
set_option linter.unusedVariables false
set_option linter.unusedSimpArgs false
set_option maxRecDepth 100000
set_option maxHeartbeats 40000000
namespace Go.Proofs.YtpephpefjddgcaaGreat
open Go Go.VC
noncomputable def image_Decode (a0 : List Int) : Option (Config × Int × Int) :=
  lp (fun nx1 (v1 : Int × Int × Int) => fk (decide (v1.2.2 < (3 : Int))) (jn (fun (w2 : Int × Int × Int) => jn (fun (w6 : Bool) => fk w6 (some (⟨[], []⟩, v1.2.2, (2 : Int))) (nx1 (w2.1, w2.2.1, (wr (v1.2.2 + (1 : Int)))))) (fun k6 => fk (decide (w2.2.1 = (0 : Int))) (ix ([84, 75, 49] : List Int) v1.2.2 fun x7 => k6 (!decide (w2.2.2 = (IntKind.i64.wrap x7)))) (k6 false))) (fun k2 => jn (fun (w3 : Int) => fk (!decide (w3 = (0 : Int))) (k2 (v1.1, w3, (0 : Int))) (ix a0 (wr ((wr (v1.1 + (1 : Int))) - (1 : Int))) fun x5 => k2 ((wr (v1.1 + (1 : Int))), w3, (IntKind.i64.wrap x5)))) (fun k3 => jn (fun (w4 : Bool) => fk w4 (k3 (8 : Int)) (k3 v1.2.1)) (fun k4 => fk (decide (v1.2.1 = (0 : Int))) (k4 (decide (v1.1 ≥ (a0.length : Int)))) (k4 false))))) (jn (fun (w8 : Int × Int × (List Part)) => jn (fun (w63 : Int × Int × (List Port)) => fk (!decide (w63.2.1 = (0 : Int))) (some (⟨[], []⟩, (a0.length : Int), w63.2.1)) (fk (decide (w63.1 < (a0.length : Int))) (some (⟨[], []⟩, w63.1, (2 : Int))) (bnd (image_Right ⟨w8.2.2, w63.2.2⟩) fun x82 => fk (!x82) (some (⟨[], []⟩, (0 : Int), (1 : Int))) (some (⟨w8.2.2, w63.2.2⟩, (0 : Int), (0 : Int)))))) (fun k63 => jn (fun (w64 : Int × Int × Int) => lp (fun nx68 (v68 : Int × Int × (List Port) × Int) => jn (fun (w69 : Bool) => fk w69 (jn (fun (w70 : Int × Int × Int) => jn (fun (w74 : Int × Int × Int) => jn (fun (w78 : Int × Int × Int) => ck (decide ((v68.2.2.1.length + ([⟨w70.2.2, w74.2.2, w78.2.2⟩] : List Port).length) * 24 ≤ 140737488355328)) (nx68 (w78.1, w78.2.1, v68.2.2.1 ++ ([⟨w70.2.2, w74.2.2, w78.2.2⟩] : List Port), (wr (v68.2.2.2 - (1 : Int)))))) (fun k78 => jn (fun (w79 : Int) => fk (!decide (w79 = (0 : Int))) (k78 (w74.1, w79, (0 : Int))) (ix a0 (wr ((wr (w74.1 + (1 : Int))) - (1 : Int))) fun x81 => k78 ((wr (w74.1 + (1 : Int))), w79, (IntKind.i64.wrap x81)))) (fun k79 => jn (fun (w80 : Bool) => fk w80 (k79 (8 : Int)) (k79 w74.2.1)) (fun k80 => fk (decide (w74.2.1 = (0 : Int))) (k80 (decide (w74.1 ≥ (a0.length : Int)))) (k80 false))))) (fun k74 => jn (fun (w75 : Int) => fk (!decide (w75 = (0 : Int))) (k74 (w70.1, w75, (0 : Int))) (ix a0 (wr ((wr (w70.1 + (1 : Int))) - (1 : Int))) fun x77 => k74 ((wr (w70.1 + (1 : Int))), w75, (IntKind.i64.wrap x77)))) (fun k75 => jn (fun (w76 : Bool) => fk w76 (k75 (8 : Int)) (k75 w70.2.1)) (fun k76 => fk (decide (w70.2.1 = (0 : Int))) (k76 (decide (w70.1 ≥ (a0.length : Int)))) (k76 false))))) (fun k70 => jn (fun (w71 : Int) => fk (!decide (w71 = (0 : Int))) (k70 (v68.1, w71, (0 : Int))) (ix a0 (wr ((wr (v68.1 + (1 : Int))) - (1 : Int))) fun x73 => k70 ((wr (v68.1 + (1 : Int))), w71, (IntKind.i64.wrap x73)))) (fun k71 => jn (fun (w72 : Bool) => fk w72 (k71 (8 : Int)) (k71 v68.2.1)) (fun k72 => fk (decide (v68.2.1 = (0 : Int))) (k72 (decide (v68.1 ≥ (a0.length : Int)))) (k72 false))))) (k63 (v68.1, v68.2.1, v68.2.2.1))) (fun k69 => fk (decide (v68.2.2.2 > (0 : Int))) (k69 (decide (v68.2.1 = (0 : Int)))) (k69 false))) FU (w64.1, w64.2.1, [], w64.2.2)) (fun k64 => jn (fun (w65 : Int) => fk (!decide (w65 = (0 : Int))) (k64 (w8.1, w65, (0 : Int))) (ix a0 (wr ((wr (w8.1 + (1 : Int))) - (1 : Int))) fun x67 => k64 ((wr (w8.1 + (1 : Int))), w65, (IntKind.i64.wrap x67)))) (fun k65 => jn (fun (w66 : Bool) => fk w66 (k65 (8 : Int)) (k65 w8.2.1)) (fun k66 => fk (decide (w8.2.1 = (0 : Int))) (k66 (decide (w8.1 ≥ (a0.length : Int)))) (k66 false)))))) (fun k8 => jn (fun (w9 : Int × Int × Int) => lp (fun nx13 (v13 : Int × Int × (List Part) × Int) => jn (fun (w14 : Bool) => fk w14 (jn (fun (w15 : Int × Int × (List Task) × Int × Int) => ck (decide ((v13.2.2.1.length + ([⟨⟨w15.2.2.2.1, w15.2.2.2.2⟩, w15.2.2.1⟩] : List Part).length) * 40 ≤ 140737488355328)) (nx13 (w15.1, w15.2.1, v13.2.2.1 ++ ([⟨⟨w15.2.2.2.1, w15.2.2.2.2⟩, w15.2.2.1⟩] : List Part), (wr (v13.2.2.2 - (1 : Int)))))) (fun k15 => jn (fun (w16 : Int × Int × Int) => jn (fun (w20 : Int × Int × Int) => jn (fun (w24 : Int × Int × (List Task)) => k15 (w24.1, w24.2.1, w24.2.2, w16.2.2, w20.2.2)) (fun k24 => jn (fun (w25 : Int × Int × Int) => lp (fun nx29 (v29 : Int × Int × (List Task) × Int) => jn (fun (w30 : Bool) => fk w30 (jn (fun (w31 : Int × Int × (List Sec) × Int × Int × Int) => ck (decide ((v29.2.2.1.length + ([⟨w31.2.2.2.1, w31.2.2.2.2.1, w31.2.2.2.2.2, w31.2.2.1⟩] : List Task).length) * 48 ≤ 140737488355328)) (nx29 (w31.1, w31.2.1, v29.2.2.1 ++ ([⟨w31.2.2.2.1, w31.2.2.2.2.1, w31.2.2.2.2.2, w31.2.2.1⟩] : List Task), (wr (v29.2.2.2 - (1 : Int)))))) (fun k31 => jn (fun (w32 : Int × Int × Int) => jn (fun (w36 : Int × Int × Int) => jn (fun (w40 : Int × Int × Int) => jn (fun (w44 : Int × Int × (List Sec)) => k31 (w44.1, w44.2.1, w44.2.2, w32.2.2, w36.2.2, w40.2.2)) (fun k44 => jn (fun (w45 : Int × Int × Int) => lp (fun nx49 (v49 : Int × Int × (List Sec) × Int) => jn (fun (w50 : Bool) => fk w50 (jn (fun (w51 : Int × Int × Int) => jn (fun (w55 : Int × Int × Int) => jn (fun (w59 : Int × Int × Int) => ck (decide ((v49.2.2.1.length + ([⟨w51.2.2, w55.2.2, w59.2.2⟩] : List Sec).length) * 24 ≤ 140737488355328)) (nx49 (w59.1, w59.2.1, v49.2.2.1 ++ ([⟨w51.2.2, w55.2.2, w59.2.2⟩] : List Sec), (wr (v49.2.2.2 - (1 : Int)))))) (fun k59 => jn (fun (w60 : Int) => fk (!decide (w60 = (0 : Int))) (k59 (w55.1, w60, (0 : Int))) (ix a0 (wr ((wr (w55.1 + (1 : Int))) - (1 : Int))) fun x62 => k59 ((wr (w55.1 + (1 : Int))), w60, (IntKind.i64.wrap x62)))) (fun k60 => jn (fun (w61 : Bool) => fk w61 (k60 (8 : Int)) (k60 w55.2.1)) (fun k61 => fk (decide (w55.2.1 = (0 : Int))) (k61 (decide (w55.1 ≥ (a0.length : Int)))) (k61 false))))) (fun k55 => jn (fun (w56 : Int) => fk (!decide (w56 = (0 : Int))) (k55 (w51.1, w56, (0 : Int))) (ix a0 (wr ((wr (w51.1 + (1 : Int))) - (1 : Int))) fun x58 => k55 ((wr (w51.1 + (1 : Int))), w56, (IntKind.i64.wrap x58)))) (fun k56 => jn (fun (w57 : Bool) => fk w57 (k56 (8 : Int)) (k56 w51.2.1)) (fun k57 => fk (decide (w51.2.1 = (0 : Int))) (k57 (decide (w51.1 ≥ (a0.length : Int)))) (k57 false))))) (fun k51 => jn (fun (w52 : Int) => fk (!decide (w52 = (0 : Int))) (k51 (v49.1, w52, (0 : Int))) (ix a0 (wr ((wr (v49.1 + (1 : Int))) - (1 : Int))) fun x54 => k51 ((wr (v49.1 + (1 : Int))), w52, (IntKind.i64.wrap x54)))) (fun k52 => jn (fun (w53 : Bool) => fk w53 (k52 (8 : Int)) (k52 v49.2.1)) (fun k53 => fk (decide (v49.2.1 = (0 : Int))) (k53 (decide (v49.1 ≥ (a0.length : Int)))) (k53 false))))) (k44 (v49.1, v49.2.1, v49.2.2.1))) (fun k50 => fk (decide (v49.2.2.2 > (0 : Int))) (k50 (decide (v49.2.1 = (0 : Int)))) (k50 false))) FU (w45.1, w45.2.1, [], w45.2.2)) (fun k45 => jn (fun (w46 : Int) => fk (!decide (w46 = (0 : Int))) (k45 (w40.1, w46, (0 : Int))) (ix a0 (wr ((wr (w40.1 + (1 : Int))) - (1 : Int))) fun x48 => k45 ((wr (w40.1 + (1 : Int))), w46, (IntKind.i64.wrap x48)))) (fun k46 => jn (fun (w47 : Bool) => fk w47 (k46 (8 : Int)) (k46 w40.2.1)) (fun k47 => fk (decide (w40.2.1 = (0 : Int))) (k47 (decide (w40.1 ≥ (a0.length : Int)))) (k47 false)))))) (fun k40 => jn (fun (w41 : Int) => fk (!decide (w41 = (0 : Int))) (k40 (w36.1, w41, (0 : Int))) (ix a0 (wr ((wr (w36.1 + (1 : Int))) - (1 : Int))) fun x43 => k40 ((wr (w36.1 + (1 : Int))), w41, (IntKind.i64.wrap x43)))) (fun k41 => jn (fun (w42 : Bool) => fk w42 (k41 (8 : Int)) (k41 w36.2.1)) (fun k42 => fk (decide (w36.2.1 = (0 : Int))) (k42 (decide (w36.1 ≥ (a0.length : Int)))) (k42 false))))) (fun k36 => jn (fun (w37 : Int) => fk (!decide (w37 = (0 : Int))) (k36 (w32.1, w37, (0 : Int))) (ix a0 (wr ((wr (w32.1 + (1 : Int))) - (1 : Int))) fun x39 => k36 ((wr (w32.1 + (1 : Int))), w37, (IntKind.i64.wrap x39)))) (fun k37 => jn (fun (w38 : Bool) => fk w38 (k37 (8 : Int)) (k37 w32.2.1)) (fun k38 => fk (decide (w32.2.1 = (0 : Int))) (k38 (decide (w32.1 ≥ (a0.length : Int)))) (k38 false))))) (fun k32 => jn (fun (w33 : Int) => fk (!decide (w33 = (0 : Int))) (k32 (v29.1, w33, (0 : Int))) (ix a0 (wr ((wr (v29.1 + (1 : Int))) - (1 : Int))) fun x35 => k32 ((wr (v29.1 + (1 : Int))), w33, (IntKind.i64.wrap x35)))) (fun k33 => jn (fun (w34 : Bool) => fk w34 (k33 (8 : Int)) (k33 v29.2.1)) (fun k34 => fk (decide (v29.2.1 = (0 : Int))) (k34 (decide (v29.1 ≥ (a0.length : Int)))) (k34 false)))))) (k24 (v29.1, v29.2.1, v29.2.2.1))) (fun k30 => fk (decide (v29.2.2.2 > (0 : Int))) (k30 (decide (v29.2.1 = (0 : Int)))) (k30 false))) FU (w25.1, w25.2.1, [], w25.2.2)) (fun k25 => jn (fun (w26 : Int) => fk (!decide (w26 = (0 : Int))) (k25 (w20.1, w26, (0 : Int))) (ix a0 (wr ((wr (w20.1 + (1 : Int))) - (1 : Int))) fun x28 => k25 ((wr (w20.1 + (1 : Int))), w26, (IntKind.i64.wrap x28)))) (fun k26 => jn (fun (w27 : Bool) => fk w27 (k26 (8 : Int)) (k26 w20.2.1)) (fun k27 => fk (decide (w20.2.1 = (0 : Int))) (k27 (decide (w20.1 ≥ (a0.length : Int)))) (k27 false)))))) (fun k20 => jn (fun (w21 : Int) => fk (!decide (w21 = (0 : Int))) (k20 (w16.1, w21, (0 : Int))) (ix a0 (wr ((wr (w16.1 + (1 : Int))) - (1 : Int))) fun x23 => k20 ((wr (w16.1 + (1 : Int))), w21, (IntKind.i64.wrap x23)))) (fun k21 => jn (fun (w22 : Bool) => fk w22 (k21 (8 : Int)) (k21 w16.2.1)) (fun k22 => fk (decide (w16.2.1 = (0 : Int))) (k22 (decide (w16.1 ≥ (a0.length : Int)))) (k22 false))))) (fun k16 => jn (fun (w17 : Int) => fk (!decide (w17 = (0 : Int))) (k16 (v13.1, w17, (0 : Int))) (ix a0 (wr ((wr (v13.1 + (1 : Int))) - (1 : Int))) fun x19 => k16 ((wr (v13.1 + (1 : Int))), w17, (IntKind.i64.wrap x19)))) (fun k17 => jn (fun (w18 : Bool) => fk w18 (k17 (8 : Int)) (k17 v13.2.1)) (fun k18 => fk (decide (v13.2.1 = (0 : Int))) (k18 (decide (v13.1 ≥ (a0.length : Int)))) (k18 false)))))) (k8 (v13.1, v13.2.1, v13.2.2.1))) (fun k14 => fk (decide (v13.2.2.2 > (0 : Int))) (k14 (decide (v13.2.1 = (0 : Int)))) (k14 false))) FU (w9.1, w9.2.1, [], w9.2.2)) (fun k9 => jn (fun (w10 : Int) => fk (!decide (w10 = (0 : Int))) (k9 (v1.1, w10, (0 : Int))) (ix a0 (wr ((wr (v1.1 + (1 : Int))) - (1 : Int))) fun x12 => k9 ((wr (v1.1 + (1 : Int))), w10, (IntKind.i64.wrap x12)))) (fun k10 => jn (fun (w11 : Bool) => fk w11 (k10 (8 : Int)) (k10 v1.2.1)) (fun k11 => fk (decide (v1.2.1 = (0 : Int))) (k11 (decide (v1.1 ≥ (a0.length : Int)))) (k11 false))))))) FU ((0 : Int), (0 : Int), (0 : Int))
theorem image_Decode_w (a0 : List Int) (r : Config × Int × Int) (h : image_Decode a0 = some r) : Go.VC.Spec Tryz.prog 30 [.d (.sl (a0.map (eI .u8)))] (fun y => y = E_Config_Int_Int r) := by
  refine Go.VC.Spec.of_xc (args := [.d (.sl (a0.map (eI .u8)))]) (fn := Tryz.f30) tab ⟨[(0, [0, 2]), (1, [0, 2, 5]), (2, [0, 2, 5, 12]), (3, [0, 2, 5, 12, 13]), (4, [0, 2, 5, 6, 12]), (5, [0, 2, 5, 6, 7, 12]), (6, [0, 2, 5, 6, 12, 28]), (7, [2, 3, 4]), (8, [0, 2, 5, 12]), (9, [0, 2, 5, 8]), (10, [0, 2, 5, 8]), (11, [0, 2, 5, 8, 42]), (12, [2, 3, 4]), (13, [2, 5, 8, 55]), (14, [2, 3, 4]), (15, [2, 8, 68]), (16, [2, 3, 4]), (17, [2, 3, 4])], [], [100028], []⟩ 74 [.cell 2 84, .tmp 3, .tmp 4] rfl rfl rfl rfl rfl rfl ?_
  conv => whnf
  refine lpS (fun v1 => ⟨[(0, .l (.d (.sl (a0.map (eI .u8))))), (2, .l (.ptr 3 0)), (5, .l (.ptr 12 0)), (12, .l (.d (.int .i64 v1.2.2)))], 74, [], [(3, [.nil, .nil]), (12, [.d (.sl (a0.map (eI .u8))), .d (.int .i64 v1.1), .d (.int .i64 v1.2.1)])], []⟩) h (Weak.refl _) (fun _ nx1 hn1 v1 h => ?_)
  conv => whnf
  refine fkS h (fun h => ?_) (fun h => ?_)
  · conv => whnf
    refine inJ (fun w2 => ⟨[(16, .l (.d (.int .i64 w2.2.2))), (15, .l (.ptr 12 0)), (0, .l (.d (.sl (a0.map (eI .u8))))), (2, .l (.ptr 3 0)), (5, .l (.ptr 12 0)), (6, .l (.d (.int .i64 v1.2.2))), (12, .l (.d (.int .i64 v1.2.2)))], 74, [], [(3, [.nil, .nil]), (12, [.d (.sl (a0.map (eI .u8))), .d (.int .i64 w2.1), .d (.int .i64 w2.2.1)])], []⟩) h (fun k2 hk2 h => ?_) (fun w2 h => ?_)
    · conv => whnf
      refine inS (fn := Tryz.f44) tab ⟨[(0, [0]), (1, [0, 19]), (2, [0]), (3, [0, 27]), (4, [2]), (5, [0]), (6, [2])], [], [100019, 3], []⟩ 47 [.tmp 2] rfl rfl rfl rfl rfl rfl ?_
      conv => whnf
      refine jnS (fun w3 => ⟨[(0, .l (.ptr 12 0))], 47, [⟨[(15, .l (.ptr 12 0)), (0, .l (.d (.sl (a0.map (eI .u8))))), (2, .l (.ptr 3 0)), (5, .l (.ptr 12 0)), (6, .l (.d (.int .i64 v1.2.2))), (12, .l (.d (.int .i64 v1.2.2)))], 74⟩], [(3, [.nil, .nil]), (12, [.d (.sl (a0.map (eI .u8))), .d (.int .i64 v1.1), .d (.int .i64 w3)])], []⟩) h (fun k3 hk3 h => ?_) (fun w3 h => ?_)
      · conv => whnf
        refine jnS (fun w4 => ⟨[(0, .l (.ptr 12 0)), (19, .l (.d (.bool w4)))], 47, [⟨[(15, .l (.ptr 12 0)), (0, .l (.d (.sl (a0.map (eI .u8))))), (2, .l (.ptr 3 0)), (5, .l (.ptr 12 0)), (6, .l (.d (.int .i64 v1.2.2))), (12, .l (.d (.int .i64 v1.2.2)))], 74⟩], [(3, [.nil, .nil]), (12, [.d (.sl (a0.map (eI .u8))), .d (.int .i64 v1.1), .d (.int .i64 v1.2.1)])], []⟩) h (fun k4 hk4 h => ?_) (fun w4 h => ?_)
        · conv => whnf
          refine ⟨17, ?_⟩
          conv => whnf
          refine fkS h (fun h => ?_) (fun h => ?_)
          · conv => whnf
            refine lenS a0 (eI .u8) rfl ?_
            conv => whnf
            refine drS (by kernel_rfl) ?_
            conv => whnf
            exact jeS hk4 h (Weak.refl _)
          conv => whnf
          refine drS (by kernel_rfl) ?_
          conv => whnf
          exact jeS hk4 h (Weak.refl _)
        conv => whnf
        refine fkS h (fun h => ?_) (fun h => ?_)
        · conv => whnf
          exact jeS hk3 h (Weak.refl _)
        conv => whnf
        refine jeX hk3 h ?_
        conv => whnf
        refine WkF.step (Weak.keepS _ [0]) ?_
        conv => whnf
        exact WkF.refl _
      conv => whnf
      refine fkS h (fun h => ?_) (fun h => ?_)
      · conv => whnf
        exact jeS hk2 h (Weak.refl _)
      conv => whnf
      refine ⟨9, ?_⟩
      conv => whnf
      refine drS (by kernel_rfl) ?_
      conv => whnf
      refine ixS (enc := (eI .u8)) h rfl (fun _ => rfl) (fun x5 h => ?_)
      conv => whnf
      exact jeS hk2 h (Weak.refl _)
    conv => whnf
    refine jnS (fun w6 => ⟨[(0, .l (.d (.sl (a0.map (eI .u8))))), (2, .l (.ptr 3 0)), (5, .l (.ptr 12 0)), (6, .l (.d (.int .i64 v1.2.2))), (12, .l (.d (.int .i64 v1.2.2))), (28, .l (.d (.bool w6)))], 74, [], [(3, [.nil, .nil]), (12, [.d (.sl (a0.map (eI .u8))), .d (.int .i64 w2.1), .d (.int .i64 w2.2.1)])], []⟩) h (fun k6 hk6 h => ?_) (fun w6 h => ?_)
    · conv => whnf
      refine fkS h (fun h => ?_) (fun h => ?_)
      · conv => whnf
        refine isS ([84, 75, 49] : List Int) h rfl rfl rfl Tryz.underlying9 rfl (fun x7 h => ?_)
        conv => whnf
        exact jeS hk6 h (Weak.refl _)
      conv => whnf
      exact jeS hk6 h (Weak.refl _)
    conv => whnf
    refine fkS h (fun h => ?_) (fun h => ?_)
    · conv => whnf
      exact rt (E := E_Config_Int_Int) h rfl
    conv => whnf
    exact leS hn1 h (Weak.refl _)
  conv => whnf
  refine inJ (fun w8 => ⟨[(35, .l (.own 36)), (34, .l (.mfn 46 12)), (33, .l (.ptr 12 0)), (32, .l (.ptr 12 0)), (13, .l (.d (.bool false))), (0, .l (.d (.sl (a0.map (eI .u8))))), (2, .l (.ptr 3 0)), (5, .l (.ptr 12 0)), (12, .l (.d (.int .i64 v1.2.2)))], 74, [], [(3, [.nil, .nil]), (12, [.d (.sl (a0.map (eI .u8))), .d (.int .i64 w8.1), .d (.int .i64 w8.2.1)])], [(36, 121, 3, w8.2.2.map Part.enc)]⟩) h (fun k8 hk8 h => ?_) (fun w8 h => ?_)
  · conv => whnf
    refine inS (fn := Tryz.f45) tab ⟨[(0, [0, 1]), (1, [0, 1, 5]), (2, [0, 1, 5, 6]), (3, [0, 1, 5, 6, 17]), (4, [0, 1, 5, 6]), (5, [0, 1, 5, 6]), (6, [4])], [], [100017], [(23, [301023])]⟩ 26 [.tmp 4] rfl rfl rfl rfl rfl rfl ?_
    conv => whnf
    refine inJ (fun w9 => ⟨[(8, .l (.d (.int .i64 w9.2.2))), (7, .l (.ptr 12 0)), (0, .l (.ptr 12 0)), (1, .l (.mfn 46 12)), (5, .l .nil)], 26, [⟨[(34, .l (.mfn 46 12)), (33, .l (.ptr 12 0)), (32, .l (.ptr 12 0)), (13, .l (.d (.bool false))), (0, .l (.d (.sl (a0.map (eI .u8))))), (2, .l (.ptr 3 0)), (5, .l (.ptr 12 0)), (12, .l (.d (.int .i64 v1.2.2))), (13, .l (.d (.bool (decide (v1.2.2 < (3 : Int))))))], 74⟩], [(3, [.nil, .nil]), (12, [.d (.sl (a0.map (eI .u8))), .d (.int .i64 w9.1), .d (.int .i64 w9.2.1)])], []⟩) h (fun k9 hk9 h => ?_) (fun w9 h => ?_)
    · conv => whnf
      refine inS (fn := Tryz.f44) tab ⟨[(0, [0]), (1, [0, 19]), (2, [0]), (3, [0, 27]), (4, [2]), (5, [0]), (6, [2])], [], [100019, 3], []⟩ 47 [.tmp 2] rfl rfl rfl rfl rfl rfl ?_
      conv => whnf
      refine jnS (fun w10 => ⟨[(0, .l (.ptr 12 0))], 47, [⟨[(7, .l (.ptr 12 0)), (0, .l (.ptr 12 0)), (1, .l (.mfn 46 12)), (5, .l .nil)], 26⟩, ⟨[(34, .l (.mfn 46 12)), (33, .l (.ptr 12 0)), (32, .l (.ptr 12 0)), (13, .l (.d (.bool false))), (0, .l (.d (.sl (a0.map (eI .u8))))), (2, .l (.ptr 3 0)), (5, .l (.ptr 12 0)), (12, .l (.d (.int .i64 v1.2.2))), (13, .l (.d (.bool (decide (v1.2.2 < (3 : Int))))))], 74⟩], [(3, [.nil, .nil]), (12, [.d (.sl (a0.map (eI .u8))), .d (.int .i64 v1.1), .d (.int .i64 w10)])], []⟩) h (fun k10 hk10 h => ?_) (fun w10 h => ?_)
      · conv => whnf
        refine jnS (fun w11 => ⟨[(0, .l (.ptr 12 0)), (19, .l (.d (.bool w11)))], 47, [⟨[(7, .l (.ptr 12 0)), (0, .l (.ptr 12 0)), (1, .l (.mfn 46 12)), (5, .l .nil)], 26⟩, ⟨[(34, .l (.mfn 46 12)), (33, .l (.ptr 12 0)), (32, .l (.ptr 12 0)), (13, .l (.d (.bool false))), (0, .l (.d (.sl (a0.map (eI .u8))))), (2, .l (.ptr 3 0)), (5, .l (.ptr 12 0)), (12, .l (.d (.int .i64 v1.2.2))), (13, .l (.d (.bool (decide (v1.2.2 < (3 : Int))))))], 74⟩], [(3, [.nil, .nil]), (12, [.d (.sl (a0.map (eI .u8))), .d (.int .i64 v1.1), .d (.int .i64 v1.2.1)])], []⟩) h (fun k11 hk11 h => ?_) (fun w11 h => ?_)
        · conv => whnf
          refine ⟨17, ?_⟩
          conv => whnf
          refine fkS h (fun h => ?_) (fun h => ?_)
          · conv => whnf
            refine lenS a0 (eI .u8) rfl ?_
            conv => whnf
            refine drS (by kernel_rfl) ?_
            conv => whnf
            exact jeS hk11 h (Weak.refl _)
          conv => whnf
          refine drS (by kernel_rfl) ?_
          conv => whnf
          exact jeS hk11 h (Weak.refl _)
        conv => whnf
        refine fkS h (fun h => ?_) (fun h => ?_)
        · conv => whnf
          exact jeS hk10 h (Weak.refl _)
        conv => whnf
        refine jeX hk10 h ?_
        conv => whnf
        refine WkF.step (Weak.keepS _ [0]) ?_
        conv => whnf
        exact WkF.refl _
      conv => whnf
      refine fkS h (fun h => ?_) (fun h => ?_)
      · conv => whnf
        exact jeS hk9 h (Weak.refl _)
      conv => whnf
      refine ⟨9, ?_⟩
      conv => whnf
      refine drS (by kernel_rfl) ?_
      conv => whnf
      refine ixS (enc := (eI .u8)) h rfl (fun _ => rfl) (fun x12 h => ?_)
      conv => whnf
      exact jeS hk9 h (Weak.refl _)
    conv => whnf
    refine lpS (fun v13 => ⟨[(0, .l (.ptr 12 0)), (1, .l (.mfn 46 12)), (5, .l (.own 1006)), (6, .l (.d (.int .i64 v13.2.2.2)))], 26, [⟨[(34, .l (.mfn 46 12)), (33, .l (.ptr 12 0)), (32, .l (.ptr 12 0)), (13, .l (.d (.bool false))), (0, .l (.d (.sl (a0.map (eI .u8))))), (2, .l (.ptr 3 0)), (5, .l (.ptr 12 0)), (12, .l (.d (.int .i64 v1.2.2))), (13, .l (.d (.bool (decide (v1.2.2 < (3 : Int))))))], 74⟩], [(3, [.nil, .nil]), (12, [.d (.sl (a0.map (eI .u8))), .d (.int .i64 v13.1), .d (.int .i64 v13.2.1)])], [(1006, 121, 3, v13.2.2.1.map Part.enc)]⟩) h (Weak.trans (Weak.nilO _ 5 1006 121 3 rfl) (Weak.refl _)) (fun _ nx13 hn13 v13 h => ?_)
    conv => whnf
    refine jnS (fun w14 => ⟨[(0, .l (.ptr 12 0)), (1, .l (.mfn 46 12)), (5, .l (.own 1006)), (6, .l (.d (.int .i64 v13.2.2.2))), (17, .l (.d (.bool w14)))], 26, [⟨[(34, .l (.mfn 46 12)), (33, .l (.ptr 12 0)), (32, .l (.ptr 12 0)), (13, .l (.d (.bool false))), (0, .l (.d (.sl (a0.map (eI .u8))))), (2, .l (.ptr 3 0)), (5, .l (.ptr 12 0)), (12, .l (.d (.int .i64 v1.2.2))), (13, .l (.d (.bool (decide (v1.2.2 < (3 : Int))))))], 74⟩], [(3, [.nil, .nil]), (12, [.d (.sl (a0.map (eI .u8))), .d (.int .i64 v13.1), .d (.int .i64 v13.2.1)])], [(1006, 121, 3, v13.2.2.1.map Part.enc)]⟩) h (fun k14 hk14 h => ?_) (fun w14 h => ?_)
    · conv => whnf
      refine fkS h (fun h => ?_) (fun h => ?_)
      · conv => whnf
        exact jeS hk14 h (Weak.refl _)
      conv => whnf
      exact jeS hk14 h (Weak.refl _)
    conv => whnf
    refine fkS h (fun h => ?_) (fun h => ?_)
    · conv => whnf
      refine inJ (fun w15 => ⟨[(22, .agg [.d (.int .i64 w15.2.2.2.1), .d (.int .i64 w15.2.2.2.2), .own 301023]), (21, .l (.mfn 46 12)), (20, .l (.own 1006)), (17, .l (.d (.bool true))), (0, .l (.ptr 12 0)), (1, .l (.mfn 46 12)), (5, .l (.own 1006)), (6, .l (.d (.int .i64 v13.2.2.2)))], 26, [⟨[(34, .l (.mfn 46 12)), (33, .l (.ptr 12 0)), (32, .l (.ptr 12 0)), (13, .l (.d (.bool false))), (0, .l (.d (.sl (a0.map (eI .u8))))), (2, .l (.ptr 3 0)), (5, .l (.ptr 12 0)), (12, .l (.d (.int .i64 v1.2.2))), (13, .l (.d (.bool (decide (v1.2.2 < (3 : Int))))))], 74⟩], [(3, [.nil, .nil]), (12, [.d (.sl (a0.map (eI .u8))), .d (.int .i64 w15.1), .d (.int .i64 w15.2.1)])], [(1006, 121, 3, v13.2.2.1.map Part.enc), (301023, 53, 4, w15.2.2.1.map Task.enc)]⟩) h (fun k15 hk15 h => ?_) (fun w15 h => ?_)
      · conv => whnf
        refine inS (fn := Tryz.f46) tab ⟨[(0, [0, 2]), (1, [0, 2, 3, 4]), (2, [2])], [], [], []⟩ 17 [.cell 2 121] rfl rfl rfl rfl rfl rfl ?_
        conv => whnf
        refine inJ (fun w16 => ⟨[(6, .l (.d (.int .i64 w16.2.2))), (5, .l (.ptr 12 0)), (0, .l (.ptr 12 0)), (2, .l (.ptr 2003 0))], 17, [⟨[(21, .l (.mfn 46 12)), (20, .l (.own 1006)), (17, .l (.d (.bool true))), (0, .l (.ptr 12 0)), (1, .l (.mfn 46 12)), (5, .l (.own 1006)), (6, .l (.d (.int .i64 v13.2.2.2))), (17, .l (.d (.bool w14)))], 26⟩, ⟨[(34, .l (.mfn 46 12)), (33, .l (.ptr 12 0)), (32, .l (.ptr 12 0)), (13, .l (.d (.bool false))), (0, .l (.d (.sl (a0.map (eI .u8))))), (2, .l (.ptr 3 0)), (5, .l (.ptr 12 0)), (12, .l (.d (.int .i64 v1.2.2))), (13, .l (.d (.bool (decide (v1.2.2 < (3 : Int))))))], 74⟩], [(3, [.nil, .nil]), (12, [.d (.sl (a0.map (eI .u8))), .d (.int .i64 w16.1), .d (.int .i64 w16.2.1)]), (2003, [.d (.int .i64 (0 : Int)), .d (.int .i64 (0 : Int)), .nil])], [(1006, 121, 3, v13.2.2.1.map Part.enc)]⟩) h (fun k16 hk16 h => ?_) (fun w16 h => ?_)
        · conv => whnf
          refine inS (fn := Tryz.f44) tab ⟨[(0, [0]), (1, [0, 19]), (2, [0]), (3, [0, 27]), (4, [2]), (5, [0]), (6, [2])], [], [100019, 3], []⟩ 47 [.tmp 2] rfl rfl rfl rfl rfl rfl ?_
          conv => whnf
          refine jnS (fun w17 => ⟨[(0, .l (.ptr 12 0))], 47, [⟨[(5, .l (.ptr 12 0)), (0, .l (.ptr 12 0)), (2, .l (.ptr 2003 0))], 17⟩, ⟨[(21, .l (.mfn 46 12)), (20, .l (.own 1006)), (17, .l (.d (.bool true))), (0, .l (.ptr 12 0)), (1, .l (.mfn 46 12)), (5, .l (.own 1006)), (6, .l (.d (.int .i64 v13.2.2.2))), (17, .l (.d (.bool w14)))], 26⟩, ⟨[(34, .l (.mfn 46 12)), (33, .l (.ptr 12 0)), (32, .l (.ptr 12 0)), (13, .l (.d (.bool false))), (0, .l (.d (.sl (a0.map (eI .u8))))), (2, .l (.ptr 3 0)), (5, .l (.ptr 12 0)), (12, .l (.d (.int .i64 v1.2.2))), (13, .l (.d (.bool (decide (v1.2.2 < (3 : Int))))))], 74⟩], [(3, [.nil, .nil]), (12, [.d (.sl (a0.map (eI .u8))), .d (.int .i64 v13.1), .d (.int .i64 w17)]), (2003, [.d (.int .i64 (0 : Int)), .d (.int .i64 (0 : Int)), .nil])], [(1006, 121, 3, v13.2.2.1.map Part.enc)]⟩) h (fun k17 hk17 h => ?_) (fun w17 h => ?_)
          · conv => whnf
            refine jnS (fun w18 => ⟨[(0, .l (.ptr 12 0)), (19, .l (.d (.bool w18)))], 47, [⟨[(5, .l (.ptr 12 0)), (0, .l (.ptr 12 0)), (2, .l (.ptr 2003 0))], 17⟩, ⟨[(21, .l (.mfn 46 12)), (20, .l (.own 1006)), (17, .l (.d (.bool true))), (0, .l (.ptr 12 0)), (1, .l (.mfn 46 12)), (5, .l (.own 1006)), (6, .l (.d (.int .i64 v13.2.2.2))), (17, .l (.d (.bool w14)))], 26⟩, ⟨[(34, .l (.mfn 46 12)), (33, .l (.ptr 12 0)), (32, .l (.ptr 12 0)), (13, .l (.d (.bool false))), (0, .l (.d (.sl (a0.map (eI .u8))))), (2, .l (.ptr 3 0)), (5, .l (.ptr 12 0)), (12, .l (.d (.int .i64 v1.2.2))), (13, .l (.d (.bool (decide (v1.2.2 < (3 : Int))))))], 74⟩], [(3, [.nil, .nil]), (12, [.d (.sl (a0.map (eI .u8))), .d (.int .i64 v13.1), .d (.int .i64 v13.2.1)]), (2003, [.d (.int .i64 (0 : Int)), .d (.int .i64 (0 : Int)), .nil])], [(1006, 121, 3, v13.2.2.1.map Part.enc)]⟩) h (fun k18 hk18 h => ?_) (fun w18 h => ?_)
            · conv => whnf
              refine ⟨17, ?_⟩
              conv => whnf
              refine fkS h (fun h => ?_) (fun h => ?_)
              · conv => whnf
                refine lenS a0 (eI .u8) rfl ?_
                conv => whnf
                refine drS (by kernel_rfl) ?_
                conv => whnf
                exact jeS hk18 h (Weak.refl _)
              conv => whnf
              refine drS (by kernel_rfl) ?_
              conv => whnf
              exact jeS hk18 h (Weak.refl _)
            conv => whnf
            refine fkS h (fun h => ?_) (fun h => ?_)
            · conv => whnf
              exact jeS hk17 h (Weak.refl _)
            conv => whnf
            refine jeX hk17 h ?_
            conv => whnf
            refine WkF.step (Weak.keepS _ [0]) ?_
            conv => whnf
            exact WkF.refl _
          conv => whnf
          refine fkS h (fun h => ?_) (fun h => ?_)
          · conv => whnf
            exact jeS hk16 h (Weak.refl _)
          conv => whnf
          refine ⟨9, ?_⟩
          conv => whnf
          refine drS (by kernel_rfl) ?_
          conv => whnf
          refine ixS (enc := (eI .u8)) h rfl (fun _ => rfl) (fun x19 h => ?_)
          conv => whnf
          exact jeS hk16 h (Weak.refl _)
        conv => whnf
        refine inJ (fun w20 => ⟨[(8, .l (.d (.int .i64 w20.2.2))), (7, .l (.ptr 12 0)), (6, .l (.d (.int .i64 w16.2.2))), (5, .l (.ptr 12 0)), (0, .l (.ptr 12 0)), (2, .l (.ptr 2003 0))], 17, [⟨[(21, .l (.mfn 46 12)), (20, .l (.own 1006)), (17, .l (.d (.bool true))), (0, .l (.ptr 12 0)), (1, .l (.mfn 46 12)), (5, .l (.own 1006)), (6, .l (.d (.int .i64 v13.2.2.2))), (17, .l (.d (.bool w14)))], 26⟩, ⟨[(34, .l (.mfn 46 12)), (33, .l (.ptr 12 0)), (32, .l (.ptr 12 0)), (13, .l (.d (.bool false))), (0, .l (.d (.sl (a0.map (eI .u8))))), (2, .l (.ptr 3 0)), (5, .l (.ptr 12 0)), (12, .l (.d (.int .i64 v1.2.2))), (13, .l (.d (.bool (decide (v1.2.2 < (3 : Int))))))], 74⟩], [(3, [.nil, .nil]), (12, [.d (.sl (a0.map (eI .u8))), .d (.int .i64 w20.1), .d (.int .i64 w20.2.1)]), (2003, [.d (.int .i64 (0 : Int)), .d (.int .i64 (0 : Int)), .nil])], [(1006, 121, 3, v13.2.2.1.map Part.enc)]⟩) h (fun k20 hk20 h => ?_) (fun w20 h => ?_)
        · conv => whnf
          refine inS (fn := Tryz.f44) tab ⟨[(0, [0]), (1, [0, 19]), (2, [0]), (3, [0, 27]), (4, [2]), (5, [0]), (6, [2])], [], [100019, 3], []⟩ 47 [.tmp 2] rfl rfl rfl rfl rfl rfl ?_
          conv => whnf
          refine jnS (fun w21 => ⟨[(0, .l (.ptr 12 0))], 47, [⟨[(7, .l (.ptr 12 0)), (6, .l (.d (.int .i64 w16.2.2))), (5, .l (.ptr 12 0)), (0, .l (.ptr 12 0)), (2, .l (.ptr 2003 0))], 17⟩, ⟨[(21, .l (.mfn 46 12)), (20, .l (.own 1006)), (17, .l (.d (.bool true))), (0, .l (.ptr 12 0)), (1, .l (.mfn 46 12)), (5, .l (.own 1006)), (6, .l (.d (.int .i64 v13.2.2.2))), (17, .l (.d (.bool w14)))], 26⟩, ⟨[(34, .l (.mfn 46 12)), (33, .l (.ptr 12 0)), (32, .l (.ptr 12 0)), (13, .l (.d (.bool false))), (0, .l (.d (.sl (a0.map (eI .u8))))), (2, .l (.ptr 3 0)), (5, .l (.ptr 12 0)), (12, .l (.d (.int .i64 v1.2.2))), (13, .l (.d (.bool (decide (v1.2.2 < (3 : Int))))))], 74⟩], [(3, [.nil, .nil]), (12, [.d (.sl (a0.map (eI .u8))), .d (.int .i64 w16.1), .d (.int .i64 w21)]), (2003, [.d (.int .i64 (0 : Int)), .d (.int .i64 (0 : Int)), .nil])], [(1006, 121, 3, v13.2.2.1.map Part.enc)]⟩) h (fun k21 hk21 h => ?_) (fun w21 h => ?_)
          · conv => whnf
            refine jnS (fun w22 => ⟨[(0, .l (.ptr 12 0)), (19, .l (.d (.bool w22)))], 47, [⟨[(7, .l (.ptr 12 0)), (6, .l (.d (.int .i64 w16.2.2))), (5, .l (.ptr 12 0)), (0, .l (.ptr 12 0)), (2, .l (.ptr 2003 0))], 17⟩, ⟨[(21, .l (.mfn 46 12)), (20, .l (.own 1006)), (17, .l (.d (.bool true))), (0, .l (.ptr 12 0)), (1, .l (.mfn 46 12)), (5, .l (.own 1006)), (6, .l (.d (.int .i64 v13.2.2.2))), (17, .l (.d (.bool w14)))], 26⟩, ⟨[(34, .l (.mfn 46 12)), (33, .l (.ptr 12 0)), (32, .l (.ptr 12 0)), (13, .l (.d (.bool false))), (0, .l (.d (.sl (a0.map (eI .u8))))), (2, .l (.ptr 3 0)), (5, .l (.ptr 12 0)), (12, .l (.d (.int .i64 v1.2.2))), (13, .l (.d (.bool (decide (v1.2.2 < (3 : Int))))))], 74⟩], [(3, [.nil, .nil]), (12, [.d (.sl (a0.map (eI .u8))), .d (.int .i64 w16.1), .d (.int .i64 w16.2.1)]), (2003, [.d (.int .i64 (0 : Int)), .d (.int .i64 (0 : Int)), .nil])], [(1006, 121, 3, v13.2.2.1.map Part.enc)]⟩) h (fun k22 hk22 h => ?_) (fun w22 h => ?_)
            · conv => whnf
              refine ⟨17, ?_⟩
              conv => whnf
              refine fkS h (fun h => ?_) (fun h => ?_)
              · conv => whnf
                refine lenS a0 (eI .u8) rfl ?_
                conv => whnf
                refine drS (by kernel_rfl) ?_
                conv => whnf
                exact jeS hk22 h (Weak.refl _)
              conv => whnf
              refine drS (by kernel_rfl) ?_
              conv => whnf
              exact jeS hk22 h (Weak.refl _)
            conv => whnf
            refine fkS h (fun h => ?_) (fun h => ?_)
            · conv => whnf
              exact jeS hk21 h (Weak.refl _)
            conv => whnf
            refine jeX hk21 h ?_
            conv => whnf
            refine WkF.step (Weak.keepS _ [0]) ?_
            conv => whnf
            exact WkF.refl _
          conv => whnf
          refine fkS h (fun h => ?_) (fun h => ?_)
          · conv => whnf
            exact jeS hk20 h (Weak.refl _)
          conv => whnf
          refine ⟨9, ?_⟩
          conv => whnf
          refine drS (by kernel_rfl) ?_
          conv => whnf
          refine ixS (enc := (eI .u8)) h rfl (fun _ => rfl) (fun x23 h => ?_)
          conv => whnf
          exact jeS hk20 h (Weak.refl _)
        conv => whnf
        refine inJ (fun w24 => ⟨[(15, .l (.own 2016)), (14, .l (.mfn 67 12)), (13, .l (.ptr 12 0)), (12, .l (.ptr 12 0)), (11, .agg [.d (.int .i64 w16.2.2), .d (.int .i64 w20.2.2)]), (10, .l (.d (.int .i64 w20.2.2))), (9, .l (.d (.int .i64 w16.2.2))), (0, .l (.ptr 12 0)), (2, .l (.ptr 2003 0)), (3, .l (.d (.int .i64 w16.2.2))), (4, .l (.d (.int .i64 w20.2.2)))], 17, [⟨[(21, .l (.mfn 46 12)), (20, .l (.own 1006)), (17, .l (.d (.bool true))), (0, .l (.ptr 12 0)), (1, .l (.mfn 46 12)), (5, .l (.own 1006)), (6, .l (.d (.int .i64 v13.2.2.2))), (17, .l (.d (.bool w14)))], 26⟩, ⟨[(34, .l (.mfn 46 12)), (33, .l (.ptr 12 0)), (32, .l (.ptr 12 0)), (13, .l (.d (.bool false))), (0, .l (.d (.sl (a0.map (eI .u8))))), (2, .l (.ptr 3 0)), (5, .l (.ptr 12 0)), (12, .l (.d (.int .i64 v1.2.2))), (13, .l (.d (.bool (decide (v1.2.2 < (3 : Int))))))], 74⟩], [(3, [.nil, .nil]), (12, [.d (.sl (a0.map (eI .u8))), .d (.int .i64 w24.1), .d (.int .i64 w24.2.1)]), (2003, [.d (.int .i64 (0 : Int)), .d (.int .i64 (0 : Int)), .nil])], [(1006, 121, 3, v13.2.2.1.map Part.enc), (2016, 53, 4, w24.2.2.map Task.enc)]⟩) h (fun k24 hk24 h => ?_) (fun w24 h => ?_)
        · conv => whnf
          refine inS (fn := Tryz.f66) tab ⟨[(0, [0, 1]), (1, [0, 1, 5]), (2, [0, 1, 5, 6]), (3, [0, 1, 5, 6, 17]), (4, [0, 1, 5, 6]), (5, [0, 1, 5, 6]), (6, [4])], [], [100017], [(23, [403023])]⟩ 26 [.tmp 4] rfl rfl rfl rfl rfl rfl ?_
          conv => whnf
          refine inJ (fun w25 => ⟨[(8, .l (.d (.int .i64 w25.2.2))), (7, .l (.ptr 12 0)), (0, .l (.ptr 12 0)), (1, .l (.mfn 67 12)), (5, .l .nil)], 26, [⟨[(14, .l (.mfn 67 12)), (13, .l (.ptr 12 0)), (12, .l (.ptr 12 0)), (11, .agg [.d (.int .i64 w16.2.2), .d (.int .i64 w20.2.2)]), (10, .l (.d (.int .i64 w20.2.2))), (9, .l (.d (.int .i64 w16.2.2))), (0, .l (.ptr 12 0)), (2, .l (.ptr 2003 0)), (3, .l (.d (.int .i64 w16.2.2))), (4, .l (.d (.int .i64 w20.2.2)))], 17⟩, ⟨[(21, .l (.mfn 46 12)), (20, .l (.own 1006)), (17, .l (.d (.bool true))), (0, .l (.ptr 12 0)), (1, .l (.mfn 46 12)), (5, .l (.own 1006)), (6, .l (.d (.int .i64 v13.2.2.2))), (17, .l (.d (.bool w14)))], 26⟩, ⟨[(34, .l (.mfn 46 12)), (33, .l (.ptr 12 0)), (32, .l (.ptr 12 0)), (13, .l (.d (.bool false))), (0, .l (.d (.sl (a0.map (eI .u8))))), (2, .l (.ptr 3 0)), (5, .l (.ptr 12 0)), (12, .l (.d (.int .i64 v1.2.2))), (13, .l (.d (.bool (decide (v1.2.2 < (3 : Int))))))], 74⟩], [(3, [.nil, .nil]), (12, [.d (.sl (a0.map (eI .u8))), .d (.int .i64 w25.1), .d (.int .i64 w25.2.1)]), (2003, [.d (.int .i64 (0 : Int)), .d (.int .i64 (0 : Int)), .nil])], [(1006, 121, 3, v13.2.2.1.map Part.enc)]⟩) h (fun k25 hk25 h => ?_) (fun w25 h => ?_)
          · conv => whnf
            refine inS (fn := Tryz.f44) tab ⟨[(0, [0]), (1, [0, 19]), (2, [0]), (3, [0, 27]), (4, [2]), (5, [0]), (6, [2])], [], [100019, 3], []⟩ 47 [.tmp 2] rfl rfl rfl rfl rfl rfl ?_
            conv => whnf
            refine jnS (fun w26 => ⟨[(0, .l (.ptr 12 0))], 47, [⟨[(7, .l (.ptr 12 0)), (0, .l (.ptr 12 0)), (1, .l (.mfn 67 12)), (5, .l .nil)], 26⟩, ⟨[(14, .l (.mfn 67 12)), (13, .l (.ptr 12 0)), (12, .l (.ptr 12 0)), (11, .agg [.d (.int .i64 w16.2.2), .d (.int .i64 w20.2.2)]), (10, .l (.d (.int .i64 w20.2.2))), (9, .l (.d (.int .i64 w16.2.2))), (0, .l (.ptr 12 0)), (2, .l (.ptr 2003 0)), (3, .l (.d (.int .i64 w16.2.2))), (4, .l (.d (.int .i64 w20.2.2)))], 17⟩, ⟨[(21, .l (.mfn 46 12)), (20, .l (.own 1006)), (17, .l (.d (.bool true))), (0, .l (.ptr 12 0)), (1, .l (.mfn 46 12)), (5, .l (.own 1006)), (6, .l (.d (.int .i64 v13.2.2.2))), (17, .l (.d (.bool w14)))], 26⟩, ⟨[(34, .l (.mfn 46 12)), (33, .l (.ptr 12 0)), (32, .l (.ptr 12 0)), (13, .l (.d (.bool false))), (0, .l (.d (.sl (a0.map (eI .u8))))), (2, .l (.ptr 3 0)), (5, .l (.ptr 12 0)), (12, .l (.d (.int .i64 v1.2.2))), (13, .l (.d (.bool (decide (v1.2.2 < (3 : Int))))))], 74⟩], [(3, [.nil, .nil]), (12, [.d (.sl (a0.map (eI .u8))), .d (.int .i64 w20.1), .d (.int .i64 w26)]), (2003, [.d (.int .i64 (0 : Int)), .d (.int .i64 (0 : Int)), .nil])], [(1006, 121, 3, v13.2.2.1.map Part.enc)]⟩) h (fun k26 hk26 h => ?_) (fun w26 h => ?_)
            · conv => whnf
              refine jnS (fun w27 => ⟨[(0, .l (.ptr 12 0)), (19, .l (.d (.bool w27)))], 47, [⟨[(7, .l (.ptr 12 0)), (0, .l (.ptr 12 0)), (1, .l (.mfn 67 12)), (5, .l .nil)], 26⟩, ⟨[(14, .l (.mfn 67 12)), (13, .l (.ptr 12 0)), (12, .l (.ptr 12 0)), (11, .agg [.d (.int .i64 w16.2.2), .d (.int .i64 w20.2.2)]), (10, .l (.d (.int .i64 w20.2.2))), (9, .l (.d (.int .i64 w16.2.2))), (0, .l (.ptr 12 0)), (2, .l (.ptr 2003 0)), (3, .l (.d (.int .i64 w16.2.2))), (4, .l (.d (.int .i64 w20.2.2)))], 17⟩, ⟨[(21, .l (.mfn 46 12)), (20, .l (.own 1006)), (17, .l (.d (.bool true))), (0, .l (.ptr 12 0)), (1, .l (.mfn 46 12)), (5, .l (.own 1006)), (6, .l (.d (.int .i64 v13.2.2.2))), (17, .l (.d (.bool w14)))], 26⟩, ⟨[(34, .l (.mfn 46 12)), (33, .l (.ptr 12 0)), (32, .l (.ptr 12 0)), (13, .l (.d (.bool false))), (0, .l (.d (.sl (a0.map (eI .u8))))), (2, .l (.ptr 3 0)), (5, .l (.ptr 12 0)), (12, .l (.d (.int .i64 v1.2.2))), (13, .l (.d (.bool (decide (v1.2.2 < (3 : Int))))))], 74⟩], [(3, [.nil, .nil]), (12, [.d (.sl (a0.map (eI .u8))), .d (.int .i64 w20.1), .d (.int .i64 w20.2.1)]), (2003, [.d (.int .i64 (0 : Int)), .d (.int .i64 (0 : Int)), .nil])], [(1006, 121, 3, v13.2.2.1.map Part.enc)]⟩) h (fun k27 hk27 h => ?_) (fun w27 h => ?_)
              · conv => whnf
                refine ⟨17, ?_⟩
                conv => whnf
                refine fkS h (fun h => ?_) (fun h => ?_)
                · conv => whnf
                  refine lenS a0 (eI .u8) rfl ?_
                  conv => whnf
                  refine drS (by kernel_rfl) ?_
                  conv => whnf
                  exact jeS hk27 h (Weak.refl _)
                conv => whnf
                refine drS (by kernel_rfl) ?_
                conv => whnf
                exact jeS hk27 h (Weak.refl _)
              conv => whnf
              refine fkS h (fun h => ?_) (fun h => ?_)
              · conv => whnf
                exact jeS hk26 h (Weak.refl _)
              conv => whnf
              refine jeX hk26 h ?_
              conv => whnf
              refine WkF.step (Weak.keepS _ [0]) ?_
              conv => whnf
              exact WkF.refl _
            conv => whnf
            refine fkS h (fun h => ?_) (fun h => ?_)
            · conv => whnf
              exact jeS hk25 h (Weak.refl _)
            conv => whnf
            refine ⟨9, ?_⟩
            conv => whnf
            refine drS (by kernel_rfl) ?_
            conv => whnf
            refine ixS (enc := (eI .u8)) h rfl (fun _ => rfl) (fun x28 h => ?_)
            conv => whnf
            exact jeS hk25 h (Weak.refl _)
          conv => whnf
          refine lpS (fun v29 => ⟨[(0, .l (.ptr 12 0)), (1, .l (.mfn 67 12)), (5, .l (.own 3006)), (6, .l (.d (.int .i64 v29.2.2.2)))], 26, [⟨[(14, .l (.mfn 67 12)), (13, .l (.ptr 12 0)), (12, .l (.ptr 12 0)), (11, .agg [.d (.int .i64 w16.2.2), .d (.int .i64 w20.2.2)]), (10, .l (.d (.int .i64 w20.2.2))), (9, .l (.d (.int .i64 w16.2.2))), (0, .l (.ptr 12 0)), (2, .l (.ptr 2003 0)), (3, .l (.d (.int .i64 w16.2.2))), (4, .l (.d (.int .i64 w20.2.2)))], 17⟩, ⟨[(21, .l (.mfn 46 12)), (20, .l (.own 1006)), (17, .l (.d (.bool true))), (0, .l (.ptr 12 0)), (1, .l (.mfn 46 12)), (5, .l (.own 1006)), (6, .l (.d (.int .i64 v13.2.2.2))), (17, .l (.d (.bool w14)))], 26⟩, ⟨[(34, .l (.mfn 46 12)), (33, .l (.ptr 12 0)), (32, .l (.ptr 12 0)), (13, .l (.d (.bool false))), (0, .l (.d (.sl (a0.map (eI .u8))))), (2, .l (.ptr 3 0)), (5, .l (.ptr 12 0)), (12, .l (.d (.int .i64 v1.2.2))), (13, .l (.d (.bool (decide (v1.2.2 < (3 : Int))))))], 74⟩], [(3, [.nil, .nil]), (12, [.d (.sl (a0.map (eI .u8))), .d (.int .i64 v29.1), .d (.int .i64 v29.2.1)]), (2003, [.d (.int .i64 (0 : Int)), .d (.int .i64 (0 : Int)), .nil])], [(1006, 121, 3, v13.2.2.1.map Part.enc), (3006, 53, 4, v29.2.2.1.map Task.enc)]⟩) h (Weak.trans (Weak.nilO _ 5 3006 53 4 rfl) (Weak.refl _)) (fun _ nx29 hn29 v29 h => ?_)
          conv => whnf
          refine jnS (fun w30 => ⟨[(0, .l (.ptr 12 0)), (1, .l (.mfn 67 12)), (5, .l (.own 3006)), (6, .l (.d (.int .i64 v29.2.2.2))), (17, .l (.d (.bool w30)))], 26, [⟨[(14, .l (.mfn 67 12)), (13, .l (.ptr 12 0)), (12, .l (.ptr 12 0)), (11, .agg [.d (.int .i64 w16.2.2), .d (.int .i64 w20.2.2)]), (10, .l (.d (.int .i64 w20.2.2))), (9, .l (.d (.int .i64 w16.2.2))), (0, .l (.ptr 12 0)), (2, .l (.ptr 2003 0)), (3, .l (.d (.int .i64 w16.2.2))), (4, .l (.d (.int .i64 w20.2.2)))], 17⟩, ⟨[(21, .l (.mfn 46 12)), (20, .l (.own 1006)), (17, .l (.d (.bool true))), (0, .l (.ptr 12 0)), (1, .l (.mfn 46 12)), (5, .l (.own 1006)), (6, .l (.d (.int .i64 v13.2.2.2))), (17, .l (.d (.bool w14)))], 26⟩, ⟨[(34, .l (.mfn 46 12)), (33, .l (.ptr 12 0)), (32, .l (.ptr 12 0)), (13, .l (.d (.bool false))), (0, .l (.d (.sl (a0.map (eI .u8))))), (2, .l (.ptr 3 0)), (5, .l (.ptr 12 0)), (12, .l (.d (.int .i64 v1.2.2))), (13, .l (.d (.bool (decide (v1.2.2 < (3 : Int))))))], 74⟩], [(3, [.nil, .nil]), (12, [.d (.sl (a0.map (eI .u8))), .d (.int .i64 v29.1), .d (.int .i64 v29.2.1)]), (2003, [.d (.int .i64 (0 : Int)), .d (.int .i64 (0 : Int)), .nil])], [(1006, 121, 3, v13.2.2.1.map Part.enc), (3006, 53, 4, v29.2.2.1.map Task.enc)]⟩) h (fun k30 hk30 h => ?_) (fun w30 h => ?_)
          · conv => whnf
            refine fkS h (fun h => ?_) (fun h => ?_)
            · conv => whnf
              exact jeS hk30 h (Weak.refl _)
            conv => whnf
            exact jeS hk30 h (Weak.refl _)
          conv => whnf
          refine fkS h (fun h => ?_) (fun h => ?_)
          · conv => whnf
            refine inJ (fun w31 => ⟨[(22, .agg [.d (.int .i64 w31.2.2.2.1), .d (.int .i64 w31.2.2.2.2.1), .d (.int .i64 w31.2.2.2.2.2), .own 403023]), (21, .l (.mfn 67 12)), (20, .l (.own 3006)), (17, .l (.d (.bool true))), (0, .l (.ptr 12 0)), (1, .l (.mfn 67 12)), (5, .l (.own 3006)), (6, .l (.d (.int .i64 v29.2.2.2)))], 26, [⟨[(14, .l (.mfn 67 12)), (13, .l (.ptr 12 0)), (12, .l (.ptr 12 0)), (11, .agg [.d (.int .i64 w16.2.2), .d (.int .i64 w20.2.2)]), (10, .l (.d (.int .i64 w20.2.2))), (9, .l (.d (.int .i64 w16.2.2))), (0, .l (.ptr 12 0)), (2, .l (.ptr 2003 0)), (3, .l (.d (.int .i64 w16.2.2))), (4, .l (.d (.int .i64 w20.2.2)))], 17⟩, ⟨[(21, .l (.mfn 46 12)), (20, .l (.own 1006)), (17, .l (.d (.bool true))), (0, .l (.ptr 12 0)), (1, .l (.mfn 46 12)), (5, .l (.own 1006)), (6, .l (.d (.int .i64 v13.2.2.2))), (17, .l (.d (.bool w14)))], 26⟩, ⟨[(34, .l (.mfn 46 12)), (33, .l (.ptr 12 0)), (32, .l (.ptr 12 0)), (13, .l (.d (.bool false))), (0, .l (.d (.sl (a0.map (eI .u8))))), (2, .l (.ptr 3 0)), (5, .l (.ptr 12 0)), (12, .l (.d (.int .i64 v1.2.2))), (13, .l (.d (.bool (decide (v1.2.2 < (3 : Int))))))], 74⟩], [(3, [.nil, .nil]), (12, [.d (.sl (a0.map (eI .u8))), .d (.int .i64 w31.1), .d (.int .i64 w31.2.1)]), (2003, [.d (.int .i64 (0 : Int)), .d (.int .i64 (0 : Int)), .nil])], [(1006, 121, 3, v13.2.2.1.map Part.enc), (3006, 53, 4, v29.2.2.1.map Task.enc), (403023, 142, 3, w31.2.2.1.map Sec.enc)]⟩) h (fun k31 hk31 h => ?_) (fun w31 h => ?_)
            · conv => whnf
              refine inS (fn := Tryz.f67) tab ⟨[(0, [0, 2]), (1, [0, 2, 3, 4, 5]), (2, [2])], [], [], []⟩ 20 [.cell 2 53] rfl rfl rfl rfl rfl rfl ?_
              conv => whnf
              refine inJ (fun w32 => ⟨[(7, .l (.d (.int .i64 w32.2.2))), (6, .l (.ptr 12 0)), (0, .l (.ptr 12 0)), (2, .l (.ptr 4003 0))], 20, [⟨[(21, .l (.mfn 67 12)), (20, .l (.own 3006)), (17, .l (.d (.bool true))), (0, .l (.ptr 12 0)), (1, .l (.mfn 67 12)), (5, .l (.own 3006)), (6, .l (.d (.int .i64 v29.2.2.2))), (17, .l (.d (.bool w30)))], 26⟩, ⟨[(14, .l (.mfn 67 12)), (13, .l (.ptr 12 0)), (12, .l (.ptr 12 0)), (11, .agg [.d (.int .i64 w16.2.2), .d (.int .i64 w20.2.2)]), (10, .l (.d (.int .i64 w20.2.2))), (9, .l (.d (.int .i64 w16.2.2))), (0, .l (.ptr 12 0)), (2, .l (.ptr 2003 0)), (3, .l (.d (.int .i64 w16.2.2))), (4, .l (.d (.int .i64 w20.2.2)))], 17⟩, ⟨[(21, .l (.mfn 46 12)), (20, .l (.own 1006)), (17, .l (.d (.bool true))), (0, .l (.ptr 12 0)), (1, .l (.mfn 46 12)), (5, .l (.own 1006)), (6, .l (.d (.int .i64 v13.2.2.2))), (17, .l (.d (.bool w14)))], 26⟩, ⟨[(34, .l (.mfn 46 12)), (33, .l (.ptr 12 0)), (32, .l (.ptr 12 0)), (13, .l (.d (.bool false))), (0, .l (.d (.sl (a0.map (eI .u8))))), (2, .l (.ptr 3 0)), (5, .l (.ptr 12 0)), (12, .l (.d (.int .i64 v1.2.2))), (13, .l (.d (.bool (decide (v1.2.2 < (3 : Int))))))], 74⟩], [(3, [.nil, .nil]), (12, [.d (.sl (a0.map (eI .u8))), .d (.int .i64 w32.1), .d (.int .i64 w32.2.1)]), (2003, [.d (.int .i64 (0 : Int)), .d (.int .i64 (0 : Int)), .nil]), (4003, [.d (.int .i64 (0 : Int)), .d (.int .i64 (0 : Int)), .d (.int .i64 (0 : Int)), .nil])], [(1006, 121, 3, v13.2.2.1.map Part.enc), (3006, 53, 4, v29.2.2.1.map Task.enc)]⟩) h (fun k32 hk32 h => ?_) (fun w32 h => ?_)
              · conv => whnf
                refine inS (fn := Tryz.f44) tab ⟨[(0, [0]), (1, [0, 19]), (2, [0]), (3, [0, 27]), (4, [2]), (5, [0]), (6, [2])], [], [100019, 3], []⟩ 47 [.tmp 2] rfl rfl rfl rfl rfl rfl ?_
                conv => whnf
                refine jnS (fun w33 => ⟨[(0, .l (.ptr 12 0))], 47, [⟨[(6, .l (.ptr 12 0)), (0, .l (.ptr 12 0)), (2, .l (.ptr 4003 0))], 20⟩, ⟨[(21, .l (.mfn 67 12)), (20, .l (.own 3006)), (17, .l (.d (.bool true))), (0, .l (.ptr 12 0)), (1, .l (.mfn 67 12)), (5, .l (.own 3006)), (6, .l (.d (.int .i64 v29.2.2.2))), (17, .l (.d (.bool w30)))], 26⟩, ⟨[(14, .l (.mfn 67 12)), (13, .l (.ptr 12 0)), (12, .l (.ptr 12 0)), (11, .agg [.d (.int .i64 w16.2.2), .d (.int .i64 w20.2.2)]), (10, .l (.d (.int .i64 w20.2.2))), (9, .l (.d (.int .i64 w16.2.2))), (0, .l (.ptr 12 0)), (2, .l (.ptr 2003 0)), (3, .l (.d (.int .i64 w16.2.2))), (4, .l (.d (.int .i64 w20.2.2)))], 17⟩, ⟨[(21, .l (.mfn 46 12)), (20, .l (.own 1006)), (17, .l (.d (.bool true))), (0, .l (.ptr 12 0)), (1, .l (.mfn 46 12)), (5, .l (.own 1006)), (6, .l (.d (.int .i64 v13.2.2.2))), (17, .l (.d (.bool w14)))], 26⟩, ⟨[(34, .l (.mfn 46 12)), (33, .l (.ptr 12 0)), (32, .l (.ptr 12 0)), (13, .l (.d (.bool false))), (0, .l (.d (.sl (a0.map (eI .u8))))), (2, .l (.ptr 3 0)), (5, .l (.ptr 12 0)), (12, .l (.d (.int .i64 v1.2.2))), (13, .l (.d (.bool (decide (v1.2.2 < (3 : Int))))))], 74⟩], [(3, [.nil, .nil]), (12, [.d (.sl (a0.map (eI .u8))), .d (.int .i64 v29.1), .d (.int .i64 w33)]), (2003, [.d (.int .i64 (0 : Int)), .d (.int .i64 (0 : Int)), .nil]), (4003, [.d (.int .i64 (0 : Int)), .d (.int .i64 (0 : Int)), .d (.int .i64 (0 : Int)), .nil])], [(1006, 121, 3, v13.2.2.1.map Part.enc), (3006, 53, 4, v29.2.2.1.map Task.enc)]⟩) h (fun k33 hk33 h => ?_) (fun w33 h => ?_)
                · conv => whnf
                  refine jnS (fun w34 => ⟨[(0, .l (.ptr 12 0)), (19, .l (.d (.bool w34)))], 47, [⟨[(6, .l (.ptr 12 0)), (0, .l (.ptr 12 0)), (2, .l (.ptr 4003 0))], 20⟩, ⟨[(21, .l (.mfn 67 12)), (20, .l (.own 3006)), (17, .l (.d (.bool true))), (0, .l (.ptr 12 0)), (1, .l (.mfn 67 12)), (5, .l (.own 3006)), (6, .l (.d (.int .i64 v29.2.2.2))), (17, .l (.d (.bool w30)))], 26⟩, ⟨[(14, .l (.mfn 67 12)), (13, .l (.ptr 12 0)), (12, .l (.ptr 12 0)), (11, .agg [.d (.int .i64 w16.2.2), .d (.int .i64 w20.2.2)]), (10, .l (.d (.int .i64 w20.2.2))), (9, .l (.d (.int .i64 w16.2.2))), (0, .l (.ptr 12 0)), (2, .l (.ptr 2003 0)), (3, .l (.d (.int .i64 w16.2.2))), (4, .l (.d (.int .i64 w20.2.2)))], 17⟩, ⟨[(21, .l (.mfn 46 12)), (20, .l (.own 1006)), (17, .l (.d (.bool true))), (0, .l (.ptr 12 0)), (1, .l (.mfn 46 12)), (5, .l (.own 1006)), (6, .l (.d (.int .i64 v13.2.2.2))), (17, .l (.d (.bool w14)))], 26⟩, ⟨[(34, .l (.mfn 46 12)), (33, .l (.ptr 12 0)), (32, .l (.ptr 12 0)), (13, .l (.d (.bool false))), (0, .l (.d (.sl (a0.map (eI .u8))))), (2, .l (.ptr 3 0)), (5, .l (.ptr 12 0)), (12, .l (.d (.int .i64 v1.2.2))), (13, .l (.d (.bool (decide (v1.2.2 < (3 : Int))))))], 74⟩], [(3, [.nil, .nil]), (12, [.d (.sl (a0.map (eI .u8))), .d (.int .i64 v29.1), .d (.int .i64 v29.2.1)]), (2003, [.d (.int .i64 (0 : Int)), .d (.int .i64 (0 : Int)), .nil]), (4003, [.d (.int .i64 (0 : Int)), .d (.int .i64 (0 : Int)), .d (.int .i64 (0 : Int)), .nil])], [(1006, 121, 3, v13.2.2.1.map Part.enc), (3006, 53, 4, v29.2.2.1.map Task.enc)]⟩) h (fun k34 hk34 h => ?_) (fun w34 h => ?_)
                  · conv => whnf
                    refine ⟨17, ?_⟩
                    conv => whnf
                    refine fkS h (fun h => ?_) (fun h => ?_)
                    · conv => whnf
                      refine lenS a0 (eI .u8) rfl ?_
                      conv => whnf
                      refine drS (by kernel_rfl) ?_
                      conv => whnf
                      exact jeS hk34 h (Weak.refl _)
                    conv => whnf
                    refine drS (by kernel_rfl) ?_
                    conv => whnf
                    exact jeS hk34 h (Weak.refl _)
                  conv => whnf
                  refine fkS h (fun h => ?_) (fun h => ?_)
                  · conv => whnf
                    exact jeS hk33 h (Weak.refl _)
                  conv => whnf
                  refine jeX hk33 h ?_
                  conv => whnf
                  refine WkF.step (Weak.keepS _ [0]) ?_
                  conv => whnf
                  exact WkF.refl _
                conv => whnf
                refine fkS h (fun h => ?_) (fun h => ?_)
                · conv => whnf
                  exact jeS hk32 h (Weak.refl _)
                conv => whnf
                refine ⟨9, ?_⟩
                conv => whnf
                refine drS (by kernel_rfl) ?_
                conv => whnf
                refine ixS (enc := (eI .u8)) h rfl (fun _ => rfl) (fun x35 h => ?_)
                conv => whnf
                exact jeS hk32 h (Weak.refl _)
              conv => whnf
              refine inJ (fun w36 => ⟨[(9, .l (.d (.int .i64 w36.2.2))), (8, .l (.ptr 12 0)), (7, .l (.d (.int .i64 w32.2.2))), (6, .l (.ptr 12 0)), (0, .l (.ptr 12 0)), (2, .l (.ptr 4003 0))], 20, [⟨[(21, .l (.mfn 67 12)), (20, .l (.own 3006)), (17, .l (.d (.bool true))), (0, .l (.ptr 12 0)), (1, .l (.mfn 67 12)), (5, .l (.own 3006)), (6, .l (.d (.int .i64 v29.2.2.2))), (17, .l (.d (.bool w30)))], 26⟩, ⟨[(14, .l (.mfn 67 12)), (13, .l (.ptr 12 0)), (12, .l (.ptr 12 0)), (11, .agg [.d (.int .i64 w16.2.2), .d (.int .i64 w20.2.2)]), (10, .l (.d (.int .i64 w20.2.2))), (9, .l (.d (.int .i64 w16.2.2))), (0, .l (.ptr 12 0)), (2, .l (.ptr 2003 0)), (3, .l (.d (.int .i64 w16.2.2))), (4, .l (.d (.int .i64 w20.2.2)))], 17⟩, ⟨[(21, .l (.mfn 46 12)), (20, .l (.own 1006)), (17, .l (.d (.bool true))), (0, .l (.ptr 12 0)), (1, .l (.mfn 46 12)), (5, .l (.own 1006)), (6, .l (.d (.int .i64 v13.2.2.2))), (17, .l (.d (.bool w14)))], 26⟩, ⟨[(34, .l (.mfn 46 12)), (33, .l (.ptr 12 0)), (32, .l (.ptr 12 0)), (13, .l (.d (.bool false))), (0, .l (.d (.sl (a0.map (eI .u8))))), (2, .l (.ptr 3 0)), (5, .l (.ptr 12 0)), (12, .l (.d (.int .i64 v1.2.2))), (13, .l (.d (.bool (decide (v1.2.2 < (3 : Int))))))], 74⟩], [(3, [.nil, .nil]), (12, [.d (.sl (a0.map (eI .u8))), .d (.int .i64 w36.1), .d (.int .i64 w36.2.1)]), (2003, [.d (.int .i64 (0 : Int)), .d (.int .i64 (0 : Int)), .nil]), (4003, [.d (.int .i64 (0 : Int)), .d (.int .i64 (0 : Int)), .d (.int .i64 (0 : Int)), .nil])], [(1006, 121, 3, v13.2.2.1.map Part.enc), (3006, 53, 4, v29.2.2.1.map Task.enc)]⟩) h (fun k36 hk36 h => ?_) (fun w36 h => ?_)
              · conv => whnf
                refine inS (fn := Tryz.f44) tab ⟨[(0, [0]), (1, [0, 19]), (2, [0]), (3, [0, 27]), (4, [2]), (5, [0]), (6, [2])], [], [100019, 3], []⟩ 47 [.tmp 2] rfl rfl rfl rfl rfl rfl ?_
                conv => whnf
                refine jnS (fun w37 => ⟨[(0, .l (.ptr 12 0))], 47, [⟨[(8, .l (.ptr 12 0)), (7, .l (.d (.int .i64 w32.2.2))), (6, .l (.ptr 12 0)), (0, .l (.ptr 12 0)), (2, .l (.ptr 4003 0))], 20⟩, ⟨[(21, .l (.mfn 67 12)), (20, .l (.own 3006)), (17, .l (.d (.bool true))), (0, .l (.ptr 12 0)), (1, .l (.mfn 67 12)), (5, .l (.own 3006)), (6, .l (.d (.int .i64 v29.2.2.2))), (17, .l (.d (.bool w30)))], 26⟩, ⟨[(14, .l (.mfn 67 12)), (13, .l (.ptr 12 0)), (12, .l (.ptr 12 0)), (11, .agg [.d (.int .i64 w16.2.2), .d (.int .i64 w20.2.2)]), (10, .l (.d (.int .i64 w20.2.2))), (9, .l (.d (.int .i64 w16.2.2))), (0, .l (.ptr 12 0)), (2, .l (.ptr 2003 0)), (3, .l (.d (.int .i64 w16.2.2))), (4, .l (.d (.int .i64 w20.2.2)))], 17⟩, ⟨[(21, .l (.mfn 46 12)), (20, .l (.own 1006)), (17, .l (.d (.bool true))), (0, .l (.ptr 12 0)), (1, .l (.mfn 46 12)), (5, .l (.own 1006)), (6, .l (.d (.int .i64 v13.2.2.2))), (17, .l (.d (.bool w14)))], 26⟩, ⟨[(34, .l (.mfn 46 12)), (33, .l (.ptr 12 0)), (32, .l (.ptr 12 0)), (13, .l (.d (.bool false))), (0, .l (.d (.sl (a0.map (eI .u8))))), (2, .l (.ptr 3 0)), (5, .l (.ptr 12 0)), (12, .l (.d (.int .i64 v1.2.2))), (13, .l (.d (.bool (decide (v1.2.2 < (3 : Int))))))], 74⟩], [(3, [.nil, .nil]), (12, [.d (.sl (a0.map (eI .u8))), .d (.int .i64 w32.1), .d (.int .i64 w37)]), (2003, [.d (.int .i64 (0 : Int)), .d (.int .i64 (0 : Int)), .nil]), (4003, [.d (.int .i64 (0 : Int)), .d (.int .i64 (0 : Int)), .d (.int .i64 (0 : Int)), .nil])], [(1006, 121, 3, v13.2.2.1.map Part.enc), (3006, 53, 4, v29.2.2.1.map Task.enc)]⟩) h (fun k37 hk37 h => ?_) (fun w37 h => ?_)
                · conv => whnf
                  refine jnS (fun w38 => ⟨[(0, .l (.ptr 12 0)), (19, .l (.d (.bool w38)))], 47, [⟨[(8, .l (.ptr 12 0)), (7, .l (.d (.int .i64 w32.2.2))), (6, .l (.ptr 12 0)), (0, .l (.ptr 12 0)), (2, .l (.ptr 4003 0))], 20⟩, ⟨[(21, .l (.mfn 67 12)), (20, .l (.own 3006)), (17, .l (.d (.bool true))), (0, .l (.ptr 12 0)), (1, .l (.mfn 67 12)), (5, .l (.own 3006)), (6, .l (.d (.int .i64 v29.2.2.2))), (17, .l (.d (.bool w30)))], 26⟩, ⟨[(14, .l (.mfn 67 12)), (13, .l (.ptr 12 0)), (12, .l (.ptr 12 0)), (11, .agg [.d (.int .i64 w16.2.2), .d (.int .i64 w20.2.2)]), (10, .l (.d (.int .i64 w20.2.2))), (9, .l (.d (.int .i64 w16.2.2))), (0, .l (.ptr 12 0)), (2, .l (.ptr 2003 0)), (3, .l (.d (.int .i64 w16.2.2))), (4, .l (.d (.int .i64 w20.2.2)))], 17⟩, ⟨[(21, .l (.mfn 46 12)), (20, .l (.own 1006)), (17, .l (.d (.bool true))), (0, .l (.ptr 12 0)), (1, .l (.mfn 46 12)), (5, .l (.own 1006)), (6, .l (.d (.int .i64 v13.2.2.2))), (17, .l (.d (.bool w14)))], 26⟩, ⟨[(34, .l (.mfn 46 12)), (33, .l (.ptr 12 0)), (32, .l (.ptr 12 0)), (13, .l (.d (.bool false))), (0, .l (.d (.sl (a0.map (eI .u8))))), (2, .l (.ptr 3 0)), (5, .l (.ptr 12 0)), (12, .l (.d (.int .i64 v1.2.2))), (13, .l (.d (.bool (decide (v1.2.2 < (3 : Int))))))], 74⟩], [(3, [.nil, .nil]), (12, [.d (.sl (a0.map (eI .u8))), .d (.int .i64 w32.1), .d (.int .i64 w32.2.1)]), (2003, [.d (.int .i64 (0 : Int)), .d (.int .i64 (0 : Int)), .nil]), (4003, [.d (.int .i64 (0 : Int)), .d (.int .i64 (0 : Int)), .d (.int .i64 (0 : Int)), .nil])], [(1006, 121, 3, v13.2.2.1.map Part.enc), (3006, 53, 4, v29.2.2.1.map Task.enc)]⟩) h (fun k38 hk38 h => ?_) (fun w38 h => ?_)
                  · conv => whnf
                    refine ⟨17, ?_⟩
                    conv => whnf
                    refine fkS h (fun h => ?_) (fun h => ?_)
                    · conv => whnf
                      refine lenS a0 (eI .u8) rfl ?_
                      conv => whnf
                      refine drS (by kernel_rfl) ?_
                      conv => whnf
                      exact jeS hk38 h (Weak.refl _)
                    conv => whnf
                    refine drS (by kernel_rfl) ?_
                    conv => whnf
                    exact jeS hk38 h (Weak.refl _)
                  conv => whnf
                  refine fkS h (fun h => ?_) (fun h => ?_)
                  · conv => whnf
                    exact jeS hk37 h (Weak.refl _)
                  conv => whnf
                  refine jeX hk37 h ?_
                  conv => whnf
                  refine WkF.step (Weak.keepS _ [0]) ?_
                  conv => whnf
                  exact WkF.refl _
                conv => whnf
                refine fkS h (fun h => ?_) (fun h => ?_)
                · conv => whnf
                  exact jeS hk36 h (Weak.refl _)
                conv => whnf
                refine ⟨9, ?_⟩
                conv => whnf
                refine drS (by kernel_rfl) ?_
                conv => whnf
                refine ixS (enc := (eI .u8)) h rfl (fun _ => rfl) (fun x39 h => ?_)
                conv => whnf
                exact jeS hk36 h (Weak.refl _)
              conv => whnf
              refine inJ (fun w40 => ⟨[(11, .l (.d (.int .i64 w40.2.2))), (10, .l (.ptr 12 0)), (9, .l (.d (.int .i64 w36.2.2))), (8, .l (.ptr 12 0)), (7, .l (.d (.int .i64 w32.2.2))), (6, .l (.ptr 12 0)), (0, .l (.ptr 12 0)), (2, .l (.ptr 4003 0))], 20, [⟨[(21, .l (.mfn 67 12)), (20, .l (.own 3006)), (17, .l (.d (.bool true))), (0, .l (.ptr 12 0)), (1, .l (.mfn 67 12)), (5, .l (.own 3006)), (6, .l (.d (.int .i64 v29.2.2.2))), (17, .l (.d (.bool w30)))], 26⟩, ⟨[(14, .l (.mfn 67 12)), (13, .l (.ptr 12 0)), (12, .l (.ptr 12 0)), (11, .agg [.d (.int .i64 w16.2.2), .d (.int .i64 w20.2.2)]), (10, .l (.d (.int .i64 w20.2.2))), (9, .l (.d (.int .i64 w16.2.2))), (0, .l (.ptr 12 0)), (2, .l (.ptr 2003 0)), (3, .l (.d (.int .i64 w16.2.2))), (4, .l (.d (.int .i64 w20.2.2)))], 17⟩, ⟨[(21, .l (.mfn 46 12)), (20, .l (.own 1006)), (17, .l (.d (.bool true))), (0, .l (.ptr 12 0)), (1, .l (.mfn 46 12)), (5, .l (.own 1006)), (6, .l (.d (.int .i64 v13.2.2.2))), (17, .l (.d (.bool w14)))], 26⟩, ⟨[(34, .l (.mfn 46 12)), (33, .l (.ptr 12 0)), (32, .l (.ptr 12 0)), (13, .l (.d (.bool false))), (0, .l (.d (.sl (a0.map (eI .u8))))), (2, .l (.ptr 3 0)), (5, .l (.ptr 12 0)), (12, .l (.d (.int .i64 v1.2.2))), (13, .l (.d (.bool (decide (v1.2.2 < (3 : Int))))))], 74⟩], [(3, [.nil, .nil]), (12, [.d (.sl (a0.map (eI .u8))), .d (.int .i64 w40.1), .d (.int .i64 w40.2.1)]), (2003, [.d (.int .i64 (0 : Int)), .d (.int .i64 (0 : Int)), .nil]), (4003, [.d (.int .i64 (0 : Int)), .d (.int .i64 (0 : Int)), .d (.int .i64 (0 : Int)), .nil])], [(1006, 121, 3, v13.2.2.1.map Part.enc), (3006, 53, 4, v29.2.2.1.map Task.enc)]⟩) h (fun k40 hk40 h => ?_) (fun w40 h => ?_)
              · conv => whnf
                refine inS (fn := Tryz.f44) tab ⟨[(0, [0]), (1, [0, 19]), (2, [0]), (3, [0, 27]), (4, [2]), (5, [0]), (6, [2])], [], [100019, 3], []⟩ 47 [.tmp 2] rfl rfl rfl rfl rfl rfl ?_
                conv => whnf
                refine jnS (fun w41 => ⟨[(0, .l (.ptr 12 0))], 47, [⟨[(10, .l (.ptr 12 0)), (9, .l (.d (.int .i64 w36.2.2))), (8, .l (.ptr 12 0)), (7, .l (.d (.int .i64 w32.2.2))), (6, .l (.ptr 12 0)), (0, .l (.ptr 12 0)), (2, .l (.ptr 4003 0))], 20⟩, ⟨[(21, .l (.mfn 67 12)), (20, .l (.own 3006)), (17, .l (.d (.bool true))), (0, .l (.ptr 12 0)), (1, .l (.mfn 67 12)), (5, .l (.own 3006)), (6, .l (.d (.int .i64 v29.2.2.2))), (17, .l (.d (.bool w30)))], 26⟩, ⟨[(14, .l (.mfn 67 12)), (13, .l (.ptr 12 0)), (12, .l (.ptr 12 0)), (11, .agg [.d (.int .i64 w16.2.2), .d (.int .i64 w20.2.2)]), (10, .l (.d (.int .i64 w20.2.2))), (9, .l (.d (.int .i64 w16.2.2))), (0, .l (.ptr 12 0)), (2, .l (.ptr 2003 0)), (3, .l (.d (.int .i64 w16.2.2))), (4, .l (.d (.int .i64 w20.2.2)))], 17⟩, ⟨[(21, .l (.mfn 46 12)), (20, .l (.own 1006)), (17, .l (.d (.bool true))), (0, .l (.ptr 12 0)), (1, .l (.mfn 46 12)), (5, .l (.own 1006)), (6, .l (.d (.int .i64 v13.2.2.2))), (17, .l (.d (.bool w14)))], 26⟩, ⟨[(34, .l (.mfn 46 12)), (33, .l (.ptr 12 0)), (32, .l (.ptr 12 0)), (13, .l (.d (.bool false))), (0, .l (.d (.sl (a0.map (eI .u8))))), (2, .l (.ptr 3 0)), (5, .l (.ptr 12 0)), (12, .l (.d (.int .i64 v1.2.2))), (13, .l (.d (.bool (decide (v1.2.2 < (3 : Int))))))], 74⟩], [(3, [.nil, .nil]), (12, [.d (.sl (a0.map (eI .u8))), .d (.int .i64 w36.1), .d (.int .i64 w41)]), (2003, [.d (.int .i64 (0 : Int)), .d (.int .i64 (0 : Int)), .nil]), (4003, [.d (.int .i64 (0 : Int)), .d (.int .i64 (0 : Int)), .d (.int .i64 (0 : Int)), .nil])], [(1006, 121, 3, v13.2.2.1.map Part.enc), (3006, 53, 4, v29.2.2.1.map Task.enc)]⟩) h (fun k41 hk41 h => ?_) (fun w41 h => ?_)
                · conv => whnf
                  refine jnS (fun w42 => ⟨[(0, .l (.ptr 12 0)), (19, .l (.d (.bool w42)))], 47, [⟨[(10, .l (.ptr 12 0)), (9, .l (.d (.int .i64 w36.2.2))), (8, .l (.ptr 12 0)), (7, .l (.d (.int .i64 w32.2.2))), (6, .l (.ptr 12 0)), (0, .l (.ptr 12 0)), (2, .l (.ptr 4003 0))], 20⟩, ⟨[(21, .l (.mfn 67 12)), (20, .l (.own 3006)), (17, .l (.d (.bool true))), (0, .l (.ptr 12 0)), (1, .l (.mfn 67 12)), (5, .l (.own 3006)), (6, .l (.d (.int .i64 v29.2.2.2))), (17, .l (.d (.bool w30)))], 26⟩, ⟨[(14, .l (.mfn 67 12)), (13, .l (.ptr 12 0)), (12, .l (.ptr 12 0)), (11, .agg [.d (.int .i64 w16.2.2), .d (.int .i64 w20.2.2)]), (10, .l (.d (.int .i64 w20.2.2))), (9, .l (.d (.int .i64 w16.2.2))), (0, .l (.ptr 12 0)), (2, .l (.ptr 2003 0)), (3, .l (.d (.int .i64 w16.2.2))), (4, .l (.d (.int .i64 w20.2.2)))], 17⟩, ⟨[(21, .l (.mfn 46 12)), (20, .l (.own 1006)), (17, .l (.d (.bool true))), (0, .l (.ptr 12 0)), (1, .l (.mfn 46 12)), (5, .l (.own 1006)), (6, .l (.d (.int .i64 v13.2.2.2))), (17, .l (.d (.bool w14)))], 26⟩, ⟨[(34, .l (.mfn 46 12)), (33, .l (.ptr 12 0)), (32, .l (.ptr 12 0)), (13, .l (.d (.bool false))), (0, .l (.d (.sl (a0.map (eI .u8))))), (2, .l (.ptr 3 0)), (5, .l (.ptr 12 0)), (12, .l (.d (.int .i64 v1.2.2))), (13, .l (.d (.bool (decide (v1.2.2 < (3 : Int))))))], 74⟩], [(3, [.nil, .nil]), (12, [.d (.sl (a0.map (eI .u8))), .d (.int .i64 w36.1), .d (.int .i64 w36.2.1)]), (2003, [.d (.int .i64 (0 : Int)), .d (.int .i64 (0 : Int)), .nil]), (4003, [.d (.int .i64 (0 : Int)), .d (.int .i64 (0 : Int)), .d (.int .i64 (0 : Int)), .nil])], [(1006, 121, 3, v13.2.2.1.map Part.enc), (3006, 53, 4, v29.2.2.1.map Task.enc)]⟩) h (fun k42 hk42 h => ?_) (fun w42 h => ?_)
                  · conv => whnf
                    refine ⟨17, ?_⟩
                    conv => whnf
                    refine fkS h (fun h => ?_) (fun h => ?_)
                    · conv => whnf
                      refine lenS a0 (eI .u8) rfl ?_
                      conv => whnf
                      refine drS (by kernel_rfl) ?_
                      conv => whnf
                      exact jeS hk42 h (Weak.refl _)
                    conv => whnf
                    refine drS (by kernel_rfl) ?_
                    conv => whnf
                    exact jeS hk42 h (Weak.refl _)
                  conv => whnf
                  refine fkS h (fun h => ?_) (fun h => ?_)
                  · conv => whnf
                    exact jeS hk41 h (Weak.refl _)
                  conv => whnf
                  refine jeX hk41 h ?_
                  conv => whnf
                  refine WkF.step (Weak.keepS _ [0]) ?_
                  conv => whnf
                  exact WkF.refl _
                conv => whnf
                refine fkS h (fun h => ?_) (fun h => ?_)
                · conv => whnf
                  exact jeS hk40 h (Weak.refl _)
                conv => whnf
                refine ⟨9, ?_⟩
                conv => whnf
                refine drS (by kernel_rfl) ?_
                conv => whnf
                refine ixS (enc := (eI .u8)) h rfl (fun _ => rfl) (fun x43 h => ?_)
                conv => whnf
                exact jeS hk40 h (Weak.refl _)
              conv => whnf
              refine inJ (fun w44 => ⟨[(18, .l (.own 4019)), (17, .l (.mfn 103 12)), (16, .l (.ptr 12 0)), (15, .l (.ptr 12 0)), (14, .l (.d (.int .i64 w40.2.2))), (13, .l (.d (.int .i64 w36.2.2))), (12, .l (.d (.int .i64 w32.2.2))), (0, .l (.ptr 12 0)), (2, .l (.ptr 4003 0)), (3, .l (.d (.int .i64 w32.2.2))), (4, .l (.d (.int .i64 w36.2.2))), (5, .l (.d (.int .i64 w40.2.2)))], 20, [⟨[(21, .l (.mfn 67 12)), (20, .l (.own 3006)), (17, .l (.d (.bool true))), (0, .l (.ptr 12 0)), (1, .l (.mfn 67 12)), (5, .l (.own 3006)), (6, .l (.d (.int .i64 v29.2.2.2))), (17, .l (.d (.bool w30)))], 26⟩, ⟨[(14, .l (.mfn 67 12)), (13, .l (.ptr 12 0)), (12, .l (.ptr 12 0)), (11, .agg [.d (.int .i64 w16.2.2), .d (.int .i64 w20.2.2)]), (10, .l (.d (.int .i64 w20.2.2))), (9, .l (.d (.int .i64 w16.2.2))), (0, .l (.ptr 12 0)), (2, .l (.ptr 2003 0)), (3, .l (.d (.int .i64 w16.2.2))), (4, .l (.d (.int .i64 w20.2.2)))], 17⟩, ⟨[(21, .l (.mfn 46 12)), (20, .l (.own 1006)), (17, .l (.d (.bool true))), (0, .l (.ptr 12 0)), (1, .l (.mfn 46 12)), (5, .l (.own 1006)), (6, .l (.d (.int .i64 v13.2.2.2))), (17, .l (.d (.bool w14)))], 26⟩, ⟨[(34, .l (.mfn 46 12)), (33, .l (.ptr 12 0)), (32, .l (.ptr 12 0)), (13, .l (.d (.bool false))), (0, .l (.d (.sl (a0.map (eI .u8))))), (2, .l (.ptr 3 0)), (5, .l (.ptr 12 0)), (12, .l (.d (.int .i64 v1.2.2))), (13, .l (.d (.bool (decide (v1.2.2 < (3 : Int))))))], 74⟩], [(3, [.nil, .nil]), (12, [.d (.sl (a0.map (eI .u8))), .d (.int .i64 w44.1), .d (.int .i64 w44.2.1)]), (2003, [.d (.int .i64 (0 : Int)), .d (.int .i64 (0 : Int)), .nil]), (4003, [.d (.int .i64 (0 : Int)), .d (.int .i64 (0 : Int)), .d (.int .i64 (0 : Int)), .nil])], [(1006, 121, 3, v13.2.2.1.map Part.enc), (3006, 53, 4, v29.2.2.1.map Task.enc), (4019, 142, 3, w44.2.2.map Sec.enc)]⟩) h (fun k44 hk44 h => ?_) (fun w44 h => ?_)
              · conv => whnf
                refine inS (fn := Tryz.f102) tab ⟨[(0, [0, 1]), (1, [0, 1, 5]), (2, [0, 1, 5, 6]), (3, [0, 1, 5, 6, 17]), (4, [0, 1, 5, 6]), (5, [0, 1, 5, 6]), (6, [4])], [], [100017], []⟩ 26 [.tmp 4] rfl rfl rfl rfl rfl rfl ?_
                conv => whnf
                refine inJ (fun w45 => ⟨[(8, .l (.d (.int .i64 w45.2.2))), (7, .l (.ptr 12 0)), (0, .l (.ptr 12 0)), (1, .l (.mfn 103 12)), (5, .l .nil)], 26, [⟨[(17, .l (.mfn 103 12)), (16, .l (.ptr 12 0)), (15, .l (.ptr 12 0)), (14, .l (.d (.int .i64 w40.2.2))), (13, .l (.d (.int .i64 w36.2.2))), (12, .l (.d (.int .i64 w32.2.2))), (0, .l (.ptr 12 0)), (2, .l (.ptr 4003 0)), (3, .l (.d (.int .i64 w32.2.2))), (4, .l (.d (.int .i64 w36.2.2))), (5, .l (.d (.int .i64 w40.2.2)))], 20⟩, ⟨[(21, .l (.mfn 67 12)), (20, .l (.own 3006)), (17, .l (.d (.bool true))), (0, .l (.ptr 12 0)), (1, .l (.mfn 67 12)), (5, .l (.own 3006)), (6, .l (.d (.int .i64 v29.2.2.2))), (17, .l (.d (.bool w30)))], 26⟩, ⟨[(14, .l (.mfn 67 12)), (13, .l (.ptr 12 0)), (12, .l (.ptr 12 0)), (11, .agg [.d (.int .i64 w16.2.2), .d (.int .i64 w20.2.2)]), (10, .l (.d (.int .i64 w20.2.2))), (9, .l (.d (.int .i64 w16.2.2))), (0, .l (.ptr 12 0)), (2, .l (.ptr 2003 0)), (3, .l (.d (.int .i64 w16.2.2))), (4, .l (.d (.int .i64 w20.2.2)))], 17⟩, ⟨[(21, .l (.mfn 46 12)), (20, .l (.own 1006)), (17, .l (.d (.bool true))), (0, .l (.ptr 12 0)), (1, .l (.mfn 46 12)), (5, .l (.own 1006)), (6, .l (.d (.int .i64 v13.2.2.2))), (17, .l (.d (.bool w14)))], 26⟩, ⟨[(34, .l (.mfn 46 12)), (33, .l (.ptr 12 0)), (32, .l (.ptr 12 0)), (13, .l (.d (.bool false))), (0, .l (.d (.sl (a0.map (eI .u8))))), (2, .l (.ptr 3 0)), (5, .l (.ptr 12 0)), (12, .l (.d (.int .i64 v1.2.2))), (13, .l (.d (.bool (decide (v1.2.2 < (3 : Int))))))], 74⟩], [(3, [.nil, .nil]), (12, [.d (.sl (a0.map (eI .u8))), .d (.int .i64 w45.1), .d (.int .i64 w45.2.1)]), (2003, [.d (.int .i64 (0 : Int)), .d (.int .i64 (0 : Int)), .nil]), (4003, [.d (.int .i64 (0 : Int)), .d (.int .i64 (0 : Int)), .d (.int .i64 (0 : Int)), .nil])], [(1006, 121, 3, v13.2.2.1.map Part.enc), (3006, 53, 4, v29.2.2.1.map Task.enc)]⟩) h (fun k45 hk45 h => ?_) (fun w45 h => ?_)
                · conv => whnf
                  refine inS (fn := Tryz.f44) tab ⟨[(0, [0]), (1, [0, 19]), (2, [0]), (3, [0, 27]), (4, [2]), (5, [0]), (6, [2])], [], [100019, 3], []⟩ 47 [.tmp 2] rfl rfl rfl rfl rfl rfl ?_
                  conv => whnf
                  refine jnS (fun w46 => ⟨[(0, .l (.ptr 12 0))], 47, [⟨[(7, .l (.ptr 12 0)), (0, .l (.ptr 12 0)), (1, .l (.mfn 103 12)), (5, .l .nil)], 26⟩, ⟨[(17, .l (.mfn 103 12)), (16, .l (.ptr 12 0)), (15, .l (.ptr 12 0)), (14, .l (.d (.int .i64 w40.2.2))), (13, .l (.d (.int .i64 w36.2.2))), (12, .l (.d (.int .i64 w32.2.2))), (0, .l (.ptr 12 0)), (2, .l (.ptr 4003 0)), (3, .l (.d (.int .i64 w32.2.2))), (4, .l (.d (.int .i64 w36.2.2))), (5, .l (.d (.int .i64 w40.2.2)))], 20⟩, ⟨[(21, .l (.mfn 67 12)), (20, .l (.own 3006)), (17, .l (.d (.bool true))), (0, .l (.ptr 12 0)), (1, .l (.mfn 67 12)), (5, .l (.own 3006)), (6, .l (.d (.int .i64 v29.2.2.2))), (17, .l (.d (.bool w30)))], 26⟩, ⟨[(14, .l (.mfn 67 12)), (13, .l (.ptr 12 0)), (12, .l (.ptr 12 0)), (11, .agg [.d (.int .i64 w16.2.2), .d (.int .i64 w20.2.2)]), (10, .l (.d (.int .i64 w20.2.2))), (9, .l (.d (.int .i64 w16.2.2))), (0, .l (.ptr 12 0)), (2, .l (.ptr 2003 0)), (3, .l (.d (.int .i64 w16.2.2))), (4, .l (.d (.int .i64 w20.2.2)))], 17⟩, ⟨[(21, .l (.mfn 46 12)), (20, .l (.own 1006)), (17, .l (.d (.bool true))), (0, .l (.ptr 12 0)), (1, .l (.mfn 46 12)), (5, .l (.own 1006)), (6, .l (.d (.int .i64 v13.2.2.2))), (17, .l (.d (.bool w14)))], 26⟩, ⟨[(34, .l (.mfn 46 12)), (33, .l (.ptr 12 0)), (32, .l (.ptr 12 0)), (13, .l (.d (.bool false))), (0, .l (.d (.sl (a0.map (eI .u8))))), (2, .l (.ptr 3 0)), (5, .l (.ptr 12 0)), (12, .l (.d (.int .i64 v1.2.2))), (13, .l (.d (.bool (decide (v1.2.2 < (3 : Int))))))], 74⟩], [(3, [.nil, .nil]), (12, [.d (.sl (a0.map (eI .u8))), .d (.int .i64 w40.1), .d (.int .i64 w46)]), (2003, [.d (.int .i64 (0 : Int)), .d (.int .i64 (0 : Int)), .nil]), (4003, [.d (.int .i64 (0 : Int)), .d (.int .i64 (0 : Int)), .d (.int .i64 (0 : Int)), .nil])], [(1006, 121, 3, v13.2.2.1.map Part.enc), (3006, 53, 4, v29.2.2.1.map Task.enc)]⟩) h (fun k46 hk46 h => ?_) (fun w46 h => ?_)
                  · conv => whnf
                    refine jnS (fun w47 => ⟨[(0, .l (.ptr 12 0)), (19, .l (.d (.bool w47)))], 47, [⟨[(7, .l (.ptr 12 0)), (0, .l (.ptr 12 0)), (1, .l (.mfn 103 12)), (5, .l .nil)], 26⟩, ⟨[(17, .l (.mfn 103 12)), (16, .l (.ptr 12 0)), (15, .l (.ptr 12 0)), (14, .l (.d (.int .i64 w40.2.2))), (13, .l (.d (.int .i64 w36.2.2))), (12, .l (.d (.int .i64 w32.2.2))), (0, .l (.ptr 12 0)), (2, .l (.ptr 4003 0)), (3, .l (.d (.int .i64 w32.2.2))), (4, .l (.d (.int .i64 w36.2.2))), (5, .l (.d (.int .i64 w40.2.2)))], 20⟩, ⟨[(21, .l (.mfn 67 12)), (20, .l (.own 3006)), (17, .l (.d (.bool true))), (0, .l (.ptr 12 0)), (1, .l (.mfn 67 12)), (5, .l (.own 3006)), (6, .l (.d (.int .i64 v29.2.2.2))), (17, .l (.d (.bool w30)))], 26⟩, ⟨[(14, .l (.mfn 67 12)), (13, .l (.ptr 12 0)), (12, .l (.ptr 12 0)), (11, .agg [.d (.int .i64 w16.2.2), .d (.int .i64 w20.2.2)]), (10, .l (.d (.int .i64 w20.2.2))), (9, .l (.d (.int .i64 w16.2.2))), (0, .l (.ptr 12 0)), (2, .l (.ptr 2003 0)), (3, .l (.d (.int .i64 w16.2.2))), (4, .l (.d (.int .i64 w20.2.2)))], 17⟩, ⟨[(21, .l (.mfn 46 12)), (20, .l (.own 1006)), (17, .l (.d (.bool true))), (0, .l (.ptr 12 0)), (1, .l (.mfn 46 12)), (5, .l (.own 1006)), (6, .l (.d (.int .i64 v13.2.2.2))), (17, .l (.d (.bool w14)))], 26⟩, ⟨[(34, .l (.mfn 46 12)), (33, .l (.ptr 12 0)), (32, .l (.ptr 12 0)), (13, .l (.d (.bool false))), (0, .l (.d (.sl (a0.map (eI .u8))))), (2, .l (.ptr 3 0)), (5, .l (.ptr 12 0)), (12, .l (.d (.int .i64 v1.2.2))), (13, .l (.d (.bool (decide (v1.2.2 < (3 : Int))))))], 74⟩], [(3, [.nil, .nil]), (12, [.d (.sl (a0.map (eI .u8))), .d (.int .i64 w40.1), .d (.int .i64 w40.2.1)]), (2003, [.d (.int .i64 (0 : Int)), .d (.int .i64 (0 : Int)), .nil]), (4003, [.d (.int .i64 (0 : Int)), .d (.int .i64 (0 : Int)), .d (.int .i64 (0 : Int)), .nil])], [(1006, 121, 3, v13.2.2.1.map Part.enc), (3006, 53, 4, v29.2.2.1.map Task.enc)]⟩) h (fun k47 hk47 h => ?_) (fun w47 h => ?_)
                    · conv => whnf
                      refine ⟨17, ?_⟩
                      conv => whnf
                      refine fkS h (fun h => ?_) (fun h => ?_)
                      · conv => whnf
                        refine lenS a0 (eI .u8) rfl ?_
                        conv => whnf
                        refine drS (by kernel_rfl) ?_
                        conv => whnf
                        exact jeS hk47 h (Weak.refl _)
                      conv => whnf
                      refine drS (by kernel_rfl) ?_
                      conv => whnf
                      exact jeS hk47 h (Weak.refl _)
                    conv => whnf
                    refine fkS h (fun h => ?_) (fun h => ?_)
                    · conv => whnf
                      exact jeS hk46 h (Weak.refl _)
                    conv => whnf
                    refine jeX hk46 h ?_
                    conv => whnf
                    refine WkF.step (Weak.keepS _ [0]) ?_
                    conv => whnf
                    exact WkF.refl _
                  conv => whnf
                  refine fkS h (fun h => ?_) (fun h => ?_)
                  · conv => whnf
                    exact jeS hk45 h (Weak.refl _)
                  conv => whnf
                  refine ⟨9, ?_⟩
                  conv => whnf
                  refine drS (by kernel_rfl) ?_
                  conv => whnf
                  refine ixS (enc := (eI .u8)) h rfl (fun _ => rfl) (fun x48 h => ?_)
                  conv => whnf
                  exact jeS hk45 h (Weak.refl _)
                conv => whnf
                refine lpS (fun v49 => ⟨[(0, .l (.ptr 12 0)), (1, .l (.mfn 103 12)), (5, .l (.own 5006)), (6, .l (.d (.int .i64 v49.2.2.2)))], 26, [⟨[(17, .l (.mfn 103 12)), (16, .l (.ptr 12 0)), (15, .l (.ptr 12 0)), (14, .l (.d (.int .i64 w40.2.2))), (13, .l (.d (.int .i64 w36.2.2))), (12, .l (.d (.int .i64 w32.2.2))), (0, .l (.ptr 12 0)), (2, .l (.ptr 4003 0)), (3, .l (.d (.int .i64 w32.2.2))), (4, .l (.d (.int .i64 w36.2.2))), (5, .l (.d (.int .i64 w40.2.2)))], 20⟩, ⟨[(21, .l (.mfn 67 12)), (20, .l (.own 3006)), (17, .l (.d (.bool true))), (0, .l (.ptr 12 0)), (1, .l (.mfn 67 12)), (5, .l (.own 3006)), (6, .l (.d (.int .i64 v29.2.2.2))), (17, .l (.d (.bool w30)))], 26⟩, ⟨[(14, .l (.mfn 67 12)), (13, .l (.ptr 12 0)), (12, .l (.ptr 12 0)), (11, .agg [.d (.int .i64 w16.2.2), .d (.int .i64 w20.2.2)]), (10, .l (.d (.int .i64 w20.2.2))), (9, .l (.d (.int .i64 w16.2.2))), (0, .l (.ptr 12 0)), (2, .l (.ptr 2003 0)), (3, .l (.d (.int .i64 w16.2.2))), (4, .l (.d (.int .i64 w20.2.2)))], 17⟩, ⟨[(21, .l (.mfn 46 12)), (20, .l (.own 1006)), (17, .l (.d (.bool true))), (0, .l (.ptr 12 0)), (1, .l (.mfn 46 12)), (5, .l (.own 1006)), (6, .l (.d (.int .i64 v13.2.2.2))), (17, .l (.d (.bool w14)))], 26⟩, ⟨[(34, .l (.mfn 46 12)), (33, .l (.ptr 12 0)), (32, .l (.ptr 12 0)), (13, .l (.d (.bool false))), (0, .l (.d (.sl (a0.map (eI .u8))))), (2, .l (.ptr 3 0)), (5, .l (.ptr 12 0)), (12, .l (.d (.int .i64 v1.2.2))), (13, .l (.d (.bool (decide (v1.2.2 < (3 : Int))))))], 74⟩], [(3, [.nil, .nil]), (12, [.d (.sl (a0.map (eI .u8))), .d (.int .i64 v49.1), .d (.int .i64 v49.2.1)]), (2003, [.d (.int .i64 (0 : Int)), .d (.int .i64 (0 : Int)), .nil]), (4003, [.d (.int .i64 (0 : Int)), .d (.int .i64 (0 : Int)), .d (.int .i64 (0 : Int)), .nil])], [(1006, 121, 3, v13.2.2.1.map Part.enc), (3006, 53, 4, v29.2.2.1.map Task.enc), (5006, 142, 3, v49.2.2.1.map Sec.enc)]⟩) h (Weak.trans (Weak.nilO _ 5 5006 142 3 rfl) (Weak.refl _)) (fun _ nx49 hn49 v49 h => ?_)
                conv => whnf
                refine jnS (fun w50 => ⟨[(0, .l (.ptr 12 0)), (1, .l (.mfn 103 12)), (5, .l (.own 5006)), (6, .l (.d (.int .i64 v49.2.2.2))), (17, .l (.d (.bool w50)))], 26, [⟨[(17, .l (.mfn 103 12)), (16, .l (.ptr 12 0)), (15, .l (.ptr 12 0)), (14, .l (.d (.int .i64 w40.2.2))), (13, .l (.d (.int .i64 w36.2.2))), (12, .l (.d (.int .i64 w32.2.2))), (0, .l (.ptr 12 0)), (2, .l (.ptr 4003 0)), (3, .l (.d (.int .i64 w32.2.2))), (4, .l (.d (.int .i64 w36.2.2))), (5, .l (.d (.int .i64 w40.2.2)))], 20⟩, ⟨[(21, .l (.mfn 67 12)), (20, .l (.own 3006)), (17, .l (.d (.bool true))), (0, .l (.ptr 12 0)), (1, .l (.mfn 67 12)), (5, .l (.own 3006)), (6, .l (.d (.int .i64 v29.2.2.2))), (17, .l (.d (.bool w30)))], 26⟩, ⟨[(14, .l (.mfn 67 12)), (13, .l (.ptr 12 0)), (12, .l (.ptr 12 0)), (11, .agg [.d (.int .i64 w16.2.2), .d (.int .i64 w20.2.2)]), (10, .l (.d (.int .i64 w20.2.2))), (9, .l (.d (.int .i64 w16.2.2))), (0, .l (.ptr 12 0)), (2, .l (.ptr 2003 0)), (3, .l (.d (.int .i64 w16.2.2))), (4, .l (.d (.int .i64 w20.2.2)))], 17⟩, ⟨[(21, .l (.mfn 46 12)), (20, .l (.own 1006)), (17, .l (.d (.bool true))), (0, .l (.ptr 12 0)), (1, .l (.mfn 46 12)), (5, .l (.own 1006)), (6, .l (.d (.int .i64 v13.2.2.2))), (17, .l (.d (.bool w14)))], 26⟩, ⟨[(34, .l (.mfn 46 12)), (33, .l (.ptr 12 0)), (32, .l (.ptr 12 0)), (13, .l (.d (.bool false))), (0, .l (.d (.sl (a0.map (eI .u8))))), (2, .l (.ptr 3 0)), (5, .l (.ptr 12 0)), (12, .l (.d (.int .i64 v1.2.2))), (13, .l (.d (.bool (decide (v1.2.2 < (3 : Int))))))], 74⟩], [(3, [.nil, .nil]), (12, [.d (.sl (a0.map (eI .u8))), .d (.int .i64 v49.1), .d (.int .i64 v49.2.1)]), (2003, [.d (.int .i64 (0 : Int)), .d (.int .i64 (0 : Int)), .nil]), (4003, [.d (.int .i64 (0 : Int)), .d (.int .i64 (0 : Int)), .d (.int .i64 (0 : Int)), .nil])], [(1006, 121, 3, v13.2.2.1.map Part.enc), (3006, 53, 4, v29.2.2.1.map Task.enc), (5006, 142, 3, v49.2.2.1.map Sec.enc)]⟩) h (fun k50 hk50 h => ?_) (fun w50 h => ?_)
                · conv => whnf
                  refine fkS h (fun h => ?_) (fun h => ?_)
                  · conv => whnf
                    exact jeS hk50 h (Weak.refl _)
                  conv => whnf
                  exact jeS hk50 h (Weak.refl _)
                conv => whnf
                refine fkS h (fun h => ?_) (fun h => ?_)
                · conv => whnf
                  refine inS (fn := Tryz.f103) tab ⟨[(0, [0, 2]), (1, [2, 3, 4, 5]), (2, [2])], [], [], []⟩ 16 [.cell 2 142] rfl rfl rfl rfl rfl rfl ?_
                  conv => whnf
                  refine inJ (fun w51 => ⟨[(7, .l (.d (.int .i64 w51.2.2))), (6, .l (.ptr 12 0)), (0, .l (.ptr 12 0)), (2, .l (.ptr 6003 0))], 16, [⟨[(21, .l (.mfn 103 12)), (20, .l (.own 5006)), (17, .l (.d (.bool true))), (0, .l (.ptr 12 0)), (1, .l (.mfn 103 12)), (5, .l (.own 5006)), (6, .l (.d (.int .i64 v49.2.2.2))), (17, .l (.d (.bool w50)))], 26⟩, ⟨[(17, .l (.mfn 103 12)), (16, .l (.ptr 12 0)), (15, .l (.ptr 12 0)), (14, .l (.d (.int .i64 w40.2.2))), (13, .l (.d (.int .i64 w36.2.2))), (12, .l (.d (.int .i64 w32.2.2))), (0, .l (.ptr 12 0)), (2, .l (.ptr 4003 0)), (3, .l (.d (.int .i64 w32.2.2))), (4, .l (.d (.int .i64 w36.2.2))), (5, .l (.d (.int .i64 w40.2.2)))], 20⟩, ⟨[(21, .l (.mfn 67 12)), (20, .l (.own 3006)), (17, .l (.d (.bool true))), (0, .l (.ptr 12 0)), (1, .l (.mfn 67 12)), (5, .l (.own 3006)), (6, .l (.d (.int .i64 v29.2.2.2))), (17, .l (.d (.bool w30)))], 26⟩, ⟨[(14, .l (.mfn 67 12)), (13, .l (.ptr 12 0)), (12, .l (.ptr 12 0)), (11, .agg [.d (.int .i64 w16.2.2), .d (.int .i64 w20.2.2)]), (10, .l (.d (.int .i64 w20.2.2))), (9, .l (.d (.int .i64 w16.2.2))), (0, .l (.ptr 12 0)), (2, .l (.ptr 2003 0)), (3, .l (.d (.int .i64 w16.2.2))), (4, .l (.d (.int .i64 w20.2.2)))], 17⟩, ⟨[(21, .l (.mfn 46 12)), (20, .l (.own 1006)), (17, .l (.d (.bool true))), (0, .l (.ptr 12 0)), (1, .l (.mfn 46 12)), (5, .l (.own 1006)), (6, .l (.d (.int .i64 v13.2.2.2))), (17, .l (.d (.bool w14)))], 26⟩, ⟨[(34, .l (.mfn 46 12)), (33, .l (.ptr 12 0)), (32, .l (.ptr 12 0)), (13, .l (.d (.bool false))), (0, .l (.d (.sl (a0.map (eI .u8))))), (2, .l (.ptr 3 0)), (5, .l (.ptr 12 0)), (12, .l (.d (.int .i64 v1.2.2))), (13, .l (.d (.bool (decide (v1.2.2 < (3 : Int))))))], 74⟩], [(3, [.nil, .nil]), (12, [.d (.sl (a0.map (eI .u8))), .d (.int .i64 w51.1), .d (.int .i64 w51.2.1)]), (2003, [.d (.int .i64 (0 : Int)), .d (.int .i64 (0 : Int)), .nil]), (4003, [.d (.int .i64 (0 : Int)), .d (.int .i64 (0 : Int)), .d (.int .i64 (0 : Int)), .nil]), (6003, [.d (.int .i64 (0 : Int)), .d (.int .i64 (0 : Int)), .d (.int .i64 (0 : Int))])], [(1006, 121, 3, v13.2.2.1.map Part.enc), (3006, 53, 4, v29.2.2.1.map Task.enc), (5006, 142, 3, v49.2.2.1.map Sec.enc)]⟩) h (fun k51 hk51 h => ?_) (fun w51 h => ?_)
                  · conv => whnf
                    refine inS (fn := Tryz.f44) tab ⟨[(0, [0]), (1, [0, 19]), (2, [0]), (3, [0, 27]), (4, [2]), (5, [0]), (6, [2])], [], [100019, 3], []⟩ 47 [.tmp 2] rfl rfl rfl rfl rfl rfl ?_
                    conv => whnf
                    refine jnS (fun w52 => ⟨[(0, .l (.ptr 12 0))], 47, [⟨[(6, .l (.ptr 12 0)), (0, .l (.ptr 12 0)), (2, .l (.ptr 6003 0))], 16⟩, ⟨[(21, .l (.mfn 103 12)), (20, .l (.own 5006)), (17, .l (.d (.bool true))), (0, .l (.ptr 12 0)), (1, .l (.mfn 103 12)), (5, .l (.own 5006)), (6, .l (.d (.int .i64 v49.2.2.2))), (17, .l (.d (.bool w50)))], 26⟩, ⟨[(17, .l (.mfn 103 12)), (16, .l (.ptr 12 0)), (15, .l (.ptr 12 0)), (14, .l (.d (.int .i64 w40.2.2))), (13, .l (.d (.int .i64 w36.2.2))), (12, .l (.d (.int .i64 w32.2.2))), (0, .l (.ptr 12 0)), (2, .l (.ptr 4003 0)), (3, .l (.d (.int .i64 w32.2.2))), (4, .l (.d (.int .i64 w36.2.2))), (5, .l (.d (.int .i64 w40.2.2)))], 20⟩, ⟨[(21, .l (.mfn 67 12)), (20, .l (.own 3006)), (17, .l (.d (.bool true))), (0, .l (.ptr 12 0)), (1, .l (.mfn 67 12)), (5, .l (.own 3006)), (6, .l (.d (.int .i64 v29.2.2.2))), (17, .l (.d (.bool w30)))], 26⟩, ⟨[(14, .l (.mfn 67 12)), (13, .l (.ptr 12 0)), (12, .l (.ptr 12 0)), (11, .agg [.d (.int .i64 w16.2.2), .d (.int .i64 w20.2.2)]), (10, .l (.d (.int .i64 w20.2.2))), (9, .l (.d (.int .i64 w16.2.2))), (0, .l (.ptr 12 0)), (2, .l (.ptr 2003 0)), (3, .l (.d (.int .i64 w16.2.2))), (4, .l (.d (.int .i64 w20.2.2)))], 17⟩, ⟨[(21, .l (.mfn 46 12)), (20, .l (.own 1006)), (17, .l (.d (.bool true))), (0, .l (.ptr 12 0)), (1, .l (.mfn 46 12)), (5, .l (.own 1006)), (6, .l (.d (.int .i64 v13.2.2.2))), (17, .l (.d (.bool w14)))], 26⟩, ⟨[(34, .l (.mfn 46 12)), (33, .l (.ptr 12 0)), (32, .l (.ptr 12 0)), (13, .l (.d (.bool false))), (0, .l (.d (.sl (a0.map (eI .u8))))), (2, .l (.ptr 3 0)), (5, .l (.ptr 12 0)), (12, .l (.d (.int .i64 v1.2.2))), (13, .l (.d (.bool (decide (v1.2.2 < (3 : Int))))))], 74⟩], [(3, [.nil, .nil]), (12, [.d (.sl (a0.map (eI .u8))), .d (.int .i64 v49.1), .d (.int .i64 w52)]), (2003, [.d (.int .i64 (0 : Int)), .d (.int .i64 (0 : Int)), .nil]), (4003, [.d (.int .i64 (0 : Int)), .d (.int .i64 (0 : Int)), .d (.int .i64 (0 : Int)), .nil]), (6003, [.d (.int .i64 (0 : Int)), .d (.int .i64 (0 : Int)), .d (.int .i64 (0 : Int))])], [(1006, 121, 3, v13.2.2.1.map Part.enc), (3006, 53, 4, v29.2.2.1.map Task.enc), (5006, 142, 3, v49.2.2.1.map Sec.enc)]⟩) h (fun k52 hk52 h => ?_) (fun w52 h => ?_)
                    · conv => whnf
                      refine jnS (fun w53 => ⟨[(0, .l (.ptr 12 0)), (19, .l (.d (.bool w53)))], 47, [⟨[(6, .l (.ptr 12 0)), (0, .l (.ptr 12 0)), (2, .l (.ptr 6003 0))], 16⟩, ⟨[(21, .l (.mfn 103 12)), (20, .l (.own 5006)), (17, .l (.d (.bool true))), (0, .l (.ptr 12 0)), (1, .l (.mfn 103 12)), (5, .l (.own 5006)), (6, .l (.d (.int .i64 v49.2.2.2))), (17, .l (.d (.bool w50)))], 26⟩, ⟨[(17, .l (.mfn 103 12)), (16, .l (.ptr 12 0)), (15, .l (.ptr 12 0)), (14, .l (.d (.int .i64 w40.2.2))), (13, .l (.d (.int .i64 w36.2.2))), (12, .l (.d (.int .i64 w32.2.2))), (0, .l (.ptr 12 0)), (2, .l (.ptr 4003 0)), (3, .l (.d (.int .i64 w32.2.2))), (4, .l (.d (.int .i64 w36.2.2))), (5, .l (.d (.int .i64 w40.2.2)))], 20⟩, ⟨[(21, .l (.mfn 67 12)), (20, .l (.own 3006)), (17, .l (.d (.bool true))), (0, .l (.ptr 12 0)), (1, .l (.mfn 67 12)), (5, .l (.own 3006)), (6, .l (.d (.int .i64 v29.2.2.2))), (17, .l (.d (.bool w30)))], 26⟩, ⟨[(14, .l (.mfn 67 12)), (13, .l (.ptr 12 0)), (12, .l (.ptr 12 0)), (11, .agg [.d (.int .i64 w16.2.2), .d (.int .i64 w20.2.2)]), (10, .l (.d (.int .i64 w20.2.2))), (9, .l (.d (.int .i64 w16.2.2))), (0, .l (.ptr 12 0)), (2, .l (.ptr 2003 0)), (3, .l (.d (.int .i64 w16.2.2))), (4, .l (.d (.int .i64 w20.2.2)))], 17⟩, ⟨[(21, .l (.mfn 46 12)), (20, .l (.own 1006)), (17, .l (.d (.bool true))), (0, .l (.ptr 12 0)), (1, .l (.mfn 46 12)), (5, .l (.own 1006)), (6, .l (.d (.int .i64 v13.2.2.2))), (17, .l (.d (.bool w14)))], 26⟩, ⟨[(34, .l (.mfn 46 12)), (33, .l (.ptr 12 0)), (32, .l (.ptr 12 0)), (13, .l (.d (.bool false))), (0, .l (.d (.sl (a0.map (eI .u8))))), (2, .l (.ptr 3 0)), (5, .l (.ptr 12 0)), (12, .l (.d (.int .i64 v1.2.2))), (13, .l (.d (.bool (decide (v1.2.2 < (3 : Int))))))], 74⟩], [(3, [.nil, .nil]), (12, [.d (.sl (a0.map (eI .u8))), .d (.int .i64 v49.1), .d (.int .i64 v49.2.1)]), (2003, [.d (.int .i64 (0 : Int)), .d (.int .i64 (0 : Int)), .nil]), (4003, [.d (.int .i64 (0 : Int)), .d (.int .i64 (0 : Int)), .d (.int .i64 (0 : Int)), .nil]), (6003, [.d (.int .i64 (0 : Int)), .d (.int .i64 (0 : Int)), .d (.int .i64 (0 : Int))])], [(1006, 121, 3, v13.2.2.1.map Part.enc), (3006, 53, 4, v29.2.2.1.map Task.enc), (5006, 142, 3, v49.2.2.1.map Sec.enc)]⟩) h (fun k53 hk53 h => ?_) (fun w53 h => ?_)
                      · conv => whnf
                        refine ⟨17, ?_⟩
                        conv => whnf
                        refine fkS h (fun h => ?_) (fun h => ?_)
                        · conv => whnf
                          refine lenS a0 (eI .u8) rfl ?_
                          conv => whnf
                          refine drS (by kernel_rfl) ?_
                          conv => whnf
                          exact jeS hk53 h (Weak.refl _)
                        conv => whnf
                        refine drS (by kernel_rfl) ?_
                        conv => whnf
                        exact jeS hk53 h (Weak.refl _)
                      conv => whnf
                      refine fkS h (fun h => ?_) (fun h => ?_)
                      · conv => whnf
                        exact jeS hk52 h (Weak.refl _)
                      conv => whnf
                      refine jeX hk52 h ?_
                      conv => whnf
                      refine WkF.step (Weak.keepS _ [0]) ?_
                      conv => whnf
                      exact WkF.refl _
                    conv => whnf
                    refine fkS h (fun h => ?_) (fun h => ?_)
                    · conv => whnf
                      exact jeS hk51 h (Weak.refl _)
                    conv => whnf
                    refine ⟨9, ?_⟩
                    conv => whnf
                    refine drS (by kernel_rfl) ?_
                    conv => whnf
                    refine ixS (enc := (eI .u8)) h rfl (fun _ => rfl) (fun x54 h => ?_)
                    conv => whnf
                    exact jeS hk51 h (Weak.refl _)
                  conv => whnf
                  refine inJ (fun w55 => ⟨[(9, .l (.d (.int .i64 w55.2.2))), (8, .l (.ptr 12 0)), (7, .l (.d (.int .i64 w51.2.2))), (6, .l (.ptr 12 0)), (0, .l (.ptr 12 0)), (2, .l (.ptr 6003 0))], 16, [⟨[(21, .l (.mfn 103 12)), (20, .l (.own 5006)), (17, .l (.d (.bool true))), (0, .l (.ptr 12 0)), (1, .l (.mfn 103 12)), (5, .l (.own 5006)), (6, .l (.d (.int .i64 v49.2.2.2))), (17, .l (.d (.bool w50)))], 26⟩, ⟨[(17, .l (.mfn 103 12)), (16, .l (.ptr 12 0)), (15, .l (.ptr 12 0)), (14, .l (.d (.int .i64 w40.2.2))), (13, .l (.d (.int .i64 w36.2.2))), (12, .l (.d (.int .i64 w32.2.2))), (0, .l (.ptr 12 0)), (2, .l (.ptr 4003 0)), (3, .l (.d (.int .i64 w32.2.2))), (4, .l (.d (.int .i64 w36.2.2))), (5, .l (.d (.int .i64 w40.2.2)))], 20⟩, ⟨[(21, .l (.mfn 67 12)), (20, .l (.own 3006)), (17, .l (.d (.bool true))), (0, .l (.ptr 12 0)), (1, .l (.mfn 67 12)), (5, .l (.own 3006)), (6, .l (.d (.int .i64 v29.2.2.2))), (17, .l (.d (.bool w30)))], 26⟩, ⟨[(14, .l (.mfn 67 12)), (13, .l (.ptr 12 0)), (12, .l (.ptr 12 0)), (11, .agg [.d (.int .i64 w16.2.2), .d (.int .i64 w20.2.2)]), (10, .l (.d (.int .i64 w20.2.2))), (9, .l (.d (.int .i64 w16.2.2))), (0, .l (.ptr 12 0)), (2, .l (.ptr 2003 0)), (3, .l (.d (.int .i64 w16.2.2))), (4, .l (.d (.int .i64 w20.2.2)))], 17⟩, ⟨[(21, .l (.mfn 46 12)), (20, .l (.own 1006)), (17, .l (.d (.bool true))), (0, .l (.ptr 12 0)), (1, .l (.mfn 46 12)), (5, .l (.own 1006)), (6, .l (.d (.int .i64 v13.2.2.2))), (17, .l (.d (.bool w14)))], 26⟩, ⟨[(34, .l (.mfn 46 12)), (33, .l (.ptr 12 0)), (32, .l (.ptr 12 0)), (13, .l (.d (.bool false))), (0, .l (.d (.sl (a0.map (eI .u8))))), (2, .l (.ptr 3 0)), (5, .l (.ptr 12 0)), (12, .l (.d (.int .i64 v1.2.2))), (13, .l (.d (.bool (decide (v1.2.2 < (3 : Int))))))], 74⟩], [(3, [.nil, .nil]), (12, [.d (.sl (a0.map (eI .u8))), .d (.int .i64 w55.1), .d (.int .i64 w55.2.1)]), (2003, [.d (.int .i64 (0 : Int)), .d (.int .i64 (0 : Int)), .nil]), (4003, [.d (.int .i64 (0 : Int)), .d (.int .i64 (0 : Int)), .d (.int .i64 (0 : Int)), .nil]), (6003, [.d (.int .i64 (0 : Int)), .d (.int .i64 (0 : Int)), .d (.int .i64 (0 : Int))])], [(1006, 121, 3, v13.2.2.1.map Part.enc), (3006, 53, 4, v29.2.2.1.map Task.enc), (5006, 142, 3, v49.2.2.1.map Sec.enc)]⟩) h (fun k55 hk55 h => ?_) (fun w55 h => ?_)
                  · conv => whnf
                    refine inS (fn := Tryz.f44) tab ⟨[(0, [0]), (1, [0, 19]), (2, [0]), (3, [0, 27]), (4, [2]), (5, [0]), (6, [2])], [], [100019, 3], []⟩ 47 [.tmp 2] rfl rfl rfl rfl rfl rfl ?_
                    conv => whnf
                    refine jnS (fun w56 => ⟨[(0, .l (.ptr 12 0))], 47, [⟨[(8, .l (.ptr 12 0)), (7, .l (.d (.int .i64 w51.2.2))), (6, .l (.ptr 12 0)), (0, .l (.ptr 12 0)), (2, .l (.ptr 6003 0))], 16⟩, ⟨[(21, .l (.mfn 103 12)), (20, .l (.own 5006)), (17, .l (.d (.bool true))), (0, .l (.ptr 12 0)), (1, .l (.mfn 103 12)), (5, .l (.own 5006)), (6, .l (.d (.int .i64 v49.2.2.2))), (17, .l (.d (.bool w50)))], 26⟩, ⟨[(17, .l (.mfn 103 12)), (16, .l (.ptr 12 0)), (15, .l (.ptr 12 0)), (14, .l (.d (.int .i64 w40.2.2))), (13, .l (.d (.int .i64 w36.2.2))), (12, .l (.d (.int .i64 w32.2.2))), (0, .l (.ptr 12 0)), (2, .l (.ptr 4003 0)), (3, .l (.d (.int .i64 w32.2.2))), (4, .l (.d (.int .i64 w36.2.2))), (5, .l (.d (.int .i64 w40.2.2)))], 20⟩, ⟨[(21, .l (.mfn 67 12)), (20, .l (.own 3006)), (17, .l (.d (.bool true))), (0, .l (.ptr 12 0)), (1, .l (.mfn 67 12)), (5, .l (.own 3006)), (6, .l (.d (.int .i64 v29.2.2.2))), (17, .l (.d (.bool w30)))], 26⟩, ⟨[(14, .l (.mfn 67 12)), (13, .l (.ptr 12 0)), (12, .l (.ptr 12 0)), (11, .agg [.d (.int .i64 w16.2.2), .d (.int .i64 w20.2.2)]), (10, .l (.d (.int .i64 w20.2.2))), (9, .l (.d (.int .i64 w16.2.2))), (0, .l (.ptr 12 0)), (2, .l (.ptr 2003 0)), (3, .l (.d (.int .i64 w16.2.2))), (4, .l (.d (.int .i64 w20.2.2)))], 17⟩, ⟨[(21, .l (.mfn 46 12)), (20, .l (.own 1006)), (17, .l (.d (.bool true))), (0, .l (.ptr 12 0)), (1, .l (.mfn 46 12)), (5, .l (.own 1006)), (6, .l (.d (.int .i64 v13.2.2.2))), (17, .l (.d (.bool w14)))], 26⟩, ⟨[(34, .l (.mfn 46 12)), (33, .l (.ptr 12 0)), (32, .l (.ptr 12 0)), (13, .l (.d (.bool false))), (0, .l (.d (.sl (a0.map (eI .u8))))), (2, .l (.ptr 3 0)), (5, .l (.ptr 12 0)), (12, .l (.d (.int .i64 v1.2.2))), (13, .l (.d (.bool (decide (v1.2.2 < (3 : Int))))))], 74⟩], [(3, [.nil, .nil]), (12, [.d (.sl (a0.map (eI .u8))), .d (.int .i64 w51.1), .d (.int .i64 w56)]), (2003, [.d (.int .i64 (0 : Int)), .d (.int .i64 (0 : Int)), .nil]), (4003, [.d (.int .i64 (0 : Int)), .d (.int .i64 (0 : Int)), .d (.int .i64 (0 : Int)), .nil]), (6003, [.d (.int .i64 (0 : Int)), .d (.int .i64 (0 : Int)), .d (.int .i64 (0 : Int))])], [(1006, 121, 3, v13.2.2.1.map Part.enc), (3006, 53, 4, v29.2.2.1.map Task.enc), (5006, 142, 3, v49.2.2.1.map Sec.enc)]⟩) h (fun k56 hk56 h => ?_) (fun w56 h => ?_)
                    · conv => whnf
                      refine jnS (fun w57 => ⟨[(0, .l (.ptr 12 0)), (19, .l (.d (.bool w57)))], 47, [⟨[(8, .l (.ptr 12 0)), (7, .l (.d (.int .i64 w51.2.2))), (6, .l (.ptr 12 0)), (0, .l (.ptr 12 0)), (2, .l (.ptr 6003 0))], 16⟩, ⟨[(21, .l (.mfn 103 12)), (20, .l (.own 5006)), (17, .l (.d (.bool true))), (0, .l (.ptr 12 0)), (1, .l (.mfn 103 12)), (5, .l (.own 5006)), (6, .l (.d (.int .i64 v49.2.2.2))), (17, .l (.d (.bool w50)))], 26⟩, ⟨[(17, .l (.mfn 103 12)), (16, .l (.ptr 12 0)), (15, .l (.ptr 12 0)), (14, .l (.d (.int .i64 w40.2.2))), (13, .l (.d (.int .i64 w36.2.2))), (12, .l (.d (.int .i64 w32.2.2))), (0, .l (.ptr 12 0)), (2, .l (.ptr 4003 0)), (3, .l (.d (.int .i64 w32.2.2))), (4, .l (.d (.int .i64 w36.2.2))), (5, .l (.d (.int .i64 w40.2.2)))], 20⟩, ⟨[(21, .l (.mfn 67 12)), (20, .l (.own 3006)), (17, .l (.d (.bool true))), (0, .l (.ptr 12 0)), (1, .l (.mfn 67 12)), (5, .l (.own 3006)), (6, .l (.d (.int .i64 v29.2.2.2))), (17, .l (.d (.bool w30)))], 26⟩, ⟨[(14, .l (.mfn 67 12)), (13, .l (.ptr 12 0)), (12, .l (.ptr 12 0)), (11, .agg [.d (.int .i64 w16.2.2), .d (.int .i64 w20.2.2)]), (10, .l (.d (.int .i64 w20.2.2))), (9, .l (.d (.int .i64 w16.2.2))), (0, .l (.ptr 12 0)), (2, .l (.ptr 2003 0)), (3, .l (.d (.int .i64 w16.2.2))), (4, .l (.d (.int .i64 w20.2.2)))], 17⟩, ⟨[(21, .l (.mfn 46 12)), (20, .l (.own 1006)), (17, .l (.d (.bool true))), (0, .l (.ptr 12 0)), (1, .l (.mfn 46 12)), (5, .l (.own 1006)), (6, .l (.d (.int .i64 v13.2.2.2))), (17, .l (.d (.bool w14)))], 26⟩, ⟨[(34, .l (.mfn 46 12)), (33, .l (.ptr 12 0)), (32, .l (.ptr 12 0)), (13, .l (.d (.bool false))), (0, .l (.d (.sl (a0.map (eI .u8))))), (2, .l (.ptr 3 0)), (5, .l (.ptr 12 0)), (12, .l (.d (.int .i64 v1.2.2))), (13, .l (.d (.bool (decide (v1.2.2 < (3 : Int))))))], 74⟩], [(3, [.nil, .nil]), (12, [.d (.sl (a0.map (eI .u8))), .d (.int .i64 w51.1), .d (.int .i64 w51.2.1)]), (2003, [.d (.int .i64 (0 : Int)), .d (.int .i64 (0 : Int)), .nil]), (4003, [.d (.int .i64 (0 : Int)), .d (.int .i64 (0 : Int)), .d (.int .i64 (0 : Int)), .nil]), (6003, [.d (.int .i64 (0 : Int)), .d (.int .i64 (0 : Int)), .d (.int .i64 (0 : Int))])], [(1006, 121, 3, v13.2.2.1.map Part.enc), (3006, 53, 4, v29.2.2.1.map Task.enc), (5006, 142, 3, v49.2.2.1.map Sec.enc)]⟩) h (fun k57 hk57 h => ?_) (fun w57 h => ?_)
                      · conv => whnf
                        refine ⟨17, ?_⟩
                        conv => whnf
                        refine fkS h (fun h => ?_) (fun h => ?_)
                        · conv => whnf
                          refine lenS a0 (eI .u8) rfl ?_
                          conv => whnf
                          refine drS (by kernel_rfl) ?_
                          conv => whnf
                          exact jeS hk57 h (Weak.refl _)
                        conv => whnf
                        refine drS (by kernel_rfl) ?_
                        conv => whnf
                        exact jeS hk57 h (Weak.refl _)
                      conv => whnf
                      refine fkS h (fun h => ?_) (fun h => ?_)
                      · conv => whnf
                        exact jeS hk56 h (Weak.refl _)
                      conv => whnf
                      refine jeX hk56 h ?_
                      conv => whnf
                      refine WkF.step (Weak.keepS _ [0]) ?_
                      conv => whnf
                      exact WkF.refl _
                    conv => whnf
                    refine fkS h (fun h => ?_) (fun h => ?_)
                    · conv => whnf
                      exact jeS hk55 h (Weak.refl _)
                    conv => whnf
                    refine ⟨9, ?_⟩
                    conv => whnf
                    refine drS (by kernel_rfl) ?_
                    conv => whnf
                    refine ixS (enc := (eI .u8)) h rfl (fun _ => rfl) (fun x58 h => ?_)
                    conv => whnf
                    exact jeS hk55 h (Weak.refl _)
                  conv => whnf
                  refine inJ (fun w59 => ⟨[(11, .l (.d (.int .i64 w59.2.2))), (10, .l (.ptr 12 0)), (9, .l (.d (.int .i64 w55.2.2))), (8, .l (.ptr 12 0)), (7, .l (.d (.int .i64 w51.2.2))), (6, .l (.ptr 12 0)), (0, .l (.ptr 12 0)), (2, .l (.ptr 6003 0))], 16, [⟨[(21, .l (.mfn 103 12)), (20, .l (.own 5006)), (17, .l (.d (.bool true))), (0, .l (.ptr 12 0)), (1, .l (.mfn 103 12)), (5, .l (.own 5006)), (6, .l (.d (.int .i64 v49.2.2.2))), (17, .l (.d (.bool w50)))], 26⟩, ⟨[(17, .l (.mfn 103 12)), (16, .l (.ptr 12 0)), (15, .l (.ptr 12 0)), (14, .l (.d (.int .i64 w40.2.2))), (13, .l (.d (.int .i64 w36.2.2))), (12, .l (.d (.int .i64 w32.2.2))), (0, .l (.ptr 12 0)), (2, .l (.ptr 4003 0)), (3, .l (.d (.int .i64 w32.2.2))), (4, .l (.d (.int .i64 w36.2.2))), (5, .l (.d (.int .i64 w40.2.2)))], 20⟩, ⟨[(21, .l (.mfn 67 12)), (20, .l (.own 3006)), (17, .l (.d (.bool true))), (0, .l (.ptr 12 0)), (1, .l (.mfn 67 12)), (5, .l (.own 3006)), (6, .l (.d (.int .i64 v29.2.2.2))), (17, .l (.d (.bool w30)))], 26⟩, ⟨[(14, .l (.mfn 67 12)), (13, .l (.ptr 12 0)), (12, .l (.ptr 12 0)), (11, .agg [.d (.int .i64 w16.2.2), .d (.int .i64 w20.2.2)]), (10, .l (.d (.int .i64 w20.2.2))), (9, .l (.d (.int .i64 w16.2.2))), (0, .l (.ptr 12 0)), (2, .l (.ptr 2003 0)), (3, .l (.d (.int .i64 w16.2.2))), (4, .l (.d (.int .i64 w20.2.2)))], 17⟩, ⟨[(21, .l (.mfn 46 12)), (20, .l (.own 1006)), (17, .l (.d (.bool true))), (0, .l (.ptr 12 0)), (1, .l (.mfn 46 12)), (5, .l (.own 1006)), (6, .l (.d (.int .i64 v13.2.2.2))), (17, .l (.d (.bool w14)))], 26⟩, ⟨[(34, .l (.mfn 46 12)), (33, .l (.ptr 12 0)), (32, .l (.ptr 12 0)), (13, .l (.d (.bool false))), (0, .l (.d (.sl (a0.map (eI .u8))))), (2, .l (.ptr 3 0)), (5, .l (.ptr 12 0)), (12, .l (.d (.int .i64 v1.2.2))), (13, .l (.d (.bool (decide (v1.2.2 < (3 : Int))))))], 74⟩], [(3, [.nil, .nil]), (12, [.d (.sl (a0.map (eI .u8))), .d (.int .i64 w59.1), .d (.int .i64 w59.2.1)]), (2003, [.d (.int .i64 (0 : Int)), .d (.int .i64 (0 : Int)), .nil]), (4003, [.d (.int .i64 (0 : Int)), .d (.int .i64 (0 : Int)), .d (.int .i64 (0 : Int)), .nil]), (6003, [.d (.int .i64 (0 : Int)), .d (.int .i64 (0 : Int)), .d (.int .i64 (0 : Int))])], [(1006, 121, 3, v13.2.2.1.map Part.enc), (3006, 53, 4, v29.2.2.1.map Task.enc), (5006, 142, 3, v49.2.2.1.map Sec.enc)]⟩) h (fun k59 hk59 h => ?_) (fun w59 h => ?_)
                  · conv => whnf
                    refine inS (fn := Tryz.f44) tab ⟨[(0, [0]), (1, [0, 19]), (2, [0]), (3, [0, 27]), (4, [2]), (5, [0]), (6, [2])], [], [100019, 3], []⟩ 47 [.tmp 2] rfl rfl rfl rfl rfl rfl ?_
                    conv => whnf
                    refine jnS (fun w60 => ⟨[(0, .l (.ptr 12 0))], 47, [⟨[(10, .l (.ptr 12 0)), (9, .l (.d (.int .i64 w55.2.2))), (8, .l (.ptr 12 0)), (7, .l (.d (.int .i64 w51.2.2))), (6, .l (.ptr 12 0)), (0, .l (.ptr 12 0)), (2, .l (.ptr 6003 0))], 16⟩, ⟨[(21, .l (.mfn 103 12)), (20, .l (.own 5006)), (17, .l (.d (.bool true))), (0, .l (.ptr 12 0)), (1, .l (.mfn 103 12)), (5, .l (.own 5006)), (6, .l (.d (.int .i64 v49.2.2.2))), (17, .l (.d (.bool w50)))], 26⟩, ⟨[(17, .l (.mfn 103 12)), (16, .l (.ptr 12 0)), (15, .l (.ptr 12 0)), (14, .l (.d (.int .i64 w40.2.2))), (13, .l (.d (.int .i64 w36.2.2))), (12, .l (.d (.int .i64 w32.2.2))), (0, .l (.ptr 12 0)), (2, .l (.ptr 4003 0)), (3, .l (.d (.int .i64 w32.2.2))), (4, .l (.d (.int .i64 w36.2.2))), (5, .l (.d (.int .i64 w40.2.2)))], 20⟩, ⟨[(21, .l (.mfn 67 12)), (20, .l (.own 3006)), (17, .l (.d (.bool true))), (0, .l (.ptr 12 0)), (1, .l (.mfn 67 12)), (5, .l (.own 3006)), (6, .l (.d (.int .i64 v29.2.2.2))), (17, .l (.d (.bool w30)))], 26⟩, ⟨[(14, .l (.mfn 67 12)), (13, .l (.ptr 12 0)), (12, .l (.ptr 12 0)), (11, .agg [.d (.int .i64 w16.2.2), .d (.int .i64 w20.2.2)]), (10, .l (.d (.int .i64 w20.2.2))), (9, .l (.d (.int .i64 w16.2.2))), (0, .l (.ptr 12 0)), (2, .l (.ptr 2003 0)), (3, .l (.d (.int .i64 w16.2.2))), (4, .l (.d (.int .i64 w20.2.2)))], 17⟩, ⟨[(21, .l (.mfn 46 12)), (20, .l (.own 1006)), (17, .l (.d (.bool true))), (0, .l (.ptr 12 0)), (1, .l (.mfn 46 12)), (5, .l (.own 1006)), (6, .l (.d (.int .i64 v13.2.2.2))), (17, .l (.d (.bool w14)))], 26⟩, ⟨[(34, .l (.mfn 46 12)), (33, .l (.ptr 12 0)), (32, .l (.ptr 12 0)), (13, .l (.d (.bool false))), (0, .l (.d (.sl (a0.map (eI .u8))))), (2, .l (.ptr 3 0)), (5, .l (.ptr 12 0)), (12, .l (.d (.int .i64 v1.2.2))), (13, .l (.d (.bool (decide (v1.2.2 < (3 : Int))))))], 74⟩], [(3, [.nil, .nil]), (12, [.d (.sl (a0.map (eI .u8))), .d (.int .i64 w55.1), .d (.int .i64 w60)]), (2003, [.d (.int .i64 (0 : Int)), .d (.int .i64 (0 : Int)), .nil]), (4003, [.d (.int .i64 (0 : Int)), .d (.int .i64 (0 : Int)), .d (.int .i64 (0 : Int)), .nil]), (6003, [.d (.int .i64 (0 : Int)), .d (.int .i64 (0 : Int)), .d (.int .i64 (0 : Int))])], [(1006, 121, 3, v13.2.2.1.map Part.enc), (3006, 53, 4, v29.2.2.1.map Task.enc), (5006, 142, 3, v49.2.2.1.map Sec.enc)]⟩) h (fun k60 hk60 h => ?_) (fun w60 h => ?_)
                    · conv => whnf
                      refine jnS (fun w61 => ⟨[(0, .l (.ptr 12 0)), (19, .l (.d (.bool w61)))], 47, [⟨[(10, .l (.ptr 12 0)), (9, .l (.d (.int .i64 w55.2.2))), (8, .l (.ptr 12 0)), (7, .l (.d (.int .i64 w51.2.2))), (6, .l (.ptr 12 0)), (0, .l (.ptr 12 0)), (2, .l (.ptr 6003 0))], 16⟩, ⟨[(21, .l (.mfn 103 12)), (20, .l (.own 5006)), (17, .l (.d (.bool true))), (0, .l (.ptr 12 0)), (1, .l (.mfn 103 12)), (5, .l (.own 5006)), (6, .l (.d (.int .i64 v49.2.2.2))), (17, .l (.d (.bool w50)))], 26⟩, ⟨[(17, .l (.mfn 103 12)), (16, .l (.ptr 12 0)), (15, .l (.ptr 12 0)), (14, .l (.d (.int .i64 w40.2.2))), (13, .l (.d (.int .i64 w36.2.2))), (12, .l (.d (.int .i64 w32.2.2))), (0, .l (.ptr 12 0)), (2, .l (.ptr 4003 0)), (3, .l (.d (.int .i64 w32.2.2))), (4, .l (.d (.int .i64 w36.2.2))), (5, .l (.d (.int .i64 w40.2.2)))], 20⟩, ⟨[(21, .l (.mfn 67 12)), (20, .l (.own 3006)), (17, .l (.d (.bool true))), (0, .l (.ptr 12 0)), (1, .l (.mfn 67 12)), (5, .l (.own 3006)), (6, .l (.d (.int .i64 v29.2.2.2))), (17, .l (.d (.bool w30)))], 26⟩, ⟨[(14, .l (.mfn 67 12)), (13, .l (.ptr 12 0)), (12, .l (.ptr 12 0)), (11, .agg [.d (.int .i64 w16.2.2), .d (.int .i64 w20.2.2)]), (10, .l (.d (.int .i64 w20.2.2))), (9, .l (.d (.int .i64 w16.2.2))), (0, .l (.ptr 12 0)), (2, .l (.ptr 2003 0)), (3, .l (.d (.int .i64 w16.2.2))), (4, .l (.d (.int .i64 w20.2.2)))], 17⟩, ⟨[(21, .l (.mfn 46 12)), (20, .l (.own 1006)), (17, .l (.d (.bool true))), (0, .l (.ptr 12 0)), (1, .l (.mfn 46 12)), (5, .l (.own 1006)), (6, .l (.d (.int .i64 v13.2.2.2))), (17, .l (.d (.bool w14)))], 26⟩, ⟨[(34, .l (.mfn 46 12)), (33, .l (.ptr 12 0)), (32, .l (.ptr 12 0)), (13, .l (.d (.bool false))), (0, .l (.d (.sl (a0.map (eI .u8))))), (2, .l (.ptr 3 0)), (5, .l (.ptr 12 0)), (12, .l (.d (.int .i64 v1.2.2))), (13, .l (.d (.bool (decide (v1.2.2 < (3 : Int))))))], 74⟩], [(3, [.nil, .nil]), (12, [.d (.sl (a0.map (eI .u8))), .d (.int .i64 w55.1), .d (.int .i64 w55.2.1)]), (2003, [.d (.int .i64 (0 : Int)), .d (.int .i64 (0 : Int)), .nil]), (4003, [.d (.int .i64 (0 : Int)), .d (.int .i64 (0 : Int)), .d (.int .i64 (0 : Int)), .nil]), (6003, [.d (.int .i64 (0 : Int)), .d (.int .i64 (0 : Int)), .d (.int .i64 (0 : Int))])], [(1006, 121, 3, v13.2.2.1.map Part.enc), (3006, 53, 4, v29.2.2.1.map Task.enc), (5006, 142, 3, v49.2.2.1.map Sec.enc)]⟩) h (fun k61 hk61 h => ?_) (fun w61 h => ?_)
                      · conv => whnf
                        refine ⟨17, ?_⟩
                        conv => whnf
                        refine fkS h (fun h => ?_) (fun h => ?_)
                        · conv => whnf
                          refine lenS a0 (eI .u8) rfl ?_
                          conv => whnf
                          refine drS (by kernel_rfl) ?_
                          conv => whnf
                          exact jeS hk61 h (Weak.refl _)
                        conv => whnf
                        refine drS (by kernel_rfl) ?_
                        conv => whnf
                        exact jeS hk61 h (Weak.refl _)
                      conv => whnf
                      refine fkS h (fun h => ?_) (fun h => ?_)
                      · conv => whnf
                        exact jeS hk60 h (Weak.refl _)
                      conv => whnf
                      refine jeX hk60 h ?_
                      conv => whnf
                      refine WkF.step (Weak.keepS _ [0]) ?_
                      conv => whnf
                      exact WkF.refl _
                    conv => whnf
                    refine fkS h (fun h => ?_) (fun h => ?_)
                    · conv => whnf
                      exact jeS hk59 h (Weak.refl _)
                    conv => whnf
                    refine ⟨9, ?_⟩
                    conv => whnf
                    refine drS (by kernel_rfl) ?_
                    conv => whnf
                    refine ixS (enc := (eI .u8)) h rfl (fun _ => rfl) (fun x62 h => ?_)
                    conv => whnf
                    exact jeS hk59 h (Weak.refl _)
                  conv => whnf
                  refine liS ([⟨w51.2.2, w55.2.2, w59.2.2⟩] : List Sec) Sec.enc rfl rfl ?_
                  conv => whnf
                  refine apS (enc := Sec.enc) (l1 := v49.2.2.1) (l2 := ([⟨w51.2.2, w55.2.2, w59.2.2⟩] : List Sec)) h rfl rfl (fun _ => rfl) (fun h => ?_)
                  conv => whnf
                  exact leS hn49 h (Weak.refl _)
                conv => whnf
                refine jeX hk44 h ?_
                conv => whnf
                refine WkF.step (Weak.rekey _ 5005 4019 rfl) ?_
                conv => whnf
                exact WkF.refl _
              conv => whnf
              refine jeX hk31 h ?_
              conv => whnf
              refine WkF.step (Weak.keepS _ [22, 21, 20, 17, 0, 1, 5, 6]) ?_
              conv => whnf
              refine WkF.step (Weak.rekey _ 4019 403023 rfl) ?_
              conv => whnf
              exact WkF.refl _
            conv => whnf
            refine liS ([⟨w31.2.2.2.1, w31.2.2.2.2.1, w31.2.2.2.2.2, w31.2.2.1⟩] : List Task) Task.enc rfl rfl ?_
            conv => whnf
            refine apS (enc := Task.enc) (l1 := v29.2.2.1) (l2 := ([⟨w31.2.2.2.1, w31.2.2.2.2.1, w31.2.2.2.2.2, w31.2.2.1⟩] : List Task)) h rfl rfl (fun _ => rfl) (fun h => ?_)
            conv => whnf
            exact leS hn29 h (Weak.refl _)
          conv => whnf
          refine jeX hk24 h ?_
          conv => whnf
          refine WkF.step (Weak.rekey _ 3005 2016 rfl) ?_
          conv => whnf
          exact WkF.refl _
        conv => whnf
        refine jeX hk15 h ?_
        conv => whnf
        refine WkF.step (Weak.keepS _ [22, 21, 20, 17, 0, 1, 5, 6]) ?_
        conv => whnf
        refine WkF.step (Weak.rekey _ 2016 301023 rfl) ?_
        conv => whnf
        exact WkF.refl _
      conv => whnf
      refine liS ([⟨⟨w15.2.2.2.1, w15.2.2.2.2⟩, w15.2.2.1⟩] : List Part) Part.enc rfl rfl ?_
      conv => whnf
      refine apS (enc := Part.enc) (l1 := v13.2.2.1) (l2 := ([⟨⟨w15.2.2.2.1, w15.2.2.2.2⟩, w15.2.2.1⟩] : List Part)) h rfl rfl (fun _ => rfl) (fun h => ?_)
      conv => whnf
      exact leS hn13 h (Weak.refl _)
    conv => whnf
    refine jeX hk8 h ?_
    conv => whnf
    refine WkF.step (Weak.keepS _ [35, 34, 33, 32, 13, 0, 2, 5, 12]) ?_
    conv => whnf
    refine WkF.step (Weak.rekey _ 1005 36 rfl) ?_
    conv => whnf
    exact WkF.refl _
  conv => whnf
  refine inJ (fun w63 => ⟨[(40, .l (.own 41)), (39, .l (.mfn 48 12)), (38, .l (.ptr 12 0)), (37, .l (.ptr 12 0)), (0, .l (.d (.sl (a0.map (eI .u8))))), (2, .l (.ptr 3 0)), (5, .l (.ptr 12 0)), (8, .l (.ptr 9 0))], 74, [], [(3, [.nil, .nil]), (9, [.own 36, .nil]), (12, [.d (.sl (a0.map (eI .u8))), .d (.int .i64 w63.1), .d (.int .i64 w63.2.1)])], [(36, 121, 3, w8.2.2.map Part.enc), (41, 125, 3, w63.2.2.map Port.enc)]⟩) h (fun k63 hk63 h => ?_) (fun w63 h => ?_)
  · conv => whnf
    refine inS (fn := Tryz.f47) tab ⟨[(0, [0, 1]), (1, [0, 1, 5]), (2, [0, 1, 5, 6]), (3, [0, 1, 5, 6, 17]), (4, [0, 1, 5, 6]), (5, [0, 1, 5, 6]), (6, [4])], [], [100017], []⟩ 26 [.tmp 4] rfl rfl rfl rfl rfl rfl ?_
    conv => whnf
    refine inJ (fun w64 => ⟨[(8, .l (.d (.int .i64 w64.2.2))), (7, .l (.ptr 12 0)), (0, .l (.ptr 12 0)), (1, .l (.mfn 48 12)), (5, .l .nil)], 26, [⟨[(39, .l (.mfn 48 12)), (38, .l (.ptr 12 0)), (37, .l (.ptr 12 0)), (0, .l (.d (.sl (a0.map (eI .u8))))), (2, .l (.ptr 3 0)), (5, .l (.ptr 12 0)), (8, .l (.ptr 9 0))], 74⟩], [(3, [.nil, .nil]), (9, [.own 36, .nil]), (12, [.d (.sl (a0.map (eI .u8))), .d (.int .i64 w64.1), .d (.int .i64 w64.2.1)])], [(36, 121, 3, w8.2.2.map Part.enc)]⟩) h (fun k64 hk64 h => ?_) (fun w64 h => ?_)
    · conv => whnf
      refine inS (fn := Tryz.f44) tab ⟨[(0, [0]), (1, [0, 19]), (2, [0]), (3, [0, 27]), (4, [2]), (5, [0]), (6, [2])], [], [100019, 3], []⟩ 47 [.tmp 2] rfl rfl rfl rfl rfl rfl ?_
      conv => whnf
      refine jnS (fun w65 => ⟨[(0, .l (.ptr 12 0))], 47, [⟨[(7, .l (.ptr 12 0)), (0, .l (.ptr 12 0)), (1, .l (.mfn 48 12)), (5, .l .nil)], 26⟩, ⟨[(39, .l (.mfn 48 12)), (38, .l (.ptr 12 0)), (37, .l (.ptr 12 0)), (0, .l (.d (.sl (a0.map (eI .u8))))), (2, .l (.ptr 3 0)), (5, .l (.ptr 12 0)), (8, .l (.ptr 9 0))], 74⟩], [(3, [.nil, .nil]), (9, [.own 36, .nil]), (12, [.d (.sl (a0.map (eI .u8))), .d (.int .i64 w8.1), .d (.int .i64 w65)])], [(36, 121, 3, w8.2.2.map Part.enc)]⟩) h (fun k65 hk65 h => ?_) (fun w65 h => ?_)
      · conv => whnf
        refine jnS (fun w66 => ⟨[(0, .l (.ptr 12 0)), (19, .l (.d (.bool w66)))], 47, [⟨[(7, .l (.ptr 12 0)), (0, .l (.ptr 12 0)), (1, .l (.mfn 48 12)), (5, .l .nil)], 26⟩, ⟨[(39, .l (.mfn 48 12)), (38, .l (.ptr 12 0)), (37, .l (.ptr 12 0)), (0, .l (.d (.sl (a0.map (eI .u8))))), (2, .l (.ptr 3 0)), (5, .l (.ptr 12 0)), (8, .l (.ptr 9 0))], 74⟩], [(3, [.nil, .nil]), (9, [.own 36, .nil]), (12, [.d (.sl (a0.map (eI .u8))), .d (.int .i64 w8.1), .d (.int .i64 w8.2.1)])], [(36, 121, 3, w8.2.2.map Part.enc)]⟩) h (fun k66 hk66 h => ?_) (fun w66 h => ?_)
        · conv => whnf
          refine ⟨17, ?_⟩
          conv => whnf
          refine fkS h (fun h => ?_) (fun h => ?_)
          · conv => whnf
            refine lenS a0 (eI .u8) rfl ?_
            conv => whnf
            refine drS (by kernel_rfl) ?_
            conv => whnf
            exact jeS hk66 h (Weak.refl _)
          conv => whnf
          refine drS (by kernel_rfl) ?_
          conv => whnf
          exact jeS hk66 h (Weak.refl _)
        conv => whnf
        refine fkS h (fun h => ?_) (fun h => ?_)
        · conv => whnf
          exact jeS hk65 h (Weak.refl _)
        conv => whnf
        refine jeX hk65 h ?_
        conv => whnf
        refine WkF.step (Weak.keepS _ [0]) ?_
        conv => whnf
        exact WkF.refl _
      conv => whnf
      refine fkS h (fun h => ?_) (fun h => ?_)
      · conv => whnf
        exact jeS hk64 h (Weak.refl _)
      conv => whnf
      refine ⟨9, ?_⟩
      conv => whnf
      refine drS (by kernel_rfl) ?_
      conv => whnf
      refine ixS (enc := (eI .u8)) h rfl (fun _ => rfl) (fun x67 h => ?_)
      conv => whnf
      exact jeS hk64 h (Weak.refl _)
    conv => whnf
    refine lpS (fun v68 => ⟨[(0, .l (.ptr 12 0)), (1, .l (.mfn 48 12)), (5, .l (.own 1006)), (6, .l (.d (.int .i64 v68.2.2.2)))], 26, [⟨[(39, .l (.mfn 48 12)), (38, .l (.ptr 12 0)), (37, .l (.ptr 12 0)), (0, .l (.d (.sl (a0.map (eI .u8))))), (2, .l (.ptr 3 0)), (5, .l (.ptr 12 0)), (8, .l (.ptr 9 0))], 74⟩], [(3, [.nil, .nil]), (9, [.own 36, .nil]), (12, [.d (.sl (a0.map (eI .u8))), .d (.int .i64 v68.1), .d (.int .i64 v68.2.1)])], [(36, 121, 3, w8.2.2.map Part.enc), (1006, 125, 3, v68.2.2.1.map Port.enc)]⟩) h (Weak.trans (Weak.nilO _ 5 1006 125 3 rfl) (Weak.refl _)) (fun _ nx68 hn68 v68 h => ?_)
    conv => whnf
    refine jnS (fun w69 => ⟨[(0, .l (.ptr 12 0)), (1, .l (.mfn 48 12)), (5, .l (.own 1006)), (6, .l (.d (.int .i64 v68.2.2.2))), (17, .l (.d (.bool w69)))], 26, [⟨[(39, .l (.mfn 48 12)), (38, .l (.ptr 12 0)), (37, .l (.ptr 12 0)), (0, .l (.d (.sl (a0.map (eI .u8))))), (2, .l (.ptr 3 0)), (5, .l (.ptr 12 0)), (8, .l (.ptr 9 0))], 74⟩], [(3, [.nil, .nil]), (9, [.own 36, .nil]), (12, [.d (.sl (a0.map (eI .u8))), .d (.int .i64 v68.1), .d (.int .i64 v68.2.1)])], [(36, 121, 3, w8.2.2.map Part.enc), (1006, 125, 3, v68.2.2.1.map Port.enc)]⟩) h (fun k69 hk69 h => ?_) (fun w69 h => ?_)
    · conv => whnf
      refine fkS h (fun h => ?_) (fun h => ?_)
      · conv => whnf
        exact jeS hk69 h (Weak.refl _)
      conv => whnf
      exact jeS hk69 h (Weak.refl _)
    conv => whnf
    refine fkS h (fun h => ?_) (fun h => ?_)
    · conv => whnf
      refine inS (fn := Tryz.f48) tab ⟨[(0, [0, 2]), (1, [2, 3, 4, 5]), (2, [2])], [], [], []⟩ 16 [.cell 2 125] rfl rfl rfl rfl rfl rfl ?_
      conv => whnf
      refine inJ (fun w70 => ⟨[(7, .l (.d (.int .i64 w70.2.2))), (6, .l (.ptr 12 0)), (0, .l (.ptr 12 0)), (2, .l (.ptr 2003 0))], 16, [⟨[(21, .l (.mfn 48 12)), (20, .l (.own 1006)), (17, .l (.d (.bool true))), (0, .l (.ptr 12 0)), (1, .l (.mfn 48 12)), (5, .l (.own 1006)), (6, .l (.d (.int .i64 v68.2.2.2))), (17, .l (.d (.bool w69)))], 26⟩, ⟨[(39, .l (.mfn 48 12)), (38, .l (.ptr 12 0)), (37, .l (.ptr 12 0)), (0, .l (.d (.sl (a0.map (eI .u8))))), (2, .l (.ptr 3 0)), (5, .l (.ptr 12 0)), (8, .l (.ptr 9 0))], 74⟩], [(3, [.nil, .nil]), (9, [.own 36, .nil]), (12, [.d (.sl (a0.map (eI .u8))), .d (.int .i64 w70.1), .d (.int .i64 w70.2.1)]), (2003, [.d (.int .i64 (0 : Int)), .d (.int .i64 (0 : Int)), .d (.int .i64 (0 : Int))])], [(36, 121, 3, w8.2.2.map Part.enc), (1006, 125, 3, v68.2.2.1.map Port.enc)]⟩) h (fun k70 hk70 h => ?_) (fun w70 h => ?_)
      · conv => whnf
        refine inS (fn := Tryz.f44) tab ⟨[(0, [0]), (1, [0, 19]), (2, [0]), (3, [0, 27]), (4, [2]), (5, [0]), (6, [2])], [], [100019, 3], []⟩ 47 [.tmp 2] rfl rfl rfl rfl rfl rfl ?_
        conv => whnf
        refine jnS (fun w71 => ⟨[(0, .l (.ptr 12 0))], 47, [⟨[(6, .l (.ptr 12 0)), (0, .l (.ptr 12 0)), (2, .l (.ptr 2003 0))], 16⟩, ⟨[(21, .l (.mfn 48 12)), (20, .l (.own 1006)), (17, .l (.d (.bool true))), (0, .l (.ptr 12 0)), (1, .l (.mfn 48 12)), (5, .l (.own 1006)), (6, .l (.d (.int .i64 v68.2.2.2))), (17, .l (.d (.bool w69)))], 26⟩, ⟨[(39, .l (.mfn 48 12)), (38, .l (.ptr 12 0)), (37, .l (.ptr 12 0)), (0, .l (.d (.sl (a0.map (eI .u8))))), (2, .l (.ptr 3 0)), (5, .l (.ptr 12 0)), (8, .l (.ptr 9 0))], 74⟩], [(3, [.nil, .nil]), (9, [.own 36, .nil]), (12, [.d (.sl (a0.map (eI .u8))), .d (.int .i64 v68.1), .d (.int .i64 w71)]), (2003, [.d (.int .i64 (0 : Int)), .d (.int .i64 (0 : Int)), .d (.int .i64 (0 : Int))])], [(36, 121, 3, w8.2.2.map Part.enc), (1006, 125, 3, v68.2.2.1.map Port.enc)]⟩) h (fun k71 hk71 h => ?_) (fun w71 h => ?_)
        · conv => whnf
          refine jnS (fun w72 => ⟨[(0, .l (.ptr 12 0)), (19, .l (.d (.bool w72)))], 47, [⟨[(6, .l (.ptr 12 0)), (0, .l (.ptr 12 0)), (2, .l (.ptr 2003 0))], 16⟩, ⟨[(21, .l (.mfn 48 12)), (20, .l (.own 1006)), (17, .l (.d (.bool true))), (0, .l (.ptr 12 0)), (1, .l (.mfn 48 12)), (5, .l (.own 1006)), (6, .l (.d (.int .i64 v68.2.2.2))), (17, .l (.d (.bool w69)))], 26⟩, ⟨[(39, .l (.mfn 48 12)), (38, .l (.ptr 12 0)), (37, .l (.ptr 12 0)), (0, .l (.d (.sl (a0.map (eI .u8))))), (2, .l (.ptr 3 0)), (5, .l (.ptr 12 0)), (8, .l (.ptr 9 0))], 74⟩], [(3, [.nil, .nil]), (9, [.own 36, .nil]), (12, [.d (.sl (a0.map (eI .u8))), .d (.int .i64 v68.1), .d (.int .i64 v68.2.1)]), (2003, [.d (.int .i64 (0 : Int)), .d (.int .i64 (0 : Int)), .d (.int .i64 (0 : Int))])], [(36, 121, 3, w8.2.2.map Part.enc), (1006, 125, 3, v68.2.2.1.map Port.enc)]⟩) h (fun k72 hk72 h => ?_) (fun w72 h => ?_)
          · conv => whnf
            refine ⟨17, ?_⟩
            conv => whnf
            refine fkS h (fun h => ?_) (fun h => ?_)
            · conv => whnf
              refine lenS a0 (eI .u8) rfl ?_
              conv => whnf
              refine drS (by kernel_rfl) ?_
              conv => whnf
              exact jeS hk72 h (Weak.refl _)
            conv => whnf
            refine drS (by kernel_rfl) ?_
            conv => whnf
            exact jeS hk72 h (Weak.refl _)
          conv => whnf
          refine fkS h (fun h => ?_) (fun h => ?_)
          · conv => whnf
            exact jeS hk71 h (Weak.refl _)
          conv => whnf
          refine jeX hk71 h ?_
          conv => whnf
          refine WkF.step (Weak.keepS _ [0]) ?_
          conv => whnf
          exact WkF.refl _
        conv => whnf
        refine fkS h (fun h => ?_) (fun h => ?_)
        · conv => whnf
          exact jeS hk70 h (Weak.refl _)
        conv => whnf
        refine ⟨9, ?_⟩
        conv => whnf
        refine drS (by kernel_rfl) ?_
        conv => whnf
        refine ixS (enc := (eI .u8)) h rfl (fun _ => rfl) (fun x73 h => ?_)
        conv => whnf
        exact jeS hk70 h (Weak.refl _)
      conv => whnf
      refine inJ (fun w74 => ⟨[(9, .l (.d (.int .i64 w74.2.2))), (8, .l (.ptr 12 0)), (7, .l (.d (.int .i64 w70.2.2))), (6, .l (.ptr 12 0)), (0, .l (.ptr 12 0)), (2, .l (.ptr 2003 0))], 16, [⟨[(21, .l (.mfn 48 12)), (20, .l (.own 1006)), (17, .l (.d (.bool true))), (0, .l (.ptr 12 0)), (1, .l (.mfn 48 12)), (5, .l (.own 1006)), (6, .l (.d (.int .i64 v68.2.2.2))), (17, .l (.d (.bool w69)))], 26⟩, ⟨[(39, .l (.mfn 48 12)), (38, .l (.ptr 12 0)), (37, .l (.ptr 12 0)), (0, .l (.d (.sl (a0.map (eI .u8))))), (2, .l (.ptr 3 0)), (5, .l (.ptr 12 0)), (8, .l (.ptr 9 0))], 74⟩], [(3, [.nil, .nil]), (9, [.own 36, .nil]), (12, [.d (.sl (a0.map (eI .u8))), .d (.int .i64 w74.1), .d (.int .i64 w74.2.1)]), (2003, [.d (.int .i64 (0 : Int)), .d (.int .i64 (0 : Int)), .d (.int .i64 (0 : Int))])], [(36, 121, 3, w8.2.2.map Part.enc), (1006, 125, 3, v68.2.2.1.map Port.enc)]⟩) h (fun k74 hk74 h => ?_) (fun w74 h => ?_)
      · conv => whnf
        refine inS (fn := Tryz.f44) tab ⟨[(0, [0]), (1, [0, 19]), (2, [0]), (3, [0, 27]), (4, [2]), (5, [0]), (6, [2])], [], [100019, 3], []⟩ 47 [.tmp 2] rfl rfl rfl rfl rfl rfl ?_
        conv => whnf
        refine jnS (fun w75 => ⟨[(0, .l (.ptr 12 0))], 47, [⟨[(8, .l (.ptr 12 0)), (7, .l (.d (.int .i64 w70.2.2))), (6, .l (.ptr 12 0)), (0, .l (.ptr 12 0)), (2, .l (.ptr 2003 0))], 16⟩, ⟨[(21, .l (.mfn 48 12)), (20, .l (.own 1006)), (17, .l (.d (.bool true))), (0, .l (.ptr 12 0)), (1, .l (.mfn 48 12)), (5, .l (.own 1006)), (6, .l (.d (.int .i64 v68.2.2.2))), (17, .l (.d (.bool w69)))], 26⟩, ⟨[(39, .l (.mfn 48 12)), (38, .l (.ptr 12 0)), (37, .l (.ptr 12 0)), (0, .l (.d (.sl (a0.map (eI .u8))))), (2, .l (.ptr 3 0)), (5, .l (.ptr 12 0)), (8, .l (.ptr 9 0))], 74⟩], [(3, [.nil, .nil]), (9, [.own 36, .nil]), (12, [.d (.sl (a0.map (eI .u8))), .d (.int .i64 w70.1), .d (.int .i64 w75)]), (2003, [.d (.int .i64 (0 : Int)), .d (.int .i64 (0 : Int)), .d (.int .i64 (0 : Int))])], [(36, 121, 3, w8.2.2.map Part.enc), (1006, 125, 3, v68.2.2.1.map Port.enc)]⟩) h (fun k75 hk75 h => ?_) (fun w75 h => ?_)
        · conv => whnf
          refine jnS (fun w76 => ⟨[(0, .l (.ptr 12 0)), (19, .l (.d (.bool w76)))], 47, [⟨[(8, .l (.ptr 12 0)), (7, .l (.d (.int .i64 w70.2.2))), (6, .l (.ptr 12 0)), (0, .l (.ptr 12 0)), (2, .l (.ptr 2003 0))], 16⟩, ⟨[(21, .l (.mfn 48 12)), (20, .l (.own 1006)), (17, .l (.d (.bool true))), (0, .l (.ptr 12 0)), (1, .l (.mfn 48 12)), (5, .l (.own 1006)), (6, .l (.d (.int .i64 v68.2.2.2))), (17, .l (.d (.bool w69)))], 26⟩, ⟨[(39, .l (.mfn 48 12)), (38, .l (.ptr 12 0)), (37, .l (.ptr 12 0)), (0, .l (.d (.sl (a0.map (eI .u8))))), (2, .l (.ptr 3 0)), (5, .l (.ptr 12 0)), (8, .l (.ptr 9 0))], 74⟩], [(3, [.nil, .nil]), (9, [.own 36, .nil]), (12, [.d (.sl (a0.map (eI .u8))), .d (.int .i64 w70.1), .d (.int .i64 w70.2.1)]), (2003, [.d (.int .i64 (0 : Int)), .d (.int .i64 (0 : Int)), .d (.int .i64 (0 : Int))])], [(36, 121, 3, w8.2.2.map Part.enc), (1006, 125, 3, v68.2.2.1.map Port.enc)]⟩) h (fun k76 hk76 h => ?_) (fun w76 h => ?_)
          · conv => whnf
            refine ⟨17, ?_⟩
            conv => whnf
            refine fkS h (fun h => ?_) (fun h => ?_)
            · conv => whnf
              refine lenS a0 (eI .u8) rfl ?_
              conv => whnf
              refine drS (by kernel_rfl) ?_
              conv => whnf
              exact jeS hk76 h (Weak.refl _)
            conv => whnf
            refine drS (by kernel_rfl) ?_
            conv => whnf
            exact jeS hk76 h (Weak.refl _)
          conv => whnf
          refine fkS h (fun h => ?_) (fun h => ?_)
          · conv => whnf
            exact jeS hk75 h (Weak.refl _)
          conv => whnf
          refine jeX hk75 h ?_
          conv => whnf
          refine WkF.step (Weak.keepS _ [0]) ?_
          conv => whnf
          exact WkF.refl _
        conv => whnf
        refine fkS h (fun h => ?_) (fun h => ?_)
        · conv => whnf
          exact jeS hk74 h (Weak.refl _)
        conv => whnf
        refine ⟨9, ?_⟩
        conv => whnf
        refine drS (by kernel_rfl) ?_
        conv => whnf
        refine ixS (enc := (eI .u8)) h rfl (fun _ => rfl) (fun x77 h => ?_)
        conv => whnf
        exact jeS hk74 h (Weak.refl _)
      conv => whnf
      refine inJ (fun w78 => ⟨[(11, .l (.d (.int .i64 w78.2.2))), (10, .l (.ptr 12 0)), (9, .l (.d (.int .i64 w74.2.2))), (8, .l (.ptr 12 0)), (7, .l (.d (.int .i64 w70.2.2))), (6, .l (.ptr 12 0)), (0, .l (.ptr 12 0)), (2, .l (.ptr 2003 0))], 16, [⟨[(21, .l (.mfn 48 12)), (20, .l (.own 1006)), (17, .l (.d (.bool true))), (0, .l (.ptr 12 0)), (1, .l (.mfn 48 12)), (5, .l (.own 1006)), (6, .l (.d (.int .i64 v68.2.2.2))), (17, .l (.d (.bool w69)))], 26⟩, ⟨[(39, .l (.mfn 48 12)), (38, .l (.ptr 12 0)), (37, .l (.ptr 12 0)), (0, .l (.d (.sl (a0.map (eI .u8))))), (2, .l (.ptr 3 0)), (5, .l (.ptr 12 0)), (8, .l (.ptr 9 0))], 74⟩], [(3, [.nil, .nil]), (9, [.own 36, .nil]), (12, [.d (.sl (a0.map (eI .u8))), .d (.int .i64 w78.1), .d (.int .i64 w78.2.1)]), (2003, [.d (.int .i64 (0 : Int)), .d (.int .i64 (0 : Int)), .d (.int .i64 (0 : Int))])], [(36, 121, 3, w8.2.2.map Part.enc), (1006, 125, 3, v68.2.2.1.map Port.enc)]⟩) h (fun k78 hk78 h => ?_) (fun w78 h => ?_)
      · conv => whnf
        refine inS (fn := Tryz.f44) tab ⟨[(0, [0]), (1, [0, 19]), (2, [0]), (3, [0, 27]), (4, [2]), (5, [0]), (6, [2])], [], [100019, 3], []⟩ 47 [.tmp 2] rfl rfl rfl rfl rfl rfl ?_
        conv => whnf
        refine jnS (fun w79 => ⟨[(0, .l (.ptr 12 0))], 47, [⟨[(10, .l (.ptr 12 0)), (9, .l (.d (.int .i64 w74.2.2))), (8, .l (.ptr 12 0)), (7, .l (.d (.int .i64 w70.2.2))), (6, .l (.ptr 12 0)), (0, .l (.ptr 12 0)), (2, .l (.ptr 2003 0))], 16⟩, ⟨[(21, .l (.mfn 48 12)), (20, .l (.own 1006)), (17, .l (.d (.bool true))), (0, .l (.ptr 12 0)), (1, .l (.mfn 48 12)), (5, .l (.own 1006)), (6, .l (.d (.int .i64 v68.2.2.2))), (17, .l (.d (.bool w69)))], 26⟩, ⟨[(39, .l (.mfn 48 12)), (38, .l (.ptr 12 0)), (37, .l (.ptr 12 0)), (0, .l (.d (.sl (a0.map (eI .u8))))), (2, .l (.ptr 3 0)), (5, .l (.ptr 12 0)), (8, .l (.ptr 9 0))], 74⟩], [(3, [.nil, .nil]), (9, [.own 36, .nil]), (12, [.d (.sl (a0.map (eI .u8))), .d (.int .i64 w74.1), .d (.int .i64 w79)]), (2003, [.d (.int .i64 (0 : Int)), .d (.int .i64 (0 : Int)), .d (.int .i64 (0 : Int))])], [(36, 121, 3, w8.2.2.map Part.enc), (1006, 125, 3, v68.2.2.1.map Port.enc)]⟩) h (fun k79 hk79 h => ?_) (fun w79 h => ?_)
        · conv => whnf
          refine jnS (fun w80 => ⟨[(0, .l (.ptr 12 0)), (19, .l (.d (.bool w80)))], 47, [⟨[(10, .l (.ptr 12 0)), (9, .l (.d (.int .i64 w74.2.2))), (8, .l (.ptr 12 0)), (7, .l (.d (.int .i64 w70.2.2))), (6, .l (.ptr 12 0)), (0, .l (.ptr 12 0)), (2, .l (.ptr 2003 0))], 16⟩, ⟨[(21, .l (.mfn 48 12)), (20, .l (.own 1006)), (17, .l (.d (.bool true))), (0, .l (.ptr 12 0)), (1, .l (.mfn 48 12)), (5, .l (.own 1006)), (6, .l (.d (.int .i64 v68.2.2.2))), (17, .l (.d (.bool w69)))], 26⟩, ⟨[(39, .l (.mfn 48 12)), (38, .l (.ptr 12 0)), (37, .l (.ptr 12 0)), (0, .l (.d (.sl (a0.map (eI .u8))))), (2, .l (.ptr 3 0)), (5, .l (.ptr 12 0)), (8, .l (.ptr 9 0))], 74⟩], [(3, [.nil, .nil]), (9, [.own 36, .nil]), (12, [.d (.sl (a0.map (eI .u8))), .d (.int .i64 w74.1), .d (.int .i64 w74.2.1)]), (2003, [.d (.int .i64 (0 : Int)), .d (.int .i64 (0 : Int)), .d (.int .i64 (0 : Int))])], [(36, 121, 3, w8.2.2.map Part.enc), (1006, 125, 3, v68.2.2.1.map Port.enc)]⟩) h (fun k80 hk80 h => ?_) (fun w80 h => ?_)
          · conv => whnf
            refine ⟨17, ?_⟩
            conv => whnf
            refine fkS h (fun h => ?_) (fun h => ?_)
            · conv => whnf
              refine lenS a0 (eI .u8) rfl ?_
              conv => whnf
              refine drS (by kernel_rfl) ?_
              conv => whnf
              exact jeS hk80 h (Weak.refl _)
            conv => whnf
            refine drS (by kernel_rfl) ?_
            conv => whnf
            exact jeS hk80 h (Weak.refl _)
          conv => whnf
          refine fkS h (fun h => ?_) (fun h => ?_)
          · conv => whnf
            exact jeS hk79 h (Weak.refl _)
          conv => whnf
          refine jeX hk79 h ?_
          conv => whnf
          refine WkF.step (Weak.keepS _ [0]) ?_
          conv => whnf
          exact WkF.refl _
        conv => whnf
        refine fkS h (fun h => ?_) (fun h => ?_)
        · conv => whnf
          exact jeS hk78 h (Weak.refl _)
        conv => whnf
        refine ⟨9, ?_⟩
        conv => whnf
        refine drS (by kernel_rfl) ?_
        conv => whnf
        refine ixS (enc := (eI .u8)) h rfl (fun _ => rfl) (fun x81 h => ?_)
        conv => whnf
        exact jeS hk78 h (Weak.refl _)
      conv => whnf
      refine liS ([⟨w70.2.2, w74.2.2, w78.2.2⟩] : List Port) Port.enc rfl rfl ?_
      conv => whnf
      refine apS (enc := Port.enc) (l1 := v68.2.2.1) (l2 := ([⟨w70.2.2, w74.2.2, w78.2.2⟩] : List Port)) h rfl rfl (fun _ => rfl) (fun h => ?_)
      conv => whnf
      exact leS hn68 h (Weak.refl _)
    conv => whnf
    refine jeX hk63 h ?_
    conv => whnf
    refine WkF.step (Weak.rekey _ 1005 41 rfl) ?_
    conv => whnf
    exact WkF.refl _
  conv => whnf
  refine fkS h (fun h => ?_) (fun h => ?_)
  · conv => whnf
    refine ⟨9, ?_⟩
    conv => whnf
    refine lenS a0 (eI .u8) rfl ?_
    conv => whnf
    refine drS (by kernel_rfl) ?_
    conv => whnf
    exact rt (E := E_Config_Int_Int) h rfl
  conv => whnf
  refine lenS a0 (eI .u8) rfl ?_
  conv => whnf
  refine fkS h (fun h => ?_) (fun h => ?_)
  · conv => whnf
    refine ⟨6, ?_⟩
    conv => whnf
    refine drS (by kernel_rfl) ?_
    conv => whnf
    exact rt (E := E_Config_Int_Int) h rfl
  conv => whnf
  refine caS (E := E_Bool) h (image_Right_w ⟨w8.2.2, w63.2.2⟩) rfl (fun _ => rfl) (fun x82 h => ?_)
  conv => whnf
  refine fkS h (fun h => ?_) (fun h => ?_)
  · conv => whnf
    exact rt (E := E_Config_Int_Int) h rfl
  conv => whnf
  exact rt (E := E_Config_Int_Int) h rfl

end Go.Proofs.YtpephpefjddgcaaGreat
namespace Go.Proofs.YtpephpefjddgcaaGreat
open Go Go.VC
noncomputable def table_Make (a0 : List Face) : Option (TableTable × Int) :=
  bnd (synth_Lay a0) fun x1 => fk (!decide (x1.2 = (0 : Int))) (some (⟨(0 : Int), []⟩, x1.2)) (bnd (table_Of x1.1) fun x2 => some (x2.1, x2.2))
theorem table_Make_w (a0 : List Face) (r : TableTable × Int) (h : table_Make a0 = some r) : Go.VC.Spec Tryz.prog 12 [.d (.sl (a0.map Face.enc))] (fun y => y = E_TableTable_Int r) := by
  refine Go.VC.Spec.of_xc (args := [.d (.sl (a0.map Face.enc))]) (fn := Tryz.f12) tab ⟨[(0, [0, 2]), (1, [2, 4, 5]), (2, [2, 4, 5, 12]), (3, [2, 3]), (4, [2, 3])], [], [], []⟩ 19 [.cell 2 43, .tmp 3] rfl rfl rfl rfl rfl rfl ?_
  conv => whnf
  refine ccS (E := E_ListInt_Int) h (synth_Lay_w a0) rfl rfl (fun x1 h => ?_)
  conv => whnf
  refine fkS h (fun h => ?_) (fun h => ?_)
  · conv => whnf
    exact rt (E := E_TableTable_Int) h rfl
  conv => whnf
  refine ccS (E := E_TableTable_Int) h (table_Of_w x1.1) rfl rfl (fun x2 h => ?_)
  conv => whnf
  exact rt (E := E_TableTable_Int) h rfl

end Go.Proofs.YtpephpefjddgcaaGreat
namespace Go.Proofs.YtpephpefjddgcaaGreat
open Go Go.VC
def E_fn_admit_unless : Bool × Int → List CV := fun r => [.d (.fn 104 [[.bool r.1], [.int .i64 r.2]])]
noncomputable def admit_unless (a0 : Bool) (a1 : Int) : Option (Bool × Int) :=
  some (a0, a1)
theorem admit_unless_w (a0 : Bool) (a1 : Int) (r : Bool × Int) (h : admit_unless a0 a1 = some r) : Go.VC.Spec Tryz.prog 69 [.d (.bool a0), .d (.int .i64 a1)] (fun y => y = E_fn_admit_unless r) := by
  refine Go.VC.Spec.of_xc (args := [.d (.bool a0), .d (.int .i64 a1)]) (fn := Tryz.f69) tab ⟨[(0, [2, 3]), (1, [4])], [], [], []⟩ 6 [.tmp 4] rfl rfl rfl rfl rfl rfl ?_
  conv => whnf
  exact rt (E := E_fn_admit_unless) h rfl

end Go.Proofs.YtpephpefjddgcaaGreat
namespace Go.Proofs.YtpephpefjddgcaaGreat
open Go Go.VC
def E_fn_admit_fit : (List Task) × Int × Int → List CV := fun r => [.d (.fn 105 [[.sl (r.1.map Task.enc)], [.int .i64 r.2.1, .int .i64 r.2.2]])]
noncomputable def admit_fit (a0 : List Task) (a1 : Face) : Option ((List Task) × Int × Int) :=
  some (a0, a1.P, a1.B)
theorem admit_fit_w (a0 : List Task) (a1 : Face) (r : (List Task) × Int × Int) (h : admit_fit a0 a1 = some r) : Go.VC.Spec Tryz.prog 70 [.d (.sl (a0.map Task.enc)), .agg (Face.enc a1)] (fun y => y = E_fn_admit_fit r) := by
  refine Go.VC.Spec.of_xc (args := [.d (.sl (a0.map Task.enc)), .agg (Face.enc a1)]) (fn := Tryz.f70) tab ⟨[(0, [2, 3]), (1, [4])], [], [], []⟩ 6 [.tmp 4] rfl rfl rfl rfl rfl rfl ?_
  conv => whnf
  exact rt (E := E_fn_admit_fit) h rfl

end Go.Proofs.YtpephpefjddgcaaGreat
namespace Go.Proofs.YtpephpefjddgcaaGreat
open Go Go.VC
noncomputable def admit_fit_1 (a0 : List Task) (a1 : Int) (a2 : Int) : Option Int :=
  bnd (verdict_Fits a0 ⟨a1, a2⟩) fun x1 => jn (fun (w2 : Bool) => fk w2 (some (7 : Int)) (some x1.2)) (fun k2 => fk (decide (x1.2 = (0 : Int))) (k2 (!x1.1)) (k2 false))
theorem admit_fit_1_w (a0 : List Task) (a1 : Int) (a2 : Int) (r : Int) (h : admit_fit_1 a0 a1 a2 = some r) : Go.VC.Spec Tryz.prog 105 [.dp [.sl (a0.map Task.enc)], .dp [.int .i64 a1, .int .i64 a2]] (fun y => y = E_Int r) := by
  refine Go.VC.Spec.of_xc (args := [.dp [.sl (a0.map Task.enc)], .dp [.int .i64 a1, .int .i64 a2]]) (fn := Tryz.f105) tab ⟨[(0, [0, 1]), (1, [3, 4]), (2, [4, 16]), (3, [2]), (4, [2])], [], [100016], []⟩ 18 [.tmp 2] rfl rfl rfl rfl rfl rfl ?_
  conv => whnf
  refine caS (E := E_Bool_Int) h (verdict_Fits_w a0 ⟨a1, a2⟩) rfl (fun _ => rfl) (fun x1 h => ?_)
  conv => whnf
  refine jnS (fun w2 => ⟨[(4, .l (.d (.int .i64 x1.2))), (16, .l (.d (.bool w2)))], 18, [], [], []⟩) h (fun k2 hk2 h => ?_) (fun w2 h => ?_)
  · conv => whnf
    refine fkS h (fun h => ?_) (fun h => ?_)
    · conv => whnf
      exact jeS hk2 h (Weak.refl _)
    conv => whnf
    exact jeS hk2 h (Weak.refl _)
  conv => whnf
  refine fkS h (fun h => ?_) (fun h => ?_)
  · conv => whnf
    exact rt (E := E_Int) h rfl
  conv => whnf
  exact rt (E := E_Int) h rfl

end Go.Proofs.YtpephpefjddgcaaGreat
namespace Go.Proofs.YtpephpefjddgcaaGreat
open Go Go.VC
noncomputable def admit_unless_1 (a0 : Bool) (a1 : Int) : Option Int :=
  fk a0 (some (0 : Int)) (some a1)
theorem admit_unless_1_w (a0 : Bool) (a1 : Int) (r : Int) (h : admit_unless_1 a0 a1 = some r) : Go.VC.Spec Tryz.prog 104 [.dp [.bool a0], .dp [.int .i64 a1]] (fun y => y = E_Int r) := by
  refine Go.VC.Spec.of_xc (args := [.dp [.bool a0], .dp [.int .i64 a1]]) (fn := Tryz.f104) tab ⟨[(0, [0, 1]), (1, [1, 3]), (2, [2]), (3, [2])], [], [], []⟩ 5 [.tmp 2] rfl rfl rfl rfl rfl rfl ?_
  conv => whnf
  refine fkS h (fun h => ?_) (fun h => ?_)
  · conv => whnf
    exact rt (E := E_Int) h rfl
  conv => whnf
  exact rt (E := E_Int) h rfl

end Go.Proofs.YtpephpefjddgcaaGreat
namespace Go.Proofs.YtpephpefjddgcaaGreat
open Go Go.VC
noncomputable def admit_first (a0 : Bool) (a1 : Int) (a2 : List Task) (a3 : Int) (a4 : Int) : Option Int :=
  lp (fun nx1 (v1 : Int) => fk (decide (v1 < (2 : Int))) (fk (decide (v1 = (0 : Int))) (bnd (admit_unless_1 a0 a1) fun x3 => fk (!decide (x3 = (0 : Int))) (some x3) (nx1 (wr (v1 + (1 : Int))))) (fk (decide (v1 = (1 : Int))) (bnd (admit_fit_1 a2 a3 a4) fun x2 => fk (!decide (x2 = (0 : Int))) (some x2) (nx1 (wr (v1 + (1 : Int))))) (none))) (some (0 : Int))) FU (0 : Int)
theorem admit_first_w (a0 : Bool) (a1 : Int) (a2 : List Task) (a3 : Int) (a4 : Int) (r : Int) (h : admit_first a0 a1 a2 a3 a4 = some r) : Go.VC.Spec Tryz.prog 68 [.d (.sl [[.fn 104 [[.bool a0], [.int .i64 a1]]], [.fn 105 [[.sl (a2.map Task.enc)], [.int .i64 a3, .int .i64 a4]]]])] (fun y => y = E_Int r) := by
  refine Go.VC.Spec.of_xc (args := [.d (.sl [[.fn 104 [[.bool a0], [.int .i64 a1]]], [.fn 105 [[.sl (a2.map Task.enc)], [.int .i64 a3, .int .i64 a4]]]])]) (fn := Tryz.f68) tab ⟨[(0, [0]), (1, [6, 7, 8]), (2, [6, 7, 8, 9]), (3, [4, 6, 7, 8]), (4, [5, 6, 7, 8]), (5, [5, 6, 7, 8, 15]), (6, [2]), (7, [6, 7, 8]), (8, [2])], [], [], []⟩ 18 [.tmp 2] rfl rfl rfl rfl rfl rfl ?_
  conv => whnf
  refine lenR (2 : Int) rfl ?_
  conv => whnf
  refine lpS (fun v1 => ⟨[(6, .l (.d (.sl [[.fn 104 [[.bool a0], [.int .i64 a1]]], [.fn 105 [[.sl (a2.map Task.enc)], [.int .i64 a3, .int .i64 a4]]]]))), (7, .l (.d (.int .i64 (2 : Int)))), (8, .l (.d (.int .i64 v1)))], 18, [], [], []⟩) h (Weak.refl _) (fun _ nx1 hn1 v1 h => ?_)
  conv => whnf
  refine fkS h (fun h => ?_) (fun h => ?_)
  · conv => whnf
    refine ixC 0 [.fn 104 [[.bool a0], [.int .i64 a1]]] h rfl rfl (fun h => ?_) (fun h => ?_)
    · conv => whnf
      refine caS (E := E_Int) h (admit_unless_1_w a0 a1) rfl (fun _ => rfl) (fun x3 h => ?_)
      conv => whnf
      refine fkS h (fun h => ?_) (fun h => ?_)
      · conv => whnf
        exact rt (E := E_Int) h rfl
      conv => whnf
      exact leS hn1 h (Weak.refl _)
    conv => whnf
    refine ixC 1 [.fn 105 [[.sl (a2.map Task.enc)], [.int .i64 a3, .int .i64 a4]]] h rfl rfl (fun h => ?_) (fun h => ?_)
    · conv => whnf
      refine caS (E := E_Int) h (admit_fit_1_w a2 a3 a4) rfl (fun _ => rfl) (fun x2 h => ?_)
      conv => whnf
      refine fkS h (fun h => ?_) (fun h => ?_)
      · conv => whnf
        exact rt (E := E_Int) h rfl
      conv => whnf
      exact leS hn1 h (Weak.refl _)
    conv => whnf
    exact ixN h
  conv => whnf
  exact rt (E := E_Int) h rfl

end Go.Proofs.YtpephpefjddgcaaGreat
namespace Go.Proofs.YtpephpefjddgcaaGreat
open Go Go.VC
noncomputable def police_Right (a0 : List Task) (a1 : List Int) : Option Bool :=
  jn (fun (w1 : Bool) => fk w1 (some false) (lp (fun nx3 (v3 : Int) => fk (decide (v3 < (a1.length : Int))) (ix a1 v3 fun x4 => jn (fun (w5 : Bool) => fk w5 (some false) (nx3 (wr (v3 + (1 : Int))))) (fun k5 => fk (decide (x4 < (-1 : Int))) (k5 true) (k5 (decide (x4 > (4611686018427387903 : Int)))))) (some true)) FU (0 : Int))) (fun k1 => bnd (task_All a0) fun x2 => fk (!x2) (k1 true) (k1 (!decide ((a1.length : Int) = (a0.length : Int)))))
theorem police_Right_w (a0 : List Task) (a1 : List Int) (r : Bool) (h : police_Right a0 a1 = some r) : Go.VC.Spec Tryz.prog 108 [.d (.sl (a0.map Task.enc)), .d (.sl (a1.map (eI .i64)))] (fun y => y = E_Bool r) := by
  refine Go.VC.Spec.of_xc (args := [.d (.sl (a0.map Task.enc)), .d (.sl (a1.map (eI .i64)))]) (fn := Tryz.f108) tab ⟨[(0, [0, 1]), (1, [1, 16]), (2, [4]), (3, [17, 18, 19]), (4, [17, 18, 19, 20]), (5, [6, 17, 18, 19]), (6, [17, 18, 19, 28]), (7, [4]), (8, [17, 18, 19]), (9, [4])], [], [100016, 100028], []⟩ 30 [.tmp 4] rfl rfl rfl rfl rfl rfl ?_
  conv => whnf
  refine jnS (fun w1 => ⟨[(1, .l (.d (.sl (a1.map (eI .i64))))), (16, .l (.d (.bool w1)))], 30, [], [], []⟩) h (fun k1 hk1 h => ?_) (fun w1 h => ?_)
  · conv => whnf
    refine caS (E := E_Bool) h (task_All_w a0) rfl (fun _ => rfl) (fun x2 h => ?_)
    conv => whnf
    refine fkS h (fun h => ?_) (fun h => ?_)
    · conv => whnf
      exact jeS hk1 h (Weak.refl _)
    conv => whnf
    refine lenS a1 (eI .i64) rfl ?_
    conv => whnf
    refine lenS a0 Task.enc rfl ?_
    conv => whnf
    exact jeS hk1 h (Weak.refl _)
  conv => whnf
  refine fkS h (fun h => ?_) (fun h => ?_)
  · conv => whnf
    exact rt (E := E_Bool) h rfl
  conv => whnf
  refine lenS a1 (eI .i64) rfl ?_
  conv => whnf
  refine lpS (fun v3 => ⟨[(17, .l (.d (.sl (a1.map (eI .i64))))), (18, .l (.d (.int .i64 (a1.length : Int)))), (19, .l (.d (.int .i64 v3)))], 30, [], [], []⟩) h (Weak.refl _) (fun _ nx3 hn3 v3 h => ?_)
  conv => whnf
  refine fkS h (fun h => ?_) (fun h => ?_)
  · conv => whnf
    refine ixS (enc := (eI .i64)) h rfl (fun _ => rfl) (fun x4 h => ?_)
    conv => whnf
    refine jnS (fun w5 => ⟨[(17, .l (.d (.sl (a1.map (eI .i64))))), (18, .l (.d (.int .i64 (a1.length : Int)))), (19, .l (.d (.int .i64 v3))), (28, .l (.d (.bool w5)))], 30, [], [], []⟩) h (fun k5 hk5 h => ?_) (fun w5 h => ?_)
    · conv => whnf
      refine fkS h (fun h => ?_) (fun h => ?_)
      · conv => whnf
        exact jeS hk5 h (Weak.refl _)
      conv => whnf
      exact jeS hk5 h (Weak.refl _)
    conv => whnf
    refine fkS h (fun h => ?_) (fun h => ?_)
    · conv => whnf
      exact rt (E := E_Bool) h rfl
    conv => whnf
    exact leS hn3 h (Weak.refl _)
  conv => whnf
  exact rt (E := E_Bool) h rfl

end Go.Proofs.YtpephpefjddgcaaGreat
namespace Go.Proofs.YtpephpefjddgcaaGreat
open Go Go.VC
noncomputable def job_right (a0 : List Task) (a1 : Job) : Option Bool :=
  jn (fun (w1 : Bool) => fk w1 (some false) (ix a0 a1.Task fun x2 => fk (decide (a1.Due = (wr (a1.At + x2.D)))) (fk (decide (a1.Want ≥ (1 : Int))) (fk (decide (a1.Want ≤ (200 : Int))) (fk (decide (a1.Had ≥ (0 : Int))) (fk (decide (a1.Had < (if a1.Want < x2.C then a1.Want else x2.C))) (fk a1.Began (some true) (some (decide (a1.Had = (0 : Int))))) (some false)) (some false)) (some false)) (some false)) (some false))) (fun k1 => fk (decide (a1.Task < (0 : Int))) (k1 true) (fk (decide (a1.Task ≥ (a0.length : Int))) (k1 true) (fk (decide (a1.At < (0 : Int))) (k1 true) (k1 (decide (a1.At > (4611686018427387703 : Int)))))))
theorem job_right_w (a0 : List Task) (a1 : Job) (r : Bool) (h : job_right a0 a1 = some r) : Go.VC.Spec Tryz.prog 127 [.d (.sl (a0.map Task.enc)), .agg (Job.enc a1)] (fun y => y = E_Bool r) := by
  refine Go.VC.Spec.of_xc (args := [.d (.sl (a0.map Task.enc)), .agg (Job.enc a1)]) (fn := Tryz.f127) tab ⟨[(0, [0, 3]), (1, [0, 3, 25]), (2, [4]), (3, [3, 5]), (4, [4])], [], [100025], []⟩ 73 [.tmp 4] rfl rfl rfl rfl rfl rfl ?_
  conv => whnf
  refine jnS (fun w1 => ⟨[(0, .l (.d (.sl (a0.map Task.enc)))), (3, .l (.ptr 4 0)), (25, .l (.d (.bool w1)))], 73, [], [(4, [.d (.int .i64 a1.Task), .d (.int .i64 a1.At), .d (.int .i64 a1.Due), .d (.int .i64 a1.Want), .d (.int .i64 a1.Had), .d (.bool a1.Began)])], []⟩) h (fun k1 hk1 h => ?_) (fun w1 h => ?_)
  · conv => whnf
    refine fkS h (fun h => ?_) (fun h => ?_)
    · conv => whnf
      exact jeS hk1 h (Weak.refl _)
    conv => whnf
    refine lenS a0 Task.enc rfl ?_
    conv => whnf
    refine fkS h (fun h => ?_) (fun h => ?_)
    · conv => whnf
      exact jeS hk1 h (Weak.refl _)
    conv => whnf
    refine fkS h (fun h => ?_) (fun h => ?_)
    · conv => whnf
      exact jeS hk1 h (Weak.refl _)
    conv => whnf
    exact jeS hk1 h (Weak.refl _)
  conv => whnf
  refine fkS h (fun h => ?_) (fun h => ?_)
  · conv => whnf
    exact rt (E := E_Bool) h rfl
  conv => whnf
  refine ixS (enc := Task.enc) h rfl (fun _ => rfl) (fun x2 h => ?_)
  conv => whnf
  refine fkS h (fun h => ?_) (fun h => ?_)
  · conv => whnf
    refine fkS h (fun h => ?_) (fun h => ?_)
    · conv => whnf
      refine fkS h (fun h => ?_) (fun h => ?_)
      · conv => whnf
        refine fkS h (fun h => ?_) (fun h => ?_)
        · conv => whnf
          refine fkS h (fun h => ?_) (fun h => ?_)
          · conv => whnf
            refine fkS h (fun h => ?_) (fun h => ?_)
            · conv => whnf
              exact rt (E := E_Bool) h rfl
            conv => whnf
            exact rt (E := E_Bool) h rfl
          conv => whnf
          exact rt (E := E_Bool) h rfl
        conv => whnf
        exact rt (E := E_Bool) h rfl
      conv => whnf
      exact rt (E := E_Bool) h rfl
    conv => whnf
    exact rt (E := E_Bool) h rfl
  conv => whnf
  exact rt (E := E_Bool) h rfl

end Go.Proofs.YtpephpefjddgcaaGreat
namespace Go.Proofs.YtpephpefjddgcaaGreat
open Go Go.VC
noncomputable def job_All (a0 : List Task) (a1 : List Job) : Option Bool :=
  jn (fun (w1 : Bool) => fk w1 (some false) (lp (fun nx3 (v3 : Int) => fk (decide (v3 < (a1.length : Int))) (ix a1 v3 fun x4 => bnd (job_right a0 x4) fun x5 => fk (!x5) (some false) (ck (decide ((0 : Int) ≤ (0 : Int)) && decide ((0 : Int) ≤ v3) && decide (v3 ≤ (a1.length : Int))) (lp (fun nx6 (v6 : Int) => fk (decide (v6 < (((a1.take v3.toNat).drop (0 : Int).toNat).length : Int))) (ix ((a1.take v3.toNat).drop (0 : Int).toNat) v6 fun x7 => jn (fun (w8 : Bool) => fk w8 (some false) (nx6 (wr (v6 + (1 : Int))))) (fun k8 => fk (decide (x4.Task = x7.Task)) (k8 (decide (x4.At = x7.At))) (k8 false))) (nx3 (wr (v3 + (1 : Int))))) FU (0 : Int)))) (some true)) FU (0 : Int))) (fun k1 => bnd (task_All a0) fun x2 => fk (!x2) (k1 true) (k1 (decide ((a1.length : Int) > (32 : Int)))))
theorem job_All_w (a0 : List Task) (a1 : List Job) (r : Bool) (h : job_All a0 a1 = some r) : Go.VC.Spec Tryz.prog 109 [.d (.sl (a0.map Task.enc)), .d (.sl (a1.map Job.enc))] (fun y => y = E_Bool r) := by
  refine Go.VC.Spec.of_xc (args := [.d (.sl (a0.map Task.enc)), .d (.sl (a1.map Job.enc))]) (fn := Tryz.f109) tab ⟨[(0, [0, 1]), (1, [0, 1, 16]), (2, [4]), (3, [0, 1, 17, 18, 19]), (4, [0, 1, 17, 18, 19, 20]), (5, [0, 1, 5, 6, 17, 18, 19]), (6, [0, 1, 5, 6, 17, 18, 19, 27]), (7, [4]), (8, [0, 1, 6, 17, 18, 19, 30, 31, 32]), (9, [0, 1, 6, 17, 18, 19, 30, 31, 32, 33]), (10, [0, 1, 6, 8, 17, 18, 19, 30, 31, 32]), (11, [0, 1, 6, 17, 18, 19, 30, 31, 32, 47]), (12, [4]), (13, [0, 1, 6, 17, 18, 19, 30, 31, 32]), (14, [0, 1, 17, 18, 19]), (15, [4])], [], [100016, 100047], []⟩ 50 [.tmp 4] rfl rfl rfl rfl rfl rfl ?_
  conv => whnf
  refine jnS (fun w1 => ⟨[(0, .l (.d (.sl (a0.map Task.enc)))), (1, .l (.d (.sl (a1.map Job.enc)))), (16, .l (.d (.bool w1)))], 50, [], [], []⟩) h (fun k1 hk1 h => ?_) (fun w1 h => ?_)
  · conv => whnf
    refine caS (E := E_Bool) h (task_All_w a0) rfl (fun _ => rfl) (fun x2 h => ?_)
    conv => whnf
    refine fkS h (fun h => ?_) (fun h => ?_)
    · conv => whnf
      exact jeS hk1 h (Weak.refl _)
    conv => whnf
    refine lenS a1 Job.enc rfl ?_
    conv => whnf
    exact jeS hk1 h (Weak.refl _)
  conv => whnf
  refine fkS h (fun h => ?_) (fun h => ?_)
  · conv => whnf
    exact rt (E := E_Bool) h rfl
  conv => whnf
  refine lenS a1 Job.enc rfl ?_
  conv => whnf
  refine lpS (fun v3 => ⟨[(0, .l (.d (.sl (a0.map Task.enc)))), (1, .l (.d (.sl (a1.map Job.enc)))), (17, .l (.d (.sl (a1.map Job.enc)))), (18, .l (.d (.int .i64 (a1.length : Int)))), (19, .l (.d (.int .i64 v3)))], 50, [], [], []⟩) h (Weak.refl _) (fun _ nx3 hn3 v3 h => ?_)
  conv => whnf
  refine fkS h (fun h => ?_) (fun h => ?_)
  · conv => whnf
    refine ixS (enc := Job.enc) h rfl (fun _ => rfl) (fun x4 h => ?_)
    conv => whnf
    refine caS (E := E_Bool) h (job_right_w a0 x4) rfl (fun _ => rfl) (fun x5 h => ?_)
    conv => whnf
    refine fkS h (fun h => ?_) (fun h => ?_)
    · conv => whnf
      exact rt (E := E_Bool) h rfl
    conv => whnf
    refine slS (enc := Job.enc) h rfl rfl (.inl rfl) (fun _ => rfl) (fun h => ?_)
    conv => whnf
    refine lenS ((a1.take v3.toNat).drop (0 : Int).toNat) Job.enc rfl ?_
    conv => whnf
    refine lpS (fun v6 => ⟨[(0, .l (.d (.sl (a0.map Task.enc)))), (1, .l (.d (.sl (a1.map Job.enc)))), (6, .l (.ptr 7 0)), (17, .l (.d (.sl (a1.map Job.enc)))), (18, .l (.d (.int .i64 (a1.length : Int)))), (19, .l (.d (.int .i64 v3))), (30, .l (.d (.sl (((a1.take v3.toNat).drop (0 : Int).toNat).map Job.enc)))), (31, .l (.d (.int .i64 (((a1.take v3.toNat).drop (0 : Int).toNat).length : Int)))), (32, .l (.d (.int .i64 v6)))], 50, [], [(7, [.d (.int .i64 x4.Task), .d (.int .i64 x4.At), .d (.int .i64 x4.Due), .d (.int .i64 x4.Want), .d (.int .i64 x4.Had), .d (.bool x4.Began)])], []⟩) h (Weak.refl _) (fun _ nx6 hn6 v6 h => ?_)
    conv => whnf
    refine fkS h (fun h => ?_) (fun h => ?_)
    · conv => whnf
      refine ixS (enc := Job.enc) h rfl (fun _ => rfl) (fun x7 h => ?_)
      conv => whnf
      refine jnS (fun w8 => ⟨[(0, .l (.d (.sl (a0.map Task.enc)))), (1, .l (.d (.sl (a1.map Job.enc)))), (6, .l (.ptr 7 0)), (17, .l (.d (.sl (a1.map Job.enc)))), (18, .l (.d (.int .i64 (a1.length : Int)))), (19, .l (.d (.int .i64 v3))), (30, .l (.d (.sl (((a1.take v3.toNat).drop (0 : Int).toNat).map Job.enc)))), (31, .l (.d (.int .i64 (((a1.take v3.toNat).drop (0 : Int).toNat).length : Int)))), (32, .l (.d (.int .i64 v6))), (47, .l (.d (.bool w8)))], 50, [], [(7, [.d (.int .i64 x4.Task), .d (.int .i64 x4.At), .d (.int .i64 x4.Due), .d (.int .i64 x4.Want), .d (.int .i64 x4.Had), .d (.bool x4.Began)])], []⟩) h (fun k8 hk8 h => ?_) (fun w8 h => ?_)
      · conv => whnf
        refine fkS h (fun h => ?_) (fun h => ?_)
        · conv => whnf
          exact jeS hk8 h (Weak.refl _)
        conv => whnf
        exact jeS hk8 h (Weak.refl _)
      conv => whnf
      refine fkS h (fun h => ?_) (fun h => ?_)
      · conv => whnf
        exact rt (E := E_Bool) h rfl
      conv => whnf
      exact leS hn6 h (Weak.refl _)
    conv => whnf
    exact leS hn3 h (Weak.refl _)
  conv => whnf
  exact rt (E := E_Bool) h rfl

end Go.Proofs.YtpephpefjddgcaaGreat
namespace Go.Proofs.YtpephpefjddgcaaGreat
open Go Go.VC
noncomputable def part_Right (a0 : PartState) : Option Bool :=
  fk (decide ((a0.Leaves.length : Int) = (a0.Tasks.length : Int))) (bnd (police_Right a0.Tasks a0.Lasts) fun x1 => fk x1 (bnd (job_All a0.Tasks a0.Jobs) fun x2 => fk x2 (some (decide ((a0.Log.length : Int) ≤ (2000 : Int)))) (some false)) (some false)) (some false)
theorem part_Right_w (a0 : PartState) (r : Bool) (h : part_Right a0 = some r) : Go.VC.Spec Tryz.prog 74 [.agg (PartState.enc a0)] (fun y => y = E_Bool r) := by
  refine Go.VC.Spec.of_xc (args := [.agg (PartState.enc a0)]) (fn := Tryz.f74) tab ⟨[(0, [1]), (1, [2])], [], [], []⟩ 30 [.tmp 2] rfl rfl rfl rfl rfl rfl ?_
  conv => whnf
  refine lenS a0.Leaves eB rfl ?_
  conv => whnf
  refine lenS a0.Tasks Task.enc rfl ?_
  conv => whnf
  refine fkS h (fun h => ?_) (fun h => ?_)
  · conv => whnf
    refine caS (E := E_Bool) h (police_Right_w a0.Tasks a0.Lasts) rfl (fun _ => rfl) (fun x1 h => ?_)
    conv => whnf
    refine fkS h (fun h => ?_) (fun h => ?_)
    · conv => whnf
      refine caS (E := E_Bool) h (job_All_w a0.Tasks a0.Jobs) rfl (fun _ => rfl) (fun x2 h => ?_)
      conv => whnf
      refine fkS h (fun h => ?_) (fun h => ?_)
      · conv => whnf
        refine lenS a0.Log Entry.enc rfl ?_
        conv => whnf
        exact rt (E := E_Bool) h rfl
      conv => whnf
      exact rt (E := E_Bool) h rfl
    conv => whnf
    exact rt (E := E_Bool) h rfl
  conv => whnf
  exact rt (E := E_Bool) h rfl

end Go.Proofs.YtpephpefjddgcaaGreat
namespace Go.Proofs.YtpephpefjddgcaaGreat
open Go Go.VC
noncomputable def part_Add (a0 : PartState) (a1 : Task) : Option (PartState × Int) :=
  jn (fun (w1 : Bool) => fk w1 (some (a0, (1 : Int))) (fk (decide ((a0.Tasks.length : Int) ≥ (8 : Int))) (some (a0, (3 : Int))) (ck (decide ((([] : List Sec).length + a1.Secs.length) * 24 ≤ 140737488355328)) (ck (decide ((([] : List Task).length + a0.Tasks.length) * 48 ≤ 140737488355328)) (ck (decide (((([] : List Task) ++ a0.Tasks).length + ([⟨a1.C, a1.D, a1.T, ([] : List Sec) ++ a1.Secs⟩] : List Task).length) * 48 ≤ 140737488355328)) (ck (decide ((([] : List Bool).length + a0.Leaves.length) * 1 ≤ 140737488355328)) (ck (decide (((([] : List Bool) ++ a0.Leaves).length + ([false] : List Bool).length) * 1 ≤ 140737488355328)) (ck (decide ((([] : List Int).length + a0.Lasts.length) * 8 ≤ 140737488355328)) (ck (decide (((([] : List Int) ++ a0.Lasts).length + ([(-1 : Int)] : List Int).length) * 8 ≤ 140737488355328)) (some (⟨(([] : List Task) ++ a0.Tasks) ++ ([⟨a1.C, a1.D, a1.T, ([] : List Sec) ++ a1.Secs⟩] : List Task), (([] : List Bool) ++ a0.Leaves) ++ ([false] : List Bool), (([] : List Int) ++ a0.Lasts) ++ ([(-1 : Int)] : List Int), a0.Jobs, a0.Log⟩, (0 : Int)))))))))))) (fun k1 => bnd (part_Right a0) fun x2 => fk (!x2) (k1 true) (bnd (task_Right a1) fun x3 => k1 (!x3)))
theorem part_Add_w (a0 : PartState) (a1 : Task) (r : PartState × Int) (h : part_Add a0 a1 = some r) : Go.VC.Spec Tryz.prog 106 [.agg (PartState.enc a0), .agg (Task.enc a1)] (fun y => y = E_PartState_Int r) := by
  refine Go.VC.Spec.of_xc (args := [.agg (PartState.enc a0), .agg (Task.enc a1)]) (fn := Tryz.f106) tab ⟨[(0, [2, 3, 4]), (1, [2, 3, 4, 6]), (2, [4, 5]), (3, [2, 3, 4, 16]), (4, [4, 5]), (5, [2, 3, 4]), (6, [2, 4]), (7, [2, 4]), (8, [2, 4]), (9, [4, 5])], [], [100006], [(26, [26])]⟩ 50 [.cell 4 102, .tmp 5] rfl rfl rfl rfl rfl rfl ?_
  conv => whnf
  refine jnS (fun w1 => ⟨[(2, .l (.ptr 3 0)), (3, .l (.ptr 4 0)), (4, .l (.ptr 5 0)), (6, .l (.d (.bool w1)))], 50, [], [(3, [.d (.sl (a0.Tasks.map Task.enc)), .d (.sl (a0.Leaves.map eB)), .d (.sl (a0.Lasts.map (eI .i64))), .d (.sl (a0.Jobs.map Job.enc)), .d (.sl (a0.Log.map Entry.enc))]), (4, [.d (.int .i64 a1.C), .d (.int .i64 a1.D), .d (.int .i64 a1.T), .d (.sl (a1.Secs.map Sec.enc))]), (5, [.nil, .nil, .nil, .nil, .nil])], []⟩) h (fun k1 hk1 h => ?_) (fun w1 h => ?_)
  · conv => whnf
    refine caS (E := E_Bool) h (part_Right_w a0) rfl (fun _ => rfl) (fun x2 h => ?_)
    conv => whnf
    refine fkS h (fun h => ?_) (fun h => ?_)
    · conv => whnf
      exact jeS hk1 h (Weak.refl _)
    conv => whnf
    refine caS (E := E_Bool) h (task_Right_w a1) rfl (fun _ => rfl) (fun x3 h => ?_)
    conv => whnf
    exact jeS hk1 h (Weak.refl _)
  conv => whnf
  refine fkS h (fun h => ?_) (fun h => ?_)
  · conv => whnf
    exact rt (E := E_PartState_Int) h rfl
  conv => whnf
  refine lenS a0.Tasks Task.enc rfl ?_
  conv => whnf
  refine fkS h (fun h => ?_) (fun h => ?_)
  · conv => whnf
    exact rt (E := E_PartState_Int) h rfl
  conv => whnf
  refine liS ([] : List Sec) Sec.enc rfl rfl ?_
  conv => whnf
  refine apS (enc := Sec.enc) (l1 := ([] : List Sec)) (l2 := a1.Secs) h rfl rfl (fun _ => rfl) (fun h => ?_)
  conv => whnf
  refine ⟨6, ?_⟩
  conv => whnf
  refine liS ([] : List Task) Task.enc rfl rfl ?_
  conv => whnf
  refine apS (enc := Task.enc) (l1 := ([] : List Task)) (l2 := a0.Tasks) h rfl rfl (fun _ => rfl) (fun h => ?_)
  conv => whnf
  refine liS ([⟨a1.C, a1.D, a1.T, ([] : List Sec) ++ a1.Secs⟩] : List Task) Task.enc rfl rfl ?_
  conv => whnf
  refine drS (by kernel_rfl) ?_
  conv => whnf
  refine apS (enc := Task.enc) (l1 := ([] : List Task) ++ a0.Tasks) (l2 := ([⟨a1.C, a1.D, a1.T, ([] : List Sec) ++ a1.Secs⟩] : List Task)) h rfl rfl (fun _ => rfl) (fun h => ?_)
  conv => whnf
  refine liS ([] : List Bool) eB rfl rfl ?_
  conv => whnf
  refine apS (enc := eB) (l1 := ([] : List Bool)) (l2 := a0.Leaves) h rfl rfl (fun _ => rfl) (fun h => ?_)
  conv => whnf
  refine liS ([false] : List Bool) eB rfl rfl ?_
  conv => whnf
  refine apS (enc := eB) (l1 := ([] : List Bool) ++ a0.Leaves) (l2 := ([false] : List Bool)) h rfl rfl (fun _ => rfl) (fun h => ?_)
  conv => whnf
  refine liS ([] : List Int) (eI .i64) rfl rfl ?_
  conv => whnf
  refine apS (enc := (eI .i64)) (l1 := ([] : List Int)) (l2 := a0.Lasts) h rfl rfl (fun _ => rfl) (fun h => ?_)
  conv => whnf
  refine liS ([(-1 : Int)] : List Int) (eI .i64) rfl rfl ?_
  conv => whnf
  refine apS (enc := (eI .i64)) (l1 := ([] : List Int) ++ a0.Lasts) (l2 := ([(-1 : Int)] : List Int)) h rfl rfl (fun _ => rfl) (fun h => ?_)
  conv => whnf
  exact rt (E := E_PartState_Int) h rfl

end Go.Proofs.YtpephpefjddgcaaGreat
namespace Go.Proofs.YtpephpefjddgcaaGreat
open Go Go.VC
noncomputable def part_New (a0 : List Task) : Option (PartState × Int) :=
  bnd (task_All a0) fun x1 => fk (!x1) (some (⟨[], [], [], [], []⟩, (1 : Int))) (lp (fun nx2 (v2 : (List Task) × (List Bool) × (List Int) × (List Job) × (List Entry) × Int) => fk (decide (v2.2.2.2.2.2 < (a0.length : Int))) (ix a0 v2.2.2.2.2.2 fun x3 => bnd (part_Add ⟨v2.1, v2.2.1, v2.2.2.1, v2.2.2.2.1, v2.2.2.2.2.1⟩ x3) fun x4 => nx2 (x4.1.Tasks, x4.1.Leaves, x4.1.Lasts, x4.1.Jobs, x4.1.Log, (wr (v2.2.2.2.2.2 + (1 : Int))))) (some (⟨v2.1, v2.2.1, v2.2.2.1, v2.2.2.2.1, v2.2.2.2.2.1⟩, (0 : Int)))) FU ([], [], [], [], [], (0 : Int)))
theorem part_New_w (a0 : List Task) (r : PartState × Int) (h : part_New a0 = some r) : Go.VC.Spec Tryz.prog 71 [.d (.sl (a0.map Task.enc))] (fun y => y = E_PartState_Int r) := by
  refine Go.VC.Spec.of_xc (args := [.d (.sl (a0.map Task.enc))]) (fn := Tryz.f71) tab ⟨[(0, [0, 2]), (1, [0, 2, 9]), (2, [2, 3]), (3, [0, 2, 4]), (4, [2, 4, 12, 13, 14]), (5, [2, 4, 12, 13, 14, 15]), (6, [2, 4, 6, 12, 13, 14]), (7, [2, 4, 12, 13, 14]), (8, [2, 4, 12, 13, 14]), (9, [2, 3])], [], [], []⟩ 26 [.cell 2 102, .tmp 3] rfl rfl rfl rfl rfl rfl ?_
  conv => whnf
  refine caS (E := E_Bool) h (task_All_w a0) rfl (fun _ => rfl) (fun x1 h => ?_)
  conv => whnf
  refine fkS h (fun h => ?_) (fun h => ?_)
  · conv => whnf
    exact rt (E := E_PartState_Int) h rfl
  conv => whnf
  refine lenS a0 Task.enc rfl ?_
  conv => whnf
  refine lpX (fun v2 => ⟨[(2, .l (.ptr 3 0)), (4, .l (.ptr 5 0)), (12, .l (.d (.sl (a0.map Task.enc)))), (13, .l (.d (.int .i64 (a0.length : Int)))), (14, .l (.d (.int .i64 v2.2.2.2.2.2)))], 26, [], [(3, [.nil, .nil, .nil, .nil, .nil]), (5, [.d (.sl (v2.1.map Task.enc)), .d (.sl (v2.2.1.map eB)), .d (.sl (v2.2.2.1.map (eI .i64))), .d (.sl (v2.2.2.2.1.map Job.enc)), .d (.sl (v2.2.2.2.2.1.map Entry.enc))])], []⟩) h ?_ (fun _ nx2 hn2 v2 h => ?_)
  · conv => whnf
    refine WkF.step (Weak.nilBD _ 5 0 _ rfl rfl) ?_
    conv => whnf
    refine WkF.step (Weak.nilBD _ 5 1 _ rfl rfl) ?_
    conv => whnf
    refine WkF.step (Weak.nilBD _ 5 2 _ rfl rfl) ?_
    conv => whnf
    refine WkF.step (Weak.nilBD _ 5 3 _ rfl rfl) ?_
    conv => whnf
    refine WkF.step (Weak.nilBD _ 5 4 _ rfl rfl) ?_
    conv => whnf
    exact WkF.refl _
  conv => whnf
  refine fkS h (fun h => ?_) (fun h => ?_)
  · conv => whnf
    refine ixS (enc := Task.enc) h rfl (fun _ => rfl) (fun x3 h => ?_)
    conv => whnf
    refine ccS (E := E_PartState_Int) h (part_Add_w ⟨v2.1, v2.2.1, v2.2.2.1, v2.2.2.2.1, v2.2.2.2.2.1⟩ x3) rfl rfl (fun x4 h => ?_)
    conv => whnf
    exact leS hn2 h (Weak.refl _)
  conv => whnf
  exact rt (E := E_PartState_Int) h rfl

end Go.Proofs.YtpephpefjddgcaaGreat
namespace Go.Proofs.YtpephpefjddgcaaGreat
open Go Go.VC
noncomputable def admit_Boot (a0 : Part) : Option (PartState × Int) :=
  jn (fun (w1 : Int) => fk (!decide (w1 = (0 : Int))) (some (⟨[], [], [], [], []⟩, w1)) (bnd (part_New a0.Tasks) fun x10 => some (x10.1, x10.2))) (fun k1 => bnd (supply_Right a0.Face) fun x2 => fk x2 (bnd (task_All a0.Tasks) fun x3 => bnd (admit_unless x3 (1 : Int)) fun x4 => bnd (admit_fit a0.Tasks a0.Face) fun x5 => bnd (admit_first x4.1 x4.2 x5.1 x5.2.1 x5.2.2) fun x6 => k1 x6) (bnd (admit_unless false (1 : Int)) fun x7 => bnd (admit_fit a0.Tasks a0.Face) fun x8 => bnd (admit_first x7.1 x7.2 x8.1 x8.2.1 x8.2.2) fun x9 => k1 x9))
theorem admit_Boot_w (a0 : Part) (r : PartState × Int) (h : admit_Boot a0 = some r) : Go.VC.Spec Tryz.prog 50 [.agg (Part.enc a0)] (fun y => y = E_PartState_Int r) := by
  refine Go.VC.Spec.of_xc (args := [.agg (Part.enc a0)]) (fn := Tryz.f50) tab ⟨[(0, [1, 2]), (1, [1, 2, 4]), (2, [1, 2, 4, 22]), (3, [2, 3]), (4, [2, 3])], [], [2], []⟩ 30 [.cell 2 102, .tmp 3] rfl rfl rfl rfl rfl rfl ?_
  conv => whnf
  refine jnS (fun w1 => ⟨[(1, .l (.ptr 2 0)), (2, .l (.ptr 3 0)), (4, .l (.d (.int .i64 w1)))], 30, [], [(2, [.d (.int .i64 a0.Face.P), .d (.int .i64 a0.Face.B), .d (.sl (a0.Tasks.map Task.enc))]), (3, [.nil, .nil, .nil, .nil, .nil])], []⟩) h (fun k1 hk1 h => ?_) (fun w1 h => ?_)
  · conv => whnf
    refine ⟨13, ?_⟩
    conv => whnf
    refine daS (E := E_Bool) h (supply_Right_w a0.Face) (fun _ => rfl) (fun x2 h => ?_)
    conv => whnf
    refine fkS h (fun h => ?_) (fun h => ?_)
    · conv => whnf
      refine daS (E := E_Bool) h (task_All_w a0.Tasks) (fun _ => rfl) (fun x3 h => ?_)
      conv => whnf
      refine dcS (E := E_fn_admit_unless) h (admit_unless_w x3 (1 : Int)) rfl (fun x4 h => ?_)
      conv => whnf
      refine drS (by kernel_rfl) ?_
      conv => whnf
      refine ccS (E := E_fn_admit_fit) h (admit_fit_w a0.Tasks a0.Face) rfl rfl (fun x5 h => ?_)
      conv => whnf
      refine liR rfl ?_
      conv => whnf
      refine caS (E := E_Int) h (admit_first_w x4.1 x4.2 x5.1 x5.2.1 x5.2.2) rfl (fun _ => rfl) (fun x6 h => ?_)
      conv => whnf
      exact jeS hk1 h (Weak.refl _)
    conv => whnf
    refine dcS (E := E_fn_admit_unless) h (admit_unless_w false (1 : Int)) rfl (fun x7 h => ?_)
    conv => whnf
    refine drS (by kernel_rfl) ?_
    conv => whnf
    refine ccS (E := E_fn_admit_fit) h (admit_fit_w a0.Tasks a0.Face) rfl rfl (fun x8 h => ?_)
    conv => whnf
    refine liR rfl ?_
    conv => whnf
    refine caS (E := E_Int) h (admit_first_w x7.1 x7.2 x8.1 x8.2.1 x8.2.2) rfl (fun _ => rfl) (fun x9 h => ?_)
    conv => whnf
    exact jeS hk1 h (Weak.refl _)
  conv => whnf
  refine fkS h (fun h => ?_) (fun h => ?_)
  · conv => whnf
    exact rt (E := E_PartState_Int) h rfl
  conv => whnf
  refine ccS (E := E_PartState_Int) h (part_New_w a0.Tasks) rfl rfl (fun x10 h => ?_)
  conv => whnf
  exact rt (E := E_PartState_Int) h rfl

end Go.Proofs.YtpephpefjddgcaaGreat
namespace Go.Proofs.YtpephpefjddgcaaGreat
open Go Go.VC
noncomputable def kernel_Boot (a0 : Config) : Option (KernelState × Int) :=
  bnd (image_Right a0) fun x1 => fk (!x1) (some (⟨⟨(0 : Int), []⟩, [], [], [], (0 : Int)⟩, (1 : Int))) (lp (fun nx2 (v2 : (List Face) × Int) => fk (decide (v2.2 < (a0.Parts.length : Int))) (ix a0.Parts v2.2 fun x3 => ck (decide ((v2.1.length + ([x3.Face] : List Face).length) * 16 ≤ 140737488355328)) (nx2 (v2.1 ++ ([x3.Face] : List Face), (wr (v2.2 + (1 : Int)))))) (bnd (table_Make v2.1) fun x4 => fk (!decide (x4.2 = (0 : Int))) (some (⟨⟨(0 : Int), []⟩, [], [], [], (0 : Int)⟩, x4.2)) (lp (fun nx5 (v5 : (List PartState) × Int) => fk (decide (v5.2 < (a0.Parts.length : Int))) (ix a0.Parts v5.2 fun x6 => bnd (admit_Boot x6) fun x7 => fk (!decide (x7.2 = (0 : Int))) (some (⟨⟨(0 : Int), []⟩, [], [], [], (0 : Int)⟩, x7.2)) (ck (decide ((v5.1.length + ([x7.1] : List PartState).length) * 120 ≤ 140737488355328)) (nx5 (v5.1 ++ ([x7.1] : List PartState), (wr (v5.2 + (1 : Int))))))) (bnd (port_Open a0.Ports) fun x8 => some (⟨x4.1, v2.1, v5.1, x8.1, (0 : Int)⟩, (0 : Int)))) FU ([], (0 : Int))))) FU ([], (0 : Int)))
theorem kernel_Boot_w (a0 : Config) (r : KernelState × Int) (h : kernel_Boot a0 = some r) : Go.VC.Spec Tryz.prog 31 [.agg (Config.enc a0)] (fun y => y = E_KernelState_Int r) := by
  refine Go.VC.Spec.of_xc (args := [.agg (Config.enc a0)]) (fn := Tryz.f31) tab ⟨[(0, [1, 2]), (1, [1, 2, 14]), (2, [2, 3]), (3, [1, 2, 4]), (4, [1, 2, 4]), (5, [1, 2, 4, 17, 18, 19]), (6, [1, 2, 4, 17, 18, 19, 20]), (7, [1, 2, 4, 7, 17, 18, 19]), (8, [1, 2, 4, 17, 18, 19]), (9, [1, 2, 4, 17, 18, 19]), (10, [1, 2, 4, 5]), (11, [1, 2, 4, 5, 39]), (12, [2, 3]), (13, [1, 2, 4, 43, 44, 45]), (14, [1, 2, 4, 43, 44, 45, 46]), (15, [1, 2, 4, 9, 43, 44, 45]), (16, [1, 2, 4, 10, 11, 43, 44, 45]), (17, [1, 2, 4, 10, 11, 43, 44, 45, 55]), (18, [2, 3]), (19, [1, 2, 4, 43, 44, 45]), (20, [1, 2, 4, 43, 44, 45]), (21, [2, 4]), (22, [2, 3])], [], [], []⟩ 73 [.cell 2 90, .tmp 3] rfl rfl rfl rfl rfl rfl ?_
  conv => whnf
  refine caS (E := E_Bool) h (image_Right_w a0) rfl (fun _ => rfl) (fun x1 h => ?_)
  conv => whnf
  refine fkS h (fun h => ?_) (fun h => ?_)
  · conv => whnf
    exact rt (E := E_KernelState_Int) h rfl
  conv => whnf
  refine lenS a0.Parts Part.enc rfl ?_
  conv => whnf
  refine lpS (fun v2 => ⟨[(1, .l (.ptr 2 0)), (2, .l (.ptr 3 0)), (4, .l (.ptr 5 0)), (17, .l (.d (.sl (a0.Parts.map Part.enc)))), (18, .l (.d (.int .i64 (a0.Parts.length : Int)))), (19, .l (.d (.int .i64 v2.2)))], 73, [], [(2, [.d (.sl (a0.Parts.map Part.enc)), .d (.sl (a0.Ports.map Port.enc))]), (3, [.d (.int .i64 (0 : Int)), .nil, .nil, .nil, .nil, .d (.int .i64 (0 : Int))]), (5, [.d (.int .i64 (0 : Int)), .nil, .own 50502, .nil, .nil, .d (.int .i64 (0 : Int))])], [(50502, 24, 2, v2.1.map Face.enc)]⟩) h (Weak.trans (Weak.nilBO _ 5 2 50502 24 2 _ rfl rfl) (Weak.refl _)) (fun _ nx2 hn2 v2 h => ?_)
  conv => whnf
  refine fkS h (fun h => ?_) (fun h => ?_)
  · conv => whnf
    refine ixS (enc := Part.enc) h rfl (fun _ => rfl) (fun x3 h => ?_)
    conv => whnf
    refine liS ([x3.Face] : List Face) Face.enc rfl rfl ?_
    conv => whnf
    refine apS (enc := Face.enc) (l1 := v2.1) (l2 := ([x3.Face] : List Face)) h rfl rfl (fun _ => rfl) (fun h => ?_)
    conv => whnf
    refine leX hn2 h ?_
    conv => whnf
    refine WkF.step (Weak.rekey _ 29 50502 rfl) ?_
    conv => whnf
    exact WkF.refl _
  conv => whnf
  refine iceS 50502 ?_
  conv => whnf
  refine ccS (E := E_TableTable_Int) h (table_Make_w v2.1) rfl rfl (fun x4 h => ?_)
  conv => whnf
  refine fkS h (fun h => ?_) (fun h => ?_)
  · conv => whnf
    exact rt (E := E_KernelState_Int) h rfl
  conv => whnf
  refine lenS a0.Parts Part.enc rfl ?_
  conv => whnf
  refine lpS (fun v5 => ⟨[(1, .l (.ptr 2 0)), (2, .l (.ptr 3 0)), (4, .l (.ptr 5 0)), (43, .l (.d (.sl (a0.Parts.map Part.enc)))), (44, .l (.d (.int .i64 (a0.Parts.length : Int)))), (45, .l (.d (.int .i64 v5.2)))], 73, [], [(2, [.d (.sl (a0.Parts.map Part.enc)), .d (.sl (a0.Ports.map Port.enc))]), (3, [.d (.int .i64 (0 : Int)), .nil, .nil, .nil, .nil, .d (.int .i64 (0 : Int))]), (5, [.d (.int .i64 x4.1.Frame), .d (.sl (x4.1.Windows.map Window.enc)), .d (.sl (v2.1.map Face.enc)), .own 50503, .nil, .d (.int .i64 (0 : Int))])], [(50503, 102, 5, v5.1.map PartState.enc)]⟩) h (Weak.trans (Weak.nilBO _ 5 3 50503 102 5 _ rfl rfl) (Weak.refl _)) (fun _ nx5 hn5 v5 h => ?_)
  conv => whnf
  refine fkS h (fun h => ?_) (fun h => ?_)
  · conv => whnf
    refine ixS (enc := Part.enc) h rfl (fun _ => rfl) (fun x6 h => ?_)
    conv => whnf
    refine ccS (E := E_PartState_Int) h (admit_Boot_w x6) rfl rfl (fun x7 h => ?_)
    conv => whnf
    refine fkS h (fun h => ?_) (fun h => ?_)
    · conv => whnf
      exact rt (E := E_KernelState_Int) h rfl
    conv => whnf
    refine liS ([x7.1] : List PartState) PartState.enc rfl rfl ?_
    conv => whnf
    refine apS (enc := PartState.enc) (l1 := v5.1) (l2 := ([x7.1] : List PartState)) h rfl rfl (fun _ => rfl) (fun h => ?_)
    conv => whnf
    refine leX hn5 h ?_
    conv => whnf
    refine WkF.step (Weak.rekey _ 63 50503 rfl) ?_
    conv => whnf
    exact WkF.refl _
  conv => whnf
  refine ccS (E := E_ListPortLine_Int) h (port_Open_w a0.Ports) rfl rfl (fun x8 h => ?_)
  conv => whnf
  exact rt (E := E_KernelState_Int) h rfl

end Go.Proofs.YtpephpefjddgcaaGreat
namespace Go.Proofs.YtpephpefjddgcaaGreat
open Go Go.VC
noncomputable def world_may (a0 : List (List KernelCmd)) : Option Bool :=
  lp (fun nx1 (v1 : Int) => fk (decide (v1 < (a0.length : Int))) (ix a0 v1 fun x2 => fk (decide ((x2.length : Int) > (100 : Int))) (some false) (nx1 (wr (v1 + (1 : Int))))) (some (decide ((a0.length : Int) ≤ (3000 : Int))))) FU (0 : Int)
theorem world_may_w (a0 : List (List KernelCmd)) (r : Bool) (h : world_may a0 = some r) : Go.VC.Spec Tryz.prog 32 [.d (.sl (a0.map (eL KernelCmd.enc)))] (fun y => y = E_Bool r) := by
  refine Go.VC.Spec.of_xc (args := [.d (.sl (a0.map (eL KernelCmd.enc)))]) (fn := Tryz.f32) tab ⟨[(0, [0]), (1, [0, 5, 6, 7]), (2, [0, 5, 6, 7, 8]), (3, [0, 4, 5, 6, 7]), (4, [0, 5, 6, 7, 13]), (5, [2]), (6, [0, 5, 6, 7]), (7, [2])], [], [], []⟩ 18 [.tmp 2] rfl rfl rfl rfl rfl rfl ?_
  conv => whnf
  refine lenS a0 (eL KernelCmd.enc) rfl ?_
  conv => whnf
  refine lpS (fun v1 => ⟨[(0, .l (.d (.sl (a0.map (eL KernelCmd.enc))))), (5, .l (.d (.sl (a0.map (eL KernelCmd.enc))))), (6, .l (.d (.int .i64 (a0.length : Int)))), (7, .l (.d (.int .i64 v1)))], 18, [], [], []⟩) h (Weak.refl _) (fun _ nx1 hn1 v1 h => ?_)
  conv => whnf
  refine fkS h (fun h => ?_) (fun h => ?_)
  · conv => whnf
    refine ixS (enc := (eL KernelCmd.enc)) h rfl (fun _ => rfl) (fun x2 h => ?_)
    conv => whnf
    refine lenS x2 KernelCmd.enc rfl ?_
    conv => whnf
    refine fkS h (fun h => ?_) (fun h => ?_)
    · conv => whnf
      exact rt (E := E_Bool) h rfl
    conv => whnf
    exact leS hn1 h (Weak.refl _)
  conv => whnf
  refine lenS a0 (eL KernelCmd.enc) rfl ?_
  conv => whnf
  exact rt (E := E_Bool) h rfl

end Go.Proofs.YtpephpefjddgcaaGreat
namespace Go.Proofs.YtpephpefjddgcaaGreat
open Go Go.VC
noncomputable def ring_Right (a0 : RingRing) : Option Bool :=
  fk (decide ((a0.Buf.length : Int) > (0 : Int))) (fk (decide (a0.First ≥ (0 : Int))) (fk (decide (a0.First < (a0.Buf.length : Int))) (fk (decide (a0.Many ≥ (0 : Int))) (some (decide (a0.Many ≤ (a0.Buf.length : Int)))) (some false)) (some false)) (some false)) (some false)
theorem ring_Right_w (a0 : RingRing) (r : Bool) (h : ring_Right a0 = some r) : Go.VC.Spec Tryz.prog 110 [.agg (RingRing.enc a0)] (fun y => y = E_Bool r) := by
  refine Go.VC.Spec.of_xc (args := [.agg (RingRing.enc a0)]) (fn := Tryz.f110) tab ⟨[(0, [1]), (1, [1, 3]), (2, [2])], [], [], []⟩ 31 [.tmp 2] rfl rfl rfl rfl rfl rfl ?_
  conv => whnf
  refine lenS a0.Buf (eI .i64) rfl ?_
  conv => whnf
  refine fkS h (fun h => ?_) (fun h => ?_)
  · conv => whnf
    refine fkS h (fun h => ?_) (fun h => ?_)
    · conv => whnf
      refine fkS h (fun h => ?_) (fun h => ?_)
      · conv => whnf
        refine fkS h (fun h => ?_) (fun h => ?_)
        · conv => whnf
          exact rt (E := E_Bool) h rfl
        conv => whnf
        exact rt (E := E_Bool) h rfl
      conv => whnf
      exact rt (E := E_Bool) h rfl
    conv => whnf
    exact rt (E := E_Bool) h rfl
  conv => whnf
  exact rt (E := E_Bool) h rfl

end Go.Proofs.YtpephpefjddgcaaGreat
namespace Go.Proofs.YtpephpefjddgcaaGreat
open Go Go.VC
noncomputable def port_Right (a0 : List PortLine) : Option Bool :=
  lp (fun nx1 (v1 : Int) => fk (decide (v1 < (a0.length : Int))) (ix a0 v1 fun x2 => jn (fun (w3 : Bool) => fk w3 (some false) (nx1 (wr (v1 + (1 : Int))))) (fun k3 => bnd (port_may x2.Port) fun x4 => fk (!x4) (k3 true) (bnd (ring_Right x2.Under) fun x5 => fk (!x5) (k3 true) (bnd (ring_Right x2.Got) fun x6 => fk (!x6) (k3 true) (fk (!decide ((x2.Under.Buf.length : Int) = x2.Port.Cap)) (k3 true) (k3 (!decide ((x2.Got.Buf.length : Int) = x2.Port.Cap)))))))) (some (decide ((a0.length : Int) ≤ (4 : Int))))) FU (0 : Int)
theorem port_Right_w (a0 : List PortLine) (r : Bool) (h : port_Right a0 = some r) : Go.VC.Spec Tryz.prog 75 [.d (.sl (a0.map PortLine.enc))] (fun y => y = E_Bool r) := by
  refine Go.VC.Spec.of_xc (args := [.d (.sl (a0.map PortLine.enc))]) (fn := Tryz.f75) tab ⟨[(0, [0]), (1, [0, 5, 6, 7]), (2, [0, 5, 6, 7, 8]), (3, [0, 4, 5, 6, 7]), (4, [0, 5, 6, 7, 46]), (5, [2]), (6, [0, 5, 6, 7]), (7, [2])], [], [100046], []⟩ 51 [.tmp 2] rfl rfl rfl rfl rfl rfl ?_
  conv => whnf
  refine lenS a0 PortLine.enc rfl ?_
  conv => whnf
  refine lpS (fun v1 => ⟨[(0, .l (.d (.sl (a0.map PortLine.enc)))), (5, .l (.d (.sl (a0.map PortLine.enc)))), (6, .l (.d (.int .i64 (a0.length : Int)))), (7, .l (.d (.int .i64 v1)))], 51, [], [], []⟩) h (Weak.refl _) (fun _ nx1 hn1 v1 h => ?_)
  conv => whnf
  refine fkS h (fun h => ?_) (fun h => ?_)
  · conv => whnf
    refine ixS (enc := PortLine.enc) h rfl (fun _ => rfl) (fun x2 h => ?_)
    conv => whnf
    refine jnS (fun w3 => ⟨[(0, .l (.d (.sl (a0.map PortLine.enc)))), (5, .l (.d (.sl (a0.map PortLine.enc)))), (6, .l (.d (.int .i64 (a0.length : Int)))), (7, .l (.d (.int .i64 v1))), (46, .l (.d (.bool w3)))], 51, [], [], []⟩) h (fun k3 hk3 h => ?_) (fun w3 h => ?_)
    · conv => whnf
      refine caS (E := E_Bool) h (port_may_w x2.Port) rfl (fun _ => rfl) (fun x4 h => ?_)
      conv => whnf
      refine fkS h (fun h => ?_) (fun h => ?_)
      · conv => whnf
        exact jeS hk3 h (Weak.refl _)
      conv => whnf
      refine caS (E := E_Bool) h (ring_Right_w x2.Under) rfl (fun _ => rfl) (fun x5 h => ?_)
      conv => whnf
      refine fkS h (fun h => ?_) (fun h => ?_)
      · conv => whnf
        exact jeS hk3 h (Weak.refl _)
      conv => whnf
      refine caS (E := E_Bool) h (ring_Right_w x2.Got) rfl (fun _ => rfl) (fun x6 h => ?_)
      conv => whnf
      refine fkS h (fun h => ?_) (fun h => ?_)
      · conv => whnf
        exact jeS hk3 h (Weak.refl _)
      conv => whnf
      refine lenS x2.Under.Buf (eI .i64) rfl ?_
      conv => whnf
      refine fkS h (fun h => ?_) (fun h => ?_)
      · conv => whnf
        exact jeS hk3 h (Weak.refl _)
      conv => whnf
      refine lenS x2.Got.Buf (eI .i64) rfl ?_
      conv => whnf
      exact jeS hk3 h (Weak.refl _)
    conv => whnf
    refine fkS h (fun h => ?_) (fun h => ?_)
    · conv => whnf
      exact rt (E := E_Bool) h rfl
    conv => whnf
    exact leS hn1 h (Weak.refl _)
  conv => whnf
  refine lenS a0 PortLine.enc rfl ?_
  conv => whnf
  exact rt (E := E_Bool) h rfl

end Go.Proofs.YtpephpefjddgcaaGreat
namespace Go.Proofs.YtpephpefjddgcaaGreat
open Go Go.VC
noncomputable def kernel_Right (a0 : KernelState) : Option Bool :=
  lp (fun nx1 (v1 : Int) => fk (decide (v1 < (a0.Parts.length : Int))) (ix a0.Parts v1 fun x2 => bnd (part_Right x2) fun x3 => fk (!x3) (some false) (nx1 (wr (v1 + (1 : Int))))) (bnd (table_Right a0.Table) fun x4 => fk x4 (fk (decide ((a0.Faces.length : Int) = (a0.Parts.length : Int))) (fk (decide ((a0.Parts.length : Int) ≤ (4 : Int))) (bnd (port_Right a0.Lines) fun x5 => fk x5 (fk (decide (a0.Now ≥ (0 : Int))) (some (decide (a0.Now ≤ (4611686018427387703 : Int)))) (some false)) (some false)) (some false)) (some false)) (some false))) FU (0 : Int)
theorem kernel_Right_w (a0 : KernelState) (r : Bool) (h : kernel_Right a0 = some r) : Go.VC.Spec Tryz.prog 52 [.agg (KernelState.enc a0)] (fun y => y = E_Bool r) := by
  refine Go.VC.Spec.of_xc (args := [.agg (KernelState.enc a0)]) (fn := Tryz.f52) tab ⟨[(0, [1]), (1, [1, 6, 7, 8]), (2, [1, 6, 7, 8, 9]), (3, [1, 4, 6, 7, 8]), (4, [1, 6, 7, 8, 14]), (5, [2]), (6, [1, 6, 7, 8]), (7, [2])], [], [], []⟩ 49 [.tmp 2] rfl rfl rfl rfl rfl rfl ?_
  conv => whnf
  refine lenS a0.Parts PartState.enc rfl ?_
  conv => whnf
  refine lpS (fun v1 => ⟨[(1, .l (.ptr 2 0)), (6, .l (.d (.sl (a0.Parts.map PartState.enc)))), (7, .l (.d (.int .i64 (a0.Parts.length : Int)))), (8, .l (.d (.int .i64 v1)))], 49, [], [(2, [.d (.int .i64 a0.Table.Frame), .d (.sl (a0.Table.Windows.map Window.enc)), .d (.sl (a0.Faces.map Face.enc)), .d (.sl (a0.Parts.map PartState.enc)), .d (.sl (a0.Lines.map PortLine.enc)), .d (.int .i64 a0.Now)])], []⟩) h (Weak.refl _) (fun _ nx1 hn1 v1 h => ?_)
  conv => whnf
  refine fkS h (fun h => ?_) (fun h => ?_)
  · conv => whnf
    refine ixS (enc := PartState.enc) h rfl (fun _ => rfl) (fun x2 h => ?_)
    conv => whnf
    refine caS (E := E_Bool) h (part_Right_w x2) rfl (fun _ => rfl) (fun x3 h => ?_)
    conv => whnf
    refine fkS h (fun h => ?_) (fun h => ?_)
    · conv => whnf
      exact rt (E := E_Bool) h rfl
    conv => whnf
    exact leS hn1 h (Weak.refl _)
  conv => whnf
  refine caS (E := E_Bool) h (table_Right_w a0.Table) rfl (fun _ => rfl) (fun x4 h => ?_)
  conv => whnf
  refine fkS h (fun h => ?_) (fun h => ?_)
  · conv => whnf
    refine lenS a0.Faces Face.enc rfl ?_
    conv => whnf
    refine lenS a0.Parts PartState.enc rfl ?_
    conv => whnf
    refine fkS h (fun h => ?_) (fun h => ?_)
    · conv => whnf
      refine lenS a0.Parts PartState.enc rfl ?_
      conv => whnf
      refine fkS h (fun h => ?_) (fun h => ?_)
      · conv => whnf
        refine caS (E := E_Bool) h (port_Right_w a0.Lines) rfl (fun _ => rfl) (fun x5 h => ?_)
        conv => whnf
        refine fkS h (fun h => ?_) (fun h => ?_)
        · conv => whnf
          refine fkS h (fun h => ?_) (fun h => ?_)
          · conv => whnf
            exact rt (E := E_Bool) h rfl
          conv => whnf
          exact rt (E := E_Bool) h rfl
        conv => whnf
        exact rt (E := E_Bool) h rfl
      conv => whnf
      exact rt (E := E_Bool) h rfl
    conv => whnf
    exact rt (E := E_Bool) h rfl
  conv => whnf
  exact rt (E := E_Bool) h rfl

end Go.Proofs.YtpephpefjddgcaaGreat
namespace Go.Proofs.YtpephpefjddgcaaGreat
open Go Go.VC
def E_fn_kernel_on : Unit → List CV := fun r => [.d (.fn 111 [[.fn 77 []]])]
noncomputable def kernel_on  : Option Unit :=
  some ()
theorem kernel_on_w  (r : Unit) (h : kernel_on = some r) : Go.VC.Spec Tryz.prog 76 [.d (.fn 77 [])] (fun y => y = E_fn_kernel_on r) := by
  refine Go.VC.Spec.of_xc (args := [.d (.fn 77 [])]) (fn := Tryz.f76) tab ⟨[(0, [1]), (1, [2])], [], [], []⟩ 4 [.tmp 2] rfl rfl rfl rfl rfl rfl ?_
  conv => whnf
  exact rt (E := E_fn_kernel_on) h rfl

end Go.Proofs.YtpephpefjddgcaaGreat
namespace Go.Proofs.YtpephpefjddgcaaGreat
open Go Go.VC
def E_fn_kernel_on_i1 : Unit → List CV := fun r => [.d (.fn 111 [[.fn 79 []]])]
noncomputable def kernel_on_i1  : Option Unit :=
  some ()
theorem kernel_on_i1_w  (r : Unit) (h : kernel_on_i1 = some r) : Go.VC.Spec Tryz.prog 76 [.d (.fn 79 [])] (fun y => y = E_fn_kernel_on_i1 r) := by
  refine Go.VC.Spec.of_xc (args := [.d (.fn 79 [])]) (fn := Tryz.f76) tab ⟨[(0, [1]), (1, [2])], [], [], []⟩ 4 [.tmp 2] rfl rfl rfl rfl rfl rfl ?_
  conv => whnf
  exact rt (E := E_fn_kernel_on_i1) h rfl

end Go.Proofs.YtpephpefjddgcaaGreat
namespace Go.Proofs.YtpephpefjddgcaaGreat
open Go Go.VC
def E_fn_kernel_on_2 : Unit → List CV := fun r => [.d (.fn 111 [[.fn 81 []]])]
noncomputable def kernel_on_2  : Option Unit :=
  some ()
theorem kernel_on_2_w  (r : Unit) (h : kernel_on_2 = some r) : Go.VC.Spec Tryz.prog 76 [.d (.fn 81 [])] (fun y => y = E_fn_kernel_on_2 r) := by
  refine Go.VC.Spec.of_xc (args := [.d (.fn 81 [])]) (fn := Tryz.f76) tab ⟨[(0, [1]), (1, [2])], [], [], []⟩ 4 [.tmp 2] rfl rfl rfl rfl rfl rfl ?_
  conv => whnf
  exact rt (E := E_fn_kernel_on_2) h rfl

end Go.Proofs.YtpephpefjddgcaaGreat
namespace Go.Proofs.YtpephpefjddgcaaGreat
open Go Go.VC
def E_fn_kernel_on_3 : Unit → List CV := fun r => [.d (.fn 111 [[.fn 83 []]])]
noncomputable def kernel_on_3  : Option Unit :=
  some ()
theorem kernel_on_3_w  (r : Unit) (h : kernel_on_3 = some r) : Go.VC.Spec Tryz.prog 76 [.d (.fn 83 [])] (fun y => y = E_fn_kernel_on_3 r) := by
  refine Go.VC.Spec.of_xc (args := [.d (.fn 83 [])]) (fn := Tryz.f76) tab ⟨[(0, [1]), (1, [2])], [], [], []⟩ 4 [.tmp 2] rfl rfl rfl rfl rfl rfl ?_
  conv => whnf
  exact rt (E := E_fn_kernel_on_3) h rfl

end Go.Proofs.YtpephpefjddgcaaGreat
namespace Go.Proofs.YtpephpefjddgcaaGreat
open Go Go.VC
def E_fn_kernel_kinds : Unit → List CV := fun r => [.d (.mp [[.int .i64 (1 : Int), .fn 111 [[.fn 77 []]]], [.int .i64 (4 : Int), .fn 111 [[.fn 79 []]]], [.int .i64 (5 : Int), .fn 111 [[.fn 81 []]]], [.int .i64 (6 : Int), .fn 111 [[.fn 83 []]]], [.int .i64 (2 : Int), .fn 85 []], [.int .i64 (3 : Int), .fn 87 []]])]
noncomputable def kernel_kinds : Option Unit := some ()
theorem kernel_kinds_w (r : Unit) (h : kernel_kinds = some r) : Go.VC.Spec Tryz.prog 53 [] (fun y => y = E_fn_kernel_kinds r) := by
  refine Spec.of_wpF (args := []) (fn := Tryz.f53) rfl rfl rfl rfl ?_
  refine WpF.seq tab ⟨[(0, []), (1, [0])], [], [], []⟩ (rs := [.tmp 0]) rfl ?_
  conv => whnf
  refine WpF.reg (AWp.map rfl rfl rfl rfl rfl ?_)
  conv => whnf
  refine mp_call (r := .fn 111 [[.fn 77 []]]) rfl rfl rfl rfl rfl (kernel_on_w _ rfl) ?_
  conv => whnf
  refine mp_ins rfl rfl rfl rfl Tryz.underlying133 Tryz.underlying3 rfl ?_
  conv => whnf
  refine mp_call (r := .fn 111 [[.fn 79 []]]) rfl rfl rfl rfl rfl (kernel_on_i1_w _ rfl) ?_
  conv => whnf
  refine mp_ins rfl rfl rfl rfl Tryz.underlying133 Tryz.underlying3 rfl ?_
  conv => whnf
  refine mp_call (r := .fn 111 [[.fn 81 []]]) rfl rfl rfl rfl rfl (kernel_on_2_w _ rfl) ?_
  conv => whnf
  refine mp_ins rfl rfl rfl rfl Tryz.underlying133 Tryz.underlying3 rfl ?_
  conv => whnf
  refine mp_call (r := .fn 111 [[.fn 83 []]]) rfl rfl rfl rfl rfl (kernel_on_3_w _ rfl) ?_
  conv => whnf
  refine mp_ins rfl rfl rfl rfl Tryz.underlying133 Tryz.underlying3 rfl ?_
  conv => whnf
  refine mp_ins rfl rfl rfl rfl Tryz.underlying133 Tryz.underlying3 rfl ?_
  conv => whnf
  refine mp_ins rfl rfl rfl rfl Tryz.underlying133 Tryz.underlying3 rfl ?_
  conv => whnf
  refine mp_end tab rfl ?_
  conv => whnf
  exact WpF.ret tab (rs := [.tmp 0]) rfl (RetOk.mk ⟨_, rfl, rfl⟩)

end Go.Proofs.YtpephpefjddgcaaGreat
namespace Go.Proofs.YtpephpefjddgcaaGreat
open Go Go.VC
noncomputable def part_when (a0 : Int) : Option Bool :=
  fk (decide (a0 ≥ (0 : Int))) (some (decide (a0 ≤ (4611686018427387703 : Int)))) (some false)
theorem part_when_w (a0 : Int) (r : Bool) (h : part_when a0 = some r) : Go.VC.Spec Tryz.prog 92 [.d (.int .i64 a0)] (fun y => y = E_Bool r) := by
  refine Go.VC.Spec.of_xc (args := [.d (.int .i64 a0)]) (fn := Tryz.f92) tab ⟨[(0, [0]), (1, [2])], [], [], []⟩ 9 [.tmp 2] rfl rfl rfl rfl rfl rfl ?_
  conv => whnf
  refine fkS h (fun h => ?_) (fun h => ?_)
  · conv => whnf
    exact rt (E := E_Bool) h rfl
  conv => whnf
  exact rt (E := E_Bool) h rfl

end Go.Proofs.YtpephpefjddgcaaGreat
namespace Go.Proofs.YtpephpefjddgcaaGreat
open Go Go.VC
noncomputable def police_May (a0 : List Task) (a1 : List Int) (a2 : Int) (a3 : Int) : Option Int :=
  jn (fun (w1 : Bool) => fk w1 (some (1 : Int)) (jn (fun (w3 : Bool) => fk w3 (some (6 : Int)) (some (0 : Int))) (fun k3 => ix a1 a2 fun x4 => fk (!decide (x4 = (-1 : Int))) (ix a1 a2 fun x5 => ix a0 a2 fun x6 => k3 (decide (a3 < (wr (x5 + x6.T))))) (k3 false)))) (fun k1 => bnd (police_Right a0 a1) fun x2 => fk (!x2) (k1 true) (fk (decide (a2 < (0 : Int))) (k1 true) (fk (decide (a2 ≥ (a0.length : Int))) (k1 true) (fk (decide (a3 < (0 : Int))) (k1 true) (k1 (decide (a3 > (4611686018427387703 : Int))))))))
theorem police_May_w (a0 : List Task) (a1 : List Int) (a2 : Int) (a3 : Int) (r : Int) (h : police_May a0 a1 a2 a3 = some r) : Go.VC.Spec Tryz.prog 128 [.d (.sl (a0.map Task.enc)), .d (.sl (a1.map (eI .i64))), .d (.int .i64 a2), .d (.int .i64 a3)] (fun y => y = E_Int r) := by
  refine Go.VC.Spec.of_xc (args := [.d (.sl (a0.map Task.enc)), .d (.sl (a1.map (eI .i64))), .d (.int .i64 a2), .d (.int .i64 a3)]) (fn := Tryz.f128) tab ⟨[(0, [0, 1, 2, 3]), (1, [0, 1, 2, 3, 9]), (2, [8]), (3, [32]), (4, [8]), (5, [8])], [], [100032, 100009], []⟩ 52 [.tmp 8] rfl rfl rfl rfl rfl rfl ?_
  conv => whnf
  refine jnS (fun w1 => ⟨[(0, .l (.d (.sl (a0.map Task.enc)))), (1, .l (.d (.sl (a1.map (eI .i64))))), (2, .l (.d (.int .i64 a2))), (3, .l (.d (.int .i64 a3))), (9, .l (.d (.bool w1)))], 52, [], [], []⟩) h (fun k1 hk1 h => ?_) (fun w1 h => ?_)
  · conv => whnf
    refine caS (E := E_Bool) h (police_Right_w a0 a1) rfl (fun _ => rfl) (fun x2 h => ?_)
    conv => whnf
    refine fkS h (fun h => ?_) (fun h => ?_)
    · conv => whnf
      exact jeS hk1 h (Weak.refl _)
    conv => whnf
    refine fkS h (fun h => ?_) (fun h => ?_)
    · conv => whnf
      exact jeS hk1 h (Weak.refl _)
    conv => whnf
    refine lenS a0 Task.enc rfl ?_
    conv => whnf
    refine fkS h (fun h => ?_) (fun h => ?_)
    · conv => whnf
      exact jeS hk1 h (Weak.refl _)
    conv => whnf
    refine fkS h (fun h => ?_) (fun h => ?_)
    · conv => whnf
      exact jeS hk1 h (Weak.refl _)
    conv => whnf
    exact jeS hk1 h (Weak.refl _)
  conv => whnf
  refine fkS h (fun h => ?_) (fun h => ?_)
  · conv => whnf
    exact rt (E := E_Int) h rfl
  conv => whnf
  refine jnS (fun w3 => ⟨[(32, .l (.d (.bool w3)))], 52, [], [], []⟩) h (fun k3 hk3 h => ?_) (fun w3 h => ?_)
  · conv => whnf
    refine ⟨19, ?_⟩
    conv => whnf
    refine ixS (enc := (eI .i64)) h rfl (fun _ => rfl) (fun x4 h => ?_)
    conv => whnf
    refine fkS h (fun h => ?_) (fun h => ?_)
    · conv => whnf
      refine ixS (enc := (eI .i64)) h rfl (fun _ => rfl) (fun x5 h => ?_)
      conv => whnf
      refine ixS (enc := Task.enc) h rfl (fun _ => rfl) (fun x6 h => ?_)
      conv => whnf
      refine drS (by kernel_rfl) ?_
      conv => whnf
      exact jeS hk3 h (Weak.refl _)
    conv => whnf
    refine drS (by kernel_rfl) ?_
    conv => whnf
    exact jeS hk3 h (Weak.refl _)
  conv => whnf
  refine fkS h (fun h => ?_) (fun h => ?_)
  · conv => whnf
    exact rt (E := E_Int) h rfl
  conv => whnf
  exact rt (E := E_Int) h rfl

end Go.Proofs.YtpephpefjddgcaaGreat
namespace Go.Proofs.YtpephpefjddgcaaGreat
open Go Go.VC
noncomputable def police_Note (a0 : List Task) (a1 : List Int) (a2 : Int) (a3 : Int) : Option ((List Int) × Int) :=
  bnd (police_May a0 a1 a2 a3) fun x1 => fk (!decide (x1 = (0 : Int))) (some (a1, x1)) (ck (decide ((([] : List Int).length + a1.length) * 8 ≤ 140737488355328)) (ck (decide (0 ≤ a2) && decide (a2 < ((([] : List Int) ++ a1).length : Int))) (ox (([] : List Int) ++ a1) a2.toNat fun x2 => some ((([] : List Int) ++ a1).set a2.toNat a3, (0 : Int)))))
theorem police_Note_w (a0 : List Task) (a1 : List Int) (a2 : Int) (a3 : Int) (r : (List Int) × Int) (h : police_Note a0 a1 a2 a3 = some r) : Go.VC.Spec Tryz.prog 112 [.d (.sl (a0.map Task.enc)), .d (.sl (a1.map (eI .i64))), .d (.int .i64 a2), .d (.int .i64 a3)] (fun y => y = E_ListInt_Int r) := by
  refine Go.VC.Spec.of_xc (args := [.d (.sl (a0.map Task.enc)), .d (.sl (a1.map (eI .i64))), .d (.int .i64 a2), .d (.int .i64 a3)]) (fn := Tryz.f112) tab ⟨[(0, [0, 1, 2, 3]), (1, [1, 2, 3, 10]), (2, [1, 2, 3, 10, 18]), (3, [8, 9]), (4, [2, 3, 11]), (5, [11]), (6, [8, 9])], [], [], []⟩ 29 [.tmp 8, .tmp 9] rfl rfl rfl rfl rfl rfl ?_
  conv => whnf
  refine caS (E := E_Int) h (police_May_w a0 a1 a2 a3) rfl (fun _ => rfl) (fun x1 h => ?_)
  conv => whnf
  refine fkS h (fun h => ?_) (fun h => ?_)
  · conv => whnf
    exact rt (E := E_ListInt_Int) h rfl
  conv => whnf
  refine liS ([] : List Int) (eI .i64) rfl rfl ?_
  conv => whnf
  refine apS (enc := (eI .i64)) (l1 := ([] : List Int)) (l2 := a1) h rfl rfl (fun _ => rfl) (fun h => ?_)
  conv => whnf
  refine ioS (enc := (eI .i64)) h rfl (fun h => ?_)
  conv => whnf
  refine seS (enc := (eI .i64)) h rfl (fun x2 => a3) (fun _ => rfl) (fun x2 h => ?_)
  conv => whnf
  exact rt (E := E_ListInt_Int) h rfl

end Go.Proofs.YtpephpefjddgcaaGreat
namespace Go.Proofs.YtpephpefjddgcaaGreat
open Go Go.VC
noncomputable def part_Release (a0 : PartState) (a1 : Int) (a2 : Int) (a3 : Int) : Option (PartState × Int) :=
  jn (fun (w1 : Bool) => fk w1 (some (a0, (1 : Int))) (ix a0.Leaves a1 fun x4 => fk x4 (some (a0, (9 : Int))) (ck (decide ((([] : List Entry).length + a0.Log.length) * 24 ≤ 140737488355328)) (bnd (police_Note a0.Tasks a0.Lasts a1 a3) fun x5 => fk (!decide (x5.2 = (0 : Int))) (fk (decide (((([] : List Entry) ++ a0.Log).length : Int) < (2000 : Int))) (ck (decide (((([] : List Entry) ++ a0.Log).length + ([⟨a3, (2 : Int), a1⟩] : List Entry).length) * 24 ≤ 140737488355328)) (some (⟨a0.Tasks, a0.Leaves, a0.Lasts, a0.Jobs, (([] : List Entry) ++ a0.Log) ++ ([⟨a3, (2 : Int), a1⟩] : List Entry)⟩, x5.2))) (some (⟨a0.Tasks, a0.Leaves, a0.Lasts, a0.Jobs, ([] : List Entry) ++ a0.Log⟩, x5.2))) (fk (decide ((a0.Jobs.length : Int) ≥ (32 : Int))) (fk (decide (((([] : List Entry) ++ a0.Log).length : Int) < (2000 : Int))) (ck (decide (((([] : List Entry) ++ a0.Log).length + ([⟨a3, (3 : Int), a1⟩] : List Entry).length) * 24 ≤ 140737488355328)) (some (⟨a0.Tasks, a0.Leaves, a0.Lasts, a0.Jobs, (([] : List Entry) ++ a0.Log) ++ ([⟨a3, (3 : Int), a1⟩] : List Entry)⟩, (3 : Int)))) (some (⟨a0.Tasks, a0.Leaves, a0.Lasts, a0.Jobs, ([] : List Entry) ++ a0.Log⟩, (3 : Int)))) (ck (decide ((([] : List Job).length + a0.Jobs.length) * 48 ≤ 140737488355328)) (ix a0.Tasks a1 fun x6 => ck (decide (((([] : List Job) ++ a0.Jobs).length + ([⟨a1, a3, (wr (a3 + x6.D)), a2, (0 : Int), false⟩] : List Job).length) * 48 ≤ 140737488355328)) (fk (decide (((([] : List Entry) ++ a0.Log).length : Int) < (2000 : Int))) (ck (decide (((([] : List Entry) ++ a0.Log).length + ([⟨a3, (1 : Int), a1⟩] : List Entry).length) * 24 ≤ 140737488355328)) (some (⟨a0.Tasks, a0.Leaves, x5.1, (([] : List Job) ++ a0.Jobs) ++ ([⟨a1, a3, (wr (a3 + x6.D)), a2, (0 : Int), false⟩] : List Job), (([] : List Entry) ++ a0.Log) ++ ([⟨a3, (1 : Int), a1⟩] : List Entry)⟩, (0 : Int)))) (some (⟨a0.Tasks, a0.Leaves, x5.1, (([] : List Job) ++ a0.Jobs) ++ ([⟨a1, a3, (wr (a3 + x6.D)), a2, (0 : Int), false⟩] : List Job), ([] : List Entry) ++ a0.Log⟩, (0 : Int))))))))))) (fun k1 => bnd (part_Right a0) fun x2 => fk (!x2) (k1 true) (fk (decide (a1 < (0 : Int))) (k1 true) (fk (decide (a1 ≥ (a0.Tasks.length : Int))) (k1 true) (fk (decide (a2 < (1 : Int))) (k1 true) (fk (decide (a2 > (200 : Int))) (k1 true) (bnd (part_when a3) fun x3 => k1 (!x3)))))))
theorem part_Release_w (a0 : PartState) (a1 : Int) (a2 : Int) (a3 : Int) (r : PartState × Int) (h : part_Release a0 a1 a2 a3 = some r) : Go.VC.Spec Tryz.prog 78 [.agg (PartState.enc a0), .d (.int .i64 a1), .d (.int .i64 a2), .d (.int .i64 a3)] (fun y => y = E_PartState_Int r) := by
  refine Go.VC.Spec.of_xc (args := [.agg (PartState.enc a0), .d (.int .i64 a1), .d (.int .i64 a2), .d (.int .i64 a3)]) (fn := Tryz.f78) tab ⟨[(0, [1, 2, 3, 4, 8]), (1, [1, 2, 3, 4, 8, 13]), (2, [8, 9]), (3, [1, 2, 3, 4, 8, 42]), (4, [8, 9]), (5, [1, 2, 3, 4, 8, 10]), (6, [1, 2, 3, 4, 8, 10, 11, 12]), (7, [1, 2, 3, 4, 8, 10, 11, 12, 62]), (8, [8, 10, 12]), (9, [8, 9]), (10, [1, 2, 3, 4, 8, 10, 11, 73]), (11, [8, 10]), (12, [8, 9]), (13, [1, 2, 3, 4, 8, 10]), (14, [1, 8, 10]), (15, [8, 10]), (16, [8, 9])], [], [100013], []⟩ 119 [.cell 8 102, .tmp 9] rfl rfl rfl rfl rfl rfl ?_
  conv => whnf
  refine jnS (fun w1 => ⟨[(1, .l (.d (.int .i64 a1))), (2, .l (.d (.int .i64 a2))), (3, .l (.d (.int .i64 a3))), (4, .l (.ptr 5 0)), (8, .l (.ptr 9 0)), (13, .l (.d (.bool w1)))], 119, [], [(5, [.d (.sl (a0.Tasks.map Task.enc)), .d (.sl (a0.Leaves.map eB)), .d (.sl (a0.Lasts.map (eI .i64))), .d (.sl (a0.Jobs.map Job.enc)), .d (.sl (a0.Log.map Entry.enc))]), (9, [.nil, .nil, .nil, .nil, .nil])], []⟩) h (fun k1 hk1 h => ?_) (fun w1 h => ?_)
  · conv => whnf
    refine caS (E := E_Bool) h (part_Right_w a0) rfl (fun _ => rfl) (fun x2 h => ?_)
    conv => whnf
    refine fkS h (fun h => ?_) (fun h => ?_)
    · conv => whnf
      exact jeS hk1 h (Weak.refl _)
    conv => whnf
    refine fkS h (fun h => ?_) (fun h => ?_)
    · conv => whnf
      exact jeS hk1 h (Weak.refl _)
    conv => whnf
    refine lenS a0.Tasks Task.enc rfl ?_
    conv => whnf
    refine fkS h (fun h => ?_) (fun h => ?_)
    · conv => whnf
      exact jeS hk1 h (Weak.refl _)
    conv => whnf
    refine fkS h (fun h => ?_) (fun h => ?_)
    · conv => whnf
      exact jeS hk1 h (Weak.refl _)
    conv => whnf
    refine fkS h (fun h => ?_) (fun h => ?_)
    · conv => whnf
      exact jeS hk1 h (Weak.refl _)
    conv => whnf
    refine caS (E := E_Bool) h (part_when_w a3) rfl (fun _ => rfl) (fun x3 h => ?_)
    conv => whnf
    exact jeS hk1 h (Weak.refl _)
  conv => whnf
  refine fkS h (fun h => ?_) (fun h => ?_)
  · conv => whnf
    exact rt (E := E_PartState_Int) h rfl
  conv => whnf
  refine ixS (enc := eB) h rfl (fun _ => rfl) (fun x4 h => ?_)
  conv => whnf
  refine fkS h (fun h => ?_) (fun h => ?_)
  · conv => whnf
    exact rt (E := E_PartState_Int) h rfl
  conv => whnf
  refine inS (fn := Tryz.f93) tab ⟨[(0, [1, 2]), (1, [4])], [], [], []⟩ 14 [.tmp 4] rfl rfl rfl rfl rfl rfl ?_
  conv => whnf
  refine ⟨7, ?_⟩
  conv => whnf
  refine liS ([] : List Entry) Entry.enc rfl rfl ?_
  conv => whnf
  refine apS (enc := Entry.enc) (l1 := ([] : List Entry)) (l2 := a0.Log) h rfl rfl (fun _ => rfl) (fun h => ?_)
  conv => whnf
  refine drS (by kernel_rfl) ?_
  conv => whnf
  refine ccS (E := E_ListInt_Int) h (police_Note_w a0.Tasks a0.Lasts a1 a3) rfl rfl (fun x5 h => ?_)
  conv => whnf
  refine fkS h (fun h => ?_) (fun h => ?_)
  · conv => whnf
    refine inS (fn := Tryz.f113) tab ⟨[(0, [0, 1, 2, 11]), (1, [])], [], [], []⟩ 28 [] rfl rfl rfl rfl rfl rfl ?_
    conv => whnf
    refine lenS (([] : List Entry) ++ a0.Log) Entry.enc rfl ?_
    conv => whnf
    refine fkS h (fun h => ?_) (fun h => ?_)
    · conv => whnf
      refine ⟨14, ?_⟩
      conv => whnf
      refine liS ([⟨a3, (2 : Int), a1⟩] : List Entry) Entry.enc rfl rfl ?_
      conv => whnf
      refine apS (enc := Entry.enc) (l1 := ([] : List Entry) ++ a0.Log) (l2 := ([⟨a3, (2 : Int), a1⟩] : List Entry)) h rfl rfl (fun _ => rfl) (fun h => ?_)
      conv => whnf
      refine drS (by kernel_rfl) ?_
      conv => whnf
      refine inS (fn := Tryz.f97) tab ⟨[(0, [0, 2]), (1, [0, 2]), (2, [2])], [], [], []⟩ 16 [.cell 2 102] rfl rfl rfl rfl rfl rfl ?_
      conv => whnf
      exact rt (E := E_PartState_Int) h rfl
    conv => whnf
    refine inS (fn := Tryz.f97) tab ⟨[(0, [0, 2]), (1, [0, 2]), (2, [2])], [], [], []⟩ 16 [.cell 2 102] rfl rfl rfl rfl rfl rfl ?_
    conv => whnf
    exact rt (E := E_PartState_Int) h rfl
  conv => whnf
  refine lenS a0.Jobs Job.enc rfl ?_
  conv => whnf
  refine fkS h (fun h => ?_) (fun h => ?_)
  · conv => whnf
    refine inS (fn := Tryz.f113) tab ⟨[(0, [0, 1, 2, 11]), (1, [])], [], [], []⟩ 28 [] rfl rfl rfl rfl rfl rfl ?_
    conv => whnf
    refine lenS (([] : List Entry) ++ a0.Log) Entry.enc rfl ?_
    conv => whnf
    refine fkS h (fun h => ?_) (fun h => ?_)
    · conv => whnf
      refine ⟨14, ?_⟩
      conv => whnf
      refine liS ([⟨a3, (3 : Int), a1⟩] : List Entry) Entry.enc rfl rfl ?_
      conv => whnf
      refine apS (enc := Entry.enc) (l1 := ([] : List Entry) ++ a0.Log) (l2 := ([⟨a3, (3 : Int), a1⟩] : List Entry)) h rfl rfl (fun _ => rfl) (fun h => ?_)
      conv => whnf
      refine drS (by kernel_rfl) ?_
      conv => whnf
      refine inS (fn := Tryz.f97) tab ⟨[(0, [0, 2]), (1, [0, 2]), (2, [2])], [], [], []⟩ 16 [.cell 2 102] rfl rfl rfl rfl rfl rfl ?_
      conv => whnf
      exact rt (E := E_PartState_Int) h rfl
    conv => whnf
    refine inS (fn := Tryz.f97) tab ⟨[(0, [0, 2]), (1, [0, 2]), (2, [2])], [], [], []⟩ 16 [.cell 2 102] rfl rfl rfl rfl rfl rfl ?_
    conv => whnf
    exact rt (E := E_PartState_Int) h rfl
  conv => whnf
  refine ⟨19, ?_⟩
  conv => whnf
  refine liS ([] : List Job) Job.enc rfl rfl ?_
  conv => whnf
  refine apS (enc := Job.enc) (l1 := ([] : List Job)) (l2 := a0.Jobs) h rfl rfl (fun _ => rfl) (fun h => ?_)
  conv => whnf
  refine ixS (enc := Task.enc) h rfl (fun _ => rfl) (fun x6 h => ?_)
  conv => whnf
  refine liS ([⟨a1, a3, (wr (a3 + x6.D)), a2, (0 : Int), false⟩] : List Job) Job.enc rfl rfl ?_
  conv => whnf
  refine apS (enc := Job.enc) (l1 := ([] : List Job) ++ a0.Jobs) (l2 := ([⟨a1, a3, (wr (a3 + x6.D)), a2, (0 : Int), false⟩] : List Job)) h rfl rfl (fun _ => rfl) (fun h => ?_)
  conv => whnf
  refine drS (by kernel_rfl) ?_
  conv => whnf
  refine inS (fn := Tryz.f113) tab ⟨[(0, [0, 1, 2, 11]), (1, [])], [], [], []⟩ 28 [] rfl rfl rfl rfl rfl rfl ?_
  conv => whnf
  refine lenS (([] : List Entry) ++ a0.Log) Entry.enc rfl ?_
  conv => whnf
  refine fkS h (fun h => ?_) (fun h => ?_)
  · conv => whnf
    refine ⟨14, ?_⟩
    conv => whnf
    refine liS ([⟨a3, (1 : Int), a1⟩] : List Entry) Entry.enc rfl rfl ?_
    conv => whnf
    refine apS (enc := Entry.enc) (l1 := ([] : List Entry) ++ a0.Log) (l2 := ([⟨a3, (1 : Int), a1⟩] : List Entry)) h rfl rfl (fun _ => rfl) (fun h => ?_)
    conv => whnf
    refine drS (by kernel_rfl) ?_
    conv => whnf
    refine inS (fn := Tryz.f97) tab ⟨[(0, [0, 2]), (1, [0, 2]), (2, [2])], [], [], []⟩ 16 [.cell 2 102] rfl rfl rfl rfl rfl rfl ?_
    conv => whnf
    exact rt (E := E_PartState_Int) h rfl
  conv => whnf
  refine inS (fn := Tryz.f97) tab ⟨[(0, [0, 2]), (1, [0, 2]), (2, [2])], [], [], []⟩ 16 [.cell 2 102] rfl rfl rfl rfl rfl rfl ?_
  conv => whnf
  exact rt (E := E_PartState_Int) h rfl

end Go.Proofs.YtpephpefjddgcaaGreat
namespace Go.Proofs.YtpephpefjddgcaaGreat
open Go Go.VC
noncomputable def kernel_kinds_1 (a0 : PartState) (a1 : Face) (a2 : KernelCmd) (a3 : Int) : Option (PartState × Int) :=
  bnd (part_Release a0 a2.I a2.V a3) fun x1 => some (x1.1, x1.2)
theorem kernel_kinds_1_w (a0 : PartState) (a1 : Face) (a2 : KernelCmd) (a3 : Int) (r : PartState × Int) (h : kernel_kinds_1 a0 a1 a2 a3 = some r) : Go.VC.Spec Tryz.prog 77 [.agg (PartState.enc a0), .agg (Face.enc a1), .agg (KernelCmd.enc a2), .d (.int .i64 a3)] (fun y => y = E_PartState_Int r) := by
  refine Go.VC.Spec.of_xc (args := [.agg (PartState.enc a0), .agg (Face.enc a1), .agg (KernelCmd.enc a2), .d (.int .i64 a3)]) (fn := Tryz.f77) tab ⟨[(0, [3, 4, 6, 8]), (1, [8, 9])], [], [], []⟩ 19 [.cell 8 102, .tmp 9] rfl rfl rfl rfl rfl rfl ?_
  conv => whnf
  refine ccS (E := E_PartState_Int) h (part_Release_w a0 a2.I a2.V a3) rfl rfl (fun x1 h => ?_)
  conv => whnf
  exact rt (E := E_PartState_Int) h rfl

end Go.Proofs.YtpephpefjddgcaaGreat
namespace Go.Proofs.YtpephpefjddgcaaGreat
open Go Go.VC
noncomputable def kernel_State_with (a0 : KernelState) (a1 : Int) (a2 : PartState) : Option KernelState :=
  ck (decide ((([] : List PartState).length + a0.Parts.length) * 120 ≤ 140737488355328)) (ck (decide (0 ≤ a1) && decide (a1 < ((([] : List PartState) ++ a0.Parts).length : Int))) (ox (([] : List PartState) ++ a0.Parts) a1.toNat fun x1 => some ⟨a0.Table, a0.Faces, (([] : List PartState) ++ a0.Parts).set a1.toNat a2, a0.Lines, a0.Now⟩))
theorem kernel_State_with_w (a0 : KernelState) (a1 : Int) (a2 : PartState) (r : KernelState) (h : kernel_State_with a0 a1 a2 = some r) : Go.VC.Spec Tryz.prog 57 [.agg (KernelState.enc a0), .d (.int .i64 a1), .agg (PartState.enc a2)] (fun y => y = E_KernelState r) := by
  refine Go.VC.Spec.of_xc (args := [.agg (KernelState.enc a0), .d (.int .i64 a1), .agg (PartState.enc a2)]) (fn := Tryz.f57) tab ⟨[(0, [1, 3, 5, 6]), (1, [1, 3, 5, 6]), (2, [3, 6]), (3, [6])], [], [], []⟩ 18 [.cell 6 90] rfl rfl rfl rfl rfl rfl ?_
  conv => whnf
  refine liS ([] : List PartState) PartState.enc rfl rfl ?_
  conv => whnf
  refine apS (enc := PartState.enc) (l1 := ([] : List PartState)) (l2 := a0.Parts) h rfl rfl (fun _ => rfl) (fun h => ?_)
  conv => whnf
  refine ioS (enc := PartState.enc) h rfl (fun h => ?_)
  conv => whnf
  refine seS (enc := PartState.enc) h rfl (fun x1 => a2) (fun _ => rfl) (fun x1 h => ?_)
  conv => whnf
  exact rt (E := E_KernelState) h rfl

end Go.Proofs.YtpephpefjddgcaaGreat
namespace Go.Proofs.YtpephpefjddgcaaGreat
open Go Go.VC
noncomputable def kernel_on_1 (a0 : KernelState) (a1 : KernelCmd) : Option (KernelState × Int × Int) :=
  ix a0.Parts a1.Part fun x1 => ix a0.Faces a1.Part fun x2 => bnd (kernel_kinds_1 x1 x2 a1 a0.Now) fun x3 => bnd (kernel_State_with a0 a1.Part x3.1) fun x4 => some (x4, (0 : Int), x3.2)
theorem kernel_on_1_w (a0 : KernelState) (a1 : KernelCmd) (r : KernelState × Int × Int) (h : kernel_on_1 a0 a1 = some r) : Go.VC.Spec Tryz.prog 111 [.agg (KernelState.enc a0), .agg (KernelCmd.enc a1), .dp [.fn 77 []]] (fun y => y = E_KernelState_Int_Int r) := by
  refine Go.VC.Spec.of_xc (args := [.agg (KernelState.enc a0), .agg (KernelCmd.enc a1), .dp [.fn 77 []]]) (fn := Tryz.f111) tab ⟨[(0, [2, 3, 4, 5]), (1, [3, 4, 5, 8, 9]), (2, [5, 6, 7])], [], [], []⟩ 36 [.cell 5 90, .tmp 6, .tmp 7] rfl rfl rfl rfl rfl rfl ?_
  conv => whnf
  refine ⟨22, ?_⟩
  conv => whnf
  refine ixS (enc := PartState.enc) h rfl (fun _ => rfl) (fun x1 h => ?_)
  conv => whnf
  refine ixS (enc := Face.enc) h rfl (fun _ => rfl) (fun x2 h => ?_)
  conv => whnf
  refine dcS (E := E_PartState_Int) h (kernel_kinds_1_w x1 x2 a1 a0.Now) rfl (fun x3 h => ?_)
  conv => whnf
  refine drS (by kernel_rfl) ?_
  conv => whnf
  refine ccS (E := E_KernelState) h (kernel_State_with_w a0 a1.Part x3.1) rfl rfl (fun x4 h => ?_)
  conv => whnf
  exact rt (E := E_KernelState_Int_Int) h rfl

end Go.Proofs.YtpephpefjddgcaaGreat
namespace Go.Proofs.YtpephpefjddgcaaGreat
open Go Go.VC
noncomputable def job_First_1 (a0 : Job) (a1 : Bool) : Option Bool :=
  some (decide (a0.Began = a1))
theorem job_First_1_w (a0 : Job) (a1 : Bool) (r : Bool) (h : job_First_1 a0 a1 = some r) : Go.VC.Spec Tryz.prog 130 [.agg (Job.enc a0), .dp [.bool a1]] (fun y => y = E_Bool r) := by
  refine Go.VC.Spec.of_xc (args := [.agg (Job.enc a0), .dp [.bool a1]]) (fn := Tryz.f130) tab ⟨[(0, [1, 2]), (1, [3])], [], [], []⟩ 8 [.tmp 3] rfl rfl rfl rfl rfl rfl ?_
  conv => whnf
  exact rt (E := E_Bool) h rfl

end Go.Proofs.YtpephpefjddgcaaGreat
namespace Go.Proofs.YtpephpefjddgcaaGreat
open Go Go.VC
noncomputable def job_Ahead (a0 : Job) (a1 : Job) : Option Bool :=
  fk (!decide (a0.Due = a1.Due)) (some (decide (a0.Due < a1.Due))) (fk (!decide (a0.Task = a1.Task)) (some (decide (a0.Task < a1.Task))) (some (decide (a0.At < a1.At))))
theorem job_Ahead_w (a0 : Job) (a1 : Job) (r : Bool) (h : job_Ahead a0 a1 = some r) : Go.VC.Spec Tryz.prog 131 [.agg (Job.enc a0), .agg (Job.enc a1)] (fun y => y = E_Bool r) := by
  refine Go.VC.Spec.of_xc (args := [.agg (Job.enc a0), .agg (Job.enc a1)]) (fn := Tryz.f131) tab ⟨[(0, [2, 3]), (1, [2, 3, 5]), (2, [4]), (3, [2, 3, 16]), (4, [4]), (5, [4])], [], [], []⟩ 32 [.tmp 4] rfl rfl rfl rfl rfl rfl ?_
  conv => whnf
  refine fkS h (fun h => ?_) (fun h => ?_)
  · conv => whnf
    exact rt (E := E_Bool) h rfl
  conv => whnf
  refine fkS h (fun h => ?_) (fun h => ?_)
  · conv => whnf
    exact rt (E := E_Bool) h rfl
  conv => whnf
  exact rt (E := E_Bool) h rfl

end Go.Proofs.YtpephpefjddgcaaGreat
namespace Go.Proofs.YtpephpefjddgcaaGreat
open Go Go.VC
noncomputable def job_first_api_Job (a0 : List Job) (a1 : Bool) : Option Int :=
  lp (fun nx1 (v1 : Int × Int) => fk (decide (v1.2 < (a0.length : Int))) (jn (fun (w2 : Int) => nx1 (w2, (wr (v1.2 + (1 : Int))))) (fun k2 => ix a0 v1.2 fun x3 => jn (fun (w4 : Bool) => fk w4 (k2 v1.2) (k2 v1.1)) (fun k4 => bnd (job_First_1 x3 a1) fun x5 => fk x5 (fk (decide (v1.1 < (0 : Int))) (k4 true) (ix a0 v1.1 fun x6 => bnd (job_Ahead x3 x6) fun x7 => k4 x7)) (k4 false)))) (some v1.1)) FU ((-1 : Int), (0 : Int))
theorem job_first_api_Job_w (a0 : List Job) (a1 : Bool) (r : Int) (h : job_first_api_Job a0 a1 = some r) : Go.VC.Spec Tryz.prog 129 [.d (.sl (a0.map Job.enc)), .d (.fn 130 [[.bool a1]]), .d (.fn 131 [])] (fun y => y = E_Int r) := by
  refine Go.VC.Spec.of_xc (args := [.d (.sl (a0.map Job.enc)), .d (.fn 130 [[.bool a1]]), .d (.fn 131 [])]) (fn := Tryz.f129) tab ⟨[(0, [0, 1, 2]), (1, [0, 1, 2, 7]), (2, [0, 1, 2, 7, 10, 11, 12]), (3, [0, 1, 2, 7, 10, 11, 12, 13]), (4, [0, 1, 2, 7, 8, 9, 10, 11, 12]), (5, [0, 1, 2, 7, 8, 10, 11, 12, 32]), (6, [0, 1, 2, 7, 10, 11, 12]), (7, [0, 1, 2, 7, 10, 11, 12]), (8, [6])], [], [100032, 7], []⟩ 36 [.tmp 6] rfl rfl rfl rfl rfl rfl ?_
  conv => whnf
  refine lenS a0 Job.enc rfl ?_
  conv => whnf
  refine lpS (fun v1 => ⟨[(0, .l (.d (.sl (a0.map Job.enc)))), (1, .l (.d (.fn 130 [[.bool a1]]))), (2, .l (.d (.fn 131 []))), (7, .l (.d (.int .i64 v1.1))), (10, .l (.d (.sl (a0.map Job.enc)))), (11, .l (.d (.int .i64 (a0.length : Int)))), (12, .l (.d (.int .i64 v1.2)))], 36, [], [], []⟩) h (Weak.refl _) (fun _ nx1 hn1 v1 h => ?_)
  conv => whnf
  refine fkS h (fun h => ?_) (fun h => ?_)
  · conv => whnf
    refine jnS (fun w2 => ⟨[(0, .l (.d (.sl (a0.map Job.enc)))), (1, .l (.d (.fn 130 [[.bool a1]]))), (2, .l (.d (.fn 131 []))), (7, .l (.d (.int .i64 w2))), (10, .l (.d (.sl (a0.map Job.enc)))), (11, .l (.d (.int .i64 (a0.length : Int)))), (12, .l (.d (.int .i64 v1.2)))], 36, [], [], []⟩) h (fun k2 hk2 h => ?_) (fun w2 h => ?_)
    · conv => whnf
      refine ixS (enc := Job.enc) h rfl (fun _ => rfl) (fun x3 h => ?_)
      conv => whnf
      refine jnS (fun w4 => ⟨[(0, .l (.d (.sl (a0.map Job.enc)))), (1, .l (.d (.fn 130 [[.bool a1]]))), (2, .l (.d (.fn 131 []))), (7, .l (.d (.int .i64 v1.1))), (8, .l (.d (.int .i64 v1.2))), (10, .l (.d (.sl (a0.map Job.enc)))), (11, .l (.d (.int .i64 (a0.length : Int)))), (12, .l (.d (.int .i64 v1.2))), (32, .l (.d (.bool w4)))], 36, [], [], []⟩) h (fun k4 hk4 h => ?_) (fun w4 h => ?_)
      · conv => whnf
        refine ⟨13, ?_⟩
        conv => whnf
        refine daS (E := E_Bool) h (job_First_1_w x3 a1) (fun _ => rfl) (fun x5 h => ?_)
        conv => whnf
        refine fkS h (fun h => ?_) (fun h => ?_)
        · conv => whnf
          refine fkS h (fun h => ?_) (fun h => ?_)
          · conv => whnf
            refine drS (by kernel_rfl) ?_
            conv => whnf
            exact jeS hk4 h (Weak.refl _)
          conv => whnf
          refine ixS (enc := Job.enc) h rfl (fun _ => rfl) (fun x6 h => ?_)
          conv => whnf
          refine drS (by kernel_rfl) ?_
          conv => whnf
          refine caS (E := E_Bool) h (job_Ahead_w x3 x6) rfl (fun _ => rfl) (fun x7 h => ?_)
          conv => whnf
          exact jeS hk4 h (Weak.refl _)
        conv => whnf
        refine drS (by kernel_rfl) ?_
        conv => whnf
        exact jeS hk4 h (Weak.refl _)
      conv => whnf
      refine fkS h (fun h => ?_) (fun h => ?_)
      · conv => whnf
        exact jeS hk2 h (Weak.refl _)
      conv => whnf
      refine jeX hk2 h ?_
      conv => whnf
      refine WkF.step (Weak.keepS _ [0, 1, 2, 7, 10, 11, 12]) ?_
      conv => whnf
      exact WkF.refl _
    conv => whnf
    exact leS hn1 h (Weak.refl _)
  conv => whnf
  exact rt (E := E_Int) h rfl

end Go.Proofs.YtpephpefjddgcaaGreat
namespace Go.Proofs.YtpephpefjddgcaaGreat
open Go Go.VC
noncomputable def job_First (a0 : List Job) (a1 : Bool) : Option Int :=
  bnd (job_first_api_Job a0 a1) fun x1 => some x1
theorem job_First_w (a0 : List Job) (a1 : Bool) (r : Int) (h : job_First a0 a1 = some r) : Go.VC.Spec Tryz.prog 114 [.d (.sl (a0.map Job.enc)), .d (.bool a1)] (fun y => y = E_Int r) := by
  refine Go.VC.Spec.of_xc (args := [.d (.sl (a0.map Job.enc)), .d (.bool a1)]) (fn := Tryz.f114) tab ⟨[(0, [0, 3]), (1, [4])], [], [], []⟩ 8 [.tmp 4] rfl rfl rfl rfl rfl rfl ?_
  conv => whnf
  refine caS (E := E_Int) h (job_first_api_Job_w a0 a1) rfl (fun _ => rfl) (fun x1 h => ?_)
  conv => whnf
  exact rt (E := E_Int) h rfl

end Go.Proofs.YtpephpefjddgcaaGreat
namespace Go.Proofs.YtpephpefjddgcaaGreat
open Go Go.VC
noncomputable def admit_first_1 (a0 : Bool) (a1 : Int) (a2 : Bool) (a3 : Int) (a4 : Bool) (a5 : Int) (a6 : List Task) (a7 : Int) (a8 : Int) : Option Int :=
  lp (fun nx1 (v1 : Int) => fk (decide (v1 < (4 : Int))) (fk (decide (v1 = (0 : Int))) (bnd (admit_unless_1 a0 a1) fun x5 => fk (!decide (x5 = (0 : Int))) (some x5) (nx1 (wr (v1 + (1 : Int))))) (fk (decide (v1 = (1 : Int))) (bnd (admit_unless_1 a2 a3) fun x4 => fk (!decide (x4 = (0 : Int))) (some x4) (nx1 (wr (v1 + (1 : Int))))) (fk (decide (v1 = (2 : Int))) (bnd (admit_unless_1 a4 a5) fun x3 => fk (!decide (x3 = (0 : Int))) (some x3) (nx1 (wr (v1 + (1 : Int))))) (fk (decide (v1 = (3 : Int))) (bnd (admit_fit_1 a6 a7 a8) fun x2 => fk (!decide (x2 = (0 : Int))) (some x2) (nx1 (wr (v1 + (1 : Int))))) (none))))) (some (0 : Int))) FU (0 : Int)
theorem admit_first_1_w (a0 : Bool) (a1 : Int) (a2 : Bool) (a3 : Int) (a4 : Bool) (a5 : Int) (a6 : List Task) (a7 : Int) (a8 : Int) (r : Int) (h : admit_first_1 a0 a1 a2 a3 a4 a5 a6 a7 a8 = some r) : Go.VC.Spec Tryz.prog 68 [.d (.sl [[.fn 104 [[.bool a0], [.int .i64 a1]]], [.fn 104 [[.bool a2], [.int .i64 a3]]], [.fn 104 [[.bool a4], [.int .i64 a5]]], [.fn 105 [[.sl (a6.map Task.enc)], [.int .i64 a7, .int .i64 a8]]]])] (fun y => y = E_Int r) := by
  refine Go.VC.Spec.of_xc (args := [.d (.sl [[.fn 104 [[.bool a0], [.int .i64 a1]]], [.fn 104 [[.bool a2], [.int .i64 a3]]], [.fn 104 [[.bool a4], [.int .i64 a5]]], [.fn 105 [[.sl (a6.map Task.enc)], [.int .i64 a7, .int .i64 a8]]]])]) (fn := Tryz.f68) tab ⟨[(0, [0]), (1, [6, 7, 8]), (2, [6, 7, 8, 9]), (3, [4, 6, 7, 8]), (4, [5, 6, 7, 8]), (5, [5, 6, 7, 8, 15]), (6, [2]), (7, [6, 7, 8]), (8, [2])], [], [], []⟩ 18 [.tmp 2] rfl rfl rfl rfl rfl rfl ?_
  conv => whnf
  refine lenR (4 : Int) rfl ?_
  conv => whnf
  refine lpS (fun v1 => ⟨[(6, .l (.d (.sl [[.fn 104 [[.bool a0], [.int .i64 a1]]], [.fn 104 [[.bool a2], [.int .i64 a3]]], [.fn 104 [[.bool a4], [.int .i64 a5]]], [.fn 105 [[.sl (a6.map Task.enc)], [.int .i64 a7, .int .i64 a8]]]]))), (7, .l (.d (.int .i64 (4 : Int)))), (8, .l (.d (.int .i64 v1)))], 18, [], [], []⟩) h (Weak.refl _) (fun _ nx1 hn1 v1 h => ?_)
  conv => whnf
  refine fkS h (fun h => ?_) (fun h => ?_)
  · conv => whnf
    refine ixC 0 [.fn 104 [[.bool a0], [.int .i64 a1]]] h rfl rfl (fun h => ?_) (fun h => ?_)
    · conv => whnf
      refine caS (E := E_Int) h (admit_unless_1_w a0 a1) rfl (fun _ => rfl) (fun x5 h => ?_)
      conv => whnf
      refine fkS h (fun h => ?_) (fun h => ?_)
      · conv => whnf
        exact rt (E := E_Int) h rfl
      conv => whnf
      exact leS hn1 h (Weak.refl _)
    conv => whnf
    refine ixC 1 [.fn 104 [[.bool a2], [.int .i64 a3]]] h rfl rfl (fun h => ?_) (fun h => ?_)
    · conv => whnf
      refine caS (E := E_Int) h (admit_unless_1_w a2 a3) rfl (fun _ => rfl) (fun x4 h => ?_)
      conv => whnf
      refine fkS h (fun h => ?_) (fun h => ?_)
      · conv => whnf
        exact rt (E := E_Int) h rfl
      conv => whnf
      exact leS hn1 h (Weak.refl _)
    conv => whnf
    refine ixC 2 [.fn 104 [[.bool a4], [.int .i64 a5]]] h rfl rfl (fun h => ?_) (fun h => ?_)
    · conv => whnf
      refine caS (E := E_Int) h (admit_unless_1_w a4 a5) rfl (fun _ => rfl) (fun x3 h => ?_)
      conv => whnf
      refine fkS h (fun h => ?_) (fun h => ?_)
      · conv => whnf
        exact rt (E := E_Int) h rfl
      conv => whnf
      exact leS hn1 h (Weak.refl _)
    conv => whnf
    refine ixC 3 [.fn 105 [[.sl (a6.map Task.enc)], [.int .i64 a7, .int .i64 a8]]] h rfl rfl (fun h => ?_) (fun h => ?_)
    · conv => whnf
      refine caS (E := E_Int) h (admit_fit_1_w a6 a7 a8) rfl (fun _ => rfl) (fun x2 h => ?_)
      conv => whnf
      refine fkS h (fun h => ?_) (fun h => ?_)
      · conv => whnf
        exact rt (E := E_Int) h rfl
      conv => whnf
      exact leS hn1 h (Weak.refl _)
    conv => whnf
    exact ixN h
  conv => whnf
  exact rt (E := E_Int) h rfl

end Go.Proofs.YtpephpefjddgcaaGreat
namespace Go.Proofs.YtpephpefjddgcaaGreat
open Go Go.VC
noncomputable def admit_Add (a0 : PartState) (a1 : Face) (a2 : Task) : Option (PartState × Int) :=
  ck (decide ((([] : List Task).length + a0.Tasks.length) * 48 ≤ 140737488355328)) (ck (decide (((([] : List Task) ++ a0.Tasks).length + ([a2] : List Task).length) * 48 ≤ 140737488355328)) (jn (fun (w1 : Int) => fk (!decide (w1 = (0 : Int))) (some (a0, w1)) (bnd (part_Add a0 a2) fun x23 => some (x23.1, x23.2))) (fun k1 => bnd (part_Right a0) fun x2 => fk x2 (bnd (supply_Right a1) fun x3 => fk x3 (bnd (task_Right a2) fun x4 => bnd (admit_unless x4 (1 : Int)) fun x5 => bnd (admit_unless (decide ((a0.Tasks.length : Int) < (8 : Int))) (3 : Int)) fun x6 => bnd (job_First a0.Jobs true) fun x7 => bnd (admit_unless (decide (x7 < (0 : Int))) (9 : Int)) fun x8 => bnd (admit_fit ((([] : List Task) ++ a0.Tasks) ++ ([a2] : List Task)) a1) fun x9 => bnd (admit_first_1 x5.1 x5.2 x6.1 x6.2 x8.1 x8.2 x9.1 x9.2.1 x9.2.2) fun x10 => k1 x10) (bnd (admit_unless false (1 : Int)) fun x11 => bnd (admit_unless (decide ((a0.Tasks.length : Int) < (8 : Int))) (3 : Int)) fun x12 => bnd (job_First a0.Jobs true) fun x13 => bnd (admit_unless (decide (x13 < (0 : Int))) (9 : Int)) fun x14 => bnd (admit_fit ((([] : List Task) ++ a0.Tasks) ++ ([a2] : List Task)) a1) fun x15 => bnd (admit_first_1 x11.1 x11.2 x12.1 x12.2 x14.1 x14.2 x15.1 x15.2.1 x15.2.2) fun x16 => k1 x16)) (bnd (admit_unless false (1 : Int)) fun x17 => bnd (admit_unless (decide ((a0.Tasks.length : Int) < (8 : Int))) (3 : Int)) fun x18 => bnd (job_First a0.Jobs true) fun x19 => bnd (admit_unless (decide (x19 < (0 : Int))) (9 : Int)) fun x20 => bnd (admit_fit ((([] : List Task) ++ a0.Tasks) ++ ([a2] : List Task)) a1) fun x21 => bnd (admit_first_1 x17.1 x17.2 x18.1 x18.2 x20.1 x20.2 x21.1 x21.2.1 x21.2.2) fun x22 => k1 x22))))
theorem admit_Add_w (a0 : PartState) (a1 : Face) (a2 : Task) (r : PartState × Int) (h : admit_Add a0 a1 a2 = some r) : Go.VC.Spec Tryz.prog 80 [.agg (PartState.enc a0), .agg (Face.enc a1), .agg (Task.enc a2)] (fun y => y = E_PartState_Int r) := by
  refine Go.VC.Spec.of_xc (args := [.agg (PartState.enc a0), .agg (Face.enc a1), .agg (Task.enc a2)]) (fn := Tryz.f80) tab ⟨[(0, [3, 4, 5, 6]), (1, [3, 4, 5, 6, 8]), (2, [3, 5, 6, 9]), (3, [3, 5, 6, 9, 44]), (4, [6, 7]), (5, [6, 7])], [], [3], []⟩ 52 [.cell 6 102, .tmp 7] rfl rfl rfl rfl rfl rfl ?_
  conv => whnf
  refine ⟨6, ?_⟩
  conv => whnf
  refine liS ([] : List Task) Task.enc rfl rfl ?_
  conv => whnf
  refine apS (enc := Task.enc) (l1 := ([] : List Task)) (l2 := a0.Tasks) h rfl rfl (fun _ => rfl) (fun h => ?_)
  conv => whnf
  refine liS ([a2] : List Task) Task.enc rfl rfl ?_
  conv => whnf
  refine drS (by kernel_rfl) ?_
  conv => whnf
  refine apS (enc := Task.enc) (l1 := ([] : List Task) ++ a0.Tasks) (l2 := ([a2] : List Task)) h rfl rfl (fun _ => rfl) (fun h => ?_)
  conv => whnf
  refine jnS (fun w1 => ⟨[(3, .l (.ptr 4 0)), (5, .l (.ptr 6 0)), (6, .l (.ptr 7 0)), (9, .l (.d (.int .i64 w1)))], 52, [], [(4, [.d (.sl (a0.Tasks.map Task.enc)), .d (.sl (a0.Leaves.map eB)), .d (.sl (a0.Lasts.map (eI .i64))), .d (.sl (a0.Jobs.map Job.enc)), .d (.sl (a0.Log.map Entry.enc))]), (6, [.d (.int .i64 a2.C), .d (.int .i64 a2.D), .d (.int .i64 a2.T), .d (.sl (a2.Secs.map Sec.enc))]), (7, [.nil, .nil, .nil, .nil, .nil])], []⟩) h (fun k1 hk1 h => ?_) (fun w1 h => ?_)
  · conv => whnf
    refine ⟨23, ?_⟩
    conv => whnf
    refine daS (E := E_Bool) h (part_Right_w a0) (fun _ => rfl) (fun x2 h => ?_)
    conv => whnf
    refine fkS h (fun h => ?_) (fun h => ?_)
    · conv => whnf
      refine daS (E := E_Bool) h (supply_Right_w a1) (fun _ => rfl) (fun x3 h => ?_)
      conv => whnf
      refine fkS h (fun h => ?_) (fun h => ?_)
      · conv => whnf
        refine daS (E := E_Bool) h (task_Right_w a2) (fun _ => rfl) (fun x4 h => ?_)
        conv => whnf
        refine dcS (E := E_fn_admit_unless) h (admit_unless_w x4 (1 : Int)) rfl (fun x5 h => ?_)
        conv => whnf
        refine lenS a0.Tasks Task.enc rfl ?_
        conv => whnf
        refine dcS (E := E_fn_admit_unless) h (admit_unless_w (decide ((a0.Tasks.length : Int) < (8 : Int))) (3 : Int)) rfl (fun x6 h => ?_)
        conv => whnf
        refine daS (E := E_Int) h (job_First_w a0.Jobs true) (fun _ => rfl) (fun x7 h => ?_)
        conv => whnf
        refine dcS (E := E_fn_admit_unless) h (admit_unless_w (decide (x7 < (0 : Int))) (9 : Int)) rfl (fun x8 h => ?_)
        conv => whnf
        refine drS (by kernel_rfl) ?_
        conv => whnf
        refine iceS 9 ?_
        conv => whnf
        refine ccS (E := E_fn_admit_fit) h (admit_fit_w ((([] : List Task) ++ a0.Tasks) ++ ([a2] : List Task)) a1) rfl rfl (fun x9 h => ?_)
        conv => whnf
        refine liR rfl ?_
        conv => whnf
        refine caS (E := E_Int) h (admit_first_1_w x5.1 x5.2 x6.1 x6.2 x8.1 x8.2 x9.1 x9.2.1 x9.2.2) rfl (fun _ => rfl) (fun x10 h => ?_)
        conv => whnf
        exact jeS hk1 h (Weak.refl _)
      conv => whnf
      refine dcS (E := E_fn_admit_unless) h (admit_unless_w false (1 : Int)) rfl (fun x11 h => ?_)
      conv => whnf
      refine lenS a0.Tasks Task.enc rfl ?_
      conv => whnf
      refine dcS (E := E_fn_admit_unless) h (admit_unless_w (decide ((a0.Tasks.length : Int) < (8 : Int))) (3 : Int)) rfl (fun x12 h => ?_)
      conv => whnf
      refine daS (E := E_Int) h (job_First_w a0.Jobs true) (fun _ => rfl) (fun x13 h => ?_)
      conv => whnf
      refine dcS (E := E_fn_admit_unless) h (admit_unless_w (decide (x13 < (0 : Int))) (9 : Int)) rfl (fun x14 h => ?_)
      conv => whnf
      refine drS (by kernel_rfl) ?_
      conv => whnf
      refine iceS 9 ?_
      conv => whnf
      refine ccS (E := E_fn_admit_fit) h (admit_fit_w ((([] : List Task) ++ a0.Tasks) ++ ([a2] : List Task)) a1) rfl rfl (fun x15 h => ?_)
      conv => whnf
      refine liR rfl ?_
      conv => whnf
      refine caS (E := E_Int) h (admit_first_1_w x11.1 x11.2 x12.1 x12.2 x14.1 x14.2 x15.1 x15.2.1 x15.2.2) rfl (fun _ => rfl) (fun x16 h => ?_)
      conv => whnf
      exact jeS hk1 h (Weak.refl _)
    conv => whnf
    refine dcS (E := E_fn_admit_unless) h (admit_unless_w false (1 : Int)) rfl (fun x17 h => ?_)
    conv => whnf
    refine lenS a0.Tasks Task.enc rfl ?_
    conv => whnf
    refine dcS (E := E_fn_admit_unless) h (admit_unless_w (decide ((a0.Tasks.length : Int) < (8 : Int))) (3 : Int)) rfl (fun x18 h => ?_)
    conv => whnf
    refine daS (E := E_Int) h (job_First_w a0.Jobs true) (fun _ => rfl) (fun x19 h => ?_)
    conv => whnf
    refine dcS (E := E_fn_admit_unless) h (admit_unless_w (decide (x19 < (0 : Int))) (9 : Int)) rfl (fun x20 h => ?_)
    conv => whnf
    refine drS (by kernel_rfl) ?_
    conv => whnf
    refine iceS 9 ?_
    conv => whnf
    refine ccS (E := E_fn_admit_fit) h (admit_fit_w ((([] : List Task) ++ a0.Tasks) ++ ([a2] : List Task)) a1) rfl rfl (fun x21 h => ?_)
    conv => whnf
    refine liR rfl ?_
    conv => whnf
    refine caS (E := E_Int) h (admit_first_1_w x17.1 x17.2 x18.1 x18.2 x20.1 x20.2 x21.1 x21.2.1 x21.2.2) rfl (fun _ => rfl) (fun x22 h => ?_)
    conv => whnf
    exact jeS hk1 h (Weak.refl _)
  conv => whnf
  refine fkS h (fun h => ?_) (fun h => ?_)
  · conv => whnf
    exact rt (E := E_PartState_Int) h rfl
  conv => whnf
  refine ccS (E := E_PartState_Int) h (part_Add_w a0 a2) rfl rfl (fun x23 h => ?_)
  conv => whnf
  exact rt (E := E_PartState_Int) h rfl

end Go.Proofs.YtpephpefjddgcaaGreat
namespace Go.Proofs.YtpephpefjddgcaaGreat
open Go Go.VC
noncomputable def kernel_kinds_2 (a0 : PartState) (a1 : Face) (a2 : KernelCmd) (a3 : Int) : Option (PartState × Int) :=
  bnd (admit_Add a0 a1 a2.T) fun x1 => some (x1.1, x1.2)
theorem kernel_kinds_2_w (a0 : PartState) (a1 : Face) (a2 : KernelCmd) (a3 : Int) (r : PartState × Int) (h : kernel_kinds_2 a0 a1 a2 a3 = some r) : Go.VC.Spec Tryz.prog 79 [.agg (PartState.enc a0), .agg (Face.enc a1), .agg (KernelCmd.enc a2), .d (.int .i64 a3)] (fun y => y = E_PartState_Int r) := by
  refine Go.VC.Spec.of_xc (args := [.agg (PartState.enc a0), .agg (Face.enc a1), .agg (KernelCmd.enc a2), .d (.int .i64 a3)]) (fn := Tryz.f79) tab ⟨[(0, [4, 5, 6, 8]), (1, [8, 9])], [], [], []⟩ 17 [.cell 8 102, .tmp 9] rfl rfl rfl rfl rfl rfl ?_
  conv => whnf
  refine ccS (E := E_PartState_Int) h (admit_Add_w a0 a1 a2.T) rfl rfl (fun x1 h => ?_)
  conv => whnf
  exact rt (E := E_PartState_Int) h rfl

end Go.Proofs.YtpephpefjddgcaaGreat
namespace Go.Proofs.YtpephpefjddgcaaGreat
open Go Go.VC
noncomputable def kernel_on_1_1 (a0 : KernelState) (a1 : KernelCmd) : Option (KernelState × Int × Int) :=
  ix a0.Parts a1.Part fun x1 => ix a0.Faces a1.Part fun x2 => bnd (kernel_kinds_2 x1 x2 a1 a0.Now) fun x3 => bnd (kernel_State_with a0 a1.Part x3.1) fun x4 => some (x4, (0 : Int), x3.2)
theorem kernel_on_1_1_w (a0 : KernelState) (a1 : KernelCmd) (r : KernelState × Int × Int) (h : kernel_on_1_1 a0 a1 = some r) : Go.VC.Spec Tryz.prog 111 [.agg (KernelState.enc a0), .agg (KernelCmd.enc a1), .dp [.fn 79 []]] (fun y => y = E_KernelState_Int_Int r) := by
  refine Go.VC.Spec.of_xc (args := [.agg (KernelState.enc a0), .agg (KernelCmd.enc a1), .dp [.fn 79 []]]) (fn := Tryz.f111) tab ⟨[(0, [2, 3, 4, 5]), (1, [3, 4, 5, 8, 9]), (2, [5, 6, 7])], [], [], []⟩ 36 [.cell 5 90, .tmp 6, .tmp 7] rfl rfl rfl rfl rfl rfl ?_
  conv => whnf
  refine ⟨22, ?_⟩
  conv => whnf
  refine ixS (enc := PartState.enc) h rfl (fun _ => rfl) (fun x1 h => ?_)
  conv => whnf
  refine ixS (enc := Face.enc) h rfl (fun _ => rfl) (fun x2 h => ?_)
  conv => whnf
  refine dcS (E := E_PartState_Int) h (kernel_kinds_2_w x1 x2 a1 a0.Now) rfl (fun x3 h => ?_)
  conv => whnf
  refine drS (by kernel_rfl) ?_
  conv => whnf
  refine ccS (E := E_KernelState) h (kernel_State_with_w a0 a1.Part x3.1) rfl rfl (fun x4 h => ?_)
  conv => whnf
  exact rt (E := E_KernelState_Int_Int) h rfl

end Go.Proofs.YtpephpefjddgcaaGreat
namespace Go.Proofs.YtpephpefjddgcaaGreat
open Go Go.VC
noncomputable def part_Leave (a0 : PartState) (a1 : Int) : Option (PartState × Int) :=
  jn (fun (w1 : Bool) => fk w1 (some (a0, (1 : Int))) (ix a0.Leaves a1 fun x3 => fk x3 (some (a0, (9 : Int))) (ck (decide ((([] : List Bool).length + a0.Leaves.length) * 1 ≤ 140737488355328)) (ck (decide (0 ≤ a1) && decide (a1 < ((([] : List Bool) ++ a0.Leaves).length : Int))) (ox (([] : List Bool) ++ a0.Leaves) a1.toNat fun x4 => some (⟨a0.Tasks, (([] : List Bool) ++ a0.Leaves).set a1.toNat true, a0.Lasts, a0.Jobs, a0.Log⟩, (0 : Int))))))) (fun k1 => bnd (part_Right a0) fun x2 => fk (!x2) (k1 true) (fk (decide (a1 < (0 : Int))) (k1 true) (k1 (decide (a1 ≥ (a0.Tasks.length : Int))))))
theorem part_Leave_w (a0 : PartState) (a1 : Int) (r : PartState × Int) (h : part_Leave a0 a1 = some r) : Go.VC.Spec Tryz.prog 115 [.agg (PartState.enc a0), .d (.int .i64 a1)] (fun y => y = E_PartState_Int r) := by
  refine Go.VC.Spec.of_xc (args := [.agg (PartState.enc a0), .d (.int .i64 a1)]) (fn := Tryz.f115) tab ⟨[(0, [1, 2, 4]), (1, [1, 2, 4, 6]), (2, [4, 5]), (3, [1, 2, 4, 22]), (4, [4, 5]), (5, [1, 2, 4]), (6, [2, 4]), (7, [4, 5])], [], [100006], []⟩ 39 [.cell 4 102, .tmp 5] rfl rfl rfl rfl rfl rfl ?_
  conv => whnf
  refine jnS (fun w1 => ⟨[(1, .l (.d (.int .i64 a1))), (2, .l (.ptr 3 0)), (4, .l (.ptr 5 0)), (6, .l (.d (.bool w1)))], 39, [], [(3, [.d (.sl (a0.Tasks.map Task.enc)), .d (.sl (a0.Leaves.map eB)), .d (.sl (a0.Lasts.map (eI .i64))), .d (.sl (a0.Jobs.map Job.enc)), .d (.sl (a0.Log.map Entry.enc))]), (5, [.nil, .nil, .nil, .nil, .nil])], []⟩) h (fun k1 hk1 h => ?_) (fun w1 h => ?_)
  · conv => whnf
    refine caS (E := E_Bool) h (part_Right_w a0) rfl (fun _ => rfl) (fun x2 h => ?_)
    conv => whnf
    refine fkS h (fun h => ?_) (fun h => ?_)
    · conv => whnf
      exact jeS hk1 h (Weak.refl _)
    conv => whnf
    refine fkS h (fun h => ?_) (fun h => ?_)
    · conv => whnf
      exact jeS hk1 h (Weak.refl _)
    conv => whnf
    refine lenS a0.Tasks Task.enc rfl ?_
    conv => whnf
    exact jeS hk1 h (Weak.refl _)
  conv => whnf
  refine fkS h (fun h => ?_) (fun h => ?_)
  · conv => whnf
    exact rt (E := E_PartState_Int) h rfl
  conv => whnf
  refine ixS (enc := eB) h rfl (fun _ => rfl) (fun x3 h => ?_)
  conv => whnf
  refine fkS h (fun h => ?_) (fun h => ?_)
  · conv => whnf
    exact rt (E := E_PartState_Int) h rfl
  conv => whnf
  refine liS ([] : List Bool) eB rfl rfl ?_
  conv => whnf
  refine apS (enc := eB) (l1 := ([] : List Bool)) (l2 := a0.Leaves) h rfl rfl (fun _ => rfl) (fun h => ?_)
  conv => whnf
  refine ioS (enc := eB) h rfl (fun h => ?_)
  conv => whnf
  refine seS (enc := eB) h rfl (fun x4 => true) (fun _ => rfl) (fun x4 h => ?_)
  conv => whnf
  exact rt (E := E_PartState_Int) h rfl

end Go.Proofs.YtpephpefjddgcaaGreat
namespace Go.Proofs.YtpephpefjddgcaaGreat
open Go Go.VC
noncomputable def admit_Drop (a0 : PartState) (a1 : Int) : Option (PartState × Int) :=
  bnd (part_Leave a0 a1) fun x1 => some (x1.1, x1.2)
theorem admit_Drop_w (a0 : PartState) (a1 : Int) (r : PartState × Int) (h : admit_Drop a0 a1 = some r) : Go.VC.Spec Tryz.prog 82 [.agg (PartState.enc a0), .d (.int .i64 a1)] (fun y => y = E_PartState_Int r) := by
  refine Go.VC.Spec.of_xc (args := [.agg (PartState.enc a0), .d (.int .i64 a1)]) (fn := Tryz.f82) tab ⟨[(0, [1, 2, 4]), (1, [4, 5])], [], [], []⟩ 11 [.cell 4 102, .tmp 5] rfl rfl rfl rfl rfl rfl ?_
  conv => whnf
  refine ccS (E := E_PartState_Int) h (part_Leave_w a0 a1) rfl rfl (fun x1 h => ?_)
  conv => whnf
  exact rt (E := E_PartState_Int) h rfl

end Go.Proofs.YtpephpefjddgcaaGreat
namespace Go.Proofs.YtpephpefjddgcaaGreat
open Go Go.VC
noncomputable def kernel_kinds_3 (a0 : PartState) (a1 : Face) (a2 : KernelCmd) (a3 : Int) : Option (PartState × Int) :=
  bnd (admit_Drop a0 a2.I) fun x1 => some (x1.1, x1.2)
theorem kernel_kinds_3_w (a0 : PartState) (a1 : Face) (a2 : KernelCmd) (a3 : Int) (r : PartState × Int) (h : kernel_kinds_3 a0 a1 a2 a3 = some r) : Go.VC.Spec Tryz.prog 81 [.agg (PartState.enc a0), .agg (Face.enc a1), .agg (KernelCmd.enc a2), .d (.int .i64 a3)] (fun y => y = E_PartState_Int r) := by
  refine Go.VC.Spec.of_xc (args := [.agg (PartState.enc a0), .agg (Face.enc a1), .agg (KernelCmd.enc a2), .d (.int .i64 a3)]) (fn := Tryz.f81) tab ⟨[(0, [4, 6, 8]), (1, [8, 9])], [], [], []⟩ 16 [.cell 8 102, .tmp 9] rfl rfl rfl rfl rfl rfl ?_
  conv => whnf
  refine ccS (E := E_PartState_Int) h (admit_Drop_w a0 a2.I) rfl rfl (fun x1 h => ?_)
  conv => whnf
  exact rt (E := E_PartState_Int) h rfl

end Go.Proofs.YtpephpefjddgcaaGreat
namespace Go.Proofs.YtpephpefjddgcaaGreat
open Go Go.VC
noncomputable def kernel_on_1_2 (a0 : KernelState) (a1 : KernelCmd) : Option (KernelState × Int × Int) :=
  ix a0.Parts a1.Part fun x1 => ix a0.Faces a1.Part fun x2 => bnd (kernel_kinds_3 x1 x2 a1 a0.Now) fun x3 => bnd (kernel_State_with a0 a1.Part x3.1) fun x4 => some (x4, (0 : Int), x3.2)
theorem kernel_on_1_2_w (a0 : KernelState) (a1 : KernelCmd) (r : KernelState × Int × Int) (h : kernel_on_1_2 a0 a1 = some r) : Go.VC.Spec Tryz.prog 111 [.agg (KernelState.enc a0), .agg (KernelCmd.enc a1), .dp [.fn 81 []]] (fun y => y = E_KernelState_Int_Int r) := by
  refine Go.VC.Spec.of_xc (args := [.agg (KernelState.enc a0), .agg (KernelCmd.enc a1), .dp [.fn 81 []]]) (fn := Tryz.f111) tab ⟨[(0, [2, 3, 4, 5]), (1, [3, 4, 5, 8, 9]), (2, [5, 6, 7])], [], [], []⟩ 36 [.cell 5 90, .tmp 6, .tmp 7] rfl rfl rfl rfl rfl rfl ?_
  conv => whnf
  refine ⟨22, ?_⟩
  conv => whnf
  refine ixS (enc := PartState.enc) h rfl (fun _ => rfl) (fun x1 h => ?_)
  conv => whnf
  refine ixS (enc := Face.enc) h rfl (fun _ => rfl) (fun x2 h => ?_)
  conv => whnf
  refine dcS (E := E_PartState_Int) h (kernel_kinds_3_w x1 x2 a1 a0.Now) rfl (fun x3 h => ?_)
  conv => whnf
  refine drS (by kernel_rfl) ?_
  conv => whnf
  refine ccS (E := E_KernelState) h (kernel_State_with_w a0 a1.Part x3.1) rfl rfl (fun x4 h => ?_)
  conv => whnf
  exact rt (E := E_KernelState_Int_Int) h rfl

end Go.Proofs.YtpephpefjddgcaaGreat
namespace Go.Proofs.YtpephpefjddgcaaGreat
open Go Go.VC
noncomputable def admit_Change (a0 : PartState) (a1 : Face) (a2 : Int) (a3 : Task) : Option (PartState × Int) :=
  bnd (admit_Drop a0 a2) fun x1 => fk (!decide (x1.2 = (0 : Int))) (some (a0, x1.2)) (bnd (admit_Add x1.1 a1 a3) fun x2 => fk (!decide (x2.2 = (0 : Int))) (some (a0, x2.2)) (some (x2.1, (0 : Int))))
theorem admit_Change_w (a0 : PartState) (a1 : Face) (a2 : Int) (a3 : Task) (r : PartState × Int) (h : admit_Change a0 a1 a2 a3 = some r) : Go.VC.Spec Tryz.prog 84 [.agg (PartState.enc a0), .agg (Face.enc a1), .d (.int .i64 a2), .agg (Task.enc a3)] (fun y => y = E_PartState_Int r) := by
  refine Go.VC.Spec.of_xc (args := [.agg (PartState.enc a0), .agg (Face.enc a1), .d (.int .i64 a2), .agg (Task.enc a3)]) (fn := Tryz.f84) tab ⟨[(0, [2, 4, 5, 7, 8]), (1, [4, 5, 7, 8, 10, 11]), (2, [4, 5, 7, 8, 10, 11, 19]), (3, [8, 9]), (4, [4, 8, 10, 11]), (5, [4, 8, 10, 11, 30]), (6, [8, 9]), (7, [8, 9])], [], [], []⟩ 34 [.cell 8 102, .tmp 9] rfl rfl rfl rfl rfl rfl ?_
  conv => whnf
  refine ccS (E := E_PartState_Int) h (admit_Drop_w a0 a2) rfl rfl (fun x1 h => ?_)
  conv => whnf
  refine fkS h (fun h => ?_) (fun h => ?_)
  · conv => whnf
    exact rt (E := E_PartState_Int) h rfl
  conv => whnf
  refine ccS (E := E_PartState_Int) h (admit_Add_w x1.1 a1 a3) rfl rfl (fun x2 h => ?_)
  conv => whnf
  refine fkS h (fun h => ?_) (fun h => ?_)
  · conv => whnf
    exact rt (E := E_PartState_Int) h rfl
  conv => whnf
  exact rt (E := E_PartState_Int) h rfl

end Go.Proofs.YtpephpefjddgcaaGreat
namespace Go.Proofs.YtpephpefjddgcaaGreat
open Go Go.VC
noncomputable def kernel_kinds_4 (a0 : PartState) (a1 : Face) (a2 : KernelCmd) (a3 : Int) : Option (PartState × Int) :=
  bnd (admit_Change a0 a1 a2.I a2.T) fun x1 => some (x1.1, x1.2)
theorem kernel_kinds_4_w (a0 : PartState) (a1 : Face) (a2 : KernelCmd) (a3 : Int) (r : PartState × Int) (h : kernel_kinds_4 a0 a1 a2 a3 = some r) : Go.VC.Spec Tryz.prog 83 [.agg (PartState.enc a0), .agg (Face.enc a1), .agg (KernelCmd.enc a2), .d (.int .i64 a3)] (fun y => y = E_PartState_Int r) := by
  refine Go.VC.Spec.of_xc (args := [.agg (PartState.enc a0), .agg (Face.enc a1), .agg (KernelCmd.enc a2), .d (.int .i64 a3)]) (fn := Tryz.f83) tab ⟨[(0, [4, 5, 6, 8]), (1, [8, 9])], [], [], []⟩ 19 [.cell 8 102, .tmp 9] rfl rfl rfl rfl rfl rfl ?_
  conv => whnf
  refine ccS (E := E_PartState_Int) h (admit_Change_w a0 a1 a2.I a2.T) rfl rfl (fun x1 h => ?_)
  conv => whnf
  exact rt (E := E_PartState_Int) h rfl

end Go.Proofs.YtpephpefjddgcaaGreat
namespace Go.Proofs.YtpephpefjddgcaaGreat
open Go Go.VC
noncomputable def kernel_on_1_3 (a0 : KernelState) (a1 : KernelCmd) : Option (KernelState × Int × Int) :=
  ix a0.Parts a1.Part fun x1 => ix a0.Faces a1.Part fun x2 => bnd (kernel_kinds_4 x1 x2 a1 a0.Now) fun x3 => bnd (kernel_State_with a0 a1.Part x3.1) fun x4 => some (x4, (0 : Int), x3.2)
theorem kernel_on_1_3_w (a0 : KernelState) (a1 : KernelCmd) (r : KernelState × Int × Int) (h : kernel_on_1_3 a0 a1 = some r) : Go.VC.Spec Tryz.prog 111 [.agg (KernelState.enc a0), .agg (KernelCmd.enc a1), .dp [.fn 83 []]] (fun y => y = E_KernelState_Int_Int r) := by
  refine Go.VC.Spec.of_xc (args := [.agg (KernelState.enc a0), .agg (KernelCmd.enc a1), .dp [.fn 83 []]]) (fn := Tryz.f111) tab ⟨[(0, [2, 3, 4, 5]), (1, [3, 4, 5, 8, 9]), (2, [5, 6, 7])], [], [], []⟩ 36 [.cell 5 90, .tmp 6, .tmp 7] rfl rfl rfl rfl rfl rfl ?_
  conv => whnf
  refine ⟨22, ?_⟩
  conv => whnf
  refine ixS (enc := PartState.enc) h rfl (fun _ => rfl) (fun x1 h => ?_)
  conv => whnf
  refine ixS (enc := Face.enc) h rfl (fun _ => rfl) (fun x2 h => ?_)
  conv => whnf
  refine dcS (E := E_PartState_Int) h (kernel_kinds_4_w x1 x2 a1 a0.Now) rfl (fun x3 h => ?_)
  conv => whnf
  refine drS (by kernel_rfl) ?_
  conv => whnf
  refine ccS (E := E_KernelState) h (kernel_State_with_w a0 a1.Part x3.1) rfl rfl (fun x4 h => ?_)
  conv => whnf
  exact rt (E := E_KernelState_Int_Int) h rfl

end Go.Proofs.YtpephpefjddgcaaGreat
namespace Go.Proofs.YtpephpefjddgcaaGreat
open Go Go.VC
noncomputable def ring_at (a0 : RingRing) (a1 : Int) : Option Int :=
  ck (decide ((a0.Buf.length : Int) ≠ 0)) (some ((wr (a0.First + a1)).tmod (a0.Buf.length : Int)))
theorem ring_at_w (a0 : RingRing) (a1 : Int) (r : Int) (h : ring_at a0 a1 = some r) : Go.VC.Spec Tryz.prog 118 [.agg (RingRing.enc a0), .d (.int .i64 a1)] (fun y => y = E_Int r) := by
  refine Go.VC.Spec.of_xc (args := [.agg (RingRing.enc a0), .d (.int .i64 a1)]) (fn := Tryz.f118) tab ⟨[(0, [1, 2]), (1, [4])], [], [], []⟩ 13 [.tmp 4] rfl rfl rfl rfl rfl rfl ?_
  conv => whnf
  refine lenS a0.Buf (eI .i64) rfl ?_
  conv => whnf
  refine dvS h (fun h => ?_)
  conv => whnf
  exact rt (E := E_Int) h rfl

end Go.Proofs.YtpephpefjddgcaaGreat
namespace Go.Proofs.YtpephpefjddgcaaGreat
open Go Go.VC
noncomputable def ring_Push (a0 : RingRing) (a1 : Int) : Option (RingRing × Int) :=
  bnd (ring_Right a0) fun x1 => fk (!x1) (some (a0, (1 : Int))) (fk (decide (a0.Many = (a0.Buf.length : Int))) (some (a0, (3 : Int))) (ck (decide ((([] : List Int).length + a0.Buf.length) * 8 ≤ 140737488355328)) (bnd (ring_at ⟨([] : List Int) ++ a0.Buf, a0.First, a0.Many⟩ a0.Many) fun x2 => ck (decide (0 ≤ x2) && decide (x2 < ((([] : List Int) ++ a0.Buf).length : Int))) (ox (([] : List Int) ++ a0.Buf) x2.toNat fun x3 => some (⟨(([] : List Int) ++ a0.Buf).set x2.toNat a1, a0.First, (wr (a0.Many + (1 : Int)))⟩, (0 : Int))))))
theorem ring_Push_w (a0 : RingRing) (a1 : Int) (r : RingRing × Int) (h : ring_Push a0 a1 = some r) : Go.VC.Spec Tryz.prog 116 [.agg (RingRing.enc a0), .d (.int .i64 a1)] (fun y => y = E_RingRing_Int r) := by
  refine Go.VC.Spec.of_xc (args := [.agg (RingRing.enc a0), .d (.int .i64 a1)]) (fn := Tryz.f116) tab ⟨[(0, [1, 2, 4]), (1, [1, 2, 4, 6]), (2, [4, 5]), (3, [1, 2, 4, 11]), (4, [4, 5]), (5, [1, 2, 4]), (6, [2, 4]), (7, [2, 4]), (8, [4, 5])], [], [], []⟩ 34 [.cell 4 155, .tmp 5] rfl rfl rfl rfl rfl rfl ?_
  conv => whnf
  refine caS (E := E_Bool) h (ring_Right_w a0) rfl (fun _ => rfl) (fun x1 h => ?_)
  conv => whnf
  refine fkS h (fun h => ?_) (fun h => ?_)
  · conv => whnf
    exact rt (E := E_RingRing_Int) h rfl
  conv => whnf
  refine lenS a0.Buf (eI .i64) rfl ?_
  conv => whnf
  refine fkS h (fun h => ?_) (fun h => ?_)
  · conv => whnf
    exact rt (E := E_RingRing_Int) h rfl
  conv => whnf
  refine inS (fn := Tryz.f117) tab ⟨[(0, [1, 2]), (1, [1, 2]), (2, [2])], [], [], []⟩ 9 [.cell 2 155] rfl rfl rfl rfl rfl rfl ?_
  conv => whnf
  refine liS ([] : List Int) (eI .i64) rfl rfl ?_
  conv => whnf
  refine apS (enc := (eI .i64)) (l1 := ([] : List Int)) (l2 := a0.Buf) h rfl rfl (fun _ => rfl) (fun h => ?_)
  conv => whnf
  refine ⟨7, ?_⟩
  conv => whnf
  refine daS (E := E_Int) h (ring_at_w ⟨([] : List Int) ++ a0.Buf, a0.First, a0.Many⟩ a0.Many) (fun _ => rfl) (fun x2 h => ?_)
  conv => whnf
  refine drS (by kernel_rfl) ?_
  conv => whnf
  refine ioS (enc := (eI .i64)) h rfl (fun h => ?_)
  conv => whnf
  refine seS (enc := (eI .i64)) h rfl (fun x3 => a1) (fun _ => rfl) (fun x3 h => ?_)
  conv => whnf
  exact rt (E := E_RingRing_Int) h rfl

end Go.Proofs.YtpephpefjddgcaaGreat
namespace Go.Proofs.YtpephpefjddgcaaGreat
open Go Go.VC
noncomputable def port_with (a0 : List PortLine) (a1 : Int) (a2 : PortLine) : Option (List PortLine) :=
  ck (decide ((([] : List PortLine).length + a0.length) * 104 ≤ 140737488355328)) (ck (decide (0 ≤ a1) && decide (a1 < ((([] : List PortLine) ++ a0).length : Int))) (ox (([] : List PortLine) ++ a0) a1.toNat fun x1 => some ((([] : List PortLine) ++ a0).set a1.toNat a2)))
theorem port_with_w (a0 : List PortLine) (a1 : Int) (a2 : PortLine) (r : List PortLine) (h : port_with a0 a1 a2 = some r) : Go.VC.Spec Tryz.prog 91 [.d (.sl (a0.map PortLine.enc)), .d (.int .i64 a1), .agg (PortLine.enc a2)] (fun y => y = E_ListPortLine r) := by
  refine Go.VC.Spec.of_xc (args := [.d (.sl (a0.map PortLine.enc)), .d (.int .i64 a1), .agg (PortLine.enc a2)]) (fn := Tryz.f91) tab ⟨[(0, [0, 1, 5]), (1, [1, 5, 7]), (2, [7]), (3, [6])], [], [], []⟩ 16 [.tmp 6] rfl rfl rfl rfl rfl rfl ?_
  conv => whnf
  refine liS ([] : List PortLine) PortLine.enc rfl rfl ?_
  conv => whnf
  refine apS (enc := PortLine.enc) (l1 := ([] : List PortLine)) (l2 := a0) h rfl rfl (fun _ => rfl) (fun h => ?_)
  conv => whnf
  refine ioS (enc := PortLine.enc) h rfl (fun h => ?_)
  conv => whnf
  refine seS (enc := PortLine.enc) h rfl (fun x1 => a2) (fun _ => rfl) (fun x1 h => ?_)
  conv => whnf
  exact rt (E := E_ListPortLine) h rfl

end Go.Proofs.YtpephpefjddgcaaGreat
