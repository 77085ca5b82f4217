/- It is proved that the law WorldOwns returns true at every input that the row lets in; there is no condition beside the row's own. -/
import Derived.Test.YtldlcdnhdedoeaaGreatXWorldOwns7
import Derived.Test.YtldlcdnhdedoeaaGreatXWorldOwns8
import Derived.Test.YtldlcdnhdedoeaaGreatXWorldOwns9
import Derived.Test.YtldlcdnhdedoeaaGreatXWorldOwns0
import Derived.Test.YtldlcdnhdedoeaaGreatRows
set_option linter.unusedVariables false
set_option linter.unusedSimpArgs false
set_option maxRecDepth 100000
set_option maxHeartbeats 40000000
set_option maxRecDepth 1000000
namespace Go.Proofs.YtldlcdnhdedoeaaGreat
open Go Go.VC
noncomputable def image_Decode (a0 : List Int) : Option (Config × Int × Int) :=
 lp (fun nx1 (v1 : Int × Int × Int) => fk (decide (v1.2.2 < (3 : Int))) (jn (fun (w2 : Int × Int × Int) => jn (fun (w6 : Bool) => fk w6 (some (⟨[], []⟩, v1.2.2, (2 : Int))) (nx1 (w2.1, w2.2.1, (wr (v1.2.2 + (1 : Int)))))) (fun k6 => fk (decide (w2.2.1 = (0 : Int))) (ix ([84, 75, 49] : List Int) v1.2.2 fun x7 => k6 (!decide (w2.2.2 = (IntKind.i64.wrap x7)))) (k6 false))) (fun k2 => jn (fun (w3 : Int) => fk (!decide (w3 = (0 : Int))) (k2 (v1.1, w3, (0 : Int))) (ix a0 (wr ((wr (v1.1 + (1 : Int))) - (1 : Int))) fun x5 => k2 ((wr (v1.1 + (1 : Int))), w3, (IntKind.i64.wrap x5)))) (fun k3 => jn (fun (w4 : Bool) => fk w4 (k3 (8 : Int)) (k3 v1.2.1)) (fun k4 => fk (decide (v1.2.1 = (0 : Int))) (k4 (decide (v1.1 ≥ (a0.length : Int)))) (k4 false))))) (jn (fun (w8 : Int × Int × (List Part)) => jn (fun (w63 : Int × Int × (List Port)) => fk (!decide (w63.2.1 = (0 : Int))) (some (⟨[], []⟩, (a0.length : Int), w63.2.1)) (fk (decide (w63.1 < (a0.length : Int))) (some (⟨[], []⟩, w63.1, (2 : Int))) (bnd (image_Right ⟨w8.2.2, w63.2.2⟩) fun x82 => fk (!x82) (some (⟨[], []⟩, (0 : Int), (1 : Int))) (some (⟨w8.2.2, w63.2.2⟩, (0 : Int), (0 : Int)))))) (fun k63 => jn (fun (w64 : Int × Int × Int) => lp (fun nx68 (v68 : Int × Int × (List Port) × Int) => jn (fun (w69 : Bool) => fk w69 (jn (fun (w70 : Int × Int × Int) => jn (fun (w74 : Int × Int × Int) => jn (fun (w78 : Int × Int × Int) => ck (decide ((v68.2.2.1.length + ([⟨w70.2.2, w74.2.2, w78.2.2⟩] : List Port).length) * 24 ≤ 140737488355328)) (nx68 (w78.1, w78.2.1, v68.2.2.1 ++ ([⟨w70.2.2, w74.2.2, w78.2.2⟩] : List Port), (wr (v68.2.2.2 - (1 : Int)))))) (fun k78 => jn (fun (w79 : Int) => fk (!decide (w79 = (0 : Int))) (k78 (w74.1, w79, (0 : Int))) (ix a0 (wr ((wr (w74.1 + (1 : Int))) - (1 : Int))) fun x81 => k78 ((wr (w74.1 + (1 : Int))), w79, (IntKind.i64.wrap x81)))) (fun k79 => jn (fun (w80 : Bool) => fk w80 (k79 (8 : Int)) (k79 w74.2.1)) (fun k80 => fk (decide (w74.2.1 = (0 : Int))) (k80 (decide (w74.1 ≥ (a0.length : Int)))) (k80 false))))) (fun k74 => jn (fun (w75 : Int) => fk (!decide (w75 = (0 : Int))) (k74 (w70.1, w75, (0 : Int))) (ix a0 (wr ((wr (w70.1 + (1 : Int))) - (1 : Int))) fun x77 => k74 ((wr (w70.1 + (1 : Int))), w75, (IntKind.i64.wrap x77)))) (fun k75 => jn (fun (w76 : Bool) => fk w76 (k75 (8 : Int)) (k75 w70.2.1)) (fun k76 => fk (decide (w70.2.1 = (0 : Int))) (k76 (decide (w70.1 ≥ (a0.length : Int)))) (k76 false))))) (fun k70 => jn (fun (w71 : Int) => fk (!decide (w71 = (0 : Int))) (k70 (v68.1, w71, (0 : Int))) (ix a0 (wr ((wr (v68.1 + (1 : Int))) - (1 : Int))) fun x73 => k70 ((wr (v68.1 + (1 : Int))), w71, (IntKind.i64.wrap x73)))) (fun k71 => jn (fun (w72 : Bool) => fk w72 (k71 (8 : Int)) (k71 v68.2.1)) (fun k72 => fk (decide (v68.2.1 = (0 : Int))) (k72 (decide (v68.1 ≥ (a0.length : Int)))) (k72 false))))) (k63 (v68.1, v68.2.1, v68.2.2.1))) (fun k69 => fk (decide (v68.2.2.2 > (0 : Int))) (k69 (decide (v68.2.1 = (0 : Int)))) (k69 false))) FU (w64.1, w64.2.1, [], w64.2.2)) (fun k64 => jn (fun (w65 : Int) => fk (!decide (w65 = (0 : Int))) (k64 (w8.1, w65, (0 : Int))) (ix a0 (wr ((wr (w8.1 + (1 : Int))) - (1 : Int))) fun x67 => k64 ((wr (w8.1 + (1 : Int))), w65, (IntKind.i64.wrap x67)))) (fun k65 => jn (fun (w66 : Bool) => fk w66 (k65 (8 : Int)) (k65 w8.2.1)) (fun k66 => fk (decide (w8.2.1 = (0 : Int))) (k66 (decide (w8.1 ≥ (a0.length : Int)))) (k66 false)))))) (fun k8 => jn (fun (w9 : Int × Int × Int) => lp (fun nx13 (v13 : Int × Int × (List Part) × Int) => jn (fun (w14 : Bool) => fk w14 (jn (fun (w15 : Int × Int × (List Task) × Int × Int) => ck (decide ((v13.2.2.1.length + ([⟨⟨w15.2.2.2.1, w15.2.2.2.2⟩, w15.2.2.1⟩] : List Part).length) * 40 ≤ 140737488355328)) (nx13 (w15.1, w15.2.1, v13.2.2.1 ++ ([⟨⟨w15.2.2.2.1, w15.2.2.2.2⟩, w15.2.2.1⟩] : List Part), (wr (v13.2.2.2 - (1 : Int)))))) (fun k15 => jn (fun (w16 : Int × Int × Int) => jn (fun (w20 : Int × Int × Int) => jn (fun (w24 : Int × Int × (List Task)) => k15 (w24.1, w24.2.1, w24.2.2, w16.2.2, w20.2.2)) (fun k24 => jn (fun (w25 : Int × Int × Int) => lp (fun nx29 (v29 : Int × Int × (List Task) × Int) => jn (fun (w30 : Bool) => fk w30 (jn (fun (w31 : Int × Int × (List Sec) × Int × Int × Int) => ck (decide ((v29.2.2.1.length + ([⟨w31.2.2.2.1, w31.2.2.2.2.1, w31.2.2.2.2.2, w31.2.2.1⟩] : List Task).length) * 48 ≤ 140737488355328)) (nx29 (w31.1, w31.2.1, v29.2.2.1 ++ ([⟨w31.2.2.2.1, w31.2.2.2.2.1, w31.2.2.2.2.2, w31.2.2.1⟩] : List Task), (wr (v29.2.2.2 - (1 : Int)))))) (fun k31 => jn (fun (w32 : Int × Int × Int) => jn (fun (w36 : Int × Int × Int) => jn (fun (w40 : Int × Int × Int) => jn (fun (w44 : Int × Int × (List Sec)) => k31 (w44.1, w44.2.1, w44.2.2, w32.2.2, w36.2.2, w40.2.2)) (fun k44 => jn (fun (w45 : Int × Int × Int) => lp (fun nx49 (v49 : Int × Int × (List Sec) × Int) => jn (fun (w50 : Bool) => fk w50 (jn (fun (w51 : Int × Int × Int) => jn (fun (w55 : Int × Int × Int) => jn (fun (w59 : Int × Int × Int) => ck (decide ((v49.2.2.1.length + ([⟨w51.2.2, w55.2.2, w59.2.2⟩] : List Sec).length) * 24 ≤ 140737488355328)) (nx49 (w59.1, w59.2.1, v49.2.2.1 ++ ([⟨w51.2.2, w55.2.2, w59.2.2⟩] : List Sec), (wr (v49.2.2.2 - (1 : Int)))))) (fun k59 => jn (fun (w60 : Int) => fk (!decide (w60 = (0 : Int))) (k59 (w55.1, w60, (0 : Int))) (ix a0 (wr ((wr (w55.1 + (1 : Int))) - (1 : Int))) fun x62 => k59 ((wr (w55.1 + (1 : Int))), w60, (IntKind.i64.wrap x62)))) (fun k60 => jn (fun (w61 : Bool) => fk w61 (k60 (8 : Int)) (k60 w55.2.1)) (fun k61 => fk (decide (w55.2.1 = (0 : Int))) (k61 (decide (w55.1 ≥ (a0.length : Int)))) (k61 false))))) (fun k55 => jn (fun (w56 : Int) => fk (!decide (w56 = (0 : Int))) (k55 (w51.1, w56, (0 : Int))) (ix a0 (wr ((wr (w51.1 + (1 : Int))) - (1 : Int))) fun x58 => k55 ((wr (w51.1 + (1 : Int))), w56, (IntKind.i64.wrap x58)))) (fun k56 => jn (fun (w57 : Bool) => fk w57 (k56 (8 : Int)) (k56 w51.2.1)) (fun k57 => fk (decide (w51.2.1 = (0 : Int))) (k57 (decide (w51.1 ≥ (a0.length : Int)))) (k57 false))))) (fun k51 => jn (fun (w52 : Int) => fk (!decide (w52 = (0 : Int))) (k51 (v49.1, w52, (0 : Int))) (ix a0 (wr ((wr (v49.1 + (1 : Int))) - (1 : Int))) fun x54 => k51 ((wr (v49.1 + (1 : Int))), w52, (IntKind.i64.wrap x54)))) (fun k52 => jn (fun (w53 : Bool) => fk w53 (k52 (8 : Int)) (k52 v49.2.1)) (fun k53 => fk (decide (v49.2.1 = (0 : Int))) (k53 (decide (v49.1 ≥ (a0.length : Int)))) (k53 false))))) (k44 (v49.1, v49.2.1, v49.2.2.1))) (fun k50 => fk (decide (v49.2.2.2 > (0 : Int))) (k50 (decide (v49.2.1 = (0 : Int)))) (k50 false))) FU (w45.1, w45.2.1, [], w45.2.2)) (fun k45 => jn (fun (w46 : Int) => fk (!decide (w46 = (0 : Int))) (k45 (w40.1, w46, (0 : Int))) (ix a0 (wr ((wr (w40.1 + (1 : Int))) - (1 : Int))) fun x48 => k45 ((wr (w40.1 + (1 : Int))), w46, (IntKind.i64.wrap x48)))) (fun k46 => jn (fun (w47 : Bool) => fk w47 (k46 (8 : Int)) (k46 w40.2.1)) (fun k47 => fk (decide (w40.2.1 = (0 : Int))) (k47 (decide (w40.1 ≥ (a0.length : Int)))) (k47 false)))))) (fun k40 => jn (fun (w41 : Int) => fk (!decide (w41 = (0 : Int))) (k40 (w36.1, w41, (0 : Int))) (ix a0 (wr ((wr (w36.1 + (1 : Int))) - (1 : Int))) fun x43 => k40 ((wr (w36.1 + (1 : Int))), w41, (IntKind.i64.wrap x43)))) (fun k41 => jn (fun (w42 : Bool) => fk w42 (k41 (8 : Int)) (k41 w36.2.1)) (fun k42 => fk (decide (w36.2.1 = (0 : Int))) (k42 (decide (w36.1 ≥ (a0.length : Int)))) (k42 false))))) (fun k36 => jn (fun (w37 : Int) => fk (!decide (w37 = (0 : Int))) (k36 (w32.1, w37, (0 : Int))) (ix a0 (wr ((wr (w32.1 + (1 : Int))) - (1 : Int))) fun x39 => k36 ((wr (w32.1 + (1 : Int))), w37, (IntKind.i64.wrap x39)))) (fun k37 => jn (fun (w38 : Bool) => fk w38 (k37 (8 : Int)) (k37 w32.2.1)) (fun k38 => fk (decide (w32.2.1 = (0 : Int))) (k38 (decide (w32.1 ≥ (a0.length : Int)))) (k38 false))))) (fun k32 => jn (fun (w33 : Int) => fk (!decide (w33 = (0 : Int))) (k32 (v29.1, w33, (0 : Int))) (ix a0 (wr ((wr (v29.1 + (1 : Int))) - (1 : Int))) fun x35 => k32 ((wr (v29.1 + (1 : Int))), w33, (IntKind.i64.wrap x35)))) (fun k33 => jn (fun (w34 : Bool) => fk w34 (k33 (8 : Int)) (k33 v29.2.1)) (fun k34 => fk (decide (v29.2.1 = (0 : Int))) (k34 (decide (v29.1 ≥ (a0.length : Int)))) (k34 false)))))) (k24 (v29.1, v29.2.1, v29.2.2.1))) (fun k30 => fk (decide (v29.2.2.2 > (0 : Int))) (k30 (decide (v29.2.1 = (0 : Int)))) (k30 false))) FU (w25.1, w25.2.1, [], w25.2.2)) (fun k25 => jn (fun (w26 : Int) => fk (!decide (w26 = (0 : Int))) (k25 (w20.1, w26, (0 : Int))) (ix a0 (wr ((wr (w20.1 + (1 : Int))) - (1 : Int))) fun x28 => k25 ((wr (w20.1 + (1 : Int))), w26, (IntKind.i64.wrap x28)))) (fun k26 => jn (fun (w27 : Bool) => fk w27 (k26 (8 : Int)) (k26 w20.2.1)) (fun k27 => fk (decide (w20.2.1 = (0 : Int))) (k27 (decide (w20.1 ≥ (a0.length : Int)))) (k27 false)))))) (fun k20 => jn (fun (w21 : Int) => fk (!decide (w21 = (0 : Int))) (k20 (w16.1, w21, (0 : Int))) (ix a0 (wr ((wr (w16.1 + (1 : Int))) - (1 : Int))) fun x23 => k20 ((wr (w16.1 + (1 : Int))), w21, (IntKind.i64.wrap x23)))) (fun k21 => jn (fun (w22 : Bool) => fk w22 (k21 (8 : Int)) (k21 w16.2.1)) (fun k22 => fk (decide (w16.2.1 = (0 : Int))) (k22 (decide (w16.1 ≥ (a0.length : Int)))) (k22 false))))) (fun k16 => jn (fun (w17 : Int) => fk (!decide (w17 = (0 : Int))) (k16 (v13.1, w17, (0 : Int))) (ix a0 (wr ((wr (v13.1 + (1 : Int))) - (1 : Int))) fun x19 => k16 ((wr (v13.1 + (1 : Int))), w17, (IntKind.i64.wrap x19)))) (fun k17 => jn (fun (w18 : Bool) => fk w18 (k17 (8 : Int)) (k17 v13.2.1)) (fun k18 => fk (decide (v13.2.1 = (0 : Int))) (k18 (decide (v13.1 ≥ (a0.length : Int)))) (k18 false)))))) (k8 (v13.1, v13.2.1, v13.2.2.1))) (fun k14 => fk (decide (v13.2.2.2 > (0 : Int))) (k14 (decide (v13.2.1 = (0 : Int)))) (k14 false))) FU (w9.1, w9.2.1, [], w9.2.2)) (fun k9 => jn (fun (w10 : Int) => fk (!decide (w10 = (0 : Int))) (k9 (v1.1, w10, (0 : Int))) (ix a0 (wr ((wr (v1.1 + (1 : Int))) - (1 : Int))) fun x12 => k9 ((wr (v1.1 + (1 : Int))), w10, (IntKind.i64.wrap x12)))) (fun k10 => jn (fun (w11 : Bool) => fk w11 (k10 (8 : Int)) (k10 v1.2.1)) (fun k11 => fk (decide (v1.2.1 = (0 : Int))) (k11 (decide (v1.1 ≥ (a0.length : Int)))) (k11 false))))))) FU ((0 : Int), (0 : Int), (0 : Int))
theorem image_Decode_w (a0 : List Int) (r : Config × Int × Int) (h : image_Decode a0 = some r) : Go.VC.Spec Tryz.prog 43 [.d (.sl (a0.map (eI .u8)))] (fun y => y = E_Config_Int_Int r) := by
 refine Go.VC.Spec.of_xc (args := [.d (.sl (a0.map (eI .u8)))]) (fn := Tryz.f43) tab ⟨[(0, [0, 2]), (1, [0, 2, 5]), (2, [0, 2, 5, 12]), (3, [0, 2, 5, 12, 13]), (4, [0, 2, 5, 6, 12]), (5, [0, 2, 5, 6, 7, 12]), (6, [0, 2, 5, 6, 12, 28]), (7, [2, 3, 4]), (8, [0, 2, 5, 12]), (9, [0, 2, 5, 8]), (10, [0, 2, 5, 8]), (11, [0, 2, 5, 8, 42]), (12, [2, 3, 4]), (13, [2, 5, 8, 55]), (14, [2, 3, 4]), (15, [2, 8, 68]), (16, [2, 3, 4]), (17, [2, 3, 4])], [], [100028], []⟩ 74 [.cell 2 25, .tmp 3, .tmp 4] rfl rfl rfl rfl rfl rfl ?_
 conv => whnf
 refine lpS (fun v1 => ⟨[(0, .l (.d (.sl (a0.map (eI .u8))))), (2, .l (.ptr 3 0)), (5, .l (.ptr 12 0)), (12, .l (.d (.int .i64 v1.2.2)))], 74, [], [(3, [.nil, .nil]), (12, [.d (.sl (a0.map (eI .u8))), .d (.int .i64 v1.1), .d (.int .i64 v1.2.1)])], []⟩) h (Weak.refl _) (fun _ nx1 hn1 v1 h => ?_)
 conv => whnf
 refine fkS h (fun h => ?_) (fun h => ?_)
 ·conv => whnf
  refine inJ (fun w2 => ⟨[(16, .l (.d (.int .i64 w2.2.2))), (15, .l (.ptr 12 0)), (0, .l (.d (.sl (a0.map (eI .u8))))), (2, .l (.ptr 3 0)), (5, .l (.ptr 12 0)), (6, .l (.d (.int .i64 v1.2.2))), (12, .l (.d (.int .i64 v1.2.2)))], 74, [], [(3, [.nil, .nil]), (12, [.d (.sl (a0.map (eI .u8))), .d (.int .i64 w2.1), .d (.int .i64 w2.2.1)])], []⟩) h (fun k2 hk2 h => ?_) (fun w2 h => ?_)
  ·conv => whnf
   refine inS (fn := Tryz.f99) tab ⟨[(0, [0]), (1, [0, 19]), (2, [0]), (3, [0, 27]), (4, [2]), (5, [0]), (6, [2])], [], [100019, 3], []⟩ 47 [.tmp 2] rfl rfl rfl rfl rfl rfl ?_
   conv => whnf
   refine jnS (fun w3 => ⟨[(0, .l (.ptr 12 0))], 47, [⟨[(15, .l (.ptr 12 0)), (0, .l (.d (.sl (a0.map (eI .u8))))), (2, .l (.ptr 3 0)), (5, .l (.ptr 12 0)), (6, .l (.d (.int .i64 v1.2.2))), (12, .l (.d (.int .i64 v1.2.2)))], 74⟩], [(3, [.nil, .nil]), (12, [.d (.sl (a0.map (eI .u8))), .d (.int .i64 v1.1), .d (.int .i64 w3)])], []⟩) h (fun k3 hk3 h => ?_) (fun w3 h => ?_)
   ·conv => whnf
    refine jnS (fun w4 => ⟨[(0, .l (.ptr 12 0)), (19, .l (.d (.bool w4)))], 47, [⟨[(15, .l (.ptr 12 0)), (0, .l (.d (.sl (a0.map (eI .u8))))), (2, .l (.ptr 3 0)), (5, .l (.ptr 12 0)), (6, .l (.d (.int .i64 v1.2.2))), (12, .l (.d (.int .i64 v1.2.2)))], 74⟩], [(3, [.nil, .nil]), (12, [.d (.sl (a0.map (eI .u8))), .d (.int .i64 v1.1), .d (.int .i64 v1.2.1)])], []⟩) h (fun k4 hk4 h => ?_) (fun w4 h => ?_)
    ·conv => whnf
     refine ⟨17, ?_⟩
     conv => whnf
     refine fkS h (fun h => ?_) (fun h => ?_)
     ·conv => whnf
      refine lenS a0 (eI .u8) rfl ?_
      conv => whnf
      refine drS (by kernel_rfl) ?_
      conv => whnf
      exact jeS hk4 h (Weak.refl _)
     conv => whnf
     refine drS (by kernel_rfl) ?_
     conv => whnf
     exact jeS hk4 h (Weak.refl _)
    conv => whnf
    refine fkS h (fun h => ?_) (fun h => ?_)
    ·conv => whnf
     exact jeS hk3 h (Weak.refl _)
    conv => whnf
    refine jeX hk3 h ?_
    conv => whnf
    refine WkF.step (Weak.keepS _ [0]) ?_
    conv => whnf
    exact WkF.refl _
   conv => whnf
   refine fkS h (fun h => ?_) (fun h => ?_)
   ·conv => whnf
    exact jeS hk2 h (Weak.refl _)
   conv => whnf
   refine ⟨9, ?_⟩
   conv => whnf
   refine drS (by kernel_rfl) ?_
   conv => whnf
   refine ixS (enc := (eI .u8)) h rfl (fun _ => rfl) (fun x5 h => ?_)
   conv => whnf
   exact jeS hk2 h (Weak.refl _)
  conv => whnf
  refine jnS (fun w6 => ⟨[(0, .l (.d (.sl (a0.map (eI .u8))))), (2, .l (.ptr 3 0)), (5, .l (.ptr 12 0)), (6, .l (.d (.int .i64 v1.2.2))), (12, .l (.d (.int .i64 v1.2.2))), (28, .l (.d (.bool w6)))], 74, [], [(3, [.nil, .nil]), (12, [.d (.sl (a0.map (eI .u8))), .d (.int .i64 w2.1), .d (.int .i64 w2.2.1)])], []⟩) h (fun k6 hk6 h => ?_) (fun w6 h => ?_)
  ·conv => whnf
   refine fkS h (fun h => ?_) (fun h => ?_)
   ·conv => whnf
    refine isS ([84, 75, 49] : List Int) h rfl rfl rfl Tryz.underlying9 rfl (fun x7 h => ?_)
    conv => whnf
    exact jeS hk6 h (Weak.refl _)
   conv => whnf
   exact jeS hk6 h (Weak.refl _)
  conv => whnf
  refine fkS h (fun h => ?_) (fun h => ?_)
  ·conv => whnf
   exact rt (E := E_Config_Int_Int) h rfl
  conv => whnf
  exact leS hn1 h (Weak.refl _)
 conv => whnf
 refine inJ (fun w8 => ⟨[(35, .l (.own 36)), (34, .l (.mfn 101 12)), (33, .l (.ptr 12 0)), (32, .l (.ptr 12 0)), (13, .l (.d (.bool false))), (0, .l (.d (.sl (a0.map (eI .u8))))), (2, .l (.ptr 3 0)), (5, .l (.ptr 12 0)), (12, .l (.d (.int .i64 v1.2.2)))], 74, [], [(3, [.nil, .nil]), (12, [.d (.sl (a0.map (eI .u8))), .d (.int .i64 w8.1), .d (.int .i64 w8.2.1)])], [(36, 57, 3, w8.2.2.map Part.enc)]⟩) h (fun k8 hk8 h => ?_) (fun w8 h => ?_)
 ·conv => whnf
  refine inS (fn := Tryz.f100) tab ⟨[(0, [0, 1]), (1, [0, 1, 5]), (2, [0, 1, 5, 6]), (3, [0, 1, 5, 6, 17]), (4, [0, 1, 5, 6]), (5, [0, 1, 5, 6]), (6, [4])], [], [100017], [(23, [301023])]⟩ 26 [.tmp 4] rfl rfl rfl rfl rfl rfl ?_
  conv => whnf
  refine inJ (fun w9 => ⟨[(8, .l (.d (.int .i64 w9.2.2))), (7, .l (.ptr 12 0)), (0, .l (.ptr 12 0)), (1, .l (.mfn 101 12)), (5, .l .nil)], 26, [⟨[(34, .l (.mfn 101 12)), (33, .l (.ptr 12 0)), (32, .l (.ptr 12 0)), (13, .l (.d (.bool false))), (0, .l (.d (.sl (a0.map (eI .u8))))), (2, .l (.ptr 3 0)), (5, .l (.ptr 12 0)), (12, .l (.d (.int .i64 v1.2.2))), (13, .l (.d (.bool (decide (v1.2.2 < (3 : Int))))))], 74⟩], [(3, [.nil, .nil]), (12, [.d (.sl (a0.map (eI .u8))), .d (.int .i64 w9.1), .d (.int .i64 w9.2.1)])], []⟩) h (fun k9 hk9 h => ?_) (fun w9 h => ?_)
  ·conv => whnf
   refine inS (fn := Tryz.f99) tab ⟨[(0, [0]), (1, [0, 19]), (2, [0]), (3, [0, 27]), (4, [2]), (5, [0]), (6, [2])], [], [100019, 3], []⟩ 47 [.tmp 2] rfl rfl rfl rfl rfl rfl ?_
   conv => whnf
   refine jnS (fun w10 => ⟨[(0, .l (.ptr 12 0))], 47, [⟨[(7, .l (.ptr 12 0)), (0, .l (.ptr 12 0)), (1, .l (.mfn 101 12)), (5, .l .nil)], 26⟩, ⟨[(34, .l (.mfn 101 12)), (33, .l (.ptr 12 0)), (32, .l (.ptr 12 0)), (13, .l (.d (.bool false))), (0, .l (.d (.sl (a0.map (eI .u8))))), (2, .l (.ptr 3 0)), (5, .l (.ptr 12 0)), (12, .l (.d (.int .i64 v1.2.2))), (13, .l (.d (.bool (decide (v1.2.2 < (3 : Int))))))], 74⟩], [(3, [.nil, .nil]), (12, [.d (.sl (a0.map (eI .u8))), .d (.int .i64 v1.1), .d (.int .i64 w10)])], []⟩) h (fun k10 hk10 h => ?_) (fun w10 h => ?_)
   ·conv => whnf
    refine jnS (fun w11 => ⟨[(0, .l (.ptr 12 0)), (19, .l (.d (.bool w11)))], 47, [⟨[(7, .l (.ptr 12 0)), (0, .l (.ptr 12 0)), (1, .l (.mfn 101 12)), (5, .l .nil)], 26⟩, ⟨[(34, .l (.mfn 101 12)), (33, .l (.ptr 12 0)), (32, .l (.ptr 12 0)), (13, .l (.d (.bool false))), (0, .l (.d (.sl (a0.map (eI .u8))))), (2, .l (.ptr 3 0)), (5, .l (.ptr 12 0)), (12, .l (.d (.int .i64 v1.2.2))), (13, .l (.d (.bool (decide (v1.2.2 < (3 : Int))))))], 74⟩], [(3, [.nil, .nil]), (12, [.d (.sl (a0.map (eI .u8))), .d (.int .i64 v1.1), .d (.int .i64 v1.2.1)])], []⟩) h (fun k11 hk11 h => ?_) (fun w11 h => ?_)
    ·conv => whnf
     refine ⟨17, ?_⟩
     conv => whnf
     refine fkS h (fun h => ?_) (fun h => ?_)
     ·conv => whnf
      refine lenS a0 (eI .u8) rfl ?_
      conv => whnf
      refine drS (by kernel_rfl) ?_
      conv => whnf
      exact jeS hk11 h (Weak.refl _)
     conv => whnf
     refine drS (by kernel_rfl) ?_
     conv => whnf
     exact jeS hk11 h (Weak.refl _)
    conv => whnf
    refine fkS h (fun h => ?_) (fun h => ?_)
    ·conv => whnf
     exact jeS hk10 h (Weak.refl _)
    conv => whnf
    refine jeX hk10 h ?_
    conv => whnf
    refine WkF.step (Weak.keepS _ [0]) ?_
    conv => whnf
    exact WkF.refl _
   conv => whnf
   refine fkS h (fun h => ?_) (fun h => ?_)
   ·conv => whnf
    exact jeS hk9 h (Weak.refl _)
   conv => whnf
   refine ⟨9, ?_⟩
   conv => whnf
   refine drS (by kernel_rfl) ?_
   conv => whnf
   refine ixS (enc := (eI .u8)) h rfl (fun _ => rfl) (fun x12 h => ?_)
   conv => whnf
   exact jeS hk9 h (Weak.refl _)
  conv => whnf
  refine lpS (fun v13 => ⟨[(0, .l (.ptr 12 0)), (1, .l (.mfn 101 12)), (5, .l (.own 1006)), (6, .l (.d (.int .i64 v13.2.2.2)))], 26, [⟨[(34, .l (.mfn 101 12)), (33, .l (.ptr 12 0)), (32, .l (.ptr 12 0)), (13, .l (.d (.bool false))), (0, .l (.d (.sl (a0.map (eI .u8))))), (2, .l (.ptr 3 0)), (5, .l (.ptr 12 0)), (12, .l (.d (.int .i64 v1.2.2))), (13, .l (.d (.bool (decide (v1.2.2 < (3 : Int))))))], 74⟩], [(3, [.nil, .nil]), (12, [.d (.sl (a0.map (eI .u8))), .d (.int .i64 v13.1), .d (.int .i64 v13.2.1)])], [(1006, 57, 3, v13.2.2.1.map Part.enc)]⟩) h (Weak.trans (Weak.nilO _ 5 1006 57 3 rfl) (Weak.refl _)) (fun _ nx13 hn13 v13 h => ?_)
  conv => whnf
  refine jnS (fun w14 => ⟨[(0, .l (.ptr 12 0)), (1, .l (.mfn 101 12)), (5, .l (.own 1006)), (6, .l (.d (.int .i64 v13.2.2.2))), (17, .l (.d (.bool w14)))], 26, [⟨[(34, .l (.mfn 101 12)), (33, .l (.ptr 12 0)), (32, .l (.ptr 12 0)), (13, .l (.d (.bool false))), (0, .l (.d (.sl (a0.map (eI .u8))))), (2, .l (.ptr 3 0)), (5, .l (.ptr 12 0)), (12, .l (.d (.int .i64 v1.2.2))), (13, .l (.d (.bool (decide (v1.2.2 < (3 : Int))))))], 74⟩], [(3, [.nil, .nil]), (12, [.d (.sl (a0.map (eI .u8))), .d (.int .i64 v13.1), .d (.int .i64 v13.2.1)])], [(1006, 57, 3, v13.2.2.1.map Part.enc)]⟩) h (fun k14 hk14 h => ?_) (fun w14 h => ?_)
  ·conv => whnf
   refine fkS h (fun h => ?_) (fun h => ?_)
   ·conv => whnf
    exact jeS hk14 h (Weak.refl _)
   conv => whnf
   exact jeS hk14 h (Weak.refl _)
  conv => whnf
  refine fkS h (fun h => ?_) (fun h => ?_)
  ·conv => whnf
   refine inJ (fun w15 => ⟨[(22, .agg [.d (.int .i64 w15.2.2.2.1), .d (.int .i64 w15.2.2.2.2), .own 301023]), (21, .l (.mfn 101 12)), (20, .l (.own 1006)), (17, .l (.d (.bool true))), (0, .l (.ptr 12 0)), (1, .l (.mfn 101 12)), (5, .l (.own 1006)), (6, .l (.d (.int .i64 v13.2.2.2)))], 26, [⟨[(34, .l (.mfn 101 12)), (33, .l (.ptr 12 0)), (32, .l (.ptr 12 0)), (13, .l (.d (.bool false))), (0, .l (.d (.sl (a0.map (eI .u8))))), (2, .l (.ptr 3 0)), (5, .l (.ptr 12 0)), (12, .l (.d (.int .i64 v1.2.2))), (13, .l (.d (.bool (decide (v1.2.2 < (3 : Int))))))], 74⟩], [(3, [.nil, .nil]), (12, [.d (.sl (a0.map (eI .u8))), .d (.int .i64 w15.1), .d (.int .i64 w15.2.1)])], [(1006, 57, 3, v13.2.2.1.map Part.enc), (301023, 67, 4, w15.2.2.1.map Task.enc)]⟩) h (fun k15 hk15 h => ?_) (fun w15 h => ?_)
   ·conv => whnf
    refine inS (fn := Tryz.f101) tab ⟨[(0, [0, 2]), (1, [0, 2, 3, 4]), (2, [2])], [], [], []⟩ 17 [.cell 2 57] rfl rfl rfl rfl rfl rfl ?_
    conv => whnf
    refine inJ (fun w16 => ⟨[(6, .l (.d (.int .i64 w16.2.2))), (5, .l (.ptr 12 0)), (0, .l (.ptr 12 0)), (2, .l (.ptr 2003 0))], 17, [⟨[(21, .l (.mfn 101 12)), (20, .l (.own 1006)), (17, .l (.d (.bool true))), (0, .l (.ptr 12 0)), (1, .l (.mfn 101 12)), (5, .l (.own 1006)), (6, .l (.d (.int .i64 v13.2.2.2))), (17, .l (.d (.bool w14)))], 26⟩, ⟨[(34, .l (.mfn 101 12)), (33, .l (.ptr 12 0)), (32, .l (.ptr 12 0)), (13, .l (.d (.bool false))), (0, .l (.d (.sl (a0.map (eI .u8))))), (2, .l (.ptr 3 0)), (5, .l (.ptr 12 0)), (12, .l (.d (.int .i64 v1.2.2))), (13, .l (.d (.bool (decide (v1.2.2 < (3 : Int))))))], 74⟩], [(3, [.nil, .nil]), (12, [.d (.sl (a0.map (eI .u8))), .d (.int .i64 w16.1), .d (.int .i64 w16.2.1)]), (2003, [.d (.int .i64 (0 : Int)), .d (.int .i64 (0 : Int)), .nil])], [(1006, 57, 3, v13.2.2.1.map Part.enc)]⟩) h (fun k16 hk16 h => ?_) (fun w16 h => ?_)
    ·conv => whnf
     refine inS (fn := Tryz.f99) tab ⟨[(0, [0]), (1, [0, 19]), (2, [0]), (3, [0, 27]), (4, [2]), (5, [0]), (6, [2])], [], [100019, 3], []⟩ 47 [.tmp 2] rfl rfl rfl rfl rfl rfl ?_
     conv => whnf
     refine jnS (fun w17 => ⟨[(0, .l (.ptr 12 0))], 47, [⟨[(5, .l (.ptr 12 0)), (0, .l (.ptr 12 0)), (2, .l (.ptr 2003 0))], 17⟩, ⟨[(21, .l (.mfn 101 12)), (20, .l (.own 1006)), (17, .l (.d (.bool true))), (0, .l (.ptr 12 0)), (1, .l (.mfn 101 12)), (5, .l (.own 1006)), (6, .l (.d (.int .i64 v13.2.2.2))), (17, .l (.d (.bool w14)))], 26⟩, ⟨[(34, .l (.mfn 101 12)), (33, .l (.ptr 12 0)), (32, .l (.ptr 12 0)), (13, .l (.d (.bool false))), (0, .l (.d (.sl (a0.map (eI .u8))))), (2, .l (.ptr 3 0)), (5, .l (.ptr 12 0)), (12, .l (.d (.int .i64 v1.2.2))), (13, .l (.d (.bool (decide (v1.2.2 < (3 : Int))))))], 74⟩], [(3, [.nil, .nil]), (12, [.d (.sl (a0.map (eI .u8))), .d (.int .i64 v13.1), .d (.int .i64 w17)]), (2003, [.d (.int .i64 (0 : Int)), .d (.int .i64 (0 : Int)), .nil])], [(1006, 57, 3, v13.2.2.1.map Part.enc)]⟩) h (fun k17 hk17 h => ?_) (fun w17 h => ?_)
     ·conv => whnf
      refine jnS (fun w18 => ⟨[(0, .l (.ptr 12 0)), (19, .l (.d (.bool w18)))], 47, [⟨[(5, .l (.ptr 12 0)), (0, .l (.ptr 12 0)), (2, .l (.ptr 2003 0))], 17⟩, ⟨[(21, .l (.mfn 101 12)), (20, .l (.own 1006)), (17, .l (.d (.bool true))), (0, .l (.ptr 12 0)), (1, .l (.mfn 101 12)), (5, .l (.own 1006)), (6, .l (.d (.int .i64 v13.2.2.2))), (17, .l (.d (.bool w14)))], 26⟩, ⟨[(34, .l (.mfn 101 12)), (33, .l (.ptr 12 0)), (32, .l (.ptr 12 0)), (13, .l (.d (.bool false))), (0, .l (.d (.sl (a0.map (eI .u8))))), (2, .l (.ptr 3 0)), (5, .l (.ptr 12 0)), (12, .l (.d (.int .i64 v1.2.2))), (13, .l (.d (.bool (decide (v1.2.2 < (3 : Int))))))], 74⟩], [(3, [.nil, .nil]), (12, [.d (.sl (a0.map (eI .u8))), .d (.int .i64 v13.1), .d (.int .i64 v13.2.1)]), (2003, [.d (.int .i64 (0 : Int)), .d (.int .i64 (0 : Int)), .nil])], [(1006, 57, 3, v13.2.2.1.map Part.enc)]⟩) h (fun k18 hk18 h => ?_) (fun w18 h => ?_)
      ·conv => whnf
       refine ⟨17, ?_⟩
       conv => whnf
       refine fkS h (fun h => ?_) (fun h => ?_)
       ·conv => whnf
        refine lenS a0 (eI .u8) rfl ?_
        conv => whnf
        refine drS (by kernel_rfl) ?_
        conv => whnf
        exact jeS hk18 h (Weak.refl _)
       conv => whnf
       refine drS (by kernel_rfl) ?_
       conv => whnf
       exact jeS hk18 h (Weak.refl _)
      conv => whnf
      refine fkS h (fun h => ?_) (fun h => ?_)
      ·conv => whnf
       exact jeS hk17 h (Weak.refl _)
      conv => whnf
      refine jeX hk17 h ?_
      conv => whnf
      refine WkF.step (Weak.keepS _ [0]) ?_
      conv => whnf
      exact WkF.refl _
     conv => whnf
     refine fkS h (fun h => ?_) (fun h => ?_)
     ·conv => whnf
      exact jeS hk16 h (Weak.refl _)
     conv => whnf
     refine ⟨9, ?_⟩
     conv => whnf
     refine drS (by kernel_rfl) ?_
     conv => whnf
     refine ixS (enc := (eI .u8)) h rfl (fun _ => rfl) (fun x19 h => ?_)
     conv => whnf
     exact jeS hk16 h (Weak.refl _)
    conv => whnf
    refine inJ (fun w20 => ⟨[(8, .l (.d (.int .i64 w20.2.2))), (7, .l (.ptr 12 0)), (6, .l (.d (.int .i64 w16.2.2))), (5, .l (.ptr 12 0)), (0, .l (.ptr 12 0)), (2, .l (.ptr 2003 0))], 17, [⟨[(21, .l (.mfn 101 12)), (20, .l (.own 1006)), (17, .l (.d (.bool true))), (0, .l (.ptr 12 0)), (1, .l (.mfn 101 12)), (5, .l (.own 1006)), (6, .l (.d (.int .i64 v13.2.2.2))), (17, .l (.d (.bool w14)))], 26⟩, ⟨[(34, .l (.mfn 101 12)), (33, .l (.ptr 12 0)), (32, .l (.ptr 12 0)), (13, .l (.d (.bool false))), (0, .l (.d (.sl (a0.map (eI .u8))))), (2, .l (.ptr 3 0)), (5, .l (.ptr 12 0)), (12, .l (.d (.int .i64 v1.2.2))), (13, .l (.d (.bool (decide (v1.2.2 < (3 : Int))))))], 74⟩], [(3, [.nil, .nil]), (12, [.d (.sl (a0.map (eI .u8))), .d (.int .i64 w20.1), .d (.int .i64 w20.2.1)]), (2003, [.d (.int .i64 (0 : Int)), .d (.int .i64 (0 : Int)), .nil])], [(1006, 57, 3, v13.2.2.1.map Part.enc)]⟩) h (fun k20 hk20 h => ?_) (fun w20 h => ?_)
    ·conv => whnf
     refine inS (fn := Tryz.f99) tab ⟨[(0, [0]), (1, [0, 19]), (2, [0]), (3, [0, 27]), (4, [2]), (5, [0]), (6, [2])], [], [100019, 3], []⟩ 47 [.tmp 2] rfl rfl rfl rfl rfl rfl ?_
     conv => whnf
     refine jnS (fun w21 => ⟨[(0, .l (.ptr 12 0))], 47, [⟨[(7, .l (.ptr 12 0)), (6, .l (.d (.int .i64 w16.2.2))), (5, .l (.ptr 12 0)), (0, .l (.ptr 12 0)), (2, .l (.ptr 2003 0))], 17⟩, ⟨[(21, .l (.mfn 101 12)), (20, .l (.own 1006)), (17, .l (.d (.bool true))), (0, .l (.ptr 12 0)), (1, .l (.mfn 101 12)), (5, .l (.own 1006)), (6, .l (.d (.int .i64 v13.2.2.2))), (17, .l (.d (.bool w14)))], 26⟩, ⟨[(34, .l (.mfn 101 12)), (33, .l (.ptr 12 0)), (32, .l (.ptr 12 0)), (13, .l (.d (.bool false))), (0, .l (.d (.sl (a0.map (eI .u8))))), (2, .l (.ptr 3 0)), (5, .l (.ptr 12 0)), (12, .l (.d (.int .i64 v1.2.2))), (13, .l (.d (.bool (decide (v1.2.2 < (3 : Int))))))], 74⟩], [(3, [.nil, .nil]), (12, [.d (.sl (a0.map (eI .u8))), .d (.int .i64 w16.1), .d (.int .i64 w21)]), (2003, [.d (.int .i64 (0 : Int)), .d (.int .i64 (0 : Int)), .nil])], [(1006, 57, 3, v13.2.2.1.map Part.enc)]⟩) h (fun k21 hk21 h => ?_) (fun w21 h => ?_)
     ·conv => whnf
      refine jnS (fun w22 => ⟨[(0, .l (.ptr 12 0)), (19, .l (.d (.bool w22)))], 47, [⟨[(7, .l (.ptr 12 0)), (6, .l (.d (.int .i64 w16.2.2))), (5, .l (.ptr 12 0)), (0, .l (.ptr 12 0)), (2, .l (.ptr 2003 0))], 17⟩, ⟨[(21, .l (.mfn 101 12)), (20, .l (.own 1006)), (17, .l (.d (.bool true))), (0, .l (.ptr 12 0)), (1, .l (.mfn 101 12)), (5, .l (.own 1006)), (6, .l (.d (.int .i64 v13.2.2.2))), (17, .l (.d (.bool w14)))], 26⟩, ⟨[(34, .l (.mfn 101 12)), (33, .l (.ptr 12 0)), (32, .l (.ptr 12 0)), (13, .l (.d (.bool false))), (0, .l (.d (.sl (a0.map (eI .u8))))), (2, .l (.ptr 3 0)), (5, .l (.ptr 12 0)), (12, .l (.d (.int .i64 v1.2.2))), (13, .l (.d (.bool (decide (v1.2.2 < (3 : Int))))))], 74⟩], [(3, [.nil, .nil]), (12, [.d (.sl (a0.map (eI .u8))), .d (.int .i64 w16.1), .d (.int .i64 w16.2.1)]), (2003, [.d (.int .i64 (0 : Int)), .d (.int .i64 (0 : Int)), .nil])], [(1006, 57, 3, v13.2.2.1.map Part.enc)]⟩) h (fun k22 hk22 h => ?_) (fun w22 h => ?_)
      ·conv => whnf
       refine ⟨17, ?_⟩
       conv => whnf
       refine fkS h (fun h => ?_) (fun h => ?_)
       ·conv => whnf
        refine lenS a0 (eI .u8) rfl ?_
        conv => whnf
        refine drS (by kernel_rfl) ?_
        conv => whnf
        exact jeS hk22 h (Weak.refl _)
       conv => whnf
       refine drS (by kernel_rfl) ?_
       conv => whnf
       exact jeS hk22 h (Weak.refl _)
      conv => whnf
      refine fkS h (fun h => ?_) (fun h => ?_)
      ·conv => whnf
       exact jeS hk21 h (Weak.refl _)
      conv => whnf
      refine jeX hk21 h ?_
      conv => whnf
      refine WkF.step (Weak.keepS _ [0]) ?_
      conv => whnf
      exact WkF.refl _
     conv => whnf
     refine fkS h (fun h => ?_) (fun h => ?_)
     ·conv => whnf
      exact jeS hk20 h (Weak.refl _)
     conv => whnf
     refine ⟨9, ?_⟩
     conv => whnf
     refine drS (by kernel_rfl) ?_
     conv => whnf
     refine ixS (enc := (eI .u8)) h rfl (fun _ => rfl) (fun x23 h => ?_)
     conv => whnf
     exact jeS hk20 h (Weak.refl _)
    conv => whnf
    refine inJ (fun w24 => ⟨[(15, .l (.own 2016)), (14, .l (.mfn 149 12)), (13, .l (.ptr 12 0)), (12, .l (.ptr 12 0)), (11, .agg [.d (.int .i64 w16.2.2), .d (.int .i64 w20.2.2)]), (10, .l (.d (.int .i64 w20.2.2))), (9, .l (.d (.int .i64 w16.2.2))), (0, .l (.ptr 12 0)), (2, .l (.ptr 2003 0)), (3, .l (.d (.int .i64 w16.2.2))), (4, .l (.d (.int .i64 w20.2.2)))], 17, [⟨[(21, .l (.mfn 101 12)), (20, .l (.own 1006)), (17, .l (.d (.bool true))), (0, .l (.ptr 12 0)), (1, .l (.mfn 101 12)), (5, .l (.own 1006)), (6, .l (.d (.int .i64 v13.2.2.2))), (17, .l (.d (.bool w14)))], 26⟩, ⟨[(34, .l (.mfn 101 12)), (33, .l (.ptr 12 0)), (32, .l (.ptr 12 0)), (13, .l (.d (.bool false))), (0, .l (.d (.sl (a0.map (eI .u8))))), (2, .l (.ptr 3 0)), (5, .l (.ptr 12 0)), (12, .l (.d (.int .i64 v1.2.2))), (13, .l (.d (.bool (decide (v1.2.2 < (3 : Int))))))], 74⟩], [(3, [.nil, .nil]), (12, [.d (.sl (a0.map (eI .u8))), .d (.int .i64 w24.1), .d (.int .i64 w24.2.1)]), (2003, [.d (.int .i64 (0 : Int)), .d (.int .i64 (0 : Int)), .nil])], [(1006, 57, 3, v13.2.2.1.map Part.enc), (2016, 67, 4, w24.2.2.map Task.enc)]⟩) h (fun k24 hk24 h => ?_) (fun w24 h => ?_)
    ·conv => whnf
     refine inS (fn := Tryz.f148) tab ⟨[(0, [0, 1]), (1, [0, 1, 5]), (2, [0, 1, 5, 6]), (3, [0, 1, 5, 6, 17]), (4, [0, 1, 5, 6]), (5, [0, 1, 5, 6]), (6, [4])], [], [100017], [(23, [403023])]⟩ 26 [.tmp 4] rfl rfl rfl rfl rfl rfl ?_
     conv => whnf
     refine inJ (fun w25 => ⟨[(8, .l (.d (.int .i64 w25.2.2))), (7, .l (.ptr 12 0)), (0, .l (.ptr 12 0)), (1, .l (.mfn 149 12)), (5, .l .nil)], 26, [⟨[(14, .l (.mfn 149 12)), (13, .l (.ptr 12 0)), (12, .l (.ptr 12 0)), (11, .agg [.d (.int .i64 w16.2.2), .d (.int .i64 w20.2.2)]), (10, .l (.d (.int .i64 w20.2.2))), (9, .l (.d (.int .i64 w16.2.2))), (0, .l (.ptr 12 0)), (2, .l (.ptr 2003 0)), (3, .l (.d (.int .i64 w16.2.2))), (4, .l (.d (.int .i64 w20.2.2)))], 17⟩, ⟨[(21, .l (.mfn 101 12)), (20, .l (.own 1006)), (17, .l (.d (.bool true))), (0, .l (.ptr 12 0)), (1, .l (.mfn 101 12)), (5, .l (.own 1006)), (6, .l (.d (.int .i64 v13.2.2.2))), (17, .l (.d (.bool w14)))], 26⟩, ⟨[(34, .l (.mfn 101 12)), (33, .l (.ptr 12 0)), (32, .l (.ptr 12 0)), (13, .l (.d (.bool false))), (0, .l (.d (.sl (a0.map (eI .u8))))), (2, .l (.ptr 3 0)), (5, .l (.ptr 12 0)), (12, .l (.d (.int .i64 v1.2.2))), (13, .l (.d (.bool (decide (v1.2.2 < (3 : Int))))))], 74⟩], [(3, [.nil, .nil]), (12, [.d (.sl (a0.map (eI .u8))), .d (.int .i64 w25.1), .d (.int .i64 w25.2.1)]), (2003, [.d (.int .i64 (0 : Int)), .d (.int .i64 (0 : Int)), .nil])], [(1006, 57, 3, v13.2.2.1.map Part.enc)]⟩) h (fun k25 hk25 h => ?_) (fun w25 h => ?_)
     ·conv => whnf
      refine inS (fn := Tryz.f99) tab ⟨[(0, [0]), (1, [0, 19]), (2, [0]), (3, [0, 27]), (4, [2]), (5, [0]), (6, [2])], [], [100019, 3], []⟩ 47 [.tmp 2] rfl rfl rfl rfl rfl rfl ?_
      conv => whnf
      refine jnS (fun w26 => ⟨[(0, .l (.ptr 12 0))], 47, [⟨[(7, .l (.ptr 12 0)), (0, .l (.ptr 12 0)), (1, .l (.mfn 149 12)), (5, .l .nil)], 26⟩, ⟨[(14, .l (.mfn 149 12)), (13, .l (.ptr 12 0)), (12, .l (.ptr 12 0)), (11, .agg [.d (.int .i64 w16.2.2), .d (.int .i64 w20.2.2)]), (10, .l (.d (.int .i64 w20.2.2))), (9, .l (.d (.int .i64 w16.2.2))), (0, .l (.ptr 12 0)), (2, .l (.ptr 2003 0)), (3, .l (.d (.int .i64 w16.2.2))), (4, .l (.d (.int .i64 w20.2.2)))], 17⟩, ⟨[(21, .l (.mfn 101 12)), (20, .l (.own 1006)), (17, .l (.d (.bool true))), (0, .l (.ptr 12 0)), (1, .l (.mfn 101 12)), (5, .l (.own 1006)), (6, .l (.d (.int .i64 v13.2.2.2))), (17, .l (.d (.bool w14)))], 26⟩, ⟨[(34, .l (.mfn 101 12)), (33, .l (.ptr 12 0)), (32, .l (.ptr 12 0)), (13, .l (.d (.bool false))), (0, .l (.d (.sl (a0.map (eI .u8))))), (2, .l (.ptr 3 0)), (5, .l (.ptr 12 0)), (12, .l (.d (.int .i64 v1.2.2))), (13, .l (.d (.bool (decide (v1.2.2 < (3 : Int))))))], 74⟩], [(3, [.nil, .nil]), (12, [.d (.sl (a0.map (eI .u8))), .d (.int .i64 w20.1), .d (.int .i64 w26)]), (2003, [.d (.int .i64 (0 : Int)), .d (.int .i64 (0 : Int)), .nil])], [(1006, 57, 3, v13.2.2.1.map Part.enc)]⟩) h (fun k26 hk26 h => ?_) (fun w26 h => ?_)
      ·conv => whnf
       refine jnS (fun w27 => ⟨[(0, .l (.ptr 12 0)), (19, .l (.d (.bool w27)))], 47, [⟨[(7, .l (.ptr 12 0)), (0, .l (.ptr 12 0)), (1, .l (.mfn 149 12)), (5, .l .nil)], 26⟩, ⟨[(14, .l (.mfn 149 12)), (13, .l (.ptr 12 0)), (12, .l (.ptr 12 0)), (11, .agg [.d (.int .i64 w16.2.2), .d (.int .i64 w20.2.2)]), (10, .l (.d (.int .i64 w20.2.2))), (9, .l (.d (.int .i64 w16.2.2))), (0, .l (.ptr 12 0)), (2, .l (.ptr 2003 0)), (3, .l (.d (.int .i64 w16.2.2))), (4, .l (.d (.int .i64 w20.2.2)))], 17⟩, ⟨[(21, .l (.mfn 101 12)), (20, .l (.own 1006)), (17, .l (.d (.bool true))), (0, .l (.ptr 12 0)), (1, .l (.mfn 101 12)), (5, .l (.own 1006)), (6, .l (.d (.int .i64 v13.2.2.2))), (17, .l (.d (.bool w14)))], 26⟩, ⟨[(34, .l (.mfn 101 12)), (33, .l (.ptr 12 0)), (32, .l (.ptr 12 0)), (13, .l (.d (.bool false))), (0, .l (.d (.sl (a0.map (eI .u8))))), (2, .l (.ptr 3 0)), (5, .l (.ptr 12 0)), (12, .l (.d (.int .i64 v1.2.2))), (13, .l (.d (.bool (decide (v1.2.2 < (3 : Int))))))], 74⟩], [(3, [.nil, .nil]), (12, [.d (.sl (a0.map (eI .u8))), .d (.int .i64 w20.1), .d (.int .i64 w20.2.1)]), (2003, [.d (.int .i64 (0 : Int)), .d (.int .i64 (0 : Int)), .nil])], [(1006, 57, 3, v13.2.2.1.map Part.enc)]⟩) h (fun k27 hk27 h => ?_) (fun w27 h => ?_)
       ·conv => whnf
        refine ⟨17, ?_⟩
        conv => whnf
        refine fkS h (fun h => ?_) (fun h => ?_)
        ·conv => whnf
         refine lenS a0 (eI .u8) rfl ?_
         conv => whnf
         refine drS (by kernel_rfl) ?_
         conv => whnf
         exact jeS hk27 h (Weak.refl _)
        conv => whnf
        refine drS (by kernel_rfl) ?_
        conv => whnf
        exact jeS hk27 h (Weak.refl _)
       conv => whnf
       refine fkS h (fun h => ?_) (fun h => ?_)
       ·conv => whnf
        exact jeS hk26 h (Weak.refl _)
       conv => whnf
       refine jeX hk26 h ?_
       conv => whnf
       refine WkF.step (Weak.keepS _ [0]) ?_
       conv => whnf
       exact WkF.refl _
      conv => whnf
      refine fkS h (fun h => ?_) (fun h => ?_)
      ·conv => whnf
       exact jeS hk25 h (Weak.refl _)
      conv => whnf
      refine ⟨9, ?_⟩
      conv => whnf
      refine drS (by kernel_rfl) ?_
      conv => whnf
      refine ixS (enc := (eI .u8)) h rfl (fun _ => rfl) (fun x28 h => ?_)
      conv => whnf
      exact jeS hk25 h (Weak.refl _)
     conv => whnf
     refine lpS (fun v29 => ⟨[(0, .l (.ptr 12 0)), (1, .l (.mfn 149 12)), (5, .l (.own 3006)), (6, .l (.d (.int .i64 v29.2.2.2)))], 26, [⟨[(14, .l (.mfn 149 12)), (13, .l (.ptr 12 0)), (12, .l (.ptr 12 0)), (11, .agg [.d (.int .i64 w16.2.2), .d (.int .i64 w20.2.2)]), (10, .l (.d (.int .i64 w20.2.2))), (9, .l (.d (.int .i64 w16.2.2))), (0, .l (.ptr 12 0)), (2, .l (.ptr 2003 0)), (3, .l (.d (.int .i64 w16.2.2))), (4, .l (.d (.int .i64 w20.2.2)))], 17⟩, ⟨[(21, .l (.mfn 101 12)), (20, .l (.own 1006)), (17, .l (.d (.bool true))), (0, .l (.ptr 12 0)), (1, .l (.mfn 101 12)), (5, .l (.own 1006)), (6, .l (.d (.int .i64 v13.2.2.2))), (17, .l (.d (.bool w14)))], 26⟩, ⟨[(34, .l (.mfn 101 12)), (33, .l (.ptr 12 0)), (32, .l (.ptr 12 0)), (13, .l (.d (.bool false))), (0, .l (.d (.sl (a0.map (eI .u8))))), (2, .l (.ptr 3 0)), (5, .l (.ptr 12 0)), (12, .l (.d (.int .i64 v1.2.2))), (13, .l (.d (.bool (decide (v1.2.2 < (3 : Int))))))], 74⟩], [(3, [.nil, .nil]), (12, [.d (.sl (a0.map (eI .u8))), .d (.int .i64 v29.1), .d (.int .i64 v29.2.1)]), (2003, [.d (.int .i64 (0 : Int)), .d (.int .i64 (0 : Int)), .nil])], [(1006, 57, 3, v13.2.2.1.map Part.enc), (3006, 67, 4, v29.2.2.1.map Task.enc)]⟩) h (Weak.trans (Weak.nilO _ 5 3006 67 4 rfl) (Weak.refl _)) (fun _ nx29 hn29 v29 h => ?_)
     conv => whnf
     refine jnS (fun w30 => ⟨[(0, .l (.ptr 12 0)), (1, .l (.mfn 149 12)), (5, .l (.own 3006)), (6, .l (.d (.int .i64 v29.2.2.2))), (17, .l (.d (.bool w30)))], 26, [⟨[(14, .l (.mfn 149 12)), (13, .l (.ptr 12 0)), (12, .l (.ptr 12 0)), (11, .agg [.d (.int .i64 w16.2.2), .d (.int .i64 w20.2.2)]), (10, .l (.d (.int .i64 w20.2.2))), (9, .l (.d (.int .i64 w16.2.2))), (0, .l (.ptr 12 0)), (2, .l (.ptr 2003 0)), (3, .l (.d (.int .i64 w16.2.2))), (4, .l (.d (.int .i64 w20.2.2)))], 17⟩, ⟨[(21, .l (.mfn 101 12)), (20, .l (.own 1006)), (17, .l (.d (.bool true))), (0, .l (.ptr 12 0)), (1, .l (.mfn 101 12)), (5, .l (.own 1006)), (6, .l (.d (.int .i64 v13.2.2.2))), (17, .l (.d (.bool w14)))], 26⟩, ⟨[(34, .l (.mfn 101 12)), (33, .l (.ptr 12 0)), (32, .l (.ptr 12 0)), (13, .l (.d (.bool false))), (0, .l (.d (.sl (a0.map (eI .u8))))), (2, .l (.ptr 3 0)), (5, .l (.ptr 12 0)), (12, .l (.d (.int .i64 v1.2.2))), (13, .l (.d (.bool (decide (v1.2.2 < (3 : Int))))))], 74⟩], [(3, [.nil, .nil]), (12, [.d (.sl (a0.map (eI .u8))), .d (.int .i64 v29.1), .d (.int .i64 v29.2.1)]), (2003, [.d (.int .i64 (0 : Int)), .d (.int .i64 (0 : Int)), .nil])], [(1006, 57, 3, v13.2.2.1.map Part.enc), (3006, 67, 4, v29.2.2.1.map Task.enc)]⟩) h (fun k30 hk30 h => ?_) (fun w30 h => ?_)
     ·conv => whnf
      refine fkS h (fun h => ?_) (fun h => ?_)
      ·conv => whnf
       exact jeS hk30 h (Weak.refl _)
      conv => whnf
      exact jeS hk30 h (Weak.refl _)
     conv => whnf
     refine fkS h (fun h => ?_) (fun h => ?_)
     ·conv => whnf
      refine inJ (fun w31 => ⟨[(22, .agg [.d (.int .i64 w31.2.2.2.1), .d (.int .i64 w31.2.2.2.2.1), .d (.int .i64 w31.2.2.2.2.2), .own 403023]), (21, .l (.mfn 149 12)), (20, .l (.own 3006)), (17, .l (.d (.bool true))), (0, .l (.ptr 12 0)), (1, .l (.mfn 149 12)), (5, .l (.own 3006)), (6, .l (.d (.int .i64 v29.2.2.2)))], 26, [⟨[(14, .l (.mfn 149 12)), (13, .l (.ptr 12 0)), (12, .l (.ptr 12 0)), (11, .agg [.d (.int .i64 w16.2.2), .d (.int .i64 w20.2.2)]), (10, .l (.d (.int .i64 w20.2.2))), (9, .l (.d (.int .i64 w16.2.2))), (0, .l (.ptr 12 0)), (2, .l (.ptr 2003 0)), (3, .l (.d (.int .i64 w16.2.2))), (4, .l (.d (.int .i64 w20.2.2)))], 17⟩, ⟨[(21, .l (.mfn 101 12)), (20, .l (.own 1006)), (17, .l (.d (.bool true))), (0, .l (.ptr 12 0)), (1, .l (.mfn 101 12)), (5, .l (.own 1006)), (6, .l (.d (.int .i64 v13.2.2.2))), (17, .l (.d (.bool w14)))], 26⟩, ⟨[(34, .l (.mfn 101 12)), (33, .l (.ptr 12 0)), (32, .l (.ptr 12 0)), (13, .l (.d (.bool false))), (0, .l (.d (.sl (a0.map (eI .u8))))), (2, .l (.ptr 3 0)), (5, .l (.ptr 12 0)), (12, .l (.d (.int .i64 v1.2.2))), (13, .l (.d (.bool (decide (v1.2.2 < (3 : Int))))))], 74⟩], [(3, [.nil, .nil]), (12, [.d (.sl (a0.map (eI .u8))), .d (.int .i64 w31.1), .d (.int .i64 w31.2.1)]), (2003, [.d (.int .i64 (0 : Int)), .d (.int .i64 (0 : Int)), .nil])], [(1006, 57, 3, v13.2.2.1.map Part.enc), (3006, 67, 4, v29.2.2.1.map Task.enc), (403023, 200, 3, w31.2.2.1.map Sec.enc)]⟩) h (fun k31 hk31 h => ?_) (fun w31 h => ?_)
      ·conv => whnf
       refine inS (fn := Tryz.f149) tab ⟨[(0, [0, 2]), (1, [0, 2, 3, 4, 5]), (2, [2])], [], [], []⟩ 20 [.cell 2 67] rfl rfl rfl rfl rfl rfl ?_
       conv => whnf
       refine inJ (fun w32 => ⟨[(7, .l (.d (.int .i64 w32.2.2))), (6, .l (.ptr 12 0)), (0, .l (.ptr 12 0)), (2, .l (.ptr 4003 0))], 20, [⟨[(21, .l (.mfn 149 12)), (20, .l (.own 3006)), (17, .l (.d (.bool true))), (0, .l (.ptr 12 0)), (1, .l (.mfn 149 12)), (5, .l (.own 3006)), (6, .l (.d (.int .i64 v29.2.2.2))), (17, .l (.d (.bool w30)))], 26⟩, ⟨[(14, .l (.mfn 149 12)), (13, .l (.ptr 12 0)), (12, .l (.ptr 12 0)), (11, .agg [.d (.int .i64 w16.2.2), .d (.int .i64 w20.2.2)]), (10, .l (.d (.int .i64 w20.2.2))), (9, .l (.d (.int .i64 w16.2.2))), (0, .l (.ptr 12 0)), (2, .l (.ptr 2003 0)), (3, .l (.d (.int .i64 w16.2.2))), (4, .l (.d (.int .i64 w20.2.2)))], 17⟩, ⟨[(21, .l (.mfn 101 12)), (20, .l (.own 1006)), (17, .l (.d (.bool true))), (0, .l (.ptr 12 0)), (1, .l (.mfn 101 12)), (5, .l (.own 1006)), (6, .l (.d (.int .i64 v13.2.2.2))), (17, .l (.d (.bool w14)))], 26⟩, ⟨[(34, .l (.mfn 101 12)), (33, .l (.ptr 12 0)), (32, .l (.ptr 12 0)), (13, .l (.d (.bool false))), (0, .l (.d (.sl (a0.map (eI .u8))))), (2, .l (.ptr 3 0)), (5, .l (.ptr 12 0)), (12, .l (.d (.int .i64 v1.2.2))), (13, .l (.d (.bool (decide (v1.2.2 < (3 : Int))))))], 74⟩], [(3, [.nil, .nil]), (12, [.d (.sl (a0.map (eI .u8))), .d (.int .i64 w32.1), .d (.int .i64 w32.2.1)]), (2003, [.d (.int .i64 (0 : Int)), .d (.int .i64 (0 : Int)), .nil]), (4003, [.d (.int .i64 (0 : Int)), .d (.int .i64 (0 : Int)), .d (.int .i64 (0 : Int)), .nil])], [(1006, 57, 3, v13.2.2.1.map Part.enc), (3006, 67, 4, v29.2.2.1.map Task.enc)]⟩) h (fun k32 hk32 h => ?_) (fun w32 h => ?_)
       ·conv => whnf
        refine inS (fn := Tryz.f99) tab ⟨[(0, [0]), (1, [0, 19]), (2, [0]), (3, [0, 27]), (4, [2]), (5, [0]), (6, [2])], [], [100019, 3], []⟩ 47 [.tmp 2] rfl rfl rfl rfl rfl rfl ?_
        conv => whnf
        refine jnS (fun w33 => ⟨[(0, .l (.ptr 12 0))], 47, [⟨[(6, .l (.ptr 12 0)), (0, .l (.ptr 12 0)), (2, .l (.ptr 4003 0))], 20⟩, ⟨[(21, .l (.mfn 149 12)), (20, .l (.own 3006)), (17, .l (.d (.bool true))), (0, .l (.ptr 12 0)), (1, .l (.mfn 149 12)), (5, .l (.own 3006)), (6, .l (.d (.int .i64 v29.2.2.2))), (17, .l (.d (.bool w30)))], 26⟩, ⟨[(14, .l (.mfn 149 12)), (13, .l (.ptr 12 0)), (12, .l (.ptr 12 0)), (11, .agg [.d (.int .i64 w16.2.2), .d (.int .i64 w20.2.2)]), (10, .l (.d (.int .i64 w20.2.2))), (9, .l (.d (.int .i64 w16.2.2))), (0, .l (.ptr 12 0)), (2, .l (.ptr 2003 0)), (3, .l (.d (.int .i64 w16.2.2))), (4, .l (.d (.int .i64 w20.2.2)))], 17⟩, ⟨[(21, .l (.mfn 101 12)), (20, .l (.own 1006)), (17, .l (.d (.bool true))), (0, .l (.ptr 12 0)), (1, .l (.mfn 101 12)), (5, .l (.own 1006)), (6, .l (.d (.int .i64 v13.2.2.2))), (17, .l (.d (.bool w14)))], 26⟩, ⟨[(34, .l (.mfn 101 12)), (33, .l (.ptr 12 0)), (32, .l (.ptr 12 0)), (13, .l (.d (.bool false))), (0, .l (.d (.sl (a0.map (eI .u8))))), (2, .l (.ptr 3 0)), (5, .l (.ptr 12 0)), (12, .l (.d (.int .i64 v1.2.2))), (13, .l (.d (.bool (decide (v1.2.2 < (3 : Int))))))], 74⟩], [(3, [.nil, .nil]), (12, [.d (.sl (a0.map (eI .u8))), .d (.int .i64 v29.1), .d (.int .i64 w33)]), (2003, [.d (.int .i64 (0 : Int)), .d (.int .i64 (0 : Int)), .nil]), (4003, [.d (.int .i64 (0 : Int)), .d (.int .i64 (0 : Int)), .d (.int .i64 (0 : Int)), .nil])], [(1006, 57, 3, v13.2.2.1.map Part.enc), (3006, 67, 4, v29.2.2.1.map Task.enc)]⟩) h (fun k33 hk33 h => ?_) (fun w33 h => ?_)
        ·conv => whnf
         refine jnS (fun w34 => ⟨[(0, .l (.ptr 12 0)), (19, .l (.d (.bool w34)))], 47, [⟨[(6, .l (.ptr 12 0)), (0, .l (.ptr 12 0)), (2, .l (.ptr 4003 0))], 20⟩, ⟨[(21, .l (.mfn 149 12)), (20, .l (.own 3006)), (17, .l (.d (.bool true))), (0, .l (.ptr 12 0)), (1, .l (.mfn 149 12)), (5, .l (.own 3006)), (6, .l (.d (.int .i64 v29.2.2.2))), (17, .l (.d (.bool w30)))], 26⟩, ⟨[(14, .l (.mfn 149 12)), (13, .l (.ptr 12 0)), (12, .l (.ptr 12 0)), (11, .agg [.d (.int .i64 w16.2.2), .d (.int .i64 w20.2.2)]), (10, .l (.d (.int .i64 w20.2.2))), (9, .l (.d (.int .i64 w16.2.2))), (0, .l (.ptr 12 0)), (2, .l (.ptr 2003 0)), (3, .l (.d (.int .i64 w16.2.2))), (4, .l (.d (.int .i64 w20.2.2)))], 17⟩, ⟨[(21, .l (.mfn 101 12)), (20, .l (.own 1006)), (17, .l (.d (.bool true))), (0, .l (.ptr 12 0)), (1, .l (.mfn 101 12)), (5, .l (.own 1006)), (6, .l (.d (.int .i64 v13.2.2.2))), (17, .l (.d (.bool w14)))], 26⟩, ⟨[(34, .l (.mfn 101 12)), (33, .l (.ptr 12 0)), (32, .l (.ptr 12 0)), (13, .l (.d (.bool false))), (0, .l (.d (.sl (a0.map (eI .u8))))), (2, .l (.ptr 3 0)), (5, .l (.ptr 12 0)), (12, .l (.d (.int .i64 v1.2.2))), (13, .l (.d (.bool (decide (v1.2.2 < (3 : Int))))))], 74⟩], [(3, [.nil, .nil]), (12, [.d (.sl (a0.map (eI .u8))), .d (.int .i64 v29.1), .d (.int .i64 v29.2.1)]), (2003, [.d (.int .i64 (0 : Int)), .d (.int .i64 (0 : Int)), .nil]), (4003, [.d (.int .i64 (0 : Int)), .d (.int .i64 (0 : Int)), .d (.int .i64 (0 : Int)), .nil])], [(1006, 57, 3, v13.2.2.1.map Part.enc), (3006, 67, 4, v29.2.2.1.map Task.enc)]⟩) h (fun k34 hk34 h => ?_) (fun w34 h => ?_)
         ·conv => whnf
          refine ⟨17, ?_⟩
          conv => whnf
          refine fkS h (fun h => ?_) (fun h => ?_)
          ·conv => whnf
           refine lenS a0 (eI .u8) rfl ?_
           conv => whnf
           refine drS (by kernel_rfl) ?_
           conv => whnf
           exact jeS hk34 h (Weak.refl _)
          conv => whnf
          refine drS (by kernel_rfl) ?_
          conv => whnf
          exact jeS hk34 h (Weak.refl _)
         conv => whnf
         refine fkS h (fun h => ?_) (fun h => ?_)
         ·conv => whnf
          exact jeS hk33 h (Weak.refl _)
         conv => whnf
         refine jeX hk33 h ?_
         conv => whnf
         refine WkF.step (Weak.keepS _ [0]) ?_
         conv => whnf
         exact WkF.refl _
        conv => whnf
        refine fkS h (fun h => ?_) (fun h => ?_)
        ·conv => whnf
         exact jeS hk32 h (Weak.refl _)
        conv => whnf
        refine ⟨9, ?_⟩
        conv => whnf
        refine drS (by kernel_rfl) ?_
        conv => whnf
        refine ixS (enc := (eI .u8)) h rfl (fun _ => rfl) (fun x35 h => ?_)
        conv => whnf
        exact jeS hk32 h (Weak.refl _)
       conv => whnf
       refine inJ (fun w36 => ⟨[(9, .l (.d (.int .i64 w36.2.2))), (8, .l (.ptr 12 0)), (7, .l (.d (.int .i64 w32.2.2))), (6, .l (.ptr 12 0)), (0, .l (.ptr 12 0)), (2, .l (.ptr 4003 0))], 20, [⟨[(21, .l (.mfn 149 12)), (20, .l (.own 3006)), (17, .l (.d (.bool true))), (0, .l (.ptr 12 0)), (1, .l (.mfn 149 12)), (5, .l (.own 3006)), (6, .l (.d (.int .i64 v29.2.2.2))), (17, .l (.d (.bool w30)))], 26⟩, ⟨[(14, .l (.mfn 149 12)), (13, .l (.ptr 12 0)), (12, .l (.ptr 12 0)), (11, .agg [.d (.int .i64 w16.2.2), .d (.int .i64 w20.2.2)]), (10, .l (.d (.int .i64 w20.2.2))), (9, .l (.d (.int .i64 w16.2.2))), (0, .l (.ptr 12 0)), (2, .l (.ptr 2003 0)), (3, .l (.d (.int .i64 w16.2.2))), (4, .l (.d (.int .i64 w20.2.2)))], 17⟩, ⟨[(21, .l (.mfn 101 12)), (20, .l (.own 1006)), (17, .l (.d (.bool true))), (0, .l (.ptr 12 0)), (1, .l (.mfn 101 12)), (5, .l (.own 1006)), (6, .l (.d (.int .i64 v13.2.2.2))), (17, .l (.d (.bool w14)))], 26⟩, ⟨[(34, .l (.mfn 101 12)), (33, .l (.ptr 12 0)), (32, .l (.ptr 12 0)), (13, .l (.d (.bool false))), (0, .l (.d (.sl (a0.map (eI .u8))))), (2, .l (.ptr 3 0)), (5, .l (.ptr 12 0)), (12, .l (.d (.int .i64 v1.2.2))), (13, .l (.d (.bool (decide (v1.2.2 < (3 : Int))))))], 74⟩], [(3, [.nil, .nil]), (12, [.d (.sl (a0.map (eI .u8))), .d (.int .i64 w36.1), .d (.int .i64 w36.2.1)]), (2003, [.d (.int .i64 (0 : Int)), .d (.int .i64 (0 : Int)), .nil]), (4003, [.d (.int .i64 (0 : Int)), .d (.int .i64 (0 : Int)), .d (.int .i64 (0 : Int)), .nil])], [(1006, 57, 3, v13.2.2.1.map Part.enc), (3006, 67, 4, v29.2.2.1.map Task.enc)]⟩) h (fun k36 hk36 h => ?_) (fun w36 h => ?_)
       ·conv => whnf
        refine inS (fn := Tryz.f99) tab ⟨[(0, [0]), (1, [0, 19]), (2, [0]), (3, [0, 27]), (4, [2]), (5, [0]), (6, [2])], [], [100019, 3], []⟩ 47 [.tmp 2] rfl rfl rfl rfl rfl rfl ?_
        conv => whnf
        refine jnS (fun w37 => ⟨[(0, .l (.ptr 12 0))], 47, [⟨[(8, .l (.ptr 12 0)), (7, .l (.d (.int .i64 w32.2.2))), (6, .l (.ptr 12 0)), (0, .l (.ptr 12 0)), (2, .l (.ptr 4003 0))], 20⟩, ⟨[(21, .l (.mfn 149 12)), (20, .l (.own 3006)), (17, .l (.d (.bool true))), (0, .l (.ptr 12 0)), (1, .l (.mfn 149 12)), (5, .l (.own 3006)), (6, .l (.d (.int .i64 v29.2.2.2))), (17, .l (.d (.bool w30)))], 26⟩, ⟨[(14, .l (.mfn 149 12)), (13, .l (.ptr 12 0)), (12, .l (.ptr 12 0)), (11, .agg [.d (.int .i64 w16.2.2), .d (.int .i64 w20.2.2)]), (10, .l (.d (.int .i64 w20.2.2))), (9, .l (.d (.int .i64 w16.2.2))), (0, .l (.ptr 12 0)), (2, .l (.ptr 2003 0)), (3, .l (.d (.int .i64 w16.2.2))), (4, .l (.d (.int .i64 w20.2.2)))], 17⟩, ⟨[(21, .l (.mfn 101 12)), (20, .l (.own 1006)), (17, .l (.d (.bool true))), (0, .l (.ptr 12 0)), (1, .l (.mfn 101 12)), (5, .l (.own 1006)), (6, .l (.d (.int .i64 v13.2.2.2))), (17, .l (.d (.bool w14)))], 26⟩, ⟨[(34, .l (.mfn 101 12)), (33, .l (.ptr 12 0)), (32, .l (.ptr 12 0)), (13, .l (.d (.bool false))), (0, .l (.d (.sl (a0.map (eI .u8))))), (2, .l (.ptr 3 0)), (5, .l (.ptr 12 0)), (12, .l (.d (.int .i64 v1.2.2))), (13, .l (.d (.bool (decide (v1.2.2 < (3 : Int))))))], 74⟩], [(3, [.nil, .nil]), (12, [.d (.sl (a0.map (eI .u8))), .d (.int .i64 w32.1), .d (.int .i64 w37)]), (2003, [.d (.int .i64 (0 : Int)), .d (.int .i64 (0 : Int)), .nil]), (4003, [.d (.int .i64 (0 : Int)), .d (.int .i64 (0 : Int)), .d (.int .i64 (0 : Int)), .nil])], [(1006, 57, 3, v13.2.2.1.map Part.enc), (3006, 67, 4, v29.2.2.1.map Task.enc)]⟩) h (fun k37 hk37 h => ?_) (fun w37 h => ?_)
        ·conv => whnf
         refine jnS (fun w38 => ⟨[(0, .l (.ptr 12 0)), (19, .l (.d (.bool w38)))], 47, [⟨[(8, .l (.ptr 12 0)), (7, .l (.d (.int .i64 w32.2.2))), (6, .l (.ptr 12 0)), (0, .l (.ptr 12 0)), (2, .l (.ptr 4003 0))], 20⟩, ⟨[(21, .l (.mfn 149 12)), (20, .l (.own 3006)), (17, .l (.d (.bool true))), (0, .l (.ptr 12 0)), (1, .l (.mfn 149 12)), (5, .l (.own 3006)), (6, .l (.d (.int .i64 v29.2.2.2))), (17, .l (.d (.bool w30)))], 26⟩, ⟨[(14, .l (.mfn 149 12)), (13, .l (.ptr 12 0)), (12, .l (.ptr 12 0)), (11, .agg [.d (.int .i64 w16.2.2), .d (.int .i64 w20.2.2)]), (10, .l (.d (.int .i64 w20.2.2))), (9, .l (.d (.int .i64 w16.2.2))), (0, .l (.ptr 12 0)), (2, .l (.ptr 2003 0)), (3, .l (.d (.int .i64 w16.2.2))), (4, .l (.d (.int .i64 w20.2.2)))], 17⟩, ⟨[(21, .l (.mfn 101 12)), (20, .l (.own 1006)), (17, .l (.d (.bool true))), (0, .l (.ptr 12 0)), (1, .l (.mfn 101 12)), (5, .l (.own 1006)), (6, .l (.d (.int .i64 v13.2.2.2))), (17, .l (.d (.bool w14)))], 26⟩, ⟨[(34, .l (.mfn 101 12)), (33, .l (.ptr 12 0)), (32, .l (.ptr 12 0)), (13, .l (.d (.bool false))), (0, .l (.d (.sl (a0.map (eI .u8))))), (2, .l (.ptr 3 0)), (5, .l (.ptr 12 0)), (12, .l (.d (.int .i64 v1.2.2))), (13, .l (.d (.bool (decide (v1.2.2 < (3 : Int))))))], 74⟩], [(3, [.nil, .nil]), (12, [.d (.sl (a0.map (eI .u8))), .d (.int .i64 w32.1), .d (.int .i64 w32.2.1)]), (2003, [.d (.int .i64 (0 : Int)), .d (.int .i64 (0 : Int)), .nil]), (4003, [.d (.int .i64 (0 : Int)), .d (.int .i64 (0 : Int)), .d (.int .i64 (0 : Int)), .nil])], [(1006, 57, 3, v13.2.2.1.map Part.enc), (3006, 67, 4, v29.2.2.1.map Task.enc)]⟩) h (fun k38 hk38 h => ?_) (fun w38 h => ?_)
         ·conv => whnf
          refine ⟨17, ?_⟩
          conv => whnf
          refine fkS h (fun h => ?_) (fun h => ?_)
          ·conv => whnf
           refine lenS a0 (eI .u8) rfl ?_
           conv => whnf
           refine drS (by kernel_rfl) ?_
           conv => whnf
           exact jeS hk38 h (Weak.refl _)
          conv => whnf
          refine drS (by kernel_rfl) ?_
          conv => whnf
          exact jeS hk38 h (Weak.refl _)
         conv => whnf
         refine fkS h (fun h => ?_) (fun h => ?_)
         ·conv => whnf
          exact jeS hk37 h (Weak.refl _)
         conv => whnf
         refine jeX hk37 h ?_
         conv => whnf
         refine WkF.step (Weak.keepS _ [0]) ?_
         conv => whnf
         exact WkF.refl _
        conv => whnf
        refine fkS h (fun h => ?_) (fun h => ?_)
        ·conv => whnf
         exact jeS hk36 h (Weak.refl _)
        conv => whnf
        refine ⟨9, ?_⟩
        conv => whnf
        refine drS (by kernel_rfl) ?_
        conv => whnf
        refine ixS (enc := (eI .u8)) h rfl (fun _ => rfl) (fun x39 h => ?_)
        conv => whnf
        exact jeS hk36 h (Weak.refl _)
       conv => whnf
       refine inJ (fun w40 => ⟨[(11, .l (.d (.int .i64 w40.2.2))), (10, .l (.ptr 12 0)), (9, .l (.d (.int .i64 w36.2.2))), (8, .l (.ptr 12 0)), (7, .l (.d (.int .i64 w32.2.2))), (6, .l (.ptr 12 0)), (0, .l (.ptr 12 0)), (2, .l (.ptr 4003 0))], 20, [⟨[(21, .l (.mfn 149 12)), (20, .l (.own 3006)), (17, .l (.d (.bool true))), (0, .l (.ptr 12 0)), (1, .l (.mfn 149 12)), (5, .l (.own 3006)), (6, .l (.d (.int .i64 v29.2.2.2))), (17, .l (.d (.bool w30)))], 26⟩, ⟨[(14, .l (.mfn 149 12)), (13, .l (.ptr 12 0)), (12, .l (.ptr 12 0)), (11, .agg [.d (.int .i64 w16.2.2), .d (.int .i64 w20.2.2)]), (10, .l (.d (.int .i64 w20.2.2))), (9, .l (.d (.int .i64 w16.2.2))), (0, .l (.ptr 12 0)), (2, .l (.ptr 2003 0)), (3, .l (.d (.int .i64 w16.2.2))), (4, .l (.d (.int .i64 w20.2.2)))], 17⟩, ⟨[(21, .l (.mfn 101 12)), (20, .l (.own 1006)), (17, .l (.d (.bool true))), (0, .l (.ptr 12 0)), (1, .l (.mfn 101 12)), (5, .l (.own 1006)), (6, .l (.d (.int .i64 v13.2.2.2))), (17, .l (.d (.bool w14)))], 26⟩, ⟨[(34, .l (.mfn 101 12)), (33, .l (.ptr 12 0)), (32, .l (.ptr 12 0)), (13, .l (.d (.bool false))), (0, .l (.d (.sl (a0.map (eI .u8))))), (2, .l (.ptr 3 0)), (5, .l (.ptr 12 0)), (12, .l (.d (.int .i64 v1.2.2))), (13, .l (.d (.bool (decide (v1.2.2 < (3 : Int))))))], 74⟩], [(3, [.nil, .nil]), (12, [.d (.sl (a0.map (eI .u8))), .d (.int .i64 w40.1), .d (.int .i64 w40.2.1)]), (2003, [.d (.int .i64 (0 : Int)), .d (.int .i64 (0 : Int)), .nil]), (4003, [.d (.int .i64 (0 : Int)), .d (.int .i64 (0 : Int)), .d (.int .i64 (0 : Int)), .nil])], [(1006, 57, 3, v13.2.2.1.map Part.enc), (3006, 67, 4, v29.2.2.1.map Task.enc)]⟩) h (fun k40 hk40 h => ?_) (fun w40 h => ?_)
       ·conv => whnf
        refine inS (fn := Tryz.f99) tab ⟨[(0, [0]), (1, [0, 19]), (2, [0]), (3, [0, 27]), (4, [2]), (5, [0]), (6, [2])], [], [100019, 3], []⟩ 47 [.tmp 2] rfl rfl rfl rfl rfl rfl ?_
        conv => whnf
        refine jnS (fun w41 => ⟨[(0, .l (.ptr 12 0))], 47, [⟨[(10, .l (.ptr 12 0)), (9, .l (.d (.int .i64 w36.2.2))), (8, .l (.ptr 12 0)), (7, .l (.d (.int .i64 w32.2.2))), (6, .l (.ptr 12 0)), (0, .l (.ptr 12 0)), (2, .l (.ptr 4003 0))], 20⟩, ⟨[(21, .l (.mfn 149 12)), (20, .l (.own 3006)), (17, .l (.d (.bool true))), (0, .l (.ptr 12 0)), (1, .l (.mfn 149 12)), (5, .l (.own 3006)), (6, .l (.d (.int .i64 v29.2.2.2))), (17, .l (.d (.bool w30)))], 26⟩, ⟨[(14, .l (.mfn 149 12)), (13, .l (.ptr 12 0)), (12, .l (.ptr 12 0)), (11, .agg [.d (.int .i64 w16.2.2), .d (.int .i64 w20.2.2)]), (10, .l (.d (.int .i64 w20.2.2))), (9, .l (.d (.int .i64 w16.2.2))), (0, .l (.ptr 12 0)), (2, .l (.ptr 2003 0)), (3, .l (.d (.int .i64 w16.2.2))), (4, .l (.d (.int .i64 w20.2.2)))], 17⟩, ⟨[(21, .l (.mfn 101 12)), (20, .l (.own 1006)), (17, .l (.d (.bool true))), (0, .l (.ptr 12 0)), (1, .l (.mfn 101 12)), (5, .l (.own 1006)), (6, .l (.d (.int .i64 v13.2.2.2))), (17, .l (.d (.bool w14)))], 26⟩, ⟨[(34, .l (.mfn 101 12)), (33, .l (.ptr 12 0)), (32, .l (.ptr 12 0)), (13, .l (.d (.bool false))), (0, .l (.d (.sl (a0.map (eI .u8))))), (2, .l (.ptr 3 0)), (5, .l (.ptr 12 0)), (12, .l (.d (.int .i64 v1.2.2))), (13, .l (.d (.bool (decide (v1.2.2 < (3 : Int))))))], 74⟩], [(3, [.nil, .nil]), (12, [.d (.sl (a0.map (eI .u8))), .d (.int .i64 w36.1), .d (.int .i64 w41)]), (2003, [.d (.int .i64 (0 : Int)), .d (.int .i64 (0 : Int)), .nil]), (4003, [.d (.int .i64 (0 : Int)), .d (.int .i64 (0 : Int)), .d (.int .i64 (0 : Int)), .nil])], [(1006, 57, 3, v13.2.2.1.map Part.enc), (3006, 67, 4, v29.2.2.1.map Task.enc)]⟩) h (fun k41 hk41 h => ?_) (fun w41 h => ?_)
        ·conv => whnf
         refine jnS (fun w42 => ⟨[(0, .l (.ptr 12 0)), (19, .l (.d (.bool w42)))], 47, [⟨[(10, .l (.ptr 12 0)), (9, .l (.d (.int .i64 w36.2.2))), (8, .l (.ptr 12 0)), (7, .l (.d (.int .i64 w32.2.2))), (6, .l (.ptr 12 0)), (0, .l (.ptr 12 0)), (2, .l (.ptr 4003 0))], 20⟩, ⟨[(21, .l (.mfn 149 12)), (20, .l (.own 3006)), (17, .l (.d (.bool true))), (0, .l (.ptr 12 0)), (1, .l (.mfn 149 12)), (5, .l (.own 3006)), (6, .l (.d (.int .i64 v29.2.2.2))), (17, .l (.d (.bool w30)))], 26⟩, ⟨[(14, .l (.mfn 149 12)), (13, .l (.ptr 12 0)), (12, .l (.ptr 12 0)), (11, .agg [.d (.int .i64 w16.2.2), .d (.int .i64 w20.2.2)]), (10, .l (.d (.int .i64 w20.2.2))), (9, .l (.d (.int .i64 w16.2.2))), (0, .l (.ptr 12 0)), (2, .l (.ptr 2003 0)), (3, .l (.d (.int .i64 w16.2.2))), (4, .l (.d (.int .i64 w20.2.2)))], 17⟩, ⟨[(21, .l (.mfn 101 12)), (20, .l (.own 1006)), (17, .l (.d (.bool true))), (0, .l (.ptr 12 0)), (1, .l (.mfn 101 12)), (5, .l (.own 1006)), (6, .l (.d (.int .i64 v13.2.2.2))), (17, .l (.d (.bool w14)))], 26⟩, ⟨[(34, .l (.mfn 101 12)), (33, .l (.ptr 12 0)), (32, .l (.ptr 12 0)), (13, .l (.d (.bool false))), (0, .l (.d (.sl (a0.map (eI .u8))))), (2, .l (.ptr 3 0)), (5, .l (.ptr 12 0)), (12, .l (.d (.int .i64 v1.2.2))), (13, .l (.d (.bool (decide (v1.2.2 < (3 : Int))))))], 74⟩], [(3, [.nil, .nil]), (12, [.d (.sl (a0.map (eI .u8))), .d (.int .i64 w36.1), .d (.int .i64 w36.2.1)]), (2003, [.d (.int .i64 (0 : Int)), .d (.int .i64 (0 : Int)), .nil]), (4003, [.d (.int .i64 (0 : Int)), .d (.int .i64 (0 : Int)), .d (.int .i64 (0 : Int)), .nil])], [(1006, 57, 3, v13.2.2.1.map Part.enc), (3006, 67, 4, v29.2.2.1.map Task.enc)]⟩) h (fun k42 hk42 h => ?_) (fun w42 h => ?_)
         ·conv => whnf
          refine ⟨17, ?_⟩
          conv => whnf
          refine fkS h (fun h => ?_) (fun h => ?_)
          ·conv => whnf
           refine lenS a0 (eI .u8) rfl ?_
           conv => whnf
           refine drS (by kernel_rfl) ?_
           conv => whnf
           exact jeS hk42 h (Weak.refl _)
          conv => whnf
          refine drS (by kernel_rfl) ?_
          conv => whnf
          exact jeS hk42 h (Weak.refl _)
         conv => whnf
         refine fkS h (fun h => ?_) (fun h => ?_)
         ·conv => whnf
          exact jeS hk41 h (Weak.refl _)
         conv => whnf
         refine jeX hk41 h ?_
         conv => whnf
         refine WkF.step (Weak.keepS _ [0]) ?_
         conv => whnf
         exact WkF.refl _
        conv => whnf
        refine fkS h (fun h => ?_) (fun h => ?_)
        ·conv => whnf
         exact jeS hk40 h (Weak.refl _)
        conv => whnf
        refine ⟨9, ?_⟩
        conv => whnf
        refine drS (by kernel_rfl) ?_
        conv => whnf
        refine ixS (enc := (eI .u8)) h rfl (fun _ => rfl) (fun x43 h => ?_)
        conv => whnf
        exact jeS hk40 h (Weak.refl _)
       conv => whnf
       refine inJ (fun w44 => ⟨[(18, .l (.own 4019)), (17, .l (.mfn 163 12)), (16, .l (.ptr 12 0)), (15, .l (.ptr 12 0)), (14, .l (.d (.int .i64 w40.2.2))), (13, .l (.d (.int .i64 w36.2.2))), (12, .l (.d (.int .i64 w32.2.2))), (0, .l (.ptr 12 0)), (2, .l (.ptr 4003 0)), (3, .l (.d (.int .i64 w32.2.2))), (4, .l (.d (.int .i64 w36.2.2))), (5, .l (.d (.int .i64 w40.2.2)))], 20, [⟨[(21, .l (.mfn 149 12)), (20, .l (.own 3006)), (17, .l (.d (.bool true))), (0, .l (.ptr 12 0)), (1, .l (.mfn 149 12)), (5, .l (.own 3006)), (6, .l (.d (.int .i64 v29.2.2.2))), (17, .l (.d (.bool w30)))], 26⟩, ⟨[(14, .l (.mfn 149 12)), (13, .l (.ptr 12 0)), (12, .l (.ptr 12 0)), (11, .agg [.d (.int .i64 w16.2.2), .d (.int .i64 w20.2.2)]), (10, .l (.d (.int .i64 w20.2.2))), (9, .l (.d (.int .i64 w16.2.2))), (0, .l (.ptr 12 0)), (2, .l (.ptr 2003 0)), (3, .l (.d (.int .i64 w16.2.2))), (4, .l (.d (.int .i64 w20.2.2)))], 17⟩, ⟨[(21, .l (.mfn 101 12)), (20, .l (.own 1006)), (17, .l (.d (.bool true))), (0, .l (.ptr 12 0)), (1, .l (.mfn 101 12)), (5, .l (.own 1006)), (6, .l (.d (.int .i64 v13.2.2.2))), (17, .l (.d (.bool w14)))], 26⟩, ⟨[(34, .l (.mfn 101 12)), (33, .l (.ptr 12 0)), (32, .l (.ptr 12 0)), (13, .l (.d (.bool false))), (0, .l (.d (.sl (a0.map (eI .u8))))), (2, .l (.ptr 3 0)), (5, .l (.ptr 12 0)), (12, .l (.d (.int .i64 v1.2.2))), (13, .l (.d (.bool (decide (v1.2.2 < (3 : Int))))))], 74⟩], [(3, [.nil, .nil]), (12, [.d (.sl (a0.map (eI .u8))), .d (.int .i64 w44.1), .d (.int .i64 w44.2.1)]), (2003, [.d (.int .i64 (0 : Int)), .d (.int .i64 (0 : Int)), .nil]), (4003, [.d (.int .i64 (0 : Int)), .d (.int .i64 (0 : Int)), .d (.int .i64 (0 : Int)), .nil])], [(1006, 57, 3, v13.2.2.1.map Part.enc), (3006, 67, 4, v29.2.2.1.map Task.enc), (4019, 200, 3, w44.2.2.map Sec.enc)]⟩) h (fun k44 hk44 h => ?_) (fun w44 h => ?_)
       ·conv => whnf
        refine inS (fn := Tryz.f162) tab ⟨[(0, [0, 1]), (1, [0, 1, 5]), (2, [0, 1, 5, 6]), (3, [0, 1, 5, 6, 17]), (4, [0, 1, 5, 6]), (5, [0, 1, 5, 6]), (6, [4])], [], [100017], []⟩ 26 [.tmp 4] rfl rfl rfl rfl rfl rfl ?_
        conv => whnf
        refine inJ (fun w45 => ⟨[(8, .l (.d (.int .i64 w45.2.2))), (7, .l (.ptr 12 0)), (0, .l (.ptr 12 0)), (1, .l (.mfn 163 12)), (5, .l .nil)], 26, [⟨[(17, .l (.mfn 163 12)), (16, .l (.ptr 12 0)), (15, .l (.ptr 12 0)), (14, .l (.d (.int .i64 w40.2.2))), (13, .l (.d (.int .i64 w36.2.2))), (12, .l (.d (.int .i64 w32.2.2))), (0, .l (.ptr 12 0)), (2, .l (.ptr 4003 0)), (3, .l (.d (.int .i64 w32.2.2))), (4, .l (.d (.int .i64 w36.2.2))), (5, .l (.d (.int .i64 w40.2.2)))], 20⟩, ⟨[(21, .l (.mfn 149 12)), (20, .l (.own 3006)), (17, .l (.d (.bool true))), (0, .l (.ptr 12 0)), (1, .l (.mfn 149 12)), (5, .l (.own 3006)), (6, .l (.d (.int .i64 v29.2.2.2))), (17, .l (.d (.bool w30)))], 26⟩, ⟨[(14, .l (.mfn 149 12)), (13, .l (.ptr 12 0)), (12, .l (.ptr 12 0)), (11, .agg [.d (.int .i64 w16.2.2), .d (.int .i64 w20.2.2)]), (10, .l (.d (.int .i64 w20.2.2))), (9, .l (.d (.int .i64 w16.2.2))), (0, .l (.ptr 12 0)), (2, .l (.ptr 2003 0)), (3, .l (.d (.int .i64 w16.2.2))), (4, .l (.d (.int .i64 w20.2.2)))], 17⟩, ⟨[(21, .l (.mfn 101 12)), (20, .l (.own 1006)), (17, .l (.d (.bool true))), (0, .l (.ptr 12 0)), (1, .l (.mfn 101 12)), (5, .l (.own 1006)), (6, .l (.d (.int .i64 v13.2.2.2))), (17, .l (.d (.bool w14)))], 26⟩, ⟨[(34, .l (.mfn 101 12)), (33, .l (.ptr 12 0)), (32, .l (.ptr 12 0)), (13, .l (.d (.bool false))), (0, .l (.d (.sl (a0.map (eI .u8))))), (2, .l (.ptr 3 0)), (5, .l (.ptr 12 0)), (12, .l (.d (.int .i64 v1.2.2))), (13, .l (.d (.bool (decide (v1.2.2 < (3 : Int))))))], 74⟩], [(3, [.nil, .nil]), (12, [.d (.sl (a0.map (eI .u8))), .d (.int .i64 w45.1), .d (.int .i64 w45.2.1)]), (2003, [.d (.int .i64 (0 : Int)), .d (.int .i64 (0 : Int)), .nil]), (4003, [.d (.int .i64 (0 : Int)), .d (.int .i64 (0 : Int)), .d (.int .i64 (0 : Int)), .nil])], [(1006, 57, 3, v13.2.2.1.map Part.enc), (3006, 67, 4, v29.2.2.1.map Task.enc)]⟩) h (fun k45 hk45 h => ?_) (fun w45 h => ?_)
        ·conv => whnf
         refine inS (fn := Tryz.f99) tab ⟨[(0, [0]), (1, [0, 19]), (2, [0]), (3, [0, 27]), (4, [2]), (5, [0]), (6, [2])], [], [100019, 3], []⟩ 47 [.tmp 2] rfl rfl rfl rfl rfl rfl ?_
         conv => whnf
         refine jnS (fun w46 => ⟨[(0, .l (.ptr 12 0))], 47, [⟨[(7, .l (.ptr 12 0)), (0, .l (.ptr 12 0)), (1, .l (.mfn 163 12)), (5, .l .nil)], 26⟩, ⟨[(17, .l (.mfn 163 12)), (16, .l (.ptr 12 0)), (15, .l (.ptr 12 0)), (14, .l (.d (.int .i64 w40.2.2))), (13, .l (.d (.int .i64 w36.2.2))), (12, .l (.d (.int .i64 w32.2.2))), (0, .l (.ptr 12 0)), (2, .l (.ptr 4003 0)), (3, .l (.d (.int .i64 w32.2.2))), (4, .l (.d (.int .i64 w36.2.2))), (5, .l (.d (.int .i64 w40.2.2)))], 20⟩, ⟨[(21, .l (.mfn 149 12)), (20, .l (.own 3006)), (17, .l (.d (.bool true))), (0, .l (.ptr 12 0)), (1, .l (.mfn 149 12)), (5, .l (.own 3006)), (6, .l (.d (.int .i64 v29.2.2.2))), (17, .l (.d (.bool w30)))], 26⟩, ⟨[(14, .l (.mfn 149 12)), (13, .l (.ptr 12 0)), (12, .l (.ptr 12 0)), (11, .agg [.d (.int .i64 w16.2.2), .d (.int .i64 w20.2.2)]), (10, .l (.d (.int .i64 w20.2.2))), (9, .l (.d (.int .i64 w16.2.2))), (0, .l (.ptr 12 0)), (2, .l (.ptr 2003 0)), (3, .l (.d (.int .i64 w16.2.2))), (4, .l (.d (.int .i64 w20.2.2)))], 17⟩, ⟨[(21, .l (.mfn 101 12)), (20, .l (.own 1006)), (17, .l (.d (.bool true))), (0, .l (.ptr 12 0)), (1, .l (.mfn 101 12)), (5, .l (.own 1006)), (6, .l (.d (.int .i64 v13.2.2.2))), (17, .l (.d (.bool w14)))], 26⟩, ⟨[(34, .l (.mfn 101 12)), (33, .l (.ptr 12 0)), (32, .l (.ptr 12 0)), (13, .l (.d (.bool false))), (0, .l (.d (.sl (a0.map (eI .u8))))), (2, .l (.ptr 3 0)), (5, .l (.ptr 12 0)), (12, .l (.d (.int .i64 v1.2.2))), (13, .l (.d (.bool (decide (v1.2.2 < (3 : Int))))))], 74⟩], [(3, [.nil, .nil]), (12, [.d (.sl (a0.map (eI .u8))), .d (.int .i64 w40.1), .d (.int .i64 w46)]), (2003, [.d (.int .i64 (0 : Int)), .d (.int .i64 (0 : Int)), .nil]), (4003, [.d (.int .i64 (0 : Int)), .d (.int .i64 (0 : Int)), .d (.int .i64 (0 : Int)), .nil])], [(1006, 57, 3, v13.2.2.1.map Part.enc), (3006, 67, 4, v29.2.2.1.map Task.enc)]⟩) h (fun k46 hk46 h => ?_) (fun w46 h => ?_)
         ·conv => whnf
          refine jnS (fun w47 => ⟨[(0, .l (.ptr 12 0)), (19, .l (.d (.bool w47)))], 47, [⟨[(7, .l (.ptr 12 0)), (0, .l (.ptr 12 0)), (1, .l (.mfn 163 12)), (5, .l .nil)], 26⟩, ⟨[(17, .l (.mfn 163 12)), (16, .l (.ptr 12 0)), (15, .l (.ptr 12 0)), (14, .l (.d (.int .i64 w40.2.2))), (13, .l (.d (.int .i64 w36.2.2))), (12, .l (.d (.int .i64 w32.2.2))), (0, .l (.ptr 12 0)), (2, .l (.ptr 4003 0)), (3, .l (.d (.int .i64 w32.2.2))), (4, .l (.d (.int .i64 w36.2.2))), (5, .l (.d (.int .i64 w40.2.2)))], 20⟩, ⟨[(21, .l (.mfn 149 12)), (20, .l (.own 3006)), (17, .l (.d (.bool true))), (0, .l (.ptr 12 0)), (1, .l (.mfn 149 12)), (5, .l (.own 3006)), (6, .l (.d (.int .i64 v29.2.2.2))), (17, .l (.d (.bool w30)))], 26⟩, ⟨[(14, .l (.mfn 149 12)), (13, .l (.ptr 12 0)), (12, .l (.ptr 12 0)), (11, .agg [.d (.int .i64 w16.2.2), .d (.int .i64 w20.2.2)]), (10, .l (.d (.int .i64 w20.2.2))), (9, .l (.d (.int .i64 w16.2.2))), (0, .l (.ptr 12 0)), (2, .l (.ptr 2003 0)), (3, .l (.d (.int .i64 w16.2.2))), (4, .l (.d (.int .i64 w20.2.2)))], 17⟩, ⟨[(21, .l (.mfn 101 12)), (20, .l (.own 1006)), (17, .l (.d (.bool true))), (0, .l (.ptr 12 0)), (1, .l (.mfn 101 12)), (5, .l (.own 1006)), (6, .l (.d (.int .i64 v13.2.2.2))), (17, .l (.d (.bool w14)))], 26⟩, ⟨[(34, .l (.mfn 101 12)), (33, .l (.ptr 12 0)), (32, .l (.ptr 12 0)), (13, .l (.d (.bool false))), (0, .l (.d (.sl (a0.map (eI .u8))))), (2, .l (.ptr 3 0)), (5, .l (.ptr 12 0)), (12, .l (.d (.int .i64 v1.2.2))), (13, .l (.d (.bool (decide (v1.2.2 < (3 : Int))))))], 74⟩], [(3, [.nil, .nil]), (12, [.d (.sl (a0.map (eI .u8))), .d (.int .i64 w40.1), .d (.int .i64 w40.2.1)]), (2003, [.d (.int .i64 (0 : Int)), .d (.int .i64 (0 : Int)), .nil]), (4003, [.d (.int .i64 (0 : Int)), .d (.int .i64 (0 : Int)), .d (.int .i64 (0 : Int)), .nil])], [(1006, 57, 3, v13.2.2.1.map Part.enc), (3006, 67, 4, v29.2.2.1.map Task.enc)]⟩) h (fun k47 hk47 h => ?_) (fun w47 h => ?_)
          ·conv => whnf
           refine ⟨17, ?_⟩
           conv => whnf
           refine fkS h (fun h => ?_) (fun h => ?_)
           ·conv => whnf
            refine lenS a0 (eI .u8) rfl ?_
            conv => whnf
            refine drS (by kernel_rfl) ?_
            conv => whnf
            exact jeS hk47 h (Weak.refl _)
           conv => whnf
           refine drS (by kernel_rfl) ?_
           conv => whnf
           exact jeS hk47 h (Weak.refl _)
          conv => whnf
          refine fkS h (fun h => ?_) (fun h => ?_)
          ·conv => whnf
           exact jeS hk46 h (Weak.refl _)
          conv => whnf
          refine jeX hk46 h ?_
          conv => whnf
          refine WkF.step (Weak.keepS _ [0]) ?_
          conv => whnf
          exact WkF.refl _
         conv => whnf
         refine fkS h (fun h => ?_) (fun h => ?_)
         ·conv => whnf
          exact jeS hk45 h (Weak.refl _)
         conv => whnf
         refine ⟨9, ?_⟩
         conv => whnf
         refine drS (by kernel_rfl) ?_
         conv => whnf
         refine ixS (enc := (eI .u8)) h rfl (fun _ => rfl) (fun x48 h => ?_)
         conv => whnf
         exact jeS hk45 h (Weak.refl _)
        conv => whnf
        refine lpS (fun v49 => ⟨[(0, .l (.ptr 12 0)), (1, .l (.mfn 163 12)), (5, .l (.own 5006)), (6, .l (.d (.int .i64 v49.2.2.2)))], 26, [⟨[(17, .l (.mfn 163 12)), (16, .l (.ptr 12 0)), (15, .l (.ptr 12 0)), (14, .l (.d (.int .i64 w40.2.2))), (13, .l (.d (.int .i64 w36.2.2))), (12, .l (.d (.int .i64 w32.2.2))), (0, .l (.ptr 12 0)), (2, .l (.ptr 4003 0)), (3, .l (.d (.int .i64 w32.2.2))), (4, .l (.d (.int .i64 w36.2.2))), (5, .l (.d (.int .i64 w40.2.2)))], 20⟩, ⟨[(21, .l (.mfn 149 12)), (20, .l (.own 3006)), (17, .l (.d (.bool true))), (0, .l (.ptr 12 0)), (1, .l (.mfn 149 12)), (5, .l (.own 3006)), (6, .l (.d (.int .i64 v29.2.2.2))), (17, .l (.d (.bool w30)))], 26⟩, ⟨[(14, .l (.mfn 149 12)), (13, .l (.ptr 12 0)), (12, .l (.ptr 12 0)), (11, .agg [.d (.int .i64 w16.2.2), .d (.int .i64 w20.2.2)]), (10, .l (.d (.int .i64 w20.2.2))), (9, .l (.d (.int .i64 w16.2.2))), (0, .l (.ptr 12 0)), (2, .l (.ptr 2003 0)), (3, .l (.d (.int .i64 w16.2.2))), (4, .l (.d (.int .i64 w20.2.2)))], 17⟩, ⟨[(21, .l (.mfn 101 12)), (20, .l (.own 1006)), (17, .l (.d (.bool true))), (0, .l (.ptr 12 0)), (1, .l (.mfn 101 12)), (5, .l (.own 1006)), (6, .l (.d (.int .i64 v13.2.2.2))), (17, .l (.d (.bool w14)))], 26⟩, ⟨[(34, .l (.mfn 101 12)), (33, .l (.ptr 12 0)), (32, .l (.ptr 12 0)), (13, .l (.d (.bool false))), (0, .l (.d (.sl (a0.map (eI .u8))))), (2, .l (.ptr 3 0)), (5, .l (.ptr 12 0)), (12, .l (.d (.int .i64 v1.2.2))), (13, .l (.d (.bool (decide (v1.2.2 < (3 : Int))))))], 74⟩], [(3, [.nil, .nil]), (12, [.d (.sl (a0.map (eI .u8))), .d (.int .i64 v49.1), .d (.int .i64 v49.2.1)]), (2003, [.d (.int .i64 (0 : Int)), .d (.int .i64 (0 : Int)), .nil]), (4003, [.d (.int .i64 (0 : Int)), .d (.int .i64 (0 : Int)), .d (.int .i64 (0 : Int)), .nil])], [(1006, 57, 3, v13.2.2.1.map Part.enc), (3006, 67, 4, v29.2.2.1.map Task.enc), (5006, 200, 3, v49.2.2.1.map Sec.enc)]⟩) h (Weak.trans (Weak.nilO _ 5 5006 200 3 rfl) (Weak.refl _)) (fun _ nx49 hn49 v49 h => ?_)
        conv => whnf
        refine jnS (fun w50 => ⟨[(0, .l (.ptr 12 0)), (1, .l (.mfn 163 12)), (5, .l (.own 5006)), (6, .l (.d (.int .i64 v49.2.2.2))), (17, .l (.d (.bool w50)))], 26, [⟨[(17, .l (.mfn 163 12)), (16, .l (.ptr 12 0)), (15, .l (.ptr 12 0)), (14, .l (.d (.int .i64 w40.2.2))), (13, .l (.d (.int .i64 w36.2.2))), (12, .l (.d (.int .i64 w32.2.2))), (0, .l (.ptr 12 0)), (2, .l (.ptr 4003 0)), (3, .l (.d (.int .i64 w32.2.2))), (4, .l (.d (.int .i64 w36.2.2))), (5, .l (.d (.int .i64 w40.2.2)))], 20⟩, ⟨[(21, .l (.mfn 149 12)), (20, .l (.own 3006)), (17, .l (.d (.bool true))), (0, .l (.ptr 12 0)), (1, .l (.mfn 149 12)), (5, .l (.own 3006)), (6, .l (.d (.int .i64 v29.2.2.2))), (17, .l (.d (.bool w30)))], 26⟩, ⟨[(14, .l (.mfn 149 12)), (13, .l (.ptr 12 0)), (12, .l (.ptr 12 0)), (11, .agg [.d (.int .i64 w16.2.2), .d (.int .i64 w20.2.2)]), (10, .l (.d (.int .i64 w20.2.2))), (9, .l (.d (.int .i64 w16.2.2))), (0, .l (.ptr 12 0)), (2, .l (.ptr 2003 0)), (3, .l (.d (.int .i64 w16.2.2))), (4, .l (.d (.int .i64 w20.2.2)))], 17⟩, ⟨[(21, .l (.mfn 101 12)), (20, .l (.own 1006)), (17, .l (.d (.bool true))), (0, .l (.ptr 12 0)), (1, .l (.mfn 101 12)), (5, .l (.own 1006)), (6, .l (.d (.int .i64 v13.2.2.2))), (17, .l (.d (.bool w14)))], 26⟩, ⟨[(34, .l (.mfn 101 12)), (33, .l (.ptr 12 0)), (32, .l (.ptr 12 0)), (13, .l (.d (.bool false))), (0, .l (.d (.sl (a0.map (eI .u8))))), (2, .l (.ptr 3 0)), (5, .l (.ptr 12 0)), (12, .l (.d (.int .i64 v1.2.2))), (13, .l (.d (.bool (decide (v1.2.2 < (3 : Int))))))], 74⟩], [(3, [.nil, .nil]), (12, [.d (.sl (a0.map (eI .u8))), .d (.int .i64 v49.1), .d (.int .i64 v49.2.1)]), (2003, [.d (.int .i64 (0 : Int)), .d (.int .i64 (0 : Int)), .nil]), (4003, [.d (.int .i64 (0 : Int)), .d (.int .i64 (0 : Int)), .d (.int .i64 (0 : Int)), .nil])], [(1006, 57, 3, v13.2.2.1.map Part.enc), (3006, 67, 4, v29.2.2.1.map Task.enc), (5006, 200, 3, v49.2.2.1.map Sec.enc)]⟩) h (fun k50 hk50 h => ?_) (fun w50 h => ?_)
        ·conv => whnf
         refine fkS h (fun h => ?_) (fun h => ?_)
         ·conv => whnf
          exact jeS hk50 h (Weak.refl _)
         conv => whnf
         exact jeS hk50 h (Weak.refl _)
        conv => whnf
        refine fkS h (fun h => ?_) (fun h => ?_)
        ·conv => whnf
         refine inS (fn := Tryz.f163) tab ⟨[(0, [0, 2]), (1, [2, 3, 4, 5]), (2, [2])], [], [], []⟩ 16 [.cell 2 200] rfl rfl rfl rfl rfl rfl ?_
         conv => whnf
         refine inJ (fun w51 => ⟨[(7, .l (.d (.int .i64 w51.2.2))), (6, .l (.ptr 12 0)), (0, .l (.ptr 12 0)), (2, .l (.ptr 6003 0))], 16, [⟨[(21, .l (.mfn 163 12)), (20, .l (.own 5006)), (17, .l (.d (.bool true))), (0, .l (.ptr 12 0)), (1, .l (.mfn 163 12)), (5, .l (.own 5006)), (6, .l (.d (.int .i64 v49.2.2.2))), (17, .l (.d (.bool w50)))], 26⟩, ⟨[(17, .l (.mfn 163 12)), (16, .l (.ptr 12 0)), (15, .l (.ptr 12 0)), (14, .l (.d (.int .i64 w40.2.2))), (13, .l (.d (.int .i64 w36.2.2))), (12, .l (.d (.int .i64 w32.2.2))), (0, .l (.ptr 12 0)), (2, .l (.ptr 4003 0)), (3, .l (.d (.int .i64 w32.2.2))), (4, .l (.d (.int .i64 w36.2.2))), (5, .l (.d (.int .i64 w40.2.2)))], 20⟩, ⟨[(21, .l (.mfn 149 12)), (20, .l (.own 3006)), (17, .l (.d (.bool true))), (0, .l (.ptr 12 0)), (1, .l (.mfn 149 12)), (5, .l (.own 3006)), (6, .l (.d (.int .i64 v29.2.2.2))), (17, .l (.d (.bool w30)))], 26⟩, ⟨[(14, .l (.mfn 149 12)), (13, .l (.ptr 12 0)), (12, .l (.ptr 12 0)), (11, .agg [.d (.int .i64 w16.2.2), .d (.int .i64 w20.2.2)]), (10, .l (.d (.int .i64 w20.2.2))), (9, .l (.d (.int .i64 w16.2.2))), (0, .l (.ptr 12 0)), (2, .l (.ptr 2003 0)), (3, .l (.d (.int .i64 w16.2.2))), (4, .l (.d (.int .i64 w20.2.2)))], 17⟩, ⟨[(21, .l (.mfn 101 12)), (20, .l (.own 1006)), (17, .l (.d (.bool true))), (0, .l (.ptr 12 0)), (1, .l (.mfn 101 12)), (5, .l (.own 1006)), (6, .l (.d (.int .i64 v13.2.2.2))), (17, .l (.d (.bool w14)))], 26⟩, ⟨[(34, .l (.mfn 101 12)), (33, .l (.ptr 12 0)), (32, .l (.ptr 12 0)), (13, .l (.d (.bool false))), (0, .l (.d (.sl (a0.map (eI .u8))))), (2, .l (.ptr 3 0)), (5, .l (.ptr 12 0)), (12, .l (.d (.int .i64 v1.2.2))), (13, .l (.d (.bool (decide (v1.2.2 < (3 : Int))))))], 74⟩], [(3, [.nil, .nil]), (12, [.d (.sl (a0.map (eI .u8))), .d (.int .i64 w51.1), .d (.int .i64 w51.2.1)]), (2003, [.d (.int .i64 (0 : Int)), .d (.int .i64 (0 : Int)), .nil]), (4003, [.d (.int .i64 (0 : Int)), .d (.int .i64 (0 : Int)), .d (.int .i64 (0 : Int)), .nil]), (6003, [.d (.int .i64 (0 : Int)), .d (.int .i64 (0 : Int)), .d (.int .i64 (0 : Int))])], [(1006, 57, 3, v13.2.2.1.map Part.enc), (3006, 67, 4, v29.2.2.1.map Task.enc), (5006, 200, 3, v49.2.2.1.map Sec.enc)]⟩) h (fun k51 hk51 h => ?_) (fun w51 h => ?_)
         ·conv => whnf
          refine inS (fn := Tryz.f99) tab ⟨[(0, [0]), (1, [0, 19]), (2, [0]), (3, [0, 27]), (4, [2]), (5, [0]), (6, [2])], [], [100019, 3], []⟩ 47 [.tmp 2] rfl rfl rfl rfl rfl rfl ?_
          conv => whnf
          refine jnS (fun w52 => ⟨[(0, .l (.ptr 12 0))], 47, [⟨[(6, .l (.ptr 12 0)), (0, .l (.ptr 12 0)), (2, .l (.ptr 6003 0))], 16⟩, ⟨[(21, .l (.mfn 163 12)), (20, .l (.own 5006)), (17, .l (.d (.bool true))), (0, .l (.ptr 12 0)), (1, .l (.mfn 163 12)), (5, .l (.own 5006)), (6, .l (.d (.int .i64 v49.2.2.2))), (17, .l (.d (.bool w50)))], 26⟩, ⟨[(17, .l (.mfn 163 12)), (16, .l (.ptr 12 0)), (15, .l (.ptr 12 0)), (14, .l (.d (.int .i64 w40.2.2))), (13, .l (.d (.int .i64 w36.2.2))), (12, .l (.d (.int .i64 w32.2.2))), (0, .l (.ptr 12 0)), (2, .l (.ptr 4003 0)), (3, .l (.d (.int .i64 w32.2.2))), (4, .l (.d (.int .i64 w36.2.2))), (5, .l (.d (.int .i64 w40.2.2)))], 20⟩, ⟨[(21, .l (.mfn 149 12)), (20, .l (.own 3006)), (17, .l (.d (.bool true))), (0, .l (.ptr 12 0)), (1, .l (.mfn 149 12)), (5, .l (.own 3006)), (6, .l (.d (.int .i64 v29.2.2.2))), (17, .l (.d (.bool w30)))], 26⟩, ⟨[(14, .l (.mfn 149 12)), (13, .l (.ptr 12 0)), (12, .l (.ptr 12 0)), (11, .agg [.d (.int .i64 w16.2.2), .d (.int .i64 w20.2.2)]), (10, .l (.d (.int .i64 w20.2.2))), (9, .l (.d (.int .i64 w16.2.2))), (0, .l (.ptr 12 0)), (2, .l (.ptr 2003 0)), (3, .l (.d (.int .i64 w16.2.2))), (4, .l (.d (.int .i64 w20.2.2)))], 17⟩, ⟨[(21, .l (.mfn 101 12)), (20, .l (.own 1006)), (17, .l (.d (.bool true))), (0, .l (.ptr 12 0)), (1, .l (.mfn 101 12)), (5, .l (.own 1006)), (6, .l (.d (.int .i64 v13.2.2.2))), (17, .l (.d (.bool w14)))], 26⟩, ⟨[(34, .l (.mfn 101 12)), (33, .l (.ptr 12 0)), (32, .l (.ptr 12 0)), (13, .l (.d (.bool false))), (0, .l (.d (.sl (a0.map (eI .u8))))), (2, .l (.ptr 3 0)), (5, .l (.ptr 12 0)), (12, .l (.d (.int .i64 v1.2.2))), (13, .l (.d (.bool (decide (v1.2.2 < (3 : Int))))))], 74⟩], [(3, [.nil, .nil]), (12, [.d (.sl (a0.map (eI .u8))), .d (.int .i64 v49.1), .d (.int .i64 w52)]), (2003, [.d (.int .i64 (0 : Int)), .d (.int .i64 (0 : Int)), .nil]), (4003, [.d (.int .i64 (0 : Int)), .d (.int .i64 (0 : Int)), .d (.int .i64 (0 : Int)), .nil]), (6003, [.d (.int .i64 (0 : Int)), .d (.int .i64 (0 : Int)), .d (.int .i64 (0 : Int))])], [(1006, 57, 3, v13.2.2.1.map Part.enc), (3006, 67, 4, v29.2.2.1.map Task.enc), (5006, 200, 3, v49.2.2.1.map Sec.enc)]⟩) h (fun k52 hk52 h => ?_) (fun w52 h => ?_)
          ·conv => whnf
           refine jnS (fun w53 => ⟨[(0, .l (.ptr 12 0)), (19, .l (.d (.bool w53)))], 47, [⟨[(6, .l (.ptr 12 0)), (0, .l (.ptr 12 0)), (2, .l (.ptr 6003 0))], 16⟩, ⟨[(21, .l (.mfn 163 12)), (20, .l (.own 5006)), (17, .l (.d (.bool true))), (0, .l (.ptr 12 0)), (1, .l (.mfn 163 12)), (5, .l (.own 5006)), (6, .l (.d (.int .i64 v49.2.2.2))), (17, .l (.d (.bool w50)))], 26⟩, ⟨[(17, .l (.mfn 163 12)), (16, .l (.ptr 12 0)), (15, .l (.ptr 12 0)), (14, .l (.d (.int .i64 w40.2.2))), (13, .l (.d (.int .i64 w36.2.2))), (12, .l (.d (.int .i64 w32.2.2))), (0, .l (.ptr 12 0)), (2, .l (.ptr 4003 0)), (3, .l (.d (.int .i64 w32.2.2))), (4, .l (.d (.int .i64 w36.2.2))), (5, .l (.d (.int .i64 w40.2.2)))], 20⟩, ⟨[(21, .l (.mfn 149 12)), (20, .l (.own 3006)), (17, .l (.d (.bool true))), (0, .l (.ptr 12 0)), (1, .l (.mfn 149 12)), (5, .l (.own 3006)), (6, .l (.d (.int .i64 v29.2.2.2))), (17, .l (.d (.bool w30)))], 26⟩, ⟨[(14, .l (.mfn 149 12)), (13, .l (.ptr 12 0)), (12, .l (.ptr 12 0)), (11, .agg [.d (.int .i64 w16.2.2), .d (.int .i64 w20.2.2)]), (10, .l (.d (.int .i64 w20.2.2))), (9, .l (.d (.int .i64 w16.2.2))), (0, .l (.ptr 12 0)), (2, .l (.ptr 2003 0)), (3, .l (.d (.int .i64 w16.2.2))), (4, .l (.d (.int .i64 w20.2.2)))], 17⟩, ⟨[(21, .l (.mfn 101 12)), (20, .l (.own 1006)), (17, .l (.d (.bool true))), (0, .l (.ptr 12 0)), (1, .l (.mfn 101 12)), (5, .l (.own 1006)), (6, .l (.d (.int .i64 v13.2.2.2))), (17, .l (.d (.bool w14)))], 26⟩, ⟨[(34, .l (.mfn 101 12)), (33, .l (.ptr 12 0)), (32, .l (.ptr 12 0)), (13, .l (.d (.bool false))), (0, .l (.d (.sl (a0.map (eI .u8))))), (2, .l (.ptr 3 0)), (5, .l (.ptr 12 0)), (12, .l (.d (.int .i64 v1.2.2))), (13, .l (.d (.bool (decide (v1.2.2 < (3 : Int))))))], 74⟩], [(3, [.nil, .nil]), (12, [.d (.sl (a0.map (eI .u8))), .d (.int .i64 v49.1), .d (.int .i64 v49.2.1)]), (2003, [.d (.int .i64 (0 : Int)), .d (.int .i64 (0 : Int)), .nil]), (4003, [.d (.int .i64 (0 : Int)), .d (.int .i64 (0 : Int)), .d (.int .i64 (0 : Int)), .nil]), (6003, [.d (.int .i64 (0 : Int)), .d (.int .i64 (0 : Int)), .d (.int .i64 (0 : Int))])], [(1006, 57, 3, v13.2.2.1.map Part.enc), (3006, 67, 4, v29.2.2.1.map Task.enc), (5006, 200, 3, v49.2.2.1.map Sec.enc)]⟩) h (fun k53 hk53 h => ?_) (fun w53 h => ?_)
           ·conv => whnf
            refine ⟨17, ?_⟩
            conv => whnf
            refine fkS h (fun h => ?_) (fun h => ?_)
            ·conv => whnf
             refine lenS a0 (eI .u8) rfl ?_
             conv => whnf
             refine drS (by kernel_rfl) ?_
             conv => whnf
             exact jeS hk53 h (Weak.refl _)
            conv => whnf
            refine drS (by kernel_rfl) ?_
            conv => whnf
            exact jeS hk53 h (Weak.refl _)
           conv => whnf
           refine fkS h (fun h => ?_) (fun h => ?_)
           ·conv => whnf
            exact jeS hk52 h (Weak.refl _)
           conv => whnf
           refine jeX hk52 h ?_
           conv => whnf
           refine WkF.step (Weak.keepS _ [0]) ?_
           conv => whnf
           exact WkF.refl _
          conv => whnf
          refine fkS h (fun h => ?_) (fun h => ?_)
          ·conv => whnf
           exact jeS hk51 h (Weak.refl _)
          conv => whnf
          refine ⟨9, ?_⟩
          conv => whnf
          refine drS (by kernel_rfl) ?_
          conv => whnf
          refine ixS (enc := (eI .u8)) h rfl (fun _ => rfl) (fun x54 h => ?_)
          conv => whnf
          exact jeS hk51 h (Weak.refl _)
         conv => whnf
         refine inJ (fun w55 => ⟨[(9, .l (.d (.int .i64 w55.2.2))), (8, .l (.ptr 12 0)), (7, .l (.d (.int .i64 w51.2.2))), (6, .l (.ptr 12 0)), (0, .l (.ptr 12 0)), (2, .l (.ptr 6003 0))], 16, [⟨[(21, .l (.mfn 163 12)), (20, .l (.own 5006)), (17, .l (.d (.bool true))), (0, .l (.ptr 12 0)), (1, .l (.mfn 163 12)), (5, .l (.own 5006)), (6, .l (.d (.int .i64 v49.2.2.2))), (17, .l (.d (.bool w50)))], 26⟩, ⟨[(17, .l (.mfn 163 12)), (16, .l (.ptr 12 0)), (15, .l (.ptr 12 0)), (14, .l (.d (.int .i64 w40.2.2))), (13, .l (.d (.int .i64 w36.2.2))), (12, .l (.d (.int .i64 w32.2.2))), (0, .l (.ptr 12 0)), (2, .l (.ptr 4003 0)), (3, .l (.d (.int .i64 w32.2.2))), (4, .l (.d (.int .i64 w36.2.2))), (5, .l (.d (.int .i64 w40.2.2)))], 20⟩, ⟨[(21, .l (.mfn 149 12)), (20, .l (.own 3006)), (17, .l (.d (.bool true))), (0, .l (.ptr 12 0)), (1, .l (.mfn 149 12)), (5, .l (.own 3006)), (6, .l (.d (.int .i64 v29.2.2.2))), (17, .l (.d (.bool w30)))], 26⟩, ⟨[(14, .l (.mfn 149 12)), (13, .l (.ptr 12 0)), (12, .l (.ptr 12 0)), (11, .agg [.d (.int .i64 w16.2.2), .d (.int .i64 w20.2.2)]), (10, .l (.d (.int .i64 w20.2.2))), (9, .l (.d (.int .i64 w16.2.2))), (0, .l (.ptr 12 0)), (2, .l (.ptr 2003 0)), (3, .l (.d (.int .i64 w16.2.2))), (4, .l (.d (.int .i64 w20.2.2)))], 17⟩, ⟨[(21, .l (.mfn 101 12)), (20, .l (.own 1006)), (17, .l (.d (.bool true))), (0, .l (.ptr 12 0)), (1, .l (.mfn 101 12)), (5, .l (.own 1006)), (6, .l (.d (.int .i64 v13.2.2.2))), (17, .l (.d (.bool w14)))], 26⟩, ⟨[(34, .l (.mfn 101 12)), (33, .l (.ptr 12 0)), (32, .l (.ptr 12 0)), (13, .l (.d (.bool false))), (0, .l (.d (.sl (a0.map (eI .u8))))), (2, .l (.ptr 3 0)), (5, .l (.ptr 12 0)), (12, .l (.d (.int .i64 v1.2.2))), (13, .l (.d (.bool (decide (v1.2.2 < (3 : Int))))))], 74⟩], [(3, [.nil, .nil]), (12, [.d (.sl (a0.map (eI .u8))), .d (.int .i64 w55.1), .d (.int .i64 w55.2.1)]), (2003, [.d (.int .i64 (0 : Int)), .d (.int .i64 (0 : Int)), .nil]), (4003, [.d (.int .i64 (0 : Int)), .d (.int .i64 (0 : Int)), .d (.int .i64 (0 : Int)), .nil]), (6003, [.d (.int .i64 (0 : Int)), .d (.int .i64 (0 : Int)), .d (.int .i64 (0 : Int))])], [(1006, 57, 3, v13.2.2.1.map Part.enc), (3006, 67, 4, v29.2.2.1.map Task.enc), (5006, 200, 3, v49.2.2.1.map Sec.enc)]⟩) h (fun k55 hk55 h => ?_) (fun w55 h => ?_)
         ·conv => whnf
          refine inS (fn := Tryz.f99) tab ⟨[(0, [0]), (1, [0, 19]), (2, [0]), (3, [0, 27]), (4, [2]), (5, [0]), (6, [2])], [], [100019, 3], []⟩ 47 [.tmp 2] rfl rfl rfl rfl rfl rfl ?_
          conv => whnf
          refine jnS (fun w56 => ⟨[(0, .l (.ptr 12 0))], 47, [⟨[(8, .l (.ptr 12 0)), (7, .l (.d (.int .i64 w51.2.2))), (6, .l (.ptr 12 0)), (0, .l (.ptr 12 0)), (2, .l (.ptr 6003 0))], 16⟩, ⟨[(21, .l (.mfn 163 12)), (20, .l (.own 5006)), (17, .l (.d (.bool true))), (0, .l (.ptr 12 0)), (1, .l (.mfn 163 12)), (5, .l (.own 5006)), (6, .l (.d (.int .i64 v49.2.2.2))), (17, .l (.d (.bool w50)))], 26⟩, ⟨[(17, .l (.mfn 163 12)), (16, .l (.ptr 12 0)), (15, .l (.ptr 12 0)), (14, .l (.d (.int .i64 w40.2.2))), (13, .l (.d (.int .i64 w36.2.2))), (12, .l (.d (.int .i64 w32.2.2))), (0, .l (.ptr 12 0)), (2, .l (.ptr 4003 0)), (3, .l (.d (.int .i64 w32.2.2))), (4, .l (.d (.int .i64 w36.2.2))), (5, .l (.d (.int .i64 w40.2.2)))], 20⟩, ⟨[(21, .l (.mfn 149 12)), (20, .l (.own 3006)), (17, .l (.d (.bool true))), (0, .l (.ptr 12 0)), (1, .l (.mfn 149 12)), (5, .l (.own 3006)), (6, .l (.d (.int .i64 v29.2.2.2))), (17, .l (.d (.bool w30)))], 26⟩, ⟨[(14, .l (.mfn 149 12)), (13, .l (.ptr 12 0)), (12, .l (.ptr 12 0)), (11, .agg [.d (.int .i64 w16.2.2), .d (.int .i64 w20.2.2)]), (10, .l (.d (.int .i64 w20.2.2))), (9, .l (.d (.int .i64 w16.2.2))), (0, .l (.ptr 12 0)), (2, .l (.ptr 2003 0)), (3, .l (.d (.int .i64 w16.2.2))), (4, .l (.d (.int .i64 w20.2.2)))], 17⟩, ⟨[(21, .l (.mfn 101 12)), (20, .l (.own 1006)), (17, .l (.d (.bool true))), (0, .l (.ptr 12 0)), (1, .l (.mfn 101 12)), (5, .l (.own 1006)), (6, .l (.d (.int .i64 v13.2.2.2))), (17, .l (.d (.bool w14)))], 26⟩, ⟨[(34, .l (.mfn 101 12)), (33, .l (.ptr 12 0)), (32, .l (.ptr 12 0)), (13, .l (.d (.bool false))), (0, .l (.d (.sl (a0.map (eI .u8))))), (2, .l (.ptr 3 0)), (5, .l (.ptr 12 0)), (12, .l (.d (.int .i64 v1.2.2))), (13, .l (.d (.bool (decide (v1.2.2 < (3 : Int))))))], 74⟩], [(3, [.nil, .nil]), (12, [.d (.sl (a0.map (eI .u8))), .d (.int .i64 w51.1), .d (.int .i64 w56)]), (2003, [.d (.int .i64 (0 : Int)), .d (.int .i64 (0 : Int)), .nil]), (4003, [.d (.int .i64 (0 : Int)), .d (.int .i64 (0 : Int)), .d (.int .i64 (0 : Int)), .nil]), (6003, [.d (.int .i64 (0 : Int)), .d (.int .i64 (0 : Int)), .d (.int .i64 (0 : Int))])], [(1006, 57, 3, v13.2.2.1.map Part.enc), (3006, 67, 4, v29.2.2.1.map Task.enc), (5006, 200, 3, v49.2.2.1.map Sec.enc)]⟩) h (fun k56 hk56 h => ?_) (fun w56 h => ?_)
          ·conv => whnf
           refine jnS (fun w57 => ⟨[(0, .l (.ptr 12 0)), (19, .l (.d (.bool w57)))], 47, [⟨[(8, .l (.ptr 12 0)), (7, .l (.d (.int .i64 w51.2.2))), (6, .l (.ptr 12 0)), (0, .l (.ptr 12 0)), (2, .l (.ptr 6003 0))], 16⟩, ⟨[(21, .l (.mfn 163 12)), (20, .l (.own 5006)), (17, .l (.d (.bool true))), (0, .l (.ptr 12 0)), (1, .l (.mfn 163 12)), (5, .l (.own 5006)), (6, .l (.d (.int .i64 v49.2.2.2))), (17, .l (.d (.bool w50)))], 26⟩, ⟨[(17, .l (.mfn 163 12)), (16, .l (.ptr 12 0)), (15, .l (.ptr 12 0)), (14, .l (.d (.int .i64 w40.2.2))), (13, .l (.d (.int .i64 w36.2.2))), (12, .l (.d (.int .i64 w32.2.2))), (0, .l (.ptr 12 0)), (2, .l (.ptr 4003 0)), (3, .l (.d (.int .i64 w32.2.2))), (4, .l (.d (.int .i64 w36.2.2))), (5, .l (.d (.int .i64 w40.2.2)))], 20⟩, ⟨[(21, .l (.mfn 149 12)), (20, .l (.own 3006)), (17, .l (.d (.bool true))), (0, .l (.ptr 12 0)), (1, .l (.mfn 149 12)), (5, .l (.own 3006)), (6, .l (.d (.int .i64 v29.2.2.2))), (17, .l (.d (.bool w30)))], 26⟩, ⟨[(14, .l (.mfn 149 12)), (13, .l (.ptr 12 0)), (12, .l (.ptr 12 0)), (11, .agg [.d (.int .i64 w16.2.2), .d (.int .i64 w20.2.2)]), (10, .l (.d (.int .i64 w20.2.2))), (9, .l (.d (.int .i64 w16.2.2))), (0, .l (.ptr 12 0)), (2, .l (.ptr 2003 0)), (3, .l (.d (.int .i64 w16.2.2))), (4, .l (.d (.int .i64 w20.2.2)))], 17⟩, ⟨[(21, .l (.mfn 101 12)), (20, .l (.own 1006)), (17, .l (.d (.bool true))), (0, .l (.ptr 12 0)), (1, .l (.mfn 101 12)), (5, .l (.own 1006)), (6, .l (.d (.int .i64 v13.2.2.2))), (17, .l (.d (.bool w14)))], 26⟩, ⟨[(34, .l (.mfn 101 12)), (33, .l (.ptr 12 0)), (32, .l (.ptr 12 0)), (13, .l (.d (.bool false))), (0, .l (.d (.sl (a0.map (eI .u8))))), (2, .l (.ptr 3 0)), (5, .l (.ptr 12 0)), (12, .l (.d (.int .i64 v1.2.2))), (13, .l (.d (.bool (decide (v1.2.2 < (3 : Int))))))], 74⟩], [(3, [.nil, .nil]), (12, [.d (.sl (a0.map (eI .u8))), .d (.int .i64 w51.1), .d (.int .i64 w51.2.1)]), (2003, [.d (.int .i64 (0 : Int)), .d (.int .i64 (0 : Int)), .nil]), (4003, [.d (.int .i64 (0 : Int)), .d (.int .i64 (0 : Int)), .d (.int .i64 (0 : Int)), .nil]), (6003, [.d (.int .i64 (0 : Int)), .d (.int .i64 (0 : Int)), .d (.int .i64 (0 : Int))])], [(1006, 57, 3, v13.2.2.1.map Part.enc), (3006, 67, 4, v29.2.2.1.map Task.enc), (5006, 200, 3, v49.2.2.1.map Sec.enc)]⟩) h (fun k57 hk57 h => ?_) (fun w57 h => ?_)
           ·conv => whnf
            refine ⟨17, ?_⟩
            conv => whnf
            refine fkS h (fun h => ?_) (fun h => ?_)
            ·conv => whnf
             refine lenS a0 (eI .u8) rfl ?_
             conv => whnf
             refine drS (by kernel_rfl) ?_
             conv => whnf
             exact jeS hk57 h (Weak.refl _)
            conv => whnf
            refine drS (by kernel_rfl) ?_
            conv => whnf
            exact jeS hk57 h (Weak.refl _)
           conv => whnf
           refine fkS h (fun h => ?_) (fun h => ?_)
           ·conv => whnf
            exact jeS hk56 h (Weak.refl _)
           conv => whnf
           refine jeX hk56 h ?_
           conv => whnf
           refine WkF.step (Weak.keepS _ [0]) ?_
           conv => whnf
           exact WkF.refl _
          conv => whnf
          refine fkS h (fun h => ?_) (fun h => ?_)
          ·conv => whnf
           exact jeS hk55 h (Weak.refl _)
          conv => whnf
          refine ⟨9, ?_⟩
          conv => whnf
          refine drS (by kernel_rfl) ?_
          conv => whnf
          refine ixS (enc := (eI .u8)) h rfl (fun _ => rfl) (fun x58 h => ?_)
          conv => whnf
          exact jeS hk55 h (Weak.refl _)
         conv => whnf
         refine inJ (fun w59 => ⟨[(11, .l (.d (.int .i64 w59.2.2))), (10, .l (.ptr 12 0)), (9, .l (.d (.int .i64 w55.2.2))), (8, .l (.ptr 12 0)), (7, .l (.d (.int .i64 w51.2.2))), (6, .l (.ptr 12 0)), (0, .l (.ptr 12 0)), (2, .l (.ptr 6003 0))], 16, [⟨[(21, .l (.mfn 163 12)), (20, .l (.own 5006)), (17, .l (.d (.bool true))), (0, .l (.ptr 12 0)), (1, .l (.mfn 163 12)), (5, .l (.own 5006)), (6, .l (.d (.int .i64 v49.2.2.2))), (17, .l (.d (.bool w50)))], 26⟩, ⟨[(17, .l (.mfn 163 12)), (16, .l (.ptr 12 0)), (15, .l (.ptr 12 0)), (14, .l (.d (.int .i64 w40.2.2))), (13, .l (.d (.int .i64 w36.2.2))), (12, .l (.d (.int .i64 w32.2.2))), (0, .l (.ptr 12 0)), (2, .l (.ptr 4003 0)), (3, .l (.d (.int .i64 w32.2.2))), (4, .l (.d (.int .i64 w36.2.2))), (5, .l (.d (.int .i64 w40.2.2)))], 20⟩, ⟨[(21, .l (.mfn 149 12)), (20, .l (.own 3006)), (17, .l (.d (.bool true))), (0, .l (.ptr 12 0)), (1, .l (.mfn 149 12)), (5, .l (.own 3006)), (6, .l (.d (.int .i64 v29.2.2.2))), (17, .l (.d (.bool w30)))], 26⟩, ⟨[(14, .l (.mfn 149 12)), (13, .l (.ptr 12 0)), (12, .l (.ptr 12 0)), (11, .agg [.d (.int .i64 w16.2.2), .d (.int .i64 w20.2.2)]), (10, .l (.d (.int .i64 w20.2.2))), (9, .l (.d (.int .i64 w16.2.2))), (0, .l (.ptr 12 0)), (2, .l (.ptr 2003 0)), (3, .l (.d (.int .i64 w16.2.2))), (4, .l (.d (.int .i64 w20.2.2)))], 17⟩, ⟨[(21, .l (.mfn 101 12)), (20, .l (.own 1006)), (17, .l (.d (.bool true))), (0, .l (.ptr 12 0)), (1, .l (.mfn 101 12)), (5, .l (.own 1006)), (6, .l (.d (.int .i64 v13.2.2.2))), (17, .l (.d (.bool w14)))], 26⟩, ⟨[(34, .l (.mfn 101 12)), (33, .l (.ptr 12 0)), (32, .l (.ptr 12 0)), (13, .l (.d (.bool false))), (0, .l (.d (.sl (a0.map (eI .u8))))), (2, .l (.ptr 3 0)), (5, .l (.ptr 12 0)), (12, .l (.d (.int .i64 v1.2.2))), (13, .l (.d (.bool (decide (v1.2.2 < (3 : Int))))))], 74⟩], [(3, [.nil, .nil]), (12, [.d (.sl (a0.map (eI .u8))), .d (.int .i64 w59.1), .d (.int .i64 w59.2.1)]), (2003, [.d (.int .i64 (0 : Int)), .d (.int .i64 (0 : Int)), .nil]), (4003, [.d (.int .i64 (0 : Int)), .d (.int .i64 (0 : Int)), .d (.int .i64 (0 : Int)), .nil]), (6003, [.d (.int .i64 (0 : Int)), .d (.int .i64 (0 : Int)), .d (.int .i64 (0 : Int))])], [(1006, 57, 3, v13.2.2.1.map Part.enc), (3006, 67, 4, v29.2.2.1.map Task.enc), (5006, 200, 3, v49.2.2.1.map Sec.enc)]⟩) h (fun k59 hk59 h => ?_) (fun w59 h => ?_)
         ·conv => whnf
          refine inS (fn := Tryz.f99) tab ⟨[(0, [0]), (1, [0, 19]), (2, [0]), (3, [0, 27]), (4, [2]), (5, [0]), (6, [2])], [], [100019, 3], []⟩ 47 [.tmp 2] rfl rfl rfl rfl rfl rfl ?_
          conv => whnf
          refine jnS (fun w60 => ⟨[(0, .l (.ptr 12 0))], 47, [⟨[(10, .l (.ptr 12 0)), (9, .l (.d (.int .i64 w55.2.2))), (8, .l (.ptr 12 0)), (7, .l (.d (.int .i64 w51.2.2))), (6, .l (.ptr 12 0)), (0, .l (.ptr 12 0)), (2, .l (.ptr 6003 0))], 16⟩, ⟨[(21, .l (.mfn 163 12)), (20, .l (.own 5006)), (17, .l (.d (.bool true))), (0, .l (.ptr 12 0)), (1, .l (.mfn 163 12)), (5, .l (.own 5006)), (6, .l (.d (.int .i64 v49.2.2.2))), (17, .l (.d (.bool w50)))], 26⟩, ⟨[(17, .l (.mfn 163 12)), (16, .l (.ptr 12 0)), (15, .l (.ptr 12 0)), (14, .l (.d (.int .i64 w40.2.2))), (13, .l (.d (.int .i64 w36.2.2))), (12, .l (.d (.int .i64 w32.2.2))), (0, .l (.ptr 12 0)), (2, .l (.ptr 4003 0)), (3, .l (.d (.int .i64 w32.2.2))), (4, .l (.d (.int .i64 w36.2.2))), (5, .l (.d (.int .i64 w40.2.2)))], 20⟩, ⟨[(21, .l (.mfn 149 12)), (20, .l (.own 3006)), (17, .l (.d (.bool true))), (0, .l (.ptr 12 0)), (1, .l (.mfn 149 12)), (5, .l (.own 3006)), (6, .l (.d (.int .i64 v29.2.2.2))), (17, .l (.d (.bool w30)))], 26⟩, ⟨[(14, .l (.mfn 149 12)), (13, .l (.ptr 12 0)), (12, .l (.ptr 12 0)), (11, .agg [.d (.int .i64 w16.2.2), .d (.int .i64 w20.2.2)]), (10, .l (.d (.int .i64 w20.2.2))), (9, .l (.d (.int .i64 w16.2.2))), (0, .l (.ptr 12 0)), (2, .l (.ptr 2003 0)), (3, .l (.d (.int .i64 w16.2.2))), (4, .l (.d (.int .i64 w20.2.2)))], 17⟩, ⟨[(21, .l (.mfn 101 12)), (20, .l (.own 1006)), (17, .l (.d (.bool true))), (0, .l (.ptr 12 0)), (1, .l (.mfn 101 12)), (5, .l (.own 1006)), (6, .l (.d (.int .i64 v13.2.2.2))), (17, .l (.d (.bool w14)))], 26⟩, ⟨[(34, .l (.mfn 101 12)), (33, .l (.ptr 12 0)), (32, .l (.ptr 12 0)), (13, .l (.d (.bool false))), (0, .l (.d (.sl (a0.map (eI .u8))))), (2, .l (.ptr 3 0)), (5, .l (.ptr 12 0)), (12, .l (.d (.int .i64 v1.2.2))), (13, .l (.d (.bool (decide (v1.2.2 < (3 : Int))))))], 74⟩], [(3, [.nil, .nil]), (12, [.d (.sl (a0.map (eI .u8))), .d (.int .i64 w55.1), .d (.int .i64 w60)]), (2003, [.d (.int .i64 (0 : Int)), .d (.int .i64 (0 : Int)), .nil]), (4003, [.d (.int .i64 (0 : Int)), .d (.int .i64 (0 : Int)), .d (.int .i64 (0 : Int)), .nil]), (6003, [.d (.int .i64 (0 : Int)), .d (.int .i64 (0 : Int)), .d (.int .i64 (0 : Int))])], [(1006, 57, 3, v13.2.2.1.map Part.enc), (3006, 67, 4, v29.2.2.1.map Task.enc), (5006, 200, 3, v49.2.2.1.map Sec.enc)]⟩) h (fun k60 hk60 h => ?_) (fun w60 h => ?_)
          ·conv => whnf
           refine jnS (fun w61 => ⟨[(0, .l (.ptr 12 0)), (19, .l (.d (.bool w61)))], 47, [⟨[(10, .l (.ptr 12 0)), (9, .l (.d (.int .i64 w55.2.2))), (8, .l (.ptr 12 0)), (7, .l (.d (.int .i64 w51.2.2))), (6, .l (.ptr 12 0)), (0, .l (.ptr 12 0)), (2, .l (.ptr 6003 0))], 16⟩, ⟨[(21, .l (.mfn 163 12)), (20, .l (.own 5006)), (17, .l (.d (.bool true))), (0, .l (.ptr 12 0)), (1, .l (.mfn 163 12)), (5, .l (.own 5006)), (6, .l (.d (.int .i64 v49.2.2.2))), (17, .l (.d (.bool w50)))], 26⟩, ⟨[(17, .l (.mfn 163 12)), (16, .l (.ptr 12 0)), (15, .l (.ptr 12 0)), (14, .l (.d (.int .i64 w40.2.2))), (13, .l (.d (.int .i64 w36.2.2))), (12, .l (.d (.int .i64 w32.2.2))), (0, .l (.ptr 12 0)), (2, .l (.ptr 4003 0)), (3, .l (.d (.int .i64 w32.2.2))), (4, .l (.d (.int .i64 w36.2.2))), (5, .l (.d (.int .i64 w40.2.2)))], 20⟩, ⟨[(21, .l (.mfn 149 12)), (20, .l (.own 3006)), (17, .l (.d (.bool true))), (0, .l (.ptr 12 0)), (1, .l (.mfn 149 12)), (5, .l (.own 3006)), (6, .l (.d (.int .i64 v29.2.2.2))), (17, .l (.d (.bool w30)))], 26⟩, ⟨[(14, .l (.mfn 149 12)), (13, .l (.ptr 12 0)), (12, .l (.ptr 12 0)), (11, .agg [.d (.int .i64 w16.2.2), .d (.int .i64 w20.2.2)]), (10, .l (.d (.int .i64 w20.2.2))), (9, .l (.d (.int .i64 w16.2.2))), (0, .l (.ptr 12 0)), (2, .l (.ptr 2003 0)), (3, .l (.d (.int .i64 w16.2.2))), (4, .l (.d (.int .i64 w20.2.2)))], 17⟩, ⟨[(21, .l (.mfn 101 12)), (20, .l (.own 1006)), (17, .l (.d (.bool true))), (0, .l (.ptr 12 0)), (1, .l (.mfn 101 12)), (5, .l (.own 1006)), (6, .l (.d (.int .i64 v13.2.2.2))), (17, .l (.d (.bool w14)))], 26⟩, ⟨[(34, .l (.mfn 101 12)), (33, .l (.ptr 12 0)), (32, .l (.ptr 12 0)), (13, .l (.d (.bool false))), (0, .l (.d (.sl (a0.map (eI .u8))))), (2, .l (.ptr 3 0)), (5, .l (.ptr 12 0)), (12, .l (.d (.int .i64 v1.2.2))), (13, .l (.d (.bool (decide (v1.2.2 < (3 : Int))))))], 74⟩], [(3, [.nil, .nil]), (12, [.d (.sl (a0.map (eI .u8))), .d (.int .i64 w55.1), .d (.int .i64 w55.2.1)]), (2003, [.d (.int .i64 (0 : Int)), .d (.int .i64 (0 : Int)), .nil]), (4003, [.d (.int .i64 (0 : Int)), .d (.int .i64 (0 : Int)), .d (.int .i64 (0 : Int)), .nil]), (6003, [.d (.int .i64 (0 : Int)), .d (.int .i64 (0 : Int)), .d (.int .i64 (0 : Int))])], [(1006, 57, 3, v13.2.2.1.map Part.enc), (3006, 67, 4, v29.2.2.1.map Task.enc), (5006, 200, 3, v49.2.2.1.map Sec.enc)]⟩) h (fun k61 hk61 h => ?_) (fun w61 h => ?_)
           ·conv => whnf
            refine ⟨17, ?_⟩
            conv => whnf
            refine fkS h (fun h => ?_) (fun h => ?_)
            ·conv => whnf
             refine lenS a0 (eI .u8) rfl ?_
             conv => whnf
             refine drS (by kernel_rfl) ?_
             conv => whnf
             exact jeS hk61 h (Weak.refl _)
            conv => whnf
            refine drS (by kernel_rfl) ?_
            conv => whnf
            exact jeS hk61 h (Weak.refl _)
           conv => whnf
           refine fkS h (fun h => ?_) (fun h => ?_)
           ·conv => whnf
            exact jeS hk60 h (Weak.refl _)
           conv => whnf
           refine jeX hk60 h ?_
           conv => whnf
           refine WkF.step (Weak.keepS _ [0]) ?_
           conv => whnf
           exact WkF.refl _
          conv => whnf
          refine fkS h (fun h => ?_) (fun h => ?_)
          ·conv => whnf
           exact jeS hk59 h (Weak.refl _)
          conv => whnf
          refine ⟨9, ?_⟩
          conv => whnf
          refine drS (by kernel_rfl) ?_
          conv => whnf
          refine ixS (enc := (eI .u8)) h rfl (fun _ => rfl) (fun x62 h => ?_)
          conv => whnf
          exact jeS hk59 h (Weak.refl _)
         conv => whnf
         refine liS ([⟨w51.2.2, w55.2.2, w59.2.2⟩] : List Sec) Sec.enc rfl rfl ?_
         conv => whnf
         refine apS (enc := Sec.enc) (l1 := v49.2.2.1) (l2 := ([⟨w51.2.2, w55.2.2, w59.2.2⟩] : List Sec)) h rfl rfl (fun _ => rfl) (fun h => ?_)
         conv => whnf
         exact leS hn49 h (Weak.refl _)
        conv => whnf
        refine jeX hk44 h ?_
        conv => whnf
        refine WkF.step (Weak.rekey _ 5005 4019 rfl) ?_
        conv => whnf
        exact WkF.refl _
       conv => whnf
       refine jeX hk31 h ?_
       conv => whnf
       refine WkF.step (Weak.keepS _ [22, 21, 20, 17, 0, 1, 5, 6]) ?_
       conv => whnf
       refine WkF.step (Weak.rekey _ 4019 403023 rfl) ?_
       conv => whnf
       exact WkF.refl _
      conv => whnf
      refine liS ([⟨w31.2.2.2.1, w31.2.2.2.2.1, w31.2.2.2.2.2, w31.2.2.1⟩] : List Task) Task.enc rfl rfl ?_
      conv => whnf
      refine apS (enc := Task.enc) (l1 := v29.2.2.1) (l2 := ([⟨w31.2.2.2.1, w31.2.2.2.2.1, w31.2.2.2.2.2, w31.2.2.1⟩] : List Task)) h rfl rfl (fun _ => rfl) (fun h => ?_)
      conv => whnf
      exact leS hn29 h (Weak.refl _)
     conv => whnf
     refine jeX hk24 h ?_
     conv => whnf
     refine WkF.step (Weak.rekey _ 3005 2016 rfl) ?_
     conv => whnf
     exact WkF.refl _
    conv => whnf
    refine jeX hk15 h ?_
    conv => whnf
    refine WkF.step (Weak.keepS _ [22, 21, 20, 17, 0, 1, 5, 6]) ?_
    conv => whnf
    refine WkF.step (Weak.rekey _ 2016 301023 rfl) ?_
    conv => whnf
    exact WkF.refl _
   conv => whnf
   refine liS ([⟨⟨w15.2.2.2.1, w15.2.2.2.2⟩, w15.2.2.1⟩] : List Part) Part.enc rfl rfl ?_
   conv => whnf
   refine apS (enc := Part.enc) (l1 := v13.2.2.1) (l2 := ([⟨⟨w15.2.2.2.1, w15.2.2.2.2⟩, w15.2.2.1⟩] : List Part)) h rfl rfl (fun _ => rfl) (fun h => ?_)
   conv => whnf
   exact leS hn13 h (Weak.refl _)
  conv => whnf
  refine jeX hk8 h ?_
  conv => whnf
  refine WkF.step (Weak.keepS _ [35, 34, 33, 32, 13, 0, 2, 5, 12]) ?_
  conv => whnf
  refine WkF.step (Weak.rekey _ 1005 36 rfl) ?_
  conv => whnf
  exact WkF.refl _
 conv => whnf
 refine inJ (fun w63 => ⟨[(40, .l (.own 41)), (39, .l (.mfn 103 12)), (38, .l (.ptr 12 0)), (37, .l (.ptr 12 0)), (0, .l (.d (.sl (a0.map (eI .u8))))), (2, .l (.ptr 3 0)), (5, .l (.ptr 12 0)), (8, .l (.ptr 9 0))], 74, [], [(3, [.nil, .nil]), (9, [.own 36, .nil]), (12, [.d (.sl (a0.map (eI .u8))), .d (.int .i64 w63.1), .d (.int .i64 w63.2.1)])], [(36, 57, 3, w8.2.2.map Part.enc), (41, 90, 3, w63.2.2.map Port.enc)]⟩) h (fun k63 hk63 h => ?_) (fun w63 h => ?_)
 ·conv => whnf
  refine inS (fn := Tryz.f102) tab ⟨[(0, [0, 1]), (1, [0, 1, 5]), (2, [0, 1, 5, 6]), (3, [0, 1, 5, 6, 17]), (4, [0, 1, 5, 6]), (5, [0, 1, 5, 6]), (6, [4])], [], [100017], []⟩ 26 [.tmp 4] rfl rfl rfl rfl rfl rfl ?_
  conv => whnf
  refine inJ (fun w64 => ⟨[(8, .l (.d (.int .i64 w64.2.2))), (7, .l (.ptr 12 0)), (0, .l (.ptr 12 0)), (1, .l (.mfn 103 12)), (5, .l .nil)], 26, [⟨[(39, .l (.mfn 103 12)), (38, .l (.ptr 12 0)), (37, .l (.ptr 12 0)), (0, .l (.d (.sl (a0.map (eI .u8))))), (2, .l (.ptr 3 0)), (5, .l (.ptr 12 0)), (8, .l (.ptr 9 0))], 74⟩], [(3, [.nil, .nil]), (9, [.own 36, .nil]), (12, [.d (.sl (a0.map (eI .u8))), .d (.int .i64 w64.1), .d (.int .i64 w64.2.1)])], [(36, 57, 3, w8.2.2.map Part.enc)]⟩) h (fun k64 hk64 h => ?_) (fun w64 h => ?_)
  ·conv => whnf
   refine inS (fn := Tryz.f99) tab ⟨[(0, [0]), (1, [0, 19]), (2, [0]), (3, [0, 27]), (4, [2]), (5, [0]), (6, [2])], [], [100019, 3], []⟩ 47 [.tmp 2] rfl rfl rfl rfl rfl rfl ?_
   conv => whnf
   refine jnS (fun w65 => ⟨[(0, .l (.ptr 12 0))], 47, [⟨[(7, .l (.ptr 12 0)), (0, .l (.ptr 12 0)), (1, .l (.mfn 103 12)), (5, .l .nil)], 26⟩, ⟨[(39, .l (.mfn 103 12)), (38, .l (.ptr 12 0)), (37, .l (.ptr 12 0)), (0, .l (.d (.sl (a0.map (eI .u8))))), (2, .l (.ptr 3 0)), (5, .l (.ptr 12 0)), (8, .l (.ptr 9 0))], 74⟩], [(3, [.nil, .nil]), (9, [.own 36, .nil]), (12, [.d (.sl (a0.map (eI .u8))), .d (.int .i64 w8.1), .d (.int .i64 w65)])], [(36, 57, 3, w8.2.2.map Part.enc)]⟩) h (fun k65 hk65 h => ?_) (fun w65 h => ?_)
   ·conv => whnf
    refine jnS (fun w66 => ⟨[(0, .l (.ptr 12 0)), (19, .l (.d (.bool w66)))], 47, [⟨[(7, .l (.ptr 12 0)), (0, .l (.ptr 12 0)), (1, .l (.mfn 103 12)), (5, .l .nil)], 26⟩, ⟨[(39, .l (.mfn 103 12)), (38, .l (.ptr 12 0)), (37, .l (.ptr 12 0)), (0, .l (.d (.sl (a0.map (eI .u8))))), (2, .l (.ptr 3 0)), (5, .l (.ptr 12 0)), (8, .l (.ptr 9 0))], 74⟩], [(3, [.nil, .nil]), (9, [.own 36, .nil]), (12, [.d (.sl (a0.map (eI .u8))), .d (.int .i64 w8.1), .d (.int .i64 w8.2.1)])], [(36, 57, 3, w8.2.2.map Part.enc)]⟩) h (fun k66 hk66 h => ?_) (fun w66 h => ?_)
    ·conv => whnf
     refine ⟨17, ?_⟩
     conv => whnf
     refine fkS h (fun h => ?_) (fun h => ?_)
     ·conv => whnf
      refine lenS a0 (eI .u8) rfl ?_
      conv => whnf
      refine drS (by kernel_rfl) ?_
      conv => whnf
      exact jeS hk66 h (Weak.refl _)
     conv => whnf
     refine drS (by kernel_rfl) ?_
     conv => whnf
     exact jeS hk66 h (Weak.refl _)
    conv => whnf
    refine fkS h (fun h => ?_) (fun h => ?_)
    ·conv => whnf
     exact jeS hk65 h (Weak.refl _)
    conv => whnf
    refine jeX hk65 h ?_
    conv => whnf
    refine WkF.step (Weak.keepS _ [0]) ?_
    conv => whnf
    exact WkF.refl _
   conv => whnf
   refine fkS h (fun h => ?_) (fun h => ?_)
   ·conv => whnf
    exact jeS hk64 h (Weak.refl _)
   conv => whnf
   refine ⟨9, ?_⟩
   conv => whnf
   refine drS (by kernel_rfl) ?_
   conv => whnf
   refine ixS (enc := (eI .u8)) h rfl (fun _ => rfl) (fun x67 h => ?_)
   conv => whnf
   exact jeS hk64 h (Weak.refl _)
  conv => whnf
  refine lpS (fun v68 => ⟨[(0, .l (.ptr 12 0)), (1, .l (.mfn 103 12)), (5, .l (.own 1006)), (6, .l (.d (.int .i64 v68.2.2.2)))], 26, [⟨[(39, .l (.mfn 103 12)), (38, .l (.ptr 12 0)), (37, .l (.ptr 12 0)), (0, .l (.d (.sl (a0.map (eI .u8))))), (2, .l (.ptr 3 0)), (5, .l (.ptr 12 0)), (8, .l (.ptr 9 0))], 74⟩], [(3, [.nil, .nil]), (9, [.own 36, .nil]), (12, [.d (.sl (a0.map (eI .u8))), .d (.int .i64 v68.1), .d (.int .i64 v68.2.1)])], [(36, 57, 3, w8.2.2.map Part.enc), (1006, 90, 3, v68.2.2.1.map Port.enc)]⟩) h (Weak.trans (Weak.nilO _ 5 1006 90 3 rfl) (Weak.refl _)) (fun _ nx68 hn68 v68 h => ?_)
  conv => whnf
  refine jnS (fun w69 => ⟨[(0, .l (.ptr 12 0)), (1, .l (.mfn 103 12)), (5, .l (.own 1006)), (6, .l (.d (.int .i64 v68.2.2.2))), (17, .l (.d (.bool w69)))], 26, [⟨[(39, .l (.mfn 103 12)), (38, .l (.ptr 12 0)), (37, .l (.ptr 12 0)), (0, .l (.d (.sl (a0.map (eI .u8))))), (2, .l (.ptr 3 0)), (5, .l (.ptr 12 0)), (8, .l (.ptr 9 0))], 74⟩], [(3, [.nil, .nil]), (9, [.own 36, .nil]), (12, [.d (.sl (a0.map (eI .u8))), .d (.int .i64 v68.1), .d (.int .i64 v68.2.1)])], [(36, 57, 3, w8.2.2.map Part.enc), (1006, 90, 3, v68.2.2.1.map Port.enc)]⟩) h (fun k69 hk69 h => ?_) (fun w69 h => ?_)
  ·conv => whnf
   refine fkS h (fun h => ?_) (fun h => ?_)
   ·conv => whnf
    exact jeS hk69 h (Weak.refl _)
   conv => whnf
   exact jeS hk69 h (Weak.refl _)
  conv => whnf
  refine fkS h (fun h => ?_) (fun h => ?_)
  ·conv => whnf
   refine inS (fn := Tryz.f103) tab ⟨[(0, [0, 2]), (1, [2, 3, 4, 5]), (2, [2])], [], [], []⟩ 16 [.cell 2 90] rfl rfl rfl rfl rfl rfl ?_
   conv => whnf
   refine inJ (fun w70 => ⟨[(7, .l (.d (.int .i64 w70.2.2))), (6, .l (.ptr 12 0)), (0, .l (.ptr 12 0)), (2, .l (.ptr 2003 0))], 16, [⟨[(21, .l (.mfn 103 12)), (20, .l (.own 1006)), (17, .l (.d (.bool true))), (0, .l (.ptr 12 0)), (1, .l (.mfn 103 12)), (5, .l (.own 1006)), (6, .l (.d (.int .i64 v68.2.2.2))), (17, .l (.d (.bool w69)))], 26⟩, ⟨[(39, .l (.mfn 103 12)), (38, .l (.ptr 12 0)), (37, .l (.ptr 12 0)), (0, .l (.d (.sl (a0.map (eI .u8))))), (2, .l (.ptr 3 0)), (5, .l (.ptr 12 0)), (8, .l (.ptr 9 0))], 74⟩], [(3, [.nil, .nil]), (9, [.own 36, .nil]), (12, [.d (.sl (a0.map (eI .u8))), .d (.int .i64 w70.1), .d (.int .i64 w70.2.1)]), (2003, [.d (.int .i64 (0 : Int)), .d (.int .i64 (0 : Int)), .d (.int .i64 (0 : Int))])], [(36, 57, 3, w8.2.2.map Part.enc), (1006, 90, 3, v68.2.2.1.map Port.enc)]⟩) h (fun k70 hk70 h => ?_) (fun w70 h => ?_)
   ·conv => whnf
    refine inS (fn := Tryz.f99) tab ⟨[(0, [0]), (1, [0, 19]), (2, [0]), (3, [0, 27]), (4, [2]), (5, [0]), (6, [2])], [], [100019, 3], []⟩ 47 [.tmp 2] rfl rfl rfl rfl rfl rfl ?_
    conv => whnf
    refine jnS (fun w71 => ⟨[(0, .l (.ptr 12 0))], 47, [⟨[(6, .l (.ptr 12 0)), (0, .l (.ptr 12 0)), (2, .l (.ptr 2003 0))], 16⟩, ⟨[(21, .l (.mfn 103 12)), (20, .l (.own 1006)), (17, .l (.d (.bool true))), (0, .l (.ptr 12 0)), (1, .l (.mfn 103 12)), (5, .l (.own 1006)), (6, .l (.d (.int .i64 v68.2.2.2))), (17, .l (.d (.bool w69)))], 26⟩, ⟨[(39, .l (.mfn 103 12)), (38, .l (.ptr 12 0)), (37, .l (.ptr 12 0)), (0, .l (.d (.sl (a0.map (eI .u8))))), (2, .l (.ptr 3 0)), (5, .l (.ptr 12 0)), (8, .l (.ptr 9 0))], 74⟩], [(3, [.nil, .nil]), (9, [.own 36, .nil]), (12, [.d (.sl (a0.map (eI .u8))), .d (.int .i64 v68.1), .d (.int .i64 w71)]), (2003, [.d (.int .i64 (0 : Int)), .d (.int .i64 (0 : Int)), .d (.int .i64 (0 : Int))])], [(36, 57, 3, w8.2.2.map Part.enc), (1006, 90, 3, v68.2.2.1.map Port.enc)]⟩) h (fun k71 hk71 h => ?_) (fun w71 h => ?_)
    ·conv => whnf
     refine jnS (fun w72 => ⟨[(0, .l (.ptr 12 0)), (19, .l (.d (.bool w72)))], 47, [⟨[(6, .l (.ptr 12 0)), (0, .l (.ptr 12 0)), (2, .l (.ptr 2003 0))], 16⟩, ⟨[(21, .l (.mfn 103 12)), (20, .l (.own 1006)), (17, .l (.d (.bool true))), (0, .l (.ptr 12 0)), (1, .l (.mfn 103 12)), (5, .l (.own 1006)), (6, .l (.d (.int .i64 v68.2.2.2))), (17, .l (.d (.bool w69)))], 26⟩, ⟨[(39, .l (.mfn 103 12)), (38, .l (.ptr 12 0)), (37, .l (.ptr 12 0)), (0, .l (.d (.sl (a0.map (eI .u8))))), (2, .l (.ptr 3 0)), (5, .l (.ptr 12 0)), (8, .l (.ptr 9 0))], 74⟩], [(3, [.nil, .nil]), (9, [.own 36, .nil]), (12, [.d (.sl (a0.map (eI .u8))), .d (.int .i64 v68.1), .d (.int .i64 v68.2.1)]), (2003, [.d (.int .i64 (0 : Int)), .d (.int .i64 (0 : Int)), .d (.int .i64 (0 : Int))])], [(36, 57, 3, w8.2.2.map Part.enc), (1006, 90, 3, v68.2.2.1.map Port.enc)]⟩) h (fun k72 hk72 h => ?_) (fun w72 h => ?_)
     ·conv => whnf
      refine ⟨17, ?_⟩
      conv => whnf
      refine fkS h (fun h => ?_) (fun h => ?_)
      ·conv => whnf
       refine lenS a0 (eI .u8) rfl ?_
       conv => whnf
       refine drS (by kernel_rfl) ?_
       conv => whnf
       exact jeS hk72 h (Weak.refl _)
      conv => whnf
      refine drS (by kernel_rfl) ?_
      conv => whnf
      exact jeS hk72 h (Weak.refl _)
     conv => whnf
     refine fkS h (fun h => ?_) (fun h => ?_)
     ·conv => whnf
      exact jeS hk71 h (Weak.refl _)
     conv => whnf
     refine jeX hk71 h ?_
     conv => whnf
     refine WkF.step (Weak.keepS _ [0]) ?_
     conv => whnf
     exact WkF.refl _
    conv => whnf
    refine fkS h (fun h => ?_) (fun h => ?_)
    ·conv => whnf
     exact jeS hk70 h (Weak.refl _)
    conv => whnf
    refine ⟨9, ?_⟩
    conv => whnf
    refine drS (by kernel_rfl) ?_
    conv => whnf
    refine ixS (enc := (eI .u8)) h rfl (fun _ => rfl) (fun x73 h => ?_)
    conv => whnf
    exact jeS hk70 h (Weak.refl _)
   conv => whnf
   refine inJ (fun w74 => ⟨[(9, .l (.d (.int .i64 w74.2.2))), (8, .l (.ptr 12 0)), (7, .l (.d (.int .i64 w70.2.2))), (6, .l (.ptr 12 0)), (0, .l (.ptr 12 0)), (2, .l (.ptr 2003 0))], 16, [⟨[(21, .l (.mfn 103 12)), (20, .l (.own 1006)), (17, .l (.d (.bool true))), (0, .l (.ptr 12 0)), (1, .l (.mfn 103 12)), (5, .l (.own 1006)), (6, .l (.d (.int .i64 v68.2.2.2))), (17, .l (.d (.bool w69)))], 26⟩, ⟨[(39, .l (.mfn 103 12)), (38, .l (.ptr 12 0)), (37, .l (.ptr 12 0)), (0, .l (.d (.sl (a0.map (eI .u8))))), (2, .l (.ptr 3 0)), (5, .l (.ptr 12 0)), (8, .l (.ptr 9 0))], 74⟩], [(3, [.nil, .nil]), (9, [.own 36, .nil]), (12, [.d (.sl (a0.map (eI .u8))), .d (.int .i64 w74.1), .d (.int .i64 w74.2.1)]), (2003, [.d (.int .i64 (0 : Int)), .d (.int .i64 (0 : Int)), .d (.int .i64 (0 : Int))])], [(36, 57, 3, w8.2.2.map Part.enc), (1006, 90, 3, v68.2.2.1.map Port.enc)]⟩) h (fun k74 hk74 h => ?_) (fun w74 h => ?_)
   ·conv => whnf
    refine inS (fn := Tryz.f99) tab ⟨[(0, [0]), (1, [0, 19]), (2, [0]), (3, [0, 27]), (4, [2]), (5, [0]), (6, [2])], [], [100019, 3], []⟩ 47 [.tmp 2] rfl rfl rfl rfl rfl rfl ?_
    conv => whnf
    refine jnS (fun w75 => ⟨[(0, .l (.ptr 12 0))], 47, [⟨[(8, .l (.ptr 12 0)), (7, .l (.d (.int .i64 w70.2.2))), (6, .l (.ptr 12 0)), (0, .l (.ptr 12 0)), (2, .l (.ptr 2003 0))], 16⟩, ⟨[(21, .l (.mfn 103 12)), (20, .l (.own 1006)), (17, .l (.d (.bool true))), (0, .l (.ptr 12 0)), (1, .l (.mfn 103 12)), (5, .l (.own 1006)), (6, .l (.d (.int .i64 v68.2.2.2))), (17, .l (.d (.bool w69)))], 26⟩, ⟨[(39, .l (.mfn 103 12)), (38, .l (.ptr 12 0)), (37, .l (.ptr 12 0)), (0, .l (.d (.sl (a0.map (eI .u8))))), (2, .l (.ptr 3 0)), (5, .l (.ptr 12 0)), (8, .l (.ptr 9 0))], 74⟩], [(3, [.nil, .nil]), (9, [.own 36, .nil]), (12, [.d (.sl (a0.map (eI .u8))), .d (.int .i64 w70.1), .d (.int .i64 w75)]), (2003, [.d (.int .i64 (0 : Int)), .d (.int .i64 (0 : Int)), .d (.int .i64 (0 : Int))])], [(36, 57, 3, w8.2.2.map Part.enc), (1006, 90, 3, v68.2.2.1.map Port.enc)]⟩) h (fun k75 hk75 h => ?_) (fun w75 h => ?_)
    ·conv => whnf
     refine jnS (fun w76 => ⟨[(0, .l (.ptr 12 0)), (19, .l (.d (.bool w76)))], 47, [⟨[(8, .l (.ptr 12 0)), (7, .l (.d (.int .i64 w70.2.2))), (6, .l (.ptr 12 0)), (0, .l (.ptr 12 0)), (2, .l (.ptr 2003 0))], 16⟩, ⟨[(21, .l (.mfn 103 12)), (20, .l (.own 1006)), (17, .l (.d (.bool true))), (0, .l (.ptr 12 0)), (1, .l (.mfn 103 12)), (5, .l (.own 1006)), (6, .l (.d (.int .i64 v68.2.2.2))), (17, .l (.d (.bool w69)))], 26⟩, ⟨[(39, .l (.mfn 103 12)), (38, .l (.ptr 12 0)), (37, .l (.ptr 12 0)), (0, .l (.d (.sl (a0.map (eI .u8))))), (2, .l (.ptr 3 0)), (5, .l (.ptr 12 0)), (8, .l (.ptr 9 0))], 74⟩], [(3, [.nil, .nil]), (9, [.own 36, .nil]), (12, [.d (.sl (a0.map (eI .u8))), .d (.int .i64 w70.1), .d (.int .i64 w70.2.1)]), (2003, [.d (.int .i64 (0 : Int)), .d (.int .i64 (0 : Int)), .d (.int .i64 (0 : Int))])], [(36, 57, 3, w8.2.2.map Part.enc), (1006, 90, 3, v68.2.2.1.map Port.enc)]⟩) h (fun k76 hk76 h => ?_) (fun w76 h => ?_)
     ·conv => whnf
      refine ⟨17, ?_⟩
      conv => whnf
      refine fkS h (fun h => ?_) (fun h => ?_)
      ·conv => whnf
       refine lenS a0 (eI .u8) rfl ?_
       conv => whnf
       refine drS (by kernel_rfl) ?_
       conv => whnf
       exact jeS hk76 h (Weak.refl _)
      conv => whnf
      refine drS (by kernel_rfl) ?_
      conv => whnf
      exact jeS hk76 h (Weak.refl _)
     conv => whnf
     refine fkS h (fun h => ?_) (fun h => ?_)
     ·conv => whnf
      exact jeS hk75 h (Weak.refl _)
     conv => whnf
     refine jeX hk75 h ?_
     conv => whnf
     refine WkF.step (Weak.keepS _ [0]) ?_
     conv => whnf
     exact WkF.refl _
    conv => whnf
    refine fkS h (fun h => ?_) (fun h => ?_)
    ·conv => whnf
     exact jeS hk74 h (Weak.refl _)
    conv => whnf
    refine ⟨9, ?_⟩
    conv => whnf
    refine drS (by kernel_rfl) ?_
    conv => whnf
    refine ixS (enc := (eI .u8)) h rfl (fun _ => rfl) (fun x77 h => ?_)
    conv => whnf
    exact jeS hk74 h (Weak.refl _)
   conv => whnf
   refine inJ (fun w78 => ⟨[(11, .l (.d (.int .i64 w78.2.2))), (10, .l (.ptr 12 0)), (9, .l (.d (.int .i64 w74.2.2))), (8, .l (.ptr 12 0)), (7, .l (.d (.int .i64 w70.2.2))), (6, .l (.ptr 12 0)), (0, .l (.ptr 12 0)), (2, .l (.ptr 2003 0))], 16, [⟨[(21, .l (.mfn 103 12)), (20, .l (.own 1006)), (17, .l (.d (.bool true))), (0, .l (.ptr 12 0)), (1, .l (.mfn 103 12)), (5, .l (.own 1006)), (6, .l (.d (.int .i64 v68.2.2.2))), (17, .l (.d (.bool w69)))], 26⟩, ⟨[(39, .l (.mfn 103 12)), (38, .l (.ptr 12 0)), (37, .l (.ptr 12 0)), (0, .l (.d (.sl (a0.map (eI .u8))))), (2, .l (.ptr 3 0)), (5, .l (.ptr 12 0)), (8, .l (.ptr 9 0))], 74⟩], [(3, [.nil, .nil]), (9, [.own 36, .nil]), (12, [.d (.sl (a0.map (eI .u8))), .d (.int .i64 w78.1), .d (.int .i64 w78.2.1)]), (2003, [.d (.int .i64 (0 : Int)), .d (.int .i64 (0 : Int)), .d (.int .i64 (0 : Int))])], [(36, 57, 3, w8.2.2.map Part.enc), (1006, 90, 3, v68.2.2.1.map Port.enc)]⟩) h (fun k78 hk78 h => ?_) (fun w78 h => ?_)
   ·conv => whnf
    refine inS (fn := Tryz.f99) tab ⟨[(0, [0]), (1, [0, 19]), (2, [0]), (3, [0, 27]), (4, [2]), (5, [0]), (6, [2])], [], [100019, 3], []⟩ 47 [.tmp 2] rfl rfl rfl rfl rfl rfl ?_
    conv => whnf
    refine jnS (fun w79 => ⟨[(0, .l (.ptr 12 0))], 47, [⟨[(10, .l (.ptr 12 0)), (9, .l (.d (.int .i64 w74.2.2))), (8, .l (.ptr 12 0)), (7, .l (.d (.int .i64 w70.2.2))), (6, .l (.ptr 12 0)), (0, .l (.ptr 12 0)), (2, .l (.ptr 2003 0))], 16⟩, ⟨[(21, .l (.mfn 103 12)), (20, .l (.own 1006)), (17, .l (.d (.bool true))), (0, .l (.ptr 12 0)), (1, .l (.mfn 103 12)), (5, .l (.own 1006)), (6, .l (.d (.int .i64 v68.2.2.2))), (17, .l (.d (.bool w69)))], 26⟩, ⟨[(39, .l (.mfn 103 12)), (38, .l (.ptr 12 0)), (37, .l (.ptr 12 0)), (0, .l (.d (.sl (a0.map (eI .u8))))), (2, .l (.ptr 3 0)), (5, .l (.ptr 12 0)), (8, .l (.ptr 9 0))], 74⟩], [(3, [.nil, .nil]), (9, [.own 36, .nil]), (12, [.d (.sl (a0.map (eI .u8))), .d (.int .i64 w74.1), .d (.int .i64 w79)]), (2003, [.d (.int .i64 (0 : Int)), .d (.int .i64 (0 : Int)), .d (.int .i64 (0 : Int))])], [(36, 57, 3, w8.2.2.map Part.enc), (1006, 90, 3, v68.2.2.1.map Port.enc)]⟩) h (fun k79 hk79 h => ?_) (fun w79 h => ?_)
    ·conv => whnf
     refine jnS (fun w80 => ⟨[(0, .l (.ptr 12 0)), (19, .l (.d (.bool w80)))], 47, [⟨[(10, .l (.ptr 12 0)), (9, .l (.d (.int .i64 w74.2.2))), (8, .l (.ptr 12 0)), (7, .l (.d (.int .i64 w70.2.2))), (6, .l (.ptr 12 0)), (0, .l (.ptr 12 0)), (2, .l (.ptr 2003 0))], 16⟩, ⟨[(21, .l (.mfn 103 12)), (20, .l (.own 1006)), (17, .l (.d (.bool true))), (0, .l (.ptr 12 0)), (1, .l (.mfn 103 12)), (5, .l (.own 1006)), (6, .l (.d (.int .i64 v68.2.2.2))), (17, .l (.d (.bool w69)))], 26⟩, ⟨[(39, .l (.mfn 103 12)), (38, .l (.ptr 12 0)), (37, .l (.ptr 12 0)), (0, .l (.d (.sl (a0.map (eI .u8))))), (2, .l (.ptr 3 0)), (5, .l (.ptr 12 0)), (8, .l (.ptr 9 0))], 74⟩], [(3, [.nil, .nil]), (9, [.own 36, .nil]), (12, [.d (.sl (a0.map (eI .u8))), .d (.int .i64 w74.1), .d (.int .i64 w74.2.1)]), (2003, [.d (.int .i64 (0 : Int)), .d (.int .i64 (0 : Int)), .d (.int .i64 (0 : Int))])], [(36, 57, 3, w8.2.2.map Part.enc), (1006, 90, 3, v68.2.2.1.map Port.enc)]⟩) h (fun k80 hk80 h => ?_) (fun w80 h => ?_)
     ·conv => whnf
      refine ⟨17, ?_⟩
      conv => whnf
      refine fkS h (fun h => ?_) (fun h => ?_)
      ·conv => whnf
       refine lenS a0 (eI .u8) rfl ?_
       conv => whnf
       refine drS (by kernel_rfl) ?_
       conv => whnf
       exact jeS hk80 h (Weak.refl _)
      conv => whnf
      refine drS (by kernel_rfl) ?_
      conv => whnf
      exact jeS hk80 h (Weak.refl _)
     conv => whnf
     refine fkS h (fun h => ?_) (fun h => ?_)
     ·conv => whnf
      exact jeS hk79 h (Weak.refl _)
     conv => whnf
     refine jeX hk79 h ?_
     conv => whnf
     refine WkF.step (Weak.keepS _ [0]) ?_
     conv => whnf
     exact WkF.refl _
    conv => whnf
    refine fkS h (fun h => ?_) (fun h => ?_)
    ·conv => whnf
     exact jeS hk78 h (Weak.refl _)
    conv => whnf
    refine ⟨9, ?_⟩
    conv => whnf
    refine drS (by kernel_rfl) ?_
    conv => whnf
    refine ixS (enc := (eI .u8)) h rfl (fun _ => rfl) (fun x81 h => ?_)
    conv => whnf
    exact jeS hk78 h (Weak.refl _)
   conv => whnf
   refine liS ([⟨w70.2.2, w74.2.2, w78.2.2⟩] : List Port) Port.enc rfl rfl ?_
   conv => whnf
   refine apS (enc := Port.enc) (l1 := v68.2.2.1) (l2 := ([⟨w70.2.2, w74.2.2, w78.2.2⟩] : List Port)) h rfl rfl (fun _ => rfl) (fun h => ?_)
   conv => whnf
   exact leS hn68 h (Weak.refl _)
  conv => whnf
  refine jeX hk63 h ?_
  conv => whnf
  refine WkF.step (Weak.rekey _ 1005 41 rfl) ?_
  conv => whnf
  exact WkF.refl _
 conv => whnf
 refine fkS h (fun h => ?_) (fun h => ?_)
 ·conv => whnf
  refine ⟨9, ?_⟩
  conv => whnf
  refine lenS a0 (eI .u8) rfl ?_
  conv => whnf
  refine drS (by kernel_rfl) ?_
  conv => whnf
  exact rt (E := E_Config_Int_Int) h rfl
 conv => whnf
 refine lenS a0 (eI .u8) rfl ?_
 conv => whnf
 refine fkS h (fun h => ?_) (fun h => ?_)
 ·conv => whnf
  refine ⟨6, ?_⟩
  conv => whnf
  refine drS (by kernel_rfl) ?_
  conv => whnf
  exact rt (E := E_Config_Int_Int) h rfl
 conv => whnf
 refine caS (E := E_Bool) h (image_Right_w ⟨w8.2.2, w63.2.2⟩) rfl (fun _ => rfl) (fun x82 h => ?_)
 conv => whnf
 refine fkS h (fun h => ?_) (fun h => ?_)
 ·conv => whnf
  exact rt (E := E_Config_Int_Int) h rfl
 conv => whnf
 exact rt (E := E_Config_Int_Int) h rfl
end Go.Proofs.YtldlcdnhdedoeaaGreat
namespace Go.Proofs.YtldlcdnhdedoeaaGreat
open Go Go.VC
noncomputable def world_may (a0 : List (List KernelCmd)) : Option Bool :=
 lp (fun nx1 (v1 : Int) => fk (decide (v1 < (a0.length : Int))) (ix a0 v1 fun x2 => fk (decide ((x2.length : Int) > (100 : Int))) (some false) (nx1 (wr (v1 + (1 : Int))))) (some (decide ((a0.length : Int) ≤ (3000 : Int))))) FU (0 : Int)
theorem world_may_w (a0 : List (List KernelCmd)) (r : Bool) (h : world_may a0 = some r) : Go.VC.Spec Tryz.prog 98 [.d (.sl (a0.map (eL KernelCmd.enc)))] (fun y => y = E_Bool r) := by
 refine Go.VC.Spec.of_xc (args := [.d (.sl (a0.map (eL KernelCmd.enc)))]) (fn := Tryz.f98) tab ⟨[(0, [0]), (1, [0, 5, 6, 7]), (2, [0, 5, 6, 7, 8]), (3, [0, 4, 5, 6, 7]), (4, [0, 5, 6, 7, 13]), (5, [2]), (6, [0, 5, 6, 7]), (7, [2])], [], [], []⟩ 18 [.tmp 2] rfl rfl rfl rfl rfl rfl ?_
 conv => whnf
 refine lenS a0 (eL KernelCmd.enc) rfl ?_
 conv => whnf
 refine lpS (fun v1 => ⟨[(0, .l (.d (.sl (a0.map (eL KernelCmd.enc))))), (5, .l (.d (.sl (a0.map (eL KernelCmd.enc))))), (6, .l (.d (.int .i64 (a0.length : Int)))), (7, .l (.d (.int .i64 v1)))], 18, [], [], []⟩) h (Weak.refl _) (fun _ nx1 hn1 v1 h => ?_)
 conv => whnf
 refine fkS h (fun h => ?_) (fun h => ?_)
 ·conv => whnf
  refine ixS (enc := (eL KernelCmd.enc)) h rfl (fun _ => rfl) (fun x2 h => ?_)
  conv => whnf
  refine lenS x2 KernelCmd.enc rfl ?_
  conv => whnf
  refine fkS h (fun h => ?_) (fun h => ?_)
  ·conv => whnf
   exact rt (E := E_Bool) h rfl
  conv => whnf
  exact leS hn1 h (Weak.refl _)
 conv => whnf
 refine lenS a0 (eL KernelCmd.enc) rfl ?_
 conv => whnf
 exact rt (E := E_Bool) h rfl
end Go.Proofs.YtldlcdnhdedoeaaGreat
namespace Go.Proofs.YtldlcdnhdedoeaaGreat
open Go Go.VC
noncomputable def world_Play (a0 : List Int) (a1 : List (List KernelCmd)) : Option ((List WorldView) × Int) :=
 bnd (image_Decode a0) fun x1 => fk (!decide (x1.2.2 = (0 : Int))) (some ([], x1.2.2)) (bnd (kernel_Boot x1.1) fun x2 => fk (!decide (x2.2 = (0 : Int))) (some ([], x2.2)) (bnd (world_may a1) fun x3 => fk (!x3) (some ([], (5 : Int))) (fk (decide ((x2.1.Parts.length : Int) = (0 : Int))) (lp (fun nx88 (v88 : Int × (List Window) × (List Face) × (List PartState) × (List PortLine) × Int × Int) => fk (decide (v88.2.2.2.2.2.2 < (a1.length : Int))) (ix a1 v88.2.2.2.2.2.2 fun x89 => lp (fun nx90 (v90 : Int × (List Window) × (List Face) × (List PartState) × (List PortLine) × Int × Int) => fk (decide (v90.2.2.2.2.2.2 < (x89.length : Int))) (ix x89 v90.2.2.2.2.2.2 fun x91 => bnd (kernel_Do (⟨⟨v90.1, v90.2.1⟩, v90.2.2.1, v90.2.2.2.1, v90.2.2.2.2.1, v90.2.2.2.2.2.1⟩) x91) fun x92 => jn (fun (w93 : Unit) => nx90 (x92.1.Table.Frame, x92.1.Table.Windows, x92.1.Faces, x92.1.Parts, x92.1.Lines, x92.1.Now, (wr (v90.2.2.2.2.2.2 + (1 : Int))))) (fun k93 => jn (fun (w94 : Bool) => fk w94 (none) (k93 ())) (fun k94 => fk (decide (x91.Part ≥ (0 : Int))) (k94 (decide (x91.Part < (0 : Int)))) (k94 false)))) (bnd (kernel_Tick (⟨⟨v90.1, v90.2.1⟩, v90.2.2.1, v90.2.2.2.1, v90.2.2.2.2.1, v90.2.2.2.2.2.1⟩)) fun x95 => lp (fun nx96 (v96 : Unit) => nx88 (x95.1.Table.Frame, x95.1.Table.Windows, x95.1.Faces, x95.1.Parts, x95.1.Lines, x95.1.Now, (wr (v88.2.2.2.2.2.2 + (1 : Int))))) FU ())) FU (v88.1, v88.2.1, v88.2.2.1, v88.2.2.2.1, v88.2.2.2.2.1, v88.2.2.2.2.2.1, (0 : Int))) (lp (fun nx97 (v97 : Unit) => some (([] : List WorldView), (0 : Int))) FU ())) FU (x2.1.Table.Frame, x2.1.Table.Windows, x2.1.Faces, x2.1.Parts, x2.1.Lines, x2.1.Now, (0 : Int))) (fk (decide ((x2.1.Parts.length : Int) = (1 : Int))) (lp (fun nx73 (v73 : Int × (List Window) × (List Face) × (List PartState) × (List PortLine) × Int × (List WorldSaw) × (List Int) × Int) => fk (decide (v73.2.2.2.2.2.2.2.2 < (a1.length : Int))) (ix a1 v73.2.2.2.2.2.2.2.2 fun x74 => lp (fun nx75 (v75 : Int × (List Window) × (List Face) × (List PartState) × (List PortLine) × Int × (List WorldSaw) × Int) => fk (decide (v75.2.2.2.2.2.2.2 < (x74.length : Int))) (ix x74 v75.2.2.2.2.2.2.2 fun x76 => bnd (kernel_Do (⟨⟨v75.1, v75.2.1⟩, v75.2.2.1, v75.2.2.2.1, v75.2.2.2.2.1, v75.2.2.2.2.2.1⟩) x76) fun x77 => jn (fun (w78 : List WorldSaw) => nx75 (x77.1.Table.Frame, x77.1.Table.Windows, x77.1.Faces, x77.1.Parts, x77.1.Lines, x77.1.Now, w78, (wr (v75.2.2.2.2.2.2.2 + (1 : Int))))) (fun k78 => jn (fun (w79 : Bool) => fk w79 (fk (decide (x76.Part = (0 : Int))) (ck (decide ((v75.2.2.2.2.2.2.1.length + ([⟨v73.2.2.2.2.2.2.2.2, x77.2.1, x77.2.2⟩] : List WorldSaw).length) * 24 ≤ 140737488355328)) (k78 (v75.2.2.2.2.2.2.1 ++ ([⟨v73.2.2.2.2.2.2.2.2, x77.2.1, x77.2.2⟩] : List WorldSaw)))) (none)) (k78 v75.2.2.2.2.2.2.1)) (fun k79 => fk (decide (x76.Part ≥ (0 : Int))) (k79 (decide (x76.Part < (1 : Int)))) (k79 false)))) (bnd (kernel_Tick (⟨⟨v75.1, v75.2.1⟩, v75.2.2.1, v75.2.2.2.1, v75.2.2.2.2.1, v75.2.2.2.2.2.1⟩)) fun x81 => lp (fun nx82 (v82 : (List Int) × Int) => fk (decide (v82.2 < (1 : Int))) (fk (decide (v82.2 = (0 : Int))) (ix x81.2.1 v82.2 fun x84 => ck (decide ((v82.1.length + ([x84] : List Int).length) * 8 ≤ 140737488355328)) (nx82 (v82.1 ++ ([x84] : List Int), (wr (v82.2 + (1 : Int)))))) (none)) (nx73 (x81.1.Table.Frame, x81.1.Table.Windows, x81.1.Faces, x81.1.Parts, x81.1.Lines, x81.1.Now, v75.2.2.2.2.2.2.1, v82.1, (wr (v73.2.2.2.2.2.2.2.2 + (1 : Int)))))) FU (v73.2.2.2.2.2.2.2.1, (0 : Int)))) FU (v73.1, v73.2.1, v73.2.2.1, v73.2.2.2.1, v73.2.2.2.2.1, v73.2.2.2.2.2.1, v73.2.2.2.2.2.2.1, (0 : Int))) (lp (fun nx85 (v85 : (List Entry) × Int) => fk (decide (v85.2 < (1 : Int))) (ix v73.2.2.2.1 v85.2 fun x86 => fk (decide (v85.2 = (0 : Int))) (nx85 (x86.Log, (wr (v85.2 + (1 : Int))))) (none)) (some (([⟨v73.2.2.2.2.2.2.1, v73.2.2.2.2.2.2.2.1, v85.1⟩] : List WorldView), (0 : Int)))) FU ([], (0 : Int)))) FU (x2.1.Table.Frame, x2.1.Table.Windows, x2.1.Faces, x2.1.Parts, x2.1.Lines, x2.1.Now, [], [], (0 : Int))) (fk (decide ((x2.1.Parts.length : Int) = (2 : Int))) (lp (fun nx54 (v54 : Int × (List Window) × (List Face) × (List PartState) × (List PortLine) × Int × (List WorldSaw) × (List Int) × (List WorldSaw) × (List Int) × Int) => fk (decide (v54.2.2.2.2.2.2.2.2.2.2 < (a1.length : Int))) (ix a1 v54.2.2.2.2.2.2.2.2.2.2 fun x55 => lp (fun nx56 (v56 : Int × (List Window) × (List Face) × (List PartState) × (List PortLine) × Int × (List WorldSaw) × (List WorldSaw) × Int) => fk (decide (v56.2.2.2.2.2.2.2.2 < (x55.length : Int))) (ix x55 v56.2.2.2.2.2.2.2.2 fun x57 => bnd (kernel_Do (⟨⟨v56.1, v56.2.1⟩, v56.2.2.1, v56.2.2.2.1, v56.2.2.2.2.1, v56.2.2.2.2.2.1⟩) x57) fun x58 => jn (fun (w59 : (List WorldSaw) × (List WorldSaw)) => nx56 (x58.1.Table.Frame, x58.1.Table.Windows, x58.1.Faces, x58.1.Parts, x58.1.Lines, x58.1.Now, w59.1, w59.2, (wr (v56.2.2.2.2.2.2.2.2 + (1 : Int))))) (fun k59 => jn (fun (w60 : Bool) => fk w60 (fk (decide (x57.Part = (0 : Int))) (ck (decide ((v56.2.2.2.2.2.2.1.length + ([⟨v54.2.2.2.2.2.2.2.2.2.2, x58.2.1, x58.2.2⟩] : List WorldSaw).length) * 24 ≤ 140737488355328)) (k59 (v56.2.2.2.2.2.2.1 ++ ([⟨v54.2.2.2.2.2.2.2.2.2.2, x58.2.1, x58.2.2⟩] : List WorldSaw), v56.2.2.2.2.2.2.2.1))) (fk (decide (x57.Part = (1 : Int))) (ck (decide ((v56.2.2.2.2.2.2.2.1.length + ([⟨v54.2.2.2.2.2.2.2.2.2.2, x58.2.1, x58.2.2⟩] : List WorldSaw).length) * 24 ≤ 140737488355328)) (k59 (v56.2.2.2.2.2.2.1, v56.2.2.2.2.2.2.2.1 ++ ([⟨v54.2.2.2.2.2.2.2.2.2.2, x58.2.1, x58.2.2⟩] : List WorldSaw)))) (none))) (k59 (v56.2.2.2.2.2.2.1, v56.2.2.2.2.2.2.2.1))) (fun k60 => fk (decide (x57.Part ≥ (0 : Int))) (k60 (decide (x57.Part < (2 : Int)))) (k60 false)))) (bnd (kernel_Tick (⟨⟨v56.1, v56.2.1⟩, v56.2.2.1, v56.2.2.2.1, v56.2.2.2.2.1, v56.2.2.2.2.2.1⟩)) fun x63 => lp (fun nx64 (v64 : (List Int) × (List Int) × Int) => fk (decide (v64.2.2 < (2 : Int))) (fk (decide (v64.2.2 = (0 : Int))) (ix x63.2.1 v64.2.2 fun x68 => ck (decide ((v64.1.length + ([x68] : List Int).length) * 8 ≤ 140737488355328)) (nx64 (v64.1 ++ ([x68] : List Int), v64.2.1, (wr (v64.2.2 + (1 : Int)))))) (fk (decide (v64.2.2 = (1 : Int))) (ix x63.2.1 v64.2.2 fun x67 => ck (decide ((v64.2.1.length + ([x67] : List Int).length) * 8 ≤ 140737488355328)) (nx64 (v64.1, v64.2.1 ++ ([x67] : List Int), (wr (v64.2.2 + (1 : Int)))))) (none))) (nx54 (x63.1.Table.Frame, x63.1.Table.Windows, x63.1.Faces, x63.1.Parts, x63.1.Lines, x63.1.Now, v56.2.2.2.2.2.2.1, v64.1, v56.2.2.2.2.2.2.2.1, v64.2.1, (wr (v54.2.2.2.2.2.2.2.2.2.2 + (1 : Int)))))) FU (v54.2.2.2.2.2.2.2.1, v54.2.2.2.2.2.2.2.2.2.1, (0 : Int)))) FU (v54.1, v54.2.1, v54.2.2.1, v54.2.2.2.1, v54.2.2.2.2.1, v54.2.2.2.2.2.1, v54.2.2.2.2.2.2.1, v54.2.2.2.2.2.2.2.2.1, (0 : Int))) (lp (fun nx69 (v69 : (List Entry) × (List Entry) × Int) => fk (decide (v69.2.2 < (2 : Int))) (ix v54.2.2.2.1 v69.2.2 fun x70 => fk (decide (v69.2.2 = (0 : Int))) (nx69 (x70.Log, v69.2.1, (wr (v69.2.2 + (1 : Int))))) (fk (decide (v69.2.2 = (1 : Int))) (nx69 (v69.1, x70.Log, (wr (v69.2.2 + (1 : Int))))) (none))) (some (([⟨v54.2.2.2.2.2.2.1, v54.2.2.2.2.2.2.2.1, v69.1⟩, ⟨v54.2.2.2.2.2.2.2.2.1, v54.2.2.2.2.2.2.2.2.2.1, v69.2.1⟩] : List WorldView), (0 : Int)))) FU ([], [], (0 : Int)))) FU (x2.1.Table.Frame, x2.1.Table.Windows, x2.1.Faces, x2.1.Parts, x2.1.Lines, x2.1.Now, [], [], [], [], (0 : Int))) (fk (decide ((x2.1.Parts.length : Int) = (3 : Int))) (lp (fun nx31 (v31 : Int × (List Window) × (List Face) × (List PartState) × (List PortLine) × Int × (List WorldSaw) × (List Int) × (List WorldSaw) × (List Int) × (List WorldSaw) × (List Int) × Int) => fk (decide (v31.2.2.2.2.2.2.2.2.2.2.2.2 < (a1.length : Int))) (ix a1 v31.2.2.2.2.2.2.2.2.2.2.2.2 fun x32 => lp (fun nx33 (v33 : Int × (List Window) × (List Face) × (List PartState) × (List PortLine) × Int × (List WorldSaw) × (List WorldSaw) × (List WorldSaw) × Int) => fk (decide (v33.2.2.2.2.2.2.2.2.2 < (x32.length : Int))) (ix x32 v33.2.2.2.2.2.2.2.2.2 fun x34 => bnd (kernel_Do (⟨⟨v33.1, v33.2.1⟩, v33.2.2.1, v33.2.2.2.1, v33.2.2.2.2.1, v33.2.2.2.2.2.1⟩) x34) fun x35 => jn (fun (w36 : (List WorldSaw) × (List WorldSaw) × (List WorldSaw)) => nx33 (x35.1.Table.Frame, x35.1.Table.Windows, x35.1.Faces, x35.1.Parts, x35.1.Lines, x35.1.Now, w36.1, w36.2.1, w36.2.2, (wr (v33.2.2.2.2.2.2.2.2.2 + (1 : Int))))) (fun k36 => jn (fun (w37 : Bool) => fk w37 (fk (decide (x34.Part = (0 : Int))) (ck (decide ((v33.2.2.2.2.2.2.1.length + ([⟨v31.2.2.2.2.2.2.2.2.2.2.2.2, x35.2.1, x35.2.2⟩] : List WorldSaw).length) * 24 ≤ 140737488355328)) (k36 (v33.2.2.2.2.2.2.1 ++ ([⟨v31.2.2.2.2.2.2.2.2.2.2.2.2, x35.2.1, x35.2.2⟩] : List WorldSaw), v33.2.2.2.2.2.2.2.1, v33.2.2.2.2.2.2.2.2.1))) (fk (decide (x34.Part = (1 : Int))) (ck (decide ((v33.2.2.2.2.2.2.2.1.length + ([⟨v31.2.2.2.2.2.2.2.2.2.2.2.2, x35.2.1, x35.2.2⟩] : List WorldSaw).length) * 24 ≤ 140737488355328)) (k36 (v33.2.2.2.2.2.2.1, v33.2.2.2.2.2.2.2.1 ++ ([⟨v31.2.2.2.2.2.2.2.2.2.2.2.2, x35.2.1, x35.2.2⟩] : List WorldSaw), v33.2.2.2.2.2.2.2.2.1))) (fk (decide (x34.Part = (2 : Int))) (ck (decide ((v33.2.2.2.2.2.2.2.2.1.length + ([⟨v31.2.2.2.2.2.2.2.2.2.2.2.2, x35.2.1, x35.2.2⟩] : List WorldSaw).length) * 24 ≤ 140737488355328)) (k36 (v33.2.2.2.2.2.2.1, v33.2.2.2.2.2.2.2.1, v33.2.2.2.2.2.2.2.2.1 ++ ([⟨v31.2.2.2.2.2.2.2.2.2.2.2.2, x35.2.1, x35.2.2⟩] : List WorldSaw)))) (none)))) (k36 (v33.2.2.2.2.2.2.1, v33.2.2.2.2.2.2.2.1, v33.2.2.2.2.2.2.2.2.1))) (fun k37 => fk (decide (x34.Part ≥ (0 : Int))) (k37 (decide (x34.Part < (3 : Int)))) (k37 false)))) (bnd (kernel_Tick (⟨⟨v33.1, v33.2.1⟩, v33.2.2.1, v33.2.2.2.1, v33.2.2.2.2.1, v33.2.2.2.2.2.1⟩)) fun x41 => lp (fun nx42 (v42 : (List Int) × (List Int) × (List Int) × Int) => fk (decide (v42.2.2.2 < (3 : Int))) (fk (decide (v42.2.2.2 = (0 : Int))) (ix x41.2.1 v42.2.2.2 fun x48 => ck (decide ((v42.1.length + ([x48] : List Int).length) * 8 ≤ 140737488355328)) (nx42 (v42.1 ++ ([x48] : List Int), v42.2.1, v42.2.2.1, (wr (v42.2.2.2 + (1 : Int)))))) (fk (decide (v42.2.2.2 = (1 : Int))) (ix x41.2.1 v42.2.2.2 fun x47 => ck (decide ((v42.2.1.length + ([x47] : List Int).length) * 8 ≤ 140737488355328)) (nx42 (v42.1, v42.2.1 ++ ([x47] : List Int), v42.2.2.1, (wr (v42.2.2.2 + (1 : Int)))))) (fk (decide (v42.2.2.2 = (2 : Int))) (ix x41.2.1 v42.2.2.2 fun x46 => ck (decide ((v42.2.2.1.length + ([x46] : List Int).length) * 8 ≤ 140737488355328)) (nx42 (v42.1, v42.2.1, v42.2.2.1 ++ ([x46] : List Int), (wr (v42.2.2.2 + (1 : Int)))))) (none)))) (nx31 (x41.1.Table.Frame, x41.1.Table.Windows, x41.1.Faces, x41.1.Parts, x41.1.Lines, x41.1.Now, v33.2.2.2.2.2.2.1, v42.1, v33.2.2.2.2.2.2.2.1, v42.2.1, v33.2.2.2.2.2.2.2.2.1, v42.2.2.1, (wr (v31.2.2.2.2.2.2.2.2.2.2.2.2 + (1 : Int)))))) FU (v31.2.2.2.2.2.2.2.1, v31.2.2.2.2.2.2.2.2.2.1, v31.2.2.2.2.2.2.2.2.2.2.2.1, (0 : Int)))) FU (v31.1, v31.2.1, v31.2.2.1, v31.2.2.2.1, v31.2.2.2.2.1, v31.2.2.2.2.2.1, v31.2.2.2.2.2.2.1, v31.2.2.2.2.2.2.2.2.1, v31.2.2.2.2.2.2.2.2.2.2.1, (0 : Int))) (lp (fun nx49 (v49 : (List Entry) × (List Entry) × (List Entry) × Int) => fk (decide (v49.2.2.2 < (3 : Int))) (ix v31.2.2.2.1 v49.2.2.2 fun x50 => fk (decide (v49.2.2.2 = (0 : Int))) (nx49 (x50.Log, v49.2.1, v49.2.2.1, (wr (v49.2.2.2 + (1 : Int))))) (fk (decide (v49.2.2.2 = (1 : Int))) (nx49 (v49.1, x50.Log, v49.2.2.1, (wr (v49.2.2.2 + (1 : Int))))) (fk (decide (v49.2.2.2 = (2 : Int))) (nx49 (v49.1, v49.2.1, x50.Log, (wr (v49.2.2.2 + (1 : Int))))) (none)))) (some (([⟨v31.2.2.2.2.2.2.1, v31.2.2.2.2.2.2.2.1, v49.1⟩, ⟨v31.2.2.2.2.2.2.2.2.1, v31.2.2.2.2.2.2.2.2.2.1, v49.2.1⟩, ⟨v31.2.2.2.2.2.2.2.2.2.2.1, v31.2.2.2.2.2.2.2.2.2.2.2.1, v49.2.2.1⟩] : List WorldView), (0 : Int)))) FU ([], [], [], (0 : Int)))) FU (x2.1.Table.Frame, x2.1.Table.Windows, x2.1.Faces, x2.1.Parts, x2.1.Lines, x2.1.Now, [], [], [], [], [], [], (0 : Int))) (fk (decide ((x2.1.Parts.length : Int) = (4 : Int))) (lp (fun nx4 (v4 : Int × (List Window) × (List Face) × (List PartState) × (List PortLine) × Int × (List WorldSaw) × (List Int) × (List WorldSaw) × (List Int) × (List WorldSaw) × (List Int) × (List WorldSaw) × (List Int) × Int) => fk (decide (v4.2.2.2.2.2.2.2.2.2.2.2.2.2.2 < (a1.length : Int))) (ix a1 v4.2.2.2.2.2.2.2.2.2.2.2.2.2.2 fun x5 => lp (fun nx6 (v6 : Int × (List Window) × (List Face) × (List PartState) × (List PortLine) × Int × (List WorldSaw) × (List WorldSaw) × (List WorldSaw) × (List WorldSaw) × Int) => fk (decide (v6.2.2.2.2.2.2.2.2.2.2 < (x5.length : Int))) (ix x5 v6.2.2.2.2.2.2.2.2.2.2 fun x7 => bnd (kernel_Do (⟨⟨v6.1, v6.2.1⟩, v6.2.2.1, v6.2.2.2.1, v6.2.2.2.2.1, v6.2.2.2.2.2.1⟩) x7) fun x8 => jn (fun (w9 : (List WorldSaw) × (List WorldSaw) × (List WorldSaw) × (List WorldSaw)) => nx6 (x8.1.Table.Frame, x8.1.Table.Windows, x8.1.Faces, x8.1.Parts, x8.1.Lines, x8.1.Now, w9.1, w9.2.1, w9.2.2.1, w9.2.2.2, (wr (v6.2.2.2.2.2.2.2.2.2.2 + (1 : Int))))) (fun k9 => jn (fun (w10 : Bool) => fk w10 (fk (decide (x7.Part = (0 : Int))) (ck (decide ((v6.2.2.2.2.2.2.1.length + ([⟨v4.2.2.2.2.2.2.2.2.2.2.2.2.2.2, x8.2.1, x8.2.2⟩] : List WorldSaw).length) * 24 ≤ 140737488355328)) (k9 (v6.2.2.2.2.2.2.1 ++ ([⟨v4.2.2.2.2.2.2.2.2.2.2.2.2.2.2, x8.2.1, x8.2.2⟩] : List WorldSaw), v6.2.2.2.2.2.2.2.1, v6.2.2.2.2.2.2.2.2.1, v6.2.2.2.2.2.2.2.2.2.1))) (fk (decide (x7.Part = (1 : Int))) (ck (decide ((v6.2.2.2.2.2.2.2.1.length + ([⟨v4.2.2.2.2.2.2.2.2.2.2.2.2.2.2, x8.2.1, x8.2.2⟩] : List WorldSaw).length) * 24 ≤ 140737488355328)) (k9 (v6.2.2.2.2.2.2.1, v6.2.2.2.2.2.2.2.1 ++ ([⟨v4.2.2.2.2.2.2.2.2.2.2.2.2.2.2, x8.2.1, x8.2.2⟩] : List WorldSaw), v6.2.2.2.2.2.2.2.2.1, v6.2.2.2.2.2.2.2.2.2.1))) (fk (decide (x7.Part = (2 : Int))) (ck (decide ((v6.2.2.2.2.2.2.2.2.1.length + ([⟨v4.2.2.2.2.2.2.2.2.2.2.2.2.2.2, x8.2.1, x8.2.2⟩] : List WorldSaw).length) * 24 ≤ 140737488355328)) (k9 (v6.2.2.2.2.2.2.1, v6.2.2.2.2.2.2.2.1, v6.2.2.2.2.2.2.2.2.1 ++ ([⟨v4.2.2.2.2.2.2.2.2.2.2.2.2.2.2, x8.2.1, x8.2.2⟩] : List WorldSaw), v6.2.2.2.2.2.2.2.2.2.1))) (fk (decide (x7.Part = (3 : Int))) (ck (decide ((v6.2.2.2.2.2.2.2.2.2.1.length + ([⟨v4.2.2.2.2.2.2.2.2.2.2.2.2.2.2, x8.2.1, x8.2.2⟩] : List WorldSaw).length) * 24 ≤ 140737488355328)) (k9 (v6.2.2.2.2.2.2.1, v6.2.2.2.2.2.2.2.1, v6.2.2.2.2.2.2.2.2.1, v6.2.2.2.2.2.2.2.2.2.1 ++ ([⟨v4.2.2.2.2.2.2.2.2.2.2.2.2.2.2, x8.2.1, x8.2.2⟩] : List WorldSaw)))) (none))))) (k9 (v6.2.2.2.2.2.2.1, v6.2.2.2.2.2.2.2.1, v6.2.2.2.2.2.2.2.2.1, v6.2.2.2.2.2.2.2.2.2.1))) (fun k10 => fk (decide (x7.Part ≥ (0 : Int))) (k10 (decide (x7.Part < (4 : Int)))) (k10 false)))) (bnd (kernel_Tick (⟨⟨v6.1, v6.2.1⟩, v6.2.2.1, v6.2.2.2.1, v6.2.2.2.2.1, v6.2.2.2.2.2.1⟩)) fun x15 => lp (fun nx16 (v16 : (List Int) × (List Int) × (List Int) × (List Int) × Int) => fk (decide (v16.2.2.2.2 < (4 : Int))) (fk (decide (v16.2.2.2.2 = (0 : Int))) (ix x15.2.1 v16.2.2.2.2 fun x24 => ck (decide ((v16.1.length + ([x24] : List Int).length) * 8 ≤ 140737488355328)) (nx16 (v16.1 ++ ([x24] : List Int), v16.2.1, v16.2.2.1, v16.2.2.2.1, (wr (v16.2.2.2.2 + (1 : Int)))))) (fk (decide (v16.2.2.2.2 = (1 : Int))) (ix x15.2.1 v16.2.2.2.2 fun x23 => ck (decide ((v16.2.1.length + ([x23] : List Int).length) * 8 ≤ 140737488355328)) (nx16 (v16.1, v16.2.1 ++ ([x23] : List Int), v16.2.2.1, v16.2.2.2.1, (wr (v16.2.2.2.2 + (1 : Int)))))) (fk (decide (v16.2.2.2.2 = (2 : Int))) (ix x15.2.1 v16.2.2.2.2 fun x22 => ck (decide ((v16.2.2.1.length + ([x22] : List Int).length) * 8 ≤ 140737488355328)) (nx16 (v16.1, v16.2.1, v16.2.2.1 ++ ([x22] : List Int), v16.2.2.2.1, (wr (v16.2.2.2.2 + (1 : Int)))))) (fk (decide (v16.2.2.2.2 = (3 : Int))) (ix x15.2.1 v16.2.2.2.2 fun x21 => ck (decide ((v16.2.2.2.1.length + ([x21] : List Int).length) * 8 ≤ 140737488355328)) (nx16 (v16.1, v16.2.1, v16.2.2.1, v16.2.2.2.1 ++ ([x21] : List Int), (wr (v16.2.2.2.2 + (1 : Int)))))) (none))))) (nx4 (x15.1.Table.Frame, x15.1.Table.Windows, x15.1.Faces, x15.1.Parts, x15.1.Lines, x15.1.Now, v6.2.2.2.2.2.2.1, v16.1, v6.2.2.2.2.2.2.2.1, v16.2.1, v6.2.2.2.2.2.2.2.2.1, v16.2.2.1, v6.2.2.2.2.2.2.2.2.2.1, v16.2.2.2.1, (wr (v4.2.2.2.2.2.2.2.2.2.2.2.2.2.2 + (1 : Int)))))) FU (v4.2.2.2.2.2.2.2.1, v4.2.2.2.2.2.2.2.2.2.1, v4.2.2.2.2.2.2.2.2.2.2.2.1, v4.2.2.2.2.2.2.2.2.2.2.2.2.2.1, (0 : Int)))) FU (v4.1, v4.2.1, v4.2.2.1, v4.2.2.2.1, v4.2.2.2.2.1, v4.2.2.2.2.2.1, v4.2.2.2.2.2.2.1, v4.2.2.2.2.2.2.2.2.1, v4.2.2.2.2.2.2.2.2.2.2.1, v4.2.2.2.2.2.2.2.2.2.2.2.2.1, (0 : Int))) (lp (fun nx25 (v25 : (List Entry) × (List Entry) × (List Entry) × (List Entry) × Int) => fk (decide (v25.2.2.2.2 < (4 : Int))) (ix v4.2.2.2.1 v25.2.2.2.2 fun x26 => fk (decide (v25.2.2.2.2 = (0 : Int))) (nx25 (x26.Log, v25.2.1, v25.2.2.1, v25.2.2.2.1, (wr (v25.2.2.2.2 + (1 : Int))))) (fk (decide (v25.2.2.2.2 = (1 : Int))) (nx25 (v25.1, x26.Log, v25.2.2.1, v25.2.2.2.1, (wr (v25.2.2.2.2 + (1 : Int))))) (fk (decide (v25.2.2.2.2 = (2 : Int))) (nx25 (v25.1, v25.2.1, x26.Log, v25.2.2.2.1, (wr (v25.2.2.2.2 + (1 : Int))))) (fk (decide (v25.2.2.2.2 = (3 : Int))) (nx25 (v25.1, v25.2.1, v25.2.2.1, x26.Log, (wr (v25.2.2.2.2 + (1 : Int))))) (none))))) (some (([⟨v4.2.2.2.2.2.2.1, v4.2.2.2.2.2.2.2.1, v25.1⟩, ⟨v4.2.2.2.2.2.2.2.2.1, v4.2.2.2.2.2.2.2.2.2.1, v25.2.1⟩, ⟨v4.2.2.2.2.2.2.2.2.2.2.1, v4.2.2.2.2.2.2.2.2.2.2.2.1, v25.2.2.1⟩, ⟨v4.2.2.2.2.2.2.2.2.2.2.2.2.1, v4.2.2.2.2.2.2.2.2.2.2.2.2.2.1, v25.2.2.2.1⟩] : List WorldView), (0 : Int)))) FU ([], [], [], [], (0 : Int)))) FU (x2.1.Table.Frame, x2.1.Table.Windows, x2.1.Faces, x2.1.Parts, x2.1.Lines, x2.1.Now, [], [], [], [], [], [], [], [], (0 : Int))) (none))))))))
theorem world_Play_w (a0 : List Int) (a1 : List (List KernelCmd)) (r : (List WorldView) × Int) (h : world_Play a0 a1 = some r) : Go.VC.Spec Tryz.prog 41 [.d (.sl (a0.map (eI .u8))), .d (.sl (a1.map (eL KernelCmd.enc)))] (fun y => y = E_ListWorldView_Int r) := by
 refine Go.VC.Spec.of_xc (args := [.d (.sl (a0.map (eI .u8))), .d (.sl (a1.map (eL KernelCmd.enc)))]) (fn := Tryz.f41) tab ⟨[(0, [0, 1]), (1, [1, 6, 8]), (2, [1, 6, 8, 30]), (3, [4, 5]), (4, [1, 8, 9]), (5, [1, 8, 9, 38]), (6, [4, 5]), (7, [1, 9, 42]), (8, [4, 5]), (9, [1, 9, 10]), (10, [9, 10, 47, 48, 49]), (11, [9, 10, 47, 48, 49, 50]), (12, [9, 10, 11, 12, 47, 48, 49]), (13, [9, 10, 11, 47, 48, 49, 54, 55, 56]), (14, [9, 10, 11, 47, 48, 49, 54, 55, 56, 57]), (15, [9, 10, 11, 14, 47, 48, 49, 54, 55, 56]), (16, [9, 10, 11, 14, 15, 16, 17, 47, 48, 49, 54, 55, 56]), (17, [9, 10, 11, 14, 15, 16, 17, 47, 48, 49, 54, 55, 56, 76]), (18, [9, 10, 11, 15, 47, 48, 49, 54, 55, 56]), (19, [9, 10, 11, 47, 48, 49, 54, 55, 56]), (20, [9, 10, 11, 47, 48, 49, 54, 55, 56]), (21, [9, 10, 18, 19, 47, 48, 49]), (22, [9, 10, 18, 19, 47, 48, 49, 103, 104]), (23, [9, 10, 18, 19, 47, 48, 49, 103, 104, 105]), (24, [9, 10, 18, 19, 21, 47, 48, 49, 103, 104]), (25, [9, 10, 18, 19, 47, 48, 49, 103, 104]), (26, [9, 10, 18, 19, 47, 48, 49, 103, 104]), (27, [9, 10, 47, 48, 49]), (28, [9, 10, 47, 48, 49]), (29, [9, 10, 126, 127]), (30, [9, 10, 126, 127, 128]), (31, [9, 10, 22, 126, 127]), (32, [9, 10, 126, 127]), (33, [9, 10, 126, 127]), (34, [4, 5])], [], [100076, 19], []⟩ 142 [.tmp 4, .tmp 5] rfl rfl rfl rfl rfl rfl ?_
 conv => whnf
 refine ccS (E := E_Config_Int_Int) h (image_Decode_w a0) rfl rfl (fun x1 h => ?_)
 conv => whnf
 refine fkS h (fun h => ?_) (fun h => ?_)
 ·conv => whnf
  exact rt (E := E_ListWorldView_Int) h rfl
 conv => whnf
 refine ccS (E := E_KernelState_Int) h (kernel_Boot_w x1.1) rfl rfl (fun x2 h => ?_)
 conv => whnf
 refine fkS h (fun h => ?_) (fun h => ?_)
 ·conv => whnf
  exact rt (E := E_ListWorldView_Int) h rfl
 conv => whnf
 refine caS (E := E_Bool) h (world_may_w a1) rfl (fun _ => rfl) (fun x3 h => ?_)
 conv => whnf
 refine fkS h (fun h => ?_) (fun h => ?_)
 ·conv => whnf
  exact rt (E := E_ListWorldView_Int) h rfl
 conv => whnf
 refine lenS x2.1.Parts PartState.enc rfl ?_
 conv => whnf
 refine mkF h (fun hb h => ?_) (fun h => ?_)
 ·conv => whnf
  refine mkB0 tab rfl rfl rfl rfl (of_decide_eq_true hb) (of_decide_eq_true hb) rfl rfl rfl ?_
  conv => whnf
  refine lenS a1 (eL KernelCmd.enc) rfl ?_
  conv => whnf
  refine lpS (fun v88 => ⟨[(9, .l (.ptr 10 0)), (10, .l (.d (.sl (([] : List WorldView).map WorldView.enc)))), (47, .l (.d (.sl (a1.map (eL KernelCmd.enc))))), (48, .l (.d (.int .i64 (a1.length : Int)))), (49, .l (.d (.int .i64 v88.2.2.2.2.2.2)))], 142, [], [(10, [.d (.int .i64 v88.1), .d (.sl (v88.2.1.map Window.enc)), .d (.sl (v88.2.2.1.map Face.enc)), .d (.sl (v88.2.2.2.1.map PartState.enc)), .d (.sl (v88.2.2.2.2.1.map PortLine.enc)), .d (.int .i64 v88.2.2.2.2.2.1)])], []⟩) h (Weak.refl _) (fun _ nx88 hn88 v88 h => ?_)
  conv => whnf
  refine fkS h (fun h => ?_) (fun h => ?_)
  ·conv => whnf
   refine ixS (enc := (eL KernelCmd.enc)) h rfl (fun _ => rfl) (fun x89 h => ?_)
   conv => whnf
   refine lenS x89 KernelCmd.enc rfl ?_
   conv => whnf
   refine lpS (fun v90 => ⟨[(9, .l (.ptr 10 0)), (10, .l (.d (.sl (([] : List WorldView).map WorldView.enc)))), (11, .l (.d (.int .i64 v88.2.2.2.2.2.2))), (47, .l (.d (.sl (a1.map (eL KernelCmd.enc))))), (48, .l (.d (.int .i64 (a1.length : Int)))), (49, .l (.d (.int .i64 v88.2.2.2.2.2.2))), (54, .l (.d (.sl (x89.map KernelCmd.enc)))), (55, .l (.d (.int .i64 (x89.length : Int)))), (56, .l (.d (.int .i64 v90.2.2.2.2.2.2)))], 142, [], [(10, [.d (.int .i64 v90.1), .d (.sl (v90.2.1.map Window.enc)), .d (.sl (v90.2.2.1.map Face.enc)), .d (.sl (v90.2.2.2.1.map PartState.enc)), .d (.sl (v90.2.2.2.2.1.map PortLine.enc)), .d (.int .i64 v90.2.2.2.2.2.1)])], []⟩) h (Weak.refl _) (fun _ nx90 hn90 v90 h => ?_)
   conv => whnf
   refine fkS h (fun h => ?_) (fun h => ?_)
   ·conv => whnf
    refine ixS (enc := KernelCmd.enc) h rfl (fun _ => rfl) (fun x91 h => ?_)
    conv => whnf
    refine ccS (E := E_KernelState_Int_Int) h (kernel_Do_w (⟨⟨v90.1, v90.2.1⟩, v90.2.2.1, v90.2.2.2.1, v90.2.2.2.2.1, v90.2.2.2.2.2.1⟩) x91) rfl rfl (fun x92 h => ?_)
    conv => whnf
    refine jnS (fun w93 => ⟨[(9, .l (.ptr 10 0)), (10, .l (.d (.sl (([] : List WorldView).map WorldView.enc)))), (11, .l (.d (.int .i64 v88.2.2.2.2.2.2))), (15, .l (.ptr 16 0)), (47, .l (.d (.sl (a1.map (eL KernelCmd.enc))))), (48, .l (.d (.int .i64 (a1.length : Int)))), (49, .l (.d (.int .i64 v88.2.2.2.2.2.2))), (54, .l (.d (.sl (x89.map KernelCmd.enc)))), (55, .l (.d (.int .i64 (x89.length : Int)))), (56, .l (.d (.int .i64 v90.2.2.2.2.2.2)))], 142, [], [(10, [.d (.int .i64 v90.1), .d (.sl (v90.2.1.map Window.enc)), .d (.sl (v90.2.2.1.map Face.enc)), .d (.sl (v90.2.2.2.1.map PartState.enc)), .d (.sl (v90.2.2.2.2.1.map PortLine.enc)), .d (.int .i64 v90.2.2.2.2.2.1)]), (16, [.d (.int .i64 x92.1.Table.Frame), .d (.sl (x92.1.Table.Windows.map Window.enc)), .d (.sl (x92.1.Faces.map Face.enc)), .d (.sl (x92.1.Parts.map PartState.enc)), .d (.sl (x92.1.Lines.map PortLine.enc)), .d (.int .i64 x92.1.Now)])], []⟩) h (fun k93 hk93 h => ?_) (fun w93 h => ?_)
    ·conv => whnf
     refine jnS (fun w94 => ⟨[(9, .l (.ptr 10 0)), (10, .l (.d (.sl (([] : List WorldView).map WorldView.enc)))), (11, .l (.d (.int .i64 v88.2.2.2.2.2.2))), (14, .l (.ptr 15 0)), (15, .l (.ptr 16 0)), (16, .l (.d (.int .i64 x92.2.1))), (17, .l (.d (.int .i64 x92.2.2))), (47, .l (.d (.sl (a1.map (eL KernelCmd.enc))))), (48, .l (.d (.int .i64 (a1.length : Int)))), (49, .l (.d (.int .i64 v88.2.2.2.2.2.2))), (54, .l (.d (.sl (x89.map KernelCmd.enc)))), (55, .l (.d (.int .i64 (x89.length : Int)))), (56, .l (.d (.int .i64 v90.2.2.2.2.2.2))), (76, .l (.d (.bool w94)))], 142, [], [(10, [.d (.int .i64 v90.1), .d (.sl (v90.2.1.map Window.enc)), .d (.sl (v90.2.2.1.map Face.enc)), .d (.sl (v90.2.2.2.1.map PartState.enc)), .d (.sl (v90.2.2.2.2.1.map PortLine.enc)), .d (.int .i64 v90.2.2.2.2.2.1)]), (15, [.d (.int .i64 x91.Part), .d (.int .i64 x91.Kind), .d (.int .i64 x91.I), .d (.int .i64 x91.V), .d (.int .i64 x91.T.C), .d (.int .i64 x91.T.D), .d (.int .i64 x91.T.T), .d (.sl (x91.T.Secs.map Sec.enc))]), (16, [.d (.int .i64 x92.1.Table.Frame), .d (.sl (x92.1.Table.Windows.map Window.enc)), .d (.sl (x92.1.Faces.map Face.enc)), .d (.sl (x92.1.Parts.map PartState.enc)), .d (.sl (x92.1.Lines.map PortLine.enc)), .d (.int .i64 x92.1.Now)])], []⟩) h (fun k94 hk94 h => ?_) (fun w94 h => ?_)
     ·conv => whnf
      refine fkS h (fun h => ?_) (fun h => ?_)
      ·conv => whnf
       refine lenS ([] : List WorldView) WorldView.enc rfl ?_
       conv => whnf
       exact jeS hk94 h (Weak.refl _)
      conv => whnf
      exact jeS hk94 h (Weak.refl _)
     conv => whnf
     refine fkS h (fun h => ?_) (fun h => ?_)
     ·conv => whnf
      refine ⟨15, ?_⟩
      conv => whnf
      cases h
     conv => whnf
     refine jeX hk93 h ?_
     conv => whnf
     refine WkF.step (Weak.keepS _ [9, 10, 11, 15, 47, 48, 49, 54, 55, 56]) ?_
     conv => whnf
     exact WkF.refl _
    conv => whnf
    exact leS hn90 h (Weak.refl _)
   conv => whnf
   refine ccS (E := E_KernelState_ListInt_Int) h (kernel_Tick_w (⟨⟨v90.1, v90.2.1⟩, v90.2.2.1, v90.2.2.2.1, v90.2.2.2.2.1, v90.2.2.2.2.2.1⟩)) rfl rfl (fun x95 h => ?_)
   conv => whnf
   refine lenS ([] : List WorldView) WorldView.enc rfl ?_
   conv => whnf
   refine lpS (fun v96 => ⟨[(9, .l (.ptr 10 0)), (10, .l (.d (.sl (([] : List WorldView).map WorldView.enc)))), (18, .l (.ptr 19 0)), (19, .l (.d (.sl (x95.2.1.map (eI .i64))))), (47, .l (.d (.sl (a1.map (eL KernelCmd.enc))))), (48, .l (.d (.int .i64 (a1.length : Int)))), (49, .l (.d (.int .i64 v88.2.2.2.2.2.2))), (103, .l (.d (.int .i64 (0 : Int)))), (104, .l (.d (.int .i64 (0 : Int))))], 142, [], [(10, [.d (.int .i64 v90.1), .d (.sl (v90.2.1.map Window.enc)), .d (.sl (v90.2.2.1.map Face.enc)), .d (.sl (v90.2.2.2.1.map PartState.enc)), .d (.sl (v90.2.2.2.2.1.map PortLine.enc)), .d (.int .i64 v90.2.2.2.2.2.1)]), (19, [.d (.int .i64 x95.1.Table.Frame), .d (.sl (x95.1.Table.Windows.map Window.enc)), .d (.sl (x95.1.Faces.map Face.enc)), .d (.sl (x95.1.Parts.map PartState.enc)), .d (.sl (x95.1.Lines.map PortLine.enc)), .d (.int .i64 x95.1.Now)])], []⟩) h (Weak.refl _) (fun _ nx96 hn96 v96 h => ?_)
   conv => whnf
   exact leS hn88 h (Weak.refl _)
  conv => whnf
  refine lenS ([] : List WorldView) WorldView.enc rfl ?_
  conv => whnf
  refine lpS (fun v97 => ⟨[(9, .l (.ptr 10 0)), (10, .l (.d (.sl (([] : List WorldView).map WorldView.enc)))), (126, .l (.d (.int .i64 (0 : Int)))), (127, .l (.d (.int .i64 (0 : Int))))], 142, [], [(10, [.d (.int .i64 v88.1), .d (.sl (v88.2.1.map Window.enc)), .d (.sl (v88.2.2.1.map Face.enc)), .d (.sl (v88.2.2.2.1.map PartState.enc)), .d (.sl (v88.2.2.2.2.1.map PortLine.enc)), .d (.int .i64 v88.2.2.2.2.2.1)])], []⟩) h (Weak.refl _) (fun _ nx97 hn97 v97 h => ?_)
  conv => whnf
  exact rt (E := E_ListWorldView_Int) h rfl
 conv => whnf
 refine mkF h (fun hb h => ?_) (fun h => ?_)
 ·conv => whnf
  refine mkB tab 1 rfl rfl rfl rfl (of_decide_eq_true hb) (of_decide_eq_true hb) rfl rfl rfl (Nat.le_of_ble_eq_true rfl) (Nat.le_of_ble_eq_true rfl) (Nat.le_of_ble_eq_true rfl) rfl ?_
  conv => whnf
  refine lenS a1 (eL KernelCmd.enc) rfl ?_
  conv => whnf
  refine lpS (fun v73 => ⟨[(9, .l (.ptr 10 0)), (10, .l (.bsl 47 1 3)), (47, .l (.d (.sl (a1.map (eL KernelCmd.enc))))), (48, .l (.d (.int .i64 (a1.length : Int)))), (49, .l (.d (.int .i64 v73.2.2.2.2.2.2.2.2)))], 142, [], [(10, [.d (.int .i64 v73.1), .d (.sl (v73.2.1.map Window.enc)), .d (.sl (v73.2.2.1.map Face.enc)), .d (.sl (v73.2.2.2.1.map PartState.enc)), .d (.sl (v73.2.2.2.2.1.map PortLine.enc)), .d (.int .i64 v73.2.2.2.2.2.1)]), (47, [.own 54700, .own 54701, .nil])], [(54700, 113, 3, v73.2.2.2.2.2.2.1.map WorldSaw.enc), (54701, 3, 1, v73.2.2.2.2.2.2.2.1.map (eI .i64))]⟩) h (Weak.trans (Weak.nilBO _ 47 0 54700 113 3 _ rfl rfl) (Weak.trans (Weak.nilBO _ 47 1 54701 3 1 _ rfl rfl) (Weak.refl _))) (fun _ nx73 hn73 v73 h => ?_)
  conv => whnf
  refine fkS h (fun h => ?_) (fun h => ?_)
  ·conv => whnf
   refine ixS (enc := (eL KernelCmd.enc)) h rfl (fun _ => rfl) (fun x74 h => ?_)
   conv => whnf
   refine lenS x74 KernelCmd.enc rfl ?_
   conv => whnf
   refine lpS (fun v75 => ⟨[(9, .l (.ptr 10 0)), (10, .l (.bsl 47 1 3)), (11, .l (.d (.int .i64 v73.2.2.2.2.2.2.2.2))), (47, .l (.d (.sl (a1.map (eL KernelCmd.enc))))), (48, .l (.d (.int .i64 (a1.length : Int)))), (49, .l (.d (.int .i64 v73.2.2.2.2.2.2.2.2))), (54, .l (.d (.sl (x74.map KernelCmd.enc)))), (55, .l (.d (.int .i64 (x74.length : Int)))), (56, .l (.d (.int .i64 v75.2.2.2.2.2.2.2)))], 142, [], [(10, [.d (.int .i64 v75.1), .d (.sl (v75.2.1.map Window.enc)), .d (.sl (v75.2.2.1.map Face.enc)), .d (.sl (v75.2.2.2.1.map PartState.enc)), .d (.sl (v75.2.2.2.2.1.map PortLine.enc)), .d (.int .i64 v75.2.2.2.2.2.1)]), (47, [.own 54700, .own 54701, .nil])], [(54700, 113, 3, v75.2.2.2.2.2.2.1.map WorldSaw.enc), (54701, 3, 1, v73.2.2.2.2.2.2.2.1.map (eI .i64))]⟩) h (Weak.refl _) (fun _ nx75 hn75 v75 h => ?_)
   conv => whnf
   refine fkS h (fun h => ?_) (fun h => ?_)
   ·conv => whnf
    refine ixS (enc := KernelCmd.enc) h rfl (fun _ => rfl) (fun x76 h => ?_)
    conv => whnf
    refine ccS (E := E_KernelState_Int_Int) h (kernel_Do_w (⟨⟨v75.1, v75.2.1⟩, v75.2.2.1, v75.2.2.2.1, v75.2.2.2.2.1, v75.2.2.2.2.2.1⟩) x76) rfl rfl (fun x77 h => ?_)
    conv => whnf
    refine jnS (fun w78 => ⟨[(9, .l (.ptr 10 0)), (10, .l (.bsl 47 1 3)), (11, .l (.d (.int .i64 v73.2.2.2.2.2.2.2.2))), (15, .l (.ptr 16 0)), (47, .l (.d (.sl (a1.map (eL KernelCmd.enc))))), (48, .l (.d (.int .i64 (a1.length : Int)))), (49, .l (.d (.int .i64 v73.2.2.2.2.2.2.2.2))), (54, .l (.d (.sl (x74.map KernelCmd.enc)))), (55, .l (.d (.int .i64 (x74.length : Int)))), (56, .l (.d (.int .i64 v75.2.2.2.2.2.2.2)))], 142, [], [(10, [.d (.int .i64 v75.1), .d (.sl (v75.2.1.map Window.enc)), .d (.sl (v75.2.2.1.map Face.enc)), .d (.sl (v75.2.2.2.1.map PartState.enc)), .d (.sl (v75.2.2.2.2.1.map PortLine.enc)), .d (.int .i64 v75.2.2.2.2.2.1)]), (16, [.d (.int .i64 x77.1.Table.Frame), .d (.sl (x77.1.Table.Windows.map Window.enc)), .d (.sl (x77.1.Faces.map Face.enc)), .d (.sl (x77.1.Parts.map PartState.enc)), .d (.sl (x77.1.Lines.map PortLine.enc)), .d (.int .i64 x77.1.Now)]), (47, [.own 54700, .own 54701, .nil])], [(54700, 113, 3, w78.map WorldSaw.enc), (54701, 3, 1, v73.2.2.2.2.2.2.2.1.map (eI .i64))]⟩) h (fun k78 hk78 h => ?_) (fun w78 h => ?_)
    ·conv => whnf
     refine jnS (fun w79 => ⟨[(9, .l (.ptr 10 0)), (10, .l (.bsl 47 1 3)), (11, .l (.d (.int .i64 v73.2.2.2.2.2.2.2.2))), (14, .l (.ptr 15 0)), (15, .l (.ptr 16 0)), (16, .l (.d (.int .i64 x77.2.1))), (17, .l (.d (.int .i64 x77.2.2))), (47, .l (.d (.sl (a1.map (eL KernelCmd.enc))))), (48, .l (.d (.int .i64 (a1.length : Int)))), (49, .l (.d (.int .i64 v73.2.2.2.2.2.2.2.2))), (54, .l (.d (.sl (x74.map KernelCmd.enc)))), (55, .l (.d (.int .i64 (x74.length : Int)))), (56, .l (.d (.int .i64 v75.2.2.2.2.2.2.2))), (76, .l (.d (.bool w79)))], 142, [], [(10, [.d (.int .i64 v75.1), .d (.sl (v75.2.1.map Window.enc)), .d (.sl (v75.2.2.1.map Face.enc)), .d (.sl (v75.2.2.2.1.map PartState.enc)), .d (.sl (v75.2.2.2.2.1.map PortLine.enc)), .d (.int .i64 v75.2.2.2.2.2.1)]), (15, [.d (.int .i64 x76.Part), .d (.int .i64 x76.Kind), .d (.int .i64 x76.I), .d (.int .i64 x76.V), .d (.int .i64 x76.T.C), .d (.int .i64 x76.T.D), .d (.int .i64 x76.T.T), .d (.sl (x76.T.Secs.map Sec.enc))]), (16, [.d (.int .i64 x77.1.Table.Frame), .d (.sl (x77.1.Table.Windows.map Window.enc)), .d (.sl (x77.1.Faces.map Face.enc)), .d (.sl (x77.1.Parts.map PartState.enc)), .d (.sl (x77.1.Lines.map PortLine.enc)), .d (.int .i64 x77.1.Now)]), (47, [.own 54700, .own 54701, .nil])], [(54700, 113, 3, v75.2.2.2.2.2.2.1.map WorldSaw.enc), (54701, 3, 1, v73.2.2.2.2.2.2.2.1.map (eI .i64))]⟩) h (fun k79 hk79 h => ?_) (fun w79 h => ?_)
     ·conv => whnf
      refine fkS h (fun h => ?_) (fun h => ?_)
      ·conv => whnf
       refine lenB tab rfl rfl rfl rfl rfl ?_
       conv => whnf
       exact jeS hk79 h (Weak.refl _)
      conv => whnf
      exact jeS hk79 h (Weak.refl _)
     conv => whnf
     refine fkS h (fun h => ?_) (fun h => ?_)
     ·conv => whnf
      refine ⟨15, ?_⟩
      conv => whnf
      refine fkN h (fun q80 h => ?_) (fun q80 h => ?_)
      ·conv => whnf
       refine liS ([⟨v73.2.2.2.2.2.2.2.2, x77.2.1, x77.2.2⟩] : List WorldSaw) WorldSaw.enc rfl rfl ?_
       conv => whnf
       refine apS (enc := WorldSaw.enc) (l1 := v75.2.2.2.2.2.2.1) (l2 := ([⟨v73.2.2.2.2.2.2.2.2, x77.2.1, x77.2.2⟩] : List WorldSaw)) h rfl rfl (fun _ => rfl) (fun h => ?_)
       conv => whnf
       refine drS (by kernel_rfl) ?_
       conv => whnf
       refine fork_t q80 ?_
       conv => whnf
       refine jeX hk78 h ?_
       conv => whnf
       refine WkF.step (Weak.rekey _ 92 54700 rfl) ?_
       conv => whnf
       exact WkF.refl _
      conv => whnf
      cases h
     conv => whnf
     refine jeX hk78 h ?_
     conv => whnf
     refine WkF.step (Weak.keepS _ [9, 10, 11, 15, 47, 48, 49, 54, 55, 56]) ?_
     conv => whnf
     exact WkF.refl _
    conv => whnf
    exact leS hn75 h (Weak.refl _)
   conv => whnf
   refine ccS (E := E_KernelState_ListInt_Int) h (kernel_Tick_w (⟨⟨v75.1, v75.2.1⟩, v75.2.2.1, v75.2.2.2.1, v75.2.2.2.2.1, v75.2.2.2.2.2.1⟩)) rfl rfl (fun x81 h => ?_)
   conv => whnf
   refine lenB tab rfl rfl rfl rfl rfl ?_
   conv => whnf
   refine lpS (fun v82 => ⟨[(9, .l (.ptr 10 0)), (10, .l (.bsl 47 1 3)), (18, .l (.ptr 19 0)), (19, .l (.d (.sl (x81.2.1.map (eI .i64))))), (47, .l (.d (.sl (a1.map (eL KernelCmd.enc))))), (48, .l (.d (.int .i64 (a1.length : Int)))), (49, .l (.d (.int .i64 v73.2.2.2.2.2.2.2.2))), (103, .l (.d (.int .i64 (1 : Int)))), (104, .l (.d (.int .i64 v82.2)))], 142, [], [(10, [.d (.int .i64 v75.1), .d (.sl (v75.2.1.map Window.enc)), .d (.sl (v75.2.2.1.map Face.enc)), .d (.sl (v75.2.2.2.1.map PartState.enc)), .d (.sl (v75.2.2.2.2.1.map PortLine.enc)), .d (.int .i64 v75.2.2.2.2.2.1)]), (19, [.d (.int .i64 x81.1.Table.Frame), .d (.sl (x81.1.Table.Windows.map Window.enc)), .d (.sl (x81.1.Faces.map Face.enc)), .d (.sl (x81.1.Parts.map PartState.enc)), .d (.sl (x81.1.Lines.map PortLine.enc)), .d (.int .i64 x81.1.Now)]), (47, [.own 54700, .own 54701, .nil])], [(54700, 113, 3, v75.2.2.2.2.2.2.1.map WorldSaw.enc), (54701, 3, 1, v82.1.map (eI .i64))]⟩) h (Weak.refl _) (fun _ nx82 hn82 v82 h => ?_)
   conv => whnf
   refine fkS h (fun h => ?_) (fun h => ?_)
   ·conv => whnf
    refine ⟨13, ?_⟩
    conv => whnf
    refine fkN h (fun q83 h => ?_) (fun q83 h => ?_)
    ·conv => whnf
     refine ixS (enc := (eI .i64)) h rfl (fun _ => rfl) (fun x84 h => ?_)
     conv => whnf
     refine liS ([x84] : List Int) (eI .i64) rfl rfl ?_
     conv => whnf
     refine apS (enc := (eI .i64)) (l1 := v82.1) (l2 := ([x84] : List Int)) h rfl rfl (fun _ => rfl) (fun h => ?_)
     conv => whnf
     refine drS (by kernel_rfl) ?_
     conv => whnf
     refine fork_t q83 ?_
     conv => whnf
     refine leX hn82 h ?_
     conv => whnf
     refine WkF.step (Weak.rekey _ 120 54701 rfl) ?_
     conv => whnf
     exact WkF.refl _
    conv => whnf
    cases h
   conv => whnf
   exact leS hn73 h (Weak.refl _)
  conv => whnf
  refine lenB tab rfl rfl rfl rfl rfl ?_
  conv => whnf
  refine lpS (fun v85 => ⟨[(9, .l (.ptr 10 0)), (10, .l (.bsl 47 1 3)), (126, .l (.d (.int .i64 (1 : Int)))), (127, .l (.d (.int .i64 v85.2)))], 142, [], [(10, [.d (.int .i64 v73.1), .d (.sl (v73.2.1.map Window.enc)), .d (.sl (v73.2.2.1.map Face.enc)), .d (.sl (v73.2.2.2.1.map PartState.enc)), .d (.sl (v73.2.2.2.2.1.map PortLine.enc)), .d (.int .i64 v73.2.2.2.2.2.1)]), (47, [.own 54700, .own 54701, .d (.sl (v85.1.map Entry.enc))])], [(54700, 113, 3, v73.2.2.2.2.2.2.1.map WorldSaw.enc), (54701, 3, 1, v73.2.2.2.2.2.2.2.1.map (eI .i64))]⟩) h (Weak.trans (Weak.nilBD _ 47 2 _ rfl rfl) (Weak.refl _)) (fun _ nx85 hn85 v85 h => ?_)
  conv => whnf
  refine fkS h (fun h => ?_) (fun h => ?_)
  ·conv => whnf
   refine ixS (enc := PartState.enc) h rfl (fun _ => rfl) (fun x86 h => ?_)
   conv => whnf
   refine fkN h (fun q87 h => ?_) (fun q87 h => ?_)
   ·conv => whnf
    exact leS hn85 h (Weak.refl _)
   conv => whnf
   cases h
  conv => whnf
  exact rt (E := E_ListWorldView_Int) h rfl
 conv => whnf
 refine mkF h (fun hb h => ?_) (fun h => ?_)
 ·conv => whnf
  refine mkB tab 2 rfl rfl rfl rfl (of_decide_eq_true hb) (of_decide_eq_true hb) rfl rfl rfl (Nat.le_of_ble_eq_true rfl) (Nat.le_of_ble_eq_true rfl) (Nat.le_of_ble_eq_true rfl) rfl ?_
  conv => whnf
  refine lenS a1 (eL KernelCmd.enc) rfl ?_
  conv => whnf
  refine lpX (fun v54 => ⟨[(9, .l (.ptr 10 0)), (10, .l (.bsl 47 2 3)), (47, .l (.d (.sl (a1.map (eL KernelCmd.enc))))), (48, .l (.d (.int .i64 (a1.length : Int)))), (49, .l (.d (.int .i64 v54.2.2.2.2.2.2.2.2.2.2)))], 142, [], [(10, [.d (.int .i64 v54.1), .d (.sl (v54.2.1.map Window.enc)), .d (.sl (v54.2.2.1.map Face.enc)), .d (.sl (v54.2.2.2.1.map PartState.enc)), .d (.sl (v54.2.2.2.2.1.map PortLine.enc)), .d (.int .i64 v54.2.2.2.2.2.1)]), (47, [.own 54700, .own 54701, .nil, .own 54703, .own 54704, .nil])], [(54700, 113, 3, v54.2.2.2.2.2.2.1.map WorldSaw.enc), (54701, 3, 1, v54.2.2.2.2.2.2.2.1.map (eI .i64)), (54703, 113, 3, v54.2.2.2.2.2.2.2.2.1.map WorldSaw.enc), (54704, 3, 1, v54.2.2.2.2.2.2.2.2.2.1.map (eI .i64))]⟩) h ?_ (fun _ nx54 hn54 v54 h => ?_)
  ·conv => whnf
   refine WkF.step (Weak.nilBO _ 47 0 54700 113 3 _ rfl rfl) ?_
   conv => whnf
   refine WkF.step (Weak.nilBO _ 47 1 54701 3 1 _ rfl rfl) ?_
   conv => whnf
   refine WkF.step (Weak.nilBO _ 47 3 54703 113 3 _ rfl rfl) ?_
   conv => whnf
   refine WkF.step (Weak.nilBO _ 47 4 54704 3 1 _ rfl rfl) ?_
   conv => whnf
   exact WkF.refl _
  conv => whnf
  refine fkS h (fun h => ?_) (fun h => ?_)
  ·conv => whnf
   refine ixS (enc := (eL KernelCmd.enc)) h rfl (fun _ => rfl) (fun x55 h => ?_)
   conv => whnf
   refine lenS x55 KernelCmd.enc rfl ?_
   conv => whnf
   refine lpS (fun v56 => ⟨[(9, .l (.ptr 10 0)), (10, .l (.bsl 47 2 3)), (11, .l (.d (.int .i64 v54.2.2.2.2.2.2.2.2.2.2))), (47, .l (.d (.sl (a1.map (eL KernelCmd.enc))))), (48, .l (.d (.int .i64 (a1.length : Int)))), (49, .l (.d (.int .i64 v54.2.2.2.2.2.2.2.2.2.2))), (54, .l (.d (.sl (x55.map KernelCmd.enc)))), (55, .l (.d (.int .i64 (x55.length : Int)))), (56, .l (.d (.int .i64 v56.2.2.2.2.2.2.2.2)))], 142, [], [(10, [.d (.int .i64 v56.1), .d (.sl (v56.2.1.map Window.enc)), .d (.sl (v56.2.2.1.map Face.enc)), .d (.sl (v56.2.2.2.1.map PartState.enc)), .d (.sl (v56.2.2.2.2.1.map PortLine.enc)), .d (.int .i64 v56.2.2.2.2.2.1)]), (47, [.own 54700, .own 54701, .nil, .own 54703, .own 54704, .nil])], [(54700, 113, 3, v56.2.2.2.2.2.2.1.map WorldSaw.enc), (54701, 3, 1, v54.2.2.2.2.2.2.2.1.map (eI .i64)), (54703, 113, 3, v56.2.2.2.2.2.2.2.1.map WorldSaw.enc), (54704, 3, 1, v54.2.2.2.2.2.2.2.2.2.1.map (eI .i64))]⟩) h (Weak.refl _) (fun _ nx56 hn56 v56 h => ?_)
   conv => whnf
   refine fkS h (fun h => ?_) (fun h => ?_)
   ·conv => whnf
    refine ixS (enc := KernelCmd.enc) h rfl (fun _ => rfl) (fun x57 h => ?_)
    conv => whnf
    refine ccS (E := E_KernelState_Int_Int) h (kernel_Do_w (⟨⟨v56.1, v56.2.1⟩, v56.2.2.1, v56.2.2.2.1, v56.2.2.2.2.1, v56.2.2.2.2.2.1⟩) x57) rfl rfl (fun x58 h => ?_)
    conv => whnf
    refine jnS (fun w59 => ⟨[(9, .l (.ptr 10 0)), (10, .l (.bsl 47 2 3)), (11, .l (.d (.int .i64 v54.2.2.2.2.2.2.2.2.2.2))), (15, .l (.ptr 16 0)), (47, .l (.d (.sl (a1.map (eL KernelCmd.enc))))), (48, .l (.d (.int .i64 (a1.length : Int)))), (49, .l (.d (.int .i64 v54.2.2.2.2.2.2.2.2.2.2))), (54, .l (.d (.sl (x55.map KernelCmd.enc)))), (55, .l (.d (.int .i64 (x55.length : Int)))), (56, .l (.d (.int .i64 v56.2.2.2.2.2.2.2.2)))], 142, [], [(10, [.d (.int .i64 v56.1), .d (.sl (v56.2.1.map Window.enc)), .d (.sl (v56.2.2.1.map Face.enc)), .d (.sl (v56.2.2.2.1.map PartState.enc)), .d (.sl (v56.2.2.2.2.1.map PortLine.enc)), .d (.int .i64 v56.2.2.2.2.2.1)]), (16, [.d (.int .i64 x58.1.Table.Frame), .d (.sl (x58.1.Table.Windows.map Window.enc)), .d (.sl (x58.1.Faces.map Face.enc)), .d (.sl (x58.1.Parts.map PartState.enc)), .d (.sl (x58.1.Lines.map PortLine.enc)), .d (.int .i64 x58.1.Now)]), (47, [.own 54700, .own 54701, .nil, .own 54703, .own 54704, .nil])], [(54700, 113, 3, w59.1.map WorldSaw.enc), (54701, 3, 1, v54.2.2.2.2.2.2.2.1.map (eI .i64)), (54703, 113, 3, w59.2.map WorldSaw.enc), (54704, 3, 1, v54.2.2.2.2.2.2.2.2.2.1.map (eI .i64))]⟩) h (fun k59 hk59 h => ?_) (fun w59 h => ?_)
    ·conv => whnf
     refine jnS (fun w60 => ⟨[(9, .l (.ptr 10 0)), (10, .l (.bsl 47 2 3)), (11, .l (.d (.int .i64 v54.2.2.2.2.2.2.2.2.2.2))), (14, .l (.ptr 15 0)), (15, .l (.ptr 16 0)), (16, .l (.d (.int .i64 x58.2.1))), (17, .l (.d (.int .i64 x58.2.2))), (47, .l (.d (.sl (a1.map (eL KernelCmd.enc))))), (48, .l (.d (.int .i64 (a1.length : Int)))), (49, .l (.d (.int .i64 v54.2.2.2.2.2.2.2.2.2.2))), (54, .l (.d (.sl (x55.map KernelCmd.enc)))), (55, .l (.d (.int .i64 (x55.length : Int)))), (56, .l (.d (.int .i64 v56.2.2.2.2.2.2.2.2))), (76, .l (.d (.bool w60)))], 142, [], [(10, [.d (.int .i64 v56.1), .d (.sl (v56.2.1.map Window.enc)), .d (.sl (v56.2.2.1.map Face.enc)), .d (.sl (v56.2.2.2.1.map PartState.enc)), .d (.sl (v56.2.2.2.2.1.map PortLine.enc)), .d (.int .i64 v56.2.2.2.2.2.1)]), (15, [.d (.int .i64 x57.Part), .d (.int .i64 x57.Kind), .d (.int .i64 x57.I), .d (.int .i64 x57.V), .d (.int .i64 x57.T.C), .d (.int .i64 x57.T.D), .d (.int .i64 x57.T.T), .d (.sl (x57.T.Secs.map Sec.enc))]), (16, [.d (.int .i64 x58.1.Table.Frame), .d (.sl (x58.1.Table.Windows.map Window.enc)), .d (.sl (x58.1.Faces.map Face.enc)), .d (.sl (x58.1.Parts.map PartState.enc)), .d (.sl (x58.1.Lines.map PortLine.enc)), .d (.int .i64 x58.1.Now)]), (47, [.own 54700, .own 54701, .nil, .own 54703, .own 54704, .nil])], [(54700, 113, 3, v56.2.2.2.2.2.2.1.map WorldSaw.enc), (54701, 3, 1, v54.2.2.2.2.2.2.2.1.map (eI .i64)), (54703, 113, 3, v56.2.2.2.2.2.2.2.1.map WorldSaw.enc), (54704, 3, 1, v54.2.2.2.2.2.2.2.2.2.1.map (eI .i64))]⟩) h (fun k60 hk60 h => ?_) (fun w60 h => ?_)
     ·conv => whnf
      refine fkS h (fun h => ?_) (fun h => ?_)
      ·conv => whnf
       refine lenB tab rfl rfl rfl rfl rfl ?_
       conv => whnf
       exact jeS hk60 h (Weak.refl _)
      conv => whnf
      exact jeS hk60 h (Weak.refl _)
     conv => whnf
     refine fkS h (fun h => ?_) (fun h => ?_)
     ·conv => whnf
      refine ⟨15, ?_⟩
      conv => whnf
      refine fkN h (fun q61 h => ?_) (fun q61 h => ?_)
      ·conv => whnf
       refine liS ([⟨v54.2.2.2.2.2.2.2.2.2.2, x58.2.1, x58.2.2⟩] : List WorldSaw) WorldSaw.enc rfl rfl ?_
       conv => whnf
       refine apS (enc := WorldSaw.enc) (l1 := v56.2.2.2.2.2.2.1) (l2 := ([⟨v54.2.2.2.2.2.2.2.2.2.2, x58.2.1, x58.2.2⟩] : List WorldSaw)) h rfl rfl (fun _ => rfl) (fun h => ?_)
       conv => whnf
       refine drS (by kernel_rfl) ?_
       conv => whnf
       refine fork_t q61 ?_
       conv => whnf
       refine jeX hk59 h ?_
       conv => whnf
       refine WkF.step (Weak.rekey _ 92 54700 rfl) ?_
       conv => whnf
       exact WkF.refl _
      conv => whnf
      refine fkN h (fun q62 h => ?_) (fun q62 h => ?_)
      ·conv => whnf
       refine liS ([⟨v54.2.2.2.2.2.2.2.2.2.2, x58.2.1, x58.2.2⟩] : List WorldSaw) WorldSaw.enc rfl rfl ?_
       conv => whnf
       refine apS (enc := WorldSaw.enc) (l1 := v56.2.2.2.2.2.2.2.1) (l2 := ([⟨v54.2.2.2.2.2.2.2.2.2.2, x58.2.1, x58.2.2⟩] : List WorldSaw)) h rfl rfl (fun _ => rfl) (fun h => ?_)
       conv => whnf
       refine drS (by kernel_rfl) ?_
       conv => whnf
       refine fork_f q61 ?_
       conv => whnf
       refine fork_t q62 ?_
       conv => whnf
       refine jeX hk59 h ?_
       conv => whnf
       refine WkF.step (Weak.rekey _ 92 54703 rfl) ?_
       conv => whnf
       exact WkF.refl _
      conv => whnf
      cases h
     conv => whnf
     refine jeX hk59 h ?_
     conv => whnf
     refine WkF.step (Weak.keepS _ [9, 10, 11, 15, 47, 48, 49, 54, 55, 56]) ?_
     conv => whnf
     exact WkF.refl _
    conv => whnf
    exact leS hn56 h (Weak.refl _)
   conv => whnf
   refine ccS (E := E_KernelState_ListInt_Int) h (kernel_Tick_w (⟨⟨v56.1, v56.2.1⟩, v56.2.2.1, v56.2.2.2.1, v56.2.2.2.2.1, v56.2.2.2.2.2.1⟩)) rfl rfl (fun x63 h => ?_)
   conv => whnf
   refine lenB tab rfl rfl rfl rfl rfl ?_
   conv => whnf
   refine lpS (fun v64 => ⟨[(9, .l (.ptr 10 0)), (10, .l (.bsl 47 2 3)), (18, .l (.ptr 19 0)), (19, .l (.d (.sl (x63.2.1.map (eI .i64))))), (47, .l (.d (.sl (a1.map (eL KernelCmd.enc))))), (48, .l (.d (.int .i64 (a1.length : Int)))), (49, .l (.d (.int .i64 v54.2.2.2.2.2.2.2.2.2.2))), (103, .l (.d (.int .i64 (2 : Int)))), (104, .l (.d (.int .i64 v64.2.2)))], 142, [], [(10, [.d (.int .i64 v56.1), .d (.sl (v56.2.1.map Window.enc)), .d (.sl (v56.2.2.1.map Face.enc)), .d (.sl (v56.2.2.2.1.map PartState.enc)), .d (.sl (v56.2.2.2.2.1.map PortLine.enc)), .d (.int .i64 v56.2.2.2.2.2.1)]), (19, [.d (.int .i64 x63.1.Table.Frame), .d (.sl (x63.1.Table.Windows.map Window.enc)), .d (.sl (x63.1.Faces.map Face.enc)), .d (.sl (x63.1.Parts.map PartState.enc)), .d (.sl (x63.1.Lines.map PortLine.enc)), .d (.int .i64 x63.1.Now)]), (47, [.own 54700, .own 54701, .nil, .own 54703, .own 54704, .nil])], [(54700, 113, 3, v56.2.2.2.2.2.2.1.map WorldSaw.enc), (54701, 3, 1, v64.1.map (eI .i64)), (54703, 113, 3, v56.2.2.2.2.2.2.2.1.map WorldSaw.enc), (54704, 3, 1, v64.2.1.map (eI .i64))]⟩) h (Weak.refl _) (fun _ nx64 hn64 v64 h => ?_)
   conv => whnf
   refine fkS h (fun h => ?_) (fun h => ?_)
   ·conv => whnf
    refine ⟨13, ?_⟩
    conv => whnf
    refine fkN h (fun q65 h => ?_) (fun q65 h => ?_)
    ·conv => whnf
     refine ixS (enc := (eI .i64)) h rfl (fun _ => rfl) (fun x68 h => ?_)
     conv => whnf
     refine liS ([x68] : List Int) (eI .i64) rfl rfl ?_
     conv => whnf
     refine apS (enc := (eI .i64)) (l1 := v64.1) (l2 := ([x68] : List Int)) h rfl rfl (fun _ => rfl) (fun h => ?_)
     conv => whnf
     refine drS (by kernel_rfl) ?_
     conv => whnf
     refine fork_t q65 ?_
     conv => whnf
     refine leX hn64 h ?_
     conv => whnf
     refine WkF.step (Weak.rekey _ 120 54701 rfl) ?_
     conv => whnf
     exact WkF.refl _
    conv => whnf
    refine fkN h (fun q66 h => ?_) (fun q66 h => ?_)
    ·conv => whnf
     refine ixS (enc := (eI .i64)) h rfl (fun _ => rfl) (fun x67 h => ?_)
     conv => whnf
     refine liS ([x67] : List Int) (eI .i64) rfl rfl ?_
     conv => whnf
     refine apS (enc := (eI .i64)) (l1 := v64.2.1) (l2 := ([x67] : List Int)) h rfl rfl (fun _ => rfl) (fun h => ?_)
     conv => whnf
     refine drS (by kernel_rfl) ?_
     conv => whnf
     refine fork_f q65 ?_
     conv => whnf
     refine fork_t q66 ?_
     conv => whnf
     refine leX hn64 h ?_
     conv => whnf
     refine WkF.step (Weak.rekey _ 120 54704 rfl) ?_
     conv => whnf
     exact WkF.refl _
    conv => whnf
    cases h
   conv => whnf
   exact leS hn54 h (Weak.refl _)
  conv => whnf
  refine lenB tab rfl rfl rfl rfl rfl ?_
  conv => whnf
  refine lpS (fun v69 => ⟨[(9, .l (.ptr 10 0)), (10, .l (.bsl 47 2 3)), (126, .l (.d (.int .i64 (2 : Int)))), (127, .l (.d (.int .i64 v69.2.2)))], 142, [], [(10, [.d (.int .i64 v54.1), .d (.sl (v54.2.1.map Window.enc)), .d (.sl (v54.2.2.1.map Face.enc)), .d (.sl (v54.2.2.2.1.map PartState.enc)), .d (.sl (v54.2.2.2.2.1.map PortLine.enc)), .d (.int .i64 v54.2.2.2.2.2.1)]), (47, [.own 54700, .own 54701, .d (.sl (v69.1.map Entry.enc)), .own 54703, .own 54704, .d (.sl (v69.2.1.map Entry.enc))])], [(54700, 113, 3, v54.2.2.2.2.2.2.1.map WorldSaw.enc), (54701, 3, 1, v54.2.2.2.2.2.2.2.1.map (eI .i64)), (54703, 113, 3, v54.2.2.2.2.2.2.2.2.1.map WorldSaw.enc), (54704, 3, 1, v54.2.2.2.2.2.2.2.2.2.1.map (eI .i64))]⟩) h (Weak.trans (Weak.nilBD _ 47 2 _ rfl rfl) (Weak.trans (Weak.nilBD _ 47 5 _ rfl rfl) (Weak.refl _))) (fun _ nx69 hn69 v69 h => ?_)
  conv => whnf
  refine fkS h (fun h => ?_) (fun h => ?_)
  ·conv => whnf
   refine ixS (enc := PartState.enc) h rfl (fun _ => rfl) (fun x70 h => ?_)
   conv => whnf
   refine fkN h (fun q71 h => ?_) (fun q71 h => ?_)
   ·conv => whnf
    exact leS hn69 h (Weak.refl _)
   conv => whnf
   refine fkN h (fun q72 h => ?_) (fun q72 h => ?_)
   ·conv => whnf
    exact leS hn69 h (Weak.refl _)
   conv => whnf
   cases h
  conv => whnf
  exact rt (E := E_ListWorldView_Int) h rfl
 conv => whnf
 refine mkF h (fun hb h => ?_) (fun h => ?_)
 ·conv => whnf
  refine mkB tab 3 rfl rfl rfl rfl (of_decide_eq_true hb) (of_decide_eq_true hb) rfl rfl rfl (Nat.le_of_ble_eq_true rfl) (Nat.le_of_ble_eq_true rfl) (Nat.le_of_ble_eq_true rfl) rfl ?_
  conv => whnf
  refine lenS a1 (eL KernelCmd.enc) rfl ?_
  conv => whnf
  refine lpX (fun v31 => ⟨[(9, .l (.ptr 10 0)), (10, .l (.bsl 47 3 3)), (47, .l (.d (.sl (a1.map (eL KernelCmd.enc))))), (48, .l (.d (.int .i64 (a1.length : Int)))), (49, .l (.d (.int .i64 v31.2.2.2.2.2.2.2.2.2.2.2.2)))], 142, [], [(10, [.d (.int .i64 v31.1), .d (.sl (v31.2.1.map Window.enc)), .d (.sl (v31.2.2.1.map Face.enc)), .d (.sl (v31.2.2.2.1.map PartState.enc)), .d (.sl (v31.2.2.2.2.1.map PortLine.enc)), .d (.int .i64 v31.2.2.2.2.2.1)]), (47, [.own 54700, .own 54701, .nil, .own 54703, .own 54704, .nil, .own 54706, .own 54707, .nil])], [(54700, 113, 3, v31.2.2.2.2.2.2.1.map WorldSaw.enc), (54701, 3, 1, v31.2.2.2.2.2.2.2.1.map (eI .i64)), (54703, 113, 3, v31.2.2.2.2.2.2.2.2.1.map WorldSaw.enc), (54704, 3, 1, v31.2.2.2.2.2.2.2.2.2.1.map (eI .i64)), (54706, 113, 3, v31.2.2.2.2.2.2.2.2.2.2.1.map WorldSaw.enc), (54707, 3, 1, v31.2.2.2.2.2.2.2.2.2.2.2.1.map (eI .i64))]⟩) h ?_ (fun _ nx31 hn31 v31 h => ?_)
  ·conv => whnf
   refine WkF.step (Weak.nilBO _ 47 0 54700 113 3 _ rfl rfl) ?_
   conv => whnf
   refine WkF.step (Weak.nilBO _ 47 1 54701 3 1 _ rfl rfl) ?_
   conv => whnf
   refine WkF.step (Weak.nilBO _ 47 3 54703 113 3 _ rfl rfl) ?_
   conv => whnf
   refine WkF.step (Weak.nilBO _ 47 4 54704 3 1 _ rfl rfl) ?_
   conv => whnf
   refine WkF.step (Weak.nilBO _ 47 6 54706 113 3 _ rfl rfl) ?_
   conv => whnf
   refine WkF.step (Weak.nilBO _ 47 7 54707 3 1 _ rfl rfl) ?_
   conv => whnf
   exact WkF.refl _
  conv => whnf
  refine fkS h (fun h => ?_) (fun h => ?_)
  ·conv => whnf
   refine ixS (enc := (eL KernelCmd.enc)) h rfl (fun _ => rfl) (fun x32 h => ?_)
   conv => whnf
   refine lenS x32 KernelCmd.enc rfl ?_
   conv => whnf
   refine lpS (fun v33 => ⟨[(9, .l (.ptr 10 0)), (10, .l (.bsl 47 3 3)), (11, .l (.d (.int .i64 v31.2.2.2.2.2.2.2.2.2.2.2.2))), (47, .l (.d (.sl (a1.map (eL KernelCmd.enc))))), (48, .l (.d (.int .i64 (a1.length : Int)))), (49, .l (.d (.int .i64 v31.2.2.2.2.2.2.2.2.2.2.2.2))), (54, .l (.d (.sl (x32.map KernelCmd.enc)))), (55, .l (.d (.int .i64 (x32.length : Int)))), (56, .l (.d (.int .i64 v33.2.2.2.2.2.2.2.2.2)))], 142, [], [(10, [.d (.int .i64 v33.1), .d (.sl (v33.2.1.map Window.enc)), .d (.sl (v33.2.2.1.map Face.enc)), .d (.sl (v33.2.2.2.1.map PartState.enc)), .d (.sl (v33.2.2.2.2.1.map PortLine.enc)), .d (.int .i64 v33.2.2.2.2.2.1)]), (47, [.own 54700, .own 54701, .nil, .own 54703, .own 54704, .nil, .own 54706, .own 54707, .nil])], [(54700, 113, 3, v33.2.2.2.2.2.2.1.map WorldSaw.enc), (54701, 3, 1, v31.2.2.2.2.2.2.2.1.map (eI .i64)), (54703, 113, 3, v33.2.2.2.2.2.2.2.1.map WorldSaw.enc), (54704, 3, 1, v31.2.2.2.2.2.2.2.2.2.1.map (eI .i64)), (54706, 113, 3, v33.2.2.2.2.2.2.2.2.1.map WorldSaw.enc), (54707, 3, 1, v31.2.2.2.2.2.2.2.2.2.2.2.1.map (eI .i64))]⟩) h (Weak.refl _) (fun _ nx33 hn33 v33 h => ?_)
   conv => whnf
   refine fkS h (fun h => ?_) (fun h => ?_)
   ·conv => whnf
    refine ixS (enc := KernelCmd.enc) h rfl (fun _ => rfl) (fun x34 h => ?_)
    conv => whnf
    refine ccS (E := E_KernelState_Int_Int) h (kernel_Do_w (⟨⟨v33.1, v33.2.1⟩, v33.2.2.1, v33.2.2.2.1, v33.2.2.2.2.1, v33.2.2.2.2.2.1⟩) x34) rfl rfl (fun x35 h => ?_)
    conv => whnf
    refine jnS (fun w36 => ⟨[(9, .l (.ptr 10 0)), (10, .l (.bsl 47 3 3)), (11, .l (.d (.int .i64 v31.2.2.2.2.2.2.2.2.2.2.2.2))), (15, .l (.ptr 16 0)), (47, .l (.d (.sl (a1.map (eL KernelCmd.enc))))), (48, .l (.d (.int .i64 (a1.length : Int)))), (49, .l (.d (.int .i64 v31.2.2.2.2.2.2.2.2.2.2.2.2))), (54, .l (.d (.sl (x32.map KernelCmd.enc)))), (55, .l (.d (.int .i64 (x32.length : Int)))), (56, .l (.d (.int .i64 v33.2.2.2.2.2.2.2.2.2)))], 142, [], [(10, [.d (.int .i64 v33.1), .d (.sl (v33.2.1.map Window.enc)), .d (.sl (v33.2.2.1.map Face.enc)), .d (.sl (v33.2.2.2.1.map PartState.enc)), .d (.sl (v33.2.2.2.2.1.map PortLine.enc)), .d (.int .i64 v33.2.2.2.2.2.1)]), (16, [.d (.int .i64 x35.1.Table.Frame), .d (.sl (x35.1.Table.Windows.map Window.enc)), .d (.sl (x35.1.Faces.map Face.enc)), .d (.sl (x35.1.Parts.map PartState.enc)), .d (.sl (x35.1.Lines.map PortLine.enc)), .d (.int .i64 x35.1.Now)]), (47, [.own 54700, .own 54701, .nil, .own 54703, .own 54704, .nil, .own 54706, .own 54707, .nil])], [(54700, 113, 3, w36.1.map WorldSaw.enc), (54701, 3, 1, v31.2.2.2.2.2.2.2.1.map (eI .i64)), (54703, 113, 3, w36.2.1.map WorldSaw.enc), (54704, 3, 1, v31.2.2.2.2.2.2.2.2.2.1.map (eI .i64)), (54706, 113, 3, w36.2.2.map WorldSaw.enc), (54707, 3, 1, v31.2.2.2.2.2.2.2.2.2.2.2.1.map (eI .i64))]⟩) h (fun k36 hk36 h => ?_) (fun w36 h => ?_)
    ·conv => whnf
     refine jnS (fun w37 => ⟨[(9, .l (.ptr 10 0)), (10, .l (.bsl 47 3 3)), (11, .l (.d (.int .i64 v31.2.2.2.2.2.2.2.2.2.2.2.2))), (14, .l (.ptr 15 0)), (15, .l (.ptr 16 0)), (16, .l (.d (.int .i64 x35.2.1))), (17, .l (.d (.int .i64 x35.2.2))), (47, .l (.d (.sl (a1.map (eL KernelCmd.enc))))), (48, .l (.d (.int .i64 (a1.length : Int)))), (49, .l (.d (.int .i64 v31.2.2.2.2.2.2.2.2.2.2.2.2))), (54, .l (.d (.sl (x32.map KernelCmd.enc)))), (55, .l (.d (.int .i64 (x32.length : Int)))), (56, .l (.d (.int .i64 v33.2.2.2.2.2.2.2.2.2))), (76, .l (.d (.bool w37)))], 142, [], [(10, [.d (.int .i64 v33.1), .d (.sl (v33.2.1.map Window.enc)), .d (.sl (v33.2.2.1.map Face.enc)), .d (.sl (v33.2.2.2.1.map PartState.enc)), .d (.sl (v33.2.2.2.2.1.map PortLine.enc)), .d (.int .i64 v33.2.2.2.2.2.1)]), (15, [.d (.int .i64 x34.Part), .d (.int .i64 x34.Kind), .d (.int .i64 x34.I), .d (.int .i64 x34.V), .d (.int .i64 x34.T.C), .d (.int .i64 x34.T.D), .d (.int .i64 x34.T.T), .d (.sl (x34.T.Secs.map Sec.enc))]), (16, [.d (.int .i64 x35.1.Table.Frame), .d (.sl (x35.1.Table.Windows.map Window.enc)), .d (.sl (x35.1.Faces.map Face.enc)), .d (.sl (x35.1.Parts.map PartState.enc)), .d (.sl (x35.1.Lines.map PortLine.enc)), .d (.int .i64 x35.1.Now)]), (47, [.own 54700, .own 54701, .nil, .own 54703, .own 54704, .nil, .own 54706, .own 54707, .nil])], [(54700, 113, 3, v33.2.2.2.2.2.2.1.map WorldSaw.enc), (54701, 3, 1, v31.2.2.2.2.2.2.2.1.map (eI .i64)), (54703, 113, 3, v33.2.2.2.2.2.2.2.1.map WorldSaw.enc), (54704, 3, 1, v31.2.2.2.2.2.2.2.2.2.1.map (eI .i64)), (54706, 113, 3, v33.2.2.2.2.2.2.2.2.1.map WorldSaw.enc), (54707, 3, 1, v31.2.2.2.2.2.2.2.2.2.2.2.1.map (eI .i64))]⟩) h (fun k37 hk37 h => ?_) (fun w37 h => ?_)
     ·conv => whnf
      refine fkS h (fun h => ?_) (fun h => ?_)
      ·conv => whnf
       refine lenB tab rfl rfl rfl rfl rfl ?_
       conv => whnf
       exact jeS hk37 h (Weak.refl _)
      conv => whnf
      exact jeS hk37 h (Weak.refl _)
     conv => whnf
     refine fkS h (fun h => ?_) (fun h => ?_)
     ·conv => whnf
      refine ⟨15, ?_⟩
      conv => whnf
      refine fkN h (fun q38 h => ?_) (fun q38 h => ?_)
      ·conv => whnf
       refine liS ([⟨v31.2.2.2.2.2.2.2.2.2.2.2.2, x35.2.1, x35.2.2⟩] : List WorldSaw) WorldSaw.enc rfl rfl ?_
       conv => whnf
       refine apS (enc := WorldSaw.enc) (l1 := v33.2.2.2.2.2.2.1) (l2 := ([⟨v31.2.2.2.2.2.2.2.2.2.2.2.2, x35.2.1, x35.2.2⟩] : List WorldSaw)) h rfl rfl (fun _ => rfl) (fun h => ?_)
       conv => whnf
       refine drS (by kernel_rfl) ?_
       conv => whnf
       refine fork_t q38 ?_
       conv => whnf
       refine jeX hk36 h ?_
       conv => whnf
       refine WkF.step (Weak.rekey _ 92 54700 rfl) ?_
       conv => whnf
       exact WkF.refl _
      conv => whnf
      refine fkN h (fun q39 h => ?_) (fun q39 h => ?_)
      ·conv => whnf
       refine liS ([⟨v31.2.2.2.2.2.2.2.2.2.2.2.2, x35.2.1, x35.2.2⟩] : List WorldSaw) WorldSaw.enc rfl rfl ?_
       conv => whnf
       refine apS (enc := WorldSaw.enc) (l1 := v33.2.2.2.2.2.2.2.1) (l2 := ([⟨v31.2.2.2.2.2.2.2.2.2.2.2.2, x35.2.1, x35.2.2⟩] : List WorldSaw)) h rfl rfl (fun _ => rfl) (fun h => ?_)
       conv => whnf
       refine drS (by kernel_rfl) ?_
       conv => whnf
       refine fork_f q38 ?_
       conv => whnf
       refine fork_t q39 ?_
       conv => whnf
       refine jeX hk36 h ?_
       conv => whnf
       refine WkF.step (Weak.rekey _ 92 54703 rfl) ?_
       conv => whnf
       exact WkF.refl _
      conv => whnf
      refine fkN h (fun q40 h => ?_) (fun q40 h => ?_)
      ·conv => whnf
       refine liS ([⟨v31.2.2.2.2.2.2.2.2.2.2.2.2, x35.2.1, x35.2.2⟩] : List WorldSaw) WorldSaw.enc rfl rfl ?_
       conv => whnf
       refine apS (enc := WorldSaw.enc) (l1 := v33.2.2.2.2.2.2.2.2.1) (l2 := ([⟨v31.2.2.2.2.2.2.2.2.2.2.2.2, x35.2.1, x35.2.2⟩] : List WorldSaw)) h rfl rfl (fun _ => rfl) (fun h => ?_)
       conv => whnf
       refine drS (by kernel_rfl) ?_
       conv => whnf
       refine fork_f q38 ?_
       conv => whnf
       refine fork_f q39 ?_
       conv => whnf
       refine fork_t q40 ?_
       conv => whnf
       refine jeX hk36 h ?_
       conv => whnf
       refine WkF.step (Weak.rekey _ 92 54706 rfl) ?_
       conv => whnf
       exact WkF.refl _
      conv => whnf
      cases h
     conv => whnf
     refine jeX hk36 h ?_
     conv => whnf
     refine WkF.step (Weak.keepS _ [9, 10, 11, 15, 47, 48, 49, 54, 55, 56]) ?_
     conv => whnf
     exact WkF.refl _
    conv => whnf
    exact leS hn33 h (Weak.refl _)
   conv => whnf
   refine ccS (E := E_KernelState_ListInt_Int) h (kernel_Tick_w (⟨⟨v33.1, v33.2.1⟩, v33.2.2.1, v33.2.2.2.1, v33.2.2.2.2.1, v33.2.2.2.2.2.1⟩)) rfl rfl (fun x41 h => ?_)
   conv => whnf
   refine lenB tab rfl rfl rfl rfl rfl ?_
   conv => whnf
   refine lpS (fun v42 => ⟨[(9, .l (.ptr 10 0)), (10, .l (.bsl 47 3 3)), (18, .l (.ptr 19 0)), (19, .l (.d (.sl (x41.2.1.map (eI .i64))))), (47, .l (.d (.sl (a1.map (eL KernelCmd.enc))))), (48, .l (.d (.int .i64 (a1.length : Int)))), (49, .l (.d (.int .i64 v31.2.2.2.2.2.2.2.2.2.2.2.2))), (103, .l (.d (.int .i64 (3 : Int)))), (104, .l (.d (.int .i64 v42.2.2.2)))], 142, [], [(10, [.d (.int .i64 v33.1), .d (.sl (v33.2.1.map Window.enc)), .d (.sl (v33.2.2.1.map Face.enc)), .d (.sl (v33.2.2.2.1.map PartState.enc)), .d (.sl (v33.2.2.2.2.1.map PortLine.enc)), .d (.int .i64 v33.2.2.2.2.2.1)]), (19, [.d (.int .i64 x41.1.Table.Frame), .d (.sl (x41.1.Table.Windows.map Window.enc)), .d (.sl (x41.1.Faces.map Face.enc)), .d (.sl (x41.1.Parts.map PartState.enc)), .d (.sl (x41.1.Lines.map PortLine.enc)), .d (.int .i64 x41.1.Now)]), (47, [.own 54700, .own 54701, .nil, .own 54703, .own 54704, .nil, .own 54706, .own 54707, .nil])], [(54700, 113, 3, v33.2.2.2.2.2.2.1.map WorldSaw.enc), (54701, 3, 1, v42.1.map (eI .i64)), (54703, 113, 3, v33.2.2.2.2.2.2.2.1.map WorldSaw.enc), (54704, 3, 1, v42.2.1.map (eI .i64)), (54706, 113, 3, v33.2.2.2.2.2.2.2.2.1.map WorldSaw.enc), (54707, 3, 1, v42.2.2.1.map (eI .i64))]⟩) h (Weak.refl _) (fun _ nx42 hn42 v42 h => ?_)
   conv => whnf
   refine fkS h (fun h => ?_) (fun h => ?_)
   ·conv => whnf
    refine ⟨13, ?_⟩
    conv => whnf
    refine fkN h (fun q43 h => ?_) (fun q43 h => ?_)
    ·conv => whnf
     refine ixS (enc := (eI .i64)) h rfl (fun _ => rfl) (fun x48 h => ?_)
     conv => whnf
     refine liS ([x48] : List Int) (eI .i64) rfl rfl ?_
     conv => whnf
     refine apS (enc := (eI .i64)) (l1 := v42.1) (l2 := ([x48] : List Int)) h rfl rfl (fun _ => rfl) (fun h => ?_)
     conv => whnf
     refine drS (by kernel_rfl) ?_
     conv => whnf
     refine fork_t q43 ?_
     conv => whnf
     refine leX hn42 h ?_
     conv => whnf
     refine WkF.step (Weak.rekey _ 120 54701 rfl) ?_
     conv => whnf
     exact WkF.refl _
    conv => whnf
    refine fkN h (fun q44 h => ?_) (fun q44 h => ?_)
    ·conv => whnf
     refine ixS (enc := (eI .i64)) h rfl (fun _ => rfl) (fun x47 h => ?_)
     conv => whnf
     refine liS ([x47] : List Int) (eI .i64) rfl rfl ?_
     conv => whnf
     refine apS (enc := (eI .i64)) (l1 := v42.2.1) (l2 := ([x47] : List Int)) h rfl rfl (fun _ => rfl) (fun h => ?_)
     conv => whnf
     refine drS (by kernel_rfl) ?_
     conv => whnf
     refine fork_f q43 ?_
     conv => whnf
     refine fork_t q44 ?_
     conv => whnf
     refine leX hn42 h ?_
     conv => whnf
     refine WkF.step (Weak.rekey _ 120 54704 rfl) ?_
     conv => whnf
     exact WkF.refl _
    conv => whnf
    refine fkN h (fun q45 h => ?_) (fun q45 h => ?_)
    ·conv => whnf
     refine ixS (enc := (eI .i64)) h rfl (fun _ => rfl) (fun x46 h => ?_)
     conv => whnf
     refine liS ([x46] : List Int) (eI .i64) rfl rfl ?_
     conv => whnf
     refine apS (enc := (eI .i64)) (l1 := v42.2.2.1) (l2 := ([x46] : List Int)) h rfl rfl (fun _ => rfl) (fun h => ?_)
     conv => whnf
     refine drS (by kernel_rfl) ?_
     conv => whnf
     refine fork_f q43 ?_
     conv => whnf
     refine fork_f q44 ?_
     conv => whnf
     refine fork_t q45 ?_
     conv => whnf
     refine leX hn42 h ?_
     conv => whnf
     refine WkF.step (Weak.rekey _ 120 54707 rfl) ?_
     conv => whnf
     exact WkF.refl _
    conv => whnf
    cases h
   conv => whnf
   exact leS hn31 h (Weak.refl _)
  conv => whnf
  refine lenB tab rfl rfl rfl rfl rfl ?_
  conv => whnf
  refine lpX (fun v49 => ⟨[(9, .l (.ptr 10 0)), (10, .l (.bsl 47 3 3)), (126, .l (.d (.int .i64 (3 : Int)))), (127, .l (.d (.int .i64 v49.2.2.2)))], 142, [], [(10, [.d (.int .i64 v31.1), .d (.sl (v31.2.1.map Window.enc)), .d (.sl (v31.2.2.1.map Face.enc)), .d (.sl (v31.2.2.2.1.map PartState.enc)), .d (.sl (v31.2.2.2.2.1.map PortLine.enc)), .d (.int .i64 v31.2.2.2.2.2.1)]), (47, [.own 54700, .own 54701, .d (.sl (v49.1.map Entry.enc)), .own 54703, .own 54704, .d (.sl (v49.2.1.map Entry.enc)), .own 54706, .own 54707, .d (.sl (v49.2.2.1.map Entry.enc))])], [(54700, 113, 3, v31.2.2.2.2.2.2.1.map WorldSaw.enc), (54701, 3, 1, v31.2.2.2.2.2.2.2.1.map (eI .i64)), (54703, 113, 3, v31.2.2.2.2.2.2.2.2.1.map WorldSaw.enc), (54704, 3, 1, v31.2.2.2.2.2.2.2.2.2.1.map (eI .i64)), (54706, 113, 3, v31.2.2.2.2.2.2.2.2.2.2.1.map WorldSaw.enc), (54707, 3, 1, v31.2.2.2.2.2.2.2.2.2.2.2.1.map (eI .i64))]⟩) h ?_ (fun _ nx49 hn49 v49 h => ?_)
  ·conv => whnf
   refine WkF.step (Weak.nilBD _ 47 2 _ rfl rfl) ?_
   conv => whnf
   refine WkF.step (Weak.nilBD _ 47 5 _ rfl rfl) ?_
   conv => whnf
   refine WkF.step (Weak.nilBD _ 47 8 _ rfl rfl) ?_
   conv => whnf
   exact WkF.refl _
  conv => whnf
  refine fkS h (fun h => ?_) (fun h => ?_)
  ·conv => whnf
   refine ixS (enc := PartState.enc) h rfl (fun _ => rfl) (fun x50 h => ?_)
   conv => whnf
   refine fkN h (fun q51 h => ?_) (fun q51 h => ?_)
   ·conv => whnf
    exact leS hn49 h (Weak.refl _)
   conv => whnf
   refine fkN h (fun q52 h => ?_) (fun q52 h => ?_)
   ·conv => whnf
    exact leS hn49 h (Weak.refl _)
   conv => whnf
   refine fkN h (fun q53 h => ?_) (fun q53 h => ?_)
   ·conv => whnf
    exact leS hn49 h (Weak.refl _)
   conv => whnf
   cases h
  conv => whnf
  exact rt (E := E_ListWorldView_Int) h rfl
 conv => whnf
 refine mkF h (fun hb h => ?_) (fun h => ?_)
 ·conv => whnf
  refine mkB tab 4 rfl rfl rfl rfl (of_decide_eq_true hb) (of_decide_eq_true hb) rfl rfl rfl (Nat.le_of_ble_eq_true rfl) (Nat.le_of_ble_eq_true rfl) (Nat.le_of_ble_eq_true rfl) rfl ?_
  conv => whnf
  refine lenS a1 (eL KernelCmd.enc) rfl ?_
  conv => whnf
  refine lpX (fun v4 => ⟨[(9, .l (.ptr 10 0)), (10, .l (.bsl 47 4 3)), (47, .l (.d (.sl (a1.map (eL KernelCmd.enc))))), (48, .l (.d (.int .i64 (a1.length : Int)))), (49, .l (.d (.int .i64 v4.2.2.2.2.2.2.2.2.2.2.2.2.2.2)))], 142, [], [(10, [.d (.int .i64 v4.1), .d (.sl (v4.2.1.map Window.enc)), .d (.sl (v4.2.2.1.map Face.enc)), .d (.sl (v4.2.2.2.1.map PartState.enc)), .d (.sl (v4.2.2.2.2.1.map PortLine.enc)), .d (.int .i64 v4.2.2.2.2.2.1)]), (47, [.own 54700, .own 54701, .nil, .own 54703, .own 54704, .nil, .own 54706, .own 54707, .nil, .own 54709, .own 54710, .nil])], [(54700, 113, 3, v4.2.2.2.2.2.2.1.map WorldSaw.enc), (54701, 3, 1, v4.2.2.2.2.2.2.2.1.map (eI .i64)), (54703, 113, 3, v4.2.2.2.2.2.2.2.2.1.map WorldSaw.enc), (54704, 3, 1, v4.2.2.2.2.2.2.2.2.2.1.map (eI .i64)), (54706, 113, 3, v4.2.2.2.2.2.2.2.2.2.2.1.map WorldSaw.enc), (54707, 3, 1, v4.2.2.2.2.2.2.2.2.2.2.2.1.map (eI .i64)), (54709, 113, 3, v4.2.2.2.2.2.2.2.2.2.2.2.2.1.map WorldSaw.enc), (54710, 3, 1, v4.2.2.2.2.2.2.2.2.2.2.2.2.2.1.map (eI .i64))]⟩) h ?_ (fun _ nx4 hn4 v4 h => ?_)
  ·conv => whnf
   refine WkF.step (Weak.nilBO _ 47 0 54700 113 3 _ rfl rfl) ?_
   conv => whnf
   refine WkF.step (Weak.nilBO _ 47 1 54701 3 1 _ rfl rfl) ?_
   conv => whnf
   refine WkF.step (Weak.nilBO _ 47 3 54703 113 3 _ rfl rfl) ?_
   conv => whnf
   refine WkF.step (Weak.nilBO _ 47 4 54704 3 1 _ rfl rfl) ?_
   conv => whnf
   refine WkF.step (Weak.nilBO _ 47 6 54706 113 3 _ rfl rfl) ?_
   conv => whnf
   refine WkF.step (Weak.nilBO _ 47 7 54707 3 1 _ rfl rfl) ?_
   conv => whnf
   refine WkF.step (Weak.nilBO _ 47 9 54709 113 3 _ rfl rfl) ?_
   conv => whnf
   refine WkF.step (Weak.nilBO _ 47 10 54710 3 1 _ rfl rfl) ?_
   conv => whnf
   exact WkF.refl _
  conv => whnf
  refine fkS h (fun h => ?_) (fun h => ?_)
  ·conv => whnf
   refine ixS (enc := (eL KernelCmd.enc)) h rfl (fun _ => rfl) (fun x5 h => ?_)
   conv => whnf
   refine lenS x5 KernelCmd.enc rfl ?_
   conv => whnf
   refine lpS (fun v6 => ⟨[(9, .l (.ptr 10 0)), (10, .l (.bsl 47 4 3)), (11, .l (.d (.int .i64 v4.2.2.2.2.2.2.2.2.2.2.2.2.2.2))), (47, .l (.d (.sl (a1.map (eL KernelCmd.enc))))), (48, .l (.d (.int .i64 (a1.length : Int)))), (49, .l (.d (.int .i64 v4.2.2.2.2.2.2.2.2.2.2.2.2.2.2))), (54, .l (.d (.sl (x5.map KernelCmd.enc)))), (55, .l (.d (.int .i64 (x5.length : Int)))), (56, .l (.d (.int .i64 v6.2.2.2.2.2.2.2.2.2.2)))], 142, [], [(10, [.d (.int .i64 v6.1), .d (.sl (v6.2.1.map Window.enc)), .d (.sl (v6.2.2.1.map Face.enc)), .d (.sl (v6.2.2.2.1.map PartState.enc)), .d (.sl (v6.2.2.2.2.1.map PortLine.enc)), .d (.int .i64 v6.2.2.2.2.2.1)]), (47, [.own 54700, .own 54701, .nil, .own 54703, .own 54704, .nil, .own 54706, .own 54707, .nil, .own 54709, .own 54710, .nil])], [(54700, 113, 3, v6.2.2.2.2.2.2.1.map WorldSaw.enc), (54701, 3, 1, v4.2.2.2.2.2.2.2.1.map (eI .i64)), (54703, 113, 3, v6.2.2.2.2.2.2.2.1.map WorldSaw.enc), (54704, 3, 1, v4.2.2.2.2.2.2.2.2.2.1.map (eI .i64)), (54706, 113, 3, v6.2.2.2.2.2.2.2.2.1.map WorldSaw.enc), (54707, 3, 1, v4.2.2.2.2.2.2.2.2.2.2.2.1.map (eI .i64)), (54709, 113, 3, v6.2.2.2.2.2.2.2.2.2.1.map WorldSaw.enc), (54710, 3, 1, v4.2.2.2.2.2.2.2.2.2.2.2.2.2.1.map (eI .i64))]⟩) h (Weak.refl _) (fun _ nx6 hn6 v6 h => ?_)
   conv => whnf
   refine fkS h (fun h => ?_) (fun h => ?_)
   ·conv => whnf
    refine ixS (enc := KernelCmd.enc) h rfl (fun _ => rfl) (fun x7 h => ?_)
    conv => whnf
    refine ccS (E := E_KernelState_Int_Int) h (kernel_Do_w (⟨⟨v6.1, v6.2.1⟩, v6.2.2.1, v6.2.2.2.1, v6.2.2.2.2.1, v6.2.2.2.2.2.1⟩) x7) rfl rfl (fun x8 h => ?_)
    conv => whnf
    refine jnS (fun w9 => ⟨[(9, .l (.ptr 10 0)), (10, .l (.bsl 47 4 3)), (11, .l (.d (.int .i64 v4.2.2.2.2.2.2.2.2.2.2.2.2.2.2))), (15, .l (.ptr 16 0)), (47, .l (.d (.sl (a1.map (eL KernelCmd.enc))))), (48, .l (.d (.int .i64 (a1.length : Int)))), (49, .l (.d (.int .i64 v4.2.2.2.2.2.2.2.2.2.2.2.2.2.2))), (54, .l (.d (.sl (x5.map KernelCmd.enc)))), (55, .l (.d (.int .i64 (x5.length : Int)))), (56, .l (.d (.int .i64 v6.2.2.2.2.2.2.2.2.2.2)))], 142, [], [(10, [.d (.int .i64 v6.1), .d (.sl (v6.2.1.map Window.enc)), .d (.sl (v6.2.2.1.map Face.enc)), .d (.sl (v6.2.2.2.1.map PartState.enc)), .d (.sl (v6.2.2.2.2.1.map PortLine.enc)), .d (.int .i64 v6.2.2.2.2.2.1)]), (16, [.d (.int .i64 x8.1.Table.Frame), .d (.sl (x8.1.Table.Windows.map Window.enc)), .d (.sl (x8.1.Faces.map Face.enc)), .d (.sl (x8.1.Parts.map PartState.enc)), .d (.sl (x8.1.Lines.map PortLine.enc)), .d (.int .i64 x8.1.Now)]), (47, [.own 54700, .own 54701, .nil, .own 54703, .own 54704, .nil, .own 54706, .own 54707, .nil, .own 54709, .own 54710, .nil])], [(54700, 113, 3, w9.1.map WorldSaw.enc), (54701, 3, 1, v4.2.2.2.2.2.2.2.1.map (eI .i64)), (54703, 113, 3, w9.2.1.map WorldSaw.enc), (54704, 3, 1, v4.2.2.2.2.2.2.2.2.2.1.map (eI .i64)), (54706, 113, 3, w9.2.2.1.map WorldSaw.enc), (54707, 3, 1, v4.2.2.2.2.2.2.2.2.2.2.2.1.map (eI .i64)), (54709, 113, 3, w9.2.2.2.map WorldSaw.enc), (54710, 3, 1, v4.2.2.2.2.2.2.2.2.2.2.2.2.2.1.map (eI .i64))]⟩) h (fun k9 hk9 h => ?_) (fun w9 h => ?_)
    ·conv => whnf
     refine jnS (fun w10 => ⟨[(9, .l (.ptr 10 0)), (10, .l (.bsl 47 4 3)), (11, .l (.d (.int .i64 v4.2.2.2.2.2.2.2.2.2.2.2.2.2.2))), (14, .l (.ptr 15 0)), (15, .l (.ptr 16 0)), (16, .l (.d (.int .i64 x8.2.1))), (17, .l (.d (.int .i64 x8.2.2))), (47, .l (.d (.sl (a1.map (eL KernelCmd.enc))))), (48, .l (.d (.int .i64 (a1.length : Int)))), (49, .l (.d (.int .i64 v4.2.2.2.2.2.2.2.2.2.2.2.2.2.2))), (54, .l (.d (.sl (x5.map KernelCmd.enc)))), (55, .l (.d (.int .i64 (x5.length : Int)))), (56, .l (.d (.int .i64 v6.2.2.2.2.2.2.2.2.2.2))), (76, .l (.d (.bool w10)))], 142, [], [(10, [.d (.int .i64 v6.1), .d (.sl (v6.2.1.map Window.enc)), .d (.sl (v6.2.2.1.map Face.enc)), .d (.sl (v6.2.2.2.1.map PartState.enc)), .d (.sl (v6.2.2.2.2.1.map PortLine.enc)), .d (.int .i64 v6.2.2.2.2.2.1)]), (15, [.d (.int .i64 x7.Part), .d (.int .i64 x7.Kind), .d (.int .i64 x7.I), .d (.int .i64 x7.V), .d (.int .i64 x7.T.C), .d (.int .i64 x7.T.D), .d (.int .i64 x7.T.T), .d (.sl (x7.T.Secs.map Sec.enc))]), (16, [.d (.int .i64 x8.1.Table.Frame), .d (.sl (x8.1.Table.Windows.map Window.enc)), .d (.sl (x8.1.Faces.map Face.enc)), .d (.sl (x8.1.Parts.map PartState.enc)), .d (.sl (x8.1.Lines.map PortLine.enc)), .d (.int .i64 x8.1.Now)]), (47, [.own 54700, .own 54701, .nil, .own 54703, .own 54704, .nil, .own 54706, .own 54707, .nil, .own 54709, .own 54710, .nil])], [(54700, 113, 3, v6.2.2.2.2.2.2.1.map WorldSaw.enc), (54701, 3, 1, v4.2.2.2.2.2.2.2.1.map (eI .i64)), (54703, 113, 3, v6.2.2.2.2.2.2.2.1.map WorldSaw.enc), (54704, 3, 1, v4.2.2.2.2.2.2.2.2.2.1.map (eI .i64)), (54706, 113, 3, v6.2.2.2.2.2.2.2.2.1.map WorldSaw.enc), (54707, 3, 1, v4.2.2.2.2.2.2.2.2.2.2.2.1.map (eI .i64)), (54709, 113, 3, v6.2.2.2.2.2.2.2.2.2.1.map WorldSaw.enc), (54710, 3, 1, v4.2.2.2.2.2.2.2.2.2.2.2.2.2.1.map (eI .i64))]⟩) h (fun k10 hk10 h => ?_) (fun w10 h => ?_)
     ·conv => whnf
      refine fkS h (fun h => ?_) (fun h => ?_)
      ·conv => whnf
       refine lenB tab rfl rfl rfl rfl rfl ?_
       conv => whnf
       exact jeS hk10 h (Weak.refl _)
      conv => whnf
      exact jeS hk10 h (Weak.refl _)
     conv => whnf
     refine fkS h (fun h => ?_) (fun h => ?_)
     ·conv => whnf
      refine ⟨15, ?_⟩
      conv => whnf
      refine fkN h (fun q11 h => ?_) (fun q11 h => ?_)
      ·conv => whnf
       refine liS ([⟨v4.2.2.2.2.2.2.2.2.2.2.2.2.2.2, x8.2.1, x8.2.2⟩] : List WorldSaw) WorldSaw.enc rfl rfl ?_
       conv => whnf
       refine apS (enc := WorldSaw.enc) (l1 := v6.2.2.2.2.2.2.1) (l2 := ([⟨v4.2.2.2.2.2.2.2.2.2.2.2.2.2.2, x8.2.1, x8.2.2⟩] : List WorldSaw)) h rfl rfl (fun _ => rfl) (fun h => ?_)
       conv => whnf
       refine drS (by kernel_rfl) ?_
       conv => whnf
       refine fork_t q11 ?_
       conv => whnf
       refine jeX hk9 h ?_
       conv => whnf
       refine WkF.step (Weak.rekey _ 92 54700 rfl) ?_
       conv => whnf
       exact WkF.refl _
      conv => whnf
      refine fkN h (fun q12 h => ?_) (fun q12 h => ?_)
      ·conv => whnf
       refine liS ([⟨v4.2.2.2.2.2.2.2.2.2.2.2.2.2.2, x8.2.1, x8.2.2⟩] : List WorldSaw) WorldSaw.enc rfl rfl ?_
       conv => whnf
       refine apS (enc := WorldSaw.enc) (l1 := v6.2.2.2.2.2.2.2.1) (l2 := ([⟨v4.2.2.2.2.2.2.2.2.2.2.2.2.2.2, x8.2.1, x8.2.2⟩] : List WorldSaw)) h rfl rfl (fun _ => rfl) (fun h => ?_)
       conv => whnf
       refine drS (by kernel_rfl) ?_
       conv => whnf
       refine fork_f q11 ?_
       conv => whnf
       refine fork_t q12 ?_
       conv => whnf
       refine jeX hk9 h ?_
       conv => whnf
       refine WkF.step (Weak.rekey _ 92 54703 rfl) ?_
       conv => whnf
       exact WkF.refl _
      conv => whnf
      refine fkN h (fun q13 h => ?_) (fun q13 h => ?_)
      ·conv => whnf
       refine liS ([⟨v4.2.2.2.2.2.2.2.2.2.2.2.2.2.2, x8.2.1, x8.2.2⟩] : List WorldSaw) WorldSaw.enc rfl rfl ?_
       conv => whnf
       refine apS (enc := WorldSaw.enc) (l1 := v6.2.2.2.2.2.2.2.2.1) (l2 := ([⟨v4.2.2.2.2.2.2.2.2.2.2.2.2.2.2, x8.2.1, x8.2.2⟩] : List WorldSaw)) h rfl rfl (fun _ => rfl) (fun h => ?_)
       conv => whnf
       refine drS (by kernel_rfl) ?_
       conv => whnf
       refine fork_f q11 ?_
       conv => whnf
       refine fork_f q12 ?_
       conv => whnf
       refine fork_t q13 ?_
       conv => whnf
       refine jeX hk9 h ?_
       conv => whnf
       refine WkF.step (Weak.rekey _ 92 54706 rfl) ?_
       conv => whnf
       exact WkF.refl _
      conv => whnf
      refine fkN h (fun q14 h => ?_) (fun q14 h => ?_)
      ·conv => whnf
       refine liS ([⟨v4.2.2.2.2.2.2.2.2.2.2.2.2.2.2, x8.2.1, x8.2.2⟩] : List WorldSaw) WorldSaw.enc rfl rfl ?_
       conv => whnf
       refine apS (enc := WorldSaw.enc) (l1 := v6.2.2.2.2.2.2.2.2.2.1) (l2 := ([⟨v4.2.2.2.2.2.2.2.2.2.2.2.2.2.2, x8.2.1, x8.2.2⟩] : List WorldSaw)) h rfl rfl (fun _ => rfl) (fun h => ?_)
       conv => whnf
       refine drS (by kernel_rfl) ?_
       conv => whnf
       refine fork_f q11 ?_
       conv => whnf
       refine fork_f q12 ?_
       conv => whnf
       refine fork_f q13 ?_
       conv => whnf
       refine fork_t q14 ?_
       conv => whnf
       refine jeX hk9 h ?_
       conv => whnf
       refine WkF.step (Weak.rekey _ 92 54709 rfl) ?_
       conv => whnf
       exact WkF.refl _
      conv => whnf
      cases h
     conv => whnf
     refine jeX hk9 h ?_
     conv => whnf
     refine WkF.step (Weak.keepS _ [9, 10, 11, 15, 47, 48, 49, 54, 55, 56]) ?_
     conv => whnf
     exact WkF.refl _
    conv => whnf
    exact leS hn6 h (Weak.refl _)
   conv => whnf
   refine ccS (E := E_KernelState_ListInt_Int) h (kernel_Tick_w (⟨⟨v6.1, v6.2.1⟩, v6.2.2.1, v6.2.2.2.1, v6.2.2.2.2.1, v6.2.2.2.2.2.1⟩)) rfl rfl (fun x15 h => ?_)
   conv => whnf
   refine lenB tab rfl rfl rfl rfl rfl ?_
   conv => whnf
   refine lpS (fun v16 => ⟨[(9, .l (.ptr 10 0)), (10, .l (.bsl 47 4 3)), (18, .l (.ptr 19 0)), (19, .l (.d (.sl (x15.2.1.map (eI .i64))))), (47, .l (.d (.sl (a1.map (eL KernelCmd.enc))))), (48, .l (.d (.int .i64 (a1.length : Int)))), (49, .l (.d (.int .i64 v4.2.2.2.2.2.2.2.2.2.2.2.2.2.2))), (103, .l (.d (.int .i64 (4 : Int)))), (104, .l (.d (.int .i64 v16.2.2.2.2)))], 142, [], [(10, [.d (.int .i64 v6.1), .d (.sl (v6.2.1.map Window.enc)), .d (.sl (v6.2.2.1.map Face.enc)), .d (.sl (v6.2.2.2.1.map PartState.enc)), .d (.sl (v6.2.2.2.2.1.map PortLine.enc)), .d (.int .i64 v6.2.2.2.2.2.1)]), (19, [.d (.int .i64 x15.1.Table.Frame), .d (.sl (x15.1.Table.Windows.map Window.enc)), .d (.sl (x15.1.Faces.map Face.enc)), .d (.sl (x15.1.Parts.map PartState.enc)), .d (.sl (x15.1.Lines.map PortLine.enc)), .d (.int .i64 x15.1.Now)]), (47, [.own 54700, .own 54701, .nil, .own 54703, .own 54704, .nil, .own 54706, .own 54707, .nil, .own 54709, .own 54710, .nil])], [(54700, 113, 3, v6.2.2.2.2.2.2.1.map WorldSaw.enc), (54701, 3, 1, v16.1.map (eI .i64)), (54703, 113, 3, v6.2.2.2.2.2.2.2.1.map WorldSaw.enc), (54704, 3, 1, v16.2.1.map (eI .i64)), (54706, 113, 3, v6.2.2.2.2.2.2.2.2.1.map WorldSaw.enc), (54707, 3, 1, v16.2.2.1.map (eI .i64)), (54709, 113, 3, v6.2.2.2.2.2.2.2.2.2.1.map WorldSaw.enc), (54710, 3, 1, v16.2.2.2.1.map (eI .i64))]⟩) h (Weak.refl _) (fun _ nx16 hn16 v16 h => ?_)
   conv => whnf
   refine fkS h (fun h => ?_) (fun h => ?_)
   ·conv => whnf
    refine ⟨13, ?_⟩
    conv => whnf
    refine fkN h (fun q17 h => ?_) (fun q17 h => ?_)
    ·conv => whnf
     refine ixS (enc := (eI .i64)) h rfl (fun _ => rfl) (fun x24 h => ?_)
     conv => whnf
     refine liS ([x24] : List Int) (eI .i64) rfl rfl ?_
     conv => whnf
     refine apS (enc := (eI .i64)) (l1 := v16.1) (l2 := ([x24] : List Int)) h rfl rfl (fun _ => rfl) (fun h => ?_)
     conv => whnf
     refine drS (by kernel_rfl) ?_
     conv => whnf
     refine fork_t q17 ?_
     conv => whnf
     refine leX hn16 h ?_
     conv => whnf
     refine WkF.step (Weak.rekey _ 120 54701 rfl) ?_
     conv => whnf
     exact WkF.refl _
    conv => whnf
    refine fkN h (fun q18 h => ?_) (fun q18 h => ?_)
    ·conv => whnf
     refine ixS (enc := (eI .i64)) h rfl (fun _ => rfl) (fun x23 h => ?_)
     conv => whnf
     refine liS ([x23] : List Int) (eI .i64) rfl rfl ?_
     conv => whnf
     refine apS (enc := (eI .i64)) (l1 := v16.2.1) (l2 := ([x23] : List Int)) h rfl rfl (fun _ => rfl) (fun h => ?_)
     conv => whnf
     refine drS (by kernel_rfl) ?_
     conv => whnf
     refine fork_f q17 ?_
     conv => whnf
     refine fork_t q18 ?_
     conv => whnf
     refine leX hn16 h ?_
     conv => whnf
     refine WkF.step (Weak.rekey _ 120 54704 rfl) ?_
     conv => whnf
     exact WkF.refl _
    conv => whnf
    refine fkN h (fun q19 h => ?_) (fun q19 h => ?_)
    ·conv => whnf
     refine ixS (enc := (eI .i64)) h rfl (fun _ => rfl) (fun x22 h => ?_)
     conv => whnf
     refine liS ([x22] : List Int) (eI .i64) rfl rfl ?_
     conv => whnf
     refine apS (enc := (eI .i64)) (l1 := v16.2.2.1) (l2 := ([x22] : List Int)) h rfl rfl (fun _ => rfl) (fun h => ?_)
     conv => whnf
     refine drS (by kernel_rfl) ?_
     conv => whnf
     refine fork_f q17 ?_
     conv => whnf
     refine fork_f q18 ?_
     conv => whnf
     refine fork_t q19 ?_
     conv => whnf
     refine leX hn16 h ?_
     conv => whnf
     refine WkF.step (Weak.rekey _ 120 54707 rfl) ?_
     conv => whnf
     exact WkF.refl _
    conv => whnf
    refine fkN h (fun q20 h => ?_) (fun q20 h => ?_)
    ·conv => whnf
     refine ixS (enc := (eI .i64)) h rfl (fun _ => rfl) (fun x21 h => ?_)
     conv => whnf
     refine liS ([x21] : List Int) (eI .i64) rfl rfl ?_
     conv => whnf
     refine apS (enc := (eI .i64)) (l1 := v16.2.2.2.1) (l2 := ([x21] : List Int)) h rfl rfl (fun _ => rfl) (fun h => ?_)
     conv => whnf
     refine drS (by kernel_rfl) ?_
     conv => whnf
     refine fork_f q17 ?_
     conv => whnf
     refine fork_f q18 ?_
     conv => whnf
     refine fork_f q19 ?_
     conv => whnf
     refine fork_t q20 ?_
     conv => whnf
     refine leX hn16 h ?_
     conv => whnf
     refine WkF.step (Weak.rekey _ 120 54710 rfl) ?_
     conv => whnf
     exact WkF.refl _
    conv => whnf
    cases h
   conv => whnf
   exact leS hn4 h (Weak.refl _)
  conv => whnf
  refine lenB tab rfl rfl rfl rfl rfl ?_
  conv => whnf
  refine lpX (fun v25 => ⟨[(9, .l (.ptr 10 0)), (10, .l (.bsl 47 4 3)), (126, .l (.d (.int .i64 (4 : Int)))), (127, .l (.d (.int .i64 v25.2.2.2.2)))], 142, [], [(10, [.d (.int .i64 v4.1), .d (.sl (v4.2.1.map Window.enc)), .d (.sl (v4.2.2.1.map Face.enc)), .d (.sl (v4.2.2.2.1.map PartState.enc)), .d (.sl (v4.2.2.2.2.1.map PortLine.enc)), .d (.int .i64 v4.2.2.2.2.2.1)]), (47, [.own 54700, .own 54701, .d (.sl (v25.1.map Entry.enc)), .own 54703, .own 54704, .d (.sl (v25.2.1.map Entry.enc)), .own 54706, .own 54707, .d (.sl (v25.2.2.1.map Entry.enc)), .own 54709, .own 54710, .d (.sl (v25.2.2.2.1.map Entry.enc))])], [(54700, 113, 3, v4.2.2.2.2.2.2.1.map WorldSaw.enc), (54701, 3, 1, v4.2.2.2.2.2.2.2.1.map (eI .i64)), (54703, 113, 3, v4.2.2.2.2.2.2.2.2.1.map WorldSaw.enc), (54704, 3, 1, v4.2.2.2.2.2.2.2.2.2.1.map (eI .i64)), (54706, 113, 3, v4.2.2.2.2.2.2.2.2.2.2.1.map WorldSaw.enc), (54707, 3, 1, v4.2.2.2.2.2.2.2.2.2.2.2.1.map (eI .i64)), (54709, 113, 3, v4.2.2.2.2.2.2.2.2.2.2.2.2.1.map WorldSaw.enc), (54710, 3, 1, v4.2.2.2.2.2.2.2.2.2.2.2.2.2.1.map (eI .i64))]⟩) h ?_ (fun _ nx25 hn25 v25 h => ?_)
  ·conv => whnf
   refine WkF.step (Weak.nilBD _ 47 2 _ rfl rfl) ?_
   conv => whnf
   refine WkF.step (Weak.nilBD _ 47 5 _ rfl rfl) ?_
   conv => whnf
   refine WkF.step (Weak.nilBD _ 47 8 _ rfl rfl) ?_
   conv => whnf
   refine WkF.step (Weak.nilBD _ 47 11 _ rfl rfl) ?_
   conv => whnf
   exact WkF.refl _
  conv => whnf
  refine fkS h (fun h => ?_) (fun h => ?_)
  ·conv => whnf
   refine ixS (enc := PartState.enc) h rfl (fun _ => rfl) (fun x26 h => ?_)
   conv => whnf
   refine fkN h (fun q27 h => ?_) (fun q27 h => ?_)
   ·conv => whnf
    exact leS hn25 h (Weak.refl _)
   conv => whnf
   refine fkN h (fun q28 h => ?_) (fun q28 h => ?_)
   ·conv => whnf
    exact leS hn25 h (Weak.refl _)
   conv => whnf
   refine fkN h (fun q29 h => ?_) (fun q29 h => ?_)
   ·conv => whnf
    exact leS hn25 h (Weak.refl _)
   conv => whnf
   refine fkN h (fun q30 h => ?_) (fun q30 h => ?_)
   ·conv => whnf
    exact leS hn25 h (Weak.refl _)
   conv => whnf
   cases h
  conv => whnf
  exact rt (E := E_ListWorldView_Int) h rfl
 conv => whnf
 cases h
end Go.Proofs.YtldlcdnhdedoeaaGreat
namespace Go.Proofs.YtldlcdnhdedoeaaGreat
open Go Go.VC
noncomputable def law22_knows  : Option Bool :=
 bnd (world_Play ([(84 : Int), (75 : Int), (49 : Int), (0 : Int), (0 : Int)] : List Int) []) fun x1 => bnd (world_Play ([(84 : Int), (75 : Int), (49 : Int), (1 : Int), (2 : Int), (1 : Int), (1 : Int), (1 : Int), (4 : Int), (4 : Int), (0 : Int), (0 : Int)] : List Int) ([([⟨(0 : Int), (1 : Int), (0 : Int), (1 : Int), ⟨(0 : Int), (0 : Int), (0 : Int), []⟩⟩] : List KernelCmd), ([] : List KernelCmd)] : List (List KernelCmd))) fun x2 => bnd (world_Play [] []) fun x3 => fk (decide ((x1.1.length : Int) = (0 : Int))) (fk (decide (x1.2 = (0 : Int))) (fk (decide ((x2.1.length : Int) = (1 : Int))) (fk (decide (x2.2 = (0 : Int))) (ix x2.1 (0 : Int) fun x4 => fk (decide ((x4.Ran.length : Int) = (2 : Int))) (ix x2.1 (0 : Int) fun x5 => ix x5.Ran (0 : Int) fun x6 => fk (decide (x6 = (0 : Int))) (ix x2.1 (0 : Int) fun x7 => ix x7.Ran (1 : Int) fun x8 => fk (decide (x8 = (-1 : Int))) (ix x2.1 (0 : Int) fun x9 => fk (decide ((x9.Saws.length : Int) = (1 : Int))) (ix x2.1 (0 : Int) fun x10 => fk (decide ((x10.Log.length : Int) = (2 : Int))) (some (decide (x3.2 = (8 : Int)))) (some false)) (some false)) (some false)) (some false)) (some false)) (some false)) (some false)) (some false)) (some false)
theorem law22_knows_w  (r : Bool) (h : law22_knows = some r) : Go.VC.Spec Tryz.prog 40 [] (fun y => y = E_Bool r) := by
 refine Go.VC.Spec.of_xc (args := []) (fn := Tryz.f40) tab ⟨[(0, []), (1, [1, 2]), (2, [1, 2, 3, 4]), (3, [1, 2, 3, 4, 6]), (4, [0])], [], [], [(19, [18, 19])]⟩ 89 [.tmp 0] rfl rfl rfl rfl rfl rfl ?_
 conv => whnf
 refine liS ([(84 : Int), (75 : Int), (49 : Int), (0 : Int), (0 : Int)] : List Int) (eI .u8) rfl rfl ?_
 conv => whnf
 refine cvO rfl rfl rfl rfl rfl Tryz.underlying97 Tryz.underlying5 ?_
 conv => whnf
 refine ccS (E := E_ListWorldView_Int) h (world_Play_w ([(84 : Int), (75 : Int), (49 : Int), (0 : Int), (0 : Int)] : List Int) []) rfl rfl (fun x1 h => ?_)
 conv => whnf
 refine liS ([(84 : Int), (75 : Int), (49 : Int), (1 : Int), (2 : Int), (1 : Int), (1 : Int), (1 : Int), (4 : Int), (4 : Int), (0 : Int), (0 : Int)] : List Int) (eI .u8) rfl rfl ?_
 conv => whnf
 refine cvO rfl rfl rfl rfl rfl Tryz.underlying97 Tryz.underlying5 ?_
 conv => whnf
 refine liS ([⟨(0 : Int), (1 : Int), (0 : Int), (1 : Int), ⟨(0 : Int), (0 : Int), (0 : Int), []⟩⟩] : List KernelCmd) KernelCmd.enc rfl rfl ?_
 conv => whnf
 refine liS ([] : List KernelCmd) KernelCmd.enc rfl rfl ?_
 conv => whnf
 refine liS ([([⟨(0 : Int), (1 : Int), (0 : Int), (1 : Int), ⟨(0 : Int), (0 : Int), (0 : Int), []⟩⟩] : List KernelCmd), ([] : List KernelCmd)] : List (List KernelCmd)) (eL KernelCmd.enc) rfl rfl ?_
 conv => whnf
 refine iceS 20 ?_
 conv => whnf
 refine ccS (E := E_ListWorldView_Int) h (world_Play_w ([(84 : Int), (75 : Int), (49 : Int), (1 : Int), (2 : Int), (1 : Int), (1 : Int), (1 : Int), (4 : Int), (4 : Int), (0 : Int), (0 : Int)] : List Int) ([([⟨(0 : Int), (1 : Int), (0 : Int), (1 : Int), ⟨(0 : Int), (0 : Int), (0 : Int), []⟩⟩] : List KernelCmd), ([] : List KernelCmd)] : List (List KernelCmd))) rfl rfl (fun x2 h => ?_)
 conv => whnf
 refine ccS (E := E_ListWorldView_Int) h (world_Play_w [] []) rfl rfl (fun x3 h => ?_)
 conv => whnf
 refine lenS x1.1 WorldView.enc rfl ?_
 conv => whnf
 refine fkS h (fun h => ?_) (fun h => ?_)
 ·conv => whnf
  refine fkS h (fun h => ?_) (fun h => ?_)
  ·conv => whnf
   refine lenS x2.1 WorldView.enc rfl ?_
   conv => whnf
   refine fkS h (fun h => ?_) (fun h => ?_)
   ·conv => whnf
    refine fkS h (fun h => ?_) (fun h => ?_)
    ·conv => whnf
     refine ixS (enc := WorldView.enc) h rfl (fun _ => rfl) (fun x4 h => ?_)
     conv => whnf
     refine lenS x4.Ran (eI .i64) rfl ?_
     conv => whnf
     refine fkS h (fun h => ?_) (fun h => ?_)
     ·conv => whnf
      refine ixS (enc := WorldView.enc) h rfl (fun _ => rfl) (fun x5 h => ?_)
      conv => whnf
      refine ixS (enc := (eI .i64)) h rfl (fun _ => rfl) (fun x6 h => ?_)
      conv => whnf
      refine fkS h (fun h => ?_) (fun h => ?_)
      ·conv => whnf
       refine ixS (enc := WorldView.enc) h rfl (fun _ => rfl) (fun x7 h => ?_)
       conv => whnf
       refine ixS (enc := (eI .i64)) h rfl (fun _ => rfl) (fun x8 h => ?_)
       conv => whnf
       refine fkS h (fun h => ?_) (fun h => ?_)
       ·conv => whnf
        refine ixS (enc := WorldView.enc) h rfl (fun _ => rfl) (fun x9 h => ?_)
        conv => whnf
        refine lenS x9.Saws WorldSaw.enc rfl ?_
        conv => whnf
        refine fkS h (fun h => ?_) (fun h => ?_)
        ·conv => whnf
         refine ixS (enc := WorldView.enc) h rfl (fun _ => rfl) (fun x10 h => ?_)
         conv => whnf
         refine lenS x10.Log Entry.enc rfl ?_
         conv => whnf
         refine fkS h (fun h => ?_) (fun h => ?_)
         ·conv => whnf
          exact rt (E := E_Bool) h rfl
         conv => whnf
         exact rt (E := E_Bool) h rfl
        conv => whnf
        exact rt (E := E_Bool) h rfl
       conv => whnf
       exact rt (E := E_Bool) h rfl
      conv => whnf
      exact rt (E := E_Bool) h rfl
     conv => whnf
     exact rt (E := E_Bool) h rfl
    conv => whnf
    exact rt (E := E_Bool) h rfl
   conv => whnf
   exact rt (E := E_Bool) h rfl
  conv => whnf
  exact rt (E := E_Bool) h rfl
 conv => whnf
 exact rt (E := E_Bool) h rfl
end Go.Proofs.YtldlcdnhdedoeaaGreat
namespace Go.Proofs.YtldlcdnhdedoeaaGreat
open Go Go.VC
theorem law22_knows_eq : law22_knows = some true := by kernel_rfl
end Go.Proofs.YtldlcdnhdedoeaaGreat
namespace Go.Proofs.YtldlcdnhdedoeaaGreat
open Go Go.VC
noncomputable def law22_WorldOwns (a0 : List Law21Step) (a1 : Int) : Option Bool :=
 bnd (law21_Few a0) fun x1 => fk (!x1) (bnd law22_knows fun x2 => some x2) (lp (fun nx3 (v3 : (List Law21Step) × Int) => fk (decide (v3.2 < (a0.length : Int))) (lp (fun nx4 (v4 : (List KernelCmd) × Int) => ix a0 v3.2 fun x5 => fk (decide (v4.2 < (x5.Cmds.length : Int))) (jn (fun (w6 : List KernelCmd) => nx4 (w6, (wr (v4.2 + (1 : Int))))) (fun k6 => ix a0 v3.2 fun x7 => ix x7.Cmds v4.2 fun x8 => fk (decide (x8.Kind = (2 : Int))) (ix a0 v3.2 fun x9 => ix x9.Cmds v4.2 fun x10 => ck (decide ((v4.1.length + ([x10] : List KernelCmd).length) * 80 ≤ 140737488355328)) (k6 (v4.1 ++ ([x10] : List KernelCmd)))) (k6 v4.1))) (ck (decide ((v3.1.length + ([⟨v4.1⟩] : List Law21Step).length) * 24 ≤ 140737488355328)) (nx3 (v3.1 ++ ([⟨v4.1⟩] : List Law21Step), (wr (v3.2 + (1 : Int))))))) FU ([], (0 : Int))) (bnd (law22_script a0) fun x11 => bnd (world_Own x11 a1) fun x12 => bnd (law22_kept a0 a1 false x12) fun x13 => fk x13 (bnd (law22_script a0) fun x14 => bnd (world_Sends x14) fun x15 => bnd (law22_kept v3.1 (0 : Int) true x15) fun x16 => fk x16 (bnd law22_knows fun x17 => some x17) (some false)) (some false))) FU ([], (0 : Int)))
theorem law22_WorldOwns_w (a0 : List Law21Step) (a1 : Int) (r : Bool) (h : law22_WorldOwns a0 a1 = some r) : Go.VC.Spec Tryz.prog 9 [.d (.sl (a0.map Law21Step.enc)), .d (.int .i64 a1)] (fun y => y = E_Bool r) := by
 refine Go.VC.Spec.of_xc (args := [.d (.sl (a0.map Law21Step.enc)), .d (.int .i64 a1)]) (fn := Tryz.f9) tab ⟨[(0, [0, 1]), (1, [0, 1, 11]), (2, [4]), (3, [0, 1, 5]), (4, [0, 1, 5, 6]), (5, [0, 1, 5, 6, 16]), (6, [0, 1, 5, 6]), (7, [0, 1, 5, 6, 7]), (8, [0, 1, 5, 6, 7, 8]), (9, [0, 1, 5, 6, 7, 8, 26]), (10, [0, 1, 5, 6, 7, 8]), (11, [0, 1, 5, 6, 7, 8, 38]), (12, [0, 1, 5, 6, 7, 8]), (13, [0, 1, 5, 6]), (14, [4])], [], [10], [(53, [8])]⟩ 72 [.tmp 4] rfl rfl rfl rfl rfl rfl ?_
 conv => whnf
 refine caS (E := E_Bool) h (law21_Few_w a0) rfl (fun _ => rfl) (fun x1 h => ?_)
 conv => whnf
 refine fkS h (fun h => ?_) (fun h => ?_)
 ·conv => whnf
  refine caS (E := E_Bool) h law22_knows_w rfl (fun _ => rfl) (fun x2 h => ?_)
  conv => whnf
  exact rt (E := E_Bool) h rfl
 conv => whnf
 refine lpS (fun v3 => ⟨[(0, .l (.d (.sl (a0.map Law21Step.enc)))), (1, .l (.d (.int .i64 a1))), (5, .l (.own 6)), (6, .l (.d (.int .i64 v3.2)))], 72, [], [], [(6, 108, 1, v3.1.map Law21Step.enc)]⟩) h (Weak.trans (Weak.nilO _ 5 6 108 1 rfl) (Weak.refl _)) (fun _ nx3 hn3 v3 h => ?_)
 conv => whnf
 refine lenS a0 Law21Step.enc rfl ?_
 conv => whnf
 refine fkS h (fun h => ?_) (fun h => ?_)
 ·conv => whnf
  refine lpS (fun v4 => ⟨[(0, .l (.d (.sl (a0.map Law21Step.enc)))), (1, .l (.d (.int .i64 a1))), (5, .l (.own 6)), (6, .l (.d (.int .i64 v3.2))), (7, .l (.own 8)), (8, .l (.d (.int .i64 v4.2)))], 72, [], [], [(6, 108, 1, v3.1.map Law21Step.enc), (8, 69, 8, v4.1.map KernelCmd.enc)]⟩) h (Weak.trans (Weak.nilO _ 7 8 69 8 rfl) (Weak.refl _)) (fun _ nx4 hn4 v4 h => ?_)
  conv => whnf
  refine ixS (enc := Law21Step.enc) h rfl (fun _ => rfl) (fun x5 h => ?_)
  conv => whnf
  refine lenS x5.Cmds KernelCmd.enc rfl ?_
  conv => whnf
  refine fkS h (fun h => ?_) (fun h => ?_)
  ·conv => whnf
   refine jnS (fun w6 => ⟨[(0, .l (.d (.sl (a0.map Law21Step.enc)))), (1, .l (.d (.int .i64 a1))), (5, .l (.own 6)), (6, .l (.d (.int .i64 v3.2))), (7, .l (.own 8)), (8, .l (.d (.int .i64 v4.2)))], 72, [], [], [(6, 108, 1, v3.1.map Law21Step.enc), (8, 69, 8, w6.map KernelCmd.enc)]⟩) h (fun k6 hk6 h => ?_) (fun w6 h => ?_)
   ·conv => whnf
    refine ixS (enc := Law21Step.enc) h rfl (fun _ => rfl) (fun x7 h => ?_)
    conv => whnf
    refine ixS (enc := KernelCmd.enc) h rfl (fun _ => rfl) (fun x8 h => ?_)
    conv => whnf
    refine fkS h (fun h => ?_) (fun h => ?_)
    ·conv => whnf
     refine ixS (enc := Law21Step.enc) h rfl (fun _ => rfl) (fun x9 h => ?_)
     conv => whnf
     refine ixS (enc := KernelCmd.enc) h rfl (fun _ => rfl) (fun x10 h => ?_)
     conv => whnf
     refine liS ([x10] : List KernelCmd) KernelCmd.enc rfl rfl ?_
     conv => whnf
     refine apS (enc := KernelCmd.enc) (l1 := v4.1) (l2 := ([x10] : List KernelCmd)) h rfl rfl (fun _ => rfl) (fun h => ?_)
     conv => whnf
     exact jeS hk6 h (Weak.refl _)
    conv => whnf
    refine jeX hk6 h ?_
    conv => whnf
    refine WkF.step (Weak.keepS _ [0, 1, 5, 6, 7, 8]) ?_
    conv => whnf
    exact WkF.refl _
   conv => whnf
   exact leS hn4 h (Weak.refl _)
  conv => whnf
  refine liS ([⟨v4.1⟩] : List Law21Step) Law21Step.enc rfl rfl ?_
  conv => whnf
  refine apS (enc := Law21Step.enc) (l1 := v3.1) (l2 := ([⟨v4.1⟩] : List Law21Step)) h rfl rfl (fun _ => rfl) (fun h => ?_)
  conv => whnf
  exact leS hn3 h (Weak.refl _)
 conv => whnf
 refine ccS (E := E_ListListKernelCmd) h (law22_script_w a0) rfl rfl (fun x11 h => ?_)
 conv => whnf
 refine ccS (E := E_ListListKernelCmd) h (world_Own_w x11 a1) rfl rfl (fun x12 h => ?_)
 conv => whnf
 refine caS (E := E_Bool) h (law22_kept_w a0 a1 false x12) rfl (fun _ => rfl) (fun x13 h => ?_)
 conv => whnf
 refine fkS h (fun h => ?_) (fun h => ?_)
 ·conv => whnf
  refine ccS (E := E_ListListKernelCmd) h (law22_script_w a0) rfl rfl (fun x14 h => ?_)
  conv => whnf
  refine ccS (E := E_ListListKernelCmd) h (world_Sends_w x14) rfl rfl (fun x15 h => ?_)
  conv => whnf
  refine caS (E := E_Bool) h (law22_kept_w v3.1 (0 : Int) true x15) rfl (fun _ => rfl) (fun x16 h => ?_)
  conv => whnf
  refine fkS h (fun h => ?_) (fun h => ?_)
  ·conv => whnf
   refine caS (E := E_Bool) h law22_knows_w rfl (fun _ => rfl) (fun x17 h => ?_)
   conv => whnf
   exact rt (E := E_Bool) h rfl
  conv => whnf
  exact rt (E := E_Bool) h rfl
 conv => whnf
 exact rt (E := E_Bool) h rfl
end Go.Proofs.YtldlcdnhdedoeaaGreat
namespace Go.Proofs.YtldlcdnhdedoeaaGreat
open Go Go.VC
def PureWorldOwns : Prop := ∀ (a0 : List Law21Step) (a1 : Int), (a0.length * 24 ≤ BB ∧ ∀ y1 ∈ a0, Law21Step.wf y1) → wfI .i64 a1 → law22_WorldOwns a0 a1 = some true
end Go.Proofs.YtldlcdnhdedoeaaGreat
namespace Go.Proofs.YtldlcdnhdedoeaaGreat
open Go Go.VC
theorem sent_lp {R : Type} (l : List Law21Step) (hl : l.length ≤ 1000000000) (hc : ∀ x ∈ l, x.Cmds.length ≤ 1000000000) {Z : List Law21Step → Option R} {r : R} (hZ : Z (l.map fun x => ⟨x.Cmds.filter fun c => decide (c.Kind = 2)⟩) = some r) :
  lp (fun nx3 (v3 : (List Law21Step) × Int) => fk (decide (v3.2 < (l.length : Int))) (lp (fun nx4 (v4 : (List KernelCmd) × Int) => ix l v3.2 fun x5 => fk (decide (v4.2 < (x5.Cmds.length : Int))) (jn (fun (w6 : List KernelCmd) => nx4 (w6, (wr (v4.2 + (1 : Int))))) (fun k6 => ix l v3.2 fun x7 => ix x7.Cmds v4.2 fun x8 => fk (decide (x8.Kind = (2 : Int))) (ix l v3.2 fun x9 => ix x9.Cmds v4.2 fun x10 => ck (decide ((v4.1.length + ([x10] : List KernelCmd).length) * 80 ≤ 140737488355328)) (k6 (v4.1 ++ ([x10] : List KernelCmd)))) (k6 v4.1))) (ck (decide ((v3.1.length + ([⟨v4.1⟩] : List Law21Step).length) * 24 ≤ 140737488355328)) (nx3 (v3.1 ++ ([⟨v4.1⟩] : List Law21Step), (wr (v3.2 + (1 : Int))))))) FU ([], (0 : Int))) (Z v3.1)) FU ([], (0 : Int)) = some r := by
 refine lp_upS l.length (by unfold FU; omega) (fun k o => o = (l.take k).map fun x => (⟨x.Cmds.filter fun c => decide (c.Kind = 2)⟩ : Law21Step)) [] rfl ?_
 rintro nx i o hi rfl hnx
 have hi9 : i ≤ 1000000000 := by omega
 simp only
 rw [lt_nat]
 by_cases h : i < l.length
 rotate_left
 ·rw [decide_eq_false h, fk_f]
  have e : i = l.length := by omega
  rw [e, List.take_length]; exact hZ
 rw [decide_eq_true h, fk_t]
 have hx := hc _ (List.getElem_mem h)
 have hA : ∀ {β : Type} (f : Law21Step → Option β), ix l (i : Int) f = f l[i] := fun f => ix_lt h
 have hm := map_take_succ (fun x : Law21Step => (⟨x.Cmds.filter fun c => decide (c.Kind = 2)⟩ : Law21Step)) l i h
 refine lp_upS l[i].Cmds.length (by unfold FU; omega) (fun k o => o = (l[i].Cmds.take k).filter fun c => decide (c.Kind = 2)) [] rfl ?_
 rintro nx4 k o hk rfl hnx4
 have hk9 : k ≤ 1000000000 := by omega
 simp only [hA]
 rw [lt_nat]
 by_cases hlt : k < l[i].Cmds.length
 ·rw [decide_eq_true hlt, fk_t, jn_eq, ix_lt hlt, wr_succ k _ hlt (by omega), ix_lt hlt]
  have hs := flt_succ (fun c : KernelCmd => decide (c.Kind = 2)) l[i].Cmds k hlt
  by_cases hq : l[i].Cmds[k].Kind = 2
  ·rw [decide_eq_true hq, fk_t, ck_le 80 (by decide) (Nat.le_trans (flt_len _ _ _) hk9)]
   refine hnx4 _ hlt ?_
   rw [hs, if_pos (decide_eq_true hq)]
  ·rw [decide_eq_false hq, fk_f]
   refine hnx4 _ hlt ?_
   rw [hs, if_neg (by simpa using hq), List.append_nil]
 ·rw [decide_eq_false hlt, fk_f]
  have e : k = l[i].Cmds.length := by omega
  rw [e, List.take_length, ck_le 24 (by decide) (Nat.le_trans (map_take_len _ _ _) hi9), wr_succ i _ h (by omega)]
  exact hnx _ h hm.symm
theorem proofWorldOwns : PureWorldOwns := by
 intro l p hl hp
 have hll : l.length ≤ 4611686018427387904 := by have := hl.1; unfold BB at this; omega
 have hcc : ∀ x ∈ l, x.Cmds.length ≤ 4611686018427387904 := fun x hx => by have := (hl.2 x hx).1; unfold BB at this; omega
 have htt : ∀ x ∈ l, ∀ c ∈ x.Cmds, c.T.Secs.length ≤ 4611686018427387904 := fun x hx c hc => ((hl.2 x hx).2 c hc).2.2.2.2.len
 obtain ⟨b, hb, hbb⟩ := few_ex l hll hcc
 unfold law22_WorldOwns
 rw [bnd_eq hb]
 cases b with
 | false => rw [Bool.not_false, fk_t, bnd_eq law22_knows_eq]
 | true =>
 obtain ⟨h100, h10⟩ := hbb rfl
 rw [Bool.not_true, fk_f]
 have hl9 : l.length ≤ 1000000000 := by omega
 have hc9 : ∀ x ∈ l, x.Cmds.length ≤ 1000000000 := fun x hx => by have := h10 x hx; omega
 refine sent_lp l hl9 hc9 (Z := fun sent => bnd (law22_script l) fun x11 => bnd (world_Own x11 p) fun x12 => bnd (law22_kept l p false x12) fun x13 => fk x13 (bnd (law22_script l) fun x14 => bnd (world_Sends x14) fun x15 => bnd (law22_kept sent (0 : Int) true x15) fun x16 => fk x16 (bnd law22_knows fun x17 => some x17) (some false)) (some false)) ?_
 have hs := law22_script_eq l hl9
 have hcm : ∀ x ∈ l.map (·.Cmds), x.length ≤ 1000000000 := fun x hx => by obtain ⟨y, hy, rfl⟩ := List.mem_map.1 hx; exact hc9 y hy
 have hlm : (l.map (·.Cmds)).length ≤ 1000000000 := by rw [List.length_map]; exact hl9
 simp only [hs, bnd_some]
 rw [bnd_eq (world_Own_eq _ p hlm hcm)]
 have e1 : ownL p (l.map (·.Cmds)) = l.map fun x => x.Cmds.filter (keepQ p false) := by
  unfold ownL
  rw [List.map_map]
  refine List.map_congr_left fun x _ => ?_
  show x.Cmds.filter _ = _
  refine List.filter_congr fun c _ => ?_
  unfold keepQ keepC
  by_cases h : c.Part = p
  ·rw [if_pos h]; exact decide_eq_true h
  ·rw [if_neg h, if_neg Bool.false_ne_true]; exact decide_eq_false h
 rw [e1, bnd_eq (law22_kept_eq l p false hl9 hc9 htt), fk_t, bnd_eq (world_Sends_eq _ hlm hcm)]
 have e2 : sendL (l.map (·.Cmds)) = (l.map fun x => (⟨x.Cmds.filter fun c => decide (c.Kind = 2)⟩ : Law21Step)).map fun x => x.Cmds.filter (keepQ 0 true) := by
  unfold sendL
  rw [List.map_map, List.map_map]
  refine List.map_congr_left fun x _ => ?_
  show x.Cmds.filter _ = (x.Cmds.filter _).filter _
  rw [List.filter_filter]
  refine List.filter_congr fun c _ => ?_
  unfold keepQ keepC
  by_cases h : c.Kind = 2
  ·simp [h]
  ·simp [h]
 rw [e2, bnd_eq (law22_kept_eq _ 0 true (by rw [List.length_map]; exact hl9) (fun x hx => by
  obtain ⟨y, hy, rfl⟩ := List.mem_map.1 hx
  exact Nat.le_trans (List.length_filter_le _ _) (hc9 y hy)) (fun x hx c hc => by
  obtain ⟨y, hy, rfl⟩ := List.mem_map.1 hx
  exact htt y hy c (List.mem_filter.1 hc).1)), fk_t, bnd_eq law22_knows_eq]
end Go.Proofs.YtldlcdnhdedoeaaGreat
namespace Go.Proofs.YtldlcdnhdedoeaaGreat.worldOwns
open Go Go.VC Go.ChangeShapes Go.WideShapes Go.ChangeAt Go.RowKit
theorem own : ownKnob Tryz.prog.godebug = none := by kernel_rfl
theorem laidOut : laidOutB Tryz.prog = true := by kernel_rfl
theorem lifted (os : Os) (started : os.Started) (H : Type) (enc : TypeId × Value → H) :
  ReturnsInHanded {} Tryz.checked os 9 .any (Rows.worldOwnsSpec.pre6 enc Tryz.prog Tryz.f9 Rows.worldOwnsRow.domain false) (Rows.worldOwnsSpec.post enc Tryz.prog Tryz.f9 false true false false) := by
 refine returnsInHanded_of_change_sized (C := Tryz.checked) own started (by kernel_rfl) Tryz.func9
  (ChangeSpec.witness6 (enc := enc) (C := Tryz.checked) false ⟨#[], #[.slice none 0 0, .int .i64 0], []⟩ 8 (by kernel_rfl) (by kernel_rfl) (by kernel_rfl) (by kernel_rfl)) ?_
 intro W base args ds gs before hval0 hW hcnd hsz0 _
 have hsz : (DataW.weightsEach Tryz.prog (Tryz.f9.params.toList ++ Rows.worldOwnsSpec.plain.varTypes Tryz.prog) (ds ++ gs)).all (· ≤ reachBytes) = true := hsz0
 have hval : ∀ (j : Nat) t v, Tryz.f9.params[j]? = some t → args[j]? = some v → Value.okWide Tryz.prog W .any base t v := hval0
 have hW' := hW
 obtain ⟨p, q, hA0, hV, rfl, hfz, hnd⟩ := hW
 have hA : DataW.TrodAll enc Tryz.prog W 0 (fun _ => true) true Tryz.f9.params.toList args.toList ds p := hA0
 rw [Tryz.params9] at hA hval hsz
 obtain ⟨v0, vs0, d0, ds0, p0, q0, hargs, rfl, rfl, h0, r0⟩ := trodAll_cons hA
 obtain ⟨v1, vs1, d1, ds1, p1, q1, rfl, rfl, rfl, h1, r1⟩ := trodAll_cons r0
 obtain ⟨rfl, rfl, rfl⟩ := trodAll_nil r1
 obtain rfl : args = #[v0, v1] := by cases args; simp_all
 obtain ⟨rfl, rfl⟩ := trodVars_none hV
 have lt0 : ∀ x ∈ p0, x.block < W.heap.size := by obtain ⟨m, hm⟩ := h0; exact DataW.trod_lt m _ _ _ hm
 have wt0 : ∀ k ∈ d0.weights Tryz.prog 64, k ≤ BB := fun k hk => of_decide_eq_true (List.all_eq_true.1 hsz _ (DataW.weights_mem_each (j := 0) rfl rfl k hk))
 obtain ⟨c0, s0, g0⟩ := open_cv tab (m := 8) (t := 64) rfl (hval 0 64 v0 rfl rfl) h0 wt0
 have g0 := g0 _ T64
 obtain ⟨a0, rfl, w0⟩ := (s0.l (f := Law21Step.enc) (W := (fun x => Law21Step.wf x)) T64 T108 (fun _ _ h => (Law21Step.of h)))
 have lt1 : ∀ x ∈ p1, x.block < W.heap.size := by obtain ⟨m, hm⟩ := h1; exact DataW.trod_lt m _ _ _ hm
 have wt1 : ∀ k ∈ d1.weights Tryz.prog 3, k ≤ BB := fun k hk => of_decide_eq_true (List.all_eq_true.1 hsz _ (DataW.weights_mem_each (j := 1) rfl rfl k hk))
 obtain ⟨c1, s1, g1⟩ := open_cv tab (m := 8) (t := 3) rfl (hval 1 3 v1 rfl rfl) h1 wt1
 have g1 := g1 _ T3
 obtain ⟨a1, rfl, w1⟩ := (s1.i T3)
 clear hA0 hval0 hsz0 hsz
 have pure := proofWorldOwns a0 a1 w0 w1
 refine ((law22_WorldOwns_w a0 a1 true pure).2 W (pw W) [v0, v1] (fun _ h => h) (All2.cons g0 (All2.cons g1 All2.nil))).mono fun e W' ⟨v, rs, p', he, hR, hrep, bel, _⟩ => ?_
 subst hR he
 obtain rfl := RepD_bool hrep
 exact ⟨_, rfl, _, _, _, [], _, [], hW', trodAll_mk1 (shut_bool Tryz.underlying4 _), (trodAll_cons_mk (Below.trod laidOut (by kernel_rfl) (of_decide_eq_true (by kernel_rfl)) h0 bel lt0) (trodAll_cons_mk (Below.trod laidOut (by kernel_rfl) (of_decide_eq_true (by kernel_rfl)) h1 bel lt1) trodAll_mk0)), rfl, bel.frame _, fun h => by cases h⟩
theorem over : Rows.worldOwnsRow.holds Tryz.pinned (OpenSpec.ofChange Rows.worldOwnsSpec) :=
 OpenClaim.holds_of_wide 9 Tryz.f9 rfl rfl rfl rfl rfl rfl rfl ⟨rfl, rfl, rfl, rfl, rfl⟩ rfl rfl rfl rfl rfl (by kernel_rfl) Tryz.func9 (by kernel_rfl)
  (of_decide_eq_true (by kernel_rfl)) (by unfold Func.isWrapper; first | (rw [if_pos (by decide +kernel)]; kernel_rfl) | (rw [if_neg (by decide +kernel)]; exact ⟨rfl, rfl⟩))
  (fun os started H enc _ => lifted os started H enc)
end Go.Proofs.YtldlcdnhdedoeaaGreat.worldOwns
namespace Go.Proofs.YtldlcdnhdedoeaaGreat
theorem worldOwns_holds : Rows.WorldOwnsSaid := worldOwns.over
end Go.Proofs.YtldlcdnhdedoeaaGreat
