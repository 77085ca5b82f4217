/- Part 19 of what follows is proved here: what the statement KernelBoots needs of functions and plain laws. -/
import Derived.Test.YtldlcdnhdedoeaaGreatXKernelBoots6
import Derived.Test.YtldlcdnhdedoeaaGreatXKernelBoots7
set_option linter.unusedVariables false
set_option linter.unusedSimpArgs false
set_option maxRecDepth 100000
set_option maxHeartbeats 4000000
namespace Go.Proofs.YtldlcdnhdedoeaaGreat
open Go Go.VC
noncomputable def port_Deliver (a0 : List PortLine) : Option (List PortLine) :=
  bnd (port_Right a0) fun x1 => fk (!x1) (some a0) (lp (fun nx2 (v2 : (List PortLine) × Int) => fk (decide (v2.2 < (a0.length : Int))) (ix a0 v2.2 fun x3 => lp (fun nx4 (v4 : (List Int) × Int × Int × (List Int) × Int × Int × Int) => fk (decide (v4.2.2.2.2.2.2 < x3.Under.Many)) (bnd (ring_Pop ⟨v4.1, v4.2.1, v4.2.2.1⟩) fun x5 => bnd (ring_Put ⟨v4.2.2.2.1, v4.2.2.2.2.1, v4.2.2.2.2.2.1⟩ x5.1) fun x6 => nx4 (x5.2.1.Buf, x5.2.1.First, x5.2.1.Many, x6.Buf, x6.First, x6.Many, (wr (v4.2.2.2.2.2.2 + (1 : Int))))) (bnd (port_with v2.1 v2.2 (⟨x3.Port, ⟨v4.1, v4.2.1, v4.2.2.1⟩, ⟨v4.2.2.2.1, v4.2.2.2.2.1, v4.2.2.2.2.2.1⟩⟩)) fun x7 => nx2 (x7, (wr (v2.2 + (1 : Int)))))) FU (x3.Under.Buf, x3.Under.First, x3.Under.Many, x3.Got.Buf, x3.Got.First, x3.Got.Many, (0 : Int))) (some v2.1)) FU (a0, (0 : Int)))
theorem port_Deliver_w (a0 : List PortLine) (r : List PortLine) (h : port_Deliver a0 = some r) : Go.VC.Spec Tryz.prog 37 [.d (.sl (a0.map PortLine.enc))] (fun y => y = E_ListPortLine r) := by
  refine Go.VC.Spec.of_xc (args := [.d (.sl (a0.map PortLine.enc))]) (fn := Tryz.f37) tab ⟨[(0, [0]), (1, [0, 11]), (2, [2]), (3, [0, 3]), (4, [3, 14, 15, 16]), (5, [3, 14, 15, 16, 17]), (6, [3, 4, 5, 14, 15, 16]), (7, [3, 4, 5, 14, 15, 16, 23, 24]), (8, [3, 4, 5, 14, 15, 16, 23, 24, 25]), (9, [3, 4, 5, 6, 7, 14, 15, 16, 23, 24]), (10, [3, 4, 5, 14, 15, 16, 23, 24]), (11, [3, 4, 5, 14, 15, 16, 23, 24]), (12, [3, 14, 15, 16]), (13, [3, 14, 15, 16]), (14, [2])], [], [], []⟩ 47 [.tmp 2] rfl rfl rfl rfl rfl rfl ?_
  conv => whnf
  refine caS (E := E_Bool) h (port_Right_w a0) rfl (fun _ => rfl) (fun x1 h => ?_)
  conv => whnf
  refine fkS h (fun h => ?_) (fun h => ?_)
  · conv => whnf
    exact rt (E := E_ListPortLine) h rfl
  conv => whnf
  refine lenS a0 PortLine.enc rfl ?_
  conv => whnf
  refine lpS (fun v2 => ⟨[(3, .l (.d (.sl (v2.1.map PortLine.enc)))), (14, .l (.d (.sl (a0.map PortLine.enc)))), (15, .l (.d (.int .i64 (a0.length : Int)))), (16, .l (.d (.int .i64 v2.2)))], 47, [], [], []⟩) h (Weak.refl _) (fun _ nx2 hn2 v2 h => ?_)
  conv => whnf
  refine fkS h (fun h => ?_) (fun h => ?_)
  · conv => whnf
    refine ixS (enc := PortLine.enc) h rfl (fun _ => rfl) (fun x3 h => ?_)
    conv => whnf
    refine lpS (fun v4 => ⟨[(3, .l (.d (.sl (v2.1.map PortLine.enc)))), (4, .l (.d (.int .i64 v2.2))), (5, .l (.ptr 6 0)), (14, .l (.d (.sl (a0.map PortLine.enc)))), (15, .l (.d (.int .i64 (a0.length : Int)))), (16, .l (.d (.int .i64 v2.2))), (23, .l (.d (.int .i64 x3.Under.Many))), (24, .l (.d (.int .i64 v4.2.2.2.2.2.2)))], 47, [], [(6, [.d (.int .i64 x3.Port.From), .d (.int .i64 x3.Port.To), .d (.int .i64 x3.Port.Cap), .d (.sl (v4.1.map (eI .i64))), .d (.int .i64 v4.2.1), .d (.int .i64 v4.2.2.1), .d (.sl (v4.2.2.2.1.map (eI .i64))), .d (.int .i64 v4.2.2.2.2.1), .d (.int .i64 v4.2.2.2.2.2.1)])], []⟩) h (Weak.refl _) (fun _ nx4 hn4 v4 h => ?_)
    conv => whnf
    refine fkS h (fun h => ?_) (fun h => ?_)
    · conv => whnf
      refine ccS (E := E_Int_RingRing_Int) h (ring_Pop_w ⟨v4.1, v4.2.1, v4.2.2.1⟩) rfl rfl (fun x5 h => ?_)
      conv => whnf
      refine ⟨6, ?_⟩
      conv => whnf
      refine dcS (E := E_RingRing) h (ring_Put_w ⟨v4.2.2.2.1, v4.2.2.2.2.1, v4.2.2.2.2.2.1⟩ x5.1) rfl (fun x6 h => ?_)
      conv => whnf
      refine drS (by kernel_rfl) ?_
      conv => whnf
      exact leS hn4 h (Weak.refl _)
    conv => whnf
    refine ccS (E := E_ListPortLine) h (port_with_w v2.1 v2.2 (⟨x3.Port, ⟨v4.1, v4.2.1, v4.2.2.1⟩, ⟨v4.2.2.2.1, v4.2.2.2.2.1, v4.2.2.2.2.2.1⟩⟩)) rfl rfl (fun x7 h => ?_)
    conv => whnf
    exact leS hn2 h (Weak.refl _)
  conv => whnf
  exact rt (E := E_ListPortLine) h rfl

end Go.Proofs.YtldlcdnhdedoeaaGreat
namespace Go.Proofs.YtldlcdnhdedoeaaGreat
open Go Go.VC
/-! Lines. -/
def portP (p : Port) : Prop := 0 ≤ p.From ∧ p.From < 4 ∧ 0 ≤ p.To ∧ p.To < 4 ∧ p.From ≠ p.To ∧ 1 ≤ p.Cap ∧ p.Cap ≤ 4
instance (p : Port) : Decidable (portP p) := by unfold portP; infer_instance
def lineP (x : PortLine) : Prop := portP x.Port ∧ ringP x.Under ∧ ringP x.Got ∧ (x.Under.Buf.length : Int) = x.Port.Cap ∧ (x.Got.Buf.length : Int) = x.Port.Cap
def linesP (l : List PortLine) : Prop := (∀ x ∈ l, lineP x) ∧ l.length ≤ 4
theorem port_may_1_eq (x : Int) : port_may_1 x = some (decide (0 ≤ x ∧ x < 4)) := by
  unfold port_may_1
  by_cases h : 0 ≤ x
  · rw [decide_eq_true (by omega), fk_t]; exact dec_iff ⟨fun a => ⟨h, a⟩, fun a => a.2⟩
  · rw [decide_eq_false (by omega), fk_f]; exact dec_f fun a => h a.1
theorem port_may_eq (p : Port) : port_may p = some (decide (portP p)) := by
  unfold port_may portP
  rw [bnd_eq (port_may_1_eq p.From)]
  by_cases h1 : 0 ≤ p.From ∧ p.From < 4
  rotate_left
  · rw [decide_eq_false h1, fk_f]; exact dec_f fun a => h1 ⟨a.1, a.2.1⟩
  rw [decide_eq_true h1, fk_t, bnd_eq (port_may_1_eq p.To)]
  by_cases h2 : 0 ≤ p.To ∧ p.To < 4
  rotate_left
  · rw [decide_eq_false h2, fk_f]; exact dec_f fun a => h2 ⟨a.2.2.1, a.2.2.2.1⟩
  rw [decide_eq_true h2, fk_t]
  by_cases h3 : p.From = p.To
  · rw [decide_eq_true h3, Bool.not_true, fk_f]; exact dec_f fun a => a.2.2.2.2.1 h3
  rw [decide_eq_false h3, Bool.not_false, fk_t]
  by_cases h4 : p.Cap ≥ 1
  · rw [decide_eq_true h4, fk_t]; exact dec_iff ⟨fun a => ⟨h1.1, h1.2, h2.1, h2.2, h3, h4, a⟩, fun a => a.2.2.2.2.2.2⟩
  · rw [decide_eq_false h4, fk_f]; exact dec_f fun a => h4 a.2.2.2.2.2.1
theorem port_Right_t {l : List PortLine} (h : linesP l) : port_Right l = some true := by
  unfold port_Right
  refine lp_up l.length (by unfold FU; have := h.2; omega) (fun _ => True) trivial ?_
  intro nx k hk _ hnx
  rw [lt_nat]
  by_cases c : k < l.length
  rotate_left
  · rw [decide_eq_false c, fk_f, decide_eq_true (by have := h.2; omega)]
  obtain ⟨h1, h2, h3, h4, h5⟩ := h.1 _ (List.getElem_mem c)
  rw [decide_eq_true c, fk_t, ix_lt c, wr_succ k _ c (by have := h.2; omega)]
  refine jn_to false (fun k3 => ?_) (by rw [fk_f]; exact hnx c trivial)
  rw [bnd_eq (port_may_eq _), decide_eq_true h1, Bool.not_true, fk_f, bnd_eq (ring_Right_t h2), Bool.not_true, fk_f, bnd_eq (ring_Right_t h3), Bool.not_true, fk_f, decide_eq_true h4, Bool.not_true, fk_f, decide_eq_true h5]
  rfl
def newL (p : Port) : PortLine := ⟨p, ⟨List.replicate p.Cap.toNat 0, 0, 0⟩, ⟨List.replicate p.Cap.toNat 0, 0, 0⟩⟩
theorem newL_ok {p : Port} (h : portP p) : lineP (newL p) ∧ cont (newL p).Under = [] ∧ cont (newL p).Got = [] := by
  have h6 := h.2.2.2.2.2.1
  have h7 := h.2.2.2.2.2.2
  have hr := ringP_new h6 h7
  refine ⟨⟨h, hr.1, hr.1, ?_, ?_⟩, hr.2, hr.2⟩ <;> (unfold newL; simp; omega)
theorem port_Open_eq (ps : List Port) (hl : ps.length ≤ 1000) : port_Open ps = some (if (∀ p ∈ ps, portP p) ∧ ps.length ≤ 4 then (ps.map newL, 0) else ([], 1)) := by
  unfold port_Open
  refine lp_upS ps.length (by unfold FU; omega) (fun k s => s = (ps.take k).map newL ∧ ∀ p ∈ ps.take k, portP p) [] ⟨rfl, fun p h => (List.not_mem_nil h).elim⟩ ?_
  rintro nx k s hk ⟨rfl, hp⟩ hnx
  dsimp only
  have hlen : ((ps.take k).map newL).length = k := by simp; omega
  rw [lt_nat, hlen]
  by_cases c : k < ps.length
  rotate_left
  · have e : k = ps.length := by omega
    subst e
    rw [List.take_length] at hp ⊢
    rw [decide_eq_false c, fk_f]
    by_cases h4 : ps.length ≤ 4
    · rw [decide_eq_false (by omega), fk_f, if_pos ⟨hp, h4⟩]
    · rw [decide_eq_true (by omega), fk_t, if_neg (fun h => h4 h.2)]
  rw [decide_eq_true c, fk_t, ix_lt c, bnd_eq (port_may_eq _)]
  by_cases hm : portP ps[k]
  rotate_left
  · rw [decide_eq_false hm, Bool.not_false, fk_t, if_neg (fun h => hm (h.1 _ (List.getElem_mem c)))]
  have hcap := hm.2.2.2.2.2
  rw [decide_eq_true hm, Bool.not_true, fk_f, bnd_eq (ring_New_eq _ hcap.1 hcap.2), bnd_eq (ring_New_eq _ hcap.1 hcap.2), ck_t (by simp; omega), wr_succ k _ c (by omega)]
  refine hnx _ c ⟨?_, fun p hp' => ?_⟩
  · rw [← List.take_append_getElem c, List.map_append]; rfl
  · rw [← List.take_append_getElem c] at hp'
    rcases List.mem_append.1 hp' with h | h
    · exact hp p h
    · rw [List.mem_singleton.1 h]; exact hm
theorem linesP_new {ps : List Port} (h : ∀ p ∈ ps, portP p) (h4 : ps.length ≤ 4) : linesP (ps.map newL) := ⟨fun x hx => by
  obtain ⟨p, hp, rfl⟩ := List.mem_map.1 hx
  exact (newL_ok (h p hp)).1, by rw [List.length_map]; exact h4⟩
theorem linesP_set {l : List PortLine} (h : linesP l) {i : Nat} {x : PortLine} (hx : lineP x) : linesP (l.set i x) := ⟨fun y hy => by
  rcases List.mem_or_eq_of_mem_set hy with h' | rfl
  · exact h.1 y h'
  · exact hx, by rw [List.length_set]; exact h.2⟩
def sendV (l : List PortLine) (f i v : Int) : List PortLine × Int :=
  if 0 ≤ i ∧ i < (l.length : Int) then (match l[i.toNat]? with | some x => if x.Port.From = f then (if x.Under.Many = (x.Under.Buf.length : Int) then (l, 3) else (l.set i.toNat ⟨x.Port, pushV x.Under v, x.Got⟩, 0)) else (l, 7) | none => (l, 4)) else (l, 4)
theorem sendV_ok {l : List PortLine} {f i v : Int} (h : linesP l) : linesP (sendV l f i v).1 ∧ (sendV l f i v).1.length = l.length := by
  unfold sendV
  split
  · split
    · rename_i x hx
      obtain ⟨h1, h2, h3, h4, h5⟩ := h.1 x (List.mem_of_getElem? hx)
      split
      · split
        · exact ⟨h, rfl⟩
        · rename_i c
          obtain ⟨p1, p2, p3⟩ := pushV_ok (v := v) h2 c
          exact ⟨linesP_set h ⟨h1, p1, h3, by rw [p2]; exact h4, h5⟩, List.length_set⟩
      · exact ⟨h, rfl⟩
    · exact ⟨h, rfl⟩
  · exact ⟨h, rfl⟩
def readV (l : List PortLine) (f i : Int) : Int × List PortLine × Int :=
  if 0 ≤ i ∧ i < (l.length : Int) then (match l[i.toNat]? with | some x => if x.Port.To = f then (if x.Got.Many = 0 then (0, l, 4) else (rAt x.Got 0, l.set i.toNat ⟨x.Port, x.Under, popV x.Got⟩, 0)) else (0, l, 7) | none => (0, l, 4)) else (0, l, 4)
theorem readV_ok {l : List PortLine} {f i : Int} (h : linesP l) : linesP (readV l f i).2.1 ∧ (readV l f i).2.1.length = l.length := by
  unfold readV
  split
  · split
    · rename_i x hx
      obtain ⟨h1, h2, h3, h4, h5⟩ := h.1 x (List.mem_of_getElem? hx)
      split
      · split
        · exact ⟨h, rfl⟩
        · rename_i c
          obtain ⟨p1, p2, _⟩ := popV_ok h3 c
          exact ⟨linesP_set h ⟨h1, h2, p1, h4, by rw [p2]; exact h5⟩, List.length_set⟩
      · exact ⟨h, rfl⟩
    · exact ⟨h, rfl⟩
  · exact ⟨h, rfl⟩
/-- What a line is when what is under way was delivered. -/
def gone (x y : PortLine) : Prop := y.Port = x.Port ∧ cont y.Under = [] ∧ (cont x.Got = [] → cont y.Got = cont x.Under)
end Go.Proofs.YtldlcdnhdedoeaaGreat
namespace Go.Proofs.YtldlcdnhdedoeaaGreat
open Go Go.VC
noncomputable def table_may (a0 : Window) (a1 : Int) : Option Bool :=
  fk (decide (a0.Part ≥ (0 : Int))) (fk (decide (a0.Part < (4 : Int))) (fk (decide (a0.From ≥ (0 : Int))) (fk (decide (a0.From < a1)) (fk (decide (a0.Len ≥ (1 : Int))) (some (decide (a0.Len ≤ (wr (a1 - a0.From))))) (some false)) (some false)) (some false)) (some false)) (some false)
theorem table_may_w (a0 : Window) (a1 : Int) (r : Bool) (h : table_may a0 a1 = some r) : Go.VC.Spec Tryz.prog 122 [.agg (Window.enc a0), .d (.int .i64 a1)] (fun y => y = E_Bool r) := by
  refine Go.VC.Spec.of_xc (args := [.agg (Window.enc a0), .d (.int .i64 a1)]) (fn := Tryz.f122) tab ⟨[(0, [1, 2]), (1, [4])], [], [], []⟩ 38 [.tmp 4] rfl rfl rfl rfl rfl rfl ?_
  conv => whnf
  refine fkS h (fun h => ?_) (fun h => ?_)
  · conv => whnf
    refine fkS h (fun h => ?_) (fun h => ?_)
    · conv => whnf
      refine fkS h (fun h => ?_) (fun h => ?_)
      · conv => whnf
        refine fkS h (fun h => ?_) (fun h => ?_)
        · conv => whnf
          refine fkS h (fun h => ?_) (fun h => ?_)
          · conv => whnf
            exact rt (E := E_Bool) h rfl
          conv => whnf
          exact rt (E := E_Bool) h rfl
        conv => whnf
        exact rt (E := E_Bool) h rfl
      conv => whnf
      exact rt (E := E_Bool) h rfl
    conv => whnf
    exact rt (E := E_Bool) h rfl
  conv => whnf
  exact rt (E := E_Bool) h rfl

end Go.Proofs.YtldlcdnhdedoeaaGreat
namespace Go.Proofs.YtldlcdnhdedoeaaGreat
open Go Go.VC
noncomputable def table_Right (a0 : TableTable) : Option Bool :=
  lp (fun nx1 (v1 : Int × Int × Int) => fk (decide (v1.2.2 < (a0.Windows.length : Int))) (ix a0.Windows v1.2.2 fun x2 => jn (fun (w3 : Bool) => fk w3 (some false) (nx1 ((wr (x2.From + x2.Len)), x2.Part, (wr (v1.2.2 + (1 : Int)))))) (fun k3 => bnd (table_may x2 a0.Frame) fun x4 => fk (!x4) (k3 true) (fk (decide (x2.From < v1.1)) (k3 true) (fk (decide (x2.From = v1.1)) (k3 (decide (x2.Part = v1.2.1))) (k3 false))))) (fk (decide (a0.Frame ≥ (1 : Int))) (some (decide (a0.Frame ≤ (240 : Int)))) (some false))) FU ((0 : Int), (-1 : Int), (0 : Int))
theorem table_Right_w (a0 : TableTable) (r : Bool) (h : table_Right a0 = some r) : Go.VC.Spec Tryz.prog 62 [.agg (TableTable.enc a0)] (fun y => y = E_Bool r) := by
  refine Go.VC.Spec.of_xc (args := [.agg (TableTable.enc a0)]) (fn := Tryz.f62) tab ⟨[(0, [1]), (1, [1, 3, 4]), (2, [1, 3, 4, 8, 9, 10]), (3, [1, 3, 4, 8, 9, 10, 11]), (4, [1, 3, 4, 6, 8, 9, 10]), (5, [1, 6, 8, 9, 10, 36]), (6, [2]), (7, [1, 3, 4, 8, 9, 10]), (8, [1, 3, 4, 8, 9, 10]), (9, [2])], [], [100036], []⟩ 53 [.tmp 2] rfl rfl rfl rfl rfl rfl ?_
  conv => whnf
  refine lenS a0.Windows Window.enc rfl ?_
  conv => whnf
  refine lpS (fun v1 => ⟨[(1, .l (.ptr 2 0)), (3, .l (.d (.int .i64 v1.1))), (4, .l (.d (.int .i64 v1.2.1))), (8, .l (.d (.sl (a0.Windows.map Window.enc)))), (9, .l (.d (.int .i64 (a0.Windows.length : Int)))), (10, .l (.d (.int .i64 v1.2.2)))], 53, [], [(2, [.d (.int .i64 a0.Frame), .d (.sl (a0.Windows.map Window.enc))])], []⟩) h (Weak.refl _) (fun _ nx1 hn1 v1 h => ?_)
  conv => whnf
  refine fkS h (fun h => ?_) (fun h => ?_)
  · conv => whnf
    refine ixS (enc := Window.enc) h rfl (fun _ => rfl) (fun x2 h => ?_)
    conv => whnf
    refine jnS (fun w3 => ⟨[(1, .l (.ptr 2 0)), (6, .l (.ptr 7 0)), (8, .l (.d (.sl (a0.Windows.map Window.enc)))), (9, .l (.d (.int .i64 (a0.Windows.length : Int)))), (10, .l (.d (.int .i64 v1.2.2))), (36, .l (.d (.bool w3)))], 53, [], [(2, [.d (.int .i64 a0.Frame), .d (.sl (a0.Windows.map Window.enc))]), (7, [.d (.int .i64 x2.Part), .d (.int .i64 x2.From), .d (.int .i64 x2.Len)])], []⟩) h (fun k3 hk3 h => ?_) (fun w3 h => ?_)
    · conv => whnf
      refine caS (E := E_Bool) h (table_may_w x2 a0.Frame) rfl (fun _ => rfl) (fun x4 h => ?_)
      conv => whnf
      refine fkS h (fun h => ?_) (fun h => ?_)
      · conv => whnf
        exact jeS hk3 h (Weak.refl _)
      conv => whnf
      refine fkS h (fun h => ?_) (fun h => ?_)
      · conv => whnf
        exact jeS hk3 h (Weak.refl _)
      conv => whnf
      refine fkS h (fun h => ?_) (fun h => ?_)
      · conv => whnf
        exact jeS hk3 h (Weak.refl _)
      conv => whnf
      exact jeS hk3 h (Weak.refl _)
    conv => whnf
    refine fkS h (fun h => ?_) (fun h => ?_)
    · conv => whnf
      exact rt (E := E_Bool) h rfl
    conv => whnf
    refine ⟨8, ?_⟩
    conv => whnf
    refine drS (by kernel_rfl) ?_
    conv => whnf
    exact leS hn1 h (Weak.refl _)
  conv => whnf
  refine fkS h (fun h => ?_) (fun h => ?_)
  · conv => whnf
    exact rt (E := E_Bool) h rfl
  conv => whnf
  exact rt (E := E_Bool) h rfl

end Go.Proofs.YtldlcdnhdedoeaaGreat
namespace Go.Proofs.YtldlcdnhdedoeaaGreat
open Go Go.VC
noncomputable def table_At (a0 : TableTable) (a1 : Int) : Option Int :=
  jn (fun (w1 : Bool) => fk w1 (some (-1 : Int)) (ck (decide (a0.Frame ≠ 0)) (lp (fun nx3 (v3 : Int) => fk (decide (v3 < (a0.Windows.length : Int))) (ix a0.Windows v3 fun x4 => jn (fun (w5 : Bool) => fk w5 (some x4.Part) (nx3 (wr (v3 + (1 : Int))))) (fun k5 => fk (decide ((a1.tmod a0.Frame) ≥ x4.From)) (k5 (decide ((a1.tmod a0.Frame) < (wr (x4.From + x4.Len))))) (k5 false))) (some (-1 : Int))) FU (0 : Int)))) (fun k1 => bnd (table_Right a0) fun x2 => fk (!x2) (k1 true) (k1 (decide (a1 < (0 : Int)))))
theorem table_At_w (a0 : TableTable) (a1 : Int) (r : Int) (h : table_At a0 a1 = some r) : Go.VC.Spec Tryz.prog 89 [.agg (TableTable.enc a0), .d (.int .i64 a1)] (fun y => y = E_Int r) := by
  refine Go.VC.Spec.of_xc (args := [.agg (TableTable.enc a0), .d (.int .i64 a1)]) (fn := Tryz.f89) tab ⟨[(0, [1, 2]), (1, [1, 2, 13]), (2, [4]), (3, [1, 2]), (4, [1, 19, 20, 21]), (5, [1, 19, 20, 21, 22]), (6, [1, 6, 19, 20, 21]), (7, [1, 6, 19, 20, 21, 37]), (8, [4]), (9, [1, 19, 20, 21]), (10, [4])], [], [100013, 100037], []⟩ 41 [.tmp 4] rfl rfl rfl rfl rfl rfl ?_
  conv => whnf
  refine jnS (fun w1 => ⟨[(1, .l (.d (.int .i64 a1))), (2, .l (.ptr 3 0)), (13, .l (.d (.bool w1)))], 41, [], [(3, [.d (.int .i64 a0.Frame), .d (.sl (a0.Windows.map Window.enc))])], []⟩) h (fun k1 hk1 h => ?_) (fun w1 h => ?_)
  · conv => whnf
    refine caS (E := E_Bool) h (table_Right_w a0) rfl (fun _ => rfl) (fun x2 h => ?_)
    conv => whnf
    refine fkS h (fun h => ?_) (fun h => ?_)
    · conv => whnf
      exact jeS hk1 h (Weak.refl _)
    conv => whnf
    exact jeS hk1 h (Weak.refl _)
  conv => whnf
  refine fkS h (fun h => ?_) (fun h => ?_)
  · conv => whnf
    exact rt (E := E_Int) h rfl
  conv => whnf
  refine dvS h (fun h => ?_)
  conv => whnf
  refine lenS a0.Windows Window.enc rfl ?_
  conv => whnf
  refine lpS (fun v3 => ⟨[(1, .l (.d (.int .i64 (a1.tmod a0.Frame)))), (19, .l (.d (.sl (a0.Windows.map Window.enc)))), (20, .l (.d (.int .i64 (a0.Windows.length : Int)))), (21, .l (.d (.int .i64 v3)))], 41, [], [], []⟩) h (Weak.refl _) (fun _ nx3 hn3 v3 h => ?_)
  conv => whnf
  refine fkS h (fun h => ?_) (fun h => ?_)
  · conv => whnf
    refine ixS (enc := Window.enc) h rfl (fun _ => rfl) (fun x4 h => ?_)
    conv => whnf
    refine jnS (fun w5 => ⟨[(1, .l (.d (.int .i64 (a1.tmod a0.Frame)))), (6, .l (.ptr 7 0)), (19, .l (.d (.sl (a0.Windows.map Window.enc)))), (20, .l (.d (.int .i64 (a0.Windows.length : Int)))), (21, .l (.d (.int .i64 v3))), (37, .l (.d (.bool w5)))], 41, [], [(7, [.d (.int .i64 x4.Part), .d (.int .i64 x4.From), .d (.int .i64 x4.Len)])], []⟩) h (fun k5 hk5 h => ?_) (fun w5 h => ?_)
    · conv => whnf
      refine fkS h (fun h => ?_) (fun h => ?_)
      · conv => whnf
        exact jeS hk5 h (Weak.refl _)
      conv => whnf
      exact jeS hk5 h (Weak.refl _)
    conv => whnf
    refine fkS h (fun h => ?_) (fun h => ?_)
    · conv => whnf
      exact rt (E := E_Int) h rfl
    conv => whnf
    exact leS hn3 h (Weak.refl _)
  conv => whnf
  exact rt (E := E_Int) h rfl

end Go.Proofs.YtldlcdnhdedoeaaGreat
namespace Go.Proofs.YtldlcdnhdedoeaaGreat
open Go Go.VC
noncomputable def table_Of (a0 : List Int) : Option (TableTable × Int) :=
  jn (fun (w1 : Bool) => fk w1 (some (⟨(0 : Int), []⟩, (1 : Int))) (lp (fun nx2 (v2 : Int × (List Window) × Int) => fk (decide (v2.2.2 < (a0.length : Int))) (ix a0 v2.2.2 fun x3 => jn (fun (w4 : Bool) => fk w4 (some (⟨(0 : Int), []⟩, (1 : Int))) (jn (fun (w5 : List Window) => nx2 (x3, w5, (wr (v2.2.2 + (1 : Int))))) (fun k5 => jn (fun (w6 : Bool) => fk w6 (ck (decide (0 ≤ (wr ((v2.2.1.length : Int) - (1 : Int)))) && decide ((wr ((v2.2.1.length : Int) - (1 : Int))) < (v2.2.1.length : Int))) (ox v2.2.1 ((wr ((v2.2.1.length : Int) - (1 : Int))).toNat) fun x7 => ck (decide (0 ≤ (wr ((v2.2.1.length : Int) - (1 : Int)))) && decide ((wr ((v2.2.1.length : Int) - (1 : Int))) < (v2.2.1.length : Int))) (ox v2.2.1 ((wr ((v2.2.1.length : Int) - (1 : Int))).toNat) fun x8 => k5 (v2.2.1.set ((wr ((v2.2.1.length : Int) - (1 : Int))).toNat) ⟨x8.Part, x8.From, (wr (x7.Len + (1 : Int)))⟩)))) (fk (!decide (x3 = (-1 : Int))) (ck (decide ((v2.2.1.length + ([⟨x3, v2.2.2, (1 : Int)⟩] : List Window).length) * 24 ≤ 140737488355328)) (k5 (v2.2.1 ++ ([⟨x3, v2.2.2, (1 : Int)⟩] : List Window)))) (k5 v2.2.1))) (fun k6 => fk (decide (x3 = v2.1)) (k6 (!decide (x3 = (-1 : Int)))) (k6 false))))) (fun k4 => fk (decide (x3 < (-1 : Int))) (k4 true) (k4 (decide (x3 ≥ (4 : Int)))))) (some (⟨(a0.length : Int), v2.2.1⟩, (0 : Int)))) FU ((-1 : Int), [], (0 : Int)))) (fun k1 => fk (decide ((a0.length : Int) = (0 : Int))) (k1 true) (k1 (decide ((a0.length : Int) > (240 : Int)))))
theorem table_Of_w (a0 : List Int) (r : TableTable × Int) (h : table_Of a0 = some r) : Go.VC.Spec Tryz.prog 114 [.d (.sl (a0.map (eI .i64)))] (fun y => y = E_TableTable_Int r) := by
  refine Go.VC.Spec.of_xc (args := [.d (.sl (a0.map (eI .i64)))]) (fn := Tryz.f114) tab ⟨[(0, [0, 2]), (1, [0, 2, 16]), (2, [2, 3]), (3, [0, 2, 4]), (4, [0, 2, 4, 5]), (5, [0, 2, 4, 6]), (6, [2, 4, 6, 22, 23, 24]), (7, [2, 4, 6, 22, 23, 24, 25]), (8, [2, 4, 6, 7, 8, 22, 23, 24]), (9, [2, 4, 6, 7, 8, 22, 23, 24, 34]), (10, [2, 3]), (11, [2, 4, 6, 22, 23, 24]), (12, [2, 4, 6, 22, 23, 24]), (13, [2, 3])], [], [100016, 100034], []⟩ 42 [.cell 2 30, .tmp 3] rfl rfl rfl rfl rfl rfl ?_
  conv => whnf
  refine jnS (fun w1 => ⟨[(0, .l (.d (.sl (a0.map (eI .i64))))), (2, .l (.ptr 3 0)), (16, .l (.d (.bool w1)))], 42, [], [(3, [.d (.int .i64 (0 : Int)), .nil])], []⟩) h (fun k1 hk1 h => ?_) (fun w1 h => ?_)
  · conv => whnf
    refine lenS a0 (eI .i64) rfl ?_
    conv => whnf
    refine fkS h (fun h => ?_) (fun h => ?_)
    · conv => whnf
      exact jeS hk1 h (Weak.refl _)
    conv => whnf
    refine lenS a0 (eI .i64) rfl ?_
    conv => whnf
    exact jeS hk1 h (Weak.refl _)
  conv => whnf
  refine fkS h (fun h => ?_) (fun h => ?_)
  · conv => whnf
    exact rt (E := E_TableTable_Int) h rfl
  conv => whnf
  refine lenS a0 (eI .i64) rfl ?_
  conv => whnf
  refine lenS a0 (eI .i64) rfl ?_
  conv => whnf
  refine lpS (fun v2 => ⟨[(2, .l (.ptr 3 0)), (4, .l (.ptr 5 0)), (6, .l (.func 154 [.k 6, .k 5])), (22, .l (.d (.sl (a0.map (eI .i64))))), (23, .l (.d (.int .i64 (a0.length : Int)))), (24, .l (.d (.int .i64 v2.2.2)))], 42, [], [(3, [.d (.int .i64 (0 : Int)), .nil]), (5, [.d (.int .i64 (a0.length : Int)), .own 50501]), (6, [.d (.int .i64 v2.1)])], [(50501, 179, 3, v2.2.1.map Window.enc)]⟩) h (Weak.trans (Weak.nilBO _ 5 1 50501 179 3 _ rfl rfl) (Weak.refl _)) (fun _ nx2 hn2 v2 h => ?_)
  conv => whnf
  refine fkS h (fun h => ?_) (fun h => ?_)
  · conv => whnf
    refine ixS (enc := (eI .i64)) h rfl (fun _ => rfl) (fun x3 h => ?_)
    conv => whnf
    refine jnS (fun w4 => ⟨[(2, .l (.ptr 3 0)), (4, .l (.ptr 5 0)), (6, .l (.func 154 [.k 6, .k 5])), (7, .l (.d (.int .i64 v2.2.2))), (8, .l (.d (.int .i64 x3))), (22, .l (.d (.sl (a0.map (eI .i64))))), (23, .l (.d (.int .i64 (a0.length : Int)))), (24, .l (.d (.int .i64 v2.2.2))), (34, .l (.d (.bool w4)))], 42, [], [(3, [.d (.int .i64 (0 : Int)), .nil]), (5, [.d (.int .i64 (a0.length : Int)), .own 50501]), (6, [.d (.int .i64 v2.1)])], [(50501, 179, 3, v2.2.1.map Window.enc)]⟩) h (fun k4 hk4 h => ?_) (fun w4 h => ?_)
    · conv => whnf
      refine fkS h (fun h => ?_) (fun h => ?_)
      · conv => whnf
        exact jeS hk4 h (Weak.refl _)
      conv => whnf
      exact jeS hk4 h (Weak.refl _)
    conv => whnf
    refine fkS h (fun h => ?_) (fun h => ?_)
    · conv => whnf
      exact rt (E := E_TableTable_Int) h rfl
    conv => whnf
    refine inS (fn := Tryz.f154) tab ⟨[(0, [0, 1, 2, 3, 12]), (1, [1, 2]), (2, [0, 1, 2, 3, 26]), (3, [1, 2]), (4, [])], [], [100012, 4], []⟩ 36 [] rfl rfl rfl rfl rfl rfl ?_
    conv => whnf
    refine jnS (fun w5 => ⟨[(1, .l (.d (.int .i64 x3))), (2, .l (.ptr 6 0))], 36, [⟨[(38, .l (.d (.int .i64 x3))), (37, .l (.d (.int .i64 v2.2.2))), (36, .l (.func 154 [.k 6, .k 5])), (34, .l (.d (.bool false))), (2, .l (.ptr 3 0)), (4, .l (.ptr 5 0)), (6, .l (.func 154 [.k 6, .k 5])), (7, .l (.d (.int .i64 v2.2.2))), (8, .l (.d (.int .i64 x3))), (22, .l (.d (.sl (a0.map (eI .i64))))), (23, .l (.d (.int .i64 (a0.length : Int)))), (24, .l (.d (.int .i64 v2.2.2))), (34, .l (.d (.bool w4)))], 42⟩], [(3, [.d (.int .i64 (0 : Int)), .nil]), (5, [.d (.int .i64 (a0.length : Int)), .own 50501]), (6, [.d (.int .i64 v2.1)])], [(50501, 179, 3, w5.map Window.enc)]⟩) h (fun k5 hk5 h => ?_) (fun w5 h => ?_)
    · conv => whnf
      refine jnS (fun w6 => ⟨[(0, .l (.d (.int .i64 v2.2.2))), (1, .l (.d (.int .i64 x3))), (2, .l (.ptr 6 0)), (3, .l (.ptr 5 0)), (12, .l (.d (.bool w6)))], 36, [⟨[(38, .l (.d (.int .i64 x3))), (37, .l (.d (.int .i64 v2.2.2))), (36, .l (.func 154 [.k 6, .k 5])), (34, .l (.d (.bool false))), (2, .l (.ptr 3 0)), (4, .l (.ptr 5 0)), (6, .l (.func 154 [.k 6, .k 5])), (7, .l (.d (.int .i64 v2.2.2))), (8, .l (.d (.int .i64 x3))), (22, .l (.d (.sl (a0.map (eI .i64))))), (23, .l (.d (.int .i64 (a0.length : Int)))), (24, .l (.d (.int .i64 v2.2.2))), (34, .l (.d (.bool w4)))], 42⟩], [(3, [.d (.int .i64 (0 : Int)), .nil]), (5, [.d (.int .i64 (a0.length : Int)), .own 50501]), (6, [.d (.int .i64 v2.1)])], [(50501, 179, 3, v2.2.1.map Window.enc)]⟩) h (fun k6 hk6 h => ?_) (fun w6 h => ?_)
      · conv => whnf
        refine fkS h (fun h => ?_) (fun h => ?_)
        · conv => whnf
          exact jeS hk6 h (Weak.refl _)
        conv => whnf
        exact jeS hk6 h (Weak.refl _)
      conv => whnf
      refine fkS h (fun h => ?_) (fun h => ?_)
      · conv => whnf
        refine lenS v2.2.1 Window.enc rfl ?_
        conv => whnf
        refine ioS (enc := Window.enc) h rfl (fun h => ?_)
        conv => whnf
        refine oxS (enc := Window.enc) h rfl (fun x7 h => ?_)
        conv => whnf
        refine ioS (enc := Window.enc) h rfl (fun h => ?_)
        conv => whnf
        refine seS (enc := Window.enc) h rfl (fun x8 => ⟨x8.Part, x8.From, (wr (x7.Len + (1 : Int)))⟩) (fun _ => rfl) (fun x8 h => ?_)
        conv => whnf
        exact jeS hk5 h (Weak.refl _)
      conv => whnf
      refine fkS h (fun h => ?_) (fun h => ?_)
      · conv => whnf
        refine liS ([⟨x3, v2.2.2, (1 : Int)⟩] : List Window) Window.enc rfl rfl ?_
        conv => whnf
        refine apS (enc := Window.enc) (l1 := v2.2.1) (l2 := ([⟨x3, v2.2.2, (1 : Int)⟩] : List Window)) h rfl rfl (fun _ => rfl) (fun h => ?_)
        conv => whnf
        refine jeX hk5 h ?_
        conv => whnf
        refine WkF.step (Weak.rekey _ 1034 50501 rfl) ?_
        conv => whnf
        exact WkF.refl _
      conv => whnf
      refine jeX hk5 h ?_
      conv => whnf
      refine WkF.step (Weak.keepS _ [1, 2]) ?_
      conv => whnf
      exact WkF.refl _
    conv => whnf
    exact leS hn2 h (Weak.refl _)
  conv => whnf
  exact rt (E := E_TableTable_Int) h rfl

end Go.Proofs.YtldlcdnhdedoeaaGreat
namespace Go.Proofs.YtldlcdnhdedoeaaGreat
open Go Go.VC
noncomputable def ref13_At (a0 : Int) (a1 : List Window) (a2 : Int) : Option Int :=
  lp (fun nx1 (v1 : Int × Int) => fk (decide (v1.2 < (a1.length : Int))) (lp (fun nx2 (v2 : Int × Int) => ix a1 v1.2 fun x3 => fk (decide (v2.2 < x3.Len)) (jn (fun (w4 : Int) => nx2 (w4, (wr (v2.2 + (1 : Int))))) (fun k4 => ix a1 v1.2 fun x5 => ck (decide (a0 ≠ 0)) (fk (decide ((wr (x5.From + v2.2)) = (a2.tmod a0))) (ix a1 v1.2 fun x6 => k4 x6.Part) (k4 v2.1)))) (nx1 (v2.1, (wr (v1.2 + (1 : Int)))))) FU (v1.1, (0 : Int))) (some v1.1)) FU ((-1 : Int), (0 : Int))
theorem ref13_At_w (a0 : Int) (a1 : List Window) (a2 : Int) (r : Int) (h : ref13_At a0 a1 a2 = some r) : Go.VC.Spec Tryz.prog 35 [.d (.int .i64 a0), .d (.sl (a1.map Window.enc)), .d (.int .i64 a2)] (fun y => y = E_Int r) := by
  refine Go.VC.Spec.of_xc (args := [.d (.int .i64 a0), .d (.sl (a1.map Window.enc)), .d (.int .i64 a2)]) (fn := Tryz.f35) tab ⟨[(0, [0, 1, 2]), (1, [0, 1, 2, 7]), (2, [0, 1, 2, 7, 8]), (3, [0, 1, 2, 7, 8, 13]), (4, [0, 1, 2, 7, 8]), (5, [0, 1, 2, 7, 8, 9]), (6, [0, 1, 2, 7, 8, 9, 22]), (7, [0, 1, 2, 7, 8, 9]), (8, [0, 1, 2, 7, 8, 9, 35]), (9, [0, 1, 2, 7, 8, 9]), (10, [6])], [], [7], []⟩ 42 [.tmp 6] rfl rfl rfl rfl rfl rfl ?_
  conv => whnf
  refine lpS (fun v1 => ⟨[(0, .l (.d (.int .i64 a0))), (1, .l (.d (.sl (a1.map Window.enc)))), (2, .l (.d (.int .i64 a2))), (7, .l (.d (.int .i64 v1.1))), (8, .l (.d (.int .i64 v1.2)))], 42, [], [], []⟩) h (Weak.refl _) (fun _ nx1 hn1 v1 h => ?_)
  conv => whnf
  refine lenS a1 Window.enc rfl ?_
  conv => whnf
  refine fkS h (fun h => ?_) (fun h => ?_)
  · conv => whnf
    refine lpS (fun v2 => ⟨[(0, .l (.d (.int .i64 a0))), (1, .l (.d (.sl (a1.map Window.enc)))), (2, .l (.d (.int .i64 a2))), (7, .l (.d (.int .i64 v2.1))), (8, .l (.d (.int .i64 v1.2))), (9, .l (.d (.int .i64 v2.2)))], 42, [], [], []⟩) h (Weak.refl _) (fun _ nx2 hn2 v2 h => ?_)
    conv => whnf
    refine ixS (enc := Window.enc) h rfl (fun _ => rfl) (fun x3 h => ?_)
    conv => whnf
    refine fkS h (fun h => ?_) (fun h => ?_)
    · conv => whnf
      refine jnS (fun w4 => ⟨[(0, .l (.d (.int .i64 a0))), (1, .l (.d (.sl (a1.map Window.enc)))), (2, .l (.d (.int .i64 a2))), (7, .l (.d (.int .i64 w4))), (8, .l (.d (.int .i64 v1.2))), (9, .l (.d (.int .i64 v2.2)))], 42, [], [], []⟩) h (fun k4 hk4 h => ?_) (fun w4 h => ?_)
      · conv => whnf
        refine ⟨10, ?_⟩
        conv => whnf
        refine ixS (enc := Window.enc) h rfl (fun _ => rfl) (fun x5 h => ?_)
        conv => whnf
        refine dvS h (fun h => ?_)
        conv => whnf
        refine drS (by kernel_rfl) ?_
        conv => whnf
        refine fkS h (fun h => ?_) (fun h => ?_)
        · conv => whnf
          refine ixS (enc := Window.enc) h rfl (fun _ => rfl) (fun x6 h => ?_)
          conv => whnf
          exact jeS hk4 h (Weak.refl _)
        conv => whnf
        refine jeX hk4 h ?_
        conv => whnf
        refine WkF.step (Weak.keepS _ [0, 1, 2, 7, 8, 9]) ?_
        conv => whnf
        exact WkF.refl _
      conv => whnf
      exact leS hn2 h (Weak.refl _)
    conv => whnf
    exact leS hn1 h (Weak.refl _)
  conv => whnf
  exact rt (E := E_Int) h rfl

end Go.Proofs.YtldlcdnhdedoeaaGreat
namespace Go.Proofs.YtldlcdnhdedoeaaGreat
open Go Go.VC
noncomputable def ref13_Ticks (a0 : Int) (a1 : List Window) : Option (List Int) :=
  lp (fun nx1 (v1 : (List Int) × Int) => fk (decide (v1.2 < a0)) (bnd (ref13_At a0 a1 v1.2) fun x2 => ck (decide ((v1.1.length + ([x2] : List Int).length) * 8 ≤ 140737488355328)) (nx1 (v1.1 ++ ([x2] : List Int), (wr (v1.2 + (1 : Int)))))) (some v1.1)) FU ([], (0 : Int))
theorem ref13_Ticks_w (a0 : Int) (a1 : List Window) (r : List Int) (h : ref13_Ticks a0 a1 = some r) : Go.VC.Spec Tryz.prog 19 [.d (.int .i64 a0), .d (.sl (a1.map Window.enc))] (fun y => y = E_ListInt r) := by
  refine Go.VC.Spec.of_xc (args := [.d (.int .i64 a0), .d (.sl (a1.map Window.enc))]) (fn := Tryz.f19) tab ⟨[(0, [0, 1]), (1, [0, 1, 5]), (2, [0, 1, 5, 6]), (3, [0, 1, 5, 6, 9]), (4, [0, 1, 5, 6]), (5, [0, 1, 5, 6]), (6, [4])], [], [], []⟩ 20 [.tmp 4] rfl rfl rfl rfl rfl rfl ?_
  conv => whnf
  refine lpS (fun v1 => ⟨[(0, .l (.d (.int .i64 a0))), (1, .l (.d (.sl (a1.map Window.enc)))), (5, .l (.own 6)), (6, .l (.d (.int .i64 v1.2)))], 20, [], [], [(6, 3, 1, v1.1.map (eI .i64))]⟩) h (Weak.trans (Weak.nilO _ 5 6 3 1 rfl) (Weak.refl _)) (fun _ nx1 hn1 v1 h => ?_)
  conv => whnf
  refine fkS h (fun h => ?_) (fun h => ?_)
  · conv => whnf
    refine caS (E := E_Int) h (ref13_At_w a0 a1 v1.2) rfl (fun _ => rfl) (fun x2 h => ?_)
    conv => whnf
    refine liS ([x2] : List Int) (eI .i64) rfl rfl ?_
    conv => whnf
    refine apS (enc := (eI .i64)) (l1 := v1.1) (l2 := ([x2] : List Int)) h rfl rfl (fun _ => rfl) (fun h => ?_)
    conv => whnf
    exact leS hn1 h (Weak.refl _)
  conv => whnf
  exact rt (E := E_ListInt) h rfl

end Go.Proofs.YtldlcdnhdedoeaaGreat
namespace Go.Proofs.YtldlcdnhdedoeaaGreat
open Go Go.VC
/-! Tables. -/
def inW (w : Window) (x : Int) : Prop := w.From ≤ x ∧ x < w.From + w.Len
instance (w : Window) (x : Int) : Decidable (inW w x) := by unfold inW; infer_instance
def whoV : List Window → Int → Int
  | [], _ => -1
  | w :: r, x => if inW w x then w.Part else whoV r x
def winP (F : Int) (w : Window) : Prop := 0 ≤ w.Part ∧ w.Part < 4 ∧ 0 ≤ w.From ∧ 1 ≤ w.Len ∧ w.From + w.Len ≤ F
structure tabP (t : TableTable) : Prop where
  f1 : 1 ≤ t.Frame
  f2 : t.Frame ≤ 240
  w : ∀ w ∈ t.Windows, winP t.Frame w
  p : t.Windows.Pairwise fun a b => a.From + a.Len ≤ b.From
  c : ∀ (i : Nat) (a b : Window), t.Windows[i]? = some a → t.Windows[i + 1]? = some b → ¬ (a.From + a.Len = b.From ∧ b.Part = a.Part)
  l : t.Windows.length ≤ 240
theorem whoV_none {l : List Window} {x : Int} (h : ∀ a ∈ l, ¬ inW a x) : whoV l x = -1 := by
  induction l with
  | nil => rfl
  | cons a r ih =>
    unfold whoV
    rw [if_neg (h a List.mem_cons_self)]
    exact ih fun b hb => h b (List.mem_cons_of_mem _ hb)
theorem whoV_snoc {l : List Window} {w : Window} {x : Int} (h : ∀ a ∈ l, a.From + a.Len ≤ w.From) : whoV (l ++ [w]) x = if inW w x then w.Part else whoV l x := by
  induction l with
  | nil => rfl
  | cons a r ih =>
    have ih := ih fun b hb => h b (List.mem_cons_of_mem _ hb)
    have ha := h a List.mem_cons_self
    show (if inW a x then a.Part else whoV (r ++ [w]) x) = if inW w x then w.Part else (if inW a x then a.Part else whoV r x)
    rw [ih]
    by_cases c : inW a x
    · have : ¬ inW w x := fun hw => by unfold inW at *; omega
      rw [if_pos c, if_neg this, if_pos c]
    · rw [if_neg c, if_neg c]
theorem table_may_eq (w : Window) (F : Int) (hF : 0 ≤ F) (hF2 : F ≤ 240) (h : winP F w) : table_may w F = some true := by
  unfold winP at h
  unfold table_may
  rw [decide_eq_true (by omega), fk_t, decide_eq_true (by omega), fk_t, decide_eq_true (by omega), fk_t, decide_eq_true (by omega), fk_t, decide_eq_true (by omega), fk_t, wr_in _ (by omega), decide_eq_true (by omega)]
theorem table_Right_t {t : TableTable} (h : tabP t) : table_Right t = some true := by
  have hl := h.l
  have f1 := h.f1
  have f2 := h.f2
  unfold table_Right
  refine lp_inv (fun v => t.Windows.length - v.2.2.toNat) (fun v => ∃ k : Nat, v.2.2 = (k : Int) ∧ k ≤ t.Windows.length ∧ ((k = 0 ∧ v.1 = 0 ∧ v.2.1 = -1) ∨ ∃ j a, k = j + 1 ∧ t.Windows[j]? = some a ∧ v.1 = a.From + a.Len ∧ v.2.1 = a.Part)) ?_ FU _ ⟨0, rfl, Nat.zero_le _, .inl ⟨rfl, rfl, rfl⟩⟩ (by unfold FU; simp only; omega)
  rintro nx ⟨e, last, kk⟩ ⟨k, hkk, hk, hJ⟩ hnx
  simp only at hkk hJ
  subst hkk
  dsimp only
  rw [lt_nat]
  by_cases c : k < t.Windows.length
  rotate_left
  · rw [decide_eq_false c, fk_f, decide_eq_true (by omega), fk_t, decide_eq_true (by omega)]
  have hw := h.w _ (List.getElem_mem c)
  have hwk : t.Windows[k]? = some t.Windows[k] := List.getElem?_eq_getElem c
  rw [decide_eq_true c, fk_t, ix_lt c, wr_succ k _ c (by omega)]
  have hw' := hw
  unfold winP at hw'
  refine jn_to false (fun k3 => ?_) ?_
  · rw [bnd_eq (table_may_eq _ _ (by omega) f2 hw), Bool.not_true, fk_f]
    rcases hJ with ⟨_, rfl, rfl⟩ | ⟨j, a, rfl, ha, rfl, rfl⟩
    · rw [decide_eq_false (by omega), fk_f]
      by_cases c0 : t.Windows[k].From = 0
      · rw [decide_eq_true c0, fk_t, decide_eq_false (by omega)]
      · rw [decide_eq_false c0, fk_f]
    · have hp : a.From + a.Len ≤ t.Windows[j + 1].From := by
        have hj : j < t.Windows.length := (List.getElem?_eq_some_iff.1 ha).1
        have := List.pairwise_iff_getElem.1 h.p j (j + 1) hj c (by omega)
        rw [List.getElem?_eq_getElem hj] at ha
        cases ha
        exact this
      have hc := h.c j a _ ha hwk
      rw [decide_eq_false (by omega), fk_f]
      by_cases c0 : t.Windows[j + 1].From = a.From + a.Len
      · rw [decide_eq_true c0, fk_t, decide_eq_false (fun hh => hc ⟨c0.symm, hh⟩)]
      · rw [decide_eq_false c0, fk_f]
  · rw [fk_f, wr_in _ (by omega)]
    exact hnx _ ⟨k + 1, rfl, c, .inr ⟨k, _, rfl, hwk, rfl, rfl⟩⟩ (by simp only [Int.toNat_natCast]; omega)
theorem ref13_At_eq {t : TableTable} (h : tabP t) (x : Int) : ref13_At t.Frame t.Windows x = some (whoV t.Windows (x.tmod t.Frame)) := by
  have hl := h.l
  have f1 := h.f1
  have f2 := h.f2
  unfold ref13_At
  generalize x.tmod t.Frame = y
  refine lp_upS t.Windows.length (by unfold FU; omega) (fun k s => s = whoV (t.Windows.take k) y) (-1) rfl ?_
  rintro nx k s hk rfl hnx
  dsimp only
  rw [lt_nat]
  by_cases c : k < t.Windows.length
  rotate_left
  · rw [decide_eq_false c, fk_f, List.take_of_length_le (by omega)]
  have hw := h.w _ (List.getElem_mem c)
  unfold winP at hw
  have hnext := hnx _ c rfl
  have hsn : whoV (t.Windows.take (k + 1)) y = if inW t.Windows[k] y then t.Windows[k].Part else whoV (t.Windows.take k) y := by
    rw [← List.take_append_getElem c]
    refine whoV_snoc fun a ha => ?_
    obtain ⟨j, hj, rfl⟩ := List.getElem_of_mem ha
    rw [List.length_take] at hj
    rw [List.getElem_take]
    exact List.pairwise_iff_getElem.1 h.p j k (by omega) c (by omega)
  rw [decide_eq_true c, fk_t]
  refine lp_upS t.Windows[k].Len.toNat (by unfold FU; omega) (fun j s => s = if t.Windows[k].From ≤ y ∧ y < t.Windows[k].From + (j : Int) then t.Windows[k].Part else whoV (t.Windows.take k) y) _ (by rw [if_neg (by omega)]) ?_
  rintro nx2 j s hj rfl hnx2
  dsimp only
  rw [ix_lt c]
  by_cases cj : j < t.Windows[k].Len.toNat
  rotate_left
  · have e : (j : Int) = t.Windows[k].Len := by omega
    rw [decide_eq_false (by omega), fk_f, wr_succ k _ c (by omega), e]
    rw [hsn] at hnext
    exact hnext
  rw [decide_eq_true (by omega), fk_t]
  have ewr : wr (t.Windows[k].From + (j : Int)) = t.Windows[k].From + (j : Int) := wr_in _ (by omega)
  have hs : ∀ s', s' = (if t.Windows[k].From ≤ y ∧ y < t.Windows[k].From + ((j + 1 : Nat) : Int) then t.Windows[k].Part else whoV (t.Windows.take k) y) → nx2 (s', wr ((j : Int) + 1)) = some (whoV t.Windows y) := fun s' e => by
    rw [wr_succ j _ cj (by omega)]
    exact hnx2 _ cj e
  by_cases ce : t.Windows[k].From + (j : Int) = y
  · refine jn_to t.Windows[k].Part (fun k4 => by rw [ix_lt c, ck_t (decide_eq_true (by omega)), ewr, decide_eq_true ce, fk_t, ix_lt c]) (hs _ ?_)
    rw [if_pos (by omega)]
  · refine jn_to _ (fun k4 => by rw [ix_lt c, ck_t (decide_eq_true (by omega)), ewr, decide_eq_false ce, fk_f]) (hs _ ?_)
    by_cases cc : t.Windows[k].From ≤ y ∧ y < t.Windows[k].From + (j : Int)
    · rw [if_pos cc, if_pos (by omega)]
    · rw [if_neg cc, if_neg (by omega)]
theorem ref13_Ticks_eq {t : TableTable} (h : tabP t) : ref13_Ticks t.Frame t.Windows = some ((List.range t.Frame.toNat).map fun (x : Nat) => whoV t.Windows (x : Int)) := by
  have f1 := h.f1
  have f2 := h.f2
  unfold ref13_Ticks
  refine lp_upS t.Frame.toNat (by unfold FU; omega) (fun k s => s = (List.range k).map fun (x : Nat) => whoV t.Windows (x : Int)) [] rfl ?_
  rintro nx k s hk rfl hnx
  dsimp only
  by_cases c : k < t.Frame.toNat
  rotate_left
  · rw [decide_eq_false (by omega), fk_f, show k = t.Frame.toNat by omega]
  have e : (k : Int).tmod t.Frame = (k : Int) := by rw [Int.tmod_eq_emod_of_nonneg (by omega), Int.emod_eq_of_lt (by omega) (by omega)]
  rw [decide_eq_true (by omega), fk_t, bnd_eq (ref13_At_eq h (k : Int)), e, ck_t (by simp; omega), wr_succ k _ c (by omega)]
  refine hnx _ c ?_
  rw [List.range_succ, List.map_append]; rfl
/-- The table of ticks. -/
structure ofI (n : Int) (ts : List Int) (k : Nat) (last : Int) (W : List Window) : Prop where
  w : ∀ w ∈ W, winP n w ∧ w.From + w.Len ≤ (k : Int)
  p : W.Pairwise fun a b => a.From + a.Len ≤ b.From
  c : ∀ (i : Nat) (a b : Window), W[i]? = some a → W[i + 1]? = some b → ¬ (a.From + a.Len = b.From ∧ b.Part = a.Part)
  l : W.length ≤ k
  v : ∀ x : Nat, x < k → ∀ y, ts[x]? = some y → whoV W (x : Int) = y
  e1 : last ≠ -1 → ∃ W0 w, W = W0 ++ [w] ∧ w.Part = last ∧ w.From + w.Len = (k : Int)
  e2 : ∀ W0 w, W = W0 ++ [w] → w.From + w.Len = (k : Int) → w.Part = last
theorem table_Of_ex (ts : List Int) (h1 : 1 ≤ ts.length) (h2 : ts.length ≤ 240) (h3 : ∀ x ∈ ts, -1 ≤ x ∧ x < 4) : ∃ t, table_Of ts = some (t, 0) ∧ tabP t ∧ t.Frame = (ts.length : Int) ∧ ∀ x : Nat, ∀ y, ts[x]? = some y → whoV t.Windows (x : Int) = y := by
  have key : ∃ r : TableTable × Int, table_Of ts = some r ∧ (r.2 = 0 ∧ tabP r.1 ∧ r.1.Frame = (ts.length : Int) ∧ ∀ x : Nat, ∀ y, ts[x]? = some y → whoV r.1.Windows (x : Int) = y) := by
    unfold table_Of
    rw [jn_eq, decide_eq_false (by omega), fk_f, decide_eq_false (by omega)]
    dsimp only
    rw [fk_f]
    refine lp_ex (fun v => ts.length - v.2.2.toNat) (fun v => ∃ (k : Nat) (last : Int) (W : List Window), v = (last, W, (k : Int)) ∧ k ≤ ts.length ∧ ofI (ts.length : Int) ts k last W) (fun r : TableTable × Int => r.2 = 0 ∧ tabP r.1 ∧ r.1.Frame = (ts.length : Int) ∧ ∀ x : Nat, ∀ y, ts[x]? = some y → whoV r.1.Windows (x : Int) = y) ?_ FU _ ⟨0, -1, [], rfl, Nat.zero_le _, ⟨fun w h => (List.not_mem_nil h).elim, List.Pairwise.nil, fun i a b h => by simp at h, Nat.le_refl _, fun x h => by omega, fun h => absurd rfl h, fun W0 w h => by simp at h⟩⟩ (by unfold FU; simp only; omega)
    rintro nx v ⟨k, last, W, rfl, hk, J⟩ hnx
    dsimp only
    rw [lt_nat]
    by_cases c : k < ts.length
    rotate_left
    · have e : k = ts.length := by omega
      subst e
      rw [decide_eq_false c, fk_f]
      refine ⟨_, rfl, rfl, ⟨by show (1 : Int) ≤ (ts.length : Int); omega, by show (ts.length : Int) ≤ 240; omega, fun w hw => (J.w w hw).1, J.p, J.c, by show W.length ≤ 240; have := J.l; omega⟩, rfl, fun x y hx => J.v x (List.getElem?_eq_some_iff.1 hx).1 y hx⟩
    have hb := h3 _ (List.getElem_mem c)
    have hty : ts[k]? = some ts[k] := List.getElem?_eq_getElem c
    rw [decide_eq_true c, fk_t, ix_lt c, wr_succ k _ c (by omega)]
    generalize ts[k] = y at *
    rw [jn_eq, decide_eq_false (show ¬ y < -1 by omega), fk_f, decide_eq_false (show ¬ y ≥ 4 by omega)]
    dsimp only
    rw [fk_f]
    have go : ∀ W', ofI (ts.length : Int) ts (k + 1) y W' → ∃ r, nx (y, W', ((k + 1 : Nat) : Int)) = some r ∧ (r.2 = 0 ∧ tabP r.1 ∧ r.1.Frame = (ts.length : Int) ∧ ∀ x : Nat, ∀ y, ts[x]? = some y → whoV r.1.Windows (x : Int) = y) := fun W' h' => hnx _ ⟨k + 1, y, W', rfl, c, h'⟩ (by simp only [Int.toNat_natCast]; omega)
    rw [jn_eq, jn_eq]
    by_cases c1 : y = last ∧ y ≠ -1
    · obtain ⟨rfl, cy⟩ := c1
      obtain ⟨W0, w, rfl, hwp, hwe⟩ := J.e1 cy
      have hlen : (W0 ++ [w]).length = W0.length + 1 := by simp
      have hlt : W0.length < (W0 ++ [w]).length := by omega
      have hget : (W0 ++ [w])[W0.length] = w := by simp
      have hl240 := J.l
      rw [decide_eq_true rfl, fk_t, decide_eq_false cy]
      dsimp only
      rw [Bool.not_false, fk_t, hlen]
      have ei : wr (((W0.length + 1 : Nat) : Int) - 1) = (W0.length : Int) := by rw [wr_in _ (by omega)]; omega
      have hJw := J.w w (by simp)
      have hwin := hJw.1
      unfold winP at hwin
      rw [ei, Int.toNat_natCast, ck_t (by simp; omega), ox_lt hlt, ck_t (by simp; omega), ox_lt hlt, hget, wr_in (w.Len + 1) (by omega)]
      have hset : (W0 ++ [w]).set W0.length ⟨w.Part, w.From, w.Len + 1⟩ = W0 ++ [⟨w.Part, w.From, w.Len + 1⟩] := by simp
      rw [hset]
      have hp := List.pairwise_append.1 J.p
      have hbefore : ∀ a ∈ W0, a.From + a.Len ≤ w.From := fun a ha => hp.2.2 a ha w (by simp)
      refine go _ ⟨fun a ha => ?_, ?_, fun i a b hA hB => ?_, by rw [List.length_append, List.length_singleton]; omega, fun x hx z hz => ?_, fun _ => ⟨W0, _, rfl, hwp, by show w.From + (w.Len + 1) = _; omega⟩, fun W1 w1 he hee => ?_⟩
      · rcases List.mem_append.1 ha with h | h
        · have := J.w a (List.mem_append_left _ h); exact ⟨this.1, by omega⟩
        · rw [List.mem_singleton.1 h]
          refine ⟨⟨hwin.1, hwin.2.1, hwin.2.2.1, by show 1 ≤ w.Len + 1; omega, by show w.From + (w.Len + 1) ≤ _; omega⟩, by show w.From + (w.Len + 1) ≤ _; omega⟩
      · exact List.pairwise_append.2 ⟨hp.1, List.pairwise_singleton _ _, fun a ha b hb => by rw [List.mem_singleton.1 hb]; exact hbefore a ha⟩
      · by_cases ci : i + 1 < W0.length
        · rw [List.getElem?_append_left ci] at hB
          rw [List.getElem?_append_left (by omega)] at hA
          exact J.c i a b (by rw [List.getElem?_append_left (by omega)]; exact hA) (by rw [List.getElem?_append_left ci]; exact hB)
        · have hlb := (List.getElem?_eq_some_iff.1 hB).1
          rw [List.length_append, List.length_singleton] at hlb
          have ei : i + 1 = W0.length := by omega
          rw [ei, List.getElem?_append_right (Nat.le_refl _), Nat.sub_self] at hB
          simp only [List.getElem?_cons_zero, Option.some.injEq] at hB
          subst hB
          rw [List.getElem?_append_left (by omega)] at hA
          exact J.c i a w (by rw [List.getElem?_append_left (by omega)]; exact hA) (by rw [ei, List.getElem?_append_right (Nat.le_refl _), Nat.sub_self]; rfl)
      · rw [whoV_snoc (w := (⟨w.Part, w.From, w.Len + 1⟩ : Window)) hbefore]
        by_cases cx : x < k
        · have := J.v x cx z hz
          rw [whoV_snoc hbefore] at this
          by_cases ci : inW w (x : Int)
          · rw [if_pos ci] at this
            rw [if_pos (by unfold inW at *; simp only; omega)]; exact this
          · rw [if_neg ci] at this
            rw [if_neg (by unfold inW at *; simp only; omega)]; exact this
        · have ex : x = k := by omega
          subst ex
          rw [hty] at hz
          cases hz
          rw [if_pos (by unfold inW; simp only; omega)]; exact hwp
      · have := List.append_inj' he rfl
        have e2 : w1 = ⟨w.Part, w.From, w.Len + 1⟩ := by have := this.2; simp at this; exact this.symm
        rw [e2]; exact hwp
    have tail : ∀ W', (y = -1 → W' = W) → (y ≠ -1 → W' = W ++ [⟨y, (k : Int), 1⟩]) → ofI (ts.length : Int) ts (k + 1) y W' := by
      intro W' hn hy
      by_cases cy : y = -1
      · rw [hn cy]
        refine ⟨fun a ha => ⟨(J.w a ha).1, by have := (J.w a ha).2; omega⟩, J.p, J.c, by have := J.l; omega, fun x hx z hz => ?_, fun h => absurd cy h, fun W0 w he hee => ?_⟩
        · by_cases cx : x < k
          · exact J.v x cx z hz
          · have ex : x = k := by omega
            subst ex
            rw [hty] at hz
            cases hz
            rw [whoV_none fun a ha hi => ?_, cy]
            have := (J.w a ha).2
            unfold inW at hi
            omega
        · have := (J.w w (by rw [he]; simp)).2
          omega
      · rw [hy cy]
        have hbefore : ∀ a ∈ W, a.From + a.Len ≤ (⟨y, (k : Int), 1⟩ : Window).From := fun a ha => (J.w a ha).2
        refine ⟨fun a ha => ?_, List.pairwise_append.2 ⟨J.p, List.pairwise_singleton _ _, fun a ha b hb => by rw [List.mem_singleton.1 hb]; exact hbefore a ha⟩, fun i a b hA hB => ?_, by rw [List.length_append, List.length_singleton]; have := J.l; omega, fun x hx z hz => ?_, fun _ => ⟨W, _, rfl, rfl, by show (k : Int) + 1 = _; omega⟩, fun W1 w1 he hee => ?_⟩
        · rcases List.mem_append.1 ha with h | h
          · exact ⟨(J.w a h).1, by have := (J.w a h).2; omega⟩
          · rw [List.mem_singleton.1 h]
            refine ⟨⟨by show 0 ≤ y; omega, by show y < 4; omega, by show (0 : Int) ≤ (k : Int); omega, Int.le_refl _, by show (k : Int) + 1 ≤ _; omega⟩, by show (k : Int) + 1 ≤ _; omega⟩
        · by_cases ci : i + 1 < W.length
          · rw [List.getElem?_append_left ci] at hB
            rw [List.getElem?_append_left (by omega)] at hA
            exact J.c i a b hA hB
          · have hlb := (List.getElem?_eq_some_iff.1 hB).1
            rw [List.length_append, List.length_singleton] at hlb
            have ei : i + 1 = W.length := by omega
            rw [ei, List.getElem?_append_right (Nat.le_refl _), Nat.sub_self] at hB
            simp only [List.getElem?_cons_zero, Option.some.injEq] at hB
            subst hB
            rw [List.getElem?_append_left (by omega)] at hA
            rintro ⟨g1, g2⟩
            simp only at g1 g2
            have hil : i < W.length := by omega
            have hW : W = W.take i ++ [a] := by
              have h1 := List.take_append_getElem hil
              have h2 : W.take (i + 1) = W := List.take_of_length_le (by omega)
              rw [h2] at h1
              rw [List.getElem?_eq_getElem hil] at hA
              cases hA
              exact h1.symm
            have := J.e2 _ a hW g1
            exact c1 ⟨by omega, cy⟩
        · rw [whoV_snoc hbefore]
          by_cases cx : x < k
          · rw [if_neg (fun hi => by have := hi.1; simp only at this; omega)]; exact J.v x cx z hz
          · have ex : x = k := by omega
            subst ex
            rw [hty] at hz
            cases hz
            rw [if_pos (by unfold inW; simp only; omega)]
        · have := List.append_inj' he rfl
          have e2 : w1 = ⟨y, (k : Int), 1⟩ := by have := this.2; simp at this; exact this.symm
          rw [e2]
    have rest : ∃ r, (fk (!decide (y = (-1 : Int))) (ck (decide ((W.length + ([⟨y, (k : Int), (1 : Int)⟩] : List Window).length) * 24 ≤ 140737488355328)) (nx (y, W ++ ([⟨y, (k : Int), (1 : Int)⟩] : List Window), ((k + 1 : Nat) : Int)))) (nx (y, W, ((k + 1 : Nat) : Int)))) = some r ∧ (r.2 = 0 ∧ tabP r.1 ∧ r.1.Frame = (ts.length : Int) ∧ ∀ x : Nat, ∀ y, ts[x]? = some y → whoV r.1.Windows (x : Int) = y) := by
      have := J.l
      by_cases cy : y = -1
      · rw [decide_eq_true cy, Bool.not_true, fk_f]
        exact go W (tail W (fun _ => rfl) (fun h => absurd cy h))
      · rw [decide_eq_false cy, Bool.not_false, fk_t, ck_t (by simp; omega)]
        exact go _ (tail _ (fun h => absurd h cy) (fun _ => rfl))
    by_cases c2 : y = last
    · have cy : y = -1 := Classical.byContradiction fun h => c1 ⟨c2, h⟩
      rw [decide_eq_true c2, fk_t, decide_eq_true cy]
      rw [decide_eq_true cy] at rest
      exact rest
    · rw [decide_eq_false c2, fk_f]
      exact rest
  obtain ⟨r, e, a, b, c, d⟩ := key
  refine ⟨r.1, ?_, b, c, d⟩
  rw [e]
  obtain ⟨x, y⟩ := r
  simp only at a
  rw [a]
end Go.Proofs.YtldlcdnhdedoeaaGreat
namespace Go.Proofs.YtldlcdnhdedoeaaGreat
open Go Go.VC
noncomputable def synth_Frame (a0 : List Face) : Option (Int × Int) :=
  fk (decide ((a0.length : Int) > (4 : Int))) (some ((0 : Int), (1 : Int))) (lp (fun nx1 (v1 : Int) => fk (decide (v1 < (a0.length : Int))) (ix a0 v1 fun x2 => bnd (supply_Right x2) fun x3 => fk (!x3) (some ((0 : Int), (1 : Int))) (nx1 (wr (v1 + (1 : Int))))) (lp (fun nx4 (v4 : Int × Int) => fk (decide (v4.2 < (a0.length : Int))) (ix a0 v4.2 fun x5 => bnd (arith_Lcm v4.1 x5.P) fun x6 => jn (fun (w7 : Bool) => fk w7 (some ((0 : Int), (5 : Int))) (nx4 (x6.1, (wr (v4.2 + (1 : Int)))))) (fun k7 => fk (!decide (x6.2 = (0 : Int))) (k7 true) (k7 (decide (x6.1 > (240 : Int)))))) (some (v4.1, (0 : Int)))) FU ((1 : Int), (0 : Int)))) FU (0 : Int))
theorem synth_Frame_w (a0 : List Face) (r : Int × Int) (h : synth_Frame a0 = some r) : Go.VC.Spec Tryz.prog 151 [.d (.sl (a0.map Face.enc))] (fun y => y = E_Int_Int r) := by
  refine Go.VC.Spec.of_xc (args := [.d (.sl (a0.map Face.enc))]) (fn := Tryz.f151) tab ⟨[(0, [0]), (1, [0, 13]), (2, [2, 3]), (3, [0, 14, 15, 16]), (4, [0, 14, 15, 16, 17]), (5, [0, 5, 14, 15, 16]), (6, [0, 14, 15, 16, 22]), (7, [2, 3]), (8, [0, 14, 15, 16]), (9, [0, 6]), (10, [6, 24, 25, 26]), (11, [6, 24, 25, 26, 27]), (12, [6, 8, 24, 25, 26]), (13, [9, 10, 24, 25, 26]), (14, [9, 24, 25, 26, 42]), (15, [2, 3]), (16, [6, 24, 25, 26]), (17, [6, 24, 25, 26]), (18, [2, 3])], [], [100042], []⟩ 46 [.tmp 2, .tmp 3] rfl rfl rfl rfl rfl rfl ?_
  conv => whnf
  refine lenS a0 Face.enc rfl ?_
  conv => whnf
  refine fkS h (fun h => ?_) (fun h => ?_)
  · conv => whnf
    exact rt (E := E_Int_Int) h rfl
  conv => whnf
  refine lenS a0 Face.enc rfl ?_
  conv => whnf
  refine lpS (fun v1 => ⟨[(0, .l (.d (.sl (a0.map Face.enc)))), (14, .l (.d (.sl (a0.map Face.enc)))), (15, .l (.d (.int .i64 (a0.length : Int)))), (16, .l (.d (.int .i64 v1)))], 46, [], [], []⟩) h (Weak.refl _) (fun _ nx1 hn1 v1 h => ?_)
  conv => whnf
  refine fkS h (fun h => ?_) (fun h => ?_)
  · conv => whnf
    refine ixS (enc := Face.enc) h rfl (fun _ => rfl) (fun x2 h => ?_)
    conv => whnf
    refine caS (E := E_Bool) h (supply_Right_w x2) rfl (fun _ => rfl) (fun x3 h => ?_)
    conv => whnf
    refine fkS h (fun h => ?_) (fun h => ?_)
    · conv => whnf
      exact rt (E := E_Int_Int) h rfl
    conv => whnf
    exact leS hn1 h (Weak.refl _)
  conv => whnf
  refine lenS a0 Face.enc rfl ?_
  conv => whnf
  refine lpS (fun v4 => ⟨[(6, .l (.d (.int .i64 v4.1))), (24, .l (.d (.sl (a0.map Face.enc)))), (25, .l (.d (.int .i64 (a0.length : Int)))), (26, .l (.d (.int .i64 v4.2)))], 46, [], [], []⟩) h (Weak.refl _) (fun _ nx4 hn4 v4 h => ?_)
  conv => whnf
  refine fkS h (fun h => ?_) (fun h => ?_)
  · conv => whnf
    refine ixS (enc := Face.enc) h rfl (fun _ => rfl) (fun x5 h => ?_)
    conv => whnf
    refine caS (E := E_Int_Int) h (arith_Lcm_w v4.1 x5.P) rfl (fun _ => rfl) (fun x6 h => ?_)
    conv => whnf
    refine jnS (fun w7 => ⟨[(9, .l (.d (.int .i64 x6.1))), (24, .l (.d (.sl (a0.map Face.enc)))), (25, .l (.d (.int .i64 (a0.length : Int)))), (26, .l (.d (.int .i64 v4.2))), (42, .l (.d (.bool w7)))], 46, [], [], []⟩) h (fun k7 hk7 h => ?_) (fun w7 h => ?_)
    · conv => whnf
      refine fkS h (fun h => ?_) (fun h => ?_)
      · conv => whnf
        exact jeS hk7 h (Weak.refl _)
      conv => whnf
      exact jeS hk7 h (Weak.refl _)
    conv => whnf
    refine fkS h (fun h => ?_) (fun h => ?_)
    · conv => whnf
      exact rt (E := E_Int_Int) h rfl
    conv => whnf
    exact leS hn4 h (Weak.refl _)
  conv => whnf
  exact rt (E := E_Int_Int) h rfl

end Go.Proofs.YtldlcdnhdedoeaaGreat
namespace Go.Proofs.YtldlcdnhdedoeaaGreat
open Go Go.VC
noncomputable def synth_Lay (a0 : List Face) : Option ((List Int) × Int) :=
  bnd (synth_Frame a0) fun x1 => fk (!decide (x1.2 = (0 : Int))) (some ([], x1.2)) (ck (decide ((0 : Int) ≤ (a0.length : Int)) && decide ((a0.length : Int) * ((8 : Nat) : Int) ≤ 140737488355328) && decide ((a0.length : Int) ≤ 1000000000000)) (lp (fun nx2 (v2 : (List Int) × (List Int) × Int) => fk (decide (v2.2.2 < x1.1)) (lp (fun nx3 (v3 : (List Int) × Int) => fk (decide (v3.2 < (a0.length : Int))) (jn (fun (w4 : List Int) => nx3 (w4, (wr (v3.2 + (1 : Int))))) (fun k4 => ix a0 v3.2 fun x5 => ck (decide (x5.P ≠ 0)) (fk (!decide ((v2.2.2.tmod x5.P) = (0 : Int))) (k4 v3.1) (ck (decide (0 ≤ v3.2) && decide (v3.2 < (v3.1.length : Int))) (ox v3.1 v3.2.toNat fun x6 => fk (decide (x6 > (0 : Int))) (some ([], (7 : Int))) (ck (decide (0 ≤ v3.2) && decide (v3.2 < (v3.1.length : Int))) (ox v3.1 v3.2.toNat fun x7 => k4 (v3.1.set v3.2.toNat x5.B)))))))) (lp (fun nx8 (v8 : Int × Int × Int) => fk (decide (v8.2.2 < (a0.length : Int))) (jn (fun (w9 : Int × Int) => nx8 (w9.1, w9.2, (wr (v8.2.2 + (1 : Int))))) (fun k9 => ix a0 v8.2.2 fun x10 => ck (decide (x10.P ≠ 0)) (jn (fun (w11 : Bool) => fk w11 (k9 (v8.2.2, (wr ((wr (v2.2.2 - (v2.2.2.tmod x10.P))) + x10.P)))) (k9 (v8.1, v8.2.1))) (fun k11 => ck (decide (0 ≤ v8.2.2) && decide (v8.2.2 < (v3.1.length : Int))) (ox v3.1 v8.2.2.toNat fun x12 => fk (decide (x12 > (0 : Int))) (fk (decide (v8.1 = (-1 : Int))) (k11 true) (k11 (decide ((wr ((wr (v2.2.2 - (v2.2.2.tmod x10.P))) + x10.P)) < v8.2.1)))) (k11 false)))))) (fk (!decide (v8.1 = (-1 : Int))) (ck (decide (0 ≤ v8.1) && decide (v8.1 < (v3.1.length : Int))) (ox v3.1 v8.1.toNat fun x13 => ck (decide (0 ≤ v8.1) && decide (v8.1 < (v3.1.length : Int))) (ox v3.1 v8.1.toNat fun x14 => ck (decide ((v2.1.length + ([v8.1] : List Int).length) * 8 ≤ 140737488355328)) (nx2 (v2.1 ++ ([v8.1] : List Int), v3.1.set v8.1.toNat (wr (x13 - (1 : Int))), (wr (v2.2.2 + (1 : Int)))))))) (ck (decide ((v2.1.length + ([v8.1] : List Int).length) * 8 ≤ 140737488355328)) (nx2 (v2.1 ++ ([v8.1] : List Int), v3.1, (wr (v2.2.2 + (1 : Int)))))))) FU ((-1 : Int), (0 : Int), (0 : Int)))) FU (v2.2.1, (0 : Int))) (lp (fun nx15 (v15 : (List Int) × Int) => fk (decide (v15.2 < (a0.length : Int))) (jn (fun (w16 : List Int) => nx15 (w16, (wr (v15.2 + (1 : Int))))) (fun k16 => ix a0 v15.2 fun x17 => ck (decide (x17.P ≠ 0)) (fk (!decide ((x1.1.tmod x17.P) = (0 : Int))) (k16 v15.1) (ck (decide (0 ≤ v15.2) && decide (v15.2 < (v15.1.length : Int))) (ox v15.1 v15.2.toNat fun x18 => fk (decide (x18 > (0 : Int))) (some ([], (7 : Int))) (ck (decide (0 ≤ v15.2) && decide (v15.2 < (v15.1.length : Int))) (ox v15.1 v15.2.toNat fun x19 => k16 (v15.1.set v15.2.toNat x17.B)))))))) (some (v2.1, (0 : Int)))) FU (v2.2.1, (0 : Int)))) FU ([], List.replicate (a0.length : Int).toNat ((0 : Int) : Int), (0 : Int))))
theorem synth_Lay_w (a0 : List Face) (r : (List Int) × Int) (h : synth_Lay a0 = some r) : Go.VC.Spec Tryz.prog 113 [.d (.sl (a0.map Face.enc))] (fun y => y = E_ListInt_Int r) := by
  refine Go.VC.Spec.of_xc (args := [.d (.sl (a0.map Face.enc))]) (fn := Tryz.f113) tab ⟨[(0, [0]), (1, [0, 4, 5]), (2, [0, 4, 5, 17]), (3, [2, 3]), (4, [4, 6]), (5, [4, 7, 8]), (6, [4, 7, 8, 9]), (7, [4, 7, 8, 9, 29, 30]), (8, [4, 7, 8, 9, 29, 30, 31]), (9, [4, 7, 8, 9, 10, 29, 30]), (10, [4, 7, 8, 9, 10, 29, 30, 36]), (11, [2, 3]), (12, [4, 7, 8, 9, 29, 30]), (13, [4, 7, 8, 9, 29, 30]), (14, [9, 47]), (15, [2, 3]), (16, [2, 3])], [], [], []⟩ 49 [.tmp 2, .tmp 3] rfl rfl rfl rfl rfl rfl ?_
  conv => whnf
  refine caS (E := E_Int_Int) h (synth_Frame_w a0) rfl (fun _ => rfl) (fun x1 h => ?_)
  conv => whnf
  refine fkS h (fun h => ?_) (fun h => ?_)
  · conv => whnf
    exact rt (E := E_ListInt_Int) h rfl
  conv => whnf
  refine lenS a0 Face.enc rfl ?_
  conv => whnf
  refine mkS ((0 : Int) : Int) (eI .i64) h rfl rfl (fun h => ?_)
  conv => whnf
  refine lpS (fun v2 => ⟨[(4, .l (.d (.int .i64 x1.1))), (7, .l (.mfn 152 25)), (8, .l (.mfn 153 25)), (9, .l (.own 10)), (29, .l (.d (.int .i64 x1.1))), (30, .l (.d (.int .i64 v2.2.2)))], 49, [], [(25, [.d (.sl (a0.map Face.enc)), .own 23])], [(10, 3, 1, v2.1.map (eI .i64)), (23, 3, 1, v2.2.1.map (eI .i64))]⟩) h (Weak.trans (Weak.nilO _ 9 10 3 1 rfl) (Weak.refl _)) (fun _ nx2 hn2 v2 h => ?_)
  conv => whnf
  refine fkS h (fun h => ?_) (fun h => ?_)
  · conv => whnf
    refine inS (fn := Tryz.f152) tab ⟨[(0, [0, 1]), (1, [0, 1, 10, 11, 12]), (2, [0, 1, 10, 11, 12, 13]), (3, [0, 1, 5, 6, 10, 11, 12]), (4, [0, 1, 5, 6, 10, 11, 12, 21]), (5, [0, 1, 5, 6, 10, 11, 12, 29]), (6, [4]), (7, [0, 1, 10, 11, 12]), (8, [0, 1, 10, 11, 12]), (9, [4])], [], [8], []⟩ 39 [.tmp 4] rfl rfl rfl rfl rfl rfl ?_
    conv => whnf
    refine lenS a0 Face.enc rfl ?_
    conv => whnf
    refine lpS (fun v3 => ⟨[(0, .l (.ptr 25 0)), (1, .l (.d (.int .i64 v2.2.2))), (10, .l (.d (.sl (a0.map Face.enc)))), (11, .l (.d (.int .i64 (a0.length : Int)))), (12, .l (.d (.int .i64 v3.2)))], 39, [⟨[(34, .l (.d (.int .i64 v2.2.2))), (33, .l (.mfn 152 25)), (4, .l (.d (.int .i64 x1.1))), (7, .l (.mfn 152 25)), (8, .l (.mfn 153 25)), (9, .l (.own 10)), (10, .l (.d (.int .i64 v2.2.2))), (29, .l (.d (.int .i64 x1.1))), (30, .l (.d (.int .i64 v2.2.2)))], 49⟩], [(25, [.d (.sl (a0.map Face.enc)), .own 23])], [(10, 3, 1, v2.1.map (eI .i64)), (23, 3, 1, v3.1.map (eI .i64))]⟩) h (Weak.refl _) (fun _ nx3 hn3 v3 h => ?_)
    conv => whnf
    refine fkS h (fun h => ?_) (fun h => ?_)
    · conv => whnf
      refine jnS (fun w4 => ⟨[(0, .l (.ptr 25 0)), (1, .l (.d (.int .i64 v2.2.2))), (10, .l (.d (.sl (a0.map Face.enc)))), (11, .l (.d (.int .i64 (a0.length : Int)))), (12, .l (.d (.int .i64 v3.2)))], 39, [⟨[(34, .l (.d (.int .i64 v2.2.2))), (33, .l (.mfn 152 25)), (4, .l (.d (.int .i64 x1.1))), (7, .l (.mfn 152 25)), (8, .l (.mfn 153 25)), (9, .l (.own 10)), (10, .l (.d (.int .i64 v2.2.2))), (29, .l (.d (.int .i64 x1.1))), (30, .l (.d (.int .i64 v2.2.2)))], 49⟩], [(25, [.d (.sl (a0.map Face.enc)), .own 23])], [(10, 3, 1, v2.1.map (eI .i64)), (23, 3, 1, w4.map (eI .i64))]⟩) h (fun k4 hk4 h => ?_) (fun w4 h => ?_)
      · conv => whnf
        refine ixS (enc := Face.enc) h rfl (fun _ => rfl) (fun x5 h => ?_)
        conv => whnf
        refine dvS h (fun h => ?_)
        conv => whnf
        refine fkS h (fun h => ?_) (fun h => ?_)
        · conv => whnf
          refine jeX hk4 h ?_
          conv => whnf
          refine WkF.step (Weak.keepS _ [0, 1, 10, 11, 12]) ?_
          conv => whnf
          exact WkF.refl _
        conv => whnf
        refine ioS (enc := (eI .i64)) h rfl (fun h => ?_)
        conv => whnf
        refine oxS (enc := (eI .i64)) h rfl (fun x6 h => ?_)
        conv => whnf
        refine fkS h (fun h => ?_) (fun h => ?_)
        · conv => whnf
          exact rt (E := E_ListInt_Int) h rfl
        conv => whnf
        refine ⟨7, ?_⟩
        conv => whnf
        refine drS (by kernel_rfl) ?_
        conv => whnf
        refine ioS (enc := (eI .i64)) h rfl (fun h => ?_)
        conv => whnf
        refine seS (enc := (eI .i64)) h rfl (fun x7 => x5.B) (fun _ => rfl) (fun x7 h => ?_)
        conv => whnf
        exact jeS hk4 h (Weak.refl _)
      conv => whnf
      exact leS hn3 h (Weak.refl _)
    conv => whnf
    refine inS (fn := Tryz.f153) tab ⟨[(0, [0, 1]), (1, [0, 1, 5, 6]), (2, [0, 1, 5, 6, 13, 14, 15]), (3, [0, 1, 5, 6, 13, 14, 15, 16]), (4, [0, 1, 5, 6, 7, 8, 13, 14, 15]), (5, [0, 1, 5, 6, 7, 9, 13, 14, 15]), (6, [0, 1, 5, 6, 7, 9, 13, 14, 15, 45]), (7, [0, 1, 5, 6, 13, 14, 15]), (8, [0, 1, 5, 6, 13, 14, 15]), (9, [0, 5, 50]), (10, [5]), (11, [4])], [], [100045, 8], []⟩ 61 [.tmp 4] rfl rfl rfl rfl rfl rfl ?_
    conv => whnf
    refine lenS a0 Face.enc rfl ?_
    conv => whnf
    refine lpS (fun v8 => ⟨[(0, .l (.ptr 25 0)), (1, .l (.d (.int .i64 v2.2.2))), (5, .l (.d (.int .i64 v8.1))), (6, .l (.d (.int .i64 v8.2.1))), (13, .l (.d (.sl (a0.map Face.enc)))), (14, .l (.d (.int .i64 (a0.length : Int)))), (15, .l (.d (.int .i64 v8.2.2)))], 61, [⟨[(39, .l (.d (.int .i64 v2.2.2))), (38, .l (.mfn 153 25)), (37, .l (.own 10)), (36, .l (.d (.bool false))), (4, .l (.d (.int .i64 x1.1))), (7, .l (.mfn 152 25)), (8, .l (.mfn 153 25)), (9, .l (.own 10)), (10, .l (.d (.int .i64 v2.2.2))), (29, .l (.d (.int .i64 x1.1))), (30, .l (.d (.int .i64 v2.2.2))), (36, .l (.d (.bool false)))], 49⟩], [(25, [.d (.sl (a0.map Face.enc)), .own 23])], [(10, 3, 1, v2.1.map (eI .i64)), (23, 3, 1, v3.1.map (eI .i64))]⟩) h (Weak.refl _) (fun _ nx8 hn8 v8 h => ?_)
    conv => whnf
    refine fkS h (fun h => ?_) (fun h => ?_)
    · conv => whnf
      refine jnS (fun w9 => ⟨[(0, .l (.ptr 25 0)), (1, .l (.d (.int .i64 v2.2.2))), (5, .l (.d (.int .i64 w9.1))), (6, .l (.d (.int .i64 w9.2))), (13, .l (.d (.sl (a0.map Face.enc)))), (14, .l (.d (.int .i64 (a0.length : Int)))), (15, .l (.d (.int .i64 v8.2.2)))], 61, [⟨[(39, .l (.d (.int .i64 v2.2.2))), (38, .l (.mfn 153 25)), (37, .l (.own 10)), (36, .l (.d (.bool false))), (4, .l (.d (.int .i64 x1.1))), (7, .l (.mfn 152 25)), (8, .l (.mfn 153 25)), (9, .l (.own 10)), (10, .l (.d (.int .i64 v2.2.2))), (29, .l (.d (.int .i64 x1.1))), (30, .l (.d (.int .i64 v2.2.2))), (36, .l (.d (.bool false)))], 49⟩], [(25, [.d (.sl (a0.map Face.enc)), .own 23])], [(10, 3, 1, v2.1.map (eI .i64)), (23, 3, 1, v3.1.map (eI .i64))]⟩) h (fun k9 hk9 h => ?_) (fun w9 h => ?_)
      · conv => whnf
        refine ixS (enc := Face.enc) h rfl (fun _ => rfl) (fun x10 h => ?_)
        conv => whnf
        refine ⟨8, ?_⟩
        conv => whnf
        refine dvS h (fun h => ?_)
        conv => whnf
        refine drS (by kernel_rfl) ?_
        conv => whnf
        refine jnS (fun w11 => ⟨[(0, .l (.ptr 25 0)), (1, .l (.d (.int .i64 v2.2.2))), (5, .l (.d (.int .i64 v8.1))), (6, .l (.d (.int .i64 v8.2.1))), (7, .l (.d (.int .i64 v8.2.2))), (9, .l (.d (.int .i64 (wr ((wr (v2.2.2 - (v2.2.2.tmod x10.P))) + x10.P))))), (13, .l (.d (.sl (a0.map Face.enc)))), (14, .l (.d (.int .i64 (a0.length : Int)))), (15, .l (.d (.int .i64 v8.2.2))), (45, .l (.d (.bool w11)))], 61, [⟨[(39, .l (.d (.int .i64 v2.2.2))), (38, .l (.mfn 153 25)), (37, .l (.own 10)), (36, .l (.d (.bool false))), (4, .l (.d (.int .i64 x1.1))), (7, .l (.mfn 152 25)), (8, .l (.mfn 153 25)), (9, .l (.own 10)), (10, .l (.d (.int .i64 v2.2.2))), (29, .l (.d (.int .i64 x1.1))), (30, .l (.d (.int .i64 v2.2.2))), (36, .l (.d (.bool false)))], 49⟩], [(25, [.d (.sl (a0.map Face.enc)), .own 23])], [(10, 3, 1, v2.1.map (eI .i64)), (23, 3, 1, v3.1.map (eI .i64))]⟩) h (fun k11 hk11 h => ?_) (fun w11 h => ?_)
        · conv => whnf
          refine ioS (enc := (eI .i64)) h rfl (fun h => ?_)
          conv => whnf
          refine oxS (enc := (eI .i64)) h rfl (fun x12 h => ?_)
          conv => whnf
          refine fkS h (fun h => ?_) (fun h => ?_)
          · conv => whnf
            refine fkS h (fun h => ?_) (fun h => ?_)
            · conv => whnf
              exact jeS hk11 h (Weak.refl _)
            conv => whnf
            exact jeS hk11 h (Weak.refl _)
          conv => whnf
          exact jeS hk11 h (Weak.refl _)
        conv => whnf
        refine fkS h (fun h => ?_) (fun h => ?_)
        · conv => whnf
          exact jeS hk9 h (Weak.refl _)
        conv => whnf
        refine jeX hk9 h ?_
        conv => whnf
        refine WkF.step (Weak.keepS _ [0, 1, 5, 6, 13, 14, 15]) ?_
        conv => whnf
        exact WkF.refl _
      conv => whnf
      exact leS hn8 h (Weak.refl _)
    conv => whnf
    refine fkS h (fun h => ?_) (fun h => ?_)
    · conv => whnf
      refine ioS (enc := (eI .i64)) h rfl (fun h => ?_)
      conv => whnf
      refine oxS (enc := (eI .i64)) h rfl (fun x13 h => ?_)
      conv => whnf
      refine ioS (enc := (eI .i64)) h rfl (fun h => ?_)
      conv => whnf
      refine seS (enc := (eI .i64)) h rfl (fun x14 => (wr (x13 - (1 : Int)))) (fun _ => rfl) (fun x14 h => ?_)
      conv => whnf
      refine liS ([v8.1] : List Int) (eI .i64) rfl rfl ?_
      conv => whnf
      refine apS (enc := (eI .i64)) (l1 := v2.1) (l2 := ([v8.1] : List Int)) h rfl rfl (fun _ => rfl) (fun h => ?_)
      conv => whnf
      exact leS hn2 h (Weak.refl _)
    conv => whnf
    refine liS ([v8.1] : List Int) (eI .i64) rfl rfl ?_
    conv => whnf
    refine apS (enc := (eI .i64)) (l1 := v2.1) (l2 := ([v8.1] : List Int)) h rfl rfl (fun _ => rfl) (fun h => ?_)
    conv => whnf
    exact leS hn2 h (Weak.refl _)
  conv => whnf
  refine inS (fn := Tryz.f152) tab ⟨[(0, [0, 1]), (1, [0, 1, 10, 11, 12]), (2, [0, 1, 10, 11, 12, 13]), (3, [0, 1, 5, 6, 10, 11, 12]), (4, [0, 1, 5, 6, 10, 11, 12, 21]), (5, [0, 1, 5, 6, 10, 11, 12, 29]), (6, [4]), (7, [0, 1, 10, 11, 12]), (8, [0, 1, 10, 11, 12]), (9, [4])], [], [8], []⟩ 39 [.tmp 4] rfl rfl rfl rfl rfl rfl ?_
  conv => whnf
  refine lenS a0 Face.enc rfl ?_
  conv => whnf
  refine lpS (fun v15 => ⟨[(0, .l (.ptr 25 0)), (1, .l (.d (.int .i64 x1.1))), (10, .l (.d (.sl (a0.map Face.enc)))), (11, .l (.d (.int .i64 (a0.length : Int)))), (12, .l (.d (.int .i64 v15.2)))], 39, [⟨[(45, .l (.d (.int .i64 x1.1))), (44, .l (.mfn 152 25)), (31, .l (.d (.bool false))), (4, .l (.d (.int .i64 x1.1))), (7, .l (.mfn 152 25)), (8, .l (.mfn 153 25)), (9, .l (.own 10)), (29, .l (.d (.int .i64 x1.1))), (30, .l (.d (.int .i64 v2.2.2))), (31, .l (.d (.bool (decide (v2.2.2 < x1.1)))))], 49⟩], [(25, [.d (.sl (a0.map Face.enc)), .own 23])], [(10, 3, 1, v2.1.map (eI .i64)), (23, 3, 1, v15.1.map (eI .i64))]⟩) h (Weak.refl _) (fun _ nx15 hn15 v15 h => ?_)
  conv => whnf
  refine fkS h (fun h => ?_) (fun h => ?_)
  · conv => whnf
    refine jnS (fun w16 => ⟨[(0, .l (.ptr 25 0)), (1, .l (.d (.int .i64 x1.1))), (10, .l (.d (.sl (a0.map Face.enc)))), (11, .l (.d (.int .i64 (a0.length : Int)))), (12, .l (.d (.int .i64 v15.2)))], 39, [⟨[(45, .l (.d (.int .i64 x1.1))), (44, .l (.mfn 152 25)), (31, .l (.d (.bool false))), (4, .l (.d (.int .i64 x1.1))), (7, .l (.mfn 152 25)), (8, .l (.mfn 153 25)), (9, .l (.own 10)), (29, .l (.d (.int .i64 x1.1))), (30, .l (.d (.int .i64 v2.2.2))), (31, .l (.d (.bool (decide (v2.2.2 < x1.1)))))], 49⟩], [(25, [.d (.sl (a0.map Face.enc)), .own 23])], [(10, 3, 1, v2.1.map (eI .i64)), (23, 3, 1, w16.map (eI .i64))]⟩) h (fun k16 hk16 h => ?_) (fun w16 h => ?_)
    · conv => whnf
      refine ixS (enc := Face.enc) h rfl (fun _ => rfl) (fun x17 h => ?_)
      conv => whnf
      refine dvS h (fun h => ?_)
      conv => whnf
      refine fkS h (fun h => ?_) (fun h => ?_)
      · conv => whnf
        refine jeX hk16 h ?_
        conv => whnf
        refine WkF.step (Weak.keepS _ [0, 1, 10, 11, 12]) ?_
        conv => whnf
        exact WkF.refl _
      conv => whnf
      refine ioS (enc := (eI .i64)) h rfl (fun h => ?_)
      conv => whnf
      refine oxS (enc := (eI .i64)) h rfl (fun x18 h => ?_)
      conv => whnf
      refine fkS h (fun h => ?_) (fun h => ?_)
      · conv => whnf
        exact rt (E := E_ListInt_Int) h rfl
      conv => whnf
      refine ⟨7, ?_⟩
      conv => whnf
      refine drS (by kernel_rfl) ?_
      conv => whnf
      refine ioS (enc := (eI .i64)) h rfl (fun h => ?_)
      conv => whnf
      refine seS (enc := (eI .i64)) h rfl (fun x19 => x17.B) (fun _ => rfl) (fun x19 h => ?_)
      conv => whnf
      exact jeS hk16 h (Weak.refl _)
    conv => whnf
    exact leS hn15 h (Weak.refl _)
  conv => whnf
  exact rt (E := E_ListInt_Int) h rfl

end Go.Proofs.YtldlcdnhdedoeaaGreat
namespace Go.Proofs.YtldlcdnhdedoeaaGreat
open Go Go.VC
noncomputable def ref12_Frame (a0 : List Face) : Option (Int × Int) :=
  fk (decide ((a0.length : Int) > (4 : Int))) (some ((0 : Int), (1 : Int))) (lp (fun nx1 (v1 : Int) => fk (decide (v1 < (a0.length : Int))) (ix a0 v1 fun x2 => bnd (ref09_Right x2) fun x3 => fk (!x3) (some ((0 : Int), (1 : Int))) (nx1 (wr (v1 + (1 : Int))))) (lp (fun nx4 (v4 : Int) => fk (decide (v4 ≤ (240 : Int))) (lp (fun nx5 (v5 : Bool × Int) => fk (decide (v5.2 < (a0.length : Int))) (jn (fun (w6 : Bool) => nx5 (w6, (wr (v5.2 + (1 : Int))))) (fun k6 => fk v5.1 (ix a0 v5.2 fun x7 => ck (decide (x7.P ≠ 0)) (k6 (decide ((v4.tmod x7.P) = (0 : Int))))) (k6 false))) (fk v5.1 (some (v4, (0 : Int))) (nx4 (wr (v4 + (1 : Int)))))) FU (true, (0 : Int))) (some ((0 : Int), (5 : Int)))) FU (1 : Int))) FU (0 : Int))
theorem ref12_Frame_w (a0 : List Face) (r : Int × Int) (h : ref12_Frame a0 = some r) : Go.VC.Spec Tryz.prog 116 [.d (.sl (a0.map Face.enc))] (fun y => y = E_Int_Int r) := by
  refine Go.VC.Spec.of_xc (args := [.d (.sl (a0.map Face.enc))]) (fn := Tryz.f116) tab ⟨[(0, [0]), (1, [0, 10]), (2, [2, 3]), (3, [0, 4]), (4, [0, 4, 14]), (5, [0, 4]), (6, [0, 4, 22]), (7, [2, 3]), (8, [0, 5]), (9, [0, 5, 24]), (10, [0, 5]), (11, [0, 5, 6]), (12, [0, 5, 6, 7]), (13, [0, 5, 6, 7, 30]), (14, [0, 5, 6, 7]), (15, [0, 5, 6, 7]), (16, [0, 5, 44]), (17, [2, 3]), (18, [2, 3])], [], [14], []⟩ 46 [.tmp 2, .tmp 3] rfl rfl rfl rfl rfl rfl ?_
  conv => whnf
  refine lenS a0 Face.enc rfl ?_
  conv => whnf
  refine fkS h (fun h => ?_) (fun h => ?_)
  · conv => whnf
    exact rt (E := E_Int_Int) h rfl
  conv => whnf
  refine lpS (fun v1 => ⟨[(0, .l (.d (.sl (a0.map Face.enc)))), (4, .l (.d (.int .i64 v1)))], 46, [], [], []⟩) h (Weak.refl _) (fun _ nx1 hn1 v1 h => ?_)
  conv => whnf
  refine lenS a0 Face.enc rfl ?_
  conv => whnf
  refine fkS h (fun h => ?_) (fun h => ?_)
  · conv => whnf
    refine ixS (enc := Face.enc) h rfl (fun _ => rfl) (fun x2 h => ?_)
    conv => whnf
    refine caS (E := E_Bool) h (ref09_Right_w x2) rfl (fun _ => rfl) (fun x3 h => ?_)
    conv => whnf
    refine fkS h (fun h => ?_) (fun h => ?_)
    · conv => whnf
      exact rt (E := E_Int_Int) h rfl
    conv => whnf
    exact leS hn1 h (Weak.refl _)
  conv => whnf
  refine lpS (fun v4 => ⟨[(0, .l (.d (.sl (a0.map Face.enc)))), (5, .l (.d (.int .i64 v4)))], 46, [], [], []⟩) h (Weak.refl _) (fun _ nx4 hn4 v4 h => ?_)
  conv => whnf
  refine fkS h (fun h => ?_) (fun h => ?_)
  · conv => whnf
    refine lpS (fun v5 => ⟨[(0, .l (.d (.sl (a0.map Face.enc)))), (5, .l (.d (.int .i64 v4))), (6, .l (.d (.bool v5.1))), (7, .l (.d (.int .i64 v5.2)))], 46, [], [], []⟩) h (Weak.refl _) (fun _ nx5 hn5 v5 h => ?_)
    conv => whnf
    refine lenS a0 Face.enc rfl ?_
    conv => whnf
    refine fkS h (fun h => ?_) (fun h => ?_)
    · conv => whnf
      refine jnS (fun w6 => ⟨[(0, .l (.d (.sl (a0.map Face.enc)))), (5, .l (.d (.int .i64 v4))), (6, .l (.d (.bool w6))), (7, .l (.d (.int .i64 v5.2)))], 46, [], [], []⟩) h (fun k6 hk6 h => ?_) (fun w6 h => ?_)
      · conv => whnf
        refine fkS h (fun h => ?_) (fun h => ?_)
        · conv => whnf
          refine ixS (enc := Face.enc) h rfl (fun _ => rfl) (fun x7 h => ?_)
          conv => whnf
          refine dvS h (fun h => ?_)
          conv => whnf
          exact jeS hk6 h (Weak.refl _)
        conv => whnf
        exact jeS hk6 h (Weak.refl _)
      conv => whnf
      exact leS hn5 h (Weak.refl _)
    conv => whnf
    refine fkS h (fun h => ?_) (fun h => ?_)
    · conv => whnf
      exact rt (E := E_Int_Int) h rfl
    conv => whnf
    exact leS hn4 h (Weak.refl _)
  conv => whnf
  exact rt (E := E_Int_Int) h rfl

end Go.Proofs.YtldlcdnhdedoeaaGreat
namespace Go.Proofs.YtldlcdnhdedoeaaGreat
open Go Go.VC
noncomputable def ref12_Had (a0 : List Int) (a1 : Int) (a2 : Int) : Option Int :=
  lp (fun nx1 (v1 : Int × Int) => fk (decide (v1.2 < (a0.length : Int))) (jn (fun (w2 : Int) => nx1 (w2, (wr (v1.2 + (1 : Int))))) (fun k2 => ix a0 v1.2 fun x3 => fk (decide (x3 = a1)) (k2 (wr (v1.1 + (1 : Int)))) (k2 v1.1))) (some v1.1)) FU ((0 : Int), a2)
theorem ref12_Had_w (a0 : List Int) (a1 : Int) (a2 : Int) (r : Int) (h : ref12_Had a0 a1 a2 = some r) : Go.VC.Spec Tryz.prog 118 [.d (.sl (a0.map (eI .i64))), .d (.int .i64 a1), .d (.int .i64 a2)] (fun y => y = E_Int r) := by
  refine Go.VC.Spec.of_xc (args := [.d (.sl (a0.map (eI .i64))), .d (.int .i64 a1), .d (.int .i64 a2)]) (fn := Tryz.f118) tab ⟨[(0, [0, 1, 2]), (1, [0, 1, 2, 7]), (2, [0, 1, 7, 8]), (3, [0, 1, 7, 8, 13]), (4, [0, 1, 7, 8]), (5, [0, 1, 7, 8, 21]), (6, [0, 1, 7, 8]), (7, [6])], [], [4], []⟩ 25 [.tmp 6] rfl rfl rfl rfl rfl rfl ?_
  conv => whnf
  refine lpS (fun v1 => ⟨[(0, .l (.d (.sl (a0.map (eI .i64))))), (1, .l (.d (.int .i64 a1))), (7, .l (.d (.int .i64 v1.1))), (8, .l (.d (.int .i64 v1.2)))], 25, [], [], []⟩) h (Weak.refl _) (fun _ nx1 hn1 v1 h => ?_)
  conv => whnf
  refine lenS a0 (eI .i64) rfl ?_
  conv => whnf
  refine fkS h (fun h => ?_) (fun h => ?_)
  · conv => whnf
    refine jnS (fun w2 => ⟨[(0, .l (.d (.sl (a0.map (eI .i64))))), (1, .l (.d (.int .i64 a1))), (7, .l (.d (.int .i64 w2))), (8, .l (.d (.int .i64 v1.2)))], 25, [], [], []⟩) h (fun k2 hk2 h => ?_) (fun w2 h => ?_)
    · conv => whnf
      refine ixS (enc := (eI .i64)) h rfl (fun _ => rfl) (fun x3 h => ?_)
      conv => whnf
      refine fkS h (fun h => ?_) (fun h => ?_)
      · conv => whnf
        exact jeS hk2 h (Weak.refl _)
      conv => whnf
      refine jeX hk2 h ?_
      conv => whnf
      refine WkF.step (Weak.keepS _ [0, 1, 7, 8]) ?_
      conv => whnf
      exact WkF.refl _
    conv => whnf
    exact leS hn1 h (Weak.refl _)
  conv => whnf
  exact rt (E := E_Int) h rfl

end Go.Proofs.YtldlcdnhdedoeaaGreat
namespace Go.Proofs.YtldlcdnhdedoeaaGreat
open Go Go.VC
noncomputable def ref12_Wants (a0 : List Face) (a1 : List Int) (a2 : Int) (a3 : Int) : Option Int :=
  ix a0 a2 fun x1 => ix a0 a2 fun x2 => ck (decide (x2.P ≠ 0)) (ix a0 a2 fun x3 => bnd (ref12_Had a1 a2 (wr ((wr (a3.tdiv x2.P)) * x3.P))) fun x4 => some (wr (x1.B - x4)))
theorem ref12_Wants_w (a0 : List Face) (a1 : List Int) (a2 : Int) (a3 : Int) (r : Int) (h : ref12_Wants a0 a1 a2 a3 = some r) : Go.VC.Spec Tryz.prog 117 [.d (.sl (a0.map Face.enc)), .d (.sl (a1.map (eI .i64))), .d (.int .i64 a2), .d (.int .i64 a3)] (fun y => y = E_Int r) := by
  refine Go.VC.Spec.of_xc (args := [.d (.sl (a0.map Face.enc)), .d (.sl (a1.map (eI .i64))), .d (.int .i64 a2), .d (.int .i64 a3)]) (fn := Tryz.f117) tab ⟨[(0, [0, 1, 2, 3]), (1, [8])], [], [], []⟩ 31 [.tmp 8] rfl rfl rfl rfl rfl rfl ?_
  conv => whnf
  refine ⟨21, ?_⟩
  conv => whnf
  refine ixS (enc := Face.enc) h rfl (fun _ => rfl) (fun x1 h => ?_)
  conv => whnf
  refine ixS (enc := Face.enc) h rfl (fun _ => rfl) (fun x2 h => ?_)
  conv => whnf
  refine dvS h (fun h => ?_)
  conv => whnf
  refine ixS (enc := Face.enc) h rfl (fun _ => rfl) (fun x3 h => ?_)
  conv => whnf
  refine daS (E := E_Int) h (ref12_Had_w a1 a2 (wr ((wr (a3.tdiv x2.P)) * x3.P))) (fun _ => rfl) (fun x4 h => ?_)
  conv => whnf
  refine drS (by kernel_rfl) ?_
  conv => whnf
  exact rt (E := E_Int) h rfl

end Go.Proofs.YtldlcdnhdedoeaaGreat
namespace Go.Proofs.YtldlcdnhdedoeaaGreat
open Go Go.VC
noncomputable def ref12_Lay (a0 : List Face) : Option ((List Int) × Int) :=
  bnd (ref12_Frame a0) fun x1 => fk (!decide (x1.2 = (0 : Int))) (some ([], x1.2)) (lp (fun nx2 (v2 : (List Int) × Int) => fk (decide (v2.2 < x1.1)) (lp (fun nx3 (v3 : Int × Int) => fk (decide (v3.2 ≥ (0 : Int))) (jn (fun (w4 : Int) => nx3 (w4, (wr (v3.2 - (1 : Int))))) (fun k4 => jn (fun (w5 : Bool) => fk w5 (k4 v3.2) (k4 v3.1)) (fun k5 => bnd (ref12_Wants a0 v2.1 v3.2 v2.2) fun x6 => fk (decide (x6 > (0 : Int))) (fk (decide (v3.1 < (0 : Int))) (k5 true) (ix a0 v3.2 fun x7 => ck (decide (x7.P ≠ 0)) (ix a0 v3.2 fun x8 => ix a0 v3.1 fun x9 => ck (decide (x9.P ≠ 0)) (ix a0 v3.1 fun x10 => k5 (decide ((wr ((wr ((wr (v2.2.tdiv x7.P)) + (1 : Int))) * x8.P)) ≤ (wr ((wr ((wr (v2.2.tdiv x9.P)) + (1 : Int))) * x10.P)))))))) (k5 false)))) (ck (decide ((v2.1.length + ([v3.1] : List Int).length) * 8 ≤ 140737488355328)) (lp (fun nx11 (v11 : Int) => fk (decide (v11 < (a0.length : Int))) (jn (fun (w12 : Bool) => fk w12 (some ([], (7 : Int))) (nx11 (wr (v11 + (1 : Int))))) (fun k12 => ix a0 v11 fun x13 => ck (decide (x13.P ≠ 0)) (fk (decide (((wr (v2.2 + (1 : Int))).tmod x13.P) = (0 : Int))) (ix a0 v11 fun x14 => bnd (ref12_Had (v2.1 ++ ([v3.1] : List Int)) v11 (wr ((wr (v2.2 + (1 : Int))) - x14.P))) fun x15 => ix a0 v11 fun x16 => k12 (decide (x15 < x16.B))) (k12 false)))) (nx2 (v2.1 ++ ([v3.1] : List Int), (wr (v2.2 + (1 : Int)))))) FU (0 : Int)))) FU ((-1 : Int), (wr ((a0.length : Int) - (1 : Int))))) (some (v2.1, (0 : Int)))) FU ([], (0 : Int)))
theorem ref12_Lay_w (a0 : List Face) (r : (List Int) × Int) (h : ref12_Lay a0 = some r) : Go.VC.Spec Tryz.prog 58 [.d (.sl (a0.map Face.enc))] (fun y => y = E_ListInt_Int r) := by
  refine Go.VC.Spec.of_xc (args := [.d (.sl (a0.map Face.enc))]) (fn := Tryz.f58) tab ⟨[(0, [0]), (1, [0, 4, 5]), (2, [0, 4, 5, 18]), (3, [2, 3]), (4, [0, 4, 6]), (5, [0, 4, 6, 7]), (6, [0, 4, 6, 7, 22]), (7, [0, 4, 6, 7]), (8, [0, 4, 6, 7, 8]), (9, [0, 4, 6, 7, 8, 9]), (10, [0, 4, 6, 7, 8, 9, 29]), (11, [0, 4, 6, 7, 8, 9]), (12, [0, 4, 6, 7, 8, 9, 72]), (13, [0, 4, 6, 7, 8, 9]), (14, [0, 4, 6, 7]), (15, [0, 4, 6, 7, 10]), (16, [0, 4, 6, 7, 10, 81]), (17, [0, 4, 6, 7, 10]), (18, [0, 4, 6, 7, 10, 11]), (19, [0, 4, 6, 7, 10, 111]), (20, [2, 3]), (21, [2, 3])], [], [100072, 11, 100111], []⟩ 113 [.tmp 2, .tmp 3] rfl rfl rfl rfl rfl rfl ?_
  conv => whnf
  refine caS (E := E_Int_Int) h (ref12_Frame_w a0) rfl (fun _ => rfl) (fun x1 h => ?_)
  conv => whnf
  refine fkS h (fun h => ?_) (fun h => ?_)
  · conv => whnf
    exact rt (E := E_ListInt_Int) h rfl
  conv => whnf
  refine lpS (fun v2 => ⟨[(0, .l (.d (.sl (a0.map Face.enc)))), (4, .l (.d (.int .i64 x1.1))), (6, .l (.own 7)), (7, .l (.d (.int .i64 v2.2)))], 113, [], [], [(7, 3, 1, v2.1.map (eI .i64))]⟩) h (Weak.trans (Weak.nilO _ 6 7 3 1 rfl) (Weak.refl _)) (fun _ nx2 hn2 v2 h => ?_)
  conv => whnf
  refine fkS h (fun h => ?_) (fun h => ?_)
  · conv => whnf
    refine lenS a0 Face.enc rfl ?_
    conv => whnf
    refine lpS (fun v3 => ⟨[(0, .l (.d (.sl (a0.map Face.enc)))), (4, .l (.d (.int .i64 x1.1))), (6, .l (.own 7)), (7, .l (.d (.int .i64 v2.2))), (8, .l (.d (.int .i64 v3.1))), (9, .l (.d (.int .i64 v3.2)))], 113, [], [], [(7, 3, 1, v2.1.map (eI .i64))]⟩) h (Weak.refl _) (fun _ nx3 hn3 v3 h => ?_)
    conv => whnf
    refine fkS h (fun h => ?_) (fun h => ?_)
    · conv => whnf
      refine jnS (fun w4 => ⟨[(0, .l (.d (.sl (a0.map Face.enc)))), (4, .l (.d (.int .i64 x1.1))), (6, .l (.own 7)), (7, .l (.d (.int .i64 v2.2))), (8, .l (.d (.int .i64 w4))), (9, .l (.d (.int .i64 v3.2)))], 113, [], [], [(7, 3, 1, v2.1.map (eI .i64))]⟩) h (fun k4 hk4 h => ?_) (fun w4 h => ?_)
      · conv => whnf
        refine jnS (fun w5 => ⟨[(0, .l (.d (.sl (a0.map Face.enc)))), (4, .l (.d (.int .i64 x1.1))), (6, .l (.own 7)), (7, .l (.d (.int .i64 v2.2))), (8, .l (.d (.int .i64 v3.1))), (9, .l (.d (.int .i64 v3.2))), (72, .l (.d (.bool w5)))], 113, [], [], [(7, 3, 1, v2.1.map (eI .i64))]⟩) h (fun k5 hk5 h => ?_) (fun w5 h => ?_)
        · conv => whnf
          refine ⟨41, ?_⟩
          conv => whnf
          refine daS (E := E_Int) h (ref12_Wants_w a0 v2.1 v3.2 v2.2) (fun _ => rfl) (fun x6 h => ?_)
          conv => whnf
          refine fkS h (fun h => ?_) (fun h => ?_)
          · conv => whnf
            refine fkS h (fun h => ?_) (fun h => ?_)
            · conv => whnf
              refine drS (by kernel_rfl) ?_
              conv => whnf
              exact jeS hk5 h (Weak.refl _)
            conv => whnf
            refine ixS (enc := Face.enc) h rfl (fun _ => rfl) (fun x7 h => ?_)
            conv => whnf
            refine dvS h (fun h => ?_)
            conv => whnf
            refine ixS (enc := Face.enc) h rfl (fun _ => rfl) (fun x8 h => ?_)
            conv => whnf
            refine ixS (enc := Face.enc) h rfl (fun _ => rfl) (fun x9 h => ?_)
            conv => whnf
            refine dvS h (fun h => ?_)
            conv => whnf
            refine ixS (enc := Face.enc) h rfl (fun _ => rfl) (fun x10 h => ?_)
            conv => whnf
            refine drS (by kernel_rfl) ?_
            conv => whnf
            exact jeS hk5 h (Weak.refl _)
          conv => whnf
          refine drS (by kernel_rfl) ?_
          conv => whnf
          exact jeS hk5 h (Weak.refl _)
        conv => whnf
        refine fkS h (fun h => ?_) (fun h => ?_)
        · conv => whnf
          exact jeS hk4 h (Weak.refl _)
        conv => whnf
        refine jeX hk4 h ?_
        conv => whnf
        refine WkF.step (Weak.keepS _ [0, 4, 6, 7, 8, 9]) ?_
        conv => whnf
        exact WkF.refl _
      conv => whnf
      exact leS hn3 h (Weak.refl _)
    conv => whnf
    refine liS ([v3.1] : List Int) (eI .i64) rfl rfl ?_
    conv => whnf
    refine apS (enc := (eI .i64)) (l1 := v2.1) (l2 := ([v3.1] : List Int)) h rfl rfl (fun _ => rfl) (fun h => ?_)
    conv => whnf
    refine lpS (fun v11 => ⟨[(0, .l (.d (.sl (a0.map Face.enc)))), (4, .l (.d (.int .i64 x1.1))), (6, .l (.own 7)), (7, .l (.d (.int .i64 v2.2))), (10, .l (.d (.int .i64 v11)))], 113, [], [], [(7, 3, 1, (v2.1 ++ ([v3.1] : List Int)).map (eI .i64))]⟩) h (Weak.refl _) (fun _ nx11 hn11 v11 h => ?_)
    conv => whnf
    refine lenS a0 Face.enc rfl ?_
    conv => whnf
    refine fkS h (fun h => ?_) (fun h => ?_)
    · conv => whnf
      refine jnS (fun w12 => ⟨[(0, .l (.d (.sl (a0.map Face.enc)))), (4, .l (.d (.int .i64 x1.1))), (6, .l (.own 7)), (7, .l (.d (.int .i64 v2.2))), (10, .l (.d (.int .i64 v11))), (111, .l (.d (.bool w12)))], 113, [], [], [(7, 3, 1, (v2.1 ++ ([v3.1] : List Int)).map (eI .i64))]⟩) h (fun k12 hk12 h => ?_) (fun w12 h => ?_)
      · conv => whnf
        refine ⟨26, ?_⟩
        conv => whnf
        refine ixS (enc := Face.enc) h rfl (fun _ => rfl) (fun x13 h => ?_)
        conv => whnf
        refine dvS h (fun h => ?_)
        conv => whnf
        refine fkS h (fun h => ?_) (fun h => ?_)
        · conv => whnf
          refine ixS (enc := Face.enc) h rfl (fun _ => rfl) (fun x14 h => ?_)
          conv => whnf
          refine daS (E := E_Int) h (ref12_Had_w (v2.1 ++ ([v3.1] : List Int)) v11 (wr ((wr (v2.2 + (1 : Int))) - x14.P))) (fun _ => rfl) (fun x15 h => ?_)
          conv => whnf
          refine ixS (enc := Face.enc) h rfl (fun _ => rfl) (fun x16 h => ?_)
          conv => whnf
          refine drS (by kernel_rfl) ?_
          conv => whnf
          exact jeS hk12 h (Weak.refl _)
        conv => whnf
        refine drS (by kernel_rfl) ?_
        conv => whnf
        exact jeS hk12 h (Weak.refl _)
      conv => whnf
      refine fkS h (fun h => ?_) (fun h => ?_)
      · conv => whnf
        exact rt (E := E_ListInt_Int) h rfl
      conv => whnf
      exact leS hn11 h (Weak.refl _)
    conv => whnf
    exact leS hn2 h (Weak.refl _)
  conv => whnf
  exact rt (E := E_ListInt_Int) h rfl

end Go.Proofs.YtldlcdnhdedoeaaGreat
namespace Go.Proofs.YtldlcdnhdedoeaaGreat
open Go Go.VC
/-! The frame. -/
def facesP (l : List Face) : Prop := (∀ f ∈ l, faceP f) ∧ l.length ≤ 4
def lcmF (c : Nat) (l : List Face) : Nat := l.foldl (fun c f => Nat.lcm c f.P.toNat) c
theorem lcmF_succ (c : Nat) (l : List Face) (k : Nat) (h : k < l.length) : lcmF c (l.take (k + 1)) = Nat.lcm (lcmF c (l.take k)) l[k].P.toNat := by
  unfold lcmF
  rw [← List.take_append_getElem h, List.foldl_append]; rfl
theorem lcmF_dvd : ∀ (l : List Face) (c n : Nat), lcmF c l ∣ n ↔ c ∣ n ∧ ∀ f ∈ l, f.P.toNat ∣ n
  | [], c, n => by simp [lcmF]
  | f :: r, c, n => by
    show lcmF (Nat.lcm c f.P.toNat) r ∣ n ↔ _
    rw [lcmF_dvd r, Nat.lcm_dvd_iff]
    simp only [List.mem_cons, forall_eq_or_imp, and_assoc]
theorem lcmF_pos : ∀ (l : List Face) (c : Nat), 0 < c → (∀ f ∈ l, 1 ≤ f.P) → 0 < lcmF c l
  | [], c, h, _ => h
  | f :: r, c, h, hl => lcmF_pos r _ (Nat.lcm_pos h (by have := hl f List.mem_cons_self; omega)) fun g hg => hl g (List.mem_cons_of_mem _ hg)
noncomputable instance (l : List Face) : Decidable (facesP l) := Classical.propDecidable _
noncomputable def frameV (l : List Face) : Int × Int := if facesP l then (if lcmF 1 l ≤ 240 then ((lcmF 1 l : Nat), 0) else (0, 5)) else (0, 1)
theorem faceP.P {f : Face} (h : faceP f) : 1 ≤ f.P ∧ f.P ≤ 200 ∧ 1 ≤ f.B ∧ f.B ≤ 200 := by unfold faceP at h; omega
theorem synth_Frame_eq (l : List Face) : synth_Frame l = some (frameV l) := by
  unfold synth_Frame frameV
  by_cases h4 : l.length ≤ 4
  rotate_left
  · rw [decide_eq_true (by omega), fk_t, if_neg (fun h => h4 h.2)]
  rw [decide_eq_false (by omega), fk_f]
  refine lp_up l.length (by unfold FU; omega) (fun k => ∀ f ∈ l.take k, faceP f) (fun f h => by simp at h) ?_
  intro nx k hk J hnx
  rw [lt_nat]
  by_cases c : k < l.length
  · rw [decide_eq_true c, fk_t, ix_lt c, bnd_eq (supply_Right_eq _), wr_succ k _ c (by omega)]
    by_cases hf : faceP l[k]
    · rw [decide_eq_true hf, Bool.not_true, fk_f]
      refine hnx c fun f h => ?_
      rw [← List.take_append_getElem c] at h
      rcases List.mem_append.1 h with h | h
      · exact J f h
      · rw [List.mem_singleton.1 h]; exact hf
    · rw [decide_eq_false hf, Bool.not_false, fk_t, if_neg (fun h => hf (h.1 _ (List.getElem_mem c)))]
  rw [List.take_of_length_le (by omega)] at J
  have hfp : facesP l := ⟨J, h4⟩
  have hpos : ∀ f ∈ l, 1 ≤ f.P := fun f hf => (J f hf).P.1
  rw [decide_eq_false c, fk_f, if_pos hfp]
  clear hnx nx hk c k
  refine lp_upS l.length (by unfold FU; omega) (fun k s => s = ((lcmF 1 (l.take k) : Nat) : Int) ∧ lcmF 1 (l.take k) ≤ 240) 1 ⟨rfl, by show (1 : Nat) ≤ 240; omega⟩ ?_
  rintro nx k s hk ⟨rfl, hb⟩ hnx
  dsimp only
  rw [lt_nat]
  by_cases c : k < l.length
  rotate_left
  · rw [List.take_of_length_le (by omega)] at hb ⊢
    rw [decide_eq_false c, fk_f, if_pos hb]
  have hp := (J _ (List.getElem_mem c)).P
  have hpk : 0 < lcmF 1 (l.take k) := lcmF_pos _ _ (by omega) fun f hf => hpos f (List.mem_of_mem_take hf)
  have eL := arith_Lcm_eq (lcmF 1 (l.take k)) l[k].P.toNat hpk (by omega) (by omega) (by omega)
  rw [show ((l[k].P.toNat : Nat) : Int) = l[k].P by omega] at eL
  rw [decide_eq_true c, fk_t, ix_lt c, bnd_eq eL, wr_succ k _ c (by omega), ← lcmF_succ 1 l k c]
  have hdv : lcmF 1 (l.take (k + 1)) ∣ lcmF 1 l := (lcmF_dvd _ _ _).2 ⟨Nat.one_dvd _, fun f hf => ((lcmF_dvd l 1 _).1 (Nat.dvd_refl _)).2 f (List.mem_of_mem_take hf)⟩
  have hle := Nat.le_of_dvd (lcmF_pos l 1 (by omega) hpos) hdv
  by_cases cb : lcmF 1 (l.take (k + 1)) ≤ 240
  · refine jn_to false (fun k7 => by rw [decide_eq_true rfl, Bool.not_true, fk_f, decide_eq_false (by dsimp only; omega)]) (by rw [fk_f]; exact hnx _ c ⟨rfl, cb⟩)
  · refine jn_to true (fun k7 => by rw [decide_eq_true rfl, Bool.not_true, fk_f, decide_eq_true (by dsimp only; omega)]) (by rw [fk_t, if_neg (by omega)])
def allD (l : List Face) (n : Nat) : Prop := ∀ f ∈ l, f.P.toNat ∣ n
instance (l : List Face) (n : Nat) : Decidable (allD l n) := by unfold allD; infer_instance
theorem ref12_Frame_eq (l : List Face) : ref12_Frame l = some (frameV l) := by
  unfold ref12_Frame frameV
  by_cases h4 : l.length ≤ 4
  rotate_left
  · rw [decide_eq_true (by omega), fk_t, if_neg (fun h => h4 h.2)]
  rw [decide_eq_false (by omega), fk_f]
  refine lp_up l.length (by unfold FU; omega) (fun k => ∀ f ∈ l.take k, faceP f) (fun f h => by simp at h) ?_
  intro nx k hk J hnx
  rw [lt_nat]
  by_cases c : k < l.length
  · rw [decide_eq_true c, fk_t, ix_lt c, bnd_eq (ref09_Right_eq _), wr_succ k _ c (by omega)]
    by_cases hf : faceP l[k]
    · rw [decide_eq_true hf, Bool.not_true, fk_f]
      refine hnx c fun f h => ?_
      rw [← List.take_append_getElem c] at h
      rcases List.mem_append.1 h with h | h
      · exact J f h
      · rw [List.mem_singleton.1 h]; exact hf
    · rw [decide_eq_false hf, Bool.not_false, fk_t, if_neg (fun h => hf (h.1 _ (List.getElem_mem c)))]
  rw [List.take_of_length_le (by omega)] at J
  have hfp : facesP l := ⟨J, h4⟩
  have hpos : ∀ f ∈ l, 1 ≤ f.P := fun f hf => (J f hf).P.1
  have hlp := lcmF_pos l 1 (by omega) hpos
  have hself := ((lcmF_dvd l 1 _).1 (Nat.dvd_refl (lcmF 1 l))).2
  rw [decide_eq_false c, fk_f, if_pos hfp]
  clear hnx nx hk c k
  refine lp_from 1 241 (by omega) (by unfold FU; omega) (fun n => n ≤ lcmF 1 l) hlp ?_
  intro nx n hn1 hn2 hJ hnx
  by_cases c : n ≤ 240
  rotate_left
  · rw [decide_eq_false (by omega), fk_f, if_neg (by omega)]
  rw [decide_eq_true (by omega), fk_t]
  refine lp_inv (fun v => l.length - v.2.toNat) (fun v => ∃ k : Nat, v = (decide (allD (l.take k) n), (k : Int)) ∧ k ≤ l.length) ?_ FU _ ⟨0, by rw [decide_eq_true (show allD (l.take 0) n from fun f h => by simp at h)]; rfl, Nat.zero_le _⟩ (by unfold FU; simp only; omega)
  rintro nx2 v ⟨k, rfl, hk⟩ hnx2
  dsimp only
  rw [lt_nat]
  by_cases ck' : k < l.length
  rotate_left
  · rw [decide_eq_false ck', fk_f, List.take_of_length_le (by omega)]
    by_cases call : allD l n
    · have hd : lcmF 1 l ∣ n := (lcmF_dvd l 1 n).2 ⟨Nat.one_dvd _, call⟩
      have := Nat.le_of_dvd (by omega) hd
      have e : lcmF 1 l = n := by omega
      rw [decide_eq_true call, fk_t, e, if_pos c]
    · rw [decide_eq_false call, fk_f, wr_in _ (by omega)]
      refine hnx (by omega) ?_
      have : n ≠ lcmF 1 l := fun e => call (by rw [e]; exact hself)
      omega
  have hp := (J _ (List.getElem_mem ck')).P
  rw [decide_eq_true ck', fk_t]
  have hm : decide ((n : Int).tmod l[k].P = 0) = decide (l[k].P.toNat ∣ n) := by
    rw [decide_eq_decide, Int.tmod_eq_emod_of_nonneg (by omega), show l[k].P = ((l[k].P.toNat : Nat) : Int) by omega, Int.toNat_natCast]
    constructor
    · intro h; exact Int.natCast_dvd_natCast.1 (Int.dvd_of_emod_eq_zero h)
    · intro h; exact Int.emod_eq_zero_of_dvd (Int.natCast_dvd_natCast.2 h)
  refine jn_to (decide (allD (l.take (k + 1)) n)) (fun k6 => ?_) ?_
  · have hsp : allD (l.take (k + 1)) n ↔ allD (l.take k) n ∧ l[k].P.toNat ∣ n := by
      unfold allD
      rw [← List.take_append_getElem ck']
      constructor
      · intro h; exact ⟨fun f hf => h f (List.mem_append_left _ hf), h _ (List.mem_append_right _ (List.mem_singleton.2 rfl))⟩
      · rintro ⟨h1, h2⟩ f hf
        rcases List.mem_append.1 hf with h | h
        · exact h1 f h
        · rw [List.mem_singleton.1 h]; exact h2
    by_cases ca : allD (l.take k) n
    · rw [decide_eq_true ca, fk_t, ix_lt ck', ck_t (decide_eq_true (by omega)), hm]
      congr 1
      rw [decide_eq_decide, hsp]
      exact ⟨fun h => ⟨ca, h⟩, fun h => h.2⟩
    · rw [decide_eq_false ca, fk_f, decide_eq_false (fun h => ca (hsp.1 h).1)]
  · rw [wr_succ k _ ck' (by omega)]
    exact hnx2 _ ⟨k + 1, rfl, ck'⟩ (by simp only [Int.toNat_natCast]; omega)
/-! The ticks. -/
def wv (w : List Int) (i : Nat) : Int := (w[i]?).getD 0
def begun (l : List Face) (w : List Int) (t : Nat) : List Int := (List.range l.length).map fun i => match l[i]? with | some f => if f.P.toNat ∣ t then f.B else wv w i | none => 0
def denyP (l : List Face) (w : List Int) (t : Nat) : Prop := ∃ (i : Nat) (f : Face), l[i]? = some f ∧ f.P.toNat ∣ t ∧ 0 < wv w i
def byV (f : Face) (t : Nat) : Nat := (t / f.P.toNat + 1) * f.P.toNat
def isNext (l : List Face) (w : List Int) (t k : Nat) (r : Int) : Prop :=
  (r = -1 ∧ ∀ i, i < k → wv w i ≤ 0) ∨ ∃ (i : Nat) (f : Face), i < k ∧ r = (i : Int) ∧ l[i]? = some f ∧ 0 < wv w i ∧ ∀ (j : Nat) (g : Face), j < k → l[j]? = some g → 0 < wv w j → byV f t < byV g t ∨ (byV f t = byV g t ∧ i ≤ j)
theorem isNext_unique {l : List Face} {w : List Int} {t : Nat} {r s : Int} (h1 : isNext l w t l.length r) (h2 : isNext l w t l.length s) : r = s := by
  rcases h1 with ⟨rfl, a⟩ | ⟨i, f, hi, rfl, hf, hw, a⟩
  · rcases h2 with ⟨rfl, _⟩ | ⟨j, g, hj, rfl, hg, hw', _⟩
    · rfl
    · have := a j hj; omega
  · rcases h2 with ⟨rfl, b⟩ | ⟨j, g, hj, rfl, hg, hw', b⟩
    · have := b i hi; omega
    · have h1 := a j g hj hg hw'
      have h2 := b i f hi hf hw
      have : i = j := by omega
      rw [this]
def dec (w : List Int) (r : Int) : List Int := if r = -1 then w else w.set r.toNat (wv w r.toNat - 1)
inductive LayR (l : List Face) : Nat → List Int → List Int → Prop
  | zero : LayR l 0 [] (List.replicate l.length 0)
  | step {t : Nat} {out w : List Int} {r : Int} (h : LayR l t out w) (hd : ¬ denyP l w t) (hn : isNext l (begun l w t) t l.length r) : LayR l (t + 1) (out ++ [r]) (dec (begun l w t) r)
theorem LayR.det {l : List Face} : ∀ {t : Nat} {o1 w1 o2 w2 : List Int}, LayR l t o1 w1 → LayR l t o2 w2 → o1 = o2 ∧ w1 = w2
  | 0, _, _, _, _, h1, h2 => by cases h1; cases h2; exact ⟨rfl, rfl⟩
  | t + 1, _, _, _, _, h1, h2 => by
    cases h1 with
    | step a1 b1 c1 =>
      cases h2 with
      | step a2 b2 c2 =>
        obtain ⟨rfl, rfl⟩ := LayR.det a1 a2
        have := isNext_unique c1 c2
        subst this
        exact ⟨rfl, rfl⟩
theorem LayR.before {l : List Face} {t : Nat} {o w : List Int} (h : LayR l t o w) : ∀ s, s < t → ∃ o' w', LayR l s o' w' ∧ ¬ denyP l w' s := by
  induction h with
  | zero => intro s hs; omega
  | step h hd hn ih =>
    rename_i t out w r
    intro s hs
    by_cases e : s = t
    · subst e; exact ⟨_, _, h, hd⟩
    · exact ih s (by omega)
def resP (l : List Face) (F : Nat) (r : List Int × Int) : Prop :=
  (∃ o w, LayR l F o w ∧ ¬ denyP l w F ∧ r = (o, 0)) ∨ (∃ t, t ≤ F ∧ ∃ o w, LayR l t o w ∧ denyP l w t ∧ r = ([], 7))
theorem resP_unique {l : List Face} {F : Nat} {r s : List Int × Int} (h1 : resP l F r) (h2 : resP l F s) : r = s := by
  have mix : ∀ {o w o' w' : List Int} {t : Nat}, t ≤ F → LayR l F o w → ¬ denyP l w F → LayR l t o' w' → ¬ denyP l w' t := by
    intro o w o' w' t ht a b c
    by_cases e : t = F
    · subst e
      obtain ⟨_, rfl⟩ := LayR.det a c
      exact b
    · obtain ⟨o2, w2, d, e2⟩ := a.before t (by omega)
      obtain ⟨_, rfl⟩ := LayR.det d c
      exact e2
  rcases h1 with ⟨o, w, a, b, rfl⟩ | ⟨t, ht, o, w, a, b, rfl⟩
  · rcases h2 with ⟨o', w', a', b', rfl⟩ | ⟨t', ht', o', w', a', b', rfl⟩
    · rw [(LayR.det a a').1]
    · exact absurd b' (mix ht' a b a')
  · rcases h2 with ⟨o', w', a', b', rfl⟩ | ⟨t', ht', o', w', a', b', rfl⟩
    · exact absurd b (mix ht a' b' a)
    · rfl
theorem begun_len (l : List Face) (w : List Int) (t : Nat) : (begun l w t).length = l.length := by unfold begun; simp
theorem begun_at {l : List Face} {w : List Int} {t i : Nat} {f : Face} (h : l[i]? = some f) : wv (begun l w t) i = if f.P.toNat ∣ t then f.B else wv w i := by
  have hi := (List.getElem?_eq_some_iff.1 h).1
  unfold begun
  unfold wv
  rw [List.getElem?_map, List.getElem?_range hi]
  simp only [Option.map_some, h, Option.getD_some]
/-- What is kept: sizes. -/
theorem LayR.ok {l : List Face} (hl : facesP l) {t : Nat} {o w : List Int} (h : LayR l t o w) : o.length = t ∧ w.length = l.length ∧ (∀ i, 0 ≤ wv w i ∧ wv w i ≤ 200) ∧ ∀ x ∈ o, -1 ≤ x ∧ x < (l.length : Int) := by
  induction h with
  | zero =>
    refine ⟨rfl, by simp, fun i => ?_, fun x h => (List.not_mem_nil h).elim⟩
    unfold wv
    rw [List.getElem?_replicate]
    split <;> simp
  | step h hd hn ih =>
    rename_i t out w r
    obtain ⟨a, b, c, d⟩ := ih
    have hb : ∀ i, 0 ≤ wv (begun l w t) i ∧ wv (begun l w t) i ≤ 200 := fun i => by
      cases hf : l[i]? with
      | some f =>
        rw [begun_at hf]
        have := (hl.1 f (List.mem_of_getElem? hf)).P
        split
        · omega
        · exact c i
      | none =>
        have : (begun l w t)[i]? = none := List.getElem?_eq_none (by rw [begun_len]; exact List.getElem?_eq_none_iff.1 hf)
        unfold wv; rw [this]; simp
    refine ⟨by simp [a], ?_, fun i => ?_, fun x hx => ?_⟩
    · unfold dec; split
      · exact begun_len _ _ _
      · rw [List.length_set]; exact begun_len _ _ _
    · rcases hn with ⟨rfl, _⟩ | ⟨j, f, hj, rfl, hf, hw, _⟩
      · unfold dec; rw [if_pos rfl]; exact hb i
      · unfold dec
        rw [if_neg (by omega), Int.toNat_natCast]
        by_cases e : j = i
        · subst e
          have : wv ((begun l w t).set j (wv (begun l w t) j - 1)) j = wv (begun l w t) j - 1 := by
            unfold wv
            rw [List.getElem?_set_self (by rw [begun_len]; exact hj)]; rfl
          rw [this]
          have := hb j; omega
        · have : wv ((begun l w t).set j (wv (begun l w t) j - 1)) i = wv (begun l w t) i := by
            unfold wv
            rw [List.getElem?_set_ne e]
          rw [this]; exact hb i
    · rcases List.mem_append.1 hx with h' | h'
      · exact d x h'
      · rw [List.mem_singleton.1 h']
        rcases hn with ⟨rfl, _⟩ | ⟨j, f, hj, rfl, _⟩ <;> omega
end Go.Proofs.YtldlcdnhdedoeaaGreat
namespace Go.Proofs.YtldlcdnhdedoeaaGreat
open Go Go.VC
theorem tmod_dvd {f : Face} (h : 1 ≤ f.P) (t : Nat) : decide ((t : Int).tmod f.P = 0) = decide (f.P.toNat ∣ t) := by
  rw [decide_eq_decide, Int.tmod_eq_emod_of_nonneg (by omega), show f.P = ((f.P.toNat : Nat) : Int) by omega, Int.toNat_natCast]
  constructor
  · intro h; exact Int.natCast_dvd_natCast.1 (Int.dvd_of_emod_eq_zero h)
  · intro h; exact Int.emod_eq_zero_of_dvd (Int.natCast_dvd_natCast.2 h)
theorem byV_b {f : Face} (hf : faceP f) (t : Nat) : byV f t = t - t % f.P.toNat + f.P.toNat ∧ t % f.P.toNat ≤ t ∧ byV f t ≤ t + 200 := by
  have hp := hf.P
  have h1 := Nat.div_add_mod t f.P.toNat
  have h2 := Nat.mod_le t f.P.toNat
  have e : byV f t = f.P.toNat * (t / f.P.toNat) + f.P.toNat := by unfold byV; rw [Nat.add_mul, Nat.one_mul, Nat.mul_comm]
  refine ⟨?_, h2, ?_⟩ <;> omega
theorem by_eq {f : Face} (hf : faceP f) (t : Nat) (ht : t ≤ 1000) : wr (wr ((t : Int) - (t : Int).tmod f.P) + f.P) = ((byV f t : Nat) : Int) := by
  have hp := hf.P
  obtain ⟨h1, h2, h3⟩ := byV_b hf t
  have e : (t : Int).tmod f.P = ((t % f.P.toNat : Nat) : Int) := by
    rw [Int.tmod_eq_emod_of_nonneg (by omega)]
    conv => lhs; rw [show f.P = ((f.P.toNat : Nat) : Int) by omega]
    rfl
  rw [e, wr_in ((t : Int) - ((t % f.P.toNat : Nat) : Int)) (by omega), wr_in _ (by omega)]
  omega
theorem by_eq2 {f : Face} (hf : faceP f) (t : Nat) (ht : t ≤ 1000) : wr (wr (wr ((t : Int).tdiv f.P) + 1) * f.P) = ((byV f t : Nat) : Int) := by
  have hp := hf.P
  obtain ⟨h1, h2, h3⟩ := byV_b hf t
  have hd : t / f.P.toNat ≤ t := Nat.div_le_self _ _
  have e : (t : Int).tdiv f.P = ((t / f.P.toNat : Nat) : Int) := by
    rw [Int.tdiv_eq_ediv_of_nonneg (by omega)]
    conv => lhs; rw [show f.P = ((f.P.toNat : Nat) : Int) by omega]
    rfl
  have e2 : (((t / f.P.toNat : Nat) : Int) + 1) * f.P = ((byV f t : Nat) : Int) := by
    unfold byV
    rw [Int.natCast_mul, Int.natCast_add, show ((f.P.toNat : Nat) : Int) = f.P by omega]; rfl
  generalize hb : byV f t = b at *
  generalize t / f.P.toNat = q at *
  clear hb
  rw [e, wr_in ((q : Nat) : Int) (by omega), wr_in (((q : Nat) : Int) + 1) (by omega), e2, wr_in _ (by omega)]
theorem eq_of_wv {u v : List Int} (hl : u.length = v.length) (h : ∀ i, wv u i = wv v i) : u = v := by
  refine List.ext_getElem hl fun i h1 h2 => ?_
  have := h i
  unfold wv at this
  rw [List.getElem?_eq_getElem h1, List.getElem?_eq_getElem h2] at this
  exact this
theorem wv_lt {w : List Int} {i : Nat} (h : i < w.length) : w[i] = wv w i := by unfold wv; rw [List.getElem?_eq_getElem h]; rfl
theorem wv_set {w : List Int} {i : Nat} {x : Int} (h : i < w.length) (j : Nat) : wv (w.set i x) j = if j = i then x else wv w j := by
  unfold wv
  by_cases e : j = i
  · subst e; rw [if_pos rfl, List.getElem?_set_self h]; rfl
  · rw [if_neg e, List.getElem?_set_ne (fun c => e c.symm)]
/-- What a round of 'begin' comes to, so far. -/
structure begI (l : List Face) (w : List Int) (t k : Nat) (u : List Int) : Prop where
  len : u.length = l.length
  v : ∀ i, wv u i = if i < k then wv (begun l w t) i else wv w i
  d : ∀ (i : Nat) (f : Face), i < k → l[i]? = some f → ¬ (f.P.toNat ∣ t ∧ 0 < wv w i)
theorem begI.zero {l : List Face} {w : List Int} {t : Nat} (h : w.length = l.length) : begI l w t 0 w := ⟨h, fun i => by rw [if_neg (by omega)], fun i f h => by omega⟩
theorem begI.keep {l : List Face} {w : List Int} {t k : Nat} {u : List Int} (h : begI l w t k u) (hk : k < l.length) (hn : ¬ l[k].P.toNat ∣ t) : begI l w t (k + 1) u := by
  have hf : l[k]? = some l[k] := List.getElem?_eq_getElem hk
  refine ⟨h.len, fun i => ?_, fun i f hi hfi => ?_⟩
  · rw [h.v i]
    by_cases e : i = k
    · subst e
      rw [if_neg (by omega), if_pos (by omega), begun_at hf, if_neg hn]
    · by_cases c : i < k
      · rw [if_pos c, if_pos (by omega)]
      · rw [if_neg c, if_neg (by omega)]
  · by_cases e : i = k
    · subst e; rw [hf] at hfi; cases hfi; exact fun hh => hn hh.1
    · exact h.d i f (by omega) hfi
theorem begI.set {l : List Face} {w : List Int} {t k : Nat} {u : List Int} (h : begI l w t k u) (hk : k < l.length) (hn : l[k].P.toNat ∣ t) (hw : ¬ 0 < wv w k) : begI l w t (k + 1) (u.set k l[k].B) := by
  have hf : l[k]? = some l[k] := List.getElem?_eq_getElem hk
  have hku : k < u.length := by rw [h.len]; exact hk
  refine ⟨by rw [List.length_set]; exact h.len, fun i => ?_, fun i f hi hfi => ?_⟩
  · rw [wv_set hku]
    by_cases e : i = k
    · subst e
      rw [if_pos rfl, if_pos (by omega), begun_at hf, if_pos hn]
    · rw [if_neg e, h.v i]
      by_cases c : i < k
      · rw [if_pos c, if_pos (by omega)]
      · rw [if_neg c, if_neg (by omega)]
  · by_cases e : i = k
    · subst e; exact fun hh => hw hh.2
    · exact h.d i f (by omega) hfi
theorem begI.at {l : List Face} {w : List Int} {t k : Nat} {u : List Int} (h : begI l w t k u) : wv u k = wv w k := by rw [h.v k, if_neg (by omega)]
theorem begI.end {l : List Face} {w : List Int} {t : Nat} {u : List Int} (h : begI l w t l.length u) : u = begun l w t ∧ ¬ denyP l w t := by
  refine ⟨eq_of_wv (by rw [h.len, begun_len]) fun i => ?_, ?_⟩
  · rw [h.v i]
    by_cases c : i < l.length
    · rw [if_pos c]
    · rw [if_neg c]
      have hb : (begun l w t)[i]? = none := List.getElem?_eq_none (by rw [begun_len]; omega)
      have hu := h.v i
      rw [if_neg c] at hu
      have hu2 : u[i]? = none := List.getElem?_eq_none (by rw [h.len]; omega)
      rw [← hu]
      unfold wv
      rw [hb, hu2]
  · rintro ⟨i, f, hf, a, b⟩
    exact h.d i f (List.getElem?_eq_some_iff.1 hf).1 hf ⟨a, b⟩
/-- Who is next, so far: with its time. -/
structure nxI (l : List Face) (u : List Int) (t k : Nat) (out due : Int) : Prop where
  n : isNext l u t k out
  d : ∀ (i : Nat) (f : Face), out = (i : Int) → l[i]? = some f → due = ((byV f t : Nat) : Int)
theorem nxI.zero {l : List Face} {u : List Int} {t : Nat} : nxI l u t 0 (-1) 0 := ⟨.inl ⟨rfl, fun i h => by omega⟩, fun i f h => by omega⟩
theorem nxI.keep {l : List Face} {u : List Int} {t k : Nat} {out due : Int} (h : nxI l u t k out due) (hk : k < l.length) (hc : ¬ (0 < wv u k ∧ (out = -1 ∨ ((byV l[k] t : Nat) : Int) < due))) : nxI l u t (k + 1) out due := by
  have hfk : l[k]? = some l[k] := List.getElem?_eq_getElem hk
  refine ⟨?_, h.d⟩
  rcases h.n with ⟨rfl, a⟩ | ⟨i, f, hi, rfl, hf, hw, a⟩
  · refine .inl ⟨rfl, fun i hi => ?_⟩
    by_cases e : i = k
    · subst e; exact Int.not_lt.1 fun hh => hc ⟨hh, .inl rfl⟩
    · exact a i (by omega)
  · refine .inr ⟨i, f, by omega, rfl, hf, hw, fun j g hj hg hwj => ?_⟩
    by_cases e : j = k
    · subst e
      rw [hfk] at hg; cases hg
      have hd := h.d i f rfl hf
      have : ¬ ((byV l[j] t : Nat) : Int) < due := fun hh => hc ⟨hwj, .inr hh⟩
      omega
    · exact a j g (by omega) hg hwj
theorem nxI.take {l : List Face} {u : List Int} {t k : Nat} {out due : Int} (h : nxI l u t k out due) (hk : k < l.length) (hw : 0 < wv u k) (hc : out = -1 ∨ ((byV l[k] t : Nat) : Int) < due) : nxI l u t (k + 1) (k : Int) ((byV l[k] t : Nat) : Int) := by
  have hfk : l[k]? = some l[k] := List.getElem?_eq_getElem hk
  refine ⟨.inr ⟨k, l[k], by omega, rfl, hfk, hw, fun j g hj hg hwj => ?_⟩, fun i f hi hf => ?_⟩
  · by_cases e : j = k
    · subst e; rw [hfk] at hg; cases hg; exact .inr ⟨rfl, Nat.le_refl _⟩
    · rcases h.n with ⟨rfl, a⟩ | ⟨i, f, hi, rfl, hf, hw', a⟩
      · have := a j (by omega); omega
      · have hd := h.d i f rfl hf
        have hlt := hc.resolve_left (by omega)
        have := a j g (by omega) hg hwj
        omega
  · have : i = k := by omega
    subst this
    rw [hfk] at hf; cases hf; rfl
theorem synth_Lay_ok (l : List Face) (hl : facesP l) (hF : lcmF 1 l ≤ 240) : ∃ r, synth_Lay l = some r ∧ resP l (lcmF 1 l) r := by
  have h4 := hl.2
  have ef : frameV l = (((lcmF 1 l : Nat) : Int), 0) := by unfold frameV; rw [if_pos hl, if_pos hF]
  unfold synth_Lay
  rw [bnd_eq (synth_Frame_eq l), ef]
  dsimp only
  rw [decide_eq_true rfl, Bool.not_true, fk_f, ck_t (by simp; omega), Int.toNat_natCast]
  generalize lcmF 1 l = F at *
  refine lp_ex (fun v => F - v.2.2.toNat) (fun v => ∃ (t : Nat) (o w : List Int), v = (o, w, (t : Int)) ∧ t ≤ F ∧ LayR l t o w) (resP l F) ?_ FU _ ⟨0, [], _, rfl, Nat.zero_le _, LayR.zero⟩ (by unfold FU; simp only; omega)
  rintro nx v ⟨t, o, w, rfl, ht, hL⟩ hnx
  obtain ⟨hol, hwl, hwb, _⟩ := hL.ok hl
  dsimp only
  rw [lt_nat]
  by_cases c : t < F
  rotate_left
  · have e : t = F := by omega
    subst e
    rw [decide_eq_false c, fk_f]
    refine lp_ex (fun v => l.length - v.2.toNat) (fun v => ∃ (k : Nat) (u : List Int), v = (u, (k : Int)) ∧ k ≤ l.length ∧ begI l w t k u) (resP l t) ?_ FU _ ⟨0, w, rfl, Nat.zero_le _, begI.zero hwl⟩ (by unfold FU; simp only; omega)
    rintro nx3 v ⟨k, u, rfl, hk, hJ⟩ hnx3
    dsimp only
    rw [lt_nat]
    by_cases ck' : k < l.length
    rotate_left
    · have e : k = l.length := by omega
      subst e
      obtain ⟨_, hd⟩ := hJ.end
      rw [decide_eq_false ck', fk_f]
      exact ⟨_, rfl, .inl ⟨o, w, hL, hd, rfl⟩⟩
    have hfk : l[k]? = some l[k] := List.getElem?_eq_getElem ck'
    have hp := (hl.1 _ (List.getElem_mem ck')).P
    have hul := hJ.len
    have hku : k < u.length := by omega
    rw [decide_eq_true ck', fk_t, jn_eq, ix_lt ck', ck_t (decide_eq_true (by omega)), tmod_dvd hp.1, wr_succ k _ ck' (by omega)]
    have go : ∀ u', begI l w t (k + 1) u' → ∃ r, nx3 (u', ((k + 1 : Nat) : Int)) = some r ∧ resP l t r := fun u' h' => hnx3 _ ⟨k + 1, u', rfl, ck', h'⟩ (by simp only [Int.toNat_natCast]; omega)
    by_cases cd : l[k].P.toNat ∣ t
    rotate_left
    · rw [decide_eq_false cd, Bool.not_false, fk_t]
      exact go u (hJ.keep ck' cd)
    rw [decide_eq_true cd, Bool.not_true, fk_f, ck_t (by simp; omega), Int.toNat_natCast, ox_lt hku, wv_lt hku, hJ.at]
    by_cases cw : 0 < wv w k
    · rw [decide_eq_true (show wv w k > 0 from cw), fk_t]
      exact ⟨_, rfl, .inr ⟨t, Nat.le_refl _, o, w, hL, ⟨k, _, hfk, cd, cw⟩, rfl⟩⟩
    · rw [decide_eq_false (show ¬ wv w k > 0 from cw), fk_f, ck_t (by simp; omega), ox_lt hku]
      exact go _ (hJ.set ck' cd cw)
  rw [decide_eq_true c, fk_t]
  refine lp_ex (fun v => l.length - v.2.toNat) (fun v => ∃ (k : Nat) (u : List Int), v = (u, (k : Int)) ∧ k ≤ l.length ∧ begI l w t k u) (resP l F) ?_ FU _ ⟨0, w, rfl, Nat.zero_le _, begI.zero hwl⟩ (by unfold FU; simp only; omega)
  rintro nx3 v ⟨k, u, rfl, hk, hJ⟩ hnx3
  dsimp only
  rw [lt_nat]
  by_cases ck' : k < l.length
  · have hfk : l[k]? = some l[k] := List.getElem?_eq_getElem ck'
    have hp := (hl.1 _ (List.getElem_mem ck')).P
    have hul := hJ.len
    have hku : k < u.length := by omega
    rw [decide_eq_true ck', fk_t, jn_eq, ix_lt ck', ck_t (decide_eq_true (by omega)), tmod_dvd hp.1, wr_succ k _ ck' (by omega)]
    have go : ∀ u', begI l w t (k + 1) u' → ∃ r, nx3 (u', ((k + 1 : Nat) : Int)) = some r ∧ resP l F r := fun u' h' => hnx3 _ ⟨k + 1, u', rfl, ck', h'⟩ (by simp only [Int.toNat_natCast]; omega)
    by_cases cd : l[k].P.toNat ∣ t
    rotate_left
    · rw [decide_eq_false cd, Bool.not_false, fk_t]
      exact go u (hJ.keep ck' cd)
    rw [decide_eq_true cd, Bool.not_true, fk_f, ck_t (by simp; omega), Int.toNat_natCast, ox_lt hku, wv_lt hku, hJ.at]
    by_cases cw : 0 < wv w k
    · rw [decide_eq_true (show wv w k > 0 from cw), fk_t]
      exact ⟨_, rfl, .inr ⟨t, by omega, o, w, hL, ⟨k, _, hfk, cd, cw⟩, rfl⟩⟩
    · rw [decide_eq_false (show ¬ wv w k > 0 from cw), fk_f, ck_t (by simp; omega), ox_lt hku]
      exact go _ (hJ.set ck' cd cw)
  have e : k = l.length := by omega
  subst e
  obtain ⟨rfl, hd⟩ := hJ.end
  have hbl := begun_len l w t
  rw [decide_eq_false ck', fk_f]
  refine lp_ex (fun v => l.length - v.2.2.toNat) (fun v => ∃ (k : Nat) (out due : Int), v = (out, due, (k : Int)) ∧ k ≤ l.length ∧ nxI l (begun l w t) t k out due) (resP l F) ?_ FU _ ⟨0, -1, 0, rfl, Nat.zero_le _, nxI.zero⟩ (by unfold FU; simp only; omega)
  rintro nx8 v ⟨k, out, due, rfl, hk, hN⟩ hnx8
  dsimp only
  rw [lt_nat]
  by_cases cn : k < l.length
  rotate_left
  · have e : k = l.length := by omega
    subst e
    have hstep := LayR.step hL hd hN.n
    have hnext := hnx (o ++ [out], dec (begun l w t) out, ((t + 1 : Nat) : Int)) ⟨t + 1, _, _, rfl, c, hstep⟩ (by simp only [Int.toNat_natCast]; omega)
    obtain ⟨hsl, hswl, hswb, _⟩ := hstep.ok hl
    rw [decide_eq_false cn, fk_f]
    have e1 : wr ((t : Int) + 1) = ((t + 1 : Nat) : Int) := wr_succ t _ c (by omega)
    by_cases co : out = -1
    · rw [decide_eq_true co, Bool.not_true, fk_f, ck_t (by simp; omega), e1]
      unfold dec at hnext
      rw [if_pos co] at hnext
      exact hnext
    · rcases hN.n with ⟨h, _⟩ | ⟨i, f, hi, rfl, hf, hw, _⟩
      · exact absurd h co
      have hib : i < (begun l w t).length := by omega
      have hbw : wv (begun l w t) i ≤ 201 := by
        have h2 := hswb i
        have : wv (dec (begun l w t) (i : Int)) i = wv (begun l w t) i - 1 := by
          unfold dec
          rw [if_neg co, Int.toNat_natCast, wv_set hib, if_pos rfl]
        omega
      rw [decide_eq_false co, Bool.not_false, fk_t, ck_t (by simp; omega), Int.toNat_natCast, ox_lt hib, ck_t (by simp; omega), ox_lt hib, ck_t (by simp; omega), e1, wv_lt hib, wr_in _ (by omega)]
      unfold dec at hnext
      rw [if_neg co, Int.toNat_natCast] at hnext
      exact hnext
  have hfk : l[k]? = some l[k] := List.getElem?_eq_getElem cn
  have hface := hl.1 _ (List.getElem_mem cn)
  have hp := hface.P
  have hkb : k < (begun l w t).length := by omega
  rw [decide_eq_true cn, fk_t, jn_eq, ix_lt cn, ck_t (decide_eq_true (by omega)), jn_eq, by_eq hface t (by omega), wr_succ k _ cn (by omega), ck_t (by simp; omega), Int.toNat_natCast, ox_lt hkb, wv_lt hkb]
  have keep : ¬ (0 < wv (begun l w t) k ∧ (out = -1 ∨ ((byV l[k] t : Nat) : Int) < due)) → ∃ r, nx8 (out, due, ((k + 1 : Nat) : Int)) = some r ∧ resP l F r := fun h' => hnx8 _ ⟨k + 1, out, due, rfl, cn, hN.keep cn h'⟩ (by simp only [Int.toNat_natCast]; omega)
  have take : 0 < wv (begun l w t) k → (out = -1 ∨ ((byV l[k] t : Nat) : Int) < due) → ∃ r, nx8 ((k : Int), ((byV l[k] t : Nat) : Int), ((k + 1 : Nat) : Int)) = some r ∧ resP l F r := fun h1 h2 => hnx8 _ ⟨k + 1, _, _, rfl, cn, hN.take cn h1 h2⟩ (by simp only [Int.toNat_natCast]; omega)
  by_cases cw : wv (begun l w t) k > 0
  rotate_left
  · rw [decide_eq_false cw, fk_f]
    exact keep fun h => cw h.1
  rw [decide_eq_true cw, fk_t]
  by_cases co : out = -1
  · rw [decide_eq_true co, fk_t]
    exact take cw (.inl co)
  rw [decide_eq_false co, fk_f]
  by_cases cd : ((byV l[k] t : Nat) : Int) < due
  · rw [decide_eq_true cd]
    exact take cw (.inr cd)
  · rw [decide_eq_false cd]
    exact keep fun h => (h.2.elim co cd)
end Go.Proofs.YtldlcdnhdedoeaaGreat
namespace Go.Proofs.YtldlcdnhdedoeaaGreat
open Go Go.VC
/-! The same, by what was given. -/
def hadN (o : List Int) (i : Int) (s : Nat) : Nat := (o.drop s).count i
theorem ref12_Had_eq (o : List Int) (i : Int) (s : Nat) (hl : o.length ≤ 1000) (hs : s ≤ o.length) : ref12_Had o i (s : Int) = some ((hadN o i s : Nat) : Int) := by
  unfold ref12_Had
  refine lp_inv (fun v => o.length - v.2.toNat) (fun v => ∃ k : Nat, v = (((((o.take k).drop s).count i : Nat) : Int), (k : Int)) ∧ s ≤ k ∧ k ≤ o.length) ?_ FU _ ⟨s, by rw [List.drop_take_self]; rfl, Nat.le_refl _, hs⟩ (by unfold FU; simp only; omega)
  rintro nx v ⟨k, rfl, hk1, hk⟩ hnx
  dsimp only
  rw [lt_nat]
  by_cases c : k < o.length
  rotate_left
  · rw [decide_eq_false c, fk_f, List.take_of_length_le (by omega)]; rfl
  have hc : ((o.take k).drop s).count i ≤ 1000 := Nat.le_trans List.count_le_length (by rw [List.length_drop, List.length_take]; omega)
  have hsn : ((o.take (k + 1)).drop s).count i = ((o.take k).drop s).count i + (if o[k] = i then 1 else 0) := by
    rw [← List.take_append_getElem c, List.drop_append_of_le_length (by rw [List.length_take]; omega), List.count_append]
    congr 1
    rw [List.count_singleton]
    by_cases e : o[k] = i
    · rw [if_pos e, if_pos (by rw [e]; exact beq_self_eq_true _)]
    · rw [if_neg e, if_neg (by rw [beq_iff_eq]; exact e)]
  rw [decide_eq_true c, fk_t]
  refine jn_to ((((o.take (k + 1)).drop s).count i : Nat) : Int) (fun k2 => ?_) ?_
  · rw [ix_lt c, hsn]
    by_cases e : o[k] = i
    · rw [decide_eq_true e, fk_t, if_pos e, wr_in _ (by omega)]; rfl
    · rw [decide_eq_false e, fk_f, if_neg e]; rfl
  · rw [wr_succ k _ c (by omega)]
    exact hnx _ ⟨k + 1, rfl, by omega, c⟩ (by simp only [Int.toNat_natCast]; omega)
theorem div_same {P t : Nat} (hP : 1 ≤ P) (ht : 0 < t) (h : ¬ P ∣ t) : (t - 1) / P = t / P := by
  have h1 := Nat.div_add_mod t P
  have h2 : t % P ≠ 0 := fun e => h (Nat.dvd_of_mod_eq_zero e)
  have h3 := Nat.mod_lt t hP
  refine Nat.div_eq_of_lt_le ?_ ?_
  · rw [Nat.mul_comm]; omega
  · rw [Nat.succ_mul, Nat.mul_comm]; omega
theorem hadN_snoc {o : List Int} {r i : Int} {s : Nat} (hs : s ≤ o.length) : hadN (o ++ [r]) i s = hadN o i s + (if r = i then 1 else 0) := by
  unfold hadN
  rw [List.drop_append_of_le_length hs, List.count_append, List.count_singleton]
  congr 1
  by_cases e : r = i
  · rw [if_pos e, if_pos (by rw [e]; exact beq_self_eq_true _)]
  · rw [if_neg e, if_neg (by rw [beq_iff_eq]; exact e)]
theorem wv_dec {w : List Int} {r : Int} {t k : Nat} {l : List Face} (hn : isNext l w t l.length r) (hw : w.length = l.length) (i : Nat) : wv (dec w r) i = wv w i - (if r = (i : Int) then 1 else 0) := by
  unfold dec
  rcases hn with ⟨rfl, _⟩ | ⟨j, f, hj, rfl, _⟩
  · rw [if_pos rfl, if_neg (by omega)]; omega
  · rw [if_neg (by omega), Int.toNat_natCast, wv_set (by omega)]
    by_cases e : i = j
    · subst e; rw [if_pos rfl, if_pos rfl]
    · rw [if_neg e, if_neg (by omega)]; omega
theorem LayR.wants {l : List Face} (hl : facesP l) {t : Nat} {o w : List Int} (h : LayR l t o w) : (t = 0 → ∀ i, wv w i = 0) ∧ (0 < t → ∀ (i : Nat) (f : Face), l[i]? = some f → wv w i = f.B - ((hadN o (i : Int) ((t - 1) / f.P.toNat * f.P.toNat) : Nat) : Int)) ∧ ∀ (i : Nat) (f : Face), l[i]? = some f → wv (begun l w t) i = f.B - ((hadN o (i : Int) (t / f.P.toNat * f.P.toNat) : Nat) : Int) := by
  have fin : ∀ {t : Nat} {o w : List Int}, LayR l t o w → ((t = 0 → ∀ i, wv w i = 0) ∧ (0 < t → ∀ (i : Nat) (f : Face), l[i]? = some f → wv w i = f.B - ((hadN o (i : Int) ((t - 1) / f.P.toNat * f.P.toNat) : Nat) : Int))) → ∀ (i : Nat) (f : Face), l[i]? = some f → wv (begun l w t) i = f.B - ((hadN o (i : Int) (t / f.P.toNat * f.P.toNat) : Nat) : Int) := by
    intro t o w h ih i f hf
    have hp := (hl.1 f (List.mem_of_getElem? hf)).P
    rw [begun_at hf]
    by_cases cd : f.P.toNat ∣ t
    · rw [if_pos cd, Nat.div_mul_cancel cd]
      unfold hadN
      rw [List.drop_eq_nil_of_le (by rw [(h.ok hl).1]; exact Nat.le_refl _)]
      simp
    · rw [if_neg cd]
      have ht : 0 < t := Nat.pos_of_ne_zero fun e => cd (by rw [e]; exact Nat.dvd_zero _)
      rw [ih.2 ht i f hf, div_same (by omega) ht cd]
  have main : (t = 0 → ∀ i, wv w i = 0) ∧ (0 < t → ∀ (i : Nat) (f : Face), l[i]? = some f → wv w i = f.B - ((hadN o (i : Int) ((t - 1) / f.P.toNat * f.P.toNat) : Nat) : Int)) := by
    induction h with
    | zero =>
      refine ⟨fun _ i => ?_, fun h => by omega⟩
      unfold wv
      rw [List.getElem?_replicate]
      split <;> rfl
    | step h hd hn ih =>
      rename_i t out w r
      refine ⟨fun h => by omega, fun _ i f hf => ?_⟩
      have hol := (h.ok hl).1
      have hle : t / f.P.toNat * f.P.toNat ≤ t := Nat.div_mul_le_self _ _
      rw [wv_dec (t := t) (k := 0) hn (begun_len _ _ _), fin h ih i f hf, Nat.add_sub_cancel, hadN_snoc (by omega)]
      split <;> omega
  exact ⟨main.1, main.2, fin h main⟩
theorem ref12_Wants_eq {l : List Face} (hl : facesP l) {t : Nat} {o w : List Int} (h : LayR l t o w) (ht : t ≤ 240) {i : Nat} (hi : i < l.length) : ref12_Wants l o (i : Int) (t : Int) = some (wv (begun l w t) i) := by
  have hf : l[i]? = some l[i] := List.getElem?_eq_getElem hi
  have hface := hl.1 _ (List.getElem_mem hi)
  have hp := hface.P
  have hol := (h.ok hl).1
  have hw := h.wants hl
  unfold ref12_Wants
  rw [ix_lt hi, ix_lt hi, ck_t (decide_eq_true (by omega)), ix_lt hi]
  have e : (t : Int).tdiv l[i].P = ((t / l[i].P.toNat : Nat) : Int) := by
    rw [Int.tdiv_eq_ediv_of_nonneg (by omega)]
    conv => lhs; rw [show l[i].P = ((l[i].P.toNat : Nat) : Int) by omega]
    rfl
  have hd : t / l[i].P.toNat ≤ t := Nat.div_le_self _ _
  have hle : t / l[i].P.toNat * l[i].P.toNat ≤ t := Nat.div_mul_le_self _ _
  have e2 : wr (wr ((t : Int).tdiv l[i].P) * l[i].P) = ((t / l[i].P.toNat * l[i].P.toNat : Nat) : Int) := by
    rw [e]
    generalize t / l[i].P.toNat = q at *
    have e3 : ((q * l[i].P.toNat : Nat) : Int) = (q : Int) * l[i].P := by rw [Int.natCast_mul, show ((l[i].P.toNat : Nat) : Int) = l[i].P by omega]
    rw [wr_in (q : Int) (by omega), ← e3]
    generalize q * l[i].P.toNat = z at *
    rw [wr_in _ (by omega)]
  rw [e2, bnd_eq (ref12_Had_eq o (i : Int) _ (by omega) (by omega)), hw.2.2 i _ hf]
  have hc : hadN o (i : Int) (t / l[i].P.toNat * l[i].P.toNat) ≤ 1000 := Nat.le_trans List.count_le_length (by rw [List.length_drop]; omega)
  generalize hadN o (i : Int) (t / l[i].P.toNat * l[i].P.toNat) = z at *
  rw [wr_in _ (by omega)]
/-- Who is next, downward. -/
structure dnI (l : List Face) (u : List Int) (t k : Nat) (who : Int) : Prop where
  n : (who = -1 ∧ ∀ i, k ≤ i → i < l.length → wv u i ≤ 0) ∨ ∃ (i : Nat) (f : Face), k ≤ i ∧ i < l.length ∧ who = (i : Int) ∧ l[i]? = some f ∧ 0 < wv u i ∧ ∀ (j : Nat) (g : Face), k ≤ j → l[j]? = some g → 0 < wv u j → byV f t < byV g t ∨ (byV f t = byV g t ∧ i ≤ j)
theorem dnI.end {l : List Face} {u : List Int} {t : Nat} {who : Int} (h : dnI l u t 0 who) : isNext l u t l.length who := by
  rcases h.n with ⟨rfl, a⟩ | ⟨i, f, _, hi, rfl, hf, hw, a⟩
  · exact .inl ⟨rfl, fun i hi => a i (Nat.zero_le _) hi⟩
  · exact .inr ⟨i, f, hi, rfl, hf, hw, fun j g _ hg hwj => a j g (Nat.zero_le _) hg hwj⟩
theorem dnI.keep {l : List Face} {u : List Int} {t k : Nat} {who : Int} (h : dnI l u t (k + 1) who) (hk : k < l.length) (hc : ¬ 0 < wv u k ∨ ∃ (i : Nat) (f : Face), who = (i : Int) ∧ l[i]? = some f ∧ byV f t < byV l[k] t) : dnI l u t k who := by
  have hfk : l[k]? = some l[k] := List.getElem?_eq_getElem hk
  refine ⟨?_⟩
  rcases h.n with ⟨rfl, a⟩ | ⟨i, f, hi, hil, rfl, hf, hw, a⟩
  · refine .inl ⟨rfl, fun i hi hil => ?_⟩
    by_cases e : i = k
    · subst e
      rcases hc with hc | ⟨j, f, hj, _⟩
      · exact Int.not_lt.1 hc
      · omega
    · exact a i (by omega) hil
  · refine .inr ⟨i, f, by omega, hil, rfl, hf, hw, fun j g hj hg hwj => ?_⟩
    by_cases e : j = k
    · subst e
      rw [hfk] at hg; cases hg
      rcases hc with hc | ⟨i', f', hi', hf', hlt⟩
      · exact absurd hwj hc
      · have : i' = i := by omega
        subst this
        rw [hf] at hf'; cases hf'
        exact .inl hlt
    · exact a j g (by omega) hg hwj
theorem dnI.take {l : List Face} {u : List Int} {t k : Nat} {who : Int} (h : dnI l u t (k + 1) who) (hk : k < l.length) (hw : 0 < wv u k) (hc : who = -1 ∨ ∃ (i : Nat) (f : Face), who = (i : Int) ∧ l[i]? = some f ∧ byV l[k] t ≤ byV f t) : dnI l u t k (k : Int) := by
  have hfk : l[k]? = some l[k] := List.getElem?_eq_getElem hk
  refine ⟨.inr ⟨k, l[k], Nat.le_refl _, hk, rfl, hfk, hw, fun j g hj hg hwj => ?_⟩⟩
  by_cases e : j = k
  · subst e; rw [hfk] at hg; cases hg; exact .inr ⟨rfl, Nat.le_refl _⟩
  · rcases h.n with ⟨rfl, a⟩ | ⟨i, f, hi, hil, rfl, hf, hw', a⟩
    · have := a j (by omega) (List.getElem?_eq_some_iff.1 hg).1; omega
    · have h1 := a j g (by omega) hg hwj
      rcases hc with hc | ⟨i', f', hi', hf', hle⟩
      · omega
      · have : i' = i := by omega
        subst this
        rw [hf] at hf'; cases hf'
        omega
theorem ref12_Lay_ok (l : List Face) (hl : facesP l) (hF : lcmF 1 l ≤ 240) : ∃ r, ref12_Lay l = some r ∧ resP l (lcmF 1 l) r := by
  have h4 := hl.2
  have hpos := lcmF_pos l 1 (by omega) fun f hf => (hl.1 f hf).P.1
  have ef : frameV l = (((lcmF 1 l : Nat) : Int), 0) := by unfold frameV; rw [if_pos hl, if_pos hF]
  unfold ref12_Lay
  rw [bnd_eq (ref12_Frame_eq l), ef]
  dsimp only
  rw [decide_eq_true rfl, Bool.not_true, fk_f]
  generalize lcmF 1 l = F at *
  have hd0 : ∀ {w : List Int}, LayR l 0 [] w → ¬ denyP l w 0 := fun {w} h => by
    rintro ⟨i, f, hf, _, hw⟩
    have := (h.wants hl).1 rfl i; omega
  refine lp_ex (fun v => F - v.2.toNat) (fun v => ∃ (t : Nat) (o w : List Int), v = (o, (t : Int)) ∧ t ≤ F ∧ LayR l t o w ∧ ¬ denyP l w t) (resP l F) ?_ FU _ ⟨0, [], _, rfl, Nat.zero_le _, LayR.zero, hd0 LayR.zero⟩ (by unfold FU; simp only; omega)
  rintro nx v ⟨t, o, w, rfl, ht, hL, hd⟩ hnx
  obtain ⟨hol, hwl, hwb, _⟩ := hL.ok hl
  dsimp only
  rw [lt_nat]
  by_cases c : t < F
  rotate_left
  · have e : t = F := by omega
    subst e
    rw [decide_eq_false c, fk_f]
    exact ⟨_, rfl, .inl ⟨o, w, hL, hd, rfl⟩⟩
  have hbl := begun_len l w t
  have en : wr ((l.length : Int) - 1) = (l.length : Int) - 1 := wr_in _ (by omega)
  rw [decide_eq_true c, fk_t, en]
  refine lp_ex (fun v => (v.2 + 1).toNat) (fun v => ∃ (k : Nat) (who : Int), v = (who, (k : Int) - 1) ∧ k ≤ l.length ∧ dnI l (begun l w t) t k who) (resP l F) ?_ FU _ ⟨l.length, -1, rfl, Nat.le_refl _, ⟨.inl ⟨rfl, fun i h1 h2 => by omega⟩⟩⟩ (by unfold FU; omega)
  rintro nx3 v ⟨k, who, rfl, hk, hN⟩ hnx3
  dsimp only
  cases k with
  | zero =>
    have hn := hN.end
    have hstep := LayR.step hL hd hn
    obtain ⟨hsl, hswl, hswb, _⟩ := hstep.ok hl
    rw [decide_eq_false (by omega), fk_f, ck_t (by simp; omega)]
    have e1 : wr ((t : Int) + 1) = ((t + 1 : Nat) : Int) := wr_succ t _ c (by omega)
    rw [e1]
    refine lp_ex (fun v => l.length - v.toNat) (fun v => ∃ k : Nat, v = (k : Int) ∧ k ≤ l.length ∧ ∀ (i : Nat) (f : Face), i < k → l[i]? = some f → ¬ (f.P.toNat ∣ (t + 1) ∧ 0 < wv (dec (begun l w t) who) i)) (resP l F) ?_ FU _ ⟨0, rfl, Nat.zero_le _, fun i f h => by omega⟩ (by unfold FU; omega)
    rintro nx4 v ⟨k, rfl, hk, hJ⟩ hnx4
    rw [lt_nat]
    by_cases ck' : k < l.length
    rotate_left
    · rw [decide_eq_false ck', fk_f]
      refine hnx _ ⟨t + 1, o ++ [who], _, rfl, c, hstep, ?_⟩ (by simp only [Int.toNat_natCast]; omega)
      rintro ⟨i, f, hf, a, b⟩
      exact hJ i f (by have := (List.getElem?_eq_some_iff.1 hf).1; omega) hf ⟨a, b⟩
    have hfk : l[k]? = some l[k] := List.getElem?_eq_getElem ck'
    have hp := (hl.1 _ (List.getElem_mem ck')).P
    have hwk := (hstep.wants hl).2.1 (by omega) k _ hfk
    rw [Nat.add_sub_cancel] at hwk
    rw [decide_eq_true ck', fk_t, jn_eq, ix_lt ck', ck_t (decide_eq_true (by omega)), tmod_dvd hp.1, wr_succ k _ ck' (by omega)]
    have go : ¬ (l[k].P.toNat ∣ (t + 1) ∧ 0 < wv (dec (begun l w t) who) k) → ∃ r, nx4 ((k + 1 : Nat) : Int) = some r ∧ resP l F r := fun h' => hnx4 _ ⟨k + 1, rfl, ck', fun i f hi hf => by
      by_cases e : i = k
      · subst e; rw [hfk] at hf; cases hf; exact h'
      · exact hJ i f (by omega) hf⟩ (by simp only [Int.toNat_natCast]; omega)
    by_cases cd : l[k].P.toNat ∣ (t + 1)
    rotate_left
    · rw [decide_eq_false cd, fk_f]
      show ∃ r, fk false _ _ = some r ∧ _
      rw [fk_f]
      exact go fun h => cd h.1
    have hs : t / l[k].P.toNat * l[k].P.toNat = t + 1 - l[k].P.toNat := by
      obtain ⟨q, hq⟩ := cd
      cases q with
      | zero => omega
      | succ q =>
        have hlt : l[k].P.toNat * q + (l[k].P.toNat - 1) = t := by rw [Nat.mul_succ] at hq; omega
        have : t / l[k].P.toNat = q := by
          rw [← hlt, Nat.mul_add_div (by omega), Nat.div_eq_of_lt (by omega), Nat.add_zero]
        rw [this, Nat.mul_comm]; omega
    rw [hs] at hwk
    have hle : l[k].P.toNat ≤ t + 1 := Nat.le_of_dvd (by omega) cd
    have es : wr (((t + 1 : Nat) : Int) - l[k].P) = ((t + 1 - l[k].P.toNat : Nat) : Int) := by rw [wr_in _ (by omega)]; omega
    have hh := ref12_Had_eq (o ++ [who]) (k : Int) (t + 1 - l[k].P.toNat) (by omega) (by omega)
    rw [decide_eq_true cd, fk_t, ix_lt ck', es, bnd_eq hh, ix_lt ck']
    by_cases cw : 0 < wv (dec (begun l w t) who) k
    · rw [decide_eq_true (by omega)]
      show ∃ r, fk true _ _ = some r ∧ _
      rw [fk_t]
      exact ⟨_, rfl, .inr ⟨t + 1, c, _, _, hstep, ⟨k, _, hfk, cd, cw⟩, rfl⟩⟩
    · rw [decide_eq_false (by omega)]
      show ∃ r, fk false _ _ = some r ∧ _
      rw [fk_f]
      exact go fun h => cw h.2
  | succ k =>
    have hkl : k < l.length := by omega
    have hfk : l[k]? = some l[k] := List.getElem?_eq_getElem hkl
    have hface := hl.1 _ (List.getElem_mem hkl)
    have hp := hface.P
    have ek : ((k + 1 : Nat) : Int) - 1 = (k : Int) := by omega
    have ew : wr ((k : Int) - 1) = (k : Int) - 1 := wr_in _ (by omega)
    rw [ek, decide_eq_true (by omega), fk_t, jn_eq, jn_eq, ew, bnd_eq (ref12_Wants_eq hl hL (by omega) hkl)]
    have keep : (¬ 0 < wv (begun l w t) k ∨ ∃ (i : Nat) (f : Face), who = (i : Int) ∧ l[i]? = some f ∧ byV f t < byV l[k] t) → ∃ r, nx3 (who, (k : Int) - 1) = some r ∧ resP l F r := fun h' => hnx3 _ ⟨k, who, rfl, by omega, hN.keep hkl h'⟩ (by simp only; omega)
    have take : 0 < wv (begun l w t) k → (who = -1 ∨ ∃ (i : Nat) (f : Face), who = (i : Int) ∧ l[i]? = some f ∧ byV l[k] t ≤ byV f t) → ∃ r, nx3 ((k : Int), (k : Int) - 1) = some r ∧ resP l F r := fun h1 h2 => hnx3 _ ⟨k, _, rfl, by omega, hN.take hkl h1 h2⟩ (by simp only; omega)
    by_cases cw : wv (begun l w t) k > 0
    rotate_left
    · rw [decide_eq_false cw, fk_f]
      show ∃ r, fk false _ _ = some r ∧ _
      rw [fk_f]
      exact keep (.inl cw)
    rw [decide_eq_true cw, fk_t]
    rcases hN.n with ⟨rfl, _⟩ | ⟨i, f, hi, hil, rfl, hf, _, _⟩
    · rw [decide_eq_true (by omega), fk_t]
      show ∃ r, fk true _ _ = some r ∧ _
      rw [fk_t]
      exact take cw (.inl rfl)
    · have hfi : l[i] = f := by rw [List.getElem?_eq_getElem hil] at hf; exact Option.some.inj hf
      have hface2 := hl.1 _ (List.getElem_mem hil)
      have hp2 := hface2.P
      rw [decide_eq_false (by omega), fk_f, ix_lt hkl, ck_t (decide_eq_true (by omega)), ix_lt hkl, ix_lt hil, ck_t (decide_eq_true (by omega)), ix_lt hil, by_eq2 hface t (by omega), by_eq2 hface2 t (by omega)]
      by_cases cb : byV l[k] t ≤ byV l[i] t
      · rw [decide_eq_true (by omega)]
        show ∃ r, fk true _ _ = some r ∧ _
        rw [fk_t]
        exact take cw (.inr ⟨i, f, rfl, hf, by rw [← hfi]; exact cb⟩)
      · rw [decide_eq_false (by omega)]
        show ∃ r, fk false _ _ = some r ∧ _
        rw [fk_f]
        exact keep (.inr ⟨i, f, rfl, hf, by rw [← hfi]; omega⟩)
/-- Both lay the same. -/
theorem lay_same (l : List Face) : ∃ r : List Int × Int, synth_Lay l = some r ∧ ref12_Lay l = some r ∧ (r.2 = 0 → 1 ≤ r.1.length ∧ r.1.length ≤ 240 ∧ (∀ x ∈ r.1, -1 ≤ x ∧ x < 4) ∧ facesP l) ∧ (r.2 ≠ 0 → r.1 = [] ∧ (r.2 = 1 ∨ r.2 = 5 ∨ r.2 = 7)) := by
  by_cases h : facesP l ∧ lcmF 1 l ≤ 240
  · obtain ⟨hl, hF⟩ := h
    obtain ⟨r, e1, h1⟩ := synth_Lay_ok l hl hF
    obtain ⟨s, e2, h2⟩ := ref12_Lay_ok l hl hF
    have := resP_unique h1 h2
    subst this
    have hpos := lcmF_pos l 1 (by omega) fun f hf => (hl.1 f hf).P.1
    refine ⟨r, e1, e2, fun h0 => ?_, fun h0 => ?_⟩
    · rcases h1 with ⟨o, w, a, b, rfl⟩ | ⟨t, ht, o, w, a, b, rfl⟩
      · obtain ⟨g1, _, _, g4⟩ := a.ok hl
        refine ⟨by show 1 ≤ o.length; omega, by show o.length ≤ 240; omega, fun x hx => ?_, hl⟩
        have := g4 x hx
        have := hl.2
        omega
      · exact absurd h0 (by decide)
    · rcases h1 with ⟨o, w, a, b, rfl⟩ | ⟨t, ht, o, w, a, b, rfl⟩
      · exact absurd rfl h0
      · exact ⟨rfl, .inr (.inr rfl)⟩
  · have ef : (frameV l).2 ≠ 0 ∧ ((frameV l).2 = 1 ∨ (frameV l).2 = 5) := by
      unfold frameV
      by_cases hl : facesP l
      · rw [if_pos hl, if_neg (fun hF => h ⟨hl, hF⟩)]; exact ⟨by decide, .inr rfl⟩
      · rw [if_neg hl]; exact ⟨by decide, .inl rfl⟩
    refine ⟨([], (frameV l).2), ?_, ?_, fun h0 => absurd h0 ef.1, fun _ => ⟨rfl, ef.2.elim .inl fun h => .inr (.inl h)⟩⟩
    · unfold synth_Lay
      rw [bnd_eq (synth_Frame_eq l), decide_eq_false ef.1, Bool.not_false, fk_t]
    · unfold ref12_Lay
      rw [bnd_eq (ref12_Frame_eq l), decide_eq_false ef.1, Bool.not_false, fk_t]
end Go.Proofs.YtldlcdnhdedoeaaGreat
namespace Go.Proofs.YtldlcdnhdedoeaaGreat
open Go Go.VC
noncomputable def image_Right (a0 : Config) : Option Bool :=
  lp (fun nx1 (v1 : Int) => fk (decide (v1 < (a0.Parts.length : Int))) (ix a0.Parts v1 fun x2 => jn (fun (w3 : Bool) => fk w3 (some false) (nx1 (wr (v1 + (1 : Int))))) (fun k3 => bnd (supply_Right x2.Face) fun x4 => fk (!x4) (k3 true) (bnd (task_All x2.Tasks) fun x5 => k3 (!x5)))) (lp (fun nx6 (v6 : Int) => fk (decide (v6 < (a0.Ports.length : Int))) (ix a0.Ports v6 fun x7 => jn (fun (w8 : Bool) => fk w8 (some false) (nx6 (wr (v6 + (1 : Int))))) (fun k8 => fk (decide (x7.From ≥ (a0.Parts.length : Int))) (k8 true) (k8 (decide (x7.To ≥ (a0.Parts.length : Int)))))) (bnd (port_Open a0.Ports) fun x9 => fk (decide (x9.2 = (0 : Int))) (some (decide ((a0.Parts.length : Int) ≤ (4 : Int)))) (some false))) FU (0 : Int))) FU (0 : Int)
theorem image_Right_w (a0 : Config) (r : Bool) (h : image_Right a0 = some r) : Go.VC.Spec Tryz.prog 54 [.agg (Config.enc a0)] (fun y => y = E_Bool r) := by
  refine Go.VC.Spec.of_xc (args := [.agg (Config.enc a0)]) (fn := Tryz.f54) tab ⟨[(0, [1]), (1, [1, 10, 11, 12]), (2, [1, 10, 11, 12, 13]), (3, [1, 4, 10, 11, 12]), (4, [1, 10, 11, 12, 25]), (5, [2]), (6, [1, 10, 11, 12]), (7, [1, 28, 29, 30]), (8, [1, 28, 29, 30, 31]), (9, [1, 6, 28, 29, 30]), (10, [1, 28, 29, 30, 47]), (11, [2]), (12, [1, 28, 29, 30]), (13, [1, 8]), (14, [2])], [], [100025, 100047], []⟩ 63 [.tmp 2] rfl rfl rfl rfl rfl rfl ?_
  conv => whnf
  refine lenS a0.Parts Part.enc rfl ?_
  conv => whnf
  refine lpS (fun v1 => ⟨[(1, .l (.ptr 2 0)), (10, .l (.d (.sl (a0.Parts.map Part.enc)))), (11, .l (.d (.int .i64 (a0.Parts.length : Int)))), (12, .l (.d (.int .i64 v1)))], 63, [], [(2, [.d (.sl (a0.Parts.map Part.enc)), .d (.sl (a0.Ports.map Port.enc))])], []⟩) h (Weak.refl _) (fun _ nx1 hn1 v1 h => ?_)
  conv => whnf
  refine fkS h (fun h => ?_) (fun h => ?_)
  · conv => whnf
    refine ixS (enc := Part.enc) h rfl (fun _ => rfl) (fun x2 h => ?_)
    conv => whnf
    refine jnS (fun w3 => ⟨[(1, .l (.ptr 2 0)), (10, .l (.d (.sl (a0.Parts.map Part.enc)))), (11, .l (.d (.int .i64 (a0.Parts.length : Int)))), (12, .l (.d (.int .i64 v1))), (25, .l (.d (.bool w3)))], 63, [], [(2, [.d (.sl (a0.Parts.map Part.enc)), .d (.sl (a0.Ports.map Port.enc))])], []⟩) h (fun k3 hk3 h => ?_) (fun w3 h => ?_)
    · conv => whnf
      refine caS (E := E_Bool) h (supply_Right_w x2.Face) rfl (fun _ => rfl) (fun x4 h => ?_)
      conv => whnf
      refine fkS h (fun h => ?_) (fun h => ?_)
      · conv => whnf
        exact jeS hk3 h (Weak.refl _)
      conv => whnf
      refine caS (E := E_Bool) h (task_All_w x2.Tasks) rfl (fun _ => rfl) (fun x5 h => ?_)
      conv => whnf
      exact jeS hk3 h (Weak.refl _)
    conv => whnf
    refine fkS h (fun h => ?_) (fun h => ?_)
    · conv => whnf
      exact rt (E := E_Bool) h rfl
    conv => whnf
    exact leS hn1 h (Weak.refl _)
  conv => whnf
  refine lenS a0.Ports Port.enc rfl ?_
  conv => whnf
  refine lpS (fun v6 => ⟨[(1, .l (.ptr 2 0)), (28, .l (.d (.sl (a0.Ports.map Port.enc)))), (29, .l (.d (.int .i64 (a0.Ports.length : Int)))), (30, .l (.d (.int .i64 v6)))], 63, [], [(2, [.d (.sl (a0.Parts.map Part.enc)), .d (.sl (a0.Ports.map Port.enc))])], []⟩) h (Weak.refl _) (fun _ nx6 hn6 v6 h => ?_)
  conv => whnf
  refine fkS h (fun h => ?_) (fun h => ?_)
  · conv => whnf
    refine ixS (enc := Port.enc) h rfl (fun _ => rfl) (fun x7 h => ?_)
    conv => whnf
    refine jnS (fun w8 => ⟨[(1, .l (.ptr 2 0)), (28, .l (.d (.sl (a0.Ports.map Port.enc)))), (29, .l (.d (.int .i64 (a0.Ports.length : Int)))), (30, .l (.d (.int .i64 v6))), (47, .l (.d (.bool w8)))], 63, [], [(2, [.d (.sl (a0.Parts.map Part.enc)), .d (.sl (a0.Ports.map Port.enc))])], []⟩) h (fun k8 hk8 h => ?_) (fun w8 h => ?_)
    · conv => whnf
      refine lenS a0.Parts Part.enc rfl ?_
      conv => whnf
      refine fkS h (fun h => ?_) (fun h => ?_)
      · conv => whnf
        exact jeS hk8 h (Weak.refl _)
      conv => whnf
      refine lenS a0.Parts Part.enc rfl ?_
      conv => whnf
      exact jeS hk8 h (Weak.refl _)
    conv => whnf
    refine fkS h (fun h => ?_) (fun h => ?_)
    · conv => whnf
      exact rt (E := E_Bool) h rfl
    conv => whnf
    exact leS hn6 h (Weak.refl _)
  conv => whnf
  refine ccS (E := E_ListPortLine_Int) h (port_Open_w a0.Ports) rfl rfl (fun x9 h => ?_)
  conv => whnf
  refine fkS h (fun h => ?_) (fun h => ?_)
  · conv => whnf
    refine lenS a0.Parts Part.enc rfl ?_
    conv => whnf
    exact rt (E := E_Bool) h rfl
  conv => whnf
  exact rt (E := E_Bool) h rfl

end Go.Proofs.YtldlcdnhdedoeaaGreat
namespace Go.Proofs.YtldlcdnhdedoeaaGreat
open Go Go.VC
noncomputable def ref18_May (a0 : Port) : Option Bool :=
  fk (decide (a0.From ≥ (0 : Int))) (fk (decide (a0.From < (4 : Int))) (fk (decide (a0.To ≥ (0 : Int))) (fk (decide (a0.To < (4 : Int))) (fk (!decide (a0.To = a0.From)) (fk (decide (a0.Cap > (0 : Int))) (some (decide (a0.Cap < (5 : Int)))) (some false)) (some false)) (some false)) (some false)) (some false)) (some false)
theorem ref18_May_w (a0 : Port) (r : Bool) (h : ref18_May a0 = some r) : Go.VC.Spec Tryz.prog 155 [.agg (Port.enc a0)] (fun y => y = E_Bool r) := by
  refine Go.VC.Spec.of_xc (args := [.agg (Port.enc a0)]) (fn := Tryz.f155) tab ⟨[(0, [1]), (1, [2])], [], [], []⟩ 38 [.tmp 2] rfl rfl rfl rfl rfl rfl ?_
  conv => whnf
  refine fkS h (fun h => ?_) (fun h => ?_)
  · conv => whnf
    refine fkS h (fun h => ?_) (fun h => ?_)
    · conv => whnf
      refine fkS h (fun h => ?_) (fun h => ?_)
      · conv => whnf
        refine fkS h (fun h => ?_) (fun h => ?_)
        · conv => whnf
          refine fkS h (fun h => ?_) (fun h => ?_)
          · conv => whnf
            refine fkS h (fun h => ?_) (fun h => ?_)
            · conv => whnf
              exact rt (E := E_Bool) h rfl
            conv => whnf
            exact rt (E := E_Bool) h rfl
          conv => whnf
          exact rt (E := E_Bool) h rfl
        conv => whnf
        exact rt (E := E_Bool) h rfl
      conv => whnf
      exact rt (E := E_Bool) h rfl
    conv => whnf
    exact rt (E := E_Bool) h rfl
  conv => whnf
  exact rt (E := E_Bool) h rfl

end Go.Proofs.YtldlcdnhdedoeaaGreat
namespace Go.Proofs.YtldlcdnhdedoeaaGreat
open Go Go.VC
noncomputable def ref18_All (a0 : List Port) : Option Bool :=
  lp (fun nx1 (v1 : Int) => fk (decide (v1 < (a0.length : Int))) (ix a0 v1 fun x2 => bnd (ref18_May x2) fun x3 => fk (!x3) (some false) (nx1 (wr (v1 + (1 : Int))))) (some (decide ((a0.length : Int) < (5 : Int))))) FU (0 : Int)
theorem ref18_All_w (a0 : List Port) (r : Bool) (h : ref18_All a0 = some r) : Go.VC.Spec Tryz.prog 115 [.d (.sl (a0.map Port.enc))] (fun y => y = E_Bool r) := by
  refine Go.VC.Spec.of_xc (args := [.d (.sl (a0.map Port.enc))]) (fn := Tryz.f115) tab ⟨[(0, [0]), (1, [0, 3]), (2, [0, 3, 7]), (3, [0, 3]), (4, [0, 3, 15]), (5, [2]), (6, [2])], [], [], []⟩ 19 [.tmp 2] rfl rfl rfl rfl rfl rfl ?_
  conv => whnf
  refine lpS (fun v1 => ⟨[(0, .l (.d (.sl (a0.map Port.enc)))), (3, .l (.d (.int .i64 v1)))], 19, [], [], []⟩) h (Weak.refl _) (fun _ nx1 hn1 v1 h => ?_)
  conv => whnf
  refine lenS a0 Port.enc rfl ?_
  conv => whnf
  refine fkS h (fun h => ?_) (fun h => ?_)
  · conv => whnf
    refine ixS (enc := Port.enc) h rfl (fun _ => rfl) (fun x2 h => ?_)
    conv => whnf
    refine caS (E := E_Bool) h (ref18_May_w x2) rfl (fun _ => rfl) (fun x3 h => ?_)
    conv => whnf
    refine fkS h (fun h => ?_) (fun h => ?_)
    · conv => whnf
      exact rt (E := E_Bool) h rfl
    conv => whnf
    exact leS hn1 h (Weak.refl _)
  conv => whnf
  refine lenS a0 Port.enc rfl ?_
  conv => whnf
  exact rt (E := E_Bool) h rfl

end Go.Proofs.YtldlcdnhdedoeaaGreat
namespace Go.Proofs.YtldlcdnhdedoeaaGreat
open Go Go.VC
noncomputable def ref19_Right (a0 : Config) : Option Bool :=
  jn (fun (w1 : Bool) => fk w1 (some false) (lp (fun nx3 (v3 : Int) => fk (decide (v3 < (a0.Parts.length : Int))) (jn (fun (w4 : Bool) => fk w4 (some false) (nx3 (wr (v3 + (1 : Int))))) (fun k4 => ix a0.Parts v3 fun x5 => bnd (ref09_Right x5.Face) fun x6 => fk (!x6) (k4 true) (ix a0.Parts v3 fun x7 => bnd (ref05_All x7.Tasks) fun x8 => k4 (!x8)))) (lp (fun nx9 (v9 : Int) => fk (decide (v9 < (a0.Ports.length : Int))) (jn (fun (w10 : Bool) => fk w10 (some false) (nx9 (wr (v9 + (1 : Int))))) (fun k10 => ix a0.Ports v9 fun x11 => fk (decide (x11.From ≥ (a0.Parts.length : Int))) (k10 true) (ix a0.Ports v9 fun x12 => k10 (decide (x12.To ≥ (a0.Parts.length : Int)))))) (some true)) FU (0 : Int))) FU (0 : Int))) (fun k1 => fk (decide ((a0.Parts.length : Int) > (4 : Int))) (k1 true) (bnd (ref18_All a0.Ports) fun x2 => k1 (!x2)))
theorem ref19_Right_w (a0 : Config) (r : Bool) (h : ref19_Right a0 = some r) : Go.VC.Spec Tryz.prog 57 [.agg (Config.enc a0)] (fun y => y = E_Bool r) := by
  refine Go.VC.Spec.of_xc (args := [.agg (Config.enc a0)]) (fn := Tryz.f57) tab ⟨[(0, [1]), (1, [1, 14]), (2, [2]), (3, [1, 3]), (4, [1, 3, 19]), (5, [1, 3]), (6, [1, 3, 39]), (7, [2]), (8, [1, 4]), (9, [1, 4, 44]), (10, [1, 4]), (11, [1, 4, 68]), (12, [2]), (13, [2])], [], [100014, 100039, 100068], []⟩ 69 [.tmp 2] rfl rfl rfl rfl rfl rfl ?_
  conv => whnf
  refine jnS (fun w1 => ⟨[(1, .l (.ptr 2 0)), (14, .l (.d (.bool w1)))], 69, [], [(2, [.d (.sl (a0.Parts.map Part.enc)), .d (.sl (a0.Ports.map Port.enc))])], []⟩) h (fun k1 hk1 h => ?_) (fun w1 h => ?_)
  · conv => whnf
    refine lenS a0.Parts Part.enc rfl ?_
    conv => whnf
    refine fkS h (fun h => ?_) (fun h => ?_)
    · conv => whnf
      exact jeS hk1 h (Weak.refl _)
    conv => whnf
    refine caS (E := E_Bool) h (ref18_All_w a0.Ports) rfl (fun _ => rfl) (fun x2 h => ?_)
    conv => whnf
    exact jeS hk1 h (Weak.refl _)
  conv => whnf
  refine fkS h (fun h => ?_) (fun h => ?_)
  · conv => whnf
    exact rt (E := E_Bool) h rfl
  conv => whnf
  refine lpS (fun v3 => ⟨[(1, .l (.ptr 2 0)), (3, .l (.d (.int .i64 v3)))], 69, [], [(2, [.d (.sl (a0.Parts.map Part.enc)), .d (.sl (a0.Ports.map Port.enc))])], []⟩) h (Weak.refl _) (fun _ nx3 hn3 v3 h => ?_)
  conv => whnf
  refine lenS a0.Parts Part.enc rfl ?_
  conv => whnf
  refine fkS h (fun h => ?_) (fun h => ?_)
  · conv => whnf
    refine jnS (fun w4 => ⟨[(1, .l (.ptr 2 0)), (3, .l (.d (.int .i64 v3))), (39, .l (.d (.bool w4)))], 69, [], [(2, [.d (.sl (a0.Parts.map Part.enc)), .d (.sl (a0.Ports.map Port.enc))])], []⟩) h (fun k4 hk4 h => ?_) (fun w4 h => ?_)
    · conv => whnf
      refine ixS (enc := Part.enc) h rfl (fun _ => rfl) (fun x5 h => ?_)
      conv => whnf
      refine caS (E := E_Bool) h (ref09_Right_w x5.Face) rfl (fun _ => rfl) (fun x6 h => ?_)
      conv => whnf
      refine fkS h (fun h => ?_) (fun h => ?_)
      · conv => whnf
        exact jeS hk4 h (Weak.refl _)
      conv => whnf
      refine ixS (enc := Part.enc) h rfl (fun _ => rfl) (fun x7 h => ?_)
      conv => whnf
      refine caS (E := E_Bool) h (ref05_All_w x7.Tasks) rfl (fun _ => rfl) (fun x8 h => ?_)
      conv => whnf
      exact jeS hk4 h (Weak.refl _)
    conv => whnf
    refine fkS h (fun h => ?_) (fun h => ?_)
    · conv => whnf
      exact rt (E := E_Bool) h rfl
    conv => whnf
    exact leS hn3 h (Weak.refl _)
  conv => whnf
  refine lpS (fun v9 => ⟨[(1, .l (.ptr 2 0)), (4, .l (.d (.int .i64 v9)))], 69, [], [(2, [.d (.sl (a0.Parts.map Part.enc)), .d (.sl (a0.Ports.map Port.enc))])], []⟩) h (Weak.refl _) (fun _ nx9 hn9 v9 h => ?_)
  conv => whnf
  refine lenS a0.Ports Port.enc rfl ?_
  conv => whnf
  refine fkS h (fun h => ?_) (fun h => ?_)
  · conv => whnf
    refine jnS (fun w10 => ⟨[(1, .l (.ptr 2 0)), (4, .l (.d (.int .i64 v9))), (68, .l (.d (.bool w10)))], 69, [], [(2, [.d (.sl (a0.Parts.map Part.enc)), .d (.sl (a0.Ports.map Port.enc))])], []⟩) h (fun k10 hk10 h => ?_) (fun w10 h => ?_)
    · conv => whnf
      refine ⟨22, ?_⟩
      conv => whnf
      refine ixS (enc := Port.enc) h rfl (fun _ => rfl) (fun x11 h => ?_)
      conv => whnf
      refine lenS a0.Parts Part.enc rfl ?_
      conv => whnf
      refine fkS h (fun h => ?_) (fun h => ?_)
      · conv => whnf
        refine drS (by kernel_rfl) ?_
        conv => whnf
        exact jeS hk10 h (Weak.refl _)
      conv => whnf
      refine ixS (enc := Port.enc) h rfl (fun _ => rfl) (fun x12 h => ?_)
      conv => whnf
      refine lenS a0.Parts Part.enc rfl ?_
      conv => whnf
      refine drS (by kernel_rfl) ?_
      conv => whnf
      exact jeS hk10 h (Weak.refl _)
    conv => whnf
    refine fkS h (fun h => ?_) (fun h => ?_)
    · conv => whnf
      exact rt (E := E_Bool) h rfl
    conv => whnf
    exact leS hn9 h (Weak.refl _)
  conv => whnf
  exact rt (E := E_Bool) h rfl

end Go.Proofs.YtldlcdnhdedoeaaGreat
namespace Go.Proofs.YtldlcdnhdedoeaaGreat
open Go Go.VC
noncomputable def table_Make (a0 : List Face) : Option (TableTable × Int) :=
  bnd (synth_Lay a0) fun x1 => fk (!decide (x1.2 = (0 : Int))) (some (⟨(0 : Int), []⟩, x1.2)) (bnd (table_Of x1.1) fun x2 => some (x2.1, x2.2))
theorem table_Make_w (a0 : List Face) (r : TableTable × Int) (h : table_Make a0 = some r) : Go.VC.Spec Tryz.prog 55 [.d (.sl (a0.map Face.enc))] (fun y => y = E_TableTable_Int r) := by
  refine Go.VC.Spec.of_xc (args := [.d (.sl (a0.map Face.enc))]) (fn := Tryz.f55) tab ⟨[(0, [0, 2]), (1, [2, 4, 5]), (2, [2, 4, 5, 12]), (3, [2, 3]), (4, [2, 3])], [], [], []⟩ 19 [.cell 2 30, .tmp 3] rfl rfl rfl rfl rfl rfl ?_
  conv => whnf
  refine ccS (E := E_ListInt_Int) h (synth_Lay_w a0) rfl rfl (fun x1 h => ?_)
  conv => whnf
  refine fkS h (fun h => ?_) (fun h => ?_)
  · conv => whnf
    exact rt (E := E_TableTable_Int) h rfl
  conv => whnf
  refine ccS (E := E_TableTable_Int) h (table_Of_w x1.1) rfl rfl (fun x2 h => ?_)
  conv => whnf
  exact rt (E := E_TableTable_Int) h rfl

end Go.Proofs.YtldlcdnhdedoeaaGreat
namespace Go.Proofs.YtldlcdnhdedoeaaGreat
open Go Go.VC
noncomputable def kernel_Boot (a0 : Config) : Option (KernelState × Int) :=
  bnd (image_Right a0) fun x1 => fk (!x1) (some (⟨⟨(0 : Int), []⟩, [], [], [], (0 : Int)⟩, (1 : Int))) (lp (fun nx2 (v2 : (List Face) × Int) => fk (decide (v2.2 < (a0.Parts.length : Int))) (ix a0.Parts v2.2 fun x3 => ck (decide ((v2.1.length + ([x3.Face] : List Face).length) * 16 ≤ 140737488355328)) (nx2 (v2.1 ++ ([x3.Face] : List Face), (wr (v2.2 + (1 : Int)))))) (bnd (table_Make v2.1) fun x4 => fk (!decide (x4.2 = (0 : Int))) (some (⟨⟨(0 : Int), []⟩, [], [], [], (0 : Int)⟩, x4.2)) (lp (fun nx5 (v5 : (List PartState) × Int) => fk (decide (v5.2 < (a0.Parts.length : Int))) (ix a0.Parts v5.2 fun x6 => bnd (admit_Boot x6) fun x7 => fk (!decide (x7.2 = (0 : Int))) (some (⟨⟨(0 : Int), []⟩, [], [], [], (0 : Int)⟩, x7.2)) (ck (decide ((v5.1.length + ([x7.1] : List PartState).length) * 120 ≤ 140737488355328)) (nx5 (v5.1 ++ ([x7.1] : List PartState), (wr (v5.2 + (1 : Int))))))) (bnd (port_Open a0.Ports) fun x8 => some (⟨x4.1, v2.1, v5.1, x8.1, (0 : Int)⟩, (0 : Int)))) FU ([], (0 : Int))))) FU ([], (0 : Int)))
theorem kernel_Boot_w (a0 : Config) (r : KernelState × Int) (h : kernel_Boot a0 = some r) : Go.VC.Spec Tryz.prog 14 [.agg (Config.enc a0)] (fun y => y = E_KernelState_Int r) := by
  refine Go.VC.Spec.of_xc (args := [.agg (Config.enc a0)]) (fn := Tryz.f14) tab ⟨[(0, [1, 2]), (1, [1, 2, 14]), (2, [2, 3]), (3, [1, 2, 4]), (4, [1, 2, 4]), (5, [1, 2, 4, 17, 18, 19]), (6, [1, 2, 4, 17, 18, 19, 20]), (7, [1, 2, 4, 7, 17, 18, 19]), (8, [1, 2, 4, 17, 18, 19]), (9, [1, 2, 4, 17, 18, 19]), (10, [1, 2, 4, 5]), (11, [1, 2, 4, 5, 39]), (12, [2, 3]), (13, [1, 2, 4, 43, 44, 45]), (14, [1, 2, 4, 43, 44, 45, 46]), (15, [1, 2, 4, 9, 43, 44, 45]), (16, [1, 2, 4, 10, 11, 43, 44, 45]), (17, [1, 2, 4, 10, 11, 43, 44, 45, 55]), (18, [2, 3]), (19, [1, 2, 4, 43, 44, 45]), (20, [1, 2, 4, 43, 44, 45]), (21, [2, 4]), (22, [2, 3])], [], [], []⟩ 73 [.cell 2 35, .tmp 3] rfl rfl rfl rfl rfl rfl ?_
  conv => whnf
  refine caS (E := E_Bool) h (image_Right_w a0) rfl (fun _ => rfl) (fun x1 h => ?_)
  conv => whnf
  refine fkS h (fun h => ?_) (fun h => ?_)
  · conv => whnf
    exact rt (E := E_KernelState_Int) h rfl
  conv => whnf
  refine lenS a0.Parts Part.enc rfl ?_
  conv => whnf
  refine lpS (fun v2 => ⟨[(1, .l (.ptr 2 0)), (2, .l (.ptr 3 0)), (4, .l (.ptr 5 0)), (17, .l (.d (.sl (a0.Parts.map Part.enc)))), (18, .l (.d (.int .i64 (a0.Parts.length : Int)))), (19, .l (.d (.int .i64 v2.2)))], 73, [], [(2, [.d (.sl (a0.Parts.map Part.enc)), .d (.sl (a0.Ports.map Port.enc))]), (3, [.d (.int .i64 (0 : Int)), .nil, .nil, .nil, .nil, .d (.int .i64 (0 : Int))]), (5, [.d (.int .i64 (0 : Int)), .nil, .own 50502, .nil, .nil, .d (.int .i64 (0 : Int))])], [(50502, 55, 2, v2.1.map Face.enc)]⟩) h (Weak.trans (Weak.nilBO _ 5 2 50502 55 2 _ rfl rfl) (Weak.refl _)) (fun _ nx2 hn2 v2 h => ?_)
  conv => whnf
  refine fkS h (fun h => ?_) (fun h => ?_)
  · conv => whnf
    refine ixS (enc := Part.enc) h rfl (fun _ => rfl) (fun x3 h => ?_)
    conv => whnf
    refine liS ([x3.Face] : List Face) Face.enc rfl rfl ?_
    conv => whnf
    refine apS (enc := Face.enc) (l1 := v2.1) (l2 := ([x3.Face] : List Face)) h rfl rfl (fun _ => rfl) (fun h => ?_)
    conv => whnf
    refine leX hn2 h ?_
    conv => whnf
    refine WkF.step (Weak.rekey _ 29 50502 rfl) ?_
    conv => whnf
    exact WkF.refl _
  conv => whnf
  refine iceS 50502 ?_
  conv => whnf
  refine ccS (E := E_TableTable_Int) h (table_Make_w v2.1) rfl rfl (fun x4 h => ?_)
  conv => whnf
  refine fkS h (fun h => ?_) (fun h => ?_)
  · conv => whnf
    exact rt (E := E_KernelState_Int) h rfl
  conv => whnf
  refine lenS a0.Parts Part.enc rfl ?_
  conv => whnf
  refine lpS (fun v5 => ⟨[(1, .l (.ptr 2 0)), (2, .l (.ptr 3 0)), (4, .l (.ptr 5 0)), (43, .l (.d (.sl (a0.Parts.map Part.enc)))), (44, .l (.d (.int .i64 (a0.Parts.length : Int)))), (45, .l (.d (.int .i64 v5.2)))], 73, [], [(2, [.d (.sl (a0.Parts.map Part.enc)), .d (.sl (a0.Ports.map Port.enc))]), (3, [.d (.int .i64 (0 : Int)), .nil, .nil, .nil, .nil, .d (.int .i64 (0 : Int))]), (5, [.d (.int .i64 x4.1.Frame), .d (.sl (x4.1.Windows.map Window.enc)), .d (.sl (v2.1.map Face.enc)), .own 50503, .nil, .d (.int .i64 (0 : Int))])], [(50503, 51, 5, v5.1.map PartState.enc)]⟩) h (Weak.trans (Weak.nilBO _ 5 3 50503 51 5 _ rfl rfl) (Weak.refl _)) (fun _ nx5 hn5 v5 h => ?_)
  conv => whnf
  refine fkS h (fun h => ?_) (fun h => ?_)
  · conv => whnf
    refine ixS (enc := Part.enc) h rfl (fun _ => rfl) (fun x6 h => ?_)
    conv => whnf
    refine ccS (E := E_PartState_Int) h (admit_Boot_w x6) rfl rfl (fun x7 h => ?_)
    conv => whnf
    refine fkS h (fun h => ?_) (fun h => ?_)
    · conv => whnf
      exact rt (E := E_KernelState_Int) h rfl
    conv => whnf
    refine liS ([x7.1] : List PartState) PartState.enc rfl rfl ?_
    conv => whnf
    refine apS (enc := PartState.enc) (l1 := v5.1) (l2 := ([x7.1] : List PartState)) h rfl rfl (fun _ => rfl) (fun h => ?_)
    conv => whnf
    refine leX hn5 h ?_
    conv => whnf
    refine WkF.step (Weak.rekey _ 63 50503 rfl) ?_
    conv => whnf
    exact WkF.refl _
  conv => whnf
  refine ccS (E := E_ListPortLine_Int) h (port_Open_w a0.Ports) rfl rfl (fun x8 h => ?_)
  conv => whnf
  exact rt (E := E_KernelState_Int) h rfl

end Go.Proofs.YtldlcdnhdedoeaaGreat
namespace Go.Proofs.YtldlcdnhdedoeaaGreat
open Go Go.VC
noncomputable def ref21_Boot (a0 : Config) : Option ((List Int) × Int) :=
  bnd (ref19_Right a0) fun x1 => fk (!x1) (some ([], (1 : Int))) (lp (fun nx2 (v2 : (List Face) × Int) => fk (decide (v2.2 < (a0.Parts.length : Int))) (ix a0.Parts v2.2 fun x3 => ck (decide ((v2.1.length + ([x3.Face] : List Face).length) * 16 ≤ 140737488355328)) (nx2 (v2.1 ++ ([x3.Face] : List Face), (wr (v2.2 + (1 : Int)))))) (bnd (ref12_Lay v2.1) fun x4 => fk (!decide (x4.2 = (0 : Int))) (some ([], x4.2)) (lp (fun nx5 (v5 : Int) => fk (decide (v5 < (a0.Parts.length : Int))) (ix a0.Parts v5 fun x6 => bnd (ref20_Boot x6) fun x7 => fk (!decide (x7 = (0 : Int))) (some ([], x7)) (nx5 (wr (v5 + (1 : Int))))) (some (x4.1, (0 : Int)))) FU (0 : Int)))) FU ([], (0 : Int)))
theorem ref21_Boot_w (a0 : Config) (r : (List Int) × Int) (h : ref21_Boot a0 = some r) : Go.VC.Spec Tryz.prog 15 [.agg (Config.enc a0)] (fun y => y = E_ListInt_Int r) := by
  refine Go.VC.Spec.of_xc (args := [.agg (Config.enc a0)]) (fn := Tryz.f15) tab ⟨[(0, [1]), (1, [1, 12]), (2, [2, 3]), (3, [1, 4]), (4, [1, 4, 5]), (5, [1, 4, 5, 17]), (6, [1, 4, 5]), (7, [1, 4, 5]), (8, [1, 6, 7]), (9, [1, 6, 7, 35]), (10, [2, 3]), (11, [1, 6, 8]), (12, [1, 6, 8, 41]), (13, [1, 6, 8]), (14, [1, 6, 8, 9]), (15, [1, 6, 8, 9, 51]), (16, [2, 3]), (17, [2, 3])], [], [], []⟩ 54 [.tmp 2, .tmp 3] rfl rfl rfl rfl rfl rfl ?_
  conv => whnf
  refine caS (E := E_Bool) h (ref19_Right_w a0) rfl (fun _ => rfl) (fun x1 h => ?_)
  conv => whnf
  refine fkS h (fun h => ?_) (fun h => ?_)
  · conv => whnf
    exact rt (E := E_ListInt_Int) h rfl
  conv => whnf
  refine lpS (fun v2 => ⟨[(1, .l (.ptr 2 0)), (4, .l (.own 5)), (5, .l (.d (.int .i64 v2.2)))], 54, [], [(2, [.d (.sl (a0.Parts.map Part.enc)), .d (.sl (a0.Ports.map Port.enc))])], [(5, 55, 2, v2.1.map Face.enc)]⟩) h (Weak.trans (Weak.nilO _ 4 5 55 2 rfl) (Weak.refl _)) (fun _ nx2 hn2 v2 h => ?_)
  conv => whnf
  refine lenS a0.Parts Part.enc rfl ?_
  conv => whnf
  refine fkS h (fun h => ?_) (fun h => ?_)
  · conv => whnf
    refine ixS (enc := Part.enc) h rfl (fun _ => rfl) (fun x3 h => ?_)
    conv => whnf
    refine liS ([x3.Face] : List Face) Face.enc rfl rfl ?_
    conv => whnf
    refine apS (enc := Face.enc) (l1 := v2.1) (l2 := ([x3.Face] : List Face)) h rfl rfl (fun _ => rfl) (fun h => ?_)
    conv => whnf
    exact leS hn2 h (Weak.refl _)
  conv => whnf
  refine iceS 5 ?_
  conv => whnf
  refine ccS (E := E_ListInt_Int) h (ref12_Lay_w v2.1) rfl rfl (fun x4 h => ?_)
  conv => whnf
  refine fkS h (fun h => ?_) (fun h => ?_)
  · conv => whnf
    exact rt (E := E_ListInt_Int) h rfl
  conv => whnf
  refine lpS (fun v5 => ⟨[(1, .l (.ptr 2 0)), (6, .l (.d (.sl (x4.1.map (eI .i64))))), (8, .l (.d (.int .i64 v5)))], 54, [], [(2, [.d (.sl (a0.Parts.map Part.enc)), .d (.sl (a0.Ports.map Port.enc))])], []⟩) h (Weak.refl _) (fun _ nx5 hn5 v5 h => ?_)
  conv => whnf
  refine lenS a0.Parts Part.enc rfl ?_
  conv => whnf
  refine fkS h (fun h => ?_) (fun h => ?_)
  · conv => whnf
    refine ixS (enc := Part.enc) h rfl (fun _ => rfl) (fun x6 h => ?_)
    conv => whnf
    refine caS (E := E_Int) h (ref20_Boot_w x6) rfl (fun _ => rfl) (fun x7 h => ?_)
    conv => whnf
    refine fkS h (fun h => ?_) (fun h => ?_)
    · conv => whnf
      exact rt (E := E_ListInt_Int) h rfl
    conv => whnf
    exact leS hn5 h (Weak.refl _)
  conv => whnf
  exact rt (E := E_ListInt_Int) h rfl

end Go.Proofs.YtldlcdnhdedoeaaGreat
namespace Go.Proofs.YtldlcdnhdedoeaaGreat
open Go Go.VC
noncomputable def law19_Great (a0 : Config) : Option Bool :=
  lp (fun nx1 (v1 : Int) => fk (decide (v1 < (a0.Parts.length : Int))) (ix a0.Parts v1 fun x2 => bnd (law05_Great x2.Tasks) fun x3 => fk x3 (some true) (nx1 (wr (v1 + (1 : Int))))) (fk (decide ((a0.Parts.length : Int) > (20 : Int))) (some true) (some (decide ((a0.Ports.length : Int) > (20 : Int)))))) FU (0 : Int)
theorem law19_Great_w (a0 : Config) (r : Bool) (h : law19_Great a0 = some r) : Go.VC.Spec Tryz.prog 49 [.agg (Config.enc a0)] (fun y => y = E_Bool r) := by
  refine Go.VC.Spec.of_xc (args := [.agg (Config.enc a0)]) (fn := Tryz.f49) tab ⟨[(0, [1]), (1, [1, 3]), (2, [1, 3, 8]), (3, [1, 3]), (4, [1, 3, 17]), (5, [2]), (6, [2])], [], [], []⟩ 28 [.tmp 2] rfl rfl rfl rfl rfl rfl ?_
  conv => whnf
  refine lpS (fun v1 => ⟨[(1, .l (.ptr 2 0)), (3, .l (.d (.int .i64 v1)))], 28, [], [(2, [.d (.sl (a0.Parts.map Part.enc)), .d (.sl (a0.Ports.map Port.enc))])], []⟩) h (Weak.refl _) (fun _ nx1 hn1 v1 h => ?_)
  conv => whnf
  refine lenS a0.Parts Part.enc rfl ?_
  conv => whnf
  refine fkS h (fun h => ?_) (fun h => ?_)
  · conv => whnf
    refine ixS (enc := Part.enc) h rfl (fun _ => rfl) (fun x2 h => ?_)
    conv => whnf
    refine caS (E := E_Bool) h (law05_Great_w x2.Tasks) rfl (fun _ => rfl) (fun x3 h => ?_)
    conv => whnf
    refine fkS h (fun h => ?_) (fun h => ?_)
    · conv => whnf
      exact rt (E := E_Bool) h rfl
    conv => whnf
    exact leS hn1 h (Weak.refl _)
  conv => whnf
  refine lenS a0.Parts Part.enc rfl ?_
  conv => whnf
  refine fkS h (fun h => ?_) (fun h => ?_)
  · conv => whnf
    exact rt (E := E_Bool) h rfl
  conv => whnf
  refine lenS a0.Ports Port.enc rfl ?_
  conv => whnf
  exact rt (E := E_Bool) h rfl

end Go.Proofs.YtldlcdnhdedoeaaGreat
namespace Go.Proofs.YtldlcdnhdedoeaaGreat
open Go Go.VC
noncomputable def law21_Great (a0 : Config) : Option Bool :=
  bnd (law19_Great a0) fun x1 => fk x1 (some true) (lp (fun nx2 (v2 : Int) => fk (decide (v2 < (a0.Parts.length : Int))) (ix a0.Parts v2 fun x3 => ix a0.Parts v2 fun x4 => bnd (ref10_Cycle x3.Tasks x4.Face) fun x5 => fk (decide (x5.2.1 > (200 : Int))) (some true) (nx2 (wr (v2 + (1 : Int))))) (some false)) FU (0 : Int))
theorem law21_Great_w (a0 : Config) (r : Bool) (h : law21_Great a0 = some r) : Go.VC.Spec Tryz.prog 12 [.agg (Config.enc a0)] (fun y => y = E_Bool r) := by
  refine Go.VC.Spec.of_xc (args := [.agg (Config.enc a0)]) (fn := Tryz.f12) tab ⟨[(0, [1]), (1, [1, 8]), (2, [2]), (3, [1, 3]), (4, [1, 3, 13]), (5, [1, 3]), (6, [1, 3, 5]), (7, [1, 3, 34]), (8, [2]), (9, [2])], [], [], []⟩ 35 [.tmp 2] rfl rfl rfl rfl rfl rfl ?_
  conv => whnf
  refine caS (E := E_Bool) h (law19_Great_w a0) rfl (fun _ => rfl) (fun x1 h => ?_)
  conv => whnf
  refine fkS h (fun h => ?_) (fun h => ?_)
  · conv => whnf
    exact rt (E := E_Bool) h rfl
  conv => whnf
  refine lpS (fun v2 => ⟨[(1, .l (.ptr 2 0)), (3, .l (.d (.int .i64 v2)))], 35, [], [(2, [.d (.sl (a0.Parts.map Part.enc)), .d (.sl (a0.Ports.map Port.enc))])], []⟩) h (Weak.refl _) (fun _ nx2 hn2 v2 h => ?_)
  conv => whnf
  refine lenS a0.Parts Part.enc rfl ?_
  conv => whnf
  refine fkS h (fun h => ?_) (fun h => ?_)
  · conv => whnf
    refine ⟨19, ?_⟩
    conv => whnf
    refine ixS (enc := Part.enc) h rfl (fun _ => rfl) (fun x3 h => ?_)
    conv => whnf
    refine ixS (enc := Part.enc) h rfl (fun _ => rfl) (fun x4 h => ?_)
    conv => whnf
    refine daS (E := E_Int_Int_Int) h (ref10_Cycle_w x3.Tasks x4.Face) (fun _ => rfl) (fun x5 h => ?_)
    conv => whnf
    refine drS (by kernel_rfl) ?_
    conv => whnf
    refine fkS h (fun h => ?_) (fun h => ?_)
    · conv => whnf
      exact rt (E := E_Bool) h rfl
    conv => whnf
    exact leS hn2 h (Weak.refl _)
  conv => whnf
  exact rt (E := E_Bool) h rfl

end Go.Proofs.YtldlcdnhdedoeaaGreat
namespace Go.Proofs.YtldlcdnhdedoeaaGreat
open Go Go.VC
/-! Systems, and how they begin. -/
def portIn (n : Int) (p : Port) : Prop := p.From < n ∧ p.To < n
structure confP (c : Config) : Prop where
  ps : ∀ p ∈ c.Parts, faceP p.Face ∧ AllP p.Tasks
  pl : c.Parts.length ≤ 4
  qs : ∀ p ∈ c.Ports, portP p
  qi : ∀ p ∈ c.Ports, portIn (c.Parts.length : Int) p
  ql : c.Ports.length ≤ 4
noncomputable instance (c : Config) : Decidable (confP c) := Classical.propDecidable _
structure confB (c : Config) : Prop where
  p : c.Parts.length ≤ 4611686018427387904
  q : c.Ports.length ≤ 1000
  t : ∀ p ∈ c.Parts, p.Tasks.length ≤ 4611686018427387904 ∧ ∀ t ∈ p.Tasks, t.Secs.length ≤ 4611686018427387904
theorem mem_take_succ {α : Type} {l : List α} {k : Nat} (h : k < l.length) {x : α} (hx : x ∈ l.take (k + 1)) : x ∈ l.take k ∨ x = l[k] := by
  rw [← List.take_append_getElem h] at hx
  rcases List.mem_append.1 hx with h | h
  · exact .inl h
  · exact .inr (List.mem_singleton.1 h)
theorem image_Right_eq (c : Config) (hb : confB c) : image_Right c = some (decide (confP c)) := by
  unfold image_Right
  refine lp_up c.Parts.length (by unfold FU; have := hb.p; omega) (fun k => ∀ p ∈ c.Parts.take k, faceP p.Face ∧ AllP p.Tasks) (fun p h => by simp at h) ?_
  intro nx k hk J hnx
  rw [lt_nat]
  by_cases hk' : k < c.Parts.length
  · have hm := List.getElem_mem hk'
    rw [decide_eq_true hk', fk_t, ix_lt hk', wr_succ k _ hk' hb.p]
    by_cases hh : faceP c.Parts[k].Face ∧ AllP c.Parts[k].Tasks
    · refine jn_to false (fun k3 => ?_) ?_
      · rw [bnd_eq (supply_Right_eq _), decide_eq_true hh.1, Bool.not_true, fk_f, bnd_eq (task_All_eq _ (hb.t _ hm).1), decide_eq_true hh.2]; rfl
      · rw [fk_f]
        refine hnx hk' fun p hp => ?_
        rcases mem_take_succ hk' hp with h | rfl
        · exact J p h
        · exact hh
    · refine jn_to true (fun k3 => ?_) ?_
      · rw [bnd_eq (supply_Right_eq _)]
        by_cases h1 : faceP c.Parts[k].Face
        · rw [decide_eq_true h1, Bool.not_true, fk_f, bnd_eq (task_All_eq _ (hb.t _ hm).1), decide_eq_false (fun h2 => hh ⟨h1, h2⟩)]; rfl
        · rw [decide_eq_false h1, Bool.not_false, fk_t]
      · rw [fk_t, decide_eq_false (fun h : confP c => hh (h.ps _ hm))]
  rw [List.take_of_length_le (by omega)] at J
  rw [decide_eq_false hk', fk_f]
  clear hnx nx hk hk' k
  refine lp_up c.Ports.length (by unfold FU; have := hb.q; omega) (fun k => ∀ p ∈ c.Ports.take k, portIn (c.Parts.length : Int) p) (fun p h => by simp at h) ?_
  intro nx k hk J2 hnx
  rw [lt_nat]
  by_cases hk' : k < c.Ports.length
  · have hm := List.getElem_mem hk'
    rw [decide_eq_true hk', fk_t, ix_lt hk', wr_succ k _ hk' (by have := hb.q; omega)]
    by_cases hh : portIn (c.Parts.length : Int) c.Ports[k]
    · refine jn_to false (fun k3 => ?_) ?_
      · unfold portIn at hh
        rw [decide_eq_false (by omega), fk_f, decide_eq_false (by omega)]
      · rw [fk_f]
        refine hnx hk' fun p hp => ?_
        rcases mem_take_succ hk' hp with h | rfl
        · exact J2 p h
        · exact hh
    · refine jn_to true (fun k3 => ?_) ?_
      · unfold portIn at hh
        by_cases h1 : c.Ports[k].From ≥ (c.Parts.length : Int)
        · rw [decide_eq_true h1, fk_t]
        · rw [decide_eq_false h1, fk_f, decide_eq_true (show c.Ports[k].To ≥ (c.Parts.length : Int) from Int.not_lt.1 fun h2 => hh ⟨by omega, h2⟩)]
      · rw [fk_t, decide_eq_false (fun h : confP c => hh (h.qi _ hm))]
  rw [List.take_of_length_le (by omega)] at J2
  rw [decide_eq_false hk', fk_f, bnd_eq (port_Open_eq _ hb.q)]
  by_cases ho : (∀ p ∈ c.Ports, portP p) ∧ c.Ports.length ≤ 4
  · rw [if_pos ho, decide_eq_true rfl, fk_t]
    exact dec_iff ⟨fun h => ⟨J, by omega, ho.1, J2, ho.2⟩, fun h => by have := h.pl; omega⟩
  · rw [if_neg ho]
    show fk (decide ((1 : Int) = 0)) _ _ = _
    rw [decide_eq_false (by decide), fk_f]
    exact dec_f fun h => ho ⟨h.qs, h.ql⟩
theorem ref18_May_eq (p : Port) : ref18_May p = some (decide (portP p)) := by
  unfold ref18_May portP
  by_cases h1 : p.From ≥ 0
  rotate_left
  · rw [decide_eq_false h1, fk_f]; exact dec_f fun a => h1 a.1
  rw [decide_eq_true h1, fk_t]
  by_cases h2 : p.From < 4
  rotate_left
  · rw [decide_eq_false h2, fk_f]; exact dec_f fun a => h2 a.2.1
  rw [decide_eq_true h2, fk_t]
  by_cases h3 : p.To ≥ 0
  rotate_left
  · rw [decide_eq_false h3, fk_f]; exact dec_f fun a => h3 a.2.2.1
  rw [decide_eq_true h3, fk_t]
  by_cases h4 : p.To < 4
  rotate_left
  · rw [decide_eq_false h4, fk_f]; exact dec_f fun a => h4 a.2.2.2.1
  rw [decide_eq_true h4, fk_t]
  by_cases h5 : p.To = p.From
  · rw [decide_eq_true h5, Bool.not_true, fk_f]; exact dec_f fun a => a.2.2.2.2.1 h5.symm
  rw [decide_eq_false h5, Bool.not_false, fk_t]
  by_cases h6 : p.Cap > 0
  rotate_left
  · rw [decide_eq_false h6, fk_f]; exact dec_f fun a => h6 (by have := a.2.2.2.2.2.1; omega)
  rw [decide_eq_true h6, fk_t]
  exact dec_iff ⟨fun a => ⟨h1, h2, h3, h4, fun e => h5 e.symm, by omega, by omega⟩, fun a => by omega⟩
theorem ref18_All_eq (l : List Port) (hl : l.length ≤ 1000) : ref18_All l = some (decide ((∀ p ∈ l, portP p) ∧ l.length ≤ 4)) := by
  unfold ref18_All
  refine lp_up l.length (by unfold FU; omega) (fun k => ∀ p ∈ l.take k, portP p) (fun p h => by simp at h) ?_
  intro nx k hk J hnx
  rw [lt_nat]
  by_cases hk' : k < l.length
  · rw [decide_eq_true hk', fk_t, ix_lt hk', bnd_eq (ref18_May_eq _), wr_succ k _ hk' (by omega)]
    by_cases hh : portP l[k]
    · rw [decide_eq_true hh, Bool.not_true, fk_f]
      refine hnx hk' fun p hp => ?_
      rcases mem_take_succ hk' hp with h | rfl
      · exact J p h
      · exact hh
    · rw [decide_eq_false hh, Bool.not_false, fk_t]
      exact dec_f fun h => hh (h.1 _ (List.getElem_mem hk'))
  · rw [List.take_of_length_le (by omega)] at J
    rw [decide_eq_false hk', fk_f]
    exact dec_iff ⟨fun h => ⟨J, by omega⟩, fun h => by have := h.2; omega⟩
theorem ref19_Right_eq (c : Config) (hb : confB c) : ref19_Right c = some (decide (confP c)) := by
  unfold ref19_Right
  by_cases h0 : c.Parts.length ≤ 4 ∧ (∀ p ∈ c.Ports, portP p) ∧ c.Ports.length ≤ 4
  rotate_left
  · refine jn_to true (fun k => ?_) (by rw [fk_t]; exact dec_f fun h => h0 ⟨h.pl, h.qs, h.ql⟩)
    by_cases h1 : c.Parts.length ≤ 4
    · rw [decide_eq_false (by omega), fk_f, bnd_eq (ref18_All_eq _ hb.q), decide_eq_false (fun h => h0 ⟨h1, h⟩)]; rfl
    · rw [decide_eq_true (by omega), fk_t]
  obtain ⟨h1, h2, h3⟩ := h0
  refine jn_to false (fun k => by rw [decide_eq_false (by omega), fk_f, bnd_eq (ref18_All_eq _ hb.q), decide_eq_true ⟨h2, h3⟩]; rfl) ?_
  rw [fk_f]
  refine lp_up c.Parts.length (by unfold FU; omega) (fun k => ∀ p ∈ c.Parts.take k, faceP p.Face ∧ AllP p.Tasks) (fun p h => by simp at h) ?_
  intro nx k hk J hnx
  rw [lt_nat]
  by_cases hk' : k < c.Parts.length
  · have hm := List.getElem_mem hk'
    rw [decide_eq_true hk', fk_t, wr_succ k _ hk' (by omega)]
    by_cases hh : faceP c.Parts[k].Face ∧ AllP c.Parts[k].Tasks
    · refine jn_to false (fun k3 => ?_) ?_
      · rw [ix_lt hk', bnd_eq (ref09_Right_eq _), decide_eq_true hh.1, Bool.not_true, fk_f, ix_lt hk', bnd_eq (ref05_All_eq _ (hb.t _ hm).1 (hb.t _ hm).2), decide_eq_true hh.2]; rfl
      · rw [fk_f]
        refine hnx hk' fun p hp => ?_
        rcases mem_take_succ hk' hp with h | rfl
        · exact J p h
        · exact hh
    · refine jn_to true (fun k3 => ?_) ?_
      · rw [ix_lt hk', bnd_eq (ref09_Right_eq _)]
        by_cases g1 : faceP c.Parts[k].Face
        · rw [decide_eq_true g1, Bool.not_true, fk_f, ix_lt hk', bnd_eq (ref05_All_eq _ (hb.t _ hm).1 (hb.t _ hm).2), decide_eq_false (fun g2 => hh ⟨g1, g2⟩)]; rfl
        · rw [decide_eq_false g1, Bool.not_false, fk_t]
      · rw [fk_t, decide_eq_false (fun h : confP c => hh (h.ps _ hm))]
  rw [List.take_of_length_le (by omega)] at J
  rw [decide_eq_false hk', fk_f]
  clear hnx nx hk hk' k
  refine lp_up c.Ports.length (by unfold FU; omega) (fun k => ∀ p ∈ c.Ports.take k, portIn (c.Parts.length : Int) p) (fun p h => by simp at h) ?_
  intro nx k hk J2 hnx
  rw [lt_nat]
  by_cases hk' : k < c.Ports.length
  · have hm := List.getElem_mem hk'
    rw [decide_eq_true hk', fk_t, wr_succ k _ hk' (by omega)]
    by_cases hh : portIn (c.Parts.length : Int) c.Ports[k]
    · refine jn_to false (fun k3 => ?_) ?_
      · unfold portIn at hh
        rw [ix_lt hk', decide_eq_false (by omega), fk_f, ix_lt hk', decide_eq_false (by omega)]
      · rw [fk_f]
        refine hnx hk' fun p hp => ?_
        rcases mem_take_succ hk' hp with h | rfl
        · exact J2 p h
        · exact hh
    · refine jn_to true (fun k3 => ?_) ?_
      · unfold portIn at hh
        rw [ix_lt hk']
        by_cases g1 : c.Ports[k].From ≥ (c.Parts.length : Int)
        · rw [decide_eq_true g1, fk_t]
        · rw [decide_eq_false g1, fk_f, ix_lt hk', decide_eq_true (show c.Ports[k].To ≥ (c.Parts.length : Int) from Int.not_lt.1 fun g2 => hh ⟨by omega, g2⟩)]
      · rw [fk_t, decide_eq_false (fun h : confP c => hh (h.qi _ hm))]
  · rw [List.take_of_length_le (by omega)] at J2
    rw [decide_eq_false hk', fk_f]
    exact dec_t ⟨J, h1, h2, J2, h3⟩
def zeroK : KernelState := ⟨⟨0, []⟩, [], [], [], 0⟩
structure booted (c : Config) (s : KernelState) (ticks : List Int) : Prop where
  conf : confP c
  faces : s.Faces = c.Parts.map (·.Face)
  parts : s.Parts = c.Parts.map fun p => new0 p.Tasks
  lines : s.Lines = c.Ports.map newL
  now : s.Now = 0
  tab : tabP s.Table
  len : s.Table.Frame = (ticks.length : Int)
  at' : ∀ (x : Nat) (y : Int), ticks[x]? = some y → whoV s.Table.Windows (x : Int) = y
theorem table_Make_ex (l : List Face) : ∃ r : List Int × Int, ref12_Lay l = some r ∧ ((r.2 = 0 ∧ ∃ t, table_Make l = some (t, 0) ∧ tabP t ∧ t.Frame = (r.1.length : Int) ∧ ∀ (x : Nat) (y : Int), r.1[x]? = some y → whoV t.Windows (x : Int) = y) ∨ (r.2 ≠ 0 ∧ r.1 = [] ∧ table_Make l = some (⟨0, []⟩, r.2))) := by
  obtain ⟨r, e1, e2, h1, h2⟩ := lay_same l
  refine ⟨r, e2, ?_⟩
  by_cases c : r.2 = 0
  · obtain ⟨a, b, d, _⟩ := h1 c
    obtain ⟨t, f1, f2, f3, f4⟩ := table_Of_ex r.1 a b d
    refine .inl ⟨c, t, ?_, f2, f3, f4⟩
    unfold table_Make
    rw [bnd_eq e1, decide_eq_true c, Bool.not_true, fk_f, bnd_eq f1]
  · refine .inr ⟨c, (h2 c).1, ?_⟩
    unfold table_Make
    rw [bnd_eq e1, decide_eq_false c, Bool.not_false, fk_t]
theorem boot_ex (c : Config) (hb : confB c) : (∃ e, e ≠ 0 ∧ kernel_Boot c = some (zeroK, e) ∧ ref21_Boot c = some ([], e)) ∨ ∃ s ticks, kernel_Boot c = some (s, 0) ∧ ref21_Boot c = some (ticks, 0) ∧ booted c s ticks := by
  by_cases hc : confP c
  rotate_left
  · refine .inl ⟨1, by decide, ?_, ?_⟩
    · unfold kernel_Boot
      rw [bnd_eq (image_Right_eq c hb), decide_eq_false hc, Bool.not_false, fk_t]; rfl
    · unfold ref21_Boot
      rw [bnd_eq (ref19_Right_eq c hb), decide_eq_false hc, Bool.not_false, fk_t]
  have h4 := hc.pl
  obtain ⟨r, eL, hM⟩ := table_Make_ex (c.Parts.map (·.Face))
  rcases hM with ⟨h0, t, eT, hT, hF, hA⟩ | ⟨h0, hn, eT⟩
  rotate_left
  · refine .inl ⟨r.2, h0, ?_, ?_⟩
    · unfold kernel_Boot
      rw [bnd_eq (image_Right_eq c hb), decide_eq_true hc, Bool.not_true, fk_f]
      refine lp_upS c.Parts.length (by unfold FU; omega) (fun k s => s = (c.Parts.take k).map (·.Face)) [] rfl ?_
      rintro nx k s hk rfl hnx
      dsimp only
      rw [lt_nat]
      by_cases hk' : k < c.Parts.length
      · rw [decide_eq_true hk', fk_t, ix_lt hk', ck_t (by simp; omega), wr_succ k _ hk' (by omega)]
        refine hnx _ hk' ?_
        rw [← List.take_append_getElem hk', List.map_append]; rfl
      · rw [decide_eq_false hk', fk_f, List.take_of_length_le (by omega)]
        rw [bnd_eq eT, decide_eq_false h0, Bool.not_false, fk_t]; rfl
    · unfold ref21_Boot
      rw [bnd_eq (ref19_Right_eq c hb), decide_eq_true hc, Bool.not_true, fk_f]
      refine lp_upS c.Parts.length (by unfold FU; omega) (fun k s => s = (c.Parts.take k).map (·.Face)) [] rfl ?_
      rintro nx k s hk rfl hnx
      dsimp only
      rw [lt_nat]
      by_cases hk' : k < c.Parts.length
      · rw [decide_eq_true hk', fk_t, ix_lt hk', ck_t (by simp; omega), wr_succ k _ hk' (by omega)]
        refine hnx _ hk' ?_
        rw [← List.take_append_getElem hk', List.map_append]; rfl
      · rw [decide_eq_false hk', fk_f, List.take_of_length_le (by omega)]
        rw [bnd_eq eL, decide_eq_false h0, Bool.not_false, fk_t]
  have hop : (∀ p ∈ c.Ports, portP p) ∧ c.Ports.length ≤ 4 := ⟨hc.qs, hc.ql⟩
  -- all boot, or the first that doesn't
  have dich : (∀ p ∈ c.Parts, bootE p = 0) ∨ ∃ (k : Nat) (h : k < c.Parts.length), bootE c.Parts[k] ≠ 0 ∧ ∀ p ∈ c.Parts.take k, bootE p = 0 := by
    have : ∀ n, n ≤ c.Parts.length → (∀ p ∈ c.Parts.take n, bootE p = 0) ∨ ∃ (k : Nat) (h : k < c.Parts.length), bootE c.Parts[k] ≠ 0 ∧ ∀ p ∈ c.Parts.take k, bootE p = 0 := by
      intro n
      induction n with
      | zero => intro _; exact .inl fun p h => by simp at h
      | succ n ih =>
        intro hn
        rcases ih (by omega) with h | h
        · by_cases e : bootE (c.Parts[n]'(by omega)) = 0
          · refine .inl fun p hp => ?_
            rcases mem_take_succ (by omega) hp with h' | rfl
            · exact h p h'
            · exact e
          · exact .inr ⟨n, by omega, e, h⟩
        · exact .inr h
    rcases this c.Parts.length (Nat.le_refl _) with h | h
    · rw [List.take_length] at h; exact .inl h
    · exact .inr h
  have kb : ∀ r', lp (fun nx5 (v5 : (List PartState) × Int) => fk (decide (v5.2 < (c.Parts.length : Int))) (ix c.Parts v5.2 fun x6 => bnd (admit_Boot x6) fun x7 => fk (!decide (x7.2 = (0 : Int))) (some (zeroK, x7.2)) (ck (decide ((v5.1.length + ([x7.1] : List PartState).length) * 120 ≤ 140737488355328)) (nx5 (v5.1 ++ ([x7.1] : List PartState), (wr (v5.2 + (1 : Int))))))) (bnd (port_Open c.Ports) fun x8 => some (⟨t, c.Parts.map (·.Face), v5.1, x8.1, (0 : Int)⟩, (0 : Int)))) FU ([], (0 : Int)) = some r' → kernel_Boot c = some r' := by
    intro r' hr
    unfold kernel_Boot
    rw [bnd_eq (image_Right_eq c hb), decide_eq_true hc, Bool.not_true, fk_f]
    refine lp_upS c.Parts.length (by unfold FU; omega) (fun k s => s = (c.Parts.take k).map (·.Face)) [] rfl ?_
    rintro nx k s hk rfl hnx
    dsimp only
    rw [lt_nat]
    by_cases hk' : k < c.Parts.length
    · rw [decide_eq_true hk', fk_t, ix_lt hk', ck_t (by simp; omega), wr_succ k _ hk' (by omega)]
      refine hnx _ hk' ?_
      rw [← List.take_append_getElem hk', List.map_append]; rfl
    · rw [decide_eq_false hk', fk_f, List.take_of_length_le (by omega)]
      rw [bnd_eq eT, decide_eq_true rfl, Bool.not_true, fk_f]
      exact hr
  have rb : ∀ r', lp (fun nx5 (v5 : Int) => fk (decide (v5 < (c.Parts.length : Int))) (ix c.Parts v5 fun x6 => bnd (ref20_Boot x6) fun x7 => fk (!decide (x7 = (0 : Int))) (some (([] : List Int), x7)) (nx5 (wr (v5 + (1 : Int))))) (some (r.1, (0 : Int)))) FU (0 : Int) = some r' → ref21_Boot c = some r' := by
    intro r' hr
    unfold ref21_Boot
    rw [bnd_eq (ref19_Right_eq c hb), decide_eq_true hc, Bool.not_true, fk_f]
    refine lp_upS c.Parts.length (by unfold FU; omega) (fun k s => s = (c.Parts.take k).map (·.Face)) [] rfl ?_
    rintro nx k s hk rfl hnx
    dsimp only
    rw [lt_nat]
    by_cases hk' : k < c.Parts.length
    · rw [decide_eq_true hk', fk_t, ix_lt hk', ck_t (by simp; omega), wr_succ k _ hk' (by omega)]
      refine hnx _ hk' ?_
      rw [← List.take_append_getElem hk', List.map_append]; rfl
    · rw [decide_eq_false hk', fk_f, List.take_of_length_le (by omega)]
      rw [bnd_eq eL, decide_eq_true h0, Bool.not_true, fk_f]
      exact hr
  rcases dich with hall | ⟨q, hq, hqe, hqa⟩
  · refine .inr ⟨⟨t, c.Parts.map (·.Face), c.Parts.map fun p => new0 p.Tasks, c.Ports.map newL, 0⟩, r.1, kb _ ?_, rb _ ?_, ⟨hc, rfl, rfl, rfl, rfl, hT, hF, hA⟩⟩
    · skip
      refine lp_upS c.Parts.length (by unfold FU; omega) (fun k s => s = (c.Parts.take k).map fun p => new0 p.Tasks) [] rfl ?_
      rintro nx k s hk rfl hnx
      dsimp only
      rw [lt_nat]
      by_cases hk' : k < c.Parts.length
      · have hm := List.getElem_mem hk'
        rw [decide_eq_true hk', fk_t, ix_lt hk', bnd_eq (admit_Boot_eq _ (hb.t _ hm).1 (hb.t _ hm).2), if_pos (hall _ hm)]
        dsimp only
        rw [decide_eq_true rfl, Bool.not_true, fk_f, ck_t (by simp; omega), wr_succ k _ hk' (by omega)]
        refine hnx _ hk' ?_
        rw [← List.take_append_getElem hk', List.map_append]; rfl
      · rw [decide_eq_false hk', fk_f, List.take_of_length_le (by omega), bnd_eq (port_Open_eq _ hb.q), if_pos hop]
    · refine lp_up c.Parts.length (by unfold FU; omega) (fun _ => True) trivial ?_
      intro nx k hk _ hnx
      rw [lt_nat]
      by_cases hk' : k < c.Parts.length
      · have hm := List.getElem_mem hk'
        rw [decide_eq_true hk', fk_t, ix_lt hk', bnd_eq (ref20_Boot_eq _ (hb.t _ hm).1 (hb.t _ hm).2), decide_eq_true (hall _ hm), Bool.not_true, fk_f, wr_succ k _ hk' (by omega)]
        exact hnx hk' trivial
      · rw [decide_eq_false hk', fk_f]
  · refine .inl ⟨bootE c.Parts[q], hqe, kb _ ?_, rb _ ?_⟩
    · skip
      refine lp_upS c.Parts.length (by unfold FU; omega) (fun k s => s = ((c.Parts.take k).map fun p => new0 p.Tasks) ∧ k ≤ q) [] ⟨rfl, Nat.zero_le _⟩ ?_
      rintro nx k s hk ⟨rfl, hkq⟩ hnx
      dsimp only
      rw [lt_nat]
      have hk' : k < c.Parts.length := by omega
      have hm := List.getElem_mem hk'
      rw [decide_eq_true hk', fk_t, ix_lt hk', bnd_eq (admit_Boot_eq _ (hb.t _ hm).1 (hb.t _ hm).2)]
      by_cases ek : k = q
      · subst ek
        rw [if_neg hqe]
        dsimp only
        rw [decide_eq_false hqe, Bool.not_false, fk_t]
      · have h0 : bootE c.Parts[k] = 0 := hqa _ (by
          have hlt : k < (c.Parts.take q).length := by rw [List.length_take]; omega
          have := List.getElem_mem hlt
          rwa [List.getElem_take] at this)
        rw [if_pos h0]
        dsimp only
        rw [decide_eq_true rfl, Bool.not_true, fk_f, ck_t (by simp; omega), wr_succ k _ hk' (by omega)]
        refine hnx _ hk' ⟨?_, by omega⟩
        rw [← List.take_append_getElem hk', List.map_append]; rfl
    · refine lp_up c.Parts.length (by unfold FU; omega) (fun k => k ≤ q) (Nat.zero_le _) ?_
      intro nx k hk hkq hnx
      have hk' : k < c.Parts.length := by omega
      have hm := List.getElem_mem hk'
      rw [lt_nat, decide_eq_true hk', fk_t, ix_lt hk', bnd_eq (ref20_Boot_eq _ (hb.t _ hm).1 (hb.t _ hm).2)]
      by_cases ek : k = q
      · subst ek
        rw [decide_eq_false hqe, Bool.not_false, fk_t]
      · have h0 : bootE c.Parts[k] = 0 := hqa _ (by
          have hlt : k < (c.Parts.take q).length := by rw [List.length_take]; omega
          have := List.getElem_mem hlt
          rwa [List.getElem_take] at this)
        rw [decide_eq_true h0, Bool.not_true, fk_f, wr_succ k _ hk' (by omega)]
        exact hnx hk' (by omega)
theorem great_ex (c : Config) (hp : c.Parts.length ≤ 4611686018427387904) (ht : ∀ p ∈ c.Parts, p.Tasks.length ≤ 4611686018427387904 ∧ ∀ t ∈ p.Tasks, t.Secs.length ≤ 4611686018427387904) : ∃ b, law21_Great c = some b ∧ (b = false → c.Parts.length ≤ 20 ∧ c.Ports.length ≤ 20) := by
  have h19 : ∃ b, law19_Great c = some b ∧ (b = false → c.Parts.length ≤ 20 ∧ c.Ports.length ≤ 20) := by
    unfold law19_Great
    refine lp_up_ex c.Parts.length (by unfold FU; omega) (fun _ => True) (fun b => b = false → c.Parts.length ≤ 20 ∧ c.Ports.length ≤ 20) trivial ?_
    intro nx k hk _ hnx
    rw [lt_nat]
    by_cases hk' : k < c.Parts.length
    · rw [decide_eq_true hk', fk_t, ix_lt hk', bnd_eq (law05_Great_eq _ (ht _ (List.getElem_mem hk')).1), wr_succ k _ hk' hp]
      by_cases hg : GreatP c.Parts[k].Tasks
      · rw [decide_eq_true hg, fk_t]; exact ⟨true, rfl, fun h => by cases h⟩
      · rw [decide_eq_false hg, fk_f]; exact hnx hk' trivial
    · rw [decide_eq_false hk', fk_f]
      by_cases h1 : (c.Parts.length : Int) > 20
      · rw [decide_eq_true h1, fk_t]; exact ⟨true, rfl, fun h => by cases h⟩
      · rw [decide_eq_false h1, fk_f]
        exact ⟨_, rfl, fun h => by rw [decide_eq_false_iff_not] at h; omega⟩
  obtain ⟨b, e, hb⟩ := h19
  unfold law21_Great
  rw [bnd_eq e]
  cases b with
  | true => rw [fk_t]; exact ⟨true, rfl, fun h => by cases h⟩
  | false =>
  rw [fk_f]
  refine lp_up_ex c.Parts.length (by unfold FU; omega) (fun _ => True) (fun b => b = false → c.Parts.length ≤ 20 ∧ c.Ports.length ≤ 20) trivial ?_
  intro nx k hk _ hnx
  rw [lt_nat]
  by_cases hk' : k < c.Parts.length
  · have hm := ht _ (List.getElem_mem hk')
    rw [decide_eq_true hk', fk_t, ix_lt hk', ix_lt hk', bnd_eq (ref10_Cycle_eq _ _ hm.1 hm.2), wr_succ k _ hk' hp]
    by_cases hg : (cycV c.Parts[k].Tasks c.Parts[k].Face).2.1 > 200
    · rw [decide_eq_true hg, fk_t]; exact ⟨true, rfl, fun h => by cases h⟩
    · rw [decide_eq_false hg, fk_f]; exact hnx hk' trivial
  · rw [decide_eq_false hk', fk_f]; exact ⟨false, rfl, fun _ => hb rfl⟩
end Go.Proofs.YtldlcdnhdedoeaaGreat
namespace Go.Proofs.YtldlcdnhdedoeaaGreat
open Go Go.VC
noncomputable def admit_Drop (a0 : PartState) (a1 : Int) : Option (PartState × Int) :=
  bnd (part_Leave a0 a1) fun x1 => some (x1.1, x1.2)
theorem admit_Drop_w (a0 : PartState) (a1 : Int) (r : PartState × Int) (h : admit_Drop a0 a1 = some r) : Go.VC.Spec Tryz.prog 32 [.agg (PartState.enc a0), .d (.int .i64 a1)] (fun y => y = E_PartState_Int r) := by
  refine Go.VC.Spec.of_xc (args := [.agg (PartState.enc a0), .d (.int .i64 a1)]) (fn := Tryz.f32) tab ⟨[(0, [1, 2, 4]), (1, [4, 5])], [], [], []⟩ 11 [.cell 4 51, .tmp 5] rfl rfl rfl rfl rfl rfl ?_
  conv => whnf
  refine ccS (E := E_PartState_Int) h (part_Leave_w a0 a1) rfl rfl (fun x1 h => ?_)
  conv => whnf
  exact rt (E := E_PartState_Int) h rfl

end Go.Proofs.YtldlcdnhdedoeaaGreat
namespace Go.Proofs.YtldlcdnhdedoeaaGreat
open Go Go.VC
noncomputable def admit_Change (a0 : PartState) (a1 : Face) (a2 : Int) (a3 : Task) : Option (PartState × Int) :=
  bnd (admit_Drop a0 a2) fun x1 => fk (!decide (x1.2 = (0 : Int))) (some (a0, x1.2)) (bnd (admit_Add x1.1 a1 a3) fun x2 => fk (!decide (x2.2 = (0 : Int))) (some (a0, x2.2)) (some (x2.1, (0 : Int))))
theorem admit_Change_w (a0 : PartState) (a1 : Face) (a2 : Int) (a3 : Task) (r : PartState × Int) (h : admit_Change a0 a1 a2 a3 = some r) : Go.VC.Spec Tryz.prog 33 [.agg (PartState.enc a0), .agg (Face.enc a1), .d (.int .i64 a2), .agg (Task.enc a3)] (fun y => y = E_PartState_Int r) := by
  refine Go.VC.Spec.of_xc (args := [.agg (PartState.enc a0), .agg (Face.enc a1), .d (.int .i64 a2), .agg (Task.enc a3)]) (fn := Tryz.f33) tab ⟨[(0, [2, 4, 5, 7, 8]), (1, [4, 5, 7, 8, 10, 11]), (2, [4, 5, 7, 8, 10, 11, 19]), (3, [8, 9]), (4, [4, 8, 10, 11]), (5, [4, 8, 10, 11, 30]), (6, [8, 9]), (7, [8, 9])], [], [], []⟩ 34 [.cell 8 51, .tmp 9] rfl rfl rfl rfl rfl rfl ?_
  conv => whnf
  refine ccS (E := E_PartState_Int) h (admit_Drop_w a0 a2) rfl rfl (fun x1 h => ?_)
  conv => whnf
  refine fkS h (fun h => ?_) (fun h => ?_)
  · conv => whnf
    exact rt (E := E_PartState_Int) h rfl
  conv => whnf
  refine ccS (E := E_PartState_Int) h (admit_Add_w x1.1 a1 a3) rfl rfl (fun x2 h => ?_)
  conv => whnf
  refine fkS h (fun h => ?_) (fun h => ?_)
  · conv => whnf
    exact rt (E := E_PartState_Int) h rfl
  conv => whnf
  exact rt (E := E_PartState_Int) h rfl

end Go.Proofs.YtldlcdnhdedoeaaGreat
namespace Go.Proofs.YtldlcdnhdedoeaaGreat
open Go Go.VC
noncomputable def kernel_Right (a0 : KernelState) : Option Bool :=
  lp (fun nx1 (v1 : Int) => fk (decide (v1 < (a0.Parts.length : Int))) (ix a0.Parts v1 fun x2 => bnd (part_Right x2) fun x3 => fk (!x3) (some false) (nx1 (wr (v1 + (1 : Int))))) (bnd (table_Right a0.Table) fun x4 => fk x4 (fk (decide ((a0.Faces.length : Int) = (a0.Parts.length : Int))) (fk (decide ((a0.Parts.length : Int) ≤ (4 : Int))) (bnd (port_Right a0.Lines) fun x5 => fk x5 (fk (decide (a0.Now ≥ (0 : Int))) (some (decide (a0.Now ≤ (4611686018427387703 : Int)))) (some false)) (some false)) (some false)) (some false)) (some false))) FU (0 : Int)
theorem kernel_Right_w (a0 : KernelState) (r : Bool) (h : kernel_Right a0 = some r) : Go.VC.Spec Tryz.prog 17 [.agg (KernelState.enc a0)] (fun y => y = E_Bool r) := by
  refine Go.VC.Spec.of_xc (args := [.agg (KernelState.enc a0)]) (fn := Tryz.f17) tab ⟨[(0, [1]), (1, [1, 6, 7, 8]), (2, [1, 6, 7, 8, 9]), (3, [1, 4, 6, 7, 8]), (4, [1, 6, 7, 8, 14]), (5, [2]), (6, [1, 6, 7, 8]), (7, [2])], [], [], []⟩ 49 [.tmp 2] rfl rfl rfl rfl rfl rfl ?_
  conv => whnf
  refine lenS a0.Parts PartState.enc rfl ?_
  conv => whnf
  refine lpS (fun v1 => ⟨[(1, .l (.ptr 2 0)), (6, .l (.d (.sl (a0.Parts.map PartState.enc)))), (7, .l (.d (.int .i64 (a0.Parts.length : Int)))), (8, .l (.d (.int .i64 v1)))], 49, [], [(2, [.d (.int .i64 a0.Table.Frame), .d (.sl (a0.Table.Windows.map Window.enc)), .d (.sl (a0.Faces.map Face.enc)), .d (.sl (a0.Parts.map PartState.enc)), .d (.sl (a0.Lines.map PortLine.enc)), .d (.int .i64 a0.Now)])], []⟩) h (Weak.refl _) (fun _ nx1 hn1 v1 h => ?_)
  conv => whnf
  refine fkS h (fun h => ?_) (fun h => ?_)
  · conv => whnf
    refine ixS (enc := PartState.enc) h rfl (fun _ => rfl) (fun x2 h => ?_)
    conv => whnf
    refine caS (E := E_Bool) h (part_Right_w x2) rfl (fun _ => rfl) (fun x3 h => ?_)
    conv => whnf
    refine fkS h (fun h => ?_) (fun h => ?_)
    · conv => whnf
      exact rt (E := E_Bool) h rfl
    conv => whnf
    exact leS hn1 h (Weak.refl _)
  conv => whnf
  refine caS (E := E_Bool) h (table_Right_w a0.Table) rfl (fun _ => rfl) (fun x4 h => ?_)
  conv => whnf
  refine fkS h (fun h => ?_) (fun h => ?_)
  · conv => whnf
    refine lenS a0.Faces Face.enc rfl ?_
    conv => whnf
    refine lenS a0.Parts PartState.enc rfl ?_
    conv => whnf
    refine fkS h (fun h => ?_) (fun h => ?_)
    · conv => whnf
      refine lenS a0.Parts PartState.enc rfl ?_
      conv => whnf
      refine fkS h (fun h => ?_) (fun h => ?_)
      · conv => whnf
        refine caS (E := E_Bool) h (port_Right_w a0.Lines) rfl (fun _ => rfl) (fun x5 h => ?_)
        conv => whnf
        refine fkS h (fun h => ?_) (fun h => ?_)
        · conv => whnf
          refine fkS h (fun h => ?_) (fun h => ?_)
          · conv => whnf
            exact rt (E := E_Bool) h rfl
          conv => whnf
          exact rt (E := E_Bool) h rfl
        conv => whnf
        exact rt (E := E_Bool) h rfl
      conv => whnf
      exact rt (E := E_Bool) h rfl
    conv => whnf
    exact rt (E := E_Bool) h rfl
  conv => whnf
  exact rt (E := E_Bool) h rfl

end Go.Proofs.YtldlcdnhdedoeaaGreat
namespace Go.Proofs.YtldlcdnhdedoeaaGreat
open Go Go.VC
noncomputable def kernel_State_with (a0 : KernelState) (a1 : Int) (a2 : PartState) : Option KernelState :=
  ck (decide ((([] : List PartState).length + a0.Parts.length) * 120 ≤ 140737488355328)) (ck (decide (0 ≤ a1) && decide (a1 < ((([] : List PartState) ++ a0.Parts).length : Int))) (ox (([] : List PartState) ++ a0.Parts) a1.toNat fun x1 => some ⟨a0.Table, a0.Faces, (([] : List PartState) ++ a0.Parts).set a1.toNat a2, a0.Lines, a0.Now⟩))
theorem kernel_State_with_w (a0 : KernelState) (a1 : Int) (a2 : PartState) (r : KernelState) (h : kernel_State_with a0 a1 a2 = some r) : Go.VC.Spec Tryz.prog 90 [.agg (KernelState.enc a0), .d (.int .i64 a1), .agg (PartState.enc a2)] (fun y => y = E_KernelState r) := by
  refine Go.VC.Spec.of_xc (args := [.agg (KernelState.enc a0), .d (.int .i64 a1), .agg (PartState.enc a2)]) (fn := Tryz.f90) tab ⟨[(0, [1, 3, 5, 6]), (1, [1, 3, 5, 6]), (2, [3, 6]), (3, [6])], [], [], []⟩ 18 [.cell 6 35] rfl rfl rfl rfl rfl rfl ?_
  conv => whnf
  refine liS ([] : List PartState) PartState.enc rfl rfl ?_
  conv => whnf
  refine apS (enc := PartState.enc) (l1 := ([] : List PartState)) (l2 := a0.Parts) h rfl rfl (fun _ => rfl) (fun h => ?_)
  conv => whnf
  refine ioS (enc := PartState.enc) h rfl (fun h => ?_)
  conv => whnf
  refine seS (enc := PartState.enc) h rfl (fun x1 => a2) (fun _ => rfl) (fun x1 h => ?_)
  conv => whnf
  exact rt (E := E_KernelState) h rfl

end Go.Proofs.YtldlcdnhdedoeaaGreat
namespace Go.Proofs.YtldlcdnhdedoeaaGreat
open Go Go.VC
def E_fn_kernel_on : Unit → List CV := fun r => [.d (.fn 158 [[.fn 126 []]])]
noncomputable def kernel_on  : Option Unit :=
  some ()
theorem kernel_on_w  (r : Unit) (h : kernel_on = some r) : Go.VC.Spec Tryz.prog 125 [.d (.fn 126 [])] (fun y => y = E_fn_kernel_on r) := by
  refine Go.VC.Spec.of_xc (args := [.d (.fn 126 [])]) (fn := Tryz.f125) tab ⟨[(0, [1]), (1, [2])], [], [], []⟩ 4 [.tmp 2] rfl rfl rfl rfl rfl rfl ?_
  conv => whnf
  exact rt (E := E_fn_kernel_on) h rfl

end Go.Proofs.YtldlcdnhdedoeaaGreat
namespace Go.Proofs.YtldlcdnhdedoeaaGreat
open Go Go.VC
def E_fn_kernel_on_i1 : Unit → List CV := fun r => [.d (.fn 158 [[.fn 127 []]])]
noncomputable def kernel_on_i1  : Option Unit :=
  some ()
theorem kernel_on_i1_w  (r : Unit) (h : kernel_on_i1 = some r) : Go.VC.Spec Tryz.prog 125 [.d (.fn 127 [])] (fun y => y = E_fn_kernel_on_i1 r) := by
  refine Go.VC.Spec.of_xc (args := [.d (.fn 127 [])]) (fn := Tryz.f125) tab ⟨[(0, [1]), (1, [2])], [], [], []⟩ 4 [.tmp 2] rfl rfl rfl rfl rfl rfl ?_
  conv => whnf
  exact rt (E := E_fn_kernel_on_i1) h rfl

end Go.Proofs.YtldlcdnhdedoeaaGreat
namespace Go.Proofs.YtldlcdnhdedoeaaGreat
open Go Go.VC
def E_fn_kernel_on_2 : Unit → List CV := fun r => [.d (.fn 158 [[.fn 128 []]])]
noncomputable def kernel_on_2  : Option Unit :=
  some ()
theorem kernel_on_2_w  (r : Unit) (h : kernel_on_2 = some r) : Go.VC.Spec Tryz.prog 125 [.d (.fn 128 [])] (fun y => y = E_fn_kernel_on_2 r) := by
  refine Go.VC.Spec.of_xc (args := [.d (.fn 128 [])]) (fn := Tryz.f125) tab ⟨[(0, [1]), (1, [2])], [], [], []⟩ 4 [.tmp 2] rfl rfl rfl rfl rfl rfl ?_
  conv => whnf
  exact rt (E := E_fn_kernel_on_2) h rfl

end Go.Proofs.YtldlcdnhdedoeaaGreat
namespace Go.Proofs.YtldlcdnhdedoeaaGreat
open Go Go.VC
def E_fn_kernel_on_3 : Unit → List CV := fun r => [.d (.fn 158 [[.fn 129 []]])]
noncomputable def kernel_on_3  : Option Unit :=
  some ()
theorem kernel_on_3_w  (r : Unit) (h : kernel_on_3 = some r) : Go.VC.Spec Tryz.prog 125 [.d (.fn 129 [])] (fun y => y = E_fn_kernel_on_3 r) := by
  refine Go.VC.Spec.of_xc (args := [.d (.fn 129 [])]) (fn := Tryz.f125) tab ⟨[(0, [1]), (1, [2])], [], [], []⟩ 4 [.tmp 2] rfl rfl rfl rfl rfl rfl ?_
  conv => whnf
  exact rt (E := E_fn_kernel_on_3) h rfl

end Go.Proofs.YtldlcdnhdedoeaaGreat
namespace Go.Proofs.YtldlcdnhdedoeaaGreat
open Go Go.VC
def E_fn_kernel_kinds : Unit → List CV := fun r => [.d (.mp [[.int .i64 (1 : Int), .fn 158 [[.fn 126 []]]], [.int .i64 (4 : Int), .fn 158 [[.fn 127 []]]], [.int .i64 (5 : Int), .fn 158 [[.fn 128 []]]], [.int .i64 (6 : Int), .fn 158 [[.fn 129 []]]], [.int .i64 (2 : Int), .fn 130 []], [.int .i64 (3 : Int), .fn 131 []]])]
noncomputable def kernel_kinds : Option Unit := some ()
theorem kernel_kinds_w (r : Unit) (h : kernel_kinds = some r) : Go.VC.Spec Tryz.prog 73 [] (fun y => y = E_fn_kernel_kinds r) := by
  refine Spec.of_wpF (args := []) (fn := Tryz.f73) rfl rfl rfl rfl ?_
  refine WpF.seq tab ⟨[(0, []), (1, [0])], [], [], []⟩ (rs := [.tmp 0]) rfl ?_
  conv => whnf
  refine WpF.reg (AWp.map rfl rfl rfl rfl rfl ?_)
  conv => whnf
  refine mp_call (r := .fn 158 [[.fn 126 []]]) rfl rfl rfl rfl rfl (kernel_on_w _ rfl) ?_
  conv => whnf
  refine mp_ins rfl rfl rfl rfl Tryz.underlying150 Tryz.underlying3 rfl ?_
  conv => whnf
  refine mp_call (r := .fn 158 [[.fn 127 []]]) rfl rfl rfl rfl rfl (kernel_on_i1_w _ rfl) ?_
  conv => whnf
  refine mp_ins rfl rfl rfl rfl Tryz.underlying150 Tryz.underlying3 rfl ?_
  conv => whnf
  refine mp_call (r := .fn 158 [[.fn 128 []]]) rfl rfl rfl rfl rfl (kernel_on_2_w _ rfl) ?_
  conv => whnf
  refine mp_ins rfl rfl rfl rfl Tryz.underlying150 Tryz.underlying3 rfl ?_
  conv => whnf
  refine mp_call (r := .fn 158 [[.fn 129 []]]) rfl rfl rfl rfl rfl (kernel_on_3_w _ rfl) ?_
  conv => whnf
  refine mp_ins rfl rfl rfl rfl Tryz.underlying150 Tryz.underlying3 rfl ?_
  conv => whnf
  refine mp_ins rfl rfl rfl rfl Tryz.underlying150 Tryz.underlying3 rfl ?_
  conv => whnf
  refine mp_ins rfl rfl rfl rfl Tryz.underlying150 Tryz.underlying3 rfl ?_
  conv => whnf
  refine mp_end tab rfl ?_
  conv => whnf
  exact WpF.ret tab (rs := [.tmp 0]) rfl (RetOk.mk ⟨_, rfl, rfl⟩)

end Go.Proofs.YtldlcdnhdedoeaaGreat
namespace Go.Proofs.YtldlcdnhdedoeaaGreat
open Go Go.VC
noncomputable def kernel_kinds_1 (a0 : PartState) (a1 : Face) (a2 : KernelCmd) (a3 : Int) : Option (PartState × Int) :=
  bnd (part_Release a0 a2.I a2.V a3) fun x1 => some (x1.1, x1.2)
theorem kernel_kinds_1_w (a0 : PartState) (a1 : Face) (a2 : KernelCmd) (a3 : Int) (r : PartState × Int) (h : kernel_kinds_1 a0 a1 a2 a3 = some r) : Go.VC.Spec Tryz.prog 126 [.agg (PartState.enc a0), .agg (Face.enc a1), .agg (KernelCmd.enc a2), .d (.int .i64 a3)] (fun y => y = E_PartState_Int r) := by
  refine Go.VC.Spec.of_xc (args := [.agg (PartState.enc a0), .agg (Face.enc a1), .agg (KernelCmd.enc a2), .d (.int .i64 a3)]) (fn := Tryz.f126) tab ⟨[(0, [3, 4, 6, 8]), (1, [8, 9])], [], [], []⟩ 19 [.cell 8 51, .tmp 9] rfl rfl rfl rfl rfl rfl ?_
  conv => whnf
  refine ccS (E := E_PartState_Int) h (part_Release_w a0 a2.I a2.V a3) rfl rfl (fun x1 h => ?_)
  conv => whnf
  exact rt (E := E_PartState_Int) h rfl

end Go.Proofs.YtldlcdnhdedoeaaGreat
namespace Go.Proofs.YtldlcdnhdedoeaaGreat
open Go Go.VC
noncomputable def kernel_on_1 (a0 : KernelState) (a1 : KernelCmd) : Option (KernelState × Int × Int) :=
  ix a0.Parts a1.Part fun x1 => ix a0.Faces a1.Part fun x2 => bnd (kernel_kinds_1 x1 x2 a1 a0.Now) fun x3 => bnd (kernel_State_with a0 a1.Part x3.1) fun x4 => some (x4, (0 : Int), x3.2)
theorem kernel_on_1_w (a0 : KernelState) (a1 : KernelCmd) (r : KernelState × Int × Int) (h : kernel_on_1 a0 a1 = some r) : Go.VC.Spec Tryz.prog 158 [.agg (KernelState.enc a0), .agg (KernelCmd.enc a1), .dp [.fn 126 []]] (fun y => y = E_KernelState_Int_Int r) := by
  refine Go.VC.Spec.of_xc (args := [.agg (KernelState.enc a0), .agg (KernelCmd.enc a1), .dp [.fn 126 []]]) (fn := Tryz.f158) tab ⟨[(0, [2, 3, 4, 5]), (1, [3, 4, 5, 8, 9]), (2, [5, 6, 7])], [], [], []⟩ 36 [.cell 5 35, .tmp 6, .tmp 7] rfl rfl rfl rfl rfl rfl ?_
  conv => whnf
  refine ⟨22, ?_⟩
  conv => whnf
  refine ixS (enc := PartState.enc) h rfl (fun _ => rfl) (fun x1 h => ?_)
  conv => whnf
  refine ixS (enc := Face.enc) h rfl (fun _ => rfl) (fun x2 h => ?_)
  conv => whnf
  refine dcS (E := E_PartState_Int) h (kernel_kinds_1_w x1 x2 a1 a0.Now) rfl (fun x3 h => ?_)
  conv => whnf
  refine drS (by kernel_rfl) ?_
  conv => whnf
  refine ccS (E := E_KernelState) h (kernel_State_with_w a0 a1.Part x3.1) rfl rfl (fun x4 h => ?_)
  conv => whnf
  exact rt (E := E_KernelState_Int_Int) h rfl

end Go.Proofs.YtldlcdnhdedoeaaGreat
namespace Go.Proofs.YtldlcdnhdedoeaaGreat
open Go Go.VC
noncomputable def kernel_kinds_2 (a0 : PartState) (a1 : Face) (a2 : KernelCmd) (a3 : Int) : Option (PartState × Int) :=
  bnd (admit_Add a0 a1 a2.T) fun x1 => some (x1.1, x1.2)
theorem kernel_kinds_2_w (a0 : PartState) (a1 : Face) (a2 : KernelCmd) (a3 : Int) (r : PartState × Int) (h : kernel_kinds_2 a0 a1 a2 a3 = some r) : Go.VC.Spec Tryz.prog 127 [.agg (PartState.enc a0), .agg (Face.enc a1), .agg (KernelCmd.enc a2), .d (.int .i64 a3)] (fun y => y = E_PartState_Int r) := by
  refine Go.VC.Spec.of_xc (args := [.agg (PartState.enc a0), .agg (Face.enc a1), .agg (KernelCmd.enc a2), .d (.int .i64 a3)]) (fn := Tryz.f127) tab ⟨[(0, [4, 5, 6, 8]), (1, [8, 9])], [], [], []⟩ 17 [.cell 8 51, .tmp 9] rfl rfl rfl rfl rfl rfl ?_
  conv => whnf
  refine ccS (E := E_PartState_Int) h (admit_Add_w a0 a1 a2.T) rfl rfl (fun x1 h => ?_)
  conv => whnf
  exact rt (E := E_PartState_Int) h rfl

end Go.Proofs.YtldlcdnhdedoeaaGreat
namespace Go.Proofs.YtldlcdnhdedoeaaGreat
open Go Go.VC
noncomputable def kernel_on_1_1 (a0 : KernelState) (a1 : KernelCmd) : Option (KernelState × Int × Int) :=
  ix a0.Parts a1.Part fun x1 => ix a0.Faces a1.Part fun x2 => bnd (kernel_kinds_2 x1 x2 a1 a0.Now) fun x3 => bnd (kernel_State_with a0 a1.Part x3.1) fun x4 => some (x4, (0 : Int), x3.2)
theorem kernel_on_1_1_w (a0 : KernelState) (a1 : KernelCmd) (r : KernelState × Int × Int) (h : kernel_on_1_1 a0 a1 = some r) : Go.VC.Spec Tryz.prog 158 [.agg (KernelState.enc a0), .agg (KernelCmd.enc a1), .dp [.fn 127 []]] (fun y => y = E_KernelState_Int_Int r) := by
  refine Go.VC.Spec.of_xc (args := [.agg (KernelState.enc a0), .agg (KernelCmd.enc a1), .dp [.fn 127 []]]) (fn := Tryz.f158) tab ⟨[(0, [2, 3, 4, 5]), (1, [3, 4, 5, 8, 9]), (2, [5, 6, 7])], [], [], []⟩ 36 [.cell 5 35, .tmp 6, .tmp 7] rfl rfl rfl rfl rfl rfl ?_
  conv => whnf
  refine ⟨22, ?_⟩
  conv => whnf
  refine ixS (enc := PartState.enc) h rfl (fun _ => rfl) (fun x1 h => ?_)
  conv => whnf
  refine ixS (enc := Face.enc) h rfl (fun _ => rfl) (fun x2 h => ?_)
  conv => whnf
  refine dcS (E := E_PartState_Int) h (kernel_kinds_2_w x1 x2 a1 a0.Now) rfl (fun x3 h => ?_)
  conv => whnf
  refine drS (by kernel_rfl) ?_
  conv => whnf
  refine ccS (E := E_KernelState) h (kernel_State_with_w a0 a1.Part x3.1) rfl rfl (fun x4 h => ?_)
  conv => whnf
  exact rt (E := E_KernelState_Int_Int) h rfl

end Go.Proofs.YtldlcdnhdedoeaaGreat
namespace Go.Proofs.YtldlcdnhdedoeaaGreat
open Go Go.VC
noncomputable def kernel_kinds_3 (a0 : PartState) (a1 : Face) (a2 : KernelCmd) (a3 : Int) : Option (PartState × Int) :=
  bnd (admit_Drop a0 a2.I) fun x1 => some (x1.1, x1.2)
theorem kernel_kinds_3_w (a0 : PartState) (a1 : Face) (a2 : KernelCmd) (a3 : Int) (r : PartState × Int) (h : kernel_kinds_3 a0 a1 a2 a3 = some r) : Go.VC.Spec Tryz.prog 128 [.agg (PartState.enc a0), .agg (Face.enc a1), .agg (KernelCmd.enc a2), .d (.int .i64 a3)] (fun y => y = E_PartState_Int r) := by
  refine Go.VC.Spec.of_xc (args := [.agg (PartState.enc a0), .agg (Face.enc a1), .agg (KernelCmd.enc a2), .d (.int .i64 a3)]) (fn := Tryz.f128) tab ⟨[(0, [4, 6, 8]), (1, [8, 9])], [], [], []⟩ 16 [.cell 8 51, .tmp 9] rfl rfl rfl rfl rfl rfl ?_
  conv => whnf
  refine ccS (E := E_PartState_Int) h (admit_Drop_w a0 a2.I) rfl rfl (fun x1 h => ?_)
  conv => whnf
  exact rt (E := E_PartState_Int) h rfl

end Go.Proofs.YtldlcdnhdedoeaaGreat
namespace Go.Proofs.YtldlcdnhdedoeaaGreat
open Go Go.VC
noncomputable def kernel_on_1_2 (a0 : KernelState) (a1 : KernelCmd) : Option (KernelState × Int × Int) :=
  ix a0.Parts a1.Part fun x1 => ix a0.Faces a1.Part fun x2 => bnd (kernel_kinds_3 x1 x2 a1 a0.Now) fun x3 => bnd (kernel_State_with a0 a1.Part x3.1) fun x4 => some (x4, (0 : Int), x3.2)
theorem kernel_on_1_2_w (a0 : KernelState) (a1 : KernelCmd) (r : KernelState × Int × Int) (h : kernel_on_1_2 a0 a1 = some r) : Go.VC.Spec Tryz.prog 158 [.agg (KernelState.enc a0), .agg (KernelCmd.enc a1), .dp [.fn 128 []]] (fun y => y = E_KernelState_Int_Int r) := by
  refine Go.VC.Spec.of_xc (args := [.agg (KernelState.enc a0), .agg (KernelCmd.enc a1), .dp [.fn 128 []]]) (fn := Tryz.f158) tab ⟨[(0, [2, 3, 4, 5]), (1, [3, 4, 5, 8, 9]), (2, [5, 6, 7])], [], [], []⟩ 36 [.cell 5 35, .tmp 6, .tmp 7] rfl rfl rfl rfl rfl rfl ?_
  conv => whnf
  refine ⟨22, ?_⟩
  conv => whnf
  refine ixS (enc := PartState.enc) h rfl (fun _ => rfl) (fun x1 h => ?_)
  conv => whnf
  refine ixS (enc := Face.enc) h rfl (fun _ => rfl) (fun x2 h => ?_)
  conv => whnf
  refine dcS (E := E_PartState_Int) h (kernel_kinds_3_w x1 x2 a1 a0.Now) rfl (fun x3 h => ?_)
  conv => whnf
  refine drS (by kernel_rfl) ?_
  conv => whnf
  refine ccS (E := E_KernelState) h (kernel_State_with_w a0 a1.Part x3.1) rfl rfl (fun x4 h => ?_)
  conv => whnf
  exact rt (E := E_KernelState_Int_Int) h rfl

end Go.Proofs.YtldlcdnhdedoeaaGreat
namespace Go.Proofs.YtldlcdnhdedoeaaGreat
open Go Go.VC
noncomputable def kernel_kinds_4 (a0 : PartState) (a1 : Face) (a2 : KernelCmd) (a3 : Int) : Option (PartState × Int) :=
  bnd (admit_Change a0 a1 a2.I a2.T) fun x1 => some (x1.1, x1.2)
theorem kernel_kinds_4_w (a0 : PartState) (a1 : Face) (a2 : KernelCmd) (a3 : Int) (r : PartState × Int) (h : kernel_kinds_4 a0 a1 a2 a3 = some r) : Go.VC.Spec Tryz.prog 129 [.agg (PartState.enc a0), .agg (Face.enc a1), .agg (KernelCmd.enc a2), .d (.int .i64 a3)] (fun y => y = E_PartState_Int r) := by
  refine Go.VC.Spec.of_xc (args := [.agg (PartState.enc a0), .agg (Face.enc a1), .agg (KernelCmd.enc a2), .d (.int .i64 a3)]) (fn := Tryz.f129) tab ⟨[(0, [4, 5, 6, 8]), (1, [8, 9])], [], [], []⟩ 19 [.cell 8 51, .tmp 9] rfl rfl rfl rfl rfl rfl ?_
  conv => whnf
  refine ccS (E := E_PartState_Int) h (admit_Change_w a0 a1 a2.I a2.T) rfl rfl (fun x1 h => ?_)
  conv => whnf
  exact rt (E := E_PartState_Int) h rfl

end Go.Proofs.YtldlcdnhdedoeaaGreat
namespace Go.Proofs.YtldlcdnhdedoeaaGreat
open Go Go.VC
noncomputable def kernel_on_1_3 (a0 : KernelState) (a1 : KernelCmd) : Option (KernelState × Int × Int) :=
  ix a0.Parts a1.Part fun x1 => ix a0.Faces a1.Part fun x2 => bnd (kernel_kinds_4 x1 x2 a1 a0.Now) fun x3 => bnd (kernel_State_with a0 a1.Part x3.1) fun x4 => some (x4, (0 : Int), x3.2)
theorem kernel_on_1_3_w (a0 : KernelState) (a1 : KernelCmd) (r : KernelState × Int × Int) (h : kernel_on_1_3 a0 a1 = some r) : Go.VC.Spec Tryz.prog 158 [.agg (KernelState.enc a0), .agg (KernelCmd.enc a1), .dp [.fn 129 []]] (fun y => y = E_KernelState_Int_Int r) := by
  refine Go.VC.Spec.of_xc (args := [.agg (KernelState.enc a0), .agg (KernelCmd.enc a1), .dp [.fn 129 []]]) (fn := Tryz.f158) tab ⟨[(0, [2, 3, 4, 5]), (1, [3, 4, 5, 8, 9]), (2, [5, 6, 7])], [], [], []⟩ 36 [.cell 5 35, .tmp 6, .tmp 7] rfl rfl rfl rfl rfl rfl ?_
  conv => whnf
  refine ⟨22, ?_⟩
  conv => whnf
  refine ixS (enc := PartState.enc) h rfl (fun _ => rfl) (fun x1 h => ?_)
  conv => whnf
  refine ixS (enc := Face.enc) h rfl (fun _ => rfl) (fun x2 h => ?_)
  conv => whnf
  refine dcS (E := E_PartState_Int) h (kernel_kinds_4_w x1 x2 a1 a0.Now) rfl (fun x3 h => ?_)
  conv => whnf
  refine drS (by kernel_rfl) ?_
  conv => whnf
  refine ccS (E := E_KernelState) h (kernel_State_with_w a0 a1.Part x3.1) rfl rfl (fun x4 h => ?_)
  conv => whnf
  exact rt (E := E_KernelState_Int_Int) h rfl

end Go.Proofs.YtldlcdnhdedoeaaGreat
namespace Go.Proofs.YtldlcdnhdedoeaaGreat
open Go Go.VC
noncomputable def kernel_kinds_5 (a0 : KernelState) (a1 : KernelCmd) : Option (KernelState × Int × Int) :=
  bnd (port_Send a0.Lines a1.Part a1.I a1.V) fun x1 => some (⟨a0.Table, a0.Faces, a0.Parts, x1.1, a0.Now⟩, (0 : Int), x1.2)
theorem kernel_kinds_5_w (a0 : KernelState) (a1 : KernelCmd) (r : KernelState × Int × Int) (h : kernel_kinds_5 a0 a1 = some r) : Go.VC.Spec Tryz.prog 130 [.agg (KernelState.enc a0), .agg (KernelCmd.enc a1)] (fun y => y = E_KernelState_Int_Int r) := by
  refine Go.VC.Spec.of_xc (args := [.agg (KernelState.enc a0), .agg (KernelCmd.enc a1)]) (fn := Tryz.f130) tab ⟨[(0, [2, 3, 4]), (1, [2, 4, 7, 8]), (2, [2, 4, 8]), (3, [4, 5, 6])], [], [], []⟩ 25 [.cell 4 35, .tmp 5, .tmp 6] rfl rfl rfl rfl rfl rfl ?_
  conv => whnf
  refine ccS (E := E_ListPortLine_Int) h (port_Send_w a0.Lines a1.Part a1.I a1.V) rfl rfl (fun x1 h => ?_)
  conv => whnf
  exact rt (E := E_KernelState_Int_Int) h rfl

end Go.Proofs.YtldlcdnhdedoeaaGreat
namespace Go.Proofs.YtldlcdnhdedoeaaGreat
open Go Go.VC
noncomputable def kernel_kinds_6 (a0 : KernelState) (a1 : KernelCmd) : Option (KernelState × Int × Int) :=
  bnd (port_Read a0.Lines a1.Part a1.I) fun x1 => some (⟨a0.Table, a0.Faces, a0.Parts, x1.2.1, a0.Now⟩, x1.1, x1.2.2)
theorem kernel_kinds_6_w (a0 : KernelState) (a1 : KernelCmd) (r : KernelState × Int × Int) (h : kernel_kinds_6 a0 a1 = some r) : Go.VC.Spec Tryz.prog 131 [.agg (KernelState.enc a0), .agg (KernelCmd.enc a1)] (fun y => y = E_KernelState_Int_Int r) := by
  refine Go.VC.Spec.of_xc (args := [.agg (KernelState.enc a0), .agg (KernelCmd.enc a1)]) (fn := Tryz.f131) tab ⟨[(0, [2, 3, 4]), (1, [2, 4, 7, 8, 9]), (2, [2, 4, 7, 9]), (3, [4, 5, 6])], [], [], []⟩ 26 [.cell 4 35, .tmp 5, .tmp 6] rfl rfl rfl rfl rfl rfl ?_
  conv => whnf
  refine ccS (E := E_Int_ListPortLine_Int) h (port_Read_w a0.Lines a1.Part a1.I) rfl rfl (fun x1 h => ?_)
  conv => whnf
  exact rt (E := E_KernelState_Int_Int) h rfl

end Go.Proofs.YtldlcdnhdedoeaaGreat
namespace Go.Proofs.YtldlcdnhdedoeaaGreat
open Go Go.VC
noncomputable def kernel_Do (a0 : KernelState) (a1 : KernelCmd) : Option (KernelState × Int × Int) :=
  bnd (kernel_Right a0) fun x1 => fk (!x1) (some (a0, (0 : Int), (1 : Int))) (bnd kernel_kinds fun x2 => fk (decide (a1.Kind = (1 : Int))) (jn (fun (w3 : Bool) => fk w3 (some (a0, (0 : Int), (4 : Int))) (bnd (kernel_on_1 a0 a1) fun x4 => some (x4.1, x4.2.1, x4.2.2))) (fun k3 => fk (decide (a1.Part < (0 : Int))) (k3 true) (k3 (decide (a1.Part ≥ (a0.Parts.length : Int)))))) (fk (decide (a1.Kind = (4 : Int))) (jn (fun (w5 : Bool) => fk w5 (some (a0, (0 : Int), (4 : Int))) (bnd (kernel_on_1_1 a0 a1) fun x6 => some (x6.1, x6.2.1, x6.2.2))) (fun k5 => fk (decide (a1.Part < (0 : Int))) (k5 true) (k5 (decide (a1.Part ≥ (a0.Parts.length : Int)))))) (fk (decide (a1.Kind = (5 : Int))) (jn (fun (w7 : Bool) => fk w7 (some (a0, (0 : Int), (4 : Int))) (bnd (kernel_on_1_2 a0 a1) fun x8 => some (x8.1, x8.2.1, x8.2.2))) (fun k7 => fk (decide (a1.Part < (0 : Int))) (k7 true) (k7 (decide (a1.Part ≥ (a0.Parts.length : Int)))))) (fk (decide (a1.Kind = (6 : Int))) (jn (fun (w9 : Bool) => fk w9 (some (a0, (0 : Int), (4 : Int))) (bnd (kernel_on_1_3 a0 a1) fun x10 => some (x10.1, x10.2.1, x10.2.2))) (fun k9 => fk (decide (a1.Part < (0 : Int))) (k9 true) (k9 (decide (a1.Part ≥ (a0.Parts.length : Int)))))) (fk (decide (a1.Kind = (2 : Int))) (jn (fun (w11 : Bool) => fk w11 (some (a0, (0 : Int), (4 : Int))) (bnd (kernel_kinds_5 a0 a1) fun x12 => some (x12.1, x12.2.1, x12.2.2))) (fun k11 => fk (decide (a1.Part < (0 : Int))) (k11 true) (k11 (decide (a1.Part ≥ (a0.Parts.length : Int)))))) (fk (decide (a1.Kind = (3 : Int))) (jn (fun (w13 : Bool) => fk w13 (some (a0, (0 : Int), (4 : Int))) (bnd (kernel_kinds_6 a0 a1) fun x14 => some (x14.1, x14.2.1, x14.2.2))) (fun k13 => fk (decide (a1.Part < (0 : Int))) (k13 true) (k13 (decide (a1.Part ≥ (a0.Parts.length : Int)))))) (jn (fun (w15 : Unit) => some (a0, (0 : Int), (4 : Int))) (fun k15 => k15 ()))))))))
theorem kernel_Do_w (a0 : KernelState) (a1 : KernelCmd) (r : KernelState × Int × Int) (h : kernel_Do a0 a1 = some r) : Go.VC.Spec Tryz.prog 27 [.agg (KernelState.enc a0), .agg (KernelCmd.enc a1)] (fun y => y = E_KernelState_Int_Int r) := by
  refine Go.VC.Spec.of_xc (args := [.agg (KernelState.enc a0), .agg (KernelCmd.enc a1)]) (fn := Tryz.f27) tab ⟨[(0, [2, 3, 4]), (1, [2, 3, 4, 10]), (2, [4, 5, 6]), (3, [2, 3, 4, 7]), (4, [2, 3, 4, 7, 30]), (5, [4, 5, 6]), (6, [4, 5, 6])], [], [100030], []⟩ 39 [.cell 4 35, .tmp 5, .tmp 6] rfl rfl rfl rfl rfl rfl ?_
  conv => whnf
  refine caS (E := E_Bool) h (kernel_Right_w a0) rfl (fun _ => rfl) (fun x1 h => ?_)
  conv => whnf
  refine fkS h (fun h => ?_) (fun h => ?_)
  · conv => whnf
    exact rt (E := E_KernelState_Int_Int) h rfl
  conv => whnf
  refine ⟨3, ?_⟩
  conv => whnf
  refine dcS (E := E_fn_kernel_kinds) h kernel_kinds_w rfl (fun x2 h => ?_)
  conv => whnf
  refine drS (by kernel_rfl) ?_
  conv => whnf
  refine lkS (zv := .nilFunc) (zd := .nilfn) rfl rfl rfl rfl Tryz.underlying150 Tryz.underlying3 (by kernel_rfl) rfl ?_
  conv => whnf
  refine fkS h (fun h => ?_) (fun h => ?_)
  · conv => whnf
    refine jnS (fun w3 => ⟨[(2, .l (.ptr 3 0)), (3, .l (.ptr 4 0)), (4, .l (.ptr 5 0)), (7, .l (.d (.fn 158 [[.fn 126 []]]))), (30, .l (.d (.bool w3)))], 39, [], [(3, [.d (.int .i64 a0.Table.Frame), .d (.sl (a0.Table.Windows.map Window.enc)), .d (.sl (a0.Faces.map Face.enc)), .d (.sl (a0.Parts.map PartState.enc)), .d (.sl (a0.Lines.map PortLine.enc)), .d (.int .i64 a0.Now)]), (4, [.d (.int .i64 a1.Part), .d (.int .i64 a1.Kind), .d (.int .i64 a1.I), .d (.int .i64 a1.V), .d (.int .i64 a1.T.C), .d (.int .i64 a1.T.D), .d (.int .i64 a1.T.T), .d (.sl (a1.T.Secs.map Sec.enc))]), (5, [.d (.int .i64 (0 : Int)), .nil, .nil, .nil, .nil, .d (.int .i64 (0 : Int))])], []⟩) h (fun k3 hk3 h => ?_) (fun w3 h => ?_)
    · conv => whnf
      refine fnS rfl rfl rfl Tryz.underlying73 ?_
      conv => whnf
      refine fkS h (fun h => ?_) (fun h => ?_)
      · conv => whnf
        exact jeS hk3 h (Weak.refl _)
      conv => whnf
      refine lenS a0.Parts PartState.enc rfl ?_
      conv => whnf
      exact jeS hk3 h (Weak.refl _)
    conv => whnf
    refine fkS h (fun h => ?_) (fun h => ?_)
    · conv => whnf
      exact rt (E := E_KernelState_Int_Int) h rfl
    conv => whnf
    refine ccS (E := E_KernelState_Int_Int) h (kernel_on_1_w a0 a1) rfl rfl (fun x4 h => ?_)
    conv => whnf
    exact rt (E := E_KernelState_Int_Int) h rfl
  conv => whnf
  refine fkS h (fun h => ?_) (fun h => ?_)
  · conv => whnf
    refine jnS (fun w5 => ⟨[(2, .l (.ptr 3 0)), (3, .l (.ptr 4 0)), (4, .l (.ptr 5 0)), (7, .l (.d (.fn 158 [[.fn 127 []]]))), (30, .l (.d (.bool w5)))], 39, [], [(3, [.d (.int .i64 a0.Table.Frame), .d (.sl (a0.Table.Windows.map Window.enc)), .d (.sl (a0.Faces.map Face.enc)), .d (.sl (a0.Parts.map PartState.enc)), .d (.sl (a0.Lines.map PortLine.enc)), .d (.int .i64 a0.Now)]), (4, [.d (.int .i64 a1.Part), .d (.int .i64 a1.Kind), .d (.int .i64 a1.I), .d (.int .i64 a1.V), .d (.int .i64 a1.T.C), .d (.int .i64 a1.T.D), .d (.int .i64 a1.T.T), .d (.sl (a1.T.Secs.map Sec.enc))]), (5, [.d (.int .i64 (0 : Int)), .nil, .nil, .nil, .nil, .d (.int .i64 (0 : Int))])], []⟩) h (fun k5 hk5 h => ?_) (fun w5 h => ?_)
    · conv => whnf
      refine fnS rfl rfl rfl Tryz.underlying73 ?_
      conv => whnf
      refine fkS h (fun h => ?_) (fun h => ?_)
      · conv => whnf
        exact jeS hk5 h (Weak.refl _)
      conv => whnf
      refine lenS a0.Parts PartState.enc rfl ?_
      conv => whnf
      exact jeS hk5 h (Weak.refl _)
    conv => whnf
    refine fkS h (fun h => ?_) (fun h => ?_)
    · conv => whnf
      exact rt (E := E_KernelState_Int_Int) h rfl
    conv => whnf
    refine ccS (E := E_KernelState_Int_Int) h (kernel_on_1_1_w a0 a1) rfl rfl (fun x6 h => ?_)
    conv => whnf
    exact rt (E := E_KernelState_Int_Int) h rfl
  conv => whnf
  refine fkS h (fun h => ?_) (fun h => ?_)
  · conv => whnf
    refine jnS (fun w7 => ⟨[(2, .l (.ptr 3 0)), (3, .l (.ptr 4 0)), (4, .l (.ptr 5 0)), (7, .l (.d (.fn 158 [[.fn 128 []]]))), (30, .l (.d (.bool w7)))], 39, [], [(3, [.d (.int .i64 a0.Table.Frame), .d (.sl (a0.Table.Windows.map Window.enc)), .d (.sl (a0.Faces.map Face.enc)), .d (.sl (a0.Parts.map PartState.enc)), .d (.sl (a0.Lines.map PortLine.enc)), .d (.int .i64 a0.Now)]), (4, [.d (.int .i64 a1.Part), .d (.int .i64 a1.Kind), .d (.int .i64 a1.I), .d (.int .i64 a1.V), .d (.int .i64 a1.T.C), .d (.int .i64 a1.T.D), .d (.int .i64 a1.T.T), .d (.sl (a1.T.Secs.map Sec.enc))]), (5, [.d (.int .i64 (0 : Int)), .nil, .nil, .nil, .nil, .d (.int .i64 (0 : Int))])], []⟩) h (fun k7 hk7 h => ?_) (fun w7 h => ?_)
    · conv => whnf
      refine fnS rfl rfl rfl Tryz.underlying73 ?_
      conv => whnf
      refine fkS h (fun h => ?_) (fun h => ?_)
      · conv => whnf
        exact jeS hk7 h (Weak.refl _)
      conv => whnf
      refine lenS a0.Parts PartState.enc rfl ?_
      conv => whnf
      exact jeS hk7 h (Weak.refl _)
    conv => whnf
    refine fkS h (fun h => ?_) (fun h => ?_)
    · conv => whnf
      exact rt (E := E_KernelState_Int_Int) h rfl
    conv => whnf
    refine ccS (E := E_KernelState_Int_Int) h (kernel_on_1_2_w a0 a1) rfl rfl (fun x8 h => ?_)
    conv => whnf
    exact rt (E := E_KernelState_Int_Int) h rfl
  conv => whnf
  refine fkS h (fun h => ?_) (fun h => ?_)
  · conv => whnf
    refine jnS (fun w9 => ⟨[(2, .l (.ptr 3 0)), (3, .l (.ptr 4 0)), (4, .l (.ptr 5 0)), (7, .l (.d (.fn 158 [[.fn 129 []]]))), (30, .l (.d (.bool w9)))], 39, [], [(3, [.d (.int .i64 a0.Table.Frame), .d (.sl (a0.Table.Windows.map Window.enc)), .d (.sl (a0.Faces.map Face.enc)), .d (.sl (a0.Parts.map PartState.enc)), .d (.sl (a0.Lines.map PortLine.enc)), .d (.int .i64 a0.Now)]), (4, [.d (.int .i64 a1.Part), .d (.int .i64 a1.Kind), .d (.int .i64 a1.I), .d (.int .i64 a1.V), .d (.int .i64 a1.T.C), .d (.int .i64 a1.T.D), .d (.int .i64 a1.T.T), .d (.sl (a1.T.Secs.map Sec.enc))]), (5, [.d (.int .i64 (0 : Int)), .nil, .nil, .nil, .nil, .d (.int .i64 (0 : Int))])], []⟩) h (fun k9 hk9 h => ?_) (fun w9 h => ?_)
    · conv => whnf
      refine fnS rfl rfl rfl Tryz.underlying73 ?_
      conv => whnf
      refine fkS h (fun h => ?_) (fun h => ?_)
      · conv => whnf
        exact jeS hk9 h (Weak.refl _)
      conv => whnf
      refine lenS a0.Parts PartState.enc rfl ?_
      conv => whnf
      exact jeS hk9 h (Weak.refl _)
    conv => whnf
    refine fkS h (fun h => ?_) (fun h => ?_)
    · conv => whnf
      exact rt (E := E_KernelState_Int_Int) h rfl
    conv => whnf
    refine ccS (E := E_KernelState_Int_Int) h (kernel_on_1_3_w a0 a1) rfl rfl (fun x10 h => ?_)
    conv => whnf
    exact rt (E := E_KernelState_Int_Int) h rfl
  conv => whnf
  refine fkS h (fun h => ?_) (fun h => ?_)
  · conv => whnf
    refine jnS (fun w11 => ⟨[(2, .l (.ptr 3 0)), (3, .l (.ptr 4 0)), (4, .l (.ptr 5 0)), (7, .l (.d (.fn 130 []))), (30, .l (.d (.bool w11)))], 39, [], [(3, [.d (.int .i64 a0.Table.Frame), .d (.sl (a0.Table.Windows.map Window.enc)), .d (.sl (a0.Faces.map Face.enc)), .d (.sl (a0.Parts.map PartState.enc)), .d (.sl (a0.Lines.map PortLine.enc)), .d (.int .i64 a0.Now)]), (4, [.d (.int .i64 a1.Part), .d (.int .i64 a1.Kind), .d (.int .i64 a1.I), .d (.int .i64 a1.V), .d (.int .i64 a1.T.C), .d (.int .i64 a1.T.D), .d (.int .i64 a1.T.T), .d (.sl (a1.T.Secs.map Sec.enc))]), (5, [.d (.int .i64 (0 : Int)), .nil, .nil, .nil, .nil, .d (.int .i64 (0 : Int))])], []⟩) h (fun k11 hk11 h => ?_) (fun w11 h => ?_)
    · conv => whnf
      refine fnS rfl rfl rfl Tryz.underlying73 ?_
      conv => whnf
      refine fkS h (fun h => ?_) (fun h => ?_)
      · conv => whnf
        exact jeS hk11 h (Weak.refl _)
      conv => whnf
      refine lenS a0.Parts PartState.enc rfl ?_
      conv => whnf
      exact jeS hk11 h (Weak.refl _)
    conv => whnf
    refine fkS h (fun h => ?_) (fun h => ?_)
    · conv => whnf
      exact rt (E := E_KernelState_Int_Int) h rfl
    conv => whnf
    refine ccS (E := E_KernelState_Int_Int) h (kernel_kinds_5_w a0 a1) rfl rfl (fun x12 h => ?_)
    conv => whnf
    exact rt (E := E_KernelState_Int_Int) h rfl
  conv => whnf
  refine fkS h (fun h => ?_) (fun h => ?_)
  · conv => whnf
    refine jnS (fun w13 => ⟨[(2, .l (.ptr 3 0)), (3, .l (.ptr 4 0)), (4, .l (.ptr 5 0)), (7, .l (.d (.fn 131 []))), (30, .l (.d (.bool w13)))], 39, [], [(3, [.d (.int .i64 a0.Table.Frame), .d (.sl (a0.Table.Windows.map Window.enc)), .d (.sl (a0.Faces.map Face.enc)), .d (.sl (a0.Parts.map PartState.enc)), .d (.sl (a0.Lines.map PortLine.enc)), .d (.int .i64 a0.Now)]), (4, [.d (.int .i64 a1.Part), .d (.int .i64 a1.Kind), .d (.int .i64 a1.I), .d (.int .i64 a1.V), .d (.int .i64 a1.T.C), .d (.int .i64 a1.T.D), .d (.int .i64 a1.T.T), .d (.sl (a1.T.Secs.map Sec.enc))]), (5, [.d (.int .i64 (0 : Int)), .nil, .nil, .nil, .nil, .d (.int .i64 (0 : Int))])], []⟩) h (fun k13 hk13 h => ?_) (fun w13 h => ?_)
    · conv => whnf
      refine fnS rfl rfl rfl Tryz.underlying73 ?_
      conv => whnf
      refine fkS h (fun h => ?_) (fun h => ?_)
      · conv => whnf
        exact jeS hk13 h (Weak.refl _)
      conv => whnf
      refine lenS a0.Parts PartState.enc rfl ?_
      conv => whnf
      exact jeS hk13 h (Weak.refl _)
    conv => whnf
    refine fkS h (fun h => ?_) (fun h => ?_)
    · conv => whnf
      exact rt (E := E_KernelState_Int_Int) h rfl
    conv => whnf
    refine ccS (E := E_KernelState_Int_Int) h (kernel_kinds_6_w a0 a1) rfl rfl (fun x14 h => ?_)
    conv => whnf
    exact rt (E := E_KernelState_Int_Int) h rfl
  conv => whnf
  refine jnS (fun w15 => ⟨[(2, .l (.ptr 3 0)), (3, .l (.ptr 4 0)), (4, .l (.ptr 5 0)), (7, .l (.d .nilfn)), (30, .l (.d (.bool true)))], 39, [], [(3, [.d (.int .i64 a0.Table.Frame), .d (.sl (a0.Table.Windows.map Window.enc)), .d (.sl (a0.Faces.map Face.enc)), .d (.sl (a0.Parts.map PartState.enc)), .d (.sl (a0.Lines.map PortLine.enc)), .d (.int .i64 a0.Now)]), (4, [.d (.int .i64 a1.Part), .d (.int .i64 a1.Kind), .d (.int .i64 a1.I), .d (.int .i64 a1.V), .d (.int .i64 a1.T.C), .d (.int .i64 a1.T.D), .d (.int .i64 a1.T.T), .d (.sl (a1.T.Secs.map Sec.enc))]), (5, [.d (.int .i64 (0 : Int)), .nil, .nil, .nil, .nil, .d (.int .i64 (0 : Int))])], []⟩) h (fun k15 hk15 h => ?_) (fun w15 h => ?_)
  · conv => whnf
    refine fnN rfl rfl rfl Tryz.underlying73 ?_
    conv => whnf
    exact jeS hk15 h (Weak.refl _)
  conv => whnf
  exact rt (E := E_KernelState_Int_Int) h rfl

end Go.Proofs.YtldlcdnhdedoeaaGreat
namespace Go.Proofs.YtldlcdnhdedoeaaGreat
open Go Go.VC
noncomputable def kernel_Tick (a0 : KernelState) : Option (KernelState × (List Int) × Int) :=
  bnd (kernel_Right a0) fun x1 => fk (!x1) (some (a0, [], (1 : Int))) (jn (fun (w2 : List PortLine) => bnd (table_At a0.Table a0.Now) fun x4 => lp (fun nx5 (v5 : Int × (List Window) × (List Face) × (List PartState) × (List PortLine) × Int × (List Int) × Int) => fk (decide (v5.2.2.2.2.2.2.2 < (a0.Parts.length : Int))) (ix a0.Parts v5.2.2.2.2.2.2.2 fun x6 => bnd (part_Tick x6 (decide (v5.2.2.2.2.2.2.2 = x4)) v5.2.2.2.2.2.1) fun x7 => bnd (kernel_State_with (⟨⟨v5.1, v5.2.1⟩, v5.2.2.1, v5.2.2.2.1, v5.2.2.2.2.1, v5.2.2.2.2.2.1⟩) v5.2.2.2.2.2.2.2 x7.1) fun x8 => ck (decide ((v5.2.2.2.2.2.2.1.length + ([x7.2.1] : List Int).length) * 8 ≤ 140737488355328)) (nx5 (x8.Table.Frame, x8.Table.Windows, x8.Faces, x8.Parts, x8.Lines, x8.Now, v5.2.2.2.2.2.2.1 ++ ([x7.2.1] : List Int), (wr (v5.2.2.2.2.2.2.2 + (1 : Int)))))) (some (⟨⟨v5.1, v5.2.1⟩, v5.2.2.1, v5.2.2.2.1, v5.2.2.2.2.1, (wr (v5.2.2.2.2.2.1 + (1 : Int)))⟩, v5.2.2.2.2.2.2.1, (0 : Int)))) FU (a0.Table.Frame, a0.Table.Windows, a0.Faces, a0.Parts, w2, a0.Now, [], (0 : Int))) (fun k2 => ck (decide (a0.Table.Frame ≠ 0)) (fk (decide ((a0.Now.tmod a0.Table.Frame) = (0 : Int))) (bnd (port_Deliver a0.Lines) fun x3 => k2 x3) (k2 a0.Lines))))
theorem kernel_Tick_w (a0 : KernelState) (r : KernelState × (List Int) × Int) (h : kernel_Tick a0 = some r) : Go.VC.Spec Tryz.prog 34 [.agg (KernelState.enc a0)] (fun y => y = E_KernelState_ListInt_Int r) := by
  refine Go.VC.Spec.of_xc (args := [.agg (KernelState.enc a0)]) (fn := Tryz.f34) tab ⟨[(0, [1, 2]), (1, [1, 2, 14]), (2, [2, 3, 4]), (3, [1, 2, 22]), (4, [1, 2]), (5, [1, 2, 5]), (6, [1, 2, 5, 6]), (7, [1, 2, 5, 6, 33, 34, 35]), (8, [1, 2, 5, 6, 33, 34, 35, 36]), (9, [1, 2, 5, 6, 7, 8, 33, 34, 35]), (10, [1, 2, 5, 6, 7, 9, 10, 33, 34, 35]), (11, [1, 2, 5, 6, 10, 33, 34, 35]), (12, [1, 2, 5, 6, 33, 34, 35]), (13, [1, 2, 5, 6, 33, 34, 35]), (14, [1, 2, 6]), (15, [2, 3, 4])], [], [5], []⟩ 66 [.cell 2 35, .tmp 3, .tmp 4] rfl rfl rfl rfl rfl rfl ?_
  conv => whnf
  refine caS (E := E_Bool) h (kernel_Right_w a0) rfl (fun _ => rfl) (fun x1 h => ?_)
  conv => whnf
  refine fkS h (fun h => ?_) (fun h => ?_)
  · conv => whnf
    exact rt (E := E_KernelState_ListInt_Int) h rfl
  conv => whnf
  refine jnS (fun w2 => ⟨[(1, .l (.ptr 2 0)), (2, .l (.ptr 3 0))], 66, [], [(2, [.d (.int .i64 a0.Table.Frame), .d (.sl (a0.Table.Windows.map Window.enc)), .d (.sl (a0.Faces.map Face.enc)), .d (.sl (a0.Parts.map PartState.enc)), .d (.sl (w2.map PortLine.enc)), .d (.int .i64 a0.Now)]), (3, [.d (.int .i64 (0 : Int)), .nil, .nil, .nil, .nil, .d (.int .i64 (0 : Int))])], []⟩) h (fun k2 hk2 h => ?_) (fun w2 h => ?_)
  · conv => whnf
    refine dvS h (fun h => ?_)
    conv => whnf
    refine fkS h (fun h => ?_) (fun h => ?_)
    · conv => whnf
      refine ccS (E := E_ListPortLine) h (port_Deliver_w a0.Lines) rfl rfl (fun x3 h => ?_)
      conv => whnf
      exact jeS hk2 h (Weak.refl _)
    conv => whnf
    refine jeX hk2 h ?_
    conv => whnf
    refine WkF.step (Weak.keepS _ [1, 2]) ?_
    conv => whnf
    exact WkF.refl _
  conv => whnf
  refine caS (E := E_Int) h (table_At_w a0.Table a0.Now) rfl (fun _ => rfl) (fun x4 h => ?_)
  conv => whnf
  refine lenS a0.Parts PartState.enc rfl ?_
  conv => whnf
  refine lpS (fun v5 => ⟨[(1, .l (.ptr 2 0)), (2, .l (.ptr 3 0)), (5, .l (.d (.int .i64 x4))), (6, .l (.own 7)), (33, .l (.d (.sl (a0.Parts.map PartState.enc)))), (34, .l (.d (.int .i64 (a0.Parts.length : Int)))), (35, .l (.d (.int .i64 v5.2.2.2.2.2.2.2)))], 66, [], [(2, [.d (.int .i64 v5.1), .d (.sl (v5.2.1.map Window.enc)), .d (.sl (v5.2.2.1.map Face.enc)), .d (.sl (v5.2.2.2.1.map PartState.enc)), .d (.sl (v5.2.2.2.2.1.map PortLine.enc)), .d (.int .i64 v5.2.2.2.2.2.1)]), (3, [.d (.int .i64 (0 : Int)), .nil, .nil, .nil, .nil, .d (.int .i64 (0 : Int))])], [(7, 3, 1, v5.2.2.2.2.2.2.1.map (eI .i64))]⟩) h (Weak.trans (Weak.nilO _ 6 7 3 1 rfl) (Weak.refl _)) (fun _ nx5 hn5 v5 h => ?_)
  conv => whnf
  refine fkS h (fun h => ?_) (fun h => ?_)
  · conv => whnf
    refine ixS (enc := PartState.enc) h rfl (fun _ => rfl) (fun x6 h => ?_)
    conv => whnf
    refine ccS (E := E_PartState_Int_Int) h (part_Tick_w x6 (decide (v5.2.2.2.2.2.2.2 = x4)) v5.2.2.2.2.2.1) rfl rfl (fun x7 h => ?_)
    conv => whnf
    refine ccS (E := E_KernelState) h (kernel_State_with_w (⟨⟨v5.1, v5.2.1⟩, v5.2.2.1, v5.2.2.2.1, v5.2.2.2.2.1, v5.2.2.2.2.2.1⟩) v5.2.2.2.2.2.2.2 x7.1) rfl rfl (fun x8 h => ?_)
    conv => whnf
    refine liS ([x7.2.1] : List Int) (eI .i64) rfl rfl ?_
    conv => whnf
    refine apS (enc := (eI .i64)) (l1 := v5.2.2.2.2.2.2.1) (l2 := ([x7.2.1] : List Int)) h rfl rfl (fun _ => rfl) (fun h => ?_)
    conv => whnf
    exact leS hn5 h (Weak.refl _)
  conv => whnf
  exact rt (E := E_KernelState_ListInt_Int) h rfl

end Go.Proofs.YtldlcdnhdedoeaaGreat
namespace Go.Proofs.YtldlcdnhdedoeaaGreat
open Go Go.VC
noncomputable def law18_As (a0 : List PortLine) : Option (List Ref18Row) :=
  lp (fun nx1 (v1 : (List Ref18Row) × Int) => fk (decide (v1.2 < (a0.length : Int))) (ix a0 v1.2 fun x2 => ix a0 v1.2 fun x3 => bnd (ring_List x3.Under) fun x4 => ix a0 v1.2 fun x5 => bnd (ring_List x5.Got) fun x6 => ck (decide ((v1.1.length + ([⟨x2.Port, x4, x6⟩] : List Ref18Row).length) * 72 ≤ 140737488355328)) (nx1 (v1.1 ++ ([⟨x2.Port, x4, x6⟩] : List Ref18Row), (wr (v1.2 + (1 : Int)))))) (some v1.1)) FU ([], (0 : Int))
theorem law18_As_w (a0 : List PortLine) (r : List Ref18Row) (h : law18_As a0 = some r) : Go.VC.Spec Tryz.prog 72 [.d (.sl (a0.map PortLine.enc))] (fun y => y = E_ListRef18Row r) := by
  refine Go.VC.Spec.of_xc (args := [.d (.sl (a0.map PortLine.enc))]) (fn := Tryz.f72) tab ⟨[(0, [0]), (1, [0, 3]), (2, [0, 3, 4]), (3, [0, 3, 4, 8]), (4, [0, 3, 4]), (5, [0, 3, 4]), (6, [2])], [], [], []⟩ 33 [.tmp 2] rfl rfl rfl rfl rfl rfl ?_
  conv => whnf
  refine lpS (fun v1 => ⟨[(0, .l (.d (.sl (a0.map PortLine.enc)))), (3, .l (.own 4)), (4, .l (.d (.int .i64 v1.2)))], 33, [], [], [(4, 213, 5, v1.1.map Ref18Row.enc)]⟩) h (Weak.trans (Weak.nilO _ 3 4 213 5 rfl) (Weak.refl _)) (fun _ nx1 hn1 v1 h => ?_)
  conv => whnf
  refine lenS a0 PortLine.enc rfl ?_
  conv => whnf
  refine fkS h (fun h => ?_) (fun h => ?_)
  · conv => whnf
    refine ⟨20, ?_⟩
    conv => whnf
    refine ixS (enc := PortLine.enc) h rfl (fun _ => rfl) (fun x2 h => ?_)
    conv => whnf
    refine ixS (enc := PortLine.enc) h rfl (fun _ => rfl) (fun x3 h => ?_)
    conv => whnf
    refine dcS (E := E_ListInt) h (ring_List_w x3.Under) rfl (fun x4 h => ?_)
    conv => whnf
    refine ixS (enc := PortLine.enc) h rfl (fun _ => rfl) (fun x5 h => ?_)
    conv => whnf
    refine dcS (E := E_ListInt) h (ring_List_w x5.Got) rfl (fun x6 h => ?_)
    conv => whnf
    refine liS ([⟨x2.Port, x4, x6⟩] : List Ref18Row) Ref18Row.enc rfl rfl ?_
    conv => whnf
    refine drS (by kernel_rfl) ?_
    conv => whnf
    refine apS (enc := Ref18Row.enc) (l1 := v1.1) (l2 := ([⟨x2.Port, x4, x6⟩] : List Ref18Row)) h rfl rfl (fun _ => rfl) (fun h => ?_)
    conv => whnf
    exact leS hn1 h (Weak.refl _)
  conv => whnf
  exact rt (E := E_ListRef18Row) h rfl

end Go.Proofs.YtldlcdnhdedoeaaGreat
namespace Go.Proofs.YtldlcdnhdedoeaaGreat
open Go Go.VC
noncomputable def ref03_SameList (a0 : List Int) (a1 : List Int) : Option Bool :=
  fk (!decide ((a0.length : Int) = (a1.length : Int))) (some false) (lp (fun nx1 (v1 : Int) => fk (decide (v1 < (a0.length : Int))) (ix a0 v1 fun x2 => ix a1 v1 fun x3 => fk (!decide (x2 = x3)) (some false) (nx1 (wr (v1 + (1 : Int))))) (some true)) FU (0 : Int))
theorem ref03_SameList_w (a0 : List Int) (a1 : List Int) (r : Bool) (h : ref03_SameList a0 a1 = some r) : Go.VC.Spec Tryz.prog 124 [.d (.sl (a0.map (eI .i64))), .d (.sl (a1.map (eI .i64)))] (fun y => y = E_Bool r) := by
  refine Go.VC.Spec.of_xc (args := [.d (.sl (a0.map (eI .i64))), .d (.sl (a1.map (eI .i64)))]) (fn := Tryz.f124) tab ⟨[(0, [0, 1]), (1, [0, 1, 10]), (2, [4]), (3, [0, 1, 5]), (4, [0, 1, 5, 14]), (5, [0, 1, 5]), (6, [0, 1, 5, 25]), (7, [4]), (8, [4])], [], [], []⟩ 26 [.tmp 4] rfl rfl rfl rfl rfl rfl ?_
  conv => whnf
  refine lenS a0 (eI .i64) rfl ?_
  conv => whnf
  refine lenS a1 (eI .i64) rfl ?_
  conv => whnf
  refine fkS h (fun h => ?_) (fun h => ?_)
  · conv => whnf
    exact rt (E := E_Bool) h rfl
  conv => whnf
  refine lpS (fun v1 => ⟨[(0, .l (.d (.sl (a0.map (eI .i64))))), (1, .l (.d (.sl (a1.map (eI .i64))))), (5, .l (.d (.int .i64 v1)))], 26, [], [], []⟩) h (Weak.refl _) (fun _ nx1 hn1 v1 h => ?_)
  conv => whnf
  refine lenS a0 (eI .i64) rfl ?_
  conv => whnf
  refine fkS h (fun h => ?_) (fun h => ?_)
  · conv => whnf
    refine ⟨8, ?_⟩
    conv => whnf
    refine ixS (enc := (eI .i64)) h rfl (fun _ => rfl) (fun x2 h => ?_)
    conv => whnf
    refine ixS (enc := (eI .i64)) h rfl (fun _ => rfl) (fun x3 h => ?_)
    conv => whnf
    refine drS (by kernel_rfl) ?_
    conv => whnf
    refine fkS h (fun h => ?_) (fun h => ?_)
    · conv => whnf
      exact rt (E := E_Bool) h rfl
    conv => whnf
    exact leS hn1 h (Weak.refl _)
  conv => whnf
  exact rt (E := E_Bool) h rfl

end Go.Proofs.YtldlcdnhdedoeaaGreat
namespace Go.Proofs.YtldlcdnhdedoeaaGreat
open Go Go.VC
noncomputable def law18_Same (a0 : List Ref18Row) (a1 : List Ref18Row) : Option Bool :=
  fk (!decide ((a0.length : Int) = (a1.length : Int))) (some false) (lp (fun nx1 (v1 : Int) => fk (decide (v1 < (a0.length : Int))) (jn (fun (w2 : Bool) => fk w2 (some false) (nx1 (wr (v1 + (1 : Int))))) (fun k2 => ix a0 v1 fun x3 => ix a1 v1 fun x4 => fk (!(eqI [.i .i64 x3.Port.From, .i .i64 x3.Port.To, .i .i64 x3.Port.Cap] [.i .i64 x4.Port.From, .i .i64 x4.Port.To, .i .i64 x4.Port.Cap])) (k2 true) (ix a0 v1 fun x5 => ix a1 v1 fun x6 => bnd (ref03_SameList x5.Under x6.Under) fun x7 => fk (!x7) (k2 true) (ix a0 v1 fun x8 => ix a1 v1 fun x9 => bnd (ref03_SameList x8.Got x9.Got) fun x10 => k2 (!x10))))) (some true)) FU (0 : Int))
theorem law18_Same_w (a0 : List Ref18Row) (a1 : List Ref18Row) (r : Bool) (h : law18_Same a0 a1 = some r) : Go.VC.Spec Tryz.prog 71 [.d (.sl (a0.map Ref18Row.enc)), .d (.sl (a1.map Ref18Row.enc))] (fun y => y = E_Bool r) := by
  refine Go.VC.Spec.of_xc (args := [.d (.sl (a0.map Ref18Row.enc)), .d (.sl (a1.map Ref18Row.enc))]) (fn := Tryz.f71) tab ⟨[(0, [0, 1]), (1, [0, 1, 10]), (2, [4]), (3, [0, 1, 5]), (4, [0, 1, 5, 14]), (5, [0, 1, 5]), (6, [0, 1, 5, 55]), (7, [4]), (8, [4])], [], [100055], []⟩ 56 [.tmp 4] rfl rfl rfl rfl rfl rfl ?_
  conv => whnf
  refine lenS a0 Ref18Row.enc rfl ?_
  conv => whnf
  refine lenS a1 Ref18Row.enc rfl ?_
  conv => whnf
  refine fkS h (fun h => ?_) (fun h => ?_)
  · conv => whnf
    exact rt (E := E_Bool) h rfl
  conv => whnf
  refine lpS (fun v1 => ⟨[(0, .l (.d (.sl (a0.map Ref18Row.enc)))), (1, .l (.d (.sl (a1.map Ref18Row.enc)))), (5, .l (.d (.int .i64 v1)))], 56, [], [], []⟩) h (Weak.refl _) (fun _ nx1 hn1 v1 h => ?_)
  conv => whnf
  refine lenS a0 Ref18Row.enc rfl ?_
  conv => whnf
  refine fkS h (fun h => ?_) (fun h => ?_)
  · conv => whnf
    refine jnS (fun w2 => ⟨[(0, .l (.d (.sl (a0.map Ref18Row.enc)))), (1, .l (.d (.sl (a1.map Ref18Row.enc)))), (5, .l (.d (.int .i64 v1))), (55, .l (.d (.bool w2)))], 56, [], [], []⟩) h (fun k2 hk2 h => ?_) (fun w2 h => ?_)
    · conv => whnf
      refine ⟨39, ?_⟩
      conv => whnf
      refine ixS (enc := Ref18Row.enc) h rfl (fun _ => rfl) (fun x3 h => ?_)
      conv => whnf
      refine ixS (enc := Ref18Row.enc) h rfl (fun _ => rfl) (fun x4 h => ?_)
      conv => whnf
      refine fkS h (fun h => ?_) (fun h => ?_)
      · conv => whnf
        refine drS (by kernel_rfl) ?_
        conv => whnf
        exact jeS hk2 h (Weak.refl _)
      conv => whnf
      refine ixS (enc := Ref18Row.enc) h rfl (fun _ => rfl) (fun x5 h => ?_)
      conv => whnf
      refine ixS (enc := Ref18Row.enc) h rfl (fun _ => rfl) (fun x6 h => ?_)
      conv => whnf
      refine daS (E := E_Bool) h (ref03_SameList_w x5.Under x6.Under) (fun _ => rfl) (fun x7 h => ?_)
      conv => whnf
      refine fkS h (fun h => ?_) (fun h => ?_)
      · conv => whnf
        refine drS (by kernel_rfl) ?_
        conv => whnf
        exact jeS hk2 h (Weak.refl _)
      conv => whnf
      refine ixS (enc := Ref18Row.enc) h rfl (fun _ => rfl) (fun x8 h => ?_)
      conv => whnf
      refine ixS (enc := Ref18Row.enc) h rfl (fun _ => rfl) (fun x9 h => ?_)
      conv => whnf
      refine daS (E := E_Bool) h (ref03_SameList_w x8.Got x9.Got) (fun _ => rfl) (fun x10 h => ?_)
      conv => whnf
      refine drS (by kernel_rfl) ?_
      conv => whnf
      exact jeS hk2 h (Weak.refl _)
    conv => whnf
    refine fkS h (fun h => ?_) (fun h => ?_)
    · conv => whnf
      exact rt (E := E_Bool) h rfl
    conv => whnf
    exact leS hn1 h (Weak.refl _)
  conv => whnf
  exact rt (E := E_Bool) h rfl

end Go.Proofs.YtldlcdnhdedoeaaGreat
