/- Part 17 of what follows is proved here: what the statement PolicePatterns needs of functions and plain laws. -/
import Derived.Test.YtkhebjkplmidnaaXPolicePatterns5
import Derived.Test.YtkhebjkplmidnaaV9
import Derived.Test.YtkhebjkplmidnaaV8
set_option linter.unusedVariables false
set_option linter.unusedSimpArgs false
set_option maxRecDepth 100000
set_option maxHeartbeats 40000000
namespace Go.VC
open Go.RowKit (Below)
/-! Slices whose elements hold slices of the call's own: a box of as many cells. -/
section
variable {P : Program} {T : TypeId → Option TI} {w0 : World} {p0 p : Nat → Prop} {σ : Nat → Value} {s : St} {tm : Array Value} {ups : List (Array Value)} {w w' : World} {K : St → Prop}

def boxN (N : Nat) (z : List LV) : List LV := match N with | 0 => [] | n + 1 => z ++ boxN n z
theorem boxN_length (z : List LV) : ∀ N, (boxN N z).length = N * z.length
  | 0 => by simp [boxN]
  | n + 1 => by rw [boxN, List.length_append, boxN_length z n, Nat.succ_mul, Nat.add_comm]
theorem boxN_get (z : List LV) (hz : 0 < z.length) : ∀ (N k : Nat), k < N * z.length → (boxN N z)[k]? = z[k % z.length]?
  | 0, k, h => by simp at h
  | n + 1, k, h => by
    rw [boxN]
    by_cases c : k < z.length
    · rw [List.getElem?_append_left c, Nat.mod_eq_of_lt c]
    · rw [List.getElem?_append_right (by omega), boxN_get z hz n (k - z.length) (by rw [Nat.succ_mul] at h; omega)]
      rw [← Nat.mod_eq_sub_mod (by omega)]
theorem mkB (hT : TabOk P T) {o : Oper} {t e : TypeId} {l c : Operand} {k1 k2 : IntKind} {n m : Int} {i ie : TI} (N : Nat) (ho : o.op = .makeSlice t l c) (hd : dstLt o.dst s.n = true) (hl : s.eval l = .l (.d (.int k1 n))) (hc : s.eval c = .l (.d (.int k2 m))) (hn : n = (N : Int)) (hm : m = (N : Int))
    (hi : T t = some i) (hk : i.k = .slice e) (hie : T e = some ie) (hb : N * ie.bytes ≤ 281474976710656) (hz : 0 < ie.zero.length) (hN : N ≤ 1000000) (hsz : ie.size = ie.zero.length)
    (h : keyX s.up o.dst fun key => fS (s.drop key) fun s => fLVs (boxN N ie.zero) fun cs => appX s o.dst { v := .l (.bsl key N ie.size), nb := some (key, cs) } K) : OpX P o s K := by
  subst hn; subst hm
  rw [keyX_eq, fS_eq, fLVs_eq, appX_eq] at h
  generalize hkey : keyOf s o.dst = key at h
  refine ⟨fun w0 p0 p σ tm ups w Q hr => ?_⟩
  have hf : Free key (s.drop key) := Free.drop _ _
  have h2 := hr.drop key
  have hl' := hr.eval (ds := []) l
  have hc' := hr.eval (ds := []) c
  rw [hl] at hl'
  rw [hc] at hc'
  have hu := desc_slice (hT.ok t i hi) hk
  obtain ⟨j, zv, h1, h2', h3, h4, h5, h6, h7⟩ := (hT.ok e ie hie).info
  have hrun := run_make (P := P) w t e j zv hu h1 h4 k1 k2 N N (by omega) (Int.le_refl _) (by have hb' : ((N * ie.bytes : Nat) : Int) ≤ 281474976710656 := by omega
                                                                                              rw [Int.natCast_mul] at hb'; rw [h3, Int.mul_comm]; exact hb') (by omega)
  simp only [Int.toNat_natCast] at hrun
  have hrep : All2 (RepL σ w p) ie.zero zv.cells.toList := by rw [← h5]; exact constL_rep_all _ σ w p
  have hzl : zv.cells.size = ie.zero.length := by rw [hrep.1, Array.length_toList]
  have hon : ∀ x ∈ boxN N ie.zero, x.on key = false := by
    intro x hx
    obtain ⟨q, hq⟩ := List.getElem?_of_mem hx
    have hql := (List.getElem?_eq_some_iff.1 hq).1
    rw [boxN_length] at hql
    rw [boxN_get _ hz _ _ hql] at hq
    have hx := List.mem_of_getElem? hq
    rw [← h5] at hx
    obtain ⟨v, _, rfl⟩ := List.mem_map.1 hx
    unfold constL
    split <;> rfl
  have hall : All2 (RepL σ w p) (boxN N ie.zero) (madeCells zv.cells (N * j.size)).toList := by
    have hjs : j.size = ie.zero.length := by rw [h2', hsz]
    refine ⟨by rw [boxN_length, Array.length_toList, size_madeCells, hjs], fun q x y hx hy => ?_⟩
    have hql := (List.getElem?_eq_some_iff.1 hx).1
    rw [boxN_length] at hql
    rw [boxN_get _ hz _ _ hql] at hx
    rw [Array.getElem?_toList] at hy
    simp only [madeCells, Array.getElem?_map] at hy
    rw [Array.getElem?_range] at hy
    rw [hjs] at hy
    simp only [hql, if_true, Option.map_some, Option.some.injEq] at hy
    rw [hzl] at hy
    have hm : q % ie.zero.length < zv.cells.size := by rw [hzl]; exact Nat.mod_lt _ hz
    rw [getElem!_pos zv.cells _ hm] at hy
    refine hrep.2 (q % ie.zero.length) x y hx ?_
    rw [Array.getElem?_toList, Array.getElem?_eq_getElem hm, hy]
  have hnew := h2.newBoxF key _ _ e hall hf hon
  have hexec : (execOp (Act.eval ⟨tm, []⟩) o).run P w = .ok (.value (.slice (some ⟨w.heap.size, 0, none⟩) N N)) (w.alloc (.cells (madeCells zv.cells (N * j.size)).toList.toArray e)) := by
    unfold execOp
    simp only [ho]
    rw [RepD_int hl', RepD_int hc']
    simp only [Sem.run_bind]
    rw [hrun, Array.toArray_toList]
    rfl
  unfold Oper.wp
  rw [hexec, Oper.upon_value]
  exact ⟨by cases o.dst <;> rfl, _, p, _, h, hnew.put o.dst (.l (.bsl key N ie.size)) _ (fun d e => by show d < (s.drop key).n; exact dstLt_spec hd d e) ⟨by unfold maxLen; omega, w.heap.size, upd_same _ _ _, rfl⟩ []⟩
theorem mkB0 (hT : TabOk P T) {o : Oper} {t e : TypeId} {l c : Operand} {k1 k2 : IntKind} {n m : Int} {i ie : TI} (ho : o.op = .makeSlice t l c) (hd : dstLt o.dst s.n = true) (hl : s.eval l = .l (.d (.int k1 n))) (hc : s.eval c = .l (.d (.int k2 m))) (hn : n = 0) (hm : m = 0)
    (hi : T t = some i) (hk : i.k = .slice e) (hie : T e = some ie) (h : putX s o.dst (.l (.d (.sl []))) K) : OpX P o s K := by
  subst hn; subst hm
  rw [putX_eq] at h
  refine ⟨fun w0 p0 p σ tm ups w Q hr => ?_⟩
  have hl' := hr.eval (ds := []) l
  have hc' := hr.eval (ds := []) c
  rw [hl] at hl'
  rw [hc] at hc'
  have hu := desc_slice (hT.ok t i hi) hk
  obtain ⟨j, zv, h1, h2', h3, h4, h5, h6, h7⟩ := (hT.ok e ie hie).info
  have hrun := run_make (P := P) w t e j zv hu h1 h4 k1 k2 0 0 (by omega) (Int.le_refl _) (by simp) (by omega)
  have hexec : (execOp (Act.eval ⟨tm, []⟩) o).run P w = .ok (.value (.slice (some ⟨w.heap.size, 0, none⟩) 0 0)) (w.alloc (.cells (madeCells zv.cells (Int.toNat 0 * j.size)) e)) := by
    unfold execOp
    simp only [ho]
    rw [RepD_int hl', RepD_int hc']
    simp only [Sem.run_bind]
    rw [hrun]
    rfl
  unfold Oper.wp
  rw [hexec, Oper.upon_value]
  have hbel : Below w.heap.size w (w.alloc (.cells (madeCells zv.cells (Int.toNat 0 * j.size)) e)) := ⟨rfl, rfl, rfl, by show _ ≤ (w.heap.push _).size; simp, fun b hb => by
    show (w.heap.push _)[b]? = _
    rw [Array.getElem?_push_lt hb, Array.getElem?_eq_getElem hb]⟩
  have hrel := hr.called hbel (p' := p) (fun _ h => h) (fun b h => .inl h) (fun b h => Nat.lt_of_lt_of_le (hr.plt b h) hbel.size)
  refine ⟨by cases o.dst <;> rfl, _, p, σ, h, hrel.put o.dst _ _ (dstLt_spec hd) ?_ []⟩
  exact RepD.sl [] 0 _ 0 (fun _ _ => undef) (Nat.le_refl _) (by unfold maxLen; omega) (fun e => by cases e) (fun ad e hn => absurd rfl hn) (fun r hr => by cases hr) (fun ad i j r x e h1 => by simp at h1) (fun i j r x h1 => by simp at h1)
theorem lenB (hT : TabOk P T) {o : Oper} {t e : TypeId} {x : Operand} {k n sz : Nat} {i : TI} (ho : o.op = .call ⟨.builtin .len, #[x], #[t]⟩) (hd : dstLt o.dst s.n = true) (hx : s.eval x = .l (.bsl k n sz)) (hi : T t = some i) (hk : i.k = .slice e) (h : putX s o.dst (.l (.d (.int .i64 (n : Int)))) K) : OpX P o s K := by
  rw [putX_eq] at h
  refine OpX.pure hd _ h fun w0 p0 p σ tm ups w hr => ⟨_, ?_, .int .i64 (n : Int)⟩
  have hx' := hr.eval (ds := []) x
  rw [hx] at hx'
  obtain ⟨_, b, _, hv⟩ := hx'
  have hu := desc_slice (hT.ok t i hi) hk
  have hev : (#[x] : Array Operand).map (Act.eval ⟨tm, []⟩) = #[Value.slice (some ⟨b, 0, none⟩) n n] := by rw [← hv]; simp
  rw [run_exec_builtin ho rfl]
  simp only [hev, builtin, Builtin.len_, Sem.run_bind, run_underlying hu, Sem.run_pure, Result.andThen_ok, goInt]
  simp [Builtin.len_, run_underlying hu, goInt]
/-- A row of bytes that is turned to its own type: nothing will be written there. -/
theorem cvO {o : Oper} {t e : TypeId} {x : Operand} {k : Nat} {z : Own} (ho : o.op = .convert t t x) (hd : dstLt o.dst s.n = true) (hx : s.eval x = .l (.own k)) (hz : assoc s.o k = some z) (hn : z.2.2.isEmpty = false) (hu : P.underlying t = some (.slice e)) (hue : P.underlying e = some (.int .u8))
    (h : fS (s.drop k) fun s => putX s o.dst (.l (.d (.sl z.2.2))) K) : OpX P o s K := by
  rw [fS_eq, putX_eq] at h
  refine ⟨fun w0 p0 p σ tm ups w Q hr => ?_⟩
  have hx' := hr.eval (ds := []) x
  rw [hx] at hx'
  have hlive : s.live k := .inr (by rw [hz]; rfl)
  obtain ⟨xs, ho1, ho2, ho3, ho4⟩ := hr.o k z hz
  obtain ⟨hv, _⟩ := hx'
  rcases ho1.2 with ⟨_, h0⟩ | ⟨g, cap, cur, hs, hb, hg, hnc, hcm, hcs, htake⟩
  · rw [List.length_eq_zero_iff.1 h0] at hn; cases hn
  have hlt : g < w.heap.size := (Array.getElem?_eq_some_iff.1 hg).1
  let w' : World := w.freeze ⟨g, cur.size, none⟩ 1
  have hblk : ∀ b, b ≠ g → w'.heap[b]? = w.heap[b]? := fun b hb => by
    show (w.heap.modify g _)[b]? = _
    rw [Array.getElem?_modify, if_neg (fun c => hb c.symm)]
  have hg' : w'.heap[g]? = some (.cells cur z.1 (cur.size, cur.size + 1)) := by
    show (w.heap.modify g _)[g]? = _
    rw [Array.getElem?_modify, if_pos rfl, hg]
    rfl
  have hexec : (execOp (Act.eval ⟨tm, []⟩) o).run P w = .ok (.value (σ k)) w' := by
    unfold execOp
    have hsh : w.shape? g = some (z.1, cur.size) := by unfold World.shape?; rw [hg]
    simp only [ho]
    rw [hv, hs]
    simp [convert, run_underlying hu, run_underlying hue, markStringish, hsh]
    rfl
  unfold Oper.wp
  rw [hexec, Oper.upon_value]
  have hbel : Below w0.heap.size w0 w' := ⟨hr.below.os, hr.below.tape, hr.below.output, by show _ ≤ (w.heap.modify g _).size; rw [Array.size_modify]; exact hr.below.size, fun b hb' => by
    rw [hblk b (by omega)]; exact hr.below.block b hb'⟩
  have hsz : w.heap.size ≤ w'.heap.size := by show _ ≤ (w.heap.modify g _).size; rw [Array.size_modify]; exact Nat.le_refl _
  have hσg : blk (σ k) = some g := by rw [hs]; rfl
  have h1 := hr.step (σ' := σ) k (fun _ _ => rfl) hbel (fun q hq hc => hblk q fun e => by
    subst e
    rcases hc with hc | ⟨j, hj, hl, hjg⟩
    · exact ho4 q hσg hc
    · exact hj (hr.apart j k q hl hlive hjg hσg)) hsz
  have h2 := h1.freeze hb (by omega) (fun j hj hjg => (live_drop hj).1 (hr.apart j k g (live_drop hj).2 hlive hjg hσg))
  refine ⟨by cases o.dst <;> rfl, _, _, σ, h, h2.put o.dst _ _ (dstLt_spec hd) ?_ []⟩
  have hpw : ∀ b, p b → w'.heap[b]? = w.heap[b]? := fun b hb' => hblk b fun e => ho4 g hσg (e ▸ hb')
  rw [hs]
  refine RepD.sl z.2.2 z.2.1 _ cap (fun i j => xs.getD (i * z.2.1 + j) undef) hnc hcm (fun e => by cases e) (fun ad e _ => .inr (by cases e; rfl)) ho2 ?_ ?_
  · intro ad i j r x e hi hj
    cases e
    have hjl : j < z.2.1 := by rw [← ho2 r (List.mem_of_getElem? hi)]; exact (List.getElem?_eq_some_iff.1 hj).1
    have hf := flatten_get z.2.1 z.2.2 ho2 i j hjl
    rw [hi, Option.bind_some, hj] at hf
    obtain ⟨u, hu', hru⟩ := ho3.get hf
    have hc := ho1.cells (g := g) (by rw [hs]; rfl) _ u hu'
    rw [List.getD_eq_getElem?_getD, hu', Option.getD_some]
    have hcell : ∀ (W : World) (fz : Nat × Nat), W.heap[g]? = some (.cells cur z.1 fz) → W.cell? ⟨g, i * z.2.1 + j, none⟩ = cur[i * z.2.1 + j]? := by
      intro W fz hW
      simp [World.cell?, hW]
    have e2 : (⟨g, 0, none⟩ : Addr).add (i * z.2.1 + j) = ⟨g, i * z.2.1 + j, none⟩ := by unfold Addr.add; split <;> simp_all
    rw [e2] at hc ⊢
    rw [hcell w' _ hg', ← hcell w _ hg]
    exact hc
  · intro i j r x hi hj
    have hjl : j < z.2.1 := by rw [← ho2 r (List.mem_of_getElem? hi)]; exact (List.getElem?_eq_some_iff.1 hj).1
    have hf := flatten_get z.2.1 z.2.2 ho2 i j hjl
    rw [hi, Option.bind_some, hj] at hf
    obtain ⟨u, hu', hru⟩ := ho3.get hf
    rw [List.getD_eq_getElem?_getD, hu', Option.getD_some]
    exact (hru.mono hpw (fun _ h => h)).mono (fun _ _ => rfl) (fun _ h => .inl h)
/-- The ways out of a call that is walked in place meet. -/
theorem inJ {α R : Type} {r : R} {Y : α → Option R} {X : (α → Option R) → Option R} {f : FuncId} {args : List AV} {dst : Option Nat} (st : α → St) (h : jn Y X = some r)
    (h1 : ∀ (k : α → Option R) (hk : ∀ v, k v = some r → Y v = some r), X k = some r → CallX P f args s dst fun s' => ∃ s2, Weak s' s2 ∧ ∃ v, s2 = st v ∧ Y v = some r)
    (h2 : ∀ v, Y v = some r → K (st v)) : CallX P f args s dst K :=
  ⟨(h1 Y (fun _ h => h) h).h.mono fun r s' ⟨hn, s2, hw, s3, hw2, v, hv, hy⟩ => ⟨hn, s3, hw.trans hw2, hv ▸ h2 v hy⟩⟩
theorem fkN {R : Type} {r : R} {b : Bool} {x y : Option R} {X Y : Prop} (h : fk b x y = some r) (h1 : b = true → x = some r → X) (h2 : b = false → y = some r → Y) : forkK b X Y := by
  cases b
  · exact h2 rfl h
  · exact h1 rfl h
theorem lpX {α R : Type} {r : R} {body : (α → Option R) → α → Option R} {n : Nat} {v0 : α} {xb : (Exit → St → Prop) → St → Prop} {Q : Exit → St → Prop} (st : α → St) (h : lp body n v0 = some r) (hw : WkF s (st v0))
    (step : ∀ (n : Nat) (nx : α → Option R) (hn : ∀ v', nx v' = some r → lp body n v' = some r) (v : α), body nx v = some r → xb (fun e s' => match e with | .normal => ∃ n' s2, n' < n + 1 ∧ Weak s' s2 ∧ ∃ v', s2 = st v' ∧ lp body n' v' = some r | e => Q e s') (st v)) : LoopVC xb Q s := lpS st h hw.h step
/-- Few numbers, one by one. -/
theorem mkF {R : Type} {r : R} {b : Bool} {x y : Option R} {G : Prop} (h : fk b x y = some r) (h1 : b = true → x = some r → G) (h2 : y = some r → G) : G := by
  cases b
  · exact h2 h
  · exact h1 rfl h
end
end Go.VC
namespace Go.Proofs.Ytkhebjkplmidnaa
open Go Go.VC
structure PoliceAsk where
  Task : Int
  At : Int
  deriving DecidableEq
def PoliceAsk.enc (x : PoliceAsk) : List Go.VC.D := [.int .i64 x.Task, .int .i64 x.At]
structure Job where
  Task : Int
  At : Int
  Due : Int
  Want : Int
  Had : Int
  Began : Bool
  deriving DecidableEq
def Job.enc (x : Job) : List Go.VC.D := [.int .i64 x.Task, .int .i64 x.At, .int .i64 x.Due, .int .i64 x.Want, .int .i64 x.Had, .bool x.Began]
structure Sec where
  Res : Int
  At : Int
  Len : Int
  deriving DecidableEq
def Sec.enc (x : Sec) : List Go.VC.D := [.int .i64 x.Res, .int .i64 x.At, .int .i64 x.Len]
structure Law15Come where
  Some : Bool
  Task : Int
  Want : Int
  deriving DecidableEq
def Law15Come.enc (x : Law15Come) : List Go.VC.D := [.bool x.Some, .int .i64 x.Task, .int .i64 x.Want]
structure Task where
  C : Int
  D : Int
  T : Int
  Secs : List Sec
  deriving DecidableEq
def Task.enc (x : Task) : List Go.VC.D := [.int .i64 x.C, .int .i64 x.D, .int .i64 x.T, .sl (x.Secs.map Sec.enc)]
structure Policegate where
  l : List Task
  lasts : List Int
  deriving DecidableEq
def Policegate.enc (x : Policegate) : List Go.VC.D := [.sl (x.l.map Task.enc), .sl (x.lasts.map (eI .i64))]
def E_Bool : Bool → List CV := fun r => [.d (.bool r)]
def E_ListBool : (List Bool) → List CV := fun r => [.d (.sl (r.map eB))]
def E_ListInt_Int : ((List Int) × Int) → List CV := fun r => [.d (.sl (r.1.map (eI .i64))), .d (.int .i64 r.2)]
def E_Int : Int → List CV := fun r => [.d (.int .i64 r)]
def E_ListInt_ListInt : ((List Int) × (List Int)) → List CV := fun r => [.d (.sl (r.1.map (eI .i64))), .d (.sl (r.2.map (eI .i64)))]
end Go.Proofs.Ytkhebjkplmidnaa
namespace Go.Proofs.Ytkhebjkplmidnaa
open Go Go.VC
noncomputable def law05_Great (a0 : List Task) : Option Bool :=
  lp (fun nx1 (v1 : Int) => fk (decide (v1 < (a0.length : Int))) (ix a0 v1 fun x2 => fk (decide ((x2.Secs.length : Int) > (20 : Int))) (some true) (nx1 (wr (v1 + (1 : Int))))) (some (decide ((a0.length : Int) > (20 : Int))))) FU (0 : Int)
theorem law05_Great_w (a0 : List Task) (r : Bool) (h : law05_Great a0 = some r) : Go.VC.Spec Try.prog 14 [.d (.sl (a0.map Task.enc))] (fun y => y = E_Bool r) := by
  refine Go.VC.Spec.of_xc (args := [.d (.sl (a0.map Task.enc))]) (fn := Try.f14) tab ⟨[(0, [0]), (1, [0, 3]), (2, [0, 3, 7]), (3, [0, 3]), (4, [0, 3, 16]), (5, [2]), (6, [2])], [], [], []⟩ 20 [.tmp 2] rfl rfl rfl rfl rfl rfl ?_
  conv => whnf
  refine lpS (fun v1 => ⟨[(0, .l (.d (.sl (a0.map Task.enc)))), (3, .l (.d (.int .i64 v1)))], 20, [], [], []⟩) h (Weak.refl _) (fun _ nx1 hn1 v1 h => ?_)
  conv => whnf
  refine lenS a0 Task.enc rfl ?_
  conv => whnf
  refine fkS h (fun h => ?_) (fun h => ?_)
  · conv => whnf
    refine ixS (enc := Task.enc) h rfl (fun _ => rfl) (fun x2 h => ?_)
    conv => whnf
    refine lenS x2.Secs Sec.enc rfl ?_
    conv => whnf
    refine fkS h (fun h => ?_) (fun h => ?_)
    · conv => whnf
      exact rt (E := E_Bool) h rfl
    conv => whnf
    exact leS hn1 h (Weak.refl _)
  conv => whnf
  refine lenS a0 Task.enc rfl ?_
  conv => whnf
  exact rt (E := E_Bool) h rfl

end Go.Proofs.Ytkhebjkplmidnaa
namespace Go.Proofs.Ytkhebjkplmidnaa
open Go Go.VC
noncomputable def ref05_Right (a0 : Task) : Option Bool :=
  jn (fun (w1 : Bool) => fk w1 (some false) (lp (fun nx2 (v2 : Int) => fk (decide (v2 < (a0.Secs.length : Int))) (ix a0.Secs v2 fun x3 => jn (fun (w4 : Bool) => fk w4 (some false) (lp (fun nx5 (v5 : Int) => fk (decide (v5 < v2)) (ix a0.Secs v5 fun x6 => jn (fun (w7 : Bool) => fk w7 (some false) (lp (fun nx8 (v8 : Int × Int × Int) => fk (decide (v8.2.2 < (wr (x3.At + x3.Len)))) (jn (fun (w9 : Int × Int) => nx8 (w9.1, w9.2, (wr (v8.2.2 + (1 : Int))))) (fun k9 => fk (decide (v8.2.2 < (wr (x6.At + x6.Len)))) (k9 ((wr (v8.1 + (1 : Int))), v8.2.1)) (k9 (v8.1, (wr (v8.2.1 + (1 : Int))))))) (jn (fun (w10 : Bool) => fk w10 (some false) (nx5 (wr (v5 + (1 : Int))))) (fun k10 => fk (decide (v8.1 > (0 : Int))) (fk (decide (v8.2.1 > (0 : Int))) (k10 true) (k10 (decide (x6.Res = x3.Res)))) (k10 false)))) FU ((0 : Int), (0 : Int), x3.At))) (fun k7 => fk (decide (x3.At < x6.At)) (k7 true) (fk (decide (x3.At = x6.At)) (k7 (decide (x3.Len > x6.Len))) (k7 false)))) (nx2 (wr (v2 + (1 : Int))))) FU (0 : Int))) (fun k4 => fk (decide (x3.Res < (0 : Int))) (k4 true) (fk (decide (x3.Res > (3 : Int))) (k4 true) (fk (decide (x3.At < (0 : Int))) (k4 true) (fk (decide (x3.Len < (1 : Int))) (k4 true) (fk (decide (x3.At > a0.C)) (k4 true) (fk (decide (x3.Len > a0.C)) (k4 true) (k4 (decide ((wr (x3.At + x3.Len)) > a0.C)))))))))) (some true)) FU (0 : Int))) (fun k1 => fk (decide (a0.C < (1 : Int))) (k1 true) (fk (decide (a0.D < a0.C)) (k1 true) (fk (decide (a0.T < a0.D)) (k1 true) (fk (decide (a0.T > (200 : Int))) (k1 true) (k1 (decide ((a0.Secs.length : Int) > (4 : Int))))))))
theorem ref05_Right_w (a0 : Task) (r : Bool) (h : ref05_Right a0 = some r) : Go.VC.Spec Try.prog 46 [.agg (Task.enc a0)] (fun y => y = E_Bool r) := by
  refine Go.VC.Spec.of_xc (args := [.agg (Task.enc a0)]) (fn := Try.f46) tab ⟨[(0, [1]), (1, [1, 37]), (2, [2]), (3, [1, 3]), (4, [1, 3, 42]), (5, [1, 3]), (6, [1, 3, 4]), (7, [1, 3, 4, 91]), (8, [2]), (9, [1, 3, 4, 5]), (10, [1, 3, 4, 5, 94]), (11, [1, 3, 4, 5]), (12, [1, 3, 4, 5, 6]), (13, [1, 3, 4, 5, 6, 120]), (14, [2]), (15, [1, 3, 4, 5, 6, 7, 8]), (16, [1, 3, 4, 5, 6, 7, 8, 9]), (17, [1, 3, 4, 5, 6, 7, 8, 9, 129]), (18, [1, 3, 4, 5, 6, 7, 8, 9]), (19, [1, 3, 4, 5, 6, 7, 8, 9, 138]), (20, [1, 3, 4, 5, 6, 7, 8, 9]), (21, [1, 3, 4, 5, 6, 7, 8, 9]), (22, [1, 3, 4, 5, 155]), (23, [2]), (24, [2])], [], [100037, 100091, 100120, 18, 100155], []⟩ 156 [.tmp 2] rfl rfl rfl rfl rfl rfl ?_
  conv => whnf
  refine jnS (fun w1 => ⟨[(1, .l (.ptr 2 0)), (37, .l (.d (.bool w1)))], 156, [], [(2, [.d (.int .i64 a0.C), .d (.int .i64 a0.D), .d (.int .i64 a0.T), .d (.sl (a0.Secs.map Sec.enc))])], []⟩) h (fun k1 hk1 h => ?_) (fun w1 h => ?_)
  · conv => whnf
    refine fkS h (fun h => ?_) (fun h => ?_)
    · conv => whnf
      exact jeS hk1 h (Weak.refl _)
    conv => whnf
    refine fkS h (fun h => ?_) (fun h => ?_)
    · conv => whnf
      exact jeS hk1 h (Weak.refl _)
    conv => whnf
    refine fkS h (fun h => ?_) (fun h => ?_)
    · conv => whnf
      exact jeS hk1 h (Weak.refl _)
    conv => whnf
    refine fkS h (fun h => ?_) (fun h => ?_)
    · conv => whnf
      exact jeS hk1 h (Weak.refl _)
    conv => whnf
    refine lenS a0.Secs Sec.enc rfl ?_
    conv => whnf
    exact jeS hk1 h (Weak.refl _)
  conv => whnf
  refine fkS h (fun h => ?_) (fun h => ?_)
  · conv => whnf
    exact rt (E := E_Bool) h rfl
  conv => whnf
  refine lpS (fun v2 => ⟨[(1, .l (.ptr 2 0)), (3, .l (.d (.int .i64 v2)))], 156, [], [(2, [.d (.int .i64 a0.C), .d (.int .i64 a0.D), .d (.int .i64 a0.T), .d (.sl (a0.Secs.map Sec.enc))])], []⟩) h (Weak.refl _) (fun _ nx2 hn2 v2 h => ?_)
  conv => whnf
  refine lenS a0.Secs Sec.enc rfl ?_
  conv => whnf
  refine fkS h (fun h => ?_) (fun h => ?_)
  · conv => whnf
    refine ixS (enc := Sec.enc) h rfl (fun _ => rfl) (fun x3 h => ?_)
    conv => whnf
    refine jnS (fun w4 => ⟨[(1, .l (.ptr 2 0)), (3, .l (.d (.int .i64 v2))), (4, .l (.ptr 5 0)), (91, .l (.d (.bool w4)))], 156, [], [(2, [.d (.int .i64 a0.C), .d (.int .i64 a0.D), .d (.int .i64 a0.T), .d (.sl (a0.Secs.map Sec.enc))]), (5, [.d (.int .i64 x3.Res), .d (.int .i64 x3.At), .d (.int .i64 x3.Len)])], []⟩) h (fun k4 hk4 h => ?_) (fun w4 h => ?_)
    · conv => whnf
      refine fkS h (fun h => ?_) (fun h => ?_)
      · conv => whnf
        exact jeS hk4 h (Weak.refl _)
      conv => whnf
      refine fkS h (fun h => ?_) (fun h => ?_)
      · conv => whnf
        exact jeS hk4 h (Weak.refl _)
      conv => whnf
      refine fkS h (fun h => ?_) (fun h => ?_)
      · conv => whnf
        exact jeS hk4 h (Weak.refl _)
      conv => whnf
      refine fkS h (fun h => ?_) (fun h => ?_)
      · conv => whnf
        exact jeS hk4 h (Weak.refl _)
      conv => whnf
      refine fkS h (fun h => ?_) (fun h => ?_)
      · conv => whnf
        exact jeS hk4 h (Weak.refl _)
      conv => whnf
      refine fkS h (fun h => ?_) (fun h => ?_)
      · conv => whnf
        exact jeS hk4 h (Weak.refl _)
      conv => whnf
      exact jeS hk4 h (Weak.refl _)
    conv => whnf
    refine fkS h (fun h => ?_) (fun h => ?_)
    · conv => whnf
      exact rt (E := E_Bool) h rfl
    conv => whnf
    refine lpS (fun v5 => ⟨[(1, .l (.ptr 2 0)), (3, .l (.d (.int .i64 v2))), (4, .l (.ptr 5 0)), (5, .l (.d (.int .i64 v5)))], 156, [], [(2, [.d (.int .i64 a0.C), .d (.int .i64 a0.D), .d (.int .i64 a0.T), .d (.sl (a0.Secs.map Sec.enc))]), (5, [.d (.int .i64 x3.Res), .d (.int .i64 x3.At), .d (.int .i64 x3.Len)])], []⟩) h (Weak.refl _) (fun _ nx5 hn5 v5 h => ?_)
    conv => whnf
    refine fkS h (fun h => ?_) (fun h => ?_)
    · conv => whnf
      refine ixS (enc := Sec.enc) h rfl (fun _ => rfl) (fun x6 h => ?_)
      conv => whnf
      refine jnS (fun w7 => ⟨[(1, .l (.ptr 2 0)), (3, .l (.d (.int .i64 v2))), (4, .l (.ptr 5 0)), (5, .l (.d (.int .i64 v5))), (6, .l (.ptr 7 0)), (120, .l (.d (.bool w7)))], 156, [], [(2, [.d (.int .i64 a0.C), .d (.int .i64 a0.D), .d (.int .i64 a0.T), .d (.sl (a0.Secs.map Sec.enc))]), (5, [.d (.int .i64 x3.Res), .d (.int .i64 x3.At), .d (.int .i64 x3.Len)]), (7, [.d (.int .i64 x6.Res), .d (.int .i64 x6.At), .d (.int .i64 x6.Len)])], []⟩) h (fun k7 hk7 h => ?_) (fun w7 h => ?_)
      · conv => whnf
        refine fkS h (fun h => ?_) (fun h => ?_)
        · conv => whnf
          exact jeS hk7 h (Weak.refl _)
        conv => whnf
        refine fkS h (fun h => ?_) (fun h => ?_)
        · conv => whnf
          exact jeS hk7 h (Weak.refl _)
        conv => whnf
        exact jeS hk7 h (Weak.refl _)
      conv => whnf
      refine fkS h (fun h => ?_) (fun h => ?_)
      · conv => whnf
        exact rt (E := E_Bool) h rfl
      conv => whnf
      refine lpS (fun v8 => ⟨[(1, .l (.ptr 2 0)), (3, .l (.d (.int .i64 v2))), (4, .l (.ptr 5 0)), (5, .l (.d (.int .i64 v5))), (6, .l (.ptr 7 0)), (7, .l (.d (.int .i64 v8.1))), (8, .l (.d (.int .i64 v8.2.1))), (9, .l (.d (.int .i64 v8.2.2)))], 156, [], [(2, [.d (.int .i64 a0.C), .d (.int .i64 a0.D), .d (.int .i64 a0.T), .d (.sl (a0.Secs.map Sec.enc))]), (5, [.d (.int .i64 x3.Res), .d (.int .i64 x3.At), .d (.int .i64 x3.Len)]), (7, [.d (.int .i64 x6.Res), .d (.int .i64 x6.At), .d (.int .i64 x6.Len)])], []⟩) h (Weak.refl _) (fun _ nx8 hn8 v8 h => ?_)
      conv => whnf
      refine fkS h (fun h => ?_) (fun h => ?_)
      · conv => whnf
        refine jnS (fun w9 => ⟨[(1, .l (.ptr 2 0)), (3, .l (.d (.int .i64 v2))), (4, .l (.ptr 5 0)), (5, .l (.d (.int .i64 v5))), (6, .l (.ptr 7 0)), (7, .l (.d (.int .i64 w9.1))), (8, .l (.d (.int .i64 w9.2))), (9, .l (.d (.int .i64 v8.2.2)))], 156, [], [(2, [.d (.int .i64 a0.C), .d (.int .i64 a0.D), .d (.int .i64 a0.T), .d (.sl (a0.Secs.map Sec.enc))]), (5, [.d (.int .i64 x3.Res), .d (.int .i64 x3.At), .d (.int .i64 x3.Len)]), (7, [.d (.int .i64 x6.Res), .d (.int .i64 x6.At), .d (.int .i64 x6.Len)])], []⟩) h (fun k9 hk9 h => ?_) (fun w9 h => ?_)
        · conv => whnf
          refine fkS h (fun h => ?_) (fun h => ?_)
          · conv => whnf
            exact jeS hk9 h (Weak.refl _)
          conv => whnf
          exact jeS hk9 h (Weak.refl _)
        conv => whnf
        exact leS hn8 h (Weak.refl _)
      conv => whnf
      refine jnS (fun w10 => ⟨[(1, .l (.ptr 2 0)), (3, .l (.d (.int .i64 v2))), (4, .l (.ptr 5 0)), (5, .l (.d (.int .i64 v5))), (155, .l (.d (.bool w10)))], 156, [], [(2, [.d (.int .i64 a0.C), .d (.int .i64 a0.D), .d (.int .i64 a0.T), .d (.sl (a0.Secs.map Sec.enc))]), (5, [.d (.int .i64 x3.Res), .d (.int .i64 x3.At), .d (.int .i64 x3.Len)])], []⟩) h (fun k10 hk10 h => ?_) (fun w10 h => ?_)
      · conv => whnf
        refine fkS h (fun h => ?_) (fun h => ?_)
        · conv => whnf
          refine fkS h (fun h => ?_) (fun h => ?_)
          · conv => whnf
            exact jeS hk10 h (Weak.refl _)
          conv => whnf
          exact jeS hk10 h (Weak.refl _)
        conv => whnf
        exact jeS hk10 h (Weak.refl _)
      conv => whnf
      refine fkS h (fun h => ?_) (fun h => ?_)
      · conv => whnf
        exact rt (E := E_Bool) h rfl
      conv => whnf
      exact leS hn5 h (Weak.refl _)
    conv => whnf
    exact leS hn2 h (Weak.refl _)
  conv => whnf
  exact rt (E := E_Bool) h rfl

end Go.Proofs.Ytkhebjkplmidnaa
namespace Go.Proofs.Ytkhebjkplmidnaa
open Go Go.VC
noncomputable def ref05_All (a0 : List Task) : Option Bool :=
  lp (fun nx1 (v1 : Int × Int) => fk (decide (v1.2 < (a0.length : Int))) (jn (fun (w2 : Int) => nx1 (w2, (wr (v1.2 + (1 : Int))))) (fun k2 => ix a0 v1.2 fun x3 => bnd (ref05_Right x3) fun x4 => fk x4 (k2 (wr (v1.1 + (1 : Int)))) (k2 v1.1))) (fk (decide (v1.1 = (a0.length : Int))) (some (decide (v1.1 ≤ (8 : Int)))) (some false))) FU ((0 : Int), (0 : Int))
theorem ref05_All_w (a0 : List Task) (r : Bool) (h : ref05_All a0 = some r) : Go.VC.Spec Try.prog 22 [.d (.sl (a0.map Task.enc))] (fun y => y = E_Bool r) := by
  refine Go.VC.Spec.of_xc (args := [.d (.sl (a0.map Task.enc))]) (fn := Try.f22) tab ⟨[(0, [0]), (1, [0, 3]), (2, [0, 3, 4]), (3, [0, 3, 4, 8]), (4, [0, 3, 4]), (5, [0, 3, 4, 15]), (6, [0, 3, 4]), (7, [2])], [], [4], []⟩ 26 [.tmp 2] rfl rfl rfl rfl rfl rfl ?_
  conv => whnf
  refine lpS (fun v1 => ⟨[(0, .l (.d (.sl (a0.map Task.enc)))), (3, .l (.d (.int .i64 v1.1))), (4, .l (.d (.int .i64 v1.2)))], 26, [], [], []⟩) h (Weak.refl _) (fun _ nx1 hn1 v1 h => ?_)
  conv => whnf
  refine lenS a0 Task.enc rfl ?_
  conv => whnf
  refine fkS h (fun h => ?_) (fun h => ?_)
  · conv => whnf
    refine jnS (fun w2 => ⟨[(0, .l (.d (.sl (a0.map Task.enc)))), (3, .l (.d (.int .i64 w2))), (4, .l (.d (.int .i64 v1.2)))], 26, [], [], []⟩) h (fun k2 hk2 h => ?_) (fun w2 h => ?_)
    · conv => whnf
      refine ixS (enc := Task.enc) h rfl (fun _ => rfl) (fun x3 h => ?_)
      conv => whnf
      refine caS (E := E_Bool) h (ref05_Right_w x3) rfl (fun _ => rfl) (fun x4 h => ?_)
      conv => whnf
      refine fkS h (fun h => ?_) (fun h => ?_)
      · conv => whnf
        exact jeS hk2 h (Weak.refl _)
      conv => whnf
      refine jeX hk2 h ?_
      conv => whnf
      refine WkF.step (Weak.keepS _ [0, 3, 4]) ?_
      conv => whnf
      exact WkF.refl _
    conv => whnf
    exact leS hn1 h (Weak.refl _)
  conv => whnf
  refine lenS a0 Task.enc rfl ?_
  conv => whnf
  refine fkS h (fun h => ?_) (fun h => ?_)
  · conv => whnf
    exact rt (E := E_Bool) h rfl
  conv => whnf
  exact rt (E := E_Bool) h rfl

end Go.Proofs.Ytkhebjkplmidnaa
namespace Go.Proofs.Ytkhebjkplmidnaa
open Go Go.VC
noncomputable def task_own (a0 : Task) : Option Bool :=
  fk (decide (a0.C ≥ (1 : Int))) (fk (decide (a0.C ≤ a0.D)) (fk (decide (a0.D ≤ a0.T)) (fk (decide (a0.T ≤ (200 : Int))) (some (decide ((a0.Secs.length : Int) ≤ (4 : Int)))) (some false)) (some false)) (some false)) (some false)
theorem task_own_w (a0 : Task) (r : Bool) (h : task_own a0 = some r) : Go.VC.Spec Try.prog 64 [.agg (Task.enc a0)] (fun y => y = E_Bool r) := by
  refine Go.VC.Spec.of_xc (args := [.agg (Task.enc a0)]) (fn := Try.f64) tab ⟨[(0, [1]), (1, [2])], [], [], []⟩ 31 [.tmp 2] rfl rfl rfl rfl rfl rfl ?_
  conv => whnf
  refine fkS h (fun h => ?_) (fun h => ?_)
  · conv => whnf
    refine fkS h (fun h => ?_) (fun h => ?_)
    · conv => whnf
      refine fkS h (fun h => ?_) (fun h => ?_)
      · conv => whnf
        refine fkS h (fun h => ?_) (fun h => ?_)
        · conv => whnf
          refine lenS a0.Secs Sec.enc rfl ?_
          conv => whnf
          exact rt (E := E_Bool) h rfl
        conv => whnf
        exact rt (E := E_Bool) h rfl
      conv => whnf
      exact rt (E := E_Bool) h rfl
    conv => whnf
    exact rt (E := E_Bool) h rfl
  conv => whnf
  exact rt (E := E_Bool) h rfl

end Go.Proofs.Ytkhebjkplmidnaa
namespace Go.Proofs.Ytkhebjkplmidnaa
open Go Go.VC
noncomputable def task_may (a0 : Task) (a1 : Sec) : Option Bool :=
  fk (decide (a1.Res ≥ (0 : Int))) (fk (decide (a1.Res < (4 : Int))) (fk (decide (a1.At ≥ (0 : Int))) (fk (decide (a1.At < a0.C)) (fk (decide (a1.Len ≥ (1 : Int))) (some (decide (a1.Len ≤ (wr (a0.C - a1.At))))) (some false)) (some false)) (some false)) (some false)) (some false)
theorem task_may_w (a0 : Task) (a1 : Sec) (r : Bool) (h : task_may a0 a1 = some r) : Go.VC.Spec Try.prog 65 [.agg (Task.enc a0), .agg (Sec.enc a1)] (fun y => y = E_Bool r) := by
  refine Go.VC.Spec.of_xc (args := [.agg (Task.enc a0), .agg (Sec.enc a1)]) (fn := Try.f65) tab ⟨[(0, [2, 3]), (1, [4])], [], [], []⟩ 40 [.tmp 4] rfl rfl rfl rfl rfl rfl ?_
  conv => whnf
  refine fkS h (fun h => ?_) (fun h => ?_)
  · conv => whnf
    refine fkS h (fun h => ?_) (fun h => ?_)
    · conv => whnf
      refine fkS h (fun h => ?_) (fun h => ?_)
      · conv => whnf
        refine fkS h (fun h => ?_) (fun h => ?_)
        · conv => whnf
          refine fkS h (fun h => ?_) (fun h => ?_)
          · conv => whnf
            exact rt (E := E_Bool) h rfl
          conv => whnf
          exact rt (E := E_Bool) h rfl
        conv => whnf
        exact rt (E := E_Bool) h rfl
      conv => whnf
      exact rt (E := E_Bool) h rfl
    conv => whnf
    exact rt (E := E_Bool) h rfl
  conv => whnf
  exact rt (E := E_Bool) h rfl

end Go.Proofs.Ytkhebjkplmidnaa
namespace Go.Proofs.Ytkhebjkplmidnaa
open Go Go.VC
noncomputable def task_fits (a0 : Sec) (a1 : Sec) : Option Bool :=
  fk (decide (a1.At ≥ (wr (a0.At + a0.Len)))) (some true) (fk (decide (a1.At < a0.At)) (some false) (fk (decide ((wr (a1.At + a1.Len)) ≤ (wr (a0.At + a0.Len)))) (some (!decide (a0.Res = a1.Res))) (some false)))
theorem task_fits_w (a0 : Sec) (a1 : Sec) (r : Bool) (h : task_fits a0 a1 = some r) : Go.VC.Spec Try.prog 66 [.agg (Sec.enc a0), .agg (Sec.enc a1)] (fun y => y = E_Bool r) := by
  refine Go.VC.Spec.of_xc (args := [.agg (Sec.enc a0), .agg (Sec.enc a1)]) (fn := Try.f66) tab ⟨[(0, [2, 3]), (1, [2, 3, 5]), (2, [4]), (3, [2, 3, 14]), (4, [4]), (5, [4])], [], [], []⟩ 38 [.tmp 4] rfl rfl rfl rfl rfl rfl ?_
  conv => whnf
  refine fkS h (fun h => ?_) (fun h => ?_)
  · conv => whnf
    exact rt (E := E_Bool) h rfl
  conv => whnf
  refine fkS h (fun h => ?_) (fun h => ?_)
  · conv => whnf
    exact rt (E := E_Bool) h rfl
  conv => whnf
  refine fkS h (fun h => ?_) (fun h => ?_)
  · conv => whnf
    exact rt (E := E_Bool) h rfl
  conv => whnf
  exact rt (E := E_Bool) h rfl

end Go.Proofs.Ytkhebjkplmidnaa
namespace Go.Proofs.Ytkhebjkplmidnaa
open Go Go.VC
noncomputable def task_Right (a0 : Task) : Option Bool :=
  bnd (task_own a0) fun x1 => fk (!x1) (some false) (lp (fun nx2 (v2 : Int) => fk (decide (v2 < (a0.Secs.length : Int))) (ix a0.Secs v2 fun x3 => bnd (task_may a0 x3) fun x4 => fk (!x4) (some false) (ck (decide ((0 : Int) ≤ (0 : Int)) && decide ((0 : Int) ≤ v2) && decide (v2 ≤ (a0.Secs.length : Int))) (lp (fun nx5 (v5 : Int) => fk (decide (v5 < (((a0.Secs.take v2.toNat).drop (0 : Int).toNat).length : Int))) (ix ((a0.Secs.take v2.toNat).drop (0 : Int).toNat) v5 fun x6 => bnd (task_fits x6 x3) fun x7 => fk x7 (nx5 (wr (v5 + (1 : Int)))) (some (decide ((0 : Int) > (0 : Int))))) (nx2 (wr (v2 + (1 : Int))))) FU (0 : Int)))) (some (decide (a0.C > (0 : Int))))) FU (0 : Int))
theorem task_Right_w (a0 : Task) (r : Bool) (h : task_Right a0 = some r) : Go.VC.Spec Try.prog 59 [.agg (Task.enc a0)] (fun y => y = E_Bool r) := by
  refine Go.VC.Spec.of_xc (args := [.agg (Task.enc a0)]) (fn := Try.f59) tab ⟨[(0, [1]), (1, [1, 9]), (2, [2]), (3, [1, 11, 12, 13]), (4, [1, 11, 12, 13, 14]), (5, [1, 3, 4, 11, 12, 13]), (6, [1, 3, 4, 11, 12, 13, 21]), (7, [2]), (8, [1, 4, 11, 12, 13, 25, 26, 27]), (9, [1, 4, 11, 12, 13, 25, 26, 27, 28]), (10, [1, 4, 6, 11, 12, 13, 25, 26, 27]), (11, [1, 4, 11, 12, 13, 25, 26, 27, 33]), (12, [1]), (13, [1, 4, 11, 12, 13, 25, 26, 27]), (14, [1, 11, 12, 13]), (15, [2])], [], [], []⟩ 40 [.tmp 2] rfl rfl rfl rfl rfl rfl ?_
  conv => whnf
  refine caS (E := E_Bool) h (task_own_w a0) rfl (fun _ => rfl) (fun x1 h => ?_)
  conv => whnf
  refine fkS h (fun h => ?_) (fun h => ?_)
  · conv => whnf
    exact rt (E := E_Bool) h rfl
  conv => whnf
  refine lenS a0.Secs Sec.enc rfl ?_
  conv => whnf
  refine lpS (fun v2 => ⟨[(1, .l (.ptr 2 0)), (11, .l (.d (.sl (a0.Secs.map Sec.enc)))), (12, .l (.d (.int .i64 (a0.Secs.length : Int)))), (13, .l (.d (.int .i64 v2)))], 40, [], [(2, [.d (.int .i64 a0.C), .d (.int .i64 a0.D), .d (.int .i64 a0.T), .d (.sl (a0.Secs.map Sec.enc))])], []⟩) h (Weak.refl _) (fun _ nx2 hn2 v2 h => ?_)
  conv => whnf
  refine fkS h (fun h => ?_) (fun h => ?_)
  · conv => whnf
    refine ixS (enc := Sec.enc) h rfl (fun _ => rfl) (fun x3 h => ?_)
    conv => whnf
    refine caS (E := E_Bool) h (task_may_w a0 x3) rfl (fun _ => rfl) (fun x4 h => ?_)
    conv => whnf
    refine fkS h (fun h => ?_) (fun h => ?_)
    · conv => whnf
      exact rt (E := E_Bool) h rfl
    conv => whnf
    refine slS (enc := Sec.enc) h rfl rfl (.inl rfl) (fun _ => rfl) (fun h => ?_)
    conv => whnf
    refine lenS ((a0.Secs.take v2.toNat).drop (0 : Int).toNat) Sec.enc rfl ?_
    conv => whnf
    refine lpS (fun v5 => ⟨[(1, .l (.ptr 2 0)), (4, .l (.ptr 5 0)), (11, .l (.d (.sl (a0.Secs.map Sec.enc)))), (12, .l (.d (.int .i64 (a0.Secs.length : Int)))), (13, .l (.d (.int .i64 v2))), (25, .l (.d (.sl (((a0.Secs.take v2.toNat).drop (0 : Int).toNat).map Sec.enc)))), (26, .l (.d (.int .i64 (((a0.Secs.take v2.toNat).drop (0 : Int).toNat).length : Int)))), (27, .l (.d (.int .i64 v5)))], 40, [], [(2, [.d (.int .i64 a0.C), .d (.int .i64 a0.D), .d (.int .i64 a0.T), .d (.sl (a0.Secs.map Sec.enc))]), (5, [.d (.int .i64 x3.Res), .d (.int .i64 x3.At), .d (.int .i64 x3.Len)])], []⟩) h (Weak.refl _) (fun _ nx5 hn5 v5 h => ?_)
    conv => whnf
    refine fkS h (fun h => ?_) (fun h => ?_)
    · conv => whnf
      refine ixS (enc := Sec.enc) h rfl (fun _ => rfl) (fun x6 h => ?_)
      conv => whnf
      refine caS (E := E_Bool) h (task_fits_w x6 x3) rfl (fun _ => rfl) (fun x7 h => ?_)
      conv => whnf
      refine fkS h (fun h => ?_) (fun h => ?_)
      · conv => whnf
        exact leS hn5 h (Weak.refl _)
      conv => whnf
      exact rt (E := E_Bool) h rfl
    conv => whnf
    exact leS hn2 h (Weak.refl _)
  conv => whnf
  exact rt (E := E_Bool) h rfl

end Go.Proofs.Ytkhebjkplmidnaa
namespace Go.Proofs.Ytkhebjkplmidnaa
open Go Go.VC
noncomputable def task_All (a0 : List Task) : Option Bool :=
  lp (fun nx1 (v1 : Int) => fk (decide (v1 < (a0.length : Int))) (ix a0 v1 fun x2 => bnd (task_Right x2) fun x3 => fk (!x3) (some false) (nx1 (wr (v1 + (1 : Int))))) (some (decide ((a0.length : Int) ≤ (8 : Int))))) FU (0 : Int)
theorem task_All_w (a0 : List Task) (r : Bool) (h : task_All a0 = some r) : Go.VC.Spec Try.prog 44 [.d (.sl (a0.map Task.enc))] (fun y => y = E_Bool r) := by
  refine Go.VC.Spec.of_xc (args := [.d (.sl (a0.map Task.enc))]) (fn := Try.f44) tab ⟨[(0, [0]), (1, [0, 5, 6, 7]), (2, [0, 5, 6, 7, 8]), (3, [0, 4, 5, 6, 7]), (4, [0, 5, 6, 7, 13]), (5, [2]), (6, [0, 5, 6, 7]), (7, [2])], [], [], []⟩ 18 [.tmp 2] rfl rfl rfl rfl rfl rfl ?_
  conv => whnf
  refine lenS a0 Task.enc rfl ?_
  conv => whnf
  refine lpS (fun v1 => ⟨[(0, .l (.d (.sl (a0.map Task.enc)))), (5, .l (.d (.sl (a0.map Task.enc)))), (6, .l (.d (.int .i64 (a0.length : Int)))), (7, .l (.d (.int .i64 v1)))], 18, [], [], []⟩) h (Weak.refl _) (fun _ nx1 hn1 v1 h => ?_)
  conv => whnf
  refine fkS h (fun h => ?_) (fun h => ?_)
  · conv => whnf
    refine ixS (enc := Task.enc) h rfl (fun _ => rfl) (fun x2 h => ?_)
    conv => whnf
    refine caS (E := E_Bool) h (task_Right_w x2) rfl (fun _ => rfl) (fun x3 h => ?_)
    conv => whnf
    refine fkS h (fun h => ?_) (fun h => ?_)
    · conv => whnf
      exact rt (E := E_Bool) h rfl
    conv => whnf
    exact leS hn1 h (Weak.refl _)
  conv => whnf
  refine lenS a0 Task.enc rfl ?_
  conv => whnf
  exact rt (E := E_Bool) h rfl

end Go.Proofs.Ytkhebjkplmidnaa
namespace Go.Proofs.Ytkhebjkplmidnaa
open Go Go.VC
noncomputable def police_Right (a0 : List Task) (a1 : List Int) : Option Bool :=
  jn (fun (w1 : Bool) => fk w1 (some false) (lp (fun nx3 (v3 : Int) => fk (decide (v3 < (a1.length : Int))) (ix a1 v3 fun x4 => jn (fun (w5 : Bool) => fk w5 (some false) (nx3 (wr (v3 + (1 : Int))))) (fun k5 => fk (decide (x4 < (-1 : Int))) (k5 true) (k5 (decide (x4 > (4611686018427387903 : Int)))))) (some true)) FU (0 : Int))) (fun k1 => bnd (task_All a0) fun x2 => fk (!x2) (k1 true) (k1 (!decide ((a1.length : Int) = (a0.length : Int)))))
theorem police_Right_w (a0 : List Task) (a1 : List Int) (r : Bool) (h : police_Right a0 a1 = some r) : Go.VC.Spec Try.prog 18 [.d (.sl (a0.map Task.enc)), .d (.sl (a1.map (eI .i64)))] (fun y => y = E_Bool r) := by
  refine Go.VC.Spec.of_xc (args := [.d (.sl (a0.map Task.enc)), .d (.sl (a1.map (eI .i64)))]) (fn := Try.f18) tab ⟨[(0, [0, 1]), (1, [1, 16]), (2, [4]), (3, [17, 18, 19]), (4, [17, 18, 19, 20]), (5, [6, 17, 18, 19]), (6, [17, 18, 19, 28]), (7, [4]), (8, [17, 18, 19]), (9, [4])], [], [100016, 100028], []⟩ 30 [.tmp 4] rfl rfl rfl rfl rfl rfl ?_
  conv => whnf
  refine jnS (fun w1 => ⟨[(1, .l (.d (.sl (a1.map (eI .i64))))), (16, .l (.d (.bool w1)))], 30, [], [], []⟩) h (fun k1 hk1 h => ?_) (fun w1 h => ?_)
  · conv => whnf
    refine caS (E := E_Bool) h (task_All_w a0) rfl (fun _ => rfl) (fun x2 h => ?_)
    conv => whnf
    refine fkS h (fun h => ?_) (fun h => ?_)
    · conv => whnf
      exact jeS hk1 h (Weak.refl _)
    conv => whnf
    refine lenS a1 (eI .i64) rfl ?_
    conv => whnf
    refine lenS a0 Task.enc rfl ?_
    conv => whnf
    exact jeS hk1 h (Weak.refl _)
  conv => whnf
  refine fkS h (fun h => ?_) (fun h => ?_)
  · conv => whnf
    exact rt (E := E_Bool) h rfl
  conv => whnf
  refine lenS a1 (eI .i64) rfl ?_
  conv => whnf
  refine lpS (fun v3 => ⟨[(17, .l (.d (.sl (a1.map (eI .i64))))), (18, .l (.d (.int .i64 (a1.length : Int)))), (19, .l (.d (.int .i64 v3)))], 30, [], [], []⟩) h (Weak.refl _) (fun _ nx3 hn3 v3 h => ?_)
  conv => whnf
  refine fkS h (fun h => ?_) (fun h => ?_)
  · conv => whnf
    refine ixS (enc := (eI .i64)) h rfl (fun _ => rfl) (fun x4 h => ?_)
    conv => whnf
    refine jnS (fun w5 => ⟨[(17, .l (.d (.sl (a1.map (eI .i64))))), (18, .l (.d (.int .i64 (a1.length : Int)))), (19, .l (.d (.int .i64 v3))), (28, .l (.d (.bool w5)))], 30, [], [], []⟩) h (fun k5 hk5 h => ?_) (fun w5 h => ?_)
    · conv => whnf
      refine fkS h (fun h => ?_) (fun h => ?_)
      · conv => whnf
        exact jeS hk5 h (Weak.refl _)
      conv => whnf
      exact jeS hk5 h (Weak.refl _)
    conv => whnf
    refine fkS h (fun h => ?_) (fun h => ?_)
    · conv => whnf
      exact rt (E := E_Bool) h rfl
    conv => whnf
    exact leS hn3 h (Weak.refl _)
  conv => whnf
  exact rt (E := E_Bool) h rfl

end Go.Proofs.Ytkhebjkplmidnaa
namespace Go.Proofs.Ytkhebjkplmidnaa
open Go Go.VC
noncomputable def police_May (a0 : List Task) (a1 : List Int) (a2 : Int) (a3 : Int) : Option Int :=
  jn (fun (w1 : Bool) => fk w1 (some (1 : Int)) (jn (fun (w3 : Bool) => fk w3 (some (6 : Int)) (some (0 : Int))) (fun k3 => ix a1 a2 fun x4 => fk (!decide (x4 = (-1 : Int))) (ix a1 a2 fun x5 => ix a0 a2 fun x6 => k3 (decide (a3 < (wr (x5 + x6.T))))) (k3 false)))) (fun k1 => bnd (police_Right a0 a1) fun x2 => fk (!x2) (k1 true) (fk (decide (a2 < (0 : Int))) (k1 true) (fk (decide (a2 ≥ (a0.length : Int))) (k1 true) (fk (decide (a3 < (0 : Int))) (k1 true) (k1 (decide (a3 > (4611686018427387703 : Int))))))))
theorem police_May_w (a0 : List Task) (a1 : List Int) (a2 : Int) (a3 : Int) (r : Int) (h : police_May a0 a1 a2 a3 = some r) : Go.VC.Spec Try.prog 20 [.d (.sl (a0.map Task.enc)), .d (.sl (a1.map (eI .i64))), .d (.int .i64 a2), .d (.int .i64 a3)] (fun y => y = E_Int r) := by
  refine Go.VC.Spec.of_xc (args := [.d (.sl (a0.map Task.enc)), .d (.sl (a1.map (eI .i64))), .d (.int .i64 a2), .d (.int .i64 a3)]) (fn := Try.f20) tab ⟨[(0, [0, 1, 2, 3]), (1, [0, 1, 2, 3, 9]), (2, [8]), (3, [32]), (4, [8]), (5, [8])], [], [100032, 100009], []⟩ 52 [.tmp 8] rfl rfl rfl rfl rfl rfl ?_
  conv => whnf
  refine jnS (fun w1 => ⟨[(0, .l (.d (.sl (a0.map Task.enc)))), (1, .l (.d (.sl (a1.map (eI .i64))))), (2, .l (.d (.int .i64 a2))), (3, .l (.d (.int .i64 a3))), (9, .l (.d (.bool w1)))], 52, [], [], []⟩) h (fun k1 hk1 h => ?_) (fun w1 h => ?_)
  · conv => whnf
    refine caS (E := E_Bool) h (police_Right_w a0 a1) rfl (fun _ => rfl) (fun x2 h => ?_)
    conv => whnf
    refine fkS h (fun h => ?_) (fun h => ?_)
    · conv => whnf
      exact jeS hk1 h (Weak.refl _)
    conv => whnf
    refine fkS h (fun h => ?_) (fun h => ?_)
    · conv => whnf
      exact jeS hk1 h (Weak.refl _)
    conv => whnf
    refine lenS a0 Task.enc rfl ?_
    conv => whnf
    refine fkS h (fun h => ?_) (fun h => ?_)
    · conv => whnf
      exact jeS hk1 h (Weak.refl _)
    conv => whnf
    refine fkS h (fun h => ?_) (fun h => ?_)
    · conv => whnf
      exact jeS hk1 h (Weak.refl _)
    conv => whnf
    exact jeS hk1 h (Weak.refl _)
  conv => whnf
  refine fkS h (fun h => ?_) (fun h => ?_)
  · conv => whnf
    exact rt (E := E_Int) h rfl
  conv => whnf
  refine jnS (fun w3 => ⟨[(32, .l (.d (.bool w3)))], 52, [], [], []⟩) h (fun k3 hk3 h => ?_) (fun w3 h => ?_)
  · conv => whnf
    refine ⟨19, ?_⟩
    conv => whnf
    refine ixS (enc := (eI .i64)) h rfl (fun _ => rfl) (fun x4 h => ?_)
    conv => whnf
    refine fkS h (fun h => ?_) (fun h => ?_)
    · conv => whnf
      refine ixS (enc := (eI .i64)) h rfl (fun _ => rfl) (fun x5 h => ?_)
      conv => whnf
      refine ixS (enc := Task.enc) h rfl (fun _ => rfl) (fun x6 h => ?_)
      conv => whnf
      refine drS (by kernel_rfl) ?_
      conv => whnf
      exact jeS hk3 h (Weak.refl _)
    conv => whnf
    refine drS (by kernel_rfl) ?_
    conv => whnf
    exact jeS hk3 h (Weak.refl _)
  conv => whnf
  refine fkS h (fun h => ?_) (fun h => ?_)
  · conv => whnf
    exact rt (E := E_Int) h rfl
  conv => whnf
  exact rt (E := E_Int) h rfl

end Go.Proofs.Ytkhebjkplmidnaa
namespace Go.Proofs.Ytkhebjkplmidnaa
open Go Go.VC
noncomputable def police_Note (a0 : List Task) (a1 : List Int) (a2 : Int) (a3 : Int) : Option ((List Int) × Int) :=
  bnd (police_May a0 a1 a2 a3) fun x1 => fk (!decide (x1 = (0 : Int))) (some (a1, x1)) (ck (decide ((([] : List Int).length + a1.length) * 8 ≤ 140737488355328)) (ck (decide (0 ≤ a2) && decide (a2 < ((([] : List Int) ++ a1).length : Int))) (ox (([] : List Int) ++ a1) a2.toNat fun x2 => some ((([] : List Int) ++ a1).set a2.toNat a3, (0 : Int)))))
theorem police_Note_w (a0 : List Task) (a1 : List Int) (a2 : Int) (a3 : Int) (r : (List Int) × Int) (h : police_Note a0 a1 a2 a3 = some r) : Go.VC.Spec Try.prog 17 [.d (.sl (a0.map Task.enc)), .d (.sl (a1.map (eI .i64))), .d (.int .i64 a2), .d (.int .i64 a3)] (fun y => y = E_ListInt_Int r) := by
  refine Go.VC.Spec.of_xc (args := [.d (.sl (a0.map Task.enc)), .d (.sl (a1.map (eI .i64))), .d (.int .i64 a2), .d (.int .i64 a3)]) (fn := Try.f17) tab ⟨[(0, [0, 1, 2, 3]), (1, [1, 2, 3, 10]), (2, [1, 2, 3, 10, 18]), (3, [8, 9]), (4, [2, 3, 11]), (5, [11]), (6, [8, 9])], [], [], []⟩ 29 [.tmp 8, .tmp 9] rfl rfl rfl rfl rfl rfl ?_
  conv => whnf
  refine caS (E := E_Int) h (police_May_w a0 a1 a2 a3) rfl (fun _ => rfl) (fun x1 h => ?_)
  conv => whnf
  refine fkS h (fun h => ?_) (fun h => ?_)
  · conv => whnf
    exact rt (E := E_ListInt_Int) h rfl
  conv => whnf
  refine liS ([] : List Int) (eI .i64) rfl rfl ?_
  conv => whnf
  refine apS (enc := (eI .i64)) (l1 := ([] : List Int)) (l2 := a1) h rfl rfl (fun _ => rfl) (fun h => ?_)
  conv => whnf
  refine ioS (enc := (eI .i64)) h rfl (fun h => ?_)
  conv => whnf
  refine seS (enc := (eI .i64)) h rfl (fun x2 => a3) (fun _ => rfl) (fun x2 h => ?_)
  conv => whnf
  exact rt (E := E_ListInt_Int) h rfl

end Go.Proofs.Ytkhebjkplmidnaa
namespace Go.Proofs.Ytkhebjkplmidnaa
open Go Go.VC
noncomputable def police_Filter (a0 : List Task) (a1 : List PoliceAsk) : Option (List Bool) :=
  bnd (task_All a0) fun x1 => fk (!x1) (some []) (lp (fun nx2 (v2 : (List Int) × Int) => fk (decide (v2.2 < (a0.length : Int))) (ck (decide ((v2.1.length + ([(-1 : Int)] : List Int).length) * 8 ≤ 140737488355328)) (nx2 (v2.1 ++ ([(-1 : Int)] : List Int), (wr (v2.2 + (1 : Int)))))) (lp (fun nx3 (v3 : (List Int) × (List Bool) × Int) => fk (decide (v3.2.2 < (a1.length : Int))) (ix a1 v3.2.2 fun x4 => bnd (police_Note a0 v3.1 x4.Task x4.At) fun x5 => ck (decide ((v3.2.1.length + ([(decide (x5.2 = (0 : Int)))] : List Bool).length) * 1 ≤ 140737488355328)) (nx3 (x5.1, v3.2.1 ++ ([(decide (x5.2 = (0 : Int)))] : List Bool), (wr (v3.2.2 + (1 : Int)))))) (some v3.2.1)) FU (v2.1, [], (0 : Int)))) FU ([], (0 : Int)))
theorem police_Filter_w (a0 : List Task) (a1 : List PoliceAsk) (r : List Bool) (h : police_Filter a0 a1 = some r) : Go.VC.Spec Try.prog 21 [.d (.sl (a0.map Task.enc)), .d (.sl (a1.map PoliceAsk.enc))] (fun y => y = E_ListBool r) := by
  refine Go.VC.Spec.of_xc (args := [.d (.sl (a0.map Task.enc)), .d (.sl (a1.map PoliceAsk.enc))]) (fn := Try.f21) tab ⟨[(0, [0, 1]), (1, [0, 1, 12]), (2, [4]), (3, [0, 1, 5]), (4, [1, 5, 17, 18]), (5, [1, 5, 17, 18, 19]), (6, [1, 5, 17, 18]), (7, [1, 5, 17, 18]), (8, [1, 6]), (9, [1, 6, 7]), (10, [6, 7, 32, 33, 34]), (11, [6, 7, 32, 33, 34, 35]), (12, [6, 7, 9, 32, 33, 34]), (13, [6, 7, 32, 33, 34]), (14, [6, 7, 32, 33, 34]), (15, [4])], [], [], []⟩ 46 [.tmp 4] rfl rfl rfl rfl rfl rfl ?_
  conv => whnf
  refine caS (E := E_Bool) h (task_All_w a0) rfl (fun _ => rfl) (fun x1 h => ?_)
  conv => whnf
  refine fkS h (fun h => ?_) (fun h => ?_)
  · conv => whnf
    exact rt (E := E_ListBool) h rfl
  conv => whnf
  refine lenS a0 Task.enc rfl ?_
  conv => whnf
  refine lpS (fun v2 => ⟨[(1, .l (.d (.sl (a1.map PoliceAsk.enc)))), (5, .l (.ptr 16 0)), (17, .l (.d (.int .i64 (a0.length : Int)))), (18, .l (.d (.int .i64 v2.2)))], 46, [], [(16, [.d (.sl (a0.map Task.enc)), .own 51601])], [(51601, 3, 1, v2.1.map (eI .i64))]⟩) h (Weak.trans (Weak.nilBO _ 16 1 51601 3 1 _ rfl rfl) (Weak.refl _)) (fun _ nx2 hn2 v2 h => ?_)
  conv => whnf
  refine fkS h (fun h => ?_) (fun h => ?_)
  · conv => whnf
    refine liS ([(-1 : Int)] : List Int) (eI .i64) rfl rfl ?_
    conv => whnf
    refine apS (enc := (eI .i64)) (l1 := v2.1) (l2 := ([(-1 : Int)] : List Int)) h rfl rfl (fun _ => rfl) (fun h => ?_)
    conv => whnf
    refine leX hn2 h ?_
    conv => whnf
    refine WkF.step (Weak.rekey _ 27 51601 rfl) ?_
    conv => whnf
    exact WkF.refl _
  conv => whnf
  refine lenS a1 PoliceAsk.enc rfl ?_
  conv => whnf
  refine lpS (fun v3 => ⟨[(6, .l (.mfn 45 16)), (7, .l (.own 8)), (32, .l (.d (.sl (a1.map PoliceAsk.enc)))), (33, .l (.d (.int .i64 (a1.length : Int)))), (34, .l (.d (.int .i64 v3.2.2)))], 46, [], [(16, [.d (.sl (a0.map Task.enc)), .d (.sl (v3.1.map (eI .i64)))])], [(8, 4, 1, v3.2.1.map eB)]⟩) h (Weak.trans (Weak.nilO _ 7 8 4 1 rfl) (Weak.trans (Weak.ice _ 51601) (Weak.refl _))) (fun _ nx3 hn3 v3 h => ?_)
  conv => whnf
  refine fkS h (fun h => ?_) (fun h => ?_)
  · conv => whnf
    refine ixS (enc := PoliceAsk.enc) h rfl (fun _ => rfl) (fun x4 h => ?_)
    conv => whnf
    refine inS (fn := Try.f45) tab ⟨[(0, [0, 3]), (1, [0, 5, 6]), (2, [6]), (3, [4])], [(0, [51601])], [], []⟩ 29 [.tmp 4] rfl rfl rfl rfl rfl rfl ?_
    conv => whnf
    refine ⟨17, ?_⟩
    conv => whnf
    refine dcS (E := E_ListInt_Int) h (police_Note_w a0 v3.1 x4.Task x4.At) rfl (fun x5 h => ?_)
    conv => whnf
    refine drS (by kernel_rfl) ?_
    conv => whnf
    refine liS ([(decide (x5.2 = (0 : Int)))] : List Bool) eB rfl rfl ?_
    conv => whnf
    refine apS (enc := eB) (l1 := v3.2.1) (l2 := ([(decide (x5.2 = (0 : Int)))] : List Bool)) h rfl rfl (fun _ => rfl) (fun h => ?_)
    conv => whnf
    exact leS hn3 h (Weak.refl _)
  conv => whnf
  exact rt (E := E_ListBool) h rfl

end Go.Proofs.Ytkhebjkplmidnaa
namespace Go.Proofs.Ytkhebjkplmidnaa
open Go Go.VC
noncomputable def law16_knows  : Option Bool :=
  bnd (police_Filter ([⟨(1 : Int), (5 : Int), (5 : Int), []⟩] : List Task) ([⟨(0 : Int), (0 : Int)⟩, ⟨(0 : Int), (4 : Int)⟩, ⟨(0 : Int), (5 : Int)⟩, ⟨(0 : Int), (9 : Int)⟩, ⟨(0 : Int), (11 : Int)⟩] : List PoliceAsk)) fun x1 => bnd (police_Note ([⟨(1 : Int), (5 : Int), (5 : Int), []⟩] : List Task) ([(-1 : Int)] : List Int) (0 : Int) (7 : Int)) fun x2 => fk (decide ((x1.length : Int) = (5 : Int))) (ix x1 (0 : Int) fun x3 => fk x3 (ix x1 (1 : Int) fun x4 => fk (!x4) (ix x1 (2 : Int) fun x5 => fk x5 (ix x1 (3 : Int) fun x6 => fk (!x6) (ix x1 (4 : Int) fun x7 => fk x7 (fk (decide ((x2.1.length : Int) = (1 : Int))) (ix x2.1 (0 : Int) fun x8 => fk (decide (x8 = (7 : Int))) (fk (decide (x2.2 = (0 : Int))) (bnd (police_May ([⟨(1 : Int), (5 : Int), (5 : Int), []⟩] : List Task) x2.1 (0 : Int) (11 : Int)) fun x9 => fk (decide (x9 = (6 : Int))) (bnd (police_May ([⟨(1 : Int), (5 : Int), (5 : Int), []⟩] : List Task) x2.1 (0 : Int) (12 : Int)) fun x10 => fk (decide (x10 = (0 : Int))) (bnd (police_Right ([⟨(1 : Int), (5 : Int), (5 : Int), []⟩] : List Task) x2.1) fun x11 => some x11) (some false)) (some false)) (some false)) (some false)) (some false)) (some false)) (some false)) (some false)) (some false)) (some false)) (some false)
theorem law16_knows_w  (r : Bool) (h : law16_knows = some r) : Go.VC.Spec Try.prog 15 [] (fun y => y = E_Bool r) := by
  refine Go.VC.Spec.of_xc (args := []) (fn := Try.f15) tab ⟨[(0, []), (1, [1]), (2, [1, 2]), (3, [1, 2, 3, 4]), (4, [0])], [], [], []⟩ 83 [.tmp 0] rfl rfl rfl rfl rfl rfl ?_
  conv => whnf
  refine liS ([⟨(1 : Int), (5 : Int), (5 : Int), []⟩] : List Task) Task.enc rfl rfl ?_
  conv => whnf
  refine liS ([⟨(0 : Int), (0 : Int)⟩, ⟨(0 : Int), (4 : Int)⟩, ⟨(0 : Int), (5 : Int)⟩, ⟨(0 : Int), (9 : Int)⟩, ⟨(0 : Int), (11 : Int)⟩] : List PoliceAsk) PoliceAsk.enc rfl rfl ?_
  conv => whnf
  refine iceS 2 ?_
  conv => whnf
  refine iceS 14 ?_
  conv => whnf
  refine ccS (E := E_ListBool) h (police_Filter_w ([⟨(1 : Int), (5 : Int), (5 : Int), []⟩] : List Task) ([⟨(0 : Int), (0 : Int)⟩, ⟨(0 : Int), (4 : Int)⟩, ⟨(0 : Int), (5 : Int)⟩, ⟨(0 : Int), (9 : Int)⟩, ⟨(0 : Int), (11 : Int)⟩] : List PoliceAsk)) rfl rfl (fun x1 h => ?_)
  conv => whnf
  refine liS ([(-1 : Int)] : List Int) (eI .i64) rfl rfl ?_
  conv => whnf
  refine iceS 18 ?_
  conv => whnf
  refine ccS (E := E_ListInt_Int) h (police_Note_w ([⟨(1 : Int), (5 : Int), (5 : Int), []⟩] : List Task) ([(-1 : Int)] : List Int) (0 : Int) (7 : Int)) rfl rfl (fun x2 h => ?_)
  conv => whnf
  refine lenS x1 eB rfl ?_
  conv => whnf
  refine fkS h (fun h => ?_) (fun h => ?_)
  · conv => whnf
    refine ixS (enc := eB) h rfl (fun _ => rfl) (fun x3 h => ?_)
    conv => whnf
    refine fkS h (fun h => ?_) (fun h => ?_)
    · conv => whnf
      refine ixS (enc := eB) h rfl (fun _ => rfl) (fun x4 h => ?_)
      conv => whnf
      refine fkS h (fun h => ?_) (fun h => ?_)
      · conv => whnf
        refine ixS (enc := eB) h rfl (fun _ => rfl) (fun x5 h => ?_)
        conv => whnf
        refine fkS h (fun h => ?_) (fun h => ?_)
        · conv => whnf
          refine ixS (enc := eB) h rfl (fun _ => rfl) (fun x6 h => ?_)
          conv => whnf
          refine fkS h (fun h => ?_) (fun h => ?_)
          · conv => whnf
            refine ixS (enc := eB) h rfl (fun _ => rfl) (fun x7 h => ?_)
            conv => whnf
            refine fkS h (fun h => ?_) (fun h => ?_)
            · conv => whnf
              refine lenS x2.1 (eI .i64) rfl ?_
              conv => whnf
              refine fkS h (fun h => ?_) (fun h => ?_)
              · conv => whnf
                refine ixS (enc := (eI .i64)) h rfl (fun _ => rfl) (fun x8 h => ?_)
                conv => whnf
                refine fkS h (fun h => ?_) (fun h => ?_)
                · conv => whnf
                  refine fkS h (fun h => ?_) (fun h => ?_)
                  · conv => whnf
                    refine caS (E := E_Int) h (police_May_w ([⟨(1 : Int), (5 : Int), (5 : Int), []⟩] : List Task) x2.1 (0 : Int) (11 : Int)) rfl (fun _ => rfl) (fun x9 h => ?_)
                    conv => whnf
                    refine fkS h (fun h => ?_) (fun h => ?_)
                    · conv => whnf
                      refine caS (E := E_Int) h (police_May_w ([⟨(1 : Int), (5 : Int), (5 : Int), []⟩] : List Task) x2.1 (0 : Int) (12 : Int)) rfl (fun _ => rfl) (fun x10 h => ?_)
                      conv => whnf
                      refine fkS h (fun h => ?_) (fun h => ?_)
                      · conv => whnf
                        refine caS (E := E_Bool) h (police_Right_w ([⟨(1 : Int), (5 : Int), (5 : Int), []⟩] : List Task) x2.1) rfl (fun _ => rfl) (fun x11 h => ?_)
                        conv => whnf
                        exact rt (E := E_Bool) h rfl
                      conv => whnf
                      exact rt (E := E_Bool) h rfl
                    conv => whnf
                    exact rt (E := E_Bool) h rfl
                  conv => whnf
                  exact rt (E := E_Bool) h rfl
                conv => whnf
                exact rt (E := E_Bool) h rfl
              conv => whnf
              exact rt (E := E_Bool) h rfl
            conv => whnf
            exact rt (E := E_Bool) h rfl
          conv => whnf
          exact rt (E := E_Bool) h rfl
        conv => whnf
        exact rt (E := E_Bool) h rfl
      conv => whnf
      exact rt (E := E_Bool) h rfl
    conv => whnf
    exact rt (E := E_Bool) h rfl
  conv => whnf
  exact rt (E := E_Bool) h rfl

end Go.Proofs.Ytkhebjkplmidnaa
namespace Go.Proofs.Ytkhebjkplmidnaa
open Go Go.VC
noncomputable def demand_Legal (a0 : List Task) (a1 : List (List Int)) : Option Bool :=
  jn (fun (w1 : Bool) => fk w1 (some false) (lp (fun nx3 (v3 : Int) => fk (decide (v3 < (a1.length : Int))) (ix a1 v3 fun x4 => fk (decide ((x4.length : Int) > (1000 : Int))) (some false) (lp (fun nx5 (v5 : Int) => fk (decide (v5 < (x4.length : Int))) (ix x4 v5 fun x6 => jn (fun (w7 : Bool) => fk w7 (some false) (nx5 (wr (v5 + (1 : Int))))) (fun k7 => fk (decide (x6 < (0 : Int))) (k7 true) (fk (decide (x6 > (4611686018427387903 : Int))) (k7 true) (fk (decide (v5 > (0 : Int))) (ix x4 (wr (v5 - (1 : Int))) fun x8 => ix a0 v3 fun x9 => k7 (decide ((wr (x6 - x8)) < x9.T))) (k7 false))))) (nx3 (wr (v3 + (1 : Int))))) FU (0 : Int))) (some true)) FU (0 : Int))) (fun k1 => bnd (task_All a0) fun x2 => fk (!x2) (k1 true) (k1 (!decide ((a1.length : Int) = (a0.length : Int)))))
theorem demand_Legal_w (a0 : List Task) (a1 : List (List Int)) (r : Bool) (h : demand_Legal a0 a1 = some r) : Go.VC.Spec Try.prog 25 [.d (.sl (a0.map Task.enc)), .d (.sl (a1.map (eL (eI .i64))))] (fun y => y = E_Bool r) := by
  refine Go.VC.Spec.of_xc (args := [.d (.sl (a0.map Task.enc)), .d (.sl (a1.map (eL (eI .i64))))]) (fn := Try.f25) tab ⟨[(0, [0, 1]), (1, [0, 1, 18]), (2, [4]), (3, [0, 19, 20, 21]), (4, [0, 19, 20, 21, 22]), (5, [0, 5, 6, 19, 20, 21]), (6, [0, 5, 6, 19, 20, 21, 28]), (7, [4]), (8, [0, 5, 6, 19, 20, 21, 29, 30, 31]), (9, [0, 5, 6, 19, 20, 21, 29, 30, 31, 32]), (10, [0, 5, 6, 7, 8, 19, 20, 21, 29, 30, 31]), (11, [0, 5, 6, 19, 20, 21, 29, 30, 31, 60]), (12, [4]), (13, [0, 5, 6, 19, 20, 21, 29, 30, 31]), (14, [0, 19, 20, 21]), (15, [4])], [], [100018, 100060], []⟩ 63 [.tmp 4] rfl rfl rfl rfl rfl rfl ?_
  conv => whnf
  refine jnS (fun w1 => ⟨[(0, .l (.d (.sl (a0.map Task.enc)))), (1, .l (.d (.sl (a1.map (eL (eI .i64)))))), (18, .l (.d (.bool w1)))], 63, [], [], []⟩) h (fun k1 hk1 h => ?_) (fun w1 h => ?_)
  · conv => whnf
    refine caS (E := E_Bool) h (task_All_w a0) rfl (fun _ => rfl) (fun x2 h => ?_)
    conv => whnf
    refine fkS h (fun h => ?_) (fun h => ?_)
    · conv => whnf
      exact jeS hk1 h (Weak.refl _)
    conv => whnf
    refine lenS a1 (eL (eI .i64)) rfl ?_
    conv => whnf
    refine lenS a0 Task.enc rfl ?_
    conv => whnf
    exact jeS hk1 h (Weak.refl _)
  conv => whnf
  refine fkS h (fun h => ?_) (fun h => ?_)
  · conv => whnf
    exact rt (E := E_Bool) h rfl
  conv => whnf
  refine lenS a1 (eL (eI .i64)) rfl ?_
  conv => whnf
  refine lpS (fun v3 => ⟨[(0, .l (.d (.sl (a0.map Task.enc)))), (19, .l (.d (.sl (a1.map (eL (eI .i64)))))), (20, .l (.d (.int .i64 (a1.length : Int)))), (21, .l (.d (.int .i64 v3)))], 63, [], [], []⟩) h (Weak.refl _) (fun _ nx3 hn3 v3 h => ?_)
  conv => whnf
  refine fkS h (fun h => ?_) (fun h => ?_)
  · conv => whnf
    refine ixS (enc := (eL (eI .i64))) h rfl (fun _ => rfl) (fun x4 h => ?_)
    conv => whnf
    refine lenS x4 (eI .i64) rfl ?_
    conv => whnf
    refine fkS h (fun h => ?_) (fun h => ?_)
    · conv => whnf
      exact rt (E := E_Bool) h rfl
    conv => whnf
    refine lenS x4 (eI .i64) rfl ?_
    conv => whnf
    refine lpS (fun v5 => ⟨[(0, .l (.d (.sl (a0.map Task.enc)))), (5, .l (.d (.int .i64 v3))), (6, .l (.d (.sl (x4.map (eI .i64))))), (19, .l (.d (.sl (a1.map (eL (eI .i64)))))), (20, .l (.d (.int .i64 (a1.length : Int)))), (21, .l (.d (.int .i64 v3))), (29, .l (.d (.sl (x4.map (eI .i64))))), (30, .l (.d (.int .i64 (x4.length : Int)))), (31, .l (.d (.int .i64 v5)))], 63, [], [], []⟩) h (Weak.refl _) (fun _ nx5 hn5 v5 h => ?_)
    conv => whnf
    refine fkS h (fun h => ?_) (fun h => ?_)
    · conv => whnf
      refine ixS (enc := (eI .i64)) h rfl (fun _ => rfl) (fun x6 h => ?_)
      conv => whnf
      refine jnS (fun w7 => ⟨[(0, .l (.d (.sl (a0.map Task.enc)))), (5, .l (.d (.int .i64 v3))), (6, .l (.d (.sl (x4.map (eI .i64))))), (19, .l (.d (.sl (a1.map (eL (eI .i64)))))), (20, .l (.d (.int .i64 (a1.length : Int)))), (21, .l (.d (.int .i64 v3))), (29, .l (.d (.sl (x4.map (eI .i64))))), (30, .l (.d (.int .i64 (x4.length : Int)))), (31, .l (.d (.int .i64 v5))), (60, .l (.d (.bool w7)))], 63, [], [], []⟩) h (fun k7 hk7 h => ?_) (fun w7 h => ?_)
      · conv => whnf
        refine ⟨25, ?_⟩
        conv => whnf
        refine fkS h (fun h => ?_) (fun h => ?_)
        · conv => whnf
          refine drS (by kernel_rfl) ?_
          conv => whnf
          exact jeS hk7 h (Weak.refl _)
        conv => whnf
        refine fkS h (fun h => ?_) (fun h => ?_)
        · conv => whnf
          refine drS (by kernel_rfl) ?_
          conv => whnf
          exact jeS hk7 h (Weak.refl _)
        conv => whnf
        refine fkS h (fun h => ?_) (fun h => ?_)
        · conv => whnf
          refine ixS (enc := (eI .i64)) h rfl (fun _ => rfl) (fun x8 h => ?_)
          conv => whnf
          refine ixS (enc := Task.enc) h rfl (fun _ => rfl) (fun x9 h => ?_)
          conv => whnf
          refine drS (by kernel_rfl) ?_
          conv => whnf
          exact jeS hk7 h (Weak.refl _)
        conv => whnf
        refine drS (by kernel_rfl) ?_
        conv => whnf
        exact jeS hk7 h (Weak.refl _)
      conv => whnf
      refine fkS h (fun h => ?_) (fun h => ?_)
      · conv => whnf
        exact rt (E := E_Bool) h rfl
      conv => whnf
      exact leS hn5 h (Weak.refl _)
    conv => whnf
    exact leS hn3 h (Weak.refl _)
  conv => whnf
  exact rt (E := E_Bool) h rfl

end Go.Proofs.Ytkhebjkplmidnaa
namespace Go.Proofs.Ytkhebjkplmidnaa
open Go Go.VC
noncomputable def law16_PolicePatterns (a0 : List Task) (a1 : List PoliceAsk) : Option Bool :=
  jn (fun (w1 : Bool) => fk w1 (bnd law16_knows fun x4 => some x4) (bnd (police_Filter a0 a1) fun x5 => fk (!decide ((x5.length : Int) = (a1.length : Int))) (some false) (fk (decide ((a0.length : Int) = (0 : Int))) (lp (fun nx134 (v134 : Int) => fk (decide (v134 < (a1.length : Int))) (jn (fun (w135 : Unit) => nx134 (wr (v134 + (1 : Int)))) (fun k135 => ix x5 v134 fun x136 => fk x136 (ix a1 v134 fun x137 => jn (fun (w138 : Bool) => fk w138 (some false) (none)) (fun k138 => fk (decide (x137.Task < (0 : Int))) (k138 true) (k138 (decide (x137.Task ≥ (a0.length : Int)))))) (k135 ()))) (bnd (demand_Legal a0 ([] : List (List Int))) fun x139 => fk x139 (bnd law16_knows fun x140 => some x140) (some false))) FU (0 : Int)) (fk (decide ((a0.length : Int) = (1 : Int))) (lp (fun nx125 (v125 : (List Int) × Int) => fk (decide (v125.2 < (a1.length : Int))) (jn (fun (w126 : List Int) => nx125 (w126, (wr (v125.2 + (1 : Int))))) (fun k126 => ix x5 v125.2 fun x127 => fk x127 (ix a1 v125.2 fun x128 => jn (fun (w129 : Bool) => fk w129 (some false) (fk (decide (x128.Task = (0 : Int))) (ix a1 v125.2 fun x131 => ck (decide ((v125.1.length + ([x131.At] : List Int).length) * 8 ≤ 140737488355328)) (k126 (v125.1 ++ ([x131.At] : List Int)))) (none))) (fun k129 => fk (decide (x128.Task < (0 : Int))) (k129 true) (k129 (decide (x128.Task ≥ (a0.length : Int)))))) (k126 v125.1))) (bnd (demand_Legal a0 ([v125.1] : List (List Int))) fun x132 => fk x132 (bnd law16_knows fun x133 => some x133) (some false))) FU ([], (0 : Int))) (fk (decide ((a0.length : Int) = (2 : Int))) (lp (fun nx114 (v114 : (List Int) × (List Int) × Int) => fk (decide (v114.2.2 < (a1.length : Int))) (jn (fun (w115 : (List Int) × (List Int)) => nx114 (w115.1, w115.2, (wr (v114.2.2 + (1 : Int))))) (fun k115 => ix x5 v114.2.2 fun x116 => fk x116 (ix a1 v114.2.2 fun x117 => jn (fun (w118 : Bool) => fk w118 (some false) (fk (decide (x117.Task = (0 : Int))) (ix a1 v114.2.2 fun x122 => ck (decide ((v114.1.length + ([x122.At] : List Int).length) * 8 ≤ 140737488355328)) (k115 (v114.1 ++ ([x122.At] : List Int), v114.2.1))) (fk (decide (x117.Task = (1 : Int))) (ix a1 v114.2.2 fun x121 => ck (decide ((v114.2.1.length + ([x121.At] : List Int).length) * 8 ≤ 140737488355328)) (k115 (v114.1, v114.2.1 ++ ([x121.At] : List Int)))) (none)))) (fun k118 => fk (decide (x117.Task < (0 : Int))) (k118 true) (k118 (decide (x117.Task ≥ (a0.length : Int)))))) (k115 (v114.1, v114.2.1)))) (bnd (demand_Legal a0 ([v114.1, v114.2.1] : List (List Int))) fun x123 => fk x123 (bnd law16_knows fun x124 => some x124) (some false))) FU ([], [], (0 : Int))) (fk (decide ((a0.length : Int) = (3 : Int))) (lp (fun nx101 (v101 : (List Int) × (List Int) × (List Int) × Int) => fk (decide (v101.2.2.2 < (a1.length : Int))) (jn (fun (w102 : (List Int) × (List Int) × (List Int)) => nx101 (w102.1, w102.2.1, w102.2.2, (wr (v101.2.2.2 + (1 : Int))))) (fun k102 => ix x5 v101.2.2.2 fun x103 => fk x103 (ix a1 v101.2.2.2 fun x104 => jn (fun (w105 : Bool) => fk w105 (some false) (fk (decide (x104.Task = (0 : Int))) (ix a1 v101.2.2.2 fun x111 => ck (decide ((v101.1.length + ([x111.At] : List Int).length) * 8 ≤ 140737488355328)) (k102 (v101.1 ++ ([x111.At] : List Int), v101.2.1, v101.2.2.1))) (fk (decide (x104.Task = (1 : Int))) (ix a1 v101.2.2.2 fun x110 => ck (decide ((v101.2.1.length + ([x110.At] : List Int).length) * 8 ≤ 140737488355328)) (k102 (v101.1, v101.2.1 ++ ([x110.At] : List Int), v101.2.2.1))) (fk (decide (x104.Task = (2 : Int))) (ix a1 v101.2.2.2 fun x109 => ck (decide ((v101.2.2.1.length + ([x109.At] : List Int).length) * 8 ≤ 140737488355328)) (k102 (v101.1, v101.2.1, v101.2.2.1 ++ ([x109.At] : List Int)))) (none))))) (fun k105 => fk (decide (x104.Task < (0 : Int))) (k105 true) (k105 (decide (x104.Task ≥ (a0.length : Int)))))) (k102 (v101.1, v101.2.1, v101.2.2.1)))) (bnd (demand_Legal a0 ([v101.1, v101.2.1, v101.2.2.1] : List (List Int))) fun x112 => fk x112 (bnd law16_knows fun x113 => some x113) (some false))) FU ([], [], [], (0 : Int))) (fk (decide ((a0.length : Int) = (4 : Int))) (lp (fun nx86 (v86 : (List Int) × (List Int) × (List Int) × (List Int) × Int) => fk (decide (v86.2.2.2.2 < (a1.length : Int))) (jn (fun (w87 : (List Int) × (List Int) × (List Int) × (List Int)) => nx86 (w87.1, w87.2.1, w87.2.2.1, w87.2.2.2, (wr (v86.2.2.2.2 + (1 : Int))))) (fun k87 => ix x5 v86.2.2.2.2 fun x88 => fk x88 (ix a1 v86.2.2.2.2 fun x89 => jn (fun (w90 : Bool) => fk w90 (some false) (fk (decide (x89.Task = (0 : Int))) (ix a1 v86.2.2.2.2 fun x98 => ck (decide ((v86.1.length + ([x98.At] : List Int).length) * 8 ≤ 140737488355328)) (k87 (v86.1 ++ ([x98.At] : List Int), v86.2.1, v86.2.2.1, v86.2.2.2.1))) (fk (decide (x89.Task = (1 : Int))) (ix a1 v86.2.2.2.2 fun x97 => ck (decide ((v86.2.1.length + ([x97.At] : List Int).length) * 8 ≤ 140737488355328)) (k87 (v86.1, v86.2.1 ++ ([x97.At] : List Int), v86.2.2.1, v86.2.2.2.1))) (fk (decide (x89.Task = (2 : Int))) (ix a1 v86.2.2.2.2 fun x96 => ck (decide ((v86.2.2.1.length + ([x96.At] : List Int).length) * 8 ≤ 140737488355328)) (k87 (v86.1, v86.2.1, v86.2.2.1 ++ ([x96.At] : List Int), v86.2.2.2.1))) (fk (decide (x89.Task = (3 : Int))) (ix a1 v86.2.2.2.2 fun x95 => ck (decide ((v86.2.2.2.1.length + ([x95.At] : List Int).length) * 8 ≤ 140737488355328)) (k87 (v86.1, v86.2.1, v86.2.2.1, v86.2.2.2.1 ++ ([x95.At] : List Int)))) (none)))))) (fun k90 => fk (decide (x89.Task < (0 : Int))) (k90 true) (k90 (decide (x89.Task ≥ (a0.length : Int)))))) (k87 (v86.1, v86.2.1, v86.2.2.1, v86.2.2.2.1)))) (bnd (demand_Legal a0 ([v86.1, v86.2.1, v86.2.2.1, v86.2.2.2.1] : List (List Int))) fun x99 => fk x99 (bnd law16_knows fun x100 => some x100) (some false))) FU ([], [], [], [], (0 : Int))) (fk (decide ((a0.length : Int) = (5 : Int))) (lp (fun nx69 (v69 : (List Int) × (List Int) × (List Int) × (List Int) × (List Int) × Int) => fk (decide (v69.2.2.2.2.2 < (a1.length : Int))) (jn (fun (w70 : (List Int) × (List Int) × (List Int) × (List Int) × (List Int)) => nx69 (w70.1, w70.2.1, w70.2.2.1, w70.2.2.2.1, w70.2.2.2.2, (wr (v69.2.2.2.2.2 + (1 : Int))))) (fun k70 => ix x5 v69.2.2.2.2.2 fun x71 => fk x71 (ix a1 v69.2.2.2.2.2 fun x72 => jn (fun (w73 : Bool) => fk w73 (some false) (fk (decide (x72.Task = (0 : Int))) (ix a1 v69.2.2.2.2.2 fun x83 => ck (decide ((v69.1.length + ([x83.At] : List Int).length) * 8 ≤ 140737488355328)) (k70 (v69.1 ++ ([x83.At] : List Int), v69.2.1, v69.2.2.1, v69.2.2.2.1, v69.2.2.2.2.1))) (fk (decide (x72.Task = (1 : Int))) (ix a1 v69.2.2.2.2.2 fun x82 => ck (decide ((v69.2.1.length + ([x82.At] : List Int).length) * 8 ≤ 140737488355328)) (k70 (v69.1, v69.2.1 ++ ([x82.At] : List Int), v69.2.2.1, v69.2.2.2.1, v69.2.2.2.2.1))) (fk (decide (x72.Task = (2 : Int))) (ix a1 v69.2.2.2.2.2 fun x81 => ck (decide ((v69.2.2.1.length + ([x81.At] : List Int).length) * 8 ≤ 140737488355328)) (k70 (v69.1, v69.2.1, v69.2.2.1 ++ ([x81.At] : List Int), v69.2.2.2.1, v69.2.2.2.2.1))) (fk (decide (x72.Task = (3 : Int))) (ix a1 v69.2.2.2.2.2 fun x80 => ck (decide ((v69.2.2.2.1.length + ([x80.At] : List Int).length) * 8 ≤ 140737488355328)) (k70 (v69.1, v69.2.1, v69.2.2.1, v69.2.2.2.1 ++ ([x80.At] : List Int), v69.2.2.2.2.1))) (fk (decide (x72.Task = (4 : Int))) (ix a1 v69.2.2.2.2.2 fun x79 => ck (decide ((v69.2.2.2.2.1.length + ([x79.At] : List Int).length) * 8 ≤ 140737488355328)) (k70 (v69.1, v69.2.1, v69.2.2.1, v69.2.2.2.1, v69.2.2.2.2.1 ++ ([x79.At] : List Int)))) (none))))))) (fun k73 => fk (decide (x72.Task < (0 : Int))) (k73 true) (k73 (decide (x72.Task ≥ (a0.length : Int)))))) (k70 (v69.1, v69.2.1, v69.2.2.1, v69.2.2.2.1, v69.2.2.2.2.1)))) (bnd (demand_Legal a0 ([v69.1, v69.2.1, v69.2.2.1, v69.2.2.2.1, v69.2.2.2.2.1] : List (List Int))) fun x84 => fk x84 (bnd law16_knows fun x85 => some x85) (some false))) FU ([], [], [], [], [], (0 : Int))) (fk (decide ((a0.length : Int) = (6 : Int))) (lp (fun nx50 (v50 : (List Int) × (List Int) × (List Int) × (List Int) × (List Int) × (List Int) × Int) => fk (decide (v50.2.2.2.2.2.2 < (a1.length : Int))) (jn (fun (w51 : (List Int) × (List Int) × (List Int) × (List Int) × (List Int) × (List Int)) => nx50 (w51.1, w51.2.1, w51.2.2.1, w51.2.2.2.1, w51.2.2.2.2.1, w51.2.2.2.2.2, (wr (v50.2.2.2.2.2.2 + (1 : Int))))) (fun k51 => ix x5 v50.2.2.2.2.2.2 fun x52 => fk x52 (ix a1 v50.2.2.2.2.2.2 fun x53 => jn (fun (w54 : Bool) => fk w54 (some false) (fk (decide (x53.Task = (0 : Int))) (ix a1 v50.2.2.2.2.2.2 fun x66 => ck (decide ((v50.1.length + ([x66.At] : List Int).length) * 8 ≤ 140737488355328)) (k51 (v50.1 ++ ([x66.At] : List Int), v50.2.1, v50.2.2.1, v50.2.2.2.1, v50.2.2.2.2.1, v50.2.2.2.2.2.1))) (fk (decide (x53.Task = (1 : Int))) (ix a1 v50.2.2.2.2.2.2 fun x65 => ck (decide ((v50.2.1.length + ([x65.At] : List Int).length) * 8 ≤ 140737488355328)) (k51 (v50.1, v50.2.1 ++ ([x65.At] : List Int), v50.2.2.1, v50.2.2.2.1, v50.2.2.2.2.1, v50.2.2.2.2.2.1))) (fk (decide (x53.Task = (2 : Int))) (ix a1 v50.2.2.2.2.2.2 fun x64 => ck (decide ((v50.2.2.1.length + ([x64.At] : List Int).length) * 8 ≤ 140737488355328)) (k51 (v50.1, v50.2.1, v50.2.2.1 ++ ([x64.At] : List Int), v50.2.2.2.1, v50.2.2.2.2.1, v50.2.2.2.2.2.1))) (fk (decide (x53.Task = (3 : Int))) (ix a1 v50.2.2.2.2.2.2 fun x63 => ck (decide ((v50.2.2.2.1.length + ([x63.At] : List Int).length) * 8 ≤ 140737488355328)) (k51 (v50.1, v50.2.1, v50.2.2.1, v50.2.2.2.1 ++ ([x63.At] : List Int), v50.2.2.2.2.1, v50.2.2.2.2.2.1))) (fk (decide (x53.Task = (4 : Int))) (ix a1 v50.2.2.2.2.2.2 fun x62 => ck (decide ((v50.2.2.2.2.1.length + ([x62.At] : List Int).length) * 8 ≤ 140737488355328)) (k51 (v50.1, v50.2.1, v50.2.2.1, v50.2.2.2.1, v50.2.2.2.2.1 ++ ([x62.At] : List Int), v50.2.2.2.2.2.1))) (fk (decide (x53.Task = (5 : Int))) (ix a1 v50.2.2.2.2.2.2 fun x61 => ck (decide ((v50.2.2.2.2.2.1.length + ([x61.At] : List Int).length) * 8 ≤ 140737488355328)) (k51 (v50.1, v50.2.1, v50.2.2.1, v50.2.2.2.1, v50.2.2.2.2.1, v50.2.2.2.2.2.1 ++ ([x61.At] : List Int)))) (none)))))))) (fun k54 => fk (decide (x53.Task < (0 : Int))) (k54 true) (k54 (decide (x53.Task ≥ (a0.length : Int)))))) (k51 (v50.1, v50.2.1, v50.2.2.1, v50.2.2.2.1, v50.2.2.2.2.1, v50.2.2.2.2.2.1)))) (bnd (demand_Legal a0 ([v50.1, v50.2.1, v50.2.2.1, v50.2.2.2.1, v50.2.2.2.2.1, v50.2.2.2.2.2.1] : List (List Int))) fun x67 => fk x67 (bnd law16_knows fun x68 => some x68) (some false))) FU ([], [], [], [], [], [], (0 : Int))) (fk (decide ((a0.length : Int) = (7 : Int))) (lp (fun nx29 (v29 : (List Int) × (List Int) × (List Int) × (List Int) × (List Int) × (List Int) × (List Int) × Int) => fk (decide (v29.2.2.2.2.2.2.2 < (a1.length : Int))) (jn (fun (w30 : (List Int) × (List Int) × (List Int) × (List Int) × (List Int) × (List Int) × (List Int)) => nx29 (w30.1, w30.2.1, w30.2.2.1, w30.2.2.2.1, w30.2.2.2.2.1, w30.2.2.2.2.2.1, w30.2.2.2.2.2.2, (wr (v29.2.2.2.2.2.2.2 + (1 : Int))))) (fun k30 => ix x5 v29.2.2.2.2.2.2.2 fun x31 => fk x31 (ix a1 v29.2.2.2.2.2.2.2 fun x32 => jn (fun (w33 : Bool) => fk w33 (some false) (fk (decide (x32.Task = (0 : Int))) (ix a1 v29.2.2.2.2.2.2.2 fun x47 => ck (decide ((v29.1.length + ([x47.At] : List Int).length) * 8 ≤ 140737488355328)) (k30 (v29.1 ++ ([x47.At] : List Int), v29.2.1, v29.2.2.1, v29.2.2.2.1, v29.2.2.2.2.1, v29.2.2.2.2.2.1, v29.2.2.2.2.2.2.1))) (fk (decide (x32.Task = (1 : Int))) (ix a1 v29.2.2.2.2.2.2.2 fun x46 => ck (decide ((v29.2.1.length + ([x46.At] : List Int).length) * 8 ≤ 140737488355328)) (k30 (v29.1, v29.2.1 ++ ([x46.At] : List Int), v29.2.2.1, v29.2.2.2.1, v29.2.2.2.2.1, v29.2.2.2.2.2.1, v29.2.2.2.2.2.2.1))) (fk (decide (x32.Task = (2 : Int))) (ix a1 v29.2.2.2.2.2.2.2 fun x45 => ck (decide ((v29.2.2.1.length + ([x45.At] : List Int).length) * 8 ≤ 140737488355328)) (k30 (v29.1, v29.2.1, v29.2.2.1 ++ ([x45.At] : List Int), v29.2.2.2.1, v29.2.2.2.2.1, v29.2.2.2.2.2.1, v29.2.2.2.2.2.2.1))) (fk (decide (x32.Task = (3 : Int))) (ix a1 v29.2.2.2.2.2.2.2 fun x44 => ck (decide ((v29.2.2.2.1.length + ([x44.At] : List Int).length) * 8 ≤ 140737488355328)) (k30 (v29.1, v29.2.1, v29.2.2.1, v29.2.2.2.1 ++ ([x44.At] : List Int), v29.2.2.2.2.1, v29.2.2.2.2.2.1, v29.2.2.2.2.2.2.1))) (fk (decide (x32.Task = (4 : Int))) (ix a1 v29.2.2.2.2.2.2.2 fun x43 => ck (decide ((v29.2.2.2.2.1.length + ([x43.At] : List Int).length) * 8 ≤ 140737488355328)) (k30 (v29.1, v29.2.1, v29.2.2.1, v29.2.2.2.1, v29.2.2.2.2.1 ++ ([x43.At] : List Int), v29.2.2.2.2.2.1, v29.2.2.2.2.2.2.1))) (fk (decide (x32.Task = (5 : Int))) (ix a1 v29.2.2.2.2.2.2.2 fun x42 => ck (decide ((v29.2.2.2.2.2.1.length + ([x42.At] : List Int).length) * 8 ≤ 140737488355328)) (k30 (v29.1, v29.2.1, v29.2.2.1, v29.2.2.2.1, v29.2.2.2.2.1, v29.2.2.2.2.2.1 ++ ([x42.At] : List Int), v29.2.2.2.2.2.2.1))) (fk (decide (x32.Task = (6 : Int))) (ix a1 v29.2.2.2.2.2.2.2 fun x41 => ck (decide ((v29.2.2.2.2.2.2.1.length + ([x41.At] : List Int).length) * 8 ≤ 140737488355328)) (k30 (v29.1, v29.2.1, v29.2.2.1, v29.2.2.2.1, v29.2.2.2.2.1, v29.2.2.2.2.2.1, v29.2.2.2.2.2.2.1 ++ ([x41.At] : List Int)))) (none))))))))) (fun k33 => fk (decide (x32.Task < (0 : Int))) (k33 true) (k33 (decide (x32.Task ≥ (a0.length : Int)))))) (k30 (v29.1, v29.2.1, v29.2.2.1, v29.2.2.2.1, v29.2.2.2.2.1, v29.2.2.2.2.2.1, v29.2.2.2.2.2.2.1)))) (bnd (demand_Legal a0 ([v29.1, v29.2.1, v29.2.2.1, v29.2.2.2.1, v29.2.2.2.2.1, v29.2.2.2.2.2.1, v29.2.2.2.2.2.2.1] : List (List Int))) fun x48 => fk x48 (bnd law16_knows fun x49 => some x49) (some false))) FU ([], [], [], [], [], [], [], (0 : Int))) (fk (decide ((a0.length : Int) = (8 : Int))) (lp (fun nx6 (v6 : (List Int) × (List Int) × (List Int) × (List Int) × (List Int) × (List Int) × (List Int) × (List Int) × Int) => fk (decide (v6.2.2.2.2.2.2.2.2 < (a1.length : Int))) (jn (fun (w7 : (List Int) × (List Int) × (List Int) × (List Int) × (List Int) × (List Int) × (List Int) × (List Int)) => nx6 (w7.1, w7.2.1, w7.2.2.1, w7.2.2.2.1, w7.2.2.2.2.1, w7.2.2.2.2.2.1, w7.2.2.2.2.2.2.1, w7.2.2.2.2.2.2.2, (wr (v6.2.2.2.2.2.2.2.2 + (1 : Int))))) (fun k7 => ix x5 v6.2.2.2.2.2.2.2.2 fun x8 => fk x8 (ix a1 v6.2.2.2.2.2.2.2.2 fun x9 => jn (fun (w10 : Bool) => fk w10 (some false) (fk (decide (x9.Task = (0 : Int))) (ix a1 v6.2.2.2.2.2.2.2.2 fun x26 => ck (decide ((v6.1.length + ([x26.At] : List Int).length) * 8 ≤ 140737488355328)) (k7 (v6.1 ++ ([x26.At] : List Int), v6.2.1, v6.2.2.1, v6.2.2.2.1, v6.2.2.2.2.1, v6.2.2.2.2.2.1, v6.2.2.2.2.2.2.1, v6.2.2.2.2.2.2.2.1))) (fk (decide (x9.Task = (1 : Int))) (ix a1 v6.2.2.2.2.2.2.2.2 fun x25 => ck (decide ((v6.2.1.length + ([x25.At] : List Int).length) * 8 ≤ 140737488355328)) (k7 (v6.1, v6.2.1 ++ ([x25.At] : List Int), v6.2.2.1, v6.2.2.2.1, v6.2.2.2.2.1, v6.2.2.2.2.2.1, v6.2.2.2.2.2.2.1, v6.2.2.2.2.2.2.2.1))) (fk (decide (x9.Task = (2 : Int))) (ix a1 v6.2.2.2.2.2.2.2.2 fun x24 => ck (decide ((v6.2.2.1.length + ([x24.At] : List Int).length) * 8 ≤ 140737488355328)) (k7 (v6.1, v6.2.1, v6.2.2.1 ++ ([x24.At] : List Int), v6.2.2.2.1, v6.2.2.2.2.1, v6.2.2.2.2.2.1, v6.2.2.2.2.2.2.1, v6.2.2.2.2.2.2.2.1))) (fk (decide (x9.Task = (3 : Int))) (ix a1 v6.2.2.2.2.2.2.2.2 fun x23 => ck (decide ((v6.2.2.2.1.length + ([x23.At] : List Int).length) * 8 ≤ 140737488355328)) (k7 (v6.1, v6.2.1, v6.2.2.1, v6.2.2.2.1 ++ ([x23.At] : List Int), v6.2.2.2.2.1, v6.2.2.2.2.2.1, v6.2.2.2.2.2.2.1, v6.2.2.2.2.2.2.2.1))) (fk (decide (x9.Task = (4 : Int))) (ix a1 v6.2.2.2.2.2.2.2.2 fun x22 => ck (decide ((v6.2.2.2.2.1.length + ([x22.At] : List Int).length) * 8 ≤ 140737488355328)) (k7 (v6.1, v6.2.1, v6.2.2.1, v6.2.2.2.1, v6.2.2.2.2.1 ++ ([x22.At] : List Int), v6.2.2.2.2.2.1, v6.2.2.2.2.2.2.1, v6.2.2.2.2.2.2.2.1))) (fk (decide (x9.Task = (5 : Int))) (ix a1 v6.2.2.2.2.2.2.2.2 fun x21 => ck (decide ((v6.2.2.2.2.2.1.length + ([x21.At] : List Int).length) * 8 ≤ 140737488355328)) (k7 (v6.1, v6.2.1, v6.2.2.1, v6.2.2.2.1, v6.2.2.2.2.1, v6.2.2.2.2.2.1 ++ ([x21.At] : List Int), v6.2.2.2.2.2.2.1, v6.2.2.2.2.2.2.2.1))) (fk (decide (x9.Task = (6 : Int))) (ix a1 v6.2.2.2.2.2.2.2.2 fun x20 => ck (decide ((v6.2.2.2.2.2.2.1.length + ([x20.At] : List Int).length) * 8 ≤ 140737488355328)) (k7 (v6.1, v6.2.1, v6.2.2.1, v6.2.2.2.1, v6.2.2.2.2.1, v6.2.2.2.2.2.1, v6.2.2.2.2.2.2.1 ++ ([x20.At] : List Int), v6.2.2.2.2.2.2.2.1))) (fk (decide (x9.Task = (7 : Int))) (ix a1 v6.2.2.2.2.2.2.2.2 fun x19 => ck (decide ((v6.2.2.2.2.2.2.2.1.length + ([x19.At] : List Int).length) * 8 ≤ 140737488355328)) (k7 (v6.1, v6.2.1, v6.2.2.1, v6.2.2.2.1, v6.2.2.2.2.1, v6.2.2.2.2.2.1, v6.2.2.2.2.2.2.1, v6.2.2.2.2.2.2.2.1 ++ ([x19.At] : List Int)))) (none)))))))))) (fun k10 => fk (decide (x9.Task < (0 : Int))) (k10 true) (k10 (decide (x9.Task ≥ (a0.length : Int)))))) (k7 (v6.1, v6.2.1, v6.2.2.1, v6.2.2.2.1, v6.2.2.2.2.1, v6.2.2.2.2.2.1, v6.2.2.2.2.2.2.1, v6.2.2.2.2.2.2.2.1)))) (bnd (demand_Legal a0 ([v6.1, v6.2.1, v6.2.2.1, v6.2.2.2.1, v6.2.2.2.2.1, v6.2.2.2.2.2.1, v6.2.2.2.2.2.2.1, v6.2.2.2.2.2.2.2.1] : List (List Int))) fun x27 => fk x27 (bnd law16_knows fun x28 => some x28) (some false))) FU ([], [], [], [], [], [], [], [], (0 : Int))) (none)))))))))))) (fun k1 => bnd (law05_Great a0) fun x2 => fk x2 (k1 true) (fk (decide ((a1.length : Int) > (100 : Int))) (k1 true) (bnd (ref05_All a0) fun x3 => k1 (!x3))))
theorem law16_PolicePatterns_w (a0 : List Task) (a1 : List PoliceAsk) (r : Bool) (h : law16_PolicePatterns a0 a1 = some r) : Go.VC.Spec Try.prog 6 [.d (.sl (a0.map Task.enc)), .d (.sl (a1.map PoliceAsk.enc))] (fun y => y = E_Bool r) := by
  refine Go.VC.Spec.of_xc (args := [.d (.sl (a0.map Task.enc)), .d (.sl (a1.map PoliceAsk.enc))]) (fn := Try.f6) tab ⟨[(0, [0, 1]), (1, [0, 1, 20]), (2, [4]), (3, [0, 1, 5]), (4, [0, 1, 5, 29]), (5, [4]), (6, [0, 1, 5, 6]), (7, [0, 1, 5, 6, 7]), (8, [0, 1, 5, 6, 7, 36]), (9, [0, 1, 5, 6, 7]), (10, [0, 1, 5, 6, 7, 42]), (11, [0, 1, 5, 6, 7, 8]), (12, [0, 1, 5, 6, 7, 8, 55]), (13, [4]), (14, [0, 1, 5, 6, 7]), (15, [4])], [], [100020, 100055, 9], []⟩ 76 [.tmp 4] rfl rfl rfl rfl rfl rfl ?_
  conv => whnf
  refine jnS (fun w1 => ⟨[(0, .l (.d (.sl (a0.map Task.enc)))), (1, .l (.d (.sl (a1.map PoliceAsk.enc)))), (20, .l (.d (.bool w1)))], 76, [], [], []⟩) h (fun k1 hk1 h => ?_) (fun w1 h => ?_)
  · conv => whnf
    refine caS (E := E_Bool) h (law05_Great_w a0) rfl (fun _ => rfl) (fun x2 h => ?_)
    conv => whnf
    refine fkS h (fun h => ?_) (fun h => ?_)
    · conv => whnf
      exact jeS hk1 h (Weak.refl _)
    conv => whnf
    refine lenS a1 PoliceAsk.enc rfl ?_
    conv => whnf
    refine fkS h (fun h => ?_) (fun h => ?_)
    · conv => whnf
      exact jeS hk1 h (Weak.refl _)
    conv => whnf
    refine caS (E := E_Bool) h (ref05_All_w a0) rfl (fun _ => rfl) (fun x3 h => ?_)
    conv => whnf
    exact jeS hk1 h (Weak.refl _)
  conv => whnf
  refine fkS h (fun h => ?_) (fun h => ?_)
  · conv => whnf
    refine caS (E := E_Bool) h law16_knows_w rfl (fun _ => rfl) (fun x4 h => ?_)
    conv => whnf
    exact rt (E := E_Bool) h rfl
  conv => whnf
  refine ccS (E := E_ListBool) h (police_Filter_w a0 a1) rfl rfl (fun x5 h => ?_)
  conv => whnf
  refine lenS x5 eB rfl ?_
  conv => whnf
  refine lenS a1 PoliceAsk.enc rfl ?_
  conv => whnf
  refine fkS h (fun h => ?_) (fun h => ?_)
  · conv => whnf
    exact rt (E := E_Bool) h rfl
  conv => whnf
  refine lenS a0 Task.enc rfl ?_
  conv => whnf
  refine mkF h (fun hb h => ?_) (fun h => ?_)
  · conv => whnf
    refine mkB0 tab rfl rfl rfl rfl (of_decide_eq_true hb) (of_decide_eq_true hb) rfl rfl rfl ?_
    conv => whnf
    refine lpS (fun v134 => ⟨[(0, .l (.d (.sl (a0.map Task.enc)))), (1, .l (.d (.sl (a1.map PoliceAsk.enc)))), (5, .l (.d (.sl (x5.map eB)))), (6, .l (.d (.sl (([] : List (List Int)).map (eL (eI .i64)))))), (7, .l (.d (.int .i64 v134)))], 76, [], [], []⟩) h (Weak.refl _) (fun _ nx134 hn134 v134 h => ?_)
    conv => whnf
    refine lenS a1 PoliceAsk.enc rfl ?_
    conv => whnf
    refine fkS h (fun h => ?_) (fun h => ?_)
    · conv => whnf
      refine jnS (fun w135 => ⟨[(0, .l (.d (.sl (a0.map Task.enc)))), (1, .l (.d (.sl (a1.map PoliceAsk.enc)))), (5, .l (.d (.sl (x5.map eB)))), (6, .l (.d (.sl (([] : List (List Int)).map (eL (eI .i64)))))), (7, .l (.d (.int .i64 v134)))], 76, [], [], []⟩) h (fun k135 hk135 h => ?_) (fun w135 h => ?_)
      · conv => whnf
        refine ixS (enc := eB) h rfl (fun _ => rfl) (fun x136 h => ?_)
        conv => whnf
        refine fkS h (fun h => ?_) (fun h => ?_)
        · conv => whnf
          refine ixS (enc := PoliceAsk.enc) h rfl (fun _ => rfl) (fun x137 h => ?_)
          conv => whnf
          refine jnS (fun w138 => ⟨[(0, .l (.d (.sl (a0.map Task.enc)))), (1, .l (.d (.sl (a1.map PoliceAsk.enc)))), (5, .l (.d (.sl (x5.map eB)))), (6, .l (.d (.sl (([] : List (List Int)).map (eL (eI .i64)))))), (7, .l (.d (.int .i64 v134))), (8, .l (.d (.int .i64 x137.Task))), (55, .l (.d (.bool w138)))], 76, [], [], []⟩) h (fun k138 hk138 h => ?_) (fun w138 h => ?_)
          · conv => whnf
            refine fkS h (fun h => ?_) (fun h => ?_)
            · conv => whnf
              exact jeS hk138 h (Weak.refl _)
            conv => whnf
            refine lenS a0 Task.enc rfl ?_
            conv => whnf
            exact jeS hk138 h (Weak.refl _)
          conv => whnf
          refine fkS h (fun h => ?_) (fun h => ?_)
          · conv => whnf
            exact rt (E := E_Bool) h rfl
          conv => whnf
          refine ⟨13, ?_⟩
          conv => whnf
          cases h
        conv => whnf
        refine jeX hk135 h ?_
        conv => whnf
        refine WkF.step (Weak.keepS _ [0, 1, 5, 6, 7]) ?_
        conv => whnf
        exact WkF.refl _
      conv => whnf
      exact leS hn134 h (Weak.refl _)
    conv => whnf
    refine caS (E := E_Bool) h (demand_Legal_w a0 ([] : List (List Int))) rfl (fun _ => rfl) (fun x139 h => ?_)
    conv => whnf
    refine fkS h (fun h => ?_) (fun h => ?_)
    · conv => whnf
      refine caS (E := E_Bool) h law16_knows_w rfl (fun _ => rfl) (fun x140 h => ?_)
      conv => whnf
      exact rt (E := E_Bool) h rfl
    conv => whnf
    exact rt (E := E_Bool) h rfl
  conv => whnf
  refine mkF h (fun hb h => ?_) (fun h => ?_)
  · conv => whnf
    refine mkB tab 1 rfl rfl rfl rfl (of_decide_eq_true hb) (of_decide_eq_true hb) rfl rfl rfl (Nat.le_of_ble_eq_true rfl) (Nat.le_of_ble_eq_true rfl) (Nat.le_of_ble_eq_true rfl) rfl ?_
    conv => whnf
    refine lpS (fun v125 => ⟨[(0, .l (.d (.sl (a0.map Task.enc)))), (1, .l (.d (.sl (a1.map PoliceAsk.enc)))), (5, .l (.d (.sl (x5.map eB)))), (6, .l (.bsl 33 1 1)), (7, .l (.d (.int .i64 v125.2)))], 76, [], [(33, [.own 53300])], [(53300, 3, 1, v125.1.map (eI .i64))]⟩) h (Weak.trans (Weak.nilBO _ 33 0 53300 3 1 _ rfl rfl) (Weak.refl _)) (fun _ nx125 hn125 v125 h => ?_)
    conv => whnf
    refine lenS a1 PoliceAsk.enc rfl ?_
    conv => whnf
    refine fkS h (fun h => ?_) (fun h => ?_)
    · conv => whnf
      refine jnS (fun w126 => ⟨[(0, .l (.d (.sl (a0.map Task.enc)))), (1, .l (.d (.sl (a1.map PoliceAsk.enc)))), (5, .l (.d (.sl (x5.map eB)))), (6, .l (.bsl 33 1 1)), (7, .l (.d (.int .i64 v125.2)))], 76, [], [(33, [.own 53300])], [(53300, 3, 1, w126.map (eI .i64))]⟩) h (fun k126 hk126 h => ?_) (fun w126 h => ?_)
      · conv => whnf
        refine ixS (enc := eB) h rfl (fun _ => rfl) (fun x127 h => ?_)
        conv => whnf
        refine fkS h (fun h => ?_) (fun h => ?_)
        · conv => whnf
          refine ixS (enc := PoliceAsk.enc) h rfl (fun _ => rfl) (fun x128 h => ?_)
          conv => whnf
          refine jnS (fun w129 => ⟨[(0, .l (.d (.sl (a0.map Task.enc)))), (1, .l (.d (.sl (a1.map PoliceAsk.enc)))), (5, .l (.d (.sl (x5.map eB)))), (6, .l (.bsl 33 1 1)), (7, .l (.d (.int .i64 v125.2))), (8, .l (.d (.int .i64 x128.Task))), (55, .l (.d (.bool w129)))], 76, [], [(33, [.own 53300])], [(53300, 3, 1, v125.1.map (eI .i64))]⟩) h (fun k129 hk129 h => ?_) (fun w129 h => ?_)
          · conv => whnf
            refine fkS h (fun h => ?_) (fun h => ?_)
            · conv => whnf
              exact jeS hk129 h (Weak.refl _)
            conv => whnf
            refine lenS a0 Task.enc rfl ?_
            conv => whnf
            exact jeS hk129 h (Weak.refl _)
          conv => whnf
          refine fkS h (fun h => ?_) (fun h => ?_)
          · conv => whnf
            exact rt (E := E_Bool) h rfl
          conv => whnf
          refine ⟨13, ?_⟩
          conv => whnf
          refine fkN h (fun q130 h => ?_) (fun q130 h => ?_)
          · conv => whnf
            refine ixS (enc := PoliceAsk.enc) h rfl (fun _ => rfl) (fun x131 h => ?_)
            conv => whnf
            refine liS ([x131.At] : List Int) (eI .i64) rfl rfl ?_
            conv => whnf
            refine apS (enc := (eI .i64)) (l1 := v125.1) (l2 := ([x131.At] : List Int)) h rfl rfl (fun _ => rfl) (fun h => ?_)
            conv => whnf
            refine drS (by kernel_rfl) ?_
            conv => whnf
            refine fork_t q130 ?_
            conv => whnf
            refine jeX hk126 h ?_
            conv => whnf
            refine WkF.step (Weak.rekey _ 69 53300 rfl) ?_
            conv => whnf
            exact WkF.refl _
          conv => whnf
          cases h
        conv => whnf
        refine jeX hk126 h ?_
        conv => whnf
        refine WkF.step (Weak.keepS _ [0, 1, 5, 6, 7]) ?_
        conv => whnf
        exact WkF.refl _
      conv => whnf
      exact leS hn125 h (Weak.refl _)
    conv => whnf
    refine caS (E := E_Bool) h (demand_Legal_w a0 ([v125.1] : List (List Int))) rfl (fun _ => rfl) (fun x132 h => ?_)
    conv => whnf
    refine fkS h (fun h => ?_) (fun h => ?_)
    · conv => whnf
      refine caS (E := E_Bool) h law16_knows_w rfl (fun _ => rfl) (fun x133 h => ?_)
      conv => whnf
      exact rt (E := E_Bool) h rfl
    conv => whnf
    exact rt (E := E_Bool) h rfl
  conv => whnf
  refine mkF h (fun hb h => ?_) (fun h => ?_)
  · conv => whnf
    refine mkB tab 2 rfl rfl rfl rfl (of_decide_eq_true hb) (of_decide_eq_true hb) rfl rfl rfl (Nat.le_of_ble_eq_true rfl) (Nat.le_of_ble_eq_true rfl) (Nat.le_of_ble_eq_true rfl) rfl ?_
    conv => whnf
    refine lpS (fun v114 => ⟨[(0, .l (.d (.sl (a0.map Task.enc)))), (1, .l (.d (.sl (a1.map PoliceAsk.enc)))), (5, .l (.d (.sl (x5.map eB)))), (6, .l (.bsl 33 2 1)), (7, .l (.d (.int .i64 v114.2.2)))], 76, [], [(33, [.own 53300, .own 53301])], [(53300, 3, 1, v114.1.map (eI .i64)), (53301, 3, 1, v114.2.1.map (eI .i64))]⟩) h (Weak.trans (Weak.nilBO _ 33 0 53300 3 1 _ rfl rfl) (Weak.trans (Weak.nilBO _ 33 1 53301 3 1 _ rfl rfl) (Weak.refl _))) (fun _ nx114 hn114 v114 h => ?_)
    conv => whnf
    refine lenS a1 PoliceAsk.enc rfl ?_
    conv => whnf
    refine fkS h (fun h => ?_) (fun h => ?_)
    · conv => whnf
      refine jnS (fun w115 => ⟨[(0, .l (.d (.sl (a0.map Task.enc)))), (1, .l (.d (.sl (a1.map PoliceAsk.enc)))), (5, .l (.d (.sl (x5.map eB)))), (6, .l (.bsl 33 2 1)), (7, .l (.d (.int .i64 v114.2.2)))], 76, [], [(33, [.own 53300, .own 53301])], [(53300, 3, 1, w115.1.map (eI .i64)), (53301, 3, 1, w115.2.map (eI .i64))]⟩) h (fun k115 hk115 h => ?_) (fun w115 h => ?_)
      · conv => whnf
        refine ixS (enc := eB) h rfl (fun _ => rfl) (fun x116 h => ?_)
        conv => whnf
        refine fkS h (fun h => ?_) (fun h => ?_)
        · conv => whnf
          refine ixS (enc := PoliceAsk.enc) h rfl (fun _ => rfl) (fun x117 h => ?_)
          conv => whnf
          refine jnS (fun w118 => ⟨[(0, .l (.d (.sl (a0.map Task.enc)))), (1, .l (.d (.sl (a1.map PoliceAsk.enc)))), (5, .l (.d (.sl (x5.map eB)))), (6, .l (.bsl 33 2 1)), (7, .l (.d (.int .i64 v114.2.2))), (8, .l (.d (.int .i64 x117.Task))), (55, .l (.d (.bool w118)))], 76, [], [(33, [.own 53300, .own 53301])], [(53300, 3, 1, v114.1.map (eI .i64)), (53301, 3, 1, v114.2.1.map (eI .i64))]⟩) h (fun k118 hk118 h => ?_) (fun w118 h => ?_)
          · conv => whnf
            refine fkS h (fun h => ?_) (fun h => ?_)
            · conv => whnf
              exact jeS hk118 h (Weak.refl _)
            conv => whnf
            refine lenS a0 Task.enc rfl ?_
            conv => whnf
            exact jeS hk118 h (Weak.refl _)
          conv => whnf
          refine fkS h (fun h => ?_) (fun h => ?_)
          · conv => whnf
            exact rt (E := E_Bool) h rfl
          conv => whnf
          refine ⟨13, ?_⟩
          conv => whnf
          refine fkN h (fun q119 h => ?_) (fun q119 h => ?_)
          · conv => whnf
            refine ixS (enc := PoliceAsk.enc) h rfl (fun _ => rfl) (fun x122 h => ?_)
            conv => whnf
            refine liS ([x122.At] : List Int) (eI .i64) rfl rfl ?_
            conv => whnf
            refine apS (enc := (eI .i64)) (l1 := v114.1) (l2 := ([x122.At] : List Int)) h rfl rfl (fun _ => rfl) (fun h => ?_)
            conv => whnf
            refine drS (by kernel_rfl) ?_
            conv => whnf
            refine fork_t q119 ?_
            conv => whnf
            refine jeX hk115 h ?_
            conv => whnf
            refine WkF.step (Weak.rekey _ 69 53300 rfl) ?_
            conv => whnf
            exact WkF.refl _
          conv => whnf
          refine fkN h (fun q120 h => ?_) (fun q120 h => ?_)
          · conv => whnf
            refine ixS (enc := PoliceAsk.enc) h rfl (fun _ => rfl) (fun x121 h => ?_)
            conv => whnf
            refine liS ([x121.At] : List Int) (eI .i64) rfl rfl ?_
            conv => whnf
            refine apS (enc := (eI .i64)) (l1 := v114.2.1) (l2 := ([x121.At] : List Int)) h rfl rfl (fun _ => rfl) (fun h => ?_)
            conv => whnf
            refine drS (by kernel_rfl) ?_
            conv => whnf
            refine fork_f q119 ?_
            conv => whnf
            refine fork_t q120 ?_
            conv => whnf
            refine jeX hk115 h ?_
            conv => whnf
            refine WkF.step (Weak.rekey _ 69 53301 rfl) ?_
            conv => whnf
            exact WkF.refl _
          conv => whnf
          cases h
        conv => whnf
        refine jeX hk115 h ?_
        conv => whnf
        refine WkF.step (Weak.keepS _ [0, 1, 5, 6, 7]) ?_
        conv => whnf
        exact WkF.refl _
      conv => whnf
      exact leS hn114 h (Weak.refl _)
    conv => whnf
    refine caS (E := E_Bool) h (demand_Legal_w a0 ([v114.1, v114.2.1] : List (List Int))) rfl (fun _ => rfl) (fun x123 h => ?_)
    conv => whnf
    refine fkS h (fun h => ?_) (fun h => ?_)
    · conv => whnf
      refine caS (E := E_Bool) h law16_knows_w rfl (fun _ => rfl) (fun x124 h => ?_)
      conv => whnf
      exact rt (E := E_Bool) h rfl
    conv => whnf
    exact rt (E := E_Bool) h rfl
  conv => whnf
  refine mkF h (fun hb h => ?_) (fun h => ?_)
  · conv => whnf
    refine mkB tab 3 rfl rfl rfl rfl (of_decide_eq_true hb) (of_decide_eq_true hb) rfl rfl rfl (Nat.le_of_ble_eq_true rfl) (Nat.le_of_ble_eq_true rfl) (Nat.le_of_ble_eq_true rfl) rfl ?_
    conv => whnf
    refine lpX (fun v101 => ⟨[(0, .l (.d (.sl (a0.map Task.enc)))), (1, .l (.d (.sl (a1.map PoliceAsk.enc)))), (5, .l (.d (.sl (x5.map eB)))), (6, .l (.bsl 33 3 1)), (7, .l (.d (.int .i64 v101.2.2.2)))], 76, [], [(33, [.own 53300, .own 53301, .own 53302])], [(53300, 3, 1, v101.1.map (eI .i64)), (53301, 3, 1, v101.2.1.map (eI .i64)), (53302, 3, 1, v101.2.2.1.map (eI .i64))]⟩) h ?_ (fun _ nx101 hn101 v101 h => ?_)
    · conv => whnf
      refine WkF.step (Weak.nilBO _ 33 0 53300 3 1 _ rfl rfl) ?_
      conv => whnf
      refine WkF.step (Weak.nilBO _ 33 1 53301 3 1 _ rfl rfl) ?_
      conv => whnf
      refine WkF.step (Weak.nilBO _ 33 2 53302 3 1 _ rfl rfl) ?_
      conv => whnf
      exact WkF.refl _
    conv => whnf
    refine lenS a1 PoliceAsk.enc rfl ?_
    conv => whnf
    refine fkS h (fun h => ?_) (fun h => ?_)
    · conv => whnf
      refine jnS (fun w102 => ⟨[(0, .l (.d (.sl (a0.map Task.enc)))), (1, .l (.d (.sl (a1.map PoliceAsk.enc)))), (5, .l (.d (.sl (x5.map eB)))), (6, .l (.bsl 33 3 1)), (7, .l (.d (.int .i64 v101.2.2.2)))], 76, [], [(33, [.own 53300, .own 53301, .own 53302])], [(53300, 3, 1, w102.1.map (eI .i64)), (53301, 3, 1, w102.2.1.map (eI .i64)), (53302, 3, 1, w102.2.2.map (eI .i64))]⟩) h (fun k102 hk102 h => ?_) (fun w102 h => ?_)
      · conv => whnf
        refine ixS (enc := eB) h rfl (fun _ => rfl) (fun x103 h => ?_)
        conv => whnf
        refine fkS h (fun h => ?_) (fun h => ?_)
        · conv => whnf
          refine ixS (enc := PoliceAsk.enc) h rfl (fun _ => rfl) (fun x104 h => ?_)
          conv => whnf
          refine jnS (fun w105 => ⟨[(0, .l (.d (.sl (a0.map Task.enc)))), (1, .l (.d (.sl (a1.map PoliceAsk.enc)))), (5, .l (.d (.sl (x5.map eB)))), (6, .l (.bsl 33 3 1)), (7, .l (.d (.int .i64 v101.2.2.2))), (8, .l (.d (.int .i64 x104.Task))), (55, .l (.d (.bool w105)))], 76, [], [(33, [.own 53300, .own 53301, .own 53302])], [(53300, 3, 1, v101.1.map (eI .i64)), (53301, 3, 1, v101.2.1.map (eI .i64)), (53302, 3, 1, v101.2.2.1.map (eI .i64))]⟩) h (fun k105 hk105 h => ?_) (fun w105 h => ?_)
          · conv => whnf
            refine fkS h (fun h => ?_) (fun h => ?_)
            · conv => whnf
              exact jeS hk105 h (Weak.refl _)
            conv => whnf
            refine lenS a0 Task.enc rfl ?_
            conv => whnf
            exact jeS hk105 h (Weak.refl _)
          conv => whnf
          refine fkS h (fun h => ?_) (fun h => ?_)
          · conv => whnf
            exact rt (E := E_Bool) h rfl
          conv => whnf
          refine ⟨13, ?_⟩
          conv => whnf
          refine fkN h (fun q106 h => ?_) (fun q106 h => ?_)
          · conv => whnf
            refine ixS (enc := PoliceAsk.enc) h rfl (fun _ => rfl) (fun x111 h => ?_)
            conv => whnf
            refine liS ([x111.At] : List Int) (eI .i64) rfl rfl ?_
            conv => whnf
            refine apS (enc := (eI .i64)) (l1 := v101.1) (l2 := ([x111.At] : List Int)) h rfl rfl (fun _ => rfl) (fun h => ?_)
            conv => whnf
            refine drS (by kernel_rfl) ?_
            conv => whnf
            refine fork_t q106 ?_
            conv => whnf
            refine jeX hk102 h ?_
            conv => whnf
            refine WkF.step (Weak.rekey _ 69 53300 rfl) ?_
            conv => whnf
            exact WkF.refl _
          conv => whnf
          refine fkN h (fun q107 h => ?_) (fun q107 h => ?_)
          · conv => whnf
            refine ixS (enc := PoliceAsk.enc) h rfl (fun _ => rfl) (fun x110 h => ?_)
            conv => whnf
            refine liS ([x110.At] : List Int) (eI .i64) rfl rfl ?_
            conv => whnf
            refine apS (enc := (eI .i64)) (l1 := v101.2.1) (l2 := ([x110.At] : List Int)) h rfl rfl (fun _ => rfl) (fun h => ?_)
            conv => whnf
            refine drS (by kernel_rfl) ?_
            conv => whnf
            refine fork_f q106 ?_
            conv => whnf
            refine fork_t q107 ?_
            conv => whnf
            refine jeX hk102 h ?_
            conv => whnf
            refine WkF.step (Weak.rekey _ 69 53301 rfl) ?_
            conv => whnf
            exact WkF.refl _
          conv => whnf
          refine fkN h (fun q108 h => ?_) (fun q108 h => ?_)
          · conv => whnf
            refine ixS (enc := PoliceAsk.enc) h rfl (fun _ => rfl) (fun x109 h => ?_)
            conv => whnf
            refine liS ([x109.At] : List Int) (eI .i64) rfl rfl ?_
            conv => whnf
            refine apS (enc := (eI .i64)) (l1 := v101.2.2.1) (l2 := ([x109.At] : List Int)) h rfl rfl (fun _ => rfl) (fun h => ?_)
            conv => whnf
            refine drS (by kernel_rfl) ?_
            conv => whnf
            refine fork_f q106 ?_
            conv => whnf
            refine fork_f q107 ?_
            conv => whnf
            refine fork_t q108 ?_
            conv => whnf
            refine jeX hk102 h ?_
            conv => whnf
            refine WkF.step (Weak.rekey _ 69 53302 rfl) ?_
            conv => whnf
            exact WkF.refl _
          conv => whnf
          cases h
        conv => whnf
        refine jeX hk102 h ?_
        conv => whnf
        refine WkF.step (Weak.keepS _ [0, 1, 5, 6, 7]) ?_
        conv => whnf
        exact WkF.refl _
      conv => whnf
      exact leS hn101 h (Weak.refl _)
    conv => whnf
    refine caS (E := E_Bool) h (demand_Legal_w a0 ([v101.1, v101.2.1, v101.2.2.1] : List (List Int))) rfl (fun _ => rfl) (fun x112 h => ?_)
    conv => whnf
    refine fkS h (fun h => ?_) (fun h => ?_)
    · conv => whnf
      refine caS (E := E_Bool) h law16_knows_w rfl (fun _ => rfl) (fun x113 h => ?_)
      conv => whnf
      exact rt (E := E_Bool) h rfl
    conv => whnf
    exact rt (E := E_Bool) h rfl
  conv => whnf
  refine mkF h (fun hb h => ?_) (fun h => ?_)
  · conv => whnf
    refine mkB tab 4 rfl rfl rfl rfl (of_decide_eq_true hb) (of_decide_eq_true hb) rfl rfl rfl (Nat.le_of_ble_eq_true rfl) (Nat.le_of_ble_eq_true rfl) (Nat.le_of_ble_eq_true rfl) rfl ?_
    conv => whnf
    refine lpX (fun v86 => ⟨[(0, .l (.d (.sl (a0.map Task.enc)))), (1, .l (.d (.sl (a1.map PoliceAsk.enc)))), (5, .l (.d (.sl (x5.map eB)))), (6, .l (.bsl 33 4 1)), (7, .l (.d (.int .i64 v86.2.2.2.2)))], 76, [], [(33, [.own 53300, .own 53301, .own 53302, .own 53303])], [(53300, 3, 1, v86.1.map (eI .i64)), (53301, 3, 1, v86.2.1.map (eI .i64)), (53302, 3, 1, v86.2.2.1.map (eI .i64)), (53303, 3, 1, v86.2.2.2.1.map (eI .i64))]⟩) h ?_ (fun _ nx86 hn86 v86 h => ?_)
    · conv => whnf
      refine WkF.step (Weak.nilBO _ 33 0 53300 3 1 _ rfl rfl) ?_
      conv => whnf
      refine WkF.step (Weak.nilBO _ 33 1 53301 3 1 _ rfl rfl) ?_
      conv => whnf
      refine WkF.step (Weak.nilBO _ 33 2 53302 3 1 _ rfl rfl) ?_
      conv => whnf
      refine WkF.step (Weak.nilBO _ 33 3 53303 3 1 _ rfl rfl) ?_
      conv => whnf
      exact WkF.refl _
    conv => whnf
    refine lenS a1 PoliceAsk.enc rfl ?_
    conv => whnf
    refine fkS h (fun h => ?_) (fun h => ?_)
    · conv => whnf
      refine jnS (fun w87 => ⟨[(0, .l (.d (.sl (a0.map Task.enc)))), (1, .l (.d (.sl (a1.map PoliceAsk.enc)))), (5, .l (.d (.sl (x5.map eB)))), (6, .l (.bsl 33 4 1)), (7, .l (.d (.int .i64 v86.2.2.2.2)))], 76, [], [(33, [.own 53300, .own 53301, .own 53302, .own 53303])], [(53300, 3, 1, w87.1.map (eI .i64)), (53301, 3, 1, w87.2.1.map (eI .i64)), (53302, 3, 1, w87.2.2.1.map (eI .i64)), (53303, 3, 1, w87.2.2.2.map (eI .i64))]⟩) h (fun k87 hk87 h => ?_) (fun w87 h => ?_)
      · conv => whnf
        refine ixS (enc := eB) h rfl (fun _ => rfl) (fun x88 h => ?_)
        conv => whnf
        refine fkS h (fun h => ?_) (fun h => ?_)
        · conv => whnf
          refine ixS (enc := PoliceAsk.enc) h rfl (fun _ => rfl) (fun x89 h => ?_)
          conv => whnf
          refine jnS (fun w90 => ⟨[(0, .l (.d (.sl (a0.map Task.enc)))), (1, .l (.d (.sl (a1.map PoliceAsk.enc)))), (5, .l (.d (.sl (x5.map eB)))), (6, .l (.bsl 33 4 1)), (7, .l (.d (.int .i64 v86.2.2.2.2))), (8, .l (.d (.int .i64 x89.Task))), (55, .l (.d (.bool w90)))], 76, [], [(33, [.own 53300, .own 53301, .own 53302, .own 53303])], [(53300, 3, 1, v86.1.map (eI .i64)), (53301, 3, 1, v86.2.1.map (eI .i64)), (53302, 3, 1, v86.2.2.1.map (eI .i64)), (53303, 3, 1, v86.2.2.2.1.map (eI .i64))]⟩) h (fun k90 hk90 h => ?_) (fun w90 h => ?_)
          · conv => whnf
            refine fkS h (fun h => ?_) (fun h => ?_)
            · conv => whnf
              exact jeS hk90 h (Weak.refl _)
            conv => whnf
            refine lenS a0 Task.enc rfl ?_
            conv => whnf
            exact jeS hk90 h (Weak.refl _)
          conv => whnf
          refine fkS h (fun h => ?_) (fun h => ?_)
          · conv => whnf
            exact rt (E := E_Bool) h rfl
          conv => whnf
          refine ⟨13, ?_⟩
          conv => whnf
          refine fkN h (fun q91 h => ?_) (fun q91 h => ?_)
          · conv => whnf
            refine ixS (enc := PoliceAsk.enc) h rfl (fun _ => rfl) (fun x98 h => ?_)
            conv => whnf
            refine liS ([x98.At] : List Int) (eI .i64) rfl rfl ?_
            conv => whnf
            refine apS (enc := (eI .i64)) (l1 := v86.1) (l2 := ([x98.At] : List Int)) h rfl rfl (fun _ => rfl) (fun h => ?_)
            conv => whnf
            refine drS (by kernel_rfl) ?_
            conv => whnf
            refine fork_t q91 ?_
            conv => whnf
            refine jeX hk87 h ?_
            conv => whnf
            refine WkF.step (Weak.rekey _ 69 53300 rfl) ?_
            conv => whnf
            exact WkF.refl _
          conv => whnf
          refine fkN h (fun q92 h => ?_) (fun q92 h => ?_)
          · conv => whnf
            refine ixS (enc := PoliceAsk.enc) h rfl (fun _ => rfl) (fun x97 h => ?_)
            conv => whnf
            refine liS ([x97.At] : List Int) (eI .i64) rfl rfl ?_
            conv => whnf
            refine apS (enc := (eI .i64)) (l1 := v86.2.1) (l2 := ([x97.At] : List Int)) h rfl rfl (fun _ => rfl) (fun h => ?_)
            conv => whnf
            refine drS (by kernel_rfl) ?_
            conv => whnf
            refine fork_f q91 ?_
            conv => whnf
            refine fork_t q92 ?_
            conv => whnf
            refine jeX hk87 h ?_
            conv => whnf
            refine WkF.step (Weak.rekey _ 69 53301 rfl) ?_
            conv => whnf
            exact WkF.refl _
          conv => whnf
          refine fkN h (fun q93 h => ?_) (fun q93 h => ?_)
          · conv => whnf
            refine ixS (enc := PoliceAsk.enc) h rfl (fun _ => rfl) (fun x96 h => ?_)
            conv => whnf
            refine liS ([x96.At] : List Int) (eI .i64) rfl rfl ?_
            conv => whnf
            refine apS (enc := (eI .i64)) (l1 := v86.2.2.1) (l2 := ([x96.At] : List Int)) h rfl rfl (fun _ => rfl) (fun h => ?_)
            conv => whnf
            refine drS (by kernel_rfl) ?_
            conv => whnf
            refine fork_f q91 ?_
            conv => whnf
            refine fork_f q92 ?_
            conv => whnf
            refine fork_t q93 ?_
            conv => whnf
            refine jeX hk87 h ?_
            conv => whnf
            refine WkF.step (Weak.rekey _ 69 53302 rfl) ?_
            conv => whnf
            exact WkF.refl _
          conv => whnf
          refine fkN h (fun q94 h => ?_) (fun q94 h => ?_)
          · conv => whnf
            refine ixS (enc := PoliceAsk.enc) h rfl (fun _ => rfl) (fun x95 h => ?_)
            conv => whnf
            refine liS ([x95.At] : List Int) (eI .i64) rfl rfl ?_
            conv => whnf
            refine apS (enc := (eI .i64)) (l1 := v86.2.2.2.1) (l2 := ([x95.At] : List Int)) h rfl rfl (fun _ => rfl) (fun h => ?_)
            conv => whnf
            refine drS (by kernel_rfl) ?_
            conv => whnf
            refine fork_f q91 ?_
            conv => whnf
            refine fork_f q92 ?_
            conv => whnf
            refine fork_f q93 ?_
            conv => whnf
            refine fork_t q94 ?_
            conv => whnf
            refine jeX hk87 h ?_
            conv => whnf
            refine WkF.step (Weak.rekey _ 69 53303 rfl) ?_
            conv => whnf
            exact WkF.refl _
          conv => whnf
          cases h
        conv => whnf
        refine jeX hk87 h ?_
        conv => whnf
        refine WkF.step (Weak.keepS _ [0, 1, 5, 6, 7]) ?_
        conv => whnf
        exact WkF.refl _
      conv => whnf
      exact leS hn86 h (Weak.refl _)
    conv => whnf
    refine caS (E := E_Bool) h (demand_Legal_w a0 ([v86.1, v86.2.1, v86.2.2.1, v86.2.2.2.1] : List (List Int))) rfl (fun _ => rfl) (fun x99 h => ?_)
    conv => whnf
    refine fkS h (fun h => ?_) (fun h => ?_)
    · conv => whnf
      refine caS (E := E_Bool) h law16_knows_w rfl (fun _ => rfl) (fun x100 h => ?_)
      conv => whnf
      exact rt (E := E_Bool) h rfl
    conv => whnf
    exact rt (E := E_Bool) h rfl
  conv => whnf
  refine mkF h (fun hb h => ?_) (fun h => ?_)
  · conv => whnf
    refine mkB tab 5 rfl rfl rfl rfl (of_decide_eq_true hb) (of_decide_eq_true hb) rfl rfl rfl (Nat.le_of_ble_eq_true rfl) (Nat.le_of_ble_eq_true rfl) (Nat.le_of_ble_eq_true rfl) rfl ?_
    conv => whnf
    refine lpX (fun v69 => ⟨[(0, .l (.d (.sl (a0.map Task.enc)))), (1, .l (.d (.sl (a1.map PoliceAsk.enc)))), (5, .l (.d (.sl (x5.map eB)))), (6, .l (.bsl 33 5 1)), (7, .l (.d (.int .i64 v69.2.2.2.2.2)))], 76, [], [(33, [.own 53300, .own 53301, .own 53302, .own 53303, .own 53304])], [(53300, 3, 1, v69.1.map (eI .i64)), (53301, 3, 1, v69.2.1.map (eI .i64)), (53302, 3, 1, v69.2.2.1.map (eI .i64)), (53303, 3, 1, v69.2.2.2.1.map (eI .i64)), (53304, 3, 1, v69.2.2.2.2.1.map (eI .i64))]⟩) h ?_ (fun _ nx69 hn69 v69 h => ?_)
    · conv => whnf
      refine WkF.step (Weak.nilBO _ 33 0 53300 3 1 _ rfl rfl) ?_
      conv => whnf
      refine WkF.step (Weak.nilBO _ 33 1 53301 3 1 _ rfl rfl) ?_
      conv => whnf
      refine WkF.step (Weak.nilBO _ 33 2 53302 3 1 _ rfl rfl) ?_
      conv => whnf
      refine WkF.step (Weak.nilBO _ 33 3 53303 3 1 _ rfl rfl) ?_
      conv => whnf
      refine WkF.step (Weak.nilBO _ 33 4 53304 3 1 _ rfl rfl) ?_
      conv => whnf
      exact WkF.refl _
    conv => whnf
    refine lenS a1 PoliceAsk.enc rfl ?_
    conv => whnf
    refine fkS h (fun h => ?_) (fun h => ?_)
    · conv => whnf
      refine jnS (fun w70 => ⟨[(0, .l (.d (.sl (a0.map Task.enc)))), (1, .l (.d (.sl (a1.map PoliceAsk.enc)))), (5, .l (.d (.sl (x5.map eB)))), (6, .l (.bsl 33 5 1)), (7, .l (.d (.int .i64 v69.2.2.2.2.2)))], 76, [], [(33, [.own 53300, .own 53301, .own 53302, .own 53303, .own 53304])], [(53300, 3, 1, w70.1.map (eI .i64)), (53301, 3, 1, w70.2.1.map (eI .i64)), (53302, 3, 1, w70.2.2.1.map (eI .i64)), (53303, 3, 1, w70.2.2.2.1.map (eI .i64)), (53304, 3, 1, w70.2.2.2.2.map (eI .i64))]⟩) h (fun k70 hk70 h => ?_) (fun w70 h => ?_)
      · conv => whnf
        refine ixS (enc := eB) h rfl (fun _ => rfl) (fun x71 h => ?_)
        conv => whnf
        refine fkS h (fun h => ?_) (fun h => ?_)
        · conv => whnf
          refine ixS (enc := PoliceAsk.enc) h rfl (fun _ => rfl) (fun x72 h => ?_)
          conv => whnf
          refine jnS (fun w73 => ⟨[(0, .l (.d (.sl (a0.map Task.enc)))), (1, .l (.d (.sl (a1.map PoliceAsk.enc)))), (5, .l (.d (.sl (x5.map eB)))), (6, .l (.bsl 33 5 1)), (7, .l (.d (.int .i64 v69.2.2.2.2.2))), (8, .l (.d (.int .i64 x72.Task))), (55, .l (.d (.bool w73)))], 76, [], [(33, [.own 53300, .own 53301, .own 53302, .own 53303, .own 53304])], [(53300, 3, 1, v69.1.map (eI .i64)), (53301, 3, 1, v69.2.1.map (eI .i64)), (53302, 3, 1, v69.2.2.1.map (eI .i64)), (53303, 3, 1, v69.2.2.2.1.map (eI .i64)), (53304, 3, 1, v69.2.2.2.2.1.map (eI .i64))]⟩) h (fun k73 hk73 h => ?_) (fun w73 h => ?_)
          · conv => whnf
            refine fkS h (fun h => ?_) (fun h => ?_)
            · conv => whnf
              exact jeS hk73 h (Weak.refl _)
            conv => whnf
            refine lenS a0 Task.enc rfl ?_
            conv => whnf
            exact jeS hk73 h (Weak.refl _)
          conv => whnf
          refine fkS h (fun h => ?_) (fun h => ?_)
          · conv => whnf
            exact rt (E := E_Bool) h rfl
          conv => whnf
          refine ⟨13, ?_⟩
          conv => whnf
          refine fkN h (fun q74 h => ?_) (fun q74 h => ?_)
          · conv => whnf
            refine ixS (enc := PoliceAsk.enc) h rfl (fun _ => rfl) (fun x83 h => ?_)
            conv => whnf
            refine liS ([x83.At] : List Int) (eI .i64) rfl rfl ?_
            conv => whnf
            refine apS (enc := (eI .i64)) (l1 := v69.1) (l2 := ([x83.At] : List Int)) h rfl rfl (fun _ => rfl) (fun h => ?_)
            conv => whnf
            refine drS (by kernel_rfl) ?_
            conv => whnf
            refine fork_t q74 ?_
            conv => whnf
            refine jeX hk70 h ?_
            conv => whnf
            refine WkF.step (Weak.rekey _ 69 53300 rfl) ?_
            conv => whnf
            exact WkF.refl _
          conv => whnf
          refine fkN h (fun q75 h => ?_) (fun q75 h => ?_)
          · conv => whnf
            refine ixS (enc := PoliceAsk.enc) h rfl (fun _ => rfl) (fun x82 h => ?_)
            conv => whnf
            refine liS ([x82.At] : List Int) (eI .i64) rfl rfl ?_
            conv => whnf
            refine apS (enc := (eI .i64)) (l1 := v69.2.1) (l2 := ([x82.At] : List Int)) h rfl rfl (fun _ => rfl) (fun h => ?_)
            conv => whnf
            refine drS (by kernel_rfl) ?_
            conv => whnf
            refine fork_f q74 ?_
            conv => whnf
            refine fork_t q75 ?_
            conv => whnf
            refine jeX hk70 h ?_
            conv => whnf
            refine WkF.step (Weak.rekey _ 69 53301 rfl) ?_
            conv => whnf
            exact WkF.refl _
          conv => whnf
          refine fkN h (fun q76 h => ?_) (fun q76 h => ?_)
          · conv => whnf
            refine ixS (enc := PoliceAsk.enc) h rfl (fun _ => rfl) (fun x81 h => ?_)
            conv => whnf
            refine liS ([x81.At] : List Int) (eI .i64) rfl rfl ?_
            conv => whnf
            refine apS (enc := (eI .i64)) (l1 := v69.2.2.1) (l2 := ([x81.At] : List Int)) h rfl rfl (fun _ => rfl) (fun h => ?_)
            conv => whnf
            refine drS (by kernel_rfl) ?_
            conv => whnf
            refine fork_f q74 ?_
            conv => whnf
            refine fork_f q75 ?_
            conv => whnf
            refine fork_t q76 ?_
            conv => whnf
            refine jeX hk70 h ?_
            conv => whnf
            refine WkF.step (Weak.rekey _ 69 53302 rfl) ?_
            conv => whnf
            exact WkF.refl _
          conv => whnf
          refine fkN h (fun q77 h => ?_) (fun q77 h => ?_)
          · conv => whnf
            refine ixS (enc := PoliceAsk.enc) h rfl (fun _ => rfl) (fun x80 h => ?_)
            conv => whnf
            refine liS ([x80.At] : List Int) (eI .i64) rfl rfl ?_
            conv => whnf
            refine apS (enc := (eI .i64)) (l1 := v69.2.2.2.1) (l2 := ([x80.At] : List Int)) h rfl rfl (fun _ => rfl) (fun h => ?_)
            conv => whnf
            refine drS (by kernel_rfl) ?_
            conv => whnf
            refine fork_f q74 ?_
            conv => whnf
            refine fork_f q75 ?_
            conv => whnf
            refine fork_f q76 ?_
            conv => whnf
            refine fork_t q77 ?_
            conv => whnf
            refine jeX hk70 h ?_
            conv => whnf
            refine WkF.step (Weak.rekey _ 69 53303 rfl) ?_
            conv => whnf
            exact WkF.refl _
          conv => whnf
          refine fkN h (fun q78 h => ?_) (fun q78 h => ?_)
          · conv => whnf
            refine ixS (enc := PoliceAsk.enc) h rfl (fun _ => rfl) (fun x79 h => ?_)
            conv => whnf
            refine liS ([x79.At] : List Int) (eI .i64) rfl rfl ?_
            conv => whnf
            refine apS (enc := (eI .i64)) (l1 := v69.2.2.2.2.1) (l2 := ([x79.At] : List Int)) h rfl rfl (fun _ => rfl) (fun h => ?_)
            conv => whnf
            refine drS (by kernel_rfl) ?_
            conv => whnf
            refine fork_f q74 ?_
            conv => whnf
            refine fork_f q75 ?_
            conv => whnf
            refine fork_f q76 ?_
            conv => whnf
            refine fork_f q77 ?_
            conv => whnf
            refine fork_t q78 ?_
            conv => whnf
            refine jeX hk70 h ?_
            conv => whnf
            refine WkF.step (Weak.rekey _ 69 53304 rfl) ?_
            conv => whnf
            exact WkF.refl _
          conv => whnf
          cases h
        conv => whnf
        refine jeX hk70 h ?_
        conv => whnf
        refine WkF.step (Weak.keepS _ [0, 1, 5, 6, 7]) ?_
        conv => whnf
        exact WkF.refl _
      conv => whnf
      exact leS hn69 h (Weak.refl _)
    conv => whnf
    refine caS (E := E_Bool) h (demand_Legal_w a0 ([v69.1, v69.2.1, v69.2.2.1, v69.2.2.2.1, v69.2.2.2.2.1] : List (List Int))) rfl (fun _ => rfl) (fun x84 h => ?_)
    conv => whnf
    refine fkS h (fun h => ?_) (fun h => ?_)
    · conv => whnf
      refine caS (E := E_Bool) h law16_knows_w rfl (fun _ => rfl) (fun x85 h => ?_)
      conv => whnf
      exact rt (E := E_Bool) h rfl
    conv => whnf
    exact rt (E := E_Bool) h rfl
  conv => whnf
  refine mkF h (fun hb h => ?_) (fun h => ?_)
  · conv => whnf
    refine mkB tab 6 rfl rfl rfl rfl (of_decide_eq_true hb) (of_decide_eq_true hb) rfl rfl rfl (Nat.le_of_ble_eq_true rfl) (Nat.le_of_ble_eq_true rfl) (Nat.le_of_ble_eq_true rfl) rfl ?_
    conv => whnf
    refine lpX (fun v50 => ⟨[(0, .l (.d (.sl (a0.map Task.enc)))), (1, .l (.d (.sl (a1.map PoliceAsk.enc)))), (5, .l (.d (.sl (x5.map eB)))), (6, .l (.bsl 33 6 1)), (7, .l (.d (.int .i64 v50.2.2.2.2.2.2)))], 76, [], [(33, [.own 53300, .own 53301, .own 53302, .own 53303, .own 53304, .own 53305])], [(53300, 3, 1, v50.1.map (eI .i64)), (53301, 3, 1, v50.2.1.map (eI .i64)), (53302, 3, 1, v50.2.2.1.map (eI .i64)), (53303, 3, 1, v50.2.2.2.1.map (eI .i64)), (53304, 3, 1, v50.2.2.2.2.1.map (eI .i64)), (53305, 3, 1, v50.2.2.2.2.2.1.map (eI .i64))]⟩) h ?_ (fun _ nx50 hn50 v50 h => ?_)
    · conv => whnf
      refine WkF.step (Weak.nilBO _ 33 0 53300 3 1 _ rfl rfl) ?_
      conv => whnf
      refine WkF.step (Weak.nilBO _ 33 1 53301 3 1 _ rfl rfl) ?_
      conv => whnf
      refine WkF.step (Weak.nilBO _ 33 2 53302 3 1 _ rfl rfl) ?_
      conv => whnf
      refine WkF.step (Weak.nilBO _ 33 3 53303 3 1 _ rfl rfl) ?_
      conv => whnf
      refine WkF.step (Weak.nilBO _ 33 4 53304 3 1 _ rfl rfl) ?_
      conv => whnf
      refine WkF.step (Weak.nilBO _ 33 5 53305 3 1 _ rfl rfl) ?_
      conv => whnf
      exact WkF.refl _
    conv => whnf
    refine lenS a1 PoliceAsk.enc rfl ?_
    conv => whnf
    refine fkS h (fun h => ?_) (fun h => ?_)
    · conv => whnf
      refine jnS (fun w51 => ⟨[(0, .l (.d (.sl (a0.map Task.enc)))), (1, .l (.d (.sl (a1.map PoliceAsk.enc)))), (5, .l (.d (.sl (x5.map eB)))), (6, .l (.bsl 33 6 1)), (7, .l (.d (.int .i64 v50.2.2.2.2.2.2)))], 76, [], [(33, [.own 53300, .own 53301, .own 53302, .own 53303, .own 53304, .own 53305])], [(53300, 3, 1, w51.1.map (eI .i64)), (53301, 3, 1, w51.2.1.map (eI .i64)), (53302, 3, 1, w51.2.2.1.map (eI .i64)), (53303, 3, 1, w51.2.2.2.1.map (eI .i64)), (53304, 3, 1, w51.2.2.2.2.1.map (eI .i64)), (53305, 3, 1, w51.2.2.2.2.2.map (eI .i64))]⟩) h (fun k51 hk51 h => ?_) (fun w51 h => ?_)
      · conv => whnf
        refine ixS (enc := eB) h rfl (fun _ => rfl) (fun x52 h => ?_)
        conv => whnf
        refine fkS h (fun h => ?_) (fun h => ?_)
        · conv => whnf
          refine ixS (enc := PoliceAsk.enc) h rfl (fun _ => rfl) (fun x53 h => ?_)
          conv => whnf
          refine jnS (fun w54 => ⟨[(0, .l (.d (.sl (a0.map Task.enc)))), (1, .l (.d (.sl (a1.map PoliceAsk.enc)))), (5, .l (.d (.sl (x5.map eB)))), (6, .l (.bsl 33 6 1)), (7, .l (.d (.int .i64 v50.2.2.2.2.2.2))), (8, .l (.d (.int .i64 x53.Task))), (55, .l (.d (.bool w54)))], 76, [], [(33, [.own 53300, .own 53301, .own 53302, .own 53303, .own 53304, .own 53305])], [(53300, 3, 1, v50.1.map (eI .i64)), (53301, 3, 1, v50.2.1.map (eI .i64)), (53302, 3, 1, v50.2.2.1.map (eI .i64)), (53303, 3, 1, v50.2.2.2.1.map (eI .i64)), (53304, 3, 1, v50.2.2.2.2.1.map (eI .i64)), (53305, 3, 1, v50.2.2.2.2.2.1.map (eI .i64))]⟩) h (fun k54 hk54 h => ?_) (fun w54 h => ?_)
          · conv => whnf
            refine fkS h (fun h => ?_) (fun h => ?_)
            · conv => whnf
              exact jeS hk54 h (Weak.refl _)
            conv => whnf
            refine lenS a0 Task.enc rfl ?_
            conv => whnf
            exact jeS hk54 h (Weak.refl _)
          conv => whnf
          refine fkS h (fun h => ?_) (fun h => ?_)
          · conv => whnf
            exact rt (E := E_Bool) h rfl
          conv => whnf
          refine ⟨13, ?_⟩
          conv => whnf
          refine fkN h (fun q55 h => ?_) (fun q55 h => ?_)
          · conv => whnf
            refine ixS (enc := PoliceAsk.enc) h rfl (fun _ => rfl) (fun x66 h => ?_)
            conv => whnf
            refine liS ([x66.At] : List Int) (eI .i64) rfl rfl ?_
            conv => whnf
            refine apS (enc := (eI .i64)) (l1 := v50.1) (l2 := ([x66.At] : List Int)) h rfl rfl (fun _ => rfl) (fun h => ?_)
            conv => whnf
            refine drS (by kernel_rfl) ?_
            conv => whnf
            refine fork_t q55 ?_
            conv => whnf
            refine jeX hk51 h ?_
            conv => whnf
            refine WkF.step (Weak.rekey _ 69 53300 rfl) ?_
            conv => whnf
            exact WkF.refl _
          conv => whnf
          refine fkN h (fun q56 h => ?_) (fun q56 h => ?_)
          · conv => whnf
            refine ixS (enc := PoliceAsk.enc) h rfl (fun _ => rfl) (fun x65 h => ?_)
            conv => whnf
            refine liS ([x65.At] : List Int) (eI .i64) rfl rfl ?_
            conv => whnf
            refine apS (enc := (eI .i64)) (l1 := v50.2.1) (l2 := ([x65.At] : List Int)) h rfl rfl (fun _ => rfl) (fun h => ?_)
            conv => whnf
            refine drS (by kernel_rfl) ?_
            conv => whnf
            refine fork_f q55 ?_
            conv => whnf
            refine fork_t q56 ?_
            conv => whnf
            refine jeX hk51 h ?_
            conv => whnf
            refine WkF.step (Weak.rekey _ 69 53301 rfl) ?_
            conv => whnf
            exact WkF.refl _
          conv => whnf
          refine fkN h (fun q57 h => ?_) (fun q57 h => ?_)
          · conv => whnf
            refine ixS (enc := PoliceAsk.enc) h rfl (fun _ => rfl) (fun x64 h => ?_)
            conv => whnf
            refine liS ([x64.At] : List Int) (eI .i64) rfl rfl ?_
            conv => whnf
            refine apS (enc := (eI .i64)) (l1 := v50.2.2.1) (l2 := ([x64.At] : List Int)) h rfl rfl (fun _ => rfl) (fun h => ?_)
            conv => whnf
            refine drS (by kernel_rfl) ?_
            conv => whnf
            refine fork_f q55 ?_
            conv => whnf
            refine fork_f q56 ?_
            conv => whnf
            refine fork_t q57 ?_
            conv => whnf
            refine jeX hk51 h ?_
            conv => whnf
            refine WkF.step (Weak.rekey _ 69 53302 rfl) ?_
            conv => whnf
            exact WkF.refl _
          conv => whnf
          refine fkN h (fun q58 h => ?_) (fun q58 h => ?_)
          · conv => whnf
            refine ixS (enc := PoliceAsk.enc) h rfl (fun _ => rfl) (fun x63 h => ?_)
            conv => whnf
            refine liS ([x63.At] : List Int) (eI .i64) rfl rfl ?_
            conv => whnf
            refine apS (enc := (eI .i64)) (l1 := v50.2.2.2.1) (l2 := ([x63.At] : List Int)) h rfl rfl (fun _ => rfl) (fun h => ?_)
            conv => whnf
            refine drS (by kernel_rfl) ?_
            conv => whnf
            refine fork_f q55 ?_
            conv => whnf
            refine fork_f q56 ?_
            conv => whnf
            refine fork_f q57 ?_
            conv => whnf
            refine fork_t q58 ?_
            conv => whnf
            refine jeX hk51 h ?_
            conv => whnf
            refine WkF.step (Weak.rekey _ 69 53303 rfl) ?_
            conv => whnf
            exact WkF.refl _
          conv => whnf
          refine fkN h (fun q59 h => ?_) (fun q59 h => ?_)
          · conv => whnf
            refine ixS (enc := PoliceAsk.enc) h rfl (fun _ => rfl) (fun x62 h => ?_)
            conv => whnf
            refine liS ([x62.At] : List Int) (eI .i64) rfl rfl ?_
            conv => whnf
            refine apS (enc := (eI .i64)) (l1 := v50.2.2.2.2.1) (l2 := ([x62.At] : List Int)) h rfl rfl (fun _ => rfl) (fun h => ?_)
            conv => whnf
            refine drS (by kernel_rfl) ?_
            conv => whnf
            refine fork_f q55 ?_
            conv => whnf
            refine fork_f q56 ?_
            conv => whnf
            refine fork_f q57 ?_
            conv => whnf
            refine fork_f q58 ?_
            conv => whnf
            refine fork_t q59 ?_
            conv => whnf
            refine jeX hk51 h ?_
            conv => whnf
            refine WkF.step (Weak.rekey _ 69 53304 rfl) ?_
            conv => whnf
            exact WkF.refl _
          conv => whnf
          refine fkN h (fun q60 h => ?_) (fun q60 h => ?_)
          · conv => whnf
            refine ixS (enc := PoliceAsk.enc) h rfl (fun _ => rfl) (fun x61 h => ?_)
            conv => whnf
            refine liS ([x61.At] : List Int) (eI .i64) rfl rfl ?_
            conv => whnf
            refine apS (enc := (eI .i64)) (l1 := v50.2.2.2.2.2.1) (l2 := ([x61.At] : List Int)) h rfl rfl (fun _ => rfl) (fun h => ?_)
            conv => whnf
            refine drS (by kernel_rfl) ?_
            conv => whnf
            refine fork_f q55 ?_
            conv => whnf
            refine fork_f q56 ?_
            conv => whnf
            refine fork_f q57 ?_
            conv => whnf
            refine fork_f q58 ?_
            conv => whnf
            refine fork_f q59 ?_
            conv => whnf
            refine fork_t q60 ?_
            conv => whnf
            refine jeX hk51 h ?_
            conv => whnf
            refine WkF.step (Weak.rekey _ 69 53305 rfl) ?_
            conv => whnf
            exact WkF.refl _
          conv => whnf
          cases h
        conv => whnf
        refine jeX hk51 h ?_
        conv => whnf
        refine WkF.step (Weak.keepS _ [0, 1, 5, 6, 7]) ?_
        conv => whnf
        exact WkF.refl _
      conv => whnf
      exact leS hn50 h (Weak.refl _)
    conv => whnf
    refine caS (E := E_Bool) h (demand_Legal_w a0 ([v50.1, v50.2.1, v50.2.2.1, v50.2.2.2.1, v50.2.2.2.2.1, v50.2.2.2.2.2.1] : List (List Int))) rfl (fun _ => rfl) (fun x67 h => ?_)
    conv => whnf
    refine fkS h (fun h => ?_) (fun h => ?_)
    · conv => whnf
      refine caS (E := E_Bool) h law16_knows_w rfl (fun _ => rfl) (fun x68 h => ?_)
      conv => whnf
      exact rt (E := E_Bool) h rfl
    conv => whnf
    exact rt (E := E_Bool) h rfl
  conv => whnf
  refine mkF h (fun hb h => ?_) (fun h => ?_)
  · conv => whnf
    refine mkB tab 7 rfl rfl rfl rfl (of_decide_eq_true hb) (of_decide_eq_true hb) rfl rfl rfl (Nat.le_of_ble_eq_true rfl) (Nat.le_of_ble_eq_true rfl) (Nat.le_of_ble_eq_true rfl) rfl ?_
    conv => whnf
    refine lpX (fun v29 => ⟨[(0, .l (.d (.sl (a0.map Task.enc)))), (1, .l (.d (.sl (a1.map PoliceAsk.enc)))), (5, .l (.d (.sl (x5.map eB)))), (6, .l (.bsl 33 7 1)), (7, .l (.d (.int .i64 v29.2.2.2.2.2.2.2)))], 76, [], [(33, [.own 53300, .own 53301, .own 53302, .own 53303, .own 53304, .own 53305, .own 53306])], [(53300, 3, 1, v29.1.map (eI .i64)), (53301, 3, 1, v29.2.1.map (eI .i64)), (53302, 3, 1, v29.2.2.1.map (eI .i64)), (53303, 3, 1, v29.2.2.2.1.map (eI .i64)), (53304, 3, 1, v29.2.2.2.2.1.map (eI .i64)), (53305, 3, 1, v29.2.2.2.2.2.1.map (eI .i64)), (53306, 3, 1, v29.2.2.2.2.2.2.1.map (eI .i64))]⟩) h ?_ (fun _ nx29 hn29 v29 h => ?_)
    · conv => whnf
      refine WkF.step (Weak.nilBO _ 33 0 53300 3 1 _ rfl rfl) ?_
      conv => whnf
      refine WkF.step (Weak.nilBO _ 33 1 53301 3 1 _ rfl rfl) ?_
      conv => whnf
      refine WkF.step (Weak.nilBO _ 33 2 53302 3 1 _ rfl rfl) ?_
      conv => whnf
      refine WkF.step (Weak.nilBO _ 33 3 53303 3 1 _ rfl rfl) ?_
      conv => whnf
      refine WkF.step (Weak.nilBO _ 33 4 53304 3 1 _ rfl rfl) ?_
      conv => whnf
      refine WkF.step (Weak.nilBO _ 33 5 53305 3 1 _ rfl rfl) ?_
      conv => whnf
      refine WkF.step (Weak.nilBO _ 33 6 53306 3 1 _ rfl rfl) ?_
      conv => whnf
      exact WkF.refl _
    conv => whnf
    refine lenS a1 PoliceAsk.enc rfl ?_
    conv => whnf
    refine fkS h (fun h => ?_) (fun h => ?_)
    · conv => whnf
      refine jnS (fun w30 => ⟨[(0, .l (.d (.sl (a0.map Task.enc)))), (1, .l (.d (.sl (a1.map PoliceAsk.enc)))), (5, .l (.d (.sl (x5.map eB)))), (6, .l (.bsl 33 7 1)), (7, .l (.d (.int .i64 v29.2.2.2.2.2.2.2)))], 76, [], [(33, [.own 53300, .own 53301, .own 53302, .own 53303, .own 53304, .own 53305, .own 53306])], [(53300, 3, 1, w30.1.map (eI .i64)), (53301, 3, 1, w30.2.1.map (eI .i64)), (53302, 3, 1, w30.2.2.1.map (eI .i64)), (53303, 3, 1, w30.2.2.2.1.map (eI .i64)), (53304, 3, 1, w30.2.2.2.2.1.map (eI .i64)), (53305, 3, 1, w30.2.2.2.2.2.1.map (eI .i64)), (53306, 3, 1, w30.2.2.2.2.2.2.map (eI .i64))]⟩) h (fun k30 hk30 h => ?_) (fun w30 h => ?_)
      · conv => whnf
        refine ixS (enc := eB) h rfl (fun _ => rfl) (fun x31 h => ?_)
        conv => whnf
        refine fkS h (fun h => ?_) (fun h => ?_)
        · conv => whnf
          refine ixS (enc := PoliceAsk.enc) h rfl (fun _ => rfl) (fun x32 h => ?_)
          conv => whnf
          refine jnS (fun w33 => ⟨[(0, .l (.d (.sl (a0.map Task.enc)))), (1, .l (.d (.sl (a1.map PoliceAsk.enc)))), (5, .l (.d (.sl (x5.map eB)))), (6, .l (.bsl 33 7 1)), (7, .l (.d (.int .i64 v29.2.2.2.2.2.2.2))), (8, .l (.d (.int .i64 x32.Task))), (55, .l (.d (.bool w33)))], 76, [], [(33, [.own 53300, .own 53301, .own 53302, .own 53303, .own 53304, .own 53305, .own 53306])], [(53300, 3, 1, v29.1.map (eI .i64)), (53301, 3, 1, v29.2.1.map (eI .i64)), (53302, 3, 1, v29.2.2.1.map (eI .i64)), (53303, 3, 1, v29.2.2.2.1.map (eI .i64)), (53304, 3, 1, v29.2.2.2.2.1.map (eI .i64)), (53305, 3, 1, v29.2.2.2.2.2.1.map (eI .i64)), (53306, 3, 1, v29.2.2.2.2.2.2.1.map (eI .i64))]⟩) h (fun k33 hk33 h => ?_) (fun w33 h => ?_)
          · conv => whnf
            refine fkS h (fun h => ?_) (fun h => ?_)
            · conv => whnf
              exact jeS hk33 h (Weak.refl _)
            conv => whnf
            refine lenS a0 Task.enc rfl ?_
            conv => whnf
            exact jeS hk33 h (Weak.refl _)
          conv => whnf
          refine fkS h (fun h => ?_) (fun h => ?_)
          · conv => whnf
            exact rt (E := E_Bool) h rfl
          conv => whnf
          refine ⟨13, ?_⟩
          conv => whnf
          refine fkN h (fun q34 h => ?_) (fun q34 h => ?_)
          · conv => whnf
            refine ixS (enc := PoliceAsk.enc) h rfl (fun _ => rfl) (fun x47 h => ?_)
            conv => whnf
            refine liS ([x47.At] : List Int) (eI .i64) rfl rfl ?_
            conv => whnf
            refine apS (enc := (eI .i64)) (l1 := v29.1) (l2 := ([x47.At] : List Int)) h rfl rfl (fun _ => rfl) (fun h => ?_)
            conv => whnf
            refine drS (by kernel_rfl) ?_
            conv => whnf
            refine fork_t q34 ?_
            conv => whnf
            refine jeX hk30 h ?_
            conv => whnf
            refine WkF.step (Weak.rekey _ 69 53300 rfl) ?_
            conv => whnf
            exact WkF.refl _
          conv => whnf
          refine fkN h (fun q35 h => ?_) (fun q35 h => ?_)
          · conv => whnf
            refine ixS (enc := PoliceAsk.enc) h rfl (fun _ => rfl) (fun x46 h => ?_)
            conv => whnf
            refine liS ([x46.At] : List Int) (eI .i64) rfl rfl ?_
            conv => whnf
            refine apS (enc := (eI .i64)) (l1 := v29.2.1) (l2 := ([x46.At] : List Int)) h rfl rfl (fun _ => rfl) (fun h => ?_)
            conv => whnf
            refine drS (by kernel_rfl) ?_
            conv => whnf
            refine fork_f q34 ?_
            conv => whnf
            refine fork_t q35 ?_
            conv => whnf
            refine jeX hk30 h ?_
            conv => whnf
            refine WkF.step (Weak.rekey _ 69 53301 rfl) ?_
            conv => whnf
            exact WkF.refl _
          conv => whnf
          refine fkN h (fun q36 h => ?_) (fun q36 h => ?_)
          · conv => whnf
            refine ixS (enc := PoliceAsk.enc) h rfl (fun _ => rfl) (fun x45 h => ?_)
            conv => whnf
            refine liS ([x45.At] : List Int) (eI .i64) rfl rfl ?_
            conv => whnf
            refine apS (enc := (eI .i64)) (l1 := v29.2.2.1) (l2 := ([x45.At] : List Int)) h rfl rfl (fun _ => rfl) (fun h => ?_)
            conv => whnf
            refine drS (by kernel_rfl) ?_
            conv => whnf
            refine fork_f q34 ?_
            conv => whnf
            refine fork_f q35 ?_
            conv => whnf
            refine fork_t q36 ?_
            conv => whnf
            refine jeX hk30 h ?_
            conv => whnf
            refine WkF.step (Weak.rekey _ 69 53302 rfl) ?_
            conv => whnf
            exact WkF.refl _
          conv => whnf
          refine fkN h (fun q37 h => ?_) (fun q37 h => ?_)
          · conv => whnf
            refine ixS (enc := PoliceAsk.enc) h rfl (fun _ => rfl) (fun x44 h => ?_)
            conv => whnf
            refine liS ([x44.At] : List Int) (eI .i64) rfl rfl ?_
            conv => whnf
            refine apS (enc := (eI .i64)) (l1 := v29.2.2.2.1) (l2 := ([x44.At] : List Int)) h rfl rfl (fun _ => rfl) (fun h => ?_)
            conv => whnf
            refine drS (by kernel_rfl) ?_
            conv => whnf
            refine fork_f q34 ?_
            conv => whnf
            refine fork_f q35 ?_
            conv => whnf
            refine fork_f q36 ?_
            conv => whnf
            refine fork_t q37 ?_
            conv => whnf
            refine jeX hk30 h ?_
            conv => whnf
            refine WkF.step (Weak.rekey _ 69 53303 rfl) ?_
            conv => whnf
            exact WkF.refl _
          conv => whnf
          refine fkN h (fun q38 h => ?_) (fun q38 h => ?_)
          · conv => whnf
            refine ixS (enc := PoliceAsk.enc) h rfl (fun _ => rfl) (fun x43 h => ?_)
            conv => whnf
            refine liS ([x43.At] : List Int) (eI .i64) rfl rfl ?_
            conv => whnf
            refine apS (enc := (eI .i64)) (l1 := v29.2.2.2.2.1) (l2 := ([x43.At] : List Int)) h rfl rfl (fun _ => rfl) (fun h => ?_)
            conv => whnf
            refine drS (by kernel_rfl) ?_
            conv => whnf
            refine fork_f q34 ?_
            conv => whnf
            refine fork_f q35 ?_
            conv => whnf
            refine fork_f q36 ?_
            conv => whnf
            refine fork_f q37 ?_
            conv => whnf
            refine fork_t q38 ?_
            conv => whnf
            refine jeX hk30 h ?_
            conv => whnf
            refine WkF.step (Weak.rekey _ 69 53304 rfl) ?_
            conv => whnf
            exact WkF.refl _
          conv => whnf
          refine fkN h (fun q39 h => ?_) (fun q39 h => ?_)
          · conv => whnf
            refine ixS (enc := PoliceAsk.enc) h rfl (fun _ => rfl) (fun x42 h => ?_)
            conv => whnf
            refine liS ([x42.At] : List Int) (eI .i64) rfl rfl ?_
            conv => whnf
            refine apS (enc := (eI .i64)) (l1 := v29.2.2.2.2.2.1) (l2 := ([x42.At] : List Int)) h rfl rfl (fun _ => rfl) (fun h => ?_)
            conv => whnf
            refine drS (by kernel_rfl) ?_
            conv => whnf
            refine fork_f q34 ?_
            conv => whnf
            refine fork_f q35 ?_
            conv => whnf
            refine fork_f q36 ?_
            conv => whnf
            refine fork_f q37 ?_
            conv => whnf
            refine fork_f q38 ?_
            conv => whnf
            refine fork_t q39 ?_
            conv => whnf
            refine jeX hk30 h ?_
            conv => whnf
            refine WkF.step (Weak.rekey _ 69 53305 rfl) ?_
            conv => whnf
            exact WkF.refl _
          conv => whnf
          refine fkN h (fun q40 h => ?_) (fun q40 h => ?_)
          · conv => whnf
            refine ixS (enc := PoliceAsk.enc) h rfl (fun _ => rfl) (fun x41 h => ?_)
            conv => whnf
            refine liS ([x41.At] : List Int) (eI .i64) rfl rfl ?_
            conv => whnf
            refine apS (enc := (eI .i64)) (l1 := v29.2.2.2.2.2.2.1) (l2 := ([x41.At] : List Int)) h rfl rfl (fun _ => rfl) (fun h => ?_)
            conv => whnf
            refine drS (by kernel_rfl) ?_
            conv => whnf
            refine fork_f q34 ?_
            conv => whnf
            refine fork_f q35 ?_
            conv => whnf
            refine fork_f q36 ?_
            conv => whnf
            refine fork_f q37 ?_
            conv => whnf
            refine fork_f q38 ?_
            conv => whnf
            refine fork_f q39 ?_
            conv => whnf
            refine fork_t q40 ?_
            conv => whnf
            refine jeX hk30 h ?_
            conv => whnf
            refine WkF.step (Weak.rekey _ 69 53306 rfl) ?_
            conv => whnf
            exact WkF.refl _
          conv => whnf
          cases h
        conv => whnf
        refine jeX hk30 h ?_
        conv => whnf
        refine WkF.step (Weak.keepS _ [0, 1, 5, 6, 7]) ?_
        conv => whnf
        exact WkF.refl _
      conv => whnf
      exact leS hn29 h (Weak.refl _)
    conv => whnf
    refine caS (E := E_Bool) h (demand_Legal_w a0 ([v29.1, v29.2.1, v29.2.2.1, v29.2.2.2.1, v29.2.2.2.2.1, v29.2.2.2.2.2.1, v29.2.2.2.2.2.2.1] : List (List Int))) rfl (fun _ => rfl) (fun x48 h => ?_)
    conv => whnf
    refine fkS h (fun h => ?_) (fun h => ?_)
    · conv => whnf
      refine caS (E := E_Bool) h law16_knows_w rfl (fun _ => rfl) (fun x49 h => ?_)
      conv => whnf
      exact rt (E := E_Bool) h rfl
    conv => whnf
    exact rt (E := E_Bool) h rfl
  conv => whnf
  refine mkF h (fun hb h => ?_) (fun h => ?_)
  · conv => whnf
    refine mkB tab 8 rfl rfl rfl rfl (of_decide_eq_true hb) (of_decide_eq_true hb) rfl rfl rfl (Nat.le_of_ble_eq_true rfl) (Nat.le_of_ble_eq_true rfl) (Nat.le_of_ble_eq_true rfl) rfl ?_
    conv => whnf
    refine lpX (fun v6 => ⟨[(0, .l (.d (.sl (a0.map Task.enc)))), (1, .l (.d (.sl (a1.map PoliceAsk.enc)))), (5, .l (.d (.sl (x5.map eB)))), (6, .l (.bsl 33 8 1)), (7, .l (.d (.int .i64 v6.2.2.2.2.2.2.2.2)))], 76, [], [(33, [.own 53300, .own 53301, .own 53302, .own 53303, .own 53304, .own 53305, .own 53306, .own 53307])], [(53300, 3, 1, v6.1.map (eI .i64)), (53301, 3, 1, v6.2.1.map (eI .i64)), (53302, 3, 1, v6.2.2.1.map (eI .i64)), (53303, 3, 1, v6.2.2.2.1.map (eI .i64)), (53304, 3, 1, v6.2.2.2.2.1.map (eI .i64)), (53305, 3, 1, v6.2.2.2.2.2.1.map (eI .i64)), (53306, 3, 1, v6.2.2.2.2.2.2.1.map (eI .i64)), (53307, 3, 1, v6.2.2.2.2.2.2.2.1.map (eI .i64))]⟩) h ?_ (fun _ nx6 hn6 v6 h => ?_)
    · conv => whnf
      refine WkF.step (Weak.nilBO _ 33 0 53300 3 1 _ rfl rfl) ?_
      conv => whnf
      refine WkF.step (Weak.nilBO _ 33 1 53301 3 1 _ rfl rfl) ?_
      conv => whnf
      refine WkF.step (Weak.nilBO _ 33 2 53302 3 1 _ rfl rfl) ?_
      conv => whnf
      refine WkF.step (Weak.nilBO _ 33 3 53303 3 1 _ rfl rfl) ?_
      conv => whnf
      refine WkF.step (Weak.nilBO _ 33 4 53304 3 1 _ rfl rfl) ?_
      conv => whnf
      refine WkF.step (Weak.nilBO _ 33 5 53305 3 1 _ rfl rfl) ?_
      conv => whnf
      refine WkF.step (Weak.nilBO _ 33 6 53306 3 1 _ rfl rfl) ?_
      conv => whnf
      refine WkF.step (Weak.nilBO _ 33 7 53307 3 1 _ rfl rfl) ?_
      conv => whnf
      exact WkF.refl _
    conv => whnf
    refine lenS a1 PoliceAsk.enc rfl ?_
    conv => whnf
    refine fkS h (fun h => ?_) (fun h => ?_)
    · conv => whnf
      refine jnS (fun w7 => ⟨[(0, .l (.d (.sl (a0.map Task.enc)))), (1, .l (.d (.sl (a1.map PoliceAsk.enc)))), (5, .l (.d (.sl (x5.map eB)))), (6, .l (.bsl 33 8 1)), (7, .l (.d (.int .i64 v6.2.2.2.2.2.2.2.2)))], 76, [], [(33, [.own 53300, .own 53301, .own 53302, .own 53303, .own 53304, .own 53305, .own 53306, .own 53307])], [(53300, 3, 1, w7.1.map (eI .i64)), (53301, 3, 1, w7.2.1.map (eI .i64)), (53302, 3, 1, w7.2.2.1.map (eI .i64)), (53303, 3, 1, w7.2.2.2.1.map (eI .i64)), (53304, 3, 1, w7.2.2.2.2.1.map (eI .i64)), (53305, 3, 1, w7.2.2.2.2.2.1.map (eI .i64)), (53306, 3, 1, w7.2.2.2.2.2.2.1.map (eI .i64)), (53307, 3, 1, w7.2.2.2.2.2.2.2.map (eI .i64))]⟩) h (fun k7 hk7 h => ?_) (fun w7 h => ?_)
      · conv => whnf
        refine ixS (enc := eB) h rfl (fun _ => rfl) (fun x8 h => ?_)
        conv => whnf
        refine fkS h (fun h => ?_) (fun h => ?_)
        · conv => whnf
          refine ixS (enc := PoliceAsk.enc) h rfl (fun _ => rfl) (fun x9 h => ?_)
          conv => whnf
          refine jnS (fun w10 => ⟨[(0, .l (.d (.sl (a0.map Task.enc)))), (1, .l (.d (.sl (a1.map PoliceAsk.enc)))), (5, .l (.d (.sl (x5.map eB)))), (6, .l (.bsl 33 8 1)), (7, .l (.d (.int .i64 v6.2.2.2.2.2.2.2.2))), (8, .l (.d (.int .i64 x9.Task))), (55, .l (.d (.bool w10)))], 76, [], [(33, [.own 53300, .own 53301, .own 53302, .own 53303, .own 53304, .own 53305, .own 53306, .own 53307])], [(53300, 3, 1, v6.1.map (eI .i64)), (53301, 3, 1, v6.2.1.map (eI .i64)), (53302, 3, 1, v6.2.2.1.map (eI .i64)), (53303, 3, 1, v6.2.2.2.1.map (eI .i64)), (53304, 3, 1, v6.2.2.2.2.1.map (eI .i64)), (53305, 3, 1, v6.2.2.2.2.2.1.map (eI .i64)), (53306, 3, 1, v6.2.2.2.2.2.2.1.map (eI .i64)), (53307, 3, 1, v6.2.2.2.2.2.2.2.1.map (eI .i64))]⟩) h (fun k10 hk10 h => ?_) (fun w10 h => ?_)
          · conv => whnf
            refine fkS h (fun h => ?_) (fun h => ?_)
            · conv => whnf
              exact jeS hk10 h (Weak.refl _)
            conv => whnf
            refine lenS a0 Task.enc rfl ?_
            conv => whnf
            exact jeS hk10 h (Weak.refl _)
          conv => whnf
          refine fkS h (fun h => ?_) (fun h => ?_)
          · conv => whnf
            exact rt (E := E_Bool) h rfl
          conv => whnf
          refine ⟨13, ?_⟩
          conv => whnf
          refine fkN h (fun q11 h => ?_) (fun q11 h => ?_)
          · conv => whnf
            refine ixS (enc := PoliceAsk.enc) h rfl (fun _ => rfl) (fun x26 h => ?_)
            conv => whnf
            refine liS ([x26.At] : List Int) (eI .i64) rfl rfl ?_
            conv => whnf
            refine apS (enc := (eI .i64)) (l1 := v6.1) (l2 := ([x26.At] : List Int)) h rfl rfl (fun _ => rfl) (fun h => ?_)
            conv => whnf
            refine drS (by kernel_rfl) ?_
            conv => whnf
            refine fork_t q11 ?_
            conv => whnf
            refine jeX hk7 h ?_
            conv => whnf
            refine WkF.step (Weak.rekey _ 69 53300 rfl) ?_
            conv => whnf
            exact WkF.refl _
          conv => whnf
          refine fkN h (fun q12 h => ?_) (fun q12 h => ?_)
          · conv => whnf
            refine ixS (enc := PoliceAsk.enc) h rfl (fun _ => rfl) (fun x25 h => ?_)
            conv => whnf
            refine liS ([x25.At] : List Int) (eI .i64) rfl rfl ?_
            conv => whnf
            refine apS (enc := (eI .i64)) (l1 := v6.2.1) (l2 := ([x25.At] : List Int)) h rfl rfl (fun _ => rfl) (fun h => ?_)
            conv => whnf
            refine drS (by kernel_rfl) ?_
            conv => whnf
            refine fork_f q11 ?_
            conv => whnf
            refine fork_t q12 ?_
            conv => whnf
            refine jeX hk7 h ?_
            conv => whnf
            refine WkF.step (Weak.rekey _ 69 53301 rfl) ?_
            conv => whnf
            exact WkF.refl _
          conv => whnf
          refine fkN h (fun q13 h => ?_) (fun q13 h => ?_)
          · conv => whnf
            refine ixS (enc := PoliceAsk.enc) h rfl (fun _ => rfl) (fun x24 h => ?_)
            conv => whnf
            refine liS ([x24.At] : List Int) (eI .i64) rfl rfl ?_
            conv => whnf
            refine apS (enc := (eI .i64)) (l1 := v6.2.2.1) (l2 := ([x24.At] : List Int)) h rfl rfl (fun _ => rfl) (fun h => ?_)
            conv => whnf
            refine drS (by kernel_rfl) ?_
            conv => whnf
            refine fork_f q11 ?_
            conv => whnf
            refine fork_f q12 ?_
            conv => whnf
            refine fork_t q13 ?_
            conv => whnf
            refine jeX hk7 h ?_
            conv => whnf
            refine WkF.step (Weak.rekey _ 69 53302 rfl) ?_
            conv => whnf
            exact WkF.refl _
          conv => whnf
          refine fkN h (fun q14 h => ?_) (fun q14 h => ?_)
          · conv => whnf
            refine ixS (enc := PoliceAsk.enc) h rfl (fun _ => rfl) (fun x23 h => ?_)
            conv => whnf
            refine liS ([x23.At] : List Int) (eI .i64) rfl rfl ?_
            conv => whnf
            refine apS (enc := (eI .i64)) (l1 := v6.2.2.2.1) (l2 := ([x23.At] : List Int)) h rfl rfl (fun _ => rfl) (fun h => ?_)
            conv => whnf
            refine drS (by kernel_rfl) ?_
            conv => whnf
            refine fork_f q11 ?_
            conv => whnf
            refine fork_f q12 ?_
            conv => whnf
            refine fork_f q13 ?_
            conv => whnf
            refine fork_t q14 ?_
            conv => whnf
            refine jeX hk7 h ?_
            conv => whnf
            refine WkF.step (Weak.rekey _ 69 53303 rfl) ?_
            conv => whnf
            exact WkF.refl _
          conv => whnf
          refine fkN h (fun q15 h => ?_) (fun q15 h => ?_)
          · conv => whnf
            refine ixS (enc := PoliceAsk.enc) h rfl (fun _ => rfl) (fun x22 h => ?_)
            conv => whnf
            refine liS ([x22.At] : List Int) (eI .i64) rfl rfl ?_
            conv => whnf
            refine apS (enc := (eI .i64)) (l1 := v6.2.2.2.2.1) (l2 := ([x22.At] : List Int)) h rfl rfl (fun _ => rfl) (fun h => ?_)
            conv => whnf
            refine drS (by kernel_rfl) ?_
            conv => whnf
            refine fork_f q11 ?_
            conv => whnf
            refine fork_f q12 ?_
            conv => whnf
            refine fork_f q13 ?_
            conv => whnf
            refine fork_f q14 ?_
            conv => whnf
            refine fork_t q15 ?_
            conv => whnf
            refine jeX hk7 h ?_
            conv => whnf
            refine WkF.step (Weak.rekey _ 69 53304 rfl) ?_
            conv => whnf
            exact WkF.refl _
          conv => whnf
          refine fkN h (fun q16 h => ?_) (fun q16 h => ?_)
          · conv => whnf
            refine ixS (enc := PoliceAsk.enc) h rfl (fun _ => rfl) (fun x21 h => ?_)
            conv => whnf
            refine liS ([x21.At] : List Int) (eI .i64) rfl rfl ?_
            conv => whnf
            refine apS (enc := (eI .i64)) (l1 := v6.2.2.2.2.2.1) (l2 := ([x21.At] : List Int)) h rfl rfl (fun _ => rfl) (fun h => ?_)
            conv => whnf
            refine drS (by kernel_rfl) ?_
            conv => whnf
            refine fork_f q11 ?_
            conv => whnf
            refine fork_f q12 ?_
            conv => whnf
            refine fork_f q13 ?_
            conv => whnf
            refine fork_f q14 ?_
            conv => whnf
            refine fork_f q15 ?_
            conv => whnf
            refine fork_t q16 ?_
            conv => whnf
            refine jeX hk7 h ?_
            conv => whnf
            refine WkF.step (Weak.rekey _ 69 53305 rfl) ?_
            conv => whnf
            exact WkF.refl _
          conv => whnf
          refine fkN h (fun q17 h => ?_) (fun q17 h => ?_)
          · conv => whnf
            refine ixS (enc := PoliceAsk.enc) h rfl (fun _ => rfl) (fun x20 h => ?_)
            conv => whnf
            refine liS ([x20.At] : List Int) (eI .i64) rfl rfl ?_
            conv => whnf
            refine apS (enc := (eI .i64)) (l1 := v6.2.2.2.2.2.2.1) (l2 := ([x20.At] : List Int)) h rfl rfl (fun _ => rfl) (fun h => ?_)
            conv => whnf
            refine drS (by kernel_rfl) ?_
            conv => whnf
            refine fork_f q11 ?_
            conv => whnf
            refine fork_f q12 ?_
            conv => whnf
            refine fork_f q13 ?_
            conv => whnf
            refine fork_f q14 ?_
            conv => whnf
            refine fork_f q15 ?_
            conv => whnf
            refine fork_f q16 ?_
            conv => whnf
            refine fork_t q17 ?_
            conv => whnf
            refine jeX hk7 h ?_
            conv => whnf
            refine WkF.step (Weak.rekey _ 69 53306 rfl) ?_
            conv => whnf
            exact WkF.refl _
          conv => whnf
          refine fkN h (fun q18 h => ?_) (fun q18 h => ?_)
          · conv => whnf
            refine ixS (enc := PoliceAsk.enc) h rfl (fun _ => rfl) (fun x19 h => ?_)
            conv => whnf
            refine liS ([x19.At] : List Int) (eI .i64) rfl rfl ?_
            conv => whnf
            refine apS (enc := (eI .i64)) (l1 := v6.2.2.2.2.2.2.2.1) (l2 := ([x19.At] : List Int)) h rfl rfl (fun _ => rfl) (fun h => ?_)
            conv => whnf
            refine drS (by kernel_rfl) ?_
            conv => whnf
            refine fork_f q11 ?_
            conv => whnf
            refine fork_f q12 ?_
            conv => whnf
            refine fork_f q13 ?_
            conv => whnf
            refine fork_f q14 ?_
            conv => whnf
            refine fork_f q15 ?_
            conv => whnf
            refine fork_f q16 ?_
            conv => whnf
            refine fork_f q17 ?_
            conv => whnf
            refine fork_t q18 ?_
            conv => whnf
            refine jeX hk7 h ?_
            conv => whnf
            refine WkF.step (Weak.rekey _ 69 53307 rfl) ?_
            conv => whnf
            exact WkF.refl _
          conv => whnf
          cases h
        conv => whnf
        refine jeX hk7 h ?_
        conv => whnf
        refine WkF.step (Weak.keepS _ [0, 1, 5, 6, 7]) ?_
        conv => whnf
        exact WkF.refl _
      conv => whnf
      exact leS hn6 h (Weak.refl _)
    conv => whnf
    refine caS (E := E_Bool) h (demand_Legal_w a0 ([v6.1, v6.2.1, v6.2.2.1, v6.2.2.2.1, v6.2.2.2.2.1, v6.2.2.2.2.2.1, v6.2.2.2.2.2.2.1, v6.2.2.2.2.2.2.2.1] : List (List Int))) rfl (fun _ => rfl) (fun x27 h => ?_)
    conv => whnf
    refine fkS h (fun h => ?_) (fun h => ?_)
    · conv => whnf
      refine caS (E := E_Bool) h law16_knows_w rfl (fun _ => rfl) (fun x28 h => ?_)
      conv => whnf
      exact rt (E := E_Bool) h rfl
    conv => whnf
    exact rt (E := E_Bool) h rfl
  conv => whnf
  cases h

end Go.Proofs.Ytkhebjkplmidnaa
namespace Go.Proofs.Ytkhebjkplmidnaa
open Go Go.VC
theorem andT {α : Type} {p : α → Prop} (h : ∃ x, p x) : ∃ x, p x ∧ True := h.imp fun _ h => ⟨h, trivial⟩
def wfI (k : IntKind) (n : Int) : Prop := (Lit.int k n).wf = true
abbrev tyT := T
def Sec.wf (x : Sec) : Prop := wfI .i64 x.Res ∧ wfI .i64 x.At ∧ wfI .i64 x.Len
theorem Sec.of {n : Nat} {ds : List Go.VC.D} (h : ShD tyT n 73 ds) : ∃ x : Sec, ds = x.enc ∧ x.wf := by
  obtain ⟨m, q0⟩ := h.st T73
  clear h
  obtain ⟨d0, r0, e0, h0, q1⟩ := q0.c
  obtain ⟨y0, z0, w0⟩ := (h0.i T3)
  obtain ⟨d1, r1, e1, h1, q2⟩ := q1.c
  obtain ⟨y1, z1, w1⟩ := (h1.i T3)
  obtain ⟨d2, r2, e2, h2, q3⟩ := q2.c
  obtain ⟨y2, z2, w2⟩ := (h2.i T3)
  subst e0 z0 e1 z1 e2 z2
  cases q3
  exact ⟨⟨y0, y1, y2⟩, rfl, w0, w1, w2⟩
def Task.wf (x : Task) : Prop := wfI .i64 x.C ∧ wfI .i64 x.D ∧ wfI .i64 x.T ∧ (x.Secs.length * 24 ≤ BB ∧ ∀ y1 ∈ x.Secs, Sec.wf y1)
theorem Task.of {n : Nat} {ds : List Go.VC.D} (h : ShD tyT n 65 ds) : ∃ x : Task, ds = x.enc ∧ x.wf := by
  obtain ⟨m, q0⟩ := h.st T65
  clear h
  obtain ⟨d0, r0, e0, h0, q1⟩ := q0.c
  obtain ⟨y0, z0, w0⟩ := (h0.i T3)
  obtain ⟨d1, r1, e1, h1, q2⟩ := q1.c
  obtain ⟨y1, z1, w1⟩ := (h1.i T3)
  obtain ⟨d2, r2, e2, h2, q3⟩ := q2.c
  obtain ⟨y2, z2, w2⟩ := (h2.i T3)
  obtain ⟨d3, r3, e3, h3, q4⟩ := q3.c
  obtain ⟨y3, z3, w3⟩ := (h3.l (f := Sec.enc) (W := (fun x => Sec.wf x)) T63 T73 (fun _ _ h => (Sec.of h)))
  subst e0 z0 e1 z1 e2 z2 e3 z3
  cases q4
  exact ⟨⟨y0, y1, y2, y3⟩, rfl, w0, w1, w2, w3⟩
def PoliceAsk.wf (x : PoliceAsk) : Prop := wfI .i64 x.Task ∧ wfI .i64 x.At
theorem PoliceAsk.of {n : Nat} {ds : List Go.VC.D} (h : ShD tyT n 43 ds) : ∃ x : PoliceAsk, ds = x.enc ∧ x.wf := by
  obtain ⟨m, q0⟩ := h.st T43
  clear h
  obtain ⟨d0, r0, e0, h0, q1⟩ := q0.c
  obtain ⟨y0, z0, w0⟩ := (h0.i T3)
  obtain ⟨d1, r1, e1, h1, q2⟩ := q1.c
  obtain ⟨y1, z1, w1⟩ := (h1.i T3)
  subst e0 z0 e1 z1
  cases q2
  exact ⟨⟨y0, y1⟩, rfl, w0, w1⟩
end Go.Proofs.Ytkhebjkplmidnaa
namespace Go.Proofs.Ytkhebjkplmidnaa
open Go Go.VC
def PurePolicePatterns : Prop := ∀ (a0 : List Task) (a1 : List PoliceAsk), (a0.length * 48 ≤ BB ∧ ∀ y1 ∈ a0, Task.wf y1) → (a1.length * 16 ≤ BB ∧ ∀ y1 ∈ a1, PoliceAsk.wf y1) → law16_PolicePatterns a0 a1 = some true
end Go.Proofs.Ytkhebjkplmidnaa
namespace Go.VC
/-! Loops that answer something of which more is known. -/
section
variable {α β σ R : Type}
end
end Go.VC
namespace Go.Proofs.Ytkhebjkplmidnaa
open Go Go.VC
noncomputable def law16_parts (a0 : List PoliceAsk) : Option ((List Int) × (List Int)) :=
  lp (fun nx1 (v1 : (List Int) × (List Int) × Int) => fk (decide (v1.2.2 < (a0.length : Int))) (ix a0 v1.2.2 fun x2 => ck (decide ((v1.1.length + ([x2.Task] : List Int).length) * 8 ≤ 140737488355328)) (ix a0 v1.2.2 fun x3 => ck (decide ((v1.2.1.length + ([x3.At] : List Int).length) * 8 ≤ 140737488355328)) (nx1 (v1.1 ++ ([x2.Task] : List Int), v1.2.1 ++ ([x3.At] : List Int), (wr (v1.2.2 + (1 : Int))))))) (some (v1.1, v1.2.1))) FU ([], [], (0 : Int))
theorem law16_parts_w (a0 : List PoliceAsk) (r : (List Int) × (List Int)) (h : law16_parts a0 = some r) : Go.VC.Spec Try.prog 23 [.d (.sl (a0.map PoliceAsk.enc))] (fun y => y = E_ListInt_ListInt r) := by
  refine Go.VC.Spec.of_xc (args := [.d (.sl (a0.map PoliceAsk.enc))]) (fn := Try.f23) tab ⟨[(0, [0]), (1, [0, 4, 5]), (2, [0, 4, 5, 6]), (3, [0, 4, 5, 6, 10]), (4, [0, 4, 5, 6]), (5, [0, 4, 5, 6]), (6, [0, 4, 5, 6]), (7, [2, 3])], [], [], []⟩ 31 [.tmp 2, .tmp 3] rfl rfl rfl rfl rfl rfl ?_
  conv => whnf
  refine lpS (fun v1 => ⟨[(0, .l (.d (.sl (a0.map PoliceAsk.enc)))), (4, .l (.own 5)), (5, .l (.own 6)), (6, .l (.d (.int .i64 v1.2.2)))], 31, [], [], [(5, 3, 1, v1.1.map (eI .i64)), (6, 3, 1, v1.2.1.map (eI .i64))]⟩) h (Weak.trans (Weak.nilO _ 4 5 3 1 rfl) (Weak.trans (Weak.nilO _ 5 6 3 1 rfl) (Weak.refl _))) (fun _ nx1 hn1 v1 h => ?_)
  conv => whnf
  refine lenS a0 PoliceAsk.enc rfl ?_
  conv => whnf
  refine fkS h (fun h => ?_) (fun h => ?_)
  · conv => whnf
    refine ixS (enc := PoliceAsk.enc) h rfl (fun _ => rfl) (fun x2 h => ?_)
    conv => whnf
    refine liS ([x2.Task] : List Int) (eI .i64) rfl rfl ?_
    conv => whnf
    refine apS (enc := (eI .i64)) (l1 := v1.1) (l2 := ([x2.Task] : List Int)) h rfl rfl (fun _ => rfl) (fun h => ?_)
    conv => whnf
    refine ixS (enc := PoliceAsk.enc) h rfl (fun _ => rfl) (fun x3 h => ?_)
    conv => whnf
    refine liS ([x3.At] : List Int) (eI .i64) rfl rfl ?_
    conv => whnf
    refine apS (enc := (eI .i64)) (l1 := v1.2.1) (l2 := ([x3.At] : List Int)) h rfl rfl (fun _ => rfl) (fun h => ?_)
    conv => whnf
    exact leS hn1 h (Weak.refl _)
  conv => whnf
  exact rt (E := E_ListInt_ListInt) h rfl

end Go.Proofs.Ytkhebjkplmidnaa
namespace Go.Proofs.Ytkhebjkplmidnaa
open Go Go.VC
noncomputable def ref16_Filter (a0 : List Task) (a1 : List Int) (a2 : List Int) : Option (List Bool) :=
  lp (fun nx1 (v1 : (List Bool) × Int) => fk (decide (v1.2 < (a1.length : Int))) (ix a1 v1.2 fun x2 => ix a2 v1.2 fun x3 => jn (fun (w4 : Bool) => lp (fun nx5 (v5 : Int × Int) => fk (decide (v5.2 < v1.2)) (jn (fun (w6 : Int) => nx5 (w6, (wr (v5.2 + (1 : Int))))) (fun k6 => jn (fun (w7 : Bool) => fk w7 (ix a2 v5.2 fun x10 => k6 x10) (k6 v5.1)) (fun k7 => ck (decide (0 ≤ v5.2) && decide (v5.2 < (v1.1.length : Int))) (ox v1.1 v5.2.toNat fun x8 => fk x8 (ix a1 v5.2 fun x9 => k7 (decide (x9 = x2))) (k7 false))))) (jn (fun (w11 : Bool) => ck (decide ((v1.1.length + ([w11] : List Bool).length) * 1 ≤ 140737488355328)) (nx1 (v1.1 ++ ([w11] : List Bool), (wr (v1.2 + (1 : Int)))))) (fun k11 => jn (fun (w12 : Bool) => fk w12 (k11 false) (k11 w4)) (fun k12 => fk w4 (fk (decide (v5.1 ≥ (0 : Int))) (ix a0 x2 fun x13 => k12 (decide ((wr (x3 - v5.1)) < x13.T))) (k12 false)) (k12 false))))) FU ((-1 : Int), (0 : Int))) (fun k4 => fk (decide (x2 ≥ (0 : Int))) (fk (decide (x2 < (a0.length : Int))) (fk (decide (x3 ≥ (0 : Int))) (k4 (decide (x3 ≤ (4611686018427387703 : Int)))) (k4 false)) (k4 false)) (k4 false))) (some v1.1)) FU ([], (0 : Int))
theorem ref16_Filter_w (a0 : List Task) (a1 : List Int) (a2 : List Int) (r : List Bool) (h : ref16_Filter a0 a1 a2 = some r) : Go.VC.Spec Try.prog 24 [.d (.sl (a0.map Task.enc)), .d (.sl (a1.map (eI .i64))), .d (.sl (a2.map (eI .i64)))] (fun y => y = E_ListBool r) := by
  refine Go.VC.Spec.of_xc (args := [.d (.sl (a0.map Task.enc)), .d (.sl (a1.map (eI .i64))), .d (.sl (a2.map (eI .i64)))]) (fn := Try.f24) tab ⟨[(0, [0, 1, 2]), (1, [0, 1, 2, 7]), (2, [0, 1, 2, 7, 8]), (3, [0, 1, 2, 7, 8, 17]), (4, [0, 1, 2, 7, 8]), (5, [0, 1, 2, 7, 8, 9, 10]), (6, [0, 1, 2, 7, 8, 9, 10, 11]), (7, [0, 1, 2, 7, 8, 9, 10, 11, 12]), (8, [0, 1, 2, 7, 8, 9, 10, 11, 12, 13]), (9, [0, 1, 2, 7, 8, 9, 10, 11, 12, 13, 46]), (10, [0, 1, 2, 7, 8, 9, 10, 11, 12, 13]), (11, [0, 1, 2, 7, 8, 9, 10, 11, 12, 13, 60]), (12, [0, 1, 2, 7, 8, 9, 10, 11, 12, 13]), (13, [0, 1, 2, 7, 8, 11, 80]), (14, [0, 1, 2, 7, 8, 11]), (15, [0, 1, 2, 7, 8]), (16, [6])], [], [100060, 10, 100080, 15, 7], []⟩ 86 [.tmp 6] rfl rfl rfl rfl rfl rfl ?_
  conv => whnf
  refine lpS (fun v1 => ⟨[(0, .l (.d (.sl (a0.map Task.enc)))), (1, .l (.d (.sl (a1.map (eI .i64))))), (2, .l (.d (.sl (a2.map (eI .i64))))), (7, .l (.own 8)), (8, .l (.d (.int .i64 v1.2)))], 86, [], [], [(8, 4, 1, v1.1.map eB)]⟩) h (Weak.trans (Weak.nilO _ 7 8 4 1 rfl) (Weak.refl _)) (fun _ nx1 hn1 v1 h => ?_)
  conv => whnf
  refine lenS a1 (eI .i64) rfl ?_
  conv => whnf
  refine fkS h (fun h => ?_) (fun h => ?_)
  · conv => whnf
    refine ⟨9, ?_⟩
    conv => whnf
    refine ixS (enc := (eI .i64)) h rfl (fun _ => rfl) (fun x2 h => ?_)
    conv => whnf
    refine ixS (enc := (eI .i64)) h rfl (fun _ => rfl) (fun x3 h => ?_)
    conv => whnf
    refine drS (by kernel_rfl) ?_
    conv => whnf
    refine jnS (fun w4 => ⟨[(0, .l (.d (.sl (a0.map Task.enc)))), (1, .l (.d (.sl (a1.map (eI .i64))))), (2, .l (.d (.sl (a2.map (eI .i64))))), (7, .l (.own 8)), (8, .l (.d (.int .i64 v1.2))), (9, .l (.d (.int .i64 x2))), (10, .l (.d (.int .i64 x3))), (11, .l (.d (.bool w4)))], 86, [], [], [(8, 4, 1, v1.1.map eB)]⟩) h (fun k4 hk4 h => ?_) (fun w4 h => ?_)
    · conv => whnf
      refine fkS h (fun h => ?_) (fun h => ?_)
      · conv => whnf
        refine lenS a0 Task.enc rfl ?_
        conv => whnf
        refine fkS h (fun h => ?_) (fun h => ?_)
        · conv => whnf
          refine fkS h (fun h => ?_) (fun h => ?_)
          · conv => whnf
            exact jeS hk4 h (Weak.refl _)
          conv => whnf
          exact jeS hk4 h (Weak.refl _)
        conv => whnf
        exact jeS hk4 h (Weak.refl _)
      conv => whnf
      exact jeS hk4 h (Weak.refl _)
    conv => whnf
    refine lpS (fun v5 => ⟨[(0, .l (.d (.sl (a0.map Task.enc)))), (1, .l (.d (.sl (a1.map (eI .i64))))), (2, .l (.d (.sl (a2.map (eI .i64))))), (7, .l (.own 8)), (8, .l (.d (.int .i64 v1.2))), (9, .l (.d (.int .i64 x2))), (10, .l (.d (.int .i64 x3))), (11, .l (.d (.bool w4))), (12, .l (.d (.int .i64 v5.1))), (13, .l (.d (.int .i64 v5.2)))], 86, [], [], [(8, 4, 1, v1.1.map eB)]⟩) h (Weak.refl _) (fun _ nx5 hn5 v5 h => ?_)
    conv => whnf
    refine fkS h (fun h => ?_) (fun h => ?_)
    · conv => whnf
      refine jnS (fun w6 => ⟨[(0, .l (.d (.sl (a0.map Task.enc)))), (1, .l (.d (.sl (a1.map (eI .i64))))), (2, .l (.d (.sl (a2.map (eI .i64))))), (7, .l (.own 8)), (8, .l (.d (.int .i64 v1.2))), (9, .l (.d (.int .i64 x2))), (10, .l (.d (.int .i64 x3))), (11, .l (.d (.bool w4))), (12, .l (.d (.int .i64 w6))), (13, .l (.d (.int .i64 v5.2)))], 86, [], [], [(8, 4, 1, v1.1.map eB)]⟩) h (fun k6 hk6 h => ?_) (fun w6 h => ?_)
      · conv => whnf
        refine jnS (fun w7 => ⟨[(0, .l (.d (.sl (a0.map Task.enc)))), (1, .l (.d (.sl (a1.map (eI .i64))))), (2, .l (.d (.sl (a2.map (eI .i64))))), (7, .l (.own 8)), (8, .l (.d (.int .i64 v1.2))), (9, .l (.d (.int .i64 x2))), (10, .l (.d (.int .i64 x3))), (11, .l (.d (.bool w4))), (12, .l (.d (.int .i64 v5.1))), (13, .l (.d (.int .i64 v5.2))), (60, .l (.d (.bool w7)))], 86, [], [], [(8, 4, 1, v1.1.map eB)]⟩) h (fun k7 hk7 h => ?_) (fun w7 h => ?_)
        · conv => whnf
          refine ioS (enc := eB) h rfl (fun h => ?_)
          conv => whnf
          refine oxS (enc := eB) h rfl (fun x8 h => ?_)
          conv => whnf
          refine fkS h (fun h => ?_) (fun h => ?_)
          · conv => whnf
            refine ixS (enc := (eI .i64)) h rfl (fun _ => rfl) (fun x9 h => ?_)
            conv => whnf
            exact jeS hk7 h (Weak.refl _)
          conv => whnf
          exact jeS hk7 h (Weak.refl _)
        conv => whnf
        refine fkS h (fun h => ?_) (fun h => ?_)
        · conv => whnf
          refine ixS (enc := (eI .i64)) h rfl (fun _ => rfl) (fun x10 h => ?_)
          conv => whnf
          exact jeS hk6 h (Weak.refl _)
        conv => whnf
        refine jeX hk6 h ?_
        conv => whnf
        refine WkF.step (Weak.keepS _ [0, 1, 2, 7, 8, 9, 10, 11, 12, 13]) ?_
        conv => whnf
        exact WkF.refl _
      conv => whnf
      exact leS hn5 h (Weak.refl _)
    conv => whnf
    refine jnS (fun w11 => ⟨[(0, .l (.d (.sl (a0.map Task.enc)))), (1, .l (.d (.sl (a1.map (eI .i64))))), (2, .l (.d (.sl (a2.map (eI .i64))))), (7, .l (.own 8)), (8, .l (.d (.int .i64 v1.2))), (11, .l (.d (.bool w11)))], 86, [], [], [(8, 4, 1, v1.1.map eB)]⟩) h (fun k11 hk11 h => ?_) (fun w11 h => ?_)
    · conv => whnf
      refine jnS (fun w12 => ⟨[(0, .l (.d (.sl (a0.map Task.enc)))), (1, .l (.d (.sl (a1.map (eI .i64))))), (2, .l (.d (.sl (a2.map (eI .i64))))), (7, .l (.own 8)), (8, .l (.d (.int .i64 v1.2))), (11, .l (.d (.bool w4))), (80, .l (.d (.bool w12)))], 86, [], [], [(8, 4, 1, v1.1.map eB)]⟩) h (fun k12 hk12 h => ?_) (fun w12 h => ?_)
      · conv => whnf
        refine fkS h (fun h => ?_) (fun h => ?_)
        · conv => whnf
          refine fkS h (fun h => ?_) (fun h => ?_)
          · conv => whnf
            refine ixS (enc := Task.enc) h rfl (fun _ => rfl) (fun x13 h => ?_)
            conv => whnf
            exact jeS hk12 h (Weak.refl _)
          conv => whnf
          exact jeS hk12 h (Weak.refl _)
        conv => whnf
        exact jeS hk12 h (Weak.refl _)
      conv => whnf
      refine fkS h (fun h => ?_) (fun h => ?_)
      · conv => whnf
        exact jeS hk11 h (Weak.refl _)
      conv => whnf
      refine jeX hk11 h ?_
      conv => whnf
      refine WkF.step (Weak.keepS _ [0, 1, 2, 7, 8, 11]) ?_
      conv => whnf
      exact WkF.refl _
    conv => whnf
    refine liS ([w11] : List Bool) eB rfl rfl ?_
    conv => whnf
    refine apS (enc := eB) (l1 := v1.1) (l2 := ([w11] : List Bool)) h rfl rfl (fun _ => rfl) (fun h => ?_)
    conv => whnf
    exact leS hn1 h (Weak.refl _)
  conv => whnf
  exact rt (E := E_ListBool) h rfl

end Go.Proofs.Ytkhebjkplmidnaa
namespace Go.Proofs.Ytkhebjkplmidnaa
open Go Go.VC
noncomputable def ref16_Right (a0 : List Task) (a1 : List Int) : Option Bool :=
  jn (fun (w1 : Bool) => fk w1 (some false) (lp (fun nx3 (v3 : Int) => fk (decide (v3 < (a1.length : Int))) (jn (fun (w4 : Bool) => fk w4 (some false) (nx3 (wr (v3 + (1 : Int))))) (fun k4 => ix a1 v3 fun x5 => fk (decide (x5 < (-1 : Int))) (k4 true) (ix a1 v3 fun x6 => k4 (decide (x6 > (4611686018427387903 : Int)))))) (some true)) FU (0 : Int))) (fun k1 => fk (!decide ((a1.length : Int) = (a0.length : Int))) (k1 true) (bnd (ref05_All a0) fun x2 => k1 (!x2)))
theorem ref16_Right_w (a0 : List Task) (a1 : List Int) (r : Bool) (h : ref16_Right a0 a1 = some r) : Go.VC.Spec Try.prog 19 [.d (.sl (a0.map Task.enc)), .d (.sl (a1.map (eI .i64)))] (fun y => y = E_Bool r) := by
  refine Go.VC.Spec.of_xc (args := [.d (.sl (a0.map Task.enc)), .d (.sl (a1.map (eI .i64)))]) (fn := Try.f19) tab ⟨[(0, [0, 1]), (1, [1, 15]), (2, [4]), (3, [1, 5]), (4, [1, 5, 19]), (5, [1, 5]), (6, [1, 5, 33]), (7, [4]), (8, [4])], [], [100015, 100033], []⟩ 34 [.tmp 4] rfl rfl rfl rfl rfl rfl ?_
  conv => whnf
  refine jnS (fun w1 => ⟨[(1, .l (.d (.sl (a1.map (eI .i64))))), (15, .l (.d (.bool w1)))], 34, [], [], []⟩) h (fun k1 hk1 h => ?_) (fun w1 h => ?_)
  · conv => whnf
    refine lenS a1 (eI .i64) rfl ?_
    conv => whnf
    refine lenS a0 Task.enc rfl ?_
    conv => whnf
    refine fkS h (fun h => ?_) (fun h => ?_)
    · conv => whnf
      exact jeS hk1 h (Weak.refl _)
    conv => whnf
    refine caS (E := E_Bool) h (ref05_All_w a0) rfl (fun _ => rfl) (fun x2 h => ?_)
    conv => whnf
    exact jeS hk1 h (Weak.refl _)
  conv => whnf
  refine fkS h (fun h => ?_) (fun h => ?_)
  · conv => whnf
    exact rt (E := E_Bool) h rfl
  conv => whnf
  refine lpS (fun v3 => ⟨[(1, .l (.d (.sl (a1.map (eI .i64))))), (5, .l (.d (.int .i64 v3)))], 34, [], [], []⟩) h (Weak.refl _) (fun _ nx3 hn3 v3 h => ?_)
  conv => whnf
  refine lenS a1 (eI .i64) rfl ?_
  conv => whnf
  refine fkS h (fun h => ?_) (fun h => ?_)
  · conv => whnf
    refine jnS (fun w4 => ⟨[(1, .l (.d (.sl (a1.map (eI .i64))))), (5, .l (.d (.int .i64 v3))), (33, .l (.d (.bool w4)))], 34, [], [], []⟩) h (fun k4 hk4 h => ?_) (fun w4 h => ?_)
    · conv => whnf
      refine ixS (enc := (eI .i64)) h rfl (fun _ => rfl) (fun x5 h => ?_)
      conv => whnf
      refine fkS h (fun h => ?_) (fun h => ?_)
      · conv => whnf
        exact jeS hk4 h (Weak.refl _)
      conv => whnf
      refine ixS (enc := (eI .i64)) h rfl (fun _ => rfl) (fun x6 h => ?_)
      conv => whnf
      exact jeS hk4 h (Weak.refl _)
    conv => whnf
    refine fkS h (fun h => ?_) (fun h => ?_)
    · conv => whnf
      exact rt (E := E_Bool) h rfl
    conv => whnf
    exact leS hn3 h (Weak.refl _)
  conv => whnf
  exact rt (E := E_Bool) h rfl

end Go.Proofs.Ytkhebjkplmidnaa
namespace Go.Proofs.Ytkhebjkplmidnaa
open Go Go.VC
noncomputable def ref16_May (a0 : List Task) (a1 : List Int) (a2 : Int) (a3 : Int) : Option Int :=
  jn (fun (w1 : Bool) => fk w1 (some (1 : Int)) (jn (fun (w3 : Bool) => fk w3 (some (6 : Int)) (some (0 : Int))) (fun k3 => ix a1 a2 fun x4 => fk (decide (x4 ≥ (0 : Int))) (ix a1 a2 fun x5 => ix a0 a2 fun x6 => k3 (decide ((wr (a3 - x5)) < x6.T))) (k3 false)))) (fun k1 => bnd (ref16_Right a0 a1) fun x2 => fk (!x2) (k1 true) (fk (decide (a2 < (0 : Int))) (k1 true) (fk (decide (a2 ≥ (a0.length : Int))) (k1 true) (fk (decide (a3 < (0 : Int))) (k1 true) (k1 (decide (a3 > (4611686018427387703 : Int))))))))
theorem ref16_May_w (a0 : List Task) (a1 : List Int) (a2 : Int) (a3 : Int) (r : Int) (h : ref16_May a0 a1 a2 a3 = some r) : Go.VC.Spec Try.prog 16 [.d (.sl (a0.map Task.enc)), .d (.sl (a1.map (eI .i64))), .d (.int .i64 a2), .d (.int .i64 a3)] (fun y => y = E_Int r) := by
  refine Go.VC.Spec.of_xc (args := [.d (.sl (a0.map Task.enc)), .d (.sl (a1.map (eI .i64))), .d (.int .i64 a2), .d (.int .i64 a3)]) (fn := Try.f16) tab ⟨[(0, [0, 1, 2, 3]), (1, [0, 1, 2, 3, 30]), (2, [8]), (3, [49]), (4, [8]), (5, [8])], [], [100030, 100049], []⟩ 50 [.tmp 8] rfl rfl rfl rfl rfl rfl ?_
  conv => whnf
  refine jnS (fun w1 => ⟨[(0, .l (.d (.sl (a0.map Task.enc)))), (1, .l (.d (.sl (a1.map (eI .i64))))), (2, .l (.d (.int .i64 a2))), (3, .l (.d (.int .i64 a3))), (30, .l (.d (.bool w1)))], 50, [], [], []⟩) h (fun k1 hk1 h => ?_) (fun w1 h => ?_)
  · conv => whnf
    refine caS (E := E_Bool) h (ref16_Right_w a0 a1) rfl (fun _ => rfl) (fun x2 h => ?_)
    conv => whnf
    refine fkS h (fun h => ?_) (fun h => ?_)
    · conv => whnf
      exact jeS hk1 h (Weak.refl _)
    conv => whnf
    refine fkS h (fun h => ?_) (fun h => ?_)
    · conv => whnf
      exact jeS hk1 h (Weak.refl _)
    conv => whnf
    refine lenS a0 Task.enc rfl ?_
    conv => whnf
    refine fkS h (fun h => ?_) (fun h => ?_)
    · conv => whnf
      exact jeS hk1 h (Weak.refl _)
    conv => whnf
    refine fkS h (fun h => ?_) (fun h => ?_)
    · conv => whnf
      exact jeS hk1 h (Weak.refl _)
    conv => whnf
    exact jeS hk1 h (Weak.refl _)
  conv => whnf
  refine fkS h (fun h => ?_) (fun h => ?_)
  · conv => whnf
    exact rt (E := E_Int) h rfl
  conv => whnf
  refine jnS (fun w3 => ⟨[(49, .l (.d (.bool w3)))], 50, [], [], []⟩) h (fun k3 hk3 h => ?_) (fun w3 h => ?_)
  · conv => whnf
    refine ⟨19, ?_⟩
    conv => whnf
    refine ixS (enc := (eI .i64)) h rfl (fun _ => rfl) (fun x4 h => ?_)
    conv => whnf
    refine fkS h (fun h => ?_) (fun h => ?_)
    · conv => whnf
      refine ixS (enc := (eI .i64)) h rfl (fun _ => rfl) (fun x5 h => ?_)
      conv => whnf
      refine ixS (enc := Task.enc) h rfl (fun _ => rfl) (fun x6 h => ?_)
      conv => whnf
      refine drS (by kernel_rfl) ?_
      conv => whnf
      exact jeS hk3 h (Weak.refl _)
    conv => whnf
    refine drS (by kernel_rfl) ?_
    conv => whnf
    exact jeS hk3 h (Weak.refl _)
  conv => whnf
  refine fkS h (fun h => ?_) (fun h => ?_)
  · conv => whnf
    exact rt (E := E_Int) h rfl
  conv => whnf
  exact rt (E := E_Int) h rfl

end Go.Proofs.Ytkhebjkplmidnaa
namespace Go.Proofs.Ytkhebjkplmidnaa
open Go Go.VC

/-! ### Tasks -/
def fitsP (a b : Sec) : Prop := a.At + a.Len ≤ b.At ∨ (a.At ≤ b.At ∧ b.At + b.Len ≤ a.At + a.Len ∧ a.Res ≠ b.Res)
def secP (C : Int) (s : Sec) : Prop := 0 ≤ s.Res ∧ s.Res < 4 ∧ 0 ≤ s.At ∧ s.At < C ∧ 1 ≤ s.Len ∧ s.Len ≤ C - s.At
def ownP (t : Task) : Prop := 1 ≤ t.C ∧ t.C ≤ t.D ∧ t.D ≤ t.T ∧ t.T ≤ 200 ∧ t.Secs.length ≤ 4
def RightP (t : Task) : Prop := ownP t ∧ (∀ s ∈ t.Secs, secP t.C s) ∧ t.Secs.Pairwise fitsP
instance (a b : Sec) : Decidable (fitsP a b) := by unfold fitsP; infer_instance
instance (C : Int) (s : Sec) : Decidable (secP C s) := by unfold secP; infer_instance
instance (t : Task) : Decidable (ownP t) := by unfold ownP; infer_instance
instance (t : Task) : Decidable (RightP t) := by unfold RightP; infer_instance
def right (t : Task) : Bool := decide (RightP t)

theorem task_own_eq (t : Task) : task_own t = some (decide (ownP t)) := by
  unfold task_own
  simp only [fk_if, decide_eq_true_eq]
  repeat' split
  · exact dec_iff (by unfold ownP; omega)
  all_goals exact dec_f (by unfold ownP; omega)

theorem task_may_eq (t : Task) (s : Sec) (h : ownP t) : task_may t s = some (decide (secP t.C s)) := by
  unfold ownP at h
  unfold task_may
  simp only [fk_if, decide_eq_true_eq]
  repeat' split
  · rw [wr_in _ (by omega)]
    exact dec_iff (by unfold secP; omega)
  all_goals exact dec_f (by unfold secP; omega)

theorem task_fits_eq (C : Int) (a b : Sec) (hC : C ≤ 200) (ha : secP C a) (hb : secP C b) : task_fits a b = some (decide (fitsP a b)) := by
  unfold secP at ha hb
  unfold task_fits
  rw [wr_in _ (by omega), wr_in _ (by omega)]
  simp only [fk_if, decide_eq_true_eq]
  repeat' split
  · exact dec_t (by unfold fitsP; omega)
  · exact dec_f (by unfold fitsP; omega)
  · exact dec_not (by unfold fitsP; omega)
  · exact dec_f (by unfold fitsP; omega)

theorem task_Right_eq (t : Task) : task_Right t = some (right t) := by
  unfold task_Right
  rw [bnd_eq (task_own_eq t)]
  by_cases ho : ownP t
  rotate_left
  · simp [ho, right, RightP, fk_if]
  simp only [ho, decide_true, Bool.not_true, fk_f]
  have hlen : t.Secs.length ≤ 4 := ho.2.2.2.2
  have hC : t.C ≤ 200 := by unfold ownP at ho; omega
  refine lp_up t.Secs.length (by unfold FU; omega) (fun k => (∀ j (h : j < t.Secs.length), j < k → secP t.C t.Secs[j]) ∧ (∀ i j (hi : i < t.Secs.length) (hj : j < t.Secs.length), i < j → j < k → fitsP t.Secs[i] t.Secs[j])) ⟨fun j _ h => by omega, fun i j _ _ _ h => by omega⟩ ?_
  rintro nx k hk ⟨J1, J2⟩ hnx
  rw [lt_nat]
  by_cases h : k < t.Secs.length
  · rw [decide_eq_true h, fk_t, ix_lt h, bnd_eq (task_may_eq t _ ho)]
    by_cases hs : secP t.C t.Secs[k]
    rotate_left
    · have : right t = false := decide_eq_false fun hr => hs (hr.2.1 _ (List.getElem_mem h))
      simp [hs, this, fk_if]
    simp only [hs, decide_true, Bool.not_true, fk_f]
    rw [ck_t (by simp; omega)]
    have e : (t.Secs.take (k : Int).toNat).drop (0 : Int).toNat = t.Secs.take k := by simp
    rw [e]
    have el : (t.Secs.take k).length = k := by simp; omega
    refine lp_up k (by unfold FU; omega) (fun j => ∀ i (hi : i < t.Secs.length), i < j → fitsP t.Secs[i] t.Secs[k]) (fun i _ h => by omega) ?_
    intro nx2 j hj J3 hnx2
    rw [el, lt_nat]
    by_cases h2 : j < k
    · have hjl : j < t.Secs.length := by omega
      rw [decide_eq_true h2, fk_t, ix_lt (by omega), List.getElem_take, bnd_eq (task_fits_eq t.C _ _ hC (J1 j hjl h2) hs)]
      by_cases hf : fitsP t.Secs[j] t.Secs[k]
      · rw [decide_eq_true hf, fk_t, wr_succ j k h2 (by omega)]
        refine hnx2 h2 fun i hi hij => ?_
        by_cases e : i = j
        · subst e; exact hf
        · exact J3 i hi (by omega)
      · have : right t = false := decide_eq_false fun hr => hf (List.pairwise_iff_getElem.1 hr.2.2 j k hjl h h2)
        rw [decide_eq_false hf, fk_f, this]; rfl
    · have hjk : j = k := by omega
      subst hjk
      rw [decide_eq_false h2, fk_f, wr_succ j _ h (by omega)]
      refine hnx h ⟨fun i hi hij => ?_, fun a b ha hb hab hbj => ?_⟩
      · by_cases e : i = j
        · subst e; exact hs
        · exact J1 i hi (by omega)
      · by_cases e : b = j
        · subst e; exact J3 a ha hab
        · exact J2 a b ha hb hab (by omega)
  · have hk2 : k = t.Secs.length := by omega
    rw [decide_eq_false h, fk_f]
    have : right t = true := decide_eq_true ⟨ho, fun s hs => by
      obtain ⟨j, hj, rfl⟩ := List.getElem_of_mem hs
      exact J1 j hj (by omega), List.pairwise_iff_getElem.2 fun i j hi hj hij => J2 i j hi hj hij (by omega)⟩
    rw [this]
    unfold ownP at ho
    simp; omega


def AllP (l : List Task) : Prop := (∀ t ∈ l, RightP t) ∧ l.length ≤ 8
instance (l : List Task) : Decidable (AllP l) := by unfold AllP; infer_instance
theorem right_t {t : Task} : right t = true ↔ RightP t := decide_eq_true_iff
theorem right_f {t : Task} : right t = false ↔ ¬ RightP t := decide_eq_false_iff_not

theorem task_All_eq (l : List Task) (hl : l.length ≤ 4611686018427387904) : task_All l = some (decide (AllP l)) := by
  unfold task_All
  refine lp_up l.length (by unfold FU; omega) (fun k => ∀ j (h : j < l.length), j < k → RightP l[j]) (fun j _ h => by omega) ?_
  intro nx k hk J hnx
  rw [lt_nat]
  by_cases h : k < l.length
  · rw [decide_eq_true h, fk_t, ix_lt h, bnd_eq (task_Right_eq _)]
    by_cases hr : RightP l[k]
    · rw [right_t.2 hr, Bool.not_true, fk_f, wr_succ k _ h hl]
      refine hnx h fun j hj hjk => ?_
      by_cases e : j = k
      · subst e; exact hr
      · exact J j hj (by omega)
    · rw [right_f.2 hr, Bool.not_false, fk_t]
      exact dec_f fun ha => hr (ha.1 _ (List.getElem_mem h))
  · rw [decide_eq_false h, fk_f]
    refine dec_iff ⟨fun h8 => ⟨fun t ht => ?_, by omega⟩, fun ha => by have := ha.2; omega⟩
    obtain ⟨j, hj, rfl⟩ := List.getElem_of_mem ht
    exact J j hj (by omega)

def holds (had : Int) (s : Sec) : Bool := decide (s.At < had) && decide (had < s.At + s.Len)
def heldL (had : Int) (l : List Sec) : List Int := (l.filter (holds had)).map (·.Res)
def held (t : Task) (had : Int) : List Int := if right t = true then heldL had t.Secs else []
theorem RightP.len {t : Task} (h : RightP t) : t.Secs.length ≤ 4 := h.1.2.2.2.2
theorem RightP.c {t : Task} (h : RightP t) : 1 ≤ t.C ∧ t.C ≤ t.D ∧ t.D ≤ t.T ∧ t.T ≤ 200 := ⟨h.1.1, h.1.2.1, h.1.2.2.1, h.1.2.2.2.1⟩

def usesP (t : Task) (res : Int) : Prop := RightP t ∧ ∃ s ∈ t.Secs, s.Res = res
instance (t : Task) (res : Int) : Decidable (usesP t res) := by unfold usesP; infer_instance
theorem ref05_Right_eq (t : Task) (hlt : t.Secs.length ≤ 4611686018427387904) : ref05_Right t = some (right t) := by
  unfold ref05_Right
  simp only [jn_eq, fk_t, fk_f]
  by_cases ho : ownP t
  rotate_left
  · have hr : right t = false := right_f.2 fun h => ho h.1
    by_cases c0 : t.C < 1
    · rw [decide_eq_true c0, fk_t, hr]
    rw [decide_eq_false c0, fk_f]
    by_cases c1 : t.D < t.C
    · rw [decide_eq_true c1, fk_t, hr]
    rw [decide_eq_false c1, fk_f]
    by_cases c2 : t.T < t.D
    · rw [decide_eq_true c2, fk_t, hr]
    rw [decide_eq_false c2, fk_f]
    by_cases c3 : t.T > 200
    · rw [decide_eq_true c3, fk_t, hr]
    rw [decide_eq_false c3, fk_f]
    by_cases c4 : (t.Secs.length : Int) > 4
    · rw [decide_eq_true c4, fk_t, hr]
    rw [decide_eq_false c4, fk_f]
    exact absurd (by unfold ownP; omega) ho
  have ho' := ho
  unfold ownP at ho'
  rw [decide_eq_false (by omega), fk_f, decide_eq_false (by omega), fk_f, decide_eq_false (by omega), fk_f, decide_eq_false (by omega), fk_f, decide_eq_false (by omega), fk_f]
  refine lp_up t.Secs.length (by unfold FU; omega) (fun k => (∀ j (h : j < t.Secs.length), j < k → secP t.C t.Secs[j]) ∧ (∀ i j (hi : i < t.Secs.length) (hj : j < t.Secs.length), i < j → j < k → fitsP t.Secs[i] t.Secs[j])) ⟨fun j _ h => by omega, fun i j _ _ _ h => by omega⟩ ?_
  rintro nx k hk ⟨J1, J2⟩ hnx
  rw [lt_nat]
  by_cases h : k < t.Secs.length
  rotate_left
  · rw [decide_eq_false h, fk_f]
    have : right t = true := right_t.2 ⟨ho, fun s hs => by
      obtain ⟨j, hj, rfl⟩ := List.getElem_of_mem hs
      exact J1 j hj (by omega), List.pairwise_iff_getElem.2 fun i j hi hj hij => J2 i j hi hj hij (by omega)⟩
    rw [this]
  rw [decide_eq_true h, fk_t, ix_lt h]
  have hn := hnx h
  clear hnx
  generalize hs : t.Secs[k] = s at *
  by_cases hsec : secP t.C s
  rotate_left
  · have hr : right t = false := right_f.2 fun hr => hsec (hs ▸ hr.2.1 _ (List.getElem_mem h))
    by_cases c0 : s.Res < 0
    · rw [decide_eq_true c0, fk_t, hr]
    rw [decide_eq_false c0, fk_f]
    by_cases c1 : s.Res > 3
    · rw [decide_eq_true c1, fk_t, hr]
    rw [decide_eq_false c1, fk_f]
    by_cases c2 : s.At < 0
    · rw [decide_eq_true c2, fk_t, hr]
    rw [decide_eq_false c2, fk_f]
    by_cases c3 : s.Len < 1
    · rw [decide_eq_true c3, fk_t, hr]
    rw [decide_eq_false c3, fk_f]
    by_cases c4 : s.At > t.C
    · rw [decide_eq_true c4, fk_t, hr]
    rw [decide_eq_false c4, fk_f]
    by_cases c5 : s.Len > t.C
    · rw [decide_eq_true c5, fk_t, hr]
    rw [decide_eq_false c5, fk_f]
    have hw : wr (s.At + s.Len) = s.At + s.Len := wr_in _ (by omega)
    rw [hw]
    by_cases c6 : s.At + s.Len > t.C
    · rw [decide_eq_true c6, fk_t, hr]
    exact absurd (by unfold secP; omega) hsec
  have hsec' := hsec
  unfold secP at hsec'
  have hw : wr (s.At + s.Len) = s.At + s.Len := wr_in _ (by omega)
  rw [hw]
  rw [decide_eq_false (by omega), fk_f, decide_eq_false (by omega), fk_f, decide_eq_false (by omega), fk_f, decide_eq_false (by omega), fk_f, decide_eq_false (by omega), fk_f, decide_eq_false (by omega), fk_f, decide_eq_false (by omega), fk_f]
  refine lp_up k (by unfold FU; omega) (fun j => ∀ i (hi : i < t.Secs.length), i < j → fitsP t.Secs[i] s) (fun i _ h => by omega) ?_
  intro nx2 j hj J3 hnx2
  rw [lt_nat]
  by_cases h2 : j < k
  rotate_left
  · have hjk : j = k := by omega
    subst hjk
    rw [decide_eq_false h2, fk_f, wr_succ j _ h (by omega)]
    refine hn ⟨fun i hi hij => ?_, fun a b ha hb hab hbj => ?_⟩
    · by_cases e : i = j
      · subst e; rw [hs]; exact hsec
      · exact J1 i hi (by omega)
    · by_cases e : b = j
      · subst e; rw [hs]; exact J3 a ha hab
      · exact J2 a b ha hb hab (by omega)
  have hjl : j < t.Secs.length := by omega
  rw [decide_eq_true h2, fk_t, ix_lt hjl]
  have ha := J1 j hjl h2
  have good : fitsP t.Secs[j] s → nx2 (wr ((j : Int) + 1)) = some (right t) := fun hf => by
    rw [wr_succ j k h2 (by omega)]
    refine hnx2 h2 fun i hi hij => ?_
    by_cases e : i = j
    · subst e; exact hf
    · exact J3 i hi (by omega)
  have bad : ¬ fitsP t.Secs[j] s → some false = some (right t) := fun hf => by
    rw [right_f.2 fun hr => hf (hs ▸ List.pairwise_iff_getElem.1 hr.2.2 j k hjl h h2)]
  generalize t.Secs[j] = a at *
  unfold secP at ha
  have hwa : wr (a.At + a.Len) = a.At + a.Len := wr_in _ (by omega)
  rw [hwa]
  have ticks : a.At ≤ s.At → lp (fun nx8 (v8 : Int × Int × Int) => fk (decide (v8.2.2 < s.At + s.Len)) (fk (decide (v8.2.2 < a.At + a.Len)) (nx8 (wr (v8.1 + 1), v8.2.1, wr (v8.2.2 + 1))) (nx8 (v8.1, wr (v8.2.1 + 1), wr (v8.2.2 + 1))))
      (fk (decide (v8.1 > 0)) (fk (decide (v8.2.1 > 0)) (some false) (fk (decide (a.Res = s.Res)) (some false) (nx2 (wr ((j : Int) + 1))))) (nx2 (wr ((j : Int) + 1))))) FU (0, 0, s.At) = some (right t) := by
    intro hle
    refine lp_inv (fun v => (s.At + s.Len - v.2.2).toNat) (fun v => s.At ≤ v.2.2 ∧ v.2.2 ≤ s.At + s.Len ∧ v.1 = max 0 (min v.2.2 (a.At + a.Len) - s.At) ∧ v.2.1 = v.2.2 - s.At - v.1) ?_ FU _ ⟨by simp, by simp; omega, by simp; omega, by simp⟩ (by simp only [FU]; omega)
    rintro nx8 ⟨m, o, q⟩ ⟨i1, i2, i3, i4⟩ hn8
    simp only at i1 i2 i3 i4
    by_cases c1 : q < s.At + s.Len
    · rw [decide_eq_true c1, fk_t]
      by_cases c2 : q < a.At + a.Len
      · rw [decide_eq_true c2, fk_t, wr_in (m + 1) (by omega), wr_in (q + 1) (by omega)]
        exact hn8 _ ⟨by simp only; omega, by simp only; omega, by simp only; omega, by simp only; omega⟩ (by simp only; omega)
      · rw [decide_eq_false c2, fk_f, wr_in (o + 1) (by omega), wr_in (q + 1) (by omega)]
        exact hn8 _ ⟨by simp only; omega, by simp only; omega, by simp only; omega, by simp only; omega⟩ (by simp only; omega)
    · rw [decide_eq_false c1, fk_f]
      by_cases c3 : m > 0
      · rw [decide_eq_true c3, fk_t]
        by_cases c4 : o > 0
        · rw [decide_eq_true c4, fk_t]; exact bad (by unfold fitsP; omega)
        · rw [decide_eq_false c4, fk_f]
          by_cases c5 : a.Res = s.Res
          · rw [decide_eq_true c5, fk_t]; exact bad (by unfold fitsP; omega)
          · rw [decide_eq_false c5, fk_f]; exact good (by unfold fitsP; omega)
      · rw [decide_eq_false c3, fk_f]; exact good (by unfold fitsP; omega)
  by_cases d1 : s.At < a.At
  · rw [decide_eq_true d1, fk_t]; exact bad (by unfold fitsP; omega)
  · rw [decide_eq_false d1, fk_f]
    by_cases d2 : s.At = a.At
    · rw [decide_eq_true d2, fk_t]
      by_cases d3 : s.Len > a.Len
      · rw [decide_eq_true d3, fk_t]; exact bad (by unfold fitsP; omega)
      · rw [decide_eq_false d3, fk_f]; exact ticks (by omega)
    · rw [decide_eq_false d2, fk_f]; exact ticks (by omega)


theorem ref05_All_eq (l : List Task) (hl : l.length ≤ 4611686018427387904) (hs : ∀ t ∈ l, t.Secs.length ≤ 4611686018427387904) : ref05_All l = some (decide (AllP l)) := by
  unfold ref05_All
  refine lp_upS l.length (by unfold FU; omega) (fun k n => ∃ m : Nat, n = (m : Int) ∧ m ≤ k ∧ ((m = k) ↔ ∀ j (h : j < l.length), j < k → RightP l[j])) 0 ⟨0, rfl, Nat.le_refl _, by simp⟩ ?_
  rintro nx k n hk ⟨m, rfl, hm, J⟩ hnx
  rw [lt_nat]
  by_cases h : k < l.length
  · rw [decide_eq_true h, fk_t, jn_eq, ix_lt h, bnd_eq (ref05_Right_eq _ (hs _ (List.getElem_mem h)))]
    rw [wr_succ k _ h hl, wr_in ((m : Int) + 1) (by omega)]
    by_cases hr : RightP l[k]
    · rw [right_t.2 hr, fk_t]
      refine hnx _ h ⟨m + 1, rfl, by omega, ?_⟩
      constructor
      · intro e j hj hjk
        by_cases e2 : j = k
        · subst e2; exact hr
        · exact J.1 (by omega) j hj (by omega)
      · intro ha
        have := J.2 fun j hj hjk => ha j hj (by omega)
        omega
    · rw [right_f.2 hr, fk_f]
      refine hnx _ h ⟨m, rfl, by omega, ?_⟩
      constructor
      · intro e; omega
      · intro ha; exact absurd (ha k h (by omega)) hr
  · have hkl : k = l.length := by omega
    subst hkl
    rw [decide_eq_false h, fk_f]
    have key : (m = l.length) ↔ ∀ t ∈ l, RightP t := by
      rw [J]
      constructor
      · intro ha t ht
        obtain ⟨j, hj, rfl⟩ := List.getElem_of_mem ht
        exact ha j hj hj
      · intro ha j hj _; exact ha _ (List.getElem_mem hj)
    by_cases e : m = l.length
    · rw [decide_eq_true (by omega), fk_t]
      exact dec_iff ⟨fun h8 => ⟨key.1 e, by omega⟩, fun ha => by have := ha.2; omega⟩
    · rw [decide_eq_false (by omega), fk_f]
      exact dec_f fun ha => e (key.2 ha.1)

def GreatP (l : List Task) : Prop := (∃ t ∈ l, 20 < t.Secs.length) ∨ 20 < l.length
instance (l : List Task) : Decidable (GreatP l) := by unfold GreatP; infer_instance
theorem law05_Great_eq (l : List Task) (hl : l.length ≤ 4611686018427387904) : law05_Great l = some (decide (GreatP l)) := by
  unfold law05_Great
  refine lp_up l.length (by unfold FU; omega) (fun k => ∀ j (h : j < l.length), j < k → l[j].Secs.length ≤ 20) (fun j _ h => by omega) ?_
  intro nx k hk J hnx
  rw [lt_nat]
  by_cases h : k < l.length
  · rw [decide_eq_true h, fk_t, ix_lt h]
    by_cases e : (l[k].Secs.length : Int) > 20
    · rw [decide_eq_true e, fk_t]; exact dec_t (.inl ⟨_, List.getElem_mem h, by omega⟩)
    · rw [decide_eq_false e, fk_f, wr_succ k _ h hl]
      refine hnx h fun j hj hjk => ?_
      by_cases e2 : j = k
      · subst e2; omega
      · exact J j hj (by omega)
  · rw [decide_eq_false h, fk_f]
    refine dec_iff ⟨fun h20 => .inr (by omega), ?_⟩
    rintro (⟨t, ht, h20⟩ | h20)
    · obtain ⟨j, hj, rfl⟩ := List.getElem_of_mem ht
      have := J j hj (by omega)
      omega
    · omega

theorem wf_len {l : List Task} {n : Nat} (h : l.length * 48 ≤ n) (hn : n ≤ BB) : l.length ≤ 4611686018427387904 := by unfold BB at hn; omega
theorem Task.wf.len {t : Task} (h : t.wf) : t.Secs.length ≤ 4611686018427387904 := by have := h.2.2.2.1; unfold BB at this; omega
/-! ### Levels -/
def maxL {α : Type} (f : α → Nat) : List α → Nat
  | [] => 0
  | x :: r => max (f x) (maxL f r)
def levelN (l : List Task) (D : Int) : Nat := 1 + l.countP (fun x => decide (x.D > D))
def ofN (l : List Task) (i : Int) : Nat := if AllP l ∧ 0 ≤ i then (match l[i.toNat]? with | some t => levelN l t.D | none => 0) else 0
def ceilN (l : List Task) (res : Int) : Nat := maxL (fun t => if usesP t res then levelN l t.D else 0) l
def ceil (l : List Task) (res : Int) : Nat := if AllP l then ceilN l res else 0
def heldN (l : List Task) (h : List Int) : Nat := maxL (ceil l) h
/-! The document's. -/
theorem AllP.len {l : List Task} (h : AllP l) : l.length ≤ 4611686018427387904 := by have := h.2; omega
def greatJ (l : List Task) (js : List Job) : Prop := GreatP l ∨ 50 < js.length
noncomputable instance (l : List Task) (js : List Job) : Decidable (greatJ l js) := Classical.propDecidable _
/-- what a job must be over tasks that are right -/
def bodyP (t : Task) (j : Job) : Prop := j.Due = j.At + t.D ∧ 1 ≤ j.Want ∧ j.Want ≤ 200 ∧ 0 ≤ j.Had ∧ j.Had < j.Want ∧ j.Had < t.C ∧ (j.Began = true ∨ j.Had = 0)
noncomputable instance (t : Task) (j : Job) : Decidable (bodyP t j) := Classical.propDecidable _
def jobP (l : List Task) (j : Job) : Prop := 0 ≤ j.Task ∧ 0 ≤ j.At ∧ j.At ≤ 4611686018427387703 ∧ ∃ h : j.Task.toNat < l.length, bodyP l[j.Task.toNat] j
noncomputable instance (l : List Task) (j : Job) : Decidable (jobP l j) := Classical.propDecidable _
def apartJ (a b : Job) : Prop := ¬ (a.Task = b.Task ∧ a.At = b.At)
def jobsP (l : List Task) (js : List Job) : Prop := AllP l ∧ js.length ≤ 32 ∧ (∀ j ∈ js, jobP l j) ∧ js.Pairwise apartJ
noncomputable instance (l : List Task) (js : List Job) : Decidable (jobsP l js) := Classical.propDecidable _
def heldJ (l : List Task) (j : Job) : List Int := match l[j.Task.toNat]? with | some t => held t j.Had | none => []
def heldA (l : List Task) (js : List Job) : List Int := js.flatMap (heldJ l)
def aheadP (a b : Job) : Prop := a.Due < b.Due ∨ (a.Due = b.Due ∧ (a.Task < b.Task ∨ (a.Task = b.Task ∧ a.At < b.At)))
instance (a b : Job) : Decidable (aheadP a b) := by unfold aheadP; infer_instance
/-! The first one. -/
def IsFK (js : List Job) (b : Bool) (K : Nat) (i : Int) : Prop :=
  (i = -1 ∧ ∀ k (hk : k < js.length), k < K → js[k].Began ≠ b) ∨
  (∃ n : Nat, i = (n : Int) ∧ ∃ h : n < js.length, n < K ∧ js[n].Began = b ∧ (∀ k (hk : k < js.length), k < K → js[k].Began = b → ¬ aheadP js[k] js[n]) ∧ ∀ k (hk : k < js.length), k < n → js[k].Began = b → aheadP js[n] js[k])
def IsF (js : List Job) (b : Bool) (i : Int) : Prop := IsFK js b js.length i
theorem IsF.uniq {js : List Job} {b : Bool} {i i' : Int} (h : IsF js b i) (h' : IsF js b i') : i = i' := by
  rcases h with ⟨h1, h2⟩ | ⟨n, rfl, hn, _, hb, h3, h4⟩ <;> rcases h' with ⟨h1', h2'⟩ | ⟨n', rfl, hn', _, hb', h3', h4'⟩
  · omega
  · exact absurd hb' (h2 n' hn' hn')
  · exact absurd hb (h2' n hn hn)
  · rcases Nat.lt_trichotomy n n' with h | h | h
    · exact absurd (h4' n hn h hb) (h3 n' hn' hn' hb')
    · rw [h]
    · exact absurd (h4 n' hn' h hb') (h3' n hn hn hb)
open Classical in
noncomputable def fst (js : List Job) (b : Bool) : Int := if h : ∃ i, IsF js b i then Classical.choose h else -1
theorem IsF.eq {js : List Job} {b : Bool} {i : Int} (h : IsF js b i) : i = fst js b := by
  have hx : ∃ i, IsF js b i := ⟨i, h⟩
  unfold fst
  rw [dif_pos hx]
  exact h.uniq (Classical.choose_spec hx)
theorem IsFK.zero (js : List Job) (b : Bool) : IsFK js b 0 (-1) := .inl ⟨rfl, fun k _ h => by omega⟩
theorem IsFK.skip {js : List Job} {b : Bool} {K : Nat} {i : Int} (h : IsFK js b K i) (hK : K < js.length) (hb : js[K].Began ≠ b) : IsFK js b (K + 1) i := by
  rcases h with ⟨h1, h2⟩ | ⟨n, rfl, hn, hl, hb', h3, h4⟩
  · refine .inl ⟨h1, fun k hk hkK => ?_⟩
    by_cases e : k = K
    · subst e; exact hb
    · exact h2 k hk (by omega)
  · refine .inr ⟨n, rfl, hn, by omega, hb', fun k hk hkK hkb => ?_, h4⟩
    by_cases e : k = K
    · subst e; exact absurd hkb hb
    · exact h3 k hk (by omega) hkb
theorem IsFK.keep {js : List Job} {b : Bool} {K n : Nat} (h : IsFK js b K (n : Int)) (hK : K < js.length) (hn : n < js.length) (ha : ¬ aheadP js[K] js[n]) : IsFK js b (K + 1) (n : Int) := by
  rcases h with ⟨h1, h2⟩ | ⟨m, e, hm, hl, hb', h3, h4⟩
  · omega
  · have : n = m := by omega
    subst this
    refine .inr ⟨n, rfl, hn, by omega, hb', fun k hk hkK hkb => ?_, h4⟩
    by_cases e : k = K
    · subst e; exact ha
    · exact h3 k hk (by omega) hkb
/-! Sorted jobs. -/
/-! Levels by deadlines. -/
/-! Who runs. -/
def jg (js : List Job) (i : Int) : Job := (js[i.toNat]?).getD ⟨0, 0, 0, 0, 0, false⟩
open Classical in
noncomputable def cho (l : List Task) (js : List Job) : Int :=
  if fst js false < 0 then fst js true
  else if 0 ≤ fst js true ∧ ¬ aheadP (jg js (fst js false)) (jg js (fst js true)) then fst js true
  else if fst js true < 0 ∨ heldN l (heldA l js) < ofN l (jg js (fst js false)).Task then fst js false
  else fst js true
/-! A tick. -/
def upd (j : Job) : Job := ⟨j.Task, j.At, j.Due, j.Want, j.Had + 1, true⟩
def taskC (l : List Task) (j : Job) : Int := match l[j.Task.toNat]? with | some t => t.C | none => 0
def overB (l : List Task) (j : Job) : Bool := decide (j.Had + 1 ≥ (if taskC l j < j.Want then taskC l j else j.Want))
def zeroJ : Job := ⟨0, 0, 0, 0, 0, false⟩
def tickN (l : List Task) (js : List Job) (n : Nat) (h : n < js.length) : List Job := if overB l js[n] = true then js.eraseIdx n else js.set n (upd js[n])
open Classical in
noncomputable def tick (l : List Task) (js : List Job) : List Job × Job × Bool :=
  if h : jobsP l js ∧ 0 ≤ cho l js ∧ (cho l js).toNat < js.length then (tickN l js (cho l js).toNat h.2.2, upd js[(cho l js).toNat], overB l js[(cho l js).toNat]) else (js, zeroJ, false)
/-! What jobs hold, of those that began. -/
/-! Jobs that came to be. -/
/-! Releases, not too early. -/
def lastsP (l : List Task) (ls : List Int) : Prop := AllP l ∧ ls.length = l.length ∧ ∀ x ∈ ls, -1 ≤ x ∧ x ≤ 4611686018427387903
noncomputable instance (l : List Task) (ls : List Int) : Decidable (lastsP l ls) := Classical.propDecidable _
def argP (l : List Task) (ls : List Int) (i t : Int) : Prop := lastsP l ls ∧ 0 ≤ i ∧ i < (l.length : Int) ∧ 0 ≤ t ∧ t ≤ 4611686018427387703
noncomputable instance (l : List Task) (ls : List Int) (i t : Int) : Decidable (argP l ls i t) := Classical.propDecidable _
def lg (ls : List Int) (i : Int) : Int := (ls[i.toNat]?).getD 0
def tT (l : List Task) (i : Int) : Int := match l[i.toNat]? with | some t => t.T | none => 0
theorem lg_lt {ls : List Int} {i : Int} (h : i.toNat < ls.length) : lg ls i = ls[i.toNat] := by unfold lg; rw [List.getElem?_eq_getElem h]; rfl
theorem tT_lt {l : List Task} {i : Int} (h : i.toNat < l.length) : tT l i = l[i.toNat].T := by unfold tT; rw [List.getElem?_eq_getElem h]
noncomputable def mayV (l : List Task) (ls : List Int) (i t : Int) : Int := if argP l ls i t then (if lg ls i ≠ -1 ∧ t < lg ls i + tT l i then 6 else 0) else 1
theorem police_Right_eq (l : List Task) (ls : List Int) (hl : l.length ≤ 4611686018427387904) (hs : ls.length ≤ 4611686018427387904) : police_Right l ls = some (decide (lastsP l ls)) := by
  unfold police_Right
  simp only [jn_eq, fk_t, fk_f]
  rw [bnd_eq (task_All_eq l hl)]
  by_cases ha : AllP l
  rotate_left
  · rw [decide_eq_false ha, Bool.not_false, fk_t]; exact dec_f fun h => ha h.1
  rw [decide_eq_true ha, Bool.not_true, fk_f]
  by_cases hn : (ls.length : Int) = (l.length : Int)
  rotate_left
  · rw [decide_eq_false hn, Bool.not_false, fk_t]; exact dec_f fun h => hn (by rw [h.2.1])
  rw [decide_eq_true hn, Bool.not_true, fk_f]
  refine lp_up ls.length (by unfold FU; omega) (fun k => ∀ i (h : i < ls.length), i < k → -1 ≤ ls[i] ∧ ls[i] ≤ 4611686018427387903) (fun i _ h => by omega) ?_
  intro nx k hk J hnx
  rw [lt_nat]
  by_cases h : k < ls.length
  rotate_left
  · rw [decide_eq_false h, fk_f]
    refine dec_t ⟨ha, by omega, fun x hx => ?_⟩
    obtain ⟨i, hi, rfl⟩ := List.getElem_of_mem hx
    exact J i hi (by omega)
  rw [decide_eq_true h, fk_t, ix_lt h, wr_succ k _ h hs]
  by_cases c1 : ls[k] < -1
  · rw [decide_eq_true c1, fk_t]; exact dec_f fun h2 => by have := (h2.2.2 _ (List.getElem_mem h)).1; omega
  rw [decide_eq_false c1, fk_f]
  by_cases c2 : ls[k] > 4611686018427387903
  · rw [decide_eq_true c2, fk_t]; exact dec_f fun h2 => by have := (h2.2.2 _ (List.getElem_mem h)).2; omega
  rw [decide_eq_false c2, fk_f]
  refine hnx h fun i hi hik => ?_
  by_cases e : i = k
  · subst e; omega
  · exact J i hi (by omega)
theorem argP_idx {l : List Task} {ls : List Int} {i t : Int} (h : argP l ls i t) : i.toNat < l.length ∧ i.toNat < ls.length := by
  have := h.1.2.1; have := h.2.1; have := h.2.2.1; omega
theorem argP_b {l : List Task} {ls : List Int} {i t : Int} (h : argP l ls i t) : -1 ≤ lg ls i ∧ lg ls i ≤ 4611686018427387903 ∧ 1 ≤ tT l i ∧ tT l i ≤ 200 := by
  obtain ⟨h1, h2⟩ := argP_idx h
  rw [lg_lt h2, tT_lt h1]
  have a := h.1.2.2 _ (List.getElem_mem h2)
  have b := (h.1.1.1 _ (List.getElem_mem h1)).1
  unfold ownP at b
  omega
theorem police_May_eq (l : List Task) (ls : List Int) (i t : Int) (hl : l.length ≤ 4611686018427387904) (hs : ls.length ≤ 4611686018427387904) : police_May l ls i t = some (mayV l ls i t) := by
  unfold police_May mayV
  simp only [jn_eq, fk_t, fk_f]
  rw [bnd_eq (police_Right_eq l ls hl hs)]
  by_cases ha : lastsP l ls
  rotate_left
  · rw [decide_eq_false ha, Bool.not_false, fk_t, if_neg (fun h => ha h.1)]
  rw [decide_eq_true ha, Bool.not_true, fk_f]
  by_cases c1 : i < 0
  · rw [decide_eq_true c1, fk_t, if_neg (fun h => by have := h.2.1; omega)]
  rw [decide_eq_false c1, fk_f]
  by_cases c2 : i ≥ (l.length : Int)
  · rw [decide_eq_true c2, fk_t, if_neg (fun h => by have := h.2.2.1; omega)]
  rw [decide_eq_false c2, fk_f]
  by_cases c3 : t < 0
  · rw [decide_eq_true c3, fk_t, if_neg (fun h => by have := h.2.2.2.1; omega)]
  rw [decide_eq_false c3, fk_f]
  by_cases c4 : t > 4611686018427387703
  · rw [decide_eq_true c4, fk_t, if_neg (fun h => by have := h.2.2.2.2; omega)]
  have hA : argP l ls i t := ⟨ha, by omega, by omega, by omega, by omega⟩
  obtain ⟨h1, h2⟩ := argP_idx hA
  have hb := argP_b hA
  rw [decide_eq_false c4, fk_f, if_pos hA]
  have i2 : ∀ {f : Int → Option Int}, ix ls i f = f (lg ls i) := fun {f} => by rw [lg_lt h2]; exact ix_int (by omega) h2
  have i1 : ∀ {f : Task → Option Int}, ix l i f = f l[i.toNat] := fun {f} => ix_int (by omega) h1
  simp only [i1, i2]
  rw [← tT_lt h1]
  by_cases c5 : lg ls i = -1
  · rw [decide_eq_true c5, Bool.not_true, fk_f, if_neg (fun h => h.1 c5)]
  rw [decide_eq_false c5, Bool.not_false, fk_t, wr_in _ (by omega)]
  by_cases c6 : t < lg ls i + tT l i
  · rw [decide_eq_true c6, fk_t, if_pos ⟨c5, c6⟩]
  · rw [decide_eq_false c6, fk_f, if_neg (fun h => c6 h.2)]
noncomputable def noteL (l : List Task) (ls : List Int) (i t : Int) : List Int := if mayV l ls i t = 0 then ls.set i.toNat t else ls
theorem mayV_arg {l : List Task} {ls : List Int} {i t : Int} (h : mayV l ls i t = 0) : argP l ls i t := by
  by_cases c : argP l ls i t
  · exact c
  · unfold mayV at h; rw [if_neg c] at h; omega
theorem police_Note_eq (l : List Task) (ls : List Int) (i t : Int) (hl : l.length ≤ 4611686018427387904) (hs : ls.length ≤ 1000000000) : police_Note l ls i t = some (noteL l ls i t, mayV l ls i t) := by
  unfold police_Note noteL
  rw [bnd_eq (police_May_eq l ls i t hl (by omega))]
  by_cases h : mayV l ls i t = 0
  rotate_left
  · rw [decide_eq_false h, Bool.not_false, fk_t, if_neg h]
  have hA := mayV_arg h
  obtain ⟨h1, h2⟩ := argP_idx hA
  have := hA.2.1
  rw [decide_eq_true h, Bool.not_true, fk_f, if_pos h, ck_t (by simp; omega), List.nil_append, ck_t (by simp; omega), ox_lt h2, h]
theorem lastsP_note {l : List Task} {ls : List Int} (h : lastsP l ls) (i t : Int) : lastsP l (noteL l ls i t) := by
  unfold noteL
  split
  · rename_i h0
    have hA := mayV_arg h0
    refine ⟨h.1, by rw [List.length_set]; exact h.2.1, fun x hx => ?_⟩
    rcases List.mem_or_eq_of_mem_set hx with hx | hx
    · exact h.2.2 x hx
    · subst hx; have := hA.2.2.2; omega
  · exact h
/-! Asks, one by one. -/
noncomputable def filterL (l : List Task) : List Int → List PoliceAsk → List Bool
  | _, [] => []
  | ls, a :: r => decide (mayV l ls a.Task a.At = 0) :: filterL l (noteL l ls a.Task a.At) r
noncomputable def lastsL (l : List Task) : List Int → List PoliceAsk → List Int
  | ls, [] => ls
  | ls, a :: r => lastsL l (noteL l ls a.Task a.At) r
theorem filterL_snoc (l : List Task) : ∀ (xs : List PoliceAsk) (ls : List Int) (a : PoliceAsk), filterL l ls (xs ++ [a]) = filterL l ls xs ++ [decide (mayV l (lastsL l ls xs) a.Task a.At = 0)]
  | [], ls, a => rfl
  | x :: xs, ls, a => congrArg (_ :: ·) (filterL_snoc l xs (noteL l ls x.Task x.At) a)
theorem lastsL_snoc (l : List Task) : ∀ (xs : List PoliceAsk) (ls : List Int) (a : PoliceAsk), lastsL l ls (xs ++ [a]) = noteL l (lastsL l ls xs) a.Task a.At
  | [], ls, a => rfl
  | x :: xs, ls, a => by simp only [List.cons_append, lastsL, lastsL_snoc l xs]
theorem filterL_len (l : List Task) : ∀ (xs : List PoliceAsk) (ls : List Int), (filterL l ls xs).length = xs.length
  | [], ls => rfl
  | x :: xs, ls => by simp only [filterL, List.length_cons, filterL_len l xs]
theorem lastsP_L {l : List Task} : ∀ (xs : List PoliceAsk) {ls : List Int}, lastsP l ls → lastsP l (lastsL l ls xs)
  | [], ls, h => h
  | x :: xs, ls, h => lastsP_L xs (lastsP_note h _ _)
def noneL (l : List Task) : List Int := List.replicate l.length (-1)
theorem noneL_P {l : List Task} (ha : AllP l) : lastsP l (noneL l) := ⟨ha, by simp [noneL], fun x hx => by rw [List.eq_of_mem_replicate hx]; omega⟩
theorem take_succ' {α : Type} (l : List α) (k : Nat) (h : k < l.length) : l.take (k + 1) = l.take k ++ [l[k]] := (List.take_append_getElem h).symm
theorem police_Filter_eq (l : List Task) (qs : List PoliceAsk) (hl : l.length ≤ 4611686018427387904) (hs : qs.length ≤ 1000000000) : police_Filter l qs = some (if AllP l then filterL l (noneL l) qs else []) := by
  unfold police_Filter
  rw [bnd_eq (task_All_eq l hl)]
  by_cases ha : AllP l
  rotate_left
  · rw [decide_eq_false ha, Bool.not_false, fk_t, if_neg ha]
  have h8 := ha.2
  rw [decide_eq_true ha, Bool.not_true, fk_f, if_pos ha]
  refine lp_upS l.length (by unfold FU; omega) (fun k o => o = List.replicate k (-1)) [] rfl ?_
  rintro nx k o hk rfl hnx
  simp only
  rw [lt_nat]
  by_cases h : k < l.length
  · rw [decide_eq_true h, fk_t, ck_t (by simp; omega), wr_succ k _ h (by omega)]
    exact hnx _ h (by rw [List.replicate_succ'])
  rw [decide_eq_false h, fk_f]
  have : k = l.length := by omega
  subst this
  refine lp_inv (fun v => qs.length - v.2.2.toNat) (fun v => ∃ q : Nat, v = (lastsL l (noneL l) (qs.take q), filterL l (noneL l) (qs.take q), (q : Int)) ∧ q ≤ qs.length) ?_ FU _ ⟨0, rfl, Nat.zero_le _⟩ (by unfold FU; simp; omega)
  rintro nx2 v ⟨q, rfl, hq⟩ hnx2
  simp only
  rw [lt_nat]
  by_cases h2 : q < qs.length
  rotate_left
  · rw [decide_eq_false h2, fk_f]
    have : q = qs.length := by omega
    rw [this, List.take_length]
  have hP := lastsP_L (qs.take q) (noneL_P ha)
  have hfl := filterL_len l (qs.take q) (noneL l)
  rw [List.length_take] at hfl
  rw [decide_eq_true h2, fk_t, ix_lt h2, bnd_eq (police_Note_eq l _ _ _ hl (by rw [hP.2.1]; omega)), ck_t (by simp; omega), wr_succ q _ h2 (by omega)]
  refine hnx2 _ ⟨q + 1, ?_, by omega⟩ (by simp only [Int.toNat_natCast]; omega)
  rw [take_succ' qs q h2, lastsL_snoc, filterL_snoc]
theorem lg_note {l : List Task} {ls : List Int} {i t j : Int} (hj : 0 ≤ j) (hjl : j.toNat < ls.length) : lg (noteL l ls i t) j = if mayV l ls i t = 0 ∧ i = j then t else lg ls j := by
  unfold noteL
  by_cases h : mayV l ls i t = 0
  · rw [if_pos h]
    have hA := mayV_arg h
    have h0 := hA.2.1
    unfold lg
    rw [List.getElem?_set]
    by_cases e : i = j
    · subst e; rw [if_pos rfl, if_pos hjl, if_pos ⟨h, rfl⟩]; rfl
    · rw [if_neg (by omega), if_neg (fun h => e h.2)]
  · rw [if_neg h, if_neg (fun hh => h hh.1)]
def inM (x : Int) : Prop := -4611686018427387903 ≤ x ∧ x ≤ 4611686018427387903
instance (x : Int) : Decidable (inM x) := by unfold inM; infer_instance
def askP (l : List Task) (k : Int) : Prop := AllP l ∧ 0 ≤ k ∧ k ≤ 4611686018427387903
instance (l : List Task) (k : Int) : Decidable (askP l k) := by unfold askP; infer_instance
/-! ### Patterns -/
def rowP (T : Int) (r : List Int) : Prop := r.length ≤ 1000 ∧ ∀ j (h : j < r.length), 0 ≤ r[j] ∧ r[j] ≤ 4611686018427387903 ∧ (0 < j → r[j - 1] + T ≤ r[j])
def patP (l : List Task) (a : List (List Int)) : Prop := AllP l ∧ a.length = l.length ∧ ∀ i (h : i < a.length) (h2 : i < l.length), rowP l[i].T a[i]
noncomputable instance (l : List Task) (a : List (List Int)) : Decidable (patP l a) := Classical.propDecidable _
theorem demand_Legal_eq (l : List Task) (a : List (List Int)) (hl : l.length ≤ 4611686018427387904) (hla : a.length ≤ 4611686018427387904) : demand_Legal l a = some (decide (patP l a)) := by
  unfold demand_Legal
  simp only [jn_eq, fk_t, fk_f]
  rw [bnd_eq (task_All_eq l hl)]
  by_cases ha : AllP l
  rotate_left
  · rw [decide_eq_false ha, Bool.not_false, fk_t]; exact dec_f fun h => ha h.1
  rw [decide_eq_true ha, Bool.not_true, fk_f]
  by_cases hn : (a.length : Int) = (l.length : Int)
  rotate_left
  · rw [decide_eq_false hn, Bool.not_false, fk_t]; exact dec_f fun h => hn (by have := h.2.1; omega)
  rw [decide_eq_true hn, Bool.not_true, fk_f]
  have hn2 : a.length = l.length := by omega
  refine lp_up a.length (by unfold FU; omega) (fun k => ∀ i (h : i < a.length) (h2 : i < l.length), i < k → rowP l[i].T a[i]) (fun i _ _ h => by omega) ?_
  intro nx k hk J hnx
  rw [lt_nat]
  by_cases h : k < a.length
  rotate_left
  · rw [decide_eq_false h, fk_f]
    exact dec_t ⟨ha, hn2, fun i h1 h2 => J i h1 h2 (by omega)⟩
  have h' : k < l.length := by omega
  rw [decide_eq_true h, fk_t, ix_lt h]
  have bad : ¬ rowP l[k].T a[k] → some false = some (decide (patP l a)) := fun hb => dec_f fun hp => hb (hp.2.2 k h h')
  by_cases c1 : (a[k].length : Int) > 1000
  · rw [decide_eq_true c1, fk_t]; exact bad fun hp => by have := hp.1; omega
  rw [decide_eq_false c1, fk_f]
  have hcT := (ha.1 _ (List.getElem_mem h')).c
  refine lp_up a[k].length (by unfold FU; omega) (fun q => ∀ j (hj : j < a[k].length), j < q → 0 ≤ a[k][j] ∧ a[k][j] ≤ 4611686018427387903 ∧ (0 < j → a[k][j - 1] + l[k].T ≤ a[k][j])) (fun j _ h => by omega) ?_
  intro nx2 q hq K hnx2
  rw [lt_nat]
  by_cases h2 : q < a[k].length
  rotate_left
  · rw [decide_eq_false h2, fk_f, wr_succ k _ h hla]
    refine hnx h fun i hi hi2 hik => ?_
    by_cases e : i = k
    · subst e; exact ⟨by omega, fun j hj => K j hj (by omega)⟩
    · exact J i hi hi2 (by omega)
  rw [decide_eq_true h2, fk_t, ix_lt h2, wr_succ q _ h2 (by omega)]
  by_cases c2 : a[k][q] < 0
  · rw [decide_eq_true c2, fk_t]; exact bad fun hp => by have := hp.2 q h2; omega
  rw [decide_eq_false c2, fk_f]
  by_cases c3 : a[k][q] > 4611686018427387903
  · rw [decide_eq_true c3, fk_t]; exact bad fun hp => by have := hp.2 q h2; omega
  rw [decide_eq_false c3, fk_f]
  have go : (0 < q → a[k][q - 1] + l[k].T ≤ a[k][q]) → nx2 ((q + 1 : Nat) : Int) = some (decide (patP l a)) := fun hgo => hnx2 h2 fun j hj hjq => by
    by_cases e : j = q
    · subst e; exact ⟨by omega, by omega, hgo⟩
    · exact K j hj (by omega)
  by_cases c4 : (q : Int) > 0
  rotate_left
  · rw [decide_eq_false c4, fk_f]; exact go fun h => by omega
  rw [decide_eq_true c4, fk_t, wr_in _ (by omega), ix_int (by omega) (by omega), ix_lt h']
  have e1 : ((q : Int) - 1).toNat = q - 1 := by omega
  simp only [e1]
  have hp := K (q - 1) (by omega) (by omega)
  rw [wr_in _ (by omega)]
  by_cases c5 : a[k][q] - a[k][q - 1] < l[k].T
  · rw [decide_eq_true c5, fk_t]; exact bad fun hp => by have := (hp.2 q h2).2.2 (by omega); omega
  · rw [decide_eq_false c5, fk_f]; exact go fun _ => by omega
end Go.Proofs.Ytkhebjkplmidnaa
namespace Go.Proofs.Ytkhebjkplmidnaa
open Go Go.VC
/-! The rows of what was let in. -/
def rowI (T : Int) (r : List Int) (k : Nat) (last : Int) : Prop := r.length ≤ k ∧ (∀ j (h : j < r.length), 0 ≤ r[j] ∧ r[j] ≤ 4611686018427387903 ∧ (0 < j → r[j - 1] + T ≤ r[j])) ∧ (∀ (h : 0 < r.length), r[r.length - 1] = last)
theorem rowI_same {T : Int} {r : List Int} {k : Nat} {last : Int} (h : rowI T r k last) : rowI T r (k + 1) last := ⟨Nat.le_succ_of_le h.1, h.2⟩
theorem rowI_snoc {T : Int} {r : List Int} {k : Nat} {last t : Int} (h : rowI T r k last) (h0 : 0 ≤ t) (hM : t ≤ 4611686018427387903) (hl : last ≠ -1 → last + T ≤ t) : rowI T (r ++ [t]) (k + 1) t := by
  obtain ⟨h1, h2, h3⟩ := h
  refine ⟨by rw [List.length_append]; simp only [List.length_cons, List.length_nil]; omega, fun j hj => ?_, fun hp => ?_⟩
  · rw [List.length_append] at hj
    simp only [List.length_cons, List.length_nil] at hj
    by_cases c : j < r.length
    · rw [List.getElem_append_left c]
      obtain ⟨a, b, d⟩ := h2 j c
      refine ⟨a, b, fun hp => ?_⟩
      rw [List.getElem_append_left (by omega)]
      exact d hp
    · have e : j = r.length := by omega
      subst e
      rw [List.getElem_append_right (Nat.le_refl _)]
      simp only [Nat.sub_self, List.getElem_cons_zero]
      refine ⟨h0, hM, fun hp => ?_⟩
      rw [List.getElem_append_left (by omega), h3 hp]
      refine hl fun e => ?_
      have := (h2 (r.length - 1) (by omega)).1
      rw [h3 hp] at this
      omega
  · simp only [List.length_append, List.length_cons, List.length_nil]
    rw [List.getElem_append_right (by omega)]
    simp
def RowsI (l : List Task) (k : Nat) (ls : List Int) (rows : List (List Int)) : Prop := rows.length = l.length ∧ ∀ j (hj : j < l.length) (h2 : j < rows.length), rowI l[j].T rows[j] k (lg ls j)
theorem RowsI.no {l : List Task} {k : Nat} {ls : List Int} {rows : List (List Int)} (h : RowsI l k ls rows) {i t : Int} (hm : ¬ mayV l ls i t = 0) : RowsI l (k + 1) (noteL l ls i t) rows := by
  unfold noteL
  rw [if_neg hm]
  exact ⟨h.1, fun j hj h2 => rowI_same (h.2 j hj h2)⟩
theorem RowsI.yes {l : List Task} {k : Nat} {ls : List Int} {rows : List (List Int)} (h : RowsI l k ls rows) {i : Nat} {t : Int} (hm : mayV l ls i t = 0) : RowsI l (k + 1) (noteL l ls i t) (rows.set i (rows.getD i [] ++ [t])) := by
  have hA := mayV_arg hm
  obtain ⟨x1, x2⟩ := argP_idx hA
  simp only [Int.toNat_natCast] at x1 x2
  have hi : i < rows.length := by rw [h.1]; exact x1
  refine ⟨by rw [List.length_set]; exact h.1, fun j hj h2 => ?_⟩
  rw [List.length_set] at h2
  rw [lg_note (Int.natCast_nonneg j) (by rw [Int.toNat_natCast, hA.1.2.1]; exact hj)]
  rw [List.getElem_set]
  by_cases c : i = j
  · subst c
    rw [if_pos rfl, if_pos ⟨hm, rfl⟩]
    have e : rows.getD i [] = rows[i] := by rw [List.getD_eq_getElem?_getD, List.getElem?_eq_getElem hi]; rfl
    rw [e]
    have ht := hA.2.2.2
    refine rowI_snoc (h.2 i hj h2) ht.1 (by omega) fun hne => ?_
    have hT : tT l (i : Int) = l[i].T := tT_lt (i := (i : Int)) (by simpa using hj)
    unfold mayV at hm
    rw [if_pos hA] at hm
    by_cases c2 : lg ls i ≠ -1 ∧ t < lg ls i + tT l i
    · rw [if_pos c2] at hm; cases hm
    · rw [hT] at c2; omega
  · rw [if_neg c, if_neg (fun e => c (by have := e.2; omega))]
    exact rowI_same (h.2 j hj h2)
theorem filterL_get (l : List Task) : ∀ (xs : List PoliceAsk) (ls : List Int) (k : Nat) (h : k < xs.length), (filterL l ls xs)[k]? = some (decide (mayV l (lastsL l ls (xs.take k)) xs[k].Task xs[k].At = 0))
  | [], ls, k, h => by cases h
  | x :: xs, ls, 0, h => rfl
  | x :: xs, ls, k + 1, h => by
    have := filterL_get l xs (noteL l ls x.Task x.At) k (by simpa using h)
    simp only [filterL, List.getElem?_cons_succ, this, List.take_succ_cons, lastsL, List.getElem_cons_succ]
theorem RowsI.pat {l : List Task} {k : Nat} {ls : List Int} {rows : List (List Int)} (h : RowsI l k ls rows) (ha : AllP l) (hk : k ≤ 1000) : patP l rows :=
  ⟨ha, h.1, fun i hi h2 => ⟨Nat.le_trans (h.2 i h2 hi).1 hk, (h.2 i h2 hi).2.1⟩⟩
theorem pat_lp {σ : Type} {body : (σ → Option Bool) → σ → Option Bool} (l : List Task) (qs : List PoliceAsk) (ha : AllP l) (hq : qs.length ≤ 100) (idx : σ → Int) (toL : σ → List (List Int)) (v0 : σ) (h0 : idx v0 = 0) (hL0 : toL v0 = List.replicate l.length [])
    (hEnd : ∀ nx v, idx v = qs.length → patP l (toL v) → body nx v = some true)
    (hNo : ∀ nx v (k : Nat) (hk : k < qs.length), idx v = k → (filterL l (noneL l) qs)[k]? = some false → ∃ v', idx v' = (k + 1 : Nat) ∧ toL v' = toL v ∧ body nx v = nx v')
    (hYes : ∀ nx v (k : Nat) (hk : k < qs.length), idx v = k → (filterL l (noneL l) qs)[k]? = some true → ∀ i : Nat, qs[k].Task = i → i < l.length → (∀ r ∈ toL v, r.length ≤ 1000) → ∃ v', idx v' = (k + 1 : Nat) ∧ toL v' = (toL v).set i ((toL v).getD i [] ++ [qs[k].At]) ∧ body nx v = nx v') :
    lp body FU v0 = some true := by
  refine lp_inv (fun v => qs.length - (idx v).toNat) (fun v => ∃ k : Nat, idx v = k ∧ k ≤ qs.length ∧ RowsI l k (lastsL l (noneL l) (qs.take k)) (toL v)) ?_ FU _ ⟨0, h0, Nat.zero_le _, ?_⟩ (by unfold FU; omega)
  · rintro nx v ⟨k, hk, hkl, hI⟩ hnx
    by_cases c : k < qs.length
    rotate_left
    · exact hEnd nx v (by rw [hk]; omega) (hI.pat ha (by omega))
    have hf := filterL_get l qs (noneL l) k c
    have hn : lastsL l (noneL l) (qs.take (k + 1)) = noteL l (lastsL l (noneL l) (qs.take k)) qs[k].Task qs[k].At := by rw [take_succ' qs k c, lastsL_snoc]
    by_cases hm : mayV l (lastsL l (noneL l) (qs.take k)) qs[k].Task qs[k].At = 0
    · rw [decide_eq_true hm] at hf
      have hA := mayV_arg hm
      obtain ⟨i, hi⟩ : ∃ i : Nat, qs[k].Task = i := ⟨qs[k].Task.toNat, by have := hA.2.1; omega⟩
      obtain ⟨v', e1, e2, e3⟩ := hYes nx v k c hk hf i hi (by have := hA.2.2.1; omega) (fun r hr => by
        obtain ⟨j, hj⟩ := List.getElem?_of_mem hr
        have hjl := (List.getElem?_eq_some_iff.1 hj).1
        have := (hI.2 j (by rw [← hI.1]; exact hjl) hjl).1
        rw [(List.getElem?_eq_some_iff.1 hj).2] at this
        omega)
      rw [e3]
      refine hnx v' ⟨k + 1, e1, c, ?_⟩ (by rw [e1, hk]; omega)
      rw [hn, e2, hi]
      rw [hi] at hm
      exact hI.yes hm
    · rw [decide_eq_false hm] at hf
      obtain ⟨v', e1, e2, e3⟩ := hNo nx v k c hk hf
      rw [e3]
      refine hnx v' ⟨k + 1, e1, c, ?_⟩ (by rw [e1, hk]; omega)
      rw [hn, e2]
      exact hI.no hm
  · rw [hL0]
    refine ⟨by simp, fun j hj h2 => ?_⟩
    simp only [List.getElem_replicate]
    exact ⟨Nat.zero_le _, fun j h => by simp at h, fun h => by simp at h⟩
end Go.Proofs.Ytkhebjkplmidnaa
