/- Part 18 of what follows is proved here: what the statement TopSupplies needs of functions and plain laws. -/
import Derived.Test.YtpephpefjddgcaaGreatXTopSupplies6
import Derived.Test.YtpephpefjddgcaaGreatV9
import Derived.Test.YtpephpefjddgcaaGreatV8
import Derived.Test.YtpephpefjddgcaaGreatXTopSupplies0
set_option linter.unusedVariables false
set_option linter.unusedSimpArgs false
set_option maxRecDepth 100000
set_option maxHeartbeats 40000000
namespace Go.VC
open Go.RowKit (Below)
/-! Slices whose elements hold slices of the call's own: a box of as many cells. -/
section
variable {P : Program} {T : TypeId → Option TI} {w0 : World} {p0 p : Nat → Prop} {σ : Nat → Value} {s : St} {tm : Array Value} {ups : List (Array Value)} {w w' : World} {K : St → Prop}

def boxN (N : Nat) (z : List LV) : List LV := match N with | 0 => [] | n + 1 => z ++ boxN n z
theorem boxN_length (z : List LV) : ∀ N, (boxN N z).length = N * z.length
  | 0 => by simp [boxN]
  | n + 1 => by rw [boxN, List.length_append, boxN_length z n, Nat.succ_mul, Nat.add_comm]
theorem boxN_get (z : List LV) (hz : 0 < z.length) : ∀ (N k : Nat), k < N * z.length → (boxN N z)[k]? = z[k % z.length]?
  | 0, k, h => by simp at h
  | n + 1, k, h => by
    rw [boxN]
    by_cases c : k < z.length
    · rw [List.getElem?_append_left c, Nat.mod_eq_of_lt c]
    · rw [List.getElem?_append_right (by omega), boxN_get z hz n (k - z.length) (by rw [Nat.succ_mul] at h; omega)]
      rw [← Nat.mod_eq_sub_mod (by omega)]
theorem mkB (hT : TabOk P T) {o : Oper} {t e : TypeId} {l c : Operand} {k1 k2 : IntKind} {n m : Int} {i ie : TI} (N : Nat) (ho : o.op = .makeSlice t l c) (hd : dstLt o.dst s.n = true) (hl : s.eval l = .l (.d (.int k1 n))) (hc : s.eval c = .l (.d (.int k2 m))) (hn : n = (N : Int)) (hm : m = (N : Int))
    (hi : T t = some i) (hk : i.k = .slice e) (hie : T e = some ie) (hb : N * ie.bytes ≤ 281474976710656) (hz : 0 < ie.zero.length) (hN : N ≤ 1000000) (hsz : ie.size = ie.zero.length)
    (h : keyX s.up o.dst fun key => fS (s.drop key) fun s => fLVs (boxN N ie.zero) fun cs => appX s o.dst { v := .l (.bsl key N ie.size), nb := some (key, cs) } K) : OpX P o s K := by
  subst hn; subst hm
  rw [keyX_eq, fS_eq, fLVs_eq, appX_eq] at h
  generalize hkey : keyOf s o.dst = key at h
  refine ⟨fun w0 p0 p σ tm ups w Q hr => ?_⟩
  have hf : Free key (s.drop key) := Free.drop _ _
  have h2 := hr.drop key
  have hl' := hr.eval (ds := []) l
  have hc' := hr.eval (ds := []) c
  rw [hl] at hl'
  rw [hc] at hc'
  have hu := desc_slice (hT.ok t i hi) hk
  obtain ⟨j, zv, h1, h2', h3, h4, h5, h6, h7⟩ := (hT.ok e ie hie).info
  have hrun := run_make (P := P) w t e j zv hu h1 h4 k1 k2 N N (by omega) (Int.le_refl _) (by have hb' : ((N * ie.bytes : Nat) : Int) ≤ 281474976710656 := by omega
                                                                                              rw [Int.natCast_mul] at hb'; rw [h3, Int.mul_comm]; exact hb') (by omega)
  simp only [Int.toNat_natCast] at hrun
  have hrep : All2 (RepL σ w p) ie.zero zv.cells.toList := by rw [← h5]; exact constL_rep_all _ σ w p
  have hzl : zv.cells.size = ie.zero.length := by rw [hrep.1, Array.length_toList]
  have hon : ∀ x ∈ boxN N ie.zero, x.on key = false := by
    intro x hx
    obtain ⟨q, hq⟩ := List.getElem?_of_mem hx
    have hql := (List.getElem?_eq_some_iff.1 hq).1
    rw [boxN_length] at hql
    rw [boxN_get _ hz _ _ hql] at hq
    have hx := List.mem_of_getElem? hq
    rw [← h5] at hx
    obtain ⟨v, _, rfl⟩ := List.mem_map.1 hx
    unfold constL
    split <;> rfl
  have hall : All2 (RepL σ w p) (boxN N ie.zero) (madeCells zv.cells (N * j.size)).toList := by
    have hjs : j.size = ie.zero.length := by rw [h2', hsz]
    refine ⟨by rw [boxN_length, Array.length_toList, size_madeCells, hjs], fun q x y hx hy => ?_⟩
    have hql := (List.getElem?_eq_some_iff.1 hx).1
    rw [boxN_length] at hql
    rw [boxN_get _ hz _ _ hql] at hx
    rw [Array.getElem?_toList] at hy
    simp only [madeCells, Array.getElem?_map] at hy
    rw [Array.getElem?_range] at hy
    rw [hjs] at hy
    simp only [hql, if_true, Option.map_some, Option.some.injEq] at hy
    rw [hzl] at hy
    have hm : q % ie.zero.length < zv.cells.size := by rw [hzl]; exact Nat.mod_lt _ hz
    rw [getElem!_pos zv.cells _ hm] at hy
    refine hrep.2 (q % ie.zero.length) x y hx ?_
    rw [Array.getElem?_toList, Array.getElem?_eq_getElem hm, hy]
  have hnew := h2.newBoxF key _ _ e hall hf hon
  have hexec : (execOp (Act.eval ⟨tm, []⟩) o).run P w = .ok (.value (.slice (some ⟨w.heap.size, 0, none⟩) N N)) (w.alloc (.cells (madeCells zv.cells (N * j.size)).toList.toArray e)) := by
    unfold execOp
    simp only [ho]
    rw [RepD_int hl', RepD_int hc']
    simp only [Sem.run_bind]
    rw [hrun, Array.toArray_toList]
    rfl
  unfold Oper.wp
  rw [hexec, Oper.upon_value]
  exact ⟨by cases o.dst <;> rfl, _, p, _, h, hnew.put o.dst (.l (.bsl key N ie.size)) _ (fun d e => by show d < (s.drop key).n; exact dstLt_spec hd d e) ⟨by unfold maxLen; omega, w.heap.size, upd_same _ _ _, rfl⟩ []⟩
theorem mkB0 (hT : TabOk P T) {o : Oper} {t e : TypeId} {l c : Operand} {k1 k2 : IntKind} {n m : Int} {i ie : TI} (ho : o.op = .makeSlice t l c) (hd : dstLt o.dst s.n = true) (hl : s.eval l = .l (.d (.int k1 n))) (hc : s.eval c = .l (.d (.int k2 m))) (hn : n = 0) (hm : m = 0)
    (hi : T t = some i) (hk : i.k = .slice e) (hie : T e = some ie) (h : putX s o.dst (.l (.d (.sl []))) K) : OpX P o s K := by
  subst hn; subst hm
  rw [putX_eq] at h
  refine ⟨fun w0 p0 p σ tm ups w Q hr => ?_⟩
  have hl' := hr.eval (ds := []) l
  have hc' := hr.eval (ds := []) c
  rw [hl] at hl'
  rw [hc] at hc'
  have hu := desc_slice (hT.ok t i hi) hk
  obtain ⟨j, zv, h1, h2', h3, h4, h5, h6, h7⟩ := (hT.ok e ie hie).info
  have hrun := run_make (P := P) w t e j zv hu h1 h4 k1 k2 0 0 (by omega) (Int.le_refl _) (by simp) (by omega)
  have hexec : (execOp (Act.eval ⟨tm, []⟩) o).run P w = .ok (.value (.slice (some ⟨w.heap.size, 0, none⟩) 0 0)) (w.alloc (.cells (madeCells zv.cells (Int.toNat 0 * j.size)) e)) := by
    unfold execOp
    simp only [ho]
    rw [RepD_int hl', RepD_int hc']
    simp only [Sem.run_bind]
    rw [hrun]
    rfl
  unfold Oper.wp
  rw [hexec, Oper.upon_value]
  have hbel : Below w.heap.size w (w.alloc (.cells (madeCells zv.cells (Int.toNat 0 * j.size)) e)) := ⟨rfl, rfl, rfl, by show _ ≤ (w.heap.push _).size; simp, fun b hb => by
    show (w.heap.push _)[b]? = _
    rw [Array.getElem?_push_lt hb, Array.getElem?_eq_getElem hb]⟩
  have hrel := hr.called hbel (p' := p) (fun _ h => h) (fun b h => .inl h) (fun b h => Nat.lt_of_lt_of_le (hr.plt b h) hbel.size)
  refine ⟨by cases o.dst <;> rfl, _, p, σ, h, hrel.put o.dst _ _ (dstLt_spec hd) ?_ []⟩
  exact RepD.sl [] 0 _ 0 (fun _ _ => undef) (Nat.le_refl _) (by unfold maxLen; omega) (fun e => by cases e) (fun ad e hn => absurd rfl hn) (fun r hr => by cases hr) (fun ad i j r x e h1 => by simp at h1) (fun i j r x h1 => by simp at h1)
theorem lenB (hT : TabOk P T) {o : Oper} {t e : TypeId} {x : Operand} {k n sz : Nat} {i : TI} (ho : o.op = .call ⟨.builtin .len, #[x], #[t]⟩) (hd : dstLt o.dst s.n = true) (hx : s.eval x = .l (.bsl k n sz)) (hi : T t = some i) (hk : i.k = .slice e) (h : putX s o.dst (.l (.d (.int .i64 (n : Int)))) K) : OpX P o s K := by
  rw [putX_eq] at h
  refine OpX.pure hd _ h fun w0 p0 p σ tm ups w hr => ⟨_, ?_, .int .i64 (n : Int)⟩
  have hx' := hr.eval (ds := []) x
  rw [hx] at hx'
  obtain ⟨_, b, _, hv⟩ := hx'
  have hu := desc_slice (hT.ok t i hi) hk
  have hev : (#[x] : Array Operand).map (Act.eval ⟨tm, []⟩) = #[Value.slice (some ⟨b, 0, none⟩) n n] := by rw [← hv]; simp
  rw [run_exec_builtin ho rfl]
  simp only [hev, builtin, Builtin.len_, Sem.run_bind, run_underlying hu, Sem.run_pure, Result.andThen_ok, goInt]
  simp [Builtin.len_, run_underlying hu, goInt]
/-- A row of bytes that is turned to its own type: nothing will be written there. -/
theorem cvO {o : Oper} {t e : TypeId} {x : Operand} {k : Nat} {z : Own} (ho : o.op = .convert t t x) (hd : dstLt o.dst s.n = true) (hx : s.eval x = .l (.own k)) (hz : assoc s.o k = some z) (hn : z.2.2.isEmpty = false) (hu : P.underlying t = some (.slice e)) (hue : P.underlying e = some (.int .u8))
    (h : fS (s.drop k) fun s => putX s o.dst (.l (.d (.sl z.2.2))) K) : OpX P o s K := by
  rw [fS_eq, putX_eq] at h
  refine ⟨fun w0 p0 p σ tm ups w Q hr => ?_⟩
  have hx' := hr.eval (ds := []) x
  rw [hx] at hx'
  have hlive : s.live k := .inr (by rw [hz]; rfl)
  obtain ⟨xs, ho1, ho2, ho3, ho4⟩ := hr.o k z hz
  obtain ⟨hv, _⟩ := hx'
  rcases ho1.2 with ⟨_, h0⟩ | ⟨g, cap, cur, hs, hb, hg, hnc, hcm, hcs, htake⟩
  · rw [List.length_eq_zero_iff.1 h0] at hn; cases hn
  have hlt : g < w.heap.size := (Array.getElem?_eq_some_iff.1 hg).1
  let w' : World := w.freeze ⟨g, cur.size, none⟩ 1
  have hblk : ∀ b, b ≠ g → w'.heap[b]? = w.heap[b]? := fun b hb => by
    show (w.heap.modify g _)[b]? = _
    rw [Array.getElem?_modify, if_neg (fun c => hb c.symm)]
  have hg' : w'.heap[g]? = some (.cells cur z.1 (cur.size, cur.size + 1)) := by
    show (w.heap.modify g _)[g]? = _
    rw [Array.getElem?_modify, if_pos rfl, hg]
    rfl
  have hexec : (execOp (Act.eval ⟨tm, []⟩) o).run P w = .ok (.value (σ k)) w' := by
    unfold execOp
    have hsh : w.shape? g = some (z.1, cur.size) := by unfold World.shape?; rw [hg]
    simp only [ho]
    rw [hv, hs]
    simp [convert, run_underlying hu, run_underlying hue, markStringish, hsh]
    rfl
  unfold Oper.wp
  rw [hexec, Oper.upon_value]
  have hbel : Below w0.heap.size w0 w' := ⟨hr.below.os, hr.below.tape, hr.below.output, by show _ ≤ (w.heap.modify g _).size; rw [Array.size_modify]; exact hr.below.size, fun b hb' => by
    rw [hblk b (by omega)]; exact hr.below.block b hb'⟩
  have hsz : w.heap.size ≤ w'.heap.size := by show _ ≤ (w.heap.modify g _).size; rw [Array.size_modify]; exact Nat.le_refl _
  have hσg : blk (σ k) = some g := by rw [hs]; rfl
  have h1 := hr.step (σ' := σ) k (fun _ _ => rfl) hbel (fun q hq hc => hblk q fun e => by
    subst e
    rcases hc with hc | ⟨j, hj, hl, hjg⟩
    · exact ho4 q hσg hc
    · exact hj (hr.apart j k q hl hlive hjg hσg)) hsz
  have h2 := h1.freeze hb (by omega) (fun j hj hjg => (live_drop hj).1 (hr.apart j k g (live_drop hj).2 hlive hjg hσg))
  refine ⟨by cases o.dst <;> rfl, _, _, σ, h, h2.put o.dst _ _ (dstLt_spec hd) ?_ []⟩
  have hpw : ∀ b, p b → w'.heap[b]? = w.heap[b]? := fun b hb' => hblk b fun e => ho4 g hσg (e ▸ hb')
  rw [hs]
  refine RepD.sl z.2.2 z.2.1 _ cap (fun i j => xs.getD (i * z.2.1 + j) undef) hnc hcm (fun e => by cases e) (fun ad e _ => .inr (by cases e; rfl)) ho2 ?_ ?_
  · intro ad i j r x e hi hj
    cases e
    have hjl : j < z.2.1 := by rw [← ho2 r (List.mem_of_getElem? hi)]; exact (List.getElem?_eq_some_iff.1 hj).1
    have hf := flatten_get z.2.1 z.2.2 ho2 i j hjl
    rw [hi, Option.bind_some, hj] at hf
    obtain ⟨u, hu', hru⟩ := ho3.get hf
    have hc := ho1.cells (g := g) (by rw [hs]; rfl) _ u hu'
    rw [List.getD_eq_getElem?_getD, hu', Option.getD_some]
    have hcell : ∀ (W : World) (fz : Nat × Nat), W.heap[g]? = some (.cells cur z.1 fz) → W.cell? ⟨g, i * z.2.1 + j, none⟩ = cur[i * z.2.1 + j]? := by
      intro W fz hW
      simp [World.cell?, hW]
    have e2 : (⟨g, 0, none⟩ : Addr).add (i * z.2.1 + j) = ⟨g, i * z.2.1 + j, none⟩ := by unfold Addr.add; split <;> simp_all
    rw [e2] at hc ⊢
    rw [hcell w' _ hg', ← hcell w _ hg]
    exact hc
  · intro i j r x hi hj
    have hjl : j < z.2.1 := by rw [← ho2 r (List.mem_of_getElem? hi)]; exact (List.getElem?_eq_some_iff.1 hj).1
    have hf := flatten_get z.2.1 z.2.2 ho2 i j hjl
    rw [hi, Option.bind_some, hj] at hf
    obtain ⟨u, hu', hru⟩ := ho3.get hf
    rw [List.getD_eq_getElem?_getD, hu', Option.getD_some]
    exact (hru.mono hpw (fun _ h => h)).mono (fun _ _ => rfl) (fun _ h => .inl h)
/-- The ways out of a call that is walked in place meet. -/
theorem inJ {α R : Type} {r : R} {Y : α → Option R} {X : (α → Option R) → Option R} {f : FuncId} {args : List AV} {dst : Option Nat} (st : α → St) (h : jn Y X = some r)
    (h1 : ∀ (k : α → Option R) (hk : ∀ v, k v = some r → Y v = some r), X k = some r → CallX P f args s dst fun s' => ∃ s2, Weak s' s2 ∧ ∃ v, s2 = st v ∧ Y v = some r)
    (h2 : ∀ v, Y v = some r → K (st v)) : CallX P f args s dst K :=
  ⟨(h1 Y (fun _ h => h) h).h.mono fun r s' ⟨hn, s2, hw, s3, hw2, v, hv, hy⟩ => ⟨hn, s3, hw.trans hw2, hv ▸ h2 v hy⟩⟩
theorem fkN {R : Type} {r : R} {b : Bool} {x y : Option R} {X Y : Prop} (h : fk b x y = some r) (h1 : b = true → x = some r → X) (h2 : b = false → y = some r → Y) : forkK b X Y := by
  cases b
  · exact h2 rfl h
  · exact h1 rfl h
theorem lpX {α R : Type} {r : R} {body : (α → Option R) → α → Option R} {n : Nat} {v0 : α} {xb : (Exit → St → Prop) → St → Prop} {Q : Exit → St → Prop} (st : α → St) (h : lp body n v0 = some r) (hw : WkF s (st v0))
    (step : ∀ (n : Nat) (nx : α → Option R) (hn : ∀ v', nx v' = some r → lp body n v' = some r) (v : α), body nx v = some r → xb (fun e s' => match e with | .normal => ∃ n' s2, n' < n + 1 ∧ Weak s' s2 ∧ ∃ v', s2 = st v' ∧ lp body n' v' = some r | e => Q e s') (st v)) : LoopVC xb Q s := lpS st h hw.h step
/-- Few numbers, one by one. -/
theorem mkF {R : Type} {r : R} {b : Bool} {x y : Option R} {G : Prop} (h : fk b x y = some r) (h1 : b = true → x = some r → G) (h2 : y = some r → G) : G := by
  cases b
  · exact h2 h
  · exact h1 rfl h
end
end Go.VC
namespace Go.Proofs.YtpephpefjddgcaaGreat
open Go Go.VC
structure Face where
  P : Int
  B : Int
  deriving DecidableEq
def Face.enc (x : Face) : List Go.VC.D := [.int .i64 x.P, .int .i64 x.B]
structure Entry where
  At : Int
  Kind : Int
  Task : Int
  deriving DecidableEq
def Entry.enc (x : Entry) : List Go.VC.D := [.int .i64 x.At, .int .i64 x.Kind, .int .i64 x.Task]
structure WorldSaw where
  At : Int
  Value : Int
  Err : Int
  deriving DecidableEq
def WorldSaw.enc (x : WorldSaw) : List Go.VC.D := [.int .i64 x.At, .int .i64 x.Value, .int .i64 x.Err]
structure Synthlayer where
  l : List Face
  wants : List Int
  deriving DecidableEq
def Synthlayer.enc (x : Synthlayer) : List Go.VC.D := [.sl (x.l.map Face.enc), .sl (x.wants.map (eI .i64))]
structure Window where
  Part : Int
  From : Int
  Len : Int
  deriving DecidableEq
def Window.enc (x : Window) : List Go.VC.D := [.int .i64 x.Part, .int .i64 x.From, .int .i64 x.Len]
structure Imagereader where
  b : List Int
  at' : Int
  e : Int
  deriving DecidableEq
def Imagereader.enc (x : Imagereader) : List Go.VC.D := [.sl (x.b.map (eI .u8)), .int .i64 x.at', .int .i64 x.e]
structure Port where
  From : Int
  To : Int
  Cap : Int
  deriving DecidableEq
def Port.enc (x : Port) : List Go.VC.D := [.int .i64 x.From, .int .i64 x.To, .int .i64 x.Cap]
structure Sec where
  Res : Int
  At : Int
  Len : Int
  deriving DecidableEq
def Sec.enc (x : Sec) : List Go.VC.D := [.int .i64 x.Res, .int .i64 x.At, .int .i64 x.Len]
structure RingRing where
  Buf : List Int
  First : Int
  Many : Int
  deriving DecidableEq
def RingRing.enc (x : RingRing) : List Go.VC.D := [.sl (x.Buf.map (eI .i64)), .int .i64 x.First, .int .i64 x.Many]
structure PortLine where
  Port : Port
  Under : RingRing
  Got : RingRing
  deriving DecidableEq
def PortLine.enc (x : PortLine) : List Go.VC.D := [.int .i64 x.Port.From, .int .i64 x.Port.To, .int .i64 x.Port.Cap, .sl (x.Under.Buf.map (eI .i64)), .int .i64 x.Under.First, .int .i64 x.Under.Many, .sl (x.Got.Buf.map (eI .i64)), .int .i64 x.Got.First, .int .i64 x.Got.Many]
structure Partbook where
  log : List Entry
  now : Int
  deriving DecidableEq
def Partbook.enc (x : Partbook) : List Go.VC.D := [.sl (x.log.map Entry.enc), .int .i64 x.now]
structure Job where
  Task : Int
  At : Int
  Due : Int
  Want : Int
  Had : Int
  Began : Bool
  deriving DecidableEq
def Job.enc (x : Job) : List Go.VC.D := [.int .i64 x.Task, .int .i64 x.At, .int .i64 x.Due, .int .i64 x.Want, .int .i64 x.Had, .bool x.Began]
structure TableTable where
  Frame : Int
  Windows : List Window
  deriving DecidableEq
def TableTable.enc (x : TableTable) : List Go.VC.D := [.int .i64 x.Frame, .sl (x.Windows.map Window.enc)]
structure Task where
  C : Int
  D : Int
  T : Int
  Secs : List Sec
  deriving DecidableEq
def Task.enc (x : Task) : List Go.VC.D := [.int .i64 x.C, .int .i64 x.D, .int .i64 x.T, .sl (x.Secs.map Sec.enc)]
structure KernelCmd where
  Part : Int
  Kind : Int
  I : Int
  V : Int
  T : Task
  deriving DecidableEq
def KernelCmd.enc (x : KernelCmd) : List Go.VC.D := [.int .i64 x.Part, .int .i64 x.Kind, .int .i64 x.I, .int .i64 x.V, .int .i64 x.T.C, .int .i64 x.T.D, .int .i64 x.T.T, .sl (x.T.Secs.map Sec.enc)]
structure WorldView where
  Saws : List WorldSaw
  Ran : List Int
  Log : List Entry
  deriving DecidableEq
def WorldView.enc (x : WorldView) : List Go.VC.D := [.sl (x.Saws.map WorldSaw.enc), .sl (x.Ran.map (eI .i64)), .sl (x.Log.map Entry.enc)]
structure PartState where
  Tasks : List Task
  Leaves : List Bool
  Lasts : List Int
  Jobs : List Job
  Log : List Entry
  deriving DecidableEq
def PartState.enc (x : PartState) : List Go.VC.D := [.sl (x.Tasks.map Task.enc), .sl (x.Leaves.map eB), .sl (x.Lasts.map (eI .i64)), .sl (x.Jobs.map Job.enc), .sl (x.Log.map Entry.enc)]
structure Part where
  Face : Face
  Tasks : List Task
  deriving DecidableEq
def Part.enc (x : Part) : List Go.VC.D := [.int .i64 x.Face.P, .int .i64 x.Face.B, .sl (x.Tasks.map Task.enc)]
structure Parthand where
  book : Partbook
  s : PartState
  deriving DecidableEq
def Parthand.enc (x : Parthand) : List Go.VC.D := [.sl (x.book.log.map Entry.enc), .int .i64 x.book.now, .sl (x.s.Tasks.map Task.enc), .sl (x.s.Leaves.map eB), .sl (x.s.Lasts.map (eI .i64)), .sl (x.s.Jobs.map Job.enc), .sl (x.s.Log.map Entry.enc)]
structure Config where
  Parts : List Part
  Ports : List Port
  deriving DecidableEq
def Config.enc (x : Config) : List Go.VC.D := [.sl (x.Parts.map Part.enc), .sl (x.Ports.map Port.enc)]
structure KernelState where
  Table : TableTable
  Faces : List Face
  Parts : List PartState
  Lines : List PortLine
  Now : Int
  deriving DecidableEq
def KernelState.enc (x : KernelState) : List Go.VC.D := [.int .i64 x.Table.Frame, .sl (x.Table.Windows.map Window.enc), .sl (x.Faces.map Face.enc), .sl (x.Parts.map PartState.enc), .sl (x.Lines.map PortLine.enc), .int .i64 x.Now]
def E_Bool : Bool → List CV := fun r => [.d (.bool r)]
def E_ListWorldView_Int : ((List WorldView) × Int) → List CV := fun r => [.d (.sl (r.1.map WorldView.enc)), .d (.int .i64 r.2)]
def E_Config_Int_Int : (Config × Int × Int) → List CV := fun r => [.agg (Config.enc r.1), .d (.int .i64 r.2.1), .d (.int .i64 r.2.2)]
def E_ListPortLine_Int : ((List PortLine) × Int) → List CV := fun r => [.d (.sl (r.1.map PortLine.enc)), .d (.int .i64 r.2)]
def E_RingRing_Int : (RingRing × Int) → List CV := fun r => [.agg (RingRing.enc r.1), .d (.int .i64 r.2)]
def E_KernelState_Int : (KernelState × Int) → List CV := fun r => [.agg (KernelState.enc r.1), .d (.int .i64 r.2)]
def E_TableTable_Int : (TableTable × Int) → List CV := fun r => [.agg (TableTable.enc r.1), .d (.int .i64 r.2)]
def E_ListInt_Int : ((List Int) × Int) → List CV := fun r => [.d (.sl (r.1.map (eI .i64))), .d (.int .i64 r.2)]
def E_Int_Int : (Int × Int) → List CV := fun r => [.d (.int .i64 r.1), .d (.int .i64 r.2)]
def E_PartState_Int : (PartState × Int) → List CV := fun r => [.agg (PartState.enc r.1), .d (.int .i64 r.2)]
def E_Int : Int → List CV := fun r => [.d (.int .i64 r)]
def E_Bool_Int : (Bool × Int) → List CV := fun r => [.d (.bool r.1), .d (.int .i64 r.2)]
def E_Int_Int_Int : (Int × Int × Int) → List CV := fun r => [.d (.int .i64 r.1), .d (.int .i64 r.2.1), .d (.int .i64 r.2.2)]
def E_Int_Bool_Int : (Int × Bool × Int) → List CV := fun r => [.d (.int .i64 r.1), .d (.bool r.2.1), .d (.int .i64 r.2.2)]
def E_KernelState_Int_Int : (KernelState × Int × Int) → List CV := fun r => [.agg (KernelState.enc r.1), .d (.int .i64 r.2.1), .d (.int .i64 r.2.2)]
def E_KernelState : KernelState → List CV := fun r => [.agg (KernelState.enc r)]
def E_RingRing : RingRing → List CV := fun r => [.agg (RingRing.enc r)]
def E_ListPortLine : (List PortLine) → List CV := fun r => [.d (.sl (r.map PortLine.enc))]
def E_Int_ListPortLine_Int : (Int × (List PortLine) × Int) → List CV := fun r => [.d (.int .i64 r.1), .d (.sl (r.2.1.map PortLine.enc)), .d (.int .i64 r.2.2)]
def E_Int_RingRing_Int : (Int × RingRing × Int) → List CV := fun r => [.d (.int .i64 r.1), .agg (RingRing.enc r.2.1), .d (.int .i64 r.2.2)]
def E_KernelState_ListInt_Int : (KernelState × (List Int) × Int) → List CV := fun r => [.agg (KernelState.enc r.1), .d (.sl (r.2.1.map (eI .i64))), .d (.int .i64 r.2.2)]
def E_PartState_Int_Int : (PartState × Int × Int) → List CV := fun r => [.agg (PartState.enc r.1), .d (.int .i64 r.2.1), .d (.int .i64 r.2.2)]
def E_ListJob_Job_Bool : ((List Job) × Job × Bool) → List CV := fun r => [.d (.sl (r.1.map Job.enc)), .agg (Job.enc r.2.1), .d (.bool r.2.2)]
def E_ListInt : (List Int) → List CV := fun r => [.d (.sl (r.map (eI .i64)))]
def E_ListTask : (List Task) → List CV := fun r => [.d (.sl (r.map Task.enc))]
def E_ListBool : (List Bool) → List CV := fun r => [.d (.sl (r.map eB))]
def E_Face_Int : (Face × Int) → List CV := fun r => [.agg (Face.enc r.1), .d (.int .i64 r.2)]
def E_Int_Bool : (Int × Bool) → List CV := fun r => [.d (.int .i64 r.1), .d (.bool r.2)]
end Go.Proofs.YtpephpefjddgcaaGreat
namespace Go.Proofs.YtpephpefjddgcaaGreat
open Go Go.VC
theorem andT {α : Type} {p : α → Prop} (h : ∃ x, p x) : ∃ x, p x ∧ True := h.imp fun _ h => ⟨h, trivial⟩
def wfI (k : IntKind) (n : Int) : Prop := (Lit.int k n).wf = true
abbrev tyT := T
def Sec.wf (x : Sec) : Prop := wfI .i64 x.Res ∧ wfI .i64 x.At ∧ wfI .i64 x.Len
theorem Sec.of {n : Nat} {ds : List Go.VC.D} (h : ShD tyT n 142 ds) : ∃ x : Sec, ds = x.enc ∧ x.wf := by
  obtain ⟨m, q0⟩ := h.st T142
  clear h
  obtain ⟨d0, r0, e0, h0, q1⟩ := q0.c
  obtain ⟨y0, z0, w0⟩ := (h0.i T3)
  obtain ⟨d1, r1, e1, h1, q2⟩ := q1.c
  obtain ⟨y1, z1, w1⟩ := (h1.i T3)
  obtain ⟨d2, r2, e2, h2, q3⟩ := q2.c
  obtain ⟨y2, z2, w2⟩ := (h2.i T3)
  subst e0 z0 e1 z1 e2 z2
  cases q3
  exact ⟨⟨y0, y1, y2⟩, rfl, w0, w1, w2⟩
def Task.wf (x : Task) : Prop := wfI .i64 x.C ∧ wfI .i64 x.D ∧ wfI .i64 x.T ∧ (x.Secs.length * 24 ≤ BB ∧ ∀ y1 ∈ x.Secs, Sec.wf y1)
theorem Task.of {n : Nat} {ds : List Go.VC.D} (h : ShD tyT n 53 ds) : ∃ x : Task, ds = x.enc ∧ x.wf := by
  obtain ⟨m, q0⟩ := h.st T53
  clear h
  obtain ⟨d0, r0, e0, h0, q1⟩ := q0.c
  obtain ⟨y0, z0, w0⟩ := (h0.i T3)
  obtain ⟨d1, r1, e1, h1, q2⟩ := q1.c
  obtain ⟨y1, z1, w1⟩ := (h1.i T3)
  obtain ⟨d2, r2, e2, h2, q3⟩ := q2.c
  obtain ⟨y2, z2, w2⟩ := (h2.i T3)
  obtain ⟨d3, r3, e3, h3, q4⟩ := q3.c
  obtain ⟨y3, z3, w3⟩ := (h3.l (f := Sec.enc) (W := (fun x => Sec.wf x)) T51 T142 (fun _ _ h => (Sec.of h)))
  subst e0 z0 e1 z1 e2 z2 e3 z3
  cases q4
  exact ⟨⟨y0, y1, y2, y3⟩, rfl, w0, w1, w2, w3⟩
def Face.wf (x : Face) : Prop := wfI .i64 x.P ∧ wfI .i64 x.B
theorem Face.of {n : Nat} {ds : List Go.VC.D} (h : ShD tyT n 24 ds) : ∃ x : Face, ds = x.enc ∧ x.wf := by
  obtain ⟨m, q0⟩ := h.st T24
  clear h
  obtain ⟨d0, r0, e0, h0, q1⟩ := q0.c
  obtain ⟨y0, z0, w0⟩ := (h0.i T3)
  obtain ⟨d1, r1, e1, h1, q2⟩ := q1.c
  obtain ⟨y1, z1, w1⟩ := (h1.i T3)
  subst e0 z0 e1 z1
  cases q2
  exact ⟨⟨y0, y1⟩, rfl, w0, w1⟩
end Go.Proofs.YtpephpefjddgcaaGreat
namespace Go.Proofs.YtpephpefjddgcaaGreat
open Go Go.VC
noncomputable def task_own (a0 : Task) : Option Bool :=
  fk (decide (a0.C ≥ (1 : Int))) (fk (decide (a0.C ≤ a0.D)) (fk (decide (a0.D ≤ a0.T)) (fk (decide (a0.T ≤ (200 : Int))) (some (decide ((a0.Secs.length : Int) ≤ (4 : Int)))) (some false)) (some false)) (some false)) (some false)
theorem task_own_w (a0 : Task) (r : Bool) (h : task_own a0 = some r) : Go.VC.Spec Tryz.prog 62 [.agg (Task.enc a0)] (fun y => y = E_Bool r) := by
  refine Go.VC.Spec.of_xc (args := [.agg (Task.enc a0)]) (fn := Tryz.f62) tab ⟨[(0, [1]), (1, [2])], [], [], []⟩ 31 [.tmp 2] rfl rfl rfl rfl rfl rfl ?_
  conv => whnf
  refine fkS h (fun h => ?_) (fun h => ?_)
  · conv => whnf
    refine fkS h (fun h => ?_) (fun h => ?_)
    · conv => whnf
      refine fkS h (fun h => ?_) (fun h => ?_)
      · conv => whnf
        refine fkS h (fun h => ?_) (fun h => ?_)
        · conv => whnf
          refine lenS a0.Secs Sec.enc rfl ?_
          conv => whnf
          exact rt (E := E_Bool) h rfl
        conv => whnf
        exact rt (E := E_Bool) h rfl
      conv => whnf
      exact rt (E := E_Bool) h rfl
    conv => whnf
    exact rt (E := E_Bool) h rfl
  conv => whnf
  exact rt (E := E_Bool) h rfl

end Go.Proofs.YtpephpefjddgcaaGreat
namespace Go.Proofs.YtpephpefjddgcaaGreat
open Go Go.VC
noncomputable def task_may (a0 : Task) (a1 : Sec) : Option Bool :=
  fk (decide (a1.Res ≥ (0 : Int))) (fk (decide (a1.Res < (4 : Int))) (fk (decide (a1.At ≥ (0 : Int))) (fk (decide (a1.At < a0.C)) (fk (decide (a1.Len ≥ (1 : Int))) (some (decide (a1.Len ≤ (wr (a0.C - a1.At))))) (some false)) (some false)) (some false)) (some false)) (some false)
theorem task_may_w (a0 : Task) (a1 : Sec) (r : Bool) (h : task_may a0 a1 = some r) : Go.VC.Spec Tryz.prog 63 [.agg (Task.enc a0), .agg (Sec.enc a1)] (fun y => y = E_Bool r) := by
  refine Go.VC.Spec.of_xc (args := [.agg (Task.enc a0), .agg (Sec.enc a1)]) (fn := Tryz.f63) tab ⟨[(0, [2, 3]), (1, [4])], [], [], []⟩ 40 [.tmp 4] rfl rfl rfl rfl rfl rfl ?_
  conv => whnf
  refine fkS h (fun h => ?_) (fun h => ?_)
  · conv => whnf
    refine fkS h (fun h => ?_) (fun h => ?_)
    · conv => whnf
      refine fkS h (fun h => ?_) (fun h => ?_)
      · conv => whnf
        refine fkS h (fun h => ?_) (fun h => ?_)
        · conv => whnf
          refine fkS h (fun h => ?_) (fun h => ?_)
          · conv => whnf
            exact rt (E := E_Bool) h rfl
          conv => whnf
          exact rt (E := E_Bool) h rfl
        conv => whnf
        exact rt (E := E_Bool) h rfl
      conv => whnf
      exact rt (E := E_Bool) h rfl
    conv => whnf
    exact rt (E := E_Bool) h rfl
  conv => whnf
  exact rt (E := E_Bool) h rfl

end Go.Proofs.YtpephpefjddgcaaGreat
namespace Go.Proofs.YtpephpefjddgcaaGreat
open Go Go.VC
noncomputable def task_fits (a0 : Sec) (a1 : Sec) : Option Bool :=
  fk (decide (a1.At ≥ (wr (a0.At + a0.Len)))) (some true) (fk (decide (a1.At < a0.At)) (some false) (fk (decide ((wr (a1.At + a1.Len)) ≤ (wr (a0.At + a0.Len)))) (some (!decide (a0.Res = a1.Res))) (some false)))
theorem task_fits_w (a0 : Sec) (a1 : Sec) (r : Bool) (h : task_fits a0 a1 = some r) : Go.VC.Spec Tryz.prog 64 [.agg (Sec.enc a0), .agg (Sec.enc a1)] (fun y => y = E_Bool r) := by
  refine Go.VC.Spec.of_xc (args := [.agg (Sec.enc a0), .agg (Sec.enc a1)]) (fn := Tryz.f64) tab ⟨[(0, [2, 3]), (1, [2, 3, 5]), (2, [4]), (3, [2, 3, 14]), (4, [4]), (5, [4])], [], [], []⟩ 38 [.tmp 4] rfl rfl rfl rfl rfl rfl ?_
  conv => whnf
  refine fkS h (fun h => ?_) (fun h => ?_)
  · conv => whnf
    exact rt (E := E_Bool) h rfl
  conv => whnf
  refine fkS h (fun h => ?_) (fun h => ?_)
  · conv => whnf
    exact rt (E := E_Bool) h rfl
  conv => whnf
  refine fkS h (fun h => ?_) (fun h => ?_)
  · conv => whnf
    exact rt (E := E_Bool) h rfl
  conv => whnf
  exact rt (E := E_Bool) h rfl

end Go.Proofs.YtpephpefjddgcaaGreat
namespace Go.Proofs.YtpephpefjddgcaaGreat
open Go Go.VC
noncomputable def task_Right (a0 : Task) : Option Bool :=
  bnd (task_own a0) fun x1 => fk (!x1) (some false) (lp (fun nx2 (v2 : Int) => fk (decide (v2 < (a0.Secs.length : Int))) (ix a0.Secs v2 fun x3 => bnd (task_may a0 x3) fun x4 => fk (!x4) (some false) (ck (decide ((0 : Int) ≤ (0 : Int)) && decide ((0 : Int) ≤ v2) && decide (v2 ≤ (a0.Secs.length : Int))) (lp (fun nx5 (v5 : Int) => fk (decide (v5 < (((a0.Secs.take v2.toNat).drop (0 : Int).toNat).length : Int))) (ix ((a0.Secs.take v2.toNat).drop (0 : Int).toNat) v5 fun x6 => bnd (task_fits x6 x3) fun x7 => fk x7 (nx5 (wr (v5 + (1 : Int)))) (some (decide ((0 : Int) > (0 : Int))))) (nx2 (wr (v2 + (1 : Int))))) FU (0 : Int)))) (some (decide (a0.C > (0 : Int))))) FU (0 : Int))
theorem task_Right_w (a0 : Task) (r : Bool) (h : task_Right a0 = some r) : Go.VC.Spec Tryz.prog 37 [.agg (Task.enc a0)] (fun y => y = E_Bool r) := by
  refine Go.VC.Spec.of_xc (args := [.agg (Task.enc a0)]) (fn := Tryz.f37) tab ⟨[(0, [1]), (1, [1, 9]), (2, [2]), (3, [1, 11, 12, 13]), (4, [1, 11, 12, 13, 14]), (5, [1, 3, 4, 11, 12, 13]), (6, [1, 3, 4, 11, 12, 13, 21]), (7, [2]), (8, [1, 4, 11, 12, 13, 25, 26, 27]), (9, [1, 4, 11, 12, 13, 25, 26, 27, 28]), (10, [1, 4, 6, 11, 12, 13, 25, 26, 27]), (11, [1, 4, 11, 12, 13, 25, 26, 27, 33]), (12, [1]), (13, [1, 4, 11, 12, 13, 25, 26, 27]), (14, [1, 11, 12, 13]), (15, [2])], [], [], []⟩ 40 [.tmp 2] rfl rfl rfl rfl rfl rfl ?_
  conv => whnf
  refine caS (E := E_Bool) h (task_own_w a0) rfl (fun _ => rfl) (fun x1 h => ?_)
  conv => whnf
  refine fkS h (fun h => ?_) (fun h => ?_)
  · conv => whnf
    exact rt (E := E_Bool) h rfl
  conv => whnf
  refine lenS a0.Secs Sec.enc rfl ?_
  conv => whnf
  refine lpS (fun v2 => ⟨[(1, .l (.ptr 2 0)), (11, .l (.d (.sl (a0.Secs.map Sec.enc)))), (12, .l (.d (.int .i64 (a0.Secs.length : Int)))), (13, .l (.d (.int .i64 v2)))], 40, [], [(2, [.d (.int .i64 a0.C), .d (.int .i64 a0.D), .d (.int .i64 a0.T), .d (.sl (a0.Secs.map Sec.enc))])], []⟩) h (Weak.refl _) (fun _ nx2 hn2 v2 h => ?_)
  conv => whnf
  refine fkS h (fun h => ?_) (fun h => ?_)
  · conv => whnf
    refine ixS (enc := Sec.enc) h rfl (fun _ => rfl) (fun x3 h => ?_)
    conv => whnf
    refine caS (E := E_Bool) h (task_may_w a0 x3) rfl (fun _ => rfl) (fun x4 h => ?_)
    conv => whnf
    refine fkS h (fun h => ?_) (fun h => ?_)
    · conv => whnf
      exact rt (E := E_Bool) h rfl
    conv => whnf
    refine slS (enc := Sec.enc) h rfl rfl (.inl rfl) (fun _ => rfl) (fun h => ?_)
    conv => whnf
    refine lenS ((a0.Secs.take v2.toNat).drop (0 : Int).toNat) Sec.enc rfl ?_
    conv => whnf
    refine lpS (fun v5 => ⟨[(1, .l (.ptr 2 0)), (4, .l (.ptr 5 0)), (11, .l (.d (.sl (a0.Secs.map Sec.enc)))), (12, .l (.d (.int .i64 (a0.Secs.length : Int)))), (13, .l (.d (.int .i64 v2))), (25, .l (.d (.sl (((a0.Secs.take v2.toNat).drop (0 : Int).toNat).map Sec.enc)))), (26, .l (.d (.int .i64 (((a0.Secs.take v2.toNat).drop (0 : Int).toNat).length : Int)))), (27, .l (.d (.int .i64 v5)))], 40, [], [(2, [.d (.int .i64 a0.C), .d (.int .i64 a0.D), .d (.int .i64 a0.T), .d (.sl (a0.Secs.map Sec.enc))]), (5, [.d (.int .i64 x3.Res), .d (.int .i64 x3.At), .d (.int .i64 x3.Len)])], []⟩) h (Weak.refl _) (fun _ nx5 hn5 v5 h => ?_)
    conv => whnf
    refine fkS h (fun h => ?_) (fun h => ?_)
    · conv => whnf
      refine ixS (enc := Sec.enc) h rfl (fun _ => rfl) (fun x6 h => ?_)
      conv => whnf
      refine caS (E := E_Bool) h (task_fits_w x6 x3) rfl (fun _ => rfl) (fun x7 h => ?_)
      conv => whnf
      refine fkS h (fun h => ?_) (fun h => ?_)
      · conv => whnf
        exact leS hn5 h (Weak.refl _)
      conv => whnf
      exact rt (E := E_Bool) h rfl
    conv => whnf
    exact leS hn2 h (Weak.refl _)
  conv => whnf
  exact rt (E := E_Bool) h rfl

end Go.Proofs.YtpephpefjddgcaaGreat
namespace Go.Proofs.YtpephpefjddgcaaGreat
open Go Go.VC
noncomputable def task_All (a0 : List Task) : Option Bool :=
  lp (fun nx1 (v1 : Int) => fk (decide (v1 < (a0.length : Int))) (ix a0 v1 fun x2 => bnd (task_Right x2) fun x3 => fk (!x3) (some false) (nx1 (wr (v1 + (1 : Int))))) (some (decide ((a0.length : Int) ≤ (8 : Int))))) FU (0 : Int)
theorem task_All_w (a0 : List Task) (r : Bool) (h : task_All a0 = some r) : Go.VC.Spec Tryz.prog 19 [.d (.sl (a0.map Task.enc))] (fun y => y = E_Bool r) := by
  refine Go.VC.Spec.of_xc (args := [.d (.sl (a0.map Task.enc))]) (fn := Tryz.f19) tab ⟨[(0, [0]), (1, [0, 5, 6, 7]), (2, [0, 5, 6, 7, 8]), (3, [0, 4, 5, 6, 7]), (4, [0, 5, 6, 7, 13]), (5, [2]), (6, [0, 5, 6, 7]), (7, [2])], [], [], []⟩ 18 [.tmp 2] rfl rfl rfl rfl rfl rfl ?_
  conv => whnf
  refine lenS a0 Task.enc rfl ?_
  conv => whnf
  refine lpS (fun v1 => ⟨[(0, .l (.d (.sl (a0.map Task.enc)))), (5, .l (.d (.sl (a0.map Task.enc)))), (6, .l (.d (.int .i64 (a0.length : Int)))), (7, .l (.d (.int .i64 v1)))], 18, [], [], []⟩) h (Weak.refl _) (fun _ nx1 hn1 v1 h => ?_)
  conv => whnf
  refine fkS h (fun h => ?_) (fun h => ?_)
  · conv => whnf
    refine ixS (enc := Task.enc) h rfl (fun _ => rfl) (fun x2 h => ?_)
    conv => whnf
    refine caS (E := E_Bool) h (task_Right_w x2) rfl (fun _ => rfl) (fun x3 h => ?_)
    conv => whnf
    refine fkS h (fun h => ?_) (fun h => ?_)
    · conv => whnf
      exact rt (E := E_Bool) h rfl
    conv => whnf
    exact leS hn1 h (Weak.refl _)
  conv => whnf
  refine lenS a0 Task.enc rfl ?_
  conv => whnf
  exact rt (E := E_Bool) h rfl

end Go.Proofs.YtpephpefjddgcaaGreat
namespace Go.Proofs.YtpephpefjddgcaaGreat
open Go Go.VC
noncomputable def supply_Right (a0 : Face) : Option Bool :=
  fk (decide (a0.B ≥ (1 : Int))) (fk (decide (a0.B ≤ a0.P)) (some (decide (a0.P ≤ (200 : Int)))) (some false)) (some false)
theorem supply_Right_w (a0 : Face) (r : Bool) (h : supply_Right a0 = some r) : Go.VC.Spec Tryz.prog 29 [.agg (Face.enc a0)] (fun y => y = E_Bool r) := by
  refine Go.VC.Spec.of_xc (args := [.agg (Face.enc a0)]) (fn := Tryz.f29) tab ⟨[(0, [1]), (1, [2])], [], [], []⟩ 18 [.tmp 2] rfl rfl rfl rfl rfl rfl ?_
  conv => whnf
  refine fkS h (fun h => ?_) (fun h => ?_)
  · conv => whnf
    refine fkS h (fun h => ?_) (fun h => ?_)
    · conv => whnf
      exact rt (E := E_Bool) h rfl
    conv => whnf
    exact rt (E := E_Bool) h rfl
  conv => whnf
  exact rt (E := E_Bool) h rfl

end Go.Proofs.YtpephpefjddgcaaGreat
namespace Go.Proofs.YtpephpefjddgcaaGreat
open Go Go.VC
noncomputable def arith_may (a0 : List Int) : Option Bool :=
  lp (fun nx1 (v1 : Int) => fk (decide (v1 < (a0.length : Int))) (ix a0 v1 fun x2 => jn (fun (w3 : Bool) => fk w3 (some false) (nx1 (wr (v1 + (1 : Int))))) (fun k3 => fk (decide (x2 > (4611686018427387903 : Int))) (k3 true) (k3 (decide (x2 < (-4611686018427387903 : Int)))))) (some true)) FU (0 : Int)
theorem arith_may_w (a0 : List Int) (r : Bool) (h : arith_may a0 = some r) : Go.VC.Spec Tryz.prog 98 [.d (.sl (a0.map (eI .i64)))] (fun y => y = E_Bool r) := by
  refine Go.VC.Spec.of_xc (args := [.d (.sl (a0.map (eI .i64)))]) (fn := Tryz.f98) tab ⟨[(0, [0]), (1, [5, 6, 7]), (2, [5, 6, 7, 8]), (3, [4, 5, 6, 7]), (4, [5, 6, 7, 16]), (5, [2]), (6, [5, 6, 7]), (7, [2])], [], [100016], []⟩ 18 [.tmp 2] rfl rfl rfl rfl rfl rfl ?_
  conv => whnf
  refine lenS a0 (eI .i64) rfl ?_
  conv => whnf
  refine lpS (fun v1 => ⟨[(5, .l (.d (.sl (a0.map (eI .i64))))), (6, .l (.d (.int .i64 (a0.length : Int)))), (7, .l (.d (.int .i64 v1)))], 18, [], [], []⟩) h (Weak.refl _) (fun _ nx1 hn1 v1 h => ?_)
  conv => whnf
  refine fkS h (fun h => ?_) (fun h => ?_)
  · conv => whnf
    refine ixS (enc := (eI .i64)) h rfl (fun _ => rfl) (fun x2 h => ?_)
    conv => whnf
    refine jnS (fun w3 => ⟨[(5, .l (.d (.sl (a0.map (eI .i64))))), (6, .l (.d (.int .i64 (a0.length : Int)))), (7, .l (.d (.int .i64 v1))), (16, .l (.d (.bool w3)))], 18, [], [], []⟩) h (fun k3 hk3 h => ?_) (fun w3 h => ?_)
    · conv => whnf
      refine fkS h (fun h => ?_) (fun h => ?_)
      · conv => whnf
        exact jeS hk3 h (Weak.refl _)
      conv => whnf
      exact jeS hk3 h (Weak.refl _)
    conv => whnf
    refine fkS h (fun h => ?_) (fun h => ?_)
    · conv => whnf
      exact rt (E := E_Bool) h rfl
    conv => whnf
    exact leS hn1 h (Weak.refl _)
  conv => whnf
  exact rt (E := E_Bool) h rfl

end Go.Proofs.YtpephpefjddgcaaGreat
namespace Go.Proofs.YtpephpefjddgcaaGreat
open Go Go.VC
noncomputable def arith_Gcd (a0 : Int) (a1 : Int) : Option (Int × Int) :=
  jn (fun (w1 : Bool) => fk w1 (some ((0 : Int), (1 : Int))) (lp (fun nx3 (v3 : Int × Int) => fk (decide (v3.2 > (0 : Int))) (ck (decide (v3.2 ≠ 0)) (nx3 (v3.2, (v3.1.tmod v3.2)))) (some (v3.1, (0 : Int)))) FU (a0, a1))) (fun k1 => bnd (arith_may ([a0, a1] : List Int)) fun x2 => fk (!x2) (k1 true) (fk (decide (a0 < (0 : Int))) (k1 true) (k1 (decide (a1 < (0 : Int))))))
theorem arith_Gcd_w (a0 : Int) (a1 : Int) (r : Int × Int) (h : arith_Gcd a0 a1 = some r) : Go.VC.Spec Tryz.prog 58 [.d (.int .i64 a0), .d (.int .i64 a1)] (fun y => y = E_Int_Int r) := by
  refine Go.VC.Spec.of_xc (args := [.d (.int .i64 a0), .d (.int .i64 a1)]) (fn := Tryz.f58) tab ⟨[(0, [0, 1]), (1, [0, 1, 18]), (2, [4, 5]), (3, [0, 1, 20]), (4, [0, 1]), (5, [4, 5])], [], [100018], []⟩ 26 [.tmp 4, .tmp 5] rfl rfl rfl rfl rfl rfl ?_
  conv => whnf
  refine jnS (fun w1 => ⟨[(0, .l (.d (.int .i64 a0))), (1, .l (.d (.int .i64 a1))), (18, .l (.d (.bool w1)))], 26, [], [], []⟩) h (fun k1 hk1 h => ?_) (fun w1 h => ?_)
  · conv => whnf
    refine liS ([a0, a1] : List Int) (eI .i64) rfl rfl ?_
    conv => whnf
    refine caS (E := E_Bool) h (arith_may_w ([a0, a1] : List Int)) rfl (fun _ => rfl) (fun x2 h => ?_)
    conv => whnf
    refine fkS h (fun h => ?_) (fun h => ?_)
    · conv => whnf
      exact jeS hk1 h (Weak.refl _)
    conv => whnf
    refine fkS h (fun h => ?_) (fun h => ?_)
    · conv => whnf
      exact jeS hk1 h (Weak.refl _)
    conv => whnf
    exact jeS hk1 h (Weak.refl _)
  conv => whnf
  refine fkS h (fun h => ?_) (fun h => ?_)
  · conv => whnf
    exact rt (E := E_Int_Int) h rfl
  conv => whnf
  refine lpS (fun v3 => ⟨[(0, .l (.d (.int .i64 v3.1))), (1, .l (.d (.int .i64 v3.2)))], 26, [], [], []⟩) h (Weak.trans (Weak.keepS _ [0, 1]) (Weak.refl _)) (fun _ nx3 hn3 v3 h => ?_)
  conv => whnf
  refine fkS h (fun h => ?_) (fun h => ?_)
  · conv => whnf
    refine ⟨5, ?_⟩
    conv => whnf
    refine dvS h (fun h => ?_)
    conv => whnf
    refine drS (by kernel_rfl) ?_
    conv => whnf
    exact leS hn3 h (Weak.refl _)
  conv => whnf
  exact rt (E := E_Int_Int) h rfl

end Go.Proofs.YtpephpefjddgcaaGreat
namespace Go.Proofs.YtpephpefjddgcaaGreat
open Go Go.VC
noncomputable def arith_Mul (a0 : Int) (a1 : Int) : Option (Int × Int) :=
  bnd (arith_may ([a0, a1] : List Int)) fun x1 => fk (!x1) (some ((0 : Int), (1 : Int))) (jn (fun (w2 : Bool) => fk w2 (some ((0 : Int), (0 : Int))) (ck (decide ((if (IntKind.i64.wrap (0 - a1)) > a1 then (IntKind.i64.wrap (0 - a1)) else a1) ≠ 0)) (fk (decide ((if (IntKind.i64.wrap (0 - a0)) > a0 then (IntKind.i64.wrap (0 - a0)) else a0) > (wr ((4611686018427387903 : Int).tdiv (if (IntKind.i64.wrap (0 - a1)) > a1 then (IntKind.i64.wrap (0 - a1)) else a1))))) (some ((0 : Int), (5 : Int))) (some ((wr (a0 * a1)), (0 : Int)))))) (fun k2 => fk (decide (a0 = (0 : Int))) (k2 true) (k2 (decide (a1 = (0 : Int))))))
theorem arith_Mul_w (a0 : Int) (a1 : Int) (r : Int × Int) (h : arith_Mul a0 a1 = some r) : Go.VC.Spec Tryz.prog 59 [.d (.int .i64 a0), .d (.int .i64 a1)] (fun y => y = E_Int_Int r) := by
  refine Go.VC.Spec.of_xc (args := [.d (.int .i64 a0), .d (.int .i64 a1)]) (fn := Tryz.f59) tab ⟨[(0, [0, 1]), (1, [0, 1, 6]), (2, [4, 5]), (3, [0, 1, 12]), (4, [4, 5]), (5, [0, 1, 19]), (6, [4, 5]), (7, [4, 5])], [], [100012], []⟩ 33 [.tmp 4, .tmp 5] rfl rfl rfl rfl rfl rfl ?_
  conv => whnf
  refine liS ([a0, a1] : List Int) (eI .i64) rfl rfl ?_
  conv => whnf
  refine caS (E := E_Bool) h (arith_may_w ([a0, a1] : List Int)) rfl (fun _ => rfl) (fun x1 h => ?_)
  conv => whnf
  refine fkS h (fun h => ?_) (fun h => ?_)
  · conv => whnf
    exact rt (E := E_Int_Int) h rfl
  conv => whnf
  refine jnS (fun w2 => ⟨[(0, .l (.d (.int .i64 a0))), (1, .l (.d (.int .i64 a1))), (12, .l (.d (.bool w2)))], 33, [], [], []⟩) h (fun k2 hk2 h => ?_) (fun w2 h => ?_)
  · conv => whnf
    refine fkS h (fun h => ?_) (fun h => ?_)
    · conv => whnf
      exact jeS hk2 h (Weak.refl _)
    conv => whnf
    exact jeS hk2 h (Weak.refl _)
  conv => whnf
  refine fkS h (fun h => ?_) (fun h => ?_)
  · conv => whnf
    exact rt (E := E_Int_Int) h rfl
  conv => whnf
  refine dvS h (fun h => ?_)
  conv => whnf
  refine fkS h (fun h => ?_) (fun h => ?_)
  · conv => whnf
    exact rt (E := E_Int_Int) h rfl
  conv => whnf
  exact rt (E := E_Int_Int) h rfl

end Go.Proofs.YtpephpefjddgcaaGreat
namespace Go.Proofs.YtpephpefjddgcaaGreat
open Go Go.VC
noncomputable def arith_Lcm (a0 : Int) (a1 : Int) : Option (Int × Int) :=
  jn (fun (w1 : Bool) => fk w1 (some ((0 : Int), (1 : Int))) (bnd (arith_Gcd a0 a1) fun x2 => fk (!decide (x2.2 = (0 : Int))) (some ((0 : Int), x2.2)) (ck (decide (x2.1 ≠ 0)) (bnd (arith_Mul (wr (a0.tdiv x2.1)) a1) fun x3 => some (x3.1, x3.2))))) (fun k1 => fk (decide (a0 < (1 : Int))) (k1 true) (k1 (decide (a1 < (1 : Int)))))
theorem arith_Lcm_w (a0 : Int) (a1 : Int) (r : Int × Int) (h : arith_Lcm a0 a1 = some r) : Go.VC.Spec Tryz.prog 35 [.d (.int .i64 a0), .d (.int .i64 a1)] (fun y => y = E_Int_Int r) := by
  refine Go.VC.Spec.of_xc (args := [.d (.int .i64 a0), .d (.int .i64 a1)]) (fn := Tryz.f35) tab ⟨[(0, [0, 1]), (1, [0, 1, 13]), (2, [4, 5]), (3, [0, 1, 6, 7]), (4, [0, 1, 6, 7, 21]), (5, [4, 5]), (6, [4, 5])], [], [100013], []⟩ 30 [.tmp 4, .tmp 5] rfl rfl rfl rfl rfl rfl ?_
  conv => whnf
  refine jnS (fun w1 => ⟨[(0, .l (.d (.int .i64 a0))), (1, .l (.d (.int .i64 a1))), (13, .l (.d (.bool w1)))], 30, [], [], []⟩) h (fun k1 hk1 h => ?_) (fun w1 h => ?_)
  · conv => whnf
    refine fkS h (fun h => ?_) (fun h => ?_)
    · conv => whnf
      exact jeS hk1 h (Weak.refl _)
    conv => whnf
    exact jeS hk1 h (Weak.refl _)
  conv => whnf
  refine fkS h (fun h => ?_) (fun h => ?_)
  · conv => whnf
    exact rt (E := E_Int_Int) h rfl
  conv => whnf
  refine caS (E := E_Int_Int) h (arith_Gcd_w a0 a1) rfl (fun _ => rfl) (fun x2 h => ?_)
  conv => whnf
  refine fkS h (fun h => ?_) (fun h => ?_)
  · conv => whnf
    exact rt (E := E_Int_Int) h rfl
  conv => whnf
  refine dvS h (fun h => ?_)
  conv => whnf
  refine caS (E := E_Int_Int) h (arith_Mul_w (wr (a0.tdiv x2.1)) a1) rfl (fun _ => rfl) (fun x3 h => ?_)
  conv => whnf
  exact rt (E := E_Int_Int) h rfl

end Go.Proofs.YtpephpefjddgcaaGreat
namespace Go.Proofs.YtpephpefjddgcaaGreat
open Go Go.VC
noncomputable def verdict_Cycle (a0 : List Task) (a1 : Face) : Option (Int × Int × Int) :=
  jn (fun (w1 : Bool) => fk w1 (some ((0 : Int), (0 : Int), (1 : Int))) (lp (fun nx4 (v4 : Int × Int × Int) => fk (decide (v4.2.2 < (a0.length : Int))) (ix a0 v4.2.2 fun x5 => bnd (arith_Lcm v4.1 x5.T) fun x6 => jn (fun (w7 : Bool) => fk w7 (some ((0 : Int), (0 : Int), (5 : Int))) (nx4 (x6.1, (if x5.D > v4.2.1 then x5.D else v4.2.1), (wr (v4.2.2 + (1 : Int)))))) (fun k7 => fk (!decide (x6.2 = (0 : Int))) (k7 true) (k7 (decide (x6.1 > (3000 : Int)))))) (fk (decide ((wr (v4.1 + v4.2.1)) > (3000 : Int))) (some ((0 : Int), (0 : Int), (5 : Int))) (some (v4.1, (wr (v4.1 + v4.2.1)), (0 : Int))))) FU (a1.P, (wr ((2 : Int) * a1.P)), (0 : Int)))) (fun k1 => bnd (task_All a0) fun x2 => fk (!x2) (k1 true) (bnd (supply_Right a1) fun x3 => k1 (!x3)))
theorem verdict_Cycle_w (a0 : List Task) (a1 : Face) (r : Int × Int × Int) (h : verdict_Cycle a0 a1 = some r) : Go.VC.Spec Tryz.prog 17 [.d (.sl (a0.map Task.enc)), .agg (Face.enc a1)] (fun y => y = E_Int_Int_Int r) := by
  refine Go.VC.Spec.of_xc (args := [.d (.sl (a0.map Task.enc)), .agg (Face.enc a1)]) (fn := Tryz.f17) tab ⟨[(0, [0, 3]), (1, [0, 3, 20]), (2, [4, 5, 6]), (3, [0, 7, 8]), (4, [7, 8, 26, 27, 28]), (5, [7, 8, 26, 27, 28, 29]), (6, [7, 8, 10, 26, 27, 28]), (7, [8, 10, 11, 12, 26, 27, 28]), (8, [8, 10, 11, 26, 27, 28, 44]), (9, [4, 5, 6]), (10, [7, 8, 26, 27, 28]), (11, [7, 8, 26, 27, 28]), (12, [7, 8, 54]), (13, [4, 5, 6]), (14, [4, 5, 6])], [], [100020, 100044], []⟩ 59 [.tmp 4, .tmp 5, .tmp 6] rfl rfl rfl rfl rfl rfl ?_
  conv => whnf
  refine jnS (fun w1 => ⟨[(0, .l (.d (.sl (a0.map Task.enc)))), (3, .l (.ptr 4 0)), (20, .l (.d (.bool w1)))], 59, [], [(4, [.d (.int .i64 a1.P), .d (.int .i64 a1.B)])], []⟩) h (fun k1 hk1 h => ?_) (fun w1 h => ?_)
  · conv => whnf
    refine caS (E := E_Bool) h (task_All_w a0) rfl (fun _ => rfl) (fun x2 h => ?_)
    conv => whnf
    refine fkS h (fun h => ?_) (fun h => ?_)
    · conv => whnf
      exact jeS hk1 h (Weak.refl _)
    conv => whnf
    refine caS (E := E_Bool) h (supply_Right_w a1) rfl (fun _ => rfl) (fun x3 h => ?_)
    conv => whnf
    exact jeS hk1 h (Weak.refl _)
  conv => whnf
  refine fkS h (fun h => ?_) (fun h => ?_)
  · conv => whnf
    exact rt (E := E_Int_Int_Int) h rfl
  conv => whnf
  refine ⟨6, ?_⟩
  conv => whnf
  refine drS (by kernel_rfl) ?_
  conv => whnf
  refine lenS a0 Task.enc rfl ?_
  conv => whnf
  refine lpS (fun v4 => ⟨[(7, .l (.d (.int .i64 v4.1))), (8, .l (.d (.int .i64 v4.2.1))), (26, .l (.d (.sl (a0.map Task.enc)))), (27, .l (.d (.int .i64 (a0.length : Int)))), (28, .l (.d (.int .i64 v4.2.2)))], 59, [], [], []⟩) h (Weak.refl _) (fun _ nx4 hn4 v4 h => ?_)
  conv => whnf
  refine fkS h (fun h => ?_) (fun h => ?_)
  · conv => whnf
    refine ixS (enc := Task.enc) h rfl (fun _ => rfl) (fun x5 h => ?_)
    conv => whnf
    refine caS (E := E_Int_Int) h (arith_Lcm_w v4.1 x5.T) rfl (fun _ => rfl) (fun x6 h => ?_)
    conv => whnf
    refine jnS (fun w7 => ⟨[(8, .l (.d (.int .i64 v4.2.1))), (10, .l (.ptr 11 0)), (11, .l (.d (.int .i64 x6.1))), (26, .l (.d (.sl (a0.map Task.enc)))), (27, .l (.d (.int .i64 (a0.length : Int)))), (28, .l (.d (.int .i64 v4.2.2))), (44, .l (.d (.bool w7)))], 59, [], [(11, [.d (.int .i64 x5.C), .d (.int .i64 x5.D), .d (.int .i64 x5.T), .d (.sl (x5.Secs.map Sec.enc))])], []⟩) h (fun k7 hk7 h => ?_) (fun w7 h => ?_)
    · conv => whnf
      refine fkS h (fun h => ?_) (fun h => ?_)
      · conv => whnf
        exact jeS hk7 h (Weak.refl _)
      conv => whnf
      exact jeS hk7 h (Weak.refl _)
    conv => whnf
    refine fkS h (fun h => ?_) (fun h => ?_)
    · conv => whnf
      exact rt (E := E_Int_Int_Int) h rfl
    conv => whnf
    refine ⟨6, ?_⟩
    conv => whnf
    refine drS (by kernel_rfl) ?_
    conv => whnf
    exact leS hn4 h (Weak.refl _)
  conv => whnf
  refine fkS h (fun h => ?_) (fun h => ?_)
  · conv => whnf
    exact rt (E := E_Int_Int_Int) h rfl
  conv => whnf
  exact rt (E := E_Int_Int_Int) h rfl

end Go.Proofs.YtpephpefjddgcaaGreat
namespace Go.Proofs.YtpephpefjddgcaaGreat
open Go Go.VC
noncomputable def arith_Floor (a0 : Int) (a1 : Int) : Option (Int × Int) :=
  jn (fun (w1 : Bool) => fk w1 (some ((0 : Int), (1 : Int))) (ck (decide (a1 ≠ 0)) (ck (decide (a1 ≠ 0)) (fk (decide ((a0.tmod a1) < (0 : Int))) (some ((wr ((wr (a0.tdiv a1)) - (1 : Int))), (0 : Int))) (some ((wr (a0.tdiv a1)), (0 : Int))))))) (fun k1 => bnd (arith_may ([a0, a1] : List Int)) fun x2 => fk (!x2) (k1 true) (k1 (decide (a1 < (1 : Int)))))
theorem arith_Floor_w (a0 : Int) (a1 : Int) (r : Int × Int) (h : arith_Floor a0 a1 = some r) : Go.VC.Spec Tryz.prog 133 [.d (.int .i64 a0), .d (.int .i64 a1)] (fun y => y = E_Int_Int r) := by
  refine Go.VC.Spec.of_xc (args := [.d (.int .i64 a0), .d (.int .i64 a1)]) (fn := Tryz.f133) tab ⟨[(0, [0, 1]), (1, [0, 1, 15]), (2, [4, 5]), (3, [0, 1, 6]), (4, [6, 22]), (5, [6]), (6, [4, 5])], [], [100015], []⟩ 26 [.tmp 4, .tmp 5] rfl rfl rfl rfl rfl rfl ?_
  conv => whnf
  refine jnS (fun w1 => ⟨[(0, .l (.d (.int .i64 a0))), (1, .l (.d (.int .i64 a1))), (15, .l (.d (.bool w1)))], 26, [], [], []⟩) h (fun k1 hk1 h => ?_) (fun w1 h => ?_)
  · conv => whnf
    refine liS ([a0, a1] : List Int) (eI .i64) rfl rfl ?_
    conv => whnf
    refine caS (E := E_Bool) h (arith_may_w ([a0, a1] : List Int)) rfl (fun _ => rfl) (fun x2 h => ?_)
    conv => whnf
    refine fkS h (fun h => ?_) (fun h => ?_)
    · conv => whnf
      exact jeS hk1 h (Weak.refl _)
    conv => whnf
    exact jeS hk1 h (Weak.refl _)
  conv => whnf
  refine fkS h (fun h => ?_) (fun h => ?_)
  · conv => whnf
    exact rt (E := E_Int_Int) h rfl
  conv => whnf
  refine dvS h (fun h => ?_)
  conv => whnf
  refine dvS h (fun h => ?_)
  conv => whnf
  refine fkS h (fun h => ?_) (fun h => ?_)
  · conv => whnf
    exact rt (E := E_Int_Int) h rfl
  conv => whnf
  exact rt (E := E_Int_Int) h rfl

end Go.Proofs.YtpephpefjddgcaaGreat
namespace Go.Proofs.YtpephpefjddgcaaGreat
open Go Go.VC
noncomputable def demand_jobs (a0 : Task) (a1 : Int) : Option Int :=
  fk (decide (a1 < a0.D)) (some (0 : Int)) (bnd (arith_Floor (wr (a1 - a0.D)) a0.T) fun x1 => some (wr (x1.1 + (1 : Int))))
theorem demand_jobs_w (a0 : Task) (a1 : Int) (r : Int) (h : demand_jobs a0 a1 = some r) : Go.VC.Spec Tryz.prog 124 [.agg (Task.enc a0), .d (.int .i64 a1)] (fun y => y = E_Int r) := by
  refine Go.VC.Spec.of_xc (args := [.agg (Task.enc a0), .d (.int .i64 a1)]) (fn := Tryz.f124) tab ⟨[(0, [1, 2]), (1, [1, 2, 10]), (2, [4]), (3, [5]), (4, [4])], [], [], []⟩ 23 [.tmp 4] rfl rfl rfl rfl rfl rfl ?_
  conv => whnf
  refine fkS h (fun h => ?_) (fun h => ?_)
  · conv => whnf
    exact rt (E := E_Int) h rfl
  conv => whnf
  refine caS (E := E_Int_Int) h (arith_Floor_w (wr (a1 - a0.D)) a0.T) rfl (fun _ => rfl) (fun x1 h => ?_)
  conv => whnf
  exact rt (E := E_Int) h rfl

end Go.Proofs.YtpephpefjddgcaaGreat
namespace Go.Proofs.YtpephpefjddgcaaGreat
open Go Go.VC
noncomputable def arith_Add (a0 : Int) (a1 : Int) : Option (Int × Int) :=
  bnd (arith_may ([a0, a1] : List Int)) fun x1 => fk (!x1) (some ((0 : Int), (1 : Int))) (bnd (arith_may ([(wr (a0 + a1))] : List Int)) fun x2 => fk (!x2) (some ((0 : Int), (5 : Int))) (some ((wr (a0 + a1)), (0 : Int))))
theorem arith_Add_w (a0 : Int) (a1 : Int) (r : Int × Int) (h : arith_Add a0 a1 = some r) : Go.VC.Spec Tryz.prog 101 [.d (.int .i64 a0), .d (.int .i64 a1)] (fun y => y = E_Int_Int r) := by
  refine Go.VC.Spec.of_xc (args := [.d (.int .i64 a0), .d (.int .i64 a1)]) (fn := Tryz.f101) tab ⟨[(0, [0, 1]), (1, [0, 1, 6]), (2, [4, 5]), (3, [0, 1, 12]), (4, [4, 5]), (5, [4, 5])], [], [], []⟩ 22 [.tmp 4, .tmp 5] rfl rfl rfl rfl rfl rfl ?_
  conv => whnf
  refine liS ([a0, a1] : List Int) (eI .i64) rfl rfl ?_
  conv => whnf
  refine caS (E := E_Bool) h (arith_may_w ([a0, a1] : List Int)) rfl (fun _ => rfl) (fun x1 h => ?_)
  conv => whnf
  refine fkS h (fun h => ?_) (fun h => ?_)
  · conv => whnf
    exact rt (E := E_Int_Int) h rfl
  conv => whnf
  refine liS ([(wr (a0 + a1))] : List Int) (eI .i64) rfl rfl ?_
  conv => whnf
  refine caS (E := E_Bool) h (arith_may_w ([(wr (a0 + a1))] : List Int)) rfl (fun _ => rfl) (fun x2 h => ?_)
  conv => whnf
  refine fkS h (fun h => ?_) (fun h => ?_)
  · conv => whnf
    exact rt (E := E_Int_Int) h rfl
  conv => whnf
  exact rt (E := E_Int_Int) h rfl

end Go.Proofs.YtpephpefjddgcaaGreat
namespace Go.Proofs.YtpephpefjddgcaaGreat
open Go Go.VC
noncomputable def demand_Bound (a0 : List Task) (a1 : Int) : Option (Int × Int) :=
  jn (fun (w1 : Bool) => fk w1 (some ((0 : Int), (1 : Int))) (lp (fun nx3 (v3 : Int × Int × Int) => fk (decide (v3.2.2 < (a0.length : Int))) (ix a0 v3.2.2 fun x4 => bnd (demand_jobs x4 a1) fun x5 => bnd (arith_Mul x4.C x5) fun x6 => bnd (arith_Add v3.1 x6.1) fun x7 => jn (fun (w8 : Bool) => fk w8 (nx3 (v3.1, (5 : Int), (wr (v3.2.2 + (1 : Int))))) (nx3 (x7.1, v3.2.1, (wr (v3.2.2 + (1 : Int)))))) (fun k8 => fk (!decide (x6.2 = (0 : Int))) (k8 true) (k8 (!decide (x7.2 = (0 : Int)))))) (fk (!decide (v3.2.1 = (0 : Int))) (some ((0 : Int), v3.2.1)) (some (v3.1, (0 : Int))))) FU ((0 : Int), (0 : Int), (0 : Int)))) (fun k1 => bnd (task_All a0) fun x2 => fk (!x2) (k1 true) (fk (decide (a1 < (0 : Int))) (k1 true) (k1 (decide (a1 > (4611686018427387903 : Int))))))
theorem demand_Bound_w (a0 : List Task) (a1 : Int) (r : Int × Int) (h : demand_Bound a0 a1 = some r) : Go.VC.Spec Tryz.prog 99 [.d (.sl (a0.map Task.enc)), .d (.int .i64 a1)] (fun y => y = E_Int_Int r) := by
  refine Go.VC.Spec.of_xc (args := [.d (.sl (a0.map Task.enc)), .d (.int .i64 a1)]) (fn := Tryz.f99) tab ⟨[(0, [0, 1]), (1, [0, 1, 21]), (2, [4, 5]), (3, [0, 1, 6, 7]), (4, [0, 1, 6, 7, 8]), (5, [1, 6, 7, 8, 23, 24, 25]), (6, [1, 6, 7, 8, 23, 24, 25, 26]), (7, [1, 6, 7, 8, 10, 23, 24, 25]), (8, [1, 6, 7, 8, 23, 24, 25]), (9, [1, 6, 7, 8, 23, 24, 25]), (10, [6, 7, 38]), (11, [4, 5]), (12, [4, 5])], [], [100021], []⟩ 41 [.tmp 4, .tmp 5] rfl rfl rfl rfl rfl rfl ?_
  conv => whnf
  refine jnS (fun w1 => ⟨[(0, .l (.d (.sl (a0.map Task.enc)))), (1, .l (.d (.int .i64 a1))), (21, .l (.d (.bool w1)))], 41, [], [], []⟩) h (fun k1 hk1 h => ?_) (fun w1 h => ?_)
  · conv => whnf
    refine caS (E := E_Bool) h (task_All_w a0) rfl (fun _ => rfl) (fun x2 h => ?_)
    conv => whnf
    refine fkS h (fun h => ?_) (fun h => ?_)
    · conv => whnf
      exact jeS hk1 h (Weak.refl _)
    conv => whnf
    refine fkS h (fun h => ?_) (fun h => ?_)
    · conv => whnf
      exact jeS hk1 h (Weak.refl _)
    conv => whnf
    exact jeS hk1 h (Weak.refl _)
  conv => whnf
  refine fkS h (fun h => ?_) (fun h => ?_)
  · conv => whnf
    exact rt (E := E_Int_Int) h rfl
  conv => whnf
  refine lenS a0 Task.enc rfl ?_
  conv => whnf
  refine lpS (fun v3 => ⟨[(1, .l (.d (.int .i64 a1))), (6, .l (.ptr 7 0)), (7, .l (.ptr 8 0)), (8, .l (.func 123 [.k 7, .k 8])), (23, .l (.d (.sl (a0.map Task.enc)))), (24, .l (.d (.int .i64 (a0.length : Int)))), (25, .l (.d (.int .i64 v3.2.2)))], 41, [], [(7, [.d (.int .i64 v3.1)]), (8, [.d (.int .i64 v3.2.1)])], []⟩) h (Weak.refl _) (fun _ nx3 hn3 v3 h => ?_)
  conv => whnf
  refine fkS h (fun h => ?_) (fun h => ?_)
  · conv => whnf
    refine ixS (enc := Task.enc) h rfl (fun _ => rfl) (fun x4 h => ?_)
    conv => whnf
    refine ⟨6, ?_⟩
    conv => whnf
    refine daS (E := E_Int) h (demand_jobs_w x4 a1) (fun _ => rfl) (fun x5 h => ?_)
    conv => whnf
    refine drS (by kernel_rfl) ?_
    conv => whnf
    refine inS (fn := Tryz.f123) tab ⟨[(0, [2, 3, 6, 7]), (1, [2, 3, 7, 8, 9]), (2, [2, 3, 8, 27]), (3, []), (4, [])], [], [100027], []⟩ 29 [] rfl rfl rfl rfl rfl rfl ?_
    conv => whnf
    refine caS (E := E_Int_Int) h (arith_Mul_w x4.C x5) rfl (fun _ => rfl) (fun x6 h => ?_)
    conv => whnf
    refine caS (E := E_Int_Int) h (arith_Add_w v3.1 x6.1) rfl (fun _ => rfl) (fun x7 h => ?_)
    conv => whnf
    refine jnS (fun w8 => ⟨[(2, .l (.ptr 7 0)), (3, .l (.ptr 8 0)), (8, .l (.d (.int .i64 x7.1))), (27, .l (.d (.bool w8)))], 29, [⟨[(34, .l (.d (.int .i64 x5))), (33, .l (.d (.int .i64 a1))), (32, .agg [.d (.int .i64 x4.C), .d (.int .i64 x4.D), .d (.int .i64 x4.T), .d (.sl (x4.Secs.map Sec.enc))]), (31, .l (.d (.int .i64 x4.C))), (30, .l (.ptr 11 0)), (29, .l (.func 123 [.k 7, .k 8])), (1, .l (.d (.int .i64 a1))), (6, .l (.ptr 7 0)), (7, .l (.ptr 8 0)), (8, .l (.func 123 [.k 7, .k 8])), (10, .l (.ptr 11 0)), (23, .l (.d (.sl (a0.map Task.enc)))), (24, .l (.d (.int .i64 (a0.length : Int)))), (25, .l (.d (.int .i64 v3.2.2)))], 41⟩], [(7, [.d (.int .i64 v3.1)]), (8, [.d (.int .i64 v3.2.1)]), (11, [.d (.int .i64 x4.C), .d (.int .i64 x4.D), .d (.int .i64 x4.T), .d (.sl (x4.Secs.map Sec.enc))])], []⟩) h (fun k8 hk8 h => ?_) (fun w8 h => ?_)
    · conv => whnf
      refine fkS h (fun h => ?_) (fun h => ?_)
      · conv => whnf
        exact jeS hk8 h (Weak.refl _)
      conv => whnf
      exact jeS hk8 h (Weak.refl _)
    conv => whnf
    refine fkS h (fun h => ?_) (fun h => ?_)
    · conv => whnf
      exact leS hn3 h (Weak.refl _)
    conv => whnf
    exact leS hn3 h (Weak.refl _)
  conv => whnf
  refine fkS h (fun h => ?_) (fun h => ?_)
  · conv => whnf
    refine ⟨2, ?_⟩
    conv => whnf
    refine drS (by kernel_rfl) ?_
    conv => whnf
    exact rt (E := E_Int_Int) h rfl
  conv => whnf
  exact rt (E := E_Int_Int) h rfl

end Go.Proofs.YtpephpefjddgcaaGreat
namespace Go.Proofs.YtpephpefjddgcaaGreat
open Go Go.VC
noncomputable def task_Uses (a0 : Task) (a1 : Int) : Option Bool :=
  bnd (task_Right a0) fun x1 => fk (!x1) (some false) (lp (fun nx2 (v2 : Int) => fk (decide (v2 < (a0.Secs.length : Int))) (ix a0.Secs v2 fun x3 => fk (decide (x3.Res = a1)) (some true) (nx2 (wr (v2 + (1 : Int))))) (some false)) FU (0 : Int))
theorem task_Uses_w (a0 : Task) (a1 : Int) (r : Bool) (h : task_Uses a0 a1 = some r) : Go.VC.Spec Tryz.prog 134 [.agg (Task.enc a0), .d (.int .i64 a1)] (fun y => y = E_Bool r) := by
  refine Go.VC.Spec.of_xc (args := [.agg (Task.enc a0), .d (.int .i64 a1)]) (fn := Tryz.f134) tab ⟨[(0, [1, 2]), (1, [1, 2, 9]), (2, [4]), (3, [1, 11, 12, 13]), (4, [1, 11, 12, 13, 14]), (5, [1, 6, 11, 12, 13]), (6, [1, 11, 12, 13, 20]), (7, [4]), (8, [1, 11, 12, 13]), (9, [4])], [], [], []⟩ 22 [.tmp 4] rfl rfl rfl rfl rfl rfl ?_
  conv => whnf
  refine caS (E := E_Bool) h (task_Right_w a0) rfl (fun _ => rfl) (fun x1 h => ?_)
  conv => whnf
  refine fkS h (fun h => ?_) (fun h => ?_)
  · conv => whnf
    exact rt (E := E_Bool) h rfl
  conv => whnf
  refine lenS a0.Secs Sec.enc rfl ?_
  conv => whnf
  refine lpS (fun v2 => ⟨[(1, .l (.d (.int .i64 a1))), (11, .l (.d (.sl (a0.Secs.map Sec.enc)))), (12, .l (.d (.int .i64 (a0.Secs.length : Int)))), (13, .l (.d (.int .i64 v2)))], 22, [], [], []⟩) h (Weak.refl _) (fun _ nx2 hn2 v2 h => ?_)
  conv => whnf
  refine fkS h (fun h => ?_) (fun h => ?_)
  · conv => whnf
    refine ixS (enc := Sec.enc) h rfl (fun _ => rfl) (fun x3 h => ?_)
    conv => whnf
    refine fkS h (fun h => ?_) (fun h => ?_)
    · conv => whnf
      exact rt (E := E_Bool) h rfl
    conv => whnf
    exact leS hn2 h (Weak.refl _)
  conv => whnf
  exact rt (E := E_Bool) h rfl

end Go.Proofs.YtpephpefjddgcaaGreat
namespace Go.Proofs.YtpephpefjddgcaaGreat
open Go Go.VC
noncomputable def block_shared (a0 : List Task) (a1 : Int) (a2 : Int) : Option Bool :=
  lp (fun nx1 (v1 : Int) => fk (decide (v1 < (a0.length : Int))) (ix a0 v1 fun x2 => jn (fun (w3 : Bool) => fk w3 (some true) (nx1 (wr (v1 + (1 : Int))))) (fun k3 => fk (decide (x2.D ≤ a1)) (bnd (task_Uses x2 a2) fun x4 => k3 x4) (k3 false))) (some false)) FU (0 : Int)
theorem block_shared_w (a0 : List Task) (a1 : Int) (a2 : Int) (r : Bool) (h : block_shared a0 a1 a2 = some r) : Go.VC.Spec Tryz.prog 126 [.d (.sl (a0.map Task.enc)), .d (.int .i64 a1), .d (.int .i64 a2)] (fun y => y = E_Bool r) := by
  refine Go.VC.Spec.of_xc (args := [.d (.sl (a0.map Task.enc)), .d (.int .i64 a1), .d (.int .i64 a2)]) (fn := Tryz.f126) tab ⟨[(0, [0, 1, 2]), (1, [1, 2, 9, 10, 11]), (2, [1, 2, 9, 10, 11, 12]), (3, [1, 2, 8, 9, 10, 11]), (4, [1, 2, 9, 10, 11, 23]), (5, [6]), (6, [1, 2, 9, 10, 11]), (7, [6])], [], [100023], []⟩ 25 [.tmp 6] rfl rfl rfl rfl rfl rfl ?_
  conv => whnf
  refine lenS a0 Task.enc rfl ?_
  conv => whnf
  refine lpS (fun v1 => ⟨[(1, .l (.d (.int .i64 a1))), (2, .l (.d (.int .i64 a2))), (9, .l (.d (.sl (a0.map Task.enc)))), (10, .l (.d (.int .i64 (a0.length : Int)))), (11, .l (.d (.int .i64 v1)))], 25, [], [], []⟩) h (Weak.refl _) (fun _ nx1 hn1 v1 h => ?_)
  conv => whnf
  refine fkS h (fun h => ?_) (fun h => ?_)
  · conv => whnf
    refine ixS (enc := Task.enc) h rfl (fun _ => rfl) (fun x2 h => ?_)
    conv => whnf
    refine jnS (fun w3 => ⟨[(1, .l (.d (.int .i64 a1))), (2, .l (.d (.int .i64 a2))), (9, .l (.d (.sl (a0.map Task.enc)))), (10, .l (.d (.int .i64 (a0.length : Int)))), (11, .l (.d (.int .i64 v1))), (23, .l (.d (.bool w3)))], 25, [], [], []⟩) h (fun k3 hk3 h => ?_) (fun w3 h => ?_)
    · conv => whnf
      refine fkS h (fun h => ?_) (fun h => ?_)
      · conv => whnf
        refine caS (E := E_Bool) h (task_Uses_w x2 a2) rfl (fun _ => rfl) (fun x4 h => ?_)
        conv => whnf
        exact jeS hk3 h (Weak.refl _)
      conv => whnf
      exact jeS hk3 h (Weak.refl _)
    conv => whnf
    refine fkS h (fun h => ?_) (fun h => ?_)
    · conv => whnf
      exact rt (E := E_Bool) h rfl
    conv => whnf
    exact leS hn1 h (Weak.refl _)
  conv => whnf
  exact rt (E := E_Bool) h rfl

end Go.Proofs.YtpephpefjddgcaaGreat
namespace Go.Proofs.YtpephpefjddgcaaGreat
open Go Go.VC
noncomputable def block_Of (a0 : List Task) (a1 : Int) : Option (Int × Int) :=
  bnd (task_All a0) fun x1 => fk (!x1) (some ((0 : Int), (1 : Int))) (lp (fun nx2 (v2 : Int × Int) => fk (decide (v2.2 < (a0.length : Int))) (jn (fun (w3 : Int) => nx2 (w3, (wr (v2.2 + (1 : Int))))) (fun k3 => ix a0 v2.2 fun x4 => fk (decide (x4.D ≤ a1)) (k3 v2.1) (lp (fun nx5 (v5 : Int × Int) => fk (decide (v5.2 < (x4.Secs.length : Int))) (ix x4.Secs v5.2 fun x6 => jn (fun (w7 : Bool) => fk w7 (nx5 (x6.Len, (wr (v5.2 + (1 : Int))))) (nx5 (v5.1, (wr (v5.2 + (1 : Int)))))) (fun k7 => fk (decide (x6.Len > v5.1)) (bnd (block_shared a0 a1 x6.Res) fun x8 => k7 x8) (k7 false))) (k3 v5.1)) FU (v2.1, (0 : Int))))) (some (v2.1, (0 : Int)))) FU ((0 : Int), (0 : Int)))
theorem block_Of_w (a0 : List Task) (a1 : Int) (r : Int × Int) (h : block_Of a0 a1 = some r) : Go.VC.Spec Tryz.prog 100 [.d (.sl (a0.map Task.enc)), .d (.int .i64 a1)] (fun y => y = E_Int_Int r) := by
  refine Go.VC.Spec.of_xc (args := [.d (.sl (a0.map Task.enc)), .d (.int .i64 a1)]) (fn := Tryz.f100) tab ⟨[(0, [2, 3]), (1, [2, 3, 14]), (2, [4, 5]), (3, [2, 3, 6]), (4, [2, 3, 6, 7]), (5, [3, 6, 7, 16, 17, 18]), (6, [3, 6, 7, 16, 17, 18, 19]), (7, [3, 6, 7, 9, 16, 17, 18]), (8, [3, 6, 7, 9, 16, 17, 18, 25]), (9, [3, 6, 7, 16, 17, 18, 27, 28, 29]), (10, [3, 6, 7, 16, 17, 18, 27, 28, 29, 30]), (11, [3, 6, 7, 11, 16, 17, 18, 27, 28, 29]), (12, [3, 6, 7, 16, 17, 18, 27, 28, 29]), (13, [3, 6, 7, 16, 17, 18, 27, 28, 29]), (14, [3, 6, 7, 16, 17, 18]), (15, [4, 5])], [], [14], []⟩ 39 [.tmp 4, .tmp 5] rfl rfl rfl rfl rfl rfl ?_
  conv => whnf
  refine caS (E := E_Bool) h (task_All_w a0) rfl (fun _ => rfl) (fun x1 h => ?_)
  conv => whnf
  refine fkS h (fun h => ?_) (fun h => ?_)
  · conv => whnf
    exact rt (E := E_Int_Int) h rfl
  conv => whnf
  refine lenS a0 Task.enc rfl ?_
  conv => whnf
  refine lpS (fun v2 => ⟨[(3, .l (.ptr 4 0)), (6, .l (.ptr 7 0)), (7, .l (.func 125 [.k 7, .k 3, .k 4])), (16, .l (.d (.sl (a0.map Task.enc)))), (17, .l (.d (.int .i64 (a0.length : Int)))), (18, .l (.d (.int .i64 v2.2)))], 39, [], [(3, [.d (.sl (a0.map Task.enc))]), (4, [.d (.int .i64 a1)]), (7, [.d (.int .i64 v2.1)])], []⟩) h (Weak.refl _) (fun _ nx2 hn2 v2 h => ?_)
  conv => whnf
  refine fkS h (fun h => ?_) (fun h => ?_)
  · conv => whnf
    refine jnS (fun w3 => ⟨[(3, .l (.ptr 4 0)), (6, .l (.ptr 7 0)), (7, .l (.func 125 [.k 7, .k 3, .k 4])), (16, .l (.d (.sl (a0.map Task.enc)))), (17, .l (.d (.int .i64 (a0.length : Int)))), (18, .l (.d (.int .i64 v2.2)))], 39, [], [(3, [.d (.sl (a0.map Task.enc))]), (4, [.d (.int .i64 a1)]), (7, [.d (.int .i64 w3)])], []⟩) h (fun k3 hk3 h => ?_) (fun w3 h => ?_)
    · conv => whnf
      refine ixS (enc := Task.enc) h rfl (fun _ => rfl) (fun x4 h => ?_)
      conv => whnf
      refine fkS h (fun h => ?_) (fun h => ?_)
      · conv => whnf
        refine jeX hk3 h ?_
        conv => whnf
        refine WkF.step (Weak.keepS _ [3, 6, 7, 16, 17, 18]) ?_
        conv => whnf
        exact WkF.refl _
      conv => whnf
      refine lenS x4.Secs Sec.enc rfl ?_
      conv => whnf
      refine lpS (fun v5 => ⟨[(3, .l (.ptr 4 0)), (6, .l (.ptr 7 0)), (7, .l (.func 125 [.k 7, .k 3, .k 4])), (16, .l (.d (.sl (a0.map Task.enc)))), (17, .l (.d (.int .i64 (a0.length : Int)))), (18, .l (.d (.int .i64 v2.2))), (27, .l (.d (.sl (x4.Secs.map Sec.enc)))), (28, .l (.d (.int .i64 (x4.Secs.length : Int)))), (29, .l (.d (.int .i64 v5.2)))], 39, [], [(3, [.d (.sl (a0.map Task.enc))]), (4, [.d (.int .i64 a1)]), (7, [.d (.int .i64 v5.1)])], []⟩) h (Weak.refl _) (fun _ nx5 hn5 v5 h => ?_)
      conv => whnf
      refine fkS h (fun h => ?_) (fun h => ?_)
      · conv => whnf
        refine ixS (enc := Sec.enc) h rfl (fun _ => rfl) (fun x6 h => ?_)
        conv => whnf
        refine inS (fn := Tryz.f125) tab ⟨[(0, [1, 2, 3, 4]), (1, [1, 4, 15]), (2, [])], [], [100015], []⟩ 18 [] rfl rfl rfl rfl rfl rfl ?_
        conv => whnf
        refine jnS (fun w7 => ⟨[(1, .l (.ptr 7 0)), (4, .l (.ptr 1005 0)), (15, .l (.d (.bool w7)))], 18, [⟨[(34, .agg [.d (.int .i64 x6.Res), .d (.int .i64 x6.At), .d (.int .i64 x6.Len)]), (33, .l (.func 125 [.k 7, .k 3, .k 4])), (3, .l (.ptr 4 0)), (6, .l (.ptr 7 0)), (7, .l (.func 125 [.k 7, .k 3, .k 4])), (11, .l (.ptr 12 0)), (16, .l (.d (.sl (a0.map Task.enc)))), (17, .l (.d (.int .i64 (a0.length : Int)))), (18, .l (.d (.int .i64 v2.2))), (27, .l (.d (.sl (x4.Secs.map Sec.enc)))), (28, .l (.d (.int .i64 (x4.Secs.length : Int)))), (29, .l (.d (.int .i64 v5.2)))], 39⟩], [(3, [.d (.sl (a0.map Task.enc))]), (4, [.d (.int .i64 a1)]), (7, [.d (.int .i64 v5.1)]), (12, [.d (.int .i64 x6.Res), .d (.int .i64 x6.At), .d (.int .i64 x6.Len)]), (1005, [.d (.int .i64 x6.Res), .d (.int .i64 x6.At), .d (.int .i64 x6.Len)])], []⟩) h (fun k7 hk7 h => ?_) (fun w7 h => ?_)
        · conv => whnf
          refine fkS h (fun h => ?_) (fun h => ?_)
          · conv => whnf
            refine caS (E := E_Bool) h (block_shared_w a0 a1 x6.Res) rfl (fun _ => rfl) (fun x8 h => ?_)
            conv => whnf
            exact jeS hk7 h (Weak.refl _)
          conv => whnf
          exact jeS hk7 h (Weak.refl _)
        conv => whnf
        refine fkS h (fun h => ?_) (fun h => ?_)
        · conv => whnf
          exact leS hn5 h (Weak.refl _)
        conv => whnf
        exact leS hn5 h (Weak.refl _)
      conv => whnf
      refine jeX hk3 h ?_
      conv => whnf
      refine WkF.step (Weak.keepS _ [3, 6, 7, 16, 17, 18]) ?_
      conv => whnf
      exact WkF.refl _
    conv => whnf
    exact leS hn2 h (Weak.refl _)
  conv => whnf
  exact rt (E := E_Int_Int) h rfl

end Go.Proofs.YtpephpefjddgcaaGreat
namespace Go.Proofs.YtpephpefjddgcaaGreat
open Go Go.VC
noncomputable def verdict_Need (a0 : List Task) (a1 : Int) : Option (Int × Int) :=
  bnd (demand_Bound a0 a1) fun x1 => fk (!decide (x1.2 = (0 : Int))) (some ((0 : Int), x1.2)) (bnd (block_Of a0 a1) fun x2 => bnd (arith_Add x1.1 x2.1) fun x3 => some (x3.1, x3.2))
theorem verdict_Need_w (a0 : List Task) (a1 : Int) (r : Int × Int) (h : verdict_Need a0 a1 = some r) : Go.VC.Spec Tryz.prog 61 [.d (.sl (a0.map Task.enc)), .d (.int .i64 a1)] (fun y => y = E_Int_Int r) := by
  refine Go.VC.Spec.of_xc (args := [.d (.sl (a0.map Task.enc)), .d (.int .i64 a1)]) (fn := Tryz.f61) tab ⟨[(0, [0, 1]), (1, [0, 1, 6, 7]), (2, [0, 1, 6, 7, 17]), (3, [4, 5]), (4, [6, 8]), (5, [4, 5])], [], [], []⟩ 30 [.tmp 4, .tmp 5] rfl rfl rfl rfl rfl rfl ?_
  conv => whnf
  refine caS (E := E_Int_Int) h (demand_Bound_w a0 a1) rfl (fun _ => rfl) (fun x1 h => ?_)
  conv => whnf
  refine fkS h (fun h => ?_) (fun h => ?_)
  · conv => whnf
    exact rt (E := E_Int_Int) h rfl
  conv => whnf
  refine caS (E := E_Int_Int) h (block_Of_w a0 a1) rfl (fun _ => rfl) (fun x2 h => ?_)
  conv => whnf
  refine caS (E := E_Int_Int) h (arith_Add_w x1.1 x2.1) rfl (fun _ => rfl) (fun x3 h => ?_)
  conv => whnf
  exact rt (E := E_Int_Int) h rfl

end Go.Proofs.YtpephpefjddgcaaGreat
namespace Go.Proofs.YtpephpefjddgcaaGreat
open Go Go.VC
noncomputable def supply_Bound (a0 : Face) (a1 : Int) : Option (Int × Int) :=
  jn (fun (w1 : Bool) => fk w1 (some ((0 : Int), (1 : Int))) (fk (decide (a1 < (wr (a0.P - a0.B)))) (some ((0 : Int), (0 : Int))) (ck (decide (a0.P ≠ 0)) (some ((wr ((wr ((wr ((wr (a1 - (wr (a0.P - a0.B)))).tdiv a0.P)) * a0.B)) + (if (wr ((wr (a1 - (wr ((2 : Int) * (wr (a0.P - a0.B)))))) - (wr ((wr ((wr (a1 - (wr (a0.P - a0.B)))).tdiv a0.P)) * a0.P)))) > (0 : Int) then (wr ((wr (a1 - (wr ((2 : Int) * (wr (a0.P - a0.B)))))) - (wr ((wr ((wr (a1 - (wr (a0.P - a0.B)))).tdiv a0.P)) * a0.P)))) else (0 : Int)))), (0 : Int)))))) (fun k1 => bnd (supply_Right a0) fun x2 => fk (!x2) (k1 true) (fk (decide (a1 < (0 : Int))) (k1 true) (k1 (decide (a1 > (4611686018427387903 : Int))))))
theorem supply_Bound_w (a0 : Face) (a1 : Int) (r : Int × Int) (h : supply_Bound a0 a1 = some r) : Go.VC.Spec Tryz.prog 15 [.agg (Face.enc a0), .d (.int .i64 a1)] (fun y => y = E_Int_Int r) := by
  refine Go.VC.Spec.of_xc (args := [.agg (Face.enc a0), .d (.int .i64 a1)]) (fn := Tryz.f15) tab ⟨[(0, [1, 2]), (1, [1, 2, 18]), (2, [4, 5]), (3, [1, 2, 6]), (4, [1, 2, 6, 26]), (5, [4, 5]), (6, [1, 2, 6, 7]), (7, [4, 5])], [], [100018], []⟩ 48 [.tmp 4, .tmp 5] rfl rfl rfl rfl rfl rfl ?_
  conv => whnf
  refine jnS (fun w1 => ⟨[(1, .l (.d (.int .i64 a1))), (2, .l (.ptr 3 0)), (18, .l (.d (.bool w1)))], 48, [], [(3, [.d (.int .i64 a0.P), .d (.int .i64 a0.B)])], []⟩) h (fun k1 hk1 h => ?_) (fun w1 h => ?_)
  · conv => whnf
    refine caS (E := E_Bool) h (supply_Right_w a0) rfl (fun _ => rfl) (fun x2 h => ?_)
    conv => whnf
    refine fkS h (fun h => ?_) (fun h => ?_)
    · conv => whnf
      exact jeS hk1 h (Weak.refl _)
    conv => whnf
    refine fkS h (fun h => ?_) (fun h => ?_)
    · conv => whnf
      exact jeS hk1 h (Weak.refl _)
    conv => whnf
    exact jeS hk1 h (Weak.refl _)
  conv => whnf
  refine fkS h (fun h => ?_) (fun h => ?_)
  · conv => whnf
    exact rt (E := E_Int_Int) h rfl
  conv => whnf
  refine fkS h (fun h => ?_) (fun h => ?_)
  · conv => whnf
    exact rt (E := E_Int_Int) h rfl
  conv => whnf
  refine dvS h (fun h => ?_)
  conv => whnf
  exact rt (E := E_Int_Int) h rfl

end Go.Proofs.YtpephpefjddgcaaGreat
namespace Go.Proofs.YtpephpefjddgcaaGreat
open Go Go.VC
noncomputable def verdict_fails (a0 : List Task) (a1 : Face) (a2 : Int) : Option (Option Int) :=
  lp (fun nx (v : Int) => fk (decide (v ≤ a2)) (bnd (verdict_Need a0 v) fun x1 => bnd (supply_Bound a1 v) fun x2 => fk (decide (x1.1 > x2.1)) (some (some v)) (nx (wr (v + 1)))) (some none)) FU 0
theorem verdict_fails_it (a0 : List Task) (a1 : Face) (a2 : Int) (r : Option Int) (h : verdict_fails a0 a1 a2 = some r) : ItC Tryz.prog 60 [.dp [.int .i64 a2], .dp [.sl (a0.map Task.enc)], .dp [.int .i64 a1.P, .int .i64 a1.B]] r := by
  refine ItC.of (fn := Tryz.f60) rfl rfl rfl rfl rfl (fun w0 p0 l X hy => ?_)
  refine IW.seqx tab ⟨[(0, [0, 1, 2, 3, 5]), (1, [0, 1, 2, 3, 5, 12]), (2, [0, 1, 2, 3, 5]), (3, [0, 1, 2, 3, 5, 6]), (4, [0, 1, 2, 3, 5, 6, 8]), (5, [0, 1, 2, 3, 5, 35])], [], [], []⟩ ?_
  refine IW.block ?_
  refine IW.lp (fun v => ⟨[(0, .l (.raw (.func (.yield l) #[] #[]))), (1, .l (.dptr [.int .i64 a2] 0)), (2, .l (.dptr [.sl (a0.map Task.enc)] 0)), (3, .l (.dptr [.int .i64 a1.P, .int .i64 a1.B] 0)), (5, .l (.d (.int .i64 v)))], 36, [], [], []⟩) h (Weak.refl _) (fun _ nx hn v h => ?_)
  refine IW.seqx tab ⟨[(0, [0, 1, 2, 3, 5]), (1, [0, 1, 2, 3, 5, 12]), (2, [0, 1, 2, 3, 5]), (3, [0, 1, 2, 3, 5, 6]), (4, [0, 1, 2, 3, 5, 6, 8]), (5, [0, 1, 2, 3, 5, 35])], [], [], []⟩ ?_
  refine fkS h (fun h => ?_) (fun h => ?_)
  · refine IW.seq (IW.block ?_)
    refine IW.seqx tab ⟨[(0, [0, 1, 2, 3, 5]), (1, [0, 1, 2, 3, 5, 12]), (2, [0, 1, 2, 3, 5]), (3, [0, 1, 2, 3, 5, 6]), (4, [0, 1, 2, 3, 5, 6, 8]), (5, [0, 1, 2, 3, 5, 35])], [], [], []⟩ ?_
    refine caS (E := E_Int_Int) h (verdict_Need_w a0 v) rfl (fun _ => rfl) (fun x1 h => ?_)
    refine IW.seqx tab ⟨[(0, [0, 1, 2, 3, 5]), (1, [0, 1, 2, 3, 5, 12]), (2, [0, 1, 2, 3, 5]), (3, [0, 1, 2, 3, 5, 6]), (4, [0, 1, 2, 3, 5, 6, 8]), (5, [0, 1, 2, 3, 5, 35])], [], [], []⟩ ?_
    refine caS (E := E_Int_Int) h (supply_Bound_w a1 v) rfl (fun _ => rfl) (fun x2 h => ?_)
    refine IW.yield tab (l := l) (r0 := 0) (r5 := 5) (r6 := 6) (r8 := 8) (nd := x1.1) (hv := x2.1) (t := v) rfl rfl rfl rfl rfl rfl rfl rfl rfl rfl rfl rfl rfl rfl rfl rfl rfl rfl rfl rfl rfl rfl rfl rfl rfl rfl rfl (Nat.le_of_ble_eq_true rfl) (Nat.le_of_ble_eq_true rfl) (Nat.le_of_ble_eq_true rfl) (Nat.le_of_ble_eq_true rfl) (Nat.le_of_ble_eq_true rfl) (Nat.le_of_ble_eq_true rfl) (Nat.le_of_ble_eq_true rfl) (Nat.le_of_ble_eq_true rfl) (Nat.le_of_ble_eq_true rfl) (by decide) (by decide) (by decide) (by decide) (by decide) (by decide) (by decide) (by decide) (by decide) (by decide) (by decide) (by decide) (by decide) (by decide) (by decide) (by decide) rfl rfl rfl rfl (fun hg W1 hW => ?_) (fun hg => ?_) (fun hg => ?_)
    · rw [decide_eq_true hg] at h; exact hy v W1 (Option.some.inj h).symm hW
    · rw [decide_eq_true hg] at h; rw [← Option.some.inj h]; rfl
    · rw [decide_eq_false hg] at h
      refine IW.of_xc tab ⟨[(0, [0, 1, 2, 3, 5]), (1, [0, 1, 2, 3, 5, 12]), (2, [0, 1, 2, 3, 5]), (3, [0, 1, 2, 3, 5, 6]), (4, [0, 1, 2, 3, 5, 6, 8]), (5, [0, 1, 2, 3, 5, 35])], [], [], []⟩ ?_
      exact leS hn h (Weak.refl _)
  · exact (Option.some.inj h).symm
noncomputable def verdict_First (a0 : List Task) (a1 : Face) : Option (Int × Bool × Int) :=
  bnd (verdict_Cycle a0 a1) fun x1 => fk (!decide (x1.2.2 = (0 : Int))) (some ((0 : Int), false, x1.2.2)) (bnd (verdict_fails a0 a1 x1.2.1) fun x2 => match x2 with | some t => some (t, true, (0 : Int)) | none => some ((0 : Int), false, (0 : Int)))
theorem verdict_First_w (a0 : List Task) (a1 : Face) (r : Int × Bool × Int) (h : verdict_First a0 a1 = some r) : Go.VC.Spec Tryz.prog 18 [.d (.sl (a0.map Task.enc)), .agg (Face.enc a1)] (fun y => y = E_Int_Bool_Int r) := by
  refine Spec.of_wpF (args := [.d (.sl (a0.map Task.enc)), .agg (Face.enc a1)]) (fn := Tryz.f18) rfl rfl rfl rfl ?_
  refine WpF.seq tab ⟨[(0, [0, 3, 4, 5, 6, 25]), (1, [0, 3, 4, 5, 6, 8, 9, 25]), (2, [0, 3, 4, 5, 6, 8, 9, 19, 25]), (3, [4, 5, 6]), (4, [4, 5, 6, 24, 25]), (5, [4, 5, 6, 10]), (6, [4, 5, 6]), (7, [4, 5, 6])], [], [], []⟩ (rs := [.cell 4 3, .cell 5 4, .cell 6 29]) rfl ?_
  refine WpF.seq tab ⟨[(0, [0, 3, 4, 5, 6, 25]), (1, [0, 3, 4, 5, 6, 8, 9, 25]), (2, [0, 3, 4, 5, 6, 8, 9, 19, 25]), (3, [4, 5, 6]), (4, [4, 5, 6, 24, 25]), (5, [4, 5, 6, 10]), (6, [4, 5, 6]), (7, [4, 5, 6])], [], [], []⟩ (rs := [.cell 4 3, .cell 5 4, .cell 6 29]) rfl ?_
  refine caS (E := E_Int_Int_Int) h (verdict_Cycle_w a0 a1) rfl (fun _ => rfl) (fun x1 h => ?_)
  refine WpF.seq tab ⟨[(0, [0, 3, 4, 5, 6, 25]), (1, [0, 3, 4, 5, 6, 8, 9, 25]), (2, [0, 3, 4, 5, 6, 8, 9, 19, 25]), (3, [4, 5, 6]), (4, [4, 5, 6, 24, 25]), (5, [4, 5, 6, 10]), (6, [4, 5, 6]), (7, [4, 5, 6])], [], [], []⟩ (rs := [.cell 4 3, .cell 5 4, .cell 6 29]) rfl ?_
  refine fkS h (fun h => ?_) (fun h => ?_)
  · exact RetOk.mk ⟨_, rfl, rt (E := E_Int_Bool_Int) h rfl⟩
  obtain ⟨x2, hx2, h⟩ := bnd_of h
  refine WpF.seqA tab ⟨[(0, [0, 3, 4, 5, 6, 25]), (1, [0, 3, 4, 5, 6, 8, 9, 25]), (2, [0, 3, 4, 5, 6, 8, 9, 19, 25]), (3, [4, 5, 6]), (4, [4, 5, 6, 24, 25]), (5, [4, 5, 6, 10]), (6, [4, 5, 6]), (7, [4, 5, 6])], [], [], []⟩ (rs := [.cell 4 3, .cell 5 4, .cell 6 29]) rfl ?_
  refine inS (fn := Tryz.f36) tab ⟨[(0, [3, 4, 5]), (1, [6])], [], [], []⟩ 8 [.tmp 6] rfl rfl rfl rfl rfl rfl ?_
  refine WpG.id ?_
  refine WpG.range tab (rs := [.cell 4 3, .cell 5 4, .cell 6 29]) rfl rfl rfl rfl rfl ⟨_, rfl, rfl, rfl⟩ x2 rfl (verdict_fails_it a0 a1 x1.2.1 x2 hx2) rfl rfl rfl (fun x hx => ?_) (fun hx => ?_)
  · subst hx
    refine PO.h (?_)
    refine po_move rfl rfl rfl ?_
    refine po_store rfl rfl rfl rfl rfl rfl rfl rfl rfl rfl ?_
    refine po_store rfl rfl rfl rfl rfl rfl rfl rfl rfl rfl ?_
    refine po_store rfl rfl rfl rfl rfl rfl rfl rfl rfl rfl ?_
    refine po_nil ?_
    exact RetOk.mk ⟨_, rfl, rt (E := E_Int_Bool_Int) h rfl⟩
  · subst hx
    refine PO.h (?_)
    refine po_store rfl rfl rfl rfl rfl rfl rfl rfl rfl rfl ?_
    refine po_store rfl rfl rfl rfl rfl rfl rfl rfl rfl rfl ?_
    refine po_store rfl rfl rfl rfl rfl rfl rfl rfl rfl rfl ?_
    refine po_nil ?_
    exact RetOk.mk ⟨_, rfl, rt (E := E_Int_Bool_Int) h rfl⟩

end Go.Proofs.YtpephpefjddgcaaGreat
namespace Go.Proofs.YtpephpefjddgcaaGreat
open Go Go.VC
noncomputable def verdict_Fits (a0 : List Task) (a1 : Face) : Option (Bool × Int) :=
  bnd (verdict_Cycle a0 a1) fun x1 => fk (!decide (x1.2.2 = (0 : Int))) (some (false, x1.2.2)) (lp (fun nx2 (v2 : Int × Int) => fk (decide (v2.2 < (a0.length : Int))) (ix a0 v2.2 fun x3 => ck (decide (x3.T ≠ 0)) (nx2 ((wr (v2.1 + (wr ((wr (x1.1.tdiv x3.T)) * x3.C)))), (wr (v2.2 + (1 : Int)))))) (ck (decide (a1.P ≠ 0)) (fk (decide (v2.1 > (wr ((wr (x1.1.tdiv a1.P)) * a1.B)))) (some (false, (0 : Int))) (bnd (verdict_First a0 a1) fun x4 => some ((!x4.2.1), (0 : Int)))))) FU ((0 : Int), (0 : Int)))
theorem verdict_Fits_w (a0 : List Task) (a1 : Face) (r : Bool × Int) (h : verdict_Fits a0 a1 = some r) : Go.VC.Spec Tryz.prog 7 [.d (.sl (a0.map Task.enc)), .agg (Face.enc a1)] (fun y => y = E_Bool_Int r) := by
  refine Go.VC.Spec.of_xc (args := [.d (.sl (a0.map Task.enc)), .agg (Face.enc a1)]) (fn := Tryz.f7) tab ⟨[(0, [0, 3]), (1, [0, 3, 6, 8]), (2, [0, 3, 6, 8, 23]), (3, [4, 5]), (4, [0, 3, 6, 9]), (5, [0, 3, 6, 9, 25, 26, 27]), (6, [0, 3, 6, 9, 25, 26, 27, 28]), (7, [0, 3, 6, 9, 11, 25, 26, 27]), (8, [0, 3, 6, 9, 25, 26, 27]), (9, [0, 3, 6, 9, 25, 26, 27]), (10, [0, 3, 49]), (11, [4, 5]), (12, [13]), (13, [4, 5])], [], [], []⟩ 59 [.tmp 4, .tmp 5] rfl rfl rfl rfl rfl rfl ?_
  conv => whnf
  refine caS (E := E_Int_Int_Int) h (verdict_Cycle_w a0 a1) rfl (fun _ => rfl) (fun x1 h => ?_)
  conv => whnf
  refine fkS h (fun h => ?_) (fun h => ?_)
  · conv => whnf
    exact rt (E := E_Bool_Int) h rfl
  conv => whnf
  refine lenS a0 Task.enc rfl ?_
  conv => whnf
  refine lpS (fun v2 => ⟨[(0, .l (.d (.sl (a0.map Task.enc)))), (3, .l (.ptr 4 0)), (6, .l (.d (.int .i64 x1.1))), (9, .l (.d (.int .i64 v2.1))), (25, .l (.d (.sl (a0.map Task.enc)))), (26, .l (.d (.int .i64 (a0.length : Int)))), (27, .l (.d (.int .i64 v2.2)))], 59, [], [(4, [.d (.int .i64 a1.P), .d (.int .i64 a1.B)])], []⟩) h (Weak.refl _) (fun _ nx2 hn2 v2 h => ?_)
  conv => whnf
  refine fkS h (fun h => ?_) (fun h => ?_)
  · conv => whnf
    refine ixS (enc := Task.enc) h rfl (fun _ => rfl) (fun x3 h => ?_)
    conv => whnf
    refine ⟨8, ?_⟩
    conv => whnf
    refine dvS h (fun h => ?_)
    conv => whnf
    refine drS (by kernel_rfl) ?_
    conv => whnf
    exact leS hn2 h (Weak.refl _)
  conv => whnf
  refine ⟨8, ?_⟩
  conv => whnf
  refine dvS h (fun h => ?_)
  conv => whnf
  refine drS (by kernel_rfl) ?_
  conv => whnf
  refine fkS h (fun h => ?_) (fun h => ?_)
  · conv => whnf
    exact rt (E := E_Bool_Int) h rfl
  conv => whnf
  refine caS (E := E_Int_Bool_Int) h (verdict_First_w a0 a1) rfl (fun _ => rfl) (fun x4 h => ?_)
  conv => whnf
  exact rt (E := E_Bool_Int) h rfl

end Go.Proofs.YtpephpefjddgcaaGreat
namespace Go.Proofs.YtpephpefjddgcaaGreat
open Go Go.VC
noncomputable def face_Least_1 (a0 : Int) (a1 : List Task) (a2 : Int) : Option Bool :=
  bnd (verdict_Fits a1 ⟨a2, a0⟩) fun x1 => some x1.1
theorem face_Least_1_w (a0 : Int) (a1 : List Task) (a2 : Int) (r : Bool) (h : face_Least_1 a0 a1 a2 = some r) : Go.VC.Spec Tryz.prog 21 [.d (.int .i64 a0), .dp [.sl (a1.map Task.enc)], .dp [.int .i64 a2]] (fun y => y = E_Bool r) := by
  refine Go.VC.Spec.of_xc (args := [.d (.int .i64 a0), .dp [.sl (a1.map Task.enc)], .dp [.int .i64 a2]]) (fn := Tryz.f21) tab ⟨[(0, [0, 1, 2]), (1, [5]), (2, [4])], [], [], []⟩ 16 [.tmp 4] rfl rfl rfl rfl rfl rfl ?_
  conv => whnf
  refine caS (E := E_Bool_Int) h (verdict_Fits_w a1 ⟨a2, a0⟩) rfl (fun _ => rfl) (fun x1 h => ?_)
  conv => whnf
  exact rt (E := E_Bool) h rfl

end Go.Proofs.YtpephpefjddgcaaGreat
namespace Go.Proofs.YtpephpefjddgcaaGreat
open Go Go.VC
noncomputable def face_least_int (a0 : Int) (a1 : Int) (a2 : List Task) (a3 : Int) : Option (Int × Bool) :=
  bnd (face_Least_1 a1 a2 a3) fun x1 => fk (!x1) (some ((0 : Int), false)) (lp (fun nx2 (v2 : Int × Int) => fk (decide (v2.1 < v2.2)) (ck (decide ((2 : Int) ≠ 0)) (bnd (face_Least_1 (wr (v2.1 + (wr ((wr (v2.2 - v2.1)).tdiv (2 : Int))))) a2 a3) fun x3 => fk x3 (nx2 (v2.1, (wr (v2.1 + (wr ((wr (v2.2 - v2.1)).tdiv (2 : Int))))))) (nx2 ((wr ((wr (v2.1 + (wr ((wr (v2.2 - v2.1)).tdiv (2 : Int))))) + (1 : Int))), v2.2)))) (some (v2.2, true))) FU (a0, a1))
theorem face_least_int_w (a0 : Int) (a1 : Int) (a2 : List Task) (a3 : Int) (r : Int × Bool) (h : face_least_int a0 a1 a2 a3 = some r) : Go.VC.Spec Tryz.prog 20 [.d (.int .i64 a0), .d (.int .i64 a1), .d (.fn 21 [[.sl (a2.map Task.enc)], [.int .i64 a3]])] (fun y => y = E_Int_Bool r) := by
  refine Go.VC.Spec.of_xc (args := [.d (.int .i64 a0), .d (.int .i64 a1), .d (.fn 21 [[.sl (a2.map Task.enc)], [.int .i64 a3]])]) (fn := Tryz.f20) tab ⟨[(0, [0, 1, 2]), (1, [0, 1, 2, 12]), (2, [6, 7]), (3, [0, 1, 2, 15]), (4, [0, 1, 2, 8]), (5, [0, 1, 2, 8, 24]), (6, [0, 1, 2]), (7, [0, 1, 2]), (8, [6, 7])], [], [], []⟩ 29 [.tmp 6, .tmp 7] rfl rfl rfl rfl rfl rfl ?_
  conv => whnf
  refine caS (E := E_Bool) h (face_Least_1_w a1 a2 a3) rfl (fun _ => rfl) (fun x1 h => ?_)
  conv => whnf
  refine fkS h (fun h => ?_) (fun h => ?_)
  · conv => whnf
    exact rt (E := E_Int_Bool) h rfl
  conv => whnf
  refine lpS (fun v2 => ⟨[(0, .l (.d (.int .i64 v2.1))), (1, .l (.d (.int .i64 v2.2))), (2, .l (.d (.fn 21 [[.sl (a2.map Task.enc)], [.int .i64 a3]])))], 29, [], [], []⟩) h (Weak.trans (Weak.keepS _ [0, 1, 2]) (Weak.refl _)) (fun _ nx2 hn2 v2 h => ?_)
  conv => whnf
  refine fkS h (fun h => ?_) (fun h => ?_)
  · conv => whnf
    refine dvS h (fun h => ?_)
    conv => whnf
    refine caS (E := E_Bool) h (face_Least_1_w (wr (v2.1 + (wr ((wr (v2.2 - v2.1)).tdiv (2 : Int))))) a2 a3) rfl (fun _ => rfl) (fun x3 h => ?_)
    conv => whnf
    refine fkS h (fun h => ?_) (fun h => ?_)
    · conv => whnf
      exact leS hn2 h (Weak.refl _)
    conv => whnf
    exact leS hn2 h (Weak.refl _)
  conv => whnf
  exact rt (E := E_Int_Bool) h rfl

end Go.Proofs.YtpephpefjddgcaaGreat
namespace Go.Proofs.YtpephpefjddgcaaGreat
open Go Go.VC
noncomputable def face_Least (a0 : List Task) (a1 : Int) : Option (Face × Int) :=
  jn (fun (w1 : Bool) => fk w1 (some (⟨(0 : Int), (0 : Int)⟩, (1 : Int))) (bnd (verdict_Fits a0 ⟨a1, (1 : Int)⟩) fun x3 => fk (!decide (x3.2 = (0 : Int))) (some (⟨(0 : Int), (0 : Int)⟩, x3.2)) (bnd (face_least_int (1 : Int) a1 a0 a1) fun x4 => fk (!x4.2) (some (⟨(0 : Int), (0 : Int)⟩, (7 : Int))) (some (⟨a1, x4.1⟩, (0 : Int)))))) (fun k1 => bnd (task_All a0) fun x2 => fk (!x2) (k1 true) (fk (decide (a1 < (1 : Int))) (k1 true) (k1 (decide (a1 > (200 : Int))))))
theorem face_Least_w (a0 : List Task) (a1 : Int) (r : Face × Int) (h : face_Least a0 a1 = some r) : Go.VC.Spec Tryz.prog 8 [.d (.sl (a0.map Task.enc)), .d (.int .i64 a1)] (fun y => y = E_Face_Int r) := by
  refine Go.VC.Spec.of_xc (args := [.d (.sl (a0.map Task.enc)), .d (.int .i64 a1)]) (fn := Tryz.f8) tab ⟨[(0, [2, 3, 4]), (1, [2, 3, 4, 20]), (2, [4, 5]), (3, [2, 3, 4, 7]), (4, [2, 3, 4, 7, 30]), (5, [4, 5]), (6, [3, 4, 8, 9]), (7, [3, 4, 8, 40]), (8, [4, 5]), (9, [4, 5])], [], [100020], []⟩ 45 [.cell 4 24, .tmp 5] rfl rfl rfl rfl rfl rfl ?_
  conv => whnf
  refine jnS (fun w1 => ⟨[(2, .l (.ptr 3 0)), (3, .l (.ptr 4 0)), (4, .l (.ptr 5 0)), (20, .l (.d (.bool w1)))], 45, [], [(3, [.d (.sl (a0.map Task.enc))]), (4, [.d (.int .i64 a1)]), (5, [.d (.int .i64 (0 : Int)), .d (.int .i64 (0 : Int))])], []⟩) h (fun k1 hk1 h => ?_) (fun w1 h => ?_)
  · conv => whnf
    refine caS (E := E_Bool) h (task_All_w a0) rfl (fun _ => rfl) (fun x2 h => ?_)
    conv => whnf
    refine fkS h (fun h => ?_) (fun h => ?_)
    · conv => whnf
      exact jeS hk1 h (Weak.refl _)
    conv => whnf
    refine fkS h (fun h => ?_) (fun h => ?_)
    · conv => whnf
      exact jeS hk1 h (Weak.refl _)
    conv => whnf
    exact jeS hk1 h (Weak.refl _)
  conv => whnf
  refine fkS h (fun h => ?_) (fun h => ?_)
  · conv => whnf
    exact rt (E := E_Face_Int) h rfl
  conv => whnf
  refine caS (E := E_Bool_Int) h (verdict_Fits_w a0 ⟨a1, (1 : Int)⟩) rfl (fun _ => rfl) (fun x3 h => ?_)
  conv => whnf
  refine fkS h (fun h => ?_) (fun h => ?_)
  · conv => whnf
    exact rt (E := E_Face_Int) h rfl
  conv => whnf
  refine caS (E := E_Int_Bool) h (face_least_int_w (1 : Int) a1 a0 a1) rfl (fun _ => rfl) (fun x4 h => ?_)
  conv => whnf
  refine fkS h (fun h => ?_) (fun h => ?_)
  · conv => whnf
    exact rt (E := E_Face_Int) h rfl
  conv => whnf
  exact rt (E := E_Face_Int) h rfl

end Go.Proofs.YtpephpefjddgcaaGreat
namespace Go.Proofs.YtpephpefjddgcaaGreat
open Go Go.VC
noncomputable def ref09_Right (a0 : Face) : Option Bool :=
  fk (decide (a0.P ≥ (1 : Int))) (fk (decide (a0.P ≤ (200 : Int))) (fk (decide (a0.B ≥ (1 : Int))) (some (decide (a0.B ≤ a0.P))) (some false)) (some false)) (some false)
theorem ref09_Right_w (a0 : Face) (r : Bool) (h : ref09_Right a0 = some r) : Go.VC.Spec Tryz.prog 23 [.agg (Face.enc a0)] (fun y => y = E_Bool r) := by
  refine Go.VC.Spec.of_xc (args := [.agg (Face.enc a0)]) (fn := Tryz.f23) tab ⟨[(0, [1]), (1, [2])], [], [], []⟩ 23 [.tmp 2] rfl rfl rfl rfl rfl rfl ?_
  conv => whnf
  refine fkS h (fun h => ?_) (fun h => ?_)
  · conv => whnf
    refine fkS h (fun h => ?_) (fun h => ?_)
    · conv => whnf
      refine fkS h (fun h => ?_) (fun h => ?_)
      · conv => whnf
        exact rt (E := E_Bool) h rfl
      conv => whnf
      exact rt (E := E_Bool) h rfl
    conv => whnf
    exact rt (E := E_Bool) h rfl
  conv => whnf
  exact rt (E := E_Bool) h rfl

end Go.Proofs.YtpephpefjddgcaaGreat
namespace Go.Proofs.YtpephpefjddgcaaGreat
open Go Go.VC
noncomputable def ref12_Frame (a0 : List Face) : Option (Int × Int) :=
  fk (decide ((a0.length : Int) > (4 : Int))) (some ((0 : Int), (1 : Int))) (lp (fun nx1 (v1 : Int) => fk (decide (v1 < (a0.length : Int))) (ix a0 v1 fun x2 => bnd (ref09_Right x2) fun x3 => fk (!x3) (some ((0 : Int), (1 : Int))) (nx1 (wr (v1 + (1 : Int))))) (lp (fun nx4 (v4 : Int) => fk (decide (v4 ≤ (240 : Int))) (lp (fun nx5 (v5 : Bool × Int) => fk (decide (v5.2 < (a0.length : Int))) (jn (fun (w6 : Bool) => nx5 (w6, (wr (v5.2 + (1 : Int))))) (fun k6 => fk v5.1 (ix a0 v5.2 fun x7 => ck (decide (x7.P ≠ 0)) (k6 (decide ((v4.tmod x7.P) = (0 : Int))))) (k6 false))) (fk v5.1 (some (v4, (0 : Int))) (nx4 (wr (v4 + (1 : Int)))))) FU (true, (0 : Int))) (some ((0 : Int), (5 : Int)))) FU (1 : Int))) FU (0 : Int))
theorem ref12_Frame_w (a0 : List Face) (r : Int × Int) (h : ref12_Frame a0 = some r) : Go.VC.Spec Tryz.prog 13 [.d (.sl (a0.map Face.enc))] (fun y => y = E_Int_Int r) := by
  refine Go.VC.Spec.of_xc (args := [.d (.sl (a0.map Face.enc))]) (fn := Tryz.f13) tab ⟨[(0, [0]), (1, [0, 10]), (2, [2, 3]), (3, [0, 4]), (4, [0, 4, 14]), (5, [0, 4]), (6, [0, 4, 22]), (7, [2, 3]), (8, [0, 5]), (9, [0, 5, 24]), (10, [0, 5]), (11, [0, 5, 6]), (12, [0, 5, 6, 7]), (13, [0, 5, 6, 7, 30]), (14, [0, 5, 6, 7]), (15, [0, 5, 6, 7]), (16, [0, 5, 44]), (17, [2, 3]), (18, [2, 3])], [], [14], []⟩ 46 [.tmp 2, .tmp 3] rfl rfl rfl rfl rfl rfl ?_
  conv => whnf
  refine lenS a0 Face.enc rfl ?_
  conv => whnf
  refine fkS h (fun h => ?_) (fun h => ?_)
  · conv => whnf
    exact rt (E := E_Int_Int) h rfl
  conv => whnf
  refine lpS (fun v1 => ⟨[(0, .l (.d (.sl (a0.map Face.enc)))), (4, .l (.d (.int .i64 v1)))], 46, [], [], []⟩) h (Weak.refl _) (fun _ nx1 hn1 v1 h => ?_)
  conv => whnf
  refine lenS a0 Face.enc rfl ?_
  conv => whnf
  refine fkS h (fun h => ?_) (fun h => ?_)
  · conv => whnf
    refine ixS (enc := Face.enc) h rfl (fun _ => rfl) (fun x2 h => ?_)
    conv => whnf
    refine caS (E := E_Bool) h (ref09_Right_w x2) rfl (fun _ => rfl) (fun x3 h => ?_)
    conv => whnf
    refine fkS h (fun h => ?_) (fun h => ?_)
    · conv => whnf
      exact rt (E := E_Int_Int) h rfl
    conv => whnf
    exact leS hn1 h (Weak.refl _)
  conv => whnf
  refine lpS (fun v4 => ⟨[(0, .l (.d (.sl (a0.map Face.enc)))), (5, .l (.d (.int .i64 v4)))], 46, [], [], []⟩) h (Weak.refl _) (fun _ nx4 hn4 v4 h => ?_)
  conv => whnf
  refine fkS h (fun h => ?_) (fun h => ?_)
  · conv => whnf
    refine lpS (fun v5 => ⟨[(0, .l (.d (.sl (a0.map Face.enc)))), (5, .l (.d (.int .i64 v4))), (6, .l (.d (.bool v5.1))), (7, .l (.d (.int .i64 v5.2)))], 46, [], [], []⟩) h (Weak.refl _) (fun _ nx5 hn5 v5 h => ?_)
    conv => whnf
    refine lenS a0 Face.enc rfl ?_
    conv => whnf
    refine fkS h (fun h => ?_) (fun h => ?_)
    · conv => whnf
      refine jnS (fun w6 => ⟨[(0, .l (.d (.sl (a0.map Face.enc)))), (5, .l (.d (.int .i64 v4))), (6, .l (.d (.bool w6))), (7, .l (.d (.int .i64 v5.2)))], 46, [], [], []⟩) h (fun k6 hk6 h => ?_) (fun w6 h => ?_)
      · conv => whnf
        refine fkS h (fun h => ?_) (fun h => ?_)
        · conv => whnf
          refine ixS (enc := Face.enc) h rfl (fun _ => rfl) (fun x7 h => ?_)
          conv => whnf
          refine dvS h (fun h => ?_)
          conv => whnf
          exact jeS hk6 h (Weak.refl _)
        conv => whnf
        exact jeS hk6 h (Weak.refl _)
      conv => whnf
      exact leS hn5 h (Weak.refl _)
    conv => whnf
    refine fkS h (fun h => ?_) (fun h => ?_)
    · conv => whnf
      exact rt (E := E_Int_Int) h rfl
    conv => whnf
    exact leS hn4 h (Weak.refl _)
  conv => whnf
  exact rt (E := E_Int_Int) h rfl

end Go.Proofs.YtpephpefjddgcaaGreat
namespace Go.Proofs.YtpephpefjddgcaaGreat
open Go Go.VC
noncomputable def synth_Frame (a0 : List Face) : Option (Int × Int) :=
  fk (decide ((a0.length : Int) > (4 : Int))) (some ((0 : Int), (1 : Int))) (lp (fun nx1 (v1 : Int) => fk (decide (v1 < (a0.length : Int))) (ix a0 v1 fun x2 => bnd (supply_Right x2) fun x3 => fk (!x3) (some ((0 : Int), (1 : Int))) (nx1 (wr (v1 + (1 : Int))))) (lp (fun nx4 (v4 : Int × Int) => fk (decide (v4.2 < (a0.length : Int))) (ix a0 v4.2 fun x5 => bnd (arith_Lcm v4.1 x5.P) fun x6 => jn (fun (w7 : Bool) => fk w7 (some ((0 : Int), (5 : Int))) (nx4 (x6.1, (wr (v4.2 + (1 : Int)))))) (fun k7 => fk (!decide (x6.2 = (0 : Int))) (k7 true) (k7 (decide (x6.1 > (240 : Int)))))) (some (v4.1, (0 : Int)))) FU ((1 : Int), (0 : Int)))) FU (0 : Int))
theorem synth_Frame_w (a0 : List Face) (r : Int × Int) (h : synth_Frame a0 = some r) : Go.VC.Spec Tryz.prog 39 [.d (.sl (a0.map Face.enc))] (fun y => y = E_Int_Int r) := by
  refine Go.VC.Spec.of_xc (args := [.d (.sl (a0.map Face.enc))]) (fn := Tryz.f39) tab ⟨[(0, [0]), (1, [0, 13]), (2, [2, 3]), (3, [0, 14, 15, 16]), (4, [0, 14, 15, 16, 17]), (5, [0, 5, 14, 15, 16]), (6, [0, 14, 15, 16, 22]), (7, [2, 3]), (8, [0, 14, 15, 16]), (9, [0, 6]), (10, [6, 24, 25, 26]), (11, [6, 24, 25, 26, 27]), (12, [6, 8, 24, 25, 26]), (13, [9, 10, 24, 25, 26]), (14, [9, 24, 25, 26, 42]), (15, [2, 3]), (16, [6, 24, 25, 26]), (17, [6, 24, 25, 26]), (18, [2, 3])], [], [100042], []⟩ 46 [.tmp 2, .tmp 3] rfl rfl rfl rfl rfl rfl ?_
  conv => whnf
  refine lenS a0 Face.enc rfl ?_
  conv => whnf
  refine fkS h (fun h => ?_) (fun h => ?_)
  · conv => whnf
    exact rt (E := E_Int_Int) h rfl
  conv => whnf
  refine lenS a0 Face.enc rfl ?_
  conv => whnf
  refine lpS (fun v1 => ⟨[(0, .l (.d (.sl (a0.map Face.enc)))), (14, .l (.d (.sl (a0.map Face.enc)))), (15, .l (.d (.int .i64 (a0.length : Int)))), (16, .l (.d (.int .i64 v1)))], 46, [], [], []⟩) h (Weak.refl _) (fun _ nx1 hn1 v1 h => ?_)
  conv => whnf
  refine fkS h (fun h => ?_) (fun h => ?_)
  · conv => whnf
    refine ixS (enc := Face.enc) h rfl (fun _ => rfl) (fun x2 h => ?_)
    conv => whnf
    refine caS (E := E_Bool) h (supply_Right_w x2) rfl (fun _ => rfl) (fun x3 h => ?_)
    conv => whnf
    refine fkS h (fun h => ?_) (fun h => ?_)
    · conv => whnf
      exact rt (E := E_Int_Int) h rfl
    conv => whnf
    exact leS hn1 h (Weak.refl _)
  conv => whnf
  refine lenS a0 Face.enc rfl ?_
  conv => whnf
  refine lpS (fun v4 => ⟨[(6, .l (.d (.int .i64 v4.1))), (24, .l (.d (.sl (a0.map Face.enc)))), (25, .l (.d (.int .i64 (a0.length : Int)))), (26, .l (.d (.int .i64 v4.2)))], 46, [], [], []⟩) h (Weak.refl _) (fun _ nx4 hn4 v4 h => ?_)
  conv => whnf
  refine fkS h (fun h => ?_) (fun h => ?_)
  · conv => whnf
    refine ixS (enc := Face.enc) h rfl (fun _ => rfl) (fun x5 h => ?_)
    conv => whnf
    refine caS (E := E_Int_Int) h (arith_Lcm_w v4.1 x5.P) rfl (fun _ => rfl) (fun x6 h => ?_)
    conv => whnf
    refine jnS (fun w7 => ⟨[(9, .l (.d (.int .i64 x6.1))), (24, .l (.d (.sl (a0.map Face.enc)))), (25, .l (.d (.int .i64 (a0.length : Int)))), (26, .l (.d (.int .i64 v4.2))), (42, .l (.d (.bool w7)))], 46, [], [], []⟩) h (fun k7 hk7 h => ?_) (fun w7 h => ?_)
    · conv => whnf
      refine fkS h (fun h => ?_) (fun h => ?_)
      · conv => whnf
        exact jeS hk7 h (Weak.refl _)
      conv => whnf
      exact jeS hk7 h (Weak.refl _)
    conv => whnf
    refine fkS h (fun h => ?_) (fun h => ?_)
    · conv => whnf
      exact rt (E := E_Int_Int) h rfl
    conv => whnf
    exact leS hn4 h (Weak.refl _)
  conv => whnf
  exact rt (E := E_Int_Int) h rfl

end Go.Proofs.YtpephpefjddgcaaGreat
namespace Go.Proofs.YtpephpefjddgcaaGreat
open Go Go.VC
noncomputable def synth_Lay (a0 : List Face) : Option ((List Int) × Int) :=
  bnd (synth_Frame a0) fun x1 => fk (!decide (x1.2 = (0 : Int))) (some ([], x1.2)) (ck (decide ((0 : Int) ≤ (a0.length : Int)) && decide ((a0.length : Int) * ((8 : Nat) : Int) ≤ 140737488355328) && decide ((a0.length : Int) ≤ 1000000000000)) (lp (fun nx2 (v2 : (List Int) × (List Int) × Int) => fk (decide (v2.2.2 < x1.1)) (lp (fun nx3 (v3 : (List Int) × Int) => fk (decide (v3.2 < (a0.length : Int))) (jn (fun (w4 : List Int) => nx3 (w4, (wr (v3.2 + (1 : Int))))) (fun k4 => ix a0 v3.2 fun x5 => ck (decide (x5.P ≠ 0)) (fk (!decide ((v2.2.2.tmod x5.P) = (0 : Int))) (k4 v3.1) (ck (decide (0 ≤ v3.2) && decide (v3.2 < (v3.1.length : Int))) (ox v3.1 v3.2.toNat fun x6 => fk (decide (x6 > (0 : Int))) (some ([], (7 : Int))) (ck (decide (0 ≤ v3.2) && decide (v3.2 < (v3.1.length : Int))) (ox v3.1 v3.2.toNat fun x7 => k4 (v3.1.set v3.2.toNat x5.B)))))))) (lp (fun nx8 (v8 : Int × Int × Int) => fk (decide (v8.2.2 < (a0.length : Int))) (jn (fun (w9 : Int × Int) => nx8 (w9.1, w9.2, (wr (v8.2.2 + (1 : Int))))) (fun k9 => ix a0 v8.2.2 fun x10 => ck (decide (x10.P ≠ 0)) (jn (fun (w11 : Bool) => fk w11 (k9 (v8.2.2, (wr ((wr (v2.2.2 - (v2.2.2.tmod x10.P))) + x10.P)))) (k9 (v8.1, v8.2.1))) (fun k11 => ck (decide (0 ≤ v8.2.2) && decide (v8.2.2 < (v3.1.length : Int))) (ox v3.1 v8.2.2.toNat fun x12 => fk (decide (x12 > (0 : Int))) (fk (decide (v8.1 = (-1 : Int))) (k11 true) (k11 (decide ((wr ((wr (v2.2.2 - (v2.2.2.tmod x10.P))) + x10.P)) < v8.2.1)))) (k11 false)))))) (fk (!decide (v8.1 = (-1 : Int))) (ck (decide (0 ≤ v8.1) && decide (v8.1 < (v3.1.length : Int))) (ox v3.1 v8.1.toNat fun x13 => ck (decide (0 ≤ v8.1) && decide (v8.1 < (v3.1.length : Int))) (ox v3.1 v8.1.toNat fun x14 => ck (decide ((v2.1.length + ([v8.1] : List Int).length) * 8 ≤ 140737488355328)) (nx2 (v2.1 ++ ([v8.1] : List Int), v3.1.set v8.1.toNat (wr (x13 - (1 : Int))), (wr (v2.2.2 + (1 : Int)))))))) (ck (decide ((v2.1.length + ([v8.1] : List Int).length) * 8 ≤ 140737488355328)) (nx2 (v2.1 ++ ([v8.1] : List Int), v3.1, (wr (v2.2.2 + (1 : Int)))))))) FU ((-1 : Int), (0 : Int), (0 : Int)))) FU (v2.2.1, (0 : Int))) (lp (fun nx15 (v15 : (List Int) × Int) => fk (decide (v15.2 < (a0.length : Int))) (jn (fun (w16 : List Int) => nx15 (w16, (wr (v15.2 + (1 : Int))))) (fun k16 => ix a0 v15.2 fun x17 => ck (decide (x17.P ≠ 0)) (fk (!decide ((x1.1.tmod x17.P) = (0 : Int))) (k16 v15.1) (ck (decide (0 ≤ v15.2) && decide (v15.2 < (v15.1.length : Int))) (ox v15.1 v15.2.toNat fun x18 => fk (decide (x18 > (0 : Int))) (some ([], (7 : Int))) (ck (decide (0 ≤ v15.2) && decide (v15.2 < (v15.1.length : Int))) (ox v15.1 v15.2.toNat fun x19 => k16 (v15.1.set v15.2.toNat x17.B)))))))) (some (v2.1, (0 : Int)))) FU (v2.2.1, (0 : Int)))) FU ([], List.replicate (a0.length : Int).toNat ((0 : Int) : Int), (0 : Int))))
theorem synth_Lay_w (a0 : List Face) (r : (List Int) × Int) (h : synth_Lay a0 = some r) : Go.VC.Spec Tryz.prog 25 [.d (.sl (a0.map Face.enc))] (fun y => y = E_ListInt_Int r) := by
  refine Go.VC.Spec.of_xc (args := [.d (.sl (a0.map Face.enc))]) (fn := Tryz.f25) tab ⟨[(0, [0]), (1, [0, 4, 5]), (2, [0, 4, 5, 17]), (3, [2, 3]), (4, [4, 6]), (5, [4, 7, 8]), (6, [4, 7, 8, 9]), (7, [4, 7, 8, 9, 29, 30]), (8, [4, 7, 8, 9, 29, 30, 31]), (9, [4, 7, 8, 9, 10, 29, 30]), (10, [4, 7, 8, 9, 10, 29, 30, 36]), (11, [2, 3]), (12, [4, 7, 8, 9, 29, 30]), (13, [4, 7, 8, 9, 29, 30]), (14, [9, 47]), (15, [2, 3]), (16, [2, 3])], [], [], []⟩ 49 [.tmp 2, .tmp 3] rfl rfl rfl rfl rfl rfl ?_
  conv => whnf
  refine caS (E := E_Int_Int) h (synth_Frame_w a0) rfl (fun _ => rfl) (fun x1 h => ?_)
  conv => whnf
  refine fkS h (fun h => ?_) (fun h => ?_)
  · conv => whnf
    exact rt (E := E_ListInt_Int) h rfl
  conv => whnf
  refine lenS a0 Face.enc rfl ?_
  conv => whnf
  refine mkS ((0 : Int) : Int) (eI .i64) h rfl rfl (fun h => ?_)
  conv => whnf
  refine lpS (fun v2 => ⟨[(4, .l (.d (.int .i64 x1.1))), (7, .l (.mfn 40 25)), (8, .l (.mfn 41 25)), (9, .l (.own 10)), (29, .l (.d (.int .i64 x1.1))), (30, .l (.d (.int .i64 v2.2.2)))], 49, [], [(25, [.d (.sl (a0.map Face.enc)), .own 23])], [(10, 3, 1, v2.1.map (eI .i64)), (23, 3, 1, v2.2.1.map (eI .i64))]⟩) h (Weak.trans (Weak.nilO _ 9 10 3 1 rfl) (Weak.refl _)) (fun _ nx2 hn2 v2 h => ?_)
  conv => whnf
  refine fkS h (fun h => ?_) (fun h => ?_)
  · conv => whnf
    refine inS (fn := Tryz.f40) tab ⟨[(0, [0, 1]), (1, [0, 1, 10, 11, 12]), (2, [0, 1, 10, 11, 12, 13]), (3, [0, 1, 5, 6, 10, 11, 12]), (4, [0, 1, 5, 6, 10, 11, 12, 21]), (5, [0, 1, 5, 6, 10, 11, 12, 29]), (6, [4]), (7, [0, 1, 10, 11, 12]), (8, [0, 1, 10, 11, 12]), (9, [4])], [], [8], []⟩ 39 [.tmp 4] rfl rfl rfl rfl rfl rfl ?_
    conv => whnf
    refine lenS a0 Face.enc rfl ?_
    conv => whnf
    refine lpS (fun v3 => ⟨[(0, .l (.ptr 25 0)), (1, .l (.d (.int .i64 v2.2.2))), (10, .l (.d (.sl (a0.map Face.enc)))), (11, .l (.d (.int .i64 (a0.length : Int)))), (12, .l (.d (.int .i64 v3.2)))], 39, [⟨[(34, .l (.d (.int .i64 v2.2.2))), (33, .l (.mfn 40 25)), (4, .l (.d (.int .i64 x1.1))), (7, .l (.mfn 40 25)), (8, .l (.mfn 41 25)), (9, .l (.own 10)), (10, .l (.d (.int .i64 v2.2.2))), (29, .l (.d (.int .i64 x1.1))), (30, .l (.d (.int .i64 v2.2.2)))], 49⟩], [(25, [.d (.sl (a0.map Face.enc)), .own 23])], [(10, 3, 1, v2.1.map (eI .i64)), (23, 3, 1, v3.1.map (eI .i64))]⟩) h (Weak.refl _) (fun _ nx3 hn3 v3 h => ?_)
    conv => whnf
    refine fkS h (fun h => ?_) (fun h => ?_)
    · conv => whnf
      refine jnS (fun w4 => ⟨[(0, .l (.ptr 25 0)), (1, .l (.d (.int .i64 v2.2.2))), (10, .l (.d (.sl (a0.map Face.enc)))), (11, .l (.d (.int .i64 (a0.length : Int)))), (12, .l (.d (.int .i64 v3.2)))], 39, [⟨[(34, .l (.d (.int .i64 v2.2.2))), (33, .l (.mfn 40 25)), (4, .l (.d (.int .i64 x1.1))), (7, .l (.mfn 40 25)), (8, .l (.mfn 41 25)), (9, .l (.own 10)), (10, .l (.d (.int .i64 v2.2.2))), (29, .l (.d (.int .i64 x1.1))), (30, .l (.d (.int .i64 v2.2.2)))], 49⟩], [(25, [.d (.sl (a0.map Face.enc)), .own 23])], [(10, 3, 1, v2.1.map (eI .i64)), (23, 3, 1, w4.map (eI .i64))]⟩) h (fun k4 hk4 h => ?_) (fun w4 h => ?_)
      · conv => whnf
        refine ixS (enc := Face.enc) h rfl (fun _ => rfl) (fun x5 h => ?_)
        conv => whnf
        refine dvS h (fun h => ?_)
        conv => whnf
        refine fkS h (fun h => ?_) (fun h => ?_)
        · conv => whnf
          refine jeX hk4 h ?_
          conv => whnf
          refine WkF.step (Weak.keepS _ [0, 1, 10, 11, 12]) ?_
          conv => whnf
          exact WkF.refl _
        conv => whnf
        refine ioS (enc := (eI .i64)) h rfl (fun h => ?_)
        conv => whnf
        refine oxS (enc := (eI .i64)) h rfl (fun x6 h => ?_)
        conv => whnf
        refine fkS h (fun h => ?_) (fun h => ?_)
        · conv => whnf
          exact rt (E := E_ListInt_Int) h rfl
        conv => whnf
        refine ⟨7, ?_⟩
        conv => whnf
        refine drS (by kernel_rfl) ?_
        conv => whnf
        refine ioS (enc := (eI .i64)) h rfl (fun h => ?_)
        conv => whnf
        refine seS (enc := (eI .i64)) h rfl (fun x7 => x5.B) (fun _ => rfl) (fun x7 h => ?_)
        conv => whnf
        exact jeS hk4 h (Weak.refl _)
      conv => whnf
      exact leS hn3 h (Weak.refl _)
    conv => whnf
    refine inS (fn := Tryz.f41) tab ⟨[(0, [0, 1]), (1, [0, 1, 5, 6]), (2, [0, 1, 5, 6, 13, 14, 15]), (3, [0, 1, 5, 6, 13, 14, 15, 16]), (4, [0, 1, 5, 6, 7, 8, 13, 14, 15]), (5, [0, 1, 5, 6, 7, 9, 13, 14, 15]), (6, [0, 1, 5, 6, 7, 9, 13, 14, 15, 45]), (7, [0, 1, 5, 6, 13, 14, 15]), (8, [0, 1, 5, 6, 13, 14, 15]), (9, [0, 5, 50]), (10, [5]), (11, [4])], [], [100045, 8], []⟩ 61 [.tmp 4] rfl rfl rfl rfl rfl rfl ?_
    conv => whnf
    refine lenS a0 Face.enc rfl ?_
    conv => whnf
    refine lpS (fun v8 => ⟨[(0, .l (.ptr 25 0)), (1, .l (.d (.int .i64 v2.2.2))), (5, .l (.d (.int .i64 v8.1))), (6, .l (.d (.int .i64 v8.2.1))), (13, .l (.d (.sl (a0.map Face.enc)))), (14, .l (.d (.int .i64 (a0.length : Int)))), (15, .l (.d (.int .i64 v8.2.2)))], 61, [⟨[(39, .l (.d (.int .i64 v2.2.2))), (38, .l (.mfn 41 25)), (37, .l (.own 10)), (36, .l (.d (.bool false))), (4, .l (.d (.int .i64 x1.1))), (7, .l (.mfn 40 25)), (8, .l (.mfn 41 25)), (9, .l (.own 10)), (10, .l (.d (.int .i64 v2.2.2))), (29, .l (.d (.int .i64 x1.1))), (30, .l (.d (.int .i64 v2.2.2))), (36, .l (.d (.bool false)))], 49⟩], [(25, [.d (.sl (a0.map Face.enc)), .own 23])], [(10, 3, 1, v2.1.map (eI .i64)), (23, 3, 1, v3.1.map (eI .i64))]⟩) h (Weak.refl _) (fun _ nx8 hn8 v8 h => ?_)
    conv => whnf
    refine fkS h (fun h => ?_) (fun h => ?_)
    · conv => whnf
      refine jnS (fun w9 => ⟨[(0, .l (.ptr 25 0)), (1, .l (.d (.int .i64 v2.2.2))), (5, .l (.d (.int .i64 w9.1))), (6, .l (.d (.int .i64 w9.2))), (13, .l (.d (.sl (a0.map Face.enc)))), (14, .l (.d (.int .i64 (a0.length : Int)))), (15, .l (.d (.int .i64 v8.2.2)))], 61, [⟨[(39, .l (.d (.int .i64 v2.2.2))), (38, .l (.mfn 41 25)), (37, .l (.own 10)), (36, .l (.d (.bool false))), (4, .l (.d (.int .i64 x1.1))), (7, .l (.mfn 40 25)), (8, .l (.mfn 41 25)), (9, .l (.own 10)), (10, .l (.d (.int .i64 v2.2.2))), (29, .l (.d (.int .i64 x1.1))), (30, .l (.d (.int .i64 v2.2.2))), (36, .l (.d (.bool false)))], 49⟩], [(25, [.d (.sl (a0.map Face.enc)), .own 23])], [(10, 3, 1, v2.1.map (eI .i64)), (23, 3, 1, v3.1.map (eI .i64))]⟩) h (fun k9 hk9 h => ?_) (fun w9 h => ?_)
      · conv => whnf
        refine ixS (enc := Face.enc) h rfl (fun _ => rfl) (fun x10 h => ?_)
        conv => whnf
        refine ⟨8, ?_⟩
        conv => whnf
        refine dvS h (fun h => ?_)
        conv => whnf
        refine drS (by kernel_rfl) ?_
        conv => whnf
        refine jnS (fun w11 => ⟨[(0, .l (.ptr 25 0)), (1, .l (.d (.int .i64 v2.2.2))), (5, .l (.d (.int .i64 v8.1))), (6, .l (.d (.int .i64 v8.2.1))), (7, .l (.d (.int .i64 v8.2.2))), (9, .l (.d (.int .i64 (wr ((wr (v2.2.2 - (v2.2.2.tmod x10.P))) + x10.P))))), (13, .l (.d (.sl (a0.map Face.enc)))), (14, .l (.d (.int .i64 (a0.length : Int)))), (15, .l (.d (.int .i64 v8.2.2))), (45, .l (.d (.bool w11)))], 61, [⟨[(39, .l (.d (.int .i64 v2.2.2))), (38, .l (.mfn 41 25)), (37, .l (.own 10)), (36, .l (.d (.bool false))), (4, .l (.d (.int .i64 x1.1))), (7, .l (.mfn 40 25)), (8, .l (.mfn 41 25)), (9, .l (.own 10)), (10, .l (.d (.int .i64 v2.2.2))), (29, .l (.d (.int .i64 x1.1))), (30, .l (.d (.int .i64 v2.2.2))), (36, .l (.d (.bool false)))], 49⟩], [(25, [.d (.sl (a0.map Face.enc)), .own 23])], [(10, 3, 1, v2.1.map (eI .i64)), (23, 3, 1, v3.1.map (eI .i64))]⟩) h (fun k11 hk11 h => ?_) (fun w11 h => ?_)
        · conv => whnf
          refine ioS (enc := (eI .i64)) h rfl (fun h => ?_)
          conv => whnf
          refine oxS (enc := (eI .i64)) h rfl (fun x12 h => ?_)
          conv => whnf
          refine fkS h (fun h => ?_) (fun h => ?_)
          · conv => whnf
            refine fkS h (fun h => ?_) (fun h => ?_)
            · conv => whnf
              exact jeS hk11 h (Weak.refl _)
            conv => whnf
            exact jeS hk11 h (Weak.refl _)
          conv => whnf
          exact jeS hk11 h (Weak.refl _)
        conv => whnf
        refine fkS h (fun h => ?_) (fun h => ?_)
        · conv => whnf
          exact jeS hk9 h (Weak.refl _)
        conv => whnf
        refine jeX hk9 h ?_
        conv => whnf
        refine WkF.step (Weak.keepS _ [0, 1, 5, 6, 13, 14, 15]) ?_
        conv => whnf
        exact WkF.refl _
      conv => whnf
      exact leS hn8 h (Weak.refl _)
    conv => whnf
    refine fkS h (fun h => ?_) (fun h => ?_)
    · conv => whnf
      refine ioS (enc := (eI .i64)) h rfl (fun h => ?_)
      conv => whnf
      refine oxS (enc := (eI .i64)) h rfl (fun x13 h => ?_)
      conv => whnf
      refine ioS (enc := (eI .i64)) h rfl (fun h => ?_)
      conv => whnf
      refine seS (enc := (eI .i64)) h rfl (fun x14 => (wr (x13 - (1 : Int)))) (fun _ => rfl) (fun x14 h => ?_)
      conv => whnf
      refine liS ([v8.1] : List Int) (eI .i64) rfl rfl ?_
      conv => whnf
      refine apS (enc := (eI .i64)) (l1 := v2.1) (l2 := ([v8.1] : List Int)) h rfl rfl (fun _ => rfl) (fun h => ?_)
      conv => whnf
      exact leS hn2 h (Weak.refl _)
    conv => whnf
    refine liS ([v8.1] : List Int) (eI .i64) rfl rfl ?_
    conv => whnf
    refine apS (enc := (eI .i64)) (l1 := v2.1) (l2 := ([v8.1] : List Int)) h rfl rfl (fun _ => rfl) (fun h => ?_)
    conv => whnf
    exact leS hn2 h (Weak.refl _)
  conv => whnf
  refine inS (fn := Tryz.f40) tab ⟨[(0, [0, 1]), (1, [0, 1, 10, 11, 12]), (2, [0, 1, 10, 11, 12, 13]), (3, [0, 1, 5, 6, 10, 11, 12]), (4, [0, 1, 5, 6, 10, 11, 12, 21]), (5, [0, 1, 5, 6, 10, 11, 12, 29]), (6, [4]), (7, [0, 1, 10, 11, 12]), (8, [0, 1, 10, 11, 12]), (9, [4])], [], [8], []⟩ 39 [.tmp 4] rfl rfl rfl rfl rfl rfl ?_
  conv => whnf
  refine lenS a0 Face.enc rfl ?_
  conv => whnf
  refine lpS (fun v15 => ⟨[(0, .l (.ptr 25 0)), (1, .l (.d (.int .i64 x1.1))), (10, .l (.d (.sl (a0.map Face.enc)))), (11, .l (.d (.int .i64 (a0.length : Int)))), (12, .l (.d (.int .i64 v15.2)))], 39, [⟨[(45, .l (.d (.int .i64 x1.1))), (44, .l (.mfn 40 25)), (31, .l (.d (.bool false))), (4, .l (.d (.int .i64 x1.1))), (7, .l (.mfn 40 25)), (8, .l (.mfn 41 25)), (9, .l (.own 10)), (29, .l (.d (.int .i64 x1.1))), (30, .l (.d (.int .i64 v2.2.2))), (31, .l (.d (.bool (decide (v2.2.2 < x1.1)))))], 49⟩], [(25, [.d (.sl (a0.map Face.enc)), .own 23])], [(10, 3, 1, v2.1.map (eI .i64)), (23, 3, 1, v15.1.map (eI .i64))]⟩) h (Weak.refl _) (fun _ nx15 hn15 v15 h => ?_)
  conv => whnf
  refine fkS h (fun h => ?_) (fun h => ?_)
  · conv => whnf
    refine jnS (fun w16 => ⟨[(0, .l (.ptr 25 0)), (1, .l (.d (.int .i64 x1.1))), (10, .l (.d (.sl (a0.map Face.enc)))), (11, .l (.d (.int .i64 (a0.length : Int)))), (12, .l (.d (.int .i64 v15.2)))], 39, [⟨[(45, .l (.d (.int .i64 x1.1))), (44, .l (.mfn 40 25)), (31, .l (.d (.bool false))), (4, .l (.d (.int .i64 x1.1))), (7, .l (.mfn 40 25)), (8, .l (.mfn 41 25)), (9, .l (.own 10)), (29, .l (.d (.int .i64 x1.1))), (30, .l (.d (.int .i64 v2.2.2))), (31, .l (.d (.bool (decide (v2.2.2 < x1.1)))))], 49⟩], [(25, [.d (.sl (a0.map Face.enc)), .own 23])], [(10, 3, 1, v2.1.map (eI .i64)), (23, 3, 1, w16.map (eI .i64))]⟩) h (fun k16 hk16 h => ?_) (fun w16 h => ?_)
    · conv => whnf
      refine ixS (enc := Face.enc) h rfl (fun _ => rfl) (fun x17 h => ?_)
      conv => whnf
      refine dvS h (fun h => ?_)
      conv => whnf
      refine fkS h (fun h => ?_) (fun h => ?_)
      · conv => whnf
        refine jeX hk16 h ?_
        conv => whnf
        refine WkF.step (Weak.keepS _ [0, 1, 10, 11, 12]) ?_
        conv => whnf
        exact WkF.refl _
      conv => whnf
      refine ioS (enc := (eI .i64)) h rfl (fun h => ?_)
      conv => whnf
      refine oxS (enc := (eI .i64)) h rfl (fun x18 h => ?_)
      conv => whnf
      refine fkS h (fun h => ?_) (fun h => ?_)
      · conv => whnf
        exact rt (E := E_ListInt_Int) h rfl
      conv => whnf
      refine ⟨7, ?_⟩
      conv => whnf
      refine drS (by kernel_rfl) ?_
      conv => whnf
      refine ioS (enc := (eI .i64)) h rfl (fun h => ?_)
      conv => whnf
      refine seS (enc := (eI .i64)) h rfl (fun x19 => x17.B) (fun _ => rfl) (fun x19 h => ?_)
      conv => whnf
      exact jeS hk16 h (Weak.refl _)
    conv => whnf
    exact leS hn15 h (Weak.refl _)
  conv => whnf
  exact rt (E := E_ListInt_Int) h rfl

end Go.Proofs.YtpephpefjddgcaaGreat
namespace Go.Proofs.YtpephpefjddgcaaGreat
open Go Go.VC
noncomputable def table_may (a0 : Window) (a1 : Int) : Option Bool :=
  fk (decide (a0.Part ≥ (0 : Int))) (fk (decide (a0.Part < (4 : Int))) (fk (decide (a0.From ≥ (0 : Int))) (fk (decide (a0.From < a1)) (fk (decide (a0.Len ≥ (1 : Int))) (some (decide (a0.Len ≤ (wr (a1 - a0.From))))) (some false)) (some false)) (some false)) (some false)) (some false)
theorem table_may_w (a0 : Window) (a1 : Int) (r : Bool) (h : table_may a0 a1 = some r) : Go.VC.Spec Tryz.prog 65 [.agg (Window.enc a0), .d (.int .i64 a1)] (fun y => y = E_Bool r) := by
  refine Go.VC.Spec.of_xc (args := [.agg (Window.enc a0), .d (.int .i64 a1)]) (fn := Tryz.f65) tab ⟨[(0, [1, 2]), (1, [4])], [], [], []⟩ 38 [.tmp 4] rfl rfl rfl rfl rfl rfl ?_
  conv => whnf
  refine fkS h (fun h => ?_) (fun h => ?_)
  · conv => whnf
    refine fkS h (fun h => ?_) (fun h => ?_)
    · conv => whnf
      refine fkS h (fun h => ?_) (fun h => ?_)
      · conv => whnf
        refine fkS h (fun h => ?_) (fun h => ?_)
        · conv => whnf
          refine fkS h (fun h => ?_) (fun h => ?_)
          · conv => whnf
            exact rt (E := E_Bool) h rfl
          conv => whnf
          exact rt (E := E_Bool) h rfl
        conv => whnf
        exact rt (E := E_Bool) h rfl
      conv => whnf
      exact rt (E := E_Bool) h rfl
    conv => whnf
    exact rt (E := E_Bool) h rfl
  conv => whnf
  exact rt (E := E_Bool) h rfl

end Go.Proofs.YtpephpefjddgcaaGreat
namespace Go.Proofs.YtpephpefjddgcaaGreat
open Go Go.VC
noncomputable def table_Right (a0 : TableTable) : Option Bool :=
  lp (fun nx1 (v1 : Int × Int × Int) => fk (decide (v1.2.2 < (a0.Windows.length : Int))) (ix a0.Windows v1.2.2 fun x2 => jn (fun (w3 : Bool) => fk w3 (some false) (nx1 ((wr (x2.From + x2.Len)), x2.Part, (wr (v1.2.2 + (1 : Int)))))) (fun k3 => bnd (table_may x2 a0.Frame) fun x4 => fk (!x4) (k3 true) (fk (decide (x2.From < v1.1)) (k3 true) (fk (decide (x2.From = v1.1)) (k3 (decide (x2.Part = v1.2.1))) (k3 false))))) (fk (decide (a0.Frame ≥ (1 : Int))) (some (decide (a0.Frame ≤ (240 : Int)))) (some false))) FU ((0 : Int), (-1 : Int), (0 : Int))
theorem table_Right_w (a0 : TableTable) (r : Bool) (h : table_Right a0 = some r) : Go.VC.Spec Tryz.prog 43 [.agg (TableTable.enc a0)] (fun y => y = E_Bool r) := by
  refine Go.VC.Spec.of_xc (args := [.agg (TableTable.enc a0)]) (fn := Tryz.f43) tab ⟨[(0, [1]), (1, [1, 3, 4]), (2, [1, 3, 4, 8, 9, 10]), (3, [1, 3, 4, 8, 9, 10, 11]), (4, [1, 3, 4, 6, 8, 9, 10]), (5, [1, 6, 8, 9, 10, 36]), (6, [2]), (7, [1, 3, 4, 8, 9, 10]), (8, [1, 3, 4, 8, 9, 10]), (9, [2])], [], [100036], []⟩ 53 [.tmp 2] rfl rfl rfl rfl rfl rfl ?_
  conv => whnf
  refine lenS a0.Windows Window.enc rfl ?_
  conv => whnf
  refine lpS (fun v1 => ⟨[(1, .l (.ptr 2 0)), (3, .l (.d (.int .i64 v1.1))), (4, .l (.d (.int .i64 v1.2.1))), (8, .l (.d (.sl (a0.Windows.map Window.enc)))), (9, .l (.d (.int .i64 (a0.Windows.length : Int)))), (10, .l (.d (.int .i64 v1.2.2)))], 53, [], [(2, [.d (.int .i64 a0.Frame), .d (.sl (a0.Windows.map Window.enc))])], []⟩) h (Weak.refl _) (fun _ nx1 hn1 v1 h => ?_)
  conv => whnf
  refine fkS h (fun h => ?_) (fun h => ?_)
  · conv => whnf
    refine ixS (enc := Window.enc) h rfl (fun _ => rfl) (fun x2 h => ?_)
    conv => whnf
    refine jnS (fun w3 => ⟨[(1, .l (.ptr 2 0)), (6, .l (.ptr 7 0)), (8, .l (.d (.sl (a0.Windows.map Window.enc)))), (9, .l (.d (.int .i64 (a0.Windows.length : Int)))), (10, .l (.d (.int .i64 v1.2.2))), (36, .l (.d (.bool w3)))], 53, [], [(2, [.d (.int .i64 a0.Frame), .d (.sl (a0.Windows.map Window.enc))]), (7, [.d (.int .i64 x2.Part), .d (.int .i64 x2.From), .d (.int .i64 x2.Len)])], []⟩) h (fun k3 hk3 h => ?_) (fun w3 h => ?_)
    · conv => whnf
      refine caS (E := E_Bool) h (table_may_w x2 a0.Frame) rfl (fun _ => rfl) (fun x4 h => ?_)
      conv => whnf
      refine fkS h (fun h => ?_) (fun h => ?_)
      · conv => whnf
        exact jeS hk3 h (Weak.refl _)
      conv => whnf
      refine fkS h (fun h => ?_) (fun h => ?_)
      · conv => whnf
        exact jeS hk3 h (Weak.refl _)
      conv => whnf
      refine fkS h (fun h => ?_) (fun h => ?_)
      · conv => whnf
        exact jeS hk3 h (Weak.refl _)
      conv => whnf
      exact jeS hk3 h (Weak.refl _)
    conv => whnf
    refine fkS h (fun h => ?_) (fun h => ?_)
    · conv => whnf
      exact rt (E := E_Bool) h rfl
    conv => whnf
    refine ⟨8, ?_⟩
    conv => whnf
    refine drS (by kernel_rfl) ?_
    conv => whnf
    exact leS hn1 h (Weak.refl _)
  conv => whnf
  refine fkS h (fun h => ?_) (fun h => ?_)
  · conv => whnf
    exact rt (E := E_Bool) h rfl
  conv => whnf
  exact rt (E := E_Bool) h rfl

end Go.Proofs.YtpephpefjddgcaaGreat
namespace Go.Proofs.YtpephpefjddgcaaGreat
open Go Go.VC
noncomputable def table_At (a0 : TableTable) (a1 : Int) : Option Int :=
  jn (fun (w1 : Bool) => fk w1 (some (-1 : Int)) (ck (decide (a0.Frame ≠ 0)) (lp (fun nx3 (v3 : Int) => fk (decide (v3 < (a0.Windows.length : Int))) (ix a0.Windows v3 fun x4 => jn (fun (w5 : Bool) => fk w5 (some x4.Part) (nx3 (wr (v3 + (1 : Int))))) (fun k5 => fk (decide ((a1.tmod a0.Frame) ≥ x4.From)) (k5 (decide ((a1.tmod a0.Frame) < (wr (x4.From + x4.Len))))) (k5 false))) (some (-1 : Int))) FU (0 : Int)))) (fun k1 => bnd (table_Right a0) fun x2 => fk (!x2) (k1 true) (k1 (decide (a1 < (0 : Int)))))
theorem table_At_w (a0 : TableTable) (a1 : Int) (r : Int) (h : table_At a0 a1 = some r) : Go.VC.Spec Tryz.prog 55 [.agg (TableTable.enc a0), .d (.int .i64 a1)] (fun y => y = E_Int r) := by
  refine Go.VC.Spec.of_xc (args := [.agg (TableTable.enc a0), .d (.int .i64 a1)]) (fn := Tryz.f55) tab ⟨[(0, [1, 2]), (1, [1, 2, 13]), (2, [4]), (3, [1, 2]), (4, [1, 19, 20, 21]), (5, [1, 19, 20, 21, 22]), (6, [1, 6, 19, 20, 21]), (7, [1, 6, 19, 20, 21, 37]), (8, [4]), (9, [1, 19, 20, 21]), (10, [4])], [], [100013, 100037], []⟩ 41 [.tmp 4] rfl rfl rfl rfl rfl rfl ?_
  conv => whnf
  refine jnS (fun w1 => ⟨[(1, .l (.d (.int .i64 a1))), (2, .l (.ptr 3 0)), (13, .l (.d (.bool w1)))], 41, [], [(3, [.d (.int .i64 a0.Frame), .d (.sl (a0.Windows.map Window.enc))])], []⟩) h (fun k1 hk1 h => ?_) (fun w1 h => ?_)
  · conv => whnf
    refine caS (E := E_Bool) h (table_Right_w a0) rfl (fun _ => rfl) (fun x2 h => ?_)
    conv => whnf
    refine fkS h (fun h => ?_) (fun h => ?_)
    · conv => whnf
      exact jeS hk1 h (Weak.refl _)
    conv => whnf
    exact jeS hk1 h (Weak.refl _)
  conv => whnf
  refine fkS h (fun h => ?_) (fun h => ?_)
  · conv => whnf
    exact rt (E := E_Int) h rfl
  conv => whnf
  refine dvS h (fun h => ?_)
  conv => whnf
  refine lenS a0.Windows Window.enc rfl ?_
  conv => whnf
  refine lpS (fun v3 => ⟨[(1, .l (.d (.int .i64 (a1.tmod a0.Frame)))), (19, .l (.d (.sl (a0.Windows.map Window.enc)))), (20, .l (.d (.int .i64 (a0.Windows.length : Int)))), (21, .l (.d (.int .i64 v3)))], 41, [], [], []⟩) h (Weak.refl _) (fun _ nx3 hn3 v3 h => ?_)
  conv => whnf
  refine fkS h (fun h => ?_) (fun h => ?_)
  · conv => whnf
    refine ixS (enc := Window.enc) h rfl (fun _ => rfl) (fun x4 h => ?_)
    conv => whnf
    refine jnS (fun w5 => ⟨[(1, .l (.d (.int .i64 (a1.tmod a0.Frame)))), (6, .l (.ptr 7 0)), (19, .l (.d (.sl (a0.Windows.map Window.enc)))), (20, .l (.d (.int .i64 (a0.Windows.length : Int)))), (21, .l (.d (.int .i64 v3))), (37, .l (.d (.bool w5)))], 41, [], [(7, [.d (.int .i64 x4.Part), .d (.int .i64 x4.From), .d (.int .i64 x4.Len)])], []⟩) h (fun k5 hk5 h => ?_) (fun w5 h => ?_)
    · conv => whnf
      refine fkS h (fun h => ?_) (fun h => ?_)
      · conv => whnf
        exact jeS hk5 h (Weak.refl _)
      conv => whnf
      exact jeS hk5 h (Weak.refl _)
    conv => whnf
    refine fkS h (fun h => ?_) (fun h => ?_)
    · conv => whnf
      exact rt (E := E_Int) h rfl
    conv => whnf
    exact leS hn3 h (Weak.refl _)
  conv => whnf
  exact rt (E := E_Int) h rfl

end Go.Proofs.YtpephpefjddgcaaGreat
namespace Go.Proofs.YtpephpefjddgcaaGreat
open Go Go.VC
noncomputable def table_Of (a0 : List Int) : Option (TableTable × Int) :=
  jn (fun (w1 : Bool) => fk w1 (some (⟨(0 : Int), []⟩, (1 : Int))) (lp (fun nx2 (v2 : Int × (List Window) × Int) => fk (decide (v2.2.2 < (a0.length : Int))) (ix a0 v2.2.2 fun x3 => jn (fun (w4 : Bool) => fk w4 (some (⟨(0 : Int), []⟩, (1 : Int))) (jn (fun (w5 : List Window) => nx2 (x3, w5, (wr (v2.2.2 + (1 : Int))))) (fun k5 => jn (fun (w6 : Bool) => fk w6 (ck (decide (0 ≤ (wr ((v2.2.1.length : Int) - (1 : Int)))) && decide ((wr ((v2.2.1.length : Int) - (1 : Int))) < (v2.2.1.length : Int))) (ox v2.2.1 ((wr ((v2.2.1.length : Int) - (1 : Int))).toNat) fun x7 => ck (decide (0 ≤ (wr ((v2.2.1.length : Int) - (1 : Int)))) && decide ((wr ((v2.2.1.length : Int) - (1 : Int))) < (v2.2.1.length : Int))) (ox v2.2.1 ((wr ((v2.2.1.length : Int) - (1 : Int))).toNat) fun x8 => k5 (v2.2.1.set ((wr ((v2.2.1.length : Int) - (1 : Int))).toNat) ⟨x8.Part, x8.From, (wr (x7.Len + (1 : Int)))⟩)))) (fk (!decide (x3 = (-1 : Int))) (ck (decide ((v2.2.1.length + ([⟨x3, v2.2.2, (1 : Int)⟩] : List Window).length) * 24 ≤ 140737488355328)) (k5 (v2.2.1 ++ ([⟨x3, v2.2.2, (1 : Int)⟩] : List Window)))) (k5 v2.2.1))) (fun k6 => fk (decide (x3 = v2.1)) (k6 (!decide (x3 = (-1 : Int)))) (k6 false))))) (fun k4 => fk (decide (x3 < (-1 : Int))) (k4 true) (k4 (decide (x3 ≥ (4 : Int)))))) (some (⟨(a0.length : Int), v2.2.1⟩, (0 : Int)))) FU ((-1 : Int), [], (0 : Int)))) (fun k1 => fk (decide ((a0.length : Int) = (0 : Int))) (k1 true) (k1 (decide ((a0.length : Int) > (240 : Int)))))
theorem table_Of_w (a0 : List Int) (r : TableTable × Int) (h : table_Of a0 = some r) : Go.VC.Spec Tryz.prog 26 [.d (.sl (a0.map (eI .i64)))] (fun y => y = E_TableTable_Int r) := by
  refine Go.VC.Spec.of_xc (args := [.d (.sl (a0.map (eI .i64)))]) (fn := Tryz.f26) tab ⟨[(0, [0, 2]), (1, [0, 2, 16]), (2, [2, 3]), (3, [0, 2, 4]), (4, [0, 2, 4, 5]), (5, [0, 2, 4, 6]), (6, [2, 4, 6, 22, 23, 24]), (7, [2, 4, 6, 22, 23, 24, 25]), (8, [2, 4, 6, 7, 8, 22, 23, 24]), (9, [2, 4, 6, 7, 8, 22, 23, 24, 34]), (10, [2, 3]), (11, [2, 4, 6, 22, 23, 24]), (12, [2, 4, 6, 22, 23, 24]), (13, [2, 3])], [], [100016, 100034], []⟩ 42 [.cell 2 43, .tmp 3] rfl rfl rfl rfl rfl rfl ?_
  conv => whnf
  refine jnS (fun w1 => ⟨[(0, .l (.d (.sl (a0.map (eI .i64))))), (2, .l (.ptr 3 0)), (16, .l (.d (.bool w1)))], 42, [], [(3, [.d (.int .i64 (0 : Int)), .nil])], []⟩) h (fun k1 hk1 h => ?_) (fun w1 h => ?_)
  · conv => whnf
    refine lenS a0 (eI .i64) rfl ?_
    conv => whnf
    refine fkS h (fun h => ?_) (fun h => ?_)
    · conv => whnf
      exact jeS hk1 h (Weak.refl _)
    conv => whnf
    refine lenS a0 (eI .i64) rfl ?_
    conv => whnf
    exact jeS hk1 h (Weak.refl _)
  conv => whnf
  refine fkS h (fun h => ?_) (fun h => ?_)
  · conv => whnf
    exact rt (E := E_TableTable_Int) h rfl
  conv => whnf
  refine lenS a0 (eI .i64) rfl ?_
  conv => whnf
  refine lenS a0 (eI .i64) rfl ?_
  conv => whnf
  refine lpS (fun v2 => ⟨[(2, .l (.ptr 3 0)), (4, .l (.ptr 5 0)), (6, .l (.func 42 [.k 6, .k 5])), (22, .l (.d (.sl (a0.map (eI .i64))))), (23, .l (.d (.int .i64 (a0.length : Int)))), (24, .l (.d (.int .i64 v2.2.2)))], 42, [], [(3, [.d (.int .i64 (0 : Int)), .nil]), (5, [.d (.int .i64 (a0.length : Int)), .own 50501]), (6, [.d (.int .i64 v2.1)])], [(50501, 112, 3, v2.2.1.map Window.enc)]⟩) h (Weak.trans (Weak.nilBO _ 5 1 50501 112 3 _ rfl rfl) (Weak.refl _)) (fun _ nx2 hn2 v2 h => ?_)
  conv => whnf
  refine fkS h (fun h => ?_) (fun h => ?_)
  · conv => whnf
    refine ixS (enc := (eI .i64)) h rfl (fun _ => rfl) (fun x3 h => ?_)
    conv => whnf
    refine jnS (fun w4 => ⟨[(2, .l (.ptr 3 0)), (4, .l (.ptr 5 0)), (6, .l (.func 42 [.k 6, .k 5])), (7, .l (.d (.int .i64 v2.2.2))), (8, .l (.d (.int .i64 x3))), (22, .l (.d (.sl (a0.map (eI .i64))))), (23, .l (.d (.int .i64 (a0.length : Int)))), (24, .l (.d (.int .i64 v2.2.2))), (34, .l (.d (.bool w4)))], 42, [], [(3, [.d (.int .i64 (0 : Int)), .nil]), (5, [.d (.int .i64 (a0.length : Int)), .own 50501]), (6, [.d (.int .i64 v2.1)])], [(50501, 112, 3, v2.2.1.map Window.enc)]⟩) h (fun k4 hk4 h => ?_) (fun w4 h => ?_)
    · conv => whnf
      refine fkS h (fun h => ?_) (fun h => ?_)
      · conv => whnf
        exact jeS hk4 h (Weak.refl _)
      conv => whnf
      exact jeS hk4 h (Weak.refl _)
    conv => whnf
    refine fkS h (fun h => ?_) (fun h => ?_)
    · conv => whnf
      exact rt (E := E_TableTable_Int) h rfl
    conv => whnf
    refine inS (fn := Tryz.f42) tab ⟨[(0, [0, 1, 2, 3, 12]), (1, [1, 2]), (2, [0, 1, 2, 3, 26]), (3, [1, 2]), (4, [])], [], [100012, 4], []⟩ 36 [] rfl rfl rfl rfl rfl rfl ?_
    conv => whnf
    refine jnS (fun w5 => ⟨[(1, .l (.d (.int .i64 x3))), (2, .l (.ptr 6 0))], 36, [⟨[(38, .l (.d (.int .i64 x3))), (37, .l (.d (.int .i64 v2.2.2))), (36, .l (.func 42 [.k 6, .k 5])), (34, .l (.d (.bool false))), (2, .l (.ptr 3 0)), (4, .l (.ptr 5 0)), (6, .l (.func 42 [.k 6, .k 5])), (7, .l (.d (.int .i64 v2.2.2))), (8, .l (.d (.int .i64 x3))), (22, .l (.d (.sl (a0.map (eI .i64))))), (23, .l (.d (.int .i64 (a0.length : Int)))), (24, .l (.d (.int .i64 v2.2.2))), (34, .l (.d (.bool w4)))], 42⟩], [(3, [.d (.int .i64 (0 : Int)), .nil]), (5, [.d (.int .i64 (a0.length : Int)), .own 50501]), (6, [.d (.int .i64 v2.1)])], [(50501, 112, 3, w5.map Window.enc)]⟩) h (fun k5 hk5 h => ?_) (fun w5 h => ?_)
    · conv => whnf
      refine jnS (fun w6 => ⟨[(0, .l (.d (.int .i64 v2.2.2))), (1, .l (.d (.int .i64 x3))), (2, .l (.ptr 6 0)), (3, .l (.ptr 5 0)), (12, .l (.d (.bool w6)))], 36, [⟨[(38, .l (.d (.int .i64 x3))), (37, .l (.d (.int .i64 v2.2.2))), (36, .l (.func 42 [.k 6, .k 5])), (34, .l (.d (.bool false))), (2, .l (.ptr 3 0)), (4, .l (.ptr 5 0)), (6, .l (.func 42 [.k 6, .k 5])), (7, .l (.d (.int .i64 v2.2.2))), (8, .l (.d (.int .i64 x3))), (22, .l (.d (.sl (a0.map (eI .i64))))), (23, .l (.d (.int .i64 (a0.length : Int)))), (24, .l (.d (.int .i64 v2.2.2))), (34, .l (.d (.bool w4)))], 42⟩], [(3, [.d (.int .i64 (0 : Int)), .nil]), (5, [.d (.int .i64 (a0.length : Int)), .own 50501]), (6, [.d (.int .i64 v2.1)])], [(50501, 112, 3, v2.2.1.map Window.enc)]⟩) h (fun k6 hk6 h => ?_) (fun w6 h => ?_)
      · conv => whnf
        refine fkS h (fun h => ?_) (fun h => ?_)
        · conv => whnf
          exact jeS hk6 h (Weak.refl _)
        conv => whnf
        exact jeS hk6 h (Weak.refl _)
      conv => whnf
      refine fkS h (fun h => ?_) (fun h => ?_)
      · conv => whnf
        refine lenS v2.2.1 Window.enc rfl ?_
        conv => whnf
        refine ioS (enc := Window.enc) h rfl (fun h => ?_)
        conv => whnf
        refine oxS (enc := Window.enc) h rfl (fun x7 h => ?_)
        conv => whnf
        refine ioS (enc := Window.enc) h rfl (fun h => ?_)
        conv => whnf
        refine seS (enc := Window.enc) h rfl (fun x8 => ⟨x8.Part, x8.From, (wr (x7.Len + (1 : Int)))⟩) (fun _ => rfl) (fun x8 h => ?_)
        conv => whnf
        exact jeS hk5 h (Weak.refl _)
      conv => whnf
      refine fkS h (fun h => ?_) (fun h => ?_)
      · conv => whnf
        refine liS ([⟨x3, v2.2.2, (1 : Int)⟩] : List Window) Window.enc rfl rfl ?_
        conv => whnf
        refine apS (enc := Window.enc) (l1 := v2.2.1) (l2 := ([⟨x3, v2.2.2, (1 : Int)⟩] : List Window)) h rfl rfl (fun _ => rfl) (fun h => ?_)
        conv => whnf
        refine jeX hk5 h ?_
        conv => whnf
        refine WkF.step (Weak.rekey _ 1034 50501 rfl) ?_
        conv => whnf
        exact WkF.refl _
      conv => whnf
      refine jeX hk5 h ?_
      conv => whnf
      refine WkF.step (Weak.keepS _ [1, 2]) ?_
      conv => whnf
      exact WkF.refl _
    conv => whnf
    exact leS hn2 h (Weak.refl _)
  conv => whnf
  exact rt (E := E_TableTable_Int) h rfl

end Go.Proofs.YtpephpefjddgcaaGreat
namespace Go.Proofs.YtpephpefjddgcaaGreat
open Go Go.VC
noncomputable def demand_Legal (a0 : List Task) (a1 : List (List Int)) : Option Bool :=
  jn (fun (w1 : Bool) => fk w1 (some false) (lp (fun nx3 (v3 : Int) => fk (decide (v3 < (a1.length : Int))) (ix a1 v3 fun x4 => fk (decide ((x4.length : Int) > (1000 : Int))) (some false) (lp (fun nx5 (v5 : Int) => fk (decide (v5 < (x4.length : Int))) (ix x4 v5 fun x6 => jn (fun (w7 : Bool) => fk w7 (some false) (nx5 (wr (v5 + (1 : Int))))) (fun k7 => fk (decide (x6 < (0 : Int))) (k7 true) (fk (decide (x6 > (4611686018427387903 : Int))) (k7 true) (fk (decide (v5 > (0 : Int))) (ix x4 (wr (v5 - (1 : Int))) fun x8 => ix a0 v3 fun x9 => k7 (decide ((wr (x6 - x8)) < x9.T))) (k7 false))))) (nx3 (wr (v3 + (1 : Int))))) FU (0 : Int))) (some true)) FU (0 : Int))) (fun k1 => bnd (task_All a0) fun x2 => fk (!x2) (k1 true) (k1 (!decide ((a1.length : Int) = (a0.length : Int)))))
theorem demand_Legal_w (a0 : List Task) (a1 : List (List Int)) (r : Bool) (h : demand_Legal a0 a1 = some r) : Go.VC.Spec Tryz.prog 24 [.d (.sl (a0.map Task.enc)), .d (.sl (a1.map (eL (eI .i64))))] (fun y => y = E_Bool r) := by
  refine Go.VC.Spec.of_xc (args := [.d (.sl (a0.map Task.enc)), .d (.sl (a1.map (eL (eI .i64))))]) (fn := Tryz.f24) tab ⟨[(0, [0, 1]), (1, [0, 1, 18]), (2, [4]), (3, [0, 19, 20, 21]), (4, [0, 19, 20, 21, 22]), (5, [0, 5, 6, 19, 20, 21]), (6, [0, 5, 6, 19, 20, 21, 28]), (7, [4]), (8, [0, 5, 6, 19, 20, 21, 29, 30, 31]), (9, [0, 5, 6, 19, 20, 21, 29, 30, 31, 32]), (10, [0, 5, 6, 7, 8, 19, 20, 21, 29, 30, 31]), (11, [0, 5, 6, 19, 20, 21, 29, 30, 31, 60]), (12, [4]), (13, [0, 5, 6, 19, 20, 21, 29, 30, 31]), (14, [0, 19, 20, 21]), (15, [4])], [], [100018, 100060], []⟩ 63 [.tmp 4] rfl rfl rfl rfl rfl rfl ?_
  conv => whnf
  refine jnS (fun w1 => ⟨[(0, .l (.d (.sl (a0.map Task.enc)))), (1, .l (.d (.sl (a1.map (eL (eI .i64)))))), (18, .l (.d (.bool w1)))], 63, [], [], []⟩) h (fun k1 hk1 h => ?_) (fun w1 h => ?_)
  · conv => whnf
    refine caS (E := E_Bool) h (task_All_w a0) rfl (fun _ => rfl) (fun x2 h => ?_)
    conv => whnf
    refine fkS h (fun h => ?_) (fun h => ?_)
    · conv => whnf
      exact jeS hk1 h (Weak.refl _)
    conv => whnf
    refine lenS a1 (eL (eI .i64)) rfl ?_
    conv => whnf
    refine lenS a0 Task.enc rfl ?_
    conv => whnf
    exact jeS hk1 h (Weak.refl _)
  conv => whnf
  refine fkS h (fun h => ?_) (fun h => ?_)
  · conv => whnf
    exact rt (E := E_Bool) h rfl
  conv => whnf
  refine lenS a1 (eL (eI .i64)) rfl ?_
  conv => whnf
  refine lpS (fun v3 => ⟨[(0, .l (.d (.sl (a0.map Task.enc)))), (19, .l (.d (.sl (a1.map (eL (eI .i64)))))), (20, .l (.d (.int .i64 (a1.length : Int)))), (21, .l (.d (.int .i64 v3)))], 63, [], [], []⟩) h (Weak.refl _) (fun _ nx3 hn3 v3 h => ?_)
  conv => whnf
  refine fkS h (fun h => ?_) (fun h => ?_)
  · conv => whnf
    refine ixS (enc := (eL (eI .i64))) h rfl (fun _ => rfl) (fun x4 h => ?_)
    conv => whnf
    refine lenS x4 (eI .i64) rfl ?_
    conv => whnf
    refine fkS h (fun h => ?_) (fun h => ?_)
    · conv => whnf
      exact rt (E := E_Bool) h rfl
    conv => whnf
    refine lenS x4 (eI .i64) rfl ?_
    conv => whnf
    refine lpS (fun v5 => ⟨[(0, .l (.d (.sl (a0.map Task.enc)))), (5, .l (.d (.int .i64 v3))), (6, .l (.d (.sl (x4.map (eI .i64))))), (19, .l (.d (.sl (a1.map (eL (eI .i64)))))), (20, .l (.d (.int .i64 (a1.length : Int)))), (21, .l (.d (.int .i64 v3))), (29, .l (.d (.sl (x4.map (eI .i64))))), (30, .l (.d (.int .i64 (x4.length : Int)))), (31, .l (.d (.int .i64 v5)))], 63, [], [], []⟩) h (Weak.refl _) (fun _ nx5 hn5 v5 h => ?_)
    conv => whnf
    refine fkS h (fun h => ?_) (fun h => ?_)
    · conv => whnf
      refine ixS (enc := (eI .i64)) h rfl (fun _ => rfl) (fun x6 h => ?_)
      conv => whnf
      refine jnS (fun w7 => ⟨[(0, .l (.d (.sl (a0.map Task.enc)))), (5, .l (.d (.int .i64 v3))), (6, .l (.d (.sl (x4.map (eI .i64))))), (19, .l (.d (.sl (a1.map (eL (eI .i64)))))), (20, .l (.d (.int .i64 (a1.length : Int)))), (21, .l (.d (.int .i64 v3))), (29, .l (.d (.sl (x4.map (eI .i64))))), (30, .l (.d (.int .i64 (x4.length : Int)))), (31, .l (.d (.int .i64 v5))), (60, .l (.d (.bool w7)))], 63, [], [], []⟩) h (fun k7 hk7 h => ?_) (fun w7 h => ?_)
      · conv => whnf
        refine ⟨25, ?_⟩
        conv => whnf
        refine fkS h (fun h => ?_) (fun h => ?_)
        · conv => whnf
          refine drS (by kernel_rfl) ?_
          conv => whnf
          exact jeS hk7 h (Weak.refl _)
        conv => whnf
        refine fkS h (fun h => ?_) (fun h => ?_)
        · conv => whnf
          refine drS (by kernel_rfl) ?_
          conv => whnf
          exact jeS hk7 h (Weak.refl _)
        conv => whnf
        refine fkS h (fun h => ?_) (fun h => ?_)
        · conv => whnf
          refine ixS (enc := (eI .i64)) h rfl (fun _ => rfl) (fun x8 h => ?_)
          conv => whnf
          refine ixS (enc := Task.enc) h rfl (fun _ => rfl) (fun x9 h => ?_)
          conv => whnf
          refine drS (by kernel_rfl) ?_
          conv => whnf
          exact jeS hk7 h (Weak.refl _)
        conv => whnf
        refine drS (by kernel_rfl) ?_
        conv => whnf
        exact jeS hk7 h (Weak.refl _)
      conv => whnf
      refine fkS h (fun h => ?_) (fun h => ?_)
      · conv => whnf
        exact rt (E := E_Bool) h rfl
      conv => whnf
      exact leS hn5 h (Weak.refl _)
    conv => whnf
    exact leS hn3 h (Weak.refl _)
  conv => whnf
  exact rt (E := E_Bool) h rfl

end Go.Proofs.YtpephpefjddgcaaGreat
namespace Go.Proofs.YtpephpefjddgcaaGreat
open Go Go.VC
noncomputable def law05_Great (a0 : List Task) : Option Bool :=
  lp (fun nx1 (v1 : Int) => fk (decide (v1 < (a0.length : Int))) (ix a0 v1 fun x2 => fk (decide ((x2.Secs.length : Int) > (20 : Int))) (some true) (nx1 (wr (v1 + (1 : Int))))) (some (decide ((a0.length : Int) > (20 : Int))))) FU (0 : Int)
theorem law05_Great_w (a0 : List Task) (r : Bool) (h : law05_Great a0 = some r) : Go.VC.Spec Tryz.prog 5 [.d (.sl (a0.map Task.enc))] (fun y => y = E_Bool r) := by
  refine Go.VC.Spec.of_xc (args := [.d (.sl (a0.map Task.enc))]) (fn := Tryz.f5) tab ⟨[(0, [0]), (1, [0, 3]), (2, [0, 3, 7]), (3, [0, 3]), (4, [0, 3, 16]), (5, [2]), (6, [2])], [], [], []⟩ 20 [.tmp 2] rfl rfl rfl rfl rfl rfl ?_
  conv => whnf
  refine lpS (fun v1 => ⟨[(0, .l (.d (.sl (a0.map Task.enc)))), (3, .l (.d (.int .i64 v1)))], 20, [], [], []⟩) h (Weak.refl _) (fun _ nx1 hn1 v1 h => ?_)
  conv => whnf
  refine lenS a0 Task.enc rfl ?_
  conv => whnf
  refine fkS h (fun h => ?_) (fun h => ?_)
  · conv => whnf
    refine ixS (enc := Task.enc) h rfl (fun _ => rfl) (fun x2 h => ?_)
    conv => whnf
    refine lenS x2.Secs Sec.enc rfl ?_
    conv => whnf
    refine fkS h (fun h => ?_) (fun h => ?_)
    · conv => whnf
      exact rt (E := E_Bool) h rfl
    conv => whnf
    exact leS hn1 h (Weak.refl _)
  conv => whnf
  refine lenS a0 Task.enc rfl ?_
  conv => whnf
  exact rt (E := E_Bool) h rfl

end Go.Proofs.YtpephpefjddgcaaGreat
namespace Go.Proofs.YtpephpefjddgcaaGreat
open Go Go.VC
noncomputable def level_level (a0 : List Task) (a1 : Task) : Option Int :=
  lp (fun nx1 (v1 : Int × Int) => fk (decide (v1.2 < (a0.length : Int))) (jn (fun (w2 : Int) => nx1 (w2, (wr (v1.2 + (1 : Int))))) (fun k2 => ix a0 v1.2 fun x3 => fk (decide (x3.D > a1.D)) (k2 (wr (v1.1 + (1 : Int)))) (k2 v1.1))) (some v1.1)) FU ((1 : Int), (0 : Int))
theorem level_level_w (a0 : List Task) (a1 : Task) (r : Int) (h : level_level a0 a1 = some r) : Go.VC.Spec Tryz.prog 140 [.d (.sl (a0.map Task.enc)), .agg (Task.enc a1)] (fun y => y = E_Int r) := by
  refine Go.VC.Spec.of_xc (args := [.d (.sl (a0.map Task.enc)), .agg (Task.enc a1)]) (fn := Tryz.f140) tab ⟨[(0, [0, 3]), (1, [0, 3, 5]), (2, [3, 5, 8, 9, 10]), (3, [3, 5, 8, 9, 10, 11]), (4, [3, 5, 7, 8, 9, 10]), (5, [3, 5, 8, 9, 10, 18]), (6, [3, 5, 8, 9, 10]), (7, [3, 5, 8, 9, 10]), (8, [4])], [], [7], []⟩ 23 [.tmp 4] rfl rfl rfl rfl rfl rfl ?_
  conv => whnf
  refine lenS a0 Task.enc rfl ?_
  conv => whnf
  refine lpS (fun v1 => ⟨[(3, .l (.ptr 4 0)), (5, .l (.d (.int .i64 v1.1))), (8, .l (.d (.sl (a0.map Task.enc)))), (9, .l (.d (.int .i64 (a0.length : Int)))), (10, .l (.d (.int .i64 v1.2)))], 23, [], [(4, [.d (.int .i64 a1.C), .d (.int .i64 a1.D), .d (.int .i64 a1.T), .d (.sl (a1.Secs.map Sec.enc))])], []⟩) h (Weak.refl _) (fun _ nx1 hn1 v1 h => ?_)
  conv => whnf
  refine fkS h (fun h => ?_) (fun h => ?_)
  · conv => whnf
    refine jnS (fun w2 => ⟨[(3, .l (.ptr 4 0)), (5, .l (.d (.int .i64 w2))), (8, .l (.d (.sl (a0.map Task.enc)))), (9, .l (.d (.int .i64 (a0.length : Int)))), (10, .l (.d (.int .i64 v1.2)))], 23, [], [(4, [.d (.int .i64 a1.C), .d (.int .i64 a1.D), .d (.int .i64 a1.T), .d (.sl (a1.Secs.map Sec.enc))])], []⟩) h (fun k2 hk2 h => ?_) (fun w2 h => ?_)
    · conv => whnf
      refine ixS (enc := Task.enc) h rfl (fun _ => rfl) (fun x3 h => ?_)
      conv => whnf
      refine fkS h (fun h => ?_) (fun h => ?_)
      · conv => whnf
        exact jeS hk2 h (Weak.refl _)
      conv => whnf
      refine jeX hk2 h ?_
      conv => whnf
      refine WkF.step (Weak.keepS _ [3, 5, 8, 9, 10]) ?_
      conv => whnf
      exact WkF.refl _
    conv => whnf
    exact leS hn1 h (Weak.refl _)
  conv => whnf
  exact rt (E := E_Int) h rfl

end Go.Proofs.YtpephpefjddgcaaGreat
namespace Go.Proofs.YtpephpefjddgcaaGreat
open Go Go.VC
noncomputable def level_Ceiling_1 (a0 : Task) (a1 : Int) (a2 : List Task) : Option Int :=
  bnd (task_Uses a0 a1) fun x1 => fk (!x1) (some (0 : Int)) (bnd (level_level a2 a0) fun x2 => some x2)
theorem level_Ceiling_1_w (a0 : Task) (a1 : Int) (a2 : List Task) (r : Int) (h : level_Ceiling_1 a0 a1 a2 = some r) : Go.VC.Spec Tryz.prog 145 [.agg (Task.enc a0), .dp [.int .i64 a1], .dp [.sl (a2.map Task.enc)]] (fun y => y = E_Int r) := by
  refine Go.VC.Spec.of_xc (args := [.agg (Task.enc a0), .dp [.int .i64 a1], .dp [.sl (a2.map Task.enc)]]) (fn := Tryz.f145) tab ⟨[(0, [1, 2, 3]), (1, [2, 3, 8]), (2, [4]), (3, [4])], [], [], []⟩ 12 [.tmp 4] rfl rfl rfl rfl rfl rfl ?_
  conv => whnf
  refine caS (E := E_Bool) h (task_Uses_w a0 a1) rfl (fun _ => rfl) (fun x1 h => ?_)
  conv => whnf
  refine fkS h (fun h => ?_) (fun h => ?_)
  · conv => whnf
    exact rt (E := E_Int) h rfl
  conv => whnf
  refine caS (E := E_Int) h (level_level_w a2 a0) rfl (fun _ => rfl) (fun x2 h => ?_)
  conv => whnf
  exact rt (E := E_Int) h rfl

end Go.Proofs.YtpephpefjddgcaaGreat
namespace Go.Proofs.YtpephpefjddgcaaGreat
open Go Go.VC
noncomputable def level_most_api_Task (a0 : List Task) (a1 : Int) (a2 : List Task) : Option Int :=
  lp (fun nx1 (v1 : Int × Int) => fk (decide (v1.2 < (a0.length : Int))) (ix a0 v1.2 fun x2 => bnd (level_Ceiling_1 x2 a1 a2) fun x3 => nx1 ((if x3 > v1.1 then x3 else v1.1), (wr (v1.2 + (1 : Int))))) (some v1.1)) FU ((0 : Int), (0 : Int))
theorem level_most_api_Task_w (a0 : List Task) (a1 : Int) (a2 : List Task) (r : Int) (h : level_most_api_Task a0 a1 a2 = some r) : Go.VC.Spec Tryz.prog 144 [.d (.sl (a0.map Task.enc)), .d (.fn 145 [[.int .i64 a1], [.sl (a2.map Task.enc)]])] (fun y => y = E_Int r) := by
  refine Go.VC.Spec.of_xc (args := [.d (.sl (a0.map Task.enc)), .d (.fn 145 [[.int .i64 a1], [.sl (a2.map Task.enc)]])]) (fn := Tryz.f144) tab ⟨[(0, [0, 1]), (1, [0, 1, 5]), (2, [1, 5, 8, 9, 10]), (3, [1, 5, 8, 9, 10, 11]), (4, [1, 5, 7, 8, 9, 10]), (5, [1, 5, 8, 9, 10]), (6, [1, 5, 8, 9, 10]), (7, [4])], [], [], []⟩ 21 [.tmp 4] rfl rfl rfl rfl rfl rfl ?_
  conv => whnf
  refine lenS a0 Task.enc rfl ?_
  conv => whnf
  refine lpS (fun v1 => ⟨[(1, .l (.d (.fn 145 [[.int .i64 a1], [.sl (a2.map Task.enc)]]))), (5, .l (.d (.int .i64 v1.1))), (8, .l (.d (.sl (a0.map Task.enc)))), (9, .l (.d (.int .i64 (a0.length : Int)))), (10, .l (.d (.int .i64 v1.2)))], 21, [], [], []⟩) h (Weak.refl _) (fun _ nx1 hn1 v1 h => ?_)
  conv => whnf
  refine fkS h (fun h => ?_) (fun h => ?_)
  · conv => whnf
    refine ixS (enc := Task.enc) h rfl (fun _ => rfl) (fun x2 h => ?_)
    conv => whnf
    refine caS (E := E_Int) h (level_Ceiling_1_w x2 a1 a2) rfl (fun _ => rfl) (fun x3 h => ?_)
    conv => whnf
    exact leS hn1 h (Weak.refl _)
  conv => whnf
  exact rt (E := E_Int) h rfl

end Go.Proofs.YtpephpefjddgcaaGreat
namespace Go.Proofs.YtpephpefjddgcaaGreat
open Go Go.VC
noncomputable def level_Ceiling (a0 : List Task) (a1 : Int) : Option Int :=
  bnd (task_All a0) fun x1 => fk (!x1) (some (0 : Int)) (bnd (level_most_api_Task a0 a1 a0) fun x2 => some x2)
theorem level_Ceiling_w (a0 : List Task) (a1 : Int) (r : Int) (h : level_Ceiling a0 a1 = some r) : Go.VC.Spec Tryz.prog 143 [.d (.sl (a0.map Task.enc)), .d (.int .i64 a1)] (fun y => y = E_Int r) := by
  refine Go.VC.Spec.of_xc (args := [.d (.sl (a0.map Task.enc)), .d (.int .i64 a1)]) (fn := Tryz.f143) tab ⟨[(0, [2, 3]), (1, [2, 3, 7]), (2, [4]), (3, [4])], [], [], []⟩ 11 [.tmp 4] rfl rfl rfl rfl rfl rfl ?_
  conv => whnf
  refine caS (E := E_Bool) h (task_All_w a0) rfl (fun _ => rfl) (fun x1 h => ?_)
  conv => whnf
  refine fkS h (fun h => ?_) (fun h => ?_)
  · conv => whnf
    exact rt (E := E_Int) h rfl
  conv => whnf
  refine caS (E := E_Int) h (level_most_api_Task_w a0 a1 a0) rfl (fun _ => rfl) (fun x2 h => ?_)
  conv => whnf
  exact rt (E := E_Int) h rfl

end Go.Proofs.YtpephpefjddgcaaGreat
namespace Go.Proofs.YtpephpefjddgcaaGreat
open Go Go.VC
noncomputable def level_Held_1 (a0 : Int) (a1 : List Task) : Option Int :=
  bnd (level_Ceiling a1 a0) fun x1 => some x1
theorem level_Held_1_w (a0 : Int) (a1 : List Task) (r : Int) (h : level_Held_1 a0 a1 = some r) : Go.VC.Spec Tryz.prog 142 [.d (.int .i64 a0), .dp [.sl (a1.map Task.enc)]] (fun y => y = E_Int r) := by
  refine Go.VC.Spec.of_xc (args := [.d (.int .i64 a0), .dp [.sl (a1.map Task.enc)]]) (fn := Tryz.f142) tab ⟨[(0, [0, 1]), (1, [3])], [], [], []⟩ 7 [.tmp 3] rfl rfl rfl rfl rfl rfl ?_
  conv => whnf
  refine caS (E := E_Int) h (level_Ceiling_w a1 a0) rfl (fun _ => rfl) (fun x1 h => ?_)
  conv => whnf
  exact rt (E := E_Int) h rfl

end Go.Proofs.YtpephpefjddgcaaGreat
namespace Go.Proofs.YtpephpefjddgcaaGreat
open Go Go.VC
noncomputable def level_most_int (a0 : List Int) (a1 : List Task) : Option Int :=
  lp (fun nx1 (v1 : Int × Int) => fk (decide (v1.2 < (a0.length : Int))) (ix a0 v1.2 fun x2 => bnd (level_Held_1 x2 a1) fun x3 => nx1 ((if x3 > v1.1 then x3 else v1.1), (wr (v1.2 + (1 : Int))))) (some v1.1)) FU ((0 : Int), (0 : Int))
theorem level_most_int_w (a0 : List Int) (a1 : List Task) (r : Int) (h : level_most_int a0 a1 = some r) : Go.VC.Spec Tryz.prog 141 [.d (.sl (a0.map (eI .i64))), .d (.fn 142 [[.sl (a1.map Task.enc)]])] (fun y => y = E_Int r) := by
  refine Go.VC.Spec.of_xc (args := [.d (.sl (a0.map (eI .i64))), .d (.fn 142 [[.sl (a1.map Task.enc)]])]) (fn := Tryz.f141) tab ⟨[(0, [0, 1]), (1, [0, 1, 5]), (2, [1, 5, 8, 9, 10]), (3, [1, 5, 8, 9, 10, 11]), (4, [1, 5, 7, 8, 9, 10]), (5, [1, 5, 8, 9, 10]), (6, [1, 5, 8, 9, 10]), (7, [4])], [], [], []⟩ 21 [.tmp 4] rfl rfl rfl rfl rfl rfl ?_
  conv => whnf
  refine lenS a0 (eI .i64) rfl ?_
  conv => whnf
  refine lpS (fun v1 => ⟨[(1, .l (.d (.fn 142 [[.sl (a1.map Task.enc)]]))), (5, .l (.d (.int .i64 v1.1))), (8, .l (.d (.sl (a0.map (eI .i64))))), (9, .l (.d (.int .i64 (a0.length : Int)))), (10, .l (.d (.int .i64 v1.2)))], 21, [], [], []⟩) h (Weak.refl _) (fun _ nx1 hn1 v1 h => ?_)
  conv => whnf
  refine fkS h (fun h => ?_) (fun h => ?_)
  · conv => whnf
    refine ixS (enc := (eI .i64)) h rfl (fun _ => rfl) (fun x2 h => ?_)
    conv => whnf
    refine caS (E := E_Int) h (level_Held_1_w x2 a1) rfl (fun _ => rfl) (fun x3 h => ?_)
    conv => whnf
    exact leS hn1 h (Weak.refl _)
  conv => whnf
  exact rt (E := E_Int) h rfl

end Go.Proofs.YtpephpefjddgcaaGreat
namespace Go.Proofs.YtpephpefjddgcaaGreat
open Go Go.VC
noncomputable def level_Held (a0 : List Task) (a1 : List Int) : Option Int :=
  bnd (level_most_int a1 a0) fun x1 => some x1
theorem level_Held_w (a0 : List Task) (a1 : List Int) (r : Int) (h : level_Held a0 a1 = some r) : Go.VC.Spec Tryz.prog 138 [.d (.sl (a0.map Task.enc)), .d (.sl (a1.map (eI .i64)))] (fun y => y = E_Int r) := by
  refine Go.VC.Spec.of_xc (args := [.d (.sl (a0.map Task.enc)), .d (.sl (a1.map (eI .i64)))]) (fn := Tryz.f138) tab ⟨[(0, [1, 2]), (1, [4])], [], [], []⟩ 8 [.tmp 4] rfl rfl rfl rfl rfl rfl ?_
  conv => whnf
  refine caS (E := E_Int) h (level_most_int_w a1 a0) rfl (fun _ => rfl) (fun x1 h => ?_)
  conv => whnf
  exact rt (E := E_Int) h rfl

end Go.Proofs.YtpephpefjddgcaaGreat
namespace Go.Proofs.YtpephpefjddgcaaGreat
open Go Go.VC
noncomputable def level_Of (a0 : List Task) (a1 : Int) : Option Int :=
  jn (fun (w1 : Bool) => fk w1 (some (0 : Int)) (ix a0 a1 fun x3 => bnd (level_level a0 x3) fun x4 => some x4)) (fun k1 => bnd (task_All a0) fun x2 => fk (!x2) (k1 true) (fk (decide (a1 < (0 : Int))) (k1 true) (k1 (decide (a1 ≥ (a0.length : Int))))))
theorem level_Of_w (a0 : List Task) (a1 : Int) (r : Int) (h : level_Of a0 a1 = some r) : Go.VC.Spec Tryz.prog 137 [.d (.sl (a0.map Task.enc)), .d (.int .i64 a1)] (fun y => y = E_Int r) := by
  refine Go.VC.Spec.of_xc (args := [.d (.sl (a0.map Task.enc)), .d (.int .i64 a1)]) (fn := Tryz.f137) tab ⟨[(0, [0, 1]), (1, [0, 1, 17]), (2, [4]), (3, [4])], [], [100017], []⟩ 24 [.tmp 4] rfl rfl rfl rfl rfl rfl ?_
  conv => whnf
  refine jnS (fun w1 => ⟨[(0, .l (.d (.sl (a0.map Task.enc)))), (1, .l (.d (.int .i64 a1))), (17, .l (.d (.bool w1)))], 24, [], [], []⟩) h (fun k1 hk1 h => ?_) (fun w1 h => ?_)
  · conv => whnf
    refine caS (E := E_Bool) h (task_All_w a0) rfl (fun _ => rfl) (fun x2 h => ?_)
    conv => whnf
    refine fkS h (fun h => ?_) (fun h => ?_)
    · conv => whnf
      exact jeS hk1 h (Weak.refl _)
    conv => whnf
    refine fkS h (fun h => ?_) (fun h => ?_)
    · conv => whnf
      exact jeS hk1 h (Weak.refl _)
    conv => whnf
    refine lenS a0 Task.enc rfl ?_
    conv => whnf
    exact jeS hk1 h (Weak.refl _)
  conv => whnf
  refine fkS h (fun h => ?_) (fun h => ?_)
  · conv => whnf
    exact rt (E := E_Int) h rfl
  conv => whnf
  refine ixS (enc := Task.enc) h rfl (fun _ => rfl) (fun x3 h => ?_)
  conv => whnf
  refine caS (E := E_Int) h (level_level_w a0 x3) rfl (fun _ => rfl) (fun x4 h => ?_)
  conv => whnf
  exact rt (E := E_Int) h rfl

end Go.Proofs.YtpephpefjddgcaaGreat
namespace Go.Proofs.YtpephpefjddgcaaGreat
open Go Go.VC
noncomputable def level_Passes (a0 : List Task) (a1 : Int) (a2 : List Int) : Option Bool :=
  bnd (level_Of a0 a1) fun x1 => bnd (level_Held a0 a2) fun x2 => some (decide (x1 > x2))
theorem level_Passes_w (a0 : List Task) (a1 : Int) (a2 : List Int) (r : Bool) (h : level_Passes a0 a1 a2 = some r) : Go.VC.Spec Tryz.prog 135 [.d (.sl (a0.map Task.enc)), .d (.int .i64 a1), .d (.sl (a2.map (eI .i64)))] (fun y => y = E_Bool r) := by
  refine Go.VC.Spec.of_xc (args := [.d (.sl (a0.map Task.enc)), .d (.int .i64 a1), .d (.sl (a2.map (eI .i64)))]) (fn := Tryz.f135) tab ⟨[(0, [0, 1, 2]), (1, [6])], [], [], []⟩ 14 [.tmp 6] rfl rfl rfl rfl rfl rfl ?_
  conv => whnf
  refine caS (E := E_Int) h (level_Of_w a0 a1) rfl (fun _ => rfl) (fun x1 h => ?_)
  conv => whnf
  refine caS (E := E_Int) h (level_Held_w a0 a2) rfl (fun _ => rfl) (fun x2 h => ?_)
  conv => whnf
  exact rt (E := E_Bool) h rfl

end Go.Proofs.YtpephpefjddgcaaGreat
namespace Go.Proofs.YtpephpefjddgcaaGreat
open Go Go.VC
noncomputable def ref05_Right (a0 : Task) : Option Bool :=
  jn (fun (w1 : Bool) => fk w1 (some false) (lp (fun nx2 (v2 : Int) => fk (decide (v2 < (a0.Secs.length : Int))) (ix a0.Secs v2 fun x3 => jn (fun (w4 : Bool) => fk w4 (some false) (lp (fun nx5 (v5 : Int) => fk (decide (v5 < v2)) (ix a0.Secs v5 fun x6 => jn (fun (w7 : Bool) => fk w7 (some false) (lp (fun nx8 (v8 : Int × Int × Int) => fk (decide (v8.2.2 < (wr (x3.At + x3.Len)))) (jn (fun (w9 : Int × Int) => nx8 (w9.1, w9.2, (wr (v8.2.2 + (1 : Int))))) (fun k9 => fk (decide (v8.2.2 < (wr (x6.At + x6.Len)))) (k9 ((wr (v8.1 + (1 : Int))), v8.2.1)) (k9 (v8.1, (wr (v8.2.1 + (1 : Int))))))) (jn (fun (w10 : Bool) => fk w10 (some false) (nx5 (wr (v5 + (1 : Int))))) (fun k10 => fk (decide (v8.1 > (0 : Int))) (fk (decide (v8.2.1 > (0 : Int))) (k10 true) (k10 (decide (x6.Res = x3.Res)))) (k10 false)))) FU ((0 : Int), (0 : Int), x3.At))) (fun k7 => fk (decide (x3.At < x6.At)) (k7 true) (fk (decide (x3.At = x6.At)) (k7 (decide (x3.Len > x6.Len))) (k7 false)))) (nx2 (wr (v2 + (1 : Int))))) FU (0 : Int))) (fun k4 => fk (decide (x3.Res < (0 : Int))) (k4 true) (fk (decide (x3.Res > (3 : Int))) (k4 true) (fk (decide (x3.At < (0 : Int))) (k4 true) (fk (decide (x3.Len < (1 : Int))) (k4 true) (fk (decide (x3.At > a0.C)) (k4 true) (fk (decide (x3.Len > a0.C)) (k4 true) (k4 (decide ((wr (x3.At + x3.Len)) > a0.C)))))))))) (some true)) FU (0 : Int))) (fun k1 => fk (decide (a0.C < (1 : Int))) (k1 true) (fk (decide (a0.D < a0.C)) (k1 true) (fk (decide (a0.T < a0.D)) (k1 true) (fk (decide (a0.T > (200 : Int))) (k1 true) (k1 (decide ((a0.Secs.length : Int) > (4 : Int))))))))
theorem ref05_Right_w (a0 : Task) (r : Bool) (h : ref05_Right a0 = some r) : Go.VC.Spec Tryz.prog 38 [.agg (Task.enc a0)] (fun y => y = E_Bool r) := by
  refine Go.VC.Spec.of_xc (args := [.agg (Task.enc a0)]) (fn := Tryz.f38) tab ⟨[(0, [1]), (1, [1, 37]), (2, [2]), (3, [1, 3]), (4, [1, 3, 42]), (5, [1, 3]), (6, [1, 3, 4]), (7, [1, 3, 4, 91]), (8, [2]), (9, [1, 3, 4, 5]), (10, [1, 3, 4, 5, 94]), (11, [1, 3, 4, 5]), (12, [1, 3, 4, 5, 6]), (13, [1, 3, 4, 5, 6, 120]), (14, [2]), (15, [1, 3, 4, 5, 6, 7, 8]), (16, [1, 3, 4, 5, 6, 7, 8, 9]), (17, [1, 3, 4, 5, 6, 7, 8, 9, 129]), (18, [1, 3, 4, 5, 6, 7, 8, 9]), (19, [1, 3, 4, 5, 6, 7, 8, 9, 138]), (20, [1, 3, 4, 5, 6, 7, 8, 9]), (21, [1, 3, 4, 5, 6, 7, 8, 9]), (22, [1, 3, 4, 5, 155]), (23, [2]), (24, [2])], [], [100037, 100091, 100120, 18, 100155], []⟩ 156 [.tmp 2] rfl rfl rfl rfl rfl rfl ?_
  conv => whnf
  refine jnS (fun w1 => ⟨[(1, .l (.ptr 2 0)), (37, .l (.d (.bool w1)))], 156, [], [(2, [.d (.int .i64 a0.C), .d (.int .i64 a0.D), .d (.int .i64 a0.T), .d (.sl (a0.Secs.map Sec.enc))])], []⟩) h (fun k1 hk1 h => ?_) (fun w1 h => ?_)
  · conv => whnf
    refine fkS h (fun h => ?_) (fun h => ?_)
    · conv => whnf
      exact jeS hk1 h (Weak.refl _)
    conv => whnf
    refine fkS h (fun h => ?_) (fun h => ?_)
    · conv => whnf
      exact jeS hk1 h (Weak.refl _)
    conv => whnf
    refine fkS h (fun h => ?_) (fun h => ?_)
    · conv => whnf
      exact jeS hk1 h (Weak.refl _)
    conv => whnf
    refine fkS h (fun h => ?_) (fun h => ?_)
    · conv => whnf
      exact jeS hk1 h (Weak.refl _)
    conv => whnf
    refine lenS a0.Secs Sec.enc rfl ?_
    conv => whnf
    exact jeS hk1 h (Weak.refl _)
  conv => whnf
  refine fkS h (fun h => ?_) (fun h => ?_)
  · conv => whnf
    exact rt (E := E_Bool) h rfl
  conv => whnf
  refine lpS (fun v2 => ⟨[(1, .l (.ptr 2 0)), (3, .l (.d (.int .i64 v2)))], 156, [], [(2, [.d (.int .i64 a0.C), .d (.int .i64 a0.D), .d (.int .i64 a0.T), .d (.sl (a0.Secs.map Sec.enc))])], []⟩) h (Weak.refl _) (fun _ nx2 hn2 v2 h => ?_)
  conv => whnf
  refine lenS a0.Secs Sec.enc rfl ?_
  conv => whnf
  refine fkS h (fun h => ?_) (fun h => ?_)
  · conv => whnf
    refine ixS (enc := Sec.enc) h rfl (fun _ => rfl) (fun x3 h => ?_)
    conv => whnf
    refine jnS (fun w4 => ⟨[(1, .l (.ptr 2 0)), (3, .l (.d (.int .i64 v2))), (4, .l (.ptr 5 0)), (91, .l (.d (.bool w4)))], 156, [], [(2, [.d (.int .i64 a0.C), .d (.int .i64 a0.D), .d (.int .i64 a0.T), .d (.sl (a0.Secs.map Sec.enc))]), (5, [.d (.int .i64 x3.Res), .d (.int .i64 x3.At), .d (.int .i64 x3.Len)])], []⟩) h (fun k4 hk4 h => ?_) (fun w4 h => ?_)
    · conv => whnf
      refine fkS h (fun h => ?_) (fun h => ?_)
      · conv => whnf
        exact jeS hk4 h (Weak.refl _)
      conv => whnf
      refine fkS h (fun h => ?_) (fun h => ?_)
      · conv => whnf
        exact jeS hk4 h (Weak.refl _)
      conv => whnf
      refine fkS h (fun h => ?_) (fun h => ?_)
      · conv => whnf
        exact jeS hk4 h (Weak.refl _)
      conv => whnf
      refine fkS h (fun h => ?_) (fun h => ?_)
      · conv => whnf
        exact jeS hk4 h (Weak.refl _)
      conv => whnf
      refine fkS h (fun h => ?_) (fun h => ?_)
      · conv => whnf
        exact jeS hk4 h (Weak.refl _)
      conv => whnf
      refine fkS h (fun h => ?_) (fun h => ?_)
      · conv => whnf
        exact jeS hk4 h (Weak.refl _)
      conv => whnf
      exact jeS hk4 h (Weak.refl _)
    conv => whnf
    refine fkS h (fun h => ?_) (fun h => ?_)
    · conv => whnf
      exact rt (E := E_Bool) h rfl
    conv => whnf
    refine lpS (fun v5 => ⟨[(1, .l (.ptr 2 0)), (3, .l (.d (.int .i64 v2))), (4, .l (.ptr 5 0)), (5, .l (.d (.int .i64 v5)))], 156, [], [(2, [.d (.int .i64 a0.C), .d (.int .i64 a0.D), .d (.int .i64 a0.T), .d (.sl (a0.Secs.map Sec.enc))]), (5, [.d (.int .i64 x3.Res), .d (.int .i64 x3.At), .d (.int .i64 x3.Len)])], []⟩) h (Weak.refl _) (fun _ nx5 hn5 v5 h => ?_)
    conv => whnf
    refine fkS h (fun h => ?_) (fun h => ?_)
    · conv => whnf
      refine ixS (enc := Sec.enc) h rfl (fun _ => rfl) (fun x6 h => ?_)
      conv => whnf
      refine jnS (fun w7 => ⟨[(1, .l (.ptr 2 0)), (3, .l (.d (.int .i64 v2))), (4, .l (.ptr 5 0)), (5, .l (.d (.int .i64 v5))), (6, .l (.ptr 7 0)), (120, .l (.d (.bool w7)))], 156, [], [(2, [.d (.int .i64 a0.C), .d (.int .i64 a0.D), .d (.int .i64 a0.T), .d (.sl (a0.Secs.map Sec.enc))]), (5, [.d (.int .i64 x3.Res), .d (.int .i64 x3.At), .d (.int .i64 x3.Len)]), (7, [.d (.int .i64 x6.Res), .d (.int .i64 x6.At), .d (.int .i64 x6.Len)])], []⟩) h (fun k7 hk7 h => ?_) (fun w7 h => ?_)
      · conv => whnf
        refine fkS h (fun h => ?_) (fun h => ?_)
        · conv => whnf
          exact jeS hk7 h (Weak.refl _)
        conv => whnf
        refine fkS h (fun h => ?_) (fun h => ?_)
        · conv => whnf
          exact jeS hk7 h (Weak.refl _)
        conv => whnf
        exact jeS hk7 h (Weak.refl _)
      conv => whnf
      refine fkS h (fun h => ?_) (fun h => ?_)
      · conv => whnf
        exact rt (E := E_Bool) h rfl
      conv => whnf
      refine lpS (fun v8 => ⟨[(1, .l (.ptr 2 0)), (3, .l (.d (.int .i64 v2))), (4, .l (.ptr 5 0)), (5, .l (.d (.int .i64 v5))), (6, .l (.ptr 7 0)), (7, .l (.d (.int .i64 v8.1))), (8, .l (.d (.int .i64 v8.2.1))), (9, .l (.d (.int .i64 v8.2.2)))], 156, [], [(2, [.d (.int .i64 a0.C), .d (.int .i64 a0.D), .d (.int .i64 a0.T), .d (.sl (a0.Secs.map Sec.enc))]), (5, [.d (.int .i64 x3.Res), .d (.int .i64 x3.At), .d (.int .i64 x3.Len)]), (7, [.d (.int .i64 x6.Res), .d (.int .i64 x6.At), .d (.int .i64 x6.Len)])], []⟩) h (Weak.refl _) (fun _ nx8 hn8 v8 h => ?_)
      conv => whnf
      refine fkS h (fun h => ?_) (fun h => ?_)
      · conv => whnf
        refine jnS (fun w9 => ⟨[(1, .l (.ptr 2 0)), (3, .l (.d (.int .i64 v2))), (4, .l (.ptr 5 0)), (5, .l (.d (.int .i64 v5))), (6, .l (.ptr 7 0)), (7, .l (.d (.int .i64 w9.1))), (8, .l (.d (.int .i64 w9.2))), (9, .l (.d (.int .i64 v8.2.2)))], 156, [], [(2, [.d (.int .i64 a0.C), .d (.int .i64 a0.D), .d (.int .i64 a0.T), .d (.sl (a0.Secs.map Sec.enc))]), (5, [.d (.int .i64 x3.Res), .d (.int .i64 x3.At), .d (.int .i64 x3.Len)]), (7, [.d (.int .i64 x6.Res), .d (.int .i64 x6.At), .d (.int .i64 x6.Len)])], []⟩) h (fun k9 hk9 h => ?_) (fun w9 h => ?_)
        · conv => whnf
          refine fkS h (fun h => ?_) (fun h => ?_)
          · conv => whnf
            exact jeS hk9 h (Weak.refl _)
          conv => whnf
          exact jeS hk9 h (Weak.refl _)
        conv => whnf
        exact leS hn8 h (Weak.refl _)
      conv => whnf
      refine jnS (fun w10 => ⟨[(1, .l (.ptr 2 0)), (3, .l (.d (.int .i64 v2))), (4, .l (.ptr 5 0)), (5, .l (.d (.int .i64 v5))), (155, .l (.d (.bool w10)))], 156, [], [(2, [.d (.int .i64 a0.C), .d (.int .i64 a0.D), .d (.int .i64 a0.T), .d (.sl (a0.Secs.map Sec.enc))]), (5, [.d (.int .i64 x3.Res), .d (.int .i64 x3.At), .d (.int .i64 x3.Len)])], []⟩) h (fun k10 hk10 h => ?_) (fun w10 h => ?_)
      · conv => whnf
        refine fkS h (fun h => ?_) (fun h => ?_)
        · conv => whnf
          refine fkS h (fun h => ?_) (fun h => ?_)
          · conv => whnf
            exact jeS hk10 h (Weak.refl _)
          conv => whnf
          exact jeS hk10 h (Weak.refl _)
        conv => whnf
        exact jeS hk10 h (Weak.refl _)
      conv => whnf
      refine fkS h (fun h => ?_) (fun h => ?_)
      · conv => whnf
        exact rt (E := E_Bool) h rfl
      conv => whnf
      exact leS hn5 h (Weak.refl _)
    conv => whnf
    exact leS hn2 h (Weak.refl _)
  conv => whnf
  exact rt (E := E_Bool) h rfl

end Go.Proofs.YtpephpefjddgcaaGreat
namespace Go.Proofs.YtpephpefjddgcaaGreat
open Go Go.VC
noncomputable def ref05_All (a0 : List Task) : Option Bool :=
  lp (fun nx1 (v1 : Int × Int) => fk (decide (v1.2 < (a0.length : Int))) (jn (fun (w2 : Int) => nx1 (w2, (wr (v1.2 + (1 : Int))))) (fun k2 => ix a0 v1.2 fun x3 => bnd (ref05_Right x3) fun x4 => fk x4 (k2 (wr (v1.1 + (1 : Int)))) (k2 v1.1))) (fk (decide (v1.1 = (a0.length : Int))) (some (decide (v1.1 ≤ (8 : Int)))) (some false))) FU ((0 : Int), (0 : Int))
theorem ref05_All_w (a0 : List Task) (r : Bool) (h : ref05_All a0 = some r) : Go.VC.Spec Tryz.prog 22 [.d (.sl (a0.map Task.enc))] (fun y => y = E_Bool r) := by
  refine Go.VC.Spec.of_xc (args := [.d (.sl (a0.map Task.enc))]) (fn := Tryz.f22) tab ⟨[(0, [0]), (1, [0, 3]), (2, [0, 3, 4]), (3, [0, 3, 4, 8]), (4, [0, 3, 4]), (5, [0, 3, 4, 15]), (6, [0, 3, 4]), (7, [2])], [], [4], []⟩ 26 [.tmp 2] rfl rfl rfl rfl rfl rfl ?_
  conv => whnf
  refine lpS (fun v1 => ⟨[(0, .l (.d (.sl (a0.map Task.enc)))), (3, .l (.d (.int .i64 v1.1))), (4, .l (.d (.int .i64 v1.2)))], 26, [], [], []⟩) h (Weak.refl _) (fun _ nx1 hn1 v1 h => ?_)
  conv => whnf
  refine lenS a0 Task.enc rfl ?_
  conv => whnf
  refine fkS h (fun h => ?_) (fun h => ?_)
  · conv => whnf
    refine jnS (fun w2 => ⟨[(0, .l (.d (.sl (a0.map Task.enc)))), (3, .l (.d (.int .i64 w2))), (4, .l (.d (.int .i64 v1.2)))], 26, [], [], []⟩) h (fun k2 hk2 h => ?_) (fun w2 h => ?_)
    · conv => whnf
      refine ixS (enc := Task.enc) h rfl (fun _ => rfl) (fun x3 h => ?_)
      conv => whnf
      refine caS (E := E_Bool) h (ref05_Right_w x3) rfl (fun _ => rfl) (fun x4 h => ?_)
      conv => whnf
      refine fkS h (fun h => ?_) (fun h => ?_)
      · conv => whnf
        exact jeS hk2 h (Weak.refl _)
      conv => whnf
      refine jeX hk2 h ?_
      conv => whnf
      refine WkF.step (Weak.keepS _ [0, 3, 4]) ?_
      conv => whnf
      exact WkF.refl _
    conv => whnf
    exact leS hn1 h (Weak.refl _)
  conv => whnf
  refine lenS a0 Task.enc rfl ?_
  conv => whnf
  refine fkS h (fun h => ?_) (fun h => ?_)
  · conv => whnf
    exact rt (E := E_Bool) h rfl
  conv => whnf
  exact rt (E := E_Bool) h rfl

end Go.Proofs.YtpephpefjddgcaaGreat
namespace Go.Proofs.YtpephpefjddgcaaGreat
open Go Go.VC
noncomputable def ref07_Legal (a0 : List Task) (a1 : List (List Int)) : Option Bool :=
  jn (fun (w1 : Bool) => fk w1 (some false) (lp (fun nx3 (v3 : Int) => fk (decide (v3 < (a1.length : Int))) (ix a1 v3 fun x4 => fk (decide ((x4.length : Int) > (1000 : Int))) (some false) (lp (fun nx5 (v5 : Int) => ix a1 v3 fun x6 => fk (decide (v5 < (x6.length : Int))) (ix a1 v3 fun x7 => ix x7 v5 fun x8 => jn (fun (w9 : Bool) => fk w9 (some false) (jn (fun (w10 : Bool) => fk w10 (some false) (nx5 (wr (v5 + (1 : Int))))) (fun k10 => fk (decide (v5 > (0 : Int))) (ix a1 v3 fun x11 => ix x11 (wr (v5 - (1 : Int))) fun x12 => ix a0 v3 fun x13 => k10 (decide (x8 < (wr (x12 + x13.T))))) (k10 false)))) (fun k9 => fk (decide (x8 < (0 : Int))) (k9 true) (k9 (decide (x8 > (4611686018427387903 : Int)))))) (nx3 (wr (v3 + (1 : Int))))) FU (0 : Int))) (some true)) FU (0 : Int))) (fun k1 => bnd (ref05_All a0) fun x2 => fk (!x2) (k1 true) (k1 (!decide ((a1.length : Int) = (a0.length : Int)))))
theorem ref07_Legal_w (a0 : List Task) (a1 : List (List Int)) (r : Bool) (h : ref07_Legal a0 a1 = some r) : Go.VC.Spec Tryz.prog 9 [.d (.sl (a0.map Task.enc)), .d (.sl (a1.map (eL (eI .i64))))] (fun y => y = E_Bool r) := by
  refine Go.VC.Spec.of_xc (args := [.d (.sl (a0.map Task.enc)), .d (.sl (a1.map (eL (eI .i64))))]) (fn := Tryz.f9) tab ⟨[(0, [0, 1]), (1, [0, 1, 17]), (2, [4]), (3, [0, 1, 5]), (4, [0, 1, 5, 21]), (5, [0, 1, 5]), (6, [0, 1, 5, 29]), (7, [4]), (8, [0, 1, 5, 6]), (9, [0, 1, 5, 6, 36]), (10, [0, 1, 5, 6]), (11, [0, 1, 5, 6, 7]), (12, [0, 1, 5, 6, 7, 51]), (13, [4]), (14, [0, 1, 5, 6, 71]), (15, [4]), (16, [4])], [], [100017, 100051, 100071], []⟩ 72 [.tmp 4] rfl rfl rfl rfl rfl rfl ?_
  conv => whnf
  refine jnS (fun w1 => ⟨[(0, .l (.d (.sl (a0.map Task.enc)))), (1, .l (.d (.sl (a1.map (eL (eI .i64)))))), (17, .l (.d (.bool w1)))], 72, [], [], []⟩) h (fun k1 hk1 h => ?_) (fun w1 h => ?_)
  · conv => whnf
    refine caS (E := E_Bool) h (ref05_All_w a0) rfl (fun _ => rfl) (fun x2 h => ?_)
    conv => whnf
    refine fkS h (fun h => ?_) (fun h => ?_)
    · conv => whnf
      exact jeS hk1 h (Weak.refl _)
    conv => whnf
    refine lenS a1 (eL (eI .i64)) rfl ?_
    conv => whnf
    refine lenS a0 Task.enc rfl ?_
    conv => whnf
    exact jeS hk1 h (Weak.refl _)
  conv => whnf
  refine fkS h (fun h => ?_) (fun h => ?_)
  · conv => whnf
    exact rt (E := E_Bool) h rfl
  conv => whnf
  refine lpS (fun v3 => ⟨[(0, .l (.d (.sl (a0.map Task.enc)))), (1, .l (.d (.sl (a1.map (eL (eI .i64)))))), (5, .l (.d (.int .i64 v3)))], 72, [], [], []⟩) h (Weak.refl _) (fun _ nx3 hn3 v3 h => ?_)
  conv => whnf
  refine lenS a1 (eL (eI .i64)) rfl ?_
  conv => whnf
  refine fkS h (fun h => ?_) (fun h => ?_)
  · conv => whnf
    refine ixS (enc := (eL (eI .i64))) h rfl (fun _ => rfl) (fun x4 h => ?_)
    conv => whnf
    refine lenS x4 (eI .i64) rfl ?_
    conv => whnf
    refine fkS h (fun h => ?_) (fun h => ?_)
    · conv => whnf
      exact rt (E := E_Bool) h rfl
    conv => whnf
    refine lpS (fun v5 => ⟨[(0, .l (.d (.sl (a0.map Task.enc)))), (1, .l (.d (.sl (a1.map (eL (eI .i64)))))), (5, .l (.d (.int .i64 v3))), (6, .l (.d (.int .i64 v5)))], 72, [], [], []⟩) h (Weak.refl _) (fun _ nx5 hn5 v5 h => ?_)
    conv => whnf
    refine ixS (enc := (eL (eI .i64))) h rfl (fun _ => rfl) (fun x6 h => ?_)
    conv => whnf
    refine lenS x6 (eI .i64) rfl ?_
    conv => whnf
    refine fkS h (fun h => ?_) (fun h => ?_)
    · conv => whnf
      refine ixS (enc := (eL (eI .i64))) h rfl (fun _ => rfl) (fun x7 h => ?_)
      conv => whnf
      refine ixS (enc := (eI .i64)) h rfl (fun _ => rfl) (fun x8 h => ?_)
      conv => whnf
      refine jnS (fun w9 => ⟨[(0, .l (.d (.sl (a0.map Task.enc)))), (1, .l (.d (.sl (a1.map (eL (eI .i64)))))), (5, .l (.d (.int .i64 v3))), (6, .l (.d (.int .i64 v5))), (7, .l (.d (.int .i64 x8))), (51, .l (.d (.bool w9)))], 72, [], [], []⟩) h (fun k9 hk9 h => ?_) (fun w9 h => ?_)
      · conv => whnf
        refine fkS h (fun h => ?_) (fun h => ?_)
        · conv => whnf
          exact jeS hk9 h (Weak.refl _)
        conv => whnf
        exact jeS hk9 h (Weak.refl _)
      conv => whnf
      refine fkS h (fun h => ?_) (fun h => ?_)
      · conv => whnf
        exact rt (E := E_Bool) h rfl
      conv => whnf
      refine jnS (fun w10 => ⟨[(0, .l (.d (.sl (a0.map Task.enc)))), (1, .l (.d (.sl (a1.map (eL (eI .i64)))))), (5, .l (.d (.int .i64 v3))), (6, .l (.d (.int .i64 v5))), (71, .l (.d (.bool w10)))], 72, [], [], []⟩) h (fun k10 hk10 h => ?_) (fun w10 h => ?_)
      · conv => whnf
        refine ⟨20, ?_⟩
        conv => whnf
        refine fkS h (fun h => ?_) (fun h => ?_)
        · conv => whnf
          refine ixS (enc := (eL (eI .i64))) h rfl (fun _ => rfl) (fun x11 h => ?_)
          conv => whnf
          refine ixS (enc := (eI .i64)) h rfl (fun _ => rfl) (fun x12 h => ?_)
          conv => whnf
          refine ixS (enc := Task.enc) h rfl (fun _ => rfl) (fun x13 h => ?_)
          conv => whnf
          refine drS (by kernel_rfl) ?_
          conv => whnf
          exact jeS hk10 h (Weak.refl _)
        conv => whnf
        refine drS (by kernel_rfl) ?_
        conv => whnf
        exact jeS hk10 h (Weak.refl _)
      conv => whnf
      refine fkS h (fun h => ?_) (fun h => ?_)
      · conv => whnf
        exact rt (E := E_Bool) h rfl
      conv => whnf
      exact leS hn5 h (Weak.refl _)
    conv => whnf
    exact leS hn3 h (Weak.refl _)
  conv => whnf
  exact rt (E := E_Bool) h rfl

end Go.Proofs.YtpephpefjddgcaaGreat
namespace Go.Proofs.YtpephpefjddgcaaGreat
open Go Go.VC
noncomputable def task_Held (a0 : Task) (a1 : Int) : Option (List Int) :=
  bnd (task_Right a0) fun x1 => fk (!x1) (some []) (lp (fun nx2 (v2 : (List Int) × Int) => fk (decide (v2.2 < (a0.Secs.length : Int))) (jn (fun (w3 : List Int) => nx2 (w3, (wr (v2.2 + (1 : Int))))) (fun k3 => ix a0.Secs v2.2 fun x4 => jn (fun (w5 : Bool) => fk w5 (ck (decide ((v2.1.length + ([x4.Res] : List Int).length) * 8 ≤ 140737488355328)) (k3 (v2.1 ++ ([x4.Res] : List Int)))) (k3 v2.1)) (fun k5 => fk (decide (x4.At < a1)) (k5 (decide (a1 < (wr (x4.At + x4.Len))))) (k5 false)))) (some v2.1)) FU ([], (0 : Int)))
theorem task_Held_w (a0 : Task) (a1 : Int) (r : List Int) (h : task_Held a0 a1 = some r) : Go.VC.Spec Tryz.prog 139 [.agg (Task.enc a0), .d (.int .i64 a1)] (fun y => y = E_ListInt r) := by
  refine Go.VC.Spec.of_xc (args := [.agg (Task.enc a0), .d (.int .i64 a1)]) (fn := Tryz.f139) tab ⟨[(0, [1, 2]), (1, [1, 2, 10]), (2, [4]), (3, [1, 2, 5]), (4, [1, 5, 12, 13, 14]), (5, [1, 5, 12, 13, 14, 15]), (6, [1, 5, 7, 12, 13, 14]), (7, [1, 5, 7, 12, 13, 14, 30]), (8, [1, 5, 12, 13, 14]), (9, [1, 5, 12, 13, 14]), (10, [4])], [], [100030, 9], []⟩ 38 [.tmp 4] rfl rfl rfl rfl rfl rfl ?_
  conv => whnf
  refine caS (E := E_Bool) h (task_Right_w a0) rfl (fun _ => rfl) (fun x1 h => ?_)
  conv => whnf
  refine fkS h (fun h => ?_) (fun h => ?_)
  · conv => whnf
    exact rt (E := E_ListInt) h rfl
  conv => whnf
  refine lenS a0.Secs Sec.enc rfl ?_
  conv => whnf
  refine lpS (fun v2 => ⟨[(1, .l (.d (.int .i64 a1))), (5, .l (.own 6)), (12, .l (.d (.sl (a0.Secs.map Sec.enc)))), (13, .l (.d (.int .i64 (a0.Secs.length : Int)))), (14, .l (.d (.int .i64 v2.2)))], 38, [], [], [(6, 3, 1, v2.1.map (eI .i64))]⟩) h (Weak.trans (Weak.nilO _ 5 6 3 1 rfl) (Weak.refl _)) (fun _ nx2 hn2 v2 h => ?_)
  conv => whnf
  refine fkS h (fun h => ?_) (fun h => ?_)
  · conv => whnf
    refine jnS (fun w3 => ⟨[(1, .l (.d (.int .i64 a1))), (5, .l (.own 6)), (12, .l (.d (.sl (a0.Secs.map Sec.enc)))), (13, .l (.d (.int .i64 (a0.Secs.length : Int)))), (14, .l (.d (.int .i64 v2.2)))], 38, [], [], [(6, 3, 1, w3.map (eI .i64))]⟩) h (fun k3 hk3 h => ?_) (fun w3 h => ?_)
    · conv => whnf
      refine ixS (enc := Sec.enc) h rfl (fun _ => rfl) (fun x4 h => ?_)
      conv => whnf
      refine jnS (fun w5 => ⟨[(1, .l (.d (.int .i64 a1))), (5, .l (.own 6)), (7, .l (.ptr 8 0)), (12, .l (.d (.sl (a0.Secs.map Sec.enc)))), (13, .l (.d (.int .i64 (a0.Secs.length : Int)))), (14, .l (.d (.int .i64 v2.2))), (30, .l (.d (.bool w5)))], 38, [], [(8, [.d (.int .i64 x4.Res), .d (.int .i64 x4.At), .d (.int .i64 x4.Len)])], [(6, 3, 1, v2.1.map (eI .i64))]⟩) h (fun k5 hk5 h => ?_) (fun w5 h => ?_)
      · conv => whnf
        refine fkS h (fun h => ?_) (fun h => ?_)
        · conv => whnf
          exact jeS hk5 h (Weak.refl _)
        conv => whnf
        exact jeS hk5 h (Weak.refl _)
      conv => whnf
      refine fkS h (fun h => ?_) (fun h => ?_)
      · conv => whnf
        refine liS ([x4.Res] : List Int) (eI .i64) rfl rfl ?_
        conv => whnf
        refine apS (enc := (eI .i64)) (l1 := v2.1) (l2 := ([x4.Res] : List Int)) h rfl rfl (fun _ => rfl) (fun h => ?_)
        conv => whnf
        exact jeS hk3 h (Weak.refl _)
      conv => whnf
      refine jeX hk3 h ?_
      conv => whnf
      refine WkF.step (Weak.keepS _ [1, 5, 12, 13, 14]) ?_
      conv => whnf
      exact WkF.refl _
    conv => whnf
    exact leS hn2 h (Weak.refl _)
  conv => whnf
  exact rt (E := E_ListInt) h rfl

end Go.Proofs.YtpephpefjddgcaaGreat
namespace Go.Proofs.YtpephpefjddgcaaGreat
open Go Go.VC

/-! ### Tasks -/
def fitsP (a b : Sec) : Prop := a.At + a.Len ≤ b.At ∨ (a.At ≤ b.At ∧ b.At + b.Len ≤ a.At + a.Len ∧ a.Res ≠ b.Res)
def secP (C : Int) (s : Sec) : Prop := 0 ≤ s.Res ∧ s.Res < 4 ∧ 0 ≤ s.At ∧ s.At < C ∧ 1 ≤ s.Len ∧ s.Len ≤ C - s.At
def ownP (t : Task) : Prop := 1 ≤ t.C ∧ t.C ≤ t.D ∧ t.D ≤ t.T ∧ t.T ≤ 200 ∧ t.Secs.length ≤ 4
def RightP (t : Task) : Prop := ownP t ∧ (∀ s ∈ t.Secs, secP t.C s) ∧ t.Secs.Pairwise fitsP
instance (a b : Sec) : Decidable (fitsP a b) := by unfold fitsP; infer_instance
instance (C : Int) (s : Sec) : Decidable (secP C s) := by unfold secP; infer_instance
instance (t : Task) : Decidable (ownP t) := by unfold ownP; infer_instance
instance (t : Task) : Decidable (RightP t) := by unfold RightP; infer_instance
def right (t : Task) : Bool := decide (RightP t)

def AllP (l : List Task) : Prop := (∀ t ∈ l, RightP t) ∧ l.length ≤ 8
instance (l : List Task) : Decidable (AllP l) := by unfold AllP; infer_instance
def holds (had : Int) (s : Sec) : Bool := decide (s.At < had) && decide (had < s.At + s.Len)
def heldL (had : Int) (l : List Sec) : List Int := (l.filter (holds had)).map (·.Res)
def held (t : Task) (had : Int) : List Int := if right t = true then heldL had t.Secs else []
theorem RightP.len {t : Task} (h : RightP t) : t.Secs.length ≤ 4 := h.1.2.2.2.2
theorem RightP.c {t : Task} (h : RightP t) : 1 ≤ t.C ∧ t.C ≤ t.D ∧ t.D ≤ t.T ∧ t.T ≤ 200 := ⟨h.1.1, h.1.2.1, h.1.2.2.1, h.1.2.2.2.1⟩

def usesP (t : Task) (res : Int) : Prop := RightP t ∧ ∃ s ∈ t.Secs, s.Res = res
instance (t : Task) (res : Int) : Decidable (usesP t res) := by unfold usesP; infer_instance
def GreatP (l : List Task) : Prop := (∃ t ∈ l, 20 < t.Secs.length) ∨ 20 < l.length
instance (l : List Task) : Decidable (GreatP l) := by unfold GreatP; infer_instance
theorem Task.wf.len {t : Task} (h : t.wf) : t.Secs.length ≤ 4611686018427387904 := by have := h.2.2.2.1; unfold BB at this; omega
theorem wfI_8 {n : Int} (h : wfI .u8 n) : 0 ≤ n ∧ n ≤ 255 := by
  unfold wfI at h
  simp only [Lit.wf, Bool.and_eq_true, decide_eq_true_eq] at h
  have h1 : IntKind.u8.min = 0 := rfl
  have h2 : IntKind.u8.max = 255 := rfl
  rwa [h1, h2] at h


/-! ### Levels -/
def maxL {α : Type} (f : α → Nat) : List α → Nat
  | [] => 0
  | x :: r => max (f x) (maxL f r)
/-! The document's. -/
theorem AllP.len {l : List Task} (h : AllP l) : l.length ≤ 4611686018427387904 := by have := h.2; omega
def sumI {α : Type} (f : α → Int) : List α → Int
  | [] => 0
  | x :: r => f x + sumI f r
def inM (x : Int) : Prop := -4611686018427387903 ≤ x ∧ x ≤ 4611686018427387903
instance (x : Int) : Decidable (inM x) := by unfold inM; infer_instance
theorem arith_may_eq (l : List Int) (hl : l.length ≤ 1000) : arith_may l = some (decide (∀ x ∈ l, inM x)) := by
  unfold arith_may
  refine lp_up l.length (by unfold FU; omega) (fun k => ∀ j (h : j < l.length), j < k → inM l[j]) (fun j _ h => by omega) ?_
  intro nx k hk J hnx
  simp only [jn_eq]
  rw [lt_nat]
  by_cases h : k < l.length
  · rw [decide_eq_true h, fk_t, ix_lt h, wr_succ k _ h (by omega), fk_t]
    have bad : ¬ inM l[k] → some false = some (decide (∀ x ∈ l, inM x)) := fun hb => dec_f fun ha => hb (ha _ (List.getElem_mem h))
    by_cases c1 : l[k] > 4611686018427387903
    · rw [decide_eq_true c1, fk_t]; exact bad fun hh => by unfold inM at hh; omega
    rw [decide_eq_false c1, fk_f]
    by_cases c2 : l[k] < -4611686018427387903
    · rw [decide_eq_true c2, fk_t]; exact bad fun hh => by unfold inM at hh; omega
    rw [decide_eq_false c2, fk_f]
    refine hnx h fun j hj hjk => ?_
    by_cases e : j = k
    · subst e; unfold inM; omega
    · exact J j hj (by omega)
  · rw [decide_eq_false h, fk_f]
    refine dec_t fun x hx => ?_
    obtain ⟨j, hj, rfl⟩ := List.getElem_of_mem hx
    exact J j hj (by omega)
theorem arith_may2 (a b : Int) : arith_may [a, b] = some (decide (inM a ∧ inM b)) := by
  rw [arith_may_eq _ (by simp)]; refine dec_iff ?_; simp
def jobsN (t : Task) (k : Int) : Int := if k < t.D then 0 else (k - t.D) / t.T + 1
def costN (k : Int) (t : Task) : Int := t.C * jobsN t k
def sumB (l : List Task) (k : Int) : Int := sumI (costN k) l
def askP (l : List Task) (k : Int) : Prop := AllP l ∧ 0 ≤ k ∧ k ≤ 4611686018427387903
instance (l : List Task) (k : Int) : Decidable (askP l k) := by unfold askP; infer_instance
/-! ### Patterns -/
def rowP (T : Int) (r : List Int) : Prop := r.length ≤ 1000 ∧ ∀ j (h : j < r.length), 0 ≤ r[j] ∧ r[j] ≤ 4611686018427387903 ∧ (0 < j → r[j - 1] + T ≤ r[j])
def patP (l : List Task) (a : List (List Int)) : Prop := AllP l ∧ a.length = l.length ∧ ∀ i (h : i < a.length) (h2 : i < l.length), rowP l[i].T a[i]
noncomputable instance (l : List Task) (a : List (List Int)) : Decidable (patP l a) := Classical.propDecidable _
/-! ### Blocking -/
def sharedP (l : List Task) (t res : Int) : Prop := ∃ x ∈ l, x.D ≤ t ∧ usesP x res
instance (l : List Task) (t res : Int) : Decidable (sharedP l t res) := by unfold sharedP; infer_instance
def secN (l : List Task) (t : Int) (s : Sec) : Nat := if sharedP l t s.Res then s.Len.toNat else 0
def taskN (l : List Task) (t : Int) (x : Task) : Nat := if x.D ≤ t then 0 else maxL (secN l t) x.Secs
def blockV (l : List Task) (t : Int) : Nat := maxL (taskN l t) l
theorem RightP.sl {t : Task} (h : RightP t) {s : Sec} (hs : s ∈ t.Secs) : 1 ≤ s.Len ∧ s.Len ≤ 200 := by
  have h1 := h.2.1 s hs
  have h2 := h.c
  unfold secP at h1
  omega
/-! Where it may change. -/
/-! The least supply. -/
def faceP (f : Face) : Prop := 1 ≤ f.B ∧ f.B ≤ f.P ∧ f.P ≤ 200
instance (f : Face) : Decidable (faceP f) := by unfold faceP; infer_instance
theorem supply_Right_eq (f : Face) : supply_Right f = some (decide (faceP f)) := by
  unfold supply_Right
  simp only [fk_if, decide_eq_true_eq]
  repeat' split
  all_goals first
    | exact dec_iff (by unfold faceP; omega)
    | exact dec_f (by unfold faceP; omega)
theorem ref09_Right_eq (f : Face) : ref09_Right f = some (decide (faceP f)) := by
  unfold ref09_Right
  simp only [fk_if, decide_eq_true_eq]
  repeat' split
  all_goals first
    | exact dec_iff (by unfold faceP; omega)
    | exact dec_f (by unfold faceP; omega)
def max0 (x : Int) : Int := if x > 0 then x else 0
def supV (f : Face) (t : Int) : Int := if t < f.P - f.B then 0 else ((t - (f.P - f.B)) / f.P) * f.B + max0 (t - 2 * (f.P - f.B) - ((t - (f.P - f.B)) / f.P) * f.P)
theorem supV_qr {f : Face} (hf : faceP f) {t q r : Int} (ht : t = (f.P - f.B) + q * f.P + r) (hq : 0 ≤ q) (hr : 0 ≤ r) (hr2 : r < f.P) : supV f t = q * f.B + max0 (r - (f.P - f.B)) := by
  unfold faceP at hf
  have hqP : 0 ≤ q * f.P := Int.mul_nonneg hq (by omega)
  have e : (t - (f.P - f.B)) / f.P = q := by
    rw [ht, show f.P - f.B + q * f.P + r - (f.P - f.B) = r + q * f.P by omega, Int.add_mul_ediv_right _ _ (by omega), Int.ediv_eq_zero_of_lt hr hr2]; omega
  unfold supV
  rw [if_neg (by omega), e, show t - 2 * (f.P - f.B) - q * f.P = r - (f.P - f.B) by omega]
theorem supV_low {f : Face} {t : Int} (h : t < f.P - f.B) : supV f t = 0 := by unfold supV; rw [if_pos h]
theorem qr_of {f : Face} (hf : faceP f) {t : Int} (h : f.P - f.B ≤ t) : ∃ q r, t = (f.P - f.B) + q * f.P + r ∧ 0 ≤ q ∧ 0 ≤ r ∧ r < f.P := by
  unfold faceP at hf
  refine ⟨(t - (f.P - f.B)) / f.P, (t - (f.P - f.B)) % f.P, ?_, Int.ediv_nonneg (by omega) (by omega), Int.emod_nonneg _ (by omega), Int.emod_lt_of_pos _ (by omega)⟩
  have := Int.mul_ediv_add_emod (t - (f.P - f.B)) f.P
  rw [Int.mul_comm] at this
  omega
theorem max0_b (x : Int) : 0 ≤ max0 x ∧ x ≤ max0 x ∧ (max0 x = 0 ∨ max0 x = x) := by unfold max0; split <;> omega
theorem supply_Bound_eq (f : Face) (t : Int) : supply_Bound f t = some (if faceP f ∧ 0 ≤ t ∧ t ≤ 4611686018427387903 then supV f t else 0, if faceP f ∧ 0 ≤ t ∧ t ≤ 4611686018427387903 then 0 else 1) := by
  unfold supply_Bound
  simp only [jn_eq, fk_t, fk_f]
  rw [bnd_eq (supply_Right_eq f)]
  by_cases hf : faceP f
  rotate_left
  · rw [decide_eq_false hf, Bool.not_false, fk_t, if_neg (fun h => hf h.1), if_neg (fun h => hf h.1)]
  rw [decide_eq_true hf, Bool.not_true, fk_f]
  by_cases c1 : t < 0
  · rw [decide_eq_true c1, fk_t, if_neg (fun h => by omega), if_neg (fun h => by omega)]
  rw [decide_eq_false c1, fk_f]
  by_cases c2 : t > 4611686018427387903
  · rw [decide_eq_true c2, fk_t, if_neg (fun h => by omega), if_neg (fun h => by omega)]
  have hf' := hf
  unfold faceP at hf'
  have hA : faceP f ∧ 0 ≤ t ∧ t ≤ 4611686018427387903 := ⟨hf, by omega, by omega⟩
  rw [show (if faceP f ∧ 0 ≤ t ∧ t ≤ 4611686018427387903 then supV f t else 0) = supV f t from if_pos hA, show (if faceP f ∧ 0 ≤ t ∧ t ≤ 4611686018427387903 then (0 : Int) else 1) = 0 from if_pos hA]
  rw [decide_eq_false c2, fk_f, wr_in (f.P - f.B) (by omega)]
  by_cases c3 : t < f.P - f.B
  · rw [decide_eq_true c3, fk_t, supV_low c3]
  obtain ⟨q, r, ht, hq, hr, hr2⟩ := qr_of hf (show f.P - f.B ≤ t by omega)
  have h1 : 0 ≤ q * f.B := Int.mul_nonneg hq (by omega)
  have h2 : q * f.B ≤ q * f.P := Int.mul_le_mul_of_nonneg_left (by omega) hq
  have h3 := max0_b (r - (f.P - f.B))
  have e : (t - (f.P - f.B)).tdiv f.P = q := by
    rw [Int.tdiv_eq_ediv_of_nonneg (by omega), ht, show f.P - f.B + q * f.P + r - (f.P - f.B) = r + q * f.P by omega, Int.add_mul_ediv_right _ _ (by omega), Int.ediv_eq_zero_of_lt hr hr2]; omega
  have hqq : q ≤ q * f.P := by
    have := Int.mul_le_mul_of_nonneg_left (show (1 : Int) ≤ f.P by omega) hq
    omega
  rw [decide_eq_false c3, fk_f, ck_t (decide_eq_true (by omega)), wr_in (t - (f.P - f.B)) (by omega), e, wr_in q (by omega), wr_in (2 * (f.P - f.B)) (by omega), wr_in (t - 2 * (f.P - f.B)) (by omega), wr_in (q * f.P) (by omega), wr_in (q * f.B) (by omega), wr_in (t - 2 * (f.P - f.B) - q * f.P) (by omega), supV_qr hf ht hq hr hr2]
  have e2 : t - 2 * (f.P - f.B) - q * f.P = r - (f.P - f.B) := by omega
  rw [e2]
  show some (wr (q * f.B + max0 (r - (f.P - f.B))), (0 : Int)) = _
  rw [wr_in _ (by omega)]
/-- One tick more. -/
def worstP (f : Face) (i : Int) : Prop := if i < f.P then i < f.B else i % f.P ≥ f.P - f.B
instance (f : Face) (i : Int) : Decidable (worstP f i) := by unfold worstP; infer_instance
/-! Need. -/
def needV (l : List Task) (t : Int) : Int := sumB l t + (blockV l t : Int)
/-! Cycles. -/
theorem arith_Gcd_eq (a b : Int) (ha : 0 ≤ a) (ha2 : a ≤ 4611686018427387903) (hb : 0 ≤ b) (hb2 : b ≤ 4611686018427387903) : arith_Gcd a b = some (((Nat.gcd a.toNat b.toNat : Nat) : Int), 0) := by
  unfold arith_Gcd
  simp only [jn_eq, fk_t, fk_f]
  rw [bnd_eq (arith_may2 a b), decide_eq_true (by unfold inM; omega), Bool.not_true, fk_f, decide_eq_false (show ¬ a < 0 by omega), fk_f, decide_eq_false (show ¬ b < 0 by omega), fk_f]
  refine lp_inv (fun v => v.2.toNat) (fun v => ∃ x y : Nat, v = ((x : Int), (y : Int)) ∧ Nat.gcd x y = Nat.gcd a.toNat b.toNat) ?_ FU _ ⟨a.toNat, b.toNat, by rw [Int.toNat_of_nonneg ha, Int.toNat_of_nonneg hb], rfl⟩ (by unfold FU; simp only; omega)
  rintro nx v ⟨x, y, rfl, hg⟩ hnx
  simp only
  by_cases h : (y : Int) > 0
  · rw [decide_eq_true h, fk_t, ck_t (decide_eq_true (by omega)), Int.tmod_eq_emod_of_nonneg (by omega)]
    have e : (x : Int) % (y : Int) = ((x % y : Nat) : Int) := rfl
    rw [e]
    refine hnx _ ⟨y, x % y, rfl, ?_⟩ (by simp only [Int.toNat_natCast]; exact Nat.mod_lt _ (by omega))
    rw [← hg, Nat.gcd_comm x y, Nat.gcd_rec y x, Nat.gcd_comm]
  · rw [decide_eq_false h, fk_f]
    have : y = 0 := by omega
    subst this
    rw [← hg, Nat.gcd_zero_right]
theorem arith_Mul_small (a b : Int) (ha : 1 ≤ a) (ha2 : a ≤ 3000) (hb : 1 ≤ b) (hb2 : b ≤ 200) : arith_Mul a b = some (a * b, 0) := by
  unfold arith_Mul
  simp only [jn_eq, fk_t, fk_f]
  have h1 : a * b ≤ 3000 * 200 := Int.mul_le_mul ha2 hb2 (by omega) (by omega)
  have h2 : 0 ≤ a * b := Int.mul_nonneg (by omega) (by omega)
  have h3 : 4611686018427387903 / b ≥ 23058430092136939 := by
    exact (Int.le_ediv_iff_mul_le (by omega)).2 (by omega)
  rw [bnd_eq (arith_may2 a b), decide_eq_true (by unfold inM; omega), Bool.not_true, fk_f, decide_eq_false (show ¬ a = 0 by omega), fk_f, decide_eq_false (show ¬ b = 0 by omega), fk_f]
  have wa : IntKind.i64.wrap (0 - a) = 0 - a := wr_in _ (by omega)
  have wb : IntKind.i64.wrap (0 - b) = 0 - b := wr_in _ (by omega)
  rw [wa, wb, if_neg (show ¬ 0 - b > b by omega), if_neg (show ¬ 0 - a > a by omega), ck_t (decide_eq_true (by omega)), Int.tdiv_eq_ediv_of_nonneg (by omega)]
  have h4 : 4611686018427387903 / b ≤ 4611686018427387903 := Int.ediv_le_self _ (by omega)
  rw [wr_in (4611686018427387903 / b) (by omega), decide_eq_false (by omega), fk_f, wr_in _ (by omega)]
theorem arith_Lcm_eq (a b : Nat) (ha : 1 ≤ a) (ha2 : a ≤ 3000) (hb : 1 ≤ b) (hb2 : b ≤ 200) : arith_Lcm (a : Int) (b : Int) = some (((Nat.lcm a b : Nat) : Int), 0) := by
  unfold arith_Lcm
  simp only [jn_eq, fk_t, fk_f]
  rw [decide_eq_false (show ¬ (a : Int) < 1 by omega), fk_f, decide_eq_false (show ¬ (b : Int) < 1 by omega), fk_f, bnd_eq (arith_Gcd_eq _ _ (by omega) (by omega) (by omega) (by omega)), decide_eq_true rfl, Bool.not_true, fk_f]
  simp only [Int.toNat_natCast]
  have hg : 0 < Nat.gcd a b := Nat.gcd_pos_of_pos_left _ (by omega)
  have hd := Nat.gcd_dvd_left a b
  have hk : 1 ≤ a / Nat.gcd a b := Nat.div_pos (Nat.le_of_dvd (by omega) hd) hg
  have hk2 : a / Nat.gcd a b ≤ a := Nat.div_le_self _ _
  have e : (a : Int).tdiv (Nat.gcd a b : Int) = ((a / Nat.gcd a b : Nat) : Int) := by rw [Int.tdiv_eq_ediv_of_nonneg (by omega)]; rfl
  rw [ck_t (decide_eq_true (by omega)), e, wr_in _ (by omega), bnd_eq (arith_Mul_small _ _ (by omega) (by omega) (by omega) (by omega))]
  have : Nat.lcm a b = a / Nat.gcd a b * b := by
    unfold Nat.lcm
    exact (Nat.div_mul_right_comm hd b).symm
  rw [this]; simp
def lcmL (P : Nat) (l : List Task) : Nat := l.foldl (fun c t => Nat.lcm c t.T.toNat) P
def farL (x : Int) (l : List Task) : Int := l.foldl (fun m t => if t.D > m then t.D else m) x
theorem AllP.T {l : List Task} (h : AllP l) {t : Task} (ht : t ∈ l) : 1 ≤ t.T ∧ t.T ≤ 200 ∧ 1 ≤ t.C ∧ t.C ≤ 200 ∧ 1 ≤ t.D ∧ t.D ≤ 200 ∧ t.C ≤ t.D ∧ t.D ≤ t.T := by
  have := (h.1 t ht).1
  unfold ownP at this
  omega
def cyc (l : List Task) (f : Face) : Nat := lcmL f.P.toNat l
def farv (l : List Task) (f : Face) : Int := farL (2 * f.P) l
def okC (l : List Task) (f : Face) : Prop := AllP l ∧ faceP f ∧ (cyc l f : Int) + farv l f ≤ 3000
noncomputable instance (l : List Task) (f : Face) : Decidable (okC l f) := Classical.propDecidable _
/-! The first tick for which tasks don't fit. -/
def badB (l : List Task) (f : Face) (t : Nat) : Bool := decide (needV l t > supV f t)
def badV (l : List Task) (f : Face) (e : Nat) : Option Nat := (List.range (e + 1)).find? (badB l f)
def endN (l : List Task) (f : Face) : Nat := ((cyc l f : Int) + farv l f).toNat
/-! What is asked for in a cycle. -/
def askC (c : Int) (t : Task) : Int := t.C * (c / t.T)
def asked (l : List Task) (c : Int) : Int := sumI (askC c) l
def givenC (f : Face) (c : Int) : Int := f.B * (c / f.P)
def fitsF (l : List Task) (f : Face) : Prop := okC l f ∧ asked l (cyc l f) ≤ givenC f (cyc l f) ∧ badV l f (endN l f) = none
noncomputable instance (l : List Task) (f : Face) : Decidable (fitsF l f) := Classical.propDecidable _
/-! From the end on all goes on by cycles. -/
/-! Fewer tasks; more of a budget. -/
theorem AllP.sub {l l' : List Task} (h : AllP l) (hs : l'.Sublist l) : AllP l' := ⟨fun t ht => h.1 t (hs.subset ht), Nat.le_trans hs.length_le h.2⟩
end Go.Proofs.YtpephpefjddgcaaGreat
namespace Go.Proofs.YtpephpefjddgcaaGreat
open Go Go.VC
/-! The least interface of a period. -/
theorem jn_to {σ R : Type} {Y : σ → Option R} {X : (σ → Option R) → Option R} {r : Option R} (v : σ) (hX : ∀ k, X k = k v) (hY : Y v = r) : jn Y X = r := by
  rw [jn_eq, hX]; exact hY
/-! Tables. -/
def inW (w : Window) (x : Int) : Prop := w.From ≤ x ∧ x < w.From + w.Len
instance (w : Window) (x : Int) : Decidable (inW w x) := by unfold inW; infer_instance
def whoV : List Window → Int → Int
  | [], _ => -1
  | w :: r, x => if inW w x then w.Part else whoV r x
def winP (F : Int) (w : Window) : Prop := 0 ≤ w.Part ∧ w.Part < 4 ∧ 0 ≤ w.From ∧ 1 ≤ w.Len ∧ w.From + w.Len ≤ F
structure tabP (t : TableTable) : Prop where
  f1 : 1 ≤ t.Frame
  f2 : t.Frame ≤ 240
  w : ∀ w ∈ t.Windows, winP t.Frame w
  p : t.Windows.Pairwise fun a b => a.From + a.Len ≤ b.From
  c : ∀ (i : Nat) (a b : Window), t.Windows[i]? = some a → t.Windows[i + 1]? = some b → ¬ (a.From + a.Len = b.From ∧ b.Part = a.Part)
  l : t.Windows.length ≤ 240
theorem whoV_none {l : List Window} {x : Int} (h : ∀ a ∈ l, ¬ inW a x) : whoV l x = -1 := by
  induction l with
  | nil => rfl
  | cons a r ih =>
    unfold whoV
    rw [if_neg (h a List.mem_cons_self)]
    exact ih fun b hb => h b (List.mem_cons_of_mem _ hb)
theorem whoV_snoc {l : List Window} {w : Window} {x : Int} (h : ∀ a ∈ l, a.From + a.Len ≤ w.From) : whoV (l ++ [w]) x = if inW w x then w.Part else whoV l x := by
  induction l with
  | nil => rfl
  | cons a r ih =>
    have ih := ih fun b hb => h b (List.mem_cons_of_mem _ hb)
    have ha := h a List.mem_cons_self
    show (if inW a x then a.Part else whoV (r ++ [w]) x) = if inW w x then w.Part else (if inW a x then a.Part else whoV r x)
    rw [ih]
    by_cases c : inW a x
    · have : ¬ inW w x := fun hw => by unfold inW at *; omega
      rw [if_pos c, if_neg this, if_pos c]
    · rw [if_neg c, if_neg c]
theorem table_may_eq (w : Window) (F : Int) (hF : 0 ≤ F) (hF2 : F ≤ 240) (h : winP F w) : table_may w F = some true := by
  unfold winP at h
  unfold table_may
  rw [decide_eq_true (by omega), fk_t, decide_eq_true (by omega), fk_t, decide_eq_true (by omega), fk_t, decide_eq_true (by omega), fk_t, decide_eq_true (by omega), fk_t, wr_in _ (by omega), decide_eq_true (by omega)]
theorem table_Right_t {t : TableTable} (h : tabP t) : table_Right t = some true := by
  have hl := h.l
  have f1 := h.f1
  have f2 := h.f2
  unfold table_Right
  refine lp_inv (fun v => t.Windows.length - v.2.2.toNat) (fun v => ∃ k : Nat, v.2.2 = (k : Int) ∧ k ≤ t.Windows.length ∧ ((k = 0 ∧ v.1 = 0 ∧ v.2.1 = -1) ∨ ∃ j a, k = j + 1 ∧ t.Windows[j]? = some a ∧ v.1 = a.From + a.Len ∧ v.2.1 = a.Part)) ?_ FU _ ⟨0, rfl, Nat.zero_le _, .inl ⟨rfl, rfl, rfl⟩⟩ (by unfold FU; simp only; omega)
  rintro nx ⟨e, last, kk⟩ ⟨k, hkk, hk, hJ⟩ hnx
  simp only at hkk hJ
  subst hkk
  dsimp only
  rw [lt_nat]
  by_cases c : k < t.Windows.length
  rotate_left
  · rw [decide_eq_false c, fk_f, decide_eq_true (by omega), fk_t, decide_eq_true (by omega)]
  have hw := h.w _ (List.getElem_mem c)
  have hwk : t.Windows[k]? = some t.Windows[k] := List.getElem?_eq_getElem c
  rw [decide_eq_true c, fk_t, ix_lt c, wr_succ k _ c (by omega)]
  have hw' := hw
  unfold winP at hw'
  refine jn_to false (fun k3 => ?_) ?_
  · rw [bnd_eq (table_may_eq _ _ (by omega) f2 hw), Bool.not_true, fk_f]
    rcases hJ with ⟨_, rfl, rfl⟩ | ⟨j, a, rfl, ha, rfl, rfl⟩
    · rw [decide_eq_false (by omega), fk_f]
      by_cases c0 : t.Windows[k].From = 0
      · rw [decide_eq_true c0, fk_t, decide_eq_false (by omega)]
      · rw [decide_eq_false c0, fk_f]
    · have hp : a.From + a.Len ≤ t.Windows[j + 1].From := by
        have hj : j < t.Windows.length := (List.getElem?_eq_some_iff.1 ha).1
        have := List.pairwise_iff_getElem.1 h.p j (j + 1) hj c (by omega)
        rw [List.getElem?_eq_getElem hj] at ha
        cases ha
        exact this
      have hc := h.c j a _ ha hwk
      rw [decide_eq_false (by omega), fk_f]
      by_cases c0 : t.Windows[j + 1].From = a.From + a.Len
      · rw [decide_eq_true c0, fk_t, decide_eq_false (fun hh => hc ⟨c0.symm, hh⟩)]
      · rw [decide_eq_false c0, fk_f]
  · rw [fk_f, wr_in _ (by omega)]
    exact hnx _ ⟨k + 1, rfl, c, .inr ⟨k, _, rfl, hwk, rfl, rfl⟩⟩ (by simp only [Int.toNat_natCast]; omega)
/-- The table of ticks. -/
structure ofI (n : Int) (ts : List Int) (k : Nat) (last : Int) (W : List Window) : Prop where
  w : ∀ w ∈ W, winP n w ∧ w.From + w.Len ≤ (k : Int)
  p : W.Pairwise fun a b => a.From + a.Len ≤ b.From
  c : ∀ (i : Nat) (a b : Window), W[i]? = some a → W[i + 1]? = some b → ¬ (a.From + a.Len = b.From ∧ b.Part = a.Part)
  l : W.length ≤ k
  v : ∀ x : Nat, x < k → ∀ y, ts[x]? = some y → whoV W (x : Int) = y
  e1 : last ≠ -1 → ∃ W0 w, W = W0 ++ [w] ∧ w.Part = last ∧ w.From + w.Len = (k : Int)
  e2 : ∀ W0 w, W = W0 ++ [w] → w.From + w.Len = (k : Int) → w.Part = last
theorem table_Of_ex (ts : List Int) (h1 : 1 ≤ ts.length) (h2 : ts.length ≤ 240) (h3 : ∀ x ∈ ts, -1 ≤ x ∧ x < 4) : ∃ t, table_Of ts = some (t, 0) ∧ tabP t ∧ t.Frame = (ts.length : Int) ∧ ∀ x : Nat, ∀ y, ts[x]? = some y → whoV t.Windows (x : Int) = y := by
  have key : ∃ r : TableTable × Int, table_Of ts = some r ∧ (r.2 = 0 ∧ tabP r.1 ∧ r.1.Frame = (ts.length : Int) ∧ ∀ x : Nat, ∀ y, ts[x]? = some y → whoV r.1.Windows (x : Int) = y) := by
    unfold table_Of
    rw [jn_eq, decide_eq_false (by omega), fk_f, decide_eq_false (by omega)]
    dsimp only
    rw [fk_f]
    refine lp_ex (fun v => ts.length - v.2.2.toNat) (fun v => ∃ (k : Nat) (last : Int) (W : List Window), v = (last, W, (k : Int)) ∧ k ≤ ts.length ∧ ofI (ts.length : Int) ts k last W) (fun r : TableTable × Int => r.2 = 0 ∧ tabP r.1 ∧ r.1.Frame = (ts.length : Int) ∧ ∀ x : Nat, ∀ y, ts[x]? = some y → whoV r.1.Windows (x : Int) = y) ?_ FU _ ⟨0, -1, [], rfl, Nat.zero_le _, ⟨fun w h => (List.not_mem_nil h).elim, List.Pairwise.nil, fun i a b h => by simp at h, Nat.le_refl _, fun x h => by omega, fun h => absurd rfl h, fun W0 w h => by simp at h⟩⟩ (by unfold FU; simp only; omega)
    rintro nx v ⟨k, last, W, rfl, hk, J⟩ hnx
    dsimp only
    rw [lt_nat]
    by_cases c : k < ts.length
    rotate_left
    · have e : k = ts.length := by omega
      subst e
      rw [decide_eq_false c, fk_f]
      refine ⟨_, rfl, rfl, ⟨by show (1 : Int) ≤ (ts.length : Int); omega, by show (ts.length : Int) ≤ 240; omega, fun w hw => (J.w w hw).1, J.p, J.c, by show W.length ≤ 240; have := J.l; omega⟩, rfl, fun x y hx => J.v x (List.getElem?_eq_some_iff.1 hx).1 y hx⟩
    have hb := h3 _ (List.getElem_mem c)
    have hty : ts[k]? = some ts[k] := List.getElem?_eq_getElem c
    rw [decide_eq_true c, fk_t, ix_lt c, wr_succ k _ c (by omega)]
    generalize ts[k] = y at *
    rw [jn_eq, decide_eq_false (show ¬ y < -1 by omega), fk_f, decide_eq_false (show ¬ y ≥ 4 by omega)]
    dsimp only
    rw [fk_f]
    have go : ∀ W', ofI (ts.length : Int) ts (k + 1) y W' → ∃ r, nx (y, W', ((k + 1 : Nat) : Int)) = some r ∧ (r.2 = 0 ∧ tabP r.1 ∧ r.1.Frame = (ts.length : Int) ∧ ∀ x : Nat, ∀ y, ts[x]? = some y → whoV r.1.Windows (x : Int) = y) := fun W' h' => hnx _ ⟨k + 1, y, W', rfl, c, h'⟩ (by simp only [Int.toNat_natCast]; omega)
    rw [jn_eq, jn_eq]
    by_cases c1 : y = last ∧ y ≠ -1
    · obtain ⟨rfl, cy⟩ := c1
      obtain ⟨W0, w, rfl, hwp, hwe⟩ := J.e1 cy
      have hlen : (W0 ++ [w]).length = W0.length + 1 := by simp
      have hlt : W0.length < (W0 ++ [w]).length := by omega
      have hget : (W0 ++ [w])[W0.length] = w := by simp
      have hl240 := J.l
      rw [decide_eq_true rfl, fk_t, decide_eq_false cy]
      dsimp only
      rw [Bool.not_false, fk_t, hlen]
      have ei : wr (((W0.length + 1 : Nat) : Int) - 1) = (W0.length : Int) := by rw [wr_in _ (by omega)]; omega
      have hJw := J.w w (by simp)
      have hwin := hJw.1
      unfold winP at hwin
      rw [ei, Int.toNat_natCast, ck_t (by simp; omega), ox_lt hlt, ck_t (by simp; omega), ox_lt hlt, hget, wr_in (w.Len + 1) (by omega)]
      have hset : (W0 ++ [w]).set W0.length ⟨w.Part, w.From, w.Len + 1⟩ = W0 ++ [⟨w.Part, w.From, w.Len + 1⟩] := by simp
      rw [hset]
      have hp := List.pairwise_append.1 J.p
      have hbefore : ∀ a ∈ W0, a.From + a.Len ≤ w.From := fun a ha => hp.2.2 a ha w (by simp)
      refine go _ ⟨fun a ha => ?_, ?_, fun i a b hA hB => ?_, by rw [List.length_append, List.length_singleton]; omega, fun x hx z hz => ?_, fun _ => ⟨W0, _, rfl, hwp, by show w.From + (w.Len + 1) = _; omega⟩, fun W1 w1 he hee => ?_⟩
      · rcases List.mem_append.1 ha with h | h
        · have := J.w a (List.mem_append_left _ h); exact ⟨this.1, by omega⟩
        · rw [List.mem_singleton.1 h]
          refine ⟨⟨hwin.1, hwin.2.1, hwin.2.2.1, by show 1 ≤ w.Len + 1; omega, by show w.From + (w.Len + 1) ≤ _; omega⟩, by show w.From + (w.Len + 1) ≤ _; omega⟩
      · exact List.pairwise_append.2 ⟨hp.1, List.pairwise_singleton _ _, fun a ha b hb => by rw [List.mem_singleton.1 hb]; exact hbefore a ha⟩
      · by_cases ci : i + 1 < W0.length
        · rw [List.getElem?_append_left ci] at hB
          rw [List.getElem?_append_left (by omega)] at hA
          exact J.c i a b (by rw [List.getElem?_append_left (by omega)]; exact hA) (by rw [List.getElem?_append_left ci]; exact hB)
        · have hlb := (List.getElem?_eq_some_iff.1 hB).1
          rw [List.length_append, List.length_singleton] at hlb
          have ei : i + 1 = W0.length := by omega
          rw [ei, List.getElem?_append_right (Nat.le_refl _), Nat.sub_self] at hB
          simp only [List.getElem?_cons_zero, Option.some.injEq] at hB
          subst hB
          rw [List.getElem?_append_left (by omega)] at hA
          exact J.c i a w (by rw [List.getElem?_append_left (by omega)]; exact hA) (by rw [ei, List.getElem?_append_right (Nat.le_refl _), Nat.sub_self]; rfl)
      · rw [whoV_snoc (w := (⟨w.Part, w.From, w.Len + 1⟩ : Window)) hbefore]
        by_cases cx : x < k
        · have := J.v x cx z hz
          rw [whoV_snoc hbefore] at this
          by_cases ci : inW w (x : Int)
          · rw [if_pos ci] at this
            rw [if_pos (by unfold inW at *; simp only; omega)]; exact this
          · rw [if_neg ci] at this
            rw [if_neg (by unfold inW at *; simp only; omega)]; exact this
        · have ex : x = k := by omega
          subst ex
          rw [hty] at hz
          cases hz
          rw [if_pos (by unfold inW; simp only; omega)]; exact hwp
      · have := List.append_inj' he rfl
        have e2 : w1 = ⟨w.Part, w.From, w.Len + 1⟩ := by have := this.2; simp at this; exact this.symm
        rw [e2]; exact hwp
    have tail : ∀ W', (y = -1 → W' = W) → (y ≠ -1 → W' = W ++ [⟨y, (k : Int), 1⟩]) → ofI (ts.length : Int) ts (k + 1) y W' := by
      intro W' hn hy
      by_cases cy : y = -1
      · rw [hn cy]
        refine ⟨fun a ha => ⟨(J.w a ha).1, by have := (J.w a ha).2; omega⟩, J.p, J.c, by have := J.l; omega, fun x hx z hz => ?_, fun h => absurd cy h, fun W0 w he hee => ?_⟩
        · by_cases cx : x < k
          · exact J.v x cx z hz
          · have ex : x = k := by omega
            subst ex
            rw [hty] at hz
            cases hz
            rw [whoV_none fun a ha hi => ?_, cy]
            have := (J.w a ha).2
            unfold inW at hi
            omega
        · have := (J.w w (by rw [he]; simp)).2
          omega
      · rw [hy cy]
        have hbefore : ∀ a ∈ W, a.From + a.Len ≤ (⟨y, (k : Int), 1⟩ : Window).From := fun a ha => (J.w a ha).2
        refine ⟨fun a ha => ?_, List.pairwise_append.2 ⟨J.p, List.pairwise_singleton _ _, fun a ha b hb => by rw [List.mem_singleton.1 hb]; exact hbefore a ha⟩, fun i a b hA hB => ?_, by rw [List.length_append, List.length_singleton]; have := J.l; omega, fun x hx z hz => ?_, fun _ => ⟨W, _, rfl, rfl, by show (k : Int) + 1 = _; omega⟩, fun W1 w1 he hee => ?_⟩
        · rcases List.mem_append.1 ha with h | h
          · exact ⟨(J.w a h).1, by have := (J.w a h).2; omega⟩
          · rw [List.mem_singleton.1 h]
            refine ⟨⟨by show 0 ≤ y; omega, by show y < 4; omega, by show (0 : Int) ≤ (k : Int); omega, Int.le_refl _, by show (k : Int) + 1 ≤ _; omega⟩, by show (k : Int) + 1 ≤ _; omega⟩
        · by_cases ci : i + 1 < W.length
          · rw [List.getElem?_append_left ci] at hB
            rw [List.getElem?_append_left (by omega)] at hA
            exact J.c i a b hA hB
          · have hlb := (List.getElem?_eq_some_iff.1 hB).1
            rw [List.length_append, List.length_singleton] at hlb
            have ei : i + 1 = W.length := by omega
            rw [ei, List.getElem?_append_right (Nat.le_refl _), Nat.sub_self] at hB
            simp only [List.getElem?_cons_zero, Option.some.injEq] at hB
            subst hB
            rw [List.getElem?_append_left (by omega)] at hA
            rintro ⟨g1, g2⟩
            simp only at g1 g2
            have hil : i < W.length := by omega
            have hW : W = W.take i ++ [a] := by
              have h1 := List.take_append_getElem hil
              have h2 : W.take (i + 1) = W := List.take_of_length_le (by omega)
              rw [h2] at h1
              rw [List.getElem?_eq_getElem hil] at hA
              cases hA
              exact h1.symm
            have := J.e2 _ a hW g1
            exact c1 ⟨by omega, cy⟩
        · rw [whoV_snoc hbefore]
          by_cases cx : x < k
          · rw [if_neg (fun hi => by have := hi.1; simp only at this; omega)]; exact J.v x cx z hz
          · have ex : x = k := by omega
            subst ex
            rw [hty] at hz
            cases hz
            rw [if_pos (by unfold inW; simp only; omega)]
        · have := List.append_inj' he rfl
          have e2 : w1 = ⟨y, (k : Int), 1⟩ := by have := this.2; simp at this; exact this.symm
          rw [e2]
    have rest : ∃ r, (fk (!decide (y = (-1 : Int))) (ck (decide ((W.length + ([⟨y, (k : Int), (1 : Int)⟩] : List Window).length) * 24 ≤ 140737488355328)) (nx (y, W ++ ([⟨y, (k : Int), (1 : Int)⟩] : List Window), ((k + 1 : Nat) : Int)))) (nx (y, W, ((k + 1 : Nat) : Int)))) = some r ∧ (r.2 = 0 ∧ tabP r.1 ∧ r.1.Frame = (ts.length : Int) ∧ ∀ x : Nat, ∀ y, ts[x]? = some y → whoV r.1.Windows (x : Int) = y) := by
      have := J.l
      by_cases cy : y = -1
      · rw [decide_eq_true cy, Bool.not_true, fk_f]
        exact go W (tail W (fun _ => rfl) (fun h => absurd cy h))
      · rw [decide_eq_false cy, Bool.not_false, fk_t, ck_t (by simp; omega)]
        exact go _ (tail _ (fun h => absurd h cy) (fun _ => rfl))
    by_cases c2 : y = last
    · have cy : y = -1 := Classical.byContradiction fun h => c1 ⟨c2, h⟩
      rw [decide_eq_true c2, fk_t, decide_eq_true cy]
      rw [decide_eq_true cy] at rest
      exact rest
    · rw [decide_eq_false c2, fk_f]
      exact rest
  obtain ⟨r, e, a, b, c, d⟩ := key
  refine ⟨r.1, ?_, b, c, d⟩
  rw [e]
  obtain ⟨x, y⟩ := r
  simp only at a
  rw [a]

/-! The frame. -/
def facesP (l : List Face) : Prop := (∀ f ∈ l, faceP f) ∧ l.length ≤ 4
def lcmF (c : Nat) (l : List Face) : Nat := l.foldl (fun c f => Nat.lcm c f.P.toNat) c
theorem lcmF_succ (c : Nat) (l : List Face) (k : Nat) (h : k < l.length) : lcmF c (l.take (k + 1)) = Nat.lcm (lcmF c (l.take k)) l[k].P.toNat := by
  unfold lcmF
  rw [← List.take_append_getElem h, List.foldl_append]; rfl
theorem lcmF_dvd : ∀ (l : List Face) (c n : Nat), lcmF c l ∣ n ↔ c ∣ n ∧ ∀ f ∈ l, f.P.toNat ∣ n
  | [], c, n => by simp [lcmF]
  | f :: r, c, n => by
    show lcmF (Nat.lcm c f.P.toNat) r ∣ n ↔ _
    rw [lcmF_dvd r, Nat.lcm_dvd_iff]
    simp only [List.mem_cons, forall_eq_or_imp, and_assoc]
theorem lcmF_pos : ∀ (l : List Face) (c : Nat), 0 < c → (∀ f ∈ l, 1 ≤ f.P) → 0 < lcmF c l
  | [], c, h, _ => h
  | f :: r, c, h, hl => lcmF_pos r _ (Nat.lcm_pos h (by have := hl f List.mem_cons_self; omega)) fun g hg => hl g (List.mem_cons_of_mem _ hg)
noncomputable instance (l : List Face) : Decidable (facesP l) := Classical.propDecidable _
noncomputable def frameV (l : List Face) : Int × Int := if facesP l then (if lcmF 1 l ≤ 240 then ((lcmF 1 l : Nat), 0) else (0, 5)) else (0, 1)
theorem faceP.P {f : Face} (h : faceP f) : 1 ≤ f.P ∧ f.P ≤ 200 ∧ 1 ≤ f.B ∧ f.B ≤ 200 := by unfold faceP at h; omega
theorem synth_Frame_eq (l : List Face) : synth_Frame l = some (frameV l) := by
  unfold synth_Frame frameV
  by_cases h4 : l.length ≤ 4
  rotate_left
  · rw [decide_eq_true (by omega), fk_t, if_neg (fun h => h4 h.2)]
  rw [decide_eq_false (by omega), fk_f]
  refine lp_up l.length (by unfold FU; omega) (fun k => ∀ f ∈ l.take k, faceP f) (fun f h => by simp at h) ?_
  intro nx k hk J hnx
  rw [lt_nat]
  by_cases c : k < l.length
  · rw [decide_eq_true c, fk_t, ix_lt c, bnd_eq (supply_Right_eq _), wr_succ k _ c (by omega)]
    by_cases hf : faceP l[k]
    · rw [decide_eq_true hf, Bool.not_true, fk_f]
      refine hnx c fun f h => ?_
      rw [← List.take_append_getElem c] at h
      rcases List.mem_append.1 h with h | h
      · exact J f h
      · rw [List.mem_singleton.1 h]; exact hf
    · rw [decide_eq_false hf, Bool.not_false, fk_t, if_neg (fun h => hf (h.1 _ (List.getElem_mem c)))]
  rw [List.take_of_length_le (by omega)] at J
  have hfp : facesP l := ⟨J, h4⟩
  have hpos : ∀ f ∈ l, 1 ≤ f.P := fun f hf => (J f hf).P.1
  rw [decide_eq_false c, fk_f, if_pos hfp]
  clear hnx nx hk c k
  refine lp_upS l.length (by unfold FU; omega) (fun k s => s = ((lcmF 1 (l.take k) : Nat) : Int) ∧ lcmF 1 (l.take k) ≤ 240) 1 ⟨rfl, by show (1 : Nat) ≤ 240; omega⟩ ?_
  rintro nx k s hk ⟨rfl, hb⟩ hnx
  dsimp only
  rw [lt_nat]
  by_cases c : k < l.length
  rotate_left
  · rw [List.take_of_length_le (by omega)] at hb ⊢
    rw [decide_eq_false c, fk_f, if_pos hb]
  have hp := (J _ (List.getElem_mem c)).P
  have hpk : 0 < lcmF 1 (l.take k) := lcmF_pos _ _ (by omega) fun f hf => hpos f (List.mem_of_mem_take hf)
  have eL := arith_Lcm_eq (lcmF 1 (l.take k)) l[k].P.toNat hpk (by omega) (by omega) (by omega)
  rw [show ((l[k].P.toNat : Nat) : Int) = l[k].P by omega] at eL
  rw [decide_eq_true c, fk_t, ix_lt c, bnd_eq eL, wr_succ k _ c (by omega), ← lcmF_succ 1 l k c]
  have hdv : lcmF 1 (l.take (k + 1)) ∣ lcmF 1 l := (lcmF_dvd _ _ _).2 ⟨Nat.one_dvd _, fun f hf => ((lcmF_dvd l 1 _).1 (Nat.dvd_refl _)).2 f (List.mem_of_mem_take hf)⟩
  have hle := Nat.le_of_dvd (lcmF_pos l 1 (by omega) hpos) hdv
  by_cases cb : lcmF 1 (l.take (k + 1)) ≤ 240
  · refine jn_to false (fun k7 => by rw [decide_eq_true rfl, Bool.not_true, fk_f, decide_eq_false (by dsimp only; omega)]) (by rw [fk_f]; exact hnx _ c ⟨rfl, cb⟩)
  · refine jn_to true (fun k7 => by rw [decide_eq_true rfl, Bool.not_true, fk_f, decide_eq_true (by dsimp only; omega)]) (by rw [fk_t, if_neg (by omega)])
def allD (l : List Face) (n : Nat) : Prop := ∀ f ∈ l, f.P.toNat ∣ n
instance (l : List Face) (n : Nat) : Decidable (allD l n) := by unfold allD; infer_instance
theorem ref12_Frame_eq (l : List Face) : ref12_Frame l = some (frameV l) := by
  unfold ref12_Frame frameV
  by_cases h4 : l.length ≤ 4
  rotate_left
  · rw [decide_eq_true (by omega), fk_t, if_neg (fun h => h4 h.2)]
  rw [decide_eq_false (by omega), fk_f]
  refine lp_up l.length (by unfold FU; omega) (fun k => ∀ f ∈ l.take k, faceP f) (fun f h => by simp at h) ?_
  intro nx k hk J hnx
  rw [lt_nat]
  by_cases c : k < l.length
  · rw [decide_eq_true c, fk_t, ix_lt c, bnd_eq (ref09_Right_eq _), wr_succ k _ c (by omega)]
    by_cases hf : faceP l[k]
    · rw [decide_eq_true hf, Bool.not_true, fk_f]
      refine hnx c fun f h => ?_
      rw [← List.take_append_getElem c] at h
      rcases List.mem_append.1 h with h | h
      · exact J f h
      · rw [List.mem_singleton.1 h]; exact hf
    · rw [decide_eq_false hf, Bool.not_false, fk_t, if_neg (fun h => hf (h.1 _ (List.getElem_mem c)))]
  rw [List.take_of_length_le (by omega)] at J
  have hfp : facesP l := ⟨J, h4⟩
  have hpos : ∀ f ∈ l, 1 ≤ f.P := fun f hf => (J f hf).P.1
  have hlp := lcmF_pos l 1 (by omega) hpos
  have hself := ((lcmF_dvd l 1 _).1 (Nat.dvd_refl (lcmF 1 l))).2
  rw [decide_eq_false c, fk_f, if_pos hfp]
  clear hnx nx hk c k
  refine lp_from 1 241 (by omega) (by unfold FU; omega) (fun n => n ≤ lcmF 1 l) hlp ?_
  intro nx n hn1 hn2 hJ hnx
  by_cases c : n ≤ 240
  rotate_left
  · rw [decide_eq_false (by omega), fk_f, if_neg (by omega)]
  rw [decide_eq_true (by omega), fk_t]
  refine lp_inv (fun v => l.length - v.2.toNat) (fun v => ∃ k : Nat, v = (decide (allD (l.take k) n), (k : Int)) ∧ k ≤ l.length) ?_ FU _ ⟨0, by rw [decide_eq_true (show allD (l.take 0) n from fun f h => by simp at h)]; rfl, Nat.zero_le _⟩ (by unfold FU; simp only; omega)
  rintro nx2 v ⟨k, rfl, hk⟩ hnx2
  dsimp only
  rw [lt_nat]
  by_cases ck' : k < l.length
  rotate_left
  · rw [decide_eq_false ck', fk_f, List.take_of_length_le (by omega)]
    by_cases call : allD l n
    · have hd : lcmF 1 l ∣ n := (lcmF_dvd l 1 n).2 ⟨Nat.one_dvd _, call⟩
      have := Nat.le_of_dvd (by omega) hd
      have e : lcmF 1 l = n := by omega
      rw [decide_eq_true call, fk_t, e, if_pos c]
    · rw [decide_eq_false call, fk_f, wr_in _ (by omega)]
      refine hnx (by omega) ?_
      have : n ≠ lcmF 1 l := fun e => call (by rw [e]; exact hself)
      omega
  have hp := (J _ (List.getElem_mem ck')).P
  rw [decide_eq_true ck', fk_t]
  have hm : decide ((n : Int).tmod l[k].P = 0) = decide (l[k].P.toNat ∣ n) := by
    rw [decide_eq_decide, Int.tmod_eq_emod_of_nonneg (by omega), show l[k].P = ((l[k].P.toNat : Nat) : Int) by omega, Int.toNat_natCast]
    constructor
    · intro h; exact Int.natCast_dvd_natCast.1 (Int.dvd_of_emod_eq_zero h)
    · intro h; exact Int.emod_eq_zero_of_dvd (Int.natCast_dvd_natCast.2 h)
  refine jn_to (decide (allD (l.take (k + 1)) n)) (fun k6 => ?_) ?_
  · have hsp : allD (l.take (k + 1)) n ↔ allD (l.take k) n ∧ l[k].P.toNat ∣ n := by
      unfold allD
      rw [← List.take_append_getElem ck']
      constructor
      · intro h; exact ⟨fun f hf => h f (List.mem_append_left _ hf), h _ (List.mem_append_right _ (List.mem_singleton.2 rfl))⟩
      · rintro ⟨h1, h2⟩ f hf
        rcases List.mem_append.1 hf with h | h
        · exact h1 f h
        · rw [List.mem_singleton.1 h]; exact h2
    by_cases ca : allD (l.take k) n
    · rw [decide_eq_true ca, fk_t, ix_lt ck', ck_t (decide_eq_true (by omega)), hm]
      congr 1
      rw [decide_eq_decide, hsp]
      exact ⟨fun h => ⟨ca, h⟩, fun h => h.2⟩
    · rw [decide_eq_false ca, fk_f, decide_eq_false (fun h => ca (hsp.1 h).1)]
  · rw [wr_succ k _ ck' (by omega)]
    exact hnx2 _ ⟨k + 1, rfl, ck'⟩ (by simp only [Int.toNat_natCast]; omega)
/-! The ticks. -/
def wv (w : List Int) (i : Nat) : Int := (w[i]?).getD 0
def begun (l : List Face) (w : List Int) (t : Nat) : List Int := (List.range l.length).map fun i => match l[i]? with | some f => if f.P.toNat ∣ t then f.B else wv w i | none => 0
def denyP (l : List Face) (w : List Int) (t : Nat) : Prop := ∃ (i : Nat) (f : Face), l[i]? = some f ∧ f.P.toNat ∣ t ∧ 0 < wv w i
def byV (f : Face) (t : Nat) : Nat := (t / f.P.toNat + 1) * f.P.toNat
def isNext (l : List Face) (w : List Int) (t k : Nat) (r : Int) : Prop :=
  (r = -1 ∧ ∀ i, i < k → wv w i ≤ 0) ∨ ∃ (i : Nat) (f : Face), i < k ∧ r = (i : Int) ∧ l[i]? = some f ∧ 0 < wv w i ∧ ∀ (j : Nat) (g : Face), j < k → l[j]? = some g → 0 < wv w j → byV f t < byV g t ∨ (byV f t = byV g t ∧ i ≤ j)
theorem isNext_unique {l : List Face} {w : List Int} {t : Nat} {r s : Int} (h1 : isNext l w t l.length r) (h2 : isNext l w t l.length s) : r = s := by
  rcases h1 with ⟨rfl, a⟩ | ⟨i, f, hi, rfl, hf, hw, a⟩
  · rcases h2 with ⟨rfl, _⟩ | ⟨j, g, hj, rfl, hg, hw', _⟩
    · rfl
    · have := a j hj; omega
  · rcases h2 with ⟨rfl, b⟩ | ⟨j, g, hj, rfl, hg, hw', b⟩
    · have := b i hi; omega
    · have h1 := a j g hj hg hw'
      have h2 := b i f hi hf hw
      have : i = j := by omega
      rw [this]
def dec (w : List Int) (r : Int) : List Int := if r = -1 then w else w.set r.toNat (wv w r.toNat - 1)
inductive LayR (l : List Face) : Nat → List Int → List Int → Prop
  | zero : LayR l 0 [] (List.replicate l.length 0)
  | step {t : Nat} {out w : List Int} {r : Int} (h : LayR l t out w) (hd : ¬ denyP l w t) (hn : isNext l (begun l w t) t l.length r) : LayR l (t + 1) (out ++ [r]) (dec (begun l w t) r)
theorem LayR.det {l : List Face} : ∀ {t : Nat} {o1 w1 o2 w2 : List Int}, LayR l t o1 w1 → LayR l t o2 w2 → o1 = o2 ∧ w1 = w2
  | 0, _, _, _, _, h1, h2 => by cases h1; cases h2; exact ⟨rfl, rfl⟩
  | t + 1, _, _, _, _, h1, h2 => by
    cases h1 with
    | step a1 b1 c1 =>
      cases h2 with
      | step a2 b2 c2 =>
        obtain ⟨rfl, rfl⟩ := LayR.det a1 a2
        have := isNext_unique c1 c2
        subst this
        exact ⟨rfl, rfl⟩
theorem LayR.before {l : List Face} {t : Nat} {o w : List Int} (h : LayR l t o w) : ∀ s, s < t → ∃ o' w', LayR l s o' w' ∧ ¬ denyP l w' s := by
  induction h with
  | zero => intro s hs; omega
  | step h hd hn ih =>
    rename_i t out w r
    intro s hs
    by_cases e : s = t
    · subst e; exact ⟨_, _, h, hd⟩
    · exact ih s (by omega)
def resP (l : List Face) (F : Nat) (r : List Int × Int) : Prop :=
  (∃ o w, LayR l F o w ∧ ¬ denyP l w F ∧ r = (o, 0)) ∨ (∃ t, t ≤ F ∧ ∃ o w, LayR l t o w ∧ denyP l w t ∧ r = ([], 7))
theorem begun_len (l : List Face) (w : List Int) (t : Nat) : (begun l w t).length = l.length := by unfold begun; simp
theorem begun_at {l : List Face} {w : List Int} {t i : Nat} {f : Face} (h : l[i]? = some f) : wv (begun l w t) i = if f.P.toNat ∣ t then f.B else wv w i := by
  have hi := (List.getElem?_eq_some_iff.1 h).1
  unfold begun
  unfold wv
  rw [List.getElem?_map, List.getElem?_range hi]
  simp only [Option.map_some, h, Option.getD_some]
/-- What is kept: sizes. -/
theorem LayR.ok {l : List Face} (hl : facesP l) {t : Nat} {o w : List Int} (h : LayR l t o w) : o.length = t ∧ w.length = l.length ∧ (∀ i, 0 ≤ wv w i ∧ wv w i ≤ 200) ∧ ∀ x ∈ o, -1 ≤ x ∧ x < (l.length : Int) := by
  induction h with
  | zero =>
    refine ⟨rfl, by simp, fun i => ?_, fun x h => (List.not_mem_nil h).elim⟩
    unfold wv
    rw [List.getElem?_replicate]
    split <;> simp
  | step h hd hn ih =>
    rename_i t out w r
    obtain ⟨a, b, c, d⟩ := ih
    have hb : ∀ i, 0 ≤ wv (begun l w t) i ∧ wv (begun l w t) i ≤ 200 := fun i => by
      cases hf : l[i]? with
      | some f =>
        rw [begun_at hf]
        have := (hl.1 f (List.mem_of_getElem? hf)).P
        split
        · omega
        · exact c i
      | none =>
        have : (begun l w t)[i]? = none := List.getElem?_eq_none (by rw [begun_len]; exact List.getElem?_eq_none_iff.1 hf)
        unfold wv; rw [this]; simp
    refine ⟨by simp [a], ?_, fun i => ?_, fun x hx => ?_⟩
    · unfold dec; split
      · exact begun_len _ _ _
      · rw [List.length_set]; exact begun_len _ _ _
    · rcases hn with ⟨rfl, _⟩ | ⟨j, f, hj, rfl, hf, hw, _⟩
      · unfold dec; rw [if_pos rfl]; exact hb i
      · unfold dec
        rw [if_neg (by omega), Int.toNat_natCast]
        by_cases e : j = i
        · subst e
          have : wv ((begun l w t).set j (wv (begun l w t) j - 1)) j = wv (begun l w t) j - 1 := by
            unfold wv
            rw [List.getElem?_set_self (by rw [begun_len]; exact hj)]; rfl
          rw [this]
          have := hb j; omega
        · have : wv ((begun l w t).set j (wv (begun l w t) j - 1)) i = wv (begun l w t) i := by
            unfold wv
            rw [List.getElem?_set_ne e]
          rw [this]; exact hb i
    · rcases List.mem_append.1 hx with h' | h'
      · exact d x h'
      · rw [List.mem_singleton.1 h']
        rcases hn with ⟨rfl, _⟩ | ⟨j, f, hj, rfl, _⟩ <;> omega

theorem tmod_dvd {f : Face} (h : 1 ≤ f.P) (t : Nat) : decide ((t : Int).tmod f.P = 0) = decide (f.P.toNat ∣ t) := by
  rw [decide_eq_decide, Int.tmod_eq_emod_of_nonneg (by omega), show f.P = ((f.P.toNat : Nat) : Int) by omega, Int.toNat_natCast]
  constructor
  · intro h; exact Int.natCast_dvd_natCast.1 (Int.dvd_of_emod_eq_zero h)
  · intro h; exact Int.emod_eq_zero_of_dvd (Int.natCast_dvd_natCast.2 h)
theorem byV_b {f : Face} (hf : faceP f) (t : Nat) : byV f t = t - t % f.P.toNat + f.P.toNat ∧ t % f.P.toNat ≤ t ∧ byV f t ≤ t + 200 := by
  have hp := hf.P
  have h1 := Nat.div_add_mod t f.P.toNat
  have h2 := Nat.mod_le t f.P.toNat
  have e : byV f t = f.P.toNat * (t / f.P.toNat) + f.P.toNat := by unfold byV; rw [Nat.add_mul, Nat.one_mul, Nat.mul_comm]
  refine ⟨?_, h2, ?_⟩ <;> omega
theorem by_eq {f : Face} (hf : faceP f) (t : Nat) (ht : t ≤ 1000) : wr (wr ((t : Int) - (t : Int).tmod f.P) + f.P) = ((byV f t : Nat) : Int) := by
  have hp := hf.P
  obtain ⟨h1, h2, h3⟩ := byV_b hf t
  have e : (t : Int).tmod f.P = ((t % f.P.toNat : Nat) : Int) := by
    rw [Int.tmod_eq_emod_of_nonneg (by omega)]
    conv => lhs; rw [show f.P = ((f.P.toNat : Nat) : Int) by omega]
    rfl
  rw [e, wr_in ((t : Int) - ((t % f.P.toNat : Nat) : Int)) (by omega), wr_in _ (by omega)]
  omega
theorem eq_of_wv {u v : List Int} (hl : u.length = v.length) (h : ∀ i, wv u i = wv v i) : u = v := by
  refine List.ext_getElem hl fun i h1 h2 => ?_
  have := h i
  unfold wv at this
  rw [List.getElem?_eq_getElem h1, List.getElem?_eq_getElem h2] at this
  exact this
theorem wv_lt {w : List Int} {i : Nat} (h : i < w.length) : w[i] = wv w i := by unfold wv; rw [List.getElem?_eq_getElem h]; rfl
theorem wv_set {w : List Int} {i : Nat} {x : Int} (h : i < w.length) (j : Nat) : wv (w.set i x) j = if j = i then x else wv w j := by
  unfold wv
  by_cases e : j = i
  · subst e; rw [if_pos rfl, List.getElem?_set_self h]; rfl
  · rw [if_neg e, List.getElem?_set_ne (fun c => e c.symm)]
/-- What a round of 'begin' comes to, so far. -/
structure begI (l : List Face) (w : List Int) (t k : Nat) (u : List Int) : Prop where
  len : u.length = l.length
  v : ∀ i, wv u i = if i < k then wv (begun l w t) i else wv w i
  d : ∀ (i : Nat) (f : Face), i < k → l[i]? = some f → ¬ (f.P.toNat ∣ t ∧ 0 < wv w i)
theorem begI.zero {l : List Face} {w : List Int} {t : Nat} (h : w.length = l.length) : begI l w t 0 w := ⟨h, fun i => by rw [if_neg (by omega)], fun i f h => by omega⟩
theorem begI.keep {l : List Face} {w : List Int} {t k : Nat} {u : List Int} (h : begI l w t k u) (hk : k < l.length) (hn : ¬ l[k].P.toNat ∣ t) : begI l w t (k + 1) u := by
  have hf : l[k]? = some l[k] := List.getElem?_eq_getElem hk
  refine ⟨h.len, fun i => ?_, fun i f hi hfi => ?_⟩
  · rw [h.v i]
    by_cases e : i = k
    · subst e
      rw [if_neg (by omega), if_pos (by omega), begun_at hf, if_neg hn]
    · by_cases c : i < k
      · rw [if_pos c, if_pos (by omega)]
      · rw [if_neg c, if_neg (by omega)]
  · by_cases e : i = k
    · subst e; rw [hf] at hfi; cases hfi; exact fun hh => hn hh.1
    · exact h.d i f (by omega) hfi
theorem begI.set {l : List Face} {w : List Int} {t k : Nat} {u : List Int} (h : begI l w t k u) (hk : k < l.length) (hn : l[k].P.toNat ∣ t) (hw : ¬ 0 < wv w k) : begI l w t (k + 1) (u.set k l[k].B) := by
  have hf : l[k]? = some l[k] := List.getElem?_eq_getElem hk
  have hku : k < u.length := by rw [h.len]; exact hk
  refine ⟨by rw [List.length_set]; exact h.len, fun i => ?_, fun i f hi hfi => ?_⟩
  · rw [wv_set hku]
    by_cases e : i = k
    · subst e
      rw [if_pos rfl, if_pos (by omega), begun_at hf, if_pos hn]
    · rw [if_neg e, h.v i]
      by_cases c : i < k
      · rw [if_pos c, if_pos (by omega)]
      · rw [if_neg c, if_neg (by omega)]
  · by_cases e : i = k
    · subst e; exact fun hh => hw hh.2
    · exact h.d i f (by omega) hfi
theorem begI.at {l : List Face} {w : List Int} {t k : Nat} {u : List Int} (h : begI l w t k u) : wv u k = wv w k := by rw [h.v k, if_neg (by omega)]
theorem begI.end {l : List Face} {w : List Int} {t : Nat} {u : List Int} (h : begI l w t l.length u) : u = begun l w t ∧ ¬ denyP l w t := by
  refine ⟨eq_of_wv (by rw [h.len, begun_len]) fun i => ?_, ?_⟩
  · rw [h.v i]
    by_cases c : i < l.length
    · rw [if_pos c]
    · rw [if_neg c]
      have hb : (begun l w t)[i]? = none := List.getElem?_eq_none (by rw [begun_len]; omega)
      have hu := h.v i
      rw [if_neg c] at hu
      have hu2 : u[i]? = none := List.getElem?_eq_none (by rw [h.len]; omega)
      rw [← hu]
      unfold wv
      rw [hb, hu2]
  · rintro ⟨i, f, hf, a, b⟩
    exact h.d i f (List.getElem?_eq_some_iff.1 hf).1 hf ⟨a, b⟩
/-- Who is next, so far: with its time. -/
structure nxI (l : List Face) (u : List Int) (t k : Nat) (out due : Int) : Prop where
  n : isNext l u t k out
  d : ∀ (i : Nat) (f : Face), out = (i : Int) → l[i]? = some f → due = ((byV f t : Nat) : Int)
theorem nxI.zero {l : List Face} {u : List Int} {t : Nat} : nxI l u t 0 (-1) 0 := ⟨.inl ⟨rfl, fun i h => by omega⟩, fun i f h => by omega⟩
theorem nxI.keep {l : List Face} {u : List Int} {t k : Nat} {out due : Int} (h : nxI l u t k out due) (hk : k < l.length) (hc : ¬ (0 < wv u k ∧ (out = -1 ∨ ((byV l[k] t : Nat) : Int) < due))) : nxI l u t (k + 1) out due := by
  have hfk : l[k]? = some l[k] := List.getElem?_eq_getElem hk
  refine ⟨?_, h.d⟩
  rcases h.n with ⟨rfl, a⟩ | ⟨i, f, hi, rfl, hf, hw, a⟩
  · refine .inl ⟨rfl, fun i hi => ?_⟩
    by_cases e : i = k
    · subst e; exact Int.not_lt.1 fun hh => hc ⟨hh, .inl rfl⟩
    · exact a i (by omega)
  · refine .inr ⟨i, f, by omega, rfl, hf, hw, fun j g hj hg hwj => ?_⟩
    by_cases e : j = k
    · subst e
      rw [hfk] at hg; cases hg
      have hd := h.d i f rfl hf
      have : ¬ ((byV l[j] t : Nat) : Int) < due := fun hh => hc ⟨hwj, .inr hh⟩
      omega
    · exact a j g (by omega) hg hwj
theorem nxI.take {l : List Face} {u : List Int} {t k : Nat} {out due : Int} (h : nxI l u t k out due) (hk : k < l.length) (hw : 0 < wv u k) (hc : out = -1 ∨ ((byV l[k] t : Nat) : Int) < due) : nxI l u t (k + 1) (k : Int) ((byV l[k] t : Nat) : Int) := by
  have hfk : l[k]? = some l[k] := List.getElem?_eq_getElem hk
  refine ⟨.inr ⟨k, l[k], by omega, rfl, hfk, hw, fun j g hj hg hwj => ?_⟩, fun i f hi hf => ?_⟩
  · by_cases e : j = k
    · subst e; rw [hfk] at hg; cases hg; exact .inr ⟨rfl, Nat.le_refl _⟩
    · rcases h.n with ⟨rfl, a⟩ | ⟨i, f, hi, rfl, hf, hw', a⟩
      · have := a j (by omega); omega
      · have hd := h.d i f rfl hf
        have hlt := hc.resolve_left (by omega)
        have := a j g (by omega) hg hwj
        omega
  · have : i = k := by omega
    subst this
    rw [hfk] at hf; cases hf; rfl
theorem synth_Lay_ok (l : List Face) (hl : facesP l) (hF : lcmF 1 l ≤ 240) : ∃ r, synth_Lay l = some r ∧ resP l (lcmF 1 l) r := by
  have h4 := hl.2
  have ef : frameV l = (((lcmF 1 l : Nat) : Int), 0) := by unfold frameV; rw [if_pos hl, if_pos hF]
  unfold synth_Lay
  rw [bnd_eq (synth_Frame_eq l), ef]
  dsimp only
  rw [decide_eq_true rfl, Bool.not_true, fk_f, ck_t (by simp; omega), Int.toNat_natCast]
  generalize lcmF 1 l = F at *
  refine lp_ex (fun v => F - v.2.2.toNat) (fun v => ∃ (t : Nat) (o w : List Int), v = (o, w, (t : Int)) ∧ t ≤ F ∧ LayR l t o w) (resP l F) ?_ FU _ ⟨0, [], _, rfl, Nat.zero_le _, LayR.zero⟩ (by unfold FU; simp only; omega)
  rintro nx v ⟨t, o, w, rfl, ht, hL⟩ hnx
  obtain ⟨hol, hwl, hwb, _⟩ := hL.ok hl
  dsimp only
  rw [lt_nat]
  by_cases c : t < F
  rotate_left
  · have e : t = F := by omega
    subst e
    rw [decide_eq_false c, fk_f]
    refine lp_ex (fun v => l.length - v.2.toNat) (fun v => ∃ (k : Nat) (u : List Int), v = (u, (k : Int)) ∧ k ≤ l.length ∧ begI l w t k u) (resP l t) ?_ FU _ ⟨0, w, rfl, Nat.zero_le _, begI.zero hwl⟩ (by unfold FU; simp only; omega)
    rintro nx3 v ⟨k, u, rfl, hk, hJ⟩ hnx3
    dsimp only
    rw [lt_nat]
    by_cases ck' : k < l.length
    rotate_left
    · have e : k = l.length := by omega
      subst e
      obtain ⟨_, hd⟩ := hJ.end
      rw [decide_eq_false ck', fk_f]
      exact ⟨_, rfl, .inl ⟨o, w, hL, hd, rfl⟩⟩
    have hfk : l[k]? = some l[k] := List.getElem?_eq_getElem ck'
    have hp := (hl.1 _ (List.getElem_mem ck')).P
    have hul := hJ.len
    have hku : k < u.length := by omega
    rw [decide_eq_true ck', fk_t, jn_eq, ix_lt ck', ck_t (decide_eq_true (by omega)), tmod_dvd hp.1, wr_succ k _ ck' (by omega)]
    have go : ∀ u', begI l w t (k + 1) u' → ∃ r, nx3 (u', ((k + 1 : Nat) : Int)) = some r ∧ resP l t r := fun u' h' => hnx3 _ ⟨k + 1, u', rfl, ck', h'⟩ (by simp only [Int.toNat_natCast]; omega)
    by_cases cd : l[k].P.toNat ∣ t
    rotate_left
    · rw [decide_eq_false cd, Bool.not_false, fk_t]
      exact go u (hJ.keep ck' cd)
    rw [decide_eq_true cd, Bool.not_true, fk_f, ck_t (by simp; omega), Int.toNat_natCast, ox_lt hku, wv_lt hku, hJ.at]
    by_cases cw : 0 < wv w k
    · rw [decide_eq_true (show wv w k > 0 from cw), fk_t]
      exact ⟨_, rfl, .inr ⟨t, Nat.le_refl _, o, w, hL, ⟨k, _, hfk, cd, cw⟩, rfl⟩⟩
    · rw [decide_eq_false (show ¬ wv w k > 0 from cw), fk_f, ck_t (by simp; omega), ox_lt hku]
      exact go _ (hJ.set ck' cd cw)
  rw [decide_eq_true c, fk_t]
  refine lp_ex (fun v => l.length - v.2.toNat) (fun v => ∃ (k : Nat) (u : List Int), v = (u, (k : Int)) ∧ k ≤ l.length ∧ begI l w t k u) (resP l F) ?_ FU _ ⟨0, w, rfl, Nat.zero_le _, begI.zero hwl⟩ (by unfold FU; simp only; omega)
  rintro nx3 v ⟨k, u, rfl, hk, hJ⟩ hnx3
  dsimp only
  rw [lt_nat]
  by_cases ck' : k < l.length
  · have hfk : l[k]? = some l[k] := List.getElem?_eq_getElem ck'
    have hp := (hl.1 _ (List.getElem_mem ck')).P
    have hul := hJ.len
    have hku : k < u.length := by omega
    rw [decide_eq_true ck', fk_t, jn_eq, ix_lt ck', ck_t (decide_eq_true (by omega)), tmod_dvd hp.1, wr_succ k _ ck' (by omega)]
    have go : ∀ u', begI l w t (k + 1) u' → ∃ r, nx3 (u', ((k + 1 : Nat) : Int)) = some r ∧ resP l F r := fun u' h' => hnx3 _ ⟨k + 1, u', rfl, ck', h'⟩ (by simp only [Int.toNat_natCast]; omega)
    by_cases cd : l[k].P.toNat ∣ t
    rotate_left
    · rw [decide_eq_false cd, Bool.not_false, fk_t]
      exact go u (hJ.keep ck' cd)
    rw [decide_eq_true cd, Bool.not_true, fk_f, ck_t (by simp; omega), Int.toNat_natCast, ox_lt hku, wv_lt hku, hJ.at]
    by_cases cw : 0 < wv w k
    · rw [decide_eq_true (show wv w k > 0 from cw), fk_t]
      exact ⟨_, rfl, .inr ⟨t, by omega, o, w, hL, ⟨k, _, hfk, cd, cw⟩, rfl⟩⟩
    · rw [decide_eq_false (show ¬ wv w k > 0 from cw), fk_f, ck_t (by simp; omega), ox_lt hku]
      exact go _ (hJ.set ck' cd cw)
  have e : k = l.length := by omega
  subst e
  obtain ⟨rfl, hd⟩ := hJ.end
  have hbl := begun_len l w t
  rw [decide_eq_false ck', fk_f]
  refine lp_ex (fun v => l.length - v.2.2.toNat) (fun v => ∃ (k : Nat) (out due : Int), v = (out, due, (k : Int)) ∧ k ≤ l.length ∧ nxI l (begun l w t) t k out due) (resP l F) ?_ FU _ ⟨0, -1, 0, rfl, Nat.zero_le _, nxI.zero⟩ (by unfold FU; simp only; omega)
  rintro nx8 v ⟨k, out, due, rfl, hk, hN⟩ hnx8
  dsimp only
  rw [lt_nat]
  by_cases cn : k < l.length
  rotate_left
  · have e : k = l.length := by omega
    subst e
    have hstep := LayR.step hL hd hN.n
    have hnext := hnx (o ++ [out], dec (begun l w t) out, ((t + 1 : Nat) : Int)) ⟨t + 1, _, _, rfl, c, hstep⟩ (by simp only [Int.toNat_natCast]; omega)
    obtain ⟨hsl, hswl, hswb, _⟩ := hstep.ok hl
    rw [decide_eq_false cn, fk_f]
    have e1 : wr ((t : Int) + 1) = ((t + 1 : Nat) : Int) := wr_succ t _ c (by omega)
    by_cases co : out = -1
    · rw [decide_eq_true co, Bool.not_true, fk_f, ck_t (by simp; omega), e1]
      unfold dec at hnext
      rw [if_pos co] at hnext
      exact hnext
    · rcases hN.n with ⟨h, _⟩ | ⟨i, f, hi, rfl, hf, hw, _⟩
      · exact absurd h co
      have hib : i < (begun l w t).length := by omega
      have hbw : wv (begun l w t) i ≤ 201 := by
        have h2 := hswb i
        have : wv (dec (begun l w t) (i : Int)) i = wv (begun l w t) i - 1 := by
          unfold dec
          rw [if_neg co, Int.toNat_natCast, wv_set hib, if_pos rfl]
        omega
      rw [decide_eq_false co, Bool.not_false, fk_t, ck_t (by simp; omega), Int.toNat_natCast, ox_lt hib, ck_t (by simp; omega), ox_lt hib, ck_t (by simp; omega), e1, wv_lt hib, wr_in _ (by omega)]
      unfold dec at hnext
      rw [if_neg co, Int.toNat_natCast] at hnext
      exact hnext
  have hfk : l[k]? = some l[k] := List.getElem?_eq_getElem cn
  have hface := hl.1 _ (List.getElem_mem cn)
  have hp := hface.P
  have hkb : k < (begun l w t).length := by omega
  rw [decide_eq_true cn, fk_t, jn_eq, ix_lt cn, ck_t (decide_eq_true (by omega)), jn_eq, by_eq hface t (by omega), wr_succ k _ cn (by omega), ck_t (by simp; omega), Int.toNat_natCast, ox_lt hkb, wv_lt hkb]
  have keep : ¬ (0 < wv (begun l w t) k ∧ (out = -1 ∨ ((byV l[k] t : Nat) : Int) < due)) → ∃ r, nx8 (out, due, ((k + 1 : Nat) : Int)) = some r ∧ resP l F r := fun h' => hnx8 _ ⟨k + 1, out, due, rfl, cn, hN.keep cn h'⟩ (by simp only [Int.toNat_natCast]; omega)
  have take : 0 < wv (begun l w t) k → (out = -1 ∨ ((byV l[k] t : Nat) : Int) < due) → ∃ r, nx8 ((k : Int), ((byV l[k] t : Nat) : Int), ((k + 1 : Nat) : Int)) = some r ∧ resP l F r := fun h1 h2 => hnx8 _ ⟨k + 1, _, _, rfl, cn, hN.take cn h1 h2⟩ (by simp only [Int.toNat_natCast]; omega)
  by_cases cw : wv (begun l w t) k > 0
  rotate_left
  · rw [decide_eq_false cw, fk_f]
    exact keep fun h => cw h.1
  rw [decide_eq_true cw, fk_t]
  by_cases co : out = -1
  · rw [decide_eq_true co, fk_t]
    exact take cw (.inl co)
  rw [decide_eq_false co, fk_f]
  by_cases cd : ((byV l[k] t : Nat) : Int) < due
  · rw [decide_eq_true cd]
    exact take cw (.inr cd)
  · rw [decide_eq_false cd]
    exact keep fun h => (h.2.elim co cd)

end Go.Proofs.YtpephpefjddgcaaGreat
