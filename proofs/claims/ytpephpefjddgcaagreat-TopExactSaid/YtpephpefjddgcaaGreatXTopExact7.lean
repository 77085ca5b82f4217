/- Part 18 of what follows is proved here: what the statement TopExact needs of functions and plain laws. -/
import Derived.Test.YtpephpefjddgcaaGreatXTopExact6
import Derived.Test.YtpephpefjddgcaaGreatV9
import Derived.Test.YtpephpefjddgcaaGreatV8
set_option linter.unusedVariables false
set_option linter.unusedSimpArgs false
set_option maxRecDepth 100000
set_option maxHeartbeats 40000000
namespace Go.VC
open Go.RowKit (Below)
/-! Slices whose elements hold slices of the call's own: a box of as many cells. -/
section
variable {P : Program} {T : TypeId → Option TI} {w0 : World} {p0 p : Nat → Prop} {σ : Nat → Value} {s : St} {tm : Array Value} {ups : List (Array Value)} {w w' : World} {K : St → Prop}

def boxN (N : Nat) (z : List LV) : List LV := match N with | 0 => [] | n + 1 => z ++ boxN n z
theorem boxN_length (z : List LV) : ∀ N, (boxN N z).length = N * z.length
  | 0 => by simp [boxN]
  | n + 1 => by rw [boxN, List.length_append, boxN_length z n, Nat.succ_mul, Nat.add_comm]
theorem boxN_get (z : List LV) (hz : 0 < z.length) : ∀ (N k : Nat), k < N * z.length → (boxN N z)[k]? = z[k % z.length]?
  | 0, k, h => by simp at h
  | n + 1, k, h => by
    rw [boxN]
    by_cases c : k < z.length
    · rw [List.getElem?_append_left c, Nat.mod_eq_of_lt c]
    · rw [List.getElem?_append_right (by omega), boxN_get z hz n (k - z.length) (by rw [Nat.succ_mul] at h; omega)]
      rw [← Nat.mod_eq_sub_mod (by omega)]
theorem mkB (hT : TabOk P T) {o : Oper} {t e : TypeId} {l c : Operand} {k1 k2 : IntKind} {n m : Int} {i ie : TI} (N : Nat) (ho : o.op = .makeSlice t l c) (hd : dstLt o.dst s.n = true) (hl : s.eval l = .l (.d (.int k1 n))) (hc : s.eval c = .l (.d (.int k2 m))) (hn : n = (N : Int)) (hm : m = (N : Int))
    (hi : T t = some i) (hk : i.k = .slice e) (hie : T e = some ie) (hb : N * ie.bytes ≤ 281474976710656) (hz : 0 < ie.zero.length) (hN : N ≤ 1000000) (hsz : ie.size = ie.zero.length)
    (h : keyX s.up o.dst fun key => fS (s.drop key) fun s => fLVs (boxN N ie.zero) fun cs => appX s o.dst { v := .l (.bsl key N ie.size), nb := some (key, cs) } K) : OpX P o s K := by
  subst hn; subst hm
  rw [keyX_eq, fS_eq, fLVs_eq, appX_eq] at h
  generalize hkey : keyOf s o.dst = key at h
  refine ⟨fun w0 p0 p σ tm ups w Q hr => ?_⟩
  have hf : Free key (s.drop key) := Free.drop _ _
  have h2 := hr.drop key
  have hl' := hr.eval (ds := []) l
  have hc' := hr.eval (ds := []) c
  rw [hl] at hl'
  rw [hc] at hc'
  have hu := desc_slice (hT.ok t i hi) hk
  obtain ⟨j, zv, h1, h2', h3, h4, h5, h6, h7⟩ := (hT.ok e ie hie).info
  have hrun := run_make (P := P) w t e j zv hu h1 h4 k1 k2 N N (by omega) (Int.le_refl _) (by have hb' : ((N * ie.bytes : Nat) : Int) ≤ 281474976710656 := by omega
                                                                                              rw [Int.natCast_mul] at hb'; rw [h3, Int.mul_comm]; exact hb') (by omega)
  simp only [Int.toNat_natCast] at hrun
  have hrep : All2 (RepL σ w p) ie.zero zv.cells.toList := by rw [← h5]; exact constL_rep_all _ σ w p
  have hzl : zv.cells.size = ie.zero.length := by rw [hrep.1, Array.length_toList]
  have hon : ∀ x ∈ boxN N ie.zero, x.on key = false := by
    intro x hx
    obtain ⟨q, hq⟩ := List.getElem?_of_mem hx
    have hql := (List.getElem?_eq_some_iff.1 hq).1
    rw [boxN_length] at hql
    rw [boxN_get _ hz _ _ hql] at hq
    have hx := List.mem_of_getElem? hq
    rw [← h5] at hx
    obtain ⟨v, _, rfl⟩ := List.mem_map.1 hx
    unfold constL
    split <;> rfl
  have hall : All2 (RepL σ w p) (boxN N ie.zero) (madeCells zv.cells (N * j.size)).toList := by
    have hjs : j.size = ie.zero.length := by rw [h2', hsz]
    refine ⟨by rw [boxN_length, Array.length_toList, size_madeCells, hjs], fun q x y hx hy => ?_⟩
    have hql := (List.getElem?_eq_some_iff.1 hx).1
    rw [boxN_length] at hql
    rw [boxN_get _ hz _ _ hql] at hx
    rw [Array.getElem?_toList] at hy
    simp only [madeCells, Array.getElem?_map] at hy
    rw [Array.getElem?_range] at hy
    rw [hjs] at hy
    simp only [hql, if_true, Option.map_some, Option.some.injEq] at hy
    rw [hzl] at hy
    have hm : q % ie.zero.length < zv.cells.size := by rw [hzl]; exact Nat.mod_lt _ hz
    rw [getElem!_pos zv.cells _ hm] at hy
    refine hrep.2 (q % ie.zero.length) x y hx ?_
    rw [Array.getElem?_toList, Array.getElem?_eq_getElem hm, hy]
  have hnew := h2.newBoxF key _ _ e hall hf hon
  have hexec : (execOp (Act.eval ⟨tm, []⟩) o).run P w = .ok (.value (.slice (some ⟨w.heap.size, 0, none⟩) N N)) (w.alloc (.cells (madeCells zv.cells (N * j.size)).toList.toArray e)) := by
    unfold execOp
    simp only [ho]
    rw [RepD_int hl', RepD_int hc']
    simp only [Sem.run_bind]
    rw [hrun, Array.toArray_toList]
    rfl
  unfold Oper.wp
  rw [hexec, Oper.upon_value]
  exact ⟨by cases o.dst <;> rfl, _, p, _, h, hnew.put o.dst (.l (.bsl key N ie.size)) _ (fun d e => by show d < (s.drop key).n; exact dstLt_spec hd d e) ⟨by unfold maxLen; omega, w.heap.size, upd_same _ _ _, rfl⟩ []⟩
theorem mkB0 (hT : TabOk P T) {o : Oper} {t e : TypeId} {l c : Operand} {k1 k2 : IntKind} {n m : Int} {i ie : TI} (ho : o.op = .makeSlice t l c) (hd : dstLt o.dst s.n = true) (hl : s.eval l = .l (.d (.int k1 n))) (hc : s.eval c = .l (.d (.int k2 m))) (hn : n = 0) (hm : m = 0)
    (hi : T t = some i) (hk : i.k = .slice e) (hie : T e = some ie) (h : putX s o.dst (.l (.d (.sl []))) K) : OpX P o s K := by
  subst hn; subst hm
  rw [putX_eq] at h
  refine ⟨fun w0 p0 p σ tm ups w Q hr => ?_⟩
  have hl' := hr.eval (ds := []) l
  have hc' := hr.eval (ds := []) c
  rw [hl] at hl'
  rw [hc] at hc'
  have hu := desc_slice (hT.ok t i hi) hk
  obtain ⟨j, zv, h1, h2', h3, h4, h5, h6, h7⟩ := (hT.ok e ie hie).info
  have hrun := run_make (P := P) w t e j zv hu h1 h4 k1 k2 0 0 (by omega) (Int.le_refl _) (by simp) (by omega)
  have hexec : (execOp (Act.eval ⟨tm, []⟩) o).run P w = .ok (.value (.slice (some ⟨w.heap.size, 0, none⟩) 0 0)) (w.alloc (.cells (madeCells zv.cells (Int.toNat 0 * j.size)) e)) := by
    unfold execOp
    simp only [ho]
    rw [RepD_int hl', RepD_int hc']
    simp only [Sem.run_bind]
    rw [hrun]
    rfl
  unfold Oper.wp
  rw [hexec, Oper.upon_value]
  have hbel : Below w.heap.size w (w.alloc (.cells (madeCells zv.cells (Int.toNat 0 * j.size)) e)) := ⟨rfl, rfl, rfl, by show _ ≤ (w.heap.push _).size; simp, fun b hb => by
    show (w.heap.push _)[b]? = _
    rw [Array.getElem?_push_lt hb, Array.getElem?_eq_getElem hb]⟩
  have hrel := hr.called hbel (p' := p) (fun _ h => h) (fun b h => .inl h) (fun b h => Nat.lt_of_lt_of_le (hr.plt b h) hbel.size)
  refine ⟨by cases o.dst <;> rfl, _, p, σ, h, hrel.put o.dst _ _ (dstLt_spec hd) ?_ []⟩
  exact RepD.sl [] 0 _ 0 (fun _ _ => undef) (Nat.le_refl _) (by unfold maxLen; omega) (fun e => by cases e) (fun ad e hn => absurd rfl hn) (fun r hr => by cases hr) (fun ad i j r x e h1 => by simp at h1) (fun i j r x h1 => by simp at h1)
theorem lenB (hT : TabOk P T) {o : Oper} {t e : TypeId} {x : Operand} {k n sz : Nat} {i : TI} (ho : o.op = .call ⟨.builtin .len, #[x], #[t]⟩) (hd : dstLt o.dst s.n = true) (hx : s.eval x = .l (.bsl k n sz)) (hi : T t = some i) (hk : i.k = .slice e) (h : putX s o.dst (.l (.d (.int .i64 (n : Int)))) K) : OpX P o s K := by
  rw [putX_eq] at h
  refine OpX.pure hd _ h fun w0 p0 p σ tm ups w hr => ⟨_, ?_, .int .i64 (n : Int)⟩
  have hx' := hr.eval (ds := []) x
  rw [hx] at hx'
  obtain ⟨_, b, _, hv⟩ := hx'
  have hu := desc_slice (hT.ok t i hi) hk
  have hev : (#[x] : Array Operand).map (Act.eval ⟨tm, []⟩) = #[Value.slice (some ⟨b, 0, none⟩) n n] := by rw [← hv]; simp
  rw [run_exec_builtin ho rfl]
  simp only [hev, builtin, Builtin.len_, Sem.run_bind, run_underlying hu, Sem.run_pure, Result.andThen_ok, goInt]
  simp [Builtin.len_, run_underlying hu, goInt]
/-- A row of bytes that is turned to its own type: nothing will be written there. -/
theorem cvO {o : Oper} {t e : TypeId} {x : Operand} {k : Nat} {z : Own} (ho : o.op = .convert t t x) (hd : dstLt o.dst s.n = true) (hx : s.eval x = .l (.own k)) (hz : assoc s.o k = some z) (hn : z.2.2.isEmpty = false) (hu : P.underlying t = some (.slice e)) (hue : P.underlying e = some (.int .u8))
    (h : fS (s.drop k) fun s => putX s o.dst (.l (.d (.sl z.2.2))) K) : OpX P o s K := by
  rw [fS_eq, putX_eq] at h
  refine ⟨fun w0 p0 p σ tm ups w Q hr => ?_⟩
  have hx' := hr.eval (ds := []) x
  rw [hx] at hx'
  have hlive : s.live k := .inr (by rw [hz]; rfl)
  obtain ⟨xs, ho1, ho2, ho3, ho4⟩ := hr.o k z hz
  obtain ⟨hv, _⟩ := hx'
  rcases ho1.2 with ⟨_, h0⟩ | ⟨g, cap, cur, hs, hb, hg, hnc, hcm, hcs, htake⟩
  · rw [List.length_eq_zero_iff.1 h0] at hn; cases hn
  have hlt : g < w.heap.size := (Array.getElem?_eq_some_iff.1 hg).1
  let w' : World := w.freeze ⟨g, cur.size, none⟩ 1
  have hblk : ∀ b, b ≠ g → w'.heap[b]? = w.heap[b]? := fun b hb => by
    show (w.heap.modify g _)[b]? = _
    rw [Array.getElem?_modify, if_neg (fun c => hb c.symm)]
  have hg' : w'.heap[g]? = some (.cells cur z.1 (cur.size, cur.size + 1)) := by
    show (w.heap.modify g _)[g]? = _
    rw [Array.getElem?_modify, if_pos rfl, hg]
    rfl
  have hexec : (execOp (Act.eval ⟨tm, []⟩) o).run P w = .ok (.value (σ k)) w' := by
    unfold execOp
    have hsh : w.shape? g = some (z.1, cur.size) := by unfold World.shape?; rw [hg]
    simp only [ho]
    rw [hv, hs]
    simp [convert, run_underlying hu, run_underlying hue, markStringish, hsh]
    rfl
  unfold Oper.wp
  rw [hexec, Oper.upon_value]
  have hbel : Below w0.heap.size w0 w' := ⟨hr.below.os, hr.below.tape, hr.below.output, by show _ ≤ (w.heap.modify g _).size; rw [Array.size_modify]; exact hr.below.size, fun b hb' => by
    rw [hblk b (by omega)]; exact hr.below.block b hb'⟩
  have hsz : w.heap.size ≤ w'.heap.size := by show _ ≤ (w.heap.modify g _).size; rw [Array.size_modify]; exact Nat.le_refl _
  have hσg : blk (σ k) = some g := by rw [hs]; rfl
  have h1 := hr.step (σ' := σ) k (fun _ _ => rfl) hbel (fun q hq hc => hblk q fun e => by
    subst e
    rcases hc with hc | ⟨j, hj, hl, hjg⟩
    · exact ho4 q hσg hc
    · exact hj (hr.apart j k q hl hlive hjg hσg)) hsz
  have h2 := h1.freeze hb (by omega) (fun j hj hjg => (live_drop hj).1 (hr.apart j k g (live_drop hj).2 hlive hjg hσg))
  refine ⟨by cases o.dst <;> rfl, _, _, σ, h, h2.put o.dst _ _ (dstLt_spec hd) ?_ []⟩
  have hpw : ∀ b, p b → w'.heap[b]? = w.heap[b]? := fun b hb' => hblk b fun e => ho4 g hσg (e ▸ hb')
  rw [hs]
  refine RepD.sl z.2.2 z.2.1 _ cap (fun i j => xs.getD (i * z.2.1 + j) undef) hnc hcm (fun e => by cases e) (fun ad e _ => .inr (by cases e; rfl)) ho2 ?_ ?_
  · intro ad i j r x e hi hj
    cases e
    have hjl : j < z.2.1 := by rw [← ho2 r (List.mem_of_getElem? hi)]; exact (List.getElem?_eq_some_iff.1 hj).1
    have hf := flatten_get z.2.1 z.2.2 ho2 i j hjl
    rw [hi, Option.bind_some, hj] at hf
    obtain ⟨u, hu', hru⟩ := ho3.get hf
    have hc := ho1.cells (g := g) (by rw [hs]; rfl) _ u hu'
    rw [List.getD_eq_getElem?_getD, hu', Option.getD_some]
    have hcell : ∀ (W : World) (fz : Nat × Nat), W.heap[g]? = some (.cells cur z.1 fz) → W.cell? ⟨g, i * z.2.1 + j, none⟩ = cur[i * z.2.1 + j]? := by
      intro W fz hW
      simp [World.cell?, hW]
    have e2 : (⟨g, 0, none⟩ : Addr).add (i * z.2.1 + j) = ⟨g, i * z.2.1 + j, none⟩ := by unfold Addr.add; split <;> simp_all
    rw [e2] at hc ⊢
    rw [hcell w' _ hg', ← hcell w _ hg]
    exact hc
  · intro i j r x hi hj
    have hjl : j < z.2.1 := by rw [← ho2 r (List.mem_of_getElem? hi)]; exact (List.getElem?_eq_some_iff.1 hj).1
    have hf := flatten_get z.2.1 z.2.2 ho2 i j hjl
    rw [hi, Option.bind_some, hj] at hf
    obtain ⟨u, hu', hru⟩ := ho3.get hf
    rw [List.getD_eq_getElem?_getD, hu', Option.getD_some]
    exact (hru.mono hpw (fun _ h => h)).mono (fun _ _ => rfl) (fun _ h => .inl h)
/-- The ways out of a call that is walked in place meet. -/
theorem inJ {α R : Type} {r : R} {Y : α → Option R} {X : (α → Option R) → Option R} {f : FuncId} {args : List AV} {dst : Option Nat} (st : α → St) (h : jn Y X = some r)
    (h1 : ∀ (k : α → Option R) (hk : ∀ v, k v = some r → Y v = some r), X k = some r → CallX P f args s dst fun s' => ∃ s2, Weak s' s2 ∧ ∃ v, s2 = st v ∧ Y v = some r)
    (h2 : ∀ v, Y v = some r → K (st v)) : CallX P f args s dst K :=
  ⟨(h1 Y (fun _ h => h) h).h.mono fun r s' ⟨hn, s2, hw, s3, hw2, v, hv, hy⟩ => ⟨hn, s3, hw.trans hw2, hv ▸ h2 v hy⟩⟩
theorem fkN {R : Type} {r : R} {b : Bool} {x y : Option R} {X Y : Prop} (h : fk b x y = some r) (h1 : b = true → x = some r → X) (h2 : b = false → y = some r → Y) : forkK b X Y := by
  cases b
  · exact h2 rfl h
  · exact h1 rfl h
theorem lpX {α R : Type} {r : R} {body : (α → Option R) → α → Option R} {n : Nat} {v0 : α} {xb : (Exit → St → Prop) → St → Prop} {Q : Exit → St → Prop} (st : α → St) (h : lp body n v0 = some r) (hw : WkF s (st v0))
    (step : ∀ (n : Nat) (nx : α → Option R) (hn : ∀ v', nx v' = some r → lp body n v' = some r) (v : α), body nx v = some r → xb (fun e s' => match e with | .normal => ∃ n' s2, n' < n + 1 ∧ Weak s' s2 ∧ ∃ v', s2 = st v' ∧ lp body n' v' = some r | e => Q e s') (st v)) : LoopVC xb Q s := lpS st h hw.h step
/-- Few numbers, one by one. -/
theorem mkF {R : Type} {r : R} {b : Bool} {x y : Option R} {G : Prop} (h : fk b x y = some r) (h1 : b = true → x = some r → G) (h2 : y = some r → G) : G := by
  cases b
  · exact h2 h
  · exact h1 rfl h
end
end Go.VC
namespace Go.Proofs.YtpephpefjddgcaaGreat
open Go Go.VC
structure Face where
  P : Int
  B : Int
  deriving DecidableEq
def Face.enc (x : Face) : List Go.VC.D := [.int .i64 x.P, .int .i64 x.B]
structure Entry where
  At : Int
  Kind : Int
  Task : Int
  deriving DecidableEq
def Entry.enc (x : Entry) : List Go.VC.D := [.int .i64 x.At, .int .i64 x.Kind, .int .i64 x.Task]
structure WorldSaw where
  At : Int
  Value : Int
  Err : Int
  deriving DecidableEq
def WorldSaw.enc (x : WorldSaw) : List Go.VC.D := [.int .i64 x.At, .int .i64 x.Value, .int .i64 x.Err]
structure Synthlayer where
  l : List Face
  wants : List Int
  deriving DecidableEq
def Synthlayer.enc (x : Synthlayer) : List Go.VC.D := [.sl (x.l.map Face.enc), .sl (x.wants.map (eI .i64))]
structure Window where
  Part : Int
  From : Int
  Len : Int
  deriving DecidableEq
def Window.enc (x : Window) : List Go.VC.D := [.int .i64 x.Part, .int .i64 x.From, .int .i64 x.Len]
structure Imagereader where
  b : List Int
  at' : Int
  e : Int
  deriving DecidableEq
def Imagereader.enc (x : Imagereader) : List Go.VC.D := [.sl (x.b.map (eI .u8)), .int .i64 x.at', .int .i64 x.e]
structure Port where
  From : Int
  To : Int
  Cap : Int
  deriving DecidableEq
def Port.enc (x : Port) : List Go.VC.D := [.int .i64 x.From, .int .i64 x.To, .int .i64 x.Cap]
structure Sec where
  Res : Int
  At : Int
  Len : Int
  deriving DecidableEq
def Sec.enc (x : Sec) : List Go.VC.D := [.int .i64 x.Res, .int .i64 x.At, .int .i64 x.Len]
structure RingRing where
  Buf : List Int
  First : Int
  Many : Int
  deriving DecidableEq
def RingRing.enc (x : RingRing) : List Go.VC.D := [.sl (x.Buf.map (eI .i64)), .int .i64 x.First, .int .i64 x.Many]
structure PortLine where
  Port : Port
  Under : RingRing
  Got : RingRing
  deriving DecidableEq
def PortLine.enc (x : PortLine) : List Go.VC.D := [.int .i64 x.Port.From, .int .i64 x.Port.To, .int .i64 x.Port.Cap, .sl (x.Under.Buf.map (eI .i64)), .int .i64 x.Under.First, .int .i64 x.Under.Many, .sl (x.Got.Buf.map (eI .i64)), .int .i64 x.Got.First, .int .i64 x.Got.Many]
structure Partbook where
  log : List Entry
  now : Int
  deriving DecidableEq
def Partbook.enc (x : Partbook) : List Go.VC.D := [.sl (x.log.map Entry.enc), .int .i64 x.now]
structure Job where
  Task : Int
  At : Int
  Due : Int
  Want : Int
  Had : Int
  Began : Bool
  deriving DecidableEq
def Job.enc (x : Job) : List Go.VC.D := [.int .i64 x.Task, .int .i64 x.At, .int .i64 x.Due, .int .i64 x.Want, .int .i64 x.Had, .bool x.Began]
structure TableTable where
  Frame : Int
  Windows : List Window
  deriving DecidableEq
def TableTable.enc (x : TableTable) : List Go.VC.D := [.int .i64 x.Frame, .sl (x.Windows.map Window.enc)]
structure Task where
  C : Int
  D : Int
  T : Int
  Secs : List Sec
  deriving DecidableEq
def Task.enc (x : Task) : List Go.VC.D := [.int .i64 x.C, .int .i64 x.D, .int .i64 x.T, .sl (x.Secs.map Sec.enc)]
structure KernelCmd where
  Part : Int
  Kind : Int
  I : Int
  V : Int
  T : Task
  deriving DecidableEq
def KernelCmd.enc (x : KernelCmd) : List Go.VC.D := [.int .i64 x.Part, .int .i64 x.Kind, .int .i64 x.I, .int .i64 x.V, .int .i64 x.T.C, .int .i64 x.T.D, .int .i64 x.T.T, .sl (x.T.Secs.map Sec.enc)]
structure WorldView where
  Saws : List WorldSaw
  Ran : List Int
  Log : List Entry
  deriving DecidableEq
def WorldView.enc (x : WorldView) : List Go.VC.D := [.sl (x.Saws.map WorldSaw.enc), .sl (x.Ran.map (eI .i64)), .sl (x.Log.map Entry.enc)]
structure PartState where
  Tasks : List Task
  Leaves : List Bool
  Lasts : List Int
  Jobs : List Job
  Log : List Entry
  deriving DecidableEq
def PartState.enc (x : PartState) : List Go.VC.D := [.sl (x.Tasks.map Task.enc), .sl (x.Leaves.map eB), .sl (x.Lasts.map (eI .i64)), .sl (x.Jobs.map Job.enc), .sl (x.Log.map Entry.enc)]
structure Part where
  Face : Face
  Tasks : List Task
  deriving DecidableEq
def Part.enc (x : Part) : List Go.VC.D := [.int .i64 x.Face.P, .int .i64 x.Face.B, .sl (x.Tasks.map Task.enc)]
structure Parthand where
  book : Partbook
  s : PartState
  deriving DecidableEq
def Parthand.enc (x : Parthand) : List Go.VC.D := [.sl (x.book.log.map Entry.enc), .int .i64 x.book.now, .sl (x.s.Tasks.map Task.enc), .sl (x.s.Leaves.map eB), .sl (x.s.Lasts.map (eI .i64)), .sl (x.s.Jobs.map Job.enc), .sl (x.s.Log.map Entry.enc)]
structure Config where
  Parts : List Part
  Ports : List Port
  deriving DecidableEq
def Config.enc (x : Config) : List Go.VC.D := [.sl (x.Parts.map Part.enc), .sl (x.Ports.map Port.enc)]
structure KernelState where
  Table : TableTable
  Faces : List Face
  Parts : List PartState
  Lines : List PortLine
  Now : Int
  deriving DecidableEq
def KernelState.enc (x : KernelState) : List Go.VC.D := [.int .i64 x.Table.Frame, .sl (x.Table.Windows.map Window.enc), .sl (x.Faces.map Face.enc), .sl (x.Parts.map PartState.enc), .sl (x.Lines.map PortLine.enc), .int .i64 x.Now]
def E_Bool : Bool → List CV := fun r => [.d (.bool r)]
def E_ListWorldView_Int : ((List WorldView) × Int) → List CV := fun r => [.d (.sl (r.1.map WorldView.enc)), .d (.int .i64 r.2)]
def E_Config_Int_Int : (Config × Int × Int) → List CV := fun r => [.agg (Config.enc r.1), .d (.int .i64 r.2.1), .d (.int .i64 r.2.2)]
def E_ListPortLine_Int : ((List PortLine) × Int) → List CV := fun r => [.d (.sl (r.1.map PortLine.enc)), .d (.int .i64 r.2)]
def E_RingRing_Int : (RingRing × Int) → List CV := fun r => [.agg (RingRing.enc r.1), .d (.int .i64 r.2)]
def E_KernelState_Int : (KernelState × Int) → List CV := fun r => [.agg (KernelState.enc r.1), .d (.int .i64 r.2)]
def E_TableTable_Int : (TableTable × Int) → List CV := fun r => [.agg (TableTable.enc r.1), .d (.int .i64 r.2)]
def E_ListInt_Int : ((List Int) × Int) → List CV := fun r => [.d (.sl (r.1.map (eI .i64))), .d (.int .i64 r.2)]
def E_Int_Int : (Int × Int) → List CV := fun r => [.d (.int .i64 r.1), .d (.int .i64 r.2)]
def E_PartState_Int : (PartState × Int) → List CV := fun r => [.agg (PartState.enc r.1), .d (.int .i64 r.2)]
def E_Int : Int → List CV := fun r => [.d (.int .i64 r)]
def E_Bool_Int : (Bool × Int) → List CV := fun r => [.d (.bool r.1), .d (.int .i64 r.2)]
def E_Int_Int_Int : (Int × Int × Int) → List CV := fun r => [.d (.int .i64 r.1), .d (.int .i64 r.2.1), .d (.int .i64 r.2.2)]
def E_Int_Bool_Int : (Int × Bool × Int) → List CV := fun r => [.d (.int .i64 r.1), .d (.bool r.2.1), .d (.int .i64 r.2.2)]
def E_KernelState_Int_Int : (KernelState × Int × Int) → List CV := fun r => [.agg (KernelState.enc r.1), .d (.int .i64 r.2.1), .d (.int .i64 r.2.2)]
def E_KernelState : KernelState → List CV := fun r => [.agg (KernelState.enc r)]
def E_RingRing : RingRing → List CV := fun r => [.agg (RingRing.enc r)]
def E_ListPortLine : (List PortLine) → List CV := fun r => [.d (.sl (r.map PortLine.enc))]
def E_Int_ListPortLine_Int : (Int × (List PortLine) × Int) → List CV := fun r => [.d (.int .i64 r.1), .d (.sl (r.2.1.map PortLine.enc)), .d (.int .i64 r.2.2)]
def E_Int_RingRing_Int : (Int × RingRing × Int) → List CV := fun r => [.d (.int .i64 r.1), .agg (RingRing.enc r.2.1), .d (.int .i64 r.2.2)]
def E_KernelState_ListInt_Int : (KernelState × (List Int) × Int) → List CV := fun r => [.agg (KernelState.enc r.1), .d (.sl (r.2.1.map (eI .i64))), .d (.int .i64 r.2.2)]
def E_PartState_Int_Int : (PartState × Int × Int) → List CV := fun r => [.agg (PartState.enc r.1), .d (.int .i64 r.2.1), .d (.int .i64 r.2.2)]
def E_ListJob_Job_Bool : ((List Job) × Job × Bool) → List CV := fun r => [.d (.sl (r.1.map Job.enc)), .agg (Job.enc r.2.1), .d (.bool r.2.2)]
def E_ListInt : (List Int) → List CV := fun r => [.d (.sl (r.map (eI .i64)))]
def E_ListTask : (List Task) → List CV := fun r => [.d (.sl (r.map Task.enc))]
def E_ListBool : (List Bool) → List CV := fun r => [.d (.sl (r.map eB))]
def E_Face_Int : (Face × Int) → List CV := fun r => [.agg (Face.enc r.1), .d (.int .i64 r.2)]
def E_Int_Bool : (Int × Bool) → List CV := fun r => [.d (.int .i64 r.1), .d (.bool r.2)]
end Go.Proofs.YtpephpefjddgcaaGreat
namespace Go.Proofs.YtpephpefjddgcaaGreat
open Go Go.VC
theorem andT {α : Type} {p : α → Prop} (h : ∃ x, p x) : ∃ x, p x ∧ True := h.imp fun _ h => ⟨h, trivial⟩
def wfI (k : IntKind) (n : Int) : Prop := (Lit.int k n).wf = true
abbrev tyT := T
def Sec.wf (x : Sec) : Prop := wfI .i64 x.Res ∧ wfI .i64 x.At ∧ wfI .i64 x.Len
theorem Sec.of {n : Nat} {ds : List Go.VC.D} (h : ShD tyT n 142 ds) : ∃ x : Sec, ds = x.enc ∧ x.wf := by
  obtain ⟨m, q0⟩ := h.st T142
  clear h
  obtain ⟨d0, r0, e0, h0, q1⟩ := q0.c
  obtain ⟨y0, z0, w0⟩ := (h0.i T3)
  obtain ⟨d1, r1, e1, h1, q2⟩ := q1.c
  obtain ⟨y1, z1, w1⟩ := (h1.i T3)
  obtain ⟨d2, r2, e2, h2, q3⟩ := q2.c
  obtain ⟨y2, z2, w2⟩ := (h2.i T3)
  subst e0 z0 e1 z1 e2 z2
  cases q3
  exact ⟨⟨y0, y1, y2⟩, rfl, w0, w1, w2⟩
def Task.wf (x : Task) : Prop := wfI .i64 x.C ∧ wfI .i64 x.D ∧ wfI .i64 x.T ∧ (x.Secs.length * 24 ≤ BB ∧ ∀ y1 ∈ x.Secs, Sec.wf y1)
theorem Task.of {n : Nat} {ds : List Go.VC.D} (h : ShD tyT n 53 ds) : ∃ x : Task, ds = x.enc ∧ x.wf := by
  obtain ⟨m, q0⟩ := h.st T53
  clear h
  obtain ⟨d0, r0, e0, h0, q1⟩ := q0.c
  obtain ⟨y0, z0, w0⟩ := (h0.i T3)
  obtain ⟨d1, r1, e1, h1, q2⟩ := q1.c
  obtain ⟨y1, z1, w1⟩ := (h1.i T3)
  obtain ⟨d2, r2, e2, h2, q3⟩ := q2.c
  obtain ⟨y2, z2, w2⟩ := (h2.i T3)
  obtain ⟨d3, r3, e3, h3, q4⟩ := q3.c
  obtain ⟨y3, z3, w3⟩ := (h3.l (f := Sec.enc) (W := (fun x => Sec.wf x)) T51 T142 (fun _ _ h => (Sec.of h)))
  subst e0 z0 e1 z1 e2 z2 e3 z3
  cases q4
  exact ⟨⟨y0, y1, y2, y3⟩, rfl, w0, w1, w2, w3⟩
def Face.wf (x : Face) : Prop := wfI .i64 x.P ∧ wfI .i64 x.B
theorem Face.of {n : Nat} {ds : List Go.VC.D} (h : ShD tyT n 24 ds) : ∃ x : Face, ds = x.enc ∧ x.wf := by
  obtain ⟨m, q0⟩ := h.st T24
  clear h
  obtain ⟨d0, r0, e0, h0, q1⟩ := q0.c
  obtain ⟨y0, z0, w0⟩ := (h0.i T3)
  obtain ⟨d1, r1, e1, h1, q2⟩ := q1.c
  obtain ⟨y1, z1, w1⟩ := (h1.i T3)
  subst e0 z0 e1 z1
  cases q2
  exact ⟨⟨y0, y1⟩, rfl, w0, w1⟩
end Go.Proofs.YtpephpefjddgcaaGreat
namespace Go.Proofs.YtpephpefjddgcaaGreat
open Go Go.VC
noncomputable def task_own (a0 : Task) : Option Bool :=
  fk (decide (a0.C ≥ (1 : Int))) (fk (decide (a0.C ≤ a0.D)) (fk (decide (a0.D ≤ a0.T)) (fk (decide (a0.T ≤ (200 : Int))) (some (decide ((a0.Secs.length : Int) ≤ (4 : Int)))) (some false)) (some false)) (some false)) (some false)
theorem task_own_w (a0 : Task) (r : Bool) (h : task_own a0 = some r) : Go.VC.Spec Tryz.prog 62 [.agg (Task.enc a0)] (fun y => y = E_Bool r) := by
  refine Go.VC.Spec.of_xc (args := [.agg (Task.enc a0)]) (fn := Tryz.f62) tab ⟨[(0, [1]), (1, [2])], [], [], []⟩ 31 [.tmp 2] rfl rfl rfl rfl rfl rfl ?_
  conv => whnf
  refine fkS h (fun h => ?_) (fun h => ?_)
  · conv => whnf
    refine fkS h (fun h => ?_) (fun h => ?_)
    · conv => whnf
      refine fkS h (fun h => ?_) (fun h => ?_)
      · conv => whnf
        refine fkS h (fun h => ?_) (fun h => ?_)
        · conv => whnf
          refine lenS a0.Secs Sec.enc rfl ?_
          conv => whnf
          exact rt (E := E_Bool) h rfl
        conv => whnf
        exact rt (E := E_Bool) h rfl
      conv => whnf
      exact rt (E := E_Bool) h rfl
    conv => whnf
    exact rt (E := E_Bool) h rfl
  conv => whnf
  exact rt (E := E_Bool) h rfl

end Go.Proofs.YtpephpefjddgcaaGreat
namespace Go.Proofs.YtpephpefjddgcaaGreat
open Go Go.VC
noncomputable def task_may (a0 : Task) (a1 : Sec) : Option Bool :=
  fk (decide (a1.Res ≥ (0 : Int))) (fk (decide (a1.Res < (4 : Int))) (fk (decide (a1.At ≥ (0 : Int))) (fk (decide (a1.At < a0.C)) (fk (decide (a1.Len ≥ (1 : Int))) (some (decide (a1.Len ≤ (wr (a0.C - a1.At))))) (some false)) (some false)) (some false)) (some false)) (some false)
theorem task_may_w (a0 : Task) (a1 : Sec) (r : Bool) (h : task_may a0 a1 = some r) : Go.VC.Spec Tryz.prog 63 [.agg (Task.enc a0), .agg (Sec.enc a1)] (fun y => y = E_Bool r) := by
  refine Go.VC.Spec.of_xc (args := [.agg (Task.enc a0), .agg (Sec.enc a1)]) (fn := Tryz.f63) tab ⟨[(0, [2, 3]), (1, [4])], [], [], []⟩ 40 [.tmp 4] rfl rfl rfl rfl rfl rfl ?_
  conv => whnf
  refine fkS h (fun h => ?_) (fun h => ?_)
  · conv => whnf
    refine fkS h (fun h => ?_) (fun h => ?_)
    · conv => whnf
      refine fkS h (fun h => ?_) (fun h => ?_)
      · conv => whnf
        refine fkS h (fun h => ?_) (fun h => ?_)
        · conv => whnf
          refine fkS h (fun h => ?_) (fun h => ?_)
          · conv => whnf
            exact rt (E := E_Bool) h rfl
          conv => whnf
          exact rt (E := E_Bool) h rfl
        conv => whnf
        exact rt (E := E_Bool) h rfl
      conv => whnf
      exact rt (E := E_Bool) h rfl
    conv => whnf
    exact rt (E := E_Bool) h rfl
  conv => whnf
  exact rt (E := E_Bool) h rfl

end Go.Proofs.YtpephpefjddgcaaGreat
namespace Go.Proofs.YtpephpefjddgcaaGreat
open Go Go.VC
noncomputable def task_fits (a0 : Sec) (a1 : Sec) : Option Bool :=
  fk (decide (a1.At ≥ (wr (a0.At + a0.Len)))) (some true) (fk (decide (a1.At < a0.At)) (some false) (fk (decide ((wr (a1.At + a1.Len)) ≤ (wr (a0.At + a0.Len)))) (some (!decide (a0.Res = a1.Res))) (some false)))
theorem task_fits_w (a0 : Sec) (a1 : Sec) (r : Bool) (h : task_fits a0 a1 = some r) : Go.VC.Spec Tryz.prog 64 [.agg (Sec.enc a0), .agg (Sec.enc a1)] (fun y => y = E_Bool r) := by
  refine Go.VC.Spec.of_xc (args := [.agg (Sec.enc a0), .agg (Sec.enc a1)]) (fn := Tryz.f64) tab ⟨[(0, [2, 3]), (1, [2, 3, 5]), (2, [4]), (3, [2, 3, 14]), (4, [4]), (5, [4])], [], [], []⟩ 38 [.tmp 4] rfl rfl rfl rfl rfl rfl ?_
  conv => whnf
  refine fkS h (fun h => ?_) (fun h => ?_)
  · conv => whnf
    exact rt (E := E_Bool) h rfl
  conv => whnf
  refine fkS h (fun h => ?_) (fun h => ?_)
  · conv => whnf
    exact rt (E := E_Bool) h rfl
  conv => whnf
  refine fkS h (fun h => ?_) (fun h => ?_)
  · conv => whnf
    exact rt (E := E_Bool) h rfl
  conv => whnf
  exact rt (E := E_Bool) h rfl

end Go.Proofs.YtpephpefjddgcaaGreat
namespace Go.Proofs.YtpephpefjddgcaaGreat
open Go Go.VC
noncomputable def task_Right (a0 : Task) : Option Bool :=
  bnd (task_own a0) fun x1 => fk (!x1) (some false) (lp (fun nx2 (v2 : Int) => fk (decide (v2 < (a0.Secs.length : Int))) (ix a0.Secs v2 fun x3 => bnd (task_may a0 x3) fun x4 => fk (!x4) (some false) (ck (decide ((0 : Int) ≤ (0 : Int)) && decide ((0 : Int) ≤ v2) && decide (v2 ≤ (a0.Secs.length : Int))) (lp (fun nx5 (v5 : Int) => fk (decide (v5 < (((a0.Secs.take v2.toNat).drop (0 : Int).toNat).length : Int))) (ix ((a0.Secs.take v2.toNat).drop (0 : Int).toNat) v5 fun x6 => bnd (task_fits x6 x3) fun x7 => fk x7 (nx5 (wr (v5 + (1 : Int)))) (some (decide ((0 : Int) > (0 : Int))))) (nx2 (wr (v2 + (1 : Int))))) FU (0 : Int)))) (some (decide (a0.C > (0 : Int))))) FU (0 : Int))
theorem task_Right_w (a0 : Task) (r : Bool) (h : task_Right a0 = some r) : Go.VC.Spec Tryz.prog 37 [.agg (Task.enc a0)] (fun y => y = E_Bool r) := by
  refine Go.VC.Spec.of_xc (args := [.agg (Task.enc a0)]) (fn := Tryz.f37) tab ⟨[(0, [1]), (1, [1, 9]), (2, [2]), (3, [1, 11, 12, 13]), (4, [1, 11, 12, 13, 14]), (5, [1, 3, 4, 11, 12, 13]), (6, [1, 3, 4, 11, 12, 13, 21]), (7, [2]), (8, [1, 4, 11, 12, 13, 25, 26, 27]), (9, [1, 4, 11, 12, 13, 25, 26, 27, 28]), (10, [1, 4, 6, 11, 12, 13, 25, 26, 27]), (11, [1, 4, 11, 12, 13, 25, 26, 27, 33]), (12, [1]), (13, [1, 4, 11, 12, 13, 25, 26, 27]), (14, [1, 11, 12, 13]), (15, [2])], [], [], []⟩ 40 [.tmp 2] rfl rfl rfl rfl rfl rfl ?_
  conv => whnf
  refine caS (E := E_Bool) h (task_own_w a0) rfl (fun _ => rfl) (fun x1 h => ?_)
  conv => whnf
  refine fkS h (fun h => ?_) (fun h => ?_)
  · conv => whnf
    exact rt (E := E_Bool) h rfl
  conv => whnf
  refine lenS a0.Secs Sec.enc rfl ?_
  conv => whnf
  refine lpS (fun v2 => ⟨[(1, .l (.ptr 2 0)), (11, .l (.d (.sl (a0.Secs.map Sec.enc)))), (12, .l (.d (.int .i64 (a0.Secs.length : Int)))), (13, .l (.d (.int .i64 v2)))], 40, [], [(2, [.d (.int .i64 a0.C), .d (.int .i64 a0.D), .d (.int .i64 a0.T), .d (.sl (a0.Secs.map Sec.enc))])], []⟩) h (Weak.refl _) (fun _ nx2 hn2 v2 h => ?_)
  conv => whnf
  refine fkS h (fun h => ?_) (fun h => ?_)
  · conv => whnf
    refine ixS (enc := Sec.enc) h rfl (fun _ => rfl) (fun x3 h => ?_)
    conv => whnf
    refine caS (E := E_Bool) h (task_may_w a0 x3) rfl (fun _ => rfl) (fun x4 h => ?_)
    conv => whnf
    refine fkS h (fun h => ?_) (fun h => ?_)
    · conv => whnf
      exact rt (E := E_Bool) h rfl
    conv => whnf
    refine slS (enc := Sec.enc) h rfl rfl (.inl rfl) (fun _ => rfl) (fun h => ?_)
    conv => whnf
    refine lenS ((a0.Secs.take v2.toNat).drop (0 : Int).toNat) Sec.enc rfl ?_
    conv => whnf
    refine lpS (fun v5 => ⟨[(1, .l (.ptr 2 0)), (4, .l (.ptr 5 0)), (11, .l (.d (.sl (a0.Secs.map Sec.enc)))), (12, .l (.d (.int .i64 (a0.Secs.length : Int)))), (13, .l (.d (.int .i64 v2))), (25, .l (.d (.sl (((a0.Secs.take v2.toNat).drop (0 : Int).toNat).map Sec.enc)))), (26, .l (.d (.int .i64 (((a0.Secs.take v2.toNat).drop (0 : Int).toNat).length : Int)))), (27, .l (.d (.int .i64 v5)))], 40, [], [(2, [.d (.int .i64 a0.C), .d (.int .i64 a0.D), .d (.int .i64 a0.T), .d (.sl (a0.Secs.map Sec.enc))]), (5, [.d (.int .i64 x3.Res), .d (.int .i64 x3.At), .d (.int .i64 x3.Len)])], []⟩) h (Weak.refl _) (fun _ nx5 hn5 v5 h => ?_)
    conv => whnf
    refine fkS h (fun h => ?_) (fun h => ?_)
    · conv => whnf
      refine ixS (enc := Sec.enc) h rfl (fun _ => rfl) (fun x6 h => ?_)
      conv => whnf
      refine caS (E := E_Bool) h (task_fits_w x6 x3) rfl (fun _ => rfl) (fun x7 h => ?_)
      conv => whnf
      refine fkS h (fun h => ?_) (fun h => ?_)
      · conv => whnf
        exact leS hn5 h (Weak.refl _)
      conv => whnf
      exact rt (E := E_Bool) h rfl
    conv => whnf
    exact leS hn2 h (Weak.refl _)
  conv => whnf
  exact rt (E := E_Bool) h rfl

end Go.Proofs.YtpephpefjddgcaaGreat
namespace Go.Proofs.YtpephpefjddgcaaGreat
open Go Go.VC
noncomputable def task_All (a0 : List Task) : Option Bool :=
  lp (fun nx1 (v1 : Int) => fk (decide (v1 < (a0.length : Int))) (ix a0 v1 fun x2 => bnd (task_Right x2) fun x3 => fk (!x3) (some false) (nx1 (wr (v1 + (1 : Int))))) (some (decide ((a0.length : Int) ≤ (8 : Int))))) FU (0 : Int)
theorem task_All_w (a0 : List Task) (r : Bool) (h : task_All a0 = some r) : Go.VC.Spec Tryz.prog 19 [.d (.sl (a0.map Task.enc))] (fun y => y = E_Bool r) := by
  refine Go.VC.Spec.of_xc (args := [.d (.sl (a0.map Task.enc))]) (fn := Tryz.f19) tab ⟨[(0, [0]), (1, [0, 5, 6, 7]), (2, [0, 5, 6, 7, 8]), (3, [0, 4, 5, 6, 7]), (4, [0, 5, 6, 7, 13]), (5, [2]), (6, [0, 5, 6, 7]), (7, [2])], [], [], []⟩ 18 [.tmp 2] rfl rfl rfl rfl rfl rfl ?_
  conv => whnf
  refine lenS a0 Task.enc rfl ?_
  conv => whnf
  refine lpS (fun v1 => ⟨[(0, .l (.d (.sl (a0.map Task.enc)))), (5, .l (.d (.sl (a0.map Task.enc)))), (6, .l (.d (.int .i64 (a0.length : Int)))), (7, .l (.d (.int .i64 v1)))], 18, [], [], []⟩) h (Weak.refl _) (fun _ nx1 hn1 v1 h => ?_)
  conv => whnf
  refine fkS h (fun h => ?_) (fun h => ?_)
  · conv => whnf
    refine ixS (enc := Task.enc) h rfl (fun _ => rfl) (fun x2 h => ?_)
    conv => whnf
    refine caS (E := E_Bool) h (task_Right_w x2) rfl (fun _ => rfl) (fun x3 h => ?_)
    conv => whnf
    refine fkS h (fun h => ?_) (fun h => ?_)
    · conv => whnf
      exact rt (E := E_Bool) h rfl
    conv => whnf
    exact leS hn1 h (Weak.refl _)
  conv => whnf
  refine lenS a0 Task.enc rfl ?_
  conv => whnf
  exact rt (E := E_Bool) h rfl

end Go.Proofs.YtpephpefjddgcaaGreat
namespace Go.Proofs.YtpephpefjddgcaaGreat
open Go Go.VC
noncomputable def demand_Legal (a0 : List Task) (a1 : List (List Int)) : Option Bool :=
  jn (fun (w1 : Bool) => fk w1 (some false) (lp (fun nx3 (v3 : Int) => fk (decide (v3 < (a1.length : Int))) (ix a1 v3 fun x4 => fk (decide ((x4.length : Int) > (1000 : Int))) (some false) (lp (fun nx5 (v5 : Int) => fk (decide (v5 < (x4.length : Int))) (ix x4 v5 fun x6 => jn (fun (w7 : Bool) => fk w7 (some false) (nx5 (wr (v5 + (1 : Int))))) (fun k7 => fk (decide (x6 < (0 : Int))) (k7 true) (fk (decide (x6 > (4611686018427387903 : Int))) (k7 true) (fk (decide (v5 > (0 : Int))) (ix x4 (wr (v5 - (1 : Int))) fun x8 => ix a0 v3 fun x9 => k7 (decide ((wr (x6 - x8)) < x9.T))) (k7 false))))) (nx3 (wr (v3 + (1 : Int))))) FU (0 : Int))) (some true)) FU (0 : Int))) (fun k1 => bnd (task_All a0) fun x2 => fk (!x2) (k1 true) (k1 (!decide ((a1.length : Int) = (a0.length : Int)))))
theorem demand_Legal_w (a0 : List Task) (a1 : List (List Int)) (r : Bool) (h : demand_Legal a0 a1 = some r) : Go.VC.Spec Tryz.prog 24 [.d (.sl (a0.map Task.enc)), .d (.sl (a1.map (eL (eI .i64))))] (fun y => y = E_Bool r) := by
  refine Go.VC.Spec.of_xc (args := [.d (.sl (a0.map Task.enc)), .d (.sl (a1.map (eL (eI .i64))))]) (fn := Tryz.f24) tab ⟨[(0, [0, 1]), (1, [0, 1, 18]), (2, [4]), (3, [0, 19, 20, 21]), (4, [0, 19, 20, 21, 22]), (5, [0, 5, 6, 19, 20, 21]), (6, [0, 5, 6, 19, 20, 21, 28]), (7, [4]), (8, [0, 5, 6, 19, 20, 21, 29, 30, 31]), (9, [0, 5, 6, 19, 20, 21, 29, 30, 31, 32]), (10, [0, 5, 6, 7, 8, 19, 20, 21, 29, 30, 31]), (11, [0, 5, 6, 19, 20, 21, 29, 30, 31, 60]), (12, [4]), (13, [0, 5, 6, 19, 20, 21, 29, 30, 31]), (14, [0, 19, 20, 21]), (15, [4])], [], [100018, 100060], []⟩ 63 [.tmp 4] rfl rfl rfl rfl rfl rfl ?_
  conv => whnf
  refine jnS (fun w1 => ⟨[(0, .l (.d (.sl (a0.map Task.enc)))), (1, .l (.d (.sl (a1.map (eL (eI .i64)))))), (18, .l (.d (.bool w1)))], 63, [], [], []⟩) h (fun k1 hk1 h => ?_) (fun w1 h => ?_)
  · conv => whnf
    refine caS (E := E_Bool) h (task_All_w a0) rfl (fun _ => rfl) (fun x2 h => ?_)
    conv => whnf
    refine fkS h (fun h => ?_) (fun h => ?_)
    · conv => whnf
      exact jeS hk1 h (Weak.refl _)
    conv => whnf
    refine lenS a1 (eL (eI .i64)) rfl ?_
    conv => whnf
    refine lenS a0 Task.enc rfl ?_
    conv => whnf
    exact jeS hk1 h (Weak.refl _)
  conv => whnf
  refine fkS h (fun h => ?_) (fun h => ?_)
  · conv => whnf
    exact rt (E := E_Bool) h rfl
  conv => whnf
  refine lenS a1 (eL (eI .i64)) rfl ?_
  conv => whnf
  refine lpS (fun v3 => ⟨[(0, .l (.d (.sl (a0.map Task.enc)))), (19, .l (.d (.sl (a1.map (eL (eI .i64)))))), (20, .l (.d (.int .i64 (a1.length : Int)))), (21, .l (.d (.int .i64 v3)))], 63, [], [], []⟩) h (Weak.refl _) (fun _ nx3 hn3 v3 h => ?_)
  conv => whnf
  refine fkS h (fun h => ?_) (fun h => ?_)
  · conv => whnf
    refine ixS (enc := (eL (eI .i64))) h rfl (fun _ => rfl) (fun x4 h => ?_)
    conv => whnf
    refine lenS x4 (eI .i64) rfl ?_
    conv => whnf
    refine fkS h (fun h => ?_) (fun h => ?_)
    · conv => whnf
      exact rt (E := E_Bool) h rfl
    conv => whnf
    refine lenS x4 (eI .i64) rfl ?_
    conv => whnf
    refine lpS (fun v5 => ⟨[(0, .l (.d (.sl (a0.map Task.enc)))), (5, .l (.d (.int .i64 v3))), (6, .l (.d (.sl (x4.map (eI .i64))))), (19, .l (.d (.sl (a1.map (eL (eI .i64)))))), (20, .l (.d (.int .i64 (a1.length : Int)))), (21, .l (.d (.int .i64 v3))), (29, .l (.d (.sl (x4.map (eI .i64))))), (30, .l (.d (.int .i64 (x4.length : Int)))), (31, .l (.d (.int .i64 v5)))], 63, [], [], []⟩) h (Weak.refl _) (fun _ nx5 hn5 v5 h => ?_)
    conv => whnf
    refine fkS h (fun h => ?_) (fun h => ?_)
    · conv => whnf
      refine ixS (enc := (eI .i64)) h rfl (fun _ => rfl) (fun x6 h => ?_)
      conv => whnf
      refine jnS (fun w7 => ⟨[(0, .l (.d (.sl (a0.map Task.enc)))), (5, .l (.d (.int .i64 v3))), (6, .l (.d (.sl (x4.map (eI .i64))))), (19, .l (.d (.sl (a1.map (eL (eI .i64)))))), (20, .l (.d (.int .i64 (a1.length : Int)))), (21, .l (.d (.int .i64 v3))), (29, .l (.d (.sl (x4.map (eI .i64))))), (30, .l (.d (.int .i64 (x4.length : Int)))), (31, .l (.d (.int .i64 v5))), (60, .l (.d (.bool w7)))], 63, [], [], []⟩) h (fun k7 hk7 h => ?_) (fun w7 h => ?_)
      · conv => whnf
        refine ⟨25, ?_⟩
        conv => whnf
        refine fkS h (fun h => ?_) (fun h => ?_)
        · conv => whnf
          refine drS (by kernel_rfl) ?_
          conv => whnf
          exact jeS hk7 h (Weak.refl _)
        conv => whnf
        refine fkS h (fun h => ?_) (fun h => ?_)
        · conv => whnf
          refine drS (by kernel_rfl) ?_
          conv => whnf
          exact jeS hk7 h (Weak.refl _)
        conv => whnf
        refine fkS h (fun h => ?_) (fun h => ?_)
        · conv => whnf
          refine ixS (enc := (eI .i64)) h rfl (fun _ => rfl) (fun x8 h => ?_)
          conv => whnf
          refine ixS (enc := Task.enc) h rfl (fun _ => rfl) (fun x9 h => ?_)
          conv => whnf
          refine drS (by kernel_rfl) ?_
          conv => whnf
          exact jeS hk7 h (Weak.refl _)
        conv => whnf
        refine drS (by kernel_rfl) ?_
        conv => whnf
        exact jeS hk7 h (Weak.refl _)
      conv => whnf
      refine fkS h (fun h => ?_) (fun h => ?_)
      · conv => whnf
        exact rt (E := E_Bool) h rfl
      conv => whnf
      exact leS hn5 h (Weak.refl _)
    conv => whnf
    exact leS hn3 h (Weak.refl _)
  conv => whnf
  exact rt (E := E_Bool) h rfl

end Go.Proofs.YtpephpefjddgcaaGreat
namespace Go.Proofs.YtpephpefjddgcaaGreat
open Go Go.VC
noncomputable def demand_Of (a0 : List Task) (a1 : List (List Int)) (a2 : Int) (a3 : Int) : Option (Int × Int) :=
  bnd (demand_Legal a0 a1) fun x1 => fk (!x1) (some ((0 : Int), (1 : Int))) (lp (fun nx2 (v2 : Int × Int) => fk (decide (v2.2 < (a1.length : Int))) (ix a1 v2.2 fun x3 => lp (fun nx4 (v4 : Int × Int) => fk (decide (v4.2 < (x3.length : Int))) (jn (fun (w5 : Int) => nx4 (w5, (wr (v4.2 + (1 : Int))))) (fun k5 => ix x3 v4.2 fun x6 => jn (fun (w7 : Bool) => fk w7 (ix a0 v2.2 fun x9 => k5 (wr (v4.1 + x9.C))) (k5 v4.1)) (fun k7 => fk (decide (x6 ≥ a2)) (ix a0 v2.2 fun x8 => k7 (decide ((wr (x6 + x8.D)) ≤ a3))) (k7 false)))) (nx2 (v4.1, (wr (v2.2 + (1 : Int)))))) FU (v2.1, (0 : Int))) (some (v2.1, (0 : Int)))) FU ((0 : Int), (0 : Int)))
theorem demand_Of_w (a0 : List Task) (a1 : List (List Int)) (a2 : Int) (a3 : Int) (r : Int × Int) (h : demand_Of a0 a1 a2 a3 = some r) : Go.VC.Spec Tryz.prog 11 [.d (.sl (a0.map Task.enc)), .d (.sl (a1.map (eL (eI .i64)))), .d (.int .i64 a2), .d (.int .i64 a3)] (fun y => y = E_Int_Int r) := by
  refine Go.VC.Spec.of_xc (args := [.d (.sl (a0.map Task.enc)), .d (.sl (a1.map (eL (eI .i64)))), .d (.int .i64 a2), .d (.int .i64 a3)]) (fn := Tryz.f11) tab ⟨[(0, [0, 1, 2, 3]), (1, [0, 1, 2, 3, 18]), (2, [8, 9]), (3, [0, 1, 2, 3, 10]), (4, [0, 2, 3, 10, 19, 20, 21]), (5, [0, 2, 3, 10, 19, 20, 21, 22]), (6, [0, 2, 3, 10, 11, 12, 19, 20, 21]), (7, [0, 2, 3, 10, 11, 19, 20, 21, 26, 27, 28]), (8, [0, 2, 3, 10, 11, 19, 20, 21, 26, 27, 28, 29]), (9, [0, 2, 3, 10, 11, 14, 19, 20, 21, 26, 27, 28]), (10, [0, 2, 3, 10, 11, 19, 20, 21, 26, 27, 28, 45]), (11, [0, 2, 3, 10, 11, 19, 20, 21, 26, 27, 28]), (12, [0, 2, 3, 10, 11, 19, 20, 21, 26, 27, 28]), (13, [0, 2, 3, 10, 19, 20, 21]), (14, [8, 9])], [], [100045, 12], []⟩ 56 [.tmp 8, .tmp 9] rfl rfl rfl rfl rfl rfl ?_
  conv => whnf
  refine caS (E := E_Bool) h (demand_Legal_w a0 a1) rfl (fun _ => rfl) (fun x1 h => ?_)
  conv => whnf
  refine fkS h (fun h => ?_) (fun h => ?_)
  · conv => whnf
    exact rt (E := E_Int_Int) h rfl
  conv => whnf
  refine lenS a1 (eL (eI .i64)) rfl ?_
  conv => whnf
  refine lpS (fun v2 => ⟨[(0, .l (.d (.sl (a0.map Task.enc)))), (2, .l (.d (.int .i64 a2))), (3, .l (.d (.int .i64 a3))), (10, .l (.d (.int .i64 v2.1))), (19, .l (.d (.sl (a1.map (eL (eI .i64)))))), (20, .l (.d (.int .i64 (a1.length : Int)))), (21, .l (.d (.int .i64 v2.2)))], 56, [], [], []⟩) h (Weak.refl _) (fun _ nx2 hn2 v2 h => ?_)
  conv => whnf
  refine fkS h (fun h => ?_) (fun h => ?_)
  · conv => whnf
    refine ixS (enc := (eL (eI .i64))) h rfl (fun _ => rfl) (fun x3 h => ?_)
    conv => whnf
    refine lenS x3 (eI .i64) rfl ?_
    conv => whnf
    refine lpS (fun v4 => ⟨[(0, .l (.d (.sl (a0.map Task.enc)))), (2, .l (.d (.int .i64 a2))), (3, .l (.d (.int .i64 a3))), (10, .l (.d (.int .i64 v4.1))), (11, .l (.d (.int .i64 v2.2))), (19, .l (.d (.sl (a1.map (eL (eI .i64)))))), (20, .l (.d (.int .i64 (a1.length : Int)))), (21, .l (.d (.int .i64 v2.2))), (26, .l (.d (.sl (x3.map (eI .i64))))), (27, .l (.d (.int .i64 (x3.length : Int)))), (28, .l (.d (.int .i64 v4.2)))], 56, [], [], []⟩) h (Weak.refl _) (fun _ nx4 hn4 v4 h => ?_)
    conv => whnf
    refine fkS h (fun h => ?_) (fun h => ?_)
    · conv => whnf
      refine jnS (fun w5 => ⟨[(0, .l (.d (.sl (a0.map Task.enc)))), (2, .l (.d (.int .i64 a2))), (3, .l (.d (.int .i64 a3))), (10, .l (.d (.int .i64 w5))), (11, .l (.d (.int .i64 v2.2))), (19, .l (.d (.sl (a1.map (eL (eI .i64)))))), (20, .l (.d (.int .i64 (a1.length : Int)))), (21, .l (.d (.int .i64 v2.2))), (26, .l (.d (.sl (x3.map (eI .i64))))), (27, .l (.d (.int .i64 (x3.length : Int)))), (28, .l (.d (.int .i64 v4.2)))], 56, [], [], []⟩) h (fun k5 hk5 h => ?_) (fun w5 h => ?_)
      · conv => whnf
        refine ixS (enc := (eI .i64)) h rfl (fun _ => rfl) (fun x6 h => ?_)
        conv => whnf
        refine jnS (fun w7 => ⟨[(0, .l (.d (.sl (a0.map Task.enc)))), (2, .l (.d (.int .i64 a2))), (3, .l (.d (.int .i64 a3))), (10, .l (.d (.int .i64 v4.1))), (11, .l (.d (.int .i64 v2.2))), (19, .l (.d (.sl (a1.map (eL (eI .i64)))))), (20, .l (.d (.int .i64 (a1.length : Int)))), (21, .l (.d (.int .i64 v2.2))), (26, .l (.d (.sl (x3.map (eI .i64))))), (27, .l (.d (.int .i64 (x3.length : Int)))), (28, .l (.d (.int .i64 v4.2))), (45, .l (.d (.bool w7)))], 56, [], [], []⟩) h (fun k7 hk7 h => ?_) (fun w7 h => ?_)
        · conv => whnf
          refine fkS h (fun h => ?_) (fun h => ?_)
          · conv => whnf
            refine ixS (enc := Task.enc) h rfl (fun _ => rfl) (fun x8 h => ?_)
            conv => whnf
            exact jeS hk7 h (Weak.refl _)
          conv => whnf
          exact jeS hk7 h (Weak.refl _)
        conv => whnf
        refine fkS h (fun h => ?_) (fun h => ?_)
        · conv => whnf
          refine ixS (enc := Task.enc) h rfl (fun _ => rfl) (fun x9 h => ?_)
          conv => whnf
          exact jeS hk5 h (Weak.refl _)
        conv => whnf
        refine jeX hk5 h ?_
        conv => whnf
        refine WkF.step (Weak.keepS _ [0, 2, 3, 10, 11, 19, 20, 21, 26, 27, 28]) ?_
        conv => whnf
        exact WkF.refl _
      conv => whnf
      exact leS hn4 h (Weak.refl _)
    conv => whnf
    exact leS hn2 h (Weak.refl _)
  conv => whnf
  exact rt (E := E_Int_Int) h rfl

end Go.Proofs.YtpephpefjddgcaaGreat
namespace Go.Proofs.YtpephpefjddgcaaGreat
open Go Go.VC
noncomputable def ref09_Right (a0 : Face) : Option Bool :=
  fk (decide (a0.P ≥ (1 : Int))) (fk (decide (a0.P ≤ (200 : Int))) (fk (decide (a0.B ≥ (1 : Int))) (some (decide (a0.B ≤ a0.P))) (some false)) (some false)) (some false)
theorem ref09_Right_w (a0 : Face) (r : Bool) (h : ref09_Right a0 = some r) : Go.VC.Spec Tryz.prog 23 [.agg (Face.enc a0)] (fun y => y = E_Bool r) := by
  refine Go.VC.Spec.of_xc (args := [.agg (Face.enc a0)]) (fn := Tryz.f23) tab ⟨[(0, [1]), (1, [2])], [], [], []⟩ 23 [.tmp 2] rfl rfl rfl rfl rfl rfl ?_
  conv => whnf
  refine fkS h (fun h => ?_) (fun h => ?_)
  · conv => whnf
    refine fkS h (fun h => ?_) (fun h => ?_)
    · conv => whnf
      refine fkS h (fun h => ?_) (fun h => ?_)
      · conv => whnf
        exact rt (E := E_Bool) h rfl
      conv => whnf
      exact rt (E := E_Bool) h rfl
    conv => whnf
    exact rt (E := E_Bool) h rfl
  conv => whnf
  exact rt (E := E_Bool) h rfl

end Go.Proofs.YtpephpefjddgcaaGreat
namespace Go.Proofs.YtpephpefjddgcaaGreat
open Go Go.VC
noncomputable def ref09_Legal (a0 : Face) (a1 : List Bool) : Option Bool :=
  bnd (ref09_Right a0) fun x1 => fk (!x1) (some false) (lp (fun nx2 (v2 : Int × Int) => fk (decide (v2.2 < (a1.length : Int))) (jn (fun (w3 : Int) => nx2 (w3, (wr (v2.2 + (1 : Int))))) (fun k3 => jn (fun (w4 : Int) => ck (decide (a0.P ≠ 0)) (fk (decide ((v2.2.tmod a0.P) = (wr (a0.P - (1 : Int))))) (fk (decide (w4 < a0.B)) (some false) (k3 (0 : Int))) (k3 w4))) (fun k4 => ix a1 v2.2 fun x5 => fk x5 (k4 (wr (v2.1 + (1 : Int)))) (k4 v2.1)))) (some true)) FU ((0 : Int), (0 : Int)))
theorem ref09_Legal_w (a0 : Face) (a1 : List Bool) (r : Bool) (h : ref09_Legal a0 a1 = some r) : Go.VC.Spec Tryz.prog 10 [.agg (Face.enc a0), .d (.sl (a1.map eB))] (fun y => y = E_Bool r) := by
  refine Go.VC.Spec.of_xc (args := [.agg (Face.enc a0), .d (.sl (a1.map eB))]) (fn := Tryz.f10) tab ⟨[(0, [1, 2]), (1, [1, 2, 9]), (2, [4]), (3, [1, 2, 5]), (4, [1, 2, 5, 6]), (5, [1, 2, 5, 6, 13]), (6, [1, 2, 5, 6]), (7, [1, 2, 5, 6, 19]), (8, [1, 2, 5, 6]), (9, [1, 2, 5, 6, 29]), (10, [1, 2, 6, 33]), (11, [4]), (12, [1, 2, 5, 6]), (13, [4])], [], [9, 6], []⟩ 34 [.tmp 4] rfl rfl rfl rfl rfl rfl ?_
  conv => whnf
  refine caS (E := E_Bool) h (ref09_Right_w a0) rfl (fun _ => rfl) (fun x1 h => ?_)
  conv => whnf
  refine fkS h (fun h => ?_) (fun h => ?_)
  · conv => whnf
    exact rt (E := E_Bool) h rfl
  conv => whnf
  refine lpS (fun v2 => ⟨[(1, .l (.d (.sl (a1.map eB)))), (2, .l (.ptr 3 0)), (5, .l (.d (.int .i64 v2.1))), (6, .l (.d (.int .i64 v2.2)))], 34, [], [(3, [.d (.int .i64 a0.P), .d (.int .i64 a0.B)])], []⟩) h (Weak.refl _) (fun _ nx2 hn2 v2 h => ?_)
  conv => whnf
  refine lenS a1 eB rfl ?_
  conv => whnf
  refine fkS h (fun h => ?_) (fun h => ?_)
  · conv => whnf
    refine jnS (fun w3 => ⟨[(1, .l (.d (.sl (a1.map eB)))), (2, .l (.ptr 3 0)), (5, .l (.d (.int .i64 w3))), (6, .l (.d (.int .i64 v2.2)))], 34, [], [(3, [.d (.int .i64 a0.P), .d (.int .i64 a0.B)])], []⟩) h (fun k3 hk3 h => ?_) (fun w3 h => ?_)
    · conv => whnf
      refine jnS (fun w4 => ⟨[(1, .l (.d (.sl (a1.map eB)))), (2, .l (.ptr 3 0)), (5, .l (.d (.int .i64 w4))), (6, .l (.d (.int .i64 v2.2)))], 34, [], [(3, [.d (.int .i64 a0.P), .d (.int .i64 a0.B)])], []⟩) h (fun k4 hk4 h => ?_) (fun w4 h => ?_)
      · conv => whnf
        refine ixS (enc := eB) h rfl (fun _ => rfl) (fun x5 h => ?_)
        conv => whnf
        refine fkS h (fun h => ?_) (fun h => ?_)
        · conv => whnf
          exact jeS hk4 h (Weak.refl _)
        conv => whnf
        refine jeX hk4 h ?_
        conv => whnf
        refine WkF.step (Weak.keepS _ [1, 2, 5, 6]) ?_
        conv => whnf
        exact WkF.refl _
      conv => whnf
      refine ⟨7, ?_⟩
      conv => whnf
      refine dvS h (fun h => ?_)
      conv => whnf
      refine drS (by kernel_rfl) ?_
      conv => whnf
      refine fkS h (fun h => ?_) (fun h => ?_)
      · conv => whnf
        refine fkS h (fun h => ?_) (fun h => ?_)
        · conv => whnf
          exact rt (E := E_Bool) h rfl
        conv => whnf
        exact jeS hk3 h (Weak.refl _)
      conv => whnf
      refine jeX hk3 h ?_
      conv => whnf
      refine WkF.step (Weak.keepS _ [1, 2, 5, 6]) ?_
      conv => whnf
      exact WkF.refl _
    conv => whnf
    exact leS hn2 h (Weak.refl _)
  conv => whnf
  exact rt (E := E_Bool) h rfl

end Go.Proofs.YtpephpefjddgcaaGreat
namespace Go.Proofs.YtpephpefjddgcaaGreat
open Go Go.VC
noncomputable def supply_Right (a0 : Face) : Option Bool :=
  fk (decide (a0.B ≥ (1 : Int))) (fk (decide (a0.B ≤ a0.P)) (some (decide (a0.P ≤ (200 : Int)))) (some false)) (some false)
theorem supply_Right_w (a0 : Face) (r : Bool) (h : supply_Right a0 = some r) : Go.VC.Spec Tryz.prog 29 [.agg (Face.enc a0)] (fun y => y = E_Bool r) := by
  refine Go.VC.Spec.of_xc (args := [.agg (Face.enc a0)]) (fn := Tryz.f29) tab ⟨[(0, [1]), (1, [2])], [], [], []⟩ 18 [.tmp 2] rfl rfl rfl rfl rfl rfl ?_
  conv => whnf
  refine fkS h (fun h => ?_) (fun h => ?_)
  · conv => whnf
    refine fkS h (fun h => ?_) (fun h => ?_)
    · conv => whnf
      exact rt (E := E_Bool) h rfl
    conv => whnf
    exact rt (E := E_Bool) h rfl
  conv => whnf
  exact rt (E := E_Bool) h rfl

end Go.Proofs.YtpephpefjddgcaaGreat
namespace Go.Proofs.YtpephpefjddgcaaGreat
open Go Go.VC
noncomputable def arith_may (a0 : List Int) : Option Bool :=
  lp (fun nx1 (v1 : Int) => fk (decide (v1 < (a0.length : Int))) (ix a0 v1 fun x2 => jn (fun (w3 : Bool) => fk w3 (some false) (nx1 (wr (v1 + (1 : Int))))) (fun k3 => fk (decide (x2 > (4611686018427387903 : Int))) (k3 true) (k3 (decide (x2 < (-4611686018427387903 : Int)))))) (some true)) FU (0 : Int)
theorem arith_may_w (a0 : List Int) (r : Bool) (h : arith_may a0 = some r) : Go.VC.Spec Tryz.prog 98 [.d (.sl (a0.map (eI .i64)))] (fun y => y = E_Bool r) := by
  refine Go.VC.Spec.of_xc (args := [.d (.sl (a0.map (eI .i64)))]) (fn := Tryz.f98) tab ⟨[(0, [0]), (1, [5, 6, 7]), (2, [5, 6, 7, 8]), (3, [4, 5, 6, 7]), (4, [5, 6, 7, 16]), (5, [2]), (6, [5, 6, 7]), (7, [2])], [], [100016], []⟩ 18 [.tmp 2] rfl rfl rfl rfl rfl rfl ?_
  conv => whnf
  refine lenS a0 (eI .i64) rfl ?_
  conv => whnf
  refine lpS (fun v1 => ⟨[(5, .l (.d (.sl (a0.map (eI .i64))))), (6, .l (.d (.int .i64 (a0.length : Int)))), (7, .l (.d (.int .i64 v1)))], 18, [], [], []⟩) h (Weak.refl _) (fun _ nx1 hn1 v1 h => ?_)
  conv => whnf
  refine fkS h (fun h => ?_) (fun h => ?_)
  · conv => whnf
    refine ixS (enc := (eI .i64)) h rfl (fun _ => rfl) (fun x2 h => ?_)
    conv => whnf
    refine jnS (fun w3 => ⟨[(5, .l (.d (.sl (a0.map (eI .i64))))), (6, .l (.d (.int .i64 (a0.length : Int)))), (7, .l (.d (.int .i64 v1))), (16, .l (.d (.bool w3)))], 18, [], [], []⟩) h (fun k3 hk3 h => ?_) (fun w3 h => ?_)
    · conv => whnf
      refine fkS h (fun h => ?_) (fun h => ?_)
      · conv => whnf
        exact jeS hk3 h (Weak.refl _)
      conv => whnf
      exact jeS hk3 h (Weak.refl _)
    conv => whnf
    refine fkS h (fun h => ?_) (fun h => ?_)
    · conv => whnf
      exact rt (E := E_Bool) h rfl
    conv => whnf
    exact leS hn1 h (Weak.refl _)
  conv => whnf
  exact rt (E := E_Bool) h rfl

end Go.Proofs.YtpephpefjddgcaaGreat
namespace Go.Proofs.YtpephpefjddgcaaGreat
open Go Go.VC
noncomputable def arith_Gcd (a0 : Int) (a1 : Int) : Option (Int × Int) :=
  jn (fun (w1 : Bool) => fk w1 (some ((0 : Int), (1 : Int))) (lp (fun nx3 (v3 : Int × Int) => fk (decide (v3.2 > (0 : Int))) (ck (decide (v3.2 ≠ 0)) (nx3 (v3.2, (v3.1.tmod v3.2)))) (some (v3.1, (0 : Int)))) FU (a0, a1))) (fun k1 => bnd (arith_may ([a0, a1] : List Int)) fun x2 => fk (!x2) (k1 true) (fk (decide (a0 < (0 : Int))) (k1 true) (k1 (decide (a1 < (0 : Int))))))
theorem arith_Gcd_w (a0 : Int) (a1 : Int) (r : Int × Int) (h : arith_Gcd a0 a1 = some r) : Go.VC.Spec Tryz.prog 58 [.d (.int .i64 a0), .d (.int .i64 a1)] (fun y => y = E_Int_Int r) := by
  refine Go.VC.Spec.of_xc (args := [.d (.int .i64 a0), .d (.int .i64 a1)]) (fn := Tryz.f58) tab ⟨[(0, [0, 1]), (1, [0, 1, 18]), (2, [4, 5]), (3, [0, 1, 20]), (4, [0, 1]), (5, [4, 5])], [], [100018], []⟩ 26 [.tmp 4, .tmp 5] rfl rfl rfl rfl rfl rfl ?_
  conv => whnf
  refine jnS (fun w1 => ⟨[(0, .l (.d (.int .i64 a0))), (1, .l (.d (.int .i64 a1))), (18, .l (.d (.bool w1)))], 26, [], [], []⟩) h (fun k1 hk1 h => ?_) (fun w1 h => ?_)
  · conv => whnf
    refine liS ([a0, a1] : List Int) (eI .i64) rfl rfl ?_
    conv => whnf
    refine caS (E := E_Bool) h (arith_may_w ([a0, a1] : List Int)) rfl (fun _ => rfl) (fun x2 h => ?_)
    conv => whnf
    refine fkS h (fun h => ?_) (fun h => ?_)
    · conv => whnf
      exact jeS hk1 h (Weak.refl _)
    conv => whnf
    refine fkS h (fun h => ?_) (fun h => ?_)
    · conv => whnf
      exact jeS hk1 h (Weak.refl _)
    conv => whnf
    exact jeS hk1 h (Weak.refl _)
  conv => whnf
  refine fkS h (fun h => ?_) (fun h => ?_)
  · conv => whnf
    exact rt (E := E_Int_Int) h rfl
  conv => whnf
  refine lpS (fun v3 => ⟨[(0, .l (.d (.int .i64 v3.1))), (1, .l (.d (.int .i64 v3.2)))], 26, [], [], []⟩) h (Weak.trans (Weak.keepS _ [0, 1]) (Weak.refl _)) (fun _ nx3 hn3 v3 h => ?_)
  conv => whnf
  refine fkS h (fun h => ?_) (fun h => ?_)
  · conv => whnf
    refine ⟨5, ?_⟩
    conv => whnf
    refine dvS h (fun h => ?_)
    conv => whnf
    refine drS (by kernel_rfl) ?_
    conv => whnf
    exact leS hn3 h (Weak.refl _)
  conv => whnf
  exact rt (E := E_Int_Int) h rfl

end Go.Proofs.YtpephpefjddgcaaGreat
namespace Go.Proofs.YtpephpefjddgcaaGreat
open Go Go.VC
noncomputable def arith_Mul (a0 : Int) (a1 : Int) : Option (Int × Int) :=
  bnd (arith_may ([a0, a1] : List Int)) fun x1 => fk (!x1) (some ((0 : Int), (1 : Int))) (jn (fun (w2 : Bool) => fk w2 (some ((0 : Int), (0 : Int))) (ck (decide ((if (IntKind.i64.wrap (0 - a1)) > a1 then (IntKind.i64.wrap (0 - a1)) else a1) ≠ 0)) (fk (decide ((if (IntKind.i64.wrap (0 - a0)) > a0 then (IntKind.i64.wrap (0 - a0)) else a0) > (wr ((4611686018427387903 : Int).tdiv (if (IntKind.i64.wrap (0 - a1)) > a1 then (IntKind.i64.wrap (0 - a1)) else a1))))) (some ((0 : Int), (5 : Int))) (some ((wr (a0 * a1)), (0 : Int)))))) (fun k2 => fk (decide (a0 = (0 : Int))) (k2 true) (k2 (decide (a1 = (0 : Int))))))
theorem arith_Mul_w (a0 : Int) (a1 : Int) (r : Int × Int) (h : arith_Mul a0 a1 = some r) : Go.VC.Spec Tryz.prog 59 [.d (.int .i64 a0), .d (.int .i64 a1)] (fun y => y = E_Int_Int r) := by
  refine Go.VC.Spec.of_xc (args := [.d (.int .i64 a0), .d (.int .i64 a1)]) (fn := Tryz.f59) tab ⟨[(0, [0, 1]), (1, [0, 1, 6]), (2, [4, 5]), (3, [0, 1, 12]), (4, [4, 5]), (5, [0, 1, 19]), (6, [4, 5]), (7, [4, 5])], [], [100012], []⟩ 33 [.tmp 4, .tmp 5] rfl rfl rfl rfl rfl rfl ?_
  conv => whnf
  refine liS ([a0, a1] : List Int) (eI .i64) rfl rfl ?_
  conv => whnf
  refine caS (E := E_Bool) h (arith_may_w ([a0, a1] : List Int)) rfl (fun _ => rfl) (fun x1 h => ?_)
  conv => whnf
  refine fkS h (fun h => ?_) (fun h => ?_)
  · conv => whnf
    exact rt (E := E_Int_Int) h rfl
  conv => whnf
  refine jnS (fun w2 => ⟨[(0, .l (.d (.int .i64 a0))), (1, .l (.d (.int .i64 a1))), (12, .l (.d (.bool w2)))], 33, [], [], []⟩) h (fun k2 hk2 h => ?_) (fun w2 h => ?_)
  · conv => whnf
    refine fkS h (fun h => ?_) (fun h => ?_)
    · conv => whnf
      exact jeS hk2 h (Weak.refl _)
    conv => whnf
    exact jeS hk2 h (Weak.refl _)
  conv => whnf
  refine fkS h (fun h => ?_) (fun h => ?_)
  · conv => whnf
    exact rt (E := E_Int_Int) h rfl
  conv => whnf
  refine dvS h (fun h => ?_)
  conv => whnf
  refine fkS h (fun h => ?_) (fun h => ?_)
  · conv => whnf
    exact rt (E := E_Int_Int) h rfl
  conv => whnf
  exact rt (E := E_Int_Int) h rfl

end Go.Proofs.YtpephpefjddgcaaGreat
namespace Go.Proofs.YtpephpefjddgcaaGreat
open Go Go.VC
noncomputable def arith_Lcm (a0 : Int) (a1 : Int) : Option (Int × Int) :=
  jn (fun (w1 : Bool) => fk w1 (some ((0 : Int), (1 : Int))) (bnd (arith_Gcd a0 a1) fun x2 => fk (!decide (x2.2 = (0 : Int))) (some ((0 : Int), x2.2)) (ck (decide (x2.1 ≠ 0)) (bnd (arith_Mul (wr (a0.tdiv x2.1)) a1) fun x3 => some (x3.1, x3.2))))) (fun k1 => fk (decide (a0 < (1 : Int))) (k1 true) (k1 (decide (a1 < (1 : Int)))))
theorem arith_Lcm_w (a0 : Int) (a1 : Int) (r : Int × Int) (h : arith_Lcm a0 a1 = some r) : Go.VC.Spec Tryz.prog 35 [.d (.int .i64 a0), .d (.int .i64 a1)] (fun y => y = E_Int_Int r) := by
  refine Go.VC.Spec.of_xc (args := [.d (.int .i64 a0), .d (.int .i64 a1)]) (fn := Tryz.f35) tab ⟨[(0, [0, 1]), (1, [0, 1, 13]), (2, [4, 5]), (3, [0, 1, 6, 7]), (4, [0, 1, 6, 7, 21]), (5, [4, 5]), (6, [4, 5])], [], [100013], []⟩ 30 [.tmp 4, .tmp 5] rfl rfl rfl rfl rfl rfl ?_
  conv => whnf
  refine jnS (fun w1 => ⟨[(0, .l (.d (.int .i64 a0))), (1, .l (.d (.int .i64 a1))), (13, .l (.d (.bool w1)))], 30, [], [], []⟩) h (fun k1 hk1 h => ?_) (fun w1 h => ?_)
  · conv => whnf
    refine fkS h (fun h => ?_) (fun h => ?_)
    · conv => whnf
      exact jeS hk1 h (Weak.refl _)
    conv => whnf
    exact jeS hk1 h (Weak.refl _)
  conv => whnf
  refine fkS h (fun h => ?_) (fun h => ?_)
  · conv => whnf
    exact rt (E := E_Int_Int) h rfl
  conv => whnf
  refine caS (E := E_Int_Int) h (arith_Gcd_w a0 a1) rfl (fun _ => rfl) (fun x2 h => ?_)
  conv => whnf
  refine fkS h (fun h => ?_) (fun h => ?_)
  · conv => whnf
    exact rt (E := E_Int_Int) h rfl
  conv => whnf
  refine dvS h (fun h => ?_)
  conv => whnf
  refine caS (E := E_Int_Int) h (arith_Mul_w (wr (a0.tdiv x2.1)) a1) rfl (fun _ => rfl) (fun x3 h => ?_)
  conv => whnf
  exact rt (E := E_Int_Int) h rfl

end Go.Proofs.YtpephpefjddgcaaGreat
namespace Go.Proofs.YtpephpefjddgcaaGreat
open Go Go.VC
noncomputable def verdict_Cycle (a0 : List Task) (a1 : Face) : Option (Int × Int × Int) :=
  jn (fun (w1 : Bool) => fk w1 (some ((0 : Int), (0 : Int), (1 : Int))) (lp (fun nx4 (v4 : Int × Int × Int) => fk (decide (v4.2.2 < (a0.length : Int))) (ix a0 v4.2.2 fun x5 => bnd (arith_Lcm v4.1 x5.T) fun x6 => jn (fun (w7 : Bool) => fk w7 (some ((0 : Int), (0 : Int), (5 : Int))) (nx4 (x6.1, (if x5.D > v4.2.1 then x5.D else v4.2.1), (wr (v4.2.2 + (1 : Int)))))) (fun k7 => fk (!decide (x6.2 = (0 : Int))) (k7 true) (k7 (decide (x6.1 > (3000 : Int)))))) (fk (decide ((wr (v4.1 + v4.2.1)) > (3000 : Int))) (some ((0 : Int), (0 : Int), (5 : Int))) (some (v4.1, (wr (v4.1 + v4.2.1)), (0 : Int))))) FU (a1.P, (wr ((2 : Int) * a1.P)), (0 : Int)))) (fun k1 => bnd (task_All a0) fun x2 => fk (!x2) (k1 true) (bnd (supply_Right a1) fun x3 => k1 (!x3)))
theorem verdict_Cycle_w (a0 : List Task) (a1 : Face) (r : Int × Int × Int) (h : verdict_Cycle a0 a1 = some r) : Go.VC.Spec Tryz.prog 17 [.d (.sl (a0.map Task.enc)), .agg (Face.enc a1)] (fun y => y = E_Int_Int_Int r) := by
  refine Go.VC.Spec.of_xc (args := [.d (.sl (a0.map Task.enc)), .agg (Face.enc a1)]) (fn := Tryz.f17) tab ⟨[(0, [0, 3]), (1, [0, 3, 20]), (2, [4, 5, 6]), (3, [0, 7, 8]), (4, [7, 8, 26, 27, 28]), (5, [7, 8, 26, 27, 28, 29]), (6, [7, 8, 10, 26, 27, 28]), (7, [8, 10, 11, 12, 26, 27, 28]), (8, [8, 10, 11, 26, 27, 28, 44]), (9, [4, 5, 6]), (10, [7, 8, 26, 27, 28]), (11, [7, 8, 26, 27, 28]), (12, [7, 8, 54]), (13, [4, 5, 6]), (14, [4, 5, 6])], [], [100020, 100044], []⟩ 59 [.tmp 4, .tmp 5, .tmp 6] rfl rfl rfl rfl rfl rfl ?_
  conv => whnf
  refine jnS (fun w1 => ⟨[(0, .l (.d (.sl (a0.map Task.enc)))), (3, .l (.ptr 4 0)), (20, .l (.d (.bool w1)))], 59, [], [(4, [.d (.int .i64 a1.P), .d (.int .i64 a1.B)])], []⟩) h (fun k1 hk1 h => ?_) (fun w1 h => ?_)
  · conv => whnf
    refine caS (E := E_Bool) h (task_All_w a0) rfl (fun _ => rfl) (fun x2 h => ?_)
    conv => whnf
    refine fkS h (fun h => ?_) (fun h => ?_)
    · conv => whnf
      exact jeS hk1 h (Weak.refl _)
    conv => whnf
    refine caS (E := E_Bool) h (supply_Right_w a1) rfl (fun _ => rfl) (fun x3 h => ?_)
    conv => whnf
    exact jeS hk1 h (Weak.refl _)
  conv => whnf
  refine fkS h (fun h => ?_) (fun h => ?_)
  · conv => whnf
    exact rt (E := E_Int_Int_Int) h rfl
  conv => whnf
  refine ⟨6, ?_⟩
  conv => whnf
  refine drS (by kernel_rfl) ?_
  conv => whnf
  refine lenS a0 Task.enc rfl ?_
  conv => whnf
  refine lpS (fun v4 => ⟨[(7, .l (.d (.int .i64 v4.1))), (8, .l (.d (.int .i64 v4.2.1))), (26, .l (.d (.sl (a0.map Task.enc)))), (27, .l (.d (.int .i64 (a0.length : Int)))), (28, .l (.d (.int .i64 v4.2.2)))], 59, [], [], []⟩) h (Weak.refl _) (fun _ nx4 hn4 v4 h => ?_)
  conv => whnf
  refine fkS h (fun h => ?_) (fun h => ?_)
  · conv => whnf
    refine ixS (enc := Task.enc) h rfl (fun _ => rfl) (fun x5 h => ?_)
    conv => whnf
    refine caS (E := E_Int_Int) h (arith_Lcm_w v4.1 x5.T) rfl (fun _ => rfl) (fun x6 h => ?_)
    conv => whnf
    refine jnS (fun w7 => ⟨[(8, .l (.d (.int .i64 v4.2.1))), (10, .l (.ptr 11 0)), (11, .l (.d (.int .i64 x6.1))), (26, .l (.d (.sl (a0.map Task.enc)))), (27, .l (.d (.int .i64 (a0.length : Int)))), (28, .l (.d (.int .i64 v4.2.2))), (44, .l (.d (.bool w7)))], 59, [], [(11, [.d (.int .i64 x5.C), .d (.int .i64 x5.D), .d (.int .i64 x5.T), .d (.sl (x5.Secs.map Sec.enc))])], []⟩) h (fun k7 hk7 h => ?_) (fun w7 h => ?_)
    · conv => whnf
      refine fkS h (fun h => ?_) (fun h => ?_)
      · conv => whnf
        exact jeS hk7 h (Weak.refl _)
      conv => whnf
      exact jeS hk7 h (Weak.refl _)
    conv => whnf
    refine fkS h (fun h => ?_) (fun h => ?_)
    · conv => whnf
      exact rt (E := E_Int_Int_Int) h rfl
    conv => whnf
    refine ⟨6, ?_⟩
    conv => whnf
    refine drS (by kernel_rfl) ?_
    conv => whnf
    exact leS hn4 h (Weak.refl _)
  conv => whnf
  refine fkS h (fun h => ?_) (fun h => ?_)
  · conv => whnf
    exact rt (E := E_Int_Int_Int) h rfl
  conv => whnf
  exact rt (E := E_Int_Int_Int) h rfl

end Go.Proofs.YtpephpefjddgcaaGreat
namespace Go.Proofs.YtpephpefjddgcaaGreat
open Go Go.VC
noncomputable def arith_Floor (a0 : Int) (a1 : Int) : Option (Int × Int) :=
  jn (fun (w1 : Bool) => fk w1 (some ((0 : Int), (1 : Int))) (ck (decide (a1 ≠ 0)) (ck (decide (a1 ≠ 0)) (fk (decide ((a0.tmod a1) < (0 : Int))) (some ((wr ((wr (a0.tdiv a1)) - (1 : Int))), (0 : Int))) (some ((wr (a0.tdiv a1)), (0 : Int))))))) (fun k1 => bnd (arith_may ([a0, a1] : List Int)) fun x2 => fk (!x2) (k1 true) (k1 (decide (a1 < (1 : Int)))))
theorem arith_Floor_w (a0 : Int) (a1 : Int) (r : Int × Int) (h : arith_Floor a0 a1 = some r) : Go.VC.Spec Tryz.prog 133 [.d (.int .i64 a0), .d (.int .i64 a1)] (fun y => y = E_Int_Int r) := by
  refine Go.VC.Spec.of_xc (args := [.d (.int .i64 a0), .d (.int .i64 a1)]) (fn := Tryz.f133) tab ⟨[(0, [0, 1]), (1, [0, 1, 15]), (2, [4, 5]), (3, [0, 1, 6]), (4, [6, 22]), (5, [6]), (6, [4, 5])], [], [100015], []⟩ 26 [.tmp 4, .tmp 5] rfl rfl rfl rfl rfl rfl ?_
  conv => whnf
  refine jnS (fun w1 => ⟨[(0, .l (.d (.int .i64 a0))), (1, .l (.d (.int .i64 a1))), (15, .l (.d (.bool w1)))], 26, [], [], []⟩) h (fun k1 hk1 h => ?_) (fun w1 h => ?_)
  · conv => whnf
    refine liS ([a0, a1] : List Int) (eI .i64) rfl rfl ?_
    conv => whnf
    refine caS (E := E_Bool) h (arith_may_w ([a0, a1] : List Int)) rfl (fun _ => rfl) (fun x2 h => ?_)
    conv => whnf
    refine fkS h (fun h => ?_) (fun h => ?_)
    · conv => whnf
      exact jeS hk1 h (Weak.refl _)
    conv => whnf
    exact jeS hk1 h (Weak.refl _)
  conv => whnf
  refine fkS h (fun h => ?_) (fun h => ?_)
  · conv => whnf
    exact rt (E := E_Int_Int) h rfl
  conv => whnf
  refine dvS h (fun h => ?_)
  conv => whnf
  refine dvS h (fun h => ?_)
  conv => whnf
  refine fkS h (fun h => ?_) (fun h => ?_)
  · conv => whnf
    exact rt (E := E_Int_Int) h rfl
  conv => whnf
  exact rt (E := E_Int_Int) h rfl

end Go.Proofs.YtpephpefjddgcaaGreat
namespace Go.Proofs.YtpephpefjddgcaaGreat
open Go Go.VC
noncomputable def demand_jobs (a0 : Task) (a1 : Int) : Option Int :=
  fk (decide (a1 < a0.D)) (some (0 : Int)) (bnd (arith_Floor (wr (a1 - a0.D)) a0.T) fun x1 => some (wr (x1.1 + (1 : Int))))
theorem demand_jobs_w (a0 : Task) (a1 : Int) (r : Int) (h : demand_jobs a0 a1 = some r) : Go.VC.Spec Tryz.prog 124 [.agg (Task.enc a0), .d (.int .i64 a1)] (fun y => y = E_Int r) := by
  refine Go.VC.Spec.of_xc (args := [.agg (Task.enc a0), .d (.int .i64 a1)]) (fn := Tryz.f124) tab ⟨[(0, [1, 2]), (1, [1, 2, 10]), (2, [4]), (3, [5]), (4, [4])], [], [], []⟩ 23 [.tmp 4] rfl rfl rfl rfl rfl rfl ?_
  conv => whnf
  refine fkS h (fun h => ?_) (fun h => ?_)
  · conv => whnf
    exact rt (E := E_Int) h rfl
  conv => whnf
  refine caS (E := E_Int_Int) h (arith_Floor_w (wr (a1 - a0.D)) a0.T) rfl (fun _ => rfl) (fun x1 h => ?_)
  conv => whnf
  exact rt (E := E_Int) h rfl

end Go.Proofs.YtpephpefjddgcaaGreat
namespace Go.Proofs.YtpephpefjddgcaaGreat
open Go Go.VC
noncomputable def arith_Add (a0 : Int) (a1 : Int) : Option (Int × Int) :=
  bnd (arith_may ([a0, a1] : List Int)) fun x1 => fk (!x1) (some ((0 : Int), (1 : Int))) (bnd (arith_may ([(wr (a0 + a1))] : List Int)) fun x2 => fk (!x2) (some ((0 : Int), (5 : Int))) (some ((wr (a0 + a1)), (0 : Int))))
theorem arith_Add_w (a0 : Int) (a1 : Int) (r : Int × Int) (h : arith_Add a0 a1 = some r) : Go.VC.Spec Tryz.prog 101 [.d (.int .i64 a0), .d (.int .i64 a1)] (fun y => y = E_Int_Int r) := by
  refine Go.VC.Spec.of_xc (args := [.d (.int .i64 a0), .d (.int .i64 a1)]) (fn := Tryz.f101) tab ⟨[(0, [0, 1]), (1, [0, 1, 6]), (2, [4, 5]), (3, [0, 1, 12]), (4, [4, 5]), (5, [4, 5])], [], [], []⟩ 22 [.tmp 4, .tmp 5] rfl rfl rfl rfl rfl rfl ?_
  conv => whnf
  refine liS ([a0, a1] : List Int) (eI .i64) rfl rfl ?_
  conv => whnf
  refine caS (E := E_Bool) h (arith_may_w ([a0, a1] : List Int)) rfl (fun _ => rfl) (fun x1 h => ?_)
  conv => whnf
  refine fkS h (fun h => ?_) (fun h => ?_)
  · conv => whnf
    exact rt (E := E_Int_Int) h rfl
  conv => whnf
  refine liS ([(wr (a0 + a1))] : List Int) (eI .i64) rfl rfl ?_
  conv => whnf
  refine caS (E := E_Bool) h (arith_may_w ([(wr (a0 + a1))] : List Int)) rfl (fun _ => rfl) (fun x2 h => ?_)
  conv => whnf
  refine fkS h (fun h => ?_) (fun h => ?_)
  · conv => whnf
    exact rt (E := E_Int_Int) h rfl
  conv => whnf
  exact rt (E := E_Int_Int) h rfl

end Go.Proofs.YtpephpefjddgcaaGreat
namespace Go.Proofs.YtpephpefjddgcaaGreat
open Go Go.VC
noncomputable def demand_Bound (a0 : List Task) (a1 : Int) : Option (Int × Int) :=
  jn (fun (w1 : Bool) => fk w1 (some ((0 : Int), (1 : Int))) (lp (fun nx3 (v3 : Int × Int × Int) => fk (decide (v3.2.2 < (a0.length : Int))) (ix a0 v3.2.2 fun x4 => bnd (demand_jobs x4 a1) fun x5 => bnd (arith_Mul x4.C x5) fun x6 => bnd (arith_Add v3.1 x6.1) fun x7 => jn (fun (w8 : Bool) => fk w8 (nx3 (v3.1, (5 : Int), (wr (v3.2.2 + (1 : Int))))) (nx3 (x7.1, v3.2.1, (wr (v3.2.2 + (1 : Int)))))) (fun k8 => fk (!decide (x6.2 = (0 : Int))) (k8 true) (k8 (!decide (x7.2 = (0 : Int)))))) (fk (!decide (v3.2.1 = (0 : Int))) (some ((0 : Int), v3.2.1)) (some (v3.1, (0 : Int))))) FU ((0 : Int), (0 : Int), (0 : Int)))) (fun k1 => bnd (task_All a0) fun x2 => fk (!x2) (k1 true) (fk (decide (a1 < (0 : Int))) (k1 true) (k1 (decide (a1 > (4611686018427387903 : Int))))))
theorem demand_Bound_w (a0 : List Task) (a1 : Int) (r : Int × Int) (h : demand_Bound a0 a1 = some r) : Go.VC.Spec Tryz.prog 99 [.d (.sl (a0.map Task.enc)), .d (.int .i64 a1)] (fun y => y = E_Int_Int r) := by
  refine Go.VC.Spec.of_xc (args := [.d (.sl (a0.map Task.enc)), .d (.int .i64 a1)]) (fn := Tryz.f99) tab ⟨[(0, [0, 1]), (1, [0, 1, 21]), (2, [4, 5]), (3, [0, 1, 6, 7]), (4, [0, 1, 6, 7, 8]), (5, [1, 6, 7, 8, 23, 24, 25]), (6, [1, 6, 7, 8, 23, 24, 25, 26]), (7, [1, 6, 7, 8, 10, 23, 24, 25]), (8, [1, 6, 7, 8, 23, 24, 25]), (9, [1, 6, 7, 8, 23, 24, 25]), (10, [6, 7, 38]), (11, [4, 5]), (12, [4, 5])], [], [100021], []⟩ 41 [.tmp 4, .tmp 5] rfl rfl rfl rfl rfl rfl ?_
  conv => whnf
  refine jnS (fun w1 => ⟨[(0, .l (.d (.sl (a0.map Task.enc)))), (1, .l (.d (.int .i64 a1))), (21, .l (.d (.bool w1)))], 41, [], [], []⟩) h (fun k1 hk1 h => ?_) (fun w1 h => ?_)
  · conv => whnf
    refine caS (E := E_Bool) h (task_All_w a0) rfl (fun _ => rfl) (fun x2 h => ?_)
    conv => whnf
    refine fkS h (fun h => ?_) (fun h => ?_)
    · conv => whnf
      exact jeS hk1 h (Weak.refl _)
    conv => whnf
    refine fkS h (fun h => ?_) (fun h => ?_)
    · conv => whnf
      exact jeS hk1 h (Weak.refl _)
    conv => whnf
    exact jeS hk1 h (Weak.refl _)
  conv => whnf
  refine fkS h (fun h => ?_) (fun h => ?_)
  · conv => whnf
    exact rt (E := E_Int_Int) h rfl
  conv => whnf
  refine lenS a0 Task.enc rfl ?_
  conv => whnf
  refine lpS (fun v3 => ⟨[(1, .l (.d (.int .i64 a1))), (6, .l (.ptr 7 0)), (7, .l (.ptr 8 0)), (8, .l (.func 123 [.k 7, .k 8])), (23, .l (.d (.sl (a0.map Task.enc)))), (24, .l (.d (.int .i64 (a0.length : Int)))), (25, .l (.d (.int .i64 v3.2.2)))], 41, [], [(7, [.d (.int .i64 v3.1)]), (8, [.d (.int .i64 v3.2.1)])], []⟩) h (Weak.refl _) (fun _ nx3 hn3 v3 h => ?_)
  conv => whnf
  refine fkS h (fun h => ?_) (fun h => ?_)
  · conv => whnf
    refine ixS (enc := Task.enc) h rfl (fun _ => rfl) (fun x4 h => ?_)
    conv => whnf
    refine ⟨6, ?_⟩
    conv => whnf
    refine daS (E := E_Int) h (demand_jobs_w x4 a1) (fun _ => rfl) (fun x5 h => ?_)
    conv => whnf
    refine drS (by kernel_rfl) ?_
    conv => whnf
    refine inS (fn := Tryz.f123) tab ⟨[(0, [2, 3, 6, 7]), (1, [2, 3, 7, 8, 9]), (2, [2, 3, 8, 27]), (3, []), (4, [])], [], [100027], []⟩ 29 [] rfl rfl rfl rfl rfl rfl ?_
    conv => whnf
    refine caS (E := E_Int_Int) h (arith_Mul_w x4.C x5) rfl (fun _ => rfl) (fun x6 h => ?_)
    conv => whnf
    refine caS (E := E_Int_Int) h (arith_Add_w v3.1 x6.1) rfl (fun _ => rfl) (fun x7 h => ?_)
    conv => whnf
    refine jnS (fun w8 => ⟨[(2, .l (.ptr 7 0)), (3, .l (.ptr 8 0)), (8, .l (.d (.int .i64 x7.1))), (27, .l (.d (.bool w8)))], 29, [⟨[(34, .l (.d (.int .i64 x5))), (33, .l (.d (.int .i64 a1))), (32, .agg [.d (.int .i64 x4.C), .d (.int .i64 x4.D), .d (.int .i64 x4.T), .d (.sl (x4.Secs.map Sec.enc))]), (31, .l (.d (.int .i64 x4.C))), (30, .l (.ptr 11 0)), (29, .l (.func 123 [.k 7, .k 8])), (1, .l (.d (.int .i64 a1))), (6, .l (.ptr 7 0)), (7, .l (.ptr 8 0)), (8, .l (.func 123 [.k 7, .k 8])), (10, .l (.ptr 11 0)), (23, .l (.d (.sl (a0.map Task.enc)))), (24, .l (.d (.int .i64 (a0.length : Int)))), (25, .l (.d (.int .i64 v3.2.2)))], 41⟩], [(7, [.d (.int .i64 v3.1)]), (8, [.d (.int .i64 v3.2.1)]), (11, [.d (.int .i64 x4.C), .d (.int .i64 x4.D), .d (.int .i64 x4.T), .d (.sl (x4.Secs.map Sec.enc))])], []⟩) h (fun k8 hk8 h => ?_) (fun w8 h => ?_)
    · conv => whnf
      refine fkS h (fun h => ?_) (fun h => ?_)
      · conv => whnf
        exact jeS hk8 h (Weak.refl _)
      conv => whnf
      exact jeS hk8 h (Weak.refl _)
    conv => whnf
    refine fkS h (fun h => ?_) (fun h => ?_)
    · conv => whnf
      exact leS hn3 h (Weak.refl _)
    conv => whnf
    exact leS hn3 h (Weak.refl _)
  conv => whnf
  refine fkS h (fun h => ?_) (fun h => ?_)
  · conv => whnf
    refine ⟨2, ?_⟩
    conv => whnf
    refine drS (by kernel_rfl) ?_
    conv => whnf
    exact rt (E := E_Int_Int) h rfl
  conv => whnf
  exact rt (E := E_Int_Int) h rfl

end Go.Proofs.YtpephpefjddgcaaGreat
namespace Go.Proofs.YtpephpefjddgcaaGreat
open Go Go.VC
noncomputable def task_Uses (a0 : Task) (a1 : Int) : Option Bool :=
  bnd (task_Right a0) fun x1 => fk (!x1) (some false) (lp (fun nx2 (v2 : Int) => fk (decide (v2 < (a0.Secs.length : Int))) (ix a0.Secs v2 fun x3 => fk (decide (x3.Res = a1)) (some true) (nx2 (wr (v2 + (1 : Int))))) (some false)) FU (0 : Int))
theorem task_Uses_w (a0 : Task) (a1 : Int) (r : Bool) (h : task_Uses a0 a1 = some r) : Go.VC.Spec Tryz.prog 134 [.agg (Task.enc a0), .d (.int .i64 a1)] (fun y => y = E_Bool r) := by
  refine Go.VC.Spec.of_xc (args := [.agg (Task.enc a0), .d (.int .i64 a1)]) (fn := Tryz.f134) tab ⟨[(0, [1, 2]), (1, [1, 2, 9]), (2, [4]), (3, [1, 11, 12, 13]), (4, [1, 11, 12, 13, 14]), (5, [1, 6, 11, 12, 13]), (6, [1, 11, 12, 13, 20]), (7, [4]), (8, [1, 11, 12, 13]), (9, [4])], [], [], []⟩ 22 [.tmp 4] rfl rfl rfl rfl rfl rfl ?_
  conv => whnf
  refine caS (E := E_Bool) h (task_Right_w a0) rfl (fun _ => rfl) (fun x1 h => ?_)
  conv => whnf
  refine fkS h (fun h => ?_) (fun h => ?_)
  · conv => whnf
    exact rt (E := E_Bool) h rfl
  conv => whnf
  refine lenS a0.Secs Sec.enc rfl ?_
  conv => whnf
  refine lpS (fun v2 => ⟨[(1, .l (.d (.int .i64 a1))), (11, .l (.d (.sl (a0.Secs.map Sec.enc)))), (12, .l (.d (.int .i64 (a0.Secs.length : Int)))), (13, .l (.d (.int .i64 v2)))], 22, [], [], []⟩) h (Weak.refl _) (fun _ nx2 hn2 v2 h => ?_)
  conv => whnf
  refine fkS h (fun h => ?_) (fun h => ?_)
  · conv => whnf
    refine ixS (enc := Sec.enc) h rfl (fun _ => rfl) (fun x3 h => ?_)
    conv => whnf
    refine fkS h (fun h => ?_) (fun h => ?_)
    · conv => whnf
      exact rt (E := E_Bool) h rfl
    conv => whnf
    exact leS hn2 h (Weak.refl _)
  conv => whnf
  exact rt (E := E_Bool) h rfl

end Go.Proofs.YtpephpefjddgcaaGreat
namespace Go.Proofs.YtpephpefjddgcaaGreat
open Go Go.VC
noncomputable def block_shared (a0 : List Task) (a1 : Int) (a2 : Int) : Option Bool :=
  lp (fun nx1 (v1 : Int) => fk (decide (v1 < (a0.length : Int))) (ix a0 v1 fun x2 => jn (fun (w3 : Bool) => fk w3 (some true) (nx1 (wr (v1 + (1 : Int))))) (fun k3 => fk (decide (x2.D ≤ a1)) (bnd (task_Uses x2 a2) fun x4 => k3 x4) (k3 false))) (some false)) FU (0 : Int)
theorem block_shared_w (a0 : List Task) (a1 : Int) (a2 : Int) (r : Bool) (h : block_shared a0 a1 a2 = some r) : Go.VC.Spec Tryz.prog 126 [.d (.sl (a0.map Task.enc)), .d (.int .i64 a1), .d (.int .i64 a2)] (fun y => y = E_Bool r) := by
  refine Go.VC.Spec.of_xc (args := [.d (.sl (a0.map Task.enc)), .d (.int .i64 a1), .d (.int .i64 a2)]) (fn := Tryz.f126) tab ⟨[(0, [0, 1, 2]), (1, [1, 2, 9, 10, 11]), (2, [1, 2, 9, 10, 11, 12]), (3, [1, 2, 8, 9, 10, 11]), (4, [1, 2, 9, 10, 11, 23]), (5, [6]), (6, [1, 2, 9, 10, 11]), (7, [6])], [], [100023], []⟩ 25 [.tmp 6] rfl rfl rfl rfl rfl rfl ?_
  conv => whnf
  refine lenS a0 Task.enc rfl ?_
  conv => whnf
  refine lpS (fun v1 => ⟨[(1, .l (.d (.int .i64 a1))), (2, .l (.d (.int .i64 a2))), (9, .l (.d (.sl (a0.map Task.enc)))), (10, .l (.d (.int .i64 (a0.length : Int)))), (11, .l (.d (.int .i64 v1)))], 25, [], [], []⟩) h (Weak.refl _) (fun _ nx1 hn1 v1 h => ?_)
  conv => whnf
  refine fkS h (fun h => ?_) (fun h => ?_)
  · conv => whnf
    refine ixS (enc := Task.enc) h rfl (fun _ => rfl) (fun x2 h => ?_)
    conv => whnf
    refine jnS (fun w3 => ⟨[(1, .l (.d (.int .i64 a1))), (2, .l (.d (.int .i64 a2))), (9, .l (.d (.sl (a0.map Task.enc)))), (10, .l (.d (.int .i64 (a0.length : Int)))), (11, .l (.d (.int .i64 v1))), (23, .l (.d (.bool w3)))], 25, [], [], []⟩) h (fun k3 hk3 h => ?_) (fun w3 h => ?_)
    · conv => whnf
      refine fkS h (fun h => ?_) (fun h => ?_)
      · conv => whnf
        refine caS (E := E_Bool) h (task_Uses_w x2 a2) rfl (fun _ => rfl) (fun x4 h => ?_)
        conv => whnf
        exact jeS hk3 h (Weak.refl _)
      conv => whnf
      exact jeS hk3 h (Weak.refl _)
    conv => whnf
    refine fkS h (fun h => ?_) (fun h => ?_)
    · conv => whnf
      exact rt (E := E_Bool) h rfl
    conv => whnf
    exact leS hn1 h (Weak.refl _)
  conv => whnf
  exact rt (E := E_Bool) h rfl

end Go.Proofs.YtpephpefjddgcaaGreat
namespace Go.Proofs.YtpephpefjddgcaaGreat
open Go Go.VC
noncomputable def block_Of (a0 : List Task) (a1 : Int) : Option (Int × Int) :=
  bnd (task_All a0) fun x1 => fk (!x1) (some ((0 : Int), (1 : Int))) (lp (fun nx2 (v2 : Int × Int) => fk (decide (v2.2 < (a0.length : Int))) (jn (fun (w3 : Int) => nx2 (w3, (wr (v2.2 + (1 : Int))))) (fun k3 => ix a0 v2.2 fun x4 => fk (decide (x4.D ≤ a1)) (k3 v2.1) (lp (fun nx5 (v5 : Int × Int) => fk (decide (v5.2 < (x4.Secs.length : Int))) (ix x4.Secs v5.2 fun x6 => jn (fun (w7 : Bool) => fk w7 (nx5 (x6.Len, (wr (v5.2 + (1 : Int))))) (nx5 (v5.1, (wr (v5.2 + (1 : Int)))))) (fun k7 => fk (decide (x6.Len > v5.1)) (bnd (block_shared a0 a1 x6.Res) fun x8 => k7 x8) (k7 false))) (k3 v5.1)) FU (v2.1, (0 : Int))))) (some (v2.1, (0 : Int)))) FU ((0 : Int), (0 : Int)))
theorem block_Of_w (a0 : List Task) (a1 : Int) (r : Int × Int) (h : block_Of a0 a1 = some r) : Go.VC.Spec Tryz.prog 100 [.d (.sl (a0.map Task.enc)), .d (.int .i64 a1)] (fun y => y = E_Int_Int r) := by
  refine Go.VC.Spec.of_xc (args := [.d (.sl (a0.map Task.enc)), .d (.int .i64 a1)]) (fn := Tryz.f100) tab ⟨[(0, [2, 3]), (1, [2, 3, 14]), (2, [4, 5]), (3, [2, 3, 6]), (4, [2, 3, 6, 7]), (5, [3, 6, 7, 16, 17, 18]), (6, [3, 6, 7, 16, 17, 18, 19]), (7, [3, 6, 7, 9, 16, 17, 18]), (8, [3, 6, 7, 9, 16, 17, 18, 25]), (9, [3, 6, 7, 16, 17, 18, 27, 28, 29]), (10, [3, 6, 7, 16, 17, 18, 27, 28, 29, 30]), (11, [3, 6, 7, 11, 16, 17, 18, 27, 28, 29]), (12, [3, 6, 7, 16, 17, 18, 27, 28, 29]), (13, [3, 6, 7, 16, 17, 18, 27, 28, 29]), (14, [3, 6, 7, 16, 17, 18]), (15, [4, 5])], [], [14], []⟩ 39 [.tmp 4, .tmp 5] rfl rfl rfl rfl rfl rfl ?_
  conv => whnf
  refine caS (E := E_Bool) h (task_All_w a0) rfl (fun _ => rfl) (fun x1 h => ?_)
  conv => whnf
  refine fkS h (fun h => ?_) (fun h => ?_)
  · conv => whnf
    exact rt (E := E_Int_Int) h rfl
  conv => whnf
  refine lenS a0 Task.enc rfl ?_
  conv => whnf
  refine lpS (fun v2 => ⟨[(3, .l (.ptr 4 0)), (6, .l (.ptr 7 0)), (7, .l (.func 125 [.k 7, .k 3, .k 4])), (16, .l (.d (.sl (a0.map Task.enc)))), (17, .l (.d (.int .i64 (a0.length : Int)))), (18, .l (.d (.int .i64 v2.2)))], 39, [], [(3, [.d (.sl (a0.map Task.enc))]), (4, [.d (.int .i64 a1)]), (7, [.d (.int .i64 v2.1)])], []⟩) h (Weak.refl _) (fun _ nx2 hn2 v2 h => ?_)
  conv => whnf
  refine fkS h (fun h => ?_) (fun h => ?_)
  · conv => whnf
    refine jnS (fun w3 => ⟨[(3, .l (.ptr 4 0)), (6, .l (.ptr 7 0)), (7, .l (.func 125 [.k 7, .k 3, .k 4])), (16, .l (.d (.sl (a0.map Task.enc)))), (17, .l (.d (.int .i64 (a0.length : Int)))), (18, .l (.d (.int .i64 v2.2)))], 39, [], [(3, [.d (.sl (a0.map Task.enc))]), (4, [.d (.int .i64 a1)]), (7, [.d (.int .i64 w3)])], []⟩) h (fun k3 hk3 h => ?_) (fun w3 h => ?_)
    · conv => whnf
      refine ixS (enc := Task.enc) h rfl (fun _ => rfl) (fun x4 h => ?_)
      conv => whnf
      refine fkS h (fun h => ?_) (fun h => ?_)
      · conv => whnf
        refine jeX hk3 h ?_
        conv => whnf
        refine WkF.step (Weak.keepS _ [3, 6, 7, 16, 17, 18]) ?_
        conv => whnf
        exact WkF.refl _
      conv => whnf
      refine lenS x4.Secs Sec.enc rfl ?_
      conv => whnf
      refine lpS (fun v5 => ⟨[(3, .l (.ptr 4 0)), (6, .l (.ptr 7 0)), (7, .l (.func 125 [.k 7, .k 3, .k 4])), (16, .l (.d (.sl (a0.map Task.enc)))), (17, .l (.d (.int .i64 (a0.length : Int)))), (18, .l (.d (.int .i64 v2.2))), (27, .l (.d (.sl (x4.Secs.map Sec.enc)))), (28, .l (.d (.int .i64 (x4.Secs.length : Int)))), (29, .l (.d (.int .i64 v5.2)))], 39, [], [(3, [.d (.sl (a0.map Task.enc))]), (4, [.d (.int .i64 a1)]), (7, [.d (.int .i64 v5.1)])], []⟩) h (Weak.refl _) (fun _ nx5 hn5 v5 h => ?_)
      conv => whnf
      refine fkS h (fun h => ?_) (fun h => ?_)
      · conv => whnf
        refine ixS (enc := Sec.enc) h rfl (fun _ => rfl) (fun x6 h => ?_)
        conv => whnf
        refine inS (fn := Tryz.f125) tab ⟨[(0, [1, 2, 3, 4]), (1, [1, 4, 15]), (2, [])], [], [100015], []⟩ 18 [] rfl rfl rfl rfl rfl rfl ?_
        conv => whnf
        refine jnS (fun w7 => ⟨[(1, .l (.ptr 7 0)), (4, .l (.ptr 1005 0)), (15, .l (.d (.bool w7)))], 18, [⟨[(34, .agg [.d (.int .i64 x6.Res), .d (.int .i64 x6.At), .d (.int .i64 x6.Len)]), (33, .l (.func 125 [.k 7, .k 3, .k 4])), (3, .l (.ptr 4 0)), (6, .l (.ptr 7 0)), (7, .l (.func 125 [.k 7, .k 3, .k 4])), (11, .l (.ptr 12 0)), (16, .l (.d (.sl (a0.map Task.enc)))), (17, .l (.d (.int .i64 (a0.length : Int)))), (18, .l (.d (.int .i64 v2.2))), (27, .l (.d (.sl (x4.Secs.map Sec.enc)))), (28, .l (.d (.int .i64 (x4.Secs.length : Int)))), (29, .l (.d (.int .i64 v5.2)))], 39⟩], [(3, [.d (.sl (a0.map Task.enc))]), (4, [.d (.int .i64 a1)]), (7, [.d (.int .i64 v5.1)]), (12, [.d (.int .i64 x6.Res), .d (.int .i64 x6.At), .d (.int .i64 x6.Len)]), (1005, [.d (.int .i64 x6.Res), .d (.int .i64 x6.At), .d (.int .i64 x6.Len)])], []⟩) h (fun k7 hk7 h => ?_) (fun w7 h => ?_)
        · conv => whnf
          refine fkS h (fun h => ?_) (fun h => ?_)
          · conv => whnf
            refine caS (E := E_Bool) h (block_shared_w a0 a1 x6.Res) rfl (fun _ => rfl) (fun x8 h => ?_)
            conv => whnf
            exact jeS hk7 h (Weak.refl _)
          conv => whnf
          exact jeS hk7 h (Weak.refl _)
        conv => whnf
        refine fkS h (fun h => ?_) (fun h => ?_)
        · conv => whnf
          exact leS hn5 h (Weak.refl _)
        conv => whnf
        exact leS hn5 h (Weak.refl _)
      conv => whnf
      refine jeX hk3 h ?_
      conv => whnf
      refine WkF.step (Weak.keepS _ [3, 6, 7, 16, 17, 18]) ?_
      conv => whnf
      exact WkF.refl _
    conv => whnf
    exact leS hn2 h (Weak.refl _)
  conv => whnf
  exact rt (E := E_Int_Int) h rfl

end Go.Proofs.YtpephpefjddgcaaGreat
namespace Go.Proofs.YtpephpefjddgcaaGreat
open Go Go.VC
noncomputable def verdict_Need (a0 : List Task) (a1 : Int) : Option (Int × Int) :=
  bnd (demand_Bound a0 a1) fun x1 => fk (!decide (x1.2 = (0 : Int))) (some ((0 : Int), x1.2)) (bnd (block_Of a0 a1) fun x2 => bnd (arith_Add x1.1 x2.1) fun x3 => some (x3.1, x3.2))
theorem verdict_Need_w (a0 : List Task) (a1 : Int) (r : Int × Int) (h : verdict_Need a0 a1 = some r) : Go.VC.Spec Tryz.prog 61 [.d (.sl (a0.map Task.enc)), .d (.int .i64 a1)] (fun y => y = E_Int_Int r) := by
  refine Go.VC.Spec.of_xc (args := [.d (.sl (a0.map Task.enc)), .d (.int .i64 a1)]) (fn := Tryz.f61) tab ⟨[(0, [0, 1]), (1, [0, 1, 6, 7]), (2, [0, 1, 6, 7, 17]), (3, [4, 5]), (4, [6, 8]), (5, [4, 5])], [], [], []⟩ 30 [.tmp 4, .tmp 5] rfl rfl rfl rfl rfl rfl ?_
  conv => whnf
  refine caS (E := E_Int_Int) h (demand_Bound_w a0 a1) rfl (fun _ => rfl) (fun x1 h => ?_)
  conv => whnf
  refine fkS h (fun h => ?_) (fun h => ?_)
  · conv => whnf
    exact rt (E := E_Int_Int) h rfl
  conv => whnf
  refine caS (E := E_Int_Int) h (block_Of_w a0 a1) rfl (fun _ => rfl) (fun x2 h => ?_)
  conv => whnf
  refine caS (E := E_Int_Int) h (arith_Add_w x1.1 x2.1) rfl (fun _ => rfl) (fun x3 h => ?_)
  conv => whnf
  exact rt (E := E_Int_Int) h rfl

end Go.Proofs.YtpephpefjddgcaaGreat
namespace Go.Proofs.YtpephpefjddgcaaGreat
open Go Go.VC
noncomputable def supply_Bound (a0 : Face) (a1 : Int) : Option (Int × Int) :=
  jn (fun (w1 : Bool) => fk w1 (some ((0 : Int), (1 : Int))) (fk (decide (a1 < (wr (a0.P - a0.B)))) (some ((0 : Int), (0 : Int))) (ck (decide (a0.P ≠ 0)) (some ((wr ((wr ((wr ((wr (a1 - (wr (a0.P - a0.B)))).tdiv a0.P)) * a0.B)) + (if (wr ((wr (a1 - (wr ((2 : Int) * (wr (a0.P - a0.B)))))) - (wr ((wr ((wr (a1 - (wr (a0.P - a0.B)))).tdiv a0.P)) * a0.P)))) > (0 : Int) then (wr ((wr (a1 - (wr ((2 : Int) * (wr (a0.P - a0.B)))))) - (wr ((wr ((wr (a1 - (wr (a0.P - a0.B)))).tdiv a0.P)) * a0.P)))) else (0 : Int)))), (0 : Int)))))) (fun k1 => bnd (supply_Right a0) fun x2 => fk (!x2) (k1 true) (fk (decide (a1 < (0 : Int))) (k1 true) (k1 (decide (a1 > (4611686018427387903 : Int))))))
theorem supply_Bound_w (a0 : Face) (a1 : Int) (r : Int × Int) (h : supply_Bound a0 a1 = some r) : Go.VC.Spec Tryz.prog 15 [.agg (Face.enc a0), .d (.int .i64 a1)] (fun y => y = E_Int_Int r) := by
  refine Go.VC.Spec.of_xc (args := [.agg (Face.enc a0), .d (.int .i64 a1)]) (fn := Tryz.f15) tab ⟨[(0, [1, 2]), (1, [1, 2, 18]), (2, [4, 5]), (3, [1, 2, 6]), (4, [1, 2, 6, 26]), (5, [4, 5]), (6, [1, 2, 6, 7]), (7, [4, 5])], [], [100018], []⟩ 48 [.tmp 4, .tmp 5] rfl rfl rfl rfl rfl rfl ?_
  conv => whnf
  refine jnS (fun w1 => ⟨[(1, .l (.d (.int .i64 a1))), (2, .l (.ptr 3 0)), (18, .l (.d (.bool w1)))], 48, [], [(3, [.d (.int .i64 a0.P), .d (.int .i64 a0.B)])], []⟩) h (fun k1 hk1 h => ?_) (fun w1 h => ?_)
  · conv => whnf
    refine caS (E := E_Bool) h (supply_Right_w a0) rfl (fun _ => rfl) (fun x2 h => ?_)
    conv => whnf
    refine fkS h (fun h => ?_) (fun h => ?_)
    · conv => whnf
      exact jeS hk1 h (Weak.refl _)
    conv => whnf
    refine fkS h (fun h => ?_) (fun h => ?_)
    · conv => whnf
      exact jeS hk1 h (Weak.refl _)
    conv => whnf
    exact jeS hk1 h (Weak.refl _)
  conv => whnf
  refine fkS h (fun h => ?_) (fun h => ?_)
  · conv => whnf
    exact rt (E := E_Int_Int) h rfl
  conv => whnf
  refine fkS h (fun h => ?_) (fun h => ?_)
  · conv => whnf
    exact rt (E := E_Int_Int) h rfl
  conv => whnf
  refine dvS h (fun h => ?_)
  conv => whnf
  exact rt (E := E_Int_Int) h rfl

end Go.Proofs.YtpephpefjddgcaaGreat
namespace Go.Proofs.YtpephpefjddgcaaGreat
open Go Go.VC
noncomputable def verdict_fails (a0 : List Task) (a1 : Face) (a2 : Int) : Option (Option Int) :=
  lp (fun nx (v : Int) => fk (decide (v ≤ a2)) (bnd (verdict_Need a0 v) fun x1 => bnd (supply_Bound a1 v) fun x2 => fk (decide (x1.1 > x2.1)) (some (some v)) (nx (wr (v + 1)))) (some none)) FU 0
theorem verdict_fails_it (a0 : List Task) (a1 : Face) (a2 : Int) (r : Option Int) (h : verdict_fails a0 a1 a2 = some r) : ItC Tryz.prog 60 [.dp [.int .i64 a2], .dp [.sl (a0.map Task.enc)], .dp [.int .i64 a1.P, .int .i64 a1.B]] r := by
  refine ItC.of (fn := Tryz.f60) rfl rfl rfl rfl rfl (fun w0 p0 l X hy => ?_)
  refine IW.seqx tab ⟨[(0, [0, 1, 2, 3, 5]), (1, [0, 1, 2, 3, 5, 12]), (2, [0, 1, 2, 3, 5]), (3, [0, 1, 2, 3, 5, 6]), (4, [0, 1, 2, 3, 5, 6, 8]), (5, [0, 1, 2, 3, 5, 35])], [], [], []⟩ ?_
  refine IW.block ?_
  refine IW.lp (fun v => ⟨[(0, .l (.raw (.func (.yield l) #[] #[]))), (1, .l (.dptr [.int .i64 a2] 0)), (2, .l (.dptr [.sl (a0.map Task.enc)] 0)), (3, .l (.dptr [.int .i64 a1.P, .int .i64 a1.B] 0)), (5, .l (.d (.int .i64 v)))], 36, [], [], []⟩) h (Weak.refl _) (fun _ nx hn v h => ?_)
  refine IW.seqx tab ⟨[(0, [0, 1, 2, 3, 5]), (1, [0, 1, 2, 3, 5, 12]), (2, [0, 1, 2, 3, 5]), (3, [0, 1, 2, 3, 5, 6]), (4, [0, 1, 2, 3, 5, 6, 8]), (5, [0, 1, 2, 3, 5, 35])], [], [], []⟩ ?_
  refine fkS h (fun h => ?_) (fun h => ?_)
  · refine IW.seq (IW.block ?_)
    refine IW.seqx tab ⟨[(0, [0, 1, 2, 3, 5]), (1, [0, 1, 2, 3, 5, 12]), (2, [0, 1, 2, 3, 5]), (3, [0, 1, 2, 3, 5, 6]), (4, [0, 1, 2, 3, 5, 6, 8]), (5, [0, 1, 2, 3, 5, 35])], [], [], []⟩ ?_
    refine caS (E := E_Int_Int) h (verdict_Need_w a0 v) rfl (fun _ => rfl) (fun x1 h => ?_)
    refine IW.seqx tab ⟨[(0, [0, 1, 2, 3, 5]), (1, [0, 1, 2, 3, 5, 12]), (2, [0, 1, 2, 3, 5]), (3, [0, 1, 2, 3, 5, 6]), (4, [0, 1, 2, 3, 5, 6, 8]), (5, [0, 1, 2, 3, 5, 35])], [], [], []⟩ ?_
    refine caS (E := E_Int_Int) h (supply_Bound_w a1 v) rfl (fun _ => rfl) (fun x2 h => ?_)
    refine IW.yield tab (l := l) (r0 := 0) (r5 := 5) (r6 := 6) (r8 := 8) (nd := x1.1) (hv := x2.1) (t := v) rfl rfl rfl rfl rfl rfl rfl rfl rfl rfl rfl rfl rfl rfl rfl rfl rfl rfl rfl rfl rfl rfl rfl rfl rfl rfl rfl (Nat.le_of_ble_eq_true rfl) (Nat.le_of_ble_eq_true rfl) (Nat.le_of_ble_eq_true rfl) (Nat.le_of_ble_eq_true rfl) (Nat.le_of_ble_eq_true rfl) (Nat.le_of_ble_eq_true rfl) (Nat.le_of_ble_eq_true rfl) (Nat.le_of_ble_eq_true rfl) (Nat.le_of_ble_eq_true rfl) (by decide) (by decide) (by decide) (by decide) (by decide) (by decide) (by decide) (by decide) (by decide) (by decide) (by decide) (by decide) (by decide) (by decide) (by decide) (by decide) rfl rfl rfl rfl (fun hg W1 hW => ?_) (fun hg => ?_) (fun hg => ?_)
    · rw [decide_eq_true hg] at h; exact hy v W1 (Option.some.inj h).symm hW
    · rw [decide_eq_true hg] at h; rw [← Option.some.inj h]; rfl
    · rw [decide_eq_false hg] at h
      refine IW.of_xc tab ⟨[(0, [0, 1, 2, 3, 5]), (1, [0, 1, 2, 3, 5, 12]), (2, [0, 1, 2, 3, 5]), (3, [0, 1, 2, 3, 5, 6]), (4, [0, 1, 2, 3, 5, 6, 8]), (5, [0, 1, 2, 3, 5, 35])], [], [], []⟩ ?_
      exact leS hn h (Weak.refl _)
  · exact (Option.some.inj h).symm
noncomputable def verdict_First (a0 : List Task) (a1 : Face) : Option (Int × Bool × Int) :=
  bnd (verdict_Cycle a0 a1) fun x1 => fk (!decide (x1.2.2 = (0 : Int))) (some ((0 : Int), false, x1.2.2)) (bnd (verdict_fails a0 a1 x1.2.1) fun x2 => match x2 with | some t => some (t, true, (0 : Int)) | none => some ((0 : Int), false, (0 : Int)))
theorem verdict_First_w (a0 : List Task) (a1 : Face) (r : Int × Bool × Int) (h : verdict_First a0 a1 = some r) : Go.VC.Spec Tryz.prog 18 [.d (.sl (a0.map Task.enc)), .agg (Face.enc a1)] (fun y => y = E_Int_Bool_Int r) := by
  refine Spec.of_wpF (args := [.d (.sl (a0.map Task.enc)), .agg (Face.enc a1)]) (fn := Tryz.f18) rfl rfl rfl rfl ?_
  refine WpF.seq tab ⟨[(0, [0, 3, 4, 5, 6, 25]), (1, [0, 3, 4, 5, 6, 8, 9, 25]), (2, [0, 3, 4, 5, 6, 8, 9, 19, 25]), (3, [4, 5, 6]), (4, [4, 5, 6, 24, 25]), (5, [4, 5, 6, 10]), (6, [4, 5, 6]), (7, [4, 5, 6])], [], [], []⟩ (rs := [.cell 4 3, .cell 5 4, .cell 6 29]) rfl ?_
  refine WpF.seq tab ⟨[(0, [0, 3, 4, 5, 6, 25]), (1, [0, 3, 4, 5, 6, 8, 9, 25]), (2, [0, 3, 4, 5, 6, 8, 9, 19, 25]), (3, [4, 5, 6]), (4, [4, 5, 6, 24, 25]), (5, [4, 5, 6, 10]), (6, [4, 5, 6]), (7, [4, 5, 6])], [], [], []⟩ (rs := [.cell 4 3, .cell 5 4, .cell 6 29]) rfl ?_
  refine caS (E := E_Int_Int_Int) h (verdict_Cycle_w a0 a1) rfl (fun _ => rfl) (fun x1 h => ?_)
  refine WpF.seq tab ⟨[(0, [0, 3, 4, 5, 6, 25]), (1, [0, 3, 4, 5, 6, 8, 9, 25]), (2, [0, 3, 4, 5, 6, 8, 9, 19, 25]), (3, [4, 5, 6]), (4, [4, 5, 6, 24, 25]), (5, [4, 5, 6, 10]), (6, [4, 5, 6]), (7, [4, 5, 6])], [], [], []⟩ (rs := [.cell 4 3, .cell 5 4, .cell 6 29]) rfl ?_
  refine fkS h (fun h => ?_) (fun h => ?_)
  · exact RetOk.mk ⟨_, rfl, rt (E := E_Int_Bool_Int) h rfl⟩
  obtain ⟨x2, hx2, h⟩ := bnd_of h
  refine WpF.seqA tab ⟨[(0, [0, 3, 4, 5, 6, 25]), (1, [0, 3, 4, 5, 6, 8, 9, 25]), (2, [0, 3, 4, 5, 6, 8, 9, 19, 25]), (3, [4, 5, 6]), (4, [4, 5, 6, 24, 25]), (5, [4, 5, 6, 10]), (6, [4, 5, 6]), (7, [4, 5, 6])], [], [], []⟩ (rs := [.cell 4 3, .cell 5 4, .cell 6 29]) rfl ?_
  refine inS (fn := Tryz.f36) tab ⟨[(0, [3, 4, 5]), (1, [6])], [], [], []⟩ 8 [.tmp 6] rfl rfl rfl rfl rfl rfl ?_
  refine WpG.id ?_
  refine WpG.range tab (rs := [.cell 4 3, .cell 5 4, .cell 6 29]) rfl rfl rfl rfl rfl ⟨_, rfl, rfl, rfl⟩ x2 rfl (verdict_fails_it a0 a1 x1.2.1 x2 hx2) rfl rfl rfl (fun x hx => ?_) (fun hx => ?_)
  · subst hx
    refine PO.h (?_)
    refine po_move rfl rfl rfl ?_
    refine po_store rfl rfl rfl rfl rfl rfl rfl rfl rfl rfl ?_
    refine po_store rfl rfl rfl rfl rfl rfl rfl rfl rfl rfl ?_
    refine po_store rfl rfl rfl rfl rfl rfl rfl rfl rfl rfl ?_
    refine po_nil ?_
    exact RetOk.mk ⟨_, rfl, rt (E := E_Int_Bool_Int) h rfl⟩
  · subst hx
    refine PO.h (?_)
    refine po_store rfl rfl rfl rfl rfl rfl rfl rfl rfl rfl ?_
    refine po_store rfl rfl rfl rfl rfl rfl rfl rfl rfl rfl ?_
    refine po_store rfl rfl rfl rfl rfl rfl rfl rfl rfl rfl ?_
    refine po_nil ?_
    exact RetOk.mk ⟨_, rfl, rt (E := E_Int_Bool_Int) h rfl⟩

end Go.Proofs.YtpephpefjddgcaaGreat
namespace Go.Proofs.YtpephpefjddgcaaGreat
open Go Go.VC
noncomputable def verdict_Fits (a0 : List Task) (a1 : Face) : Option (Bool × Int) :=
  bnd (verdict_Cycle a0 a1) fun x1 => fk (!decide (x1.2.2 = (0 : Int))) (some (false, x1.2.2)) (lp (fun nx2 (v2 : Int × Int) => fk (decide (v2.2 < (a0.length : Int))) (ix a0 v2.2 fun x3 => ck (decide (x3.T ≠ 0)) (nx2 ((wr (v2.1 + (wr ((wr (x1.1.tdiv x3.T)) * x3.C)))), (wr (v2.2 + (1 : Int)))))) (ck (decide (a1.P ≠ 0)) (fk (decide (v2.1 > (wr ((wr (x1.1.tdiv a1.P)) * a1.B)))) (some (false, (0 : Int))) (bnd (verdict_First a0 a1) fun x4 => some ((!x4.2.1), (0 : Int)))))) FU ((0 : Int), (0 : Int)))
theorem verdict_Fits_w (a0 : List Task) (a1 : Face) (r : Bool × Int) (h : verdict_Fits a0 a1 = some r) : Go.VC.Spec Tryz.prog 7 [.d (.sl (a0.map Task.enc)), .agg (Face.enc a1)] (fun y => y = E_Bool_Int r) := by
  refine Go.VC.Spec.of_xc (args := [.d (.sl (a0.map Task.enc)), .agg (Face.enc a1)]) (fn := Tryz.f7) tab ⟨[(0, [0, 3]), (1, [0, 3, 6, 8]), (2, [0, 3, 6, 8, 23]), (3, [4, 5]), (4, [0, 3, 6, 9]), (5, [0, 3, 6, 9, 25, 26, 27]), (6, [0, 3, 6, 9, 25, 26, 27, 28]), (7, [0, 3, 6, 9, 11, 25, 26, 27]), (8, [0, 3, 6, 9, 25, 26, 27]), (9, [0, 3, 6, 9, 25, 26, 27]), (10, [0, 3, 49]), (11, [4, 5]), (12, [13]), (13, [4, 5])], [], [], []⟩ 59 [.tmp 4, .tmp 5] rfl rfl rfl rfl rfl rfl ?_
  conv => whnf
  refine caS (E := E_Int_Int_Int) h (verdict_Cycle_w a0 a1) rfl (fun _ => rfl) (fun x1 h => ?_)
  conv => whnf
  refine fkS h (fun h => ?_) (fun h => ?_)
  · conv => whnf
    exact rt (E := E_Bool_Int) h rfl
  conv => whnf
  refine lenS a0 Task.enc rfl ?_
  conv => whnf
  refine lpS (fun v2 => ⟨[(0, .l (.d (.sl (a0.map Task.enc)))), (3, .l (.ptr 4 0)), (6, .l (.d (.int .i64 x1.1))), (9, .l (.d (.int .i64 v2.1))), (25, .l (.d (.sl (a0.map Task.enc)))), (26, .l (.d (.int .i64 (a0.length : Int)))), (27, .l (.d (.int .i64 v2.2)))], 59, [], [(4, [.d (.int .i64 a1.P), .d (.int .i64 a1.B)])], []⟩) h (Weak.refl _) (fun _ nx2 hn2 v2 h => ?_)
  conv => whnf
  refine fkS h (fun h => ?_) (fun h => ?_)
  · conv => whnf
    refine ixS (enc := Task.enc) h rfl (fun _ => rfl) (fun x3 h => ?_)
    conv => whnf
    refine ⟨8, ?_⟩
    conv => whnf
    refine dvS h (fun h => ?_)
    conv => whnf
    refine drS (by kernel_rfl) ?_
    conv => whnf
    exact leS hn2 h (Weak.refl _)
  conv => whnf
  refine ⟨8, ?_⟩
  conv => whnf
  refine dvS h (fun h => ?_)
  conv => whnf
  refine drS (by kernel_rfl) ?_
  conv => whnf
  refine fkS h (fun h => ?_) (fun h => ?_)
  · conv => whnf
    exact rt (E := E_Bool_Int) h rfl
  conv => whnf
  refine caS (E := E_Int_Bool_Int) h (verdict_First_w a0 a1) rfl (fun _ => rfl) (fun x4 h => ?_)
  conv => whnf
  exact rt (E := E_Bool_Int) h rfl

end Go.Proofs.YtpephpefjddgcaaGreat
namespace Go.Proofs.YtpephpefjddgcaaGreat
open Go Go.VC
noncomputable def face_Least_1 (a0 : Int) (a1 : List Task) (a2 : Int) : Option Bool :=
  bnd (verdict_Fits a1 ⟨a2, a0⟩) fun x1 => some x1.1
theorem face_Least_1_w (a0 : Int) (a1 : List Task) (a2 : Int) (r : Bool) (h : face_Least_1 a0 a1 a2 = some r) : Go.VC.Spec Tryz.prog 21 [.d (.int .i64 a0), .dp [.sl (a1.map Task.enc)], .dp [.int .i64 a2]] (fun y => y = E_Bool r) := by
  refine Go.VC.Spec.of_xc (args := [.d (.int .i64 a0), .dp [.sl (a1.map Task.enc)], .dp [.int .i64 a2]]) (fn := Tryz.f21) tab ⟨[(0, [0, 1, 2]), (1, [5]), (2, [4])], [], [], []⟩ 16 [.tmp 4] rfl rfl rfl rfl rfl rfl ?_
  conv => whnf
  refine caS (E := E_Bool_Int) h (verdict_Fits_w a1 ⟨a2, a0⟩) rfl (fun _ => rfl) (fun x1 h => ?_)
  conv => whnf
  exact rt (E := E_Bool) h rfl

end Go.Proofs.YtpephpefjddgcaaGreat
namespace Go.Proofs.YtpephpefjddgcaaGreat
open Go Go.VC
noncomputable def face_least_int (a0 : Int) (a1 : Int) (a2 : List Task) (a3 : Int) : Option (Int × Bool) :=
  bnd (face_Least_1 a1 a2 a3) fun x1 => fk (!x1) (some ((0 : Int), false)) (lp (fun nx2 (v2 : Int × Int) => fk (decide (v2.1 < v2.2)) (ck (decide ((2 : Int) ≠ 0)) (bnd (face_Least_1 (wr (v2.1 + (wr ((wr (v2.2 - v2.1)).tdiv (2 : Int))))) a2 a3) fun x3 => fk x3 (nx2 (v2.1, (wr (v2.1 + (wr ((wr (v2.2 - v2.1)).tdiv (2 : Int))))))) (nx2 ((wr ((wr (v2.1 + (wr ((wr (v2.2 - v2.1)).tdiv (2 : Int))))) + (1 : Int))), v2.2)))) (some (v2.2, true))) FU (a0, a1))
theorem face_least_int_w (a0 : Int) (a1 : Int) (a2 : List Task) (a3 : Int) (r : Int × Bool) (h : face_least_int a0 a1 a2 a3 = some r) : Go.VC.Spec Tryz.prog 20 [.d (.int .i64 a0), .d (.int .i64 a1), .d (.fn 21 [[.sl (a2.map Task.enc)], [.int .i64 a3]])] (fun y => y = E_Int_Bool r) := by
  refine Go.VC.Spec.of_xc (args := [.d (.int .i64 a0), .d (.int .i64 a1), .d (.fn 21 [[.sl (a2.map Task.enc)], [.int .i64 a3]])]) (fn := Tryz.f20) tab ⟨[(0, [0, 1, 2]), (1, [0, 1, 2, 12]), (2, [6, 7]), (3, [0, 1, 2, 15]), (4, [0, 1, 2, 8]), (5, [0, 1, 2, 8, 24]), (6, [0, 1, 2]), (7, [0, 1, 2]), (8, [6, 7])], [], [], []⟩ 29 [.tmp 6, .tmp 7] rfl rfl rfl rfl rfl rfl ?_
  conv => whnf
  refine caS (E := E_Bool) h (face_Least_1_w a1 a2 a3) rfl (fun _ => rfl) (fun x1 h => ?_)
  conv => whnf
  refine fkS h (fun h => ?_) (fun h => ?_)
  · conv => whnf
    exact rt (E := E_Int_Bool) h rfl
  conv => whnf
  refine lpS (fun v2 => ⟨[(0, .l (.d (.int .i64 v2.1))), (1, .l (.d (.int .i64 v2.2))), (2, .l (.d (.fn 21 [[.sl (a2.map Task.enc)], [.int .i64 a3]])))], 29, [], [], []⟩) h (Weak.trans (Weak.keepS _ [0, 1, 2]) (Weak.refl _)) (fun _ nx2 hn2 v2 h => ?_)
  conv => whnf
  refine fkS h (fun h => ?_) (fun h => ?_)
  · conv => whnf
    refine dvS h (fun h => ?_)
    conv => whnf
    refine caS (E := E_Bool) h (face_Least_1_w (wr (v2.1 + (wr ((wr (v2.2 - v2.1)).tdiv (2 : Int))))) a2 a3) rfl (fun _ => rfl) (fun x3 h => ?_)
    conv => whnf
    refine fkS h (fun h => ?_) (fun h => ?_)
    · conv => whnf
      exact leS hn2 h (Weak.refl _)
    conv => whnf
    exact leS hn2 h (Weak.refl _)
  conv => whnf
  exact rt (E := E_Int_Bool) h rfl

end Go.Proofs.YtpephpefjddgcaaGreat
namespace Go.Proofs.YtpephpefjddgcaaGreat
open Go Go.VC
noncomputable def face_Least (a0 : List Task) (a1 : Int) : Option (Face × Int) :=
  jn (fun (w1 : Bool) => fk w1 (some (⟨(0 : Int), (0 : Int)⟩, (1 : Int))) (bnd (verdict_Fits a0 ⟨a1, (1 : Int)⟩) fun x3 => fk (!decide (x3.2 = (0 : Int))) (some (⟨(0 : Int), (0 : Int)⟩, x3.2)) (bnd (face_least_int (1 : Int) a1 a0 a1) fun x4 => fk (!x4.2) (some (⟨(0 : Int), (0 : Int)⟩, (7 : Int))) (some (⟨a1, x4.1⟩, (0 : Int)))))) (fun k1 => bnd (task_All a0) fun x2 => fk (!x2) (k1 true) (fk (decide (a1 < (1 : Int))) (k1 true) (k1 (decide (a1 > (200 : Int))))))
theorem face_Least_w (a0 : List Task) (a1 : Int) (r : Face × Int) (h : face_Least a0 a1 = some r) : Go.VC.Spec Tryz.prog 8 [.d (.sl (a0.map Task.enc)), .d (.int .i64 a1)] (fun y => y = E_Face_Int r) := by
  refine Go.VC.Spec.of_xc (args := [.d (.sl (a0.map Task.enc)), .d (.int .i64 a1)]) (fn := Tryz.f8) tab ⟨[(0, [2, 3, 4]), (1, [2, 3, 4, 20]), (2, [4, 5]), (3, [2, 3, 4, 7]), (4, [2, 3, 4, 7, 30]), (5, [4, 5]), (6, [3, 4, 8, 9]), (7, [3, 4, 8, 40]), (8, [4, 5]), (9, [4, 5])], [], [100020], []⟩ 45 [.cell 4 24, .tmp 5] rfl rfl rfl rfl rfl rfl ?_
  conv => whnf
  refine jnS (fun w1 => ⟨[(2, .l (.ptr 3 0)), (3, .l (.ptr 4 0)), (4, .l (.ptr 5 0)), (20, .l (.d (.bool w1)))], 45, [], [(3, [.d (.sl (a0.map Task.enc))]), (4, [.d (.int .i64 a1)]), (5, [.d (.int .i64 (0 : Int)), .d (.int .i64 (0 : Int))])], []⟩) h (fun k1 hk1 h => ?_) (fun w1 h => ?_)
  · conv => whnf
    refine caS (E := E_Bool) h (task_All_w a0) rfl (fun _ => rfl) (fun x2 h => ?_)
    conv => whnf
    refine fkS h (fun h => ?_) (fun h => ?_)
    · conv => whnf
      exact jeS hk1 h (Weak.refl _)
    conv => whnf
    refine fkS h (fun h => ?_) (fun h => ?_)
    · conv => whnf
      exact jeS hk1 h (Weak.refl _)
    conv => whnf
    exact jeS hk1 h (Weak.refl _)
  conv => whnf
  refine fkS h (fun h => ?_) (fun h => ?_)
  · conv => whnf
    exact rt (E := E_Face_Int) h rfl
  conv => whnf
  refine caS (E := E_Bool_Int) h (verdict_Fits_w a0 ⟨a1, (1 : Int)⟩) rfl (fun _ => rfl) (fun x3 h => ?_)
  conv => whnf
  refine fkS h (fun h => ?_) (fun h => ?_)
  · conv => whnf
    exact rt (E := E_Face_Int) h rfl
  conv => whnf
  refine caS (E := E_Int_Bool) h (face_least_int_w (1 : Int) a1 a0 a1) rfl (fun _ => rfl) (fun x4 h => ?_)
  conv => whnf
  refine fkS h (fun h => ?_) (fun h => ?_)
  · conv => whnf
    exact rt (E := E_Face_Int) h rfl
  conv => whnf
  exact rt (E := E_Face_Int) h rfl

end Go.Proofs.YtpephpefjddgcaaGreat
namespace Go.Proofs.YtpephpefjddgcaaGreat
open Go Go.VC
noncomputable def ref12_Frame (a0 : List Face) : Option (Int × Int) :=
  fk (decide ((a0.length : Int) > (4 : Int))) (some ((0 : Int), (1 : Int))) (lp (fun nx1 (v1 : Int) => fk (decide (v1 < (a0.length : Int))) (ix a0 v1 fun x2 => bnd (ref09_Right x2) fun x3 => fk (!x3) (some ((0 : Int), (1 : Int))) (nx1 (wr (v1 + (1 : Int))))) (lp (fun nx4 (v4 : Int) => fk (decide (v4 ≤ (240 : Int))) (lp (fun nx5 (v5 : Bool × Int) => fk (decide (v5.2 < (a0.length : Int))) (jn (fun (w6 : Bool) => nx5 (w6, (wr (v5.2 + (1 : Int))))) (fun k6 => fk v5.1 (ix a0 v5.2 fun x7 => ck (decide (x7.P ≠ 0)) (k6 (decide ((v4.tmod x7.P) = (0 : Int))))) (k6 false))) (fk v5.1 (some (v4, (0 : Int))) (nx4 (wr (v4 + (1 : Int)))))) FU (true, (0 : Int))) (some ((0 : Int), (5 : Int)))) FU (1 : Int))) FU (0 : Int))
theorem ref12_Frame_w (a0 : List Face) (r : Int × Int) (h : ref12_Frame a0 = some r) : Go.VC.Spec Tryz.prog 13 [.d (.sl (a0.map Face.enc))] (fun y => y = E_Int_Int r) := by
  refine Go.VC.Spec.of_xc (args := [.d (.sl (a0.map Face.enc))]) (fn := Tryz.f13) tab ⟨[(0, [0]), (1, [0, 10]), (2, [2, 3]), (3, [0, 4]), (4, [0, 4, 14]), (5, [0, 4]), (6, [0, 4, 22]), (7, [2, 3]), (8, [0, 5]), (9, [0, 5, 24]), (10, [0, 5]), (11, [0, 5, 6]), (12, [0, 5, 6, 7]), (13, [0, 5, 6, 7, 30]), (14, [0, 5, 6, 7]), (15, [0, 5, 6, 7]), (16, [0, 5, 44]), (17, [2, 3]), (18, [2, 3])], [], [14], []⟩ 46 [.tmp 2, .tmp 3] rfl rfl rfl rfl rfl rfl ?_
  conv => whnf
  refine lenS a0 Face.enc rfl ?_
  conv => whnf
  refine fkS h (fun h => ?_) (fun h => ?_)
  · conv => whnf
    exact rt (E := E_Int_Int) h rfl
  conv => whnf
  refine lpS (fun v1 => ⟨[(0, .l (.d (.sl (a0.map Face.enc)))), (4, .l (.d (.int .i64 v1)))], 46, [], [], []⟩) h (Weak.refl _) (fun _ nx1 hn1 v1 h => ?_)
  conv => whnf
  refine lenS a0 Face.enc rfl ?_
  conv => whnf
  refine fkS h (fun h => ?_) (fun h => ?_)
  · conv => whnf
    refine ixS (enc := Face.enc) h rfl (fun _ => rfl) (fun x2 h => ?_)
    conv => whnf
    refine caS (E := E_Bool) h (ref09_Right_w x2) rfl (fun _ => rfl) (fun x3 h => ?_)
    conv => whnf
    refine fkS h (fun h => ?_) (fun h => ?_)
    · conv => whnf
      exact rt (E := E_Int_Int) h rfl
    conv => whnf
    exact leS hn1 h (Weak.refl _)
  conv => whnf
  refine lpS (fun v4 => ⟨[(0, .l (.d (.sl (a0.map Face.enc)))), (5, .l (.d (.int .i64 v4)))], 46, [], [], []⟩) h (Weak.refl _) (fun _ nx4 hn4 v4 h => ?_)
  conv => whnf
  refine fkS h (fun h => ?_) (fun h => ?_)
  · conv => whnf
    refine lpS (fun v5 => ⟨[(0, .l (.d (.sl (a0.map Face.enc)))), (5, .l (.d (.int .i64 v4))), (6, .l (.d (.bool v5.1))), (7, .l (.d (.int .i64 v5.2)))], 46, [], [], []⟩) h (Weak.refl _) (fun _ nx5 hn5 v5 h => ?_)
    conv => whnf
    refine lenS a0 Face.enc rfl ?_
    conv => whnf
    refine fkS h (fun h => ?_) (fun h => ?_)
    · conv => whnf
      refine jnS (fun w6 => ⟨[(0, .l (.d (.sl (a0.map Face.enc)))), (5, .l (.d (.int .i64 v4))), (6, .l (.d (.bool w6))), (7, .l (.d (.int .i64 v5.2)))], 46, [], [], []⟩) h (fun k6 hk6 h => ?_) (fun w6 h => ?_)
      · conv => whnf
        refine fkS h (fun h => ?_) (fun h => ?_)
        · conv => whnf
          refine ixS (enc := Face.enc) h rfl (fun _ => rfl) (fun x7 h => ?_)
          conv => whnf
          refine dvS h (fun h => ?_)
          conv => whnf
          exact jeS hk6 h (Weak.refl _)
        conv => whnf
        exact jeS hk6 h (Weak.refl _)
      conv => whnf
      exact leS hn5 h (Weak.refl _)
    conv => whnf
    refine fkS h (fun h => ?_) (fun h => ?_)
    · conv => whnf
      exact rt (E := E_Int_Int) h rfl
    conv => whnf
    exact leS hn4 h (Weak.refl _)
  conv => whnf
  exact rt (E := E_Int_Int) h rfl

end Go.Proofs.YtpephpefjddgcaaGreat
namespace Go.Proofs.YtpephpefjddgcaaGreat
open Go Go.VC
noncomputable def synth_Frame (a0 : List Face) : Option (Int × Int) :=
  fk (decide ((a0.length : Int) > (4 : Int))) (some ((0 : Int), (1 : Int))) (lp (fun nx1 (v1 : Int) => fk (decide (v1 < (a0.length : Int))) (ix a0 v1 fun x2 => bnd (supply_Right x2) fun x3 => fk (!x3) (some ((0 : Int), (1 : Int))) (nx1 (wr (v1 + (1 : Int))))) (lp (fun nx4 (v4 : Int × Int) => fk (decide (v4.2 < (a0.length : Int))) (ix a0 v4.2 fun x5 => bnd (arith_Lcm v4.1 x5.P) fun x6 => jn (fun (w7 : Bool) => fk w7 (some ((0 : Int), (5 : Int))) (nx4 (x6.1, (wr (v4.2 + (1 : Int)))))) (fun k7 => fk (!decide (x6.2 = (0 : Int))) (k7 true) (k7 (decide (x6.1 > (240 : Int)))))) (some (v4.1, (0 : Int)))) FU ((1 : Int), (0 : Int)))) FU (0 : Int))
theorem synth_Frame_w (a0 : List Face) (r : Int × Int) (h : synth_Frame a0 = some r) : Go.VC.Spec Tryz.prog 39 [.d (.sl (a0.map Face.enc))] (fun y => y = E_Int_Int r) := by
  refine Go.VC.Spec.of_xc (args := [.d (.sl (a0.map Face.enc))]) (fn := Tryz.f39) tab ⟨[(0, [0]), (1, [0, 13]), (2, [2, 3]), (3, [0, 14, 15, 16]), (4, [0, 14, 15, 16, 17]), (5, [0, 5, 14, 15, 16]), (6, [0, 14, 15, 16, 22]), (7, [2, 3]), (8, [0, 14, 15, 16]), (9, [0, 6]), (10, [6, 24, 25, 26]), (11, [6, 24, 25, 26, 27]), (12, [6, 8, 24, 25, 26]), (13, [9, 10, 24, 25, 26]), (14, [9, 24, 25, 26, 42]), (15, [2, 3]), (16, [6, 24, 25, 26]), (17, [6, 24, 25, 26]), (18, [2, 3])], [], [100042], []⟩ 46 [.tmp 2, .tmp 3] rfl rfl rfl rfl rfl rfl ?_
  conv => whnf
  refine lenS a0 Face.enc rfl ?_
  conv => whnf
  refine fkS h (fun h => ?_) (fun h => ?_)
  · conv => whnf
    exact rt (E := E_Int_Int) h rfl
  conv => whnf
  refine lenS a0 Face.enc rfl ?_
  conv => whnf
  refine lpS (fun v1 => ⟨[(0, .l (.d (.sl (a0.map Face.enc)))), (14, .l (.d (.sl (a0.map Face.enc)))), (15, .l (.d (.int .i64 (a0.length : Int)))), (16, .l (.d (.int .i64 v1)))], 46, [], [], []⟩) h (Weak.refl _) (fun _ nx1 hn1 v1 h => ?_)
  conv => whnf
  refine fkS h (fun h => ?_) (fun h => ?_)
  · conv => whnf
    refine ixS (enc := Face.enc) h rfl (fun _ => rfl) (fun x2 h => ?_)
    conv => whnf
    refine caS (E := E_Bool) h (supply_Right_w x2) rfl (fun _ => rfl) (fun x3 h => ?_)
    conv => whnf
    refine fkS h (fun h => ?_) (fun h => ?_)
    · conv => whnf
      exact rt (E := E_Int_Int) h rfl
    conv => whnf
    exact leS hn1 h (Weak.refl _)
  conv => whnf
  refine lenS a0 Face.enc rfl ?_
  conv => whnf
  refine lpS (fun v4 => ⟨[(6, .l (.d (.int .i64 v4.1))), (24, .l (.d (.sl (a0.map Face.enc)))), (25, .l (.d (.int .i64 (a0.length : Int)))), (26, .l (.d (.int .i64 v4.2)))], 46, [], [], []⟩) h (Weak.refl _) (fun _ nx4 hn4 v4 h => ?_)
  conv => whnf
  refine fkS h (fun h => ?_) (fun h => ?_)
  · conv => whnf
    refine ixS (enc := Face.enc) h rfl (fun _ => rfl) (fun x5 h => ?_)
    conv => whnf
    refine caS (E := E_Int_Int) h (arith_Lcm_w v4.1 x5.P) rfl (fun _ => rfl) (fun x6 h => ?_)
    conv => whnf
    refine jnS (fun w7 => ⟨[(9, .l (.d (.int .i64 x6.1))), (24, .l (.d (.sl (a0.map Face.enc)))), (25, .l (.d (.int .i64 (a0.length : Int)))), (26, .l (.d (.int .i64 v4.2))), (42, .l (.d (.bool w7)))], 46, [], [], []⟩) h (fun k7 hk7 h => ?_) (fun w7 h => ?_)
    · conv => whnf
      refine fkS h (fun h => ?_) (fun h => ?_)
      · conv => whnf
        exact jeS hk7 h (Weak.refl _)
      conv => whnf
      exact jeS hk7 h (Weak.refl _)
    conv => whnf
    refine fkS h (fun h => ?_) (fun h => ?_)
    · conv => whnf
      exact rt (E := E_Int_Int) h rfl
    conv => whnf
    exact leS hn4 h (Weak.refl _)
  conv => whnf
  exact rt (E := E_Int_Int) h rfl

end Go.Proofs.YtpephpefjddgcaaGreat
namespace Go.Proofs.YtpephpefjddgcaaGreat
open Go Go.VC
noncomputable def synth_Lay (a0 : List Face) : Option ((List Int) × Int) :=
  bnd (synth_Frame a0) fun x1 => fk (!decide (x1.2 = (0 : Int))) (some ([], x1.2)) (ck (decide ((0 : Int) ≤ (a0.length : Int)) && decide ((a0.length : Int) * ((8 : Nat) : Int) ≤ 140737488355328) && decide ((a0.length : Int) ≤ 1000000000000)) (lp (fun nx2 (v2 : (List Int) × (List Int) × Int) => fk (decide (v2.2.2 < x1.1)) (lp (fun nx3 (v3 : (List Int) × Int) => fk (decide (v3.2 < (a0.length : Int))) (jn (fun (w4 : List Int) => nx3 (w4, (wr (v3.2 + (1 : Int))))) (fun k4 => ix a0 v3.2 fun x5 => ck (decide (x5.P ≠ 0)) (fk (!decide ((v2.2.2.tmod x5.P) = (0 : Int))) (k4 v3.1) (ck (decide (0 ≤ v3.2) && decide (v3.2 < (v3.1.length : Int))) (ox v3.1 v3.2.toNat fun x6 => fk (decide (x6 > (0 : Int))) (some ([], (7 : Int))) (ck (decide (0 ≤ v3.2) && decide (v3.2 < (v3.1.length : Int))) (ox v3.1 v3.2.toNat fun x7 => k4 (v3.1.set v3.2.toNat x5.B)))))))) (lp (fun nx8 (v8 : Int × Int × Int) => fk (decide (v8.2.2 < (a0.length : Int))) (jn (fun (w9 : Int × Int) => nx8 (w9.1, w9.2, (wr (v8.2.2 + (1 : Int))))) (fun k9 => ix a0 v8.2.2 fun x10 => ck (decide (x10.P ≠ 0)) (jn (fun (w11 : Bool) => fk w11 (k9 (v8.2.2, (wr ((wr (v2.2.2 - (v2.2.2.tmod x10.P))) + x10.P)))) (k9 (v8.1, v8.2.1))) (fun k11 => ck (decide (0 ≤ v8.2.2) && decide (v8.2.2 < (v3.1.length : Int))) (ox v3.1 v8.2.2.toNat fun x12 => fk (decide (x12 > (0 : Int))) (fk (decide (v8.1 = (-1 : Int))) (k11 true) (k11 (decide ((wr ((wr (v2.2.2 - (v2.2.2.tmod x10.P))) + x10.P)) < v8.2.1)))) (k11 false)))))) (fk (!decide (v8.1 = (-1 : Int))) (ck (decide (0 ≤ v8.1) && decide (v8.1 < (v3.1.length : Int))) (ox v3.1 v8.1.toNat fun x13 => ck (decide (0 ≤ v8.1) && decide (v8.1 < (v3.1.length : Int))) (ox v3.1 v8.1.toNat fun x14 => ck (decide ((v2.1.length + ([v8.1] : List Int).length) * 8 ≤ 140737488355328)) (nx2 (v2.1 ++ ([v8.1] : List Int), v3.1.set v8.1.toNat (wr (x13 - (1 : Int))), (wr (v2.2.2 + (1 : Int)))))))) (ck (decide ((v2.1.length + ([v8.1] : List Int).length) * 8 ≤ 140737488355328)) (nx2 (v2.1 ++ ([v8.1] : List Int), v3.1, (wr (v2.2.2 + (1 : Int)))))))) FU ((-1 : Int), (0 : Int), (0 : Int)))) FU (v2.2.1, (0 : Int))) (lp (fun nx15 (v15 : (List Int) × Int) => fk (decide (v15.2 < (a0.length : Int))) (jn (fun (w16 : List Int) => nx15 (w16, (wr (v15.2 + (1 : Int))))) (fun k16 => ix a0 v15.2 fun x17 => ck (decide (x17.P ≠ 0)) (fk (!decide ((x1.1.tmod x17.P) = (0 : Int))) (k16 v15.1) (ck (decide (0 ≤ v15.2) && decide (v15.2 < (v15.1.length : Int))) (ox v15.1 v15.2.toNat fun x18 => fk (decide (x18 > (0 : Int))) (some ([], (7 : Int))) (ck (decide (0 ≤ v15.2) && decide (v15.2 < (v15.1.length : Int))) (ox v15.1 v15.2.toNat fun x19 => k16 (v15.1.set v15.2.toNat x17.B)))))))) (some (v2.1, (0 : Int)))) FU (v2.2.1, (0 : Int)))) FU ([], List.replicate (a0.length : Int).toNat ((0 : Int) : Int), (0 : Int))))
theorem synth_Lay_w (a0 : List Face) (r : (List Int) × Int) (h : synth_Lay a0 = some r) : Go.VC.Spec Tryz.prog 25 [.d (.sl (a0.map Face.enc))] (fun y => y = E_ListInt_Int r) := by
  refine Go.VC.Spec.of_xc (args := [.d (.sl (a0.map Face.enc))]) (fn := Tryz.f25) tab ⟨[(0, [0]), (1, [0, 4, 5]), (2, [0, 4, 5, 17]), (3, [2, 3]), (4, [4, 6]), (5, [4, 7, 8]), (6, [4, 7, 8, 9]), (7, [4, 7, 8, 9, 29, 30]), (8, [4, 7, 8, 9, 29, 30, 31]), (9, [4, 7, 8, 9, 10, 29, 30]), (10, [4, 7, 8, 9, 10, 29, 30, 36]), (11, [2, 3]), (12, [4, 7, 8, 9, 29, 30]), (13, [4, 7, 8, 9, 29, 30]), (14, [9, 47]), (15, [2, 3]), (16, [2, 3])], [], [], []⟩ 49 [.tmp 2, .tmp 3] rfl rfl rfl rfl rfl rfl ?_
  conv => whnf
  refine caS (E := E_Int_Int) h (synth_Frame_w a0) rfl (fun _ => rfl) (fun x1 h => ?_)
  conv => whnf
  refine fkS h (fun h => ?_) (fun h => ?_)
  · conv => whnf
    exact rt (E := E_ListInt_Int) h rfl
  conv => whnf
  refine lenS a0 Face.enc rfl ?_
  conv => whnf
  refine mkS ((0 : Int) : Int) (eI .i64) h rfl rfl (fun h => ?_)
  conv => whnf
  refine lpS (fun v2 => ⟨[(4, .l (.d (.int .i64 x1.1))), (7, .l (.mfn 40 25)), (8, .l (.mfn 41 25)), (9, .l (.own 10)), (29, .l (.d (.int .i64 x1.1))), (30, .l (.d (.int .i64 v2.2.2)))], 49, [], [(25, [.d (.sl (a0.map Face.enc)), .own 23])], [(10, 3, 1, v2.1.map (eI .i64)), (23, 3, 1, v2.2.1.map (eI .i64))]⟩) h (Weak.trans (Weak.nilO _ 9 10 3 1 rfl) (Weak.refl _)) (fun _ nx2 hn2 v2 h => ?_)
  conv => whnf
  refine fkS h (fun h => ?_) (fun h => ?_)
  · conv => whnf
    refine inS (fn := Tryz.f40) tab ⟨[(0, [0, 1]), (1, [0, 1, 10, 11, 12]), (2, [0, 1, 10, 11, 12, 13]), (3, [0, 1, 5, 6, 10, 11, 12]), (4, [0, 1, 5, 6, 10, 11, 12, 21]), (5, [0, 1, 5, 6, 10, 11, 12, 29]), (6, [4]), (7, [0, 1, 10, 11, 12]), (8, [0, 1, 10, 11, 12]), (9, [4])], [], [8], []⟩ 39 [.tmp 4] rfl rfl rfl rfl rfl rfl ?_
    conv => whnf
    refine lenS a0 Face.enc rfl ?_
    conv => whnf
    refine lpS (fun v3 => ⟨[(0, .l (.ptr 25 0)), (1, .l (.d (.int .i64 v2.2.2))), (10, .l (.d (.sl (a0.map Face.enc)))), (11, .l (.d (.int .i64 (a0.length : Int)))), (12, .l (.d (.int .i64 v3.2)))], 39, [⟨[(34, .l (.d (.int .i64 v2.2.2))), (33, .l (.mfn 40 25)), (4, .l (.d (.int .i64 x1.1))), (7, .l (.mfn 40 25)), (8, .l (.mfn 41 25)), (9, .l (.own 10)), (10, .l (.d (.int .i64 v2.2.2))), (29, .l (.d (.int .i64 x1.1))), (30, .l (.d (.int .i64 v2.2.2)))], 49⟩], [(25, [.d (.sl (a0.map Face.enc)), .own 23])], [(10, 3, 1, v2.1.map (eI .i64)), (23, 3, 1, v3.1.map (eI .i64))]⟩) h (Weak.refl _) (fun _ nx3 hn3 v3 h => ?_)
    conv => whnf
    refine fkS h (fun h => ?_) (fun h => ?_)
    · conv => whnf
      refine jnS (fun w4 => ⟨[(0, .l (.ptr 25 0)), (1, .l (.d (.int .i64 v2.2.2))), (10, .l (.d (.sl (a0.map Face.enc)))), (11, .l (.d (.int .i64 (a0.length : Int)))), (12, .l (.d (.int .i64 v3.2)))], 39, [⟨[(34, .l (.d (.int .i64 v2.2.2))), (33, .l (.mfn 40 25)), (4, .l (.d (.int .i64 x1.1))), (7, .l (.mfn 40 25)), (8, .l (.mfn 41 25)), (9, .l (.own 10)), (10, .l (.d (.int .i64 v2.2.2))), (29, .l (.d (.int .i64 x1.1))), (30, .l (.d (.int .i64 v2.2.2)))], 49⟩], [(25, [.d (.sl (a0.map Face.enc)), .own 23])], [(10, 3, 1, v2.1.map (eI .i64)), (23, 3, 1, w4.map (eI .i64))]⟩) h (fun k4 hk4 h => ?_) (fun w4 h => ?_)
      · conv => whnf
        refine ixS (enc := Face.enc) h rfl (fun _ => rfl) (fun x5 h => ?_)
        conv => whnf
        refine dvS h (fun h => ?_)
        conv => whnf
        refine fkS h (fun h => ?_) (fun h => ?_)
        · conv => whnf
          refine jeX hk4 h ?_
          conv => whnf
          refine WkF.step (Weak.keepS _ [0, 1, 10, 11, 12]) ?_
          conv => whnf
          exact WkF.refl _
        conv => whnf
        refine ioS (enc := (eI .i64)) h rfl (fun h => ?_)
        conv => whnf
        refine oxS (enc := (eI .i64)) h rfl (fun x6 h => ?_)
        conv => whnf
        refine fkS h (fun h => ?_) (fun h => ?_)
        · conv => whnf
          exact rt (E := E_ListInt_Int) h rfl
        conv => whnf
        refine ⟨7, ?_⟩
        conv => whnf
        refine drS (by kernel_rfl) ?_
        conv => whnf
        refine ioS (enc := (eI .i64)) h rfl (fun h => ?_)
        conv => whnf
        refine seS (enc := (eI .i64)) h rfl (fun x7 => x5.B) (fun _ => rfl) (fun x7 h => ?_)
        conv => whnf
        exact jeS hk4 h (Weak.refl _)
      conv => whnf
      exact leS hn3 h (Weak.refl _)
    conv => whnf
    refine inS (fn := Tryz.f41) tab ⟨[(0, [0, 1]), (1, [0, 1, 5, 6]), (2, [0, 1, 5, 6, 13, 14, 15]), (3, [0, 1, 5, 6, 13, 14, 15, 16]), (4, [0, 1, 5, 6, 7, 8, 13, 14, 15]), (5, [0, 1, 5, 6, 7, 9, 13, 14, 15]), (6, [0, 1, 5, 6, 7, 9, 13, 14, 15, 45]), (7, [0, 1, 5, 6, 13, 14, 15]), (8, [0, 1, 5, 6, 13, 14, 15]), (9, [0, 5, 50]), (10, [5]), (11, [4])], [], [100045, 8], []⟩ 61 [.tmp 4] rfl rfl rfl rfl rfl rfl ?_
    conv => whnf
    refine lenS a0 Face.enc rfl ?_
    conv => whnf
    refine lpS (fun v8 => ⟨[(0, .l (.ptr 25 0)), (1, .l (.d (.int .i64 v2.2.2))), (5, .l (.d (.int .i64 v8.1))), (6, .l (.d (.int .i64 v8.2.1))), (13, .l (.d (.sl (a0.map Face.enc)))), (14, .l (.d (.int .i64 (a0.length : Int)))), (15, .l (.d (.int .i64 v8.2.2)))], 61, [⟨[(39, .l (.d (.int .i64 v2.2.2))), (38, .l (.mfn 41 25)), (37, .l (.own 10)), (36, .l (.d (.bool false))), (4, .l (.d (.int .i64 x1.1))), (7, .l (.mfn 40 25)), (8, .l (.mfn 41 25)), (9, .l (.own 10)), (10, .l (.d (.int .i64 v2.2.2))), (29, .l (.d (.int .i64 x1.1))), (30, .l (.d (.int .i64 v2.2.2))), (36, .l (.d (.bool false)))], 49⟩], [(25, [.d (.sl (a0.map Face.enc)), .own 23])], [(10, 3, 1, v2.1.map (eI .i64)), (23, 3, 1, v3.1.map (eI .i64))]⟩) h (Weak.refl _) (fun _ nx8 hn8 v8 h => ?_)
    conv => whnf
    refine fkS h (fun h => ?_) (fun h => ?_)
    · conv => whnf
      refine jnS (fun w9 => ⟨[(0, .l (.ptr 25 0)), (1, .l (.d (.int .i64 v2.2.2))), (5, .l (.d (.int .i64 w9.1))), (6, .l (.d (.int .i64 w9.2))), (13, .l (.d (.sl (a0.map Face.enc)))), (14, .l (.d (.int .i64 (a0.length : Int)))), (15, .l (.d (.int .i64 v8.2.2)))], 61, [⟨[(39, .l (.d (.int .i64 v2.2.2))), (38, .l (.mfn 41 25)), (37, .l (.own 10)), (36, .l (.d (.bool false))), (4, .l (.d (.int .i64 x1.1))), (7, .l (.mfn 40 25)), (8, .l (.mfn 41 25)), (9, .l (.own 10)), (10, .l (.d (.int .i64 v2.2.2))), (29, .l (.d (.int .i64 x1.1))), (30, .l (.d (.int .i64 v2.2.2))), (36, .l (.d (.bool false)))], 49⟩], [(25, [.d (.sl (a0.map Face.enc)), .own 23])], [(10, 3, 1, v2.1.map (eI .i64)), (23, 3, 1, v3.1.map (eI .i64))]⟩) h (fun k9 hk9 h => ?_) (fun w9 h => ?_)
      · conv => whnf
        refine ixS (enc := Face.enc) h rfl (fun _ => rfl) (fun x10 h => ?_)
        conv => whnf
        refine ⟨8, ?_⟩
        conv => whnf
        refine dvS h (fun h => ?_)
        conv => whnf
        refine drS (by kernel_rfl) ?_
        conv => whnf
        refine jnS (fun w11 => ⟨[(0, .l (.ptr 25 0)), (1, .l (.d (.int .i64 v2.2.2))), (5, .l (.d (.int .i64 v8.1))), (6, .l (.d (.int .i64 v8.2.1))), (7, .l (.d (.int .i64 v8.2.2))), (9, .l (.d (.int .i64 (wr ((wr (v2.2.2 - (v2.2.2.tmod x10.P))) + x10.P))))), (13, .l (.d (.sl (a0.map Face.enc)))), (14, .l (.d (.int .i64 (a0.length : Int)))), (15, .l (.d (.int .i64 v8.2.2))), (45, .l (.d (.bool w11)))], 61, [⟨[(39, .l (.d (.int .i64 v2.2.2))), (38, .l (.mfn 41 25)), (37, .l (.own 10)), (36, .l (.d (.bool false))), (4, .l (.d (.int .i64 x1.1))), (7, .l (.mfn 40 25)), (8, .l (.mfn 41 25)), (9, .l (.own 10)), (10, .l (.d (.int .i64 v2.2.2))), (29, .l (.d (.int .i64 x1.1))), (30, .l (.d (.int .i64 v2.2.2))), (36, .l (.d (.bool false)))], 49⟩], [(25, [.d (.sl (a0.map Face.enc)), .own 23])], [(10, 3, 1, v2.1.map (eI .i64)), (23, 3, 1, v3.1.map (eI .i64))]⟩) h (fun k11 hk11 h => ?_) (fun w11 h => ?_)
        · conv => whnf
          refine ioS (enc := (eI .i64)) h rfl (fun h => ?_)
          conv => whnf
          refine oxS (enc := (eI .i64)) h rfl (fun x12 h => ?_)
          conv => whnf
          refine fkS h (fun h => ?_) (fun h => ?_)
          · conv => whnf
            refine fkS h (fun h => ?_) (fun h => ?_)
            · conv => whnf
              exact jeS hk11 h (Weak.refl _)
            conv => whnf
            exact jeS hk11 h (Weak.refl _)
          conv => whnf
          exact jeS hk11 h (Weak.refl _)
        conv => whnf
        refine fkS h (fun h => ?_) (fun h => ?_)
        · conv => whnf
          exact jeS hk9 h (Weak.refl _)
        conv => whnf
        refine jeX hk9 h ?_
        conv => whnf
        refine WkF.step (Weak.keepS _ [0, 1, 5, 6, 13, 14, 15]) ?_
        conv => whnf
        exact WkF.refl _
      conv => whnf
      exact leS hn8 h (Weak.refl _)
    conv => whnf
    refine fkS h (fun h => ?_) (fun h => ?_)
    · conv => whnf
      refine ioS (enc := (eI .i64)) h rfl (fun h => ?_)
      conv => whnf
      refine oxS (enc := (eI .i64)) h rfl (fun x13 h => ?_)
      conv => whnf
      refine ioS (enc := (eI .i64)) h rfl (fun h => ?_)
      conv => whnf
      refine seS (enc := (eI .i64)) h rfl (fun x14 => (wr (x13 - (1 : Int)))) (fun _ => rfl) (fun x14 h => ?_)
      conv => whnf
      refine liS ([v8.1] : List Int) (eI .i64) rfl rfl ?_
      conv => whnf
      refine apS (enc := (eI .i64)) (l1 := v2.1) (l2 := ([v8.1] : List Int)) h rfl rfl (fun _ => rfl) (fun h => ?_)
      conv => whnf
      exact leS hn2 h (Weak.refl _)
    conv => whnf
    refine liS ([v8.1] : List Int) (eI .i64) rfl rfl ?_
    conv => whnf
    refine apS (enc := (eI .i64)) (l1 := v2.1) (l2 := ([v8.1] : List Int)) h rfl rfl (fun _ => rfl) (fun h => ?_)
    conv => whnf
    exact leS hn2 h (Weak.refl _)
  conv => whnf
  refine inS (fn := Tryz.f40) tab ⟨[(0, [0, 1]), (1, [0, 1, 10, 11, 12]), (2, [0, 1, 10, 11, 12, 13]), (3, [0, 1, 5, 6, 10, 11, 12]), (4, [0, 1, 5, 6, 10, 11, 12, 21]), (5, [0, 1, 5, 6, 10, 11, 12, 29]), (6, [4]), (7, [0, 1, 10, 11, 12]), (8, [0, 1, 10, 11, 12]), (9, [4])], [], [8], []⟩ 39 [.tmp 4] rfl rfl rfl rfl rfl rfl ?_
  conv => whnf
  refine lenS a0 Face.enc rfl ?_
  conv => whnf
  refine lpS (fun v15 => ⟨[(0, .l (.ptr 25 0)), (1, .l (.d (.int .i64 x1.1))), (10, .l (.d (.sl (a0.map Face.enc)))), (11, .l (.d (.int .i64 (a0.length : Int)))), (12, .l (.d (.int .i64 v15.2)))], 39, [⟨[(45, .l (.d (.int .i64 x1.1))), (44, .l (.mfn 40 25)), (31, .l (.d (.bool false))), (4, .l (.d (.int .i64 x1.1))), (7, .l (.mfn 40 25)), (8, .l (.mfn 41 25)), (9, .l (.own 10)), (29, .l (.d (.int .i64 x1.1))), (30, .l (.d (.int .i64 v2.2.2))), (31, .l (.d (.bool (decide (v2.2.2 < x1.1)))))], 49⟩], [(25, [.d (.sl (a0.map Face.enc)), .own 23])], [(10, 3, 1, v2.1.map (eI .i64)), (23, 3, 1, v15.1.map (eI .i64))]⟩) h (Weak.refl _) (fun _ nx15 hn15 v15 h => ?_)
  conv => whnf
  refine fkS h (fun h => ?_) (fun h => ?_)
  · conv => whnf
    refine jnS (fun w16 => ⟨[(0, .l (.ptr 25 0)), (1, .l (.d (.int .i64 x1.1))), (10, .l (.d (.sl (a0.map Face.enc)))), (11, .l (.d (.int .i64 (a0.length : Int)))), (12, .l (.d (.int .i64 v15.2)))], 39, [⟨[(45, .l (.d (.int .i64 x1.1))), (44, .l (.mfn 40 25)), (31, .l (.d (.bool false))), (4, .l (.d (.int .i64 x1.1))), (7, .l (.mfn 40 25)), (8, .l (.mfn 41 25)), (9, .l (.own 10)), (29, .l (.d (.int .i64 x1.1))), (30, .l (.d (.int .i64 v2.2.2))), (31, .l (.d (.bool (decide (v2.2.2 < x1.1)))))], 49⟩], [(25, [.d (.sl (a0.map Face.enc)), .own 23])], [(10, 3, 1, v2.1.map (eI .i64)), (23, 3, 1, w16.map (eI .i64))]⟩) h (fun k16 hk16 h => ?_) (fun w16 h => ?_)
    · conv => whnf
      refine ixS (enc := Face.enc) h rfl (fun _ => rfl) (fun x17 h => ?_)
      conv => whnf
      refine dvS h (fun h => ?_)
      conv => whnf
      refine fkS h (fun h => ?_) (fun h => ?_)
      · conv => whnf
        refine jeX hk16 h ?_
        conv => whnf
        refine WkF.step (Weak.keepS _ [0, 1, 10, 11, 12]) ?_
        conv => whnf
        exact WkF.refl _
      conv => whnf
      refine ioS (enc := (eI .i64)) h rfl (fun h => ?_)
      conv => whnf
      refine oxS (enc := (eI .i64)) h rfl (fun x18 h => ?_)
      conv => whnf
      refine fkS h (fun h => ?_) (fun h => ?_)
      · conv => whnf
        exact rt (E := E_ListInt_Int) h rfl
      conv => whnf
      refine ⟨7, ?_⟩
      conv => whnf
      refine drS (by kernel_rfl) ?_
      conv => whnf
      refine ioS (enc := (eI .i64)) h rfl (fun h => ?_)
      conv => whnf
      refine seS (enc := (eI .i64)) h rfl (fun x19 => x17.B) (fun _ => rfl) (fun x19 h => ?_)
      conv => whnf
      exact jeS hk16 h (Weak.refl _)
    conv => whnf
    exact leS hn15 h (Weak.refl _)
  conv => whnf
  exact rt (E := E_ListInt_Int) h rfl

end Go.Proofs.YtpephpefjddgcaaGreat
namespace Go.Proofs.YtpephpefjddgcaaGreat
open Go Go.VC
noncomputable def table_may (a0 : Window) (a1 : Int) : Option Bool :=
  fk (decide (a0.Part ≥ (0 : Int))) (fk (decide (a0.Part < (4 : Int))) (fk (decide (a0.From ≥ (0 : Int))) (fk (decide (a0.From < a1)) (fk (decide (a0.Len ≥ (1 : Int))) (some (decide (a0.Len ≤ (wr (a1 - a0.From))))) (some false)) (some false)) (some false)) (some false)) (some false)
theorem table_may_w (a0 : Window) (a1 : Int) (r : Bool) (h : table_may a0 a1 = some r) : Go.VC.Spec Tryz.prog 65 [.agg (Window.enc a0), .d (.int .i64 a1)] (fun y => y = E_Bool r) := by
  refine Go.VC.Spec.of_xc (args := [.agg (Window.enc a0), .d (.int .i64 a1)]) (fn := Tryz.f65) tab ⟨[(0, [1, 2]), (1, [4])], [], [], []⟩ 38 [.tmp 4] rfl rfl rfl rfl rfl rfl ?_
  conv => whnf
  refine fkS h (fun h => ?_) (fun h => ?_)
  · conv => whnf
    refine fkS h (fun h => ?_) (fun h => ?_)
    · conv => whnf
      refine fkS h (fun h => ?_) (fun h => ?_)
      · conv => whnf
        refine fkS h (fun h => ?_) (fun h => ?_)
        · conv => whnf
          refine fkS h (fun h => ?_) (fun h => ?_)
          · conv => whnf
            exact rt (E := E_Bool) h rfl
          conv => whnf
          exact rt (E := E_Bool) h rfl
        conv => whnf
        exact rt (E := E_Bool) h rfl
      conv => whnf
      exact rt (E := E_Bool) h rfl
    conv => whnf
    exact rt (E := E_Bool) h rfl
  conv => whnf
  exact rt (E := E_Bool) h rfl

end Go.Proofs.YtpephpefjddgcaaGreat
namespace Go.Proofs.YtpephpefjddgcaaGreat
open Go Go.VC
noncomputable def table_Right (a0 : TableTable) : Option Bool :=
  lp (fun nx1 (v1 : Int × Int × Int) => fk (decide (v1.2.2 < (a0.Windows.length : Int))) (ix a0.Windows v1.2.2 fun x2 => jn (fun (w3 : Bool) => fk w3 (some false) (nx1 ((wr (x2.From + x2.Len)), x2.Part, (wr (v1.2.2 + (1 : Int)))))) (fun k3 => bnd (table_may x2 a0.Frame) fun x4 => fk (!x4) (k3 true) (fk (decide (x2.From < v1.1)) (k3 true) (fk (decide (x2.From = v1.1)) (k3 (decide (x2.Part = v1.2.1))) (k3 false))))) (fk (decide (a0.Frame ≥ (1 : Int))) (some (decide (a0.Frame ≤ (240 : Int)))) (some false))) FU ((0 : Int), (-1 : Int), (0 : Int))
theorem table_Right_w (a0 : TableTable) (r : Bool) (h : table_Right a0 = some r) : Go.VC.Spec Tryz.prog 43 [.agg (TableTable.enc a0)] (fun y => y = E_Bool r) := by
  refine Go.VC.Spec.of_xc (args := [.agg (TableTable.enc a0)]) (fn := Tryz.f43) tab ⟨[(0, [1]), (1, [1, 3, 4]), (2, [1, 3, 4, 8, 9, 10]), (3, [1, 3, 4, 8, 9, 10, 11]), (4, [1, 3, 4, 6, 8, 9, 10]), (5, [1, 6, 8, 9, 10, 36]), (6, [2]), (7, [1, 3, 4, 8, 9, 10]), (8, [1, 3, 4, 8, 9, 10]), (9, [2])], [], [100036], []⟩ 53 [.tmp 2] rfl rfl rfl rfl rfl rfl ?_
  conv => whnf
  refine lenS a0.Windows Window.enc rfl ?_
  conv => whnf
  refine lpS (fun v1 => ⟨[(1, .l (.ptr 2 0)), (3, .l (.d (.int .i64 v1.1))), (4, .l (.d (.int .i64 v1.2.1))), (8, .l (.d (.sl (a0.Windows.map Window.enc)))), (9, .l (.d (.int .i64 (a0.Windows.length : Int)))), (10, .l (.d (.int .i64 v1.2.2)))], 53, [], [(2, [.d (.int .i64 a0.Frame), .d (.sl (a0.Windows.map Window.enc))])], []⟩) h (Weak.refl _) (fun _ nx1 hn1 v1 h => ?_)
  conv => whnf
  refine fkS h (fun h => ?_) (fun h => ?_)
  · conv => whnf
    refine ixS (enc := Window.enc) h rfl (fun _ => rfl) (fun x2 h => ?_)
    conv => whnf
    refine jnS (fun w3 => ⟨[(1, .l (.ptr 2 0)), (6, .l (.ptr 7 0)), (8, .l (.d (.sl (a0.Windows.map Window.enc)))), (9, .l (.d (.int .i64 (a0.Windows.length : Int)))), (10, .l (.d (.int .i64 v1.2.2))), (36, .l (.d (.bool w3)))], 53, [], [(2, [.d (.int .i64 a0.Frame), .d (.sl (a0.Windows.map Window.enc))]), (7, [.d (.int .i64 x2.Part), .d (.int .i64 x2.From), .d (.int .i64 x2.Len)])], []⟩) h (fun k3 hk3 h => ?_) (fun w3 h => ?_)
    · conv => whnf
      refine caS (E := E_Bool) h (table_may_w x2 a0.Frame) rfl (fun _ => rfl) (fun x4 h => ?_)
      conv => whnf
      refine fkS h (fun h => ?_) (fun h => ?_)
      · conv => whnf
        exact jeS hk3 h (Weak.refl _)
      conv => whnf
      refine fkS h (fun h => ?_) (fun h => ?_)
      · conv => whnf
        exact jeS hk3 h (Weak.refl _)
      conv => whnf
      refine fkS h (fun h => ?_) (fun h => ?_)
      · conv => whnf
        exact jeS hk3 h (Weak.refl _)
      conv => whnf
      exact jeS hk3 h (Weak.refl _)
    conv => whnf
    refine fkS h (fun h => ?_) (fun h => ?_)
    · conv => whnf
      exact rt (E := E_Bool) h rfl
    conv => whnf
    refine ⟨8, ?_⟩
    conv => whnf
    refine drS (by kernel_rfl) ?_
    conv => whnf
    exact leS hn1 h (Weak.refl _)
  conv => whnf
  refine fkS h (fun h => ?_) (fun h => ?_)
  · conv => whnf
    exact rt (E := E_Bool) h rfl
  conv => whnf
  exact rt (E := E_Bool) h rfl

end Go.Proofs.YtpephpefjddgcaaGreat
namespace Go.Proofs.YtpephpefjddgcaaGreat
open Go Go.VC
noncomputable def table_At (a0 : TableTable) (a1 : Int) : Option Int :=
  jn (fun (w1 : Bool) => fk w1 (some (-1 : Int)) (ck (decide (a0.Frame ≠ 0)) (lp (fun nx3 (v3 : Int) => fk (decide (v3 < (a0.Windows.length : Int))) (ix a0.Windows v3 fun x4 => jn (fun (w5 : Bool) => fk w5 (some x4.Part) (nx3 (wr (v3 + (1 : Int))))) (fun k5 => fk (decide ((a1.tmod a0.Frame) ≥ x4.From)) (k5 (decide ((a1.tmod a0.Frame) < (wr (x4.From + x4.Len))))) (k5 false))) (some (-1 : Int))) FU (0 : Int)))) (fun k1 => bnd (table_Right a0) fun x2 => fk (!x2) (k1 true) (k1 (decide (a1 < (0 : Int)))))
theorem table_At_w (a0 : TableTable) (a1 : Int) (r : Int) (h : table_At a0 a1 = some r) : Go.VC.Spec Tryz.prog 55 [.agg (TableTable.enc a0), .d (.int .i64 a1)] (fun y => y = E_Int r) := by
  refine Go.VC.Spec.of_xc (args := [.agg (TableTable.enc a0), .d (.int .i64 a1)]) (fn := Tryz.f55) tab ⟨[(0, [1, 2]), (1, [1, 2, 13]), (2, [4]), (3, [1, 2]), (4, [1, 19, 20, 21]), (5, [1, 19, 20, 21, 22]), (6, [1, 6, 19, 20, 21]), (7, [1, 6, 19, 20, 21, 37]), (8, [4]), (9, [1, 19, 20, 21]), (10, [4])], [], [100013, 100037], []⟩ 41 [.tmp 4] rfl rfl rfl rfl rfl rfl ?_
  conv => whnf
  refine jnS (fun w1 => ⟨[(1, .l (.d (.int .i64 a1))), (2, .l (.ptr 3 0)), (13, .l (.d (.bool w1)))], 41, [], [(3, [.d (.int .i64 a0.Frame), .d (.sl (a0.Windows.map Window.enc))])], []⟩) h (fun k1 hk1 h => ?_) (fun w1 h => ?_)
  · conv => whnf
    refine caS (E := E_Bool) h (table_Right_w a0) rfl (fun _ => rfl) (fun x2 h => ?_)
    conv => whnf
    refine fkS h (fun h => ?_) (fun h => ?_)
    · conv => whnf
      exact jeS hk1 h (Weak.refl _)
    conv => whnf
    exact jeS hk1 h (Weak.refl _)
  conv => whnf
  refine fkS h (fun h => ?_) (fun h => ?_)
  · conv => whnf
    exact rt (E := E_Int) h rfl
  conv => whnf
  refine dvS h (fun h => ?_)
  conv => whnf
  refine lenS a0.Windows Window.enc rfl ?_
  conv => whnf
  refine lpS (fun v3 => ⟨[(1, .l (.d (.int .i64 (a1.tmod a0.Frame)))), (19, .l (.d (.sl (a0.Windows.map Window.enc)))), (20, .l (.d (.int .i64 (a0.Windows.length : Int)))), (21, .l (.d (.int .i64 v3)))], 41, [], [], []⟩) h (Weak.refl _) (fun _ nx3 hn3 v3 h => ?_)
  conv => whnf
  refine fkS h (fun h => ?_) (fun h => ?_)
  · conv => whnf
    refine ixS (enc := Window.enc) h rfl (fun _ => rfl) (fun x4 h => ?_)
    conv => whnf
    refine jnS (fun w5 => ⟨[(1, .l (.d (.int .i64 (a1.tmod a0.Frame)))), (6, .l (.ptr 7 0)), (19, .l (.d (.sl (a0.Windows.map Window.enc)))), (20, .l (.d (.int .i64 (a0.Windows.length : Int)))), (21, .l (.d (.int .i64 v3))), (37, .l (.d (.bool w5)))], 41, [], [(7, [.d (.int .i64 x4.Part), .d (.int .i64 x4.From), .d (.int .i64 x4.Len)])], []⟩) h (fun k5 hk5 h => ?_) (fun w5 h => ?_)
    · conv => whnf
      refine fkS h (fun h => ?_) (fun h => ?_)
      · conv => whnf
        exact jeS hk5 h (Weak.refl _)
      conv => whnf
      exact jeS hk5 h (Weak.refl _)
    conv => whnf
    refine fkS h (fun h => ?_) (fun h => ?_)
    · conv => whnf
      exact rt (E := E_Int) h rfl
    conv => whnf
    exact leS hn3 h (Weak.refl _)
  conv => whnf
  exact rt (E := E_Int) h rfl

end Go.Proofs.YtpephpefjddgcaaGreat
namespace Go.Proofs.YtpephpefjddgcaaGreat
open Go Go.VC
noncomputable def table_Of (a0 : List Int) : Option (TableTable × Int) :=
  jn (fun (w1 : Bool) => fk w1 (some (⟨(0 : Int), []⟩, (1 : Int))) (lp (fun nx2 (v2 : Int × (List Window) × Int) => fk (decide (v2.2.2 < (a0.length : Int))) (ix a0 v2.2.2 fun x3 => jn (fun (w4 : Bool) => fk w4 (some (⟨(0 : Int), []⟩, (1 : Int))) (jn (fun (w5 : List Window) => nx2 (x3, w5, (wr (v2.2.2 + (1 : Int))))) (fun k5 => jn (fun (w6 : Bool) => fk w6 (ck (decide (0 ≤ (wr ((v2.2.1.length : Int) - (1 : Int)))) && decide ((wr ((v2.2.1.length : Int) - (1 : Int))) < (v2.2.1.length : Int))) (ox v2.2.1 ((wr ((v2.2.1.length : Int) - (1 : Int))).toNat) fun x7 => ck (decide (0 ≤ (wr ((v2.2.1.length : Int) - (1 : Int)))) && decide ((wr ((v2.2.1.length : Int) - (1 : Int))) < (v2.2.1.length : Int))) (ox v2.2.1 ((wr ((v2.2.1.length : Int) - (1 : Int))).toNat) fun x8 => k5 (v2.2.1.set ((wr ((v2.2.1.length : Int) - (1 : Int))).toNat) ⟨x8.Part, x8.From, (wr (x7.Len + (1 : Int)))⟩)))) (fk (!decide (x3 = (-1 : Int))) (ck (decide ((v2.2.1.length + ([⟨x3, v2.2.2, (1 : Int)⟩] : List Window).length) * 24 ≤ 140737488355328)) (k5 (v2.2.1 ++ ([⟨x3, v2.2.2, (1 : Int)⟩] : List Window)))) (k5 v2.2.1))) (fun k6 => fk (decide (x3 = v2.1)) (k6 (!decide (x3 = (-1 : Int)))) (k6 false))))) (fun k4 => fk (decide (x3 < (-1 : Int))) (k4 true) (k4 (decide (x3 ≥ (4 : Int)))))) (some (⟨(a0.length : Int), v2.2.1⟩, (0 : Int)))) FU ((-1 : Int), [], (0 : Int)))) (fun k1 => fk (decide ((a0.length : Int) = (0 : Int))) (k1 true) (k1 (decide ((a0.length : Int) > (240 : Int)))))
theorem table_Of_w (a0 : List Int) (r : TableTable × Int) (h : table_Of a0 = some r) : Go.VC.Spec Tryz.prog 26 [.d (.sl (a0.map (eI .i64)))] (fun y => y = E_TableTable_Int r) := by
  refine Go.VC.Spec.of_xc (args := [.d (.sl (a0.map (eI .i64)))]) (fn := Tryz.f26) tab ⟨[(0, [0, 2]), (1, [0, 2, 16]), (2, [2, 3]), (3, [0, 2, 4]), (4, [0, 2, 4, 5]), (5, [0, 2, 4, 6]), (6, [2, 4, 6, 22, 23, 24]), (7, [2, 4, 6, 22, 23, 24, 25]), (8, [2, 4, 6, 7, 8, 22, 23, 24]), (9, [2, 4, 6, 7, 8, 22, 23, 24, 34]), (10, [2, 3]), (11, [2, 4, 6, 22, 23, 24]), (12, [2, 4, 6, 22, 23, 24]), (13, [2, 3])], [], [100016, 100034], []⟩ 42 [.cell 2 43, .tmp 3] rfl rfl rfl rfl rfl rfl ?_
  conv => whnf
  refine jnS (fun w1 => ⟨[(0, .l (.d (.sl (a0.map (eI .i64))))), (2, .l (.ptr 3 0)), (16, .l (.d (.bool w1)))], 42, [], [(3, [.d (.int .i64 (0 : Int)), .nil])], []⟩) h (fun k1 hk1 h => ?_) (fun w1 h => ?_)
  · conv => whnf
    refine lenS a0 (eI .i64) rfl ?_
    conv => whnf
    refine fkS h (fun h => ?_) (fun h => ?_)
    · conv => whnf
      exact jeS hk1 h (Weak.refl _)
    conv => whnf
    refine lenS a0 (eI .i64) rfl ?_
    conv => whnf
    exact jeS hk1 h (Weak.refl _)
  conv => whnf
  refine fkS h (fun h => ?_) (fun h => ?_)
  · conv => whnf
    exact rt (E := E_TableTable_Int) h rfl
  conv => whnf
  refine lenS a0 (eI .i64) rfl ?_
  conv => whnf
  refine lenS a0 (eI .i64) rfl ?_
  conv => whnf
  refine lpS (fun v2 => ⟨[(2, .l (.ptr 3 0)), (4, .l (.ptr 5 0)), (6, .l (.func 42 [.k 6, .k 5])), (22, .l (.d (.sl (a0.map (eI .i64))))), (23, .l (.d (.int .i64 (a0.length : Int)))), (24, .l (.d (.int .i64 v2.2.2)))], 42, [], [(3, [.d (.int .i64 (0 : Int)), .nil]), (5, [.d (.int .i64 (a0.length : Int)), .own 50501]), (6, [.d (.int .i64 v2.1)])], [(50501, 112, 3, v2.2.1.map Window.enc)]⟩) h (Weak.trans (Weak.nilBO _ 5 1 50501 112 3 _ rfl rfl) (Weak.refl _)) (fun _ nx2 hn2 v2 h => ?_)
  conv => whnf
  refine fkS h (fun h => ?_) (fun h => ?_)
  · conv => whnf
    refine ixS (enc := (eI .i64)) h rfl (fun _ => rfl) (fun x3 h => ?_)
    conv => whnf
    refine jnS (fun w4 => ⟨[(2, .l (.ptr 3 0)), (4, .l (.ptr 5 0)), (6, .l (.func 42 [.k 6, .k 5])), (7, .l (.d (.int .i64 v2.2.2))), (8, .l (.d (.int .i64 x3))), (22, .l (.d (.sl (a0.map (eI .i64))))), (23, .l (.d (.int .i64 (a0.length : Int)))), (24, .l (.d (.int .i64 v2.2.2))), (34, .l (.d (.bool w4)))], 42, [], [(3, [.d (.int .i64 (0 : Int)), .nil]), (5, [.d (.int .i64 (a0.length : Int)), .own 50501]), (6, [.d (.int .i64 v2.1)])], [(50501, 112, 3, v2.2.1.map Window.enc)]⟩) h (fun k4 hk4 h => ?_) (fun w4 h => ?_)
    · conv => whnf
      refine fkS h (fun h => ?_) (fun h => ?_)
      · conv => whnf
        exact jeS hk4 h (Weak.refl _)
      conv => whnf
      exact jeS hk4 h (Weak.refl _)
    conv => whnf
    refine fkS h (fun h => ?_) (fun h => ?_)
    · conv => whnf
      exact rt (E := E_TableTable_Int) h rfl
    conv => whnf
    refine inS (fn := Tryz.f42) tab ⟨[(0, [0, 1, 2, 3, 12]), (1, [1, 2]), (2, [0, 1, 2, 3, 26]), (3, [1, 2]), (4, [])], [], [100012, 4], []⟩ 36 [] rfl rfl rfl rfl rfl rfl ?_
    conv => whnf
    refine jnS (fun w5 => ⟨[(1, .l (.d (.int .i64 x3))), (2, .l (.ptr 6 0))], 36, [⟨[(38, .l (.d (.int .i64 x3))), (37, .l (.d (.int .i64 v2.2.2))), (36, .l (.func 42 [.k 6, .k 5])), (34, .l (.d (.bool false))), (2, .l (.ptr 3 0)), (4, .l (.ptr 5 0)), (6, .l (.func 42 [.k 6, .k 5])), (7, .l (.d (.int .i64 v2.2.2))), (8, .l (.d (.int .i64 x3))), (22, .l (.d (.sl (a0.map (eI .i64))))), (23, .l (.d (.int .i64 (a0.length : Int)))), (24, .l (.d (.int .i64 v2.2.2))), (34, .l (.d (.bool w4)))], 42⟩], [(3, [.d (.int .i64 (0 : Int)), .nil]), (5, [.d (.int .i64 (a0.length : Int)), .own 50501]), (6, [.d (.int .i64 v2.1)])], [(50501, 112, 3, w5.map Window.enc)]⟩) h (fun k5 hk5 h => ?_) (fun w5 h => ?_)
    · conv => whnf
      refine jnS (fun w6 => ⟨[(0, .l (.d (.int .i64 v2.2.2))), (1, .l (.d (.int .i64 x3))), (2, .l (.ptr 6 0)), (3, .l (.ptr 5 0)), (12, .l (.d (.bool w6)))], 36, [⟨[(38, .l (.d (.int .i64 x3))), (37, .l (.d (.int .i64 v2.2.2))), (36, .l (.func 42 [.k 6, .k 5])), (34, .l (.d (.bool false))), (2, .l (.ptr 3 0)), (4, .l (.ptr 5 0)), (6, .l (.func 42 [.k 6, .k 5])), (7, .l (.d (.int .i64 v2.2.2))), (8, .l (.d (.int .i64 x3))), (22, .l (.d (.sl (a0.map (eI .i64))))), (23, .l (.d (.int .i64 (a0.length : Int)))), (24, .l (.d (.int .i64 v2.2.2))), (34, .l (.d (.bool w4)))], 42⟩], [(3, [.d (.int .i64 (0 : Int)), .nil]), (5, [.d (.int .i64 (a0.length : Int)), .own 50501]), (6, [.d (.int .i64 v2.1)])], [(50501, 112, 3, v2.2.1.map Window.enc)]⟩) h (fun k6 hk6 h => ?_) (fun w6 h => ?_)
      · conv => whnf
        refine fkS h (fun h => ?_) (fun h => ?_)
        · conv => whnf
          exact jeS hk6 h (Weak.refl _)
        conv => whnf
        exact jeS hk6 h (Weak.refl _)
      conv => whnf
      refine fkS h (fun h => ?_) (fun h => ?_)
      · conv => whnf
        refine lenS v2.2.1 Window.enc rfl ?_
        conv => whnf
        refine ioS (enc := Window.enc) h rfl (fun h => ?_)
        conv => whnf
        refine oxS (enc := Window.enc) h rfl (fun x7 h => ?_)
        conv => whnf
        refine ioS (enc := Window.enc) h rfl (fun h => ?_)
        conv => whnf
        refine seS (enc := Window.enc) h rfl (fun x8 => ⟨x8.Part, x8.From, (wr (x7.Len + (1 : Int)))⟩) (fun _ => rfl) (fun x8 h => ?_)
        conv => whnf
        exact jeS hk5 h (Weak.refl _)
      conv => whnf
      refine fkS h (fun h => ?_) (fun h => ?_)
      · conv => whnf
        refine liS ([⟨x3, v2.2.2, (1 : Int)⟩] : List Window) Window.enc rfl rfl ?_
        conv => whnf
        refine apS (enc := Window.enc) (l1 := v2.2.1) (l2 := ([⟨x3, v2.2.2, (1 : Int)⟩] : List Window)) h rfl rfl (fun _ => rfl) (fun h => ?_)
        conv => whnf
        refine jeX hk5 h ?_
        conv => whnf
        refine WkF.step (Weak.rekey _ 1034 50501 rfl) ?_
        conv => whnf
        exact WkF.refl _
      conv => whnf
      refine jeX hk5 h ?_
      conv => whnf
      refine WkF.step (Weak.keepS _ [1, 2]) ?_
      conv => whnf
      exact WkF.refl _
    conv => whnf
    exact leS hn2 h (Weak.refl _)
  conv => whnf
  exact rt (E := E_TableTable_Int) h rfl

end Go.Proofs.YtpephpefjddgcaaGreat
namespace Go.Proofs.YtpephpefjddgcaaGreat
open Go Go.VC
noncomputable def law05_Great (a0 : List Task) : Option Bool :=
  lp (fun nx1 (v1 : Int) => fk (decide (v1 < (a0.length : Int))) (ix a0 v1 fun x2 => fk (decide ((x2.Secs.length : Int) > (20 : Int))) (some true) (nx1 (wr (v1 + (1 : Int))))) (some (decide ((a0.length : Int) > (20 : Int))))) FU (0 : Int)
theorem law05_Great_w (a0 : List Task) (r : Bool) (h : law05_Great a0 = some r) : Go.VC.Spec Tryz.prog 5 [.d (.sl (a0.map Task.enc))] (fun y => y = E_Bool r) := by
  refine Go.VC.Spec.of_xc (args := [.d (.sl (a0.map Task.enc))]) (fn := Tryz.f5) tab ⟨[(0, [0]), (1, [0, 3]), (2, [0, 3, 7]), (3, [0, 3]), (4, [0, 3, 16]), (5, [2]), (6, [2])], [], [], []⟩ 20 [.tmp 2] rfl rfl rfl rfl rfl rfl ?_
  conv => whnf
  refine lpS (fun v1 => ⟨[(0, .l (.d (.sl (a0.map Task.enc)))), (3, .l (.d (.int .i64 v1)))], 20, [], [], []⟩) h (Weak.refl _) (fun _ nx1 hn1 v1 h => ?_)
  conv => whnf
  refine lenS a0 Task.enc rfl ?_
  conv => whnf
  refine fkS h (fun h => ?_) (fun h => ?_)
  · conv => whnf
    refine ixS (enc := Task.enc) h rfl (fun _ => rfl) (fun x2 h => ?_)
    conv => whnf
    refine lenS x2.Secs Sec.enc rfl ?_
    conv => whnf
    refine fkS h (fun h => ?_) (fun h => ?_)
    · conv => whnf
      exact rt (E := E_Bool) h rfl
    conv => whnf
    exact leS hn1 h (Weak.refl _)
  conv => whnf
  refine lenS a0 Task.enc rfl ?_
  conv => whnf
  exact rt (E := E_Bool) h rfl

end Go.Proofs.YtpephpefjddgcaaGreat
namespace Go.Proofs.YtpephpefjddgcaaGreat
open Go Go.VC
noncomputable def level_level (a0 : List Task) (a1 : Task) : Option Int :=
  lp (fun nx1 (v1 : Int × Int) => fk (decide (v1.2 < (a0.length : Int))) (jn (fun (w2 : Int) => nx1 (w2, (wr (v1.2 + (1 : Int))))) (fun k2 => ix a0 v1.2 fun x3 => fk (decide (x3.D > a1.D)) (k2 (wr (v1.1 + (1 : Int)))) (k2 v1.1))) (some v1.1)) FU ((1 : Int), (0 : Int))
theorem level_level_w (a0 : List Task) (a1 : Task) (r : Int) (h : level_level a0 a1 = some r) : Go.VC.Spec Tryz.prog 140 [.d (.sl (a0.map Task.enc)), .agg (Task.enc a1)] (fun y => y = E_Int r) := by
  refine Go.VC.Spec.of_xc (args := [.d (.sl (a0.map Task.enc)), .agg (Task.enc a1)]) (fn := Tryz.f140) tab ⟨[(0, [0, 3]), (1, [0, 3, 5]), (2, [3, 5, 8, 9, 10]), (3, [3, 5, 8, 9, 10, 11]), (4, [3, 5, 7, 8, 9, 10]), (5, [3, 5, 8, 9, 10, 18]), (6, [3, 5, 8, 9, 10]), (7, [3, 5, 8, 9, 10]), (8, [4])], [], [7], []⟩ 23 [.tmp 4] rfl rfl rfl rfl rfl rfl ?_
  conv => whnf
  refine lenS a0 Task.enc rfl ?_
  conv => whnf
  refine lpS (fun v1 => ⟨[(3, .l (.ptr 4 0)), (5, .l (.d (.int .i64 v1.1))), (8, .l (.d (.sl (a0.map Task.enc)))), (9, .l (.d (.int .i64 (a0.length : Int)))), (10, .l (.d (.int .i64 v1.2)))], 23, [], [(4, [.d (.int .i64 a1.C), .d (.int .i64 a1.D), .d (.int .i64 a1.T), .d (.sl (a1.Secs.map Sec.enc))])], []⟩) h (Weak.refl _) (fun _ nx1 hn1 v1 h => ?_)
  conv => whnf
  refine fkS h (fun h => ?_) (fun h => ?_)
  · conv => whnf
    refine jnS (fun w2 => ⟨[(3, .l (.ptr 4 0)), (5, .l (.d (.int .i64 w2))), (8, .l (.d (.sl (a0.map Task.enc)))), (9, .l (.d (.int .i64 (a0.length : Int)))), (10, .l (.d (.int .i64 v1.2)))], 23, [], [(4, [.d (.int .i64 a1.C), .d (.int .i64 a1.D), .d (.int .i64 a1.T), .d (.sl (a1.Secs.map Sec.enc))])], []⟩) h (fun k2 hk2 h => ?_) (fun w2 h => ?_)
    · conv => whnf
      refine ixS (enc := Task.enc) h rfl (fun _ => rfl) (fun x3 h => ?_)
      conv => whnf
      refine fkS h (fun h => ?_) (fun h => ?_)
      · conv => whnf
        exact jeS hk2 h (Weak.refl _)
      conv => whnf
      refine jeX hk2 h ?_
      conv => whnf
      refine WkF.step (Weak.keepS _ [3, 5, 8, 9, 10]) ?_
      conv => whnf
      exact WkF.refl _
    conv => whnf
    exact leS hn1 h (Weak.refl _)
  conv => whnf
  exact rt (E := E_Int) h rfl

end Go.Proofs.YtpephpefjddgcaaGreat
namespace Go.Proofs.YtpephpefjddgcaaGreat
open Go Go.VC
noncomputable def level_Ceiling_1 (a0 : Task) (a1 : Int) (a2 : List Task) : Option Int :=
  bnd (task_Uses a0 a1) fun x1 => fk (!x1) (some (0 : Int)) (bnd (level_level a2 a0) fun x2 => some x2)
theorem level_Ceiling_1_w (a0 : Task) (a1 : Int) (a2 : List Task) (r : Int) (h : level_Ceiling_1 a0 a1 a2 = some r) : Go.VC.Spec Tryz.prog 145 [.agg (Task.enc a0), .dp [.int .i64 a1], .dp [.sl (a2.map Task.enc)]] (fun y => y = E_Int r) := by
  refine Go.VC.Spec.of_xc (args := [.agg (Task.enc a0), .dp [.int .i64 a1], .dp [.sl (a2.map Task.enc)]]) (fn := Tryz.f145) tab ⟨[(0, [1, 2, 3]), (1, [2, 3, 8]), (2, [4]), (3, [4])], [], [], []⟩ 12 [.tmp 4] rfl rfl rfl rfl rfl rfl ?_
  conv => whnf
  refine caS (E := E_Bool) h (task_Uses_w a0 a1) rfl (fun _ => rfl) (fun x1 h => ?_)
  conv => whnf
  refine fkS h (fun h => ?_) (fun h => ?_)
  · conv => whnf
    exact rt (E := E_Int) h rfl
  conv => whnf
  refine caS (E := E_Int) h (level_level_w a2 a0) rfl (fun _ => rfl) (fun x2 h => ?_)
  conv => whnf
  exact rt (E := E_Int) h rfl

end Go.Proofs.YtpephpefjddgcaaGreat
namespace Go.Proofs.YtpephpefjddgcaaGreat
open Go Go.VC
noncomputable def level_most_api_Task (a0 : List Task) (a1 : Int) (a2 : List Task) : Option Int :=
  lp (fun nx1 (v1 : Int × Int) => fk (decide (v1.2 < (a0.length : Int))) (ix a0 v1.2 fun x2 => bnd (level_Ceiling_1 x2 a1 a2) fun x3 => nx1 ((if x3 > v1.1 then x3 else v1.1), (wr (v1.2 + (1 : Int))))) (some v1.1)) FU ((0 : Int), (0 : Int))
theorem level_most_api_Task_w (a0 : List Task) (a1 : Int) (a2 : List Task) (r : Int) (h : level_most_api_Task a0 a1 a2 = some r) : Go.VC.Spec Tryz.prog 144 [.d (.sl (a0.map Task.enc)), .d (.fn 145 [[.int .i64 a1], [.sl (a2.map Task.enc)]])] (fun y => y = E_Int r) := by
  refine Go.VC.Spec.of_xc (args := [.d (.sl (a0.map Task.enc)), .d (.fn 145 [[.int .i64 a1], [.sl (a2.map Task.enc)]])]) (fn := Tryz.f144) tab ⟨[(0, [0, 1]), (1, [0, 1, 5]), (2, [1, 5, 8, 9, 10]), (3, [1, 5, 8, 9, 10, 11]), (4, [1, 5, 7, 8, 9, 10]), (5, [1, 5, 8, 9, 10]), (6, [1, 5, 8, 9, 10]), (7, [4])], [], [], []⟩ 21 [.tmp 4] rfl rfl rfl rfl rfl rfl ?_
  conv => whnf
  refine lenS a0 Task.enc rfl ?_
  conv => whnf
  refine lpS (fun v1 => ⟨[(1, .l (.d (.fn 145 [[.int .i64 a1], [.sl (a2.map Task.enc)]]))), (5, .l (.d (.int .i64 v1.1))), (8, .l (.d (.sl (a0.map Task.enc)))), (9, .l (.d (.int .i64 (a0.length : Int)))), (10, .l (.d (.int .i64 v1.2)))], 21, [], [], []⟩) h (Weak.refl _) (fun _ nx1 hn1 v1 h => ?_)
  conv => whnf
  refine fkS h (fun h => ?_) (fun h => ?_)
  · conv => whnf
    refine ixS (enc := Task.enc) h rfl (fun _ => rfl) (fun x2 h => ?_)
    conv => whnf
    refine caS (E := E_Int) h (level_Ceiling_1_w x2 a1 a2) rfl (fun _ => rfl) (fun x3 h => ?_)
    conv => whnf
    exact leS hn1 h (Weak.refl _)
  conv => whnf
  exact rt (E := E_Int) h rfl

end Go.Proofs.YtpephpefjddgcaaGreat
namespace Go.Proofs.YtpephpefjddgcaaGreat
open Go Go.VC
noncomputable def level_Ceiling (a0 : List Task) (a1 : Int) : Option Int :=
  bnd (task_All a0) fun x1 => fk (!x1) (some (0 : Int)) (bnd (level_most_api_Task a0 a1 a0) fun x2 => some x2)
theorem level_Ceiling_w (a0 : List Task) (a1 : Int) (r : Int) (h : level_Ceiling a0 a1 = some r) : Go.VC.Spec Tryz.prog 143 [.d (.sl (a0.map Task.enc)), .d (.int .i64 a1)] (fun y => y = E_Int r) := by
  refine Go.VC.Spec.of_xc (args := [.d (.sl (a0.map Task.enc)), .d (.int .i64 a1)]) (fn := Tryz.f143) tab ⟨[(0, [2, 3]), (1, [2, 3, 7]), (2, [4]), (3, [4])], [], [], []⟩ 11 [.tmp 4] rfl rfl rfl rfl rfl rfl ?_
  conv => whnf
  refine caS (E := E_Bool) h (task_All_w a0) rfl (fun _ => rfl) (fun x1 h => ?_)
  conv => whnf
  refine fkS h (fun h => ?_) (fun h => ?_)
  · conv => whnf
    exact rt (E := E_Int) h rfl
  conv => whnf
  refine caS (E := E_Int) h (level_most_api_Task_w a0 a1 a0) rfl (fun _ => rfl) (fun x2 h => ?_)
  conv => whnf
  exact rt (E := E_Int) h rfl

end Go.Proofs.YtpephpefjddgcaaGreat
namespace Go.Proofs.YtpephpefjddgcaaGreat
open Go Go.VC
noncomputable def level_Held_1 (a0 : Int) (a1 : List Task) : Option Int :=
  bnd (level_Ceiling a1 a0) fun x1 => some x1
theorem level_Held_1_w (a0 : Int) (a1 : List Task) (r : Int) (h : level_Held_1 a0 a1 = some r) : Go.VC.Spec Tryz.prog 142 [.d (.int .i64 a0), .dp [.sl (a1.map Task.enc)]] (fun y => y = E_Int r) := by
  refine Go.VC.Spec.of_xc (args := [.d (.int .i64 a0), .dp [.sl (a1.map Task.enc)]]) (fn := Tryz.f142) tab ⟨[(0, [0, 1]), (1, [3])], [], [], []⟩ 7 [.tmp 3] rfl rfl rfl rfl rfl rfl ?_
  conv => whnf
  refine caS (E := E_Int) h (level_Ceiling_w a1 a0) rfl (fun _ => rfl) (fun x1 h => ?_)
  conv => whnf
  exact rt (E := E_Int) h rfl

end Go.Proofs.YtpephpefjddgcaaGreat
namespace Go.Proofs.YtpephpefjddgcaaGreat
open Go Go.VC
noncomputable def level_most_int (a0 : List Int) (a1 : List Task) : Option Int :=
  lp (fun nx1 (v1 : Int × Int) => fk (decide (v1.2 < (a0.length : Int))) (ix a0 v1.2 fun x2 => bnd (level_Held_1 x2 a1) fun x3 => nx1 ((if x3 > v1.1 then x3 else v1.1), (wr (v1.2 + (1 : Int))))) (some v1.1)) FU ((0 : Int), (0 : Int))
theorem level_most_int_w (a0 : List Int) (a1 : List Task) (r : Int) (h : level_most_int a0 a1 = some r) : Go.VC.Spec Tryz.prog 141 [.d (.sl (a0.map (eI .i64))), .d (.fn 142 [[.sl (a1.map Task.enc)]])] (fun y => y = E_Int r) := by
  refine Go.VC.Spec.of_xc (args := [.d (.sl (a0.map (eI .i64))), .d (.fn 142 [[.sl (a1.map Task.enc)]])]) (fn := Tryz.f141) tab ⟨[(0, [0, 1]), (1, [0, 1, 5]), (2, [1, 5, 8, 9, 10]), (3, [1, 5, 8, 9, 10, 11]), (4, [1, 5, 7, 8, 9, 10]), (5, [1, 5, 8, 9, 10]), (6, [1, 5, 8, 9, 10]), (7, [4])], [], [], []⟩ 21 [.tmp 4] rfl rfl rfl rfl rfl rfl ?_
  conv => whnf
  refine lenS a0 (eI .i64) rfl ?_
  conv => whnf
  refine lpS (fun v1 => ⟨[(1, .l (.d (.fn 142 [[.sl (a1.map Task.enc)]]))), (5, .l (.d (.int .i64 v1.1))), (8, .l (.d (.sl (a0.map (eI .i64))))), (9, .l (.d (.int .i64 (a0.length : Int)))), (10, .l (.d (.int .i64 v1.2)))], 21, [], [], []⟩) h (Weak.refl _) (fun _ nx1 hn1 v1 h => ?_)
  conv => whnf
  refine fkS h (fun h => ?_) (fun h => ?_)
  · conv => whnf
    refine ixS (enc := (eI .i64)) h rfl (fun _ => rfl) (fun x2 h => ?_)
    conv => whnf
    refine caS (E := E_Int) h (level_Held_1_w x2 a1) rfl (fun _ => rfl) (fun x3 h => ?_)
    conv => whnf
    exact leS hn1 h (Weak.refl _)
  conv => whnf
  exact rt (E := E_Int) h rfl

end Go.Proofs.YtpephpefjddgcaaGreat
namespace Go.Proofs.YtpephpefjddgcaaGreat
open Go Go.VC
noncomputable def level_Held (a0 : List Task) (a1 : List Int) : Option Int :=
  bnd (level_most_int a1 a0) fun x1 => some x1
theorem level_Held_w (a0 : List Task) (a1 : List Int) (r : Int) (h : level_Held a0 a1 = some r) : Go.VC.Spec Tryz.prog 138 [.d (.sl (a0.map Task.enc)), .d (.sl (a1.map (eI .i64)))] (fun y => y = E_Int r) := by
  refine Go.VC.Spec.of_xc (args := [.d (.sl (a0.map Task.enc)), .d (.sl (a1.map (eI .i64)))]) (fn := Tryz.f138) tab ⟨[(0, [1, 2]), (1, [4])], [], [], []⟩ 8 [.tmp 4] rfl rfl rfl rfl rfl rfl ?_
  conv => whnf
  refine caS (E := E_Int) h (level_most_int_w a1 a0) rfl (fun _ => rfl) (fun x1 h => ?_)
  conv => whnf
  exact rt (E := E_Int) h rfl

end Go.Proofs.YtpephpefjddgcaaGreat
namespace Go.Proofs.YtpephpefjddgcaaGreat
open Go Go.VC
noncomputable def level_Of (a0 : List Task) (a1 : Int) : Option Int :=
  jn (fun (w1 : Bool) => fk w1 (some (0 : Int)) (ix a0 a1 fun x3 => bnd (level_level a0 x3) fun x4 => some x4)) (fun k1 => bnd (task_All a0) fun x2 => fk (!x2) (k1 true) (fk (decide (a1 < (0 : Int))) (k1 true) (k1 (decide (a1 ≥ (a0.length : Int))))))
theorem level_Of_w (a0 : List Task) (a1 : Int) (r : Int) (h : level_Of a0 a1 = some r) : Go.VC.Spec Tryz.prog 137 [.d (.sl (a0.map Task.enc)), .d (.int .i64 a1)] (fun y => y = E_Int r) := by
  refine Go.VC.Spec.of_xc (args := [.d (.sl (a0.map Task.enc)), .d (.int .i64 a1)]) (fn := Tryz.f137) tab ⟨[(0, [0, 1]), (1, [0, 1, 17]), (2, [4]), (3, [4])], [], [100017], []⟩ 24 [.tmp 4] rfl rfl rfl rfl rfl rfl ?_
  conv => whnf
  refine jnS (fun w1 => ⟨[(0, .l (.d (.sl (a0.map Task.enc)))), (1, .l (.d (.int .i64 a1))), (17, .l (.d (.bool w1)))], 24, [], [], []⟩) h (fun k1 hk1 h => ?_) (fun w1 h => ?_)
  · conv => whnf
    refine caS (E := E_Bool) h (task_All_w a0) rfl (fun _ => rfl) (fun x2 h => ?_)
    conv => whnf
    refine fkS h (fun h => ?_) (fun h => ?_)
    · conv => whnf
      exact jeS hk1 h (Weak.refl _)
    conv => whnf
    refine fkS h (fun h => ?_) (fun h => ?_)
    · conv => whnf
      exact jeS hk1 h (Weak.refl _)
    conv => whnf
    refine lenS a0 Task.enc rfl ?_
    conv => whnf
    exact jeS hk1 h (Weak.refl _)
  conv => whnf
  refine fkS h (fun h => ?_) (fun h => ?_)
  · conv => whnf
    exact rt (E := E_Int) h rfl
  conv => whnf
  refine ixS (enc := Task.enc) h rfl (fun _ => rfl) (fun x3 h => ?_)
  conv => whnf
  refine caS (E := E_Int) h (level_level_w a0 x3) rfl (fun _ => rfl) (fun x4 h => ?_)
  conv => whnf
  exact rt (E := E_Int) h rfl

end Go.Proofs.YtpephpefjddgcaaGreat
namespace Go.Proofs.YtpephpefjddgcaaGreat
open Go Go.VC
noncomputable def level_Passes (a0 : List Task) (a1 : Int) (a2 : List Int) : Option Bool :=
  bnd (level_Of a0 a1) fun x1 => bnd (level_Held a0 a2) fun x2 => some (decide (x1 > x2))
theorem level_Passes_w (a0 : List Task) (a1 : Int) (a2 : List Int) (r : Bool) (h : level_Passes a0 a1 a2 = some r) : Go.VC.Spec Tryz.prog 135 [.d (.sl (a0.map Task.enc)), .d (.int .i64 a1), .d (.sl (a2.map (eI .i64)))] (fun y => y = E_Bool r) := by
  refine Go.VC.Spec.of_xc (args := [.d (.sl (a0.map Task.enc)), .d (.int .i64 a1), .d (.sl (a2.map (eI .i64)))]) (fn := Tryz.f135) tab ⟨[(0, [0, 1, 2]), (1, [6])], [], [], []⟩ 14 [.tmp 6] rfl rfl rfl rfl rfl rfl ?_
  conv => whnf
  refine caS (E := E_Int) h (level_Of_w a0 a1) rfl (fun _ => rfl) (fun x1 h => ?_)
  conv => whnf
  refine caS (E := E_Int) h (level_Held_w a0 a2) rfl (fun _ => rfl) (fun x2 h => ?_)
  conv => whnf
  exact rt (E := E_Bool) h rfl

end Go.Proofs.YtpephpefjddgcaaGreat
namespace Go.Proofs.YtpephpefjddgcaaGreat
open Go Go.VC
noncomputable def ref05_Right (a0 : Task) : Option Bool :=
  jn (fun (w1 : Bool) => fk w1 (some false) (lp (fun nx2 (v2 : Int) => fk (decide (v2 < (a0.Secs.length : Int))) (ix a0.Secs v2 fun x3 => jn (fun (w4 : Bool) => fk w4 (some false) (lp (fun nx5 (v5 : Int) => fk (decide (v5 < v2)) (ix a0.Secs v5 fun x6 => jn (fun (w7 : Bool) => fk w7 (some false) (lp (fun nx8 (v8 : Int × Int × Int) => fk (decide (v8.2.2 < (wr (x3.At + x3.Len)))) (jn (fun (w9 : Int × Int) => nx8 (w9.1, w9.2, (wr (v8.2.2 + (1 : Int))))) (fun k9 => fk (decide (v8.2.2 < (wr (x6.At + x6.Len)))) (k9 ((wr (v8.1 + (1 : Int))), v8.2.1)) (k9 (v8.1, (wr (v8.2.1 + (1 : Int))))))) (jn (fun (w10 : Bool) => fk w10 (some false) (nx5 (wr (v5 + (1 : Int))))) (fun k10 => fk (decide (v8.1 > (0 : Int))) (fk (decide (v8.2.1 > (0 : Int))) (k10 true) (k10 (decide (x6.Res = x3.Res)))) (k10 false)))) FU ((0 : Int), (0 : Int), x3.At))) (fun k7 => fk (decide (x3.At < x6.At)) (k7 true) (fk (decide (x3.At = x6.At)) (k7 (decide (x3.Len > x6.Len))) (k7 false)))) (nx2 (wr (v2 + (1 : Int))))) FU (0 : Int))) (fun k4 => fk (decide (x3.Res < (0 : Int))) (k4 true) (fk (decide (x3.Res > (3 : Int))) (k4 true) (fk (decide (x3.At < (0 : Int))) (k4 true) (fk (decide (x3.Len < (1 : Int))) (k4 true) (fk (decide (x3.At > a0.C)) (k4 true) (fk (decide (x3.Len > a0.C)) (k4 true) (k4 (decide ((wr (x3.At + x3.Len)) > a0.C)))))))))) (some true)) FU (0 : Int))) (fun k1 => fk (decide (a0.C < (1 : Int))) (k1 true) (fk (decide (a0.D < a0.C)) (k1 true) (fk (decide (a0.T < a0.D)) (k1 true) (fk (decide (a0.T > (200 : Int))) (k1 true) (k1 (decide ((a0.Secs.length : Int) > (4 : Int))))))))
theorem ref05_Right_w (a0 : Task) (r : Bool) (h : ref05_Right a0 = some r) : Go.VC.Spec Tryz.prog 38 [.agg (Task.enc a0)] (fun y => y = E_Bool r) := by
  refine Go.VC.Spec.of_xc (args := [.agg (Task.enc a0)]) (fn := Tryz.f38) tab ⟨[(0, [1]), (1, [1, 37]), (2, [2]), (3, [1, 3]), (4, [1, 3, 42]), (5, [1, 3]), (6, [1, 3, 4]), (7, [1, 3, 4, 91]), (8, [2]), (9, [1, 3, 4, 5]), (10, [1, 3, 4, 5, 94]), (11, [1, 3, 4, 5]), (12, [1, 3, 4, 5, 6]), (13, [1, 3, 4, 5, 6, 120]), (14, [2]), (15, [1, 3, 4, 5, 6, 7, 8]), (16, [1, 3, 4, 5, 6, 7, 8, 9]), (17, [1, 3, 4, 5, 6, 7, 8, 9, 129]), (18, [1, 3, 4, 5, 6, 7, 8, 9]), (19, [1, 3, 4, 5, 6, 7, 8, 9, 138]), (20, [1, 3, 4, 5, 6, 7, 8, 9]), (21, [1, 3, 4, 5, 6, 7, 8, 9]), (22, [1, 3, 4, 5, 155]), (23, [2]), (24, [2])], [], [100037, 100091, 100120, 18, 100155], []⟩ 156 [.tmp 2] rfl rfl rfl rfl rfl rfl ?_
  conv => whnf
  refine jnS (fun w1 => ⟨[(1, .l (.ptr 2 0)), (37, .l (.d (.bool w1)))], 156, [], [(2, [.d (.int .i64 a0.C), .d (.int .i64 a0.D), .d (.int .i64 a0.T), .d (.sl (a0.Secs.map Sec.enc))])], []⟩) h (fun k1 hk1 h => ?_) (fun w1 h => ?_)
  · conv => whnf
    refine fkS h (fun h => ?_) (fun h => ?_)
    · conv => whnf
      exact jeS hk1 h (Weak.refl _)
    conv => whnf
    refine fkS h (fun h => ?_) (fun h => ?_)
    · conv => whnf
      exact jeS hk1 h (Weak.refl _)
    conv => whnf
    refine fkS h (fun h => ?_) (fun h => ?_)
    · conv => whnf
      exact jeS hk1 h (Weak.refl _)
    conv => whnf
    refine fkS h (fun h => ?_) (fun h => ?_)
    · conv => whnf
      exact jeS hk1 h (Weak.refl _)
    conv => whnf
    refine lenS a0.Secs Sec.enc rfl ?_
    conv => whnf
    exact jeS hk1 h (Weak.refl _)
  conv => whnf
  refine fkS h (fun h => ?_) (fun h => ?_)
  · conv => whnf
    exact rt (E := E_Bool) h rfl
  conv => whnf
  refine lpS (fun v2 => ⟨[(1, .l (.ptr 2 0)), (3, .l (.d (.int .i64 v2)))], 156, [], [(2, [.d (.int .i64 a0.C), .d (.int .i64 a0.D), .d (.int .i64 a0.T), .d (.sl (a0.Secs.map Sec.enc))])], []⟩) h (Weak.refl _) (fun _ nx2 hn2 v2 h => ?_)
  conv => whnf
  refine lenS a0.Secs Sec.enc rfl ?_
  conv => whnf
  refine fkS h (fun h => ?_) (fun h => ?_)
  · conv => whnf
    refine ixS (enc := Sec.enc) h rfl (fun _ => rfl) (fun x3 h => ?_)
    conv => whnf
    refine jnS (fun w4 => ⟨[(1, .l (.ptr 2 0)), (3, .l (.d (.int .i64 v2))), (4, .l (.ptr 5 0)), (91, .l (.d (.bool w4)))], 156, [], [(2, [.d (.int .i64 a0.C), .d (.int .i64 a0.D), .d (.int .i64 a0.T), .d (.sl (a0.Secs.map Sec.enc))]), (5, [.d (.int .i64 x3.Res), .d (.int .i64 x3.At), .d (.int .i64 x3.Len)])], []⟩) h (fun k4 hk4 h => ?_) (fun w4 h => ?_)
    · conv => whnf
      refine fkS h (fun h => ?_) (fun h => ?_)
      · conv => whnf
        exact jeS hk4 h (Weak.refl _)
      conv => whnf
      refine fkS h (fun h => ?_) (fun h => ?_)
      · conv => whnf
        exact jeS hk4 h (Weak.refl _)
      conv => whnf
      refine fkS h (fun h => ?_) (fun h => ?_)
      · conv => whnf
        exact jeS hk4 h (Weak.refl _)
      conv => whnf
      refine fkS h (fun h => ?_) (fun h => ?_)
      · conv => whnf
        exact jeS hk4 h (Weak.refl _)
      conv => whnf
      refine fkS h (fun h => ?_) (fun h => ?_)
      · conv => whnf
        exact jeS hk4 h (Weak.refl _)
      conv => whnf
      refine fkS h (fun h => ?_) (fun h => ?_)
      · conv => whnf
        exact jeS hk4 h (Weak.refl _)
      conv => whnf
      exact jeS hk4 h (Weak.refl _)
    conv => whnf
    refine fkS h (fun h => ?_) (fun h => ?_)
    · conv => whnf
      exact rt (E := E_Bool) h rfl
    conv => whnf
    refine lpS (fun v5 => ⟨[(1, .l (.ptr 2 0)), (3, .l (.d (.int .i64 v2))), (4, .l (.ptr 5 0)), (5, .l (.d (.int .i64 v5)))], 156, [], [(2, [.d (.int .i64 a0.C), .d (.int .i64 a0.D), .d (.int .i64 a0.T), .d (.sl (a0.Secs.map Sec.enc))]), (5, [.d (.int .i64 x3.Res), .d (.int .i64 x3.At), .d (.int .i64 x3.Len)])], []⟩) h (Weak.refl _) (fun _ nx5 hn5 v5 h => ?_)
    conv => whnf
    refine fkS h (fun h => ?_) (fun h => ?_)
    · conv => whnf
      refine ixS (enc := Sec.enc) h rfl (fun _ => rfl) (fun x6 h => ?_)
      conv => whnf
      refine jnS (fun w7 => ⟨[(1, .l (.ptr 2 0)), (3, .l (.d (.int .i64 v2))), (4, .l (.ptr 5 0)), (5, .l (.d (.int .i64 v5))), (6, .l (.ptr 7 0)), (120, .l (.d (.bool w7)))], 156, [], [(2, [.d (.int .i64 a0.C), .d (.int .i64 a0.D), .d (.int .i64 a0.T), .d (.sl (a0.Secs.map Sec.enc))]), (5, [.d (.int .i64 x3.Res), .d (.int .i64 x3.At), .d (.int .i64 x3.Len)]), (7, [.d (.int .i64 x6.Res), .d (.int .i64 x6.At), .d (.int .i64 x6.Len)])], []⟩) h (fun k7 hk7 h => ?_) (fun w7 h => ?_)
      · conv => whnf
        refine fkS h (fun h => ?_) (fun h => ?_)
        · conv => whnf
          exact jeS hk7 h (Weak.refl _)
        conv => whnf
        refine fkS h (fun h => ?_) (fun h => ?_)
        · conv => whnf
          exact jeS hk7 h (Weak.refl _)
        conv => whnf
        exact jeS hk7 h (Weak.refl _)
      conv => whnf
      refine fkS h (fun h => ?_) (fun h => ?_)
      · conv => whnf
        exact rt (E := E_Bool) h rfl
      conv => whnf
      refine lpS (fun v8 => ⟨[(1, .l (.ptr 2 0)), (3, .l (.d (.int .i64 v2))), (4, .l (.ptr 5 0)), (5, .l (.d (.int .i64 v5))), (6, .l (.ptr 7 0)), (7, .l (.d (.int .i64 v8.1))), (8, .l (.d (.int .i64 v8.2.1))), (9, .l (.d (.int .i64 v8.2.2)))], 156, [], [(2, [.d (.int .i64 a0.C), .d (.int .i64 a0.D), .d (.int .i64 a0.T), .d (.sl (a0.Secs.map Sec.enc))]), (5, [.d (.int .i64 x3.Res), .d (.int .i64 x3.At), .d (.int .i64 x3.Len)]), (7, [.d (.int .i64 x6.Res), .d (.int .i64 x6.At), .d (.int .i64 x6.Len)])], []⟩) h (Weak.refl _) (fun _ nx8 hn8 v8 h => ?_)
      conv => whnf
      refine fkS h (fun h => ?_) (fun h => ?_)
      · conv => whnf
        refine jnS (fun w9 => ⟨[(1, .l (.ptr 2 0)), (3, .l (.d (.int .i64 v2))), (4, .l (.ptr 5 0)), (5, .l (.d (.int .i64 v5))), (6, .l (.ptr 7 0)), (7, .l (.d (.int .i64 w9.1))), (8, .l (.d (.int .i64 w9.2))), (9, .l (.d (.int .i64 v8.2.2)))], 156, [], [(2, [.d (.int .i64 a0.C), .d (.int .i64 a0.D), .d (.int .i64 a0.T), .d (.sl (a0.Secs.map Sec.enc))]), (5, [.d (.int .i64 x3.Res), .d (.int .i64 x3.At), .d (.int .i64 x3.Len)]), (7, [.d (.int .i64 x6.Res), .d (.int .i64 x6.At), .d (.int .i64 x6.Len)])], []⟩) h (fun k9 hk9 h => ?_) (fun w9 h => ?_)
        · conv => whnf
          refine fkS h (fun h => ?_) (fun h => ?_)
          · conv => whnf
            exact jeS hk9 h (Weak.refl _)
          conv => whnf
          exact jeS hk9 h (Weak.refl _)
        conv => whnf
        exact leS hn8 h (Weak.refl _)
      conv => whnf
      refine jnS (fun w10 => ⟨[(1, .l (.ptr 2 0)), (3, .l (.d (.int .i64 v2))), (4, .l (.ptr 5 0)), (5, .l (.d (.int .i64 v5))), (155, .l (.d (.bool w10)))], 156, [], [(2, [.d (.int .i64 a0.C), .d (.int .i64 a0.D), .d (.int .i64 a0.T), .d (.sl (a0.Secs.map Sec.enc))]), (5, [.d (.int .i64 x3.Res), .d (.int .i64 x3.At), .d (.int .i64 x3.Len)])], []⟩) h (fun k10 hk10 h => ?_) (fun w10 h => ?_)
      · conv => whnf
        refine fkS h (fun h => ?_) (fun h => ?_)
        · conv => whnf
          refine fkS h (fun h => ?_) (fun h => ?_)
          · conv => whnf
            exact jeS hk10 h (Weak.refl _)
          conv => whnf
          exact jeS hk10 h (Weak.refl _)
        conv => whnf
        exact jeS hk10 h (Weak.refl _)
      conv => whnf
      refine fkS h (fun h => ?_) (fun h => ?_)
      · conv => whnf
        exact rt (E := E_Bool) h rfl
      conv => whnf
      exact leS hn5 h (Weak.refl _)
    conv => whnf
    exact leS hn2 h (Weak.refl _)
  conv => whnf
  exact rt (E := E_Bool) h rfl

end Go.Proofs.YtpephpefjddgcaaGreat
namespace Go.Proofs.YtpephpefjddgcaaGreat
open Go Go.VC
noncomputable def ref05_All (a0 : List Task) : Option Bool :=
  lp (fun nx1 (v1 : Int × Int) => fk (decide (v1.2 < (a0.length : Int))) (jn (fun (w2 : Int) => nx1 (w2, (wr (v1.2 + (1 : Int))))) (fun k2 => ix a0 v1.2 fun x3 => bnd (ref05_Right x3) fun x4 => fk x4 (k2 (wr (v1.1 + (1 : Int)))) (k2 v1.1))) (fk (decide (v1.1 = (a0.length : Int))) (some (decide (v1.1 ≤ (8 : Int)))) (some false))) FU ((0 : Int), (0 : Int))
theorem ref05_All_w (a0 : List Task) (r : Bool) (h : ref05_All a0 = some r) : Go.VC.Spec Tryz.prog 22 [.d (.sl (a0.map Task.enc))] (fun y => y = E_Bool r) := by
  refine Go.VC.Spec.of_xc (args := [.d (.sl (a0.map Task.enc))]) (fn := Tryz.f22) tab ⟨[(0, [0]), (1, [0, 3]), (2, [0, 3, 4]), (3, [0, 3, 4, 8]), (4, [0, 3, 4]), (5, [0, 3, 4, 15]), (6, [0, 3, 4]), (7, [2])], [], [4], []⟩ 26 [.tmp 2] rfl rfl rfl rfl rfl rfl ?_
  conv => whnf
  refine lpS (fun v1 => ⟨[(0, .l (.d (.sl (a0.map Task.enc)))), (3, .l (.d (.int .i64 v1.1))), (4, .l (.d (.int .i64 v1.2)))], 26, [], [], []⟩) h (Weak.refl _) (fun _ nx1 hn1 v1 h => ?_)
  conv => whnf
  refine lenS a0 Task.enc rfl ?_
  conv => whnf
  refine fkS h (fun h => ?_) (fun h => ?_)
  · conv => whnf
    refine jnS (fun w2 => ⟨[(0, .l (.d (.sl (a0.map Task.enc)))), (3, .l (.d (.int .i64 w2))), (4, .l (.d (.int .i64 v1.2)))], 26, [], [], []⟩) h (fun k2 hk2 h => ?_) (fun w2 h => ?_)
    · conv => whnf
      refine ixS (enc := Task.enc) h rfl (fun _ => rfl) (fun x3 h => ?_)
      conv => whnf
      refine caS (E := E_Bool) h (ref05_Right_w x3) rfl (fun _ => rfl) (fun x4 h => ?_)
      conv => whnf
      refine fkS h (fun h => ?_) (fun h => ?_)
      · conv => whnf
        exact jeS hk2 h (Weak.refl _)
      conv => whnf
      refine jeX hk2 h ?_
      conv => whnf
      refine WkF.step (Weak.keepS _ [0, 3, 4]) ?_
      conv => whnf
      exact WkF.refl _
    conv => whnf
    exact leS hn1 h (Weak.refl _)
  conv => whnf
  refine lenS a0 Task.enc rfl ?_
  conv => whnf
  refine fkS h (fun h => ?_) (fun h => ?_)
  · conv => whnf
    exact rt (E := E_Bool) h rfl
  conv => whnf
  exact rt (E := E_Bool) h rfl

end Go.Proofs.YtpephpefjddgcaaGreat
namespace Go.Proofs.YtpephpefjddgcaaGreat
open Go Go.VC
noncomputable def ref07_Legal (a0 : List Task) (a1 : List (List Int)) : Option Bool :=
  jn (fun (w1 : Bool) => fk w1 (some false) (lp (fun nx3 (v3 : Int) => fk (decide (v3 < (a1.length : Int))) (ix a1 v3 fun x4 => fk (decide ((x4.length : Int) > (1000 : Int))) (some false) (lp (fun nx5 (v5 : Int) => ix a1 v3 fun x6 => fk (decide (v5 < (x6.length : Int))) (ix a1 v3 fun x7 => ix x7 v5 fun x8 => jn (fun (w9 : Bool) => fk w9 (some false) (jn (fun (w10 : Bool) => fk w10 (some false) (nx5 (wr (v5 + (1 : Int))))) (fun k10 => fk (decide (v5 > (0 : Int))) (ix a1 v3 fun x11 => ix x11 (wr (v5 - (1 : Int))) fun x12 => ix a0 v3 fun x13 => k10 (decide (x8 < (wr (x12 + x13.T))))) (k10 false)))) (fun k9 => fk (decide (x8 < (0 : Int))) (k9 true) (k9 (decide (x8 > (4611686018427387903 : Int)))))) (nx3 (wr (v3 + (1 : Int))))) FU (0 : Int))) (some true)) FU (0 : Int))) (fun k1 => bnd (ref05_All a0) fun x2 => fk (!x2) (k1 true) (k1 (!decide ((a1.length : Int) = (a0.length : Int)))))
theorem ref07_Legal_w (a0 : List Task) (a1 : List (List Int)) (r : Bool) (h : ref07_Legal a0 a1 = some r) : Go.VC.Spec Tryz.prog 9 [.d (.sl (a0.map Task.enc)), .d (.sl (a1.map (eL (eI .i64))))] (fun y => y = E_Bool r) := by
  refine Go.VC.Spec.of_xc (args := [.d (.sl (a0.map Task.enc)), .d (.sl (a1.map (eL (eI .i64))))]) (fn := Tryz.f9) tab ⟨[(0, [0, 1]), (1, [0, 1, 17]), (2, [4]), (3, [0, 1, 5]), (4, [0, 1, 5, 21]), (5, [0, 1, 5]), (6, [0, 1, 5, 29]), (7, [4]), (8, [0, 1, 5, 6]), (9, [0, 1, 5, 6, 36]), (10, [0, 1, 5, 6]), (11, [0, 1, 5, 6, 7]), (12, [0, 1, 5, 6, 7, 51]), (13, [4]), (14, [0, 1, 5, 6, 71]), (15, [4]), (16, [4])], [], [100017, 100051, 100071], []⟩ 72 [.tmp 4] rfl rfl rfl rfl rfl rfl ?_
  conv => whnf
  refine jnS (fun w1 => ⟨[(0, .l (.d (.sl (a0.map Task.enc)))), (1, .l (.d (.sl (a1.map (eL (eI .i64)))))), (17, .l (.d (.bool w1)))], 72, [], [], []⟩) h (fun k1 hk1 h => ?_) (fun w1 h => ?_)
  · conv => whnf
    refine caS (E := E_Bool) h (ref05_All_w a0) rfl (fun _ => rfl) (fun x2 h => ?_)
    conv => whnf
    refine fkS h (fun h => ?_) (fun h => ?_)
    · conv => whnf
      exact jeS hk1 h (Weak.refl _)
    conv => whnf
    refine lenS a1 (eL (eI .i64)) rfl ?_
    conv => whnf
    refine lenS a0 Task.enc rfl ?_
    conv => whnf
    exact jeS hk1 h (Weak.refl _)
  conv => whnf
  refine fkS h (fun h => ?_) (fun h => ?_)
  · conv => whnf
    exact rt (E := E_Bool) h rfl
  conv => whnf
  refine lpS (fun v3 => ⟨[(0, .l (.d (.sl (a0.map Task.enc)))), (1, .l (.d (.sl (a1.map (eL (eI .i64)))))), (5, .l (.d (.int .i64 v3)))], 72, [], [], []⟩) h (Weak.refl _) (fun _ nx3 hn3 v3 h => ?_)
  conv => whnf
  refine lenS a1 (eL (eI .i64)) rfl ?_
  conv => whnf
  refine fkS h (fun h => ?_) (fun h => ?_)
  · conv => whnf
    refine ixS (enc := (eL (eI .i64))) h rfl (fun _ => rfl) (fun x4 h => ?_)
    conv => whnf
    refine lenS x4 (eI .i64) rfl ?_
    conv => whnf
    refine fkS h (fun h => ?_) (fun h => ?_)
    · conv => whnf
      exact rt (E := E_Bool) h rfl
    conv => whnf
    refine lpS (fun v5 => ⟨[(0, .l (.d (.sl (a0.map Task.enc)))), (1, .l (.d (.sl (a1.map (eL (eI .i64)))))), (5, .l (.d (.int .i64 v3))), (6, .l (.d (.int .i64 v5)))], 72, [], [], []⟩) h (Weak.refl _) (fun _ nx5 hn5 v5 h => ?_)
    conv => whnf
    refine ixS (enc := (eL (eI .i64))) h rfl (fun _ => rfl) (fun x6 h => ?_)
    conv => whnf
    refine lenS x6 (eI .i64) rfl ?_
    conv => whnf
    refine fkS h (fun h => ?_) (fun h => ?_)
    · conv => whnf
      refine ixS (enc := (eL (eI .i64))) h rfl (fun _ => rfl) (fun x7 h => ?_)
      conv => whnf
      refine ixS (enc := (eI .i64)) h rfl (fun _ => rfl) (fun x8 h => ?_)
      conv => whnf
      refine jnS (fun w9 => ⟨[(0, .l (.d (.sl (a0.map Task.enc)))), (1, .l (.d (.sl (a1.map (eL (eI .i64)))))), (5, .l (.d (.int .i64 v3))), (6, .l (.d (.int .i64 v5))), (7, .l (.d (.int .i64 x8))), (51, .l (.d (.bool w9)))], 72, [], [], []⟩) h (fun k9 hk9 h => ?_) (fun w9 h => ?_)
      · conv => whnf
        refine fkS h (fun h => ?_) (fun h => ?_)
        · conv => whnf
          exact jeS hk9 h (Weak.refl _)
        conv => whnf
        exact jeS hk9 h (Weak.refl _)
      conv => whnf
      refine fkS h (fun h => ?_) (fun h => ?_)
      · conv => whnf
        exact rt (E := E_Bool) h rfl
      conv => whnf
      refine jnS (fun w10 => ⟨[(0, .l (.d (.sl (a0.map Task.enc)))), (1, .l (.d (.sl (a1.map (eL (eI .i64)))))), (5, .l (.d (.int .i64 v3))), (6, .l (.d (.int .i64 v5))), (71, .l (.d (.bool w10)))], 72, [], [], []⟩) h (fun k10 hk10 h => ?_) (fun w10 h => ?_)
      · conv => whnf
        refine ⟨20, ?_⟩
        conv => whnf
        refine fkS h (fun h => ?_) (fun h => ?_)
        · conv => whnf
          refine ixS (enc := (eL (eI .i64))) h rfl (fun _ => rfl) (fun x11 h => ?_)
          conv => whnf
          refine ixS (enc := (eI .i64)) h rfl (fun _ => rfl) (fun x12 h => ?_)
          conv => whnf
          refine ixS (enc := Task.enc) h rfl (fun _ => rfl) (fun x13 h => ?_)
          conv => whnf
          refine drS (by kernel_rfl) ?_
          conv => whnf
          exact jeS hk10 h (Weak.refl _)
        conv => whnf
        refine drS (by kernel_rfl) ?_
        conv => whnf
        exact jeS hk10 h (Weak.refl _)
      conv => whnf
      refine fkS h (fun h => ?_) (fun h => ?_)
      · conv => whnf
        exact rt (E := E_Bool) h rfl
      conv => whnf
      exact leS hn5 h (Weak.refl _)
    conv => whnf
    exact leS hn3 h (Weak.refl _)
  conv => whnf
  exact rt (E := E_Bool) h rfl

end Go.Proofs.YtpephpefjddgcaaGreat
namespace Go.Proofs.YtpephpefjddgcaaGreat
open Go Go.VC
noncomputable def task_Held (a0 : Task) (a1 : Int) : Option (List Int) :=
  bnd (task_Right a0) fun x1 => fk (!x1) (some []) (lp (fun nx2 (v2 : (List Int) × Int) => fk (decide (v2.2 < (a0.Secs.length : Int))) (jn (fun (w3 : List Int) => nx2 (w3, (wr (v2.2 + (1 : Int))))) (fun k3 => ix a0.Secs v2.2 fun x4 => jn (fun (w5 : Bool) => fk w5 (ck (decide ((v2.1.length + ([x4.Res] : List Int).length) * 8 ≤ 140737488355328)) (k3 (v2.1 ++ ([x4.Res] : List Int)))) (k3 v2.1)) (fun k5 => fk (decide (x4.At < a1)) (k5 (decide (a1 < (wr (x4.At + x4.Len))))) (k5 false)))) (some v2.1)) FU ([], (0 : Int)))
theorem task_Held_w (a0 : Task) (a1 : Int) (r : List Int) (h : task_Held a0 a1 = some r) : Go.VC.Spec Tryz.prog 139 [.agg (Task.enc a0), .d (.int .i64 a1)] (fun y => y = E_ListInt r) := by
  refine Go.VC.Spec.of_xc (args := [.agg (Task.enc a0), .d (.int .i64 a1)]) (fn := Tryz.f139) tab ⟨[(0, [1, 2]), (1, [1, 2, 10]), (2, [4]), (3, [1, 2, 5]), (4, [1, 5, 12, 13, 14]), (5, [1, 5, 12, 13, 14, 15]), (6, [1, 5, 7, 12, 13, 14]), (7, [1, 5, 7, 12, 13, 14, 30]), (8, [1, 5, 12, 13, 14]), (9, [1, 5, 12, 13, 14]), (10, [4])], [], [100030, 9], []⟩ 38 [.tmp 4] rfl rfl rfl rfl rfl rfl ?_
  conv => whnf
  refine caS (E := E_Bool) h (task_Right_w a0) rfl (fun _ => rfl) (fun x1 h => ?_)
  conv => whnf
  refine fkS h (fun h => ?_) (fun h => ?_)
  · conv => whnf
    exact rt (E := E_ListInt) h rfl
  conv => whnf
  refine lenS a0.Secs Sec.enc rfl ?_
  conv => whnf
  refine lpS (fun v2 => ⟨[(1, .l (.d (.int .i64 a1))), (5, .l (.own 6)), (12, .l (.d (.sl (a0.Secs.map Sec.enc)))), (13, .l (.d (.int .i64 (a0.Secs.length : Int)))), (14, .l (.d (.int .i64 v2.2)))], 38, [], [], [(6, 3, 1, v2.1.map (eI .i64))]⟩) h (Weak.trans (Weak.nilO _ 5 6 3 1 rfl) (Weak.refl _)) (fun _ nx2 hn2 v2 h => ?_)
  conv => whnf
  refine fkS h (fun h => ?_) (fun h => ?_)
  · conv => whnf
    refine jnS (fun w3 => ⟨[(1, .l (.d (.int .i64 a1))), (5, .l (.own 6)), (12, .l (.d (.sl (a0.Secs.map Sec.enc)))), (13, .l (.d (.int .i64 (a0.Secs.length : Int)))), (14, .l (.d (.int .i64 v2.2)))], 38, [], [], [(6, 3, 1, w3.map (eI .i64))]⟩) h (fun k3 hk3 h => ?_) (fun w3 h => ?_)
    · conv => whnf
      refine ixS (enc := Sec.enc) h rfl (fun _ => rfl) (fun x4 h => ?_)
      conv => whnf
      refine jnS (fun w5 => ⟨[(1, .l (.d (.int .i64 a1))), (5, .l (.own 6)), (7, .l (.ptr 8 0)), (12, .l (.d (.sl (a0.Secs.map Sec.enc)))), (13, .l (.d (.int .i64 (a0.Secs.length : Int)))), (14, .l (.d (.int .i64 v2.2))), (30, .l (.d (.bool w5)))], 38, [], [(8, [.d (.int .i64 x4.Res), .d (.int .i64 x4.At), .d (.int .i64 x4.Len)])], [(6, 3, 1, v2.1.map (eI .i64))]⟩) h (fun k5 hk5 h => ?_) (fun w5 h => ?_)
      · conv => whnf
        refine fkS h (fun h => ?_) (fun h => ?_)
        · conv => whnf
          exact jeS hk5 h (Weak.refl _)
        conv => whnf
        exact jeS hk5 h (Weak.refl _)
      conv => whnf
      refine fkS h (fun h => ?_) (fun h => ?_)
      · conv => whnf
        refine liS ([x4.Res] : List Int) (eI .i64) rfl rfl ?_
        conv => whnf
        refine apS (enc := (eI .i64)) (l1 := v2.1) (l2 := ([x4.Res] : List Int)) h rfl rfl (fun _ => rfl) (fun h => ?_)
        conv => whnf
        exact jeS hk3 h (Weak.refl _)
      conv => whnf
      refine jeX hk3 h ?_
      conv => whnf
      refine WkF.step (Weak.keepS _ [1, 5, 12, 13, 14]) ?_
      conv => whnf
      exact WkF.refl _
    conv => whnf
    exact leS hn2 h (Weak.refl _)
  conv => whnf
  exact rt (E := E_ListInt) h rfl

end Go.Proofs.YtpephpefjddgcaaGreat
