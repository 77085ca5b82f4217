/- Part 18 of what follows is proved here: what the statement WorldPlays needs of functions and plain laws. -/
import Derived.Test.YtldlcdnhdedoeaaGreatXWorldPlays6
import Derived.Test.YtldlcdnhdedoeaaGreatV9
import Derived.Test.YtldlcdnhdedoeaaGreatV8
set_option linter.unusedVariables false
set_option linter.unusedSimpArgs false
set_option maxRecDepth 100000
set_option maxHeartbeats 40000000
namespace Go.VC
open Go.RowKit (Below)
/-! Slices whose elements hold slices of the call's own: a box of as many cells. -/
section
variable {P : Program} {T : TypeId → Option TI} {w0 : World} {p0 p : Nat → Prop} {σ : Nat → Value} {s : St} {tm : Array Value} {ups : List (Array Value)} {w w' : World} {K : St → Prop}

def boxN (N : Nat) (z : List LV) : List LV := match N with | 0 => [] | n + 1 => z ++ boxN n z
theorem boxN_length (z : List LV) : ∀ N, (boxN N z).length = N * z.length
  | 0 => by simp [boxN]
  | n + 1 => by rw [boxN, List.length_append, boxN_length z n, Nat.succ_mul, Nat.add_comm]
theorem boxN_get (z : List LV) (hz : 0 < z.length) : ∀ (N k : Nat), k < N * z.length → (boxN N z)[k]? = z[k % z.length]?
  | 0, k, h => by simp at h
  | n + 1, k, h => by
    rw [boxN]
    by_cases c : k < z.length
    · rw [List.getElem?_append_left c, Nat.mod_eq_of_lt c]
    · rw [List.getElem?_append_right (by omega), boxN_get z hz n (k - z.length) (by rw [Nat.succ_mul] at h; omega)]
      rw [← Nat.mod_eq_sub_mod (by omega)]
theorem mkB (hT : TabOk P T) {o : Oper} {t e : TypeId} {l c : Operand} {k1 k2 : IntKind} {n m : Int} {i ie : TI} (N : Nat) (ho : o.op = .makeSlice t l c) (hd : dstLt o.dst s.n = true) (hl : s.eval l = .l (.d (.int k1 n))) (hc : s.eval c = .l (.d (.int k2 m))) (hn : n = (N : Int)) (hm : m = (N : Int))
    (hi : T t = some i) (hk : i.k = .slice e) (hie : T e = some ie) (hb : N * ie.bytes ≤ 281474976710656) (hz : 0 < ie.zero.length) (hN : N ≤ 1000000) (hsz : ie.size = ie.zero.length)
    (h : keyX s.up o.dst fun key => fS (s.drop key) fun s => fLVs (boxN N ie.zero) fun cs => appX s o.dst { v := .l (.bsl key N ie.size), nb := some (key, cs) } K) : OpX P o s K := by
  subst hn; subst hm
  rw [keyX_eq, fS_eq, fLVs_eq, appX_eq] at h
  generalize hkey : keyOf s o.dst = key at h
  refine ⟨fun w0 p0 p σ tm ups w Q hr => ?_⟩
  have hf : Free key (s.drop key) := Free.drop _ _
  have h2 := hr.drop key
  have hl' := hr.eval (ds := []) l
  have hc' := hr.eval (ds := []) c
  rw [hl] at hl'
  rw [hc] at hc'
  have hu := desc_slice (hT.ok t i hi) hk
  obtain ⟨j, zv, h1, h2', h3, h4, h5, h6, h7⟩ := (hT.ok e ie hie).info
  have hrun := run_make (P := P) w t e j zv hu h1 h4 k1 k2 N N (by omega) (Int.le_refl _) (by have hb' : ((N * ie.bytes : Nat) : Int) ≤ 281474976710656 := by omega
                                                                                              rw [Int.natCast_mul] at hb'; rw [h3, Int.mul_comm]; exact hb') (by omega)
  simp only [Int.toNat_natCast] at hrun
  have hrep : All2 (RepL σ w p) ie.zero zv.cells.toList := by rw [← h5]; exact constL_rep_all _ σ w p
  have hzl : zv.cells.size = ie.zero.length := by rw [hrep.1, Array.length_toList]
  have hon : ∀ x ∈ boxN N ie.zero, x.on key = false := by
    intro x hx
    obtain ⟨q, hq⟩ := List.getElem?_of_mem hx
    have hql := (List.getElem?_eq_some_iff.1 hq).1
    rw [boxN_length] at hql
    rw [boxN_get _ hz _ _ hql] at hq
    have hx := List.mem_of_getElem? hq
    rw [← h5] at hx
    obtain ⟨v, _, rfl⟩ := List.mem_map.1 hx
    unfold constL
    split <;> rfl
  have hall : All2 (RepL σ w p) (boxN N ie.zero) (madeCells zv.cells (N * j.size)).toList := by
    have hjs : j.size = ie.zero.length := by rw [h2', hsz]
    refine ⟨by rw [boxN_length, Array.length_toList, size_madeCells, hjs], fun q x y hx hy => ?_⟩
    have hql := (List.getElem?_eq_some_iff.1 hx).1
    rw [boxN_length] at hql
    rw [boxN_get _ hz _ _ hql] at hx
    rw [Array.getElem?_toList] at hy
    simp only [madeCells, Array.getElem?_map] at hy
    rw [Array.getElem?_range] at hy
    rw [hjs] at hy
    simp only [hql, if_true, Option.map_some, Option.some.injEq] at hy
    rw [hzl] at hy
    have hm : q % ie.zero.length < zv.cells.size := by rw [hzl]; exact Nat.mod_lt _ hz
    rw [getElem!_pos zv.cells _ hm] at hy
    refine hrep.2 (q % ie.zero.length) x y hx ?_
    rw [Array.getElem?_toList, Array.getElem?_eq_getElem hm, hy]
  have hnew := h2.newBoxF key _ _ e hall hf hon
  have hexec : (execOp (Act.eval ⟨tm, []⟩) o).run P w = .ok (.value (.slice (some ⟨w.heap.size, 0, none⟩) N N)) (w.alloc (.cells (madeCells zv.cells (N * j.size)).toList.toArray e)) := by
    unfold execOp
    simp only [ho]
    rw [RepD_int hl', RepD_int hc']
    simp only [Sem.run_bind]
    rw [hrun, Array.toArray_toList]
    rfl
  unfold Oper.wp
  rw [hexec, Oper.upon_value]
  exact ⟨by cases o.dst <;> rfl, _, p, _, h, hnew.put o.dst (.l (.bsl key N ie.size)) _ (fun d e => by show d < (s.drop key).n; exact dstLt_spec hd d e) ⟨by unfold maxLen; omega, w.heap.size, upd_same _ _ _, rfl⟩ []⟩
theorem mkB0 (hT : TabOk P T) {o : Oper} {t e : TypeId} {l c : Operand} {k1 k2 : IntKind} {n m : Int} {i ie : TI} (ho : o.op = .makeSlice t l c) (hd : dstLt o.dst s.n = true) (hl : s.eval l = .l (.d (.int k1 n))) (hc : s.eval c = .l (.d (.int k2 m))) (hn : n = 0) (hm : m = 0)
    (hi : T t = some i) (hk : i.k = .slice e) (hie : T e = some ie) (h : putX s o.dst (.l (.d (.sl []))) K) : OpX P o s K := by
  subst hn; subst hm
  rw [putX_eq] at h
  refine ⟨fun w0 p0 p σ tm ups w Q hr => ?_⟩
  have hl' := hr.eval (ds := []) l
  have hc' := hr.eval (ds := []) c
  rw [hl] at hl'
  rw [hc] at hc'
  have hu := desc_slice (hT.ok t i hi) hk
  obtain ⟨j, zv, h1, h2', h3, h4, h5, h6, h7⟩ := (hT.ok e ie hie).info
  have hrun := run_make (P := P) w t e j zv hu h1 h4 k1 k2 0 0 (by omega) (Int.le_refl _) (by simp) (by omega)
  have hexec : (execOp (Act.eval ⟨tm, []⟩) o).run P w = .ok (.value (.slice (some ⟨w.heap.size, 0, none⟩) 0 0)) (w.alloc (.cells (madeCells zv.cells (Int.toNat 0 * j.size)) e)) := by
    unfold execOp
    simp only [ho]
    rw [RepD_int hl', RepD_int hc']
    simp only [Sem.run_bind]
    rw [hrun]
    rfl
  unfold Oper.wp
  rw [hexec, Oper.upon_value]
  have hbel : Below w.heap.size w (w.alloc (.cells (madeCells zv.cells (Int.toNat 0 * j.size)) e)) := ⟨rfl, rfl, rfl, by show _ ≤ (w.heap.push _).size; simp, fun b hb => by
    show (w.heap.push _)[b]? = _
    rw [Array.getElem?_push_lt hb, Array.getElem?_eq_getElem hb]⟩
  have hrel := hr.called hbel (p' := p) (fun _ h => h) (fun b h => .inl h) (fun b h => Nat.lt_of_lt_of_le (hr.plt b h) hbel.size)
  refine ⟨by cases o.dst <;> rfl, _, p, σ, h, hrel.put o.dst _ _ (dstLt_spec hd) ?_ []⟩
  exact RepD.sl [] 0 _ 0 (fun _ _ => undef) (Nat.le_refl _) (by unfold maxLen; omega) (fun e => by cases e) (fun ad e hn => absurd rfl hn) (fun r hr => by cases hr) (fun ad i j r x e h1 => by simp at h1) (fun i j r x h1 => by simp at h1)
theorem lenB (hT : TabOk P T) {o : Oper} {t e : TypeId} {x : Operand} {k n sz : Nat} {i : TI} (ho : o.op = .call ⟨.builtin .len, #[x], #[t]⟩) (hd : dstLt o.dst s.n = true) (hx : s.eval x = .l (.bsl k n sz)) (hi : T t = some i) (hk : i.k = .slice e) (h : putX s o.dst (.l (.d (.int .i64 (n : Int)))) K) : OpX P o s K := by
  rw [putX_eq] at h
  refine OpX.pure hd _ h fun w0 p0 p σ tm ups w hr => ⟨_, ?_, .int .i64 (n : Int)⟩
  have hx' := hr.eval (ds := []) x
  rw [hx] at hx'
  obtain ⟨_, b, _, hv⟩ := hx'
  have hu := desc_slice (hT.ok t i hi) hk
  have hev : (#[x] : Array Operand).map (Act.eval ⟨tm, []⟩) = #[Value.slice (some ⟨b, 0, none⟩) n n] := by rw [← hv]; simp
  rw [run_exec_builtin ho rfl]
  simp only [hev, builtin, Builtin.len_, Sem.run_bind, run_underlying hu, Sem.run_pure, Result.andThen_ok, goInt]
  simp [Builtin.len_, run_underlying hu, goInt]
/-- A row of bytes that is turned to its own type: nothing will be written there. -/
theorem cvO {o : Oper} {t e : TypeId} {x : Operand} {k : Nat} {z : Own} (ho : o.op = .convert t t x) (hd : dstLt o.dst s.n = true) (hx : s.eval x = .l (.own k)) (hz : assoc s.o k = some z) (hn : z.2.2.isEmpty = false) (hu : P.underlying t = some (.slice e)) (hue : P.underlying e = some (.int .u8))
    (h : fS (s.drop k) fun s => putX s o.dst (.l (.d (.sl z.2.2))) K) : OpX P o s K := by
  rw [fS_eq, putX_eq] at h
  refine ⟨fun w0 p0 p σ tm ups w Q hr => ?_⟩
  have hx' := hr.eval (ds := []) x
  rw [hx] at hx'
  have hlive : s.live k := .inr (by rw [hz]; rfl)
  obtain ⟨xs, ho1, ho2, ho3, ho4⟩ := hr.o k z hz
  obtain ⟨hv, _⟩ := hx'
  rcases ho1.2 with ⟨_, h0⟩ | ⟨g, cap, cur, hs, hb, hg, hnc, hcm, hcs, htake⟩
  · rw [List.length_eq_zero_iff.1 h0] at hn; cases hn
  have hlt : g < w.heap.size := (Array.getElem?_eq_some_iff.1 hg).1
  let w' : World := w.freeze ⟨g, cur.size, none⟩ 1
  have hblk : ∀ b, b ≠ g → w'.heap[b]? = w.heap[b]? := fun b hb => by
    show (w.heap.modify g _)[b]? = _
    rw [Array.getElem?_modify, if_neg (fun c => hb c.symm)]
  have hg' : w'.heap[g]? = some (.cells cur z.1 (cur.size, cur.size + 1)) := by
    show (w.heap.modify g _)[g]? = _
    rw [Array.getElem?_modify, if_pos rfl, hg]
    rfl
  have hexec : (execOp (Act.eval ⟨tm, []⟩) o).run P w = .ok (.value (σ k)) w' := by
    unfold execOp
    have hsh : w.shape? g = some (z.1, cur.size) := by unfold World.shape?; rw [hg]
    simp only [ho]
    rw [hv, hs]
    simp [convert, run_underlying hu, run_underlying hue, markStringish, hsh]
    rfl
  unfold Oper.wp
  rw [hexec, Oper.upon_value]
  have hbel : Below w0.heap.size w0 w' := ⟨hr.below.os, hr.below.tape, hr.below.output, by show _ ≤ (w.heap.modify g _).size; rw [Array.size_modify]; exact hr.below.size, fun b hb' => by
    rw [hblk b (by omega)]; exact hr.below.block b hb'⟩
  have hsz : w.heap.size ≤ w'.heap.size := by show _ ≤ (w.heap.modify g _).size; rw [Array.size_modify]; exact Nat.le_refl _
  have hσg : blk (σ k) = some g := by rw [hs]; rfl
  have h1 := hr.step (σ' := σ) k (fun _ _ => rfl) hbel (fun q hq hc => hblk q fun e => by
    subst e
    rcases hc with hc | ⟨j, hj, hl, hjg⟩
    · exact ho4 q hσg hc
    · exact hj (hr.apart j k q hl hlive hjg hσg)) hsz
  have h2 := h1.freeze hb (by omega) (fun j hj hjg => (live_drop hj).1 (hr.apart j k g (live_drop hj).2 hlive hjg hσg))
  refine ⟨by cases o.dst <;> rfl, _, _, σ, h, h2.put o.dst _ _ (dstLt_spec hd) ?_ []⟩
  have hpw : ∀ b, p b → w'.heap[b]? = w.heap[b]? := fun b hb' => hblk b fun e => ho4 g hσg (e ▸ hb')
  rw [hs]
  refine RepD.sl z.2.2 z.2.1 _ cap (fun i j => xs.getD (i * z.2.1 + j) undef) hnc hcm (fun e => by cases e) (fun ad e _ => .inr (by cases e; rfl)) ho2 ?_ ?_
  · intro ad i j r x e hi hj
    cases e
    have hjl : j < z.2.1 := by rw [← ho2 r (List.mem_of_getElem? hi)]; exact (List.getElem?_eq_some_iff.1 hj).1
    have hf := flatten_get z.2.1 z.2.2 ho2 i j hjl
    rw [hi, Option.bind_some, hj] at hf
    obtain ⟨u, hu', hru⟩ := ho3.get hf
    have hc := ho1.cells (g := g) (by rw [hs]; rfl) _ u hu'
    rw [List.getD_eq_getElem?_getD, hu', Option.getD_some]
    have hcell : ∀ (W : World) (fz : Nat × Nat), W.heap[g]? = some (.cells cur z.1 fz) → W.cell? ⟨g, i * z.2.1 + j, none⟩ = cur[i * z.2.1 + j]? := by
      intro W fz hW
      simp [World.cell?, hW]
    have e2 : (⟨g, 0, none⟩ : Addr).add (i * z.2.1 + j) = ⟨g, i * z.2.1 + j, none⟩ := by unfold Addr.add; split <;> simp_all
    rw [e2] at hc ⊢
    rw [hcell w' _ hg', ← hcell w _ hg]
    exact hc
  · intro i j r x hi hj
    have hjl : j < z.2.1 := by rw [← ho2 r (List.mem_of_getElem? hi)]; exact (List.getElem?_eq_some_iff.1 hj).1
    have hf := flatten_get z.2.1 z.2.2 ho2 i j hjl
    rw [hi, Option.bind_some, hj] at hf
    obtain ⟨u, hu', hru⟩ := ho3.get hf
    rw [List.getD_eq_getElem?_getD, hu', Option.getD_some]
    exact (hru.mono hpw (fun _ h => h)).mono (fun _ _ => rfl) (fun _ h => .inl h)
/-- The ways out of a call that is walked in place meet. -/
theorem inJ {α R : Type} {r : R} {Y : α → Option R} {X : (α → Option R) → Option R} {f : FuncId} {args : List AV} {dst : Option Nat} (st : α → St) (h : jn Y X = some r)
    (h1 : ∀ (k : α → Option R) (hk : ∀ v, k v = some r → Y v = some r), X k = some r → CallX P f args s dst fun s' => ∃ s2, Weak s' s2 ∧ ∃ v, s2 = st v ∧ Y v = some r)
    (h2 : ∀ v, Y v = some r → K (st v)) : CallX P f args s dst K :=
  ⟨(h1 Y (fun _ h => h) h).h.mono fun r s' ⟨hn, s2, hw, s3, hw2, v, hv, hy⟩ => ⟨hn, s3, hw.trans hw2, hv ▸ h2 v hy⟩⟩
theorem fkN {R : Type} {r : R} {b : Bool} {x y : Option R} {X Y : Prop} (h : fk b x y = some r) (h1 : b = true → x = some r → X) (h2 : b = false → y = some r → Y) : forkK b X Y := by
  cases b
  · exact h2 rfl h
  · exact h1 rfl h
theorem lpX {α R : Type} {r : R} {body : (α → Option R) → α → Option R} {n : Nat} {v0 : α} {xb : (Exit → St → Prop) → St → Prop} {Q : Exit → St → Prop} (st : α → St) (h : lp body n v0 = some r) (hw : WkF s (st v0))
    (step : ∀ (n : Nat) (nx : α → Option R) (hn : ∀ v', nx v' = some r → lp body n v' = some r) (v : α), body nx v = some r → xb (fun e s' => match e with | .normal => ∃ n' s2, n' < n + 1 ∧ Weak s' s2 ∧ ∃ v', s2 = st v' ∧ lp body n' v' = some r | e => Q e s') (st v)) : LoopVC xb Q s := lpS st h hw.h step
/-- Few numbers, one by one. -/
theorem mkF {R : Type} {r : R} {b : Bool} {x y : Option R} {G : Prop} (h : fk b x y = some r) (h1 : b = true → x = some r → G) (h2 : y = some r → G) : G := by
  cases b
  · exact h2 h
  · exact h1 rfl h
end
end Go.VC
namespace Go.Proofs.YtldlcdnhdedoeaaGreat
open Go Go.VC
structure Face where
 P:Int
 B:Int
  deriving DecidableEq
def Face.enc (x:Face):List Go.VC.D:=[.int .i64 x.P,.int .i64 x.B]
structure Port where
 From:Int
 To:Int
 Cap:Int
  deriving DecidableEq
def Port.enc (x:Port):List Go.VC.D:=[.int .i64 x.From,.int .i64 x.To,.int .i64 x.Cap]
structure RingRing where
 Buf:List Int
 First:Int
 Many:Int
  deriving DecidableEq
def RingRing.enc (x:RingRing):List Go.VC.D:=[.sl (x.Buf.map (eI .i64)),.int .i64 x.First,.int .i64 x.Many]
structure PortLine where
 Port:Port
 Under:RingRing
 Got:RingRing
  deriving DecidableEq
def PortLine.enc (x:PortLine):List Go.VC.D:=[.int .i64 x.Port.From,.int .i64 x.Port.To,.int .i64 x.Port.Cap,.sl (x.Under.Buf.map (eI .i64)),.int .i64 x.Under.First,.int .i64 x.Under.Many,.sl (x.Got.Buf.map (eI .i64)),.int .i64 x.Got.First,.int .i64 x.Got.Many]
structure WorldSaw where
 At:Int
 Value:Int
 Err:Int
  deriving DecidableEq
def WorldSaw.enc (x:WorldSaw):List Go.VC.D:=[.int .i64 x.At,.int .i64 x.Value,.int .i64 x.Err]
structure Entry where
 At:Int
 Kind:Int
 Task:Int
  deriving DecidableEq
def Entry.enc (x:Entry):List Go.VC.D:=[.int .i64 x.At,.int .i64 x.Kind,.int .i64 x.Task]
structure Partbook where
 log:List Entry
 now:Int
  deriving DecidableEq
structure Job where
 Task:Int
 At:Int
 Due:Int
 Want:Int
 Had:Int
 Began:Bool
  deriving DecidableEq
def Job.enc (x:Job):List Go.VC.D:=[.int .i64 x.Task,.int .i64 x.At,.int .i64 x.Due,.int .i64 x.Want,.int .i64 x.Had,.bool x.Began]
structure Window where
 Part:Int
 From:Int
 Len:Int
  deriving DecidableEq
def Window.enc (x:Window):List Go.VC.D:=[.int .i64 x.Part,.int .i64 x.From,.int .i64 x.Len]
structure Imagereader where
 b:List Int
 at':Int
 e:Int
  deriving DecidableEq
structure Sec where
 Res:Int
 At:Int
 Len:Int
  deriving DecidableEq
def Sec.enc (x:Sec):List Go.VC.D:=[.int .i64 x.Res,.int .i64 x.At,.int .i64 x.Len]
structure Ref18Row where
 Port:Port
 Under:List Int
 Got:List Int
  deriving DecidableEq
structure Synthlayer where
 l:List Face
 wants:List Int
  deriving DecidableEq
structure TableTable where
 Frame:Int
 Windows:List Window
  deriving DecidableEq
def TableTable.enc (x:TableTable):List Go.VC.D:=[.int .i64 x.Frame,.sl (x.Windows.map Window.enc)]
structure Task where
 C:Int
 D:Int
 T:Int
 Secs:List Sec
  deriving DecidableEq
def Task.enc (x:Task):List Go.VC.D:=[.int .i64 x.C,.int .i64 x.D,.int .i64 x.T,.sl (x.Secs.map Sec.enc)]
structure KernelCmd where
 Part:Int
 Kind:Int
 I:Int
 V:Int
 T:Task
  deriving DecidableEq
def KernelCmd.enc (x:KernelCmd):List Go.VC.D:=[.int .i64 x.Part,.int .i64 x.Kind,.int .i64 x.I,.int .i64 x.V,.int .i64 x.T.C,.int .i64 x.T.D,.int .i64 x.T.T,.sl (x.T.Secs.map Sec.enc)]
structure Law21Step where
 Cmds:List KernelCmd
  deriving DecidableEq
def Law21Step.enc (x:Law21Step):List Go.VC.D:=[.sl (x.Cmds.map KernelCmd.enc)]
structure WorldView where
 Saws:List WorldSaw
 Ran:List Int
 Log:List Entry
  deriving DecidableEq
def WorldView.enc (x:WorldView):List Go.VC.D:=[.sl (x.Saws.map WorldSaw.enc),.sl (x.Ran.map (eI .i64)),.sl (x.Log.map Entry.enc)]
structure PartState where
 Tasks:List Task
 Leaves:List Bool
 Lasts:List Int
 Jobs:List Job
 Log:List Entry
  deriving DecidableEq
def PartState.enc (x:PartState):List Go.VC.D:=[.sl (x.Tasks.map Task.enc),.sl (x.Leaves.map eB),.sl (x.Lasts.map (eI .i64)),.sl (x.Jobs.map Job.enc),.sl (x.Log.map Entry.enc)]
structure Part where
 Face:Face
 Tasks:List Task
  deriving DecidableEq
def Part.enc (x:Part):List Go.VC.D:=[.int .i64 x.Face.P,.int .i64 x.Face.B,.sl (x.Tasks.map Task.enc)]
structure Ref17State where
 Tasks:List Task
 Leaves:List Bool
 Lasts:List Int
 Jobs:List Job
 Log:List Entry
  deriving DecidableEq
structure Parthand where
 book:Partbook
 s:PartState
  deriving DecidableEq
structure Config where
 Parts:List Part
 Ports:List Port
  deriving DecidableEq
def Config.enc (x:Config):List Go.VC.D:=[.sl (x.Parts.map Part.enc),.sl (x.Ports.map Port.enc)]
structure KernelState where
 Table:TableTable
 Faces:List Face
 Parts:List PartState
 Lines:List PortLine
 Now:Int
  deriving DecidableEq
def KernelState.enc (x:KernelState):List Go.VC.D:=[.int .i64 x.Table.Frame,.sl (x.Table.Windows.map Window.enc),.sl (x.Faces.map Face.enc),.sl (x.Parts.map PartState.enc),.sl (x.Lines.map PortLine.enc),.int .i64 x.Now]
def E_Bool:Bool→List CV:=fun r=>[.d (.bool r)]
def E_Int_Int_Int:(Int×Int×Int)→List CV:=fun r=>[.d (.int .i64 r.1),.d (.int .i64 r.2.1),.d (.int .i64 r.2.2)]
def E_KernelState_Int:(KernelState×Int)→List CV:=fun r=>[.agg (KernelState.enc r.1),.d (.int .i64 r.2)]
def E_ListPortLine_Int:((List PortLine)×Int)→List CV:=fun r=>[.d (.sl (r.1.map PortLine.enc)),.d (.int .i64 r.2)]
def E_RingRing_Int:(RingRing×Int)→List CV:=fun r=>[.agg (RingRing.enc r.1),.d (.int .i64 r.2)]
def E_TableTable_Int:(TableTable×Int)→List CV:=fun r=>[.agg (TableTable.enc r.1),.d (.int .i64 r.2)]
def E_ListInt_Int:((List Int)×Int)→List CV:=fun r=>[.d (.sl (r.1.map (eI .i64))),.d (.int .i64 r.2)]
def E_Int_Int:(Int×Int)→List CV:=fun r=>[.d (.int .i64 r.1),.d (.int .i64 r.2)]
def E_PartState_Int:(PartState×Int)→List CV:=fun r=>[.agg (PartState.enc r.1),.d (.int .i64 r.2)]
def E_Int:Int→List CV:=fun r=>[.d (.int .i64 r)]
def E_Bool_Int:(Bool×Int)→List CV:=fun r=>[.d (.bool r.1),.d (.int .i64 r.2)]
def E_Int_Bool_Int:(Int×Bool×Int)→List CV:=fun r=>[.d (.int .i64 r.1),.d (.bool r.2.1),.d (.int .i64 r.2.2)]
def E_KernelState_Int_Int:(KernelState×Int×Int)→List CV:=fun r=>[.agg (KernelState.enc r.1),.d (.int .i64 r.2.1),.d (.int .i64 r.2.2)]
def E_KernelState:KernelState→List CV:=fun r=>[.agg (KernelState.enc r)]
def E_RingRing:RingRing→List CV:=fun r=>[.agg (RingRing.enc r)]
def E_ListPortLine:(List PortLine)→List CV:=fun r=>[.d (.sl (r.map PortLine.enc))]
def E_Int_ListPortLine_Int:(Int×(List PortLine)×Int)→List CV:=fun r=>[.d (.int .i64 r.1),.d (.sl (r.2.1.map PortLine.enc)),.d (.int .i64 r.2.2)]
def E_Int_RingRing_Int:(Int×RingRing×Int)→List CV:=fun r=>[.d (.int .i64 r.1),.agg (RingRing.enc r.2.1),.d (.int .i64 r.2.2)]
def E_KernelState_ListInt_Int:(KernelState×(List Int)×Int)→List CV:=fun r=>[.agg (KernelState.enc r.1),.d (.sl (r.2.1.map (eI .i64))),.d (.int .i64 r.2.2)]
def E_PartState_Int_Int:(PartState×Int×Int)→List CV:=fun r=>[.agg (PartState.enc r.1),.d (.int .i64 r.2.1),.d (.int .i64 r.2.2)]
def E_ListJob_Job_Bool:((List Job)×Job×Bool)→List CV:=fun r=>[.d (.sl (r.1.map Job.enc)),.agg (Job.enc r.2.1),.d (.bool r.2.2)]
def E_ListInt:(List Int)→List CV:=fun r=>[.d (.sl (r.map (eI .i64)))]
def E_ListTask:(List Task)→List CV:=fun r=>[.d (.sl (r.map Task.enc))]
def E_ListBool:(List Bool)→List CV:=fun r=>[.d (.sl (r.map eB))]
def E_Config_Int_Int:(Config×Int×Int)→List CV:=fun r=>[.agg (Config.enc r.1),.d (.int .i64 r.2.1),.d (.int .i64 r.2.2)]
def E_ListWorldView_Int:((List WorldView)×Int)→List CV:=fun r=>[.d (.sl (r.1.map WorldView.enc)),.d (.int .i64 r.2)]
def E_ListListKernelCmd:(List (List KernelCmd))→List CV:=fun r=>[.d (.sl (r.map (eL KernelCmd.enc)))]
end Go.Proofs.YtldlcdnhdedoeaaGreat
namespace Go.Proofs.YtldlcdnhdedoeaaGreat
open Go Go.VC
def wfI (k:IntKind) (n:Int):Prop:=(Lit.int k n).wf=true
abbrev tyT:=T
def Sec.wf (x:Sec):Prop:=wfI .i64 x.Res∧wfI .i64 x.At∧wfI .i64 x.Len
theorem Sec.of {n:Nat} {ds:List Go.VC.D} (h:ShD tyT n 200 ds):∃x:Sec,ds=x.enc∧x.wf:=by
 obtain⟨m,q0⟩:=h.st T200
 clear h
 obtain⟨d0,r0,e0,h0,q1⟩:=q0.c
 obtain⟨y0,z0,w0⟩:=(h0.i T3)
 obtain⟨d1,r1,e1,h1,q2⟩:=q1.c
 obtain⟨y1,z1,w1⟩:=(h1.i T3)
 obtain⟨d2,r2,e2,h2,q3⟩:=q2.c
 obtain⟨y2,z2,w2⟩:=(h2.i T3)
 subst e0 z0 e1 z1 e2 z2
 cases q3
 exact⟨⟨y0,y1,y2⟩,rfl,w0,w1,w2⟩
def Task.wf (x:Task):Prop:=wfI .i64 x.C∧wfI .i64 x.D∧wfI .i64 x.T∧(x.Secs.length*24≤BB∧∀y1∈x.Secs,Sec.wf y1)
theorem Task.of {n:Nat} {ds:List Go.VC.D} (h:ShD tyT n 67 ds):∃x:Task,ds=x.enc∧x.wf:=by
 obtain⟨m,q0⟩:=h.st T67
 clear h
 obtain⟨d0,r0,e0,h0,q1⟩:=q0.c
 obtain⟨y0,z0,w0⟩:=(h0.i T3)
 obtain⟨d1,r1,e1,h1,q2⟩:=q1.c
 obtain⟨y1,z1,w1⟩:=(h1.i T3)
 obtain⟨d2,r2,e2,h2,q3⟩:=q2.c
 obtain⟨y2,z2,w2⟩:=(h2.i T3)
 obtain⟨d3,r3,e3,h3,q4⟩:=q3.c
 obtain⟨y3,z3,w3⟩:=(h3.l (f:=Sec.enc) (W:=(fun x=>Sec.wf x)) T65 T200 (fun _ _ h=>(Sec.of h)))
 subst e0 z0 e1 z1 e2 z2 e3 z3
 cases q4
 exact⟨⟨y0,y1,y2,y3⟩,rfl,w0,w1,w2,w3⟩
def KernelCmd.wf (x:KernelCmd):Prop:=wfI .i64 x.Part∧wfI .i64 x.Kind∧wfI .i64 x.I∧wfI .i64 x.V∧Task.wf x.T
theorem KernelCmd.of {n:Nat} {ds:List Go.VC.D} (h:ShD tyT n 69 ds):∃x:KernelCmd,ds=x.enc∧x.wf:=by
 obtain⟨m,q0⟩:=h.st T69
 clear h
 obtain⟨d0,r0,e0,h0,q1⟩:=q0.c
 obtain⟨y0,z0,w0⟩:=(h0.i T3)
 obtain⟨d1,r1,e1,h1,q2⟩:=q1.c
 obtain⟨y1,z1,w1⟩:=(h1.i T3)
 obtain⟨d2,r2,e2,h2,q3⟩:=q2.c
 obtain⟨y2,z2,w2⟩:=(h2.i T3)
 obtain⟨d3,r3,e3,h3,q4⟩:=q3.c
 obtain⟨y3,z3,w3⟩:=(h3.i T3)
 obtain⟨d4,r4,e4,h4,q5⟩:=q4.c
 obtain⟨y4,z4,w4⟩:=(Task.of h4)
 subst e0 z0 e1 z1 e2 z2 e3 z3 e4 z4
 cases q5
 exact⟨⟨y0,y1,y2,y3,y4⟩,rfl,w0,w1,w2,w3,w4⟩
def Law21Step.wf (x:Law21Step):Prop:=(x.Cmds.length*80≤BB∧∀y1∈x.Cmds,KernelCmd.wf y1)
theorem Law21Step.of {n:Nat} {ds:List Go.VC.D} (h:ShD tyT n 108 ds):∃x:Law21Step,ds=x.enc∧x.wf:=by
 obtain⟨m,q0⟩:=h.st T108
 clear h
 obtain⟨d0,r0,e0,h0,q1⟩:=q0.c
 obtain⟨y0,z0,w0⟩:=(h0.l (f:=KernelCmd.enc) (W:=(fun x=>KernelCmd.wf x)) T106 T69 (fun _ _ h=>(KernelCmd.of h)))
 subst e0 z0
 cases q1
 exact⟨⟨y0⟩,rfl,w0⟩
end Go.Proofs.YtldlcdnhdedoeaaGreat
