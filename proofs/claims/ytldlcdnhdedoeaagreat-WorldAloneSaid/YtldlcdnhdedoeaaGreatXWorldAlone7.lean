/- Part 18 of what follows is proved here: what the statement WorldAlone needs of functions and plain laws. -/
import Derived.Test.YtldlcdnhdedoeaaGreatXWorldAlone6
import Derived.Test.YtldlcdnhdedoeaaGreatV9
import Derived.Test.YtldlcdnhdedoeaaGreatV8
set_option linter.unusedVariables false
set_option linter.unusedSimpArgs false
set_option maxRecDepth 100000
set_option maxHeartbeats 40000000
namespace Go.VC
open Go.RowKit (Below)
/-! Slices whose elements hold slices of the call's own: a box of as many cells. -/
section
variable {P : Program} {T : TypeId → Option TI} {w0 : World} {p0 p : Nat → Prop} {σ : Nat → Value} {s : St} {tm : Array Value} {ups : List (Array Value)} {w w' : World} {K : St → Prop}

def boxN (N : Nat) (z : List LV) : List LV := match N with | 0 => [] | n + 1 => z ++ boxN n z
theorem boxN_length (z : List LV) : ∀ N, (boxN N z).length = N * z.length
  | 0 => by simp [boxN]
  | n + 1 => by rw [boxN, List.length_append, boxN_length z n, Nat.succ_mul, Nat.add_comm]
theorem boxN_get (z : List LV) (hz : 0 < z.length) : ∀ (N k : Nat), k < N * z.length → (boxN N z)[k]? = z[k % z.length]?
  | 0, k, h => by simp at h
  | n + 1, k, h => by
    rw [boxN]
    by_cases c : k < z.length
    · rw [List.getElem?_append_left c, Nat.mod_eq_of_lt c]
    · rw [List.getElem?_append_right (by omega), boxN_get z hz n (k - z.length) (by rw [Nat.succ_mul] at h; omega)]
      rw [← Nat.mod_eq_sub_mod (by omega)]
theorem mkB (hT : TabOk P T) {o : Oper} {t e : TypeId} {l c : Operand} {k1 k2 : IntKind} {n m : Int} {i ie : TI} (N : Nat) (ho : o.op = .makeSlice t l c) (hd : dstLt o.dst s.n = true) (hl : s.eval l = .l (.d (.int k1 n))) (hc : s.eval c = .l (.d (.int k2 m))) (hn : n = (N : Int)) (hm : m = (N : Int))
    (hi : T t = some i) (hk : i.k = .slice e) (hie : T e = some ie) (hb : N * ie.bytes ≤ 281474976710656) (hz : 0 < ie.zero.length) (hN : N ≤ 1000000) (hsz : ie.size = ie.zero.length)
    (h : keyX s.up o.dst fun key => fS (s.drop key) fun s => fLVs (boxN N ie.zero) fun cs => appX s o.dst { v := .l (.bsl key N ie.size), nb := some (key, cs) } K) : OpX P o s K := by
  subst hn; subst hm
  rw [keyX_eq, fS_eq, fLVs_eq, appX_eq] at h
  generalize hkey : keyOf s o.dst = key at h
  refine ⟨fun w0 p0 p σ tm ups w Q hr => ?_⟩
  have hf : Free key (s.drop key) := Free.drop _ _
  have h2 := hr.drop key
  have hl' := hr.eval (ds := []) l
  have hc' := hr.eval (ds := []) c
  rw [hl] at hl'
  rw [hc] at hc'
  have hu := desc_slice (hT.ok t i hi) hk
  obtain ⟨j, zv, h1, h2', h3, h4, h5, h6, h7⟩ := (hT.ok e ie hie).info
  have hrun := run_make (P := P) w t e j zv hu h1 h4 k1 k2 N N (by omega) (Int.le_refl _) (by have hb' : ((N * ie.bytes : Nat) : Int) ≤ 281474976710656 := by omega
                                                                                              rw [Int.natCast_mul] at hb'; rw [h3, Int.mul_comm]; exact hb') (by omega)
  simp only [Int.toNat_natCast] at hrun
  have hrep : All2 (RepL σ w p) ie.zero zv.cells.toList := by rw [← h5]; exact constL_rep_all _ σ w p
  have hzl : zv.cells.size = ie.zero.length := by rw [hrep.1, Array.length_toList]
  have hon : ∀ x ∈ boxN N ie.zero, x.on key = false := by
    intro x hx
    obtain ⟨q, hq⟩ := List.getElem?_of_mem hx
    have hql := (List.getElem?_eq_some_iff.1 hq).1
    rw [boxN_length] at hql
    rw [boxN_get _ hz _ _ hql] at hq
    have hx := List.mem_of_getElem? hq
    rw [← h5] at hx
    obtain ⟨v, _, rfl⟩ := List.mem_map.1 hx
    unfold constL
    split <;> rfl
  have hall : All2 (RepL σ w p) (boxN N ie.zero) (madeCells zv.cells (N * j.size)).toList := by
    have hjs : j.size = ie.zero.length := by rw [h2', hsz]
    refine ⟨by rw [boxN_length, Array.length_toList, size_madeCells, hjs], fun q x y hx hy => ?_⟩
    have hql := (List.getElem?_eq_some_iff.1 hx).1
    rw [boxN_length] at hql
    rw [boxN_get _ hz _ _ hql] at hx
    rw [Array.getElem?_toList] at hy
    simp only [madeCells, Array.getElem?_map] at hy
    rw [Array.getElem?_range] at hy
    rw [hjs] at hy
    simp only [hql, if_true, Option.map_some, Option.some.injEq] at hy
    rw [hzl] at hy
    have hm : q % ie.zero.length < zv.cells.size := by rw [hzl]; exact Nat.mod_lt _ hz
    rw [getElem!_pos zv.cells _ hm] at hy
    refine hrep.2 (q % ie.zero.length) x y hx ?_
    rw [Array.getElem?_toList, Array.getElem?_eq_getElem hm, hy]
  have hnew := h2.newBoxF key _ _ e hall hf hon
  have hexec : (execOp (Act.eval ⟨tm, []⟩) o).run P w = .ok (.value (.slice (some ⟨w.heap.size, 0, none⟩) N N)) (w.alloc (.cells (madeCells zv.cells (N * j.size)).toList.toArray e)) := by
    unfold execOp
    simp only [ho]
    rw [RepD_int hl', RepD_int hc']
    simp only [Sem.run_bind]
    rw [hrun, Array.toArray_toList]
    rfl
  unfold Oper.wp
  rw [hexec, Oper.upon_value]
  exact ⟨by cases o.dst <;> rfl, _, p, _, h, hnew.put o.dst (.l (.bsl key N ie.size)) _ (fun d e => by show d < (s.drop key).n; exact dstLt_spec hd d e) ⟨by unfold maxLen; omega, w.heap.size, upd_same _ _ _, rfl⟩ []⟩
theorem mkB0 (hT : TabOk P T) {o : Oper} {t e : TypeId} {l c : Operand} {k1 k2 : IntKind} {n m : Int} {i ie : TI} (ho : o.op = .makeSlice t l c) (hd : dstLt o.dst s.n = true) (hl : s.eval l = .l (.d (.int k1 n))) (hc : s.eval c = .l (.d (.int k2 m))) (hn : n = 0) (hm : m = 0)
    (hi : T t = some i) (hk : i.k = .slice e) (hie : T e = some ie) (h : putX s o.dst (.l (.d (.sl []))) K) : OpX P o s K := by
  subst hn; subst hm
  rw [putX_eq] at h
  refine ⟨fun w0 p0 p σ tm ups w Q hr => ?_⟩
  have hl' := hr.eval (ds := []) l
  have hc' := hr.eval (ds := []) c
  rw [hl] at hl'
  rw [hc] at hc'
  have hu := desc_slice (hT.ok t i hi) hk
  obtain ⟨j, zv, h1, h2', h3, h4, h5, h6, h7⟩ := (hT.ok e ie hie).info
  have hrun := run_make (P := P) w t e j zv hu h1 h4 k1 k2 0 0 (by omega) (Int.le_refl _) (by simp) (by omega)
  have hexec : (execOp (Act.eval ⟨tm, []⟩) o).run P w = .ok (.value (.slice (some ⟨w.heap.size, 0, none⟩) 0 0)) (w.alloc (.cells (madeCells zv.cells (Int.toNat 0 * j.size)) e)) := by
    unfold execOp
    simp only [ho]
    rw [RepD_int hl', RepD_int hc']
    simp only [Sem.run_bind]
    rw [hrun]
    rfl
  unfold Oper.wp
  rw [hexec, Oper.upon_value]
  have hbel : Below w.heap.size w (w.alloc (.cells (madeCells zv.cells (Int.toNat 0 * j.size)) e)) := ⟨rfl, rfl, rfl, by show _ ≤ (w.heap.push _).size; simp, fun b hb => by
    show (w.heap.push _)[b]? = _
    rw [Array.getElem?_push_lt hb, Array.getElem?_eq_getElem hb]⟩
  have hrel := hr.called hbel (p' := p) (fun _ h => h) (fun b h => .inl h) (fun b h => Nat.lt_of_lt_of_le (hr.plt b h) hbel.size)
  refine ⟨by cases o.dst <;> rfl, _, p, σ, h, hrel.put o.dst _ _ (dstLt_spec hd) ?_ []⟩
  exact RepD.sl [] 0 _ 0 (fun _ _ => undef) (Nat.le_refl _) (by unfold maxLen; omega) (fun e => by cases e) (fun ad e hn => absurd rfl hn) (fun r hr => by cases hr) (fun ad i j r x e h1 => by simp at h1) (fun i j r x h1 => by simp at h1)
theorem lenB (hT : TabOk P T) {o : Oper} {t e : TypeId} {x : Operand} {k n sz : Nat} {i : TI} (ho : o.op = .call ⟨.builtin .len, #[x], #[t]⟩) (hd : dstLt o.dst s.n = true) (hx : s.eval x = .l (.bsl k n sz)) (hi : T t = some i) (hk : i.k = .slice e) (h : putX s o.dst (.l (.d (.int .i64 (n : Int)))) K) : OpX P o s K := by
  rw [putX_eq] at h
  refine OpX.pure hd _ h fun w0 p0 p σ tm ups w hr => ⟨_, ?_, .int .i64 (n : Int)⟩
  have hx' := hr.eval (ds := []) x
  rw [hx] at hx'
  obtain ⟨_, b, _, hv⟩ := hx'
  have hu := desc_slice (hT.ok t i hi) hk
  have hev : (#[x] : Array Operand).map (Act.eval ⟨tm, []⟩) = #[Value.slice (some ⟨b, 0, none⟩) n n] := by rw [← hv]; simp
  rw [run_exec_builtin ho rfl]
  simp only [hev, builtin, Builtin.len_, Sem.run_bind, run_underlying hu, Sem.run_pure, Result.andThen_ok, goInt]
  simp [Builtin.len_, run_underlying hu, goInt]
/-- A row of bytes that is turned to its own type: nothing will be written there. -/
theorem cvO {o : Oper} {t e : TypeId} {x : Operand} {k : Nat} {z : Own} (ho : o.op = .convert t t x) (hd : dstLt o.dst s.n = true) (hx : s.eval x = .l (.own k)) (hz : assoc s.o k = some z) (hn : z.2.2.isEmpty = false) (hu : P.underlying t = some (.slice e)) (hue : P.underlying e = some (.int .u8))
    (h : fS (s.drop k) fun s => putX s o.dst (.l (.d (.sl z.2.2))) K) : OpX P o s K := by
  rw [fS_eq, putX_eq] at h
  refine ⟨fun w0 p0 p σ tm ups w Q hr => ?_⟩
  have hx' := hr.eval (ds := []) x
  rw [hx] at hx'
  have hlive : s.live k := .inr (by rw [hz]; rfl)
  obtain ⟨xs, ho1, ho2, ho3, ho4⟩ := hr.o k z hz
  obtain ⟨hv, _⟩ := hx'
  rcases ho1.2 with ⟨_, h0⟩ | ⟨g, cap, cur, hs, hb, hg, hnc, hcm, hcs, htake⟩
  · rw [List.length_eq_zero_iff.1 h0] at hn; cases hn
  have hlt : g < w.heap.size := (Array.getElem?_eq_some_iff.1 hg).1
  let w' : World := w.freeze ⟨g, cur.size, none⟩ 1
  have hblk : ∀ b, b ≠ g → w'.heap[b]? = w.heap[b]? := fun b hb => by
    show (w.heap.modify g _)[b]? = _
    rw [Array.getElem?_modify, if_neg (fun c => hb c.symm)]
  have hg' : w'.heap[g]? = some (.cells cur z.1 (cur.size, cur.size + 1)) := by
    show (w.heap.modify g _)[g]? = _
    rw [Array.getElem?_modify, if_pos rfl, hg]
    rfl
  have hexec : (execOp (Act.eval ⟨tm, []⟩) o).run P w = .ok (.value (σ k)) w' := by
    unfold execOp
    have hsh : w.shape? g = some (z.1, cur.size) := by unfold World.shape?; rw [hg]
    simp only [ho]
    rw [hv, hs]
    simp [convert, run_underlying hu, run_underlying hue, markStringish, hsh]
    rfl
  unfold Oper.wp
  rw [hexec, Oper.upon_value]
  have hbel : Below w0.heap.size w0 w' := ⟨hr.below.os, hr.below.tape, hr.below.output, by show _ ≤ (w.heap.modify g _).size; rw [Array.size_modify]; exact hr.below.size, fun b hb' => by
    rw [hblk b (by omega)]; exact hr.below.block b hb'⟩
  have hsz : w.heap.size ≤ w'.heap.size := by show _ ≤ (w.heap.modify g _).size; rw [Array.size_modify]; exact Nat.le_refl _
  have hσg : blk (σ k) = some g := by rw [hs]; rfl
  have h1 := hr.step (σ' := σ) k (fun _ _ => rfl) hbel (fun q hq hc => hblk q fun e => by
    subst e
    rcases hc with hc | ⟨j, hj, hl, hjg⟩
    · exact ho4 q hσg hc
    · exact hj (hr.apart j k q hl hlive hjg hσg)) hsz
  have h2 := h1.freeze hb (by omega) (fun j hj hjg => (live_drop hj).1 (hr.apart j k g (live_drop hj).2 hlive hjg hσg))
  refine ⟨by cases o.dst <;> rfl, _, _, σ, h, h2.put o.dst _ _ (dstLt_spec hd) ?_ []⟩
  have hpw : ∀ b, p b → w'.heap[b]? = w.heap[b]? := fun b hb' => hblk b fun e => ho4 g hσg (e ▸ hb')
  rw [hs]
  refine RepD.sl z.2.2 z.2.1 _ cap (fun i j => xs.getD (i * z.2.1 + j) undef) hnc hcm (fun e => by cases e) (fun ad e _ => .inr (by cases e; rfl)) ho2 ?_ ?_
  · intro ad i j r x e hi hj
    cases e
    have hjl : j < z.2.1 := by rw [← ho2 r (List.mem_of_getElem? hi)]; exact (List.getElem?_eq_some_iff.1 hj).1
    have hf := flatten_get z.2.1 z.2.2 ho2 i j hjl
    rw [hi, Option.bind_some, hj] at hf
    obtain ⟨u, hu', hru⟩ := ho3.get hf
    have hc := ho1.cells (g := g) (by rw [hs]; rfl) _ u hu'
    rw [List.getD_eq_getElem?_getD, hu', Option.getD_some]
    have hcell : ∀ (W : World) (fz : Nat × Nat), W.heap[g]? = some (.cells cur z.1 fz) → W.cell? ⟨g, i * z.2.1 + j, none⟩ = cur[i * z.2.1 + j]? := by
      intro W fz hW
      simp [World.cell?, hW]
    have e2 : (⟨g, 0, none⟩ : Addr).add (i * z.2.1 + j) = ⟨g, i * z.2.1 + j, none⟩ := by unfold Addr.add; split <;> simp_all
    rw [e2] at hc ⊢
    rw [hcell w' _ hg', ← hcell w _ hg]
    exact hc
  · intro i j r x hi hj
    have hjl : j < z.2.1 := by rw [← ho2 r (List.mem_of_getElem? hi)]; exact (List.getElem?_eq_some_iff.1 hj).1
    have hf := flatten_get z.2.1 z.2.2 ho2 i j hjl
    rw [hi, Option.bind_some, hj] at hf
    obtain ⟨u, hu', hru⟩ := ho3.get hf
    rw [List.getD_eq_getElem?_getD, hu', Option.getD_some]
    exact (hru.mono hpw (fun _ h => h)).mono (fun _ _ => rfl) (fun _ h => .inl h)
/-- The ways out of a call that is walked in place meet. -/
theorem inJ {α R : Type} {r : R} {Y : α → Option R} {X : (α → Option R) → Option R} {f : FuncId} {args : List AV} {dst : Option Nat} (st : α → St) (h : jn Y X = some r)
    (h1 : ∀ (k : α → Option R) (hk : ∀ v, k v = some r → Y v = some r), X k = some r → CallX P f args s dst fun s' => ∃ s2, Weak s' s2 ∧ ∃ v, s2 = st v ∧ Y v = some r)
    (h2 : ∀ v, Y v = some r → K (st v)) : CallX P f args s dst K :=
  ⟨(h1 Y (fun _ h => h) h).h.mono fun r s' ⟨hn, s2, hw, s3, hw2, v, hv, hy⟩ => ⟨hn, s3, hw.trans hw2, hv ▸ h2 v hy⟩⟩
theorem fkN {R : Type} {r : R} {b : Bool} {x y : Option R} {X Y : Prop} (h : fk b x y = some r) (h1 : b = true → x = some r → X) (h2 : b = false → y = some r → Y) : forkK b X Y := by
  cases b
  · exact h2 rfl h
  · exact h1 rfl h
theorem lpX {α R : Type} {r : R} {body : (α → Option R) → α → Option R} {n : Nat} {v0 : α} {xb : (Exit → St → Prop) → St → Prop} {Q : Exit → St → Prop} (st : α → St) (h : lp body n v0 = some r) (hw : WkF s (st v0))
    (step : ∀ (n : Nat) (nx : α → Option R) (hn : ∀ v', nx v' = some r → lp body n v' = some r) (v : α), body nx v = some r → xb (fun e s' => match e with | .normal => ∃ n' s2, n' < n + 1 ∧ Weak s' s2 ∧ ∃ v', s2 = st v' ∧ lp body n' v' = some r | e => Q e s') (st v)) : LoopVC xb Q s := lpS st h hw.h step
/-- Few numbers, one by one. -/
theorem mkF {R : Type} {r : R} {b : Bool} {x y : Option R} {G : Prop} (h : fk b x y = some r) (h1 : b = true → x = some r → G) (h2 : y = some r → G) : G := by
  cases b
  · exact h2 h
  · exact h1 rfl h
end
end Go.VC
namespace Go.Proofs.YtldlcdnhdedoeaaGreat
open Go Go.VC
structure Face where
 P:Int
 B:Int
  deriving DecidableEq
def Face.enc (x:Face):List Go.VC.D:=[.int .i64 x.P,.int .i64 x.B]
structure Port where
 From:Int
 To:Int
 Cap:Int
  deriving DecidableEq
def Port.enc (x:Port):List Go.VC.D:=[.int .i64 x.From,.int .i64 x.To,.int .i64 x.Cap]
structure RingRing where
 Buf:List Int
 First:Int
 Many:Int
  deriving DecidableEq
def RingRing.enc (x:RingRing):List Go.VC.D:=[.sl (x.Buf.map (eI .i64)),.int .i64 x.First,.int .i64 x.Many]
structure PortLine where
 Port:Port
 Under:RingRing
 Got:RingRing
  deriving DecidableEq
def PortLine.enc (x:PortLine):List Go.VC.D:=[.int .i64 x.Port.From,.int .i64 x.Port.To,.int .i64 x.Port.Cap,.sl (x.Under.Buf.map (eI .i64)),.int .i64 x.Under.First,.int .i64 x.Under.Many,.sl (x.Got.Buf.map (eI .i64)),.int .i64 x.Got.First,.int .i64 x.Got.Many]
structure WorldSaw where
 At:Int
 Value:Int
 Err:Int
  deriving DecidableEq
def WorldSaw.enc (x:WorldSaw):List Go.VC.D:=[.int .i64 x.At,.int .i64 x.Value,.int .i64 x.Err]
structure Entry where
 At:Int
 Kind:Int
 Task:Int
  deriving DecidableEq
def Entry.enc (x:Entry):List Go.VC.D:=[.int .i64 x.At,.int .i64 x.Kind,.int .i64 x.Task]
structure Partbook where
 log:List Entry
 now:Int
  deriving DecidableEq
structure Job where
 Task:Int
 At:Int
 Due:Int
 Want:Int
 Had:Int
 Began:Bool
  deriving DecidableEq
def Job.enc (x:Job):List Go.VC.D:=[.int .i64 x.Task,.int .i64 x.At,.int .i64 x.Due,.int .i64 x.Want,.int .i64 x.Had,.bool x.Began]
structure Window where
 Part:Int
 From:Int
 Len:Int
  deriving DecidableEq
def Window.enc (x:Window):List Go.VC.D:=[.int .i64 x.Part,.int .i64 x.From,.int .i64 x.Len]
structure Imagereader where
 b:List Int
 at':Int
 e:Int
  deriving DecidableEq
structure Sec where
 Res:Int
 At:Int
 Len:Int
  deriving DecidableEq
def Sec.enc (x:Sec):List Go.VC.D:=[.int .i64 x.Res,.int .i64 x.At,.int .i64 x.Len]
structure Ref18Row where
 Port:Port
 Under:List Int
 Got:List Int
  deriving DecidableEq
structure Synthlayer where
 l:List Face
 wants:List Int
  deriving DecidableEq
structure TableTable where
 Frame:Int
 Windows:List Window
  deriving DecidableEq
def TableTable.enc (x:TableTable):List Go.VC.D:=[.int .i64 x.Frame,.sl (x.Windows.map Window.enc)]
structure Task where
 C:Int
 D:Int
 T:Int
 Secs:List Sec
  deriving DecidableEq
def Task.enc (x:Task):List Go.VC.D:=[.int .i64 x.C,.int .i64 x.D,.int .i64 x.T,.sl (x.Secs.map Sec.enc)]
structure KernelCmd where
 Part:Int
 Kind:Int
 I:Int
 V:Int
 T:Task
  deriving DecidableEq
def KernelCmd.enc (x:KernelCmd):List Go.VC.D:=[.int .i64 x.Part,.int .i64 x.Kind,.int .i64 x.I,.int .i64 x.V,.int .i64 x.T.C,.int .i64 x.T.D,.int .i64 x.T.T,.sl (x.T.Secs.map Sec.enc)]
structure Law21Step where
 Cmds:List KernelCmd
  deriving DecidableEq
def Law21Step.enc (x:Law21Step):List Go.VC.D:=[.sl (x.Cmds.map KernelCmd.enc)]
structure WorldView where
 Saws:List WorldSaw
 Ran:List Int
 Log:List Entry
  deriving DecidableEq
def WorldView.enc (x:WorldView):List Go.VC.D:=[.sl (x.Saws.map WorldSaw.enc),.sl (x.Ran.map (eI .i64)),.sl (x.Log.map Entry.enc)]
structure PartState where
 Tasks:List Task
 Leaves:List Bool
 Lasts:List Int
 Jobs:List Job
 Log:List Entry
  deriving DecidableEq
def PartState.enc (x:PartState):List Go.VC.D:=[.sl (x.Tasks.map Task.enc),.sl (x.Leaves.map eB),.sl (x.Lasts.map (eI .i64)),.sl (x.Jobs.map Job.enc),.sl (x.Log.map Entry.enc)]
structure Part where
 Face:Face
 Tasks:List Task
  deriving DecidableEq
def Part.enc (x:Part):List Go.VC.D:=[.int .i64 x.Face.P,.int .i64 x.Face.B,.sl (x.Tasks.map Task.enc)]
structure Ref17State where
 Tasks:List Task
 Leaves:List Bool
 Lasts:List Int
 Jobs:List Job
 Log:List Entry
  deriving DecidableEq
structure Parthand where
 book:Partbook
 s:PartState
  deriving DecidableEq
structure Config where
 Parts:List Part
 Ports:List Port
  deriving DecidableEq
def Config.enc (x:Config):List Go.VC.D:=[.sl (x.Parts.map Part.enc),.sl (x.Ports.map Port.enc)]
structure KernelState where
 Table:TableTable
 Faces:List Face
 Parts:List PartState
 Lines:List PortLine
 Now:Int
  deriving DecidableEq
def KernelState.enc (x:KernelState):List Go.VC.D:=[.int .i64 x.Table.Frame,.sl (x.Table.Windows.map Window.enc),.sl (x.Faces.map Face.enc),.sl (x.Parts.map PartState.enc),.sl (x.Lines.map PortLine.enc),.int .i64 x.Now]
def E_Bool:Bool→List CV:=fun r=>[.d (.bool r)]
def E_Int_Int_Int:(Int×Int×Int)→List CV:=fun r=>[.d (.int .i64 r.1),.d (.int .i64 r.2.1),.d (.int .i64 r.2.2)]
def E_KernelState_Int:(KernelState×Int)→List CV:=fun r=>[.agg (KernelState.enc r.1),.d (.int .i64 r.2)]
def E_ListPortLine_Int:((List PortLine)×Int)→List CV:=fun r=>[.d (.sl (r.1.map PortLine.enc)),.d (.int .i64 r.2)]
def E_RingRing_Int:(RingRing×Int)→List CV:=fun r=>[.agg (RingRing.enc r.1),.d (.int .i64 r.2)]
def E_TableTable_Int:(TableTable×Int)→List CV:=fun r=>[.agg (TableTable.enc r.1),.d (.int .i64 r.2)]
def E_ListInt_Int:((List Int)×Int)→List CV:=fun r=>[.d (.sl (r.1.map (eI .i64))),.d (.int .i64 r.2)]
def E_Int_Int:(Int×Int)→List CV:=fun r=>[.d (.int .i64 r.1),.d (.int .i64 r.2)]
def E_PartState_Int:(PartState×Int)→List CV:=fun r=>[.agg (PartState.enc r.1),.d (.int .i64 r.2)]
def E_Int:Int→List CV:=fun r=>[.d (.int .i64 r)]
def E_Bool_Int:(Bool×Int)→List CV:=fun r=>[.d (.bool r.1),.d (.int .i64 r.2)]
def E_Int_Bool_Int:(Int×Bool×Int)→List CV:=fun r=>[.d (.int .i64 r.1),.d (.bool r.2.1),.d (.int .i64 r.2.2)]
def E_KernelState_Int_Int:(KernelState×Int×Int)→List CV:=fun r=>[.agg (KernelState.enc r.1),.d (.int .i64 r.2.1),.d (.int .i64 r.2.2)]
def E_KernelState:KernelState→List CV:=fun r=>[.agg (KernelState.enc r)]
def E_RingRing:RingRing→List CV:=fun r=>[.agg (RingRing.enc r)]
def E_ListPortLine:(List PortLine)→List CV:=fun r=>[.d (.sl (r.map PortLine.enc))]
def E_Int_ListPortLine_Int:(Int×(List PortLine)×Int)→List CV:=fun r=>[.d (.int .i64 r.1),.d (.sl (r.2.1.map PortLine.enc)),.d (.int .i64 r.2.2)]
def E_Int_RingRing_Int:(Int×RingRing×Int)→List CV:=fun r=>[.d (.int .i64 r.1),.agg (RingRing.enc r.2.1),.d (.int .i64 r.2.2)]
def E_KernelState_ListInt_Int:(KernelState×(List Int)×Int)→List CV:=fun r=>[.agg (KernelState.enc r.1),.d (.sl (r.2.1.map (eI .i64))),.d (.int .i64 r.2.2)]
def E_PartState_Int_Int:(PartState×Int×Int)→List CV:=fun r=>[.agg (PartState.enc r.1),.d (.int .i64 r.2.1),.d (.int .i64 r.2.2)]
def E_ListJob_Job_Bool:((List Job)×Job×Bool)→List CV:=fun r=>[.d (.sl (r.1.map Job.enc)),.agg (Job.enc r.2.1),.d (.bool r.2.2)]
def E_ListInt:(List Int)→List CV:=fun r=>[.d (.sl (r.map (eI .i64)))]
def E_ListTask:(List Task)→List CV:=fun r=>[.d (.sl (r.map Task.enc))]
def E_ListBool:(List Bool)→List CV:=fun r=>[.d (.sl (r.map eB))]
def E_Config_Int_Int:(Config×Int×Int)→List CV:=fun r=>[.agg (Config.enc r.1),.d (.int .i64 r.2.1),.d (.int .i64 r.2.2)]
def E_ListWorldView_Int:((List WorldView)×Int)→List CV:=fun r=>[.d (.sl (r.1.map WorldView.enc)),.d (.int .i64 r.2)]
def E_ListListKernelCmd:(List (List KernelCmd))→List CV:=fun r=>[.d (.sl (r.map (eL KernelCmd.enc)))]
def E_ListLaw21Step:(List Law21Step)→List CV:=fun r=>[.d (.sl (r.map Law21Step.enc))]
end Go.Proofs.YtldlcdnhdedoeaaGreat
namespace Go.Proofs.YtldlcdnhdedoeaaGreat
open Go Go.VC
def wfI (k:IntKind) (n:Int):Prop:=(Lit.int k n).wf=true
abbrev tyT:=T
def Sec.wf (x:Sec):Prop:=wfI .i64 x.Res∧wfI .i64 x.At∧wfI .i64 x.Len
theorem Sec.of {n:Nat} {ds:List Go.VC.D} (h:ShD tyT n 200 ds):∃x:Sec,ds=x.enc∧x.wf:=by
 obtain⟨m,q0⟩:=h.st T200
 clear h
 obtain⟨d0,r0,e0,h0,q1⟩:=q0.c
 obtain⟨y0,z0,w0⟩:=(h0.i T3)
 obtain⟨d1,r1,e1,h1,q2⟩:=q1.c
 obtain⟨y1,z1,w1⟩:=(h1.i T3)
 obtain⟨d2,r2,e2,h2,q3⟩:=q2.c
 obtain⟨y2,z2,w2⟩:=(h2.i T3)
 subst e0 z0 e1 z1 e2 z2
 cases q3
 exact⟨⟨y0,y1,y2⟩,rfl,w0,w1,w2⟩
def Task.wf (x:Task):Prop:=wfI .i64 x.C∧wfI .i64 x.D∧wfI .i64 x.T∧(x.Secs.length*24≤BB∧∀y1∈x.Secs,Sec.wf y1)
theorem Task.of {n:Nat} {ds:List Go.VC.D} (h:ShD tyT n 67 ds):∃x:Task,ds=x.enc∧x.wf:=by
 obtain⟨m,q0⟩:=h.st T67
 clear h
 obtain⟨d0,r0,e0,h0,q1⟩:=q0.c
 obtain⟨y0,z0,w0⟩:=(h0.i T3)
 obtain⟨d1,r1,e1,h1,q2⟩:=q1.c
 obtain⟨y1,z1,w1⟩:=(h1.i T3)
 obtain⟨d2,r2,e2,h2,q3⟩:=q2.c
 obtain⟨y2,z2,w2⟩:=(h2.i T3)
 obtain⟨d3,r3,e3,h3,q4⟩:=q3.c
 obtain⟨y3,z3,w3⟩:=(h3.l (f:=Sec.enc) (W:=(fun x=>Sec.wf x)) T65 T200 (fun _ _ h=>(Sec.of h)))
 subst e0 z0 e1 z1 e2 z2 e3 z3
 cases q4
 exact⟨⟨y0,y1,y2,y3⟩,rfl,w0,w1,w2,w3⟩
def KernelCmd.wf (x:KernelCmd):Prop:=wfI .i64 x.Part∧wfI .i64 x.Kind∧wfI .i64 x.I∧wfI .i64 x.V∧Task.wf x.T
theorem KernelCmd.of {n:Nat} {ds:List Go.VC.D} (h:ShD tyT n 69 ds):∃x:KernelCmd,ds=x.enc∧x.wf:=by
 obtain⟨m,q0⟩:=h.st T69
 clear h
 obtain⟨d0,r0,e0,h0,q1⟩:=q0.c
 obtain⟨y0,z0,w0⟩:=(h0.i T3)
 obtain⟨d1,r1,e1,h1,q2⟩:=q1.c
 obtain⟨y1,z1,w1⟩:=(h1.i T3)
 obtain⟨d2,r2,e2,h2,q3⟩:=q2.c
 obtain⟨y2,z2,w2⟩:=(h2.i T3)
 obtain⟨d3,r3,e3,h3,q4⟩:=q3.c
 obtain⟨y3,z3,w3⟩:=(h3.i T3)
 obtain⟨d4,r4,e4,h4,q5⟩:=q4.c
 obtain⟨y4,z4,w4⟩:=(Task.of h4)
 subst e0 z0 e1 z1 e2 z2 e3 z3 e4 z4
 cases q5
 exact⟨⟨y0,y1,y2,y3,y4⟩,rfl,w0,w1,w2,w3,w4⟩
def Law21Step.wf (x:Law21Step):Prop:=(x.Cmds.length*80≤BB∧∀y1∈x.Cmds,KernelCmd.wf y1)
theorem Law21Step.of {n:Nat} {ds:List Go.VC.D} (h:ShD tyT n 108 ds):∃x:Law21Step,ds=x.enc∧x.wf:=by
 obtain⟨m,q0⟩:=h.st T108
 clear h
 obtain⟨d0,r0,e0,h0,q1⟩:=q0.c
 obtain⟨y0,z0,w0⟩:=(h0.l (f:=KernelCmd.enc) (W:=(fun x=>KernelCmd.wf x)) T106 T69 (fun _ _ h=>(KernelCmd.of h)))
 subst e0 z0
 cases q1
 exact⟨⟨y0⟩,rfl,w0⟩
end Go.Proofs.YtldlcdnhdedoeaaGreat
namespace Go.Proofs.YtldlcdnhdedoeaaGreat
open Go Go.VC
noncomputable def task_own (a0:Task):Option Bool:=
 fk (decide (a0.C≥(1:Int))) (fk (decide (a0.C≤a0.D)) (fk (decide (a0.D≤a0.T)) (fk (decide (a0.T≤(200:Int))) (some (decide ((a0.Secs.length:Int)≤(4:Int)))) (some false)) (some false)) (some false)) (some false)
theorem task_own_w (a0:Task) (r:Bool) (h:task_own a0=some r):Go.VC.Spec Tryz.prog 135 [.agg (Task.enc a0)] (fun y=>y=E_Bool r):=by
 refine Go.VC.Spec.of_xc (args:=[.agg (Task.enc a0)]) (fn:=Tryz.f135) tab ⟨[(0,[1]),(1,[2])],[],[],[]⟩ 31 [.tmp 2] rfl rfl rfl rfl rfl rfl ?_
 conv=>whnf
 refine fkS h (fun h=>?_) (fun h=>?_)
 ·conv=>whnf
  refine fkS h (fun h=>?_) (fun h=>?_)
  ·conv=>whnf
   refine fkS h (fun h=>?_) (fun h=>?_)
   ·conv=>whnf
    refine fkS h (fun h=>?_) (fun h=>?_)
    ·conv=>whnf
     refine lenS a0.Secs Sec.enc rfl ?_
     conv=>whnf
     exact rt (E:=E_Bool) h rfl
    conv=>whnf
    exact rt (E:=E_Bool) h rfl
   conv=>whnf
   exact rt (E:=E_Bool) h rfl
  conv=>whnf
  exact rt (E:=E_Bool) h rfl
 conv=>whnf
 exact rt (E:=E_Bool) h rfl
end Go.Proofs.YtldlcdnhdedoeaaGreat
namespace Go.Proofs.YtldlcdnhdedoeaaGreat
open Go Go.VC
noncomputable def task_may (a0:Task) (a1:Sec):Option Bool:=
 fk (decide (a1.Res≥(0:Int))) (fk (decide (a1.Res<(4:Int))) (fk (decide (a1.At≥(0:Int))) (fk (decide (a1.At<a0.C)) (fk (decide (a1.Len≥(1:Int))) (some (decide (a1.Len≤(wr (a0.C-a1.At))))) (some false)) (some false)) (some false)) (some false)) (some false)
theorem task_may_w (a0:Task) (a1:Sec) (r:Bool) (h:task_may a0 a1=some r):Go.VC.Spec Tryz.prog 136 [.agg (Task.enc a0),.agg (Sec.enc a1)] (fun y=>y=E_Bool r):=by
 refine Go.VC.Spec.of_xc (args:=[.agg (Task.enc a0),.agg (Sec.enc a1)]) (fn:=Tryz.f136) tab ⟨[(0,[2,3]),(1,[4])],[],[],[]⟩ 40 [.tmp 4] rfl rfl rfl rfl rfl rfl ?_
 conv=>whnf
 refine fkS h (fun h=>?_) (fun h=>?_)
 ·conv=>whnf
  refine fkS h (fun h=>?_) (fun h=>?_)
  ·conv=>whnf
   refine fkS h (fun h=>?_) (fun h=>?_)
   ·conv=>whnf
    refine fkS h (fun h=>?_) (fun h=>?_)
    ·conv=>whnf
     refine fkS h (fun h=>?_) (fun h=>?_)
     ·conv=>whnf
      exact rt (E:=E_Bool) h rfl
     conv=>whnf
     exact rt (E:=E_Bool) h rfl
    conv=>whnf
    exact rt (E:=E_Bool) h rfl
   conv=>whnf
   exact rt (E:=E_Bool) h rfl
  conv=>whnf
  exact rt (E:=E_Bool) h rfl
 conv=>whnf
 exact rt (E:=E_Bool) h rfl
end Go.Proofs.YtldlcdnhdedoeaaGreat
namespace Go.Proofs.YtldlcdnhdedoeaaGreat
open Go Go.VC
noncomputable def task_fits (a0:Sec) (a1:Sec):Option Bool:=
 fk (decide (a1.At≥(wr (a0.At+a0.Len)))) (some true) (fk (decide (a1.At<a0.At)) (some false) (fk (decide ((wr (a1.At+a1.Len))≤(wr (a0.At+a0.Len)))) (some (!decide (a0.Res=a1.Res))) (some false)))
theorem task_fits_w (a0:Sec) (a1:Sec) (r:Bool) (h:task_fits a0 a1=some r):Go.VC.Spec Tryz.prog 137 [.agg (Sec.enc a0),.agg (Sec.enc a1)] (fun y=>y=E_Bool r):=by
 refine Go.VC.Spec.of_xc (args:=[.agg (Sec.enc a0),.agg (Sec.enc a1)]) (fn:=Tryz.f137) tab ⟨[(0,[2,3]),(1,[2,3,5]),(2,[4]),(3,[2,3,14]),(4,[4]),(5,[4])],[],[],[]⟩ 38 [.tmp 4] rfl rfl rfl rfl rfl rfl ?_
 conv=>whnf
 refine fkS h (fun h=>?_) (fun h=>?_)
 ·conv=>whnf
  exact rt (E:=E_Bool) h rfl
 conv=>whnf
 refine fkS h (fun h=>?_) (fun h=>?_)
 ·conv=>whnf
  exact rt (E:=E_Bool) h rfl
 conv=>whnf
 refine fkS h (fun h=>?_) (fun h=>?_)
 ·conv=>whnf
  exact rt (E:=E_Bool) h rfl
 conv=>whnf
 exact rt (E:=E_Bool) h rfl
end Go.Proofs.YtldlcdnhdedoeaaGreat
namespace Go.Proofs.YtldlcdnhdedoeaaGreat
open Go Go.VC
noncomputable def task_Right (a0:Task):Option Bool:=
 bnd (task_own a0) fun x1=>fk (!x1) (some false) (lp (fun nx2 (v2:Int)=>fk (decide (v2<(a0.Secs.length:Int))) (ix a0.Secs v2 fun x3=>bnd (task_may a0 x3) fun x4=>fk (!x4) (some false) (ck (decide ((0:Int)≤(0:Int)) && decide ((0:Int)≤v2) && decide (v2≤(a0.Secs.length:Int))) (lp (fun nx5 (v5:Int)=>fk (decide (v5<(((a0.Secs.take v2.toNat).drop (0:Int).toNat).length:Int))) (ix ((a0.Secs.take v2.toNat).drop (0:Int).toNat) v5 fun x6=>bnd (task_fits x6 x3) fun x7=>fk x7 (nx5 (wr (v5+(1:Int)))) (some (decide ((0:Int)>(0:Int))))) (nx2 (wr (v2+(1:Int))))) FU (0:Int)))) (some (decide (a0.C>(0:Int))))) FU (0:Int))
theorem task_Right_w (a0:Task) (r:Bool) (h:task_Right a0=some r):Go.VC.Spec Tryz.prog 85 [.agg (Task.enc a0)] (fun y=>y=E_Bool r):=by
 refine Go.VC.Spec.of_xc (args:=[.agg (Task.enc a0)]) (fn:=Tryz.f85) tab ⟨[(0,[1]),(1,[1,9]),(2,[2]),(3,[1,11,12,13]),(4,[1,11,12,13,14]),(5,[1,3,4,11,12,13]),(6,[1,3,4,11,12,13,21]),(7,[2]),(8,[1,4,11,12,13,25,26,27]),(9,[1,4,11,12,13,25,26,27,28]),(10,[1,4,6,11,12,13,25,26,27]),(11,[1,4,11,12,13,25,26,27,33]),(12,[1]),(13,[1,4,11,12,13,25,26,27]),(14,[1,11,12,13]),(15,[2])],[],[],[]⟩ 40 [.tmp 2] rfl rfl rfl rfl rfl rfl ?_
 conv=>whnf
 refine caS (E:=E_Bool) h (task_own_w a0) rfl (fun _=>rfl) (fun x1 h=>?_)
 conv=>whnf
 refine fkS h (fun h=>?_) (fun h=>?_)
 ·conv=>whnf
  exact rt (E:=E_Bool) h rfl
 conv=>whnf
 refine lenS a0.Secs Sec.enc rfl ?_
 conv=>whnf
 refine lpS (fun v2=>⟨[(1,.l (.ptr 2 0)),(11,.l (.d (.sl (a0.Secs.map Sec.enc)))),(12,.l (.d (.int .i64 (a0.Secs.length:Int)))),(13,.l (.d (.int .i64 v2)))],40,[],[(2,[.d (.int .i64 a0.C),.d (.int .i64 a0.D),.d (.int .i64 a0.T),.d (.sl (a0.Secs.map Sec.enc))])],[]⟩) h (Weak.refl _) (fun _ nx2 hn2 v2 h=>?_)
 conv=>whnf
 refine fkS h (fun h=>?_) (fun h=>?_)
 ·conv=>whnf
  refine ixS (enc:=Sec.enc) h rfl (fun _=>rfl) (fun x3 h=>?_)
  conv=>whnf
  refine caS (E:=E_Bool) h (task_may_w a0 x3) rfl (fun _=>rfl) (fun x4 h=>?_)
  conv=>whnf
  refine fkS h (fun h=>?_) (fun h=>?_)
  ·conv=>whnf
   exact rt (E:=E_Bool) h rfl
  conv=>whnf
  refine slS (enc:=Sec.enc) h rfl rfl (.inl rfl) (fun _=>rfl) (fun h=>?_)
  conv=>whnf
  refine lenS ((a0.Secs.take v2.toNat).drop (0:Int).toNat) Sec.enc rfl ?_
  conv=>whnf
  refine lpS (fun v5=>⟨[(1,.l (.ptr 2 0)),(4,.l (.ptr 5 0)),(11,.l (.d (.sl (a0.Secs.map Sec.enc)))),(12,.l (.d (.int .i64 (a0.Secs.length:Int)))),(13,.l (.d (.int .i64 v2))),(25,.l (.d (.sl (((a0.Secs.take v2.toNat).drop (0:Int).toNat).map Sec.enc)))),(26,.l (.d (.int .i64 (((a0.Secs.take v2.toNat).drop (0:Int).toNat).length:Int)))),(27,.l (.d (.int .i64 v5)))],40,[],[(2,[.d (.int .i64 a0.C),.d (.int .i64 a0.D),.d (.int .i64 a0.T),.d (.sl (a0.Secs.map Sec.enc))]),(5,[.d (.int .i64 x3.Res),.d (.int .i64 x3.At),.d (.int .i64 x3.Len)])],[]⟩) h (Weak.refl _) (fun _ nx5 hn5 v5 h=>?_)
  conv=>whnf
  refine fkS h (fun h=>?_) (fun h=>?_)
  ·conv=>whnf
   refine ixS (enc:=Sec.enc) h rfl (fun _=>rfl) (fun x6 h=>?_)
   conv=>whnf
   refine caS (E:=E_Bool) h (task_fits_w x6 x3) rfl (fun _=>rfl) (fun x7 h=>?_)
   conv=>whnf
   refine fkS h (fun h=>?_) (fun h=>?_)
   ·conv=>whnf
    exact leS hn5 h (Weak.refl _)
   conv=>whnf
   exact rt (E:=E_Bool) h rfl
  conv=>whnf
  exact leS hn2 h (Weak.refl _)
 conv=>whnf
 exact rt (E:=E_Bool) h rfl
end Go.Proofs.YtldlcdnhdedoeaaGreat
namespace Go.Proofs.YtldlcdnhdedoeaaGreat
open Go Go.VC
noncomputable def task_All (a0:List Task):Option Bool:=
 lp (fun nx1 (v1:Int)=>fk (decide (v1<(a0.length:Int))) (ix a0 v1 fun x2=>bnd (task_Right x2) fun x3=>fk (!x3) (some false) (nx1 (wr (v1+(1:Int))))) (some (decide ((a0.length:Int)≤(8:Int))))) FU (0:Int)
theorem task_All_w (a0:List Task) (r:Bool) (h:task_All a0=some r):Go.VC.Spec Tryz.prog 64 [.d (.sl (a0.map Task.enc))] (fun y=>y=E_Bool r):=by
 refine Go.VC.Spec.of_xc (args:=[.d (.sl (a0.map Task.enc))]) (fn:=Tryz.f64) tab ⟨[(0,[0]),(1,[0,5,6,7]),(2,[0,5,6,7,8]),(3,[0,4,5,6,7]),(4,[0,5,6,7,13]),(5,[2]),(6,[0,5,6,7]),(7,[2])],[],[],[]⟩ 18 [.tmp 2] rfl rfl rfl rfl rfl rfl ?_
 conv=>whnf
 refine lenS a0 Task.enc rfl ?_
 conv=>whnf
 refine lpS (fun v1=>⟨[(0,.l (.d (.sl (a0.map Task.enc)))),(5,.l (.d (.sl (a0.map Task.enc)))),(6,.l (.d (.int .i64 (a0.length:Int)))),(7,.l (.d (.int .i64 v1)))],18,[],[],[]⟩) h (Weak.refl _) (fun _ nx1 hn1 v1 h=>?_)
 conv=>whnf
 refine fkS h (fun h=>?_) (fun h=>?_)
 ·conv=>whnf
  refine ixS (enc:=Task.enc) h rfl (fun _=>rfl) (fun x2 h=>?_)
  conv=>whnf
  refine caS (E:=E_Bool) h (task_Right_w x2) rfl (fun _=>rfl) (fun x3 h=>?_)
  conv=>whnf
  refine fkS h (fun h=>?_) (fun h=>?_)
  ·conv=>whnf
   exact rt (E:=E_Bool) h rfl
  conv=>whnf
  exact leS hn1 h (Weak.refl _)
 conv=>whnf
 refine lenS a0 Task.enc rfl ?_
 conv=>whnf
 exact rt (E:=E_Bool) h rfl
end Go.Proofs.YtldlcdnhdedoeaaGreat
namespace Go.Proofs.YtldlcdnhdedoeaaGreat
open Go Go.VC
noncomputable def police_Right (a0:List Task) (a1:List Int):Option Bool:=
 jn (fun (w1:Bool)=>fk w1 (some false) (lp (fun nx3 (v3:Int)=>fk (decide (v3<(a1.length:Int))) (ix a1 v3 fun x4=>jn (fun (w5:Bool)=>fk w5 (some false) (nx3 (wr (v3+(1:Int))))) (fun k5=>fk (decide (x4<(-1:Int))) (k5 true) (k5 (decide (x4>(4611686018427387903:Int)))))) (some true)) FU (0:Int))) (fun k1=>bnd (task_All a0) fun x2=>fk (!x2) (k1 true) (k1 (!decide ((a1.length:Int)=(a0.length:Int)))))
theorem police_Right_w (a0:List Task) (a1:List Int) (r:Bool) (h:police_Right a0 a1=some r):Go.VC.Spec Tryz.prog 120 [.d (.sl (a0.map Task.enc)),.d (.sl (a1.map (eI .i64)))] (fun y=>y=E_Bool r):=by
 refine Go.VC.Spec.of_xc (args:=[.d (.sl (a0.map Task.enc)),.d (.sl (a1.map (eI .i64)))]) (fn:=Tryz.f120) tab ⟨[(0,[0,1]),(1,[1,16]),(2,[4]),(3,[17,18,19]),(4,[17,18,19,20]),(5,[6,17,18,19]),(6,[17,18,19,28]),(7,[4]),(8,[17,18,19]),(9,[4])],[],[100016,100028],[]⟩ 30 [.tmp 4] rfl rfl rfl rfl rfl rfl ?_
 conv=>whnf
 refine jnS (fun w1=>⟨[(1,.l (.d (.sl (a1.map (eI .i64))))),(16,.l (.d (.bool w1)))],30,[],[],[]⟩) h (fun k1 hk1 h=>?_) (fun w1 h=>?_)
 ·conv=>whnf
  refine caS (E:=E_Bool) h (task_All_w a0) rfl (fun _=>rfl) (fun x2 h=>?_)
  conv=>whnf
  refine fkS h (fun h=>?_) (fun h=>?_)
  ·conv=>whnf
   exact jeS hk1 h (Weak.refl _)
  conv=>whnf
  refine lenS a1 (eI .i64) rfl ?_
  conv=>whnf
  refine lenS a0 Task.enc rfl ?_
  conv=>whnf
  exact jeS hk1 h (Weak.refl _)
 conv=>whnf
 refine fkS h (fun h=>?_) (fun h=>?_)
 ·conv=>whnf
  exact rt (E:=E_Bool) h rfl
 conv=>whnf
 refine lenS a1 (eI .i64) rfl ?_
 conv=>whnf
 refine lpS (fun v3=>⟨[(17,.l (.d (.sl (a1.map (eI .i64))))),(18,.l (.d (.int .i64 (a1.length:Int)))),(19,.l (.d (.int .i64 v3)))],30,[],[],[]⟩) h (Weak.refl _) (fun _ nx3 hn3 v3 h=>?_)
 conv=>whnf
 refine fkS h (fun h=>?_) (fun h=>?_)
 ·conv=>whnf
  refine ixS (enc:=(eI .i64)) h rfl (fun _=>rfl) (fun x4 h=>?_)
  conv=>whnf
  refine jnS (fun w5=>⟨[(17,.l (.d (.sl (a1.map (eI .i64))))),(18,.l (.d (.int .i64 (a1.length:Int)))),(19,.l (.d (.int .i64 v3))),(28,.l (.d (.bool w5)))],30,[],[],[]⟩) h (fun k5 hk5 h=>?_) (fun w5 h=>?_)
  ·conv=>whnf
   refine fkS h (fun h=>?_) (fun h=>?_)
   ·conv=>whnf
    exact jeS hk5 h (Weak.refl _)
   conv=>whnf
   exact jeS hk5 h (Weak.refl _)
  conv=>whnf
  refine fkS h (fun h=>?_) (fun h=>?_)
  ·conv=>whnf
   exact rt (E:=E_Bool) h rfl
  conv=>whnf
  exact leS hn3 h (Weak.refl _)
 conv=>whnf
 exact rt (E:=E_Bool) h rfl
end Go.Proofs.YtldlcdnhdedoeaaGreat
namespace Go.Proofs.YtldlcdnhdedoeaaGreat
open Go Go.VC
noncomputable def job_right (a0:List Task) (a1:Job):Option Bool:=
 jn (fun (w1:Bool)=>fk w1 (some false) (ix a0 a1.Task fun x2=>fk (decide (a1.Due=(wr (a1.At+x2.D)))) (fk (decide (a1.Want≥(1:Int))) (fk (decide (a1.Want≤(200:Int))) (fk (decide (a1.Had≥(0:Int))) (fk (decide (a1.Had<(if a1.Want<x2.C then a1.Want else x2.C))) (fk a1.Began (some true) (some (decide (a1.Had=(0:Int))))) (some false)) (some false)) (some false)) (some false)) (some false))) (fun k1=>fk (decide (a1.Task<(0:Int))) (k1 true) (fk (decide (a1.Task≥(a0.length:Int))) (k1 true) (fk (decide (a1.At<(0:Int))) (k1 true) (k1 (decide (a1.At>(4611686018427387703:Int)))))))
theorem job_right_w (a0:List Task) (a1:Job) (r:Bool) (h:job_right a0 a1=some r):Go.VC.Spec Tryz.prog 157 [.d (.sl (a0.map Task.enc)),.agg (Job.enc a1)] (fun y=>y=E_Bool r):=by
 refine Go.VC.Spec.of_xc (args:=[.d (.sl (a0.map Task.enc)),.agg (Job.enc a1)]) (fn:=Tryz.f157) tab ⟨[(0,[0,3]),(1,[0,3,25]),(2,[4]),(3,[3,5]),(4,[4])],[],[100025],[]⟩ 73 [.tmp 4] rfl rfl rfl rfl rfl rfl ?_
 conv=>whnf
 refine jnS (fun w1=>⟨[(0,.l (.d (.sl (a0.map Task.enc)))),(3,.l (.ptr 4 0)),(25,.l (.d (.bool w1)))],73,[],[(4,[.d (.int .i64 a1.Task),.d (.int .i64 a1.At),.d (.int .i64 a1.Due),.d (.int .i64 a1.Want),.d (.int .i64 a1.Had),.d (.bool a1.Began)])],[]⟩) h (fun k1 hk1 h=>?_) (fun w1 h=>?_)
 ·conv=>whnf
  refine fkS h (fun h=>?_) (fun h=>?_)
  ·conv=>whnf
   exact jeS hk1 h (Weak.refl _)
  conv=>whnf
  refine lenS a0 Task.enc rfl ?_
  conv=>whnf
  refine fkS h (fun h=>?_) (fun h=>?_)
  ·conv=>whnf
   exact jeS hk1 h (Weak.refl _)
  conv=>whnf
  refine fkS h (fun h=>?_) (fun h=>?_)
  ·conv=>whnf
   exact jeS hk1 h (Weak.refl _)
  conv=>whnf
  exact jeS hk1 h (Weak.refl _)
 conv=>whnf
 refine fkS h (fun h=>?_) (fun h=>?_)
 ·conv=>whnf
  exact rt (E:=E_Bool) h rfl
 conv=>whnf
 refine ixS (enc:=Task.enc) h rfl (fun _=>rfl) (fun x2 h=>?_)
 conv=>whnf
 refine fkS h (fun h=>?_) (fun h=>?_)
 ·conv=>whnf
  refine fkS h (fun h=>?_) (fun h=>?_)
  ·conv=>whnf
   refine fkS h (fun h=>?_) (fun h=>?_)
   ·conv=>whnf
    refine fkS h (fun h=>?_) (fun h=>?_)
    ·conv=>whnf
     refine fkS h (fun h=>?_) (fun h=>?_)
     ·conv=>whnf
      refine fkS h (fun h=>?_) (fun h=>?_)
      ·conv=>whnf
       exact rt (E:=E_Bool) h rfl
      conv=>whnf
      exact rt (E:=E_Bool) h rfl
     conv=>whnf
     exact rt (E:=E_Bool) h rfl
    conv=>whnf
    exact rt (E:=E_Bool) h rfl
   conv=>whnf
   exact rt (E:=E_Bool) h rfl
  conv=>whnf
  exact rt (E:=E_Bool) h rfl
 conv=>whnf
 exact rt (E:=E_Bool) h rfl
end Go.Proofs.YtldlcdnhdedoeaaGreat
namespace Go.Proofs.YtldlcdnhdedoeaaGreat
open Go Go.VC
noncomputable def job_All (a0:List Task) (a1:List Job):Option Bool:=
 jn (fun (w1:Bool)=>fk w1 (some false) (lp (fun nx3 (v3:Int)=>fk (decide (v3<(a1.length:Int))) (ix a1 v3 fun x4=>bnd (job_right a0 x4) fun x5=>fk (!x5) (some false) (ck (decide ((0:Int)≤(0:Int)) && decide ((0:Int)≤v3) && decide (v3≤(a1.length:Int))) (lp (fun nx6 (v6:Int)=>fk (decide (v6<(((a1.take v3.toNat).drop (0:Int).toNat).length:Int))) (ix ((a1.take v3.toNat).drop (0:Int).toNat) v6 fun x7=>jn (fun (w8:Bool)=>fk w8 (some false) (nx6 (wr (v6+(1:Int))))) (fun k8=>fk (decide (x4.Task=x7.Task)) (k8 (decide (x4.At=x7.At))) (k8 false))) (nx3 (wr (v3+(1:Int))))) FU (0:Int)))) (some true)) FU (0:Int))) (fun k1=>bnd (task_All a0) fun x2=>fk (!x2) (k1 true) (k1 (decide ((a1.length:Int)>(32:Int)))))
theorem job_All_w (a0:List Task) (a1:List Job) (r:Bool) (h:job_All a0 a1=some r):Go.VC.Spec Tryz.prog 121 [.d (.sl (a0.map Task.enc)),.d (.sl (a1.map Job.enc))] (fun y=>y=E_Bool r):=by
 refine Go.VC.Spec.of_xc (args:=[.d (.sl (a0.map Task.enc)),.d (.sl (a1.map Job.enc))]) (fn:=Tryz.f121) tab ⟨[(0,[0,1]),(1,[0,1,16]),(2,[4]),(3,[0,1,17,18,19]),(4,[0,1,17,18,19,20]),(5,[0,1,5,6,17,18,19]),(6,[0,1,5,6,17,18,19,27]),(7,[4]),(8,[0,1,6,17,18,19,30,31,32]),(9,[0,1,6,17,18,19,30,31,32,33]),(10,[0,1,6,8,17,18,19,30,31,32]),(11,[0,1,6,17,18,19,30,31,32,47]),(12,[4]),(13,[0,1,6,17,18,19,30,31,32]),(14,[0,1,17,18,19]),(15,[4])],[],[100016,100047],[]⟩ 50 [.tmp 4] rfl rfl rfl rfl rfl rfl ?_
 conv=>whnf
 refine jnS (fun w1=>⟨[(0,.l (.d (.sl (a0.map Task.enc)))),(1,.l (.d (.sl (a1.map Job.enc)))),(16,.l (.d (.bool w1)))],50,[],[],[]⟩) h (fun k1 hk1 h=>?_) (fun w1 h=>?_)
 ·conv=>whnf
  refine caS (E:=E_Bool) h (task_All_w a0) rfl (fun _=>rfl) (fun x2 h=>?_)
  conv=>whnf
  refine fkS h (fun h=>?_) (fun h=>?_)
  ·conv=>whnf
   exact jeS hk1 h (Weak.refl _)
  conv=>whnf
  refine lenS a1 Job.enc rfl ?_
  conv=>whnf
  exact jeS hk1 h (Weak.refl _)
 conv=>whnf
 refine fkS h (fun h=>?_) (fun h=>?_)
 ·conv=>whnf
  exact rt (E:=E_Bool) h rfl
 conv=>whnf
 refine lenS a1 Job.enc rfl ?_
 conv=>whnf
 refine lpS (fun v3=>⟨[(0,.l (.d (.sl (a0.map Task.enc)))),(1,.l (.d (.sl (a1.map Job.enc)))),(17,.l (.d (.sl (a1.map Job.enc)))),(18,.l (.d (.int .i64 (a1.length:Int)))),(19,.l (.d (.int .i64 v3)))],50,[],[],[]⟩) h (Weak.refl _) (fun _ nx3 hn3 v3 h=>?_)
 conv=>whnf
 refine fkS h (fun h=>?_) (fun h=>?_)
 ·conv=>whnf
  refine ixS (enc:=Job.enc) h rfl (fun _=>rfl) (fun x4 h=>?_)
  conv=>whnf
  refine caS (E:=E_Bool) h (job_right_w a0 x4) rfl (fun _=>rfl) (fun x5 h=>?_)
  conv=>whnf
  refine fkS h (fun h=>?_) (fun h=>?_)
  ·conv=>whnf
   exact rt (E:=E_Bool) h rfl
  conv=>whnf
  refine slS (enc:=Job.enc) h rfl rfl (.inl rfl) (fun _=>rfl) (fun h=>?_)
  conv=>whnf
  refine lenS ((a1.take v3.toNat).drop (0:Int).toNat) Job.enc rfl ?_
  conv=>whnf
  refine lpS (fun v6=>⟨[(0,.l (.d (.sl (a0.map Task.enc)))),(1,.l (.d (.sl (a1.map Job.enc)))),(6,.l (.ptr 7 0)),(17,.l (.d (.sl (a1.map Job.enc)))),(18,.l (.d (.int .i64 (a1.length:Int)))),(19,.l (.d (.int .i64 v3))),(30,.l (.d (.sl (((a1.take v3.toNat).drop (0:Int).toNat).map Job.enc)))),(31,.l (.d (.int .i64 (((a1.take v3.toNat).drop (0:Int).toNat).length:Int)))),(32,.l (.d (.int .i64 v6)))],50,[],[(7,[.d (.int .i64 x4.Task),.d (.int .i64 x4.At),.d (.int .i64 x4.Due),.d (.int .i64 x4.Want),.d (.int .i64 x4.Had),.d (.bool x4.Began)])],[]⟩) h (Weak.refl _) (fun _ nx6 hn6 v6 h=>?_)
  conv=>whnf
  refine fkS h (fun h=>?_) (fun h=>?_)
  ·conv=>whnf
   refine ixS (enc:=Job.enc) h rfl (fun _=>rfl) (fun x7 h=>?_)
   conv=>whnf
   refine jnS (fun w8=>⟨[(0,.l (.d (.sl (a0.map Task.enc)))),(1,.l (.d (.sl (a1.map Job.enc)))),(6,.l (.ptr 7 0)),(17,.l (.d (.sl (a1.map Job.enc)))),(18,.l (.d (.int .i64 (a1.length:Int)))),(19,.l (.d (.int .i64 v3))),(30,.l (.d (.sl (((a1.take v3.toNat).drop (0:Int).toNat).map Job.enc)))),(31,.l (.d (.int .i64 (((a1.take v3.toNat).drop (0:Int).toNat).length:Int)))),(32,.l (.d (.int .i64 v6))),(47,.l (.d (.bool w8)))],50,[],[(7,[.d (.int .i64 x4.Task),.d (.int .i64 x4.At),.d (.int .i64 x4.Due),.d (.int .i64 x4.Want),.d (.int .i64 x4.Had),.d (.bool x4.Began)])],[]⟩) h (fun k8 hk8 h=>?_) (fun w8 h=>?_)
   ·conv=>whnf
    refine fkS h (fun h=>?_) (fun h=>?_)
    ·conv=>whnf
     exact jeS hk8 h (Weak.refl _)
    conv=>whnf
    exact jeS hk8 h (Weak.refl _)
   conv=>whnf
   refine fkS h (fun h=>?_) (fun h=>?_)
   ·conv=>whnf
    exact rt (E:=E_Bool) h rfl
   conv=>whnf
   exact leS hn6 h (Weak.refl _)
  conv=>whnf
  exact leS hn3 h (Weak.refl _)
 conv=>whnf
 exact rt (E:=E_Bool) h rfl
end Go.Proofs.YtldlcdnhdedoeaaGreat
namespace Go.Proofs.YtldlcdnhdedoeaaGreat
open Go Go.VC
noncomputable def part_Right (a0:PartState):Option Bool:=
 fk (decide ((a0.Leaves.length:Int)=(a0.Tasks.length:Int))) (bnd (police_Right a0.Tasks a0.Lasts) fun x1=>fk x1 (bnd (job_All a0.Tasks a0.Jobs) fun x2=>fk x2 (some (decide ((a0.Log.length:Int)≤(2000:Int)))) (some false)) (some false)) (some false)
theorem part_Right_w (a0:PartState) (r:Bool) (h:part_Right a0=some r):Go.VC.Spec Tryz.prog 61 [.agg (PartState.enc a0)] (fun y=>y=E_Bool r):=by
 refine Go.VC.Spec.of_xc (args:=[.agg (PartState.enc a0)]) (fn:=Tryz.f61) tab ⟨[(0,[1]),(1,[2])],[],[],[]⟩ 30 [.tmp 2] rfl rfl rfl rfl rfl rfl ?_
 conv=>whnf
 refine lenS a0.Leaves eB rfl ?_
 conv=>whnf
 refine lenS a0.Tasks Task.enc rfl ?_
 conv=>whnf
 refine fkS h (fun h=>?_) (fun h=>?_)
 ·conv=>whnf
  refine caS (E:=E_Bool) h (police_Right_w a0.Tasks a0.Lasts) rfl (fun _=>rfl) (fun x1 h=>?_)
  conv=>whnf
  refine fkS h (fun h=>?_) (fun h=>?_)
  ·conv=>whnf
   refine caS (E:=E_Bool) h (job_All_w a0.Tasks a0.Jobs) rfl (fun _=>rfl) (fun x2 h=>?_)
   conv=>whnf
   refine fkS h (fun h=>?_) (fun h=>?_)
   ·conv=>whnf
    refine lenS a0.Log Entry.enc rfl ?_
    conv=>whnf
    exact rt (E:=E_Bool) h rfl
   conv=>whnf
   exact rt (E:=E_Bool) h rfl
  conv=>whnf
  exact rt (E:=E_Bool) h rfl
 conv=>whnf
 exact rt (E:=E_Bool) h rfl
end Go.Proofs.YtldlcdnhdedoeaaGreat
namespace Go.Proofs.YtldlcdnhdedoeaaGreat
open Go Go.VC
noncomputable def supply_Right (a0:Face):Option Bool:=
 fk (decide (a0.B≥(1:Int))) (fk (decide (a0.B≤a0.P)) (some (decide (a0.P≤(200:Int)))) (some false)) (some false)
theorem supply_Right_w (a0:Face) (r:Bool) (h:supply_Right a0=some r):Go.VC.Spec Tryz.prog 84 [.agg (Face.enc a0)] (fun y=>y=E_Bool r):=by
 refine Go.VC.Spec.of_xc (args:=[.agg (Face.enc a0)]) (fn:=Tryz.f84) tab ⟨[(0,[1]),(1,[2])],[],[],[]⟩ 18 [.tmp 2] rfl rfl rfl rfl rfl rfl ?_
 conv=>whnf
 refine fkS h (fun h=>?_) (fun h=>?_)
 ·conv=>whnf
  refine fkS h (fun h=>?_) (fun h=>?_)
  ·conv=>whnf
   exact rt (E:=E_Bool) h rfl
  conv=>whnf
  exact rt (E:=E_Bool) h rfl
 conv=>whnf
 exact rt (E:=E_Bool) h rfl
end Go.Proofs.YtldlcdnhdedoeaaGreat
namespace Go.Proofs.YtldlcdnhdedoeaaGreat
open Go Go.VC
def E_fn_admit_unless:Bool×Int→List CV:=fun r=>[.d (.fn 134 [[.bool r.1],[.int .i64 r.2]])]
noncomputable def admit_unless (a0:Bool) (a1:Int):Option (Bool×Int):=
 some (a0,a1)
theorem admit_unless_w (a0:Bool) (a1:Int) (r:Bool×Int) (h:admit_unless a0 a1=some r):Go.VC.Spec Tryz.prog 83 [.d (.bool a0),.d (.int .i64 a1)] (fun y=>y=E_fn_admit_unless r):=by
 refine Go.VC.Spec.of_xc (args:=[.d (.bool a0),.d (.int .i64 a1)]) (fn:=Tryz.f83) tab ⟨[(0,[2,3]),(1,[4])],[],[],[]⟩ 6 [.tmp 4] rfl rfl rfl rfl rfl rfl ?_
 conv=>whnf
 exact rt (E:=E_fn_admit_unless) h rfl
end Go.Proofs.YtldlcdnhdedoeaaGreat
namespace Go.Proofs.YtldlcdnhdedoeaaGreat
open Go Go.VC
noncomputable def job_First_1 (a0:Job) (a1:Bool):Option Bool:=
 some (decide (a0.Began=a1))
theorem job_First_1_w (a0:Job) (a1:Bool) (r:Bool) (h:job_First_1 a0 a1=some r):Go.VC.Spec Tryz.prog 139 [.agg (Job.enc a0),.dp [.bool a1]] (fun y=>y=E_Bool r):=by
 refine Go.VC.Spec.of_xc (args:=[.agg (Job.enc a0),.dp [.bool a1]]) (fn:=Tryz.f139) tab ⟨[(0,[1,2]),(1,[3])],[],[],[]⟩ 8 [.tmp 3] rfl rfl rfl rfl rfl rfl ?_
 conv=>whnf
 exact rt (E:=E_Bool) h rfl
end Go.Proofs.YtldlcdnhdedoeaaGreat
namespace Go.Proofs.YtldlcdnhdedoeaaGreat
open Go Go.VC
noncomputable def job_Ahead (a0:Job) (a1:Job):Option Bool:=
 fk (!decide (a0.Due=a1.Due)) (some (decide (a0.Due<a1.Due))) (fk (!decide (a0.Task=a1.Task)) (some (decide (a0.Task<a1.Task))) (some (decide (a0.At<a1.At))))
theorem job_Ahead_w (a0:Job) (a1:Job) (r:Bool) (h:job_Ahead a0 a1=some r):Go.VC.Spec Tryz.prog 140 [.agg (Job.enc a0),.agg (Job.enc a1)] (fun y=>y=E_Bool r):=by
 refine Go.VC.Spec.of_xc (args:=[.agg (Job.enc a0),.agg (Job.enc a1)]) (fn:=Tryz.f140) tab ⟨[(0,[2,3]),(1,[2,3,5]),(2,[4]),(3,[2,3,16]),(4,[4]),(5,[4])],[],[],[]⟩ 32 [.tmp 4] rfl rfl rfl rfl rfl rfl ?_
 conv=>whnf
 refine fkS h (fun h=>?_) (fun h=>?_)
 ·conv=>whnf
  exact rt (E:=E_Bool) h rfl
 conv=>whnf
 refine fkS h (fun h=>?_) (fun h=>?_)
 ·conv=>whnf
  exact rt (E:=E_Bool) h rfl
 conv=>whnf
 exact rt (E:=E_Bool) h rfl
end Go.Proofs.YtldlcdnhdedoeaaGreat
namespace Go.Proofs.YtldlcdnhdedoeaaGreat
open Go Go.VC
noncomputable def job_first_api_Job (a0:List Job) (a1:Bool):Option Int:=
 lp (fun nx1 (v1:Int×Int)=>fk (decide (v1.2<(a0.length:Int))) (jn (fun (w2:Int)=>nx1 (w2,(wr (v1.2+(1:Int))))) (fun k2=>ix a0 v1.2 fun x3=>jn (fun (w4:Bool)=>fk w4 (k2 v1.2) (k2 v1.1)) (fun k4=>bnd (job_First_1 x3 a1) fun x5=>fk x5 (fk (decide (v1.1<(0:Int))) (k4 true) (ix a0 v1.1 fun x6=>bnd (job_Ahead x3 x6) fun x7=>k4 x7)) (k4 false)))) (some v1.1)) FU ((-1:Int),(0:Int))
theorem job_first_api_Job_w (a0:List Job) (a1:Bool) (r:Int) (h:job_first_api_Job a0 a1=some r):Go.VC.Spec Tryz.prog 138 [.d (.sl (a0.map Job.enc)),.d (.fn 139 [[.bool a1]]),.d (.fn 140 [])] (fun y=>y=E_Int r):=by
 refine Go.VC.Spec.of_xc (args:=[.d (.sl (a0.map Job.enc)),.d (.fn 139 [[.bool a1]]),.d (.fn 140 [])]) (fn:=Tryz.f138) tab ⟨[(0,[0,1,2]),(1,[0,1,2,7]),(2,[0,1,2,7,10,11,12]),(3,[0,1,2,7,10,11,12,13]),(4,[0,1,2,7,8,9,10,11,12]),(5,[0,1,2,7,8,10,11,12,32]),(6,[0,1,2,7,10,11,12]),(7,[0,1,2,7,10,11,12]),(8,[6])],[],[100032,7],[]⟩ 36 [.tmp 6] rfl rfl rfl rfl rfl rfl ?_
 conv=>whnf
 refine lenS a0 Job.enc rfl ?_
 conv=>whnf
 refine lpS (fun v1=>⟨[(0,.l (.d (.sl (a0.map Job.enc)))),(1,.l (.d (.fn 139 [[.bool a1]]))),(2,.l (.d (.fn 140 []))),(7,.l (.d (.int .i64 v1.1))),(10,.l (.d (.sl (a0.map Job.enc)))),(11,.l (.d (.int .i64 (a0.length:Int)))),(12,.l (.d (.int .i64 v1.2)))],36,[],[],[]⟩) h (Weak.refl _) (fun _ nx1 hn1 v1 h=>?_)
 conv=>whnf
 refine fkS h (fun h=>?_) (fun h=>?_)
 ·conv=>whnf
  refine jnS (fun w2=>⟨[(0,.l (.d (.sl (a0.map Job.enc)))),(1,.l (.d (.fn 139 [[.bool a1]]))),(2,.l (.d (.fn 140 []))),(7,.l (.d (.int .i64 w2))),(10,.l (.d (.sl (a0.map Job.enc)))),(11,.l (.d (.int .i64 (a0.length:Int)))),(12,.l (.d (.int .i64 v1.2)))],36,[],[],[]⟩) h (fun k2 hk2 h=>?_) (fun w2 h=>?_)
  ·conv=>whnf
   refine ixS (enc:=Job.enc) h rfl (fun _=>rfl) (fun x3 h=>?_)
   conv=>whnf
   refine jnS (fun w4=>⟨[(0,.l (.d (.sl (a0.map Job.enc)))),(1,.l (.d (.fn 139 [[.bool a1]]))),(2,.l (.d (.fn 140 []))),(7,.l (.d (.int .i64 v1.1))),(8,.l (.d (.int .i64 v1.2))),(10,.l (.d (.sl (a0.map Job.enc)))),(11,.l (.d (.int .i64 (a0.length:Int)))),(12,.l (.d (.int .i64 v1.2))),(32,.l (.d (.bool w4)))],36,[],[],[]⟩) h (fun k4 hk4 h=>?_) (fun w4 h=>?_)
   ·conv=>whnf
    refine⟨13,?_⟩
    conv=>whnf
    refine daS (E:=E_Bool) h (job_First_1_w x3 a1) (fun _=>rfl) (fun x5 h=>?_)
    conv=>whnf
    refine fkS h (fun h=>?_) (fun h=>?_)
    ·conv=>whnf
     refine fkS h (fun h=>?_) (fun h=>?_)
     ·conv=>whnf
      refine drS (by kernel_rfl) ?_
      conv=>whnf
      exact jeS hk4 h (Weak.refl _)
     conv=>whnf
     refine ixS (enc:=Job.enc) h rfl (fun _=>rfl) (fun x6 h=>?_)
     conv=>whnf
     refine drS (by kernel_rfl) ?_
     conv=>whnf
     refine caS (E:=E_Bool) h (job_Ahead_w x3 x6) rfl (fun _=>rfl) (fun x7 h=>?_)
     conv=>whnf
     exact jeS hk4 h (Weak.refl _)
    conv=>whnf
    refine drS (by kernel_rfl) ?_
    conv=>whnf
    exact jeS hk4 h (Weak.refl _)
   conv=>whnf
   refine fkS h (fun h=>?_) (fun h=>?_)
   ·conv=>whnf
    exact jeS hk2 h (Weak.refl _)
   conv=>whnf
   refine jeX hk2 h ?_
   conv=>whnf
   refine WkF.step (Weak.keepS _ [0,1,2,7,10,11,12]) ?_
   conv=>whnf
   exact WkF.refl _
  conv=>whnf
  exact leS hn1 h (Weak.refl _)
 conv=>whnf
 exact rt (E:=E_Int) h rfl
end Go.Proofs.YtldlcdnhdedoeaaGreat
namespace Go.Proofs.YtldlcdnhdedoeaaGreat
open Go Go.VC
noncomputable def job_First (a0:List Job) (a1:Bool):Option Int:=
 bnd (job_first_api_Job a0 a1) fun x1=>some x1
theorem job_First_w (a0:List Job) (a1:Bool) (r:Int) (h:job_First a0 a1=some r):Go.VC.Spec Tryz.prog 86 [.d (.sl (a0.map Job.enc)),.d (.bool a1)] (fun y=>y=E_Int r):=by
 refine Go.VC.Spec.of_xc (args:=[.d (.sl (a0.map Job.enc)),.d (.bool a1)]) (fn:=Tryz.f86) tab ⟨[(0,[0,3]),(1,[4])],[],[],[]⟩ 8 [.tmp 4] rfl rfl rfl rfl rfl rfl ?_
 conv=>whnf
 refine caS (E:=E_Int) h (job_first_api_Job_w a0 a1) rfl (fun _=>rfl) (fun x1 h=>?_)
 conv=>whnf
 exact rt (E:=E_Int) h rfl
end Go.Proofs.YtldlcdnhdedoeaaGreat
namespace Go.Proofs.YtldlcdnhdedoeaaGreat
open Go Go.VC
def E_fn_admit_fit:(List Task)×Int×Int→List CV:=fun r=>[.d (.fn 141 [[.sl (r.1.map Task.enc)],[.int .i64 r.2.1,.int .i64 r.2.2]])]
noncomputable def admit_fit (a0:List Task) (a1:Face):Option ((List Task)×Int×Int):=
 some (a0,a1.P,a1.B)
theorem admit_fit_w (a0:List Task) (a1:Face) (r:(List Task)×Int×Int) (h:admit_fit a0 a1=some r):Go.VC.Spec Tryz.prog 87 [.d (.sl (a0.map Task.enc)),.agg (Face.enc a1)] (fun y=>y=E_fn_admit_fit r):=by
 refine Go.VC.Spec.of_xc (args:=[.d (.sl (a0.map Task.enc)),.agg (Face.enc a1)]) (fn:=Tryz.f87) tab ⟨[(0,[2,3]),(1,[4])],[],[],[]⟩ 6 [.tmp 4] rfl rfl rfl rfl rfl rfl ?_
 conv=>whnf
 exact rt (E:=E_fn_admit_fit) h rfl
end Go.Proofs.YtldlcdnhdedoeaaGreat
namespace Go.Proofs.YtldlcdnhdedoeaaGreat
open Go Go.VC
noncomputable def arith_may (a0:List Int):Option Bool:=
 lp (fun nx1 (v1:Int)=>fk (decide (v1<(a0.length:Int))) (ix a0 v1 fun x2=>jn (fun (w3:Bool)=>fk w3 (some false) (nx1 (wr (v1+(1:Int))))) (fun k3=>fk (decide (x2>(4611686018427387903:Int))) (k3 true) (k3 (decide (x2<(-4611686018427387903:Int)))))) (some true)) FU (0:Int)
theorem arith_may_w (a0:List Int) (r:Bool) (h:arith_may a0=some r):Go.VC.Spec Tryz.prog 180 [.d (.sl (a0.map (eI .i64)))] (fun y=>y=E_Bool r):=by
 refine Go.VC.Spec.of_xc (args:=[.d (.sl (a0.map (eI .i64)))]) (fn:=Tryz.f180) tab ⟨[(0,[0]),(1,[5,6,7]),(2,[5,6,7,8]),(3,[4,5,6,7]),(4,[5,6,7,16]),(5,[2]),(6,[5,6,7]),(7,[2])],[],[100016],[]⟩ 18 [.tmp 2] rfl rfl rfl rfl rfl rfl ?_
 conv=>whnf
 refine lenS a0 (eI .i64) rfl ?_
 conv=>whnf
 refine lpS (fun v1=>⟨[(5,.l (.d (.sl (a0.map (eI .i64))))),(6,.l (.d (.int .i64 (a0.length:Int)))),(7,.l (.d (.int .i64 v1)))],18,[],[],[]⟩) h (Weak.refl _) (fun _ nx1 hn1 v1 h=>?_)
 conv=>whnf
 refine fkS h (fun h=>?_) (fun h=>?_)
 ·conv=>whnf
  refine ixS (enc:=(eI .i64)) h rfl (fun _=>rfl) (fun x2 h=>?_)
  conv=>whnf
  refine jnS (fun w3=>⟨[(5,.l (.d (.sl (a0.map (eI .i64))))),(6,.l (.d (.int .i64 (a0.length:Int)))),(7,.l (.d (.int .i64 v1))),(16,.l (.d (.bool w3)))],18,[],[],[]⟩) h (fun k3 hk3 h=>?_) (fun w3 h=>?_)
  ·conv=>whnf
   refine fkS h (fun h=>?_) (fun h=>?_)
   ·conv=>whnf
    exact jeS hk3 h (Weak.refl _)
   conv=>whnf
   exact jeS hk3 h (Weak.refl _)
  conv=>whnf
  refine fkS h (fun h=>?_) (fun h=>?_)
  ·conv=>whnf
   exact rt (E:=E_Bool) h rfl
  conv=>whnf
  exact leS hn1 h (Weak.refl _)
 conv=>whnf
 exact rt (E:=E_Bool) h rfl
end Go.Proofs.YtldlcdnhdedoeaaGreat
namespace Go.Proofs.YtldlcdnhdedoeaaGreat
open Go Go.VC
noncomputable def arith_Gcd (a0:Int) (a1:Int):Option (Int×Int):=
 jn (fun (w1:Bool)=>fk w1 (some ((0:Int),(1:Int))) (lp (fun nx3 (v3:Int×Int)=>fk (decide (v3.2>(0:Int))) (ck (decide (v3.2≠0)) (nx3 (v3.2,(v3.1.tmod v3.2)))) (some (v3.1,(0:Int)))) FU (a0,a1))) (fun k1=>bnd (arith_may ([a0,a1]:List Int)) fun x2=>fk (!x2) (k1 true) (fk (decide (a0<(0:Int))) (k1 true) (k1 (decide (a1<(0:Int))))))
theorem arith_Gcd_w (a0:Int) (a1:Int) (r:Int×Int) (h:arith_Gcd a0 a1=some r):Go.VC.Spec Tryz.prog 170 [.d (.int .i64 a0),.d (.int .i64 a1)] (fun y=>y=E_Int_Int r):=by
 refine Go.VC.Spec.of_xc (args:=[.d (.int .i64 a0),.d (.int .i64 a1)]) (fn:=Tryz.f170) tab ⟨[(0,[0,1]),(1,[0,1,18]),(2,[4,5]),(3,[0,1,20]),(4,[0,1]),(5,[4,5])],[],[100018],[]⟩ 26 [.tmp 4,.tmp 5] rfl rfl rfl rfl rfl rfl ?_
 conv=>whnf
 refine jnS (fun w1=>⟨[(0,.l (.d (.int .i64 a0))),(1,.l (.d (.int .i64 a1))),(18,.l (.d (.bool w1)))],26,[],[],[]⟩) h (fun k1 hk1 h=>?_) (fun w1 h=>?_)
 ·conv=>whnf
  refine liS ([a0,a1]:List Int) (eI .i64) rfl rfl ?_
  conv=>whnf
  refine caS (E:=E_Bool) h (arith_may_w ([a0,a1]:List Int)) rfl (fun _=>rfl) (fun x2 h=>?_)
  conv=>whnf
  refine fkS h (fun h=>?_) (fun h=>?_)
  ·conv=>whnf
   exact jeS hk1 h (Weak.refl _)
  conv=>whnf
  refine fkS h (fun h=>?_) (fun h=>?_)
  ·conv=>whnf
   exact jeS hk1 h (Weak.refl _)
  conv=>whnf
  exact jeS hk1 h (Weak.refl _)
 conv=>whnf
 refine fkS h (fun h=>?_) (fun h=>?_)
 ·conv=>whnf
  exact rt (E:=E_Int_Int) h rfl
 conv=>whnf
 refine lpS (fun v3=>⟨[(0,.l (.d (.int .i64 v3.1))),(1,.l (.d (.int .i64 v3.2)))],26,[],[],[]⟩) h (Weak.trans (Weak.keepS _ [0,1]) (Weak.refl _)) (fun _ nx3 hn3 v3 h=>?_)
 conv=>whnf
 refine fkS h (fun h=>?_) (fun h=>?_)
 ·conv=>whnf
  refine⟨5,?_⟩
  conv=>whnf
  refine dvS h (fun h=>?_)
  conv=>whnf
  refine drS (by kernel_rfl) ?_
  conv=>whnf
  exact leS hn3 h (Weak.refl _)
 conv=>whnf
 exact rt (E:=E_Int_Int) h rfl
end Go.Proofs.YtldlcdnhdedoeaaGreat
namespace Go.Proofs.YtldlcdnhdedoeaaGreat
open Go Go.VC
noncomputable def arith_Mul (a0:Int) (a1:Int):Option (Int×Int):=
 bnd (arith_may ([a0,a1]:List Int)) fun x1=>fk (!x1) (some ((0:Int),(1:Int))) (jn (fun (w2:Bool)=>fk w2 (some ((0:Int),(0:Int))) (ck (decide ((if (IntKind.i64.wrap (0-a1))>a1 then (IntKind.i64.wrap (0-a1)) else a1)≠0)) (fk (decide ((if (IntKind.i64.wrap (0-a0))>a0 then (IntKind.i64.wrap (0-a0)) else a0)>(wr ((4611686018427387903:Int).tdiv (if (IntKind.i64.wrap (0-a1))>a1 then (IntKind.i64.wrap (0-a1)) else a1))))) (some ((0:Int),(5:Int))) (some ((wr (a0*a1)),(0:Int)))))) (fun k2=>fk (decide (a0=(0:Int))) (k2 true) (k2 (decide (a1=(0:Int))))))
theorem arith_Mul_w (a0:Int) (a1:Int) (r:Int×Int) (h:arith_Mul a0 a1=some r):Go.VC.Spec Tryz.prog 171 [.d (.int .i64 a0),.d (.int .i64 a1)] (fun y=>y=E_Int_Int r):=by
 refine Go.VC.Spec.of_xc (args:=[.d (.int .i64 a0),.d (.int .i64 a1)]) (fn:=Tryz.f171) tab ⟨[(0,[0,1]),(1,[0,1,6]),(2,[4,5]),(3,[0,1,12]),(4,[4,5]),(5,[0,1,19]),(6,[4,5]),(7,[4,5])],[],[100012],[]⟩ 33 [.tmp 4,.tmp 5] rfl rfl rfl rfl rfl rfl ?_
 conv=>whnf
 refine liS ([a0,a1]:List Int) (eI .i64) rfl rfl ?_
 conv=>whnf
 refine caS (E:=E_Bool) h (arith_may_w ([a0,a1]:List Int)) rfl (fun _=>rfl) (fun x1 h=>?_)
 conv=>whnf
 refine fkS h (fun h=>?_) (fun h=>?_)
 ·conv=>whnf
  exact rt (E:=E_Int_Int) h rfl
 conv=>whnf
 refine jnS (fun w2=>⟨[(0,.l (.d (.int .i64 a0))),(1,.l (.d (.int .i64 a1))),(12,.l (.d (.bool w2)))],33,[],[],[]⟩) h (fun k2 hk2 h=>?_) (fun w2 h=>?_)
 ·conv=>whnf
  refine fkS h (fun h=>?_) (fun h=>?_)
  ·conv=>whnf
   exact jeS hk2 h (Weak.refl _)
  conv=>whnf
  exact jeS hk2 h (Weak.refl _)
 conv=>whnf
 refine fkS h (fun h=>?_) (fun h=>?_)
 ·conv=>whnf
  exact rt (E:=E_Int_Int) h rfl
 conv=>whnf
 refine dvS h (fun h=>?_)
 conv=>whnf
 refine fkS h (fun h=>?_) (fun h=>?_)
 ·conv=>whnf
  exact rt (E:=E_Int_Int) h rfl
 conv=>whnf
 exact rt (E:=E_Int_Int) h rfl
end Go.Proofs.YtldlcdnhdedoeaaGreat
namespace Go.Proofs.YtldlcdnhdedoeaaGreat
open Go Go.VC
noncomputable def arith_Lcm (a0:Int) (a1:Int):Option (Int×Int):=
 jn (fun (w1:Bool)=>fk w1 (some ((0:Int),(1:Int))) (bnd (arith_Gcd a0 a1) fun x2=>fk (!decide (x2.2=(0:Int))) (some ((0:Int),x2.2)) (ck (decide (x2.1≠0)) (bnd (arith_Mul (wr (a0.tdiv x2.1)) a1) fun x3=>some (x3.1,x3.2))))) (fun k1=>fk (decide (a0<(1:Int))) (k1 true) (k1 (decide (a1<(1:Int)))))
theorem arith_Lcm_w (a0:Int) (a1:Int) (r:Int×Int) (h:arith_Lcm a0 a1=some r):Go.VC.Spec Tryz.prog 164 [.d (.int .i64 a0),.d (.int .i64 a1)] (fun y=>y=E_Int_Int r):=by
 refine Go.VC.Spec.of_xc (args:=[.d (.int .i64 a0),.d (.int .i64 a1)]) (fn:=Tryz.f164) tab ⟨[(0,[0,1]),(1,[0,1,13]),(2,[4,5]),(3,[0,1,6,7]),(4,[0,1,6,7,21]),(5,[4,5]),(6,[4,5])],[],[100013],[]⟩ 30 [.tmp 4,.tmp 5] rfl rfl rfl rfl rfl rfl ?_
 conv=>whnf
 refine jnS (fun w1=>⟨[(0,.l (.d (.int .i64 a0))),(1,.l (.d (.int .i64 a1))),(13,.l (.d (.bool w1)))],30,[],[],[]⟩) h (fun k1 hk1 h=>?_) (fun w1 h=>?_)
 ·conv=>whnf
  refine fkS h (fun h=>?_) (fun h=>?_)
  ·conv=>whnf
   exact jeS hk1 h (Weak.refl _)
  conv=>whnf
  exact jeS hk1 h (Weak.refl _)
 conv=>whnf
 refine fkS h (fun h=>?_) (fun h=>?_)
 ·conv=>whnf
  exact rt (E:=E_Int_Int) h rfl
 conv=>whnf
 refine caS (E:=E_Int_Int) h (arith_Gcd_w a0 a1) rfl (fun _=>rfl) (fun x2 h=>?_)
 conv=>whnf
 refine fkS h (fun h=>?_) (fun h=>?_)
 ·conv=>whnf
  exact rt (E:=E_Int_Int) h rfl
 conv=>whnf
 refine dvS h (fun h=>?_)
 conv=>whnf
 refine caS (E:=E_Int_Int) h (arith_Mul_w (wr (a0.tdiv x2.1)) a1) rfl (fun _=>rfl) (fun x3 h=>?_)
 conv=>whnf
 exact rt (E:=E_Int_Int) h rfl
end Go.Proofs.YtldlcdnhdedoeaaGreat
namespace Go.Proofs.YtldlcdnhdedoeaaGreat
open Go Go.VC
noncomputable def verdict_Cycle (a0:List Task) (a1:Face):Option (Int×Int×Int):=
 jn (fun (w1:Bool)=>fk w1 (some ((0:Int),(0:Int),(1:Int))) (lp (fun nx4 (v4:Int×Int×Int)=>fk (decide (v4.2.2<(a0.length:Int))) (ix a0 v4.2.2 fun x5=>bnd (arith_Lcm v4.1 x5.T) fun x6=>jn (fun (w7:Bool)=>fk w7 (some ((0:Int),(0:Int),(5:Int))) (nx4 (x6.1,(if x5.D>v4.2.1 then x5.D else v4.2.1),(wr (v4.2.2+(1:Int)))))) (fun k7=>fk (!decide (x6.2=(0:Int))) (k7 true) (k7 (decide (x6.1>(3000:Int)))))) (fk (decide ((wr (v4.1+v4.2.1))>(3000:Int))) (some ((0:Int),(0:Int),(5:Int))) (some (v4.1,(wr (v4.1+v4.2.1)),(0:Int))))) FU (a1.P,(wr ((2:Int)*a1.P)),(0:Int)))) (fun k1=>bnd (task_All a0) fun x2=>fk (!x2) (k1 true) (bnd (supply_Right a1) fun x3=>k1 (!x3)))
theorem verdict_Cycle_w (a0:List Task) (a1:Face) (r:Int×Int×Int) (h:verdict_Cycle a0 a1=some r):Go.VC.Spec Tryz.prog 159 [.d (.sl (a0.map Task.enc)),.agg (Face.enc a1)] (fun y=>y=E_Int_Int_Int r):=by
 refine Go.VC.Spec.of_xc (args:=[.d (.sl (a0.map Task.enc)),.agg (Face.enc a1)]) (fn:=Tryz.f159) tab ⟨[(0,[0,3]),(1,[0,3,20]),(2,[4,5,6]),(3,[0,7,8]),(4,[7,8,26,27,28]),(5,[7,8,26,27,28,29]),(6,[7,8,10,26,27,28]),(7,[8,10,11,12,26,27,28]),(8,[8,10,11,26,27,28,44]),(9,[4,5,6]),(10,[7,8,26,27,28]),(11,[7,8,26,27,28]),(12,[7,8,54]),(13,[4,5,6]),(14,[4,5,6])],[],[100020,100044],[]⟩ 59 [.tmp 4,.tmp 5,.tmp 6] rfl rfl rfl rfl rfl rfl ?_
 conv=>whnf
 refine jnS (fun w1=>⟨[(0,.l (.d (.sl (a0.map Task.enc)))),(3,.l (.ptr 4 0)),(20,.l (.d (.bool w1)))],59,[],[(4,[.d (.int .i64 a1.P),.d (.int .i64 a1.B)])],[]⟩) h (fun k1 hk1 h=>?_) (fun w1 h=>?_)
 ·conv=>whnf
  refine caS (E:=E_Bool) h (task_All_w a0) rfl (fun _=>rfl) (fun x2 h=>?_)
  conv=>whnf
  refine fkS h (fun h=>?_) (fun h=>?_)
  ·conv=>whnf
   exact jeS hk1 h (Weak.refl _)
  conv=>whnf
  refine caS (E:=E_Bool) h (supply_Right_w a1) rfl (fun _=>rfl) (fun x3 h=>?_)
  conv=>whnf
  exact jeS hk1 h (Weak.refl _)
 conv=>whnf
 refine fkS h (fun h=>?_) (fun h=>?_)
 ·conv=>whnf
  exact rt (E:=E_Int_Int_Int) h rfl
 conv=>whnf
 refine⟨6,?_⟩
 conv=>whnf
 refine drS (by kernel_rfl) ?_
 conv=>whnf
 refine lenS a0 Task.enc rfl ?_
 conv=>whnf
 refine lpS (fun v4=>⟨[(7,.l (.d (.int .i64 v4.1))),(8,.l (.d (.int .i64 v4.2.1))),(26,.l (.d (.sl (a0.map Task.enc)))),(27,.l (.d (.int .i64 (a0.length:Int)))),(28,.l (.d (.int .i64 v4.2.2)))],59,[],[],[]⟩) h (Weak.refl _) (fun _ nx4 hn4 v4 h=>?_)
 conv=>whnf
 refine fkS h (fun h=>?_) (fun h=>?_)
 ·conv=>whnf
  refine ixS (enc:=Task.enc) h rfl (fun _=>rfl) (fun x5 h=>?_)
  conv=>whnf
  refine caS (E:=E_Int_Int) h (arith_Lcm_w v4.1 x5.T) rfl (fun _=>rfl) (fun x6 h=>?_)
  conv=>whnf
  refine jnS (fun w7=>⟨[(8,.l (.d (.int .i64 v4.2.1))),(10,.l (.ptr 11 0)),(11,.l (.d (.int .i64 x6.1))),(26,.l (.d (.sl (a0.map Task.enc)))),(27,.l (.d (.int .i64 (a0.length:Int)))),(28,.l (.d (.int .i64 v4.2.2))),(44,.l (.d (.bool w7)))],59,[],[(11,[.d (.int .i64 x5.C),.d (.int .i64 x5.D),.d (.int .i64 x5.T),.d (.sl (x5.Secs.map Sec.enc))])],[]⟩) h (fun k7 hk7 h=>?_) (fun w7 h=>?_)
  ·conv=>whnf
   refine fkS h (fun h=>?_) (fun h=>?_)
   ·conv=>whnf
    exact jeS hk7 h (Weak.refl _)
   conv=>whnf
   exact jeS hk7 h (Weak.refl _)
  conv=>whnf
  refine fkS h (fun h=>?_) (fun h=>?_)
  ·conv=>whnf
   exact rt (E:=E_Int_Int_Int) h rfl
  conv=>whnf
  refine⟨6,?_⟩
  conv=>whnf
  refine drS (by kernel_rfl) ?_
  conv=>whnf
  exact leS hn4 h (Weak.refl _)
 conv=>whnf
 refine fkS h (fun h=>?_) (fun h=>?_)
 ·conv=>whnf
  exact rt (E:=E_Int_Int_Int) h rfl
 conv=>whnf
 exact rt (E:=E_Int_Int_Int) h rfl
end Go.Proofs.YtldlcdnhdedoeaaGreat
namespace Go.Proofs.YtldlcdnhdedoeaaGreat
open Go Go.VC
noncomputable def arith_Floor (a0:Int) (a1:Int):Option (Int×Int):=
 jn (fun (w1:Bool)=>fk w1 (some ((0:Int),(1:Int))) (ck (decide (a1≠0)) (ck (decide (a1≠0)) (fk (decide ((a0.tmod a1)<(0:Int))) (some ((wr ((wr (a0.tdiv a1))-(1:Int))),(0:Int))) (some ((wr (a0.tdiv a1)),(0:Int))))))) (fun k1=>bnd (arith_may ([a0,a1]:List Int)) fun x2=>fk (!x2) (k1 true) (k1 (decide (a1<(1:Int)))))
theorem arith_Floor_w (a0:Int) (a1:Int) (r:Int×Int) (h:arith_Floor a0 a1=some r):Go.VC.Spec Tryz.prog 199 [.d (.int .i64 a0),.d (.int .i64 a1)] (fun y=>y=E_Int_Int r):=by
 refine Go.VC.Spec.of_xc (args:=[.d (.int .i64 a0),.d (.int .i64 a1)]) (fn:=Tryz.f199) tab ⟨[(0,[0,1]),(1,[0,1,15]),(2,[4,5]),(3,[0,1,6]),(4,[6,22]),(5,[6]),(6,[4,5])],[],[100015],[]⟩ 26 [.tmp 4,.tmp 5] rfl rfl rfl rfl rfl rfl ?_
 conv=>whnf
 refine jnS (fun w1=>⟨[(0,.l (.d (.int .i64 a0))),(1,.l (.d (.int .i64 a1))),(15,.l (.d (.bool w1)))],26,[],[],[]⟩) h (fun k1 hk1 h=>?_) (fun w1 h=>?_)
 ·conv=>whnf
  refine liS ([a0,a1]:List Int) (eI .i64) rfl rfl ?_
  conv=>whnf
  refine caS (E:=E_Bool) h (arith_may_w ([a0,a1]:List Int)) rfl (fun _=>rfl) (fun x2 h=>?_)
  conv=>whnf
  refine fkS h (fun h=>?_) (fun h=>?_)
  ·conv=>whnf
   exact jeS hk1 h (Weak.refl _)
  conv=>whnf
  exact jeS hk1 h (Weak.refl _)
 conv=>whnf
 refine fkS h (fun h=>?_) (fun h=>?_)
 ·conv=>whnf
  exact rt (E:=E_Int_Int) h rfl
 conv=>whnf
 refine dvS h (fun h=>?_)
 conv=>whnf
 refine dvS h (fun h=>?_)
 conv=>whnf
 refine fkS h (fun h=>?_) (fun h=>?_)
 ·conv=>whnf
  exact rt (E:=E_Int_Int) h rfl
 conv=>whnf
 exact rt (E:=E_Int_Int) h rfl
end Go.Proofs.YtldlcdnhdedoeaaGreat
namespace Go.Proofs.YtldlcdnhdedoeaaGreat
open Go Go.VC
noncomputable def demand_jobs (a0:Task) (a1:Int):Option Int:=
 fk (decide (a1<a0.D)) (some (0:Int)) (bnd (arith_Floor (wr (a1-a0.D)) a0.T) fun x1=>some (wr (x1.1+(1:Int))))
theorem demand_jobs_w (a0:Task) (a1:Int) (r:Int) (h:demand_jobs a0 a1=some r):Go.VC.Spec Tryz.prog 193 [.agg (Task.enc a0),.d (.int .i64 a1)] (fun y=>y=E_Int r):=by
 refine Go.VC.Spec.of_xc (args:=[.agg (Task.enc a0),.d (.int .i64 a1)]) (fn:=Tryz.f193) tab ⟨[(0,[1,2]),(1,[1,2,10]),(2,[4]),(3,[5]),(4,[4])],[],[],[]⟩ 23 [.tmp 4] rfl rfl rfl rfl rfl rfl ?_
 conv=>whnf
 refine fkS h (fun h=>?_) (fun h=>?_)
 ·conv=>whnf
  exact rt (E:=E_Int) h rfl
 conv=>whnf
 refine caS (E:=E_Int_Int) h (arith_Floor_w (wr (a1-a0.D)) a0.T) rfl (fun _=>rfl) (fun x1 h=>?_)
 conv=>whnf
 exact rt (E:=E_Int) h rfl
end Go.Proofs.YtldlcdnhdedoeaaGreat
namespace Go.Proofs.YtldlcdnhdedoeaaGreat
open Go Go.VC
noncomputable def arith_Add (a0:Int) (a1:Int):Option (Int×Int):=
 bnd (arith_may ([a0,a1]:List Int)) fun x1=>fk (!x1) (some ((0:Int),(1:Int))) (bnd (arith_may ([(wr (a0+a1))]:List Int)) fun x2=>fk (!x2) (some ((0:Int),(5:Int))) (some ((wr (a0+a1)),(0:Int))))
theorem arith_Add_w (a0:Int) (a1:Int) (r:Int×Int) (h:arith_Add a0 a1=some r):Go.VC.Spec Tryz.prog 186 [.d (.int .i64 a0),.d (.int .i64 a1)] (fun y=>y=E_Int_Int r):=by
 refine Go.VC.Spec.of_xc (args:=[.d (.int .i64 a0),.d (.int .i64 a1)]) (fn:=Tryz.f186) tab ⟨[(0,[0,1]),(1,[0,1,6]),(2,[4,5]),(3,[0,1,12]),(4,[4,5]),(5,[4,5])],[],[],[]⟩ 22 [.tmp 4,.tmp 5] rfl rfl rfl rfl rfl rfl ?_
 conv=>whnf
 refine liS ([a0,a1]:List Int) (eI .i64) rfl rfl ?_
 conv=>whnf
 refine caS (E:=E_Bool) h (arith_may_w ([a0,a1]:List Int)) rfl (fun _=>rfl) (fun x1 h=>?_)
 conv=>whnf
 refine fkS h (fun h=>?_) (fun h=>?_)
 ·conv=>whnf
  exact rt (E:=E_Int_Int) h rfl
 conv=>whnf
 refine liS ([(wr (a0+a1))]:List Int) (eI .i64) rfl rfl ?_
 conv=>whnf
 refine caS (E:=E_Bool) h (arith_may_w ([(wr (a0+a1))]:List Int)) rfl (fun _=>rfl) (fun x2 h=>?_)
 conv=>whnf
 refine fkS h (fun h=>?_) (fun h=>?_)
 ·conv=>whnf
  exact rt (E:=E_Int_Int) h rfl
 conv=>whnf
 exact rt (E:=E_Int_Int) h rfl
end Go.Proofs.YtldlcdnhdedoeaaGreat
namespace Go.Proofs.YtldlcdnhdedoeaaGreat
open Go Go.VC
noncomputable def demand_Bound (a0:List Task) (a1:Int):Option (Int×Int):=
 jn (fun (w1:Bool)=>fk w1 (some ((0:Int),(1:Int))) (lp (fun nx3 (v3:Int×Int×Int)=>fk (decide (v3.2.2<(a0.length:Int))) (ix a0 v3.2.2 fun x4=>bnd (demand_jobs x4 a1) fun x5=>bnd (arith_Mul x4.C x5) fun x6=>bnd (arith_Add v3.1 x6.1) fun x7=>jn (fun (w8:Bool)=>fk w8 (nx3 (v3.1,(5:Int),(wr (v3.2.2+(1:Int))))) (nx3 (x7.1,v3.2.1,(wr (v3.2.2+(1:Int)))))) (fun k8=>fk (!decide (x6.2=(0:Int))) (k8 true) (k8 (!decide (x7.2=(0:Int)))))) (fk (!decide (v3.2.1=(0:Int))) (some ((0:Int),v3.2.1)) (some (v3.1,(0:Int))))) FU ((0:Int),(0:Int),(0:Int)))) (fun k1=>bnd (task_All a0) fun x2=>fk (!x2) (k1 true) (fk (decide (a1<(0:Int))) (k1 true) (k1 (decide (a1>(4611686018427387903:Int))))))
theorem demand_Bound_w (a0:List Task) (a1:Int) (r:Int×Int) (h:demand_Bound a0 a1=some r):Go.VC.Spec Tryz.prog 184 [.d (.sl (a0.map Task.enc)),.d (.int .i64 a1)] (fun y=>y=E_Int_Int r):=by
 refine Go.VC.Spec.of_xc (args:=[.d (.sl (a0.map Task.enc)),.d (.int .i64 a1)]) (fn:=Tryz.f184) tab ⟨[(0,[0,1]),(1,[0,1,21]),(2,[4,5]),(3,[0,1,6,7]),(4,[0,1,6,7,8]),(5,[1,6,7,8,23,24,25]),(6,[1,6,7,8,23,24,25,26]),(7,[1,6,7,8,10,23,24,25]),(8,[1,6,7,8,23,24,25]),(9,[1,6,7,8,23,24,25]),(10,[6,7,38]),(11,[4,5]),(12,[4,5])],[],[100021],[]⟩ 41 [.tmp 4,.tmp 5] rfl rfl rfl rfl rfl rfl ?_
 conv=>whnf
 refine jnS (fun w1=>⟨[(0,.l (.d (.sl (a0.map Task.enc)))),(1,.l (.d (.int .i64 a1))),(21,.l (.d (.bool w1)))],41,[],[],[]⟩) h (fun k1 hk1 h=>?_) (fun w1 h=>?_)
 ·conv=>whnf
  refine caS (E:=E_Bool) h (task_All_w a0) rfl (fun _=>rfl) (fun x2 h=>?_)
  conv=>whnf
  refine fkS h (fun h=>?_) (fun h=>?_)
  ·conv=>whnf
   exact jeS hk1 h (Weak.refl _)
  conv=>whnf
  refine fkS h (fun h=>?_) (fun h=>?_)
  ·conv=>whnf
   exact jeS hk1 h (Weak.refl _)
  conv=>whnf
  exact jeS hk1 h (Weak.refl _)
 conv=>whnf
 refine fkS h (fun h=>?_) (fun h=>?_)
 ·conv=>whnf
  exact rt (E:=E_Int_Int) h rfl
 conv=>whnf
 refine lenS a0 Task.enc rfl ?_
 conv=>whnf
 refine lpS (fun v3=>⟨[(1,.l (.d (.int .i64 a1))),(6,.l (.ptr 7 0)),(7,.l (.ptr 8 0)),(8,.l (.func 192 [.k 7,.k 8])),(23,.l (.d (.sl (a0.map Task.enc)))),(24,.l (.d (.int .i64 (a0.length:Int)))),(25,.l (.d (.int .i64 v3.2.2)))],41,[],[(7,[.d (.int .i64 v3.1)]),(8,[.d (.int .i64 v3.2.1)])],[]⟩) h (Weak.refl _) (fun _ nx3 hn3 v3 h=>?_)
 conv=>whnf
 refine fkS h (fun h=>?_) (fun h=>?_)
 ·conv=>whnf
  refine ixS (enc:=Task.enc) h rfl (fun _=>rfl) (fun x4 h=>?_)
  conv=>whnf
  refine⟨6,?_⟩
  conv=>whnf
  refine daS (E:=E_Int) h (demand_jobs_w x4 a1) (fun _=>rfl) (fun x5 h=>?_)
  conv=>whnf
  refine drS (by kernel_rfl) ?_
  conv=>whnf
  refine inS (fn:=Tryz.f192) tab ⟨[(0,[2,3,6,7]),(1,[2,3,7,8,9]),(2,[2,3,8,27]),(3,[]),(4,[])],[],[100027],[]⟩ 29 [] rfl rfl rfl rfl rfl rfl ?_
  conv=>whnf
  refine caS (E:=E_Int_Int) h (arith_Mul_w x4.C x5) rfl (fun _=>rfl) (fun x6 h=>?_)
  conv=>whnf
  refine caS (E:=E_Int_Int) h (arith_Add_w v3.1 x6.1) rfl (fun _=>rfl) (fun x7 h=>?_)
  conv=>whnf
  refine jnS (fun w8=>⟨[(2,.l (.ptr 7 0)),(3,.l (.ptr 8 0)),(8,.l (.d (.int .i64 x7.1))),(27,.l (.d (.bool w8)))],29,[⟨[(34,.l (.d (.int .i64 x5))),(33,.l (.d (.int .i64 a1))),(32,.agg [.d (.int .i64 x4.C),.d (.int .i64 x4.D),.d (.int .i64 x4.T),.d (.sl (x4.Secs.map Sec.enc))]),(31,.l (.d (.int .i64 x4.C))),(30,.l (.ptr 11 0)),(29,.l (.func 192 [.k 7,.k 8])),(1,.l (.d (.int .i64 a1))),(6,.l (.ptr 7 0)),(7,.l (.ptr 8 0)),(8,.l (.func 192 [.k 7,.k 8])),(10,.l (.ptr 11 0)),(23,.l (.d (.sl (a0.map Task.enc)))),(24,.l (.d (.int .i64 (a0.length:Int)))),(25,.l (.d (.int .i64 v3.2.2)))],41⟩],[(7,[.d (.int .i64 v3.1)]),(8,[.d (.int .i64 v3.2.1)]),(11,[.d (.int .i64 x4.C),.d (.int .i64 x4.D),.d (.int .i64 x4.T),.d (.sl (x4.Secs.map Sec.enc))])],[]⟩) h (fun k8 hk8 h=>?_) (fun w8 h=>?_)
  ·conv=>whnf
   refine fkS h (fun h=>?_) (fun h=>?_)
   ·conv=>whnf
    exact jeS hk8 h (Weak.refl _)
   conv=>whnf
   exact jeS hk8 h (Weak.refl _)
  conv=>whnf
  refine fkS h (fun h=>?_) (fun h=>?_)
  ·conv=>whnf
   exact leS hn3 h (Weak.refl _)
  conv=>whnf
  exact leS hn3 h (Weak.refl _)
 conv=>whnf
 refine fkS h (fun h=>?_) (fun h=>?_)
 ·conv=>whnf
  refine⟨2,?_⟩
  conv=>whnf
  refine drS (by kernel_rfl) ?_
  conv=>whnf
  exact rt (E:=E_Int_Int) h rfl
 conv=>whnf
 exact rt (E:=E_Int_Int) h rfl
end Go.Proofs.YtldlcdnhdedoeaaGreat
namespace Go.Proofs.YtldlcdnhdedoeaaGreat
open Go Go.VC
noncomputable def task_Uses (a0:Task) (a1:Int):Option Bool:=
 bnd (task_Right a0) fun x1=>fk (!x1) (some false) (lp (fun nx2 (v2:Int)=>fk (decide (v2<(a0.Secs.length:Int))) (ix a0.Secs v2 fun x3=>fk (decide (x3.Res=a1)) (some true) (nx2 (wr (v2+(1:Int))))) (some false)) FU (0:Int))
theorem task_Uses_w (a0:Task) (a1:Int) (r:Bool) (h:task_Uses a0 a1=some r):Go.VC.Spec Tryz.prog 198 [.agg (Task.enc a0),.d (.int .i64 a1)] (fun y=>y=E_Bool r):=by
 refine Go.VC.Spec.of_xc (args:=[.agg (Task.enc a0),.d (.int .i64 a1)]) (fn:=Tryz.f198) tab ⟨[(0,[1,2]),(1,[1,2,9]),(2,[4]),(3,[1,11,12,13]),(4,[1,11,12,13,14]),(5,[1,6,11,12,13]),(6,[1,11,12,13,20]),(7,[4]),(8,[1,11,12,13]),(9,[4])],[],[],[]⟩ 22 [.tmp 4] rfl rfl rfl rfl rfl rfl ?_
 conv=>whnf
 refine caS (E:=E_Bool) h (task_Right_w a0) rfl (fun _=>rfl) (fun x1 h=>?_)
 conv=>whnf
 refine fkS h (fun h=>?_) (fun h=>?_)
 ·conv=>whnf
  exact rt (E:=E_Bool) h rfl
 conv=>whnf
 refine lenS a0.Secs Sec.enc rfl ?_
 conv=>whnf
 refine lpS (fun v2=>⟨[(1,.l (.d (.int .i64 a1))),(11,.l (.d (.sl (a0.Secs.map Sec.enc)))),(12,.l (.d (.int .i64 (a0.Secs.length:Int)))),(13,.l (.d (.int .i64 v2)))],22,[],[],[]⟩) h (Weak.refl _) (fun _ nx2 hn2 v2 h=>?_)
 conv=>whnf
 refine fkS h (fun h=>?_) (fun h=>?_)
 ·conv=>whnf
  refine ixS (enc:=Sec.enc) h rfl (fun _=>rfl) (fun x3 h=>?_)
  conv=>whnf
  refine fkS h (fun h=>?_) (fun h=>?_)
  ·conv=>whnf
   exact rt (E:=E_Bool) h rfl
  conv=>whnf
  exact leS hn2 h (Weak.refl _)
 conv=>whnf
 exact rt (E:=E_Bool) h rfl
end Go.Proofs.YtldlcdnhdedoeaaGreat
namespace Go.Proofs.YtldlcdnhdedoeaaGreat
open Go Go.VC
noncomputable def block_shared (a0:List Task) (a1:Int) (a2:Int):Option Bool:=
 lp (fun nx1 (v1:Int)=>fk (decide (v1<(a0.length:Int))) (ix a0 v1 fun x2=>jn (fun (w3:Bool)=>fk w3 (some true) (nx1 (wr (v1+(1:Int))))) (fun k3=>fk (decide (x2.D≤a1)) (bnd (task_Uses x2 a2) fun x4=>k3 x4) (k3 false))) (some false)) FU (0:Int)
theorem block_shared_w (a0:List Task) (a1:Int) (a2:Int) (r:Bool) (h:block_shared a0 a1 a2=some r):Go.VC.Spec Tryz.prog 195 [.d (.sl (a0.map Task.enc)),.d (.int .i64 a1),.d (.int .i64 a2)] (fun y=>y=E_Bool r):=by
 refine Go.VC.Spec.of_xc (args:=[.d (.sl (a0.map Task.enc)),.d (.int .i64 a1),.d (.int .i64 a2)]) (fn:=Tryz.f195) tab ⟨[(0,[0,1,2]),(1,[1,2,9,10,11]),(2,[1,2,9,10,11,12]),(3,[1,2,8,9,10,11]),(4,[1,2,9,10,11,23]),(5,[6]),(6,[1,2,9,10,11]),(7,[6])],[],[100023],[]⟩ 25 [.tmp 6] rfl rfl rfl rfl rfl rfl ?_
 conv=>whnf
 refine lenS a0 Task.enc rfl ?_
 conv=>whnf
 refine lpS (fun v1=>⟨[(1,.l (.d (.int .i64 a1))),(2,.l (.d (.int .i64 a2))),(9,.l (.d (.sl (a0.map Task.enc)))),(10,.l (.d (.int .i64 (a0.length:Int)))),(11,.l (.d (.int .i64 v1)))],25,[],[],[]⟩) h (Weak.refl _) (fun _ nx1 hn1 v1 h=>?_)
 conv=>whnf
 refine fkS h (fun h=>?_) (fun h=>?_)
 ·conv=>whnf
  refine ixS (enc:=Task.enc) h rfl (fun _=>rfl) (fun x2 h=>?_)
  conv=>whnf
  refine jnS (fun w3=>⟨[(1,.l (.d (.int .i64 a1))),(2,.l (.d (.int .i64 a2))),(9,.l (.d (.sl (a0.map Task.enc)))),(10,.l (.d (.int .i64 (a0.length:Int)))),(11,.l (.d (.int .i64 v1))),(23,.l (.d (.bool w3)))],25,[],[],[]⟩) h (fun k3 hk3 h=>?_) (fun w3 h=>?_)
  ·conv=>whnf
   refine fkS h (fun h=>?_) (fun h=>?_)
   ·conv=>whnf
    refine caS (E:=E_Bool) h (task_Uses_w x2 a2) rfl (fun _=>rfl) (fun x4 h=>?_)
    conv=>whnf
    exact jeS hk3 h (Weak.refl _)
   conv=>whnf
   exact jeS hk3 h (Weak.refl _)
  conv=>whnf
  refine fkS h (fun h=>?_) (fun h=>?_)
  ·conv=>whnf
   exact rt (E:=E_Bool) h rfl
  conv=>whnf
  exact leS hn1 h (Weak.refl _)
 conv=>whnf
 exact rt (E:=E_Bool) h rfl
end Go.Proofs.YtldlcdnhdedoeaaGreat
namespace Go.Proofs.YtldlcdnhdedoeaaGreat
open Go Go.VC
noncomputable def block_Of (a0:List Task) (a1:Int):Option (Int×Int):=
 bnd (task_All a0) fun x1=>fk (!x1) (some ((0:Int),(1:Int))) (lp (fun nx2 (v2:Int×Int)=>fk (decide (v2.2<(a0.length:Int))) (jn (fun (w3:Int)=>nx2 (w3,(wr (v2.2+(1:Int))))) (fun k3=>ix a0 v2.2 fun x4=>fk (decide (x4.D≤a1)) (k3 v2.1) (lp (fun nx5 (v5:Int×Int)=>fk (decide (v5.2<(x4.Secs.length:Int))) (ix x4.Secs v5.2 fun x6=>jn (fun (w7:Bool)=>fk w7 (nx5 (x6.Len,(wr (v5.2+(1:Int))))) (nx5 (v5.1,(wr (v5.2+(1:Int)))))) (fun k7=>fk (decide (x6.Len>v5.1)) (bnd (block_shared a0 a1 x6.Res) fun x8=>k7 x8) (k7 false))) (k3 v5.1)) FU (v2.1,(0:Int))))) (some (v2.1,(0:Int)))) FU ((0:Int),(0:Int)))
theorem block_Of_w (a0:List Task) (a1:Int) (r:Int×Int) (h:block_Of a0 a1=some r):Go.VC.Spec Tryz.prog 185 [.d (.sl (a0.map Task.enc)),.d (.int .i64 a1)] (fun y=>y=E_Int_Int r):=by
 refine Go.VC.Spec.of_xc (args:=[.d (.sl (a0.map Task.enc)),.d (.int .i64 a1)]) (fn:=Tryz.f185) tab ⟨[(0,[2,3]),(1,[2,3,14]),(2,[4,5]),(3,[2,3,6]),(4,[2,3,6,7]),(5,[3,6,7,16,17,18]),(6,[3,6,7,16,17,18,19]),(7,[3,6,7,9,16,17,18]),(8,[3,6,7,9,16,17,18,25]),(9,[3,6,7,16,17,18,27,28,29]),(10,[3,6,7,16,17,18,27,28,29,30]),(11,[3,6,7,11,16,17,18,27,28,29]),(12,[3,6,7,16,17,18,27,28,29]),(13,[3,6,7,16,17,18,27,28,29]),(14,[3,6,7,16,17,18]),(15,[4,5])],[],[14],[]⟩ 39 [.tmp 4,.tmp 5] rfl rfl rfl rfl rfl rfl ?_
 conv=>whnf
 refine caS (E:=E_Bool) h (task_All_w a0) rfl (fun _=>rfl) (fun x1 h=>?_)
 conv=>whnf
 refine fkS h (fun h=>?_) (fun h=>?_)
 ·conv=>whnf
  exact rt (E:=E_Int_Int) h rfl
 conv=>whnf
 refine lenS a0 Task.enc rfl ?_
 conv=>whnf
 refine lpS (fun v2=>⟨[(3,.l (.ptr 4 0)),(6,.l (.ptr 7 0)),(7,.l (.func 194 [.k 7,.k 3,.k 4])),(16,.l (.d (.sl (a0.map Task.enc)))),(17,.l (.d (.int .i64 (a0.length:Int)))),(18,.l (.d (.int .i64 v2.2)))],39,[],[(3,[.d (.sl (a0.map Task.enc))]),(4,[.d (.int .i64 a1)]),(7,[.d (.int .i64 v2.1)])],[]⟩) h (Weak.refl _) (fun _ nx2 hn2 v2 h=>?_)
 conv=>whnf
 refine fkS h (fun h=>?_) (fun h=>?_)
 ·conv=>whnf
  refine jnS (fun w3=>⟨[(3,.l (.ptr 4 0)),(6,.l (.ptr 7 0)),(7,.l (.func 194 [.k 7,.k 3,.k 4])),(16,.l (.d (.sl (a0.map Task.enc)))),(17,.l (.d (.int .i64 (a0.length:Int)))),(18,.l (.d (.int .i64 v2.2)))],39,[],[(3,[.d (.sl (a0.map Task.enc))]),(4,[.d (.int .i64 a1)]),(7,[.d (.int .i64 w3)])],[]⟩) h (fun k3 hk3 h=>?_) (fun w3 h=>?_)
  ·conv=>whnf
   refine ixS (enc:=Task.enc) h rfl (fun _=>rfl) (fun x4 h=>?_)
   conv=>whnf
   refine fkS h (fun h=>?_) (fun h=>?_)
   ·conv=>whnf
    refine jeX hk3 h ?_
    conv=>whnf
    refine WkF.step (Weak.keepS _ [3,6,7,16,17,18]) ?_
    conv=>whnf
    exact WkF.refl _
   conv=>whnf
   refine lenS x4.Secs Sec.enc rfl ?_
   conv=>whnf
   refine lpS (fun v5=>⟨[(3,.l (.ptr 4 0)),(6,.l (.ptr 7 0)),(7,.l (.func 194 [.k 7,.k 3,.k 4])),(16,.l (.d (.sl (a0.map Task.enc)))),(17,.l (.d (.int .i64 (a0.length:Int)))),(18,.l (.d (.int .i64 v2.2))),(27,.l (.d (.sl (x4.Secs.map Sec.enc)))),(28,.l (.d (.int .i64 (x4.Secs.length:Int)))),(29,.l (.d (.int .i64 v5.2)))],39,[],[(3,[.d (.sl (a0.map Task.enc))]),(4,[.d (.int .i64 a1)]),(7,[.d (.int .i64 v5.1)])],[]⟩) h (Weak.refl _) (fun _ nx5 hn5 v5 h=>?_)
   conv=>whnf
   refine fkS h (fun h=>?_) (fun h=>?_)
   ·conv=>whnf
    refine ixS (enc:=Sec.enc) h rfl (fun _=>rfl) (fun x6 h=>?_)
    conv=>whnf
    refine inS (fn:=Tryz.f194) tab ⟨[(0,[1,2,3,4]),(1,[1,4,15]),(2,[])],[],[100015],[]⟩ 18 [] rfl rfl rfl rfl rfl rfl ?_
    conv=>whnf
    refine jnS (fun w7=>⟨[(1,.l (.ptr 7 0)),(4,.l (.ptr 1005 0)),(15,.l (.d (.bool w7)))],18,[⟨[(34,.agg [.d (.int .i64 x6.Res),.d (.int .i64 x6.At),.d (.int .i64 x6.Len)]),(33,.l (.func 194 [.k 7,.k 3,.k 4])),(3,.l (.ptr 4 0)),(6,.l (.ptr 7 0)),(7,.l (.func 194 [.k 7,.k 3,.k 4])),(11,.l (.ptr 12 0)),(16,.l (.d (.sl (a0.map Task.enc)))),(17,.l (.d (.int .i64 (a0.length:Int)))),(18,.l (.d (.int .i64 v2.2))),(27,.l (.d (.sl (x4.Secs.map Sec.enc)))),(28,.l (.d (.int .i64 (x4.Secs.length:Int)))),(29,.l (.d (.int .i64 v5.2)))],39⟩],[(3,[.d (.sl (a0.map Task.enc))]),(4,[.d (.int .i64 a1)]),(7,[.d (.int .i64 v5.1)]),(12,[.d (.int .i64 x6.Res),.d (.int .i64 x6.At),.d (.int .i64 x6.Len)]),(1005,[.d (.int .i64 x6.Res),.d (.int .i64 x6.At),.d (.int .i64 x6.Len)])],[]⟩) h (fun k7 hk7 h=>?_) (fun w7 h=>?_)
    ·conv=>whnf
     refine fkS h (fun h=>?_) (fun h=>?_)
     ·conv=>whnf
      refine caS (E:=E_Bool) h (block_shared_w a0 a1 x6.Res) rfl (fun _=>rfl) (fun x8 h=>?_)
      conv=>whnf
      exact jeS hk7 h (Weak.refl _)
     conv=>whnf
     exact jeS hk7 h (Weak.refl _)
    conv=>whnf
    refine fkS h (fun h=>?_) (fun h=>?_)
    ·conv=>whnf
     exact leS hn5 h (Weak.refl _)
    conv=>whnf
    exact leS hn5 h (Weak.refl _)
   conv=>whnf
   refine jeX hk3 h ?_
   conv=>whnf
   refine WkF.step (Weak.keepS _ [3,6,7,16,17,18]) ?_
   conv=>whnf
   exact WkF.refl _
  conv=>whnf
  exact leS hn2 h (Weak.refl _)
 conv=>whnf
 exact rt (E:=E_Int_Int) h rfl
end Go.Proofs.YtldlcdnhdedoeaaGreat
namespace Go.Proofs.YtldlcdnhdedoeaaGreat
open Go Go.VC
noncomputable def verdict_Need (a0:List Task) (a1:Int):Option (Int×Int):=
 bnd (demand_Bound a0 a1) fun x1=>fk (!decide (x1.2=(0:Int))) (some ((0:Int),x1.2)) (bnd (block_Of a0 a1) fun x2=>bnd (arith_Add x1.1 x2.1) fun x3=>some (x3.1,x3.2))
theorem verdict_Need_w (a0:List Task) (a1:Int) (r:Int×Int) (h:verdict_Need a0 a1=some r):Go.VC.Spec Tryz.prog 175 [.d (.sl (a0.map Task.enc)),.d (.int .i64 a1)] (fun y=>y=E_Int_Int r):=by
 refine Go.VC.Spec.of_xc (args:=[.d (.sl (a0.map Task.enc)),.d (.int .i64 a1)]) (fn:=Tryz.f175) tab ⟨[(0,[0,1]),(1,[0,1,6,7]),(2,[0,1,6,7,17]),(3,[4,5]),(4,[6,8]),(5,[4,5])],[],[],[]⟩ 30 [.tmp 4,.tmp 5] rfl rfl rfl rfl rfl rfl ?_
 conv=>whnf
 refine caS (E:=E_Int_Int) h (demand_Bound_w a0 a1) rfl (fun _=>rfl) (fun x1 h=>?_)
 conv=>whnf
 refine fkS h (fun h=>?_) (fun h=>?_)
 ·conv=>whnf
  exact rt (E:=E_Int_Int) h rfl
 conv=>whnf
 refine caS (E:=E_Int_Int) h (block_Of_w a0 a1) rfl (fun _=>rfl) (fun x2 h=>?_)
 conv=>whnf
 refine caS (E:=E_Int_Int) h (arith_Add_w x1.1 x2.1) rfl (fun _=>rfl) (fun x3 h=>?_)
 conv=>whnf
 exact rt (E:=E_Int_Int) h rfl
end Go.Proofs.YtldlcdnhdedoeaaGreat
namespace Go.Proofs.YtldlcdnhdedoeaaGreat
open Go Go.VC
noncomputable def supply_Bound (a0:Face) (a1:Int):Option (Int×Int):=
 jn (fun (w1:Bool)=>fk w1 (some ((0:Int),(1:Int))) (fk (decide (a1<(wr (a0.P-a0.B)))) (some ((0:Int),(0:Int))) (ck (decide (a0.P≠0)) (some ((wr ((wr ((wr ((wr (a1-(wr (a0.P-a0.B)))).tdiv a0.P))*a0.B))+(if (wr ((wr (a1-(wr ((2:Int)*(wr (a0.P-a0.B))))))-(wr ((wr ((wr (a1-(wr (a0.P-a0.B)))).tdiv a0.P))*a0.P))))>(0:Int) then (wr ((wr (a1-(wr ((2:Int)*(wr (a0.P-a0.B))))))-(wr ((wr ((wr (a1-(wr (a0.P-a0.B)))).tdiv a0.P))*a0.P)))) else (0:Int)))),(0:Int)))))) (fun k1=>bnd (supply_Right a0) fun x2=>fk (!x2) (k1 true) (fk (decide (a1<(0:Int))) (k1 true) (k1 (decide (a1>(4611686018427387903:Int))))))
theorem supply_Bound_w (a0:Face) (a1:Int) (r:Int×Int) (h:supply_Bound a0 a1=some r):Go.VC.Spec Tryz.prog 176 [.agg (Face.enc a0),.d (.int .i64 a1)] (fun y=>y=E_Int_Int r):=by
 refine Go.VC.Spec.of_xc (args:=[.agg (Face.enc a0),.d (.int .i64 a1)]) (fn:=Tryz.f176) tab ⟨[(0,[1,2]),(1,[1,2,18]),(2,[4,5]),(3,[1,2,6]),(4,[1,2,6,26]),(5,[4,5]),(6,[1,2,6,7]),(7,[4,5])],[],[100018],[]⟩ 48 [.tmp 4,.tmp 5] rfl rfl rfl rfl rfl rfl ?_
 conv=>whnf
 refine jnS (fun w1=>⟨[(1,.l (.d (.int .i64 a1))),(2,.l (.ptr 3 0)),(18,.l (.d (.bool w1)))],48,[],[(3,[.d (.int .i64 a0.P),.d (.int .i64 a0.B)])],[]⟩) h (fun k1 hk1 h=>?_) (fun w1 h=>?_)
 ·conv=>whnf
  refine caS (E:=E_Bool) h (supply_Right_w a0) rfl (fun _=>rfl) (fun x2 h=>?_)
  conv=>whnf
  refine fkS h (fun h=>?_) (fun h=>?_)
  ·conv=>whnf
   exact jeS hk1 h (Weak.refl _)
  conv=>whnf
  refine fkS h (fun h=>?_) (fun h=>?_)
  ·conv=>whnf
   exact jeS hk1 h (Weak.refl _)
  conv=>whnf
  exact jeS hk1 h (Weak.refl _)
 conv=>whnf
 refine fkS h (fun h=>?_) (fun h=>?_)
 ·conv=>whnf
  exact rt (E:=E_Int_Int) h rfl
 conv=>whnf
 refine fkS h (fun h=>?_) (fun h=>?_)
 ·conv=>whnf
  exact rt (E:=E_Int_Int) h rfl
 conv=>whnf
 refine dvS h (fun h=>?_)
 conv=>whnf
 exact rt (E:=E_Int_Int) h rfl
end Go.Proofs.YtldlcdnhdedoeaaGreat
namespace Go.Proofs.YtldlcdnhdedoeaaGreat
open Go Go.VC
noncomputable def verdict_fails (a0:List Task) (a1:Face) (a2:Int):Option (Option Int):=
 lp (fun nx (v:Int)=>fk (decide (v≤a2)) (bnd (verdict_Need a0 v) fun x1=>bnd (supply_Bound a1 v) fun x2=>fk (decide (x1.1>x2.1)) (some (some v)) (nx (wr (v+1)))) (some none)) FU 0
theorem verdict_fails_it (a0:List Task) (a1:Face) (a2:Int) (r:Option Int) (h:verdict_fails a0 a1 a2=some r):ItC Tryz.prog 174 [.dp [.int .i64 a2],.dp [.sl (a0.map Task.enc)],.dp [.int .i64 a1.P,.int .i64 a1.B]] r:=by
 refine ItC.of (fn:=Tryz.f174) rfl rfl rfl rfl rfl (fun w0 p0 l X hy=>?_)
 refine IW.seqx tab ⟨[(0,[0,1,2,3,5]),(1,[0,1,2,3,5,12]),(2,[0,1,2,3,5]),(3,[0,1,2,3,5,6]),(4,[0,1,2,3,5,6,8]),(5,[0,1,2,3,5,35])],[],[],[]⟩ ?_
 refine IW.block ?_
 refine IW.lp (fun v=>⟨[(0,.l (.raw (.func (.yield l) #[] #[]))),(1,.l (.dptr [.int .i64 a2] 0)),(2,.l (.dptr [.sl (a0.map Task.enc)] 0)),(3,.l (.dptr [.int .i64 a1.P,.int .i64 a1.B] 0)),(5,.l (.d (.int .i64 v)))],36,[],[],[]⟩) h (Weak.refl _) (fun _ nx hn v h=>?_)
 refine IW.seqx tab ⟨[(0,[0,1,2,3,5]),(1,[0,1,2,3,5,12]),(2,[0,1,2,3,5]),(3,[0,1,2,3,5,6]),(4,[0,1,2,3,5,6,8]),(5,[0,1,2,3,5,35])],[],[],[]⟩ ?_
 refine fkS h (fun h=>?_) (fun h=>?_)
 ·refine IW.seq (IW.block ?_)
  refine IW.seqx tab ⟨[(0,[0,1,2,3,5]),(1,[0,1,2,3,5,12]),(2,[0,1,2,3,5]),(3,[0,1,2,3,5,6]),(4,[0,1,2,3,5,6,8]),(5,[0,1,2,3,5,35])],[],[],[]⟩ ?_
  refine caS (E:=E_Int_Int) h (verdict_Need_w a0 v) rfl (fun _=>rfl) (fun x1 h=>?_)
  refine IW.seqx tab ⟨[(0,[0,1,2,3,5]),(1,[0,1,2,3,5,12]),(2,[0,1,2,3,5]),(3,[0,1,2,3,5,6]),(4,[0,1,2,3,5,6,8]),(5,[0,1,2,3,5,35])],[],[],[]⟩ ?_
  refine caS (E:=E_Int_Int) h (supply_Bound_w a1 v) rfl (fun _=>rfl) (fun x2 h=>?_)
  refine IW.yield tab (l:=l) (r0:=0) (r5:=5) (r6:=6) (r8:=8) (nd:=x1.1) (hv:=x2.1) (t:=v) rfl rfl rfl rfl rfl rfl rfl rfl rfl rfl rfl rfl rfl rfl rfl rfl rfl rfl rfl rfl rfl rfl rfl rfl rfl rfl rfl (Nat.le_of_ble_eq_true rfl) (Nat.le_of_ble_eq_true rfl) (Nat.le_of_ble_eq_true rfl) (Nat.le_of_ble_eq_true rfl) (Nat.le_of_ble_eq_true rfl) (Nat.le_of_ble_eq_true rfl) (Nat.le_of_ble_eq_true rfl) (Nat.le_of_ble_eq_true rfl) (Nat.le_of_ble_eq_true rfl) (by decide) (by decide) (by decide) (by decide) (by decide) (by decide) (by decide) (by decide) (by decide) (by decide) (by decide) (by decide) (by decide) (by decide) (by decide) (by decide) rfl rfl rfl rfl (fun hg W1 hW=>?_) (fun hg=>?_) (fun hg=>?_)
  ·rw[decide_eq_true hg] at h; exact hy v W1 (Option.some.inj h).symm hW
  ·rw[decide_eq_true hg] at h; rw[←Option.some.inj h]; rfl
  ·rw[decide_eq_false hg] at h
   refine IW.of_xc tab ⟨[(0,[0,1,2,3,5]),(1,[0,1,2,3,5,12]),(2,[0,1,2,3,5]),(3,[0,1,2,3,5,6]),(4,[0,1,2,3,5,6,8]),(5,[0,1,2,3,5,35])],[],[],[]⟩ ?_
   exact leS hn h (Weak.refl _)
 ·exact (Option.some.inj h).symm
noncomputable def verdict_First (a0:List Task) (a1:Face):Option (Int×Bool×Int):=
 bnd (verdict_Cycle a0 a1) fun x1=>fk (!decide (x1.2.2=(0:Int))) (some ((0:Int),false,x1.2.2)) (bnd (verdict_fails a0 a1 x1.2.1) fun x2=>match x2 with | some t=>some (t,true,(0:Int)) | none=>some ((0:Int),false,(0:Int)))
theorem verdict_First_w (a0:List Task) (a1:Face) (r:Int×Bool×Int) (h:verdict_First a0 a1=some r):Go.VC.Spec Tryz.prog 160 [.d (.sl (a0.map Task.enc)),.agg (Face.enc a1)] (fun y=>y=E_Int_Bool_Int r):=by
 refine Spec.of_wpF (args:=[.d (.sl (a0.map Task.enc)),.agg (Face.enc a1)]) (fn:=Tryz.f160) rfl rfl rfl rfl ?_
 refine WpF.seq tab ⟨[(0,[0,3,4,5,6,25]),(1,[0,3,4,5,6,8,9,25]),(2,[0,3,4,5,6,8,9,19,25]),(3,[4,5,6]),(4,[4,5,6,24,25]),(5,[4,5,6,10]),(6,[4,5,6]),(7,[4,5,6])],[],[],[]⟩ (rs:=[.cell 4 3,.cell 5 4,.cell 6 36]) rfl ?_
 refine WpF.seq tab ⟨[(0,[0,3,4,5,6,25]),(1,[0,3,4,5,6,8,9,25]),(2,[0,3,4,5,6,8,9,19,25]),(3,[4,5,6]),(4,[4,5,6,24,25]),(5,[4,5,6,10]),(6,[4,5,6]),(7,[4,5,6])],[],[],[]⟩ (rs:=[.cell 4 3,.cell 5 4,.cell 6 36]) rfl ?_
 refine caS (E:=E_Int_Int_Int) h (verdict_Cycle_w a0 a1) rfl (fun _=>rfl) (fun x1 h=>?_)
 refine WpF.seq tab ⟨[(0,[0,3,4,5,6,25]),(1,[0,3,4,5,6,8,9,25]),(2,[0,3,4,5,6,8,9,19,25]),(3,[4,5,6]),(4,[4,5,6,24,25]),(5,[4,5,6,10]),(6,[4,5,6]),(7,[4,5,6])],[],[],[]⟩ (rs:=[.cell 4 3,.cell 5 4,.cell 6 36]) rfl ?_
 refine fkS h (fun h=>?_) (fun h=>?_)
 ·exact RetOk.mk ⟨_,rfl,rt (E:=E_Int_Bool_Int) h rfl⟩
 obtain⟨x2,hx2,h⟩:=bnd_of h
 refine WpF.seqA tab ⟨[(0,[0,3,4,5,6,25]),(1,[0,3,4,5,6,8,9,25]),(2,[0,3,4,5,6,8,9,19,25]),(3,[4,5,6]),(4,[4,5,6,24,25]),(5,[4,5,6,10]),(6,[4,5,6]),(7,[4,5,6])],[],[],[]⟩ (rs:=[.cell 4 3,.cell 5 4,.cell 6 36]) rfl ?_
 refine inS (fn:=Tryz.f167) tab ⟨[(0,[3,4,5]),(1,[6])],[],[],[]⟩ 8 [.tmp 6] rfl rfl rfl rfl rfl rfl ?_
 refine WpG.id ?_
 refine WpG.range tab (rs:=[.cell 4 3,.cell 5 4,.cell 6 36]) rfl rfl rfl rfl rfl ⟨_,rfl,rfl,rfl⟩ x2 rfl (verdict_fails_it a0 a1 x1.2.1 x2 hx2) rfl rfl rfl (fun x hx=>?_) (fun hx=>?_)
 ·subst hx
  refine PO.h (?_)
  refine po_move rfl rfl rfl ?_
  refine po_store rfl rfl rfl rfl rfl rfl rfl rfl rfl rfl ?_
  refine po_store rfl rfl rfl rfl rfl rfl rfl rfl rfl rfl ?_
  refine po_store rfl rfl rfl rfl rfl rfl rfl rfl rfl rfl ?_
  refine po_nil ?_
  exact RetOk.mk ⟨_,rfl,rt (E:=E_Int_Bool_Int) h rfl⟩
 ·subst hx
  refine PO.h (?_)
  refine po_store rfl rfl rfl rfl rfl rfl rfl rfl rfl rfl ?_
  refine po_store rfl rfl rfl rfl rfl rfl rfl rfl rfl rfl ?_
  refine po_store rfl rfl rfl rfl rfl rfl rfl rfl rfl rfl ?_
  refine po_nil ?_
  exact RetOk.mk ⟨_,rfl,rt (E:=E_Int_Bool_Int) h rfl⟩
end Go.Proofs.YtldlcdnhdedoeaaGreat
namespace Go.Proofs.YtldlcdnhdedoeaaGreat
open Go Go.VC
noncomputable def verdict_Fits (a0:List Task) (a1:Face):Option (Bool×Int):=
 bnd (verdict_Cycle a0 a1) fun x1=>fk (!decide (x1.2.2=(0:Int))) (some (false,x1.2.2)) (lp (fun nx2 (v2:Int×Int)=>fk (decide (v2.2<(a0.length:Int))) (ix a0 v2.2 fun x3=>ck (decide (x3.T≠0)) (nx2 ((wr (v2.1+(wr ((wr (x1.1.tdiv x3.T))*x3.C)))),(wr (v2.2+(1:Int)))))) (ck (decide (a1.P≠0)) (fk (decide (v2.1>(wr ((wr (x1.1.tdiv a1.P))*a1.B)))) (some (false,(0:Int))) (bnd (verdict_First a0 a1) fun x4=>some ((!x4.2.1),(0:Int)))))) FU ((0:Int),(0:Int)))
theorem verdict_Fits_w (a0:List Task) (a1:Face) (r:Bool×Int) (h:verdict_Fits a0 a1=some r):Go.VC.Spec Tryz.prog 142 [.d (.sl (a0.map Task.enc)),.agg (Face.enc a1)] (fun y=>y=E_Bool_Int r):=by
 refine Go.VC.Spec.of_xc (args:=[.d (.sl (a0.map Task.enc)),.agg (Face.enc a1)]) (fn:=Tryz.f142) tab ⟨[(0,[0,3]),(1,[0,3,6,8]),(2,[0,3,6,8,23]),(3,[4,5]),(4,[0,3,6,9]),(5,[0,3,6,9,25,26,27]),(6,[0,3,6,9,25,26,27,28]),(7,[0,3,6,9,11,25,26,27]),(8,[0,3,6,9,25,26,27]),(9,[0,3,6,9,25,26,27]),(10,[0,3,49]),(11,[4,5]),(12,[13]),(13,[4,5])],[],[],[]⟩ 59 [.tmp 4,.tmp 5] rfl rfl rfl rfl rfl rfl ?_
 conv=>whnf
 refine caS (E:=E_Int_Int_Int) h (verdict_Cycle_w a0 a1) rfl (fun _=>rfl) (fun x1 h=>?_)
 conv=>whnf
 refine fkS h (fun h=>?_) (fun h=>?_)
 ·conv=>whnf
  exact rt (E:=E_Bool_Int) h rfl
 conv=>whnf
 refine lenS a0 Task.enc rfl ?_
 conv=>whnf
 refine lpS (fun v2=>⟨[(0,.l (.d (.sl (a0.map Task.enc)))),(3,.l (.ptr 4 0)),(6,.l (.d (.int .i64 x1.1))),(9,.l (.d (.int .i64 v2.1))),(25,.l (.d (.sl (a0.map Task.enc)))),(26,.l (.d (.int .i64 (a0.length:Int)))),(27,.l (.d (.int .i64 v2.2)))],59,[],[(4,[.d (.int .i64 a1.P),.d (.int .i64 a1.B)])],[]⟩) h (Weak.refl _) (fun _ nx2 hn2 v2 h=>?_)
 conv=>whnf
 refine fkS h (fun h=>?_) (fun h=>?_)
 ·conv=>whnf
  refine ixS (enc:=Task.enc) h rfl (fun _=>rfl) (fun x3 h=>?_)
  conv=>whnf
  refine⟨8,?_⟩
  conv=>whnf
  refine dvS h (fun h=>?_)
  conv=>whnf
  refine drS (by kernel_rfl) ?_
  conv=>whnf
  exact leS hn2 h (Weak.refl _)
 conv=>whnf
 refine⟨8,?_⟩
 conv=>whnf
 refine dvS h (fun h=>?_)
 conv=>whnf
 refine drS (by kernel_rfl) ?_
 conv=>whnf
 refine fkS h (fun h=>?_) (fun h=>?_)
 ·conv=>whnf
  exact rt (E:=E_Bool_Int) h rfl
 conv=>whnf
 refine caS (E:=E_Int_Bool_Int) h (verdict_First_w a0 a1) rfl (fun _=>rfl) (fun x4 h=>?_)
 conv=>whnf
 exact rt (E:=E_Bool_Int) h rfl
end Go.Proofs.YtldlcdnhdedoeaaGreat
namespace Go.Proofs.YtldlcdnhdedoeaaGreat
open Go Go.VC
noncomputable def admit_fit_1 (a0:List Task) (a1:Int) (a2:Int):Option Int:=
 bnd (verdict_Fits a0 ⟨a1,a2⟩) fun x1=>jn (fun (w2:Bool)=>fk w2 (some (7:Int)) (some x1.2)) (fun k2=>fk (decide (x1.2=(0:Int))) (k2 (!x1.1)) (k2 false))
theorem admit_fit_1_w (a0:List Task) (a1:Int) (a2:Int) (r:Int) (h:admit_fit_1 a0 a1 a2=some r):Go.VC.Spec Tryz.prog 141 [.dp [.sl (a0.map Task.enc)],.dp [.int .i64 a1,.int .i64 a2]] (fun y=>y=E_Int r):=by
 refine Go.VC.Spec.of_xc (args:=[.dp [.sl (a0.map Task.enc)],.dp [.int .i64 a1,.int .i64 a2]]) (fn:=Tryz.f141) tab ⟨[(0,[0,1]),(1,[3,4]),(2,[4,16]),(3,[2]),(4,[2])],[],[100016],[]⟩ 18 [.tmp 2] rfl rfl rfl rfl rfl rfl ?_
 conv=>whnf
 refine caS (E:=E_Bool_Int) h (verdict_Fits_w a0 ⟨a1,a2⟩) rfl (fun _=>rfl) (fun x1 h=>?_)
 conv=>whnf
 refine jnS (fun w2=>⟨[(4,.l (.d (.int .i64 x1.2))),(16,.l (.d (.bool w2)))],18,[],[],[]⟩) h (fun k2 hk2 h=>?_) (fun w2 h=>?_)
 ·conv=>whnf
  refine fkS h (fun h=>?_) (fun h=>?_)
  ·conv=>whnf
   exact jeS hk2 h (Weak.refl _)
  conv=>whnf
  exact jeS hk2 h (Weak.refl _)
 conv=>whnf
 refine fkS h (fun h=>?_) (fun h=>?_)
 ·conv=>whnf
  exact rt (E:=E_Int) h rfl
 conv=>whnf
 exact rt (E:=E_Int) h rfl
end Go.Proofs.YtldlcdnhdedoeaaGreat
namespace Go.Proofs.YtldlcdnhdedoeaaGreat
open Go Go.VC
noncomputable def admit_unless_1 (a0:Bool) (a1:Int):Option Int:=
 fk a0 (some (0:Int)) (some a1)
theorem admit_unless_1_w (a0:Bool) (a1:Int) (r:Int) (h:admit_unless_1 a0 a1=some r):Go.VC.Spec Tryz.prog 134 [.dp [.bool a0],.dp [.int .i64 a1]] (fun y=>y=E_Int r):=by
 refine Go.VC.Spec.of_xc (args:=[.dp [.bool a0],.dp [.int .i64 a1]]) (fn:=Tryz.f134) tab ⟨[(0,[0,1]),(1,[1,3]),(2,[2]),(3,[2])],[],[],[]⟩ 5 [.tmp 2] rfl rfl rfl rfl rfl rfl ?_
 conv=>whnf
 refine fkS h (fun h=>?_) (fun h=>?_)
 ·conv=>whnf
  exact rt (E:=E_Int) h rfl
 conv=>whnf
 exact rt (E:=E_Int) h rfl
end Go.Proofs.YtldlcdnhdedoeaaGreat
namespace Go.Proofs.YtldlcdnhdedoeaaGreat
open Go Go.VC
noncomputable def admit_first_1 (a0:Bool) (a1:Int) (a2:Bool) (a3:Int) (a4:Bool) (a5:Int) (a6:List Task) (a7:Int) (a8:Int):Option Int:=
 lp (fun nx1 (v1:Int)=>fk (decide (v1<(4:Int))) (fk (decide (v1=(0:Int))) (bnd (admit_unless_1 a0 a1) fun x5=>fk (!decide (x5=(0:Int))) (some x5) (nx1 (wr (v1+(1:Int))))) (fk (decide (v1=(1:Int))) (bnd (admit_unless_1 a2 a3) fun x4=>fk (!decide (x4=(0:Int))) (some x4) (nx1 (wr (v1+(1:Int))))) (fk (decide (v1=(2:Int))) (bnd (admit_unless_1 a4 a5) fun x3=>fk (!decide (x3=(0:Int))) (some x3) (nx1 (wr (v1+(1:Int))))) (fk (decide (v1=(3:Int))) (bnd (admit_fit_1 a6 a7 a8) fun x2=>fk (!decide (x2=(0:Int))) (some x2) (nx1 (wr (v1+(1:Int))))) (none))))) (some (0:Int))) FU (0:Int)
theorem admit_first_1_w (a0:Bool) (a1:Int) (a2:Bool) (a3:Int) (a4:Bool) (a5:Int) (a6:List Task) (a7:Int) (a8:Int) (r:Int) (h:admit_first_1 a0 a1 a2 a3 a4 a5 a6 a7 a8=some r):Go.VC.Spec Tryz.prog 82 [.d (.sl [[.fn 134 [[.bool a0],[.int .i64 a1]]],[.fn 134 [[.bool a2],[.int .i64 a3]]],[.fn 134 [[.bool a4],[.int .i64 a5]]],[.fn 141 [[.sl (a6.map Task.enc)],[.int .i64 a7,.int .i64 a8]]]])] (fun y=>y=E_Int r):=by
 refine Go.VC.Spec.of_xc (args:=[.d (.sl [[.fn 134 [[.bool a0],[.int .i64 a1]]],[.fn 134 [[.bool a2],[.int .i64 a3]]],[.fn 134 [[.bool a4],[.int .i64 a5]]],[.fn 141 [[.sl (a6.map Task.enc)],[.int .i64 a7,.int .i64 a8]]]])]) (fn:=Tryz.f82) tab ⟨[(0,[0]),(1,[6,7,8]),(2,[6,7,8,9]),(3,[4,6,7,8]),(4,[5,6,7,8]),(5,[5,6,7,8,15]),(6,[2]),(7,[6,7,8]),(8,[2])],[],[],[]⟩ 18 [.tmp 2] rfl rfl rfl rfl rfl rfl ?_
 conv=>whnf
 refine lenR (4:Int) rfl ?_
 conv=>whnf
 refine lpS (fun v1=>⟨[(6,.l (.d (.sl [[.fn 134 [[.bool a0],[.int .i64 a1]]],[.fn 134 [[.bool a2],[.int .i64 a3]]],[.fn 134 [[.bool a4],[.int .i64 a5]]],[.fn 141 [[.sl (a6.map Task.enc)],[.int .i64 a7,.int .i64 a8]]]]))),(7,.l (.d (.int .i64 (4:Int)))),(8,.l (.d (.int .i64 v1)))],18,[],[],[]⟩) h (Weak.refl _) (fun _ nx1 hn1 v1 h=>?_)
 conv=>whnf
 refine fkS h (fun h=>?_) (fun h=>?_)
 ·conv=>whnf
  refine ixC 0 [.fn 134 [[.bool a0],[.int .i64 a1]]] h rfl rfl (fun h=>?_) (fun h=>?_)
  ·conv=>whnf
   refine caS (E:=E_Int) h (admit_unless_1_w a0 a1) rfl (fun _=>rfl) (fun x5 h=>?_)
   conv=>whnf
   refine fkS h (fun h=>?_) (fun h=>?_)
   ·conv=>whnf
    exact rt (E:=E_Int) h rfl
   conv=>whnf
   exact leS hn1 h (Weak.refl _)
  conv=>whnf
  refine ixC 1 [.fn 134 [[.bool a2],[.int .i64 a3]]] h rfl rfl (fun h=>?_) (fun h=>?_)
  ·conv=>whnf
   refine caS (E:=E_Int) h (admit_unless_1_w a2 a3) rfl (fun _=>rfl) (fun x4 h=>?_)
   conv=>whnf
   refine fkS h (fun h=>?_) (fun h=>?_)
   ·conv=>whnf
    exact rt (E:=E_Int) h rfl
   conv=>whnf
   exact leS hn1 h (Weak.refl _)
  conv=>whnf
  refine ixC 2 [.fn 134 [[.bool a4],[.int .i64 a5]]] h rfl rfl (fun h=>?_) (fun h=>?_)
  ·conv=>whnf
   refine caS (E:=E_Int) h (admit_unless_1_w a4 a5) rfl (fun _=>rfl) (fun x3 h=>?_)
   conv=>whnf
   refine fkS h (fun h=>?_) (fun h=>?_)
   ·conv=>whnf
    exact rt (E:=E_Int) h rfl
   conv=>whnf
   exact leS hn1 h (Weak.refl _)
  conv=>whnf
  refine ixC 3 [.fn 141 [[.sl (a6.map Task.enc)],[.int .i64 a7,.int .i64 a8]]] h rfl rfl (fun h=>?_) (fun h=>?_)
  ·conv=>whnf
   refine caS (E:=E_Int) h (admit_fit_1_w a6 a7 a8) rfl (fun _=>rfl) (fun x2 h=>?_)
   conv=>whnf
   refine fkS h (fun h=>?_) (fun h=>?_)
   ·conv=>whnf
    exact rt (E:=E_Int) h rfl
   conv=>whnf
   exact leS hn1 h (Weak.refl _)
  conv=>whnf
  exact ixN h
 conv=>whnf
 exact rt (E:=E_Int) h rfl
end Go.Proofs.YtldlcdnhdedoeaaGreat
namespace Go.Proofs.YtldlcdnhdedoeaaGreat
open Go Go.VC
noncomputable def part_Add (a0:PartState) (a1:Task):Option (PartState×Int):=
 jn (fun (w1:Bool)=>fk w1 (some (a0,(1:Int))) (fk (decide ((a0.Tasks.length:Int)≥(8:Int))) (some (a0,(3:Int))) (ck (decide ((([]:List Sec).length+a1.Secs.length)*24≤140737488355328)) (ck (decide ((([]:List Task).length+a0.Tasks.length)*48≤140737488355328)) (ck (decide (((([]:List Task)++a0.Tasks).length+([⟨a1.C,a1.D,a1.T,([]:List Sec)++a1.Secs⟩]:List Task).length)*48≤140737488355328)) (ck (decide ((([]:List Bool).length+a0.Leaves.length)*1≤140737488355328)) (ck (decide (((([]:List Bool)++a0.Leaves).length+([false]:List Bool).length)*1≤140737488355328)) (ck (decide ((([]:List Int).length+a0.Lasts.length)*8≤140737488355328)) (ck (decide (((([]:List Int)++a0.Lasts).length+([(-1:Int)]:List Int).length)*8≤140737488355328)) (some (⟨(([]:List Task)++a0.Tasks)++([⟨a1.C,a1.D,a1.T,([]:List Sec)++a1.Secs⟩]:List Task),(([]:List Bool)++a0.Leaves)++([false]:List Bool),(([]:List Int)++a0.Lasts)++([(-1:Int)]:List Int),a0.Jobs,a0.Log⟩,(0:Int)))))))))))) (fun k1=>bnd (part_Right a0) fun x2=>fk (!x2) (k1 true) (bnd (task_Right a1) fun x3=>k1 (!x3)))
theorem part_Add_w (a0:PartState) (a1:Task) (r:PartState×Int) (h:part_Add a0 a1=some r):Go.VC.Spec Tryz.prog 65 [.agg (PartState.enc a0),.agg (Task.enc a1)] (fun y=>y=E_PartState_Int r):=by
 refine Go.VC.Spec.of_xc (args:=[.agg (PartState.enc a0),.agg (Task.enc a1)]) (fn:=Tryz.f65) tab ⟨[(0,[2,3,4]),(1,[2,3,4,6]),(2,[4,5]),(3,[2,3,4,16]),(4,[4,5]),(5,[2,3,4]),(6,[2,4]),(7,[2,4]),(8,[2,4]),(9,[4,5])],[],[100006],[(26,[26])]⟩ 50 [.cell 4 51,.tmp 5] rfl rfl rfl rfl rfl rfl ?_
 conv=>whnf
 refine jnS (fun w1=>⟨[(2,.l (.ptr 3 0)),(3,.l (.ptr 4 0)),(4,.l (.ptr 5 0)),(6,.l (.d (.bool w1)))],50,[],[(3,[.d (.sl (a0.Tasks.map Task.enc)),.d (.sl (a0.Leaves.map eB)),.d (.sl (a0.Lasts.map (eI .i64))),.d (.sl (a0.Jobs.map Job.enc)),.d (.sl (a0.Log.map Entry.enc))]),(4,[.d (.int .i64 a1.C),.d (.int .i64 a1.D),.d (.int .i64 a1.T),.d (.sl (a1.Secs.map Sec.enc))]),(5,[.nil,.nil,.nil,.nil,.nil])],[]⟩) h (fun k1 hk1 h=>?_) (fun w1 h=>?_)
 ·conv=>whnf
  refine caS (E:=E_Bool) h (part_Right_w a0) rfl (fun _=>rfl) (fun x2 h=>?_)
  conv=>whnf
  refine fkS h (fun h=>?_) (fun h=>?_)
  ·conv=>whnf
   exact jeS hk1 h (Weak.refl _)
  conv=>whnf
  refine caS (E:=E_Bool) h (task_Right_w a1) rfl (fun _=>rfl) (fun x3 h=>?_)
  conv=>whnf
  exact jeS hk1 h (Weak.refl _)
 conv=>whnf
 refine fkS h (fun h=>?_) (fun h=>?_)
 ·conv=>whnf
  exact rt (E:=E_PartState_Int) h rfl
 conv=>whnf
 refine lenS a0.Tasks Task.enc rfl ?_
 conv=>whnf
 refine fkS h (fun h=>?_) (fun h=>?_)
 ·conv=>whnf
  exact rt (E:=E_PartState_Int) h rfl
 conv=>whnf
 refine liS ([]:List Sec) Sec.enc rfl rfl ?_
 conv=>whnf
 refine apS (enc:=Sec.enc) (l1:=([]:List Sec)) (l2:=a1.Secs) h rfl rfl (fun _=>rfl) (fun h=>?_)
 conv=>whnf
 refine⟨6,?_⟩
 conv=>whnf
 refine liS ([]:List Task) Task.enc rfl rfl ?_
 conv=>whnf
 refine apS (enc:=Task.enc) (l1:=([]:List Task)) (l2:=a0.Tasks) h rfl rfl (fun _=>rfl) (fun h=>?_)
 conv=>whnf
 refine liS ([⟨a1.C,a1.D,a1.T,([]:List Sec)++a1.Secs⟩]:List Task) Task.enc rfl rfl ?_
 conv=>whnf
 refine drS (by kernel_rfl) ?_
 conv=>whnf
 refine apS (enc:=Task.enc) (l1:=([]:List Task)++a0.Tasks) (l2:=([⟨a1.C,a1.D,a1.T,([]:List Sec)++a1.Secs⟩]:List Task)) h rfl rfl (fun _=>rfl) (fun h=>?_)
 conv=>whnf
 refine liS ([]:List Bool) eB rfl rfl ?_
 conv=>whnf
 refine apS (enc:=eB) (l1:=([]:List Bool)) (l2:=a0.Leaves) h rfl rfl (fun _=>rfl) (fun h=>?_)
 conv=>whnf
 refine liS ([false]:List Bool) eB rfl rfl ?_
 conv=>whnf
 refine apS (enc:=eB) (l1:=([]:List Bool)++a0.Leaves) (l2:=([false]:List Bool)) h rfl rfl (fun _=>rfl) (fun h=>?_)
 conv=>whnf
 refine liS ([]:List Int) (eI .i64) rfl rfl ?_
 conv=>whnf
 refine apS (enc:=(eI .i64)) (l1:=([]:List Int)) (l2:=a0.Lasts) h rfl rfl (fun _=>rfl) (fun h=>?_)
 conv=>whnf
 refine liS ([(-1:Int)]:List Int) (eI .i64) rfl rfl ?_
 conv=>whnf
 refine apS (enc:=(eI .i64)) (l1:=([]:List Int)++a0.Lasts) (l2:=([(-1:Int)]:List Int)) h rfl rfl (fun _=>rfl) (fun h=>?_)
 conv=>whnf
 exact rt (E:=E_PartState_Int) h rfl
end Go.Proofs.YtldlcdnhdedoeaaGreat
namespace Go.Proofs.YtldlcdnhdedoeaaGreat
open Go Go.VC
noncomputable def admit_Add (a0:PartState) (a1:Face) (a2:Task):Option (PartState×Int):=
 ck (decide ((([]:List Task).length+a0.Tasks.length)*48≤140737488355328)) (ck (decide (((([]:List Task)++a0.Tasks).length+([a2]:List Task).length)*48≤140737488355328)) (jn (fun (w1:Int)=>fk (!decide (w1=(0:Int))) (some (a0,w1)) (bnd (part_Add a0 a2) fun x23=>some (x23.1,x23.2))) (fun k1=>bnd (part_Right a0) fun x2=>fk x2 (bnd (supply_Right a1) fun x3=>fk x3 (bnd (task_Right a2) fun x4=>bnd (admit_unless x4 (1:Int)) fun x5=>bnd (admit_unless (decide ((a0.Tasks.length:Int)<(8:Int))) (3:Int)) fun x6=>bnd (job_First a0.Jobs true) fun x7=>bnd (admit_unless (decide (x7<(0:Int))) (9:Int)) fun x8=>bnd (admit_fit ((([]:List Task)++a0.Tasks)++([a2]:List Task)) a1) fun x9=>bnd (admit_first_1 x5.1 x5.2 x6.1 x6.2 x8.1 x8.2 x9.1 x9.2.1 x9.2.2) fun x10=>k1 x10) (bnd (admit_unless false (1:Int)) fun x11=>bnd (admit_unless (decide ((a0.Tasks.length:Int)<(8:Int))) (3:Int)) fun x12=>bnd (job_First a0.Jobs true) fun x13=>bnd (admit_unless (decide (x13<(0:Int))) (9:Int)) fun x14=>bnd (admit_fit ((([]:List Task)++a0.Tasks)++([a2]:List Task)) a1) fun x15=>bnd (admit_first_1 x11.1 x11.2 x12.1 x12.2 x14.1 x14.2 x15.1 x15.2.1 x15.2.2) fun x16=>k1 x16)) (bnd (admit_unless false (1:Int)) fun x17=>bnd (admit_unless (decide ((a0.Tasks.length:Int)<(8:Int))) (3:Int)) fun x18=>bnd (job_First a0.Jobs true) fun x19=>bnd (admit_unless (decide (x19<(0:Int))) (9:Int)) fun x20=>bnd (admit_fit ((([]:List Task)++a0.Tasks)++([a2]:List Task)) a1) fun x21=>bnd (admit_first_1 x17.1 x17.2 x18.1 x18.2 x20.1 x20.2 x21.1 x21.2.1 x21.2.2) fun x22=>k1 x22))))
theorem admit_Add_w (a0:PartState) (a1:Face) (a2:Task) (r:PartState×Int) (h:admit_Add a0 a1 a2=some r):Go.VC.Spec Tryz.prog 31 [.agg (PartState.enc a0),.agg (Face.enc a1),.agg (Task.enc a2)] (fun y=>y=E_PartState_Int r):=by
 refine Go.VC.Spec.of_xc (args:=[.agg (PartState.enc a0),.agg (Face.enc a1),.agg (Task.enc a2)]) (fn:=Tryz.f31) tab ⟨[(0,[3,4,5,6]),(1,[3,4,5,6,8]),(2,[3,5,6,9]),(3,[3,5,6,9,44]),(4,[6,7]),(5,[6,7])],[],[3],[]⟩ 52 [.cell 6 51,.tmp 7] rfl rfl rfl rfl rfl rfl ?_
 conv=>whnf
 refine⟨6,?_⟩
 conv=>whnf
 refine liS ([]:List Task) Task.enc rfl rfl ?_
 conv=>whnf
 refine apS (enc:=Task.enc) (l1:=([]:List Task)) (l2:=a0.Tasks) h rfl rfl (fun _=>rfl) (fun h=>?_)
 conv=>whnf
 refine liS ([a2]:List Task) Task.enc rfl rfl ?_
 conv=>whnf
 refine drS (by kernel_rfl) ?_
 conv=>whnf
 refine apS (enc:=Task.enc) (l1:=([]:List Task)++a0.Tasks) (l2:=([a2]:List Task)) h rfl rfl (fun _=>rfl) (fun h=>?_)
 conv=>whnf
 refine jnS (fun w1=>⟨[(3,.l (.ptr 4 0)),(5,.l (.ptr 6 0)),(6,.l (.ptr 7 0)),(9,.l (.d (.int .i64 w1)))],52,[],[(4,[.d (.sl (a0.Tasks.map Task.enc)),.d (.sl (a0.Leaves.map eB)),.d (.sl (a0.Lasts.map (eI .i64))),.d (.sl (a0.Jobs.map Job.enc)),.d (.sl (a0.Log.map Entry.enc))]),(6,[.d (.int .i64 a2.C),.d (.int .i64 a2.D),.d (.int .i64 a2.T),.d (.sl (a2.Secs.map Sec.enc))]),(7,[.nil,.nil,.nil,.nil,.nil])],[]⟩) h (fun k1 hk1 h=>?_) (fun w1 h=>?_)
 ·conv=>whnf
  refine⟨23,?_⟩
  conv=>whnf
  refine daS (E:=E_Bool) h (part_Right_w a0) (fun _=>rfl) (fun x2 h=>?_)
  conv=>whnf
  refine fkS h (fun h=>?_) (fun h=>?_)
  ·conv=>whnf
   refine daS (E:=E_Bool) h (supply_Right_w a1) (fun _=>rfl) (fun x3 h=>?_)
   conv=>whnf
   refine fkS h (fun h=>?_) (fun h=>?_)
   ·conv=>whnf
    refine daS (E:=E_Bool) h (task_Right_w a2) (fun _=>rfl) (fun x4 h=>?_)
    conv=>whnf
    refine dcS (E:=E_fn_admit_unless) h (admit_unless_w x4 (1:Int)) rfl (fun x5 h=>?_)
    conv=>whnf
    refine lenS a0.Tasks Task.enc rfl ?_
    conv=>whnf
    refine dcS (E:=E_fn_admit_unless) h (admit_unless_w (decide ((a0.Tasks.length:Int)<(8:Int))) (3:Int)) rfl (fun x6 h=>?_)
    conv=>whnf
    refine daS (E:=E_Int) h (job_First_w a0.Jobs true) (fun _=>rfl) (fun x7 h=>?_)
    conv=>whnf
    refine dcS (E:=E_fn_admit_unless) h (admit_unless_w (decide (x7<(0:Int))) (9:Int)) rfl (fun x8 h=>?_)
    conv=>whnf
    refine drS (by kernel_rfl) ?_
    conv=>whnf
    refine iceS 9 ?_
    conv=>whnf
    refine ccS (E:=E_fn_admit_fit) h (admit_fit_w ((([]:List Task)++a0.Tasks)++([a2]:List Task)) a1) rfl rfl (fun x9 h=>?_)
    conv=>whnf
    refine liR rfl ?_
    conv=>whnf
    refine caS (E:=E_Int) h (admit_first_1_w x5.1 x5.2 x6.1 x6.2 x8.1 x8.2 x9.1 x9.2.1 x9.2.2) rfl (fun _=>rfl) (fun x10 h=>?_)
    conv=>whnf
    exact jeS hk1 h (Weak.refl _)
   conv=>whnf
   refine dcS (E:=E_fn_admit_unless) h (admit_unless_w false (1:Int)) rfl (fun x11 h=>?_)
   conv=>whnf
   refine lenS a0.Tasks Task.enc rfl ?_
   conv=>whnf
   refine dcS (E:=E_fn_admit_unless) h (admit_unless_w (decide ((a0.Tasks.length:Int)<(8:Int))) (3:Int)) rfl (fun x12 h=>?_)
   conv=>whnf
   refine daS (E:=E_Int) h (job_First_w a0.Jobs true) (fun _=>rfl) (fun x13 h=>?_)
   conv=>whnf
   refine dcS (E:=E_fn_admit_unless) h (admit_unless_w (decide (x13<(0:Int))) (9:Int)) rfl (fun x14 h=>?_)
   conv=>whnf
   refine drS (by kernel_rfl) ?_
   conv=>whnf
   refine iceS 9 ?_
   conv=>whnf
   refine ccS (E:=E_fn_admit_fit) h (admit_fit_w ((([]:List Task)++a0.Tasks)++([a2]:List Task)) a1) rfl rfl (fun x15 h=>?_)
   conv=>whnf
   refine liR rfl ?_
   conv=>whnf
   refine caS (E:=E_Int) h (admit_first_1_w x11.1 x11.2 x12.1 x12.2 x14.1 x14.2 x15.1 x15.2.1 x15.2.2) rfl (fun _=>rfl) (fun x16 h=>?_)
   conv=>whnf
   exact jeS hk1 h (Weak.refl _)
  conv=>whnf
  refine dcS (E:=E_fn_admit_unless) h (admit_unless_w false (1:Int)) rfl (fun x17 h=>?_)
  conv=>whnf
  refine lenS a0.Tasks Task.enc rfl ?_
  conv=>whnf
  refine dcS (E:=E_fn_admit_unless) h (admit_unless_w (decide ((a0.Tasks.length:Int)<(8:Int))) (3:Int)) rfl (fun x18 h=>?_)
  conv=>whnf
  refine daS (E:=E_Int) h (job_First_w a0.Jobs true) (fun _=>rfl) (fun x19 h=>?_)
  conv=>whnf
  refine dcS (E:=E_fn_admit_unless) h (admit_unless_w (decide (x19<(0:Int))) (9:Int)) rfl (fun x20 h=>?_)
  conv=>whnf
  refine drS (by kernel_rfl) ?_
  conv=>whnf
  refine iceS 9 ?_
  conv=>whnf
  refine ccS (E:=E_fn_admit_fit) h (admit_fit_w ((([]:List Task)++a0.Tasks)++([a2]:List Task)) a1) rfl rfl (fun x21 h=>?_)
  conv=>whnf
  refine liR rfl ?_
  conv=>whnf
  refine caS (E:=E_Int) h (admit_first_1_w x17.1 x17.2 x18.1 x18.2 x20.1 x20.2 x21.1 x21.2.1 x21.2.2) rfl (fun _=>rfl) (fun x22 h=>?_)
  conv=>whnf
  exact jeS hk1 h (Weak.refl _)
 conv=>whnf
 refine fkS h (fun h=>?_) (fun h=>?_)
 ·conv=>whnf
  exact rt (E:=E_PartState_Int) h rfl
 conv=>whnf
 refine ccS (E:=E_PartState_Int) h (part_Add_w a0 a2) rfl rfl (fun x23 h=>?_)
 conv=>whnf
 exact rt (E:=E_PartState_Int) h rfl
end Go.Proofs.YtldlcdnhdedoeaaGreat
namespace Go.Proofs.YtldlcdnhdedoeaaGreat
open Go Go.VC
noncomputable def admit_first (a0:Bool) (a1:Int) (a2:List Task) (a3:Int) (a4:Int):Option Int:=
 lp (fun nx1 (v1:Int)=>fk (decide (v1<(2:Int))) (fk (decide (v1=(0:Int))) (bnd (admit_unless_1 a0 a1) fun x3=>fk (!decide (x3=(0:Int))) (some x3) (nx1 (wr (v1+(1:Int))))) (fk (decide (v1=(1:Int))) (bnd (admit_fit_1 a2 a3 a4) fun x2=>fk (!decide (x2=(0:Int))) (some x2) (nx1 (wr (v1+(1:Int))))) (none))) (some (0:Int))) FU (0:Int)
theorem admit_first_w (a0:Bool) (a1:Int) (a2:List Task) (a3:Int) (a4:Int) (r:Int) (h:admit_first a0 a1 a2 a3 a4=some r):Go.VC.Spec Tryz.prog 82 [.d (.sl [[.fn 134 [[.bool a0],[.int .i64 a1]]],[.fn 141 [[.sl (a2.map Task.enc)],[.int .i64 a3,.int .i64 a4]]]])] (fun y=>y=E_Int r):=by
 refine Go.VC.Spec.of_xc (args:=[.d (.sl [[.fn 134 [[.bool a0],[.int .i64 a1]]],[.fn 141 [[.sl (a2.map Task.enc)],[.int .i64 a3,.int .i64 a4]]]])]) (fn:=Tryz.f82) tab ⟨[(0,[0]),(1,[6,7,8]),(2,[6,7,8,9]),(3,[4,6,7,8]),(4,[5,6,7,8]),(5,[5,6,7,8,15]),(6,[2]),(7,[6,7,8]),(8,[2])],[],[],[]⟩ 18 [.tmp 2] rfl rfl rfl rfl rfl rfl ?_
 conv=>whnf
 refine lenR (2:Int) rfl ?_
 conv=>whnf
 refine lpS (fun v1=>⟨[(6,.l (.d (.sl [[.fn 134 [[.bool a0],[.int .i64 a1]]],[.fn 141 [[.sl (a2.map Task.enc)],[.int .i64 a3,.int .i64 a4]]]]))),(7,.l (.d (.int .i64 (2:Int)))),(8,.l (.d (.int .i64 v1)))],18,[],[],[]⟩) h (Weak.refl _) (fun _ nx1 hn1 v1 h=>?_)
 conv=>whnf
 refine fkS h (fun h=>?_) (fun h=>?_)
 ·conv=>whnf
  refine ixC 0 [.fn 134 [[.bool a0],[.int .i64 a1]]] h rfl rfl (fun h=>?_) (fun h=>?_)
  ·conv=>whnf
   refine caS (E:=E_Int) h (admit_unless_1_w a0 a1) rfl (fun _=>rfl) (fun x3 h=>?_)
   conv=>whnf
   refine fkS h (fun h=>?_) (fun h=>?_)
   ·conv=>whnf
    exact rt (E:=E_Int) h rfl
   conv=>whnf
   exact leS hn1 h (Weak.refl _)
  conv=>whnf
  refine ixC 1 [.fn 141 [[.sl (a2.map Task.enc)],[.int .i64 a3,.int .i64 a4]]] h rfl rfl (fun h=>?_) (fun h=>?_)
  ·conv=>whnf
   refine caS (E:=E_Int) h (admit_fit_1_w a2 a3 a4) rfl (fun _=>rfl) (fun x2 h=>?_)
   conv=>whnf
   refine fkS h (fun h=>?_) (fun h=>?_)
   ·conv=>whnf
    exact rt (E:=E_Int) h rfl
   conv=>whnf
   exact leS hn1 h (Weak.refl _)
  conv=>whnf
  exact ixN h
 conv=>whnf
 exact rt (E:=E_Int) h rfl
end Go.Proofs.YtldlcdnhdedoeaaGreat
namespace Go.Proofs.YtldlcdnhdedoeaaGreat
open Go Go.VC
noncomputable def part_New (a0:List Task):Option (PartState×Int):=
 bnd (task_All a0) fun x1=>fk (!x1) (some (⟨[],[],[],[],[]⟩,(1:Int))) (lp (fun nx2 (v2:(List Task)×(List Bool)×(List Int)×(List Job)×(List Entry)×Int)=>fk (decide (v2.2.2.2.2.2<(a0.length:Int))) (ix a0 v2.2.2.2.2.2 fun x3=>bnd (part_Add ⟨v2.1,v2.2.1,v2.2.2.1,v2.2.2.2.1,v2.2.2.2.2.1⟩ x3) fun x4=>nx2 (x4.1.Tasks,x4.1.Leaves,x4.1.Lasts,x4.1.Jobs,x4.1.Log,(wr (v2.2.2.2.2.2+(1:Int))))) (some (⟨v2.1,v2.2.1,v2.2.2.1,v2.2.2.2.1,v2.2.2.2.2.1⟩,(0:Int)))) FU ([],[],[],[],[],(0:Int)))
theorem part_New_w (a0:List Task) (r:PartState×Int) (h:part_New a0=some r):Go.VC.Spec Tryz.prog 20 [.d (.sl (a0.map Task.enc))] (fun y=>y=E_PartState_Int r):=by
 refine Go.VC.Spec.of_xc (args:=[.d (.sl (a0.map Task.enc))]) (fn:=Tryz.f20) tab ⟨[(0,[0,2]),(1,[0,2,9]),(2,[2,3]),(3,[0,2,4]),(4,[2,4,12,13,14]),(5,[2,4,12,13,14,15]),(6,[2,4,6,12,13,14]),(7,[2,4,12,13,14]),(8,[2,4,12,13,14]),(9,[2,3])],[],[],[]⟩ 26 [.cell 2 51,.tmp 3] rfl rfl rfl rfl rfl rfl ?_
 conv=>whnf
 refine caS (E:=E_Bool) h (task_All_w a0) rfl (fun _=>rfl) (fun x1 h=>?_)
 conv=>whnf
 refine fkS h (fun h=>?_) (fun h=>?_)
 ·conv=>whnf
  exact rt (E:=E_PartState_Int) h rfl
 conv=>whnf
 refine lenS a0 Task.enc rfl ?_
 conv=>whnf
 refine lpX (fun v2=>⟨[(2,.l (.ptr 3 0)),(4,.l (.ptr 5 0)),(12,.l (.d (.sl (a0.map Task.enc)))),(13,.l (.d (.int .i64 (a0.length:Int)))),(14,.l (.d (.int .i64 v2.2.2.2.2.2)))],26,[],[(3,[.nil,.nil,.nil,.nil,.nil]),(5,[.d (.sl (v2.1.map Task.enc)),.d (.sl (v2.2.1.map eB)),.d (.sl (v2.2.2.1.map (eI .i64))),.d (.sl (v2.2.2.2.1.map Job.enc)),.d (.sl (v2.2.2.2.2.1.map Entry.enc))])],[]⟩) h ?_ (fun _ nx2 hn2 v2 h=>?_)
 ·conv=>whnf
  refine WkF.step (Weak.nilBD _ 5 0 _ rfl rfl) ?_
  conv=>whnf
  refine WkF.step (Weak.nilBD _ 5 1 _ rfl rfl) ?_
  conv=>whnf
  refine WkF.step (Weak.nilBD _ 5 2 _ rfl rfl) ?_
  conv=>whnf
  refine WkF.step (Weak.nilBD _ 5 3 _ rfl rfl) ?_
  conv=>whnf
  refine WkF.step (Weak.nilBD _ 5 4 _ rfl rfl) ?_
  conv=>whnf
  exact WkF.refl _
 conv=>whnf
 refine fkS h (fun h=>?_) (fun h=>?_)
 ·conv=>whnf
  refine ixS (enc:=Task.enc) h rfl (fun _=>rfl) (fun x3 h=>?_)
  conv=>whnf
  refine ccS (E:=E_PartState_Int) h (part_Add_w ⟨v2.1,v2.2.1,v2.2.2.1,v2.2.2.2.1,v2.2.2.2.2.1⟩ x3) rfl rfl (fun x4 h=>?_)
  conv=>whnf
  exact leS hn2 h (Weak.refl _)
 conv=>whnf
 exact rt (E:=E_PartState_Int) h rfl
end Go.Proofs.YtldlcdnhdedoeaaGreat
namespace Go.Proofs.YtldlcdnhdedoeaaGreat
open Go Go.VC
noncomputable def admit_Boot (a0:Part):Option (PartState×Int):=
 jn (fun (w1:Int)=>fk (!decide (w1=(0:Int))) (some (⟨[],[],[],[],[]⟩,w1)) (bnd (part_New a0.Tasks) fun x10=>some (x10.1,x10.2))) (fun k1=>bnd (supply_Right a0.Face) fun x2=>fk x2 (bnd (task_All a0.Tasks) fun x3=>bnd (admit_unless x3 (1:Int)) fun x4=>bnd (admit_fit a0.Tasks a0.Face) fun x5=>bnd (admit_first x4.1 x4.2 x5.1 x5.2.1 x5.2.2) fun x6=>k1 x6) (bnd (admit_unless false (1:Int)) fun x7=>bnd (admit_fit a0.Tasks a0.Face) fun x8=>bnd (admit_first x7.1 x7.2 x8.1 x8.2.1 x8.2.2) fun x9=>k1 x9))
theorem admit_Boot_w (a0:Part) (r:PartState×Int) (h:admit_Boot a0=some r):Go.VC.Spec Tryz.prog 56 [.agg (Part.enc a0)] (fun y=>y=E_PartState_Int r):=by
 refine Go.VC.Spec.of_xc (args:=[.agg (Part.enc a0)]) (fn:=Tryz.f56) tab ⟨[(0,[1,2]),(1,[1,2,4]),(2,[1,2,4,22]),(3,[2,3]),(4,[2,3])],[],[2],[]⟩ 30 [.cell 2 51,.tmp 3] rfl rfl rfl rfl rfl rfl ?_
 conv=>whnf
 refine jnS (fun w1=>⟨[(1,.l (.ptr 2 0)),(2,.l (.ptr 3 0)),(4,.l (.d (.int .i64 w1)))],30,[],[(2,[.d (.int .i64 a0.Face.P),.d (.int .i64 a0.Face.B),.d (.sl (a0.Tasks.map Task.enc))]),(3,[.nil,.nil,.nil,.nil,.nil])],[]⟩) h (fun k1 hk1 h=>?_) (fun w1 h=>?_)
 ·conv=>whnf
  refine⟨13,?_⟩
  conv=>whnf
  refine daS (E:=E_Bool) h (supply_Right_w a0.Face) (fun _=>rfl) (fun x2 h=>?_)
  conv=>whnf
  refine fkS h (fun h=>?_) (fun h=>?_)
  ·conv=>whnf
   refine daS (E:=E_Bool) h (task_All_w a0.Tasks) (fun _=>rfl) (fun x3 h=>?_)
   conv=>whnf
   refine dcS (E:=E_fn_admit_unless) h (admit_unless_w x3 (1:Int)) rfl (fun x4 h=>?_)
   conv=>whnf
   refine drS (by kernel_rfl) ?_
   conv=>whnf
   refine ccS (E:=E_fn_admit_fit) h (admit_fit_w a0.Tasks a0.Face) rfl rfl (fun x5 h=>?_)
   conv=>whnf
   refine liR rfl ?_
   conv=>whnf
   refine caS (E:=E_Int) h (admit_first_w x4.1 x4.2 x5.1 x5.2.1 x5.2.2) rfl (fun _=>rfl) (fun x6 h=>?_)
   conv=>whnf
   exact jeS hk1 h (Weak.refl _)
  conv=>whnf
  refine dcS (E:=E_fn_admit_unless) h (admit_unless_w false (1:Int)) rfl (fun x7 h=>?_)
  conv=>whnf
  refine drS (by kernel_rfl) ?_
  conv=>whnf
  refine ccS (E:=E_fn_admit_fit) h (admit_fit_w a0.Tasks a0.Face) rfl rfl (fun x8 h=>?_)
  conv=>whnf
  refine liR rfl ?_
  conv=>whnf
  refine caS (E:=E_Int) h (admit_first_w x7.1 x7.2 x8.1 x8.2.1 x8.2.2) rfl (fun _=>rfl) (fun x9 h=>?_)
  conv=>whnf
  exact jeS hk1 h (Weak.refl _)
 conv=>whnf
 refine fkS h (fun h=>?_) (fun h=>?_)
 ·conv=>whnf
  exact rt (E:=E_PartState_Int) h rfl
 conv=>whnf
 refine ccS (E:=E_PartState_Int) h (part_New_w a0.Tasks) rfl rfl (fun x10 h=>?_)
 conv=>whnf
 exact rt (E:=E_PartState_Int) h rfl
end Go.Proofs.YtldlcdnhdedoeaaGreat
namespace Go.Proofs.YtldlcdnhdedoeaaGreat
open Go Go.VC
noncomputable def part_Leave (a0:PartState) (a1:Int):Option (PartState×Int):=
 jn (fun (w1:Bool)=>fk w1 (some (a0,(1:Int))) (ix a0.Leaves a1 fun x3=>fk x3 (some (a0,(9:Int))) (ck (decide ((([]:List Bool).length+a0.Leaves.length)*1≤140737488355328)) (ck (decide (0≤a1) && decide (a1<((([]:List Bool)++a0.Leaves).length:Int))) (ox (([]:List Bool)++a0.Leaves) a1.toNat fun x4=>some (⟨a0.Tasks,(([]:List Bool)++a0.Leaves).set a1.toNat true,a0.Lasts,a0.Jobs,a0.Log⟩,(0:Int))))))) (fun k1=>bnd (part_Right a0) fun x2=>fk (!x2) (k1 true) (fk (decide (a1<(0:Int))) (k1 true) (k1 (decide (a1≥(a0.Tasks.length:Int))))))
theorem part_Leave_w (a0:PartState) (a1:Int) (r:PartState×Int) (h:part_Leave a0 a1=some r):Go.VC.Spec Tryz.prog 88 [.agg (PartState.enc a0),.d (.int .i64 a1)] (fun y=>y=E_PartState_Int r):=by
 refine Go.VC.Spec.of_xc (args:=[.agg (PartState.enc a0),.d (.int .i64 a1)]) (fn:=Tryz.f88) tab ⟨[(0,[1,2,4]),(1,[1,2,4,6]),(2,[4,5]),(3,[1,2,4,22]),(4,[4,5]),(5,[1,2,4]),(6,[2,4]),(7,[4,5])],[],[100006],[]⟩ 39 [.cell 4 51,.tmp 5] rfl rfl rfl rfl rfl rfl ?_
 conv=>whnf
 refine jnS (fun w1=>⟨[(1,.l (.d (.int .i64 a1))),(2,.l (.ptr 3 0)),(4,.l (.ptr 5 0)),(6,.l (.d (.bool w1)))],39,[],[(3,[.d (.sl (a0.Tasks.map Task.enc)),.d (.sl (a0.Leaves.map eB)),.d (.sl (a0.Lasts.map (eI .i64))),.d (.sl (a0.Jobs.map Job.enc)),.d (.sl (a0.Log.map Entry.enc))]),(5,[.nil,.nil,.nil,.nil,.nil])],[]⟩) h (fun k1 hk1 h=>?_) (fun w1 h=>?_)
 ·conv=>whnf
  refine caS (E:=E_Bool) h (part_Right_w a0) rfl (fun _=>rfl) (fun x2 h=>?_)
  conv=>whnf
  refine fkS h (fun h=>?_) (fun h=>?_)
  ·conv=>whnf
   exact jeS hk1 h (Weak.refl _)
  conv=>whnf
  refine fkS h (fun h=>?_) (fun h=>?_)
  ·conv=>whnf
   exact jeS hk1 h (Weak.refl _)
  conv=>whnf
  refine lenS a0.Tasks Task.enc rfl ?_
  conv=>whnf
  exact jeS hk1 h (Weak.refl _)
 conv=>whnf
 refine fkS h (fun h=>?_) (fun h=>?_)
 ·conv=>whnf
  exact rt (E:=E_PartState_Int) h rfl
 conv=>whnf
 refine ixS (enc:=eB) h rfl (fun _=>rfl) (fun x3 h=>?_)
 conv=>whnf
 refine fkS h (fun h=>?_) (fun h=>?_)
 ·conv=>whnf
  exact rt (E:=E_PartState_Int) h rfl
 conv=>whnf
 refine liS ([]:List Bool) eB rfl rfl ?_
 conv=>whnf
 refine apS (enc:=eB) (l1:=([]:List Bool)) (l2:=a0.Leaves) h rfl rfl (fun _=>rfl) (fun h=>?_)
 conv=>whnf
 refine ioS (enc:=eB) h rfl (fun h=>?_)
 conv=>whnf
 refine seS (enc:=eB) h rfl (fun x4=>true) (fun _=>rfl) (fun x4 h=>?_)
 conv=>whnf
 exact rt (E:=E_PartState_Int) h rfl
end Go.Proofs.YtldlcdnhdedoeaaGreat
namespace Go.Proofs.YtldlcdnhdedoeaaGreat
open Go Go.VC
noncomputable def part_when (a0:Int):Option Bool:=
 fk (decide (a0≥(0:Int))) (some (decide (a0≤(4611686018427387703:Int)))) (some false)
theorem part_when_w (a0:Int) (r:Bool) (h:part_when a0=some r):Go.VC.Spec Tryz.prog 74 [.d (.int .i64 a0)] (fun y=>y=E_Bool r):=by
 refine Go.VC.Spec.of_xc (args:=[.d (.int .i64 a0)]) (fn:=Tryz.f74) tab ⟨[(0,[0]),(1,[2])],[],[],[]⟩ 9 [.tmp 2] rfl rfl rfl rfl rfl rfl ?_
 conv=>whnf
 refine fkS h (fun h=>?_) (fun h=>?_)
 ·conv=>whnf
  exact rt (E:=E_Bool) h rfl
 conv=>whnf
 exact rt (E:=E_Bool) h rfl
end Go.Proofs.YtldlcdnhdedoeaaGreat
namespace Go.Proofs.YtldlcdnhdedoeaaGreat
open Go Go.VC
noncomputable def police_May (a0:List Task) (a1:List Int) (a2:Int) (a3:Int):Option Int:=
 jn (fun (w1:Bool)=>fk w1 (some (1:Int)) (jn (fun (w3:Bool)=>fk w3 (some (6:Int)) (some (0:Int))) (fun k3=>ix a1 a2 fun x4=>fk (!decide (x4=(-1:Int))) (ix a1 a2 fun x5=>ix a0 a2 fun x6=>k3 (decide (a3<(wr (x5+x6.T))))) (k3 false)))) (fun k1=>bnd (police_Right a0 a1) fun x2=>fk (!x2) (k1 true) (fk (decide (a2<(0:Int))) (k1 true) (fk (decide (a2≥(a0.length:Int))) (k1 true) (fk (decide (a3<(0:Int))) (k1 true) (k1 (decide (a3>(4611686018427387703:Int))))))))
theorem police_May_w (a0:List Task) (a1:List Int) (a2:Int) (a3:Int) (r:Int) (h:police_May a0 a1 a2 a3=some r):Go.VC.Spec Tryz.prog 132 [.d (.sl (a0.map Task.enc)),.d (.sl (a1.map (eI .i64))),.d (.int .i64 a2),.d (.int .i64 a3)] (fun y=>y=E_Int r):=by
 refine Go.VC.Spec.of_xc (args:=[.d (.sl (a0.map Task.enc)),.d (.sl (a1.map (eI .i64))),.d (.int .i64 a2),.d (.int .i64 a3)]) (fn:=Tryz.f132) tab ⟨[(0,[0,1,2,3]),(1,[0,1,2,3,9]),(2,[8]),(3,[32]),(4,[8]),(5,[8])],[],[100032,100009],[]⟩ 52 [.tmp 8] rfl rfl rfl rfl rfl rfl ?_
 conv=>whnf
 refine jnS (fun w1=>⟨[(0,.l (.d (.sl (a0.map Task.enc)))),(1,.l (.d (.sl (a1.map (eI .i64))))),(2,.l (.d (.int .i64 a2))),(3,.l (.d (.int .i64 a3))),(9,.l (.d (.bool w1)))],52,[],[],[]⟩) h (fun k1 hk1 h=>?_) (fun w1 h=>?_)
 ·conv=>whnf
  refine caS (E:=E_Bool) h (police_Right_w a0 a1) rfl (fun _=>rfl) (fun x2 h=>?_)
  conv=>whnf
  refine fkS h (fun h=>?_) (fun h=>?_)
  ·conv=>whnf
   exact jeS hk1 h (Weak.refl _)
  conv=>whnf
  refine fkS h (fun h=>?_) (fun h=>?_)
  ·conv=>whnf
   exact jeS hk1 h (Weak.refl _)
  conv=>whnf
  refine lenS a0 Task.enc rfl ?_
  conv=>whnf
  refine fkS h (fun h=>?_) (fun h=>?_)
  ·conv=>whnf
   exact jeS hk1 h (Weak.refl _)
  conv=>whnf
  refine fkS h (fun h=>?_) (fun h=>?_)
  ·conv=>whnf
   exact jeS hk1 h (Weak.refl _)
  conv=>whnf
  exact jeS hk1 h (Weak.refl _)
 conv=>whnf
 refine fkS h (fun h=>?_) (fun h=>?_)
 ·conv=>whnf
  exact rt (E:=E_Int) h rfl
 conv=>whnf
 refine jnS (fun w3=>⟨[(32,.l (.d (.bool w3)))],52,[],[],[]⟩) h (fun k3 hk3 h=>?_) (fun w3 h=>?_)
 ·conv=>whnf
  refine⟨19,?_⟩
  conv=>whnf
  refine ixS (enc:=(eI .i64)) h rfl (fun _=>rfl) (fun x4 h=>?_)
  conv=>whnf
  refine fkS h (fun h=>?_) (fun h=>?_)
  ·conv=>whnf
   refine ixS (enc:=(eI .i64)) h rfl (fun _=>rfl) (fun x5 h=>?_)
   conv=>whnf
   refine ixS (enc:=Task.enc) h rfl (fun _=>rfl) (fun x6 h=>?_)
   conv=>whnf
   refine drS (by kernel_rfl) ?_
   conv=>whnf
   exact jeS hk3 h (Weak.refl _)
  conv=>whnf
  refine drS (by kernel_rfl) ?_
  conv=>whnf
  exact jeS hk3 h (Weak.refl _)
 conv=>whnf
 refine fkS h (fun h=>?_) (fun h=>?_)
 ·conv=>whnf
  exact rt (E:=E_Int) h rfl
 conv=>whnf
 exact rt (E:=E_Int) h rfl
end Go.Proofs.YtldlcdnhdedoeaaGreat
namespace Go.Proofs.YtldlcdnhdedoeaaGreat
open Go Go.VC
noncomputable def police_Note (a0:List Task) (a1:List Int) (a2:Int) (a3:Int):Option ((List Int)×Int):=
 bnd (police_May a0 a1 a2 a3) fun x1=>fk (!decide (x1=(0:Int))) (some (a1,x1)) (ck (decide ((([]:List Int).length+a1.length)*8≤140737488355328)) (ck (decide (0≤a2) && decide (a2<((([]:List Int)++a1).length:Int))) (ox (([]:List Int)++a1) a2.toNat fun x2=>some ((([]:List Int)++a1).set a2.toNat a3,(0:Int)))))
theorem police_Note_w (a0:List Task) (a1:List Int) (a2:Int) (a3:Int) (r:(List Int)×Int) (h:police_Note a0 a1 a2 a3=some r):Go.VC.Spec Tryz.prog 76 [.d (.sl (a0.map Task.enc)),.d (.sl (a1.map (eI .i64))),.d (.int .i64 a2),.d (.int .i64 a3)] (fun y=>y=E_ListInt_Int r):=by
 refine Go.VC.Spec.of_xc (args:=[.d (.sl (a0.map Task.enc)),.d (.sl (a1.map (eI .i64))),.d (.int .i64 a2),.d (.int .i64 a3)]) (fn:=Tryz.f76) tab ⟨[(0,[0,1,2,3]),(1,[1,2,3,10]),(2,[1,2,3,10,18]),(3,[8,9]),(4,[2,3,11]),(5,[11]),(6,[8,9])],[],[],[]⟩ 29 [.tmp 8,.tmp 9] rfl rfl rfl rfl rfl rfl ?_
 conv=>whnf
 refine caS (E:=E_Int) h (police_May_w a0 a1 a2 a3) rfl (fun _=>rfl) (fun x1 h=>?_)
 conv=>whnf
 refine fkS h (fun h=>?_) (fun h=>?_)
 ·conv=>whnf
  exact rt (E:=E_ListInt_Int) h rfl
 conv=>whnf
 refine liS ([]:List Int) (eI .i64) rfl rfl ?_
 conv=>whnf
 refine apS (enc:=(eI .i64)) (l1:=([]:List Int)) (l2:=a1) h rfl rfl (fun _=>rfl) (fun h=>?_)
 conv=>whnf
 refine ioS (enc:=(eI .i64)) h rfl (fun h=>?_)
 conv=>whnf
 refine seS (enc:=(eI .i64)) h rfl (fun x2=>a3) (fun _=>rfl) (fun x2 h=>?_)
 conv=>whnf
 exact rt (E:=E_ListInt_Int) h rfl
end Go.Proofs.YtldlcdnhdedoeaaGreat
namespace Go.Proofs.YtldlcdnhdedoeaaGreat
open Go Go.VC
noncomputable def part_Release (a0:PartState) (a1:Int) (a2:Int) (a3:Int):Option (PartState×Int):=
 jn (fun (w1:Bool)=>fk w1 (some (a0,(1:Int))) (ix a0.Leaves a1 fun x4=>fk x4 (some (a0,(9:Int))) (ck (decide ((([]:List Entry).length+a0.Log.length)*24≤140737488355328)) (bnd (police_Note a0.Tasks a0.Lasts a1 a3) fun x5=>fk (!decide (x5.2=(0:Int))) (fk (decide (((([]:List Entry)++a0.Log).length:Int)<(2000:Int))) (ck (decide (((([]:List Entry)++a0.Log).length+([⟨a3,(2:Int),a1⟩]:List Entry).length)*24≤140737488355328)) (some (⟨a0.Tasks,a0.Leaves,a0.Lasts,a0.Jobs,(([]:List Entry)++a0.Log)++([⟨a3,(2:Int),a1⟩]:List Entry)⟩,x5.2))) (some (⟨a0.Tasks,a0.Leaves,a0.Lasts,a0.Jobs,([]:List Entry)++a0.Log⟩,x5.2))) (fk (decide ((a0.Jobs.length:Int)≥(32:Int))) (fk (decide (((([]:List Entry)++a0.Log).length:Int)<(2000:Int))) (ck (decide (((([]:List Entry)++a0.Log).length+([⟨a3,(3:Int),a1⟩]:List Entry).length)*24≤140737488355328)) (some (⟨a0.Tasks,a0.Leaves,a0.Lasts,a0.Jobs,(([]:List Entry)++a0.Log)++([⟨a3,(3:Int),a1⟩]:List Entry)⟩,(3:Int)))) (some (⟨a0.Tasks,a0.Leaves,a0.Lasts,a0.Jobs,([]:List Entry)++a0.Log⟩,(3:Int)))) (ck (decide ((([]:List Job).length+a0.Jobs.length)*48≤140737488355328)) (ix a0.Tasks a1 fun x6=>ck (decide (((([]:List Job)++a0.Jobs).length+([⟨a1,a3,(wr (a3+x6.D)),a2,(0:Int),false⟩]:List Job).length)*48≤140737488355328)) (fk (decide (((([]:List Entry)++a0.Log).length:Int)<(2000:Int))) (ck (decide (((([]:List Entry)++a0.Log).length+([⟨a3,(1:Int),a1⟩]:List Entry).length)*24≤140737488355328)) (some (⟨a0.Tasks,a0.Leaves,x5.1,(([]:List Job)++a0.Jobs)++([⟨a1,a3,(wr (a3+x6.D)),a2,(0:Int),false⟩]:List Job),(([]:List Entry)++a0.Log)++([⟨a3,(1:Int),a1⟩]:List Entry)⟩,(0:Int)))) (some (⟨a0.Tasks,a0.Leaves,x5.1,(([]:List Job)++a0.Jobs)++([⟨a1,a3,(wr (a3+x6.D)),a2,(0:Int),false⟩]:List Job),([]:List Entry)++a0.Log⟩,(0:Int))))))))))) (fun k1=>bnd (part_Right a0) fun x2=>fk (!x2) (k1 true) (fk (decide (a1<(0:Int))) (k1 true) (fk (decide (a1≥(a0.Tasks.length:Int))) (k1 true) (fk (decide (a2<(1:Int))) (k1 true) (fk (decide (a2>(200:Int))) (k1 true) (bnd (part_when a3) fun x3=>k1 (!x3)))))))
theorem part_Release_w (a0:PartState) (a1:Int) (a2:Int) (a3:Int) (r:PartState×Int) (h:part_Release a0 a1 a2 a3=some r):Go.VC.Spec Tryz.prog 28 [.agg (PartState.enc a0),.d (.int .i64 a1),.d (.int .i64 a2),.d (.int .i64 a3)] (fun y=>y=E_PartState_Int r):=by
 refine Go.VC.Spec.of_xc (args:=[.agg (PartState.enc a0),.d (.int .i64 a1),.d (.int .i64 a2),.d (.int .i64 a3)]) (fn:=Tryz.f28) tab ⟨[(0,[1,2,3,4,8]),(1,[1,2,3,4,8,13]),(2,[8,9]),(3,[1,2,3,4,8,42]),(4,[8,9]),(5,[1,2,3,4,8,10]),(6,[1,2,3,4,8,10,11,12]),(7,[1,2,3,4,8,10,11,12,62]),(8,[8,10,12]),(9,[8,9]),(10,[1,2,3,4,8,10,11,73]),(11,[8,10]),(12,[8,9]),(13,[1,2,3,4,8,10]),(14,[1,8,10]),(15,[8,10]),(16,[8,9])],[],[100013],[]⟩ 119 [.cell 8 51,.tmp 9] rfl rfl rfl rfl rfl rfl ?_
 conv=>whnf
 refine jnS (fun w1=>⟨[(1,.l (.d (.int .i64 a1))),(2,.l (.d (.int .i64 a2))),(3,.l (.d (.int .i64 a3))),(4,.l (.ptr 5 0)),(8,.l (.ptr 9 0)),(13,.l (.d (.bool w1)))],119,[],[(5,[.d (.sl (a0.Tasks.map Task.enc)),.d (.sl (a0.Leaves.map eB)),.d (.sl (a0.Lasts.map (eI .i64))),.d (.sl (a0.Jobs.map Job.enc)),.d (.sl (a0.Log.map Entry.enc))]),(9,[.nil,.nil,.nil,.nil,.nil])],[]⟩) h (fun k1 hk1 h=>?_) (fun w1 h=>?_)
 ·conv=>whnf
  refine caS (E:=E_Bool) h (part_Right_w a0) rfl (fun _=>rfl) (fun x2 h=>?_)
  conv=>whnf
  refine fkS h (fun h=>?_) (fun h=>?_)
  ·conv=>whnf
   exact jeS hk1 h (Weak.refl _)
  conv=>whnf
  refine fkS h (fun h=>?_) (fun h=>?_)
  ·conv=>whnf
   exact jeS hk1 h (Weak.refl _)
  conv=>whnf
  refine lenS a0.Tasks Task.enc rfl ?_
  conv=>whnf
  refine fkS h (fun h=>?_) (fun h=>?_)
  ·conv=>whnf
   exact jeS hk1 h (Weak.refl _)
  conv=>whnf
  refine fkS h (fun h=>?_) (fun h=>?_)
  ·conv=>whnf
   exact jeS hk1 h (Weak.refl _)
  conv=>whnf
  refine fkS h (fun h=>?_) (fun h=>?_)
  ·conv=>whnf
   exact jeS hk1 h (Weak.refl _)
  conv=>whnf
  refine caS (E:=E_Bool) h (part_when_w a3) rfl (fun _=>rfl) (fun x3 h=>?_)
  conv=>whnf
  exact jeS hk1 h (Weak.refl _)
 conv=>whnf
 refine fkS h (fun h=>?_) (fun h=>?_)
 ·conv=>whnf
  exact rt (E:=E_PartState_Int) h rfl
 conv=>whnf
 refine ixS (enc:=eB) h rfl (fun _=>rfl) (fun x4 h=>?_)
 conv=>whnf
 refine fkS h (fun h=>?_) (fun h=>?_)
 ·conv=>whnf
  exact rt (E:=E_PartState_Int) h rfl
 conv=>whnf
 refine inS (fn:=Tryz.f75) tab ⟨[(0,[1,2]),(1,[4])],[],[],[]⟩ 14 [.tmp 4] rfl rfl rfl rfl rfl rfl ?_
 conv=>whnf
 refine⟨7,?_⟩
 conv=>whnf
 refine liS ([]:List Entry) Entry.enc rfl rfl ?_
 conv=>whnf
 refine apS (enc:=Entry.enc) (l1:=([]:List Entry)) (l2:=a0.Log) h rfl rfl (fun _=>rfl) (fun h=>?_)
 conv=>whnf
 refine drS (by kernel_rfl) ?_
 conv=>whnf
 refine ccS (E:=E_ListInt_Int) h (police_Note_w a0.Tasks a0.Lasts a1 a3) rfl rfl (fun x5 h=>?_)
 conv=>whnf
 refine fkS h (fun h=>?_) (fun h=>?_)
 ·conv=>whnf
  refine inS (fn:=Tryz.f77) tab ⟨[(0,[0,1,2,11]),(1,[])],[],[],[]⟩ 28 [] rfl rfl rfl rfl rfl rfl ?_
  conv=>whnf
  refine lenS (([]:List Entry)++a0.Log) Entry.enc rfl ?_
  conv=>whnf
  refine fkS h (fun h=>?_) (fun h=>?_)
  ·conv=>whnf
   refine⟨14,?_⟩
   conv=>whnf
   refine liS ([⟨a3,(2:Int),a1⟩]:List Entry) Entry.enc rfl rfl ?_
   conv=>whnf
   refine apS (enc:=Entry.enc) (l1:=([]:List Entry)++a0.Log) (l2:=([⟨a3,(2:Int),a1⟩]:List Entry)) h rfl rfl (fun _=>rfl) (fun h=>?_)
   conv=>whnf
   refine drS (by kernel_rfl) ?_
   conv=>whnf
   refine inS (fn:=Tryz.f78) tab ⟨[(0,[0,2]),(1,[0,2]),(2,[2])],[],[],[]⟩ 16 [.cell 2 51] rfl rfl rfl rfl rfl rfl ?_
   conv=>whnf
   exact rt (E:=E_PartState_Int) h rfl
  conv=>whnf
  refine inS (fn:=Tryz.f78) tab ⟨[(0,[0,2]),(1,[0,2]),(2,[2])],[],[],[]⟩ 16 [.cell 2 51] rfl rfl rfl rfl rfl rfl ?_
  conv=>whnf
  exact rt (E:=E_PartState_Int) h rfl
 conv=>whnf
 refine lenS a0.Jobs Job.enc rfl ?_
 conv=>whnf
 refine fkS h (fun h=>?_) (fun h=>?_)
 ·conv=>whnf
  refine inS (fn:=Tryz.f77) tab ⟨[(0,[0,1,2,11]),(1,[])],[],[],[]⟩ 28 [] rfl rfl rfl rfl rfl rfl ?_
  conv=>whnf
  refine lenS (([]:List Entry)++a0.Log) Entry.enc rfl ?_
  conv=>whnf
  refine fkS h (fun h=>?_) (fun h=>?_)
  ·conv=>whnf
   refine⟨14,?_⟩
   conv=>whnf
   refine liS ([⟨a3,(3:Int),a1⟩]:List Entry) Entry.enc rfl rfl ?_
   conv=>whnf
   refine apS (enc:=Entry.enc) (l1:=([]:List Entry)++a0.Log) (l2:=([⟨a3,(3:Int),a1⟩]:List Entry)) h rfl rfl (fun _=>rfl) (fun h=>?_)
   conv=>whnf
   refine drS (by kernel_rfl) ?_
   conv=>whnf
   refine inS (fn:=Tryz.f78) tab ⟨[(0,[0,2]),(1,[0,2]),(2,[2])],[],[],[]⟩ 16 [.cell 2 51] rfl rfl rfl rfl rfl rfl ?_
   conv=>whnf
   exact rt (E:=E_PartState_Int) h rfl
  conv=>whnf
  refine inS (fn:=Tryz.f78) tab ⟨[(0,[0,2]),(1,[0,2]),(2,[2])],[],[],[]⟩ 16 [.cell 2 51] rfl rfl rfl rfl rfl rfl ?_
  conv=>whnf
  exact rt (E:=E_PartState_Int) h rfl
 conv=>whnf
 refine⟨19,?_⟩
 conv=>whnf
 refine liS ([]:List Job) Job.enc rfl rfl ?_
 conv=>whnf
 refine apS (enc:=Job.enc) (l1:=([]:List Job)) (l2:=a0.Jobs) h rfl rfl (fun _=>rfl) (fun h=>?_)
 conv=>whnf
 refine ixS (enc:=Task.enc) h rfl (fun _=>rfl) (fun x6 h=>?_)
 conv=>whnf
 refine liS ([⟨a1,a3,(wr (a3+x6.D)),a2,(0:Int),false⟩]:List Job) Job.enc rfl rfl ?_
 conv=>whnf
 refine apS (enc:=Job.enc) (l1:=([]:List Job)++a0.Jobs) (l2:=([⟨a1,a3,(wr (a3+x6.D)),a2,(0:Int),false⟩]:List Job)) h rfl rfl (fun _=>rfl) (fun h=>?_)
 conv=>whnf
 refine drS (by kernel_rfl) ?_
 conv=>whnf
 refine inS (fn:=Tryz.f77) tab ⟨[(0,[0,1,2,11]),(1,[])],[],[],[]⟩ 28 [] rfl rfl rfl rfl rfl rfl ?_
 conv=>whnf
 refine lenS (([]:List Entry)++a0.Log) Entry.enc rfl ?_
 conv=>whnf
 refine fkS h (fun h=>?_) (fun h=>?_)
 ·conv=>whnf
  refine⟨14,?_⟩
  conv=>whnf
  refine liS ([⟨a3,(1:Int),a1⟩]:List Entry) Entry.enc rfl rfl ?_
  conv=>whnf
  refine apS (enc:=Entry.enc) (l1:=([]:List Entry)++a0.Log) (l2:=([⟨a3,(1:Int),a1⟩]:List Entry)) h rfl rfl (fun _=>rfl) (fun h=>?_)
  conv=>whnf
  refine drS (by kernel_rfl) ?_
  conv=>whnf
  refine inS (fn:=Tryz.f78) tab ⟨[(0,[0,2]),(1,[0,2]),(2,[2])],[],[],[]⟩ 16 [.cell 2 51] rfl rfl rfl rfl rfl rfl ?_
  conv=>whnf
  exact rt (E:=E_PartState_Int) h rfl
 conv=>whnf
 refine inS (fn:=Tryz.f78) tab ⟨[(0,[0,2]),(1,[0,2]),(2,[2])],[],[],[]⟩ 16 [.cell 2 51] rfl rfl rfl rfl rfl rfl ?_
 conv=>whnf
 exact rt (E:=E_PartState_Int) h rfl
end Go.Proofs.YtldlcdnhdedoeaaGreat
namespace Go.Proofs.YtldlcdnhdedoeaaGreat
open Go Go.VC
noncomputable def task_Held (a0:Task) (a1:Int):Option (List Int):=
 bnd (task_Right a0) fun x1=>fk (!x1) (some []) (lp (fun nx2 (v2:(List Int)×Int)=>fk (decide (v2.2<(a0.Secs.length:Int))) (jn (fun (w3:List Int)=>nx2 (w3,(wr (v2.2+(1:Int))))) (fun k3=>ix a0.Secs v2.2 fun x4=>jn (fun (w5:Bool)=>fk w5 (ck (decide ((v2.1.length+([x4.Res]:List Int).length)*8≤140737488355328)) (k3 (v2.1++([x4.Res]:List Int)))) (k3 v2.1)) (fun k5=>fk (decide (x4.At<a1)) (k5 (decide (a1<(wr (x4.At+x4.Len))))) (k5 false)))) (some v2.1)) FU ([],(0:Int)))
theorem task_Held_w (a0:Task) (a1:Int) (r:List Int) (h:task_Held a0 a1=some r):Go.VC.Spec Tryz.prog 179 [.agg (Task.enc a0),.d (.int .i64 a1)] (fun y=>y=E_ListInt r):=by
 refine Go.VC.Spec.of_xc (args:=[.agg (Task.enc a0),.d (.int .i64 a1)]) (fn:=Tryz.f179) tab ⟨[(0,[1,2]),(1,[1,2,10]),(2,[4]),(3,[1,2,5]),(4,[1,5,12,13,14]),(5,[1,5,12,13,14,15]),(6,[1,5,7,12,13,14]),(7,[1,5,7,12,13,14,30]),(8,[1,5,12,13,14]),(9,[1,5,12,13,14]),(10,[4])],[],[100030,9],[]⟩ 38 [.tmp 4] rfl rfl rfl rfl rfl rfl ?_
 conv=>whnf
 refine caS (E:=E_Bool) h (task_Right_w a0) rfl (fun _=>rfl) (fun x1 h=>?_)
 conv=>whnf
 refine fkS h (fun h=>?_) (fun h=>?_)
 ·conv=>whnf
  exact rt (E:=E_ListInt) h rfl
 conv=>whnf
 refine lenS a0.Secs Sec.enc rfl ?_
 conv=>whnf
 refine lpS (fun v2=>⟨[(1,.l (.d (.int .i64 a1))),(5,.l (.own 6)),(12,.l (.d (.sl (a0.Secs.map Sec.enc)))),(13,.l (.d (.int .i64 (a0.Secs.length:Int)))),(14,.l (.d (.int .i64 v2.2)))],38,[],[],[(6,3,1,v2.1.map (eI .i64))]⟩) h (Weak.trans (Weak.nilO _ 5 6 3 1 rfl) (Weak.refl _)) (fun _ nx2 hn2 v2 h=>?_)
 conv=>whnf
 refine fkS h (fun h=>?_) (fun h=>?_)
 ·conv=>whnf
  refine jnS (fun w3=>⟨[(1,.l (.d (.int .i64 a1))),(5,.l (.own 6)),(12,.l (.d (.sl (a0.Secs.map Sec.enc)))),(13,.l (.d (.int .i64 (a0.Secs.length:Int)))),(14,.l (.d (.int .i64 v2.2)))],38,[],[],[(6,3,1,w3.map (eI .i64))]⟩) h (fun k3 hk3 h=>?_) (fun w3 h=>?_)
  ·conv=>whnf
   refine ixS (enc:=Sec.enc) h rfl (fun _=>rfl) (fun x4 h=>?_)
   conv=>whnf
   refine jnS (fun w5=>⟨[(1,.l (.d (.int .i64 a1))),(5,.l (.own 6)),(7,.l (.ptr 8 0)),(12,.l (.d (.sl (a0.Secs.map Sec.enc)))),(13,.l (.d (.int .i64 (a0.Secs.length:Int)))),(14,.l (.d (.int .i64 v2.2))),(30,.l (.d (.bool w5)))],38,[],[(8,[.d (.int .i64 x4.Res),.d (.int .i64 x4.At),.d (.int .i64 x4.Len)])],[(6,3,1,v2.1.map (eI .i64))]⟩) h (fun k5 hk5 h=>?_) (fun w5 h=>?_)
   ·conv=>whnf
    refine fkS h (fun h=>?_) (fun h=>?_)
    ·conv=>whnf
     exact jeS hk5 h (Weak.refl _)
    conv=>whnf
    exact jeS hk5 h (Weak.refl _)
   conv=>whnf
   refine fkS h (fun h=>?_) (fun h=>?_)
   ·conv=>whnf
    refine liS ([x4.Res]:List Int) (eI .i64) rfl rfl ?_
    conv=>whnf
    refine apS (enc:=(eI .i64)) (l1:=v2.1) (l2:=([x4.Res]:List Int)) h rfl rfl (fun _=>rfl) (fun h=>?_)
    conv=>whnf
    exact jeS hk3 h (Weak.refl _)
   conv=>whnf
   refine jeX hk3 h ?_
   conv=>whnf
   refine WkF.step (Weak.keepS _ [1,5,12,13,14]) ?_
   conv=>whnf
   exact WkF.refl _
  conv=>whnf
  exact leS hn2 h (Weak.refl _)
 conv=>whnf
 exact rt (E:=E_ListInt) h rfl
end Go.Proofs.YtldlcdnhdedoeaaGreat
namespace Go.Proofs.YtldlcdnhdedoeaaGreat
open Go Go.VC
noncomputable def job_Held (a0:List Task) (a1:List Job):Option (List Int):=
 bnd (job_All a0 a1) fun x1=>fk (!x1) (some []) (lp (fun nx2 (v2:(List Int)×Int)=>fk (decide (v2.2<(a1.length:Int))) (ix a1 v2.2 fun x3=>ix a0 x3.Task fun x4=>bnd (task_Held x4 x3.Had) fun x5=>ck (decide ((v2.1.length+x5.length)*8≤140737488355328)) (nx2 (v2.1++x5,(wr (v2.2+(1:Int)))))) (some v2.1)) FU ([],(0:Int)))
theorem job_Held_w (a0:List Task) (a1:List Job) (r:List Int) (h:job_Held a0 a1=some r):Go.VC.Spec Tryz.prog 169 [.d (.sl (a0.map Task.enc)),.d (.sl (a1.map Job.enc))] (fun y=>y=E_ListInt r):=by
 refine Go.VC.Spec.of_xc (args:=[.d (.sl (a0.map Task.enc)),.d (.sl (a1.map Job.enc))]) (fn:=Tryz.f169) tab ⟨[(0,[0,1]),(1,[0,1,11]),(2,[4]),(3,[0,1,5]),(4,[0,5,12,13,14]),(5,[0,5,12,13,14,15]),(6,[0,5,7,12,13,14]),(7,[0,5,12,13,14]),(8,[0,5,12,13,14]),(9,[4])],[],[],[]⟩ 30 [.tmp 4] rfl rfl rfl rfl rfl rfl ?_
 conv=>whnf
 refine caS (E:=E_Bool) h (job_All_w a0 a1) rfl (fun _=>rfl) (fun x1 h=>?_)
 conv=>whnf
 refine fkS h (fun h=>?_) (fun h=>?_)
 ·conv=>whnf
  exact rt (E:=E_ListInt) h rfl
 conv=>whnf
 refine lenS a1 Job.enc rfl ?_
 conv=>whnf
 refine lpS (fun v2=>⟨[(0,.l (.d (.sl (a0.map Task.enc)))),(5,.l (.own 6)),(12,.l (.d (.sl (a1.map Job.enc)))),(13,.l (.d (.int .i64 (a1.length:Int)))),(14,.l (.d (.int .i64 v2.2)))],30,[],[],[(6,3,1,v2.1.map (eI .i64))]⟩) h (Weak.trans (Weak.nilO _ 5 6 3 1 rfl) (Weak.refl _)) (fun _ nx2 hn2 v2 h=>?_)
 conv=>whnf
 refine fkS h (fun h=>?_) (fun h=>?_)
 ·conv=>whnf
  refine ixS (enc:=Job.enc) h rfl (fun _=>rfl) (fun x3 h=>?_)
  conv=>whnf
  refine⟨9,?_⟩
  conv=>whnf
  refine ixS (enc:=Task.enc) h rfl (fun _=>rfl) (fun x4 h=>?_)
  conv=>whnf
  refine dcS (E:=E_ListInt) h (task_Held_w x4 x3.Had) rfl (fun x5 h=>?_)
  conv=>whnf
  refine drS (by kernel_rfl) ?_
  conv=>whnf
  refine apS (enc:=(eI .i64)) (l1:=v2.1) (l2:=x5) h rfl rfl (fun _=>rfl) (fun h=>?_)
  conv=>whnf
  exact leS hn2 h (Weak.refl _)
 conv=>whnf
 exact rt (E:=E_ListInt) h rfl
end Go.Proofs.YtldlcdnhdedoeaaGreat
namespace Go.Proofs.YtldlcdnhdedoeaaGreat
open Go Go.VC
noncomputable def level_level (a0:List Task) (a1:Task):Option Int:=
 lp (fun nx1 (v1:Int×Int)=>fk (decide (v1.2<(a0.length:Int))) (jn (fun (w2:Int)=>nx1 (w2,(wr (v1.2+(1:Int))))) (fun k2=>ix a0 v1.2 fun x3=>fk (decide (x3.D>a1.D)) (k2 (wr (v1.1+(1:Int)))) (k2 v1.1))) (some v1.1)) FU ((1:Int),(0:Int))
theorem level_level_w (a0:List Task) (a1:Task) (r:Int) (h:level_level a0 a1=some r):Go.VC.Spec Tryz.prog 187 [.d (.sl (a0.map Task.enc)),.agg (Task.enc a1)] (fun y=>y=E_Int r):=by
 refine Go.VC.Spec.of_xc (args:=[.d (.sl (a0.map Task.enc)),.agg (Task.enc a1)]) (fn:=Tryz.f187) tab ⟨[(0,[0,3]),(1,[0,3,5]),(2,[3,5,8,9,10]),(3,[3,5,8,9,10,11]),(4,[3,5,7,8,9,10]),(5,[3,5,8,9,10,18]),(6,[3,5,8,9,10]),(7,[3,5,8,9,10]),(8,[4])],[],[7],[]⟩ 23 [.tmp 4] rfl rfl rfl rfl rfl rfl ?_
 conv=>whnf
 refine lenS a0 Task.enc rfl ?_
 conv=>whnf
 refine lpS (fun v1=>⟨[(3,.l (.ptr 4 0)),(5,.l (.d (.int .i64 v1.1))),(8,.l (.d (.sl (a0.map Task.enc)))),(9,.l (.d (.int .i64 (a0.length:Int)))),(10,.l (.d (.int .i64 v1.2)))],23,[],[(4,[.d (.int .i64 a1.C),.d (.int .i64 a1.D),.d (.int .i64 a1.T),.d (.sl (a1.Secs.map Sec.enc))])],[]⟩) h (Weak.refl _) (fun _ nx1 hn1 v1 h=>?_)
 conv=>whnf
 refine fkS h (fun h=>?_) (fun h=>?_)
 ·conv=>whnf
  refine jnS (fun w2=>⟨[(3,.l (.ptr 4 0)),(5,.l (.d (.int .i64 w2))),(8,.l (.d (.sl (a0.map Task.enc)))),(9,.l (.d (.int .i64 (a0.length:Int)))),(10,.l (.d (.int .i64 v1.2)))],23,[],[(4,[.d (.int .i64 a1.C),.d (.int .i64 a1.D),.d (.int .i64 a1.T),.d (.sl (a1.Secs.map Sec.enc))])],[]⟩) h (fun k2 hk2 h=>?_) (fun w2 h=>?_)
  ·conv=>whnf
   refine ixS (enc:=Task.enc) h rfl (fun _=>rfl) (fun x3 h=>?_)
   conv=>whnf
   refine fkS h (fun h=>?_) (fun h=>?_)
   ·conv=>whnf
    exact jeS hk2 h (Weak.refl _)
   conv=>whnf
   refine jeX hk2 h ?_
   conv=>whnf
   refine WkF.step (Weak.keepS _ [3,5,8,9,10]) ?_
   conv=>whnf
   exact WkF.refl _
  conv=>whnf
  exact leS hn1 h (Weak.refl _)
 conv=>whnf
 exact rt (E:=E_Int) h rfl
end Go.Proofs.YtldlcdnhdedoeaaGreat
namespace Go.Proofs.YtldlcdnhdedoeaaGreat
open Go Go.VC
noncomputable def level_Of (a0:List Task) (a1:Int):Option Int:=
 jn (fun (w1:Bool)=>fk w1 (some (0:Int)) (ix a0 a1 fun x3=>bnd (level_level a0 x3) fun x4=>some x4)) (fun k1=>bnd (task_All a0) fun x2=>fk (!x2) (k1 true) (fk (decide (a1<(0:Int))) (k1 true) (k1 (decide (a1≥(a0.length:Int))))))
theorem level_Of_w (a0:List Task) (a1:Int) (r:Int) (h:level_Of a0 a1=some r):Go.VC.Spec Tryz.prog 177 [.d (.sl (a0.map Task.enc)),.d (.int .i64 a1)] (fun y=>y=E_Int r):=by
 refine Go.VC.Spec.of_xc (args:=[.d (.sl (a0.map Task.enc)),.d (.int .i64 a1)]) (fn:=Tryz.f177) tab ⟨[(0,[0,1]),(1,[0,1,17]),(2,[4]),(3,[4])],[],[100017],[]⟩ 24 [.tmp 4] rfl rfl rfl rfl rfl rfl ?_
 conv=>whnf
 refine jnS (fun w1=>⟨[(0,.l (.d (.sl (a0.map Task.enc)))),(1,.l (.d (.int .i64 a1))),(17,.l (.d (.bool w1)))],24,[],[],[]⟩) h (fun k1 hk1 h=>?_) (fun w1 h=>?_)
 ·conv=>whnf
  refine caS (E:=E_Bool) h (task_All_w a0) rfl (fun _=>rfl) (fun x2 h=>?_)
  conv=>whnf
  refine fkS h (fun h=>?_) (fun h=>?_)
  ·conv=>whnf
   exact jeS hk1 h (Weak.refl _)
  conv=>whnf
  refine fkS h (fun h=>?_) (fun h=>?_)
  ·conv=>whnf
   exact jeS hk1 h (Weak.refl _)
  conv=>whnf
  refine lenS a0 Task.enc rfl ?_
  conv=>whnf
  exact jeS hk1 h (Weak.refl _)
 conv=>whnf
 refine fkS h (fun h=>?_) (fun h=>?_)
 ·conv=>whnf
  exact rt (E:=E_Int) h rfl
 conv=>whnf
 refine ixS (enc:=Task.enc) h rfl (fun _=>rfl) (fun x3 h=>?_)
 conv=>whnf
 refine caS (E:=E_Int) h (level_level_w a0 x3) rfl (fun _=>rfl) (fun x4 h=>?_)
 conv=>whnf
 exact rt (E:=E_Int) h rfl
end Go.Proofs.YtldlcdnhdedoeaaGreat
namespace Go.Proofs.YtldlcdnhdedoeaaGreat
open Go Go.VC
noncomputable def level_Ceiling_1 (a0:Task) (a1:Int) (a2:List Task):Option Int:=
 bnd (task_Uses a0 a1) fun x1=>fk (!x1) (some (0:Int)) (bnd (level_level a2 a0) fun x2=>some x2)
theorem level_Ceiling_1_w (a0:Task) (a1:Int) (a2:List Task) (r:Int) (h:level_Ceiling_1 a0 a1 a2=some r):Go.VC.Spec Tryz.prog 197 [.agg (Task.enc a0),.dp [.int .i64 a1],.dp [.sl (a2.map Task.enc)]] (fun y=>y=E_Int r):=by
 refine Go.VC.Spec.of_xc (args:=[.agg (Task.enc a0),.dp [.int .i64 a1],.dp [.sl (a2.map Task.enc)]]) (fn:=Tryz.f197) tab ⟨[(0,[1,2,3]),(1,[2,3,8]),(2,[4]),(3,[4])],[],[],[]⟩ 12 [.tmp 4] rfl rfl rfl rfl rfl rfl ?_
 conv=>whnf
 refine caS (E:=E_Bool) h (task_Uses_w a0 a1) rfl (fun _=>rfl) (fun x1 h=>?_)
 conv=>whnf
 refine fkS h (fun h=>?_) (fun h=>?_)
 ·conv=>whnf
  exact rt (E:=E_Int) h rfl
 conv=>whnf
 refine caS (E:=E_Int) h (level_level_w a2 a0) rfl (fun _=>rfl) (fun x2 h=>?_)
 conv=>whnf
 exact rt (E:=E_Int) h rfl
end Go.Proofs.YtldlcdnhdedoeaaGreat
namespace Go.Proofs.YtldlcdnhdedoeaaGreat
open Go Go.VC
noncomputable def level_most_api_Task (a0:List Task) (a1:Int) (a2:List Task):Option Int:=
 lp (fun nx1 (v1:Int×Int)=>fk (decide (v1.2<(a0.length:Int))) (ix a0 v1.2 fun x2=>bnd (level_Ceiling_1 x2 a1 a2) fun x3=>nx1 ((if x3>v1.1 then x3 else v1.1),(wr (v1.2+(1:Int))))) (some v1.1)) FU ((0:Int),(0:Int))
theorem level_most_api_Task_w (a0:List Task) (a1:Int) (a2:List Task) (r:Int) (h:level_most_api_Task a0 a1 a2=some r):Go.VC.Spec Tryz.prog 196 [.d (.sl (a0.map Task.enc)),.d (.fn 197 [[.int .i64 a1],[.sl (a2.map Task.enc)]])] (fun y=>y=E_Int r):=by
 refine Go.VC.Spec.of_xc (args:=[.d (.sl (a0.map Task.enc)),.d (.fn 197 [[.int .i64 a1],[.sl (a2.map Task.enc)]])]) (fn:=Tryz.f196) tab ⟨[(0,[0,1]),(1,[0,1,5]),(2,[1,5,8,9,10]),(3,[1,5,8,9,10,11]),(4,[1,5,7,8,9,10]),(5,[1,5,8,9,10]),(6,[1,5,8,9,10]),(7,[4])],[],[],[]⟩ 21 [.tmp 4] rfl rfl rfl rfl rfl rfl ?_
 conv=>whnf
 refine lenS a0 Task.enc rfl ?_
 conv=>whnf
 refine lpS (fun v1=>⟨[(1,.l (.d (.fn 197 [[.int .i64 a1],[.sl (a2.map Task.enc)]]))),(5,.l (.d (.int .i64 v1.1))),(8,.l (.d (.sl (a0.map Task.enc)))),(9,.l (.d (.int .i64 (a0.length:Int)))),(10,.l (.d (.int .i64 v1.2)))],21,[],[],[]⟩) h (Weak.refl _) (fun _ nx1 hn1 v1 h=>?_)
 conv=>whnf
 refine fkS h (fun h=>?_) (fun h=>?_)
 ·conv=>whnf
  refine ixS (enc:=Task.enc) h rfl (fun _=>rfl) (fun x2 h=>?_)
  conv=>whnf
  refine caS (E:=E_Int) h (level_Ceiling_1_w x2 a1 a2) rfl (fun _=>rfl) (fun x3 h=>?_)
  conv=>whnf
  exact leS hn1 h (Weak.refl _)
 conv=>whnf
 exact rt (E:=E_Int) h rfl
end Go.Proofs.YtldlcdnhdedoeaaGreat
namespace Go.Proofs.YtldlcdnhdedoeaaGreat
open Go Go.VC
noncomputable def level_Ceiling (a0:List Task) (a1:Int):Option Int:=
 bnd (task_All a0) fun x1=>fk (!x1) (some (0:Int)) (bnd (level_most_api_Task a0 a1 a0) fun x2=>some x2)
theorem level_Ceiling_w (a0:List Task) (a1:Int) (r:Int) (h:level_Ceiling a0 a1=some r):Go.VC.Spec Tryz.prog 190 [.d (.sl (a0.map Task.enc)),.d (.int .i64 a1)] (fun y=>y=E_Int r):=by
 refine Go.VC.Spec.of_xc (args:=[.d (.sl (a0.map Task.enc)),.d (.int .i64 a1)]) (fn:=Tryz.f190) tab ⟨[(0,[2,3]),(1,[2,3,7]),(2,[4]),(3,[4])],[],[],[]⟩ 11 [.tmp 4] rfl rfl rfl rfl rfl rfl ?_
 conv=>whnf
 refine caS (E:=E_Bool) h (task_All_w a0) rfl (fun _=>rfl) (fun x1 h=>?_)
 conv=>whnf
 refine fkS h (fun h=>?_) (fun h=>?_)
 ·conv=>whnf
  exact rt (E:=E_Int) h rfl
 conv=>whnf
 refine caS (E:=E_Int) h (level_most_api_Task_w a0 a1 a0) rfl (fun _=>rfl) (fun x2 h=>?_)
 conv=>whnf
 exact rt (E:=E_Int) h rfl
end Go.Proofs.YtldlcdnhdedoeaaGreat
namespace Go.Proofs.YtldlcdnhdedoeaaGreat
open Go Go.VC
noncomputable def level_Held_1 (a0:Int) (a1:List Task):Option Int:=
 bnd (level_Ceiling a1 a0) fun x1=>some x1
theorem level_Held_1_w (a0:Int) (a1:List Task) (r:Int) (h:level_Held_1 a0 a1=some r):Go.VC.Spec Tryz.prog 189 [.d (.int .i64 a0),.dp [.sl (a1.map Task.enc)]] (fun y=>y=E_Int r):=by
 refine Go.VC.Spec.of_xc (args:=[.d (.int .i64 a0),.dp [.sl (a1.map Task.enc)]]) (fn:=Tryz.f189) tab ⟨[(0,[0,1]),(1,[3])],[],[],[]⟩ 7 [.tmp 3] rfl rfl rfl rfl rfl rfl ?_
 conv=>whnf
 refine caS (E:=E_Int) h (level_Ceiling_w a1 a0) rfl (fun _=>rfl) (fun x1 h=>?_)
 conv=>whnf
 exact rt (E:=E_Int) h rfl
end Go.Proofs.YtldlcdnhdedoeaaGreat
namespace Go.Proofs.YtldlcdnhdedoeaaGreat
open Go Go.VC
noncomputable def level_most_int (a0:List Int) (a1:List Task):Option Int:=
 lp (fun nx1 (v1:Int×Int)=>fk (decide (v1.2<(a0.length:Int))) (ix a0 v1.2 fun x2=>bnd (level_Held_1 x2 a1) fun x3=>nx1 ((if x3>v1.1 then x3 else v1.1),(wr (v1.2+(1:Int))))) (some v1.1)) FU ((0:Int),(0:Int))
theorem level_most_int_w (a0:List Int) (a1:List Task) (r:Int) (h:level_most_int a0 a1=some r):Go.VC.Spec Tryz.prog 188 [.d (.sl (a0.map (eI .i64))),.d (.fn 189 [[.sl (a1.map Task.enc)]])] (fun y=>y=E_Int r):=by
 refine Go.VC.Spec.of_xc (args:=[.d (.sl (a0.map (eI .i64))),.d (.fn 189 [[.sl (a1.map Task.enc)]])]) (fn:=Tryz.f188) tab ⟨[(0,[0,1]),(1,[0,1,5]),(2,[1,5,8,9,10]),(3,[1,5,8,9,10,11]),(4,[1,5,7,8,9,10]),(5,[1,5,8,9,10]),(6,[1,5,8,9,10]),(7,[4])],[],[],[]⟩ 21 [.tmp 4] rfl rfl rfl rfl rfl rfl ?_
 conv=>whnf
 refine lenS a0 (eI .i64) rfl ?_
 conv=>whnf
 refine lpS (fun v1=>⟨[(1,.l (.d (.fn 189 [[.sl (a1.map Task.enc)]]))),(5,.l (.d (.int .i64 v1.1))),(8,.l (.d (.sl (a0.map (eI .i64))))),(9,.l (.d (.int .i64 (a0.length:Int)))),(10,.l (.d (.int .i64 v1.2)))],21,[],[],[]⟩) h (Weak.refl _) (fun _ nx1 hn1 v1 h=>?_)
 conv=>whnf
 refine fkS h (fun h=>?_) (fun h=>?_)
 ·conv=>whnf
  refine ixS (enc:=(eI .i64)) h rfl (fun _=>rfl) (fun x2 h=>?_)
  conv=>whnf
  refine caS (E:=E_Int) h (level_Held_1_w x2 a1) rfl (fun _=>rfl) (fun x3 h=>?_)
  conv=>whnf
  exact leS hn1 h (Weak.refl _)
 conv=>whnf
 exact rt (E:=E_Int) h rfl
end Go.Proofs.YtldlcdnhdedoeaaGreat
namespace Go.Proofs.YtldlcdnhdedoeaaGreat
open Go Go.VC
noncomputable def level_Held (a0:List Task) (a1:List Int):Option Int:=
 bnd (level_most_int a1 a0) fun x1=>some x1
theorem level_Held_w (a0:List Task) (a1:List Int) (r:Int) (h:level_Held a0 a1=some r):Go.VC.Spec Tryz.prog 178 [.d (.sl (a0.map Task.enc)),.d (.sl (a1.map (eI .i64)))] (fun y=>y=E_Int r):=by
 refine Go.VC.Spec.of_xc (args:=[.d (.sl (a0.map Task.enc)),.d (.sl (a1.map (eI .i64)))]) (fn:=Tryz.f178) tab ⟨[(0,[1,2]),(1,[4])],[],[],[]⟩ 8 [.tmp 4] rfl rfl rfl rfl rfl rfl ?_
 conv=>whnf
 refine caS (E:=E_Int) h (level_most_int_w a1 a0) rfl (fun _=>rfl) (fun x1 h=>?_)
 conv=>whnf
 exact rt (E:=E_Int) h rfl
end Go.Proofs.YtldlcdnhdedoeaaGreat
namespace Go.Proofs.YtldlcdnhdedoeaaGreat
open Go Go.VC
noncomputable def level_Passes (a0:List Task) (a1:Int) (a2:List Int):Option Bool:=
 bnd (level_Of a0 a1) fun x1=>bnd (level_Held a0 a2) fun x2=>some (decide (x1>x2))
theorem level_Passes_w (a0:List Task) (a1:Int) (a2:List Int) (r:Bool) (h:level_Passes a0 a1 a2=some r):Go.VC.Spec Tryz.prog 168 [.d (.sl (a0.map Task.enc)),.d (.int .i64 a1),.d (.sl (a2.map (eI .i64)))] (fun y=>y=E_Bool r):=by
 refine Go.VC.Spec.of_xc (args:=[.d (.sl (a0.map Task.enc)),.d (.int .i64 a1),.d (.sl (a2.map (eI .i64)))]) (fn:=Tryz.f168) tab ⟨[(0,[0,1,2]),(1,[6])],[],[],[]⟩ 14 [.tmp 6] rfl rfl rfl rfl rfl rfl ?_
 conv=>whnf
 refine caS (E:=E_Int) h (level_Of_w a0 a1) rfl (fun _=>rfl) (fun x1 h=>?_)
 conv=>whnf
 refine caS (E:=E_Int) h (level_Held_w a0 a2) rfl (fun _=>rfl) (fun x2 h=>?_)
 conv=>whnf
 exact rt (E:=E_Bool) h rfl
end Go.Proofs.YtldlcdnhdedoeaaGreat
namespace Go.Proofs.YtldlcdnhdedoeaaGreat
open Go Go.VC
noncomputable def srp_Choose (a0:List Task) (a1:List Job):Option Int:=
 bnd (job_All a0 a1) fun x1=>fk (!x1) (some (-1:Int)) (bnd (job_First a1 false) fun x2=>bnd (job_First a1 true) fun x3=>jn (fun (w4:Unit)=>some x2) (fun k4=>fk (decide (x2<(0:Int))) (some x3) (jn (fun (w5:Bool)=>fk w5 (some x3) (fk (decide (x3<(0:Int))) (k4 ()) (ix a1 x2 fun x9=>bnd (job_Held a0 a1) fun x10=>bnd (level_Passes a0 x9.Task x10) fun x11=>fk x11 (k4 ()) (some x3)))) (fun k5=>fk (decide (x3≥(0:Int))) (ix a1 x2 fun x6=>ix a1 x3 fun x7=>bnd (job_Ahead x6 x7) fun x8=>k5 (!x8)) (k5 false)))))
theorem srp_Choose_w (a0:List Task) (a1:List Job) (r:Int) (h:srp_Choose a0 a1=some r):Go.VC.Spec Tryz.prog 161 [.d (.sl (a0.map Task.enc)),.d (.sl (a1.map Job.enc))] (fun y=>y=E_Int r):=by
 refine Go.VC.Spec.of_xc (args:=[.d (.sl (a0.map Task.enc)),.d (.sl (a1.map Job.enc))]) (fn:=Tryz.f161) tab ⟨[(0,[0,1]),(1,[0,1,10]),(2,[4]),(3,[0,1,5,6]),(4,[0,1,5,6,15]),(5,[0,1,5,6,18]),(6,[0,1,5,6,33]),(7,[5,6,36]),(8,[4]),(9,[4]),(10,[4]),(11,[4])],[],[100018,10],[]⟩ 51 [.tmp 4] rfl rfl rfl rfl rfl rfl ?_
 conv=>whnf
 refine caS (E:=E_Bool) h (job_All_w a0 a1) rfl (fun _=>rfl) (fun x1 h=>?_)
 conv=>whnf
 refine fkS h (fun h=>?_) (fun h=>?_)
 ·conv=>whnf
  exact rt (E:=E_Int) h rfl
 conv=>whnf
 refine caS (E:=E_Int) h (job_First_w a1 false) rfl (fun _=>rfl) (fun x2 h=>?_)
 conv=>whnf
 refine caS (E:=E_Int) h (job_First_w a1 true) rfl (fun _=>rfl) (fun x3 h=>?_)
 conv=>whnf
 refine jnS (fun w4=>⟨[(5,.l (.d (.int .i64 x2)))],51,[],[],[]⟩) h (fun k4 hk4 h=>?_) (fun w4 h=>?_)
 ·conv=>whnf
  refine fkS h (fun h=>?_) (fun h=>?_)
  ·conv=>whnf
   exact rt (E:=E_Int) h rfl
  conv=>whnf
  refine jnS (fun w5=>⟨[(0,.l (.d (.sl (a0.map Task.enc)))),(1,.l (.d (.sl (a1.map Job.enc)))),(5,.l (.d (.int .i64 x2))),(6,.l (.d (.int .i64 x3))),(18,.l (.d (.bool w5)))],51,[],[],[]⟩) h (fun k5 hk5 h=>?_) (fun w5 h=>?_)
  ·conv=>whnf
   refine⟨14,?_⟩
   conv=>whnf
   refine fkS h (fun h=>?_) (fun h=>?_)
   ·conv=>whnf
    refine ixS (enc:=Job.enc) h rfl (fun _=>rfl) (fun x6 h=>?_)
    conv=>whnf
    refine ixS (enc:=Job.enc) h rfl (fun _=>rfl) (fun x7 h=>?_)
    conv=>whnf
    refine daS (E:=E_Bool) h (job_Ahead_w x6 x7) (fun _=>rfl) (fun x8 h=>?_)
    conv=>whnf
    refine drS (by kernel_rfl) ?_
    conv=>whnf
    exact jeS hk5 h (Weak.refl _)
   conv=>whnf
   refine drS (by kernel_rfl) ?_
   conv=>whnf
   exact jeS hk5 h (Weak.refl _)
  conv=>whnf
  refine fkS h (fun h=>?_) (fun h=>?_)
  ·conv=>whnf
   exact rt (E:=E_Int) h rfl
  conv=>whnf
  refine fkS h (fun h=>?_) (fun h=>?_)
  ·conv=>whnf
   refine jeX hk4 h ?_
   conv=>whnf
   refine WkF.step (Weak.keepS _ [5]) ?_
   conv=>whnf
   exact WkF.refl _
  conv=>whnf
  refine⟨9,?_⟩
  conv=>whnf
  refine ixS (enc:=Job.enc) h rfl (fun _=>rfl) (fun x9 h=>?_)
  conv=>whnf
  refine dcS (E:=E_ListInt) h (job_Held_w a0 a1) rfl (fun x10 h=>?_)
  conv=>whnf
  refine drS (by kernel_rfl) ?_
  conv=>whnf
  refine caS (E:=E_Bool) h (level_Passes_w a0 x9.Task x10) rfl (fun _=>rfl) (fun x11 h=>?_)
  conv=>whnf
  refine fkS h (fun h=>?_) (fun h=>?_)
  ·conv=>whnf
   refine jeX hk4 h ?_
   conv=>whnf
   refine WkF.step (Weak.keepS _ [5]) ?_
   conv=>whnf
   exact WkF.refl _
  conv=>whnf
  exact rt (E:=E_Int) h rfl
 conv=>whnf
 exact rt (E:=E_Int) h rfl
end Go.Proofs.YtldlcdnhdedoeaaGreat
namespace Go.Proofs.YtldlcdnhdedoeaaGreat
open Go Go.VC
noncomputable def srp_Tick (a0:List Task) (a1:List Job):Option ((List Job)×Job×Bool):=
 bnd (srp_Choose a0 a1) fun x1=>fk (decide (x1<(0:Int))) (some (a1,⟨(0:Int),(0:Int),(0:Int),(0:Int),(0:Int),false⟩,false)) (ix a1 x1 fun x2=>ix a0 x2.Task fun x3=>ck (decide ((0:Int)≤(0:Int)) && decide ((0:Int)≤x1) && decide (x1≤(a1.length:Int))) (ck (decide ((([]:List Job).length+((a1.take x1.toNat).drop (0:Int).toNat).length)*48≤140737488355328)) (jn (fun (w4:List Job)=>ck (decide ((0:Int)≤(wr (x1+(1:Int)))) && decide ((wr (x1+(1:Int)))≤(a1.length:Int)) && decide ((a1.length:Int)≤(a1.length:Int))) (ck (decide ((w4.length+((a1.take (a1.length:Int).toNat).drop (wr (x1+(1:Int))).toNat).length)*48≤140737488355328)) (some (w4++((a1.take (a1.length:Int).toNat).drop (wr (x1+(1:Int))).toNat),⟨x2.Task,x2.At,x2.Due,x2.Want,(wr (x2.Had+(1:Int))),true⟩,(decide ((wr (x2.Had+(1:Int)))≥(if x3.C<x2.Want then x3.C else x2.Want))))))) (fun k4=>fk (!(decide ((wr (x2.Had+(1:Int)))≥(if x3.C<x2.Want then x3.C else x2.Want)))) (ck (decide (((([]:List Job)++((a1.take x1.toNat).drop (0:Int).toNat)).length+([⟨x2.Task,x2.At,x2.Due,x2.Want,(wr (x2.Had+(1:Int))),true⟩]:List Job).length)*48≤140737488355328)) (k4 ((([]:List Job)++((a1.take x1.toNat).drop (0:Int).toNat))++([⟨x2.Task,x2.At,x2.Due,x2.Want,(wr (x2.Had+(1:Int))),true⟩]:List Job)))) (k4 (([]:List Job)++((a1.take x1.toNat).drop (0:Int).toNat)))))))
theorem srp_Tick_w (a0:List Task) (a1:List Job) (r:(List Job)×Job×Bool) (h:srp_Tick a0 a1=some r):Go.VC.Spec Tryz.prog 143 [.d (.sl (a0.map Task.enc)),.d (.sl (a1.map Job.enc))] (fun y=>y=E_ListJob_Job_Bool r):=by
 refine Go.VC.Spec.of_xc (args:=[.d (.sl (a0.map Task.enc)),.d (.sl (a1.map Job.enc))]) (fn:=Tryz.f143) tab ⟨[(0,[0,1,5]),(1,[0,1,5,7]),(2,[0,1,5,7,15]),(3,[4,5,6]),(4,[0,1,5,7,8]),(5,[0,1,5,7,8]),(6,[0,1,5,7,8]),(7,[1,5,7,8,9]),(8,[1,5,7,8,9,10]),(9,[1,5,7,8,9,10,45]),(10,[1,5,7,8,9,10]),(11,[4,5,6])],[],[11],[]⟩ 58 [.tmp 4,.cell 5 164,.tmp 6] rfl rfl rfl rfl rfl rfl ?_
 conv=>whnf
 refine caS (E:=E_Int) h (srp_Choose_w a0 a1) rfl (fun _=>rfl) (fun x1 h=>?_)
 conv=>whnf
 refine fkS h (fun h=>?_) (fun h=>?_)
 ·conv=>whnf
  exact rt (E:=E_ListJob_Job_Bool) h rfl
 conv=>whnf
 refine ixS (enc:=Job.enc) h rfl (fun _=>rfl) (fun x2 h=>?_)
 conv=>whnf
 refine⟨11,?_⟩
 conv=>whnf
 refine ixS (enc:=Task.enc) h rfl (fun _=>rfl) (fun x3 h=>?_)
 conv=>whnf
 refine drS (by kernel_rfl) ?_
 conv=>whnf
 refine liS ([]:List Job) Job.enc rfl rfl ?_
 conv=>whnf
 refine slS (enc:=Job.enc) h rfl rfl (.inl rfl) (fun _=>rfl) (fun h=>?_)
 conv=>whnf
 refine apS (enc:=Job.enc) (l1:=([]:List Job)) (l2:=(a1.take x1.toNat).drop (0:Int).toNat) h rfl rfl (fun _=>rfl) (fun h=>?_)
 conv=>whnf
 refine jnS (fun w4=>⟨[(1,.l (.d (.sl (a1.map Job.enc)))),(5,.l (.ptr 6 0)),(7,.l (.d (.int .i64 x1))),(8,.l (.ptr 9 0)),(9,.l (.d (.bool (decide ((wr (x2.Had+(1:Int)))≥(if x3.C<x2.Want then x3.C else x2.Want)))))),(10,.l (.own 11))],58,[],[(6,[.d (.int .i64 (0:Int)),.d (.int .i64 (0:Int)),.d (.int .i64 (0:Int)),.d (.int .i64 (0:Int)),.d (.int .i64 (0:Int)),.d (.bool false)]),(9,[.d (.int .i64 x2.Task),.d (.int .i64 x2.At),.d (.int .i64 x2.Due),.d (.int .i64 x2.Want),.d (.int .i64 (wr (x2.Had+(1:Int)))),.d (.bool true)])],[(11,164,6,w4.map Job.enc)]⟩) h (fun k4 hk4 h=>?_) (fun w4 h=>?_)
 ·conv=>whnf
  refine fkS h (fun h=>?_) (fun h=>?_)
  ·conv=>whnf
   refine liS ([⟨x2.Task,x2.At,x2.Due,x2.Want,(wr (x2.Had+(1:Int))),true⟩]:List Job) Job.enc rfl rfl ?_
   conv=>whnf
   refine apS (enc:=Job.enc) (l1:=([]:List Job)++((a1.take x1.toNat).drop (0:Int).toNat)) (l2:=([⟨x2.Task,x2.At,x2.Due,x2.Want,(wr (x2.Had+(1:Int))),true⟩]:List Job)) h rfl rfl (fun _=>rfl) (fun h=>?_)
   conv=>whnf
   exact jeS hk4 h (Weak.refl _)
  conv=>whnf
  refine jeX hk4 h ?_
  conv=>whnf
  refine WkF.step (Weak.keepS _ [1,5,7,8,9,10]) ?_
  conv=>whnf
  exact WkF.refl _
 conv=>whnf
 refine⟨10,?_⟩
 conv=>whnf
 refine slS (enc:=Job.enc) h rfl rfl (.inl rfl) (fun _=>rfl) (fun h=>?_)
 conv=>whnf
 refine apS (enc:=Job.enc) (l1:=w4) (l2:=(a1.take (a1.length:Int).toNat).drop (wr (x1+(1:Int))).toNat) h rfl rfl (fun _=>rfl) (fun h=>?_)
 conv=>whnf
 refine drS (by kernel_rfl) ?_
 conv=>whnf
 exact rt (E:=E_ListJob_Job_Bool) h rfl
end Go.Proofs.YtldlcdnhdedoeaaGreat
namespace Go.Proofs.YtldlcdnhdedoeaaGreat
open Go Go.VC
noncomputable def part_without_api_Task (a0:List Task) (a1:Int):Option (List Task):=
 ck (decide ((0:Int)≤(0:Int)) && decide ((0:Int)≤a1) && decide (a1≤(a0.length:Int))) (ck (decide ((([]:List Task).length+((a0.take a1.toNat).drop (0:Int).toNat).length)*48≤140737488355328)) (ck (decide ((0:Int)≤(wr (a1+(1:Int)))) && decide ((wr (a1+(1:Int)))≤(a0.length:Int)) && decide ((a0.length:Int)≤(a0.length:Int))) (ck (decide (((([]:List Task)++((a0.take a1.toNat).drop (0:Int).toNat)).length+((a0.take (a0.length:Int).toNat).drop (wr (a1+(1:Int))).toNat).length)*48≤140737488355328)) (some ((([]:List Task)++((a0.take a1.toNat).drop (0:Int).toNat))++((a0.take (a0.length:Int).toNat).drop (wr (a1+(1:Int))).toNat))))))
theorem part_without_api_Task_w (a0:List Task) (a1:Int) (r:List Task) (h:part_without_api_Task a0 a1=some r):Go.VC.Spec Tryz.prog 144 [.d (.sl (a0.map Task.enc)),.d (.int .i64 a1)] (fun y=>y=E_ListTask r):=by
 refine Go.VC.Spec.of_xc (args:=[.d (.sl (a0.map Task.enc)),.d (.int .i64 a1)]) (fn:=Tryz.f144) tab ⟨[(0,[0,1]),(1,[4])],[],[],[]⟩ 15 [.tmp 4] rfl rfl rfl rfl rfl rfl ?_
 conv=>whnf
 refine⟨9,?_⟩
 conv=>whnf
 refine liS ([]:List Task) Task.enc rfl rfl ?_
 conv=>whnf
 refine slS (enc:=Task.enc) h rfl rfl (.inl rfl) (fun _=>rfl) (fun h=>?_)
 conv=>whnf
 refine apS (enc:=Task.enc) (l1:=([]:List Task)) (l2:=(a0.take a1.toNat).drop (0:Int).toNat) h rfl rfl (fun _=>rfl) (fun h=>?_)
 conv=>whnf
 refine slS (enc:=Task.enc) h rfl rfl (.inl rfl) (fun _=>rfl) (fun h=>?_)
 conv=>whnf
 refine drS (by kernel_rfl) ?_
 conv=>whnf
 refine apS (enc:=Task.enc) (l1:=([]:List Task)++((a0.take a1.toNat).drop (0:Int).toNat)) (l2:=(a0.take (a0.length:Int).toNat).drop (wr (a1+(1:Int))).toNat) h rfl rfl (fun _=>rfl) (fun h=>?_)
 conv=>whnf
 exact rt (E:=E_ListTask) h rfl
end Go.Proofs.YtldlcdnhdedoeaaGreat
namespace Go.Proofs.YtldlcdnhdedoeaaGreat
open Go Go.VC
noncomputable def part_without_bool (a0:List Bool) (a1:Int):Option (List Bool):=
 ck (decide ((0:Int)≤(0:Int)) && decide ((0:Int)≤a1) && decide (a1≤(a0.length:Int))) (ck (decide ((([]:List Bool).length+((a0.take a1.toNat).drop (0:Int).toNat).length)*1≤140737488355328)) (ck (decide ((0:Int)≤(wr (a1+(1:Int)))) && decide ((wr (a1+(1:Int)))≤(a0.length:Int)) && decide ((a0.length:Int)≤(a0.length:Int))) (ck (decide (((([]:List Bool)++((a0.take a1.toNat).drop (0:Int).toNat)).length+((a0.take (a0.length:Int).toNat).drop (wr (a1+(1:Int))).toNat).length)*1≤140737488355328)) (some ((([]:List Bool)++((a0.take a1.toNat).drop (0:Int).toNat))++((a0.take (a0.length:Int).toNat).drop (wr (a1+(1:Int))).toNat))))))
theorem part_without_bool_w (a0:List Bool) (a1:Int) (r:List Bool) (h:part_without_bool a0 a1=some r):Go.VC.Spec Tryz.prog 145 [.d (.sl (a0.map eB)),.d (.int .i64 a1)] (fun y=>y=E_ListBool r):=by
 refine Go.VC.Spec.of_xc (args:=[.d (.sl (a0.map eB)),.d (.int .i64 a1)]) (fn:=Tryz.f145) tab ⟨[(0,[0,1]),(1,[4])],[],[],[]⟩ 15 [.tmp 4] rfl rfl rfl rfl rfl rfl ?_
 conv=>whnf
 refine⟨9,?_⟩
 conv=>whnf
 refine liS ([]:List Bool) eB rfl rfl ?_
 conv=>whnf
 refine slS (enc:=eB) h rfl rfl (.inl rfl) (fun _=>rfl) (fun h=>?_)
 conv=>whnf
 refine apS (enc:=eB) (l1:=([]:List Bool)) (l2:=(a0.take a1.toNat).drop (0:Int).toNat) h rfl rfl (fun _=>rfl) (fun h=>?_)
 conv=>whnf
 refine slS (enc:=eB) h rfl rfl (.inl rfl) (fun _=>rfl) (fun h=>?_)
 conv=>whnf
 refine drS (by kernel_rfl) ?_
 conv=>whnf
 refine apS (enc:=eB) (l1:=([]:List Bool)++((a0.take a1.toNat).drop (0:Int).toNat)) (l2:=(a0.take (a0.length:Int).toNat).drop (wr (a1+(1:Int))).toNat) h rfl rfl (fun _=>rfl) (fun h=>?_)
 conv=>whnf
 exact rt (E:=E_ListBool) h rfl
end Go.Proofs.YtldlcdnhdedoeaaGreat
namespace Go.Proofs.YtldlcdnhdedoeaaGreat
open Go Go.VC
noncomputable def part_without_int (a0:List Int) (a1:Int):Option (List Int):=
 ck (decide ((0:Int)≤(0:Int)) && decide ((0:Int)≤a1) && decide (a1≤(a0.length:Int))) (ck (decide ((([]:List Int).length+((a0.take a1.toNat).drop (0:Int).toNat).length)*8≤140737488355328)) (ck (decide ((0:Int)≤(wr (a1+(1:Int)))) && decide ((wr (a1+(1:Int)))≤(a0.length:Int)) && decide ((a0.length:Int)≤(a0.length:Int))) (ck (decide (((([]:List Int)++((a0.take a1.toNat).drop (0:Int).toNat)).length+((a0.take (a0.length:Int).toNat).drop (wr (a1+(1:Int))).toNat).length)*8≤140737488355328)) (some ((([]:List Int)++((a0.take a1.toNat).drop (0:Int).toNat))++((a0.take (a0.length:Int).toNat).drop (wr (a1+(1:Int))).toNat))))))
theorem part_without_int_w (a0:List Int) (a1:Int) (r:List Int) (h:part_without_int a0 a1=some r):Go.VC.Spec Tryz.prog 146 [.d (.sl (a0.map (eI .i64))),.d (.int .i64 a1)] (fun y=>y=E_ListInt r):=by
 refine Go.VC.Spec.of_xc (args:=[.d (.sl (a0.map (eI .i64))),.d (.int .i64 a1)]) (fn:=Tryz.f146) tab ⟨[(0,[0,1]),(1,[4])],[],[],[]⟩ 15 [.tmp 4] rfl rfl rfl rfl rfl rfl ?_
 conv=>whnf
 refine⟨9,?_⟩
 conv=>whnf
 refine liS ([]:List Int) (eI .i64) rfl rfl ?_
 conv=>whnf
 refine slS (enc:=(eI .i64)) h rfl rfl (.inl rfl) (fun _=>rfl) (fun h=>?_)
 conv=>whnf
 refine apS (enc:=(eI .i64)) (l1:=([]:List Int)) (l2:=(a0.take a1.toNat).drop (0:Int).toNat) h rfl rfl (fun _=>rfl) (fun h=>?_)
 conv=>whnf
 refine slS (enc:=(eI .i64)) h rfl rfl (.inl rfl) (fun _=>rfl) (fun h=>?_)
 conv=>whnf
 refine drS (by kernel_rfl) ?_
 conv=>whnf
 refine apS (enc:=(eI .i64)) (l1:=([]:List Int)++((a0.take a1.toNat).drop (0:Int).toNat)) (l2:=(a0.take (a0.length:Int).toNat).drop (wr (a1+(1:Int))).toNat) h rfl rfl (fun _=>rfl) (fun h=>?_)
 conv=>whnf
 exact rt (E:=E_ListInt) h rfl
end Go.Proofs.YtldlcdnhdedoeaaGreat
namespace Go.Proofs.YtldlcdnhdedoeaaGreat
open Go Go.VC
noncomputable def part_Tick (a0:PartState) (a1:Bool) (a2:Int):Option (PartState×Int×Int):=
 jn (fun (w1:Bool)=>fk w1 (some (a0,(-1:Int),(1:Int))) (ck (decide ((([]:List Entry).length+a0.Log.length)*24≤140737488355328)) (lp (fun nx4 (v4:(List Job)×(List Entry)×Int)=>fk (decide (v4.2.2<(a0.Jobs.length:Int))) (jn (fun (w5:(List Job)×(List Entry))=>nx4 (w5.1,w5.2,(wr (v4.2.2+(1:Int))))) (fun k5=>ix a0.Jobs v4.2.2 fun x6=>fk (decide (x6.Due>a2)) (ck (decide ((v4.1.length+([x6]:List Job).length)*48≤140737488355328)) (k5 (v4.1++([x6]:List Job),v4.2.1))) (fk (decide ((v4.2.1.length:Int)<(2000:Int))) (ck (decide ((v4.2.1.length+([⟨a2,(6:Int),x6.Task⟩]:List Entry).length)*24≤140737488355328)) (k5 (v4.1,v4.2.1++([⟨a2,(6:Int),x6.Task⟩]:List Entry)))) (k5 (v4.1,v4.2.1))))) (jn (fun (w7:(List Job)×(List Entry)×Int)=>jn (fun (w11:(List Task)×(List Bool)×(List Int)×(List Entry))=>some (⟨w11.1,w11.2.1,w11.2.2.1,w7.1,w11.2.2.2⟩,w7.2.2,(0:Int))) (fun k11=>fk (decide ((w7.1.length:Int)=(0:Int))) (lp (fun nx12 (v12:(List Task)×(List Bool)×(List Int)×(List Entry)×Int)=>fk (decide (v12.2.2.2.2≥(0:Int))) (jn (fun (w13:(List Task)×(List Bool)×(List Int)×(List Entry))=>nx12 (w13.1,w13.2.1,w13.2.2.1,w13.2.2.2,(wr (v12.2.2.2.2-(1:Int))))) (fun k13=>ix v12.2.1 v12.2.2.2.2 fun x14=>fk x14 (bnd (part_without_api_Task v12.1 v12.2.2.2.2) fun x15=>bnd (part_without_bool v12.2.1 v12.2.2.2.2) fun x16=>bnd (part_without_int v12.2.2.1 v12.2.2.2.2) fun x17=>fk (decide ((v12.2.2.2.1.length:Int)<(2000:Int))) (ck (decide ((v12.2.2.2.1.length+([⟨a2,(7:Int),v12.2.2.2.2⟩]:List Entry).length)*24≤140737488355328)) (k13 (x15,x16,x17,v12.2.2.2.1++([⟨a2,(7:Int),v12.2.2.2.2⟩]:List Entry)))) (k13 (x15,x16,x17,v12.2.2.2.1))) (k13 (v12.1,v12.2.1,v12.2.2.1,v12.2.2.2.1)))) (k11 (v12.1,v12.2.1,v12.2.2.1,v12.2.2.2.1))) FU (a0.Tasks,a0.Leaves,a0.Lasts,w7.2.1,(wr ((a0.Tasks.length:Int)-(1:Int))))) (k11 (a0.Tasks,a0.Leaves,a0.Lasts,w7.2.1)))) (fun k7=>fk a1 (bnd (srp_Tick a0.Tasks v4.1) fun x8=>fk (decide ((v4.1.length:Int)=(0:Int))) (k7 (v4.1,v4.2.1,(-1:Int))) (jn (fun (w9:Bool)=>fk w9 (fk (decide ((v4.2.1.length:Int)<(2000:Int))) (ck (decide ((v4.2.1.length+([⟨a2,(5:Int),x8.2.1.Task⟩]:List Entry).length)*24≤140737488355328)) (k7 (x8.1,v4.2.1++([⟨a2,(5:Int),x8.2.1.Task⟩]:List Entry),x8.2.1.Task))) (k7 (x8.1,v4.2.1,x8.2.1.Task))) (fk x8.2.2 (fk (decide ((v4.2.1.length:Int)<(2000:Int))) (ck (decide ((v4.2.1.length+([⟨a2,(4:Int),x8.2.1.Task⟩]:List Entry).length)*24≤140737488355328)) (k7 (x8.1,v4.2.1++([⟨a2,(4:Int),x8.2.1.Task⟩]:List Entry),x8.2.1.Task))) (k7 (x8.1,v4.2.1,x8.2.1.Task))) (k7 (x8.1,v4.2.1,x8.2.1.Task)))) (fun k9=>fk x8.2.2 (ix a0.Tasks x8.2.1.Task fun x10=>k9 (decide (x8.2.1.Want>x10.C))) (k9 false)))) (k7 (v4.1,v4.2.1,(-1:Int)))))) FU ([],([]:List Entry)++a0.Log,(0:Int))))) (fun k1=>bnd (part_Right a0) fun x2=>fk (!x2) (k1 true) (bnd (part_when a2) fun x3=>k1 (!x3)))
theorem part_Tick_w (a0:PartState) (a1:Bool) (a2:Int) (r:PartState×Int×Int) (h:part_Tick a0 a1 a2=some r):Go.VC.Spec Tryz.prog 36 [.agg (PartState.enc a0),.d (.bool a1),.d (.int .i64 a2)] (fun y=>y=E_PartState_Int_Int r):=by
 refine Go.VC.Spec.of_xc (args:=[.agg (PartState.enc a0),.d (.bool a1),.d (.int .i64 a2)]) (fn:=Tryz.f36) tab ⟨[(0,[1,2,3,6]),(1,[1,2,3,6,18]),(2,[6,7,8]),(3,[1,6,9]),(4,[1,6,9]),(5,[1,6,9,10]),(6,[6,9,10,25]),(7,[6,9,10]),(8,[6,9,10,34]),(9,[6,9,10]),(10,[6,7,8])],[],[100018,10,8],[]⟩ 40 [.cell 6 51,.tmp 7,.tmp 8] rfl rfl rfl rfl rfl rfl ?_
 conv=>whnf
 refine jnS (fun w1=>⟨[(1,.l (.d (.bool a1))),(2,.l (.d (.int .i64 a2))),(3,.l (.ptr 4 0)),(6,.l (.ptr 7 0)),(18,.l (.d (.bool w1)))],40,[],[(4,[.d (.sl (a0.Tasks.map Task.enc)),.d (.sl (a0.Leaves.map eB)),.d (.sl (a0.Lasts.map (eI .i64))),.d (.sl (a0.Jobs.map Job.enc)),.d (.sl (a0.Log.map Entry.enc))]),(7,[.nil,.nil,.nil,.nil,.nil])],[]⟩) h (fun k1 hk1 h=>?_) (fun w1 h=>?_)
 ·conv=>whnf
  refine caS (E:=E_Bool) h (part_Right_w a0) rfl (fun _=>rfl) (fun x2 h=>?_)
  conv=>whnf
  refine fkS h (fun h=>?_) (fun h=>?_)
  ·conv=>whnf
   exact jeS hk1 h (Weak.refl _)
  conv=>whnf
  refine caS (E:=E_Bool) h (part_when_w a2) rfl (fun _=>rfl) (fun x3 h=>?_)
  conv=>whnf
  exact jeS hk1 h (Weak.refl _)
 conv=>whnf
 refine fkS h (fun h=>?_) (fun h=>?_)
 ·conv=>whnf
  exact rt (E:=E_PartState_Int_Int) h rfl
 conv=>whnf
 refine inS (fn:=Tryz.f75) tab ⟨[(0,[1,2]),(1,[4])],[],[],[]⟩ 14 [.tmp 4] rfl rfl rfl rfl rfl rfl ?_
 conv=>whnf
 refine⟨7,?_⟩
 conv=>whnf
 refine liS ([]:List Entry) Entry.enc rfl rfl ?_
 conv=>whnf
 refine apS (enc:=Entry.enc) (l1:=([]:List Entry)) (l2:=a0.Log) h rfl rfl (fun _=>rfl) (fun h=>?_)
 conv=>whnf
 refine drS (by kernel_rfl) ?_
 conv=>whnf
 refine inS (fn:=Tryz.f91) tab ⟨[(0,[0,2]),(1,[0,2,9,10,11]),(2,[0,2,9,10,11,12]),(3,[0,2,4,9,10,11]),(4,[0,2,4,9,10,11,22]),(5,[0,2,9,10,11]),(6,[0,2,9,10,11]),(7,[0,2,9,10,11]),(8,[])],[],[7],[]⟩ 39 [] rfl rfl rfl rfl rfl rfl ?_
 conv=>whnf
 refine lenS a0.Jobs Job.enc rfl ?_
 conv=>whnf
 refine lpS (fun v4=>⟨[(0,.l (.ptr 1014 0)),(2,.l (.own 1003)),(9,.l (.d (.sl (a0.Jobs.map Job.enc)))),(10,.l (.d (.int .i64 (a0.Jobs.length:Int)))),(11,.l (.d (.int .i64 v4.2.2)))],39,[⟨[(23,.l (.ptr 1014 0)),(1,.l (.d (.bool a1))),(6,.l (.ptr 7 0)),(9,.l (.ptr 1014 0))],40⟩],[(7,[.nil,.nil,.nil,.nil,.nil]),(1014,[.own 1009,.d (.int .i64 a2),.d (.sl (a0.Tasks.map Task.enc)),.d (.sl (a0.Leaves.map eB)),.d (.sl (a0.Lasts.map (eI .i64))),.d (.sl (a0.Jobs.map Job.enc)),.d (.sl (a0.Log.map Entry.enc))])],[(1003,164,6,v4.1.map Job.enc),(1009,126,3,v4.2.1.map Entry.enc)]⟩) h (Weak.trans (Weak.nilO _ 2 1003 164 6 rfl) (Weak.refl _)) (fun _ nx4 hn4 v4 h=>?_)
 conv=>whnf
 refine fkS h (fun h=>?_) (fun h=>?_)
 ·conv=>whnf
  refine jnS (fun w5=>⟨[(0,.l (.ptr 1014 0)),(2,.l (.own 1003)),(9,.l (.d (.sl (a0.Jobs.map Job.enc)))),(10,.l (.d (.int .i64 (a0.Jobs.length:Int)))),(11,.l (.d (.int .i64 v4.2.2)))],39,[⟨[(23,.l (.ptr 1014 0)),(1,.l (.d (.bool a1))),(6,.l (.ptr 7 0)),(9,.l (.ptr 1014 0))],40⟩],[(7,[.nil,.nil,.nil,.nil,.nil]),(1014,[.own 1009,.d (.int .i64 a2),.d (.sl (a0.Tasks.map Task.enc)),.d (.sl (a0.Leaves.map eB)),.d (.sl (a0.Lasts.map (eI .i64))),.d (.sl (a0.Jobs.map Job.enc)),.d (.sl (a0.Log.map Entry.enc))])],[(1003,164,6,w5.1.map Job.enc),(1009,126,3,w5.2.map Entry.enc)]⟩) h (fun k5 hk5 h=>?_) (fun w5 h=>?_)
  ·conv=>whnf
   refine ixS (enc:=Job.enc) h rfl (fun _=>rfl) (fun x6 h=>?_)
   conv=>whnf
   refine⟨7,?_⟩
   conv=>whnf
   refine drS (by kernel_rfl) ?_
   conv=>whnf
   refine fkS h (fun h=>?_) (fun h=>?_)
   ·conv=>whnf
    refine liS ([x6]:List Job) Job.enc rfl rfl ?_
    conv=>whnf
    refine apS (enc:=Job.enc) (l1:=v4.1) (l2:=([x6]:List Job)) h rfl rfl (fun _=>rfl) (fun h=>?_)
    conv=>whnf
    exact jeS hk5 h (Weak.refl _)
   conv=>whnf
   refine⟨5,?_⟩
   conv=>whnf
   refine drS (by kernel_rfl) ?_
   conv=>whnf
   refine inS (fn:=Tryz.f77) tab ⟨[(0,[0,1,2,11]),(1,[])],[],[],[]⟩ 28 [] rfl rfl rfl rfl rfl rfl ?_
   conv=>whnf
   refine lenS v4.2.1 Entry.enc rfl ?_
   conv=>whnf
   refine fkS h (fun h=>?_) (fun h=>?_)
   ·conv=>whnf
    refine⟨14,?_⟩
    conv=>whnf
    refine liS ([⟨a2,(6:Int),x6.Task⟩]:List Entry) Entry.enc rfl rfl ?_
    conv=>whnf
    refine apS (enc:=Entry.enc) (l1:=v4.2.1) (l2:=([⟨a2,(6:Int),x6.Task⟩]:List Entry)) h rfl rfl (fun _=>rfl) (fun h=>?_)
    conv=>whnf
    refine drS (by kernel_rfl) ?_
    conv=>whnf
    refine jeX hk5 h ?_
    conv=>whnf
    refine WkF.step (Weak.rekey _ 2026 1009 rfl) ?_
    conv=>whnf
    exact WkF.refl _
   conv=>whnf
   exact jeS hk5 h (Weak.refl _)
  conv=>whnf
  exact leS hn4 h (Weak.refl _)
 conv=>whnf
 refine jnS (fun w7=>⟨[(6,.l (.ptr 7 0)),(9,.l (.ptr 1014 0)),(10,.l (.d (.int .i64 w7.2.2)))],40,[],[(7,[.nil,.nil,.nil,.nil,.nil]),(1014,[.own 1009,.d (.int .i64 a2),.d (.sl (a0.Tasks.map Task.enc)),.d (.sl (a0.Leaves.map eB)),.d (.sl (a0.Lasts.map (eI .i64))),.d (.sl (w7.1.map Job.enc)),.d (.sl (a0.Log.map Entry.enc))])],[(1009,126,3,w7.2.1.map Entry.enc)]⟩) h (fun k7 hk7 h=>?_) (fun w7 h=>?_)
 ·conv=>whnf
  refine fkS h (fun h=>?_) (fun h=>?_)
  ·conv=>whnf
   refine inS (fn:=Tryz.f92) tab ⟨[(0,[0]),(1,[0,3,4,5]),(2,[0,3,4,5,27]),(3,[2]),(4,[0,4,5]),(5,[0,4,5,33]),(6,[4]),(7,[0,4,56]),(8,[4]),(9,[2])],[(0,[1003])],[100033],[]⟩ 66 [.tmp 2] rfl rfl rfl rfl rfl rfl ?_
   conv=>whnf
   refine⟨18,?_⟩
   conv=>whnf
   refine dcS (E:=E_ListJob_Job_Bool) h (srp_Tick_w a0.Tasks v4.1) rfl (fun x8 h=>?_)
   conv=>whnf
   refine drS (by kernel_rfl) ?_
   conv=>whnf
   refine lenS v4.1 Job.enc rfl ?_
   conv=>whnf
   refine fkS h (fun h=>?_) (fun h=>?_)
   ·conv=>whnf
    exact jeS hk7 h (Weak.refl _)
   conv=>whnf
   refine jnS (fun w9=>⟨[(0,.l (.ptr 1014 0)),(4,.l (.ptr 1005 0)),(5,.l (.d (.bool x8.2.2))),(33,.l (.d (.bool w9)))],66,[⟨[(26,.l (.ptr 1014 0)),(25,.l (.d (.bool true))),(6,.l (.ptr 7 0)),(9,.l (.ptr 1014 0)),(10,.l (.d (.int .i64 (-1:Int)))),(25,.l (.d (.bool a1)))],40⟩],[(7,[.nil,.nil,.nil,.nil,.nil]),(1005,[.d (.int .i64 x8.2.1.Task),.d (.int .i64 x8.2.1.At),.d (.int .i64 x8.2.1.Due),.d (.int .i64 x8.2.1.Want),.d (.int .i64 x8.2.1.Had),.d (.bool x8.2.1.Began)]),(1014,[.own 1009,.d (.int .i64 a2),.d (.sl (a0.Tasks.map Task.enc)),.d (.sl (a0.Leaves.map eB)),.d (.sl (a0.Lasts.map (eI .i64))),.d (.sl (x8.1.map Job.enc)),.d (.sl (a0.Log.map Entry.enc))])],[(1009,126,3,v4.2.1.map Entry.enc)]⟩) h (fun k9 hk9 h=>?_) (fun w9 h=>?_)
   ·conv=>whnf
    refine⟨16,?_⟩
    conv=>whnf
    refine fkS h (fun h=>?_) (fun h=>?_)
    ·conv=>whnf
     refine ixS (enc:=Task.enc) h rfl (fun _=>rfl) (fun x10 h=>?_)
     conv=>whnf
     refine drS (by kernel_rfl) ?_
     conv=>whnf
     exact jeS hk9 h (Weak.refl _)
    conv=>whnf
    refine drS (by kernel_rfl) ?_
    conv=>whnf
    exact jeS hk9 h (Weak.refl _)
   conv=>whnf
   refine fkS h (fun h=>?_) (fun h=>?_)
   ·conv=>whnf
    refine⟨5,?_⟩
    conv=>whnf
    refine drS (by kernel_rfl) ?_
    conv=>whnf
    refine inS (fn:=Tryz.f77) tab ⟨[(0,[0,1,2,11]),(1,[])],[],[],[]⟩ 28 [] rfl rfl rfl rfl rfl rfl ?_
    conv=>whnf
    refine lenS v4.2.1 Entry.enc rfl ?_
    conv=>whnf
    refine fkS h (fun h=>?_) (fun h=>?_)
    ·conv=>whnf
     refine⟨14,?_⟩
     conv=>whnf
     refine liS ([⟨a2,(5:Int),x8.2.1.Task⟩]:List Entry) Entry.enc rfl rfl ?_
     conv=>whnf
     refine apS (enc:=Entry.enc) (l1:=v4.2.1) (l2:=([⟨a2,(5:Int),x8.2.1.Task⟩]:List Entry)) h rfl rfl (fun _=>rfl) (fun h=>?_)
     conv=>whnf
     refine drS (by kernel_rfl) ?_
     conv=>whnf
     refine jeX hk7 h ?_
     conv=>whnf
     refine WkF.step (Weak.rekey _ 2026 1009 rfl) ?_
     conv=>whnf
     exact WkF.refl _
    conv=>whnf
    exact jeS hk7 h (Weak.refl _)
   conv=>whnf
   refine fkS h (fun h=>?_) (fun h=>?_)
   ·conv=>whnf
    refine⟨5,?_⟩
    conv=>whnf
    refine drS (by kernel_rfl) ?_
    conv=>whnf
    refine inS (fn:=Tryz.f77) tab ⟨[(0,[0,1,2,11]),(1,[])],[],[],[]⟩ 28 [] rfl rfl rfl rfl rfl rfl ?_
    conv=>whnf
    refine lenS v4.2.1 Entry.enc rfl ?_
    conv=>whnf
    refine fkS h (fun h=>?_) (fun h=>?_)
    ·conv=>whnf
     refine⟨14,?_⟩
     conv=>whnf
     refine liS ([⟨a2,(4:Int),x8.2.1.Task⟩]:List Entry) Entry.enc rfl rfl ?_
     conv=>whnf
     refine apS (enc:=Entry.enc) (l1:=v4.2.1) (l2:=([⟨a2,(4:Int),x8.2.1.Task⟩]:List Entry)) h rfl rfl (fun _=>rfl) (fun h=>?_)
     conv=>whnf
     refine drS (by kernel_rfl) ?_
     conv=>whnf
     refine jeX hk7 h ?_
     conv=>whnf
     refine WkF.step (Weak.rekey _ 2026 1009 rfl) ?_
     conv=>whnf
     exact WkF.refl _
    conv=>whnf
    exact jeS hk7 h (Weak.refl _)
   conv=>whnf
   exact jeS hk7 h (Weak.refl _)
  conv=>whnf
  refine jeX hk7 h ?_
  conv=>whnf
  refine WkF.step (Weak.keepS _ [6,9,10]) ?_
  conv=>whnf
  refine WkF.step (Weak.ice _ 1003) ?_
  conv=>whnf
  exact WkF.refl _
 conv=>whnf
 refine jnS (fun w11=>⟨[(6,.l (.ptr 7 0)),(9,.l (.ptr 1014 0)),(10,.l (.d (.int .i64 w7.2.2)))],40,[],[(7,[.nil,.nil,.nil,.nil,.nil]),(1014,[.own 1009,.d (.int .i64 a2),.d (.sl (w11.1.map Task.enc)),.d (.sl (w11.2.1.map eB)),.d (.sl (w11.2.2.1.map (eI .i64))),.d (.sl (w7.1.map Job.enc)),.d (.sl (a0.Log.map Entry.enc))])],[(1009,126,3,w11.2.2.2.map Entry.enc)]⟩) h (fun k11 hk11 h=>?_) (fun w11 h=>?_)
 ·conv=>whnf
  refine lenS w7.1 Job.enc rfl ?_
  conv=>whnf
  refine fkS h (fun h=>?_) (fun h=>?_)
  ·conv=>whnf
   refine inS (fn:=Tryz.f93) tab ⟨[(0,[0,2]),(1,[0,2,11]),(2,[0,2]),(3,[0,2,21]),(4,[0,2]),(5,[0,2])],[],[2],[]⟩ 60 [] rfl rfl rfl rfl rfl rfl ?_
   conv=>whnf
   refine lenS a0.Tasks Task.enc rfl ?_
   conv=>whnf
   refine lpS (fun v12=>⟨[(0,.l (.ptr 1014 0)),(2,.l (.d (.int .i64 v12.2.2.2.2)))],60,[⟨[(35,.l (.ptr 1014 0)),(34,.l (.d (.bool true))),(6,.l (.ptr 7 0)),(9,.l (.ptr 1014 0)),(10,.l (.d (.int .i64 w7.2.2))),(34,.l (.d (.bool (decide ((w7.1.length:Int)=(0:Int))))))],40⟩],[(7,[.nil,.nil,.nil,.nil,.nil]),(1014,[.own 1009,.d (.int .i64 a2),.d (.sl (v12.1.map Task.enc)),.d (.sl (v12.2.1.map eB)),.d (.sl (v12.2.2.1.map (eI .i64))),.d (.sl (w7.1.map Job.enc)),.d (.sl (a0.Log.map Entry.enc))])],[(1009,126,3,v12.2.2.2.1.map Entry.enc)]⟩) h (Weak.refl _) (fun _ nx12 hn12 v12 h=>?_)
   conv=>whnf
   refine fkS h (fun h=>?_) (fun h=>?_)
   ·conv=>whnf
    refine jnS (fun w13=>⟨[(0,.l (.ptr 1014 0)),(2,.l (.d (.int .i64 v12.2.2.2.2)))],60,[⟨[(35,.l (.ptr 1014 0)),(34,.l (.d (.bool true))),(6,.l (.ptr 7 0)),(9,.l (.ptr 1014 0)),(10,.l (.d (.int .i64 w7.2.2))),(34,.l (.d (.bool (decide ((w7.1.length:Int)=(0:Int))))))],40⟩],[(7,[.nil,.nil,.nil,.nil,.nil]),(1014,[.own 2026,.d (.int .i64 a2),.d (.sl (w13.1.map Task.enc)),.d (.sl (w13.2.1.map eB)),.d (.sl (w13.2.2.1.map (eI .i64))),.d (.sl (w7.1.map Job.enc)),.d (.sl (a0.Log.map Entry.enc))])],[(2026,126,3,w13.2.2.2.map Entry.enc)]⟩) h (fun k13 hk13 h=>?_) (fun w13 h=>?_)
    ·conv=>whnf
     refine ixS (enc:=eB) h rfl (fun _=>rfl) (fun x14 h=>?_)
     conv=>whnf
     refine fkS h (fun h=>?_) (fun h=>?_)
     ·conv=>whnf
      refine⟨32,?_⟩
      conv=>whnf
      refine dcS (E:=E_ListTask) h (part_without_api_Task_w v12.1 v12.2.2.2.2) rfl (fun x15 h=>?_)
      conv=>whnf
      refine dcS (E:=E_ListBool) h (part_without_bool_w v12.2.1 v12.2.2.2.2) rfl (fun x16 h=>?_)
      conv=>whnf
      refine dcS (E:=E_ListInt) h (part_without_int_w v12.2.2.1 v12.2.2.2.2) rfl (fun x17 h=>?_)
      conv=>whnf
      refine drS (by kernel_rfl) ?_
      conv=>whnf
      refine inS (fn:=Tryz.f77) tab ⟨[(0,[0,1,2,11]),(1,[])],[],[],[]⟩ 28 [] rfl rfl rfl rfl rfl rfl ?_
      conv=>whnf
      refine lenS v12.2.2.2.1 Entry.enc rfl ?_
      conv=>whnf
      refine fkS h (fun h=>?_) (fun h=>?_)
      ·conv=>whnf
       refine⟨14,?_⟩
       conv=>whnf
       refine liS ([⟨a2,(7:Int),v12.2.2.2.2⟩]:List Entry) Entry.enc rfl rfl ?_
       conv=>whnf
       refine apS (enc:=Entry.enc) (l1:=v12.2.2.2.1) (l2:=([⟨a2,(7:Int),v12.2.2.2.2⟩]:List Entry)) h rfl rfl (fun _=>rfl) (fun h=>?_)
       conv=>whnf
       refine drS (by kernel_rfl) ?_
       conv=>whnf
       exact jeS hk13 h (Weak.refl _)
      conv=>whnf
      refine jeX hk13 h ?_
      conv=>whnf
      refine WkF.step (Weak.rekey _ 1009 2026 rfl) ?_
      conv=>whnf
      exact WkF.refl _
     conv=>whnf
     refine jeX hk13 h ?_
     conv=>whnf
     refine WkF.step (Weak.keepS _ [0,2]) ?_
     conv=>whnf
     refine WkF.step (Weak.rekey _ 1009 2026 rfl) ?_
     conv=>whnf
     exact WkF.refl _
    conv=>whnf
    refine leX hn12 h ?_
    conv=>whnf
    refine WkF.step (Weak.rekey _ 2026 1009 rfl) ?_
    conv=>whnf
    exact WkF.refl _
   conv=>whnf
   exact jeS hk11 h (Weak.refl _)
  conv=>whnf
  refine jeX hk11 h ?_
  conv=>whnf
  refine WkF.step (Weak.keepS _ [6,9,10]) ?_
  conv=>whnf
  exact WkF.refl _
 conv=>whnf
 refine inS (fn:=Tryz.f78) tab ⟨[(0,[0,2]),(1,[0,2]),(2,[2])],[],[],[]⟩ 16 [.cell 2 51] rfl rfl rfl rfl rfl rfl ?_
 conv=>whnf
 exact rt (E:=E_PartState_Int_Int) h rfl
end Go.Proofs.YtldlcdnhdedoeaaGreat
namespace Go.Proofs.YtldlcdnhdedoeaaGreat
open Go Go.VC
noncomputable def ref05_SameInts (a0:List Int) (a1:List Int):Option Bool:=
 fk (!decide ((a0.length:Int)=(a1.length:Int))) (some false) (lp (fun nx1 (v1:Int)=>fk (decide (v1<(a0.length:Int))) (ix a0 v1 fun x2=>ix a1 v1 fun x3=>fk (!decide (x2=x3)) (some false) (nx1 (wr (v1+(1:Int))))) (some true)) FU (0:Int))
theorem ref05_SameInts_w (a0:List Int) (a1:List Int) (r:Bool) (h:ref05_SameInts a0 a1=some r):Go.VC.Spec Tryz.prog 18 [.d (.sl (a0.map (eI .i64))),.d (.sl (a1.map (eI .i64)))] (fun y=>y=E_Bool r):=by
 refine Go.VC.Spec.of_xc (args:=[.d (.sl (a0.map (eI .i64))),.d (.sl (a1.map (eI .i64)))]) (fn:=Tryz.f18) tab ⟨[(0,[0,1]),(1,[0,1,10]),(2,[4]),(3,[0,1,5]),(4,[0,1,5,14]),(5,[0,1,5]),(6,[0,1,5,25]),(7,[4]),(8,[4])],[],[],[]⟩ 26 [.tmp 4] rfl rfl rfl rfl rfl rfl ?_
 conv=>whnf
 refine lenS a0 (eI .i64) rfl ?_
 conv=>whnf
 refine lenS a1 (eI .i64) rfl ?_
 conv=>whnf
 refine fkS h (fun h=>?_) (fun h=>?_)
 ·conv=>whnf
  exact rt (E:=E_Bool) h rfl
 conv=>whnf
 refine lpS (fun v1=>⟨[(0,.l (.d (.sl (a0.map (eI .i64))))),(1,.l (.d (.sl (a1.map (eI .i64))))),(5,.l (.d (.int .i64 v1)))],26,[],[],[]⟩) h (Weak.refl _) (fun _ nx1 hn1 v1 h=>?_)
 conv=>whnf
 refine lenS a0 (eI .i64) rfl ?_
 conv=>whnf
 refine fkS h (fun h=>?_) (fun h=>?_)
 ·conv=>whnf
  refine⟨8,?_⟩
  conv=>whnf
  refine ixS (enc:=(eI .i64)) h rfl (fun _=>rfl) (fun x2 h=>?_)
  conv=>whnf
  refine ixS (enc:=(eI .i64)) h rfl (fun _=>rfl) (fun x3 h=>?_)
  conv=>whnf
  refine drS (by kernel_rfl) ?_
  conv=>whnf
  refine fkS h (fun h=>?_) (fun h=>?_)
  ·conv=>whnf
   exact rt (E:=E_Bool) h rfl
  conv=>whnf
  exact leS hn1 h (Weak.refl _)
 conv=>whnf
 exact rt (E:=E_Bool) h rfl
end Go.Proofs.YtldlcdnhdedoeaaGreat
namespace Go.Proofs.YtldlcdnhdedoeaaGreat
open Go Go.VC
noncomputable def ref17_SameLog (a0:List Entry) (a1:List Entry):Option Bool:=
 fk (!decide ((a0.length:Int)=(a1.length:Int))) (some false) (lp (fun nx1 (v1:Int)=>fk (decide (v1<(a0.length:Int))) (ix a0 v1 fun x2=>ix a1 v1 fun x3=>fk (!(eqI [.i .i64 x2.At,.i .i64 x2.Kind,.i .i64 x2.Task] [.i .i64 x3.At,.i .i64 x3.Kind,.i .i64 x3.Task])) (some false) (nx1 (wr (v1+(1:Int))))) (some true)) FU (0:Int))
theorem ref17_SameLog_w (a0:List Entry) (a1:List Entry) (r:Bool) (h:ref17_SameLog a0 a1=some r):Go.VC.Spec Tryz.prog 68 [.d (.sl (a0.map Entry.enc)),.d (.sl (a1.map Entry.enc))] (fun y=>y=E_Bool r):=by
 refine Go.VC.Spec.of_xc (args:=[.d (.sl (a0.map Entry.enc)),.d (.sl (a1.map Entry.enc))]) (fn:=Tryz.f68) tab ⟨[(0,[0,1]),(1,[0,1,10]),(2,[4]),(3,[0,1,5]),(4,[0,1,5,14]),(5,[0,1,5]),(6,[0,1,5,25]),(7,[4]),(8,[4])],[],[],[]⟩ 26 [.tmp 4] rfl rfl rfl rfl rfl rfl ?_
 conv=>whnf
 refine lenS a0 Entry.enc rfl ?_
 conv=>whnf
 refine lenS a1 Entry.enc rfl ?_
 conv=>whnf
 refine fkS h (fun h=>?_) (fun h=>?_)
 ·conv=>whnf
  exact rt (E:=E_Bool) h rfl
 conv=>whnf
 refine lpS (fun v1=>⟨[(0,.l (.d (.sl (a0.map Entry.enc)))),(1,.l (.d (.sl (a1.map Entry.enc)))),(5,.l (.d (.int .i64 v1)))],26,[],[],[]⟩) h (Weak.refl _) (fun _ nx1 hn1 v1 h=>?_)
 conv=>whnf
 refine lenS a0 Entry.enc rfl ?_
 conv=>whnf
 refine fkS h (fun h=>?_) (fun h=>?_)
 ·conv=>whnf
  refine⟨8,?_⟩
  conv=>whnf
  refine ixS (enc:=Entry.enc) h rfl (fun _=>rfl) (fun x2 h=>?_)
  conv=>whnf
  refine ixS (enc:=Entry.enc) h rfl (fun _=>rfl) (fun x3 h=>?_)
  conv=>whnf
  refine drS (by kernel_rfl) ?_
  conv=>whnf
  refine fkS h (fun h=>?_) (fun h=>?_)
  ·conv=>whnf
   exact rt (E:=E_Bool) h rfl
  conv=>whnf
  exact leS hn1 h (Weak.refl _)
 conv=>whnf
 exact rt (E:=E_Bool) h rfl
end Go.Proofs.YtldlcdnhdedoeaaGreat
namespace Go.Proofs.YtldlcdnhdedoeaaGreat
open Go Go.VC
noncomputable def ref09_Right (a0:Face):Option Bool:=
 fk (decide (a0.P≥(1:Int))) (fk (decide (a0.P≤(200:Int))) (fk (decide (a0.B≥(1:Int))) (some (decide (a0.B≤a0.P))) (some false)) (some false)) (some false)
theorem ref09_Right_w (a0:Face) (r:Bool) (h:ref09_Right a0=some r):Go.VC.Spec Tryz.prog 112 [.agg (Face.enc a0)] (fun y=>y=E_Bool r):=by
 refine Go.VC.Spec.of_xc (args:=[.agg (Face.enc a0)]) (fn:=Tryz.f112) tab ⟨[(0,[1]),(1,[2])],[],[],[]⟩ 23 [.tmp 2] rfl rfl rfl rfl rfl rfl ?_
 conv=>whnf
 refine fkS h (fun h=>?_) (fun h=>?_)
 ·conv=>whnf
  refine fkS h (fun h=>?_) (fun h=>?_)
  ·conv=>whnf
   refine fkS h (fun h=>?_) (fun h=>?_)
   ·conv=>whnf
    exact rt (E:=E_Bool) h rfl
   conv=>whnf
   exact rt (E:=E_Bool) h rfl
  conv=>whnf
  exact rt (E:=E_Bool) h rfl
 conv=>whnf
 exact rt (E:=E_Bool) h rfl
end Go.Proofs.YtldlcdnhdedoeaaGreat
namespace Go.Proofs.YtldlcdnhdedoeaaGreat
open Go Go.VC
noncomputable def ref05_Right (a0:Task):Option Bool:=
 jn (fun (w1:Bool)=>fk w1 (some false) (lp (fun nx2 (v2:Int)=>fk (decide (v2<(a0.Secs.length:Int))) (ix a0.Secs v2 fun x3=>jn (fun (w4:Bool)=>fk w4 (some false) (lp (fun nx5 (v5:Int)=>fk (decide (v5<v2)) (ix a0.Secs v5 fun x6=>jn (fun (w7:Bool)=>fk w7 (some false) (lp (fun nx8 (v8:Int×Int×Int)=>fk (decide (v8.2.2<(wr (x3.At+x3.Len)))) (jn (fun (w9:Int×Int)=>nx8 (w9.1,w9.2,(wr (v8.2.2+(1:Int))))) (fun k9=>fk (decide (v8.2.2<(wr (x6.At+x6.Len)))) (k9 ((wr (v8.1+(1:Int))),v8.2.1)) (k9 (v8.1,(wr (v8.2.1+(1:Int))))))) (jn (fun (w10:Bool)=>fk w10 (some false) (nx5 (wr (v5+(1:Int))))) (fun k10=>fk (decide (v8.1>(0:Int))) (fk (decide (v8.2.1>(0:Int))) (k10 true) (k10 (decide (x6.Res=x3.Res)))) (k10 false)))) FU ((0:Int),(0:Int),x3.At))) (fun k7=>fk (decide (x3.At<x6.At)) (k7 true) (fk (decide (x3.At=x6.At)) (k7 (decide (x3.Len>x6.Len))) (k7 false)))) (nx2 (wr (v2+(1:Int))))) FU (0:Int))) (fun k4=>fk (decide (x3.Res<(0:Int))) (k4 true) (fk (decide (x3.Res>(3:Int))) (k4 true) (fk (decide (x3.At<(0:Int))) (k4 true) (fk (decide (x3.Len<(1:Int))) (k4 true) (fk (decide (x3.At>a0.C)) (k4 true) (fk (decide (x3.Len>a0.C)) (k4 true) (k4 (decide ((wr (x3.At+x3.Len))>a0.C)))))))))) (some true)) FU (0:Int))) (fun k1=>fk (decide (a0.C<(1:Int))) (k1 true) (fk (decide (a0.D<a0.C)) (k1 true) (fk (decide (a0.T<a0.D)) (k1 true) (fk (decide (a0.T>(200:Int))) (k1 true) (k1 (decide ((a0.Secs.length:Int)>(4:Int))))))))
theorem ref05_Right_w (a0:Task) (r:Bool) (h:ref05_Right a0=some r):Go.VC.Spec Tryz.prog 150 [.agg (Task.enc a0)] (fun y=>y=E_Bool r):=by
 refine Go.VC.Spec.of_xc (args:=[.agg (Task.enc a0)]) (fn:=Tryz.f150) tab ⟨[(0,[1]),(1,[1,37]),(2,[2]),(3,[1,3]),(4,[1,3,42]),(5,[1,3]),(6,[1,3,4]),(7,[1,3,4,91]),(8,[2]),(9,[1,3,4,5]),(10,[1,3,4,5,94]),(11,[1,3,4,5]),(12,[1,3,4,5,6]),(13,[1,3,4,5,6,120]),(14,[2]),(15,[1,3,4,5,6,7,8]),(16,[1,3,4,5,6,7,8,9]),(17,[1,3,4,5,6,7,8,9,129]),(18,[1,3,4,5,6,7,8,9]),(19,[1,3,4,5,6,7,8,9,138]),(20,[1,3,4,5,6,7,8,9]),(21,[1,3,4,5,6,7,8,9]),(22,[1,3,4,5,155]),(23,[2]),(24,[2])],[],[100037,100091,100120,18,100155],[]⟩ 156 [.tmp 2] rfl rfl rfl rfl rfl rfl ?_
 conv=>whnf
 refine jnS (fun w1=>⟨[(1,.l (.ptr 2 0)),(37,.l (.d (.bool w1)))],156,[],[(2,[.d (.int .i64 a0.C),.d (.int .i64 a0.D),.d (.int .i64 a0.T),.d (.sl (a0.Secs.map Sec.enc))])],[]⟩) h (fun k1 hk1 h=>?_) (fun w1 h=>?_)
 ·conv=>whnf
  refine fkS h (fun h=>?_) (fun h=>?_)
  ·conv=>whnf
   exact jeS hk1 h (Weak.refl _)
  conv=>whnf
  refine fkS h (fun h=>?_) (fun h=>?_)
  ·conv=>whnf
   exact jeS hk1 h (Weak.refl _)
  conv=>whnf
  refine fkS h (fun h=>?_) (fun h=>?_)
  ·conv=>whnf
   exact jeS hk1 h (Weak.refl _)
  conv=>whnf
  refine fkS h (fun h=>?_) (fun h=>?_)
  ·conv=>whnf
   exact jeS hk1 h (Weak.refl _)
  conv=>whnf
  refine lenS a0.Secs Sec.enc rfl ?_
  conv=>whnf
  exact jeS hk1 h (Weak.refl _)
 conv=>whnf
 refine fkS h (fun h=>?_) (fun h=>?_)
 ·conv=>whnf
  exact rt (E:=E_Bool) h rfl
 conv=>whnf
 refine lpS (fun v2=>⟨[(1,.l (.ptr 2 0)),(3,.l (.d (.int .i64 v2)))],156,[],[(2,[.d (.int .i64 a0.C),.d (.int .i64 a0.D),.d (.int .i64 a0.T),.d (.sl (a0.Secs.map Sec.enc))])],[]⟩) h (Weak.refl _) (fun _ nx2 hn2 v2 h=>?_)
 conv=>whnf
 refine lenS a0.Secs Sec.enc rfl ?_
 conv=>whnf
 refine fkS h (fun h=>?_) (fun h=>?_)
 ·conv=>whnf
  refine ixS (enc:=Sec.enc) h rfl (fun _=>rfl) (fun x3 h=>?_)
  conv=>whnf
  refine jnS (fun w4=>⟨[(1,.l (.ptr 2 0)),(3,.l (.d (.int .i64 v2))),(4,.l (.ptr 5 0)),(91,.l (.d (.bool w4)))],156,[],[(2,[.d (.int .i64 a0.C),.d (.int .i64 a0.D),.d (.int .i64 a0.T),.d (.sl (a0.Secs.map Sec.enc))]),(5,[.d (.int .i64 x3.Res),.d (.int .i64 x3.At),.d (.int .i64 x3.Len)])],[]⟩) h (fun k4 hk4 h=>?_) (fun w4 h=>?_)
  ·conv=>whnf
   refine fkS h (fun h=>?_) (fun h=>?_)
   ·conv=>whnf
    exact jeS hk4 h (Weak.refl _)
   conv=>whnf
   refine fkS h (fun h=>?_) (fun h=>?_)
   ·conv=>whnf
    exact jeS hk4 h (Weak.refl _)
   conv=>whnf
   refine fkS h (fun h=>?_) (fun h=>?_)
   ·conv=>whnf
    exact jeS hk4 h (Weak.refl _)
   conv=>whnf
   refine fkS h (fun h=>?_) (fun h=>?_)
   ·conv=>whnf
    exact jeS hk4 h (Weak.refl _)
   conv=>whnf
   refine fkS h (fun h=>?_) (fun h=>?_)
   ·conv=>whnf
    exact jeS hk4 h (Weak.refl _)
   conv=>whnf
   refine fkS h (fun h=>?_) (fun h=>?_)
   ·conv=>whnf
    exact jeS hk4 h (Weak.refl _)
   conv=>whnf
   exact jeS hk4 h (Weak.refl _)
  conv=>whnf
  refine fkS h (fun h=>?_) (fun h=>?_)
  ·conv=>whnf
   exact rt (E:=E_Bool) h rfl
  conv=>whnf
  refine lpS (fun v5=>⟨[(1,.l (.ptr 2 0)),(3,.l (.d (.int .i64 v2))),(4,.l (.ptr 5 0)),(5,.l (.d (.int .i64 v5)))],156,[],[(2,[.d (.int .i64 a0.C),.d (.int .i64 a0.D),.d (.int .i64 a0.T),.d (.sl (a0.Secs.map Sec.enc))]),(5,[.d (.int .i64 x3.Res),.d (.int .i64 x3.At),.d (.int .i64 x3.Len)])],[]⟩) h (Weak.refl _) (fun _ nx5 hn5 v5 h=>?_)
  conv=>whnf
  refine fkS h (fun h=>?_) (fun h=>?_)
  ·conv=>whnf
   refine ixS (enc:=Sec.enc) h rfl (fun _=>rfl) (fun x6 h=>?_)
   conv=>whnf
   refine jnS (fun w7=>⟨[(1,.l (.ptr 2 0)),(3,.l (.d (.int .i64 v2))),(4,.l (.ptr 5 0)),(5,.l (.d (.int .i64 v5))),(6,.l (.ptr 7 0)),(120,.l (.d (.bool w7)))],156,[],[(2,[.d (.int .i64 a0.C),.d (.int .i64 a0.D),.d (.int .i64 a0.T),.d (.sl (a0.Secs.map Sec.enc))]),(5,[.d (.int .i64 x3.Res),.d (.int .i64 x3.At),.d (.int .i64 x3.Len)]),(7,[.d (.int .i64 x6.Res),.d (.int .i64 x6.At),.d (.int .i64 x6.Len)])],[]⟩) h (fun k7 hk7 h=>?_) (fun w7 h=>?_)
   ·conv=>whnf
    refine fkS h (fun h=>?_) (fun h=>?_)
    ·conv=>whnf
     exact jeS hk7 h (Weak.refl _)
    conv=>whnf
    refine fkS h (fun h=>?_) (fun h=>?_)
    ·conv=>whnf
     exact jeS hk7 h (Weak.refl _)
    conv=>whnf
    exact jeS hk7 h (Weak.refl _)
   conv=>whnf
   refine fkS h (fun h=>?_) (fun h=>?_)
   ·conv=>whnf
    exact rt (E:=E_Bool) h rfl
   conv=>whnf
   refine lpS (fun v8=>⟨[(1,.l (.ptr 2 0)),(3,.l (.d (.int .i64 v2))),(4,.l (.ptr 5 0)),(5,.l (.d (.int .i64 v5))),(6,.l (.ptr 7 0)),(7,.l (.d (.int .i64 v8.1))),(8,.l (.d (.int .i64 v8.2.1))),(9,.l (.d (.int .i64 v8.2.2)))],156,[],[(2,[.d (.int .i64 a0.C),.d (.int .i64 a0.D),.d (.int .i64 a0.T),.d (.sl (a0.Secs.map Sec.enc))]),(5,[.d (.int .i64 x3.Res),.d (.int .i64 x3.At),.d (.int .i64 x3.Len)]),(7,[.d (.int .i64 x6.Res),.d (.int .i64 x6.At),.d (.int .i64 x6.Len)])],[]⟩) h (Weak.refl _) (fun _ nx8 hn8 v8 h=>?_)
   conv=>whnf
   refine fkS h (fun h=>?_) (fun h=>?_)
   ·conv=>whnf
    refine jnS (fun w9=>⟨[(1,.l (.ptr 2 0)),(3,.l (.d (.int .i64 v2))),(4,.l (.ptr 5 0)),(5,.l (.d (.int .i64 v5))),(6,.l (.ptr 7 0)),(7,.l (.d (.int .i64 w9.1))),(8,.l (.d (.int .i64 w9.2))),(9,.l (.d (.int .i64 v8.2.2)))],156,[],[(2,[.d (.int .i64 a0.C),.d (.int .i64 a0.D),.d (.int .i64 a0.T),.d (.sl (a0.Secs.map Sec.enc))]),(5,[.d (.int .i64 x3.Res),.d (.int .i64 x3.At),.d (.int .i64 x3.Len)]),(7,[.d (.int .i64 x6.Res),.d (.int .i64 x6.At),.d (.int .i64 x6.Len)])],[]⟩) h (fun k9 hk9 h=>?_) (fun w9 h=>?_)
    ·conv=>whnf
     refine fkS h (fun h=>?_) (fun h=>?_)
     ·conv=>whnf
      exact jeS hk9 h (Weak.refl _)
     conv=>whnf
     exact jeS hk9 h (Weak.refl _)
    conv=>whnf
    exact leS hn8 h (Weak.refl _)
   conv=>whnf
   refine jnS (fun w10=>⟨[(1,.l (.ptr 2 0)),(3,.l (.d (.int .i64 v2))),(4,.l (.ptr 5 0)),(5,.l (.d (.int .i64 v5))),(155,.l (.d (.bool w10)))],156,[],[(2,[.d (.int .i64 a0.C),.d (.int .i64 a0.D),.d (.int .i64 a0.T),.d (.sl (a0.Secs.map Sec.enc))]),(5,[.d (.int .i64 x3.Res),.d (.int .i64 x3.At),.d (.int .i64 x3.Len)])],[]⟩) h (fun k10 hk10 h=>?_) (fun w10 h=>?_)
   ·conv=>whnf
    refine fkS h (fun h=>?_) (fun h=>?_)
    ·conv=>whnf
     refine fkS h (fun h=>?_) (fun h=>?_)
     ·conv=>whnf
      exact jeS hk10 h (Weak.refl _)
     conv=>whnf
     exact jeS hk10 h (Weak.refl _)
    conv=>whnf
    exact jeS hk10 h (Weak.refl _)
   conv=>whnf
   refine fkS h (fun h=>?_) (fun h=>?_)
   ·conv=>whnf
    exact rt (E:=E_Bool) h rfl
   conv=>whnf
   exact leS hn5 h (Weak.refl _)
  conv=>whnf
  exact leS hn2 h (Weak.refl _)
 conv=>whnf
 exact rt (E:=E_Bool) h rfl
end Go.Proofs.YtldlcdnhdedoeaaGreat
namespace Go.Proofs.YtldlcdnhdedoeaaGreat
open Go Go.VC
noncomputable def ref05_All (a0:List Task):Option Bool:=
 lp (fun nx1 (v1:Int×Int)=>fk (decide (v1.2<(a0.length:Int))) (jn (fun (w2:Int)=>nx1 (w2,(wr (v1.2+(1:Int))))) (fun k2=>ix a0 v1.2 fun x3=>bnd (ref05_Right x3) fun x4=>fk x4 (k2 (wr (v1.1+(1:Int)))) (k2 v1.1))) (fk (decide (v1.1=(a0.length:Int))) (some (decide (v1.1≤(8:Int)))) (some false))) FU ((0:Int),(0:Int))
theorem ref05_All_w (a0:List Task) (r:Bool) (h:ref05_All a0=some r):Go.VC.Spec Tryz.prog 111 [.d (.sl (a0.map Task.enc))] (fun y=>y=E_Bool r):=by
 refine Go.VC.Spec.of_xc (args:=[.d (.sl (a0.map Task.enc))]) (fn:=Tryz.f111) tab ⟨[(0,[0]),(1,[0,3]),(2,[0,3,4]),(3,[0,3,4,8]),(4,[0,3,4]),(5,[0,3,4,15]),(6,[0,3,4]),(7,[2])],[],[4],[]⟩ 26 [.tmp 2] rfl rfl rfl rfl rfl rfl ?_
 conv=>whnf
 refine lpS (fun v1=>⟨[(0,.l (.d (.sl (a0.map Task.enc)))),(3,.l (.d (.int .i64 v1.1))),(4,.l (.d (.int .i64 v1.2)))],26,[],[],[]⟩) h (Weak.refl _) (fun _ nx1 hn1 v1 h=>?_)
 conv=>whnf
 refine lenS a0 Task.enc rfl ?_
 conv=>whnf
 refine fkS h (fun h=>?_) (fun h=>?_)
 ·conv=>whnf
  refine jnS (fun w2=>⟨[(0,.l (.d (.sl (a0.map Task.enc)))),(3,.l (.d (.int .i64 w2))),(4,.l (.d (.int .i64 v1.2)))],26,[],[],[]⟩) h (fun k2 hk2 h=>?_) (fun w2 h=>?_)
  ·conv=>whnf
   refine ixS (enc:=Task.enc) h rfl (fun _=>rfl) (fun x3 h=>?_)
   conv=>whnf
   refine caS (E:=E_Bool) h (ref05_Right_w x3) rfl (fun _=>rfl) (fun x4 h=>?_)
   conv=>whnf
   refine fkS h (fun h=>?_) (fun h=>?_)
   ·conv=>whnf
    exact jeS hk2 h (Weak.refl _)
   conv=>whnf
   refine jeX hk2 h ?_
   conv=>whnf
   refine WkF.step (Weak.keepS _ [0,3,4]) ?_
   conv=>whnf
   exact WkF.refl _
  conv=>whnf
  exact leS hn1 h (Weak.refl _)
 conv=>whnf
 refine lenS a0 Task.enc rfl ?_
 conv=>whnf
 refine fkS h (fun h=>?_) (fun h=>?_)
 ·conv=>whnf
  exact rt (E:=E_Bool) h rfl
 conv=>whnf
 exact rt (E:=E_Bool) h rfl
end Go.Proofs.YtldlcdnhdedoeaaGreat
namespace Go.Proofs.YtldlcdnhdedoeaaGreat
open Go Go.VC
noncomputable def ref10_Cycle (a0:List Task) (a1:Face):Option (Int×Int×Int):=
 jn (fun (w1:Bool)=>fk w1 (some ((0:Int),(0:Int),(1:Int))) (lp (fun nx4 (v4:Int×Int)=>fk (decide (v4.2<(a0.length:Int))) (jn (fun (w5:Int)=>nx4 (w5,(wr (v4.2+(1:Int))))) (fun k5=>ix a0 v4.2 fun x6=>fk (decide (x6.D>v4.1)) (ix a0 v4.2 fun x7=>k5 x7.D) (k5 v4.1))) (lp (fun nx8 (v8:Int)=>fk (decide ((wr (v8+v4.1))≤(3000:Int))) (lp (fun nx9 (v9:Bool×Int)=>fk (decide (v9.2<(a0.length:Int))) (jn (fun (w10:Bool)=>nx9 (w10,(wr (v9.2+(1:Int))))) (fun k10=>fk v9.1 (ix a0 v9.2 fun x11=>ck (decide (x11.T≠0)) (k10 (decide ((v8.tmod x11.T)=(0:Int))))) (k10 false))) (fk v9.1 (some (v8,(wr (v8+v4.1)),(0:Int))) (nx8 (wr (v8+a1.P))))) FU (true,(0:Int))) (some ((0:Int),(0:Int),(5:Int)))) FU a1.P)) FU ((wr ((2:Int)*a1.P)),(0:Int)))) (fun k1=>bnd (ref05_All a0) fun x2=>fk (!x2) (k1 true) (bnd (ref09_Right a1) fun x3=>k1 (!x3)))
theorem ref10_Cycle_w (a0:List Task) (a1:Face) (r:Int×Int×Int) (h:ref10_Cycle a0 a1=some r):Go.VC.Spec Tryz.prog 53 [.d (.sl (a0.map Task.enc)),.agg (Face.enc a1)] (fun y=>y=E_Int_Int_Int r):=by
 refine Go.VC.Spec.of_xc (args:=[.d (.sl (a0.map Task.enc)),.agg (Face.enc a1)]) (fn:=Tryz.f53) tab ⟨[(0,[0,3]),(1,[0,3,19]),(2,[4,5,6]),(3,[0,3,7]),(4,[0,3,7,8]),(5,[0,3,7,8,26]),(6,[0,3,7,8]),(7,[0,3,7,8,35]),(8,[0,3,7,8]),(9,[0,3,7,9]),(10,[0,3,7,9,46]),(11,[0,3,7,9]),(12,[0,3,7,9,10]),(13,[0,3,7,9,10,11]),(14,[0,3,7,9,10,11,54]),(15,[0,3,7,9,10,11]),(16,[0,3,7,9,10,11]),(17,[0,3,7,9,68]),(18,[4,5,6]),(19,[4,5,6])],[],[100019,6,15],[]⟩ 73 [.tmp 4,.tmp 5,.tmp 6] rfl rfl rfl rfl rfl rfl ?_
 conv=>whnf
 refine jnS (fun w1=>⟨[(0,.l (.d (.sl (a0.map Task.enc)))),(3,.l (.ptr 4 0)),(19,.l (.d (.bool w1)))],73,[],[(4,[.d (.int .i64 a1.P),.d (.int .i64 a1.B)])],[]⟩) h (fun k1 hk1 h=>?_) (fun w1 h=>?_)
 ·conv=>whnf
  refine caS (E:=E_Bool) h (ref05_All_w a0) rfl (fun _=>rfl) (fun x2 h=>?_)
  conv=>whnf
  refine fkS h (fun h=>?_) (fun h=>?_)
  ·conv=>whnf
   exact jeS hk1 h (Weak.refl _)
  conv=>whnf
  refine caS (E:=E_Bool) h (ref09_Right_w a1) rfl (fun _=>rfl) (fun x3 h=>?_)
  conv=>whnf
  exact jeS hk1 h (Weak.refl _)
 conv=>whnf
 refine fkS h (fun h=>?_) (fun h=>?_)
 ·conv=>whnf
  exact rt (E:=E_Int_Int_Int) h rfl
 conv=>whnf
 refine lpS (fun v4=>⟨[(0,.l (.d (.sl (a0.map Task.enc)))),(3,.l (.ptr 4 0)),(7,.l (.d (.int .i64 v4.1))),(8,.l (.d (.int .i64 v4.2)))],73,[],[(4,[.d (.int .i64 a1.P),.d (.int .i64 a1.B)])],[]⟩) h (Weak.refl _) (fun _ nx4 hn4 v4 h=>?_)
 conv=>whnf
 refine lenS a0 Task.enc rfl ?_
 conv=>whnf
 refine fkS h (fun h=>?_) (fun h=>?_)
 ·conv=>whnf
  refine jnS (fun w5=>⟨[(0,.l (.d (.sl (a0.map Task.enc)))),(3,.l (.ptr 4 0)),(7,.l (.d (.int .i64 w5))),(8,.l (.d (.int .i64 v4.2)))],73,[],[(4,[.d (.int .i64 a1.P),.d (.int .i64 a1.B)])],[]⟩) h (fun k5 hk5 h=>?_) (fun w5 h=>?_)
  ·conv=>whnf
   refine ixS (enc:=Task.enc) h rfl (fun _=>rfl) (fun x6 h=>?_)
   conv=>whnf
   refine fkS h (fun h=>?_) (fun h=>?_)
   ·conv=>whnf
    refine ixS (enc:=Task.enc) h rfl (fun _=>rfl) (fun x7 h=>?_)
    conv=>whnf
    exact jeS hk5 h (Weak.refl _)
   conv=>whnf
   refine jeX hk5 h ?_
   conv=>whnf
   refine WkF.step (Weak.keepS _ [0,3,7,8]) ?_
   conv=>whnf
   exact WkF.refl _
  conv=>whnf
  exact leS hn4 h (Weak.refl _)
 conv=>whnf
 refine lpS (fun v8=>⟨[(0,.l (.d (.sl (a0.map Task.enc)))),(3,.l (.ptr 4 0)),(7,.l (.d (.int .i64 v4.1))),(9,.l (.d (.int .i64 v8)))],73,[],[(4,[.d (.int .i64 a1.P),.d (.int .i64 a1.B)])],[]⟩) h (Weak.refl _) (fun _ nx8 hn8 v8 h=>?_)
 conv=>whnf
 refine fkS h (fun h=>?_) (fun h=>?_)
 ·conv=>whnf
  refine lpS (fun v9=>⟨[(0,.l (.d (.sl (a0.map Task.enc)))),(3,.l (.ptr 4 0)),(7,.l (.d (.int .i64 v4.1))),(9,.l (.d (.int .i64 v8))),(10,.l (.d (.bool v9.1))),(11,.l (.d (.int .i64 v9.2)))],73,[],[(4,[.d (.int .i64 a1.P),.d (.int .i64 a1.B)])],[]⟩) h (Weak.refl _) (fun _ nx9 hn9 v9 h=>?_)
  conv=>whnf
  refine lenS a0 Task.enc rfl ?_
  conv=>whnf
  refine fkS h (fun h=>?_) (fun h=>?_)
  ·conv=>whnf
   refine jnS (fun w10=>⟨[(0,.l (.d (.sl (a0.map Task.enc)))),(3,.l (.ptr 4 0)),(7,.l (.d (.int .i64 v4.1))),(9,.l (.d (.int .i64 v8))),(10,.l (.d (.bool w10))),(11,.l (.d (.int .i64 v9.2)))],73,[],[(4,[.d (.int .i64 a1.P),.d (.int .i64 a1.B)])],[]⟩) h (fun k10 hk10 h=>?_) (fun w10 h=>?_)
   ·conv=>whnf
    refine fkS h (fun h=>?_) (fun h=>?_)
    ·conv=>whnf
     refine ixS (enc:=Task.enc) h rfl (fun _=>rfl) (fun x11 h=>?_)
     conv=>whnf
     refine dvS h (fun h=>?_)
     conv=>whnf
     exact jeS hk10 h (Weak.refl _)
    conv=>whnf
    exact jeS hk10 h (Weak.refl _)
   conv=>whnf
   exact leS hn9 h (Weak.refl _)
  conv=>whnf
  refine fkS h (fun h=>?_) (fun h=>?_)
  ·conv=>whnf
   exact rt (E:=E_Int_Int_Int) h rfl
  conv=>whnf
  exact leS hn8 h (Weak.refl _)
 conv=>whnf
 exact rt (E:=E_Int_Int_Int) h rfl
end Go.Proofs.YtldlcdnhdedoeaaGreat
namespace Go.Proofs.YtldlcdnhdedoeaaGreat
open Go Go.VC
noncomputable def law05_Great (a0:List Task):Option Bool:=
 lp (fun nx1 (v1:Int)=>fk (decide (v1<(a0.length:Int))) (ix a0 v1 fun x2=>fk (decide ((x2.Secs.length:Int)>(20:Int))) (some true) (nx1 (wr (v1+(1:Int))))) (some (decide ((a0.length:Int)>(20:Int))))) FU (0:Int)
theorem law05_Great_w (a0:List Task) (r:Bool) (h:law05_Great a0=some r):Go.VC.Spec Tryz.prog 109 [.d (.sl (a0.map Task.enc))] (fun y=>y=E_Bool r):=by
 refine Go.VC.Spec.of_xc (args:=[.d (.sl (a0.map Task.enc))]) (fn:=Tryz.f109) tab ⟨[(0,[0]),(1,[0,3]),(2,[0,3,7]),(3,[0,3]),(4,[0,3,16]),(5,[2]),(6,[2])],[],[],[]⟩ 20 [.tmp 2] rfl rfl rfl rfl rfl rfl ?_
 conv=>whnf
 refine lpS (fun v1=>⟨[(0,.l (.d (.sl (a0.map Task.enc)))),(3,.l (.d (.int .i64 v1)))],20,[],[],[]⟩) h (Weak.refl _) (fun _ nx1 hn1 v1 h=>?_)
 conv=>whnf
 refine lenS a0 Task.enc rfl ?_
 conv=>whnf
 refine fkS h (fun h=>?_) (fun h=>?_)
 ·conv=>whnf
  refine ixS (enc:=Task.enc) h rfl (fun _=>rfl) (fun x2 h=>?_)
  conv=>whnf
  refine lenS x2.Secs Sec.enc rfl ?_
  conv=>whnf
  refine fkS h (fun h=>?_) (fun h=>?_)
  ·conv=>whnf
   exact rt (E:=E_Bool) h rfl
  conv=>whnf
  exact leS hn1 h (Weak.refl _)
 conv=>whnf
 refine lenS a0 Task.enc rfl ?_
 conv=>whnf
 exact rt (E:=E_Bool) h rfl
end Go.Proofs.YtldlcdnhdedoeaaGreat
