/- Part 1 of what follows is proved here: the layer over the walk. -/
import Derived.WalkKit
import Derived.Deep.AppendLies
import Derived.Deep.MidRow
import Derived.Deep.Upon
import Derived.Below
import Derived.ArgAppend
import Derived.Laws.IdiomCopy
import Derived.Great.FillDense
import Derived.Great.BuildSlice
set_option linter.unusedVariables false
set_option linter.unusedSimpArgs false
namespace Go.VC

/-- Data that a value stands for: nothing of memory. -/
inductive D where
  | int (k:IntKind) (n:Int)
  | bool (b:Bool)
  | str (s:ByteArray)
  | sl (rows:List (List D))
  | fn (f:FuncId) (caps:List (List D))
  | nilfn
  | mp (rows:List (List D))

def All2 {α β:Type} (R:α→β→Prop) (xs:List α) (ys:List β):Prop:=
  xs.length=ys.length∧∀(i:Nat) (x:α) (y:β),xs[i]?=some x→ys[i]?=some y→R x y

theorem All2.mono {α β:Type} {R R':α→β→Prop} {xs:List α} {ys:List β} (h:All2 R xs ys) (hr:∀x y,R x y→R' x y):All2 R' xs ys:=
  ⟨h.1,fun i x y hx hy=>hr x y (h.2 i x y hx hy)⟩

theorem All2.get {α β:Type} {R:α→β→Prop} {xs:List α} {ys:List β} (h:All2 R xs ys) {i:Nat} {x:α} (hx:xs[i]?=some x):∃y,ys[i]?=some y∧R x y:=by
  have hi:i<ys.length:=by rw[←h.1]; exact (List.getElem?_eq_some_iff.1 hx).1
  exact⟨ys[i],List.getElem?_eq_getElem hi,h.2 i x _ hx (List.getElem?_eq_getElem hi)⟩

theorem All2.nil {α β:Type} {R:α→β→Prop}:All2 R ([]:List α) ([]:List β):=⟨rfl,fun i x y h=>by simp at h⟩

theorem All2.cons {α β:Type} {R:α→β→Prop} {x:α} {y:β} {xs:List α} {ys:List β} (h:R x y) (hs:All2 R xs ys):All2 R (x::xs) (y::ys):=by
  refine⟨by simp[hs.1],fun i a b ha hb=>?_⟩
  cases i with
  | zero=>simp at ha hb; subst ha; subst hb; exact h
  | succ i=>simp at ha hb; exact hs.2 i a b ha hb

theorem All2.cons_inv {α β:Type} {R:α→β→Prop} {x:α} {xs:List α} {ys:List β} (h:All2 R (x::xs) ys):∃y ys',ys=y::ys'∧R x y∧All2 R xs ys':=by
  cases ys with
  | nil=>have:=h.1; simp at this
  | cons y ys=>exact⟨y,ys,rfl,h.2 0 x y rfl rfl,by have:=h.1; simpa using this,fun i a b ha hb=>h.2 (i+1) a b (by simpa using ha) (by simpa using hb)⟩

theorem All2.nil_inv {α β:Type} {R:α→β→Prop} {ys:List β} (h:All2 R ([]:List α) ys):ys=[]:=by
  have:=h.1
  cases ys <;> simp_all

theorem All2.append {α β:Type} {R:α→β→Prop} {xs xs':List α} {ys ys':List β} (h:All2 R xs ys) (h':All2 R xs' ys'):All2 R (xs++xs') (ys++ys'):=by
  refine⟨by simp[h.1,h'.1],fun i x y hx hy=>?_⟩
  by_cases hi:i<xs.length
  · rw[List.getElem?_append_left hi] at hx
    rw[List.getElem?_append_left (by rw[←h.1]; exact hi)] at hy
    exact h.2 i x y hx hy
  · rw[List.getElem?_append_right (by omega)] at hx
    rw[List.getElem?_append_right (by rw[←h.1]; omega),←h.1] at hy
    exact h'.2 _ x y hx hy

theorem All2.drop {α β:Type} {R:α→β→Prop} {xs:List α} {ys:List β} (h:All2 R xs ys) (n:Nat):All2 R (xs.drop n) (ys.drop n):=
  ⟨by simp[h.1],fun i x y hx hy=>h.2 (n+i) x y (by simpa using hx) (by simpa using hy)⟩

theorem All2.take {α β:Type} {R:α→β→Prop} {xs:List α} {ys:List β} (h:All2 R xs ys) (n:Nat):All2 R (xs.take n) (ys.take n):=by
  refine⟨by simp[h.1],fun i x y hx hy=>?_⟩
  rw[List.getElem?_take] at hx hy
  split at hx
  · rename_i hi; simp only[hi,if_true] at hy; exact h.2 i x y hx hy
  · cases hx

theorem All2.map_left {α α' β:Type} {R:α→β→Prop} {R':α'→β→Prop} {xs:List α} {ys:List β} (f:α→α') (h:All2 R xs ys) (hr:∀x y,R x y→R' (f x) y):All2 R' (xs.map f) ys:=by
  refine⟨by simp[h.1],fun i x y hx hy=>?_⟩
  rw[List.getElem?_map] at hx
  obtain⟨a,ha,rfl⟩:=Option.map_eq_some_iff.1 hx
  exact hr _ _ (h.2 i a y ha hy)

/-- What a value must be, and what memory must hold (all of it in blocks of p), for it to stand for data. -/
inductive RepD (w:World) (p:Nat→Prop):D→Value→Prop
  | int (k:IntKind) (n:Int):RepD w p (.int k n) (.int k n)
  | bool (b:Bool):RepD w p (.bool b) (.bool b)
  | str (s:ByteArray):RepD w p (.str s) (.string s)
  | nilfn:RepD w p .nilfn .nilFunc
  | sl (rows:List (List D)) (sz:Nat) (A:Option Addr) (cap:Nat) (u:Nat→Nat→Value)
      (hlen:rows.length≤cap) (hcap:cap≤maxLen) (hnone:A=none→cap=0)
      (hA:∀ad,A=some ad→rows≠[]→p ad.block) (hrow:∀r∈rows,r.length=sz)
      (hc:∀(ad:Addr) (i j:Nat) (r:List D) (x:D),A=some ad→rows[i]?=some r→r[j]?=some x→w.cell? (ad.add (i*sz+j))=some (u i j))
      (hr:∀(i j:Nat) (r:List D) (x:D),rows[i]?=some r→r[j]?=some x→RepD w p x (u i j)):RepD w p (.sl rows) (.slice A rows.length cap)
  | fn (f:FuncId) (caps:List (List D)) (bs:List Addr) (u:Nat→Nat→Value) (hb:bs.length=caps.length) (hp:∀b∈bs,p b.block)
      (hc:∀(i j:Nat) (b:Addr) (cs:List D) (x:D),bs[i]?=some b→caps[i]?=some cs→cs[j]?=some x→w.cell? (b.add j)=some (u i j))
      (hr:∀(i j:Nat) (cs:List D) (x:D),caps[i]?=some cs→cs[j]?=some x→RepD w p x (u i j)) :
      RepD w p (.fn f caps) (.func (.func f) #[] (bs.map fun b=>Value.pointer (some b)).toArray)
  | mp (rows:List (List D)) (g:Nat) (es:Array MapEntry) (c:Nat) (ks vs:Nat→Value) (hp:p g) (hg:w.heap[g]?=some (.map es c)) (hsz:es.size=rows.length)
      (hrow:∀r∈rows,∃x y,r=[x,y]) (he:∀(i:Nat) (e:MapEntry),es[i]?=some e→e.key=ks i∧e.val=vs i)
      (hk:∀(i:Nat) (x y:D),rows[i]?=some [x,y]→RepD w p x (ks i)) (hv:∀(i:Nat) (x y:D),rows[i]?=some [x,y]→RepD w p y (vs i)):RepD w p (.mp rows) (.map (some g))

theorem RepD.mono {w w':World} {p p':Nat→Prop} {x:D} {v:Value} (h:RepD w p x v) (hw:∀b,p b→w'.heap[b]?=w.heap[b]?) (hp:∀b,p b→p' b):RepD w' p' x v:=by
  induction h with
  | int k n=>exact .int k n
  | bool b=>exact .bool b
  | str s=>exact .str s
  | nilfn=>exact .nilfn
  | sl rows sz A cap u hlen hcap hnone hA hrow hc hr ih=>
    exact .sl rows sz A cap u hlen hcap hnone (fun ad e hn=>hp _ (hA ad e hn)) hrow (fun ad i j r x e h1 h2=>by
      rw[World.cell?_of_block (w:=w)]
      · exact hc ad i j r x e h1 h2
      · have:(ad.add (i*sz+j)).block=ad.block:=by unfold Addr.add; split <;> rfl
        rw[this]; exact hw _ (hA ad e (fun e'=>by subst e'; simp at h1))) (fun i j r x h1 h2=>ih i j r x h1 h2)
  | fn f caps bs u hb hpb hc hr ih=>
    exact .fn f caps bs u hb (fun b h=>hp _ (hpb b h)) (fun i j b cs x h0 h1 h2=>by
      rw[World.cell?_of_block (w:=w)]
      · exact hc i j b cs x h0 h1 h2
      · have:(b.add j).block=b.block:=by unfold Addr.add; split <;> rfl
        rw[this]; exact hw _ (hpb b (List.mem_of_getElem? h0))) (fun i j cs x h1 h2=>ih i j cs x h1 h2)
  | mp rows g es c ks vs hpg hg hsz hrow he hk hv ihk ihv=>exact .mp rows g es c ks vs (hp _ hpg) (by rw[hw _ hpg]; exact hg) hsz hrow he (fun i x y h=>ihk i x y h) (fun i x y h=>ihv i x y h)

theorem RepD.oneCell {w:World} {p:Nat→Prop} {x:D} {v:Value} (h:RepD w p x v):v.oneCell'=true:=by
  cases h <;> rfl

/-- Cells in a row from an address on. -/
def CellsD (w:World) (p:Nat→Prop) (cs:List D) (ad:Addr):Prop:=
  p ad.block∧∀(j:Nat) (x:D),cs[j]?=some x→∃u,w.cell? (ad.add j)=some u∧RepD w p x u

theorem add_block (a:Addr) (n:Nat):(a.add n).block=a.block:=by unfold Addr.add; split <;> rfl
theorem add_add (a:Addr) (n m:Nat):(a.add n).add m=a.add (n+m):=by
  unfold Addr.add
  by_cases h1:n=0 <;> by_cases h2:m=0 <;> simp[h1,h2,Nat.add_assoc]

theorem CellsD.mono {w w':World} {p p':Nat→Prop} {cs:List D} {ad:Addr} (h:CellsD w p cs ad) (hw:∀b,p b→w'.heap[b]?=w.heap[b]?) (hp:∀b,p b→p' b):CellsD w' p' cs ad:=
  ⟨hp _ h.1,fun j x hx=>let ⟨u,hu,hr⟩:=h.2 j x hx; ⟨u,by rw[World.cell?_of_block (w:=w)]; exact hu; rw[add_block]; exact hw _ h.1,hr.mono hw hp⟩⟩

/-- A captured variable: a box of the call's own, or one that does not change any more. -/
inductive Cap where
  | k (key:Nat)
  | c (cells:List D)

/-- One cell's worth. -/
inductive LV where
  | unk
  | d (x:D)
  | nil
  | nilptr
  | und
  | ptr (key off:Nat)
  | dptr (cells:List D) (off:Nat)
  | own (key:Nat)
  | eptr (key i sz off:Nat)
  | vw (key sz lo hi:Nat) (full:Bool)
  | func (f:FuncId) (caps:List Cap)
  | mfn (f:FuncId) (key:Nat)
  | bsl (key n sz:Nat)
  | raw (v:Value)

inductive AV where
  | l (x:LV)
  | agg (cs:List LV)
  | tup (cs:List AV)

def RepCap (σ:Nat→Value) (w:World) (p:Nat→Prop):Cap→Value→Prop
  | .k key,v=>v=σ key∧∃b,σ key=.pointer (some ⟨b,0,none⟩)
  | .c cells,v=>∃b,v=.pointer (some b)∧CellsD w p cells b

/-- 's[lo:hi]' of an own array; full: 's[lo:hi:hi]'. -/
def viewOf (v:Value) (sz lo hi:Nat) (full:Bool):Value:=
  match v with
  | .slice a _ cap=>.slice (if (if full then hi else cap)=lo then a else a.map (·.add (lo*sz))) (hi-lo) ((if full then hi else cap)-lo)
  | v=>v

def RepL (σ:Nat→Value) (w:World) (p:Nat→Prop):LV→Value→Prop
  | .unk,_=>True
  | .d x,v=>RepD w p x v
  | .nil,v=>v=.slice none 0 0
  | .nilptr,v=>v=.pointer none
  | .und,v=>v=undef
  | .ptr key off,v=>∃b,σ key=.pointer (some ⟨b,0,none⟩)∧v=.pointer (some ⟨b,off,none⟩)
  | .dptr cells off,v=>∃ad:Addr,v=.pointer (some (ad.add off))∧CellsD w p cells ad
  | .own key,v=>v=σ key∧∃a n c,σ key=.slice a n c
  | .eptr key i sz off,v=>∃b n c,σ key=.slice (some ⟨b,0,none⟩) n c∧v=.pointer (some ⟨b,i*sz+off,none⟩)
  | .vw key sz lo hi full,v=>∃a n c,σ key=.slice a n c∧lo≤hi∧hi≤n∧v=viewOf (σ key) sz lo hi full
  | .func f caps,v=>∃vs:List Value,v=.func (.func f) #[] vs.toArray∧All2 (RepCap σ w p) caps vs
  | .raw u,v=>v=u
  | .mfn f key,v=>v=.func (.func f) #[σ key] #[]∧∃b,σ key=.pointer (some ⟨b,0,none⟩)
  | .bsl key n _,v=>n≤maxLen∧∃b,σ key=.pointer (some ⟨b,0,none⟩)∧v=.slice (some ⟨b,0,none⟩) n n

def RepV1 (σ:Nat→Value) (w:World) (p:Nat→Prop):AV→Value→Prop
  | .l x,v=>RepL σ w p x v
  | .agg cs,v=>∃vs:List Value,v=.agg vs.toArray∧All2 (RepL σ w p) cs vs
  | .tup _,_=>False

def RepV (σ:Nat→Value) (w:World) (p:Nat→Prop):AV→Value→Prop
  | .tup cs,v=>∃vs:List Value,v=.tuple vs.toArray∧All2 (RepV1 σ w p) cs vs
  | x,v=>RepV1 σ w p x v

def LV.ok:LV→Bool
  | .unk=>false
  | .und=>false
  | .raw _=>false
  | _=>true

theorem RepL.oneCell {σ:Nat→Value} {w:World} {p:Nat→Prop} {x:LV} {v:Value} (h:RepL σ w p x v) (ho:x.ok=true):v.oneCell'=true:=by
  cases x with
  | unk=>cases ho
  | und=>cases ho
  | d x=>exact RepD.oneCell h
  | nil=>simp only[RepL] at h; subst h; rfl
  | nilptr=>simp only[RepL] at h; subst h; rfl
  | ptr key off=>obtain⟨b,_,rfl⟩:=h; rfl
  | dptr cells off=>obtain⟨ad,rfl,_⟩:=h; rfl
  | own key=>obtain⟨rfl,a,n,c,e⟩:=h; rw[e]; rfl
  | eptr key i sz off=>obtain⟨b,n,c,_,rfl⟩:=h; rfl
  | vw key sz lo hi full=>obtain⟨a,n,c,e,_,_,rfl⟩:=h; rw[e]; rfl
  | func f caps=>obtain⟨vs,rfl,_⟩:=h; rfl
  | mfn f key=>obtain⟨rfl,_⟩:=h; rfl
  | bsl key n sz=>obtain⟨_,b,_,rfl⟩:=h; rfl
  | raw u=>cases ho

end Go.VC
namespace Go.VC
/-! Rows of the walk's own, whose block may be marked behind its cells (as '[]byte' of a string marks it). -/
def fzOut (fz:Nat×Nat) (m:Nat):Prop:=fz=(0,0)∨m≤fz.1
theorem fzOut_zero (m:Nat):fzOut (0,0) m:=.inl rfl
theorem fzOut_not {fz:Nat×Nat} {m o:Nat} (h:fzOut fz m) (ho:o<m):(decide (fz.1≤o) && decide (o<fz.2))=false:=by
  rcases h with rfl | h
  · simp
  · rw[decide_eq_false (by omega)]; rfl
end Go.VC
namespace Go
open Go.VC
def World.rowM (w:World) (base:Nat) (e:TypeId) (size:Nat) (v:Value) (n:Nat) (xs:List Value):Prop:=
  xs.length=n*size ∧
  ((v=.slice none 0 0∧n=0) ∨
   ∃g cap cur,v=.slice (some ⟨g,0,none⟩) n cap∧base≤g∧(∃fz,w.heap[g]?=some (.cells cur e fz)∧fzOut fz cur.size)∧n≤cap∧cap≤maxLen∧cur.size=cap*size∧cur.toList.take (n*size)=xs)
variable {w:World} {base:Nat} {e:TypeId} {size:Nat} {v:Value} {n:Nat} {xs:List Value}
theorem World.ownsRow.m (h:w.ownsRow base e size v n xs):w.rowM base e size v n xs:=
  ⟨h.1,h.2.imp id fun ⟨g,cap,cur,e1,hb,hg,r⟩=>⟨g,cap,cur,e1,hb,⟨_,hg,fzOut_zero _⟩,r⟩⟩
theorem World.rowM_nil (w:World) (base:Nat) (e:TypeId) (size:Nat):w.rowM base e size (.slice none 0 0) 0 []:=(World.ownsRow_nil w base e size).m
theorem World.rowM.cells (h:w.rowM base e size v n xs) {g:Nat} (hg:v.ownBlock=some g):∀j u,xs[j]?=some u→w.cell? ((⟨g,0,none⟩:Addr).add j)=some u:=by
  intro j u hu
  rcases h.2 with ⟨rfl,_⟩ | ⟨g',cap,cur,rfl,_,⟨fz,hgg,_⟩,_,_,_,htake⟩
  · simp[Value.ownBlock] at hg
  · simp[Value.ownBlock] at hg
    subst hg
    have hadd:(⟨g',0,none⟩:Addr).add j=⟨g',j,none⟩:=by unfold Addr.add; split <;> simp_all
    rw[hadd]
    rw[←htake,List.getElem?_take] at hu
    split at hu
    · simp only[World.cell?,hgg]; simpa using hu
    · cases hu
theorem World.rowM.low (h:w.rowM base e size v n xs) {b:Nat} (hb:b≤base):w.rowM b e size v n xs:=
  ⟨h.1,h.2.imp id fun ⟨g,cap,cur,e1,hb1,r⟩=>⟨g,cap,cur,e1,Nat.le_trans hb hb1,r⟩⟩
theorem heap_setCellF (w:World) (g o:Nat) (cs:Array Value) (t:TypeId) (fz:Nat×Nat) (v:Value) (h:w.heap[g]?=some (.cells cs t fz)):(w.setCell ⟨g,o,none⟩ v).heap[g]?=some (.cells (cs.setIfInBounds o v) t fz):=by
  unfold World.setCell
  simp only[Array.getElem?_modify,h]
  simp
end Go
namespace Go.VC
open Go.RowKit (Below)

/-! ### States -/
abbrev Tmps:=List (Nat×AV)

def getT:Tmps→Nat→AV
  | [],_=>.l .unk
  | (k,v)::r,i=>if i=k then v else getT r i

def setT (t:Tmps) (i:Nat) (x:AV):Tmps:=(i,x)::t

theorem getT_setT (t:Tmps) (i:Nat) (x:AV) (j:Nat):getT (setT t i x) j=if j=i then x else getT t j:=rfl

structure Frm where
  t:Tmps
  n:Nat

abbrev Own:=TypeId×Nat×List (List D)

structure St where
  t:Tmps
  n:Nat
  up:List Frm
  b:List (Nat×List LV)
  o:List (Nat×Own)

def assoc {β:Type}:List (Nat×β)→Nat→Option β
  | [],_=>none
  | (k,v)::r,i=>if i=k then some v else assoc r i

def erase {β:Type}:List (Nat×β)→Nat→List (Nat×β)
  | [],_=>[]
  | (k,v)::r,i=>if i=k then erase r i else (k,v)::erase r i

def ins {β:Type}:List (Nat×β)→Nat→β→List (Nat×β)
  | [],i,x=>[(i,x)]
  | (k,v)::r,i,x=>if i=k then (i,x)::r else if i<k then (i,x)::(k,v)::r else (k,v)::ins r i x

section
variable {β γ:Type}
theorem assoc_erase (l:List (Nat×β)) (i k:Nat):assoc (erase l i) k=if k=i then none else assoc l k:=by
  induction l with
  | nil=>simp[erase,assoc]
  | cons a r ih=>
    obtain⟨k',v'⟩:=a
    unfold erase
    by_cases h:i=k'
    · subst h
      simp only[if_true,ih,assoc]
      split <;> rfl
    · simp only[h,if_false,assoc,ih]
      by_cases h2:k=k'
      · subst h2; simp only[if_true]; rw[if_neg (fun e=>h e.symm)]
      · simp only[h2,if_false]

theorem assoc_ins (l:List (Nat×β)) (i:Nat) (x:β) (k:Nat):assoc (ins l i x) k=if k=i then some x else assoc l k:=by
  induction l with
  | nil=>simp[ins,assoc]
  | cons a r ih=>
    obtain⟨k',v'⟩:=a
    unfold ins
    by_cases h:i=k'
    · subst h; simp only[if_true,assoc]; split <;> rfl
    · simp only[h,if_false]
      by_cases h2:i<k'
      · simp only[h2,if_true,assoc]
      · simp only[h2,if_false,assoc,ih]
        by_cases hj:k=k'
        · subst hj; simp only[if_true]; rw[if_neg (fun e=>h e.symm)]
        · simp only[hj,if_false]

theorem assoc_map (f:β→γ) (l:List (Nat×β)) (k:Nat):assoc (l.map fun x=>(x.1,f x.2)) k=(assoc l k).map f:=by
  induction l with
  | nil=>rfl
  | cons a r ih=>
    simp only[List.map_cons,assoc]
    split
    · rfl
    · exact ih
end

/-- Names a key? -/
def Cap.on (k:Nat):Cap→Bool
  | .k j=>decide (j=k)
  | .c _=>false

def LV.on (k:Nat):LV→Bool
  | .ptr j _=>decide (j=k)
  | .own j=>decide (j=k)
  | .eptr j _ _ _=>decide (j=k)
  | .vw j _ _ _ _=>decide (j=k)
  | .func _ caps=>caps.any (Cap.on k)
  | .mfn _ j=>decide (j=k)
  | .bsl j _ _=>decide (j=k)
  | _=>false

def LV.kill (k:Nat) (x:LV):LV:=if x.on k=true then .unk else x

def AV.map1 (f:LV→LV):AV→AV
  | .l x=>.l (f x)
  | .agg cs=>.agg (cs.map f)
  | .tup cs=>.tup cs

def AV.map (f:LV→LV):AV→AV
  | .tup cs=>.tup (cs.map (AV.map1 f))
  | x=>x.map1 f

def mapT (f:LV→LV) (t:Tmps):Tmps:=t.map fun x=>(x.1,x.2.map f)

def St.mapL (f:LV→LV) (s:St):St:=
  { s with t:=mapT f s.t,up:=s.up.map (fun g=>{ g with t:=mapT f g.t }),b:=s.b.map fun x=>(x.1,x.2.map f) }

def St.drop (k:Nat) (s:St):St:=
  let s:=s.mapL (LV.kill k)
  { s with b:=erase s.b k,o:=erase s.o k }

def St.get (s:St) (i:Nat):AV:=getT s.t i
def St.put (s:St) (dst:Option Nat) (x:AV):St:=
  match dst with
  | some d=>{ s with t:=setT s.t d x }
  | none=>s

/-- The block that a value leads to. -/
def blk:Value→Option Nat
  | .pointer (some a)=>some a.block
  | .slice (some a) _ _=>some a.block
  | _=>none

def BoxOk (σ:Nat→Value) (w:World) (p:Nat→Prop) (base:Nat) (k:Nat) (cs:List LV):Prop:=
  ∃g ty,∃vs:List Value,σ k=.pointer (some ⟨g,0,none⟩)∧base≤g∧¬p g∧w.heap[g]?=some (.cells vs.toArray ty (0,0))∧All2 (RepL σ w p) cs vs

def OwnOk (σ:Nat→Value) (w:World) (p:Nat→Prop) (base:Nat) (k:Nat) (x:Own):Prop:=
  ∃xs:List Value,w.rowM base x.1 x.2.1 (σ k) x.2.2.length xs∧(∀r∈x.2.2,r.length=x.2.1)∧All2 (RepD w p) x.2.2.flatten xs∧∀g,blk (σ k)=some g→¬p g

def TOk (σ:Nat→Value) (w:World) (p:Nat→Prop) (t:Tmps) (n:Nat) (tm:Array Value):Prop:=
  tm.size=n∧∀i,RepV σ w p (getT t i) (tm.getD i undef)

def St.live (s:St) (k:Nat):Prop:=(assoc s.b k).isSome∨(assoc s.o k).isSome

structure Rel (w0:World) (p0 p:Nat→Prop) (σ:Nat→Value) (s:St) (tm:Array Value) (ups:List (Array Value)) (w:World):Prop where
  below:Below w0.heap.size w0 w
  pin:∀b,p0 b→p b
  pnew:∀b,p b→p0 b∨w0.heap.size≤b
  plt:∀b,p b→b<w.heap.size
  t:TOk σ w p s.t s.n tm
  up:All2 (fun (f:Frm) a=>TOk σ w p f.t f.n a) s.up ups
  b:∀k cs,assoc s.b k=some cs→BoxOk σ w p w0.heap.size k cs
  o:∀k x,assoc s.o k=some x→OwnOk σ w p w0.heap.size k x
  apart:∀k1 k2 g,s.live k1→s.live k2→blk (σ k1)=some g→blk (σ k2)=some g→k1=k2

/-- Two states that tell the same. -/
structure St.Same (s s':St):Prop where
  t:∀i,getT s.t i=getT s'.t i
  n:s.n=s'.n
  up:All2 (fun f g:Frm=>f.n=g.n∧∀i,getT f.t i=getT g.t i) s.up s'.up
  b:∀k,assoc s.b k=assoc s'.b k
  o:∀k,assoc s.o k=assoc s'.o k

theorem St.Same.refl (s:St):s.Same s:=⟨fun _=>rfl,rfl,⟨rfl,fun i x y hx hy=>by rw[hx] at hy; cases hy; exact⟨rfl,fun _=>rfl⟩⟩,fun _=>rfl,fun _=>rfl⟩
theorem St.Same.symm {s s':St} (h:s.Same s'):s'.Same s:=⟨fun i=>(h.t i).symm,h.n.symm,⟨h.up.1.symm,fun i x y hx hy=>let z:=h.up.2 i y x hy hx; ⟨z.1.symm,fun j=>(z.2 j).symm⟩⟩,fun k=>(h.b k).symm,fun k=>(h.o k).symm⟩
theorem St.Same.trans {a b c:St} (h:a.Same b) (k:b.Same c):a.Same c:=⟨fun i=>(h.t i).trans (k.t i),h.n.trans k.n,⟨h.up.1.trans k.up.1,fun i x y hx hy=>by
  obtain⟨z,hz,h1⟩:=h.up.get hx
  have h2:=k.up.2 i z y hz hy
  exact⟨h1.1.trans h2.1,fun j=>(h1.2 j).trans (h2.2 j)⟩⟩,fun i=>(h.b i).trans (k.b i),fun i=>(h.o i).trans (k.o i)⟩

theorem Rel.same {w0:World} {p0 p:Nat→Prop} {σ:Nat→Value} {s s':St} {tm:Array Value} {ups:List (Array Value)} {w:World} (h:Rel w0 p0 p σ s tm ups w) (e:s.Same s'):Rel w0 p0 p σ s' tm ups w:=by
  have hl:∀k,s'.live k→s.live k:=fun k hk=>by unfold St.live at *; rw[e.b,e.o]; exact hk
  exact⟨h.below,h.pin,h.pnew,h.plt,⟨by rw[←e.n]; exact h.t.1,fun i=>by rw[←e.t]; exact h.t.2 i⟩,⟨e.up.1.symm.trans h.up.1,fun i f a hf ha=>by
      obtain⟨g,hg,h1⟩:=e.symm.up.get hf
      have h2:=h.up.2 i g a hg ha
      exact⟨by rw[h1.1]; exact h2.1,fun j=>by rw[h1.2]; exact h2.2 j⟩⟩,
    fun k cs hk=>h.b k cs (by rw[e.b]; exact hk),fun k x hk=>h.o k x (by rw[e.o]; exact hk),fun k1 k2 g h1 h2=>h.apart k1 k2 g (hl _ h1) (hl _ h2)⟩

theorem RepL.move {σ σ':Nat→Value} {w w':World} {p p':Nat→Prop} {x:LV} {v:Value} (k:Nat) (h:RepL σ w p x v) (hx:x.on k=false)
    (hσ:∀j,j≠k→σ' j=σ j) (hw:∀b,p b→w'.heap[b]?=w.heap[b]?) (hp:∀b,p b→p' b):RepL σ' w' p' x v:=by
  cases x with
  | unk=>trivial
  | d x=>exact RepD.mono h hw hp
  | nil=>exact h
  | nilptr=>exact h
  | und=>exact h
  | ptr key off=>
    obtain⟨b,h1,h2⟩:=h
    exact⟨b,by rw[hσ _ (by simpa [LV.on] using hx)]; exact h1,h2⟩
  | dptr cells off=>obtain⟨ad,h1,h2⟩:=h; exact⟨ad,h1,h2.mono hw hp⟩
  | own key=>
    obtain⟨h1,h2⟩:=h
    have e:=hσ key (by simpa [LV.on] using hx)
    exact⟨by rw[e]; exact h1,by rw[e]; exact h2⟩
  | eptr key i sz off=>
    obtain⟨b,n,c,h1,h2⟩:=h
    exact⟨b,n,c,by rw[hσ _ (by simpa [LV.on] using hx)]; exact h1,h2⟩
  | vw key sz lo hi full=>
    obtain⟨a,n,c,h1,h2⟩:=h
    have e:=hσ key (by simpa [LV.on] using hx)
    exact⟨a,n,c,by rw[e]; exact h1,by rw[e]; exact h2⟩
  | func f caps=>
    obtain⟨vs,h1,h2⟩:=h
    refine⟨vs,h1,h2.1,fun i y v hy hv=>?_⟩
    have h3:=h2.2 i y v hy hv
    have hon:Cap.on k y=false:=by
      simp only[LV.on,List.any_eq_false] at hx
      simpa using hx y (List.mem_of_getElem? hy)
    cases y with
    | k j=>have e:=hσ j (by simpa [Cap.on] using hon); exact⟨by rw[e]; exact h3.1,by rw[e]; exact h3.2⟩
    | c cells=>obtain⟨b,h4,h5⟩:=h3; exact⟨b,h4,h5.mono hw hp⟩
  | raw u=>exact h
  | bsl key n sz=>
    obtain⟨h0,b,h1,h2⟩:=h
    exact⟨h0,b,by rw[hσ _ (by simpa [LV.on] using hx)]; exact h1,h2⟩
  | mfn f key=>
    obtain⟨h1,h2⟩:=h
    have e:=hσ key (by simpa [LV.on] using hx)
    exact⟨by rw[e]; exact h1,by rw[e]; exact h2⟩

theorem RepL.kill {σ σ':Nat→Value} {w w':World} {p p':Nat→Prop} {x:LV} {v:Value} (k:Nat) (h:RepL σ w p x v)
    (hσ:∀j,j≠k→σ' j=σ j) (hw:∀b,p b→w'.heap[b]?=w.heap[b]?) (hp:∀b,p b→p' b):RepL σ' w' p' (x.kill k) v:=by
  unfold LV.kill
  by_cases hx:x.on k=true
  · rw[if_pos hx]; trivial
  · rw[if_neg hx]; exact h.move k (by simpa using hx) hσ hw hp

theorem RepV1.mapL {σ σ':Nat→Value} {w w':World} {p p':Nat→Prop} {x:AV} {v:Value} {f:LV→LV} (h:RepV1 σ w p x v)
    (hf:∀x v,RepL σ w p x v→RepL σ' w' p' (f x) v):RepV1 σ' w' p' (x.map1 f) v:=by
  cases x with
  | l x=>exact hf _ _ h
  | agg cs=>obtain⟨vs,e,h2⟩:=h; exact⟨vs,e,h2.map_left f hf⟩
  | tup cs=>exact h

theorem RepV.mapL {σ σ':Nat→Value} {w w':World} {p p':Nat→Prop} {x:AV} {v:Value} {f:LV→LV} (h:RepV σ w p x v)
    (hf:∀x v,RepL σ w p x v→RepL σ' w' p' (f x) v):RepV σ' w' p' (x.map f) v:=by
  cases x with
  | l x=>exact hf _ _ h
  | agg cs=>exact RepV1.mapL (x:=.agg cs) h hf
  | tup cs=>obtain⟨vs,e,h2⟩:=h; exact⟨vs,e,h2.map_left _ fun x v h=>RepV1.mapL h hf⟩

theorem getT_mapT (f:LV→LV) (hf:f .unk=.unk) (t:Tmps) (i:Nat):getT (mapT f t) i=(getT t i).map f:=by
  induction t with
  | nil=>simp[mapT,getT,AV.map,AV.map1,hf]
  | cons a r ih=>
    obtain⟨k,v⟩:=a
    simp only[mapT,List.map_cons,getT] at *
    by_cases h:i=k
    · simp[h]
    · simp[h,ih]

theorem TOk.mapL {σ σ':Nat→Value} {w w':World} {p p':Nat→Prop} {t:Tmps} {n:Nat} {tm:Array Value} {f:LV→LV} (h:TOk σ w p t n tm)
    (hu:f .unk=.unk) (hf:∀x v,RepL σ w p x v→RepL σ' w' p' (f x) v):TOk σ' w' p' (mapT f t) n tm:=
  ⟨h.1,fun i=>by rw[getT_mapT f hu]; exact (h.2 i).mapL hf⟩

theorem LV.kill_unk (k:Nat):LV.kill k .unk=.unk:=by simp[LV.kill]

theorem BoxOk.lt {σ:Nat→Value} {w:World} {p:Nat→Prop} {base k:Nat} {cs:List LV} (h:BoxOk σ w p base k cs):∀g,blk (σ k)=some g→g<w.heap.size∧¬p g∧base≤g:=by
  obtain⟨g,ty,vs,e,hb,hp,hg,_⟩:=h
  intro g' hg'
  rw[e] at hg'; cases hg'
  refine⟨?_,hp,hb⟩
  rcases Nat.lt_or_ge g w.heap.size with h | h
  · exact h
  · rw[Array.getElem?_eq_none h] at hg; cases hg

theorem OwnOk.lt {σ:Nat→Value} {w:World} {p:Nat→Prop} {base k:Nat} {x:Own} (h:OwnOk σ w p base k x):∀g,blk (σ k)=some g→g<w.heap.size∧¬p g∧base≤g:=by
  obtain⟨xs,h1,h2,h3,h4⟩:=h
  intro g hg
  rcases h1.2 with ⟨hv,_⟩ | ⟨g',cap,cur,hv,hb,⟨fz,hg',_⟩,_⟩
  · rw[hv] at hg; cases hg
  · have e1:g'=g:=by rw[hv] at hg; exact Option.some.inj hg
    subst e1
    refine⟨?_,h4 _ hg,hb⟩
    rcases Nat.lt_or_ge g' w.heap.size with h | h
    · exact h
    · rw[Array.getElem?_eq_none h] at hg'; cases hg'

theorem ownsRow_block {w w':World} {base:Nat} {e:TypeId} {sz:Nat} {v:Value} {n:Nat} {xs:List Value} (h:w.rowM base e sz v n xs)
    (hw:∀g,blk v=some g→w'.heap[g]?=w.heap[g]?):w'.rowM base e sz v n xs:=by
  refine⟨h.1,?_⟩
  rcases h.2 with h1 | ⟨g,cap,cur,hv,hb,hg,r⟩
  · exact .inl h1
  · exact .inr ⟨g,cap,cur,hv,hb,by rw[hw g (by rw[hv]; rfl)]; exact hg,r⟩

theorem some_of_isSome {α:Type} {x:Option α} (h:x.isSome):∃y,x=some y:=Option.isSome_iff_exists.1 h

theorem Rel.live_lt {w0:World} {p0 p:Nat→Prop} {σ:Nat→Value} {s:St} {tm:Array Value} {ups:List (Array Value)} {w:World} (h:Rel w0 p0 p σ s tm ups w) {k g:Nat} (hk:s.live k) (hg:blk (σ k)=some g):g<w.heap.size∧¬p g∧w0.heap.size≤g:=by
  rcases hk with hk | hk
  · obtain⟨cs,hm⟩:=some_of_isSome hk
    exact (h.b _ _ hm).lt g hg
  · obtain⟨x,hm⟩:=some_of_isSome hk
    exact (h.o _ _ hm).lt g hg

theorem live_drop {s:St} {k j:Nat} (h:(s.drop k).live j):j≠k∧s.live j:=by
  unfold St.live at *
  simp only[St.drop,St.mapL,assoc_erase] at h
  by_cases e:j=k
  · simp[e] at h
  · refine⟨e,?_⟩
    simp only[e,if_false] at h
    refine h.imp (fun h=>?_) id
    rw[assoc_map] at h
    simpa using h

/-- THE STEP: what is named k is let go; the world turns, but for k's block alone (and new blocks). -/
theorem Rel.step {w0:World} {p0 p:Nat→Prop} {σ σ':Nat→Value} {s:St} {tm:Array Value} {ups:List (Array Value)} {w w':World} (h:Rel w0 p0 p σ s tm ups w) (k:Nat)
    (hσ:∀j,j≠k→σ' j=σ j) (hb:Below w0.heap.size w0 w') (hw:∀g,g<w.heap.size→(p g∨∃j,j≠k∧s.live j∧blk (σ j)=some g)→w'.heap[g]?=w.heap[g]?)
    (hs:w.heap.size≤w'.heap.size):Rel w0 p0 p σ' (s.drop k) tm ups w':=by
  have hpw:∀b,p b→w'.heap[b]?=w.heap[b]?:=fun b hb=>hw b (h.plt b hb) (.inl hb)
  have hL:∀x v,RepL σ w p x v→RepL σ' w' p (LV.kill k x) v:=fun x v hr=>hr.kill k hσ hpw (fun _ h=>h)
  refine⟨hb,h.pin,h.pnew,fun b hb=>Nat.lt_of_lt_of_le (h.plt b hb) hs,h.t.mapL (LV.kill_unk k) hL,?_,?_,?_,?_⟩
  · refine⟨by simpa [St.drop,St.mapL] using h.up.1,fun i f a hf ha=>?_⟩
    simp only[St.drop,St.mapL,List.getElem?_map] at hf
    obtain⟨f0,hf0,rfl⟩:=Option.map_eq_some_iff.1 hf
    exact (h.up.2 i f0 a hf0 ha).mapL (LV.kill_unk k) hL
  · intro j cs hm
    simp only[St.drop,St.mapL,assoc_erase] at hm
    split at hm
    · cases hm
    · rename_i hj
      rw[assoc_map] at hm
      obtain⟨cs0,hm0,rfl⟩:=Option.map_eq_some_iff.1 hm
      have hbx:=h.b _ _ hm0
      obtain⟨g,ty,vs,e1,hbase,hpg,hg,hr⟩:=hbx
      have hlt:=(h.b _ _ hm0).lt g (by rw[e1]; rfl)
      refine⟨g,ty,vs,by rw[hσ _ hj]; exact e1,hbase,hpg,?_,hr.map_left _ hL⟩
      rw[hw g hlt.1 (.inr ⟨_,hj,.inl (by rw[hm0]; rfl),by rw[e1]; rfl⟩)]
      exact hg
  · intro j x hm
    simp only[St.drop,St.mapL,assoc_erase] at hm
    split at hm
    · cases hm
    · rename_i hj
      obtain⟨xs,h1,h2,h3,h4⟩:=h.o _ _ hm
      refine⟨xs,?_,h2,h3.mono fun x y hr=>hr.mono hpw (fun _ h=>h),by rw[hσ _ hj]; exact h4⟩
      rw[hσ _ hj]
      exact ownsRow_block h1 fun g hg=>hw g ((h.o _ _ hm).lt g hg).1 (.inr ⟨_,hj,.inr (by rw[hm]; rfl),hg⟩)
  · intro k1 k2 g h1 h2 e1 e2
    have l1:=live_drop h1
    have l2:=live_drop h2
    rw[hσ _ l1.1] at e1
    rw[hσ _ l2.1] at e2
    exact h.apart k1 k2 g l1.2 l2.2 e1 e2

/-- A value is put into a slot. -/
theorem Rel.put {w0:World} {p0 p:Nat→Prop} {σ:Nat→Value} {s:St} {tm:Array Value} {ups:List (Array Value)} {w:World} (h:Rel w0 p0 p σ s tm ups w)
    (dst:Option Nat) (x:AV) (v:Value) (hd:∀d,dst=some d→d<s.n) (hx:RepV σ w p x v) (ds:List Deferred) :
    Rel w0 p0 p σ (s.put dst x) (Act.put ⟨tm,ds⟩ dst v).tmps ups w:=by
  cases dst with
  | none=>exact h
  | some d=>
    refine { h with t:=⟨by simpa [Act.put,St.put] using h.t.1,fun i=>?_⟩ }
    have hd':d<tm.size:=by rw[h.t.1]; exact hd d rfl
    simp only[St.put,Act.put]
    rw[getT_setT]
    by_cases e:i=d
    · subst e
      simpa [Array.getD,hd'] using hx
    · rw[if_neg e]
      have:=h.t.2 i
      simp only[Array.getD_eq_getD_getElem?] at this ⊢
      rw[Array.getElem?_setIfInBounds,if_neg (fun e'=>e e'.symm)]
      exact this

end Go.VC
namespace Go.VC
open Go.RowKit (Below)

def upd (σ:Nat→Value) (k:Nat) (v:Value):Nat→Value:=fun j=>if j=k then v else σ j
theorem upd_same (σ:Nat→Value) (k:Nat) (v:Value):upd σ k v k=v:=by simp[upd]
theorem upd_other (σ:Nat→Value) (k:Nat) (v:Value) (j:Nat) (h:j≠k):upd σ k v j=σ j:=by simp[upd,h]

def St.addBox (s:St) (k:Nat) (cs:List LV):St:={ s with b:=ins s.b k cs }
def St.addOwn (s:St) (k:Nat) (x:Own):St:={ s with o:=ins s.o k x }

section
variable {w0:World} {p0 p:Nat→Prop} {σ σ':Nat→Value} {s:St} {tm:Array Value} {ups:List (Array Value)} {w w':World}

theorem live_addBox {k j:Nat} {cs:List LV} (h:(s.addBox k cs).live j):j=k∨s.live j:=by
  unfold St.live at *
  simp only[St.addBox,assoc_ins] at h
  by_cases e:j=k
  · exact .inl e
  · simp only[e,if_false] at h; exact .inr h

theorem live_addOwn {k j:Nat} {x:Own} (h:(s.addOwn k x).live j):j=k∨s.live j:=by
  unfold St.live at *
  simp only[St.addOwn,assoc_ins] at h
  by_cases e:j=k
  · exact .inl e
  · simp only[e,if_false] at h; exact .inr h

theorem Rel.addBox (h:Rel w0 p0 p σ s tm ups w) (k:Nat) (cs:List LV) (hb:BoxOk σ w p w0.heap.size k cs)
    (hap:∀j g,j≠k→s.live j→blk (σ j)=some g→blk (σ k)≠some g):Rel w0 p0 p σ (s.addBox k cs) tm ups w:=by
  refine { h with b:=fun j cs' hm=>?_,apart:=fun k1 k2 g h1 h2 e1 e2=>?_ }
  · simp only[St.addBox,assoc_ins] at hm
    split at hm
    · rename_i e; subst e; cases hm; exact hb
    · exact h.b _ _ hm
  · by_cases c1:k1=k <;> by_cases c2:k2=k
    · rw[c1,c2]
    · subst c1
      exact absurd e1 (hap k2 g c2 ((live_addBox h2).resolve_left c2) e2)
    · subst c2
      exact absurd e2 (hap k1 g c1 ((live_addBox h1).resolve_left c1) e1)
    · exact h.apart k1 k2 g ((live_addBox h1).resolve_left c1) ((live_addBox h2).resolve_left c2) e1 e2

theorem Rel.addOwn (h:Rel w0 p0 p σ s tm ups w) (k:Nat) (x:Own) (hb:OwnOk σ w p w0.heap.size k x)
    (hap:∀j g,j≠k→s.live j→blk (σ j)=some g→blk (σ k)≠some g):Rel w0 p0 p σ (s.addOwn k x) tm ups w:=by
  refine { h with o:=fun j x' hm=>?_,apart:=fun k1 k2 g h1 h2 e1 e2=>?_ }
  · simp only[St.addOwn,assoc_ins] at hm
    split at hm
    · rename_i e; subst e; cases hm; exact hb
    · exact h.o _ _ hm
  · by_cases c1:k1=k <;> by_cases c2:k2=k
    · rw[c1,c2]
    · subst c1
      exact absurd e1 (hap k2 g c2 ((live_addOwn h2).resolve_left c2) e2)
    · subst c2
      exact absurd e2 (hap k1 g c1 ((live_addOwn h1).resolve_left c1) e1)
    · exact h.apart k1 k2 g ((live_addOwn h1).resolve_left c1) ((live_addOwn h2).resolve_left c2) e1 e2

/-- A variable in memory is made. -/
theorem Rel.newBox (h:Rel w0 p0 p σ s tm ups w) (k:Nat) (cs:List LV) (vs:List Value) (e:TypeId) (hc:All2 (RepL σ w p) cs vs) :
    Rel w0 p0 p (upd σ k (.pointer (some ⟨w.heap.size,0,none⟩))) ((s.drop k).addBox k (cs.map (LV.kill k))) tm ups (w.alloc (.cells vs.toArray e)):=by
  have hheap:∀g,g<w.heap.size→(w.alloc (.cells vs.toArray e)).heap[g]?=w.heap[g]?:=fun g hg=>Below.heap_alloc w _ g hg
  have h1:=h.step (σ':=upd σ k (.pointer (some ⟨w.heap.size,0,none⟩))) k (fun j hj=>upd_other σ k _ j hj) (h.below.alloc h.below.size (.cells vs.toArray e)) (fun g hg _=>hheap g hg) (by simp)
  refine h1.addBox k _ ⟨w.heap.size,e,vs,upd_same _ _ _,h.below.size,fun hp=>absurd (h.plt _ hp) (Nat.lt_irrefl _),Go.heap_alloc_new w _,?_⟩ ?_
  · exact hc.map_left _ fun x v hr=>hr.kill k (fun j hj=>upd_other σ k _ j hj) (fun b hb=>hheap b (h.plt b hb)) (fun _ h=>h)
  · intro j g hj hl hg
    rw[upd_other σ k _ j hj] at hg
    have:=(h.live_lt (live_drop hl).2 hg).1
    rw[upd_same]
    intro e1
    have:w.heap.size=g:=by simpa [blk] using e1
    omega

def setAssoc {β:Type}:List (Nat×β)→Nat→β→List (Nat×β)
  | [],_,_=>[]
  | (k,v)::r,i,x=>if i=k then (k,x)::setAssoc r i x else (k,v)::setAssoc r i x

theorem assoc_setAssoc {β:Type} (l:List (Nat×β)) (i:Nat) (x:β) (k:Nat):assoc (setAssoc l i x) k=if k=i then (assoc l k).map (fun _=>x) else assoc l k:=by
  induction l with
  | nil=>simp[setAssoc,assoc]
  | cons a r ih=>
    obtain⟨k',v'⟩:=a
    unfold setAssoc
    by_cases h:i=k'
    · subst h
      simp only[if_true,assoc,ih]
      by_cases e:k=i
      · simp[e]
      · simp[e]
    · simp only[h,if_false,assoc,ih]
      by_cases e:k=k'
      · subst e; simp[Ne.symm h]
      · simp[e]

def St.setBox (s:St) (k:Nat) (cs:List LV):St:={ s with b:=setAssoc s.b k cs }
def St.setOwn (s:St) (k:Nat) (x:Own):St:={ s with o:=setAssoc s.o k x }

/-- The world turns in k's block alone: what leads to k stays. -/
theorem Rel.within (h:Rel w0 p0 p σ s tm ups w) (k:Nat) (hb:Below w0.heap.size w0 w') (hs:w.heap.size≤w'.heap.size)
    (hw:∀g,g<w.heap.size→blk (σ k)≠some g→w'.heap[g]?=w.heap[g]?) (hk:s.live k) :
    (∀b,p b→w'.heap[b]?=w.heap[b]?)∧(∀j g,j≠k→s.live j→blk (σ j)=some g→w'.heap[g]?=w.heap[g]?):=by
  refine⟨fun b hb=>hw b (h.plt b hb) fun e=>(h.live_lt hk e).2.1 hb,fun j g hj hl hg=>hw g (h.live_lt hl hg).1 fun e=>hj (h.apart j k g hl hk hg e)⟩

theorem RepL.world {x:LV} {v:Value} (h:RepL σ w p x v) (hw:∀b,p b→w'.heap[b]?=w.heap[b]?):RepL σ w' p x v:=by
  cases x with
  | unk=>trivial
  | d x=>exact RepD.mono h hw (fun _ h=>h)
  | nil=>exact h
  | nilptr=>exact h
  | und=>exact h
  | ptr key off=>exact h
  | dptr cells off=>obtain⟨ad,h1,h2⟩:=h; exact⟨ad,h1,h2.mono hw (fun _ h=>h)⟩
  | own key=>exact h
  | eptr key i sz off=>exact h
  | vw key sz lo hi full=>exact h
  | mfn f key=>exact h
  | bsl key n sz=>exact h
  | raw u=>exact h
  | func f caps=>
    obtain⟨vs,h1,h2⟩:=h
    refine⟨vs,h1,h2.mono fun y v h3=>?_⟩
    cases y with
    | k j=>exact h3
    | c cells=>obtain⟨b,h4,h5⟩:=h3; exact⟨b,h4,h5.mono hw (fun _ h=>h)⟩

theorem AV.map1_id (x:AV):x.map1 (fun y=>y)=x:=by cases x <;> simp[AV.map1]
theorem AV.map_id (x:AV):x.map (fun y=>y)=x:=by
  cases x with
  | l x=>rfl
  | agg cs=>simp[AV.map,AV.map1]
  | tup cs=>
    simp only[AV.map]
    congr 1
    induction cs with
    | nil=>rfl
    | cons a r ih=>rw[List.map_cons,AV.map1_id,ih]

theorem TOk.world {t:Tmps} {n:Nat} (h:TOk σ w p t n tm) (hw:∀b,p b→w'.heap[b]?=w.heap[b]?):TOk σ w' p t n tm:=
  ⟨h.1,fun i=>by have:=(h.2 i).mapL (f:=fun y=>y) (σ':=σ) (w':=w') (p':=p) (fun x v hr=>hr.world hw); rwa [AV.map_id] at this⟩

theorem live_setBox {k j:Nat} {cs:List LV} (h:(s.setBox k cs).live j):s.live j:=by
  unfold St.live at *
  simp only[St.setBox,assoc_setAssoc] at h
  refine h.imp (fun h=>?_) id
  split at h
  · simpa using h
  · exact h

theorem live_setOwn {k j:Nat} {x:Own} (h:(s.setOwn k x).live j):s.live j:=by
  unfold St.live at *
  simp only[St.setOwn,assoc_setAssoc] at h
  refine h.imp id (fun h=>?_)
  split at h
  · simpa using h
  · exact h

/-- A variable in memory is written. -/
theorem Rel.setBox (h:Rel w0 p0 p σ s tm ups w) (k:Nat) (cs cs':List LV) (hk:assoc s.b k=some cs) (hb:Below w0.heap.size w0 w') (hs:w.heap.size≤w'.heap.size)
    (hw:∀g,g<w.heap.size→blk (σ k)≠some g→w'.heap[g]?=w.heap[g]?) (hbox:BoxOk σ w' p w0.heap.size k cs'):Rel w0 p0 p σ (s.setBox k cs') tm ups w':=by
  have hl:s.live k:=.inl (by rw[hk]; rfl)
  obtain⟨hp,ho⟩:=h.within k hb hs hw hl
  refine⟨hb,h.pin,h.pnew,fun b hb=>Nat.lt_of_lt_of_le (h.plt b hb) hs,h.t.world hp,h.up.mono fun f a hr=>hr.world hp,?_,?_,?_⟩
  · intro j cs2 hm
    simp only[St.setBox,assoc_setAssoc] at hm
    split at hm
    · rename_i e; subst e; rw[hk] at hm; cases hm; exact hbox
    · rename_i hj
      obtain⟨g,ty,vs,e1,hbase,hpg,hg,hr⟩:=h.b _ _ hm
      exact⟨g,ty,vs,e1,hbase,hpg,by rw[ho j g hj (.inl (by rw[hm]; rfl)) (by rw[e1]; rfl)]; exact hg,hr.mono fun x v hr=>hr.world hp⟩
  · intro j x hm
    obtain⟨xs,h1,h2,h3,h4⟩:=h.o _ _ hm
    by_cases hj:j=k
    · subst hj
      obtain⟨g,ty,vs,e1,_⟩:=h.b _ _ hk
      rcases h1.2 with ⟨hv,_⟩ | ⟨g',cap,cur,hv,_⟩
      · rw[e1] at hv; cases hv
      · rw[e1] at hv; cases hv
    · exact⟨xs,ownsRow_block h1 fun g hg=>ho j g hj (.inr (by rw[show assoc s.o j=some x from hm]; rfl)) hg,h2,h3.mono fun x y hr=>hr.mono hp (fun _ h=>h),h4⟩
  · intro k1 k2 g h1 h2 e1 e2
    exact h.apart k1 k2 g (live_setBox h1) (live_setBox h2) e1 e2

/-- An element of an own array is written. -/
theorem Rel.setOwn (h:Rel w0 p0 p σ s tm ups w) (k:Nat) (x x':Own) (hk:assoc s.o k=some x) (hb:Below w0.heap.size w0 w') (hs:w.heap.size≤w'.heap.size)
    (hw:∀g,g<w.heap.size→blk (σ k)≠some g→w'.heap[g]?=w.heap[g]?) (hown:OwnOk σ w' p w0.heap.size k x'):Rel w0 p0 p σ (s.setOwn k x') tm ups w':=by
  have hl:s.live k:=.inr (by rw[hk]; rfl)
  obtain⟨hp,ho⟩:=h.within k hb hs hw hl
  refine⟨hb,h.pin,h.pnew,fun b hb=>Nat.lt_of_lt_of_le (h.plt b hb) hs,h.t.world hp,h.up.mono fun f a hr=>hr.world hp,?_,?_,?_⟩
  · intro j cs2 hm
    obtain⟨g,ty,vs,e1,hbase,hpg,hg,hr⟩:=h.b _ _ hm
    by_cases hj:j=k
    · subst hj
      obtain⟨xs,h1,_⟩:=h.o _ _ hk
      rcases h1.2 with ⟨hv,_⟩ | ⟨g',cap,cur,hv,_⟩
      · rw[e1] at hv; cases hv
      · rw[e1] at hv; cases hv
    · exact⟨g,ty,vs,e1,hbase,hpg,by rw[ho j g hj (.inl (by rw[show assoc s.b j=some cs2 from hm]; rfl)) (by rw[e1]; rfl)]; exact hg,hr.mono fun x v hr=>hr.world hp⟩
  · intro j x2 hm
    simp only[St.setOwn,assoc_setAssoc] at hm
    split at hm
    · rename_i e; subst e; rw[hk] at hm; cases hm; exact hown
    · rename_i hj
      obtain⟨xs,h1,h2,h3,h4⟩:=h.o _ _ hm
      exact⟨xs,ownsRow_block h1 fun g hg=>ho j g hj (.inr (by rw[hm]; rfl)) hg,h2,h3.mono fun x y hr=>hr.mono hp (fun _ h=>h),h4⟩
  · intro k1 k2 g h1 h2 e1 e2
    exact h.apart k1 k2 g (live_setOwn h1) (live_setOwn h2) e1 e2

/-- A new own array, in a world that only grew (but for what is let go). -/
theorem Rel.newOwn (h:Rel w0 p0 p σ s tm ups w) (k:Nat) (e:TypeId) (sz:Nat) (rows:List (List D)) (v:Value) (xs:List Value) (row:Option Nat)
    (hg:w.grownBy w' row) (hrow:∀g,row=some g→w0.heap.size≤g∧¬p g∧∀j,j≠k→s.live j→blk (σ j)≠some g)
    (hown:w'.rowM w0.heap.size e sz v rows.length xs) (hv:∀g,blk v=some g→row=some g∨w.heap.size≤g) (hr:∀r∈rows,r.length=sz) (hx:All2 (RepD w p) rows.flatten xs) :
    Rel w0 p0 p (upd σ k v) ((s.drop k).addOwn k (e,sz,rows)) tm ups w':=by
  have hb:Below w0.heap.size w0 w':=h.below.grown hg h.below.size fun k hk=>(hrow k hk).1
  have hfr:∀g,g<w.heap.size→(p g∨∃j,j≠k∧s.live j∧blk (σ j)=some g)→w'.heap[g]?=w.heap[g]?:=by
    intro g hlt hc
    refine hg.block g hlt fun e=>?_
    have h2:=hrow g e.symm
    rcases hc with hc | ⟨j,hj,hl,hjg⟩
    · exact h2.2.1 hc
    · exact h2.2.2 j hj hl hjg
  have h1:=h.step (σ':=upd σ k v) k (fun j hj=>upd_other σ k _ j hj) hb hfr hg.size
  refine h1.addOwn k (e,sz,rows) ⟨xs,by rw[upd_same]; exact hown,hr,hx.mono fun x y hr=>hr.mono (fun b hb=>hfr b (h.plt b hb) (.inl hb)) (fun _ h=>h),?_⟩ ?_
  · intro g hgv hp
    rw[upd_same] at hgv
    rcases hv g hgv with h2 | h2
    · exact (hrow g h2).2.1 hp
    · have:=h.plt g hp; omega
  · intro j g hj hl hjg
    rw[upd_other σ k _ j hj] at hjg
    rw[upd_same]
    intro e
    rcases hv g e with h2 | h2
    · exact (hrow g h2).2.2 j hj (live_drop hl).2 hjg
    · have:=(h.live_lt (live_drop hl).2 hjg).1; omega

end
end Go.VC
namespace Go.VC
open Go.RowKit (Below)

def constL:Value→LV
  | .int k n=>.d (.int k n)
  | .bool b=>.d (.bool b)
  | .string s=>.d (.str s)
  | .slice none 0 0=>.nil
  | .pointer none=>.nilptr
  | .nilFunc=>.d .nilfn
  | _=>.unk

def constV:Value→AV
  | .agg cs=>.agg (cs.toList.map constL)
  | v=>.l (constL v)

def St.eval (s:St):Operand→AV
  | .tmp t=>s.get t
  | .const v=>constV v
  | .global _=>.l .unk
  | .func f=>.l (.func f [])

theorem repL_const (σ:Nat→Value) (w:World) (p:Nat→Prop) (v:Value):RepL σ w p (constL v) v:=by
  unfold constL
  split <;> first | trivial | exact .int _ _ | exact .bool _ | exact .str _ | exact .nilfn | rfl

theorem repV_const (σ:Nat→Value) (w:World) (p:Nat→Prop) (v:Value):RepV σ w p (constV v) v:=by
  unfold constV
  split
  · refine⟨_,rfl,?_⟩
    exact⟨by simp,fun i x y hx hy=>by
      rw[List.getElem?_map] at hx
      obtain⟨a,ha,rfl⟩:=Option.map_eq_some_iff.1 hx
      rw[ha] at hy; cases hy
      exact repL_const σ w p _⟩
  · exact repL_const σ w p v

inductive TK
  | int (k:IntKind)
  | bool
  | str
  | slice (e:TypeId)
  | struct (fs:List (Nat×TypeId))
  | other

structure TI where
  k:TK
  size:Nat
  bytes:Nat
  zero:List LV
  eq:Bool

def TK.row:TK→Bool
  | .struct _=>true
  | _=>false

def DescOk (d:TypeDesc):TK→Prop
  | .int k=>d=.int k
  | .bool=>d=.bool
  | .str=>d=.string
  | .slice e=>d=.slice e
  | .struct fs=>∃F,d=.struct F∧F.size=fs.length∧∀(f off:Nat) (ft:TypeId),fs[f]?=some (off,ft)→∃x,F[f]?=some x∧x.offset=off∧x.type=ft
  | .other=>d.isRow=false

structure TIok (P:Program) (t:TypeId) (i:TI):Prop where
  desc:∃d,P.underlying t=some d∧DescOk d i.k
  info:∃j z,P.info? t=some j∧j.size=i.size∧j.bytes=i.bytes∧j.zero=some z∧z.cells.toList.map constL=i.zero∧z.cells.size=i.size∧(∀v∈z.cells.toList,v.oneCell'=true)

section
variable {w0:World} {p0 p:Nat→Prop} {σ σ':Nat→Value} {s:St} {tm:Array Value} {ups:List (Array Value)} {w w':World} {P:Program} {ds:List Deferred}

theorem Rel.eval (h:Rel w0 p0 p σ s tm ups w) (x:Operand):RepV σ w p (s.eval x) (Act.eval ⟨tm,ds⟩ x):=by
  cases x with
  | tmp t=>exact h.t.2 t
  | const v=>exact repV_const σ w p v
  | global g=>trivial
  | func f=>exact⟨[],rfl,All2.nil⟩

theorem constL_rep_all (l:List Value) (σ:Nat→Value) (w:World) (p:Nat→Prop):All2 (RepL σ w p) (l.map constL) l:=
  ⟨by simp,fun i x y hx hy=>by
    rw[List.getElem?_map,hy] at hx
    cases hx
    exact repL_const σ w p _⟩

/-- The cells of what is boxed or stored. -/
def cellsV:AV→Option (List LV)
  | .l x=>some [x]
  | .agg cs=>some cs
  | .tup _=>none

theorem cellsV_ok {x:AV} {v:Value} {cs:List LV} (hx:RepV σ w p x v) (hc:cellsV x=some cs) (hok:cs.all LV.ok=true) :
    All2 (RepL σ w p) cs v.cells.toList∧(∀u∈v.cells.toList,u.oneCell'=true):=by
  have one:∀{cs:List LV} {vs:List Value},All2 (RepL σ w p) cs vs→cs.all LV.ok=true→∀u∈vs,u.oneCell'=true:=by
    intro cs vs h hk u hu
    obtain⟨i,hi⟩:=List.getElem?_of_mem hu
    have hlt:i<cs.length:=by rw[h.1]; exact (List.getElem?_eq_some_iff.1 hi).1
    have hx:=List.getElem?_eq_getElem hlt
    exact (h.2 i _ _ hx hi).oneCell (List.all_eq_true.1 hk _ (List.mem_of_getElem? hx))
  cases x with
  | l x=>
    cases hc
    have ho:x.ok=true:=by simpa using hok
    have h1:v.oneCell'=true:=RepL.oneCell (x:=x) hx ho
    have hv:v.cells.toList=[v]:=by cases v <;> first | rfl | cases h1
    rw[hv]
    exact⟨All2.cons hx All2.nil,fun u hu=>by simp at hu; subst hu; exact h1⟩
  | agg cs'=>
    cases hc
    obtain⟨vs,rfl,h2⟩:=hx
    exact⟨by simpa [Value.cells] using h2,by simpa [Value.cells] using one h2 hok⟩
  | tup cs=>cases hc

/-- A value of a type, read out of cells from an offset on. -/
def loadV (i:TI) (cs:List LV) (off:Nat):AV:=
  if i.k.row=true then .agg ((cs.drop off).take i.size) else match cs[off]? with | some x=>.l x | none=>.l .unk

theorem run_isAgg {t:TypeId} {d:TypeDesc} (h:P.underlying t=some d) (w:World):(isAgg t).run P w=.ok d.isRow w:=by
  unfold isAgg
  rw[Sem.run_bind,run_underlying h w]
  cases d <;> rfl

theorem TIok.row {t:TypeId} {i:TI} (h:TIok P t i):∃d,P.underlying t=some d∧d.isRow=i.k.row:=by
  obtain⟨d,hd,hk⟩:=h.desc
  refine⟨d,hd,?_⟩
  cases hi:i.k <;> rw[hi] at hk <;> simp only[DescOk] at hk
  case struct fs=>obtain⟨F,rfl,_⟩:=hk; rfl
  case other=>rw[hk]; rfl
  all_goals (subst hk; rfl)

/-- Loads at an address behind which the cells lie. -/
theorem run_load {t:TypeId} {i:TI} (ht:TIok P t i) (ad:Addr) (cs:List LV) (off:Nat) (hlen:off+i.size≤cs.length) (hsz:0<i.size)
    (hc:∀(j:Nat) (x:LV),cs[j]?=some x→∃u,w.cell? (ad.add j)=some u∧RepL σ w p x u) :
    ∃v,(Instr.loadAt t (.pointer (some (ad.add off)))).run P w=.ok v w∧RepV σ w p (loadV i cs off) v:=by
  obtain⟨d,hd,hrow⟩:=ht.row
  obtain⟨j,z,hj,hjs,_⟩:=ht.info
  simp only[Instr.loadAt,Instr.sureAddr,Sem.run_bind,Sem.run_pure,Result.andThen_ok]
  unfold loadVar
  rw[Sem.run_bind,run_isAgg hd,Result.andThen_ok,hrow]
  unfold loadV
  by_cases hr:i.k.row=true
  · simp only[hr,if_true,Sem.run_bind]
    have hvs:∃vs:List Value,vs.length=i.size∧(∀(q:Nat) (v:Value),vs[q]?=some v→w.cell? ((ad.add off).add q)=some v)∧All2 (RepL σ w p) ((cs.drop off).take i.size) vs:=by
      have hsub:∀n,off+n≤cs.length→∃vs:List Value,vs.length=n∧(∀(q:Nat) (v:Value),vs[q]?=some v→w.cell? ((ad.add off).add q)=some v)∧All2 (RepL σ w p) ((cs.drop off).take n) vs:=by
        intro n
        induction n with
        | zero=>intro _; exact⟨[],rfl,fun q v h=>by simp at h,by simpa using All2.nil⟩
        | succ n ih=>
          intro hn
          obtain⟨vs,h1,h2,h3⟩:=ih (by omega)
          obtain⟨u,hu,hru⟩:=hc (off+n) cs[off+n] (List.getElem?_eq_getElem (by omega))
          refine⟨vs++[u],by simp[h1],fun q v hq=>?_,?_⟩
          · by_cases hqn:q<n
            · exact h2 q v (by rwa [List.getElem?_append_left (by omega)] at hq)
            · rw[List.getElem?_append_right (by omega)] at hq
              have:q-vs.length=0:=by
                rcases Nat.eq_zero_or_pos (q-vs.length) with h | h
                · exact h
                · rw[List.getElem?_eq_none (by simp; omega)] at hq; cases hq
              rw[this] at hq
              simp at hq; subst hq
              have hq':q=n:=by omega
              subst hq'
              rw[add_add]; exact hu
          · have e:(cs.drop off).take (n+1)=(cs.drop off).take n++[cs[off+n]]:=by
              rw[List.take_succ_eq_append_getElem (by simp; omega)]
              simp
            rw[e]
            exact h3.append (All2.cons hru All2.nil)
      exact hsub i.size hlen
    obtain⟨vs,h1,h2,h3⟩:=hvs
    have hl:(loadCells (ad.add off) i.size).run P w=.ok vs.toArray w:=by
      rw[←h1]; exact run_loadCells_list (P:=P) w _ vs h2
    simp only[sizeOf,typeInfo,Sem.run_bind,run_program,Result.andThen_ok,hj,Sem.run_pure,hjs,hl]
    exact⟨_,rfl,vs,rfl,h3⟩
  · simp only[hr,Bool.false_eq_true,if_false]
    obtain⟨u,hu,hru⟩:=hc off cs[off] (List.getElem?_eq_getElem (by omega))
    rw[List.getElem?_eq_getElem (by omega)]
    refine⟨u,?_,hru⟩
    simp[load,Sem.run,hu]

end
end Go.VC
namespace Go.VC
open Go.RowKit (Below)

def AV.on1 (k:Nat):AV→Bool
  | .l x=>x.on k
  | .agg cs=>cs.any (LV.on k)
  | .tup _=>false

def AV.on (k:Nat):AV→Bool
  | .tup cs=>cs.any (AV.on1 k)
  | x=>x.on1 k

/-- Nothing names k. -/
structure Free (k:Nat) (s:St):Prop where
  t:∀i,(getT s.t i).on k=false
  up:∀f∈s.up,∀i,(getT f.t i).on k=false
  b:∀j cs,assoc s.b j=some cs→∀x∈cs,x.on k=false
  nb:assoc s.b k=none
  no:assoc s.o k=none

theorem LV.kill_free {k:Nat} {x:LV} (h:x.on k=false):x.kill k=x:=by simp[LV.kill,h]

theorem List.map_kill_free {k:Nat} {cs:List LV} (h:∀x∈cs,x.on k=false):cs.map (LV.kill k)=cs:=by
  induction cs with
  | nil=>rfl
  | cons a r ih=>rw[List.map_cons,LV.kill_free (h a List.mem_cons_self),ih fun x hx=>h x (List.mem_cons_of_mem _ hx)]

theorem AV.map1_kill_free {k:Nat} {x:AV} (h:x.on1 k=false):x.map1 (LV.kill k)=x:=by
  cases x with
  | l x=>simp only[AV.map1]; rw[LV.kill_free h]
  | agg cs=>simp only[AV.map1]; rw[List.map_kill_free (by simpa [AV.on1] using h)]
  | tup cs=>rfl

theorem AV.map_kill_free {k:Nat} {x:AV} (h:x.on k=false):x.map (LV.kill k)=x:=by
  cases x with
  | l x=>exact AV.map1_kill_free (x:=.l x) h
  | agg cs=>exact AV.map1_kill_free (x:=.agg cs) h
  | tup cs=>
    simp only[AV.map]
    congr 1
    simp only[AV.on,List.any_eq_false] at h
    induction cs with
    | nil=>rfl
    | cons a r ih=>rw[List.map_cons,AV.map1_kill_free (by simpa using h a List.mem_cons_self),ih fun x hx=>h x (List.mem_cons_of_mem _ hx)]

theorem LV.kill_on (k:Nat) (x:LV):(x.kill k).on k=false:=by
  unfold LV.kill
  by_cases h:x.on k=true
  · rw[if_pos h]; rfl
  · rw[if_neg h]; simpa using h

theorem AV.map1_kill_on (k:Nat) (x:AV):(x.map1 (LV.kill k)).on1 k=false:=by
  cases x with
  | l x=>exact LV.kill_on k x
  | agg cs=>simp[AV.map1,AV.on1,LV.kill_on]
  | tup cs=>rfl

theorem AV.map_kill_on (k:Nat) (x:AV):(x.map (LV.kill k)).on k=false:=by
  cases x with
  | l x=>exact AV.map1_kill_on k (.l x)
  | agg cs=>exact AV.map1_kill_on k (.agg cs)
  | tup cs=>simp[AV.map,AV.on,AV.map1_kill_on]

theorem Free.drop (k:Nat) (s:St):Free k (s.drop k):=by
  refine⟨fun i=>?_,fun f hf i=>?_,fun j cs hj x hx=>?_,by simp[St.drop,assoc_erase],by simp[St.drop,assoc_erase]⟩
  · simp only[St.drop,St.mapL]
    rw[getT_mapT _ (LV.kill_unk k)]
    exact AV.map_kill_on k _
  · simp only[St.drop,St.mapL] at hf
    obtain⟨f0,_,rfl⟩:=List.mem_map.1 hf
    simp only
    rw[getT_mapT _ (LV.kill_unk k)]
    exact AV.map_kill_on k _
  · simp only[St.drop,St.mapL,assoc_erase] at hj
    split at hj
    · cases hj
    · rw[assoc_map] at hj
      obtain⟨cs0,_,rfl⟩:=Option.map_eq_some_iff.1 hj
      obtain⟨y,_,rfl⟩:=List.mem_map.1 hx
      exact LV.kill_on k y

theorem Free.same {k:Nat} {s:St} (h:Free k s):(s.drop k).Same s:=by
  refine⟨fun i=>?_,rfl,⟨by simp[St.drop,St.mapL],fun i f g hf hg=>?_⟩,fun j=>?_,fun j=>?_⟩
  · simp only[St.drop,St.mapL]
    rw[getT_mapT _ (LV.kill_unk k)]
    exact AV.map_kill_free (h.t i)
  · simp only[St.drop,St.mapL,List.getElem?_map,hg,Option.map_some,Option.some.injEq] at hf
    subst hf
    refine⟨rfl,fun j=>?_⟩
    simp only
    rw[getT_mapT _ (LV.kill_unk k)]
    exact AV.map_kill_free (h.up g (List.mem_of_getElem? hg) j)
  · simp only[St.drop,St.mapL,assoc_erase]
    split
    · rename_i e; rw[e]; exact h.nb.symm
    · rw[assoc_map]
      cases hj:assoc s.b j with
      | none=>rfl
      | some cs=>simp only[Option.map_some]; rw[List.map_kill_free (h.b j cs hj)]
  · simp only[St.drop,St.mapL,assoc_erase]
    split
    · rename_i e; rw[e]; exact h.no.symm
    · rfl

theorem St.Same.addBox {s s':St} (h:s.Same s') (k:Nat) (cs:List LV):(s.addBox k cs).Same (s'.addBox k cs):=
  ⟨h.t,h.n,h.up,fun j=>by simp only[St.addBox,assoc_ins]; rw[h.b],h.o⟩
theorem St.Same.addOwn {s s':St} (h:s.Same s') (k:Nat) (x:Own):(s.addOwn k x).Same (s'.addOwn k x):=
  ⟨h.t,h.n,h.up,h.b,fun j=>by simp only[St.addOwn,assoc_ins]; rw[h.o]⟩
theorem St.Same.put {s s':St} (h:s.Same s') (d:Option Nat) (x:AV):(s.put d x).Same (s'.put d x):=by
  cases d with
  | none=>exact h
  | some d=>exact⟨fun i=>by simp only[St.put,getT_setT]; rw[h.t],h.n,h.up,h.b,h.o⟩

/-- A consumed own array is let go (what names it keeps its value, but nothing can be asked of it any more). -/
def St.eatO (s:St) (k:Nat):St:={ s with o:=erase s.o k }

section
variable {w0:World} {p0 p:Nat→Prop} {σ σ':Nat→Value} {s:St} {tm:Array Value} {ups:List (Array Value)} {w w':World}

theorem live_eatO {k j:Nat} (h:(s.eatO k).live j):s.live j:=by
  unfold St.live at *
  refine h.imp id fun h=>?_
  simp only[St.eatO,assoc_erase] at h
  split at h
  · cases h
  · exact h

theorem Rel.eatO (h:Rel w0 p0 p σ s tm ups w) (k:Nat):Rel w0 p0 p σ (s.eatO k) tm ups w:=
  { h with
    o:=fun j x hm=>by
      simp only[St.eatO,assoc_erase] at hm
      split at hm
      · cases hm
      · exact h.o j x hm
    apart:=fun k1 k2 g h1 h2=>h.apart k1 k2 g (live_eatO h1) (live_eatO h2) }

theorem Free.eatO {k j:Nat} (h:Free k s):Free k (s.eatO j):=
  ⟨h.t,h.up,h.b,h.nb,by simp only[St.eatO,assoc_erase]; rw[h.no]; split <;> rfl⟩

theorem Rel.drop (h:Rel w0 p0 p σ s tm ups w) (k:Nat):Rel w0 p0 p σ (s.drop k) tm ups w:=
  h.step k (fun _ _=>rfl) h.below (fun _ _ _=>rfl) (Nat.le_refl _)

theorem Rel.newBoxF (h:Rel w0 p0 p σ s tm ups w) (k:Nat) (cs:List LV) (vs:List Value) (e:TypeId) (hc:All2 (RepL σ w p) cs vs) (hf:Free k s) (hk:∀x∈cs,x.on k=false) :
    Rel w0 p0 p (upd σ k (.pointer (some ⟨w.heap.size,0,none⟩))) (s.addBox k cs) tm ups (w.alloc (.cells vs.toArray e)):=by
  have:=h.newBox k cs vs e hc
  rw[List.map_kill_free hk] at this
  exact this.same (hf.same.addBox k cs)

theorem Rel.newOwnF (h:Rel w0 p0 p σ s tm ups w) (k:Nat) (e:TypeId) (sz:Nat) (rows:List (List D)) (v:Value) (xs:List Value) (row:Option Nat) (hf:Free k s)
    (hg:w.grownBy w' row) (hrow:∀g,row=some g→w0.heap.size≤g∧¬p g∧∀j,j≠k→s.live j→blk (σ j)≠some g)
    (hown:w'.rowM w0.heap.size e sz v rows.length xs) (hv:∀g,blk v=some g→row=some g∨w.heap.size≤g) (hr:∀r∈rows,r.length=sz) (hx:All2 (RepD w p) rows.flatten xs) :
    Rel w0 p0 p (upd σ k v) (s.addOwn k (e,sz,rows)) tm ups w':=
  (h.newOwn k e sz rows v xs row hg hrow hown hv hr hx).same (hf.same.addOwn k _)

end

/-! ### What an operation does to a state -/
structure Eff where
  v:AV
  nb:Option (Nat×List LV):=none
  no:Option (Nat×Own):=none
  eat:Option Nat:=none
  use:List Nat:=[]

def St.apply (s:St) (dst:Option Nat) (ef:Eff):St:=
  let s:=match ef.eat with | some k=>s.eatO k | none=>s
  let s:=match ef.nb with | some (k,cs)=>s.addBox k cs | none=>s
  let s:=match ef.no with | some (k,x)=>s.addOwn k x | none=>s
  s.put dst ef.v

end Go.VC
namespace Go.VC
open Go.RowKit (Below)

theorem flatten_get {α:Type} (sz:Nat):∀(rows:List (List α)),(∀r∈rows,r.length=sz)→∀(i q:Nat),q<sz→rows.flatten[i*sz+q]?=(rows[i]?).bind (·[q]?)
  | [],_,i,q,_=>by simp
  | r::rows,h,i,q,hq=>by
    have hr:r.length=sz:=h r List.mem_cons_self
    cases i with
    | zero=>
      simp only[List.flatten_cons,Nat.zero_mul,Nat.zero_add]
      rw[List.getElem?_append_left (by omega)]
      simp
    | succ i=>
      simp only[List.flatten_cons]
      have e:(i+1)*sz+q=r.length+(i*sz+q):=by rw[hr,Nat.succ_mul]; omega
      rw[e,List.getElem?_append_right (by omega),Nat.add_sub_cancel_left,flatten_get sz rows (fun r hr=>h r (List.mem_cons_of_mem _ hr)) i q hq]
      simp

theorem length_flatten' {α:Type} (sz:Nat) (rows:List (List α)) (h:∀r∈rows,r.length=sz):rows.flatten.length=rows.length*sz:=by
  induction rows with
  | nil=>simp
  | cons r rows ih=>
    rw[List.flatten_cons,List.length_append,ih fun r hr=>h r (List.mem_cons_of_mem _ hr),h r List.mem_cons_self,List.length_cons,Nat.succ_mul]
    omega

theorem choose_list {α:Type} (P:Nat→α→Prop):∀n,(∀j,j<n→∃u,P j u)→∃l:List α,l.length=n∧∀(j:Nat) u,l[j]?=some u→P j u
  | 0,_=>⟨[],rfl,fun j u h=>by simp at h⟩
  | n+1,h=>by
    obtain⟨l,hl,hp⟩:=choose_list P n fun j hj=>h j (by omega)
    obtain⟨u,hu⟩:=h n (by omega)
    refine⟨l++[u],by simp[hl],fun j x hx=>?_⟩
    by_cases hj:j<n
    · rw[List.getElem?_append_left (by omega)] at hx; exact hp j x hx
    · rw[List.getElem?_append_right (by omega)] at hx
      have hlt:j-l.length<[u].length:=(List.getElem?_eq_some_iff.1 hx).1
      have:j=n:=by simp at hlt; omega
      subst this
      rw[hl,Nat.sub_self] at hx
      simp at hx; subst hx; exact hu

/-- A slice value whose elements are these. -/
def SrcOk (w:World) (p:Nat→Prop) (rows:List (List D)) (sz:Nat) (v:Value):Prop:=
  ∃A c,∃news:List Value,v=.slice A rows.length c∧All2 (RepD w p) rows.flatten news ∧
    (A=none→rows.length=0∧c=0)∧∀ad:Addr,A=some ad→∀(j:Nat) u,news[j]?=some u→w.cell? (ad.add j)=some u

theorem SrcOk.of_rep {w:World} {p:Nat→Prop} {rows:List (List D)} {sz:Nat} {v:Value} (h:RepD w p (.sl rows) v) (hr:∀r∈rows,r.length=sz) (hsz:0<sz):SrcOk w p rows sz v:=by
  cases h with
  | sl _ sz' A cap u hlen hcap hnone hA hrow hc hrr=>
    by_cases h0:rows=[]
    · subst h0
      exact⟨A,cap,[],rfl,All2.nil,fun e=>⟨rfl,hnone e⟩,fun ad _ j u h=>by simp at h⟩
    · have hs:sz'=sz:=by
        obtain⟨r,hr0⟩:=List.exists_mem_of_ne_nil rows h0
        rw[←hrow r hr0,hr r hr0]
      subst hs
      cases A with
      | none=>
        have:=hnone rfl
        have:rows.length=0:=by omega
        exact absurd (List.eq_nil_of_length_eq_zero this) h0
      | some ad=>
        obtain⟨l,hl,hp⟩:=choose_list (fun j u=>w.cell? (ad.add j)=some u∧∃x,rows.flatten[j]?=some x∧RepD w p x u) (rows.length*sz') (by
          intro j hj
          have hi:j/sz'<rows.length:=Nat.div_lt_of_lt_mul (by rw[Nat.mul_comm]; exact hj)
          have hq:j%sz'<sz':=Nat.mod_lt _ hsz
          have e:j=j/sz'*sz'+j%sz':=by rw[Nat.mul_comm]; exact (Nat.div_add_mod j sz').symm
          have hri:=List.getElem?_eq_getElem hi
          have hlen2:rows[j/sz'].length=sz':=hrow _ (List.getElem_mem hi)
          have hqi:=List.getElem?_eq_getElem (show j%sz'<rows[j/sz'].length by omega)
          refine⟨u (j/sz') (j%sz'),?_,rows[j/sz'][j%sz'],?_,hrr _ _ _ _ hri hqi⟩
          · have:=hc ad _ _ _ _ rfl hri hqi
            rwa [←e] at this
          · have:=flatten_get sz' rows hrow (j/sz') (j%sz') hq
            rw[←e] at this
            rw[this,hri]
            exact hqi)
        refine⟨some ad,cap,l,rfl,⟨by rw[length_flatten' sz' rows hrow,hl],fun j x u hx hu=>?_⟩,(fun e=>by cases e),fun ad' e j u hu=>?_⟩
        · obtain⟨_,y,hy,hyr⟩:=hp j u hu
          rw[hx] at hy; cases hy; exact hyr
        · cases e; exact (hp j u hu).1

/-! ### Closing -/
def closeL0:LV→Option D
  | .d x=>some x
  | .nil=>some (.sl [])
  | _=>none

def closeLs:List LV→Option (List D)
  | []=>some []
  | x::r=>match closeL0 x,closeLs r with
    | some a,some b=>some (a::b)
    | _,_=>none

theorem closeL0_rep {σ:Nat→Value} {w:World} {p:Nat→Prop} {x:LV} {y:D} {v:Value} (h:RepL σ w p x v) (e:closeL0 x=some y):RepD w p y v:=by
  cases x with
  | d x=>cases e; exact h
  | nil=>
    cases e
    simp only[RepL] at h; subst h
    exact .sl [] 0 none 0 (fun _ _=>undef) (Nat.le_refl _) (Nat.zero_le _) (fun _=>rfl) (fun ad e=>by cases e) (fun r h=>by cases h) (fun ad i j r x e h=>by cases e) (fun i j r x h=>by simp at h)
  | _=>cases e

theorem closeLs_rep {σ:Nat→Value} {w:World} {p:Nat→Prop}:∀{cs:List LV} {ds:List D} {vs:List Value},All2 (RepL σ w p) cs vs→closeLs cs=some ds→All2 (RepD w p) ds vs
  | [],ds,vs,h,e=>by cases e; rw[h.nil_inv]; exact All2.nil
  | x::r,ds,vs,h,e=>by
    obtain⟨v,vs',rfl,h1,h2⟩:=h.cons_inv
    unfold closeLs at e
    split at e
    · rename_i a b ha hb
      cases e
      exact All2.cons (closeL0_rep h1 ha) (closeLs_rep h2 hb)
    · cases e

/-! ### What an operation does -/
/-- The elements that a slice is, and the own arrays that are looked at for it. -/
def rowsOf (ω:Nat→Option Own):AV→Option (List (List D)×List Nat)
  | .l .nil=>some ([],[])
  | .l (.d (.sl rows))=>some (rows,[])
  | .l (.own k)=>match ω k with | some x=>some (x.2.2,[k]) | none=>none
  | .l (.vw k sz lo hi _)=>match ω k with | some x=>if x.2.1=sz then some ((x.2.2.take hi).drop lo,[k]) else none | none=>none
  | _=>none

def pickV (t:Bool) (a b:AV):AV:=
  match a,b with
  | .l (.d (.bool x)),.l (.d (.bool y))=>.l (.d (.bool (if t=true then x else y)))
  | a,b=>if t=true then a else b

/-- A whole number or a bool: what structs are compared by. -/
inductive SC where
  | i (k:IntKind) (n:Int)
  | b (x:Bool)
  deriving DecidableEq
def SC.kd:SC→Option IntKind
  | .i k _=>some k
  | .b _=>none
def SC.v:SC→Value
  | .i k n=>.int k n
  | .b x=>.bool x

def intsOf:List LV→Option (List SC)
  | []=>some []
  | .d (.int k n)::r=>match intsOf r with | some l=>some (.i k n::l) | none=>none
  | .d (.bool x)::r=>match intsOf r with | some l=>some (.b x::l) | none=>none
  | _=>none
def TI.kds (i:TI):Option (List (Option IntKind)):=match intsOf i.zero with | some l=>some (l.map SC.kd) | none=>none

def binK (T:TypeId→Option TI) (t:TypeId) (op:BinOp) (x y:AV) (K:D→Prop):Prop:=
  match x,y with
  | .l (.d (.int k a)),.l (.d (.int k' b))=>k=k'∧match op with
    | .add=>K (.int k (k.wrap (a+b)))
    | .sub=>K (.int k (k.wrap (a-b)))
    | .mul=>K (.int k (k.wrap (a*b)))
    | .quo=>b≠0∧K (.int k (k.wrap (a.tdiv b)))
    | .rem=>b≠0∧K (.int k (a.tmod b))
    | .eql=>K (.bool (decide (a=b)))
    | .neq=>K (.bool (!decide (a=b)))
    | .lss=>K (.bool (decide (a<b)))
    | .leq=>K (.bool (decide (a≤b)))
    | .gtr=>K (.bool (decide (a>b)))
    | .geq=>K (.bool (decide (a≥b)))
    | _=>False
  | .l (.d (.bool a)),.l (.d (.bool b))=>(∃i,T t=some i∧match i.k with | .bool=>True | _=>False)∧match op with
    | .eql=>K (.bool (decide (a=b)))
    | .neq=>K (.bool (!decide (a=b)))
    | _=>False
  | .agg xs,.agg ys=>∃i az bs,T t=some i∧i.eq=true∧intsOf xs=some az∧intsOf ys=some bs∧i.kds=some (az.map SC.kd)∧i.kds=some (bs.map SC.kd)∧match op with
    | .eql=>K (.bool (decide (az=bs)))
    | .neq=>K (.bool (!decide (az=bs)))
    | _=>False
  | _,_=>False

def capsOf:List AV→Option (List Cap)
  | []=>some []
  | .l (.ptr k 0)::r=>match capsOf r with | some l=>some (.k k::l) | none=>none
  | .l (.dptr cs 0)::r=>match capsOf r with | some l=>some (.c cs::l) | none=>none
  | _=>none

/-- A function value: what it has caught, or a method's receiver. -/
def mfOf (f:FuncId) (first:List AV) (caps:List Cap):Option LV:=match first with
  | []=>some (.func f caps)
  | [.l (.ptr k 0)]=>(match caps with | []=>some (.mfn f k) | _=>none)
  | _=>none

/-- 'b' in place from an offset on. -/
def splice {α:Type} (cs:List α) (off:Nat) (b:List α):List α:=cs.take off++b++cs.drop (off+b.length)

def fillL (fs:List (Nat×TypeId)) (T:TypeId→Option TI):List (Nat×AV)→List LV→Option (List LV)
  | [],cs=>some cs
  | (i,x)::r,cs=>match fs[i]?,cellsV x with
    | some (off,ft),some b=>match T ft with
      | some j=>if b.all LV.ok=true∧b.length=j.size∧off+b.length≤cs.length then fillL fs T r (splice cs off b) else none
      | none=>none
    | _,_=>none

/-- The elements of a slice literal, each given, in order. -/
def litRows (sz:Nat):Nat→List (Nat×AV)→Option (List (List D))
  | _,[]=>some []
  | n,(i,x)::r=>match cellsV x with
    | some cs=>match closeLs cs,litRows sz (n+1) r with
      | some ds,some rest=>if i=n∧ds.length=sz then some (ds::rest) else none
      | _,_=>none
    | none=>none

def intOr (d:Int):Option AV→Option Int
  | none=>some d
  | some (.l (.d (.int _ n)))=>some n
  | _=>none

/-- The bounds of a slice expression: from, to. -/
def boundsK (len:Nat) (lo hi:Option AV) (K:Nat→Nat→Prop):Prop:=
  ∃l h:Int,intOr 0 lo=some l∧intOr len hi=some h∧0≤l∧l≤h∧h≤len∧K l.toNat h.toNat

def callBK (T:TypeId→Option TI) (b:Builtin) (ts:List TypeId) (xs:List AV) (ω:Nat→Option Own) (key:Nat) (K:Eff→Prop):Prop:=
  match b,ts,xs with
  | .len,[t],[x]=>∃i,T t=some i∧match i.k,x with
    | .slice _,.l (.d (.sl rows))=>K { v:=.l (.d (.int .i64 rows.length)) }
    | .slice _,.l .nil=>K { v:=.l (.d (.int .i64 0)) }
    | .slice _,.l (.own k)=>(match ω k with | some y=>K { v:=.l (.d (.int .i64 y.2.2.length)),use:=[k] } | none=>False)
    | .str,.l (.d (.str s))=>K { v:=.l (.d (.int .i64 s.size)) }
    | _,_=>False
  | .max,_,[.l (.d (.int k a)),.l (.d (.int _ b))]=>K { v:=.l (.d (.int k (if b>a then b else a))) }
  | .min,_,[.l (.d (.int k a)),.l (.d (.int _ b))]=>K { v:=.l (.d (.int k (if b<a then b else a))) }
  | .append,[t,t'],[x,y]=>t=t'∧∃i,T t=some i∧match i.k with
    | .slice e=>∃ie,T e=some ie∧0<ie.size∧0<ie.bytes∧∃ry uy,rowsOf ω y=some (ry,uy)∧(∀r∈ry,r.length=ie.size)∧match x with
      | .l .nil=>ry.length*ie.bytes≤140737488355328∧K { v:=.l (.own key),no:=some (key,e,ie.size,ry),use:=uy }
      | .l (.own k)=>(match ω k with
        | some z=>z.1=e∧z.2.1=ie.size∧(z.2.2.length+ry.length)*ie.bytes≤140737488355328∧k ∉ uy∧K { v:=.l (.own key),no:=some (key,e,ie.size,z.2.2++ry),eat:=some k,use:=k::uy }
        | none=>False)
      | .l (.vw k sz lo hi full)=>lo=0∧full=true∧sz=ie.size∧0<ry.length∧(match ω k with
        | some z=>z.1=e∧z.2.1=ie.size∧hi≤z.2.2.length∧(hi+ry.length)*ie.bytes≤140737488355328∧K { v:=.l (.own key),no:=some (key,e,ie.size,z.2.2.take hi++ry),use:=k::uy }
        | none=>False)
      | _=>False
    | _=>False
  | _,_,_=>False

def sliceK (sz:Nat) (x:AV) (lo hi mx:Option AV) (ω:Nat→Option Own) (K:Eff→Prop):Prop:=
  match x with
  | .l (.d (.sl rows))=>boundsK rows.length lo hi fun l h=>(l=0∨∀r∈rows,r.length=sz)∧(mx=none∨mx=hi)∧K { v:=.l (.d (.sl ((rows.take h).drop l))) }
  | .l (.own k)=>(match ω k with
    | some z=>z.2.1=sz∧boundsK z.2.2.length lo hi fun l h=>(mx=none∨mx=hi)∧K { v:=.l (.vw k sz l h mx.isSome),use:=[k] }
    | none=>False)
  | _=>False

def effK (T:TypeId→Option TI) (o:Oper) (ρ:Operand→AV) (β:Nat→Option (List LV)) (ω:Nat→Option Own) (key:Nat) (K:Eff→Prop):Prop:=
  match o.op with
  | .move x=>K { v:=ρ x }
  | .assign x=>K { v:=ρ x }
  | .pick c a b=>(match ρ c with | .l (.d (.bool t))=>K { v:=pickV t (ρ a) (ρ b) } | _=>False)
  | .alloc e=>(match T e with | some i=>K { v:=.l (.ptr key 0),nb:=some (key,i.zero) } | none=>False)
  | .box _ x=>(match cellsV (ρ x) with | some cs=>cs.all LV.ok=true∧K { v:=.l (.ptr key 0),nb:=some (key,cs) } | none=>False)
  | .load t x=>(match T t with
    | some i=>0<i.size∧(match ρ x with
      | .l (.ptr k off)=>(match β k with | some cs=>off+i.size≤cs.length∧K { v:=loadV i cs off,use:=[k] } | none=>False)
      | .l (.dptr cells off)=>off+i.size≤cells.length∧K { v:=loadV i (cells.map .d) off }
      | .l (.eptr k r sz off)=>(match ω k with
        | some z=>z.2.1=sz∧∃row,z.2.2[r]?=some row∧off+i.size≤sz∧K { v:=loadV i (row.map .d) off,use:=[k] }
        | none=>False)
      | _=>False)
    | none=>False)
  | .fieldAddr t x f=>(match T t with
    | some i=>(match i.k with
      | .struct fs=>(match fs[f]? with
        | some (off',ft)=>(match T ft with
          | some j=>0<j.size∧(match ρ x with
            | .l (.ptr k off)=>K { v:=.l (.ptr k (off+off')) }
            | .l (.dptr cs off)=>K { v:=.l (.dptr cs (off+off')) }
            | .l (.eptr k r sz off)=>K { v:=.l (.eptr k r sz (off+off')) }
            | _=>False)
          | none=>False)
        | none=>False)
      | _=>False)
    | none=>False)
  | .field t x f=>(match T t with
    | some i=>(match i.k with
      | .struct fs=>(match fs[f]? with
        | some (off',ft)=>(match T ft with
          | some j=>0<j.size∧(match ρ x with
            | .agg cs=>off'+j.size≤cs.length∧K { v:=loadV j cs off' }
            | _=>False)
          | none=>False)
        | none=>False)
      | _=>False)
    | none=>False)
  | .indexAddr t x ix=>(match T t with
    | some i=>(match i.k with
      | .slice e=>(match T e with
        | some ie=>0<ie.size∧(match ρ x,ρ ix with
          | .l (.d (.sl rows)),.l (.d (.int _ n))=>0≤n∧∃row,rows[n.toNat]?=some row∧row.length=ie.size∧K { v:=.l (.dptr row 0) }
          | .l (.own k),.l (.d (.int _ n))=>(match ω k with
            | some z=>z.2.1=ie.size∧0≤n∧n<z.2.2.length∧K { v:=.l (.eptr k n.toNat ie.size 0),use:=[k] }
            | none=>False)
          | .l (.bsl k m sz),.l (.d (.int _ n))=>sz=ie.size∧0≤n∧n<(m:Int)∧K { v:=.l (.ptr k (n.toNat*sz)),use:=[k] }
          | _,_=>False)
        | none=>False)
      | _=>False)
    | none=>False)
  | .binOp op t x y _=>binK T t op (ρ x) (ρ y) fun d=>K { v:=.l (.d d) }
  | .unOp .not _ x=>(match ρ x with | .l (.d (.bool b))=>K { v:=.l (.d (.bool (!b))) } | _=>False)
  | .unOp .neg _ x=>(match ρ x with | .l (.d (.int k n))=>K { v:=.l (.d (.int k (k.wrap (0-n)))) } | _=>False)
  | .convert src dst x=>(∃i j,T src=some i∧T dst=some j∧match i.k,j.k,ρ x with
    | .int _,.int k,.l (.d (.int _ n))=>K { v:=.l (.d (.int k (k.wrap n))) }
    | _,_,_=>False)
  | .makeFunc (.func f) first caps=>(match capsOf (caps.toList.map ρ) with | some cs=>(match mfOf f (first.toList.map ρ) cs with | some x=>K { v:=.l x } | none=>False) | none=>False)
  | .slice t x lo hi mx=>(match T t with
    | some i=>(match i.k with
      | .slice e=>(match T e with | some ie=>sliceK ie.size (ρ x) (lo.map ρ) (hi.map ρ) (mx.map ρ) ω K | none=>False)
      | _=>False)
    | none=>False)
  | .build t parts=>(match T t with
    | some i=>(match i.k with
      | .struct fs=>(match fillL fs T (parts.toList.map fun x=>(x.1,ρ x.2)) i.zero with | some cs=>K { v:=.agg cs } | none=>False)
      | _=>False)
    | none=>False)
  | .buildSlice t len parts=>(match T t with
    | some i=>(match i.k with
      | .slice e=>(match T e with
        | some ie=>0<ie.size∧len*ie.size≤1000000∧(match litRows ie.size 0 (parts.toList.map fun x=>(x.1,ρ x.2)) with
          | some rows=>rows.length=len∧K { v:=.l (.own key),no:=some (key,e,ie.size,rows) }
          | none=>False)
        | none=>False)
      | _=>False)
    | none=>False)
  | .makeSlice t l c=>(match T t with
    | some i=>(match i.k with
      | .slice e=>(match T e with
        | some ie=>0<ie.size∧(match ρ l,ρ c,closeLs ie.zero with
          | .l (.d (.int _ n)),.l (.d (.int _ m)),some z=>n=m∧0≤n∧n*ie.bytes≤140737488355328∧n≤1000000000000∧K { v:=.l (.own key),no:=some (key,e,ie.size,List.replicate n.toNat z) }
          | _,_,_=>False)
        | none=>False)
      | _=>False)
    | none=>False)
  | .extract x i=>(match ρ x with | .tup cs=>(match cs[i]? with | some (.l y)=>K { v:=.l y } | some (.agg y)=>K { v:=.agg y } | _=>False) | _=>False)
  | .nilCheck x=>(match ρ x with | .l (.ptr k off)=>K { v:=.l (.ptr k off) } | .l (.dptr cs off)=>K { v:=.l (.dptr cs off) } | .l (.eptr k i sz off)=>K { v:=.l (.eptr k i sz off) } | _=>False)
  | .call c=>(match c.callee with
    | .builtin b=>callBK T b c.argTypes.toList (c.args.toList.map ρ) ω key K
    | _=>False)
  | _=>False

end Go.VC
namespace Go.VC
open Go.RowKit (Below)

def Oper.makes (o:Oper):Bool:=
  match o.op with
  | .alloc _ | .box _ _ | .buildSlice _ _ _ | .makeSlice _ _ _=>true
  | .call { callee:=.builtin .append,.. }=>true
  | _=>false

section
variable {P:Program} {T:TypeId→Option TI} {w0:World} {p0 p:Nat→Prop} {σ:Nat→Value} {s:St} {tm:Array Value} {ups:List (Array Value)} {w:World} {ds:List Deferred}

/-- What soundness of an operation says. -/
def Sound (P:Program) (w0:World) (p0 p:Nat→Prop) (s:St) (tm:Array Value) (ups:List (Array Value)) (w:World) (ds:List Deferred) (o:Oper) (K:Eff→Prop):Prop:=
  ∃ef,K ef∧∃v w' σ',(execOp (Act.eval ⟨tm,ds⟩) o).run P w=.ok (.value v) w'∧Rel w0 p0 p σ' (s.apply o.dst ef) (Act.put ⟨tm,ds⟩ o.dst v).tmps ups w'

theorem Sound.pure (h:Rel w0 p0 p σ s tm ups w) {o:Oper} {K:Eff→Prop} (hd:∀d,o.dst=some d→d<s.n) (av:AV) (us:List Nat) (v:Value) (hk:K { v:=av,use:=us })
    (hv:RepV σ w p av v) (hr:(execOp (Act.eval ⟨tm,ds⟩) o).run P w=.ok (.value v) w):Sound P w0 p0 p s tm ups w ds o K:=
  ⟨_,hk,v,w,σ,hr,h.put o.dst av v hd hv ds⟩

theorem RepD_int {k:IntKind} {n:Int} {v:Value} (h:RepD w p (.int k n) v):v=.int k n:=by cases h; rfl
theorem RepD_bool {b:Bool} {v:Value} (h:RepD w p (.bool b) v):v=.bool b:=by cases h; rfl
theorem RepD_str {b:ByteArray} {v:Value} (h:RepD w p (.str b) v):v=.string b:=by cases h; rfl
theorem RepD_sl {rows:List (List D)} {v:Value} (h:RepD w p (.sl rows) v):∃A c,v=.slice A rows.length c∧rows.length≤c∧c≤maxLen:=by
  cases h with
  | sl _ sz A cap u hlen hcap=>exact⟨A,cap,rfl,hlen,hcap⟩

/-- The cells behind an own box's address. -/
theorem BoxOk.cells {k:Nat} {cs:List LV} {base:Nat} (h:BoxOk σ w p base k cs):∃g,σ k=.pointer (some ⟨g,0,none⟩) ∧
    ∀(j:Nat) (x:LV),cs[j]?=some x→∃u,w.cell? ((⟨g,0,none⟩:Addr).add j)=some u∧RepL σ w p x u:=by
  obtain⟨g,ty,vs,e,_,_,hg,hr⟩:=h
  refine⟨g,e,fun j x hx=>?_⟩
  obtain⟨u,hu,hru⟩:=hr.get hx
  refine⟨u,?_,hru⟩
  rw[Addr.add_mid,Nat.zero_add,cell_of_row w g j _ ty _ hg]
  simpa using hu

theorem run_exec_load (t:TypeId) (x:Operand) {o:Oper} (ho:o.op=.load t x) (ρ:Operand→Value) (v:Value) (h:(Instr.loadAt t (ρ x)).run P w=.ok v w) :
    (execOp ρ o).run P w=.ok (.value v) w:=by
  unfold execOp
  simp only[ho,Sem.run_bind,h,Result.andThen_ok,Sem.run_pure]

theorem sound_load (hT:∀t i,T t=some i→TIok P t i) (h:Rel w0 p0 p σ s tm ups w) {o:Oper} {K:Eff→Prop} {key:Nat} (hd:∀d,o.dst=some d→d<s.n) (t:TypeId) (x:Operand) (ho:o.op=.load t x)
    (he:effK T o s.eval (assoc s.b) (assoc s.o) key K):Sound P w0 p0 p s tm ups w ds o K:=by
  unfold effK at he
  simp only[ho] at he
  have hx:=h.eval (ds:=ds) x
  split at he
  · rename_i i hi
    obtain⟨hsz,he⟩:=he
    have ht:=hT t i hi
    split at he
    · rename_i k off hρ
      rw[hρ] at hx
      obtain⟨b,hb,hv⟩:=hx
      split at he
      · rename_i cs hcs
        obtain⟨hlen,hk⟩:=he
        obtain⟨g,hg,hc⟩:=(h.b k cs hcs).cells
        rw[hg] at hb; cases hb
        obtain⟨v,hr,hrep⟩:=run_load (P:=P) (w:=w) (σ:=σ) (p:=p) ht ⟨b,0,none⟩ cs off hlen hsz hc
        refine Sound.pure h hd _ _ v hk hrep (run_exec_load t x ho _ v ?_)
        rw[hv]
        rwa [Addr.add_mid,Nat.zero_add] at hr
      · exact he.elim
    · rename_i cells off hρ
      rw[hρ] at hx
      obtain⟨ad,hv,hcd⟩:=hx
      obtain⟨hlen,hk⟩:=he
      obtain⟨v,hr,hrep⟩:=run_load (P:=P) (w:=w) (σ:=σ) (p:=p) ht ad (cells.map .d) off (by simpa using hlen) hsz (fun j x hx=>by
        rw[List.getElem?_map] at hx
        obtain⟨y,hy,rfl⟩:=Option.map_eq_some_iff.1 hx
        exact hcd.2 j y hy)
      refine Sound.pure h hd _ _ v hk hrep (run_exec_load t x ho _ v ?_)
      rw[hv]; exact hr
    · rename_i k r sz off hρ
      rw[hρ] at hx
      obtain⟨b,n,c,hs,hv⟩:=hx
      split at he
      · rename_i z hz
        obtain⟨hsz2,row,hrow,hlen,hk⟩:=he
        obtain⟨xs,h1,h2,h3,h4⟩:=h.o k z hz
        have hrl:row.length=z.2.1:=h2 row (List.mem_of_getElem? hrow)
        obtain⟨v,hr,hrep⟩:=run_load (P:=P) (w:=w) (σ:=σ) (p:=p) ht ⟨b,r*sz,none⟩ (row.map .d) off (by simp; omega) hsz (fun j x hx=>by
          rw[List.getElem?_map] at hx
          obtain⟨y,hy,rfl⟩:=Option.map_eq_some_iff.1 hx
          have hj:j<z.2.1:=by rw[←hrl]; exact (List.getElem?_eq_some_iff.1 hy).1
          have hf:=flatten_get z.2.1 z.2.2 h2 r j hj
          rw[hrow,Option.bind_some,hy] at hf
          obtain⟨u,hu,hru⟩:=h3.get hf
          have:=h1.cells (g:=b) (by rw[hs]; rfl) _ u hu
          rw[Addr.add_mid,Nat.zero_add] at this
          rw[Addr.add_mid,←hsz2]
          exact⟨u,this,hru⟩)
        refine Sound.pure h hd _ _ v hk hrep (run_exec_load t x ho _ v ?_)
        rw[hv]
        rwa [Addr.add_mid] at hr
      · exact he.elim
    · exact he.elim
  · exact he.elim

theorem run_fieldPlace {ft:TypeId} {j:TI} (hj:TIok P ft j) (hsz:0<j.size) (F:Field) (hF:F.type=ft) (a:Addr):(fieldPlace a F).run P w=.ok (a.add F.offset) w:=by
  obtain⟨jj,z,h1,h2,_⟩:=hj.info
  unfold fieldPlace
  simp only[sizeOf,typeInfo,Sem.run_bind,run_program,Result.andThen_ok,hF,h1,Sem.run_pure,h2]
  rw[if_neg (by omega)]
  rfl

theorem sound_fieldAddr (hT:∀t i,T t=some i→TIok P t i) (h:Rel w0 p0 p σ s tm ups w) {o:Oper} {K:Eff→Prop} {key:Nat} (hd:∀d,o.dst=some d→d<s.n) (t:TypeId) (x:Operand) (f:Nat) (ho:o.op=.fieldAddr t x f)
    (he:effK T o s.eval (assoc s.b) (assoc s.o) key K):Sound P w0 p0 p s tm ups w ds o K:=by
  unfold effK at he
  simp only[ho] at he
  have hx:=h.eval (ds:=ds) x
  split at he <;> try exact he.elim
  rename_i i hi
  split at he <;> try exact he.elim
  rename_i fs hfs
  split at he <;> try exact he.elim
  rename_i off' ft hf
  split at he <;> try exact he.elim
  rename_i j hj
  obtain⟨hsz,he⟩:=he
  obtain⟨d,hdd,hk⟩:=(hT t i hi).desc
  rw[hfs] at hk
  obtain⟨F,rfl,_,hF⟩:=hk
  obtain⟨fd,hfd,hfo,hft⟩:=hF f off' ft hf
  have run:∀ad,Act.eval ⟨tm,ds⟩ x=.pointer (some ad)→(execOp (Act.eval ⟨tm,ds⟩) o).run P w=.ok (.value (.pointer (some (ad.add off')))) w:=by
    intro ad had
    unfold execOp
    simp only[ho,had,Instr.fieldAt,Instr.sureAddr,Sem.run_bind,run_underlying hdd,Result.andThen_ok,hfd,Sem.run_pure,run_fieldPlace (hT ft j hj) hsz fd hft,hfo]
  split at he
  · rename_i k off hρ
    rw[hρ] at hx
    obtain⟨b,hb,hv⟩:=hx
    exact Sound.pure h hd _ [] _ he ⟨b,hb,by rw[Addr.add_mid]⟩ (run _ hv)
  · rename_i cs off hρ
    rw[hρ] at hx
    obtain⟨ad,hv,hcd⟩:=hx
    exact Sound.pure h hd _ [] _ he ⟨ad,by rw[add_add],hcd⟩ (run _ hv)
  · rename_i k r sz off hρ
    rw[hρ] at hx
    obtain⟨b,n,c,hs,hv⟩:=hx
    exact Sound.pure h hd _ [] _ he ⟨b,n,c,hs,by rw[Addr.add_mid,Nat.add_assoc]⟩ (run _ hv)
  · exact he.elim

theorem run_part {ft:TypeId} {j:TI} (hj:TIok P ft j) (hsz:0<j.size) {cs:List LV} {vs:List Value} (hc:All2 (RepL σ w p) cs vs) (off:Nat) (hlen:off+j.size≤cs.length) :
    ∃v,(part ft vs.toArray off).run P w=.ok v w∧RepV σ w p (loadV j cs off) v:=by
  obtain⟨d,hd,hrow⟩:=hj.row
  obtain⟨jj,z,h1,h2,_⟩:=hj.info
  unfold part loadV
  rw[Sem.run_bind,run_isAgg hd,Result.andThen_ok,hrow]
  by_cases hr:j.k.row=true
  · simp only[hr,if_true,Sem.run_bind,sizeOf,typeInfo,run_program,Result.andThen_ok,h1,Sem.run_pure,h2]
    refine⟨_,rfl,(vs.drop off).take j.size,?_,(hc.drop off).take j.size⟩
    congr 1
    apply Array.ext'
    simp[List.take_drop]
  · simp only[hr,Bool.false_eq_true,if_false]
    have hx:=List.getElem?_eq_getElem (show off<cs.length by omega)
    obtain⟨u,hu,hru⟩:=hc.get hx
    rw[hx]
    refine⟨u,?_,hru⟩
    simp[hu]

theorem sound_field (hT:∀t i,T t=some i→TIok P t i) (h:Rel w0 p0 p σ s tm ups w) {o:Oper} {K:Eff→Prop} {key:Nat} (hd:∀d,o.dst=some d→d<s.n) (t:TypeId) (x:Operand) (f:Nat) (ho:o.op=.field t x f)
    (he:effK T o s.eval (assoc s.b) (assoc s.o) key K):Sound P w0 p0 p s tm ups w ds o K:=by
  unfold effK at he
  simp only[ho] at he
  have hx:=h.eval (ds:=ds) x
  split at he <;> try exact he.elim
  rename_i i hi
  split at he <;> try exact he.elim
  rename_i fs hfs
  split at he <;> try exact he.elim
  rename_i off' ft hf
  split at he <;> try exact he.elim
  rename_i j hj
  obtain⟨hsz,he⟩:=he
  split at he <;> try exact he.elim
  rename_i cs hρ
  rw[hρ] at hx
  obtain⟨vs,hv,hcs⟩:=hx
  obtain⟨hlen,hk2⟩:=he
  obtain⟨d,hdd,hk⟩:=(hT t i hi).desc
  rw[hfs] at hk
  obtain⟨F,rfl,_,hF⟩:=hk
  obtain⟨fd,hfd,hfo,hft⟩:=hF f off' ft hf
  obtain⟨v,hr,hrep⟩:=run_part (P:=P) (hT ft j hj) hsz hcs off' hlen
  refine Sound.pure h hd _ [] v hk2 hrep ?_
  unfold execOp
  simp only[ho,hv,Instr.field,Sem.run_bind,run_underlying hdd,Result.andThen_ok,hfd,asAgg,Sem.run_pure,hft,hfo,hr]

end
end Go.VC
namespace Go.VC
open Go.RowKit (Below)

section
variable {P:Program} {T:TypeId→Option TI} {w0:World} {p0 p:Nat→Prop} {σ:Nat→Value} {s:St} {tm:Array Value} {ups:List (Array Value)} {w:World} {ds:List Deferred}

theorem run_sizeOf' {t:TypeId} {i:TI} (h:TIok P t i) (w:World):(sizeOf t).run P w=.ok i.size w:=by
  obtain⟨jj,z,h1,h2,_⟩:=h.info
  simp only[sizeOf,typeInfo,Sem.run_bind,run_program,Result.andThen_ok,h1,Sem.run_pure,h2]

theorem desc_slice {t:TypeId} {i:TI} {e:TypeId} (h:TIok P t i) (hk:i.k=.slice e):P.underlying t=some (.slice e):=by
  obtain⟨d,hd,hh⟩:=h.desc
  rw[hk] at hh
  simp only[DescOk] at hh
  rw[hd,hh]

theorem sound_indexAddr (hT:∀t i,T t=some i→TIok P t i) (h:Rel w0 p0 p σ s tm ups w) {o:Oper} {K:Eff→Prop} {key:Nat} (hd:∀d,o.dst=some d→d<s.n) (t:TypeId) (x ix:Operand) (ho:o.op=.indexAddr t x ix)
    (he:effK T o s.eval (assoc s.b) (assoc s.o) key K):Sound P w0 p0 p s tm ups w ds o K:=by
  unfold effK at he
  simp only[ho] at he
  have hx:=h.eval (ds:=ds) x
  have hix:=h.eval (ds:=ds) ix
  split at he <;> try exact he.elim
  rename_i i hi
  split at he <;> try exact he.elim
  rename_i e hke
  split at he <;> try exact he.elim
  rename_i ie hie
  obtain⟨hsz,he⟩:=he
  have hu:=desc_slice (hT t i hi) hke
  have run:∀(ad:Addr) len c kk (n:Int),Act.eval ⟨tm,ds⟩ x=.slice (some ad) len c→Act.eval ⟨tm,ds⟩ ix=.int kk n→0≤n→n<len→(execOp (Act.eval ⟨tm,ds⟩) o).run P w=.ok (.value (.pointer (some (ad.add (n.toNat*ie.size))))) w:=by
    intro ad len c kk n hxv hiv h0 h1
    unfold execOp
    simp only[ho,hxv,hiv,Instr.indexAt,asIntOf,Sem.run_bind,Sem.run_pure,Result.andThen_ok,run_underlying hu]
    rw[if_pos ⟨h0,h1⟩]
    simp only[Sem.run_bind,run_sizeOf' (hT e ie hie),Result.andThen_ok,Sem.run_pure]
  split at he
  · rename_i rows kk n hρ hρi
    rw[hρ] at hx
    rw[hρi] at hix
    obtain⟨h0,row,hrow,hrl,hk⟩:=he
    have hiv:=RepD_int hix
    have hx':RepD w p (.sl rows) (Act.eval ⟨tm,ds⟩ x):=hx
    generalize hv:Act.eval ⟨tm,ds⟩ x=v at hx'
    cases hx' with
    | sl _ sz A cap u hlen hcap hnone hA hrw hc hr=>
      have hlt:n.toNat<rows.length:=(List.getElem?_eq_some_iff.1 hrow).1
      cases A with
      | none=>have:=hnone rfl; omega
      | some ad=>
        have hs:sz=ie.size:=by rw[←hrl]; exact (hrw row (List.mem_of_getElem? hrow)).symm
        refine Sound.pure h hd _ [] _ hk ⟨ad.add (n.toNat*ie.size),by rw[add_add,Nat.add_zero],by rw[add_block]; exact hA ad rfl (fun e=>by subst e; simp at hlt),fun j y hy=>?_⟩ (run ad _ _ kk n hv hiv h0 (by omega))
        rw[add_add,←hs]
        exact⟨_,hc ad _ _ _ _ rfl hrow hy,hr _ _ _ _ hrow hy⟩
  · rename_i k kk n hρ hρi
    rw[hρ] at hx
    rw[hρi] at hix
    have hiv:=RepD_int hix
    split at he <;> try exact he.elim
    rename_i z hz
    obtain⟨hzs,h0,h1,hk⟩:=he
    obtain⟨hv,_⟩:=hx
    obtain⟨xs,ho1,_⟩:=h.o k z hz
    rcases ho1.2 with ⟨_,hn⟩ | ⟨g,cap,cur,hvs,_⟩
    · omega
    · rw[hvs] at hv
      refine Sound.pure h hd _ [k] _ hk ⟨g,_,cap,hvs,?_⟩ (run ⟨g,0,none⟩ _ _ kk n hv hiv h0 (by omega))
      rw[Addr.add_mid,Nat.zero_add,Nat.add_zero]
  · rename_i k m sz kk n hρ hρi
    rw[hρ] at hx
    rw[hρi] at hix
    have hiv:=RepD_int hix
    obtain⟨rfl,h0,h1,hk⟩:=he
    obtain⟨_,b,hb,hv⟩:=hx
    refine Sound.pure h hd _ [k] _ hk ⟨b,hb,?_⟩ (run ⟨b,0,none⟩ _ _ kk n hv hiv h0 h1)
    rw[Addr.add_mid,Nat.zero_add]
  · exact he.elim

theorem intsOf_rep:∀{cs:List LV} {az:List SC} {vs:List Value},All2 (RepL σ w p) cs vs→intsOf cs=some az→vs=az.map SC.v
  | [],az,vs,h,e=>by cases e; exact h.nil_inv
  | .d (.int k n)::r,az,vs,h,e=>by
    obtain⟨v,vs',rfl,h1,h2⟩:=h.cons_inv
    unfold intsOf at e
    split at e
    · rename_i l hl
      cases e
      rw[intsOf_rep h2 hl,RepD_int h1]
      rfl
    · cases e
  | .d (.bool n)::r,az,vs,h,e=>by
    obtain⟨v,vs',rfl,h1,h2⟩:=h.cons_inv
    unfold intsOf at e
    split at e
    · rename_i l hl
      cases e
      rw[intsOf_rep h2 hl,RepD_bool h1]
      rfl
    · cases e
  | .unk::_,_,_,_,e=>by cases e
  | .d (.str _)::_,_,_,_,e=>by cases e
  | .d (.sl _)::_,_,_,_,e=>by cases e
  | .d (.fn _ _)::_,_,_,_,e=>by cases e
  | .d .nilfn::_,_,_,_,e=>by cases e
  | .nil::_,_,_,_,e=>by cases e
  | .nilptr::_,_,_,_,e=>by cases e
  | .ptr _ _::_,_,_,_,e=>by cases e
  | .dptr _ _::_,_,_,_,e=>by cases e
  | .own _::_,_,_,_,e=>by cases e
  | .eptr _ _ _ _::_,_,_,_,e=>by cases e
  | .vw _ _ _ _ _::_,_,_,_,e=>by cases e
  | .func _ _::_,_,_,_,e=>by cases e
  | .mfn _ _::_,_,_,_,e=>by cases e
  | .bsl _ _ _::_,_,_,_,e=>by cases e
  | .raw _::_,_,_,_,e=>by cases e

/-- What '==' of structs of this type tells. -/
def EqTells (P:Program) (t:TypeId) (ks:List (Option IntKind)):Prop:=
  ∀(w:World) (x y:Operand) (az bs:List SC),az.map SC.kd=ks→bs.map SC.kd=ks→∀op,(op=.eql∨op=.neq) →
    (do eqGuard op t x y (.agg (az.map SC.v).toArray) (.agg (bs.map SC.v).toArray)
        binOp op t (.agg (az.map SC.v).toArray) (.agg (bs.map SC.v).toArray):Sem Value).run P w
      = .ok (.bool (if op=.eql then decide (az=bs) else !decide (az=bs))) w

theorem run_equal_bool {t:TypeId} (hu:P.underlying t=some .bool) (a b:Bool) (w:World):(Op.equal t (.bool a) (.bool b)).run P w=.ok (a == b) w:=by
  have:∀d,(Op.equalIn (d+1) t (.bool a) (.bool b)).run P w=.ok (a == b) w:=by
    intro d
    unfold Op.equalIn
    simp only[Sem.run_bind,run_underlying hu,Result.andThen_ok,Sem.run_pure]
  exact this 9999

theorem sound_binOp (hT:∀t i,T t=some i→TIok P t i) (hE:∀t i,T t=some i→i.eq=true→∀ks,i.kds=some ks→EqTells P t ks) (h:Rel w0 p0 p σ s tm ups w) {o:Oper} {K:Eff→Prop} {key:Nat} (hd:∀d,o.dst=some d→d<s.n) (op:BinOp) (t:TypeId) (x y:Operand) (t':TypeId) (ho:o.op=.binOp op t x y t')
    (he:effK T o s.eval (assoc s.b) (assoc s.o) key K):Sound P w0 p0 p s tm ups w ds o K:=by
  unfold effK at he
  simp only[ho] at he
  have hx:=h.eval (ds:=ds) x
  have hy:=h.eval (ds:=ds) y
  have fin:∀(d:D) (v:Value),K { v:=.l (.d d) }→RepD w p d v→((do eqGuard op t x y (Act.eval ⟨tm,ds⟩ x) (Act.eval ⟨tm,ds⟩ y); binOp op t (Act.eval ⟨tm,ds⟩ x) (Act.eval ⟨tm,ds⟩ y)):Sem Value).run P w=.ok v w→Sound P w0 p0 p s tm ups w ds o K:=by
    intro d v hk hv hr
    refine Sound.pure h hd _ [] v hk hv ?_
    unfold execOp
    simp only[ho]
    simp only[Sem.run_bind] at hr ⊢
    rw[hr]
    rfl
  unfold binK at he
  split at he
  · rename_i k a k' b hρ hρ'
    rw[hρ] at hx
    rw[hρ'] at hy
    rw[RepD_int hx,RepD_int hy] at fin
    obtain⟨rfl,he⟩:=he
    cases op <;> simp only at he <;> try exact he.elim
    case add=>exact fin _ _ he (.int _ _) (by simp[eqGuard,binOp,Op.intArith])
    case sub=>exact fin _ _ he (.int _ _) (by simp[eqGuard,binOp,Op.intArith])
    case mul=>exact fin _ _ he (.int _ _) (by simp[eqGuard,binOp,Op.intArith])
    case quo=>exact fin _ _ he.2 (.int _ _) (by simp[eqGuard,binOp,Op.intDiv,he.1])
    case rem=>exact fin _ _ he.2 (.int _ _) (by simp[eqGuard,binOp,Op.intDiv,he.1])
    case eql=>exact fin _ _ he (.bool _) (by simp[eqGuard,binOp,Op.intCmp,BEq.beq])
    case neq=>exact fin _ _ he (.bool _) (by simp[eqGuard,binOp,Op.intCmp,bne,BEq.beq])
    case lss=>exact fin _ _ he (.bool _) (by simp[eqGuard,binOp,Op.intCmp])
    case leq=>exact fin _ _ he (.bool _) (by simp[eqGuard,binOp,Op.intCmp])
    case gtr=>exact fin _ _ he (.bool _) (by simp[eqGuard,binOp,Op.intCmp])
    case geq=>exact fin _ _ he (.bool _) (by simp[eqGuard,binOp,Op.intCmp])
  · rename_i a b hρ hρ'
    rw[hρ] at hx
    rw[hρ'] at hy
    rw[RepD_bool hx,RepD_bool hy] at fin
    obtain⟨⟨i,hi,hik⟩,he⟩:=he
    have hu:P.underlying t=some .bool:=by
      obtain⟨d,hdd,hh⟩:=(hT t i hi).desc
      cases hk:i.k <;> rw[hk] at hik hh <;> simp only[DescOk] at hik hh
      rw[hdd,hh]
    cases op <;> simp only at he <;> try exact he.elim
    case eql=>exact fin _ _ he (.bool _) (by
      have e1:eqGuard .eql t x y (.bool a) (.bool b)=(Pure.pure ():Sem Unit):=rfl
      have e2:binOp .eql t (.bool a) (.bool b)=(do Pure.pure (.bool (←Op.equal t (.bool a) (.bool b)))):=rfl
      rw[e1,e2]
      simp only[Sem.run_bind,Sem.run_pure,Result.andThen_ok,run_equal_bool hu]
      cases a <;> cases b <;> rfl)
    case neq=>exact fin _ _ he (.bool _) (by
      have e1:eqGuard .neq t x y (.bool a) (.bool b)=(Pure.pure ():Sem Unit):=rfl
      have e2:binOp .neq t (.bool a) (.bool b)=(do Pure.pure (.bool (!(←Op.equal t (.bool a) (.bool b))))):=rfl
      rw[e1,e2]
      simp only[Sem.run_bind,Sem.run_pure,Result.andThen_ok,run_equal_bool hu]
      cases a <;> cases b <;> rfl)
  · rename_i xs ys hρ hρ'
    rw[hρ] at hx
    rw[hρ'] at hy
    obtain⟨i,az,bs,hi,hie,ha,hb,hal,hbl,he⟩:=he
    obtain⟨vs,hv,hvs⟩:=hx
    obtain⟨us,hu,hus⟩:=hy
    rw[intsOf_rep hvs ha] at hv
    rw[intsOf_rep hus hb] at hu
    rw[hv,hu] at fin
    cases op <;> simp only at he <;> try exact he.elim
    case eql=>exact fin _ _ he (.bool _) (by rw[hE t i hi hie _ hal w x y az bs rfl (Option.some.inj (hbl.symm.trans hal)) .eql (.inl rfl)]; rfl)
    case neq=>exact fin _ _ he (.bool _) (by rw[hE t i hi hie _ hal w x y az bs rfl (Option.some.inj (hbl.symm.trans hal)) .neq (.inr rfl)]; rfl)
  · exact he.elim

theorem sound_unOp (h:Rel w0 p0 p σ s tm ups w) {o:Oper} {K:Eff→Prop} {key:Nat} (hd:∀d,o.dst=some d→d<s.n) (op:UnOp) (t:TypeId) (x:Operand) (ho:o.op=.unOp op t x)
    (he:effK T o s.eval (assoc s.b) (assoc s.o) key K):Sound P w0 p0 p s tm ups w ds o K:=by
  unfold effK at he
  have hx:=h.eval (ds:=ds) x
  cases op <;> simp only[ho] at he <;> try exact he.elim
  all_goals
    split at he <;> try exact he.elim
  · rename_i k n hρ
    rw[hρ] at hx
    refine Sound.pure h hd _ [] _ he (RepD.int k _) ?_
    unfold execOp
    simp only[ho,RepD_int hx,Op.unary,Op.intArith,Sem.run_bind,Sem.run_pure,Result.andThen_ok]
  · rename_i b hρ
    rw[hρ] at hx
    refine Sound.pure h hd _ [] _ he (RepD.bool _) ?_
    unfold execOp
    simp only[ho,RepD_bool hx,Op.unary,Sem.run_bind,Sem.run_pure,Result.andThen_ok]

theorem sound_convert (hT:∀t i,T t=some i→TIok P t i) (h:Rel w0 p0 p σ s tm ups w) {o:Oper} {K:Eff→Prop} {key:Nat} (hd:∀d,o.dst=some d→d<s.n) (a b:TypeId) (x:Operand) (ho:o.op=.convert a b x)
    (he:effK T o s.eval (assoc s.b) (assoc s.o) key K):Sound P w0 p0 p s tm ups w ds o K:=by
  unfold effK at he
  simp only[ho] at he
  have hx:=h.eval (ds:=ds) x
  obtain⟨i,j,hi,hj,he⟩:=he
  split at he <;> try exact he.elim
  rename_i k1 k2 k3 n hk1 hk2 hρ
  rw[hρ] at hx
  obtain⟨d1,hd1,hh1⟩:=(hT a i hi).desc
  obtain⟨d2,hd2,hh2⟩:=(hT b j hj).desc
  rw[hk1] at hh1; rw[hk2] at hh2
  simp only[DescOk] at hh1 hh2
  subst hh1; subst hh2
  refine Sound.pure h hd _ [] _ he (RepD.int k2 _) ?_
  unfold execOp
  simp only[ho,RepD_int hx,convert,Sem.run_bind,run_underlying hd1,run_underlying hd2,Result.andThen_ok,Conv.intToInt,Sem.run_pure]

theorem capsOf_rep:∀{xs:List AV} {cs:List Cap} {vs:List Value},All2 (RepV σ w p) xs vs→capsOf xs=some cs→All2 (RepCap σ w p) cs vs
  | [],cs,vs,h,e=>by cases e; rw[h.nil_inv]; exact All2.nil
  | x::r,cs,vs,h,e=>by
    obtain⟨v,vs',rfl,h1,h2⟩:=h.cons_inv
    unfold capsOf at e
    split at e
    · rename_i heq; cases heq
    · rename_i k r' heq
      cases heq
      split at e
      · rename_i l hl
        cases e
        obtain⟨b,hb,hv⟩:=h1
        exact All2.cons ⟨by rw[hb]; exact hv,b,hb⟩ (capsOf_rep h2 hl)
      · cases e
    · rename_i c r' heq
      cases heq
      split at e
      · rename_i l hl
        cases e
        obtain⟨ad,hv,hc⟩:=h1
        exact All2.cons ⟨ad,by rw[hv]; rfl,hc⟩ (capsOf_rep h2 hl)
      · cases e
    · cases e

theorem evals (h:Rel w0 p0 p σ s tm ups w) (xs:List Operand):All2 (RepV σ w p) (xs.map s.eval) (xs.map (Act.eval ⟨tm,ds⟩)):=by
  induction xs with
  | nil=>exact All2.nil
  | cons x r ih=>exact All2.cons (h.eval x) ih

theorem sound_makeFunc (h:Rel w0 p0 p σ s tm ups w) {o:Oper} {K:Eff→Prop} {key:Nat} (hd:∀d,o.dst=some d→d<s.n) (f:Fn) (first caps:Array Operand) (ho:o.op=.makeFunc f first caps)
    (he:effK T o s.eval (assoc s.b) (assoc s.o) key K):Sound P w0 p0 p s tm ups w ds o K:=by
  unfold effK at he
  cases f <;> simp only[ho] at he <;> try exact he.elim
  rename_i f
  split at he <;> try exact he.elim
  rename_i cs hcs
  have hv:=capsOf_rep (evals (ds:=ds) h caps.toList) hcs
  have hf:=evals (ds:=ds) h first.toList
  split at he <;> try exact he.elim
  rename_i x hx
  have hc:∀a:Array Operand,a.map (Act.eval ⟨tm,ds⟩)=(a.toList.map (Act.eval ⟨tm,ds⟩)).toArray:=fun a=>by apply Array.ext'; simp
  have hrun:(execOp (Act.eval ⟨tm,ds⟩) o).run P w=.ok (.value (.func (.func f) (first.toList.map (Act.eval ⟨tm,ds⟩)).toArray (caps.toList.map (Act.eval ⟨tm,ds⟩)).toArray)) w:=by
    unfold execOp
    simp only[ho,Instr.makeFunc,Sem.run_bind,Sem.run_pure,Result.andThen_ok,hc]
  refine Sound.pure h hd _ [] _ he ?_ hrun
  unfold mfOf at hx
  split at hx
  · rename_i h0
    cases hx
    rw[h0] at hf
    rw[hf.nil_inv]
    exact⟨_,rfl,hv⟩
  · rename_i k h0
    split at hx
    · cases hx
      rw[hv.nil_inv]
      rw[h0] at hf
      obtain⟨v,vs',e1,⟨b,hb,hv1⟩,h3⟩:=hf.cons_inv
      rw[e1,h3.nil_inv]
      exact⟨by rw[hb,hv1],b,hb⟩
    · cases hx
  · cases hx

theorem sound_extract (h:Rel w0 p0 p σ s tm ups w) {o:Oper} {K:Eff→Prop} {key:Nat} (hd:∀d,o.dst=some d→d<s.n) (x:Operand) (i:Nat) (ho:o.op=.extract x i)
    (he:effK T o s.eval (assoc s.b) (assoc s.o) key K):Sound P w0 p0 p s tm ups w ds o K:=by
  unfold effK at he
  simp only[ho] at he
  have hx:=h.eval (ds:=ds) x
  split at he <;> try exact he.elim
  rename_i cs hρ
  rw[hρ] at hx
  obtain⟨vs,hv,hcs⟩:=hx
  have fin:∀y,cs[i]?=some y→(∀zs,y≠.tup zs)→K { v:=y }→Sound P w0 p0 p s tm ups w ds o K:=by
    intro y hy hne hk
    obtain⟨u,hu,hru⟩:=hcs.get hy
    have hru':RepV σ w p y u:=by cases y <;> first | exact hru | exact absurd rfl (hne _)
    refine Sound.pure h hd _ [] u hk hru' ?_
    unfold execOp
    simp only[ho,hv,Instr.extract,Sem.run_bind]
    simp[hu]
  split at he <;> try exact he.elim
  · rename_i y hy; exact fin _ hy (fun zs e=>by cases e) he
  · rename_i y hy; exact fin _ hy (fun zs e=>by cases e) he

theorem sound_nilCheck (h:Rel w0 p0 p σ s tm ups w) {o:Oper} {K:Eff→Prop} {key:Nat} (hd:∀d,o.dst=some d→d<s.n) (x:Operand) (ho:o.op=.nilCheck x)
    (he:effK T o s.eval (assoc s.b) (assoc s.o) key K):Sound P w0 p0 p s tm ups w ds o K:=by
  unfold effK at he
  simp only[ho] at he
  have hx:=h.eval (ds:=ds) x
  split at he <;> try exact he.elim
  · rename_i k off hρ
    rw[hρ] at hx
    obtain⟨b,hb,hv⟩:=hx
    refine Sound.pure h hd _ [] (.pointer (some ⟨b,off,none⟩)) he ⟨b,hb,rfl⟩ ?_
    unfold execOp
    simp only[ho,hv,Sem.run_pure]
  · rename_i cs off hρ
    rw[hρ] at hx
    obtain⟨ad,hv,hc⟩:=hx
    refine Sound.pure h hd _ [] (.pointer (some (ad.add off))) he ⟨ad,rfl,hc⟩ ?_
    unfold execOp
    simp only[ho,hv,Sem.run_pure]
  · rename_i k i sz off hρ
    rw[hρ] at hx
    obtain⟨b,n,c,hs,hv⟩:=hx
    refine Sound.pure h hd _ [] (.pointer (some ⟨b,i*sz+off,none⟩)) he ⟨b,n,c,hs,rfl⟩ ?_
    unfold execOp
    simp only[ho,hv,Sem.run_pure]

theorem sound_pick (h:Rel w0 p0 p σ s tm ups w) {o:Oper} {K:Eff→Prop} {key:Nat} (hd:∀d,o.dst=some d→d<s.n) (c a b:Operand) (ho:o.op=.pick c a b)
    (he:effK T o s.eval (assoc s.b) (assoc s.o) key K):Sound P w0 p0 p s tm ups w ds o K:=by
  unfold effK at he
  simp only[ho] at he
  have hc:=h.eval (ds:=ds) c
  have ha:=h.eval (ds:=ds) a
  have hb:=h.eval (ds:=ds) b
  split at he <;> try exact he.elim
  rename_i t hρ
  rw[hρ] at hc
  refine Sound.pure h hd _ [] (if t=true then Act.eval ⟨tm,ds⟩ a else Act.eval ⟨tm,ds⟩ b) he ?_ ?_
  · unfold pickV
    split
    · rename_i x y hx hy
      rw[hx] at ha; rw[hy] at hb
      rw[RepD_bool ha,RepD_bool hb]
      by_cases ht:t=true
      · simp only[ht,if_true]; exact RepD.bool x
      · simp only[ht,if_false]; exact RepD.bool y
    · by_cases ht:t=true
      · simp only[ht,if_true]; exact ha
      · simp only[ht,if_false]; exact hb
  · unfold execOp
    simp only[ho,RepD_bool hc,asBool,Sem.run_bind,Sem.run_pure,Result.andThen_ok]

end
end Go.VC
namespace Go.VC
open Go.RowKit (Below)

section
variable {P:Program} {T:TypeId→Option TI} {w0:World} {p0 p:Nat→Prop} {σ:Nat→Value} {s:St} {tm:Array Value} {ups:List (Array Value)} {w:World} {ds:List Deferred}

theorem sound_alloc (hT:∀t i,T t=some i→TIok P t i) (h:Rel w0 p0 p σ s tm ups w) {o:Oper} {K:Eff→Prop} {key:Nat} (hd:∀d,o.dst=some d→d<s.n) (hf:Free key s) (e:TypeId) (ho:o.op=.alloc e)
    (he:effK T o s.eval (assoc s.b) (assoc s.o) key K):Sound P w0 p0 p s tm ups w ds o K:=by
  unfold effK at he
  simp only[ho] at he
  split at he <;> try exact he.elim
  rename_i i hi
  obtain⟨j,z,h1,h2,h3,h4,h5,h6,h7⟩:=(hT e i hi).info
  have hrep:All2 (RepL σ w p) i.zero z.cells.toList:=by rw[←h5]; exact constL_rep_all _ σ w p
  have hon:∀x∈i.zero,x.on key=false:=by
    intro x hx
    rw[←h5] at hx
    obtain⟨v,_,rfl⟩:=List.mem_map.1 hx
    unfold constL
    split <;> rfl
  refine⟨_,he,.pointer (some ⟨w.heap.size,0,none⟩),w.alloc (.cells z.cells.toList.toArray e),_,?_,((h.newBoxF key i.zero z.cells.toList e hrep hf hon).put o.dst (.l (.ptr key 0)) _ hd ⟨w.heap.size,upd_same _ _ _,rfl⟩ ds)⟩
  unfold execOp
  simp only[ho,Instr.alloc,Sem.run_bind,zeroValue,typeInfo,run_program,Result.andThen_ok,h1,Sem.run_pure,h4,newVar,newRow,newObj,Array.toArray_toList]
  rfl

theorem sound_box (h:Rel w0 p0 p σ s tm ups w) {o:Oper} {K:Eff→Prop} {key:Nat} (hd:∀d,o.dst=some d→d<s.n) (hf:Free key s) (e:TypeId) (x:Operand) (ho:o.op=.box e x)
    (he:effK T o s.eval (assoc s.b) (assoc s.o) key K):Sound P w0 p0 p s tm ups w ds o K:=by
  unfold effK at he
  simp only[ho] at he
  have hx:=h.eval (ds:=ds) x
  split at he <;> try exact he.elim
  rename_i cs hcs
  obtain⟨hok,hk⟩:=he
  have hc:=(cellsV_ok hx hcs hok).1
  have hev:(s.eval x).on key=false:=by
    cases x with
    | tmp t=>exact hf.t t
    | const v=>
      simp only[St.eval]
      have hL:∀v:Value,(constL v).on key=false:=fun v=>by unfold constL; split <;> rfl
      unfold constV
      split
      · simp[AV.on,AV.on1,hL]
      · exact hL _
    | global g=>rfl
    | func f=>rfl
  have hon:∀y∈cs,y.on key=false:=by
    intro y hy
    revert hev hcs
    cases s.eval x with
    | l z=>intro hcs hev; cases hcs; simp at hy; subst hy; exact hev
    | agg cs'=>intro hcs hev; cases hcs; simp only[AV.on,AV.on1,List.any_eq_false] at hev; simpa using hev y hy
    | tup _=>intro hcs; cases hcs
  refine⟨_,hk,.pointer (some ⟨w.heap.size,0,none⟩),w.alloc (.cells (Act.eval ⟨tm,ds⟩ x).cells.toList.toArray e),_,?_,((h.newBoxF key cs _ e hc hf hon).put o.dst (.l (.ptr key 0)) _ hd ⟨w.heap.size,upd_same _ _ _,rfl⟩ ds)⟩
  unfold execOp
  simp only[ho,Instr.box,Sem.run_bind,newVar,newRow,newObj,Array.toArray_toList]
  rfl

theorem getElem?_splice {α:Type} (cs b:List α) (off k:Nat) (h:off+b.length≤cs.length):(splice cs off b)[k]?=if k<off then cs[k]? else if k<off+b.length then b[k-off]? else cs[k]?:=by
  unfold splice
  by_cases h1:k<off
  · rw[if_pos h1,List.append_assoc,List.getElem?_append_left (by simp; omega),List.getElem?_take,if_pos h1]
  · rw[if_neg h1]
    have hl:(cs.take off).length=off:=by simp; omega
    by_cases h2:k<off+b.length
    · rw[if_pos h2,List.getElem?_append_left (by simp; omega),List.getElem?_append_right (by omega),hl]
    · rw[if_neg h2,List.getElem?_append_right (by simp; omega),List.getElem?_drop]
      congr 1
      simp; omega

theorem length_splice {α:Type} (cs b:List α) (off:Nat) (h:off+b.length≤cs.length):(splice cs off b).length=cs.length:=by
  unfold splice; simp; omega

theorem All2.splice {α β:Type} {R:α→β→Prop} {cs b:List α} {vs u:List β} (h:All2 R cs vs) (hb:All2 R b u) (off:Nat):All2 R (Go.VC.splice cs off b) (Go.VC.splice vs off u):=by
  unfold Go.VC.splice
  rw[←hb.1]
  exact ((h.take off).append hb).append (h.drop _)

theorem foldl_set_toList (b:List Value):∀(off j:Nat) (cs:Array Value),off+j+b.length≤cs.size →
    ((b.zipIdx j).foldl (fun cs (x:Value×Nat)=>cs.setIfInBounds (off+x.2) x.1) cs).toList=splice cs.toList (off+j) b:=by
  induction b with
  | nil=>intro off j cs _; simp[splice]
  | cons v b ih=>
    intro off j cs hle
    simp only[List.length_cons] at hle
    simp only[List.zipIdx_cons,List.foldl_cons]
    rw[ih off (j+1) _ (by simp; omega)]
    apply List.ext_getElem?
    intro k
    rw[getElem?_splice _ _ _ _ (by simp; omega),getElem?_splice _ _ _ _ (by simp; omega)]
    simp only[Array.toList_setIfInBounds,List.getElem?_set,List.length_cons]
    by_cases h1:k<off+j
    · rw[if_pos (by omega),if_pos h1,if_neg (by omega)]
    · by_cases h2:k=off+j
      · subst h2
        have a1:off+j<off+(j+1):=by omega
        have a3:off+j<off+j+(b.length+1):=by omega
        have a4:off+j<cs.size:=by omega
        simp[a1,a3,a4]
      · rw[if_neg (by omega),if_neg h1]
        by_cases h3:k<off+(j+1)+b.length
        · rw[if_pos h3,if_pos (by omega)]
          have:k-(off+j)=(k-(off+(j+1)))+1:=by omega
          rw[this]
          simp
        · rw[if_neg h3,if_neg (by omega),if_neg (by omega)]

theorem fillL_rep {fs:List (Nat×TypeId)} {places:Nat→Option (Nat×Nat)} (hp:∀i off ft j,fs[i]?=some (off,ft)→T ft=some j→places i=some (off,j.size)) :
    ∀(ps:List (Nat×AV)) (vs:List (Nat×Value)) (cs:List LV) (us:Array Value) (cs':List LV),ps.map (·.1)=vs.map (·.1)→All2 (RepV σ w p) (ps.map (·.2)) (vs.map (·.2)) →
      (∀(i:Nat) x v,ps[i]?=some x→vs[i]?=some v→∀c,cellsV x.2=some c→c.all LV.ok=true→All2 (RepL σ w p) c v.2.cells.toList) →
      All2 (RepL σ w p) cs us.toList→fillL fs T ps cs=some cs'→∃us',Instr.fill places us vs=some us'∧All2 (RepL σ w p) cs' us'.toList
  | [],vs,cs,us,cs',hi,hr,hcl,hc,hf=>by
    have:vs=[]:=by cases vs <;> simp_all
    subst this
    cases hf
    exact⟨us,rfl,hc⟩
  | (i,x)::ps,vs,cs,us,cs',hi,hr,hcl,hc,hf=>by
    cases vs with
    | nil=>simp at hi
    | cons v vs=>
      obtain⟨i',v⟩:=v
      simp only[List.map_cons,List.cons.injEq] at hi
      obtain⟨rfl,hi⟩:=hi
      unfold fillL at hf
      split at hf <;> try cases hf
      rename_i off ft b hfi hb
      split at hf <;> try cases hf
      rename_i j hj
      split at hf <;> try cases hf
      rename_i hcond
      have hbc:=hcl 0 _ _ rfl rfl b hb hcond.1
      replace hcond:=hcond.2
      have hsize:v.cells.size=j.size:=by
        rw[←Array.length_toList,←hbc.1]; exact hcond.1
      have hcl2:cs.length=us.size:=by rw[hc.1]; simp
      obtain⟨y,ys,e,h1,h2⟩:=hr.cons_inv
      simp only[List.map_cons,List.cons.injEq] at e
      obtain⟨rfl,rfl⟩:=e
      unfold Instr.fill
      rw[hp _ off ft j hfi hj]
      simp only
      have hcond2:¬(v.cells.size≠j.size || decide (off+v.cells.size>us.size))=true:=by
        have:=hcond.1
        have:=hcond.2
        simp; omega
      rw[if_neg hcond2]
      refine fillL_rep hp ps vs (splice cs off b) _ cs' hi h2 (fun q x v hx hv c hc' hk'=>hcl (q+1) x v hx hv c hc' hk') ?_ hf
      have e:(v.cells.zipIdx.foldl (fun cs (x:Value×Nat)=>cs.setIfInBounds (off+x.2) x.1) us).toList=splice us.toList off v.cells.toList:=by
        have:=foldl_set_toList v.cells.toList off 0 us (by have:=hcond.1; have:=hcond.2; simp; omega)
        rw[Nat.add_zero] at this
        rw[←this,←Array.foldl_toList,Array.toList_zipIdx]
      show All2 (RepL σ w p) (splice cs off b) (v.cells.zipIdx.foldl (fun cs (x:Value×Nat)=>cs.setIfInBounds (off+x.2) x.1) us).toList
      rw[e]
      exact hc.splice hbc off

end
end Go.VC
namespace Go.VC
open Go.RowKit (Below)

section
variable {P:Program} {T:TypeId→Option TI} {w0:World} {p0 p:Nat→Prop} {σ:Nat→Value} {s:St} {tm:Array Value} {ups:List (Array Value)} {w:World} {ds:List Deferred}

theorem sound_build (hT:∀t i,T t=some i→TIok P t i) (h:Rel w0 p0 p σ s tm ups w) {o:Oper} {K:Eff→Prop} {key:Nat} (hd:∀d,o.dst=some d→d<s.n) (t:TypeId) (parts:Array (Nat×Operand)) (ho:o.op=.build t parts)
    (hpl:∀i fs,T t=some i→i.k=.struct fs→∃F:Array Field,P.underlying t=some (.struct F)∧∃places:Array (Nat×Nat),(F.mapM (fun f=>do Pure.pure (f.offset,←sizeOf f.type)):Sem (Array (Nat×Nat))).run P w=.ok places w∧∀(q off:Nat) ft j,fs[q]?=some (off,ft)→T ft=some j→places[q]?=some (off,j.size))
    (he:effK T o s.eval (assoc s.b) (assoc s.o) key K):Sound P w0 p0 p s tm ups w ds o K:=by
  unfold effK at he
  simp only[ho] at he
  split at he <;> try exact he.elim
  rename_i i hi
  split at he <;> try exact he.elim
  rename_i fs hfs
  split at he <;> try exact he.elim
  rename_i cs hcs
  obtain⟨j,z,h1,h2,h3,h4,h5,h6,h7⟩:=(hT t i hi).info
  obtain⟨F,hF,places,hpr,hpp⟩:=hpl i fs hi hfs
  have hz:All2 (RepL σ w p) i.zero z.cells.toList:=by rw[←h5]; exact constL_rep_all _ σ w p
  have hmap:(parts.map fun x=>(x.1,Act.eval ⟨tm,ds⟩ x.2)).toList=parts.toList.map fun x=>(x.1,Act.eval ⟨tm,ds⟩ x.2):=by simp
  obtain⟨us,hus,hur⟩:=fillL_rep (σ:=σ) (w:=w) (p:=p) (places:=(places[·]?)) hpp (parts.toList.map fun x=>(x.1,s.eval x.2)) (parts.toList.map fun x=>(x.1,Act.eval ⟨tm,ds⟩ x.2)) i.zero z.cells cs
    (by simp) (by simpa [List.map_map,Function.comp_def] using evals (ds:=ds) h (parts.toList.map (·.2)))
    (fun q x v hx hv c hc hok=>by
      rw[List.getElem?_map] at hx hv
      obtain⟨a,ha,rfl⟩:=Option.map_eq_some_iff.1 hx
      rw[ha] at hv
      cases hv
      exact (cellsV_ok (h.eval (ds:=ds) a.2) hc hok).1) hz hcs
  refine Sound.pure h hd _ [] (.agg us) he ⟨us.toList,by simp,hur⟩ ?_
  unfold execOp
  simp only[ho,Instr.build,Sem.run_bind,zeroValue,typeInfo,run_program,Result.andThen_ok,h1,Sem.run_pure,h4,run_underlying hF]
  rw[hpr]
  simp only[Result.andThen_ok]
  rw[show (Array.map (fun x=>(x.fst,Act.eval ⟨tm,ds⟩ x.snd)) parts).toList=parts.toList.map fun x=>(x.1,Act.eval ⟨tm,ds⟩ x.2) by simp,hus]
  rfl

theorem litRows_cons {sz n i:Nat} {x:AV} {ps:List (Nat×AV)} {rows:List (List D)} (h:litRows sz n ((i,x)::ps)=some rows) :
    ∃cs ds rest,cellsV x=some cs∧closeLs cs=some ds∧litRows sz (n+1) ps=some rest∧i=n∧ds.length=sz∧rows=ds::rest:=by
  unfold litRows at h
  cases h1:cellsV x with
  | none=>rw[h1] at h; cases h
  | some cs=>
    rw[h1] at h
    simp only at h
    cases h2:closeLs cs with
    | none=>rw[h2] at h; cases h
    | some ds=>
      rw[h2] at h
      cases h3:litRows sz (n+1) ps with
      | none=>rw[h3] at h; cases h
      | some rest=>
        rw[h3] at h
        simp only at h
        split at h
        · rename_i hc; cases h; exact⟨cs,ds,rest,rfl,h2,rfl,hc.1,hc.2,rfl⟩
        · cases h

theorem litRows_len {sz:Nat}:∀{n:Nat} {ps:List (Nat×AV)} {rows:List (List D)},litRows sz n ps=some rows→rows.length=ps.length∧∀r∈rows,r.length=sz
  | n,[],rows,h=>by cases h; exact⟨rfl,fun r hr=>by cases hr⟩
  | n,(i,x)::ps,rows,h=>by
    obtain⟨cs,ds,rest,hcs,hds,hrest,hi,hl,rfl⟩:=litRows_cons h
    have:=litRows_len hrest
    exact⟨by simp[this.1],fun r hr=>by
      rcases List.mem_cons.1 hr with rfl | hr
      · exact hl
      · exact this.2 r hr⟩

theorem closeLs_ok:∀{cs:List LV} {ds:List D},closeLs cs=some ds→cs.all LV.ok=true
  | [],_,_=>rfl
  | x::r,ds,h=>by
    unfold closeLs at h
    split at h <;> try cases h
    rename_i a b ha hb
    simp only[List.all_cons,closeLs_ok hb,Bool.and_true]
    cases x <;> first | rfl | cases ha

/-- The values of a slice literal: each with its cells. -/
theorem litRows_rep {sz:Nat}:∀{n:Nat} {ps:List (Nat×AV)} {rows:List (List D)} {vs:List Value},litRows sz n ps=some rows→All2 (RepV σ w p) (ps.map (·.2)) vs →
    ps.map (·.1)=(List.range' n ps.length)∧(∀v∈vs,v.cells.size=sz)∧All2 (RepD w p) rows.flatten (vs.flatMap fun v=>v.cells.toList)∧∀v∈vs,∀u∈v.cells.toList,u.oneCell'=true
  | n,[],rows,vs,h,hr=>by
    cases h
    rw[hr.nil_inv]
    exact⟨rfl,(fun v hv=>by cases hv),All2.nil,(fun v hv=>by cases hv)⟩
  | n,(i,x)::ps,rows,vs,h,hr=>by
    obtain⟨cs,ds,rest,hcs,hds,hrest,hc1,hc2,rfl⟩:=litRows_cons h
    obtain⟨v,vs',rfl,h1,h2⟩:=hr.cons_inv
    obtain⟨g1,g2,g3,g4⟩:=litRows_rep hrest h2
    have hok:=cellsV_ok h1 hcs (closeLs_ok hds)
    have hd:=closeLs_rep hok.1 hds
    have hsz:v.cells.size=sz:=by rw[←Array.length_toList,←hd.1]; exact hc2
    refine⟨?_,?_,?_,?_⟩
    · simp only[List.map_cons,List.length_cons,List.range'_succ,hc1]; rw[g1]
    · intro u hu
      rcases List.mem_cons.1 hu with rfl | hu
      · exact hsz
      · exact g2 u hu
    · simp only[List.flatten_cons,List.flatMap_cons]
      exact hd.append g3
    · intro u hu
      rcases List.mem_cons.1 hu with rfl | hu
      · exact hok.2
      · exact g4 u hu

theorem zipIdx_eq (vs:List Value) (n:Nat):(vs.zipIdx n).map (fun x=>(x.2,x.1))=(List.range' n vs.length).zip vs:=by
  induction vs generalizing n with
  | nil=>rfl
  | cons v vs ih=>simp[List.zipIdx_cons,List.range'_succ,ih]

theorem zip_map_fst_snd {α β:Type} (l:List (α×β)):(l.map (·.1)).zip (l.map (·.2))=l:=by
  induction l with
  | nil=>rfl
  | cons a l ih=>simp[ih]

theorem run_buildSlice' {t e:TypeId} {len:Nat} {ie:TI} (hT:TIok P e ie) (hu:P.underlying t=some (.slice e)) (hsz:0<ie.size) (hsm:len*ie.size≤1000000)
    (parts:List (Nat×Value)) (hi:parts.map (·.1)=List.range' 0 len) (hv:∀v∈parts.map (·.2),v.cells.size=ie.size) :
    ∃cells:Array Value,(Instr.buildSlice t len parts.toArray).run P w=.ok (.slice (some ⟨w.heap.size,0,none⟩) len len) (w.alloc (.cells cells e))∧cells.size=len*ie.size∧cells.toList=(parts.map (·.2)).flatMap fun v=>v.cells.toList:=by
  obtain⟨j,z,h1,h2,h3,h4,h5,h6,h7⟩:=hT.info
  have hlen:(parts.map (·.2)).length=len:=by
    have:=congrArg List.length hi
    simpa using this
  by_cases h0:len=0
  · subst h0
    have hp:parts=[]:=by
      have:parts.length=0:=by simpa using hlen
      exact List.eq_nil_of_length_eq_zero this
    subst hp
    refine⟨#[],?_,by simp,rfl⟩
    simp[Instr.buildSlice,run_underlying hu,sizeOf,typeInfo,h1,Instr.fill,newRow,newObj,Array.range_zero',Sem.run]
  · have hpos:¬len*ie.size=0:=by
      intro e
      rcases Nat.mul_eq_zero.1 e with e | e <;> omega
    obtain⟨r,hr,hrs,hrk⟩:=Great.fill_dense (s:=ie.size) hsz (parts.map (·.2)) 0 ((Array.range (len*ie.size)).map (z.cells[·%z.cells.size]!)) (fun v hv'=>hv v hv') (by simp only[Array.size_map,Array.size_range,Nat.zero_add,hlen]; exact Nat.le_refl _)
    rw[zipIdx_eq,hlen,←hi,zip_map_fst_snd] at hr
    refine⟨r,run_buildSlice w t e len parts.toArray r j z hu h1 h4 (by rw[h2]; omega) (by rw[h2]; exact hpos) (by rw[h2]; simpa using hr),by rw[hrs]; simp,?_⟩
    have hsize:r.size=len*ie.size:=by rw[hrs]; simp
    -- the cells, one by one
    have hfl:(parts.map (·.2)).flatMap (fun v=>v.cells.toList)=((parts.map (·.2)).map fun v=>v.cells.toList).flatten:=by rw[List.flatMap_def]
    have hrl:∀x∈((parts.map (·.2)).map fun v=>v.cells.toList),x.length=ie.size:=by
      intro x hx
      obtain⟨v,hv',rfl⟩:=List.mem_map.1 hx
      rw[Array.length_toList]; exact hv v hv'
    rw[hfl]
    apply List.ext_getElem?
    intro k
    by_cases hk:k<len*ie.size
    · have e:k=k/ie.size*ie.size+k%ie.size:=by rw[Nat.mul_comm]; exact (Nat.div_add_mod k ie.size).symm
      have:=flatten_get ie.size _ hrl (k/ie.size) (k%ie.size) (Nat.mod_lt _ hsz)
      rw[←e] at this
      rw[this,Array.getElem?_toList,hrk k,if_pos ⟨by omega,by rw[Nat.zero_add,hlen]; exact hk⟩]
      simp only[Nat.sub_zero,List.getElem?_map]
      cases (parts[k/ie.size]?) with
      | none=>rfl
      | some x=>simp
    · rw[List.getElem?_eq_none (by simp[hsize]; omega),List.getElem?_eq_none]
      rw[length_flatten' ie.size _ hrl,List.length_map,hlen]; omega

theorem sound_buildSlice (hT:∀t i,T t=some i→TIok P t i) (h:Rel w0 p0 p σ s tm ups w) {o:Oper} {K:Eff→Prop} {key:Nat} (hd:∀d,o.dst=some d→d<s.n) (hf:Free key s) (t:TypeId) (len:Nat) (parts:Array (Nat×Operand)) (ho:o.op=.buildSlice t len parts)
    (he:effK T o s.eval (assoc s.b) (assoc s.o) key K):Sound P w0 p0 p s tm ups w ds o K:=by
  unfold effK at he
  simp only[ho] at he
  split at he <;> try exact he.elim
  rename_i i hi
  split at he <;> try exact he.elim
  rename_i e hke
  split at he <;> try exact he.elim
  rename_i ie hie
  obtain⟨hsz,hsm,he⟩:=he
  split at he <;> try exact he.elim
  rename_i rows hrows
  obtain⟨hlen,hk⟩:=he
  have hu:=desc_slice (hT t i hi) hke
  have hev:All2 (RepV σ w p) ((parts.toList.map fun x=>(x.1,s.eval x.2)).map (·.2)) ((parts.toList.map fun x=>(x.1,Act.eval ⟨tm,ds⟩ x.2)).map (·.2)):=by
    simpa [List.map_map,Function.comp_def] using evals (ds:=ds) h (parts.toList.map (·.2))
  obtain⟨g1,g2,g3,g4⟩:=litRows_rep hrows hev
  have hll:=litRows_len hrows
  have hpl:parts.toList.length=len:=by rw[←hlen,hll.1]; simp
  obtain⟨cells,hr,hcs,hct⟩:=run_buildSlice' (P:=P) (w:=w) (hT e ie hie) hu hsz hsm (parts.toList.map fun x=>(x.1,Act.eval ⟨tm,ds⟩ x.2))
    (by simp only[List.map_map,List.length_map,hpl] at g1 ⊢; exact g1) g2
  have hrun:(execOp (Act.eval ⟨tm,ds⟩) o).run P w=.ok (.value (.slice (some ⟨w.heap.size,0,none⟩) len len)) (w.alloc (.cells cells e)):=by
    unfold execOp
    simp only[ho,Sem.run_bind]
    rw[show (Array.map (fun x=>(x.fst,Act.eval ⟨tm,ds⟩ x.snd)) parts)=(parts.toList.map fun x=>(x.1,Act.eval ⟨tm,ds⟩ x.2)).toArray by apply Array.ext'; simp,hr]
    rfl
  have hl1:len≤len*ie.size:=Nat.le_mul_of_pos_right _ hsz
  have hnew:=h.newOwnF key e ie.size rows (.slice (some ⟨w.heap.size,0,none⟩) len len) cells.toList none hf (World.grownBy_alloc w _ none) (fun g e=>by cases e)
    (by rw[hlen]; exact (World.ownsRow_lit w cells len h.below.size (by unfold maxLen; omega) hcs).m) (fun g e=>.inr (by cases e; exact Nat.le_refl _)) hll.2
    (by rw[hct]; exact g3)
  exact⟨_,hk,_,_,_,hrun,hnew.put o.dst (.l (.own key)) _ hd ⟨(upd_same _ _ _).symm,_,_,_,upd_same _ _ _⟩ ds⟩

end
end Go.VC
namespace Go.VC
open Go.RowKit (Below)

section
variable {P:Program} {T:TypeId→Option TI} {w0:World} {p0 p:Nat→Prop} {σ:Nat→Value} {s:St} {tm:Array Value} {ups:List (Array Value)} {w:World} {ds:List Deferred}

theorem flatten_replicate_get {α:Type} (z:List α) (n k:Nat) (hz:0<z.length):(List.replicate n z).flatten[k]?=if k<n*z.length then z[k%z.length]? else none:=by
  by_cases hk:k<n*z.length
  · rw[if_pos hk]
    have e:k=k/z.length*z.length+k%z.length:=by rw[Nat.mul_comm]; exact (Nat.div_add_mod k z.length).symm
    have:=flatten_get z.length (List.replicate n z) (fun r hr=>by rw[(List.mem_replicate.1 hr).2]) (k/z.length) (k%z.length) (Nat.mod_lt _ hz)
    rw[←e] at this
    rw[this,List.getElem?_replicate,if_pos (Nat.div_lt_of_lt_mul (by rw[Nat.mul_comm]; exact hk))]
    rfl
  · rw[if_neg hk,List.getElem?_eq_none]
    rw[length_flatten' z.length _ (fun r hr=>by rw[(List.mem_replicate.1 hr).2]),List.length_replicate]; omega

theorem sound_makeSlice (hT:∀t i,T t=some i→TIok P t i) (h:Rel w0 p0 p σ s tm ups w) {o:Oper} {K:Eff→Prop} {key:Nat} (hd:∀d,o.dst=some d→d<s.n) (hf:Free key s) (t:TypeId) (l c:Operand) (ho:o.op=.makeSlice t l c)
    (he:effK T o s.eval (assoc s.b) (assoc s.o) key K):Sound P w0 p0 p s tm ups w ds o K:=by
  unfold effK at he
  simp only[ho] at he
  have hl:=h.eval (ds:=ds) l
  have hc:=h.eval (ds:=ds) c
  split at he <;> try exact he.elim
  rename_i i hi
  split at he <;> try exact he.elim
  rename_i e hke
  split at he <;> try exact he.elim
  rename_i ie hie
  obtain⟨hsz,he⟩:=he
  split at he <;> try exact he.elim
  rename_i k1 n k2 m z hρl hρc hz
  rw[hρl] at hl
  rw[hρc] at hc
  obtain⟨rfl,h0,hb,hn,hk⟩:=he
  have hu:=desc_slice (hT t i hi) hke
  obtain⟨j,zv,h1,h2,h3,h4,h5,h6,h7⟩:=(hT e ie hie).info
  obtain⟨N,rfl⟩:∃N:Nat,n=N:=⟨n.toNat,by omega⟩
  have hb':N*ie.bytes≤140737488355328:=by rw[←Int.natCast_mul] at hb; omega
  obtain⟨w',hr,hown,hg⟩:=run_make_full (P:=P) w w0.heap.size t e j zv ie.size hu h1 h4 h2 k1 k2 N (by rw[h3,Nat.mul_comm]; omega) (by unfold maxLen; omega) h.below.size
  have hrun:(execOp (Act.eval ⟨tm,ds⟩) o).run P w=.ok (.value (.slice (some ⟨w.heap.size,0,none⟩) N N)) w':=by
    unfold execOp
    have e1:=RepD_int hl
    have e2:=RepD_int hc
    simp only[ho]
    rw[e1,e2]
    simp only[Sem.run_bind]
    rw[hr]
    rfl
  have hzr:All2 (RepD w p) z zv.cells.toList:=closeLs_rep (by rw[←h5]; exact constL_rep_all _ σ w p) hz
  have hzl:z.length=ie.size:=by rw[hzr.1,Array.length_toList,h6]
  simp only[Int.toNat_natCast] at hk
  have hnew:=h.newOwnF key e ie.size (List.replicate N z) (.slice (some ⟨w.heap.size,0,none⟩) N N) (madeCells zv.cells (N*ie.size)).toList none hf hg (fun g e=>by cases e)
    (by rw[List.length_replicate]; exact hown.m) (fun g e=>.inr (by cases e; exact Nat.le_refl _)) (fun r hr=>by rw[(List.mem_replicate.1 hr).2,hzl])
    (by
      refine⟨by rw[length_flatten' ie.size _ (fun r hr=>by rw[(List.mem_replicate.1 hr).2,hzl]),List.length_replicate,Array.length_toList,size_madeCells],fun q x y hx hy=>?_⟩
      rw[flatten_replicate_get z N q (by omega),hzl] at hx
      split at hx
      · rename_i hq
        rw[Array.getElem?_toList] at hy
        simp only[madeCells,Array.getElem?_map] at hy
        rw[Array.getElem?_range] at hy
        simp only[hq,if_true,Option.map_some,Option.some.injEq] at hy
        rw[h6] at hy
        have hm:q%ie.size<zv.cells.size:=by rw[h6]; exact Nat.mod_lt _ hsz
        rw[getElem!_pos zv.cells _ hm] at hy
        refine hzr.2 (q%ie.size) x y hx ?_
        rw[Array.getElem?_toList,Array.getElem?_eq_getElem hm,hy]
      · cases hx)
  exact⟨_,hk,_,_,_,hrun,hnew.put o.dst (.l (.own key)) _ hd ⟨(upd_same _ _ _).symm,_,_,_,upd_same _ _ _⟩ ds⟩

theorem intOr_rep {x:Operand} {v:Value} {d n:Int} (hx:RepV σ w p (s.eval x) v) (h:intOr d (some (s.eval x))=some n):∃k,v=.int k n:=by
  revert hx h
  cases s.eval x with
  | l y=>
    cases y <;> intro hx h <;> try cases h
    rename_i dd
    cases dd <;> cases h
    exact⟨_,RepD_int hx⟩
  | agg _=>intro _ h; cases h
  | tup _=>intro _ h; cases h

theorem run_sliceBound (k:IntKind) (n:Int) (y:Nat) (code:BoundsCode) (h0:0≤n) (h1:n≤y):(Instr.sliceBound (.int k n) y code).run P w=.ok n.toNat w:=by
  simp only[Instr.sliceBound,asIntOf,Sem.run_bind,Sem.run_pure,Result.andThen_ok]
  rw[if_pos ⟨h0,h1⟩]; rfl

/-- The bounds of a slice expression, of values. -/
theorem run_bounds {len cap:Nat} {lo hi mx:Option Operand} {ρ:Operand→Value} {l h:Int} (hle:len≤cap) (hlo:∀x,lo=some x→RepV σ w p (s.eval x) (ρ x)) (hhi:∀x,hi=some x→RepV σ w p (s.eval x) (ρ x))
    (hmx:mx=none∨∃m x,mx=some m∧hi=some x∧ρ m=ρ x) (hl:intOr 0 (lo.map s.eval)=some l) (hh:intOr len (hi.map s.eval)=some h) (h0:0≤l) (hlh:l≤h) (hhl:h≤len) :
    (Instr.sliceBounds true len cap (lo.map ρ) (hi.map ρ) (mx.map ρ)).run P w=.ok (l.toNat,h.toNat,if mx.isSome then h.toNat else cap) w:=by
  have low:∀code,((match lo.map ρ with | some v=>Instr.sliceBound v h.toNat code | none=>Pure.pure 0):Sem Nat).run P w=.ok l.toNat w:=by
    intro code
    cases lo with
    | none=>cases hl; rfl
    | some x=>
      obtain⟨k,hk⟩:=intOr_rep (hlo x rfl) hl
      simp only[Option.map_some,hk]
      exact run_sliceBound k l h.toNat code h0 (by omega)
  cases hi with
  | none=>
    cases hh
    rcases hmx with rfl | ⟨m,x,_,he,_⟩
    · have hr:=low .sliceB
      simp only[Int.toNat_natCast] at hr
      simp only[Instr.sliceBounds,Option.map_none,Sem.run_bind,Sem.run_pure,Result.andThen_ok,Option.isSome_none,Bool.false_eq_true,if_false,Int.toNat_natCast]
      cases lo with
      | none=>cases hl; rfl
      | some x=>simp only[Option.map_some] at hr ⊢; rw[Sem.run_bind,hr]; rfl
    · cases he
  | some x=>
    obtain⟨k,hk⟩:=intOr_rep (hhi x rfl) hh
    rcases hmx with rfl | ⟨m,x',rfl,he,hmm⟩
    · have hr:=low .sliceB
      simp only[Instr.sliceBounds,Option.map_some,Option.map_none,Sem.run_bind,Sem.run_pure,Result.andThen_ok,Option.isSome_none,Bool.false_eq_true,if_false,hk,if_true]
      rw[run_sliceBound k h cap _ (by omega) (by omega)]
      simp only[Result.andThen_ok]
      cases lo with
      | none=>cases hl; rfl
      | some x=>simp only[Option.map_some] at hr ⊢; rw[Sem.run_bind,hr]; rfl
    · cases he
      have hr:=low .slice3C
      simp only[Instr.sliceBounds,Option.map_some,Sem.run_bind,hmm,hk,if_true,Option.isSome_some]
      rw[run_sliceBound k h cap _ (by omega) (by omega)]
      simp only[Result.andThen_ok]
      rw[run_sliceBound k h h.toNat _ (by omega) (by omega)]
      simp only[Result.andThen_ok]
      cases lo with
      | none=>cases hl; rfl
      | some x=>simp only[Option.map_some] at hr ⊢; rw[Sem.run_bind,hr]; rfl

end
end Go.VC
namespace Go.VC
open Go.RowKit (Below)

section
variable {P:Program} {T:TypeId→Option TI} {w0:World} {p0 p:Nat→Prop} {σ:Nat→Value} {s:St} {tm:Array Value} {ups:List (Array Value)} {w:World} {ds:List Deferred}

theorem intOr_eq {x:AV} {d n:Int} (h:intOr d (some x)=some n):∃k,x=.l (.d (.int k n)):=by
  cases x with
  | l y=>
    cases y <;> try cases h
    rename_i dd
    cases dd <;> cases h
    exact⟨_,rfl⟩
  | agg _=>cases h
  | tup _=>cases h

theorem RepD.slice {rows:List (List D)} {A:Option Addr} {c:Nat} (h:RepD w p (.sl rows) (.slice A rows.length c)) (sz l h' m:Nat) (hl:l≤h') (hh:h'≤rows.length) (hm:h'≤m) (hmc:m≤c)
    (hr:l=0∨∀r∈rows,r.length=sz):RepD w p (.sl ((rows.take h').drop l)) (.slice (if m=l then A else A.map (·.add (l*sz))) (h'-l) (m-l)):=by
  generalize hv:Value.slice A rows.length c=v at h
  cases h with
  | sl _ sz' A' cap u hlen hcap hnone hA hrow hc hrr=>
    cases hv
    have hlen2:((rows.take h').drop l).length=h'-l:=by simp; omega
    rw[←hlen2]
    have hget:∀(i:Nat) r,((rows.take h').drop l)[i]?=some r→rows[l+i]?=some r∧l+i<h':=by
      intro i r hi
      rw[List.getElem?_drop,List.getElem?_take] at hi
      split at hi
      · rename_i h1; exact⟨hi,h1⟩
      · cases hi
    refine .sl _ sz' _ _ (fun i j=>u (l+i) j) (by rw[hlen2]; omega) (by omega) ?_ ?_ (fun r hr=>hrow r (List.mem_of_mem_take (List.mem_of_mem_drop hr))) ?_ (fun i j r x h1 h2=>hrr _ _ _ _ (hget i r h1).1 h2)
    · intro e
      split at e
      · omega
      · cases A with
        | none=>have:=hnone rfl; omega
        | some a=>cases e
    · intro ad e hne
      have hne':rows≠[]:=fun e'=>hne (by subst e'; simp)
      split at e
      · exact hA ad e hne'
      · cases A with
        | none=>cases e
        | some a=>
          cases e
          rw[add_block]; exact hA a rfl hne'
    · intro ad i j r x e h1 h2
      obtain⟨g1,g2⟩:=hget i r h1
      split at e
      · omega
      · cases A with
        | none=>cases e
        | some a=>
          cases e
          rw[add_add]
          have e2:l*sz+(i*sz'+j)=(l+i)*sz'+j:=by
            rcases hr with h0 | hr
            · subst h0; simp
            · have:sz'=sz:=by rw[←hrow r (List.mem_of_getElem? g1),hr r (List.mem_of_getElem? g1)]
              rw[this,Nat.add_mul]; omega
          rw[e2]
          exact hc a _ _ _ _ rfl g1 h2

theorem ownsRow_form {base:Nat} {e:TypeId} {size:Nat} {v:Value} {n:Nat} {xs:List Value} (h:w.rowM base e size v n xs):∃A c,v=.slice A n c∧n≤c∧(A=none→c=0)∧c≤maxLen∧∀a,A=some a→a.off=0∧a.spot=none:=by
  rcases h.2 with ⟨rfl,rfl⟩ | ⟨g,cap,cur,rfl,_,_,h1,h2,_⟩
  · exact⟨none,0,rfl,Nat.le_refl _,(fun _=>rfl),Nat.zero_le _,(fun a e=>by cases e)⟩
  · exact⟨_,cap,rfl,h1,(fun e=>by cases e),h2,(fun a e=>by cases e; exact⟨rfl,rfl⟩)⟩

theorem run_exec_slice {t:TypeId} {x:Operand} {lo hi mx:Option Operand} {o:Oper} (ho:o.op=.slice t x lo hi mx) {e:TypeId} {ie:TI} (hu:P.underlying t=some (.slice e)) (hie:TIok P e ie) (ρ:Operand→Value) {A:Option Addr} {len cap l h m:Nat}
    (hx:ρ x=.slice A len cap) (hb:(Instr.sliceBounds true len cap (lo.map ρ) (hi.map ρ) (mx.map ρ)).run P w=.ok (l,h,m) w) :
    (execOp ρ o).run P w=.ok (.value (.slice (if m=l then A else A.map (·.add (l*ie.size))) (h-l) (m-l))) w:=by
  unfold execOp
  simp only[ho,Instr.sliceAt,Sem.run_bind,run_underlying hu,Result.andThen_ok,Instr.slice,hx,hb,run_sizeOf' hie,Sem.run_pure]

theorem sound_slice (hT:∀t i,T t=some i→TIok P t i) (h:Rel w0 p0 p σ s tm ups w) {o:Oper} {K:Eff→Prop} {key:Nat} (hd:∀d,o.dst=some d→d<s.n) (t:TypeId) (x:Operand) (lo hi mx:Option Operand) (ho:o.op=.slice t x lo hi mx)
    (he:effK T o s.eval (assoc s.b) (assoc s.o) key K):Sound P w0 p0 p s tm ups w ds o K:=by
  unfold effK at he
  simp only[ho] at he
  have hx:=h.eval (ds:=ds) x
  split at he <;> try exact he.elim
  rename_i i hi'
  split at he <;> try exact he.elim
  rename_i e hke
  split at he <;> try exact he.elim
  rename_i ie hie
  have hu:=desc_slice (hT t i hi') hke
  have hmx:∀{len:Nat} {h':Int},intOr len (hi.map s.eval)=some h'→(mx.map s.eval=none∨mx.map s.eval=hi.map s.eval)→mx=none∨∃m y,mx=some m∧hi=some y∧Act.eval ⟨tm,ds⟩ m=Act.eval ⟨tm,ds⟩ y:=by
    intro len h' hh hm
    cases mx with
    | none=>exact .inl rfl
    | some m=>
      right
      rcases hm with hm | hm
      · cases hm
      · cases hi with
        | none=>cases hm
        | some y=>
          simp only[Option.map_some,Option.some.injEq] at hm
          refine⟨m,y,rfl,rfl,?_⟩
          have h1:=h.eval (ds:=ds) m
          have h2:=h.eval (ds:=ds) y
          rw[hm] at h1
          obtain⟨k,hk⟩:=intOr_eq hh
          rw[hk] at h1 h2
          rw[RepD_int h1,RepD_int h2]
  unfold sliceK at he
  split at he
  · rename_i rows hρ
    rw[hρ] at hx
    obtain⟨l,h',hl,hh,h0,hlh,hhl,hr,hm,hk⟩:=he
    obtain⟨A,c,hv,hc1,hc2⟩:=RepD_sl hx
    have hb:=run_bounds (P:=P) (w:=w) (p:=p) (σ:=σ) (s:=s) (len:=rows.length) (cap:=c) (lo:=lo) (hi:=hi) (mx:=mx) (ρ:=Act.eval ⟨tm,ds⟩) hc1 (fun x _=>h.eval x) (fun x _=>h.eval x) (hmx hh hm) hl hh h0 hlh hhl
    have hrun:=run_exec_slice ho hu (hT e ie hie) _ hv hb
    refine Sound.pure h hd _ [] _ hk ?_ hrun
    have hx':RepD w p (.sl rows) (Act.eval ⟨tm,ds⟩ x):=hx
    rw[hv] at hx'
    have hmm:h'.toNat≤(if mx.isSome=true then h'.toNat else c)∧(if mx.isSome=true then h'.toNat else c)≤c:=by split <;> omega
    exact hx'.slice ie.size l.toNat h'.toNat _ (by omega) (by omega) hmm.1 hmm.2 (by rcases hr with hr | hr; exact .inl hr; exact .inr hr)
  · rename_i k hρ
    rw[hρ] at hx
    split at he <;> try exact he.elim
    rename_i z hz
    obtain⟨hzs,l,h',hl,hh,h0,hlh,hhl,hm,hk⟩:=he
    obtain⟨hv,_⟩:=hx
    obtain⟨xs,ho1,_⟩:=h.o k z hz
    obtain⟨A,c,hs,hc1,_,_,_⟩:=ownsRow_form ho1
    rw[hs] at hv
    have hb:=run_bounds (P:=P) (w:=w) (p:=p) (σ:=σ) (s:=s) (len:=z.2.2.length) (cap:=c) (lo:=lo) (hi:=hi) (mx:=mx) (ρ:=Act.eval ⟨tm,ds⟩) hc1 (fun x _=>h.eval x) (fun x _=>h.eval x) (hmx hh hm) hl hh h0 hlh hhl
    have hrun:=run_exec_slice ho hu (hT e ie hie) _ hv hb
    refine Sound.pure h hd _ [k] _ hk ⟨A,_,c,hs,by omega,by omega,?_⟩ hrun
    unfold viewOf
    rw[hs]
    cases mx with
    | none=>simp
    | some m=>simp
  · exact he.elim

theorem src_of {ω:Nat→Option Own} (h:Rel w0 p0 p σ s tm ups w) {x:AV} {v:Value} {rows:List (List D)} {us:List Nat} {sz:Nat} (hx:RepV σ w p x v) (he:rowsOf (assoc s.o) x=some (rows,us)) (hr:∀r∈rows,r.length=sz) (hsz:0<sz):SrcOk w p rows sz v:=by
  unfold rowsOf at he
  split at he
  · cases he
    exact⟨none,0,[],hx,All2.nil,fun _=>⟨rfl,rfl⟩,fun ad e=>by cases e⟩
  · cases he
    exact SrcOk.of_rep hx hr hsz
  · rename_i k
    split at he <;> try cases he
    rename_i z hz
    obtain⟨hv,_⟩:=hx
    obtain⟨xs,ho1,h2,h3,_⟩:=h.o k z hz
    obtain⟨A,c,hs,hc1,hn,_,ha⟩:=ownsRow_form ho1
    refine⟨A,c,xs,by rw[hv]; exact hs,h3,fun e=>⟨by have:=hn e; omega,hn e⟩,fun ad e j u hu=>?_⟩
    subst e
    have:=ho1.cells (g:=ad.block) (by rw[hs]; rfl) j u hu
    have e2:ad=⟨ad.block,0,none⟩:=by
      obtain⟨b,off,spot⟩:=ad
      have:=ha _ rfl
      simp at this
      simp[this]
    rw[e2]; exact this
  · rename_i k sz' lo hi full
    split at he <;> try cases he
    rename_i z hz
    split at he <;> try cases he
    rename_i hzs
    obtain⟨a0,n,c,hs,hlh,hhn,hv⟩:=hx
    obtain⟨xs,ho1,h2,h3,_⟩:=h.o k z hz
    obtain⟨A,c',hs',hc1,hn,_,ha⟩:=ownsRow_form ho1
    rw[hs] at hs'; cases hs'
    have hlen2:((z.2.2.take hi).drop lo).length=hi-lo:=by simp; omega
    rw[hv,hs]
    unfold viewOf
    simp only
    rw[←hlen2]
    have hfl:((z.2.2.take hi).drop lo).flatten=(z.2.2.flatten.drop (lo*z.2.1)).take ((hi-lo)*z.2.1):=by
      apply List.ext_getElem?
      intro q
      rw[List.getElem?_take,List.getElem?_drop]
      have hz0:z.2.1=sz':=hzs
      have hsub:∀r∈((z.2.2.take hi).drop lo),r.length=z.2.1:=fun r hr=>h2 r (List.mem_of_mem_take (List.mem_of_mem_drop hr))
      by_cases hpos:z.2.1=0
      · have e1:((z.2.2.take hi).drop lo).flatten=[]:=List.eq_nil_of_length_eq_zero (by rw[length_flatten' z.2.1 _ hsub,hpos]; simp)
        rw[e1,hpos]; simp
      · by_cases hq:q<(hi-lo)*z.2.1
        · rw[if_pos hq]
          have e:q=q/z.2.1*z.2.1+q%z.2.1:=by rw[Nat.mul_comm]; exact (Nat.div_add_mod q z.2.1).symm
          have hlt:q/z.2.1<hi-lo:=Nat.div_lt_of_lt_mul (by rw[Nat.mul_comm]; exact hq)
          have h5:=flatten_get z.2.1 _ hsub (q/z.2.1) (q%z.2.1) (Nat.mod_lt _ (by omega))
          rw[←e] at h5
          have h6:=flatten_get z.2.1 _ h2 (lo+q/z.2.1) (q%z.2.1) (Nat.mod_lt _ (by omega))
          have e3:lo*z.2.1+q=(lo+q/z.2.1)*z.2.1+q%z.2.1:=by rw[Nat.add_mul]; omega
          rw[h5,e3,h6,List.getElem?_drop,List.getElem?_take,if_pos (by omega)]
        · rw[if_neg hq,List.getElem?_eq_none]
          rw[length_flatten' z.2.1 _ hsub,hlen2]; omega
    have hm1:hi≤(if full=true then hi else c)∧(if full=true then hi else c)≤c:=by split <;> omega
    generalize (if full=true then hi else c)=m at hm1
    refine⟨_,_,(xs.drop (lo*z.2.1)).take ((hi-lo)*z.2.1),rfl,by rw[hfl]; exact (h3.drop _).take _,fun e=>?_,fun ad e j u hu=>?_⟩
    · rw[hlen2]
      by_cases hc:m=lo
      · exact⟨by omega,by omega⟩
      · rw[if_neg hc] at e
        cases a0 with
        | none=>
          have:=hn rfl
          exact⟨by omega,by omega⟩
        | some a=>cases e
    · rw[List.getElem?_take] at hu
      split at hu <;> try cases hu
      rename_i hj
      rw[List.getElem?_drop] at hu
      have hneg:¬(m=lo):=by
        intro e1
        have:0<hi-lo:=by
          rcases Nat.eq_zero_or_pos (hi-lo) with h0 | h0
          · rw[h0] at hj; simp at hj
          · exact h0
        omega
      rw[if_neg hneg] at e
      cases a0 with
      | none=>cases e
      | some a=>
        cases e
        have:=ho1.cells (g:=a.block) (by rw[hs]; rfl) _ u hu
        have e2:a=⟨a.block,0,none⟩:=by
          obtain⟨b,off,spot⟩:=a
          have:=ha _ rfl
          simp at this
          simp[this]
        rw[add_add,←hzs,e2]; exact this
  · cases he

end
end Go.VC
namespace Go.VC
open Go.RowKit (Below)

section
variable {P:Program} {T:TypeId→Option TI} {w0:World} {p0 p:Nat→Prop} {σ:Nat→Value} {s:St} {tm:Array Value} {ups:List (Array Value)} {w:World} {ds:List Deferred}

theorem run_exec_builtin {c:Call} {o:Oper} (ho:o.op=.call c) {b:Builtin} (hb:c.callee=.builtin b) (ρ:Operand→Value) : 
    execOp ρ o=builtin b c.argTypes o.type (c.args.map fun | .const _=>true | _=>false) (c.args.map ρ):=by
  unfold execOp
  simp only[ho,resolve,hb]
  rfl

theorem map_toList2 {α β:Type} {xs:Array α} {f:α→β} {a b:β} (h:xs.toList.map f=[a,b]):xs.map f=#[a,b]:=by
  apply Array.ext'; simpa using h
theorem map_toList1 {α β:Type} {xs:Array α} {f:α→β} {a:β} (h:xs.toList.map f=[a]):xs.map f=#[a]:=by
  apply Array.ext'; simpa using h

theorem All2_two {α β:Type} {R:α→β→Prop} {a b:α} {ys:List β} (h:All2 R [a,b] ys):∃x y,ys=[x,y]∧R a x∧R b y:=by
  obtain⟨x,r,rfl,h1,h2⟩:=h.cons_inv
  obtain⟨y,r',rfl,h3,h4⟩:=h2.cons_inv
  rw[h4.nil_inv]
  exact⟨x,y,rfl,h1,h3⟩
theorem All2_one {α β:Type} {R:α→β→Prop} {a:α} {ys:List β} (h:All2 R [a] ys):∃x,ys=[x]∧R a x:=by
  obtain⟨x,r,rfl,h1,h2⟩:=h.cons_inv
  rw[h2.nil_inv]
  exact⟨x,rfl,h1⟩

theorem heap_setCellsF (g:Nat) (t:TypeId) (fz:Nat×Nat):∀(vs:List Value) (o:Nat) (cs:Array Value) (w:World),w.heap[g]?=some (.cells cs t fz)→o+vs.length≤cs.size →
    (w.setCells g o vs).heap[g]?=some (.cells (splice cs.toList o vs).toArray t fz)
  | [],o,cs,w,h,_=>by
    simp only[World.setCells,splice,List.length_nil,Nat.add_zero,List.append_nil,List.take_append_drop]
    exact h
  | v::vs,o,cs,w,h,hle=>by
    simp only[List.length_cons] at hle
    rw[World.setCells,heap_setCellsF g t fz vs (o+1) (cs.setIfInBounds o v) _ (heap_setCellF w g o cs t fz v h) (by simp; omega)]
    congr 3
    apply List.ext_getElem?
    intro k
    rw[getElem?_splice _ _ _ _ (by simp; omega),getElem?_splice _ _ _ _ (by simp; omega)]
    simp only[Array.toList_setIfInBounds,List.getElem?_set,List.length_cons]
    by_cases h1:k<o
    · rw[if_pos (by omega),if_pos h1,if_neg (by omega)]
    · by_cases h2:k=o
      · subst h2
        have a1:k<k+1:=by omega
        have a3:k<k+(vs.length+1):=by omega
        have a4:k<cs.size:=by omega
        simp[a1,a3,a4]
      · rw[if_neg (by omega),if_neg h1]
        by_cases h3:k<o+1+vs.length
        · rw[if_pos h3,if_pos (by omega)]
          have:k-o=(k-(o+1))+1:=by omega
          rw[this]
          simp
        · rw[if_neg h3,if_neg (by omega),if_neg (by omega)]
theorem heap_setCells_other0 (g:Nat):∀(vs:List Value) (o:Nat) (w:World) (k:Nat),k≠g→(w.setCells g o vs).heap[k]?=w.heap[k]?
  | [],_,_,_,_=>rfl
  | v::vs,o,w,k,h=>by
    rw[World.setCells,heap_setCells_other0 g vs (o+1) _ k h]
    exact Below.heap_setCell w _ _ k h
theorem size_setCells0 (g:Nat):∀(vs:List Value) (o:Nat) (w:World),(w.setCells g o vs).heap.size=w.heap.size
  | [],_,_=>rfl
  | v::vs,o,w=>by rw[World.setCells,size_setCells0 g vs]; simp[World.setCell]
theorem os_setCells (g:Nat):∀(vs:List Value) (o:Nat) (w:World),(w.setCells g o vs).os=w.os
  | [],_,_=>rfl
  | v::vs,o,w=>by rw[World.setCells,os_setCells g vs]; rfl
theorem tape_setCells (g:Nat):∀(vs:List Value) (o:Nat) (w:World),(w.setCells g o vs).tape=w.tape
  | [],_,_=>rfl
  | v::vs,o,w=>by rw[World.setCells,tape_setCells g vs]; rfl
theorem output_setCells (g:Nat):∀(vs:List Value) (o:Nat) (w:World),(w.setCells g o vs).output=w.output
  | [],_,_=>rfl
  | v::vs,o,w=>by rw[World.setCells,output_setCells g vs]; rfl
theorem run_append_noneM {t ty e:TypeId} {i:TypeInfo} {size base:Nat} (ht:P.underlying t=some (.slice e)) (hi:P.info? e=some i) {v:Value} {n:Nat} {xs:List Value} (hown:w.rowM base e size v n xs) :
    (Builtin.append_ #[t,t] ty #[v,.slice none 0 0]).run P w=.ok v w:=by
  rcases hown.2 with ⟨rfl,rfl⟩ | ⟨g,cap,cur,rfl,_,_,hnc,_⟩
  · simp[Builtin.append_,run_underlying ht,sizeOf,typeInfo,hi,Builtin.lenOf,Builtin.firstCells]
  · simp[Builtin.append_,run_underlying ht,sizeOf,typeInfo,hi,Builtin.lenOf,Builtin.firstCells,hnc,storeCells]
theorem run_append_roomM (t ty e:TypeId) (i:TypeInfo) (ht:P.underlying t=some (.slice e)) (hi:P.info? e=some i) (g n cap:Nat) (cur:Array Value) (fz:Nat×Nat) (hg:w.heap[g]?=some (.cells cur e fz)) (hfz:fzOut fz cur.size)
    (a:Addr) (m c:Nat) (news:List Value) (hl:news.length=m*i.size) (hnews:∀j u,news[j]?=some u→w.cell? (a.add j)=some u) (h1:∀u∈news,u.oneCell'=true) (hroom:n+m≤cap) (hfit:n*i.size+news.length≤cur.size) :
    (Builtin.append_ #[t,t] ty #[.slice (some ⟨g,0,none⟩) n cap,.slice (some a) m c]).run P w=.ok (.slice (some ⟨g,0,none⟩) (n+m) cap) (w.setCells g (n*i.size) news):=by
  have hf:=run_firstCells_some (P:=P) w i.size m a m c news hl hnews
  have hst:=run_storeCells_cells (P:=P) g (n*i.size) news 0 w (fun j hj=>by
      have hlt:n*i.size+j<cur.size:=by omega
      rw[Nat.add_zero,cell_of_row w g _ cur e _ hg,Array.getElem?_eq_getElem hlt]; rfl) (fun j hj=>by
      rw[Nat.add_zero]; unfold World.frozen?; rw[hg]; exact fzOut_not hfz (show n*i.size+j<cur.size by omega)) h1
  rw[Nat.add_zero] at hst
  simp[Builtin.append_,run_underlying ht,sizeOf,typeInfo,hi,Builtin.lenOf,hroom,hf,Addr.add_lit,hst]

/-- 'append' to an own array (or nil), whatever the source. -/
theorem run_append_src {t e:TypeId} {ie:TI} (hie:TIok P e ie) (hu:P.underlying t=some (.slice e)) (hsz:0<ie.size) (ty:TypeId) (base:Nat) (hbase:base≤w.heap.size)
    {v:Value} {n:Nat} {xs:List Value} (hown:w.rowM base e ie.size v n xs) {rows:List (List D)} {x:Value} (hs:SrcOk w p rows ie.size x) (hr:∀r∈rows,r.length=ie.size)
    (h63:n+rows.length≤maxLen) (hb:(n+rows.length)*ie.bytes≤140737488355328) :
    ∃v' w' news,(Builtin.append_ #[t,t] ty #[v,x]).run P w=.ok v' w'∧w'.rowM base e ie.size v' (n+rows.length) (xs++news)∧w.grownBy w' v.ownBlock ∧
      (v'.ownBlock=v.ownBlock∨∀g,v'.ownBlock=some g→w.heap.size≤g)∧All2 (RepD w p) rows.flatten news:=by
  obtain⟨j,z,h1,h2,h3,h4,h5,h6,h7⟩:=hie.info
  obtain⟨A,c,news,rfl,hnews,hnil,hcell⟩:=hs
  have hl:news.length=rows.length*ie.size:=by rw[←hnews.1,length_flatten' ie.size rows hr]
  cases A with
  | none=>
    obtain⟨h0,rfl⟩:=hnil rfl
    have hn:news=[]:=List.eq_nil_of_length_eq_zero (by rw[hl,h0]; simp)
    subst hn
    have:=run_append_noneM (P:=P) (w:=w) (base:=base) (t:=t) (ty:=ty) hu h1 hown
    rw[h0]
    exact⟨v,w,[],this,by simpa using hown,⟨rfl,rfl,rfl,Nat.le_refl _,fun _ _ _=>rfl⟩,.inl rfl,hnews⟩
  | some ad=>
    have h1c:∀u∈news,u.oneCell'=true:=fun u hu'=>by
      obtain⟨q,hq⟩:=List.getElem?_of_mem hu'
      have hlt:q<rows.flatten.length:=by rw[hnews.1]; exact (List.getElem?_eq_some_iff.1 hq).1
      exact (hnews.2 q _ _ (List.getElem?_eq_getElem hlt) hq).oneCell
    rcases hown.2 with ⟨rfl,rfl⟩ | ⟨g,cap,cur,rfl,hbg,⟨fz,hgc,hfz⟩,hnc,hcm,hcs,htake⟩
    · obtain⟨v',w',hrun,ho,hg,_,hbk⟩:=run_append_own_at (P:=P) w base t ty e j z ie.size ie.bytes hu h1 h4 h2 h3 h6 hsz (.slice none 0 0) 0 xs ⟨hown.1,.inl ⟨rfl,rfl⟩⟩ ad rows.length c news hl (hcell ad rfl) h1c h63 hb hbase
      exact⟨v',w',news,hrun,ho.m,hg,hbk.imp id fun e' g' hg'=>by rw[e'] at hg'; cases hg'; exact Nat.le_refl _,hnews⟩
    have hlen:(xs++news).length=(n+rows.length)*ie.size:=by rw[List.length_append,hown.1,hl,Nat.add_mul]
    by_cases hroom:n+rows.length≤cap
    · have hfit:n*ie.size+news.length≤cur.size:=by rw[hl,hcs,←Nat.add_mul]; exact Nat.mul_le_mul_right _ hroom
      have hrun:=run_append_roomM (P:=P) (w:=w) t ty e j hu h1 g n cap cur fz hgc hfz ad rows.length c news (by rw[hl,h2]) (hcell ad rfl) h1c hroom (by rw[h2]; exact hfit)
      rw[h2] at hrun
      have hw:=heap_setCellsF g e fz news (n*ie.size) cur w hgc hfit
      refine⟨_,_,news,hrun,⟨hlen,.inr ⟨g,cap,_,rfl,hbg,⟨fz,hw,?_⟩,hroom,hcm,?_,?_⟩⟩,⟨os_setCells g _ _ _,tape_setCells g _ _ _,output_setCells g _ _ _,by rw[size_setCells0]; exact Nat.le_refl _,fun k _ hk=>heap_setCells_other0 g _ _ w k (fun e'=>hk (by rw[e']; rfl))⟩,.inl rfl,hnews⟩
      · have e1:(splice cur.toList (n*ie.size) news).toArray.size=cur.size:=by simp[splice]; omega
        rw[e1]; exact hfz
      · simp[splice]; omega
      · have h5:(n+rows.length)*ie.size=(xs++news).length:=hlen.symm
        rw[h5]
        simp only[splice,htake,←List.append_assoc]
        exact List.take_left
    · obtain⟨v',w',hrun,ho,hg⟩:=run_append_arg_grows (P:=P) w t ty e j z ie.size ie.bytes hu h1 h4 h2 h3 h6 hsz ⟨g,0,none⟩ n cap xs hown.1 (hown.cells (g:=g) rfl) ad rows.length c news hl (hcell ad rfl) (by omega) h63 hb
      refine⟨v',w',news,hrun,ho.m.low hbase,⟨hg.os,hg.tape,hg.output,hg.size,fun k hk _=>hg.block k hk (by simp)⟩,.inr fun g' hg'=>?_,hnews⟩
      rcases ho.2 with ⟨e1,_⟩ | ⟨g2,cap2,cur2,e1,hb2,_⟩
      · rw[e1] at hg'; cases hg'
      · rw[e1] at hg'; cases hg'; exact hb2

theorem ownBlock_eq_blk {A:Option Addr} {n c:Nat}:(Value.slice A n c).ownBlock=blk (.slice A n c):=by cases A <;> rfl

theorem ownsRow_slice {base:Nat} {e:TypeId} {size:Nat} {v:Value} {n:Nat} {xs:List Value} (h:w.rowM base e size v n xs):∃A c,v=.slice A n c:=by
  rcases h.2 with ⟨rfl,rfl⟩ | ⟨g,cap,cur,rfl,_⟩
  · exact⟨_,_,rfl⟩
  · exact⟨_,_,rfl⟩

theorem len_of_bytes {n b m:Nat} (hb:0<b) (h:n*b≤m):n≤m:=Nat.le_trans (Nat.le_mul_of_pos_right n hb) h

theorem sound_append (hT:∀t i,T t=some i→TIok P t i) (h:Rel w0 p0 p σ s tm ups w) {o:Oper} {K:Eff→Prop} {key:Nat} (hd:∀d,o.dst=some d→d<s.n) (hf:Free key s) (c:Call) (ho:o.op=.call c) (hc:c.callee=.builtin .append)
    {t t':TypeId} {x y:AV} (hts:c.argTypes.toList=[t,t']) (hxs:c.args.toList.map s.eval=[x,y])
    (he:callBK T .append [t,t'] [x,y] (assoc s.o) key K):Sound P w0 p0 p s tm ups w ds o K:=by
  unfold callBK at he
  simp only at he
  obtain⟨rfl,i,hi,he⟩:=he
  split at he <;> try exact he.elim
  rename_i e hke
  obtain⟨ie,hie,hsz,hbp,ry,uy,hry,hrl,he⟩:=he
  have hu:=desc_slice (hT t i hi) hke
  have hTe:=hT e ie hie
  have hev:=evals (ds:=ds) h c.args.toList
  rw[hxs] at hev
  obtain⟨vx,vy,hvs,hvx,hvy⟩:=All2_two hev
  have hargs:=map_toList2 hvs
  have hat:c.argTypes=#[t,t]:=by apply Array.ext'; simpa using hts
  have hsrc:SrcOk w p ry ie.size vy:=src_of (ω:=assoc s.o) h hvy hry hrl hsz
  have hex:∀v' w',(Builtin.append_ #[t,t] o.type #[vx,vy]).run P w=.ok v' w'→(execOp (Act.eval ⟨tm,ds⟩) o).run P w=.ok (.value v') w':=by
    intro v' w' hr
    rw[run_exec_builtin ho hc,hargs,hat]
    simp only[builtin,Sem.run_bind,hr,Result.andThen_ok,Sem.run_pure]
  have hsm:(140737488355328:Nat)≤maxLen:=by decide
  split at he
  · -- nil
    obtain⟨hb,hk⟩:=he
    have hvx':vx=.slice none 0 0:=hvx
    obtain⟨v',w',news,hr,hown,hg,hbk,hnews⟩:=run_append_src (P:=P) (w:=w) (p:=p) hTe hu hsz o.type w0.heap.size h.below.size (World.rowM_nil w w0.heap.size e ie.size) hsrc hrl
      (by rw[Nat.zero_add]; exact Nat.le_trans (len_of_bytes hbp hb) hsm) (by rw[Nat.zero_add]; exact hb)
    rw[←hvx'] at hr
    rw[Nat.zero_add,List.nil_append] at hown
    obtain⟨A,c',rfl⟩:=ownsRow_slice hown
    have hnew:=h.newOwnF key e ie.size ry _ news none hf hg (fun g e=>by cases e) hown (fun g e=>.inr (by
      rw[ownBlock_eq_blk] at hbk
      rcases hbk with hbk | hbk
      · rw[e] at hbk; cases hbk
      · exact hbk g e)) hrl hnews
    exact⟨_,hk,_,_,_,hex _ _ hr,hnew.put o.dst (.l (.own key)) _ hd ⟨(upd_same _ _ _).symm,_,_,_,upd_same _ _ _⟩ ds⟩
  · -- own
    rename_i k
    split at he <;> try exact he.elim
    rename_i z hz
    obtain⟨hz1,hz2,hb,hku,hk⟩:=he
    obtain⟨hv,_⟩:=hvx
    obtain⟨xs,ho1,ho2,ho3,ho4⟩:=h.o k z hz
    rw[hz1,hz2] at ho1
    rw[←hv] at ho1
    obtain⟨v',w',news,hr,hown,hg,hbk,hnews⟩:=run_append_src (P:=P) (w:=w) (p:=p) hTe hu hsz o.type w0.heap.size h.below.size ho1 hsrc hrl (Nat.le_trans (len_of_bytes hbp hb) hsm) hb
    obtain⟨A,c',rfl⟩:=ownsRow_slice hown
    obtain⟨A0,c0,hvA⟩:=ownsRow_slice ho1
    have hbx:vx.ownBlock=blk (σ k):=by rw[←hv,hvA,ownBlock_eq_blk]
    have hne:k≠key:=fun e=>by rw[e,hf.no] at hz; cases hz
    have h2:=h.eatO k
    have hnew:=h2.newOwnF key e ie.size (z.2.2++ry) (.slice A (z.2.2.length+ry.length) c') (xs++news) vx.ownBlock hf.eatO hg
      (fun g e=>by
        rw[hbx] at e
        have hlv:s.live k:=.inr (by rw[hz]; rfl)
        have:=h.live_lt hlv e
        refine⟨this.2.2,this.2.1,fun j hj hl hjg=>?_⟩
        have hjk:j=k:=h.apart j k g (live_eatO hl) hlv hjg e
        subst hjk
        unfold St.live at hl
        simp only[St.eatO,assoc_erase,if_true] at hl
        rcases hl with hl | hl
        · obtain⟨cs,hcs⟩:=some_of_isSome hl
          obtain⟨g',ty,vs,e1,_⟩:=h.b _ _ hcs
          rw[←hv,hvA] at e1; cases e1
        · cases hl)
      (by rw[List.length_append]; exact hown)
      (fun g e=>by
        rw[ownBlock_eq_blk] at hbk
        rcases hbk with hbk | hbk
        · left; rw[←hbk]; exact e
        · right; exact hbk g e)
      (fun r hr=>by
        rcases List.mem_append.1 hr with hr | hr
        · rw[ho2 r hr,hz2]
        · exact hrl r hr)
      (by rw[List.flatten_append]; exact ho3.append hnews)
    exact⟨_,hk,_,_,_,hex _ _ hr,hnew.put o.dst (.l (.own key)) _ hd ⟨(upd_same _ _ _).symm,_,_,_,upd_same _ _ _⟩ ds⟩
  · -- 's[:hi:hi]'
    rename_i k sz lo hi full
    obtain⟨rfl,rfl,rfl,hpos,he⟩:=he
    split at he <;> try exact he.elim
    rename_i z hz
    obtain⟨hz1,hz2,hhi,hb,hk⟩:=he
    obtain⟨A0,n0,c0,hs0,_,_,hv⟩:=hvx
    obtain⟨xs,ho1,ho2,ho3,ho4⟩:=h.o k z hz
    rw[hz1,hz2] at ho1
    obtain⟨j,zv,h1,h2,h3,h4,h5,h6,h7⟩:=hTe.info
    obtain⟨A,c,news,rfl,hnews,hnil,hcell⟩:=hsrc
    have hl:news.length=ry.length*ie.size:=by rw[←hnews.1,length_flatten' ie.size ry hrl]
    have hxl:xs.length=z.2.2.length*ie.size:=ho1.1
    have hflt:((z.2.2.take hi).flatten)=z.2.2.flatten.take (hi*ie.size):=by
      apply List.ext_getElem?
      intro q
      rw[List.getElem?_take]
      have hsub:∀r∈z.2.2.take hi,r.length=ie.size:=fun r hr=>by rw[ho2 r (List.mem_of_mem_take hr),hz2]
      have hall:∀r∈z.2.2,r.length=ie.size:=fun r hr=>by rw[ho2 r hr,hz2]
      by_cases hq:q<hi*ie.size
      · rw[if_pos hq]
        have e:q=q/ie.size*ie.size+q%ie.size:=by rw[Nat.mul_comm]; exact (Nat.div_add_mod q ie.size).symm
        have hlt:q/ie.size<hi:=Nat.div_lt_of_lt_mul (by rw[Nat.mul_comm]; exact hq)
        have e1:=flatten_get ie.size _ hsub (q/ie.size) (q%ie.size) (Nat.mod_lt _ hsz)
        have e2:=flatten_get ie.size _ hall (q/ie.size) (q%ie.size) (Nat.mod_lt _ hsz)
        rw[←e] at e1 e2
        rw[e1,e2,List.getElem?_take,if_pos hlt]
      · rw[if_neg hq,List.getElem?_eq_none]
        rw[length_flatten' ie.size _ hsub,List.length_take,Nat.min_eq_left hhi]; omega
    have hsm2:hi+ry.length≤maxLen:=Nat.le_trans (len_of_bytes hbp hb) hsm
    obtain⟨ad,rfl⟩:∃ad,A=some ad:=by
      cases A with
      | none=>have:=(hnil rfl).1; omega
      | some ad=>exact⟨ad,rfl⟩
    -- the new row
    have key2:∃v' w',(Builtin.append_ #[t,t] o.type #[vx,.slice (some ad) ry.length c]).run P w=.ok v' w'∧w'.rowM w.heap.size e ie.size v' (hi+ry.length) (xs.take (hi*ie.size)++news)∧w.grownBy w' none:=by
      rw[hv,hs0]
      unfold viewOf
      simp only[if_true,Nat.sub_zero]
      have hx0:(xs.take (hi*ie.size)).length=hi*ie.size:=by
        rw[List.length_take,hxl]; exact Nat.min_eq_left (Nat.mul_le_mul_right _ hhi)
      cases A0 with
      | none=>
        have hh0:hi=0:=by
          rcases ho1.2 with ⟨_,hn⟩ | ⟨g,cap,cur,hvv,_⟩
          · omega
          · rw[hs0] at hvv; cases hvv
        subst hh0
        simp only[if_true,Nat.zero_mul,List.take_zero,List.nil_append,Nat.zero_add]
        obtain⟨v',w',hr,hown,hg,_⟩:=run_append_own_at (P:=P) w w.heap.size t o.type e j zv ie.size ie.bytes hu h1 h4 h2 h3 h6 hsz (.slice none 0 0) 0 [] (World.ownsRow_nil w w.heap.size e ie.size) ad ry.length c news hl (hcell ad rfl) (fun u hu'=>by
          obtain⟨q,hq⟩:=List.getElem?_of_mem hu'
          have hlt:q<ry.flatten.length:=by rw[hnews.1]; exact (List.getElem?_eq_some_iff.1 hq).1
          exact (hnews.2 q _ _ (List.getElem?_eq_getElem hlt) hq).oneCell) (by simpa using hsm2) (by simpa using hb) (Nat.le_refl _)
        exact⟨v',w',hr,by simpa using hown.m,hg⟩
      | some a0=>
        have ha0:(if hi=0 then some a0 else Option.map (fun x=>x.add (0*ie.size)) (some a0))=some a0:=by
          split
          · rfl
          · simp[Addr.add]
        rw[ha0]
        obtain⟨v',w',hr,hown,hg⟩:=run_append_arg_grows (P:=P) w t o.type e j zv ie.size ie.bytes hu h1 h4 h2 h3 h6 hsz a0 hi hi (xs.take (hi*ie.size)) hx0 (fun q u hq=>by
          rw[List.getElem?_take] at hq
          split at hq <;> try cases hq
          obtain⟨A1,c1,hs1,_,_,_,ha⟩:=ownsRow_form ho1
          rw[hs0] at hs1; cases hs1
          have:=ho1.cells (g:=a0.block) (by rw[hs0]; rfl) q u hq
          have e2:a0=⟨a0.block,0,none⟩:=by
            obtain⟨b,off,spot⟩:=a0
            have:=ha _ rfl
            simp at this
            simp[this]
          rw[e2]; exact this) ad ry.length c news hl (hcell ad rfl) (by omega) hsm2 hb
        exact⟨v',w',hr,hown.m,hg⟩
    obtain⟨v',w',hr,hown,hg⟩:=key2
    obtain⟨A',c',rfl⟩:=ownsRow_slice hown
    have hown':w'.rowM w0.heap.size e ie.size (.slice A' (hi+ry.length) c') (hi+ry.length) (xs.take (hi*ie.size)++news):=by
      refine⟨hown.1,hown.2.imp id fun ⟨g,cap,cur,e1,hb1,r⟩=>⟨g,cap,cur,e1,Nat.le_trans h.below.size hb1,r⟩⟩
    have hnew:=h.newOwnF key e ie.size (z.2.2.take hi++ry) _ (xs.take (hi*ie.size)++news) none hf hg (fun g e=>by cases e)
      (by rw[List.length_append,List.length_take,Nat.min_eq_left hhi]; exact hown')
      (fun g e=>.inr (by
        rcases hown.2 with ⟨e1,_⟩ | ⟨g',cap,cur,e1,hb1,_⟩
        · rw[e1] at e; cases e
        · rw[e1] at e; cases e; exact hb1))
      (fun r hr=>by
        rcases List.mem_append.1 hr with hr | hr
        · rw[ho2 r (List.mem_of_mem_take hr),hz2]
        · exact hrl r hr)
      (by rw[List.flatten_append,hflt]; exact (ho3.take _).append hnews)
    exact⟨_,hk,_,_,_,hex _ _ hr,hnew.put o.dst (.l (.own key)) _ hd ⟨(upd_same _ _ _).symm,_,_,_,upd_same _ _ _⟩ ds⟩
  · exact he.elim

end
end Go.VC
namespace Go.VC
open Go.RowKit (Below)

/-- What is known of the program's types. -/
structure TabOk (P:Program) (T:TypeId→Option TI):Prop where
  ok:∀t i,T t=some i→TIok P t i
  eq:∀t i,T t=some i→i.eq=true→∀ks,i.kds=some ks→EqTells P t ks
  places:∀t i fs (w:World),T t=some i→i.k=.struct fs→∃F:Array Field,P.underlying t=some (.struct F)∧∃places:Array (Nat×Nat),(F.mapM (fun f=>do Pure.pure (f.offset,←sizeOf f.type)):Sem (Array (Nat×Nat))).run P w=.ok places w∧∀(q off:Nat) ft j,fs[q]?=some (off,ft)→T ft=some j→places[q]?=some (off,j.size)
  mixed:P.follows .mixedOrders=true

section
variable {P:Program} {T:TypeId→Option TI} {w0:World} {p0 p:Nat→Prop} {σ:Nat→Value} {s:St} {tm:Array Value} {ups:List (Array Value)} {w:World} {ds:List Deferred}

theorem sound_callB (hT:TabOk P T) (h:Rel w0 p0 p σ s tm ups w) {o:Oper} {K:Eff→Prop} {key:Nat} (hd:∀d,o.dst=some d→d<s.n) (hf:Oper.makes o=true→Free key s) (c:Call) (ho:o.op=.call c) {b:Builtin} (hc:c.callee=.builtin b)
    (he:callBK T b c.argTypes.toList (c.args.toList.map s.eval) (assoc s.o) key K):Sound P w0 p0 p s tm ups w ds o K:=by
  have hev:=evals (ds:=ds) h c.args.toList
  generalize hxs:c.args.toList.map s.eval=xs at he hev
  generalize hts:c.argTypes.toList=ts at he
  have he0:=he
  unfold callBK at he
  split at he <;> try exact he.elim
  · -- len
    rename_i t x
    obtain⟨i,hi,he⟩:=he
    obtain⟨v,hvs,hv⟩:=All2_one hev
    have hargs:=map_toList1 hvs
    have hat:c.argTypes=#[t]:=by apply Array.ext'; simpa using hts
    have hex:∀r,(Builtin.len_ #[t] o.type #[v]).run P w=.ok r w→(execOp (Act.eval ⟨tm,ds⟩) o).run P w=.ok (.value r) w:=by
      intro r hr
      rw[run_exec_builtin ho hc,hargs,hat]
      simp only[builtin,Sem.run_bind,hr,Result.andThen_ok,Sem.run_pure]
    obtain⟨d,hdd,hdk⟩:=(hT.ok t i hi).desc
    split at he <;> try exact he.elim
    · rename_i e rows hk
      rw[hk] at hdk; simp only[DescOk] at hdk; subst hdk
      obtain⟨A,cc,rfl,_,_⟩:=RepD_sl hv
      exact Sound.pure h hd _ [] _ he (RepD.int _ _) (hex _ (by simp[Builtin.len_,run_underlying hdd,goInt]))
    · rename_i e hk
      rw[hk] at hdk; simp only[DescOk] at hdk; subst hdk
      have hv':v=.slice none 0 0:=hv
      subst hv'
      exact Sound.pure h hd _ [] _ he (RepD.int _ _) (hex _ (by simp[Builtin.len_,run_underlying hdd,goInt]))
    · rename_i e k hk
      rw[hk] at hdk; simp only[DescOk] at hdk; subst hdk
      split at he <;> try exact he.elim
      rename_i y hy
      obtain⟨hv1,_⟩:=hv
      obtain⟨xs,ho1,_⟩:=h.o k y hy
      obtain⟨A,cc,hs,_⟩:=ownsRow_form ho1
      rw[hs] at hv1; subst hv1
      exact Sound.pure h hd _ [k] _ he (RepD.int _ _) (hex _ (by simp[Builtin.len_,run_underlying hdd,goInt]))
    · rename_i str hk
      rw[hk] at hdk; simp only[DescOk] at hdk; subst hdk
      have hv':=RepD_str hv
      subst hv'
      exact Sound.pure h hd _ [] _ he (RepD.int _ _) (hex _ (by simp[Builtin.len_,run_underlying hdd,goInt]))
  · -- max
    rename_i k a k' b'
    obtain⟨v,u,hvs,hv,hu⟩:=All2_two hev
    refine Sound.pure h hd _ [] _ he (RepD.int _ _) ?_
    rw[run_exec_builtin ho hc,map_toList2 hvs,RepD_int hv,RepD_int hu]
    simp[builtin,Builtin.max_,Builtin.max2]
  · rename_i k a k' b'
    obtain⟨v,u,hvs,hv,hu⟩:=All2_two hev
    refine Sound.pure h hd _ [] _ he (RepD.int _ _) ?_
    rw[run_exec_builtin ho hc,map_toList2 hvs,RepD_int hv,RepD_int hu]
    simp[builtin,Builtin.min_,Builtin.min2]
  · rename_i t t' x y
    refine sound_append hT.ok h hd (hf ?_) c ho hc hts hxs he0
    unfold Oper.makes
    rw[ho]
    obtain⟨cal,ar,at'⟩:=c
    simp only at hc
    subst hc
    rfl

theorem effK_sound (hT:TabOk P T) (h:Rel w0 p0 p σ s tm ups w) {o:Oper} {K:Eff→Prop} {key:Nat} (hd:∀d,o.dst=some d→d<s.n) (hf:Oper.makes o=true→Free key s)
    (he:effK T o s.eval (assoc s.b) (assoc s.o) key K):Sound P w0 p0 p s tm ups w ds o K:=by
  cases ho:o.op
  case move x=>
    unfold effK at he
    simp only[ho] at he
    exact Sound.pure h hd _ [] _ he (h.eval (ds:=ds) x) (by unfold execOp; simp only[ho,Sem.run_pure])
  case assign x=>
    unfold effK at he
    simp only[ho] at he
    exact Sound.pure h hd _ [] _ he (h.eval (ds:=ds) x) (by unfold execOp; simp only[ho,Sem.run_pure])
  case pick c a b=>exact sound_pick h hd c a b ho he
  case alloc e=>exact sound_alloc hT.ok h hd (hf (by unfold Oper.makes; rw[ho])) e ho he
  case box e x=>exact sound_box h hd (hf (by unfold Oper.makes; rw[ho])) e x ho he
  case load t x=>exact sound_load hT.ok h hd t x ho he
  case fieldAddr t x f=>exact sound_fieldAddr hT.ok h hd t x f ho he
  case field t x f=>exact sound_field hT.ok h hd t x f ho he
  case indexAddr t x i=>exact sound_indexAddr hT.ok h hd t x i ho he
  case binOp op t x y t'=>exact sound_binOp hT.ok hT.eq h hd op t x y t' ho he
  case unOp op t x=>exact sound_unOp h hd op t x ho he
  case convert a b x=>exact sound_convert hT.ok h hd a b x ho he
  case makeFunc f first caps=>exact sound_makeFunc h hd f first caps ho he
  case slice t x lo hi mx=>exact sound_slice hT.ok h hd t x lo hi mx ho he
  case build t parts=>exact sound_build hT.ok h hd t parts ho (fun i fs hi hk=>hT.places t i fs w hi hk) he
  case buildSlice t len parts=>exact sound_buildSlice hT.ok h hd (hf (by unfold Oper.makes; rw[ho])) t len parts ho he
  case makeSlice t l c=>exact sound_makeSlice hT.ok h hd (hf (by unfold Oper.makes; rw[ho])) t l c ho he
  case extract x i=>exact sound_extract h hd x i ho he
  case nilCheck x=>exact sound_nilCheck h hd x ho he
  case call c=>
    unfold effK at he
    simp only[ho] at he
    split at he <;> try exact he.elim
    rename_i b hc
    exact sound_callB hT h hd hf c ho hc he
  all_goals
    unfold effK at he
    simp only[ho] at he

end
end Go.VC
namespace Go.VC
open Go.RowKit (Below)

theorem heap_setCells (g:Nat) (t:TypeId):∀(vs:List Value) (o:Nat) (cs:Array Value) (w:World),w.heap[g]?=some (.cells cs t (0,0))→o+vs.length≤cs.size →
    (w.setCells g o vs).heap[g]?=some (.cells (splice cs.toList o vs).toArray t (0,0))
  | [],o,cs,w,h,_=>by
    simp only[World.setCells,splice,List.length_nil,Nat.add_zero,List.append_nil,List.take_append_drop]
    exact h
  | v::vs,o,cs,w,h,hle=>by
    simp only[List.length_cons] at hle
    rw[World.setCells,heap_setCells g t vs (o+1) (cs.setIfInBounds o v) _ (heap_setCell_same w g o cs t v h) (by simp; omega)]
    congr 3
    apply List.ext_getElem?
    intro k
    rw[getElem?_splice _ _ _ _ (by simp; omega),getElem?_splice _ _ _ _ (by simp; omega)]
    simp only[Array.toList_setIfInBounds,List.getElem?_set,List.length_cons]
    by_cases h1:k<o
    · rw[if_pos (by omega),if_pos h1,if_neg (by omega)]
    · by_cases h2:k=o
      · subst h2
        have a1:k<k+1:=by omega
        have a3:k<k+(vs.length+1):=by omega
        have a4:k<cs.size:=by omega
        simp[a1,a3,a4]
      · rw[if_neg (by omega),if_neg h1]
        by_cases h3:k<o+1+vs.length
        · rw[if_pos h3,if_pos (by omega)]
          have:k-o=(k-(o+1))+1:=by omega
          rw[this]
          simp
        · rw[if_neg h3,if_neg (by omega),if_neg (by omega)]

theorem heap_setCells_other (g:Nat):∀(vs:List Value) (o:Nat) (w:World) (k:Nat),k≠g→(w.setCells g o vs).heap[k]?=w.heap[k]?
  | [],_,_,_,_=>rfl
  | v::vs,o,w,k,h=>by
    rw[World.setCells,heap_setCells_other g vs (o+1) _ k h]
    exact Below.heap_setCell w _ _ k h

theorem below_setCells {B:Nat} {a:World} (g:Nat) (hg:B≤g):∀(vs:List Value) (o:Nat) (w:World),Below B a w→Below B a (w.setCells g o vs)
  | [],_,_,h=>h
  | v::vs,o,w,h=>below_setCells g hg vs (o+1) _ (h.setCell hg v)

theorem size_setCells (g:Nat):∀(vs:List Value) (o:Nat) (w:World),(w.setCells g o vs).heap.size=w.heap.size
  | [],_,_=>rfl
  | v::vs,o,w=>by rw[World.setCells,size_setCells g vs]; simp[World.setCell]

section
variable {P:Program} {T:TypeId→Option TI} {w0:World} {p0 p:Nat→Prop} {σ:Nat→Value} {s:St} {tm:Array Value} {ups:List (Array Value)} {w:World} {ds:List Deferred}

def storeK (T:TypeId→Option TI) (t:TypeId) (x v:AV) (s:St) (K:St→Prop):Prop:=
  match T t,cellsV v with
  | some i,some cs=>cs.length=i.size∧cs.all LV.ok=true∧(match x with
    | .l (.ptr k off)=>(match assoc s.b k with | some old=>off+i.size≤old.length∧K (s.setBox k (splice old off cs)) | none=>False)
    | .l (.eptr k r sz off)=>(match assoc s.o k,closeLs cs with
      | some z,some ds=>z.2.1=sz∧off+i.size≤sz∧∃row,z.2.2[r]?=some row∧K (s.setOwn k (z.1,z.2.1,z.2.2.set r (splice row off ds)))
      | _,_=>False)
    | _=>False)
  | _,_=>False

theorem run_store_cellsF {t:TypeId} {i:TI} (ht:TIok P t i) (g o:Nat) (ty:TypeId) (cs:Array Value) (fz:Nat×Nat) (hg:w.heap[g]?=some (.cells cs ty fz)) (hfz:fzOut fz cs.size) (v:Value) (hv:v.cells.size=i.size) (hle:o+i.size≤cs.size) (h1:∀u∈v.cells.toList,u.oneCell'=true) :
    (Instr.storeAt t (.pointer (some ⟨g,o,none⟩)) v).run P w=.ok () (w.setCells g o v.cells.toList):=by
  have hst:=run_storeCells_cells (P:=P) g o v.cells.toList 0 w (fun j hj=>by
      rw[Nat.add_zero,cell_of_row w g _ cs ty _ hg]
      rw[Array.length_toList] at hj
      rw[Array.getElem?_eq_getElem (by omega)]; rfl) (fun j hj=>by rw[Array.length_toList] at hj; rw[Nat.add_zero]; unfold World.frozen?; rw[hg]; exact fzOut_not hfz (show o+j<cs.size by omega)) h1
  rw[Nat.add_zero] at hst
  simp only[Instr.storeAt,Instr.sureAddr,Sem.run_bind,Sem.run_pure,Result.andThen_ok]
  unfold storeVar
  simp only[Sem.run_bind,run_sizeOf' ht,Result.andThen_ok]
  rw[if_neg (by rw[hv]; simp)]
  simp only[Sem.run_bind,Sem.run_pure,Result.andThen_ok,hst]
theorem run_store_cells {t:TypeId} {i:TI} (ht:TIok P t i) (g o:Nat) (ty:TypeId) (cs:Array Value) (hg:w.heap[g]?=some (.cells cs ty (0,0))) (v:Value) (hv:v.cells.size=i.size) (hle:o+i.size≤cs.size) (h1:∀u∈v.cells.toList,u.oneCell'=true) :
    (Instr.storeAt t (.pointer (some ⟨g,o,none⟩)) v).run P w=.ok () (w.setCells g o v.cells.toList):=by
  have hst:=run_storeCells_cells (P:=P) g o v.cells.toList 0 w (fun j hj=>by
      rw[Nat.add_zero,cell_of_row w g _ cs ty _ hg]
      rw[Array.length_toList] at hj
      rw[Array.getElem?_eq_getElem (by omega)]; rfl) (fun j hj=>by rw[Nat.add_zero]; exact frozen_of_row w g _ cs ty hg) h1
  rw[Nat.add_zero] at hst
  simp only[Instr.storeAt,Instr.sureAddr,Sem.run_bind,Sem.run_pure,Result.andThen_ok]
  unfold storeVar
  simp only[Sem.run_bind,run_sizeOf' ht,Result.andThen_ok]
  rw[if_neg (by rw[hv]; simp)]
  simp only[Sem.run_bind,Sem.run_pure,Result.andThen_ok,hst]

theorem sound_store (hT:TabOk P T) (h:Rel w0 p0 p σ s tm ups w) {o:Oper} {K:St→Prop} (hd:∀d,o.dst=some d→d<s.n) (t:TypeId) (x v:Operand) (ho:o.op=.store t x v) (he:storeK T t (s.eval x) (s.eval v) s K) :
    ∃s' w',K s'∧s'.n=s.n∧(execOp (Act.eval ⟨tm,ds⟩) o).run P w=.ok .skip w'∧Rel w0 p0 p σ s' tm ups w':=by
  have hx:=h.eval (ds:=ds) x
  have hv:=h.eval (ds:=ds) v
  unfold storeK at he
  split at he <;> try exact he.elim
  rename_i i cs hi hcs
  obtain⟨hl,hok,he⟩:=he
  have hcv:=cellsV_ok hv hcs hok
  have hsize:(Act.eval ⟨tm,ds⟩ v).cells.size=i.size:=by rw[←Array.length_toList,←hcv.1.1,hl]
  have hex:∀w',(Instr.storeAt t (Act.eval ⟨tm,ds⟩ x) (Act.eval ⟨tm,ds⟩ v)).run P w=.ok () w'→(execOp (Act.eval ⟨tm,ds⟩) o).run P w=.ok .skip w':=by
    intro w' hr
    unfold execOp
    simp only[ho,Sem.run_bind,hr,Result.andThen_ok,Sem.run_pure]
  split at he <;> try exact he.elim
  · rename_i k off hρ
    rw[hρ] at hx
    split at he <;> try exact he.elim
    rename_i old hold
    obtain⟨hle,hk⟩:=he
    obtain⟨b,hb,hxv⟩:=hx
    obtain⟨g,ty,vs,e,hbase,hpg,hg,hr⟩:=h.b k old hold
    rw[e] at hb; cases hb
    have hrun:=run_store_cells (P:=P) (hT.ok t i hi) b off ty vs.toArray hg (Act.eval ⟨tm,ds⟩ v) hsize (by simp[←hr.1]; omega) hcv.2
    refine⟨_,w.setCells b off (Act.eval ⟨tm,ds⟩ v).cells.toList,hk,rfl,hex _ (by rw[hxv]; exact hrun),?_⟩
    refine h.setBox k old _ hold (below_setCells b hbase _ off w h.below) (by rw[size_setCells]; exact Nat.le_refl _) (fun g' _ hne=>heap_setCells_other b _ off w g' (fun e'=>hne (by rw[e,e']; rfl))) ?_
    have hfr:∀b',p b'→(w.setCells b off (Act.eval ⟨tm,ds⟩ v).cells.toList).heap[b']?=w.heap[b']?:=fun b' hb=>heap_setCells_other b _ off w b' (fun e'=>hpg (e' ▸ hb))
    refine⟨b,ty,_,e,hbase,hpg,heap_setCells b ty _ off vs.toArray w hg (by rw[Array.length_toList,hsize]; simp[←hr.1]; omega),?_⟩
    exact (hr.mono fun x v h=>h.world hfr).splice (hcv.1.mono fun x v h=>h.world hfr) off
  · rename_i k r sz off hρ
    rw[hρ] at hx
    split at he <;> try exact he.elim
    rename_i z dd hz hdd
    obtain⟨hzs,hle,row,hrow,hk⟩:=he
    obtain⟨b,n,c,hs,hxv⟩:=hx
    obtain⟨xs,ho1,ho2,ho3,ho4⟩:=h.o k z hz
    rcases ho1.2 with ⟨hvv,_⟩ | ⟨g,cap,cur,hvv,hbase,hg,hn1,hn2,hcur,htake⟩
    · rw[hs] at hvv; cases hvv
    · rw[hs] at hvv; cases hvv
      have hpg:¬p b:=ho4 b (by rw[hs]; rfl)
      have hdr:All2 (RepD w p) dd (Act.eval ⟨tm,ds⟩ v).cells.toList:=closeLs_rep hcv.1 hdd
      have hrlt:r<z.2.2.length:=(List.getElem?_eq_some_iff.1 hrow).1
      have hrl:row.length=z.2.1:=ho2 row (List.mem_of_getElem? hrow)
      have hxl:xs.length=z.2.2.length*z.2.1:=ho1.1
      have hmul:(r+1)*z.2.1≤z.2.2.length*z.2.1:=Nat.mul_le_mul_right _ hrlt
      have hmul2:z.2.2.length*z.2.1≤c*z.2.1:=Nat.mul_le_mul_right _ hn1
      rw[Nat.add_mul,Nat.one_mul] at hmul
      have hcl:(Act.eval ⟨tm,ds⟩ v).cells.toList.length=i.size:=by rw[Array.length_toList,hsize]
      obtain⟨fz,hg,hfz⟩:=hg
      have hrun:=run_store_cellsF (P:=P) (hT.ok t i hi) b (r*sz+off) z.1 cur fz hg hfz (Act.eval ⟨tm,ds⟩ v) hsize (by rw[hcur,←hzs]; omega) hcv.2
      refine⟨_,w.setCells b (r*sz+off) (Act.eval ⟨tm,ds⟩ v).cells.toList,hk,rfl,hex _ (by rw[hxv]; exact hrun),?_⟩
      have hfr:∀b',p b'→(w.setCells b (r*sz+off) (Act.eval ⟨tm,ds⟩ v).cells.toList).heap[b']?=w.heap[b']?:=fun b' hb=>heap_setCells_other b _ _ w b' (fun e'=>hpg (e' ▸ hb))
      refine h.setOwn k z _ hz (below_setCells b hbase _ _ w h.below) (by rw[size_setCells]; exact Nat.le_refl _) (fun g' _ hne=>heap_setCells_other b _ _ w g' (fun e'=>hne (by rw[hs,e']; rfl))) ?_
      have hflat:(z.2.2.set r (splice row off dd)).flatten=splice z.2.2.flatten (r*sz+off) dd:=by
        have hdl:dd.length=i.size:=by rw[hdr.1,hcl]
        have hall:∀q∈z.2.2.set r (splice row off dd),q.length=z.2.1:=by
          intro q hq
          rcases List.mem_or_eq_of_mem_set hq with hq | hq
          · exact ho2 q hq
          · rw[hq,length_splice _ _ _ (by omega),hrl]
        have hfl:z.2.2.flatten.length=z.2.2.length*z.2.1:=length_flatten' z.2.1 _ ho2
        by_cases hz0:z.2.1=0
        · have e1:(z.2.2.set r (splice row off dd)).flatten=[]:=List.eq_nil_of_length_eq_zero (by rw[length_flatten' z.2.1 _ hall,hz0]; simp)
          have e2:(splice z.2.2.flatten (r*sz+off) dd)=[]:=List.eq_nil_of_length_eq_zero (by rw[length_splice _ _ _ (by rw[hfl,←hzs,hz0]; omega),hfl,hz0]; simp)
          rw[e1,e2]
        · apply List.ext_getElem?
          intro q
          have e:q=q/z.2.1*z.2.1+q%z.2.1:=by rw[Nat.mul_comm]; exact (Nat.div_add_mod q z.2.1).symm
          have hm:q%z.2.1<z.2.1:=Nat.mod_lt _ (by omega)
          have e1:=flatten_get z.2.1 _ hall (q/z.2.1) (q%z.2.1) hm
          have e2:=flatten_get z.2.1 _ ho2 (q/z.2.1) (q%z.2.1) hm
          rw[←e] at e1 e2
          rw[e1,getElem?_splice _ _ _ _ (by rw[hfl,←hzs]; omega),e2,List.getElem?_set,←hzs]
          by_cases hqr:r=q/z.2.1
          · rw[if_pos hqr,if_pos (by omega)]
            simp only[Option.bind_some]
            rw[getElem?_splice _ _ _ _ (by omega),hqr.symm,hrow]
            simp only[Option.bind_some]
            have e3:q=r*z.2.1+q%z.2.1:=by rw[hqr]; exact e
            have c1:(q%z.2.1<off)↔(q<r*z.2.1+off):=by omega
            have c2:(q%z.2.1<off+dd.length)↔(q<r*z.2.1+off+dd.length):=by omega
            have e4:q-(r*z.2.1+off)=q%z.2.1-off:=by omega
            simp only[c1,c2,e4]
          · rw[if_neg hqr]
            by_cases hlt:q/z.2.1<r
            · have:q<r*z.2.1:=by
                have:=Nat.mul_le_mul_right z.2.1 (show q/z.2.1+1≤r by omega)
                rw[Nat.add_mul,Nat.one_mul] at this; omega
              rw[if_pos (by omega)]
            · have:(r+1)*z.2.1≤q:=by
                have:=Nat.mul_le_mul_right z.2.1 (show r+1≤q/z.2.1 by omega)
                omega
              rw[Nat.add_mul,Nat.one_mul] at this
              rw[if_neg (by omega),if_neg (by omega)]
      refine⟨splice xs (r*sz+off) (Act.eval ⟨tm,ds⟩ v).cells.toList,⟨?_,.inr ⟨b,c,_,?_,hbase,⟨fz,heap_setCellsF b z.1 fz _ _ cur w hg (by rw[hcl,hcur,←hzs]; omega),by rw[List.size_toArray,length_splice _ _ _ (by rw[hcl,Array.length_toList,hcur,←hzs]; omega),Array.length_toList]; exact hfz⟩,?_,hn2,?_,?_⟩⟩,?_,?_,?_⟩
      · show (splice xs (r*sz+off) _).length=(z.2.2.set r (splice row off dd)).length*z.2.1
        rw[List.length_set,length_splice _ _ _ (by rw[hcl,hxl,←hzs]; omega),hxl]
      · show σ k=.slice (some ⟨b,0,none⟩) (z.2.2.set r (splice row off dd)).length c
        rw[List.length_set]; exact hs
      · show (z.2.2.set r (splice row off dd)).length≤c
        rw[List.length_set]; exact hn1
      · show (splice cur.toList (r*sz+off) _).toArray.size=c*z.2.1
        rw[List.size_toArray,length_splice _ _ _ (by rw[hcl,Array.length_toList,hcur,←hzs]; omega),Array.length_toList,hcur]
      · show List.take ((z.2.2.set r (splice row off dd)).length*z.2.1) (splice cur.toList (r*sz+off) _)=splice xs (r*sz+off) _
        rw[List.length_set,←htake]
        apply List.ext_getElem?
        intro q
        have hcl2:cur.toList.length=c*z.2.1:=by rw[Array.length_toList,hcur]
        rw[getElem?_splice _ _ _ _ (by rw[hcl,List.length_take,hcl2,←hzs,Nat.min_eq_left hmul2]; omega),List.getElem?_take,getElem?_splice _ _ _ _ (by rw[hcl,hcl2,←hzs]; omega),List.getElem?_take]
        by_cases hq:q<z.2.2.length*z.2.1
        · simp only[hq,if_true]
        · have:¬q<r*sz+off:=by rw[←hzs]; omega
          have h3:¬q<r*sz+off+(Act.eval ⟨tm,ds⟩ v).cells.toList.length:=by rw[hcl,←hzs]; omega
          simp only[hq,this,h3,if_false]
      · intro q hq
        rcases List.mem_or_eq_of_mem_set hq with hq | hq
        · exact ho2 q hq
        · show q.length=z.2.1
          rw[hq,length_splice _ _ _ (by rw[hdr.1,hcl]; omega),hrl]
      · show All2 (RepD (w.setCells b (r*sz+off) _) p) (z.2.2.set r (splice row off dd)).flatten _
        rw[hflat]
        exact (ho3.mono fun x v h=>h.mono hfr (fun _ h=>h)).splice (hdr.mono fun x v h=>h.mono hfr (fun _ h=>h)) _
      · intro g' hg'
        exact ho4 g' hg'

end
end Go.VC
namespace Go.VC
open Go.RowKit (Below)

/-! ### Contracts on data -/
inductive CV where
  | d (x:D)
  | agg (xs:List D)
  | dp (cells:List D)

def RepCV (w:World) (p:Nat→Prop):CV→Value→Prop
  | .d x,v=>RepD w p x v
  | .agg xs,v=>∃vs:List Value,v=.agg vs.toArray∧All2 (RepD w p) xs vs
  | .dp cs,v=>∃ad:Addr,v=.pointer (some ad)∧CellsD w p cs ad

def CV.av:CV→AV
  | .d x=>.l (.d x)
  | .agg xs=>.agg (xs.map .d)
  | .dp cs=>.l (.dptr cs 0)

def RepR (w:World) (p:Nat→Prop) (rs:List CV) (v:Value):Prop:=
  match rs with
  | [r]=>RepCV w p r v
  | rs=>∃vs:List Value,v=.tuple vs.toArray∧All2 (RepCV w p) rs vs

def resAV:List CV→AV
  | [r]=>r.av
  | rs=>.tup (rs.map CV.av)

def FnOk (P:Program) (f:FuncId):Prop:=∃fn,P.funcs[f]?=some fn∧(fn.name == "runtime.NumGoroutine")=false∧fn.body.isNone=false

/-- Function f, called with these data, returns, and what it returns is such. -/
def Spec (P:Program) (f:FuncId) (args:List CV) (R:List CV→Prop):Prop:=
  FnOk P f∧∀(w:World) (p:Nat→Prop) (vs:List Value),(∀b,p b→b<w.heap.size)→All2 (RepCV w p) args vs →
    Calls P f vs.toArray w fun e w'=>∃v rs p',e=.returned v∧R rs∧RepR w' p' rs v∧Below w.heap.size w w'∧(∀b,p b→p' b)∧(∀b,p' b→p b∨w.heap.size≤b)∧∀b,p' b→b<w'.heap.size

/-- f, called in state s, comes back in a state as K says. -/
def ACall (P:Program) (f:FuncId) (args:List AV) (s:St) (K:AV→St→Prop):Prop:=
  FnOk P f∧∀w0 p0 p σ tm ups w (vs:List Value),Rel w0 p0 p σ s tm ups w→All2 (RepV σ w p) args vs →
    Calls P f vs.toArray w fun e w'=>∃v r s' p' σ',e=.returned v∧K r s'∧RepV σ' w' p' r v∧Rel w0 p0 p' σ' s' tm ups w'

def AWp (P:Program) (c:Code) (Q:Exit→St→Prop) (s:St):Prop:=
  ∀w0 p0 p σ tm ups w,Rel w0 p0 p σ s tm ups w→c.wp P (fun e a' w'=>a'.defers=[]∧∃s' p' σ',Q e s'∧Rel w0 p0 p' σ' s' a'.tmps ups w') ⟨tm,[]⟩ w

def St.enter (s:St) (args:List AV) (n:Nat):St:=
  { t:=(List.range args.length).zip args,n:=n,up:=⟨s.t,s.n⟩::s.up,b:=s.b,o:=s.o }

/-- A result that lies in memory. -/
def resCell (T:TypeId→Option TI) (s:St) (a:Nat) (t:TypeId):Option AV:=match T t with
  | some i=>(match s.get a with
    | .l (.ptr k off)=>(match assoc s.b k with
      | some cs=>(match Nat.ble 1 i.size && Nat.ble (off+i.size) cs.length with | true=>some (loadV i cs off) | false=>none)
      | none=>none)
    | _=>none)
  | none=>none

def resL (T:TypeId→Option TI) (s:St):List ResultVar→Option (List AV)
  | []=>some []
  | .tmp t::r=>(match s.get t,resL T s r with
    | .tup _,_=>none
    | x,some l=>some (x::l)
    | _,none=>none)
  | .cell a t::r=>(match resCell T s a t,resL T s r with
    | some x,some l=>some (x::l)
    | _,_=>none)

def resultsAV (T:TypeId→Option TI) (s:St):List ResultVar→Option AV
  | [.tmp t]=>some (s.get t)
  | [.cell a t]=>resCell T s a t
  | rs=>match resL T s rs with | some l=>some (.tup l) | none=>none

/-- From an entered state back to the caller's. -/
def St.leave (s:St):Option St:=
  match s.up with
  | f::up=>some { t:=f.t,n:=f.n,up:=up,b:=s.b,o:=s.o }
  | []=>none

section
variable {P:Program} {T:TypeId→Option TI} {w0:World} {p0 p p':Nat→Prop} {σ:Nat→Value} {s:St} {tm:Array Value} {ups:List (Array Value)} {w w':World} {ds:List Deferred}

theorem CV.av_rep {c:CV} {v:Value} (h:RepCV w p c v):RepV σ w p c.av v:=by
  cases c with
  | d x=>exact h
  | agg xs=>obtain⟨vs,e,h2⟩:=h; exact⟨vs,e,h2.map_left _ fun x v h=>h⟩
  | dp cs=>obtain⟨ad,e,h2⟩:=h; exact⟨ad,by rw[e]; rfl,h2⟩

theorem CV.av_rep1 {c:CV} {v:Value} (h:RepCV w p c v):RepV1 σ w p c.av v:=by
  cases c with
  | d x=>exact h
  | agg xs=>obtain⟨vs,e,h2⟩:=h; exact⟨vs,e,h2.map_left _ fun x v h=>h⟩
  | dp cs=>obtain⟨ad,e,h2⟩:=h; exact⟨ad,by rw[e]; rfl,h2⟩

theorem resAV_rep {rs:List CV} {v:Value} (h:RepR w p rs v):RepV σ w p (resAV rs) v:=by
  unfold RepR at h
  unfold resAV
  split at h
  · exact CV.av_rep h
  · rename_i hne
    obtain⟨vs,e,h2⟩:=h
    exact⟨vs,e,h2.map_left _ fun x v h=>CV.av_rep1 h⟩

theorem getT_zip (args:List AV) (k i:Nat):getT ((List.range' k args.length).zip args) i=if k≤i then (match args[i-k]? with | some x=>x | none=>.l .unk) else .l .unk:=by
  induction args generalizing k with
  | nil=>simp[getT]
  | cons a r ih=>
    simp only[List.length_cons,List.range'_succ,List.zip_cons_cons,getT]
    by_cases h:i=k
    · subst h; simp
    · rw[if_neg h,ih]
      by_cases h2:k+1≤i
      · rw[if_pos h2,if_pos (by omega)]
        have:i-k=(i-(k+1))+1:=by omega
        rw[this]; rfl
      · rw[if_neg h2,if_neg (by omega)]

theorem tok_args {args:List AV} {vs:List Value} {n:Nat} (h:All2 (RepV σ w p) args vs) (hn:vs.length≤n):TOk σ w p ((List.range args.length).zip args) n (vs.toArray++Array.replicate (n-vs.toArray.size) undef):=by
  refine⟨by simp; omega,fun i=>?_⟩
  rw[List.range_eq_range',getT_zip,if_pos (Nat.zero_le _),Nat.sub_zero]
  cases hx:args[i]? with
  | none=>trivial
  | some x=>
    obtain⟨y,hy,hr⟩:=h.get hx
    have hi:i<vs.length:=(List.getElem?_eq_some_iff.1 hy).1
    simp only[Array.getD_eq_getD_getElem?]
    rw[Array.getElem?_append_left (by simpa using hi)]
    simp only[List.getElem?_toArray,hy,Option.getD_some]
    exact hr

theorem RepV1_of {x:AV} {v:Value} (h:RepV σ w p x v) (hx:∀cs,x≠.tup cs):RepV1 σ w p x v:=by
  cases x with
  | tup cs=>exact absurd rfl (hx cs)
  | l _=>exact h
  | agg _=>exact h

theorem loadV_tup {i:TI} {cs:List LV} {off:Nat}:∀x,loadV i cs off≠.tup x:=by
  intro x e
  unfold loadV at e
  split at e
  · cases e
  · split at e <;> cases e

theorem run_resCell {T:TypeId→Option TI} (hT:∀t i,T t=some i→TIok P t i) {tm:Array Value} (h:Rel w0 p0 p σ s tm ups w) {a:Nat} {t:TypeId} {x:AV} (hx:resCell T s a t=some x) :
    ∃v,(do loadVar t (←asAddr (tm.getD a undef)):Sem Value).run P w=.ok v w∧RepV σ w p x v∧∀cs,x≠.tup cs:=by
  unfold resCell at hx
  split at hx <;> try cases hx
  rename_i i hi
  split at hx <;> try cases hx
  rename_i k off hg
  split at hx <;> try cases hx
  rename_i cs hcs
  split at hx <;> try cases hx
  rename_i hb
  rw[Bool.and_eq_true] at hb
  have hsz:=Nat.le_of_ble_eq_true hb.1
  have hlen:=Nat.le_of_ble_eq_true hb.2
  have hv:=h.t.2 a
  change RepV σ w p (s.get a) _ at hv
  rw[hg] at hv
  obtain⟨b,hb2,hv⟩:=hv
  obtain⟨g,hg2,hc⟩:=(h.b k cs hcs).cells
  rw[hg2] at hb2; cases hb2
  obtain⟨v,hr,hrep⟩:=run_load (P:=P) (w:=w) (σ:=σ) (p:=p) (hT t i hi) ⟨b,0,none⟩ cs off hlen hsz hc
  refine⟨v,?_,hrep,loadV_tup⟩
  rw[hv]
  rw[Addr.add_mid,Nat.zero_add] at hr
  simp only[Instr.loadAt,Instr.sureAddr,Sem.run_bind,Sem.run_pure,Result.andThen_ok] at hr
  simp only[asAddr,Sem.run_bind,Sem.run_pure,Result.andThen_ok]
  exact hr

theorem run_results {T:TypeId→Option TI} (hT:∀t i,T t=some i→TIok P t i) {fn:Func} {rs:List ResultVar} (hrs:fn.results.toList=rs) (ht:Rel w0 p0 p σ s tm ups w) {r:AV} (hr:resultsAV T s rs=some r):∃v,(results fn tm).run P w=.ok v w∧RepV σ w p r v:=by
  have hfn:fn.results=rs.toArray:=by apply Array.ext'; simpa using hrs
  -- the list of the results' values
  have main:∀(l:List ResultVar) (acc:List AV),resL T s l=some acc →
      ∃vs:List Value,((l.mapM fun (x:ResultVar)=>match x with | .tmp t=>Pure.pure (tm.getD t undef) | .cell a t=>(do loadVar t (←asAddr (tm.getD a undef)))):Sem (List Value)).run P w=.ok vs w∧All2 (RepV1 σ w p) acc vs∧vs.length=l.length:=by
    intro l
    induction l with
    | nil=>intro acc h; cases h; exact⟨[],rfl,All2.nil,rfl⟩
    | cons x l ih=>
      intro acc h
      cases x with
      | cell a t=>
        unfold resL at h
        split at h <;> try cases h
        rename_i x' l' hx hl
        obtain⟨vs,h1,h2,h3⟩:=ih _ hl
        obtain⟨v,hv,hrep,hne⟩:=run_resCell hT ht hx
        refine⟨v::vs,?_,All2.cons (RepV1_of hrep hne) h2,by simp[h3]⟩
        rw[List.mapM_cons]
        simp only[Sem.run_bind] at hv
        simp only[Sem.run_bind,Sem.run_pure,Result.andThen_ok,h1,hv]
      | tmp t=>
        unfold resL at h
        split at h <;> try cases h
        rename_i x' l' hx hl hne
        obtain⟨vs,h1,h2,h3⟩:=ih _ hl
        have hv:=ht.t.2 t
        refine⟨tm.getD t undef::vs,?_,All2.cons (RepV1_of hv (fun cs e=>hne cs e)) h2,by simp[h3]⟩
        rw[List.mapM_cons]
        simp only[Sem.run_bind,Sem.run_pure,Result.andThen_ok,h1]
  unfold resultsAV at hr
  split at hr
  · rename_i t
    cases hr
    refine⟨tm.getD t undef,?_,ht.t.2 t⟩
    exact results_tmp hfn tm P w
  · rename_i a t
    obtain⟨v,hv,hrep,hne⟩:=run_resCell hT ht hr
    refine⟨v,?_,hrep⟩
    unfold results
    rw[hfn,List.mapM_toArray,List.mapM_cons,List.mapM_nil]
    simp only[Sem.run_bind] at hv
    simp only[Sem.run_bind,Sem.run_map,Sem.run_pure,Result.andThen_ok,hv]
    rfl
  · rename_i hne hne2
    split at hr <;> try cases hr
    rename_i acc hacc
    obtain⟨vs,h1,h2,h3⟩:=main _ acc hacc
    refine⟨.tuple vs.toArray,?_,vs,rfl,h2⟩
    unfold results
    rw[hfn,List.mapM_toArray]
    simp only[Sem.run_bind,Sem.run_map]
    erw [h1]
    simp only[Result.andThen_ok]
    rw[Sem.run_pure]
    congr 1
    by_cases hl:vs.length=1
    · exfalso
      rw[h3] at hl
      match rs,hl,hne,hne2 with
      | [.tmp t],_,hne,_=>exact hne t rfl
      | [.cell a t],_,_,hne2=>exact hne2 a t rfl
    · rw[dif_neg (by simpa using hl)]

end
end Go.VC
namespace Go.VC
open Go.RowKit (Below)

/-! ### Closing: what a value is as data, right now -/
def closeL (s:St):LV→Option D
  | .d x=>some x
  | .nil=>some (.sl [])
  | .own k=>(match assoc s.o k with | some x=>some (.sl x.2.2) | none=>none)
  | _=>none

def closeLL (s:St):List LV→Option (List D)
  | []=>some []
  | x::r=>match closeL s x,closeLL s r with
    | some a,some b=>some (a::b)
    | _,_=>none

def closeCaps (s:St):List Cap→Option (List (List D))
  | []=>some []
  | .c cs::r=>(match closeCaps s r with | some l=>some (cs::l) | none=>none)
  | .k k::r=>(match assoc s.b k,closeCaps s r with
    | some cs,some l=>(match closeLL s cs with | some ds=>some (ds::l) | none=>none)
    | _,_=>none)

/-- Rows out of cells in a row. -/
def rowsN (sz:Nat):Nat→List D→Option (List (List D))
  | 0,[]=>some []
  | 0,_::_=>none
  | n+1,ds=>(match Nat.ble sz ds.length with
    | true=>(match rowsN sz n (ds.drop sz) with | some r=>some (ds.take sz::r) | none=>none)
    | false=>none)
theorem rowsN_spec {sz:Nat}:∀{n:Nat} {ds:List D} {rows:List (List D)},rowsN sz n ds=some rows→rows.length=n∧(∀r∈rows,r.length=sz)∧∀(i j:Nat) (r:List D) (x:D),rows[i]?=some r→r[j]?=some x→ds[i*sz+j]?=some x
  | 0,[],rows,h=>by cases h; exact⟨rfl,fun r h=>(List.not_mem_nil h).elim,fun i j r x h=>by simp at h⟩
  | 0,_::_,rows,h=>by cases h
  | n+1,ds,rows,h=>by
    unfold rowsN at h
    split at h <;> try cases h
    rename_i hb
    split at h <;> try cases h
    rename_i r hr
    obtain⟨h1,h2,h3⟩:=rowsN_spec hr
    rw[Nat.ble_eq] at hb
    have hl:(ds.take sz).length=sz:=by rw[List.length_take]; omega
    refine⟨by simp[h1],fun a ha=>?_,fun i j a x ha hx=>?_⟩
    · rcases List.mem_cons.1 ha with rfl | ha
      · exact hl
      · exact h2 a ha
    · cases i with
      | zero=>
        simp at ha; subst ha
        have hj:j<sz:=by rw[←hl]; exact (List.getElem?_eq_some_iff.1 hx).1
        rw[List.getElem?_take_of_lt hj] at hx
        simpa using hx
      | succ i=>
        have:=h3 i j a x (by simpa using ha) hx
        rw[List.getElem?_drop] at this
        rwa [show (i+1)*sz+j=sz+(i*sz+j) by rw[Nat.add_mul]; omega]
def closeF (s:St):LV→Option D
  | .bsl k n sz=>(match assoc s.b k with
    | some cs=>(match closeLL s cs with | some ds=>(match rowsN sz n ds with | some rows=>some (.sl rows) | none=>none) | none=>none)
    | none=>none)
  | .func f caps=>(match closeCaps s caps with | some cs=>some (.fn f cs) | none=>none)
  | x=>closeL s x

def closeFL (s:St):List LV→Option (List D)
  | []=>some []
  | x::r=>match closeF s x,closeFL s r with
    | some a,some b=>some (a::b)
    | _,_=>none

def closeV (s:St):AV→Option CV
  | .l (.dptr cs off)=>some (.dp (cs.drop off))
  | .l x=>(match closeF s x with | some d=>some (.d d) | none=>none)
  | .agg cs=>(match closeFL s cs with | some ds=>some (.agg ds) | none=>none)
  | .tup _=>none

def closeVs (s:St):List AV→Option (List CV)
  | []=>some []
  | x::r=>match closeV s x,closeVs s r with
    | some a,some b=>some (a::b)
    | _,_=>none

section
variable {P:Program} {T:TypeId→Option TI} {w0:World} {p0 p p':Nat→Prop} {σ:Nat→Value} {s:St} {tm:Array Value} {ups:List (Array Value)} {w w':World} {ds:List Deferred}

/-- Everything, protected. -/
def pAll (p:Nat→Prop) (σ:Nat→Value) (s:St):Nat→Prop:=fun b=>p b∨∃k,s.live k∧blk (σ k)=some b

theorem closeL_rep (h:Rel w0 p0 p σ s tm ups w) {x:LV} {v:Value} {d:D} (hx:RepL σ w p x v) (e:closeL s x=some d):RepD w (pAll p σ s) d v:=by
  have hp:∀b,p b→pAll p σ s b:=fun b hb=>.inl hb
  cases x with
  | d x=>cases e; exact RepD.mono hx (fun _ _=>rfl) hp
  | nil=>exact (closeL0_rep (x:=.nil) hx e).mono (fun _ _=>rfl) hp
  | own k=>
    simp only[closeL] at e
    split at e <;> try cases e
    rename_i z hz
    obtain⟨hv,_⟩:=hx
    obtain⟨xs,ho1,ho2,ho3,ho4⟩:=h.o k z hz
    obtain⟨A,c,hs,hc1,hn,hc2,ha⟩:=ownsRow_form ho1
    rw[hv,hs]
    refine .sl z.2.2 z.2.1 A c (fun i j=>xs.getD (i*z.2.1+j) undef) hc1 hc2 hn (fun ad e _=>.inr ⟨k,.inr (by rw[hz]; rfl),by rw[hs,e]; rfl⟩) ho2 ?_ ?_
    · intro ad i j r x e hi hj
      have hjl:j<z.2.1:=by rw[←ho2 r (List.mem_of_getElem? hi)]; exact (List.getElem?_eq_some_iff.1 hj).1
      have hf:=flatten_get z.2.1 z.2.2 ho2 i j hjl
      rw[hi,Option.bind_some,hj] at hf
      obtain⟨u,hu,hru⟩:=ho3.get hf
      subst e
      have:=ho1.cells (g:=ad.block) (by rw[hs]; rfl) _ u hu
      have e2:ad=⟨ad.block,0,none⟩:=by
        obtain⟨b,off,spot⟩:=ad
        have:=ha _ rfl
        simp at this
        simp[this]
      rw[e2,this,List.getD_eq_getElem?_getD,hu]
      rfl
    · intro i j r x hi hj
      have hjl:j<z.2.1:=by rw[←ho2 r (List.mem_of_getElem? hi)]; exact (List.getElem?_eq_some_iff.1 hj).1
      have hf:=flatten_get z.2.1 z.2.2 ho2 i j hjl
      rw[hi,Option.bind_some,hj] at hf
      obtain⟨u,hu,hru⟩:=ho3.get hf
      rw[List.getD_eq_getElem?_getD,hu]
      exact hru.mono (fun _ _=>rfl) hp
  | _=>cases e

theorem closeLL_rep (h:Rel w0 p0 p σ s tm ups w):∀{cs:List LV} {ds:List D} {vs:List Value},All2 (RepL σ w p) cs vs→closeLL s cs=some ds→All2 (RepD w (pAll p σ s)) ds vs
  | [],ds,vs,hx,e=>by cases e; rw[hx.nil_inv]; exact All2.nil
  | x::r,ds,vs,hx,e=>by
    obtain⟨v,vs',rfl,h1,h2⟩:=hx.cons_inv
    unfold closeLL at e
    split at e <;> try cases e
    rename_i a b ha hb
    exact All2.cons (closeL_rep h h1 ha) (closeLL_rep h h2 hb)

/-- A captured variable's cells, as data. -/
def CapD (w:World) (p:Nat→Prop) (cs:List D) (v:Value):Prop:=∃ad:Addr,v=.pointer (some ad)∧CellsD w p cs ad

theorem closeCaps_rep (h:Rel w0 p0 p σ s tm ups w):∀{cs:List Cap} {ds:List (List D)} {vs:List Value},All2 (RepCap σ w p) cs vs→closeCaps s cs=some ds→All2 (CapD w (pAll p σ s)) ds vs
  | [],ds,vs,hx,e=>by cases e; rw[hx.nil_inv]; exact All2.nil
  | .c c::r,ds,vs,hx,e=>by
    obtain⟨v,vs',rfl,h1,h2⟩:=hx.cons_inv
    unfold closeCaps at e
    split at e <;> try cases e
    rename_i l hl
    obtain⟨ad,hv,hc⟩:=h1
    exact All2.cons ⟨ad,hv,hc.mono (fun _ _=>rfl) (fun b hb=>.inl hb)⟩ (closeCaps_rep h h2 hl)
  | .k k::r,ds,vs,hx,e=>by
    obtain⟨v,vs',rfl,h1,h2⟩:=hx.cons_inv
    unfold closeCaps at e
    split at e <;> try cases e
    rename_i cs l hcs hl
    split at e <;> try cases e
    rename_i dd hdd
    obtain⟨hv,_⟩:=h1
    obtain⟨g,ty,us,e1,hbase,hpg,hg,hr⟩:=h.b k cs hcs
    have hd:=closeLL_rep h hr hdd
    refine All2.cons ⟨⟨g,0,none⟩,by rw[hv,e1],.inr ⟨k,.inl (by rw[hcs]; rfl),by rw[e1]; rfl⟩,fun j x hx=>?_⟩ (closeCaps_rep h h2 hl)
    obtain⟨u,hu,hru⟩:=hd.get hx
    refine⟨u,?_,hru⟩
    rw[Addr.add_mid,Nat.zero_add,cell_of_row w g j _ ty _ hg]
    simpa using hu

theorem repD_fn {f:FuncId} {cs:List (List D)} {vs:List Value} (h:All2 (CapD w p) cs vs):RepD w p (.fn f cs) (.func (.func f) #[] vs.toArray):=by
  obtain⟨ads,hl,hp⟩:=choose_list (fun i (ad:Addr)=>∃c,cs[i]?=some c∧vs[i]?=some (.pointer (some ad))∧CellsD w p c ad) cs.length (by
    intro i hi
    have hx:=List.getElem?_eq_getElem hi
    obtain⟨v,hv,ad,rfl,hc⟩:=h.get hx
    exact⟨ad,_,hx,hv,hc⟩)
  have hv:vs=ads.map fun b=>Value.pointer (some b):=by
    apply List.ext_getElem?
    intro i
    rw[List.getElem?_map]
    cases ha:ads[i]? with
    | none=>
      have:ads.length≤i:=by simpa using ha
      rw[List.getElem?_eq_none (by rw[←h.1,←hl]; exact this)]; rfl
    | some ad=>obtain⟨c,_,hv,_⟩:=hp i ad ha; exact hv
  rw[hv]
  obtain⟨u,hu⟩:∃u:Nat→Nat→Value,∀(i j:Nat) (ad:Addr) (c:List D) (x:D),ads[i]?=some ad→cs[i]?=some c→c[j]?=some x→w.cell? (ad.add j)=some (u i j)∧RepD w p x (u i j):=by
    refine⟨fun i j=>match ads[i]? with | some ad=>(w.cell? (ad.add j)).getD undef | none=>undef,fun i j ad c x ha hc hx=>?_⟩
    obtain⟨c',hc',_,hcd⟩:=hp i ad ha
    rw[hc] at hc'; cases hc'
    obtain⟨y,hy,hr⟩:=hcd.2 j x hx
    simp only[ha,hy,Option.getD_some]
    exact⟨trivial,hr⟩
  refine .fn f cs ads u hl (fun b hb=>?_) (fun i j b c x h0 h1 h2=>(hu i j b c x h0 h1 h2).1) (fun i j c x h1 h2=>?_)
  · obtain⟨i,hi⟩:=List.getElem?_of_mem hb
    obtain⟨c,_,_,hcd⟩:=hp i b hi
    exact hcd.1
  · have hi:i<ads.length:=by rw[hl]; exact (List.getElem?_eq_some_iff.1 h1).1
    exact (hu i j ads[i] c x (List.getElem?_eq_getElem hi) h1 h2).2

theorem closeB_rep (h:Rel w0 p0 p σ s tm ups w) {k n sz:Nat} {v:Value} {cs:List LV} {ds:List D} {rows:List (List D)} (hx:RepL σ w p (.bsl k n sz) v) (hc:assoc s.b k=some cs) (hd:closeLL s cs=some ds) (hr:rowsN sz n ds=some rows):RepD w (pAll p σ s) (.sl rows) v:=by
  obtain⟨hm,b,hb,rfl⟩:=hx
  obtain⟨g,ty,us,e1,hbase,hpg,hg,hrep⟩:=h.b k cs hc
  have hbg:b=g:=by rw[hb] at e1; cases e1; rfl
  subst hbg
  obtain⟨h1,h2,h3⟩:=rowsN_spec hr
  have hdd:=closeLL_rep h hrep hd
  have hlen:=hdd.1
  have e:(Value.slice (some ⟨b,0,none⟩) n n)=.slice (some ⟨b,0,none⟩) rows.length n:=by rw[h1]
  rw[e]
  refine .sl rows sz (some ⟨b,0,none⟩) n (fun i j=>us.getD (i*sz+j) undef) (by rw[h1]; exact Nat.le_refl _) hm (fun h=>by cases h) (fun ad h _=>.inr ⟨k,.inl (by rw[hc]; rfl),by cases h; rw[hb]; rfl⟩) h2 ?_ ?_
  · intro ad i j r x ha hi hj
    cases ha
    obtain⟨u,hu,_⟩:=hdd.get (h3 i j r x hi hj)
    rw[Addr.add_mid,Nat.zero_add,cell_of_row w b _ _ ty _ hg]
    simp only[List.getElem?_toArray,List.getD_eq_getElem?_getD,hu,Option.getD_some]
  · intro i j r x hi hj
    obtain⟨u,hu,hru⟩:=hdd.get (h3 i j r x hi hj)
    simp only[List.getD_eq_getElem?_getD,hu,Option.getD_some]
    exact hru
theorem closeF_rep (h:Rel w0 p0 p σ s tm ups w) {x:LV} {v:Value} {d:D} (hx:RepL σ w p x v) (e:closeF s x=some d):RepD w (pAll p σ s) d v:=by
  unfold closeF at e
  split at e
  · split at e <;> try cases e
    rename_i cs hcs
    split at e <;> try cases e
    rename_i ds hds
    split at e <;> try cases e
    rename_i rows hrows
    exact closeB_rep h hx hcs hds hrows
  · split at e <;> try cases e
    rename_i f caps cs hcs
    obtain⟨vs,hv,h2⟩:=hx
    rw[hv]
    exact repD_fn (closeCaps_rep h h2 hcs)
  · exact closeL_rep h hx e

theorem closeFL_rep (h:Rel w0 p0 p σ s tm ups w):∀{cs:List LV} {ds:List D} {vs:List Value},All2 (RepL σ w p) cs vs→closeFL s cs=some ds→All2 (RepD w (pAll p σ s)) ds vs
  | [],ds,vs,hx,e=>by cases e; rw[hx.nil_inv]; exact All2.nil
  | x::r,ds,vs,hx,e=>by
    obtain⟨v,vs',rfl,h1,h2⟩:=hx.cons_inv
    unfold closeFL at e
    split at e <;> try cases e
    rename_i a b ha hb
    exact All2.cons (closeF_rep h h1 ha) (closeFL_rep h h2 hb)

theorem CellsD.drop {cs:List D} {ad:Addr} (h:CellsD w p cs ad) (off:Nat):CellsD w p (cs.drop off) (ad.add off):=
  ⟨by rw[add_block]; exact h.1,fun j x hx=>by rw[List.getElem?_drop] at hx; rw[add_add]; exact h.2 _ x hx⟩

theorem closeV_rep (h:Rel w0 p0 p σ s tm ups w) {x:AV} {v:Value} {c:CV} (hx:RepV σ w p x v) (e:closeV s x=some c):RepCV w (pAll p σ s) c v:=by
  unfold closeV at e
  split at e
  · cases e
    obtain⟨ad,hv,hc⟩:=hx
    exact⟨_,hv,(hc.drop _).mono (fun _ _=>rfl) (fun b hb=>.inl hb)⟩
  · split at e <;> try cases e
    rename_i d hd
    exact closeF_rep h hx hd
  · split at e <;> try cases e
    rename_i dd hdd
    obtain⟨vs,hv,h2⟩:=hx
    exact⟨vs,hv,closeFL_rep h h2 hdd⟩
  · cases e

theorem closeVs_rep (h:Rel w0 p0 p σ s tm ups w):∀{xs:List AV} {cs:List CV} {vs:List Value},All2 (RepV σ w p) xs vs→closeVs s xs=some cs→All2 (RepCV w (pAll p σ s)) cs vs
  | [],cs,vs,hx,e=>by cases e; rw[hx.nil_inv]; exact All2.nil
  | x::r,cs,vs,hx,e=>by
    obtain⟨v,vs',rfl,h1,h2⟩:=hx.cons_inv
    unfold closeVs at e
    split at e <;> try cases e
    rename_i a b ha hb
    exact All2.cons (closeV_rep h h1 ha) (closeVs_rep h h2 hb)

theorem pAll_lt (h:Rel w0 p0 p σ s tm ups w) {b:Nat} (hb:pAll p σ s b):b<w.heap.size:=by
  rcases hb with hb | ⟨k,hk,hb⟩
  · exact h.plt b hb
  · exact (h.live_lt hk hb).1

/-- Behind a call that leaves all that there was as it was. -/
theorem Rel.called (h:Rel w0 p0 p σ s tm ups w) (hb:Below w.heap.size w w') (h1:∀b,p b→p' b) (h2:∀b,p' b→p b∨w.heap.size≤b) (h3:∀b,p' b→b<w'.heap.size):Rel w0 p0 p' σ s tm ups w':=by
  have hw:∀b,p b→w'.heap[b]?=w.heap[b]?:=fun b hb'=>hb.block b (h.plt b hb')
  have hL:∀x v,RepL σ w p x v→RepL σ w' p' x v:=by
    intro x v hr
    have h4:RepL σ w' p x v:=hr.world hw
    cases x with
    | d x=>exact RepD.mono h4 (fun _ _=>rfl) h1
    | dptr cells off=>obtain⟨ad,e,hc⟩:=h4; exact⟨ad,e,hc.mono (fun _ _=>rfl) h1⟩
    | func f caps=>
      obtain⟨vs,e,hc⟩:=h4
      refine⟨vs,e,hc.mono fun y v hy=>?_⟩
      cases y with
      | k j=>exact hy
      | c cells=>obtain⟨b,e,hc⟩:=hy; exact⟨b,e,hc.mono (fun _ _=>rfl) h1⟩
    | _=>exact h4
  have hT:∀t n a,TOk σ w p t n a→TOk σ w' p' t n a:=fun t n a ht=>⟨ht.1,fun i=>by have:=(ht.2 i).mapL (f:=fun y=>y) hL; rwa [AV.map_id] at this⟩
  have hbase:w0.heap.size≤w.heap.size:=h.below.size
  refine⟨h.below.trans (hb.mono hbase),fun b hb'=>h1 b (h.pin b hb'),fun b hb'=>?_,h3,hT _ _ _ h.t,h.up.mono fun f a hf=>hT _ _ _ hf,?_,?_,h.apart⟩
  · rcases h2 b hb' with h4 | h4
    · exact h.pnew b h4
    · exact .inr (Nat.le_trans hbase h4)
  · intro k cs hk
    obtain⟨g,ty,vs,e,hba,hp,hg,hr⟩:=h.b k cs hk
    have hlt:=((h.b k cs hk).lt g (by rw[e]; rfl)).1
    refine⟨g,ty,vs,e,hba,fun hp'=>?_,by rw[hb.block g hlt]; exact hg,hr.mono hL⟩
    rcases h2 g hp' with h4 | h4
    · exact hp h4
    · omega
  · intro k x hk
    obtain⟨xs,ho1,ho2,ho3,ho4⟩:=h.o k x hk
    refine⟨xs,ownsRow_block ho1 fun g hg=>hb.block g ((h.o k x hk).lt g hg).1,ho2,ho3.mono fun x v hr=>(hr.mono hw (fun _ h=>h)).mono (fun _ _=>rfl) h1,fun g hg hp'=>?_⟩
    have:=((h.o k x hk).lt g hg).1
    rcases h2 g hp' with h4 | h4
    · exact ho4 g hg h4
    · omega

def D.scalar:D→Bool
  | .sl _=>false
  | .fn _ _=>false
  | .mp _=>false
  | _=>true
def CV.scalar:CV→Bool
  | .d x=>x.scalar
  | .agg xs=>xs.all D.scalar
  | .dp _=>false

theorem D.scalar_rep {x:D} {v:Value} {p'':Nat→Prop} {w'':World} (h:RepD w p x v) (hs:x.scalar=true):RepD w'' p'' x v:=by
  cases h with
  | int k n=>exact .int k n
  | bool b=>exact .bool b
  | str s=>exact .str s
  | nilfn=>exact .nilfn
  | sl _=>cases hs
  | fn _=>cases hs
  | mp _=>cases hs

theorem CV.scalar_rep {x:CV} {v:Value} {p'':Nat→Prop} {w'':World} (h:RepCV w p x v) (hs:x.scalar=true):RepCV w'' p'' x v:=by
  cases x with
  | d x=>exact D.scalar_rep h hs
  | agg xs=>
    obtain⟨vs,e,h2⟩:=h
    refine⟨vs,e,h2.1,fun i x v hx hv=>D.scalar_rep (h2.2 i x v hx hv) (List.all_eq_true.1 hs x (List.mem_of_getElem? hx))⟩
  | dp _=>cases hs

theorem RepR_scalar {rs:List CV} {v:Value} {p'':Nat→Prop} {w'':World} (h:RepR w p rs v) (hs:rs.all CV.scalar=true):RepR w'' p'' rs v:=by
  unfold RepR at h ⊢
  split at h
  · exact CV.scalar_rep h (by simpa using hs)
  · rename_i hne
    obtain⟨vs,e,h2⟩:=h
    exact⟨vs,e,h2.1,fun i x v hx hv=>CV.scalar_rep (h2.2 i x v hx hv) (List.all_eq_true.1 hs x (List.mem_of_getElem? hx))⟩

/-- A call of a function with a contract on data, its results numbers, bools, strings alone (what is handed over may be the call's own). -/
theorem ACall.scalar {f:FuncId} {args:List AV} {cargs:List CV} {R:List CV→Prop} {K:AV→St→Prop} (hs:Spec P f cargs R) (hc:closeVs s args=some cargs) (hsc:∀rs,R rs→rs.all CV.scalar=true) (hk:∀rs,R rs→K (resAV rs) s):ACall P f args s K:=by
  refine⟨hs.1,fun w0 p0 p σ tm ups w vs hrel hv=>?_⟩
  refine (hs.2 w (pAll p σ s) vs (fun b hb=>pAll_lt hrel hb) (closeVs_rep hrel hv hc)).mono ?_
  rintro e w' ⟨v,rs,p',he,hR,hrep,hb,_,_,_⟩
  exact⟨v,resAV rs,s,p,σ,he,hk rs hR,resAV_rep (RepR_scalar hrep (hsc rs hR)),hrel.called hb (fun _ h=>h) (fun b h=>.inl h) (fun b h=>Nat.lt_of_lt_of_le (hrel.plt b h) hb.size)⟩

/-- Nothing of the call's own in it. -/
def LV.closed:LV→Bool
  | .d _ | .nil=>true
  | .func _ caps=>caps.all fun | .c _=>true | .k _=>false
  | _=>false
def AV.closed:AV→Bool
  | .l (.dptr _ _)=>true
  | .l x=>x.closed
  | .agg cs=>cs.all LV.closed
  | .tup _=>false

theorem closeCaps_closed:∀{cs:List Cap} {ds:List (List D)} {vs:List Value},All2 (RepCap σ w p) cs vs→closeCaps s cs=some ds→(cs.all fun | .c _=>true | .k _=>false)=true→All2 (CapD w p) ds vs
  | [],ds,vs,hx,e,_=>by cases e; rw[hx.nil_inv]; exact All2.nil
  | .c c::r,ds,vs,hx,e,hcl=>by
    obtain⟨v,vs',rfl,h1,h2⟩:=hx.cons_inv
    unfold closeCaps at e
    split at e <;> try cases e
    rename_i l hl
    exact All2.cons h1 (closeCaps_closed h2 hl (by simpa using hcl))
  | .k k::r,ds,vs,hx,e,hcl=>by simp at hcl

theorem closeF_closed {x:LV} {v:Value} {d:D} (hx:RepL σ w p x v) (e:closeF s x=some d) (hcl:x.closed=true):RepD w p d v:=by
  cases x <;> try cases hcl
  case d x=>cases e; exact hx
  case nil=>exact closeL0_rep (x:=.nil) hx e
  case func f caps=>
    simp only[closeF] at e
    split at e <;> try cases e
    rename_i cs hcs
    obtain⟨vs,hv,h2⟩:=hx
    rw[hv]
    exact repD_fn (closeCaps_closed h2 hcs hcl)

theorem closeFL_closed:∀{cs:List LV} {ds:List D} {vs:List Value},All2 (RepL σ w p) cs vs→closeFL s cs=some ds→cs.all LV.closed=true→All2 (RepD w p) ds vs
  | [],ds,vs,hx,e,_=>by cases e; rw[hx.nil_inv]; exact All2.nil
  | x::r,ds,vs,hx,e,hcl=>by
    obtain⟨v,vs',rfl,h1,h2⟩:=hx.cons_inv
    unfold closeFL at e
    split at e <;> try cases e
    rename_i a b ha hb
    simp only[List.all_cons,Bool.and_eq_true] at hcl
    exact All2.cons (closeF_closed h1 ha hcl.1) (closeFL_closed h2 hb hcl.2)

theorem closeV_closed {x:AV} {v:Value} {c:CV} (hx:RepV σ w p x v) (e:closeV s x=some c) (hcl:x.closed=true):RepCV w p c v:=by
  unfold closeV at e
  split at e
  · cases e
    obtain⟨ad,hv,hc⟩:=hx
    exact⟨_,hv,hc.drop _⟩
  · split at e <;> try cases e
    rename_i y hne o d hd
    exact closeF_closed hx hd (by cases y <;> first | exact hcl | exact absurd rfl (hne _ _))
  · split at e <;> try cases e
    rename_i dd hdd
    obtain⟨vs,hv,h2⟩:=hx
    exact⟨vs,hv,closeFL_closed h2 hdd hcl⟩
  · cases e

theorem closeVs_closed:∀{xs:List AV} {cs:List CV} {vs:List Value},All2 (RepV σ w p) xs vs→closeVs s xs=some cs→xs.all AV.closed=true→All2 (RepCV w p) cs vs
  | [],cs,vs,hx,e,_=>by cases e; rw[hx.nil_inv]; exact All2.nil
  | x::r,cs,vs,hx,e,hcl=>by
    obtain⟨v,vs',rfl,h1,h2⟩:=hx.cons_inv
    unfold closeVs at e
    split at e <;> try cases e
    rename_i a b ha hb
    simp only[List.all_cons,Bool.and_eq_true] at hcl
    exact All2.cons (closeV_closed h1 ha hcl.1) (closeVs_closed h2 hb hcl.2)

/-- A call of a function with a contract on data, where nothing of the call's own is handed over. -/
theorem ACall.closed {f:FuncId} {args:List AV} {cargs:List CV} {R:List CV→Prop} {K:AV→St→Prop} (hs:Spec P f cargs R) (hc:closeVs s args=some cargs) (hcl:args.all AV.closed=true) (hk:∀rs,R rs→K (resAV rs) s):ACall P f args s K:=by
  refine⟨hs.1,fun w0 p0 p σ tm ups w vs hrel hv=>?_⟩
  refine (hs.2 w p vs (fun b hb=>hrel.plt b hb) (closeVs_closed hv hc hcl)).mono ?_
  rintro e w' ⟨v,rs,p',he,hR,hrep,hb,h1,h2,h3⟩
  exact⟨v,resAV rs,s,p',σ,he,hk rs hR,resAV_rep hrep,hrel.called hb h1 h2 h3⟩

end
end Go.VC
namespace Go.VC
open Go.RowKit (Below)

def keyOf (s:St) (dst:Option Nat):Nat:=s.up.length*1000+(match dst with | some d=>d+1 | none=>0)

def NextOk (w0:World) (p0:Nat→Prop) (ups:List (Array Value)) (K:St→Prop):Act→World→Prop:=
  fun a' w'=>a'.defers=[]∧∃s' p' σ',K s'∧Rel w0 p0 p' σ' s' a'.tmps ups w'

/-! ### An own array under another name -/
def LV.ren (k k':Nat):LV→LV
  | .own j=>.own (if j=k then k' else j)
  | .eptr j i sz off=>.eptr (if j=k then k' else j) i sz off
  | .vw j sz lo hi full=>.vw (if j=k then k' else j) sz lo hi full
  | x=>x

def St.rekey (s:St) (k k':Nat):St:=
  let s1:=s.drop k'
  match assoc s1.o k with
  | some x=>{ (s1.mapL (LV.ren k k')) with o:=ins (erase s1.o k) k' x }
  | none=>s1

section
variable {P:Program} {T:TypeId→Option TI} {w0:World} {p0 p p':Nat→Prop} {σ:Nat→Value} {s s' s0:St} {tm:Array Value} {ups:List (Array Value)} {w w':World} 

theorem RepL.ren {x:LV} {v:Value} {k k':Nat} (h:RepL σ w p x v) (hx:x.on k'=false):RepL (upd σ k' (σ k)) w p (x.ren k k') v:=by
  have hk:∀j,j≠k'→upd σ k' (σ k) j=σ j:=fun j hj=>upd_other σ k' _ j hj
  have hr:∀j,(decide (j=k'))=false→upd σ k' (σ k) (if j=k then k' else j)=σ j:=by
    intro j hj
    by_cases e:j=k
    · rw[if_pos e,upd_same,e]
    · rw[if_neg e]; exact hk j (by simpa using hj)
  cases x with
  | own j=>
    obtain⟨h1,h2⟩:=h
    have e:=hr j hx
    exact⟨by rw[e]; exact h1,by rw[e]; exact h2⟩
  | eptr j i sz off=>
    obtain⟨b,n,c,h1,h2⟩:=h
    exact⟨b,n,c,by rw[hr j hx]; exact h1,h2⟩
  | vw j sz lo hi full=>
    obtain⟨a,n,c,h1,h2⟩:=h
    have e:=hr j hx
    exact⟨a,n,c,by rw[e]; exact h1,by rw[e]; exact h2⟩
  | _=>exact h.move k' hx hk (fun _ _=>rfl) (fun _ h=>h)

theorem TOk.mapF {t:Tmps} {n:Nat} {tm:Array Value} {f:LV→LV} {σ':Nat→Value} {k:Nat} (h:TOk σ w p t n tm) (ht:∀i,(getT t i).on k=false) (hu:f .unk=.unk) (hf:∀x v,RepL σ w p x v→x.on k=false→RepL σ' w p (f x) v):TOk σ' w p (mapT f t) n tm:=by
  refine⟨h.1,fun i=>?_⟩
  rw[getT_mapT f hu]
  have h1:=h.2 i
  have h2:=ht i
  revert h1 h2
  cases getT t i with
  | l x=>intro h1 h2; exact hf x _ h1 h2
  | agg cs=>
    intro h1 h2
    obtain⟨vs,e,h3⟩:=h1
    simp only[AV.on,AV.on1,List.any_eq_false] at h2
    refine⟨vs,e,by simp[h3.1],fun q x v hx hv=>?_⟩
    rw[List.getElem?_map] at hx
    obtain⟨y,hy,rfl⟩:=Option.map_eq_some_iff.1 hx
    exact hf y v (h3.2 q y v hy hv) (by simpa using h2 y (List.mem_of_getElem? hy))
  | tup cs=>
    intro h1 h2
    obtain⟨vs,e,h3⟩:=h1
    simp only[AV.on,List.any_eq_false] at h2
    refine⟨vs,e,by simp[h3.1],fun q x v hx hv=>?_⟩
    rw[List.getElem?_map] at hx
    obtain⟨y,hy,rfl⟩:=Option.map_eq_some_iff.1 hx
    have h4:=h3.2 q y v hy hv
    have h5:y.on1 k=false:=by simpa using h2 y (List.mem_of_getElem? hy)
    cases y with
    | l z=>exact hf z v h4 h5
    | agg cs'=>
      obtain⟨us,e',h6⟩:=h4
      simp only[AV.on1,List.any_eq_false] at h5
      refine⟨us,e',by simp[h6.1],fun q' x' v' hx' hv'=>?_⟩
      rw[List.getElem?_map] at hx'
      obtain⟨y',hy',rfl⟩:=Option.map_eq_some_iff.1 hx'
      exact hf y' v' (h6.2 q' y' v' hy' hv') (by simpa using h5 y' (List.mem_of_getElem? hy'))
    | tup _=>exact h4

theorem Rel.rekey (h:Rel w0 p0 p σ s tm ups w) (k k':Nat) (hk:k≠k'):∃σ',Rel w0 p0 p σ' (s.rekey k k') tm ups w∧σ' k'=(if (assoc (s.drop k').o k).isSome then σ k else σ k'):=by
  have h1:=h.drop k'
  have hf:=Free.drop k' s
  unfold St.rekey
  simp only
  cases hx:assoc (s.drop k').o k with
  | none=>exact⟨σ,h1,by simp⟩
  | some x=>
    simp only
    generalize hs1:s.drop k'=s1 at h1 hf hx
    refine⟨upd σ k' (σ k),?_,by simp[upd_same]⟩
    have hren:∀x v,RepL σ w p x v→x.on k'=false→RepL (upd σ k' (σ k)) w p (x.ren k k') v:=fun x v hr hx=>hr.ren hx
    have hlive:∀j,(St.live { (s1.mapL (LV.ren k k')) with o:=ins (erase s1.o k) k' x } j)→(j=k'∧s1.live k)∨(j≠k'∧j≠k∧s1.live j)∨(j≠k'∧(assoc s1.b j).isSome):=by
      intro j hj
      unfold St.live at hj
      simp only[St.mapL,assoc_ins,assoc_erase] at hj
      rcases hj with hj | hj
      · rw[assoc_map] at hj
        right; right
        refine⟨fun e=>?_,by simpa using hj⟩
        subst e
        rw[hf.nb] at hj; simp at hj
      · by_cases e:j=k'
        · exact .inl ⟨e,.inr (by rw[hx]; rfl)⟩
        · simp only[e,if_false] at hj
          by_cases e2:j=k
          · simp[e2] at hj
          · simp only[e2,if_false] at hj
            exact .inr (.inl ⟨e,e2,.inr hj⟩)
    refine⟨h1.below,h1.pin,h1.pnew,h1.plt,h1.t.mapF hf.t rfl hren,⟨by simpa [St.mapL] using h1.up.1,fun i f a hfi ha=>?_⟩,fun j cs hj=>?_,fun j y hj=>?_,fun k1 k2 g l1 l2 e1 e2=>?_⟩
    · simp only[St.mapL,List.getElem?_map] at hfi
      obtain⟨f0,hf0,rfl⟩:=Option.map_eq_some_iff.1 hfi
      exact (h1.up.2 i f0 a hf0 ha).mapF (fun q=>hf.up f0 (List.mem_of_getElem? hf0) q) rfl hren
    · simp only[St.mapL] at hj
      rw[assoc_map] at hj
      obtain⟨cs0,hcs0,rfl⟩:=Option.map_eq_some_iff.1 hj
      obtain⟨g,ty,vs,e1,hb,hp,hg,hr⟩:=h1.b j cs0 hcs0
      have hjk:j≠k':=fun e=>by rw[e,hf.nb] at hcs0; cases hcs0
      refine⟨g,ty,vs,by rw[upd_other σ k' _ j hjk]; exact e1,hb,hp,hg,by simp[hr.1],fun q x v hx' hv=>?_⟩
      rw[List.getElem?_map] at hx'
      obtain⟨y,hy,rfl⟩:=Option.map_eq_some_iff.1 hx'
      exact hren y v (hr.2 q y v hy hv) (hf.b j cs0 hcs0 y (List.mem_of_getElem? hy))
    · simp only[assoc_ins,assoc_erase] at hj
      split at hj
      · rename_i e
        cases hj
        subst e
        have:=h1.o k x hx
        unfold OwnOk at this ⊢
        rw[upd_same]; exact this
      · rename_i e
        split at hj <;> try cases hj
        have:=h1.o j y hj
        unfold OwnOk at this ⊢
        rw[upd_other σ k' _ j e]; exact this
    · have val:∀j,j≠k'→upd σ k' (σ k) j=σ j:=fun j hj=>upd_other σ k' _ j hj
      have hkl:s1.live k:=.inr (by rw[hx]; rfl)
      have notk:∀j,j≠k'→(assoc s1.b j).isSome→j≠k:=by
        intro j _ hj e
        subst e
        obtain⟨cs,hcs⟩:=some_of_isSome hj
        obtain⟨g,ty,vs,e1,_⟩:=h1.b _ _ hcs
        obtain⟨xs,ho,_⟩:=h1.o _ _ hx
        obtain⟨A,c,ha⟩:=ownsRow_slice ho
        rw[e1] at ha; cases ha
      have old:∀j,St.live { (s1.mapL (LV.ren k k')) with o:=ins (erase s1.o k) k' x } j→j=k'∨(j≠k'∧j≠k∧s1.live j):=by
        intro j hj
        rcases hlive j hj with ⟨h2,_⟩ | h2 | ⟨h2,h3⟩
        · exact .inl h2
        · exact .inr h2
        · exact .inr ⟨h2,notk j h2 h3,.inl h3⟩
      rcases old k1 l1 with c1 | ⟨c1,d1,m1⟩ <;> rcases old k2 l2 with c2 | ⟨c2,d2,m2⟩
      · rw[c1,c2]
      · subst c1
        rw[upd_same] at e1
        rw[val k2 c2] at e2
        exact absurd (h1.apart k k2 g hkl m2 e1 e2) (Ne.symm d2)
      · subst c2
        rw[upd_same] at e2
        rw[val k1 c1] at e1
        exact absurd (h1.apart k k1 g hkl m1 e2 e1) (Ne.symm d1)
      · rw[val k1 c1] at e1
        rw[val k2 c2] at e2
        exact h1.apart k1 k2 g m1 m2 e1 e2

/-- 'x = v' where v is an own array: from now on it is known under x's name. -/
def St.assignV (s:St) (dst:Option Nat) (v:AV):St:=
  match v with
  | .l (.own k)=>if k=keyOf s dst then s.put dst v else (match assoc (s.drop (keyOf s dst)).o k with
    | some _=>(s.rekey k (keyOf s dst)).put dst (.l (.own (keyOf s dst)))
    | none=>s.put dst v)
  | v=>s.put dst v

theorem n_rekey (k k':Nat):(s.rekey k k').n=s.n:=by
  unfold St.rekey
  simp only
  split <;> rfl

theorem sound_assign (h:Rel w0 p0 p σ s tm ups w) {dst:Option Nat} {x:Operand} {Q:Exit→Act→World→Prop} {K:St→Prop} (hd:∀d,dst=some d→d<s.n) (hk:K (s.assignV dst (s.eval x))) :
    NextOk w0 p0 ups K ((Act.mk tm []).put dst (Act.eval ⟨tm,[]⟩ x)) w:=by
  have hx:=h.eval (ds:=[]) x
  have plain:K (s.put dst (s.eval x))→NextOk w0 p0 ups K ((Act.mk tm []).put dst (Act.eval ⟨tm,[]⟩ x)) w:=fun hk=>
    ⟨by cases dst <;> rfl,_,p,σ,hk,h.put dst _ _ hd hx []⟩
  unfold St.assignV at hk
  split at hk
  · rename_i k hv
    split at hk
    · exact plain hk
    · rename_i hne
      split at hk
      · rename_i z hz
        obtain⟨σ',hrel,hσ⟩:=h.rekey k (keyOf s dst) hne
        rw[hz] at hσ
        simp only[Option.isSome_some,if_true] at hσ
        rw[hv] at hx
        obtain⟨hx1,hx2⟩:=hx
        refine⟨by cases dst <;> rfl,_,p,σ',hk,hrel.put dst (.l (.own (keyOf s dst))) _ (fun d e=>by rw[n_rekey]; exact hd d e) ⟨by rw[hσ]; exact hx1,by rw[hσ]; exact hx2⟩ []⟩
      · exact plain hk
  · exact plain hk

end

def capAV:Cap→AV
  | .k k=>.l (.ptr k 0)
  | .c cs=>.l (.dptr cs 0)

def callV (P:Program) (s:St) (f:AV) (args:List AV) (K:AV→St→Prop):Prop:=
  match f with
  | .l (.func f caps)=>ACall P f (args++caps.map capAV) s K
  | .l (.mfn f k)=>ACall P f (.l (.ptr k 0)::args) s K
  | .l (.d (.fn f caps))=>ACall P f (args++caps.map fun cs=>.l (.dptr cs 0)) s K
  | _=>False

def dstLt (dst:Option Nat) (n:Nat):Bool:=match dst with | some d=>decide (d<n) | none=>true

def St.clean (s:St) (o:Oper):St:=if Oper.makes o=true then s.drop (keyOf s o.dst) else s

/-- The operation, whatever it is, comes to a state as K says. -/
def OWp (P:Program) (o:Oper) (s:St) (K:St→Prop):Prop:=∀w0 p0 p σ tm ups w Q,Rel w0 p0 p σ s tm ups w→o.wp P ⟨tm,[]⟩ w (NextOk w0 p0 ups K) Q
def vcOp (P:Program) (T:TypeId→Option TI) (o:Oper) (s:St) (K:St→Prop):Prop:=OWp P o s K ∨
  dstLt o.dst s.n=true∧match o.op with
  | .store t x v=>storeK T t (s.eval x) (s.eval v) s fun s'=>K (s'.put o.dst (.l .unk))
  | .assign x=>K (s.assignV o.dst (s.eval x))
  | .call { callee:=.value f,args,.. }=>callV P s (s.eval f) (args.toList.map s.eval) fun r s'=>s'.n=s.n∧K (s'.put o.dst r)
  | _=>effK T o (s.clean o).eval (assoc (s.clean o).b) (assoc (s.clean o).o) (keyOf s o.dst) fun ef=>K ((s.clean o).apply o.dst ef)

def vcOps (P:Program) (T:TypeId→Option TI) (ops:Array Oper):List Oper→St→(St→Prop)→Prop
  | [],s,K=>K s
  | o::rest,s,K=>
    match o.guard with
    | none=>vcOp P T o s fun s'=>vcOps P T ops rest s' K
    | some (j,want)=>
      match (ops[j]?).bind (·.dst) with
      | some d=>
        (match s.get d with
        | .l (.d (.bool b))=>
          (b=want→vcOp P T o (s.put (some d) (.l (.d (.bool want)))) fun s'=>vcOps P T ops rest s' K) ∧
          (b=(!want)→dstLt o.dst s.n=true∧vcOps P T ops rest ((s.put (some d) (.l (.d (.bool (!want))))).put o.dst (.l .und)) K)
        | .l .und=>dstLt o.dst s.n=true∧vcOps P T ops rest (s.put o.dst (.l .und)) K
        | _=>False)
      | none=>False

section
variable {P:Program} {T:TypeId→Option TI} {w0:World} {p0 p p':Nat→Prop} {σ:Nat→Value} {s:St} {tm:Array Value} {ups:List (Array Value)} {w w':World} {ds:List Deferred}

theorem dstLt_spec {dst:Option Nat} {n:Nat} (h:dstLt dst n=true):∀d,dst=some d→d<n:=by
  intro d e
  subst e
  simpa [dstLt] using h

theorem put_tmps (tm:Array Value) (dst:Option Nat) (v:Value):(Act.put ⟨tm,[]⟩ dst v)=⟨(Act.put ⟨tm,[]⟩ dst v).tmps,[]⟩:=by
  cases dst <;> rfl

theorem capAV_rep {caps:List Cap} {vs:List Value} (h:All2 (RepCap σ w p) caps vs):All2 (RepV σ w p) (caps.map capAV) vs:=by
  refine h.map_left capAV fun x v hr=>?_
  cases x with
  | k j=>obtain⟨e,b,hb⟩:=hr; exact⟨b,hb,by rw[e,hb]⟩
  | c cs=>obtain⟨ad,e,hc⟩:=hr; exact⟨ad,by rw[e]; rfl,hc⟩

theorem run_callFunc {f:FuncId} (hf:FnOk P f) (args:Array Value):(callFunc f args).run P w=.ok (.enter f args) w:=by
  obtain⟨fn,h1,h2,h3⟩:=hf
  unfold callFunc
  simp only[Sem.run_bind,run_program,Result.andThen_ok,h1,h2,h3,Bool.false_eq_true,if_false,Sem.run_pure]

theorem fn_rep {f:FuncId} {caps:List (List D)} {v:Value} (h:RepD w p (.fn f caps) v):∃vs:List Value,v=.func (.func f) #[] vs.toArray∧All2 (RepV σ w p) (caps.map fun cs=>.l (.dptr cs 0)) vs:=by
  cases h with
  | fn _ _ bs u hb hp hc hr=>
    refine⟨_,rfl,⟨by simp[hb],fun i x v hx hv=>?_⟩⟩
    rw[List.getElem?_map] at hx hv
    obtain⟨cs,hcs,rfl⟩:=Option.map_eq_some_iff.1 hx
    obtain⟨ad,had,rfl⟩:=Option.map_eq_some_iff.1 hv
    exact⟨ad,rfl,hp ad (List.mem_of_getElem? had),fun j y hy=>⟨_,hc i j ad cs y had hcs hy,hr i j cs y hcs hy⟩⟩

theorem call_sound (h:Rel w0 p0 p σ s tm ups w) {o:Oper} {K:St→Prop} {Q:Exit→Act→World→Prop} (hd:∀d,o.dst=some d→d<s.n) {f:Operand} {args:Array Operand} {ats:Array TypeId} (ho:o.op=.call ⟨.value f,args,ats⟩)
    (he:callV P s (s.eval f) (args.toList.map s.eval) fun r s'=>s'.n=s.n∧K (s'.put o.dst r)):o.wp P ⟨tm,[]⟩ w (NextOk w0 p0 ups K) Q:=by
  have hf:=h.eval (ds:=[]) f
  have hargs:=evals (ds:=[]) h args.toList
  have main0:∀(g:FuncId) (fi ex:List AV) (us vs:List Value),Act.eval ⟨tm,[]⟩ f=.func (.func g) us.toArray vs.toArray→All2 (RepV σ w p) fi us→All2 (RepV σ w p) ex vs →
      ACall P g (fi++args.toList.map s.eval++ex) s (fun r s'=>s'.n=s.n∧K (s'.put o.dst r))→o.wp P ⟨tm,[]⟩ w (NextOk w0 p0 ups K) Q:=by
    intro g fi ex us vs hfv hfi hex hc
    have hrun:(execOp (Act.eval ⟨tm,[]⟩) o).run P w=.ok (.enter g (us++args.toList.map (Act.eval ⟨tm,[]⟩)++vs).toArray) w:=by
      unfold execOp
      simp only[ho,resolve,hfv,Deferred.ofValue,Sem.run_bind,Sem.run_pure,Result.andThen_ok,invoke]
      rw[show (us.toArray++Array.map (Act.eval ⟨tm,[]⟩) args++vs.toArray)=(us++args.toList.map (Act.eval ⟨tm,[]⟩)++vs).toArray by apply Array.ext'; simp]
      exact run_callFunc hc.1 _
    unfold Oper.wp
    rw[hrun,Oper.upon_enter]
    refine (hc.2 w0 p0 p σ tm ups w _ h ((hfi.append hargs).append hex)).mono ?_
    rintro e w' ⟨v,r,s',p',σ',rfl,⟨hn,hk⟩,hrep,hrel⟩
    simp only
    refine⟨by cases o.dst <;> rfl,s'.put o.dst r,p',σ',hk,?_⟩
    exact hrel.put o.dst r v (fun d e=>by rw[hn]; exact hd d e) hrep []
  have main:∀(g:FuncId) (ex:List AV) (vs:List Value),Act.eval ⟨tm,[]⟩ f=.func (.func g) #[] vs.toArray→All2 (RepV σ w p) ex vs →
      ACall P g (args.toList.map s.eval++ex) s (fun r s'=>s'.n=s.n∧K (s'.put o.dst r))→o.wp P ⟨tm,[]⟩ w (NextOk w0 p0 ups K) Q:=fun g ex vs hfv hex hc=>main0 g [] ex [] vs hfv All2.nil hex hc
  unfold callV at he
  split at he <;> try exact he.elim
  · rename_i g caps hρ
    rw[hρ] at hf
    obtain⟨vs,hv,hcaps⟩:=hf
    exact main g _ vs hv (capAV_rep hcaps) he
  · rename_i g k hρ
    rw[hρ] at hf
    obtain⟨hv,b,hb⟩:=hf
    refine main0 g [.l (.ptr k 0)] [] [σ k] [] hv (All2.cons ⟨b,hb,by rw[hb]⟩ All2.nil) All2.nil ?_
    rw[List.append_nil]
    exact he
  · rename_i g caps hρ
    rw[hρ] at hf
    obtain⟨vs,hv,hcaps⟩:=fn_rep (σ:=σ) hf
    exact main g _ vs hv hcaps he

theorem Rel.clean (h:Rel w0 p0 p σ s tm ups w) (o:Oper):Rel w0 p0 p σ (s.clean o) tm ups w:=by
  unfold St.clean
  split
  · exact h.drop _
  · exact h

theorem clean_n (o:Oper):(s.clean o).n=s.n:=by
  unfold St.clean
  split <;> rfl

theorem eff_wp (hT:TabOk P T) (h:Rel w0 p0 p σ s tm ups w) {o:Oper} {K:St→Prop} {Q:Exit→Act→World→Prop} {key:Nat} (hd:∀d,o.dst=some d→d<s.n) (hf:Oper.makes o=true→Free key s)
    (he:effK T o s.eval (assoc s.b) (assoc s.o) key fun ef=>K (s.apply o.dst ef)):o.wp P ⟨tm,[]⟩ w (NextOk w0 p0 ups K) Q:=by
  obtain⟨ef,hk,v,w',σ',hr,hrel⟩:=effK_sound (ds:=[]) hT h hd hf he
  unfold Oper.wp
  rw[hr,Oper.upon_value]
  exact⟨by cases o.dst <;> rfl,_,p,σ',hk,hrel⟩

theorem vcOp_sound (hT:TabOk P T) (h:Rel w0 p0 p σ s tm ups w) {o:Oper} {K:St→Prop} {Q:Exit→Act→World→Prop} (he:vcOp P T o s K):o.wp P ⟨tm,[]⟩ w (NextOk w0 p0 ups K) Q:=by
  unfold vcOp at he
  rcases he with he | he
  · exact he w0 p0 p σ tm ups w Q h
  obtain⟨hd,he⟩:=he
  have hd:=dstLt_spec hd
  have gen:(effK T o (s.clean o).eval (assoc (s.clean o).b) (assoc (s.clean o).o) (keyOf s o.dst) fun ef=>K ((s.clean o).apply o.dst ef))→o.wp P ⟨tm,[]⟩ w (NextOk w0 p0 ups K) Q:=fun he=>
    eff_wp hT (h.clean o) (by rw[clean_n]; exact hd) (fun hm=>by unfold St.clean; rw[if_pos hm]; exact Free.drop _ _) he
  split at he
  · rename_i t x v ho
    obtain⟨s',w',hk,hn,hr,hrel⟩:=sound_store (ds:=[]) hT h hd t x v ho he
    unfold Oper.wp
    rw[hr,Oper.upon_skip]
    refine⟨by cases o.dst <;> rfl,_,p,σ,hk,hrel.put o.dst (.l .unk) undef (fun d e=>by rw[hn]; exact hd d e) trivial []⟩
  · rename_i x ho
    unfold Oper.wp
    have hr:(execOp (Act.eval ⟨tm,[]⟩) o).run P w=.ok (.value (Act.eval ⟨tm,[]⟩ x)) w:=by unfold execOp; simp only[ho,Sem.run_pure]
    rw[hr,Oper.upon_value]
    exact sound_assign (Q:=Q) h hd he
  · rename_i f args ats ho
    exact call_sound h hd ho he
  · exact gen he

theorem bool_at (h:Rel w0 p0 p σ s tm ups w) {d:Nat} {b:Bool} (hb:s.get d=.l (.d (.bool b))):tm[d]?=some (.bool b):=by
  have h1:=h.t.2 d
  have h2:getT s.t d=.l (.d (.bool b)):=hb
  rw[h2] at h1
  have h3:=RepD_bool h1
  rw[Array.getD_eq_getD_getElem?] at h3
  cases hx:tm[d]? with
  | none=>rw[hx] at h3; cases h3
  | some v=>rw[hx] at h3; simp at h3; rw[h3]

theorem put_same {d:Nat} {x:AV} (hb:s.get d=x):s.Same (s.put (some d) x):=
  ⟨fun i=>by simp only[St.put,getT_setT]; split; rename_i e; rw[e]; exact hb; rfl,rfl,(St.Same.refl s).up,fun _=>rfl,fun _=>rfl⟩

theorem vcOps_sound (hT:TabOk P T) {ops:Array Oper} {K:St→Prop} {Q:Exit→Act→World→Prop} (hQ:∀a w,NextOk w0 p0 ups K a w→Q .normal a w):∀(l:List Oper) {p:Nat→Prop} {σ:Nat→Value} {s:St} {tm:Array Value} {w:World},Rel w0 p0 p σ s tm ups w→vcOps P T ops l s K→wpList P ops Q l ⟨tm,[]⟩ w
  | [],p,σ,s,tm,w,h,he=>hQ _ _ ⟨rfl,s,p,σ,he,h⟩
  | o::rest,p,σ,s,tm,w,h,he=>by
    have step:∀{s:St},Rel w0 p0 p σ s tm ups w→(vcOp P T o s fun s'=>vcOps P T ops rest s' K)→o.wp P ⟨tm,[]⟩ w (wpList P ops Q rest) Q:=fun h he=>
      Oper.wp_mono (fun a w' ⟨hd,s',p',σ',hk,hrel⟩=>by
        obtain⟨t',d'⟩:=a
        simp only at hd
        subst hd
        exact vcOps_sound hT hQ rest hrel hk) (vcOp_sound hT h he)
    unfold vcOps at he
    unfold wpList
    split at he
    · rename_i hg
      have hw:Region.wanted o (yielded ops tm)=true:=by simp[Region.wanted,hg]
      rw[if_pos hw]
      exact .inl (step h he)
    · rename_i j want hg
      split at he <;> try exact he.elim
      rename_i d hdd
      split at he <;> try exact he.elim
      case h_2 hb=>
        have hyl:yielded ops tm j=none:=by
          unfold yielded
          rw[hdd]
          have hu:tm.getD d undef=undef:=by
            have:=h.t.2 d
            have e:getT s.t d=.l .und:=hb
            rw[e] at this
            exact this
          simp only[Option.bind_some]
          cases htd:tm[d]? with
          | none=>rfl
          | some v=>
            rw[Array.getD_eq_getD_getElem?,htd] at hu
            have hv:v=undef:=hu
            subst hv; rfl
        have hw:¬Region.wanted o (yielded ops tm)=true:=by
          simp only[Region.wanted,hg,hyl]
          intro e
          cases e
        rw[if_neg hw]
        obtain⟨hd,he⟩:=he
        have h2:=h.put o.dst (.l .und) undef (dstLt_spec (by exact hd)) rfl []
        rw[put_tmps]
        exact vcOps_sound hT hQ rest h2 he
      rename_i b hb
      have hyl:yielded ops tm j=some b:=by
        unfold yielded
        rw[hdd]
        simp only[Option.bind_some,bool_at h hb]
      by_cases hbw:b=want
      · have hw:Region.wanted o (yielded ops tm)=true:=by
          simp only[Region.wanted,hg,hyl,hbw]
          exact beq_self_eq_true _
        rw[if_pos hw]
        exact .inl (step (h.same (put_same (by rw[hb,hbw]))) (he.1 hbw))
      · have hbn:b=(!want):=by cases b <;> cases want <;> simp_all
        have hw:¬Region.wanted o (yielded ops tm)=true:=by
          simp only[Region.wanted,hg,hyl]
          intro e
          exact hbw (by simpa using e)
        rw[if_neg hw]
        obtain⟨hd,he⟩:=he.2 hbn
        have h2:=(h.same (put_same (by rw[hb,hbn]))).put o.dst (.l .und) undef (dstLt_spec (by exact hd)) rfl []
        rw[put_tmps]
        exact vcOps_sound hT hQ rest h2 he

end
end Go.VC
namespace Go.VC
open Go.RowKit (Below)

section
variable {T:TypeId→Option TI} {o:Oper} {ρ ρ':Operand→AV} {β β':Nat→Option (List LV)} {ω ω':Nat→Option Own} {key:Nat} {ef:Eff}

theorem rowsOf_use {x:AV} {ry:List (List D)} {uy:List Nat} (h:rowsOf ω x=some (ry,uy)) (hu:∀k∈uy,ω' k=ω k):rowsOf ω' x=some (ry,uy):=by
  have key:∀k,(∀z,ω k=some z→k∈uy)→(ω k).isSome→ω' k=ω k:=fun k hk hs=>by
    obtain⟨z,hz⟩:=some_of_isSome hs
    exact hu k (hk z hz)
  cases x with
  | agg _=>exact h
  | tup _=>exact h
  | l y=>
    cases y with
    | own k=>
      simp only[rowsOf] at h ⊢
      cases hz:ω k with
      | none=>rw[hz] at h; cases h
      | some z=>
        rw[hz] at h
        cases h
        rw[hu k (by simp),hz]
    | vw k sz lo hi full=>
      simp only[rowsOf] at h ⊢
      cases hz:ω k with
      | none=>rw[hz] at h; cases h
      | some z=>
        rw[hz] at h
        simp only at h
        split at h <;> try cases h
        rename_i hs
        rw[hu k (by simp),hz]
        simp only[hs,if_true]
    | d x=>cases x <;> exact h
    | _=>exact h

theorem effK_ops {K:Eff→Prop} (hρ:∀x∈o.op.operands,ρ' x=ρ x) (he:effK T o ρ β ω key K):effK T o ρ' β ω key K:=by
  obtain⟨dst,op,type,pos,after,guard⟩:=o
  have pairs:∀ps:Array (Nat×Operand),(∀x∈ps.map (·.2),ρ' x=ρ x)→(ps.toList.map fun x=>(x.1,ρ' x.2))=(ps.toList.map fun x=>(x.1,ρ x.2)):=fun ps hp=>
    List.map_congr_left fun q hm=>by rw[hp q.2 (by simp only[Array.mem_map]; exact⟨q,by simpa using hm,rfl⟩)]
  cases op <;> simp only[Op.operands] at hρ <;> simp only[effK] at he ⊢
  case build t ps=>rw[pairs ps fun x hx=>hρ x (by simpa using hx)]; exact he
  case buildSlice t n ps=>rw[pairs ps fun x hx=>hρ x (by simpa using hx)]; exact he
  case makeFunc fn first captured=>
    cases fn <;> simp only at he ⊢
    rw[List.map_congr_left (l:=captured.toList) fun x hx=>hρ x (by simp[Array.mem_toList_iff.1 hx]),List.map_congr_left (l:=first.toList) fun x hx=>hρ x (by simp[Array.mem_toList_iff.1 hx])]
    exact he
  case call c=>
    rw[List.map_congr_left (l:=c.args.toList) fun x hx=>hρ x (by simp only[Call.operands,Array.mem_append]; exact .inr (Array.mem_toList_iff.1 hx))]
    exact he
  case slice t x lo hi mx=>cases lo <;> cases hi <;> cases mx <;> simp_all
  case unOp op t x=>cases op <;> simp_all
  all_goals (first | exact he | (simp_all; done))

theorem effK_use (he:effK T o ρ β ω key (fun e=>e=ef)) (hu:∀k∈ef.use,β' k=β k∧ω' k=ω k):effK T o ρ β' ω' key (fun e=>e=ef):=by
  obtain⟨dst,op,type,pos,after,guard⟩:=o
  cases op <;> simp only[effK] at he ⊢ <;> try exact he
  case unOp op t x=>cases op <;> exact he
  case makeFunc fn f c=>cases fn <;> exact he
  case load t x=>
    split at he <;> try exact he
    refine⟨he.1,?_⟩
    have he:=he.2
    split at he <;> try exact he.elim
    · rename_i k off hx
      try rw[hx]
      try simp only
      split at he <;> try exact he.elim
      rename_i cs hcs
      obtain⟨h1,rfl⟩:=he
      rw[(hu k (by simp)).1,hcs]
      exact⟨h1,rfl⟩
    · rename_i cells off hx
      (try rw[hx]); exact he
    · rename_i k r sz off hx
      try rw[hx]
      try simp only
      split at he <;> try exact he.elim
      rename_i z hz
      obtain⟨h1,row,h2,h3,rfl⟩:=he
      rw[(hu k (by simp)).2,hz]
      exact⟨h1,row,h2,h3,rfl⟩
  case indexAddr t x ix=>
    split at he <;> try exact he
    split at he <;> try exact he
    split at he <;> try exact he
    refine⟨he.1,?_⟩
    have he:=he.2
    split at he <;> try exact he.elim
    · rename_i rows kk n hx hy
      (try rw[hx,hy]); exact he
    · rename_i k kk n hx hy
      try rw[hx,hy]
      try simp only
      split at he <;> try exact he.elim
      rename_i z hz
      obtain⟨h1,h2,h3,rfl⟩:=he
      rw[(hu k (by simp)).2,hz]
      exact⟨h1,h2,h3,rfl⟩
    · exact he
  case slice t x lo hi mx=>
    split at he <;> try exact he
    split at he <;> try exact he
    split at he <;> try exact he
    unfold sliceK at he ⊢
    split at he <;> try exact he.elim
    · rename_i rows hx
      (try rw[hx]); exact he
    · rename_i k hx
      try rw[hx]
      try simp only
      split at he <;> try exact he.elim
      rename_i z hz
      obtain⟨h1,l,h',a,b,c,d,e,f,rfl⟩:=he
      rw[(hu k (by simp)).2,hz]
      exact⟨h1,l,h',a,b,c,d,e,f,rfl⟩
  case call c=>
    split at he <;> try exact he
    rename_i b hb
    unfold callBK at he ⊢
    split at he <;> try exact he.elim
    · rename_i t x hts hxs
      obtain⟨i,hi,he⟩:=he
      try simp only[hts,hxs]
      refine⟨i,hi,?_⟩
      split at he <;> try exact he.elim
      · rename_i h1; (try rw[h1]); exact he
      · rename_i h1; (try rw[h1]); exact he
      · rename_i e k h1
        try rw[h1]
        try simp only
        split at he <;> try exact he.elim
        rename_i y hy
        cases he
        rw[(hu k (by simp)).2,hy]
      · rename_i h1; (try rw[h1]); exact he
    · rename_i h1; (try simp only[h1]); exact he
    · rename_i h1; (try simp only[h1]); exact he
    · rename_i t t' x y hts hxs
      try simp only[hts,hxs]
      obtain⟨h0,i,hi,he⟩:=he
      refine⟨h0,i,hi,?_⟩
      split at he <;> try exact he.elim
      rename_i e hke
      try rw[hke]
      obtain⟨ie,hie,hsz,hbp,ry,uy,hry,hrl,he⟩:=he
      split at he <;> try exact he.elim
      · obtain⟨h1,rfl⟩:=he
        exact⟨ie,hie,hsz,hbp,ry,uy,rowsOf_use hry (fun k hk=>(hu k hk).2),hrl,h1,rfl⟩
      · rename_i k
        split at he <;> try exact he.elim
        rename_i z hz
        obtain⟨h1,h2,h3,h4,rfl⟩:=he
        refine⟨ie,hie,hsz,hbp,ry,uy,rowsOf_use hry (fun k hk=>(hu k (by simp[hk])).2),hrl,?_⟩
        try simp only
        rw[(hu k (by simp)).2,hz]
        exact⟨h1,h2,h3,h4,rfl⟩
      · rename_i k sz lo hi full
        obtain⟨g1,g2,g3,g4,he⟩:=he
        split at he <;> try exact he.elim
        rename_i z hz
        obtain⟨h1,h2,h3,h4,rfl⟩:=he
        refine⟨ie,hie,hsz,hbp,ry,uy,rowsOf_use hry (fun k hk=>(hu k (by simp[hk])).2),hrl,g1,g2,g3,g4,?_⟩
        rw[(hu k (by simp)).2,hz]
        exact⟨h1,h2,h3,h4,rfl⟩

/-- An effect names k nowhere. -/
structure EffFree (k:Nat) (ef:Eff):Prop where
  v:ef.v.on k=false
  nb:∀j cs,ef.nb=some (j,cs)→j≠k∧∀x∈cs,x.on k=false
  no:∀j x,ef.no=some (j,x)→j≠k

theorem loadV_on {i:TI} {cs:List LV} {off k:Nat} (h:∀x∈cs,x.on k=false):(loadV i cs off).on k=false:=by
  unfold loadV
  split
  · simp only[AV.on,AV.on1,List.any_eq_false]
    intro x hx
    rw[h x (List.mem_of_mem_drop (List.mem_of_mem_take hx))]
    exact Bool.false_ne_true
  · split
    · rename_i x hx; exact h x (List.mem_of_getElem? hx)
    · rfl

theorem constV_on (k:Nat) (v:Value):(constV v).on k=false:=by
  have hL:∀v:Value,(constL v).on k=false:=fun v=>by unfold constL; split <;> rfl
  unfold constV
  split
  · simp[AV.on,AV.on1,hL]
  · exact hL _

theorem eval_on {s:St} {k:Nat} (h:Free k s) (x:Operand):(s.eval x).on k=false:=by
  cases x with
  | tmp t=>exact h.t t
  | const v=>exact constV_on k v
  | global _=>rfl
  | func _=>rfl

theorem pickV_on {t:Bool} {a b:AV} {k:Nat} (ha:a.on k=false) (hb:b.on k=false):(pickV t a b).on k=false:=by
  unfold pickV
  split
  · rfl
  · split
    · exact ha
    · exact hb

theorem cellsV_on {x:AV} {cs:List LV} {k:Nat} (h:cellsV x=some cs) (hx:x.on k=false):∀y∈cs,y.on k=false:=by
  intro y hy
  cases x with
  | l z=>cases h; simp at hy; subst hy; exact hx
  | agg cs'=>cases h; simp only[AV.on,AV.on1,List.any_eq_false] at hx; simpa using hx y hy
  | tup _=>cases h

theorem fillL_on {T:TypeId→Option TI} {fs:List (Nat×TypeId)} {k:Nat}:∀{ps:List (Nat×AV)} {cs cs':List LV},fillL fs T ps cs=some cs'→(∀q∈ps,q.2.on k=false)→(∀y∈cs,y.on k=false)→∀y∈cs',y.on k=false
  | [],cs,cs',h,_,hc=>by cases h; exact hc
  | (i,x)::r,cs,cs',h,hp,hc=>by
    unfold fillL at h
    split at h <;> try cases h
    rename_i off ft b hf hb
    split at h <;> try cases h
    split at h <;> try cases h
    refine fillL_on h (fun q hq=>hp q (List.mem_cons_of_mem _ hq)) fun y hy=>?_
    unfold splice at hy
    rcases List.mem_append.1 hy with hy | hy
    · rcases List.mem_append.1 hy with hy | hy
      · exact hc y (List.mem_of_mem_take hy)
      · exact cellsV_on hb (hp _ List.mem_cons_self) y hy
    · exact hc y (List.mem_of_mem_drop hy)

theorem capsOf_on {k:Nat}:∀{xs:List AV} {cs:List Cap},capsOf xs=some cs→(∀x∈xs,x.on k=false)→cs.any (Cap.on k)=false
  | [],cs,h,_=>by cases h; rfl
  | x::r,cs,h,hx=>by
    unfold capsOf at h
    split at h
    · rename_i e; cases e
    · rename_i j r' e
      cases e
      split at h <;> try cases h
      rename_i l hl
      have h1:=hx _ List.mem_cons_self
      rw[List.any_cons,capsOf_on hl fun x hm=>hx x (List.mem_cons_of_mem _ hm)]
      simpa [Cap.on,AV.on,AV.on1,LV.on] using h1
    · rename_i c r' e
      cases e
      split at h <;> try cases h
      rename_i l hl
      rw[List.any_cons,capsOf_on hl fun x hm=>hx x (List.mem_cons_of_mem _ hm)]
      rfl
    · cases h

theorem constL_on (k:Nat) (v:Value):(constL v).on k=false:=by unfold constL; split <;> rfl

theorem effK_free {P:Program} (hT:TabOk P T) {k:Nat} (he:effK T o ρ β ω key (fun e=>e=ef)) (hρ:∀x,(ρ x).on k=false) (hβ:∀j cs,β j=some cs→∀x∈cs,x.on k=false) (hk:key≠k):EffFree k ef:=by
  have plain:∀v us,v.on k=false→EffFree k { v:=v,use:=us }:=fun v us h=>⟨h,(fun j cs e=>by cases e),(fun j x e=>by cases e)⟩
  have hz:∀t i,T t=some i→∀x∈i.zero,x.on k=false:=fun t i hi x hx=>by
    obtain⟨j,z,h1,h2,h3,h4,h5,_⟩:=(hT.ok t i hi).info
    rw[←h5] at hx
    obtain⟨v,_,rfl⟩:=List.mem_map.1 hx
    exact constL_on k v
  have ownE:∀(x:Own) us et,EffFree k { v:=.l (.own key),no:=some (key,x),use:=us,eat:=et }:=fun x us et=>⟨by simp[AV.on,AV.on1,LV.on,hk],(fun j cs e=>by cases e),fun j x e=>by cases e; exact hk⟩
  obtain⟨dst,op,type,pos,after,guard⟩:=o
  cases op <;> simp only[effK] at he
  case move x=>subst he; exact plain _ _ (hρ x)
  case assign x=>subst he; exact plain _ _ (hρ x)
  case pick c a b=>
    split at he <;> try exact he.elim
    subst he; exact plain _ _ (pickV_on (hρ a) (hρ b))
  case alloc e=>
    split at he <;> try exact he.elim
    rename_i i hi
    subst he
    exact⟨by simp[AV.on,AV.on1,LV.on,hk],(fun j cs e=>by cases e; exact⟨hk,hz _ _ hi⟩),(fun j x e=>by cases e)⟩
  case box e x=>
    split at he <;> try exact he.elim
    rename_i cs hcs
    obtain⟨_,rfl⟩:=he
    exact⟨by simp[AV.on,AV.on1,LV.on,hk],(fun j cs e=>by cases e; exact⟨hk,cellsV_on hcs (hρ x)⟩),(fun j x e=>by cases e)⟩
  case load t x=>
    split at he <;> try exact he.elim
    obtain⟨_,he⟩:=he
    split at he <;> try exact he.elim
    · split at he <;> try exact he.elim
      rename_i cs hcs
      obtain⟨_,rfl⟩:=he
      exact plain _ _ (loadV_on (hβ _ _ hcs))
    · obtain⟨_,rfl⟩:=he
      exact plain _ _ (loadV_on fun y hy=>by obtain⟨z,_,rfl⟩:=List.mem_map.1 hy; rfl)
    · split at he <;> try exact he.elim
      obtain⟨_,row,_,_,rfl⟩:=he
      exact plain _ _ (loadV_on fun y hy=>by obtain⟨z,_,rfl⟩:=List.mem_map.1 hy; rfl)
  case fieldAddr t x f=>
    split at he <;> try exact he.elim
    split at he <;> try exact he.elim
    split at he <;> try exact he.elim
    split at he <;> try exact he.elim
    obtain⟨_,he⟩:=he
    have hx:=hρ x
    split at he <;> try exact he.elim
    · rename_i e; rw[e] at hx; subst he; exact plain _ _ hx
    · subst he; exact plain _ _ rfl
    · rename_i e; rw[e] at hx; subst he; exact plain _ _ hx
  case field t x f=>
    split at he <;> try exact he.elim
    split at he <;> try exact he.elim
    split at he <;> try exact he.elim
    split at he <;> try exact he.elim
    obtain⟨_,he⟩:=he
    have hx:=hρ x
    split at he <;> try exact he.elim
    rename_i cs e
    rw[e] at hx
    obtain⟨_,rfl⟩:=he
    exact plain _ _ (loadV_on fun y hy=>by simp only[AV.on,AV.on1,List.any_eq_false] at hx; simpa using hx y hy)
  case indexAddr t x ix=>
    split at he <;> try exact he.elim
    split at he <;> try exact he.elim
    split at he <;> try exact he.elim
    obtain⟨_,he⟩:=he
    have hx:=hρ x
    split at he <;> try exact he.elim
    · obtain⟨_,row,_,_,rfl⟩:=he
      exact plain _ _ rfl
    · rename_i e1 e2
      rw[e1] at hx
      split at he <;> try exact he.elim
      obtain⟨_,_,_,rfl⟩:=he
      exact plain _ _ hx
    · rename_i e1 e2
      rw[e1] at hx
      obtain⟨_,_,_,rfl⟩:=he
      exact plain _ _ hx
  case binOp op t x y t'=>
    unfold binK at he
    split at he <;> try exact he.elim
    · obtain⟨_,he⟩:=he
      cases op <;> simp only at he <;> first | exact he.elim | (subst he; exact plain _ _ rfl) | (obtain⟨_,rfl⟩:=he; exact plain _ _ rfl)
    · obtain⟨_,he⟩:=he
      cases op <;> simp only at he <;> first | exact he.elim | (subst he; exact plain _ _ rfl)
    · obtain⟨_,_,_,_,_,_,_,_,_,he⟩:=he
      cases op <;> simp only at he <;> first | exact he.elim | (subst he; exact plain _ _ rfl)
  case unOp op t x=>
    cases op <;> simp only at he <;> try exact he.elim
    all_goals
      split at he <;> try exact he.elim
      subst he; exact plain _ _ rfl
  case convert a b x=>
    obtain⟨i,j,_,_,he⟩:=he
    split at he <;> try exact he.elim
    subst he; exact plain _ _ rfl
  case makeFunc f first caps=>
    cases f <;> simp only at he <;> try exact he.elim
    split at he <;> try exact he.elim
    rename_i cs hcs
    split at he <;> try exact he.elim
    rename_i z hz
    subst he
    unfold mfOf at hz
    split at hz
    · cases hz
      exact plain _ _ (capsOf_on hcs fun x hx=>by obtain⟨y,_,rfl⟩:=List.mem_map.1 hx; exact hρ y)
    · rename_i k h0
      split at hz
      · cases hz
        have hm:AV.l (.ptr k 0)∈first.toList.map ρ:=by rw[h0]; exact List.mem_cons_self
        obtain⟨y,_,hy⟩:=List.mem_map.1 hm
        have:=hρ y
        rw[hy] at this
        exact plain _ _ this
      · cases hz
    · cases hz
  case slice t x lo hi mx=>
    split at he <;> try exact he.elim
    split at he <;> try exact he.elim
    split at he <;> try exact he.elim
    unfold sliceK at he
    have hx:=hρ x
    split at he <;> try exact he.elim
    · obtain⟨l,h',_,_,_,_,_,_,_,rfl⟩:=he
      exact plain _ _ rfl
    · rename_i e
      rw[e] at hx
      split at he <;> try exact he.elim
      obtain⟨_,l,h',_,_,_,_,_,_,rfl⟩:=he
      exact plain _ _ hx
  case build t ps=>
    split at he <;> try exact he.elim
    rename_i i hi
    split at he <;> try exact he.elim
    split at he <;> try exact he.elim
    rename_i cs hcs
    subst he
    refine plain _ _ ?_
    simp only[AV.on,AV.on1,List.any_eq_false]
    intro y hy
    rw[fillL_on hcs (fun q hq=>by obtain⟨z,_,rfl⟩:=List.mem_map.1 hq; exact hρ z.2) (hz _ _ hi) y hy]
    exact Bool.false_ne_true
  case buildSlice t n ps=>
    split at he <;> try exact he.elim
    split at he <;> try exact he.elim
    split at he <;> try exact he.elim
    obtain⟨_,_,he⟩:=he
    split at he <;> try exact he.elim
    obtain⟨_,rfl⟩:=he
    exact ownE _ _ _
  case makeSlice t l c=>
    split at he <;> try exact he.elim
    split at he <;> try exact he.elim
    split at he <;> try exact he.elim
    obtain⟨_,he⟩:=he
    split at he <;> try exact he.elim
    obtain⟨_,_,_,_,rfl⟩:=he
    exact ownE _ _ _
  case extract x i=>
    have hx:=hρ x
    split at he <;> try exact he.elim
    rename_i cs e
    rw[e] at hx
    split at he <;> try exact he.elim
    · rename_i v hv
      subst he
      simp only[AV.on,List.any_eq_false] at hx
      have:=hx _ (List.mem_of_getElem? hv)
      exact plain _ _ (by simpa [AV.on] using this)
    · rename_i v hv
      subst he
      simp only[AV.on,List.any_eq_false] at hx
      have:=hx _ (List.mem_of_getElem? hv)
      exact plain _ _ (by simpa [AV.on] using this)
  case nilCheck x=>
    have hx:=hρ x
    split at he <;> try exact he.elim
    · rename_i e; rw[e] at hx; subst he; exact plain _ _ hx
    · subst he; exact plain _ _ rfl
    · rename_i e; rw[e] at hx; subst he; exact plain _ _ hx
  case call c=>
    split at he <;> try exact he.elim
    unfold callBK at he
    split at he <;> try exact he.elim
    · obtain⟨i,_,he⟩:=he
      split at he <;> try exact he.elim
      · subst he; exact plain _ _ rfl
      · subst he; exact plain _ _ rfl
      · split at he <;> try exact he.elim
        subst he; exact plain _ _ rfl
      · subst he; exact plain _ _ rfl
    · subst he; exact plain _ _ rfl
    · subst he; exact plain _ _ rfl
    · obtain⟨_,i,_,he⟩:=he
      split at he <;> try exact he.elim
      obtain⟨ie,_,_,_,ry,uy,_,_,he⟩:=he
      split at he <;> try exact he.elim
      · obtain⟨_,rfl⟩:=he; exact ownE _ _ _
      · split at he <;> try exact he.elim
        obtain⟨_,_,_,_,rfl⟩:=he; exact ownE _ _ _
      · obtain⟨_,_,_,_,he⟩:=he
        split at he <;> try exact he.elim
        obtain⟨_,_,_,_,rfl⟩:=he; exact ownE _ _ _

end
end Go.VC
