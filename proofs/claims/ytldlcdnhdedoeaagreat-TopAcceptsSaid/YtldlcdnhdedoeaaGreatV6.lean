/- Part 7 of what follows is proved here: the layer over the walk. -/
import Derived.Test.YtldlcdnhdedoeaaGreatV5
import Derived.OwnWalk
set_option linter.unusedVariables false
set_option linter.unusedSimpArgs false
namespace Go.VC
open Go.RowKit (Below)

/-! ### Plain functions: what a Go function computes, as a value that may be missing -/
def fk {α:Type} (b:Bool) (x y:Option α):Option α:=match b with | true=>x | false=>y
def ck {α:Type} (b:Bool) (x:Option α):Option α:=match b with | true=>x | false=>none
def ox {α β:Type} (l:List α) (i:Nat) (f:α→Option β):Option β:=match l[i]? with | some x=>f x | none=>none
def ix {α β:Type} (l:List α) (i:Int) (f:α→Option β):Option β:=match decide (0≤i) with | true=>ox l i.toNat f | false=>none
def bnd {α β:Type} (x:Option α) (f:α→Option β):Option β:=match x with | some a=>f a | none=>none
noncomputable def lp {σ R:Type} (body:(σ→Option R)→σ→Option R) (n:Nat):σ→Option R:=Nat.rec (fun _=>none) (fun _ ih v=>body ih v) n
def FU:Nat:=18446744073709551616
theorem lp_succ {σ R:Type} (body:(σ→Option R)→σ→Option R) (n:Nat) (v:σ):lp body (n+1) v=body (lp body n) v:=rfl
abbrev wr (n:Int):Int:=IntKind.i64.wrap n

section
variable {P:Program} {T:TypeId→Option TI} {s:St} {L:Cut} {α β ρ R σ:Type} {r:R}

theorem fkS {b:Bool} {A B:Option R} {X Y:Prop} (h:fk b A B=some r) (h1:A=some r→X) (h2:B=some r→Y):forkK b X Y:=by
  cases b
  · exact h2 h
  · exact h1 h
theorem ckS {b:Bool} {A:Option R} (h:ck b A=some r):b=true∧A=some r:=by
  cases b
  · cases h
  · exact⟨rfl,h⟩
theorem oxS {l:List α} {enc:α→List D} {rows:List (List D)} {i:Nat} {f:α→Option R} {K:List D→Prop} (h:ox l i f=some r) (e:rows=l.map enc) (k:∀x,f x=some r→K (enc x)):RowK rows i K:=by
  subst e
  unfold ox at h
  split at h
  · rename_i x hx
    exact⟨enc x,by rw[List.getElem?_map,hx]; rfl,k x h⟩
  · cases h
theorem ixS {l:List α} {enc:α→List D} {rows:List (List D)} {n:Int} {sz:Nat} {f:α→Option R} {K:List D→Prop} (h:ix l n f=some r) (e:rows=l.map enc) (hs:∀x,(enc x).length=sz) (k:∀x,f x=some r→K (enc x)):IdxK rows n sz K:=by
  unfold ix at h
  split at h
  · rename_i h0
    have h0:=of_decide_eq_true h0
    obtain⟨row,h1,h2⟩:=oxS (K:=fun row=>row.length=sz∧K row) h e fun x hx=>⟨hs x,k x hx⟩
    exact⟨h0,row,h1,h2.1,h2.2⟩
  · cases h
theorem ioS {l:List α} {enc:α→List D} {rows:List (List D)} {n:Int} {A:Option R} {X:Prop} (h:ck (decide (0≤n) && decide (n<l.length)) A=some r) (e:rows=l.map enc) (k:A=some r→X):IdxO rows n X:=by
  subst e
  obtain⟨h1,h2⟩:=ckS h
  simp only[Bool.and_eq_true,decide_eq_true_eq] at h1
  exact⟨h1.1,by rw[List.length_map]; exact h1.2,k h2⟩
theorem lenS (l:List α) (enc:α→List D) {rows:List (List D)} {K:Int→Prop} (e:rows=l.map enc) (k:K (l.length:Int)):LenK rows K:=by
  subst e
  exact⟨by rw[List.length_map]; exact k⟩
theorem apS {l1 l2:List α} {enc:α→List D} {a b:List (List D)} {sz bytes:Nat} {A:Option R} {K:List (List D)→Prop} (h:ck (decide ((l1.length+l2.length)*bytes≤140737488355328)) A=some r)
    (e1:a=l1.map enc) (e2:b=l2.map enc) (hs:∀x,(enc x).length=sz) (k:A=some r→K ((l1++l2).map enc)):ApK a b sz bytes K:=by
  subst e1 e2
  obtain⟨h1,h2⟩:=ckS h
  refine⟨fun x hx=>?_,by rw[List.length_map,List.length_map]; exact of_decide_eq_true h1,by rw[←List.map_append]; exact k h2⟩
  obtain⟨y,_,rfl⟩:=List.mem_map.1 hx
  exact hs y
theorem slS {l:List α} {enc:α→List D} {rows:List (List D)} {lo H:Int} {hi:Option Int} {sz:Nat} {M:Prop} {A:Option R} {K:List (List D)→Prop} (h:ck (decide (0≤lo) && decide (lo≤H) && decide (H≤l.length)) A=some r)
    (e:rows=l.map enc) (eH:hi.getD l.length=H) (m:M) (hs:∀x,(enc x).length=sz) (k:A=some r→K (((l.take H.toNat).drop lo.toNat).map enc)):SlD rows lo hi sz M K:=by
  subst e
  obtain⟨h1,h2⟩:=ckS h
  simp only[Bool.and_eq_true,decide_eq_true_eq] at h1
  subst eH
  refine⟨h1.1.1,by rw[List.length_map]; exact h1.1.2,by rw[List.length_map]; exact h1.2,.inr fun x hx=>?_,m,by rw[List.length_map,←List.map_take,←List.map_drop]; exact k h2⟩
  obtain⟨y,_,rfl⟩:=List.mem_map.1 hx
  exact hs y
theorem liS (xs:List α) (enc:α→List D) {rows:List (List D)} {len:Nat} {K:List (List D)→Prop} (e:rows=xs.map enc) (hl:xs.length=len) (k:K (xs.map enc)):LitK rows len K:=by
  subst e
  exact⟨by rw[List.length_map]; exact hl,k⟩
theorem mkS {n m:Int} {bytes:Nat} {A:Option R} {K:List (List D)→Prop} {z:List D} (x:α) (enc:α→List D) (h:ck (decide (0≤n) && decide (n*bytes≤140737488355328) && decide (n≤1000000000000)) A=some r)
    (e:n=m) (ez:z=enc x) (k:A=some r→K ((List.replicate n.toNat x).map enc)):MkS z n m bytes K:=by
  subst ez
  obtain⟨h1,h2⟩:=ckS h
  simp only[Bool.and_eq_true,decide_eq_true_eq] at h1
  exact⟨e,h1.1.1,h1.1.2,h1.2,by rw[←List.map_replicate]; exact k h2⟩
theorem seS {l:List α} {enc:α→List D} {rows:List (List D)} {i off:Nat} {ds:List D} {f:α→Option R} {K:List (List D)→Prop} (h:ox l i f=some r) (e:rows=l.map enc) (u:α→α) (hu:∀x,splice (enc x) off ds=enc (u x))
    (k:∀x,f x=some r→K ((l.set i (u x)).map enc)):SetK rows i off ds K:=by
  subst e
  unfold ox at h
  split at h
  · rename_i x hx
    exact⟨enc x,by rw[List.getElem?_map,hx]; rfl,by rw[hu,←List.map_set]; exact k x h⟩
  · cases h
theorem dvS {b:Int} {A:Option R} {X:Prop} (h:ck (decide (b≠0)) A=some r) (k:A=some r→X):b≠0∧X:=by
  obtain⟨h1,h2⟩:=ckS h
  exact⟨of_decide_eq_true h1,k h2⟩
theorem rt {E:R→List CV} {a:R} {cv:List CV} (h:some a=some r) (e:cv=E a):cv=E r:=by cases h; exact e

theorem bnd_of {c:Option ρ} {f:ρ→Option R} (h:bnd c f=some r):∃x,c=some x∧f x=some r:=by
  unfold bnd at h
  split at h
  · exact⟨_,rfl,h⟩
  · cases h
/-- A call whose results are numbers, bools, functions of none. -/
theorem caS {g:FuncId} {args:List AV} {E:ρ→List CV} {c:Option ρ} {f:ρ→Option R} {dst:Option Nat} {K:St→Prop} {cargs:List CV} (h:bnd c f=some r) (hs:∀x,c=some x→Spec P g cargs (fun y=>y=E x))
    (hc:closeVs s args=some cargs) (hsc:∀x,(E x).all CV.scalar=true) (k:∀x,f x=some r→fAV (resAV (E x)) fun r=>putX s dst r K):CallX P g args s dst K:=by
  obtain⟨x,h1,h2⟩:=bnd_of h
  exact useS (hs x h1) hc (hsc x) (k x h2)
/-- A call to which nothing of the caller's own is handed. -/
theorem ccS {g:FuncId} {args:List AV} {E:ρ→List CV} {c:Option ρ} {f:ρ→Option R} {dst:Option Nat} {K:St→Prop} {cargs:List CV} (h:bnd c f=some r) (hs:∀x,c=some x→Spec P g cargs (fun y=>y=E x))
    (hc:closeVs s args=some cargs) (hcl:args.all AV.closed=true) (k:∀x,f x=some r→fAV (resAV (E x)) fun r=>putX s dst r K):CallX P g args s dst K:=by
  obtain⟨x,h1,h2⟩:=bnd_of h
  exact useC (hs x h1) hc hcl (k x h2)
theorem daS {g:FuncId} {cargs:List CV} {xs:List AV} {E:ρ→List CV} {c:Option ρ} {f:ρ→Option R} {K:Eff→Prop} (h:bnd c f=some r) (hs:∀x,c=some x→Spec P g cargs (fun y=>y=E x))
    (hsc:∀x,(E x).all CV.scalar=true) (k:∀x,f x=some r→fAV (resAV (E x)) fun v=>K { v:=v,use:=xs.flatMap AV.keys }):callD P g cargs xs K:=by
  obtain⟨x,h1,h2⟩:=bnd_of h
  exact⟨⟨_,hs x h1,.inl (hsc x),k x h2⟩⟩
theorem dcS {g:FuncId} {cargs:List CV} {xs:List AV} {E:ρ→List CV} {c:Option ρ} {f:ρ→Option R} {K:Eff→Prop} (h:bnd c f=some r) (hs:∀x,c=some x→Spec P g cargs (fun y=>y=E x))
    (hcl:xs.all AV.closed=true) (k:∀x,f x=some r→fAV (resAV (E x)) fun v=>K { v:=v,use:=xs.flatMap AV.keys }):callD P g cargs xs K:=by
  obtain⟨x,h1,h2⟩:=bnd_of h
  exact⟨⟨_,hs x h1,.inr hcl,k x h2⟩⟩
theorem drS {ops:Array Oper} {fps:List FP} {m:Nat} {X:Prop} (h:drawL ops fps m=true) (k:X):DrwK ops fps m X:=⟨h,k⟩
def inlX (T:TypeId→Option TI) (rs:List ResultVar) (n:Nat) (dst:Option Nat) (K:St→Prop):Exit→St→Prop:=fun e s=>match e with
  | .ret | .normal=>rowK (resultsAV T s rs) fun r=>rowK s.leave fun s2=>chk (Nat.beq s2.n n) (fAV r fun r=>putX s2 dst r K)
  | _=>False
/-- A call, walked in place. -/
theorem inS (hT:TabOk P T) (L:Cut) {f:FuncId} {fn:Func} {c:Code} {args:List AV} {dst:Option Nat} {K:St→Prop} (n:Nat) (rs:List ResultVar) (hf:P.funcs[f]?=some fn) (hb:fn.body=some c) (hn:(fn.name == "runtime.NumGoroutine")=false) (hnt:fn.ntmps=n) (hrs:fn.results.toList=rs) (hl:Nat.ble args.length n=true)
    (h:fS (s.enter args n) fun s'=>xc P T L c (inlX T rs s.n dst K) s'):CallX P f args s dst K:=by
  subst hnt hrs
  rw[fS_eq] at h
  refine .of (ACall.inlineA hT hf hb hn (ble_t.1 hl) ((xc_a hT c h).mono fun e s' hq=>?_))
  have fin:(rowK (resultsAV T s' fn.results.toList) fun r=>rowK s'.leave fun s2=>chk (Nat.beq s2.n s.n) (fAV r fun r=>putX s2 dst r K))→∃r s2,resultsAV T s' fn.results.toList=some r∧s'.leave=some s2∧(s2.n=s.n∧fAV r fun r=>putX s2 dst r K):=by
    intro h
    obtain⟨r,h1,h⟩:=rowK_iff.1 h
    obtain⟨s2,h2,h⟩:=rowK_iff.1 h
    obtain⟨h3,h4⟩:=chk_iff.1 h
    exact⟨r,s2,h1,h2,beq_t.1 h3,h4⟩
  cases e with
  | ret=>exact fin hq
  | normal=>exact fin hq
  | _=>exact hq.elim

theorem lpS {body:(σ→Option R)→σ→Option R} {n:Nat} {v0:σ} {xb:(Exit→St→Prop)→St→Prop} {Q:Exit→St→Prop} (st:σ→St) (h:lp body n v0=some r) (hw:Weak s (st v0))
    (step:∀(n:Nat) (nx:σ→Option R) (hn:∀v',nx v'=some r→lp body n v'=some r) (v:σ),body nx v=some r→xb (fun e s'=>match e with | .normal=>∃n' s2,n'<n+1∧Weak s' s2∧∃v',s2=st v'∧lp body n' v'=some r | e=>Q e s') (st v)):LoopVC xb Q s:=by
  refine loopI (fun n s1=>∃v,s1=st v∧lp body n v=some r) n (st v0) hw ⟨v0,rfl,h⟩ ?_
  rintro n s1 ⟨v,rfl,hv⟩
  cases n with
  | zero=>cases hv
  | succ n=>
    rw[lp_succ] at hv
    exact step n _ (fun _ h=>h) v hv
theorem leS {body:(σ→Option R)→σ→Option R} {n:Nat} {st:σ→St} {nx:σ→Option R} {v':σ} (hn:∀v',nx v'=some r→lp body n v'=some r) (h:nx v'=some r) (hw:Weak s (st v')):∃n' s2,n'<n+1∧Weak s s2∧∃v',s2=st v'∧lp body n' v'=some r:=
  ⟨n,_,Nat.lt_succ_self n,hw,v',rfl,hn _ h⟩
/-- Ways that meet. -/
def jn {σ R:Type} (Y:σ→Option R) (X:(σ→Option R)→Option R):Option R:=X Y
theorem jnS {Y:σ→Option R} {X:(σ→Option R)→Option R} {xp:(Exit→St→Prop)→Prop} {yp:St→Prop} {Q:Exit→St→Prop} (st:σ→St) (h:jn Y X=some r)
    (h1:∀(k:σ→Option R) (hk:∀v,k v=some r→Y v=some r),X k=some r→xp (fun e s'=>match e with | .normal=>∃s2,Weak s' s2∧∃v,s2=st v∧Y v=some r | e=>Q e s'))
    (h2:∀v,Y v=some r→yp (st v)):SeqX xp yp Q:=
  ⟨_,h1 Y (fun _ h=>h) h,by rintro s2 ⟨v,rfl,hv⟩; exact h2 v hv⟩
theorem jeS {Y k:σ→Option R} {st:σ→St} {v:σ} (hk:∀v,k v=some r→Y v=some r) (h:k v=some r) (hw:Weak s (st v)):∃s2,Weak s s2∧∃v,s2=st v∧Y v=some r:=⟨_,hw,v,rfl,hk v h⟩
end

/-! ### States told less -/
def repT:Tmps→Nat→AV→Tmps
  | [],_,_=>[]
  | (k,v)::r,i,x=>match Nat.beq i k with | true=>(k,x)::repT r i x | false=>(k,v)::repT r i x
theorem getT_repT (t:Tmps) (i:Nat) (x:AV) (j:Nat):(j≠i∧getT (repT t i x) j=getT t j)∨(j=i∧(getT (repT t i x) j=x∨getT (repT t i x) j=.l .unk)):=by
  by_cases e:j=i
  · subst e
    refine .inr ⟨rfl,?_⟩
    induction t with
    | nil=>exact .inr rfl
    | cons a r ih=>
      obtain⟨k,v⟩:=a
      unfold repT
      split
      · rename_i h; have:=Nat.eq_of_beq_eq_true h; subst this; left; simp[getT]
      · rename_i h
        have:j≠k:=fun e=>by subst e; rw[Nat.beq_refl] at h; cases h
        simp only[getT,if_neg this]; exact ih
  · refine .inl ⟨e,?_⟩
    induction t with
    | nil=>rfl
    | cons a r ih=>
      obtain⟨k,v⟩:=a
      unfold repT
      split
      · rename_i h; have:=Nat.eq_of_beq_eq_true h; subst this; simp only[getT,if_neg e,ih]
      · simp only[getT,ih]
section
variable {w0:World} {p0 p:Nat→Prop} {σ:Nat→Value} {s:St} {tm:Array Value} {ups:List (Array Value)} {w:World}
/-- A nil slice as an own array with nothing in it. -/
def St.nilO (s:St) (i k:Nat) (e:TypeId) (sz:Nat):St:=match s.drop k with
  | s1=>{ s1 with t:=repT s1.t i (.l (.own k)),o:=ins s1.o k (e,sz,[]) }
theorem Weak.nilO (s:St) (i k:Nat) (e:TypeId) (sz:Nat) (h:s.get i=.l .nil):Weak s (s.nilO i k e sz):=by
  intro w0 p0 p σ tm ups w hr
  have h1:=hr.newOwn (w':=w) k e sz [] (.slice none 0 0) [] none (World.grownBy.refl w none) (fun g hg=>by cases hg) (World.rowM_nil _ _ _ _) (fun g hg=>by cases hg) (fun r hr=>by cases hr) All2.nil
  have hv:tm.getD i undef=.slice none 0 0:=by
    have:=hr.t.2 i
    unfold St.get at h
    rw[h] at this
    exact this
  refine⟨p,_,h1.below,h1.pin,h1.pnew,h1.plt,⟨h1.t.1,fun j=>?_⟩,h1.up,h1.b,h1.o,h1.apart⟩
  rcases getT_repT (s.drop k).t i (.l (.own k)) j with ⟨_,e1⟩ | ⟨rfl,e1 | e1⟩
  · rw[show getT (s.nilO i k e sz).t j=getT (repT (s.drop k).t i (.l (.own k))) j from rfl,e1]; exact h1.t.2 j
  · rw[show getT (s.nilO j k e sz).t j=getT (repT (s.drop k).t j (.l (.own k))) j from rfl,e1]
    exact⟨by rw[hv]; exact (upd_same _ _ _).symm,none,0,0,upd_same _ _ _⟩
  · rw[show getT (s.nilO j k e sz).t j=getT (repT (s.drop k).t j (.l (.own k))) j from rfl,e1]; trivial
theorem repD_nil (w:World) (p:Nat→Prop):RepD w p (.sl []) (.slice none 0 0):=
  .sl [] 0 none 0 (fun _ _=>undef) (Nat.zero_le _) (Nat.zero_le _) (fun _=>rfl) (fun ad h _=>by cases h) (fun r h=>by cases h) (fun ad i j r x h=>by cases h) (fun i j r x h=>by simp at h)
theorem setAssoc_ok {s:St} {j q:Nat} {cs:List LV} (x:LV) (hr:Rel w0 p0 p σ s tm ups w) (hj:assoc s.b j=some cs) (hx:∀v,cs[q]?=some .nil→v=.slice none 0 0→RepL σ w p x v) (hq:cs[q]?=some .nil) :
    Rel w0 p0 p σ { s with b:=setAssoc s.b j (cs.set q x) } tm ups w:=by
  have hl:∀k,St.live { s with b:=setAssoc s.b j (cs.set q x) } k→s.live k:=by
    intro k hk
    unfold St.live at *
    simp only[assoc_setAssoc] at hk
    rcases hk with hk | hk
    · split at hk
      · rename_i e; subst e; rw[hj]; exact .inl rfl
      · exact .inl hk
    · exact .inr hk
  refine⟨hr.below,hr.pin,hr.pnew,hr.plt,hr.t,hr.up,fun k c hk=>?_,hr.o,fun k1 k2 g h1 h2=>hr.apart k1 k2 g (hl _ h1) (hl _ h2)⟩
  simp only[assoc_setAssoc] at hk
  split at hk
  · rename_i e
    subst e
    rw[hj] at hk
    cases hk
    obtain⟨g,ty,vs,a,b,c,d,f⟩:=hr.b k cs hj
    refine⟨g,ty,vs,a,b,c,d,⟨by rw[List.length_set]; exact f.1,fun i y v hy hv=>?_⟩⟩
    rw[List.getElem?_set] at hy
    split at hy
    · rename_i e
      subst e
      split at hy
      · cases hy
        have h0:=f.2 _ _ _ hq hv
        exact hx v hq h0
      · cases hy
    · exact f.2 _ _ _ hy hv
  · exact hr.b k c hk
/-- The same, in a variable in memory. -/
def St.nilBD (s:St) (j q:Nat) (cs:List LV):St:={ s with b:=setAssoc s.b j (cs.set q (.d (.sl []))) }
theorem Weak.nilBD (s:St) (j q:Nat) (cs:List LV) (h:assoc s.b j=some cs) (hq:cs[q]?=some .nil):Weak s (s.nilBD j q cs):=fun w0 p0 p σ tm ups w hr=>
  ⟨p,σ,setAssoc_ok _ hr h (fun v _ e=>by subst e; exact repD_nil w p) hq⟩
def St.nilBO (s:St) (j q k:Nat) (e:TypeId) (sz:Nat) (cs:List LV):St:=match s.drop k with
  | s1=>{ s1 with b:=setAssoc s1.b j (cs.set q (.own k)),o:=ins s1.o k (e,sz,[]) }
theorem Weak.nilBO (s:St) (j q k:Nat) (e:TypeId) (sz:Nat) (cs:List LV) (h:assoc (s.drop k).b j=some cs) (hq:cs[q]?=some .nil):Weak s (s.nilBO j q k e sz cs):=by
  intro w0 p0 p σ tm ups w hr
  have h1:=hr.newOwn (w':=w) k e sz [] (.slice none 0 0) [] none (World.grownBy.refl w none) (fun g hg=>by cases hg) (World.rowM_nil _ _ _ _) (fun g hg=>by cases hg) (fun r hr=>by cases hr) All2.nil
  exact⟨p,_,setAssoc_ok (s:=(s.drop k).addOwn k (e,sz,[])) (.own k) h1 h (fun v _ e=>by subst e; exact⟨(upd_same _ _ _).symm,none,0,0,upd_same _ _ _⟩) hq⟩
end
end Go.VC
