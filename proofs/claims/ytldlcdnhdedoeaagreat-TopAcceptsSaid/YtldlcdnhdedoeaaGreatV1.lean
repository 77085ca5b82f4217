/- Part 2 of what follows is proved here: the layer over the walk. -/
import Derived.Test.YtldlcdnhdedoeaaGreatV0
import Derived.Scope
set_option linter.unusedVariables false
set_option linter.unusedSimpArgs false
namespace Go.VC
open Go.RowKit (Below)

/-! ### Regions that draw their order -/
def LV.keys:LV→List Nat
  | .own k=>[k]
  | .vw k _ _ _ _=>[k]
  | _=>[]
def AV.keys:AV→List Nat
  | .l x=>x.keys
  | .agg cs=>cs.flatMap LV.keys
  | .tup _=>[]
def LV.noCap:LV→Bool
  | .func _ caps=>caps.all fun | .c _=>true | .k _=>false
  | .mfn _ _=>false
  | .bsl _ _ _=>false
  | _=>true
def AV.noCap:AV→Bool
  | .l x=>x.noCap
  | .agg cs=>cs.all LV.noCap
  | .tup _=>true

/-- A function that is told, with what it has caught. -/
def calleeV:AV→Option (FuncId×List AV)
  | .l (.func g [])=>some (g,[])
  | .l (.d (.fn g caps))=>some (g,caps.map fun cs=>.l (.dptr cs 0))
  | _=>none

/-- One operation of a region that draws its order, with what it does. -/
def stepE (P:Program) (T:TypeId→Option TI) (o:Oper) (s:St) (ef:Eff):Prop:=
  dstLt o.dst s.n=true∧match o.op with
  | .call { callee:=.value f,args,.. }=>∃g xs cargs rs,calleeV (s.eval f)=some (g,xs)∧Spec P g cargs (fun r=>r=rs)∧closeVs s (args.toList.map s.eval++xs)=some cargs∧(args.toList.map s.eval++xs).all AV.noCap=true ∧
      (rs.all CV.scalar=true∨(args.toList.map s.eval++xs).all AV.closed=true)∧ef={ v:=resAV rs,use:=(args.toList.map s.eval++xs).flatMap AV.keys }
  | .store t x v=>∃k off i cs old,o.dst=none∧s.eval x=.l (.ptr k off)∧T t=some i∧cellsV (s.eval v)=some cs∧cs.length=i.size∧cs.all LV.ok=true∧assoc s.b k=some old∧off+i.size≤old.length∧ef={ v:=.l .unk,nb:=some (k,splice old off cs),use:=[k] }
  | _=>effK T o s.eval (assoc s.b) (assoc s.o) (keyOf s o.dst) fun e=>e=ef

/-- The same with its guard. -/
def stepG (P:Program) (T:TypeId→Option TI) (ops:Array Oper) (o:Oper) (s:St) (ef:Eff):Prop:=
  match o.guard with
  | none=>stepE P T o s ef
  | some (j,want)=>∃d,(ops[j]?).bind (·.dst)=some d∧((∃b,s.get d=.l (.d (.bool b))∧((b=want∧stepE P T o s ef)∨(b=(!want)∧dstLt o.dst s.n=true∧ef={ v:=.l .und })))∨(s.get d=.l .und∧dstLt o.dst s.n=true∧ef={ v:=.l .und }))

section
variable {P:Program} {T:TypeId→Option TI} {w0:World} {p0 p p':Nat→Prop} {σ:Nat→Value} {s s':St} {tm:Array Value} {ups:List (Array Value)} {w w':World} {ops:Array Oper} {o:Oper} {ef:Eff}

theorem closeL_use {x:LV} {d:D} (h:closeL s x=some d) (hu:∀k∈x.keys,assoc s'.o k=assoc s.o k):closeL s' x=some d:=by
  cases x with
  | own k=>simp only[closeL] at h ⊢; rw[hu k (by simp[LV.keys])]; exact h
  | _=>exact h

theorem closeCaps_use:∀{cs:List Cap} {ds:List (List D)},closeCaps s cs=some ds→(cs.all fun | .c _=>true | .k _=>false)=true→closeCaps s' cs=some ds
  | [],ds,h,_=>h
  | .c c::r,ds,h,hc=>by
    unfold closeCaps at h ⊢
    split at h <;> try cases h
    rename_i l hl
    rw[closeCaps_use hl (by simpa using hc)]
  | .k k::r,ds,h,hc=>by simp at hc

theorem closeF_use {x:LV} {d:D} (h:closeF s x=some d) (hn:x.noCap=true) (hu:∀k∈x.keys,assoc s'.o k=assoc s.o k):closeF s' x=some d:=by
  cases x with
  | func f caps=>
    simp only[closeF] at h ⊢
    split at h <;> try cases h
    rename_i cs hcs
    rw[closeCaps_use hcs hn]
  | bsl k n sz=>cases hn
  | _=>
    simp only[closeF] at h ⊢
    exact closeL_use h hu

theorem closeFL_use:∀{cs:List LV} {ds:List D},closeFL s cs=some ds→cs.all LV.noCap=true→(∀k∈cs.flatMap LV.keys,assoc s'.o k=assoc s.o k)→closeFL s' cs=some ds
  | [],ds,h,_,_=>h
  | x::r,ds,h,hn,hu=>by
    unfold closeFL at h ⊢
    split at h <;> try cases h
    rename_i a b ha hb
    simp only[List.all_cons,Bool.and_eq_true] at hn
    rw[closeF_use ha hn.1 (fun k hk=>hu k (by simp[hk])),closeFL_use hb hn.2 (fun k hk=>hu k (by simp only[List.flatMap_cons,List.mem_append]; exact .inr hk))]

theorem closeV_use {x:AV} {c:CV} (h:closeV s x=some c) (hn:x.noCap=true) (hu:∀k∈x.keys,assoc s'.o k=assoc s.o k):closeV s' x=some c:=by
  cases x with
  | tup _=>cases h
  | agg cs=>
    simp only[closeV] at h ⊢
    split at h <;> try cases h
    rename_i ds hds
    rw[closeFL_use hds hn hu]
  | l y=>
    cases y with
    | dptr _ _=>exact h
    | _=>
      simp only[closeV] at h ⊢
      split at h <;> try cases h
      rename_i d hd
      rw[closeF_use hd hn hu]

theorem closeVs_use:∀{xs:List AV} {cs:List CV},closeVs s xs=some cs→xs.all AV.noCap=true→(∀k∈xs.flatMap AV.keys,assoc s'.o k=assoc s.o k)→closeVs s' xs=some cs
  | [],cs,h,_,_=>h
  | x::r,cs,h,hn,hu=>by
    unfold closeVs at h ⊢
    split at h <;> try cases h
    rename_i a b ha hb
    simp only[List.all_cons,Bool.and_eq_true] at hn
    rw[closeV_use ha hn.1 (fun k hk=>hu k (by simp[hk])),closeVs_use hb hn.2 (fun k hk=>hu k (by simp only[List.flatMap_cons,List.mem_append]; exact .inr hk))]

/-- The states agree on all that the operation looks at. -/
structure Agree (ops:Array Oper) (o:Oper) (use:List Nat) (s s':St):Prop where
  t:∀t∈o.looksAt ops,getT s'.t t=getT s.t t
  n:s'.n=s.n
  up:s'.up.length=s.up.length
  b:∀k∈use,assoc s'.b k=assoc s.b k
  o:∀k∈use,assoc s'.o k=assoc s.o k

theorem Agree.eval {us:List Nat} (h:Agree ops o us s s'):∀x∈o.op.operands,s'.eval x=s.eval x:=by
  intro x hx
  cases x with
  | tmp t=>
    refine h.t t ?_
    unfold Oper.looksAt
    exact List.mem_append_left _ (List.mem_filterMap.2 ⟨.tmp t,by simpa using hx,rfl⟩)
  | _=>rfl

theorem stepE_agree (h:stepE P T o s ef) (ha:Agree ops o ef.use s s'):stepE P T o s' ef:=by
  unfold stepE at h ⊢
  refine⟨by rw[ha.n]; exact h.1,?_⟩
  have he:=ha.eval
  have h:=h.2
  have hkey:keyOf s' o.dst=keyOf s o.dst:=by unfold keyOf; rw[ha.up]
  split
  · rename_i f args ats ho
    rw[ho] at h
    simp only at h
    obtain⟨g,xs,cargs,rs,h1,h2,h3,h4,h5,rfl⟩:=h
    have hf:s'.eval f=s.eval f:=he f (by rw[ho]; simp[Op.operands,Call.operands])
    have hargs:args.toList.map s'.eval=args.toList.map s.eval:=List.map_congr_left fun x hx=>he x (by rw[ho]; simp only[Op.operands,Call.operands,Array.mem_append]; exact .inr (Array.mem_toList_iff.1 hx))
    rw[hf,hargs]
    exact⟨g,xs,cargs,rs,h1,h2,closeVs_use h3 h4 (fun k hk=>ha.o k hk),h4,h5,rfl⟩
  · rename_i t x v ho
    rw[ho] at h
    simp only at h
    obtain⟨k,off,i,cs,old,h0,h1,h2,h3,h4,h5,h6,h7,rfl⟩:=h
    have hx:s'.eval x=s.eval x:=he x (by rw[ho]; simp[Op.operands])
    have hv:s'.eval v=s.eval v:=he v (by rw[ho]; simp[Op.operands])
    exact⟨k,off,i,cs,old,h0,by rw[hx]; exact h1,h2,by rw[hv]; exact h3,h4,h5,by rw[ha.b k (by simp)]; exact h6,h7,rfl⟩
  · rename_i hne hns
    have h':effK T o s.eval (assoc s.b) (assoc s.o) (keyOf s o.dst) fun e=>e=ef:=by
      split at h
      · rename_i f args ats ho; exact absurd ho (hne f args ats)
      · rename_i t x v ho; exact absurd ho (hns t x v)
      · exact h
    rw[hkey]
    exact effK_use (effK_ops he h') fun k hk=>⟨ha.b k hk,ha.o k hk⟩

theorem stepG_agree (h:stepG P T ops o s ef) (ha:Agree ops o ef.use s s'):stepG P T ops o s' ef:=by
  unfold stepG at h ⊢
  split at h
  · rename_i hg; exact stepE_agree h ha
  · rename_i j want hg
    obtain⟨d,h1,h⟩:=h
    have hget:s'.get d=s.get d:=by
      show getT s'.t d=_
      rw[ha.t d (by unfold Oper.looksAt; rw[hg]; simp only; rw[h1]; exact List.mem_append_right _ (by simp))]
      rfl
    refine⟨d,h1,?_⟩
    rw[hget,ha.n]
    rcases h with ⟨b,h2,h3⟩ | h
    · refine .inl ⟨b,h2,?_⟩
      rcases h3 with ⟨hb,h3⟩ | ⟨hb,hd,he⟩
      · exact .inl ⟨hb,stepE_agree h3 ha⟩
      · exact .inr ⟨hb,hd,he⟩
    · exact .inr h

theorem resAV_on (k:Nat) (rs:List CV):(resAV rs).on k=false:=by
  have h1:∀c:CV,c.av.on1 k=false:=fun c=>by
    cases c with
    | d x=>rfl
    | agg xs=>simp[CV.av,AV.on1,LV.on]
    | dp cs=>rfl
  have h2:∀c:CV,c.av.on k=false:=fun c=>by
    cases c with
    | d x=>rfl
    | agg xs=>simp[CV.av,AV.on,AV.on1,LV.on]
    | dp cs=>rfl
  unfold resAV
  split
  · exact h2 _
  · simp only[AV.on,List.any_eq_false]
    intro x hx
    obtain⟨c,_,rfl⟩:=List.mem_map.1 hx
    rw[h1 c]; exact Bool.false_ne_true

theorem stepG_free (hT:TabOk P T) {k:Nat} (h:stepG P T ops o s ef) (hf:Free k s) (hk:keyOf s o.dst≠k):EffFree k ef:=by
  have plain:∀v us,v.on k=false→EffFree k { v:=v,use:=us }:=fun v us h=>⟨h,(fun j cs e=>by cases e),(fun j x e=>by cases e)⟩
  have main:stepE P T o s ef→EffFree k ef:=by
    intro h
    unfold stepE at h
    have h:=h.2
    split at h
    · obtain⟨g,xs,cargs,rs,_,_,_,_,_,rfl⟩:=h
      exact plain _ _ (resAV_on k rs)
    · obtain⟨k',off,i,cs,old,_,_,_,h3,_,_,h6,_,rfl⟩:=h
      refine⟨rfl,fun j c e=>?_,fun j x e=>by cases e⟩
      cases e
      refine⟨fun e=>?_,fun y hy=>?_⟩
      · subst e; rw[hf.nb] at h6; cases h6
      unfold splice at hy
      rcases List.mem_append.1 hy with hy | hy
      · rcases List.mem_append.1 hy with hy | hy
        · exact hf.b _ _ h6 y (List.mem_of_mem_take hy)
        · exact cellsV_on h3 (eval_on hf _) y hy
      · exact hf.b _ _ h6 y (List.mem_of_mem_drop hy)
    · exact effK_free hT h (fun x=>eval_on hf x) hf.b hk
  unfold stepG at h
  split at h
  · exact main h
  · obtain⟨d,_,h⟩:=h
    rcases h with ⟨b,_,h3⟩ | ⟨_,_,rfl⟩
    · rcases h3 with ⟨_,h3⟩ | ⟨_,_,rfl⟩
      · exact main h3
      · exact plain _ _ rfl
    · exact plain _ _ rfl

/-- Soundness of one operation. -/
theorem stepG_sound (hT:TabOk P T) (h:Rel w0 p0 p σ s tm ups w) {Q:Exit→Act→World→Prop} {i:Nat} (hi:ops[i]?=some o) (hs:stepG P T ops o s ef) (hf:Oper.makes o=true→Free (keyOf s o.dst) s) {K:St→Prop} (hk:K (s.apply o.dst ef)) :
    wpOp P ops Q i (NextOk w0 p0 ups K) ⟨tm,[]⟩ w:=by
  have main:stepE P T o s ef→o.wp P ⟨tm,[]⟩ w (NextOk w0 p0 ups K) Q:=by
    intro hs
    unfold stepE at hs
    obtain⟨hd,hs⟩:=hs
    have hd:=dstLt_spec hd
    split at hs
    · rename_i f args ats ho
      obtain⟨g,xs,cargs,rs,h1,h2,h3,h4,h5,rfl⟩:=hs
      refine call_sound h hd ho ?_
      have hc:ACall P g (args.toList.map s.eval++xs) s fun r s'=>s'.n=s.n∧K (s'.put o.dst r):=by
        rcases h5 with h5 | h5
        · exact ACall.scalar h2 h3 (fun r e=>by rw[e]; exact h5) fun r e=>by rw[e]; exact⟨rfl,hk⟩
        · exact ACall.closed h2 h3 h5 fun r e=>by rw[e]; exact⟨rfl,hk⟩
      unfold calleeV at h1
      split at h1
      · rename_i g' he; cases h1; rw[he]; exact hc
      · rename_i g' caps he; cases h1; rw[he]; exact hc
      · cases h1
    · rename_i t x v ho
      obtain⟨k,off,i,cs,old,h0,h1,h2,h3,h4,h5,h6,h7,rfl⟩:=hs
      obtain⟨s',w',e,_,hr,hrel⟩:=sound_store (ds:=[]) (K:=fun s'=>s'=s.setBox k (splice old off cs)) hT h hd t x v ho (by
        unfold storeK
        simp only[h1,h2,h3,h6]
        exact⟨h4,h5,h7,trivial⟩)
      subst e
      unfold Oper.wp
      rw[hr,Oper.upon_skip]
      have hp:(Act.put ⟨tm,[]⟩ o.dst undef)=⟨tm,[]⟩:=by rw[h0]; rfl
      rw[hp]
      refine⟨rfl,_,p,σ,hk,hrel.same ?_⟩
      rw[h0]
      refine⟨fun _=>rfl,rfl,(St.Same.refl s).up,fun q=>?_,fun _=>rfl⟩
      show assoc (setAssoc s.b k _) q=assoc (ins s.b k _) q
      rw[assoc_setAssoc,assoc_ins]
      by_cases e:q=k
      · subst e; rw[if_pos rfl,if_pos rfl,h6]; rfl
      · rw[if_neg e,if_neg e]
    · obtain⟨ef',rfl,v,w',σ',hr,hrel⟩:=effK_sound (ds:=[]) hT h hd hf hs
      unfold Oper.wp
      rw[hr,Oper.upon_value]
      exact⟨by cases o.dst <;> rfl,_,p,σ',hk,hrel⟩
  unfold wpOp
  simp only[hi]
  unfold stepG at hs
  split at hs
  · rename_i hg
    rw[if_pos (by simp[Region.wanted,hg])]
    exact .inl (main hs)
  · rename_i j want hg
    obtain⟨d,h1,hs⟩:=hs
    rcases hs with ⟨b,h2,h3⟩ | ⟨h2,hd,rfl⟩
    case inr=>
      have hyl:yielded ops tm j=none:=by
        unfold yielded
        rw[h1]
        have hu:tm.getD d undef=undef:=by
          have:=h.t.2 d
          have e:getT s.t d=.l .und:=h2
          rw[e] at this
          exact this
        simp only[Option.bind_some]
        cases htd:tm[d]? with
        | none=>rfl
        | some v=>
          rw[Array.getD_eq_getD_getElem?,htd] at hu
          have hv:v=undef:=hu
          subst hv; rfl
      have hw:¬Region.wanted o (yielded ops tm)=true:=by
        simp only[Region.wanted,hg,hyl]
        intro e
        cases e
      rw[if_neg hw]
      have h2:=h.put o.dst (.l .und) undef (dstLt_spec hd) rfl []
      rw[put_tmps]
      exact⟨rfl,_,p,σ,hk,h2⟩
    have hyl:yielded ops tm j=some b:=by
      unfold yielded
      rw[h1]
      simp only[Option.bind_some,bool_at h h2]
    rcases h3 with ⟨hb,h3⟩ | ⟨hb,hd,rfl⟩
    · rw[if_pos (by simp only[Region.wanted,hg,hyl,hb]; exact beq_self_eq_true _)]
      exact .inl (main h3)
    · rw[if_neg (by simp only[Region.wanted,hg,hyl,hb]; cases want <;> decide)]
      have h2:=h.put o.dst (.l .und) undef (dstLt_spec hd) rfl []
      rw[put_tmps]
      exact⟨rfl,_,p,σ,hk,h2⟩

end
end Go.VC
namespace Go.VC
open Go.RowKit (Below)

section
variable {P:Program} {T:TypeId→Option TI} {w0:World} {p0 p p':Nat→Prop} {σ:Nat→Value} {s s' s0:St} {tm:Array Value} {ups:List (Array Value)} {w w':World} {ops:Array Oper} {o:Oper} {ef:Eff}

theorem getT_apply (s:St) (d:Option Nat) (e:Eff) (t:Nat):getT (s.apply d e).t t=if d=some t then e.v else getT s.t t:=by
  have h0:∀s:St,getT (s.put d e.v).t t=if d=some t then e.v else getT s.t t:=by
    intro s
    cases d with
    | none=>simp[St.put]
    | some d=>
      simp only[St.put,getT_setT,Option.some.injEq]
      by_cases h:t=d
      · simp[h]
      · rw[if_neg h,if_neg (fun e=>h e.symm)]
  unfold St.apply
  rw[h0]
  obtain⟨v,nb,no,eat,us⟩:=e
  cases nb <;> cases no <;> cases eat <;> rfl

theorem n_apply (s:St) (d:Option Nat) (e:Eff):(s.apply d e).n=s.n:=by
  unfold St.apply
  obtain⟨v,nb,no,eat,us⟩:=e
  cases nb <;> cases no <;> cases eat <;> cases d <;> rfl
theorem up_apply (s:St) (d:Option Nat) (e:Eff):(s.apply d e).up=s.up:=by
  unfold St.apply
  obtain⟨v,nb,no,eat,us⟩:=e
  cases nb <;> cases no <;> cases eat <;> cases d <;> rfl

theorem b_apply (s:St) (d:Option Nat) (e:Eff) (k:Nat):assoc (s.apply d e).b k=match e.nb with | some (j,cs)=>if k=j then some cs else assoc s.b k | none=>assoc s.b k:=by
  unfold St.apply
  obtain⟨v,nb,no,eat,us⟩:=e
  cases nb <;> cases no <;> cases eat <;> cases d <;> simp only[St.put,St.addBox,St.addOwn,St.eatO,assoc_ins]

theorem o_apply (s:St) (d:Option Nat) (e:Eff) (k:Nat):assoc (s.apply d e).o k=match e.no with
    | some (j,x)=>if k=j then some x else (match e.eat with | some q=>if k=q then none else assoc s.o k | none=>assoc s.o k)
    | none=>(match e.eat with | some q=>if k=q then none else assoc s.o k | none=>assoc s.o k):=by
  unfold St.apply
  obtain⟨v,nb,no,eat,us⟩:=e
  cases nb <;> cases no <;> cases eat <;> cases d <;> simp only[St.put,St.addBox,St.addOwn,St.eatO,assoc_ins,assoc_erase]

theorem St.Same.apply (h:s.Same s') (d:Option Nat) (e:Eff):(s.apply d e).Same (s'.apply d e):=by
  refine⟨fun i=>by rw[getT_apply,getT_apply,h.t],by rw[n_apply,n_apply,h.n],by rw[up_apply,up_apply]; exact h.up,fun k=>by rw[b_apply,b_apply,h.b],fun k=>by rw[o_apply,o_apply,h.o]⟩

theorem Free.apply {k:Nat} (h:Free k s) {d:Option Nat} {e:Eff} (he:EffFree k e):Free k (s.apply d e):=by
  refine⟨fun i=>?_,fun f hf i=>?_,fun j cs hj=>?_,?_,?_⟩
  · rw[getT_apply]; split; exact he.v; exact h.t i
  · rw[up_apply] at hf; exact h.up f hf i
  · rw[b_apply] at hj
    split at hj
    · rename_i j' cs' hnb
      split at hj
      · cases hj; exact (he.nb _ _ hnb).2
      · exact h.b j cs hj
    · exact h.b j cs hj
  · rw[b_apply]
    split
    · rename_i j' cs' hnb
      rw[if_neg (fun e=>(he.nb _ _ hnb).1 e.symm)]; exact h.nb
    · exact h.nb
  · rw[o_apply]
    have h2:(match e.eat with | some q=>if k=q then none else assoc s.o k | none=>assoc s.o k)=none:=by
      rw[h.no]
      split
      · split <;> rfl
      · rfl
    split
    · rename_i j' x hno
      rw[if_neg (fun e=>he.no _ _ hno e.symm)]; exact h2
    · exact h2

/-- Two effects that may come in either order. -/
structure Apart (d1:Option Nat) (e1:Eff) (d2:Option Nat) (e2:Eff):Prop where
  d:∀t,d1=some t→d2≠some t
  nb:∀j cs j' cs',e1.nb=some (j,cs)→e2.nb=some (j',cs')→j≠j'
  no:∀j x j' x',e1.no=some (j,x)→e2.no=some (j',x')→j≠j'
  eat1:∀q j x,e1.eat=some q→e2.no=some (j,x)→q≠j
  eat2:∀q j x,e2.eat=some q→e1.no=some (j,x)→q≠j

theorem apply_comm {d1 d2:Option Nat} {e1 e2:Eff} (h:Apart d1 e1 d2 e2) (s:St):((s.apply d1 e1).apply d2 e2).Same ((s.apply d2 e2).apply d1 e1):=by
  refine⟨fun i=>?_,by simp only[n_apply],by simp only[up_apply]; exact (St.Same.refl s).up,fun k=>?_,fun k=>?_⟩
  · rw[getT_apply,getT_apply,getT_apply,getT_apply]
    by_cases h1:d1=some i
    · rw[if_neg (h.d i h1),if_pos h1,if_pos h1]
    · simp only[h1,if_false]
  · rw[b_apply,b_apply,b_apply,b_apply]
    cases h1:e1.nb with
    | none=>rfl
    | some x=>
      obtain⟨j,cs⟩:=x
      cases h2:e2.nb with
      | none=>rfl
      | some y=>
        obtain⟨j',cs'⟩:=y
        have hne:=h.nb _ _ _ _ h1 h2
        simp only
        by_cases c1:k=j
        · by_cases c2:k=j'
          · exact absurd (c1.symm.trans c2) hne
          · simp only[c1,if_true]
            rw[if_neg (fun e=>hne e)]
        · simp only[c1,if_false]
  · rw[o_apply,o_apply,o_apply,o_apply]
    cases h1:e1.no with
    | none=>
      cases h2:e2.no with
      | none=>
        cases h3:e1.eat <;> cases h4:e2.eat <;> simp only
        rename_i q q'
        by_cases c1:k=q <;> by_cases c2:k=q' <;> simp[c1,c2]
      | some y=>
        obtain⟨j',x'⟩:=y
        cases h3:e1.eat with
        | none=>rfl
        | some q=>
          have hne:=h.eat1 _ _ _ h3 h2
          simp only
          by_cases c1:k=j'
          · rw[if_pos c1,if_pos c1]
            rw[if_neg (fun e=>hne (e.symm.trans c1))]
          · rw[if_neg c1,if_neg c1]
            cases h4:e2.eat <;> simp only
            rename_i q'
            by_cases c3:k=q <;> by_cases c2:k=q' <;> simp[c3,c2]
    | some x=>
      obtain⟨j,x⟩:=x
      cases h2:e2.no with
      | none=>
        cases h4:e2.eat with
        | none=>rfl
        | some q=>
          have hne:=h.eat2 _ _ _ h4 h1
          simp only
          by_cases c1:k=j
          · rw[if_pos c1,if_pos c1]
            rw[if_neg (fun e=>hne (e.symm.trans c1))]
          · rw[if_neg c1,if_neg c1]
            cases h3:e1.eat <;> simp only
            rename_i q'
            by_cases c3:k=q <;> by_cases c2:k=q' <;> simp[c3,c2]
      | some y=>
        obtain⟨j',x'⟩:=y
        have hne:=h.no _ _ _ _ h1 h2
        simp only
        by_cases c1:k=j
        · by_cases c2:k=j'
          · exact absurd (c1.symm.trans c2) hne
          · rw[if_neg c2,if_pos c1,if_pos c1]
            cases h4:e2.eat with
            | none=>rfl
            | some q=>
              have h5:=h.eat2 _ _ _ h4 h1
              simp only
              rw[if_neg (fun e=>h5 (e.symm.trans c1))]
        · by_cases c2:k=j'
          · rw[if_pos c2,if_neg c1,if_pos c2]
            cases h3:e1.eat with
            | none=>rfl
            | some q=>
              have h5:=h.eat1 _ _ _ h3 h2
              simp only
              rw[if_neg (fun e=>h5 (e.symm.trans c2))]
          · rw[if_neg c2,if_neg c1,if_neg c1,if_neg c2]
            cases h3:e1.eat <;> cases h4:e2.eat <;> simp only
            rename_i q q'
            by_cases c3:k=q <;> by_cases c4:k=q' <;> simp[c3,c4]

/-! ### All that have come up so far, in the text's order -/
def foldX (ops:Array Oper) (efs:List Eff) (X:Nat→Prop) [DecidablePred X]:Nat→St→St
  | 0,s=>s
  | k+1,s=>if X k then (match ops[k]?,efs[k]? with | some o,some e=>(foldX ops efs X k s).apply o.dst e | _,_=>foldX ops efs X k s) else foldX ops efs X k s

theorem foldX_congr {efs:List Eff} {X Y:Nat→Prop} [DecidablePred X] [DecidablePred Y]:∀{k:Nat} {s:St},(∀j,j<k→(X j↔Y j))→foldX ops efs X k s=foldX ops efs Y k s
  | 0,s,_=>rfl
  | k+1,s,h=>by
    unfold foldX
    rw[foldX_congr (k:=k) (fun j hj=>h j (by omega))]
    by_cases c:X k
    · rw[if_pos c,if_pos ((h k (by omega)).1 c)]
    · rw[if_neg c,if_neg (fun e=>c ((h k (by omega)).2 e))]

/-- Must i come up ahead of j? -/
inductive Pre (ops:Array Oper):Nat→Nat→Prop
  | edge {i j:Nat} {o:Oper} {e:Edge}:ops[j]?=some o→e∈o.after→Region.binds .any e=true→e.on=i→Pre ops i j
  | trans {i j k:Nat}:Pre ops i j→Pre ops j k→Pre ops i k

theorem Pre.down {X:Nat→Prop} (hX:∀j o,X j→ops[j]?=some o→∀e∈o.after,Region.binds .any e=true→X e.on) {i j:Nat} (h:Pre ops i j) (hj:X j):X i:=by
  induction h with
  | edge h1 h2 h3 h4=>rw[←h4]; exact hX _ _ hj h1 _ h2 h3
  | trans _ _ ih1 ih2=>exact ih1 (ih2 hj)

/-- What must be so of the first m operations, that may come up in any order. -/
structure DrawOk (ops:Array Oper) (efs:List Eff) (m up:Nat):Prop where
  len:efs.length=m
  mle:m≤ops.size
  edge:∀j o,ops[j]?=some o→∀e∈o.after,Region.binds .any e=true→e.on<j
  tail:∀i j,i<j→m≤j→j<ops.size→Pre ops i j
  pair:∀i j oi oj ei ej,i<j→j<m→¬Pre ops i j→ops[i]?=some oi→ops[j]?=some oj→efs[i]?=some ei→efs[j]?=some ej →
    oi.apart ops oj=true∧(∀q,ej.eat=some q→q ∉ ei.use)∧(∀q,ei.eat=some q→q ∉ ej.use)∧(∀k c,ei.nb=some (k,c)→k ∉ ej.use)∧(∀k c,ej.nb=some (k,c)→k ∉ ei.use) ∧
      (∀k c,ei.no=some (k,c)→k ∉ ej.use)∧(∀k c,ej.no=some (k,c)→k ∉ ei.use)∧Apart oi.dst ei oj.dst ej
  dst:∀i j oi oj,i<m→j<m→i≠j→ops[i]?=some oi→ops[j]?=some oj→Oper.makes oi=true→(oi.dst.isSome∧oi.dst≠oj.dst)

theorem Pre.lt {efs:List Eff} {m up:Nat} (hd:DrawOk ops efs m up) {i j:Nat} (h:Pre ops i j):i<j:=by
  induction h with
  | edge h1 h2 h3 h4=>rw[←h4]; exact hd.edge _ _ h1 _ h2 h3
  | trans _ _ ih1 ih2=>omega

/-- An operation's effect touches nothing that another one looks at. -/
def Off (ops:Array Oper) (o:Oper) (use:List Nat) (d:Option Nat) (e:Eff):Prop:=
  (∀t,d=some t→t ∉ o.looksAt ops)∧(∀k c,e.nb=some (k,c)→k ∉ use)∧(∀k c,e.no=some (k,c)→k ∉ use)∧∀q,e.eat=some q→q ∉ use

theorem Agree.refl (ops:Array Oper) (o:Oper) (us:List Nat) (s:St):Agree ops o us s s:=⟨fun _ _=>rfl,rfl,rfl,fun _ _=>rfl,fun _ _=>rfl⟩
theorem Agree.symm {us:List Nat} (h:Agree ops o us s s'):Agree ops o us s' s:=⟨fun t ht=>(h.t t ht).symm,h.n.symm,h.up.symm,fun k hk=>(h.b k hk).symm,fun k hk=>(h.o k hk).symm⟩
theorem Agree.trans {us:List Nat} {s'':St} (h:Agree ops o us s s') (h':Agree ops o us s' s''):Agree ops o us s s'':=⟨fun t ht=>(h'.t t ht).trans (h.t t ht),h'.n.trans h.n,h'.up.trans h.up,fun k hk=>(h'.b k hk).trans (h.b k hk),fun k hk=>(h'.o k hk).trans (h.o k hk)⟩
theorem Agree.same {us:List Nat} (h:s.Same s'):Agree ops o us s s':=⟨fun t _=>(h.t t).symm,h.n.symm,h.up.1.symm,fun k _=>(h.b k).symm,fun k _=>(h.o k).symm⟩

theorem Agree.off {us:List Nat} {d:Option Nat} {e:Eff} (h:Off ops o us d e) (s:St):Agree ops o us s (s.apply d e):=by
  refine⟨fun t ht=>?_,n_apply _ _ _,by rw[up_apply],fun k hk=>?_,fun k hk=>?_⟩
  · rw[getT_apply,if_neg (fun e=>h.1 t e ht)]
  · rw[b_apply]
    split
    · rename_i j cs hnb; rw[if_neg (fun e'=>h.2.1 _ _ hnb (by rw[←e']; exact hk))]
    · rfl
  · rw[o_apply]
    have h2:(match e.eat with | some q=>if k=q then none else assoc s.o k | none=>assoc s.o k)=assoc s.o k:=by
      split
      · rename_i q hq; rw[if_neg (fun e'=>h.2.2.2 _ hq (by rw[←e']; exact hk))]
      · rfl
    split
    · rename_i j x hno; rw[if_neg (fun e'=>h.2.2.1 _ _ hno (by rw[←e']; exact hk))]; exact h2
    · exact h2

theorem Agree.both {us:List Nat} (h:Agree ops o us s s') (d:Option Nat) (e:Eff):Agree ops o us (s.apply d e) (s'.apply d e):=by
  refine⟨fun t ht=>by rw[getT_apply,getT_apply,h.t t ht],by rw[n_apply,n_apply,h.n],by rw[up_apply,up_apply,h.up],fun k hk=>by rw[b_apply,b_apply,h.b k hk],fun k hk=>by rw[o_apply,o_apply,h.o k hk]⟩

theorem fold_agree {efs:List Eff} {X Y:Nat→Prop} [DecidablePred X] [DecidablePred Y] {us:List Nat}:∀{k:Nat},(∀j oj ej,j<k→¬(X j↔Y j)→ops[j]?=some oj→efs[j]?=some ej→Off ops o us oj.dst ej) →
    Agree ops o us (foldX ops efs X k s) (foldX ops efs Y k s)
  | 0,_=>Agree.refl _ _ _ _
  | k+1,h=>by
    have ih:=fold_agree (k:=k) fun j oj ej hj=>h j oj ej (by omega)
    unfold foldX
    cases ho:ops[k]? with
    | none=>simp only; split <;> split <;> exact ih
    | some ok=>
      cases he:efs[k]? with
      | none=>simp only; split <;> split <;> exact ih
      | some ek=>
        simp only
        by_cases c1:X k <;> by_cases c2:Y k
        · rw[if_pos c1,if_pos c2]; exact ih.both _ _
        · rw[if_pos c1,if_neg c2]
          exact (Agree.off (h k ok ek (by omega) (fun e=>c2 (e.1 c1)) ho he) _).symm.trans ih
        · rw[if_neg c1,if_pos c2]
          exact ih.trans (Agree.off (h k ok ek (by omega) (fun e=>c1 (e.2 c2)) ho he) _)
        · rw[if_neg c1,if_neg c2]; exact ih

theorem up_fold {efs:List Eff} {X:Nat→Prop} [DecidablePred X]:∀{k:Nat} {s:St},(foldX ops efs X k s).up=s.up
  | 0,s=>rfl
  | k+1,s=>by
    unfold foldX
    split
    · split
      · rw[up_apply]; exact up_fold
      · exact up_fold
    · exact up_fold

theorem Free.fold {efs:List Eff} {X:Nat→Prop} [DecidablePred X] {q:Nat} (h:Free q s):∀{k:Nat},(∀j ej,j<k→X j→efs[j]?=some ej→EffFree q ej)→Free q (foldX ops efs X k s)
  | 0,_=>h
  | k+1,hf=>by
    have ih:=h.fold (k:=k) fun j ej hj=>hf j ej (by omega)
    unfold foldX
    split
    · rename_i c
      split
      · rename_i o e ho he
        exact ih.apply (hf k e (by omega) c he)
      · exact ih
    · exact ih

end
end Go.VC
namespace Go.VC
open Go.RowKit (Below)

section
variable {P:Program} {T:TypeId→Option TI} {w0:World} {p0 p p':Nat→Prop} {σ:Nat→Value} {s s' s0:St} {tm:Array Value} {ups:List (Array Value)} {w w':World} {ops:Array Oper} {o:Oper} {ef:Eff} {efs:List Eff} {m up:Nat}

/-- Each operation, behind all that stand ahead of it in the text. -/
def Chain (P:Program) (T:TypeId→Option TI) (ops:Array Oper) (efs:List Eff) (m:Nat) (s0:St):Prop:=
  ∀i o e,i<m→ops[i]?=some o→efs[i]?=some e→stepG P T ops o (foldX ops efs (fun j=>j<i) m s0) e

def Down (ops:Array Oper) (X:Nat→Prop):Prop:=∀j o,X j→ops[j]?=some o→∀e∈o.after,Region.binds .any e=true→X e.on

theorem pair_off (hd:DrawOk ops efs m up) {i j:Nat} {oi oj:Oper} {ei ej:Eff} (hi:i<m) (hj:j<m) (hij:i≠j) (hn:¬Pre ops i j) (hn':¬Pre ops j i) (hoi:ops[i]?=some oi) (hoj:ops[j]?=some oj) (hei:efs[i]?=some ei) (hej:efs[j]?=some ej) :
    Off ops oi ei.use oj.dst ej:=by
  rcases Nat.lt_or_gt_of_ne hij with h | h
  · obtain⟨h1,h2,h3,h4,h5,h6,h7,h8⟩:=hd.pair i j oi oj ei ej h hj hn hoi hoj hei hej
    obtain⟨a,b,c⟩:=Oper.apart_spec h1
    exact⟨c,h5,h7,h2⟩
  · obtain⟨h1,h2,h3,h4,h5,h6,h7,h8⟩:=hd.pair j i oj oi ej ei h hi hn' hoj hoi hej hei
    obtain⟨a,b,c⟩:=Oper.apart_spec h1
    exact⟨a,h4,h6,h3⟩

theorem step_at (hd:DrawOk ops efs m up) (hc:Chain P T ops efs m s0) {X:Nat→Prop} [DecidablePred X] (hX:Down ops X) {i:Nat} (hi:i<m) (hxi:¬X i) (hpre:∀j,Pre ops j i→X j) (ho:ops[i]?=some o) (he:efs[i]?=some ef) :
    stepG P T ops o (foldX ops efs X m s0) ef:=by
  refine stepG_agree (hc i o ef hi ho he) (fold_agree fun j oj ej hj hne hoj hej=>?_)
  have hji:j≠i:=by
    intro e; subst e
    exact hne ⟨fun h=>absurd h (Nat.lt_irrefl _),fun h=>absurd h hxi⟩
  have h1:¬Pre ops i j:=by
    intro h
    by_cases c:X j
    · exact hxi (h.down hX c)
    · have:=h.lt hd
      exact hne ⟨fun h'=>by omega,fun h'=>absurd h' c⟩
  have h2:¬Pre ops j i:=by
    intro h
    have:=h.lt hd
    exact hne ⟨fun _=>hpre j h,fun _=>this⟩
  exact pair_off hd hi hj (Ne.symm hji) h1 h2 ho hoj he hej

theorem keyOf_fold {X:Nat→Prop} [DecidablePred X] (d:Option Nat):keyOf (foldX ops efs X m s0) d=keyOf s0 d:=by
  unfold keyOf; rw[up_fold]

open Classical in
/-- What does not wait for an operation that makes something does not name what it makes. -/
theorem eff_free (hT:TabOk P T) (hd:DrawOk ops efs m up) (hc:Chain P T ops efs m s0) {i:Nat} {oi:Oper} (hi:i<m) (hoi:ops[i]?=some oi) (hm:Oper.makes oi=true) (hf:Free (keyOf s0 oi.dst) s0) :
    ∀(n j:Nat) (ej:Eff),j<n→j<m→j≠i→¬Pre ops i j→efs[j]?=some ej→EffFree (keyOf s0 oi.dst) ej
  | 0,j,_,h,_,_,_,_=>by omega
  | n+1,j,ej,hjn,hj,hji,hn,hej=>by
    have hoj:∃oj,ops[j]?=some oj:=⟨ops[j]'(Nat.lt_of_lt_of_le hj hd.mle),Array.getElem?_eq_getElem _⟩
    obtain⟨oj,hoj⟩:=hoj
    have hdown:Down ops (fun q=>Pre ops q j):=fun q o hq ho e he hb=>.trans (.edge ho he hb rfl) hq
    have hself:¬Pre ops j j:=fun h=>Nat.lt_irrefl _ (h.lt hd)
    have hs:=step_at hd hc (X:=fun q=>Pre ops q j) hdown hj hself (fun q h=>h) hoj hej
    refine stepG_free hT hs (hf.fold fun q eq _ hq heq=>?_) ?_
    · have hqj:=hq.lt hd
      refine eff_free hT hd hc hi hoi hm hf n q eq (by omega) (by omega) ?_ ?_ heq
      · intro e; subst e; exact hn hq
      · intro h; exact hn (.trans h hq)
    · rw[keyOf_fold]
      obtain⟨h1,h2⟩:=hd.dst i j oi oj hi hj (Ne.symm hji) hoi hoj hm
      obtain⟨d,hdd⟩:=some_of_isSome h1
      unfold keyOf
      rw[hdd] at h2 ⊢
      cases hdj:oj.dst with
      | none=>simp
      | some d'=>
        rw[hdj] at h2
        intro e
        dsimp only at e
        exact h2 (congrArg some (Nat.add_right_cancel (Nat.add_left_cancel e)).symm)

theorem fold_insert (hd:DrawOk ops efs m up) {X X':Nat→Prop} [DecidablePred X] [DecidablePred X'] (hX:Down ops X) {i:Nat} (hi:i<m) (hxi:¬X i) (ho:ops[i]?=some o) (he:efs[i]?=some ef) (hX':∀j,X' j↔(X j∨j=i)) :
    ∀k,i<k→k≤m→(foldX ops efs X' k s0).Same ((foldX ops efs X k s0).apply o.dst ef):=by
  intro k hk hkm
  induction k with
  | zero=>omega
  | succ k ih=>
    by_cases hik:k=i
    · subst hik
      unfold foldX
      rw[if_pos ((hX' k).2 (.inr rfl)),if_neg hxi,ho,he]
      simp only
      rw[foldX_congr (X:=X') (Y:=X) fun j hj=>by
        rw[hX']
        exact⟨fun h=>h.resolve_right (by omega),.inl⟩]
      exact St.Same.refl _
    · have ih:=ih (by omega) (by omega)
      unfold foldX
      by_cases c:X k
      · rw[if_pos ((hX' k).2 (.inl c)),if_pos c]
        cases hok:ops[k]? with
        | none=>exact ih
        | some ok=>
          cases hek:efs[k]? with
          | none=>exact ih
          | some ek=>
            simp only
            have hn:¬Pre ops i k:=fun h=>hxi (h.down hX c)
            have hp:=(hd.pair i k o ok ef ek (by omega) (by omega) hn ho hok he hek).2.2.2.2.2.2.2
            exact (ih.apply ok.dst ek).trans (apply_comm hp _)
      · rw[if_neg (fun h=>by
          rcases (hX' k).1 h with h | h
          · exact c h
          · exact hik h),if_neg c]
        exact ih

/-- One step of a plain run, as an operation of a region. -/
theorem vcOps_step (hT:TabOk P T) (h:Rel w0 p0 p σ s tm ups w) {q:Nat} {rest:List Oper} {K:St→Prop} {Q:Exit→Act→World→Prop} (ho:ops[q]?=some o) (he:vcOps P T ops (o::rest) s K) :
    wpOp P ops Q q (NextOk w0 p0 ups fun s'=>vcOps P T ops rest s' K) ⟨tm,[]⟩ w:=by
  unfold vcOps at he
  unfold wpOp
  simp only[ho]
  split at he
  · rename_i hg
    rw[if_pos (by simp[Region.wanted,hg])]
    exact .inl (vcOp_sound hT h he)
  · rename_i j want hg
    split at he <;> try exact he.elim
    rename_i d hdd
    split at he <;> try exact he.elim
    case h_2 hb=>
      have hyl:yielded ops tm j=none:=by
        unfold yielded
        rw[hdd]
        have hu:tm.getD d undef=undef:=by
          have:=h.t.2 d
          have e:getT s.t d=.l .und:=hb
          rw[e] at this
          exact this
        simp only[Option.bind_some]
        cases htd:tm[d]? with
        | none=>rfl
        | some v=>
          rw[Array.getD_eq_getD_getElem?,htd] at hu
          have hv:v=undef:=hu
          subst hv; rfl
      rw[if_neg (by simp only[Region.wanted,hg,hyl]; intro e; cases e)]
      obtain⟨hd,he⟩:=he
      have h2:=h.put o.dst (.l .und) undef (dstLt_spec (by exact hd)) rfl []
      rw[put_tmps]
      exact⟨rfl,_,p,σ,he,h2⟩
    rename_i b hb
    have hyl:yielded ops tm j=some b:=by
      unfold yielded
      rw[hdd]
      simp only[Option.bind_some,bool_at h hb]
    by_cases hbw:b=want
    · rw[if_pos (by simp only[Region.wanted,hg,hyl,hbw]; exact beq_self_eq_true _)]
      exact .inl (vcOp_sound hT (h.same (put_same (by rw[hb,hbw]))) (he.1 hbw))
    · have hbn:b=(!want):=by cases b <;> cases want <;> simp_all
      rw[if_neg (by simp only[Region.wanted,hg,hyl,hbn]; cases want <;> decide)]
      obtain⟨hd,he⟩:=he.2 hbn
      have h2:=(h.same (put_same (by rw[hb,hbn]))).put o.dst (.l .und) undef (dstLt_spec (by exact hd)) rfl []
      rw[put_tmps]
      exact⟨rfl,_,p,σ,he,h2⟩

def unl (N:Nat) (listed:Array Bool):Nat:=((List.range N).filter fun i=>!listed.getD i true).length

theorem filter_le {f g:Nat→Bool} (h:∀j,f j=true→g j=true):∀l:List Nat,(l.filter f).length≤(l.filter g).length
  | []=>Nat.le_refl _
  | a::l=>by
    have ih:=filter_le h l
    rw[List.filter_cons,List.filter_cons]
    by_cases c:f a=true
    · rw[if_pos c,if_pos (h a c)]; simp only[List.length_cons]; omega
    · rw[if_neg c]; split <;> (try simp only[List.length_cons]) <;> omega

theorem filter_lt {f g:Nat→Bool} {i:Nat} (h:∀j,f j=true→g j=true) (hf:f i=false) (hg:g i=true):∀{l:List Nat},i∈l→(l.filter f).length+1≤(l.filter g).length
  | a::l,hl=>by
    rw[List.filter_cons,List.filter_cons]
    by_cases e:a=i
    · subst e
      have:=filter_le h l
      rw[if_neg (by rw[hf]; exact Bool.false_ne_true),if_pos hg]
      simp only[List.length_cons]; omega
    · have ih:=filter_lt h hf hg ((List.mem_cons.1 hl).resolve_left (fun e'=>e e'.symm))
      by_cases c:f a=true
      · rw[if_pos c,if_pos (h a c)]; simp only[List.length_cons]; omega
      · rw[if_neg c]; split <;> (try simp only[List.length_cons]) <;> omega

theorem unl_set {N:Nat} {listed:Array Bool} {i:Nat} (hi:i<N) (h:listed.getD i true=false):unl N (listed.setIfInBounds i true)+1≤unl N listed:=by
  have hsz:i<listed.size:=by
    rcases Nat.lt_or_ge i listed.size with h' | h'
    · exact h'
    · rw[Array.getD_eq_getD_getElem?,Array.getElem?_eq_none h'] at h; cases h
  have hget:∀j,(listed.setIfInBounds i true).getD j true=if j=i then true else listed.getD j true:=by
    intro j
    rw[Array.getD_eq_getD_getElem?,Array.getD_eq_getD_getElem?,Array.getElem?_setIfInBounds]
    by_cases e:i=j
    · subst e; simp[hsz]
    · rw[if_neg e,if_neg (Ne.symm e)]
  unfold unl
  refine filter_lt (i:=i) (fun j hj=>?_) ?_ ?_ (List.mem_range.2 hi)
  · rw[hget] at hj
    split at hj
    · cases hj
    · exact hj
  · rw[hget,if_pos rfl]; rfl
  · rw[h]; rfl

theorem getD_set_true {listed:Array Bool} {i j:Nat} (b:Bool) (hi:i<listed.size):(listed.setIfInBounds i true).getD j b=if j=i then true else listed.getD j b:=by
  rw[Array.getD_eq_getD_getElem?,Array.getD_eq_getD_getElem?,Array.getElem?_setIfInBounds]
  by_cases e:i=j
  · subst e; simp[hi]
  · rw[if_neg e,if_neg (Ne.symm e)]

/-- THE THEOREM: whatever order is drawn. -/
theorem any_sound (hT:TabOk P T) (hd:DrawOk ops efs m up) (hc:Chain P T ops efs m s0) (hf:∀i o,i<m→ops[i]?=some o→Oper.makes o=true→Free (keyOf s0 o.dst) s0) {K:St→Prop} {Q:Exit→Act→World→Prop}
    {sN:St} (hsN:sN.Same (foldX ops efs (fun _=>True) m s0)) (hrest:vcOps P T ops (ops.toList.drop m) sN K) (hQ:∀a w,NextOk w0 p0 ups K a w→Q .normal a w) :
    ∀(fuel:Nat) (listed:Array Bool) {p:Nat→Prop} {σ:Nat→Value} {s:St} {tm:Array Value} {w:World},listed.size=ops.size→unl ops.size listed≤fuel→Down ops (fun i=>listed.getD i false=true)→Rel w0 p0 p σ s tm ups w →
      ((((∃i,i<m∧listed.getD i false=false)∧s.Same (foldX ops efs (fun i=>listed.getD i false=true) m s0)∧∀j,m≤j→listed.getD j false=false)) ∨
        ∃q,m≤q∧q≤ops.size∧(∀i,listed.getD i false=true↔i<q)∧vcOps P T ops (ops.toList.drop q) s K) →
      wpAny P .any ops Q fuel listed ⟨tm,[]⟩ w:=by
  -- all that an unlisted operation must have ahead of it
  have bf:∀(listed:Array Bool) (i:Nat),listed.size=ops.size→i<ops.size→(listed.getD i true=false↔listed.getD i false=false):=by
    intro listed i hs hi
    rw[Array.getD_eq_getD_getElem?,Array.getD_eq_getD_getElem?,Array.getElem?_eq_getElem (by omega)]
    simp
  have ready_spec:∀(listed:Array Bool) (i:Nat),listed.size=ops.size→Down ops (fun i=>listed.getD i false=true)→i∈Region.ready .any ops listed→i<ops.size∧listed.getD i false=false∧∃o,ops[i]?=some o∧(∀e∈o.after,Region.binds .any e=true→listed.getD e.on false=true)∧∀j,Pre ops j i→listed.getD j false=true:=by
    intro listed i hs hdn hi
    obtain⟨h1,oi,h2,h3⟩:=mem_ready.1 hi
    have hlt:i<ops.size:=(Array.getElem?_eq_some_iff.1 h2).1
    refine⟨hlt,(bf listed i hs hlt).1 h1,oi,h2,h3,fun j hj=>?_⟩
    have:∀{j k:Nat},Pre ops j k→k=i→listed.getD j false=true:=by
      intro j k hjk
      induction hjk with
      | edge g1 g2 g3 g4=>
        intro e
        subst e
        rw[h2] at g1; cases g1
        rw[←g4]; exact h3 _ g2 g3
      | trans g1 g2 ih1 ih2=>
        intro e
        exact g1.down (X:=fun i=>listed.getD i false=true) hdn (ih2 e)
    exact this hj rfl
  have exists_ready:∀(listed:Array Bool) (i:Nat),listed.size=ops.size→i<ops.size→listed.getD i false=false→Region.ready .any ops listed≠[]:=by
    intro listed i hs hi hl
    -- the smallest
    have:∀n i,i<n→i<ops.size→listed.getD i false=false→∃j,j∈Region.ready .any ops listed:=by
      intro n
      induction n with
      | zero=>intro i h; omega
      | succ n ih=>
        intro i hin hi hl
        by_cases c:∃j,j<i∧listed.getD j false=false
        · obtain⟨j,hj,hlj⟩:=c
          exact ih j (by omega) (by omega) hlj
        · refine⟨i,mem_ready.2 ⟨(bf listed i hs hi).2 hl,ops[i],Array.getElem?_eq_getElem hi,fun e he hb=>?_⟩⟩
          have:=hd.edge i _ (Array.getElem?_eq_getElem hi) e he hb
          cases hv:listed.getD e.on false with
          | true=>rfl
          | false=>exact absurd ⟨e.on,this,hv⟩ c
    obtain⟨j,hj⟩:=this (i+1) i (by omega) hi hl
    intro e
    rw[e] at hj; cases hj
  intro fuel
  induction fuel with
  | zero=>
    intro listed p σ s tm w hs hu hdn hrel hst
    have hall:∀i,i<ops.size→listed.getD i false=true:=by
      intro i hi
      cases hv:listed.getD i false with
      | true=>rfl
      | false=>
        have:=unl_set hi ((bf listed i hs hi).2 hv)
        omega
    have hnil:Region.ready .any ops listed=[]:=by
      cases hr:Region.ready .any ops listed with
      | nil=>rfl
      | cons i r=>
        obtain⟨h1,h2,_⟩:=ready_spec listed i hs hdn (by rw[hr]; exact List.mem_cons_self)
        rw[hall i h1] at h2; cases h2
    refine⟨hnil,?_⟩
    rcases hst with ⟨⟨i,hi,hl⟩,_⟩ | ⟨q,hq,hqN,hl,hv⟩
    · rw[hall i (Nat.lt_of_lt_of_le hi hd.mle)] at hl; cases hl
    · have:q=ops.size:=by
        rcases Nat.lt_or_ge q ops.size with h | h
        · have:=(hl q).1 (hall q h); omega
        · omega
      subst this
      rw[List.drop_eq_nil_of_le (by simp)] at hv
      exact hQ _ _ ⟨rfl,s,p,σ,hv,hrel⟩
  | succ fuel ih=>
    intro listed p σ s tm w hs hu hdn hrel hst
    refine⟨fun hnil=>?_,fun i hi=>?_⟩
    · rcases hst with ⟨⟨i,hi,hl⟩,_⟩ | ⟨q,hq,hqN,hl,hv⟩
      · exact absurd hnil (exists_ready listed i hs (Nat.lt_of_lt_of_le hi hd.mle) hl)
      · have:q=ops.size:=by
          rcases Nat.lt_or_ge q ops.size with h | h
          · have h2:listed.getD q false=false:=by
              cases hv:listed.getD q false with
              | false=>rfl
              | true=>have:=(hl q).1 hv; omega
            exact absurd hnil (exists_ready listed q hs h h2)
          · omega
        subst this
        rw[List.drop_eq_nil_of_le (by simp)] at hv
        exact hQ _ _ ⟨rfl,s,p,σ,hv,hrel⟩
    · obtain⟨hlt,hlf,oi,hoi,hedge,hpre⟩:=ready_spec listed i hs hdn hi
      have hs':(listed.setIfInBounds i true).size=ops.size:=by simpa using hs
      have hu':unl ops.size (listed.setIfInBounds i true)≤fuel:=by
        have:=unl_set hlt ((bf listed i hs hlt).2 hlf); omega
      have hdn':Down ops (fun j=>(listed.setIfInBounds i true).getD j false=true):=by
        intro j o hj ho e he hb
        simp only[getD_set_true false (show i<listed.size by omega)] at hj ⊢
        split at hj
        · rename_i e1
          subst e1
          rw[hoi] at ho; cases ho
          split
          · rfl
          · exact hedge e he hb
        · split
          · rfl
          · exact hdn j o hj ho e he hb
      rcases hst with ⟨⟨i0,hi0,hl0⟩,hsame,htail⟩ | ⟨q,hq,hqN,hl,hv⟩
      · have him:i<m:=by
          rcases Nat.lt_or_ge i m with h | h
          · exact h
          · have:=hpre i0 (hd.tail i0 i (by omega) h hlt)
            rw[hl0] at this; cases this
        have heff:∃e,efs[i]?=some e:=⟨efs[i]'(by rw[hd.len]; exact him),List.getElem?_eq_getElem _⟩
        obtain⟨ei,hei⟩:=heff
        have hxi:¬(listed.getD i false=true):=by rw[hlf]; exact Bool.false_ne_true
        have hstep:=step_at hd hc (X:=fun j=>listed.getD j false=true) hdn him hxi hpre hoi hei
        have hstep':stepG P T ops oi s ei:=stepG_agree hstep (Agree.same hsame.symm)
        have hkey:keyOf s oi.dst=keyOf s0 oi.dst:=by
          unfold keyOf
          rw[hsame.up.1,up_fold]
        have hfree:Oper.makes oi=true→Free (keyOf s oi.dst) s:=by
          intro hm
          rw[hkey]
          have h1:Free (keyOf s0 oi.dst) (foldX ops efs (fun j=>listed.getD j false=true) m s0):=by
            refine (hf i oi him hoi hm).fold fun j ej hj hx hej=>?_
            refine eff_free hT hd hc him hoi hm (hf i oi him hoi hm) (j+1) j ej (by omega) hj ?_ ?_ hej
            · intro e; subst e; exact hxi hx
            · intro h; exact hxi (h.down (X:=fun j=>listed.getD j false=true) hdn hx)
          exact⟨fun t=>by rw[hsame.t]; exact h1.t t,fun f hf' t=>by
            obtain⟨q,hq⟩:=List.getElem?_of_mem hf'
            obtain⟨g,hg,h2⟩:=hsame.up.get hq
            rw[h2.2 t]; exact h1.up g (List.mem_of_getElem? hg) t,fun j cs hj=>h1.b j cs (by rw[←hsame.b]; exact hj),by rw[hsame.b]; exact h1.nb,by rw[hsame.o]; exact h1.no⟩
        have hins:=fold_insert (s0:=s0) hd (X:=fun j=>listed.getD j false=true) (X':=fun j=>(listed.setIfInBounds i true).getD j false=true) hdn him hxi hoi hei (fun j=>by
          simp only[getD_set_true false (show i<listed.size by omega)]
          by_cases e:j=i
          · simp[e]
          · simp[e]) m him (Nat.le_refl _)
        refine wpOp_mono (fun a' w' ⟨hda,s',p',σ',hk,hrel'⟩=>?_) (stepG_sound hT hrel hoi hstep' hfree (K:=fun s'=>s'.Same (foldX ops efs (fun j=>(listed.setIfInBounds i true).getD j false=true) m s0)) ((hsame.apply oi.dst ei).trans hins.symm))
        obtain⟨t',d'⟩:=a'
        simp only at hda
        subst hda
        have htail':∀j,m≤j→(listed.setIfInBounds i true).getD j false=false:=by
          intro j hj
          rw[getD_set_true false (show i<listed.size by omega),if_neg (by omega)]
          exact htail j hj
        by_cases c:∃j,j<m∧(listed.setIfInBounds i true).getD j false=false
        · exact ih _ hs' hu' hdn' hrel' (.inl ⟨c,hk,htail'⟩)
        · have hall:∀j,j<m→(listed.setIfInBounds i true).getD j false=true:=by
            intro j hj
            cases hv:(listed.setIfInBounds i true).getD j false with
            | true=>rfl
            | false=>exact absurd ⟨j,hj,hv⟩ c
          have hk':s'.Same (foldX ops efs (fun _=>True) m s0):=by
            rw[foldX_congr (X:=fun j=>(listed.setIfInBounds i true).getD j false=true) (Y:=fun _=>True) (fun j hj=>⟨fun _=>trivial,fun _=>hall j hj⟩)] at hk
            exact hk
          refine ih _ hs' hu' hdn' (hrel'.same (hk'.trans hsN.symm)) (.inr ⟨m,Nat.le_refl _,hd.mle,fun j=>⟨fun h=>?_,hall j⟩,hrest⟩)
          rcases Nat.lt_or_ge j m with h' | h'
          · exact h'
          · rw[htail' j h'] at h; cases h
      · have hiq:i=q:=by
          have h1:¬i<q:=fun h=>by rw[(hl i).2 h] at hlf; cases hlf
          rcases Nat.lt_or_ge q i with h | h
          · have:=hpre q (hd.tail q i h (by omega) hlt)
            have:=(hl q).1 this
            omega
          · omega
        subst hiq
        rw[List.drop_eq_getElem_cons (by simpa using hlt)] at hv
        have hoi':ops[i]?=some ops.toList[i]:=by rw[Array.getElem_toList]; exact Array.getElem?_eq_getElem hlt
        refine wpOp_mono (fun a' w' ⟨hda,s',p',σ',hk,hrel'⟩=>?_) (vcOps_step hT hrel hoi' hv)
        obtain⟨t',d'⟩:=a'
        simp only at hda
        subst hda
        refine ih _ hs' hu' hdn' hrel' (.inr ⟨i+1,by omega,by omega,fun j=>?_,hk⟩)
        rw[getD_set_true false (show i<listed.size by omega)]
        by_cases e:j=i
        · simp[e]
        · rw[if_neg e,hl j]; omega

end
end Go.VC
namespace Go.VC
open Go.RowKit (Below)

/-! ### Regions that draw their order: what is to be shown -/
def drawK (P : Program) (T : TypeId → Option TI) (ops : Array Oper) : List Oper → St → List Eff → (St → List Eff → Prop) → Prop
  | [], s, efs, K => K s efs
  | o :: rest, s, efs, K =>
    match o.guard with
    | none => ∃ ef, stepE P T o s ef ∧ drawK P T ops rest (s.apply o.dst ef) (efs ++ [ef]) K
    | some (j, want) =>
      match (ops[j]?).bind (·.dst) with
      | some d =>
        (match s.get d with
        | .l (.d (.bool b)) =>
          (b = want → ∃ ef, stepE P T o (s.put (some d) (.l (.d (.bool want)))) ef ∧ drawK P T ops rest ((s.put (some d) (.l (.d (.bool want)))).apply o.dst ef) (efs ++ [ef]) K) ∧
          (b = (!want) → dstLt o.dst s.n = true ∧ drawK P T ops rest ((s.put (some d) (.l (.d (.bool (!want))))).put o.dst (.l .und)) (efs ++ [{ v := .l .und }]) K)
        | .l .und => dstLt o.dst s.n = true ∧ drawK P T ops rest (s.put o.dst (.l .und)) (efs ++ [{ v := .l .und }]) K
        | _ => False)
      | none => False

def dedup : List Nat → List Nat
  | [] => []
  | a :: r => let r := dedup r; if r.contains a then r else a :: r

theorem mem_dedup {l : List Nat} {a : Nat} (h : a ∈ dedup l) : a ∈ l := by
  induction l with
  | nil => exact h
  | cons b r ih =>
    unfold dedup at h
    simp only at h
    split at h
    · exact List.mem_cons_of_mem _ (ih h)
    · rcases List.mem_cons.1 h with h | h
      · rw [h]; exact List.mem_cons_self
      · exact List.mem_cons_of_mem _ (ih h)

/-- Of each operation those that must come up ahead of it. -/
def ancs : List Oper → List (List Nat) → List (List Nat)
  | [], acc => acc
  | o :: r, acc => ancs r (acc ++ [dedup ((o.after.toList.filter (Region.binds .any)).flatMap fun e => e.on :: acc.getD e.on [])])

theorem ancs_spec {ops : Array Oper} : ∀ (l : List Oper) (acc : List (List Nat)), (∀ i, l[i]? = ops[acc.length + i]?) → (∀ (j i : Nat) a, acc[j]? = some a → i ∈ a → Pre ops i j) →
    ∀ (j i : Nat) a, (ancs l acc)[j]? = some a → i ∈ a → Pre ops i j
  | [], acc, _, h => h
  | o :: r, acc, hl, h => by
    unfold ancs
    refine ancs_spec r _ (fun i => by have := hl (i + 1); simp only [List.getElem?_cons_succ] at this; rw [this]; simp; congr 1; omega) (fun j i a hj hi => ?_)
    by_cases hjl : j < acc.length
    · rw [List.getElem?_append_left hjl] at hj; exact h j i a hj hi
    · rw [List.getElem?_append_right (by omega)] at hj
      have hlt : j - acc.length < 1 := by simpa using (List.getElem?_eq_some_iff.1 hj).1
      have he : j = acc.length := by omega
      subst he
      rw [Nat.sub_self] at hj
      simp at hj
      subst hj
      have ho : ops[acc.length]? = some o := by have := hl 0; simpa using this.symm
      obtain ⟨e, he, hi⟩ := List.mem_flatMap.1 (mem_dedup hi)
      obtain ⟨he1, he2⟩ := List.mem_filter.1 he
      have hedge : Pre ops e.on acc.length := .edge ho (Array.mem_toList_iff.1 he1) he2 rfl
      rcases List.mem_cons.1 hi with hi | hi
      · rw [hi]; exact hedge
      · cases ha : acc[e.on]? with
        | none => rw [ha] at hi; simp at hi
        | some b =>
          rw [ha] at hi
          exact .trans (h _ _ b ha hi) hedge

def optK {α : Type} (x : Option (Nat × α)) (p : Nat → Bool) : Bool := match x with | some (k, _) => p k | none => true
def eatK (x : Option Nat) (p : Nat → Bool) : Bool := match x with | some k => p k | none => true

def pairB (ops : Array Oper) (oi oj : Oper) (ei ej : Eff) : Bool :=
  oi.apart ops oj && eatK ej.eat (fun q => !ei.use.contains q) && eatK ei.eat (fun q => !ej.use.contains q) && optK ei.nb (fun k => !ej.use.contains k) && optK ej.nb (fun k => !ei.use.contains k) &&
  optK ei.no (fun k => !ej.use.contains k) && optK ej.no (fun k => !ei.use.contains k) &&
  optK ei.nb (fun k => optK ej.nb fun k' => k != k') && optK ei.no (fun k => optK ej.no fun k' => k != k') && eatK ei.eat (fun q => optK ej.no fun k => q != k) && eatK ej.eat (fun q => optK ei.no fun k => q != k)

def drawB (ops : Array Oper) (efs : List Eff) (m : Nat) : Bool :=
  let an := ancs ops.toList []
  (efs.length == m) && decide (m ≤ ops.size) &&
  ((List.range ops.size).all fun j => match ops[j]? with | some o => o.after.toList.all (fun e => !Region.binds .any e || decide (e.on < j)) | none => true) &&
  ((List.range ops.size).all fun j => decide (j < m) || (List.range j).all fun i => (an.getD j []).contains i) &&
  ((List.range m).all fun j => (List.range j).all fun i => (an.getD j []).contains i || (match ops[i]?, ops[j]?, efs[i]?, efs[j]? with | some oi, some oj, some ei, some ej => pairB ops oi oj ei ej | _, _, _, _ => true)) &&
  ((List.range m).all fun i => (List.range m).all fun j => (i == j) || (match ops[i]?, ops[j]? with | some oi, some oj => !Oper.makes oi || (oi.dst.isSome && oi.dst != oj.dst) | _, _ => true))

section
variable {P : Program} {T : TypeId → Option TI} {w0 : World} {p0 p p' : Nat → Prop} {σ : Nat → Value} {s s' s0 : St} {tm : Array Value} {ups : List (Array Value)} {w w' : World} {ops : Array Oper} {o : Oper} {ef : Eff} {efs : List Eff} {m up : Nat}

theorem optK_spec {α : Type} {x : Option (Nat × α)} {p : Nat → Bool} (h : optK x p = true) : ∀ k c, x = some (k, c) → p k = true := by
  intro k c e; subst e; exact h
theorem eatK_spec {x : Option Nat} {p : Nat → Bool} (h : eatK x p = true) : ∀ k, x = some k → p k = true := by
  intro k e; subst e; exact h

theorem drawB_spec (h : drawB ops efs m = true) : DrawOk ops efs m 0 := by
  unfold drawB at h
  simp only [Bool.and_eq_true] at h
  obtain ⟨⟨⟨⟨⟨h1, h2⟩, h3⟩, h4⟩, h5⟩, h6⟩ := h
  have hpre : ∀ i j, i ∈ (ancs ops.toList []).getD j [] → Pre ops i j := by
    intro i j hi
    rw [List.getD_eq_getElem?_getD] at hi
    cases ha : (ancs ops.toList [])[j]? with
    | none => rw [ha] at hi; simp at hi
    | some a =>
      rw [ha] at hi
      exact ancs_spec ops.toList [] (fun i => by simp) (fun j i a hj => by simp at hj) j i a ha hi
  have hm : m ≤ ops.size := of_decide_eq_true h2
  refine ⟨by simpa using h1, hm, ?_, ?_, ?_, ?_⟩
  · intro j o ho e he hb
    have hj : j < ops.size := (Array.getElem?_eq_some_iff.1 ho).1
    have := List.all_eq_true.1 h3 j (List.mem_range.2 hj)
    rw [ho] at this
    have := List.all_eq_true.1 this e (Array.mem_toList_iff.2 he)
    rw [hb] at this
    simpa using this
  · intro i j hij hmj hj
    have := List.all_eq_true.1 h4 j (List.mem_range.2 hj)
    rw [Bool.or_eq_true] at this
    rcases this with h | h
    · have := of_decide_eq_true h; omega
    · have := List.all_eq_true.1 h i (List.mem_range.2 hij)
      exact hpre i j (by simpa using this)
  · intro i j oi oj ei ej hij hj hn hoi hoj hei hej
    have := List.all_eq_true.1 (List.all_eq_true.1 h5 j (List.mem_range.2 hj)) i (List.mem_range.2 hij)
    rw [Bool.or_eq_true] at this
    rcases this with h | h
    · exact absurd (hpre i j (by simpa using h)) hn
    · rw [hoi, hoj, hei, hej] at h
      simp only at h
      unfold pairB at h
      simp only [Bool.and_eq_true] at h
      obtain ⟨⟨⟨⟨⟨⟨⟨⟨⟨⟨a1, a2⟩, a3⟩, a4⟩, a5⟩, a6⟩, a7⟩, a8⟩, a9⟩, a10⟩, a11⟩ := h
      refine ⟨a1, fun q hq => by have := eatK_spec a2 q hq; simpa using this, fun q hq => by have := eatK_spec a3 q hq; simpa using this, fun k c hk => by have := optK_spec a4 k c hk; simpa using this, fun k c hk => by have := optK_spec a5 k c hk; simpa using this,
        fun k c hk => by have := optK_spec a6 k c hk; simpa using this, fun k c hk => by have := optK_spec a7 k c hk; simpa using this, ⟨(Oper.apart_spec a1).2.1, ?_, ?_, ?_, ?_⟩⟩
      · intro j cs j' cs' e1 e2; have := optK_spec (optK_spec a8 j cs e1) j' cs' e2; simpa using this
      · intro j cs j' cs' e1 e2; have := optK_spec (optK_spec a9 j cs e1) j' cs' e2; simpa using this
      · intro q j x e1 e2; have := optK_spec (eatK_spec a10 q e1) j x e2; simpa using this
      · intro q j x e1 e2; have := optK_spec (eatK_spec a11 q e1) j x e2; simpa using this
  · intro i j oi oj hi hj hij hoi hoj hmk
    have := List.all_eq_true.1 (List.all_eq_true.1 h6 i (List.mem_range.2 hi)) j (List.mem_range.2 hj)
    rw [Bool.or_eq_true] at this
    rcases this with h | h
    · exact absurd (by simpa using h) hij
    · rw [hoi, hoj] at h
      simp only [hmk, Bool.not_true, Bool.false_or, Bool.and_eq_true] at h
      exact ⟨h.1, by simpa using h.2⟩

theorem foldX_ext {X : Nat → Prop} [DecidablePred X] {efs' : List Eff} : ∀ {k : Nat} {s : St}, (∀ j, j < k → efs[j]? = efs'[j]?) → foldX ops efs X k s = foldX ops efs' X k s
  | 0, _, _ => rfl
  | k + 1, s, h => by
    unfold foldX
    rw [foldX_ext (k := k) (fun j hj => h j (by omega)), h k (by omega)]

theorem stepG_same (h : stepG P T ops o s ef) (hs : s.Same s') : stepG P T ops o s' ef := stepG_agree h (Agree.same hs)

/-- Out of what is shown in the text's order: the effects, and the chain. -/
theorem drawK_chain {K : St → List Eff → Prop} {N : Nat} : ∀ (l : List Oper) (k : Nat) (s : St) (efs : List Eff), (∀ i o, l[i]? = some o → ops[k + i]? = some o) → k + l.length = N → efs.length = k →
    s.Same (foldX ops efs (fun _ => True) k s0) → (∀ i o e, i < k → ops[i]? = some o → efs[i]? = some e → stepG P T ops o (foldX ops efs (fun _ => True) i s0) e) → drawK P T ops l s efs K →
    ∃ efs' s', efs'.length = N ∧ s'.Same (foldX ops efs' (fun _ => True) N s0) ∧ (∀ i o e, i < N → ops[i]? = some o → efs'[i]? = some e → stepG P T ops o (foldX ops efs' (fun _ => True) i s0) e) ∧ K s' efs'
  | [], k, s, efs, _, hN, hl, hs, hc, h => by
    simp only [List.length_nil, Nat.add_zero] at hN
    subst hN
    exact ⟨efs, s, hl, hs, hc, h⟩
  | o :: rest, k, s, efs, ho, hN, hl, hs, hc, h => by
    have hok : ops[k]? = some o := ho 0 o rfl
    have go : ∀ (s1 : St) (ef : Eff), s1.Same ((foldX ops efs (fun _ => True) k s0).apply o.dst ef) → stepG P T ops o s ef → drawK P T ops rest s1 (efs ++ [ef]) K →
        ∃ efs' s', efs'.length = N ∧ s'.Same (foldX ops efs' (fun _ => True) N s0) ∧ (∀ i o e, i < N → ops[i]? = some o → efs'[i]? = some e → stepG P T ops o (foldX ops efs' (fun _ => True) i s0) e) ∧ K s' efs' := by
      intro s1 ef hs1 hst hd
      have hlast : (efs ++ [ef])[k]? = some ef := by rw [← hl]; simp
      have hold : ∀ j, j < k → efs[j]? = (efs ++ [ef])[j]? := fun j hj => by rw [List.getElem?_append_left (by omega)]
      refine drawK_chain rest (k + 1) s1 (efs ++ [ef]) (fun i o' hi => by have := ho (i + 1) o' hi; rwa [show k + (i + 1) = k + 1 + i by omega] at this) (by simp only [List.length_cons] at hN; omega) (by simp [hl]) ?_ ?_ hd
      · unfold foldX
        rw [if_pos trivial, hok, hlast]
        simp only
        rw [← foldX_ext hold]; exact hs1
      · intro i o' e hi hoi hei
        by_cases hik : i < k
        · rw [← foldX_ext (fun j hj => hold j (by omega))]
          rw [← hold i hik] at hei
          exact hc i o' e hik hoi hei
        · have : i = k := by omega
          subst this
          rw [hok] at hoi; cases hoi
          rw [hlast] at hei; cases hei
          rw [← foldX_ext hold]
          exact stepG_same hst hs
    unfold drawK at h
    split at h
    · rename_i hg
      obtain ⟨ef, h1, h2⟩ := h
      exact go _ ef (hs.apply _ _) (by unfold stepG; rw [hg]; exact h1) h2
    · rename_i j want hg
      split at h <;> try exact h.elim
      rename_i d hd
      split at h <;> try exact h.elim
      case h_2 hb =>
        obtain ⟨h1, h2⟩ := h
        refine go _ { v := .l .und } (hs.put _ _) ?_ h2
        unfold stepG
        rw [hg]
        exact ⟨d, hd, .inr ⟨hb, h1, rfl⟩⟩
      rename_i b hb
      by_cases hbw : b = want
      · obtain ⟨ef, h1, h2⟩ := h.1 hbw
        have hsm : s.Same (s.put (some d) (.l (.d (.bool want)))) := put_same (by rw [hb, hbw])
        refine go _ ef ((hsm.symm.trans hs).apply _ _) ?_ h2
        unfold stepG
        rw [hg]
        exact ⟨d, hd, .inl ⟨b, hb, .inl ⟨hbw, stepE_agree h1 (Agree.same (ops := ops) hsm.symm)⟩⟩⟩
      · have hbn : b = (!want) := by cases b <;> cases want <;> simp_all
        obtain ⟨h1, h2⟩ := h.2 hbn
        have hsm : s.Same (s.put (some d) (.l (.d (.bool (!want))))) := put_same (by rw [hb, hbn])
        refine go _ { v := .l .und } ((hsm.symm.trans hs).put _ _) ?_ h2
        unfold stepG
        rw [hg]
        exact ⟨d, hd, .inl ⟨b, hb, .inr ⟨hbn, h1, rfl⟩⟩⟩

/-- All keys that operations of a list make under are let go. -/
def cleanAll : List Oper → St → St
  | [], s => s
  | o :: r, s => cleanAll r (s.clean o)

theorem keyOf_clean (o : Oper) (d : Option Nat) : keyOf (s.clean o) d = keyOf s d := by
  unfold St.clean keyOf
  split
  · simp [St.drop, St.mapL]
  · rfl

theorem keyOf_cleanAll : ∀ (l : List Oper) (s : St) (d : Option Nat), keyOf (cleanAll l s) d = keyOf s d
  | [], _, _ => rfl
  | o :: r, s, d => by unfold cleanAll; rw [keyOf_cleanAll r, keyOf_clean]

theorem Free.drop2 {k j : Nat} (h : Free k s) : Free k (s.drop j) := by
  have kill : ∀ x : LV, x.on k = false → (x.kill j).on k = false := fun x hx => by unfold LV.kill; split; rfl; exact hx
  have kill1 : ∀ x : AV, x.on1 k = false → (x.map1 (LV.kill j)).on1 k = false := by
    intro x hx
    cases x with
    | l x => exact kill x hx
    | agg cs =>
      simp only [AV.map1, AV.on1, List.any_eq_false] at hx ⊢
      intro y hy
      obtain ⟨z, hz, rfl⟩ := List.mem_map.1 hy
      rw [kill z (by simpa using hx z hz)]; exact Bool.false_ne_true
    | tup _ => rfl
  have killV : ∀ x : AV, x.on k = false → (x.map (LV.kill j)).on k = false := by
    intro x hx
    cases x with
    | l x => exact kill1 (.l x) hx
    | agg cs => exact kill1 (.agg cs) hx
    | tup cs =>
      simp only [AV.map, AV.on, List.any_eq_false] at hx ⊢
      intro y hy
      obtain ⟨z, hz, rfl⟩ := List.mem_map.1 hy
      rw [kill1 z (by simpa using hx z hz)]; exact Bool.false_ne_true
  refine ⟨fun i => ?_, fun f hf i => ?_, fun q cs hq x hx => ?_, ?_, ?_⟩
  · simp only [St.drop, St.mapL]
    rw [getT_mapT _ (LV.kill_unk j)]
    exact killV _ (h.t i)
  · simp only [St.drop, St.mapL] at hf
    obtain ⟨f0, hf0, rfl⟩ := List.mem_map.1 hf
    simp only
    rw [getT_mapT _ (LV.kill_unk j)]
    exact killV _ (h.up f0 hf0 i)
  · simp only [St.drop, St.mapL, assoc_erase] at hq
    split at hq <;> try cases hq
    rw [assoc_map] at hq
    obtain ⟨cs0, hcs0, rfl⟩ := Option.map_eq_some_iff.1 hq
    obtain ⟨y, hy, rfl⟩ := List.mem_map.1 hx
    exact kill y (h.b q cs0 hcs0 y hy)
  · simp only [St.drop, St.mapL, assoc_erase, assoc_map, h.nb]; split <;> rfl
  · simp only [St.drop, St.mapL, assoc_erase, h.no]; split <;> rfl

theorem Free.clean {k : Nat} (h : Free k s) (o : Oper) : Free k (s.clean o) := by
  unfold St.clean
  split
  · exact h.drop2
  · exact h

theorem Free.cleanAll : ∀ (l : List Oper) {s : St} {k : Nat}, Free k s → Free k (Go.VC.cleanAll l s)
  | [], _, _, h => h
  | o :: r, _, _, h => Free.cleanAll r (h.clean o)

theorem free_cleanAll (l : List Oper) : ∀ (s : St) (o : Oper), o ∈ l → Oper.makes o = true → Free (keyOf s o.dst) (Go.VC.cleanAll l s) := by
  induction l with
  | nil => intro s o ho; cases ho
  | cons a r ih =>
    intro s o ho hm
    show Free (keyOf s o.dst) (Go.VC.cleanAll r (s.clean a))
    rcases List.mem_cons.1 ho with h | h
    · subst h
      have h1 : Free (keyOf s o.dst) (s.clean o) := by
        unfold St.clean
        rw [if_pos hm]
        exact Free.drop _ _
      exact Free.cleanAll r h1
    · have h2 := ih (s.clean a) o h hm
      rw [keyOf_clean] at h2
      exact h2

theorem Rel.cleanAll : ∀ (l : List Oper) {s : St}, Rel w0 p0 p σ s tm ups w → Rel w0 p0 p σ (Go.VC.cleanAll l s) tm ups w
  | [], _, h => h
  | o :: r, _, h => Rel.cleanAll r (h.clean o)

theorem Rel.drew (h : Rel w0 p0 p σ s tm ups w) : Rel w0 p0 p σ s tm ups { w with drawn := w.drawn + 1 } :=
  h.called (w' := w.drew) (Below.refl _ _).drew (fun _ h => h) (fun b h => .inl h) (fun b hb => h.plt b hb)

/-- What is to be shown of a region that draws its order: m: how many come up in any order. -/
def DrawVC (P : Program) (T : TypeId → Option TI) (ops : Array Oper) (s : St) (K : St → Prop) : Prop :=
  ∃ m, drawK P T ops (ops.toList.take m) (cleanAll (ops.toList.take m) s) [] fun s' efs => drawB ops efs m = true ∧ vcOps P T ops (ops.toList.drop m) s' K

theorem DrawVC.sound (hT : TabOk P T) (h : Rel w0 p0 p σ s tm ups w) {K : St → Prop} {id : Nat} {Q : Exit → Act → World → Prop} (hQ : ∀ a w, NextOk w0 p0 ups K a w → Q .normal a w) (hv : DrawVC P T ops s K) : (Code.region id ops true).wp P Q ⟨tm, []⟩ w := by
  obtain ⟨m, hv⟩ := hv
  have hget : ∀ (i : Nat) o, (ops.toList.take m)[i]? = some o → ops[i]? = some o := by
    intro i o hi
    rw [List.getElem?_take] at hi
    split at hi <;> try cases hi
    simpa using hi
  generalize hs0 : cleanAll (ops.toList.take m) s = s0 at hv
  obtain ⟨efs, s', hlen, hsame, hch, hB, hrest⟩ := drawK_chain (s0 := s0) (N := (ops.toList.take m).length) (ops.toList.take m) 0 s0 [] (fun i o hi => by rw [Nat.zero_add]; exact hget i o hi) (Nat.zero_add _) rfl (St.Same.refl _) (fun i o e hi => by omega) hv
  have hd := drawB_spec hB
  have hml : (ops.toList.take m).length = m := by
    rw [List.length_take, Nat.min_eq_left (by simpa using hd.mle)]
  rw [hml] at hsame hch
  refine wp_region_any hT.mixed ?_
  have hrel0 : Rel w0 p0 p σ s0 tm ups { w with drawn := w.drawn + 1 } := by rw [← hs0]; exact (Rel.cleanAll _ h).drew
  have hch' : Chain P T ops efs m s0 := by
    intro i o e hi ho he
    rw [foldX_congr (X := fun j => j < i) (Y := fun j => j < i) (fun _ _ => Iff.rfl)]
    have : foldX ops efs (fun j => j < i) m s0 = foldX ops efs (fun _ => True) i s0 := by
      have h1 : ∀ k, i ≤ k → foldX ops efs (fun j => j < i) k s0 = foldX ops efs (fun _ => True) i s0 := by
        intro k
        induction k with
        | zero => intro hk; have : i = 0 := by omega
                  subst this; rfl
        | succ k ih =>
          intro hk
          by_cases e : i = k + 1
          · subst e
            exact foldX_congr fun j hj => ⟨fun _ => trivial, fun _ => hj⟩
          · have e1 : foldX ops efs (fun j => j < i) (k + 1) s0 = foldX ops efs (fun j => j < i) k s0 := by
              show (if k < i then _ else _) = _
              rw [if_neg (by omega)]
            rw [e1]
            exact ih (by omega)
      exact h1 m (by omega)
    rw [this]
    exact hch i o e hi ho he
  have hf : ∀ i, (Array.replicate ops.size false).getD i false = false := by
    intro i
    simp only [Array.getD_eq_getD_getElem?, Array.getElem?_replicate]
    split <;> rfl
  have hfree : ∀ i o, i < m → ops[i]? = some o → Oper.makes o = true → Free (keyOf s0 o.dst) s0 := by
    intro i o hi ho hm
    rw [← hs0, keyOf_cleanAll]
    refine free_cleanAll _ s o ?_ hm
    rw [List.mem_iff_getElem?]
    exact ⟨i, by rw [List.getElem?_take, if_pos hi]; simpa using ho⟩
  have hu : unl ops.size (Array.replicate ops.size false) ≤ ops.size := by
    unfold unl
    exact Nat.le_trans (List.length_filter_le _ _) (by simp)
  have hdn : Down ops (fun i => (Array.replicate ops.size false).getD i false = true) := fun j o hj => by have h1 := hf j; have h2 : (Array.replicate ops.size false).getD j false = true := hj; rw [h1] at h2; cases h2
  by_cases hm0 : m = 0
  · subst hm0
    refine any_sound hT hd hch' hfree hsame hrest hQ ops.size _ (by simp) hu hdn (hrel0.same hsame.symm) (.inr ⟨0, Nat.le_refl _, Nat.zero_le _, fun i => ?_, hrest⟩)
    rw [hf]; simp
  · refine any_sound hT hd hch' hfree hsame hrest hQ ops.size _ (by simp) hu hdn hrel0 (.inl ⟨⟨0, by omega, hf 0⟩, ?_, fun j _ => hf j⟩)
    have : ∀ k, foldX ops efs (fun i => (Array.replicate ops.size false).getD i false = true) k s0 = s0 := by
      intro k
      induction k with
      | zero => rfl
      | succ k ih =>
        have e1 : foldX ops efs (fun i => (Array.replicate ops.size false).getD i false = true) (k + 1) s0 = foldX ops efs (fun i => (Array.replicate ops.size false).getD i false = true) k s0 := by
          show (if (Array.replicate ops.size false).getD k false = true then _ else _) = _
          rw [if_neg (by rw [hf]; exact Bool.false_ne_true)]
        rw [e1]; exact ih
    rw [this]; exact St.Same.refl _

end
end Go.VC
namespace Go.VC
open Go.RowKit (Below)

/-! ### An own array that is never written again: from now on it is data -/
def LV.ice (k:Nat) (rows:List (List D)):LV→LV
  | .own j=>if j=k then .d (.sl rows) else .own j
  | x=>x

def St.ice (s:St) (k:Nat):St:=match assoc s.o k with
  | some x=>{ (s.mapL (LV.ice k x.2.2)) with o:=erase s.o k }
  | none=>s

section
variable {w0:World} {p0 p:Nat→Prop} {σ:Nat→Value} {s:St} {tm:Array Value} {ups:List (Array Value)} {w:World}

theorem RepL.up {x:LV} {v:Value} {p':Nat→Prop} (h:RepL σ w p x v) (hp:∀b,p b→p' b):RepL σ w p' x v:=by
  cases x with
  | d x=>exact RepD.mono h (fun _ _=>rfl) hp
  | dptr cells off=>obtain⟨ad,h1,h2⟩:=h; exact⟨ad,h1,h2.mono (fun _ _=>rfl) hp⟩
  | func f caps=>
    obtain⟨vs,h1,h2⟩:=h
    refine⟨vs,h1,h2.1,fun i y v hy hv=>?_⟩
    have h3:=h2.2 i y v hy hv
    cases y with
    | k j=>exact h3
    | c cells=>obtain⟨b,h4,h5⟩:=h3; exact⟨b,h4,h5.mono (fun _ _=>rfl) hp⟩
  | _=>exact h

/-- A value, with an own array as data. -/
def iceA (s:St) (k:Nat) (x:AV):AV:=match assoc s.o k with | some z=>x.map (LV.ice k z.2.2) | none=>x
theorem Rel.ice2 (h:Rel w0 p0 p σ s tm ups w) (k:Nat):∃p',Rel w0 p0 p' σ (s.ice k) tm ups w∧∀x v,RepV σ w p x v→RepV σ w p' (iceA s k x) v:=by
  unfold St.ice iceA
  cases hz:assoc s.o k with
  | none=>exact⟨p,h,fun _ _ hx=>hx⟩
  | some z=>
    simp only
    have hlive:s.live k:=.inr (by rw[hz]; rfl)
    let p':Nat→Prop:=fun b=>p b∨blk (σ k)=some b
    have hp:∀b,p b→p' b:=fun b hb=>.inl hb
    obtain⟨xs,ho1,ho2,ho3,ho4⟩:=h.o k z hz
    obtain⟨A,c,hs,hc1,hn,hc2,ha⟩:=ownsRow_form ho1
    have hD:RepD w p' (.sl z.2.2) (σ k):=by
      rw[hs]
      refine .sl z.2.2 z.2.1 A c (fun i j=>xs.getD (i*z.2.1+j) undef) hc1 hc2 hn (fun ad e _=>.inr (by rw[hs,e]; rfl)) ho2 ?_ ?_
      · intro ad i j r x e hi hj
        have hjl:j<z.2.1:=by rw[←ho2 r (List.mem_of_getElem? hi)]; exact (List.getElem?_eq_some_iff.1 hj).1
        have hf:=flatten_get z.2.1 z.2.2 ho2 i j hjl
        rw[hi,Option.bind_some,hj] at hf
        obtain⟨u,hu,hru⟩:=ho3.get hf
        subst e
        have:=ho1.cells (g:=ad.block) (by rw[hs]; rfl) _ u hu
        have e2:ad=⟨ad.block,0,none⟩:=by
          obtain⟨b,off,spot⟩:=ad
          have:=ha _ rfl
          simp at this
          simp[this]
        rw[e2,this,List.getD_eq_getElem?_getD,hu]
        rfl
      · intro i j r x hi hj
        have hjl:j<z.2.1:=by rw[←ho2 r (List.mem_of_getElem? hi)]; exact (List.getElem?_eq_some_iff.1 hj).1
        have hf:=flatten_get z.2.1 z.2.2 ho2 i j hjl
        rw[hi,Option.bind_some,hj] at hf
        obtain⟨u,hu,hru⟩:=ho3.get hf
        rw[List.getD_eq_getElem?_getD,hu]
        exact hru.mono (fun _ _=>rfl) hp
    have hmap:∀x v,RepL σ w p x v→RepL σ w p' (x.ice k z.2.2) v:=by
      intro x v hx
      cases x with
      | own j=>
        simp only[LV.ice]
        by_cases e:j=k
        · subst e
          rw[if_pos rfl]
          obtain⟨h1,_⟩:=hx
          rw[h1]; exact hD
        · rw[if_neg e]; exact hx
      | _=>exact RepL.up hx hp
    have hne:∀j,j≠k→s.live j→∀g,blk (σ j)=some g→¬p g→¬p' g:=by
      intro j hj hl g hg hnp hp'
      rcases hp' with hp' | hp'
      · exact hnp hp'
      · exact hj (h.apart j k g hl hlive hg hp')
    have hl2:∀j,St.live { (s.mapL (LV.ice k z.2.2)) with o:=erase s.o k } j→s.live j:=by
      intro j hj
      unfold St.live at *
      simp only[St.mapL,assoc_erase] at hj
      rcases hj with hj | hj
      · rw[assoc_map] at hj; left; simpa using hj
      · split at hj
        · cases hj
        · exact .inr hj
    have hbox:∀cs,assoc s.b k=some cs→False:=by
      intro cs hcs
      obtain⟨g,ty,vs,e,_⟩:=h.b k cs hcs
      rw[e] at hs; cases hs
    refine⟨p',⟨h.below,fun b hb=>hp b (h.pin b hb),fun b hb=>?_,fun b hb=>?_,⟨h.t.1,fun i=>?_⟩,⟨by simpa [St.mapL] using h.up.1,fun i f a hfi ha'=>?_⟩,fun j cs hj=>?_,fun j x hj=>?_,fun k1 k2 g h1 h2=>h.apart k1 k2 g (hl2 _ h1) (hl2 _ h2)⟩,fun x v hx=>hx.mapL hmap⟩
    · rcases hb with hb | hb
      · exact h.pnew b hb
      · exact .inr (h.live_lt hlive hb).2.2
    · rcases hb with hb | hb
      · exact h.plt b hb
      · exact (h.live_lt hlive hb).1
    · simp only[St.mapL]
      rw[getT_mapT _ rfl]
      exact (h.t.2 i).mapL hmap
    · simp only[St.mapL,List.getElem?_map] at hfi
      obtain⟨f0,hf0,rfl⟩:=Option.map_eq_some_iff.1 hfi
      have:=h.up.2 i f0 a hf0 ha'
      exact this.mapL rfl hmap
    · simp only[St.mapL] at hj
      rw[assoc_map] at hj
      obtain⟨cs0,hcs0,rfl⟩:=Option.map_eq_some_iff.1 hj
      have hjk:j≠k:=fun e=>by subst e; exact hbox cs0 hcs0
      obtain⟨g,ty,vs,e,hb,hnp,hg,hr⟩:=h.b j cs0 hcs0
      exact⟨g,ty,vs,e,hb,hne j hjk (.inl (by rw[hcs0]; rfl)) g (by rw[e]; rfl) hnp,hg,hr.map_left _ hmap⟩
    · simp only[assoc_erase] at hj
      split at hj
      · cases hj
      · rename_i hjk
        obtain⟨ys,o1,o2,o3,o4⟩:=h.o j x hj
        exact⟨ys,o1,o2,o3.mono fun _ _ h=>h.mono (fun _ _=>rfl) hp,fun g hg=>hne j hjk (.inr (by rw[hj]; rfl)) g hg (o4 g hg)⟩
theorem Rel.ice (h:Rel w0 p0 p σ s tm ups w) (k:Nat):∃p',Rel w0 p0 p' σ (s.ice k) tm ups w:=let ⟨p',h',_⟩:=h.ice2 k; ⟨p',h'⟩
end

def St.ices (s:St):List Nat→St
  | []=>s
  | k::r=>(s.ice k).ices r

theorem Rel.ices {w0:World} {p0:Nat→Prop} {σ:Nat→Value} {tm:Array Value} {ups:List (Array Value)} {w:World}:∀(l:List Nat) {s:St} {p:Nat→Prop},Rel w0 p0 p σ s tm ups w→∃p',Rel w0 p0 p' σ (s.ices l) tm ups w
  | [],s,p,h=>⟨p,h⟩
  | k::r,s,p,h=>let ⟨p',h'⟩:=h.ice k; Rel.ices r h'

def Cap.ks:Cap→List Nat
  | .k j=>[j]
  | .c _=>[]
def LV.ks:LV→List Nat
  | .ptr k _=>[k]
  | .own k=>[k]
  | .eptr k _ _ _=>[k]
  | .vw k _ _ _ _=>[k]
  | .func _ c=>c.flatMap Cap.ks
  | .mfn _ k=>[k]
  | .bsl k _ _=>[k]
  | _=>[]
def AV.ks:AV→List Nat
  | .l x=>x.ks
  | .agg cs=>cs.flatMap LV.ks
  | .tup cs=>cs.flatMap fun x=>match x with | .l x=>x.ks | .agg cs=>cs.flatMap LV.ks | .tup _=>[]
def only {β:Type} (ks:List Nat):List (Nat×β)→List (Nat×β)
  | []=>[]
  | (k,x)::r=>match ks.contains k with | true=>(k,x)::only ks r | false=>only ks r
theorem assoc_only {β:Type} (ks:List Nat) (l:List (Nat×β)) (k:Nat):assoc (only ks l) k=if ks.contains k=true then assoc l k else none:=by
  induction l with
  | nil=>simp[only,assoc]
  | cons a r ih=>
    obtain⟨j,x⟩:=a
    unfold only
    split
    · rename_i h
      simp only[assoc]
      by_cases e:k=j
      · subst e; simp only[if_true]; rw[if_pos h]
      · simp only[e,if_false]; exact ih
    · rename_i h
      rw[ih]
      simp only[assoc]
      by_cases e:k=j
      · subst e; rw[if_neg (by rw[h]; exact Bool.false_ne_true),if_neg (by rw[h]; exact Bool.false_ne_true)]
      · simp only[e,if_false]
/-- What nothing leads to is told no more. -/
def St.sweep (s:St):St:=
  match s.t.flatMap (fun x=>x.2.ks)++s.up.flatMap (fun f=>f.t.flatMap fun x=>x.2.ks)++s.b.flatMap (fun x=>x.2.flatMap LV.ks) with
  | ks=>{ s with b:=only ks s.b,o:=only ks s.o }

section
variable {w0:World} {p0 p:Nat→Prop} {σ:Nat→Value} {s:St} {tm:Array Value} {ups:List (Array Value)} {w:World}
theorem Rel.sweep (h:Rel w0 p0 p σ s tm ups w):Rel w0 p0 p σ s.sweep tm ups w:=by
  unfold St.sweep
  simp only
  generalize s.t.flatMap (fun x=>x.2.ks)++s.up.flatMap (fun f=>f.t.flatMap fun x=>x.2.ks)++s.b.flatMap (fun x=>x.2.flatMap LV.ks)=ks
  have hl:∀j,St.live { s with b:=only ks s.b,o:=only ks s.o } j→s.live j:=by
    intro j hj
    unfold St.live at *
    simp only[assoc_only] at hj
    rcases hj with hj | hj
    · split at hj
      · exact .inl hj
      · cases hj
    · split at hj
      · exact .inr hj
      · cases hj
  exact { h with
    b:=fun k cs hk=>by
      simp only[assoc_only] at hk
      split at hk
      · exact h.b k cs hk
      · cases hk
    o:=fun k x hk=>by
      simp only[assoc_only] at hk
      split at hk
      · exact h.o k x hk
      · cases hk
    apart:=fun k1 k2 g h1 h2=>h.apart k1 k2 g (hl _ h1) (hl _ h2) }
end

/-- What is told behind a region: the live slots; own arrays that become data there. -/
structure Cut where
  live:List (Nat×List Nat)
  ice:List (Nat×List Nat):=[]
  join:List Nat:=[]
  pre:List (Nat×List Nat):=[]

end Go.VC
namespace Go.VC
open Go.RowKit (Below)

/-- What holds in s holds, told less, in s'. -/
def Weak (s s':St):Prop:=∀w0 p0 p σ tm ups w,Rel w0 p0 p σ s tm ups w→∃p' σ',Rel w0 p0 p' σ' s' tm ups w

theorem Weak.refl (s:St):Weak s s:=fun _ _ p σ _ _ _ h=>⟨p,σ,h⟩
theorem Weak.trans {a b c:St} (h:Weak a b) (k:Weak b c):Weak a c:=fun w0 p0 p σ tm ups w hr=>
  let ⟨p',σ',h1⟩:=h w0 p0 p σ tm ups w hr
  k w0 p0 p' σ' tm ups w h1

def LoopVC (body:(Exit→St→Prop)→St→Prop) (Q:Exit→St→Prop) (s:St):Prop:=
  ∃I:Nat→St→Prop,(∃n s1,Weak s s1∧I n s1)∧∀n s1,I n s1→body (fun e s'=>match e with | .normal=>∃n' s2,n'<n∧Weak s' s2∧I n' s2 | e=>Q e s') s1

def getL:List Nat→Tmps→Tmps
  | [],_=>[]
  | i::L,t=>(i,getT t i)::getL L t

/-- Only the slots of L are told any more. -/
def St.keep (s:St) (L:List Nat):St:={ s with t:=getL L s.t }

def St.cut (s:St) (L:Cut) (id:Nat):St:=((s.keep ((assoc L.live id).getD [])).sweep).ices ((assoc L.ice id).getD [])

def St.refine (s:St) (c:Operand) (b:Bool):St:=match c with | .tmp t=>s.put (some t) (.l (.d (.bool b))) | _=>s

def vc (P:Program) (T:TypeId→Option TI) (L:Cut):Code→(Exit→St→Prop)→St→Prop
  | .skip,Q,s=>Q .normal s
  | .label _,Q,s=>Q .normal s
  | .seq x y,Q,s=>vc P T L x (fun e s'=>match e with | .normal=>vc P T L y Q s' | e=>Q e s') s
  | .cond c x y,Q,s=>(match s.eval c with
    | .l (.d (.bool b))=>(b=true→vc P T L x Q (s.refine c true))∧(b=false→vc P T L y Q (s.refine c false))
    | _=>False)
  | .block id c,Q,s=>vc P T L c (fun e s'=>match e with | .exit i=>(if i=id then Q .normal s' else Q (.exit i) s') | e=>Q e s') s
  | .loop c,Q,s=>LoopVC (fun Q' s'=>vc P T L c Q' s') Q s
  | .exit id,Q,s=>Q (.exit id) s
  | .ret,Q,s=>Q .ret s
  | .region id ops draw,Q,s=>(match draw with
    | false=>vcOps P T ops ops.toList s fun s'=>Q .normal (s'.cut L id)
    | true=>DrawVC P T ops s fun s'=>Q .normal (s'.cut L id))
  | .scope c,Q,s=>vc P T L c (fun e s'=>match e with | .goto _=>False | e=>Q e s') s
  | c,Q,s=>AWp P c Q s

section
variable {P:Program} {T:TypeId→Option TI} {w0:World} {p0 p p':Nat→Prop} {σ:Nat→Value} {s s' s0:St} {tm:Array Value} {ups:List (Array Value)} {w w':World} {L:Cut}

theorem getT_getL (L:List Nat) (t:Tmps) (i:Nat):getT (getL L t) i=if L.contains i=true then getT t i else .l .unk:=by
  induction L with
  | nil=>simp[getL,getT]
  | cons a r ih=>
    simp only[getL,getT]
    by_cases e:i=a
    · subst e; simp
    · simp only[e,if_false,ih]
      simp[e]

theorem Rel.keep (h:Rel w0 p0 p σ s tm ups w) (L:List Nat):Rel w0 p0 p σ (s.keep L) tm ups w:=
  { h with t:=⟨h.t.1,fun i=>by
      simp only[St.keep]
      rw[getT_getL]
      split
      · exact h.t.2 i
      · trivial⟩ }

theorem Rel.cut (h:Rel w0 p0 p σ s tm ups w) (L:Cut) (id:Nat):∃p',Rel w0 p0 p' σ (s.cut L id) tm ups w:=((h.keep _).sweep).ices _

theorem Weak.ice (s:St) (k:Nat):Weak s (s.ice k):=fun _ _ p σ _ _ _ h=>let ⟨p',h'⟩:=h.ice k; ⟨p',σ,h'⟩

theorem exists_least {q:Nat→Prop} (h:∃n,q n):∃n,q n∧∀m,q m→n≤m:=by
  obtain⟨n,hn⟩:=h
  induction n using Nat.strongRecOn with
  | _ n ih=>
    by_cases c:∃m,m<n∧q m
    · obtain⟨m,hm,hq⟩:=c; exact ih m hm hq
    · exact⟨n,hn,fun m hm=>by
        rcases Nat.lt_or_ge m n with h | h
        · exact absurd ⟨m,h,hm⟩ c
        · exact h⟩

open Classical in
theorem wp_loop_rel {c:Code} {Q:Exit→Act→World→Prop} (J:Nat→Act→World→Prop) (round:∀n a w,J n a w→c.wp P (Exit.then (fun a' w'=>∃n',n'<n∧J n' a' w') Q) a w) {n:Nat} {a:Act} {w:World} (h:J n a w):(Code.loop c).wp P Q a w:=by
  have least:∀a w,(∃n,J n a w)→∃n,J n a w∧∀m,J m a w→n≤m:=fun a w h=>exists_least h
  refine wp_loop (fun a w=>∃n,J n a w) (fun a w=>if h:∃n,J n a w then Classical.choose (least a w h) else 0) ⟨n,h⟩ fun a w hI=>?_
  have hc:=Classical.choose_spec (least a w hI)
  refine Code.wp_mono (fun e a' w' hq=>?_) (round _ a w hc.1)
  cases e with
  | normal=>
    obtain⟨n',hlt,hj⟩:=hq
    have hex:∃n,J n a' w':=⟨n',hj⟩
    refine⟨hex,?_⟩
    simp only[dif_pos hI,dif_pos hex]
    exact Nat.lt_of_le_of_lt ((Classical.choose_spec (least a' w' hex)).2 n' hj) hlt
  | _=>exact hq

theorem AWp.mono {c:Code} {Q Q':Exit→St→Prop} (h:AWp P c Q s) (hq:∀e s,Q e s→Q' e s):AWp P c Q' s:=fun w0 p0 p σ tm ups w hr=>
  Code.wp_mono (fun e a w ⟨hd,s',p',σ',q,r⟩=>⟨hd,s',p',σ',hq _ _ q,r⟩) (h w0 p0 p σ tm ups w hr)

theorem vc_sound (hT:TabOk P T):∀(c:Code) {Q:Exit→St→Prop} {s:St},vc P T L c Q s→AWp P c Q s
  | .skip,Q,s,h=>fun w0 p0 p σ tm ups w hr=>wp_skip ⟨rfl,s,p,σ,h,hr⟩
  | .label _,Q,s,h=>fun w0 p0 p σ tm ups w hr=>wp_label ⟨rfl,s,p,σ,h,hr⟩
  | .exit id,Q,s,h=>fun w0 p0 p σ tm ups w hr=>wp_exit ⟨rfl,s,p,σ,h,hr⟩
  | .ret,Q,s,h=>fun w0 p0 p σ tm ups w hr=>wp_ret ⟨rfl,s,p,σ,h,hr⟩
  | .seq x y,Q,s,h=>fun w0 p0 p σ tm ups w hr=>by
    unfold vc at h
    refine wp_seq (Code.wp_mono (fun e a w' hq=>?_) (vc_sound hT x h w0 p0 p σ tm ups w hr))
    obtain⟨hd,s',p',σ',hq,hr'⟩:=hq
    cases e with
    | normal=>
      obtain⟨t',d'⟩:=a
      simp only at hd
      subst hd
      exact vc_sound hT y hq w0 p0 p' σ' t' ups w' hr'
    | _=>exact⟨hd,s',p',σ',hq,hr'⟩
  | .cond c x y,Q,s,h=>fun w0 p0 p σ tm ups w hr=>by
    unfold vc at h
    have hc:=hr.eval (ds:=[]) c
    split at h <;> try exact h.elim
    rename_i b hb
    rw[hb] at hc
    have href:∀b',b=b'→Rel w0 p0 p σ (s.refine c b') tm ups w:=by
      intro b' e
      subst e
      cases c with
      | tmp t=>exact hr.same (put_same hb)
      | _=>exact hr
    refine wp_cond_split (RepD_bool hc) (fun e=>vc_sound hT x (h.1 e) w0 p0 p σ tm ups w (href true e)) (fun e=>vc_sound hT y (h.2 e) w0 p0 p σ tm ups w (href false e))
  | .block id c,Q,s,h=>fun w0 p0 p σ tm ups w hr=>by
    unfold vc at h
    refine wp_block (Code.wp_mono (fun e a w' hq=>?_) (vc_sound hT c h w0 p0 p σ tm ups w hr))
    obtain⟨hd,s',p',σ',hq,hr'⟩:=hq
    cases e with
    | exit i=>
      simp only[Exit.inBlock]
      simp only at hq
      split
      · rename_i e; rw[if_pos e] at hq; exact⟨hd,s',p',σ',hq,hr'⟩
      · rename_i e; rw[if_neg e] at hq; exact⟨hd,s',p',σ',hq,hr'⟩
    | _=>exact⟨hd,s',p',σ',hq,hr'⟩
  | .loop c,Q,s,h=>fun w0 p0 p σ tm ups w hr=>by
    unfold vc at h
    obtain⟨I,⟨n,s1,hw1,hI⟩,hround⟩:=h
    obtain⟨p1,σ1,hr1⟩:=hw1 w0 p0 p σ tm ups w hr
    refine wp_loop_rel (fun n a w=>a.defers=[]∧∃s p σ,I n s∧Rel w0 p0 p σ s a.tmps ups w) (fun n a w hJ=>?_) (n:=n) ⟨rfl,s1,p1,σ1,hI,hr1⟩
    obtain⟨hd,s2,p2,σ2,hI2,hr2⟩:=hJ
    obtain⟨t2,d2⟩:=a
    simp only at hd
    subst hd
    refine Code.wp_mono (fun e a' w' hq=>?_) (vc_sound hT c (hround n s2 hI2) w0 p0 p2 σ2 t2 ups w hr2)
    obtain⟨hd,s',p',σ',hq,hr'⟩:=hq
    cases e with
    | normal=>
      obtain⟨n',s3,hlt,hw3,hI3⟩:=hq
      obtain⟨p3,σ3,hr3⟩:=hw3 w0 p0 p' σ' a'.tmps ups w' hr'
      exact⟨n',hlt,hd,s3,p3,σ3,hI3,hr3⟩
    | _=>exact⟨hd,s',p',σ',hq,hr'⟩
  | .region id ops draw,Q,s,h=>fun w0 p0 p σ tm ups w hr=>by
    have hQ:∀a w,NextOk w0 p0 ups (fun s'=>Q .normal (s'.cut L id)) a w→(fun e (a':Act) w'=>a'.defers=[]∧∃s' p' σ',Q e s'∧Rel w0 p0 p' σ' s' a'.tmps ups w') Exit.normal a w:=
      fun a w ⟨hd,s',p',σ',hk,hr'⟩=>⟨hd,_,(hr'.cut L id).choose,σ',hk,(hr'.cut L id).choose_spec⟩
    cases draw with
    | false=>exact wp_region_list (vcOps_sound hT hQ ops.toList hr h)
    | true=>exact DrawVC.sound hT hr hQ h
  | .rangeFunc _ _ _ _,Q,s,h=>h
  | .scope c,Q,s,h=>fun w0 p0 p σ tm ups w hr=>by
    unfold vc at h
    refine wp_scope_straight (Code.wp_mono (fun e a' w' hq=>?_) (vc_sound hT c h w0 p0 p σ tm ups w hr))
    obtain⟨hd,s',p',σ',hq,hr'⟩:=hq
    cases e with
    | goto l=>exact hq.elim
    | _=>exact⟨hd,s',p',σ',hq,hr'⟩
  | .goto _,Q,s,h=>h
  | .refuse _,Q,s,h=>h

/-- The first state of a function. -/
def start (args:List AV) (n:Nat):St:={ t:=(List.range args.length).zip args,n:=n,up:=[],b:=[],o:=[] }

def resVals (T:TypeId→Option TI) (s:St):List ResultVar→List AV
  | []=>[]
  | .tmp t::r=>s.get t::resVals T s r
  | .cell a t::r=>(match resCell T s a t with | some x=>x | none=>.l .unk)::resVals T s r

/-- What a function's body must come to. -/
def retQ (T:TypeId→Option TI) (rs:List ResultVar) (R:List CV→Prop):Exit→St→Prop:=fun e s=>match e with
  | .ret | .normal=>∃cv,closeVs s (resVals T s rs)=some cv∧R cv
  | _=>False

theorem run_results2 (hT:∀t i,T t=some i→TIok P t i) (h:Rel w0 p0 p σ s tm ups w) {fn:Func} {rs:List ResultVar} (hrs:fn.results.toList=rs) {cv:List CV} (hc:closeVs s (resVals T s rs)=some cv) :
    ∃v,(results fn tm).run P w=.ok v w∧RepR w (pAll p σ s) cv v:=by
  have hfn:fn.results=rs.toArray:=by apply Array.ext'; simpa using hrs
  have main:∀(l:List ResultVar) (acc:List CV),closeVs s (resVals T s l)=some acc →
      ∃vs:List Value,((l.mapM fun (x:ResultVar)=>match x with | .tmp t=>Pure.pure (tm.getD t undef) | .cell a t=>(do loadVar t (←asAddr (tm.getD a undef)))):Sem (List Value)).run P w=.ok vs w∧All2 (RepCV w (pAll p σ s)) acc vs∧vs.length=l.length:=by
    intro l
    induction l with
    | nil=>intro acc h; cases h; exact⟨[],rfl,All2.nil,rfl⟩
    | cons x l ih=>
      intro acc hc
      cases x with
      | cell a t=>
        simp only[resVals] at hc
        unfold closeVs at hc
        cases hx:resCell T s a t with
        | none=>rw[hx] at hc; simp[closeV,closeF,closeL] at hc
        | some x=>
          rw[hx] at hc
          simp only at hc
          split at hc <;> try cases hc
          rename_i c1 c2 ha hb
          obtain⟨vs,h1,h2,h3⟩:=ih _ hb
          obtain⟨v,hv,hrep,_⟩:=run_resCell hT h hx
          refine⟨v::vs,?_,All2.cons (closeV_rep h hrep ha) h2,by simp[h3]⟩
          rw[List.mapM_cons]
          simp only[Sem.run_bind] at hv
          simp only[Sem.run_bind,Sem.run_pure,Result.andThen_ok,h1,hv]
      | tmp t=>
        simp only[resVals] at hc
        unfold closeVs at hc
        split at hc <;> try cases hc
        rename_i a b ha hb
        obtain⟨vs,h1,h2,h3⟩:=ih _ hb
        refine⟨tm.getD t undef::vs,?_,All2.cons (closeV_rep h (h.t.2 t) ha) h2,by simp[h3]⟩
        rw[List.mapM_cons]
        simp only[Sem.run_bind,Sem.run_pure,Result.andThen_ok,h1]
  obtain⟨vs,h1,h2,h3⟩:=main rs cv hc
  have hlen:cv.length=vs.length:=h2.1
  refine⟨if h:vs.toArray.size=1 then vs.toArray[0] else .tuple vs.toArray,?_,?_⟩
  · unfold results
    rw[hfn,List.mapM_toArray]
    simp only[Sem.run_bind,Sem.run_map]
    erw [h1]
    simp only[Result.andThen_ok]
    rw[Sem.run_pure]
  · match cv,vs,h2,hlen with
    | [],[],h2,_=>exact⟨[],rfl,h2⟩
    | [c],[v],h2,_=>
      simp only[List.size_toArray,List.length_cons,List.length_nil,Nat.zero_add,dif_pos]
      exact h2.2 0 c v rfl rfl
    | c::c2::r,v::v2::r2,h2,_=>
      rw[dif_neg (by simp)]
      exact⟨_,rfl,h2⟩

theorem FnOk.of {f:FuncId} {fn:Func} {c:Code} (hf:P.funcs[f]?=some fn) (hb:fn.body=some c) (hn:(fn.name == "runtime.NumGoroutine")=false):FnOk P f:=⟨fn,hf,hn,by rw[hb]; rfl⟩

def inlQ (T:TypeId→Option TI) (rs:List ResultVar) (K:AV→St→Prop):Exit→St→Prop:=fun e s=>match e with
  | .ret | .normal=>∃r s2,resultsAV T s rs=some r∧s.leave=some s2∧K r s2
  | _=>False

theorem leave_rel (h:Rel w0 p0 p σ s tm ups w) {s2:St} (hl:s.leave=some s2):∃tm' ups',ups=tm'::ups'∧Rel w0 p0 p σ s2 tm' ups' w:=by
  unfold St.leave at hl
  split at hl <;> try cases hl
  rename_i f up hup
  have hu:=h.up
  rw[hup] at hu
  obtain⟨a,az,rfl,h1,h2⟩:=hu.cons_inv
  exact⟨a,az,rfl,⟨h.below,h.pin,h.pnew,h.plt,h1,h2,h.b,h.o,h.apart⟩⟩

end
end Go.VC
namespace Go.VC
open Go.RowKit (Below)

section
variable {P:Program} {T:TypeId→Option TI}

theorem TIok.of {t:TypeId} {i:TI} {d:TypeDesc} (z:Value) (hd:P.underlying t=some d) (hk:DescOk d i.k) (hi:(P.info? t).map (fun j=>(j.zero,j.size,j.bytes))=some (some z,i.size,i.bytes))
    (hz:z.cells.toList.map constL=i.zero) (hs:z.cells.size=i.size) (h1:z.cells.toList.all (·.oneCell')=true):TIok P t i:=by
  obtain⟨j,hj,h⟩:=Option.map_eq_some_iff.1 hi
  simp only[Prod.mk.injEq] at h
  exact⟨⟨d,hd,hk⟩,j,z,hj,h.2.1,h.2.2,h.1,hz,hs,fun v hv=>List.all_eq_true.1 h1 v hv⟩

/-- The fields of a struct, one by one. -/
theorem fields_of {F:List Field} {fs:List (Nat×TypeId)} (h:F.map (fun f=>(f.offset,f.type))=fs):DescOk (.struct F.toArray) (.struct fs):=by
  refine⟨_,rfl,by rw[←h]; simp,fun f off ft hf=>?_⟩
  rw[←h,List.getElem?_map] at hf
  obtain⟨x,hx,e⟩:=Option.map_eq_some_iff.1 hf
  cases e
  exact⟨x,by simpa using hx,rfl,rfl⟩

def FieldK (P:Program) (t:TypeId):Option IntKind→Prop
  | some k=>P.underlying t=some (.int k)
  | none=>P.underlying t=some .bool
theorem kd_some {x:SC} {k:IntKind} (h:x.kd=some k):∃n,x=.i k n:=by
  cases x with
  | i k' n=>cases h; exact⟨n,rfl⟩
  | b _=>cases h
theorem kd_none {x:SC} (h:x.kd=none):∃n,x=.b n:=by
  cases x with
  | i k' n=>cases h
  | b n=>exact⟨n,rfl⟩
/-- '==' of structs whose fields are all whole numbers or bools. -/
theorem eqTells_of {t:TypeId} {ks:List (Option IntKind)} {F:List Field} (hu:P.underlying t=some (.struct F.toArray)) (hp:P.stoodInHeld t=false) (hg:P.eqGuardType P.depth t=false)
    (hF:∀(i:Nat) f,F[i]?=some f→f.name ≠ "_" ∧ f.offset=i∧∃k,ks[i]?=some k∧FieldK P f.type k) (hn:F.length=ks.length):EqTells P t ks:=by
  intro w x y az bs ha hb op hop
  have hla:az.length=F.length:=by rw[hn,←ha,List.length_map]
  have hlb:bs.length=F.length:=by rw[hn,←hb,List.length_map]
  -- the fields, from one on
  have main:∀(d:Nat) (l:List Field) (q:Nat),(∀(i:Nat) f,l[i]?=some f→F[q+i]?=some f)→q+l.length=F.length →
      (Op.eqFields (d+1) (az.map SC.v).toArray (bs.map SC.v).toArray l).run P w=.ok (decide (az.drop q=bs.drop q)) w:=by
    intro d l
    induction l with
    | nil=>
      intro q _ hq
      simp only[List.length_nil,Nat.add_zero] at hq
      rw[List.drop_eq_nil_of_le (by omega),List.drop_eq_nil_of_le (by omega)]
      simp[Op.eqFields]
    | cons f l ih=>
      intro q hl hq
      simp only[List.length_cons] at hq
      have hf:=hl 0 f rfl
      obtain⟨h1,h2,k,hk,h3⟩:=hF _ _ hf
      rw[Nat.add_zero] at h2 hk
      have hqa:q<az.length:=by omega
      have hqb:q<bs.length:=by omega
      have hka:az[q].kd=k:=by
        have:=congrArg (·[q]?) ha
        simp only[List.getElem?_map,List.getElem?_eq_getElem hqa,Option.map_some,hk,Option.some.injEq] at this
        exact this
      have hkb:bs[q].kd=k:=by
        have:=congrArg (·[q]?) hb
        simp only[List.getElem?_map,List.getElem?_eq_getElem hqb,Option.map_some,hk,Option.some.injEq] at this
        exact this
      have hrow:∃d',P.underlying f.type=some d'∧d'.isRow=false:=by
        cases k with
        | some k=>exact⟨_,h3,rfl⟩
        | none=>exact⟨_,h3,rfl⟩
      obtain⟨d',h4,h5⟩:=hrow
      have part_of:∀(cs:List SC) (hc:q<cs.length),(part f.type (cs.map SC.v).toArray f.offset).run P w=.ok cs[q].v w:=by
        intro cs hc
        unfold part
        rw[Sem.run_bind,run_isAgg h4,Result.andThen_ok,h5]
        simp only[h2,Bool.false_eq_true,if_false,List.getElem?_toArray,List.getElem?_map,List.getElem?_eq_getElem hc,Option.map_some,Sem.run_pure]
      unfold Op.eqFields
      rw[if_pos h1]
      simp only[Sem.run_bind,part_of az hqa,part_of bs hqb,Result.andThen_ok]
      have he:(Op.equalIn (d+1) f.type az[q].v bs[q].v).run P w=.ok (decide (az[q]=bs[q])) w:=by
        cases k with
        | some k=>
          obtain⟨n,en⟩:=kd_some hka
          obtain⟨m,em⟩:=kd_some hkb
          have h3':P.underlying f.type=some (.int k):=h3
          rw[en,em]
          unfold Op.equalIn
          simp only[SC.v,Sem.run_bind,run_underlying h3',Result.andThen_ok]
          rw[if_pos trivial,Sem.run_pure]
          by_cases e:n=m
          · subst e; simp
          · simp[e]
        | none=>
          obtain⟨n,en⟩:=kd_none hka
          obtain⟨m,em⟩:=kd_none hkb
          have h3':P.underlying f.type=some .bool:=h3
          rw[en,em]
          unfold Op.equalIn
          simp only[SC.v,Sem.run_bind,run_underlying h3',Result.andThen_ok,Sem.run_pure]
          by_cases e:n=m
          · subst e; simp
          · simp[e]
      rw[he,Result.andThen_ok]
      have hd:az.drop q=az[q]::az.drop (q+1):=List.drop_eq_getElem_cons hqa
      have hd2:bs.drop q=bs[q]::bs.drop (q+1):=List.drop_eq_getElem_cons hqb
      by_cases e:az[q]=bs[q]
      · rw[decide_eq_true e]
        simp only[Bool.not_true,Bool.false_eq_true,if_false]
        rw[ih (q+1) (fun i g hg=>by have:=hl (i+1) g hg; rwa [show q+(i+1)=q+1+i by omega] at this) (by omega)]
        congr 1
        rw[hd,hd2]
        simp only[List.cons.injEq,e,true_and]
      · rw[decide_eq_false e]
        simp only[Bool.not_false,if_true,Sem.run_pure]
        congr 1
        rw[hd,hd2]
        simp only[List.cons.injEq,e,false_and,decide_false]
  have heq:(Op.equal t (.agg (az.map SC.v).toArray) (.agg (bs.map SC.v).toArray)).run P w=.ok (decide (az=bs)) w:=by
    have h1:P.fieldsOf t=F.toArray:=by unfold Program.fieldsOf; rw[hu]
    have h0:∀d,(Op.equalIn (d+1+1) t (.agg (az.map SC.v).toArray) (.agg (bs.map SC.v).toArray)).run P w=.ok (decide (az=bs)) w:=by
      intro d
      rw[run_equalIn_struct w (d+1) t _ _ (by rw[h1]; exact hu) hp,h1,List.toList_toArray]
      have:=main d F 0 (fun i f hf=>by rw[Nat.zero_add]; exact hf) (by rw[Nat.zero_add])
      rw[this]
      simp
    exact h0 9998
  have guard:∀op,op=.eql∨op=.neq→(eqGuard op t x y (.agg (az.map SC.v).toArray) (.agg (bs.map SC.v).toArray)).run P w=.ok () w:=by
    intro op hop
    rcases hop with rfl | rfl
    all_goals
      unfold eqGuard
      simp[hg]
  rcases hop with rfl | rfl
  · simp only[Sem.run_bind,guard .eql (.inl rfl),Result.andThen_ok]
    have e2:∀a b:Array Value,binOp .eql t (.agg a) (.agg b)=(do Pure.pure (.bool (←Op.equal t (.agg a) (.agg b)))):=fun _ _=>rfl
    rw[e2]
    simp only[Sem.run_bind,heq,Result.andThen_ok,Sem.run_pure,if_true]
  · simp only[Sem.run_bind,guard .neq (.inr rfl),Result.andThen_ok]
    have e2:∀a b:Array Value,binOp .neq t (.agg a) (.agg b)=(do Pure.pure (.bool (!(←Op.equal t (.agg a) (.agg b))))):=fun _ _=>rfl
    rw[e2]
    simp only[Sem.run_bind,heq,Result.andThen_ok,Sem.run_pure]
    rfl

theorem places_of (hT:∀t i,T t=some i→TIok P t i) (w:World):∀(F:List Field),(∀f∈F,(T f.type).isSome) →
    ∃l:List (Nat×Nat),(F.mapM (fun f=>do Pure.pure (f.offset,←sizeOf f.type)):Sem (List (Nat×Nat))).run P w=.ok l w∧l.length=F.length∧∀(q:Nat) f j,F[q]?=some f→T f.type=some j→l[q]?=some (f.offset,j.size)
  | [],_=>⟨[],rfl,rfl,fun q f j h=>by simp at h⟩
  | f::F,h=>by
    obtain⟨l,h1,h2,h3⟩:=places_of hT w F fun g hg=>h g (List.mem_cons_of_mem _ hg)
    obtain⟨j,hj⟩:=some_of_isSome (h f List.mem_cons_self)
    refine⟨(f.offset,j.size)::l,?_,by simp[h2],fun q g k hg hk=>?_⟩
    · rw[List.mapM_cons]
      simp only[Sem.run_bind,run_sizeOf' (hT _ _ hj),Result.andThen_ok,Sem.run_pure,h1]
    · cases q with
      | zero=>simp at hg; subst hg; rw[hj] at hk; cases hk; rfl
      | succ q=>simp at hg ⊢; exact h3 q g k hg hk

theorem TabOk.of (hm:P.follows .mixedOrders=true) (hT:∀t i,T t=some i→TIok P t i) (hE:∀t i,T t=some i→i.eq=true→∀ks,i.kds=some ks→EqTells P t ks)
    (hF:∀t i fs,T t=some i→i.k=.struct fs→fs.all (fun x=>(T x.2).isSome)=true):TabOk P T:=by
  refine⟨hT,hE,fun t i fs w hi hk=>?_,hm⟩
  obtain⟨d,hd,hdk⟩:=(hT t i hi).desc
  rw[hk] at hdk
  obtain⟨F,rfl,hlen,hff⟩:=hdk
  obtain⟨l,h1,h2,h3⟩:=places_of hT w F.toList fun f hf=>by
    obtain⟨q,hq⟩:=List.getElem?_of_mem hf
    have hql:q<fs.length:=by rw[←hlen]; have:=(List.getElem?_eq_some_iff.1 hq).1; simpa using this
    obtain⟨x,hx,_,hxt⟩:=hff q fs[q].1 fs[q].2 (List.getElem?_eq_getElem hql)
    have:x=f:=by
      have h4:F[q]?=some f:=by simpa using hq
      rw[hx] at h4; exact Option.some.inj h4
    rw[←this,hxt]
    exact List.all_eq_true.1 (hF t i fs hi hk) _ (List.getElem_mem hql)
  refine⟨F,hd,l.toArray,?_,fun q off ft j hq hj=>?_⟩
  · have e:F=F.toList.toArray:=by simp
    rw[e,List.mapM_toArray]
    simp only[Sem.run_map]
    rw[h1]
    rfl
  · obtain⟨x,hx,hxo,hxt⟩:=hff q off ft hq
    have:=h3 q x j (by simpa using hx) (by rw[hxt]; exact hj)
    rw[hxo] at this
    simpa using this

theorem assoc_all {Q:Nat→TI→Prop}:∀{l:List (Nat×TI)},(∀x∈l,Q x.1 x.2)→∀t i,assoc l t=some i→Q t i
  | [],_,t,i,h=>by cases h
  | (k,v)::r,hall,t,i,h=>by
    unfold assoc at h
    split at h
    · rename_i e; cases h; subst e; exact hall _ List.mem_cons_self
    · exact assoc_all (fun x hx=>hall x (List.mem_cons_of_mem _ hx)) t i h

end
end Go.VC
namespace Go.VC
open Go.RowKit (Below)

/-- Keeps what it tags out of the simplifier's way. -/
structure Tag {α:Type} (a:α):Type where
  n:Nat

section
variable {P:Program} {T:TypeId→Option TI} {L:List Nat} {Q:Exit→St→Prop} {s:St}






theorem effK_pick_2 {dst:Option Nat} {c:Operand} {a:Operand} {b:Operand} {ty:TypeId} {pos:String} {after:Array Edge} {g:Option (Nat×Bool)} {ρ:Operand→AV} {β:Nat→Option (List LV)} {ω:Nat→Option Own} {key:Nat} {K:Eff→Prop}:effK T ⟨dst,.pick c a b,ty,pos,after,g⟩ ρ β ω key K=((match ρ c with | .l (.d (.bool t))=>K { v:=pickV t (ρ a) (ρ b) } | _=>False)):=rfl



theorem effK_alloc_3 {dst:Option Nat} {e:TypeId} {ty:TypeId} {pos:String} {after:Array Edge} {g:Option (Nat×Bool)} {ρ:Operand→AV} {β:Nat→Option (List LV)} {ω:Nat→Option Own} {key:Nat} {K:Eff→Prop}:effK T ⟨dst,.alloc e,ty,pos,after,g⟩ ρ β ω key K=((match T e with | some i=>K { v:=.l (.ptr key 0),nb:=some (key,i.zero) } | none=>False)):=rfl



theorem effK_box_4 {dst:Option Nat} {ty0:TypeId} {x:Operand} {ty:TypeId} {pos:String} {after:Array Edge} {g:Option (Nat×Bool)} {ρ:Operand→AV} {β:Nat→Option (List LV)} {ω:Nat→Option Own} {key:Nat} {K:Eff→Prop}:effK T ⟨dst,.box ty0 x,ty,pos,after,g⟩ ρ β ω key K=((match cellsV (ρ x) with | some cs=>cs.all LV.ok=true∧K { v:=.l (.ptr key 0),nb:=some (key,cs) } | none=>False)):=rfl



theorem effK_load_5 {dst:Option Nat} {t:TypeId} {x:Operand} {ty:TypeId} {pos:String} {after:Array Edge} {g:Option (Nat×Bool)} {ρ:Operand→AV} {β:Nat→Option (List LV)} {ω:Nat→Option Own} {key:Nat} {K:Eff→Prop}:effK T ⟨dst,.load t x,ty,pos,after,g⟩ ρ β ω key K=((match T t with
    | some i=>0<i.size∧(match ρ x with
      | .l (.ptr k off)=>(match β k with | some cs=>off+i.size≤cs.length∧K { v:=loadV i cs off,use:=[k] } | none=>False)
      | .l (.dptr cells off)=>off+i.size≤cells.length∧K { v:=loadV i (cells.map .d) off }
      | .l (.eptr k r sz off)=>(match ω k with
        | some z=>z.2.1=sz∧∃row,z.2.2[r]?=some row∧off+i.size≤sz∧K { v:=loadV i (row.map .d) off,use:=[k] }
        | none=>False)
      | _=>False)
    | none=>False)):=rfl



theorem effK_fieldAddr_6 {dst:Option Nat} {t:TypeId} {x:Operand} {f:Nat} {ty:TypeId} {pos:String} {after:Array Edge} {g:Option (Nat×Bool)} {ρ:Operand→AV} {β:Nat→Option (List LV)} {ω:Nat→Option Own} {key:Nat} {K:Eff→Prop}:effK T ⟨dst,.fieldAddr t x f,ty,pos,after,g⟩ ρ β ω key K=((match T t with
    | some i=>(match i.k with
      | .struct fs=>(match fs[f]? with
        | some (off',ft)=>(match T ft with
          | some j=>0<j.size∧(match ρ x with
            | .l (.ptr k off)=>K { v:=.l (.ptr k (off+off')) }
            | .l (.dptr cs off)=>K { v:=.l (.dptr cs (off+off')) }
            | .l (.eptr k r sz off)=>K { v:=.l (.eptr k r sz (off+off')) }
            | _=>False)
          | none=>False)
        | none=>False)
      | _=>False)
    | none=>False)):=rfl



theorem effK_field_7 {dst:Option Nat} {t:TypeId} {x:Operand} {f:Nat} {ty:TypeId} {pos:String} {after:Array Edge} {g:Option (Nat×Bool)} {ρ:Operand→AV} {β:Nat→Option (List LV)} {ω:Nat→Option Own} {key:Nat} {K:Eff→Prop}:effK T ⟨dst,.field t x f,ty,pos,after,g⟩ ρ β ω key K=((match T t with
    | some i=>(match i.k with
      | .struct fs=>(match fs[f]? with
        | some (off',ft)=>(match T ft with
          | some j=>0<j.size∧(match ρ x with
            | .agg cs=>off'+j.size≤cs.length∧K { v:=loadV j cs off' }
            | _=>False)
          | none=>False)
        | none=>False)
      | _=>False)
    | none=>False)):=rfl



theorem effK_indexAddr_8 {dst:Option Nat} {t:TypeId} {x:Operand} {ix:Operand} {ty:TypeId} {pos:String} {after:Array Edge} {g:Option (Nat×Bool)} {ρ:Operand→AV} {β:Nat→Option (List LV)} {ω:Nat→Option Own} {key:Nat} {K:Eff→Prop}:effK T ⟨dst,.indexAddr t x ix,ty,pos,after,g⟩ ρ β ω key K=((match T t with
    | some i=>(match i.k with
      | .slice e=>(match T e with
        | some ie=>0<ie.size∧(match ρ x,ρ ix with
          | .l (.d (.sl rows)),.l (.d (.int _ n))=>0≤n∧∃row,rows[n.toNat]?=some row∧row.length=ie.size∧K { v:=.l (.dptr row 0) }
          | .l (.own k),.l (.d (.int _ n))=>(match ω k with
            | some z=>z.2.1=ie.size∧0≤n∧n<z.2.2.length∧K { v:=.l (.eptr k n.toNat ie.size 0),use:=[k] }
            | none=>False)
          | .l (.bsl k m sz),.l (.d (.int _ n))=>sz=ie.size∧0≤n∧n<(m:Int)∧K { v:=.l (.ptr k (n.toNat*sz)),use:=[k] }
          | _,_=>False)
        | none=>False)
      | _=>False)
    | none=>False)):=rfl



theorem effK_binOp_9 {dst:Option Nat} {op:BinOp} {t:TypeId} {x:Operand} {y:Operand} {ty0:TypeId} {ty:TypeId} {pos:String} {after:Array Edge} {g:Option (Nat×Bool)} {ρ:Operand→AV} {β:Nat→Option (List LV)} {ω:Nat→Option Own} {key:Nat} {K:Eff→Prop}:effK T ⟨dst,.binOp op t x y ty0,ty,pos,after,g⟩ ρ β ω key K=(binK T t op (ρ x) (ρ y) fun d=>K { v:=.l (.d d) }):=rfl



theorem effK_unOp_10 {dst:Option Nat} {ty0:TypeId} {x:Operand} {ty:TypeId} {pos:String} {after:Array Edge} {g:Option (Nat×Bool)} {ρ:Operand→AV} {β:Nat→Option (List LV)} {ω:Nat→Option Own} {key:Nat} {K:Eff→Prop}:effK T ⟨dst,.unOp .not ty0 x,ty,pos,after,g⟩ ρ β ω key K=((match ρ x with | .l (.d (.bool b))=>K { v:=.l (.d (.bool (!b))) } | _=>False)):=rfl



theorem effK_unOp_11 {dst:Option Nat} {ty0:TypeId} {x:Operand} {ty:TypeId} {pos:String} {after:Array Edge} {g:Option (Nat×Bool)} {ρ:Operand→AV} {β:Nat→Option (List LV)} {ω:Nat→Option Own} {key:Nat} {K:Eff→Prop}:effK T ⟨dst,.unOp .neg ty0 x,ty,pos,after,g⟩ ρ β ω key K=((match ρ x with | .l (.d (.int k n))=>K { v:=.l (.d (.int k (k.wrap (0-n)))) } | _=>False)):=rfl



theorem effK_convert_12 {dst:Option Nat} {src:TypeId} {dty:TypeId} {x:Operand} {ty:TypeId} {pos:String} {after:Array Edge} {g:Option (Nat×Bool)} {ρ:Operand→AV} {β:Nat→Option (List LV)} {ω:Nat→Option Own} {key:Nat} {K:Eff→Prop}:effK T ⟨dst,.convert src dty x,ty,pos,after,g⟩ ρ β ω key K=((∃i j,T src=some i∧T dty=some j∧match i.k,j.k,ρ x with
    | .int _,.int k,.l (.d (.int _ n))=>K { v:=.l (.d (.int k (k.wrap n))) }
    | _,_,_=>False)):=rfl



theorem effK_makeFunc_13 {dst:Option Nat} {f:FuncId} {first:(Array Operand)} {caps:(Array Operand)} {ty:TypeId} {pos:String} {after:Array Edge} {g:Option (Nat×Bool)} {ρ:Operand→AV} {β:Nat→Option (List LV)} {ω:Nat→Option Own} {key:Nat} {K:Eff→Prop}:effK T ⟨dst,.makeFunc (.func f) first caps,ty,pos,after,g⟩ ρ β ω key K=((match capsOf (caps.toList.map ρ) with | some cs=>(match mfOf f (first.toList.map ρ) cs with | some x=>K { v:=.l x } | none=>False) | none=>False)):=rfl



theorem effK_slice_14 {dst:Option Nat} {t:TypeId} {x:Operand} {lo:(Option Operand)} {hi:(Option Operand)} {mx:(Option Operand)} {ty:TypeId} {pos:String} {after:Array Edge} {g:Option (Nat×Bool)} {ρ:Operand→AV} {β:Nat→Option (List LV)} {ω:Nat→Option Own} {key:Nat} {K:Eff→Prop}:effK T ⟨dst,.slice t x lo hi mx,ty,pos,after,g⟩ ρ β ω key K=((match T t with
    | some i=>(match i.k with
      | .slice e=>(match T e with | some ie=>sliceK ie.size (ρ x) (lo.map ρ) (hi.map ρ) (mx.map ρ) ω K | none=>False)
      | _=>False)
    | none=>False)):=rfl



theorem effK_build_15 {dst:Option Nat} {t:TypeId} {parts:(Array (Nat×Operand))} {ty:TypeId} {pos:String} {after:Array Edge} {g:Option (Nat×Bool)} {ρ:Operand→AV} {β:Nat→Option (List LV)} {ω:Nat→Option Own} {key:Nat} {K:Eff→Prop}:effK T ⟨dst,.build t parts,ty,pos,after,g⟩ ρ β ω key K=((match T t with
    | some i=>(match i.k with
      | .struct fs=>(match fillL fs T (parts.toList.map fun x=>(x.1,ρ x.2)) i.zero with | some cs=>K { v:=.agg cs } | none=>False)
      | _=>False)
    | none=>False)):=rfl



theorem effK_buildSlice_16 {dst:Option Nat} {t:TypeId} {len:Nat} {parts:(Array (Nat×Operand))} {ty:TypeId} {pos:String} {after:Array Edge} {g:Option (Nat×Bool)} {ρ:Operand→AV} {β:Nat→Option (List LV)} {ω:Nat→Option Own} {key:Nat} {K:Eff→Prop}:effK T ⟨dst,.buildSlice t len parts,ty,pos,after,g⟩ ρ β ω key K=((match T t with
    | some i=>(match i.k with
      | .slice e=>(match T e with
        | some ie=>0<ie.size∧len*ie.size≤1000000∧(match litRows ie.size 0 (parts.toList.map fun x=>(x.1,ρ x.2)) with
          | some rows=>rows.length=len∧K { v:=.l (.own key),no:=some (key,e,ie.size,rows) }
          | none=>False)
        | none=>False)
      | _=>False)
    | none=>False)):=rfl



theorem effK_makeSlice_17 {dst:Option Nat} {t:TypeId} {l:Operand} {c:Operand} {ty:TypeId} {pos:String} {after:Array Edge} {g:Option (Nat×Bool)} {ρ:Operand→AV} {β:Nat→Option (List LV)} {ω:Nat→Option Own} {key:Nat} {K:Eff→Prop}:effK T ⟨dst,.makeSlice t l c,ty,pos,after,g⟩ ρ β ω key K=((match T t with
    | some i=>(match i.k with
      | .slice e=>(match T e with
        | some ie=>0<ie.size∧(match ρ l,ρ c,closeLs ie.zero with
          | .l (.d (.int _ n)),.l (.d (.int _ m)),some z=>n=m∧0≤n∧n*ie.bytes≤140737488355328∧n≤1000000000000∧K { v:=.l (.own key),no:=some (key,e,ie.size,List.replicate n.toNat z) }
          | _,_,_=>False)
        | none=>False)
      | _=>False)
    | none=>False)):=rfl



theorem effK_extract_18 {dst:Option Nat} {x:Operand} {i:Nat} {ty:TypeId} {pos:String} {after:Array Edge} {g:Option (Nat×Bool)} {ρ:Operand→AV} {β:Nat→Option (List LV)} {ω:Nat→Option Own} {key:Nat} {K:Eff→Prop}:effK T ⟨dst,.extract x i,ty,pos,after,g⟩ ρ β ω key K=((match ρ x with | .tup cs=>(match cs[i]? with | some (.l y)=>K { v:=.l y } | some (.agg y)=>K { v:=.agg y } | _=>False) | _=>False)):=rfl



theorem effK_nilCheck_19 {dst:Option Nat} {x:Operand} {ty:TypeId} {pos:String} {after:Array Edge} {g:Option (Nat×Bool)} {ρ:Operand→AV} {β:Nat→Option (List LV)} {ω:Nat→Option Own} {key:Nat} {K:Eff→Prop}:effK T ⟨dst,.nilCheck x,ty,pos,after,g⟩ ρ β ω key K=((match ρ x with | .l (.ptr k off)=>K { v:=.l (.ptr k off) } | .l (.dptr cs off)=>K { v:=.l (.dptr cs off) } | .l (.eptr k i sz off)=>K { v:=.l (.eptr k i sz off) } | _=>False)):=rfl




def getS {α:Type} (o:Option α) (K:α→Prop) (_:Tag K):Prop:=match o with | some row=>K row | none=>False
theorem getS_ex {α:Type} {o:Option α} {K:α→Prop} {g:Tag K}:getS o K g=∃a,o=some a∧K a:=by cases o <;> simp[getS]
/-! ### The same with one thing told apart at a time -/
def intK (x:AV) (K:IntKind→Int→Prop):Prop:=match x with | .l (.d (.int k a))=>K k a | _=>False
def boolK (x:AV) (K:Bool→Prop):Prop:=match x with | .l (.d (.bool a))=>K a | _=>False
def aggK (x:AV) (K:List LV→Prop):Prop:=match x with | .agg a=>K a | _=>False
def tyK (T:TypeId→Option TI) (t:TypeId) (K:TI→Prop):Prop:=match T t with | some i=>K i | none=>False
section
variable {t:TypeId} {x y:AV} {K:D→Prop}
end

def lenK (T:TypeId→Option TI) (t:TypeId) (x:AV) (ω:Nat→Option Own) (K:Eff→Prop):Prop:=tyK T t fun i=>match i.k with
    | .slice _=>(match x with
      | .l (.d (.sl rows))=>K { v:=.l (.d (.int .i64 rows.length)) }
      | .l .nil=>K { v:=.l (.d (.int .i64 0)) }
      | .l (.own k)=>(match ω k with | some y=>K { v:=.l (.d (.int .i64 y.2.2.length)),use:=[k] } | none=>False)
      | _=>False)
    | .str=>(match x with | .l (.d (.str s))=>K { v:=.l (.d (.int .i64 s.size)) } | _=>False)
    | _=>False
theorem callBK_len {t:TypeId} {x:AV} {ω:Nat→Option Own} {key:Nat} {K:Eff→Prop}:callBK T .len [t] [x] ω key K=lenK T t x ω K:=by
  unfold callBK lenK tyK
  simp only
  cases T t with
  | none=>simp
  | some i=>
    simp only[Option.some.injEq,exists_eq_left']
    cases i.k <;> try rfl
    · cases x with
      | l x=>cases x with
        | d x=>cases x <;> rfl
        | _=>rfl
      | _=>rfl
    · cases x with
      | l x=>cases x with
        | d x=>cases x <;> rfl
        | own k=>simp only; cases ω k <;> rfl
        | _=>rfl
      | _=>rfl
def appK (T:TypeId→Option TI) (t:TypeId) (x y:AV) (ω:Nat→Option Own) (key:Nat) (K:Eff→Prop):Prop:=tyK T t fun i=>match i.k with
    | .slice e=>tyK T e fun ie=>0<ie.size∧0<ie.bytes∧match rowsOf ω y with
      | some (ry,uy)=>(∀r∈ry,r.length=ie.size)∧(match x with
        | .l .nil=>ry.length*ie.bytes≤140737488355328∧K { v:=.l (.own key),no:=some (key,e,ie.size,ry),use:=uy }
        | .l (.own k)=>(match ω k with
          | some z=>z.1=e∧z.2.1=ie.size∧(z.2.2.length+ry.length)*ie.bytes≤140737488355328∧k ∉ uy∧K { v:=.l (.own key),no:=some (key,e,ie.size,z.2.2++ry),eat:=some k,use:=k::uy }
          | none=>False)
        | .l (.vw k sz lo hi full)=>lo=0∧full=true∧sz=ie.size∧0<ry.length∧(match ω k with
          | some z=>z.1=e∧z.2.1=ie.size∧hi≤z.2.2.length∧(hi+ry.length)*ie.bytes≤140737488355328∧K { v:=.l (.own key),no:=some (key,e,ie.size,z.2.2.take hi++ry),use:=k::uy }
          | none=>False)
        | _=>False)
      | none=>False
    | _=>False

theorem callBK_append {t t':TypeId} {x y:AV} {ω:Nat→Option Own} {key:Nat} {K:Eff→Prop}:callBK T .append [t,t'] [x,y] ω key K=(t=t'∧appK T t x y ω key K):=by
  unfold callBK appK tyK
  simp only
  refine propext (and_congr_right fun _=>?_)
  cases T t with
  | none=>simp
  | some i=>
    simp only[Option.some.injEq,exists_eq_left']
    cases i.k <;> simp only
    rename_i e
    cases T e with
    | none=>simp
    | some ie=>
      simp only[Option.some.injEq,exists_eq_left']
      refine and_congr_right fun _=>and_congr_right fun _=>?_
      cases rowsOf ω y with
      | none=>simp
      | some p => 
        obtain⟨a,b⟩:=p
        simp only[Option.some.injEq,Prod.mk.injEq]
        constructor
        · rintro⟨ry,uy,⟨rfl,rfl⟩,h⟩; exact h
        · intro h; exact⟨a,b,⟨rfl,rfl⟩,h⟩

def cellsK (v:AV) (K:List LV→Prop):Prop:=match cellsV v with | some cs=>K cs | none=>False
def stoK (T:TypeId→Option TI) (t:TypeId) (x v:AV) (s:St) (K:St→Prop):Prop:=tyK T t fun i=>cellsK v fun cs=>cs.length=i.size∧cs.all LV.ok=true∧(match x with
    | .l (.ptr k off)=>(match assoc s.b k with | some old=>off+i.size≤old.length∧K (s.setBox k (splice old off cs)) | none=>False)
    | .l (.eptr k r sz off)=>(match assoc s.o k with
      | some z=>(match closeLs cs with
        | some ds=>z.2.1=sz∧off+i.size≤sz∧getS z.2.2[r]? (fun row=>K (s.setOwn k (z.1,z.2.1,z.2.2.set r (splice row off ds)))) ⟨0⟩
        | none=>False)
      | none=>False)
    | _=>False)
theorem storeK_eq {t:TypeId} {x v:AV} {s:St} {K:St→Prop}:storeK T t x v s K=stoK T t x v s K:=by
  unfold storeK stoK tyK cellsK
  cases T t with
  | none=>simp
  | some i=>
    cases cellsV v with
    | none=>simp
    | some cs=>
      simp only
      congr 2
      split
      · rfl
      case h_3 h1 h2=>
        split
        · exact (h1 _ _ rfl).elim
        · exact (h2 _ _ _ _ rfl).elim
        · rfl
      rename_i k r sz off
      simp only
      cases assoc s.o k with
      | none=>rfl
      | some z=>
        cases closeLs cs with
        | none=>rfl
        | some ds=>
          simp only
          congr 2
          cases z.2.2[r]? <;> simp[getS]


def idxK (T:TypeId→Option TI) (t:TypeId) (x ix:AV) (ω:Nat→Option Own) (K:Eff→Prop):Prop:=tyK T t fun i=>match i.k with
  | .slice e=>tyK T e fun ie=>0<ie.size∧intK ix fun _ n=>(match x with
    | .l (.d (.sl rows))=>0≤n∧getS rows[n.toNat]? (fun row=>row.length=ie.size∧K { v:=.l (.dptr row 0) }) ⟨0⟩
    | .l (.own k)=>(match ω k with | some z=>z.2.1=ie.size∧0≤n∧n<z.2.2.length∧K { v:=.l (.eptr k n.toNat ie.size 0),use:=[k] } | none=>False)
    | .l (.bsl k m sz)=>sz=ie.size∧0≤n∧n<(m:Int)∧K { v:=.l (.ptr k (n.toNat*sz)),use:=[k] }
    | _=>False)
  | _=>False
theorem effK_idx {dst:Option Nat} {t:TypeId} {x:Operand} {ix:Operand} {ty:TypeId} {pos:String} {after:Array Edge} {g:Option (Nat×Bool)} {ρ:Operand→AV} {β:Nat→Option (List LV)} {ω:Nat→Option Own} {key:Nat} {K:Eff→Prop}:effK T ⟨dst,.indexAddr t x ix,ty,pos,after,g⟩ ρ β ω key K=idxK T t (ρ x) (ρ ix) ω K:=by
  rw[effK_indexAddr_8]
  unfold idxK tyK intK
  cases T t with
  | none=>rfl
  | some i=>
    simp only
    cases i.k <;> simp only
    rename_i e
    cases T e with
    | none=>rfl
    | some ie=>
      simp only
      refine congrArg _ ?_
      split
      · rename_i h1 h2; rw[h1,h2]; simp only[getS_ex]
      · rename_i h1 h2; rw[h1,h2]
      · rename_i h1 h2; rw[h1,h2]
      · rename_i h1 h2 h3
        split
        · rename_i hx
          split
          · rename_i hy; exact (h1 _ _ _ hy hx).elim
          · rename_i hy; exact (h2 _ _ _ hy hx).elim
          · rename_i hy; exact (h3 _ _ _ _ _ hy hx).elim
          · rfl
        · rfl

def mkK (T:TypeId→Option TI) (t:TypeId) (l c:AV) (key:Nat) (K:Eff→Prop):Prop:=tyK T t fun i=>match i.k with
  | .slice e=>tyK T e fun ie=>0<ie.size∧intK l fun _ n=>intK c fun _ m=>(match closeLs ie.zero with
      | some z=>n=m∧0≤n∧n*ie.bytes≤140737488355328∧n≤1000000000000∧K { v:=.l (.own key),no:=some (key,e,ie.size,List.replicate n.toNat z) }
      | none=>False)
  | _=>False
theorem effK_mk {dst:Option Nat} {t:TypeId} {l:Operand} {c:Operand} {ty:TypeId} {pos:String} {after:Array Edge} {g:Option (Nat×Bool)} {ρ:Operand→AV} {β:Nat→Option (List LV)} {ω:Nat→Option Own} {key:Nat} {K:Eff→Prop}:effK T ⟨dst,.makeSlice t l c,ty,pos,after,g⟩ ρ β ω key K=mkK T t (ρ l) (ρ c) key K:=by
  rw[effK_makeSlice_17]
  unfold mkK tyK intK
  cases T t with
  | none=>rfl
  | some i=>
    simp only
    cases i.k <;> simp only
    rename_i e
    cases T e with
    | none=>rfl
    | some ie=>
      simp only
      refine congrArg _ ?_
      split
      · rename_i h1 h2 h3; simp[h1,h2,h3]
      · rename_i h1
        split
        · rename_i hx
          split
          · rename_i hy
            split
            · rename_i hz; exact (h1 _ _ _ _ _ hx hy hz).elim
            · rfl
          · rfl
        · rfl

def cvK (T:TypeId→Option TI) (src dst:TypeId) (x:AV) (K:Eff→Prop):Prop:=tyK T src fun i=>tyK T dst fun j=>match i.k with
  | .int _=>(match j.k with | .int k=>intK x fun _ n=>K { v:=.l (.d (.int k (k.wrap n))) } | _=>False)
  | _=>False
theorem effK_cv {dst:Option Nat} {src:TypeId} {dty:TypeId} {x:Operand} {ty:TypeId} {pos:String} {after:Array Edge} {g:Option (Nat×Bool)} {ρ:Operand→AV} {β:Nat→Option (List LV)} {ω:Nat→Option Own} {key:Nat} {K:Eff→Prop}:effK T ⟨dst,.convert src dty x,ty,pos,after,g⟩ ρ β ω key K=cvK T src dty (ρ x) K:=by
  rw[effK_convert_12]
  unfold cvK tyK intK
  cases T src with
  | none=>simp
  | some i=>
    cases T dty with
    | none=>simp
    | some j=>
      simp only[Option.some.injEq,exists_and_left,exists_eq_left']
      cases i.k <;> try rfl
      cases j.k <;> try rfl
      simp only
      split <;> simp_all

def ldK (T:TypeId→Option TI) (t:TypeId) (x:AV) (β:Nat→Option (List LV)) (ω:Nat→Option Own) (K:Eff→Prop):Prop:=tyK T t fun i=>0<i.size∧(match x with
      | .l (.ptr k off)=>(match β k with | some cs=>off+i.size≤cs.length∧K { v:=loadV i cs off,use:=[k] } | none=>False)
      | .l (.dptr cells off)=>off+i.size≤cells.length∧K { v:=loadV i (cells.map .d) off }
      | .l (.eptr k r sz off)=>(match ω k with
        | some z=>z.2.1=sz∧off+i.size≤sz∧getS z.2.2[r]? (fun row=>K { v:=loadV i (row.map .d) off,use:=[k] }) ⟨0⟩
        | none=>False)
      | _=>False)
theorem effK_ld {dst:Option Nat} {t:TypeId} {x:Operand} {ty:TypeId} {pos:String} {after:Array Edge} {g:Option (Nat×Bool)} {ρ:Operand→AV} {β:Nat→Option (List LV)} {ω:Nat→Option Own} {key:Nat} {K:Eff→Prop}:effK T ⟨dst,.load t x,ty,pos,after,g⟩ ρ β ω key K=ldK T t (ρ x) β ω K:=by
  rw[effK_load_5]
  unfold ldK tyK
  cases T t with
  | none=>rfl
  | some i=>
    simp only
    refine congrArg _ ?_
    generalize ρ x=v
    cases v with
    | l v=>cases v with
      | eptr k r sz off=>
        simp only
        cases ω k with
        | none=>rfl
        | some z=>
          simp only[getS_ex]
          refine congrArg _ (propext ⟨?_,?_⟩)
          · rintro⟨row,h1,h2,h3⟩; exact⟨h2,row,h1,h3⟩
          · rintro⟨h2,row,h1,h3⟩; exact⟨row,h1,h2,h3⟩
      | _=>rfl
    | _=>rfl





end
end Go.VC
