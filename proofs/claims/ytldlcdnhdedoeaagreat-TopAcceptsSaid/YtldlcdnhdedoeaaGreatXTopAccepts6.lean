/- Part 17 of what follows is proved here: what the statement TopAccepts needs of functions and plain laws. -/
import Derived.Test.YtldlcdnhdedoeaaGreatXTopAccepts5
set_option linter.unusedVariables false
set_option linter.unusedSimpArgs false
namespace Go.VC
open Go.RowKit (Below)
/-! A map that is made, filled, and never written again, in one region. -/
section
variable {P:Program} {T:TypeId→Option TI} {w0:World} {p0 p:Nat→Prop} {σ:Nat→Value} {s:St} {tm:Array Value} {ups:List (Array Value)} {w w':World} {K:St→Prop}

/-- A block that nobody owns becomes one that doesn't change. -/
theorem Rel.freeze (h:Rel w0 p0 p σ s tm ups w) {g:Nat} (hb:w0.heap.size≤g) (hl:g<w.heap.size) (ap:∀k,s.live k→blk (σ k)≠some g):Rel w0 p0 (fun b=>p b∨b=g) σ s tm ups w:=by
  have h1:∀b,p b→p b∨b=g:=fun b hb=>.inl hb
  have hL:∀x v,RepL σ w p x v→RepL σ w (fun b=>p b∨b=g) x v:=by
    intro x v h4
    cases x with
    | d x=>exact RepD.mono h4 (fun _ _=>rfl) h1
    | dptr cells off=>obtain⟨ad,e,hc⟩:=h4; exact⟨ad,e,hc.mono (fun _ _=>rfl) h1⟩
    | func f caps=>
      obtain⟨vs,e,hc⟩:=h4
      refine⟨vs,e,hc.mono fun y v hy=>?_⟩
      cases y with
      | k j=>exact hy
      | c cells=>obtain⟨b,e,hc⟩:=hy; exact⟨b,e,hc.mono (fun _ _=>rfl) h1⟩
    | _=>exact h4
  have hT:∀t n a,TOk σ w p t n a→TOk σ w (fun b=>p b∨b=g) t n a:=fun t n a ht=>⟨ht.1,fun i=>by have:=(ht.2 i).mapL (f:=fun y=>y) hL; rwa [AV.map_id] at this⟩
  refine⟨h.below,fun b hb'=>.inl (h.pin b hb'),fun b hb'=>?_,fun b hb'=>?_,hT _ _ _ h.t,h.up.mono fun f a hf=>hT _ _ _ hf,?_,?_,h.apart⟩
  · rcases hb' with h4 | rfl
    · exact h.pnew b h4
    · exact .inr hb
  · rcases hb' with h4 | rfl
    · exact h.plt b h4
    · exact hl
  · intro k cs hk
    obtain⟨g',ty,vs,e,hba,hp,hg,hr⟩:=h.b k cs hk
    refine⟨g',ty,vs,e,hba,fun hp'=>?_,hg,hr.mono hL⟩
    rcases hp' with h4 | rfl
    · exact hp h4
    · exact ap k (.inl (by rw[hk]; rfl)) (by rw[e]; rfl)
  · intro k x hk
    obtain⟨xs,ho1,ho2,ho3,ho4⟩:=h.o k x hk
    refine⟨xs,ho1,ho2,ho3.mono fun x v hr=>hr.mono (fun _ _=>rfl) h1,fun g' hg hp'=>?_⟩
    rcases hp' with h4 | rfl
    · exact ho4 g' hg h4
    · exact ap k (.inr (by rw[hk]; rfl)) hg
/-- A block that nobody owns, and nobody looks at, is changed. -/
theorem Rel.other (h:Rel w0 p0 p σ s tm ups w) {g:Nat} (hb:w0.heap.size≤g) (np:¬p g) (ap:∀k,s.live k→blk (σ k)≠some g) (hbel:Below w0.heap.size w0 w') (hsz:w.heap.size≤w'.heap.size) (hw:∀b,b<w.heap.size→b≠g→w'.heap[b]?=w.heap[b]?):Rel w0 p0 p σ s tm ups w':=by
  have hpw:∀b,p b→w'.heap[b]?=w.heap[b]?:=fun b hb'=>hw b (h.plt b hb') fun e=>np (e ▸ hb')
  have hL:∀x v,RepL σ w p x v→RepL σ w' p x v:=fun x v hr=>hr.world hpw
  have hT:∀t n a,TOk σ w p t n a→TOk σ w' p t n a:=fun t n a ht=>⟨ht.1,fun i=>by have:=(ht.2 i).mapL (f:=fun y=>y) hL; rwa [AV.map_id] at this⟩
  refine⟨hbel,h.pin,h.pnew,fun b hb'=>Nat.lt_of_lt_of_le (h.plt b hb') hsz,hT _ _ _ h.t,h.up.mono fun f a hf=>hT _ _ _ hf,?_,?_,h.apart⟩
  · intro k cs hk
    obtain⟨g',ty,vs,e,hba,hp,hg,hr⟩:=h.b k cs hk
    have hlt:=((h.b k cs hk).lt g' (by rw[e]; rfl)).1
    refine⟨g',ty,vs,e,hba,hp,?_,hr.mono hL⟩
    rw[hw g' hlt fun e'=>ap k (.inl (by rw[hk]; rfl)) (by rw[e,←e']; rfl)]; exact hg
  · intro k x hk
    obtain⟨xs,ho1,ho2,ho3,ho4⟩:=h.o k x hk
    exact⟨xs,ownsRow_block ho1 fun g' hg=>hw g' ((h.o k x hk).lt g' hg).1 fun e'=>ap k (.inr (by rw[hk]; rfl)) (by rw[←e']; exact hg),ho2,ho3.mono fun x v hr=>hr.mono hpw (fun _ h=>h),ho4⟩

def MapRep (w:World) (p:Nat→Prop) (rows:List (List D)) (es:List MapEntry):Prop:=All2 (fun r (e:MapEntry)=>∃k n y,r=[D.int k n,y]∧e.key=.int k n∧RepD w p y e.val) rows es
structure MapR (w0:World) (p0 p:Nat→Prop) (σ:Nat→Value) (s:St) (tm:Array Value) (ups:List (Array Value)) (w:World) (d g:Nat) (rows:List (List D)):Prop where
  rel:Rel w0 p0 p σ s tm ups w
  slot:tm.getD d undef=.map (some g)
  base:w0.heap.size≤g
  np:¬p g
  ap:∀k,s.live k→blk (σ k)≠some g
  m:∃es c,w.heap[g]?=some (.map es c)∧MapRep w p rows es.toList
/-- What is left of the region, in slot d a map of these rows. -/
structure MapL (P:Program) (ops:Array Oper) (l:List Oper) (d:Nat) (rows:List (List D)) (s:St) (K:St→Prop):Prop where
  h:∀w0 p0 p σ tm ups w g,MapR w0 p0 p σ s tm ups w d g rows→∀Q:Exit→Act→World→Prop,(∀a w,NextOk w0 p0 ups K a w→Q .normal a w)→wpList P ops Q l ⟨tm,[]⟩ w
theorem MapR.lt {d g:Nat} {rows:List (List D)} (h:MapR w0 p0 p σ s tm ups w d g rows):g<w.heap.size:=by
  obtain⟨es,c,hg,_⟩:=h.m
  exact (Array.getElem?_eq_some_iff.1 hg).1
theorem wl_cons {ops:Array Oper} {o:Oper} {rest:List Oper} {Q:Exit→Act→World→Prop} (hg:o.guard=none) (h:o.wp P ⟨tm,[]⟩ w (wpList P ops Q rest) Q):wpList P ops Q (o::rest) ⟨tm,[]⟩ w:=by
  unfold wpList
  have hw:Region.wanted o (yielded ops tm)=true:=by simp[Region.wanted,hg]
  rw[if_pos hw]
  exact .inl h
theorem mp_call {ops:Array Oper} {o:Oper} {rest:List Oper} {d e f f1:Nat} {ats:Array TypeId} {rows:List (List D)} {r:D} (ho:o.op=.call ⟨.value (.func f),#[.func f1],ats⟩) (hd:o.dst=some e) (hg:o.guard=none) (hne:Nat.beq d e=false) (hlt:Nat.blt e s.n=true)
    (hs:Spec P f [.d (.fn f1 [])] (fun y=>y=[.d r])) (h:MapL P ops rest d rows (s.put (some e) (.l (.d r))) K):MapL P ops (o::rest) d rows s K:=by
  refine⟨fun w0 p0 p σ tm ups w g hr Q hQ=>wl_cons hg ?_⟩
  have hrun:(execOp (Act.eval ⟨tm,[]⟩) o).run P w=.ok (.enter f #[.func (.func f1) #[] #[]]) w:=by
    unfold execOp
    have e1:Act.eval ⟨tm,[]⟩ (.func f)=.func (.func f) #[] #[]:=rfl
    have e2:Act.eval ⟨tm,[]⟩ (.func f1)=.func (.func f1) #[] #[]:=rfl
    simp only[ho,resolve,e1,Deferred.ofValue,Sem.run_bind,Sem.run_pure,Result.andThen_ok,invoke]
    rw[show (#[]++Array.map (Act.eval ⟨tm,[]⟩) #[Operand.func f1]++#[])=#[Value.func (.func f1) #[] #[]] by simp; rfl]
    exact run_callFunc hs.1 _
  unfold Oper.wp
  rw[hrun,Oper.upon_enter]
  have hfn:RepD w p (.fn f1 []) (.func (.func f1) #[] #[]):=RepD.fn f1 [] [] (fun _ _=>undef) rfl (fun b h=>by cases h) (fun i j b cs x h=>by simp at h) (fun i j cs x h=>by simp at h)
  refine (hs.2 w p [_] (fun b hb=>hr.rel.plt b hb) (All2.cons hfn All2.nil)).mono ?_
  rintro ex w' ⟨v,rs,p',rfl,rfl,hrep,hb,h1,h2,h3⟩
  simp only
  rw[hd,show Act.put ⟨tm,[]⟩ (some e) v=⟨(Act.put ⟨tm,[]⟩ (some e) v).tmps,[]⟩ from rfl]
  have hlt':e<s.n:=blt_t.1 hlt
  have hde:¬d=e:=fun c=>by subst c; rw[Nat.beq_refl] at hne; cases hne
  refine h.h w0 p0 p' σ _ ups w' g ⟨(hr.rel.called hb h1 h2 h3).put (some e) (.l (.d r)) v (fun d' he=>by cases he; exact hlt') hrep [],?_,hr.base,?_,hr.ap,?_⟩ Q hQ
  · have hs:=hr.slot
    show (tm.setIfInBounds e v).getD d undef=_
    rw[Array.getD_eq_getD_getElem?] at hs ⊢
    rw[Array.getElem?_setIfInBounds_ne (fun c=>hde c.symm)]
    exact hs
  · intro hp
    rcases h2 g hp with h4 | h4
    · exact hr.np h4
    · have:=hr.lt; omega
  · obtain⟨es,c,hgm,hm⟩:=hr.m
    refine⟨es,c,by rw[hb.block g hr.lt]; exact hgm,hm.mono ?_⟩
    rintro row en ⟨k,n,y,a1,a2,a3⟩
    exact⟨k,n,y,a1,a2,(a3.mono (fun b hb'=>hb.block b (hr.rel.plt b hb')) (fun _ h=>h)).mono (fun _ _=>rfl) h1⟩
def fnD:AV→Option D
  | .l (.d v)=>some v
  | .l (.func f [])=>some (.fn f [])
  | _=>none
theorem fnD_rep {x:AV} {v:D} {u:Value} (h:RepV σ w p x u) (e:fnD x=some v):RepD w p v u:=by
  unfold fnD at e
  split at e
  · cases e; exact h
  · cases e
    obtain⟨vs,rfl,hc⟩:=h
    rw[hc.nil_inv]
    exact RepD.fn _ [] [] (fun _ _=>undef) rfl (fun b h=>by cases h) (fun i j b cs x h=>by simp at h) (fun i j cs x h=>by simp at h)
  · cases e
def freshK (k:IntKind) (n:Int):List (List D)→Bool
  | []=>true
  | [.int k' m,_]::r=>decide (k'=k) && !decide (n=m) && freshK k n r
  | _::_=>false
theorem find_fresh {k:IntKind} {n:Int}:∀{rows:List (List D)} {es:List MapEntry} {i:Nat},MapRep w p rows es→freshK k n rows=true→Instr.findNow (.int k) (.int k n) es i=some none
  | [],es,i,h,_=>by rw[All2.nil_inv h]; rfl
  | row::r,es,i,h,hf=>by
    obtain⟨en,es',rfl,⟨k',m,y,rfl,hkey,_⟩,h2⟩:=All2.cons_inv h
    simp only[freshK,Bool.and_eq_true,decide_eq_true_eq,Bool.not_eq_true',decide_eq_false_iff_not] at hf
    obtain⟨⟨rfl,h1⟩,h3⟩:=hf
    unfold Instr.findNow
    rw[hkey]
    simp only[Instr.sameNow,if_true]
    rw[show (n == m)=false from beq_eq_false_iff_ne.2 h1]
    simp only
    exact find_fresh h2 h3
theorem mp_ins {ops:Array Oper} {o:Oper} {rest:List Oper} {d:Nat} {t kt et:TypeId} {x:Operand} {k:IntKind} {n:Int} {rows:List (List D)} {v:D} (ho:o.op=.insert t (.tmp d) (.const (.int k n)) x) (hd:o.dst=none) (hg:o.guard=none) (hv:fnD (s.eval x)=some v)
    (ht:P.underlying t=some (.map kt et)) (hkt:P.underlying kt=some (.int k)) (hf:freshK k n rows=true) (h:MapL P ops rest d (rows++[[.int k n,v]]) s K):MapL P ops (o::rest) d rows s K:=by
  refine⟨fun w0 p0 p σ tm ups w g hr Q hQ=>wl_cons hg ?_⟩
  obtain⟨es,c,hgm,hm⟩:=hr.m
  have hx:=fnD_rep (hr.rel.eval (ds:=[]) x) hv
  have hck:∀b,(Instr.checkKey b 10000 kt (.int k n)).run P w=.ok () w:=fun b=>by
    unfold Instr.checkKey
    simp only[Sem.run_bind,run_underlying hkt,Result.andThen_ok,Sem.run_pure]
  have hgo:(getObj g).run P w=.ok (.map es c) w:=by simp[getObj,Sem.run,hgm]
  have hfind:=find_fresh (i:=0) hm hf
  have hlt:=hr.lt
  let en:MapEntry:={ key:=.int k n,val:=Act.eval ⟨tm,[]⟩ x,born:=c }
  let w':World:={ w with heap:=w.heap.setIfInBounds g (.map (es.push en) (c+1)) }
  have hset:(setObj g (.map (es.push en) (c+1))).run P w=.ok () w':=by simp[setObj,Sem.run,w',hgm]
  have hrun:(execOp (Act.eval ⟨tm,[]⟩) o).run P w=.ok .skip w':=by
    unfold execOp
    have e1:Act.eval ⟨tm,[]⟩ (.tmp d)=.map (some g):=hr.slot
    have e2:Act.eval ⟨tm,[]⟩ (.const (.int k n))=.int k n:=rfl
    simp only[ho,e1,e2,Instr.mapUpdate,Instr.findKey,Sem.run_bind,run_underlying ht,run_underlying hkt,Result.andThen_ok,hgo,Sem.run_pure,hck,hfind]
    rw[hset]; rfl
  unfold Oper.wp
  rw[hrun,Oper.upon_skip,hd]
  have hblk:∀b,b≠g→w'.heap[b]?=w.heap[b]?:=fun b hb=>by
    show (w.heap.setIfInBounds g _)[b]?=_
    rw[Array.getElem?_setIfInBounds_ne (fun c=>hb c.symm)]
  have hbel:Below w0.heap.size w0 w':=⟨hr.rel.below.os,hr.rel.below.tape,hr.rel.below.output,by show _≤(w.heap.setIfInBounds g _).size; rw[Array.size_setIfInBounds]; exact hr.rel.below.size,fun b hb=>by
    rw[hblk b (by have:=hr.base; omega)]; exact hr.rel.below.block b hb⟩
  have hrel:=hr.rel.other hr.base hr.np hr.ap hbel (by show _≤(w.heap.setIfInBounds g _).size; rw[Array.size_setIfInBounds]; exact Nat.le_refl _) (fun b _ hb=>hblk b hb)
  have hpw:∀b,p b→w'.heap[b]?=w.heap[b]?:=fun b hb=>hblk b fun e=>hr.np (e ▸ hb)
  refine h.h w0 p0 p σ tm ups w' g ⟨hrel,hr.slot,hr.base,hr.np,hr.ap,es.push en,c+1,?_,?_⟩ Q hQ
  · show (w.heap.setIfInBounds g _)[g]?=_
    rw[Array.getElem?_setIfInBounds_self]
    simp[hlt]
  · rw[Array.toList_push]
    refine All2.append (hm.mono ?_) (All2.cons ⟨k,n,v,rfl,rfl,hx.mono hpw (fun _ h=>h)⟩ All2.nil)
    rintro row e' ⟨k',m,y,a1,a2,a3⟩
    exact⟨k',m,y,a1,a2,a3.mono hpw (fun _ h=>h)⟩
theorem mp_end (hT:TabOk P T) {ops:Array Oper} {l:List Oper} {d:Nat} {rows:List (List D)} (hd:Nat.blt d s.n=true) (h:fS (s.put (some d) (.l (.d (.mp rows)))) fun s=>xOps P T ops l s K):MapL P ops l d rows s K:=by
  rw[fS_eq] at h
  refine⟨fun w0 p0 p σ tm ups w g hr Q hQ=>?_⟩
  obtain⟨es,c,hgm,hm⟩:=hr.m
  have hrel:=hr.rel.freeze hr.base hr.lt hr.ap
  have hrep:RepD w (fun b=>p b∨b=g) (.mp rows) (.map (some g)):=by
    refine RepD.mp rows g es c (fun i=>match es[i]? with | some e=>e.key | none=>undef) (fun i=>match es[i]? with | some e=>e.val | none=>undef) (.inr rfl) hgm (by have:=hm.1; simpa using this.symm) (fun r hr=>?_) (fun i e he=>by simp only[he]; exact⟨trivial,trivial⟩) (fun i x y hi=>?_) (fun i x y hi=>?_)
    · obtain⟨i,hi⟩:=List.getElem?_of_mem hr
      obtain⟨e,_,k,n,y,a,_⟩:=All2.get hm hi
      exact⟨_,_,a⟩
    · obtain⟨e,he,k,n,y',a,b,_⟩:=All2.get hm hi
      rw[Array.getElem?_toList] at he
      cases a
      simp only[he,b]
      exact .int k n
    · obtain⟨e,he,k,n,y',a,_,b⟩:=All2.get hm hi
      rw[Array.getElem?_toList] at he
      cases a
      simp only[he]
      exact b.mono (fun _ _=>rfl) (fun _ h=>.inl h)
  have hr2:Rel w0 p0 (fun b=>p b∨b=g) σ (s.put (some d) (.l (.d (.mp rows)))) tm ups w:=by
    have ht:=hrel.t
    refine⟨hrel.below,hrel.pin,hrel.pnew,hrel.plt,⟨ht.1,fun i=>?_⟩,hrel.up,hrel.b,hrel.o,hrel.apart⟩
    show RepV σ w _ (getT (setT s.t d _) i) _
    rw[getT_setT]
    by_cases c:i=d
    · rw[if_pos c,c,hr.slot]; exact hrep
    · rw[if_neg c]; exact ht.2 i
  exact vcOps_sound hT (fun a w hn=>hQ a w hn) l hr2 (xOps_s h fun _ h=>h)
theorem AWp.map {id:Nat} {ops:Array Oper} {o:Oper} {rest:List Oper} {d:Nat} {t:TypeId} {Q:Exit→St→Prop} (hl:ops.toList=o::rest) (ho:o.op=.makeMap t none) (hd:o.dst=some d) (hg:o.guard=none) (hlt:Nat.blt d s.n=true)
    (h:fS (s.put (some d) (.l .unk)) fun s=>MapL P ops rest d [] s (Q .normal)):AWp P (.region id ops false) Q s:=by
  rw[fS_eq] at h
  intro w0 p0 p σ tm ups w hr
  refine wp_region_list ?_
  rw[hl]
  refine wl_cons hg ?_
  have hrun:(execOp (Act.eval ⟨tm,[]⟩) o).run P w=.ok (.value (.map (some w.heap.size))) (w.alloc (.map #[] 0)):=by
    unfold execOp
    simp only[ho,Option.map_none,Instr.makeMap,Sem.run_bind,Sem.run_pure,Result.andThen_ok,newObj]
    rfl
  unfold Oper.wp
  rw[hrun,Oper.upon_value,hd]
  have hblk:∀b,b<w.heap.size→(w.alloc (.map #[] 0)).heap[b]?=w.heap[b]?:=fun b hb=>by
    show (w.heap.push _)[b]?=_
    rw[Array.getElem?_push_lt hb,Array.getElem?_eq_getElem hb]
  have hbel:Below w.heap.size w (w.alloc (.map #[] 0)):=⟨rfl,rfl,rfl,by show _≤(w.heap.push _).size; simp,hblk⟩
  have hrel:=hr.called hbel (p':=p) (fun _ h=>h) (fun b h=>.inl h) (fun b h=>Nat.lt_of_lt_of_le (hr.plt b h) hbel.size)
  have hlt':d<s.n:=blt_t.1 hlt
  rw[show Act.put ⟨tm,[]⟩ (some d) (Value.map (some w.heap.size))=⟨(Act.put ⟨tm,[]⟩ (some d) (Value.map (some w.heap.size))).tmps,[]⟩ from rfl]
  refine h.h w0 p0 p σ _ ups _ w.heap.size ⟨hrel.put (some d) (.l .unk) _ (fun d' he=>by cases he; exact hlt') trivial [],?_,hr.below.size,fun hp=>Nat.lt_irrefl _ (hr.plt _ hp),fun k hk hb=>Nat.lt_irrefl _ (hr.live_lt (by exact hk) hb).1,#[],0,?_,All2.nil⟩ _ (fun a w hn=>?_)
  · show (tm.setIfInBounds d _).getD d undef=_
    have:=hr.t.1
    rw[Array.getD_eq_getD_getElem?,Array.getElem?_setIfInBounds_self]
    simp[show d<tm.size by omega]
  · show (w.heap.push _)[w.heap.size]?=_
    simp
  · exact hn
theorem WpF.reg {fn:Func} {R:List CV→Prop} {x y:Code} (h:AWp P x (fun e s'=>match e with | .normal=>WpF P fn R y s' | _=>False) s):WpF P fn R (.seq x y) s:=by
  refine⟨fun w0 p0 p σ tm w hr=>wpIn_seq (wpIn_mono (wpIn_wide.2 (h w0 p0 p σ tm [] w hr)) ?_)⟩
  rintro e a w' ⟨hd,s',p',σ',hq,hr'⟩
  obtain⟨t',d'⟩:=a
  simp only at hd
  subst hd
  cases e with
  | normal=>exact hq.h w0 p0 p' σ' t' w' hr'
  | _=>exact hq.elim
theorem WpF.ret (hT:TabOk P T) {fn:Func} {rs:List ResultVar} {R:List CV→Prop} (hrs:fn.results.toList=rs) (h:RetOk T rs R s):WpF P fn R .ret s:=
  ⟨fun w0 p0 p σ tm w hr=>wpIn_ret (LeavesM_nil (RetOk.fin hT hrs h hr))⟩
end
end Go.VC
