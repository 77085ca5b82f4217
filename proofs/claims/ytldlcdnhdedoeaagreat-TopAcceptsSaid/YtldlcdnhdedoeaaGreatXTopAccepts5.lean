/- Part 16 of what follows is proved here: what the statement TopAccepts needs of functions and plain laws. -/
import Derived.Test.YtldlcdnhdedoeaaGreatXTopAccepts4
set_option linter.unusedVariables false
set_option linter.unusedSimpArgs false
namespace Go.VC
open Go.RowKit (Below)
/-! Operations with a lemma of their own: maps that are told, strings that are told, bytes. -/
section
variable {P:Program} {T:TypeId→Option TI} {w0:World} {p0 p:Nat→Prop} {σ:Nat→Value} {s:St} {tm:Array Value} {ups:List (Array Value)} {w w':World} {K:St→Prop}

/-- A pure operation. -/
theorem OpX.pure {o:Oper} (hd:dstLt o.dst s.n=true) (av:AV) (hk:K (s.put o.dst av))
    (hv:∀w0 p0 p σ tm ups w,Rel w0 p0 p σ s tm ups w→∃v,(execOp (Act.eval ⟨tm,[]⟩) o).run P w=.ok (.value v) w∧RepV σ w p av v):OpX P o s K:=by
  refine⟨fun w0 p0 p σ tm ups w Q h=>?_⟩
  obtain⟨v,hr,hrep⟩:=hv w0 p0 p σ tm ups w h
  unfold Oper.wp
  rw[hr,Oper.upon_value]
  exact⟨by cases o.dst <;> rfl,_,p,σ,hk,h.put o.dst av v (dstLt_spec hd) hrep []⟩

/-! A function held against nil. -/
theorem run_eq_fn {t:TypeId} {a:Array TypeId} {b:Array TypeId} {c:Bool} (hu:P.underlying t=some (.func a b c)) (x y:Operand) (f:Fn) (u v:Array Value):((do eqGuard .eql t x y (.func f u v) .nilFunc; binOp .eql t (.func f u v) .nilFunc):Sem Value).run P w=.ok (.bool false) w:=by
  have e:∀d,(Op.equalIn (d+1) t (.func f u v) .nilFunc).run P w=.ok false w:=by
    intro d
    unfold Op.equalIn
    simp only[Sem.run_bind,run_underlying hu,Result.andThen_ok,Sem.run_pure]
  have e1:eqGuard .eql t x y (.func f u v) .nilFunc=(Pure.pure ():Sem Unit):=rfl
  have e2:binOp .eql t (.func f u v) .nilFunc=(do Pure.pure (.bool (←Op.equal t (.func f u v) .nilFunc))):=rfl
  have e3:(Op.equal t (.func f u v) .nilFunc).run P w=.ok false w:=e 9999
  rw[e1,e2]
  simp only[Sem.run_bind,Sem.run_pure,Result.andThen_ok,e3]
theorem run_eq_nil {t:TypeId} {a:Array TypeId} {b:Array TypeId} {c:Bool} (hu:P.underlying t=some (.func a b c)) (x y:Operand):((do eqGuard .eql t x y .nilFunc .nilFunc; binOp .eql t .nilFunc .nilFunc):Sem Value).run P w=.ok (.bool true) w:=by
  have e:∀d,(Op.equalIn (d+1) t .nilFunc .nilFunc).run P w=.ok true w:=by
    intro d
    unfold Op.equalIn
    simp only[Sem.run_bind,run_underlying hu,Result.andThen_ok,Sem.run_pure]
  have e1:eqGuard .eql t x y .nilFunc .nilFunc=(Pure.pure ():Sem Unit):=rfl
  have e2:binOp .eql t .nilFunc .nilFunc=(do Pure.pure (.bool (←Op.equal t .nilFunc .nilFunc))):=rfl
  have e3:(Op.equal t .nilFunc .nilFunc).run P w=.ok true w:=e 9999
  rw[e1,e2]
  simp only[Sem.run_bind,Sem.run_pure,Result.andThen_ok,e3]
theorem fnS {o:Oper} {t t':TypeId} {x:Operand} {f:FuncId} {c:List (List D)} {a b:Array TypeId} {v:Bool} (ho:o.op=.binOp .eql t x (.const .nilFunc) t') (hd:dstLt o.dst s.n=true) (hx:s.eval x=.l (.d (.fn f c))) (hu:P.underlying t=some (.func a b v)) (h:putX s o.dst (.l (.d (.bool false))) K):OpX P o s K:=by
  rw[putX_eq] at h
  refine OpX.pure hd _ h fun w0 p0 p σ tm ups w hr=>⟨_,?_,.bool false⟩
  have hx':=hr.eval (ds:=[]) x
  rw[hx] at hx'
  obtain⟨vs,hv,_⟩:=fn_rep (σ:=σ) hx'
  unfold execOp
  simp only[ho]
  have:=run_eq_fn (P:=P) (w:=w) hu x (.const .nilFunc) (.func f) #[] vs.toArray
  rw[←hv] at this
  simp only[Sem.run_bind] at this ⊢
  rw[show Act.eval ⟨tm,[]⟩ (.const .nilFunc)=.nilFunc from rfl,this]
  rfl
theorem RepD_nilfn {v:Value} (h:RepD w p .nilfn v):v=.nilFunc:=by cases h; rfl
theorem fnN {o:Oper} {t t':TypeId} {x:Operand} {a b:Array TypeId} {v:Bool} (ho:o.op=.binOp .eql t x (.const .nilFunc) t') (hd:dstLt o.dst s.n=true) (hx:s.eval x=.l (.d .nilfn)) (hu:P.underlying t=some (.func a b v)) (h:putX s o.dst (.l (.d (.bool true))) K):OpX P o s K:=by
  rw[putX_eq] at h
  refine OpX.pure hd _ h fun w0 p0 p σ tm ups w hr=>⟨_,?_,.bool true⟩
  have hx':=hr.eval (ds:=[]) x
  rw[hx] at hx'
  have hv:Act.eval ⟨tm,[]⟩ x=.nilFunc:=RepD_nilfn hx'
  unfold execOp
  simp only[ho]
  have:=run_eq_nil (P:=P) (w:=w) hu x (.const .nilFunc)
  rw[hv]
  simp only[Sem.run_bind] at this ⊢
  rw[show Act.eval ⟨tm,[]⟩ (.const .nilFunc)=.nilFunc from rfl,this]
  rfl

/-! A string that is told, at an index. -/
theorem isS {R:Type} {r:R} {o:Oper} {t:TypeId} {str:ByteArray} {i:Operand} {n:Int} {f:Int→Option R} (l:List Int) (h:ix l n f=some r) (ho:o.op=.index t (.const (.string str)) i) (hd:dstLt o.dst s.n=true) (hi:s.eval i=.l (.d (.int .i64 n))) (hu:P.underlying t=some .string) (hl:str.data.toList.map (fun b=>(b.toNat:Int))=l)
    (k:∀x,f x=some r→putX s o.dst (.l (.d (.int .u8 x))) K):OpX P o s K:=by
  unfold ix at h
  by_cases h0:0≤n
  rotate_left
  · rw[decide_eq_false h0] at h; cases h
  rw[decide_eq_true h0] at h
  have h:ox l n.toNat f=some r:=h
  unfold ox at h
  cases hx:l[n.toNat]? with
  | none=>rw[hx] at h; cases h
  | some x=>
    rw[hx] at h
    have hk:=k x h
    rw[putX_eq] at hk
    refine OpX.pure hd _ hk fun w0 p0 p σ tm ups w hr=>⟨_,?_,.int .u8 x⟩
    have hi':=hr.eval (ds:=[]) i
    rw[hi] at hi'
    rw[←hl,List.getElem?_map,Array.getElem?_toList] at hx
    obtain⟨b,hb,rfl⟩:=Option.map_eq_some_iff.1 hx
    have hs:str[n.toNat]?=some b:=by
      have hlt:n.toNat<str.data.size:=(Array.getElem?_eq_some_iff.1 hb).1
      rw[getElem?_pos str n.toNat hlt]
      rw[Array.getElem?_eq_getElem hlt] at hb
      exact hb
    unfold execOp
    simp only[ho,RepD_int hi',Instr.index,asIntOf,Sem.run_bind,run_underlying hu,Result.andThen_ok,Sem.run_pure]
    rw[show Act.eval ⟨tm,[]⟩ (.const (.string str))=.string str from rfl]
    simp only[h0,if_true,hs,Sem.run_pure,Result.andThen_ok]

/-! A map that is told, at a key. -/
def lkV:List (List D)→IntKind→Int→D→Option D
  | [],_,_,z=>some z
  | [.int k' m,v]::r,k,n,z=>if k'=k then (if n=m then some v else lkV r k n z) else none
  | _::_,_,_,_=>none
def lkK:List (List D)→IntKind→Int→D→(D→Prop)→Prop
  | [],_,_,z,K=>K z
  | [.int k' m,v]::r,k,n,z,K=>keq k' k (forkK (decide (n=m)) (K v) (lkK r k n z K))
  | _::_,_,_,_,_=>False
theorem lkK_s {k:IntKind} {n:Int} {z:D} {K:D→Prop}:∀{rows:List (List D)},lkK rows k n z K→∃v,lkV rows k n z=some v∧K v
  | [],h=>⟨z,rfl,h⟩
  | row::r,h=>by
    rcases row with _ | ⟨x,_ | ⟨v,_ | ⟨q,t⟩⟩⟩
    · exact h.elim
    · cases x <;> exact h.elim
    rotate_left
    · cases x <;> exact h.elim
    cases x <;> try exact h.elim
    rename_i k' m
    simp only[lkK] at h
    rw[keq_iff,forkK_eq] at h
    obtain⟨rfl,h1,h2⟩:=h
    by_cases c:n=m
    · exact⟨v,by simp only[lkV,if_true,if_pos c],h1 (decide_eq_true c)⟩
    · obtain⟨v',e1,e2⟩:=lkK_s (h2 (decide_eq_false c))
      exact⟨v',by simp only[lkV,if_true,if_neg c]; exact e1,e2⟩
theorem findNow_of {k:IntKind} {n:Int} {z v:D}:∀{rows:List (List D)} {es:List MapEntry} {i:Nat},All2 (fun r (e:MapEntry)=>∃x y,r=[x,y]∧RepD w p x e.key∧RepD w p y e.val) rows es→lkV rows k n z=some v →
    (∃j u,Instr.findNow (.int k) (.int k n) es i=some (some (j,u))∧RepD w p v u)∨(Instr.findNow (.int k) (.int k n) es i=some none∧v=z)
  | [],es,i,h,e=>by rw[h.nil_inv]; cases e; exact .inr ⟨rfl,rfl⟩
  | row::r,es,i,h,e=>by
    obtain⟨en,es',rfl,⟨x,y,hrow,hx,hy⟩,h2⟩:=h.cons_inv
    subst hrow
    cases x <;> simp only[lkV,reduceCtorEq] at e
    rename_i k' m
    split at e <;> try cases e
    rename_i hk
    subst hk
    have hkey:en.key=.int k' m:=RepD_int hx
    unfold Instr.findNow
    rw[hkey]
    simp only[Instr.sameNow,if_true]
    split at e
    · rename_i c
      cases e
      subst c
      simp only[beq_self_eq_true]
      exact .inl ⟨i,_,rfl,hy⟩
    · rename_i c
      rw[show (n == m)=false from beq_eq_false_iff_ne.2 c]
      simp only
      exact findNow_of h2 e
theorem mp_rep {rows:List (List D)} {v:Value} (h:RepD w p (.mp rows) v):∃g es c,v=.map (some g)∧p g∧w.heap[g]?=some (.map es c)∧All2 (fun r (e:MapEntry)=>∃x y,r=[x,y]∧RepD w p x e.key∧RepD w p y e.val) rows es.toList:=by
  cases h with
  | mp _ g es c ks vs hp hg hsz hrow he hk hv=>
    refine⟨g,es,c,rfl,hp,hg,by simp[hsz],fun i r e hr hes=>?_⟩
    obtain⟨x,y,rfl⟩:=hrow r (List.mem_of_getElem? hr)
    have:=he i e (by rw[←Array.getElem?_toList]; exact hes)
    exact⟨x,y,rfl,by rw[this.1]; exact hk i x y hr,by rw[this.2]; exact hv i x y hr⟩
theorem lkS {o:Oper} {t kt et:TypeId} {x i:Operand} {rows:List (List D)} {k:IntKind} {n:Int} {zd:D} {zv:Value} (ho:o.op=.lookup t x i false) (hd:dstLt o.dst s.n=true) (hx:s.eval x=.l (.d (.mp rows))) (hi:s.eval i=.l (.d (.int k n)))
    (ht:P.underlying t=some (.map kt et)) (hkt:P.underlying kt=some (.int k)) (hz:(P.info? et).map (·.zero)=some (some zv)) (hzd:constL zv=.d zd) (h:lkK rows k n zd fun v=>putX s o.dst (.l (.d v)) K):OpX P o s K:=by
  obtain⟨v,hv,hk⟩:=lkK_s h
  rw[putX_eq] at hk
  refine OpX.pure hd _ hk fun w0 p0 p σ tm ups w hr=>?_
  have hx':=hr.eval (ds:=[]) x
  have hi':=hr.eval (ds:=[]) i
  rw[hx] at hx'
  rw[hi] at hi'
  obtain⟨g,es,c,hm,hpg,hg,hall⟩:=mp_rep hx'
  have hiv:=RepD_int hi'
  obtain⟨inf,hinf,hzero⟩:=Option.map_eq_some_iff.1 hz
  have hck:∀b,(Instr.checkKey b 10000 kt (.int k n)).run P w=.ok () w:=fun b=>by
    unfold Instr.checkKey
    simp only[Sem.run_bind,run_underlying hkt,Result.andThen_ok,Sem.run_pure]
  have hgo:(getObj g).run P w=.ok (.map es c) w:=by simp[getObj,Sem.run,hg]
  have hzv:(zeroValue et).run P w=.ok zv w:=by
    simp only[zeroValue,typeInfo,Sem.run_bind,run_program,Result.andThen_ok,hinf,Sem.run_pure,hzero]
  rcases findNow_of (i:=0) hall hv with ⟨j,u,e1,e2⟩ | ⟨e1,e2⟩
  · refine⟨u,?_,e2⟩
    unfold execOp
    simp only[ho,hm,hiv,Instr.lookup,Instr.findKey,Sem.run_bind,run_underlying ht,run_underlying hkt,Result.andThen_ok,hgo,Sem.run_pure,hck,e1,Bool.false_eq_true,if_false]
  · refine⟨zv,?_,?_⟩
    · unfold execOp
      simp only[ho,hm,hiv,Instr.lookup,Instr.findKey,Sem.run_bind,run_underlying ht,run_underlying hkt,Result.andThen_ok,hgo,Sem.run_pure,hck,e1,hzv,Bool.false_eq_true,if_false]
    · have:=repL_const σ w p zv
      rw[hzd] at this
      rw[e2]; exact this
end
end Go.VC
