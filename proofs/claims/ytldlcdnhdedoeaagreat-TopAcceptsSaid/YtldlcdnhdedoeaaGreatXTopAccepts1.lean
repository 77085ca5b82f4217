/- Part 12 of what follows is proved here: what the statement TopAccepts needs of functions and plain laws. -/
import Derived.Test.YtldlcdnhdedoeaaGreatXTopAccepts0
import Derived.Test.YtldlcdnhdedoeaaGreatV8
import Derived.RangeFuncOwn
set_option linter.unusedVariables false
set_option linter.unusedSimpArgs false
namespace Go.VC
open Go.RowKit (Below)

/-! ### A loop over a function, of which at most one round is made -/
section
variable {P:Program} {T:TypeId→Option TI} {w0:World} {p0 p:Nat→Prop} {σ:Nat→Value} {s:St} {tm:Array Value} {ups:List (Array Value)} {w w':World}

/-- A block that is no cells turns. -/
theorem Rel.turned (h:Rel w0 p0 p σ s tm ups w) (hb:Below w0.heap.size w0 w') (hs:w.heap.size≤w'.heap.size) (hp:∀b,p b→w'.heap[b]?=w.heap[b]?)
    (hc:∀(g:Nat) (cs:Array Value) (ty:TypeId) (fz:Nat×Nat),w.heap[g]?=some (Obj.cells cs ty fz)→w'.heap[g]?=w.heap[g]?):Rel w0 p0 p σ s tm ups w':=by
  have hL:∀x v,RepL σ w p x v→RepL σ w' p x v:=fun x v hr=>hr.world hp
  have hT:∀t n a,TOk σ w p t n a→TOk σ w' p t n a:=fun t n a ht=>ht.world hp
  refine⟨hb,h.pin,h.pnew,fun b hb'=>Nat.lt_of_lt_of_le (h.plt b hb') hs,hT _ _ _ h.t,h.up.mono fun f a hf=>hT _ _ _ hf,?_,?_,h.apart⟩
  · intro k cs hk
    obtain⟨g,ty,vs,e,hba,hpg,hg,hr⟩:=h.b k cs hk
    exact⟨g,ty,vs,e,hba,hpg,by rw[hc g _ ty _ hg]; exact hg,hr.mono hL⟩
  · intro k x hk
    obtain⟨xs,ho1,ho2,ho3,ho4⟩:=h.o k x hk
    refine⟨xs,ownsRow_block ho1 fun g hg=>?_,ho2,ho3.mono fun x v hr=>hr.mono hp (fun _ h=>h),ho4⟩
    rcases ho1.2 with ⟨hv,_⟩ | ⟨g',cap,cur,hv,_,⟨fz,hg',_⟩,_⟩
    · rw[hv] at hg; cases hg
    · rw[hv] at hg; cases hg; exact hc _ _ _ _ hg'

/-! Plain operations, whatever fence, whatever calls are put off. -/
def plainOps (T:TypeId→Option TI):List Oper→St→(St→Prop)→Prop
  | [],s,K=>K s
  | o::r,s,K=>o.guard=none∧dstLt o.dst s.n=true∧match o.op with
    | .move x=>plainOps T r (s.put o.dst (s.eval x)) K
    | .assign x=>plainOps T r (s.put o.dst (s.eval x)) K
    | .store t x v=>o.dst=none∧∃k off,s.eval x=.l (.ptr k off)∧storeK T t (.l (.ptr k off)) (s.eval v) s fun s'=>plainOps T r s' K
    | _=>False

theorem put_ds (tm:Array Value) (ds:List Deferred) (dst:Option Nat) (v:Value):Act.put ⟨tm,ds⟩ dst v=⟨(Act.put ⟨tm,[]⟩ dst v).tmps,ds⟩:=by
  cases dst <;> rfl

theorem plain_wp (hT:TabOk P T) {F:Fence} (hF:∀f,F.fn f) {n:Nat} {ops:Array Oper} {ds:List Deferred} {Q:Exit→Act→World→Prop} :
    ∀(l:List Oper) {s:St} {tm:Array Value} {w:World} {K:St→Prop},Rel w0 p0 p σ s tm ups w→plainOps T l s K →
      (∀s' tm' w',K s'→Rel w0 p0 p σ s' tm' ups w'→w'.heap.size=w.heap.size→(∀(g:Nat) (o:Obj),w.heap[g]?=some o→o.isCells=false→w'.heap[g]?=some o)→Q .normal ⟨tm',ds⟩ w') →
      wpListIn F n P ops Q l ⟨tm,ds⟩ w
  | [],s,tm,w,K,h,he,hq=>hq s tm w he h rfl (fun _ _ h _=>h)
  | o::rest,s,tm,w,K,h,he,hq=>by
    unfold plainOps at he
    obtain⟨hg,hd,he⟩:=he
    have hd:=dstLt_spec hd
    unfold wpListIn
    have hw:Region.wanted o (yielded ops tm)=true:=by simp[Region.wanted,hg]
    rw[if_pos hw]
    refine⟨fun f _=>hF f,?_⟩
    split at he
    · rename_i x ho
      have hr:(execOp (Act.eval ⟨tm,ds⟩) o).run P w=.ok (.value (Act.eval ⟨tm,ds⟩ x)) w:=by unfold execOp; simp only[ho,Sem.run_pure]
      rw[Oper.semAt_eq _ _ _ (fun c hc=>by rw[ho] at hc; cases hc),hr,Oper.uponIn_value,put_ds]
      exact plain_wp hT hF rest (h.put o.dst _ _ hd (h.eval (ds:=ds) x) []) he hq
    · rename_i x ho
      have hr:(execOp (Act.eval ⟨tm,ds⟩) o).run P w=.ok (.value (Act.eval ⟨tm,ds⟩ x)) w:=by unfold execOp; simp only[ho,Sem.run_pure]
      rw[Oper.semAt_eq _ _ _ (fun c hc=>by rw[ho] at hc; cases hc),hr,Oper.uponIn_value,put_ds]
      exact plain_wp hT hF rest (h.put o.dst _ _ hd (h.eval (ds:=ds) x) []) he hq
    · rename_i t x v ho
      obtain⟨hdn,k,off,hx,he⟩:=he
      have hxr:=h.eval (ds:=ds) x
      have hvr:=h.eval (ds:=ds) v
      rw[hx] at hxr
      unfold storeK at he
      split at he <;> try exact he.elim
      rename_i i cs hi hcs
      obtain⟨hl,hok,he⟩:=he
      simp only at he
      split at he <;> try exact he.elim
      rename_i old hold
      obtain⟨hle,hk⟩:=he
      have hcv:=cellsV_ok hvr hcs hok
      have hsize:(Act.eval ⟨tm,ds⟩ v).cells.size=i.size:=by rw[←Array.length_toList,←hcv.1.1,hl]
      obtain⟨b,hb,hxv⟩:=hxr
      obtain⟨g,ty,vs,e,hbase,hpg,hgg,hr⟩:=h.b k old hold
      rw[e] at hb; cases hb
      have hrun:=run_store_cells (P:=P) (hT.ok t i hi) b off ty vs.toArray hgg (Act.eval ⟨tm,ds⟩ v) hsize (by simp[←hr.1]; omega) hcv.2
      have hex:(execOp (Act.eval ⟨tm,ds⟩) o).run P w=.ok .skip (w.setCells b off (Act.eval ⟨tm,ds⟩ v).cells.toList):=by
        unfold execOp
        simp only[ho,Sem.run_bind,hxv,hrun,Result.andThen_ok,Sem.run_pure]
      have hfr:∀b',p b'→(w.setCells b off (Act.eval ⟨tm,ds⟩ v).cells.toList).heap[b']?=w.heap[b']?:=fun b' hb=>heap_setCells_other b _ off w b' (fun e'=>hpg (e' ▸ hb))
      have hrel:Rel w0 p0 p σ (s.setBox k (splice old off cs)) tm ups (w.setCells b off (Act.eval ⟨tm,ds⟩ v).cells.toList):=by
        refine h.setBox k old _ hold (below_setCells b hbase _ off w h.below) (by rw[size_setCells]; exact Nat.le_refl _) (fun g' _ hne=>heap_setCells_other b _ off w g' (fun e'=>hne (by rw[e,e']; rfl))) ?_
        refine⟨b,ty,_,e,hbase,hpg,heap_setCells b ty _ off vs.toArray w hgg (by rw[Array.length_toList,hsize]; simp[←hr.1]; omega),?_⟩
        exact (hr.mono fun x v h=>h.world hfr).splice (hcv.1.mono fun x v h=>h.world hfr) off
      rw[Oper.semAt_eq _ _ _ (fun c hc=>by rw[ho] at hc; cases hc),hex,Oper.uponIn_skip,hdn]
      refine plain_wp hT hF rest hrel hk fun s' tm' w' hk' hrel' hsz hoth=>hq s' tm' w' hk' hrel' (by rw[hsz,size_setCells]) fun g o hgo hoc=>?_
      refine hoth g o ?_ hoc
      rw[heap_setCells_other b _ off w g (fun e'=>by subst e'; rw[hgg] at hgo; cases hgo; cases hoc)]
      exact hgo
    · exact he.elim

/-! Bodies of functions whose end may have calls put off. -/
def FinP (w0:World) (p0:Nat→Prop) (R:List CV→Prop):Ending→World→Prop:=fun e w'=>
  ∃v rs p',e=.returned v∧R rs∧RepR w' p' rs v∧Below w0.heap.size w0 w'∧(∀b,p0 b→p' b)∧(∀b,p' b→p0 b∨w0.heap.size≤b)∧∀b,p' b→b<w'.heap.size
structure WpF (P:Program) (fn:Func) (R:List CV→Prop) (c:Code) (s:St):Prop where
  h:∀w0 p0 p σ tm w,Rel w0 p0 p σ s tm [] w→c.wpIn Fence.wide 0 P (bodyPostM Fence.wide 0 P fn (FinP w0 p0 R)) ⟨tm,[]⟩ w
/-- The results are such. -/
structure RetOk (T:TypeId→Option TI) (rs:List ResultVar) (R:List CV→Prop) (s:St):Prop where
  h:∃cv,closeVs s (resVals T s rs)=some cv∧R cv

theorem wide_fn (f:FuncId):Fence.wide.fn f:=trivial
theorem RetOk.fin (hT:TabOk P T) {fn:Func} {rs:List ResultVar} {R:List CV→Prop} (hrs:fn.results.toList=rs) (hR:RetOk T rs R s) (h:Rel w0 p0 p σ s tm ups w):LeavesIn Fence.wide 0 P fn tm (FinP w0 p0 R) [] .returning w:=by
  obtain⟨cv,hcv,hr⟩:=hR.h
  obtain⟨v,hrun,hrep⟩:=run_results2 hT.ok h hrs hcv
  refine⟨v,hrun,v,cv,pAll p σ s,rfl,hr,hrep,h.below,fun b hb=>.inl (h.pin b hb),fun b hb=>?_,fun b hb=>pAll_lt h hb⟩
  rcases hb with hb | ⟨k,hk,hb⟩
  · exact h.pnew b hb
  · exact .inr (h.live_lt hk hb).2.2
theorem LeavesM_nil {fn:Func} {tms:Array Value} {R:Ending→World→Prop} {u:FrameMode} (h:LeavesIn Fence.wide 0 P fn tms R [] u w):LeavesInM Fence.wide 0 P fn tms R [] u w:=h
theorem Spec.of_wpF {f:FuncId} {fn:Func} {c:Code} {args:List CV} {R:List CV→Prop} (hf:P.funcs[f]?=some fn) (hb:fn.body=some c) (hn:(fn.name == "runtime.NumGoroutine")=false) (hl:Nat.ble args.length fn.ntmps=true)
    (h:WpF P fn R c (start (args.map CV.av) fn.ntmps)):Spec P f args R:=by
  refine⟨FnOk.of hf hb hn,fun w p vs hp hv=>callsIn_wide.1 (callsIn_of_wp_marks (n:=0) hf hb (wide_fn f) ?_)⟩
  have hv':All2 (RepV (fun _=>undef) w p) (args.map CV.av) vs:=hv.map_left _ fun x v h=>CV.av_rep h
  have hrel:Rel w p p (fun _=>undef) (start (args.map CV.av) fn.ntmps) (vs.toArray++Array.replicate (fn.ntmps-vs.toArray.size) undef) [] w:=by
    refine⟨Below.refl _ _,fun _ h=>h,fun _ h=>.inl h,hp,tok_args hv' (by rw[←hv.1]; exact ble_t.1 hl),⟨rfl,fun i x y h=>by simp[start] at h⟩,fun k cs h=>by simp[start,assoc] at h,fun k x h=>by simp[start,assoc] at h,fun k1 k2 g h1=>by simp[St.live,start,assoc] at h1⟩
  exact h.h w p p _ _ w hrel
theorem WpF.seq (hT:TabOk P T) (L:Cut) {fn:Func} {rs:List ResultVar} {R:List CV→Prop} {x y:Code} (hrs:fn.results.toList=rs) (h:fS s fun s=>xc P T L x (fun e s'=>match e with | .normal=>WpF P fn R y s' | .ret=>RetOk T rs R s' | _=>False) s):WpF P fn R (.seq x y) s:=by
  rw[fS_eq] at h
  refine⟨fun w0 p0 p σ tm w hr=>wpIn_seq (wpIn_mono (wpIn_wide.2 (xc_a hT x h w0 p0 p σ tm [] w hr)) ?_)⟩
  rintro e a w' ⟨hd,s',p',σ',hq,hr'⟩
  obtain⟨t',d'⟩:=a
  simp only at hd
  subst hd
  cases e with
  | normal=>exact hq.h w0 p0 p' σ' t' w' hr'
  | ret=>exact LeavesM_nil (RetOk.fin hT hrs hq hr')
  | _=>exact hq.elim

/-- The same, with y ahead of z. -/
structure WpG (P:Program) (fn:Func) (R:List CV→Prop) (y z:Code) (s:St):Prop where
  h:∀w0 p0 p σ tm w,Rel w0 p0 p σ s tm [] w→y.wpIn Fence.wide 0 P (Exit.then (z.wpIn Fence.wide 0 P (bodyPostM Fence.wide 0 P fn (FinP w0 p0 R))) (bodyPostM Fence.wide 0 P fn (FinP w0 p0 R))) ⟨tm,[]⟩ w
theorem WpF.seqA (hT:TabOk P T) (L:Cut) {fn:Func} {rs:List ResultVar} {R:List CV→Prop} {x y z:Code} (hrs:fn.results.toList=rs) (h:fS s fun s=>xc P T L x (fun e s'=>match e with | .normal=>WpG P fn R y z s' | .ret=>RetOk T rs R s' | _=>False) s):WpF P fn R (.seq (.seq x y) z) s:=by
  rw[fS_eq] at h
  refine⟨fun w0 p0 p σ tm w hr=>wpIn_seq (wpIn_seq (wpIn_mono (wpIn_wide.2 (xc_a hT x h w0 p0 p σ tm [] w hr)) ?_))⟩
  rintro e a w' ⟨hd,s',p',σ',hq,hr'⟩
  obtain⟨t',d'⟩:=a
  simp only at hd
  subst hd
  cases e with
  | normal=>exact hq.h w0 p0 p' σ' t' w' hr'
  | ret=>exact LeavesM_nil (RetOk.fin hT hrs hq hr')
  | _=>exact hq.elim

/-! What an iterator does, whose rounds all end it. -/
structure ItC (P:Program) (gf:FuncId) (cvs:List CV) (r:Option Int):Prop where
  h:∀(w:World) (p:Nat→Prop) (vs:List Value),(∀b,p b→b<w.heap.size)→All2 (RepCV w p) cvs vs→∀(l:Nat) (X:World→Prop),
    (∀x W1,r=some x→Below w.heap.size w W1→YieldAt Fence.wide 0 P l #[.int .i64 x] W1 fun e W'=>e=.returned (.bool false)∧X W') →
    Calls P gf (#[.func (.yield l) #[] #[]]++vs.toArray) w fun e W'=>(∃v,e=.returned v)∧((r=none∧Below w.heap.size w W')∨(r.isSome=true∧X W'))

def inRoundSt (s:St) (q d:Nat) (x:Int):St:={ t:=(d,.l (.d (.int .i64 x)))::(q,.l (.d (.int .i64 x)))::s.t,n:=s.n,up:=⟨s.t,s.n⟩::s.up,b:=s.b,o:=s.o }
theorem WpG.range (hT:TabOk P T) {fn:Func} {rs:List ResultVar} {R:List CV→Prop} {i0 i1 i5 i6 i7 g q d:Nat} {o5:Oper} {ops6 ops7:Array Oper} (hrs:fn.results.toList=rs)
    (ho5:o5.op=.assign (.tmp q)) (hd5:o5.dst=some d) (hg5:o5.guard=none) {gf:FuncId} {caps:List Cap} (hg:s.get g=.l (.func gf caps)) (hfn:FnOk P gf) (r:Option Int) {dss:List (List D)} (hcl:closeCaps s caps=some dss)
    (hit:ItC P gf (dss.map .dp) r) (hqn:Nat.blt q s.n=true) (hdn:Nat.blt d s.n=true) (hup:s.up=[])
    (h6:∀x,r=some x→plainOps T ops6.toList (inRoundSt s q d x) fun s'=>match s'.leave with | some s2=>RetOk T rs R s2 | none=>False)
    (h7:r=none→plainOps T ops7.toList s fun s'=>RetOk T rs R s') :
    WpG P fn R (.block i0 (.rangeFunc (.tmp g) #[q] (.region i5 #[o5] false) (.block i1 (.seq (.region i6 ops6 false) .ret)))) (.seq (.region i7 ops7 false) .ret) s:=by
  refine⟨fun w0 p0 p σ tm w hr=>wpIn_block ?_⟩
  have hgv:=hr.eval (ds:=[]) (.tmp g)
  rw[show s.eval (.tmp g)=s.get g from rfl,hg] at hgv
  obtain⟨vs,hgv,hcaps⟩:=hgv
  have hcd:All2 (RepCV w (pAll p σ s)) (dss.map .dp) vs:=(closeCaps_rep hr hcaps hcl).map_left _ fun x v h=>h
  have htn:tm.size=s.n:=hr.t.1
  refine wpIn_rangeFunc fun fnid _=>?_
  obtain⟨rec,hrec⟩:∃rec:LoopState→Option Code→Loop,rec=fun st pe=>{ state:=st,pending:=pe,fn:=fnid,tmps:=tm,params:=#[q],assign:=.region i5 #[o5] false,body:=.block i1 (.seq (.region i6 ops6 false) .ret),defers:=w.heap.size }:=⟨_,rfl⟩
  obtain⟨W1,hW1⟩:∃W1,(w.alloc (.deferred (some []))).alloc (.loop (rec .ready none))=W1:=⟨_,rfl⟩
  have hs1:W1.heap.size=w.heap.size+2:=by rw[←hW1]; simp
  have hL1:W1.heap[w.heap.size+1]?=some (.loop (rec .ready none)):=by
    rw[←hW1]; have:=World.alloc_heap_new (w.alloc (.deferred (some []))) (.loop (rec .ready none)); rwa [World.size_alloc] at this
  have hK1:W1.heap[w.heap.size]?=some (.deferred (some [])):=by
    rw[←hW1]; exact (Below.heap_alloc _ _ _ (by simp)).trans (World.alloc_heap_new w _)
  have hB1:Below w.heap.size w W1:=by rw[←hW1]; exact ((Below.refl _ w).alloc (Nat.le_refl _) _).alloc (by simp) _
  have hpA:∀b,pAll p σ s b→b<w.heap.size:=fun b hb=>pAll_lt hr hb
  have hcd1:All2 (RepCV W1 (pAll p σ s)) (dss.map .dp) vs:=by
    refine⟨hcd.1,fun i x y hx hy=>?_⟩
    have h:=hcd.2 i x y hx hy
    rw[List.getElem?_map] at hx
    obtain⟨cs,_,rfl⟩:=Option.map_eq_some_iff.1 hx
    obtain⟨ad,e,hc⟩:=h
    exact⟨ad,e,hc.mono (fun b hb=>hB1.block b (hpA b hb)) (fun _ h=>h)⟩
  obtain⟨fnx,hfx1,hfx2,hfx3⟩:=hfn
  -- a world that is as w was below, with the record and the block
  have eqv:∀{W:World},Below w.heap.size w W→Rel w0 p0 p σ s tm [] W:=fun hB=>hr.called hB (fun _ h=>h) (fun _ h=>.inl h) (fun b hb=>Nat.lt_of_lt_of_le (hr.plt b hb) hB.size)
  -- behind everything: the mark is taken
  have fin:∀{W:World} {s2:St} {tmx:Array Value},Rel w0 p0 p σ s2 tmx [] W→RetOk T rs R s2→W.heap[w.heap.size]?=some (.deferred (some [])) →
      LeavesInM Fence.wide 0 P fn tmx (FinP w0 p0 R) [{ target:=.collected w.heap.size,args:=#[] }] .returning W:=by
    intro W s2 tmx hrel hret hD
    refine⟨by simp,.inl ⟨_,_,rfl,run_takeDeferred hD,LeavesM_nil (RetOk.fin hT hrs hret (hrel.turned (w':=W.putObj w.heap.size (.deferred none)) ?_ (by simp) ?_ ?_))⟩⟩
    · exact hrel.below.grown (grownBy_putObj' W _ _) hrel.below.size (fun k e=>by cases e; exact hr.below.size)
    · exact fun b hb=>World.putObj_heap_other (by have:=hr.plt b hb; omega)
    · intro g' cs ty fz hgg
      refine World.putObj_heap_other fun e=>?_
      subst e
      rw[hD] at hgg; cases hgg
  refine⟨w.heap.size+1,[{ target:=.collected w.heap.size,args:=#[] }],W1,{ target:=.fn (.func gf) vs.toArray,args:=#[.func (.yield (w.heap.size+1)) #[] #[]] },W1,gf,#[.func (.yield (w.heap.size+1)) #[] #[]]++vs.toArray,W1,?_,?_,fun f' _=>wide_fn f',?_,(fun h=>by cases h),?_⟩
  · rw[←hW1,hrec]; exact run_enterLoop_outer _ _ _ _ _
  · simp only[resolve,hgv]
    simp[go_sem]
  · simp only[invoke]
    exact run_callFunc ⟨fnx,hfx1,hfx2,hfx3⟩ _
  refine callsIn_wide.2 ((hit.h W1 _ vs (fun b hb=>Nat.lt_of_lt_of_le (hpA b hb) hB1.size) hcd1 (w.heap.size+1)
    (fun W'=>∃W3 s' tm',(match s'.leave with | some s2=>RetOk T rs R s2 | none=>False)∧Rel w0 p0 p σ s' tm' [tm] W3∧W'=W3.putObj (w.heap.size+1) (.loop (rec .done (some .ret)))∧W3.heap[w.heap.size+1]?=some (.loop (rec .busy none))∧W3.heap[w.heap.size]?=some (.deferred (some []))) ?_).mono ?_)
  · -- one round
    intro x W hx hB
    have hBw:Below w.heap.size w W:=hB1.trans (hB.mono (by omega))
    have hl:W.heap[w.heap.size+1]?=some (.loop (rec .ready none)):=(hB.block _ (by omega)).trans hL1
    have hD:W.heap[w.heap.size]?=some (.deferred (some [])):=(hB.block _ (by omega)).trans hK1
    have hy:=run_yield (P:=P) (args:=#[.int .i64 x]) hl (by rw[hrec]; rfl)
    rw[hrec] at hy
    refine⟨_,_,_,_,hy,roundIn_of_wpIn (wide_fn _) ?_⟩
    have hwant:Region.wanted o5 (yielded #[o5] (tm.setIfInBounds q (.int .i64 x)))=true:=by simp[Region.wanted,hg5]
    have hev:Act.eval ⟨tm.setIfInBounds q (.int .i64 x),[]⟩ (.tmp q)=.int .i64 x:=by
      have hq:=Nat.blt_eq.mp hqn
      simp[Act.eval,Array.getD_eq_getD_getElem?,htn,hq]
    refine wpIn_region_list (ops:=#[o5]) ?_
    unfold wpListIn
    have htms:(((#[q]:Array Tmp).zip (#[.int .i64 x]:Array Value)).foldl (fun t (p,v)=>t.setIfInBounds p v) tm)=tm.setIfInBounds q (.int .i64 x):=by simp
    show (if Region.wanted o5 (yielded #[o5] (((#[q]:Array Tmp).zip (#[.int .i64 x]:Array Value)).foldl (fun t (p,v)=>t.setIfInBounds p v) tm))=true then _ else _)
    rw[htms,if_pos hwant]
    refine⟨fun f _=>wide_fn f,?_⟩
    have hr5:(execOp (Act.eval ⟨tm.setIfInBounds q (.int .i64 x),[]⟩) o5).run P W=.ok (.value (.int .i64 x)) W:=by unfold execOp; simp only[ho5,Sem.run_pure,hev]
    rw[Oper.semAt_eq _ _ _ (fun c hc=>by rw[ho5] at hc; cases hc),hr5,Oper.uponIn_value,hd5]
    refine wpListIn_nil ⟨_,run_beginRound hl (by rw[hrec]),?_⟩
    have hl2:(W.putObj (w.heap.size+1) (.loop { rec .ready none with state:=.busy })).heap[w.heap.size+1]?=some (.loop (rec .busy none)):=by
      rw[World.putObj_heap_same (Array.getElem?_eq_some_iff.1 hl).1,hrec]
    have hD2:(W.putObj (w.heap.size+1) (.loop { rec .ready none with state:=.busy })).heap[w.heap.size]?=some (.deferred (some [])):=(World.putObj_heap_other (by omega)).trans hD
    have hB2:Below w.heap.size w (W.putObj (w.heap.size+1) (.loop { rec .ready none with state:=.busy })):=
      hBw.grown (grownBy_putObj' W _ _) hBw.size (fun k e=>by cases e; omega)
    have hrel2:=eqv hB2
    have hrr:Rel w0 p0 p σ (inRoundSt s q d x) (Act.put (Act.put ⟨tm,[]⟩ (some q) (.int .i64 x)) (some d) (.int .i64 x)).tmps [tm] (W.putObj (w.heap.size+1) (.loop { rec .ready none with state:=.busy })):=by
      have h1:Rel w0 p0 p σ { s with up:=⟨s.t,s.n⟩::s.up } tm [tm] (W.putObj (w.heap.size+1) (.loop { rec .ready none with state:=.busy })):=
        ⟨hrel2.below,hrel2.pin,hrel2.pnew,hrel2.plt,hrel2.t,All2.cons hrel2.t hrel2.up,hrel2.b,hrel2.o,hrel2.apart⟩
      have h2:=h1.put (some q) (.l (.d (.int .i64 x))) (.int .i64 x) (fun j e=>by cases e; exact Nat.blt_eq.mp hqn) (RepD.int _ _) []
      exact h2.put (some d) (.l (.d (.int .i64 x))) (.int .i64 x) (fun j e=>by cases e; exact Nat.blt_eq.mp hdn) (RepD.int _ _) []
    refine wpIn_block (wpIn_seq (wpIn_region_list ?_))
    refine plain_wp (F:=Fence.wide.inRound (w.heap.size+1)) hT wide_fn (ds:=[]) ops6.toList hrr (h6 x hx) fun s' tm' W3 hk hrel3 hsz hoth=>wpIn_ret ?_
    have hl3:=hoth _ _ hl2 rfl
    have hD3:=hoth _ _ hD2 rfl
    have hend:=run_endRound (P:=P) (some .ret) hl3
    refine⟨_,_,hend,rfl,W3,s',tm',hk,hrel3,?_,hl3,hD3⟩
    rw[hrec]; rfl
  · -- behind the iterator
    rintro e W' ⟨⟨v,rfl⟩,(⟨hno,hB⟩ | ⟨_,W3,s',tm',hk,hrel3,rfl,hl3,hD3⟩)⟩
    · have hl:W'.heap[w.heap.size+1]?=some (.loop (rec .ready none)):=(hB.block _ (by omega)).trans hL1
      have hD:W'.heap[w.heap.size]?=some (.deferred (some [])):=(hB.block _ (by omega)).trans hK1
      have hBw:Below w.heap.size w W':=hB1.trans (hB.mono (by omega))
      have hend:=run_endLoop (P:=P) hl (by rw[hrec]; simp)
      rw[show (rec .ready none).pending=none by rw[hrec]] at hend
      refine⟨none,_,hend,?_⟩
      have hB2:∀o,Below w.heap.size w (W'.putObj (w.heap.size+1) o):=fun o=>
        hBw.grown (grownBy_putObj' W' _ _) hBw.size (fun k e=>by cases e; omega)
      have hD2:∀o,(W'.putObj (w.heap.size+1) o).heap[w.heap.size]?=some (.deferred (some [])):=fun o=>(World.putObj_heap_other (by omega)).trans hD
      refine wpIn_seq (wpIn_region_list (plain_wp (F:=Fence.wide) hT wide_fn (ds:=[{ target:=.collected w.heap.size,args:=#[] }]) ops7.toList (eqv (hB2 _)) (h7 hno) fun s' tm' W3 hk hrel3 hsz hoth=>wpIn_ret ?_))
      exact fin hrel3 hk (hoth _ _ (hD2 _) rfl)
    · have hlt:w.heap.size+1<W3.heap.size:=(Array.getElem?_eq_some_iff.1 hl3).1
      have hl4:(W3.putObj (w.heap.size+1) (.loop (rec .done (some .ret)))).heap[w.heap.size+1]?=some (.loop (rec .done (some .ret))):=World.putObj_heap_same hlt
      have hend:=run_endLoop (P:=P) hl4 (by rw[hrec]; simp)
      rw[show (rec .done (some .ret)).pending=some .ret by rw[hrec]] at hend
      refine⟨some .ret,_,hend,wpIn_ret ?_⟩
      split at hk <;> try exact hk.elim
      rename_i s2 hs2
      obtain⟨tma,upa,he,hrel4⟩:=leave_rel hrel3 hs2
      cases he
      have hB0:∀(W:World) (o:Obj),Below w0.heap.size w0 W→w0.heap.size≤w.heap.size+1→Below w0.heap.size w0 (W.putObj (w.heap.size+1) o):=fun W o h1 h2=>
        h1.grown (grownBy_putObj' W _ _) h1.size (fun k e=>by cases e; exact h2)
      have hw0:w0.heap.size≤w.heap.size+1:=Nat.le_succ_of_le hr.below.size
      have t1:Rel w0 p0 p σ s2 tm [] (W3.putObj (w.heap.size+1) (.loop (rec .done (some .ret)))):=by
        refine hrel4.turned (hB0 _ _ hrel4.below hw0) (by simp) (fun b hb=>World.putObj_heap_other (by have:=hr.plt b hb; omega)) fun g' cs ty fz hgg=>World.putObj_heap_other fun e=>?_
        subst e; rw[hl3] at hgg; cases hgg
      have t2:∀o,Rel w0 p0 p σ s2 tm [] ((W3.putObj (w.heap.size+1) (.loop (rec .done (some .ret)))).putObj (w.heap.size+1) o):=by
        intro o
        refine t1.turned (hB0 _ _ t1.below hw0) (by simp) (fun b hb=>World.putObj_heap_other (by have:=hr.plt b hb; omega)) fun g' cs ty fz hgg=>World.putObj_heap_other fun e=>?_
        subst e; rw[hl4] at hgg; cases hgg
      refine fin (t2 _) hk ?_
      rw[World.putObj_heap_other (by omega),World.putObj_heap_other (by omega)]
      exact hD3
end
end Go.VC
