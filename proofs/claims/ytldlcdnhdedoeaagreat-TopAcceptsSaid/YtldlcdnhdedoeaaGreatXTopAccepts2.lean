/- Part 13 of what follows is proved here: what the statement TopAccepts needs of functions and plain laws. -/
import Derived.Test.YtldlcdnhdedoeaaGreatXTopAccepts1
set_option linter.unusedVariables false
set_option linter.unusedSimpArgs false
namespace Go.VC
open Go.RowKit (Below)

section
variable {P:Program} {T:TypeId→Option TI} {w0:World} {p0 p:Nat→Prop} {σ:Nat→Value} {s:St} {tm:Array Value} {ups:List (Array Value)} {w w':World}

/-! The iterator's own walk: its code comes to K, or a round has ended it. -/
structure IW (P:Program) (w0:World) (p0:Nat→Prop) (B:Prop) (X:World→Prop) (c:Code) (K:Exit→St→Prop) (s:St):Prop where
  h:∀p σ tm w,Rel w0 p0 p σ s tm [] w→c.wp P (fun e a w'=>(a.defers=[]∧∃s' p' σ',K e s'∧Rel w0 p0 p' σ' s' a.tmps [] w')∨(e=.ret∧a.defers=[]∧B∧X w')) ⟨tm,[]⟩ w

variable {B:Prop} {X:World→Prop} {K:Exit→St→Prop}
theorem IW.of_xc (hT:TabOk P T) (L:Cut) {c:Code} (h:fS s fun s=>xc P T L c K s):IW P w0 p0 B X c K s:=by
  rw[fS_eq] at h
  exact⟨fun p σ tm w hr=>Code.wp_mono (fun e a w' hq=>.inl hq) (xc_a hT c h w0 p0 p σ tm [] w hr)⟩
theorem IW.seq {x y:Code} (h:IW P w0 p0 B X x (fun e s'=>match e with | .normal=>IW P w0 p0 B X y K s' | e=>K e s') s):IW P w0 p0 B X (.seq x y) K s:=by
  refine⟨fun p σ tm w hr=>wp_seq (Code.wp_mono (fun e a w' hq=>?_) (h.h p σ tm w hr))⟩
  rcases hq with ⟨hd,s',p',σ',hq,hr'⟩ | ⟨he,hq⟩
  · cases e with
    | normal=>
      obtain⟨t',d'⟩:=a
      simp only at hd
      subst hd
      exact hq.h p' σ' t' w' hr'
    | _=>exact .inl ⟨hd,s',p',σ',hq,hr'⟩
  · subst he; exact .inr ⟨rfl,hq⟩
theorem IW.seqx (hT:TabOk P T) (L:Cut) {x y:Code} (h:fS s fun s=>xc P T L x (fun e s'=>match e with | .normal=>IW P w0 p0 B X y K s' | e=>K e s') s):IW P w0 p0 B X (.seq x y) K s:=IW.seq (IW.of_xc hT L h)
theorem IW.block {i:Nat} {c:Code} (h:IW P w0 p0 B X c (fun e s'=>match e with | .exit j=>(if j=i then K .normal s' else K (.exit j) s') | e=>K e s') s):IW P w0 p0 B X (.block i c) K s:=by
  refine⟨fun p σ tm w hr=>wp_block (Code.wp_mono (fun e a w' hq=>?_) (h.h p σ tm w hr))⟩
  rcases hq with ⟨hd,s',p',σ',hq,hr'⟩ | ⟨he,hq⟩
  · cases e with
    | exit j=>
      simp only[Exit.inBlock]
      simp only at hq
      split
      · rename_i e; rw[if_pos e] at hq; exact .inl ⟨hd,s',p',σ',hq,hr'⟩
      · rename_i e; rw[if_neg e] at hq; exact .inl ⟨hd,s',p',σ',hq,hr'⟩
    | _=>exact .inl ⟨hd,s',p',σ',hq,hr'⟩
  · subst he; exact .inr ⟨rfl,hq⟩
theorem IW.lp {σ' R:Type} {r:R} {body:(σ'→Option R)→σ'→Option R} {n:Nat} {v0:σ'} {c:Code} (st:σ'→St) (h:lp body n v0=some r) (hw:Weak s (st v0))
    (step:∀(n:Nat) (nx:σ'→Option R) (hn:∀v',nx v'=some r→Go.VC.lp body n v'=some r) (v:σ'),body nx v=some r→IW P w0 p0 B X c (fun e s'=>match e with | .normal=>∃n' s2,n'<n+1∧Weak s' s2∧∃v',s2=st v'∧Go.VC.lp body n' v'=some r | e=>K e s') (st v)):IW P w0 p0 B X (.loop c) K s:=by
  refine⟨fun p σ tm w hr=>?_⟩
  obtain⟨p1,σ1,hr1⟩:=hw w0 p0 p σ tm [] w hr
  refine wp_loop_rel (fun n a w=>a.defers=[]∧∃v p σ,Go.VC.lp body n v=some r∧Rel w0 p0 p σ (st v) a.tmps [] w) (fun n a w hJ=>?_) (n:=n) ⟨rfl,v0,p1,σ1,h,hr1⟩
  obtain⟨hd,v,p2,σ2,hv,hr2⟩:=hJ
  obtain⟨t2,d2⟩:=a
  simp only at hd
  subst hd
  cases n with
  | zero=>cases hv
  | succ n=>
    rw[lp_succ] at hv
    refine Code.wp_mono (fun e a' w' hq=>?_) ((step n _ (fun _ h=>h) v hv).h p2 σ2 t2 w hr2)
    rcases hq with ⟨hd,s',p',σ',hq,hr'⟩ | ⟨he,hq⟩
    · cases e with
      | normal=>
        obtain⟨n',s3,hlt,hw3,v',rfl,hv'⟩:=hq
        obtain⟨p3,σ3,hr3⟩:=hw3 w0 p0 p' σ' a'.tmps [] w' hr'
        exact⟨n',hlt,hd,v',p3,σ3,hv',hr3⟩
      | _=>exact .inl ⟨hd,s',p',σ',hq,hr'⟩
    · subst he; exact .inr ⟨rfl,hq⟩

/-! One step, its value told. -/
theorem step_wp {F:Fence} (hF:∀f,F.fn f) {n:Nat} {ops:Array Oper} {ds:List Deferred} {Q:Exit→Act→World→Prop} {o:Oper} {rest:List Oper} {x:AV} (hS:Sound P w0 p0 p s tm ups w ds o (fun ef=>ef={ v:=x })) (hw:Region.wanted o (yielded ops tm)=true) (hnd:∀c,o.op≠.defer c)
    (k:∀σ' tm' w',Rel w0 p0 p σ' (s.put o.dst x) tm' ups w'→wpListIn F n P ops Q rest ⟨tm',ds⟩ w'):wpListIn F n P ops Q (o::rest) ⟨tm,ds⟩ w:=by
  obtain⟨ef,rfl,v,w',σ',hr,hrel⟩:=hS
  unfold wpListIn
  rw[if_pos hw]
  refine⟨fun f _=>hF f,?_⟩
  rw[Oper.semAt_eq _ _ _ hnd,hr,Oper.uponIn_value,put_ds]
  rw[put_ds] at hrel
  exact k σ' _ w' hrel
theorem skip_wp {F:Fence} (hF:∀f,F.fn f) {n:Nat} {ops:Array Oper} {ds:List Deferred} {Q:Exit→Act→World→Prop} {o:Oper} {rest:List Oper} (h:Rel w0 p0 p σ s tm ups w) (hd:∀d,o.dst=some d→d<s.n) (hw:Region.wanted o (yielded ops tm)=false)
    (k:∀tm',Rel w0 p0 p σ (s.put o.dst (.l .und)) tm' ups w→wpListIn F n P ops Q rest ⟨tm',ds⟩ w):wpListIn F n P ops Q (o::rest) ⟨tm,ds⟩ w:=by
  unfold wpListIn
  rw[if_neg (by rw[hw]; exact Bool.false_ne_true)]
  refine⟨fun f _=>hF f,?_⟩
  rw[put_ds]
  exact k _ (h.put o.dst (.l .und) undef hd rfl [])
theorem wanted_none {o:Oper} {y:Nat→Option Bool} (h:o.guard=none):Region.wanted o y=true:=by simp[Region.wanted,h]
theorem wanted_at {o:Oper} {ops:Array Oper} {j d:Nat} {b:Bool} (hg:o.guard=some (j,true)) (hd:(ops[j]?).bind (·.dst)=some d) (h:Rel w0 p0 p σ s tm ups w) (hb:s.get d=.l (.d (.bool b))):Region.wanted o (yielded ops tm)=b:=by
  have hyl:yielded ops tm j=some b:=by
    unfold yielded
    rw[hdd_of hd]
    simp only[Option.bind_some,bool_at h hb]
  simp only[Region.wanted,hg,hyl]
  cases b <;> rfl
where hdd_of {ops:Array Oper} {j d:Nat} (hd:(ops[j]?).bind (·.dst)=some d):(ops[j]?).bind (·.dst)=some d:=hd

/-- 'if a > b && !yield(t) { return }'. -/
theorem IW.yield (hT:TabOk P T) {id l r0 r5 r6 r8 a0 a1 a2 a3 a4 a5 a6 a7 a8:Nat} {tb tb' ty:TypeId} {ats:Array TypeId} {nd hv t:Int} {o0 o1 o2 o3 o4 o5 o6 o7 o8:Oper}
    (h0:o0.op=.move (.tmp r6)) (h1:o1.op=.move (.tmp r8)) (h2:o2.op=.binOp .gtr tb (.tmp a0) (.tmp a1) tb') (h3:o3.op=.move (.tmp a2)) (h4:o4.op=.move (.tmp r0)) (h5:o5.op=.move (.tmp r5)) (h6:o6.op=.call ⟨.value (.tmp a4),#[.tmp a5],ats⟩) (h7:o7.op=.unOp .not ty (.tmp a6)) (h8:o8.op=.pick (.tmp a3) (.tmp a7) (.const (.bool false)))
    (d0:o0.dst=some a0) (d1:o1.dst=some a1) (d2:o2.dst=some a2) (d3:o3.dst=some a3) (d4:o4.dst=some a4) (d5:o5.dst=some a5) (d6:o6.dst=some a6) (d7:o7.dst=some a7) (d8:o8.dst=some a8)
    (g0:o0.guard=none) (g1:o1.guard=none) (g2:o2.guard=none) (g3:o3.guard=none) (g4:o4.guard=some (3,true)) (g5:o5.guard=some (3,true)) (g6:o6.guard=some (3,true)) (g7:o7.guard=some (3,true)) (g8:o8.guard=none)
    (n0:a0<s.n) (n1:a1<s.n) (n2:a2<s.n) (n3:a3<s.n) (n4:a4<s.n) (n5:a5<s.n) (n6:a6<s.n) (n7:a7<s.n) (n8:a8<s.n)
    (ne_a0_a1:¬a0=a1) (ne_a3_a4:¬a3=a4) (ne_a3_a5:¬a3=a5) (ne_a3_a6:¬a3=a6) (ne_a3_a7:¬a3=a7) (ne_a4_a5:¬a4=a5) (ne_r0_a0:¬r0=a0) (ne_r0_a1:¬r0=a1) (ne_r0_a2:¬r0=a2) (ne_r0_a3:¬r0=a3) (ne_r5_a0:¬r5=a0) (ne_r5_a1:¬r5=a1) (ne_r5_a2:¬r5=a2) (ne_r5_a3:¬r5=a3) (ne_r5_a4:¬r5=a4) (ne_r8_a0:¬r8=a0)
    (s0:s.get r0=.l (.raw (.func (.yield l) #[] #[]))) (s5:s.get r5=.l (.d (.int .i64 t))) (s6:s.get r6=.l (.d (.int .i64 nd))) (s8:s.get r8=.l (.d (.int .i64 hv)))
    (hy:nd>hv→∀W1,Below w0.heap.size w0 W1→YieldAt Fence.wide 0 P l #[.int .i64 t] W1 fun e W'=>e=.returned (.bool false)∧X W') (hB:nd>hv→B)
    (hn:¬nd>hv→K .normal (((((((((s.put (some a0) (.l (.d (.int .i64 nd)))).put (some a1) (.l (.d (.int .i64 hv)))).put (some a2) (.l (.d (.bool false)))).put (some a3) (.l (.d (.bool false)))).put (some a4) (.l .und)).put (some a5) (.l .und)).put (some a6) (.l .und)).put (some a7) (.l .und)).put (some a8) (.l (.d (.bool false))))) :
    IW P w0 p0 B X (.seq (.region id #[o0,o1,o2,o3,o4,o5,o6,o7,o8] false) (.cond (.tmp a8) .ret .skip)) K s:=by
  have mv:∀{o:Oper} {x:Operand} {s:St} {tm:Array Value} {σ:Nat→Value} {w:World} {p:Nat→Prop},o.op=.move x→Rel w0 p0 p σ s tm [] w→(∀d,o.dst=some d→d<s.n)→Sound P w0 p0 p s tm [] w [] o (fun ef=>ef={ v:=s.eval x }):=by
    intro o x s tm σ w p ho hr hd
    exact⟨_,rfl,Act.eval ⟨tm,[]⟩ x,w,σ,by unfold execOp; simp only[ho,Sem.run_pure],by
      have:=hr.put o.dst _ _ hd (hr.eval (ds:=[]) x) []
      exact this⟩
  have nd_of:∀{o:Oper} {x:Op},o.op=x→(∀c,x≠.defer c)→∀c,o.op≠.defer c:=fun h hx c hc=>hx c (h ▸ hc)
  have dlt:∀{o:Oper} {a:Nat} {m:Nat},o.dst=some a→a<m→∀d,o.dst=some d→d<m:=fun h hm d hd=>by rw[h] at hd; cases hd; exact hm
  refine⟨fun p σ tm w hr=>(wpIn_wide (n:=0)).1 (wpIn_seq (wpIn_region_list ?_))⟩
  show wpListIn _ _ _ _ _ [o0,o1,o2,o3,o4,o5,o6,o7,o8] _ _
  refine step_wp wide_fn (mv h0 hr (dlt d0 n0)) (wanted_none g0) (nd_of h0 (by intro c h; cases h)) fun σ tm w hr=>?_
  rw[d0,show s.eval (.tmp r6)=s.get r6 from rfl,s6] at hr
  refine step_wp wide_fn (mv h1 hr (dlt d1 n1)) (wanted_none g1) (nd_of h1 (by intro c h; cases h)) fun σ tm w hr=>?_
  have e1:(s.put (some a0) (.l (.d (.int .i64 nd)))).eval (.tmp r8)=.l (.d (.int .i64 hv)):=by
    simp only[St.eval,St.get,St.put,setT,getT,if_neg ne_r8_a0]
    exact s8
  rw[d1,e1] at hr
  have he2:effK T o2 ((s.put (some a0) (.l (.d (.int .i64 nd)))).put (some a1) (.l (.d (.int .i64 hv)))).eval (assoc ((s.put (some a0) (.l (.d (.int .i64 nd)))).put (some a1) (.l (.d (.int .i64 hv)))).b) (assoc ((s.put (some a0) (.l (.d (.int .i64 nd)))).put (some a1) (.l (.d (.int .i64 hv)))).o) 0 (fun ef=>ef={ v:=.l (.d (.bool (decide (nd>hv)))) }):=by
    have x0:((s.put (some a0) (.l (.d (.int .i64 nd)))).put (some a1) (.l (.d (.int .i64 hv)))).eval (.tmp a0)=.l (.d (.int .i64 nd)):=by
      simp only[St.eval,St.get,St.put,setT,getT,if_neg ne_a0_a1,if_true]
    have x1:((s.put (some a0) (.l (.d (.int .i64 nd)))).put (some a1) (.l (.d (.int .i64 hv)))).eval (.tmp a1)=.l (.d (.int .i64 hv)):=by
      simp only[St.eval,St.get,St.put,setT,getT,if_true]
    unfold effK
    simp only[h2,x0,x1,binK]
    exact⟨trivial,trivial⟩
  refine step_wp wide_fn (effK_sound (ds:=[]) hT hr (dlt d2 n2) (fun hm=>by simp[Oper.makes,h2] at hm) he2) (wanted_none g2) (nd_of h2 (by intro c h; cases h)) fun σ tm w hr=>?_
  rw[d2] at hr
  refine step_wp wide_fn (mv h3 hr (dlt d3 n3)) (wanted_none g3) (nd_of h3 (by intro c h; cases h)) fun σ tm w hr=>?_
  have e3:(((s.put (some a0) (.l (.d (.int .i64 nd)))).put (some a1) (.l (.d (.int .i64 hv)))).put (some a2) (.l (.d (.bool (decide (nd>hv)))))).eval (.tmp a2)=.l (.d (.bool (decide (nd>hv)))):=by
    simp only[St.eval,St.get,St.put,setT,getT,if_true]
  rw[d3,e3] at hr
  have hg3:((#[o0,o1,o2,o3,o4,o5,o6,o7,o8]:Array Oper)[3]?).bind (·.dst)=some a3:=d3
  by_cases hgt:nd>hv
  · rw[decide_eq_true hgt] at hr
    have b3:∀{s:St},(s.put (some a3) (.l (.d (.bool true)))).get a3=.l (.d (.bool true)):=by
      intro s; simp only[St.get,St.put,setT,getT,if_true]
    refine step_wp wide_fn (mv h4 hr (dlt d4 n4)) (wanted_at g4 hg3 hr b3) (nd_of h4 (by intro c h; cases h)) fun σ tm w hr=>?_
    have e4:((((s.put (some a0) (.l (.d (.int .i64 nd)))).put (some a1) (.l (.d (.int .i64 hv)))).put (some a2) (.l (.d (.bool true)))).put (some a3) (.l (.d (.bool true)))).eval (.tmp r0)=.l (.raw (.func (.yield l) #[] #[])):=by
      simp only[St.eval,St.get,St.put,setT,getT,if_neg ne_r0_a0,if_neg ne_r0_a1,if_neg ne_r0_a2,if_neg ne_r0_a3]
      exact s0
    rw[d4,e4] at hr
    refine step_wp wide_fn (mv h5 hr (dlt d5 n5)) (wanted_at g5 hg3 hr (by simp only[St.get,St.put,setT,getT,if_neg ne_a3_a4,if_true])) (nd_of h5 (by intro c h; cases h)) fun σ tm w hr=>?_
    have e5:(((((s.put (some a0) (.l (.d (.int .i64 nd)))).put (some a1) (.l (.d (.int .i64 hv)))).put (some a2) (.l (.d (.bool true)))).put (some a3) (.l (.d (.bool true)))).put (some a4) (.l (.raw (.func (.yield l) #[] #[])))).eval (.tmp r5)=.l (.d (.int .i64 t)):=by
      simp only[St.eval,St.get,St.put,setT,getT,if_neg ne_r5_a0,if_neg ne_r5_a1,if_neg ne_r5_a2,if_neg ne_r5_a3,if_neg ne_r5_a4]
      exact s5
    rw[d5,e5] at hr
    generalize hS:(((((s.put (some a0) (.l (.d (.int .i64 nd)))).put (some a1) (.l (.d (.int .i64 hv)))).put (some a2) (.l (.d (.bool true)))).put (some a3) (.l (.d (.bool true)))).put (some a4) (.l (.raw (.func (.yield l) #[] #[])))).put (some a5) (.l (.d (.int .i64 t)))=S at hr
    have Sn:S.n=s.n:=by rw[←hS]; rfl
    have v3:S.get a3=.l (.d (.bool true)):=by rw[←hS]; simp only[St.get,St.put,setT,getT,if_neg ne_a3_a4,if_neg ne_a3_a5,if_true]
    have v4:S.get a4=.l (.raw (.func (.yield l) #[] #[])):=by rw[←hS]; simp only[St.get,St.put,setT,getT,if_neg ne_a4_a5,if_true]
    have v5:S.get a5=.l (.d (.int .i64 t)):=by rw[←hS]; simp only[St.get,St.put,setT,getT,if_true]
    have f4:=hr.eval (ds:=[]) (.tmp a4)
    rw[show S.eval (.tmp a4)=S.get a4 from rfl,v4] at f4
    have f4:Act.eval ⟨tm,[]⟩ (.tmp a4)=.func (.yield l) #[] #[]:=f4
    have f5:=hr.eval (ds:=[]) (.tmp a5)
    rw[show S.eval (.tmp a5)=S.get a5 from rfl,v5] at f5
    have f5:Act.eval ⟨tm,[]⟩ (.tmp a5)=.int .i64 t:=RepD_int f5
    have t3:tm[a3]?=some (.bool true):=bool_at hr v3
    have hsz:tm.size=s.n:=by rw[←Sn]; exact hr.t.1
    obtain⟨fn,tms,asg,bdy,hyr,hround⟩:=hy hgt w hr.below
    have hrun:(execOp (Act.eval ⟨tm,[]⟩) o6).run P w=.ok (.round l fn tms asg bdy) w:=by
      unfold execOp
      simp only[h6,resolve,f4,Deferred.ofValue,Sem.run_bind,Sem.run_pure,Result.andThen_ok,invoke]
      rw[show (#[]++Array.map (Act.eval ⟨tm,[]⟩) #[.tmp a5]:Array Value)=#[.int .i64 t] by simp[f5]]
      exact hyr
    unfold wpListIn
    rw[if_pos (wanted_at g6 hg3 hr v3)]
    refine⟨fun f _=>wide_fn f,?_⟩
    rw[Oper.semAt_eq _ _ _ (nd_of h6 (by intro c h; cases h)),hrun,Oper.uponIn_round]
    refine⟨(fun h=>by cases h),hround.mono ?_⟩
    rintro e w2 ⟨rfl,hX⟩
    simp only
    rw[put_ds,d6]
    -- what is left needs the frame alone
    have put_some:∀(tm:Array Value) (d:Nat) (v:Value),(Act.put ⟨tm,[]⟩ (some d) v).tmps=tm.setIfInBounds d v:=fun _ _ _=>rfl
    rw[put_some]
    have y3:yielded #[o0,o1,o2,o3,o4,o5,o6,o7,o8] (tm.setIfInBounds a6 (.bool false)) 3=some true:=by
      unfold yielded
      rw[hg3]
      simp only[Option.bind_some,Array.getElem?_setIfInBounds_ne (fun h=>ne_a3_a6 h.symm),t3]
    have w7:Region.wanted o7 (yielded #[o0,o1,o2,o3,o4,o5,o6,o7,o8] (tm.setIfInBounds a6 (.bool false)))=true:=by simp only[Region.wanted,g7,y3]; rfl
    unfold wpListIn
    rw[if_pos w7]
    refine⟨fun f _=>wide_fn f,?_⟩
    have r7:(execOp (Act.eval ⟨tm.setIfInBounds a6 (.bool false),[]⟩) o7).run P w2=.ok (.value (.bool true)) w2:=by
      have:Act.eval ⟨tm.setIfInBounds a6 (.bool false),[]⟩ (.tmp a6)=.bool false:=by simp[Act.eval,Array.getD_eq_getD_getElem?,hsz,n6]
      unfold execOp
      simp only[h7,this,Op.unary,Sem.run_bind,Sem.run_pure,Result.andThen_ok,Bool.not_false]
    rw[Oper.semAt_eq _ _ _ (nd_of h7 (by intro c h; cases h)),r7,Oper.uponIn_value,put_ds,d7,put_some]
    unfold wpListIn
    rw[if_pos (wanted_none g8)]
    refine⟨fun f _=>wide_fn f,?_⟩
    have r8':(execOp (Act.eval ⟨(tm.setIfInBounds a6 (.bool false)).setIfInBounds a7 (.bool true),[]⟩) o8).run P w2=.ok (.value (.bool true)) w2:=by
      have c3:Act.eval ⟨(tm.setIfInBounds a6 (.bool false)).setIfInBounds a7 (.bool true),[]⟩ (.tmp a3)=.bool true:=by
        simp[Act.eval,Array.getD_eq_getD_getElem?,Array.getElem?_setIfInBounds_ne (fun h=>ne_a3_a7 h.symm),Array.getElem?_setIfInBounds_ne (fun h=>ne_a3_a6 h.symm),t3]
      have c7:Act.eval ⟨(tm.setIfInBounds a6 (.bool false)).setIfInBounds a7 (.bool true),[]⟩ (.tmp a7)=.bool true:=by simp[Act.eval,Array.getD_eq_getD_getElem?,hsz,n7]
      unfold execOp
      simp only[h8,c3,c7,asBool,Sem.run_bind,Sem.run_pure,Result.andThen_ok,if_true]
    rw[Oper.semAt_eq _ _ _ (nd_of h8 (by intro c h; cases h)),r8',Oper.uponIn_value,put_ds,d8,put_some]
    refine wpListIn_nil (wpIn_cond_true ?_ (wpIn_ret (.inr ⟨rfl,rfl,hB hgt,hX⟩)))
    simp[Act.eval,Array.getD_eq_getD_getElem?,hsz,n8]
  · rw[decide_eq_false hgt] at hr
    have wf:∀{o:Oper} {s:St} {tm:Array Value} {w:World} {σ:Nat→Value},o.guard=some (3,true)→Rel w0 p0 p σ s tm [] w→s.get a3=.l (.d (.bool false))→Region.wanted o (yielded #[o0,o1,o2,o3,o4,o5,o6,o7,o8] tm)=false:=fun hg hr hb=>wanted_at hg hg3 hr hb
    refine skip_wp wide_fn hr (dlt d4 n4) (wf g4 hr (by simp only[St.get,St.put,setT,getT,if_true])) fun tm hr=>?_
    rw[d4] at hr
    refine skip_wp wide_fn hr (dlt d5 n5) (wf g5 hr (by simp only[St.get,St.put,setT,getT,if_neg ne_a3_a4,if_true])) fun tm hr=>?_
    rw[d5] at hr
    refine skip_wp wide_fn hr (dlt d6 n6) (wf g6 hr (by simp only[St.get,St.put,setT,getT,if_neg ne_a3_a4,if_neg ne_a3_a5,if_true])) fun tm hr=>?_
    rw[d6] at hr
    refine skip_wp wide_fn hr (dlt d7 n7) (wf g7 hr (by simp only[St.get,St.put,setT,getT,if_neg ne_a3_a4,if_neg ne_a3_a5,if_neg ne_a3_a6,if_true])) fun tm hr=>?_
    rw[d7] at hr
    have he8:effK T o8 ((((((((s.put (some a0) (.l (.d (.int .i64 nd)))).put (some a1) (.l (.d (.int .i64 hv)))).put (some a2) (.l (.d (.bool false)))).put (some a3) (.l (.d (.bool false)))).put (some a4) (.l .und)).put (some a5) (.l .und)).put (some a6) (.l .und)).put (some a7) (.l .und)).eval (assoc s.b) (assoc s.o) 0 (fun ef=>ef={ v:=.l (.d (.bool false)) }):=by
      have x3:((((((((s.put (some a0) (.l (.d (.int .i64 nd)))).put (some a1) (.l (.d (.int .i64 hv)))).put (some a2) (.l (.d (.bool false)))).put (some a3) (.l (.d (.bool false)))).put (some a4) (.l .und)).put (some a5) (.l .und)).put (some a6) (.l .und)).put (some a7) (.l .und)).eval (.tmp a3)=.l (.d (.bool false)):=by
        simp only[St.eval,St.get,St.put,setT,getT,if_neg ne_a3_a4,if_neg ne_a3_a5,if_neg ne_a3_a6,if_neg ne_a3_a7,if_true]
      have x7:((((((((s.put (some a0) (.l (.d (.int .i64 nd)))).put (some a1) (.l (.d (.int .i64 hv)))).put (some a2) (.l (.d (.bool false)))).put (some a3) (.l (.d (.bool false)))).put (some a4) (.l .und)).put (some a5) (.l .und)).put (some a6) (.l .und)).put (some a7) (.l .und)).eval (.tmp a7)=.l .und:=by
        simp only[St.eval,St.get,St.put,setT,getT,if_true]
      unfold effK
      simp only[h8,x3,x7]
      rfl
    refine step_wp wide_fn (effK_sound (ds:=[]) hT hr (dlt d8 n8) (fun hm=>by simp[Oper.makes,h8] at hm) he8) (wanted_none g8) (nd_of h8 (by intro c h; cases h)) fun σ tm w hr=>?_
    rw[d8] at hr
    refine wpListIn_nil (wpIn_cond_false ?_ (wpIn_skip (.inl ⟨rfl,_,_,_,hn hgt,hr⟩)))
    have:=hr.eval (ds:=[]) (.tmp a8)
    rw[show (((((((((s.put (some a0) (.l (.d (.int .i64 nd)))).put (some a1) (.l (.d (.int .i64 hv)))).put (some a2) (.l (.d (.bool false)))).put (some a3) (.l (.d (.bool false)))).put (some a4) (.l .und)).put (some a5) (.l .und)).put (some a6) (.l .und)).put (some a7) (.l .und)).put (some a8) (.l (.d (.bool false)))).eval (.tmp a8)=.l (.d (.bool false)) by simp only[St.eval,St.get,St.put,setT,getT,if_true]] at this
    exact RepD_bool this

theorem ItC.of {gf:FuncId} {fn:Func} {c:Code} {cvs:List CV} {r:Option Int} (hf:P.funcs[gf]?=some fn) (hb:fn.body=some c) (hn:(fn.name == "runtime.NumGoroutine")=false) (hres:fn.results.toList=[]) (hl:Nat.ble (cvs.length+1) fn.ntmps=true)
    (h:∀(w0:World) (p0:Nat→Prop) (l:Nat) (X:World→Prop),(∀x W1,r=some x→Below w0.heap.size w0 W1→YieldAt Fence.wide 0 P l #[.int .i64 x] W1 fun e W'=>e=.returned (.bool false)∧X W') →
      IW P w0 p0 (r.isSome=true) X c (fun e s'=>match e with | .normal | .ret=>r=none | _=>False) (start (.l (.raw (.func (.yield l) #[] #[]))::cvs.map CV.av) fn.ntmps)):ItC P gf cvs r:=by
  refine⟨fun w p vs hp hv l X hy=>calls_of_wp hf hb ?_⟩
  have hv':All2 (RepV (fun _=>undef) w p) (.l (.raw (.func (.yield l) #[] #[]))::cvs.map CV.av) (.func (.yield l) #[] #[]::vs):=All2.cons rfl (hv.map_left _ fun x v h=>CV.av_rep h)
  have hlen:(.func (.yield l) #[] #[]::vs:List Value).length≤fn.ntmps:=by
    have:=ble_t.1 hl
    simp only[List.length_cons]; rw[←hv.1]; exact this
  have hrel:Rel w p p (fun _=>undef) (start (.l (.raw (.func (.yield l) #[] #[]))::cvs.map CV.av) fn.ntmps) ((.func (.yield l) #[] #[]::vs:List Value).toArray++Array.replicate (fn.ntmps-(.func (.yield l) #[] #[]::vs:List Value).toArray.size) undef) [] w:=by
    refine⟨Below.refl _ _,fun _ h=>h,fun _ h=>.inl h,hp,tok_args hv' hlen,⟨rfl,fun i x y h=>by simp[start] at h⟩,fun k cs h=>by simp[start,assoc] at h,fun k x h=>by simp[start,assoc] at h,fun k1 k2 g h1=>by simp[St.live,start,assoc] at h1⟩
  have e:(#[.func (.yield l) #[] #[]]++vs.toArray:Array Value)=(.func (.yield l) #[] #[]::vs:List Value).toArray:=by simp
  rw[e]
  have hrun:∀(tms:Array Value) (w':World),(results fn tms).run P w'=.ok (.tuple #[]) w':=by
    intro tms w'
    have:fn.results=#[]:=by apply Array.ext'; simpa using hres
    unfold results
    rw[this]
    simp[go_sem]
  refine Code.wp_mono (fun ex a' w' hq=>?_) ((h w p l X hy).h p _ _ w hrel)
  rcases hq with ⟨hd,s',p',σ',hq,hr⟩ | ⟨rfl,hd,hB,hX⟩
  · cases ex with
    | ret=>exact⟨hd,_,hrun _ _,⟨_,rfl⟩,.inl ⟨hq,hr.below⟩⟩
    | normal=>exact⟨hd,_,hrun _ _,⟨_,rfl⟩,.inl ⟨hq,hr.below⟩⟩
    | _=>exact hq.elim
  · exact⟨hd,_,hrun _ _,⟨_,rfl⟩,.inr ⟨hB,hX⟩⟩

/-! Plain operations, one by one. -/
structure PO (T:TypeId→Option TI) (l:List Oper) (s:St) (K:St→Prop):Prop where
  h:plainOps T l s K
theorem po_nil {K:St→Prop} (h:K s):PO T [] s K:=⟨h⟩
theorem po_move {o:Oper} {r:List Oper} {K:St→Prop} {x:Operand} (ho:o.op=.move x) (hg:o.guard=none) (hd:dstLt o.dst s.n=true) (h:fAV (s.eval x) fun v=>putX s o.dst v fun s=>PO T r s K):PO T (o::r) s K:=by
  rw[fAV_eq,putX_eq] at h
  refine⟨?_⟩
  unfold plainOps
  refine⟨hg,hd,?_⟩
  simp only[ho]; exact h.h
theorem po_store {o:Oper} {r:List Oper} {K:St→Prop} {t:TypeId} {x v:Operand} (ho:o.op=.store t x v) (hg:o.guard=none) (hd:o.dst=none) {k off:Nat} (hx:s.eval x=.l (.ptr k off)) {i:TI} (hi:T t=some i) {cs:List LV} (hc:cellsV (s.eval v)=some cs) (hl:cs.length=i.size) (hok:cs.all LV.ok=true)
    {old:List LV} (hold:assoc s.b k=some old) (hle:Nat.ble (off+i.size) old.length=true) (h:fS (s.setBox k (splice old off cs)) fun s=>PO T r s K):PO T (o::r) s K:=by
  rw[fS_eq] at h
  refine⟨?_⟩
  unfold plainOps
  refine⟨hg,by rw[hd]; rfl,?_⟩
  simp only[ho]
  refine⟨hd,k,off,hx,?_⟩
  unfold storeK
  simp only[hi,hc,hold]
  exact⟨hl,hok,ble_t.1 hle,h.h⟩
theorem WpG.id {fn:Func} {R:List CV→Prop} {y z:Code} (h:WpG P fn R y z s):WpG P fn R y z s:=h
end
end Go.VC
