/- Part 6 of what follows is proved here: the layer over the walk. -/
import Derived.Test.YtldlcdnhdedoeaaGreatV4
set_option linter.unusedVariables false
set_option linter.unusedSimpArgs false
namespace Go.VC
open Go.RowKit (Below)

section
variable {P:Program} {T:TypeId→Option TI} {s:St} {L:Cut}

theorem xDr_s {ops:Array Oper}:∀{l:List Oper} {s:St} {efs:List Eff} {fs:List FP} {K:St→List FP→Prop} {K':St→List Eff→Prop},efs.map fp=fs→xDr P T ops l s fs K→(∀s e,K s (e.map fp)→K' s e)→drawK P T ops l s efs K'
  | [],s,efs,fs,K,K',e0,h,hm=>by subst e0; exact hm _ _ h
  | o::rest,s,efs,fs,K,K',e0,h,hm=>by
    have app:∀{s:St} {ef:Eff},(appX s o.dst ef fun s=>fpK ef fun f=>xDr P T ops rest s (fs++[f]) K)→drawK P T ops rest (s.apply o.dst ef) (efs++[ef]) K':=by
      intro s ef h
      rw[appX_eq,fpK_eq] at h
      exact xDr_s (by rw[List.map_append,e0]; rfl) h hm
    unfold xDr at h
    unfold drawK
    split at h
    · rename_i hg; simp only[hg]
      obtain⟨ef,h1,h2⟩:=xStep_s h
      exact⟨ef,h1,app h2⟩
    · rename_i j want hg
      simp only[hg]
      split at h <;> try exact h.elim
      rename_i d hd
      rw[dstAt_eq] at hd
      simp only[hd]
      split at h <;> try exact h.elim
      case h_2 hb=>
        simp only[hb]
        rw[chk_iff,putX_eq] at h
        exact⟨h.1,xDr_s (by rw[List.map_append,e0]; rfl) h.2 hm⟩
      rename_i b hb
      simp only[hb]
      split at h
      · simp only[forkK_eq,putX_eq,chk_iff] at h
        refine⟨fun e=>?_,fun e=>?_⟩
        · obtain⟨ef,h1,h2⟩:=xStep_s (h.1 e)
          exact⟨ef,h1,app h2⟩
        · have:=h.2 e
          exact⟨this.1,xDr_s (by rw[List.map_append,e0]; rfl) this.2 hm⟩
      · simp only[forkK_eq,putX_eq,chk_iff] at h
        refine⟨fun e=>?_,fun e=>?_⟩
        · obtain⟨ef,h1,h2⟩:=xStep_s (h.2 e)
          exact⟨ef,h1,app h2⟩
        · have:=h.1 e
          exact⟨this.1,xDr_s (by rw[List.map_append,e0]; rfl) this.2 hm⟩

theorem xDraw_s {ops:Array Oper} {K K':St→Prop} {m:Nat} (h:xDraw P T ops s K m) (hm:∀s,K s→K' s):DrawVC P T ops s K':=by
  unfold xDraw at h
  rw[takeX_eq,dropX_eq,cleanX_eq] at h
  refine⟨m,xDr_s rfl h fun s e hk=>?_⟩
  rw[drawF_eq]
  exact⟨drawL_s hk.h.1,xOps_s hk.h.2 hm⟩

theorem AWp.seq {x y:Code} {Q:Exit→St→Prop} {s:St} (h:AWp P x (fun e s'=>match e with | .normal=>∃s2,Weak s' s2∧AWp P y Q s2 | e=>Q e s') s):AWp P (.seq x y) Q s:=fun w0 p0 p σ tm ups w hr=>by
  refine wp_seq (Code.wp_mono (fun e a w' hq=>?_) (h w0 p0 p σ tm ups w hr))
  obtain⟨hd,s',p',σ',hq,hr'⟩:=hq
  cases e with
  | normal=>
    obtain⟨t',d'⟩:=a
    simp only at hd
    subst hd
    obtain⟨s2,hw,hy⟩:=hq
    obtain⟨p2,σ2,hr2⟩:=hw w0 p0 p' σ' t' ups w' hr'
    exact hy w0 p0 p2 σ2 t' ups w' hr2
  | _=>exact⟨hd,s',p',σ',hq,hr'⟩
theorem AWp.cond {c:Operand} {x y:Code} {Q:Exit→St→Prop} {s:St} {b:Bool} (hb:s.eval c=.l (.d (.bool b))) (h1:b=true→AWp P x Q (s.refine c true)) (h2:b=false→AWp P y Q (s.refine c false)):AWp P (.cond c x y) Q s:=fun w0 p0 p σ tm ups w hr=>by
  have hc:=hr.eval (ds:=[]) c
  rw[hb] at hc
  have href:∀b',b=b'→Rel w0 p0 p σ (s.refine c b') tm ups w:=by
    intro b' e
    subst e
    cases c with
    | tmp t=>exact hr.same (put_same hb)
    | _=>exact hr
  exact wp_cond_split (RepD_bool hc) (fun e=>h1 e w0 p0 p σ tm ups w (href true e)) (fun e=>h2 e w0 p0 p σ tm ups w (href false e))
theorem AWp.block {id:Nat} {c:Code} {Q:Exit→St→Prop} {s:St} (h:AWp P c (fun e s'=>match e with | .exit i=>(if i=id then Q .normal s' else Q (.exit i) s') | e=>Q e s') s):AWp P (.block id c) Q s:=fun w0 p0 p σ tm ups w hr=>by
  refine wp_block (Code.wp_mono (fun e a w' hq=>?_) (h w0 p0 p σ tm ups w hr))
  obtain⟨hd,s',p',σ',hq,hr'⟩:=hq
  cases e with
  | exit i=>
    simp only[Exit.inBlock]
    simp only at hq
    split
    · rename_i e; rw[if_pos e] at hq; exact⟨hd,s',p',σ',hq,hr'⟩
    · rename_i e; rw[if_neg e] at hq; exact⟨hd,s',p',σ',hq,hr'⟩
  | _=>exact⟨hd,s',p',σ',hq,hr'⟩
theorem AWp.loop {c:Code} {Q:Exit→St→Prop} {s:St} (h:LoopVC (fun Q' s'=>AWp P c Q' s') Q s):AWp P (.loop c) Q s:=fun w0 p0 p σ tm ups w hr=>by
  obtain⟨I,⟨n,s1,hw1,hI⟩,hround⟩:=h
  obtain⟨p1,σ1,hr1⟩:=hw1 w0 p0 p σ tm ups w hr
  refine wp_loop_rel (fun n a w=>a.defers=[]∧∃s p σ,I n s∧Rel w0 p0 p σ s a.tmps ups w) (fun n a w hJ=>?_) (n:=n) ⟨rfl,s1,p1,σ1,hI,hr1⟩
  obtain⟨hd,s2,p2,σ2,hI2,hr2⟩:=hJ
  obtain⟨t2,d2⟩:=a
  simp only at hd
  subst hd
  refine Code.wp_mono (fun e a' w' hq=>?_) (hround n s2 hI2 w0 p0 p2 σ2 t2 ups w hr2)
  obtain⟨hd,s',p',σ',hq,hr'⟩:=hq
  cases e with
  | normal=>
    obtain⟨n',s3,hlt,hw3,hI3⟩:=hq
    obtain⟨p3,σ3,hr3⟩:=hw3 w0 p0 p' σ' a'.tmps ups w' hr'
    exact⟨n',hlt,hd,s3,p3,σ3,hI3,hr3⟩
  | _=>exact⟨hd,s',p',σ',hq,hr'⟩
theorem AWp.scope {c:Code} {Q:Exit→St→Prop} {s:St} (h:AWp P c (fun e s'=>match e with | .goto _=>False | e=>Q e s') s):AWp P (.scope c) Q s:=fun w0 p0 p σ tm ups w hr=>by
  refine wp_scope_straight (Code.wp_mono (fun e a' w' hq=>?_) (h w0 p0 p σ tm ups w hr))
  obtain⟨hd,s',p',σ',hq,hr'⟩:=hq
  cases e with
  | goto l=>exact hq.elim
  | _=>exact⟨hd,s',p',σ',hq,hr'⟩
theorem LoopVC.mono {xb xb':(Exit→St→Prop)→St→Prop} {Q:Exit→St→Prop} {s:St} (h:LoopVC xb Q s) (hm:∀Q s,xb Q s→xb' Q s):LoopVC xb' Q s:=
  let ⟨I,h1,h2⟩:=h
  ⟨I,h1,fun n s1 hI=>hm _ _ (h2 n s1 hI)⟩

theorem preX_a {L:Cut} {dst:Option Nat} {s:St} {K:St→Prop} (h:preX L dst s K):∃s',Weak s s'∧s'.n=s.n∧K s':=by
  have hn:∀(l:List Nat) (s:St),(s.ices l).n=s.n:=by
    intro l
    induction l with
    | nil=>intro s; rfl
    | cons a r ih=>intro s; unfold St.ices; rw[ih]; unfold St.ice; split <;> rfl
  unfold preX at h
  split at h
  · exact⟨s,Weak.refl s,rfl,h⟩
  · split at h
    · split at h
      · rename_i ks _
        rw[fS_eq] at h
        exact⟨_,fun w0 p0 p σ tm ups w hr=>let ⟨p',hr'⟩:=hr.ices ks; ⟨p',σ,hr'⟩,hn _ _,h⟩
      · exact⟨s,Weak.refl s,rfl,h⟩
    · exact⟨s,Weak.refl s,rfl,h⟩

theorem xOpsP_a (hT:TabOk P T) {ops:Array Oper} {w0:World} {p0:Nat→Prop} {ups:List (Array Value)} {K:St→Prop} {Q:Exit→Act→World→Prop} (hQ:∀a w,NextOk w0 p0 ups K a w→Q .normal a w):∀(l:List Oper) {p:Nat→Prop} {σ:Nat→Value} {s:St} {tm:Array Value} {w:World},Rel w0 p0 p σ s tm ups w→xOpsP P T L ops l s K→wpList P ops Q l ⟨tm,[]⟩ w
  | [],p,σ,s,tm,w,h,he=>hQ _ _ ⟨rfl,s,p,σ,he,h⟩
  | o::rest,p,σ,s,tm,w,h,he=>by
    have step:∀{s:St},Rel w0 p0 p σ s tm ups w→(preX L o.dst s fun s=>xOp P T o s fun s'=>xOpsP P T L ops rest s' K)→o.wp P ⟨tm,[]⟩ w (wpList P ops Q rest) Q:=fun {s} h he=>by
      obtain⟨s1,hw,_,hk⟩:=preX_a he
      obtain⟨p1,σ1,h1⟩:=hw w0 p0 p σ tm ups w h
      exact Oper.wp_mono (fun a w' ⟨hd,s',p',σ',hk,hrel⟩=>by
        obtain⟨t',d'⟩:=a
        simp only at hd
        subst hd
        exact xOpsP_a hT hQ rest hrel hk) (vcOp_sound hT h1 (xOp_s hk fun _ h=>h))
    unfold xOpsP at he
    unfold wpList
    split at he
    · rename_i hg
      have hw:Region.wanted o (yielded ops tm)=true:=by simp[Region.wanted,hg]
      rw[if_pos hw]
      exact .inl (step h he)
    · rename_i j want hg
      split at he <;> try exact he.elim
      rename_i d hdd
      rw[dstAt_eq] at hdd
      split at he <;> try exact he.elim
      case h_2 hb=>
        have hyl:yielded ops tm j=none:=by
          unfold yielded
          rw[hdd]
          have hu:tm.getD d undef=undef:=by
            have:=h.t.2 d
            have e:getT s.t d=.l .und:=hb
            rw[e] at this
            exact this
          simp only[Option.bind_some]
          cases htd:tm[d]? with
          | none=>rfl
          | some v=>
            rw[Array.getD_eq_getD_getElem?,htd] at hu
            have hv:v=undef:=hu
            subst hv; rfl
        have hw:¬Region.wanted o (yielded ops tm)=true:=by
          simp only[Region.wanted,hg,hyl]
          intro e
          cases e
        rw[if_neg hw]
        rw[chk_iff,putX_eq] at he
        obtain⟨hd,he⟩:=he
        have h2:=h.put o.dst (.l .und) undef (dstLt_spec (by exact hd)) rfl []
        rw[put_tmps]
        exact xOpsP_a hT hQ rest h2 he
      rename_i b hb
      have hyl:yielded ops tm j=some b:=by
        unfold yielded
        rw[hdd]
        simp only[Option.bind_some,bool_at h hb]
      -- what is to be shown, apart from the form
      have go:(b=want→preX L o.dst (s.put (some d) (.l (.d (.bool want)))) fun s=>xOp P T o s fun s'=>xOpsP P T L ops rest s' K)→(b=(!want)→dstLt o.dst s.n=true∧xOpsP P T L ops rest ((s.put (some d) (.l (.d (.bool (!want))))).put o.dst (.l .und)) K) →
          (if Region.wanted o (yielded ops tm)=true then o.wp P ⟨tm,[]⟩ w (wpList P ops Q rest) Q∨(o.asks P ⟨tm,[]⟩ w∧LetsOut Q) else wpList P ops Q rest (Act.put ⟨tm,[]⟩ o.dst undef) w):=by
        intro h1 h2
        by_cases hbw:b=want
        · have hw:Region.wanted o (yielded ops tm)=true:=by
            simp only[Region.wanted,hg,hyl,hbw]
            exact beq_self_eq_true _
          rw[if_pos hw]
          exact .inl (step (h.same (put_same (by rw[hb,hbw]))) (h1 hbw))
        · have hbn:b=(!want):=by cases b <;> cases want <;> simp_all
          have hw:¬Region.wanted o (yielded ops tm)=true:=by
            simp only[Region.wanted,hg,hyl]
            intro e
            exact hbw (by simpa using e)
          rw[if_neg hw]
          obtain⟨hd,he⟩:=h2 hbn
          have h3:=(h.same (put_same (by rw[hb,hbn]))).put o.dst (.l .und) undef (dstLt_spec (by exact hd)) rfl []
          rw[put_tmps]
          exact xOpsP_a hT hQ rest h3 he
      split at he
      · rw[forkK_eq,putX_eq] at he
        simp only[putX_eq] at he
        refine go (fun e=>he.1 e) fun e=>?_
        have:=he.2 e
        rwa [chk_iff] at this
      · rw[forkK_eq,putX_eq] at he
        simp only[putX_eq] at he
        refine go (fun e=>he.2 e) fun e=>?_
        have:=he.1 e
        rwa [chk_iff] at this

/-- SOUNDNESS. -/
theorem xc_a (hT:TabOk P T):∀(c:Code) {Q:Exit→St→Prop} {s:St},xc P T L c Q s→AWp P c Q s
  | .skip,Q,s,h=>vc_sound (L:=L) hT .skip h
  | .label l,Q,s,h=>vc_sound (L:=L) hT (.label l) h
  | .exit i,Q,s,h=>vc_sound (L:=L) hT (.exit i) h
  | .ret,Q,s,h=>vc_sound (L:=L) hT .ret h
  | .seq x y,Q,s,h=>by
    unfold xc at h
    split at h
    · obtain⟨J,h1,h2⟩:=h.h
      refine AWp.seq ((xc_a hT x h1).mono fun e s' he=>?_)
      cases e with
      | normal=>obtain⟨s2,hw,hj⟩:=he; exact⟨s2,hw,xc_a hT y (h2 s2 hj)⟩
      | _=>exact he
    · refine AWp.seq ((xc_a hT x h).mono fun e s' he=>?_)
      cases e with
      | normal=>exact⟨s',Weak.refl _,xc_a hT y he⟩
      | _=>exact he
  | .cond c x y,Q,s,h=>by
    unfold xc at h
    split at h <;> try exact h.elim
    rename_i b hb
    rw[forkK_eq,refX_eq,refX_eq] at h
    exact AWp.cond hb (fun e=>xc_a hT x (h.1 e)) (fun e=>xc_a hT y (h.2 e))
  | .block id c,Q,s,h=>by unfold xc at h; exact AWp.block (xc_a hT c h)
  | .loop c,Q,s,h=>by
    unfold xc at h
    rw[fS_eq] at h
    exact AWp.loop (h.mono fun _ _ h=>xc_a hT c h)
  | .region id ops draw,Q,s,h=>by
    unfold xc at h
    cases draw with
    | false=>
      intro w0 p0 p σ tm ups w hr
      have hQ:∀a w,NextOk w0 p0 ups (fun s'=>fS (s'.cut L id) fun s'=>Q .normal s') a w→(fun e (a':Act) w'=>a'.defers=[]∧∃s' p' σ',Q e s'∧Rel w0 p0 p' σ' s' a'.tmps ups w') Exit.normal a w:=
        fun a w ⟨hd,s',p',σ',hk,hr'⟩=>⟨hd,_,(hr'.cut L id).choose,σ',by simp only[fS_eq] at hk; exact hk,(hr'.cut L id).choose_spec⟩
      exact wp_region_list (xOpsP_a hT hQ ops.toList hr h)
    | true=>
      refine vc_sound (L:=L) hT (.region id ops true) ?_
      unfold vc
      simp only at h ⊢
      rw[fS_eq] at h
      obtain⟨m,h⟩:=h
      exact xDraw_s h fun s hs=>by rw[fS_eq] at hs; exact hs
  | .rangeFunc _ _ _ _,Q,s,h=>by unfold xc at h; rw[fS_eq] at h; exact h
  | .scope c,Q,s,h=>by unfold xc at h; exact AWp.scope (xc_a hT c h)
  | .goto _,Q,s,h=>by unfold xc at h; rw[fS_eq] at h; exact h
  | .refuse _,Q,s,h=>by unfold xc at h; rw[fS_eq] at h; exact h

end
section
variable {P:Program} {T:TypeId→Option TI} {w0:World} {p0 p p':Nat→Prop} {σ:Nat→Value} {s s' s0:St} {tm:Array Value} {ups:List (Array Value)} {w w':World} {L:Cut}
/-- A CONTRACT, out of what is to be shown of the body. -/
theorem Spec.of_awp (hT:TabOk P T) {f:FuncId} {fn:Func} {c:Code} {args:List CV} {R:List CV→Prop} (hf:P.funcs[f]?=some fn) (hb:fn.body=some c) (hn:(fn.name == "runtime.NumGoroutine")=false) (hl:args.length≤fn.ntmps)
    (h:AWp P c (retQ T fn.results.toList R) (start (args.map CV.av) fn.ntmps)):Spec P f args R:=by
  refine⟨FnOk.of hf hb hn,fun w p vs hp hv=>calls_of_wp hf hb ?_⟩
  have hv':All2 (RepV (fun _=>undef) w p) (args.map CV.av) vs:=hv.map_left _ fun x v h=>CV.av_rep h
  have hrel:Rel w p p (fun _=>undef) (start (args.map CV.av) fn.ntmps) (vs.toArray++Array.replicate (fn.ntmps-vs.toArray.size) undef) [] w:=by
    refine⟨Below.refl _ _,fun _ h=>h,fun _ h=>.inl h,hp,tok_args hv' (by rw[←hv.1]; exact hl),⟨rfl,fun i x y h=>by simp[start] at h⟩,fun k cs h=>by simp[start,assoc] at h,fun k x h=>by simp[start,assoc] at h,fun k1 k2 g h1=>by simp[St.live,start,assoc] at h1⟩
  refine Code.wp_mono (fun e a' w' hq=>?_) (h w p p _ _ [] w hrel)
  obtain⟨hd,s',p',σ',hq,hr⟩:=hq
  have fin:(∃cv,closeVs s' (resVals T s' fn.results.toList)=some cv∧R cv)→a'.defers=[]∧∃v,(results fn a'.tmps).run P w'=.ok v w'∧∃v' rs p',(Ending.returned v)=.returned v'∧R rs∧RepR w' p' rs v'∧Below w.heap.size w w'∧(∀b,p b→p' b)∧(∀b,p' b→p b∨w.heap.size≤b)∧∀b,p' b→b<w'.heap.size:=by
    rintro⟨cv,hcv,hR⟩
    obtain⟨v,hrun,hrep⟩:=run_results2 hT.ok hr rfl hcv
    refine⟨hd,v,hrun,v,cv,pAll p' σ' s',rfl,hR,hrep,hr.below,fun b hb=>.inl (hr.pin b hb),fun b hb=>?_,fun b hb=>pAll_lt hr hb⟩
    rcases hb with hb | ⟨k,hk,hb⟩
    · exact hr.pnew b hb
    · exact .inr (hr.live_lt hk hb).2.2
  cases e with
  | ret=>exact fin hq
  | normal=>exact fin hq
  | _=>exact hq.elim

/-- A call, walked in place: what the caller keeps in memory is the callee's, too. -/
theorem ACall.inlineA (hT:TabOk P T) {f:FuncId} {fn:Func} {c:Code} {args:List AV} {K:AV→St→Prop} (hf:P.funcs[f]?=some fn) (hb:fn.body=some c) (hn:(fn.name == "runtime.NumGoroutine")=false) (hl:args.length≤fn.ntmps)
    (h:AWp P c (inlQ T fn.results.toList K) (s.enter args fn.ntmps)):ACall P f args s K:=by
  refine⟨FnOk.of hf hb hn,fun w0 p0 p σ tm ups w vs hr hv=>calls_of_wp hf hb ?_⟩
  have hrel:Rel w0 p0 p σ (s.enter args fn.ntmps) (vs.toArray++Array.replicate (fn.ntmps-vs.toArray.size) undef) (tm::ups) w:=
    ⟨hr.below,hr.pin,hr.pnew,hr.plt,tok_args hv (by rw[←hv.1]; exact hl),All2.cons hr.t hr.up,hr.b,hr.o,hr.apart⟩
  refine Code.wp_mono (fun e a' w' hq=>?_) (h w0 p0 p σ _ _ w hrel)
  obtain⟨hd,s',p',σ',hq,hr'⟩:=hq
  have fin:(∃r s2,resultsAV T s' fn.results.toList=some r∧s'.leave=some s2∧K r s2)→a'.defers=[]∧∃v,(results fn a'.tmps).run P w'=.ok v w'∧∃v' r s2 p' σ',(Ending.returned v)=.returned v'∧K r s2∧RepV σ' w' p' r v'∧Rel w0 p0 p' σ' s2 tm ups w':=by
    rintro⟨r,s2,h1,h2,h3⟩
    obtain⟨v,hrun,hrep⟩:=run_results (P:=P) (s:=s') (fn:=fn) hT.ok rfl hr' h1
    obtain⟨tm',ups',he,hr2⟩:=leave_rel hr' h2
    cases he
    exact⟨hd,v,hrun,v,r,s2,p',σ',rfl,h3,hrep,hr2⟩
  cases e with
  | ret=>exact fin hq
  | normal=>exact fin hq
  | _=>exact hq.elim

end
section
variable {P:Program} {T:TypeId→Option TI} {s:St} {L:Cut}
def retX (T:TypeId→Option TI) (rs:List ResultVar) (R:List CV→Prop):Exit→St→Prop:=fun e s=>match e with
  | .ret | .normal=>rowK (closeVs s (resVals T s rs)) R
  | _=>False

theorem retX_s {rs:List ResultVar} {R:List CV→Prop} {e:Exit} {s:St} (h:retX T rs R e s):retQ T rs R e s:=by
  cases e with
  | ret=>exact rowK_iff.1 h
  | normal=>exact rowK_iff.1 h
  | _=>exact h.elim

/-- A contract, out of the form that reduces. -/
theorem Spec.of_xc (hT:TabOk P T) (L:Cut) {f:FuncId} {fn:Func} {c:Code} {args:List CV} {R:List CV→Prop} (n:Nat) (rs:List ResultVar) (hf:P.funcs[f]?=some fn) (hb:fn.body=some c) (hn:(fn.name == "runtime.NumGoroutine")=false) (hnt:fn.ntmps=n) (hrs:fn.results.toList=rs) (hl:Nat.ble args.length n=true)
    (h:fS (start (args.map CV.av) n) fun s=>xc P T L c (retX T rs R) s):Spec P f args R:=by
  subst hnt hrs
  rw[fS_eq] at h
  exact Spec.of_awp hT hf hb hn (ble_t.1 hl) ((xc_a hT c h).mono fun e s=>retX_s)

/-- A call of a function whose results are known and all plain. -/
theorem useS {f:FuncId} {args:List AV} {r:List CV} {dst:Option Nat} {K:St→Prop} {cargs:List CV} (hs:Spec P f cargs (fun rs=>rs=r)) (hc:closeVs s args=some cargs) (hsc:r.all CV.scalar=true) (hk:fAV (resAV r) fun r=>putX s dst r K):CallX P f args s dst K:=
  .of (ACall.scalar hs hc (fun rs e=>by subst e; exact hsc) fun rs e=>by subst e; exact⟨rfl,hk⟩)

theorem useC {f:FuncId} {args:List AV} {r:List CV} {dst:Option Nat} {K:St→Prop} {cargs:List CV} (hs:Spec P f cargs (fun rs=>rs=r)) (hc:closeVs s args=some cargs) (hcl:args.all AV.closed=true) (hk:fAV (resAV r) fun r=>putX s dst r K):CallX P f args s dst K:=
  .of (ACall.closed hs hc hcl fun rs e=>by subst e; exact⟨rfl,hk⟩)

theorem loopI {body:(Exit→St→Prop)→St→Prop} {Q:Exit→St→Prop} (I:Nat→St→Prop) (n:Nat) (s1:St) (hw:Weak s s1) (hI:I n s1)
    (h:∀n s1,I n s1→body (fun e s'=>match e with | .normal=>∃n' s2,n'<n∧Weak s' s2∧I n' s2 | e=>Q e s') s1):LoopVC body Q s:=⟨I,⟨n,s1,hw,hI⟩,h⟩

end
end Go.VC

namespace Go.VC
/-- Branches that go on alike: what they go on with is shown once. -/
theorem join {G Z A:Prop} (h:(A→Z)→G) (hz:A→Z):G:=h hz
end Go.VC
