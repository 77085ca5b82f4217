/- It is proved that the law WorldAlone returns true at every input that the row lets in; there is no condition beside the row's own. -/
import Derived.Test.YtldlcdnhdedoeaaGreatXWorldAlone10
import Derived.Test.YtldlcdnhdedoeaaGreatXWorldAlone9
import Derived.Test.YtldlcdnhdedoeaaGreatRows
set_option linter.unusedVariables false
set_option linter.unusedSimpArgs false
set_option maxRecDepth 100000
set_option maxHeartbeats 4000000
namespace Go.Proofs.YtldlcdnhdedoeaaGreat
open Go Go.VC
theorem u8_ofA {x:Int} (h:wfI .u8 x):0≤x∧x≤255:=by
 have h:=wfI_8 h
 omega
theorem keepW_true {p:Nat} (c:KernelCmd):keepOk p true (keepW (p:Int) true) c:=by
 unfold keepOk keepW keepC
 by_cases e:c.Part=(p:Int)
 ·rw[if_pos e]; exact⟨fun _=>.inl ⟨e,.inl rfl⟩,fun h=>by cases h⟩
 ·rw[if_neg e,if_pos rfl]
  exact⟨fun h=>.inr ⟨rfl,of_decide_eq_true h⟩,fun h=>⟨e,.inr (of_decide_eq_false h)⟩⟩
theorem keepW_false {p:Nat} {c:KernelCmd} (h:plainC (p:Int) c):keepOk p false (keepW (p:Int) false) c:=by
 unfold keepOk keepW keepC
 by_cases e:c.Part=(p:Int)
 ·rw[if_pos e]; exact⟨fun _=>.inl ⟨e,.inr (h e)⟩,fun h=>by cases h⟩
 ·rw[if_neg e,if_neg (by decide)]
  exact⟨fun h=>(by cases h),fun _=>⟨e,.inl rfl⟩⟩
theorem flt_some {sc:List (List KernelCmd)} (q:KernelCmd→Bool) {m:Nat} (h:∀x∈sc,x.length≤m):∀x∈sc.map fun x=>x.filter q,x.length≤m:=by
 intro x hx
 obtain⟨y,hy,rfl⟩:=List.mem_map.1 hx
 exact Nat.le_trans (List.length_filter_le _ _) (h y hy)
theorem play_lens {s:KernelState} (script:List (List KernelCmd)) (hc:∀x∈script,x.length≤1000):∀k,k≤script.length→(∀q∈(playK s script k).saws,q.length≤1000*k)∧∀q∈(playK s script k).rans,q.length≤k:=by
 intro k
 induction k with
 | zero=>intro _; exact⟨fun q hq=>by rw[List.eq_of_mem_replicate hq]; simp,fun q hq=>by rw[List.eq_of_mem_replicate hq]; simp⟩
 | succ k ih=>
  intro hk
  obtain⟨a,b⟩:=ih (by omega)
  refine⟨fun q hq=>?_,fun q hq=>?_⟩
  ·have:=asksL_lens (t:=k) (x:=((playK s script k).s,(playK s script k).saws)) a (script.getD k []) q hq
   have hk2:k<script.length:=by omega
   rw[List.getD_eq_getElem?_getD,List.getElem?_eq_getElem hk2] at this
   have h2:=hc _ (List.getElem_mem hk2)
   simp only[Option.getD_some] at this
   omega
  ·have hq:q∈ranStep (ranK (asksL k ((playK s script k).s,(playK s script k).saws) (script.getD k [])).1) (playK s script k).rans:=hq
   unfold ranStep at hq
   obtain⟨i,hi⟩:=List.getElem?_of_mem hq
   rw[List.getElem?_zipWith] at hi
   split at hi
   ·rename_i a' b' ha hb
    cases hi
    rw[List.length_append]
    have:=b a' (List.mem_of_getElem? ha)
    simpa using this
   ·cases hi
theorem getD_le {α:Type} {L:List (List α)} {m:Nat} (h:∀q∈L,q.length≤m) (i:Nat):(L.getD i []).length≤m:=by
 rw[List.getD_eq_getElem?_getD]
 cases e:L[i]? with
 | none=>exact Nat.zero_le _
 | some q=>exact h q (List.mem_of_getElem? e)
theorem views_refl {s:KernelState} (hs:kP s) (h0:s.Now=0) (sc:List (List KernelCmd)) (hl:sc.length≤100) (hc:∀x∈sc,x.length≤10):∀x∈viewsL (playK s sc sc.length),law22_Same x x=some true:=by
 intro x hx
 obtain⟨i,hi,rfl⟩:=List.mem_map.1 hx
 obtain⟨l1,l2⟩:=play_lens (s:=s) sc (fun x hx=>by have:=hc x hx; omega) sc.length (Nat.le_refl _)
 have kp:=(playK_ok hs sc h0 sc.length (by omega)).1
 refine sameV_refl _ ?_ ?_ ?_
 ·have:=getD_le l1 i; show ((playK s sc sc.length).saws.getD i []).length≤_; omega
 ·have:=getD_le l2 i; show ((playK s sc sc.length).rans.getD i []).length≤_; omega
 ·show ((_:Option PartState).getD emptyP).Log.length≤_
  cases e:(playK s sc sc.length).s.Parts[i]? with
  | none=>exact Nat.zero_le _
  | some P=>have:=(kp.parts P (List.mem_of_getElem? e)).1.2.2.2; show P.Log.length≤_; omega
theorem proofWorldAlone:PureWorldAlone:=by
 intro b l p hb hl hp
 have hll:l.length≤4611686018427387904:=by have:=hl.1; unfold BB at this; omega
 have hcc:∀x∈l,x.Cmds.length≤4611686018427387904:=fun x hx=>by have:=(hl.2 x hx).1; unfold BB at this; omega
 unfold law22_WorldAlone
 by_cases h5:(b.length:Int)>500
 ·have hg:law22_Great b l=some true:=by unfold law22_Great; rw[jn_eq,decide_eq_true h5,fk_t]; rfl
  rw[bnd_eq hg,fk_t,bnd_eq law22_knows_eq]
 have hbp:bytesP b:=⟨by omega,fun x hx=>u8_ofA (hb.2 x hx)⟩
 obtain⟨g,hg,hgg⟩:=great22_ex b l hbp hll hcc
 rw[bnd_eq hg]
 cases g with
 | true=>rw[fk_t,bnd_eq law22_knows_eq]
 | false=>
 obtain⟨g1,g2,g3⟩:=hgg rfl
 have hck:ck (decide ((([]:List Int).length+b.length)*1≤140737488355328))=(fun x:Option Bool=>x):=funext fun x=>ck_t (by simp; omega)
 have hlen:l.length≤1000000000:=by omega
 have hcl:∀x∈l,x.Cmds.length≤1000000000:=fun x hx=>by have:=g3 x hx; omega
 have hsl:(l.map (·.Cmds)).length≤100:=by rw[List.length_map]; exact g2
 have hsc:∀x∈l.map (·.Cmds),x.length≤10:=fun x hx=>by obtain⟨y,hy,rfl⟩:=List.mem_map.1 hx; exact g3 y hy
 have hwl:∀s,(withL p s l).length≤1000000000:=fun s=>by unfold withL; rw[List.length_map]; exact hlen
 have hws:∀s,law22_script (withL p s l)=some ((l.map (·.Cmds)).map fun x=>x.filter (keepW p s)):=fun s=>by rw[law22_script_eq _ (hwl s),withL_cmds]
 have hsl2:∀s,((l.map (·.Cmds)).map fun x=>x.filter (keepW p s)).length≤100:=fun s=>by rw[List.length_map]; exact hsl
 rw[fk_f]
 simp only[hck]
 rw[bnd_eq (law22_script_eq l hlen),List.nil_append]
 obtain⟨r,hr,hdr⟩:=image_Decode_ex b hbp (fun c hc=>⟨_,image_Right_eq c hc.conf⟩)
 obtain⟨x4,x7,x10,p4,p7,p10,e1,e2,e3,e4,H,hB⟩:∃x4 x7 x10:List WorldView×Int,world_Play b (l.map (·.Cmds))=some x4∧world_Play b ((l.map (·.Cmds)).map fun x=>x.filter (keepW p true))=some x7∧world_Play b ((l.map (·.Cmds)).map fun x=>x.filter (keepW p false))=some x10∧x4.2=x7.2∧x4.2=x10.2∧x4.1.length=x7.1.length∧x4.1.length=x10.1.length∧(∀n:Nat,p=(n:Int)→n<x4.1.length→x4.1[n]?=x7.1[n]?∧((∀x∈l,∀c∈x.Cmds,plainC p c)→x4.1[n]?=x10.1[n]?))∧(∀x∈x4.1,law22_Same x x=some true):=by
  by_cases he:r.2.2=0
  rotate_left
  ·exact⟨_,_,_,world_Play_e1 hr he,world_Play_e1 hr he,world_Play_e1 hr he,rfl,rfl,rfl,rfl,(fun n _ h=>absurd h (Nat.not_lt_zero _)),(fun x h=>(List.not_mem_nil h).elim)⟩
  rcases boot_k r.1 (hdr.1 he).1.conf with ⟨e,he2,k1⟩ | ⟨s,k1,hs,h0⟩
  ·exact⟨_,_,_,world_Play_e2 hr he k1 he2,world_Play_e2 hr he k1 he2,world_Play_e2 hr he k1 he2,rfl,rfl,rfl,rfl,(fun n _ h=>absurd h (Nat.not_lt_zero _)),(fun x h=>(List.not_mem_nil h).elim)⟩
  have w4:=world_Play_ok hr he k1 hs h0 hsl hsc
  have hvr:=views_refl hs h0 _ hsl hsc
  have w7:=world_Play_ok hr he k1 hs h0 (hsl2 true) (flt_some (keepW p true) hsc)
  have w10:=world_Play_ok hr he k1 hs h0 (hsl2 false) (flt_some (keepW p false) hsc)
  rw[List.length_map] at w7 w10
  generalize hN:(l.map (·.Cmds)).length=N at *
  have vlen:∀sc:List (List KernelCmd),(viewsL (playK s sc N)).length=s.Parts.length:=fun sc=>by
   unfold viewsL
   rw[List.length_map,List.length_range,(playK_ok hs sc h0 N (by omega)).2.2.1]
  refine⟨_,_,_,w4,w7,w10,rfl,rfl,by simp only[vlen],by simp only[vlen],fun n hn _=>?_,?_⟩
  ·subst hn
   refine⟨(views_alone (play_alone (L:=true) (keep:=keepW (n:Int) true) hs h0 (l.map (·.Cmds)) (fun x _ c _=>keepW_true c) N (by omega))).2,fun hpl=>?_⟩
   refine (views_alone (play_alone (L:=false) (keep:=keepW (n:Int) false) hs h0 (l.map (·.Cmds)) (fun x hx c hc=>?_) N (by omega))).2
   obtain⟨y,hy,rfl⟩:=List.mem_map.1 hx
   exact keepW_false (hpl y hy c hc)
  ·exact hvr
 rw[bnd_eq p4,bnd_eq (law22_with_eq l p true hlen hcl),bnd_eq (hws true),bnd_eq p7,bnd_eq (law22_with_eq l p false hlen hcl),bnd_eq (hws false),bnd_eq p10]
 exact alone_tail l p x4 x7 x10 hlen hcl e1 e2 e3 e4 H hB
end Go.Proofs.YtldlcdnhdedoeaaGreat
namespace Go.Proofs.YtldlcdnhdedoeaaGreat.worldAlone
open Go Go.VC Go.ChangeShapes Go.WideShapes Go.ChangeAt Go.RowKit
theorem own:ownKnob Tryz.prog.godebug=none:=by kernel_rfl
theorem laidOut:laidOutB Tryz.prog=true:=by kernel_rfl
theorem lifted (os:Os) (started:os.Started) (H:Type) (enc:TypeId×Value→H) :
  ReturnsInHanded {} Tryz.checked os 8 .any (Rows.worldAloneSpec.pre6 enc Tryz.prog Tryz.f8 Rows.worldAloneRow.domain false) (Rows.worldAloneSpec.post enc Tryz.prog Tryz.f8 false true false false):=by
 refine returnsInHanded_of_change_sized (C:=Tryz.checked) own started (by kernel_rfl) Tryz.func8
  (ChangeSpec.witness6 (enc:=enc) (C:=Tryz.checked) false ⟨#[],#[.slice none 0 0,.slice none 0 0,.int .i64 0],[]⟩ 8 (by kernel_rfl) (by kernel_rfl) (by kernel_rfl) (by kernel_rfl)) ?_
 intro W base args ds gs before hval0 hW hcnd hsz0 _
 have hsz:(DataW.weightsEach Tryz.prog (Tryz.f8.params.toList++Rows.worldAloneSpec.plain.varTypes Tryz.prog) (ds++gs)).all (·≤reachBytes)=true:=hsz0
 have hval:∀(j:Nat) t v,Tryz.f8.params[j]?=some t→args[j]?=some v→Value.okWide Tryz.prog W .any base t v:=hval0
 have hW':=hW
 obtain⟨p,q,hA0,hV,rfl,hfz,hnd⟩:=hW
 have hA:DataW.TrodAll enc Tryz.prog W 0 (fun _=>true) true Tryz.f8.params.toList args.toList ds p:=hA0
 rw[Tryz.params8] at hA hval hsz
 obtain⟨v0,vs0,d0,ds0,p0,q0,hargs,rfl,rfl,h0,r0⟩:=trodAll_cons hA
 obtain⟨v1,vs1,d1,ds1,p1,q1,rfl,rfl,rfl,h1,r1⟩:=trodAll_cons r0
 obtain⟨v2,vs2,d2,ds2,p2,q2,rfl,rfl,rfl,h2,r2⟩:=trodAll_cons r1
 obtain⟨rfl,rfl,rfl⟩:=trodAll_nil r2
 obtain rfl:args=#[v0,v1,v2]:=by cases args; simp_all
 obtain⟨rfl,rfl⟩:=trodVars_none hV
 have lt0:∀x∈p0,x.block<W.heap.size:=by obtain⟨m,hm⟩:=h0; exact DataW.trod_lt m _ _ _ hm
 have wt0:∀k∈d0.weights Tryz.prog 97,k≤BB:=fun k hk=>of_decide_eq_true (List.all_eq_true.1 hsz _ (DataW.weights_mem_each (j:=0) rfl rfl k hk))
 obtain⟨c0,s0,g0⟩:=open_cv tab (m:=8) (t:=97) rfl (hval 0 97 v0 rfl rfl) h0 wt0
 have g0:=g0 _ T97
 obtain⟨a0,rfl,w0⟩:=(s0.l (f:=(eI .u8)) (W:=(fun x=>wfI .u8 x)) T97 T5 (fun _ _ h=>(h.i T5)))
 have lt1:∀x∈p1,x.block<W.heap.size:=by obtain⟨m,hm⟩:=h1; exact DataW.trod_lt m _ _ _ hm
 have wt1:∀k∈d1.weights Tryz.prog 64,k≤BB:=fun k hk=>of_decide_eq_true (List.all_eq_true.1 hsz _ (DataW.weights_mem_each (j:=1) rfl rfl k hk))
 obtain⟨c1,s1,g1⟩:=open_cv tab (m:=8) (t:=64) rfl (hval 1 64 v1 rfl rfl) h1 wt1
 have g1:=g1 _ T64
 obtain⟨a1,rfl,w1⟩:=(s1.l (f:=Law21Step.enc) (W:=(fun x=>Law21Step.wf x)) T64 T108 (fun _ _ h=>(Law21Step.of h)))
 have lt2:∀x∈p2,x.block<W.heap.size:=by obtain⟨m,hm⟩:=h2; exact DataW.trod_lt m _ _ _ hm
 have wt2:∀k∈d2.weights Tryz.prog 3,k≤BB:=fun k hk=>of_decide_eq_true (List.all_eq_true.1 hsz _ (DataW.weights_mem_each (j:=2) rfl rfl k hk))
 obtain⟨c2,s2,g2⟩:=open_cv tab (m:=8) (t:=3) rfl (hval 2 3 v2 rfl rfl) h2 wt2
 have g2:=g2 _ T3
 obtain⟨a2,rfl,w2⟩:=(s2.i T3)
 clear hA0 hval0 hsz0 hsz
 have pure:=proofWorldAlone a0 a1 a2 w0 w1 w2
 refine ((law22_WorldAlone_w a0 a1 a2 true pure).2 W (pw W) [v0,v1,v2] (fun _ h=>h) (All2.cons g0 (All2.cons g1 (All2.cons g2 All2.nil)))).mono fun e W' ⟨v,rs,p',he,hR,hrep,bel,_⟩=>?_
 subst hR he
 obtain rfl:=RepD_bool hrep
 exact⟨_,rfl,_,_,_,[],_,[],hW',trodAll_mk1 (shut_bool Tryz.underlying4 _),(trodAll_cons_mk (Below.trod laidOut (by kernel_rfl) (of_decide_eq_true (by kernel_rfl)) h0 bel lt0) (trodAll_cons_mk (Below.trod laidOut (by kernel_rfl) (of_decide_eq_true (by kernel_rfl)) h1 bel lt1) (trodAll_cons_mk (Below.trod laidOut (by kernel_rfl) (of_decide_eq_true (by kernel_rfl)) h2 bel lt2) trodAll_mk0))),rfl,bel.frame _,fun h=>by cases h⟩
theorem over:Rows.worldAloneRow.holds Tryz.pinned (OpenSpec.ofChange Rows.worldAloneSpec):=
 OpenClaim.holds_of_wide 8 Tryz.f8 rfl rfl rfl rfl rfl rfl rfl ⟨rfl,rfl,rfl,rfl,rfl⟩ rfl rfl rfl rfl rfl (by kernel_rfl) Tryz.func8 (by kernel_rfl)
  (of_decide_eq_true (by kernel_rfl)) (by unfold Func.isWrapper; first | (rw[if_pos (by decide +kernel)]; kernel_rfl) | (rw[if_neg (by decide +kernel)]; exact⟨rfl,rfl⟩))
  (fun os started H enc _=>lifted os started H enc)
end Go.Proofs.YtldlcdnhdedoeaaGreat.worldAlone
namespace Go.Proofs.YtldlcdnhdedoeaaGreat
theorem worldAlone_holds:Rows.WorldAloneSaid:=worldAlone.over
end Go.Proofs.YtldlcdnhdedoeaaGreat
