/- It is proved that the law WorldPlays returns true at every input that the row lets in; there is no condition beside the row's own. -/
import Derived.Test.YtldlcdnhdedoeaaGreatXWorldPlays11
import Derived.Test.YtldlcdnhdedoeaaGreatRows
set_option linter.unusedVariables false
set_option linter.unusedSimpArgs false
set_option maxRecDepth 100000
set_option maxHeartbeats 4000000
namespace Go.Proofs.YtldlcdnhdedoeaaGreat
open Go Go.VC
theorem u8_of {x:Int} (h:wfI .u8 x):0≤x∧x≤255:=by
 have h:=wfI_8 h
 omega
theorem proofWorldPlays:PureWorldPlays:=by
 intro b a1 hb hl0
 have hll:a1.length≤4611686018427387904:=by have:=hl0.1; unfold BB at this; omega
 have hcc:∀x∈a1,x.Cmds.length≤4611686018427387904:=fun x hx=>by have:=(hl0.2 x hx).1; unfold BB at this; omega
 unfold law22_WorldPlays
 by_cases h5:(b.length:Int)>500
 ·have hg:law22_Great b a1=some true:=by unfold law22_Great; rw[jn_eq,decide_eq_true h5,fk_t]; rfl
  rw[bnd_eq hg,fk_t,bnd_eq law22_knows_eq]
 have hbp:bytesP b:=⟨by omega,fun x hx=>u8_of (hb.2 x hx)⟩
 obtain⟨g,hg,hgg⟩:=great22_ex b a1 hbp hll hcc
 rw[bnd_eq hg]
 cases g with
 | true=>rw[fk_t,bnd_eq law22_knows_eq]
 | false=>
 obtain⟨g1,g2,g3⟩:=hgg rfl
 have hsl:(a1.map (·.Cmds)).length≤100:=by rw[List.length_map]; exact g2
 have hsc:∀x∈a1.map (·.Cmds),x.length≤10:=fun x hx=>by obtain⟨y,hy,rfl⟩:=List.mem_map.1 hx; exact g3 y hy
 rw[fk_f,ck_t (by simp; omega),bnd_eq (law22_script_eq a1 (by omega)),List.nil_append]
 obtain⟨r,hr,hdr⟩:=image_Decode_ex b hbp (fun c hc=>⟨_,image_Right_eq c hc.conf⟩)
 by_cases he:r.2.2=0
 rotate_left
 ·rw[bnd_eq (world_Play_e1 hr he),bnd_eq hr,decide_eq_false he,Bool.not_false,fk_t]
  simp[fk_t,law22_knows_eq,bnd_some]
 rcases boot_k r.1 (hdr.1 he).1.conf with ⟨e,he2,k1⟩ | ⟨s,k1,hs,h0⟩
 ·rw[bnd_eq (world_Play_e2 hr he k1 he2),bnd_eq hr,decide_eq_true he,Bool.not_true,fk_f,bnd_eq k1,decide_eq_false he2,Bool.not_false,fk_t]
  simp[fk_t,law22_knows_eq,bnd_some]
 have h4:=hs.len
 rw[bnd_eq (world_Play_ok hr he k1 hs h0 hsl hsc),bnd_eq hr,decide_eq_true he,Bool.not_true,fk_f,bnd_eq k1]
 dsimp only
 rw[decide_eq_true rfl,Bool.not_true,fk_f]
 have hl:=g2
 have hc:=g3
 by_cases n0:s.Parts.length=0
 ·rw[decide_eq_true (by omega),fk_t]
  have hlen:=n0
  have hml:(a1.map (·.Cmds)).length=a1.length:=List.length_map _
  have hmc:∀x∈(a1.map (·.Cmds)),x.length≤10:=fun x hx=>by obtain⟨y,hy,rfl⟩:=List.mem_map.1 hx; exact hc y hy
  refine out_lp hs h0 (a1.map (·.Cmds)) (by omega) (fun x hx=>by have:=hmc x hx; omega) (fun v=>⟨(⟨⟨v.1,v.2.1⟩,v.2.2.1,v.2.2.2.1,v.2.2.2.2.1,v.2.2.2.2.2.1⟩:KernelState),[],[]⟩) (fun v=>v.2.2.2.2.2.2) _ rfl (by show PlayS.mk _ _ _=_; unfold playK; rw[hlen]; rfl) ?_ ?_
  ·rintro nx ⟨f,w,fa,pa,li,nw,q⟩ hv hp hn kp lS lR
   simp only at hv hp hn kp lS lR
   rw[hlen] at hn
   rw[hml] at hv
   subst hv
   simp only
   rw[decide_eq_false (by omega),fk_f]
   have hV:viewsL (playK s (a1.map (·.Cmds)) (a1.map (·.Cmds)).length)=[]:=by rw[←hp,show pa=[] from list0 hn]; rfl
   rw[hV]
   refine jn_to false (fun k=>rfl) ?_
   rw[fk_f]
   refine lp_inv (fun _=>0) (fun _=>True) (fun nx v _ _=>?_) FU () trivial (by unfold FU; omega)
   rw[bnd_eq law22_knows_eq]
  ·rintro nx ⟨f,w,fa,pa,li,nw,q⟩ k hk hv kp hn hs2 hr2 lS lR hnx
   simp only at hv kp hn lS lR
   rw[hlen] at hn
   subst hv
   have hk1:k<a1.length:=by omega
   have hA:∀{β:Type} (f:Law21Step→Option β),ix a1 (k:Int) f=f a1[k]:=fun f=>ix_lt hk1
   have hcl:a1[k].Cmds=(a1.map (·.Cmds))[k]:=(List.getElem_map _).symm
   have hc10:=hmc _ (List.getElem_mem hk)
   simp only[hA,hcl]
   rw[decide_eq_true (by omega),fk_t]
   generalize (a1.map (·.Cmds))[k]=cl at hc10 hnx ⊢
   refine do_lp (m:=1000000) (k:Int) (⟨⟨f,w⟩,fa,pa,li,nw⟩,[]) cl (by omega) kp lS (fun v=>((⟨⟨v.1,v.2.1⟩,v.2.2.1,v.2.2.2.1,v.2.2.2.2.1,v.2.2.2.2.2.1⟩:KernelState),[])) (fun v=>v.2.2.2.2.2.2) _ rfl rfl ?_ ?_
   ·rintro nx2 ⟨f2,w2,fa2,pa2,li2,nw2,q2⟩ hv2 hX kp2 hl2 hp2
    simp only at hv2 hX kp2 hl2 hp2
    rw[hn] at hp2
    subst hv2
    simp only
    rw[decide_eq_false (by omega),fk_f,bnd_eq (tickK_eq kp2)]
    dsimp only
    have hrl:(ranK ⟨⟨f2,w2⟩,fa2,pa2,li2,nw2⟩).length=0:=by rw[ranK_len]; exact hp2
    rw[decide_eq_true (p:=(((ranK ⟨⟨f2,w2⟩,fa2,pa2,li2,nw2⟩).length:Nat):Int)=(0:Int)) (by omega),Bool.not_true,fk_f]
    refine lp_inv (fun _=>0) (fun _=>True) (fun nx3 v _ _=>?_) FU () trivial (by unfold FU; omega)
    rw[wr_succ k _ hk1 (by omega)]
    refine hnx _ rfl ?_
    unfold tickL
    dsimp only
    rw[←hX]
    show PlayS.mk _ _ _=PlayS.mk _ _ _
    unfold ranStep
    rfl
   ·rintro nx2 ⟨f2,w2,fa2,pa2,li2,nw2,q2⟩ k2 hk2 hv2 kp2 hl2 lS2 hnx2
    simp only at hv2 kp2 hl2 lS2
    subst hv2
    simp only
    rw[decide_eq_true (by omega),fk_t]
    have hw2:wr ((k2:Int)+1)=((k2+1:Nat):Int):=wr_succ k2 _ hk2 (by omega)
    have hq2:∀{β:Type} (g:KernelCmd→Option β),ix cl (k2:Int) g=g cl[k2]:=fun g=>ix_lt hk2
    simp only[hq2]
    generalize cl[k2]=c at hnx2 ⊢
    have hdo:=kernel_Do_eq _ c kp2
    generalize hd:doK ⟨⟨f2,w2⟩,fa2,pa2,li2,nw2⟩ c=d at hdo
    have nxt:∀S,S=sawStep (k:Int) c d.2.1 d.2.2 []→(⟨⟨d.1.Table.Frame,d.1.Table.Windows⟩,d.1.Faces,d.1.Parts,d.1.Lines,d.1.Now⟩,S)=askL (k:Int) (⟨⟨f2,w2⟩,fa2,pa2,li2,nw2⟩,[]) c:=fun S hS=>by unfold askL; dsimp only; rw[hd,hS]
    by_cases q0:0≤c.Part∧c.Part<(0:Int)
    rotate_left
    ·refine jn_to (d.1.Table.Frame,d.1.Table.Windows,d.1.Faces,d.1.Parts,d.1.Lines,d.1.Now) (fun k1=>(bnd_eq hdo).trans (jn_to false (fun k4=>?_) ?_)) ?_
     ·by_cases z:c.Part≥0
      ·rw[decide_eq_true z,fk_t,decide_eq_false (by omega)]
      ·rw[decide_eq_false z,fk_f]
     ·rw[fk_f]
     ·simp only[hw2]
      refine hnx2 _ rfl (nxt _ ?_)
      unfold sawStep
      rw[if_neg (by simp)]
    ·omega
 rw[decide_eq_false (by omega),fk_f]
 by_cases n1:s.Parts.length=1
 ·rw[decide_eq_true (by omega),fk_t]
  have hlen:=n1
  have hml:(a1.map (·.Cmds)).length=a1.length:=List.length_map _
  have hmc:∀x∈(a1.map (·.Cmds)),x.length≤10:=fun x hx=>by obtain⟨y,hy,rfl⟩:=List.mem_map.1 hx; exact hc y hy
  refine out_lp hs h0 (a1.map (·.Cmds)) (by omega) (fun x hx=>by have:=hmc x hx; omega) (fun v=>⟨(⟨⟨v.1,v.2.1⟩,v.2.2.1,v.2.2.2.1,v.2.2.2.2.1,v.2.2.2.2.2.1⟩:KernelState),[v.2.2.2.2.2.2.1],[v.2.2.2.2.2.2.2.1]⟩) (fun v=>v.2.2.2.2.2.2.2.2) _ rfl (by show PlayS.mk _ _ _=_; unfold playK; rw[hlen]; rfl) ?_ ?_
  ·rintro nx ⟨f,w,fa,pa,li,nw,s0,r0,q⟩ hv hp hn kp lS lR
   simp only at hv hp hn kp lS lR
   rw[hlen] at hn
   rw[hml] at hv
   subst hv
   simp only
   rw[decide_eq_false (by omega),fk_f]
   obtain⟨p0,rfl⟩:=list1 hn
   have hV:viewsL (playK s (a1.map (·.Cmds)) (a1.map (·.Cmds)).length)=[⟨s0,r0,p0.Log⟩]:=by rw[←hp]; rfl
   rw[hV]
   refine jn_to false (fun k=>rfl) ?_
   rw[fk_f]
   refine set_lp 1 (by decide) [([]:List Entry)] [p0.Log] rfl rfl (fun v=>[v.1]) (fun v=>v.2) _ rfl rfl ?_ ?_
   ·rintro nx2 ⟨l0,q2⟩ hv2 hL
    simp only at hv2 hL
    subst hv2
    simp only
    rw[decide_eq_false (by decide),fk_f,bnd_eq law22_knows_eq]
   ·rintro nx2 ⟨l0,q2⟩ k hk hv2 hg _ hnx2
    simp only at hv2
    subst hv2
    have hk2:k=0:=by omega
    rcases hk2 with rfl
    ·refine Eq.trans (b:=bnd (law22_Same ⟨s0,r0,p0.Log⟩ ⟨s0,r0,p0.Log⟩) (fun z=>fk (!z) (some false) (nx2 (p0.Log,((1:Nat):Int))))) rfl ?_
     rw[bnd_eq (sameV_refl _ (by have:=lS s0 (by simp); show s0.length≤_; omega) (by have:=lR r0 (by simp); show r0.length≤_; omega) (by have:=(kp.parts p0 (by simp)).1.2.2.2; show p0.Log.length≤_; omega)),Bool.not_true,fk_f]
     exact hnx2 _ rfl rfl
  ·rintro nx ⟨f,w,fa,pa,li,nw,s0,r0,q⟩ k hk hv kp hn hs2 hr2 lS lR hnx
   simp only at hv kp hn lS lR
   rw[hlen] at hn
   subst hv
   have hk1:k<a1.length:=by omega
   have hA:∀{β:Type} (f:Law21Step→Option β),ix a1 (k:Int) f=f a1[k]:=fun f=>ix_lt hk1
   have hcl:a1[k].Cmds=(a1.map (·.Cmds))[k]:=(List.getElem_map _).symm
   have hc10:=hmc _ (List.getElem_mem hk)
   simp only[hA,hcl]
   rw[decide_eq_true (by omega),fk_t]
   generalize (a1.map (·.Cmds))[k]=cl at hc10 hnx ⊢
   refine do_lp (m:=1000000) (k:Int) (⟨⟨f,w⟩,fa,pa,li,nw⟩,[s0]) cl (by omega) kp lS (fun v=>((⟨⟨v.1,v.2.1⟩,v.2.2.1,v.2.2.2.1,v.2.2.2.2.1,v.2.2.2.2.2.1⟩:KernelState),[v.2.2.2.2.2.2.1])) (fun v=>v.2.2.2.2.2.2.2) _ rfl rfl ?_ ?_
   ·rintro nx2 ⟨f2,w2,fa2,pa2,li2,nw2,t0,q2⟩ hv2 hX kp2 hl2 hp2
    simp only at hv2 hX kp2 hl2 hp2
    rw[hn] at hp2
    subst hv2
    simp only
    rw[decide_eq_false (by omega),fk_f,bnd_eq (tickK_eq kp2)]
    dsimp only
    have hrl:(ranK ⟨⟨f2,w2⟩,fa2,pa2,li2,nw2⟩).length=1:=by rw[ranK_len]; exact hp2
    rw[decide_eq_true (p:=(((ranK ⟨⟨f2,w2⟩,fa2,pa2,li2,nw2⟩).length:Nat):Int)=(1:Int)) (by omega),Bool.not_true,fk_f]
    obtain⟨y0,hy⟩:=list1 hrl
    rw[hy]
    refine set_lp 1 (by decide) [r0] [r0++[y0]] rfl rfl (fun v=>[v.1]) (fun v=>v.2) _ rfl rfl ?_ ?_
    ·rintro nx3 ⟨u0,q3⟩ hv3 hL
     simp only at hv3 hL
     subst hv3
     simp only[List.cons.injEq,and_true] at hL
     obtain rfl:=hL
     simp only
     rw[decide_eq_false (by decide),fk_f]
     rw[wr_succ k _ hk1 (by omega)]
     refine hnx _ rfl ?_
     unfold tickL
     dsimp only
     rw[←hX,hy]
     rfl
    ·rintro nx3 ⟨u0,q3⟩ k3 hk3 hv3 hg _ hnx3
     simp only at hv3 hg
     subst hv3
     have hk2:k3=0:=by omega
     rcases hk2 with rfl
     ·have hu:u0=r0:=Option.some.inj hg
      subst hu
      have hlen9:u0.length≤1000000000:=by have:=lR u0 (by simp); omega
      exact (ck_le 8 (by decide) hlen9).trans (hnx3 (u0++[y0],((1:Nat):Int)) rfl rfl)
   ·rintro nx2 ⟨f2,w2,fa2,pa2,li2,nw2,t0,q2⟩ k2 hk2 hv2 kp2 hl2 lS2 hnx2
    simp only at hv2 kp2 hl2 lS2
    subst hv2
    simp only
    rw[decide_eq_true (by omega),fk_t]
    have hw2:wr ((k2:Int)+1)=((k2+1:Nat):Int):=wr_succ k2 _ hk2 (by omega)
    have hq2:∀{β:Type} (g:KernelCmd→Option β),ix cl (k2:Int) g=g cl[k2]:=fun g=>ix_lt hk2
    simp only[hq2]
    generalize cl[k2]=c at hnx2 ⊢
    have hdo:=kernel_Do_eq _ c kp2
    generalize hd:doK ⟨⟨f2,w2⟩,fa2,pa2,li2,nw2⟩ c=d at hdo
    have nxt:∀S,S=sawStep (k:Int) c d.2.1 d.2.2 [t0]→(⟨⟨d.1.Table.Frame,d.1.Table.Windows⟩,d.1.Faces,d.1.Parts,d.1.Lines,d.1.Now⟩,S)=askL (k:Int) (⟨⟨f2,w2⟩,fa2,pa2,li2,nw2⟩,[t0]) c:=fun S hS=>by unfold askL; dsimp only; rw[hd,hS]
    by_cases q0:0≤c.Part∧c.Part<(1:Int)
    rotate_left
    ·refine jn_to (d.1.Table.Frame,d.1.Table.Windows,d.1.Faces,d.1.Parts,d.1.Lines,d.1.Now,t0) (fun k1=>(bnd_eq hdo).trans (jn_to false (fun k4=>?_) ?_)) ?_
     ·by_cases z:c.Part≥0
      ·rw[decide_eq_true z,fk_t,decide_eq_false (by omega)]
      ·rw[decide_eq_false z,fk_f]
     ·rw[fk_f]
     ·simp only[hw2]
      refine hnx2 _ rfl (nxt _ ?_)
      unfold sawStep
      rw[if_neg (by simpa using q0)]
    have hi:c.Part=0:=by omega
    rcases hi with hi
    ·refine jn_to (d.1.Table.Frame,d.1.Table.Windows,d.1.Faces,d.1.Parts,d.1.Lines,d.1.Now,t0++[⟨(k:Int),d.2.1,d.2.2⟩]) (fun k1=>(bnd_eq hdo).trans (jn_to true (fun k4=>?_) ?_)) ?_
     ·rw[decide_eq_true (by omega),fk_t,decide_eq_true (by omega)]
     ·rw[fk_t]
      rw[decide_eq_true (p:=c.Part=(0:Int)) hi,fk_t]
      exact ck_le 24 (by decide) (by have:=lS2 t0 (by simp); omega)
     ·simp only[hw2]
      refine hnx2 _ rfl (nxt _ ?_)
      unfold sawStep
      rw[if_pos (by simpa using q0),hi]; rfl
 rw[decide_eq_false (by omega),fk_f]
 by_cases n2:s.Parts.length=2
 ·rw[decide_eq_true (by omega),fk_t]
  have hlen:=n2
  have hml:(a1.map (·.Cmds)).length=a1.length:=List.length_map _
  have hmc:∀x∈(a1.map (·.Cmds)),x.length≤10:=fun x hx=>by obtain⟨y,hy,rfl⟩:=List.mem_map.1 hx; exact hc y hy
  refine out_lp hs h0 (a1.map (·.Cmds)) (by omega) (fun x hx=>by have:=hmc x hx; omega) (fun v=>⟨(⟨⟨v.1,v.2.1⟩,v.2.2.1,v.2.2.2.1,v.2.2.2.2.1,v.2.2.2.2.2.1⟩:KernelState),[v.2.2.2.2.2.2.1,v.2.2.2.2.2.2.2.2.1],[v.2.2.2.2.2.2.2.1,v.2.2.2.2.2.2.2.2.2.1]⟩) (fun v=>v.2.2.2.2.2.2.2.2.2.2) _ rfl (by show PlayS.mk _ _ _=_; unfold playK; rw[hlen]; rfl) ?_ ?_
  ·rintro nx ⟨f,w,fa,pa,li,nw,s0,r0,s1,r1,q⟩ hv hp hn kp lS lR
   simp only at hv hp hn kp lS lR
   rw[hlen] at hn
   rw[hml] at hv
   subst hv
   simp only
   rw[decide_eq_false (by omega),fk_f]
   obtain⟨p0,p1,rfl⟩:=list2 hn
   have hV:viewsL (playK s (a1.map (·.Cmds)) (a1.map (·.Cmds)).length)=[⟨s0,r0,p0.Log⟩,⟨s1,r1,p1.Log⟩]:=by rw[←hp]; rfl
   rw[hV]
   refine jn_to false (fun k=>rfl) ?_
   rw[fk_f]
   refine set_lp 2 (by decide) [([]:List Entry),([]:List Entry)] [p0.Log,p1.Log] rfl rfl (fun v=>[v.1,v.2.1]) (fun v=>v.2.2) _ rfl rfl ?_ ?_
   ·rintro nx2 ⟨l0,l1,q2⟩ hv2 hL
    simp only at hv2 hL
    subst hv2
    simp only
    rw[decide_eq_false (by decide),fk_f,bnd_eq law22_knows_eq]
   ·rintro nx2 ⟨l0,l1,q2⟩ k hk hv2 hg _ hnx2
    simp only at hv2
    subst hv2
    have hk2:k=0∨k=1:=by omega
    rcases hk2 with rfl | rfl
    ·refine Eq.trans (b:=bnd (law22_Same ⟨s0,r0,p0.Log⟩ ⟨s0,r0,p0.Log⟩) (fun z=>fk (!z) (some false) (nx2 (p0.Log,l1,((1:Nat):Int))))) rfl ?_
     rw[bnd_eq (sameV_refl _ (by have:=lS s0 (by simp); show s0.length≤_; omega) (by have:=lR r0 (by simp); show r0.length≤_; omega) (by have:=(kp.parts p0 (by simp)).1.2.2.2; show p0.Log.length≤_; omega)),Bool.not_true,fk_f]
     exact hnx2 _ rfl rfl
    ·refine Eq.trans (b:=bnd (law22_Same ⟨s1,r1,p1.Log⟩ ⟨s1,r1,p1.Log⟩) (fun z=>fk (!z) (some false) (nx2 (l0,p1.Log,((2:Nat):Int))))) rfl ?_
     rw[bnd_eq (sameV_refl _ (by have:=lS s1 (by simp); show s1.length≤_; omega) (by have:=lR r1 (by simp); show r1.length≤_; omega) (by have:=(kp.parts p1 (by simp)).1.2.2.2; show p1.Log.length≤_; omega)),Bool.not_true,fk_f]
     exact hnx2 _ rfl rfl
  ·rintro nx ⟨f,w,fa,pa,li,nw,s0,r0,s1,r1,q⟩ k hk hv kp hn hs2 hr2 lS lR hnx
   simp only at hv kp hn lS lR
   rw[hlen] at hn
   subst hv
   have hk1:k<a1.length:=by omega
   have hA:∀{β:Type} (f:Law21Step→Option β),ix a1 (k:Int) f=f a1[k]:=fun f=>ix_lt hk1
   have hcl:a1[k].Cmds=(a1.map (·.Cmds))[k]:=(List.getElem_map _).symm
   have hc10:=hmc _ (List.getElem_mem hk)
   simp only[hA,hcl]
   rw[decide_eq_true (by omega),fk_t]
   generalize (a1.map (·.Cmds))[k]=cl at hc10 hnx ⊢
   refine do_lp (m:=1000000) (k:Int) (⟨⟨f,w⟩,fa,pa,li,nw⟩,[s0,s1]) cl (by omega) kp lS (fun v=>((⟨⟨v.1,v.2.1⟩,v.2.2.1,v.2.2.2.1,v.2.2.2.2.1,v.2.2.2.2.2.1⟩:KernelState),[v.2.2.2.2.2.2.1,v.2.2.2.2.2.2.2.1])) (fun v=>v.2.2.2.2.2.2.2.2) _ rfl rfl ?_ ?_
   ·rintro nx2 ⟨f2,w2,fa2,pa2,li2,nw2,t0,t1,q2⟩ hv2 hX kp2 hl2 hp2
    simp only at hv2 hX kp2 hl2 hp2
    rw[hn] at hp2
    subst hv2
    simp only
    rw[decide_eq_false (by omega),fk_f,bnd_eq (tickK_eq kp2)]
    dsimp only
    have hrl:(ranK ⟨⟨f2,w2⟩,fa2,pa2,li2,nw2⟩).length=2:=by rw[ranK_len]; exact hp2
    rw[decide_eq_true (p:=(((ranK ⟨⟨f2,w2⟩,fa2,pa2,li2,nw2⟩).length:Nat):Int)=(2:Int)) (by omega),Bool.not_true,fk_f]
    obtain⟨y0,y1,hy⟩:=list2 hrl
    rw[hy]
    refine set_lp 2 (by decide) [r0,r1] [r0++[y0],r1++[y1]] rfl rfl (fun v=>[v.1,v.2.1]) (fun v=>v.2.2) _ rfl rfl ?_ ?_
    ·rintro nx3 ⟨u0,u1,q3⟩ hv3 hL
     simp only at hv3 hL
     subst hv3
     simp only[List.cons.injEq,and_true] at hL
     obtain⟨rfl,rfl⟩:=hL
     simp only
     rw[decide_eq_false (by decide),fk_f]
     rw[wr_succ k _ hk1 (by omega)]
     refine hnx _ rfl ?_
     unfold tickL
     dsimp only
     rw[←hX,hy]
     rfl
    ·rintro nx3 ⟨u0,u1,q3⟩ k3 hk3 hv3 hg _ hnx3
     simp only at hv3 hg
     subst hv3
     have hk2:k3=0∨k3=1:=by omega
     rcases hk2 with rfl | rfl
     ·have hu:u0=r0:=Option.some.inj hg
      subst hu
      have hlen9:u0.length≤1000000000:=by have:=lR u0 (by simp); omega
      exact (ck_le 8 (by decide) hlen9).trans (hnx3 (u0++[y0],u1,((1:Nat):Int)) rfl rfl)
     ·have hu:u1=r1:=Option.some.inj hg
      subst hu
      have hlen9:u1.length≤1000000000:=by have:=lR u1 (by simp); omega
      exact (ck_le 8 (by decide) hlen9).trans (hnx3 (u0,u1++[y1],((2:Nat):Int)) rfl rfl)
   ·rintro nx2 ⟨f2,w2,fa2,pa2,li2,nw2,t0,t1,q2⟩ k2 hk2 hv2 kp2 hl2 lS2 hnx2
    simp only at hv2 kp2 hl2 lS2
    subst hv2
    simp only
    rw[decide_eq_true (by omega),fk_t]
    have hw2:wr ((k2:Int)+1)=((k2+1:Nat):Int):=wr_succ k2 _ hk2 (by omega)
    have hq2:∀{β:Type} (g:KernelCmd→Option β),ix cl (k2:Int) g=g cl[k2]:=fun g=>ix_lt hk2
    simp only[hq2]
    generalize cl[k2]=c at hnx2 ⊢
    have hdo:=kernel_Do_eq _ c kp2
    generalize hd:doK ⟨⟨f2,w2⟩,fa2,pa2,li2,nw2⟩ c=d at hdo
    have nxt:∀S,S=sawStep (k:Int) c d.2.1 d.2.2 [t0,t1]→(⟨⟨d.1.Table.Frame,d.1.Table.Windows⟩,d.1.Faces,d.1.Parts,d.1.Lines,d.1.Now⟩,S)=askL (k:Int) (⟨⟨f2,w2⟩,fa2,pa2,li2,nw2⟩,[t0,t1]) c:=fun S hS=>by unfold askL; dsimp only; rw[hd,hS]
    by_cases q0:0≤c.Part∧c.Part<(2:Int)
    rotate_left
    ·refine jn_to (d.1.Table.Frame,d.1.Table.Windows,d.1.Faces,d.1.Parts,d.1.Lines,d.1.Now,t0,t1) (fun k1=>(bnd_eq hdo).trans (jn_to false (fun k4=>?_) ?_)) ?_
     ·by_cases z:c.Part≥0
      ·rw[decide_eq_true z,fk_t,decide_eq_false (by omega)]
      ·rw[decide_eq_false z,fk_f]
     ·rw[fk_f]
     ·simp only[hw2]
      refine hnx2 _ rfl (nxt _ ?_)
      unfold sawStep
      rw[if_neg (by simpa using q0)]
    have hi:c.Part=0∨c.Part=1:=by omega
    rcases hi with hi | hi
    ·refine jn_to (d.1.Table.Frame,d.1.Table.Windows,d.1.Faces,d.1.Parts,d.1.Lines,d.1.Now,t0++[⟨(k:Int),d.2.1,d.2.2⟩],t1) (fun k1=>(bnd_eq hdo).trans (jn_to true (fun k4=>?_) ?_)) ?_
     ·rw[decide_eq_true (by omega),fk_t,decide_eq_true (by omega)]
     ·rw[fk_t]
      rw[decide_eq_true (p:=c.Part=(0:Int)) hi,fk_t]
      exact ck_le 24 (by decide) (by have:=lS2 t0 (by simp); omega)
     ·simp only[hw2]
      refine hnx2 _ rfl (nxt _ ?_)
      unfold sawStep
      rw[if_pos (by simpa using q0),hi]; rfl
    ·refine jn_to (d.1.Table.Frame,d.1.Table.Windows,d.1.Faces,d.1.Parts,d.1.Lines,d.1.Now,t0,t1++[⟨(k:Int),d.2.1,d.2.2⟩]) (fun k1=>(bnd_eq hdo).trans (jn_to true (fun k4=>?_) ?_)) ?_
     ·rw[decide_eq_true (by omega),fk_t,decide_eq_true (by omega)]
     ·rw[fk_t]
      rw[decide_eq_false (p:=c.Part=(0:Int)) (by omega),fk_f]
      rw[decide_eq_true (p:=c.Part=(1:Int)) hi,fk_t]
      exact ck_le 24 (by decide) (by have:=lS2 t1 (by simp); omega)
     ·simp only[hw2]
      refine hnx2 _ rfl (nxt _ ?_)
      unfold sawStep
      rw[if_pos (by simpa using q0),hi]; rfl
 rw[decide_eq_false (by omega),fk_f]
 by_cases n3:s.Parts.length=3
 ·rw[decide_eq_true (by omega),fk_t]
  have hlen:=n3
  have hml:(a1.map (·.Cmds)).length=a1.length:=List.length_map _
  have hmc:∀x∈(a1.map (·.Cmds)),x.length≤10:=fun x hx=>by obtain⟨y,hy,rfl⟩:=List.mem_map.1 hx; exact hc y hy
  refine out_lp hs h0 (a1.map (·.Cmds)) (by omega) (fun x hx=>by have:=hmc x hx; omega) (fun v=>⟨(⟨⟨v.1,v.2.1⟩,v.2.2.1,v.2.2.2.1,v.2.2.2.2.1,v.2.2.2.2.2.1⟩:KernelState),[v.2.2.2.2.2.2.1,v.2.2.2.2.2.2.2.2.1,v.2.2.2.2.2.2.2.2.2.2.1],[v.2.2.2.2.2.2.2.1,v.2.2.2.2.2.2.2.2.2.1,v.2.2.2.2.2.2.2.2.2.2.2.1]⟩) (fun v=>v.2.2.2.2.2.2.2.2.2.2.2.2) _ rfl (by show PlayS.mk _ _ _=_; unfold playK; rw[hlen]; rfl) ?_ ?_
  ·rintro nx ⟨f,w,fa,pa,li,nw,s0,r0,s1,r1,s2,r2,q⟩ hv hp hn kp lS lR
   simp only at hv hp hn kp lS lR
   rw[hlen] at hn
   rw[hml] at hv
   subst hv
   simp only
   rw[decide_eq_false (by omega),fk_f]
   obtain⟨p0,p1,p2,rfl⟩:=list3 hn
   have hV:viewsL (playK s (a1.map (·.Cmds)) (a1.map (·.Cmds)).length)=[⟨s0,r0,p0.Log⟩,⟨s1,r1,p1.Log⟩,⟨s2,r2,p2.Log⟩]:=by rw[←hp]; rfl
   rw[hV]
   refine jn_to false (fun k=>rfl) ?_
   rw[fk_f]
   refine set_lp 3 (by decide) [([]:List Entry),([]:List Entry),([]:List Entry)] [p0.Log,p1.Log,p2.Log] rfl rfl (fun v=>[v.1,v.2.1,v.2.2.1]) (fun v=>v.2.2.2) _ rfl rfl ?_ ?_
   ·rintro nx2 ⟨l0,l1,l2,q2⟩ hv2 hL
    simp only at hv2 hL
    subst hv2
    simp only
    rw[decide_eq_false (by decide),fk_f,bnd_eq law22_knows_eq]
   ·rintro nx2 ⟨l0,l1,l2,q2⟩ k hk hv2 hg _ hnx2
    simp only at hv2
    subst hv2
    have hk2:k=0∨k=1∨k=2:=by omega
    rcases hk2 with rfl | rfl | rfl
    ·refine Eq.trans (b:=bnd (law22_Same ⟨s0,r0,p0.Log⟩ ⟨s0,r0,p0.Log⟩) (fun z=>fk (!z) (some false) (nx2 (p0.Log,l1,l2,((1:Nat):Int))))) rfl ?_
     rw[bnd_eq (sameV_refl _ (by have:=lS s0 (by simp); show s0.length≤_; omega) (by have:=lR r0 (by simp); show r0.length≤_; omega) (by have:=(kp.parts p0 (by simp)).1.2.2.2; show p0.Log.length≤_; omega)),Bool.not_true,fk_f]
     exact hnx2 _ rfl rfl
    ·refine Eq.trans (b:=bnd (law22_Same ⟨s1,r1,p1.Log⟩ ⟨s1,r1,p1.Log⟩) (fun z=>fk (!z) (some false) (nx2 (l0,p1.Log,l2,((2:Nat):Int))))) rfl ?_
     rw[bnd_eq (sameV_refl _ (by have:=lS s1 (by simp); show s1.length≤_; omega) (by have:=lR r1 (by simp); show r1.length≤_; omega) (by have:=(kp.parts p1 (by simp)).1.2.2.2; show p1.Log.length≤_; omega)),Bool.not_true,fk_f]
     exact hnx2 _ rfl rfl
    ·refine Eq.trans (b:=bnd (law22_Same ⟨s2,r2,p2.Log⟩ ⟨s2,r2,p2.Log⟩) (fun z=>fk (!z) (some false) (nx2 (l0,l1,p2.Log,((3:Nat):Int))))) rfl ?_
     rw[bnd_eq (sameV_refl _ (by have:=lS s2 (by simp); show s2.length≤_; omega) (by have:=lR r2 (by simp); show r2.length≤_; omega) (by have:=(kp.parts p2 (by simp)).1.2.2.2; show p2.Log.length≤_; omega)),Bool.not_true,fk_f]
     exact hnx2 _ rfl rfl
  ·rintro nx ⟨f,w,fa,pa,li,nw,s0,r0,s1,r1,s2,r2,q⟩ k hk hv kp hn hs2 hr2 lS lR hnx
   simp only at hv kp hn lS lR
   rw[hlen] at hn
   subst hv
   have hk1:k<a1.length:=by omega
   have hA:∀{β:Type} (f:Law21Step→Option β),ix a1 (k:Int) f=f a1[k]:=fun f=>ix_lt hk1
   have hcl:a1[k].Cmds=(a1.map (·.Cmds))[k]:=(List.getElem_map _).symm
   have hc10:=hmc _ (List.getElem_mem hk)
   simp only[hA,hcl]
   rw[decide_eq_true (by omega),fk_t]
   generalize (a1.map (·.Cmds))[k]=cl at hc10 hnx ⊢
   refine do_lp (m:=1000000) (k:Int) (⟨⟨f,w⟩,fa,pa,li,nw⟩,[s0,s1,s2]) cl (by omega) kp lS (fun v=>((⟨⟨v.1,v.2.1⟩,v.2.2.1,v.2.2.2.1,v.2.2.2.2.1,v.2.2.2.2.2.1⟩:KernelState),[v.2.2.2.2.2.2.1,v.2.2.2.2.2.2.2.1,v.2.2.2.2.2.2.2.2.1])) (fun v=>v.2.2.2.2.2.2.2.2.2) _ rfl rfl ?_ ?_
   ·rintro nx2 ⟨f2,w2,fa2,pa2,li2,nw2,t0,t1,t2,q2⟩ hv2 hX kp2 hl2 hp2
    simp only at hv2 hX kp2 hl2 hp2
    rw[hn] at hp2
    subst hv2
    simp only
    rw[decide_eq_false (by omega),fk_f,bnd_eq (tickK_eq kp2)]
    dsimp only
    have hrl:(ranK ⟨⟨f2,w2⟩,fa2,pa2,li2,nw2⟩).length=3:=by rw[ranK_len]; exact hp2
    rw[decide_eq_true (p:=(((ranK ⟨⟨f2,w2⟩,fa2,pa2,li2,nw2⟩).length:Nat):Int)=(3:Int)) (by omega),Bool.not_true,fk_f]
    obtain⟨y0,y1,y2,hy⟩:=list3 hrl
    rw[hy]
    refine set_lp 3 (by decide) [r0,r1,r2] [r0++[y0],r1++[y1],r2++[y2]] rfl rfl (fun v=>[v.1,v.2.1,v.2.2.1]) (fun v=>v.2.2.2) _ rfl rfl ?_ ?_
    ·rintro nx3 ⟨u0,u1,u2,q3⟩ hv3 hL
     simp only at hv3 hL
     subst hv3
     simp only[List.cons.injEq,and_true] at hL
     obtain⟨rfl,rfl,rfl⟩:=hL
     simp only
     rw[decide_eq_false (by decide),fk_f]
     rw[wr_succ k _ hk1 (by omega)]
     refine hnx _ rfl ?_
     unfold tickL
     dsimp only
     rw[←hX,hy]
     rfl
    ·rintro nx3 ⟨u0,u1,u2,q3⟩ k3 hk3 hv3 hg _ hnx3
     simp only at hv3 hg
     subst hv3
     have hk2:k3=0∨k3=1∨k3=2:=by omega
     rcases hk2 with rfl | rfl | rfl
     ·have hu:u0=r0:=Option.some.inj hg
      subst hu
      have hlen9:u0.length≤1000000000:=by have:=lR u0 (by simp); omega
      exact (ck_le 8 (by decide) hlen9).trans (hnx3 (u0++[y0],u1,u2,((1:Nat):Int)) rfl rfl)
     ·have hu:u1=r1:=Option.some.inj hg
      subst hu
      have hlen9:u1.length≤1000000000:=by have:=lR u1 (by simp); omega
      exact (ck_le 8 (by decide) hlen9).trans (hnx3 (u0,u1++[y1],u2,((2:Nat):Int)) rfl rfl)
     ·have hu:u2=r2:=Option.some.inj hg
      subst hu
      have hlen9:u2.length≤1000000000:=by have:=lR u2 (by simp); omega
      exact (ck_le 8 (by decide) hlen9).trans (hnx3 (u0,u1,u2++[y2],((3:Nat):Int)) rfl rfl)
   ·rintro nx2 ⟨f2,w2,fa2,pa2,li2,nw2,t0,t1,t2,q2⟩ k2 hk2 hv2 kp2 hl2 lS2 hnx2
    simp only at hv2 kp2 hl2 lS2
    subst hv2
    simp only
    rw[decide_eq_true (by omega),fk_t]
    have hw2:wr ((k2:Int)+1)=((k2+1:Nat):Int):=wr_succ k2 _ hk2 (by omega)
    have hq2:∀{β:Type} (g:KernelCmd→Option β),ix cl (k2:Int) g=g cl[k2]:=fun g=>ix_lt hk2
    simp only[hq2]
    generalize cl[k2]=c at hnx2 ⊢
    have hdo:=kernel_Do_eq _ c kp2
    generalize hd:doK ⟨⟨f2,w2⟩,fa2,pa2,li2,nw2⟩ c=d at hdo
    have nxt:∀S,S=sawStep (k:Int) c d.2.1 d.2.2 [t0,t1,t2]→(⟨⟨d.1.Table.Frame,d.1.Table.Windows⟩,d.1.Faces,d.1.Parts,d.1.Lines,d.1.Now⟩,S)=askL (k:Int) (⟨⟨f2,w2⟩,fa2,pa2,li2,nw2⟩,[t0,t1,t2]) c:=fun S hS=>by unfold askL; dsimp only; rw[hd,hS]
    by_cases q0:0≤c.Part∧c.Part<(3:Int)
    rotate_left
    ·refine jn_to (d.1.Table.Frame,d.1.Table.Windows,d.1.Faces,d.1.Parts,d.1.Lines,d.1.Now,t0,t1,t2) (fun k1=>(bnd_eq hdo).trans (jn_to false (fun k4=>?_) ?_)) ?_
     ·by_cases z:c.Part≥0
      ·rw[decide_eq_true z,fk_t,decide_eq_false (by omega)]
      ·rw[decide_eq_false z,fk_f]
     ·rw[fk_f]
     ·simp only[hw2]
      refine hnx2 _ rfl (nxt _ ?_)
      unfold sawStep
      rw[if_neg (by simpa using q0)]
    have hi:c.Part=0∨c.Part=1∨c.Part=2:=by omega
    rcases hi with hi | hi | hi
    ·refine jn_to (d.1.Table.Frame,d.1.Table.Windows,d.1.Faces,d.1.Parts,d.1.Lines,d.1.Now,t0++[⟨(k:Int),d.2.1,d.2.2⟩],t1,t2) (fun k1=>(bnd_eq hdo).trans (jn_to true (fun k4=>?_) ?_)) ?_
     ·rw[decide_eq_true (by omega),fk_t,decide_eq_true (by omega)]
     ·rw[fk_t]
      rw[decide_eq_true (p:=c.Part=(0:Int)) hi,fk_t]
      exact ck_le 24 (by decide) (by have:=lS2 t0 (by simp); omega)
     ·simp only[hw2]
      refine hnx2 _ rfl (nxt _ ?_)
      unfold sawStep
      rw[if_pos (by simpa using q0),hi]; rfl
    ·refine jn_to (d.1.Table.Frame,d.1.Table.Windows,d.1.Faces,d.1.Parts,d.1.Lines,d.1.Now,t0,t1++[⟨(k:Int),d.2.1,d.2.2⟩],t2) (fun k1=>(bnd_eq hdo).trans (jn_to true (fun k4=>?_) ?_)) ?_
     ·rw[decide_eq_true (by omega),fk_t,decide_eq_true (by omega)]
     ·rw[fk_t]
      rw[decide_eq_false (p:=c.Part=(0:Int)) (by omega),fk_f]
      rw[decide_eq_true (p:=c.Part=(1:Int)) hi,fk_t]
      exact ck_le 24 (by decide) (by have:=lS2 t1 (by simp); omega)
     ·simp only[hw2]
      refine hnx2 _ rfl (nxt _ ?_)
      unfold sawStep
      rw[if_pos (by simpa using q0),hi]; rfl
    ·refine jn_to (d.1.Table.Frame,d.1.Table.Windows,d.1.Faces,d.1.Parts,d.1.Lines,d.1.Now,t0,t1,t2++[⟨(k:Int),d.2.1,d.2.2⟩]) (fun k1=>(bnd_eq hdo).trans (jn_to true (fun k4=>?_) ?_)) ?_
     ·rw[decide_eq_true (by omega),fk_t,decide_eq_true (by omega)]
     ·rw[fk_t]
      rw[decide_eq_false (p:=c.Part=(0:Int)) (by omega),fk_f]
      rw[decide_eq_false (p:=c.Part=(1:Int)) (by omega),fk_f]
      rw[decide_eq_true (p:=c.Part=(2:Int)) hi,fk_t]
      exact ck_le 24 (by decide) (by have:=lS2 t2 (by simp); omega)
     ·simp only[hw2]
      refine hnx2 _ rfl (nxt _ ?_)
      unfold sawStep
      rw[if_pos (by simpa using q0),hi]; rfl
 rw[decide_eq_false (by omega),fk_f]
 have n4:s.Parts.length=4:=by omega
 rw[decide_eq_true (by omega),fk_t]
 have hlen:=n4
 have hml:(a1.map (·.Cmds)).length=a1.length:=List.length_map _
 have hmc:∀x∈(a1.map (·.Cmds)),x.length≤10:=fun x hx=>by obtain⟨y,hy,rfl⟩:=List.mem_map.1 hx; exact hc y hy
 refine out_lp hs h0 (a1.map (·.Cmds)) (by omega) (fun x hx=>by have:=hmc x hx; omega) (fun v=>⟨(⟨⟨v.1,v.2.1⟩,v.2.2.1,v.2.2.2.1,v.2.2.2.2.1,v.2.2.2.2.2.1⟩:KernelState),[v.2.2.2.2.2.2.1,v.2.2.2.2.2.2.2.2.1,v.2.2.2.2.2.2.2.2.2.2.1,v.2.2.2.2.2.2.2.2.2.2.2.2.1],[v.2.2.2.2.2.2.2.1,v.2.2.2.2.2.2.2.2.2.1,v.2.2.2.2.2.2.2.2.2.2.2.1,v.2.2.2.2.2.2.2.2.2.2.2.2.2.1]⟩) (fun v=>v.2.2.2.2.2.2.2.2.2.2.2.2.2.2) _ rfl (by show PlayS.mk _ _ _=_; unfold playK; rw[hlen]; rfl) ?_ ?_
 ·rintro nx ⟨f,w,fa,pa,li,nw,s0,r0,s1,r1,s2,r2,s3,r3,q⟩ hv hp hn kp lS lR
  simp only at hv hp hn kp lS lR
  rw[hlen] at hn
  rw[hml] at hv
  subst hv
  simp only
  rw[decide_eq_false (by omega),fk_f]
  obtain⟨p0,p1,p2,p3,rfl⟩:=list4 hn
  have hV:viewsL (playK s (a1.map (·.Cmds)) (a1.map (·.Cmds)).length)=[⟨s0,r0,p0.Log⟩,⟨s1,r1,p1.Log⟩,⟨s2,r2,p2.Log⟩,⟨s3,r3,p3.Log⟩]:=by rw[←hp]; rfl
  rw[hV]
  refine jn_to false (fun k=>rfl) ?_
  rw[fk_f]
  refine set_lp 4 (by decide) [([]:List Entry),([]:List Entry),([]:List Entry),([]:List Entry)] [p0.Log,p1.Log,p2.Log,p3.Log] rfl rfl (fun v=>[v.1,v.2.1,v.2.2.1,v.2.2.2.1]) (fun v=>v.2.2.2.2) _ rfl rfl ?_ ?_
  ·rintro nx2 ⟨l0,l1,l2,l3,q2⟩ hv2 hL
   simp only at hv2 hL
   subst hv2
   simp only
   rw[decide_eq_false (by decide),fk_f,bnd_eq law22_knows_eq]
  ·rintro nx2 ⟨l0,l1,l2,l3,q2⟩ k hk hv2 hg _ hnx2
   simp only at hv2
   subst hv2
   have hk2:k=0∨k=1∨k=2∨k=3:=by omega
   rcases hk2 with rfl | rfl | rfl | rfl
   ·refine Eq.trans (b:=bnd (law22_Same ⟨s0,r0,p0.Log⟩ ⟨s0,r0,p0.Log⟩) (fun z=>fk (!z) (some false) (nx2 (p0.Log,l1,l2,l3,((1:Nat):Int))))) rfl ?_
    rw[bnd_eq (sameV_refl _ (by have:=lS s0 (by simp); show s0.length≤_; omega) (by have:=lR r0 (by simp); show r0.length≤_; omega) (by have:=(kp.parts p0 (by simp)).1.2.2.2; show p0.Log.length≤_; omega)),Bool.not_true,fk_f]
    exact hnx2 _ rfl rfl
   ·refine Eq.trans (b:=bnd (law22_Same ⟨s1,r1,p1.Log⟩ ⟨s1,r1,p1.Log⟩) (fun z=>fk (!z) (some false) (nx2 (l0,p1.Log,l2,l3,((2:Nat):Int))))) rfl ?_
    rw[bnd_eq (sameV_refl _ (by have:=lS s1 (by simp); show s1.length≤_; omega) (by have:=lR r1 (by simp); show r1.length≤_; omega) (by have:=(kp.parts p1 (by simp)).1.2.2.2; show p1.Log.length≤_; omega)),Bool.not_true,fk_f]
    exact hnx2 _ rfl rfl
   ·refine Eq.trans (b:=bnd (law22_Same ⟨s2,r2,p2.Log⟩ ⟨s2,r2,p2.Log⟩) (fun z=>fk (!z) (some false) (nx2 (l0,l1,p2.Log,l3,((3:Nat):Int))))) rfl ?_
    rw[bnd_eq (sameV_refl _ (by have:=lS s2 (by simp); show s2.length≤_; omega) (by have:=lR r2 (by simp); show r2.length≤_; omega) (by have:=(kp.parts p2 (by simp)).1.2.2.2; show p2.Log.length≤_; omega)),Bool.not_true,fk_f]
    exact hnx2 _ rfl rfl
   ·refine Eq.trans (b:=bnd (law22_Same ⟨s3,r3,p3.Log⟩ ⟨s3,r3,p3.Log⟩) (fun z=>fk (!z) (some false) (nx2 (l0,l1,l2,p3.Log,((4:Nat):Int))))) rfl ?_
    rw[bnd_eq (sameV_refl _ (by have:=lS s3 (by simp); show s3.length≤_; omega) (by have:=lR r3 (by simp); show r3.length≤_; omega) (by have:=(kp.parts p3 (by simp)).1.2.2.2; show p3.Log.length≤_; omega)),Bool.not_true,fk_f]
    exact hnx2 _ rfl rfl
 ·rintro nx ⟨f,w,fa,pa,li,nw,s0,r0,s1,r1,s2,r2,s3,r3,q⟩ k hk hv kp hn hs2 hr2 lS lR hnx
  simp only at hv kp hn lS lR
  rw[hlen] at hn
  subst hv
  have hk1:k<a1.length:=by omega
  have hA:∀{β:Type} (f:Law21Step→Option β),ix a1 (k:Int) f=f a1[k]:=fun f=>ix_lt hk1
  have hcl:a1[k].Cmds=(a1.map (·.Cmds))[k]:=(List.getElem_map _).symm
  have hc10:=hmc _ (List.getElem_mem hk)
  simp only[hA,hcl]
  rw[decide_eq_true (by omega),fk_t]
  generalize (a1.map (·.Cmds))[k]=cl at hc10 hnx ⊢
  refine do_lp (m:=1000000) (k:Int) (⟨⟨f,w⟩,fa,pa,li,nw⟩,[s0,s1,s2,s3]) cl (by omega) kp lS (fun v=>((⟨⟨v.1,v.2.1⟩,v.2.2.1,v.2.2.2.1,v.2.2.2.2.1,v.2.2.2.2.2.1⟩:KernelState),[v.2.2.2.2.2.2.1,v.2.2.2.2.2.2.2.1,v.2.2.2.2.2.2.2.2.1,v.2.2.2.2.2.2.2.2.2.1])) (fun v=>v.2.2.2.2.2.2.2.2.2.2) _ rfl rfl ?_ ?_
  ·rintro nx2 ⟨f2,w2,fa2,pa2,li2,nw2,t0,t1,t2,t3,q2⟩ hv2 hX kp2 hl2 hp2
   simp only at hv2 hX kp2 hl2 hp2
   rw[hn] at hp2
   subst hv2
   simp only
   rw[decide_eq_false (by omega),fk_f,bnd_eq (tickK_eq kp2)]
   dsimp only
   have hrl:(ranK ⟨⟨f2,w2⟩,fa2,pa2,li2,nw2⟩).length=4:=by rw[ranK_len]; exact hp2
   rw[decide_eq_true (p:=(((ranK ⟨⟨f2,w2⟩,fa2,pa2,li2,nw2⟩).length:Nat):Int)=(4:Int)) (by omega),Bool.not_true,fk_f]
   obtain⟨y0,y1,y2,y3,hy⟩:=list4 hrl
   rw[hy]
   refine set_lp 4 (by decide) [r0,r1,r2,r3] [r0++[y0],r1++[y1],r2++[y2],r3++[y3]] rfl rfl (fun v=>[v.1,v.2.1,v.2.2.1,v.2.2.2.1]) (fun v=>v.2.2.2.2) _ rfl rfl ?_ ?_
   ·rintro nx3 ⟨u0,u1,u2,u3,q3⟩ hv3 hL
    simp only at hv3 hL
    subst hv3
    simp only[List.cons.injEq,and_true] at hL
    obtain⟨rfl,rfl,rfl,rfl⟩:=hL
    simp only
    rw[decide_eq_false (by decide),fk_f]
    rw[wr_succ k _ hk1 (by omega)]
    refine hnx _ rfl ?_
    unfold tickL
    dsimp only
    rw[←hX,hy]
    rfl
   ·rintro nx3 ⟨u0,u1,u2,u3,q3⟩ k3 hk3 hv3 hg _ hnx3
    simp only at hv3 hg
    subst hv3
    have hk2:k3=0∨k3=1∨k3=2∨k3=3:=by omega
    rcases hk2 with rfl | rfl | rfl | rfl
    ·have hu:u0=r0:=Option.some.inj hg
     subst hu
     have hlen9:u0.length≤1000000000:=by have:=lR u0 (by simp); omega
     exact (ck_le 8 (by decide) hlen9).trans (hnx3 (u0++[y0],u1,u2,u3,((1:Nat):Int)) rfl rfl)
    ·have hu:u1=r1:=Option.some.inj hg
     subst hu
     have hlen9:u1.length≤1000000000:=by have:=lR u1 (by simp); omega
     exact (ck_le 8 (by decide) hlen9).trans (hnx3 (u0,u1++[y1],u2,u3,((2:Nat):Int)) rfl rfl)
    ·have hu:u2=r2:=Option.some.inj hg
     subst hu
     have hlen9:u2.length≤1000000000:=by have:=lR u2 (by simp); omega
     exact (ck_le 8 (by decide) hlen9).trans (hnx3 (u0,u1,u2++[y2],u3,((3:Nat):Int)) rfl rfl)
    ·have hu:u3=r3:=Option.some.inj hg
     subst hu
     have hlen9:u3.length≤1000000000:=by have:=lR u3 (by simp); omega
     exact (ck_le 8 (by decide) hlen9).trans (hnx3 (u0,u1,u2,u3++[y3],((4:Nat):Int)) rfl rfl)
  ·rintro nx2 ⟨f2,w2,fa2,pa2,li2,nw2,t0,t1,t2,t3,q2⟩ k2 hk2 hv2 kp2 hl2 lS2 hnx2
   simp only at hv2 kp2 hl2 lS2
   subst hv2
   simp only
   rw[decide_eq_true (by omega),fk_t]
   have hw2:wr ((k2:Int)+1)=((k2+1:Nat):Int):=wr_succ k2 _ hk2 (by omega)
   have hq2:∀{β:Type} (g:KernelCmd→Option β),ix cl (k2:Int) g=g cl[k2]:=fun g=>ix_lt hk2
   simp only[hq2]
   generalize cl[k2]=c at hnx2 ⊢
   have hdo:=kernel_Do_eq _ c kp2
   generalize hd:doK ⟨⟨f2,w2⟩,fa2,pa2,li2,nw2⟩ c=d at hdo
   have nxt:∀S,S=sawStep (k:Int) c d.2.1 d.2.2 [t0,t1,t2,t3]→(⟨⟨d.1.Table.Frame,d.1.Table.Windows⟩,d.1.Faces,d.1.Parts,d.1.Lines,d.1.Now⟩,S)=askL (k:Int) (⟨⟨f2,w2⟩,fa2,pa2,li2,nw2⟩,[t0,t1,t2,t3]) c:=fun S hS=>by unfold askL; dsimp only; rw[hd,hS]
   by_cases q0:0≤c.Part∧c.Part<(4:Int)
   rotate_left
   ·refine jn_to (d.1.Table.Frame,d.1.Table.Windows,d.1.Faces,d.1.Parts,d.1.Lines,d.1.Now,t0,t1,t2,t3) (fun k1=>(bnd_eq hdo).trans (jn_to false (fun k4=>?_) ?_)) ?_
    ·by_cases z:c.Part≥0
     ·rw[decide_eq_true z,fk_t,decide_eq_false (by omega)]
     ·rw[decide_eq_false z,fk_f]
    ·rw[fk_f]
    ·simp only[hw2]
     refine hnx2 _ rfl (nxt _ ?_)
     unfold sawStep
     rw[if_neg (by simpa using q0)]
   have hi:c.Part=0∨c.Part=1∨c.Part=2∨c.Part=3:=by omega
   rcases hi with hi | hi | hi | hi
   ·refine jn_to (d.1.Table.Frame,d.1.Table.Windows,d.1.Faces,d.1.Parts,d.1.Lines,d.1.Now,t0++[⟨(k:Int),d.2.1,d.2.2⟩],t1,t2,t3) (fun k1=>(bnd_eq hdo).trans (jn_to true (fun k4=>?_) ?_)) ?_
    ·rw[decide_eq_true (by omega),fk_t,decide_eq_true (by omega)]
    ·rw[fk_t]
     rw[decide_eq_true (p:=c.Part=(0:Int)) hi,fk_t]
     exact ck_le 24 (by decide) (by have:=lS2 t0 (by simp); omega)
    ·simp only[hw2]
     refine hnx2 _ rfl (nxt _ ?_)
     unfold sawStep
     rw[if_pos (by simpa using q0),hi]; rfl
   ·refine jn_to (d.1.Table.Frame,d.1.Table.Windows,d.1.Faces,d.1.Parts,d.1.Lines,d.1.Now,t0,t1++[⟨(k:Int),d.2.1,d.2.2⟩],t2,t3) (fun k1=>(bnd_eq hdo).trans (jn_to true (fun k4=>?_) ?_)) ?_
    ·rw[decide_eq_true (by omega),fk_t,decide_eq_true (by omega)]
    ·rw[fk_t]
     rw[decide_eq_false (p:=c.Part=(0:Int)) (by omega),fk_f]
     rw[decide_eq_true (p:=c.Part=(1:Int)) hi,fk_t]
     exact ck_le 24 (by decide) (by have:=lS2 t1 (by simp); omega)
    ·simp only[hw2]
     refine hnx2 _ rfl (nxt _ ?_)
     unfold sawStep
     rw[if_pos (by simpa using q0),hi]; rfl
   ·refine jn_to (d.1.Table.Frame,d.1.Table.Windows,d.1.Faces,d.1.Parts,d.1.Lines,d.1.Now,t0,t1,t2++[⟨(k:Int),d.2.1,d.2.2⟩],t3) (fun k1=>(bnd_eq hdo).trans (jn_to true (fun k4=>?_) ?_)) ?_
    ·rw[decide_eq_true (by omega),fk_t,decide_eq_true (by omega)]
    ·rw[fk_t]
     rw[decide_eq_false (p:=c.Part=(0:Int)) (by omega),fk_f]
     rw[decide_eq_false (p:=c.Part=(1:Int)) (by omega),fk_f]
     rw[decide_eq_true (p:=c.Part=(2:Int)) hi,fk_t]
     exact ck_le 24 (by decide) (by have:=lS2 t2 (by simp); omega)
    ·simp only[hw2]
     refine hnx2 _ rfl (nxt _ ?_)
     unfold sawStep
     rw[if_pos (by simpa using q0),hi]; rfl
   ·refine jn_to (d.1.Table.Frame,d.1.Table.Windows,d.1.Faces,d.1.Parts,d.1.Lines,d.1.Now,t0,t1,t2,t3++[⟨(k:Int),d.2.1,d.2.2⟩]) (fun k1=>(bnd_eq hdo).trans (jn_to true (fun k4=>?_) ?_)) ?_
    ·rw[decide_eq_true (by omega),fk_t,decide_eq_true (by omega)]
    ·rw[fk_t]
     rw[decide_eq_false (p:=c.Part=(0:Int)) (by omega),fk_f]
     rw[decide_eq_false (p:=c.Part=(1:Int)) (by omega),fk_f]
     rw[decide_eq_false (p:=c.Part=(2:Int)) (by omega),fk_f]
     rw[decide_eq_true (p:=c.Part=(3:Int)) hi,fk_t]
     exact ck_le 24 (by decide) (by have:=lS2 t3 (by simp); omega)
    ·simp only[hw2]
     refine hnx2 _ rfl (nxt _ ?_)
     unfold sawStep
     rw[if_pos (by simpa using q0),hi]; rfl
end Go.Proofs.YtldlcdnhdedoeaaGreat
namespace Go.Proofs.YtldlcdnhdedoeaaGreat.worldPlays
open Go Go.VC Go.ChangeShapes Go.WideShapes Go.ChangeAt Go.RowKit
theorem own:ownKnob Tryz.prog.godebug=none:=by kernel_rfl
theorem laidOut:laidOutB Tryz.prog=true:=by kernel_rfl
theorem lifted (os:Os) (started:os.Started) (H:Type) (enc:TypeId×Value→H) :
  ReturnsInHanded {} Tryz.checked os 7 .any (Rows.worldPlaysSpec.pre6 enc Tryz.prog Tryz.f7 Rows.worldPlaysRow.domain false) (Rows.worldPlaysSpec.post enc Tryz.prog Tryz.f7 false true false false):=by
 refine returnsInHanded_of_change_sized (C:=Tryz.checked) own started (by kernel_rfl) Tryz.func7
  (ChangeSpec.witness6 (enc:=enc) (C:=Tryz.checked) false ⟨#[],#[.slice none 0 0,.slice none 0 0],[]⟩ 8 (by kernel_rfl) (by kernel_rfl) (by kernel_rfl) (by kernel_rfl)) ?_
 intro W base args ds gs before hval0 hW hcnd hsz0 _
 have hsz:(DataW.weightsEach Tryz.prog (Tryz.f7.params.toList++Rows.worldPlaysSpec.plain.varTypes Tryz.prog) (ds++gs)).all (·≤reachBytes)=true:=hsz0
 have hval:∀(j:Nat) t v,Tryz.f7.params[j]?=some t→args[j]?=some v→Value.okWide Tryz.prog W .any base t v:=hval0
 have hW':=hW
 obtain⟨p,q,hA0,hV,rfl,hfz,hnd⟩:=hW
 have hA:DataW.TrodAll enc Tryz.prog W 0 (fun _=>true) true Tryz.f7.params.toList args.toList ds p:=hA0
 rw[Tryz.params7] at hA hval hsz
 obtain⟨v0,vs0,d0,ds0,p0,q0,hargs,rfl,rfl,h0,r0⟩:=trodAll_cons hA
 obtain⟨v1,vs1,d1,ds1,p1,q1,rfl,rfl,rfl,h1,r1⟩:=trodAll_cons r0
 obtain⟨rfl,rfl,rfl⟩:=trodAll_nil r1
 obtain rfl:args=#[v0,v1]:=by cases args; simp_all
 obtain⟨rfl,rfl⟩:=trodVars_none hV
 have lt0:∀x∈p0,x.block<W.heap.size:=by obtain⟨m,hm⟩:=h0; exact DataW.trod_lt m _ _ _ hm
 have wt0:∀k∈d0.weights Tryz.prog 97,k≤BB:=fun k hk=>of_decide_eq_true (List.all_eq_true.1 hsz _ (DataW.weights_mem_each (j:=0) rfl rfl k hk))
 obtain⟨c0,s0,g0⟩:=open_cv tab (m:=8) (t:=97) rfl (hval 0 97 v0 rfl rfl) h0 wt0
 have g0:=g0 _ T97
 obtain⟨a0,rfl,w0⟩:=(s0.l (f:=(eI .u8)) (W:=(fun x=>wfI .u8 x)) T97 T5 (fun _ _ h=>(h.i T5)))
 have lt1:∀x∈p1,x.block<W.heap.size:=by obtain⟨m,hm⟩:=h1; exact DataW.trod_lt m _ _ _ hm
 have wt1:∀k∈d1.weights Tryz.prog 64,k≤BB:=fun k hk=>of_decide_eq_true (List.all_eq_true.1 hsz _ (DataW.weights_mem_each (j:=1) rfl rfl k hk))
 obtain⟨c1,s1,g1⟩:=open_cv tab (m:=8) (t:=64) rfl (hval 1 64 v1 rfl rfl) h1 wt1
 have g1:=g1 _ T64
 obtain⟨a1,rfl,w1⟩:=(s1.l (f:=Law21Step.enc) (W:=(fun x=>Law21Step.wf x)) T64 T108 (fun _ _ h=>(Law21Step.of h)))
 clear hA0 hval0 hsz0 hsz
 have pure:=proofWorldPlays a0 a1 w0 w1
 refine ((law22_WorldPlays_w a0 a1 true pure).2 W (pw W) [v0,v1] (fun _ h=>h) (All2.cons g0 (All2.cons g1 All2.nil))).mono fun e W' ⟨v,rs,p',he,hR,hrep,bel,_⟩=>?_
 subst hR he
 obtain rfl:=RepD_bool hrep
 exact⟨_,rfl,_,_,_,[],_,[],hW',trodAll_mk1 (shut_bool Tryz.underlying4 _),(trodAll_cons_mk (Below.trod laidOut (by kernel_rfl) (of_decide_eq_true (by kernel_rfl)) h0 bel lt0) (trodAll_cons_mk (Below.trod laidOut (by kernel_rfl) (of_decide_eq_true (by kernel_rfl)) h1 bel lt1) trodAll_mk0)),rfl,bel.frame _,fun h=>by cases h⟩
theorem over:Rows.worldPlaysRow.holds Tryz.pinned (OpenSpec.ofChange Rows.worldPlaysSpec):=
 OpenClaim.holds_of_wide 7 Tryz.f7 rfl rfl rfl rfl rfl rfl rfl ⟨rfl,rfl,rfl,rfl,rfl⟩ rfl rfl rfl rfl rfl (by kernel_rfl) Tryz.func7 (by kernel_rfl)
  (of_decide_eq_true (by kernel_rfl)) (by unfold Func.isWrapper; first | (rw[if_pos (by decide +kernel)]; kernel_rfl) | (rw[if_neg (by decide +kernel)]; exact⟨rfl,rfl⟩))
  (fun os started H enc _=>lifted os started H enc)
end Go.Proofs.YtldlcdnhdedoeaaGreat.worldPlays
namespace Go.Proofs.YtldlcdnhdedoeaaGreat
theorem worldPlays_holds:Rows.WorldPlaysSaid:=worldPlays.over
end Go.Proofs.YtldlcdnhdedoeaaGreat
