/- Part 22 of what follows is proved here: what the statement TopAccepts needs of functions and plain laws. -/
import Derived.Test.YtldlcdnhdedoeaaGreatXTopAccepts0
import Derived.Test.YtldlcdnhdedoeaaGreatXTopAccepts9
import Derived.Test.YtldlcdnhdedoeaaGreatXTopAccepts8
import Derived.Test.YtldlcdnhdedoeaaGreatXTopAccepts10
set_option linter.unusedVariables false
set_option linter.unusedSimpArgs false
set_option maxRecDepth 100000
namespace Go.Proofs.YtldlcdnhdedoeaaGreat
open Go Go.VC
/-! Rings. -/
def ringP (r:RingRing):Prop:=0<r.Buf.length∧r.Buf.length≤4∧0≤r.First∧r.First<(r.Buf.length:Int)∧0≤r.Many∧r.Many≤(r.Buf.length:Int)
theorem ring_Right_eq (r:RingRing) (h4:r.Buf.length≤4):ring_Right r=some (decide (0<r.Buf.length∧0≤r.First∧r.First<(r.Buf.length:Int)∧0≤r.Many∧r.Many≤(r.Buf.length:Int))):=by
  unfold ring_Right
  by_cases h1:0<r.Buf.length
  rotate_left
  · rw[decide_eq_false (by omega),fk_f]; exact dec_f fun h=>h1 h.1
  rw[decide_eq_true (by omega),fk_t]
  by_cases h2:0≤r.First
  rotate_left
  · rw[decide_eq_false (by omega),fk_f]; exact dec_f fun h=>h2 h.2.1
  rw[decide_eq_true (by omega),fk_t]
  by_cases h3:r.First<(r.Buf.length:Int)
  rotate_left
  · rw[decide_eq_false (by omega),fk_f]; exact dec_f fun h=>h3 h.2.2.1
  rw[decide_eq_true (by omega),fk_t]
  by_cases h4:0≤r.Many
  rotate_left
  · rw[decide_eq_false (by omega),fk_f]; exact dec_f fun h=>h4 h.2.2.2.1
  rw[decide_eq_true (by omega),fk_t]
  exact dec_iff ⟨fun h=>⟨h1,h2,h3,h4,h⟩,fun h=>h.2.2.2.2⟩
theorem ring_Right_t {r:RingRing} (h:ringP r):ring_Right r=some true:=by
  rw[ring_Right_eq r h.2.1,decide_eq_true ⟨h.1,h.2.2.1,h.2.2.2.1,h.2.2.2.2.1,h.2.2.2.2.2⟩]
/-- The place of the i-th, and what lies there. -/
def rIx (r:RingRing) (i:Nat):Nat:=(r.First.toNat+i)%r.Buf.length
def rAt (r:RingRing) (i:Nat):Int:=(r.Buf[rIx r i]?).getD 0
def cont (r:RingRing):List Int:=(List.range r.Many.toNat).map (rAt r)
theorem rIx_lt {r:RingRing} (h:ringP r) (i:Nat):rIx r i<r.Buf.length:=Nat.mod_lt _ h.1
theorem ring_at_eq (r:RingRing) (h:ringP r) (i:Nat) (hi:i≤1000):ring_at r (i:Int)=some ((rIx r i:Nat):Int):=by
  have h0:=h.1
  have h4:=h.2.1
  have hF:=h.2.2
  unfold ring_at
  rw[ck_t (decide_eq_true (by omega)),wr_in _ (by omega),Int.tmod_eq_emod_of_nonneg (by omega)]
  unfold rIx
  have e:r.First+(i:Int)=((r.First.toNat+i:Nat):Int):=by omega
  rw[e]; rfl
theorem mod_ne {a b n:Nat} (hab:a<b) (hb:b<a+n):a%n≠b%n:=by
  intro e
  have h1:=Nat.sub_mod_eq_zero_of_mod_eq e.symm
  rw[Nat.mod_eq_of_lt (by omega)] at h1
  omega
theorem rIx_inj {r:RingRing} (h:ringP r) {i j:Nat} (hij:i<j) (hj:j<r.Buf.length):rIx r i≠rIx r j:=mod_ne (by omega) (by omega)
def pushV (r:RingRing) (v:Int):RingRing:=⟨r.Buf.set (rIx r r.Many.toNat) v,r.First,r.Many+1⟩
theorem ring_Push_eq (r:RingRing) (v:Int) (h:ringP r):ring_Push r v=some (if r.Many=(r.Buf.length:Int) then (r,3) else (pushV r v,0)):=by
  have h4:=h.2.1
  have hM:=h.2.2.2.2
  unfold ring_Push
  rw[bnd_eq (ring_Right_t h),Bool.not_true,fk_f]
  by_cases c:r.Many=(r.Buf.length:Int)
  · rw[decide_eq_true c,fk_t,if_pos c]
  rw[decide_eq_false c,fk_f,if_neg c,ck_t (by simp; omega),List.nil_append]
  have e:ring_at r r.Many=some ((rIx r r.Many.toNat:Nat):Int):=by
    have:=ring_at_eq r h r.Many.toNat (by omega)
    rwa [show ((r.Many.toNat:Nat):Int)=r.Many by omega] at this
  have hlt:=rIx_lt h r.Many.toNat
  show bnd (ring_at r r.Many) _=_
  rw[bnd_eq e,ck_t (by simp; omega),Int.toNat_natCast,ox_lt hlt,wr_in _ (by omega)]
  rfl
theorem pushV_ok {r:RingRing} {v:Int} (h:ringP r) (c:r.Many≠(r.Buf.length:Int)):ringP (pushV r v)∧(pushV r v).Buf.length=r.Buf.length∧cont (pushV r v)=cont r++[v]:=by
  have h4:=h.2.1
  have hM:=h.2.2.2.2
  have hl:(pushV r v).Buf.length=r.Buf.length:=by unfold pushV; simp
  have hix:∀i,rIx (pushV r v) i=rIx r i:=fun i=>by unfold rIx; rw[hl]; rfl
  refine⟨⟨by rw[hl]; exact h.1,by rw[hl]; exact h4,h.2.2.1,by rw[hl]; exact h.2.2.2.1,by show 0≤r.Many+1; omega,by rw[hl]; show r.Many+1≤_; omega⟩,hl,?_⟩
  have e:(pushV r v).Many.toNat=r.Many.toNat+1:=by show (r.Many+1).toNat=_; omega
  unfold cont
  rw[e,List.range_succ,List.map_append,List.map_singleton]
  have hlt:=rIx_lt h r.Many.toNat
  congr 1
  · refine List.map_congr_left fun i hi=>?_
    have hi:i<r.Many.toNat:=by simpa using hi
    unfold rAt
    rw[hix]
    show ((r.Buf.set (rIx r r.Many.toNat) v)[rIx r i]?).getD 0=_
    rw[List.getElem?_set_ne (fun c=>rIx_inj h hi (by omega) c.symm)]
  · unfold rAt
    rw[hix]
    show [((r.Buf.set (rIx r r.Many.toNat) v)[rIx r r.Many.toNat]?).getD 0]=_
    rw[List.getElem?_set_self hlt]; rfl
def popV (r:RingRing):RingRing:=⟨r.Buf,((rIx r 1:Nat):Int),r.Many-1⟩
theorem ring_Pop_eq (r:RingRing) (h:ringP r):ring_Pop r=some (if r.Many=0 then (0,r,4) else (rAt r 0,popV r,0)):=by
  have h4:=h.2.1
  have hM:=h.2.2.2.2
  unfold ring_Pop
  rw[bnd_eq (ring_Right_t h),Bool.not_true,fk_f]
  by_cases c:r.Many=0
  · rw[decide_eq_true c,fk_t,if_pos c]
  have eo:ring_own r=some r:=by
    unfold ring_own
    rw[ck_t (by simp; omega),List.nil_append]
  rw[decide_eq_false c,fk_f,if_neg c,bnd_eq eo]
  have hF:=h.2.2
  have hlt:r.First.toNat<r.Buf.length:=by omega
  have e1:ring_at r (1:Int)=some ((rIx r 1:Nat):Int):=ring_at_eq r h 1 (by omega)
  rw[ix_int hF.1 hlt,bnd_eq e1,wr_in _ (by omega)]
  have e0:rIx r 0=r.First.toNat:=by unfold rIx; rw[Nat.add_zero,Nat.mod_eq_of_lt hlt]
  have ea:rAt r 0=r.Buf[r.First.toNat]:=by unfold rAt; rw[e0,List.getElem?_eq_getElem hlt]; rfl
  rw[ea]; rfl
theorem popV_ok {r:RingRing} (h:ringP r) (c:r.Many≠0):ringP (popV r)∧(popV r).Buf.length=r.Buf.length∧cont r=rAt r 0::cont (popV r)∧(popV r).Many.toNat+1=r.Many.toNat:=by
  have h4:=h.2.1
  have hM:=h.2.2.2.2
  have hF:=h.2.2
  have hlt:=rIx_lt h 1
  have e:r.Many.toNat=(popV r).Many.toNat+1:=by show _=(r.Many-1).toNat+1; omega
  refine⟨⟨h.1,h4,by show (0:Int)≤((rIx r 1:Nat):Int); omega,by show ((rIx r 1:Nat):Int)<_; show _<(r.Buf.length:Int); omega,by show 0≤r.Many-1; omega,by show r.Many-1≤(r.Buf.length:Int); omega⟩,rfl,?_,e.symm⟩
  unfold cont
  rw[e,List.range_succ_eq_map,List.map_cons,List.map_map]
  congr 1
  refine List.map_congr_left fun i _=>?_
  show rAt r (i+1)=rAt (popV r) i
  unfold rAt
  have:rIx (popV r) i=rIx r (i+1):=by
    unfold rIx
    show (((rIx r 1:Nat):Int).toNat+i)%r.Buf.length=_
    rw[Int.toNat_natCast]
    unfold rIx
    rw[Nat.mod_add_mod,show r.First.toNat+1+i=r.First.toNat+(i+1) by omega]
  rw[this]; rfl
theorem ring_Put_ex (r:RingRing) (v:Int) (h:ringP r):∃r',ring_Put r v=some r'∧ringP r'∧r'.Buf.length=r.Buf.length∧(r.Many≠(r.Buf.length:Int)→cont r'=cont r++[v]∧r'.Many=r.Many+1):=by
  unfold ring_Put
  rw[bnd_eq (ring_Push_eq r v h)]
  by_cases c:r.Many=(r.Buf.length:Int)
  · have hM:=h.2.2.2.2
    have c0:r.Many≠0:=by have:=h.1; omega
    obtain⟨p1,p2,p3,p4⟩:=popV_ok h c0
    rw[if_pos c,decide_eq_true rfl,Bool.not_true,fk_f,bnd_eq (ring_Pop_eq r h),if_neg c0,bnd_eq (ring_Push_eq (popV r) v p1)]
    have c1:(popV r).Many≠((popV r).Buf.length:Int):=by rw[p2]; show r.Many-1≠_; omega
    obtain⟨q1,q2,q3⟩:=pushV_ok (v:=v) p1 c1
    rw[if_neg c1]
    exact⟨_,rfl,q1,by rw[q2,p2],fun h=>absurd c h⟩
  · obtain⟨q1,q2,q3⟩:=pushV_ok (v:=v) h c
    rw[if_neg c]
    exact⟨_,rfl,q1,q2,fun _=>⟨q3,rfl⟩⟩
theorem ring_New_eq (n:Int) (h1:1≤n) (h2:n≤4):ring_New n=some (⟨List.replicate n.toNat 0,0,0⟩,0):=by
  unfold ring_New
  refine jn_to false (fun k=>by rw[decide_eq_false (by omega),fk_f,decide_eq_false (by omega)]) ?_
  rw[fk_f,ck_t (by simp; omega)]
theorem ringP_new {n:Int} (h1:1≤n) (h2:n≤4):ringP ⟨List.replicate n.toNat 0,0,0⟩∧cont ⟨List.replicate n.toNat 0,0,0⟩=[]:=by
  refine⟨⟨?_,?_,Int.le_refl _,?_,Int.le_refl _,?_⟩,rfl⟩ <;> simp <;> omega
theorem cont_len {r:RingRing} (h:ringP r):(cont r).length=r.Many.toNat∧(cont r).length≤4:=by
  have h4:=h.2.1
  have hM:=h.2.2.2.2
  unfold cont
  rw[List.length_map,List.length_range]
  exact⟨rfl,by omega⟩

/-! Lines. -/
def portP (p:Port):Prop:=0≤p.From∧p.From<4∧0≤p.To∧p.To<4∧p.From≠p.To∧1≤p.Cap∧p.Cap≤4
instance (p:Port):Decidable (portP p):=by unfold portP; infer_instance
def lineP (x:PortLine):Prop:=portP x.Port∧ringP x.Under∧ringP x.Got∧(x.Under.Buf.length:Int)=x.Port.Cap∧(x.Got.Buf.length:Int)=x.Port.Cap
def linesP (l:List PortLine):Prop:=(∀x∈l,lineP x)∧l.length≤4
theorem port_may_1_eq (x:Int):port_may_1 x=some (decide (0≤x∧x<4)):=by
  unfold port_may_1
  by_cases h:0≤x
  · rw[decide_eq_true (by omega),fk_t]; exact dec_iff ⟨fun a=>⟨h,a⟩,fun a=>a.2⟩
  · rw[decide_eq_false (by omega),fk_f]; exact dec_f fun a=>h a.1
theorem port_may_eq (p:Port):port_may p=some (decide (portP p)):=by
  unfold port_may portP
  rw[bnd_eq (port_may_1_eq p.From)]
  by_cases h1:0≤p.From∧p.From<4
  rotate_left
  · rw[decide_eq_false h1,fk_f]; exact dec_f fun a=>h1 ⟨a.1,a.2.1⟩
  rw[decide_eq_true h1,fk_t,bnd_eq (port_may_1_eq p.To)]
  by_cases h2:0≤p.To∧p.To<4
  rotate_left
  · rw[decide_eq_false h2,fk_f]; exact dec_f fun a=>h2 ⟨a.2.2.1,a.2.2.2.1⟩
  rw[decide_eq_true h2,fk_t]
  by_cases h3:p.From=p.To
  · rw[decide_eq_true h3,Bool.not_true,fk_f]; exact dec_f fun a=>a.2.2.2.2.1 h3
  rw[decide_eq_false h3,Bool.not_false,fk_t]
  by_cases h4:p.Cap≥1
  · rw[decide_eq_true h4,fk_t]; exact dec_iff ⟨fun a=>⟨h1.1,h1.2,h2.1,h2.2,h3,h4,a⟩,fun a=>a.2.2.2.2.2.2⟩
  · rw[decide_eq_false h4,fk_f]; exact dec_f fun a=>h4 a.2.2.2.2.2.1
theorem port_Right_t {l:List PortLine} (h:linesP l):port_Right l=some true:=by
  unfold port_Right
  refine lp_up l.length (by unfold FU; have:=h.2; omega) (fun _=>True) trivial ?_
  intro nx k hk _ hnx
  rw[lt_nat]
  by_cases c:k<l.length
  rotate_left
  · rw[decide_eq_false c,fk_f,decide_eq_true (by have:=h.2; omega)]
  obtain⟨h1,h2,h3,h4,h5⟩:=h.1 _ (List.getElem_mem c)
  rw[decide_eq_true c,fk_t,ix_lt c,wr_succ k _ c (by have:=h.2; omega)]
  refine jn_to false (fun k3=>?_) (by rw[fk_f]; exact hnx c trivial)
  rw[bnd_eq (port_may_eq _),decide_eq_true h1,Bool.not_true,fk_f,bnd_eq (ring_Right_t h2),Bool.not_true,fk_f,bnd_eq (ring_Right_t h3),Bool.not_true,fk_f,decide_eq_true h4,Bool.not_true,fk_f,decide_eq_true h5]
  rfl
def newL (p:Port):PortLine:=⟨p,⟨List.replicate p.Cap.toNat 0,0,0⟩,⟨List.replicate p.Cap.toNat 0,0,0⟩⟩
theorem newL_ok {p:Port} (h:portP p):lineP (newL p)∧cont (newL p).Under=[]∧cont (newL p).Got=[]:=by
  have h6:=h.2.2.2.2.2.1
  have h7:=h.2.2.2.2.2.2
  have hr:=ringP_new h6 h7
  refine⟨⟨h,hr.1,hr.1,?_,?_⟩,hr.2,hr.2⟩ <;> (unfold newL; simp; omega)
theorem port_Open_eq (ps:List Port) (hl:ps.length≤1000):port_Open ps=some (if (∀p∈ps,portP p)∧ps.length≤4 then (ps.map newL,0) else ([],1)):=by
  unfold port_Open
  refine lp_upS ps.length (by unfold FU; omega) (fun k s=>s=(ps.take k).map newL∧∀p∈ps.take k,portP p) [] ⟨rfl,fun p h=>(List.not_mem_nil h).elim⟩ ?_
  rintro nx k s hk ⟨rfl,hp⟩ hnx
  dsimp only
  have hlen:((ps.take k).map newL).length=k:=by simp; omega
  rw[lt_nat,hlen]
  by_cases c:k<ps.length
  rotate_left
  · have e:k=ps.length:=by omega
    subst e
    rw[List.take_length] at hp ⊢
    rw[decide_eq_false c,fk_f]
    by_cases h4:ps.length≤4
    · rw[decide_eq_false (by omega),fk_f,if_pos ⟨hp,h4⟩]
    · rw[decide_eq_true (by omega),fk_t,if_neg (fun h=>h4 h.2)]
  rw[decide_eq_true c,fk_t,ix_lt c,bnd_eq (port_may_eq _)]
  by_cases hm:portP ps[k]
  rotate_left
  · rw[decide_eq_false hm,Bool.not_false,fk_t,if_neg (fun h=>hm (h.1 _ (List.getElem_mem c)))]
  have hcap:=hm.2.2.2.2.2
  rw[decide_eq_true hm,Bool.not_true,fk_f,bnd_eq (ring_New_eq _ hcap.1 hcap.2),bnd_eq (ring_New_eq _ hcap.1 hcap.2),ck_t (by simp; omega),wr_succ k _ c (by omega)]
  refine hnx _ c ⟨?_,fun p hp'=>?_⟩
  · rw[←List.take_append_getElem c,List.map_append]; rfl
  · rw[←List.take_append_getElem c] at hp'
    rcases List.mem_append.1 hp' with h | h
    · exact hp p h
    · rw[List.mem_singleton.1 h]; exact hm
theorem linesP_new {ps:List Port} (h:∀p∈ps,portP p) (h4:ps.length≤4):linesP (ps.map newL):=⟨fun x hx=>by
  obtain⟨p,hp,rfl⟩:=List.mem_map.1 hx
  exact (newL_ok (h p hp)).1,by rw[List.length_map]; exact h4⟩
theorem linesP_set {l:List PortLine} (h:linesP l) {i:Nat} {x:PortLine} (hx:lineP x):linesP (l.set i x):=⟨fun y hy=>by
  rcases List.mem_or_eq_of_mem_set hy with h' | rfl
  · exact h.1 y h'
  · exact hx,by rw[List.length_set]; exact h.2⟩
theorem port_with_eq (l:List PortLine) (i:Nat) (x:PortLine) (h:linesP l) (hi:i<l.length):port_with l (i:Int) x=some (l.set i x):=by
  have h4:=h.2
  unfold port_with
  rw[ck_t (by simp; omega),List.nil_append,ck_t (by simp; omega),Int.toNat_natCast,ox_lt hi]
def sendV (l:List PortLine) (f i v:Int):List PortLine×Int:=
  if 0≤i∧i<(l.length:Int) then (match l[i.toNat]? with | some x=>if x.Port.From=f then (if x.Under.Many=(x.Under.Buf.length:Int) then (l,3) else (l.set i.toNat ⟨x.Port,pushV x.Under v,x.Got⟩,0)) else (l,7) | none=>(l,4)) else (l,4)
theorem port_Send_eq (l:List PortLine) (f i v:Int) (h:linesP l):port_Send l f i v=some (sendV l f i v):=by
  unfold port_Send sendV
  rw[bnd_eq (port_Right_t h),Bool.not_true,fk_f]
  by_cases c:0≤i∧i<(l.length:Int)
  rotate_left
  · refine jn_to true (fun k=>?_) (by rw[fk_t,if_neg c])
    by_cases c0:i<0
    · rw[decide_eq_true c0,fk_t]
    · rw[decide_eq_false c0,fk_f,decide_eq_true (by omega)]
  refine jn_to false (fun k=>by rw[decide_eq_false (by omega),fk_f,decide_eq_false (by omega)]) ?_
  have hi:i.toNat<l.length:=by omega
  obtain⟨h1,h2,h3,h4,h5⟩:=h.1 _ (List.getElem_mem hi)
  rw[fk_f,if_pos c,ix_int c.1 hi,ix_int c.1 hi,List.getElem?_eq_getElem hi]
  dsimp only
  by_cases cf:l[i.toNat].Port.From=f
  rotate_left
  · rw[decide_eq_false cf,Bool.not_false,fk_t,if_neg cf]
  rw[decide_eq_true cf,Bool.not_true,fk_f,if_pos cf,bnd_eq (ring_Push_eq _ v h2)]
  by_cases cm:l[i.toNat].Under.Many=(l[i.toNat].Under.Buf.length:Int)
  · rw[if_pos cm,if_pos cm]; rfl
  · rw[if_neg cm,if_neg cm]
    have:=port_with_eq l i.toNat ⟨l[i.toNat].Port,pushV l[i.toNat].Under v,l[i.toNat].Got⟩ h hi
    rw[show ((i.toNat:Nat):Int)=i by omega] at this
    dsimp only
    rw[decide_eq_true rfl,Bool.not_true,fk_f,bnd_eq this]
theorem sendV_ok {l:List PortLine} {f i v:Int} (h:linesP l):linesP (sendV l f i v).1∧(sendV l f i v).1.length=l.length:=by
  unfold sendV
  split
  · split
    · rename_i x hx
      obtain⟨h1,h2,h3,h4,h5⟩:=h.1 x (List.mem_of_getElem? hx)
      split
      · split
        · exact⟨h,rfl⟩
        · rename_i c
          obtain⟨p1,p2,p3⟩:=pushV_ok (v:=v) h2 c
          exact⟨linesP_set h ⟨h1,p1,h3,by rw[p2]; exact h4,h5⟩,List.length_set⟩
      · exact⟨h,rfl⟩
    · exact⟨h,rfl⟩
  · exact⟨h,rfl⟩
def readV (l:List PortLine) (f i:Int):Int×List PortLine×Int:=
  if 0≤i∧i<(l.length:Int) then (match l[i.toNat]? with | some x=>if x.Port.To=f then (if x.Got.Many=0 then (0,l,4) else (rAt x.Got 0,l.set i.toNat ⟨x.Port,x.Under,popV x.Got⟩,0)) else (0,l,7) | none=>(0,l,4)) else (0,l,4)
theorem port_Read_eq (l:List PortLine) (f i:Int) (h:linesP l):port_Read l f i=some (readV l f i):=by
  unfold port_Read readV
  rw[bnd_eq (port_Right_t h),Bool.not_true,fk_f]
  by_cases c:0≤i∧i<(l.length:Int)
  rotate_left
  · refine jn_to true (fun k=>?_) (by rw[fk_t,if_neg c])
    by_cases c0:i<0
    · rw[decide_eq_true c0,fk_t]
    · rw[decide_eq_false c0,fk_f,decide_eq_true (by omega)]
  refine jn_to false (fun k=>by rw[decide_eq_false (by omega),fk_f,decide_eq_false (by omega)]) ?_
  have hi:i.toNat<l.length:=by omega
  obtain⟨h1,h2,h3,h4,h5⟩:=h.1 _ (List.getElem_mem hi)
  rw[fk_f,if_pos c,ix_int c.1 hi,ix_int c.1 hi,List.getElem?_eq_getElem hi]
  dsimp only
  by_cases cf:l[i.toNat].Port.To=f
  rotate_left
  · rw[decide_eq_false cf,Bool.not_false,fk_t,if_neg cf]
  rw[decide_eq_true cf,Bool.not_true,fk_f,if_pos cf,bnd_eq (ring_Pop_eq _ h3)]
  by_cases cm:l[i.toNat].Got.Many=0
  · rw[if_pos cm,if_pos cm]; rfl
  · rw[if_neg cm,if_neg cm]
    have:=port_with_eq l i.toNat ⟨l[i.toNat].Port,l[i.toNat].Under,popV l[i.toNat].Got⟩ h hi
    rw[show ((i.toNat:Nat):Int)=i by omega] at this
    dsimp only
    rw[decide_eq_true rfl,Bool.not_true,fk_f,bnd_eq this]
theorem readV_ok {l:List PortLine} {f i:Int} (h:linesP l):linesP (readV l f i).2.1∧(readV l f i).2.1.length=l.length:=by
  unfold readV
  split
  · split
    · rename_i x hx
      obtain⟨h1,h2,h3,h4,h5⟩:=h.1 x (List.mem_of_getElem? hx)
      split
      · split
        · exact⟨h,rfl⟩
        · rename_i c
          obtain⟨p1,p2,_⟩:=popV_ok h3 c
          exact⟨linesP_set h ⟨h1,h2,p1,h4,by rw[p2]; exact h5⟩,List.length_set⟩
      · exact⟨h,rfl⟩
    · exact⟨h,rfl⟩
  · exact⟨h,rfl⟩
/-- What a line is when what is under way was delivered. -/
def gone (x y:PortLine):Prop:=y.Port=x.Port∧cont y.Under=[]∧(cont x.Got=[]→cont y.Got=cont x.Under)
theorem port_Deliver_ex (l:List PortLine) (h:linesP l):∃l',port_Deliver l=some l'∧linesP l'∧l'.length=l.length∧∀(i:Nat) (x y:PortLine),l[i]?=some x→l'[i]?=some y→gone x y:=by
  have key:∃l',port_Deliver l=some l'∧(linesP l'∧l'.length=l.length∧∀(i:Nat) (x y:PortLine),l[i]?=some x→l'[i]?=some y→gone x y):=by
    unfold port_Deliver
    rw[bnd_eq (port_Right_t h),Bool.not_true,fk_f]
    refine lp_upS_ex l.length (by unfold FU; have:=h.2; omega) (fun k s=>linesP s∧s.length=l.length∧(∀(i:Nat) (x y:PortLine),i<k→l[i]?=some x→s[i]?=some y→gone x y)) (fun l':List PortLine=>linesP l'∧l'.length=l.length∧∀(i:Nat) (x y:PortLine),l[i]?=some x→l'[i]?=some y→gone x y) l ⟨h,rfl,fun i x y hi=>by omega⟩ ?_
    rintro nx k s hk ⟨hs,hsl,hg⟩ hnx
    dsimp only
    rw[lt_nat]
    by_cases c:k<l.length
    rotate_left
    · rw[decide_eq_false c,fk_f]
      refine⟨s,rfl,hs,hsl,fun i x y hx=>hg i x y ?_ hx⟩
      have:=(List.getElem?_eq_some_iff.1 hx).1; omega
    rw[decide_eq_true c,fk_t,ix_lt c,wr_succ k _ c (by have:=h.2; omega)]
    obtain⟨h1,h2,h3,h4,h5⟩:=h.1 _ (List.getElem_mem c)
    have hx:l[k]?=some l[k]:=List.getElem?_eq_getElem c
    generalize l[k]=x at *
    have hM:=h2.2.2.2.2
    have hUl:=cont_len h2
    have hGl:=cont_len h3
    refine lp_ex (fun v=>x.Under.Many.toNat-v.2.2.2.2.2.2.toNat) (fun v=>∃(u g:RingRing) (j:Nat),v=(u.Buf,u.First,u.Many,g.Buf,g.First,g.Many,(j:Int))∧j≤x.Under.Many.toNat∧ringP u∧ringP g∧u.Buf.length=x.Under.Buf.length∧g.Buf.length=x.Got.Buf.length∧u.Many.toNat+j=x.Under.Many.toNat∧cont u=(cont x.Under).drop j∧(cont x.Got=[]→cont g=(cont x.Under).take j∧g.Many=(j:Int))) _ ?_ FU _ ⟨x.Under,x.Got,0,rfl,Nat.zero_le _,h2,h3,rfl,rfl,rfl,rfl,fun e=>⟨e,by have:=hGl.1; rw[e] at this; have:=h3.2.2.2.2; simp at *; omega⟩⟩ (by unfold FU; simp only; omega)
    rintro nx2 v ⟨u,g,j,rfl,hj,hu,hgr,hul,hgl,hum,huc,hgc⟩ hnx2
    dsimp only
    by_cases cj:j<x.Under.Many.toNat
    · have c0:u.Many≠0:=by have:=hu.2.2.2.2; omega
      obtain⟨p1,p2,p3,p4⟩:=popV_ok hu c0
      obtain⟨g',e1,e2,e3,e4⟩:=ring_Put_ex g (rAt u 0) hgr
      rw[decide_eq_true (by omega),fk_t]
      show ∃r,(bnd (ring_Pop u) _)=some r∧_
      rw[bnd_eq (ring_Pop_eq u hu),if_neg c0]
      show ∃r,(bnd (ring_Put g (rAt u 0)) _)=some r∧_
      rw[bnd_eq e1,wr_succ j _ cj (by omega)]
      have hcu:(cont x.Under).drop j=rAt u 0::cont (popV u):=by rw[←huc,p3]
      refine hnx2 _ ⟨popV u,g',j+1,rfl,cj,p1,e2,by rw[p2,hul],by rw[e3,hgl],by omega,?_,fun e=>?_⟩ (by simp only[Int.toNat_natCast]; omega)
      · rw[←List.drop_drop,List.drop_one,hcu]; rfl
      · obtain⟨a1,a2⟩:=hgc e
        have hne:g.Many≠(g.Buf.length:Int):=by rw[a2,hgl]; omega
        obtain⟨b1,b2⟩:=e4 hne
        refine⟨?_,by rw[b2,a2]; omega⟩
        rw[b1,a1]
        have hjl:j<(cont x.Under).length:=by omega
        rw[←List.take_append_getElem hjl]
        have:(cont x.Under)[j]=rAt u 0:=by
          have h':=List.drop_eq_getElem_cons hjl
          rw[hcu] at h'
          injection h' with h'' _
          exact h''.symm
        rw[this]
    · have ej:j=x.Under.Many.toNat:=by omega
      rw[decide_eq_false (by omega),fk_f,bnd_eq (port_with_eq s k _ hs (by omega))]
      refine hnx _ c ⟨linesP_set hs ⟨h1,hu,hgr,by show (u.Buf.length:Int)=_; rw[hul]; exact h4,by show (g.Buf.length:Int)=_; rw[hgl]; exact h5⟩,by rw[List.length_set]; exact hsl,fun i a y hi ha hy=>?_⟩
      by_cases ei:i=k
      · subst ei
        rw[hx] at ha
        cases ha
        rw[List.getElem?_set_self (by omega)] at hy
        cases hy
        refine⟨rfl,?_,fun e=>?_⟩
        · show cont u=[]
          rw[huc,List.drop_eq_nil_of_le (by omega)]
        · show cont g=_
          rw[(hgc e).1,List.take_of_length_le (by omega)]
      · rw[List.getElem?_set_ne (by omega)] at hy
        exact hg i a y (by omega) ha hy
  obtain⟨l',e,a,b,c⟩:=key
  exact⟨l',e,a,b,c⟩

/-! Tables. -/
def inW (w:Window) (x:Int):Prop:=w.From≤x∧x<w.From+w.Len
instance (w:Window) (x:Int):Decidable (inW w x):=by unfold inW; infer_instance
def whoV:List Window→Int→Int
  | [],_ => -1
  | w::r,x=>if inW w x then w.Part else whoV r x
def winP (F:Int) (w:Window):Prop:=0≤w.Part∧w.Part<4∧0≤w.From∧1≤w.Len∧w.From+w.Len≤F
structure tabP (t:TableTable):Prop where
  f1:1≤t.Frame
  f2:t.Frame≤240
  w:∀w∈t.Windows,winP t.Frame w
  p:t.Windows.Pairwise fun a b=>a.From+a.Len≤b.From
  c:∀(i:Nat) (a b:Window),t.Windows[i]?=some a→t.Windows[i+1]?=some b→¬(a.From+a.Len=b.From∧b.Part=a.Part)
  l:t.Windows.length≤240
theorem whoV_none {l:List Window} {x:Int} (h:∀a∈l,¬inW a x):whoV l x = -1:=by
  induction l with
  | nil=>rfl
  | cons a r ih=>
    unfold whoV
    rw[if_neg (h a List.mem_cons_self)]
    exact ih fun b hb=>h b (List.mem_cons_of_mem _ hb)
theorem whoV_snoc {l:List Window} {w:Window} {x:Int} (h:∀a∈l,a.From+a.Len≤w.From):whoV (l++[w]) x=if inW w x then w.Part else whoV l x:=by
  induction l with
  | nil=>rfl
  | cons a r ih=>
    have ih:=ih fun b hb=>h b (List.mem_cons_of_mem _ hb)
    have ha:=h a List.mem_cons_self
    show (if inW a x then a.Part else whoV (r++[w]) x)=if inW w x then w.Part else (if inW a x then a.Part else whoV r x)
    rw[ih]
    by_cases c:inW a x
    · have:¬inW w x:=fun hw=>by unfold inW at *; omega
      rw[if_pos c,if_neg this,if_pos c]
    · rw[if_neg c,if_neg c]
theorem table_may_eq (w:Window) (F:Int) (hF:0≤F) (hF2:F≤240) (h:winP F w):table_may w F=some true:=by
  unfold winP at h
  unfold table_may
  rw[decide_eq_true (by omega),fk_t,decide_eq_true (by omega),fk_t,decide_eq_true (by omega),fk_t,decide_eq_true (by omega),fk_t,decide_eq_true (by omega),fk_t,wr_in _ (by omega),decide_eq_true (by omega)]
theorem table_Right_t {t:TableTable} (h:tabP t):table_Right t=some true:=by
  have hl:=h.l
  have f1:=h.f1
  have f2:=h.f2
  unfold table_Right
  refine lp_inv (fun v=>t.Windows.length-v.2.2.toNat) (fun v=>∃k:Nat,v.2.2=(k:Int)∧k≤t.Windows.length∧((k=0∧v.1=0∧v.2.1 = -1)∨∃j a,k=j+1∧t.Windows[j]?=some a∧v.1=a.From+a.Len∧v.2.1=a.Part)) ?_ FU _ ⟨0,rfl,Nat.zero_le _,.inl ⟨rfl,rfl,rfl⟩⟩ (by unfold FU; simp only; omega)
  rintro nx ⟨e,last,kk⟩ ⟨k,hkk,hk,hJ⟩ hnx
  simp only at hkk hJ
  subst hkk
  dsimp only
  rw[lt_nat]
  by_cases c:k<t.Windows.length
  rotate_left
  · rw[decide_eq_false c,fk_f,decide_eq_true (by omega),fk_t,decide_eq_true (by omega)]
  have hw:=h.w _ (List.getElem_mem c)
  have hwk:t.Windows[k]?=some t.Windows[k]:=List.getElem?_eq_getElem c
  rw[decide_eq_true c,fk_t,ix_lt c,wr_succ k _ c (by omega)]
  have hw':=hw
  unfold winP at hw'
  refine jn_to false (fun k3=>?_) ?_
  · rw[bnd_eq (table_may_eq _ _ (by omega) f2 hw),Bool.not_true,fk_f]
    rcases hJ with ⟨_,rfl,rfl⟩ | ⟨j,a,rfl,ha,rfl,rfl⟩
    · rw[decide_eq_false (by omega),fk_f]
      by_cases c0:t.Windows[k].From=0
      · rw[decide_eq_true c0,fk_t,decide_eq_false (by omega)]
      · rw[decide_eq_false c0,fk_f]
    · have hp:a.From+a.Len≤t.Windows[j+1].From:=by
        have hj:j<t.Windows.length:=(List.getElem?_eq_some_iff.1 ha).1
        have:=List.pairwise_iff_getElem.1 h.p j (j+1) hj c (by omega)
        rw[List.getElem?_eq_getElem hj] at ha
        cases ha
        exact this
      have hc:=h.c j a _ ha hwk
      rw[decide_eq_false (by omega),fk_f]
      by_cases c0:t.Windows[j+1].From=a.From+a.Len
      · rw[decide_eq_true c0,fk_t,decide_eq_false (fun hh=>hc ⟨c0.symm,hh⟩)]
      · rw[decide_eq_false c0,fk_f]
  · rw[fk_f,wr_in _ (by omega)]
    exact hnx _ ⟨k+1,rfl,c,.inr ⟨k,_,rfl,hwk,rfl,rfl⟩⟩ (by simp only[Int.toNat_natCast]; omega)
theorem whoV_drop {l:List Window} {x:Int} {k:Nat} (h:k<l.length):whoV (l.drop k) x=if inW l[k] x then l[k].Part else whoV (l.drop (k+1)) x:=by
  rw[List.drop_eq_getElem_cons h]; rfl
theorem table_At_eq {t:TableTable} (h:tabP t) {x:Int} (h0:0≤x):table_At t x=some (whoV t.Windows (x.tmod t.Frame)):=by
  have hl:=h.l
  have f1:=h.f1
  unfold table_At
  refine jn_to false (fun k=>by rw[bnd_eq (table_Right_t h),Bool.not_true,fk_f,decide_eq_false (by omega)]) ?_
  rw[fk_f,ck_t (decide_eq_true (by omega))]
  generalize x.tmod t.Frame=y
  refine lp_up t.Windows.length (by unfold FU; omega) (fun k=>whoV t.Windows y=whoV (t.Windows.drop k) y) rfl ?_
  intro nx k hk J hnx
  rw[lt_nat]
  by_cases c:k<t.Windows.length
  rotate_left
  · rw[decide_eq_false c,fk_f,J,List.drop_eq_nil_of_le (by omega)]; rfl
  rw[whoV_drop c] at J
  have hw:=h.w _ (List.getElem_mem c)
  unfold winP at hw
  have f2:=h.f2
  rw[decide_eq_true c,fk_t,ix_lt c,wr_succ k _ c (by omega),wr_in (t.Windows[k].From+t.Windows[k].Len) (by omega)]
  by_cases ci:inW t.Windows[k] y
  · rw[if_pos ci] at J
    unfold inW at ci
    refine jn_to true (fun k5=>by rw[decide_eq_true ci.1,fk_t,decide_eq_true ci.2]) ?_
    rw[fk_t,J]
  · rw[if_neg ci] at J
    refine jn_to false (fun k5=>?_) (by rw[fk_f]; exact hnx c J)
    unfold inW at ci
    by_cases c1:t.Windows[k].From≤y
    · rw[decide_eq_true c1,fk_t,decide_eq_false (fun hh=>ci ⟨c1,hh⟩)]
    · rw[decide_eq_false c1,fk_f]
/-- The table of ticks. -/
structure ofI (n:Int) (ts:List Int) (k:Nat) (last:Int) (W:List Window):Prop where
  w:∀w∈W,winP n w∧w.From+w.Len≤(k:Int)
  p:W.Pairwise fun a b=>a.From+a.Len≤b.From
  c:∀(i:Nat) (a b:Window),W[i]?=some a→W[i+1]?=some b→¬(a.From+a.Len=b.From∧b.Part=a.Part)
  l:W.length≤k
  v:∀x:Nat,x<k→∀y,ts[x]?=some y→whoV W (x:Int)=y
  e1:last ≠ -1→∃W0 w,W=W0++[w]∧w.Part=last∧w.From+w.Len=(k:Int)
  e2:∀W0 w,W=W0++[w]→w.From+w.Len=(k:Int)→w.Part=last
theorem table_Of_ex (ts:List Int) (h1:1≤ts.length) (h2:ts.length≤240) (h3:∀x∈ts,-1≤x∧x<4):∃t,table_Of ts=some (t,0)∧tabP t∧t.Frame=(ts.length:Int)∧∀x:Nat,∀y,ts[x]?=some y→whoV t.Windows (x:Int)=y:=by
  have key:∃r:TableTable×Int,table_Of ts=some r∧(r.2=0∧tabP r.1∧r.1.Frame=(ts.length:Int)∧∀x:Nat,∀y,ts[x]?=some y→whoV r.1.Windows (x:Int)=y):=by
    unfold table_Of
    rw[jn_eq,decide_eq_false (by omega),fk_f,decide_eq_false (by omega)]
    dsimp only
    rw[fk_f]
    refine lp_ex (fun v=>ts.length-v.2.2.toNat) (fun v=>∃(k:Nat) (last:Int) (W:List Window),v=(last,W,(k:Int))∧k≤ts.length∧ofI (ts.length:Int) ts k last W) (fun r:TableTable×Int=>r.2=0∧tabP r.1∧r.1.Frame=(ts.length:Int)∧∀x:Nat,∀y,ts[x]?=some y→whoV r.1.Windows (x:Int)=y) ?_ FU _ ⟨0,-1,[],rfl,Nat.zero_le _,⟨fun w h=>(List.not_mem_nil h).elim,List.Pairwise.nil,fun i a b h=>by simp at h,Nat.le_refl _,fun x h=>by omega,fun h=>absurd rfl h,fun W0 w h=>by simp at h⟩⟩ (by unfold FU; simp only; omega)
    rintro nx v ⟨k,last,W,rfl,hk,J⟩ hnx
    dsimp only
    rw[lt_nat]
    by_cases c:k<ts.length
    rotate_left
    · have e:k=ts.length:=by omega
      subst e
      rw[decide_eq_false c,fk_f]
      refine⟨_,rfl,rfl,⟨by show (1:Int)≤(ts.length:Int); omega,by show (ts.length:Int)≤240; omega,fun w hw=>(J.w w hw).1,J.p,J.c,by show W.length≤240; have:=J.l; omega⟩,rfl,fun x y hx=>J.v x (List.getElem?_eq_some_iff.1 hx).1 y hx⟩
    have hb:=h3 _ (List.getElem_mem c)
    have hty:ts[k]?=some ts[k]:=List.getElem?_eq_getElem c
    rw[decide_eq_true c,fk_t,ix_lt c,wr_succ k _ c (by omega)]
    generalize ts[k]=y at *
    rw[jn_eq,decide_eq_false (show ¬y < -1 by omega),fk_f,decide_eq_false (show ¬y≥4 by omega)]
    dsimp only
    rw[fk_f]
    have go:∀W',ofI (ts.length:Int) ts (k+1) y W'→∃r,nx (y,W',((k+1:Nat):Int))=some r∧(r.2=0∧tabP r.1∧r.1.Frame=(ts.length:Int)∧∀x:Nat,∀y,ts[x]?=some y→whoV r.1.Windows (x:Int)=y):=fun W' h'=>hnx _ ⟨k+1,y,W',rfl,c,h'⟩ (by simp only[Int.toNat_natCast]; omega)
    rw[jn_eq,jn_eq]
    by_cases c1:y=last∧y ≠ -1
    · obtain⟨rfl,cy⟩:=c1
      obtain⟨W0,w,rfl,hwp,hwe⟩:=J.e1 cy
      have hlen:(W0++[w]).length=W0.length+1:=by simp
      have hlt:W0.length<(W0++[w]).length:=by omega
      have hget:(W0++[w])[W0.length]=w:=by simp
      have hl240:=J.l
      rw[decide_eq_true rfl,fk_t,decide_eq_false cy]
      dsimp only
      rw[Bool.not_false,fk_t,hlen]
      have ei:wr (((W0.length+1:Nat):Int)-1)=(W0.length:Int):=by rw[wr_in _ (by omega)]; omega
      have hJw:=J.w w (by simp)
      have hwin:=hJw.1
      unfold winP at hwin
      rw[ei,Int.toNat_natCast,ck_t (by simp; omega),ox_lt hlt,ck_t (by simp; omega),ox_lt hlt,hget,wr_in (w.Len+1) (by omega)]
      have hset:(W0++[w]).set W0.length ⟨w.Part,w.From,w.Len+1⟩=W0++[⟨w.Part,w.From,w.Len+1⟩]:=by simp
      rw[hset]
      have hp:=List.pairwise_append.1 J.p
      have hbefore:∀a∈W0,a.From+a.Len≤w.From:=fun a ha=>hp.2.2 a ha w (by simp)
      refine go _ ⟨fun a ha=>?_,?_,fun i a b hA hB=>?_,by rw[List.length_append,List.length_singleton]; omega,fun x hx z hz=>?_,fun _=>⟨W0,_,rfl,hwp,by show w.From+(w.Len+1)=_; omega⟩,fun W1 w1 he hee=>?_⟩
      · rcases List.mem_append.1 ha with h | h
        · have:=J.w a (List.mem_append_left _ h); exact⟨this.1,by omega⟩
        · rw[List.mem_singleton.1 h]
          refine⟨⟨hwin.1,hwin.2.1,hwin.2.2.1,by show 1≤w.Len+1; omega,by show w.From+(w.Len+1)≤_; omega⟩,by show w.From+(w.Len+1)≤_; omega⟩
      · exact List.pairwise_append.2 ⟨hp.1,List.pairwise_singleton _ _,fun a ha b hb=>by rw[List.mem_singleton.1 hb]; exact hbefore a ha⟩
      · by_cases ci:i+1<W0.length
        · rw[List.getElem?_append_left ci] at hB
          rw[List.getElem?_append_left (by omega)] at hA
          exact J.c i a b (by rw[List.getElem?_append_left (by omega)]; exact hA) (by rw[List.getElem?_append_left ci]; exact hB)
        · have hlb:=(List.getElem?_eq_some_iff.1 hB).1
          rw[List.length_append,List.length_singleton] at hlb
          have ei:i+1=W0.length:=by omega
          rw[ei,List.getElem?_append_right (Nat.le_refl _),Nat.sub_self] at hB
          simp only[List.getElem?_cons_zero,Option.some.injEq] at hB
          subst hB
          rw[List.getElem?_append_left (by omega)] at hA
          exact J.c i a w (by rw[List.getElem?_append_left (by omega)]; exact hA) (by rw[ei,List.getElem?_append_right (Nat.le_refl _),Nat.sub_self]; rfl)
      · rw[whoV_snoc (w:=(⟨w.Part,w.From,w.Len+1⟩:Window)) hbefore]
        by_cases cx:x<k
        · have:=J.v x cx z hz
          rw[whoV_snoc hbefore] at this
          by_cases ci:inW w (x:Int)
          · rw[if_pos ci] at this
            rw[if_pos (by unfold inW at *; simp only; omega)]; exact this
          · rw[if_neg ci] at this
            rw[if_neg (by unfold inW at *; simp only; omega)]; exact this
        · have ex:x=k:=by omega
          subst ex
          rw[hty] at hz
          cases hz
          rw[if_pos (by unfold inW; simp only; omega)]; exact hwp
      · have:=List.append_inj' he rfl
        have e2:w1=⟨w.Part,w.From,w.Len+1⟩:=by have:=this.2; simp at this; exact this.symm
        rw[e2]; exact hwp
    have tail:∀W',(y = -1→W'=W)→(y ≠ -1→W'=W++[⟨y,(k:Int),1⟩])→ofI (ts.length:Int) ts (k+1) y W':=by
      intro W' hn hy
      by_cases cy:y = -1
      · rw[hn cy]
        refine⟨fun a ha=>⟨(J.w a ha).1,by have:=(J.w a ha).2; omega⟩,J.p,J.c,by have:=J.l; omega,fun x hx z hz=>?_,fun h=>absurd cy h,fun W0 w he hee=>?_⟩
        · by_cases cx:x<k
          · exact J.v x cx z hz
          · have ex:x=k:=by omega
            subst ex
            rw[hty] at hz
            cases hz
            rw[whoV_none fun a ha hi=>?_,cy]
            have:=(J.w a ha).2
            unfold inW at hi
            omega
        · have:=(J.w w (by rw[he]; simp)).2
          omega
      · rw[hy cy]
        have hbefore:∀a∈W,a.From+a.Len≤(⟨y,(k:Int),1⟩:Window).From:=fun a ha=>(J.w a ha).2
        refine⟨fun a ha=>?_,List.pairwise_append.2 ⟨J.p,List.pairwise_singleton _ _,fun a ha b hb=>by rw[List.mem_singleton.1 hb]; exact hbefore a ha⟩,fun i a b hA hB=>?_,by rw[List.length_append,List.length_singleton]; have:=J.l; omega,fun x hx z hz=>?_,fun _=>⟨W,_,rfl,rfl,by show (k:Int)+1=_; omega⟩,fun W1 w1 he hee=>?_⟩
        · rcases List.mem_append.1 ha with h | h
          · exact⟨(J.w a h).1,by have:=(J.w a h).2; omega⟩
          · rw[List.mem_singleton.1 h]
            refine⟨⟨by show 0≤y; omega,by show y<4; omega,by show (0:Int)≤(k:Int); omega,Int.le_refl _,by show (k:Int)+1≤_; omega⟩,by show (k:Int)+1≤_; omega⟩
        · by_cases ci:i+1<W.length
          · rw[List.getElem?_append_left ci] at hB
            rw[List.getElem?_append_left (by omega)] at hA
            exact J.c i a b hA hB
          · have hlb:=(List.getElem?_eq_some_iff.1 hB).1
            rw[List.length_append,List.length_singleton] at hlb
            have ei:i+1=W.length:=by omega
            rw[ei,List.getElem?_append_right (Nat.le_refl _),Nat.sub_self] at hB
            simp only[List.getElem?_cons_zero,Option.some.injEq] at hB
            subst hB
            rw[List.getElem?_append_left (by omega)] at hA
            rintro⟨g1,g2⟩
            simp only at g1 g2
            have hil:i<W.length:=by omega
            have hW:W=W.take i++[a]:=by
              have h1:=List.take_append_getElem hil
              have h2:W.take (i+1)=W:=List.take_of_length_le (by omega)
              rw[h2] at h1
              rw[List.getElem?_eq_getElem hil] at hA
              cases hA
              exact h1.symm
            have:=J.e2 _ a hW g1
            exact c1 ⟨by omega,cy⟩
        · rw[whoV_snoc hbefore]
          by_cases cx:x<k
          · rw[if_neg (fun hi=>by have:=hi.1; simp only at this; omega)]; exact J.v x cx z hz
          · have ex:x=k:=by omega
            subst ex
            rw[hty] at hz
            cases hz
            rw[if_pos (by unfold inW; simp only; omega)]
        · have:=List.append_inj' he rfl
          have e2:w1=⟨y,(k:Int),1⟩:=by have:=this.2; simp at this; exact this.symm
          rw[e2]
    have rest:∃r,(fk (!decide (y=(-1:Int))) (ck (decide ((W.length+([⟨y,(k:Int),(1:Int)⟩]:List Window).length)*24≤140737488355328)) (nx (y,W++([⟨y,(k:Int),(1:Int)⟩]:List Window),((k+1:Nat):Int)))) (nx (y,W,((k+1:Nat):Int))))=some r∧(r.2=0∧tabP r.1∧r.1.Frame=(ts.length:Int)∧∀x:Nat,∀y,ts[x]?=some y→whoV r.1.Windows (x:Int)=y):=by
      have:=J.l
      by_cases cy:y = -1
      · rw[decide_eq_true cy,Bool.not_true,fk_f]
        exact go W (tail W (fun _=>rfl) (fun h=>absurd cy h))
      · rw[decide_eq_false cy,Bool.not_false,fk_t,ck_t (by simp; omega)]
        exact go _ (tail _ (fun h=>absurd h cy) (fun _=>rfl))
    by_cases c2:y=last
    · have cy:y = -1:=Classical.byContradiction fun h=>c1 ⟨c2,h⟩
      rw[decide_eq_true c2,fk_t,decide_eq_true cy]
      rw[decide_eq_true cy] at rest
      exact rest
    · rw[decide_eq_false c2,fk_f]
      exact rest
  obtain⟨r,e,a,b,c,d⟩:=key
  refine⟨r.1,?_,b,c,d⟩
  rw[e]
  obtain⟨x,y⟩:=r
  simp only at a
  rw[a]

/-! The frame. -/
def facesP (l:List Face):Prop:=(∀f∈l,faceP f)∧l.length≤4
def lcmF (c:Nat) (l:List Face):Nat:=l.foldl (fun c f=>Nat.lcm c f.P.toNat) c
theorem lcmF_succ (c:Nat) (l:List Face) (k:Nat) (h:k<l.length):lcmF c (l.take (k+1))=Nat.lcm (lcmF c (l.take k)) l[k].P.toNat:=by
  unfold lcmF
  rw[←List.take_append_getElem h,List.foldl_append]; rfl
theorem lcmF_dvd:∀(l:List Face) (c n:Nat),lcmF c l∣n↔c∣n∧∀f∈l,f.P.toNat∣n
  | [],c,n=>by simp[lcmF]
  | f::r,c,n=>by
    show lcmF (Nat.lcm c f.P.toNat) r∣n↔_
    rw[lcmF_dvd r,Nat.lcm_dvd_iff]
    simp only[List.mem_cons,forall_eq_or_imp,and_assoc]
theorem lcmF_pos:∀(l:List Face) (c:Nat),0<c→(∀f∈l,1≤f.P)→0<lcmF c l
  | [],c,h,_=>h
  | f::r,c,h,hl=>lcmF_pos r _ (Nat.lcm_pos h (by have:=hl f List.mem_cons_self; omega)) fun g hg=>hl g (List.mem_cons_of_mem _ hg)
noncomputable instance (l:List Face):Decidable (facesP l):=Classical.propDecidable _
noncomputable def frameV (l:List Face):Int×Int:=if facesP l then (if lcmF 1 l≤240 then ((lcmF 1 l:Nat),0) else (0,5)) else (0,1)
theorem faceP.P {f:Face} (h:faceP f):1≤f.P∧f.P≤200∧1≤f.B∧f.B≤200:=by unfold faceP at h; omega
theorem synth_Frame_eq (l:List Face):synth_Frame l=some (frameV l):=by
  unfold synth_Frame frameV
  by_cases h4:l.length≤4
  rotate_left
  · rw[decide_eq_true (by omega),fk_t,if_neg (fun h=>h4 h.2)]
  rw[decide_eq_false (by omega),fk_f]
  refine lp_up l.length (by unfold FU; omega) (fun k=>∀f∈l.take k,faceP f) (fun f h=>by simp at h) ?_
  intro nx k hk J hnx
  rw[lt_nat]
  by_cases c:k<l.length
  · rw[decide_eq_true c,fk_t,ix_lt c,bnd_eq (supply_Right_eq _),wr_succ k _ c (by omega)]
    by_cases hf:faceP l[k]
    · rw[decide_eq_true hf,Bool.not_true,fk_f]
      refine hnx c fun f h=>?_
      rw[←List.take_append_getElem c] at h
      rcases List.mem_append.1 h with h | h
      · exact J f h
      · rw[List.mem_singleton.1 h]; exact hf
    · rw[decide_eq_false hf,Bool.not_false,fk_t,if_neg (fun h=>hf (h.1 _ (List.getElem_mem c)))]
  rw[List.take_of_length_le (by omega)] at J
  have hfp:facesP l:=⟨J,h4⟩
  have hpos:∀f∈l,1≤f.P:=fun f hf=>(J f hf).P.1
  rw[decide_eq_false c,fk_f,if_pos hfp]
  clear hnx nx hk c k
  refine lp_upS l.length (by unfold FU; omega) (fun k s=>s=((lcmF 1 (l.take k):Nat):Int)∧lcmF 1 (l.take k)≤240) 1 ⟨rfl,by show (1:Nat)≤240; omega⟩ ?_
  rintro nx k s hk ⟨rfl,hb⟩ hnx
  dsimp only
  rw[lt_nat]
  by_cases c:k<l.length
  rotate_left
  · rw[List.take_of_length_le (by omega)] at hb ⊢
    rw[decide_eq_false c,fk_f,if_pos hb]
  have hp:=(J _ (List.getElem_mem c)).P
  have hpk:0<lcmF 1 (l.take k):=lcmF_pos _ _ (by omega) fun f hf=>hpos f (List.mem_of_mem_take hf)
  have eL:=arith_Lcm_eq (lcmF 1 (l.take k)) l[k].P.toNat hpk (by omega) (by omega) (by omega)
  rw[show ((l[k].P.toNat:Nat):Int)=l[k].P by omega] at eL
  rw[decide_eq_true c,fk_t,ix_lt c,bnd_eq eL,wr_succ k _ c (by omega),←lcmF_succ 1 l k c]
  have hdv:lcmF 1 (l.take (k+1))∣lcmF 1 l:=(lcmF_dvd _ _ _).2 ⟨Nat.one_dvd _,fun f hf=>((lcmF_dvd l 1 _).1 (Nat.dvd_refl _)).2 f (List.mem_of_mem_take hf)⟩
  have hle:=Nat.le_of_dvd (lcmF_pos l 1 (by omega) hpos) hdv
  by_cases cb:lcmF 1 (l.take (k+1))≤240
  · refine jn_to false (fun k7=>by rw[decide_eq_true rfl,Bool.not_true,fk_f,decide_eq_false (by dsimp only; omega)]) (by rw[fk_f]; exact hnx _ c ⟨rfl,cb⟩)
  · refine jn_to true (fun k7=>by rw[decide_eq_true rfl,Bool.not_true,fk_f,decide_eq_true (by dsimp only; omega)]) (by rw[fk_t,if_neg (by omega)])
def allD (l:List Face) (n:Nat):Prop:=∀f∈l,f.P.toNat∣n
instance (l:List Face) (n:Nat):Decidable (allD l n):=by unfold allD; infer_instance
/-! The ticks. -/
def wv (w:List Int) (i:Nat):Int:=(w[i]?).getD 0
def begun (l:List Face) (w:List Int) (t:Nat):List Int:=(List.range l.length).map fun i=>match l[i]? with | some f=>if f.P.toNat∣t then f.B else wv w i | none=>0
def denyP (l:List Face) (w:List Int) (t:Nat):Prop:=∃(i:Nat) (f:Face),l[i]?=some f∧f.P.toNat∣t∧0<wv w i
def byV (f:Face) (t:Nat):Nat:=(t/f.P.toNat+1)*f.P.toNat
def isNext (l:List Face) (w:List Int) (t k:Nat) (r:Int):Prop:=
  (r = -1∧∀i,i<k→wv w i≤0)∨∃(i:Nat) (f:Face),i<k∧r=(i:Int)∧l[i]?=some f∧0<wv w i∧∀(j:Nat) (g:Face),j<k→l[j]?=some g→0<wv w j→byV f t<byV g t∨(byV f t=byV g t∧i≤j)
def dec (w:List Int) (r:Int):List Int:=if r = -1 then w else w.set r.toNat (wv w r.toNat-1)
inductive LayR (l:List Face):Nat→List Int→List Int→Prop
  | zero:LayR l 0 [] (List.replicate l.length 0)
  | step {t:Nat} {out w:List Int} {r:Int} (h:LayR l t out w) (hd:¬denyP l w t) (hn:isNext l (begun l w t) t l.length r):LayR l (t+1) (out++[r]) (dec (begun l w t) r)
def resP (l:List Face) (F:Nat) (r:List Int×Int):Prop:=
  (∃o w,LayR l F o w∧¬denyP l w F∧r=(o,0))∨(∃t,t≤F∧∃o w,LayR l t o w∧denyP l w t∧r=([],7))
theorem begun_len (l:List Face) (w:List Int) (t:Nat):(begun l w t).length=l.length:=by unfold begun; simp
theorem begun_at {l:List Face} {w:List Int} {t i:Nat} {f:Face} (h:l[i]?=some f):wv (begun l w t) i=if f.P.toNat∣t then f.B else wv w i:=by
  have hi:=(List.getElem?_eq_some_iff.1 h).1
  unfold begun
  unfold wv
  rw[List.getElem?_map,List.getElem?_range hi]
  simp only[Option.map_some,h,Option.getD_some]
/-- What is kept: sizes. -/
theorem LayR.ok {l:List Face} (hl:facesP l) {t:Nat} {o w:List Int} (h:LayR l t o w):o.length=t∧w.length=l.length∧(∀i,0≤wv w i∧wv w i≤200)∧∀x∈o,-1≤x∧x<(l.length:Int):=by
  induction h with
  | zero=>
    refine⟨rfl,by simp,fun i=>?_,fun x h=>(List.not_mem_nil h).elim⟩
    unfold wv
    rw[List.getElem?_replicate]
    split <;> simp
  | step h hd hn ih=>
    rename_i t out w r
    obtain⟨a,b,c,d⟩:=ih
    have hb:∀i,0≤wv (begun l w t) i∧wv (begun l w t) i≤200:=fun i=>by
      cases hf:l[i]? with
      | some f=>
        rw[begun_at hf]
        have:=(hl.1 f (List.mem_of_getElem? hf)).P
        split
        · omega
        · exact c i
      | none=>
        have:(begun l w t)[i]?=none:=List.getElem?_eq_none (by rw[begun_len]; exact List.getElem?_eq_none_iff.1 hf)
        unfold wv; rw[this]; simp
    refine⟨by simp[a],?_,fun i=>?_,fun x hx=>?_⟩
    · unfold dec; split
      · exact begun_len _ _ _
      · rw[List.length_set]; exact begun_len _ _ _
    · rcases hn with ⟨rfl,_⟩ | ⟨j,f,hj,rfl,hf,hw,_⟩
      · unfold dec; rw[if_pos rfl]; exact hb i
      · unfold dec
        rw[if_neg (by omega),Int.toNat_natCast]
        by_cases e:j=i
        · subst e
          have:wv ((begun l w t).set j (wv (begun l w t) j-1)) j=wv (begun l w t) j-1:=by
            unfold wv
            rw[List.getElem?_set_self (by rw[begun_len]; exact hj)]; rfl
          rw[this]
          have:=hb j; omega
        · have:wv ((begun l w t).set j (wv (begun l w t) j-1)) i=wv (begun l w t) i:=by
            unfold wv
            rw[List.getElem?_set_ne e]
          rw[this]; exact hb i
    · rcases List.mem_append.1 hx with h' | h'
      · exact d x h'
      · rw[List.mem_singleton.1 h']
        rcases hn with ⟨rfl,_⟩ | ⟨j,f,hj,rfl,_⟩ <;> omega

theorem tmod_dvd {f:Face} (h:1≤f.P) (t:Nat):decide ((t:Int).tmod f.P=0)=decide (f.P.toNat∣t):=by
  rw[decide_eq_decide,Int.tmod_eq_emod_of_nonneg (by omega),show f.P=((f.P.toNat:Nat):Int) by omega,Int.toNat_natCast]
  constructor
  · intro h; exact Int.natCast_dvd_natCast.1 (Int.dvd_of_emod_eq_zero h)
  · intro h; exact Int.emod_eq_zero_of_dvd (Int.natCast_dvd_natCast.2 h)
theorem byV_b {f:Face} (hf:faceP f) (t:Nat):byV f t=t-t%f.P.toNat+f.P.toNat∧t%f.P.toNat≤t∧byV f t≤t+200:=by
  have hp:=hf.P
  have h1:=Nat.div_add_mod t f.P.toNat
  have h2:=Nat.mod_le t f.P.toNat
  have e:byV f t=f.P.toNat*(t/f.P.toNat)+f.P.toNat:=by unfold byV; rw[Nat.add_mul,Nat.one_mul,Nat.mul_comm]
  refine⟨?_,h2,?_⟩ <;> omega
theorem by_eq {f:Face} (hf:faceP f) (t:Nat) (ht:t≤1000):wr (wr ((t:Int)-(t:Int).tmod f.P)+f.P)=((byV f t:Nat):Int):=by
  have hp:=hf.P
  obtain⟨h1,h2,h3⟩:=byV_b hf t
  have e:(t:Int).tmod f.P=((t%f.P.toNat:Nat):Int):=by
    rw[Int.tmod_eq_emod_of_nonneg (by omega)]
    conv=>lhs; rw[show f.P=((f.P.toNat:Nat):Int) by omega]
    rfl
  rw[e,wr_in ((t:Int)-((t%f.P.toNat:Nat):Int)) (by omega),wr_in _ (by omega)]
  omega
theorem eq_of_wv {u v:List Int} (hl:u.length=v.length) (h:∀i,wv u i=wv v i):u=v:=by
  refine List.ext_getElem hl fun i h1 h2=>?_
  have:=h i
  unfold wv at this
  rw[List.getElem?_eq_getElem h1,List.getElem?_eq_getElem h2] at this
  exact this
theorem wv_lt {w:List Int} {i:Nat} (h:i<w.length):w[i]=wv w i:=by unfold wv; rw[List.getElem?_eq_getElem h]; rfl
theorem wv_set {w:List Int} {i:Nat} {x:Int} (h:i<w.length) (j:Nat):wv (w.set i x) j=if j=i then x else wv w j:=by
  unfold wv
  by_cases e:j=i
  · subst e; rw[if_pos rfl,List.getElem?_set_self h]; rfl
  · rw[if_neg e,List.getElem?_set_ne (fun c=>e c.symm)]
/-- What a round of 'begin' comes to, so far. -/
structure begI (l:List Face) (w:List Int) (t k:Nat) (u:List Int):Prop where
  len:u.length=l.length
  v:∀i,wv u i=if i<k then wv (begun l w t) i else wv w i
  d:∀(i:Nat) (f:Face),i<k→l[i]?=some f→¬(f.P.toNat∣t∧0<wv w i)
theorem begI.zero {l:List Face} {w:List Int} {t:Nat} (h:w.length=l.length):begI l w t 0 w:=⟨h,fun i=>by rw[if_neg (by omega)],fun i f h=>by omega⟩
theorem begI.keep {l:List Face} {w:List Int} {t k:Nat} {u:List Int} (h:begI l w t k u) (hk:k<l.length) (hn:¬l[k].P.toNat∣t):begI l w t (k+1) u:=by
  have hf:l[k]?=some l[k]:=List.getElem?_eq_getElem hk
  refine⟨h.len,fun i=>?_,fun i f hi hfi=>?_⟩
  · rw[h.v i]
    by_cases e:i=k
    · subst e
      rw[if_neg (by omega),if_pos (by omega),begun_at hf,if_neg hn]
    · by_cases c:i<k
      · rw[if_pos c,if_pos (by omega)]
      · rw[if_neg c,if_neg (by omega)]
  · by_cases e:i=k
    · subst e; rw[hf] at hfi; cases hfi; exact fun hh=>hn hh.1
    · exact h.d i f (by omega) hfi
theorem begI.set {l:List Face} {w:List Int} {t k:Nat} {u:List Int} (h:begI l w t k u) (hk:k<l.length) (hn:l[k].P.toNat∣t) (hw:¬0<wv w k):begI l w t (k+1) (u.set k l[k].B):=by
  have hf:l[k]?=some l[k]:=List.getElem?_eq_getElem hk
  have hku:k<u.length:=by rw[h.len]; exact hk
  refine⟨by rw[List.length_set]; exact h.len,fun i=>?_,fun i f hi hfi=>?_⟩
  · rw[wv_set hku]
    by_cases e:i=k
    · subst e
      rw[if_pos rfl,if_pos (by omega),begun_at hf,if_pos hn]
    · rw[if_neg e,h.v i]
      by_cases c:i<k
      · rw[if_pos c,if_pos (by omega)]
      · rw[if_neg c,if_neg (by omega)]
  · by_cases e:i=k
    · subst e; exact fun hh=>hw hh.2
    · exact h.d i f (by omega) hfi
theorem begI.at {l:List Face} {w:List Int} {t k:Nat} {u:List Int} (h:begI l w t k u):wv u k=wv w k:=by rw[h.v k,if_neg (by omega)]
theorem begI.end {l:List Face} {w:List Int} {t:Nat} {u:List Int} (h:begI l w t l.length u):u=begun l w t∧¬denyP l w t:=by
  refine⟨eq_of_wv (by rw[h.len,begun_len]) fun i=>?_,?_⟩
  · rw[h.v i]
    by_cases c:i<l.length
    · rw[if_pos c]
    · rw[if_neg c]
      have hb:(begun l w t)[i]?=none:=List.getElem?_eq_none (by rw[begun_len]; omega)
      have hu:=h.v i
      rw[if_neg c] at hu
      have hu2:u[i]?=none:=List.getElem?_eq_none (by rw[h.len]; omega)
      rw[←hu]
      unfold wv
      rw[hb,hu2]
  · rintro⟨i,f,hf,a,b⟩
    exact h.d i f (List.getElem?_eq_some_iff.1 hf).1 hf ⟨a,b⟩
/-- Who is next, so far: with its time. -/
structure nxI (l:List Face) (u:List Int) (t k:Nat) (out due:Int):Prop where
  n:isNext l u t k out
  d:∀(i:Nat) (f:Face),out=(i:Int)→l[i]?=some f→due=((byV f t:Nat):Int)
theorem nxI.zero {l:List Face} {u:List Int} {t:Nat}:nxI l u t 0 (-1) 0:=⟨.inl ⟨rfl,fun i h=>by omega⟩,fun i f h=>by omega⟩
theorem nxI.keep {l:List Face} {u:List Int} {t k:Nat} {out due:Int} (h:nxI l u t k out due) (hk:k<l.length) (hc:¬(0<wv u k∧(out = -1∨((byV l[k] t:Nat):Int)<due))):nxI l u t (k+1) out due:=by
  have hfk:l[k]?=some l[k]:=List.getElem?_eq_getElem hk
  refine⟨?_,h.d⟩
  rcases h.n with ⟨rfl,a⟩ | ⟨i,f,hi,rfl,hf,hw,a⟩
  · refine .inl ⟨rfl,fun i hi=>?_⟩
    by_cases e:i=k
    · subst e; exact Int.not_lt.1 fun hh=>hc ⟨hh,.inl rfl⟩
    · exact a i (by omega)
  · refine .inr ⟨i,f,by omega,rfl,hf,hw,fun j g hj hg hwj=>?_⟩
    by_cases e:j=k
    · subst e
      rw[hfk] at hg; cases hg
      have hd:=h.d i f rfl hf
      have:¬((byV l[j] t:Nat):Int)<due:=fun hh=>hc ⟨hwj,.inr hh⟩
      omega
    · exact a j g (by omega) hg hwj
theorem nxI.take {l:List Face} {u:List Int} {t k:Nat} {out due:Int} (h:nxI l u t k out due) (hk:k<l.length) (hw:0<wv u k) (hc:out = -1∨((byV l[k] t:Nat):Int)<due):nxI l u t (k+1) (k:Int) ((byV l[k] t:Nat):Int):=by
  have hfk:l[k]?=some l[k]:=List.getElem?_eq_getElem hk
  refine⟨.inr ⟨k,l[k],by omega,rfl,hfk,hw,fun j g hj hg hwj=>?_⟩,fun i f hi hf=>?_⟩
  · by_cases e:j=k
    · subst e; rw[hfk] at hg; cases hg; exact .inr ⟨rfl,Nat.le_refl _⟩
    · rcases h.n with ⟨rfl,a⟩ | ⟨i,f,hi,rfl,hf,hw',a⟩
      · have:=a j (by omega); omega
      · have hd:=h.d i f rfl hf
        have hlt:=hc.resolve_left (by omega)
        have:=a j g (by omega) hg hwj
        omega
  · have:i=k:=by omega
    subst this
    rw[hfk] at hf; cases hf; rfl
theorem synth_Lay_ok (l:List Face) (hl:facesP l) (hF:lcmF 1 l≤240):∃r,synth_Lay l=some r∧resP l (lcmF 1 l) r:=by
  have h4:=hl.2
  have ef:frameV l=(((lcmF 1 l:Nat):Int),0):=by unfold frameV; rw[if_pos hl,if_pos hF]
  unfold synth_Lay
  rw[bnd_eq (synth_Frame_eq l),ef]
  dsimp only
  rw[decide_eq_true rfl,Bool.not_true,fk_f,ck_t (by simp; omega),Int.toNat_natCast]
  generalize lcmF 1 l=F at *
  refine lp_ex (fun v=>F-v.2.2.toNat) (fun v=>∃(t:Nat) (o w:List Int),v=(o,w,(t:Int))∧t≤F∧LayR l t o w) (resP l F) ?_ FU _ ⟨0,[],_,rfl,Nat.zero_le _,LayR.zero⟩ (by unfold FU; simp only; omega)
  rintro nx v ⟨t,o,w,rfl,ht,hL⟩ hnx
  obtain⟨hol,hwl,hwb,_⟩:=hL.ok hl
  dsimp only
  rw[lt_nat]
  by_cases c:t<F
  rotate_left
  · have e:t=F:=by omega
    subst e
    rw[decide_eq_false c,fk_f]
    refine lp_ex (fun v=>l.length-v.2.toNat) (fun v=>∃(k:Nat) (u:List Int),v=(u,(k:Int))∧k≤l.length∧begI l w t k u) (resP l t) ?_ FU _ ⟨0,w,rfl,Nat.zero_le _,begI.zero hwl⟩ (by unfold FU; simp only; omega)
    rintro nx3 v ⟨k,u,rfl,hk,hJ⟩ hnx3
    dsimp only
    rw[lt_nat]
    by_cases ck':k<l.length
    rotate_left
    · have e:k=l.length:=by omega
      subst e
      obtain⟨_,hd⟩:=hJ.end
      rw[decide_eq_false ck',fk_f]
      exact⟨_,rfl,.inl ⟨o,w,hL,hd,rfl⟩⟩
    have hfk:l[k]?=some l[k]:=List.getElem?_eq_getElem ck'
    have hp:=(hl.1 _ (List.getElem_mem ck')).P
    have hul:=hJ.len
    have hku:k<u.length:=by omega
    rw[decide_eq_true ck',fk_t,jn_eq,ix_lt ck',ck_t (decide_eq_true (by omega)),tmod_dvd hp.1,wr_succ k _ ck' (by omega)]
    have go:∀u',begI l w t (k+1) u'→∃r,nx3 (u',((k+1:Nat):Int))=some r∧resP l t r:=fun u' h'=>hnx3 _ ⟨k+1,u',rfl,ck',h'⟩ (by simp only[Int.toNat_natCast]; omega)
    by_cases cd:l[k].P.toNat∣t
    rotate_left
    · rw[decide_eq_false cd,Bool.not_false,fk_t]
      exact go u (hJ.keep ck' cd)
    rw[decide_eq_true cd,Bool.not_true,fk_f,ck_t (by simp; omega),Int.toNat_natCast,ox_lt hku,wv_lt hku,hJ.at]
    by_cases cw:0<wv w k
    · rw[decide_eq_true (show wv w k>0 from cw),fk_t]
      exact⟨_,rfl,.inr ⟨t,Nat.le_refl _,o,w,hL,⟨k,_,hfk,cd,cw⟩,rfl⟩⟩
    · rw[decide_eq_false (show ¬wv w k>0 from cw),fk_f,ck_t (by simp; omega),ox_lt hku]
      exact go _ (hJ.set ck' cd cw)
  rw[decide_eq_true c,fk_t]
  refine lp_ex (fun v=>l.length-v.2.toNat) (fun v=>∃(k:Nat) (u:List Int),v=(u,(k:Int))∧k≤l.length∧begI l w t k u) (resP l F) ?_ FU _ ⟨0,w,rfl,Nat.zero_le _,begI.zero hwl⟩ (by unfold FU; simp only; omega)
  rintro nx3 v ⟨k,u,rfl,hk,hJ⟩ hnx3
  dsimp only
  rw[lt_nat]
  by_cases ck':k<l.length
  · have hfk:l[k]?=some l[k]:=List.getElem?_eq_getElem ck'
    have hp:=(hl.1 _ (List.getElem_mem ck')).P
    have hul:=hJ.len
    have hku:k<u.length:=by omega
    rw[decide_eq_true ck',fk_t,jn_eq,ix_lt ck',ck_t (decide_eq_true (by omega)),tmod_dvd hp.1,wr_succ k _ ck' (by omega)]
    have go:∀u',begI l w t (k+1) u'→∃r,nx3 (u',((k+1:Nat):Int))=some r∧resP l F r:=fun u' h'=>hnx3 _ ⟨k+1,u',rfl,ck',h'⟩ (by simp only[Int.toNat_natCast]; omega)
    by_cases cd:l[k].P.toNat∣t
    rotate_left
    · rw[decide_eq_false cd,Bool.not_false,fk_t]
      exact go u (hJ.keep ck' cd)
    rw[decide_eq_true cd,Bool.not_true,fk_f,ck_t (by simp; omega),Int.toNat_natCast,ox_lt hku,wv_lt hku,hJ.at]
    by_cases cw:0<wv w k
    · rw[decide_eq_true (show wv w k>0 from cw),fk_t]
      exact⟨_,rfl,.inr ⟨t,by omega,o,w,hL,⟨k,_,hfk,cd,cw⟩,rfl⟩⟩
    · rw[decide_eq_false (show ¬wv w k>0 from cw),fk_f,ck_t (by simp; omega),ox_lt hku]
      exact go _ (hJ.set ck' cd cw)
  have e:k=l.length:=by omega
  subst e
  obtain⟨rfl,hd⟩:=hJ.end
  have hbl:=begun_len l w t
  rw[decide_eq_false ck',fk_f]
  refine lp_ex (fun v=>l.length-v.2.2.toNat) (fun v=>∃(k:Nat) (out due:Int),v=(out,due,(k:Int))∧k≤l.length∧nxI l (begun l w t) t k out due) (resP l F) ?_ FU _ ⟨0,-1,0,rfl,Nat.zero_le _,nxI.zero⟩ (by unfold FU; simp only; omega)
  rintro nx8 v ⟨k,out,due,rfl,hk,hN⟩ hnx8
  dsimp only
  rw[lt_nat]
  by_cases cn:k<l.length
  rotate_left
  · have e:k=l.length:=by omega
    subst e
    have hstep:=LayR.step hL hd hN.n
    have hnext:=hnx (o++[out],dec (begun l w t) out,((t+1:Nat):Int)) ⟨t+1,_,_,rfl,c,hstep⟩ (by simp only[Int.toNat_natCast]; omega)
    obtain⟨hsl,hswl,hswb,_⟩:=hstep.ok hl
    rw[decide_eq_false cn,fk_f]
    have e1:wr ((t:Int)+1)=((t+1:Nat):Int):=wr_succ t _ c (by omega)
    by_cases co:out = -1
    · rw[decide_eq_true co,Bool.not_true,fk_f,ck_t (by simp; omega),e1]
      unfold dec at hnext
      rw[if_pos co] at hnext
      exact hnext
    · rcases hN.n with ⟨h,_⟩ | ⟨i,f,hi,rfl,hf,hw,_⟩
      · exact absurd h co
      have hib:i<(begun l w t).length:=by omega
      have hbw:wv (begun l w t) i≤201:=by
        have h2:=hswb i
        have:wv (dec (begun l w t) (i:Int)) i=wv (begun l w t) i-1:=by
          unfold dec
          rw[if_neg co,Int.toNat_natCast,wv_set hib,if_pos rfl]
        omega
      rw[decide_eq_false co,Bool.not_false,fk_t,ck_t (by simp; omega),Int.toNat_natCast,ox_lt hib,ck_t (by simp; omega),ox_lt hib,ck_t (by simp; omega),e1,wv_lt hib,wr_in _ (by omega)]
      unfold dec at hnext
      rw[if_neg co,Int.toNat_natCast] at hnext
      exact hnext
  have hfk:l[k]?=some l[k]:=List.getElem?_eq_getElem cn
  have hface:=hl.1 _ (List.getElem_mem cn)
  have hp:=hface.P
  have hkb:k<(begun l w t).length:=by omega
  rw[decide_eq_true cn,fk_t,jn_eq,ix_lt cn,ck_t (decide_eq_true (by omega)),jn_eq,by_eq hface t (by omega),wr_succ k _ cn (by omega),ck_t (by simp; omega),Int.toNat_natCast,ox_lt hkb,wv_lt hkb]
  have keep:¬(0<wv (begun l w t) k∧(out = -1∨((byV l[k] t:Nat):Int)<due))→∃r,nx8 (out,due,((k+1:Nat):Int))=some r∧resP l F r:=fun h'=>hnx8 _ ⟨k+1,out,due,rfl,cn,hN.keep cn h'⟩ (by simp only[Int.toNat_natCast]; omega)
  have take:0<wv (begun l w t) k→(out = -1∨((byV l[k] t:Nat):Int)<due)→∃r,nx8 ((k:Int),((byV l[k] t:Nat):Int),((k+1:Nat):Int))=some r∧resP l F r:=fun h1 h2=>hnx8 _ ⟨k+1,_,_,rfl,cn,hN.take cn h1 h2⟩ (by simp only[Int.toNat_natCast]; omega)
  by_cases cw:wv (begun l w t) k>0
  rotate_left
  · rw[decide_eq_false cw,fk_f]
    exact keep fun h=>cw h.1
  rw[decide_eq_true cw,fk_t]
  by_cases co:out = -1
  · rw[decide_eq_true co,fk_t]
    exact take cw (.inl co)
  rw[decide_eq_false co,fk_f]
  by_cases cd:((byV l[k] t:Nat):Int)<due
  · rw[decide_eq_true cd]
    exact take cw (.inr cd)
  · rw[decide_eq_false cd]
    exact keep fun h=>(h.2.elim co cd)

/-! Systems, and how they begin. -/
def portIn (n:Int) (p:Port):Prop:=p.From<n∧p.To<n
structure confP (c:Config):Prop where
  ps:∀p∈c.Parts,faceP p.Face∧AllP p.Tasks
  pl:c.Parts.length≤4
  qs:∀p∈c.Ports,portP p
  qi:∀p∈c.Ports,portIn (c.Parts.length:Int) p
  ql:c.Ports.length≤4
noncomputable instance (c:Config):Decidable (confP c):=Classical.propDecidable _
structure confB (c:Config):Prop where
  p:c.Parts.length≤4611686018427387904
  q:c.Ports.length≤1000
  t:∀p∈c.Parts,p.Tasks.length≤4611686018427387904∧∀t∈p.Tasks,t.Secs.length≤4611686018427387904
theorem mem_take_succ {α:Type} {l:List α} {k:Nat} (h:k<l.length) {x:α} (hx:x∈l.take (k+1)):x∈l.take k∨x=l[k]:=by
  rw[←List.take_append_getElem h] at hx
  rcases List.mem_append.1 hx with h | h
  · exact .inl h
  · exact .inr (List.mem_singleton.1 h)
theorem image_Right_eq (c:Config) (hb:confB c):image_Right c=some (decide (confP c)):=by
  unfold image_Right
  refine lp_up c.Parts.length (by unfold FU; have:=hb.p; omega) (fun k=>∀p∈c.Parts.take k,faceP p.Face∧AllP p.Tasks) (fun p h=>by simp at h) ?_
  intro nx k hk J hnx
  rw[lt_nat]
  by_cases hk':k<c.Parts.length
  · have hm:=List.getElem_mem hk'
    rw[decide_eq_true hk',fk_t,ix_lt hk',wr_succ k _ hk' hb.p]
    by_cases hh:faceP c.Parts[k].Face∧AllP c.Parts[k].Tasks
    · refine jn_to false (fun k3=>?_) ?_
      · rw[bnd_eq (supply_Right_eq _),decide_eq_true hh.1,Bool.not_true,fk_f,bnd_eq (task_All_eq _ (hb.t _ hm).1),decide_eq_true hh.2]; rfl
      · rw[fk_f]
        refine hnx hk' fun p hp=>?_
        rcases mem_take_succ hk' hp with h | rfl
        · exact J p h
        · exact hh
    · refine jn_to true (fun k3=>?_) ?_
      · rw[bnd_eq (supply_Right_eq _)]
        by_cases h1:faceP c.Parts[k].Face
        · rw[decide_eq_true h1,Bool.not_true,fk_f,bnd_eq (task_All_eq _ (hb.t _ hm).1),decide_eq_false (fun h2=>hh ⟨h1,h2⟩)]; rfl
        · rw[decide_eq_false h1,Bool.not_false,fk_t]
      · rw[fk_t,decide_eq_false (fun h:confP c=>hh (h.ps _ hm))]
  rw[List.take_of_length_le (by omega)] at J
  rw[decide_eq_false hk',fk_f]
  clear hnx nx hk hk' k
  refine lp_up c.Ports.length (by unfold FU; have:=hb.q; omega) (fun k=>∀p∈c.Ports.take k,portIn (c.Parts.length:Int) p) (fun p h=>by simp at h) ?_
  intro nx k hk J2 hnx
  rw[lt_nat]
  by_cases hk':k<c.Ports.length
  · have hm:=List.getElem_mem hk'
    rw[decide_eq_true hk',fk_t,ix_lt hk',wr_succ k _ hk' (by have:=hb.q; omega)]
    by_cases hh:portIn (c.Parts.length:Int) c.Ports[k]
    · refine jn_to false (fun k3=>?_) ?_
      · unfold portIn at hh
        rw[decide_eq_false (by omega),fk_f,decide_eq_false (by omega)]
      · rw[fk_f]
        refine hnx hk' fun p hp=>?_
        rcases mem_take_succ hk' hp with h | rfl
        · exact J2 p h
        · exact hh
    · refine jn_to true (fun k3=>?_) ?_
      · unfold portIn at hh
        by_cases h1:c.Ports[k].From≥(c.Parts.length:Int)
        · rw[decide_eq_true h1,fk_t]
        · rw[decide_eq_false h1,fk_f,decide_eq_true (show c.Ports[k].To≥(c.Parts.length:Int) from Int.not_lt.1 fun h2=>hh ⟨by omega,h2⟩)]
      · rw[fk_t,decide_eq_false (fun h:confP c=>hh (h.qi _ hm))]
  rw[List.take_of_length_le (by omega)] at J2
  rw[decide_eq_false hk',fk_f,bnd_eq (port_Open_eq _ hb.q)]
  by_cases ho:(∀p∈c.Ports,portP p)∧c.Ports.length≤4
  · rw[if_pos ho,decide_eq_true rfl,fk_t]
    exact dec_iff ⟨fun h=>⟨J,by omega,ho.1,J2,ho.2⟩,fun h=>by have:=h.pl; omega⟩
  · rw[if_neg ho]
    show fk (decide ((1:Int)=0)) _ _=_
    rw[decide_eq_false (by decide),fk_f]
    exact dec_f fun h=>ho ⟨h.qs,h.ql⟩
def zeroK:KernelState:=⟨⟨0,[]⟩,[],[],[],0⟩
structure booted (c:Config) (s:KernelState) (ticks:List Int):Prop where
  conf:confP c
  faces:s.Faces=c.Parts.map (·.Face)
  parts:s.Parts=c.Parts.map fun p=>new0 p.Tasks
  lines:s.Lines=c.Ports.map newL
  now:s.Now=0
  tab:tabP s.Table
  len:s.Table.Frame=(ticks.length:Int)
  at':∀(x:Nat) (y:Int),ticks[x]?=some y→whoV s.Table.Windows (x:Int)=y
/-! What is kept of a system. -/
structure kP (s:KernelState):Prop where
  tab:tabP s.Table
  parts:∀p∈s.Parts,okS p
  len:s.Parts.length≤4
  faces:s.Faces.length=s.Parts.length
  lines:linesP s.Lines
  now0:0≤s.Now
  now1:s.Now≤100000
theorem kernel_Right_t {s:KernelState} (h:kP s):kernel_Right s=some true:=by
  have h4:=h.len
  have n0:=h.now0
  have n1:=h.now1
  unfold kernel_Right
  refine lp_up s.Parts.length (by unfold FU; omega) (fun _=>True) trivial ?_
  intro nx k hk _ hnx
  rw[lt_nat]
  by_cases hk':k<s.Parts.length
  · have ho:=h.parts _ (List.getElem_mem hk')
    rw[decide_eq_true hk',fk_t,ix_lt hk',bnd_eq (part_Right_eq _ (StB.of_st ho.1)),decide_eq_true ho.1,Bool.not_true,fk_f,wr_succ k _ hk' (by omega)]
    exact hnx hk' trivial
  · rw[decide_eq_false hk',fk_f,bnd_eq (table_Right_t h.tab),fk_t,decide_eq_true (by rw[h.faces]),fk_t,decide_eq_true (by omega),fk_t,bnd_eq (port_Right_t h.lines),fk_t,decide_eq_true (by omega),fk_t,decide_eq_true (by omega)]
/-! Alike. -/
/-! What is asked. -/
theorem okS.len {s:PartState} (h:okS s):s.Tasks.length≤1000∧s.Jobs.length≤4611686018427387904:=by
  have h8:=AllP_len h.1.2.1.1
  have hj:=h.1.2.2.1.2.1
  omega
theorem okS_plus {s:PartState} {f:Face} {x:Task} (h:okS s) (h0:addE s f x=0):okS (plus s x):=by
  obtain⟨a1,a2,a3,_⟩:=addE_zero h0
  have:=okS_add (x:=x) h
  unfold addV at this
  rwa [if_pos ⟨a1,a2⟩,if_pos a3] at this
noncomputable def admV (s:PartState) (f:Face) (x:Task):PartState×Int:=if addE s f x=0 then (plus s x,0) else (s,addE s f x)
theorem admit_Add_V {s:PartState} {f:Face} {x:Task} (h:okS s):admit_Add s f x=some (admV s f x):=admit_Add_eq s f x (StB.of_st h.1) h.len.1 h.len.2
theorem okS_adm {s:PartState} {f:Face} {x:Task} (h:okS s):okS (admV s f x).1:=by
  unfold admV
  split
  · exact okS_plus h (by assumption)
  · exact h
theorem admit_Drop_V {s:PartState} {i:Int} (h:okS s):admit_Drop s i=some (leaveV s i):=by
  unfold admit_Drop
  rw[bnd_eq (part_Leave_eq s i (StB.of_st h.1))]
noncomputable def chgV (s:PartState) (f:Face) (i:Int) (x:Task):PartState×Int:=if (leaveV s i).2=0 then (if addE (leaveV s i).1 f x=0 then (plus (leaveV s i).1 x,0) else (s,addE (leaveV s i).1 f x)) else (s,(leaveV s i).2)
theorem admit_Change_V {s:PartState} {f:Face} {i:Int} {x:Task} (h:okS s):admit_Change s f i x=some (chgV s f i x):=by
  unfold admit_Change chgV
  rw[bnd_eq (admit_Drop_V h)]
  by_cases c:(leaveV s i).2=0
  rotate_left
  · rw[decide_eq_false c,Bool.not_false,fk_t,if_neg c]
  rw[decide_eq_true c,Bool.not_true,fk_f,if_pos c,bnd_eq (admit_Add_V (okS_leave h))]
  unfold admV
  by_cases d:addE (leaveV s i).1 f x=0
  · rw[if_pos d,if_pos d,decide_eq_true rfl,Bool.not_true,fk_f]
  · rw[if_neg d,if_neg d,decide_eq_false d,Bool.not_false,fk_t]
theorem okS_chg {s:PartState} {f:Face} {i:Int} {x:Task} (h:okS s):okS (chgV s f i x).1:=by
  unfold chgV
  split
  · split
    · exact okS_plus (okS_leave h) (by assumption)
    · exact h
  · exact h
def withK (s:KernelState) (i:Int) (p:PartState):KernelState:=⟨s.Table,s.Faces,s.Parts.set i.toNat p,s.Lines,s.Now⟩
theorem with_eq {s:KernelState} {i:Int} {p:PartState} (h:kP s) (h0:0≤i) (h1:i<(s.Parts.length:Int)):kernel_State_with s i p=some (withK s i p):=by
  have h4:=h.len
  unfold kernel_State_with
  rw[ck_t (by simp; omega),List.nil_append,ck_t (by simp; omega),ox_lt (by omega)]; rfl
theorem kP.with {s:KernelState} {i:Int} {p:PartState} (h:kP s) (hp:okS p):kP (withK s i p):=
  ⟨h.tab,fun q hq=>by
    rcases List.mem_or_eq_of_mem_set (show q∈s.Parts.set i.toNat p from hq) with h' | rfl
    · exact h.parts q h'
    · exact hp,by show (s.Parts.set _ _).length≤4; rw[List.length_set]; exact h.len,by show _=(s.Parts.set _ _).length; rw[List.length_set]; exact h.faces,h.lines,h.now0,h.now1⟩
/-- What comes of an ask of a partition that is there. -/
noncomputable def doP (p:PartState) (f:Face) (c:KernelCmd) (now:Int):PartState×Int:=
  if c.Kind=1 then relV p c.I c.V now else if c.Kind=4 then admV p f c.T else if c.Kind=5 then leaveV p c.I else chgV p f c.I c.T
theorem okS_doP {p:PartState} {f:Face} {c:KernelCmd} {now:Int} (h:okS p):okS (doP p f c now).1:=by
  unfold doP
  split
  · exact stP_rel h.1 h.2
  · split
    · exact okS_adm h
    · split
      · exact okS_leave h
      · exact okS_chg h
noncomputable def doK (s:KernelState) (c:KernelCmd):KernelState×Int×Int:=
  if h:0≤c.Part∧c.Part<(s.Parts.length:Int)∧s.Faces.length=s.Parts.length then
    (if c.Kind=2 then (⟨s.Table,s.Faces,s.Parts,(sendV s.Lines c.Part c.I c.V).1,s.Now⟩,0,(sendV s.Lines c.Part c.I c.V).2)
     else if c.Kind=3 then (⟨s.Table,s.Faces,s.Parts,(readV s.Lines c.Part c.I).2.1,s.Now⟩,(readV s.Lines c.Part c.I).1,(readV s.Lines c.Part c.I).2.2)
     else if c.Kind=1∨c.Kind=4∨c.Kind=5∨c.Kind=6 then (withK s c.Part (doP (s.Parts[c.Part.toNat]'(by omega)) (s.Faces[c.Part.toNat]'(by omega)) c s.Now).1,0,(doP (s.Parts[c.Part.toNat]'(by omega)) (s.Faces[c.Part.toNat]'(by omega)) c s.Now).2)
     else (s,0,4))
  else (s,0,4)
theorem kernel_Do_eq (s:KernelState) (c:KernelCmd) (h:kP s):kernel_Do s c=some (doK s c):=by
  have kk:kernel_kinds=some ():=rfl
  unfold kernel_Do
  rw[bnd_eq (kernel_Right_t h),Bool.not_true,fk_f,bnd_eq kk]
  by_cases hc:0≤c.Part∧c.Part<(s.Parts.length:Int)
  rotate_left
  · have out:∀(X:Option (KernelState×Int×Int)),jn (fun (w3:Bool)=>fk w3 (some (s,(0:Int),(4:Int))) X) (fun k3=>fk (decide (c.Part<(0:Int))) (k3 true) (k3 (decide (c.Part≥(s.Parts.length:Int)))))=some (s,0,4):=fun X=>by
      refine jn_to true (fun k=>?_) (by rw[fk_t])
      by_cases c0:c.Part<0
      · rw[decide_eq_true c0,fk_t]
      · rw[decide_eq_false c0,fk_f,decide_eq_true (by omega)]
    have ed:doK s c=(s,0,4):=by unfold doK; rw[dif_neg (fun hh=>hc ⟨hh.1,hh.2.1⟩)]
    rw[ed]
    have all:∀(b:Bool) (x y:Option (KernelState×Int×Int)),x=some (s,0,4)→y=some (s,0,4)→fk b x y=some (s,0,4):=fun b x y hx hy=>by cases b; exact hy; exact hx
    refine all _ _ _ (out _) (all _ _ _ (out _) (all _ _ _ (out _) (all _ _ _ (out _) (all _ _ _ (out _) (all _ _ _ (out _) ?_)))))
    first | rfl | (refine jn_to true (fun k=>?_) (by rw[fk_t])
                   by_cases c0:c.Part<0
                   · rw[decide_eq_true c0,fk_t]
                   · rw[decide_eq_false c0,fk_f,decide_eq_true (by omega)])
  have inn:∀(X:Option (KernelState×Int×Int)),jn (fun (w3:Bool)=>fk w3 (some (s,(0:Int),(4:Int))) X) (fun k3=>fk (decide (c.Part<(0:Int))) (k3 true) (k3 (decide (c.Part≥(s.Parts.length:Int)))))=X:=fun X=>by
    refine jn_to false (fun k=>?_) (by rw[fk_f])
    rw[decide_eq_false (by omega),fk_f,decide_eq_false (by omega)]
  simp only[inn]
  have hf:=h.faces
  have hpl:c.Part.toNat<s.Parts.length:=by omega
  have hfl:c.Part.toNat<s.Faces.length:=by omega
  have hok:=h.parts _ (List.getElem_mem hpl)
  have hb:=StB.of_st hok.1
  unfold doK
  rw[dif_pos ⟨hc.1,hc.2,hf⟩]
  by_cases c1:c.Kind=1
  · rw[decide_eq_true c1,fk_t,if_neg (by omega),if_neg (by omega),if_pos (.inl c1)]
    have e:kernel_on_1 s c=some (withK s c.Part (relV s.Parts[c.Part.toNat] c.I c.V s.Now).1,0,(relV s.Parts[c.Part.toNat] c.I c.V s.Now).2):=by
      unfold kernel_on_1
      rw[ix_int hc.1 hpl,ix_int hc.1 hfl]
      have:kernel_kinds_1 s.Parts[c.Part.toNat] s.Faces[c.Part.toNat] c s.Now=some (relV s.Parts[c.Part.toNat] c.I c.V s.Now):=by
        unfold kernel_kinds_1
        rw[bnd_eq (part_Release_eq _ _ _ _ hb)]
      rw[bnd_eq this,bnd_eq (with_eq h hc.1 hc.2)]
    rw[bnd_eq e]
    unfold doP
    rw[if_pos c1]
  rw[decide_eq_false c1,fk_f]
  by_cases c4:c.Kind=4
  · rw[decide_eq_true c4,fk_t,if_neg (by omega),if_neg (by omega),if_pos (.inr (.inl c4))]
    have e:kernel_on_1_1 s c=some (withK s c.Part (admV s.Parts[c.Part.toNat] s.Faces[c.Part.toNat] c.T).1,0,(admV s.Parts[c.Part.toNat] s.Faces[c.Part.toNat] c.T).2):=by
      unfold kernel_on_1_1
      rw[ix_int hc.1 hpl,ix_int hc.1 hfl]
      have:kernel_kinds_2 s.Parts[c.Part.toNat] s.Faces[c.Part.toNat] c s.Now=some (admV s.Parts[c.Part.toNat] s.Faces[c.Part.toNat] c.T):=by
        unfold kernel_kinds_2
        rw[bnd_eq (admit_Add_V hok)]
      rw[bnd_eq this,bnd_eq (with_eq h hc.1 hc.2)]
    rw[bnd_eq e]
    unfold doP
    rw[if_neg c1,if_pos c4]
  rw[decide_eq_false c4,fk_f]
  by_cases c5:c.Kind=5
  · rw[decide_eq_true c5,fk_t,if_neg (by omega),if_neg (by omega),if_pos (.inr (.inr (.inl c5)))]
    have e:kernel_on_1_2 s c=some (withK s c.Part (leaveV s.Parts[c.Part.toNat] c.I).1,0,(leaveV s.Parts[c.Part.toNat] c.I).2):=by
      unfold kernel_on_1_2
      rw[ix_int hc.1 hpl,ix_int hc.1 hfl]
      have:kernel_kinds_3 s.Parts[c.Part.toNat] s.Faces[c.Part.toNat] c s.Now=some (leaveV s.Parts[c.Part.toNat] c.I):=by
        unfold kernel_kinds_3
        rw[bnd_eq (admit_Drop_V hok)]
      rw[bnd_eq this,bnd_eq (with_eq h hc.1 hc.2)]
    rw[bnd_eq e]
    unfold doP
    rw[if_neg c1,if_neg c4,if_pos c5]
  rw[decide_eq_false c5,fk_f]
  by_cases c6:c.Kind=6
  · rw[decide_eq_true c6,fk_t,if_neg (by omega),if_neg (by omega),if_pos (.inr (.inr (.inr c6)))]
    have e:kernel_on_1_3 s c=some (withK s c.Part (chgV s.Parts[c.Part.toNat] s.Faces[c.Part.toNat] c.I c.T).1,0,(chgV s.Parts[c.Part.toNat] s.Faces[c.Part.toNat] c.I c.T).2):=by
      unfold kernel_on_1_3
      rw[ix_int hc.1 hpl,ix_int hc.1 hfl]
      have:kernel_kinds_4 s.Parts[c.Part.toNat] s.Faces[c.Part.toNat] c s.Now=some (chgV s.Parts[c.Part.toNat] s.Faces[c.Part.toNat] c.I c.T):=by
        unfold kernel_kinds_4
        rw[bnd_eq (admit_Change_V hok)]
      rw[bnd_eq this,bnd_eq (with_eq h hc.1 hc.2)]
    rw[bnd_eq e]
    unfold doP
    rw[if_neg c1,if_neg c4,if_neg c5]
  rw[decide_eq_false c6,fk_f]
  by_cases c2:c.Kind=2
  · rw[decide_eq_true c2,fk_t,if_pos c2]
    have e:kernel_kinds_5 s c=some (⟨s.Table,s.Faces,s.Parts,(sendV s.Lines c.Part c.I c.V).1,s.Now⟩,0,(sendV s.Lines c.Part c.I c.V).2):=by
      unfold kernel_kinds_5
      rw[bnd_eq (port_Send_eq _ _ _ _ h.lines)]
    rw[bnd_eq e]
  rw[decide_eq_false c2,fk_f,if_neg c2]
  by_cases c3:c.Kind=3
  · rw[decide_eq_true c3,fk_t,if_pos c3]
    have e:kernel_kinds_6 s c=some (⟨s.Table,s.Faces,s.Parts,(readV s.Lines c.Part c.I).2.1,s.Now⟩,(readV s.Lines c.Part c.I).1,(readV s.Lines c.Part c.I).2.2):=by
      unfold kernel_kinds_6
      rw[bnd_eq (port_Read_eq _ _ _ h.lines)]
    rw[bnd_eq e]
  rw[decide_eq_false c3,fk_f,if_neg c3,if_neg (by omega)]
  exact jn_to () (fun k=>rfl) rfl
theorem kP.do {s:KernelState} (h:kP s) (c:KernelCmd):kP (doK s c).1∧(doK s c).1.Now=s.Now∧(doK s c).1.Table=s.Table∧(doK s c).1.Parts.length=s.Parts.length∧(doK s c).1.Lines.length=s.Lines.length:=by
  unfold doK
  split
  rotate_left
  · exact⟨h,rfl,rfl,rfl,rfl⟩
  rename_i hc
  split
  · have:=sendV_ok (f:=c.Part) (i:=c.I) (v:=c.V) h.lines
    exact⟨⟨h.tab,h.parts,h.len,h.faces,this.1,h.now0,h.now1⟩,rfl,rfl,rfl,this.2⟩
  · split
    · have:=readV_ok (f:=c.Part) (i:=c.I) h.lines
      exact⟨⟨h.tab,h.parts,h.len,h.faces,this.1,h.now0,h.now1⟩,rfl,rfl,rfl,this.2⟩
    · split
      · refine⟨h.with (okS_doP (h.parts _ (List.getElem_mem _))),rfl,rfl,?_,rfl⟩
        show (s.Parts.set _ _).length=_
        rw[List.length_set]
      · exact⟨h,rfl,rfl,rfl,rfl⟩

/-! A tick of a system. -/
def emptyP:PartState:=⟨[],[],[],[],[]⟩
noncomputable def tkP (s:KernelState) (who:Int) (i:Nat):PartState×Int:=tickV ((s.Parts[i]?).getD emptyP) (decide ((i:Int)=who)) s.Now
noncomputable def whoK (s:KernelState):Int:=whoV s.Table.Windows (s.Now.tmod s.Table.Frame)
noncomputable def partsK (s:KernelState):List PartState:=(List.range s.Parts.length).map fun i=>(tkP s (whoK s) i).1
noncomputable def ranK (s:KernelState):List Int:=(List.range s.Parts.length).map fun i=>(tkP s (whoK s) i).2
theorem tkP_at {s:KernelState} {who:Int} {i:Nat} (h:i<s.Parts.length):tkP s who i=tickV s.Parts[i] (decide ((i:Int)=who)) s.Now:=by
  unfold tkP; rw[List.getElem?_eq_getElem h]; rfl
theorem okS_tkP {s:KernelState} {who:Int} {i:Nat} (h:kP s) (hi:i<s.Parts.length):okS (tkP s who i).1:=by
  rw[tkP_at hi]; exact okS_tick (h.parts _ (List.getElem_mem hi))
/-- The lines behind a tick. -/
def linesK (s:KernelState) (L:List PortLine):Prop:=linesP L∧L.length=s.Lines.length∧(if s.Now.tmod s.Table.Frame=0 then port_Deliver s.Lines=some L∧∀(i:Nat) (x y:PortLine),s.Lines[i]?=some x→L[i]?=some y→gone x y else L=s.Lines)
theorem linesK_ex {s:KernelState} (h:kP s):∃L,linesK s L:=by
  obtain⟨L,e,a,b,c⟩:=port_Deliver_ex s.Lines h.lines
  by_cases hh:s.Now.tmod s.Table.Frame=0
  · exact⟨L,a,b,by rw[if_pos hh]; exact⟨e,c⟩⟩
  · exact⟨s.Lines,h.lines,rfl,by rw[if_neg hh]⟩
theorem kernel_Tick_eq {s:KernelState} (h:kP s) {L:List PortLine} (hL:linesK s L):kernel_Tick s=some (⟨s.Table,s.Faces,partsK s,L,s.Now+1⟩,ranK s,0):=by
  have h4:=h.len
  have n0:=h.now0
  have n1:=h.now1
  have f1:=h.tab.f1
  unfold kernel_Tick
  rw[bnd_eq (kernel_Right_t h),Bool.not_true,fk_f]
  refine jn_to L (fun k=>?_) ?_
  · rw[ck_t (decide_eq_true (by omega))]
    obtain⟨_,_,hl⟩:=hL
    by_cases hh:s.Now.tmod s.Table.Frame=0
    · rw[if_pos hh] at hl
      rw[decide_eq_true hh,fk_t,bnd_eq hl.1]
    · rw[if_neg hh] at hl
      rw[decide_eq_false hh,fk_f,hl]
  rw[bnd_eq (table_At_eq h.tab n0)]
  refine lp_inv (fun v=>s.Parts.length-v.2.2.2.2.2.2.2.toNat) (fun v=>∃(k:Nat) (U:List PartState),v=(s.Table.Frame,s.Table.Windows,s.Faces,U,L,s.Now,(List.range k).map (fun i=>(tkP s (whoK s) i).2),(k:Int))∧k≤s.Parts.length∧U.length=s.Parts.length∧∀i,U[i]?=if i<k then (if i<s.Parts.length then some (tkP s (whoK s) i).1 else none) else s.Parts[i]?) ?_ FU _ ⟨0,s.Parts,rfl,Nat.zero_le _,rfl,fun i=>by rw[if_neg (by omega)]⟩ (by unfold FU; simp only; omega)
  rintro nx v ⟨k,U,rfl,hk,hU,hUv⟩ hnx
  dsimp only
  rw[lt_nat]
  by_cases c:k<s.Parts.length
  rotate_left
  · have e:k=s.Parts.length:=by omega
    subst e
    have eU:U=partsK s:=by
      refine List.ext_getElem? fun i=>?_
      rw[hUv i]
      unfold partsK
      rw[List.getElem?_map]
      by_cases ci:i<s.Parts.length
      · rw[if_pos ci,if_pos ci,List.getElem?_range ci]; rfl
      · rw[if_neg ci,List.getElem?_eq_none (by omega),List.getElem?_eq_none (by simp; omega)]; rfl
    rw[decide_eq_false c,fk_f,eU,wr_in _ (by omega)]; rfl
  have ho:=h.parts _ (List.getElem_mem c)
  have hb:=StB.of_st ho.1
  rw[decide_eq_true c,fk_t,ix_lt c,bnd_eq (part_Tick_eq _ _ _ hb),if_pos ⟨ho.1,by unfold whenP; omega⟩,wr_succ k _ c (by omega)]
  dsimp only
  have ew:kernel_State_with ⟨⟨s.Table.Frame,s.Table.Windows⟩,s.Faces,U,L,s.Now⟩ (k:Int) (tickV s.Parts[k] (decide ((k:Int)=whoK s)) s.Now).1=some ⟨s.Table,s.Faces,U.set k (tkP s (whoK s) k).1,L,s.Now⟩:=by
    unfold kernel_State_with
    dsimp only
    rw[ck_t (by simp; omega),List.nil_append,ck_t (by simp; omega),Int.toNat_natCast,ox_lt (by omega),tkP_at c]
  rw[show whoV s.Table.Windows (s.Now.tmod s.Table.Frame)=whoK s from rfl,bnd_eq ew,ck_t (by simp; omega)]
  refine hnx _ ⟨k+1,U.set k (tkP s (whoK s) k).1,?_,c,by rw[List.length_set]; exact hU,fun i=>?_⟩ (by simp only[Int.toNat_natCast]; omega)
  · rw[List.range_succ,List.map_append,List.map_singleton,tkP_at c]
  · by_cases e:i=k
    · subst e
      rw[List.getElem?_set_self (by omega),if_pos (by omega),if_pos c]
    · rw[List.getElem?_set_ne (fun hh=>e hh.symm),hUv i]
      by_cases ci:i<k
      · rw[if_pos ci,if_pos (show i<s.Parts.length by omega),if_pos (show i<k+1 by omega)]
      · rw[if_neg ci,if_neg (by omega)]
theorem kP.tick {s:KernelState} (h:kP s) {L:List PortLine} (hL:linesK s L) (hn:s.Now≤90000):kP ⟨s.Table,s.Faces,partsK s,L,s.Now+1⟩:=by
  have n0:=h.now0
  refine⟨h.tab,fun p hp=>?_,?_,?_,hL.1,by show 0≤s.Now+1; omega,by show s.Now+1≤100000; omega⟩
  · obtain⟨i,hi,rfl⟩:=List.mem_map.1 hp
    exact okS_tkP h (by simpa using hi)
  · show (partsK s).length≤4
    unfold partsK; rw[List.length_map,List.length_range]; exact h.len
  · show s.Faces.length=(partsK s).length
    unfold partsK; rw[List.length_map,List.length_range]; exact h.faces
/-! Scripts. -/
/-! How a system begins, without the document's answer. -/
theorem lay_k (l:List Face):∃r:List Int×Int,synth_Lay l=some r∧(r.2=0→1≤r.1.length∧r.1.length≤240∧(∀x∈r.1,-1≤x∧x<4)∧facesP l)∧(r.2≠0→r.1=[]∧(r.2=1∨r.2=5∨r.2=7)):=by
  by_cases h:facesP l∧lcmF 1 l≤240
  · obtain⟨hl,hF⟩:=h
    obtain⟨r,e1,h1⟩:=synth_Lay_ok l hl hF
    have hpos:=lcmF_pos l 1 (by omega) fun f hf=>(hl.1 f hf).P.1
    refine⟨r,e1,fun h0=>?_,fun h0=>?_⟩
    · rcases h1 with ⟨o,w,a,b,rfl⟩ | ⟨t,ht,o,w,a,b,rfl⟩
      · obtain⟨g1,_,_,g4⟩:=a.ok hl
        refine⟨by show 1≤o.length; omega,by show o.length≤240; omega,fun x hx=>?_,hl⟩
        have:=g4 x hx
        have:=hl.2
        omega
      · exact absurd h0 (by decide)
    · rcases h1 with ⟨o,w,a,b,rfl⟩ | ⟨t,ht,o,w,a,b,rfl⟩
      · exact absurd rfl h0
      · exact⟨rfl,.inr (.inr rfl)⟩
  · have ef:(frameV l).2≠0∧((frameV l).2=1∨(frameV l).2=5):=by
      unfold frameV
      by_cases hl:facesP l
      · rw[if_pos hl,if_neg (fun hF=>h ⟨hl,hF⟩)]; exact⟨by decide,.inr rfl⟩
      · rw[if_neg hl]; exact⟨by decide,.inl rfl⟩
    refine⟨([],(frameV l).2),?_,fun h0=>absurd h0 ef.1,fun _=>⟨rfl,ef.2.elim .inl fun h=>.inr (.inl h)⟩⟩
    · unfold synth_Lay
      rw[bnd_eq (synth_Frame_eq l),decide_eq_false ef.1,Bool.not_false,fk_t]
theorem table_Make_k (l:List Face):(∃t,table_Make l=some (t,0)∧tabP t)∨∃e,e≠0∧table_Make l=some (⟨0,[]⟩,e):=by
  obtain⟨r,e1,h1,h2⟩:=lay_k l
  by_cases c:r.2=0
  · obtain⟨a,b,d,_⟩:=h1 c
    obtain⟨t,f1,f2,_⟩:=table_Of_ex r.1 a b d
    refine .inl ⟨t,?_,f2⟩
    unfold table_Make
    rw[bnd_eq e1,decide_eq_true c,Bool.not_true,fk_f,bnd_eq f1]
  · refine .inr ⟨r.2,c,?_⟩
    unfold table_Make
    rw[bnd_eq e1,decide_eq_false c,Bool.not_false,fk_t]
theorem bootK {c:Config} {t:TableTable} (hc:confP c) (hT:tabP t):kP ⟨t,c.Parts.map (·.Face),c.Parts.map fun p=>new0 p.Tasks,c.Ports.map newL,0⟩:=by
  refine⟨hT,fun p hp=>?_,?_,?_,linesP_new hc.qs hc.ql,Int.le_refl _,by show (0:Int)≤100000; omega⟩
  · obtain⟨q,hq,rfl⟩:=List.mem_map.1 hp
    exact okS_new (hc.ps q hq).2
  · show (c.Parts.map _).length≤4
    rw[List.length_map]; exact hc.pl
  · show (c.Parts.map _).length=(c.Parts.map _).length
    rw[List.length_map,List.length_map]
theorem boot_k (c:Config) (hb:confB c):(∃e,e≠0∧kernel_Boot c=some (zeroK,e))∨∃s,kernel_Boot c=some (s,0)∧kP s∧s.Now=0:=by
  by_cases hc:confP c
  rotate_left
  · refine .inl ⟨1,by decide,?_⟩
    unfold kernel_Boot
    rw[bnd_eq (image_Right_eq c hb),decide_eq_false hc,Bool.not_false,fk_t]; rfl
  have h4:=hc.pl
  rcases table_Make_k (c.Parts.map (·.Face)) with ⟨t,eT,hT⟩ | ⟨e,h0,eT⟩
  rotate_left
  · refine .inl ⟨e,h0,?_⟩
    unfold kernel_Boot
    rw[bnd_eq (image_Right_eq c hb),decide_eq_true hc,Bool.not_true,fk_f]
    refine lp_upS c.Parts.length (by unfold FU; omega) (fun k s=>s=(c.Parts.take k).map (·.Face)) [] rfl ?_
    rintro nx k s hk rfl hnx
    dsimp only
    rw[lt_nat]
    by_cases hk':k<c.Parts.length
    · rw[decide_eq_true hk',fk_t,ix_lt hk',ck_t (by simp; omega),wr_succ k _ hk' (by omega)]
      refine hnx _ hk' ?_
      rw[←List.take_append_getElem hk',List.map_append]; rfl
    · rw[decide_eq_false hk',fk_f,List.take_of_length_le (by omega)]
      rw[bnd_eq eT,decide_eq_false h0,Bool.not_false,fk_t]; rfl
  have hop:(∀p∈c.Ports,portP p)∧c.Ports.length≤4:=⟨hc.qs,hc.ql⟩
  -- all boot, or the first that doesn't
  have dich:(∀p∈c.Parts,bootE p=0)∨∃(k:Nat) (h:k<c.Parts.length),bootE c.Parts[k]≠0∧∀p∈c.Parts.take k,bootE p=0:=by
    have:∀n,n≤c.Parts.length→(∀p∈c.Parts.take n,bootE p=0)∨∃(k:Nat) (h:k<c.Parts.length),bootE c.Parts[k]≠0∧∀p∈c.Parts.take k,bootE p=0:=by
      intro n
      induction n with
      | zero=>intro _; exact .inl fun p h=>by simp at h
      | succ n ih=>
        intro hn
        rcases ih (by omega) with h | h
        · by_cases e:bootE (c.Parts[n]'(by omega))=0
          · refine .inl fun p hp=>?_
            rcases mem_take_succ (by omega) hp with h' | rfl
            · exact h p h'
            · exact e
          · exact .inr ⟨n,by omega,e,h⟩
        · exact .inr h
    rcases this c.Parts.length (Nat.le_refl _) with h | h
    · rw[List.take_length] at h; exact .inl h
    · exact .inr h
  have kb:∀r',lp (fun nx5 (v5:(List PartState)×Int)=>fk (decide (v5.2<(c.Parts.length:Int))) (ix c.Parts v5.2 fun x6=>bnd (admit_Boot x6) fun x7=>fk (!decide (x7.2=(0:Int))) (some (zeroK,x7.2)) (ck (decide ((v5.1.length+([x7.1]:List PartState).length)*120≤140737488355328)) (nx5 (v5.1++([x7.1]:List PartState),(wr (v5.2+(1:Int))))))) (bnd (port_Open c.Ports) fun x8=>some (⟨t,c.Parts.map (·.Face),v5.1,x8.1,(0:Int)⟩,(0:Int)))) FU ([],(0:Int))=some r'→kernel_Boot c=some r':=by
    intro r' hr
    unfold kernel_Boot
    rw[bnd_eq (image_Right_eq c hb),decide_eq_true hc,Bool.not_true,fk_f]
    refine lp_upS c.Parts.length (by unfold FU; omega) (fun k s=>s=(c.Parts.take k).map (·.Face)) [] rfl ?_
    rintro nx k s hk rfl hnx
    dsimp only
    rw[lt_nat]
    by_cases hk':k<c.Parts.length
    · rw[decide_eq_true hk',fk_t,ix_lt hk',ck_t (by simp; omega),wr_succ k _ hk' (by omega)]
      refine hnx _ hk' ?_
      rw[←List.take_append_getElem hk',List.map_append]; rfl
    · rw[decide_eq_false hk',fk_f,List.take_of_length_le (by omega)]
      rw[bnd_eq eT,decide_eq_true rfl,Bool.not_true,fk_f]
      exact hr
  rcases dich with hall | ⟨q,hq,hqe,hqa⟩
  · refine .inr ⟨⟨t,c.Parts.map (·.Face),c.Parts.map fun p=>new0 p.Tasks,c.Ports.map newL,0⟩,kb _ ?_,bootK hc hT,rfl⟩
    · skip
      refine lp_upS c.Parts.length (by unfold FU; omega) (fun k s=>s=(c.Parts.take k).map fun p=>new0 p.Tasks) [] rfl ?_
      rintro nx k s hk rfl hnx
      dsimp only
      rw[lt_nat]
      by_cases hk':k<c.Parts.length
      · have hm:=List.getElem_mem hk'
        rw[decide_eq_true hk',fk_t,ix_lt hk',bnd_eq (admit_Boot_eq _ (hb.t _ hm).1 (hb.t _ hm).2),if_pos (hall _ hm)]
        dsimp only
        rw[decide_eq_true rfl,Bool.not_true,fk_f,ck_t (by simp; omega),wr_succ k _ hk' (by omega)]
        refine hnx _ hk' ?_
        rw[←List.take_append_getElem hk',List.map_append]; rfl
      · rw[decide_eq_false hk',fk_f,List.take_of_length_le (by omega),bnd_eq (port_Open_eq _ hb.q),if_pos hop]
  · refine .inl ⟨bootE c.Parts[q],hqe,kb _ ?_⟩
    · skip
      refine lp_upS c.Parts.length (by unfold FU; omega) (fun k s=>s=((c.Parts.take k).map fun p=>new0 p.Tasks)∧k≤q) [] ⟨rfl,Nat.zero_le _⟩ ?_
      rintro nx k s hk ⟨rfl,hkq⟩ hnx
      dsimp only
      rw[lt_nat]
      have hk':k<c.Parts.length:=by omega
      have hm:=List.getElem_mem hk'
      rw[decide_eq_true hk',fk_t,ix_lt hk',bnd_eq (admit_Boot_eq _ (hb.t _ hm).1 (hb.t _ hm).2)]
      by_cases ek:k=q
      · subst ek
        rw[if_neg hqe]
        dsimp only
        rw[decide_eq_false hqe,Bool.not_false,fk_t]
      · have h0:bootE c.Parts[k]=0:=hqa _ (by
          have hlt:k<(c.Parts.take q).length:=by rw[List.length_take]; omega
          have:=List.getElem_mem hlt
          rwa [List.getElem_take] at this)
        rw[if_pos h0]
        dsimp only
        rw[decide_eq_true rfl,Bool.not_true,fk_f,ck_t (by simp; omega),wr_succ k _ hk' (by omega)]
        refine hnx _ hk' ⟨?_,by omega⟩
        rw[←List.take_append_getElem hk',List.map_append]; rfl

/-! Scripts, and what is left of them. -/
theorem ck_le {α E:Type} {l:List E} {y:E} (z:Nat) {x:Option α} (hz:z≤1000) (hn:l.length≤1000000000):ck (decide ((l.length+([y]:List E).length)*z≤140737488355328)) x=x:=by
  refine ck_t (decide_eq_true ?_)
  simp only[List.length_cons,List.length_nil]
  have:(l.length+(0+1))*z≤1000000001*1000:=Nat.mul_le_mul (by omega) hz
  omega
/-! What is played, tick by tick. -/
noncomputable def delK (s:KernelState):List PortLine:=if s.Now.tmod s.Table.Frame=0 then (port_Deliver s.Lines).getD [] else s.Lines
theorem linesK_del {s:KernelState} (h:kP s):linesK s (delK s):=by
  obtain⟨L,hL⟩:=linesK_ex h
  have e:delK s=L:=by
    have h3:=hL.2.2
    unfold delK
    by_cases c:s.Now.tmod s.Table.Frame=0
    · rw[if_pos c] at h3 ⊢; rw[h3.1]; rfl
    · rw[if_neg c] at h3 ⊢; exact h3.symm
  rw[e]; exact hL
noncomputable def tickK (s:KernelState):KernelState:=⟨s.Table,s.Faces,partsK s,delK s,s.Now+1⟩
theorem tickK_eq {s:KernelState} (h:kP s):kernel_Tick s=some (tickK s,ranK s,0):=kernel_Tick_eq h (linesK_del h)
theorem kP.tickK {s:KernelState} (h:kP s) (hn:s.Now≤90000):kP (tickK s):=h.tick (linesK_del h) hn
theorem ranK_len (s:KernelState):(ranK s).length=s.Parts.length:=by unfold ranK; simp
theorem tickK_len (s:KernelState):(tickK s).Parts.length=s.Parts.length:=by show (partsK s).length=_; unfold partsK; simp
/-- An ask's outcome goes to its partition's row. -/
def sawStep (t:Int) (c:KernelCmd) (v e:Int) (S:List (List WorldSaw)):List (List WorldSaw):=if 0≤c.Part∧c.Part<(S.length:Int) then S.set c.Part.toNat (S.getD c.Part.toNat []++[⟨t,v,e⟩]) else S
theorem sawStep_len (t:Int) (c:KernelCmd) (v e:Int) (S:List (List WorldSaw)):(sawStep t c v e S).length=S.length:=by unfold sawStep; split <;> simp
noncomputable def askL (t:Int) (x:KernelState×List (List WorldSaw)) (c:KernelCmd):KernelState×List (List WorldSaw):=((doK x.1 c).1,sawStep t c (doK x.1 c).2.1 (doK x.1 c).2.2 x.2)
noncomputable def asksL (t:Int) (x:KernelState×List (List WorldSaw)) (l:List KernelCmd):KernelState×List (List WorldSaw):=l.foldl (askL t) x
theorem asksL_succ (t:Int) (x:KernelState×List (List WorldSaw)) (l:List KernelCmd) (k:Nat) (h:k<l.length):asksL t x (l.take (k+1))=askL t (asksL t x (l.take k)) l[k]:=by
  unfold asksL
  rw[←List.take_append_getElem h,List.foldl_append]; rfl
theorem asksL_ok {t:Int} {x:KernelState×List (List WorldSaw)} (h:kP x.1):∀(l:List KernelCmd),kP (asksL t x l).1∧(asksL t x l).1.Now=x.1.Now∧(asksL t x l).1.Parts.length=x.1.Parts.length∧(asksL t x l).2.length=x.2.length:=by
  intro l
  induction l generalizing x with
  | nil=>exact⟨h,rfl,rfl,rfl⟩
  | cons c r ih=>
    obtain⟨d1,d2,d3,d4,d5⟩:=h.do c
    obtain⟨a,b,c',d⟩:=ih (x:=askL t x c) d1
    exact⟨a,b.trans d2,c'.trans d4,d.trans (sawStep_len _ _ _ _ _)⟩
structure PlayS where
  s:KernelState
  saws:List (List WorldSaw)
  rans:List (List Int)
def ranStep (r:List Int) (R:List (List Int)):List (List Int):=List.zipWith (fun a x=>a++[x]) R r
noncomputable def tickL (t:Int) (x:PlayS) (l:List KernelCmd):PlayS:=⟨tickK (asksL t (x.s,x.saws) l).1,(asksL t (x.s,x.saws) l).2,ranStep (ranK (asksL t (x.s,x.saws) l).1) x.rans⟩
noncomputable def playK (s:KernelState) (script:List (List KernelCmd)):Nat→PlayS
  | 0=>⟨s,List.replicate s.Parts.length [],List.replicate s.Parts.length []⟩
  | k+1=>tickL k (playK s script k) (script.getD k [])
theorem playK_ok {s:KernelState} (h:kP s) (script:List (List KernelCmd)) (h0:s.Now=0):∀k,k≤80000→kP (playK s script k).s∧(playK s script k).s.Now=k∧(playK s script k).s.Parts.length=s.Parts.length∧(playK s script k).saws.length=s.Parts.length∧(playK s script k).rans.length=s.Parts.length
  | 0,_=>⟨h,h0,rfl,by simp[playK],by simp[playK]⟩
  | k+1,hk=>by
    obtain⟨a,b,c,d,e⟩:=playK_ok h script h0 k (by omega)
    obtain⟨a2,b2,c2,d2⟩:=asksL_ok (t:=k) (x:=((playK s script k).s,(playK s script k).saws)) a (script.getD k [])
    simp only at b2 c2 d2
    refine⟨a2.tickK (by omega),?_,?_,d2.trans d,?_⟩
    · show (asksL _ _ _).1.Now+1=_
      rw[b2,b]; rfl
    · show (tickK _).Parts.length=_
      rw[tickK_len,c2,c]
    · show (ranStep _ _).length=_
      unfold ranStep
      rw[List.length_zipWith,ranK_len,e,c2,c,Nat.min_self]
/-- The views. -/
def viewsL (x:PlayS):List WorldView:=(List.range x.s.Parts.length).map fun i=>⟨x.saws.getD i [],x.rans.getD i [],((x.s.Parts[i]?).getD emptyP).Log⟩

section
variable {σ R:Type} {r:R} {body:(σ→Option R)→σ→Option R}
theorem asksL_lens {t:Int} {x:KernelState×List (List WorldSaw)} {m:Nat} (h:∀q∈x.2,q.length≤m):∀(l:List KernelCmd),∀q∈(asksL t x l).2,q.length≤m+l.length:=by
  intro l
  induction l generalizing x m with
  | nil=>exact h
  | cons c r ih=>
    have h1:∀q∈(askL t x c).2,q.length≤m+1:=by
      intro q hq
      have hq:q∈sawStep t c (doK x.1 c).2.1 (doK x.1 c).2.2 x.2:=hq
      unfold sawStep at hq
      split at hq
      · rename_i hc
        rcases List.mem_or_eq_of_mem_set hq with hq | hq
        · have:=h q hq; omega
        · rw[hq,List.length_append]
          have hlt:c.Part.toNat<x.2.length:=by omega
          rw[List.getD_eq_getElem?_getD,List.getElem?_eq_getElem hlt]
          have:=h _ (List.getElem_mem hlt)
          simpa using this
      · have:=h q hq; omega
    intro q hq
    have:=ih (x:=askL t x c) h1 q hq
    simp only[List.length_cons]; omega
/-- Over asks. -/
theorem do_lp {m:Nat} (t:Int) (x0:KernelState×List (List WorldSaw)) (l:List KernelCmd) (hl:l.length≤1000) (hk:kP x0.1) (hm:∀q∈x0.2,q.length≤m) (toX:σ→KernelState×List (List WorldSaw)) (idx:σ→Int) (v0:σ) (h0:idx v0=0) (hX0:toX v0=x0)
    (hEnd:∀nx v,idx v=l.length→toX v=asksL t x0 l→kP (toX v).1→(toX v).2.length=x0.2.length→(toX v).1.Parts.length=x0.1.Parts.length→body nx v=some r)
    (hStep:∀nx v (k:Nat) (h:k<l.length),idx v=k→kP (toX v).1→(toX v).2.length=x0.2.length→(∀q∈(toX v).2,q.length≤m+1000)→(∀v',idx v'=(k+1:Nat)→toX v'=askL t (toX v) l[k]→nx v'=some r)→body nx v=some r) :
    lp body FU v0=some r:=by
  refine lp_inv (fun v=>l.length-(idx v).toNat) (fun v=>∃k:Nat,idx v=k∧k≤l.length∧toX v=asksL t x0 (l.take k)) ?_ FU _ ⟨0,h0,Nat.zero_le _,hX0⟩ (by unfold FU; omega)
  rintro nx v ⟨k,h1,h2,h3⟩ hnx
  obtain⟨a,b,c,d⟩:=asksL_ok (t:=t) hk (l.take k)
  by_cases h:k<l.length
  · refine hStep nx v k h h1 (by rw[h3]; exact a) (by rw[h3]; exact d) (by
      intro q hq
      rw[h3] at hq
      have:=asksL_lens (t:=t) hm (l.take k) q hq
      rw[List.length_take] at this; omega) fun v' e1 e2=>hnx v' ⟨k+1,e1,h,?_⟩ (by rw[e1,h1]; omega)
    rw[e2,h3,asksL_succ t x0 l k h]
  · have e:k=l.length:=by omega
    subst e
    rw[List.take_length] at h3 a c d
    exact hEnd nx v h1 h3 (by rw[h3]; exact a) (by rw[h3]; exact d) (by rw[h3]; exact c)
/-- Over ticks. -/
theorem out_lp {s:KernelState} (h:kP s) (hz:s.Now=0) (script:List (List KernelCmd)) (hl:script.length≤1000) (hc:∀x∈script,x.length≤1000) (toP:σ→PlayS) (idx:σ→Int) (v0:σ) (h0:idx v0=0) (hX0:toP v0=playK s script 0)
    (hEnd:∀nx v,idx v=script.length→toP v=playK s script script.length→(toP v).s.Parts.length=s.Parts.length→kP (toP v).s→(∀q∈(toP v).saws,q.length≤1000000)→(∀q∈(toP v).rans,q.length≤1000000)→body nx v=some r)
    (hStep:∀nx v (k:Nat) (h:k<script.length),idx v=k→kP (toP v).s→(toP v).s.Parts.length=s.Parts.length→(toP v).saws.length=s.Parts.length→(toP v).rans.length=s.Parts.length→(∀q∈(toP v).saws,q.length≤1000000)→(∀q∈(toP v).rans,q.length≤1000000)→(∀v',idx v'=(k+1:Nat)→toP v'=tickL k (toP v) script[k]→nx v'=some r)→body nx v=some r) :
    lp body FU v0=some r:=by
  have lens:∀k,k≤script.length→(∀q∈(playK s script k).saws,q.length≤1000*k)∧∀q∈(playK s script k).rans,q.length≤k:=by
    intro k
    induction k with
    | zero=>intro _; exact⟨fun q hq=>by rw[List.eq_of_mem_replicate hq]; simp,fun q hq=>by rw[List.eq_of_mem_replicate hq]; simp⟩
    | succ k ih=>
      intro hk
      obtain⟨a,b⟩:=ih (by omega)
      refine⟨fun q hq=>?_,fun q hq=>?_⟩
      · have:=asksL_lens (t:=k) (x:=((playK s script k).s,(playK s script k).saws)) a (script.getD k []) q hq
        have hk2:k<script.length:=by omega
        rw[List.getD_eq_getElem?_getD,List.getElem?_eq_getElem hk2] at this
        have h2:=hc _ (List.getElem_mem hk2)
        simp only[Option.getD_some] at this
        omega
      · have hq:q∈ranStep (ranK (asksL k ((playK s script k).s,(playK s script k).saws) (script.getD k [])).1) (playK s script k).rans:=hq
        unfold ranStep at hq
        obtain⟨i,hi⟩:=List.getElem?_of_mem hq
        rw[List.getElem?_zipWith] at hi
        split at hi
        · rename_i a' b' ha hb
          cases hi
          rw[List.length_append]
          have:=b a' (List.mem_of_getElem? ha)
          simpa using this
        · cases hi
  refine lp_inv (fun v=>script.length-(idx v).toNat) (fun v=>∃k:Nat,idx v=k∧k≤script.length∧toP v=playK s script k) ?_ FU _ ⟨0,h0,Nat.zero_le _,hX0⟩ (by unfold FU; omega)
  rintro nx v ⟨k,h1,h2,h3⟩ hnx
  obtain⟨a,b,c,d,e⟩:=playK_ok h script hz k (by omega)
  obtain⟨l1,l2⟩:=lens k h2
  by_cases hk:k<script.length
  · refine hStep nx v k hk h1 (by rw[h3]; exact a) (by rw[h3]; exact c) (by rw[h3]; exact d) (by rw[h3]; exact e) (fun q hq=>by have:=l1 q (by rw[←h3]; exact hq); omega) (fun q hq=>by have:=l2 q (by rw[←h3]; exact hq); omega) fun v' e1 e2=>hnx v' ⟨k+1,e1,hk,?_⟩ (by rw[e1,h1]; omega)
    rw[e2,h3]
    show tickL k (playK s script k) script[k]=tickL k (playK s script k) (script.getD k [])
    rw[List.getD_eq_getElem?_getD,List.getElem?_eq_getElem hk]; rfl
  · have e:k=script.length:=by omega
    subst e
    exact hEnd nx v h1 h3 (by rw[h3]; exact c) (by rw[h3]; exact a) (fun q hq=>by have:=l1 q (by rw[←h3]; exact hq); omega) (fun q hq=>by have:=l2 q (by rw[←h3]; exact hq); omega)
/-- One by one the rows of a list are set. -/
theorem set_lp {E:Type} (n:Nat) (hn:n≤1000) (L0 L1:List E) (e0:L0.length=n) (e1:L1.length=n) (toL:σ→List E) (idx:σ→Int) (v0:σ) (h0:idx v0=0) (hX0:toL v0=L0)
    (hEnd:∀nx v,idx v=n→toL v=L1→body nx v=some r)
    (hStep:∀nx v (k:Nat) (h:k<n),idx v=k→(toL v)[k]?=L0[k]?→(toL v).length=n→(∀v',idx v'=(k+1:Nat)→toL v'=(toL v).set k (L1[k]'(by omega))→nx v'=some r)→body nx v=some r) :
    lp body FU v0=some r:=by
  refine lp_inv (fun v=>n-(idx v).toNat) (fun v=>∃k:Nat,idx v=k∧k≤n∧toL v=L1.take k++L0.drop k) ?_ FU _ ⟨0,h0,Nat.zero_le _,by rw[hX0]; simp⟩ (by unfold FU; omega)
  rintro nx v ⟨k,h1,h2,h3⟩ hnx
  by_cases hk:k<n
  · refine hStep nx v k hk h1 ?_ ?_ fun v' e2 e3=>hnx v' ⟨k+1,e2,hk,?_⟩ (by rw[e2,h1]; omega)
    · rw[h3,List.getElem?_append_right (by rw[List.length_take]; omega),List.length_take,List.getElem?_drop]
      congr 1; omega
    · rw[h3,List.length_append,List.length_take,List.length_drop]; omega
    · rw[e3,h3]
      have hd:L0.drop k=L0[k]'(by omega)::L0.drop (k+1):=List.drop_eq_getElem_cons (by omega)
      rw[hd,List.set_append_right _ _ (by rw[List.length_take]; omega)]
      rw[show k-(L1.take k).length=0 by rw[List.length_take]; omega,List.set_cons_zero]
      rw[←List.take_append_getElem (l:=L1) (i:=k) (by omega),List.append_assoc]; rfl
  · have e:k=n:=by omega
    subst e
    refine hEnd nx v h1 ?_
    rw[h3,List.take_of_length_le (by omega),List.drop_of_length_le (by omega),List.append_nil]
end

theorem list0 {α:Type} {l:List α} (h:l.length=0):l=[]:=by
  match l,h with
  | [],_=>exact rfl
theorem list1 {α:Type} {l:List α} (h:l.length=1):∃a0,l=[a0]:=by
  match l,h with
  | [a0],_=>exact⟨a0,rfl⟩
theorem list2 {α:Type} {l:List α} (h:l.length=2):∃a0 a1,l=[a0,a1]:=by
  match l,h with
  | [a0,a1],_=>exact⟨a0,a1,rfl⟩
theorem list3 {α:Type} {l:List α} (h:l.length=3):∃a0 a1 a2,l=[a0,a1,a2]:=by
  match l,h with
  | [a0,a1,a2],_=>exact⟨a0,a1,a2,rfl⟩
theorem list4 {α:Type} {l:List α} (h:l.length=4):∃a0 a1 a2 a3,l=[a0,a1,a2,a3]:=by
  match l,h with
  | [a0,a1,a2,a3],_=>exact⟨a0,a1,a2,a3,rfl⟩
theorem world_may_eq (l:List (List KernelCmd)) (hl:l.length≤300) (hc:∀x∈l,x.length≤10):world_may l=some true:=by
  unfold world_may
  refine lp_up l.length (by unfold FU; omega) (fun _=>True) trivial ?_
  intro nx k hk _ hnx
  rw[lt_nat]
  by_cases h:k<l.length
  · have:=hc _ (List.getElem_mem h)
    rw[decide_eq_true h,fk_t,ix_lt h,decide_eq_false (by omega),fk_f,wr_succ k _ h (by omega)]
    exact hnx h trivial
  · rw[decide_eq_false h,fk_f,decide_eq_true (by omega)]

theorem world_Play_ok {b:List Int} {script:List (List KernelCmd)} {r:Config×Int×Int} {s:KernelState} (hd:image_Decode b=some r) (he:r.2.2=0) (hk:kernel_Boot r.1=some (s,0)) (hs:kP s) (h0:s.Now=0) (hl:script.length≤300) (hc:∀x∈script,x.length≤10):world_Play b script=some (viewsL (playK s script script.length),0):=by
  have h4:=hs.len
  unfold world_Play
  rw[bnd_eq hd,decide_eq_true he,Bool.not_true,fk_f,bnd_eq hk]
  dsimp only
  rw[decide_eq_true rfl,Bool.not_true,fk_f,bnd_eq (world_may_eq script hl hc),Bool.not_true,fk_f]
  by_cases n0:s.Parts.length=0
  · rw[decide_eq_true (by omega),fk_t]
    have hlen:=n0
    refine out_lp hs h0 script (by omega) (fun x hx=>by have:=hc x hx; omega) (fun v=>⟨(⟨⟨v.1,v.2.1⟩,v.2.2.1,v.2.2.2.1,v.2.2.2.2.1,v.2.2.2.2.2.1⟩:KernelState),[],[]⟩) (fun v=>v.2.2.2.2.2.2) _ rfl (by show PlayS.mk _ _ _=_; unfold playK; rw[hlen]; rfl) ?_ ?_
    · rintro nx ⟨f,w,fa,pa,li,nw,q⟩ hv hp hn _ _ _
      simp only at hv hp hn
      rw[hlen] at hn
      subst hv
      simp only
      rw[decide_eq_false (by omega),fk_f]
      refine lp_inv (fun _=>0) (fun _=>True) (fun nx v _ _=>?_) FU () trivial (by unfold FU; omega)
      rw[←hp,show pa=[] from list0 hn]; rfl
    · rintro nx ⟨f,w,fa,pa,li,nw,q⟩ k hk hv kp hn hs2 hr2 lS lR hnx
      simp only at hv kp hn lS lR
      rw[hlen] at hn
      subst hv
      simp only
      rw[decide_eq_true (by omega),fk_t,ix_lt hk]
      refine do_lp (m:=1000000) (k:Int) (⟨⟨f,w⟩,fa,pa,li,nw⟩,[]) script[k] (by have:=hc _ (List.getElem_mem hk); omega) kp lS (fun v=>((⟨⟨v.1,v.2.1⟩,v.2.2.1,v.2.2.2.1,v.2.2.2.2.1,v.2.2.2.2.2.1⟩:KernelState),[])) (fun v=>v.2.2.2.2.2.2) _ rfl rfl ?_ ?_
      · rintro nx2 ⟨f2,w2,fa2,pa2,li2,nw2,q2⟩ hv2 hX kp2 hl2 hp2
        simp only at hv2 hX kp2 hl2 hp2
        rw[hn] at hp2
        subst hv2
        simp only
        rw[decide_eq_false (by omega),fk_f,bnd_eq (tickK_eq kp2)]
        dsimp only
        have hrl:(ranK ⟨⟨f2,w2⟩,fa2,pa2,li2,nw2⟩).length=0:=by rw[ranK_len]; exact hp2
        refine lp_inv (fun _=>0) (fun _=>True) (fun nx3 v _ _=>?_) FU () trivial (by unfold FU; omega)
        rw[wr_succ k _ hk (by omega)]
        refine hnx _ rfl ?_
        unfold tickL
        dsimp only
        rw[←hX]
        show PlayS.mk _ _ _=PlayS.mk _ _ _
        unfold ranStep
        rfl
      · rintro nx2 ⟨f2,w2,fa2,pa2,li2,nw2,q2⟩ k2 hk2 hv2 kp2 hl2 lS2 hnx2
        simp only at hv2 kp2 hl2 lS2
        subst hv2
        simp only
        rw[decide_eq_true (by omega),fk_t,ix_lt hk2,bnd_eq (kernel_Do_eq _ _ kp2)]
        generalize hd:doK ⟨⟨f2,w2⟩,fa2,pa2,li2,nw2⟩ script[k][k2]=d
        rw[wr_succ k2 _ hk2 (by have:=hc _ (List.getElem_mem hk); omega)]
        generalize hcc:script[k][k2]=c at hd hnx2 ⊢
        have nxt:∀S,S=sawStep (k:Int) c d.2.1 d.2.2 []→(⟨⟨d.1.Table.Frame,d.1.Table.Windows⟩,d.1.Faces,d.1.Parts,d.1.Lines,d.1.Now⟩,S)=askL (k:Int) (⟨⟨f2,w2⟩,fa2,pa2,li2,nw2⟩,[]) c:=fun S hS=>by unfold askL; dsimp only; rw[hd,hS]
        by_cases q0:0≤c.Part∧c.Part<(0:Int)
        rotate_left
        · refine jn_to () (fun k1=>jn_to false (fun k4=>?_) ?_) ?_
          · by_cases z:c.Part≥0
            · rw[decide_eq_true z,fk_t,decide_eq_false (by omega)]
            · rw[decide_eq_false z,fk_f]
          · rw[fk_f]
          · refine hnx2 _ rfl (nxt _ ?_)
            unfold sawStep
            rw[if_neg (by simp)]
        · omega
  rw[decide_eq_false (by omega),fk_f]
  by_cases n1:s.Parts.length=1
  · rw[decide_eq_true (by omega),fk_t]
    have hlen:=n1
    refine out_lp hs h0 script (by omega) (fun x hx=>by have:=hc x hx; omega) (fun v=>⟨(⟨⟨v.1,v.2.1⟩,v.2.2.1,v.2.2.2.1,v.2.2.2.2.1,v.2.2.2.2.2.1⟩:KernelState),[v.2.2.2.2.2.2.1],[v.2.2.2.2.2.2.2.1]⟩) (fun v=>v.2.2.2.2.2.2.2.2) _ rfl (by show PlayS.mk _ _ _=_; unfold playK; rw[hlen]; rfl) ?_ ?_
    · rintro nx ⟨f,w,fa,pa,li,nw,s0,r0,q⟩ hv hp hn _ _ _
      simp only at hv hp hn
      rw[hlen] at hn
      subst hv
      simp only
      rw[decide_eq_false (by omega),fk_f]
      obtain⟨p0,rfl⟩:=list1 hn
      refine set_lp 1 (by decide) [([]:List Entry)] [p0.Log] rfl rfl (fun v=>[v.1]) (fun v=>v.2) _ rfl rfl ?_ ?_
      · rintro nx2 ⟨l0,q2⟩ hv2 hL
        simp only at hv2 hL
        subst hv2
        simp only[List.cons.injEq,and_true] at hL
        obtain rfl:=hL
        simp only
        rw[decide_eq_false (by decide),fk_f,←hp]; rfl
      · rintro nx2 ⟨l0,q2⟩ k hk hv2 _ _ hnx2
        simp only at hv2
        subst hv2
        have hk2:k=0:=by omega
        rcases hk2 with rfl
        · exact hnx2 (p0.Log,((1:Nat):Int)) rfl rfl
    · rintro nx ⟨f,w,fa,pa,li,nw,s0,r0,q⟩ k hk hv kp hn hs2 hr2 lS lR hnx
      simp only at hv kp hn lS lR
      rw[hlen] at hn
      subst hv
      simp only
      rw[decide_eq_true (by omega),fk_t,ix_lt hk]
      refine do_lp (m:=1000000) (k:Int) (⟨⟨f,w⟩,fa,pa,li,nw⟩,[s0]) script[k] (by have:=hc _ (List.getElem_mem hk); omega) kp lS (fun v=>((⟨⟨v.1,v.2.1⟩,v.2.2.1,v.2.2.2.1,v.2.2.2.2.1,v.2.2.2.2.2.1⟩:KernelState),[v.2.2.2.2.2.2.1])) (fun v=>v.2.2.2.2.2.2.2) _ rfl rfl ?_ ?_
      · rintro nx2 ⟨f2,w2,fa2,pa2,li2,nw2,t0,q2⟩ hv2 hX kp2 hl2 hp2
        simp only at hv2 hX kp2 hl2 hp2
        rw[hn] at hp2
        subst hv2
        simp only
        rw[decide_eq_false (by omega),fk_f,bnd_eq (tickK_eq kp2)]
        dsimp only
        have hrl:(ranK ⟨⟨f2,w2⟩,fa2,pa2,li2,nw2⟩).length=1:=by rw[ranK_len]; exact hp2
        obtain⟨y0,hy⟩:=list1 hrl
        rw[hy]
        refine set_lp 1 (by decide) [r0] [r0++[y0]] rfl rfl (fun v=>[v.1]) (fun v=>v.2) _ rfl rfl ?_ ?_
        · rintro nx3 ⟨u0,q3⟩ hv3 hL
          simp only at hv3 hL
          subst hv3
          simp only[List.cons.injEq,and_true] at hL
          obtain rfl:=hL
          simp only
          rw[decide_eq_false (by decide),fk_f]
          rw[wr_succ k _ hk (by omega)]
          refine hnx _ rfl ?_
          unfold tickL
          dsimp only
          rw[←hX,hy]
          rfl
        · rintro nx3 ⟨u0,q3⟩ k3 hk3 hv3 hg _ hnx3
          simp only at hv3 hg
          subst hv3
          have hk2:k3=0:=by omega
          rcases hk2 with rfl
          · have hu:u0=r0:=Option.some.inj hg
            subst hu
            have hlen9:u0.length≤1000000000:=by have:=lR u0 (by simp); omega
            exact (ck_le 8 (by decide) hlen9).trans (hnx3 (u0++[y0],((1:Nat):Int)) rfl rfl)
      · rintro nx2 ⟨f2,w2,fa2,pa2,li2,nw2,t0,q2⟩ k2 hk2 hv2 kp2 hl2 lS2 hnx2
        simp only at hv2 kp2 hl2 lS2
        subst hv2
        simp only
        rw[decide_eq_true (by omega),fk_t,ix_lt hk2,bnd_eq (kernel_Do_eq _ _ kp2)]
        generalize hd:doK ⟨⟨f2,w2⟩,fa2,pa2,li2,nw2⟩ script[k][k2]=d
        rw[wr_succ k2 _ hk2 (by have:=hc _ (List.getElem_mem hk); omega)]
        generalize hcc:script[k][k2]=c at hd hnx2 ⊢
        have nxt:∀S,S=sawStep (k:Int) c d.2.1 d.2.2 [t0]→(⟨⟨d.1.Table.Frame,d.1.Table.Windows⟩,d.1.Faces,d.1.Parts,d.1.Lines,d.1.Now⟩,S)=askL (k:Int) (⟨⟨f2,w2⟩,fa2,pa2,li2,nw2⟩,[t0]) c:=fun S hS=>by unfold askL; dsimp only; rw[hd,hS]
        by_cases q0:0≤c.Part∧c.Part<(1:Int)
        rotate_left
        · refine jn_to t0 (fun k1=>jn_to false (fun k4=>?_) ?_) ?_
          · by_cases z:c.Part≥0
            · rw[decide_eq_true z,fk_t,decide_eq_false (by omega)]
            · rw[decide_eq_false z,fk_f]
          · rw[fk_f]
          · refine hnx2 _ rfl (nxt _ ?_)
            unfold sawStep
            rw[if_neg (by simpa using q0)]
        have hi:c.Part=0:=by omega
        rcases hi with hi
        · refine jn_to (t0++[⟨(k:Int),d.2.1,d.2.2⟩]) (fun k1=>jn_to true (fun k4=>?_) ?_) ?_
          · rw[decide_eq_true (by omega),fk_t,decide_eq_true (by omega)]
          · rw[fk_t]
            rw[decide_eq_true (p:=c.Part=(0:Int)) hi,fk_t]
            exact ck_le 24 (by decide) (by have:=lS2 t0 (by simp); omega)
          · refine hnx2 _ rfl (nxt _ ?_)
            unfold sawStep
            rw[if_pos (by simpa using q0),hi]; rfl
  rw[decide_eq_false (by omega),fk_f]
  by_cases n2:s.Parts.length=2
  · rw[decide_eq_true (by omega),fk_t]
    have hlen:=n2
    refine out_lp hs h0 script (by omega) (fun x hx=>by have:=hc x hx; omega) (fun v=>⟨(⟨⟨v.1,v.2.1⟩,v.2.2.1,v.2.2.2.1,v.2.2.2.2.1,v.2.2.2.2.2.1⟩:KernelState),[v.2.2.2.2.2.2.1,v.2.2.2.2.2.2.2.2.1],[v.2.2.2.2.2.2.2.1,v.2.2.2.2.2.2.2.2.2.1]⟩) (fun v=>v.2.2.2.2.2.2.2.2.2.2) _ rfl (by show PlayS.mk _ _ _=_; unfold playK; rw[hlen]; rfl) ?_ ?_
    · rintro nx ⟨f,w,fa,pa,li,nw,s0,r0,s1,r1,q⟩ hv hp hn _ _ _
      simp only at hv hp hn
      rw[hlen] at hn
      subst hv
      simp only
      rw[decide_eq_false (by omega),fk_f]
      obtain⟨p0,p1,rfl⟩:=list2 hn
      refine set_lp 2 (by decide) [([]:List Entry),([]:List Entry)] [p0.Log,p1.Log] rfl rfl (fun v=>[v.1,v.2.1]) (fun v=>v.2.2) _ rfl rfl ?_ ?_
      · rintro nx2 ⟨l0,l1,q2⟩ hv2 hL
        simp only at hv2 hL
        subst hv2
        simp only[List.cons.injEq,and_true] at hL
        obtain⟨rfl,rfl⟩:=hL
        simp only
        rw[decide_eq_false (by decide),fk_f,←hp]; rfl
      · rintro nx2 ⟨l0,l1,q2⟩ k hk hv2 _ _ hnx2
        simp only at hv2
        subst hv2
        have hk2:k=0∨k=1:=by omega
        rcases hk2 with rfl | rfl
        · exact hnx2 (p0.Log,l1,((1:Nat):Int)) rfl rfl
        · exact hnx2 (l0,p1.Log,((2:Nat):Int)) rfl rfl
    · rintro nx ⟨f,w,fa,pa,li,nw,s0,r0,s1,r1,q⟩ k hk hv kp hn hs2 hr2 lS lR hnx
      simp only at hv kp hn lS lR
      rw[hlen] at hn
      subst hv
      simp only
      rw[decide_eq_true (by omega),fk_t,ix_lt hk]
      refine do_lp (m:=1000000) (k:Int) (⟨⟨f,w⟩,fa,pa,li,nw⟩,[s0,s1]) script[k] (by have:=hc _ (List.getElem_mem hk); omega) kp lS (fun v=>((⟨⟨v.1,v.2.1⟩,v.2.2.1,v.2.2.2.1,v.2.2.2.2.1,v.2.2.2.2.2.1⟩:KernelState),[v.2.2.2.2.2.2.1,v.2.2.2.2.2.2.2.1])) (fun v=>v.2.2.2.2.2.2.2.2) _ rfl rfl ?_ ?_
      · rintro nx2 ⟨f2,w2,fa2,pa2,li2,nw2,t0,t1,q2⟩ hv2 hX kp2 hl2 hp2
        simp only at hv2 hX kp2 hl2 hp2
        rw[hn] at hp2
        subst hv2
        simp only
        rw[decide_eq_false (by omega),fk_f,bnd_eq (tickK_eq kp2)]
        dsimp only
        have hrl:(ranK ⟨⟨f2,w2⟩,fa2,pa2,li2,nw2⟩).length=2:=by rw[ranK_len]; exact hp2
        obtain⟨y0,y1,hy⟩:=list2 hrl
        rw[hy]
        refine set_lp 2 (by decide) [r0,r1] [r0++[y0],r1++[y1]] rfl rfl (fun v=>[v.1,v.2.1]) (fun v=>v.2.2) _ rfl rfl ?_ ?_
        · rintro nx3 ⟨u0,u1,q3⟩ hv3 hL
          simp only at hv3 hL
          subst hv3
          simp only[List.cons.injEq,and_true] at hL
          obtain⟨rfl,rfl⟩:=hL
          simp only
          rw[decide_eq_false (by decide),fk_f]
          rw[wr_succ k _ hk (by omega)]
          refine hnx _ rfl ?_
          unfold tickL
          dsimp only
          rw[←hX,hy]
          rfl
        · rintro nx3 ⟨u0,u1,q3⟩ k3 hk3 hv3 hg _ hnx3
          simp only at hv3 hg
          subst hv3
          have hk2:k3=0∨k3=1:=by omega
          rcases hk2 with rfl | rfl
          · have hu:u0=r0:=Option.some.inj hg
            subst hu
            have hlen9:u0.length≤1000000000:=by have:=lR u0 (by simp); omega
            exact (ck_le 8 (by decide) hlen9).trans (hnx3 (u0++[y0],u1,((1:Nat):Int)) rfl rfl)
          · have hu:u1=r1:=Option.some.inj hg
            subst hu
            have hlen9:u1.length≤1000000000:=by have:=lR u1 (by simp); omega
            exact (ck_le 8 (by decide) hlen9).trans (hnx3 (u0,u1++[y1],((2:Nat):Int)) rfl rfl)
      · rintro nx2 ⟨f2,w2,fa2,pa2,li2,nw2,t0,t1,q2⟩ k2 hk2 hv2 kp2 hl2 lS2 hnx2
        simp only at hv2 kp2 hl2 lS2
        subst hv2
        simp only
        rw[decide_eq_true (by omega),fk_t,ix_lt hk2,bnd_eq (kernel_Do_eq _ _ kp2)]
        generalize hd:doK ⟨⟨f2,w2⟩,fa2,pa2,li2,nw2⟩ script[k][k2]=d
        rw[wr_succ k2 _ hk2 (by have:=hc _ (List.getElem_mem hk); omega)]
        generalize hcc:script[k][k2]=c at hd hnx2 ⊢
        have nxt:∀S,S=sawStep (k:Int) c d.2.1 d.2.2 [t0,t1]→(⟨⟨d.1.Table.Frame,d.1.Table.Windows⟩,d.1.Faces,d.1.Parts,d.1.Lines,d.1.Now⟩,S)=askL (k:Int) (⟨⟨f2,w2⟩,fa2,pa2,li2,nw2⟩,[t0,t1]) c:=fun S hS=>by unfold askL; dsimp only; rw[hd,hS]
        by_cases q0:0≤c.Part∧c.Part<(2:Int)
        rotate_left
        · refine jn_to (t0,t1) (fun k1=>jn_to false (fun k4=>?_) ?_) ?_
          · by_cases z:c.Part≥0
            · rw[decide_eq_true z,fk_t,decide_eq_false (by omega)]
            · rw[decide_eq_false z,fk_f]
          · rw[fk_f]
          · refine hnx2 _ rfl (nxt _ ?_)
            unfold sawStep
            rw[if_neg (by simpa using q0)]
        have hi:c.Part=0∨c.Part=1:=by omega
        rcases hi with hi | hi
        · refine jn_to (t0++[⟨(k:Int),d.2.1,d.2.2⟩],t1) (fun k1=>jn_to true (fun k4=>?_) ?_) ?_
          · rw[decide_eq_true (by omega),fk_t,decide_eq_true (by omega)]
          · rw[fk_t]
            rw[decide_eq_true (p:=c.Part=(0:Int)) hi,fk_t]
            exact ck_le 24 (by decide) (by have:=lS2 t0 (by simp); omega)
          · refine hnx2 _ rfl (nxt _ ?_)
            unfold sawStep
            rw[if_pos (by simpa using q0),hi]; rfl
        · refine jn_to (t0,t1++[⟨(k:Int),d.2.1,d.2.2⟩]) (fun k1=>jn_to true (fun k4=>?_) ?_) ?_
          · rw[decide_eq_true (by omega),fk_t,decide_eq_true (by omega)]
          · rw[fk_t]
            rw[decide_eq_false (p:=c.Part=(0:Int)) (by omega),fk_f]
            rw[decide_eq_true (p:=c.Part=(1:Int)) hi,fk_t]
            exact ck_le 24 (by decide) (by have:=lS2 t1 (by simp); omega)
          · refine hnx2 _ rfl (nxt _ ?_)
            unfold sawStep
            rw[if_pos (by simpa using q0),hi]; rfl
  rw[decide_eq_false (by omega),fk_f]
  by_cases n3:s.Parts.length=3
  · rw[decide_eq_true (by omega),fk_t]
    have hlen:=n3
    refine out_lp hs h0 script (by omega) (fun x hx=>by have:=hc x hx; omega) (fun v=>⟨(⟨⟨v.1,v.2.1⟩,v.2.2.1,v.2.2.2.1,v.2.2.2.2.1,v.2.2.2.2.2.1⟩:KernelState),[v.2.2.2.2.2.2.1,v.2.2.2.2.2.2.2.2.1,v.2.2.2.2.2.2.2.2.2.2.1],[v.2.2.2.2.2.2.2.1,v.2.2.2.2.2.2.2.2.2.1,v.2.2.2.2.2.2.2.2.2.2.2.1]⟩) (fun v=>v.2.2.2.2.2.2.2.2.2.2.2.2) _ rfl (by show PlayS.mk _ _ _=_; unfold playK; rw[hlen]; rfl) ?_ ?_
    · rintro nx ⟨f,w,fa,pa,li,nw,s0,r0,s1,r1,s2,r2,q⟩ hv hp hn _ _ _
      simp only at hv hp hn
      rw[hlen] at hn
      subst hv
      simp only
      rw[decide_eq_false (by omega),fk_f]
      obtain⟨p0,p1,p2,rfl⟩:=list3 hn
      refine set_lp 3 (by decide) [([]:List Entry),([]:List Entry),([]:List Entry)] [p0.Log,p1.Log,p2.Log] rfl rfl (fun v=>[v.1,v.2.1,v.2.2.1]) (fun v=>v.2.2.2) _ rfl rfl ?_ ?_
      · rintro nx2 ⟨l0,l1,l2,q2⟩ hv2 hL
        simp only at hv2 hL
        subst hv2
        simp only[List.cons.injEq,and_true] at hL
        obtain⟨rfl,rfl,rfl⟩:=hL
        simp only
        rw[decide_eq_false (by decide),fk_f,←hp]; rfl
      · rintro nx2 ⟨l0,l1,l2,q2⟩ k hk hv2 _ _ hnx2
        simp only at hv2
        subst hv2
        have hk2:k=0∨k=1∨k=2:=by omega
        rcases hk2 with rfl | rfl | rfl
        · exact hnx2 (p0.Log,l1,l2,((1:Nat):Int)) rfl rfl
        · exact hnx2 (l0,p1.Log,l2,((2:Nat):Int)) rfl rfl
        · exact hnx2 (l0,l1,p2.Log,((3:Nat):Int)) rfl rfl
    · rintro nx ⟨f,w,fa,pa,li,nw,s0,r0,s1,r1,s2,r2,q⟩ k hk hv kp hn hs2 hr2 lS lR hnx
      simp only at hv kp hn lS lR
      rw[hlen] at hn
      subst hv
      simp only
      rw[decide_eq_true (by omega),fk_t,ix_lt hk]
      refine do_lp (m:=1000000) (k:Int) (⟨⟨f,w⟩,fa,pa,li,nw⟩,[s0,s1,s2]) script[k] (by have:=hc _ (List.getElem_mem hk); omega) kp lS (fun v=>((⟨⟨v.1,v.2.1⟩,v.2.2.1,v.2.2.2.1,v.2.2.2.2.1,v.2.2.2.2.2.1⟩:KernelState),[v.2.2.2.2.2.2.1,v.2.2.2.2.2.2.2.1,v.2.2.2.2.2.2.2.2.1])) (fun v=>v.2.2.2.2.2.2.2.2.2) _ rfl rfl ?_ ?_
      · rintro nx2 ⟨f2,w2,fa2,pa2,li2,nw2,t0,t1,t2,q2⟩ hv2 hX kp2 hl2 hp2
        simp only at hv2 hX kp2 hl2 hp2
        rw[hn] at hp2
        subst hv2
        simp only
        rw[decide_eq_false (by omega),fk_f,bnd_eq (tickK_eq kp2)]
        dsimp only
        have hrl:(ranK ⟨⟨f2,w2⟩,fa2,pa2,li2,nw2⟩).length=3:=by rw[ranK_len]; exact hp2
        obtain⟨y0,y1,y2,hy⟩:=list3 hrl
        rw[hy]
        refine set_lp 3 (by decide) [r0,r1,r2] [r0++[y0],r1++[y1],r2++[y2]] rfl rfl (fun v=>[v.1,v.2.1,v.2.2.1]) (fun v=>v.2.2.2) _ rfl rfl ?_ ?_
        · rintro nx3 ⟨u0,u1,u2,q3⟩ hv3 hL
          simp only at hv3 hL
          subst hv3
          simp only[List.cons.injEq,and_true] at hL
          obtain⟨rfl,rfl,rfl⟩:=hL
          simp only
          rw[decide_eq_false (by decide),fk_f]
          rw[wr_succ k _ hk (by omega)]
          refine hnx _ rfl ?_
          unfold tickL
          dsimp only
          rw[←hX,hy]
          rfl
        · rintro nx3 ⟨u0,u1,u2,q3⟩ k3 hk3 hv3 hg _ hnx3
          simp only at hv3 hg
          subst hv3
          have hk2:k3=0∨k3=1∨k3=2:=by omega
          rcases hk2 with rfl | rfl | rfl
          · have hu:u0=r0:=Option.some.inj hg
            subst hu
            have hlen9:u0.length≤1000000000:=by have:=lR u0 (by simp); omega
            exact (ck_le 8 (by decide) hlen9).trans (hnx3 (u0++[y0],u1,u2,((1:Nat):Int)) rfl rfl)
          · have hu:u1=r1:=Option.some.inj hg
            subst hu
            have hlen9:u1.length≤1000000000:=by have:=lR u1 (by simp); omega
            exact (ck_le 8 (by decide) hlen9).trans (hnx3 (u0,u1++[y1],u2,((2:Nat):Int)) rfl rfl)
          · have hu:u2=r2:=Option.some.inj hg
            subst hu
            have hlen9:u2.length≤1000000000:=by have:=lR u2 (by simp); omega
            exact (ck_le 8 (by decide) hlen9).trans (hnx3 (u0,u1,u2++[y2],((3:Nat):Int)) rfl rfl)
      · rintro nx2 ⟨f2,w2,fa2,pa2,li2,nw2,t0,t1,t2,q2⟩ k2 hk2 hv2 kp2 hl2 lS2 hnx2
        simp only at hv2 kp2 hl2 lS2
        subst hv2
        simp only
        rw[decide_eq_true (by omega),fk_t,ix_lt hk2,bnd_eq (kernel_Do_eq _ _ kp2)]
        generalize hd:doK ⟨⟨f2,w2⟩,fa2,pa2,li2,nw2⟩ script[k][k2]=d
        rw[wr_succ k2 _ hk2 (by have:=hc _ (List.getElem_mem hk); omega)]
        generalize hcc:script[k][k2]=c at hd hnx2 ⊢
        have nxt:∀S,S=sawStep (k:Int) c d.2.1 d.2.2 [t0,t1,t2]→(⟨⟨d.1.Table.Frame,d.1.Table.Windows⟩,d.1.Faces,d.1.Parts,d.1.Lines,d.1.Now⟩,S)=askL (k:Int) (⟨⟨f2,w2⟩,fa2,pa2,li2,nw2⟩,[t0,t1,t2]) c:=fun S hS=>by unfold askL; dsimp only; rw[hd,hS]
        by_cases q0:0≤c.Part∧c.Part<(3:Int)
        rotate_left
        · refine jn_to (t0,t1,t2) (fun k1=>jn_to false (fun k4=>?_) ?_) ?_
          · by_cases z:c.Part≥0
            · rw[decide_eq_true z,fk_t,decide_eq_false (by omega)]
            · rw[decide_eq_false z,fk_f]
          · rw[fk_f]
          · refine hnx2 _ rfl (nxt _ ?_)
            unfold sawStep
            rw[if_neg (by simpa using q0)]
        have hi:c.Part=0∨c.Part=1∨c.Part=2:=by omega
        rcases hi with hi | hi | hi
        · refine jn_to (t0++[⟨(k:Int),d.2.1,d.2.2⟩],t1,t2) (fun k1=>jn_to true (fun k4=>?_) ?_) ?_
          · rw[decide_eq_true (by omega),fk_t,decide_eq_true (by omega)]
          · rw[fk_t]
            rw[decide_eq_true (p:=c.Part=(0:Int)) hi,fk_t]
            exact ck_le 24 (by decide) (by have:=lS2 t0 (by simp); omega)
          · refine hnx2 _ rfl (nxt _ ?_)
            unfold sawStep
            rw[if_pos (by simpa using q0),hi]; rfl
        · refine jn_to (t0,t1++[⟨(k:Int),d.2.1,d.2.2⟩],t2) (fun k1=>jn_to true (fun k4=>?_) ?_) ?_
          · rw[decide_eq_true (by omega),fk_t,decide_eq_true (by omega)]
          · rw[fk_t]
            rw[decide_eq_false (p:=c.Part=(0:Int)) (by omega),fk_f]
            rw[decide_eq_true (p:=c.Part=(1:Int)) hi,fk_t]
            exact ck_le 24 (by decide) (by have:=lS2 t1 (by simp); omega)
          · refine hnx2 _ rfl (nxt _ ?_)
            unfold sawStep
            rw[if_pos (by simpa using q0),hi]; rfl
        · refine jn_to (t0,t1,t2++[⟨(k:Int),d.2.1,d.2.2⟩]) (fun k1=>jn_to true (fun k4=>?_) ?_) ?_
          · rw[decide_eq_true (by omega),fk_t,decide_eq_true (by omega)]
          · rw[fk_t]
            rw[decide_eq_false (p:=c.Part=(0:Int)) (by omega),fk_f]
            rw[decide_eq_false (p:=c.Part=(1:Int)) (by omega),fk_f]
            rw[decide_eq_true (p:=c.Part=(2:Int)) hi,fk_t]
            exact ck_le 24 (by decide) (by have:=lS2 t2 (by simp); omega)
          · refine hnx2 _ rfl (nxt _ ?_)
            unfold sawStep
            rw[if_pos (by simpa using q0),hi]; rfl
  rw[decide_eq_false (by omega),fk_f]
  have n4:s.Parts.length=4:=by omega
  rw[decide_eq_true (by omega),fk_t]
  have hlen:=n4
  refine out_lp hs h0 script (by omega) (fun x hx=>by have:=hc x hx; omega) (fun v=>⟨(⟨⟨v.1,v.2.1⟩,v.2.2.1,v.2.2.2.1,v.2.2.2.2.1,v.2.2.2.2.2.1⟩:KernelState),[v.2.2.2.2.2.2.1,v.2.2.2.2.2.2.2.2.1,v.2.2.2.2.2.2.2.2.2.2.1,v.2.2.2.2.2.2.2.2.2.2.2.2.1],[v.2.2.2.2.2.2.2.1,v.2.2.2.2.2.2.2.2.2.1,v.2.2.2.2.2.2.2.2.2.2.2.1,v.2.2.2.2.2.2.2.2.2.2.2.2.2.1]⟩) (fun v=>v.2.2.2.2.2.2.2.2.2.2.2.2.2.2) _ rfl (by show PlayS.mk _ _ _=_; unfold playK; rw[hlen]; rfl) ?_ ?_
  · rintro nx ⟨f,w,fa,pa,li,nw,s0,r0,s1,r1,s2,r2,s3,r3,q⟩ hv hp hn _ _ _
    simp only at hv hp hn
    rw[hlen] at hn
    subst hv
    simp only
    rw[decide_eq_false (by omega),fk_f]
    obtain⟨p0,p1,p2,p3,rfl⟩:=list4 hn
    refine set_lp 4 (by decide) [([]:List Entry),([]:List Entry),([]:List Entry),([]:List Entry)] [p0.Log,p1.Log,p2.Log,p3.Log] rfl rfl (fun v=>[v.1,v.2.1,v.2.2.1,v.2.2.2.1]) (fun v=>v.2.2.2.2) _ rfl rfl ?_ ?_
    · rintro nx2 ⟨l0,l1,l2,l3,q2⟩ hv2 hL
      simp only at hv2 hL
      subst hv2
      simp only[List.cons.injEq,and_true] at hL
      obtain⟨rfl,rfl,rfl,rfl⟩:=hL
      simp only
      rw[decide_eq_false (by decide),fk_f,←hp]; rfl
    · rintro nx2 ⟨l0,l1,l2,l3,q2⟩ k hk hv2 _ _ hnx2
      simp only at hv2
      subst hv2
      have hk2:k=0∨k=1∨k=2∨k=3:=by omega
      rcases hk2 with rfl | rfl | rfl | rfl
      · exact hnx2 (p0.Log,l1,l2,l3,((1:Nat):Int)) rfl rfl
      · exact hnx2 (l0,p1.Log,l2,l3,((2:Nat):Int)) rfl rfl
      · exact hnx2 (l0,l1,p2.Log,l3,((3:Nat):Int)) rfl rfl
      · exact hnx2 (l0,l1,l2,p3.Log,((4:Nat):Int)) rfl rfl
  · rintro nx ⟨f,w,fa,pa,li,nw,s0,r0,s1,r1,s2,r2,s3,r3,q⟩ k hk hv kp hn hs2 hr2 lS lR hnx
    simp only at hv kp hn lS lR
    rw[hlen] at hn
    subst hv
    simp only
    rw[decide_eq_true (by omega),fk_t,ix_lt hk]
    refine do_lp (m:=1000000) (k:Int) (⟨⟨f,w⟩,fa,pa,li,nw⟩,[s0,s1,s2,s3]) script[k] (by have:=hc _ (List.getElem_mem hk); omega) kp lS (fun v=>((⟨⟨v.1,v.2.1⟩,v.2.2.1,v.2.2.2.1,v.2.2.2.2.1,v.2.2.2.2.2.1⟩:KernelState),[v.2.2.2.2.2.2.1,v.2.2.2.2.2.2.2.1,v.2.2.2.2.2.2.2.2.1,v.2.2.2.2.2.2.2.2.2.1])) (fun v=>v.2.2.2.2.2.2.2.2.2.2) _ rfl rfl ?_ ?_
    · rintro nx2 ⟨f2,w2,fa2,pa2,li2,nw2,t0,t1,t2,t3,q2⟩ hv2 hX kp2 hl2 hp2
      simp only at hv2 hX kp2 hl2 hp2
      rw[hn] at hp2
      subst hv2
      simp only
      rw[decide_eq_false (by omega),fk_f,bnd_eq (tickK_eq kp2)]
      dsimp only
      have hrl:(ranK ⟨⟨f2,w2⟩,fa2,pa2,li2,nw2⟩).length=4:=by rw[ranK_len]; exact hp2
      obtain⟨y0,y1,y2,y3,hy⟩:=list4 hrl
      rw[hy]
      refine set_lp 4 (by decide) [r0,r1,r2,r3] [r0++[y0],r1++[y1],r2++[y2],r3++[y3]] rfl rfl (fun v=>[v.1,v.2.1,v.2.2.1,v.2.2.2.1]) (fun v=>v.2.2.2.2) _ rfl rfl ?_ ?_
      · rintro nx3 ⟨u0,u1,u2,u3,q3⟩ hv3 hL
        simp only at hv3 hL
        subst hv3
        simp only[List.cons.injEq,and_true] at hL
        obtain⟨rfl,rfl,rfl,rfl⟩:=hL
        simp only
        rw[decide_eq_false (by decide),fk_f]
        rw[wr_succ k _ hk (by omega)]
        refine hnx _ rfl ?_
        unfold tickL
        dsimp only
        rw[←hX,hy]
        rfl
      · rintro nx3 ⟨u0,u1,u2,u3,q3⟩ k3 hk3 hv3 hg _ hnx3
        simp only at hv3 hg
        subst hv3
        have hk2:k3=0∨k3=1∨k3=2∨k3=3:=by omega
        rcases hk2 with rfl | rfl | rfl | rfl
        · have hu:u0=r0:=Option.some.inj hg
          subst hu
          have hlen9:u0.length≤1000000000:=by have:=lR u0 (by simp); omega
          exact (ck_le 8 (by decide) hlen9).trans (hnx3 (u0++[y0],u1,u2,u3,((1:Nat):Int)) rfl rfl)
        · have hu:u1=r1:=Option.some.inj hg
          subst hu
          have hlen9:u1.length≤1000000000:=by have:=lR u1 (by simp); omega
          exact (ck_le 8 (by decide) hlen9).trans (hnx3 (u0,u1++[y1],u2,u3,((2:Nat):Int)) rfl rfl)
        · have hu:u2=r2:=Option.some.inj hg
          subst hu
          have hlen9:u2.length≤1000000000:=by have:=lR u2 (by simp); omega
          exact (ck_le 8 (by decide) hlen9).trans (hnx3 (u0,u1,u2++[y2],u3,((3:Nat):Int)) rfl rfl)
        · have hu:u3=r3:=Option.some.inj hg
          subst hu
          have hlen9:u3.length≤1000000000:=by have:=lR u3 (by simp); omega
          exact (ck_le 8 (by decide) hlen9).trans (hnx3 (u0,u1,u2,u3++[y3],((4:Nat):Int)) rfl rfl)
    · rintro nx2 ⟨f2,w2,fa2,pa2,li2,nw2,t0,t1,t2,t3,q2⟩ k2 hk2 hv2 kp2 hl2 lS2 hnx2
      simp only at hv2 kp2 hl2 lS2
      subst hv2
      simp only
      rw[decide_eq_true (by omega),fk_t,ix_lt hk2,bnd_eq (kernel_Do_eq _ _ kp2)]
      generalize hd:doK ⟨⟨f2,w2⟩,fa2,pa2,li2,nw2⟩ script[k][k2]=d
      rw[wr_succ k2 _ hk2 (by have:=hc _ (List.getElem_mem hk); omega)]
      generalize hcc:script[k][k2]=c at hd hnx2 ⊢
      have nxt:∀S,S=sawStep (k:Int) c d.2.1 d.2.2 [t0,t1,t2,t3]→(⟨⟨d.1.Table.Frame,d.1.Table.Windows⟩,d.1.Faces,d.1.Parts,d.1.Lines,d.1.Now⟩,S)=askL (k:Int) (⟨⟨f2,w2⟩,fa2,pa2,li2,nw2⟩,[t0,t1,t2,t3]) c:=fun S hS=>by unfold askL; dsimp only; rw[hd,hS]
      by_cases q0:0≤c.Part∧c.Part<(4:Int)
      rotate_left
      · refine jn_to (t0,t1,t2,t3) (fun k1=>jn_to false (fun k4=>?_) ?_) ?_
        · by_cases z:c.Part≥0
          · rw[decide_eq_true z,fk_t,decide_eq_false (by omega)]
          · rw[decide_eq_false z,fk_f]
        · rw[fk_f]
        · refine hnx2 _ rfl (nxt _ ?_)
          unfold sawStep
          rw[if_neg (by simpa using q0)]
      have hi:c.Part=0∨c.Part=1∨c.Part=2∨c.Part=3:=by omega
      rcases hi with hi | hi | hi | hi
      · refine jn_to (t0++[⟨(k:Int),d.2.1,d.2.2⟩],t1,t2,t3) (fun k1=>jn_to true (fun k4=>?_) ?_) ?_
        · rw[decide_eq_true (by omega),fk_t,decide_eq_true (by omega)]
        · rw[fk_t]
          rw[decide_eq_true (p:=c.Part=(0:Int)) hi,fk_t]
          exact ck_le 24 (by decide) (by have:=lS2 t0 (by simp); omega)
        · refine hnx2 _ rfl (nxt _ ?_)
          unfold sawStep
          rw[if_pos (by simpa using q0),hi]; rfl
      · refine jn_to (t0,t1++[⟨(k:Int),d.2.1,d.2.2⟩],t2,t3) (fun k1=>jn_to true (fun k4=>?_) ?_) ?_
        · rw[decide_eq_true (by omega),fk_t,decide_eq_true (by omega)]
        · rw[fk_t]
          rw[decide_eq_false (p:=c.Part=(0:Int)) (by omega),fk_f]
          rw[decide_eq_true (p:=c.Part=(1:Int)) hi,fk_t]
          exact ck_le 24 (by decide) (by have:=lS2 t1 (by simp); omega)
        · refine hnx2 _ rfl (nxt _ ?_)
          unfold sawStep
          rw[if_pos (by simpa using q0),hi]; rfl
      · refine jn_to (t0,t1,t2++[⟨(k:Int),d.2.1,d.2.2⟩],t3) (fun k1=>jn_to true (fun k4=>?_) ?_) ?_
        · rw[decide_eq_true (by omega),fk_t,decide_eq_true (by omega)]
        · rw[fk_t]
          rw[decide_eq_false (p:=c.Part=(0:Int)) (by omega),fk_f]
          rw[decide_eq_false (p:=c.Part=(1:Int)) (by omega),fk_f]
          rw[decide_eq_true (p:=c.Part=(2:Int)) hi,fk_t]
          exact ck_le 24 (by decide) (by have:=lS2 t2 (by simp); omega)
        · refine hnx2 _ rfl (nxt _ ?_)
          unfold sawStep
          rw[if_pos (by simpa using q0),hi]; rfl
      · refine jn_to (t0,t1,t2,t3++[⟨(k:Int),d.2.1,d.2.2⟩]) (fun k1=>jn_to true (fun k4=>?_) ?_) ?_
        · rw[decide_eq_true (by omega),fk_t,decide_eq_true (by omega)]
        · rw[fk_t]
          rw[decide_eq_false (p:=c.Part=(0:Int)) (by omega),fk_f]
          rw[decide_eq_false (p:=c.Part=(1:Int)) (by omega),fk_f]
          rw[decide_eq_false (p:=c.Part=(2:Int)) (by omega),fk_f]
          rw[decide_eq_true (p:=c.Part=(3:Int)) hi,fk_t]
          exact ck_le 24 (by decide) (by have:=lS2 t3 (by simp); omega)
        · refine hnx2 _ rfl (nxt _ ?_)
          unfold sawStep
          rw[if_pos (by simpa using q0),hi]; rfl

end Go.Proofs.YtldlcdnhdedoeaaGreat
namespace Go.Proofs.YtldlcdnhdedoeaaGreat
open Go Go.VC
/-! What is played is what the check ran. -/
theorem aStep_eq {n:Int} {s:KernelState} (h:kP s):aStep n s=some (tickK (doK (doK s (aAsk 0 n)).1 (aAsk 1 n)).1):=by
  have h1:=(h.do (aAsk 0 n)).1
  have h2:=(h1.do (aAsk 1 n)).1
  unfold aStep
  rw[kernel_Do_eq _ _ h,Option.bind_some,kernel_Do_eq _ _ h1,Option.bind_some,tickK_eq h2]; rfl
theorem aRun_play {n:Int} {s:KernelState} (h:kP s) (h0:s.Now=0) (sc:List (List KernelCmd)) (hsc:∀t,t<sc.length→sc.getD t []=[aAsk 0 n,aAsk 1 n]) (hc:aLoop n 199 0 s=true):∀t:Nat,t≤sc.length→t≤199→aLoop n (199-t) (t:Int) (playK s sc t).s=true
  | 0,_,_=>hc
  | t+1,h1,h2=>by
    have ih:=aRun_play h h0 sc hsc hc t (by omega) (by omega)
    have hk:=(playK_ok h sc h0 t (by omega)).1
    rw[show 199-t=(199-(t+1))+1 by omega] at ih
    have hn:=aLoop_next ih (aStep_eq (n:=n) hk)
    have e:(playK s sc (t+1)).s=tickK (doK (doK (playK s sc t).s (aAsk 0 n)).1 (aAsk 1 n)).1:=by
      show (tickL t (playK s sc t) (sc.getD t [])).s=_
      rw[hsc t (by omega)]; rfl
    rw[e,show ((t+1:Nat):Int)=(t:Int)+1 by omega]
    exact hn
/-- Views, as the law counts them. -/
theorem aGood_views {n t:Int} {x:PlayS} (h:aGoodS n t x.s=true):∃v w,viewsL x=[v,w]∧aGoodL n t v.Log=true∧aGoodL n t w.Log=true:=by
  unfold aGoodS at h
  split at h
  · rename_i p q hp
    rw[Bool.and_eq_true] at h
    unfold viewsL
    rw[hp]
    exact⟨_,_,rfl,h.1,h.2⟩
  · cases h
theorem aCnt_succ (p:Entry→Bool) (L:List Entry) (k:Nat) (h:k<L.length):(L.take (k+1)).countP p=(L.take k).countP p+(if p L[k]=true then 1 else 0):=by
  rw[←List.take_append_getElem h,List.countP_append]; simp[List.countP_cons]
theorem aCnt_le (p:Entry→Bool) (L:List Entry) (k:Nat):(L.take k).countP p≤k:=Nat.le_trans List.countP_le_length (by rw[List.length_take]; omega)
/-- Counting in a log. -/
theorem aCount_lp {R:Type} {body:((Int×Int×Int)→Option R)→(Int×Int×Int)→Option R} {r:R} (L:List Entry) (hl:L.length≤4611686018427387904)
    (hEnd:∀nx,body nx ((aRel L:Int),(aDon L:Int),(L.length:Int))=some r)
    (hStep:∀nx (a b:Int) (k:Nat) (h:k<L.length),0≤a→a≤k→0≤b→b≤k→nx (a+(if L[k].Kind=1 then 1 else 0),b+(if L[k].Kind=4 then 1 else 0),((k+1:Nat):Int))=some r→body nx (a,b,(k:Int))=some r) :
    lp body FU ((0:Int),(0:Int),(0:Int))=some r:=by
  refine lp_inv (fun v=>L.length-v.2.2.toNat) (fun v=>∃k:Nat,v=((aRel (L.take k):Int),(aDon (L.take k):Int),(k:Int))∧k≤L.length) ?_ FU _ ⟨0,rfl,Nat.zero_le _⟩ (by unfold FU; simp only; omega)
  rintro nx v ⟨k,rfl,hk⟩ hnx
  by_cases c:k<L.length
  · have h1:=aCnt_le (fun e=>decide (e.Kind=1)) L k
    have h2:=aCnt_le (fun e=>decide (e.Kind=4)) L k
    refine hStep nx _ _ k c (by omega) (by unfold aRel; omega) (by omega) (by unfold aDon; omega) (hnx _ ⟨k+1,?_,c⟩ (by simp only[Int.toNat_natCast]; omega))
    have e1:=aCnt_succ (fun e=>decide (e.Kind=1)) L k c
    have e2:=aCnt_succ (fun e=>decide (e.Kind=4)) L k c
    unfold aRel aDon
    rw[e1,e2]
    by_cases q1:L[k].Kind=1
    · have q2:¬L[k].Kind=4:=by omega
      simp[q1]
    · by_cases q2:L[k].Kind=4
      · simp[q2]
      · simp[q1,q2]
  · have e:k=L.length:=by omega
    subst e
    rw[List.take_length]
    exact hEnd nx
end Go.Proofs.YtldlcdnhdedoeaaGreat
