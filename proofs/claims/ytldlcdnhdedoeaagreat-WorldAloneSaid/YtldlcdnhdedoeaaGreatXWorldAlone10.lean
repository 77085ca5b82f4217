/- Part 21 of what follows is proved here: what the statement WorldAlone needs of functions and plain laws. -/
import Derived.Test.YtldlcdnhdedoeaaGreatXWorldAlone0
import Derived.Test.YtldlcdnhdedoeaaGreatXWorldAlone9
import Derived.Test.YtldlcdnhdedoeaaGreatXWorldAlone7
set_option linter.unusedVariables false
set_option linter.unusedSimpArgs false
set_option maxRecDepth 100000
set_option maxHeartbeats 40000000
set_option maxRecDepth 1000000
set_option maxHeartbeats 4000000
namespace Go.Proofs.YtldlcdnhdedoeaaGreat
open Go Go.VC
/-! Bytes are read. -/
section
variable {R:Type} {P:R→Prop}
def bytesP (b:List Int):Prop:=b.length≤1000000∧∀x∈b,0≤x∧x≤255
noncomputable def oneV (b:List Int) (p e:Int):Int×Int×Int:=
 if e=0 then (if p≥(b.length:Int) then (p,8,0) else (p+1,0,(b[p.toNat]?).getD 0)) else (p,e,0)
theorem oneV_ok {b:List Int} (hb:bytesP b) {p:Int} (e:Int) (h0:0≤p) (h1:p≤b.length):0≤(oneV b p e).1∧(oneV b p e).1≤b.length∧0≤(oneV b p e).2.2∧(oneV b p e).2.2≤255:=by
 unfold oneV
 by_cases c:e=0
 ·rw[if_pos c]
  by_cases d:p≥(b.length:Int)
  ·rw[if_pos d]; exact⟨h0,h1,Int.le_refl _,by show (0:Int)≤255; decide⟩
  ·rw[if_neg d]
   have hp:p.toNat<b.length:=by omega
   have:=hb.2 _ (List.getElem_mem hp)
   refine⟨by show 0≤p+1; omega,by show p+1≤_; omega,?_⟩
   show 0≤(b[p.toNat]?).getD 0∧(b[p.toNat]?).getD 0≤255
   rw[List.getElem?_eq_getElem hp]
   exact this
 ·rw[if_neg c]; exact⟨h0,h1,Int.le_refl _,by show (0:Int)≤255; decide⟩
theorem one_to {b:List Int} (hb:bytesP b) {Y:Int×Int×Int→Option R} {p e:Int} (h0:0≤p) (h1:p≤b.length) (h:∃r,Y (oneV b p e)=some r∧P r) :
  ∃r,jn (fun w=>Y w) (fun k2=>jn (fun (w3:Int)=>fk (!decide (w3=(0:Int))) (k2 (p,w3,(0:Int))) (ix b (wr ((wr (p+(1:Int)))-(1:Int))) fun x5=>k2 ((wr (p+(1:Int))),w3,(IntKind.i64.wrap x5)))) (fun k3=>jn (fun (w4:Bool)=>fk w4 (k3 (8:Int)) (k3 e)) (fun k4=>fk (decide (e=(0:Int))) (k4 (decide (p≥(b.length:Int)))) (k4 false))))=some r∧P r:=by
 have hl:=hb.1
 unfold oneV at h
 by_cases c:e=0
 ·rw[if_pos c] at h
  simp only[jn_eq,decide_eq_true c,fk_t]
  by_cases d:p≥(b.length:Int)
  ·rw[if_pos d] at h
   simp only[decide_eq_true d,fk_t]
   rw[decide_eq_false (show ¬(8:Int)=0 by decide),Bool.not_false,fk_t]
   exact h
  ·rw[if_neg d] at h
   have hp:p.toNat<b.length:=by omega
   simp only[decide_eq_false d,fk_f,c]
   rw[Bool.not_true,fk_f,wr_in (p+1) (by omega),show p+1-1=p by omega,wr_in p (by omega),ix_int h0 hp]
   rw[List.getElem?_eq_getElem hp] at h
   have hx:=hb.2 _ (List.getElem_mem hp)
   rw[show IntKind.i64.wrap b[p.toNat]=b[p.toNat] from wr_in _ (by omega)]
   exact h
 ·rw[if_neg c] at h
  simp only[jn_eq,decide_eq_false c,fk_f,Bool.not_false,fk_t]
  exact h
/-- A row: it is read on while there is no error. -/
theorem row_lp {E:Type} {N:Int} {body:(Int×Int×List E×Int→Option R)→Int×Int×List E×Int→Option R} (good:E→Prop) {p e n:Int} (hp0:0≤p) (hpN:p≤N) (hn0:0≤n) (hn:n≤255)
  (step:∀(nx:Int×Int×List E×Int→Option R) (p e:Int) (l:List E) (n:Int),0≤p→p≤N→0≤n→n≤255→l.length≤255→(0<n→l.length≤254)→(∀x∈l,good x)→(0<n→∀p' e' x,0≤p'→p'≤N→good x→∃r,nx (p',e',l++[x],wr (n-1))=some r∧P r)→∃r,body nx (p,e,l,n)=some r∧P r) :
  ∃r,lp body FU (p,e,[],n)=some r∧P r:=by
 refine lp_ex (fun v=>v.2.2.2.toNat) (fun v=>0≤v.1∧v.1≤N∧0≤v.2.2.2∧v.2.2.2≤255∧(v.2.2.1.length:Int)+v.2.2.2≤255∧∀x∈v.2.2.1,good x) P ?_ FU _ ⟨hp0,hpN,hn0,hn,by simpa using hn,fun x h=>by simp at h⟩ (by unfold FU; simp only; omega)
 rintro nx ⟨p,e,l,n⟩ ⟨a1,a2,a3,a4,a5,a6⟩ hnx
 simp only at a1 a2 a3 a4 a5 a6
 refine step nx p e l n a1 a2 a3 a4 (by omega) (fun h=>by omega) a6 fun hpos p' e' x b1 b2 hx=>?_
 have hw:wr (n-1)=n-1:=wr_in _ (by omega)
 rw[hw]
 refine hnx _ ⟨b1,b2,by show 0≤n-1; omega,by show n-1≤255; omega,?_,?_⟩ (by show (n-1).toNat<n.toNat; omega)
 ·show ((l++[x]).length:Int)+(n-1)≤255
  rw[List.length_append]; simp only[List.length_cons,List.length_nil]; omega
 ·intro y hy
  rcases List.mem_append.1 hy with hy | hy
  ·exact a6 y hy
  ·rw[List.mem_singleton.1 hy]; exact hx
theorem jn_P {σ:Type} {Y:σ→Option R} {X:(σ→Option R)→Option R} (h:∃r,X Y=some r∧P r):∃r,jn Y X=some r∧P r:=h
theorem fk_P {b:Bool} {x y:Option R} (h1:b=true→∃r,x=some r∧P r) (h2:b=false→∃r,y=some r∧P r):∃r,fk b x y=some r∧P r:=by
 cases b
 ·exact h2 rfl
 ·exact h1 rfl
theorem guard_P {n e:Int} {X Y:Option R} (hX:0<n→∃r,X=some r∧P r) (hY:∃r,Y=some r∧P r):∃r,jn (fun (w:Bool)=>fk w X Y) (fun k=>fk (decide (n>(0:Int))) (k (decide (e=(0:Int)))) (k false))=some r∧P r:=by
 rw[jn_eq]
 refine fk_P (fun hn=>fk_P (fun _=>hX (of_decide_eq_true hn)) (fun _=>hY)) (fun _=>?_)
 exact hY
theorem ck_P {b:Bool} {x:Option R} (hb:b=true) (h:∃r,x=some r∧P r):∃r,ck b x=some r∧P r:=by subst hb; exact h
theorem ck1 {E:Type} {l:List E} {x:E} {m:Nat} (h:l.length≤255) (hm:m≤1000):decide ((l.length+([x]:List E).length)*m≤140737488355328)=true:=by
 refine decide_eq_true ?_
 simp only[List.length_cons,List.length_nil]
 have:(l.length+(0+1))*m≤256*1000:=Nat.mul_le_mul (by omega) hm
 omega
end
def goodT (t:Task):Prop:=t.Secs.length≤255
def goodQ (p:Part):Prop:=p.Tasks.length≤255∧∀t∈p.Tasks,goodT t
def goodC (c:Config):Prop:=c.Parts.length≤255∧c.Ports.length≤255∧∀p∈c.Parts,goodQ p
/-- What Decode answers: right systems alone, of few things. -/
def decR (b:List Int) (r:Config×Int×Int):Prop:=(r.2.2=0→goodC r.1∧image_Right r.1=some true)∧(r.2.2≠0→r.1=⟨[],[]⟩)
theorem decR_err {b:List Int} {i e:Int} (he:e≠0):decR b (⟨[],[]⟩,i,e):=⟨fun h=>absurd h he,fun _=>rfl⟩
theorem image_Decode_ex (b:List Int) (hb:bytesP b) (hR:∀c,goodC c→∃v,image_Right c=some v):∃r,image_Decode b=some r∧decR b r:=by
 have hl:=hb.1
 unfold image_Decode
 refine lp_ex (fun v:Int×Int×Int=>3-v.2.2.toNat) (fun v:Int×Int×Int=>0≤v.1∧v.1≤(b.length:Int)∧0≤v.2.2∧v.2.2≤3) _ ?_ FU _ ⟨Int.le_refl _,by simp,Int.le_refl _,by decide⟩ (by unfold FU; simp)
 rintro nx ⟨p,e,i⟩ ⟨h0,h1,h2,h3⟩ hnx
 simp only at h0 h1 h2 h3
 refine fk_P (fun hi=>?_) (fun _=>?_)
 ·have hi:i<3:=of_decide_eq_true hi
  refine one_to hb h0 h1 ?_
  obtain⟨a1,a2,a3,a4⟩:=oneV_ok hb e h0 h1
  generalize oneV b p e=w at a1 a2 a3 a4 ⊢
  refine jn_P ?_
  have fin:∀g:Bool,∃r,fk g (some ((⟨[],[]⟩:Config),i,(2:Int))) (nx (w.1,w.2.1,wr (i+1)))=some r∧decR b r:=fun g=>by
   refine fk_P (fun _=>⟨_,rfl,decR_err (by decide)⟩) (fun _=>?_)
   rw[wr_in (i+1) (by omega)]
   exact hnx _ ⟨a1,a2,by show 0≤i+1; omega,by show i+1≤3; omega⟩ (by show 3-(i+1).toNat<3-i.toNat; omega)
  refine fk_P (fun _=>?_) (fun _=>fin false)
  rw[ix_int h2 (by simp; omega)]
  exact fin _
 ·refine jn_P ?_
  refine one_to hb h0 h1 ?_
  obtain⟨a1,a2,a3,a4⟩:=oneV_ok hb e h0 h1
  generalize oneV b p e=w at a1 a2 a3 a4 ⊢
  refine row_lp (N:=b.length) goodQ a1 a2 a3 a4 ?_
  intro nx p e l n h0 h1 n0 n1 l1 l2 hg hnx
  have out:∃r,(fun (w8:Int×Int×(List Part))=>jn (fun (w63:Int×Int×(List Port))=>fk (!decide (w63.2.1=(0:Int))) (some ((⟨[],[]⟩:Config),(b.length:Int),w63.2.1)) (fk (decide (w63.1<(b.length:Int))) (some (⟨[],[]⟩,w63.1,(2:Int))) (bnd (image_Right ⟨w8.2.2,w63.2.2⟩) fun x82=>fk (!x82) (some (⟨[],[]⟩,(0:Int),(1:Int))) (some (⟨w8.2.2,w63.2.2⟩,(0:Int),(0:Int)))))) (fun k63=>jn (fun (w64:Int×Int×Int)=>lp (fun nx68 (v68:Int×Int×(List Port)×Int)=>jn (fun (w69:Bool)=>fk w69 (jn (fun (w70:Int×Int×Int)=>jn (fun (w74:Int×Int×Int)=>jn (fun (w78:Int×Int×Int)=>ck (decide ((v68.2.2.1.length+([⟨w70.2.2,w74.2.2,w78.2.2⟩]:List Port).length)*24≤140737488355328)) (nx68 (w78.1,w78.2.1,v68.2.2.1++([⟨w70.2.2,w74.2.2,w78.2.2⟩]:List Port),(wr (v68.2.2.2-(1:Int)))))) (fun k78=>jn (fun (w79:Int)=>fk (!decide (w79=(0:Int))) (k78 (w74.1,w79,(0:Int))) (ix b (wr ((wr (w74.1+(1:Int)))-(1:Int))) fun x81=>k78 ((wr (w74.1+(1:Int))),w79,(IntKind.i64.wrap x81)))) (fun k79=>jn (fun (w80:Bool)=>fk w80 (k79 (8:Int)) (k79 w74.2.1)) (fun k80=>fk (decide (w74.2.1=(0:Int))) (k80 (decide (w74.1≥(b.length:Int)))) (k80 false))))) (fun k74=>jn (fun (w75:Int)=>fk (!decide (w75=(0:Int))) (k74 (w70.1,w75,(0:Int))) (ix b (wr ((wr (w70.1+(1:Int)))-(1:Int))) fun x77=>k74 ((wr (w70.1+(1:Int))),w75,(IntKind.i64.wrap x77)))) (fun k75=>jn (fun (w76:Bool)=>fk w76 (k75 (8:Int)) (k75 w70.2.1)) (fun k76=>fk (decide (w70.2.1=(0:Int))) (k76 (decide (w70.1≥(b.length:Int)))) (k76 false))))) (fun k70=>jn (fun (w71:Int)=>fk (!decide (w71=(0:Int))) (k70 (v68.1,w71,(0:Int))) (ix b (wr ((wr (v68.1+(1:Int)))-(1:Int))) fun x73=>k70 ((wr (v68.1+(1:Int))),w71,(IntKind.i64.wrap x73)))) (fun k71=>jn (fun (w72:Bool)=>fk w72 (k71 (8:Int)) (k71 v68.2.1)) (fun k72=>fk (decide (v68.2.1=(0:Int))) (k72 (decide (v68.1≥(b.length:Int)))) (k72 false))))) (k63 (v68.1,v68.2.1,v68.2.2.1))) (fun k69=>fk (decide (v68.2.2.2>(0:Int))) (k69 (decide (v68.2.1=(0:Int)))) (k69 false))) FU (w64.1,w64.2.1,[],w64.2.2)) (fun k64=>jn (fun (w65:Int)=>fk (!decide (w65=(0:Int))) (k64 (w8.1,w65,(0:Int))) (ix b (wr ((wr (w8.1+(1:Int)))-(1:Int))) fun x67=>k64 ((wr (w8.1+(1:Int))),w65,(IntKind.i64.wrap x67)))) (fun k65=>jn (fun (w66:Bool)=>fk w66 (k65 (8:Int)) (k65 w8.2.1)) (fun k66=>fk (decide (w8.2.1=(0:Int))) (k66 (decide (w8.1≥(b.length:Int)))) (k66 false)))))) (p,e,l)=some r∧decR b r:=by
   simp only
   refine jn_P ?_
   refine one_to hb h0 h1 ?_
   obtain⟨a1,a2,a3,a4⟩:=oneV_ok hb e h0 h1
   generalize oneV b p e=w at a1 a2 a3 a4 ⊢
   refine row_lp (N:=b.length) (fun _=>True) a1 a2 a3 a4 ?_
   intro nx p e q n h0 h1 n0 n1 q1 q2 _ hnx
   have out:∃r,(fun (w63:Int×Int×(List Port))=>fk (!decide (w63.2.1=(0:Int))) (some ((⟨[],[]⟩:Config),(b.length:Int),w63.2.1)) (fk (decide (w63.1<(b.length:Int))) (some (⟨[],[]⟩,w63.1,(2:Int))) (bnd (image_Right ⟨l,w63.2.2⟩) fun x82=>fk (!x82) (some (⟨[],[]⟩,(0:Int),(1:Int))) (some (⟨l,w63.2.2⟩,(0:Int),(0:Int)))))) (p,e,q)=some r∧decR b r:=by
    simp only
    refine fk_P (fun he=>⟨_,rfl,decR_err (fun h=>by rw[h] at he; cases he)⟩) (fun _=>?_)
    refine fk_P (fun _=>⟨_,rfl,decR_err (by decide)⟩) (fun _=>?_)
    obtain⟨v,hv⟩:=hR ⟨l,q⟩ ⟨l1,q1,hg⟩
    rw[bnd_eq hv]
    refine fk_P (fun _=>⟨_,rfl,decR_err (by decide)⟩) (fun hv2=>⟨_,rfl,⟨fun _=>⟨⟨l1,q1,hg⟩,?_⟩,fun h=>absurd rfl h⟩⟩)
    cases v
    ·cases hv2
    ·exact hv
   refine guard_P (fun hpos=>?_) out
   refine one_to hb h0 h1 ?_
   obtain⟨a1,a2,_,_⟩:=oneV_ok hb e h0 h1
   generalize oneV b p e=w1 at a1 a2 ⊢
   refine one_to hb a1 a2 ?_
   obtain⟨b1,b2,_,_⟩:=oneV_ok hb w1.2.1 a1 a2
   generalize oneV b w1.1 w1.2.1=w2 at b1 b2 ⊢
   refine one_to hb b1 b2 ?_
   obtain⟨c1,c2,_,_⟩:=oneV_ok hb w2.2.1 b1 b2
   generalize oneV b w2.1 w2.2.1=w3 at c1 c2 ⊢
   exact ck_P (ck1 q1 (by decide)) (hnx hpos _ _ _ c1 c2 trivial)
  refine guard_P (fun hpos=>?_) out
  refine jn_P ?_
  refine one_to hb h0 h1 ?_
  obtain⟨a1,a2,_,_⟩:=oneV_ok hb e h0 h1
  generalize oneV b p e=w1 at a1 a2 ⊢
  refine one_to hb a1 a2 ?_
  obtain⟨b1,b2,_,_⟩:=oneV_ok hb w1.2.1 a1 a2
  generalize oneV b w1.1 w1.2.1=w2 at b1 b2 ⊢
  refine jn_P ?_
  refine one_to hb b1 b2 ?_
  obtain⟨c1,c2,c3,c4⟩:=oneV_ok hb w2.2.1 b1 b2
  generalize oneV b w2.1 w2.2.1=w3 at c1 c2 c3 c4 ⊢
  refine row_lp (N:=b.length) goodT c1 c2 c3 c4 ?_
  intro nx2 p2 e2 ts n2 h20 h21 n20 n21 t1 t2 tg hnx2
  have out2:=ck_P (P:=decR b) (ck1 l1 (m:=40) (x:=(⟨⟨w1.2.2,w2.2.2⟩,ts⟩:Part)) (by decide)) (hnx hpos p2 e2 ⟨⟨w1.2.2,w2.2.2⟩,ts⟩ h20 h21 ⟨t1,tg⟩)
  refine guard_P (fun hpos2=>?_) out2
  refine jn_P ?_
  refine one_to hb h20 h21 ?_
  obtain⟨a1,a2,_,_⟩:=oneV_ok hb e2 h20 h21
  generalize oneV b p2 e2=u1 at a1 a2 ⊢
  refine one_to hb a1 a2 ?_
  obtain⟨b1,b2,_,_⟩:=oneV_ok hb u1.2.1 a1 a2
  generalize oneV b u1.1 u1.2.1=u2 at b1 b2 ⊢
  refine one_to hb b1 b2 ?_
  obtain⟨c1,c2,_,_⟩:=oneV_ok hb u2.2.1 b1 b2
  generalize oneV b u2.1 u2.2.1=u3 at c1 c2 ⊢
  refine jn_P ?_
  refine one_to hb c1 c2 ?_
  obtain⟨d1,d2,d3,d4⟩:=oneV_ok hb u3.2.1 c1 c2
  generalize oneV b u3.1 u3.2.1=u4 at d1 d2 d3 d4 ⊢
  refine row_lp (N:=b.length) (fun _=>True) d1 d2 d3 d4 ?_
  intro nx3 p3 e3 ss n3 h30 h31 n30 n31 s1 s2 _ hnx3
  have out3:=ck_P (P:=decR b) (ck1 t1 (m:=48) (x:=(⟨u1.2.2,u2.2.2,u3.2.2,ss⟩:Task)) (by decide)) (hnx2 hpos2 p3 e3 ⟨u1.2.2,u2.2.2,u3.2.2,ss⟩ h30 h31 s1)
  refine guard_P (fun hpos3=>?_) out3
  refine one_to hb h30 h31 ?_
  obtain⟨a1,a2,_,_⟩:=oneV_ok hb e3 h30 h31
  generalize oneV b p3 e3=y1 at a1 a2 ⊢
  refine one_to hb a1 a2 ?_
  obtain⟨b1,b2,_,_⟩:=oneV_ok hb y1.2.1 a1 a2
  generalize oneV b y1.1 y1.2.1=y2 at b1 b2 ⊢
  refine one_to hb b1 b2 ?_
  obtain⟨c1,c2,_,_⟩:=oneV_ok hb y2.2.1 b1 b2
  generalize oneV b y2.1 y2.2.1=y3 at c1 c2 ⊢
  exact ck_P (ck1 s1 (by decide)) (hnx3 hpos3 _ _ _ c1 c2 trivial)
end Go.Proofs.YtldlcdnhdedoeaaGreat
namespace Go.Proofs.YtldlcdnhdedoeaaGreat
open Go Go.VC
noncomputable def ref19_at (a0:List Int) (a1:Int):Option Int:=
 fk (decide (a1≥(a0.length:Int))) (some (0:Int)) (ix a0 a1 fun x1=>some (IntKind.i64.wrap x1))
theorem ref19_at_w (a0:List Int) (a1:Int) (r:Int) (h:ref19_at a0 a1=some r):Go.VC.Spec Tryz.prog 147 [.d (.sl (a0.map (eI .u8))),.d (.int .i64 a1)] (fun y=>y=E_Int r):=by
 refine Go.VC.Spec.of_xc (args:=[.d (.sl (a0.map (eI .u8))),.d (.int .i64 a1)]) (fn:=Tryz.f147) tab ⟨[(0,[0,1]),(1,[0,1,8]),(2,[4]),(3,[4])],[],[],[]⟩ 14 [.tmp 4] rfl rfl rfl rfl rfl rfl ?_
 conv=>whnf
 refine lenS a0 (eI .u8) rfl ?_
 conv=>whnf
 refine fkS h (fun h=>?_) (fun h=>?_)
 ·conv=>whnf
  exact rt (E:=E_Int) h rfl
 conv=>whnf
 refine ixS (enc:=(eI .u8)) h rfl (fun _=>rfl) (fun x1 h=>?_)
 conv=>whnf
 exact rt (E:=E_Int) h rfl
end Go.Proofs.YtldlcdnhdedoeaaGreat
namespace Go.Proofs.YtldlcdnhdedoeaaGreat
open Go Go.VC
noncomputable def ref19_Decode (a0:List Int):Option (Config×Int×Int):=
 lp (fun nx1 (v1:Int)=>fk (decide (v1<(3:Int))) (fk (decide (v1≥(a0.length:Int))) (some (⟨[],[]⟩,(a0.length:Int),(8:Int))) (ix a0 v1 fun x2=>ck (decide (0≤v1) && decide (v1<(([(84:Int),(75:Int),(49:Int)]:List Int).length:Int))) (ox ([(84:Int),(75:Int),(49:Int)]:List Int) v1.toNat fun x3=>fk (!decide (x2=x3)) (some (⟨[],[]⟩,v1,(2:Int))) (nx1 (wr (v1+(1:Int))))))) (lp (fun nx4 (v4:(List Part)×Int×Int)=>bnd (ref19_at a0 (3:Int)) fun x5=>fk (decide (v4.2.2<x5)) (fk (decide (v4.2.1>(a0.length:Int))) (some (⟨[],[]⟩,(a0.length:Int),(8:Int))) (bnd (ref19_at a0 v4.2.1) fun x6=>bnd (ref19_at a0 (wr (v4.2.1+(1:Int)))) fun x7=>bnd (ref19_at a0 (wr (v4.2.1+(2:Int)))) fun x8=>lp (fun nx9 (v9:(List Task)×Int×Int)=>fk (decide (v9.2.2<x8)) (bnd (ref19_at a0 v9.2.1) fun x10=>bnd (ref19_at a0 (wr (v9.2.1+(1:Int)))) fun x11=>bnd (ref19_at a0 (wr (v9.2.1+(2:Int)))) fun x12=>bnd (ref19_at a0 (wr (v9.2.1+(3:Int)))) fun x13=>lp (fun nx14 (v14:(List Sec)×Int×Int)=>fk (decide (v14.2.2<x13)) (bnd (ref19_at a0 v14.2.1) fun x15=>bnd (ref19_at a0 (wr (v14.2.1+(1:Int)))) fun x16=>bnd (ref19_at a0 (wr (v14.2.1+(2:Int)))) fun x17=>ck (decide ((v14.1.length+([⟨x15,x16,x17⟩]:List Sec).length)*24≤140737488355328)) (nx14 (v14.1++([⟨x15,x16,x17⟩]:List Sec),(wr (v14.2.1+(3:Int))),(wr (v14.2.2+(1:Int)))))) (ck (decide ((v9.1.length+([⟨x10,x11,x12,v14.1⟩]:List Task).length)*48≤140737488355328)) (nx9 (v9.1++([⟨x10,x11,x12,v14.1⟩]:List Task),v14.2.1,(wr (v9.2.2+(1:Int))))))) FU ([],(wr (v9.2.1+(4:Int))),(0:Int))) (ck (decide ((v4.1.length+([⟨⟨x6,x7⟩,v9.1⟩]:List Part).length)*40≤140737488355328)) (nx4 (v4.1++([⟨⟨x6,x7⟩,v9.1⟩]:List Part),v9.2.1,(wr (v4.2.2+(1:Int))))))) FU ([],(wr (v4.2.1+(3:Int))),(0:Int)))) (bnd (ref19_at a0 v4.2.1) fun x18=>lp (fun nx19 (v19:(List Port)×Int×Int)=>fk (decide (v19.2.2<x18)) (bnd (ref19_at a0 v19.2.1) fun x20=>bnd (ref19_at a0 (wr (v19.2.1+(1:Int)))) fun x21=>bnd (ref19_at a0 (wr (v19.2.1+(2:Int)))) fun x22=>ck (decide ((v19.1.length+([⟨x20,x21,x22⟩]:List Port).length)*24≤140737488355328)) (nx19 (v19.1++([⟨x20,x21,x22⟩]:List Port),(wr (v19.2.1+(3:Int))),(wr (v19.2.2+(1:Int)))))) (fk (decide (v19.2.1>(a0.length:Int))) (some (⟨[],[]⟩,(a0.length:Int),(8:Int))) (fk (decide (v19.2.1<(a0.length:Int))) (some (⟨[],[]⟩,v19.2.1,(2:Int))) (bnd (ref19_Right ⟨v4.1,v19.1⟩) fun x23=>fk (!x23) (some (⟨[],[]⟩,(0:Int),(1:Int))) (some (⟨v4.1,v19.1⟩,(0:Int),(0:Int))))))) FU ([],(wr (v4.2.1+(1:Int))),(0:Int)))) FU ([],(4:Int),(0:Int)))) FU (0:Int)
theorem ref19_Decode_w (a0:List Int) (r:Config×Int×Int) (h:ref19_Decode a0=some r):Go.VC.Spec Tryz.prog 97 [.d (.sl (a0.map (eI .u8)))] (fun y=>y=E_Config_Int_Int r):=by
 refine Go.VC.Spec.of_xc (args:=[.d (.sl (a0.map (eI .u8)))]) (fn:=Tryz.f97) tab ⟨[(0,[0,2]),(1,[0,2,5]),(2,[0,2,5,6]),(3,[0,2,5,6,20]),(4,[0,2,5,6]),(5,[0,2,5,6,26]),(6,[2,3,4]),(7,[0,2,5,6,38]),(8,[2,3,4]),(9,[0,2,7]),(10,[0,2,7,8]),(11,[0,2,7,8,9]),(12,[0,2,7,8,9,44]),(13,[0,2,7,8,9]),(14,[0,2,7,8,9,50]),(15,[2,3,4]),(16,[0,2,7,8,9,10]),(17,[0,2,7,8,9,10,11]),(18,[0,2,7,8,9,10,11]),(19,[0,2,7,8,9,10,11,12]),(20,[0,2,7,8,9,10,11,12,71]),(21,[0,2,7,8,9,10,11,12]),(22,[0,2,7,8,9,10,11,12,13]),(23,[0,2,7,8,9,10,11,12,13,14]),(24,[0,2,7,8,9,10,11,12,13,14]),(25,[0,2,7,8,9,10,11,12,13,14,15]),(26,[0,2,7,8,9,10,11,12,13,14,15,94]),(27,[0,2,7,8,9,10,11,12,13,14,15]),(28,[0,2,7,8,9,10,11,12,13,14,15]),(29,[0,2,7,8,9,10,11,12,13,14,15]),(30,[0,2,7,8,9,10,11,12]),(31,[0,2,7,8,9]),(32,[0,2,7,8,16]),(33,[0,2,7,8,16]),(34,[0,2,7,8,16,17]),(35,[0,2,7,8,16,17,135]),(36,[0,2,7,8,16,17]),(37,[0,2,7,8,16,17]),(38,[0,2,7,8,16,17]),(39,[0,2,7,8,160]),(40,[2,3,4]),(41,[2,7,8,167]),(42,[2,3,4]),(43,[2,7,172]),(44,[2,3,4]),(45,[2,3,4])],[],[],[(119,[51403]),(125,[51102])]⟩ 175 [.cell 2 25,.tmp 3,.tmp 4] rfl rfl rfl rfl rfl rfl ?_
 conv=>whnf
 refine liS ([(84:Int),(75:Int),(49:Int)]:List Int) (eI .u8) rfl rfl ?_
 conv=>whnf
 refine lpS (fun v1=>⟨[(0,.l (.d (.sl (a0.map (eI .u8))))),(2,.l (.ptr 3 0)),(5,.l (.own 6)),(6,.l (.d (.int .i64 v1)))],175,[],[(3,[.nil,.nil])],[(6,5,1,([(84:Int),(75:Int),(49:Int)]:List Int).map (eI .u8))]⟩) h (Weak.refl _) (fun _ nx1 hn1 v1 h=>?_)
 conv=>whnf
 refine fkS h (fun h=>?_) (fun h=>?_)
 ·conv=>whnf
  refine lenS a0 (eI .u8) rfl ?_
  conv=>whnf
  refine fkS h (fun h=>?_) (fun h=>?_)
  ·conv=>whnf
   refine lenS a0 (eI .u8) rfl ?_
   conv=>whnf
   exact rt (E:=E_Config_Int_Int) h rfl
  conv=>whnf
  refine⟨8,?_⟩
  conv=>whnf
  refine ixS (enc:=(eI .u8)) h rfl (fun _=>rfl) (fun x2 h=>?_)
  conv=>whnf
  refine ioS (enc:=(eI .u8)) h rfl (fun h=>?_)
  conv=>whnf
  refine oxS (enc:=(eI .u8)) h rfl (fun x3 h=>?_)
  conv=>whnf
  refine drS (by kernel_rfl) ?_
  conv=>whnf
  refine fkS h (fun h=>?_) (fun h=>?_)
  ·conv=>whnf
   exact rt (E:=E_Config_Int_Int) h rfl
  conv=>whnf
  exact leS hn1 h (Weak.refl _)
 conv=>whnf
 refine lpS (fun v4=>⟨[(0,.l (.d (.sl (a0.map (eI .u8))))),(2,.l (.ptr 3 0)),(7,.l (.ptr 8 0)),(8,.l (.d (.int .i64 v4.2.1))),(9,.l (.d (.int .i64 v4.2.2)))],175,[],[(3,[.nil,.nil]),(8,[.own 50800,.nil])],[(50800,57,3,v4.1.map Part.enc)]⟩) h (Weak.trans (Weak.nilBO _ 8 0 50800 57 3 _ rfl rfl) (Weak.refl _)) (fun _ nx4 hn4 v4 h=>?_)
 conv=>whnf
 refine caS (E:=E_Int) h (ref19_at_w a0 (3:Int)) rfl (fun _=>rfl) (fun x5 h=>?_)
 conv=>whnf
 refine fkS h (fun h=>?_) (fun h=>?_)
 ·conv=>whnf
  refine lenS a0 (eI .u8) rfl ?_
  conv=>whnf
  refine fkS h (fun h=>?_) (fun h=>?_)
  ·conv=>whnf
   refine lenS a0 (eI .u8) rfl ?_
   conv=>whnf
   exact rt (E:=E_Config_Int_Int) h rfl
  conv=>whnf
  refine caS (E:=E_Int) h (ref19_at_w a0 v4.2.1) rfl (fun _=>rfl) (fun x6 h=>?_)
  conv=>whnf
  refine caS (E:=E_Int) h (ref19_at_w a0 (wr (v4.2.1+(1:Int)))) rfl (fun _=>rfl) (fun x7 h=>?_)
  conv=>whnf
  refine caS (E:=E_Int) h (ref19_at_w a0 (wr (v4.2.1+(2:Int)))) rfl (fun _=>rfl) (fun x8 h=>?_)
  conv=>whnf
  refine lpS (fun v9=>⟨[(0,.l (.d (.sl (a0.map (eI .u8))))),(2,.l (.ptr 3 0)),(7,.l (.ptr 8 0)),(8,.l (.d (.int .i64 v9.2.1))),(9,.l (.d (.int .i64 v4.2.2))),(10,.l (.ptr 11 0)),(11,.l (.d (.int .i64 x8))),(12,.l (.d (.int .i64 v9.2.2)))],175,[],[(3,[.nil,.nil]),(8,[.own 50800,.nil]),(11,[.d (.int .i64 x6),.d (.int .i64 x7),.own 51102])],[(50800,57,3,v4.1.map Part.enc),(51102,67,4,v9.1.map Task.enc)]⟩) h (Weak.trans (Weak.nilBO _ 11 2 51102 67 4 _ rfl rfl) (Weak.refl _)) (fun _ nx9 hn9 v9 h=>?_)
  conv=>whnf
  refine fkS h (fun h=>?_) (fun h=>?_)
  ·conv=>whnf
   refine caS (E:=E_Int) h (ref19_at_w a0 v9.2.1) rfl (fun _=>rfl) (fun x10 h=>?_)
   conv=>whnf
   refine caS (E:=E_Int) h (ref19_at_w a0 (wr (v9.2.1+(1:Int)))) rfl (fun _=>rfl) (fun x11 h=>?_)
   conv=>whnf
   refine caS (E:=E_Int) h (ref19_at_w a0 (wr (v9.2.1+(2:Int)))) rfl (fun _=>rfl) (fun x12 h=>?_)
   conv=>whnf
   refine caS (E:=E_Int) h (ref19_at_w a0 (wr (v9.2.1+(3:Int)))) rfl (fun _=>rfl) (fun x13 h=>?_)
   conv=>whnf
   refine lpS (fun v14=>⟨[(0,.l (.d (.sl (a0.map (eI .u8))))),(2,.l (.ptr 3 0)),(7,.l (.ptr 8 0)),(8,.l (.d (.int .i64 v14.2.1))),(9,.l (.d (.int .i64 v4.2.2))),(10,.l (.ptr 11 0)),(11,.l (.d (.int .i64 x8))),(12,.l (.d (.int .i64 v9.2.2))),(13,.l (.ptr 14 0)),(14,.l (.d (.int .i64 x13))),(15,.l (.d (.int .i64 v14.2.2)))],175,[],[(3,[.nil,.nil]),(8,[.own 50800,.nil]),(11,[.d (.int .i64 x6),.d (.int .i64 x7),.own 51102]),(14,[.d (.int .i64 x10),.d (.int .i64 x11),.d (.int .i64 x12),.own 51403])],[(50800,57,3,v4.1.map Part.enc),(51102,67,4,v9.1.map Task.enc),(51403,200,3,v14.1.map Sec.enc)]⟩) h (Weak.trans (Weak.nilBO _ 14 3 51403 200 3 _ rfl rfl) (Weak.refl _)) (fun _ nx14 hn14 v14 h=>?_)
   conv=>whnf
   refine fkS h (fun h=>?_) (fun h=>?_)
   ·conv=>whnf
    refine⟨15,?_⟩
    conv=>whnf
    refine daS (E:=E_Int) h (ref19_at_w a0 v14.2.1) (fun _=>rfl) (fun x15 h=>?_)
    conv=>whnf
    refine daS (E:=E_Int) h (ref19_at_w a0 (wr (v14.2.1+(1:Int)))) (fun _=>rfl) (fun x16 h=>?_)
    conv=>whnf
    refine daS (E:=E_Int) h (ref19_at_w a0 (wr (v14.2.1+(2:Int)))) (fun _=>rfl) (fun x17 h=>?_)
    conv=>whnf
    refine liS ([⟨x15,x16,x17⟩]:List Sec) Sec.enc rfl rfl ?_
    conv=>whnf
    refine drS (by kernel_rfl) ?_
    conv=>whnf
    refine apS (enc:=Sec.enc) (l1:=v14.1) (l2:=([⟨x15,x16,x17⟩]:List Sec)) h rfl rfl (fun _=>rfl) (fun h=>?_)
    conv=>whnf
    refine leX hn14 h ?_
    conv=>whnf
    refine WkF.step (Weak.rekey _ 113 51403 rfl) ?_
    conv=>whnf
    exact WkF.refl _
   conv=>whnf
   refine liS ([⟨x10,x11,x12,v14.1⟩]:List Task) Task.enc rfl rfl ?_
   conv=>whnf
   refine apS (enc:=Task.enc) (l1:=v9.1) (l2:=([⟨x10,x11,x12,v14.1⟩]:List Task)) h rfl rfl (fun _=>rfl) (fun h=>?_)
   conv=>whnf
   refine leX hn9 h ?_
   conv=>whnf
   refine WkF.step (Weak.rekey _ 121 51102 rfl) ?_
   conv=>whnf
   exact WkF.refl _
  conv=>whnf
  refine liS ([⟨⟨x6,x7⟩,v9.1⟩]:List Part) Part.enc rfl rfl ?_
  conv=>whnf
  refine apS (enc:=Part.enc) (l1:=v4.1) (l2:=([⟨⟨x6,x7⟩,v9.1⟩]:List Part)) h rfl rfl (fun _=>rfl) (fun h=>?_)
  conv=>whnf
  refine leX hn4 h ?_
  conv=>whnf
  refine WkF.step (Weak.rekey _ 127 50800 rfl) ?_
  conv=>whnf
  exact WkF.refl _
 conv=>whnf
 refine caS (E:=E_Int) h (ref19_at_w a0 v4.2.1) rfl (fun _=>rfl) (fun x18 h=>?_)
 conv=>whnf
 refine lpS (fun v19=>⟨[(0,.l (.d (.sl (a0.map (eI .u8))))),(2,.l (.ptr 3 0)),(7,.l (.ptr 8 0)),(8,.l (.d (.int .i64 v19.2.1))),(16,.l (.d (.int .i64 x18))),(17,.l (.d (.int .i64 v19.2.2)))],175,[],[(3,[.nil,.nil]),(8,[.own 50800,.own 50801])],[(50800,57,3,v4.1.map Part.enc),(50801,90,3,v19.1.map Port.enc)]⟩) h (Weak.trans (Weak.nilBO _ 8 1 50801 90 3 _ rfl rfl) (Weak.refl _)) (fun _ nx19 hn19 v19 h=>?_)
 conv=>whnf
 refine fkS h (fun h=>?_) (fun h=>?_)
 ·conv=>whnf
  refine⟨15,?_⟩
  conv=>whnf
  refine daS (E:=E_Int) h (ref19_at_w a0 v19.2.1) (fun _=>rfl) (fun x20 h=>?_)
  conv=>whnf
  refine daS (E:=E_Int) h (ref19_at_w a0 (wr (v19.2.1+(1:Int)))) (fun _=>rfl) (fun x21 h=>?_)
  conv=>whnf
  refine daS (E:=E_Int) h (ref19_at_w a0 (wr (v19.2.1+(2:Int)))) (fun _=>rfl) (fun x22 h=>?_)
  conv=>whnf
  refine liS ([⟨x20,x21,x22⟩]:List Port) Port.enc rfl rfl ?_
  conv=>whnf
  refine drS (by kernel_rfl) ?_
  conv=>whnf
  refine apS (enc:=Port.enc) (l1:=v19.1) (l2:=([⟨x20,x21,x22⟩]:List Port)) h rfl rfl (fun _=>rfl) (fun h=>?_)
  conv=>whnf
  refine leX hn19 h ?_
  conv=>whnf
  refine WkF.step (Weak.rekey _ 154 50801 rfl) ?_
  conv=>whnf
  exact WkF.refl _
 conv=>whnf
 refine lenS a0 (eI .u8) rfl ?_
 conv=>whnf
 refine fkS h (fun h=>?_) (fun h=>?_)
 ·conv=>whnf
  refine lenS a0 (eI .u8) rfl ?_
  conv=>whnf
  exact rt (E:=E_Config_Int_Int) h rfl
 conv=>whnf
 refine lenS a0 (eI .u8) rfl ?_
 conv=>whnf
 refine fkS h (fun h=>?_) (fun h=>?_)
 ·conv=>whnf
  exact rt (E:=E_Config_Int_Int) h rfl
 conv=>whnf
 refine caS (E:=E_Bool) h (ref19_Right_w ⟨v4.1,v19.1⟩) rfl (fun _=>rfl) (fun x23 h=>?_)
 conv=>whnf
 refine fkS h (fun h=>?_) (fun h=>?_)
 ·conv=>whnf
  exact rt (E:=E_Config_Int_Int) h rfl
 conv=>whnf
 exact rt (E:=E_Config_Int_Int) h rfl
end Go.Proofs.YtldlcdnhdedoeaaGreat
namespace Go.Proofs.YtldlcdnhdedoeaaGreat
open Go Go.VC
theorem goodC.conf {c:Config} (h:goodC c):confB c:=⟨by have:=h.1; omega,by have:=h.2.1; omega,fun p hp=>⟨by have:=(h.2.2 p hp).1; omega,fun t ht=>by have:=(h.2.2 p hp).2 t ht; unfold goodT at this; omega⟩⟩
section
variable {R:Type} {P:R→Prop}
def atV (b:List Int) (i:Int):Int:=if i≥(b.length:Int) then 0 else (b[i.toNat]?).getD 0
theorem atV_ok {b:List Int} (hb:bytesP b) (i:Int) (h0:0≤i):0≤atV b i∧atV b i≤255:=by
 unfold atV
 by_cases c:i≥(b.length:Int)
 ·rw[if_pos c]; decide
 ·rw[if_neg c]
  have hp:i.toNat<b.length:=by omega
  rw[List.getElem?_eq_getElem hp]
  exact hb.2 _ (List.getElem_mem hp)
theorem ref19_at_eq {b:List Int} (hb:bytesP b) (i:Int) (h0:0≤i):ref19_at b i=some (atV b i):=by
 unfold ref19_at atV
 by_cases c:i≥(b.length:Int)
 ·rw[decide_eq_true c,fk_t,if_pos c]
 ·have hp:i.toNat<b.length:=by omega
  rw[decide_eq_false c,fk_f,if_neg c,ix_int h0 hp,List.getElem?_eq_getElem hp]
  have:=hb.2 _ (List.getElem_mem hp)
  rw[show IntKind.i64.wrap b[i.toNat]=b[i.toNat] from wr_in _ (by omega)]
  rfl
theorem up_lp {E:Type} {body:(List E×Int×Int→Option R)→List E×Int×Int→Option R} (good:E→Prop) (B:Int) {i0:Int} (hi:0≤i0) (hB:0≤B)
  (step:∀(nx:List E×Int×Int→Option R) (l:List E) (i k:Int),0≤k→k≤255→l.length≤255→(∀x∈l,good x)→i0≤i→i≤i0+B*255→(k<255→∀x i',good x→i≤i'→i'≤i+B→∃r,nx (l++[x],i',wr (k+1))=some r∧P r)→∃r,body nx (l,i,k)=some r∧P r) :
  ∃r,lp body FU ([],i0,(0:Int))=some r∧P r:=by
 refine lp_ex (fun v:List E×Int×Int=>255-v.2.2.toNat) (fun v:List E×Int×Int=>0≤v.2.2∧v.2.2≤255∧(v.1.length:Int)=v.2.2∧(∀x∈v.1,good x)∧i0≤v.2.1∧v.2.1≤i0+B*v.2.2) P ?_ FU _ ⟨Int.le_refl _,by show (0:Int)≤255; decide,rfl,fun x h=>by simp at h,Int.le_refl _,by show i0≤i0+B*0; omega⟩ (by unfold FU; simp only; omega)
 rintro nx ⟨l,i,k⟩ ⟨a1,a2,a3,a4,a5,a6⟩ hnx
 simp only at a1 a2 a3 a4 a5 a6
 have hm:B*k≤B*255:=Int.mul_le_mul_of_nonneg_left a2 hB
 refine step nx l i k a1 a2 (by omega) a4 a5 (by omega) fun hk x i' hx h1 h2=>?_
 rw[wr_in (k+1) (by omega)]
 refine hnx _ ⟨by show 0≤k+1; omega,by show k+1≤255; omega,?_,?_,by show i0≤i'; omega,?_⟩ (by show 255-(k+1).toNat<255-k.toNat; omega)
 ·show ((l++[x]).length:Int)=k+1
  rw[List.length_append]; simp only[List.length_cons,List.length_nil]; omega
 ·intro y hy
  rcases List.mem_append.1 hy with hy | hy
  ·exact a4 y hy
  ·rw[List.mem_singleton.1 hy]; exact hx
 ·show i'≤i0+B*(k+1)
  rw[Int.mul_add,Int.mul_one]; omega
theorem bnd_P {α:Type} {c:Option α} {a:α} {f:α→Option R} (h:c=some a) (k:∃r,f a=some r∧P r):∃r,bnd c f=some r∧P r:=by rw[bnd_eq h]; exact k
end
def refR (r:Config×Int×Int):Prop:=goodC r.1
theorem emptyC:goodC ⟨[],[]⟩:=⟨by simp,by simp,fun p h=>by simp at h⟩
theorem ref19_Decode_ex (b:List Int) (hb:bytesP b):∃r,ref19_Decode b=some r∧refR r:=by
 have hl:=hb.1
 have hat:∀i,0≤i→ref19_at b i=some (atV b i):=fun i h=>ref19_at_eq hb i h
 have hok:∀i,0≤i→0≤atV b i∧atV b i≤255:=fun i h=>atV_ok hb i h
 unfold ref19_Decode
 refine lp_ex (fun v:Int=>3-v.toNat) (fun v:Int=>0≤v∧v≤3) _ ?_ FU _ ⟨Int.le_refl _,by decide⟩ (by unfold FU; simp)
 rintro nx i ⟨h2,h3⟩ hnx
 refine fk_P (fun hi=>?_) (fun _=>?_)
 ·have hi:i<3:=of_decide_eq_true hi
  refine fk_P (fun _=>⟨_,rfl,emptyC⟩) (fun hge=>?_)
  have hge:¬i≥(b.length:Int):=of_decide_eq_false hge
  rw[ix_int h2 (by omega)]
  refine ck_P (by rw[decide_eq_true h2,Bool.true_and]; exact decide_eq_true hi) ?_
  rw[ox_lt (by simp; omega)]
  refine fk_P (fun _=>⟨_,rfl,emptyC⟩) (fun _=>?_)
  rw[wr_in (i+1) (by omega)]
  exact hnx _ ⟨by omega,by omega⟩ (by omega)
 ·refine up_lp goodQ 1000000 (by decide) (by decide) ?_
  intro nx l i k k0 k1 l1 lg i00 i1 hnx
  have i0:0≤i:=by omega
  obtain⟨x0,x1⟩:=hok 3 (by decide)
  refine bnd_P (hat 3 (by decide)) ?_
  refine fk_P (fun hk=>?_) (fun _=>?_)
  ·have hk:k<atV b 3:=of_decide_eq_true hk
   refine fk_P (fun _=>⟨_,rfl,emptyC⟩) (fun _=>?_)
   rw[wr_in (i+1) (by omega),wr_in (i+2) (by omega),wr_in (i+3) (by omega)]
   obtain⟨t0,t1⟩:=hok (i+2) (by omega)
   refine bnd_P (hat i i0) (bnd_P (hat (i+1) (by omega)) (bnd_P (hat (i+2) (by omega)) ?_))
   refine up_lp goodT 1000 (by omega) (by decide) ?_
   intro nx2 ts j m m0 m1 s1 sg j00 j1 hnx2
   have j0:0≤j:=by omega
   refine fk_P (fun hm=>?_) (fun _=>?_)
   ·have hm:m<atV b (i+2):=of_decide_eq_true hm
    rw[wr_in (j+1) (by omega),wr_in (j+2) (by omega),wr_in (j+3) (by omega),wr_in (j+4) (by omega)]
    obtain⟨u0,u1⟩:=hok (j+3) (by omega)
    refine bnd_P (hat j j0) (bnd_P (hat (j+1) (by omega)) (bnd_P (hat (j+2) (by omega)) (bnd_P (hat (j+3) (by omega)) ?_)))
    refine up_lp (fun _=>True) 3 (by omega) (by decide) ?_
    intro nx3 ss y n n0 n1 q1 qg y00 y1 hnx3
    have y0:0≤y:=by omega
    refine fk_P (fun hn=>?_) (fun _=>?_)
    ·have hn:n<atV b (j+3):=of_decide_eq_true hn
     rw[wr_in (y+1) (by omega),wr_in (y+2) (by omega),wr_in (y+3) (by omega)]
     refine bnd_P (hat y y0) (bnd_P (hat (y+1) (by omega)) (bnd_P (hat (y+2) (by omega)) ?_))
     exact ck_P (ck1 q1 (by decide)) (hnx3 (by omega) _ _ trivial (by omega) (by omega))
    ·exact ck_P (ck1 s1 (by decide)) (hnx2 (by omega) _ y q1 (by omega) (by omega))
   ·exact ck_P (ck1 l1 (by decide)) (hnx (by omega) _ j ⟨s1,sg⟩ (by omega) (by omega))
  ·refine bnd_P (hat i i0) ?_
   obtain⟨t0,t1⟩:=hok i i0
   rw[wr_in (i+1) (by omega)]
   refine up_lp (fun _=>True) 3 (by omega) (by decide) ?_
   intro nx3 ss y n n0 n1 q1 qg y00 y1 hnx3
   have y0:0≤y:=by omega
   refine fk_P (fun hn=>?_) (fun _=>?_)
   ·have hn:n<atV b i:=of_decide_eq_true hn
    rw[wr_in (y+1) (by omega),wr_in (y+2) (by omega),wr_in (y+3) (by omega)]
    refine bnd_P (hat y y0) (bnd_P (hat (y+1) (by omega)) (bnd_P (hat (y+2) (by omega)) ?_))
    exact ck_P (ck1 q1 (by decide)) (hnx3 (by omega) _ _ trivial (by omega) (by omega))
   ·refine fk_P (fun _=>⟨_,rfl,emptyC⟩) (fun _=>?_)
    refine fk_P (fun _=>⟨_,rfl,emptyC⟩) (fun _=>?_)
    have hc:goodC ⟨l,ss⟩:=⟨l1,q1,lg⟩
    refine bnd_P (ref19_Right_eq _ hc.conf) ?_
    exact fk_P (fun _=>⟨_,rfl,emptyC⟩) (fun _=>⟨_,rfl,hc⟩)
end Go.Proofs.YtldlcdnhdedoeaaGreat
namespace Go.Proofs.YtldlcdnhdedoeaaGreat
open Go Go.VC
noncomputable def law22_script (a0:List Law21Step):Option (List (List KernelCmd)):=
 lp (fun nx1 (v1:(List (List KernelCmd))×Int)=>fk (decide (v1.2<(a0.length:Int))) (ix a0 v1.2 fun x2=>ck (decide ((v1.1.length+([x2.Cmds]:List (List KernelCmd)).length)*24≤140737488355328)) (nx1 (v1.1++([x2.Cmds]:List (List KernelCmd)),(wr (v1.2+(1:Int)))))) (some v1.1)) FU ([],(0:Int))
theorem law22_script_w (a0:List Law21Step) (r:List (List KernelCmd)) (h:law22_script a0=some r):Go.VC.Spec Tryz.prog 42 [.d (.sl (a0.map Law21Step.enc))] (fun y=>y=E_ListListKernelCmd r):=by
 refine Go.VC.Spec.of_xc (args:=[.d (.sl (a0.map Law21Step.enc))]) (fn:=Tryz.f42) tab ⟨[(0,[0]),(1,[0,3]),(2,[0,3,4]),(3,[0,3,4,8]),(4,[0,3,4]),(5,[0,3,4]),(6,[2])],[],[],[]⟩ 20 [.tmp 2] rfl rfl rfl rfl rfl rfl ?_
 conv=>whnf
 refine lpS (fun v1=>⟨[(0,.l (.d (.sl (a0.map Law21Step.enc)))),(3,.l (.own 4)),(4,.l (.d (.int .i64 v1.2)))],20,[],[],[(4,106,1,v1.1.map (eL KernelCmd.enc))]⟩) h (Weak.trans (Weak.nilO _ 3 4 106 1 rfl) (Weak.refl _)) (fun _ nx1 hn1 v1 h=>?_)
 conv=>whnf
 refine lenS a0 Law21Step.enc rfl ?_
 conv=>whnf
 refine fkS h (fun h=>?_) (fun h=>?_)
 ·conv=>whnf
  refine ixS (enc:=Law21Step.enc) h rfl (fun _=>rfl) (fun x2 h=>?_)
  conv=>whnf
  refine liS ([x2.Cmds]:List (List KernelCmd)) (eL KernelCmd.enc) rfl rfl ?_
  conv=>whnf
  refine apS (enc:=(eL KernelCmd.enc)) (l1:=v1.1) (l2:=([x2.Cmds]:List (List KernelCmd))) h rfl rfl (fun _=>rfl) (fun h=>?_)
  conv=>whnf
  exact leS hn1 h (Weak.refl _)
 conv=>whnf
 exact rt (E:=E_ListListKernelCmd) h rfl
end Go.Proofs.YtldlcdnhdedoeaaGreat
namespace Go.Proofs.YtldlcdnhdedoeaaGreat
open Go Go.VC
/-! Scripts, and what is left of them. -/
theorem flt_succ {α:Type} (q:α→Bool) (x:List α) (k:Nat) (h:k<x.length):(x.take (k+1)).filter q=(x.take k).filter q++(if q x[k] then [x[k]] else []):=by
 rw[←List.take_append_getElem h,List.filter_append]
 congr 1
 cases hq:q x[k] <;> simp[hq]
theorem flt_len {α:Type} (q:α→Bool) (x:List α) (k:Nat):((x.take k).filter q).length≤k:=Nat.le_trans (List.length_filter_le _ _) (by rw[List.length_take]; omega)
theorem map_take_succ {α β:Type} (f:α→β) (x:List α) (k:Nat) (h:k<x.length):(x.take (k+1)).map f=(x.take k).map f++[f x[k]]:=by
 rw[←List.take_append_getElem h,List.map_append]; rfl
theorem map_take_len {α β:Type} (f:α→β) (x:List α) (k:Nat):((x.take k).map f).length≤k:=by rw[List.length_map,List.length_take]; omega
theorem ck_le {α E:Type} {l:List E} {y:E} (z:Nat) {x:Option α} (hz:z≤1000) (hn:l.length≤1000000000):ck (decide ((l.length+([y]:List E).length)*z≤140737488355328)) x=x:=by
 refine ck_t (decide_eq_true ?_)
 simp only[List.length_cons,List.length_nil]
 have:(l.length+(0+1))*z≤1000000001*1000:=Nat.mul_le_mul (by omega) hz
 omega
theorem law22_script_eq (l:List Law21Step) (hl:l.length≤1000000000):law22_script l=some (l.map (·.Cmds)):=by
 unfold law22_script
 refine lp_upS l.length (by unfold FU; omega) (fun k o=>o=(l.take k).map (·.Cmds)) [] rfl ?_
 rintro nx k o hk rfl hnx
 have hk9:k≤1000000000:=by omega
 simp only
 rw[lt_nat]
 by_cases h:k<l.length
 ·rw[decide_eq_true h,fk_t,ix_lt h,ck_le 24 (by decide) (Nat.le_trans (map_take_len _ _ _) hk9),wr_succ k _ h (by omega)]
  exact hnx _ h (map_take_succ _ l k h).symm
 ·rw[decide_eq_false h,fk_f]
  have e:k=l.length:=by omega
  rw[e,List.take_length]
def keepC (p:Int) (s:Bool) (part kind:Int):Bool:=if part=p then true else if s=true then decide (kind=2) else false
end Go.Proofs.YtldlcdnhdedoeaaGreat
namespace Go.Proofs.YtldlcdnhdedoeaaGreat
open Go Go.VC
noncomputable def world_may (a0:List (List KernelCmd)):Option Bool:=
 lp (fun nx1 (v1:Int)=>fk (decide (v1<(a0.length:Int))) (ix a0 v1 fun x2=>fk (decide ((x2.length:Int)>(100:Int))) (some false) (nx1 (wr (v1+(1:Int))))) (some (decide ((a0.length:Int)≤(3000:Int))))) FU (0:Int)
theorem world_may_w (a0:List (List KernelCmd)) (r:Bool) (h:world_may a0=some r):Go.VC.Spec Tryz.prog 98 [.d (.sl (a0.map (eL KernelCmd.enc)))] (fun y=>y=E_Bool r):=by
 refine Go.VC.Spec.of_xc (args:=[.d (.sl (a0.map (eL KernelCmd.enc)))]) (fn:=Tryz.f98) tab ⟨[(0,[0]),(1,[0,5,6,7]),(2,[0,5,6,7,8]),(3,[0,4,5,6,7]),(4,[0,5,6,7,13]),(5,[2]),(6,[0,5,6,7]),(7,[2])],[],[],[]⟩ 18 [.tmp 2] rfl rfl rfl rfl rfl rfl ?_
 conv=>whnf
 refine lenS a0 (eL KernelCmd.enc) rfl ?_
 conv=>whnf
 refine lpS (fun v1=>⟨[(0,.l (.d (.sl (a0.map (eL KernelCmd.enc))))),(5,.l (.d (.sl (a0.map (eL KernelCmd.enc))))),(6,.l (.d (.int .i64 (a0.length:Int)))),(7,.l (.d (.int .i64 v1)))],18,[],[],[]⟩) h (Weak.refl _) (fun _ nx1 hn1 v1 h=>?_)
 conv=>whnf
 refine fkS h (fun h=>?_) (fun h=>?_)
 ·conv=>whnf
  refine ixS (enc:=(eL KernelCmd.enc)) h rfl (fun _=>rfl) (fun x2 h=>?_)
  conv=>whnf
  refine lenS x2 KernelCmd.enc rfl ?_
  conv=>whnf
  refine fkS h (fun h=>?_) (fun h=>?_)
  ·conv=>whnf
   exact rt (E:=E_Bool) h rfl
  conv=>whnf
  exact leS hn1 h (Weak.refl _)
 conv=>whnf
 refine lenS a0 (eL KernelCmd.enc) rfl ?_
 conv=>whnf
 exact rt (E:=E_Bool) h rfl
end Go.Proofs.YtldlcdnhdedoeaaGreat
namespace Go.Proofs.YtldlcdnhdedoeaaGreat
open Go Go.VC
noncomputable def world_Play (a0:List Int) (a1:List (List KernelCmd)):Option ((List WorldView)×Int):=
 bnd (image_Decode a0) fun x1=>fk (!decide (x1.2.2=(0:Int))) (some ([],x1.2.2)) (bnd (kernel_Boot x1.1) fun x2=>fk (!decide (x2.2=(0:Int))) (some ([],x2.2)) (bnd (world_may a1) fun x3=>fk (!x3) (some ([],(5:Int))) (fk (decide ((x2.1.Parts.length:Int)=(0:Int))) (lp (fun nx88 (v88:Int×(List Window)×(List Face)×(List PartState)×(List PortLine)×Int×Int)=>fk (decide (v88.2.2.2.2.2.2<(a1.length:Int))) (ix a1 v88.2.2.2.2.2.2 fun x89=>lp (fun nx90 (v90:Int×(List Window)×(List Face)×(List PartState)×(List PortLine)×Int×Int)=>fk (decide (v90.2.2.2.2.2.2<(x89.length:Int))) (ix x89 v90.2.2.2.2.2.2 fun x91=>bnd (kernel_Do (⟨⟨v90.1,v90.2.1⟩,v90.2.2.1,v90.2.2.2.1,v90.2.2.2.2.1,v90.2.2.2.2.2.1⟩) x91) fun x92=>jn (fun (w93:Unit)=>nx90 (x92.1.Table.Frame,x92.1.Table.Windows,x92.1.Faces,x92.1.Parts,x92.1.Lines,x92.1.Now,(wr (v90.2.2.2.2.2.2+(1:Int))))) (fun k93=>jn (fun (w94:Bool)=>fk w94 (none) (k93 ())) (fun k94=>fk (decide (x91.Part≥(0:Int))) (k94 (decide (x91.Part<(0:Int)))) (k94 false)))) (bnd (kernel_Tick (⟨⟨v90.1,v90.2.1⟩,v90.2.2.1,v90.2.2.2.1,v90.2.2.2.2.1,v90.2.2.2.2.2.1⟩)) fun x95=>lp (fun nx96 (v96:Unit)=>nx88 (x95.1.Table.Frame,x95.1.Table.Windows,x95.1.Faces,x95.1.Parts,x95.1.Lines,x95.1.Now,(wr (v88.2.2.2.2.2.2+(1:Int))))) FU ())) FU (v88.1,v88.2.1,v88.2.2.1,v88.2.2.2.1,v88.2.2.2.2.1,v88.2.2.2.2.2.1,(0:Int))) (lp (fun nx97 (v97:Unit)=>some (([]:List WorldView),(0:Int))) FU ())) FU (x2.1.Table.Frame,x2.1.Table.Windows,x2.1.Faces,x2.1.Parts,x2.1.Lines,x2.1.Now,(0:Int))) (fk (decide ((x2.1.Parts.length:Int)=(1:Int))) (lp (fun nx73 (v73:Int×(List Window)×(List Face)×(List PartState)×(List PortLine)×Int×(List WorldSaw)×(List Int)×Int)=>fk (decide (v73.2.2.2.2.2.2.2.2<(a1.length:Int))) (ix a1 v73.2.2.2.2.2.2.2.2 fun x74=>lp (fun nx75 (v75:Int×(List Window)×(List Face)×(List PartState)×(List PortLine)×Int×(List WorldSaw)×Int)=>fk (decide (v75.2.2.2.2.2.2.2<(x74.length:Int))) (ix x74 v75.2.2.2.2.2.2.2 fun x76=>bnd (kernel_Do (⟨⟨v75.1,v75.2.1⟩,v75.2.2.1,v75.2.2.2.1,v75.2.2.2.2.1,v75.2.2.2.2.2.1⟩) x76) fun x77=>jn (fun (w78:List WorldSaw)=>nx75 (x77.1.Table.Frame,x77.1.Table.Windows,x77.1.Faces,x77.1.Parts,x77.1.Lines,x77.1.Now,w78,(wr (v75.2.2.2.2.2.2.2+(1:Int))))) (fun k78=>jn (fun (w79:Bool)=>fk w79 (fk (decide (x76.Part=(0:Int))) (ck (decide ((v75.2.2.2.2.2.2.1.length+([⟨v73.2.2.2.2.2.2.2.2,x77.2.1,x77.2.2⟩]:List WorldSaw).length)*24≤140737488355328)) (k78 (v75.2.2.2.2.2.2.1++([⟨v73.2.2.2.2.2.2.2.2,x77.2.1,x77.2.2⟩]:List WorldSaw)))) (none)) (k78 v75.2.2.2.2.2.2.1)) (fun k79=>fk (decide (x76.Part≥(0:Int))) (k79 (decide (x76.Part<(1:Int)))) (k79 false)))) (bnd (kernel_Tick (⟨⟨v75.1,v75.2.1⟩,v75.2.2.1,v75.2.2.2.1,v75.2.2.2.2.1,v75.2.2.2.2.2.1⟩)) fun x81=>lp (fun nx82 (v82:(List Int)×Int)=>fk (decide (v82.2<(1:Int))) (fk (decide (v82.2=(0:Int))) (ix x81.2.1 v82.2 fun x84=>ck (decide ((v82.1.length+([x84]:List Int).length)*8≤140737488355328)) (nx82 (v82.1++([x84]:List Int),(wr (v82.2+(1:Int)))))) (none)) (nx73 (x81.1.Table.Frame,x81.1.Table.Windows,x81.1.Faces,x81.1.Parts,x81.1.Lines,x81.1.Now,v75.2.2.2.2.2.2.1,v82.1,(wr (v73.2.2.2.2.2.2.2.2+(1:Int)))))) FU (v73.2.2.2.2.2.2.2.1,(0:Int)))) FU (v73.1,v73.2.1,v73.2.2.1,v73.2.2.2.1,v73.2.2.2.2.1,v73.2.2.2.2.2.1,v73.2.2.2.2.2.2.1,(0:Int))) (lp (fun nx85 (v85:(List Entry)×Int)=>fk (decide (v85.2<(1:Int))) (ix v73.2.2.2.1 v85.2 fun x86=>fk (decide (v85.2=(0:Int))) (nx85 (x86.Log,(wr (v85.2+(1:Int))))) (none)) (some (([⟨v73.2.2.2.2.2.2.1,v73.2.2.2.2.2.2.2.1,v85.1⟩]:List WorldView),(0:Int)))) FU ([],(0:Int)))) FU (x2.1.Table.Frame,x2.1.Table.Windows,x2.1.Faces,x2.1.Parts,x2.1.Lines,x2.1.Now,[],[],(0:Int))) (fk (decide ((x2.1.Parts.length:Int)=(2:Int))) (lp (fun nx54 (v54:Int×(List Window)×(List Face)×(List PartState)×(List PortLine)×Int×(List WorldSaw)×(List Int)×(List WorldSaw)×(List Int)×Int)=>fk (decide (v54.2.2.2.2.2.2.2.2.2.2<(a1.length:Int))) (ix a1 v54.2.2.2.2.2.2.2.2.2.2 fun x55=>lp (fun nx56 (v56:Int×(List Window)×(List Face)×(List PartState)×(List PortLine)×Int×(List WorldSaw)×(List WorldSaw)×Int)=>fk (decide (v56.2.2.2.2.2.2.2.2<(x55.length:Int))) (ix x55 v56.2.2.2.2.2.2.2.2 fun x57=>bnd (kernel_Do (⟨⟨v56.1,v56.2.1⟩,v56.2.2.1,v56.2.2.2.1,v56.2.2.2.2.1,v56.2.2.2.2.2.1⟩) x57) fun x58=>jn (fun (w59:(List WorldSaw)×(List WorldSaw))=>nx56 (x58.1.Table.Frame,x58.1.Table.Windows,x58.1.Faces,x58.1.Parts,x58.1.Lines,x58.1.Now,w59.1,w59.2,(wr (v56.2.2.2.2.2.2.2.2+(1:Int))))) (fun k59=>jn (fun (w60:Bool)=>fk w60 (fk (decide (x57.Part=(0:Int))) (ck (decide ((v56.2.2.2.2.2.2.1.length+([⟨v54.2.2.2.2.2.2.2.2.2.2,x58.2.1,x58.2.2⟩]:List WorldSaw).length)*24≤140737488355328)) (k59 (v56.2.2.2.2.2.2.1++([⟨v54.2.2.2.2.2.2.2.2.2.2,x58.2.1,x58.2.2⟩]:List WorldSaw),v56.2.2.2.2.2.2.2.1))) (fk (decide (x57.Part=(1:Int))) (ck (decide ((v56.2.2.2.2.2.2.2.1.length+([⟨v54.2.2.2.2.2.2.2.2.2.2,x58.2.1,x58.2.2⟩]:List WorldSaw).length)*24≤140737488355328)) (k59 (v56.2.2.2.2.2.2.1,v56.2.2.2.2.2.2.2.1++([⟨v54.2.2.2.2.2.2.2.2.2.2,x58.2.1,x58.2.2⟩]:List WorldSaw)))) (none))) (k59 (v56.2.2.2.2.2.2.1,v56.2.2.2.2.2.2.2.1))) (fun k60=>fk (decide (x57.Part≥(0:Int))) (k60 (decide (x57.Part<(2:Int)))) (k60 false)))) (bnd (kernel_Tick (⟨⟨v56.1,v56.2.1⟩,v56.2.2.1,v56.2.2.2.1,v56.2.2.2.2.1,v56.2.2.2.2.2.1⟩)) fun x63=>lp (fun nx64 (v64:(List Int)×(List Int)×Int)=>fk (decide (v64.2.2<(2:Int))) (fk (decide (v64.2.2=(0:Int))) (ix x63.2.1 v64.2.2 fun x68=>ck (decide ((v64.1.length+([x68]:List Int).length)*8≤140737488355328)) (nx64 (v64.1++([x68]:List Int),v64.2.1,(wr (v64.2.2+(1:Int)))))) (fk (decide (v64.2.2=(1:Int))) (ix x63.2.1 v64.2.2 fun x67=>ck (decide ((v64.2.1.length+([x67]:List Int).length)*8≤140737488355328)) (nx64 (v64.1,v64.2.1++([x67]:List Int),(wr (v64.2.2+(1:Int)))))) (none))) (nx54 (x63.1.Table.Frame,x63.1.Table.Windows,x63.1.Faces,x63.1.Parts,x63.1.Lines,x63.1.Now,v56.2.2.2.2.2.2.1,v64.1,v56.2.2.2.2.2.2.2.1,v64.2.1,(wr (v54.2.2.2.2.2.2.2.2.2.2+(1:Int)))))) FU (v54.2.2.2.2.2.2.2.1,v54.2.2.2.2.2.2.2.2.2.1,(0:Int)))) FU (v54.1,v54.2.1,v54.2.2.1,v54.2.2.2.1,v54.2.2.2.2.1,v54.2.2.2.2.2.1,v54.2.2.2.2.2.2.1,v54.2.2.2.2.2.2.2.2.1,(0:Int))) (lp (fun nx69 (v69:(List Entry)×(List Entry)×Int)=>fk (decide (v69.2.2<(2:Int))) (ix v54.2.2.2.1 v69.2.2 fun x70=>fk (decide (v69.2.2=(0:Int))) (nx69 (x70.Log,v69.2.1,(wr (v69.2.2+(1:Int))))) (fk (decide (v69.2.2=(1:Int))) (nx69 (v69.1,x70.Log,(wr (v69.2.2+(1:Int))))) (none))) (some (([⟨v54.2.2.2.2.2.2.1,v54.2.2.2.2.2.2.2.1,v69.1⟩,⟨v54.2.2.2.2.2.2.2.2.1,v54.2.2.2.2.2.2.2.2.2.1,v69.2.1⟩]:List WorldView),(0:Int)))) FU ([],[],(0:Int)))) FU (x2.1.Table.Frame,x2.1.Table.Windows,x2.1.Faces,x2.1.Parts,x2.1.Lines,x2.1.Now,[],[],[],[],(0:Int))) (fk (decide ((x2.1.Parts.length:Int)=(3:Int))) (lp (fun nx31 (v31:Int×(List Window)×(List Face)×(List PartState)×(List PortLine)×Int×(List WorldSaw)×(List Int)×(List WorldSaw)×(List Int)×(List WorldSaw)×(List Int)×Int)=>fk (decide (v31.2.2.2.2.2.2.2.2.2.2.2.2<(a1.length:Int))) (ix a1 v31.2.2.2.2.2.2.2.2.2.2.2.2 fun x32=>lp (fun nx33 (v33:Int×(List Window)×(List Face)×(List PartState)×(List PortLine)×Int×(List WorldSaw)×(List WorldSaw)×(List WorldSaw)×Int)=>fk (decide (v33.2.2.2.2.2.2.2.2.2<(x32.length:Int))) (ix x32 v33.2.2.2.2.2.2.2.2.2 fun x34=>bnd (kernel_Do (⟨⟨v33.1,v33.2.1⟩,v33.2.2.1,v33.2.2.2.1,v33.2.2.2.2.1,v33.2.2.2.2.2.1⟩) x34) fun x35=>jn (fun (w36:(List WorldSaw)×(List WorldSaw)×(List WorldSaw))=>nx33 (x35.1.Table.Frame,x35.1.Table.Windows,x35.1.Faces,x35.1.Parts,x35.1.Lines,x35.1.Now,w36.1,w36.2.1,w36.2.2,(wr (v33.2.2.2.2.2.2.2.2.2+(1:Int))))) (fun k36=>jn (fun (w37:Bool)=>fk w37 (fk (decide (x34.Part=(0:Int))) (ck (decide ((v33.2.2.2.2.2.2.1.length+([⟨v31.2.2.2.2.2.2.2.2.2.2.2.2,x35.2.1,x35.2.2⟩]:List WorldSaw).length)*24≤140737488355328)) (k36 (v33.2.2.2.2.2.2.1++([⟨v31.2.2.2.2.2.2.2.2.2.2.2.2,x35.2.1,x35.2.2⟩]:List WorldSaw),v33.2.2.2.2.2.2.2.1,v33.2.2.2.2.2.2.2.2.1))) (fk (decide (x34.Part=(1:Int))) (ck (decide ((v33.2.2.2.2.2.2.2.1.length+([⟨v31.2.2.2.2.2.2.2.2.2.2.2.2,x35.2.1,x35.2.2⟩]:List WorldSaw).length)*24≤140737488355328)) (k36 (v33.2.2.2.2.2.2.1,v33.2.2.2.2.2.2.2.1++([⟨v31.2.2.2.2.2.2.2.2.2.2.2.2,x35.2.1,x35.2.2⟩]:List WorldSaw),v33.2.2.2.2.2.2.2.2.1))) (fk (decide (x34.Part=(2:Int))) (ck (decide ((v33.2.2.2.2.2.2.2.2.1.length+([⟨v31.2.2.2.2.2.2.2.2.2.2.2.2,x35.2.1,x35.2.2⟩]:List WorldSaw).length)*24≤140737488355328)) (k36 (v33.2.2.2.2.2.2.1,v33.2.2.2.2.2.2.2.1,v33.2.2.2.2.2.2.2.2.1++([⟨v31.2.2.2.2.2.2.2.2.2.2.2.2,x35.2.1,x35.2.2⟩]:List WorldSaw)))) (none)))) (k36 (v33.2.2.2.2.2.2.1,v33.2.2.2.2.2.2.2.1,v33.2.2.2.2.2.2.2.2.1))) (fun k37=>fk (decide (x34.Part≥(0:Int))) (k37 (decide (x34.Part<(3:Int)))) (k37 false)))) (bnd (kernel_Tick (⟨⟨v33.1,v33.2.1⟩,v33.2.2.1,v33.2.2.2.1,v33.2.2.2.2.1,v33.2.2.2.2.2.1⟩)) fun x41=>lp (fun nx42 (v42:(List Int)×(List Int)×(List Int)×Int)=>fk (decide (v42.2.2.2<(3:Int))) (fk (decide (v42.2.2.2=(0:Int))) (ix x41.2.1 v42.2.2.2 fun x48=>ck (decide ((v42.1.length+([x48]:List Int).length)*8≤140737488355328)) (nx42 (v42.1++([x48]:List Int),v42.2.1,v42.2.2.1,(wr (v42.2.2.2+(1:Int)))))) (fk (decide (v42.2.2.2=(1:Int))) (ix x41.2.1 v42.2.2.2 fun x47=>ck (decide ((v42.2.1.length+([x47]:List Int).length)*8≤140737488355328)) (nx42 (v42.1,v42.2.1++([x47]:List Int),v42.2.2.1,(wr (v42.2.2.2+(1:Int)))))) (fk (decide (v42.2.2.2=(2:Int))) (ix x41.2.1 v42.2.2.2 fun x46=>ck (decide ((v42.2.2.1.length+([x46]:List Int).length)*8≤140737488355328)) (nx42 (v42.1,v42.2.1,v42.2.2.1++([x46]:List Int),(wr (v42.2.2.2+(1:Int)))))) (none)))) (nx31 (x41.1.Table.Frame,x41.1.Table.Windows,x41.1.Faces,x41.1.Parts,x41.1.Lines,x41.1.Now,v33.2.2.2.2.2.2.1,v42.1,v33.2.2.2.2.2.2.2.1,v42.2.1,v33.2.2.2.2.2.2.2.2.1,v42.2.2.1,(wr (v31.2.2.2.2.2.2.2.2.2.2.2.2+(1:Int)))))) FU (v31.2.2.2.2.2.2.2.1,v31.2.2.2.2.2.2.2.2.2.1,v31.2.2.2.2.2.2.2.2.2.2.2.1,(0:Int)))) FU (v31.1,v31.2.1,v31.2.2.1,v31.2.2.2.1,v31.2.2.2.2.1,v31.2.2.2.2.2.1,v31.2.2.2.2.2.2.1,v31.2.2.2.2.2.2.2.2.1,v31.2.2.2.2.2.2.2.2.2.2.1,(0:Int))) (lp (fun nx49 (v49:(List Entry)×(List Entry)×(List Entry)×Int)=>fk (decide (v49.2.2.2<(3:Int))) (ix v31.2.2.2.1 v49.2.2.2 fun x50=>fk (decide (v49.2.2.2=(0:Int))) (nx49 (x50.Log,v49.2.1,v49.2.2.1,(wr (v49.2.2.2+(1:Int))))) (fk (decide (v49.2.2.2=(1:Int))) (nx49 (v49.1,x50.Log,v49.2.2.1,(wr (v49.2.2.2+(1:Int))))) (fk (decide (v49.2.2.2=(2:Int))) (nx49 (v49.1,v49.2.1,x50.Log,(wr (v49.2.2.2+(1:Int))))) (none)))) (some (([⟨v31.2.2.2.2.2.2.1,v31.2.2.2.2.2.2.2.1,v49.1⟩,⟨v31.2.2.2.2.2.2.2.2.1,v31.2.2.2.2.2.2.2.2.2.1,v49.2.1⟩,⟨v31.2.2.2.2.2.2.2.2.2.2.1,v31.2.2.2.2.2.2.2.2.2.2.2.1,v49.2.2.1⟩]:List WorldView),(0:Int)))) FU ([],[],[],(0:Int)))) FU (x2.1.Table.Frame,x2.1.Table.Windows,x2.1.Faces,x2.1.Parts,x2.1.Lines,x2.1.Now,[],[],[],[],[],[],(0:Int))) (fk (decide ((x2.1.Parts.length:Int)=(4:Int))) (lp (fun nx4 (v4:Int×(List Window)×(List Face)×(List PartState)×(List PortLine)×Int×(List WorldSaw)×(List Int)×(List WorldSaw)×(List Int)×(List WorldSaw)×(List Int)×(List WorldSaw)×(List Int)×Int)=>fk (decide (v4.2.2.2.2.2.2.2.2.2.2.2.2.2.2<(a1.length:Int))) (ix a1 v4.2.2.2.2.2.2.2.2.2.2.2.2.2.2 fun x5=>lp (fun nx6 (v6:Int×(List Window)×(List Face)×(List PartState)×(List PortLine)×Int×(List WorldSaw)×(List WorldSaw)×(List WorldSaw)×(List WorldSaw)×Int)=>fk (decide (v6.2.2.2.2.2.2.2.2.2.2<(x5.length:Int))) (ix x5 v6.2.2.2.2.2.2.2.2.2.2 fun x7=>bnd (kernel_Do (⟨⟨v6.1,v6.2.1⟩,v6.2.2.1,v6.2.2.2.1,v6.2.2.2.2.1,v6.2.2.2.2.2.1⟩) x7) fun x8=>jn (fun (w9:(List WorldSaw)×(List WorldSaw)×(List WorldSaw)×(List WorldSaw))=>nx6 (x8.1.Table.Frame,x8.1.Table.Windows,x8.1.Faces,x8.1.Parts,x8.1.Lines,x8.1.Now,w9.1,w9.2.1,w9.2.2.1,w9.2.2.2,(wr (v6.2.2.2.2.2.2.2.2.2.2+(1:Int))))) (fun k9=>jn (fun (w10:Bool)=>fk w10 (fk (decide (x7.Part=(0:Int))) (ck (decide ((v6.2.2.2.2.2.2.1.length+([⟨v4.2.2.2.2.2.2.2.2.2.2.2.2.2.2,x8.2.1,x8.2.2⟩]:List WorldSaw).length)*24≤140737488355328)) (k9 (v6.2.2.2.2.2.2.1++([⟨v4.2.2.2.2.2.2.2.2.2.2.2.2.2.2,x8.2.1,x8.2.2⟩]:List WorldSaw),v6.2.2.2.2.2.2.2.1,v6.2.2.2.2.2.2.2.2.1,v6.2.2.2.2.2.2.2.2.2.1))) (fk (decide (x7.Part=(1:Int))) (ck (decide ((v6.2.2.2.2.2.2.2.1.length+([⟨v4.2.2.2.2.2.2.2.2.2.2.2.2.2.2,x8.2.1,x8.2.2⟩]:List WorldSaw).length)*24≤140737488355328)) (k9 (v6.2.2.2.2.2.2.1,v6.2.2.2.2.2.2.2.1++([⟨v4.2.2.2.2.2.2.2.2.2.2.2.2.2.2,x8.2.1,x8.2.2⟩]:List WorldSaw),v6.2.2.2.2.2.2.2.2.1,v6.2.2.2.2.2.2.2.2.2.1))) (fk (decide (x7.Part=(2:Int))) (ck (decide ((v6.2.2.2.2.2.2.2.2.1.length+([⟨v4.2.2.2.2.2.2.2.2.2.2.2.2.2.2,x8.2.1,x8.2.2⟩]:List WorldSaw).length)*24≤140737488355328)) (k9 (v6.2.2.2.2.2.2.1,v6.2.2.2.2.2.2.2.1,v6.2.2.2.2.2.2.2.2.1++([⟨v4.2.2.2.2.2.2.2.2.2.2.2.2.2.2,x8.2.1,x8.2.2⟩]:List WorldSaw),v6.2.2.2.2.2.2.2.2.2.1))) (fk (decide (x7.Part=(3:Int))) (ck (decide ((v6.2.2.2.2.2.2.2.2.2.1.length+([⟨v4.2.2.2.2.2.2.2.2.2.2.2.2.2.2,x8.2.1,x8.2.2⟩]:List WorldSaw).length)*24≤140737488355328)) (k9 (v6.2.2.2.2.2.2.1,v6.2.2.2.2.2.2.2.1,v6.2.2.2.2.2.2.2.2.1,v6.2.2.2.2.2.2.2.2.2.1++([⟨v4.2.2.2.2.2.2.2.2.2.2.2.2.2.2,x8.2.1,x8.2.2⟩]:List WorldSaw)))) (none))))) (k9 (v6.2.2.2.2.2.2.1,v6.2.2.2.2.2.2.2.1,v6.2.2.2.2.2.2.2.2.1,v6.2.2.2.2.2.2.2.2.2.1))) (fun k10=>fk (decide (x7.Part≥(0:Int))) (k10 (decide (x7.Part<(4:Int)))) (k10 false)))) (bnd (kernel_Tick (⟨⟨v6.1,v6.2.1⟩,v6.2.2.1,v6.2.2.2.1,v6.2.2.2.2.1,v6.2.2.2.2.2.1⟩)) fun x15=>lp (fun nx16 (v16:(List Int)×(List Int)×(List Int)×(List Int)×Int)=>fk (decide (v16.2.2.2.2<(4:Int))) (fk (decide (v16.2.2.2.2=(0:Int))) (ix x15.2.1 v16.2.2.2.2 fun x24=>ck (decide ((v16.1.length+([x24]:List Int).length)*8≤140737488355328)) (nx16 (v16.1++([x24]:List Int),v16.2.1,v16.2.2.1,v16.2.2.2.1,(wr (v16.2.2.2.2+(1:Int)))))) (fk (decide (v16.2.2.2.2=(1:Int))) (ix x15.2.1 v16.2.2.2.2 fun x23=>ck (decide ((v16.2.1.length+([x23]:List Int).length)*8≤140737488355328)) (nx16 (v16.1,v16.2.1++([x23]:List Int),v16.2.2.1,v16.2.2.2.1,(wr (v16.2.2.2.2+(1:Int)))))) (fk (decide (v16.2.2.2.2=(2:Int))) (ix x15.2.1 v16.2.2.2.2 fun x22=>ck (decide ((v16.2.2.1.length+([x22]:List Int).length)*8≤140737488355328)) (nx16 (v16.1,v16.2.1,v16.2.2.1++([x22]:List Int),v16.2.2.2.1,(wr (v16.2.2.2.2+(1:Int)))))) (fk (decide (v16.2.2.2.2=(3:Int))) (ix x15.2.1 v16.2.2.2.2 fun x21=>ck (decide ((v16.2.2.2.1.length+([x21]:List Int).length)*8≤140737488355328)) (nx16 (v16.1,v16.2.1,v16.2.2.1,v16.2.2.2.1++([x21]:List Int),(wr (v16.2.2.2.2+(1:Int)))))) (none))))) (nx4 (x15.1.Table.Frame,x15.1.Table.Windows,x15.1.Faces,x15.1.Parts,x15.1.Lines,x15.1.Now,v6.2.2.2.2.2.2.1,v16.1,v6.2.2.2.2.2.2.2.1,v16.2.1,v6.2.2.2.2.2.2.2.2.1,v16.2.2.1,v6.2.2.2.2.2.2.2.2.2.1,v16.2.2.2.1,(wr (v4.2.2.2.2.2.2.2.2.2.2.2.2.2.2+(1:Int)))))) FU (v4.2.2.2.2.2.2.2.1,v4.2.2.2.2.2.2.2.2.2.1,v4.2.2.2.2.2.2.2.2.2.2.2.1,v4.2.2.2.2.2.2.2.2.2.2.2.2.2.1,(0:Int)))) FU (v4.1,v4.2.1,v4.2.2.1,v4.2.2.2.1,v4.2.2.2.2.1,v4.2.2.2.2.2.1,v4.2.2.2.2.2.2.1,v4.2.2.2.2.2.2.2.2.1,v4.2.2.2.2.2.2.2.2.2.2.1,v4.2.2.2.2.2.2.2.2.2.2.2.2.1,(0:Int))) (lp (fun nx25 (v25:(List Entry)×(List Entry)×(List Entry)×(List Entry)×Int)=>fk (decide (v25.2.2.2.2<(4:Int))) (ix v4.2.2.2.1 v25.2.2.2.2 fun x26=>fk (decide (v25.2.2.2.2=(0:Int))) (nx25 (x26.Log,v25.2.1,v25.2.2.1,v25.2.2.2.1,(wr (v25.2.2.2.2+(1:Int))))) (fk (decide (v25.2.2.2.2=(1:Int))) (nx25 (v25.1,x26.Log,v25.2.2.1,v25.2.2.2.1,(wr (v25.2.2.2.2+(1:Int))))) (fk (decide (v25.2.2.2.2=(2:Int))) (nx25 (v25.1,v25.2.1,x26.Log,v25.2.2.2.1,(wr (v25.2.2.2.2+(1:Int))))) (fk (decide (v25.2.2.2.2=(3:Int))) (nx25 (v25.1,v25.2.1,v25.2.2.1,x26.Log,(wr (v25.2.2.2.2+(1:Int))))) (none))))) (some (([⟨v4.2.2.2.2.2.2.1,v4.2.2.2.2.2.2.2.1,v25.1⟩,⟨v4.2.2.2.2.2.2.2.2.1,v4.2.2.2.2.2.2.2.2.2.1,v25.2.1⟩,⟨v4.2.2.2.2.2.2.2.2.2.2.1,v4.2.2.2.2.2.2.2.2.2.2.2.1,v25.2.2.1⟩,⟨v4.2.2.2.2.2.2.2.2.2.2.2.2.1,v4.2.2.2.2.2.2.2.2.2.2.2.2.2.1,v25.2.2.2.1⟩]:List WorldView),(0:Int)))) FU ([],[],[],[],(0:Int)))) FU (x2.1.Table.Frame,x2.1.Table.Windows,x2.1.Faces,x2.1.Parts,x2.1.Lines,x2.1.Now,[],[],[],[],[],[],[],[],(0:Int))) (none))))))))
theorem world_Play_w (a0:List Int) (a1:List (List KernelCmd)) (r:(List WorldView)×Int) (h:world_Play a0 a1=some r):Go.VC.Spec Tryz.prog 41 [.d (.sl (a0.map (eI .u8))),.d (.sl (a1.map (eL KernelCmd.enc)))] (fun y=>y=E_ListWorldView_Int r):=by
 refine Go.VC.Spec.of_xc (args:=[.d (.sl (a0.map (eI .u8))),.d (.sl (a1.map (eL KernelCmd.enc)))]) (fn:=Tryz.f41) tab ⟨[(0,[0,1]),(1,[1,6,8]),(2,[1,6,8,30]),(3,[4,5]),(4,[1,8,9]),(5,[1,8,9,38]),(6,[4,5]),(7,[1,9,42]),(8,[4,5]),(9,[1,9,10]),(10,[9,10,47,48,49]),(11,[9,10,47,48,49,50]),(12,[9,10,11,12,47,48,49]),(13,[9,10,11,47,48,49,54,55,56]),(14,[9,10,11,47,48,49,54,55,56,57]),(15,[9,10,11,14,47,48,49,54,55,56]),(16,[9,10,11,14,15,16,17,47,48,49,54,55,56]),(17,[9,10,11,14,15,16,17,47,48,49,54,55,56,76]),(18,[9,10,11,15,47,48,49,54,55,56]),(19,[9,10,11,47,48,49,54,55,56]),(20,[9,10,11,47,48,49,54,55,56]),(21,[9,10,18,19,47,48,49]),(22,[9,10,18,19,47,48,49,103,104]),(23,[9,10,18,19,47,48,49,103,104,105]),(24,[9,10,18,19,21,47,48,49,103,104]),(25,[9,10,18,19,47,48,49,103,104]),(26,[9,10,18,19,47,48,49,103,104]),(27,[9,10,47,48,49]),(28,[9,10,47,48,49]),(29,[9,10,126,127]),(30,[9,10,126,127,128]),(31,[9,10,22,126,127]),(32,[9,10,126,127]),(33,[9,10,126,127]),(34,[4,5])],[],[100076,19],[]⟩ 142 [.tmp 4,.tmp 5] rfl rfl rfl rfl rfl rfl ?_
 conv=>whnf
 refine ccS (E:=E_Config_Int_Int) h (image_Decode_w a0) rfl rfl (fun x1 h=>?_)
 conv=>whnf
 refine fkS h (fun h=>?_) (fun h=>?_)
 ·conv=>whnf
  exact rt (E:=E_ListWorldView_Int) h rfl
 conv=>whnf
 refine ccS (E:=E_KernelState_Int) h (kernel_Boot_w x1.1) rfl rfl (fun x2 h=>?_)
 conv=>whnf
 refine fkS h (fun h=>?_) (fun h=>?_)
 ·conv=>whnf
  exact rt (E:=E_ListWorldView_Int) h rfl
 conv=>whnf
 refine caS (E:=E_Bool) h (world_may_w a1) rfl (fun _=>rfl) (fun x3 h=>?_)
 conv=>whnf
 refine fkS h (fun h=>?_) (fun h=>?_)
 ·conv=>whnf
  exact rt (E:=E_ListWorldView_Int) h rfl
 conv=>whnf
 refine lenS x2.1.Parts PartState.enc rfl ?_
 conv=>whnf
 refine mkF h (fun hb h=>?_) (fun h=>?_)
 ·conv=>whnf
  refine mkB0 tab rfl rfl rfl rfl (of_decide_eq_true hb) (of_decide_eq_true hb) rfl rfl rfl ?_
  conv=>whnf
  refine lenS a1 (eL KernelCmd.enc) rfl ?_
  conv=>whnf
  refine lpS (fun v88=>⟨[(9,.l (.ptr 10 0)),(10,.l (.d (.sl (([]:List WorldView).map WorldView.enc)))),(47,.l (.d (.sl (a1.map (eL KernelCmd.enc))))),(48,.l (.d (.int .i64 (a1.length:Int)))),(49,.l (.d (.int .i64 v88.2.2.2.2.2.2)))],142,[],[(10,[.d (.int .i64 v88.1),.d (.sl (v88.2.1.map Window.enc)),.d (.sl (v88.2.2.1.map Face.enc)),.d (.sl (v88.2.2.2.1.map PartState.enc)),.d (.sl (v88.2.2.2.2.1.map PortLine.enc)),.d (.int .i64 v88.2.2.2.2.2.1)])],[]⟩) h (Weak.refl _) (fun _ nx88 hn88 v88 h=>?_)
  conv=>whnf
  refine fkS h (fun h=>?_) (fun h=>?_)
  ·conv=>whnf
   refine ixS (enc:=(eL KernelCmd.enc)) h rfl (fun _=>rfl) (fun x89 h=>?_)
   conv=>whnf
   refine lenS x89 KernelCmd.enc rfl ?_
   conv=>whnf
   refine lpS (fun v90=>⟨[(9,.l (.ptr 10 0)),(10,.l (.d (.sl (([]:List WorldView).map WorldView.enc)))),(11,.l (.d (.int .i64 v88.2.2.2.2.2.2))),(47,.l (.d (.sl (a1.map (eL KernelCmd.enc))))),(48,.l (.d (.int .i64 (a1.length:Int)))),(49,.l (.d (.int .i64 v88.2.2.2.2.2.2))),(54,.l (.d (.sl (x89.map KernelCmd.enc)))),(55,.l (.d (.int .i64 (x89.length:Int)))),(56,.l (.d (.int .i64 v90.2.2.2.2.2.2)))],142,[],[(10,[.d (.int .i64 v90.1),.d (.sl (v90.2.1.map Window.enc)),.d (.sl (v90.2.2.1.map Face.enc)),.d (.sl (v90.2.2.2.1.map PartState.enc)),.d (.sl (v90.2.2.2.2.1.map PortLine.enc)),.d (.int .i64 v90.2.2.2.2.2.1)])],[]⟩) h (Weak.refl _) (fun _ nx90 hn90 v90 h=>?_)
   conv=>whnf
   refine fkS h (fun h=>?_) (fun h=>?_)
   ·conv=>whnf
    refine ixS (enc:=KernelCmd.enc) h rfl (fun _=>rfl) (fun x91 h=>?_)
    conv=>whnf
    refine ccS (E:=E_KernelState_Int_Int) h (kernel_Do_w (⟨⟨v90.1,v90.2.1⟩,v90.2.2.1,v90.2.2.2.1,v90.2.2.2.2.1,v90.2.2.2.2.2.1⟩) x91) rfl rfl (fun x92 h=>?_)
    conv=>whnf
    refine jnS (fun w93=>⟨[(9,.l (.ptr 10 0)),(10,.l (.d (.sl (([]:List WorldView).map WorldView.enc)))),(11,.l (.d (.int .i64 v88.2.2.2.2.2.2))),(15,.l (.ptr 16 0)),(47,.l (.d (.sl (a1.map (eL KernelCmd.enc))))),(48,.l (.d (.int .i64 (a1.length:Int)))),(49,.l (.d (.int .i64 v88.2.2.2.2.2.2))),(54,.l (.d (.sl (x89.map KernelCmd.enc)))),(55,.l (.d (.int .i64 (x89.length:Int)))),(56,.l (.d (.int .i64 v90.2.2.2.2.2.2)))],142,[],[(10,[.d (.int .i64 v90.1),.d (.sl (v90.2.1.map Window.enc)),.d (.sl (v90.2.2.1.map Face.enc)),.d (.sl (v90.2.2.2.1.map PartState.enc)),.d (.sl (v90.2.2.2.2.1.map PortLine.enc)),.d (.int .i64 v90.2.2.2.2.2.1)]),(16,[.d (.int .i64 x92.1.Table.Frame),.d (.sl (x92.1.Table.Windows.map Window.enc)),.d (.sl (x92.1.Faces.map Face.enc)),.d (.sl (x92.1.Parts.map PartState.enc)),.d (.sl (x92.1.Lines.map PortLine.enc)),.d (.int .i64 x92.1.Now)])],[]⟩) h (fun k93 hk93 h=>?_) (fun w93 h=>?_)
    ·conv=>whnf
     refine jnS (fun w94=>⟨[(9,.l (.ptr 10 0)),(10,.l (.d (.sl (([]:List WorldView).map WorldView.enc)))),(11,.l (.d (.int .i64 v88.2.2.2.2.2.2))),(14,.l (.ptr 15 0)),(15,.l (.ptr 16 0)),(16,.l (.d (.int .i64 x92.2.1))),(17,.l (.d (.int .i64 x92.2.2))),(47,.l (.d (.sl (a1.map (eL KernelCmd.enc))))),(48,.l (.d (.int .i64 (a1.length:Int)))),(49,.l (.d (.int .i64 v88.2.2.2.2.2.2))),(54,.l (.d (.sl (x89.map KernelCmd.enc)))),(55,.l (.d (.int .i64 (x89.length:Int)))),(56,.l (.d (.int .i64 v90.2.2.2.2.2.2))),(76,.l (.d (.bool w94)))],142,[],[(10,[.d (.int .i64 v90.1),.d (.sl (v90.2.1.map Window.enc)),.d (.sl (v90.2.2.1.map Face.enc)),.d (.sl (v90.2.2.2.1.map PartState.enc)),.d (.sl (v90.2.2.2.2.1.map PortLine.enc)),.d (.int .i64 v90.2.2.2.2.2.1)]),(15,[.d (.int .i64 x91.Part),.d (.int .i64 x91.Kind),.d (.int .i64 x91.I),.d (.int .i64 x91.V),.d (.int .i64 x91.T.C),.d (.int .i64 x91.T.D),.d (.int .i64 x91.T.T),.d (.sl (x91.T.Secs.map Sec.enc))]),(16,[.d (.int .i64 x92.1.Table.Frame),.d (.sl (x92.1.Table.Windows.map Window.enc)),.d (.sl (x92.1.Faces.map Face.enc)),.d (.sl (x92.1.Parts.map PartState.enc)),.d (.sl (x92.1.Lines.map PortLine.enc)),.d (.int .i64 x92.1.Now)])],[]⟩) h (fun k94 hk94 h=>?_) (fun w94 h=>?_)
     ·conv=>whnf
      refine fkS h (fun h=>?_) (fun h=>?_)
      ·conv=>whnf
       refine lenS ([]:List WorldView) WorldView.enc rfl ?_
       conv=>whnf
       exact jeS hk94 h (Weak.refl _)
      conv=>whnf
      exact jeS hk94 h (Weak.refl _)
     conv=>whnf
     refine fkS h (fun h=>?_) (fun h=>?_)
     ·conv=>whnf
      refine⟨15,?_⟩
      conv=>whnf
      cases h
     conv=>whnf
     refine jeX hk93 h ?_
     conv=>whnf
     refine WkF.step (Weak.keepS _ [9,10,11,15,47,48,49,54,55,56]) ?_
     conv=>whnf
     exact WkF.refl _
    conv=>whnf
    exact leS hn90 h (Weak.refl _)
   conv=>whnf
   refine ccS (E:=E_KernelState_ListInt_Int) h (kernel_Tick_w (⟨⟨v90.1,v90.2.1⟩,v90.2.2.1,v90.2.2.2.1,v90.2.2.2.2.1,v90.2.2.2.2.2.1⟩)) rfl rfl (fun x95 h=>?_)
   conv=>whnf
   refine lenS ([]:List WorldView) WorldView.enc rfl ?_
   conv=>whnf
   refine lpS (fun v96=>⟨[(9,.l (.ptr 10 0)),(10,.l (.d (.sl (([]:List WorldView).map WorldView.enc)))),(18,.l (.ptr 19 0)),(19,.l (.d (.sl (x95.2.1.map (eI .i64))))),(47,.l (.d (.sl (a1.map (eL KernelCmd.enc))))),(48,.l (.d (.int .i64 (a1.length:Int)))),(49,.l (.d (.int .i64 v88.2.2.2.2.2.2))),(103,.l (.d (.int .i64 (0:Int)))),(104,.l (.d (.int .i64 (0:Int))))],142,[],[(10,[.d (.int .i64 v90.1),.d (.sl (v90.2.1.map Window.enc)),.d (.sl (v90.2.2.1.map Face.enc)),.d (.sl (v90.2.2.2.1.map PartState.enc)),.d (.sl (v90.2.2.2.2.1.map PortLine.enc)),.d (.int .i64 v90.2.2.2.2.2.1)]),(19,[.d (.int .i64 x95.1.Table.Frame),.d (.sl (x95.1.Table.Windows.map Window.enc)),.d (.sl (x95.1.Faces.map Face.enc)),.d (.sl (x95.1.Parts.map PartState.enc)),.d (.sl (x95.1.Lines.map PortLine.enc)),.d (.int .i64 x95.1.Now)])],[]⟩) h (Weak.refl _) (fun _ nx96 hn96 v96 h=>?_)
   conv=>whnf
   exact leS hn88 h (Weak.refl _)
  conv=>whnf
  refine lenS ([]:List WorldView) WorldView.enc rfl ?_
  conv=>whnf
  refine lpS (fun v97=>⟨[(9,.l (.ptr 10 0)),(10,.l (.d (.sl (([]:List WorldView).map WorldView.enc)))),(126,.l (.d (.int .i64 (0:Int)))),(127,.l (.d (.int .i64 (0:Int))))],142,[],[(10,[.d (.int .i64 v88.1),.d (.sl (v88.2.1.map Window.enc)),.d (.sl (v88.2.2.1.map Face.enc)),.d (.sl (v88.2.2.2.1.map PartState.enc)),.d (.sl (v88.2.2.2.2.1.map PortLine.enc)),.d (.int .i64 v88.2.2.2.2.2.1)])],[]⟩) h (Weak.refl _) (fun _ nx97 hn97 v97 h=>?_)
  conv=>whnf
  exact rt (E:=E_ListWorldView_Int) h rfl
 conv=>whnf
 refine mkF h (fun hb h=>?_) (fun h=>?_)
 ·conv=>whnf
  refine mkB tab 1 rfl rfl rfl rfl (of_decide_eq_true hb) (of_decide_eq_true hb) rfl rfl rfl (Nat.le_of_ble_eq_true rfl) (Nat.le_of_ble_eq_true rfl) (Nat.le_of_ble_eq_true rfl) rfl ?_
  conv=>whnf
  refine lenS a1 (eL KernelCmd.enc) rfl ?_
  conv=>whnf
  refine lpS (fun v73=>⟨[(9,.l (.ptr 10 0)),(10,.l (.bsl 47 1 3)),(47,.l (.d (.sl (a1.map (eL KernelCmd.enc))))),(48,.l (.d (.int .i64 (a1.length:Int)))),(49,.l (.d (.int .i64 v73.2.2.2.2.2.2.2.2)))],142,[],[(10,[.d (.int .i64 v73.1),.d (.sl (v73.2.1.map Window.enc)),.d (.sl (v73.2.2.1.map Face.enc)),.d (.sl (v73.2.2.2.1.map PartState.enc)),.d (.sl (v73.2.2.2.2.1.map PortLine.enc)),.d (.int .i64 v73.2.2.2.2.2.1)]),(47,[.own 54700,.own 54701,.nil])],[(54700,113,3,v73.2.2.2.2.2.2.1.map WorldSaw.enc),(54701,3,1,v73.2.2.2.2.2.2.2.1.map (eI .i64))]⟩) h (Weak.trans (Weak.nilBO _ 47 0 54700 113 3 _ rfl rfl) (Weak.trans (Weak.nilBO _ 47 1 54701 3 1 _ rfl rfl) (Weak.refl _))) (fun _ nx73 hn73 v73 h=>?_)
  conv=>whnf
  refine fkS h (fun h=>?_) (fun h=>?_)
  ·conv=>whnf
   refine ixS (enc:=(eL KernelCmd.enc)) h rfl (fun _=>rfl) (fun x74 h=>?_)
   conv=>whnf
   refine lenS x74 KernelCmd.enc rfl ?_
   conv=>whnf
   refine lpS (fun v75=>⟨[(9,.l (.ptr 10 0)),(10,.l (.bsl 47 1 3)),(11,.l (.d (.int .i64 v73.2.2.2.2.2.2.2.2))),(47,.l (.d (.sl (a1.map (eL KernelCmd.enc))))),(48,.l (.d (.int .i64 (a1.length:Int)))),(49,.l (.d (.int .i64 v73.2.2.2.2.2.2.2.2))),(54,.l (.d (.sl (x74.map KernelCmd.enc)))),(55,.l (.d (.int .i64 (x74.length:Int)))),(56,.l (.d (.int .i64 v75.2.2.2.2.2.2.2)))],142,[],[(10,[.d (.int .i64 v75.1),.d (.sl (v75.2.1.map Window.enc)),.d (.sl (v75.2.2.1.map Face.enc)),.d (.sl (v75.2.2.2.1.map PartState.enc)),.d (.sl (v75.2.2.2.2.1.map PortLine.enc)),.d (.int .i64 v75.2.2.2.2.2.1)]),(47,[.own 54700,.own 54701,.nil])],[(54700,113,3,v75.2.2.2.2.2.2.1.map WorldSaw.enc),(54701,3,1,v73.2.2.2.2.2.2.2.1.map (eI .i64))]⟩) h (Weak.refl _) (fun _ nx75 hn75 v75 h=>?_)
   conv=>whnf
   refine fkS h (fun h=>?_) (fun h=>?_)
   ·conv=>whnf
    refine ixS (enc:=KernelCmd.enc) h rfl (fun _=>rfl) (fun x76 h=>?_)
    conv=>whnf
    refine ccS (E:=E_KernelState_Int_Int) h (kernel_Do_w (⟨⟨v75.1,v75.2.1⟩,v75.2.2.1,v75.2.2.2.1,v75.2.2.2.2.1,v75.2.2.2.2.2.1⟩) x76) rfl rfl (fun x77 h=>?_)
    conv=>whnf
    refine jnS (fun w78=>⟨[(9,.l (.ptr 10 0)),(10,.l (.bsl 47 1 3)),(11,.l (.d (.int .i64 v73.2.2.2.2.2.2.2.2))),(15,.l (.ptr 16 0)),(47,.l (.d (.sl (a1.map (eL KernelCmd.enc))))),(48,.l (.d (.int .i64 (a1.length:Int)))),(49,.l (.d (.int .i64 v73.2.2.2.2.2.2.2.2))),(54,.l (.d (.sl (x74.map KernelCmd.enc)))),(55,.l (.d (.int .i64 (x74.length:Int)))),(56,.l (.d (.int .i64 v75.2.2.2.2.2.2.2)))],142,[],[(10,[.d (.int .i64 v75.1),.d (.sl (v75.2.1.map Window.enc)),.d (.sl (v75.2.2.1.map Face.enc)),.d (.sl (v75.2.2.2.1.map PartState.enc)),.d (.sl (v75.2.2.2.2.1.map PortLine.enc)),.d (.int .i64 v75.2.2.2.2.2.1)]),(16,[.d (.int .i64 x77.1.Table.Frame),.d (.sl (x77.1.Table.Windows.map Window.enc)),.d (.sl (x77.1.Faces.map Face.enc)),.d (.sl (x77.1.Parts.map PartState.enc)),.d (.sl (x77.1.Lines.map PortLine.enc)),.d (.int .i64 x77.1.Now)]),(47,[.own 54700,.own 54701,.nil])],[(54700,113,3,w78.map WorldSaw.enc),(54701,3,1,v73.2.2.2.2.2.2.2.1.map (eI .i64))]⟩) h (fun k78 hk78 h=>?_) (fun w78 h=>?_)
    ·conv=>whnf
     refine jnS (fun w79=>⟨[(9,.l (.ptr 10 0)),(10,.l (.bsl 47 1 3)),(11,.l (.d (.int .i64 v73.2.2.2.2.2.2.2.2))),(14,.l (.ptr 15 0)),(15,.l (.ptr 16 0)),(16,.l (.d (.int .i64 x77.2.1))),(17,.l (.d (.int .i64 x77.2.2))),(47,.l (.d (.sl (a1.map (eL KernelCmd.enc))))),(48,.l (.d (.int .i64 (a1.length:Int)))),(49,.l (.d (.int .i64 v73.2.2.2.2.2.2.2.2))),(54,.l (.d (.sl (x74.map KernelCmd.enc)))),(55,.l (.d (.int .i64 (x74.length:Int)))),(56,.l (.d (.int .i64 v75.2.2.2.2.2.2.2))),(76,.l (.d (.bool w79)))],142,[],[(10,[.d (.int .i64 v75.1),.d (.sl (v75.2.1.map Window.enc)),.d (.sl (v75.2.2.1.map Face.enc)),.d (.sl (v75.2.2.2.1.map PartState.enc)),.d (.sl (v75.2.2.2.2.1.map PortLine.enc)),.d (.int .i64 v75.2.2.2.2.2.1)]),(15,[.d (.int .i64 x76.Part),.d (.int .i64 x76.Kind),.d (.int .i64 x76.I),.d (.int .i64 x76.V),.d (.int .i64 x76.T.C),.d (.int .i64 x76.T.D),.d (.int .i64 x76.T.T),.d (.sl (x76.T.Secs.map Sec.enc))]),(16,[.d (.int .i64 x77.1.Table.Frame),.d (.sl (x77.1.Table.Windows.map Window.enc)),.d (.sl (x77.1.Faces.map Face.enc)),.d (.sl (x77.1.Parts.map PartState.enc)),.d (.sl (x77.1.Lines.map PortLine.enc)),.d (.int .i64 x77.1.Now)]),(47,[.own 54700,.own 54701,.nil])],[(54700,113,3,v75.2.2.2.2.2.2.1.map WorldSaw.enc),(54701,3,1,v73.2.2.2.2.2.2.2.1.map (eI .i64))]⟩) h (fun k79 hk79 h=>?_) (fun w79 h=>?_)
     ·conv=>whnf
      refine fkS h (fun h=>?_) (fun h=>?_)
      ·conv=>whnf
       refine lenB tab rfl rfl rfl rfl rfl ?_
       conv=>whnf
       exact jeS hk79 h (Weak.refl _)
      conv=>whnf
      exact jeS hk79 h (Weak.refl _)
     conv=>whnf
     refine fkS h (fun h=>?_) (fun h=>?_)
     ·conv=>whnf
      refine⟨15,?_⟩
      conv=>whnf
      refine fkN h (fun q80 h=>?_) (fun q80 h=>?_)
      ·conv=>whnf
       refine liS ([⟨v73.2.2.2.2.2.2.2.2,x77.2.1,x77.2.2⟩]:List WorldSaw) WorldSaw.enc rfl rfl ?_
       conv=>whnf
       refine apS (enc:=WorldSaw.enc) (l1:=v75.2.2.2.2.2.2.1) (l2:=([⟨v73.2.2.2.2.2.2.2.2,x77.2.1,x77.2.2⟩]:List WorldSaw)) h rfl rfl (fun _=>rfl) (fun h=>?_)
       conv=>whnf
       refine drS (by kernel_rfl) ?_
       conv=>whnf
       refine fork_t q80 ?_
       conv=>whnf
       refine jeX hk78 h ?_
       conv=>whnf
       refine WkF.step (Weak.rekey _ 92 54700 rfl) ?_
       conv=>whnf
       exact WkF.refl _
      conv=>whnf
      cases h
     conv=>whnf
     refine jeX hk78 h ?_
     conv=>whnf
     refine WkF.step (Weak.keepS _ [9,10,11,15,47,48,49,54,55,56]) ?_
     conv=>whnf
     exact WkF.refl _
    conv=>whnf
    exact leS hn75 h (Weak.refl _)
   conv=>whnf
   refine ccS (E:=E_KernelState_ListInt_Int) h (kernel_Tick_w (⟨⟨v75.1,v75.2.1⟩,v75.2.2.1,v75.2.2.2.1,v75.2.2.2.2.1,v75.2.2.2.2.2.1⟩)) rfl rfl (fun x81 h=>?_)
   conv=>whnf
   refine lenB tab rfl rfl rfl rfl rfl ?_
   conv=>whnf
   refine lpS (fun v82=>⟨[(9,.l (.ptr 10 0)),(10,.l (.bsl 47 1 3)),(18,.l (.ptr 19 0)),(19,.l (.d (.sl (x81.2.1.map (eI .i64))))),(47,.l (.d (.sl (a1.map (eL KernelCmd.enc))))),(48,.l (.d (.int .i64 (a1.length:Int)))),(49,.l (.d (.int .i64 v73.2.2.2.2.2.2.2.2))),(103,.l (.d (.int .i64 (1:Int)))),(104,.l (.d (.int .i64 v82.2)))],142,[],[(10,[.d (.int .i64 v75.1),.d (.sl (v75.2.1.map Window.enc)),.d (.sl (v75.2.2.1.map Face.enc)),.d (.sl (v75.2.2.2.1.map PartState.enc)),.d (.sl (v75.2.2.2.2.1.map PortLine.enc)),.d (.int .i64 v75.2.2.2.2.2.1)]),(19,[.d (.int .i64 x81.1.Table.Frame),.d (.sl (x81.1.Table.Windows.map Window.enc)),.d (.sl (x81.1.Faces.map Face.enc)),.d (.sl (x81.1.Parts.map PartState.enc)),.d (.sl (x81.1.Lines.map PortLine.enc)),.d (.int .i64 x81.1.Now)]),(47,[.own 54700,.own 54701,.nil])],[(54700,113,3,v75.2.2.2.2.2.2.1.map WorldSaw.enc),(54701,3,1,v82.1.map (eI .i64))]⟩) h (Weak.refl _) (fun _ nx82 hn82 v82 h=>?_)
   conv=>whnf
   refine fkS h (fun h=>?_) (fun h=>?_)
   ·conv=>whnf
    refine⟨13,?_⟩
    conv=>whnf
    refine fkN h (fun q83 h=>?_) (fun q83 h=>?_)
    ·conv=>whnf
     refine ixS (enc:=(eI .i64)) h rfl (fun _=>rfl) (fun x84 h=>?_)
     conv=>whnf
     refine liS ([x84]:List Int) (eI .i64) rfl rfl ?_
     conv=>whnf
     refine apS (enc:=(eI .i64)) (l1:=v82.1) (l2:=([x84]:List Int)) h rfl rfl (fun _=>rfl) (fun h=>?_)
     conv=>whnf
     refine drS (by kernel_rfl) ?_
     conv=>whnf
     refine fork_t q83 ?_
     conv=>whnf
     refine leX hn82 h ?_
     conv=>whnf
     refine WkF.step (Weak.rekey _ 120 54701 rfl) ?_
     conv=>whnf
     exact WkF.refl _
    conv=>whnf
    cases h
   conv=>whnf
   exact leS hn73 h (Weak.refl _)
  conv=>whnf
  refine lenB tab rfl rfl rfl rfl rfl ?_
  conv=>whnf
  refine lpS (fun v85=>⟨[(9,.l (.ptr 10 0)),(10,.l (.bsl 47 1 3)),(126,.l (.d (.int .i64 (1:Int)))),(127,.l (.d (.int .i64 v85.2)))],142,[],[(10,[.d (.int .i64 v73.1),.d (.sl (v73.2.1.map Window.enc)),.d (.sl (v73.2.2.1.map Face.enc)),.d (.sl (v73.2.2.2.1.map PartState.enc)),.d (.sl (v73.2.2.2.2.1.map PortLine.enc)),.d (.int .i64 v73.2.2.2.2.2.1)]),(47,[.own 54700,.own 54701,.d (.sl (v85.1.map Entry.enc))])],[(54700,113,3,v73.2.2.2.2.2.2.1.map WorldSaw.enc),(54701,3,1,v73.2.2.2.2.2.2.2.1.map (eI .i64))]⟩) h (Weak.trans (Weak.nilBD _ 47 2 _ rfl rfl) (Weak.refl _)) (fun _ nx85 hn85 v85 h=>?_)
  conv=>whnf
  refine fkS h (fun h=>?_) (fun h=>?_)
  ·conv=>whnf
   refine ixS (enc:=PartState.enc) h rfl (fun _=>rfl) (fun x86 h=>?_)
   conv=>whnf
   refine fkN h (fun q87 h=>?_) (fun q87 h=>?_)
   ·conv=>whnf
    exact leS hn85 h (Weak.refl _)
   conv=>whnf
   cases h
  conv=>whnf
  exact rt (E:=E_ListWorldView_Int) h rfl
 conv=>whnf
 refine mkF h (fun hb h=>?_) (fun h=>?_)
 ·conv=>whnf
  refine mkB tab 2 rfl rfl rfl rfl (of_decide_eq_true hb) (of_decide_eq_true hb) rfl rfl rfl (Nat.le_of_ble_eq_true rfl) (Nat.le_of_ble_eq_true rfl) (Nat.le_of_ble_eq_true rfl) rfl ?_
  conv=>whnf
  refine lenS a1 (eL KernelCmd.enc) rfl ?_
  conv=>whnf
  refine lpX (fun v54=>⟨[(9,.l (.ptr 10 0)),(10,.l (.bsl 47 2 3)),(47,.l (.d (.sl (a1.map (eL KernelCmd.enc))))),(48,.l (.d (.int .i64 (a1.length:Int)))),(49,.l (.d (.int .i64 v54.2.2.2.2.2.2.2.2.2.2)))],142,[],[(10,[.d (.int .i64 v54.1),.d (.sl (v54.2.1.map Window.enc)),.d (.sl (v54.2.2.1.map Face.enc)),.d (.sl (v54.2.2.2.1.map PartState.enc)),.d (.sl (v54.2.2.2.2.1.map PortLine.enc)),.d (.int .i64 v54.2.2.2.2.2.1)]),(47,[.own 54700,.own 54701,.nil,.own 54703,.own 54704,.nil])],[(54700,113,3,v54.2.2.2.2.2.2.1.map WorldSaw.enc),(54701,3,1,v54.2.2.2.2.2.2.2.1.map (eI .i64)),(54703,113,3,v54.2.2.2.2.2.2.2.2.1.map WorldSaw.enc),(54704,3,1,v54.2.2.2.2.2.2.2.2.2.1.map (eI .i64))]⟩) h ?_ (fun _ nx54 hn54 v54 h=>?_)
  ·conv=>whnf
   refine WkF.step (Weak.nilBO _ 47 0 54700 113 3 _ rfl rfl) ?_
   conv=>whnf
   refine WkF.step (Weak.nilBO _ 47 1 54701 3 1 _ rfl rfl) ?_
   conv=>whnf
   refine WkF.step (Weak.nilBO _ 47 3 54703 113 3 _ rfl rfl) ?_
   conv=>whnf
   refine WkF.step (Weak.nilBO _ 47 4 54704 3 1 _ rfl rfl) ?_
   conv=>whnf
   exact WkF.refl _
  conv=>whnf
  refine fkS h (fun h=>?_) (fun h=>?_)
  ·conv=>whnf
   refine ixS (enc:=(eL KernelCmd.enc)) h rfl (fun _=>rfl) (fun x55 h=>?_)
   conv=>whnf
   refine lenS x55 KernelCmd.enc rfl ?_
   conv=>whnf
   refine lpS (fun v56=>⟨[(9,.l (.ptr 10 0)),(10,.l (.bsl 47 2 3)),(11,.l (.d (.int .i64 v54.2.2.2.2.2.2.2.2.2.2))),(47,.l (.d (.sl (a1.map (eL KernelCmd.enc))))),(48,.l (.d (.int .i64 (a1.length:Int)))),(49,.l (.d (.int .i64 v54.2.2.2.2.2.2.2.2.2.2))),(54,.l (.d (.sl (x55.map KernelCmd.enc)))),(55,.l (.d (.int .i64 (x55.length:Int)))),(56,.l (.d (.int .i64 v56.2.2.2.2.2.2.2.2)))],142,[],[(10,[.d (.int .i64 v56.1),.d (.sl (v56.2.1.map Window.enc)),.d (.sl (v56.2.2.1.map Face.enc)),.d (.sl (v56.2.2.2.1.map PartState.enc)),.d (.sl (v56.2.2.2.2.1.map PortLine.enc)),.d (.int .i64 v56.2.2.2.2.2.1)]),(47,[.own 54700,.own 54701,.nil,.own 54703,.own 54704,.nil])],[(54700,113,3,v56.2.2.2.2.2.2.1.map WorldSaw.enc),(54701,3,1,v54.2.2.2.2.2.2.2.1.map (eI .i64)),(54703,113,3,v56.2.2.2.2.2.2.2.1.map WorldSaw.enc),(54704,3,1,v54.2.2.2.2.2.2.2.2.2.1.map (eI .i64))]⟩) h (Weak.refl _) (fun _ nx56 hn56 v56 h=>?_)
   conv=>whnf
   refine fkS h (fun h=>?_) (fun h=>?_)
   ·conv=>whnf
    refine ixS (enc:=KernelCmd.enc) h rfl (fun _=>rfl) (fun x57 h=>?_)
    conv=>whnf
    refine ccS (E:=E_KernelState_Int_Int) h (kernel_Do_w (⟨⟨v56.1,v56.2.1⟩,v56.2.2.1,v56.2.2.2.1,v56.2.2.2.2.1,v56.2.2.2.2.2.1⟩) x57) rfl rfl (fun x58 h=>?_)
    conv=>whnf
    refine jnS (fun w59=>⟨[(9,.l (.ptr 10 0)),(10,.l (.bsl 47 2 3)),(11,.l (.d (.int .i64 v54.2.2.2.2.2.2.2.2.2.2))),(15,.l (.ptr 16 0)),(47,.l (.d (.sl (a1.map (eL KernelCmd.enc))))),(48,.l (.d (.int .i64 (a1.length:Int)))),(49,.l (.d (.int .i64 v54.2.2.2.2.2.2.2.2.2.2))),(54,.l (.d (.sl (x55.map KernelCmd.enc)))),(55,.l (.d (.int .i64 (x55.length:Int)))),(56,.l (.d (.int .i64 v56.2.2.2.2.2.2.2.2)))],142,[],[(10,[.d (.int .i64 v56.1),.d (.sl (v56.2.1.map Window.enc)),.d (.sl (v56.2.2.1.map Face.enc)),.d (.sl (v56.2.2.2.1.map PartState.enc)),.d (.sl (v56.2.2.2.2.1.map PortLine.enc)),.d (.int .i64 v56.2.2.2.2.2.1)]),(16,[.d (.int .i64 x58.1.Table.Frame),.d (.sl (x58.1.Table.Windows.map Window.enc)),.d (.sl (x58.1.Faces.map Face.enc)),.d (.sl (x58.1.Parts.map PartState.enc)),.d (.sl (x58.1.Lines.map PortLine.enc)),.d (.int .i64 x58.1.Now)]),(47,[.own 54700,.own 54701,.nil,.own 54703,.own 54704,.nil])],[(54700,113,3,w59.1.map WorldSaw.enc),(54701,3,1,v54.2.2.2.2.2.2.2.1.map (eI .i64)),(54703,113,3,w59.2.map WorldSaw.enc),(54704,3,1,v54.2.2.2.2.2.2.2.2.2.1.map (eI .i64))]⟩) h (fun k59 hk59 h=>?_) (fun w59 h=>?_)
    ·conv=>whnf
     refine jnS (fun w60=>⟨[(9,.l (.ptr 10 0)),(10,.l (.bsl 47 2 3)),(11,.l (.d (.int .i64 v54.2.2.2.2.2.2.2.2.2.2))),(14,.l (.ptr 15 0)),(15,.l (.ptr 16 0)),(16,.l (.d (.int .i64 x58.2.1))),(17,.l (.d (.int .i64 x58.2.2))),(47,.l (.d (.sl (a1.map (eL KernelCmd.enc))))),(48,.l (.d (.int .i64 (a1.length:Int)))),(49,.l (.d (.int .i64 v54.2.2.2.2.2.2.2.2.2.2))),(54,.l (.d (.sl (x55.map KernelCmd.enc)))),(55,.l (.d (.int .i64 (x55.length:Int)))),(56,.l (.d (.int .i64 v56.2.2.2.2.2.2.2.2))),(76,.l (.d (.bool w60)))],142,[],[(10,[.d (.int .i64 v56.1),.d (.sl (v56.2.1.map Window.enc)),.d (.sl (v56.2.2.1.map Face.enc)),.d (.sl (v56.2.2.2.1.map PartState.enc)),.d (.sl (v56.2.2.2.2.1.map PortLine.enc)),.d (.int .i64 v56.2.2.2.2.2.1)]),(15,[.d (.int .i64 x57.Part),.d (.int .i64 x57.Kind),.d (.int .i64 x57.I),.d (.int .i64 x57.V),.d (.int .i64 x57.T.C),.d (.int .i64 x57.T.D),.d (.int .i64 x57.T.T),.d (.sl (x57.T.Secs.map Sec.enc))]),(16,[.d (.int .i64 x58.1.Table.Frame),.d (.sl (x58.1.Table.Windows.map Window.enc)),.d (.sl (x58.1.Faces.map Face.enc)),.d (.sl (x58.1.Parts.map PartState.enc)),.d (.sl (x58.1.Lines.map PortLine.enc)),.d (.int .i64 x58.1.Now)]),(47,[.own 54700,.own 54701,.nil,.own 54703,.own 54704,.nil])],[(54700,113,3,v56.2.2.2.2.2.2.1.map WorldSaw.enc),(54701,3,1,v54.2.2.2.2.2.2.2.1.map (eI .i64)),(54703,113,3,v56.2.2.2.2.2.2.2.1.map WorldSaw.enc),(54704,3,1,v54.2.2.2.2.2.2.2.2.2.1.map (eI .i64))]⟩) h (fun k60 hk60 h=>?_) (fun w60 h=>?_)
     ·conv=>whnf
      refine fkS h (fun h=>?_) (fun h=>?_)
      ·conv=>whnf
       refine lenB tab rfl rfl rfl rfl rfl ?_
       conv=>whnf
       exact jeS hk60 h (Weak.refl _)
      conv=>whnf
      exact jeS hk60 h (Weak.refl _)
     conv=>whnf
     refine fkS h (fun h=>?_) (fun h=>?_)
     ·conv=>whnf
      refine⟨15,?_⟩
      conv=>whnf
      refine fkN h (fun q61 h=>?_) (fun q61 h=>?_)
      ·conv=>whnf
       refine liS ([⟨v54.2.2.2.2.2.2.2.2.2.2,x58.2.1,x58.2.2⟩]:List WorldSaw) WorldSaw.enc rfl rfl ?_
       conv=>whnf
       refine apS (enc:=WorldSaw.enc) (l1:=v56.2.2.2.2.2.2.1) (l2:=([⟨v54.2.2.2.2.2.2.2.2.2.2,x58.2.1,x58.2.2⟩]:List WorldSaw)) h rfl rfl (fun _=>rfl) (fun h=>?_)
       conv=>whnf
       refine drS (by kernel_rfl) ?_
       conv=>whnf
       refine fork_t q61 ?_
       conv=>whnf
       refine jeX hk59 h ?_
       conv=>whnf
       refine WkF.step (Weak.rekey _ 92 54700 rfl) ?_
       conv=>whnf
       exact WkF.refl _
      conv=>whnf
      refine fkN h (fun q62 h=>?_) (fun q62 h=>?_)
      ·conv=>whnf
       refine liS ([⟨v54.2.2.2.2.2.2.2.2.2.2,x58.2.1,x58.2.2⟩]:List WorldSaw) WorldSaw.enc rfl rfl ?_
       conv=>whnf
       refine apS (enc:=WorldSaw.enc) (l1:=v56.2.2.2.2.2.2.2.1) (l2:=([⟨v54.2.2.2.2.2.2.2.2.2.2,x58.2.1,x58.2.2⟩]:List WorldSaw)) h rfl rfl (fun _=>rfl) (fun h=>?_)
       conv=>whnf
       refine drS (by kernel_rfl) ?_
       conv=>whnf
       refine fork_f q61 ?_
       conv=>whnf
       refine fork_t q62 ?_
       conv=>whnf
       refine jeX hk59 h ?_
       conv=>whnf
       refine WkF.step (Weak.rekey _ 92 54703 rfl) ?_
       conv=>whnf
       exact WkF.refl _
      conv=>whnf
      cases h
     conv=>whnf
     refine jeX hk59 h ?_
     conv=>whnf
     refine WkF.step (Weak.keepS _ [9,10,11,15,47,48,49,54,55,56]) ?_
     conv=>whnf
     exact WkF.refl _
    conv=>whnf
    exact leS hn56 h (Weak.refl _)
   conv=>whnf
   refine ccS (E:=E_KernelState_ListInt_Int) h (kernel_Tick_w (⟨⟨v56.1,v56.2.1⟩,v56.2.2.1,v56.2.2.2.1,v56.2.2.2.2.1,v56.2.2.2.2.2.1⟩)) rfl rfl (fun x63 h=>?_)
   conv=>whnf
   refine lenB tab rfl rfl rfl rfl rfl ?_
   conv=>whnf
   refine lpS (fun v64=>⟨[(9,.l (.ptr 10 0)),(10,.l (.bsl 47 2 3)),(18,.l (.ptr 19 0)),(19,.l (.d (.sl (x63.2.1.map (eI .i64))))),(47,.l (.d (.sl (a1.map (eL KernelCmd.enc))))),(48,.l (.d (.int .i64 (a1.length:Int)))),(49,.l (.d (.int .i64 v54.2.2.2.2.2.2.2.2.2.2))),(103,.l (.d (.int .i64 (2:Int)))),(104,.l (.d (.int .i64 v64.2.2)))],142,[],[(10,[.d (.int .i64 v56.1),.d (.sl (v56.2.1.map Window.enc)),.d (.sl (v56.2.2.1.map Face.enc)),.d (.sl (v56.2.2.2.1.map PartState.enc)),.d (.sl (v56.2.2.2.2.1.map PortLine.enc)),.d (.int .i64 v56.2.2.2.2.2.1)]),(19,[.d (.int .i64 x63.1.Table.Frame),.d (.sl (x63.1.Table.Windows.map Window.enc)),.d (.sl (x63.1.Faces.map Face.enc)),.d (.sl (x63.1.Parts.map PartState.enc)),.d (.sl (x63.1.Lines.map PortLine.enc)),.d (.int .i64 x63.1.Now)]),(47,[.own 54700,.own 54701,.nil,.own 54703,.own 54704,.nil])],[(54700,113,3,v56.2.2.2.2.2.2.1.map WorldSaw.enc),(54701,3,1,v64.1.map (eI .i64)),(54703,113,3,v56.2.2.2.2.2.2.2.1.map WorldSaw.enc),(54704,3,1,v64.2.1.map (eI .i64))]⟩) h (Weak.refl _) (fun _ nx64 hn64 v64 h=>?_)
   conv=>whnf
   refine fkS h (fun h=>?_) (fun h=>?_)
   ·conv=>whnf
    refine⟨13,?_⟩
    conv=>whnf
    refine fkN h (fun q65 h=>?_) (fun q65 h=>?_)
    ·conv=>whnf
     refine ixS (enc:=(eI .i64)) h rfl (fun _=>rfl) (fun x68 h=>?_)
     conv=>whnf
     refine liS ([x68]:List Int) (eI .i64) rfl rfl ?_
     conv=>whnf
     refine apS (enc:=(eI .i64)) (l1:=v64.1) (l2:=([x68]:List Int)) h rfl rfl (fun _=>rfl) (fun h=>?_)
     conv=>whnf
     refine drS (by kernel_rfl) ?_
     conv=>whnf
     refine fork_t q65 ?_
     conv=>whnf
     refine leX hn64 h ?_
     conv=>whnf
     refine WkF.step (Weak.rekey _ 120 54701 rfl) ?_
     conv=>whnf
     exact WkF.refl _
    conv=>whnf
    refine fkN h (fun q66 h=>?_) (fun q66 h=>?_)
    ·conv=>whnf
     refine ixS (enc:=(eI .i64)) h rfl (fun _=>rfl) (fun x67 h=>?_)
     conv=>whnf
     refine liS ([x67]:List Int) (eI .i64) rfl rfl ?_
     conv=>whnf
     refine apS (enc:=(eI .i64)) (l1:=v64.2.1) (l2:=([x67]:List Int)) h rfl rfl (fun _=>rfl) (fun h=>?_)
     conv=>whnf
     refine drS (by kernel_rfl) ?_
     conv=>whnf
     refine fork_f q65 ?_
     conv=>whnf
     refine fork_t q66 ?_
     conv=>whnf
     refine leX hn64 h ?_
     conv=>whnf
     refine WkF.step (Weak.rekey _ 120 54704 rfl) ?_
     conv=>whnf
     exact WkF.refl _
    conv=>whnf
    cases h
   conv=>whnf
   exact leS hn54 h (Weak.refl _)
  conv=>whnf
  refine lenB tab rfl rfl rfl rfl rfl ?_
  conv=>whnf
  refine lpS (fun v69=>⟨[(9,.l (.ptr 10 0)),(10,.l (.bsl 47 2 3)),(126,.l (.d (.int .i64 (2:Int)))),(127,.l (.d (.int .i64 v69.2.2)))],142,[],[(10,[.d (.int .i64 v54.1),.d (.sl (v54.2.1.map Window.enc)),.d (.sl (v54.2.2.1.map Face.enc)),.d (.sl (v54.2.2.2.1.map PartState.enc)),.d (.sl (v54.2.2.2.2.1.map PortLine.enc)),.d (.int .i64 v54.2.2.2.2.2.1)]),(47,[.own 54700,.own 54701,.d (.sl (v69.1.map Entry.enc)),.own 54703,.own 54704,.d (.sl (v69.2.1.map Entry.enc))])],[(54700,113,3,v54.2.2.2.2.2.2.1.map WorldSaw.enc),(54701,3,1,v54.2.2.2.2.2.2.2.1.map (eI .i64)),(54703,113,3,v54.2.2.2.2.2.2.2.2.1.map WorldSaw.enc),(54704,3,1,v54.2.2.2.2.2.2.2.2.2.1.map (eI .i64))]⟩) h (Weak.trans (Weak.nilBD _ 47 2 _ rfl rfl) (Weak.trans (Weak.nilBD _ 47 5 _ rfl rfl) (Weak.refl _))) (fun _ nx69 hn69 v69 h=>?_)
  conv=>whnf
  refine fkS h (fun h=>?_) (fun h=>?_)
  ·conv=>whnf
   refine ixS (enc:=PartState.enc) h rfl (fun _=>rfl) (fun x70 h=>?_)
   conv=>whnf
   refine fkN h (fun q71 h=>?_) (fun q71 h=>?_)
   ·conv=>whnf
    exact leS hn69 h (Weak.refl _)
   conv=>whnf
   refine fkN h (fun q72 h=>?_) (fun q72 h=>?_)
   ·conv=>whnf
    exact leS hn69 h (Weak.refl _)
   conv=>whnf
   cases h
  conv=>whnf
  exact rt (E:=E_ListWorldView_Int) h rfl
 conv=>whnf
 refine mkF h (fun hb h=>?_) (fun h=>?_)
 ·conv=>whnf
  refine mkB tab 3 rfl rfl rfl rfl (of_decide_eq_true hb) (of_decide_eq_true hb) rfl rfl rfl (Nat.le_of_ble_eq_true rfl) (Nat.le_of_ble_eq_true rfl) (Nat.le_of_ble_eq_true rfl) rfl ?_
  conv=>whnf
  refine lenS a1 (eL KernelCmd.enc) rfl ?_
  conv=>whnf
  refine lpX (fun v31=>⟨[(9,.l (.ptr 10 0)),(10,.l (.bsl 47 3 3)),(47,.l (.d (.sl (a1.map (eL KernelCmd.enc))))),(48,.l (.d (.int .i64 (a1.length:Int)))),(49,.l (.d (.int .i64 v31.2.2.2.2.2.2.2.2.2.2.2.2)))],142,[],[(10,[.d (.int .i64 v31.1),.d (.sl (v31.2.1.map Window.enc)),.d (.sl (v31.2.2.1.map Face.enc)),.d (.sl (v31.2.2.2.1.map PartState.enc)),.d (.sl (v31.2.2.2.2.1.map PortLine.enc)),.d (.int .i64 v31.2.2.2.2.2.1)]),(47,[.own 54700,.own 54701,.nil,.own 54703,.own 54704,.nil,.own 54706,.own 54707,.nil])],[(54700,113,3,v31.2.2.2.2.2.2.1.map WorldSaw.enc),(54701,3,1,v31.2.2.2.2.2.2.2.1.map (eI .i64)),(54703,113,3,v31.2.2.2.2.2.2.2.2.1.map WorldSaw.enc),(54704,3,1,v31.2.2.2.2.2.2.2.2.2.1.map (eI .i64)),(54706,113,3,v31.2.2.2.2.2.2.2.2.2.2.1.map WorldSaw.enc),(54707,3,1,v31.2.2.2.2.2.2.2.2.2.2.2.1.map (eI .i64))]⟩) h ?_ (fun _ nx31 hn31 v31 h=>?_)
  ·conv=>whnf
   refine WkF.step (Weak.nilBO _ 47 0 54700 113 3 _ rfl rfl) ?_
   conv=>whnf
   refine WkF.step (Weak.nilBO _ 47 1 54701 3 1 _ rfl rfl) ?_
   conv=>whnf
   refine WkF.step (Weak.nilBO _ 47 3 54703 113 3 _ rfl rfl) ?_
   conv=>whnf
   refine WkF.step (Weak.nilBO _ 47 4 54704 3 1 _ rfl rfl) ?_
   conv=>whnf
   refine WkF.step (Weak.nilBO _ 47 6 54706 113 3 _ rfl rfl) ?_
   conv=>whnf
   refine WkF.step (Weak.nilBO _ 47 7 54707 3 1 _ rfl rfl) ?_
   conv=>whnf
   exact WkF.refl _
  conv=>whnf
  refine fkS h (fun h=>?_) (fun h=>?_)
  ·conv=>whnf
   refine ixS (enc:=(eL KernelCmd.enc)) h rfl (fun _=>rfl) (fun x32 h=>?_)
   conv=>whnf
   refine lenS x32 KernelCmd.enc rfl ?_
   conv=>whnf
   refine lpS (fun v33=>⟨[(9,.l (.ptr 10 0)),(10,.l (.bsl 47 3 3)),(11,.l (.d (.int .i64 v31.2.2.2.2.2.2.2.2.2.2.2.2))),(47,.l (.d (.sl (a1.map (eL KernelCmd.enc))))),(48,.l (.d (.int .i64 (a1.length:Int)))),(49,.l (.d (.int .i64 v31.2.2.2.2.2.2.2.2.2.2.2.2))),(54,.l (.d (.sl (x32.map KernelCmd.enc)))),(55,.l (.d (.int .i64 (x32.length:Int)))),(56,.l (.d (.int .i64 v33.2.2.2.2.2.2.2.2.2)))],142,[],[(10,[.d (.int .i64 v33.1),.d (.sl (v33.2.1.map Window.enc)),.d (.sl (v33.2.2.1.map Face.enc)),.d (.sl (v33.2.2.2.1.map PartState.enc)),.d (.sl (v33.2.2.2.2.1.map PortLine.enc)),.d (.int .i64 v33.2.2.2.2.2.1)]),(47,[.own 54700,.own 54701,.nil,.own 54703,.own 54704,.nil,.own 54706,.own 54707,.nil])],[(54700,113,3,v33.2.2.2.2.2.2.1.map WorldSaw.enc),(54701,3,1,v31.2.2.2.2.2.2.2.1.map (eI .i64)),(54703,113,3,v33.2.2.2.2.2.2.2.1.map WorldSaw.enc),(54704,3,1,v31.2.2.2.2.2.2.2.2.2.1.map (eI .i64)),(54706,113,3,v33.2.2.2.2.2.2.2.2.1.map WorldSaw.enc),(54707,3,1,v31.2.2.2.2.2.2.2.2.2.2.2.1.map (eI .i64))]⟩) h (Weak.refl _) (fun _ nx33 hn33 v33 h=>?_)
   conv=>whnf
   refine fkS h (fun h=>?_) (fun h=>?_)
   ·conv=>whnf
    refine ixS (enc:=KernelCmd.enc) h rfl (fun _=>rfl) (fun x34 h=>?_)
    conv=>whnf
    refine ccS (E:=E_KernelState_Int_Int) h (kernel_Do_w (⟨⟨v33.1,v33.2.1⟩,v33.2.2.1,v33.2.2.2.1,v33.2.2.2.2.1,v33.2.2.2.2.2.1⟩) x34) rfl rfl (fun x35 h=>?_)
    conv=>whnf
    refine jnS (fun w36=>⟨[(9,.l (.ptr 10 0)),(10,.l (.bsl 47 3 3)),(11,.l (.d (.int .i64 v31.2.2.2.2.2.2.2.2.2.2.2.2))),(15,.l (.ptr 16 0)),(47,.l (.d (.sl (a1.map (eL KernelCmd.enc))))),(48,.l (.d (.int .i64 (a1.length:Int)))),(49,.l (.d (.int .i64 v31.2.2.2.2.2.2.2.2.2.2.2.2))),(54,.l (.d (.sl (x32.map KernelCmd.enc)))),(55,.l (.d (.int .i64 (x32.length:Int)))),(56,.l (.d (.int .i64 v33.2.2.2.2.2.2.2.2.2)))],142,[],[(10,[.d (.int .i64 v33.1),.d (.sl (v33.2.1.map Window.enc)),.d (.sl (v33.2.2.1.map Face.enc)),.d (.sl (v33.2.2.2.1.map PartState.enc)),.d (.sl (v33.2.2.2.2.1.map PortLine.enc)),.d (.int .i64 v33.2.2.2.2.2.1)]),(16,[.d (.int .i64 x35.1.Table.Frame),.d (.sl (x35.1.Table.Windows.map Window.enc)),.d (.sl (x35.1.Faces.map Face.enc)),.d (.sl (x35.1.Parts.map PartState.enc)),.d (.sl (x35.1.Lines.map PortLine.enc)),.d (.int .i64 x35.1.Now)]),(47,[.own 54700,.own 54701,.nil,.own 54703,.own 54704,.nil,.own 54706,.own 54707,.nil])],[(54700,113,3,w36.1.map WorldSaw.enc),(54701,3,1,v31.2.2.2.2.2.2.2.1.map (eI .i64)),(54703,113,3,w36.2.1.map WorldSaw.enc),(54704,3,1,v31.2.2.2.2.2.2.2.2.2.1.map (eI .i64)),(54706,113,3,w36.2.2.map WorldSaw.enc),(54707,3,1,v31.2.2.2.2.2.2.2.2.2.2.2.1.map (eI .i64))]⟩) h (fun k36 hk36 h=>?_) (fun w36 h=>?_)
    ·conv=>whnf
     refine jnS (fun w37=>⟨[(9,.l (.ptr 10 0)),(10,.l (.bsl 47 3 3)),(11,.l (.d (.int .i64 v31.2.2.2.2.2.2.2.2.2.2.2.2))),(14,.l (.ptr 15 0)),(15,.l (.ptr 16 0)),(16,.l (.d (.int .i64 x35.2.1))),(17,.l (.d (.int .i64 x35.2.2))),(47,.l (.d (.sl (a1.map (eL KernelCmd.enc))))),(48,.l (.d (.int .i64 (a1.length:Int)))),(49,.l (.d (.int .i64 v31.2.2.2.2.2.2.2.2.2.2.2.2))),(54,.l (.d (.sl (x32.map KernelCmd.enc)))),(55,.l (.d (.int .i64 (x32.length:Int)))),(56,.l (.d (.int .i64 v33.2.2.2.2.2.2.2.2.2))),(76,.l (.d (.bool w37)))],142,[],[(10,[.d (.int .i64 v33.1),.d (.sl (v33.2.1.map Window.enc)),.d (.sl (v33.2.2.1.map Face.enc)),.d (.sl (v33.2.2.2.1.map PartState.enc)),.d (.sl (v33.2.2.2.2.1.map PortLine.enc)),.d (.int .i64 v33.2.2.2.2.2.1)]),(15,[.d (.int .i64 x34.Part),.d (.int .i64 x34.Kind),.d (.int .i64 x34.I),.d (.int .i64 x34.V),.d (.int .i64 x34.T.C),.d (.int .i64 x34.T.D),.d (.int .i64 x34.T.T),.d (.sl (x34.T.Secs.map Sec.enc))]),(16,[.d (.int .i64 x35.1.Table.Frame),.d (.sl (x35.1.Table.Windows.map Window.enc)),.d (.sl (x35.1.Faces.map Face.enc)),.d (.sl (x35.1.Parts.map PartState.enc)),.d (.sl (x35.1.Lines.map PortLine.enc)),.d (.int .i64 x35.1.Now)]),(47,[.own 54700,.own 54701,.nil,.own 54703,.own 54704,.nil,.own 54706,.own 54707,.nil])],[(54700,113,3,v33.2.2.2.2.2.2.1.map WorldSaw.enc),(54701,3,1,v31.2.2.2.2.2.2.2.1.map (eI .i64)),(54703,113,3,v33.2.2.2.2.2.2.2.1.map WorldSaw.enc),(54704,3,1,v31.2.2.2.2.2.2.2.2.2.1.map (eI .i64)),(54706,113,3,v33.2.2.2.2.2.2.2.2.1.map WorldSaw.enc),(54707,3,1,v31.2.2.2.2.2.2.2.2.2.2.2.1.map (eI .i64))]⟩) h (fun k37 hk37 h=>?_) (fun w37 h=>?_)
     ·conv=>whnf
      refine fkS h (fun h=>?_) (fun h=>?_)
      ·conv=>whnf
       refine lenB tab rfl rfl rfl rfl rfl ?_
       conv=>whnf
       exact jeS hk37 h (Weak.refl _)
      conv=>whnf
      exact jeS hk37 h (Weak.refl _)
     conv=>whnf
     refine fkS h (fun h=>?_) (fun h=>?_)
     ·conv=>whnf
      refine⟨15,?_⟩
      conv=>whnf
      refine fkN h (fun q38 h=>?_) (fun q38 h=>?_)
      ·conv=>whnf
       refine liS ([⟨v31.2.2.2.2.2.2.2.2.2.2.2.2,x35.2.1,x35.2.2⟩]:List WorldSaw) WorldSaw.enc rfl rfl ?_
       conv=>whnf
       refine apS (enc:=WorldSaw.enc) (l1:=v33.2.2.2.2.2.2.1) (l2:=([⟨v31.2.2.2.2.2.2.2.2.2.2.2.2,x35.2.1,x35.2.2⟩]:List WorldSaw)) h rfl rfl (fun _=>rfl) (fun h=>?_)
       conv=>whnf
       refine drS (by kernel_rfl) ?_
       conv=>whnf
       refine fork_t q38 ?_
       conv=>whnf
       refine jeX hk36 h ?_
       conv=>whnf
       refine WkF.step (Weak.rekey _ 92 54700 rfl) ?_
       conv=>whnf
       exact WkF.refl _
      conv=>whnf
      refine fkN h (fun q39 h=>?_) (fun q39 h=>?_)
      ·conv=>whnf
       refine liS ([⟨v31.2.2.2.2.2.2.2.2.2.2.2.2,x35.2.1,x35.2.2⟩]:List WorldSaw) WorldSaw.enc rfl rfl ?_
       conv=>whnf
       refine apS (enc:=WorldSaw.enc) (l1:=v33.2.2.2.2.2.2.2.1) (l2:=([⟨v31.2.2.2.2.2.2.2.2.2.2.2.2,x35.2.1,x35.2.2⟩]:List WorldSaw)) h rfl rfl (fun _=>rfl) (fun h=>?_)
       conv=>whnf
       refine drS (by kernel_rfl) ?_
       conv=>whnf
       refine fork_f q38 ?_
       conv=>whnf
       refine fork_t q39 ?_
       conv=>whnf
       refine jeX hk36 h ?_
       conv=>whnf
       refine WkF.step (Weak.rekey _ 92 54703 rfl) ?_
       conv=>whnf
       exact WkF.refl _
      conv=>whnf
      refine fkN h (fun q40 h=>?_) (fun q40 h=>?_)
      ·conv=>whnf
       refine liS ([⟨v31.2.2.2.2.2.2.2.2.2.2.2.2,x35.2.1,x35.2.2⟩]:List WorldSaw) WorldSaw.enc rfl rfl ?_
       conv=>whnf
       refine apS (enc:=WorldSaw.enc) (l1:=v33.2.2.2.2.2.2.2.2.1) (l2:=([⟨v31.2.2.2.2.2.2.2.2.2.2.2.2,x35.2.1,x35.2.2⟩]:List WorldSaw)) h rfl rfl (fun _=>rfl) (fun h=>?_)
       conv=>whnf
       refine drS (by kernel_rfl) ?_
       conv=>whnf
       refine fork_f q38 ?_
       conv=>whnf
       refine fork_f q39 ?_
       conv=>whnf
       refine fork_t q40 ?_
       conv=>whnf
       refine jeX hk36 h ?_
       conv=>whnf
       refine WkF.step (Weak.rekey _ 92 54706 rfl) ?_
       conv=>whnf
       exact WkF.refl _
      conv=>whnf
      cases h
     conv=>whnf
     refine jeX hk36 h ?_
     conv=>whnf
     refine WkF.step (Weak.keepS _ [9,10,11,15,47,48,49,54,55,56]) ?_
     conv=>whnf
     exact WkF.refl _
    conv=>whnf
    exact leS hn33 h (Weak.refl _)
   conv=>whnf
   refine ccS (E:=E_KernelState_ListInt_Int) h (kernel_Tick_w (⟨⟨v33.1,v33.2.1⟩,v33.2.2.1,v33.2.2.2.1,v33.2.2.2.2.1,v33.2.2.2.2.2.1⟩)) rfl rfl (fun x41 h=>?_)
   conv=>whnf
   refine lenB tab rfl rfl rfl rfl rfl ?_
   conv=>whnf
   refine lpS (fun v42=>⟨[(9,.l (.ptr 10 0)),(10,.l (.bsl 47 3 3)),(18,.l (.ptr 19 0)),(19,.l (.d (.sl (x41.2.1.map (eI .i64))))),(47,.l (.d (.sl (a1.map (eL KernelCmd.enc))))),(48,.l (.d (.int .i64 (a1.length:Int)))),(49,.l (.d (.int .i64 v31.2.2.2.2.2.2.2.2.2.2.2.2))),(103,.l (.d (.int .i64 (3:Int)))),(104,.l (.d (.int .i64 v42.2.2.2)))],142,[],[(10,[.d (.int .i64 v33.1),.d (.sl (v33.2.1.map Window.enc)),.d (.sl (v33.2.2.1.map Face.enc)),.d (.sl (v33.2.2.2.1.map PartState.enc)),.d (.sl (v33.2.2.2.2.1.map PortLine.enc)),.d (.int .i64 v33.2.2.2.2.2.1)]),(19,[.d (.int .i64 x41.1.Table.Frame),.d (.sl (x41.1.Table.Windows.map Window.enc)),.d (.sl (x41.1.Faces.map Face.enc)),.d (.sl (x41.1.Parts.map PartState.enc)),.d (.sl (x41.1.Lines.map PortLine.enc)),.d (.int .i64 x41.1.Now)]),(47,[.own 54700,.own 54701,.nil,.own 54703,.own 54704,.nil,.own 54706,.own 54707,.nil])],[(54700,113,3,v33.2.2.2.2.2.2.1.map WorldSaw.enc),(54701,3,1,v42.1.map (eI .i64)),(54703,113,3,v33.2.2.2.2.2.2.2.1.map WorldSaw.enc),(54704,3,1,v42.2.1.map (eI .i64)),(54706,113,3,v33.2.2.2.2.2.2.2.2.1.map WorldSaw.enc),(54707,3,1,v42.2.2.1.map (eI .i64))]⟩) h (Weak.refl _) (fun _ nx42 hn42 v42 h=>?_)
   conv=>whnf
   refine fkS h (fun h=>?_) (fun h=>?_)
   ·conv=>whnf
    refine⟨13,?_⟩
    conv=>whnf
    refine fkN h (fun q43 h=>?_) (fun q43 h=>?_)
    ·conv=>whnf
     refine ixS (enc:=(eI .i64)) h rfl (fun _=>rfl) (fun x48 h=>?_)
     conv=>whnf
     refine liS ([x48]:List Int) (eI .i64) rfl rfl ?_
     conv=>whnf
     refine apS (enc:=(eI .i64)) (l1:=v42.1) (l2:=([x48]:List Int)) h rfl rfl (fun _=>rfl) (fun h=>?_)
     conv=>whnf
     refine drS (by kernel_rfl) ?_
     conv=>whnf
     refine fork_t q43 ?_
     conv=>whnf
     refine leX hn42 h ?_
     conv=>whnf
     refine WkF.step (Weak.rekey _ 120 54701 rfl) ?_
     conv=>whnf
     exact WkF.refl _
    conv=>whnf
    refine fkN h (fun q44 h=>?_) (fun q44 h=>?_)
    ·conv=>whnf
     refine ixS (enc:=(eI .i64)) h rfl (fun _=>rfl) (fun x47 h=>?_)
     conv=>whnf
     refine liS ([x47]:List Int) (eI .i64) rfl rfl ?_
     conv=>whnf
     refine apS (enc:=(eI .i64)) (l1:=v42.2.1) (l2:=([x47]:List Int)) h rfl rfl (fun _=>rfl) (fun h=>?_)
     conv=>whnf
     refine drS (by kernel_rfl) ?_
     conv=>whnf
     refine fork_f q43 ?_
     conv=>whnf
     refine fork_t q44 ?_
     conv=>whnf
     refine leX hn42 h ?_
     conv=>whnf
     refine WkF.step (Weak.rekey _ 120 54704 rfl) ?_
     conv=>whnf
     exact WkF.refl _
    conv=>whnf
    refine fkN h (fun q45 h=>?_) (fun q45 h=>?_)
    ·conv=>whnf
     refine ixS (enc:=(eI .i64)) h rfl (fun _=>rfl) (fun x46 h=>?_)
     conv=>whnf
     refine liS ([x46]:List Int) (eI .i64) rfl rfl ?_
     conv=>whnf
     refine apS (enc:=(eI .i64)) (l1:=v42.2.2.1) (l2:=([x46]:List Int)) h rfl rfl (fun _=>rfl) (fun h=>?_)
     conv=>whnf
     refine drS (by kernel_rfl) ?_
     conv=>whnf
     refine fork_f q43 ?_
     conv=>whnf
     refine fork_f q44 ?_
     conv=>whnf
     refine fork_t q45 ?_
     conv=>whnf
     refine leX hn42 h ?_
     conv=>whnf
     refine WkF.step (Weak.rekey _ 120 54707 rfl) ?_
     conv=>whnf
     exact WkF.refl _
    conv=>whnf
    cases h
   conv=>whnf
   exact leS hn31 h (Weak.refl _)
  conv=>whnf
  refine lenB tab rfl rfl rfl rfl rfl ?_
  conv=>whnf
  refine lpX (fun v49=>⟨[(9,.l (.ptr 10 0)),(10,.l (.bsl 47 3 3)),(126,.l (.d (.int .i64 (3:Int)))),(127,.l (.d (.int .i64 v49.2.2.2)))],142,[],[(10,[.d (.int .i64 v31.1),.d (.sl (v31.2.1.map Window.enc)),.d (.sl (v31.2.2.1.map Face.enc)),.d (.sl (v31.2.2.2.1.map PartState.enc)),.d (.sl (v31.2.2.2.2.1.map PortLine.enc)),.d (.int .i64 v31.2.2.2.2.2.1)]),(47,[.own 54700,.own 54701,.d (.sl (v49.1.map Entry.enc)),.own 54703,.own 54704,.d (.sl (v49.2.1.map Entry.enc)),.own 54706,.own 54707,.d (.sl (v49.2.2.1.map Entry.enc))])],[(54700,113,3,v31.2.2.2.2.2.2.1.map WorldSaw.enc),(54701,3,1,v31.2.2.2.2.2.2.2.1.map (eI .i64)),(54703,113,3,v31.2.2.2.2.2.2.2.2.1.map WorldSaw.enc),(54704,3,1,v31.2.2.2.2.2.2.2.2.2.1.map (eI .i64)),(54706,113,3,v31.2.2.2.2.2.2.2.2.2.2.1.map WorldSaw.enc),(54707,3,1,v31.2.2.2.2.2.2.2.2.2.2.2.1.map (eI .i64))]⟩) h ?_ (fun _ nx49 hn49 v49 h=>?_)
  ·conv=>whnf
   refine WkF.step (Weak.nilBD _ 47 2 _ rfl rfl) ?_
   conv=>whnf
   refine WkF.step (Weak.nilBD _ 47 5 _ rfl rfl) ?_
   conv=>whnf
   refine WkF.step (Weak.nilBD _ 47 8 _ rfl rfl) ?_
   conv=>whnf
   exact WkF.refl _
  conv=>whnf
  refine fkS h (fun h=>?_) (fun h=>?_)
  ·conv=>whnf
   refine ixS (enc:=PartState.enc) h rfl (fun _=>rfl) (fun x50 h=>?_)
   conv=>whnf
   refine fkN h (fun q51 h=>?_) (fun q51 h=>?_)
   ·conv=>whnf
    exact leS hn49 h (Weak.refl _)
   conv=>whnf
   refine fkN h (fun q52 h=>?_) (fun q52 h=>?_)
   ·conv=>whnf
    exact leS hn49 h (Weak.refl _)
   conv=>whnf
   refine fkN h (fun q53 h=>?_) (fun q53 h=>?_)
   ·conv=>whnf
    exact leS hn49 h (Weak.refl _)
   conv=>whnf
   cases h
  conv=>whnf
  exact rt (E:=E_ListWorldView_Int) h rfl
 conv=>whnf
 refine mkF h (fun hb h=>?_) (fun h=>?_)
 ·conv=>whnf
  refine mkB tab 4 rfl rfl rfl rfl (of_decide_eq_true hb) (of_decide_eq_true hb) rfl rfl rfl (Nat.le_of_ble_eq_true rfl) (Nat.le_of_ble_eq_true rfl) (Nat.le_of_ble_eq_true rfl) rfl ?_
  conv=>whnf
  refine lenS a1 (eL KernelCmd.enc) rfl ?_
  conv=>whnf
  refine lpX (fun v4=>⟨[(9,.l (.ptr 10 0)),(10,.l (.bsl 47 4 3)),(47,.l (.d (.sl (a1.map (eL KernelCmd.enc))))),(48,.l (.d (.int .i64 (a1.length:Int)))),(49,.l (.d (.int .i64 v4.2.2.2.2.2.2.2.2.2.2.2.2.2.2)))],142,[],[(10,[.d (.int .i64 v4.1),.d (.sl (v4.2.1.map Window.enc)),.d (.sl (v4.2.2.1.map Face.enc)),.d (.sl (v4.2.2.2.1.map PartState.enc)),.d (.sl (v4.2.2.2.2.1.map PortLine.enc)),.d (.int .i64 v4.2.2.2.2.2.1)]),(47,[.own 54700,.own 54701,.nil,.own 54703,.own 54704,.nil,.own 54706,.own 54707,.nil,.own 54709,.own 54710,.nil])],[(54700,113,3,v4.2.2.2.2.2.2.1.map WorldSaw.enc),(54701,3,1,v4.2.2.2.2.2.2.2.1.map (eI .i64)),(54703,113,3,v4.2.2.2.2.2.2.2.2.1.map WorldSaw.enc),(54704,3,1,v4.2.2.2.2.2.2.2.2.2.1.map (eI .i64)),(54706,113,3,v4.2.2.2.2.2.2.2.2.2.2.1.map WorldSaw.enc),(54707,3,1,v4.2.2.2.2.2.2.2.2.2.2.2.1.map (eI .i64)),(54709,113,3,v4.2.2.2.2.2.2.2.2.2.2.2.2.1.map WorldSaw.enc),(54710,3,1,v4.2.2.2.2.2.2.2.2.2.2.2.2.2.1.map (eI .i64))]⟩) h ?_ (fun _ nx4 hn4 v4 h=>?_)
  ·conv=>whnf
   refine WkF.step (Weak.nilBO _ 47 0 54700 113 3 _ rfl rfl) ?_
   conv=>whnf
   refine WkF.step (Weak.nilBO _ 47 1 54701 3 1 _ rfl rfl) ?_
   conv=>whnf
   refine WkF.step (Weak.nilBO _ 47 3 54703 113 3 _ rfl rfl) ?_
   conv=>whnf
   refine WkF.step (Weak.nilBO _ 47 4 54704 3 1 _ rfl rfl) ?_
   conv=>whnf
   refine WkF.step (Weak.nilBO _ 47 6 54706 113 3 _ rfl rfl) ?_
   conv=>whnf
   refine WkF.step (Weak.nilBO _ 47 7 54707 3 1 _ rfl rfl) ?_
   conv=>whnf
   refine WkF.step (Weak.nilBO _ 47 9 54709 113 3 _ rfl rfl) ?_
   conv=>whnf
   refine WkF.step (Weak.nilBO _ 47 10 54710 3 1 _ rfl rfl) ?_
   conv=>whnf
   exact WkF.refl _
  conv=>whnf
  refine fkS h (fun h=>?_) (fun h=>?_)
  ·conv=>whnf
   refine ixS (enc:=(eL KernelCmd.enc)) h rfl (fun _=>rfl) (fun x5 h=>?_)
   conv=>whnf
   refine lenS x5 KernelCmd.enc rfl ?_
   conv=>whnf
   refine lpS (fun v6=>⟨[(9,.l (.ptr 10 0)),(10,.l (.bsl 47 4 3)),(11,.l (.d (.int .i64 v4.2.2.2.2.2.2.2.2.2.2.2.2.2.2))),(47,.l (.d (.sl (a1.map (eL KernelCmd.enc))))),(48,.l (.d (.int .i64 (a1.length:Int)))),(49,.l (.d (.int .i64 v4.2.2.2.2.2.2.2.2.2.2.2.2.2.2))),(54,.l (.d (.sl (x5.map KernelCmd.enc)))),(55,.l (.d (.int .i64 (x5.length:Int)))),(56,.l (.d (.int .i64 v6.2.2.2.2.2.2.2.2.2.2)))],142,[],[(10,[.d (.int .i64 v6.1),.d (.sl (v6.2.1.map Window.enc)),.d (.sl (v6.2.2.1.map Face.enc)),.d (.sl (v6.2.2.2.1.map PartState.enc)),.d (.sl (v6.2.2.2.2.1.map PortLine.enc)),.d (.int .i64 v6.2.2.2.2.2.1)]),(47,[.own 54700,.own 54701,.nil,.own 54703,.own 54704,.nil,.own 54706,.own 54707,.nil,.own 54709,.own 54710,.nil])],[(54700,113,3,v6.2.2.2.2.2.2.1.map WorldSaw.enc),(54701,3,1,v4.2.2.2.2.2.2.2.1.map (eI .i64)),(54703,113,3,v6.2.2.2.2.2.2.2.1.map WorldSaw.enc),(54704,3,1,v4.2.2.2.2.2.2.2.2.2.1.map (eI .i64)),(54706,113,3,v6.2.2.2.2.2.2.2.2.1.map WorldSaw.enc),(54707,3,1,v4.2.2.2.2.2.2.2.2.2.2.2.1.map (eI .i64)),(54709,113,3,v6.2.2.2.2.2.2.2.2.2.1.map WorldSaw.enc),(54710,3,1,v4.2.2.2.2.2.2.2.2.2.2.2.2.2.1.map (eI .i64))]⟩) h (Weak.refl _) (fun _ nx6 hn6 v6 h=>?_)
   conv=>whnf
   refine fkS h (fun h=>?_) (fun h=>?_)
   ·conv=>whnf
    refine ixS (enc:=KernelCmd.enc) h rfl (fun _=>rfl) (fun x7 h=>?_)
    conv=>whnf
    refine ccS (E:=E_KernelState_Int_Int) h (kernel_Do_w (⟨⟨v6.1,v6.2.1⟩,v6.2.2.1,v6.2.2.2.1,v6.2.2.2.2.1,v6.2.2.2.2.2.1⟩) x7) rfl rfl (fun x8 h=>?_)
    conv=>whnf
    refine jnS (fun w9=>⟨[(9,.l (.ptr 10 0)),(10,.l (.bsl 47 4 3)),(11,.l (.d (.int .i64 v4.2.2.2.2.2.2.2.2.2.2.2.2.2.2))),(15,.l (.ptr 16 0)),(47,.l (.d (.sl (a1.map (eL KernelCmd.enc))))),(48,.l (.d (.int .i64 (a1.length:Int)))),(49,.l (.d (.int .i64 v4.2.2.2.2.2.2.2.2.2.2.2.2.2.2))),(54,.l (.d (.sl (x5.map KernelCmd.enc)))),(55,.l (.d (.int .i64 (x5.length:Int)))),(56,.l (.d (.int .i64 v6.2.2.2.2.2.2.2.2.2.2)))],142,[],[(10,[.d (.int .i64 v6.1),.d (.sl (v6.2.1.map Window.enc)),.d (.sl (v6.2.2.1.map Face.enc)),.d (.sl (v6.2.2.2.1.map PartState.enc)),.d (.sl (v6.2.2.2.2.1.map PortLine.enc)),.d (.int .i64 v6.2.2.2.2.2.1)]),(16,[.d (.int .i64 x8.1.Table.Frame),.d (.sl (x8.1.Table.Windows.map Window.enc)),.d (.sl (x8.1.Faces.map Face.enc)),.d (.sl (x8.1.Parts.map PartState.enc)),.d (.sl (x8.1.Lines.map PortLine.enc)),.d (.int .i64 x8.1.Now)]),(47,[.own 54700,.own 54701,.nil,.own 54703,.own 54704,.nil,.own 54706,.own 54707,.nil,.own 54709,.own 54710,.nil])],[(54700,113,3,w9.1.map WorldSaw.enc),(54701,3,1,v4.2.2.2.2.2.2.2.1.map (eI .i64)),(54703,113,3,w9.2.1.map WorldSaw.enc),(54704,3,1,v4.2.2.2.2.2.2.2.2.2.1.map (eI .i64)),(54706,113,3,w9.2.2.1.map WorldSaw.enc),(54707,3,1,v4.2.2.2.2.2.2.2.2.2.2.2.1.map (eI .i64)),(54709,113,3,w9.2.2.2.map WorldSaw.enc),(54710,3,1,v4.2.2.2.2.2.2.2.2.2.2.2.2.2.1.map (eI .i64))]⟩) h (fun k9 hk9 h=>?_) (fun w9 h=>?_)
    ·conv=>whnf
     refine jnS (fun w10=>⟨[(9,.l (.ptr 10 0)),(10,.l (.bsl 47 4 3)),(11,.l (.d (.int .i64 v4.2.2.2.2.2.2.2.2.2.2.2.2.2.2))),(14,.l (.ptr 15 0)),(15,.l (.ptr 16 0)),(16,.l (.d (.int .i64 x8.2.1))),(17,.l (.d (.int .i64 x8.2.2))),(47,.l (.d (.sl (a1.map (eL KernelCmd.enc))))),(48,.l (.d (.int .i64 (a1.length:Int)))),(49,.l (.d (.int .i64 v4.2.2.2.2.2.2.2.2.2.2.2.2.2.2))),(54,.l (.d (.sl (x5.map KernelCmd.enc)))),(55,.l (.d (.int .i64 (x5.length:Int)))),(56,.l (.d (.int .i64 v6.2.2.2.2.2.2.2.2.2.2))),(76,.l (.d (.bool w10)))],142,[],[(10,[.d (.int .i64 v6.1),.d (.sl (v6.2.1.map Window.enc)),.d (.sl (v6.2.2.1.map Face.enc)),.d (.sl (v6.2.2.2.1.map PartState.enc)),.d (.sl (v6.2.2.2.2.1.map PortLine.enc)),.d (.int .i64 v6.2.2.2.2.2.1)]),(15,[.d (.int .i64 x7.Part),.d (.int .i64 x7.Kind),.d (.int .i64 x7.I),.d (.int .i64 x7.V),.d (.int .i64 x7.T.C),.d (.int .i64 x7.T.D),.d (.int .i64 x7.T.T),.d (.sl (x7.T.Secs.map Sec.enc))]),(16,[.d (.int .i64 x8.1.Table.Frame),.d (.sl (x8.1.Table.Windows.map Window.enc)),.d (.sl (x8.1.Faces.map Face.enc)),.d (.sl (x8.1.Parts.map PartState.enc)),.d (.sl (x8.1.Lines.map PortLine.enc)),.d (.int .i64 x8.1.Now)]),(47,[.own 54700,.own 54701,.nil,.own 54703,.own 54704,.nil,.own 54706,.own 54707,.nil,.own 54709,.own 54710,.nil])],[(54700,113,3,v6.2.2.2.2.2.2.1.map WorldSaw.enc),(54701,3,1,v4.2.2.2.2.2.2.2.1.map (eI .i64)),(54703,113,3,v6.2.2.2.2.2.2.2.1.map WorldSaw.enc),(54704,3,1,v4.2.2.2.2.2.2.2.2.2.1.map (eI .i64)),(54706,113,3,v6.2.2.2.2.2.2.2.2.1.map WorldSaw.enc),(54707,3,1,v4.2.2.2.2.2.2.2.2.2.2.2.1.map (eI .i64)),(54709,113,3,v6.2.2.2.2.2.2.2.2.2.1.map WorldSaw.enc),(54710,3,1,v4.2.2.2.2.2.2.2.2.2.2.2.2.2.1.map (eI .i64))]⟩) h (fun k10 hk10 h=>?_) (fun w10 h=>?_)
     ·conv=>whnf
      refine fkS h (fun h=>?_) (fun h=>?_)
      ·conv=>whnf
       refine lenB tab rfl rfl rfl rfl rfl ?_
       conv=>whnf
       exact jeS hk10 h (Weak.refl _)
      conv=>whnf
      exact jeS hk10 h (Weak.refl _)
     conv=>whnf
     refine fkS h (fun h=>?_) (fun h=>?_)
     ·conv=>whnf
      refine⟨15,?_⟩
      conv=>whnf
      refine fkN h (fun q11 h=>?_) (fun q11 h=>?_)
      ·conv=>whnf
       refine liS ([⟨v4.2.2.2.2.2.2.2.2.2.2.2.2.2.2,x8.2.1,x8.2.2⟩]:List WorldSaw) WorldSaw.enc rfl rfl ?_
       conv=>whnf
       refine apS (enc:=WorldSaw.enc) (l1:=v6.2.2.2.2.2.2.1) (l2:=([⟨v4.2.2.2.2.2.2.2.2.2.2.2.2.2.2,x8.2.1,x8.2.2⟩]:List WorldSaw)) h rfl rfl (fun _=>rfl) (fun h=>?_)
       conv=>whnf
       refine drS (by kernel_rfl) ?_
       conv=>whnf
       refine fork_t q11 ?_
       conv=>whnf
       refine jeX hk9 h ?_
       conv=>whnf
       refine WkF.step (Weak.rekey _ 92 54700 rfl) ?_
       conv=>whnf
       exact WkF.refl _
      conv=>whnf
      refine fkN h (fun q12 h=>?_) (fun q12 h=>?_)
      ·conv=>whnf
       refine liS ([⟨v4.2.2.2.2.2.2.2.2.2.2.2.2.2.2,x8.2.1,x8.2.2⟩]:List WorldSaw) WorldSaw.enc rfl rfl ?_
       conv=>whnf
       refine apS (enc:=WorldSaw.enc) (l1:=v6.2.2.2.2.2.2.2.1) (l2:=([⟨v4.2.2.2.2.2.2.2.2.2.2.2.2.2.2,x8.2.1,x8.2.2⟩]:List WorldSaw)) h rfl rfl (fun _=>rfl) (fun h=>?_)
       conv=>whnf
       refine drS (by kernel_rfl) ?_
       conv=>whnf
       refine fork_f q11 ?_
       conv=>whnf
       refine fork_t q12 ?_
       conv=>whnf
       refine jeX hk9 h ?_
       conv=>whnf
       refine WkF.step (Weak.rekey _ 92 54703 rfl) ?_
       conv=>whnf
       exact WkF.refl _
      conv=>whnf
      refine fkN h (fun q13 h=>?_) (fun q13 h=>?_)
      ·conv=>whnf
       refine liS ([⟨v4.2.2.2.2.2.2.2.2.2.2.2.2.2.2,x8.2.1,x8.2.2⟩]:List WorldSaw) WorldSaw.enc rfl rfl ?_
       conv=>whnf
       refine apS (enc:=WorldSaw.enc) (l1:=v6.2.2.2.2.2.2.2.2.1) (l2:=([⟨v4.2.2.2.2.2.2.2.2.2.2.2.2.2.2,x8.2.1,x8.2.2⟩]:List WorldSaw)) h rfl rfl (fun _=>rfl) (fun h=>?_)
       conv=>whnf
       refine drS (by kernel_rfl) ?_
       conv=>whnf
       refine fork_f q11 ?_
       conv=>whnf
       refine fork_f q12 ?_
       conv=>whnf
       refine fork_t q13 ?_
       conv=>whnf
       refine jeX hk9 h ?_
       conv=>whnf
       refine WkF.step (Weak.rekey _ 92 54706 rfl) ?_
       conv=>whnf
       exact WkF.refl _
      conv=>whnf
      refine fkN h (fun q14 h=>?_) (fun q14 h=>?_)
      ·conv=>whnf
       refine liS ([⟨v4.2.2.2.2.2.2.2.2.2.2.2.2.2.2,x8.2.1,x8.2.2⟩]:List WorldSaw) WorldSaw.enc rfl rfl ?_
       conv=>whnf
       refine apS (enc:=WorldSaw.enc) (l1:=v6.2.2.2.2.2.2.2.2.2.1) (l2:=([⟨v4.2.2.2.2.2.2.2.2.2.2.2.2.2.2,x8.2.1,x8.2.2⟩]:List WorldSaw)) h rfl rfl (fun _=>rfl) (fun h=>?_)
       conv=>whnf
       refine drS (by kernel_rfl) ?_
       conv=>whnf
       refine fork_f q11 ?_
       conv=>whnf
       refine fork_f q12 ?_
       conv=>whnf
       refine fork_f q13 ?_
       conv=>whnf
       refine fork_t q14 ?_
       conv=>whnf
       refine jeX hk9 h ?_
       conv=>whnf
       refine WkF.step (Weak.rekey _ 92 54709 rfl) ?_
       conv=>whnf
       exact WkF.refl _
      conv=>whnf
      cases h
     conv=>whnf
     refine jeX hk9 h ?_
     conv=>whnf
     refine WkF.step (Weak.keepS _ [9,10,11,15,47,48,49,54,55,56]) ?_
     conv=>whnf
     exact WkF.refl _
    conv=>whnf
    exact leS hn6 h (Weak.refl _)
   conv=>whnf
   refine ccS (E:=E_KernelState_ListInt_Int) h (kernel_Tick_w (⟨⟨v6.1,v6.2.1⟩,v6.2.2.1,v6.2.2.2.1,v6.2.2.2.2.1,v6.2.2.2.2.2.1⟩)) rfl rfl (fun x15 h=>?_)
   conv=>whnf
   refine lenB tab rfl rfl rfl rfl rfl ?_
   conv=>whnf
   refine lpS (fun v16=>⟨[(9,.l (.ptr 10 0)),(10,.l (.bsl 47 4 3)),(18,.l (.ptr 19 0)),(19,.l (.d (.sl (x15.2.1.map (eI .i64))))),(47,.l (.d (.sl (a1.map (eL KernelCmd.enc))))),(48,.l (.d (.int .i64 (a1.length:Int)))),(49,.l (.d (.int .i64 v4.2.2.2.2.2.2.2.2.2.2.2.2.2.2))),(103,.l (.d (.int .i64 (4:Int)))),(104,.l (.d (.int .i64 v16.2.2.2.2)))],142,[],[(10,[.d (.int .i64 v6.1),.d (.sl (v6.2.1.map Window.enc)),.d (.sl (v6.2.2.1.map Face.enc)),.d (.sl (v6.2.2.2.1.map PartState.enc)),.d (.sl (v6.2.2.2.2.1.map PortLine.enc)),.d (.int .i64 v6.2.2.2.2.2.1)]),(19,[.d (.int .i64 x15.1.Table.Frame),.d (.sl (x15.1.Table.Windows.map Window.enc)),.d (.sl (x15.1.Faces.map Face.enc)),.d (.sl (x15.1.Parts.map PartState.enc)),.d (.sl (x15.1.Lines.map PortLine.enc)),.d (.int .i64 x15.1.Now)]),(47,[.own 54700,.own 54701,.nil,.own 54703,.own 54704,.nil,.own 54706,.own 54707,.nil,.own 54709,.own 54710,.nil])],[(54700,113,3,v6.2.2.2.2.2.2.1.map WorldSaw.enc),(54701,3,1,v16.1.map (eI .i64)),(54703,113,3,v6.2.2.2.2.2.2.2.1.map WorldSaw.enc),(54704,3,1,v16.2.1.map (eI .i64)),(54706,113,3,v6.2.2.2.2.2.2.2.2.1.map WorldSaw.enc),(54707,3,1,v16.2.2.1.map (eI .i64)),(54709,113,3,v6.2.2.2.2.2.2.2.2.2.1.map WorldSaw.enc),(54710,3,1,v16.2.2.2.1.map (eI .i64))]⟩) h (Weak.refl _) (fun _ nx16 hn16 v16 h=>?_)
   conv=>whnf
   refine fkS h (fun h=>?_) (fun h=>?_)
   ·conv=>whnf
    refine⟨13,?_⟩
    conv=>whnf
    refine fkN h (fun q17 h=>?_) (fun q17 h=>?_)
    ·conv=>whnf
     refine ixS (enc:=(eI .i64)) h rfl (fun _=>rfl) (fun x24 h=>?_)
     conv=>whnf
     refine liS ([x24]:List Int) (eI .i64) rfl rfl ?_
     conv=>whnf
     refine apS (enc:=(eI .i64)) (l1:=v16.1) (l2:=([x24]:List Int)) h rfl rfl (fun _=>rfl) (fun h=>?_)
     conv=>whnf
     refine drS (by kernel_rfl) ?_
     conv=>whnf
     refine fork_t q17 ?_
     conv=>whnf
     refine leX hn16 h ?_
     conv=>whnf
     refine WkF.step (Weak.rekey _ 120 54701 rfl) ?_
     conv=>whnf
     exact WkF.refl _
    conv=>whnf
    refine fkN h (fun q18 h=>?_) (fun q18 h=>?_)
    ·conv=>whnf
     refine ixS (enc:=(eI .i64)) h rfl (fun _=>rfl) (fun x23 h=>?_)
     conv=>whnf
     refine liS ([x23]:List Int) (eI .i64) rfl rfl ?_
     conv=>whnf
     refine apS (enc:=(eI .i64)) (l1:=v16.2.1) (l2:=([x23]:List Int)) h rfl rfl (fun _=>rfl) (fun h=>?_)
     conv=>whnf
     refine drS (by kernel_rfl) ?_
     conv=>whnf
     refine fork_f q17 ?_
     conv=>whnf
     refine fork_t q18 ?_
     conv=>whnf
     refine leX hn16 h ?_
     conv=>whnf
     refine WkF.step (Weak.rekey _ 120 54704 rfl) ?_
     conv=>whnf
     exact WkF.refl _
    conv=>whnf
    refine fkN h (fun q19 h=>?_) (fun q19 h=>?_)
    ·conv=>whnf
     refine ixS (enc:=(eI .i64)) h rfl (fun _=>rfl) (fun x22 h=>?_)
     conv=>whnf
     refine liS ([x22]:List Int) (eI .i64) rfl rfl ?_
     conv=>whnf
     refine apS (enc:=(eI .i64)) (l1:=v16.2.2.1) (l2:=([x22]:List Int)) h rfl rfl (fun _=>rfl) (fun h=>?_)
     conv=>whnf
     refine drS (by kernel_rfl) ?_
     conv=>whnf
     refine fork_f q17 ?_
     conv=>whnf
     refine fork_f q18 ?_
     conv=>whnf
     refine fork_t q19 ?_
     conv=>whnf
     refine leX hn16 h ?_
     conv=>whnf
     refine WkF.step (Weak.rekey _ 120 54707 rfl) ?_
     conv=>whnf
     exact WkF.refl _
    conv=>whnf
    refine fkN h (fun q20 h=>?_) (fun q20 h=>?_)
    ·conv=>whnf
     refine ixS (enc:=(eI .i64)) h rfl (fun _=>rfl) (fun x21 h=>?_)
     conv=>whnf
     refine liS ([x21]:List Int) (eI .i64) rfl rfl ?_
     conv=>whnf
     refine apS (enc:=(eI .i64)) (l1:=v16.2.2.2.1) (l2:=([x21]:List Int)) h rfl rfl (fun _=>rfl) (fun h=>?_)
     conv=>whnf
     refine drS (by kernel_rfl) ?_
     conv=>whnf
     refine fork_f q17 ?_
     conv=>whnf
     refine fork_f q18 ?_
     conv=>whnf
     refine fork_f q19 ?_
     conv=>whnf
     refine fork_t q20 ?_
     conv=>whnf
     refine leX hn16 h ?_
     conv=>whnf
     refine WkF.step (Weak.rekey _ 120 54710 rfl) ?_
     conv=>whnf
     exact WkF.refl _
    conv=>whnf
    cases h
   conv=>whnf
   exact leS hn4 h (Weak.refl _)
  conv=>whnf
  refine lenB tab rfl rfl rfl rfl rfl ?_
  conv=>whnf
  refine lpX (fun v25=>⟨[(9,.l (.ptr 10 0)),(10,.l (.bsl 47 4 3)),(126,.l (.d (.int .i64 (4:Int)))),(127,.l (.d (.int .i64 v25.2.2.2.2)))],142,[],[(10,[.d (.int .i64 v4.1),.d (.sl (v4.2.1.map Window.enc)),.d (.sl (v4.2.2.1.map Face.enc)),.d (.sl (v4.2.2.2.1.map PartState.enc)),.d (.sl (v4.2.2.2.2.1.map PortLine.enc)),.d (.int .i64 v4.2.2.2.2.2.1)]),(47,[.own 54700,.own 54701,.d (.sl (v25.1.map Entry.enc)),.own 54703,.own 54704,.d (.sl (v25.2.1.map Entry.enc)),.own 54706,.own 54707,.d (.sl (v25.2.2.1.map Entry.enc)),.own 54709,.own 54710,.d (.sl (v25.2.2.2.1.map Entry.enc))])],[(54700,113,3,v4.2.2.2.2.2.2.1.map WorldSaw.enc),(54701,3,1,v4.2.2.2.2.2.2.2.1.map (eI .i64)),(54703,113,3,v4.2.2.2.2.2.2.2.2.1.map WorldSaw.enc),(54704,3,1,v4.2.2.2.2.2.2.2.2.2.1.map (eI .i64)),(54706,113,3,v4.2.2.2.2.2.2.2.2.2.2.1.map WorldSaw.enc),(54707,3,1,v4.2.2.2.2.2.2.2.2.2.2.2.1.map (eI .i64)),(54709,113,3,v4.2.2.2.2.2.2.2.2.2.2.2.2.1.map WorldSaw.enc),(54710,3,1,v4.2.2.2.2.2.2.2.2.2.2.2.2.2.1.map (eI .i64))]⟩) h ?_ (fun _ nx25 hn25 v25 h=>?_)
  ·conv=>whnf
   refine WkF.step (Weak.nilBD _ 47 2 _ rfl rfl) ?_
   conv=>whnf
   refine WkF.step (Weak.nilBD _ 47 5 _ rfl rfl) ?_
   conv=>whnf
   refine WkF.step (Weak.nilBD _ 47 8 _ rfl rfl) ?_
   conv=>whnf
   refine WkF.step (Weak.nilBD _ 47 11 _ rfl rfl) ?_
   conv=>whnf
   exact WkF.refl _
  conv=>whnf
  refine fkS h (fun h=>?_) (fun h=>?_)
  ·conv=>whnf
   refine ixS (enc:=PartState.enc) h rfl (fun _=>rfl) (fun x26 h=>?_)
   conv=>whnf
   refine fkN h (fun q27 h=>?_) (fun q27 h=>?_)
   ·conv=>whnf
    exact leS hn25 h (Weak.refl _)
   conv=>whnf
   refine fkN h (fun q28 h=>?_) (fun q28 h=>?_)
   ·conv=>whnf
    exact leS hn25 h (Weak.refl _)
   conv=>whnf
   refine fkN h (fun q29 h=>?_) (fun q29 h=>?_)
   ·conv=>whnf
    exact leS hn25 h (Weak.refl _)
   conv=>whnf
   refine fkN h (fun q30 h=>?_) (fun q30 h=>?_)
   ·conv=>whnf
    exact leS hn25 h (Weak.refl _)
   conv=>whnf
   cases h
  conv=>whnf
  exact rt (E:=E_ListWorldView_Int) h rfl
 conv=>whnf
 cases h
end Go.Proofs.YtldlcdnhdedoeaaGreat
namespace Go.Proofs.YtldlcdnhdedoeaaGreat
open Go Go.VC
noncomputable def law22_knows  : Option Bool:=
 bnd (world_Play ([(84:Int),(75:Int),(49:Int),(0:Int),(0:Int)]:List Int) []) fun x1=>bnd (world_Play ([(84:Int),(75:Int),(49:Int),(1:Int),(2:Int),(1:Int),(1:Int),(1:Int),(4:Int),(4:Int),(0:Int),(0:Int)]:List Int) ([([⟨(0:Int),(1:Int),(0:Int),(1:Int),⟨(0:Int),(0:Int),(0:Int),[]⟩⟩]:List KernelCmd),([]:List KernelCmd)]:List (List KernelCmd))) fun x2=>bnd (world_Play [] []) fun x3=>fk (decide ((x1.1.length:Int)=(0:Int))) (fk (decide (x1.2=(0:Int))) (fk (decide ((x2.1.length:Int)=(1:Int))) (fk (decide (x2.2=(0:Int))) (ix x2.1 (0:Int) fun x4=>fk (decide ((x4.Ran.length:Int)=(2:Int))) (ix x2.1 (0:Int) fun x5=>ix x5.Ran (0:Int) fun x6=>fk (decide (x6=(0:Int))) (ix x2.1 (0:Int) fun x7=>ix x7.Ran (1:Int) fun x8=>fk (decide (x8=(-1:Int))) (ix x2.1 (0:Int) fun x9=>fk (decide ((x9.Saws.length:Int)=(1:Int))) (ix x2.1 (0:Int) fun x10=>fk (decide ((x10.Log.length:Int)=(2:Int))) (some (decide (x3.2=(8:Int)))) (some false)) (some false)) (some false)) (some false)) (some false)) (some false)) (some false)) (some false)) (some false)
theorem law22_knows_w  (r:Bool) (h:law22_knows=some r):Go.VC.Spec Tryz.prog 40 [] (fun y=>y=E_Bool r):=by
 refine Go.VC.Spec.of_xc (args:=[]) (fn:=Tryz.f40) tab ⟨[(0,[]),(1,[1,2]),(2,[1,2,3,4]),(3,[1,2,3,4,6]),(4,[0])],[],[],[(19,[18,19])]⟩ 89 [.tmp 0] rfl rfl rfl rfl rfl rfl ?_
 conv=>whnf
 refine liS ([(84:Int),(75:Int),(49:Int),(0:Int),(0:Int)]:List Int) (eI .u8) rfl rfl ?_
 conv=>whnf
 refine cvO rfl rfl rfl rfl rfl Tryz.underlying97 Tryz.underlying5 ?_
 conv=>whnf
 refine ccS (E:=E_ListWorldView_Int) h (world_Play_w ([(84:Int),(75:Int),(49:Int),(0:Int),(0:Int)]:List Int) []) rfl rfl (fun x1 h=>?_)
 conv=>whnf
 refine liS ([(84:Int),(75:Int),(49:Int),(1:Int),(2:Int),(1:Int),(1:Int),(1:Int),(4:Int),(4:Int),(0:Int),(0:Int)]:List Int) (eI .u8) rfl rfl ?_
 conv=>whnf
 refine cvO rfl rfl rfl rfl rfl Tryz.underlying97 Tryz.underlying5 ?_
 conv=>whnf
 refine liS ([⟨(0:Int),(1:Int),(0:Int),(1:Int),⟨(0:Int),(0:Int),(0:Int),[]⟩⟩]:List KernelCmd) KernelCmd.enc rfl rfl ?_
 conv=>whnf
 refine liS ([]:List KernelCmd) KernelCmd.enc rfl rfl ?_
 conv=>whnf
 refine liS ([([⟨(0:Int),(1:Int),(0:Int),(1:Int),⟨(0:Int),(0:Int),(0:Int),[]⟩⟩]:List KernelCmd),([]:List KernelCmd)]:List (List KernelCmd)) (eL KernelCmd.enc) rfl rfl ?_
 conv=>whnf
 refine iceS 20 ?_
 conv=>whnf
 refine ccS (E:=E_ListWorldView_Int) h (world_Play_w ([(84:Int),(75:Int),(49:Int),(1:Int),(2:Int),(1:Int),(1:Int),(1:Int),(4:Int),(4:Int),(0:Int),(0:Int)]:List Int) ([([⟨(0:Int),(1:Int),(0:Int),(1:Int),⟨(0:Int),(0:Int),(0:Int),[]⟩⟩]:List KernelCmd),([]:List KernelCmd)]:List (List KernelCmd))) rfl rfl (fun x2 h=>?_)
 conv=>whnf
 refine ccS (E:=E_ListWorldView_Int) h (world_Play_w [] []) rfl rfl (fun x3 h=>?_)
 conv=>whnf
 refine lenS x1.1 WorldView.enc rfl ?_
 conv=>whnf
 refine fkS h (fun h=>?_) (fun h=>?_)
 ·conv=>whnf
  refine fkS h (fun h=>?_) (fun h=>?_)
  ·conv=>whnf
   refine lenS x2.1 WorldView.enc rfl ?_
   conv=>whnf
   refine fkS h (fun h=>?_) (fun h=>?_)
   ·conv=>whnf
    refine fkS h (fun h=>?_) (fun h=>?_)
    ·conv=>whnf
     refine ixS (enc:=WorldView.enc) h rfl (fun _=>rfl) (fun x4 h=>?_)
     conv=>whnf
     refine lenS x4.Ran (eI .i64) rfl ?_
     conv=>whnf
     refine fkS h (fun h=>?_) (fun h=>?_)
     ·conv=>whnf
      refine ixS (enc:=WorldView.enc) h rfl (fun _=>rfl) (fun x5 h=>?_)
      conv=>whnf
      refine ixS (enc:=(eI .i64)) h rfl (fun _=>rfl) (fun x6 h=>?_)
      conv=>whnf
      refine fkS h (fun h=>?_) (fun h=>?_)
      ·conv=>whnf
       refine ixS (enc:=WorldView.enc) h rfl (fun _=>rfl) (fun x7 h=>?_)
       conv=>whnf
       refine ixS (enc:=(eI .i64)) h rfl (fun _=>rfl) (fun x8 h=>?_)
       conv=>whnf
       refine fkS h (fun h=>?_) (fun h=>?_)
       ·conv=>whnf
        refine ixS (enc:=WorldView.enc) h rfl (fun _=>rfl) (fun x9 h=>?_)
        conv=>whnf
        refine lenS x9.Saws WorldSaw.enc rfl ?_
        conv=>whnf
        refine fkS h (fun h=>?_) (fun h=>?_)
        ·conv=>whnf
         refine ixS (enc:=WorldView.enc) h rfl (fun _=>rfl) (fun x10 h=>?_)
         conv=>whnf
         refine lenS x10.Log Entry.enc rfl ?_
         conv=>whnf
         refine fkS h (fun h=>?_) (fun h=>?_)
         ·conv=>whnf
          exact rt (E:=E_Bool) h rfl
         conv=>whnf
         exact rt (E:=E_Bool) h rfl
        conv=>whnf
        exact rt (E:=E_Bool) h rfl
       conv=>whnf
       exact rt (E:=E_Bool) h rfl
      conv=>whnf
      exact rt (E:=E_Bool) h rfl
     conv=>whnf
     exact rt (E:=E_Bool) h rfl
    conv=>whnf
    exact rt (E:=E_Bool) h rfl
   conv=>whnf
   exact rt (E:=E_Bool) h rfl
  conv=>whnf
  exact rt (E:=E_Bool) h rfl
 conv=>whnf
 exact rt (E:=E_Bool) h rfl
end Go.Proofs.YtldlcdnhdedoeaaGreat
namespace Go.Proofs.YtldlcdnhdedoeaaGreat
open Go Go.VC
theorem law22_knows_eq:law22_knows=some true:=by kernel_rfl
end Go.Proofs.YtldlcdnhdedoeaaGreat
namespace Go.Proofs.YtldlcdnhdedoeaaGreat
open Go Go.VC
/-! What is played, tick by tick. -/
noncomputable def delK (s:KernelState):List PortLine:=if s.Now.tmod s.Table.Frame=0 then (port_Deliver s.Lines).getD [] else s.Lines
theorem linesK_del {s:KernelState} (h:kP s):linesK s (delK s):=by
 obtain⟨L,hL⟩:=linesK_ex h
 have e:delK s=L:=by
  have h3:=hL.2.2
  unfold delK
  by_cases c:s.Now.tmod s.Table.Frame=0
  ·rw[if_pos c] at h3 ⊢; rw[h3.1]; rfl
  ·rw[if_neg c] at h3 ⊢; exact h3.symm
 rw[e]; exact hL
noncomputable def tickK (s:KernelState):KernelState:=⟨s.Table,s.Faces,partsK s,delK s,s.Now+1⟩
theorem tickK_eq {s:KernelState} (h:kP s):kernel_Tick s=some (tickK s,ranK s,0):=kernel_Tick_eq h (linesK_del h)
theorem kP.tickK {s:KernelState} (h:kP s) (hn:s.Now≤90000):kP (tickK s):=h.tick (linesK_del h) hn
theorem ranK_len (s:KernelState):(ranK s).length=s.Parts.length:=by unfold ranK; simp
theorem tickK_len (s:KernelState):(tickK s).Parts.length=s.Parts.length:=by show (partsK s).length=_; unfold partsK; simp
/-- An ask's outcome goes to its partition's row. -/
def sawStep (t:Int) (c:KernelCmd) (v e:Int) (S:List (List WorldSaw)):List (List WorldSaw):=if 0≤c.Part∧c.Part<(S.length:Int) then S.set c.Part.toNat (S.getD c.Part.toNat []++[⟨t,v,e⟩]) else S
theorem sawStep_len (t:Int) (c:KernelCmd) (v e:Int) (S:List (List WorldSaw)):(sawStep t c v e S).length=S.length:=by unfold sawStep; split <;> simp
noncomputable def askL (t:Int) (x:KernelState×List (List WorldSaw)) (c:KernelCmd):KernelState×List (List WorldSaw):=((doK x.1 c).1,sawStep t c (doK x.1 c).2.1 (doK x.1 c).2.2 x.2)
noncomputable def asksL (t:Int) (x:KernelState×List (List WorldSaw)) (l:List KernelCmd):KernelState×List (List WorldSaw):=l.foldl (askL t) x
theorem asksL_succ (t:Int) (x:KernelState×List (List WorldSaw)) (l:List KernelCmd) (k:Nat) (h:k<l.length):asksL t x (l.take (k+1))=askL t (asksL t x (l.take k)) l[k]:=by
 unfold asksL
 rw[←List.take_append_getElem h,List.foldl_append]; rfl
theorem asksL_ok {t:Int} {x:KernelState×List (List WorldSaw)} (h:kP x.1):∀(l:List KernelCmd),kP (asksL t x l).1∧(asksL t x l).1.Now=x.1.Now∧(asksL t x l).1.Parts.length=x.1.Parts.length∧(asksL t x l).2.length=x.2.length:=by
 intro l
 induction l generalizing x with
 | nil=>exact⟨h,rfl,rfl,rfl⟩
 | cons c r ih=>
  obtain⟨d1,d2,d3,d4,d5⟩:=h.do c
  obtain⟨a,b,c',d⟩:=ih (x:=askL t x c) d1
  exact⟨a,b.trans d2,c'.trans d4,d.trans (sawStep_len _ _ _ _ _)⟩
structure PlayS where
 s:KernelState
 saws:List (List WorldSaw)
 rans:List (List Int)
def ranStep (r:List Int) (R:List (List Int)):List (List Int):=List.zipWith (fun a x=>a++[x]) R r
noncomputable def tickL (t:Int) (x:PlayS) (l:List KernelCmd):PlayS:=⟨tickK (asksL t (x.s,x.saws) l).1,(asksL t (x.s,x.saws) l).2,ranStep (ranK (asksL t (x.s,x.saws) l).1) x.rans⟩
noncomputable def playK (s:KernelState) (script:List (List KernelCmd)):Nat→PlayS
 | 0=>⟨s,List.replicate s.Parts.length [],List.replicate s.Parts.length []⟩
 | k+1=>tickL k (playK s script k) (script.getD k [])
theorem playK_ok {s:KernelState} (h:kP s) (script:List (List KernelCmd)) (h0:s.Now=0):∀k,k≤80000→kP (playK s script k).s∧(playK s script k).s.Now=k∧(playK s script k).s.Parts.length=s.Parts.length∧(playK s script k).saws.length=s.Parts.length∧(playK s script k).rans.length=s.Parts.length
 | 0,_=>⟨h,h0,rfl,by simp[playK],by simp[playK]⟩
 | k+1,hk=>by
  obtain⟨a,b,c,d,e⟩:=playK_ok h script h0 k (by omega)
  obtain⟨a2,b2,c2,d2⟩:=asksL_ok (t:=k) (x:=((playK s script k).s,(playK s script k).saws)) a (script.getD k [])
  simp only at b2 c2 d2
  refine⟨a2.tickK (by omega),?_,?_,d2.trans d,?_⟩
  ·show (asksL _ _ _).1.Now+1=_
   rw[b2,b]; rfl
  ·show (tickK _).Parts.length=_
   rw[tickK_len,c2,c]
  ·show (ranStep _ _).length=_
   unfold ranStep
   rw[List.length_zipWith,ranK_len,e,c2,c,Nat.min_self]
/-- The views. -/
def viewsL (x:PlayS):List WorldView:=(List.range x.s.Parts.length).map fun i=>⟨x.saws.getD i [],x.rans.getD i [],((x.s.Parts[i]?).getD emptyP).Log⟩
end Go.Proofs.YtldlcdnhdedoeaaGreat
namespace Go.Proofs.YtldlcdnhdedoeaaGreat
open Go Go.VC
section
variable {σ R:Type} {r:R} {body:(σ→Option R)→σ→Option R}
theorem asksL_lens {t:Int} {x:KernelState×List (List WorldSaw)} {m:Nat} (h:∀q∈x.2,q.length≤m):∀(l:List KernelCmd),∀q∈(asksL t x l).2,q.length≤m+l.length:=by
 intro l
 induction l generalizing x m with
 | nil=>exact h
 | cons c r ih=>
  have h1:∀q∈(askL t x c).2,q.length≤m+1:=by
   intro q hq
   have hq:q∈sawStep t c (doK x.1 c).2.1 (doK x.1 c).2.2 x.2:=hq
   unfold sawStep at hq
   split at hq
   ·rename_i hc
    rcases List.mem_or_eq_of_mem_set hq with hq | hq
    ·have:=h q hq; omega
    ·rw[hq,List.length_append]
     have hlt:c.Part.toNat<x.2.length:=by omega
     rw[List.getD_eq_getElem?_getD,List.getElem?_eq_getElem hlt]
     have:=h _ (List.getElem_mem hlt)
     simpa using this
   ·have:=h q hq; omega
  intro q hq
  have:=ih (x:=askL t x c) h1 q hq
  simp only[List.length_cons]; omega
/-- Over asks. -/
theorem do_lp {m:Nat} (t:Int) (x0:KernelState×List (List WorldSaw)) (l:List KernelCmd) (hl:l.length≤1000) (hk:kP x0.1) (hm:∀q∈x0.2,q.length≤m) (toX:σ→KernelState×List (List WorldSaw)) (idx:σ→Int) (v0:σ) (h0:idx v0=0) (hX0:toX v0=x0)
  (hEnd:∀nx v,idx v=l.length→toX v=asksL t x0 l→kP (toX v).1→(toX v).2.length=x0.2.length→(toX v).1.Parts.length=x0.1.Parts.length→body nx v=some r)
  (hStep:∀nx v (k:Nat) (h:k<l.length),idx v=k→kP (toX v).1→(toX v).2.length=x0.2.length→(∀q∈(toX v).2,q.length≤m+1000)→(∀v',idx v'=(k+1:Nat)→toX v'=askL t (toX v) l[k]→nx v'=some r)→body nx v=some r) :
  lp body FU v0=some r:=by
 refine lp_inv (fun v=>l.length-(idx v).toNat) (fun v=>∃k:Nat,idx v=k∧k≤l.length∧toX v=asksL t x0 (l.take k)) ?_ FU _ ⟨0,h0,Nat.zero_le _,hX0⟩ (by unfold FU; omega)
 rintro nx v ⟨k,h1,h2,h3⟩ hnx
 obtain⟨a,b,c,d⟩:=asksL_ok (t:=t) hk (l.take k)
 by_cases h:k<l.length
 ·refine hStep nx v k h h1 (by rw[h3]; exact a) (by rw[h3]; exact d) (by
   intro q hq
   rw[h3] at hq
   have:=asksL_lens (t:=t) hm (l.take k) q hq
   rw[List.length_take] at this; omega) fun v' e1 e2=>hnx v' ⟨k+1,e1,h,?_⟩ (by rw[e1,h1]; omega)
  rw[e2,h3,asksL_succ t x0 l k h]
 ·have e:k=l.length:=by omega
  subst e
  rw[List.take_length] at h3 a c d
  exact hEnd nx v h1 h3 (by rw[h3]; exact a) (by rw[h3]; exact d) (by rw[h3]; exact c)
/-- Over ticks. -/
theorem out_lp {s:KernelState} (h:kP s) (hz:s.Now=0) (script:List (List KernelCmd)) (hl:script.length≤1000) (hc:∀x∈script,x.length≤1000) (toP:σ→PlayS) (idx:σ→Int) (v0:σ) (h0:idx v0=0) (hX0:toP v0=playK s script 0)
  (hEnd:∀nx v,idx v=script.length→toP v=playK s script script.length→(toP v).s.Parts.length=s.Parts.length→kP (toP v).s→(∀q∈(toP v).saws,q.length≤1000000)→(∀q∈(toP v).rans,q.length≤1000000)→body nx v=some r)
  (hStep:∀nx v (k:Nat) (h:k<script.length),idx v=k→kP (toP v).s→(toP v).s.Parts.length=s.Parts.length→(toP v).saws.length=s.Parts.length→(toP v).rans.length=s.Parts.length→(∀q∈(toP v).saws,q.length≤1000000)→(∀q∈(toP v).rans,q.length≤1000000)→(∀v',idx v'=(k+1:Nat)→toP v'=tickL k (toP v) script[k]→nx v'=some r)→body nx v=some r) :
  lp body FU v0=some r:=by
 have lens:∀k,k≤script.length→(∀q∈(playK s script k).saws,q.length≤1000*k)∧∀q∈(playK s script k).rans,q.length≤k:=by
  intro k
  induction k with
  | zero=>intro _; exact⟨fun q hq=>by rw[List.eq_of_mem_replicate hq]; simp,fun q hq=>by rw[List.eq_of_mem_replicate hq]; simp⟩
  | succ k ih=>
   intro hk
   obtain⟨a,b⟩:=ih (by omega)
   refine⟨fun q hq=>?_,fun q hq=>?_⟩
   ·have:=asksL_lens (t:=k) (x:=((playK s script k).s,(playK s script k).saws)) a (script.getD k []) q hq
    have hk2:k<script.length:=by omega
    rw[List.getD_eq_getElem?_getD,List.getElem?_eq_getElem hk2] at this
    have h2:=hc _ (List.getElem_mem hk2)
    simp only[Option.getD_some] at this
    omega
   ·have hq:q∈ranStep (ranK (asksL k ((playK s script k).s,(playK s script k).saws) (script.getD k [])).1) (playK s script k).rans:=hq
    unfold ranStep at hq
    obtain⟨i,hi⟩:=List.getElem?_of_mem hq
    rw[List.getElem?_zipWith] at hi
    split at hi
    ·rename_i a' b' ha hb
     cases hi
     rw[List.length_append]
     have:=b a' (List.mem_of_getElem? ha)
     simpa using this
    ·cases hi
 refine lp_inv (fun v=>script.length-(idx v).toNat) (fun v=>∃k:Nat,idx v=k∧k≤script.length∧toP v=playK s script k) ?_ FU _ ⟨0,h0,Nat.zero_le _,hX0⟩ (by unfold FU; omega)
 rintro nx v ⟨k,h1,h2,h3⟩ hnx
 obtain⟨a,b,c,d,e⟩:=playK_ok h script hz k (by omega)
 obtain⟨l1,l2⟩:=lens k h2
 by_cases hk:k<script.length
 ·refine hStep nx v k hk h1 (by rw[h3]; exact a) (by rw[h3]; exact c) (by rw[h3]; exact d) (by rw[h3]; exact e) (fun q hq=>by have:=l1 q (by rw[←h3]; exact hq); omega) (fun q hq=>by have:=l2 q (by rw[←h3]; exact hq); omega) fun v' e1 e2=>hnx v' ⟨k+1,e1,hk,?_⟩ (by rw[e1,h1]; omega)
  rw[e2,h3]
  show tickL k (playK s script k) script[k]=tickL k (playK s script k) (script.getD k [])
  rw[List.getD_eq_getElem?_getD,List.getElem?_eq_getElem hk]; rfl
 ·have e:k=script.length:=by omega
  subst e
  exact hEnd nx v h1 h3 (by rw[h3]; exact c) (by rw[h3]; exact a) (fun q hq=>by have:=l1 q (by rw[←h3]; exact hq); omega) (fun q hq=>by have:=l2 q (by rw[←h3]; exact hq); omega)
/-- One by one the rows of a list are set. -/
theorem set_lp {E:Type} (n:Nat) (hn:n≤1000) (L0 L1:List E) (e0:L0.length=n) (e1:L1.length=n) (toL:σ→List E) (idx:σ→Int) (v0:σ) (h0:idx v0=0) (hX0:toL v0=L0)
  (hEnd:∀nx v,idx v=n→toL v=L1→body nx v=some r)
  (hStep:∀nx v (k:Nat) (h:k<n),idx v=k→(toL v)[k]?=L0[k]?→(toL v).length=n→(∀v',idx v'=(k+1:Nat)→toL v'=(toL v).set k (L1[k]'(by omega))→nx v'=some r)→body nx v=some r) :
  lp body FU v0=some r:=by
 refine lp_inv (fun v=>n-(idx v).toNat) (fun v=>∃k:Nat,idx v=k∧k≤n∧toL v=L1.take k++L0.drop k) ?_ FU _ ⟨0,h0,Nat.zero_le _,by rw[hX0]; simp⟩ (by unfold FU; omega)
 rintro nx v ⟨k,h1,h2,h3⟩ hnx
 by_cases hk:k<n
 ·refine hStep nx v k hk h1 ?_ ?_ fun v' e2 e3=>hnx v' ⟨k+1,e2,hk,?_⟩ (by rw[e2,h1]; omega)
  ·rw[h3,List.getElem?_append_right (by rw[List.length_take]; omega),List.length_take,List.getElem?_drop]
   congr 1; omega
  ·rw[h3,List.length_append,List.length_take,List.length_drop]; omega
  ·rw[e3,h3]
   have hd:L0.drop k=L0[k]'(by omega)::L0.drop (k+1):=List.drop_eq_getElem_cons (by omega)
   rw[hd,List.set_append_right _ _ (by rw[List.length_take]; omega)]
   rw[show k-(L1.take k).length=0 by rw[List.length_take]; omega,List.set_cons_zero]
   rw[←List.take_append_getElem (l:=L1) (i:=k) (by omega),List.append_assoc]; rfl
 ·have e:k=n:=by omega
  subst e
  refine hEnd nx v h1 ?_
  rw[h3,List.take_of_length_le (by omega),List.drop_of_length_le (by omega),List.append_nil]
end
end Go.Proofs.YtldlcdnhdedoeaaGreat
namespace Go.Proofs.YtldlcdnhdedoeaaGreat
open Go Go.VC
theorem list0 {α:Type} {l:List α} (h:l.length=0):l=[]:=by
 match l,h with
 | [],_=>exact rfl
theorem list1 {α:Type} {l:List α} (h:l.length=1):∃a0,l=[a0]:=by
 match l,h with
 | [a0],_=>exact⟨a0,rfl⟩
theorem list2 {α:Type} {l:List α} (h:l.length=2):∃a0 a1,l=[a0,a1]:=by
 match l,h with
 | [a0,a1],_=>exact⟨a0,a1,rfl⟩
theorem list3 {α:Type} {l:List α} (h:l.length=3):∃a0 a1 a2,l=[a0,a1,a2]:=by
 match l,h with
 | [a0,a1,a2],_=>exact⟨a0,a1,a2,rfl⟩
theorem list4 {α:Type} {l:List α} (h:l.length=4):∃a0 a1 a2 a3,l=[a0,a1,a2,a3]:=by
 match l,h with
 | [a0,a1,a2,a3],_=>exact⟨a0,a1,a2,a3,rfl⟩
theorem world_may_eq (l:List (List KernelCmd)) (hl:l.length≤100) (hc:∀x∈l,x.length≤10):world_may l=some true:=by
 unfold world_may
 refine lp_up l.length (by unfold FU; omega) (fun _=>True) trivial ?_
 intro nx k hk _ hnx
 rw[lt_nat]
 by_cases h:k<l.length
 ·have:=hc _ (List.getElem_mem h)
  rw[decide_eq_true h,fk_t,ix_lt h,decide_eq_false (by omega),fk_f,wr_succ k _ h (by omega)]
  exact hnx h trivial
 ·rw[decide_eq_false h,fk_f,decide_eq_true (by omega)]
theorem play0 {s:KernelState} (hs:kP s) (h0:s.Now=0) (hlen:s.Parts.length=0) (script:List (List KernelCmd)) (hl:script.length≤100) (hc:∀x∈script,x.length≤10) {X:Option (List WorldView×Int)} (hX:X=(lp (fun nx88 (v88:Int×(List Window)×(List Face)×(List PartState)×(List PortLine)×Int×Int)=>fk (decide (v88.2.2.2.2.2.2<(script.length:Int))) (ix script v88.2.2.2.2.2.2 fun x89=>lp (fun nx90 (v90:Int×(List Window)×(List Face)×(List PartState)×(List PortLine)×Int×Int)=>fk (decide (v90.2.2.2.2.2.2<(x89.length:Int))) (ix x89 v90.2.2.2.2.2.2 fun x91=>bnd (kernel_Do (⟨⟨v90.1,v90.2.1⟩,v90.2.2.1,v90.2.2.2.1,v90.2.2.2.2.1,v90.2.2.2.2.2.1⟩) x91) fun x92=>jn (fun (w93:Unit)=>nx90 (x92.1.Table.Frame,x92.1.Table.Windows,x92.1.Faces,x92.1.Parts,x92.1.Lines,x92.1.Now,(wr (v90.2.2.2.2.2.2+(1:Int))))) (fun k93=>jn (fun (w94:Bool)=>fk w94 (none) (k93 ())) (fun k94=>fk (decide (x91.Part≥(0:Int))) (k94 (decide (x91.Part<(0:Int)))) (k94 false)))) (bnd (kernel_Tick (⟨⟨v90.1,v90.2.1⟩,v90.2.2.1,v90.2.2.2.1,v90.2.2.2.2.1,v90.2.2.2.2.2.1⟩)) fun x95=>lp (fun nx96 (v96:Unit)=>nx88 (x95.1.Table.Frame,x95.1.Table.Windows,x95.1.Faces,x95.1.Parts,x95.1.Lines,x95.1.Now,(wr (v88.2.2.2.2.2.2+(1:Int))))) FU ())) FU (v88.1,v88.2.1,v88.2.2.1,v88.2.2.2.1,v88.2.2.2.2.1,v88.2.2.2.2.2.1,(0:Int))) (lp (fun nx97 (v97:Unit)=>some (([]:List WorldView),(0:Int))) FU ())) FU (s.Table.Frame,s.Table.Windows,s.Faces,s.Parts,s.Lines,s.Now,(0:Int)))):X=some (viewsL (playK s script script.length),0):=by
 subst hX
 refine out_lp hs h0 script (by omega) (fun x hx=>by have:=hc x hx; omega) (fun v=>⟨(⟨⟨v.1,v.2.1⟩,v.2.2.1,v.2.2.2.1,v.2.2.2.2.1,v.2.2.2.2.2.1⟩:KernelState),[],[]⟩) (fun v=>v.2.2.2.2.2.2) _ rfl (by show PlayS.mk _ _ _=_; unfold playK; rw[hlen]; rfl) ?_ ?_
 ·rintro nx ⟨f,w,fa,pa,li,nw,q⟩ hv hp hn _ _ _
  simp only at hv hp hn
  rw[hlen] at hn
  subst hv
  simp only
  rw[decide_eq_false (by omega),fk_f]
  refine lp_inv (fun _=>0) (fun _=>True) (fun nx v _ _=>?_) FU () trivial (by unfold FU; omega)
  rw[←hp,show pa=[] from list0 hn]; rfl
 ·rintro nx ⟨f,w,fa,pa,li,nw,q⟩ k hk hv kp hn hs2 hr2 lS lR hnx
  simp only at hv kp hn lS lR
  rw[hlen] at hn
  subst hv
  simp only
  rw[decide_eq_true (by omega),fk_t,ix_lt hk]
  refine do_lp (m:=1000000) (k:Int) (⟨⟨f,w⟩,fa,pa,li,nw⟩,[]) script[k] (by have:=hc _ (List.getElem_mem hk); omega) kp lS (fun v=>((⟨⟨v.1,v.2.1⟩,v.2.2.1,v.2.2.2.1,v.2.2.2.2.1,v.2.2.2.2.2.1⟩:KernelState),[])) (fun v=>v.2.2.2.2.2.2) _ rfl rfl ?_ ?_
  ·rintro nx2 ⟨f2,w2,fa2,pa2,li2,nw2,q2⟩ hv2 hX kp2 hl2 hp2
   simp only at hv2 hX kp2 hl2 hp2
   rw[hn] at hp2
   subst hv2
   simp only
   rw[decide_eq_false (by omega),fk_f,bnd_eq (tickK_eq kp2)]
   dsimp only
   have hrl:(ranK ⟨⟨f2,w2⟩,fa2,pa2,li2,nw2⟩).length=0:=by rw[ranK_len]; exact hp2
   refine lp_inv (fun _=>0) (fun _=>True) (fun nx3 v _ _=>?_) FU () trivial (by unfold FU; omega)
   rw[wr_succ k _ hk (by omega)]
   refine hnx _ rfl ?_
   unfold tickL
   dsimp only
   rw[←hX]
   show PlayS.mk _ _ _=PlayS.mk _ _ _
   unfold ranStep
   rfl
  ·rintro nx2 ⟨f2,w2,fa2,pa2,li2,nw2,q2⟩ k2 hk2 hv2 kp2 hl2 lS2 hnx2
   simp only at hv2 kp2 hl2 lS2
   subst hv2
   simp only
   rw[decide_eq_true (by omega),fk_t,ix_lt hk2,bnd_eq (kernel_Do_eq _ _ kp2)]
   generalize hd:doK ⟨⟨f2,w2⟩,fa2,pa2,li2,nw2⟩ script[k][k2]=d
   rw[wr_succ k2 _ hk2 (by have:=hc _ (List.getElem_mem hk); omega)]
   generalize hcc:script[k][k2]=c at hd hnx2 ⊢
   have nxt:∀S,S=sawStep (k:Int) c d.2.1 d.2.2 []→(⟨⟨d.1.Table.Frame,d.1.Table.Windows⟩,d.1.Faces,d.1.Parts,d.1.Lines,d.1.Now⟩,S)=askL (k:Int) (⟨⟨f2,w2⟩,fa2,pa2,li2,nw2⟩,[]) c:=fun S hS=>by unfold askL; dsimp only; rw[hd,hS]
   by_cases q0:0≤c.Part∧c.Part<(0:Int)
   rotate_left
   ·refine jn_to () (fun k1=>jn_to false (fun k4=>?_) ?_) ?_
    ·by_cases z:c.Part≥0
     ·rw[decide_eq_true z,fk_t,decide_eq_false (by omega)]
     ·rw[decide_eq_false z,fk_f]
    ·rw[fk_f]
    ·refine hnx2 _ rfl (nxt _ ?_)
     unfold sawStep
     rw[if_neg (by simp)]
   ·omega
theorem play1 {s:KernelState} (hs:kP s) (h0:s.Now=0) (hlen:s.Parts.length=1) (script:List (List KernelCmd)) (hl:script.length≤100) (hc:∀x∈script,x.length≤10) {X:Option (List WorldView×Int)} (hX:X=(lp (fun nx73 (v73:Int×(List Window)×(List Face)×(List PartState)×(List PortLine)×Int×(List WorldSaw)×(List Int)×Int)=>fk (decide (v73.2.2.2.2.2.2.2.2<(script.length:Int))) (ix script v73.2.2.2.2.2.2.2.2 fun x74=>lp (fun nx75 (v75:Int×(List Window)×(List Face)×(List PartState)×(List PortLine)×Int×(List WorldSaw)×Int)=>fk (decide (v75.2.2.2.2.2.2.2<(x74.length:Int))) (ix x74 v75.2.2.2.2.2.2.2 fun x76=>bnd (kernel_Do (⟨⟨v75.1,v75.2.1⟩,v75.2.2.1,v75.2.2.2.1,v75.2.2.2.2.1,v75.2.2.2.2.2.1⟩) x76) fun x77=>jn (fun (w78:List WorldSaw)=>nx75 (x77.1.Table.Frame,x77.1.Table.Windows,x77.1.Faces,x77.1.Parts,x77.1.Lines,x77.1.Now,w78,(wr (v75.2.2.2.2.2.2.2+(1:Int))))) (fun k78=>jn (fun (w79:Bool)=>fk w79 (fk (decide (x76.Part=(0:Int))) (ck (decide ((v75.2.2.2.2.2.2.1.length+([⟨v73.2.2.2.2.2.2.2.2,x77.2.1,x77.2.2⟩]:List WorldSaw).length)*24≤140737488355328)) (k78 (v75.2.2.2.2.2.2.1++([⟨v73.2.2.2.2.2.2.2.2,x77.2.1,x77.2.2⟩]:List WorldSaw)))) (none)) (k78 v75.2.2.2.2.2.2.1)) (fun k79=>fk (decide (x76.Part≥(0:Int))) (k79 (decide (x76.Part<(1:Int)))) (k79 false)))) (bnd (kernel_Tick (⟨⟨v75.1,v75.2.1⟩,v75.2.2.1,v75.2.2.2.1,v75.2.2.2.2.1,v75.2.2.2.2.2.1⟩)) fun x81=>lp (fun nx82 (v82:(List Int)×Int)=>fk (decide (v82.2<(1:Int))) (fk (decide (v82.2=(0:Int))) (ix x81.2.1 v82.2 fun x84=>ck (decide ((v82.1.length+([x84]:List Int).length)*8≤140737488355328)) (nx82 (v82.1++([x84]:List Int),(wr (v82.2+(1:Int)))))) (none)) (nx73 (x81.1.Table.Frame,x81.1.Table.Windows,x81.1.Faces,x81.1.Parts,x81.1.Lines,x81.1.Now,v75.2.2.2.2.2.2.1,v82.1,(wr (v73.2.2.2.2.2.2.2.2+(1:Int)))))) FU (v73.2.2.2.2.2.2.2.1,(0:Int)))) FU (v73.1,v73.2.1,v73.2.2.1,v73.2.2.2.1,v73.2.2.2.2.1,v73.2.2.2.2.2.1,v73.2.2.2.2.2.2.1,(0:Int))) (lp (fun nx85 (v85:(List Entry)×Int)=>fk (decide (v85.2<(1:Int))) (ix v73.2.2.2.1 v85.2 fun x86=>fk (decide (v85.2=(0:Int))) (nx85 (x86.Log,(wr (v85.2+(1:Int))))) (none)) (some (([⟨v73.2.2.2.2.2.2.1,v73.2.2.2.2.2.2.2.1,v85.1⟩]:List WorldView),(0:Int)))) FU ([],(0:Int)))) FU (s.Table.Frame,s.Table.Windows,s.Faces,s.Parts,s.Lines,s.Now,[],[],(0:Int)))):X=some (viewsL (playK s script script.length),0):=by
 subst hX
 refine out_lp hs h0 script (by omega) (fun x hx=>by have:=hc x hx; omega) (fun v=>⟨(⟨⟨v.1,v.2.1⟩,v.2.2.1,v.2.2.2.1,v.2.2.2.2.1,v.2.2.2.2.2.1⟩:KernelState),[v.2.2.2.2.2.2.1],[v.2.2.2.2.2.2.2.1]⟩) (fun v=>v.2.2.2.2.2.2.2.2) _ rfl (by show PlayS.mk _ _ _=_; unfold playK; rw[hlen]; rfl) ?_ ?_
 ·rintro nx ⟨f,w,fa,pa,li,nw,s0,r0,q⟩ hv hp hn _ _ _
  simp only at hv hp hn
  rw[hlen] at hn
  subst hv
  simp only
  rw[decide_eq_false (by omega),fk_f]
  obtain⟨p0,rfl⟩:=list1 hn
  refine set_lp 1 (by decide) [([]:List Entry)] [p0.Log] rfl rfl (fun v=>[v.1]) (fun v=>v.2) _ rfl rfl ?_ ?_
  ·rintro nx2 ⟨l0,q2⟩ hv2 hL
   simp only at hv2 hL
   subst hv2
   simp only[List.cons.injEq,and_true] at hL
   obtain rfl:=hL
   simp only
   rw[decide_eq_false (by decide),fk_f,←hp]; rfl
  ·rintro nx2 ⟨l0,q2⟩ k hk hv2 _ _ hnx2
   simp only at hv2
   subst hv2
   have hk2:k=0:=by omega
   rcases hk2 with rfl
   ·exact hnx2 (p0.Log,((1:Nat):Int)) rfl rfl
 ·rintro nx ⟨f,w,fa,pa,li,nw,s0,r0,q⟩ k hk hv kp hn hs2 hr2 lS lR hnx
  simp only at hv kp hn lS lR
  rw[hlen] at hn
  subst hv
  simp only
  rw[decide_eq_true (by omega),fk_t,ix_lt hk]
  refine do_lp (m:=1000000) (k:Int) (⟨⟨f,w⟩,fa,pa,li,nw⟩,[s0]) script[k] (by have:=hc _ (List.getElem_mem hk); omega) kp lS (fun v=>((⟨⟨v.1,v.2.1⟩,v.2.2.1,v.2.2.2.1,v.2.2.2.2.1,v.2.2.2.2.2.1⟩:KernelState),[v.2.2.2.2.2.2.1])) (fun v=>v.2.2.2.2.2.2.2) _ rfl rfl ?_ ?_
  ·rintro nx2 ⟨f2,w2,fa2,pa2,li2,nw2,t0,q2⟩ hv2 hX kp2 hl2 hp2
   simp only at hv2 hX kp2 hl2 hp2
   rw[hn] at hp2
   subst hv2
   simp only
   rw[decide_eq_false (by omega),fk_f,bnd_eq (tickK_eq kp2)]
   dsimp only
   have hrl:(ranK ⟨⟨f2,w2⟩,fa2,pa2,li2,nw2⟩).length=1:=by rw[ranK_len]; exact hp2
   obtain⟨y0,hy⟩:=list1 hrl
   rw[hy]
   refine set_lp 1 (by decide) [r0] [r0++[y0]] rfl rfl (fun v=>[v.1]) (fun v=>v.2) _ rfl rfl ?_ ?_
   ·rintro nx3 ⟨u0,q3⟩ hv3 hL
    simp only at hv3 hL
    subst hv3
    simp only[List.cons.injEq,and_true] at hL
    obtain rfl:=hL
    simp only
    rw[decide_eq_false (by decide),fk_f]
    rw[wr_succ k _ hk (by omega)]
    refine hnx _ rfl ?_
    unfold tickL
    dsimp only
    rw[←hX,hy]
    rfl
   ·rintro nx3 ⟨u0,q3⟩ k3 hk3 hv3 hg _ hnx3
    simp only at hv3 hg
    subst hv3
    have hk2:k3=0:=by omega
    rcases hk2 with rfl
    ·have hu:u0=r0:=Option.some.inj hg
     subst hu
     have hlen9:u0.length≤1000000000:=by have:=lR u0 (by simp); omega
     exact (ck_le 8 (by decide) hlen9).trans (hnx3 (u0++[y0],((1:Nat):Int)) rfl rfl)
  ·rintro nx2 ⟨f2,w2,fa2,pa2,li2,nw2,t0,q2⟩ k2 hk2 hv2 kp2 hl2 lS2 hnx2
   simp only at hv2 kp2 hl2 lS2
   subst hv2
   simp only
   rw[decide_eq_true (by omega),fk_t,ix_lt hk2,bnd_eq (kernel_Do_eq _ _ kp2)]
   generalize hd:doK ⟨⟨f2,w2⟩,fa2,pa2,li2,nw2⟩ script[k][k2]=d
   rw[wr_succ k2 _ hk2 (by have:=hc _ (List.getElem_mem hk); omega)]
   generalize hcc:script[k][k2]=c at hd hnx2 ⊢
   have nxt:∀S,S=sawStep (k:Int) c d.2.1 d.2.2 [t0]→(⟨⟨d.1.Table.Frame,d.1.Table.Windows⟩,d.1.Faces,d.1.Parts,d.1.Lines,d.1.Now⟩,S)=askL (k:Int) (⟨⟨f2,w2⟩,fa2,pa2,li2,nw2⟩,[t0]) c:=fun S hS=>by unfold askL; dsimp only; rw[hd,hS]
   by_cases q0:0≤c.Part∧c.Part<(1:Int)
   rotate_left
   ·refine jn_to t0 (fun k1=>jn_to false (fun k4=>?_) ?_) ?_
    ·by_cases z:c.Part≥0
     ·rw[decide_eq_true z,fk_t,decide_eq_false (by omega)]
     ·rw[decide_eq_false z,fk_f]
    ·rw[fk_f]
    ·refine hnx2 _ rfl (nxt _ ?_)
     unfold sawStep
     rw[if_neg (by simpa using q0)]
   have hi:c.Part=0:=by omega
   rcases hi with hi
   ·refine jn_to (t0++[⟨(k:Int),d.2.1,d.2.2⟩]) (fun k1=>jn_to true (fun k4=>?_) ?_) ?_
    ·rw[decide_eq_true (by omega),fk_t,decide_eq_true (by omega)]
    ·rw[fk_t]
     rw[decide_eq_true (p:=c.Part=(0:Int)) hi,fk_t]
     exact ck_le 24 (by decide) (by have:=lS2 t0 (by simp); omega)
    ·refine hnx2 _ rfl (nxt _ ?_)
     unfold sawStep
     rw[if_pos (by simpa using q0),hi]; rfl
theorem play2 {s:KernelState} (hs:kP s) (h0:s.Now=0) (hlen:s.Parts.length=2) (script:List (List KernelCmd)) (hl:script.length≤100) (hc:∀x∈script,x.length≤10) {X:Option (List WorldView×Int)} (hX:X=(lp (fun nx54 (v54:Int×(List Window)×(List Face)×(List PartState)×(List PortLine)×Int×(List WorldSaw)×(List Int)×(List WorldSaw)×(List Int)×Int)=>fk (decide (v54.2.2.2.2.2.2.2.2.2.2<(script.length:Int))) (ix script v54.2.2.2.2.2.2.2.2.2.2 fun x55=>lp (fun nx56 (v56:Int×(List Window)×(List Face)×(List PartState)×(List PortLine)×Int×(List WorldSaw)×(List WorldSaw)×Int)=>fk (decide (v56.2.2.2.2.2.2.2.2<(x55.length:Int))) (ix x55 v56.2.2.2.2.2.2.2.2 fun x57=>bnd (kernel_Do (⟨⟨v56.1,v56.2.1⟩,v56.2.2.1,v56.2.2.2.1,v56.2.2.2.2.1,v56.2.2.2.2.2.1⟩) x57) fun x58=>jn (fun (w59:(List WorldSaw)×(List WorldSaw))=>nx56 (x58.1.Table.Frame,x58.1.Table.Windows,x58.1.Faces,x58.1.Parts,x58.1.Lines,x58.1.Now,w59.1,w59.2,(wr (v56.2.2.2.2.2.2.2.2+(1:Int))))) (fun k59=>jn (fun (w60:Bool)=>fk w60 (fk (decide (x57.Part=(0:Int))) (ck (decide ((v56.2.2.2.2.2.2.1.length+([⟨v54.2.2.2.2.2.2.2.2.2.2,x58.2.1,x58.2.2⟩]:List WorldSaw).length)*24≤140737488355328)) (k59 (v56.2.2.2.2.2.2.1++([⟨v54.2.2.2.2.2.2.2.2.2.2,x58.2.1,x58.2.2⟩]:List WorldSaw),v56.2.2.2.2.2.2.2.1))) (fk (decide (x57.Part=(1:Int))) (ck (decide ((v56.2.2.2.2.2.2.2.1.length+([⟨v54.2.2.2.2.2.2.2.2.2.2,x58.2.1,x58.2.2⟩]:List WorldSaw).length)*24≤140737488355328)) (k59 (v56.2.2.2.2.2.2.1,v56.2.2.2.2.2.2.2.1++([⟨v54.2.2.2.2.2.2.2.2.2.2,x58.2.1,x58.2.2⟩]:List WorldSaw)))) (none))) (k59 (v56.2.2.2.2.2.2.1,v56.2.2.2.2.2.2.2.1))) (fun k60=>fk (decide (x57.Part≥(0:Int))) (k60 (decide (x57.Part<(2:Int)))) (k60 false)))) (bnd (kernel_Tick (⟨⟨v56.1,v56.2.1⟩,v56.2.2.1,v56.2.2.2.1,v56.2.2.2.2.1,v56.2.2.2.2.2.1⟩)) fun x63=>lp (fun nx64 (v64:(List Int)×(List Int)×Int)=>fk (decide (v64.2.2<(2:Int))) (fk (decide (v64.2.2=(0:Int))) (ix x63.2.1 v64.2.2 fun x68=>ck (decide ((v64.1.length+([x68]:List Int).length)*8≤140737488355328)) (nx64 (v64.1++([x68]:List Int),v64.2.1,(wr (v64.2.2+(1:Int)))))) (fk (decide (v64.2.2=(1:Int))) (ix x63.2.1 v64.2.2 fun x67=>ck (decide ((v64.2.1.length+([x67]:List Int).length)*8≤140737488355328)) (nx64 (v64.1,v64.2.1++([x67]:List Int),(wr (v64.2.2+(1:Int)))))) (none))) (nx54 (x63.1.Table.Frame,x63.1.Table.Windows,x63.1.Faces,x63.1.Parts,x63.1.Lines,x63.1.Now,v56.2.2.2.2.2.2.1,v64.1,v56.2.2.2.2.2.2.2.1,v64.2.1,(wr (v54.2.2.2.2.2.2.2.2.2.2+(1:Int)))))) FU (v54.2.2.2.2.2.2.2.1,v54.2.2.2.2.2.2.2.2.2.1,(0:Int)))) FU (v54.1,v54.2.1,v54.2.2.1,v54.2.2.2.1,v54.2.2.2.2.1,v54.2.2.2.2.2.1,v54.2.2.2.2.2.2.1,v54.2.2.2.2.2.2.2.2.1,(0:Int))) (lp (fun nx69 (v69:(List Entry)×(List Entry)×Int)=>fk (decide (v69.2.2<(2:Int))) (ix v54.2.2.2.1 v69.2.2 fun x70=>fk (decide (v69.2.2=(0:Int))) (nx69 (x70.Log,v69.2.1,(wr (v69.2.2+(1:Int))))) (fk (decide (v69.2.2=(1:Int))) (nx69 (v69.1,x70.Log,(wr (v69.2.2+(1:Int))))) (none))) (some (([⟨v54.2.2.2.2.2.2.1,v54.2.2.2.2.2.2.2.1,v69.1⟩,⟨v54.2.2.2.2.2.2.2.2.1,v54.2.2.2.2.2.2.2.2.2.1,v69.2.1⟩]:List WorldView),(0:Int)))) FU ([],[],(0:Int)))) FU (s.Table.Frame,s.Table.Windows,s.Faces,s.Parts,s.Lines,s.Now,[],[],[],[],(0:Int)))):X=some (viewsL (playK s script script.length),0):=by
 subst hX
 refine out_lp hs h0 script (by omega) (fun x hx=>by have:=hc x hx; omega) (fun v=>⟨(⟨⟨v.1,v.2.1⟩,v.2.2.1,v.2.2.2.1,v.2.2.2.2.1,v.2.2.2.2.2.1⟩:KernelState),[v.2.2.2.2.2.2.1,v.2.2.2.2.2.2.2.2.1],[v.2.2.2.2.2.2.2.1,v.2.2.2.2.2.2.2.2.2.1]⟩) (fun v=>v.2.2.2.2.2.2.2.2.2.2) _ rfl (by show PlayS.mk _ _ _=_; unfold playK; rw[hlen]; rfl) ?_ ?_
 ·rintro nx ⟨f,w,fa,pa,li,nw,s0,r0,s1,r1,q⟩ hv hp hn _ _ _
  simp only at hv hp hn
  rw[hlen] at hn
  subst hv
  simp only
  rw[decide_eq_false (by omega),fk_f]
  obtain⟨p0,p1,rfl⟩:=list2 hn
  refine set_lp 2 (by decide) [([]:List Entry),([]:List Entry)] [p0.Log,p1.Log] rfl rfl (fun v=>[v.1,v.2.1]) (fun v=>v.2.2) _ rfl rfl ?_ ?_
  ·rintro nx2 ⟨l0,l1,q2⟩ hv2 hL
   simp only at hv2 hL
   subst hv2
   simp only[List.cons.injEq,and_true] at hL
   obtain⟨rfl,rfl⟩:=hL
   simp only
   rw[decide_eq_false (by decide),fk_f,←hp]; rfl
  ·rintro nx2 ⟨l0,l1,q2⟩ k hk hv2 _ _ hnx2
   simp only at hv2
   subst hv2
   have hk2:k=0∨k=1:=by omega
   rcases hk2 with rfl | rfl
   ·exact hnx2 (p0.Log,l1,((1:Nat):Int)) rfl rfl
   ·exact hnx2 (l0,p1.Log,((2:Nat):Int)) rfl rfl
 ·rintro nx ⟨f,w,fa,pa,li,nw,s0,r0,s1,r1,q⟩ k hk hv kp hn hs2 hr2 lS lR hnx
  simp only at hv kp hn lS lR
  rw[hlen] at hn
  subst hv
  simp only
  rw[decide_eq_true (by omega),fk_t,ix_lt hk]
  refine do_lp (m:=1000000) (k:Int) (⟨⟨f,w⟩,fa,pa,li,nw⟩,[s0,s1]) script[k] (by have:=hc _ (List.getElem_mem hk); omega) kp lS (fun v=>((⟨⟨v.1,v.2.1⟩,v.2.2.1,v.2.2.2.1,v.2.2.2.2.1,v.2.2.2.2.2.1⟩:KernelState),[v.2.2.2.2.2.2.1,v.2.2.2.2.2.2.2.1])) (fun v=>v.2.2.2.2.2.2.2.2) _ rfl rfl ?_ ?_
  ·rintro nx2 ⟨f2,w2,fa2,pa2,li2,nw2,t0,t1,q2⟩ hv2 hX kp2 hl2 hp2
   simp only at hv2 hX kp2 hl2 hp2
   rw[hn] at hp2
   subst hv2
   simp only
   rw[decide_eq_false (by omega),fk_f,bnd_eq (tickK_eq kp2)]
   dsimp only
   have hrl:(ranK ⟨⟨f2,w2⟩,fa2,pa2,li2,nw2⟩).length=2:=by rw[ranK_len]; exact hp2
   obtain⟨y0,y1,hy⟩:=list2 hrl
   rw[hy]
   refine set_lp 2 (by decide) [r0,r1] [r0++[y0],r1++[y1]] rfl rfl (fun v=>[v.1,v.2.1]) (fun v=>v.2.2) _ rfl rfl ?_ ?_
   ·rintro nx3 ⟨u0,u1,q3⟩ hv3 hL
    simp only at hv3 hL
    subst hv3
    simp only[List.cons.injEq,and_true] at hL
    obtain⟨rfl,rfl⟩:=hL
    simp only
    rw[decide_eq_false (by decide),fk_f]
    rw[wr_succ k _ hk (by omega)]
    refine hnx _ rfl ?_
    unfold tickL
    dsimp only
    rw[←hX,hy]
    rfl
   ·rintro nx3 ⟨u0,u1,q3⟩ k3 hk3 hv3 hg _ hnx3
    simp only at hv3 hg
    subst hv3
    have hk2:k3=0∨k3=1:=by omega
    rcases hk2 with rfl | rfl
    ·have hu:u0=r0:=Option.some.inj hg
     subst hu
     have hlen9:u0.length≤1000000000:=by have:=lR u0 (by simp); omega
     exact (ck_le 8 (by decide) hlen9).trans (hnx3 (u0++[y0],u1,((1:Nat):Int)) rfl rfl)
    ·have hu:u1=r1:=Option.some.inj hg
     subst hu
     have hlen9:u1.length≤1000000000:=by have:=lR u1 (by simp); omega
     exact (ck_le 8 (by decide) hlen9).trans (hnx3 (u0,u1++[y1],((2:Nat):Int)) rfl rfl)
  ·rintro nx2 ⟨f2,w2,fa2,pa2,li2,nw2,t0,t1,q2⟩ k2 hk2 hv2 kp2 hl2 lS2 hnx2
   simp only at hv2 kp2 hl2 lS2
   subst hv2
   simp only
   rw[decide_eq_true (by omega),fk_t,ix_lt hk2,bnd_eq (kernel_Do_eq _ _ kp2)]
   generalize hd:doK ⟨⟨f2,w2⟩,fa2,pa2,li2,nw2⟩ script[k][k2]=d
   rw[wr_succ k2 _ hk2 (by have:=hc _ (List.getElem_mem hk); omega)]
   generalize hcc:script[k][k2]=c at hd hnx2 ⊢
   have nxt:∀S,S=sawStep (k:Int) c d.2.1 d.2.2 [t0,t1]→(⟨⟨d.1.Table.Frame,d.1.Table.Windows⟩,d.1.Faces,d.1.Parts,d.1.Lines,d.1.Now⟩,S)=askL (k:Int) (⟨⟨f2,w2⟩,fa2,pa2,li2,nw2⟩,[t0,t1]) c:=fun S hS=>by unfold askL; dsimp only; rw[hd,hS]
   by_cases q0:0≤c.Part∧c.Part<(2:Int)
   rotate_left
   ·refine jn_to (t0,t1) (fun k1=>jn_to false (fun k4=>?_) ?_) ?_
    ·by_cases z:c.Part≥0
     ·rw[decide_eq_true z,fk_t,decide_eq_false (by omega)]
     ·rw[decide_eq_false z,fk_f]
    ·rw[fk_f]
    ·refine hnx2 _ rfl (nxt _ ?_)
     unfold sawStep
     rw[if_neg (by simpa using q0)]
   have hi:c.Part=0∨c.Part=1:=by omega
   rcases hi with hi | hi
   ·refine jn_to (t0++[⟨(k:Int),d.2.1,d.2.2⟩],t1) (fun k1=>jn_to true (fun k4=>?_) ?_) ?_
    ·rw[decide_eq_true (by omega),fk_t,decide_eq_true (by omega)]
    ·rw[fk_t]
     rw[decide_eq_true (p:=c.Part=(0:Int)) hi,fk_t]
     exact ck_le 24 (by decide) (by have:=lS2 t0 (by simp); omega)
    ·refine hnx2 _ rfl (nxt _ ?_)
     unfold sawStep
     rw[if_pos (by simpa using q0),hi]; rfl
   ·refine jn_to (t0,t1++[⟨(k:Int),d.2.1,d.2.2⟩]) (fun k1=>jn_to true (fun k4=>?_) ?_) ?_
    ·rw[decide_eq_true (by omega),fk_t,decide_eq_true (by omega)]
    ·rw[fk_t]
     rw[decide_eq_false (p:=c.Part=(0:Int)) (by omega),fk_f]
     rw[decide_eq_true (p:=c.Part=(1:Int)) hi,fk_t]
     exact ck_le 24 (by decide) (by have:=lS2 t1 (by simp); omega)
    ·refine hnx2 _ rfl (nxt _ ?_)
     unfold sawStep
     rw[if_pos (by simpa using q0),hi]; rfl
theorem play3 {s:KernelState} (hs:kP s) (h0:s.Now=0) (hlen:s.Parts.length=3) (script:List (List KernelCmd)) (hl:script.length≤100) (hc:∀x∈script,x.length≤10) {X:Option (List WorldView×Int)} (hX:X=(lp (fun nx31 (v31:Int×(List Window)×(List Face)×(List PartState)×(List PortLine)×Int×(List WorldSaw)×(List Int)×(List WorldSaw)×(List Int)×(List WorldSaw)×(List Int)×Int)=>fk (decide (v31.2.2.2.2.2.2.2.2.2.2.2.2<(script.length:Int))) (ix script v31.2.2.2.2.2.2.2.2.2.2.2.2 fun x32=>lp (fun nx33 (v33:Int×(List Window)×(List Face)×(List PartState)×(List PortLine)×Int×(List WorldSaw)×(List WorldSaw)×(List WorldSaw)×Int)=>fk (decide (v33.2.2.2.2.2.2.2.2.2<(x32.length:Int))) (ix x32 v33.2.2.2.2.2.2.2.2.2 fun x34=>bnd (kernel_Do (⟨⟨v33.1,v33.2.1⟩,v33.2.2.1,v33.2.2.2.1,v33.2.2.2.2.1,v33.2.2.2.2.2.1⟩) x34) fun x35=>jn (fun (w36:(List WorldSaw)×(List WorldSaw)×(List WorldSaw))=>nx33 (x35.1.Table.Frame,x35.1.Table.Windows,x35.1.Faces,x35.1.Parts,x35.1.Lines,x35.1.Now,w36.1,w36.2.1,w36.2.2,(wr (v33.2.2.2.2.2.2.2.2.2+(1:Int))))) (fun k36=>jn (fun (w37:Bool)=>fk w37 (fk (decide (x34.Part=(0:Int))) (ck (decide ((v33.2.2.2.2.2.2.1.length+([⟨v31.2.2.2.2.2.2.2.2.2.2.2.2,x35.2.1,x35.2.2⟩]:List WorldSaw).length)*24≤140737488355328)) (k36 (v33.2.2.2.2.2.2.1++([⟨v31.2.2.2.2.2.2.2.2.2.2.2.2,x35.2.1,x35.2.2⟩]:List WorldSaw),v33.2.2.2.2.2.2.2.1,v33.2.2.2.2.2.2.2.2.1))) (fk (decide (x34.Part=(1:Int))) (ck (decide ((v33.2.2.2.2.2.2.2.1.length+([⟨v31.2.2.2.2.2.2.2.2.2.2.2.2,x35.2.1,x35.2.2⟩]:List WorldSaw).length)*24≤140737488355328)) (k36 (v33.2.2.2.2.2.2.1,v33.2.2.2.2.2.2.2.1++([⟨v31.2.2.2.2.2.2.2.2.2.2.2.2,x35.2.1,x35.2.2⟩]:List WorldSaw),v33.2.2.2.2.2.2.2.2.1))) (fk (decide (x34.Part=(2:Int))) (ck (decide ((v33.2.2.2.2.2.2.2.2.1.length+([⟨v31.2.2.2.2.2.2.2.2.2.2.2.2,x35.2.1,x35.2.2⟩]:List WorldSaw).length)*24≤140737488355328)) (k36 (v33.2.2.2.2.2.2.1,v33.2.2.2.2.2.2.2.1,v33.2.2.2.2.2.2.2.2.1++([⟨v31.2.2.2.2.2.2.2.2.2.2.2.2,x35.2.1,x35.2.2⟩]:List WorldSaw)))) (none)))) (k36 (v33.2.2.2.2.2.2.1,v33.2.2.2.2.2.2.2.1,v33.2.2.2.2.2.2.2.2.1))) (fun k37=>fk (decide (x34.Part≥(0:Int))) (k37 (decide (x34.Part<(3:Int)))) (k37 false)))) (bnd (kernel_Tick (⟨⟨v33.1,v33.2.1⟩,v33.2.2.1,v33.2.2.2.1,v33.2.2.2.2.1,v33.2.2.2.2.2.1⟩)) fun x41=>lp (fun nx42 (v42:(List Int)×(List Int)×(List Int)×Int)=>fk (decide (v42.2.2.2<(3:Int))) (fk (decide (v42.2.2.2=(0:Int))) (ix x41.2.1 v42.2.2.2 fun x48=>ck (decide ((v42.1.length+([x48]:List Int).length)*8≤140737488355328)) (nx42 (v42.1++([x48]:List Int),v42.2.1,v42.2.2.1,(wr (v42.2.2.2+(1:Int)))))) (fk (decide (v42.2.2.2=(1:Int))) (ix x41.2.1 v42.2.2.2 fun x47=>ck (decide ((v42.2.1.length+([x47]:List Int).length)*8≤140737488355328)) (nx42 (v42.1,v42.2.1++([x47]:List Int),v42.2.2.1,(wr (v42.2.2.2+(1:Int)))))) (fk (decide (v42.2.2.2=(2:Int))) (ix x41.2.1 v42.2.2.2 fun x46=>ck (decide ((v42.2.2.1.length+([x46]:List Int).length)*8≤140737488355328)) (nx42 (v42.1,v42.2.1,v42.2.2.1++([x46]:List Int),(wr (v42.2.2.2+(1:Int)))))) (none)))) (nx31 (x41.1.Table.Frame,x41.1.Table.Windows,x41.1.Faces,x41.1.Parts,x41.1.Lines,x41.1.Now,v33.2.2.2.2.2.2.1,v42.1,v33.2.2.2.2.2.2.2.1,v42.2.1,v33.2.2.2.2.2.2.2.2.1,v42.2.2.1,(wr (v31.2.2.2.2.2.2.2.2.2.2.2.2+(1:Int)))))) FU (v31.2.2.2.2.2.2.2.1,v31.2.2.2.2.2.2.2.2.2.1,v31.2.2.2.2.2.2.2.2.2.2.2.1,(0:Int)))) FU (v31.1,v31.2.1,v31.2.2.1,v31.2.2.2.1,v31.2.2.2.2.1,v31.2.2.2.2.2.1,v31.2.2.2.2.2.2.1,v31.2.2.2.2.2.2.2.2.1,v31.2.2.2.2.2.2.2.2.2.2.1,(0:Int))) (lp (fun nx49 (v49:(List Entry)×(List Entry)×(List Entry)×Int)=>fk (decide (v49.2.2.2<(3:Int))) (ix v31.2.2.2.1 v49.2.2.2 fun x50=>fk (decide (v49.2.2.2=(0:Int))) (nx49 (x50.Log,v49.2.1,v49.2.2.1,(wr (v49.2.2.2+(1:Int))))) (fk (decide (v49.2.2.2=(1:Int))) (nx49 (v49.1,x50.Log,v49.2.2.1,(wr (v49.2.2.2+(1:Int))))) (fk (decide (v49.2.2.2=(2:Int))) (nx49 (v49.1,v49.2.1,x50.Log,(wr (v49.2.2.2+(1:Int))))) (none)))) (some (([⟨v31.2.2.2.2.2.2.1,v31.2.2.2.2.2.2.2.1,v49.1⟩,⟨v31.2.2.2.2.2.2.2.2.1,v31.2.2.2.2.2.2.2.2.2.1,v49.2.1⟩,⟨v31.2.2.2.2.2.2.2.2.2.2.1,v31.2.2.2.2.2.2.2.2.2.2.2.1,v49.2.2.1⟩]:List WorldView),(0:Int)))) FU ([],[],[],(0:Int)))) FU (s.Table.Frame,s.Table.Windows,s.Faces,s.Parts,s.Lines,s.Now,[],[],[],[],[],[],(0:Int)))):X=some (viewsL (playK s script script.length),0):=by
 subst hX
 refine out_lp hs h0 script (by omega) (fun x hx=>by have:=hc x hx; omega) (fun v=>⟨(⟨⟨v.1,v.2.1⟩,v.2.2.1,v.2.2.2.1,v.2.2.2.2.1,v.2.2.2.2.2.1⟩:KernelState),[v.2.2.2.2.2.2.1,v.2.2.2.2.2.2.2.2.1,v.2.2.2.2.2.2.2.2.2.2.1],[v.2.2.2.2.2.2.2.1,v.2.2.2.2.2.2.2.2.2.1,v.2.2.2.2.2.2.2.2.2.2.2.1]⟩) (fun v=>v.2.2.2.2.2.2.2.2.2.2.2.2) _ rfl (by show PlayS.mk _ _ _=_; unfold playK; rw[hlen]; rfl) ?_ ?_
 ·rintro nx ⟨f,w,fa,pa,li,nw,s0,r0,s1,r1,s2,r2,q⟩ hv hp hn _ _ _
  simp only at hv hp hn
  rw[hlen] at hn
  subst hv
  simp only
  rw[decide_eq_false (by omega),fk_f]
  obtain⟨p0,p1,p2,rfl⟩:=list3 hn
  refine set_lp 3 (by decide) [([]:List Entry),([]:List Entry),([]:List Entry)] [p0.Log,p1.Log,p2.Log] rfl rfl (fun v=>[v.1,v.2.1,v.2.2.1]) (fun v=>v.2.2.2) _ rfl rfl ?_ ?_
  ·rintro nx2 ⟨l0,l1,l2,q2⟩ hv2 hL
   simp only at hv2 hL
   subst hv2
   simp only[List.cons.injEq,and_true] at hL
   obtain⟨rfl,rfl,rfl⟩:=hL
   simp only
   rw[decide_eq_false (by decide),fk_f,←hp]; rfl
  ·rintro nx2 ⟨l0,l1,l2,q2⟩ k hk hv2 _ _ hnx2
   simp only at hv2
   subst hv2
   have hk2:k=0∨k=1∨k=2:=by omega
   rcases hk2 with rfl | rfl | rfl
   ·exact hnx2 (p0.Log,l1,l2,((1:Nat):Int)) rfl rfl
   ·exact hnx2 (l0,p1.Log,l2,((2:Nat):Int)) rfl rfl
   ·exact hnx2 (l0,l1,p2.Log,((3:Nat):Int)) rfl rfl
 ·rintro nx ⟨f,w,fa,pa,li,nw,s0,r0,s1,r1,s2,r2,q⟩ k hk hv kp hn hs2 hr2 lS lR hnx
  simp only at hv kp hn lS lR
  rw[hlen] at hn
  subst hv
  simp only
  rw[decide_eq_true (by omega),fk_t,ix_lt hk]
  refine do_lp (m:=1000000) (k:Int) (⟨⟨f,w⟩,fa,pa,li,nw⟩,[s0,s1,s2]) script[k] (by have:=hc _ (List.getElem_mem hk); omega) kp lS (fun v=>((⟨⟨v.1,v.2.1⟩,v.2.2.1,v.2.2.2.1,v.2.2.2.2.1,v.2.2.2.2.2.1⟩:KernelState),[v.2.2.2.2.2.2.1,v.2.2.2.2.2.2.2.1,v.2.2.2.2.2.2.2.2.1])) (fun v=>v.2.2.2.2.2.2.2.2.2) _ rfl rfl ?_ ?_
  ·rintro nx2 ⟨f2,w2,fa2,pa2,li2,nw2,t0,t1,t2,q2⟩ hv2 hX kp2 hl2 hp2
   simp only at hv2 hX kp2 hl2 hp2
   rw[hn] at hp2
   subst hv2
   simp only
   rw[decide_eq_false (by omega),fk_f,bnd_eq (tickK_eq kp2)]
   dsimp only
   have hrl:(ranK ⟨⟨f2,w2⟩,fa2,pa2,li2,nw2⟩).length=3:=by rw[ranK_len]; exact hp2
   obtain⟨y0,y1,y2,hy⟩:=list3 hrl
   rw[hy]
   refine set_lp 3 (by decide) [r0,r1,r2] [r0++[y0],r1++[y1],r2++[y2]] rfl rfl (fun v=>[v.1,v.2.1,v.2.2.1]) (fun v=>v.2.2.2) _ rfl rfl ?_ ?_
   ·rintro nx3 ⟨u0,u1,u2,q3⟩ hv3 hL
    simp only at hv3 hL
    subst hv3
    simp only[List.cons.injEq,and_true] at hL
    obtain⟨rfl,rfl,rfl⟩:=hL
    simp only
    rw[decide_eq_false (by decide),fk_f]
    rw[wr_succ k _ hk (by omega)]
    refine hnx _ rfl ?_
    unfold tickL
    dsimp only
    rw[←hX,hy]
    rfl
   ·rintro nx3 ⟨u0,u1,u2,q3⟩ k3 hk3 hv3 hg _ hnx3
    simp only at hv3 hg
    subst hv3
    have hk2:k3=0∨k3=1∨k3=2:=by omega
    rcases hk2 with rfl | rfl | rfl
    ·have hu:u0=r0:=Option.some.inj hg
     subst hu
     have hlen9:u0.length≤1000000000:=by have:=lR u0 (by simp); omega
     exact (ck_le 8 (by decide) hlen9).trans (hnx3 (u0++[y0],u1,u2,((1:Nat):Int)) rfl rfl)
    ·have hu:u1=r1:=Option.some.inj hg
     subst hu
     have hlen9:u1.length≤1000000000:=by have:=lR u1 (by simp); omega
     exact (ck_le 8 (by decide) hlen9).trans (hnx3 (u0,u1++[y1],u2,((2:Nat):Int)) rfl rfl)
    ·have hu:u2=r2:=Option.some.inj hg
     subst hu
     have hlen9:u2.length≤1000000000:=by have:=lR u2 (by simp); omega
     exact (ck_le 8 (by decide) hlen9).trans (hnx3 (u0,u1,u2++[y2],((3:Nat):Int)) rfl rfl)
  ·rintro nx2 ⟨f2,w2,fa2,pa2,li2,nw2,t0,t1,t2,q2⟩ k2 hk2 hv2 kp2 hl2 lS2 hnx2
   simp only at hv2 kp2 hl2 lS2
   subst hv2
   simp only
   rw[decide_eq_true (by omega),fk_t,ix_lt hk2,bnd_eq (kernel_Do_eq _ _ kp2)]
   generalize hd:doK ⟨⟨f2,w2⟩,fa2,pa2,li2,nw2⟩ script[k][k2]=d
   rw[wr_succ k2 _ hk2 (by have:=hc _ (List.getElem_mem hk); omega)]
   generalize hcc:script[k][k2]=c at hd hnx2 ⊢
   have nxt:∀S,S=sawStep (k:Int) c d.2.1 d.2.2 [t0,t1,t2]→(⟨⟨d.1.Table.Frame,d.1.Table.Windows⟩,d.1.Faces,d.1.Parts,d.1.Lines,d.1.Now⟩,S)=askL (k:Int) (⟨⟨f2,w2⟩,fa2,pa2,li2,nw2⟩,[t0,t1,t2]) c:=fun S hS=>by unfold askL; dsimp only; rw[hd,hS]
   by_cases q0:0≤c.Part∧c.Part<(3:Int)
   rotate_left
   ·refine jn_to (t0,t1,t2) (fun k1=>jn_to false (fun k4=>?_) ?_) ?_
    ·by_cases z:c.Part≥0
     ·rw[decide_eq_true z,fk_t,decide_eq_false (by omega)]
     ·rw[decide_eq_false z,fk_f]
    ·rw[fk_f]
    ·refine hnx2 _ rfl (nxt _ ?_)
     unfold sawStep
     rw[if_neg (by simpa using q0)]
   have hi:c.Part=0∨c.Part=1∨c.Part=2:=by omega
   rcases hi with hi | hi | hi
   ·refine jn_to (t0++[⟨(k:Int),d.2.1,d.2.2⟩],t1,t2) (fun k1=>jn_to true (fun k4=>?_) ?_) ?_
    ·rw[decide_eq_true (by omega),fk_t,decide_eq_true (by omega)]
    ·rw[fk_t]
     rw[decide_eq_true (p:=c.Part=(0:Int)) hi,fk_t]
     exact ck_le 24 (by decide) (by have:=lS2 t0 (by simp); omega)
    ·refine hnx2 _ rfl (nxt _ ?_)
     unfold sawStep
     rw[if_pos (by simpa using q0),hi]; rfl
   ·refine jn_to (t0,t1++[⟨(k:Int),d.2.1,d.2.2⟩],t2) (fun k1=>jn_to true (fun k4=>?_) ?_) ?_
    ·rw[decide_eq_true (by omega),fk_t,decide_eq_true (by omega)]
    ·rw[fk_t]
     rw[decide_eq_false (p:=c.Part=(0:Int)) (by omega),fk_f]
     rw[decide_eq_true (p:=c.Part=(1:Int)) hi,fk_t]
     exact ck_le 24 (by decide) (by have:=lS2 t1 (by simp); omega)
    ·refine hnx2 _ rfl (nxt _ ?_)
     unfold sawStep
     rw[if_pos (by simpa using q0),hi]; rfl
   ·refine jn_to (t0,t1,t2++[⟨(k:Int),d.2.1,d.2.2⟩]) (fun k1=>jn_to true (fun k4=>?_) ?_) ?_
    ·rw[decide_eq_true (by omega),fk_t,decide_eq_true (by omega)]
    ·rw[fk_t]
     rw[decide_eq_false (p:=c.Part=(0:Int)) (by omega),fk_f]
     rw[decide_eq_false (p:=c.Part=(1:Int)) (by omega),fk_f]
     rw[decide_eq_true (p:=c.Part=(2:Int)) hi,fk_t]
     exact ck_le 24 (by decide) (by have:=lS2 t2 (by simp); omega)
    ·refine hnx2 _ rfl (nxt _ ?_)
     unfold sawStep
     rw[if_pos (by simpa using q0),hi]; rfl
theorem play4 {s:KernelState} (hs:kP s) (h0:s.Now=0) (hlen:s.Parts.length=4) (script:List (List KernelCmd)) (hl:script.length≤100) (hc:∀x∈script,x.length≤10) {X:Option (List WorldView×Int)} (hX:X=(lp (fun nx4 (v4:Int×(List Window)×(List Face)×(List PartState)×(List PortLine)×Int×(List WorldSaw)×(List Int)×(List WorldSaw)×(List Int)×(List WorldSaw)×(List Int)×(List WorldSaw)×(List Int)×Int)=>fk (decide (v4.2.2.2.2.2.2.2.2.2.2.2.2.2.2<(script.length:Int))) (ix script v4.2.2.2.2.2.2.2.2.2.2.2.2.2.2 fun x5=>lp (fun nx6 (v6:Int×(List Window)×(List Face)×(List PartState)×(List PortLine)×Int×(List WorldSaw)×(List WorldSaw)×(List WorldSaw)×(List WorldSaw)×Int)=>fk (decide (v6.2.2.2.2.2.2.2.2.2.2<(x5.length:Int))) (ix x5 v6.2.2.2.2.2.2.2.2.2.2 fun x7=>bnd (kernel_Do (⟨⟨v6.1,v6.2.1⟩,v6.2.2.1,v6.2.2.2.1,v6.2.2.2.2.1,v6.2.2.2.2.2.1⟩) x7) fun x8=>jn (fun (w9:(List WorldSaw)×(List WorldSaw)×(List WorldSaw)×(List WorldSaw))=>nx6 (x8.1.Table.Frame,x8.1.Table.Windows,x8.1.Faces,x8.1.Parts,x8.1.Lines,x8.1.Now,w9.1,w9.2.1,w9.2.2.1,w9.2.2.2,(wr (v6.2.2.2.2.2.2.2.2.2.2+(1:Int))))) (fun k9=>jn (fun (w10:Bool)=>fk w10 (fk (decide (x7.Part=(0:Int))) (ck (decide ((v6.2.2.2.2.2.2.1.length+([⟨v4.2.2.2.2.2.2.2.2.2.2.2.2.2.2,x8.2.1,x8.2.2⟩]:List WorldSaw).length)*24≤140737488355328)) (k9 (v6.2.2.2.2.2.2.1++([⟨v4.2.2.2.2.2.2.2.2.2.2.2.2.2.2,x8.2.1,x8.2.2⟩]:List WorldSaw),v6.2.2.2.2.2.2.2.1,v6.2.2.2.2.2.2.2.2.1,v6.2.2.2.2.2.2.2.2.2.1))) (fk (decide (x7.Part=(1:Int))) (ck (decide ((v6.2.2.2.2.2.2.2.1.length+([⟨v4.2.2.2.2.2.2.2.2.2.2.2.2.2.2,x8.2.1,x8.2.2⟩]:List WorldSaw).length)*24≤140737488355328)) (k9 (v6.2.2.2.2.2.2.1,v6.2.2.2.2.2.2.2.1++([⟨v4.2.2.2.2.2.2.2.2.2.2.2.2.2.2,x8.2.1,x8.2.2⟩]:List WorldSaw),v6.2.2.2.2.2.2.2.2.1,v6.2.2.2.2.2.2.2.2.2.1))) (fk (decide (x7.Part=(2:Int))) (ck (decide ((v6.2.2.2.2.2.2.2.2.1.length+([⟨v4.2.2.2.2.2.2.2.2.2.2.2.2.2.2,x8.2.1,x8.2.2⟩]:List WorldSaw).length)*24≤140737488355328)) (k9 (v6.2.2.2.2.2.2.1,v6.2.2.2.2.2.2.2.1,v6.2.2.2.2.2.2.2.2.1++([⟨v4.2.2.2.2.2.2.2.2.2.2.2.2.2.2,x8.2.1,x8.2.2⟩]:List WorldSaw),v6.2.2.2.2.2.2.2.2.2.1))) (fk (decide (x7.Part=(3:Int))) (ck (decide ((v6.2.2.2.2.2.2.2.2.2.1.length+([⟨v4.2.2.2.2.2.2.2.2.2.2.2.2.2.2,x8.2.1,x8.2.2⟩]:List WorldSaw).length)*24≤140737488355328)) (k9 (v6.2.2.2.2.2.2.1,v6.2.2.2.2.2.2.2.1,v6.2.2.2.2.2.2.2.2.1,v6.2.2.2.2.2.2.2.2.2.1++([⟨v4.2.2.2.2.2.2.2.2.2.2.2.2.2.2,x8.2.1,x8.2.2⟩]:List WorldSaw)))) (none))))) (k9 (v6.2.2.2.2.2.2.1,v6.2.2.2.2.2.2.2.1,v6.2.2.2.2.2.2.2.2.1,v6.2.2.2.2.2.2.2.2.2.1))) (fun k10=>fk (decide (x7.Part≥(0:Int))) (k10 (decide (x7.Part<(4:Int)))) (k10 false)))) (bnd (kernel_Tick (⟨⟨v6.1,v6.2.1⟩,v6.2.2.1,v6.2.2.2.1,v6.2.2.2.2.1,v6.2.2.2.2.2.1⟩)) fun x15=>lp (fun nx16 (v16:(List Int)×(List Int)×(List Int)×(List Int)×Int)=>fk (decide (v16.2.2.2.2<(4:Int))) (fk (decide (v16.2.2.2.2=(0:Int))) (ix x15.2.1 v16.2.2.2.2 fun x24=>ck (decide ((v16.1.length+([x24]:List Int).length)*8≤140737488355328)) (nx16 (v16.1++([x24]:List Int),v16.2.1,v16.2.2.1,v16.2.2.2.1,(wr (v16.2.2.2.2+(1:Int)))))) (fk (decide (v16.2.2.2.2=(1:Int))) (ix x15.2.1 v16.2.2.2.2 fun x23=>ck (decide ((v16.2.1.length+([x23]:List Int).length)*8≤140737488355328)) (nx16 (v16.1,v16.2.1++([x23]:List Int),v16.2.2.1,v16.2.2.2.1,(wr (v16.2.2.2.2+(1:Int)))))) (fk (decide (v16.2.2.2.2=(2:Int))) (ix x15.2.1 v16.2.2.2.2 fun x22=>ck (decide ((v16.2.2.1.length+([x22]:List Int).length)*8≤140737488355328)) (nx16 (v16.1,v16.2.1,v16.2.2.1++([x22]:List Int),v16.2.2.2.1,(wr (v16.2.2.2.2+(1:Int)))))) (fk (decide (v16.2.2.2.2=(3:Int))) (ix x15.2.1 v16.2.2.2.2 fun x21=>ck (decide ((v16.2.2.2.1.length+([x21]:List Int).length)*8≤140737488355328)) (nx16 (v16.1,v16.2.1,v16.2.2.1,v16.2.2.2.1++([x21]:List Int),(wr (v16.2.2.2.2+(1:Int)))))) (none))))) (nx4 (x15.1.Table.Frame,x15.1.Table.Windows,x15.1.Faces,x15.1.Parts,x15.1.Lines,x15.1.Now,v6.2.2.2.2.2.2.1,v16.1,v6.2.2.2.2.2.2.2.1,v16.2.1,v6.2.2.2.2.2.2.2.2.1,v16.2.2.1,v6.2.2.2.2.2.2.2.2.2.1,v16.2.2.2.1,(wr (v4.2.2.2.2.2.2.2.2.2.2.2.2.2.2+(1:Int)))))) FU (v4.2.2.2.2.2.2.2.1,v4.2.2.2.2.2.2.2.2.2.1,v4.2.2.2.2.2.2.2.2.2.2.2.1,v4.2.2.2.2.2.2.2.2.2.2.2.2.2.1,(0:Int)))) FU (v4.1,v4.2.1,v4.2.2.1,v4.2.2.2.1,v4.2.2.2.2.1,v4.2.2.2.2.2.1,v4.2.2.2.2.2.2.1,v4.2.2.2.2.2.2.2.2.1,v4.2.2.2.2.2.2.2.2.2.2.1,v4.2.2.2.2.2.2.2.2.2.2.2.2.1,(0:Int))) (lp (fun nx25 (v25:(List Entry)×(List Entry)×(List Entry)×(List Entry)×Int)=>fk (decide (v25.2.2.2.2<(4:Int))) (ix v4.2.2.2.1 v25.2.2.2.2 fun x26=>fk (decide (v25.2.2.2.2=(0:Int))) (nx25 (x26.Log,v25.2.1,v25.2.2.1,v25.2.2.2.1,(wr (v25.2.2.2.2+(1:Int))))) (fk (decide (v25.2.2.2.2=(1:Int))) (nx25 (v25.1,x26.Log,v25.2.2.1,v25.2.2.2.1,(wr (v25.2.2.2.2+(1:Int))))) (fk (decide (v25.2.2.2.2=(2:Int))) (nx25 (v25.1,v25.2.1,x26.Log,v25.2.2.2.1,(wr (v25.2.2.2.2+(1:Int))))) (fk (decide (v25.2.2.2.2=(3:Int))) (nx25 (v25.1,v25.2.1,v25.2.2.1,x26.Log,(wr (v25.2.2.2.2+(1:Int))))) (none))))) (some (([⟨v4.2.2.2.2.2.2.1,v4.2.2.2.2.2.2.2.1,v25.1⟩,⟨v4.2.2.2.2.2.2.2.2.1,v4.2.2.2.2.2.2.2.2.2.1,v25.2.1⟩,⟨v4.2.2.2.2.2.2.2.2.2.2.1,v4.2.2.2.2.2.2.2.2.2.2.2.1,v25.2.2.1⟩,⟨v4.2.2.2.2.2.2.2.2.2.2.2.2.1,v4.2.2.2.2.2.2.2.2.2.2.2.2.2.1,v25.2.2.2.1⟩]:List WorldView),(0:Int)))) FU ([],[],[],[],(0:Int)))) FU (s.Table.Frame,s.Table.Windows,s.Faces,s.Parts,s.Lines,s.Now,[],[],[],[],[],[],[],[],(0:Int)))):X=some (viewsL (playK s script script.length),0):=by
 subst hX
 refine out_lp hs h0 script (by omega) (fun x hx=>by have:=hc x hx; omega) (fun v=>⟨(⟨⟨v.1,v.2.1⟩,v.2.2.1,v.2.2.2.1,v.2.2.2.2.1,v.2.2.2.2.2.1⟩:KernelState),[v.2.2.2.2.2.2.1,v.2.2.2.2.2.2.2.2.1,v.2.2.2.2.2.2.2.2.2.2.1,v.2.2.2.2.2.2.2.2.2.2.2.2.1],[v.2.2.2.2.2.2.2.1,v.2.2.2.2.2.2.2.2.2.1,v.2.2.2.2.2.2.2.2.2.2.2.1,v.2.2.2.2.2.2.2.2.2.2.2.2.2.1]⟩) (fun v=>v.2.2.2.2.2.2.2.2.2.2.2.2.2.2) _ rfl (by show PlayS.mk _ _ _=_; unfold playK; rw[hlen]; rfl) ?_ ?_
 ·rintro nx ⟨f,w,fa,pa,li,nw,s0,r0,s1,r1,s2,r2,s3,r3,q⟩ hv hp hn _ _ _
  simp only at hv hp hn
  rw[hlen] at hn
  subst hv
  simp only
  rw[decide_eq_false (by omega),fk_f]
  obtain⟨p0,p1,p2,p3,rfl⟩:=list4 hn
  refine set_lp 4 (by decide) [([]:List Entry),([]:List Entry),([]:List Entry),([]:List Entry)] [p0.Log,p1.Log,p2.Log,p3.Log] rfl rfl (fun v=>[v.1,v.2.1,v.2.2.1,v.2.2.2.1]) (fun v=>v.2.2.2.2) _ rfl rfl ?_ ?_
  ·rintro nx2 ⟨l0,l1,l2,l3,q2⟩ hv2 hL
   simp only at hv2 hL
   subst hv2
   simp only[List.cons.injEq,and_true] at hL
   obtain⟨rfl,rfl,rfl,rfl⟩:=hL
   simp only
   rw[decide_eq_false (by decide),fk_f,←hp]; rfl
  ·rintro nx2 ⟨l0,l1,l2,l3,q2⟩ k hk hv2 _ _ hnx2
   simp only at hv2
   subst hv2
   have hk2:k=0∨k=1∨k=2∨k=3:=by omega
   rcases hk2 with rfl | rfl | rfl | rfl
   ·exact hnx2 (p0.Log,l1,l2,l3,((1:Nat):Int)) rfl rfl
   ·exact hnx2 (l0,p1.Log,l2,l3,((2:Nat):Int)) rfl rfl
   ·exact hnx2 (l0,l1,p2.Log,l3,((3:Nat):Int)) rfl rfl
   ·exact hnx2 (l0,l1,l2,p3.Log,((4:Nat):Int)) rfl rfl
 ·rintro nx ⟨f,w,fa,pa,li,nw,s0,r0,s1,r1,s2,r2,s3,r3,q⟩ k hk hv kp hn hs2 hr2 lS lR hnx
  simp only at hv kp hn lS lR
  rw[hlen] at hn
  subst hv
  simp only
  rw[decide_eq_true (by omega),fk_t,ix_lt hk]
  refine do_lp (m:=1000000) (k:Int) (⟨⟨f,w⟩,fa,pa,li,nw⟩,[s0,s1,s2,s3]) script[k] (by have:=hc _ (List.getElem_mem hk); omega) kp lS (fun v=>((⟨⟨v.1,v.2.1⟩,v.2.2.1,v.2.2.2.1,v.2.2.2.2.1,v.2.2.2.2.2.1⟩:KernelState),[v.2.2.2.2.2.2.1,v.2.2.2.2.2.2.2.1,v.2.2.2.2.2.2.2.2.1,v.2.2.2.2.2.2.2.2.2.1])) (fun v=>v.2.2.2.2.2.2.2.2.2.2) _ rfl rfl ?_ ?_
  ·rintro nx2 ⟨f2,w2,fa2,pa2,li2,nw2,t0,t1,t2,t3,q2⟩ hv2 hX kp2 hl2 hp2
   simp only at hv2 hX kp2 hl2 hp2
   rw[hn] at hp2
   subst hv2
   simp only
   rw[decide_eq_false (by omega),fk_f,bnd_eq (tickK_eq kp2)]
   dsimp only
   have hrl:(ranK ⟨⟨f2,w2⟩,fa2,pa2,li2,nw2⟩).length=4:=by rw[ranK_len]; exact hp2
   obtain⟨y0,y1,y2,y3,hy⟩:=list4 hrl
   rw[hy]
   refine set_lp 4 (by decide) [r0,r1,r2,r3] [r0++[y0],r1++[y1],r2++[y2],r3++[y3]] rfl rfl (fun v=>[v.1,v.2.1,v.2.2.1,v.2.2.2.1]) (fun v=>v.2.2.2.2) _ rfl rfl ?_ ?_
   ·rintro nx3 ⟨u0,u1,u2,u3,q3⟩ hv3 hL
    simp only at hv3 hL
    subst hv3
    simp only[List.cons.injEq,and_true] at hL
    obtain⟨rfl,rfl,rfl,rfl⟩:=hL
    simp only
    rw[decide_eq_false (by decide),fk_f]
    rw[wr_succ k _ hk (by omega)]
    refine hnx _ rfl ?_
    unfold tickL
    dsimp only
    rw[←hX,hy]
    rfl
   ·rintro nx3 ⟨u0,u1,u2,u3,q3⟩ k3 hk3 hv3 hg _ hnx3
    simp only at hv3 hg
    subst hv3
    have hk2:k3=0∨k3=1∨k3=2∨k3=3:=by omega
    rcases hk2 with rfl | rfl | rfl | rfl
    ·have hu:u0=r0:=Option.some.inj hg
     subst hu
     have hlen9:u0.length≤1000000000:=by have:=lR u0 (by simp); omega
     exact (ck_le 8 (by decide) hlen9).trans (hnx3 (u0++[y0],u1,u2,u3,((1:Nat):Int)) rfl rfl)
    ·have hu:u1=r1:=Option.some.inj hg
     subst hu
     have hlen9:u1.length≤1000000000:=by have:=lR u1 (by simp); omega
     exact (ck_le 8 (by decide) hlen9).trans (hnx3 (u0,u1++[y1],u2,u3,((2:Nat):Int)) rfl rfl)
    ·have hu:u2=r2:=Option.some.inj hg
     subst hu
     have hlen9:u2.length≤1000000000:=by have:=lR u2 (by simp); omega
     exact (ck_le 8 (by decide) hlen9).trans (hnx3 (u0,u1,u2++[y2],u3,((3:Nat):Int)) rfl rfl)
    ·have hu:u3=r3:=Option.some.inj hg
     subst hu
     have hlen9:u3.length≤1000000000:=by have:=lR u3 (by simp); omega
     exact (ck_le 8 (by decide) hlen9).trans (hnx3 (u0,u1,u2,u3++[y3],((4:Nat):Int)) rfl rfl)
  ·rintro nx2 ⟨f2,w2,fa2,pa2,li2,nw2,t0,t1,t2,t3,q2⟩ k2 hk2 hv2 kp2 hl2 lS2 hnx2
   simp only at hv2 kp2 hl2 lS2
   subst hv2
   simp only
   rw[decide_eq_true (by omega),fk_t,ix_lt hk2,bnd_eq (kernel_Do_eq _ _ kp2)]
   generalize hd:doK ⟨⟨f2,w2⟩,fa2,pa2,li2,nw2⟩ script[k][k2]=d
   rw[wr_succ k2 _ hk2 (by have:=hc _ (List.getElem_mem hk); omega)]
   generalize hcc:script[k][k2]=c at hd hnx2 ⊢
   have nxt:∀S,S=sawStep (k:Int) c d.2.1 d.2.2 [t0,t1,t2,t3]→(⟨⟨d.1.Table.Frame,d.1.Table.Windows⟩,d.1.Faces,d.1.Parts,d.1.Lines,d.1.Now⟩,S)=askL (k:Int) (⟨⟨f2,w2⟩,fa2,pa2,li2,nw2⟩,[t0,t1,t2,t3]) c:=fun S hS=>by unfold askL; dsimp only; rw[hd,hS]
   by_cases q0:0≤c.Part∧c.Part<(4:Int)
   rotate_left
   ·refine jn_to (t0,t1,t2,t3) (fun k1=>jn_to false (fun k4=>?_) ?_) ?_
    ·by_cases z:c.Part≥0
     ·rw[decide_eq_true z,fk_t,decide_eq_false (by omega)]
     ·rw[decide_eq_false z,fk_f]
    ·rw[fk_f]
    ·refine hnx2 _ rfl (nxt _ ?_)
     unfold sawStep
     rw[if_neg (by simpa using q0)]
   have hi:c.Part=0∨c.Part=1∨c.Part=2∨c.Part=3:=by omega
   rcases hi with hi | hi | hi | hi
   ·refine jn_to (t0++[⟨(k:Int),d.2.1,d.2.2⟩],t1,t2,t3) (fun k1=>jn_to true (fun k4=>?_) ?_) ?_
    ·rw[decide_eq_true (by omega),fk_t,decide_eq_true (by omega)]
    ·rw[fk_t]
     rw[decide_eq_true (p:=c.Part=(0:Int)) hi,fk_t]
     exact ck_le 24 (by decide) (by have:=lS2 t0 (by simp); omega)
    ·refine hnx2 _ rfl (nxt _ ?_)
     unfold sawStep
     rw[if_pos (by simpa using q0),hi]; rfl
   ·refine jn_to (t0,t1++[⟨(k:Int),d.2.1,d.2.2⟩],t2,t3) (fun k1=>jn_to true (fun k4=>?_) ?_) ?_
    ·rw[decide_eq_true (by omega),fk_t,decide_eq_true (by omega)]
    ·rw[fk_t]
     rw[decide_eq_false (p:=c.Part=(0:Int)) (by omega),fk_f]
     rw[decide_eq_true (p:=c.Part=(1:Int)) hi,fk_t]
     exact ck_le 24 (by decide) (by have:=lS2 t1 (by simp); omega)
    ·refine hnx2 _ rfl (nxt _ ?_)
     unfold sawStep
     rw[if_pos (by simpa using q0),hi]; rfl
   ·refine jn_to (t0,t1,t2++[⟨(k:Int),d.2.1,d.2.2⟩],t3) (fun k1=>jn_to true (fun k4=>?_) ?_) ?_
    ·rw[decide_eq_true (by omega),fk_t,decide_eq_true (by omega)]
    ·rw[fk_t]
     rw[decide_eq_false (p:=c.Part=(0:Int)) (by omega),fk_f]
     rw[decide_eq_false (p:=c.Part=(1:Int)) (by omega),fk_f]
     rw[decide_eq_true (p:=c.Part=(2:Int)) hi,fk_t]
     exact ck_le 24 (by decide) (by have:=lS2 t2 (by simp); omega)
    ·refine hnx2 _ rfl (nxt _ ?_)
     unfold sawStep
     rw[if_pos (by simpa using q0),hi]; rfl
   ·refine jn_to (t0,t1,t2,t3++[⟨(k:Int),d.2.1,d.2.2⟩]) (fun k1=>jn_to true (fun k4=>?_) ?_) ?_
    ·rw[decide_eq_true (by omega),fk_t,decide_eq_true (by omega)]
    ·rw[fk_t]
     rw[decide_eq_false (p:=c.Part=(0:Int)) (by omega),fk_f]
     rw[decide_eq_false (p:=c.Part=(1:Int)) (by omega),fk_f]
     rw[decide_eq_false (p:=c.Part=(2:Int)) (by omega),fk_f]
     rw[decide_eq_true (p:=c.Part=(3:Int)) hi,fk_t]
     exact ck_le 24 (by decide) (by have:=lS2 t3 (by simp); omega)
    ·refine hnx2 _ rfl (nxt _ ?_)
     unfold sawStep
     rw[if_pos (by simpa using q0),hi]; rfl
end Go.Proofs.YtldlcdnhdedoeaaGreat
namespace Go.Proofs.YtldlcdnhdedoeaaGreat
open Go Go.VC
theorem world_Play_e1 {b:List Int} {script:List (List KernelCmd)} {r:Config×Int×Int} (hd:image_Decode b=some r) (he:r.2.2≠0):world_Play b script=some ([],r.2.2):=by
 unfold world_Play
 rw[bnd_eq hd,decide_eq_false he,Bool.not_false,fk_t]
theorem world_Play_e2 {b:List Int} {script:List (List KernelCmd)} {r:Config×Int×Int} {k:KernelState×Int} (hd:image_Decode b=some r) (he:r.2.2=0) (hk:kernel_Boot r.1=some k) (h2:k.2≠0):world_Play b script=some ([],k.2):=by
 unfold world_Play
 rw[bnd_eq hd,decide_eq_true he,Bool.not_true,fk_f,bnd_eq hk,decide_eq_false h2,Bool.not_false,fk_t]
theorem world_Play_ok {b:List Int} {script:List (List KernelCmd)} {r:Config×Int×Int} {s:KernelState} (hd:image_Decode b=some r) (he:r.2.2=0) (hk:kernel_Boot r.1=some (s,0)) (hs:kP s) (h0:s.Now=0) (hl:script.length≤100) (hc:∀x∈script,x.length≤10):world_Play b script=some (viewsL (playK s script script.length),0):=by
 have h4:=hs.len
 unfold world_Play
 rw[bnd_eq hd,decide_eq_true he,Bool.not_true,fk_f,bnd_eq hk]
 dsimp only
 rw[decide_eq_true rfl,Bool.not_true,fk_f,bnd_eq (world_may_eq script hl hc),Bool.not_true,fk_f]
 by_cases n0:s.Parts.length=0
 ·rw[decide_eq_true (by omega),fk_t]
  exact play0 hs h0 n0 script hl hc rfl
 rw[decide_eq_false (by omega),fk_f]
 by_cases n1:s.Parts.length=1
 ·rw[decide_eq_true (by omega),fk_t]
  exact play1 hs h0 n1 script hl hc rfl
 rw[decide_eq_false (by omega),fk_f]
 by_cases n2:s.Parts.length=2
 ·rw[decide_eq_true (by omega),fk_t]
  exact play2 hs h0 n2 script hl hc rfl
 rw[decide_eq_false (by omega),fk_f]
 by_cases n3:s.Parts.length=3
 ·rw[decide_eq_true (by omega),fk_t]
  exact play3 hs h0 n3 script hl hc rfl
 rw[decide_eq_false (by omega),fk_f]
 have n4:s.Parts.length=4:=by omega
 rw[decide_eq_true (by omega),fk_t]
 exact play4 hs h0 n4 script hl hc rfl
end Go.Proofs.YtldlcdnhdedoeaaGreat
namespace Go.Proofs.YtldlcdnhdedoeaaGreat
open Go Go.VC
noncomputable def law22_Great (a0:List Int) (a1:List Law21Step):Option Bool:=
 jn (fun (w1:Bool)=>fk w1 (some true) (bnd (ref19_Decode a0) fun x3=>fk (decide (x3.2.2=(0:Int))) (bnd (law21_Great x3.1) fun x4=>some x4) (some false))) (fun k1=>fk (decide ((a0.length:Int)>(500:Int))) (k1 true) (bnd (law21_Few a1) fun x2=>k1 (!x2)))
theorem law22_Great_w (a0:List Int) (a1:List Law21Step) (r:Bool) (h:law22_Great a0 a1=some r):Go.VC.Spec Tryz.prog 39 [.d (.sl (a0.map (eI .u8))),.d (.sl (a1.map Law21Step.enc))] (fun y=>y=E_Bool r):=by
 refine Go.VC.Spec.of_xc (args:=[.d (.sl (a0.map (eI .u8))),.d (.sl (a1.map Law21Step.enc))]) (fn:=Tryz.f39) tab ⟨[(0,[0,1]),(1,[0,15]),(2,[4]),(3,[5,7]),(4,[4])],[],[100015],[]⟩ 28 [.tmp 4] rfl rfl rfl rfl rfl rfl ?_
 conv=>whnf
 refine jnS (fun w1=>⟨[(0,.l (.d (.sl (a0.map (eI .u8))))),(15,.l (.d (.bool w1)))],28,[],[],[]⟩) h (fun k1 hk1 h=>?_) (fun w1 h=>?_)
 ·conv=>whnf
  refine lenS a0 (eI .u8) rfl ?_
  conv=>whnf
  refine fkS h (fun h=>?_) (fun h=>?_)
  ·conv=>whnf
   exact jeS hk1 h (Weak.refl _)
  conv=>whnf
  refine caS (E:=E_Bool) h (law21_Few_w a1) rfl (fun _=>rfl) (fun x2 h=>?_)
  conv=>whnf
  exact jeS hk1 h (Weak.refl _)
 conv=>whnf
 refine fkS h (fun h=>?_) (fun h=>?_)
 ·conv=>whnf
  exact rt (E:=E_Bool) h rfl
 conv=>whnf
 refine ccS (E:=E_Config_Int_Int) h (ref19_Decode_w a0) rfl rfl (fun x3 h=>?_)
 conv=>whnf
 refine fkS h (fun h=>?_) (fun h=>?_)
 ·conv=>whnf
  refine caS (E:=E_Bool) h (law21_Great_w x3.1) rfl (fun _=>rfl) (fun x4 h=>?_)
  conv=>whnf
  exact rt (E:=E_Bool) h rfl
 conv=>whnf
 exact rt (E:=E_Bool) h rfl
end Go.Proofs.YtldlcdnhdedoeaaGreat
namespace Go.Proofs.YtldlcdnhdedoeaaGreat
open Go Go.VC
noncomputable def law22_Same (a0:WorldView) (a1:WorldView):Option Bool:=
 fk (!decide ((a0.Saws.length:Int)=(a1.Saws.length:Int))) (some false) (lp (fun nx1 (v1:Int)=>fk (decide (v1<(a0.Saws.length:Int))) (ix a0.Saws v1 fun x2=>ix a1.Saws v1 fun x3=>fk (!(eqI [.i .i64 x2.At,.i .i64 x2.Value,.i .i64 x2.Err] [.i .i64 x3.At,.i .i64 x3.Value,.i .i64 x3.Err])) (some false) (nx1 (wr (v1+(1:Int))))) (bnd (ref05_SameInts a0.Ran a1.Ran) fun x4=>fk x4 (bnd (ref17_SameLog a0.Log a1.Log) fun x5=>some x5) (some false))) FU (0:Int))
theorem law22_Same_w (a0:WorldView) (a1:WorldView) (r:Bool) (h:law22_Same a0 a1=some r):Go.VC.Spec Tryz.prog 44 [.agg (WorldView.enc a0),.agg (WorldView.enc a1)] (fun y=>y=E_Bool r):=by
 refine Go.VC.Spec.of_xc (args:=[.agg (WorldView.enc a0),.agg (WorldView.enc a1)]) (fn:=Tryz.f44) tab ⟨[(0,[2,3]),(1,[2,3,12]),(2,[4]),(3,[2,3,5]),(4,[2,3,5,17]),(5,[2,3,5]),(6,[2,3,5,30]),(7,[4]),(8,[4])],[],[],[]⟩ 43 [.tmp 4] rfl rfl rfl rfl rfl rfl ?_
 conv=>whnf
 refine lenS a0.Saws WorldSaw.enc rfl ?_
 conv=>whnf
 refine lenS a1.Saws WorldSaw.enc rfl ?_
 conv=>whnf
 refine fkS h (fun h=>?_) (fun h=>?_)
 ·conv=>whnf
  exact rt (E:=E_Bool) h rfl
 conv=>whnf
 refine lpS (fun v1=>⟨[(2,.l (.ptr 3 0)),(3,.l (.ptr 4 0)),(5,.l (.d (.int .i64 v1)))],43,[],[(3,[.d (.sl (a0.Saws.map WorldSaw.enc)),.d (.sl (a0.Ran.map (eI .i64))),.d (.sl (a0.Log.map Entry.enc))]),(4,[.d (.sl (a1.Saws.map WorldSaw.enc)),.d (.sl (a1.Ran.map (eI .i64))),.d (.sl (a1.Log.map Entry.enc))])],[]⟩) h (Weak.refl _) (fun _ nx1 hn1 v1 h=>?_)
 conv=>whnf
 refine lenS a0.Saws WorldSaw.enc rfl ?_
 conv=>whnf
 refine fkS h (fun h=>?_) (fun h=>?_)
 ·conv=>whnf
  refine⟨10,?_⟩
  conv=>whnf
  refine ixS (enc:=WorldSaw.enc) h rfl (fun _=>rfl) (fun x2 h=>?_)
  conv=>whnf
  refine ixS (enc:=WorldSaw.enc) h rfl (fun _=>rfl) (fun x3 h=>?_)
  conv=>whnf
  refine drS (by kernel_rfl) ?_
  conv=>whnf
  refine fkS h (fun h=>?_) (fun h=>?_)
  ·conv=>whnf
   exact rt (E:=E_Bool) h rfl
  conv=>whnf
  exact leS hn1 h (Weak.refl _)
 conv=>whnf
 refine caS (E:=E_Bool) h (ref05_SameInts_w a0.Ran a1.Ran) rfl (fun _=>rfl) (fun x4 h=>?_)
 conv=>whnf
 refine fkS h (fun h=>?_) (fun h=>?_)
 ·conv=>whnf
  refine caS (E:=E_Bool) h (ref17_SameLog_w a0.Log a1.Log) rfl (fun _=>rfl) (fun x5 h=>?_)
  conv=>whnf
  exact rt (E:=E_Bool) h rfl
 conv=>whnf
 exact rt (E:=E_Bool) h rfl
end Go.Proofs.YtldlcdnhdedoeaaGreat
namespace Go.Proofs.YtldlcdnhdedoeaaGreat
open Go Go.VC
/-- What the guard lets by. -/
theorem great22_ex (b:List Int) (l:List Law21Step) (hb:bytesP b) (hl:l.length≤4611686018427387904) (hc:∀x∈l,x.Cmds.length≤4611686018427387904) :
  ∃g,law22_Great b l=some g∧(g=false→b.length≤500∧l.length≤100∧∀x∈l,x.Cmds.length≤10):=by
 unfold law22_Great
 rw[jn_eq]
 by_cases h5:(b.length:Int)>500
 ·rw[decide_eq_true h5,fk_t]; exact⟨true,rfl,fun h=>by cases h⟩
 rw[decide_eq_false h5,fk_f]
 obtain⟨f,hf,hff⟩:=few_ex l hl hc
 rw[bnd_eq hf]
 cases f with
 | false=>exact⟨true,rfl,fun h=>by cases h⟩
 | true=>
 obtain⟨g1,g2⟩:=hff rfl
 have hd:=ref19_Decode_ex b hb
 obtain⟨r,hr,hg⟩:=hd
 show ∃g,fk false _ (bnd (ref19_Decode b) _)=some g∧_
 rw[fk_f,bnd_eq hr]
 by_cases he:r.2.2=0
 ·rw[decide_eq_true he,fk_t]
  obtain⟨g,e,_⟩:=great_ex r.1 (goodC.conf hg).p (goodC.conf hg).t
  rw[bnd_eq e]
  exact⟨g,rfl,fun _=>⟨by omega,g1,g2⟩⟩
 ·rw[decide_eq_false he,fk_f]
  exact⟨false,rfl,fun _=>⟨by omega,g1,g2⟩⟩
theorem sameInts_refl (l:List Int) (hl:l.length≤4611686018427387904):ref05_SameInts l l=some true:=by
 unfold ref05_SameInts
 rw[decide_eq_true rfl,Bool.not_true,fk_f]
 refine lp_up l.length (by unfold FU; omega) (fun _=>True) trivial ?_
 intro nx k hk _ hnx
 rw[lt_nat]
 by_cases h:k<l.length
 ·rw[decide_eq_true h,fk_t,ix_lt h,ix_lt h,decide_eq_true rfl,Bool.not_true,fk_f,wr_succ k _ h (by omega)]
  exact hnx h trivial
 ·rw[decide_eq_false h,fk_f]
theorem sameV_refl (v:WorldView) (h1:v.Saws.length≤4611686018427387904) (h2:v.Ran.length≤4611686018427387904) (h3:v.Log.length≤4611686018427387904):law22_Same v v=some true:=by
 unfold law22_Same
 rw[decide_eq_true rfl,Bool.not_true,fk_f]
 refine lp_up v.Saws.length (by unfold FU; omega) (fun _=>True) trivial ?_
 intro nx k hk _ hnx
 rw[lt_nat]
 by_cases h:k<v.Saws.length
 ·rw[decide_eq_true h,fk_t,ix_lt h,ix_lt h,eqI_refl,Bool.not_true,fk_f,wr_succ k _ h (by omega)]
  exact hnx h trivial
 ·rw[decide_eq_false h,fk_f,bnd_eq (sameInts_refl _ h2),fk_t,bnd_eq (sameLog_eq _ h3)]
end Go.Proofs.YtldlcdnhdedoeaaGreat
namespace Go.Proofs.YtldlcdnhdedoeaaGreat
open Go Go.VC
/-! What delivering makes of lines. -/
def putV (r:RingRing) (v:Int):RingRing:=if r.Many=(r.Buf.length:Int) then pushV (popV r) v else pushV r v
theorem ring_Put_eq (r:RingRing) (v:Int) (h:ringP r):ring_Put r v=some (putV r v)∧ringP (putV r v)∧(putV r v).Buf.length=r.Buf.length:=by
 unfold ring_Put putV
 rw[bnd_eq (ring_Push_eq r v h)]
 by_cases c:r.Many=(r.Buf.length:Int)
 ·have hM:=h.2.2.2.2
  have c0:r.Many≠0:=by have:=h.1; omega
  obtain⟨p1,p2,p3,p4⟩:=popV_ok h c0
  rw[if_pos c,if_pos c,decide_eq_true rfl,Bool.not_true,fk_f,bnd_eq (ring_Pop_eq r h),if_neg c0,bnd_eq (ring_Push_eq (popV r) v p1)]
  have c1:(popV r).Many≠((popV r).Buf.length:Int):=by rw[p2]; show r.Many-1≠_; omega
  obtain⟨q1,q2,q3⟩:=pushV_ok (v:=v) p1 c1
  rw[if_neg c1]
  exact⟨rfl,q1,by rw[q2,p2]⟩
 ·obtain⟨q1,q2,q3⟩:=pushV_ok (v:=v) h c
  rw[if_neg c,if_neg c]
  exact⟨rfl,q1,q2⟩
def itD (x:PortLine):Nat→RingRing×RingRing
 | 0=>(x.Under,x.Got)
 | j+1=>(popV (itD x j).1,putV (itD x j).2 (rAt (itD x j).1 0))
def delL (x:PortLine):PortLine:=⟨x.Port,(itD x x.Under.Many.toNat).1,(itD x x.Under.Many.toNat).2⟩
theorem itD_ok {x:PortLine} (h2:ringP x.Under) (h3:ringP x.Got):∀j,j≤x.Under.Many.toNat→ringP (itD x j).1∧ringP (itD x j).2∧(itD x j).1.Buf.length=x.Under.Buf.length∧(itD x j).2.Buf.length=x.Got.Buf.length∧(itD x j).1.Many.toNat+j=x.Under.Many.toNat
 | 0,_=>⟨h2,h3,rfl,rfl,rfl⟩
 | j+1,hj=>by
  obtain⟨a,b,c,d,e⟩:=itD_ok h2 h3 j (by omega)
  have hM:=a.2.2.2.2
  have c0:(itD x j).1.Many≠0:=by omega
  obtain⟨p1,p2,p3,p4⟩:=popV_ok a c0
  obtain⟨_,q1,q2⟩:=ring_Put_eq (itD x j).2 (rAt (itD x j).1 0) b
  refine⟨p1,q1,?_,?_,?_⟩
  ·show (popV _).Buf.length=_; rw[p2,c]
  ·show (putV _ _).Buf.length=_; rw[q2,d]
  ·show (popV _).Many.toNat+(j+1)=_; omega
theorem port_Deliver_eq (l:List PortLine) (h:linesP l):port_Deliver l=some (l.map delL):=by
 have hl4:=h.2
 unfold port_Deliver
 rw[bnd_eq (port_Right_t h),Bool.not_true,fk_f]
 refine lp_upS l.length (by unfold FU; omega) (fun k s=>linesP s∧s.length=l.length∧∀i:Nat,s[i]?=if i<k then (l[i]?).map delL else l[i]?) l ⟨h,rfl,fun i=>by rw[if_neg (by omega)]⟩ ?_
 rintro nx k s hk ⟨hs,hsl,hg⟩ hnx
 dsimp only
 rw[lt_nat]
 by_cases c:k<l.length
 rotate_left
 ·rw[decide_eq_false c,fk_f]
  congr 1
  refine List.ext_getElem? fun i=>?_
  rw[hg i,List.getElem?_map]
  by_cases ci:i<k
  ·rw[if_pos ci]
  ·rw[if_neg ci,List.getElem?_eq_none (by omega)]; rfl
 rw[decide_eq_true c,fk_t,ix_lt c,wr_succ k _ c (by omega)]
 obtain⟨h1,h2,h3,h4,h5⟩:=h.1 _ (List.getElem_mem c)
 have hx:l[k]?=some l[k]:=List.getElem?_eq_getElem c
 generalize l[k]=x at *
 have hM:=h2.2.2.2.2
 have hB:=h2.2.1
 refine lp_inv (fun v=>x.Under.Many.toNat-v.2.2.2.2.2.2.toNat) (fun v=>∃j:Nat,v=((itD x j).1.Buf,(itD x j).1.First,(itD x j).1.Many,(itD x j).2.Buf,(itD x j).2.First,(itD x j).2.Many,(j:Int))∧j≤x.Under.Many.toNat) ?_ FU _ ⟨0,rfl,Nat.zero_le _⟩ (by unfold FU; simp only; omega)
 rintro nx2 v ⟨j,rfl,hj⟩ hnx2
 dsimp only
 obtain⟨a1,a2,a3,a4,a5⟩:=itD_ok h2 h3 j hj
 by_cases cj:j<x.Under.Many.toNat
 ·have c0:(itD x j).1.Many≠0:=by have:=a1.2.2.2.2; omega
  rw[decide_eq_true (by omega),fk_t]
  show (bnd (ring_Pop (itD x j).1) _)=some _
  rw[bnd_eq (ring_Pop_eq _ a1),if_neg c0]
  show (bnd (ring_Put (itD x j).2 (rAt (itD x j).1 0)) _)=some _
  rw[bnd_eq (ring_Put_eq _ _ a2).1,wr_succ j _ cj (by omega)]
  exact hnx2 _ ⟨j+1,rfl,cj⟩ (by simp only[Int.toNat_natCast]; omega)
 ·have ej:j=x.Under.Many.toNat:=by omega
  rw[decide_eq_false (by omega),fk_f,bnd_eq (port_with_eq s k _ hs (by omega))]
  refine hnx _ c ⟨linesP_set hs ⟨h1,a1,a2,by show ((itD x j).1.Buf.length:Int)=_; rw[a3]; exact h4,by show ((itD x j).2.Buf.length:Int)=_; rw[a4]; exact h5⟩,by rw[List.length_set]; exact hsl,fun i=>?_⟩
  by_cases ei:i=k
  ·subst ei
   rw[List.getElem?_set_self (by omega),if_pos (by omega),hx,ej]; rfl
  ·rw[List.getElem?_set_ne (fun e=>ei e.symm),hg i]
   by_cases ci:i<k
   ·rw[if_pos ci,if_pos (by omega)]
   ·rw[if_neg ci,if_neg (by omega)]
theorem delK_eq {s:KernelState} (h:kP s):delK s=if s.Now.tmod s.Table.Frame=0 then s.Lines.map delL else s.Lines:=by
 unfold delK
 split
 ·rw[port_Deliver_eq _ h.lines]; rfl
 ·rfl
/-! Lines that are alike but for what others may read. -/
def lnR (p:Int) (x y:PortLine):Prop:=x.Port=y.Port∧x.Under=y.Under∧(x.Port.To=p→x.Got=y.Got)
def lnsR (p:Int) (l m:List PortLine):Prop:=l.length=m.length∧∀(i:Nat) (x y:PortLine),l[i]?=some x→m[i]?=some y→lnR p x y
theorem lnR.rfl' {p:Int} (x:PortLine):lnR p x x:=⟨rfl,rfl,fun _=>rfl⟩
theorem lnsR.rfl' {p:Int} (l:List PortLine):lnsR p l l:=⟨rfl,fun i x y h1 h2=>by rw[h1] at h2; cases h2; exact lnR.rfl' _⟩
theorem lnsR.trans {p:Int} {l m n:List PortLine} (h1:lnsR p l m) (h2:lnsR p m n):lnsR p l n:=by
 refine⟨h1.1.trans h2.1,fun i x y hx hy=>?_⟩
 have hm:i<m.length:=by rw[←h1.1]; exact (List.getElem?_eq_some_iff.1 hx).1
 obtain⟨a,b,c⟩:=h1.2 i x m[i] hx (List.getElem?_eq_getElem hm)
 obtain⟨d,e,f⟩:=h2.2 i m[i] y (List.getElem?_eq_getElem hm) hy
 exact⟨a.trans d,b.trans e,fun g=>(c g).trans (f (by rw[←a]; exact g))⟩
theorem itD_under {x y:PortLine} (h:x.Under=y.Under):∀j,(itD x j).1=(itD y j).1
 | 0=>h
 | j+1=>by show popV _=popV _; rw[itD_under h j]
theorem itD_both {x y:PortLine} (h:x.Under=y.Under) (g:x.Got=y.Got):∀j,itD x j=itD y j
 | 0=>by show (x.Under,x.Got)=(y.Under,y.Got); rw[h,g]
 | j+1=>by show (popV (itD x j).1,putV (itD x j).2 (rAt (itD x j).1 0))=(popV (itD y j).1,putV (itD y j).2 (rAt (itD y j).1 0)); rw[itD_both h g j]
theorem lnR.del {p:Int} {x y:PortLine} (h:lnR p x y):lnR p (delL x) (delL y):=by
 obtain⟨a,b,c⟩:=h
 refine⟨a,?_,fun g=>?_⟩
 ·show (itD x _).1=(itD y _).1; rw[b]; exact itD_under b _
 ·show (itD x _).2=(itD y _).2; rw[b,itD_both b (c g)]
theorem lnsR.del {p:Int} {l m:List PortLine} (h:lnsR p l m):lnsR p (l.map delL) (m.map delL):=by
 refine⟨by rw[List.length_map,List.length_map]; exact h.1,fun i x y hx hy=>?_⟩
 rw[List.getElem?_map] at hx hy
 obtain⟨a,ha,rfl⟩:=Option.map_eq_some_iff.1 hx
 obtain⟨b,hb,rfl⟩:=Option.map_eq_some_iff.1 hy
 exact (h.2 i a b ha hb).del
theorem lnsR.set {p:Int} {l m:List PortLine} {i:Nat} {x y:PortLine} (h:lnsR p l m) (hx:lnR p x y):lnsR p (l.set i x) (m.set i y):=by
 refine⟨by rw[List.length_set,List.length_set]; exact h.1,fun j a b ha hb=>?_⟩
 have h1:=h.1
 by_cases e:j=i
 ·subst e
  have hj:=(List.getElem?_eq_some_iff.1 ha).1
  rw[List.length_set] at hj
  rw[List.getElem?_set_self hj] at ha
  rw[List.getElem?_set_self (by omega)] at hb
  cases ha; cases hb; exact hx
 ·rw[List.getElem?_set_ne (fun g=>e g.symm)] at ha hb
  exact h.2 j a b ha hb
theorem lnsR.send {p:Int} {l m:List PortLine} (h:lnsR p l m) (f i v:Int):(sendV l f i v).2=(sendV m f i v).2∧lnsR p (sendV l f i v).1 (sendV m f i v).1:=by
 have h1:=h.1
 unfold sendV
 by_cases c:0≤i∧i<(l.length:Int)
 rotate_left
 ·rw[if_neg c,if_neg (by omega)]; exact⟨rfl,h⟩
 rw[if_pos c,if_pos (by omega)]
 have hl:i.toNat<l.length:=by omega
 have hm:i.toNat<m.length:=by omega
 have hlx:l[i.toNat]?=some l[i.toNat]:=List.getElem?_eq_getElem hl
 have hmx:m[i.toNat]?=some m[i.toNat]:=List.getElem?_eq_getElem hm
 obtain⟨a,b,d⟩:=h.2 _ _ _ hlx hmx
 rw[hlx,hmx]
 dsimp only
 rw[←a,←b]
 split
 ·split
  ·exact⟨rfl,h⟩
  ·refine⟨rfl,h.set ⟨rfl,rfl,fun g=>d g⟩⟩
 ·exact⟨rfl,h⟩
theorem lnsR.read {p:Int} {l m:List PortLine} (h:lnsR p l m) (i:Int):(readV l p i).1=(readV m p i).1∧(readV l p i).2.2=(readV m p i).2.2∧lnsR p (readV l p i).2.1 (readV m p i).2.1:=by
 have h1:=h.1
 unfold readV
 by_cases c:0≤i∧i<(l.length:Int)
 rotate_left
 ·rw[if_neg c,if_neg (by omega)]; exact⟨rfl,rfl,h⟩
 rw[if_pos c,if_pos (by omega)]
 have hl:i.toNat<l.length:=by omega
 have hm:i.toNat<m.length:=by omega
 have hlx:l[i.toNat]?=some l[i.toNat]:=List.getElem?_eq_getElem hl
 have hmx:m[i.toNat]?=some m[i.toNat]:=List.getElem?_eq_getElem hm
 obtain⟨a,b,d⟩:=h.2 _ _ _ hlx hmx
 rw[hlx,hmx]
 dsimp only
 rw[←a,←b]
 by_cases g:l[i.toNat].Port.To=p
 ·rw[if_pos g,if_pos g,←d g]
  split
  ·exact⟨rfl,rfl,h⟩
  ·exact⟨rfl,rfl,h.set ⟨rfl,rfl,fun _=>rfl⟩⟩
 ·rw[if_neg g,if_neg g]; exact⟨rfl,rfl,h⟩
theorem lnsR.other {p q:Int} (hq:q≠p) (l:List PortLine) (i:Int):lnsR p (readV l q i).2.1 l:=by
 unfold readV
 by_cases c:0≤i∧i<(l.length:Int)
 rotate_left
 ·rw[if_neg c]; exact lnsR.rfl' l
 rw[if_pos c]
 have hl:i.toNat<l.length:=by omega
 have hlx:l[i.toNat]?=some l[i.toNat]:=List.getElem?_eq_getElem hl
 rw[hlx]
 dsimp only
 by_cases g:l[i.toNat].Port.To=q
 ·rw[if_pos g]
  split
  ·exact lnsR.rfl' l
  ·have hs:l=l.set i.toNat l[i.toNat]:=by rw[List.set_getElem_self]
   conv=>rhs; rw[hs]
   exact (lnsR.rfl' l).set ⟨rfl,rfl,fun e=>absurd (g.symm.trans e) hq⟩
 ·rw[if_neg g]; exact lnsR.rfl' l
end Go.Proofs.YtldlcdnhdedoeaaGreat
namespace Go.Proofs.YtldlcdnhdedoeaaGreat
open Go Go.VC
/-! Two systems that are alike for a partition. -/
structure Al (p:Nat) (L:Bool) (s u:KernelState):Prop where
 tab:s.Table=u.Table
 now:s.Now=u.Now
 faces:s.Faces=u.Faces
 len:s.Parts.length=u.Parts.length
 part:s.Parts[p]?=u.Parts[p]?
 lines:L=true→lnsR (p:Int) s.Lines u.Lines
theorem Al.rfl' (p:Nat) (L:Bool) (s:KernelState):Al p L s s:=⟨rfl,rfl,rfl,rfl,rfl,fun _=>lnsR.rfl' _⟩
theorem Al.trans {p:Nat} {L:Bool} {s t u:KernelState} (h:Al p L s t) (g:Al p L t u):Al p L s u:=⟨h.tab.trans g.tab,h.now.trans g.now,h.faces.trans g.faces,h.len.trans g.len,h.part.trans g.part,fun e=>(h.lines e).trans (g.lines e)⟩
theorem doK_out {s:KernelState} {c:KernelCmd} (h:¬(0≤c.Part∧c.Part<(s.Parts.length:Int))):doK s c=(s,0,4):=by
 unfold doK
 rw[dif_neg (fun g=>h ⟨g.1,g.2.1⟩)]
theorem doK_2 {s:KernelState} {c:KernelCmd} (hf:s.Faces.length=s.Parts.length) (h:0≤c.Part∧c.Part<(s.Parts.length:Int)) (h2:c.Kind=2):doK s c=(⟨s.Table,s.Faces,s.Parts,(sendV s.Lines c.Part c.I c.V).1,s.Now⟩,0,(sendV s.Lines c.Part c.I c.V).2):=by
 unfold doK
 rw[dif_pos ⟨h.1,h.2,hf⟩,if_pos h2]
theorem doK_3 {s:KernelState} {c:KernelCmd} (hf:s.Faces.length=s.Parts.length) (h:0≤c.Part∧c.Part<(s.Parts.length:Int)) (h3:c.Kind=3):doK s c=(⟨s.Table,s.Faces,s.Parts,(readV s.Lines c.Part c.I).2.1,s.Now⟩,(readV s.Lines c.Part c.I).1,(readV s.Lines c.Part c.I).2.2):=by
 unfold doK
 rw[dif_pos ⟨h.1,h.2,hf⟩,if_neg (by omega),if_pos h3]
theorem doK_p {s:KernelState} {c:KernelCmd} (hf:s.Faces.length=s.Parts.length) (h:0≤c.Part∧c.Part<(s.Parts.length:Int)) (hk:c.Kind=1∨c.Kind=4∨c.Kind=5∨c.Kind=6) {P:PartState} {F:Face} (hP:s.Parts[c.Part.toNat]?=some P) (hF:s.Faces[c.Part.toNat]?=some F):doK s c=(withK s c.Part (doP P F c s.Now).1,0,(doP P F c s.Now).2):=by
 unfold doK
 rw[dif_pos ⟨h.1,h.2,hf⟩,if_neg (by omega),if_neg (by omega),if_pos hk]
 rw[List.getElem?_eq_getElem (by omega)] at hP
 rw[List.getElem?_eq_getElem (by omega)] at hF
 rw[Option.some.inj hP,Option.some.inj hF]
theorem doK_n {s:KernelState} {c:KernelCmd} (h2:c.Kind≠2) (h3:c.Kind≠3) (hk:¬(c.Kind=1∨c.Kind=4∨c.Kind=5∨c.Kind=6)):doK s c=(s,0,4):=by
 unfold doK
 split
 ·first | rfl | rw[if_neg h2,if_neg h3,if_neg hk]
 ·rfl
/-- The partition's own asks. -/
theorem Al.own {p:Nat} {L:Bool} {s u:KernelState} (h:Al p L s u) (hs:kP s) (hu:kP u) {c:KernelCmd} (hc:c.Part=(p:Int)) (hk:L=true∨c.Kind≠2∧c.Kind≠3):(doK s c).2=(doK u c).2∧Al p L (doK s c).1 (doK u c).1:=by
 have fs:=hs.faces
 have fu:=hu.faces
 have hl:=h.len
 by_cases hi:0≤c.Part∧c.Part<(s.Parts.length:Int)
 rotate_left
 ·rw[doK_out hi,doK_out (by rw[←hl]; exact hi)]; exact⟨rfl,h⟩
 have hi2:0≤c.Part∧c.Part<(u.Parts.length:Int):=by rw[←hl]; exact hi
 by_cases k2:c.Kind=2
 ·have hL:L=true:=hk.resolve_right fun g=>g.1 k2
  obtain⟨a,b⟩:=(h.lines hL).send c.Part c.I c.V
  rw[doK_2 fs hi k2,doK_2 fu hi2 k2]
  exact⟨by show ((0:Int),_)=(0,_); rw[a],h.tab,h.now,h.faces,h.len,h.part,fun _=>b⟩
 by_cases k3:c.Kind=3
 ·have hL:L=true:=hk.resolve_right fun g=>g.2 k3
  obtain⟨a,b,d⟩:=(h.lines hL).read c.I
  rw[doK_3 fs hi k3,doK_3 fu hi2 k3,hc]
  exact⟨by show (_,_)=(_,_); rw[a,b],h.tab,h.now,h.faces,h.len,h.part,fun _=>d⟩
 by_cases kk:c.Kind=1∨c.Kind=4∨c.Kind=5∨c.Kind=6
 rotate_left
 ·rw[doK_n k2 k3 kk,doK_n k2 k3 kk]; exact⟨rfl,h⟩
 have hp:c.Part.toNat=p:=by omega
 have hps:p<s.Parts.length:=by omega
 have eP:s.Parts[c.Part.toNat]?=some s.Parts[p]:=by rw[hp]; exact List.getElem?_eq_getElem hps
 have eF:s.Faces[c.Part.toNat]?=some (s.Faces[p]'(by omega)):=by rw[hp]; exact List.getElem?_eq_getElem _
 have eP2:u.Parts[c.Part.toNat]?=some s.Parts[p]:=by rw[←eP,hp]; exact h.part.symm
 have eF2:u.Faces[c.Part.toNat]?=some (s.Faces[p]'(by omega)):=by rw[←eF,h.faces]
 rw[doK_p fs hi kk eP eF,doK_p fu hi2 kk eP2 eF2,h.now]
 refine⟨rfl,h.tab,h.now,h.faces,?_,?_,h.lines⟩
 ·show (s.Parts.set _ _).length=(u.Parts.set _ _).length
  rw[List.length_set,List.length_set]; exact hl
 ·show (s.Parts.set _ _)[p]?=(u.Parts.set _ _)[p]?
  rw[hp,List.getElem?_set_self hps,List.getElem?_set_self (by omega)]
/-- What is sent by others. -/
theorem Al.sent {p:Nat} {s u:KernelState} (h:Al p true s u) (hs:kP s) (hu:kP u) {c:KernelCmd} (k2:c.Kind=2):Al p true (doK s c).1 (doK u c).1:=by
 have fs:=hs.faces
 have fu:=hu.faces
 have hl:=h.len
 by_cases hi:0≤c.Part∧c.Part<(s.Parts.length:Int)
 rotate_left
 ·rw[doK_out hi,doK_out (by rw[←hl]; exact hi)]; exact h
 have hi2:0≤c.Part∧c.Part<(u.Parts.length:Int):=by rw[←hl]; exact hi
 obtain⟨a,b⟩:=(h.lines rfl).send c.Part c.I c.V
 rw[doK_2 fs hi k2,doK_2 fu hi2 k2]
 exact⟨h.tab,h.now,h.faces,h.len,h.part,fun _=>b⟩
/-- What else others ask. -/
theorem Al.drop {p:Nat} {L:Bool} {s:KernelState} (hs:kP s) {c:KernelCmd} (hc:c.Part≠(p:Int)) (hk:L=false∨c.Kind≠2):Al p L (doK s c).1 s:=by
 have fs:=hs.faces
 by_cases hi:0≤c.Part∧c.Part<(s.Parts.length:Int)
 rotate_left
 ·rw[doK_out hi]; exact Al.rfl' _ _ _
 by_cases k2:c.Kind=2
 ·have hL:L=false:=hk.resolve_right fun g=>g k2
  rw[doK_2 fs hi k2,hL]
  exact⟨rfl,rfl,rfl,rfl,rfl,fun e=>by cases e⟩
 by_cases k3:c.Kind=3
 ·rw[doK_3 fs hi k3]
  exact⟨rfl,rfl,rfl,rfl,rfl,fun _=>lnsR.other hc _ _⟩
 by_cases kk:c.Kind=1∨c.Kind=4∨c.Kind=5∨c.Kind=6
 rotate_left
 ·rw[doK_n k2 k3 kk]; exact Al.rfl' _ _ _
 rw[doK_p fs hi kk (List.getElem?_eq_getElem (by omega)) (List.getElem?_eq_getElem (by omega))]
 refine⟨rfl,rfl,rfl,?_,?_,fun _=>lnsR.rfl' _⟩
 ·show (s.Parts.set _ _).length=s.Parts.length
  rw[List.length_set]
 ·show (s.Parts.set _ _)[p]?=s.Parts[p]?
  rw[List.getElem?_set_ne (by omega)]
/-! Asks. -/
def rowR (p:Nat) {α:Type} (S T:List (List α)):Prop:=S.length=T.length∧S[p]?=T[p]?
theorem saw_own {p:Nat} {S T:List (List WorldSaw)} (h:rowR p S T) {c:KernelCmd} (hc:c.Part=(p:Int)) (t v e:Int):rowR p (sawStep t c v e S) (sawStep t c v e T):=by
 have hp:c.Part.toNat=p:=by omega
 refine⟨by rw[sawStep_len,sawStep_len]; exact h.1,?_⟩
 have hl:=h.1
 unfold sawStep
 by_cases i:0≤c.Part∧c.Part<(S.length:Int)
 ·rw[if_pos i,if_pos (by omega),hp,List.getElem?_set_self (by omega),List.getElem?_set_self (by omega),List.getD_eq_getElem?_getD,List.getD_eq_getElem?_getD,h.2]
 ·rw[if_neg i,if_neg (by omega)]; exact h.2
theorem saw_other {p:Nat} {S:List (List WorldSaw)} {c:KernelCmd} (hc:c.Part≠(p:Int)) (t v e:Int):rowR p (sawStep t c v e S) S:=by
 refine⟨sawStep_len _ _ _ _ _,?_⟩
 unfold sawStep
 split
 ·rw[List.getElem?_set_ne (by omega)]
 ·rfl
theorem rowR.trans {p:Nat} {α:Type} {S T U:List (List α)} (h:rowR p S T) (g:rowR p T U):rowR p S U:=⟨h.1.trans g.1,h.2.trans g.2⟩
theorem rowR.symm {p:Nat} {α:Type} {S T:List (List α)} (h:rowR p S T):rowR p T S:=⟨h.1.symm,h.2.symm⟩
def keepOk (p:Nat) (L:Bool) (keep:KernelCmd→Bool) (c:KernelCmd):Prop:=
 (keep c=true→(c.Part=(p:Int)∧(L=true∨c.Kind≠2∧c.Kind≠3))∨(L=true∧c.Kind=2))∧(keep c=false→c.Part≠(p:Int)∧(L=false∨c.Kind≠2))
theorem asks_alone {p:Nat} {L:Bool} {keep:KernelCmd→Bool} (t:Int):∀(l:List KernelCmd) (x y:KernelState×List (List WorldSaw)),(∀c∈l,keepOk p L keep c)→kP x.1→kP y.1→Al p L x.1 y.1→rowR p x.2 y.2→Al p L (asksL t x l).1 (asksL t y (l.filter keep)).1∧rowR p (asksL t x l).2 (asksL t y (l.filter keep)).2:=by
 intro l
 induction l with
 | nil=>intro x y _ _ _ h g; exact⟨h,g⟩
 | cons c r ih=>
  intro x y hk hx hy h g
  have hr:∀d∈r,keepOk p L keep d:=fun d hd=>hk d (List.mem_cons_of_mem _ hd)
  have hc:=hk c List.mem_cons_self
  have dx:=(hx.do c).1
  have dy:=(hy.do c).1
  by_cases e:keep c=true
  ·rw[List.filter_cons_of_pos e]
   refine ih (askL t x c) (askL t y c) hr dx dy ?_ ?_
   ·by_cases cp:c.Part=(p:Int)
    ·refine (h.own hx hy cp ?_).2
     rcases hc.1 e with ⟨_,a⟩ | ⟨a,_⟩
     ·exact a
     ·exact .inl a
    ·rcases hc.1 e with ⟨a,_⟩ | ⟨a,b⟩
     ·exact absurd a cp
     ·subst a; exact h.sent hx hy b
   ·by_cases cp:c.Part=(p:Int)
    ·have hq:=(h.own hx hy cp (by
      rcases hc.1 e with ⟨_,a⟩ | ⟨a,_⟩
      ·exact a
      ·exact .inl a)).1
     show rowR p (sawStep t c (doK x.1 c).2.1 (doK x.1 c).2.2 x.2) (sawStep t c (doK y.1 c).2.1 (doK y.1 c).2.2 y.2)
     rw[hq]
     exact saw_own g cp _ _ _
    ·exact (saw_other cp _ _ _).trans (g.trans (saw_other cp _ _ _).symm)
  ·have e:keep c=false:=by simpa using e
   rw[List.filter_cons_of_neg (by rw[e]; decide)]
   obtain⟨a,b⟩:=hc.2 e
   exact ih (askL t x c) y hr dx hy ((Al.drop hx a b).trans h) ((saw_other a _ _ _).trans g)
/-! Ticks. -/
theorem tkP_al {p:Nat} {L:Bool} {s u:KernelState} (h:Al p L s u):tkP s (whoK s) p=tkP u (whoK u) p:=by
 unfold tkP whoK
 rw[h.part,h.tab,h.now]
theorem tick_alone {p:Nat} {L:Bool} {s u:KernelState} (h:Al p L s u) (hs:kP s) (hu:kP u):Al p L (tickK s) (tickK u)∧(ranK s).length=(ranK u).length∧(ranK s)[p]?=(ranK u)[p]?:=by
 have e:=tkP_al h
 refine⟨⟨h.tab,by show s.Now+1=u.Now+1; rw[h.now],h.faces,by rw[tickK_len,tickK_len]; exact h.len,?_,fun hL=>?_⟩,by rw[ranK_len,ranK_len]; exact h.len,?_⟩
 ·show (partsK s)[p]?=(partsK u)[p]?
  unfold partsK
  rw[List.getElem?_map,List.getElem?_map,h.len]
  by_cases c:p<u.Parts.length
  ·rw[List.getElem?_range c]
   show some (tkP s (whoK s) p).1=some (tkP u (whoK u) p).1
   rw[e]
  ·rw[List.getElem?_eq_none (by simp; omega)]; rfl
 ·show lnsR (p:Int) (delK s) (delK u)
  rw[delK_eq hs,delK_eq hu,h.now,h.tab]
  split
  ·exact (h.lines hL).del
  ·exact h.lines hL
 ·unfold ranK
  rw[List.getElem?_map,List.getElem?_map,h.len]
  by_cases c:p<u.Parts.length
  ·rw[List.getElem?_range c]
   show some (tkP s (whoK s) p).2=some (tkP u (whoK u) p).2
   rw[e]
  ·rw[List.getElem?_eq_none (by simp; omega)]; rfl
theorem ran_alone {p:Nat} {R T:List (List Int)} {r q:List Int} (h:rowR p R T) (h1:r.length=q.length) (h2:r[p]?=q[p]?):rowR p (ranStep r R) (ranStep q T):=by
 unfold ranStep
 refine⟨by rw[List.length_zipWith,List.length_zipWith,h.1,h1],?_⟩
 rw[List.getElem?_zipWith,List.getElem?_zipWith,h.2,h2]
structure Al2 (p:Nat) (L:Bool) (x y:PlayS):Prop where
 s:Al p L x.s y.s
 saws:rowR p x.saws y.saws
 rans:rowR p x.rans y.rans
theorem play_alone {p:Nat} {L:Bool} {keep:KernelCmd→Bool} {s:KernelState} (h:kP s) (h0:s.Now=0) (sc:List (List KernelCmd)) (hk:∀l∈sc,∀c∈l,keepOk p L keep c):∀k,k≤80000→Al2 p L (playK s sc k) (playK s (sc.map fun l=>l.filter keep) k)
 | 0,_=>⟨Al.rfl' _ _ _,⟨rfl,rfl⟩,⟨rfl,rfl⟩⟩
 | k+1,hk2=>by
  obtain⟨a,b,c⟩:=play_alone h h0 sc hk k (by omega)
  have k1:=(playK_ok h sc h0 k (by omega)).1
  have k2:=(playK_ok h (sc.map fun l=>l.filter keep) h0 k (by omega)).1
  have eg:(sc.map fun l=>l.filter keep).getD k []=(sc.getD k []).filter keep:=by
   rw[List.getD_eq_getElem?_getD,List.getD_eq_getElem?_getD,List.getElem?_map]
   cases sc[k]? <;> rfl
  have hm:∀d∈sc.getD k [],keepOk p L keep d:=by
   rw[List.getD_eq_getElem?_getD]
   cases e:sc[k]? with
   | none=>intro d hd; exact (List.not_mem_nil hd).elim
   | some l=>exact hk l (List.mem_of_getElem? e)
  obtain⟨q1,q2⟩:=asks_alone (keep:=keep) (k:Int) (sc.getD k []) ((playK s sc k).s,(playK s sc k).saws) ((playK s (sc.map fun l=>l.filter keep) k).s,(playK s (sc.map fun l=>l.filter keep) k).saws) hm k1 k2 a b
  have m1:=(asksL_ok (t:=(k:Int)) (x:=((playK s sc k).s,(playK s sc k).saws)) k1 (sc.getD k [])).1
  have m2:=(asksL_ok (t:=(k:Int)) (x:=((playK s (sc.map fun l=>l.filter keep) k).s,(playK s (sc.map fun l=>l.filter keep) k).saws)) k2 ((sc.getD k []).filter keep)).1
  obtain⟨r1,r2,r3⟩:=tick_alone q1 m1 m2
  show Al2 p L (tickL k (playK s sc k) (sc.getD k [])) (tickL k (playK s (sc.map fun l=>l.filter keep) k) ((sc.map fun l=>l.filter keep).getD k []))
  rw[eg]
  exact⟨r1,q2,ran_alone c r2 r3⟩
theorem views_alone {p:Nat} {L:Bool} {x y:PlayS} (h:Al2 p L x y):(viewsL x).length=(viewsL y).length∧(viewsL x)[p]?=(viewsL y)[p]?:=by
 unfold viewsL
 refine⟨by rw[List.length_map,List.length_map,List.length_range,List.length_range,h.s.len],?_⟩
 rw[List.getElem?_map,List.getElem?_map,h.s.len]
 by_cases c:p<y.s.Parts.length
 ·rw[List.getElem?_range c]
  show some (WorldView.mk _ _ _)=some (WorldView.mk _ _ _)
  rw[List.getD_eq_getElem?_getD,List.getD_eq_getElem?_getD,List.getD_eq_getElem?_getD,List.getD_eq_getElem?_getD,h.saws.2,h.rans.2,h.s.part]
 ·rw[List.getElem?_eq_none (by simp; omega)]; rfl
end Go.Proofs.YtldlcdnhdedoeaaGreat
namespace Go.Proofs.YtldlcdnhdedoeaaGreat
open Go Go.VC
noncomputable def law22_with (a0:List Law21Step) (a1:Int) (a2:Bool):Option (List Law21Step):=
 lp (fun nx1 (v1:(List Law21Step)×Int)=>fk (decide (v1.2<(a0.length:Int))) (lp (fun nx2 (v2:(List KernelCmd)×Int)=>ix a0 v1.2 fun x3=>fk (decide (v2.2<(x3.Cmds.length:Int))) (jn (fun (w4:List KernelCmd)=>nx2 (w4,(wr (v2.2+(1:Int))))) (fun k4=>ix a0 v1.2 fun x5=>ix x5.Cmds v2.2 fun x6=>jn (fun (w7:Bool)=>fk w7 (ck (decide ((v2.1.length+([x6]:List KernelCmd).length)*80≤140737488355328)) (k4 (v2.1++([x6]:List KernelCmd)))) (k4 v2.1)) (fun k7=>fk (decide (x6.Part=a1)) (k7 true) (fk a2 (k7 (decide (x6.Kind=(2:Int)))) (k7 false))))) (ck (decide ((v1.1.length+([⟨v2.1⟩]:List Law21Step).length)*24≤140737488355328)) (nx1 (v1.1++([⟨v2.1⟩]:List Law21Step),(wr (v1.2+(1:Int))))))) FU ([],(0:Int))) (some v1.1)) FU ([],(0:Int))
theorem law22_with_w (a0:List Law21Step) (a1:Int) (a2:Bool) (r:List Law21Step) (h:law22_with a0 a1 a2=some r):Go.VC.Spec Tryz.prog 45 [.d (.sl (a0.map Law21Step.enc)),.d (.int .i64 a1),.d (.bool a2)] (fun y=>y=E_ListLaw21Step r):=by
 refine Go.VC.Spec.of_xc (args:=[.d (.sl (a0.map Law21Step.enc)),.d (.int .i64 a1),.d (.bool a2)]) (fn:=Tryz.f45) tab ⟨[(0,[0,1,2]),(1,[0,1,2,7]),(2,[0,1,2,7,8]),(3,[0,1,2,7,8,15]),(4,[0,1,2,7,8]),(5,[0,1,2,7,8,9]),(6,[0,1,2,7,8,9,10]),(7,[0,1,2,7,8,9,10,25]),(8,[0,1,2,7,8,9,10]),(9,[0,1,2,7,8,9,10,11]),(10,[0,1,2,7,8,9,10,11,47]),(11,[0,1,2,7,8,9,10]),(12,[0,1,2,7,8]),(13,[6])],[],[100047,8],[(55,[10])]⟩ 58 [.tmp 6] rfl rfl rfl rfl rfl rfl ?_
 conv=>whnf
 refine lpS (fun v1=>⟨[(0,.l (.d (.sl (a0.map Law21Step.enc)))),(1,.l (.d (.int .i64 a1))),(2,.l (.d (.bool a2))),(7,.l (.own 8)),(8,.l (.d (.int .i64 v1.2)))],58,[],[],[(8,108,1,v1.1.map Law21Step.enc)]⟩) h (Weak.trans (Weak.nilO _ 7 8 108 1 rfl) (Weak.refl _)) (fun _ nx1 hn1 v1 h=>?_)
 conv=>whnf
 refine lenS a0 Law21Step.enc rfl ?_
 conv=>whnf
 refine fkS h (fun h=>?_) (fun h=>?_)
 ·conv=>whnf
  refine lpS (fun v2=>⟨[(0,.l (.d (.sl (a0.map Law21Step.enc)))),(1,.l (.d (.int .i64 a1))),(2,.l (.d (.bool a2))),(7,.l (.own 8)),(8,.l (.d (.int .i64 v1.2))),(9,.l (.own 10)),(10,.l (.d (.int .i64 v2.2)))],58,[],[],[(8,108,1,v1.1.map Law21Step.enc),(10,69,8,v2.1.map KernelCmd.enc)]⟩) h (Weak.trans (Weak.nilO _ 9 10 69 8 rfl) (Weak.refl _)) (fun _ nx2 hn2 v2 h=>?_)
  conv=>whnf
  refine ixS (enc:=Law21Step.enc) h rfl (fun _=>rfl) (fun x3 h=>?_)
  conv=>whnf
  refine lenS x3.Cmds KernelCmd.enc rfl ?_
  conv=>whnf
  refine fkS h (fun h=>?_) (fun h=>?_)
  ·conv=>whnf
   refine jnS (fun w4=>⟨[(0,.l (.d (.sl (a0.map Law21Step.enc)))),(1,.l (.d (.int .i64 a1))),(2,.l (.d (.bool a2))),(7,.l (.own 8)),(8,.l (.d (.int .i64 v1.2))),(9,.l (.own 10)),(10,.l (.d (.int .i64 v2.2)))],58,[],[],[(8,108,1,v1.1.map Law21Step.enc),(10,69,8,w4.map KernelCmd.enc)]⟩) h (fun k4 hk4 h=>?_) (fun w4 h=>?_)
   ·conv=>whnf
    refine ixS (enc:=Law21Step.enc) h rfl (fun _=>rfl) (fun x5 h=>?_)
    conv=>whnf
    refine ixS (enc:=KernelCmd.enc) h rfl (fun _=>rfl) (fun x6 h=>?_)
    conv=>whnf
    refine jnS (fun w7=>⟨[(0,.l (.d (.sl (a0.map Law21Step.enc)))),(1,.l (.d (.int .i64 a1))),(2,.l (.d (.bool a2))),(7,.l (.own 8)),(8,.l (.d (.int .i64 v1.2))),(9,.l (.own 10)),(10,.l (.d (.int .i64 v2.2))),(11,.l (.ptr 12 0)),(47,.l (.d (.bool w7)))],58,[],[(12,[.d (.int .i64 x6.Part),.d (.int .i64 x6.Kind),.d (.int .i64 x6.I),.d (.int .i64 x6.V),.d (.int .i64 x6.T.C),.d (.int .i64 x6.T.D),.d (.int .i64 x6.T.T),.d (.sl (x6.T.Secs.map Sec.enc))])],[(8,108,1,v1.1.map Law21Step.enc),(10,69,8,v2.1.map KernelCmd.enc)]⟩) h (fun k7 hk7 h=>?_) (fun w7 h=>?_)
    ·conv=>whnf
     refine fkS h (fun h=>?_) (fun h=>?_)
     ·conv=>whnf
      exact jeS hk7 h (Weak.refl _)
     conv=>whnf
     refine fkS h (fun h=>?_) (fun h=>?_)
     ·conv=>whnf
      exact jeS hk7 h (Weak.refl _)
     conv=>whnf
     exact jeS hk7 h (Weak.refl _)
    conv=>whnf
    refine fkS h (fun h=>?_) (fun h=>?_)
    ·conv=>whnf
     refine liS ([x6]:List KernelCmd) KernelCmd.enc rfl rfl ?_
     conv=>whnf
     refine apS (enc:=KernelCmd.enc) (l1:=v2.1) (l2:=([x6]:List KernelCmd)) h rfl rfl (fun _=>rfl) (fun h=>?_)
     conv=>whnf
     exact jeS hk4 h (Weak.refl _)
    conv=>whnf
    refine jeX hk4 h ?_
    conv=>whnf
    refine WkF.step (Weak.keepS _ [0,1,2,7,8,9,10]) ?_
    conv=>whnf
    exact WkF.refl _
   conv=>whnf
   exact leS hn2 h (Weak.refl _)
  conv=>whnf
  refine liS ([⟨v2.1⟩]:List Law21Step) Law21Step.enc rfl rfl ?_
  conv=>whnf
  refine apS (enc:=Law21Step.enc) (l1:=v1.1) (l2:=([⟨v2.1⟩]:List Law21Step)) h rfl rfl (fun _=>rfl) (fun h=>?_)
  conv=>whnf
  exact leS hn1 h (Weak.refl _)
 conv=>whnf
 exact rt (E:=E_ListLaw21Step) h rfl
end Go.Proofs.YtldlcdnhdedoeaaGreat
namespace Go.Proofs.YtldlcdnhdedoeaaGreat
open Go Go.VC
noncomputable def law22_WorldAlone (a0:List Int) (a1:List Law21Step) (a2:Int):Option Bool:=
 bnd (law22_Great a0 a1) fun x1=>fk x1 (bnd law22_knows fun x2=>some x2) (ck (decide ((([]:List Int).length+a0.length)*1≤140737488355328)) (bnd (law22_script a1) fun x3=>bnd (world_Play (([]:List Int)++a0) x3) fun x4=>ck (decide ((([]:List Int).length+a0.length)*1≤140737488355328)) (bnd (law22_with a1 a2 true) fun x5=>bnd (law22_script x5) fun x6=>bnd (world_Play (([]:List Int)++a0) x6) fun x7=>ck (decide ((([]:List Int).length+a0.length)*1≤140737488355328)) (bnd (law22_with a1 a2 false) fun x8=>bnd (law22_script x8) fun x9=>bnd (world_Play (([]:List Int)++a0) x9) fun x10=>jn (fun (w11:Bool)=>fk w11 (some false) (jn (fun (w12:Bool)=>fk w12 (bnd law22_knows fun x13=>some x13) (lp (fun nx14 (v14:Bool×Int)=>fk (decide (v14.2<(a1.length:Int))) (lp (fun nx15 (v15:Bool×Int)=>ix a1 v14.2 fun x16=>fk (decide (v15.2<(x16.Cmds.length:Int))) (jn (fun (w17:Bool)=>nx15 (w17,(wr (v15.2+(1:Int))))) (fun k17=>ix a1 v14.2 fun x18=>ix x18.Cmds v15.2 fun x19=>fk v15.1 (fk (!decide (x19.Part=a2)) (k17 true) (fk (!decide (x19.Kind=(2:Int))) (k17 (!decide (x19.Kind=(3:Int)))) (k17 false))) (k17 false))) (nx14 (v15.1,(wr (v14.2+(1:Int)))))) FU (v14.1,(0:Int))) (ix x4.1 a2 fun x20=>ix x7.1 a2 fun x21=>bnd (law22_Same x20 x21) fun x22=>fk x22 (fk (!v14.1) (bnd law22_knows fun x23=>some x23) (ix x4.1 a2 fun x24=>ix x10.1 a2 fun x25=>bnd (law22_Same x24 x25) fun x26=>fk x26 (bnd law22_knows fun x27=>some x27) (some false))) (some false))) FU (true,(0:Int)))) (fun k12=>fk (decide (a2<(0:Int))) (k12 true) (k12 (decide (a2≥(x4.1.length:Int))))))) (fun k11=>fk (!decide (x4.2=x7.2)) (k11 true) (fk (!decide (x4.2=x10.2)) (k11 true) (fk (!decide ((x4.1.length:Int)=(x7.1.length:Int))) (k11 true) (k11 (!decide ((x4.1.length:Int)=(x10.1.length:Int)))))))))))
theorem law22_WorldAlone_w (a0:List Int) (a1:List Law21Step) (a2:Int) (r:Bool) (h:law22_WorldAlone a0 a1 a2=some r):Go.VC.Spec Tryz.prog 8 [.d (.sl (a0.map (eI .u8))),.d (.sl (a1.map Law21Step.enc)),.d (.int .i64 a2)] (fun y=>y=E_Bool r):=by
 refine Go.VC.Spec.of_xc (args:=[.d (.sl (a0.map (eI .u8))),.d (.sl (a1.map Law21Step.enc)),.d (.int .i64 a2)]) (fn:=Tryz.f8) tab ⟨[(0,[0,1,2]),(1,[0,1,2,19]),(2,[6]),(3,[0,1,2,7,8]),(4,[0,1,2,7,8,9,10]),(5,[1,2,7,8,9,10,11,12]),(6,[1,2,7,9,11,73]),(7,[6]),(8,[1,2,7,9,11,81]),(9,[6]),(10,[1,2,7,9,11,13]),(11,[1,2,7,9,11,13,14]),(12,[1,2,7,9,11,13,14,86]),(13,[1,2,7,9,11,13,14]),(14,[1,2,7,9,11,13,14,15]),(15,[1,2,7,9,11,13,14,15,96]),(16,[1,2,7,9,11,13,14,15]),(17,[1,2,7,9,11,13,14,15,16]),(18,[1,2,7,9,11,13,14,15]),(19,[6])],[],[100073,100081,16],[]⟩ 151 [.tmp 6] rfl rfl rfl rfl rfl rfl ?_
 conv=>whnf
 refine caS (E:=E_Bool) h (law22_Great_w a0 a1) rfl (fun _=>rfl) (fun x1 h=>?_)
 conv=>whnf
 refine fkS h (fun h=>?_) (fun h=>?_)
 ·conv=>whnf
  refine caS (E:=E_Bool) h law22_knows_w rfl (fun _=>rfl) (fun x2 h=>?_)
  conv=>whnf
  exact rt (E:=E_Bool) h rfl
 conv=>whnf
 refine liS ([]:List Int) (eI .u8) rfl rfl ?_
 conv=>whnf
 refine apS (enc:=(eI .u8)) (l1:=([]:List Int)) (l2:=a0) h rfl rfl (fun _=>rfl) (fun h=>?_)
 conv=>whnf
 refine ccS (E:=E_ListListKernelCmd) h (law22_script_w a1) rfl rfl (fun x3 h=>?_)
 conv=>whnf
 refine iceS 25 ?_
 conv=>whnf
 refine ccS (E:=E_ListWorldView_Int) h (world_Play_w (([]:List Int)++a0) x3) rfl rfl (fun x4 h=>?_)
 conv=>whnf
 refine liS ([]:List Int) (eI .u8) rfl rfl ?_
 conv=>whnf
 refine apS (enc:=(eI .u8)) (l1:=([]:List Int)) (l2:=a0) h rfl rfl (fun _=>rfl) (fun h=>?_)
 conv=>whnf
 refine ccS (E:=E_ListLaw21Step) h (law22_with_w a1 a2 true) rfl rfl (fun x5 h=>?_)
 conv=>whnf
 refine ccS (E:=E_ListListKernelCmd) h (law22_script_w x5) rfl rfl (fun x6 h=>?_)
 conv=>whnf
 refine iceS 34 ?_
 conv=>whnf
 refine ccS (E:=E_ListWorldView_Int) h (world_Play_w (([]:List Int)++a0) x6) rfl rfl (fun x7 h=>?_)
 conv=>whnf
 refine liS ([]:List Int) (eI .u8) rfl rfl ?_
 conv=>whnf
 refine apS (enc:=(eI .u8)) (l1:=([]:List Int)) (l2:=a0) h rfl rfl (fun _=>rfl) (fun h=>?_)
 conv=>whnf
 refine ccS (E:=E_ListLaw21Step) h (law22_with_w a1 a2 false) rfl rfl (fun x8 h=>?_)
 conv=>whnf
 refine ccS (E:=E_ListListKernelCmd) h (law22_script_w x8) rfl rfl (fun x9 h=>?_)
 conv=>whnf
 refine iceS 45 ?_
 conv=>whnf
 refine ccS (E:=E_ListWorldView_Int) h (world_Play_w (([]:List Int)++a0) x9) rfl rfl (fun x10 h=>?_)
 conv=>whnf
 refine jnS (fun w11=>⟨[(1,.l (.d (.sl (a1.map Law21Step.enc)))),(2,.l (.d (.int .i64 a2))),(7,.l (.d (.sl (x4.1.map WorldView.enc)))),(9,.l (.d (.sl (x7.1.map WorldView.enc)))),(11,.l (.d (.sl (x10.1.map WorldView.enc)))),(73,.l (.d (.bool w11)))],151,[],[],[]⟩) h (fun k11 hk11 h=>?_) (fun w11 h=>?_)
 ·conv=>whnf
  refine fkS h (fun h=>?_) (fun h=>?_)
  ·conv=>whnf
   exact jeS hk11 h (Weak.refl _)
  conv=>whnf
  refine fkS h (fun h=>?_) (fun h=>?_)
  ·conv=>whnf
   exact jeS hk11 h (Weak.refl _)
  conv=>whnf
  refine lenS x4.1 WorldView.enc rfl ?_
  conv=>whnf
  refine lenS x7.1 WorldView.enc rfl ?_
  conv=>whnf
  refine fkS h (fun h=>?_) (fun h=>?_)
  ·conv=>whnf
   exact jeS hk11 h (Weak.refl _)
  conv=>whnf
  refine lenS x4.1 WorldView.enc rfl ?_
  conv=>whnf
  refine lenS x10.1 WorldView.enc rfl ?_
  conv=>whnf
  exact jeS hk11 h (Weak.refl _)
 conv=>whnf
 refine fkS h (fun h=>?_) (fun h=>?_)
 ·conv=>whnf
  exact rt (E:=E_Bool) h rfl
 conv=>whnf
 refine jnS (fun w12=>⟨[(1,.l (.d (.sl (a1.map Law21Step.enc)))),(2,.l (.d (.int .i64 a2))),(7,.l (.d (.sl (x4.1.map WorldView.enc)))),(9,.l (.d (.sl (x7.1.map WorldView.enc)))),(11,.l (.d (.sl (x10.1.map WorldView.enc)))),(81,.l (.d (.bool w12)))],151,[],[],[]⟩) h (fun k12 hk12 h=>?_) (fun w12 h=>?_)
 ·conv=>whnf
  refine fkS h (fun h=>?_) (fun h=>?_)
  ·conv=>whnf
   exact jeS hk12 h (Weak.refl _)
  conv=>whnf
  refine lenS x4.1 WorldView.enc rfl ?_
  conv=>whnf
  exact jeS hk12 h (Weak.refl _)
 conv=>whnf
 refine fkS h (fun h=>?_) (fun h=>?_)
 ·conv=>whnf
  refine caS (E:=E_Bool) h law22_knows_w rfl (fun _=>rfl) (fun x13 h=>?_)
  conv=>whnf
  exact rt (E:=E_Bool) h rfl
 conv=>whnf
 refine lpS (fun v14=>⟨[(1,.l (.d (.sl (a1.map Law21Step.enc)))),(2,.l (.d (.int .i64 a2))),(7,.l (.d (.sl (x4.1.map WorldView.enc)))),(9,.l (.d (.sl (x7.1.map WorldView.enc)))),(11,.l (.d (.sl (x10.1.map WorldView.enc)))),(13,.l (.d (.bool v14.1))),(14,.l (.d (.int .i64 v14.2)))],151,[],[],[]⟩) h (Weak.refl _) (fun _ nx14 hn14 v14 h=>?_)
 conv=>whnf
 refine lenS a1 Law21Step.enc rfl ?_
 conv=>whnf
 refine fkS h (fun h=>?_) (fun h=>?_)
 ·conv=>whnf
  refine lpS (fun v15=>⟨[(1,.l (.d (.sl (a1.map Law21Step.enc)))),(2,.l (.d (.int .i64 a2))),(7,.l (.d (.sl (x4.1.map WorldView.enc)))),(9,.l (.d (.sl (x7.1.map WorldView.enc)))),(11,.l (.d (.sl (x10.1.map WorldView.enc)))),(13,.l (.d (.bool v15.1))),(14,.l (.d (.int .i64 v14.2))),(15,.l (.d (.int .i64 v15.2)))],151,[],[],[]⟩) h (Weak.refl _) (fun _ nx15 hn15 v15 h=>?_)
  conv=>whnf
  refine ixS (enc:=Law21Step.enc) h rfl (fun _=>rfl) (fun x16 h=>?_)
  conv=>whnf
  refine lenS x16.Cmds KernelCmd.enc rfl ?_
  conv=>whnf
  refine fkS h (fun h=>?_) (fun h=>?_)
  ·conv=>whnf
   refine jnS (fun w17=>⟨[(1,.l (.d (.sl (a1.map Law21Step.enc)))),(2,.l (.d (.int .i64 a2))),(7,.l (.d (.sl (x4.1.map WorldView.enc)))),(9,.l (.d (.sl (x7.1.map WorldView.enc)))),(11,.l (.d (.sl (x10.1.map WorldView.enc)))),(13,.l (.d (.bool w17))),(14,.l (.d (.int .i64 v14.2))),(15,.l (.d (.int .i64 v15.2)))],151,[],[],[]⟩) h (fun k17 hk17 h=>?_) (fun w17 h=>?_)
   ·conv=>whnf
    refine ixS (enc:=Law21Step.enc) h rfl (fun _=>rfl) (fun x18 h=>?_)
    conv=>whnf
    refine ixS (enc:=KernelCmd.enc) h rfl (fun _=>rfl) (fun x19 h=>?_)
    conv=>whnf
    refine fkS h (fun h=>?_) (fun h=>?_)
    ·conv=>whnf
     refine fkS h (fun h=>?_) (fun h=>?_)
     ·conv=>whnf
      exact jeS hk17 h (Weak.refl _)
     conv=>whnf
     refine fkS h (fun h=>?_) (fun h=>?_)
     ·conv=>whnf
      exact jeS hk17 h (Weak.refl _)
     conv=>whnf
     exact jeS hk17 h (Weak.refl _)
    conv=>whnf
    exact jeS hk17 h (Weak.refl _)
   conv=>whnf
   exact leS hn15 h (Weak.refl _)
  conv=>whnf
  exact leS hn14 h (Weak.refl _)
 conv=>whnf
 refine⟨27,?_⟩
 conv=>whnf
 refine ixS (enc:=WorldView.enc) h rfl (fun _=>rfl) (fun x20 h=>?_)
 conv=>whnf
 refine ixS (enc:=WorldView.enc) h rfl (fun _=>rfl) (fun x21 h=>?_)
 conv=>whnf
 refine daS (E:=E_Bool) h (law22_Same_w x20 x21) (fun _=>rfl) (fun x22 h=>?_)
 conv=>whnf
 refine fkS h (fun h=>?_) (fun h=>?_)
 ·conv=>whnf
  refine fkS h (fun h=>?_) (fun h=>?_)
  ·conv=>whnf
   refine daS (E:=E_Bool) h law22_knows_w (fun _=>rfl) (fun x23 h=>?_)
   conv=>whnf
   refine drS (by kernel_rfl) ?_
   conv=>whnf
   exact rt (E:=E_Bool) h rfl
  conv=>whnf
  refine ixS (enc:=WorldView.enc) h rfl (fun _=>rfl) (fun x24 h=>?_)
  conv=>whnf
  refine ixS (enc:=WorldView.enc) h rfl (fun _=>rfl) (fun x25 h=>?_)
  conv=>whnf
  refine daS (E:=E_Bool) h (law22_Same_w x24 x25) (fun _=>rfl) (fun x26 h=>?_)
  conv=>whnf
  refine fkS h (fun h=>?_) (fun h=>?_)
  ·conv=>whnf
   refine daS (E:=E_Bool) h law22_knows_w (fun _=>rfl) (fun x27 h=>?_)
   conv=>whnf
   refine drS (by kernel_rfl) ?_
   conv=>whnf
   exact rt (E:=E_Bool) h rfl
  conv=>whnf
  refine drS (by kernel_rfl) ?_
  conv=>whnf
  exact rt (E:=E_Bool) h rfl
 conv=>whnf
 refine drS (by kernel_rfl) ?_
 conv=>whnf
 exact rt (E:=E_Bool) h rfl
end Go.Proofs.YtldlcdnhdedoeaaGreat
namespace Go.Proofs.YtldlcdnhdedoeaaGreat
open Go Go.VC
def keepW (p:Int) (s:Bool) (c:KernelCmd):Bool:=keepC p s c.Part c.Kind
def withL (p:Int) (s:Bool) (l:List Law21Step):List Law21Step:=l.map fun x=>⟨x.Cmds.filter (keepW p s)⟩
theorem withL_cmds (p:Int) (s:Bool) (l:List Law21Step):(withL p s l).map (·.Cmds)=(l.map (·.Cmds)).map fun x=>x.filter (keepW p s):=by
 unfold withL
 rw[List.map_map,List.map_map]; rfl
theorem law22_with_eq (l:List Law21Step) (p:Int) (s:Bool) (hl:l.length≤1000000000) (hc:∀x∈l,x.Cmds.length≤1000000000):law22_with l p s=some (withL p s l):=by
 unfold law22_with
 refine lp_upS l.length (by unfold FU; omega) (fun k o=>o=withL p s (l.take k)) [] rfl ?_
 rintro nx k o hk rfl hnx
 have hk9:k≤1000000000:=by omega
 simp only
 rw[lt_nat]
 by_cases h:k<l.length
 rotate_left
 ·rw[decide_eq_false h,fk_f]
  have e:k=l.length:=by omega
  rw[e,List.take_length]
 have hx:=hc _ (List.getElem_mem h)
 rw[decide_eq_true h,fk_t]
 refine lp_upS l[k].Cmds.length (by unfold FU; omega) (fun j o=>o=(l[k].Cmds.take j).filter (keepW p s)) [] rfl ?_
 rintro nx2 j o hj rfl hnx2
 have hj9:j≤1000000000:=by omega
 simp only
 rw[ix_lt h,lt_nat]
 by_cases hjl:j<l[k].Cmds.length
 ·rw[decide_eq_true hjl,fk_t,jn_eq,ix_lt h,ix_lt hjl,wr_succ j _ hjl (by omega)]
  have hs:=flt_succ (keepW p s) l[k].Cmds j hjl
  have hn:=hnx2 _ hjl rfl
  rw[hs] at hn
  generalize l[k].Cmds[j]=c at hn ⊢
  refine jn_to (keepW p s c) (fun k7=>?_) ?_
  ·unfold keepW keepC
   by_cases e:c.Part=p
   ·rw[decide_eq_true e,fk_t,if_pos e]
   ·rw[decide_eq_false e,fk_f,if_neg e]
    cases s
    ·rw[fk_f]; rfl
    ·rw[fk_t]; rfl
  ·cases hq:keepW p s c
   ·rw[fk_f]; rw[hq] at hn; simpa using hn
   ·rw[fk_t,ck_le 80 (by decide) (Nat.le_trans (flt_len _ _ _) hj9)]; rw[hq] at hn; exact hn
 ·have hlen:(withL p s (l.take k)).length≤1000000000:=Nat.le_trans (map_take_len _ _ _) hk9
  rw[decide_eq_false hjl,fk_f,ck_le 24 (by decide) hlen,wr_succ k _ h (by omega)]
  have e:j=l[k].Cmds.length:=by omega
  rw[e,List.take_length]
  exact hnx _ h (map_take_succ _ l k h).symm
theorem ix_some' {α β:Type} {l:List α} {k:Nat} {x:α} {f:α→Option β} (h:l[k]?=some x):ix l (k:Int) f=f x:=by
 have hk:=(List.getElem?_eq_some_iff.1 h).1
 rw[ix_lt hk]
 rw[List.getElem?_eq_getElem hk] at h
 rw[Option.some.inj h]
def plainC (p:Int) (c:KernelCmd):Prop:=c.Part=p→c.Kind≠2∧c.Kind≠3
theorem alone_tail (a1:List Law21Step) (a2:Int) (x4 x7 x10:List WorldView×Int) (hl:a1.length≤1000000000) (hc:∀x∈a1,x.Cmds.length≤1000000000) (e1:x4.2=x7.2) (e2:x4.2=x10.2) (e3:x4.1.length=x7.1.length) (e4:x4.1.length=x10.1.length)
  (H:∀n:Nat,a2=(n:Int)→n<x4.1.length→x4.1[n]?=x7.1[n]?∧((∀x∈a1,∀c∈x.Cmds,plainC a2 c)→x4.1[n]?=x10.1[n]?)) (hB:∀x∈x4.1,law22_Same x x=some true) :
  jn (fun (w11:Bool)=>fk w11 (some false) (jn (fun (w12:Bool)=>fk w12 (bnd law22_knows fun x13=>some x13) (lp (fun nx14 (v14:Bool×Int)=>fk (decide (v14.2<(a1.length:Int))) (lp (fun nx15 (v15:Bool×Int)=>ix a1 v14.2 fun x16=>fk (decide (v15.2<(x16.Cmds.length:Int))) (jn (fun (w17:Bool)=>nx15 (w17,(wr (v15.2+(1:Int))))) (fun k17=>ix a1 v14.2 fun x18=>ix x18.Cmds v15.2 fun x19=>fk v15.1 (fk (!decide (x19.Part=a2)) (k17 true) (fk (!decide (x19.Kind=(2:Int))) (k17 (!decide (x19.Kind=(3:Int)))) (k17 false))) (k17 false))) (nx14 (v15.1,(wr (v14.2+(1:Int)))))) FU (v14.1,(0:Int))) (ix x4.1 a2 fun x20=>ix x7.1 a2 fun x21=>bnd (law22_Same x20 x21) fun x22=>fk x22 (fk (!v14.1) (bnd law22_knows fun x23=>some x23) (ix x4.1 a2 fun x24=>ix x10.1 a2 fun x25=>bnd (law22_Same x24 x25) fun x26=>fk x26 (bnd law22_knows fun x27=>some x27) (some false))) (some false))) FU (true,(0:Int)))) (fun k12=>fk (decide (a2<(0:Int))) (k12 true) (k12 (decide (a2≥(x4.1.length:Int))))))) (fun k11=>fk (!decide (x4.2=x7.2)) (k11 true) (fk (!decide (x4.2=x10.2)) (k11 true) (fk (!decide ((x4.1.length:Int)=(x7.1.length:Int))) (k11 true) (k11 (!decide ((x4.1.length:Int)=(x10.1.length:Int)))))))=some true:=by
 refine jn_to false (fun k11=>?_) ?_
 ·rw[decide_eq_true e1,Bool.not_true,fk_f,decide_eq_true e2,Bool.not_true,fk_f,decide_eq_true (by rw[e3]),Bool.not_true,fk_f,decide_eq_true (by rw[e4]),Bool.not_true]
 rw[fk_f]
 by_cases hr:0≤a2∧a2<(x4.1.length:Int)
 rotate_left
 ·refine jn_to true (fun k12=>?_) (by rw[fk_t,bnd_eq law22_knows_eq])
  by_cases h0:a2<0
  ·rw[decide_eq_true h0,fk_t]
  ·rw[decide_eq_false h0,fk_f,decide_eq_true (by omega)]
 refine jn_to false (fun k12=>by rw[decide_eq_false (by omega),fk_f,decide_eq_false (by omega)]) ?_
 rw[fk_f]
 refine lp_inv (fun v=>a1.length-v.2.toNat) (fun v=>∃k:Nat,v.2=(k:Int)∧k≤a1.length∧(v.1=true→∀x∈a1.take k,∀c∈x.Cmds,plainC a2 c)) ?_ FU _ ⟨0,rfl,Nat.zero_le _,fun _ x h=>by simp at h⟩ (by unfold FU; simp only; omega)
 rintro nx ⟨q,kk⟩ ⟨k,rfl,hk,hJ⟩ hnx
 simp only at hJ hnx ⊢
 rw[lt_nat]
 by_cases h:k<a1.length
 ·rw[decide_eq_true h,fk_t]
  have hx:=hc _ (List.getElem_mem h)
  refine lp_inv (fun v=>a1[k].Cmds.length-v.2.toNat) (fun v=>∃j:Nat,v.2=(j:Int)∧j≤a1[k].Cmds.length∧(v.1=true→q=true∧∀c∈a1[k].Cmds.take j,plainC a2 c)) ?_ FU _ ⟨0,rfl,Nat.zero_le _,fun e=>⟨e,fun x h=>by simp at h⟩⟩ (by unfold FU; simp only; omega)
  rintro nx2 ⟨q2,jj⟩ ⟨j,rfl,hj,hJ2⟩ hnx2
  simp only at hJ2 hnx2 ⊢
  rw[ix_lt h,lt_nat]
  by_cases hjl:j<a1[k].Cmds.length
  ·rw[decide_eq_true hjl,fk_t,jn_eq,ix_lt h,ix_lt hjl,wr_succ j _ hjl (by omega)]
   have go:∀w:Bool,(w=true→q2=true∧plainC a2 a1[k].Cmds[j])→nx2 (w,((j+1:Nat):Int))=some true:=fun w hw=>hnx2 (w,((j+1:Nat):Int)) ⟨j+1,rfl,hjl,fun e=>by
    obtain⟨a,b⟩:=hw e
    obtain⟨c,d⟩:=hJ2 a
    refine⟨c,fun x hx=>?_⟩
    rcases mem_take_succ hjl hx with g | rfl
    ·exact d x g
    ·exact b⟩ (by simp only[Int.toNat_natCast]; omega)
   generalize a1[k].Cmds[j]=c at go ⊢
   cases q2 with
   | false=>
    rw[fk_f]
    exact go false fun e=>by cases e
   | true=>
    by_cases cp:c.Part=a2
    rotate_left
    ·rw[fk_t,decide_eq_false cp,Bool.not_false,fk_t]
     exact go true fun _=>⟨rfl,fun g=>absurd g cp⟩
    by_cases c2:c.Kind=2
    ·rw[fk_t,decide_eq_true cp,Bool.not_true,fk_f,decide_eq_true c2,Bool.not_true,fk_f]
     exact go false fun e=>by cases e
    by_cases c3:c.Kind=3
    ·rw[fk_t,decide_eq_true cp,Bool.not_true,fk_f,decide_eq_false c2,Bool.not_false,fk_t,decide_eq_true c3,Bool.not_true]
     exact go false fun e=>by cases e
    ·rw[fk_t,decide_eq_true cp,Bool.not_true,fk_f,decide_eq_false c2,Bool.not_false,fk_t,decide_eq_false c3,Bool.not_false]
     exact go true fun _=>⟨rfl,fun _=>⟨c2,c3⟩⟩
  ·rw[decide_eq_false hjl,fk_f,wr_succ k _ h (by omega)]
   have ej:j=a1[k].Cmds.length:=by omega
   rw[ej,List.take_length] at hJ2
   refine hnx (q2,((k+1:Nat):Int)) ⟨k+1,rfl,h,fun e=>?_⟩ (by simp only[Int.toNat_natCast]; omega)
   obtain⟨a,b⟩:=hJ2 e
   intro x hx
   rcases mem_take_succ h hx with g | rfl
   ·exact hJ a x g
   ·exact b
 ·have ek:k=a1.length:=by omega
  rw[ek,List.take_length] at hJ
  rw[decide_eq_false h,fk_f]
  obtain⟨n,rfl⟩:∃n:Nat,a2=(n:Int):=⟨a2.toNat,by omega⟩
  have hn:n<x4.1.length:=by omega
  obtain⟨h1,h2⟩:=H n rfl hn
  have g4:x4.1[n]?=some x4.1[n]:=List.getElem?_eq_getElem hn
  have hs:=hB _ (List.getElem_mem hn)
  rw[g4] at h1 h2
  rw[ix_some' g4,ix_some' h1.symm,bnd_eq hs,fk_t]
  cases q with
  | false=>rw[Bool.not_false,fk_t,bnd_eq law22_knows_eq]
  | true=>
   have h3:=h2 (hJ rfl)
   rw[Bool.not_true,fk_f,ix_some' g4,ix_some' h3.symm,bnd_eq hs,fk_t,bnd_eq law22_knows_eq]
end Go.Proofs.YtldlcdnhdedoeaaGreat
namespace Go.Proofs.YtldlcdnhdedoeaaGreat
open Go Go.VC
/-! How a system begins, without the document's answer. -/
theorem lay_k (l:List Face):∃r:List Int×Int,synth_Lay l=some r∧(r.2=0→1≤r.1.length∧r.1.length≤240∧(∀x∈r.1,-1≤x∧x<4)∧facesP l)∧(r.2≠0→r.1=[]∧(r.2=1∨r.2=5∨r.2=7)):=by
 by_cases h:facesP l∧lcmF 1 l≤240
 ·obtain⟨hl,hF⟩:=h
  obtain⟨r,e1,h1⟩:=synth_Lay_ok l hl hF
  have hpos:=lcmF_pos l 1 (by omega) fun f hf=>(hl.1 f hf).P.1
  refine⟨r,e1,fun h0=>?_,fun h0=>?_⟩
  ·rcases h1 with ⟨o,w,a,b,rfl⟩ | ⟨t,ht,o,w,a,b,rfl⟩
   ·obtain⟨g1,_,_,g4⟩:=a.ok hl
    refine⟨by show 1≤o.length; omega,by show o.length≤240; omega,fun x hx=>?_,hl⟩
    have:=g4 x hx
    have:=hl.2
    omega
   ·exact absurd h0 (by decide)
  ·rcases h1 with ⟨o,w,a,b,rfl⟩ | ⟨t,ht,o,w,a,b,rfl⟩
   ·exact absurd rfl h0
   ·exact⟨rfl,.inr (.inr rfl)⟩
 ·have ef:(frameV l).2≠0∧((frameV l).2=1∨(frameV l).2=5):=by
   unfold frameV
   by_cases hl:facesP l
   ·rw[if_pos hl,if_neg (fun hF=>h ⟨hl,hF⟩)]; exact⟨by decide,.inr rfl⟩
   ·rw[if_neg hl]; exact⟨by decide,.inl rfl⟩
  refine⟨([],(frameV l).2),?_,fun h0=>absurd h0 ef.1,fun _=>⟨rfl,ef.2.elim .inl fun h=>.inr (.inl h)⟩⟩
  ·unfold synth_Lay
   rw[bnd_eq (synth_Frame_eq l),decide_eq_false ef.1,Bool.not_false,fk_t]
theorem table_Make_k (l:List Face):(∃t,table_Make l=some (t,0)∧tabP t)∨∃e,e≠0∧table_Make l=some (⟨0,[]⟩,e):=by
 obtain⟨r,e1,h1,h2⟩:=lay_k l
 by_cases c:r.2=0
 ·obtain⟨a,b,d,_⟩:=h1 c
  obtain⟨t,f1,f2,_⟩:=table_Of_ex r.1 a b d
  refine .inl ⟨t,?_,f2⟩
  unfold table_Make
  rw[bnd_eq e1,decide_eq_true c,Bool.not_true,fk_f,bnd_eq f1]
 ·refine .inr ⟨r.2,c,?_⟩
  unfold table_Make
  rw[bnd_eq e1,decide_eq_false c,Bool.not_false,fk_t]
theorem bootK {c:Config} {t:TableTable} (hc:confP c) (hT:tabP t):kP ⟨t,c.Parts.map (·.Face),c.Parts.map fun p=>new0 p.Tasks,c.Ports.map newL,0⟩:=by
 refine⟨hT,fun p hp=>?_,?_,?_,linesP_new hc.qs hc.ql,Int.le_refl _,by show (0:Int)≤100000; omega⟩
 ·obtain⟨q,hq,rfl⟩:=List.mem_map.1 hp
  exact okS_new (hc.ps q hq).2
 ·show (c.Parts.map _).length≤4
  rw[List.length_map]; exact hc.pl
 ·show (c.Parts.map _).length=(c.Parts.map _).length
  rw[List.length_map,List.length_map]
theorem boot_k (c:Config) (hb:confB c):(∃e,e≠0∧kernel_Boot c=some (zeroK,e))∨∃s,kernel_Boot c=some (s,0)∧kP s∧s.Now=0:=by
 by_cases hc:confP c
 rotate_left
 ·refine .inl ⟨1,by decide,?_⟩
  unfold kernel_Boot
  rw[bnd_eq (image_Right_eq c hb),decide_eq_false hc,Bool.not_false,fk_t]; rfl
 have h4:=hc.pl
 rcases table_Make_k (c.Parts.map (·.Face)) with ⟨t,eT,hT⟩ | ⟨e,h0,eT⟩
 rotate_left
 ·refine .inl ⟨e,h0,?_⟩
  unfold kernel_Boot
  rw[bnd_eq (image_Right_eq c hb),decide_eq_true hc,Bool.not_true,fk_f]
  refine lp_upS c.Parts.length (by unfold FU; omega) (fun k s=>s=(c.Parts.take k).map (·.Face)) [] rfl ?_
  rintro nx k s hk rfl hnx
  dsimp only
  rw[lt_nat]
  by_cases hk':k<c.Parts.length
  ·rw[decide_eq_true hk',fk_t,ix_lt hk',ck_t (by simp; omega),wr_succ k _ hk' (by omega)]
   refine hnx _ hk' ?_
   rw[←List.take_append_getElem hk',List.map_append]; rfl
  ·rw[decide_eq_false hk',fk_f,List.take_of_length_le (by omega)]
   rw[bnd_eq eT,decide_eq_false h0,Bool.not_false,fk_t]; rfl
 have hop:(∀p∈c.Ports,portP p)∧c.Ports.length≤4:=⟨hc.qs,hc.ql⟩
 -- all boot, or the first that doesn't
 have dich:(∀p∈c.Parts,bootE p=0)∨∃(k:Nat) (h:k<c.Parts.length),bootE c.Parts[k]≠0∧∀p∈c.Parts.take k,bootE p=0:=by
  have:∀n,n≤c.Parts.length→(∀p∈c.Parts.take n,bootE p=0)∨∃(k:Nat) (h:k<c.Parts.length),bootE c.Parts[k]≠0∧∀p∈c.Parts.take k,bootE p=0:=by
   intro n
   induction n with
   | zero=>intro _; exact .inl fun p h=>by simp at h
   | succ n ih=>
    intro hn
    rcases ih (by omega) with h | h
    ·by_cases e:bootE (c.Parts[n]'(by omega))=0
     ·refine .inl fun p hp=>?_
      rcases mem_take_succ (by omega) hp with h' | rfl
      ·exact h p h'
      ·exact e
     ·exact .inr ⟨n,by omega,e,h⟩
    ·exact .inr h
  rcases this c.Parts.length (Nat.le_refl _) with h | h
  ·rw[List.take_length] at h; exact .inl h
  ·exact .inr h
 have kb:∀r',lp (fun nx5 (v5:(List PartState)×Int)=>fk (decide (v5.2<(c.Parts.length:Int))) (ix c.Parts v5.2 fun x6=>bnd (admit_Boot x6) fun x7=>fk (!decide (x7.2=(0:Int))) (some (zeroK,x7.2)) (ck (decide ((v5.1.length+([x7.1]:List PartState).length)*120≤140737488355328)) (nx5 (v5.1++([x7.1]:List PartState),(wr (v5.2+(1:Int))))))) (bnd (port_Open c.Ports) fun x8=>some (⟨t,c.Parts.map (·.Face),v5.1,x8.1,(0:Int)⟩,(0:Int)))) FU ([],(0:Int))=some r'→kernel_Boot c=some r':=by
  intro r' hr
  unfold kernel_Boot
  rw[bnd_eq (image_Right_eq c hb),decide_eq_true hc,Bool.not_true,fk_f]
  refine lp_upS c.Parts.length (by unfold FU; omega) (fun k s=>s=(c.Parts.take k).map (·.Face)) [] rfl ?_
  rintro nx k s hk rfl hnx
  dsimp only
  rw[lt_nat]
  by_cases hk':k<c.Parts.length
  ·rw[decide_eq_true hk',fk_t,ix_lt hk',ck_t (by simp; omega),wr_succ k _ hk' (by omega)]
   refine hnx _ hk' ?_
   rw[←List.take_append_getElem hk',List.map_append]; rfl
  ·rw[decide_eq_false hk',fk_f,List.take_of_length_le (by omega)]
   rw[bnd_eq eT,decide_eq_true rfl,Bool.not_true,fk_f]
   exact hr
 rcases dich with hall | ⟨q,hq,hqe,hqa⟩
 ·refine .inr ⟨⟨t,c.Parts.map (·.Face),c.Parts.map fun p=>new0 p.Tasks,c.Ports.map newL,0⟩,kb _ ?_,bootK hc hT,rfl⟩
  ·skip
   refine lp_upS c.Parts.length (by unfold FU; omega) (fun k s=>s=(c.Parts.take k).map fun p=>new0 p.Tasks) [] rfl ?_
   rintro nx k s hk rfl hnx
   dsimp only
   rw[lt_nat]
   by_cases hk':k<c.Parts.length
   ·have hm:=List.getElem_mem hk'
    rw[decide_eq_true hk',fk_t,ix_lt hk',bnd_eq (admit_Boot_eq _ (hb.t _ hm).1 (hb.t _ hm).2),if_pos (hall _ hm)]
    dsimp only
    rw[decide_eq_true rfl,Bool.not_true,fk_f,ck_t (by simp; omega),wr_succ k _ hk' (by omega)]
    refine hnx _ hk' ?_
    rw[←List.take_append_getElem hk',List.map_append]; rfl
   ·rw[decide_eq_false hk',fk_f,List.take_of_length_le (by omega),bnd_eq (port_Open_eq _ hb.q),if_pos hop]
 ·refine .inl ⟨bootE c.Parts[q],hqe,kb _ ?_⟩
  ·skip
   refine lp_upS c.Parts.length (by unfold FU; omega) (fun k s=>s=((c.Parts.take k).map fun p=>new0 p.Tasks)∧k≤q) [] ⟨rfl,Nat.zero_le _⟩ ?_
   rintro nx k s hk ⟨rfl,hkq⟩ hnx
   dsimp only
   rw[lt_nat]
   have hk':k<c.Parts.length:=by omega
   have hm:=List.getElem_mem hk'
   rw[decide_eq_true hk',fk_t,ix_lt hk',bnd_eq (admit_Boot_eq _ (hb.t _ hm).1 (hb.t _ hm).2)]
   by_cases ek:k=q
   ·subst ek
    rw[if_neg hqe]
    dsimp only
    rw[decide_eq_false hqe,Bool.not_false,fk_t]
   ·have h0:bootE c.Parts[k]=0:=hqa _ (by
     have hlt:k<(c.Parts.take q).length:=by rw[List.length_take]; omega
     have:=List.getElem_mem hlt
     rwa [List.getElem_take] at this)
    rw[if_pos h0]
    dsimp only
    rw[decide_eq_true rfl,Bool.not_true,fk_f,ck_t (by simp; omega),wr_succ k _ hk' (by omega)]
    refine hnx _ hk' ⟨?_,by omega⟩
    rw[←List.take_append_getElem hk',List.map_append]; rfl
end Go.Proofs.YtldlcdnhdedoeaaGreat
namespace Go.Proofs.YtldlcdnhdedoeaaGreat
open Go Go.VC
def PureWorldAlone:Prop:=∀(a0:List Int) (a1:List Law21Step) (a2:Int),(a0.length*1≤BB∧∀y1∈a0,wfI .u8 y1)→(a1.length*24≤BB∧∀y1∈a1,Law21Step.wf y1)→wfI .i64 a2→law22_WorldAlone a0 a1 a2=some true
end Go.Proofs.YtldlcdnhdedoeaaGreat
