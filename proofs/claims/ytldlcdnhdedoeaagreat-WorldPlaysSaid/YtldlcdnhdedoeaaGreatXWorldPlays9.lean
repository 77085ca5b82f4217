/- Part 20 of what follows is proved here: what the statement WorldPlays needs of functions and plain laws. -/
import Derived.Test.YtldlcdnhdedoeaaGreatXWorldPlays0
import Derived.Test.YtldlcdnhdedoeaaGreatXWorldPlays7
import Derived.Test.YtldlcdnhdedoeaaGreatXWorldPlays8
set_option linter.unusedVariables false
set_option linter.unusedSimpArgs false
set_option maxRecDepth 100000
set_option maxHeartbeats 40000000
namespace Go.Proofs.YtldlcdnhdedoeaaGreat
open Go Go.VC
def sumI {α:Type} (f:α→Int):List α→Int
 | []=>0
 | x::r=>f x+sumI f r
theorem sumI_append {α:Type} (f:α→Int) (a b:List α):sumI f (a++b)=sumI f a+sumI f b:=by
 induction a with
 | nil=>simp[sumI]
 | cons x r ih=>simp only[List.cons_append,sumI,ih]; omega
theorem sumI_succ {α:Type} (f:α→Int) (l:List α) (k:Nat) (h:k<l.length):sumI f (l.take (k+1))=sumI f (l.take k)+f l[k]:=by
 rw[←List.take_append_getElem h,sumI_append]; simp[sumI]
theorem sumI_nonneg {α:Type} {f:α→Int}:∀{l:List α},(∀x∈l,0≤f x)→0≤sumI f l
 | [],_=>Int.le_refl _
 | x::r,h=>by
  have h1:=h x List.mem_cons_self
  have h2:=sumI_nonneg (f:=f) (l:=r) fun y hy=>h y (List.mem_cons_of_mem _ hy)
  simp only[sumI]; omega
theorem sumI_bound {α:Type} {f:α→Int} {n:Int}:∀{l:List α},(∀x∈l,f x≤n)→sumI f l≤n*(l.length:Int)
 | [],_=>by simp[sumI]
 | x::r,h=>by
  have h1:=h x List.mem_cons_self
  have h2:=sumI_bound (f:=f) (l:=r) fun y hy=>h y (List.mem_cons_of_mem _ hy)
  have e:n*((x::r).length:Int)=n+n*(r.length:Int):=by
   rw[List.length_cons,Int.natCast_add,Int.mul_add,Int.add_comm]; simp
  simp only[sumI]; omega
def inM (x:Int):Prop := -4611686018427387903≤x∧x≤4611686018427387903
instance (x:Int):Decidable (inM x):=by unfold inM; infer_instance
theorem arith_may_eq (l:List Int) (hl:l.length≤1000):arith_may l=some (decide (∀x∈l,inM x)):=by
 unfold arith_may
 refine lp_up l.length (by unfold FU; omega) (fun k=>∀j (h:j<l.length),j<k→inM l[j]) (fun j _ h=>by omega) ?_
 intro nx k hk J hnx
 simp only[jn_eq]
 rw[lt_nat]
 by_cases h:k<l.length
 ·rw[decide_eq_true h,fk_t,ix_lt h,wr_succ k _ h (by omega),fk_t]
  have bad:¬inM l[k]→some false=some (decide (∀x∈l,inM x)):=fun hb=>dec_f fun ha=>hb (ha _ (List.getElem_mem h))
  by_cases c1:l[k]>4611686018427387903
  ·rw[decide_eq_true c1,fk_t]; exact bad fun hh=>by unfold inM at hh; omega
  rw[decide_eq_false c1,fk_f]
  by_cases c2:l[k] < -4611686018427387903
  ·rw[decide_eq_true c2,fk_t]; exact bad fun hh=>by unfold inM at hh; omega
  rw[decide_eq_false c2,fk_f]
  refine hnx h fun j hj hjk=>?_
  by_cases e:j=k
  ·subst e; unfold inM; omega
  ·exact J j hj (by omega)
 ·rw[decide_eq_false h,fk_f]
  refine dec_t fun x hx=>?_
  obtain⟨j,hj,rfl⟩:=List.getElem_of_mem hx
  exact J j hj (by omega)
theorem arith_may2 (a b:Int):arith_may [a,b]=some (decide (inM a∧inM b)):=by
 rw[arith_may_eq _ (by simp)]; refine dec_iff ?_; simp
theorem arith_may1 (a:Int):arith_may [a]=some (decide (inM a)):=by
 rw[arith_may_eq _ (by simp)]; refine dec_iff ?_; simp
theorem arith_Floor_eq (a b:Int) (ha:0≤a) (ha2:a≤4611686018427387903) (hb:1≤b) (hb2:b≤200):arith_Floor a b=some (a/b,0):=by
 unfold arith_Floor
 simp only[jn_eq,fk_t]
 have hq0:0≤a/b:=Int.ediv_nonneg ha (by omega)
 have hq1:a/b≤a:=Int.ediv_le_self _ ha
 rw[bnd_eq (arith_may2 a b),decide_eq_true ⟨by unfold inM; omega,by unfold inM; omega⟩,Bool.not_true,fk_f,decide_eq_false (by omega:¬b<1),fk_f,ck_t (by simp; omega),ck_t (by simp; omega)]
 rw[Int.tmod_eq_emod_of_nonneg ha,Int.tdiv_eq_ediv_of_nonneg ha]
 have:=Int.emod_nonneg a (b:=b) (by omega)
 rw[decide_eq_false (by omega),fk_f,wr_in _ (by omega)]
def jobsN (t:Task) (k:Int):Int:=if k<t.D then 0 else (k-t.D)/t.T+1
theorem jobsN_b {t:Task} (h:RightP t) {k:Int} (h0:0≤k):0≤jobsN t k∧jobsN t k≤k:=by
 have hc:=h.c
 unfold jobsN
 by_cases c:k<t.D
 ·rw[if_pos c]; omega
 ·rw[if_neg c]
  have h1:=Int.ediv_nonneg (a:=k-t.D) (b:=t.T) (by omega) (by omega)
  have h2:=Int.ediv_le_self (a:=k-t.D) t.T (by omega)
  omega
theorem demand_jobs_eq (t:Task) (k:Int) (h:RightP t) (h0:0≤k) (h1:k≤4611686018427387903):demand_jobs t k=some (jobsN t k):=by
 have hc:=h.c
 have hj:=jobsN_b h h0
 unfold demand_jobs
 unfold jobsN at *
 by_cases c:k<t.D
 ·rw[decide_eq_true c,fk_t,if_pos c]
 ·rw[if_neg c] at *
  rw[decide_eq_false c,fk_f,wr_in (k-t.D) (by omega),bnd_eq (arith_Floor_eq _ _ (by omega) (by omega) (by omega) (by omega)),wr_in _ (by simp only; omega)]
theorem arith_Mul_eq (a b:Int) (ha:1≤a) (ha2:a≤200) (hb:0≤b) (hb2:b≤4611686018427387903):arith_Mul a b=some (if a*b≤4611686018427387903 then a*b else 0,if a*b≤4611686018427387903 then 0 else 5):=by
 unfold arith_Mul
 simp only[jn_eq,fk_t]
 rw[bnd_eq (arith_may2 a b),decide_eq_true ⟨by unfold inM; omega,by unfold inM; omega⟩,Bool.not_true,fk_f,decide_eq_false (by omega:¬a=0),fk_f]
 by_cases c:b=0
 ·subst c; rw[decide_eq_true rfl,fk_t]; simp
 rw[decide_eq_false c,fk_f]
 have e1:IntKind.i64.wrap (0-b)=0-b:=wr_in _ (by omega)
 have e2:IntKind.i64.wrap (0-a)=0-a:=wr_in _ (by omega)
 rw[e1,e2,if_neg (by omega:¬(0-b>b)),if_neg (by omega:¬(0-a>a)),ck_t (by simp; omega),Int.tdiv_eq_ediv_of_nonneg (by decide)]
 have hq:(4611686018427387903:Int)/b≤4611686018427387903:=Int.ediv_le_self _ (by decide)
 have hq0:0≤(4611686018427387903:Int)/b:=Int.ediv_nonneg (by decide) hb
 rw[wr_in _ (by omega)]
 have key:a>(4611686018427387903:Int)/b↔¬a*b≤4611686018427387903:=by
  rw[←Int.le_ediv_iff_mul_le (by omega)]; omega
 by_cases d:a*b≤4611686018427387903
 ·have:0≤a*b:=Int.mul_nonneg (by omega) hb
  rw[decide_eq_false (fun h=>key.1 h d),fk_f,if_pos d,if_pos d,wr_in _ (by omega)]
 ·rw[decide_eq_true (key.2 d),fk_t,if_neg d,if_neg d]
theorem arith_Add_eq (a b:Int) (ha:0≤a) (ha2:a≤4611686018427387903) (hb:0≤b) (hb2:b≤4611686018427387903):arith_Add a b=some (if a+b≤4611686018427387903 then a+b else 0,if a+b≤4611686018427387903 then 0 else 5):=by
 unfold arith_Add
 rw[bnd_eq (arith_may2 a b),decide_eq_true ⟨by unfold inM; omega,by unfold inM; omega⟩,Bool.not_true,fk_f,wr_in _ (by omega),bnd_eq (arith_may1 _)]
 by_cases d:a+b≤4611686018427387903
 ·rw[decide_eq_true (by unfold inM; omega),Bool.not_true,fk_f,if_pos d,if_pos d]
 ·rw[decide_eq_false (by unfold inM; omega),Bool.not_false,fk_t,if_neg d,if_neg d]
def costN (k:Int) (t:Task):Int:=t.C*jobsN t k
def sumB (l:List Task) (k:Int):Int:=sumI (costN k) l
theorem costN_nonneg {t:Task} (h:RightP t) {k:Int} (h0:0≤k):0≤costN k t:=Int.mul_nonneg (by have:=h.c; omega) (jobsN_b h h0).1
theorem costN_le {t:Task} (h:RightP t) {k:Int} (h0:0≤k):costN k t≤200*k:=by
 have hc:=h.c
 have hj:=jobsN_b h h0
 exact Int.mul_le_mul (by omega) hj.2 hj.1 (by omega)
def askP (l:List Task) (k:Int):Prop:=AllP l∧0≤k∧k≤4611686018427387903
instance (l:List Task) (k:Int):Decidable (askP l k):=by unfold askP; infer_instance
theorem demand_Bound_eq (l:List Task) (k:Int) (hl:l.length≤4611686018427387904):demand_Bound l k=some (if askP l k∧sumB l k≤4611686018427387903 then sumB l k else 0,if askP l k then (if sumB l k≤4611686018427387903 then 0 else 5) else 1):=by
 unfold demand_Bound
 simp only[jn_eq,fk_t]
 rw[bnd_eq (task_All_eq l hl)]
 have no:¬askP l k→some ((0:Int),(1:Int))=some (if askP l k∧sumB l k≤4611686018427387903 then sumB l k else 0,if askP l k then (if sumB l k≤4611686018427387903 then (0:Int) else 5) else 1):=fun h=>by
  rw[if_neg (fun h2=>h h2.1),if_neg h]
 by_cases ha:AllP l
 rotate_left
 ·rw[decide_eq_false ha,Bool.not_false,fk_t]; exact no fun h=>ha h.1
 rw[decide_eq_true ha,Bool.not_true,fk_f]
 by_cases c1:k<0
 ·rw[decide_eq_true c1,fk_t]; exact no fun h=>by have:=h.2.1; omega
 rw[decide_eq_false c1,fk_f]
 by_cases c2:k>4611686018427387903
 ·rw[decide_eq_true c2,fk_t]; exact no fun h=>by have:=h.2.2; omega
 rw[decide_eq_false c2,fk_f]
 have hask:askP l k:=⟨ha,by omega,by omega⟩
 rw[if_pos hask]
 refine lp_inv (fun v=>l.length-v.2.2.toNat) (fun v=>∃i:Nat,v.2.2=(i:Int)∧i≤l.length∧0≤v.1∧v.1≤4611686018427387903∧0≤sumI (costN k) (l.take i)∧((v.2.1=0∧v.1=sumI (costN k) (l.take i))∨(v.2.1=5∧sumI (costN k) (l.take i)>4611686018427387903))) ?_ FU _ ⟨0,rfl,Nat.zero_le _,by decide,by decide,by simp[sumI],.inl ⟨rfl,by simp[sumI]⟩⟩ (by show l.length-0<FU; unfold FU; omega)
 rintro nx ⟨w,s,iv⟩ ⟨i,hi,hil,hw0,hw1,hS0,J⟩ hnx
 simp only at hi hw0 hw1 J
 subst hi
 simp only
 rw[lt_nat]
 by_cases h:i<l.length
 ·have hr:=ha.1 _ (List.getElem_mem h)
  have hcc:=hr.c
  have hj:=jobsN_b hr (k:=k) (by omega)
  have hcn:=costN_nonneg hr (k:=k) (by omega)
  have hS:=sumI_succ (costN k) l i h
  have hce:costN k l[i]=l[i].C*jobsN l[i] k:=rfl
  rw[decide_eq_true h,fk_t,ix_lt h,bnd_eq (demand_jobs_eq _ _ hr (by omega) (by omega)),bnd_eq (arith_Mul_eq _ _ hcc.1 (by omega) hj.1 (by omega)),wr_succ i _ h hl]
  rw[←hce]
  by_cases c3:costN k l[i]≤4611686018427387903
  ·rw[if_pos c3,if_pos c3,bnd_eq (arith_Add_eq w (costN k l[i]) hw0 hw1 hcn c3),decide_eq_true rfl,Bool.not_true,fk_f]
   by_cases c4:w+costN k l[i]≤4611686018427387903
   ·rw[if_pos c4,if_pos c4,decide_eq_true rfl,Bool.not_true,fk_f]
    refine hnx _ ⟨i+1,rfl,h,by simp only; omega,by simp only; omega,by omega,?_⟩ (by simp only[Int.toNat_natCast]; omega)
    rcases J with ⟨j1,j2⟩ | ⟨j1,j2⟩
    ·exact .inl ⟨j1,by simp only; omega⟩
    ·exact .inr ⟨j1,by omega⟩
   ·rw[if_neg c4,if_neg c4,show decide ((5:Int)=0)=false from rfl,Bool.not_false,fk_t]
    refine hnx _ ⟨i+1,rfl,h,hw0,hw1,by omega,.inr ⟨rfl,?_⟩⟩ (by simp only[Int.toNat_natCast]; omega)
    rcases J with ⟨j1,j2⟩ | ⟨j1,j2⟩ <;> omega
  ·rw[if_neg c3,if_neg c3,bnd_eq (arith_Add_eq w 0 hw0 hw1 (by decide) (by decide)),show decide ((5:Int)=0)=false from rfl,Bool.not_false,fk_t]
   refine hnx _ ⟨i+1,rfl,h,hw0,hw1,by omega,.inr ⟨rfl,?_⟩⟩ (by simp only[Int.toNat_natCast]; omega)
   rcases J with ⟨j1,j2⟩ | ⟨j1,j2⟩ <;> omega
 ·rw[decide_eq_false h,fk_f]
  have:i=l.length:=by omega
  subst this
  rw[List.take_length] at J hS0
  have hsB:sumB l k=sumI (costN k) l:=rfl
  rcases J with ⟨j1,j2⟩ | ⟨j1,j2⟩
  ·rw[j1,decide_eq_true rfl,Bool.not_true,fk_f,if_pos ⟨hask,by omega⟩,if_pos (by omega),j2]; rfl
  ·rw[j1,show decide ((5:Int)=0)=false from rfl,Bool.not_false,fk_t,if_neg (by omega),if_neg (by omega)]
theorem sumB_le {l:List Task} (ha:AllP l) {k:Int} (h0:0≤k):sumB l k≤1600*k:=by
 have h:=sumI_bound (f:=costN k) (l:=l) fun x hx=>costN_le (ha.1 x hx) h0
 have h2:200*k*(l.length:Int)≤200*k*8:=Int.mul_le_mul_of_nonneg_left (by have:=ha.2; omega) (by omega)
 unfold sumB
 omega
theorem sumB_nonneg {l:List Task} (ha:AllP l) {k:Int} (h0:0≤k):0≤sumB l k:=sumI_nonneg fun x hx=>costN_nonneg (ha.1 x hx) h0
theorem demand_Bound_small (l:List Task) (k:Int) (ha:AllP l) (h0:0≤k) (h1:k≤2199023255552):demand_Bound l k=some (sumB l k,0):=by
 have hb:=sumB_le ha h0
 have hk:askP l k:=⟨ha,h0,by omega⟩
 rw[demand_Bound_eq l k (by have:=ha.2; omega),if_pos ⟨hk,by omega⟩,if_pos hk,if_pos (by omega)]
def stepP (T:Int) (r:List Int) (j:Nat):Prop:=∀(h:j<r.length),0≤r[j]∧r[j]≤4611686018427387903∧(0<j→r[j-1]+T≤r[j])
def rowP (T:Int) (r:List Int):Prop:=r.length≤1000∧∀j (h:j<r.length),0≤r[j]∧r[j]≤4611686018427387903∧(0<j→r[j-1]+T≤r[j])
def patP (l:List Task) (a:List (List Int)):Prop:=AllP l∧a.length=l.length∧∀i (h:i<a.length) (h2:i<l.length),rowP l[i].T a[i]
noncomputable instance (l:List Task) (a:List (List Int)):Decidable (patP l a):=Classical.propDecidable _
def great7 (l:List Task) (a:List (List Int)):Prop:=(∃r∈a,1100<r.length)∨GreatP l∨20<a.length
instance (l:List Task) (a:List (List Int)):Decidable (great7 l a):=by unfold great7; infer_instance
def sharedP (l:List Task) (t res:Int):Prop:=∃x∈l,x.D≤t∧usesP x res
instance (l:List Task) (t res:Int):Decidable (sharedP l t res):=by unfold sharedP; infer_instance
theorem block_shared_eq (l:List Task) (t res:Int) (hl:l.length≤4611686018427387904):block_shared l t res=some (decide (sharedP l t res)):=by
 unfold block_shared
 refine lp_up l.length (by unfold FU; omega) (fun k=>∀j (h:j<l.length),j<k→¬(l[j].D≤t∧usesP l[j] res)) (fun j _ h=>by omega) ?_
 intro nx k hk J hnx
 rw[lt_nat]
 by_cases h:k<l.length
 ·simp only[jn_eq]
  rw[decide_eq_true h,fk_t,ix_lt h,bnd_eq (task_Uses_eq _ _),wr_succ k _ h hl,fk_f]
  have go:¬(l[k].D≤t∧usesP l[k] res)→nx ((k+1:Nat):Int)=some (decide (sharedP l t res)):=fun hn=>hnx h fun j hj hjk=>by
   by_cases e:j=k
   ·subst e; exact hn
   ·exact J j hj (by omega)
  by_cases c1:l[k].D≤t
  ·rw[decide_eq_true c1,fk_t]
   by_cases c2:usesP l[k] res
   ·rw[decide_eq_true c2,fk_t]; exact dec_t ⟨_,List.getElem_mem h,c1,c2⟩
   ·rw[decide_eq_false c2,fk_f]; exact go fun hh=>c2 hh.2
  ·rw[decide_eq_false c1,fk_f]; exact go fun hh=>c1 hh.1
 ·rw[decide_eq_false h,fk_f]
  refine dec_f ?_
  rintro⟨x,hx,hh⟩
  obtain⟨j,hj,rfl⟩:=List.getElem_of_mem hx
  exact J j hj (by omega) hh
def secN (l:List Task) (t:Int) (s:Sec):Nat:=if sharedP l t s.Res then s.Len.toNat else 0
def taskN (l:List Task) (t:Int) (x:Task):Nat:=if x.D≤t then 0 else maxL (secN l t) x.Secs
def blockV (l:List Task) (t:Int):Nat:=maxL (taskN l t) l
theorem RightP.sl {t:Task} (h:RightP t) {s:Sec} (hs:s∈t.Secs):1≤s.Len∧s.Len≤200:=by
 have h1:=h.2.1 s hs
 have h2:=h.c
 unfold secP at h1
 omega
theorem maxL_bound {α:Type} {f:α→Nat} {l:List α} {n:Nat} (h:∀x∈l,f x≤n):maxL f l≤n:=maxL_le.2 h
theorem block_Of_eq (l:List Task) (t:Int) (hl:l.length≤4611686018427387904):block_Of l t=some (if AllP l then ((blockV l t:Nat):Int) else 0,if AllP l then 0 else 1):=by
 unfold block_Of
 rw[bnd_eq (task_All_eq l hl)]
 by_cases ha:AllP l
 rotate_left
 ·rw[decide_eq_false ha,Bool.not_false,fk_t,if_neg ha,if_neg ha]
 rw[decide_eq_true ha,Bool.not_true,fk_f,if_pos ha,if_pos ha]
 refine lp_upS l.length (by unfold FU; omega) (fun k n=>n=((maxL (taskN l t) (l.take k):Nat):Int)) 0 rfl ?_
 rintro nx k n hk rfl hnx
 simp only[jn_eq]
 rw[lt_nat]
 by_cases h:k<l.length
 ·have hm:=maxL_succ (taskN l t) l k h
  have hx:l[k]∈l:=List.getElem_mem h
  have hr:=ha.1 _ hx
  have hsl:=hr.len
  rw[decide_eq_true h,fk_t,ix_lt h,wr_succ k _ h hl]
  by_cases c1:l[k].D≤t
  ·rw[decide_eq_true c1,fk_t]
   refine hnx _ h ?_
   rw[hm,taskN,if_pos c1]; omega
  rw[decide_eq_false c1,fk_f]
  rw[taskN,if_neg c1] at hm
  generalize hA:maxL (taskN l t) (l.take k)=A at *
  refine lp_upS l[k].Secs.length (by unfold FU; omega) (fun j n=>n=((max A (maxL (secN l t) (l[k].Secs.take j)):Nat):Int)) _ (by simp[maxL]) ?_
  rintro nx2 j n hj rfl hnx2
  simp only
  rw[lt_nat]
  by_cases h2:j<l[k].Secs.length
  ·have hm2:=maxL_succ (secN l t) l[k].Secs j h2
   have hlen:=hr.sl (List.getElem_mem h2)
   rw[decide_eq_true h2,fk_t,ix_lt h2,bnd_eq (block_shared_eq _ _ _ hl),wr_succ j _ h2 (by omega),fk_f]
   unfold secN at hm2
   by_cases c2:l[k].Secs[j].Len>((max A (maxL (secN l t) (l[k].Secs.take j)):Nat):Int)
   ·rw[decide_eq_true c2,fk_t]
    by_cases c3:sharedP l t l[k].Secs[j].Res
    ·rw[decide_eq_true c3,fk_t]
     refine hnx2 _ h2 ?_
     rw[if_pos c3] at hm2
     unfold secN at c2 ⊢
     rw[hm2]; omega
    ·rw[decide_eq_false c3,fk_f]
     refine hnx2 _ h2 ?_
     rw[if_neg c3] at hm2
     unfold secN
     rw[hm2]; omega
   ·rw[decide_eq_false c2,fk_f]
    refine hnx2 _ h2 ?_
    unfold secN at c2 ⊢
    rw[hm2]
    split <;> omega
  ·rw[decide_eq_false h2,fk_f]
   have:j=l[k].Secs.length:=by omega
   rw[this,List.take_length]
   exact hnx _ h (by rw[hm])
 ·rw[decide_eq_false h,fk_f]
  have:k=l.length:=by omega
  rw[this,List.take_length]; rfl
def faceP (f:Face):Prop:=1≤f.B∧f.B≤f.P∧f.P≤200
instance (f:Face):Decidable (faceP f):=by unfold faceP; infer_instance
theorem supply_Right_eq (f:Face):supply_Right f=some (decide (faceP f)):=by
 unfold supply_Right
 simp only[fk_if,decide_eq_true_eq]
 repeat' split
 all_goals first
  | exact dec_iff (by unfold faceP; omega)
  | exact dec_f (by unfold faceP; omega)
theorem ref09_Right_eq (f:Face):ref09_Right f=some (decide (faceP f)):=by
 unfold ref09_Right
 simp only[fk_if,decide_eq_true_eq]
 repeat' split
 all_goals first
  | exact dec_iff (by unfold faceP; omega)
  | exact dec_f (by unfold faceP; omega)
def max0 (x:Int):Int:=if x>0 then x else 0
def supV (f:Face) (t:Int):Int:=if t<f.P-f.B then 0 else ((t-(f.P-f.B))/f.P)*f.B+max0 (t-2*(f.P-f.B)-((t-(f.P-f.B))/f.P)*f.P)
theorem supV_qr {f:Face} (hf:faceP f) {t q r:Int} (ht:t=(f.P-f.B)+q*f.P+r) (hq:0≤q) (hr:0≤r) (hr2:r<f.P):supV f t=q*f.B+max0 (r-(f.P-f.B)):=by
 unfold faceP at hf
 have hqP:0≤q*f.P:=Int.mul_nonneg hq (by omega)
 have e:(t-(f.P-f.B))/f.P=q:=by
  rw[ht,show f.P-f.B+q*f.P+r-(f.P-f.B)=r+q*f.P by omega,Int.add_mul_ediv_right _ _ (by omega),Int.ediv_eq_zero_of_lt hr hr2]; omega
 unfold supV
 rw[if_neg (by omega),e,show t-2*(f.P-f.B)-q*f.P=r-(f.P-f.B) by omega]
theorem supV_low {f:Face} {t:Int} (h:t<f.P-f.B):supV f t=0:=by unfold supV; rw[if_pos h]
theorem qr_of {f:Face} (hf:faceP f) {t:Int} (h:f.P-f.B≤t):∃q r,t=(f.P-f.B)+q*f.P+r∧0≤q∧0≤r∧r<f.P:=by
 unfold faceP at hf
 refine⟨(t-(f.P-f.B))/f.P,(t-(f.P-f.B))%f.P,?_,Int.ediv_nonneg (by omega) (by omega),Int.emod_nonneg _ (by omega),Int.emod_lt_of_pos _ (by omega)⟩
 have:=Int.mul_ediv_add_emod (t-(f.P-f.B)) f.P
 rw[Int.mul_comm] at this
 omega
theorem max0_b (x:Int):0≤max0 x∧x≤max0 x∧(max0 x=0∨max0 x=x):=by unfold max0; split <;> omega
theorem supply_Bound_eq (f:Face) (t:Int):supply_Bound f t=some (if faceP f∧0≤t∧t≤4611686018427387903 then supV f t else 0,if faceP f∧0≤t∧t≤4611686018427387903 then 0 else 1):=by
 unfold supply_Bound
 simp only[jn_eq,fk_t,fk_f]
 rw[bnd_eq (supply_Right_eq f)]
 by_cases hf:faceP f
 rotate_left
 ·rw[decide_eq_false hf,Bool.not_false,fk_t,if_neg (fun h=>hf h.1),if_neg (fun h=>hf h.1)]
 rw[decide_eq_true hf,Bool.not_true,fk_f]
 by_cases c1:t<0
 ·rw[decide_eq_true c1,fk_t,if_neg (fun h=>by omega),if_neg (fun h=>by omega)]
 rw[decide_eq_false c1,fk_f]
 by_cases c2:t>4611686018427387903
 ·rw[decide_eq_true c2,fk_t,if_neg (fun h=>by omega),if_neg (fun h=>by omega)]
 have hf':=hf
 unfold faceP at hf'
 have hA:faceP f∧0≤t∧t≤4611686018427387903:=⟨hf,by omega,by omega⟩
 rw[show (if faceP f∧0≤t∧t≤4611686018427387903 then supV f t else 0)=supV f t from if_pos hA,show (if faceP f∧0≤t∧t≤4611686018427387903 then (0:Int) else 1)=0 from if_pos hA]
 rw[decide_eq_false c2,fk_f,wr_in (f.P-f.B) (by omega)]
 by_cases c3:t<f.P-f.B
 ·rw[decide_eq_true c3,fk_t,supV_low c3]
 obtain⟨q,r,ht,hq,hr,hr2⟩:=qr_of hf (show f.P-f.B≤t by omega)
 have h1:0≤q*f.B:=Int.mul_nonneg hq (by omega)
 have h2:q*f.B≤q*f.P:=Int.mul_le_mul_of_nonneg_left (by omega) hq
 have h3:=max0_b (r-(f.P-f.B))
 have e:(t-(f.P-f.B)).tdiv f.P=q:=by
  rw[Int.tdiv_eq_ediv_of_nonneg (by omega),ht,show f.P-f.B+q*f.P+r-(f.P-f.B)=r+q*f.P by omega,Int.add_mul_ediv_right _ _ (by omega),Int.ediv_eq_zero_of_lt hr hr2]; omega
 have hqq:q≤q*f.P:=by
  have:=Int.mul_le_mul_of_nonneg_left (show (1:Int)≤f.P by omega) hq
  omega
 rw[decide_eq_false c3,fk_f,ck_t (decide_eq_true (by omega)),wr_in (t-(f.P-f.B)) (by omega),e,wr_in q (by omega),wr_in (2*(f.P-f.B)) (by omega),wr_in (t-2*(f.P-f.B)) (by omega),wr_in (q*f.P) (by omega),wr_in (q*f.B) (by omega),wr_in (t-2*(f.P-f.B)-q*f.P) (by omega),supV_qr hf ht hq hr hr2]
 have e2:t-2*(f.P-f.B)-q*f.P=r-(f.P-f.B):=by omega
 rw[e2]
 show some (wr (q*f.B+max0 (r-(f.P-f.B))),(0:Int))=_
 rw[wr_in _ (by omega)]
def worstP (f:Face) (i:Int):Prop:=if i<f.P then i<f.B else i%f.P≥f.P-f.B
instance (f:Face) (i:Int):Decidable (worstP f i):=by unfold worstP; infer_instance
def needV (l:List Task) (t:Int):Int:=sumB l t+(blockV l t:Int)
theorem blockV_le {l:List Task} (ha:AllP l) (t:Int):blockV l t≤200:=by
 unfold blockV
 refine maxL_bound fun x hx=>?_
 unfold taskN
 split
 ·omega
 ·refine maxL_bound fun s hs=>?_
  unfold secN
  have:=(ha.1 x hx).sl hs
  split <;> omega
theorem verdict_Need_eq (l:List Task) (t:Int) (hl:l.length≤4611686018427387904) (h1:t≤2199023255552):verdict_Need l t=some (if AllP l∧0≤t then needV l t else 0,if AllP l∧0≤t then 0 else 1):=by
 unfold verdict_Need
 by_cases ha:AllP l∧0≤t
 ·have h2:=sumB_le ha.1 ha.2
  have h3:=sumB_nonneg ha.1 ha.2
  have h4:=blockV_le ha.1 t
  rw[bnd_eq (demand_Bound_small l t ha.1 ha.2 h1),decide_eq_true rfl,Bool.not_true,fk_f,bnd_eq (block_Of_eq l t hl),if_pos ha.1]
  simp only
  rw[bnd_eq (arith_Add_eq _ _ h3 (by omega) (by omega) (by omega)),if_pos (by omega),if_pos (by omega),if_pos ha,if_pos ha]
  rfl
 ·have:¬askP l t:=fun h=>ha ⟨h.1,h.2.1⟩
  rw[bnd_eq (demand_Bound_eq l t hl),if_neg (fun h=>this h.1),if_neg this,if_neg ha,if_neg ha]
  rfl
theorem arith_Gcd_eq (a b:Int) (ha:0≤a) (ha2:a≤4611686018427387903) (hb:0≤b) (hb2:b≤4611686018427387903):arith_Gcd a b=some (((Nat.gcd a.toNat b.toNat:Nat):Int),0):=by
 unfold arith_Gcd
 simp only[jn_eq,fk_t,fk_f]
 rw[bnd_eq (arith_may2 a b),decide_eq_true (by unfold inM; omega),Bool.not_true,fk_f,decide_eq_false (show ¬a<0 by omega),fk_f,decide_eq_false (show ¬b<0 by omega),fk_f]
 refine lp_inv (fun v=>v.2.toNat) (fun v=>∃x y:Nat,v=((x:Int),(y:Int))∧Nat.gcd x y=Nat.gcd a.toNat b.toNat) ?_ FU _ ⟨a.toNat,b.toNat,by rw[Int.toNat_of_nonneg ha,Int.toNat_of_nonneg hb],rfl⟩ (by unfold FU; simp only; omega)
 rintro nx v ⟨x,y,rfl,hg⟩ hnx
 simp only
 by_cases h:(y:Int)>0
 ·rw[decide_eq_true h,fk_t,ck_t (decide_eq_true (by omega)),Int.tmod_eq_emod_of_nonneg (by omega)]
  have e:(x:Int)%(y:Int)=((x%y:Nat):Int):=rfl
  rw[e]
  refine hnx _ ⟨y,x%y,rfl,?_⟩ (by simp only[Int.toNat_natCast]; exact Nat.mod_lt _ (by omega))
  rw[←hg,Nat.gcd_comm x y,Nat.gcd_rec y x,Nat.gcd_comm]
 ·rw[decide_eq_false h,fk_f]
  have:y=0:=by omega
  subst this
  rw[←hg,Nat.gcd_zero_right]
theorem arith_Mul_small (a b:Int) (ha:1≤a) (ha2:a≤3000) (hb:1≤b) (hb2:b≤200):arith_Mul a b=some (a*b,0):=by
 unfold arith_Mul
 simp only[jn_eq,fk_t,fk_f]
 have h1:a*b≤3000*200:=Int.mul_le_mul ha2 hb2 (by omega) (by omega)
 have h2:0≤a*b:=Int.mul_nonneg (by omega) (by omega)
 have h3:4611686018427387903/b≥23058430092136939:=by
  exact (Int.le_ediv_iff_mul_le (by omega)).2 (by omega)
 rw[bnd_eq (arith_may2 a b),decide_eq_true (by unfold inM; omega),Bool.not_true,fk_f,decide_eq_false (show ¬a=0 by omega),fk_f,decide_eq_false (show ¬b=0 by omega),fk_f]
 have wa:IntKind.i64.wrap (0-a)=0-a:=wr_in _ (by omega)
 have wb:IntKind.i64.wrap (0-b)=0-b:=wr_in _ (by omega)
 rw[wa,wb,if_neg (show ¬0-b>b by omega),if_neg (show ¬0-a>a by omega),ck_t (decide_eq_true (by omega)),Int.tdiv_eq_ediv_of_nonneg (by omega)]
 have h4:4611686018427387903/b≤4611686018427387903:=Int.ediv_le_self _ (by omega)
 rw[wr_in (4611686018427387903/b) (by omega),decide_eq_false (by omega),fk_f,wr_in _ (by omega)]
theorem arith_Lcm_eq (a b:Nat) (ha:1≤a) (ha2:a≤3000) (hb:1≤b) (hb2:b≤200):arith_Lcm (a:Int) (b:Int)=some (((Nat.lcm a b:Nat):Int),0):=by
 unfold arith_Lcm
 simp only[jn_eq,fk_t,fk_f]
 rw[decide_eq_false (show ¬(a:Int)<1 by omega),fk_f,decide_eq_false (show ¬(b:Int)<1 by omega),fk_f,bnd_eq (arith_Gcd_eq _ _ (by omega) (by omega) (by omega) (by omega)),decide_eq_true rfl,Bool.not_true,fk_f]
 simp only[Int.toNat_natCast]
 have hg:0<Nat.gcd a b:=Nat.gcd_pos_of_pos_left _ (by omega)
 have hd:=Nat.gcd_dvd_left a b
 have hk:1≤a/Nat.gcd a b:=Nat.div_pos (Nat.le_of_dvd (by omega) hd) hg
 have hk2:a/Nat.gcd a b≤a:=Nat.div_le_self _ _
 have e:(a:Int).tdiv (Nat.gcd a b:Int)=((a/Nat.gcd a b:Nat):Int):=by rw[Int.tdiv_eq_ediv_of_nonneg (by omega)]; rfl
 rw[ck_t (decide_eq_true (by omega)),e,wr_in _ (by omega),bnd_eq (arith_Mul_small _ _ (by omega) (by omega) (by omega) (by omega))]
 have:Nat.lcm a b=a/Nat.gcd a b*b:=by
  unfold Nat.lcm
  exact (Nat.div_mul_right_comm hd b).symm
 rw[this]; simp
def lcmL (P:Nat) (l:List Task):Nat:=l.foldl (fun c t=>Nat.lcm c t.T.toNat) P
def farL (x:Int) (l:List Task):Int:=l.foldl (fun m t=>if t.D>m then t.D else m) x
theorem lcmL_succ (P:Nat) (l:List Task) (k:Nat) (h:k<l.length):lcmL P (l.take (k+1))=Nat.lcm (lcmL P (l.take k)) l[k].T.toNat:=by
 unfold lcmL; rw[←List.take_append_getElem h,List.foldl_append]; rfl
theorem farL_succ (x:Int) (l:List Task) (k:Nat) (h:k<l.length):farL x (l.take (k+1))=if l[k].D>farL x (l.take k) then l[k].D else farL x (l.take k):=by
 unfold farL; rw[←List.take_append_getElem h,List.foldl_append]; rfl
theorem lcmL_dvd:∀(l:List Task) (P n:Nat),lcmL P l∣n↔P∣n∧∀t∈l,t.T.toNat∣n
 | [],P,n=>by simp[lcmL]
 | t::l,P,n=>by
  have ih:=lcmL_dvd l (Nat.lcm P t.T.toNat) n
  show lcmL (Nat.lcm P t.T.toNat) l∣n↔_
  rw[ih]
  constructor
  ·rintro⟨h1,h2⟩
   refine⟨Nat.dvd_trans (Nat.dvd_lcm_left _ _) h1,fun x hx=>?_⟩
   rcases List.mem_cons.1 hx with rfl | hx
   ·exact Nat.dvd_trans (Nat.dvd_lcm_right _ _) h1
   ·exact h2 x hx
  ·rintro⟨h1,h2⟩
   exact⟨Nat.lcm_dvd h1 (h2 t List.mem_cons_self),fun x hx=>h2 x (List.mem_cons_of_mem _ hx)⟩
theorem lcmL_pos:∀(l:List Task) (P:Nat),0<P→(∀t∈l,1≤t.T)→0<lcmL P l
 | [],P,hP,_=>hP
 | t::l,P,hP,h=>lcmL_pos l _ (Nat.lcm_pos hP (by have:=h t List.mem_cons_self; omega)) fun x hx=>h x (List.mem_cons_of_mem _ hx)
theorem farL_b:∀(l:List Task) (x:Int),x≤farL x l∧(∀t∈l,t.D≤farL x l)∧∀m,x≤m→(∀t∈l,t.D≤m)→farL x l≤m
 | [],x=>⟨Int.le_refl _,fun t ht=>(List.not_mem_nil ht).elim,fun m h _=>h⟩
 | t::l,x=>by
  obtain⟨h1,h2,h3⟩:=farL_b l (if t.D>x then t.D else x)
  show _∧_∧_
  have e:farL x (t::l)=farL (if t.D>x then t.D else x) l:=rfl
  rw[e]
  refine⟨?_,fun y hy=>?_,fun m hm hl=>h3 m ?_ fun y hy=>hl y (List.mem_cons_of_mem _ hy)⟩
  ·exact Int.le_trans (show x≤(if t.D>x then t.D else x) by split <;> omega) h1
  ·rcases List.mem_cons.1 hy with rfl | hy
   ·exact Int.le_trans (show y.D≤(if y.D>x then y.D else x) by split <;> omega) h1
   ·exact h2 y hy
  ·have:=hl t List.mem_cons_self
   split <;> omega
theorem AllP.T {l:List Task} (h:AllP l) {t:Task} (ht:t∈l):1≤t.T∧t.T≤200∧1≤t.C∧t.C≤200∧1≤t.D∧t.D≤200∧t.C≤t.D∧t.D≤t.T:=by
 have:=(h.1 t ht).1
 unfold ownP at this
 omega
def cyc (l:List Task) (f:Face):Nat:=lcmL f.P.toNat l
def farv (l:List Task) (f:Face):Int:=farL (2*f.P) l
theorem cyc_take {l:List Task} {f:Face} (ha:AllP l) (hf:faceP f) (k:Nat):0<lcmL f.P.toNat (l.take k)∧lcmL f.P.toNat (l.take k)≤cyc l f:=by
 unfold faceP at hf
 have h1:=lcmL_pos (l.take k) f.P.toNat (by omega) fun t ht=>(ha.T (List.mem_of_mem_take ht)).1
 have h2:=lcmL_pos l f.P.toNat (by omega) fun t ht=>(ha.T ht).1
 refine⟨h1,Nat.le_of_dvd h2 ?_⟩
 have h3:=(lcmL_dvd l f.P.toNat (lcmL f.P.toNat l)).1 (Nat.dvd_refl _)
 exact (lcmL_dvd _ _ _).2 ⟨h3.1,fun t ht=>h3.2 t (List.mem_of_mem_take ht)⟩
theorem farv_b {l:List Task} {f:Face} (ha:AllP l) (hf:faceP f):2*f.P≤farv l f∧farv l f≤400∧∀t∈l,t.D≤farv l f:=by
 unfold faceP at hf
 obtain⟨h1,h2,h3⟩:=farL_b l (2*f.P)
 exact⟨h1,h3 400 (by omega) (fun t ht=>by have:=ha.T ht; omega),h2⟩
theorem farL_take {l:List Task} {f:Face} (ha:AllP l) (hf:faceP f) (k:Nat):0≤farL (2*f.P) (l.take k)∧farL (2*f.P) (l.take k)≤400:=by
 unfold faceP at hf
 obtain⟨h1,h2,h3⟩:=farL_b (l.take k) (2*f.P)
 exact⟨by omega,h3 400 (by omega) (fun t ht=>by have:=ha.T (List.mem_of_mem_take ht); omega)⟩
def okC (l:List Task) (f:Face):Prop:=AllP l∧faceP f∧(cyc l f:Int)+farv l f≤3000
noncomputable instance (l:List Task) (f:Face):Decidable (okC l f):=Classical.propDecidable _
noncomputable def errC (l:List Task) (f:Face):Int:=if okC l f then 0 else if AllP l∧faceP f then 5 else 1
noncomputable def cycV (l:List Task) (f:Face):Int×Int×Int:=if okC l f then ((cyc l f:Int),(cyc l f:Int)+farv l f,0) else (0,0,errC l f)
theorem cycV_arg {l:List Task} {f:Face} (h:¬(AllP l∧faceP f)):cycV l f=(0,0,1):=by
 have h2:¬okC l f:=fun hh=>h ⟨hh.1,hh.2.1⟩
 unfold cycV errC; rw[if_neg h2,if_neg h2,if_neg h]
theorem cycV_big {l:List Task} {f:Face} (h:AllP l∧faceP f) (h2:¬(cyc l f:Int)+farv l f≤3000):cycV l f=(0,0,5):=by
 have h3:¬okC l f:=fun hh=>h2 hh.2.2
 unfold cycV errC; rw[if_neg h3,if_neg h3,if_pos h]
theorem verdict_Cycle_eq (l:List Task) (f:Face) (hl:l.length≤4611686018427387904):verdict_Cycle l f=some (cycV l f):=by
 unfold verdict_Cycle
 simp only[jn_eq,fk_t,fk_f]
 rw[bnd_eq (task_All_eq l hl)]
 by_cases ha:AllP l
 rotate_left
 ·rw[decide_eq_false ha,Bool.not_false,fk_t,cycV_arg (fun h=>ha h.1)]
 rw[decide_eq_true ha,Bool.not_true,fk_f,bnd_eq (supply_Right_eq f)]
 by_cases hf:faceP f
 rotate_left
 ·rw[decide_eq_false hf,Bool.not_false,fk_t,cycV_arg (fun h=>hf h.2)]
 have hf':=hf
 unfold faceP at hf'
 have h8:=ha.2
 rw[decide_eq_true hf,Bool.not_true,fk_f,wr_in (2*f.P) (by omega)]
 refine lp_inv (fun v=>l.length-v.2.2.toNat) (fun v=>∃k:Nat,v=(((lcmL f.P.toNat (l.take k):Nat):Int),farL (2*f.P) (l.take k),(k:Int))∧k≤l.length∧lcmL f.P.toNat (l.take k)≤3000) ?_ FU _ ⟨0,by simp[lcmL,farL]; omega,Nat.zero_le _,by simp[lcmL]; omega⟩ (by unfold FU; simp; omega)
 rintro nx v ⟨k,rfl,hk,hc⟩ hnx
 simp only
 rw[lt_nat]
 obtain⟨c1,c2⟩:=cyc_take ha hf k
 have hfr:=farL_take ha hf k
 by_cases h:k<l.length
 ·obtain⟨t1,t2,_⟩:=ha.T (List.getElem_mem h)
  have eT:l[k].T=((l[k].T.toNat:Nat):Int):=by omega
  rw[decide_eq_true h,fk_t,ix_lt h,wr_succ k _ h (by omega),eT,bnd_eq (arith_Lcm_eq _ _ c1 hc (by omega) (by omega)),decide_eq_true rfl,Bool.not_true,fk_f,←lcmL_succ _ _ _ h,←farL_succ _ _ _ h]
  obtain⟨d1,d2⟩:=cyc_take ha hf (k+1)
  have hfv:=farv_b ha hf
  by_cases c:((lcmL f.P.toNat (l.take (k+1)):Nat):Int)>3000
  ·rw[decide_eq_true c,fk_t,cycV_big ⟨ha,hf⟩ (by omega)]
  ·rw[decide_eq_false c,fk_f]
   exact hnx _ ⟨k+1,rfl,by omega,by omega⟩ (by simp only[Int.toNat_natCast]; omega)
 ·have:k=l.length:=by omega
  subst this
  rw[decide_eq_false h,fk_f,wr_in _ (by omega),List.take_length]
  show fk (decide (((cyc l f:Nat):Int)+farv l f>3000)) _ (some (((cyc l f:Nat):Int),((cyc l f:Nat):Int)+farv l f,0))=_
  by_cases c:((cyc l f:Nat):Int)+farv l f>3000
  ·rw[decide_eq_true c,fk_t,cycV_big ⟨ha,hf⟩ (by omega)]
  ·rw[decide_eq_false c,fk_f,cycV,if_pos ⟨ha,hf,by omega⟩]
theorem ref10_Cycle_eq (l:List Task) (f:Face) (hl:l.length≤4611686018427387904) (hs:∀t∈l,t.Secs.length≤4611686018427387904):ref10_Cycle l f=some (cycV l f):=by
 unfold ref10_Cycle
 simp only[jn_eq,fk_t,fk_f]
 rw[bnd_eq (ref05_All_eq l hl hs)]
 by_cases ha:AllP l
 rotate_left
 ·rw[decide_eq_false ha,Bool.not_false,fk_t,cycV_arg (fun h=>ha h.1)]
 rw[decide_eq_true ha,Bool.not_true,fk_f,bnd_eq (ref09_Right_eq f)]
 by_cases hf:faceP f
 rotate_left
 ·rw[decide_eq_false hf,Bool.not_false,fk_t,cycV_arg (fun h=>hf h.2)]
 have hf':=hf
 unfold faceP at hf'
 have h8:=ha.2
 rw[decide_eq_true hf,Bool.not_true,fk_f,wr_in (2*f.P) (by omega)]
 refine lp_upS l.length (by unfold FU; omega) (fun k v=>v=farL (2*f.P) (l.take k)) _ (by simp[farL]) ?_
 rintro nx k v hk rfl hnx
 simp only
 by_cases h:k<l.length
 ·rw[show decide ((k:Int)<(l.length:Int))=true from decide_eq_true (by omega),fk_t,wr_succ k _ h (by omega)]
  simp only[ix_lt h]
  have:=farL_succ (2*f.P) l k h
  by_cases c:l[k].D>farL (2*f.P) (l.take k)
  ·rw[if_pos c] at this
   rw[decide_eq_true c,fk_t]; exact hnx _ h this.symm
  ·rw[if_neg c] at this
   rw[decide_eq_false c,fk_f]; exact hnx _ h this.symm
 rw[show decide ((k:Int)<(l.length:Int))=false from decide_eq_false (by omega),fk_f]
 have:k=l.length:=by omega
 subst this
 rw[List.take_length]
 show lp (fun nx8 (v8:Int)=>fk (decide ((wr (v8+farv l f))≤(3000:Int))) _ _) FU f.P=_
 have hfv:=farv_b ha hf
 have hL:=cyc_take ha hf l.length
 rw[List.take_length] at hL
 have hself:=(lcmL_dvd l f.P.toNat (cyc l f)).1 (Nat.dvd_refl _)
 have base:f.P.toNat≤cyc l f:=Nat.le_of_dvd (by exact hL.1) hself.1
 refine lp_inv (fun v=>(4000-v).toNat) (fun v=>∃n:Nat,v=(n:Int)∧0<n∧f.P.toNat∣n∧n≤cyc l f∧n≤3400) ?_ FU _ ⟨f.P.toNat,by omega,by omega,Nat.dvd_refl _,base,by omega⟩ (by unfold FU; omega)
 rintro nx8 v ⟨n,rfl,hn0,hPn,hnL,hn4⟩ hnx8
 rw[wr_in _ (by omega)]
 by_cases c:(n:Int)+farv l f≤3000
 rotate_left
 ·rw[decide_eq_false c,fk_f,cycV_big ⟨ha,hf⟩ (by omega)]
 rw[decide_eq_true c,fk_t]
 refine lp_upS l.length (by unfold FU; omega) (fun q b=>b=true↔∀i (hi:i<l.length),i<q→l[i].T.toNat∣n) true ⟨fun _ i _ h=>by omega,fun _=>rfl⟩ ?_
 rintro nx9 q b hq J hnx9
 simp only
 by_cases h2:q<l.length
 ·rw[show decide ((q:Int)<(l.length:Int))=true from decide_eq_true (by omega),fk_t,wr_succ q _ h2 (by omega)]
  obtain⟨t1,t2,_⟩:=ha.T (List.getElem_mem h2)
  cases b with
  | false=>
   rw[fk_f]
   refine hnx9 _ h2 ⟨fun e=>(Bool.false_ne_true e).elim,fun hh=>J.2 fun i hi hiq=>hh i hi (by omega)⟩
  | true=>
   have J':=J.1 rfl
   rw[fk_t,ix_lt h2,ck_t (decide_eq_true (by omega))]
   have hdv:((n:Int).tmod l[q].T=0)↔l[q].T.toNat∣n:=by
    rw[Int.tmod_eq_emod_of_nonneg (by omega)]
    have e:l[q].T=((l[q].T.toNat:Nat):Int):=by omega
    rw[e,show ((n:Int)%((l[q].T.toNat:Nat):Int))=((n%l[q].T.toNat:Nat):Int) from rfl,Int.toNat_natCast]
    rw[Nat.dvd_iff_mod_eq_zero]; omega
   refine hnx9 _ h2 ⟨fun e i hi hiq=>?_,fun hh=>decide_eq_true (hdv.2 (hh q h2 (by omega)))⟩
   by_cases e2:i=q
   ·subst e2; exact hdv.1 (of_decide_eq_true e)
   ·exact J' i hi (by omega)
 rw[show decide ((q:Int)<(l.length:Int))=false from decide_eq_false (by omega),fk_f]
 cases b with
 | true=>
  have hd:cyc l f∣n:=(lcmL_dvd l f.P.toNat n).2 ⟨hPn,fun t ht=>by
   obtain⟨i,hi,rfl⟩:=List.getElem_of_mem ht
   exact J.1 rfl i hi (by omega)⟩
  have:n=cyc l f:=Nat.le_antisymm hnL (Nat.le_of_dvd hn0 hd)
  subst this
  rw[fk_t,show farL (2*f.P) l=farv l f from rfl,wr_in _ (by omega),cycV,if_pos ⟨ha,hf,c⟩]
 | false=>
  have hne:n≠cyc l f:=fun e=>by
   have:=J.2 fun i hi _=>e ▸ hself.2 _ (List.getElem_mem hi)
   cases this
  have hlt:n<cyc l f:=by omega
  have hstep:n+f.P.toNat≤cyc l f:=by
   have hd:f.P.toNat∣cyc l f-n:=Nat.dvd_sub hself.1 hPn
   have:=Nat.le_of_dvd (by omega) hd
   omega
  rw[fk_f,wr_in _ (by omega)]
  exact hnx8 _ ⟨n+f.P.toNat,by omega,by omega,Nat.dvd_add hPn (Nat.dvd_refl _),hstep,by omega⟩ (by omega)
def badB (l:List Task) (f:Face) (t:Nat):Bool:=decide (needV l t>supV f t)
def badV (l:List Task) (f:Face) (e:Nat):Option Nat:=(List.range (e+1)).find? (badB l f)
theorem badV_some {l:List Task} {f:Face} {e t:Nat}:badV l f e=some t↔t≤e∧needV l t>supV f t∧∀j,j<t→needV l j≤supV f j:=by
 unfold badV
 rw[List.find?_range_eq_some]
 unfold badB
 simp only[decide_eq_true_eq,List.mem_range,Bool.not_eq_true',decide_eq_false_iff_not]
 constructor
 ·rintro⟨h1,h2,h3⟩; exact⟨by omega,h1,fun j hj=>by have:=h3 j hj; omega⟩
 ·rintro⟨h1,h2,h3⟩; exact⟨h2,by omega,fun j hj=>by have:=h3 j hj; omega⟩
theorem badV_none {l:List Task} {f:Face} {e:Nat}:badV l f e=none↔∀t,t≤e→needV l t≤supV f t:=by
 unfold badV
 rw[List.find?_range_eq_none]
 unfold badB
 simp only[Bool.not_eq_true',decide_eq_false_iff_not]
 exact⟨fun h t ht=>by have:=h t (by omega); omega,fun h t ht=>by have:=h t (by omega); omega⟩
theorem scan_eq {R:Type} (l:List Task) (f:Face) (e:Nat) (he:e≤1000000) (A:Int→Option R) (B:Option R) (r:R) (h1:∀t,badV l f e=some t→A (t:Int)=some r) (h2:badV l f e=none→B=some r) {body:(Int→Option R)→Int→Option R}
  (hb:∀nx (k:Nat),k≤e+1→body nx (k:Int)=fk (decide ((k:Int)≤(e:Int))) (fk (decide (needV l k>supV f k)) (A k) (nx ((k+1:Nat):Int))) B):lp body FU 0=some r:=by
 refine lp_up (e+1) (by unfold FU; omega) (fun k=>∀j:Nat,j<k→needV l j≤supV f j) (fun j h=>by omega) ?_
 intro nx k hk J hnx
 rw[hb nx k hk]
 by_cases c:(k:Int)≤(e:Int)
 ·rw[decide_eq_true c,fk_t]
  by_cases d:needV l k>supV f k
  ·rw[decide_eq_true d,fk_t]
   exact h1 k (badV_some.2 ⟨by omega,d,J⟩)
  ·rw[decide_eq_false d,fk_f]
   refine hnx (by omega) fun j hj=>?_
   by_cases e2:j=k
   ·subst e2; omega
   ·exact J j (by omega)
 ·rw[decide_eq_false c,fk_f]
  exact h2 (badV_none.2 fun t ht=>J t (by omega))
theorem okC_end {l:List Task} {f:Face} (h:okC l f):∃e:Nat,(e:Int)=(cyc l f:Int)+farv l f∧e≤3000:=by
 have h1:=farv_b h.1 h.2.1
 have h2:=h.2.2
 have h3:=h.2.1
 unfold faceP at h3
 exact⟨((cyc l f:Int)+farv l f).toNat,by omega,by omega⟩
def endN (l:List Task) (f:Face):Nat:=((cyc l f:Int)+farv l f).toNat
theorem endN_eq {l:List Task} {f:Face} (h:okC l f):((endN l f:Nat):Int)=(cyc l f:Int)+farv l f∧endN l f≤3000:=by
 obtain⟨e,h1,h2⟩:=okC_end h
 unfold endN; omega
noncomputable def firstV (l:List Task) (f:Face):Int×Bool×Int:=if okC l f then (match badV l f (endN l f) with | some t=>((t:Int),true,0) | none=>(0,false,0)) else (0,false,errC l f)
theorem errC_ne {l:List Task} {f:Face} (h:¬okC l f):errC l f≠0:=by
 unfold errC; rw[if_neg h]; split <;> omega
theorem verdict_First_eq (l:List Task) (f:Face) (hl:l.length≤4611686018427387904):verdict_First l f=some (firstV l f):=by
 unfold verdict_First firstV
 rw[bnd_eq (verdict_Cycle_eq l f hl)]
 by_cases h:okC l f
 rotate_left
 ·have:=errC_ne h
  rw[cycV,if_neg h,if_neg h]
  simp only
  rw[decide_eq_false this,Bool.not_false,fk_t]
 obtain⟨e1,e2⟩:=endN_eq h
 rw[cycV,if_pos h,if_pos h]
 rw[show (!decide (((cyc l f:Int),(cyc l f:Int)+farv l f,(0:Int)).2.2=0))=false from rfl,fk_f,show ((cyc l f:Int),(cyc l f:Int)+farv l f,(0:Int)).2.1=(cyc l f:Int)+farv l f from rfl,←e1]
 have:verdict_fails l f ((endN l f:Nat):Int)=some ((badV l f (endN l f)).map fun t=>(t:Int)):=by
  unfold verdict_fails
  refine scan_eq l f (endN l f) (by omega) (fun v=>some (some v)) (some none) _ (fun t ht=>by rw[ht]; rfl) (fun ht=>by rw[ht]; rfl) ?_
  intro nx k hk
  by_cases c:(k:Int)≤((endN l f:Nat):Int)
  ·rw[decide_eq_true c,fk_t,fk_t,bnd_eq (verdict_Need_eq l k hl (by omega)),bnd_eq (supply_Bound_eq f k),if_pos ⟨h.1,by omega⟩,if_pos (show faceP f∧0≤(k:Int)∧(k:Int)≤4611686018427387903 from ⟨h.2.1,by omega,by omega⟩),wr_in _ (by omega)]
   rfl
  ·rw[decide_eq_false c,fk_f,fk_f]
 rw[bnd_eq this]
 cases badV l f (endN l f) with
 | none=>rfl
 | some t=>rfl
def askC (c:Int) (t:Task):Int:=t.C*(c/t.T)
def asked (l:List Task) (c:Int):Int:=sumI (askC c) l
def givenC (f:Face) (c:Int):Int:=f.B*(c/f.P)
theorem div_b {c T:Int} (hc:0≤c) (hT:1≤T):0≤c/T∧c/T≤c:=⟨Int.ediv_nonneg hc (by omega),Int.ediv_le_self _ hc⟩
theorem asked_b {l:List Task} (ha:AllP l) {c:Int} (h0:0≤c) (h1:c≤3000) (k:Nat):0≤asked (l.take k) c∧asked (l.take k) c≤600000*8:=by
 have hx:∀t∈l.take k,0≤askC c t∧askC c t≤600000:=fun t ht=>by
  have hT:=ha.T (List.mem_of_mem_take ht)
  have hd:=div_b h0 hT.1
  unfold askC
  refine⟨Int.mul_nonneg (by omega) hd.1,?_⟩
  have:=Int.mul_le_mul (show t.C≤200 by omega) (show c/t.T≤3000 by omega) hd.1 (by omega)
  omega
 refine⟨sumI_nonneg fun t ht=>(hx t ht).1,?_⟩
 have h2:=sumI_bound (l:=l.take k) fun t ht=>(hx t ht).2
 have h3:(l.take k).length≤8:=by rw[List.length_take]; have:=ha.2; omega
 unfold asked
 have h4:(600000:Int)*((l.take k).length:Int)≤600000*8:=Int.mul_le_mul_of_nonneg_left (by omega) (by omega)
 omega
theorem givenC_b {f:Face} (hf:faceP f) {c:Int} (h0:0≤c) (h1:c≤3000):0≤givenC f c∧givenC f c≤600000:=by
 unfold faceP at hf
 have hd:=div_b h0 (show 1≤f.P by omega)
 unfold givenC
 refine⟨Int.mul_nonneg (by omega) hd.1,?_⟩
 have:=Int.mul_le_mul (show f.B≤200 by omega) (show c/f.P≤3000 by omega) hd.1 (by omega)
 omega
theorem cyc_b {l:List Task} {f:Face} (h:okC l f):1≤(cyc l f:Int)∧(cyc l f:Int)≤3000:=by
 have h1:=farv_b h.1 h.2.1
 have h2:=h.2.2
 have h3:=h.2.1
 have h4:=(cyc_take h.1 h.2.1 l.length).1
 rw[List.take_length] at h4
 unfold faceP at h3
 have:0<cyc l f:=h4
 omega
def fitsF (l:List Task) (f:Face):Prop:=okC l f∧asked l (cyc l f)≤givenC f (cyc l f)∧badV l f (endN l f)=none
noncomputable instance (l:List Task) (f:Face):Decidable (fitsF l f):=Classical.propDecidable _
theorem verdict_Fits_eq (l:List Task) (f:Face) (hl:l.length≤4611686018427387904):verdict_Fits l f=some (decide (fitsF l f),errC l f):=by
 unfold verdict_Fits
 rw[bnd_eq (verdict_Cycle_eq l f hl)]
 by_cases h:okC l f
 rotate_left
 ·have:=errC_ne h
  rw[cycV,if_neg h]
  simp only
  rw[decide_eq_false this,Bool.not_false,fk_t,decide_eq_false (fun hh=>h hh.1)]
 have e0:errC l f=0:=by unfold errC; rw[if_pos h]
 have h8:=h.1.2
 have hc:=cyc_b h
 rw[cycV,if_pos h]
 rw[show (!decide (((cyc l f:Int),(cyc l f:Int)+farv l f,(0:Int)).2.2=0))=false from rfl,fk_f]
 refine lp_upS l.length (by unfold FU; omega) (fun k v=>v=asked (l.take k) (cyc l f)) 0 (by simp[asked,sumI]) ?_
 rintro nx k v hk rfl hnx
 simp only
 rw[lt_nat]
 by_cases hh:k<l.length
 ·have hT:=h.1.T (List.getElem_mem hh)
  have hd:=div_b (show 0≤(cyc l f:Int) by omega) hT.1
  have hb:=asked_b h.1 (show 0≤(cyc l f:Int) by omega) hc.2 k
  have hb2:=asked_b h.1 (show 0≤(cyc l f:Int) by omega) hc.2 (k+1)
  have hs:asked (l.take (k+1)) (cyc l f)=asked (l.take k) (cyc l f)+askC (cyc l f) l[k]:=sumI_succ _ _ _ hh
  have hm:0≤l[k].C*((cyc l f:Int)/l[k].T):=Int.mul_nonneg (by omega) hd.1
  unfold askC at hs
  rw[Int.mul_comm] at hs hm
  rw[decide_eq_true hh,fk_t,ix_lt hh,ck_t (decide_eq_true (by omega)),Int.tdiv_eq_ediv_of_nonneg (by omega),wr_in ((cyc l f:Int)/l[k].T) (by omega),wr_in ((cyc l f:Int)/l[k].T*l[k].C) (by omega),wr_in _ (by omega),wr_succ k _ hh (by omega)]
  exact hnx _ hh hs.symm
 ·have hf:=h.2.1
  unfold faceP at hf
  have hd:=div_b (show 0≤(cyc l f:Int) by omega) (show 1≤f.P by omega)
  have hg:=givenC_b h.2.1 (show 0≤(cyc l f:Int) by omega) hc.2
  have:k=l.length:=by omega
  subst this
  have eg:(cyc l f:Int)/f.P*f.B=givenC f (cyc l f):=by unfold givenC; rw[Int.mul_comm]
  rw[decide_eq_false hh,fk_f,ck_t (decide_eq_true (by omega)),Int.tdiv_eq_ediv_of_nonneg (by omega),wr_in ((cyc l f:Int)/f.P) (by omega),eg,wr_in _ (by omega),List.take_length,e0]
  by_cases c:asked l (cyc l f)>givenC f (cyc l f)
  ·rw[decide_eq_true c,fk_t,decide_eq_false (fun hx=>by have:=hx.2.1; omega)]
  rw[decide_eq_false c,fk_f,bnd_eq (verdict_First_eq l f hl)]
  unfold firstV
  rw[if_pos h]
  cases hb:badV l f (endN l f) with
  | none=>rw[show decide (fitsF l f)=true from decide_eq_true ⟨h,by omega,hb⟩]; rfl
  | some t=>rw[show decide (fitsF l f)=false from decide_eq_false fun hx=>by rw[hx.2.2] at hb; cases hb]; rfl
end Go.Proofs.YtldlcdnhdedoeaaGreat
namespace Go.Proofs.YtldlcdnhdedoeaaGreat
open Go Go.VC
def stP (s:PartState):Prop:=s.Leaves.length=s.Tasks.length∧lastsP s.Tasks s.Lasts∧jobsP s.Tasks s.Jobs∧s.Log.length≤2000
noncomputable instance (s:PartState):Decidable (stP s):=Classical.propDecidable _
structure StB (s:PartState):Prop where
 t:s.Tasks.length≤4611686018427387904
 u:∀t∈s.Tasks,t.Secs.length≤4611686018427387904
 a:s.Lasts.length≤4611686018427387904
theorem part_Right_eq (s:PartState) (hb:StB s):part_Right s=some (decide (stP s)):=by
 unfold part_Right
 by_cases h1:s.Leaves.length=s.Tasks.length
 rotate_left
 ·rw[decide_eq_false (by omega),fk_f]; exact dec_f fun h=>h1 h.1
 rw[decide_eq_true (by omega),fk_t,bnd_eq (police_Right_eq _ _ hb.t hb.a)]
 by_cases h2:lastsP s.Tasks s.Lasts
 rotate_left
 ·rw[decide_eq_false h2,fk_f]; exact dec_f fun h=>h2 h.2.1
 rw[decide_eq_true h2,fk_t,bnd_eq (job_All_eq _ _ hb.t)]
 by_cases h3:jobsP s.Tasks s.Jobs
 rotate_left
 ·rw[decide_eq_false h3,fk_f]; exact dec_f fun h=>h3 h.2.2.1
 rw[decide_eq_true h3,fk_t]
 exact dec_iff ⟨fun h=>⟨h1,h2,h3,by omega⟩,fun h=>by have:=h.2.2.2; omega⟩
def nt (lg:List Entry) (e:Entry):List Entry:=if lg.length<2000 then lg++[e] else lg
theorem nt_len {lg:List Entry} {e:Entry} (h:lg.length≤2000):(nt lg e).length≤2000:=by
 unfold nt; split
 ·rw[List.length_append]; simp; omega
 ·exact h
theorem nt_fk {R:Type} (lg:List Entry) (e:Entry) (K:List Entry→Option R):fk (decide ((lg.length:Int)<2000)) (ck (decide ((lg.length+([e]:List Entry).length)*24≤140737488355328)) (K (lg++[e]))) (K lg)=K (nt lg e):=by
 unfold nt
 by_cases h:lg.length<2000
 ·rw[decide_eq_true (by omega),fk_t,if_pos h,ck_t (by simp; omega)]
 ·rw[decide_eq_false (by omega),fk_f,if_neg h]
def whenP (t:Int):Prop:=0≤t∧t≤4611686018427387703
instance (t:Int):Decidable (whenP t):=by unfold whenP; infer_instance
theorem part_when_eq (t:Int):part_when t=some (decide (whenP t)):=by
 unfold part_when
 by_cases h:0≤t
 ·rw[decide_eq_true (by omega),fk_t]; exact dec_iff ⟨fun k=>⟨h,k⟩,fun k=>k.2⟩
 ·rw[decide_eq_false (by omega),fk_f]; exact dec_f fun k=>h k.1
theorem eqI_ent (x y:Entry):eqI [.i .i64 x.At,.i .i64 x.Kind,.i .i64 x.Task] [.i .i64 y.At,.i .i64 y.Kind,.i .i64 y.Task]=decide (x=y):=by
 cases x; cases y
 simp[eqI]
theorem sameLog_eq (l:List Entry) (hl:l.length≤4611686018427387904):ref17_SameLog l l=some true:=by
 unfold ref17_SameLog
 rw[decide_eq_true rfl,Bool.not_true,fk_f]
 refine lp_up l.length (by unfold FU; omega) (fun _=>True) trivial ?_
 intro nx k hk _ hnx
 rw[lt_nat]
 by_cases h:k<l.length
 ·rw[decide_eq_true h,fk_t,ix_lt h,ix_lt h,eqI_ent,decide_eq_true rfl,Bool.not_true,fk_f,wr_succ k _ h (by omega)]
  exact hnx h trivial
 ·rw[decide_eq_false h,fk_f]
structure SameB (s:Ref17State):Prop where
 t:s.Tasks.length≤4611686018427387904
 u:∀t∈s.Tasks,t.Secs.length≤4611686018427387904
 l:s.Leaves.length≤4611686018427387904
 a:s.Lasts.length≤1000
 j:s.Jobs.length≤4611686018427387904
 g:s.Log.length≤4611686018427387904
def greatS (s:PartState):Prop:=GreatP s.Tasks∨50<s.Leaves.length∨50<s.Lasts.length∨50<s.Jobs.length∨2010<s.Log.length
noncomputable instance (s:PartState):Decidable (greatS s):=Classical.propDecidable _
theorem AllP_len {l:List Task} (h:AllP l):l.length≤8:=h.2
def relArg (s:PartState) (i w t:Int):Prop:=stP s∧0≤i∧i<(s.Tasks.length:Int)∧1≤w∧w≤200∧whenP t
noncomputable instance (s:PartState) (i w t:Int):Decidable (relArg s i w t):=Classical.propDecidable _
def tD (l:List Task) (i:Int):Int:=match l[i.toNat]? with | some t=>t.D | none=>0
def newJob (l:List Task) (i w t:Int):Job:=⟨i,t,t+tD l i,w,0,false⟩
noncomputable def relV (s:PartState) (i w t:Int):PartState×Int:=
 if relArg s i w t then
  if (s.Leaves[i.toNat]?).getD false=true then (s,9)
  else if mayV s.Tasks s.Lasts i t=0 then
   if s.Jobs.length<32 then (⟨s.Tasks,s.Leaves,s.Lasts.set i.toNat t,s.Jobs++[newJob s.Tasks i w t],nt s.Log ⟨t,1,i⟩⟩,0)
   else (⟨s.Tasks,s.Leaves,s.Lasts,s.Jobs,nt s.Log ⟨t,3,i⟩⟩,3)
  else (⟨s.Tasks,s.Leaves,s.Lasts,s.Jobs,nt s.Log ⟨t,2,i⟩⟩,6)
 else (s,1)
theorem relArg_arg {s:PartState} {i w t:Int} (h:relArg s i w t):argP s.Tasks s.Lasts i t:=⟨h.1.2.1,h.2.1,h.2.2.1,h.2.2.2.2.2.1,h.2.2.2.2.2.2⟩
theorem mayV_06 {l:List Task} {ls:List Int} {i t:Int} (h:argP l ls i t):mayV l ls i t=0∨mayV l ls i t=6:=by
 unfold mayV; rw[if_pos h]; split
 ·exact .inr rfl
 ·exact .inl rfl
theorem tD_lt {l:List Task} {i:Int} (h:i.toNat<l.length):tD l i=l[i.toNat].D:=by unfold tD; rw[List.getElem?_eq_getElem h]
theorem tD_b {l:List Task} (ha:AllP l) {i:Int} (h:i.toNat<l.length):1≤tD l i∧tD l i≤200:=by
 rw[tD_lt h]
 have:=(ha.1 _ (List.getElem_mem h)).1
 unfold ownP at this
 omega
theorem part_Release_eq (s:PartState) (i w t:Int) (hb:StB s):part_Release s i w t=some (relV s i w t):=by
 unfold part_Release
 simp only[jn_eq]
 rw[bnd_eq (part_Right_eq s hb)]
 by_cases h1:stP s
 rotate_left
 ·rw[decide_eq_false h1,Bool.not_false,fk_t,fk_t,relV,if_neg (fun h=>h1 h.1)]
 rw[decide_eq_true h1,Bool.not_true,fk_f]
 by_cases h2:0≤i
 rotate_left
 ·rw[decide_eq_true (by omega),fk_t,fk_t,relV,if_neg (fun h=>h2 h.2.1)]
 rw[decide_eq_false (by omega),fk_f]
 by_cases h3:i<(s.Tasks.length:Int)
 rotate_left
 ·rw[decide_eq_true (by omega),fk_t,fk_t,relV,if_neg (fun h=>h3 h.2.2.1)]
 rw[decide_eq_false (by omega),fk_f]
 by_cases h4:1≤w
 rotate_left
 ·rw[decide_eq_true (by omega),fk_t,fk_t,relV,if_neg (fun h=>h4 h.2.2.2.1)]
 rw[decide_eq_false (by omega),fk_f]
 by_cases h5:w≤200
 rotate_left
 ·rw[decide_eq_true (by omega),fk_t,fk_t,relV,if_neg (fun h=>h5 h.2.2.2.2.1)]
 rw[decide_eq_false (by omega),fk_f,bnd_eq (part_when_eq t)]
 by_cases h6:whenP t
 rotate_left
 ·rw[decide_eq_false h6,Bool.not_false,fk_t,relV,if_neg (fun h=>h6 h.2.2.2.2.2)]
 have hA:relArg s i w t:=⟨h1,h2,h3,h4,h5,h6⟩
 have hLl:=h1.1
 have hLs:=h1.2.1.2.1
 have hT8:=AllP_len h1.2.1.1
 have hi:i.toNat<s.Tasks.length:=by omega
 have hiL:i.toNat<s.Leaves.length:=by omega
 have hiA:i.toNat<s.Lasts.length:=by omega
 have hJ:=h1.2.2.1.2.1
 have hG:=h1.2.2.2
 rw[decide_eq_true h6,Bool.not_true,fk_f,ix_int h2 hiL]
 have eL:(s.Leaves[i.toNat]?).getD false=s.Leaves[i.toNat]:=by rw[List.getElem?_eq_getElem hiL]; rfl
 by_cases h7:s.Leaves[i.toNat]=true
 ·rw[h7,fk_t,relV,if_pos hA,eL,if_pos h7]
 rw[Bool.eq_false_iff.2 h7,fk_f,ck_t (by simp; omega),bnd_eq (police_Note_eq _ _ _ _ hb.t (by omega)),relV,if_pos hA,eL,if_neg h7,List.nil_append]
 dsimp only
 by_cases h8:mayV s.Tasks s.Lasts i t=0
 rotate_left
 ·have h86:mayV s.Tasks s.Lasts i t=6:=(mayV_06 (relArg_arg hA)).resolve_left h8
  rw[decide_eq_false h8,Bool.not_false,fk_t,if_neg h8,h86]
  exact nt_fk s.Log ⟨t,2,i⟩ (fun lg=>some ((⟨s.Tasks,s.Leaves,s.Lasts,s.Jobs,lg⟩:PartState),(6:Int)))
 rw[decide_eq_true h8,Bool.not_true,fk_f,if_pos h8]
 by_cases h9:s.Jobs.length<32
 rotate_left
 ·rw[decide_eq_true (by omega),fk_t,if_neg h9]
  exact nt_fk s.Log ⟨t,3,i⟩ (fun lg=>some ((⟨s.Tasks,s.Leaves,s.Lasts,s.Jobs,lg⟩:PartState),(3:Int)))
 have hD:=tD_b h1.2.1.1 hi
 have hw:=h6
 unfold whenP at hw
 rw[decide_eq_false (by omega),fk_f,if_pos h9,ck_t (by simp; omega),List.nil_append,ix_int h2 hi,ck_t (by simp; omega),←tD_lt hi,wr_in _ (by omega)]
 have eN:noteL s.Tasks s.Lasts i t=s.Lasts.set i.toNat t:=by unfold noteL; rw[if_pos h8]
 rw[eN]
 exact nt_fk s.Log ⟨t,1,i⟩ (fun lg=>some ((⟨s.Tasks,s.Leaves,s.Lasts.set i.toNat t,s.Jobs++[newJob s.Tasks i w t],lg⟩:PartState),(0:Int)))
def atP (ls:List Int) (js:List Job):Prop:=∀j∈js,j.At≤lg ls j.Task
theorem lg_set {ls:List Int} {i t j:Int} (hi:0≤i) (hj:0≤j) (hjl:j.toNat<ls.length):lg (ls.set i.toNat t) j=if i=j then t else lg ls j:=by
 unfold lg
 by_cases c:i=j
 ·subst c; rw[List.getElem?_set_self hjl,if_pos rfl]; rfl
 ·rw[List.getElem?_set_ne (by omega),if_neg c]
theorem stP_rel {s:PartState} {i w t:Int} (h:stP s) (hat:atP s.Lasts s.Jobs):stP (relV s i w t).1∧atP (relV s i w t).1.Lasts (relV s i w t).1.Jobs:=by
 unfold relV
 split
 rotate_left
 ·exact⟨h,hat⟩
 rename_i hA
 split
 ·exact⟨h,hat⟩
 split
 rotate_left
 ·exact⟨⟨h.1,h.2.1,h.2.2.1,nt_len h.2.2.2⟩,hat⟩
 rename_i h8
 split
 rotate_left
 ·exact⟨⟨h.1,h.2.1,h.2.2.1,nt_len h.2.2.2⟩,hat⟩
 rename_i h9
 have hn:=lastsP_note h.2.1 i t
 have eN:noteL s.Tasks s.Lasts i t=s.Lasts.set i.toNat t:=by unfold noteL; rw[if_pos h8]
 rw[eN] at hn
 have hls:=h.2.1.2.1
 have hlt:∀j∈s.Jobs,j.Task=i→j.At<t:=by
  intro j hj e
  have h1:=hat j hj
  have h2:=(h.2.2.1.2.2.1 j hj).2.1
  have hT:=argP_b (relArg_arg hA)
  unfold mayV at h8
  rw[if_pos (relArg_arg hA)] at h8
  by_cases c:lg s.Lasts i ≠ -1∧t<lg s.Lasts i+tT s.Tasks i
  ·rw[if_pos c] at h8; omega
  rw[e] at h1
  omega
 have hAt:atP (s.Lasts.set i.toNat t) (s.Jobs++[newJob s.Tasks i w t]):=by
  intro j hj
  have h2:=hA.2.1
  have h3:=hA.2.2.1
  rcases List.mem_append.1 hj with hj | hj
  ·obtain⟨t0,_,_,t3,_⟩:=h.2.2.1.2.2.1 j hj
   rw[lg_set h2 t0 (by omega)]
   split
   ·have:=hlt j hj (by omega); omega
   ·exact hat j hj
  ·obtain rfl:=List.mem_singleton.1 hj
   show t≤lg (s.Lasts.set i.toNat t) i
   rw[lg_set h2 h2 (by omega),if_pos rfl]; exact Int.le_refl _
 refine⟨⟨h.1,hn,?_,nt_len h.2.2.2⟩,hAt⟩
 obtain⟨p1,p2,p3,p4⟩:=h.2.2.1
 have hi:i.toNat<s.Tasks.length:=by have:=hA.2.1; have:=hA.2.2.1; omega
 have hC:=(p1.1 _ (List.getElem_mem hi)).1
 unfold ownP at hC
 have hD:=tD_b p1 hi
 have hw:=hA.2.2.2.2.2
 unfold whenP at hw
 refine⟨p1,by rw[List.length_append]; simp; omega,?_,?_⟩
 ·intro j hj
  rcases List.mem_append.1 hj with hj | hj
  ·exact p3 j hj
  ·obtain rfl:=List.mem_singleton.1 hj
   refine⟨hA.2.1,hw.1,hw.2,hi,?_⟩
   unfold newJob bodyP
   rw[tD_lt hi]
   have hw1:=hA.2.2.2.1
   have hw2:=hA.2.2.2.2.1
   refine⟨rfl,hw1,hw2,Int.le_refl _,by show (0:Int)<w; omega,?_,.inr rfl⟩
   show (0:Int)<s.Tasks[i.toNat].C
   omega
 ·refine List.pairwise_append.2 ⟨p4,List.pairwise_singleton _ _,fun a ha b hb=>?_⟩
  obtain rfl:=List.mem_singleton.1 hb
  intro ⟨e1,e2⟩
  have:=hlt a ha e1
  have e3:a.At=t:=e2
  omega
def missJ (t:Int) (js:List Job):List Job:=js.filter (fun j=>decide (t<j.Due))
def missG (t:Int):List Job→List Entry→List Entry
 | [],lg=>lg
 | j::r,lg=>missG t r (if t<j.Due then lg else nt lg ⟨t,6,j.Task⟩)
theorem missG_snoc (t:Int) (j:Job):∀(l:List Job) (lg:List Entry),missG t (l++[j]) lg=if t<j.Due then missG t l lg else nt (missG t l lg) ⟨t,6,j.Task⟩
 | [],lg=>by simp only[List.nil_append,missG]
 | a::r,lg=>by simp only[List.cons_append,missG]; exact missG_snoc t j r _
theorem missG_len (t:Int):∀(l:List Job) {lg:List Entry},lg.length≤2000→(missG t l lg).length≤2000
 | [],lg,h=>h
 | a::r,lg,h=>by
  unfold missG
  refine missG_len t r ?_
  split
  ·exact h
  ·exact nt_len h
theorem missJ_snoc (t:Int) (l:List Job) (j:Job):missJ t (l++[j])=if t<j.Due then missJ t l++[j] else missJ t l:=by
 unfold missJ
 rw[List.filter_append]
 split
 ·rename_i h; rw[List.filter_cons_of_pos (by simpa using h)]; rfl
 ·rename_i h; rw[List.filter_cons_of_neg (by simpa using h)]; simp
theorem jobsP_sub {l:List Task} {js js':List Job} (h:jobsP l js) (hs:js'.Sublist js):jobsP l js':=
 ⟨h.1,Nat.le_trans hs.length_le h.2.1,fun j hj=>h.2.2.1 j (hs.subset hj),h.2.2.2.sublist hs⟩
theorem jobsP_miss {l:List Task} {js:List Job} (t:Int) (h:jobsP l js):jobsP l (missJ t js):=jobsP_sub h (List.filter_sublist)
noncomputable def runV (l:List Task) (js:List Job) (lg:List Entry) (g:Bool) (t:Int):List Job×List Entry×Int:=
 if g=true∧0<js.length then ((tick l js).1,(if (tick l js).2.2=true then nt lg ⟨t,(if taskC l (tick l js).2.1<(tick l js).2.1.Want then 5 else 4),(tick l js).2.1.Task⟩ else lg),(tick l js).2.1.Task) else (js,lg,-1)
def keepB {α:Type}:List Bool→List α→List α
 | b::bs,x::xs=>if b=true then keepB bs xs else x::keepB bs xs
 | _,_=>[]
theorem keepB_drop {α:Type} {b:List Bool} {l:List α} {i:Nat} (hb:i<b.length) (hl:i<l.length):keepB (b.drop i) (l.drop i)=if b[i]=true then keepB (b.drop (i+1)) (l.drop (i+1)) else l[i]::keepB (b.drop (i+1)) (l.drop (i+1)):=by
 rw[List.drop_eq_getElem_cons hb,List.drop_eq_getElem_cons hl]; rfl
theorem keepB_nil {α:Type} (l:List α):keepB [] l=[]:=by cases l <;> rfl
theorem keepB_len {α:Type}:∀(b:List Bool) (l:List α),(keepB b l).length≤l.length
 | [],l=>by rw[keepB_nil]; exact Nat.zero_le _
 | _::_,[]=>Nat.le_refl _
 | b::bs,x::xs=>by
  have:=keepB_len bs xs
  simp only[keepB]
  split
  ·simp only[List.length_cons]; omega
  ·simp only[List.length_cons]; omega
theorem keepB_sub {α:Type}:∀(b:List Bool) (l:List α),(keepB b l).Sublist l
 | [],l=>by rw[keepB_nil]; exact List.nil_sublist _
 | _::_,[]=>List.Sublist.refl _
 | b::bs,x::xs=>by
  have:=keepB_sub bs xs
  simp only[keepB]
  split
  ·exact this.cons _
  ·exact this.cons_cons _
theorem keepB_len_eq {α β:Type}:∀(b:List Bool) (l:List α) (m:List β),l.length=m.length→(keepB b l).length=(keepB b m).length
 | [],l,m,_=>by rw[keepB_nil,keepB_nil]; rfl
 | _::_,[],[],_=>rfl
 | _::_,[],_::_,h=>by simp at h
 | _::_,_::_,[],h=>by simp at h
 | b::bs,x::xs,y::ys,h=>by
  have:=keepB_len_eq bs xs ys (by simpa using h)
  simp only[keepB]
  split
  ·exact this
  ·simp only[List.length_cons]; omega
def leftG (b:List Bool) (t:Int):Nat→List Entry→List Entry
 | 0,lg=>lg
 | n+1,lg=>leftG b t n (if (b[n]?).getD false=true then nt lg ⟨t,7,(n:Int)⟩ else lg)
theorem leftG_len (b:List Bool) (t:Int):∀(n:Nat) {lg:List Entry},lg.length≤2000→(leftG b t n lg).length≤2000
 | 0,lg,h=>h
 | n+1,lg,h=>by
  unfold leftG
  refine leftG_len b t n ?_
  split
  ·exact nt_len h
  ·exact h
noncomputable def tickR (s:PartState) (g:Bool) (t:Int):List Job×List Entry×Int:=runV s.Tasks (missJ t s.Jobs) (missG t s.Jobs s.Log) g t
noncomputable def tickV (s:PartState) (g:Bool) (t:Int):PartState×Int:=
 if (tickR s g t).1.length=0 then (⟨keepB s.Leaves s.Tasks,keepB s.Leaves s.Leaves,keepB s.Leaves s.Lasts,(tickR s g t).1,leftG s.Leaves t s.Tasks.length (tickR s g t).2.1⟩,(tickR s g t).2.2)
 else (⟨s.Tasks,s.Leaves,s.Lasts,(tickR s g t).1,(tickR s g t).2.1⟩,(tickR s g t).2.2)
theorem tick_over {l:List Task} {js:List Job} (h:(tick l js).2.2=true):0≤(tick l js).2.1.Task∧∃hl:(tick l js).2.1.Task.toNat<l.length,l[(tick l js).2.1.Task.toNat].C=taskC l (tick l js).2.1:=by
 unfold tick at h
 split at h
 rotate_left
 ·cases h
 rename_i hh
 obtain⟨t0,_,_,t3,_⟩:=hh.1.2.2.1 _ (List.getElem_mem hh.2.2)
 have e:(tick l js).2.1=upd js[(cho l js).toNat]:=by unfold tick; rw[dif_pos hh]
 rw[e]
 refine⟨t0,t3,?_⟩
 unfold taskC
 rw[List.getElem?_eq_getElem (show (upd js[(cho l js).toNat]).Task.toNat<l.length from t3)]
 rfl
theorem left_down {R:Type} {L:List Bool} {T:List Task} {A:List Int} {t:Int} {r:R} (h1:L.length=T.length) (h2:A.length=T.length) (h8:T.length≤8) (lg:List Entry)
  (K:List Task→List Bool→List Int→List Entry→Option R) (hK:K (keepB L T) (keepB L L) (keepB L A) (leftG L t T.length lg)=some r)
  {body:((List Task)×(List Bool)×(List Int)×(List Entry)×Int→Option R)→(List Task)×(List Bool)×(List Int)×(List Entry)×Int→Option R}
  (h0:∀nx T' L' A' g',body nx (T',L',A',g',-1)=K T' L' A' g')
  (hs:∀nx T' L' A' g' (m:Nat) (hm:m<L'.length),m<T'.length→m<A'.length→L'.length≤8→T'.length≤8→A'.length≤8→body nx (T',L',A',g',(m:Int))=if L'[m]=true then nx (T'.take m++T'.drop (m+1),L'.take m++L'.drop (m+1),A'.take m++A'.drop (m+1),nt g' ⟨t,7,(m:Int)⟩,(m:Int)-1) else nx (T',L',A',g',(m:Int)-1)) :
  lp body FU (T,L,A,lg,(T.length:Int)-1)=some r:=by
 have cut:∀{α:Type} (X:List α) (m:Nat),X.length=T.length→m<T.length→∀(Y:List α),(X.take (m+1)++Y).take m++(X.take (m+1)++Y).drop (m+1)=X.take m++Y:=by
  intro α X m hX hm Y
  have e:(X.take (m+1)).length=m+1:=by rw[List.length_take]; omega
  rw[List.take_append_of_le_length (by omega),List.drop_left' e,List.take_take,Nat.min_eq_left (by omega)]
 have put:∀{α:Type} (X:List α) (m:Nat) (hX:m<X.length) (Y:List α),X.take (m+1)++Y=X.take m++(X[m]::Y):=by
  intro α X m hX Y
  rw[←List.take_append_getElem hX,List.append_assoc]; rfl
 refine lp_inv (fun v=>(v.2.2.2.2+1).toNat) (fun v=>∃(m:Nat) (g:List Entry),m≤T.length∧v=(T.take m++keepB (L.drop m) (T.drop m),L.take m++keepB (L.drop m) (L.drop m),A.take m++keepB (L.drop m) (A.drop m),g,(m:Int)-1)∧leftG L t m g=leftG L t T.length lg) ?_ FU _ ⟨T.length,lg,Nat.le_refl _,?_,rfl⟩ (by unfold FU; simp only; omega)
 rotate_left
 ·rw[←h1,List.drop_length,keepB_nil,keepB_nil,keepB_nil,List.take_length,h1,List.take_length,←h2,List.take_length,List.append_nil,List.append_nil,List.append_nil]
 rintro nx v ⟨m,g,hm,rfl,hg⟩ hnx
 cases m with
 | zero=>
  simp only[leftG] at hg
  show body nx (_,_,_,_,-1)=_
  rw[h0,List.take_zero,List.take_zero,List.take_zero,List.drop_zero,List.drop_zero,List.drop_zero,List.nil_append,List.nil_append,List.nil_append,hg]
  exact hK
 | succ m=>
  rw[show ((m+1:Nat):Int)-1=(m:Int) by omega]
  have l1:=keepB_len (L.drop (m+1)) (L.drop (m+1))
  have l2:=keepB_len (L.drop (m+1)) (T.drop (m+1))
  have l3:=keepB_len (L.drop (m+1)) (A.drop (m+1))
  simp only[List.length_drop] at l1 l2 l3
  have mL:m<L.length:=by omega
  have mA:m<A.length:=by omega
  have hmL:m<(L.take (m+1)++keepB (L.drop (m+1)) (L.drop (m+1))).length:=by simp only[List.length_append,List.length_take]; omega
  rw[hs nx _ _ _ g m hmL (by simp only[List.length_append,List.length_take]; omega) (by simp only[List.length_append,List.length_take]; omega) (by simp only[List.length_append,List.length_take]; omega) (by simp only[List.length_append,List.length_take]; omega) (by simp only[List.length_append,List.length_take]; omega)]
  have eL:(L.take (m+1)++keepB (L.drop (m+1)) (L.drop (m+1)))[m]=L[m]:=by
   rw[List.getElem_append_left (by rw[List.length_take]; omega),List.getElem_take]
  have eo:(L[m]?).getD false=L[m]:=by rw[List.getElem?_eq_getElem mL]; rfl
  rw[eL]
  have hg:leftG L t m (if (L[m]?).getD false=true then nt g ⟨t,7,(m:Int)⟩ else g)=leftG L t T.length lg:=hg
  rw[eo] at hg
  by_cases c:L[m]=true
  ·rw[if_pos c,cut T m rfl (by omega),cut L m h1 (by omega),cut A m h2 (by omega)]
   rw[if_pos c] at hg
   refine hnx _ ⟨m,_,by omega,?_,hg⟩ (by simp only; omega)
   rw[keepB_drop mL (show m<T.length by omega),keepB_drop mL mL,keepB_drop mL mA,if_pos c,if_pos c,if_pos c]
  ·rw[if_neg c,put T m (by omega),put L m mL,put A m mA]
   rw[if_neg c] at hg
   refine hnx _ ⟨m,_,by omega,?_,hg⟩ (by simp only; omega)
   rw[keepB_drop mL (show m<T.length by omega),keepB_drop mL mL,keepB_drop mL mA,if_neg c,if_neg c,if_neg c]
theorem without_eq1 (l:List Task) (m:Nat) (h:m<l.length) (h8:l.length≤8):part_without_api_Task l (m:Int)=some (l.take m++l.drop (m+1)):=by
 have e:((m:Int)+1).toNat=m+1:=by omega
 unfold part_without_api_Task
 rw[wr_in _ (by omega),ck_t (by simp; omega),ck_t (by simp; omega),ck_t (by simp; omega),ck_t (by simp; omega)]
 simp[e]
theorem without_eq2 (l:List Bool) (m:Nat) (h:m<l.length) (h8:l.length≤8):part_without_bool l (m:Int)=some (l.take m++l.drop (m+1)):=by
 have e:((m:Int)+1).toNat=m+1:=by omega
 unfold part_without_bool
 rw[wr_in _ (by omega),ck_t (by simp; omega),ck_t (by simp; omega),ck_t (by simp; omega),ck_t (by simp; omega)]
 simp[e]
theorem without_eq3 (l:List Int) (m:Nat) (h:m<l.length) (h8:l.length≤8):part_without_int l (m:Int)=some (l.take m++l.drop (m+1)):=by
 have e:((m:Int)+1).toNat=m+1:=by omega
 unfold part_without_int
 rw[wr_in _ (by omega),ck_t (by simp; omega),ck_t (by simp; omega),ck_t (by simp; omega),ck_t (by simp; omega)]
 simp[e]
theorem jn_to {σ R:Type} {Y:σ→Option R} {X:(σ→Option R)→Option R} {r:Option R} (v:σ) (hX:∀k,X k=k v) (hY:Y v=r):jn Y X=r:=by
 rw[jn_eq,hX]; exact hY
theorem part_Tick_eq (s:PartState) (g:Bool) (t:Int) (hb:StB s):part_Tick s g t=some (if stP s∧whenP t then ((tickV s g t).1,(tickV s g t).2,0) else (s,-1,1)):=by
 unfold part_Tick
 refine jn_to (!decide (stP s∧whenP t)) ?_ ?_
 ·intro k
  rw[bnd_eq (part_Right_eq s hb)]
  by_cases h1:stP s
  rotate_left
  ·rw[decide_eq_false h1,Bool.not_false,fk_t,decide_eq_false (fun h=>h1 h.1)]; rfl
  rw[decide_eq_true h1,Bool.not_true,fk_f,bnd_eq (part_when_eq t)]
  by_cases h2:whenP t
  ·rw[decide_eq_true h2,decide_eq_true ⟨h1,h2⟩]
  ·rw[decide_eq_false h2,decide_eq_false (fun h=>h2 h.2)]
 by_cases hh:stP s∧whenP t
 rotate_left
 ·rw[decide_eq_false hh,Bool.not_false,fk_t,if_neg hh]
 obtain⟨h1,h2⟩:=hh
 have hLl:=h1.1
 have hLs:=h1.2.1.2.1
 have hT8:=AllP_len h1.2.1.1
 have hJ:=h1.2.2.1.2.1
 have hG:=h1.2.2.2
 rw[decide_eq_true (⟨h1,h2⟩:stP s∧whenP t),Bool.not_true,fk_f,if_pos ⟨h1,h2⟩,ck_t (by simp; omega),List.nil_append]
 refine lp_inv (fun v=>s.Jobs.length-v.2.2.toNat) (fun v=>∃k:Nat,v=(missJ t (s.Jobs.take k),missG t (s.Jobs.take k) s.Log,(k:Int))∧k≤s.Jobs.length) ?_ FU _ ⟨0,rfl,Nat.zero_le _⟩ (by unfold FU; simp only; omega)
 rintro nx v ⟨k,rfl,hk⟩ hnx
 dsimp only
 have hgl:=missG_len t (s.Jobs.take k) hG
 have hjl:(missJ t (s.Jobs.take k)).length≤32:=by
  have h1:(missJ t (s.Jobs.take k)).length≤(s.Jobs.take k).length:=List.length_filter_le _ _
  rw[List.length_take] at h1; omega
 rw[lt_nat]
 by_cases hk':k<s.Jobs.length
 ·rw[decide_eq_true hk',fk_t,jn_eq,ix_lt hk',wr_succ k _ hk' (by omega)]
  have nxt:=hnx (missJ t (s.Jobs.take (k+1)),missG t (s.Jobs.take (k+1)) s.Log,((k+1:Nat):Int)) ⟨k+1,rfl,hk'⟩ (by simp only[Int.toNat_natCast]; omega)
  rw[←List.take_append_getElem hk',missJ_snoc,missG_snoc] at nxt
  by_cases c:t<s.Jobs[k].Due
  ·rw[if_pos c,if_pos c] at nxt
   rw[decide_eq_true (show s.Jobs[k].Due>t from c),fk_t,ck_t (by simp; omega)]
   exact nxt
  ·rw[if_neg c,if_neg c] at nxt
   rw[decide_eq_false (show ¬s.Jobs[k].Due>t from c),fk_f]
   exact (nt_fk (missG t (s.Jobs.take k) s.Log) ⟨t,6,s.Jobs[k].Task⟩ (fun lg=>nx (missJ t (s.Jobs.take k),lg,((k+1:Nat):Int)))).trans nxt
 rw[decide_eq_false hk',fk_f,show k=s.Jobs.length by omega,List.take_length]
 have hpm:=jobsP_miss t h1.2.2.1
 have hml:(missJ t s.Jobs).length≤32:=hpm.2.1
 have hgl:=missG_len t s.Jobs hG
 refine jn_to (tickR s g t) ?_ ?_
 ·intro k7
  unfold tickR runV
  cases g with
  | false=>rw[fk_f,if_neg (fun h=>by cases h.1)]
  | true=>
   rw[fk_t,bnd_eq (srp_Tick_eq _ _ hb.t)]
   by_cases c0:(missJ t s.Jobs).length=0
   ·rw[decide_eq_true (by omega),fk_t,if_neg (fun h=>by omega)]
   rw[decide_eq_false (by omega),fk_f,if_pos ⟨rfl,by omega⟩]
   cases ov:(tick s.Tasks (missJ t s.Jobs)).2.2 with
   | false=>
    refine jn_to false (fun k=>by rw[fk_f]) ?_
    rw[fk_f,fk_f,if_neg (by simp)]
   | true=>
    obtain⟨t0,t3,eC⟩:=tick_over ov
    by_cases c5:taskC s.Tasks (tick s.Tasks (missJ t s.Jobs)).2.1<(tick s.Tasks (missJ t s.Jobs)).2.1.Want
    ·refine jn_to true (fun k=>?_) ?_
     ·rw[fk_t,ix_int t0 t3,eC,decide_eq_true (show _>_ from c5)]
     rw[fk_t,if_pos rfl,if_pos c5]
     exact nt_fk _ ⟨t,5,(tick s.Tasks (missJ t s.Jobs)).2.1.Task⟩ (fun lg=>k7 ((tick s.Tasks (missJ t s.Jobs)).1,lg,(tick s.Tasks (missJ t s.Jobs)).2.1.Task))
    ·refine jn_to false (fun k=>?_) ?_
     ·rw[fk_t,ix_int t0 t3,eC,decide_eq_false (show ¬_>_ from c5)]
     rw[fk_f,fk_t,if_pos rfl,if_neg c5]
     exact nt_fk _ ⟨t,4,(tick s.Tasks (missJ t s.Jobs)).2.1.Task⟩ (fun lg=>k7 ((tick s.Tasks (missJ t s.Jobs)).1,lg,(tick s.Tasks (missJ t s.Jobs)).2.1.Task))
 rw[jn_eq]
 by_cases c0:(tickR s g t).1.length=0
 rotate_left
 ·rw[decide_eq_false (by omega),fk_f]
  unfold tickV
  rw[if_neg c0]
 rw[decide_eq_true (by omega),fk_t,wr_in _ (by omega)]
 unfold tickV
 rw[if_pos c0]
 refine left_down (t:=t) hLl hLs hT8 (tickR s g t).2.1 (fun T' L' A' g'=>some ((⟨T',L',A',(tickR s g t).1,g'⟩:PartState),(tickR s g t).2.2,(0:Int))) rfl ?_ ?_
 ·intro nx T' L' A' g'
  dsimp only
  rw[decide_eq_false (by omega),fk_f]
 ·intro nx T' L' A' g' m hm hmT hmA h8L h8T h8A
  dsimp only
  rw[decide_eq_true (by omega),fk_t,jn_eq,ix_lt hm,wr_in _ (by omega)]
  by_cases c:L'[m]=true
  ·rw[if_pos c,c,fk_t,bnd_eq (without_eq1 _ _ hmT h8T),bnd_eq (without_eq2 _ _ hm h8L),bnd_eq (without_eq3 _ _ hmA h8A)]
   exact nt_fk g' ⟨t,7,(m:Int)⟩ (fun lg=>nx (_,_,_,lg,(m:Int)-1))
  ·rw[if_neg c,Bool.eq_false_iff.2 c,fk_f]
def plus (s:PartState) (x:Task):PartState:=⟨s.Tasks++[x],s.Leaves++[false],s.Lasts++[-1],s.Jobs,s.Log⟩
noncomputable def addV (s:PartState) (x:Task):PartState×Int:=if stP s∧RightP x then (if s.Tasks.length<8 then (plus s x,0) else (s,3)) else (s,1)
theorem part_Add_eq (s:PartState) (x:Task) (hb:StB s):part_Add s x=some (addV s x):=by
 unfold part_Add
 refine jn_to (!decide (stP s∧RightP x)) (fun k=>?_) ?_
 ·rw[bnd_eq (part_Right_eq s hb)]
  by_cases h1:stP s
  rotate_left
  ·rw[decide_eq_false h1,Bool.not_false,fk_t,decide_eq_false (fun h=>h1 h.1)]; rfl
  rw[decide_eq_true h1,Bool.not_true,fk_f,bnd_eq (task_Right_eq x)]
  unfold right
  by_cases h2:RightP x
  ·rw[decide_eq_true h2,decide_eq_true (⟨h1,h2⟩:stP s∧RightP x)]
  ·rw[decide_eq_false h2,decide_eq_false (fun h=>h2 h.2)]
 unfold addV
 by_cases hh:stP s∧RightP x
 rotate_left
 ·rw[decide_eq_false hh,Bool.not_false,fk_t,if_neg hh]
 obtain⟨h1,h2⟩:=hh
 rw[decide_eq_true (⟨h1,h2⟩:stP s∧RightP x),Bool.not_true,fk_f,if_pos (⟨h1,h2⟩:stP s∧RightP x)]
 by_cases h8:s.Tasks.length<8
 rotate_left
 ·rw[decide_eq_true (by omega),fk_t,if_neg h8]
 have hLl:=h1.1
 have hLs:=h1.2.1.2.1
 have hS:x.Secs.length≤4:=h2.len
 rw[decide_eq_false (by omega),fk_f,if_pos h8,ck_t (by simp; omega),ck_t (by simp; omega),ck_t (by simp; omega),ck_t (by simp; omega),ck_t (by simp; omega),ck_t (by simp; omega),ck_t (by simp; omega)]
 simp only[List.nil_append]
 rfl
noncomputable def leaveV (s:PartState) (i:Int):PartState×Int:=if stP s∧0≤i∧i<(s.Tasks.length:Int) then (if (s.Leaves[i.toNat]?).getD false=true then (s,9) else (⟨s.Tasks,s.Leaves.set i.toNat true,s.Lasts,s.Jobs,s.Log⟩,0)) else (s,1)
theorem part_Leave_eq (s:PartState) (i:Int) (hb:StB s):part_Leave s i=some (leaveV s i):=by
 unfold part_Leave
 refine jn_to (!decide (stP s∧0≤i∧i<(s.Tasks.length:Int))) (fun k=>?_) ?_
 ·rw[bnd_eq (part_Right_eq s hb)]
  by_cases h1:stP s
  rotate_left
  ·rw[decide_eq_false h1,Bool.not_false,fk_t,decide_eq_false (fun h=>h1 h.1)]; rfl
  rw[decide_eq_true h1,Bool.not_true,fk_f]
  by_cases h2:0≤i
  rotate_left
  ·rw[decide_eq_true (by omega),fk_t,decide_eq_false (fun h=>h2 h.2.1)]; rfl
  rw[decide_eq_false (by omega),fk_f]
  by_cases h3:i<(s.Tasks.length:Int)
  ·rw[decide_eq_false (by omega),decide_eq_true (⟨h1,h2,h3⟩:stP s∧0≤i∧i<(s.Tasks.length:Int))]; rfl
  ·rw[decide_eq_true (by omega),decide_eq_false (fun h=>h3 h.2.2)]; rfl
 unfold leaveV
 by_cases hh:stP s∧0≤i∧i<(s.Tasks.length:Int)
 rotate_left
 ·rw[decide_eq_false hh,Bool.not_false,fk_t,if_neg hh]
 obtain⟨h1,h2,h3⟩:=hh
 have hLl:=h1.1
 have hT8:=AllP_len h1.2.1.1
 have hiL:i.toNat<s.Leaves.length:=by omega
 rw[decide_eq_true (⟨h1,h2,h3⟩:stP s∧0≤i∧i<(s.Tasks.length:Int)),Bool.not_true,fk_f,if_pos (⟨h1,h2,h3⟩:stP s∧0≤i∧i<(s.Tasks.length:Int)),ix_int h2 hiL]
 have eL:(s.Leaves[i.toNat]?).getD false=s.Leaves[i.toNat]:=by rw[List.getElem?_eq_getElem hiL]; rfl
 rw[eL]
 cases c:s.Leaves[i.toNat] with
 | true=>rw[fk_t,if_pos rfl]
 | false=>
  rw[fk_f,if_neg (by simp),ck_t (by simp; omega),List.nil_append,ck_t (by simp; omega),ox_lt hiL]
def new0 (l:List Task):PartState:=⟨l,List.replicate l.length false,List.replicate l.length (-1),[],[]⟩
theorem AllP_take {l:List Task} (h:AllP l) (k:Nat):AllP (l.take k):=⟨fun t ht=>h.1 t (List.mem_of_mem_take ht),by rw[List.length_take]; have:=h.2; omega⟩
theorem stP_new {l:List Task} (h:AllP l):stP (new0 l):=
 ⟨by simp[new0],⟨h,by simp[new0],fun x hx=>by have:=List.eq_of_mem_replicate hx; omega⟩,jobsP_nil h,by simp[new0]⟩
theorem stB_new {l:List Task} (h:AllP l) (hs:∀t∈l,t.Secs.length≤4611686018427387904):StB (new0 l):=⟨by show l.length≤_; have:=h.2; omega,hs,by simp[new0]; have:=h.2; omega⟩
theorem part_New_eq (l:List Task) (hl:l.length≤4611686018427387904) (hs:∀t∈l,t.Secs.length≤4611686018427387904):part_New l=some (if AllP l then (new0 l,0) else (⟨[],[],[],[],[]⟩,1)):=by
 unfold part_New
 rw[bnd_eq (task_All_eq l hl)]
 by_cases ha:AllP l
 rotate_left
 ·rw[decide_eq_false ha,Bool.not_false,fk_t,if_neg ha]
 have h8:=ha.2
 rw[decide_eq_true ha,Bool.not_true,fk_f,if_pos ha]
 refine lp_inv (fun v=>l.length-v.2.2.2.2.2.toNat) (fun v=>∃k:Nat,v=((new0 (l.take k)).Tasks,(new0 (l.take k)).Leaves,(new0 (l.take k)).Lasts,(new0 (l.take k)).Jobs,(new0 (l.take k)).Log,(k:Int))∧k≤l.length) ?_ FU _ ⟨0,rfl,Nat.zero_le _⟩ (by unfold FU; simp only; omega)
 rintro nx v ⟨k,rfl,hk⟩ hnx
 dsimp only
 rw[lt_nat]
 by_cases hk':k<l.length
 rotate_left
 ·rw[decide_eq_false hk',fk_f,show k=l.length by omega,List.take_length]
 rw[decide_eq_true hk',fk_t,ix_lt hk',wr_succ k _ hk' (by omega)]
 have hak:=AllP_take ha k
 have hk8:(l.take k).length=k:=by rw[List.length_take]; omega
 have e:addV (new0 (l.take k)) l[k]=(plus (new0 (l.take k)) l[k],0):=by
  unfold addV
  rw[if_pos ⟨stP_new hak,ha.1 _ (List.getElem_mem hk')⟩,if_pos (show (new0 (l.take k)).Tasks.length<8 by show (l.take k).length<8; omega)]
 have hA:=part_Add_eq (new0 (l.take k)) l[k] (stB_new hak fun t ht=>hs t (List.mem_of_mem_take ht))
 rw[e] at hA
 have hA':part_Add ⟨(new0 (l.take k)).Tasks,(new0 (l.take k)).Leaves,(new0 (l.take k)).Lasts,(new0 (l.take k)).Jobs,(new0 (l.take k)).Log⟩ l[k]=some (plus (new0 (l.take k)) l[k],0):=hA
 rw[bnd_eq hA']
 refine hnx _ ⟨k+1,?_,hk'⟩ (by simp only[Int.toNat_natCast]; omega)
 have e2:plus (new0 (l.take k)) l[k]=new0 (l.take (k+1)):=by
  unfold plus new0
  rw[←List.take_append_getElem hk',List.length_append,List.length_singleton,List.replicate_succ',List.replicate_succ']
 rw[e2]
def okS (s:PartState):Prop:=stP s∧atP s.Lasts s.Jobs
theorem StB.of_st {s:PartState} (h:stP s):StB s:=by
 have h8:=AllP_len h.2.1.1
 have hA:=h.2.1.2.1
 exact⟨by omega,fun t ht=>h.2.1.1.slen ht,by omega⟩
theorem okS_new {l:List Task} (h:AllP l):okS (new0 l):=⟨stP_new h,fun j hj=>(List.not_mem_nil hj).elim⟩
theorem okS_leave {s:PartState} {i:Int} (h:okS s):okS (leaveV s i).1:=by
 unfold leaveV
 split
 ·split
  ·exact h
  ·exact⟨⟨by show (s.Leaves.set _ _).length=_; rw[List.length_set]; exact h.1.1,h.1.2⟩,h.2⟩
 ·exact h
theorem okS_add {s:PartState} {x:Task} (h:okS s):okS (addV s x).1:=by
 unfold addV
 split
 rotate_left
 ·exact h
 rename_i hx
 split
 rotate_left
 ·exact h
 rename_i h8
 obtain⟨⟨h1,⟨ha,h2,h3⟩,⟨_,h4,h5,h6⟩,h7⟩,hat⟩:=h
 have ha':AllP (s.Tasks++[x]):=⟨fun t ht=>by
  rcases List.mem_append.1 ht with h | h
  ·exact ha.1 t h
  ·rw[List.mem_singleton.1 h]; exact hx.2,by simp; omega⟩
 refine⟨⟨by show (s.Leaves++[false]).length=(s.Tasks++[x]).length; simp; omega,⟨ha',by show (s.Lasts++[-1]).length=(s.Tasks++[x]).length; simp; omega,fun y hy=>?_⟩,⟨ha',h4,fun j hj=>?_,h6⟩,h7⟩,fun j hj=>?_⟩
 ·rcases List.mem_append.1 hy with h | h
  ·exact h3 y h
  ·rw[List.mem_singleton.1 h]; omega
 ·obtain⟨t0,t1,t2,t3,tb⟩:=h5 j hj
  refine⟨t0,t1,t2,by show _<(s.Tasks++[x]).length; simp; omega,?_⟩
  have e:(s.Tasks++[x])[j.Task.toNat]'(by simp; omega)=s.Tasks[j.Task.toNat]:=List.getElem_append_left t3
  show bodyP ((s.Tasks++[x])[j.Task.toNat]'(by simp; omega)) j
  rw[e]; exact tb
 ·have hj':=hat j hj
  obtain⟨t0,_,_,t3,_⟩:=h5 j hj
  have e:lg (s.Lasts++[-1]) j.Task=lg s.Lasts j.Task:=by unfold lg; rw[List.getElem?_append_left (by omega)]
  show j.At≤lg (s.Lasts++[-1]) j.Task
  rw[e]; exact hj'
theorem tickR_len {s:PartState} {g:Bool} {t:Int} (h1:stP s):(tickR s g t).2.1.length≤2000:=by
 have hm:=missG_len t s.Jobs h1.2.2.2
 unfold tickR runV
 split
 ·simp only
  split
  ·exact nt_len hm
  ·exact hm
 ·exact hm
theorem tickR_jobs {s:PartState} {g:Bool} {t:Int} (h1:stP s):jobsP s.Tasks (tickR s g t).1:=by
 have hm:=jobsP_miss t h1.2.2.1
 unfold tickR runV
 split
 ·exact jobsP_tick hm
 ·exact hm
theorem mem_tick {l:List Task} {js:List Job} {j:Job} (h:j∈(tick l js).1):∃i∈js,i.Task=j.Task∧i.At=j.At∧i.Due=j.Due∧i.Want=j.Want:=by
 unfold tick at h
 split at h
 ·rename_i hh
  rcases mem_tickN h with ⟨k,hk,_,rfl⟩ | ⟨_,rfl⟩
  ·exact⟨_,List.getElem_mem hk,rfl,rfl,rfl,rfl⟩
  ·exact⟨_,List.getElem_mem hh.2.2,rfl,rfl,rfl,rfl⟩
 ·exact⟨j,h,rfl,rfl,rfl,rfl⟩
theorem mem_tickR {s:PartState} {g:Bool} {t:Int} {j:Job} (h:j∈(tickR s g t).1):∃i∈s.Jobs,i.Task=j.Task∧i.At=j.At∧i.Due=j.Due∧i.Want=j.Want∧t<i.Due:=by
 have key:∀i∈missJ t s.Jobs,i∈s.Jobs∧t<i.Due:=fun i hi=>by
  unfold missJ at hi
  rw[List.mem_filter,decide_eq_true_eq] at hi
  exact hi
 unfold tickR runV at h
 split at h
 ·obtain⟨i,hi,e1,e2,e3,e4⟩:=mem_tick h
  exact⟨i,(key i hi).1,e1,e2,e3,e4,(key i hi).2⟩
 ·exact⟨j,(key j h).1,rfl,rfl,rfl,rfl,(key j h).2⟩
theorem okS_tick {s:PartState} {g:Bool} {t:Int} (h:okS s):okS (tickV s g t).1:=by
 obtain⟨h1,hat⟩:=h
 have hj:=tickR_jobs (g:=g) (t:=t) h1
 have hl:=tickR_len (g:=g) (t:=t) h1
 unfold tickV
 split
 ·rename_i h0
  have e0:(tickR s g t).1=[]:=List.eq_nil_of_length_eq_zero h0
  have ha:AllP (keepB s.Leaves s.Tasks):=⟨fun x hx=>h1.2.1.1.1 x ((keepB_sub _ _).subset hx),Nat.le_trans (keepB_len _ _) h1.2.1.1.2⟩
  refine⟨⟨keepB_len_eq _ _ _ h1.1,⟨ha,keepB_len_eq _ _ _ h1.2.1.2.1,fun x hx=>h1.2.1.2.2 x ((keepB_sub _ _).subset hx)⟩,?_,leftG_len _ _ _ hl⟩,?_⟩
  ·show jobsP (keepB s.Leaves s.Tasks) (tickR s g t).1
   rw[e0]; exact jobsP_nil ha
  ·show atP _ (tickR s g t).1
   rw[e0]; exact fun j hj=>(List.not_mem_nil hj).elim
 ·refine⟨⟨h1.1,h1.2.1,hj,hl⟩,fun j hj=>?_⟩
  obtain⟨i,hi,e1,e2,_⟩:=mem_tickR hj
  have:=hat i hi
  rw[e1,e2] at this
  exact this
noncomputable def fitE (l:List Task) (f:Face):Int:=if errC l f=0∧¬fitsF l f then 7 else errC l f
theorem fitE_zero {l:List Task} {f:Face}:fitE l f=0↔fitsF l f:=by
 unfold fitE
 constructor
 ·intro h
  refine Classical.byContradiction fun hf=>?_
  by_cases c:errC l f=0
  ·rw[if_pos ⟨c,hf⟩] at h; omega
  ·rw[if_neg (fun h=>c h.1)] at h; exact c h
 ·intro h
  rw[if_neg (fun hh=>hh.2 h)]
  unfold errC; rw[if_pos h.1]
theorem admit_fit_1_eq (l:List Task) (P B:Int) (hl:l.length≤4611686018427387904):admit_fit_1 l P B=some (fitE l ⟨P,B⟩):=by
 unfold admit_fit_1
 rw[bnd_eq (verdict_Fits_eq l ⟨P,B⟩ hl)]
 unfold fitE
 by_cases h:errC l ⟨P,B⟩=0
 ·by_cases hf:fitsF l ⟨P,B⟩
  ·refine jn_to false (fun k=>by rw[decide_eq_true h,fk_t,decide_eq_true hf]; rfl) ?_
   rw[fk_f,if_neg (fun hh=>hh.2 hf)]
  ·refine jn_to true (fun k=>by rw[decide_eq_true h,fk_t,decide_eq_false hf]; rfl) ?_
   rw[fk_t,if_pos ⟨h,hf⟩]
 ·refine jn_to false (fun k=>by rw[decide_eq_false h,fk_f]) ?_
  rw[fk_f,if_neg (fun hh=>h hh.1)]
theorem admit_unless_1_eq (a:Bool) (e:Int):admit_unless_1 a e=some (if a=true then 0 else e):=by cases a <;> rfl
theorem admit_first_eq (a:Bool) (e:Int) (l:List Task) (P B:Int) (hl:l.length≤4611686018427387904) (he:e≠0):admit_first a e l P B=some (if a=true then fitE l ⟨P,B⟩ else e):=by
 unfold admit_first
 refine lp_up 2 (by unfold FU; omega) (fun k=>(1≤k→a=true)∧(2≤k→fitE l ⟨P,B⟩=0)) ⟨fun h=>by omega,fun h=>by omega⟩ ?_
 intro nx k hk J hnx
 by_cases h0:k=0
 ·subst h0
  rw[decide_eq_true (by omega),fk_t,decide_eq_true (show ((0:Nat):Int)=0 by omega),fk_t,bnd_eq (admit_unless_1_eq a e),wr_succ 0 2 (by omega) (by omega)]
  cases a with
  | true=>rw[if_pos rfl,decide_eq_true rfl,Bool.not_true,fk_f]; exact hnx (by omega) ⟨fun _=>rfl,fun h=>by omega⟩
  | false=>rw[if_neg (by simp),decide_eq_false he,Bool.not_false,fk_t,if_neg (by simp)]
 by_cases h1:k=1
 ·subst h1
  have ha:=J.1 (by omega)
  rw[decide_eq_true (by omega),fk_t,decide_eq_false (by omega),fk_f,decide_eq_true (show ((1:Nat):Int)=1 by omega),fk_t,bnd_eq (admit_fit_1_eq l P B hl),if_pos ha]
  by_cases c:fitE l ⟨P,B⟩=0
  ·rw[decide_eq_true c,Bool.not_true,fk_f,wr_succ 1 2 (by omega) (by omega)]
   rw[if_pos ha] at hnx
   exact hnx (by omega) ⟨fun _=>ha,fun _=>c⟩
  ·rw[decide_eq_false c,Bool.not_false,fk_t]
 ·rw[decide_eq_false (by omega),fk_f,if_pos (J.1 (by omega)),J.2 (by omega)]
theorem admit_first_1_eq (a:Bool) (e:Int) (a2:Bool) (e2:Int) (a3:Bool) (e3:Int) (l:List Task) (P B:Int) (hl:l.length≤4611686018427387904) (he:e≠0) (he2:e2≠0) (he3:e3≠0):admit_first_1 a e a2 e2 a3 e3 l P B=some (if a=true then (if a2=true then (if a3=true then fitE l ⟨P,B⟩ else e3) else e2) else e):=by
 unfold admit_first_1
 refine lp_up 4 (by unfold FU; omega) (fun k=>(1≤k→a=true)∧(2≤k→a2=true)∧(3≤k→a3=true)∧(4≤k→fitE l ⟨P,B⟩=0)) ⟨fun h=>by omega,fun h=>by omega,fun h=>by omega,fun h=>by omega⟩ ?_
 intro nx k hk J hnx
 obtain⟨J1,J2,J3,J4⟩:=J
 by_cases h0:k=0
 ·subst h0
  rw[decide_eq_true (by omega),fk_t,decide_eq_true (show ((0:Nat):Int)=0 by omega),fk_t,bnd_eq (admit_unless_1_eq a e),wr_succ 0 4 (by omega) (by omega)]
  cases a with
  | true=>rw[if_pos rfl,decide_eq_true rfl,Bool.not_true,fk_f]; exact hnx (by omega) ⟨fun _=>rfl,fun h=>by omega,fun h=>by omega,fun h=>by omega⟩
  | false=>rw[if_neg (by simp),decide_eq_false he,Bool.not_false,fk_t,if_neg (by simp)]
 have ha:=J1 (by omega)
 rw[if_pos ha] at hnx ⊢
 by_cases h1:k=1
 ·subst h1
  rw[decide_eq_true (by omega),fk_t,decide_eq_false (by omega),fk_f,decide_eq_true (show ((1:Nat):Int)=1 by omega),fk_t,bnd_eq (admit_unless_1_eq a2 e2),wr_succ 1 4 (by omega) (by omega)]
  cases a2 with
  | true=>rw[if_pos rfl,decide_eq_true rfl,Bool.not_true,fk_f]; exact hnx (by omega) ⟨fun _=>ha,fun _=>rfl,fun h=>by omega,fun h=>by omega⟩
  | false=>rw[if_neg (by simp),decide_eq_false he2,Bool.not_false,fk_t,if_neg (by simp)]
 have ha2:=J2 (by omega)
 rw[if_pos ha2] at hnx ⊢
 by_cases h2:k=2
 ·subst h2
  rw[decide_eq_true (by omega),fk_t,decide_eq_false (by omega),fk_f,decide_eq_false (by omega),fk_f,decide_eq_true (show ((2:Nat):Int)=2 by omega),fk_t,bnd_eq (admit_unless_1_eq a3 e3),wr_succ 2 4 (by omega) (by omega)]
  cases a3 with
  | true=>rw[if_pos rfl,decide_eq_true rfl,Bool.not_true,fk_f]; exact hnx (by omega) ⟨fun _=>ha,fun _=>ha2,fun _=>rfl,fun h=>by omega⟩
  | false=>rw[if_neg (by simp),decide_eq_false he3,Bool.not_false,fk_t,if_neg (by simp)]
 have ha3:=J3 (by omega)
 rw[if_pos ha3] at hnx ⊢
 by_cases h3:k=3
 ·subst h3
  rw[decide_eq_true (by omega),fk_t,decide_eq_false (by omega),fk_f,decide_eq_false (by omega),fk_f,decide_eq_false (by omega),fk_f,decide_eq_true (show ((3:Nat):Int)=3 by omega),fk_t,bnd_eq (admit_fit_1_eq l P B hl)]
  by_cases c:fitE l ⟨P,B⟩=0
  ·rw[decide_eq_true c,Bool.not_true,fk_f,wr_succ 3 4 (by omega) (by omega)]
   exact hnx (by omega) ⟨fun _=>ha,fun _=>ha2,fun _=>ha3,fun _=>c⟩
  ·rw[decide_eq_false c,Bool.not_false,fk_t]
 ·rw[decide_eq_false (by omega),fk_f,J4 (by omega)]
theorem admit_unless_eq (a:Bool) (e:Int):admit_unless a e=some (a,e):=rfl
theorem admit_fit_eq (l:List Task) (f:Face):admit_fit l f=some (l,f.P,f.B):=rfl
noncomputable def bootE (p:Part):Int:=if faceP p.Face∧AllP p.Tasks then fitE p.Tasks p.Face else 1
theorem bootE_zero {p:Part}:bootE p=0↔fitsF p.Tasks p.Face:=by
 unfold bootE
 constructor
 ·intro h
  split at h
  ·exact fitE_zero.1 h
  ·omega
 ·intro h
  rw[if_pos ⟨h.1.2.1,h.1.1⟩]; exact fitE_zero.2 h
theorem admit_Boot_eq (p:Part) (hl:p.Tasks.length≤4611686018427387904) (hs:∀t∈p.Tasks,t.Secs.length≤4611686018427387904):admit_Boot p=some (if bootE p=0 then (new0 p.Tasks,0) else (⟨[],[],[],[],[]⟩,bootE p)):=by
 unfold admit_Boot
 refine jn_to (bootE p) (fun k=>?_) ?_
 ·rw[bnd_eq (supply_Right_eq p.Face)]
  unfold bootE
  by_cases h1:faceP p.Face
  ·rw[decide_eq_true h1,fk_t,bnd_eq (task_All_eq _ hl),bnd_eq (admit_unless_eq _ _),bnd_eq (admit_fit_eq _ _),bnd_eq (admit_first_eq _ _ _ _ _ hl (show (1:Int)≠0 by decide))]
   by_cases h2:AllP p.Tasks
   ·rw[if_pos (decide_eq_true h2),if_pos ⟨h1,h2⟩]
   ·rw[if_neg (by simpa using h2),if_neg (fun h=>h2 h.2)]
  ·rw[decide_eq_false h1,fk_f,bnd_eq (admit_unless_eq _ _),bnd_eq (admit_fit_eq _ _),bnd_eq (admit_first_eq _ _ _ _ _ hl (show (1:Int)≠0 by decide)),if_neg (by simp),if_neg (fun h=>h1 h.1)]
 by_cases h:bootE p=0
 ·have hf:=bootE_zero.1 h
  rw[decide_eq_true h,Bool.not_true,fk_f,if_pos h,bnd_eq (part_New_eq _ hl hs),if_pos hf.1.1]
 ·rw[decide_eq_false h,Bool.not_false,fk_t,if_neg h]
def begunP (js:List Job):Prop:=∃j∈js,j.Began=true
noncomputable instance (js:List Job):Decidable (begunP js):=Classical.propDecidable _
theorem fst_begun (js:List Job):fst js true<0↔¬begunP js:=by
 constructor
 ·rintro h ⟨j,hj,hb⟩; exact fst_none h j hj hb
 ·intro h
  rcases fst_cases js true with h1 | ⟨h1,h2⟩
  ·omega
  ·exact absurd ⟨_,List.getElem_mem h2,(fst_first h1 h2).1⟩ h
noncomputable def addE (s:PartState) (f:Face) (x:Task):Int:=
 if stP s∧faceP f∧RightP x then (if s.Tasks.length<8 then (if begunP s.Jobs then 9 else fitE (s.Tasks++[x]) f) else 3) else 1
theorem addE_zero {s:PartState} {f:Face} {x:Task} (h:addE s f x=0):stP s∧RightP x∧s.Tasks.length<8∧¬begunP s.Jobs∧fitsF (s.Tasks++[x]) f:=by
 unfold addE at h
 split at h
 rotate_left
 ·omega
 rename_i h1
 split at h
 rotate_left
 ·omega
 rename_i h2
 split at h
 ·omega
 rename_i h3
 exact⟨h1.1,h1.2.2,h2,h3,fitE_zero.1 h⟩
theorem admit_Add_eq (s:PartState) (f:Face) (x:Task) (hb:StB s) (h50:s.Tasks.length≤1000) (hj:s.Jobs.length≤4611686018427387904):admit_Add s f x=some (if addE s f x=0 then (plus s x,0) else (s,addE s f x)):=by
 have hl:(s.Tasks++[x]).length≤4611686018427387904:=by simp; omega
 unfold admit_Add
 rw[ck_t (by simp; omega),ck_t (by simp; omega),List.nil_append]
 have tail:∀(b:Bool) (k:Int→Option (PartState×Int)),(bnd (admit_unless b (1:Int)) fun x5=>bnd (admit_unless (decide ((s.Tasks.length:Int)<(8:Int))) (3:Int)) fun x6=>bnd (job_First s.Jobs true) fun x7=>bnd (admit_unless (decide (x7<(0:Int))) (9:Int)) fun x8=>bnd (admit_fit (s.Tasks++([x]:List Task)) f) fun x9=>bnd (admit_first_1 x5.1 x5.2 x6.1 x6.2 x8.1 x8.2 x9.1 x9.2.1 x9.2.2) fun x10=>k x10)=k (if b=true then (if s.Tasks.length<8 then (if begunP s.Jobs then 9 else fitE (s.Tasks++[x]) f) else 3) else 1):=by
  intro b k
  rw[bnd_eq (admit_unless_eq _ _),bnd_eq (admit_unless_eq _ _),bnd_eq (job_First_eq _ _ hj),bnd_eq (admit_unless_eq _ _),bnd_eq (admit_fit_eq _ _),bnd_eq (admit_first_1_eq _ _ _ _ _ _ _ _ _ hl (show (1:Int)≠0 by decide) (show (3:Int)≠0 by decide) (show (9:Int)≠0 by decide))]
  congr 1
  cases b with
  | false=>rfl
  | true=>
   rw[if_pos rfl,if_pos rfl]
   by_cases h2:s.Tasks.length<8
   ·rw[if_pos (decide_eq_true (by omega)),if_pos h2]
    by_cases h3:begunP s.Jobs
    ·rw[if_pos h3,if_neg (by rw[decide_eq_true_eq,fst_begun]; exact fun h=>h h3)]
    ·rw[if_neg h3,if_pos (decide_eq_true ((fst_begun _).2 h3))]
   ·rw[if_neg h2,if_neg (by rw[decide_eq_true_eq]; omega)]
 refine jn_to (addE s f x) (fun k=>?_) ?_
 ·rw[bnd_eq (part_Right_eq s hb)]
  unfold addE
  by_cases h1:stP s
  rotate_left
  ·rw[decide_eq_false h1,fk_f,if_neg (fun h=>h1 h.1)]; exact tail false k
  rw[decide_eq_true h1,fk_t,bnd_eq (supply_Right_eq f)]
  by_cases h2:faceP f
  rotate_left
  ·rw[decide_eq_false h2,fk_f,if_neg (fun h=>h2 h.2.1)]; exact tail false k
  rw[decide_eq_true h2,fk_t,bnd_eq (task_Right_eq x)]
  unfold right
  by_cases h3:RightP x
  ·rw[decide_eq_true h3,if_pos ⟨h1,h2,h3⟩]; exact tail true k
  ·rw[decide_eq_false h3,if_neg (fun h=>h3 h.2.2)]; exact tail false k
 by_cases h:addE s f x=0
 ·obtain⟨a1,a2,a3,_⟩:=addE_zero h
  rw[decide_eq_true h,Bool.not_true,fk_f,if_pos h,bnd_eq (part_Add_eq s x hb)]
  unfold addV
  rw[if_pos ⟨a1,a2⟩,if_pos a3]
 ·rw[decide_eq_false h,Bool.not_false,fk_t,if_neg h]
end Go.Proofs.YtldlcdnhdedoeaaGreat
namespace Go.Proofs.YtldlcdnhdedoeaaGreat
open Go Go.VC
noncomputable def ring_Right (a0:RingRing):Option Bool:=
 fk (decide ((a0.Buf.length:Int)>(0:Int))) (fk (decide (a0.First≥(0:Int))) (fk (decide (a0.First<(a0.Buf.length:Int))) (fk (decide (a0.Many≥(0:Int))) (some (decide (a0.Many≤(a0.Buf.length:Int)))) (some false)) (some false)) (some false)) (some false)
theorem ring_Right_w (a0:RingRing) (r:Bool) (h:ring_Right a0=some r):Go.VC.Spec Tryz.prog 95 [.agg (RingRing.enc a0)] (fun y=>y=E_Bool r):=by
 refine Spec.of_xc (fn:=Tryz.f95) tab ⟨[(0,[1]),(1,[1,3]),(2,[2])],[],[],[]⟩ 31 [.tmp 2] rfl rfl rfl rfl rfl rfl ?_<;>conv=>whnf
 refine lenS a0.Buf (eI .i64) rfl ?_<;>conv=>whnf
 refine fkS h (fun h=>?_) (fun h=>?_)<;>conv=>whnf
 ·refine fkS h (fun h=>?_) (fun h=>?_)<;>conv=>whnf
  ·refine fkS h (fun h=>?_) (fun h=>?_)<;>conv=>whnf
   ·refine fkS h (fun h=>?_) (fun h=>?_)<;>conv=>whnf
    ·exact rt (E:=E_Bool) h rfl
    exact rt (E:=E_Bool) h rfl
   exact rt (E:=E_Bool) h rfl
  exact rt (E:=E_Bool) h rfl
 exact rt (E:=E_Bool) h rfl
end Go.Proofs.YtldlcdnhdedoeaaGreat
namespace Go.Proofs.YtldlcdnhdedoeaaGreat
open Go Go.VC
noncomputable def ring_New (a0:Int):Option (RingRing×Int):=
 jn (fun (w1:Bool)=>fk w1 (some (⟨[],(0:Int),(0:Int)⟩,(1:Int))) (ck (decide ((0:Int)≤a0) && decide (a0*((8:Nat):Int)≤140737488355328) && decide (a0≤1000000000000)) (some (⟨List.replicate a0.toNat ((0:Int):Int),(0:Int),(0:Int)⟩,(0:Int))))) (fun k1=>fk (decide (a0<(1:Int))) (k1 true) (k1 (decide (a0>(4:Int)))))
theorem ring_New_w (a0:Int) (r:RingRing×Int) (h:ring_New a0=some r):Go.VC.Spec Tryz.prog 70 [.d (.int .i64 a0)] (fun y=>y=E_RingRing_Int r):=by
 refine Spec.of_xc (fn:=Tryz.f70) tab ⟨[(0,[0,2]),(1,[0,2,9]),(2,[2,3]),(3,[2,3])],[],[100009],[]⟩ 14 [.cell 2 93,.tmp 3] rfl rfl rfl rfl rfl rfl ?_<;>conv=>whnf
 refine jnS (fun w1=>⟨[(0,lI a0),(2,.l (.ptr 3 0)),(9,lB w1)],14,[],[(3,[.nil,dI (0:Int),dI (0:Int)])],[]⟩) h (fun k1 hk1 h=>?_) (fun w1 h=>?_)<;>conv=>whnf
 ·refine fkS h (fun h=>?_) (fun h=>?_)<;>conv=>whnf
  ·exact jeS hk1 h wR
  exact jeS hk1 h wR
 refine fkS h (fun h=>?_) (fun h=>?_)<;>conv=>whnf
 ·exact rt (E:=E_RingRing_Int) h rfl
 refine mkS ((0:Int):Int) (eI .i64) h rfl rfl (fun h=>?_)<;>conv=>whnf
 exact rt (E:=E_RingRing_Int) h rfl
end Go.Proofs.YtldlcdnhdedoeaaGreat
namespace Go.Proofs.YtldlcdnhdedoeaaGreat
open Go Go.VC
noncomputable def ring_at (a0:RingRing) (a1:Int):Option Int:=
 ck (decide ((a0.Buf.length:Int)≠0)) (some ((wr (a0.First+a1)).tmod (a0.Buf.length:Int)))
theorem ring_at_w (a0:RingRing) (a1:Int) (r:Int) (h:ring_at a0 a1=some r):Go.VC.Spec Tryz.prog 96 [.agg (RingRing.enc a0),.d (.int .i64 a1)] (fun y=>y=E_Int r):=by
 refine Spec.of_xc (fn:=Tryz.f96) tab ⟨[(0,[1,2]),(1,[4])],[],[],[]⟩ 13 [.tmp 4] rfl rfl rfl rfl rfl rfl ?_<;>conv=>whnf
 refine lenS a0.Buf (eI .i64) rfl ?_<;>conv=>whnf
 refine dvS h (fun h=>?_)<;>conv=>whnf
 exact rt (E:=E_Int) h rfl
end Go.Proofs.YtldlcdnhdedoeaaGreat
namespace Go.Proofs.YtldlcdnhdedoeaaGreat
open Go Go.VC
noncomputable def ring_Push (a0:RingRing) (a1:Int):Option (RingRing×Int):=
 bnd (ring_Right a0) fun x1=>fk (!x1) (some (a0,(1:Int))) (fk (decide (a0.Many=(a0.Buf.length:Int))) (some (a0,(3:Int))) (ck (decide ((([]:List Int).length+a0.Buf.length)*8≤140737488355328)) (bnd (ring_at ⟨([]:List Int)++a0.Buf,a0.First,a0.Many⟩ a0.Many) fun x2=>ck (decide (0≤x2) && decide (x2<((([]:List Int)++a0.Buf).length:Int))) (ox (([]:List Int)++a0.Buf) x2.toNat fun x3=>some (⟨(([]:List Int)++a0.Buf).set x2.toNat a1,a0.First,(wr (a0.Many+(1:Int)))⟩,(0:Int))))))
theorem ring_Push_w (a0:RingRing) (a1:Int) (r:RingRing×Int) (h:ring_Push a0 a1=some r):Go.VC.Spec Tryz.prog 79 [.agg (RingRing.enc a0),.d (.int .i64 a1)] (fun y=>y=E_RingRing_Int r):=by
 refine Spec.of_xc (fn:=Tryz.f79) tab ⟨[(0,[1,2,4]),(1,[1,2,4,6]),(2,[4,5]),(3,[1,2,4,11]),(4,[4,5]),(5,[1,2,4]),(6,[2,4]),(7,[2,4]),(8,[4,5])],[],[],[]⟩ 34 [.cell 4 93,.tmp 5] rfl rfl rfl rfl rfl rfl ?_<;>conv=>whnf
 refine caS (E:=E_Bool) h (ring_Right_w a0) rfl (fun _=>rfl) (fun x1 h=>?_)<;>conv=>whnf
 refine fkS h (fun h=>?_) (fun h=>?_)<;>conv=>whnf
 ·exact rt (E:=E_RingRing_Int) h rfl
 refine lenS a0.Buf (eI .i64) rfl ?_<;>conv=>whnf
 refine fkS h (fun h=>?_) (fun h=>?_)<;>conv=>whnf
 ·exact rt (E:=E_RingRing_Int) h rfl
 refine inS (fn:=Tryz.f133) tab ⟨[(0,[1,2]),(1,[1,2]),(2,[2])],[],[],[]⟩ 9 [.cell 2 93] rfl rfl rfl rfl rfl rfl ?_<;>conv=>whnf
 refine liS ([]:List Int) (eI .i64) rfl rfl ?_<;>conv=>whnf
 refine apS (enc:=(eI .i64)) (l1:=([]:List Int)) (l2:=a0.Buf) h rfl rfl (fun _=>rfl) (fun h=>?_)<;>conv=>whnf
 refine⟨7,?_⟩
 conv=>whnf
 refine daS (E:=E_Int) h (ring_at_w ⟨([]:List Int)++a0.Buf,a0.First,a0.Many⟩ a0.Many) (fun _=>rfl) (fun x2 h=>?_)<;>conv=>whnf
 refine drS (by kernel_rfl) ?_<;>conv=>whnf
 refine ioS (enc:=(eI .i64)) h rfl (fun h=>?_)<;>conv=>whnf
 refine seS (enc:=(eI .i64)) h rfl (fun x3=>a1) (fun _=>rfl) (fun x3 h=>?_)<;>conv=>whnf
 exact rt (E:=E_RingRing_Int) h rfl
end Go.Proofs.YtldlcdnhdedoeaaGreat
namespace Go.Proofs.YtldlcdnhdedoeaaGreat
open Go Go.VC
noncomputable def ring_own (a0:RingRing):Option RingRing:=
 ck (decide ((([]:List Int).length+a0.Buf.length)*8≤140737488355328)) (some ⟨([]:List Int)++a0.Buf,a0.First,a0.Many⟩)
theorem ring_own_w (a0:RingRing) (r:RingRing) (h:ring_own a0=some r):Go.VC.Spec Tryz.prog 133 [.agg (RingRing.enc a0)] (fun y=>y=E_RingRing r):=by
 refine Spec.of_xc (fn:=Tryz.f133) tab ⟨[(0,[1,2]),(1,[1,2]),(2,[2])],[],[],[]⟩ 9 [.cell 2 93] rfl rfl rfl rfl rfl rfl ?_<;>conv=>whnf
 refine liS ([]:List Int) (eI .i64) rfl rfl ?_<;>conv=>whnf
 refine apS (enc:=(eI .i64)) (l1:=([]:List Int)) (l2:=a0.Buf) h rfl rfl (fun _=>rfl) (fun h=>?_)<;>conv=>whnf
 exact rt (E:=E_RingRing) h rfl
end Go.Proofs.YtldlcdnhdedoeaaGreat
namespace Go.Proofs.YtldlcdnhdedoeaaGreat
open Go Go.VC
noncomputable def ring_Pop (a0:RingRing):Option (Int×RingRing×Int):=
 bnd (ring_Right a0) fun x1=>fk (!x1) (some ((0:Int),a0,(1:Int))) (fk (decide (a0.Many=(0:Int))) (some ((0:Int),a0,(4:Int))) (bnd (ring_own a0) fun x2=>ix x2.Buf x2.First fun x3=>bnd (ring_at x2 (1:Int)) fun x4=>some (x3,⟨x2.Buf,x4,(wr (x2.Many-(1:Int)))⟩,(0:Int))))
theorem ring_Pop_w (a0:RingRing) (r:Int×RingRing×Int) (h:ring_Pop a0=some r):Go.VC.Spec Tryz.prog 81 [.agg (RingRing.enc a0)] (fun y=>y=E_Int_RingRing_Int r):=by
 refine Spec.of_xc (fn:=Tryz.f81) tab ⟨[(0,[1,3]),(1,[1,3,6]),(2,[2,3,4]),(3,[1,3,11]),(4,[2,3,4]),(5,[1,3]),(6,[1,3,5]),(7,[1,3,5]),(8,[1,3,5]),(9,[2,3,4])],[],[],[]⟩ 33 [.tmp 2,.cell 3 93,.tmp 4] rfl rfl rfl rfl rfl rfl ?_<;>conv=>whnf
 refine caS (E:=E_Bool) h (ring_Right_w a0) rfl (fun _=>rfl) (fun x1 h=>?_)<;>conv=>whnf
 refine fkS h (fun h=>?_) (fun h=>?_)<;>conv=>whnf
 ·refine⟨2,?_⟩
  conv=>whnf
  refine drS (by kernel_rfl) ?_<;>conv=>whnf
  exact rt (E:=E_Int_RingRing_Int) h rfl
 refine fkS h (fun h=>?_) (fun h=>?_)<;>conv=>whnf
 ·refine⟨2,?_⟩
  conv=>whnf
  refine drS (by kernel_rfl) ?_<;>conv=>whnf
  exact rt (E:=E_Int_RingRing_Int) h rfl
 refine ccS (E:=E_RingRing) h (ring_own_w a0) rfl rfl (fun x2 h=>?_)<;>conv=>whnf
 refine ixS (enc:=(eI .i64)) h rfl (fun _=>rfl) (fun x3 h=>?_)<;>conv=>whnf
 refine caS (E:=E_Int) h (ring_at_w x2 (1:Int)) rfl (fun _=>rfl) (fun x4 h=>?_)<;>conv=>whnf
 refine⟨3,?_⟩
 conv=>whnf
 refine drS (by kernel_rfl) ?_<;>conv=>whnf
 exact rt (E:=E_Int_RingRing_Int) h rfl
end Go.Proofs.YtldlcdnhdedoeaaGreat
namespace Go.Proofs.YtldlcdnhdedoeaaGreat
open Go Go.VC
noncomputable def ring_Put (a0:RingRing) (a1:Int):Option RingRing:=
 bnd (ring_Push a0 a1) fun x1=>fk (!decide (x1.2=(3:Int))) (some x1.1) (bnd (ring_Pop a0) fun x2=>bnd (ring_Push x2.2.1 a1) fun x3=>some x3.1)
theorem ring_Put_w (a0:RingRing) (a1:Int) (r:RingRing) (h:ring_Put a0 a1=some r):Go.VC.Spec Tryz.prog 94 [.agg (RingRing.enc a0),.d (.int .i64 a1)] (fun y=>y=E_RingRing r):=by
 refine Spec.of_xc (fn:=Tryz.f94) tab ⟨[(0,[1,2,4]),(1,[1,2,4,5,6]),(2,[1,2,4,5,16]),(3,[4]),(4,[1,2,4]),(5,[4,7]),(6,[4])],[],[],[]⟩ 31 [.cell 4 93] rfl rfl rfl rfl rfl rfl ?_<;>conv=>whnf
 refine ccS (E:=E_RingRing_Int) h (ring_Push_w a0 a1) rfl rfl (fun x1 h=>?_)<;>conv=>whnf
 refine fkS h (fun h=>?_) (fun h=>?_)<;>conv=>whnf
 ·exact rt (E:=E_RingRing) h rfl
 refine ccS (E:=E_Int_RingRing_Int) h (ring_Pop_w a0) rfl rfl (fun x2 h=>?_)<;>conv=>whnf
 refine ccS (E:=E_RingRing_Int) h (ring_Push_w x2.2.1 a1) rfl rfl (fun x3 h=>?_)<;>conv=>whnf
 exact rt (E:=E_RingRing) h rfl
end Go.Proofs.YtldlcdnhdedoeaaGreat
namespace Go.Proofs.YtldlcdnhdedoeaaGreat
open Go Go.VC
def ringP (r:RingRing):Prop:=0<r.Buf.length∧r.Buf.length≤4∧0≤r.First∧r.First<(r.Buf.length:Int)∧0≤r.Many∧r.Many≤(r.Buf.length:Int)
theorem ring_Right_eq (r:RingRing) (h4:r.Buf.length≤4):ring_Right r=some (decide (0<r.Buf.length∧0≤r.First∧r.First<(r.Buf.length:Int)∧0≤r.Many∧r.Many≤(r.Buf.length:Int))):=by
 unfold ring_Right
 by_cases h1:0<r.Buf.length
 rotate_left
 ·rw[decide_eq_false (by omega),fk_f]; exact dec_f fun h=>h1 h.1
 rw[decide_eq_true (by omega),fk_t]
 by_cases h2:0≤r.First
 rotate_left
 ·rw[decide_eq_false (by omega),fk_f]; exact dec_f fun h=>h2 h.2.1
 rw[decide_eq_true (by omega),fk_t]
 by_cases h3:r.First<(r.Buf.length:Int)
 rotate_left
 ·rw[decide_eq_false (by omega),fk_f]; exact dec_f fun h=>h3 h.2.2.1
 rw[decide_eq_true (by omega),fk_t]
 by_cases h4:0≤r.Many
 rotate_left
 ·rw[decide_eq_false (by omega),fk_f]; exact dec_f fun h=>h4 h.2.2.2.1
 rw[decide_eq_true (by omega),fk_t]
 exact dec_iff ⟨fun h=>⟨h1,h2,h3,h4,h⟩,fun h=>h.2.2.2.2⟩
theorem ring_Right_t {r:RingRing} (h:ringP r):ring_Right r=some true:=by
 rw[ring_Right_eq r h.2.1,decide_eq_true ⟨h.1,h.2.2.1,h.2.2.2.1,h.2.2.2.2.1,h.2.2.2.2.2⟩]
def rIx (r:RingRing) (i:Nat):Nat:=(r.First.toNat+i)%r.Buf.length
def rAt (r:RingRing) (i:Nat):Int:=(r.Buf[rIx r i]?).getD 0
def cont (r:RingRing):List Int:=(List.range r.Many.toNat).map (rAt r)
theorem rIx_lt {r:RingRing} (h:ringP r) (i:Nat):rIx r i<r.Buf.length:=Nat.mod_lt _ h.1
theorem ring_at_eq (r:RingRing) (h:ringP r) (i:Nat) (hi:i≤1000):ring_at r (i:Int)=some ((rIx r i:Nat):Int):=by
 have h0:=h.1
 have h4:=h.2.1
 have hF:=h.2.2
 unfold ring_at
 rw[ck_t (decide_eq_true (by omega)),wr_in _ (by omega),Int.tmod_eq_emod_of_nonneg (by omega)]
 unfold rIx
 have e:r.First+(i:Int)=((r.First.toNat+i:Nat):Int):=by omega
 rw[e]; rfl
theorem mod_ne {a b n:Nat} (hab:a<b) (hb:b<a+n):a%n≠b%n:=by
 intro e
 have h1:=Nat.sub_mod_eq_zero_of_mod_eq e.symm
 rw[Nat.mod_eq_of_lt (by omega)] at h1
 omega
theorem rIx_inj {r:RingRing} (h:ringP r) {i j:Nat} (hij:i<j) (hj:j<r.Buf.length):rIx r i≠rIx r j:=mod_ne (by omega) (by omega)
def pushV (r:RingRing) (v:Int):RingRing:=⟨r.Buf.set (rIx r r.Many.toNat) v,r.First,r.Many+1⟩
theorem ring_Push_eq (r:RingRing) (v:Int) (h:ringP r):ring_Push r v=some (if r.Many=(r.Buf.length:Int) then (r,3) else (pushV r v,0)):=by
 have h4:=h.2.1
 have hM:=h.2.2.2.2
 unfold ring_Push
 rw[bnd_eq (ring_Right_t h),Bool.not_true,fk_f]
 by_cases c:r.Many=(r.Buf.length:Int)
 ·rw[decide_eq_true c,fk_t,if_pos c]
 rw[decide_eq_false c,fk_f,if_neg c,ck_t (by simp; omega),List.nil_append]
 have e:ring_at r r.Many=some ((rIx r r.Many.toNat:Nat):Int):=by
  have:=ring_at_eq r h r.Many.toNat (by omega)
  rwa [show ((r.Many.toNat:Nat):Int)=r.Many by omega] at this
 have hlt:=rIx_lt h r.Many.toNat
 show bnd (ring_at r r.Many) _=_
 rw[bnd_eq e,ck_t (by simp; omega),Int.toNat_natCast,ox_lt hlt,wr_in _ (by omega)]
 rfl
theorem pushV_ok {r:RingRing} {v:Int} (h:ringP r) (c:r.Many≠(r.Buf.length:Int)):ringP (pushV r v)∧(pushV r v).Buf.length=r.Buf.length∧cont (pushV r v)=cont r++[v]:=by
 have h4:=h.2.1
 have hM:=h.2.2.2.2
 have hl:(pushV r v).Buf.length=r.Buf.length:=by unfold pushV; simp
 have hix:∀i,rIx (pushV r v) i=rIx r i:=fun i=>by unfold rIx; rw[hl]; rfl
 refine⟨⟨by rw[hl]; exact h.1,by rw[hl]; exact h4,h.2.2.1,by rw[hl]; exact h.2.2.2.1,by show 0≤r.Many+1; omega,by rw[hl]; show r.Many+1≤_; omega⟩,hl,?_⟩
 have e:(pushV r v).Many.toNat=r.Many.toNat+1:=by show (r.Many+1).toNat=_; omega
 unfold cont
 rw[e,List.range_succ,List.map_append,List.map_singleton]
 have hlt:=rIx_lt h r.Many.toNat
 congr 1
 ·refine List.map_congr_left fun i hi=>?_
  have hi:i<r.Many.toNat:=by simpa using hi
  unfold rAt
  rw[hix]
  show ((r.Buf.set (rIx r r.Many.toNat) v)[rIx r i]?).getD 0=_
  rw[List.getElem?_set_ne (fun c=>rIx_inj h hi (by omega) c.symm)]
 ·unfold rAt
  rw[hix]
  show [((r.Buf.set (rIx r r.Many.toNat) v)[rIx r r.Many.toNat]?).getD 0]=_
  rw[List.getElem?_set_self hlt]; rfl
def popV (r:RingRing):RingRing:=⟨r.Buf,((rIx r 1:Nat):Int),r.Many-1⟩
theorem ring_Pop_eq (r:RingRing) (h:ringP r):ring_Pop r=some (if r.Many=0 then (0,r,4) else (rAt r 0,popV r,0)):=by
 have h4:=h.2.1
 have hM:=h.2.2.2.2
 unfold ring_Pop
 rw[bnd_eq (ring_Right_t h),Bool.not_true,fk_f]
 by_cases c:r.Many=0
 ·rw[decide_eq_true c,fk_t,if_pos c]
 have eo:ring_own r=some r:=by
  unfold ring_own
  rw[ck_t (by simp; omega),List.nil_append]
 rw[decide_eq_false c,fk_f,if_neg c,bnd_eq eo]
 have hF:=h.2.2
 have hlt:r.First.toNat<r.Buf.length:=by omega
 have e1:ring_at r (1:Int)=some ((rIx r 1:Nat):Int):=ring_at_eq r h 1 (by omega)
 rw[ix_int hF.1 hlt,bnd_eq e1,wr_in _ (by omega)]
 have e0:rIx r 0=r.First.toNat:=by unfold rIx; rw[Nat.add_zero,Nat.mod_eq_of_lt hlt]
 have ea:rAt r 0=r.Buf[r.First.toNat]:=by unfold rAt; rw[e0,List.getElem?_eq_getElem hlt]; rfl
 rw[ea]; rfl
theorem popV_ok {r:RingRing} (h:ringP r) (c:r.Many≠0):ringP (popV r)∧(popV r).Buf.length=r.Buf.length∧cont r=rAt r 0::cont (popV r)∧(popV r).Many.toNat+1=r.Many.toNat:=by
 have h4:=h.2.1
 have hM:=h.2.2.2.2
 have hF:=h.2.2
 have hlt:=rIx_lt h 1
 have e:r.Many.toNat=(popV r).Many.toNat+1:=by show _=(r.Many-1).toNat+1; omega
 refine⟨⟨h.1,h4,by show (0:Int)≤((rIx r 1:Nat):Int); omega,by show ((rIx r 1:Nat):Int)<_; show _<(r.Buf.length:Int); omega,by show 0≤r.Many-1; omega,by show r.Many-1≤(r.Buf.length:Int); omega⟩,rfl,?_,e.symm⟩
 unfold cont
 rw[e,List.range_succ_eq_map,List.map_cons,List.map_map]
 congr 1
 refine List.map_congr_left fun i _=>?_
 show rAt r (i+1)=rAt (popV r) i
 unfold rAt
 have:rIx (popV r) i=rIx r (i+1):=by
  unfold rIx
  show (((rIx r 1:Nat):Int).toNat+i)%r.Buf.length=_
  rw[Int.toNat_natCast]
  unfold rIx
  rw[Nat.mod_add_mod,show r.First.toNat+1+i=r.First.toNat+(i+1) by omega]
 rw[this]; rfl
theorem ring_Put_ex (r:RingRing) (v:Int) (h:ringP r):∃r',ring_Put r v=some r'∧ringP r'∧r'.Buf.length=r.Buf.length∧(r.Many≠(r.Buf.length:Int)→cont r'=cont r++[v]∧r'.Many=r.Many+1):=by
 unfold ring_Put
 rw[bnd_eq (ring_Push_eq r v h)]
 by_cases c:r.Many=(r.Buf.length:Int)
 ·have hM:=h.2.2.2.2
  have c0:r.Many≠0:=by have:=h.1; omega
  obtain⟨p1,p2,p3,p4⟩:=popV_ok h c0
  rw[if_pos c,decide_eq_true rfl,Bool.not_true,fk_f,bnd_eq (ring_Pop_eq r h),if_neg c0,bnd_eq (ring_Push_eq (popV r) v p1)]
  have c1:(popV r).Many≠((popV r).Buf.length:Int):=by rw[p2]; show r.Many-1≠_; omega
  obtain⟨q1,q2,q3⟩:=pushV_ok (v:=v) p1 c1
  rw[if_neg c1]
  exact⟨_,rfl,q1,by rw[q2,p2],fun h=>absurd c h⟩
 ·obtain⟨q1,q2,q3⟩:=pushV_ok (v:=v) h c
  rw[if_neg c]
  exact⟨_,rfl,q1,q2,fun _=>⟨q3,rfl⟩⟩
theorem ring_New_eq (n:Int) (h1:1≤n) (h2:n≤4):ring_New n=some (⟨List.replicate n.toNat 0,0,0⟩,0):=by
 unfold ring_New
 refine jn_to false (fun k=>by rw[decide_eq_false (by omega),fk_f,decide_eq_false (by omega)]) ?_
 rw[fk_f,ck_t (by simp; omega)]
theorem ringP_new {n:Int} (h1:1≤n) (h2:n≤4):ringP ⟨List.replicate n.toNat 0,0,0⟩∧cont ⟨List.replicate n.toNat 0,0,0⟩=[]:=by
 refine⟨⟨?_,?_,Int.le_refl _,?_,Int.le_refl _,?_⟩,rfl⟩ <;> simp <;> omega
theorem cont_len {r:RingRing} (h:ringP r):(cont r).length=r.Many.toNat∧(cont r).length≤4:=by
 have h4:=h.2.1
 have hM:=h.2.2.2.2
 unfold cont
 rw[List.length_map,List.length_range]
 exact⟨rfl,by omega⟩
end Go.Proofs.YtldlcdnhdedoeaaGreat
namespace Go.Proofs.YtldlcdnhdedoeaaGreat
open Go Go.VC
noncomputable def port_may_1 (a0:Int):Option Bool:=
 fk (decide (a0≥(0:Int))) (some (decide (a0<(4:Int)))) (some false)
theorem port_may_1_w (a0:Int) (r:Bool) (h:port_may_1 a0=some r):Go.VC.Spec Tryz.prog 123 [.d (.int .i64 a0)] (fun y=>y=E_Bool r):=by
 refine Spec.of_xc (fn:=Tryz.f123) tab ⟨[(0,[0]),(1,[2])],[],[],[]⟩ 9 [.tmp 2] rfl rfl rfl rfl rfl rfl ?_<;>conv=>whnf
 refine fkS h (fun h=>?_) (fun h=>?_)<;>conv=>whnf
 ·exact rt (E:=E_Bool) h rfl
 exact rt (E:=E_Bool) h rfl
end Go.Proofs.YtldlcdnhdedoeaaGreat
namespace Go.Proofs.YtldlcdnhdedoeaaGreat
open Go Go.VC
noncomputable def port_may (a0:Port):Option Bool:=
 bnd (port_may_1 a0.From) fun x1=>fk x1 (bnd (port_may_1 a0.To) fun x2=>fk x2 (fk (!decide (a0.From=a0.To)) (fk (decide (a0.Cap≥(1:Int))) (some (decide (a0.Cap≤(4:Int)))) (some false)) (some false)) (some false)) (some false)
theorem port_may_w (a0:Port) (r:Bool) (h:port_may a0=some r):Go.VC.Spec Tryz.prog 69 [.agg (Port.enc a0)] (fun y=>y=E_Bool r):=by
 refine Spec.of_xc (fn:=Tryz.f69) tab ⟨[(0,[1]),(1,[1,3]),(2,[2])],[],[],[]⟩ 31 [.tmp 2] rfl rfl rfl rfl rfl rfl ?_<;>conv=>whnf
 refine caS (E:=E_Bool) h (port_may_1_w a0.From) rfl (fun _=>rfl) (fun x1 h=>?_)<;>conv=>whnf
 refine fkS h (fun h=>?_) (fun h=>?_)<;>conv=>whnf
 ·refine caS (E:=E_Bool) h (port_may_1_w a0.To) rfl (fun _=>rfl) (fun x2 h=>?_)<;>conv=>whnf
  refine fkS h (fun h=>?_) (fun h=>?_)<;>conv=>whnf
  ·refine fkS h (fun h=>?_) (fun h=>?_)<;>conv=>whnf
   ·refine fkS h (fun h=>?_) (fun h=>?_)<;>conv=>whnf
    ·exact rt (E:=E_Bool) h rfl
    exact rt (E:=E_Bool) h rfl
   exact rt (E:=E_Bool) h rfl
  exact rt (E:=E_Bool) h rfl
 exact rt (E:=E_Bool) h rfl
end Go.Proofs.YtldlcdnhdedoeaaGreat
namespace Go.Proofs.YtldlcdnhdedoeaaGreat
open Go Go.VC
noncomputable def port_Right (a0:List PortLine):Option Bool:=
 lp (fun nx1 (v1:Int)=>fk (decide (v1<(a0.length:Int))) (ix a0 v1 fun x2=>jn (fun (w3:Bool)=>fk w3 (some false) (nx1 (wr (v1+(1:Int))))) (fun k3=>bnd (port_may x2.Port) fun x4=>fk (!x4) (k3 true) (bnd (ring_Right x2.Under) fun x5=>fk (!x5) (k3 true) (bnd (ring_Right x2.Got) fun x6=>fk (!x6) (k3 true) (fk (!decide ((x2.Under.Buf.length:Int)=x2.Port.Cap)) (k3 true) (k3 (!decide ((x2.Got.Buf.length:Int)=x2.Port.Cap)))))))) (some (decide ((a0.length:Int)≤(4:Int))))) FU (0:Int)
theorem port_Right_w (a0:List PortLine) (r:Bool) (h:port_Right a0=some r):Go.VC.Spec Tryz.prog 63 [.d (.sl (a0.map PortLine.enc))] (fun y=>y=E_Bool r):=by
 refine Spec.of_xc (fn:=Tryz.f63) tab ⟨[(0,[0]),(1,[0,5,6,7]),(2,[0,5,6,7,8]),(3,[0,4,5,6,7]),(4,[0,5,6,7,46]),(5,[2]),(6,[0,5,6,7]),(7,[2])],[],[100046],[]⟩ 51 [.tmp 2] rfl rfl rfl rfl rfl rfl ?_<;>conv=>whnf
 refine lenS a0 PortLine.enc rfl ?_<;>conv=>whnf
 refine lpS (fun v1=>⟨[(0,.l (.d (.sl (a0.map PortLine.enc)))),(5,.l (.d (.sl (a0.map PortLine.enc)))),(6,lI (a0.length:Int)),(7,lI v1)],51,[],[],[]⟩) h wR (fun _ nx1 hn1 v1 h=>?_)<;>conv=>whnf
 refine fkS h (fun h=>?_) (fun h=>?_)<;>conv=>whnf
 ·refine ixS (enc:=PortLine.enc) h rfl (fun _=>rfl) (fun x2 h=>?_)<;>conv=>whnf
  refine jnS (fun w3=>⟨[(0,.l (.d (.sl (a0.map PortLine.enc)))),(5,.l (.d (.sl (a0.map PortLine.enc)))),(6,lI (a0.length:Int)),(7,lI v1),(46,lB w3)],51,[],[],[]⟩) h (fun k3 hk3 h=>?_) (fun w3 h=>?_)<;>conv=>whnf
  ·refine caS (E:=E_Bool) h (port_may_w x2.Port) rfl (fun _=>rfl) (fun x4 h=>?_)<;>conv=>whnf
   refine fkS h (fun h=>?_) (fun h=>?_)<;>conv=>whnf
   ·exact jeS hk3 h wR
   refine caS (E:=E_Bool) h (ring_Right_w x2.Under) rfl (fun _=>rfl) (fun x5 h=>?_)<;>conv=>whnf
   refine fkS h (fun h=>?_) (fun h=>?_)<;>conv=>whnf
   ·exact jeS hk3 h wR
   refine caS (E:=E_Bool) h (ring_Right_w x2.Got) rfl (fun _=>rfl) (fun x6 h=>?_)<;>conv=>whnf
   refine fkS h (fun h=>?_) (fun h=>?_)<;>conv=>whnf
   ·exact jeS hk3 h wR
   refine lenS x2.Under.Buf (eI .i64) rfl ?_<;>conv=>whnf
   refine fkS h (fun h=>?_) (fun h=>?_)<;>conv=>whnf
   ·exact jeS hk3 h wR
   refine lenS x2.Got.Buf (eI .i64) rfl ?_<;>conv=>whnf
   exact jeS hk3 h wR
  refine fkS h (fun h=>?_) (fun h=>?_)<;>conv=>whnf
  ·exact rt (E:=E_Bool) h rfl
  exact leS hn1 h wR
 refine lenS a0 PortLine.enc rfl ?_<;>conv=>whnf
 exact rt (E:=E_Bool) h rfl
end Go.Proofs.YtldlcdnhdedoeaaGreat
namespace Go.Proofs.YtldlcdnhdedoeaaGreat
open Go Go.VC
noncomputable def port_Open (a0:List Port):Option ((List PortLine)×Int):=
 lp (fun nx1 (v1:(List PortLine)×Int)=>fk (decide (v1.2<(a0.length:Int))) (ix a0 v1.2 fun x2=>bnd (port_may x2) fun x3=>fk (!x3) (some ([],(1:Int))) (bnd (ring_New x2.Cap) fun x4=>bnd (ring_New x2.Cap) fun x5=>ck (decide ((v1.1.length+([⟨x2,x4.1,x5.1⟩]:List PortLine).length)*104≤140737488355328)) (nx1 (v1.1++([⟨x2,x4.1,x5.1⟩]:List PortLine),(wr (v1.2+(1:Int))))))) (fk (decide ((v1.1.length:Int)>(4:Int))) (some ([],(1:Int))) (some (v1.1,(0:Int))))) FU ([],(0:Int))
theorem port_Open_w (a0:List Port) (r:(List PortLine)×Int) (h:port_Open a0=some r):Go.VC.Spec Tryz.prog 23 [.d (.sl (a0.map Port.enc))] (fun y=>y=E_ListPortLine_Int r):=by
 refine Spec.of_xc (fn:=Tryz.f23) tab ⟨[(0,[0]),(1,[0,4]),(2,[4,11,12,13]),(3,[4,11,12,13,14]),(4,[4,6,11,12,13]),(5,[4,6,11,12,13,19]),(6,[2,3]),(7,[4,6,7,11,12,13]),(8,[4,6,7,9,11,12,13]),(9,[4,11,12,13]),(10,[4,11,12,13]),(11,[4,42]),(12,[2,3]),(13,[2,3])],[],[],[]⟩ 44 [.tmp 2,.tmp 3] rfl rfl rfl rfl rfl rfl ?_<;>conv=>whnf
 refine lenS a0 Port.enc rfl ?_<;>conv=>whnf
 refine lpS (fun v1=>⟨[(4,.l (.own 5)),(11,.l (.d (.sl (a0.map Port.enc)))),(12,lI (a0.length:Int)),(13,lI v1.2)],44,[],[],[(5,95,9,v1.1.map PortLine.enc)]⟩) h (Weak.trans (Weak.nilO _ 4 5 95 9 rfl) wR) (fun _ nx1 hn1 v1 h=>?_)<;>conv=>whnf
 refine fkS h (fun h=>?_) (fun h=>?_)<;>conv=>whnf
 ·refine ixS (enc:=Port.enc) h rfl (fun _=>rfl) (fun x2 h=>?_)<;>conv=>whnf
  refine caS (E:=E_Bool) h (port_may_w x2) rfl (fun _=>rfl) (fun x3 h=>?_)<;>conv=>whnf
  refine fkS h (fun h=>?_) (fun h=>?_)<;>conv=>whnf
  ·exact rt (E:=E_ListPortLine_Int) h rfl
  refine ccS (E:=E_RingRing_Int) h (ring_New_w x2.Cap) rfl rfl (fun x4 h=>?_)<;>conv=>whnf
  refine ccS (E:=E_RingRing_Int) h (ring_New_w x2.Cap) rfl rfl (fun x5 h=>?_)<;>conv=>whnf
  refine liS ([⟨x2,x4.1,x5.1⟩]:List PortLine) PortLine.enc rfl rfl ?_<;>conv=>whnf
  refine apS (enc:=PortLine.enc) (l1:=v1.1) (l2:=([⟨x2,x4.1,x5.1⟩]:List PortLine)) h rfl rfl (fun _=>rfl) (fun h=>?_)<;>conv=>whnf
  exact leS hn1 h wR
 refine lenS v1.1 PortLine.enc rfl ?_<;>conv=>whnf
 refine fkS h (fun h=>?_) (fun h=>?_)<;>conv=>whnf
 ·exact rt (E:=E_ListPortLine_Int) h rfl
 exact rt (E:=E_ListPortLine_Int) h rfl
end Go.Proofs.YtldlcdnhdedoeaaGreat
namespace Go.Proofs.YtldlcdnhdedoeaaGreat
open Go Go.VC
noncomputable def port_with (a0:List PortLine) (a1:Int) (a2:PortLine):Option (List PortLine):=
 ck (decide ((([]:List PortLine).length+a0.length)*104≤140737488355328)) (ck (decide (0≤a1) && decide (a1<((([]:List PortLine)++a0).length:Int))) (ox (([]:List PortLine)++a0) a1.toNat fun x1=>some ((([]:List PortLine)++a0).set a1.toNat a2)))
theorem port_with_w (a0:List PortLine) (a1:Int) (a2:PortLine) (r:List PortLine) (h:port_with a0 a1 a2=some r):Go.VC.Spec Tryz.prog 80 [.d (.sl (a0.map PortLine.enc)),.d (.int .i64 a1),.agg (PortLine.enc a2)] (fun y=>y=E_ListPortLine r):=by
 refine Spec.of_xc (fn:=Tryz.f80) tab ⟨[(0,[0,1,5]),(1,[1,5,7]),(2,[7]),(3,[6])],[],[],[]⟩ 16 [.tmp 6] rfl rfl rfl rfl rfl rfl ?_<;>conv=>whnf
 refine liS ([]:List PortLine) PortLine.enc rfl rfl ?_<;>conv=>whnf
 refine apS (enc:=PortLine.enc) (l1:=([]:List PortLine)) (l2:=a0) h rfl rfl (fun _=>rfl) (fun h=>?_)<;>conv=>whnf
 refine ioS (enc:=PortLine.enc) h rfl (fun h=>?_)<;>conv=>whnf
 refine seS (enc:=PortLine.enc) h rfl (fun x1=>a2) (fun _=>rfl) (fun x1 h=>?_)<;>conv=>whnf
 exact rt (E:=E_ListPortLine) h rfl
end Go.Proofs.YtldlcdnhdedoeaaGreat
namespace Go.Proofs.YtldlcdnhdedoeaaGreat
open Go Go.VC
noncomputable def port_Send (a0:List PortLine) (a1:Int) (a2:Int) (a3:Int):Option ((List PortLine)×Int):=
 bnd (port_Right a0) fun x1=>fk (!x1) (some (a0,(1:Int))) (jn (fun (w2:Bool)=>fk w2 (some (a0,(4:Int))) (ix a0 a2 fun x3=>fk (!decide (x3.Port.From=a1)) (some (a0,(7:Int))) (ix a0 a2 fun x4=>bnd (ring_Push x4.Under a3) fun x5=>fk (!decide (x5.2=(0:Int))) (some (a0,x5.2)) (bnd (port_with a0 a2 ⟨x4.Port,x5.1,x4.Got⟩) fun x6=>some (x6,(0:Int)))))) (fun k2=>fk (decide (a2<(0:Int))) (k2 true) (k2 (decide (a2≥(a0.length:Int))))))
theorem port_Send_w (a0:List PortLine) (a1:Int) (a2:Int) (a3:Int) (r:(List PortLine)×Int) (h:port_Send a0 a1 a2 a3=some r):Go.VC.Spec Tryz.prog 29 [.d (.sl (a0.map PortLine.enc)),.d (.int .i64 a1),.d (.int .i64 a2),.d (.int .i64 a3)] (fun y=>y=E_ListPortLine_Int r):=by
 refine Spec.of_xc (fn:=Tryz.f29) tab ⟨[(0,[0,1,2,3]),(1,[0,1,2,3,13]),(2,[8,9]),(3,[0,1,2,3,18]),(4,[8,9]),(5,[0,2,3,28]),(6,[8,9]),(7,[0,2,3,10]),(8,[0,2,10,11,12]),(9,[0,2,10,11,12,50]),(10,[8,9]),(11,[0,2,10]),(12,[8,9])],[],[100018],[]⟩ 59 [.tmp 8,.tmp 9] rfl rfl rfl rfl rfl rfl ?_<;>conv=>whnf
 refine caS (E:=E_Bool) h (port_Right_w a0) rfl (fun _=>rfl) (fun x1 h=>?_)<;>conv=>whnf
 refine fkS h (fun h=>?_) (fun h=>?_)<;>conv=>whnf
 ·exact rt (E:=E_ListPortLine_Int) h rfl
 refine jnS (fun w2=>⟨[(0,.l (.d (.sl (a0.map PortLine.enc)))),(1,lI a1),(2,lI a2),(3,lI a3),(18,lB w2)],59,[],[],[]⟩) h (fun k2 hk2 h=>?_) (fun w2 h=>?_)<;>conv=>whnf
 ·refine fkS h (fun h=>?_) (fun h=>?_)<;>conv=>whnf
  ·exact jeS hk2 h wR
  refine lenS a0 PortLine.enc rfl ?_<;>conv=>whnf
  exact jeS hk2 h wR
 refine fkS h (fun h=>?_) (fun h=>?_)<;>conv=>whnf
 ·exact rt (E:=E_ListPortLine_Int) h rfl
 refine ixS (enc:=PortLine.enc) h rfl (fun _=>rfl) (fun x3 h=>?_)<;>conv=>whnf
 refine fkS h (fun h=>?_) (fun h=>?_)<;>conv=>whnf
 ·exact rt (E:=E_ListPortLine_Int) h rfl
 refine ixS (enc:=PortLine.enc) h rfl (fun _=>rfl) (fun x4 h=>?_)<;>conv=>whnf
 refine ccS (E:=E_RingRing_Int) h (ring_Push_w x4.Under a3) rfl rfl (fun x5 h=>?_)<;>conv=>whnf
 refine fkS h (fun h=>?_) (fun h=>?_)<;>conv=>whnf
 ·exact rt (E:=E_ListPortLine_Int) h rfl
 refine ccS (E:=E_ListPortLine) h (port_with_w a0 a2 ⟨x4.Port,x5.1,x4.Got⟩) rfl rfl (fun x6 h=>?_)<;>conv=>whnf
 exact rt (E:=E_ListPortLine_Int) h rfl
end Go.Proofs.YtldlcdnhdedoeaaGreat
namespace Go.Proofs.YtldlcdnhdedoeaaGreat
open Go Go.VC
noncomputable def port_Read (a0:List PortLine) (a1:Int) (a2:Int):Option (Int×(List PortLine)×Int):=
 bnd (port_Right a0) fun x1=>fk (!x1) (some ((0:Int),a0,(1:Int))) (jn (fun (w2:Bool)=>fk w2 (some ((0:Int),a0,(4:Int))) (ix a0 a2 fun x3=>fk (!decide (x3.Port.To=a1)) (some ((0:Int),a0,(7:Int))) (ix a0 a2 fun x4=>bnd (ring_Pop x4.Got) fun x5=>fk (!decide (x5.2.2=(0:Int))) (some ((0:Int),a0,x5.2.2)) (bnd (port_with a0 a2 ⟨x4.Port,x4.Under,x5.2.1⟩) fun x6=>some (x5.1,x6,(0:Int)))))) (fun k2=>fk (decide (a2<(0:Int))) (k2 true) (k2 (decide (a2≥(a0.length:Int))))))
theorem port_Read_w (a0:List PortLine) (a1:Int) (a2:Int) (r:Int×(List PortLine)×Int) (h:port_Read a0 a1 a2=some r):Go.VC.Spec Tryz.prog 30 [.d (.sl (a0.map PortLine.enc)),.d (.int .i64 a1),.d (.int .i64 a2)] (fun y=>y=E_Int_ListPortLine_Int r):=by
 refine Spec.of_xc (fn:=Tryz.f30) tab ⟨[(0,[0,1,2]),(1,[0,1,2,13]),(2,[6,7,8]),(3,[0,1,2,18]),(4,[6,7,8]),(5,[0,2,28]),(6,[6,7,8]),(7,[0,2,9]),(8,[0,2,9,10,11,12]),(9,[0,2,9,10,11,12,50]),(10,[6,7,8]),(11,[0,2,9,10]),(12,[6,7,8])],[],[100018],[]⟩ 60 [.tmp 6,.tmp 7,.tmp 8] rfl rfl rfl rfl rfl rfl ?_<;>conv=>whnf
 refine caS (E:=E_Bool) h (port_Right_w a0) rfl (fun _=>rfl) (fun x1 h=>?_)<;>conv=>whnf
 refine fkS h (fun h=>?_) (fun h=>?_)<;>conv=>whnf
 ·exact rt (E:=E_Int_ListPortLine_Int) h rfl
 refine jnS (fun w2=>⟨[(0,.l (.d (.sl (a0.map PortLine.enc)))),(1,lI a1),(2,lI a2),(18,lB w2)],60,[],[],[]⟩) h (fun k2 hk2 h=>?_) (fun w2 h=>?_)<;>conv=>whnf
 ·refine fkS h (fun h=>?_) (fun h=>?_)<;>conv=>whnf
  ·exact jeS hk2 h wR
  refine lenS a0 PortLine.enc rfl ?_<;>conv=>whnf
  exact jeS hk2 h wR
 refine fkS h (fun h=>?_) (fun h=>?_)<;>conv=>whnf
 ·exact rt (E:=E_Int_ListPortLine_Int) h rfl
 refine ixS (enc:=PortLine.enc) h rfl (fun _=>rfl) (fun x3 h=>?_)<;>conv=>whnf
 refine fkS h (fun h=>?_) (fun h=>?_)<;>conv=>whnf
 ·exact rt (E:=E_Int_ListPortLine_Int) h rfl
 refine ixS (enc:=PortLine.enc) h rfl (fun _=>rfl) (fun x4 h=>?_)<;>conv=>whnf
 refine ccS (E:=E_Int_RingRing_Int) h (ring_Pop_w x4.Got) rfl rfl (fun x5 h=>?_)<;>conv=>whnf
 refine fkS h (fun h=>?_) (fun h=>?_)<;>conv=>whnf
 ·exact rt (E:=E_Int_ListPortLine_Int) h rfl
 refine ccS (E:=E_ListPortLine) h (port_with_w a0 a2 ⟨x4.Port,x4.Under,x5.2.1⟩) rfl rfl (fun x6 h=>?_)<;>conv=>whnf
 exact rt (E:=E_Int_ListPortLine_Int) h rfl
end Go.Proofs.YtldlcdnhdedoeaaGreat
namespace Go.Proofs.YtldlcdnhdedoeaaGreat
open Go Go.VC
noncomputable def port_Deliver (a0:List PortLine):Option (List PortLine):=
 bnd (port_Right a0) fun x1=>fk (!x1) (some a0) (lp (fun nx2 (v2:(List PortLine)×Int)=>fk (decide (v2.2<(a0.length:Int))) (ix a0 v2.2 fun x3=>lp (fun nx4 (v4:(List Int)×Int×Int×(List Int)×Int×Int×Int)=>fk (decide (v4.2.2.2.2.2.2<x3.Under.Many)) (bnd (ring_Pop ⟨v4.1,v4.2.1,v4.2.2.1⟩) fun x5=>bnd (ring_Put ⟨v4.2.2.2.1,v4.2.2.2.2.1,v4.2.2.2.2.2.1⟩ x5.1) fun x6=>nx4 (x5.2.1.Buf,x5.2.1.First,x5.2.1.Many,x6.Buf,x6.First,x6.Many,(wr (v4.2.2.2.2.2.2+(1:Int))))) (bnd (port_with v2.1 v2.2 (⟨x3.Port,⟨v4.1,v4.2.1,v4.2.2.1⟩,⟨v4.2.2.2.1,v4.2.2.2.2.1,v4.2.2.2.2.2.1⟩⟩)) fun x7=>nx2 (x7,(wr (v2.2+(1:Int)))))) FU (x3.Under.Buf,x3.Under.First,x3.Under.Many,x3.Got.Buf,x3.Got.First,x3.Got.Many,(0:Int))) (some v2.1)) FU (a0,(0:Int)))
theorem port_Deliver_w (a0:List PortLine) (r:List PortLine) (h:port_Deliver a0=some r):Go.VC.Spec Tryz.prog 37 [.d (.sl (a0.map PortLine.enc))] (fun y=>y=E_ListPortLine r):=by
 refine Spec.of_xc (fn:=Tryz.f37) tab ⟨[(0,[0]),(1,[0,11]),(2,[2]),(3,[0,3]),(4,[3,14,15,16]),(5,[3,14,15,16,17]),(6,[3,4,5,14,15,16]),(7,[3,4,5,14,15,16,23,24]),(8,[3,4,5,14,15,16,23,24,25]),(9,[3,4,5,6,7,14,15,16,23,24]),(10,[3,4,5,14,15,16,23,24]),(11,[3,4,5,14,15,16,23,24]),(12,[3,14,15,16]),(13,[3,14,15,16]),(14,[2])],[],[],[]⟩ 47 [.tmp 2] rfl rfl rfl rfl rfl rfl ?_<;>conv=>whnf
 refine caS (E:=E_Bool) h (port_Right_w a0) rfl (fun _=>rfl) (fun x1 h=>?_)<;>conv=>whnf
 refine fkS h (fun h=>?_) (fun h=>?_)<;>conv=>whnf
 ·exact rt (E:=E_ListPortLine) h rfl
 refine lenS a0 PortLine.enc rfl ?_<;>conv=>whnf
 refine lpS (fun v2=>⟨[(3,.l (.d (.sl (v2.1.map PortLine.enc)))),(14,.l (.d (.sl (a0.map PortLine.enc)))),(15,lI (a0.length:Int)),(16,lI v2.2)],47,[],[],[]⟩) h wR (fun _ nx2 hn2 v2 h=>?_)<;>conv=>whnf
 refine fkS h (fun h=>?_) (fun h=>?_)<;>conv=>whnf
 ·refine ixS (enc:=PortLine.enc) h rfl (fun _=>rfl) (fun x3 h=>?_)<;>conv=>whnf
  refine lpS (fun v4=>⟨[(3,.l (.d (.sl (v2.1.map PortLine.enc)))),(4,lI v2.2),(5,.l (.ptr 6 0)),(14,.l (.d (.sl (a0.map PortLine.enc)))),(15,lI (a0.length:Int)),(16,lI v2.2),(23,lI x3.Under.Many),(24,lI v4.2.2.2.2.2.2)],47,[],[(6,[dI x3.Port.From,dI x3.Port.To,dI x3.Port.Cap,.d (.sl (v4.1.map (eI .i64))),dI v4.2.1,dI v4.2.2.1,.d (.sl (v4.2.2.2.1.map (eI .i64))),dI v4.2.2.2.2.1,dI v4.2.2.2.2.2.1])],[]⟩) h wR (fun _ nx4 hn4 v4 h=>?_)<;>conv=>whnf
  refine fkS h (fun h=>?_) (fun h=>?_)<;>conv=>whnf
  ·refine ccS (E:=E_Int_RingRing_Int) h (ring_Pop_w ⟨v4.1,v4.2.1,v4.2.2.1⟩) rfl rfl (fun x5 h=>?_)<;>conv=>whnf
   refine⟨6,?_⟩
   conv=>whnf
   refine dcS (E:=E_RingRing) h (ring_Put_w ⟨v4.2.2.2.1,v4.2.2.2.2.1,v4.2.2.2.2.2.1⟩ x5.1) rfl (fun x6 h=>?_)<;>conv=>whnf
   refine drS (by kernel_rfl) ?_<;>conv=>whnf
   exact leS hn4 h wR
  refine ccS (E:=E_ListPortLine) h (port_with_w v2.1 v2.2 (⟨x3.Port,⟨v4.1,v4.2.1,v4.2.2.1⟩,⟨v4.2.2.2.1,v4.2.2.2.2.1,v4.2.2.2.2.2.1⟩⟩)) rfl rfl (fun x7 h=>?_)<;>conv=>whnf
  exact leS hn2 h wR
 exact rt (E:=E_ListPortLine) h rfl
end Go.Proofs.YtldlcdnhdedoeaaGreat
namespace Go.Proofs.YtldlcdnhdedoeaaGreat
open Go Go.VC
def portP (p:Port):Prop:=0≤p.From∧p.From<4∧0≤p.To∧p.To<4∧p.From≠p.To∧1≤p.Cap∧p.Cap≤4
instance (p:Port):Decidable (portP p):=by unfold portP; infer_instance
def lineP (x:PortLine):Prop:=portP x.Port∧ringP x.Under∧ringP x.Got∧(x.Under.Buf.length:Int)=x.Port.Cap∧(x.Got.Buf.length:Int)=x.Port.Cap
def linesP (l:List PortLine):Prop:=(∀x∈l,lineP x)∧l.length≤4
theorem port_may_1_eq (x:Int):port_may_1 x=some (decide (0≤x∧x<4)):=by
 unfold port_may_1
 by_cases h:0≤x
 ·rw[decide_eq_true (by omega),fk_t]; exact dec_iff ⟨fun a=>⟨h,a⟩,fun a=>a.2⟩
 ·rw[decide_eq_false (by omega),fk_f]; exact dec_f fun a=>h a.1
theorem port_may_eq (p:Port):port_may p=some (decide (portP p)):=by
 unfold port_may portP
 rw[bnd_eq (port_may_1_eq p.From)]
 by_cases h1:0≤p.From∧p.From<4
 rotate_left
 ·rw[decide_eq_false h1,fk_f]; exact dec_f fun a=>h1 ⟨a.1,a.2.1⟩
 rw[decide_eq_true h1,fk_t,bnd_eq (port_may_1_eq p.To)]
 by_cases h2:0≤p.To∧p.To<4
 rotate_left
 ·rw[decide_eq_false h2,fk_f]; exact dec_f fun a=>h2 ⟨a.2.2.1,a.2.2.2.1⟩
 rw[decide_eq_true h2,fk_t]
 by_cases h3:p.From=p.To
 ·rw[decide_eq_true h3,Bool.not_true,fk_f]; exact dec_f fun a=>a.2.2.2.2.1 h3
 rw[decide_eq_false h3,Bool.not_false,fk_t]
 by_cases h4:p.Cap≥1
 ·rw[decide_eq_true h4,fk_t]; exact dec_iff ⟨fun a=>⟨h1.1,h1.2,h2.1,h2.2,h3,h4,a⟩,fun a=>a.2.2.2.2.2.2⟩
 ·rw[decide_eq_false h4,fk_f]; exact dec_f fun a=>h4 a.2.2.2.2.2.1
theorem port_Right_t {l:List PortLine} (h:linesP l):port_Right l=some true:=by
 unfold port_Right
 refine lp_up l.length (by unfold FU; have:=h.2; omega) (fun _=>True) trivial ?_
 intro nx k hk _ hnx
 rw[lt_nat]
 by_cases c:k<l.length
 rotate_left
 ·rw[decide_eq_false c,fk_f,decide_eq_true (by have:=h.2; omega)]
 obtain⟨h1,h2,h3,h4,h5⟩:=h.1 _ (List.getElem_mem c)
 rw[decide_eq_true c,fk_t,ix_lt c,wr_succ k _ c (by have:=h.2; omega)]
 refine jn_to false (fun k3=>?_) (by rw[fk_f]; exact hnx c trivial)
 rw[bnd_eq (port_may_eq _),decide_eq_true h1,Bool.not_true,fk_f,bnd_eq (ring_Right_t h2),Bool.not_true,fk_f,bnd_eq (ring_Right_t h3),Bool.not_true,fk_f,decide_eq_true h4,Bool.not_true,fk_f,decide_eq_true h5]
 rfl
def newL (p:Port):PortLine:=⟨p,⟨List.replicate p.Cap.toNat 0,0,0⟩,⟨List.replicate p.Cap.toNat 0,0,0⟩⟩
theorem newL_ok {p:Port} (h:portP p):lineP (newL p)∧cont (newL p).Under=[]∧cont (newL p).Got=[]:=by
 have h6:=h.2.2.2.2.2.1
 have h7:=h.2.2.2.2.2.2
 have hr:=ringP_new h6 h7
 refine⟨⟨h,hr.1,hr.1,?_,?_⟩,hr.2,hr.2⟩ <;> (unfold newL; simp; omega)
theorem port_Open_eq (ps:List Port) (hl:ps.length≤1000):port_Open ps=some (if (∀p∈ps,portP p)∧ps.length≤4 then (ps.map newL,0) else ([],1)):=by
 unfold port_Open
 refine lp_upS ps.length (by unfold FU; omega) (fun k s=>s=(ps.take k).map newL∧∀p∈ps.take k,portP p) [] ⟨rfl,fun p h=>(List.not_mem_nil h).elim⟩ ?_
 rintro nx k s hk ⟨rfl,hp⟩ hnx
 dsimp only
 have hlen:((ps.take k).map newL).length=k:=by simp; omega
 rw[lt_nat,hlen]
 by_cases c:k<ps.length
 rotate_left
 ·have e:k=ps.length:=by omega
  subst e
  rw[List.take_length] at hp ⊢
  rw[decide_eq_false c,fk_f]
  by_cases h4:ps.length≤4
  ·rw[decide_eq_false (by omega),fk_f,if_pos ⟨hp,h4⟩]
  ·rw[decide_eq_true (by omega),fk_t,if_neg (fun h=>h4 h.2)]
 rw[decide_eq_true c,fk_t,ix_lt c,bnd_eq (port_may_eq _)]
 by_cases hm:portP ps[k]
 rotate_left
 ·rw[decide_eq_false hm,Bool.not_false,fk_t,if_neg (fun h=>hm (h.1 _ (List.getElem_mem c)))]
 have hcap:=hm.2.2.2.2.2
 rw[decide_eq_true hm,Bool.not_true,fk_f,bnd_eq (ring_New_eq _ hcap.1 hcap.2),bnd_eq (ring_New_eq _ hcap.1 hcap.2),ck_t (by simp; omega),wr_succ k _ c (by omega)]
 refine hnx _ c ⟨?_,fun p hp'=>?_⟩
 ·rw[←List.take_append_getElem c,List.map_append]; rfl
 ·rw[←List.take_append_getElem c] at hp'
  rcases List.mem_append.1 hp' with h | h
  ·exact hp p h
  ·rw[List.mem_singleton.1 h]; exact hm
theorem linesP_new {ps:List Port} (h:∀p∈ps,portP p) (h4:ps.length≤4):linesP (ps.map newL):=⟨fun x hx=>by
 obtain⟨p,hp,rfl⟩:=List.mem_map.1 hx
 exact (newL_ok (h p hp)).1,by rw[List.length_map]; exact h4⟩
theorem linesP_set {l:List PortLine} (h:linesP l) {i:Nat} {x:PortLine} (hx:lineP x):linesP (l.set i x):=⟨fun y hy=>by
 rcases List.mem_or_eq_of_mem_set hy with h' | rfl
 ·exact h.1 y h'
 ·exact hx,by rw[List.length_set]; exact h.2⟩
theorem port_with_eq (l:List PortLine) (i:Nat) (x:PortLine) (h:linesP l) (hi:i<l.length):port_with l (i:Int) x=some (l.set i x):=by
 have h4:=h.2
 unfold port_with
 rw[ck_t (by simp; omega),List.nil_append,ck_t (by simp; omega),Int.toNat_natCast,ox_lt hi]
def sendV (l:List PortLine) (f i v:Int):List PortLine×Int:=
 if 0≤i∧i<(l.length:Int) then (match l[i.toNat]? with | some x=>if x.Port.From=f then (if x.Under.Many=(x.Under.Buf.length:Int) then (l,3) else (l.set i.toNat ⟨x.Port,pushV x.Under v,x.Got⟩,0)) else (l,7) | none=>(l,4)) else (l,4)
theorem port_Send_eq (l:List PortLine) (f i v:Int) (h:linesP l):port_Send l f i v=some (sendV l f i v):=by
 unfold port_Send sendV
 rw[bnd_eq (port_Right_t h),Bool.not_true,fk_f]
 by_cases c:0≤i∧i<(l.length:Int)
 rotate_left
 ·refine jn_to true (fun k=>?_) (by rw[fk_t,if_neg c])
  by_cases c0:i<0
  ·rw[decide_eq_true c0,fk_t]
  ·rw[decide_eq_false c0,fk_f,decide_eq_true (by omega)]
 refine jn_to false (fun k=>by rw[decide_eq_false (by omega),fk_f,decide_eq_false (by omega)]) ?_
 have hi:i.toNat<l.length:=by omega
 obtain⟨h1,h2,h3,h4,h5⟩:=h.1 _ (List.getElem_mem hi)
 rw[fk_f,if_pos c,ix_int c.1 hi,ix_int c.1 hi,List.getElem?_eq_getElem hi]
 dsimp only
 by_cases cf:l[i.toNat].Port.From=f
 rotate_left
 ·rw[decide_eq_false cf,Bool.not_false,fk_t,if_neg cf]
 rw[decide_eq_true cf,Bool.not_true,fk_f,if_pos cf,bnd_eq (ring_Push_eq _ v h2)]
 by_cases cm:l[i.toNat].Under.Many=(l[i.toNat].Under.Buf.length:Int)
 ·rw[if_pos cm,if_pos cm]; rfl
 ·rw[if_neg cm,if_neg cm]
  have:=port_with_eq l i.toNat ⟨l[i.toNat].Port,pushV l[i.toNat].Under v,l[i.toNat].Got⟩ h hi
  rw[show ((i.toNat:Nat):Int)=i by omega] at this
  dsimp only
  rw[decide_eq_true rfl,Bool.not_true,fk_f,bnd_eq this]
theorem sendV_ok {l:List PortLine} {f i v:Int} (h:linesP l):linesP (sendV l f i v).1∧(sendV l f i v).1.length=l.length:=by
 unfold sendV
 split
 ·split
  ·rename_i x hx
   obtain⟨h1,h2,h3,h4,h5⟩:=h.1 x (List.mem_of_getElem? hx)
   split
   ·split
    ·exact⟨h,rfl⟩
    ·rename_i c
     obtain⟨p1,p2,p3⟩:=pushV_ok (v:=v) h2 c
     exact⟨linesP_set h ⟨h1,p1,h3,by rw[p2]; exact h4,h5⟩,List.length_set⟩
   ·exact⟨h,rfl⟩
  ·exact⟨h,rfl⟩
 ·exact⟨h,rfl⟩
def readV (l:List PortLine) (f i:Int):Int×List PortLine×Int:=
 if 0≤i∧i<(l.length:Int) then (match l[i.toNat]? with | some x=>if x.Port.To=f then (if x.Got.Many=0 then (0,l,4) else (rAt x.Got 0,l.set i.toNat ⟨x.Port,x.Under,popV x.Got⟩,0)) else (0,l,7) | none=>(0,l,4)) else (0,l,4)
theorem port_Read_eq (l:List PortLine) (f i:Int) (h:linesP l):port_Read l f i=some (readV l f i):=by
 unfold port_Read readV
 rw[bnd_eq (port_Right_t h),Bool.not_true,fk_f]
 by_cases c:0≤i∧i<(l.length:Int)
 rotate_left
 ·refine jn_to true (fun k=>?_) (by rw[fk_t,if_neg c])
  by_cases c0:i<0
  ·rw[decide_eq_true c0,fk_t]
  ·rw[decide_eq_false c0,fk_f,decide_eq_true (by omega)]
 refine jn_to false (fun k=>by rw[decide_eq_false (by omega),fk_f,decide_eq_false (by omega)]) ?_
 have hi:i.toNat<l.length:=by omega
 obtain⟨h1,h2,h3,h4,h5⟩:=h.1 _ (List.getElem_mem hi)
 rw[fk_f,if_pos c,ix_int c.1 hi,ix_int c.1 hi,List.getElem?_eq_getElem hi]
 dsimp only
 by_cases cf:l[i.toNat].Port.To=f
 rotate_left
 ·rw[decide_eq_false cf,Bool.not_false,fk_t,if_neg cf]
 rw[decide_eq_true cf,Bool.not_true,fk_f,if_pos cf,bnd_eq (ring_Pop_eq _ h3)]
 by_cases cm:l[i.toNat].Got.Many=0
 ·rw[if_pos cm,if_pos cm]; rfl
 ·rw[if_neg cm,if_neg cm]
  have:=port_with_eq l i.toNat ⟨l[i.toNat].Port,l[i.toNat].Under,popV l[i.toNat].Got⟩ h hi
  rw[show ((i.toNat:Nat):Int)=i by omega] at this
  dsimp only
  rw[decide_eq_true rfl,Bool.not_true,fk_f,bnd_eq this]
theorem readV_ok {l:List PortLine} {f i:Int} (h:linesP l):linesP (readV l f i).2.1∧(readV l f i).2.1.length=l.length:=by
 unfold readV
 split
 ·split
  ·rename_i x hx
   obtain⟨h1,h2,h3,h4,h5⟩:=h.1 x (List.mem_of_getElem? hx)
   split
   ·split
    ·exact⟨h,rfl⟩
    ·rename_i c
     obtain⟨p1,p2,_⟩:=popV_ok h3 c
     exact⟨linesP_set h ⟨h1,h2,p1,h4,by rw[p2]; exact h5⟩,List.length_set⟩
   ·exact⟨h,rfl⟩
  ·exact⟨h,rfl⟩
 ·exact⟨h,rfl⟩
def gone (x y:PortLine):Prop:=y.Port=x.Port∧cont y.Under=[]∧(cont x.Got=[]→cont y.Got=cont x.Under)
theorem port_Deliver_ex (l:List PortLine) (h:linesP l):∃l',port_Deliver l=some l'∧linesP l'∧l'.length=l.length∧∀(i:Nat) (x y:PortLine),l[i]?=some x→l'[i]?=some y→gone x y:=by
 have key:∃l',port_Deliver l=some l'∧(linesP l'∧l'.length=l.length∧∀(i:Nat) (x y:PortLine),l[i]?=some x→l'[i]?=some y→gone x y):=by
  unfold port_Deliver
  rw[bnd_eq (port_Right_t h),Bool.not_true,fk_f]
  refine lp_upS_ex l.length (by unfold FU; have:=h.2; omega) (fun k s=>linesP s∧s.length=l.length∧(∀(i:Nat) (x y:PortLine),i<k→l[i]?=some x→s[i]?=some y→gone x y)) (fun l':List PortLine=>linesP l'∧l'.length=l.length∧∀(i:Nat) (x y:PortLine),l[i]?=some x→l'[i]?=some y→gone x y) l ⟨h,rfl,fun i x y hi=>by omega⟩ ?_
  rintro nx k s hk ⟨hs,hsl,hg⟩ hnx
  dsimp only
  rw[lt_nat]
  by_cases c:k<l.length
  rotate_left
  ·rw[decide_eq_false c,fk_f]
   refine⟨s,rfl,hs,hsl,fun i x y hx=>hg i x y ?_ hx⟩
   have:=(List.getElem?_eq_some_iff.1 hx).1; omega
  rw[decide_eq_true c,fk_t,ix_lt c,wr_succ k _ c (by have:=h.2; omega)]
  obtain⟨h1,h2,h3,h4,h5⟩:=h.1 _ (List.getElem_mem c)
  have hx:l[k]?=some l[k]:=List.getElem?_eq_getElem c
  generalize l[k]=x at *
  have hM:=h2.2.2.2.2
  have hUl:=cont_len h2
  have hGl:=cont_len h3
  refine lp_ex (fun v=>x.Under.Many.toNat-v.2.2.2.2.2.2.toNat) (fun v=>∃(u g:RingRing) (j:Nat),v=(u.Buf,u.First,u.Many,g.Buf,g.First,g.Many,(j:Int))∧j≤x.Under.Many.toNat∧ringP u∧ringP g∧u.Buf.length=x.Under.Buf.length∧g.Buf.length=x.Got.Buf.length∧u.Many.toNat+j=x.Under.Many.toNat∧cont u=(cont x.Under).drop j∧(cont x.Got=[]→cont g=(cont x.Under).take j∧g.Many=(j:Int))) _ ?_ FU _ ⟨x.Under,x.Got,0,rfl,Nat.zero_le _,h2,h3,rfl,rfl,rfl,rfl,fun e=>⟨e,by have:=hGl.1; rw[e] at this; have:=h3.2.2.2.2; simp at *; omega⟩⟩ (by unfold FU; simp only; omega)
  rintro nx2 v ⟨u,g,j,rfl,hj,hu,hgr,hul,hgl,hum,huc,hgc⟩ hnx2
  dsimp only
  by_cases cj:j<x.Under.Many.toNat
  ·have c0:u.Many≠0:=by have:=hu.2.2.2.2; omega
   obtain⟨p1,p2,p3,p4⟩:=popV_ok hu c0
   obtain⟨g',e1,e2,e3,e4⟩:=ring_Put_ex g (rAt u 0) hgr
   rw[decide_eq_true (by omega),fk_t]
   show ∃r,(bnd (ring_Pop u) _)=some r∧_
   rw[bnd_eq (ring_Pop_eq u hu),if_neg c0]
   show ∃r,(bnd (ring_Put g (rAt u 0)) _)=some r∧_
   rw[bnd_eq e1,wr_succ j _ cj (by omega)]
   have hcu:(cont x.Under).drop j=rAt u 0::cont (popV u):=by rw[←huc,p3]
   refine hnx2 _ ⟨popV u,g',j+1,rfl,cj,p1,e2,by rw[p2,hul],by rw[e3,hgl],by omega,?_,fun e=>?_⟩ (by simp only[Int.toNat_natCast]; omega)
   ·rw[←List.drop_drop,List.drop_one,hcu]; rfl
   ·obtain⟨a1,a2⟩:=hgc e
    have hne:g.Many≠(g.Buf.length:Int):=by rw[a2,hgl]; omega
    obtain⟨b1,b2⟩:=e4 hne
    refine⟨?_,by rw[b2,a2]; omega⟩
    rw[b1,a1]
    have hjl:j<(cont x.Under).length:=by omega
    rw[←List.take_append_getElem hjl]
    have:(cont x.Under)[j]=rAt u 0:=by
     have h':=List.drop_eq_getElem_cons hjl
     rw[hcu] at h'
     injection h' with h'' _
     exact h''.symm
    rw[this]
  ·have ej:j=x.Under.Many.toNat:=by omega
   rw[decide_eq_false (by omega),fk_f,bnd_eq (port_with_eq s k _ hs (by omega))]
   refine hnx _ c ⟨linesP_set hs ⟨h1,hu,hgr,by show (u.Buf.length:Int)=_; rw[hul]; exact h4,by show (g.Buf.length:Int)=_; rw[hgl]; exact h5⟩,by rw[List.length_set]; exact hsl,fun i a y hi ha hy=>?_⟩
   by_cases ei:i=k
   ·subst ei
    rw[hx] at ha
    cases ha
    rw[List.getElem?_set_self (by omega)] at hy
    cases hy
    refine⟨rfl,?_,fun e=>?_⟩
    ·show cont u=[]
     rw[huc,List.drop_eq_nil_of_le (by omega)]
    ·show cont g=_
     rw[(hgc e).1,List.take_of_length_le (by omega)]
   ·rw[List.getElem?_set_ne (by omega)] at hy
    exact hg i a y (by omega) ha hy
 obtain⟨l',e,a,b,c⟩:=key
 exact⟨l',e,a,b,c⟩
end Go.Proofs.YtldlcdnhdedoeaaGreat
namespace Go.Proofs.YtldlcdnhdedoeaaGreat
open Go Go.VC
noncomputable def table_may (a0:Window) (a1:Int):Option Bool:=
 fk (decide (a0.Part≥(0:Int))) (fk (decide (a0.Part<(4:Int))) (fk (decide (a0.From≥(0:Int))) (fk (decide (a0.From<a1)) (fk (decide (a0.Len≥(1:Int))) (some (decide (a0.Len≤(wr (a1-a0.From))))) (some false)) (some false)) (some false)) (some false)) (some false)
theorem table_may_w (a0:Window) (a1:Int) (r:Bool) (h:table_may a0 a1=some r):Go.VC.Spec Tryz.prog 122 [.agg (Window.enc a0),.d (.int .i64 a1)] (fun y=>y=E_Bool r):=by
 refine Spec.of_xc (fn:=Tryz.f122) tab ⟨[(0,[1,2]),(1,[4])],[],[],[]⟩ 38 [.tmp 4] rfl rfl rfl rfl rfl rfl ?_<;>conv=>whnf
 refine fkS h (fun h=>?_) (fun h=>?_)<;>conv=>whnf
 ·refine fkS h (fun h=>?_) (fun h=>?_)<;>conv=>whnf
  ·refine fkS h (fun h=>?_) (fun h=>?_)<;>conv=>whnf
   ·refine fkS h (fun h=>?_) (fun h=>?_)<;>conv=>whnf
    ·refine fkS h (fun h=>?_) (fun h=>?_)<;>conv=>whnf
     ·exact rt (E:=E_Bool) h rfl
     exact rt (E:=E_Bool) h rfl
    exact rt (E:=E_Bool) h rfl
   exact rt (E:=E_Bool) h rfl
  exact rt (E:=E_Bool) h rfl
 exact rt (E:=E_Bool) h rfl
end Go.Proofs.YtldlcdnhdedoeaaGreat
namespace Go.Proofs.YtldlcdnhdedoeaaGreat
open Go Go.VC
noncomputable def table_Right (a0:TableTable):Option Bool:=
 lp (fun nx1 (v1:Int×Int×Int)=>fk (decide (v1.2.2<(a0.Windows.length:Int))) (ix a0.Windows v1.2.2 fun x2=>jn (fun (w3:Bool)=>fk w3 (some false) (nx1 ((wr (x2.From+x2.Len)),x2.Part,(wr (v1.2.2+(1:Int)))))) (fun k3=>bnd (table_may x2 a0.Frame) fun x4=>fk (!x4) (k3 true) (fk (decide (x2.From<v1.1)) (k3 true) (fk (decide (x2.From=v1.1)) (k3 (decide (x2.Part=v1.2.1))) (k3 false))))) (fk (decide (a0.Frame≥(1:Int))) (some (decide (a0.Frame≤(240:Int)))) (some false))) FU ((0:Int),(-1:Int),(0:Int))
theorem table_Right_w (a0:TableTable) (r:Bool) (h:table_Right a0=some r):Go.VC.Spec Tryz.prog 62 [.agg (TableTable.enc a0)] (fun y=>y=E_Bool r):=by
 refine Spec.of_xc (fn:=Tryz.f62) tab ⟨[(0,[1]),(1,[1,3,4]),(2,[1,3,4,8,9,10]),(3,[1,3,4,8,9,10,11]),(4,[1,3,4,6,8,9,10]),(5,[1,6,8,9,10,36]),(6,[2]),(7,[1,3,4,8,9,10]),(8,[1,3,4,8,9,10]),(9,[2])],[],[100036],[]⟩ 53 [.tmp 2] rfl rfl rfl rfl rfl rfl ?_<;>conv=>whnf
 refine lenS a0.Windows Window.enc rfl ?_<;>conv=>whnf
 refine lpS (fun v1=>⟨[(1,.l (.ptr 2 0)),(3,lI v1.1),(4,lI v1.2.1),(8,.l (.d (.sl (a0.Windows.map Window.enc)))),(9,lI (a0.Windows.length:Int)),(10,lI v1.2.2)],53,[],[(2,[dI a0.Frame,.d (.sl (a0.Windows.map Window.enc))])],[]⟩) h wR (fun _ nx1 hn1 v1 h=>?_)<;>conv=>whnf
 refine fkS h (fun h=>?_) (fun h=>?_)<;>conv=>whnf
 ·refine ixS (enc:=Window.enc) h rfl (fun _=>rfl) (fun x2 h=>?_)<;>conv=>whnf
  refine jnS (fun w3=>⟨[(1,.l (.ptr 2 0)),(6,.l (.ptr 7 0)),(8,.l (.d (.sl (a0.Windows.map Window.enc)))),(9,lI (a0.Windows.length:Int)),(10,lI v1.2.2),(36,lB w3)],53,[],[(2,[dI a0.Frame,.d (.sl (a0.Windows.map Window.enc))]),(7,[dI x2.Part,dI x2.From,dI x2.Len])],[]⟩) h (fun k3 hk3 h=>?_) (fun w3 h=>?_)<;>conv=>whnf
  ·refine caS (E:=E_Bool) h (table_may_w x2 a0.Frame) rfl (fun _=>rfl) (fun x4 h=>?_)<;>conv=>whnf
   refine fkS h (fun h=>?_) (fun h=>?_)<;>conv=>whnf
   ·exact jeS hk3 h wR
   refine fkS h (fun h=>?_) (fun h=>?_)<;>conv=>whnf
   ·exact jeS hk3 h wR
   refine fkS h (fun h=>?_) (fun h=>?_)<;>conv=>whnf
   ·exact jeS hk3 h wR
   exact jeS hk3 h wR
  refine fkS h (fun h=>?_) (fun h=>?_)<;>conv=>whnf
  ·exact rt (E:=E_Bool) h rfl
  refine⟨8,?_⟩
  conv=>whnf
  refine drS (by kernel_rfl) ?_<;>conv=>whnf
  exact leS hn1 h wR
 refine fkS h (fun h=>?_) (fun h=>?_)<;>conv=>whnf
 ·exact rt (E:=E_Bool) h rfl
 exact rt (E:=E_Bool) h rfl
end Go.Proofs.YtldlcdnhdedoeaaGreat
namespace Go.Proofs.YtldlcdnhdedoeaaGreat
open Go Go.VC
noncomputable def table_At (a0:TableTable) (a1:Int):Option Int:=
 jn (fun (w1:Bool)=>fk w1 (some (-1:Int)) (ck (decide (a0.Frame≠0)) (lp (fun nx3 (v3:Int)=>fk (decide (v3<(a0.Windows.length:Int))) (ix a0.Windows v3 fun x4=>jn (fun (w5:Bool)=>fk w5 (some x4.Part) (nx3 (wr (v3+(1:Int))))) (fun k5=>fk (decide ((a1.tmod a0.Frame)≥x4.From)) (k5 (decide ((a1.tmod a0.Frame)<(wr (x4.From+x4.Len))))) (k5 false))) (some (-1:Int))) FU (0:Int)))) (fun k1=>bnd (table_Right a0) fun x2=>fk (!x2) (k1 true) (k1 (decide (a1<(0:Int)))))
theorem table_At_w (a0:TableTable) (a1:Int) (r:Int) (h:table_At a0 a1=some r):Go.VC.Spec Tryz.prog 89 [.agg (TableTable.enc a0),.d (.int .i64 a1)] (fun y=>y=E_Int r):=by
 refine Spec.of_xc (fn:=Tryz.f89) tab ⟨[(0,[1,2]),(1,[1,2,13]),(2,[4]),(3,[1,2]),(4,[1,19,20,21]),(5,[1,19,20,21,22]),(6,[1,6,19,20,21]),(7,[1,6,19,20,21,37]),(8,[4]),(9,[1,19,20,21]),(10,[4])],[],[100013,100037],[]⟩ 41 [.tmp 4] rfl rfl rfl rfl rfl rfl ?_<;>conv=>whnf
 refine jnS (fun w1=>⟨[(1,lI a1),(2,.l (.ptr 3 0)),(13,lB w1)],41,[],[(3,[dI a0.Frame,.d (.sl (a0.Windows.map Window.enc))])],[]⟩) h (fun k1 hk1 h=>?_) (fun w1 h=>?_)<;>conv=>whnf
 ·refine caS (E:=E_Bool) h (table_Right_w a0) rfl (fun _=>rfl) (fun x2 h=>?_)<;>conv=>whnf
  refine fkS h (fun h=>?_) (fun h=>?_)<;>conv=>whnf
  ·exact jeS hk1 h wR
  exact jeS hk1 h wR
 refine fkS h (fun h=>?_) (fun h=>?_)<;>conv=>whnf
 ·exact rt (E:=E_Int) h rfl
 refine dvS h (fun h=>?_)<;>conv=>whnf
 refine lenS a0.Windows Window.enc rfl ?_<;>conv=>whnf
 refine lpS (fun v3=>⟨[(1,lI (a1.tmod a0.Frame)),(19,.l (.d (.sl (a0.Windows.map Window.enc)))),(20,lI (a0.Windows.length:Int)),(21,lI v3)],41,[],[],[]⟩) h wR (fun _ nx3 hn3 v3 h=>?_)<;>conv=>whnf
 refine fkS h (fun h=>?_) (fun h=>?_)<;>conv=>whnf
 ·refine ixS (enc:=Window.enc) h rfl (fun _=>rfl) (fun x4 h=>?_)<;>conv=>whnf
  refine jnS (fun w5=>⟨[(1,lI (a1.tmod a0.Frame)),(6,.l (.ptr 7 0)),(19,.l (.d (.sl (a0.Windows.map Window.enc)))),(20,lI (a0.Windows.length:Int)),(21,lI v3),(37,lB w5)],41,[],[(7,[dI x4.Part,dI x4.From,dI x4.Len])],[]⟩) h (fun k5 hk5 h=>?_) (fun w5 h=>?_)<;>conv=>whnf
  ·refine fkS h (fun h=>?_) (fun h=>?_)<;>conv=>whnf
   ·exact jeS hk5 h wR
   exact jeS hk5 h wR
  refine fkS h (fun h=>?_) (fun h=>?_)<;>conv=>whnf
  ·exact rt (E:=E_Int) h rfl
  exact leS hn3 h wR
 exact rt (E:=E_Int) h rfl
end Go.Proofs.YtldlcdnhdedoeaaGreat
namespace Go.Proofs.YtldlcdnhdedoeaaGreat
open Go Go.VC
noncomputable def table_Of (a0:List Int):Option (TableTable×Int):=
 jn (fun (w1:Bool)=>fk w1 (some (⟨(0:Int),[]⟩,(1:Int))) (lp (fun nx2 (v2:Int×(List Window)×Int)=>fk (decide (v2.2.2<(a0.length:Int))) (ix a0 v2.2.2 fun x3=>jn (fun (w4:Bool)=>fk w4 (some (⟨(0:Int),[]⟩,(1:Int))) (jn (fun (w5:List Window)=>nx2 (x3,w5,(wr (v2.2.2+(1:Int))))) (fun k5=>jn (fun (w6:Bool)=>fk w6 (ck (decide (0≤(wr ((v2.2.1.length:Int)-(1:Int)))) && decide ((wr ((v2.2.1.length:Int)-(1:Int)))<(v2.2.1.length:Int))) (ox v2.2.1 ((wr ((v2.2.1.length:Int)-(1:Int))).toNat) fun x7=>ck (decide (0≤(wr ((v2.2.1.length:Int)-(1:Int)))) && decide ((wr ((v2.2.1.length:Int)-(1:Int)))<(v2.2.1.length:Int))) (ox v2.2.1 ((wr ((v2.2.1.length:Int)-(1:Int))).toNat) fun x8=>k5 (v2.2.1.set ((wr ((v2.2.1.length:Int)-(1:Int))).toNat) ⟨x8.Part,x8.From,(wr (x7.Len+(1:Int)))⟩)))) (fk (!decide (x3=(-1:Int))) (ck (decide ((v2.2.1.length+([⟨x3,v2.2.2,(1:Int)⟩]:List Window).length)*24≤140737488355328)) (k5 (v2.2.1++([⟨x3,v2.2.2,(1:Int)⟩]:List Window)))) (k5 v2.2.1))) (fun k6=>fk (decide (x3=v2.1)) (k6 (!decide (x3=(-1:Int)))) (k6 false))))) (fun k4=>fk (decide (x3<(-1:Int))) (k4 true) (k4 (decide (x3≥(4:Int)))))) (some (⟨(a0.length:Int),v2.2.1⟩,(0:Int)))) FU ((-1:Int),[],(0:Int)))) (fun k1=>fk (decide ((a0.length:Int)=(0:Int))) (k1 true) (k1 (decide ((a0.length:Int)>(240:Int)))))
theorem table_Of_w (a0:List Int) (r:TableTable×Int) (h:table_Of a0=some r):Go.VC.Spec Tryz.prog 114 [.d (.sl (a0.map (eI .i64)))] (fun y=>y=E_TableTable_Int r):=by
 refine Spec.of_xc (fn:=Tryz.f114) tab ⟨[(0,[0,2]),(1,[0,2,16]),(2,[2,3]),(3,[0,2,4]),(4,[0,2,4,5]),(5,[0,2,4,6]),(6,[2,4,6,22,23,24]),(7,[2,4,6,22,23,24,25]),(8,[2,4,6,7,8,22,23,24]),(9,[2,4,6,7,8,22,23,24,34]),(10,[2,3]),(11,[2,4,6,22,23,24]),(12,[2,4,6,22,23,24]),(13,[2,3])],[],[100016,100034],[]⟩ 42 [.cell 2 30,.tmp 3] rfl rfl rfl rfl rfl rfl ?_<;>conv=>whnf
 refine jnS (fun w1=>⟨[(0,.l (.d (.sl (a0.map (eI .i64))))),(2,.l (.ptr 3 0)),(16,lB w1)],42,[],[(3,[dI (0:Int),.nil])],[]⟩) h (fun k1 hk1 h=>?_) (fun w1 h=>?_)<;>conv=>whnf
 ·refine lenS a0 (eI .i64) rfl ?_<;>conv=>whnf
  refine fkS h (fun h=>?_) (fun h=>?_)<;>conv=>whnf
  ·exact jeS hk1 h wR
  refine lenS a0 (eI .i64) rfl ?_<;>conv=>whnf
  exact jeS hk1 h wR
 refine fkS h (fun h=>?_) (fun h=>?_)<;>conv=>whnf
 ·exact rt (E:=E_TableTable_Int) h rfl
 refine lenS a0 (eI .i64) rfl ?_<;>conv=>whnf
 refine lenS a0 (eI .i64) rfl ?_<;>conv=>whnf
 refine lpS (fun v2=>⟨[(2,.l (.ptr 3 0)),(4,.l (.ptr 5 0)),(6,.l (.func 154 [.k 6,.k 5])),(22,.l (.d (.sl (a0.map (eI .i64))))),(23,lI (a0.length:Int)),(24,lI v2.2.2)],42,[],[(3,[dI (0:Int),.nil]),(5,[dI (a0.length:Int),.own 50501]),(6,[dI v2.1])],[(50501,179,3,v2.2.1.map Window.enc)]⟩) h (Weak.trans (Weak.nilBO _ 5 1 50501 179 3 _ rfl rfl) wR) (fun _ nx2 hn2 v2 h=>?_)<;>conv=>whnf
 refine fkS h (fun h=>?_) (fun h=>?_)<;>conv=>whnf
 ·refine ixS (enc:=(eI .i64)) h rfl (fun _=>rfl) (fun x3 h=>?_)<;>conv=>whnf
  refine jnS (fun w4=>⟨[(2,.l (.ptr 3 0)),(4,.l (.ptr 5 0)),(6,.l (.func 154 [.k 6,.k 5])),(7,lI v2.2.2),(8,lI x3),(22,.l (.d (.sl (a0.map (eI .i64))))),(23,lI (a0.length:Int)),(24,lI v2.2.2),(34,lB w4)],42,[],[(3,[dI (0:Int),.nil]),(5,[dI (a0.length:Int),.own 50501]),(6,[dI v2.1])],[(50501,179,3,v2.2.1.map Window.enc)]⟩) h (fun k4 hk4 h=>?_) (fun w4 h=>?_)<;>conv=>whnf
  ·refine fkS h (fun h=>?_) (fun h=>?_)<;>conv=>whnf
   ·exact jeS hk4 h wR
   exact jeS hk4 h wR
  refine fkS h (fun h=>?_) (fun h=>?_)<;>conv=>whnf
  ·exact rt (E:=E_TableTable_Int) h rfl
  refine inS (fn:=Tryz.f154) tab ⟨[(0,[0,1,2,3,12]),(1,[1,2]),(2,[0,1,2,3,26]),(3,[1,2]),(4,[])],[],[100012,4],[]⟩ 36 [] rfl rfl rfl rfl rfl rfl ?_<;>conv=>whnf
  refine jnS (fun w5=>⟨[(1,lI x3),(2,.l (.ptr 6 0))],36,[⟨[(38,lI x3),(37,lI v2.2.2),(36,.l (.func 154 [.k 6,.k 5])),(34,lB false),(2,.l (.ptr 3 0)),(4,.l (.ptr 5 0)),(6,.l (.func 154 [.k 6,.k 5])),(7,lI v2.2.2),(8,lI x3),(22,.l (.d (.sl (a0.map (eI .i64))))),(23,lI (a0.length:Int)),(24,lI v2.2.2),(34,lB w4)],42⟩],[(3,[dI (0:Int),.nil]),(5,[dI (a0.length:Int),.own 50501]),(6,[dI v2.1])],[(50501,179,3,w5.map Window.enc)]⟩) h (fun k5 hk5 h=>?_) (fun w5 h=>?_)<;>conv=>whnf
  ·refine jnS (fun w6=>⟨[(0,lI v2.2.2),(1,lI x3),(2,.l (.ptr 6 0)),(3,.l (.ptr 5 0)),(12,lB w6)],36,[⟨[(38,lI x3),(37,lI v2.2.2),(36,.l (.func 154 [.k 6,.k 5])),(34,lB false),(2,.l (.ptr 3 0)),(4,.l (.ptr 5 0)),(6,.l (.func 154 [.k 6,.k 5])),(7,lI v2.2.2),(8,lI x3),(22,.l (.d (.sl (a0.map (eI .i64))))),(23,lI (a0.length:Int)),(24,lI v2.2.2),(34,lB w4)],42⟩],[(3,[dI (0:Int),.nil]),(5,[dI (a0.length:Int),.own 50501]),(6,[dI v2.1])],[(50501,179,3,v2.2.1.map Window.enc)]⟩) h (fun k6 hk6 h=>?_) (fun w6 h=>?_)<;>conv=>whnf
   ·refine fkS h (fun h=>?_) (fun h=>?_)<;>conv=>whnf
    ·exact jeS hk6 h wR
    exact jeS hk6 h wR
   refine fkS h (fun h=>?_) (fun h=>?_)<;>conv=>whnf
   ·refine lenS v2.2.1 Window.enc rfl ?_<;>conv=>whnf
    refine ioS (enc:=Window.enc) h rfl (fun h=>?_)<;>conv=>whnf
    refine oxS (enc:=Window.enc) h rfl (fun x7 h=>?_)<;>conv=>whnf
    refine ioS (enc:=Window.enc) h rfl (fun h=>?_)<;>conv=>whnf
    refine seS (enc:=Window.enc) h rfl (fun x8=>⟨x8.Part,x8.From,(wr (x7.Len+(1:Int)))⟩) (fun _=>rfl) (fun x8 h=>?_)<;>conv=>whnf
    exact jeS hk5 h wR
   refine fkS h (fun h=>?_) (fun h=>?_)<;>conv=>whnf
   ·refine liS ([⟨x3,v2.2.2,(1:Int)⟩]:List Window) Window.enc rfl rfl ?_<;>conv=>whnf
    refine apS (enc:=Window.enc) (l1:=v2.2.1) (l2:=([⟨x3,v2.2.2,(1:Int)⟩]:List Window)) h rfl rfl (fun _=>rfl) (fun h=>?_)<;>conv=>whnf
    refine jeX hk5 h ?_<;>conv=>whnf
    refine WkF.step (Weak.rekey _ 1034 50501 rfl) ?_<;>conv=>whnf
    exact WkF.refl _
   refine jeX hk5 h ?_<;>conv=>whnf
   refine WkF.step (Weak.keepS _ [1,2]) ?_<;>conv=>whnf
   exact WkF.refl _
  exact leS hn2 h wR
 exact rt (E:=E_TableTable_Int) h rfl
end Go.Proofs.YtldlcdnhdedoeaaGreat
namespace Go.Proofs.YtldlcdnhdedoeaaGreat
open Go Go.VC
def inW (w:Window) (x:Int):Prop:=w.From≤x∧x<w.From+w.Len
instance (w:Window) (x:Int):Decidable (inW w x):=by unfold inW; infer_instance
def whoV:List Window→Int→Int
 | [],_ => -1
 | w::r,x=>if inW w x then w.Part else whoV r x
def winP (F:Int) (w:Window):Prop:=0≤w.Part∧w.Part<4∧0≤w.From∧1≤w.Len∧w.From+w.Len≤F
structure tabP (t:TableTable):Prop where
 f1:1≤t.Frame
 f2:t.Frame≤240
 w:∀w∈t.Windows,winP t.Frame w
 p:t.Windows.Pairwise fun a b=>a.From+a.Len≤b.From
 c:∀(i:Nat) (a b:Window),t.Windows[i]?=some a→t.Windows[i+1]?=some b→¬(a.From+a.Len=b.From∧b.Part=a.Part)
 l:t.Windows.length≤240
theorem whoV_none {l:List Window} {x:Int} (h:∀a∈l,¬inW a x):whoV l x = -1:=by
 induction l with
 | nil=>rfl
 | cons a r ih=>
  unfold whoV
  rw[if_neg (h a List.mem_cons_self)]
  exact ih fun b hb=>h b (List.mem_cons_of_mem _ hb)
theorem whoV_snoc {l:List Window} {w:Window} {x:Int} (h:∀a∈l,a.From+a.Len≤w.From):whoV (l++[w]) x=if inW w x then w.Part else whoV l x:=by
 induction l with
 | nil=>rfl
 | cons a r ih=>
  have ih:=ih fun b hb=>h b (List.mem_cons_of_mem _ hb)
  have ha:=h a List.mem_cons_self
  show (if inW a x then a.Part else whoV (r++[w]) x)=if inW w x then w.Part else (if inW a x then a.Part else whoV r x)
  rw[ih]
  by_cases c:inW a x
  ·have:¬inW w x:=fun hw=>by unfold inW at *; omega
   rw[if_pos c,if_neg this,if_pos c]
  ·rw[if_neg c,if_neg c]
theorem table_may_eq (w:Window) (F:Int) (hF:0≤F) (hF2:F≤240) (h:winP F w):table_may w F=some true:=by
 unfold winP at h
 unfold table_may
 rw[decide_eq_true (by omega),fk_t,decide_eq_true (by omega),fk_t,decide_eq_true (by omega),fk_t,decide_eq_true (by omega),fk_t,decide_eq_true (by omega),fk_t,wr_in _ (by omega),decide_eq_true (by omega)]
theorem table_Right_t {t:TableTable} (h:tabP t):table_Right t=some true:=by
 have hl:=h.l
 have f1:=h.f1
 have f2:=h.f2
 unfold table_Right
 refine lp_inv (fun v=>t.Windows.length-v.2.2.toNat) (fun v=>∃k:Nat,v.2.2=(k:Int)∧k≤t.Windows.length∧((k=0∧v.1=0∧v.2.1 = -1)∨∃j a,k=j+1∧t.Windows[j]?=some a∧v.1=a.From+a.Len∧v.2.1=a.Part)) ?_ FU _ ⟨0,rfl,Nat.zero_le _,.inl ⟨rfl,rfl,rfl⟩⟩ (by unfold FU; simp only; omega)
 rintro nx ⟨e,last,kk⟩ ⟨k,hkk,hk,hJ⟩ hnx
 simp only at hkk hJ
 subst hkk
 dsimp only
 rw[lt_nat]
 by_cases c:k<t.Windows.length
 rotate_left
 ·rw[decide_eq_false c,fk_f,decide_eq_true (by omega),fk_t,decide_eq_true (by omega)]
 have hw:=h.w _ (List.getElem_mem c)
 have hwk:t.Windows[k]?=some t.Windows[k]:=List.getElem?_eq_getElem c
 rw[decide_eq_true c,fk_t,ix_lt c,wr_succ k _ c (by omega)]
 have hw':=hw
 unfold winP at hw'
 refine jn_to false (fun k3=>?_) ?_
 ·rw[bnd_eq (table_may_eq _ _ (by omega) f2 hw),Bool.not_true,fk_f]
  rcases hJ with ⟨_,rfl,rfl⟩ | ⟨j,a,rfl,ha,rfl,rfl⟩
  ·rw[decide_eq_false (by omega),fk_f]
   by_cases c0:t.Windows[k].From=0
   ·rw[decide_eq_true c0,fk_t,decide_eq_false (by omega)]
   ·rw[decide_eq_false c0,fk_f]
  ·have hp:a.From+a.Len≤t.Windows[j+1].From:=by
    have hj:j<t.Windows.length:=(List.getElem?_eq_some_iff.1 ha).1
    have:=List.pairwise_iff_getElem.1 h.p j (j+1) hj c (by omega)
    rw[List.getElem?_eq_getElem hj] at ha
    cases ha
    exact this
   have hc:=h.c j a _ ha hwk
   rw[decide_eq_false (by omega),fk_f]
   by_cases c0:t.Windows[j+1].From=a.From+a.Len
   ·rw[decide_eq_true c0,fk_t,decide_eq_false (fun hh=>hc ⟨c0.symm,hh⟩)]
   ·rw[decide_eq_false c0,fk_f]
 ·rw[fk_f,wr_in _ (by omega)]
  exact hnx _ ⟨k+1,rfl,c,.inr ⟨k,_,rfl,hwk,rfl,rfl⟩⟩ (by simp only[Int.toNat_natCast]; omega)
theorem whoV_drop {l:List Window} {x:Int} {k:Nat} (h:k<l.length):whoV (l.drop k) x=if inW l[k] x then l[k].Part else whoV (l.drop (k+1)) x:=by
 rw[List.drop_eq_getElem_cons h]; rfl
theorem table_At_eq {t:TableTable} (h:tabP t) {x:Int} (h0:0≤x):table_At t x=some (whoV t.Windows (x.tmod t.Frame)):=by
 have hl:=h.l
 have f1:=h.f1
 unfold table_At
 refine jn_to false (fun k=>by rw[bnd_eq (table_Right_t h),Bool.not_true,fk_f,decide_eq_false (by omega)]) ?_
 rw[fk_f,ck_t (decide_eq_true (by omega))]
 generalize x.tmod t.Frame=y
 refine lp_up t.Windows.length (by unfold FU; omega) (fun k=>whoV t.Windows y=whoV (t.Windows.drop k) y) rfl ?_
 intro nx k hk J hnx
 rw[lt_nat]
 by_cases c:k<t.Windows.length
 rotate_left
 ·rw[decide_eq_false c,fk_f,J,List.drop_eq_nil_of_le (by omega)]; rfl
 rw[whoV_drop c] at J
 have hw:=h.w _ (List.getElem_mem c)
 unfold winP at hw
 have f2:=h.f2
 rw[decide_eq_true c,fk_t,ix_lt c,wr_succ k _ c (by omega),wr_in (t.Windows[k].From+t.Windows[k].Len) (by omega)]
 by_cases ci:inW t.Windows[k] y
 ·rw[if_pos ci] at J
  unfold inW at ci
  refine jn_to true (fun k5=>by rw[decide_eq_true ci.1,fk_t,decide_eq_true ci.2]) ?_
  rw[fk_t,J]
 ·rw[if_neg ci] at J
  refine jn_to false (fun k5=>?_) (by rw[fk_f]; exact hnx c J)
  unfold inW at ci
  by_cases c1:t.Windows[k].From≤y
  ·rw[decide_eq_true c1,fk_t,decide_eq_false (fun hh=>ci ⟨c1,hh⟩)]
  ·rw[decide_eq_false c1,fk_f]
structure ofI (n:Int) (ts:List Int) (k:Nat) (last:Int) (W:List Window):Prop where
 w:∀w∈W,winP n w∧w.From+w.Len≤(k:Int)
 p:W.Pairwise fun a b=>a.From+a.Len≤b.From
 c:∀(i:Nat) (a b:Window),W[i]?=some a→W[i+1]?=some b→¬(a.From+a.Len=b.From∧b.Part=a.Part)
 l:W.length≤k
 v:∀x:Nat,x<k→∀y,ts[x]?=some y→whoV W (x:Int)=y
 e1:last ≠ -1→∃W0 w,W=W0++[w]∧w.Part=last∧w.From+w.Len=(k:Int)
 e2:∀W0 w,W=W0++[w]→w.From+w.Len=(k:Int)→w.Part=last
theorem table_Of_ex (ts:List Int) (h1:1≤ts.length) (h2:ts.length≤240) (h3:∀x∈ts,-1≤x∧x<4):∃t,table_Of ts=some (t,0)∧tabP t∧t.Frame=(ts.length:Int)∧∀x:Nat,∀y,ts[x]?=some y→whoV t.Windows (x:Int)=y:=by
 have key:∃r:TableTable×Int,table_Of ts=some r∧(r.2=0∧tabP r.1∧r.1.Frame=(ts.length:Int)∧∀x:Nat,∀y,ts[x]?=some y→whoV r.1.Windows (x:Int)=y):=by
  unfold table_Of
  rw[jn_eq,decide_eq_false (by omega),fk_f,decide_eq_false (by omega)]
  dsimp only
  rw[fk_f]
  refine lp_ex (fun v=>ts.length-v.2.2.toNat) (fun v=>∃(k:Nat) (last:Int) (W:List Window),v=(last,W,(k:Int))∧k≤ts.length∧ofI (ts.length:Int) ts k last W) (fun r:TableTable×Int=>r.2=0∧tabP r.1∧r.1.Frame=(ts.length:Int)∧∀x:Nat,∀y,ts[x]?=some y→whoV r.1.Windows (x:Int)=y) ?_ FU _ ⟨0,-1,[],rfl,Nat.zero_le _,⟨fun w h=>(List.not_mem_nil h).elim,List.Pairwise.nil,fun i a b h=>by simp at h,Nat.le_refl _,fun x h=>by omega,fun h=>absurd rfl h,fun W0 w h=>by simp at h⟩⟩ (by unfold FU; simp only; omega)
  rintro nx v ⟨k,last,W,rfl,hk,J⟩ hnx
  dsimp only
  rw[lt_nat]
  by_cases c:k<ts.length
  rotate_left
  ·have e:k=ts.length:=by omega
   subst e
   rw[decide_eq_false c,fk_f]
   refine⟨_,rfl,rfl,⟨by show (1:Int)≤(ts.length:Int); omega,by show (ts.length:Int)≤240; omega,fun w hw=>(J.w w hw).1,J.p,J.c,by show W.length≤240; have:=J.l; omega⟩,rfl,fun x y hx=>J.v x (List.getElem?_eq_some_iff.1 hx).1 y hx⟩
  have hb:=h3 _ (List.getElem_mem c)
  have hty:ts[k]?=some ts[k]:=List.getElem?_eq_getElem c
  rw[decide_eq_true c,fk_t,ix_lt c,wr_succ k _ c (by omega)]
  generalize ts[k]=y at *
  rw[jn_eq,decide_eq_false (show ¬y < -1 by omega),fk_f,decide_eq_false (show ¬y≥4 by omega)]
  dsimp only
  rw[fk_f]
  have go:∀W',ofI (ts.length:Int) ts (k+1) y W'→∃r,nx (y,W',((k+1:Nat):Int))=some r∧(r.2=0∧tabP r.1∧r.1.Frame=(ts.length:Int)∧∀x:Nat,∀y,ts[x]?=some y→whoV r.1.Windows (x:Int)=y):=fun W' h'=>hnx _ ⟨k+1,y,W',rfl,c,h'⟩ (by simp only[Int.toNat_natCast]; omega)
  rw[jn_eq,jn_eq]
  by_cases c1:y=last∧y ≠ -1
  ·obtain⟨rfl,cy⟩:=c1
   obtain⟨W0,w,rfl,hwp,hwe⟩:=J.e1 cy
   have hlen:(W0++[w]).length=W0.length+1:=by simp
   have hlt:W0.length<(W0++[w]).length:=by omega
   have hget:(W0++[w])[W0.length]=w:=by simp
   have hl240:=J.l
   rw[decide_eq_true rfl,fk_t,decide_eq_false cy]
   dsimp only
   rw[Bool.not_false,fk_t,hlen]
   have ei:wr (((W0.length+1:Nat):Int)-1)=(W0.length:Int):=by rw[wr_in _ (by omega)]; omega
   have hJw:=J.w w (by simp)
   have hwin:=hJw.1
   unfold winP at hwin
   rw[ei,Int.toNat_natCast,ck_t (by simp; omega),ox_lt hlt,ck_t (by simp; omega),ox_lt hlt,hget,wr_in (w.Len+1) (by omega)]
   have hset:(W0++[w]).set W0.length ⟨w.Part,w.From,w.Len+1⟩=W0++[⟨w.Part,w.From,w.Len+1⟩]:=by simp
   rw[hset]
   have hp:=List.pairwise_append.1 J.p
   have hbefore:∀a∈W0,a.From+a.Len≤w.From:=fun a ha=>hp.2.2 a ha w (by simp)
   refine go _ ⟨fun a ha=>?_,?_,fun i a b hA hB=>?_,by rw[List.length_append,List.length_singleton]; omega,fun x hx z hz=>?_,fun _=>⟨W0,_,rfl,hwp,by show w.From+(w.Len+1)=_; omega⟩,fun W1 w1 he hee=>?_⟩
   ·rcases List.mem_append.1 ha with h | h
    ·have:=J.w a (List.mem_append_left _ h); exact⟨this.1,by omega⟩
    ·rw[List.mem_singleton.1 h]
     refine⟨⟨hwin.1,hwin.2.1,hwin.2.2.1,by show 1≤w.Len+1; omega,by show w.From+(w.Len+1)≤_; omega⟩,by show w.From+(w.Len+1)≤_; omega⟩
   ·exact List.pairwise_append.2 ⟨hp.1,List.pairwise_singleton _ _,fun a ha b hb=>by rw[List.mem_singleton.1 hb]; exact hbefore a ha⟩
   ·by_cases ci:i+1<W0.length
    ·rw[List.getElem?_append_left ci] at hB
     rw[List.getElem?_append_left (by omega)] at hA
     exact J.c i a b (by rw[List.getElem?_append_left (by omega)]; exact hA) (by rw[List.getElem?_append_left ci]; exact hB)
    ·have hlb:=(List.getElem?_eq_some_iff.1 hB).1
     rw[List.length_append,List.length_singleton] at hlb
     have ei:i+1=W0.length:=by omega
     rw[ei,List.getElem?_append_right (Nat.le_refl _),Nat.sub_self] at hB
     simp only[List.getElem?_cons_zero,Option.some.injEq] at hB
     subst hB
     rw[List.getElem?_append_left (by omega)] at hA
     exact J.c i a w (by rw[List.getElem?_append_left (by omega)]; exact hA) (by rw[ei,List.getElem?_append_right (Nat.le_refl _),Nat.sub_self]; rfl)
   ·rw[whoV_snoc (w:=(⟨w.Part,w.From,w.Len+1⟩:Window)) hbefore]
    by_cases cx:x<k
    ·have:=J.v x cx z hz
     rw[whoV_snoc hbefore] at this
     by_cases ci:inW w (x:Int)
     ·rw[if_pos ci] at this
      rw[if_pos (by unfold inW at *; simp only; omega)]; exact this
     ·rw[if_neg ci] at this
      rw[if_neg (by unfold inW at *; simp only; omega)]; exact this
    ·have ex:x=k:=by omega
     subst ex
     rw[hty] at hz
     cases hz
     rw[if_pos (by unfold inW; simp only; omega)]; exact hwp
   ·have:=List.append_inj' he rfl
    have e2:w1=⟨w.Part,w.From,w.Len+1⟩:=by have:=this.2; simp at this; exact this.symm
    rw[e2]; exact hwp
  have tail:∀W',(y = -1→W'=W)→(y ≠ -1→W'=W++[⟨y,(k:Int),1⟩])→ofI (ts.length:Int) ts (k+1) y W':=by
   intro W' hn hy
   by_cases cy:y = -1
   ·rw[hn cy]
    refine⟨fun a ha=>⟨(J.w a ha).1,by have:=(J.w a ha).2; omega⟩,J.p,J.c,by have:=J.l; omega,fun x hx z hz=>?_,fun h=>absurd cy h,fun W0 w he hee=>?_⟩
    ·by_cases cx:x<k
     ·exact J.v x cx z hz
     ·have ex:x=k:=by omega
      subst ex
      rw[hty] at hz
      cases hz
      rw[whoV_none fun a ha hi=>?_,cy]
      have:=(J.w a ha).2
      unfold inW at hi
      omega
    ·have:=(J.w w (by rw[he]; simp)).2
     omega
   ·rw[hy cy]
    have hbefore:∀a∈W,a.From+a.Len≤(⟨y,(k:Int),1⟩:Window).From:=fun a ha=>(J.w a ha).2
    refine⟨fun a ha=>?_,List.pairwise_append.2 ⟨J.p,List.pairwise_singleton _ _,fun a ha b hb=>by rw[List.mem_singleton.1 hb]; exact hbefore a ha⟩,fun i a b hA hB=>?_,by rw[List.length_append,List.length_singleton]; have:=J.l; omega,fun x hx z hz=>?_,fun _=>⟨W,_,rfl,rfl,by show (k:Int)+1=_; omega⟩,fun W1 w1 he hee=>?_⟩
    ·rcases List.mem_append.1 ha with h | h
     ·exact⟨(J.w a h).1,by have:=(J.w a h).2; omega⟩
     ·rw[List.mem_singleton.1 h]
      refine⟨⟨by show 0≤y; omega,by show y<4; omega,by show (0:Int)≤(k:Int); omega,Int.le_refl _,by show (k:Int)+1≤_; omega⟩,by show (k:Int)+1≤_; omega⟩
    ·by_cases ci:i+1<W.length
     ·rw[List.getElem?_append_left ci] at hB
      rw[List.getElem?_append_left (by omega)] at hA
      exact J.c i a b hA hB
     ·have hlb:=(List.getElem?_eq_some_iff.1 hB).1
      rw[List.length_append,List.length_singleton] at hlb
      have ei:i+1=W.length:=by omega
      rw[ei,List.getElem?_append_right (Nat.le_refl _),Nat.sub_self] at hB
      simp only[List.getElem?_cons_zero,Option.some.injEq] at hB
      subst hB
      rw[List.getElem?_append_left (by omega)] at hA
      rintro⟨g1,g2⟩
      simp only at g1 g2
      have hil:i<W.length:=by omega
      have hW:W=W.take i++[a]:=by
       have h1:=List.take_append_getElem hil
       have h2:W.take (i+1)=W:=List.take_of_length_le (by omega)
       rw[h2] at h1
       rw[List.getElem?_eq_getElem hil] at hA
       cases hA
       exact h1.symm
      have:=J.e2 _ a hW g1
      exact c1 ⟨by omega,cy⟩
    ·rw[whoV_snoc hbefore]
     by_cases cx:x<k
     ·rw[if_neg (fun hi=>by have:=hi.1; simp only at this; omega)]; exact J.v x cx z hz
     ·have ex:x=k:=by omega
      subst ex
      rw[hty] at hz
      cases hz
      rw[if_pos (by unfold inW; simp only; omega)]
    ·have:=List.append_inj' he rfl
     have e2:w1=⟨y,(k:Int),1⟩:=by have:=this.2; simp at this; exact this.symm
     rw[e2]
  have rest:∃r,(fk (!decide (y=(-1:Int))) (ck (decide ((W.length+([⟨y,(k:Int),(1:Int)⟩]:List Window).length)*24≤140737488355328)) (nx (y,W++([⟨y,(k:Int),(1:Int)⟩]:List Window),((k+1:Nat):Int)))) (nx (y,W,((k+1:Nat):Int))))=some r∧(r.2=0∧tabP r.1∧r.1.Frame=(ts.length:Int)∧∀x:Nat,∀y,ts[x]?=some y→whoV r.1.Windows (x:Int)=y):=by
   have:=J.l
   by_cases cy:y = -1
   ·rw[decide_eq_true cy,Bool.not_true,fk_f]
    exact go W (tail W (fun _=>rfl) (fun h=>absurd cy h))
   ·rw[decide_eq_false cy,Bool.not_false,fk_t,ck_t (by simp; omega)]
    exact go _ (tail _ (fun h=>absurd h cy) (fun _=>rfl))
  by_cases c2:y=last
  ·have cy:y = -1:=Classical.byContradiction fun h=>c1 ⟨c2,h⟩
   rw[decide_eq_true c2,fk_t,decide_eq_true cy]
   rw[decide_eq_true cy] at rest
   exact rest
  ·rw[decide_eq_false c2,fk_f]
   exact rest
 obtain⟨r,e,a,b,c,d⟩:=key
 refine⟨r.1,?_,b,c,d⟩
 rw[e]
 obtain⟨x,y⟩:=r
 simp only at a
 rw[a]
end Go.Proofs.YtldlcdnhdedoeaaGreat
namespace Go.Proofs.YtldlcdnhdedoeaaGreat
open Go Go.VC
noncomputable def synth_Frame (a0:List Face):Option (Int×Int):=
 fk (decide ((a0.length:Int)>(4:Int))) (some ((0:Int),(1:Int))) (lp (fun nx1 (v1:Int)=>fk (decide (v1<(a0.length:Int))) (ix a0 v1 fun x2=>bnd (supply_Right x2) fun x3=>fk (!x3) (some ((0:Int),(1:Int))) (nx1 (wr (v1+(1:Int))))) (lp (fun nx4 (v4:Int×Int)=>fk (decide (v4.2<(a0.length:Int))) (ix a0 v4.2 fun x5=>bnd (arith_Lcm v4.1 x5.P) fun x6=>jn (fun (w7:Bool)=>fk w7 (some ((0:Int),(5:Int))) (nx4 (x6.1,(wr (v4.2+(1:Int)))))) (fun k7=>fk (!decide (x6.2=(0:Int))) (k7 true) (k7 (decide (x6.1>(240:Int)))))) (some (v4.1,(0:Int)))) FU ((1:Int),(0:Int)))) FU (0:Int))
theorem synth_Frame_w (a0:List Face) (r:Int×Int) (h:synth_Frame a0=some r):Go.VC.Spec Tryz.prog 151 [.d (.sl (a0.map Face.enc))] (fun y=>y=E_Int_Int r):=by
 refine Spec.of_xc (fn:=Tryz.f151) tab ⟨[(0,[0]),(1,[0,13]),(2,[2,3]),(3,[0,14,15,16]),(4,[0,14,15,16,17]),(5,[0,5,14,15,16]),(6,[0,14,15,16,22]),(7,[2,3]),(8,[0,14,15,16]),(9,[0,6]),(10,[6,24,25,26]),(11,[6,24,25,26,27]),(12,[6,8,24,25,26]),(13,[9,10,24,25,26]),(14,[9,24,25,26,42]),(15,[2,3]),(16,[6,24,25,26]),(17,[6,24,25,26]),(18,[2,3])],[],[100042],[]⟩ 46 [.tmp 2,.tmp 3] rfl rfl rfl rfl rfl rfl ?_<;>conv=>whnf
 refine lenS a0 Face.enc rfl ?_<;>conv=>whnf
 refine fkS h (fun h=>?_) (fun h=>?_)<;>conv=>whnf
 ·exact rt (E:=E_Int_Int) h rfl
 refine lenS a0 Face.enc rfl ?_<;>conv=>whnf
 refine lpS (fun v1=>⟨[(0,.l (.d (.sl (a0.map Face.enc)))),(14,.l (.d (.sl (a0.map Face.enc)))),(15,lI (a0.length:Int)),(16,lI v1)],46,[],[],[]⟩) h wR (fun _ nx1 hn1 v1 h=>?_)<;>conv=>whnf
 refine fkS h (fun h=>?_) (fun h=>?_)<;>conv=>whnf
 ·refine ixS (enc:=Face.enc) h rfl (fun _=>rfl) (fun x2 h=>?_)<;>conv=>whnf
  refine caS (E:=E_Bool) h (supply_Right_w x2) rfl (fun _=>rfl) (fun x3 h=>?_)<;>conv=>whnf
  refine fkS h (fun h=>?_) (fun h=>?_)<;>conv=>whnf
  ·exact rt (E:=E_Int_Int) h rfl
  exact leS hn1 h wR
 refine lenS a0 Face.enc rfl ?_<;>conv=>whnf
 refine lpS (fun v4=>⟨[(6,lI v4.1),(24,.l (.d (.sl (a0.map Face.enc)))),(25,lI (a0.length:Int)),(26,lI v4.2)],46,[],[],[]⟩) h wR (fun _ nx4 hn4 v4 h=>?_)<;>conv=>whnf
 refine fkS h (fun h=>?_) (fun h=>?_)<;>conv=>whnf
 ·refine ixS (enc:=Face.enc) h rfl (fun _=>rfl) (fun x5 h=>?_)<;>conv=>whnf
  refine caS (E:=E_Int_Int) h (arith_Lcm_w v4.1 x5.P) rfl (fun _=>rfl) (fun x6 h=>?_)<;>conv=>whnf
  refine jnS (fun w7=>⟨[(9,lI x6.1),(24,.l (.d (.sl (a0.map Face.enc)))),(25,lI (a0.length:Int)),(26,lI v4.2),(42,lB w7)],46,[],[],[]⟩) h (fun k7 hk7 h=>?_) (fun w7 h=>?_)<;>conv=>whnf
  ·refine fkS h (fun h=>?_) (fun h=>?_)<;>conv=>whnf
   ·exact jeS hk7 h wR
   exact jeS hk7 h wR
  refine fkS h (fun h=>?_) (fun h=>?_)<;>conv=>whnf
  ·exact rt (E:=E_Int_Int) h rfl
  exact leS hn4 h wR
 exact rt (E:=E_Int_Int) h rfl
end Go.Proofs.YtldlcdnhdedoeaaGreat
namespace Go.Proofs.YtldlcdnhdedoeaaGreat
open Go Go.VC
noncomputable def synth_Lay (a0:List Face):Option ((List Int)×Int):=
 bnd (synth_Frame a0) fun x1=>fk (!decide (x1.2=(0:Int))) (some ([],x1.2)) (ck (decide ((0:Int)≤(a0.length:Int)) && decide ((a0.length:Int)*((8:Nat):Int)≤140737488355328) && decide ((a0.length:Int)≤1000000000000)) (lp (fun nx2 (v2:(List Int)×(List Int)×Int)=>fk (decide (v2.2.2<x1.1)) (lp (fun nx3 (v3:(List Int)×Int)=>fk (decide (v3.2<(a0.length:Int))) (jn (fun (w4:List Int)=>nx3 (w4,(wr (v3.2+(1:Int))))) (fun k4=>ix a0 v3.2 fun x5=>ck (decide (x5.P≠0)) (fk (!decide ((v2.2.2.tmod x5.P)=(0:Int))) (k4 v3.1) (ck (decide (0≤v3.2) && decide (v3.2<(v3.1.length:Int))) (ox v3.1 v3.2.toNat fun x6=>fk (decide (x6>(0:Int))) (some ([],(7:Int))) (ck (decide (0≤v3.2) && decide (v3.2<(v3.1.length:Int))) (ox v3.1 v3.2.toNat fun x7=>k4 (v3.1.set v3.2.toNat x5.B)))))))) (lp (fun nx8 (v8:Int×Int×Int)=>fk (decide (v8.2.2<(a0.length:Int))) (jn (fun (w9:Int×Int)=>nx8 (w9.1,w9.2,(wr (v8.2.2+(1:Int))))) (fun k9=>ix a0 v8.2.2 fun x10=>ck (decide (x10.P≠0)) (jn (fun (w11:Bool)=>fk w11 (k9 (v8.2.2,(wr ((wr (v2.2.2-(v2.2.2.tmod x10.P)))+x10.P)))) (k9 (v8.1,v8.2.1))) (fun k11=>ck (decide (0≤v8.2.2) && decide (v8.2.2<(v3.1.length:Int))) (ox v3.1 v8.2.2.toNat fun x12=>fk (decide (x12>(0:Int))) (fk (decide (v8.1=(-1:Int))) (k11 true) (k11 (decide ((wr ((wr (v2.2.2-(v2.2.2.tmod x10.P)))+x10.P))<v8.2.1)))) (k11 false)))))) (fk (!decide (v8.1=(-1:Int))) (ck (decide (0≤v8.1) && decide (v8.1<(v3.1.length:Int))) (ox v3.1 v8.1.toNat fun x13=>ck (decide (0≤v8.1) && decide (v8.1<(v3.1.length:Int))) (ox v3.1 v8.1.toNat fun x14=>ck (decide ((v2.1.length+([v8.1]:List Int).length)*8≤140737488355328)) (nx2 (v2.1++([v8.1]:List Int),v3.1.set v8.1.toNat (wr (x13-(1:Int))),(wr (v2.2.2+(1:Int)))))))) (ck (decide ((v2.1.length+([v8.1]:List Int).length)*8≤140737488355328)) (nx2 (v2.1++([v8.1]:List Int),v3.1,(wr (v2.2.2+(1:Int)))))))) FU ((-1:Int),(0:Int),(0:Int)))) FU (v2.2.1,(0:Int))) (lp (fun nx15 (v15:(List Int)×Int)=>fk (decide (v15.2<(a0.length:Int))) (jn (fun (w16:List Int)=>nx15 (w16,(wr (v15.2+(1:Int))))) (fun k16=>ix a0 v15.2 fun x17=>ck (decide (x17.P≠0)) (fk (!decide ((x1.1.tmod x17.P)=(0:Int))) (k16 v15.1) (ck (decide (0≤v15.2) && decide (v15.2<(v15.1.length:Int))) (ox v15.1 v15.2.toNat fun x18=>fk (decide (x18>(0:Int))) (some ([],(7:Int))) (ck (decide (0≤v15.2) && decide (v15.2<(v15.1.length:Int))) (ox v15.1 v15.2.toNat fun x19=>k16 (v15.1.set v15.2.toNat x17.B)))))))) (some (v2.1,(0:Int)))) FU (v2.2.1,(0:Int)))) FU ([],List.replicate (a0.length:Int).toNat ((0:Int):Int),(0:Int))))
theorem synth_Lay_w (a0:List Face) (r:(List Int)×Int) (h:synth_Lay a0=some r):Go.VC.Spec Tryz.prog 113 [.d (.sl (a0.map Face.enc))] (fun y=>y=E_ListInt_Int r):=by
 refine Spec.of_xc (fn:=Tryz.f113) tab ⟨[(0,[0]),(1,[0,4,5]),(2,[0,4,5,17]),(3,[2,3]),(4,[4,6]),(5,[4,7,8]),(6,[4,7,8,9]),(7,[4,7,8,9,29,30]),(8,[4,7,8,9,29,30,31]),(9,[4,7,8,9,10,29,30]),(10,[4,7,8,9,10,29,30,36]),(11,[2,3]),(12,[4,7,8,9,29,30]),(13,[4,7,8,9,29,30]),(14,[9,47]),(15,[2,3]),(16,[2,3])],[],[],[]⟩ 49 [.tmp 2,.tmp 3] rfl rfl rfl rfl rfl rfl ?_<;>conv=>whnf
 refine caS (E:=E_Int_Int) h (synth_Frame_w a0) rfl (fun _=>rfl) (fun x1 h=>?_)<;>conv=>whnf
 refine fkS h (fun h=>?_) (fun h=>?_)<;>conv=>whnf
 ·exact rt (E:=E_ListInt_Int) h rfl
 refine lenS a0 Face.enc rfl ?_<;>conv=>whnf
 refine mkS ((0:Int):Int) (eI .i64) h rfl rfl (fun h=>?_)<;>conv=>whnf
 refine lpS (fun v2=>⟨[(4,lI x1.1),(7,.l (.mfn 152 25)),(8,.l (.mfn 153 25)),(9,.l (.own 10)),(29,lI x1.1),(30,lI v2.2.2)],49,[],[(25,[.d (.sl (a0.map Face.enc)),.own 23])],[(10,3,1,v2.1.map (eI .i64)),(23,3,1,v2.2.1.map (eI .i64))]⟩) h (Weak.trans (Weak.nilO _ 9 10 3 1 rfl) wR) (fun _ nx2 hn2 v2 h=>?_)<;>conv=>whnf
 refine fkS h (fun h=>?_) (fun h=>?_)<;>conv=>whnf
 ·refine inS (fn:=Tryz.f152) tab ⟨[(0,[0,1]),(1,[0,1,10,11,12]),(2,[0,1,10,11,12,13]),(3,[0,1,5,6,10,11,12]),(4,[0,1,5,6,10,11,12,21]),(5,[0,1,5,6,10,11,12,29]),(6,[4]),(7,[0,1,10,11,12]),(8,[0,1,10,11,12]),(9,[4])],[],[8],[]⟩ 39 [.tmp 4] rfl rfl rfl rfl rfl rfl ?_<;>conv=>whnf
  refine lenS a0 Face.enc rfl ?_<;>conv=>whnf
  refine lpS (fun v3=>⟨[(0,.l (.ptr 25 0)),(1,lI v2.2.2),(10,.l (.d (.sl (a0.map Face.enc)))),(11,lI (a0.length:Int)),(12,lI v3.2)],39,[⟨[(34,lI v2.2.2),(33,.l (.mfn 152 25)),(4,lI x1.1),(7,.l (.mfn 152 25)),(8,.l (.mfn 153 25)),(9,.l (.own 10)),(10,lI v2.2.2),(29,lI x1.1),(30,lI v2.2.2)],49⟩],[(25,[.d (.sl (a0.map Face.enc)),.own 23])],[(10,3,1,v2.1.map (eI .i64)),(23,3,1,v3.1.map (eI .i64))]⟩) h wR (fun _ nx3 hn3 v3 h=>?_)<;>conv=>whnf
  refine fkS h (fun h=>?_) (fun h=>?_)<;>conv=>whnf
  ·refine jnS (fun w4=>⟨[(0,.l (.ptr 25 0)),(1,lI v2.2.2),(10,.l (.d (.sl (a0.map Face.enc)))),(11,lI (a0.length:Int)),(12,lI v3.2)],39,[⟨[(34,lI v2.2.2),(33,.l (.mfn 152 25)),(4,lI x1.1),(7,.l (.mfn 152 25)),(8,.l (.mfn 153 25)),(9,.l (.own 10)),(10,lI v2.2.2),(29,lI x1.1),(30,lI v2.2.2)],49⟩],[(25,[.d (.sl (a0.map Face.enc)),.own 23])],[(10,3,1,v2.1.map (eI .i64)),(23,3,1,w4.map (eI .i64))]⟩) h (fun k4 hk4 h=>?_) (fun w4 h=>?_)<;>conv=>whnf
   ·refine ixS (enc:=Face.enc) h rfl (fun _=>rfl) (fun x5 h=>?_)<;>conv=>whnf
    refine dvS h (fun h=>?_)<;>conv=>whnf
    refine fkS h (fun h=>?_) (fun h=>?_)<;>conv=>whnf
    ·refine jeX hk4 h ?_<;>conv=>whnf
     refine WkF.step (Weak.keepS _ [0,1,10,11,12]) ?_<;>conv=>whnf
     exact WkF.refl _
    refine ioS (enc:=(eI .i64)) h rfl (fun h=>?_)<;>conv=>whnf
    refine oxS (enc:=(eI .i64)) h rfl (fun x6 h=>?_)<;>conv=>whnf
    refine fkS h (fun h=>?_) (fun h=>?_)<;>conv=>whnf
    ·exact rt (E:=E_ListInt_Int) h rfl
    refine⟨7,?_⟩
    conv=>whnf
    refine drS (by kernel_rfl) ?_<;>conv=>whnf
    refine ioS (enc:=(eI .i64)) h rfl (fun h=>?_)<;>conv=>whnf
    refine seS (enc:=(eI .i64)) h rfl (fun x7=>x5.B) (fun _=>rfl) (fun x7 h=>?_)<;>conv=>whnf
    exact jeS hk4 h wR
   exact leS hn3 h wR
  refine inS (fn:=Tryz.f153) tab ⟨[(0,[0,1]),(1,[0,1,5,6]),(2,[0,1,5,6,13,14,15]),(3,[0,1,5,6,13,14,15,16]),(4,[0,1,5,6,7,8,13,14,15]),(5,[0,1,5,6,7,9,13,14,15]),(6,[0,1,5,6,7,9,13,14,15,45]),(7,[0,1,5,6,13,14,15]),(8,[0,1,5,6,13,14,15]),(9,[0,5,50]),(10,[5]),(11,[4])],[],[100045,8],[]⟩ 61 [.tmp 4] rfl rfl rfl rfl rfl rfl ?_<;>conv=>whnf
  refine lenS a0 Face.enc rfl ?_<;>conv=>whnf
  refine lpS (fun v8=>⟨[(0,.l (.ptr 25 0)),(1,lI v2.2.2),(5,lI v8.1),(6,lI v8.2.1),(13,.l (.d (.sl (a0.map Face.enc)))),(14,lI (a0.length:Int)),(15,lI v8.2.2)],61,[⟨[(39,lI v2.2.2),(38,.l (.mfn 153 25)),(37,.l (.own 10)),(36,lB false),(4,lI x1.1),(7,.l (.mfn 152 25)),(8,.l (.mfn 153 25)),(9,.l (.own 10)),(10,lI v2.2.2),(29,lI x1.1),(30,lI v2.2.2),(36,lB false)],49⟩],[(25,[.d (.sl (a0.map Face.enc)),.own 23])],[(10,3,1,v2.1.map (eI .i64)),(23,3,1,v3.1.map (eI .i64))]⟩) h wR (fun _ nx8 hn8 v8 h=>?_)<;>conv=>whnf
  refine fkS h (fun h=>?_) (fun h=>?_)<;>conv=>whnf
  ·refine jnS (fun w9=>⟨[(0,.l (.ptr 25 0)),(1,lI v2.2.2),(5,lI w9.1),(6,lI w9.2),(13,.l (.d (.sl (a0.map Face.enc)))),(14,lI (a0.length:Int)),(15,lI v8.2.2)],61,[⟨[(39,lI v2.2.2),(38,.l (.mfn 153 25)),(37,.l (.own 10)),(36,lB false),(4,lI x1.1),(7,.l (.mfn 152 25)),(8,.l (.mfn 153 25)),(9,.l (.own 10)),(10,lI v2.2.2),(29,lI x1.1),(30,lI v2.2.2),(36,lB false)],49⟩],[(25,[.d (.sl (a0.map Face.enc)),.own 23])],[(10,3,1,v2.1.map (eI .i64)),(23,3,1,v3.1.map (eI .i64))]⟩) h (fun k9 hk9 h=>?_) (fun w9 h=>?_)<;>conv=>whnf
   ·refine ixS (enc:=Face.enc) h rfl (fun _=>rfl) (fun x10 h=>?_)<;>conv=>whnf
    refine⟨8,?_⟩
    conv=>whnf
    refine dvS h (fun h=>?_)<;>conv=>whnf
    refine drS (by kernel_rfl) ?_<;>conv=>whnf
    refine jnS (fun w11=>⟨[(0,.l (.ptr 25 0)),(1,lI v2.2.2),(5,lI v8.1),(6,lI v8.2.1),(7,lI v8.2.2),(9,lI (wr ((wr (v2.2.2-(v2.2.2.tmod x10.P)))+x10.P))),(13,.l (.d (.sl (a0.map Face.enc)))),(14,lI (a0.length:Int)),(15,lI v8.2.2),(45,lB w11)],61,[⟨[(39,lI v2.2.2),(38,.l (.mfn 153 25)),(37,.l (.own 10)),(36,lB false),(4,lI x1.1),(7,.l (.mfn 152 25)),(8,.l (.mfn 153 25)),(9,.l (.own 10)),(10,lI v2.2.2),(29,lI x1.1),(30,lI v2.2.2),(36,lB false)],49⟩],[(25,[.d (.sl (a0.map Face.enc)),.own 23])],[(10,3,1,v2.1.map (eI .i64)),(23,3,1,v3.1.map (eI .i64))]⟩) h (fun k11 hk11 h=>?_) (fun w11 h=>?_)<;>conv=>whnf
    ·refine ioS (enc:=(eI .i64)) h rfl (fun h=>?_)<;>conv=>whnf
     refine oxS (enc:=(eI .i64)) h rfl (fun x12 h=>?_)<;>conv=>whnf
     refine fkS h (fun h=>?_) (fun h=>?_)<;>conv=>whnf
     ·refine fkS h (fun h=>?_) (fun h=>?_)<;>conv=>whnf
      ·exact jeS hk11 h wR
      exact jeS hk11 h wR
     exact jeS hk11 h wR
    refine fkS h (fun h=>?_) (fun h=>?_)<;>conv=>whnf
    ·exact jeS hk9 h wR
    refine jeX hk9 h ?_<;>conv=>whnf
    refine WkF.step (Weak.keepS _ [0,1,5,6,13,14,15]) ?_<;>conv=>whnf
    exact WkF.refl _
   exact leS hn8 h wR
  refine fkS h (fun h=>?_) (fun h=>?_)<;>conv=>whnf
  ·refine ioS (enc:=(eI .i64)) h rfl (fun h=>?_)<;>conv=>whnf
   refine oxS (enc:=(eI .i64)) h rfl (fun x13 h=>?_)<;>conv=>whnf
   refine ioS (enc:=(eI .i64)) h rfl (fun h=>?_)<;>conv=>whnf
   refine seS (enc:=(eI .i64)) h rfl (fun x14=>(wr (x13-(1:Int)))) (fun _=>rfl) (fun x14 h=>?_)<;>conv=>whnf
   refine liS ([v8.1]:List Int) (eI .i64) rfl rfl ?_<;>conv=>whnf
   refine apS (enc:=(eI .i64)) (l1:=v2.1) (l2:=([v8.1]:List Int)) h rfl rfl (fun _=>rfl) (fun h=>?_)<;>conv=>whnf
   exact leS hn2 h wR
  refine liS ([v8.1]:List Int) (eI .i64) rfl rfl ?_<;>conv=>whnf
  refine apS (enc:=(eI .i64)) (l1:=v2.1) (l2:=([v8.1]:List Int)) h rfl rfl (fun _=>rfl) (fun h=>?_)<;>conv=>whnf
  exact leS hn2 h wR
 refine inS (fn:=Tryz.f152) tab ⟨[(0,[0,1]),(1,[0,1,10,11,12]),(2,[0,1,10,11,12,13]),(3,[0,1,5,6,10,11,12]),(4,[0,1,5,6,10,11,12,21]),(5,[0,1,5,6,10,11,12,29]),(6,[4]),(7,[0,1,10,11,12]),(8,[0,1,10,11,12]),(9,[4])],[],[8],[]⟩ 39 [.tmp 4] rfl rfl rfl rfl rfl rfl ?_<;>conv=>whnf
 refine lenS a0 Face.enc rfl ?_<;>conv=>whnf
 refine lpS (fun v15=>⟨[(0,.l (.ptr 25 0)),(1,lI x1.1),(10,.l (.d (.sl (a0.map Face.enc)))),(11,lI (a0.length:Int)),(12,lI v15.2)],39,[⟨[(45,lI x1.1),(44,.l (.mfn 152 25)),(31,lB false),(4,lI x1.1),(7,.l (.mfn 152 25)),(8,.l (.mfn 153 25)),(9,.l (.own 10)),(29,lI x1.1),(30,lI v2.2.2),(31,lB (decide (v2.2.2<x1.1)))],49⟩],[(25,[.d (.sl (a0.map Face.enc)),.own 23])],[(10,3,1,v2.1.map (eI .i64)),(23,3,1,v15.1.map (eI .i64))]⟩) h wR (fun _ nx15 hn15 v15 h=>?_)<;>conv=>whnf
 refine fkS h (fun h=>?_) (fun h=>?_)<;>conv=>whnf
 ·refine jnS (fun w16=>⟨[(0,.l (.ptr 25 0)),(1,lI x1.1),(10,.l (.d (.sl (a0.map Face.enc)))),(11,lI (a0.length:Int)),(12,lI v15.2)],39,[⟨[(45,lI x1.1),(44,.l (.mfn 152 25)),(31,lB false),(4,lI x1.1),(7,.l (.mfn 152 25)),(8,.l (.mfn 153 25)),(9,.l (.own 10)),(29,lI x1.1),(30,lI v2.2.2),(31,lB (decide (v2.2.2<x1.1)))],49⟩],[(25,[.d (.sl (a0.map Face.enc)),.own 23])],[(10,3,1,v2.1.map (eI .i64)),(23,3,1,w16.map (eI .i64))]⟩) h (fun k16 hk16 h=>?_) (fun w16 h=>?_)<;>conv=>whnf
  ·refine ixS (enc:=Face.enc) h rfl (fun _=>rfl) (fun x17 h=>?_)<;>conv=>whnf
   refine dvS h (fun h=>?_)<;>conv=>whnf
   refine fkS h (fun h=>?_) (fun h=>?_)<;>conv=>whnf
   ·refine jeX hk16 h ?_<;>conv=>whnf
    refine WkF.step (Weak.keepS _ [0,1,10,11,12]) ?_<;>conv=>whnf
    exact WkF.refl _
   refine ioS (enc:=(eI .i64)) h rfl (fun h=>?_)<;>conv=>whnf
   refine oxS (enc:=(eI .i64)) h rfl (fun x18 h=>?_)<;>conv=>whnf
   refine fkS h (fun h=>?_) (fun h=>?_)<;>conv=>whnf
   ·exact rt (E:=E_ListInt_Int) h rfl
   refine⟨7,?_⟩
   conv=>whnf
   refine drS (by kernel_rfl) ?_<;>conv=>whnf
   refine ioS (enc:=(eI .i64)) h rfl (fun h=>?_)<;>conv=>whnf
   refine seS (enc:=(eI .i64)) h rfl (fun x19=>x17.B) (fun _=>rfl) (fun x19 h=>?_)<;>conv=>whnf
   exact jeS hk16 h wR
  exact leS hn15 h wR
 exact rt (E:=E_ListInt_Int) h rfl
end Go.Proofs.YtldlcdnhdedoeaaGreat
namespace Go.Proofs.YtldlcdnhdedoeaaGreat
open Go Go.VC
def facesP (l:List Face):Prop:=(∀f∈l,faceP f)∧l.length≤4
def lcmF (c:Nat) (l:List Face):Nat:=l.foldl (fun c f=>Nat.lcm c f.P.toNat) c
theorem lcmF_succ (c:Nat) (l:List Face) (k:Nat) (h:k<l.length):lcmF c (l.take (k+1))=Nat.lcm (lcmF c (l.take k)) l[k].P.toNat:=by
 unfold lcmF
 rw[←List.take_append_getElem h,List.foldl_append]; rfl
theorem lcmF_dvd:∀(l:List Face) (c n:Nat),lcmF c l∣n↔c∣n∧∀f∈l,f.P.toNat∣n
 | [],c,n=>by simp[lcmF]
 | f::r,c,n=>by
  show lcmF (Nat.lcm c f.P.toNat) r∣n↔_
  rw[lcmF_dvd r,Nat.lcm_dvd_iff]
  simp only[List.mem_cons,forall_eq_or_imp,and_assoc]
theorem lcmF_pos:∀(l:List Face) (c:Nat),0<c→(∀f∈l,1≤f.P)→0<lcmF c l
 | [],c,h,_=>h
 | f::r,c,h,hl=>lcmF_pos r _ (Nat.lcm_pos h (by have:=hl f List.mem_cons_self; omega)) fun g hg=>hl g (List.mem_cons_of_mem _ hg)
noncomputable instance (l:List Face):Decidable (facesP l):=Classical.propDecidable _
noncomputable def frameV (l:List Face):Int×Int:=if facesP l then (if lcmF 1 l≤240 then ((lcmF 1 l:Nat),0) else (0,5)) else (0,1)
theorem faceP.P {f:Face} (h:faceP f):1≤f.P∧f.P≤200∧1≤f.B∧f.B≤200:=by unfold faceP at h; omega
theorem synth_Frame_eq (l:List Face):synth_Frame l=some (frameV l):=by
 unfold synth_Frame frameV
 by_cases h4:l.length≤4
 rotate_left
 ·rw[decide_eq_true (by omega),fk_t,if_neg (fun h=>h4 h.2)]
 rw[decide_eq_false (by omega),fk_f]
 refine lp_up l.length (by unfold FU; omega) (fun k=>∀f∈l.take k,faceP f) (fun f h=>by simp at h) ?_
 intro nx k hk J hnx
 rw[lt_nat]
 by_cases c:k<l.length
 ·rw[decide_eq_true c,fk_t,ix_lt c,bnd_eq (supply_Right_eq _),wr_succ k _ c (by omega)]
  by_cases hf:faceP l[k]
  ·rw[decide_eq_true hf,Bool.not_true,fk_f]
   refine hnx c fun f h=>?_
   rw[←List.take_append_getElem c] at h
   rcases List.mem_append.1 h with h | h
   ·exact J f h
   ·rw[List.mem_singleton.1 h]; exact hf
  ·rw[decide_eq_false hf,Bool.not_false,fk_t,if_neg (fun h=>hf (h.1 _ (List.getElem_mem c)))]
 rw[List.take_of_length_le (by omega)] at J
 have hfp:facesP l:=⟨J,h4⟩
 have hpos:∀f∈l,1≤f.P:=fun f hf=>(J f hf).P.1
 rw[decide_eq_false c,fk_f,if_pos hfp]
 clear hnx nx hk c k
 refine lp_upS l.length (by unfold FU; omega) (fun k s=>s=((lcmF 1 (l.take k):Nat):Int)∧lcmF 1 (l.take k)≤240) 1 ⟨rfl,by show (1:Nat)≤240; omega⟩ ?_
 rintro nx k s hk ⟨rfl,hb⟩ hnx
 dsimp only
 rw[lt_nat]
 by_cases c:k<l.length
 rotate_left
 ·rw[List.take_of_length_le (by omega)] at hb ⊢
  rw[decide_eq_false c,fk_f,if_pos hb]
 have hp:=(J _ (List.getElem_mem c)).P
 have hpk:0<lcmF 1 (l.take k):=lcmF_pos _ _ (by omega) fun f hf=>hpos f (List.mem_of_mem_take hf)
 have eL:=arith_Lcm_eq (lcmF 1 (l.take k)) l[k].P.toNat hpk (by omega) (by omega) (by omega)
 rw[show ((l[k].P.toNat:Nat):Int)=l[k].P by omega] at eL
 rw[decide_eq_true c,fk_t,ix_lt c,bnd_eq eL,wr_succ k _ c (by omega),←lcmF_succ 1 l k c]
 have hdv:lcmF 1 (l.take (k+1))∣lcmF 1 l:=(lcmF_dvd _ _ _).2 ⟨Nat.one_dvd _,fun f hf=>((lcmF_dvd l 1 _).1 (Nat.dvd_refl _)).2 f (List.mem_of_mem_take hf)⟩
 have hle:=Nat.le_of_dvd (lcmF_pos l 1 (by omega) hpos) hdv
 by_cases cb:lcmF 1 (l.take (k+1))≤240
 ·refine jn_to false (fun k7=>by rw[decide_eq_true rfl,Bool.not_true,fk_f,decide_eq_false (by dsimp only; omega)]) (by rw[fk_f]; exact hnx _ c ⟨rfl,cb⟩)
 ·refine jn_to true (fun k7=>by rw[decide_eq_true rfl,Bool.not_true,fk_f,decide_eq_true (by dsimp only; omega)]) (by rw[fk_t,if_neg (by omega)])
def allD (l:List Face) (n:Nat):Prop:=∀f∈l,f.P.toNat∣n
instance (l:List Face) (n:Nat):Decidable (allD l n):=by unfold allD; infer_instance
def wv (w:List Int) (i:Nat):Int:=(w[i]?).getD 0
def begun (l:List Face) (w:List Int) (t:Nat):List Int:=(List.range l.length).map fun i=>match l[i]? with | some f=>if f.P.toNat∣t then f.B else wv w i | none=>0
def denyP (l:List Face) (w:List Int) (t:Nat):Prop:=∃(i:Nat) (f:Face),l[i]?=some f∧f.P.toNat∣t∧0<wv w i
def byV (f:Face) (t:Nat):Nat:=(t/f.P.toNat+1)*f.P.toNat
def isNext (l:List Face) (w:List Int) (t k:Nat) (r:Int):Prop:=
 (r = -1∧∀i,i<k→wv w i≤0)∨∃(i:Nat) (f:Face),i<k∧r=(i:Int)∧l[i]?=some f∧0<wv w i∧∀(j:Nat) (g:Face),j<k→l[j]?=some g→0<wv w j→byV f t<byV g t∨(byV f t=byV g t∧i≤j)
def dec (w:List Int) (r:Int):List Int:=if r = -1 then w else w.set r.toNat (wv w r.toNat-1)
inductive LayR (l:List Face):Nat→List Int→List Int→Prop
 | zero:LayR l 0 [] (List.replicate l.length 0)
 | step {t:Nat} {out w:List Int} {r:Int} (h:LayR l t out w) (hd:¬denyP l w t) (hn:isNext l (begun l w t) t l.length r):LayR l (t+1) (out++[r]) (dec (begun l w t) r)
def resP (l:List Face) (F:Nat) (r:List Int×Int):Prop:=
 (∃o w,LayR l F o w∧¬denyP l w F∧r=(o,0))∨(∃t,t≤F∧∃o w,LayR l t o w∧denyP l w t∧r=([],7))
theorem begun_len (l:List Face) (w:List Int) (t:Nat):(begun l w t).length=l.length:=by unfold begun; simp
theorem begun_at {l:List Face} {w:List Int} {t i:Nat} {f:Face} (h:l[i]?=some f):wv (begun l w t) i=if f.P.toNat∣t then f.B else wv w i:=by
 have hi:=(List.getElem?_eq_some_iff.1 h).1
 unfold begun
 unfold wv
 rw[List.getElem?_map,List.getElem?_range hi]
 simp only[Option.map_some,h,Option.getD_some]
theorem LayR.ok {l:List Face} (hl:facesP l) {t:Nat} {o w:List Int} (h:LayR l t o w):o.length=t∧w.length=l.length∧(∀i,0≤wv w i∧wv w i≤200)∧∀x∈o,-1≤x∧x<(l.length:Int):=by
 induction h with
 | zero=>
  refine⟨rfl,by simp,fun i=>?_,fun x h=>(List.not_mem_nil h).elim⟩
  unfold wv
  rw[List.getElem?_replicate]
  split <;> simp
 | step h hd hn ih=>
  rename_i t out w r
  obtain⟨a,b,c,d⟩:=ih
  have hb:∀i,0≤wv (begun l w t) i∧wv (begun l w t) i≤200:=fun i=>by
   cases hf:l[i]? with
   | some f=>
    rw[begun_at hf]
    have:=(hl.1 f (List.mem_of_getElem? hf)).P
    split
    ·omega
    ·exact c i
   | none=>
    have:(begun l w t)[i]?=none:=List.getElem?_eq_none (by rw[begun_len]; exact List.getElem?_eq_none_iff.1 hf)
    unfold wv; rw[this]; simp
  refine⟨by simp[a],?_,fun i=>?_,fun x hx=>?_⟩
  ·unfold dec; split
   ·exact begun_len _ _ _
   ·rw[List.length_set]; exact begun_len _ _ _
  ·rcases hn with ⟨rfl,_⟩ | ⟨j,f,hj,rfl,hf,hw,_⟩
   ·unfold dec; rw[if_pos rfl]; exact hb i
   ·unfold dec
    rw[if_neg (by omega),Int.toNat_natCast]
    by_cases e:j=i
    ·subst e
     have:wv ((begun l w t).set j (wv (begun l w t) j-1)) j=wv (begun l w t) j-1:=by
      unfold wv
      rw[List.getElem?_set_self (by rw[begun_len]; exact hj)]; rfl
     rw[this]
     have:=hb j; omega
    ·have:wv ((begun l w t).set j (wv (begun l w t) j-1)) i=wv (begun l w t) i:=by
      unfold wv
      rw[List.getElem?_set_ne e]
     rw[this]; exact hb i
  ·rcases List.mem_append.1 hx with h' | h'
   ·exact d x h'
   ·rw[List.mem_singleton.1 h']
    rcases hn with ⟨rfl,_⟩ | ⟨j,f,hj,rfl,_⟩ <;> omega
end Go.Proofs.YtldlcdnhdedoeaaGreat
namespace Go.Proofs.YtldlcdnhdedoeaaGreat
open Go Go.VC
theorem tmod_dvd {f:Face} (h:1≤f.P) (t:Nat):decide ((t:Int).tmod f.P=0)=decide (f.P.toNat∣t):=by
 rw[decide_eq_decide,Int.tmod_eq_emod_of_nonneg (by omega),show f.P=((f.P.toNat:Nat):Int) by omega,Int.toNat_natCast]
 constructor
 ·intro h; exact Int.natCast_dvd_natCast.1 (Int.dvd_of_emod_eq_zero h)
 ·intro h; exact Int.emod_eq_zero_of_dvd (Int.natCast_dvd_natCast.2 h)
theorem byV_b {f:Face} (hf:faceP f) (t:Nat):byV f t=t-t%f.P.toNat+f.P.toNat∧t%f.P.toNat≤t∧byV f t≤t+200:=by
 have hp:=hf.P
 have h1:=Nat.div_add_mod t f.P.toNat
 have h2:=Nat.mod_le t f.P.toNat
 have e:byV f t=f.P.toNat*(t/f.P.toNat)+f.P.toNat:=by unfold byV; rw[Nat.add_mul,Nat.one_mul,Nat.mul_comm]
 refine⟨?_,h2,?_⟩ <;> omega
theorem by_eq {f:Face} (hf:faceP f) (t:Nat) (ht:t≤1000):wr (wr ((t:Int)-(t:Int).tmod f.P)+f.P)=((byV f t:Nat):Int):=by
 have hp:=hf.P
 obtain⟨h1,h2,h3⟩:=byV_b hf t
 have e:(t:Int).tmod f.P=((t%f.P.toNat:Nat):Int):=by
  rw[Int.tmod_eq_emod_of_nonneg (by omega)]
  conv=>lhs; rw[show f.P=((f.P.toNat:Nat):Int) by omega]
  rfl
 rw[e,wr_in ((t:Int)-((t%f.P.toNat:Nat):Int)) (by omega),wr_in _ (by omega)]
 omega
theorem eq_of_wv {u v:List Int} (hl:u.length=v.length) (h:∀i,wv u i=wv v i):u=v:=by
 refine List.ext_getElem hl fun i h1 h2=>?_
 have:=h i
 unfold wv at this
 rw[List.getElem?_eq_getElem h1,List.getElem?_eq_getElem h2] at this
 exact this
theorem wv_lt {w:List Int} {i:Nat} (h:i<w.length):w[i]=wv w i:=by unfold wv; rw[List.getElem?_eq_getElem h]; rfl
theorem wv_set {w:List Int} {i:Nat} {x:Int} (h:i<w.length) (j:Nat):wv (w.set i x) j=if j=i then x else wv w j:=by
 unfold wv
 by_cases e:j=i
 ·subst e; rw[if_pos rfl,List.getElem?_set_self h]; rfl
 ·rw[if_neg e,List.getElem?_set_ne (fun c=>e c.symm)]
structure begI (l:List Face) (w:List Int) (t k:Nat) (u:List Int):Prop where
 len:u.length=l.length
 v:∀i,wv u i=if i<k then wv (begun l w t) i else wv w i
 d:∀(i:Nat) (f:Face),i<k→l[i]?=some f→¬(f.P.toNat∣t∧0<wv w i)
theorem begI.zero {l:List Face} {w:List Int} {t:Nat} (h:w.length=l.length):begI l w t 0 w:=⟨h,fun i=>by rw[if_neg (by omega)],fun i f h=>by omega⟩
theorem begI.keep {l:List Face} {w:List Int} {t k:Nat} {u:List Int} (h:begI l w t k u) (hk:k<l.length) (hn:¬l[k].P.toNat∣t):begI l w t (k+1) u:=by
 have hf:l[k]?=some l[k]:=List.getElem?_eq_getElem hk
 refine⟨h.len,fun i=>?_,fun i f hi hfi=>?_⟩
 ·rw[h.v i]
  by_cases e:i=k
  ·subst e
   rw[if_neg (by omega),if_pos (by omega),begun_at hf,if_neg hn]
  ·by_cases c:i<k
   ·rw[if_pos c,if_pos (by omega)]
   ·rw[if_neg c,if_neg (by omega)]
 ·by_cases e:i=k
  ·subst e; rw[hf] at hfi; cases hfi; exact fun hh=>hn hh.1
  ·exact h.d i f (by omega) hfi
theorem begI.set {l:List Face} {w:List Int} {t k:Nat} {u:List Int} (h:begI l w t k u) (hk:k<l.length) (hn:l[k].P.toNat∣t) (hw:¬0<wv w k):begI l w t (k+1) (u.set k l[k].B):=by
 have hf:l[k]?=some l[k]:=List.getElem?_eq_getElem hk
 have hku:k<u.length:=by rw[h.len]; exact hk
 refine⟨by rw[List.length_set]; exact h.len,fun i=>?_,fun i f hi hfi=>?_⟩
 ·rw[wv_set hku]
  by_cases e:i=k
  ·subst e
   rw[if_pos rfl,if_pos (by omega),begun_at hf,if_pos hn]
  ·rw[if_neg e,h.v i]
   by_cases c:i<k
   ·rw[if_pos c,if_pos (by omega)]
   ·rw[if_neg c,if_neg (by omega)]
 ·by_cases e:i=k
  ·subst e; exact fun hh=>hw hh.2
  ·exact h.d i f (by omega) hfi
theorem begI.at {l:List Face} {w:List Int} {t k:Nat} {u:List Int} (h:begI l w t k u):wv u k=wv w k:=by rw[h.v k,if_neg (by omega)]
theorem begI.end {l:List Face} {w:List Int} {t:Nat} {u:List Int} (h:begI l w t l.length u):u=begun l w t∧¬denyP l w t:=by
 refine⟨eq_of_wv (by rw[h.len,begun_len]) fun i=>?_,?_⟩
 ·rw[h.v i]
  by_cases c:i<l.length
  ·rw[if_pos c]
  ·rw[if_neg c]
   have hb:(begun l w t)[i]?=none:=List.getElem?_eq_none (by rw[begun_len]; omega)
   have hu:=h.v i
   rw[if_neg c] at hu
   have hu2:u[i]?=none:=List.getElem?_eq_none (by rw[h.len]; omega)
   rw[←hu]
   unfold wv
   rw[hb,hu2]
 ·rintro⟨i,f,hf,a,b⟩
  exact h.d i f (List.getElem?_eq_some_iff.1 hf).1 hf ⟨a,b⟩
structure nxI (l:List Face) (u:List Int) (t k:Nat) (out due:Int):Prop where
 n:isNext l u t k out
 d:∀(i:Nat) (f:Face),out=(i:Int)→l[i]?=some f→due=((byV f t:Nat):Int)
theorem nxI.zero {l:List Face} {u:List Int} {t:Nat}:nxI l u t 0 (-1) 0:=⟨.inl ⟨rfl,fun i h=>by omega⟩,fun i f h=>by omega⟩
theorem nxI.keep {l:List Face} {u:List Int} {t k:Nat} {out due:Int} (h:nxI l u t k out due) (hk:k<l.length) (hc:¬(0<wv u k∧(out = -1∨((byV l[k] t:Nat):Int)<due))):nxI l u t (k+1) out due:=by
 have hfk:l[k]?=some l[k]:=List.getElem?_eq_getElem hk
 refine⟨?_,h.d⟩
 rcases h.n with ⟨rfl,a⟩ | ⟨i,f,hi,rfl,hf,hw,a⟩
 ·refine .inl ⟨rfl,fun i hi=>?_⟩
  by_cases e:i=k
  ·subst e; exact Int.not_lt.1 fun hh=>hc ⟨hh,.inl rfl⟩
  ·exact a i (by omega)
 ·refine .inr ⟨i,f,by omega,rfl,hf,hw,fun j g hj hg hwj=>?_⟩
  by_cases e:j=k
  ·subst e
   rw[hfk] at hg; cases hg
   have hd:=h.d i f rfl hf
   have:¬((byV l[j] t:Nat):Int)<due:=fun hh=>hc ⟨hwj,.inr hh⟩
   omega
  ·exact a j g (by omega) hg hwj
theorem nxI.take {l:List Face} {u:List Int} {t k:Nat} {out due:Int} (h:nxI l u t k out due) (hk:k<l.length) (hw:0<wv u k) (hc:out = -1∨((byV l[k] t:Nat):Int)<due):nxI l u t (k+1) (k:Int) ((byV l[k] t:Nat):Int):=by
 have hfk:l[k]?=some l[k]:=List.getElem?_eq_getElem hk
 refine⟨.inr ⟨k,l[k],by omega,rfl,hfk,hw,fun j g hj hg hwj=>?_⟩,fun i f hi hf=>?_⟩
 ·by_cases e:j=k
  ·subst e; rw[hfk] at hg; cases hg; exact .inr ⟨rfl,Nat.le_refl _⟩
  ·rcases h.n with ⟨rfl,a⟩ | ⟨i,f,hi,rfl,hf,hw',a⟩
   ·have:=a j (by omega); omega
   ·have hd:=h.d i f rfl hf
    have hlt:=hc.resolve_left (by omega)
    have:=a j g (by omega) hg hwj
    omega
 ·have:i=k:=by omega
  subst this
  rw[hfk] at hf; cases hf; rfl
theorem synth_Lay_ok (l:List Face) (hl:facesP l) (hF:lcmF 1 l≤240):∃r,synth_Lay l=some r∧resP l (lcmF 1 l) r:=by
 have h4:=hl.2
 have ef:frameV l=(((lcmF 1 l:Nat):Int),0):=by unfold frameV; rw[if_pos hl,if_pos hF]
 unfold synth_Lay
 rw[bnd_eq (synth_Frame_eq l),ef]
 dsimp only
 rw[decide_eq_true rfl,Bool.not_true,fk_f,ck_t (by simp; omega),Int.toNat_natCast]
 generalize lcmF 1 l=F at *
 refine lp_ex (fun v=>F-v.2.2.toNat) (fun v=>∃(t:Nat) (o w:List Int),v=(o,w,(t:Int))∧t≤F∧LayR l t o w) (resP l F) ?_ FU _ ⟨0,[],_,rfl,Nat.zero_le _,LayR.zero⟩ (by unfold FU; simp only; omega)
 rintro nx v ⟨t,o,w,rfl,ht,hL⟩ hnx
 obtain⟨hol,hwl,hwb,_⟩:=hL.ok hl
 dsimp only
 rw[lt_nat]
 by_cases c:t<F
 rotate_left
 ·have e:t=F:=by omega
  subst e
  rw[decide_eq_false c,fk_f]
  refine lp_ex (fun v=>l.length-v.2.toNat) (fun v=>∃(k:Nat) (u:List Int),v=(u,(k:Int))∧k≤l.length∧begI l w t k u) (resP l t) ?_ FU _ ⟨0,w,rfl,Nat.zero_le _,begI.zero hwl⟩ (by unfold FU; simp only; omega)
  rintro nx3 v ⟨k,u,rfl,hk,hJ⟩ hnx3
  dsimp only
  rw[lt_nat]
  by_cases ck':k<l.length
  rotate_left
  ·have e:k=l.length:=by omega
   subst e
   obtain⟨_,hd⟩:=hJ.end
   rw[decide_eq_false ck',fk_f]
   exact⟨_,rfl,.inl ⟨o,w,hL,hd,rfl⟩⟩
  have hfk:l[k]?=some l[k]:=List.getElem?_eq_getElem ck'
  have hp:=(hl.1 _ (List.getElem_mem ck')).P
  have hul:=hJ.len
  have hku:k<u.length:=by omega
  rw[decide_eq_true ck',fk_t,jn_eq,ix_lt ck',ck_t (decide_eq_true (by omega)),tmod_dvd hp.1,wr_succ k _ ck' (by omega)]
  have go:∀u',begI l w t (k+1) u'→∃r,nx3 (u',((k+1:Nat):Int))=some r∧resP l t r:=fun u' h'=>hnx3 _ ⟨k+1,u',rfl,ck',h'⟩ (by simp only[Int.toNat_natCast]; omega)
  by_cases cd:l[k].P.toNat∣t
  rotate_left
  ·rw[decide_eq_false cd,Bool.not_false,fk_t]
   exact go u (hJ.keep ck' cd)
  rw[decide_eq_true cd,Bool.not_true,fk_f,ck_t (by simp; omega),Int.toNat_natCast,ox_lt hku,wv_lt hku,hJ.at]
  by_cases cw:0<wv w k
  ·rw[decide_eq_true (show wv w k>0 from cw),fk_t]
   exact⟨_,rfl,.inr ⟨t,Nat.le_refl _,o,w,hL,⟨k,_,hfk,cd,cw⟩,rfl⟩⟩
  ·rw[decide_eq_false (show ¬wv w k>0 from cw),fk_f,ck_t (by simp; omega),ox_lt hku]
   exact go _ (hJ.set ck' cd cw)
 rw[decide_eq_true c,fk_t]
 refine lp_ex (fun v=>l.length-v.2.toNat) (fun v=>∃(k:Nat) (u:List Int),v=(u,(k:Int))∧k≤l.length∧begI l w t k u) (resP l F) ?_ FU _ ⟨0,w,rfl,Nat.zero_le _,begI.zero hwl⟩ (by unfold FU; simp only; omega)
 rintro nx3 v ⟨k,u,rfl,hk,hJ⟩ hnx3
 dsimp only
 rw[lt_nat]
 by_cases ck':k<l.length
 ·have hfk:l[k]?=some l[k]:=List.getElem?_eq_getElem ck'
  have hp:=(hl.1 _ (List.getElem_mem ck')).P
  have hul:=hJ.len
  have hku:k<u.length:=by omega
  rw[decide_eq_true ck',fk_t,jn_eq,ix_lt ck',ck_t (decide_eq_true (by omega)),tmod_dvd hp.1,wr_succ k _ ck' (by omega)]
  have go:∀u',begI l w t (k+1) u'→∃r,nx3 (u',((k+1:Nat):Int))=some r∧resP l F r:=fun u' h'=>hnx3 _ ⟨k+1,u',rfl,ck',h'⟩ (by simp only[Int.toNat_natCast]; omega)
  by_cases cd:l[k].P.toNat∣t
  rotate_left
  ·rw[decide_eq_false cd,Bool.not_false,fk_t]
   exact go u (hJ.keep ck' cd)
  rw[decide_eq_true cd,Bool.not_true,fk_f,ck_t (by simp; omega),Int.toNat_natCast,ox_lt hku,wv_lt hku,hJ.at]
  by_cases cw:0<wv w k
  ·rw[decide_eq_true (show wv w k>0 from cw),fk_t]
   exact⟨_,rfl,.inr ⟨t,by omega,o,w,hL,⟨k,_,hfk,cd,cw⟩,rfl⟩⟩
  ·rw[decide_eq_false (show ¬wv w k>0 from cw),fk_f,ck_t (by simp; omega),ox_lt hku]
   exact go _ (hJ.set ck' cd cw)
 have e:k=l.length:=by omega
 subst e
 obtain⟨rfl,hd⟩:=hJ.end
 have hbl:=begun_len l w t
 rw[decide_eq_false ck',fk_f]
 refine lp_ex (fun v=>l.length-v.2.2.toNat) (fun v=>∃(k:Nat) (out due:Int),v=(out,due,(k:Int))∧k≤l.length∧nxI l (begun l w t) t k out due) (resP l F) ?_ FU _ ⟨0,-1,0,rfl,Nat.zero_le _,nxI.zero⟩ (by unfold FU; simp only; omega)
 rintro nx8 v ⟨k,out,due,rfl,hk,hN⟩ hnx8
 dsimp only
 rw[lt_nat]
 by_cases cn:k<l.length
 rotate_left
 ·have e:k=l.length:=by omega
  subst e
  have hstep:=LayR.step hL hd hN.n
  have hnext:=hnx (o++[out],dec (begun l w t) out,((t+1:Nat):Int)) ⟨t+1,_,_,rfl,c,hstep⟩ (by simp only[Int.toNat_natCast]; omega)
  obtain⟨hsl,hswl,hswb,_⟩:=hstep.ok hl
  rw[decide_eq_false cn,fk_f]
  have e1:wr ((t:Int)+1)=((t+1:Nat):Int):=wr_succ t _ c (by omega)
  by_cases co:out = -1
  ·rw[decide_eq_true co,Bool.not_true,fk_f,ck_t (by simp; omega),e1]
   unfold dec at hnext
   rw[if_pos co] at hnext
   exact hnext
  ·rcases hN.n with ⟨h,_⟩ | ⟨i,f,hi,rfl,hf,hw,_⟩
   ·exact absurd h co
   have hib:i<(begun l w t).length:=by omega
   have hbw:wv (begun l w t) i≤201:=by
    have h2:=hswb i
    have:wv (dec (begun l w t) (i:Int)) i=wv (begun l w t) i-1:=by
     unfold dec
     rw[if_neg co,Int.toNat_natCast,wv_set hib,if_pos rfl]
    omega
   rw[decide_eq_false co,Bool.not_false,fk_t,ck_t (by simp; omega),Int.toNat_natCast,ox_lt hib,ck_t (by simp; omega),ox_lt hib,ck_t (by simp; omega),e1,wv_lt hib,wr_in _ (by omega)]
   unfold dec at hnext
   rw[if_neg co,Int.toNat_natCast] at hnext
   exact hnext
 have hfk:l[k]?=some l[k]:=List.getElem?_eq_getElem cn
 have hface:=hl.1 _ (List.getElem_mem cn)
 have hp:=hface.P
 have hkb:k<(begun l w t).length:=by omega
 rw[decide_eq_true cn,fk_t,jn_eq,ix_lt cn,ck_t (decide_eq_true (by omega)),jn_eq,by_eq hface t (by omega),wr_succ k _ cn (by omega),ck_t (by simp; omega),Int.toNat_natCast,ox_lt hkb,wv_lt hkb]
 have keep:¬(0<wv (begun l w t) k∧(out = -1∨((byV l[k] t:Nat):Int)<due))→∃r,nx8 (out,due,((k+1:Nat):Int))=some r∧resP l F r:=fun h'=>hnx8 _ ⟨k+1,out,due,rfl,cn,hN.keep cn h'⟩ (by simp only[Int.toNat_natCast]; omega)
 have take:0<wv (begun l w t) k→(out = -1∨((byV l[k] t:Nat):Int)<due)→∃r,nx8 ((k:Int),((byV l[k] t:Nat):Int),((k+1:Nat):Int))=some r∧resP l F r:=fun h1 h2=>hnx8 _ ⟨k+1,_,_,rfl,cn,hN.take cn h1 h2⟩ (by simp only[Int.toNat_natCast]; omega)
 by_cases cw:wv (begun l w t) k>0
 rotate_left
 ·rw[decide_eq_false cw,fk_f]
  exact keep fun h=>cw h.1
 rw[decide_eq_true cw,fk_t]
 by_cases co:out = -1
 ·rw[decide_eq_true co,fk_t]
  exact take cw (.inl co)
 rw[decide_eq_false co,fk_f]
 by_cases cd:((byV l[k] t:Nat):Int)<due
 ·rw[decide_eq_true cd]
  exact take cw (.inr cd)
 ·rw[decide_eq_false cd]
  exact keep fun h=>(h.2.elim co cd)
end Go.Proofs.YtldlcdnhdedoeaaGreat
namespace Go.Proofs.YtldlcdnhdedoeaaGreat
open Go Go.VC
noncomputable def image_Right (a0:Config):Option Bool:=
 lp (fun nx1 (v1:Int)=>fk (decide (v1<(a0.Parts.length:Int))) (ix a0.Parts v1 fun x2=>jn (fun (w3:Bool)=>fk w3 (some false) (nx1 (wr (v1+(1:Int))))) (fun k3=>bnd (supply_Right x2.Face) fun x4=>fk (!x4) (k3 true) (bnd (task_All x2.Tasks) fun x5=>k3 (!x5)))) (lp (fun nx6 (v6:Int)=>fk (decide (v6<(a0.Ports.length:Int))) (ix a0.Ports v6 fun x7=>jn (fun (w8:Bool)=>fk w8 (some false) (nx6 (wr (v6+(1:Int))))) (fun k8=>fk (decide (x7.From≥(a0.Parts.length:Int))) (k8 true) (k8 (decide (x7.To≥(a0.Parts.length:Int)))))) (bnd (port_Open a0.Ports) fun x9=>fk (decide (x9.2=(0:Int))) (some (decide ((a0.Parts.length:Int)≤(4:Int)))) (some false))) FU (0:Int))) FU (0:Int)
theorem image_Right_w (a0:Config) (r:Bool) (h:image_Right a0=some r):Go.VC.Spec Tryz.prog 54 [.agg (Config.enc a0)] (fun y=>y=E_Bool r):=by
 refine Spec.of_xc (fn:=Tryz.f54) tab ⟨[(0,[1]),(1,[1,10,11,12]),(2,[1,10,11,12,13]),(3,[1,4,10,11,12]),(4,[1,10,11,12,25]),(5,[2]),(6,[1,10,11,12]),(7,[1,28,29,30]),(8,[1,28,29,30,31]),(9,[1,6,28,29,30]),(10,[1,28,29,30,47]),(11,[2]),(12,[1,28,29,30]),(13,[1,8]),(14,[2])],[],[100025,100047],[]⟩ 63 [.tmp 2] rfl rfl rfl rfl rfl rfl ?_<;>conv=>whnf
 refine lenS a0.Parts Part.enc rfl ?_<;>conv=>whnf
 refine lpS (fun v1=>⟨[(1,.l (.ptr 2 0)),(10,.l (.d (.sl (a0.Parts.map Part.enc)))),(11,lI (a0.Parts.length:Int)),(12,lI v1)],63,[],[(2,[.d (.sl (a0.Parts.map Part.enc)),.d (.sl (a0.Ports.map Port.enc))])],[]⟩) h wR (fun _ nx1 hn1 v1 h=>?_)<;>conv=>whnf
 refine fkS h (fun h=>?_) (fun h=>?_)<;>conv=>whnf
 ·refine ixS (enc:=Part.enc) h rfl (fun _=>rfl) (fun x2 h=>?_)<;>conv=>whnf
  refine jnS (fun w3=>⟨[(1,.l (.ptr 2 0)),(10,.l (.d (.sl (a0.Parts.map Part.enc)))),(11,lI (a0.Parts.length:Int)),(12,lI v1),(25,lB w3)],63,[],[(2,[.d (.sl (a0.Parts.map Part.enc)),.d (.sl (a0.Ports.map Port.enc))])],[]⟩) h (fun k3 hk3 h=>?_) (fun w3 h=>?_)<;>conv=>whnf
  ·refine caS (E:=E_Bool) h (supply_Right_w x2.Face) rfl (fun _=>rfl) (fun x4 h=>?_)<;>conv=>whnf
   refine fkS h (fun h=>?_) (fun h=>?_)<;>conv=>whnf
   ·exact jeS hk3 h wR
   refine caS (E:=E_Bool) h (task_All_w x2.Tasks) rfl (fun _=>rfl) (fun x5 h=>?_)<;>conv=>whnf
   exact jeS hk3 h wR
  refine fkS h (fun h=>?_) (fun h=>?_)<;>conv=>whnf
  ·exact rt (E:=E_Bool) h rfl
  exact leS hn1 h wR
 refine lenS a0.Ports Port.enc rfl ?_<;>conv=>whnf
 refine lpS (fun v6=>⟨[(1,.l (.ptr 2 0)),(28,.l (.d (.sl (a0.Ports.map Port.enc)))),(29,lI (a0.Ports.length:Int)),(30,lI v6)],63,[],[(2,[.d (.sl (a0.Parts.map Part.enc)),.d (.sl (a0.Ports.map Port.enc))])],[]⟩) h wR (fun _ nx6 hn6 v6 h=>?_)<;>conv=>whnf
 refine fkS h (fun h=>?_) (fun h=>?_)<;>conv=>whnf
 ·refine ixS (enc:=Port.enc) h rfl (fun _=>rfl) (fun x7 h=>?_)<;>conv=>whnf
  refine jnS (fun w8=>⟨[(1,.l (.ptr 2 0)),(28,.l (.d (.sl (a0.Ports.map Port.enc)))),(29,lI (a0.Ports.length:Int)),(30,lI v6),(47,lB w8)],63,[],[(2,[.d (.sl (a0.Parts.map Part.enc)),.d (.sl (a0.Ports.map Port.enc))])],[]⟩) h (fun k8 hk8 h=>?_) (fun w8 h=>?_)<;>conv=>whnf
  ·refine lenS a0.Parts Part.enc rfl ?_<;>conv=>whnf
   refine fkS h (fun h=>?_) (fun h=>?_)<;>conv=>whnf
   ·exact jeS hk8 h wR
   refine lenS a0.Parts Part.enc rfl ?_<;>conv=>whnf
   exact jeS hk8 h wR
  refine fkS h (fun h=>?_) (fun h=>?_)<;>conv=>whnf
  ·exact rt (E:=E_Bool) h rfl
  exact leS hn6 h wR
 refine ccS (E:=E_ListPortLine_Int) h (port_Open_w a0.Ports) rfl rfl (fun x9 h=>?_)<;>conv=>whnf
 refine fkS h (fun h=>?_) (fun h=>?_)<;>conv=>whnf
 ·refine lenS a0.Parts Part.enc rfl ?_<;>conv=>whnf
  exact rt (E:=E_Bool) h rfl
 exact rt (E:=E_Bool) h rfl
end Go.Proofs.YtldlcdnhdedoeaaGreat
namespace Go.Proofs.YtldlcdnhdedoeaaGreat
open Go Go.VC
noncomputable def ref18_May (a0:Port):Option Bool:=
 fk (decide (a0.From≥(0:Int))) (fk (decide (a0.From<(4:Int))) (fk (decide (a0.To≥(0:Int))) (fk (decide (a0.To<(4:Int))) (fk (!decide (a0.To=a0.From)) (fk (decide (a0.Cap>(0:Int))) (some (decide (a0.Cap<(5:Int)))) (some false)) (some false)) (some false)) (some false)) (some false)) (some false)
theorem ref18_May_w (a0:Port) (r:Bool) (h:ref18_May a0=some r):Go.VC.Spec Tryz.prog 155 [.agg (Port.enc a0)] (fun y=>y=E_Bool r):=by
 refine Spec.of_xc (fn:=Tryz.f155) tab ⟨[(0,[1]),(1,[2])],[],[],[]⟩ 38 [.tmp 2] rfl rfl rfl rfl rfl rfl ?_<;>conv=>whnf
 refine fkS h (fun h=>?_) (fun h=>?_)<;>conv=>whnf
 ·refine fkS h (fun h=>?_) (fun h=>?_)<;>conv=>whnf
  ·refine fkS h (fun h=>?_) (fun h=>?_)<;>conv=>whnf
   ·refine fkS h (fun h=>?_) (fun h=>?_)<;>conv=>whnf
    ·refine fkS h (fun h=>?_) (fun h=>?_)<;>conv=>whnf
     ·refine fkS h (fun h=>?_) (fun h=>?_)<;>conv=>whnf
      ·exact rt (E:=E_Bool) h rfl
      exact rt (E:=E_Bool) h rfl
     exact rt (E:=E_Bool) h rfl
    exact rt (E:=E_Bool) h rfl
   exact rt (E:=E_Bool) h rfl
  exact rt (E:=E_Bool) h rfl
 exact rt (E:=E_Bool) h rfl
end Go.Proofs.YtldlcdnhdedoeaaGreat
namespace Go.Proofs.YtldlcdnhdedoeaaGreat
open Go Go.VC
noncomputable def ref18_All (a0:List Port):Option Bool:=
 lp (fun nx1 (v1:Int)=>fk (decide (v1<(a0.length:Int))) (ix a0 v1 fun x2=>bnd (ref18_May x2) fun x3=>fk (!x3) (some false) (nx1 (wr (v1+(1:Int))))) (some (decide ((a0.length:Int)<(5:Int))))) FU (0:Int)
theorem ref18_All_w (a0:List Port) (r:Bool) (h:ref18_All a0=some r):Go.VC.Spec Tryz.prog 115 [.d (.sl (a0.map Port.enc))] (fun y=>y=E_Bool r):=by
 refine Spec.of_xc (fn:=Tryz.f115) tab ⟨[(0,[0]),(1,[0,3]),(2,[0,3,7]),(3,[0,3]),(4,[0,3,15]),(5,[2]),(6,[2])],[],[],[]⟩ 19 [.tmp 2] rfl rfl rfl rfl rfl rfl ?_<;>conv=>whnf
 refine lpS (fun v1=>⟨[(0,.l (.d (.sl (a0.map Port.enc)))),(3,lI v1)],19,[],[],[]⟩) h wR (fun _ nx1 hn1 v1 h=>?_)<;>conv=>whnf
 refine lenS a0 Port.enc rfl ?_<;>conv=>whnf
 refine fkS h (fun h=>?_) (fun h=>?_)<;>conv=>whnf
 ·refine ixS (enc:=Port.enc) h rfl (fun _=>rfl) (fun x2 h=>?_)<;>conv=>whnf
  refine caS (E:=E_Bool) h (ref18_May_w x2) rfl (fun _=>rfl) (fun x3 h=>?_)<;>conv=>whnf
  refine fkS h (fun h=>?_) (fun h=>?_)<;>conv=>whnf
  ·exact rt (E:=E_Bool) h rfl
  exact leS hn1 h wR
 refine lenS a0 Port.enc rfl ?_<;>conv=>whnf
 exact rt (E:=E_Bool) h rfl
end Go.Proofs.YtldlcdnhdedoeaaGreat
namespace Go.Proofs.YtldlcdnhdedoeaaGreat
open Go Go.VC
noncomputable def ref19_Right (a0:Config):Option Bool:=
 jn (fun (w1:Bool)=>fk w1 (some false) (lp (fun nx3 (v3:Int)=>fk (decide (v3<(a0.Parts.length:Int))) (jn (fun (w4:Bool)=>fk w4 (some false) (nx3 (wr (v3+(1:Int))))) (fun k4=>ix a0.Parts v3 fun x5=>bnd (ref09_Right x5.Face) fun x6=>fk (!x6) (k4 true) (ix a0.Parts v3 fun x7=>bnd (ref05_All x7.Tasks) fun x8=>k4 (!x8)))) (lp (fun nx9 (v9:Int)=>fk (decide (v9<(a0.Ports.length:Int))) (jn (fun (w10:Bool)=>fk w10 (some false) (nx9 (wr (v9+(1:Int))))) (fun k10=>ix a0.Ports v9 fun x11=>fk (decide (x11.From≥(a0.Parts.length:Int))) (k10 true) (ix a0.Ports v9 fun x12=>k10 (decide (x12.To≥(a0.Parts.length:Int)))))) (some true)) FU (0:Int))) FU (0:Int))) (fun k1=>fk (decide ((a0.Parts.length:Int)>(4:Int))) (k1 true) (bnd (ref18_All a0.Ports) fun x2=>k1 (!x2)))
theorem ref19_Right_w (a0:Config) (r:Bool) (h:ref19_Right a0=some r):Go.VC.Spec Tryz.prog 57 [.agg (Config.enc a0)] (fun y=>y=E_Bool r):=by
 refine Spec.of_xc (fn:=Tryz.f57) tab ⟨[(0,[1]),(1,[1,14]),(2,[2]),(3,[1,3]),(4,[1,3,19]),(5,[1,3]),(6,[1,3,39]),(7,[2]),(8,[1,4]),(9,[1,4,44]),(10,[1,4]),(11,[1,4,68]),(12,[2]),(13,[2])],[],[100014,100039,100068],[]⟩ 69 [.tmp 2] rfl rfl rfl rfl rfl rfl ?_<;>conv=>whnf
 refine jnS (fun w1=>⟨[(1,.l (.ptr 2 0)),(14,lB w1)],69,[],[(2,[.d (.sl (a0.Parts.map Part.enc)),.d (.sl (a0.Ports.map Port.enc))])],[]⟩) h (fun k1 hk1 h=>?_) (fun w1 h=>?_)<;>conv=>whnf
 ·refine lenS a0.Parts Part.enc rfl ?_<;>conv=>whnf
  refine fkS h (fun h=>?_) (fun h=>?_)<;>conv=>whnf
  ·exact jeS hk1 h wR
  refine caS (E:=E_Bool) h (ref18_All_w a0.Ports) rfl (fun _=>rfl) (fun x2 h=>?_)<;>conv=>whnf
  exact jeS hk1 h wR
 refine fkS h (fun h=>?_) (fun h=>?_)<;>conv=>whnf
 ·exact rt (E:=E_Bool) h rfl
 refine lpS (fun v3=>⟨[(1,.l (.ptr 2 0)),(3,lI v3)],69,[],[(2,[.d (.sl (a0.Parts.map Part.enc)),.d (.sl (a0.Ports.map Port.enc))])],[]⟩) h wR (fun _ nx3 hn3 v3 h=>?_)<;>conv=>whnf
 refine lenS a0.Parts Part.enc rfl ?_<;>conv=>whnf
 refine fkS h (fun h=>?_) (fun h=>?_)<;>conv=>whnf
 ·refine jnS (fun w4=>⟨[(1,.l (.ptr 2 0)),(3,lI v3),(39,lB w4)],69,[],[(2,[.d (.sl (a0.Parts.map Part.enc)),.d (.sl (a0.Ports.map Port.enc))])],[]⟩) h (fun k4 hk4 h=>?_) (fun w4 h=>?_)<;>conv=>whnf
  ·refine ixS (enc:=Part.enc) h rfl (fun _=>rfl) (fun x5 h=>?_)<;>conv=>whnf
   refine caS (E:=E_Bool) h (ref09_Right_w x5.Face) rfl (fun _=>rfl) (fun x6 h=>?_)<;>conv=>whnf
   refine fkS h (fun h=>?_) (fun h=>?_)<;>conv=>whnf
   ·exact jeS hk4 h wR
   refine ixS (enc:=Part.enc) h rfl (fun _=>rfl) (fun x7 h=>?_)<;>conv=>whnf
   refine caS (E:=E_Bool) h (ref05_All_w x7.Tasks) rfl (fun _=>rfl) (fun x8 h=>?_)<;>conv=>whnf
   exact jeS hk4 h wR
  refine fkS h (fun h=>?_) (fun h=>?_)<;>conv=>whnf
  ·exact rt (E:=E_Bool) h rfl
  exact leS hn3 h wR
 refine lpS (fun v9=>⟨[(1,.l (.ptr 2 0)),(4,lI v9)],69,[],[(2,[.d (.sl (a0.Parts.map Part.enc)),.d (.sl (a0.Ports.map Port.enc))])],[]⟩) h wR (fun _ nx9 hn9 v9 h=>?_)<;>conv=>whnf
 refine lenS a0.Ports Port.enc rfl ?_<;>conv=>whnf
 refine fkS h (fun h=>?_) (fun h=>?_)<;>conv=>whnf
 ·refine jnS (fun w10=>⟨[(1,.l (.ptr 2 0)),(4,lI v9),(68,lB w10)],69,[],[(2,[.d (.sl (a0.Parts.map Part.enc)),.d (.sl (a0.Ports.map Port.enc))])],[]⟩) h (fun k10 hk10 h=>?_) (fun w10 h=>?_)<;>conv=>whnf
  ·refine⟨22,?_⟩
   conv=>whnf
   refine ixS (enc:=Port.enc) h rfl (fun _=>rfl) (fun x11 h=>?_)<;>conv=>whnf
   refine lenS a0.Parts Part.enc rfl ?_<;>conv=>whnf
   refine fkS h (fun h=>?_) (fun h=>?_)<;>conv=>whnf
   ·refine drS (by kernel_rfl) ?_<;>conv=>whnf
    exact jeS hk10 h wR
   refine ixS (enc:=Port.enc) h rfl (fun _=>rfl) (fun x12 h=>?_)<;>conv=>whnf
   refine lenS a0.Parts Part.enc rfl ?_<;>conv=>whnf
   refine drS (by kernel_rfl) ?_<;>conv=>whnf
   exact jeS hk10 h wR
  refine fkS h (fun h=>?_) (fun h=>?_)<;>conv=>whnf
  ·exact rt (E:=E_Bool) h rfl
  exact leS hn9 h wR
 exact rt (E:=E_Bool) h rfl
end Go.Proofs.YtldlcdnhdedoeaaGreat
namespace Go.Proofs.YtldlcdnhdedoeaaGreat
open Go Go.VC
noncomputable def table_Make (a0:List Face):Option (TableTable×Int):=
 bnd (synth_Lay a0) fun x1=>fk (!decide (x1.2=(0:Int))) (some (⟨(0:Int),[]⟩,x1.2)) (bnd (table_Of x1.1) fun x2=>some (x2.1,x2.2))
theorem table_Make_w (a0:List Face) (r:TableTable×Int) (h:table_Make a0=some r):Go.VC.Spec Tryz.prog 55 [.d (.sl (a0.map Face.enc))] (fun y=>y=E_TableTable_Int r):=by
 refine Spec.of_xc (fn:=Tryz.f55) tab ⟨[(0,[0,2]),(1,[2,4,5]),(2,[2,4,5,12]),(3,[2,3]),(4,[2,3])],[],[],[]⟩ 19 [.cell 2 30,.tmp 3] rfl rfl rfl rfl rfl rfl ?_<;>conv=>whnf
 refine ccS (E:=E_ListInt_Int) h (synth_Lay_w a0) rfl rfl (fun x1 h=>?_)<;>conv=>whnf
 refine fkS h (fun h=>?_) (fun h=>?_)<;>conv=>whnf
 ·exact rt (E:=E_TableTable_Int) h rfl
 refine ccS (E:=E_TableTable_Int) h (table_Of_w x1.1) rfl rfl (fun x2 h=>?_)<;>conv=>whnf
 exact rt (E:=E_TableTable_Int) h rfl
end Go.Proofs.YtldlcdnhdedoeaaGreat
namespace Go.Proofs.YtldlcdnhdedoeaaGreat
open Go Go.VC
noncomputable def kernel_Boot (a0:Config):Option (KernelState×Int):=
 bnd (image_Right a0) fun x1=>fk (!x1) (some (⟨⟨(0:Int),[]⟩,[],[],[],(0:Int)⟩,(1:Int))) (lp (fun nx2 (v2:(List Face)×Int)=>fk (decide (v2.2<(a0.Parts.length:Int))) (ix a0.Parts v2.2 fun x3=>ck (decide ((v2.1.length+([x3.Face]:List Face).length)*16≤140737488355328)) (nx2 (v2.1++([x3.Face]:List Face),(wr (v2.2+(1:Int)))))) (bnd (table_Make v2.1) fun x4=>fk (!decide (x4.2=(0:Int))) (some (⟨⟨(0:Int),[]⟩,[],[],[],(0:Int)⟩,x4.2)) (lp (fun nx5 (v5:(List PartState)×Int)=>fk (decide (v5.2<(a0.Parts.length:Int))) (ix a0.Parts v5.2 fun x6=>bnd (admit_Boot x6) fun x7=>fk (!decide (x7.2=(0:Int))) (some (⟨⟨(0:Int),[]⟩,[],[],[],(0:Int)⟩,x7.2)) (ck (decide ((v5.1.length+([x7.1]:List PartState).length)*120≤140737488355328)) (nx5 (v5.1++([x7.1]:List PartState),(wr (v5.2+(1:Int))))))) (bnd (port_Open a0.Ports) fun x8=>some (⟨x4.1,v2.1,v5.1,x8.1,(0:Int)⟩,(0:Int)))) FU ([],(0:Int))))) FU ([],(0:Int)))
theorem kernel_Boot_w (a0:Config) (r:KernelState×Int) (h:kernel_Boot a0=some r):Go.VC.Spec Tryz.prog 14 [.agg (Config.enc a0)] (fun y=>y=E_KernelState_Int r):=by
 refine Spec.of_xc (fn:=Tryz.f14) tab ⟨[(0,[1,2]),(1,[1,2,14]),(2,[2,3]),(3,[1,2,4]),(4,[1,2,4]),(5,[1,2,4,17,18,19]),(6,[1,2,4,17,18,19,20]),(7,[1,2,4,7,17,18,19]),(8,[1,2,4,17,18,19]),(9,[1,2,4,17,18,19]),(10,[1,2,4,5]),(11,[1,2,4,5,39]),(12,[2,3]),(13,[1,2,4,43,44,45]),(14,[1,2,4,43,44,45,46]),(15,[1,2,4,9,43,44,45]),(16,[1,2,4,10,11,43,44,45]),(17,[1,2,4,10,11,43,44,45,55]),(18,[2,3]),(19,[1,2,4,43,44,45]),(20,[1,2,4,43,44,45]),(21,[2,4]),(22,[2,3])],[],[],[]⟩ 73 [.cell 2 35,.tmp 3] rfl rfl rfl rfl rfl rfl ?_<;>conv=>whnf
 refine caS (E:=E_Bool) h (image_Right_w a0) rfl (fun _=>rfl) (fun x1 h=>?_)<;>conv=>whnf
 refine fkS h (fun h=>?_) (fun h=>?_)<;>conv=>whnf
 ·exact rt (E:=E_KernelState_Int) h rfl
 refine lenS a0.Parts Part.enc rfl ?_<;>conv=>whnf
 refine lpS (fun v2=>⟨[(1,.l (.ptr 2 0)),(2,.l (.ptr 3 0)),(4,.l (.ptr 5 0)),(17,.l (.d (.sl (a0.Parts.map Part.enc)))),(18,lI (a0.Parts.length:Int)),(19,lI v2.2)],73,[],[(2,[.d (.sl (a0.Parts.map Part.enc)),.d (.sl (a0.Ports.map Port.enc))]),(3,[dI (0:Int),.nil,.nil,.nil,.nil,dI (0:Int)]),(5,[dI (0:Int),.nil,.own 50502,.nil,.nil,dI (0:Int)])],[(50502,55,2,v2.1.map Face.enc)]⟩) h (Weak.trans (Weak.nilBO _ 5 2 50502 55 2 _ rfl rfl) wR) (fun _ nx2 hn2 v2 h=>?_)<;>conv=>whnf
 refine fkS h (fun h=>?_) (fun h=>?_)<;>conv=>whnf
 ·refine ixS (enc:=Part.enc) h rfl (fun _=>rfl) (fun x3 h=>?_)<;>conv=>whnf
  refine liS ([x3.Face]:List Face) Face.enc rfl rfl ?_<;>conv=>whnf
  refine apS (enc:=Face.enc) (l1:=v2.1) (l2:=([x3.Face]:List Face)) h rfl rfl (fun _=>rfl) (fun h=>?_)<;>conv=>whnf
  refine leX hn2 h ?_<;>conv=>whnf
  refine WkF.step (Weak.rekey _ 29 50502 rfl) ?_<;>conv=>whnf
  exact WkF.refl _
 refine iceS 50502 ?_<;>conv=>whnf
 refine ccS (E:=E_TableTable_Int) h (table_Make_w v2.1) rfl rfl (fun x4 h=>?_)<;>conv=>whnf
 refine fkS h (fun h=>?_) (fun h=>?_)<;>conv=>whnf
 ·exact rt (E:=E_KernelState_Int) h rfl
 refine lenS a0.Parts Part.enc rfl ?_<;>conv=>whnf
 refine lpS (fun v5=>⟨[(1,.l (.ptr 2 0)),(2,.l (.ptr 3 0)),(4,.l (.ptr 5 0)),(43,.l (.d (.sl (a0.Parts.map Part.enc)))),(44,lI (a0.Parts.length:Int)),(45,lI v5.2)],73,[],[(2,[.d (.sl (a0.Parts.map Part.enc)),.d (.sl (a0.Ports.map Port.enc))]),(3,[dI (0:Int),.nil,.nil,.nil,.nil,dI (0:Int)]),(5,[dI x4.1.Frame,.d (.sl (x4.1.Windows.map Window.enc)),.d (.sl (v2.1.map Face.enc)),.own 50503,.nil,dI (0:Int)])],[(50503,51,5,v5.1.map PartState.enc)]⟩) h (Weak.trans (Weak.nilBO _ 5 3 50503 51 5 _ rfl rfl) wR) (fun _ nx5 hn5 v5 h=>?_)<;>conv=>whnf
 refine fkS h (fun h=>?_) (fun h=>?_)<;>conv=>whnf
 ·refine ixS (enc:=Part.enc) h rfl (fun _=>rfl) (fun x6 h=>?_)<;>conv=>whnf
  refine ccS (E:=E_PartState_Int) h (admit_Boot_w x6) rfl rfl (fun x7 h=>?_)<;>conv=>whnf
  refine fkS h (fun h=>?_) (fun h=>?_)<;>conv=>whnf
  ·exact rt (E:=E_KernelState_Int) h rfl
  refine liS ([x7.1]:List PartState) PartState.enc rfl rfl ?_<;>conv=>whnf
  refine apS (enc:=PartState.enc) (l1:=v5.1) (l2:=([x7.1]:List PartState)) h rfl rfl (fun _=>rfl) (fun h=>?_)<;>conv=>whnf
  refine leX hn5 h ?_<;>conv=>whnf
  refine WkF.step (Weak.rekey _ 63 50503 rfl) ?_<;>conv=>whnf
  exact WkF.refl _
 refine ccS (E:=E_ListPortLine_Int) h (port_Open_w a0.Ports) rfl rfl (fun x8 h=>?_)<;>conv=>whnf
 exact rt (E:=E_KernelState_Int) h rfl
end Go.Proofs.YtldlcdnhdedoeaaGreat
namespace Go.Proofs.YtldlcdnhdedoeaaGreat
open Go Go.VC
noncomputable def law19_Great (a0:Config):Option Bool:=
 lp (fun nx1 (v1:Int)=>fk (decide (v1<(a0.Parts.length:Int))) (ix a0.Parts v1 fun x2=>bnd (law05_Great x2.Tasks) fun x3=>fk x3 (some true) (nx1 (wr (v1+(1:Int))))) (fk (decide ((a0.Parts.length:Int)>(20:Int))) (some true) (some (decide ((a0.Ports.length:Int)>(20:Int)))))) FU (0:Int)
theorem law19_Great_w (a0:Config) (r:Bool) (h:law19_Great a0=some r):Go.VC.Spec Tryz.prog 49 [.agg (Config.enc a0)] (fun y=>y=E_Bool r):=by
 refine Spec.of_xc (fn:=Tryz.f49) tab ⟨[(0,[1]),(1,[1,3]),(2,[1,3,8]),(3,[1,3]),(4,[1,3,17]),(5,[2]),(6,[2])],[],[],[]⟩ 28 [.tmp 2] rfl rfl rfl rfl rfl rfl ?_<;>conv=>whnf
 refine lpS (fun v1=>⟨[(1,.l (.ptr 2 0)),(3,lI v1)],28,[],[(2,[.d (.sl (a0.Parts.map Part.enc)),.d (.sl (a0.Ports.map Port.enc))])],[]⟩) h wR (fun _ nx1 hn1 v1 h=>?_)<;>conv=>whnf
 refine lenS a0.Parts Part.enc rfl ?_<;>conv=>whnf
 refine fkS h (fun h=>?_) (fun h=>?_)<;>conv=>whnf
 ·refine ixS (enc:=Part.enc) h rfl (fun _=>rfl) (fun x2 h=>?_)<;>conv=>whnf
  refine caS (E:=E_Bool) h (law05_Great_w x2.Tasks) rfl (fun _=>rfl) (fun x3 h=>?_)<;>conv=>whnf
  refine fkS h (fun h=>?_) (fun h=>?_)<;>conv=>whnf
  ·exact rt (E:=E_Bool) h rfl
  exact leS hn1 h wR
 refine lenS a0.Parts Part.enc rfl ?_<;>conv=>whnf
 refine fkS h (fun h=>?_) (fun h=>?_)<;>conv=>whnf
 ·exact rt (E:=E_Bool) h rfl
 refine lenS a0.Ports Port.enc rfl ?_<;>conv=>whnf
 exact rt (E:=E_Bool) h rfl
end Go.Proofs.YtldlcdnhdedoeaaGreat
namespace Go.Proofs.YtldlcdnhdedoeaaGreat
open Go Go.VC
noncomputable def law21_Great (a0:Config):Option Bool:=
 bnd (law19_Great a0) fun x1=>fk x1 (some true) (lp (fun nx2 (v2:Int)=>fk (decide (v2<(a0.Parts.length:Int))) (ix a0.Parts v2 fun x3=>ix a0.Parts v2 fun x4=>bnd (ref10_Cycle x3.Tasks x4.Face) fun x5=>fk (decide (x5.2.1>(200:Int))) (some true) (nx2 (wr (v2+(1:Int))))) (some false)) FU (0:Int))
theorem law21_Great_w (a0:Config) (r:Bool) (h:law21_Great a0=some r):Go.VC.Spec Tryz.prog 12 [.agg (Config.enc a0)] (fun y=>y=E_Bool r):=by
 refine Spec.of_xc (fn:=Tryz.f12) tab ⟨[(0,[1]),(1,[1,8]),(2,[2]),(3,[1,3]),(4,[1,3,13]),(5,[1,3]),(6,[1,3,5]),(7,[1,3,34]),(8,[2]),(9,[2])],[],[],[]⟩ 35 [.tmp 2] rfl rfl rfl rfl rfl rfl ?_<;>conv=>whnf
 refine caS (E:=E_Bool) h (law19_Great_w a0) rfl (fun _=>rfl) (fun x1 h=>?_)<;>conv=>whnf
 refine fkS h (fun h=>?_) (fun h=>?_)<;>conv=>whnf
 ·exact rt (E:=E_Bool) h rfl
 refine lpS (fun v2=>⟨[(1,.l (.ptr 2 0)),(3,lI v2)],35,[],[(2,[.d (.sl (a0.Parts.map Part.enc)),.d (.sl (a0.Ports.map Port.enc))])],[]⟩) h wR (fun _ nx2 hn2 v2 h=>?_)<;>conv=>whnf
 refine lenS a0.Parts Part.enc rfl ?_<;>conv=>whnf
 refine fkS h (fun h=>?_) (fun h=>?_)<;>conv=>whnf
 ·refine⟨19,?_⟩
  conv=>whnf
  refine ixS (enc:=Part.enc) h rfl (fun _=>rfl) (fun x3 h=>?_)<;>conv=>whnf
  refine ixS (enc:=Part.enc) h rfl (fun _=>rfl) (fun x4 h=>?_)<;>conv=>whnf
  refine daS (E:=E_Int_Int_Int) h (ref10_Cycle_w x3.Tasks x4.Face) (fun _=>rfl) (fun x5 h=>?_)<;>conv=>whnf
  refine drS (by kernel_rfl) ?_<;>conv=>whnf
  refine fkS h (fun h=>?_) (fun h=>?_)<;>conv=>whnf
  ·exact rt (E:=E_Bool) h rfl
  exact leS hn2 h wR
 exact rt (E:=E_Bool) h rfl
end Go.Proofs.YtldlcdnhdedoeaaGreat
namespace Go.Proofs.YtldlcdnhdedoeaaGreat
open Go Go.VC
def portIn (n:Int) (p:Port):Prop:=p.From<n∧p.To<n
structure confP (c:Config):Prop where
 ps:∀p∈c.Parts,faceP p.Face∧AllP p.Tasks
 pl:c.Parts.length≤4
 qs:∀p∈c.Ports,portP p
 qi:∀p∈c.Ports,portIn (c.Parts.length:Int) p
 ql:c.Ports.length≤4
noncomputable instance (c:Config):Decidable (confP c):=Classical.propDecidable _
structure confB (c:Config):Prop where
 p:c.Parts.length≤4611686018427387904
 q:c.Ports.length≤1000
 t:∀p∈c.Parts,p.Tasks.length≤4611686018427387904∧∀t∈p.Tasks,t.Secs.length≤4611686018427387904
theorem mem_take_succ {α:Type} {l:List α} {k:Nat} (h:k<l.length) {x:α} (hx:x∈l.take (k+1)):x∈l.take k∨x=l[k]:=by
 rw[←List.take_append_getElem h] at hx
 rcases List.mem_append.1 hx with h | h
 ·exact .inl h
 ·exact .inr (List.mem_singleton.1 h)
theorem image_Right_eq (c:Config) (hb:confB c):image_Right c=some (decide (confP c)):=by
 unfold image_Right
 refine lp_up c.Parts.length (by unfold FU; have:=hb.p; omega) (fun k=>∀p∈c.Parts.take k,faceP p.Face∧AllP p.Tasks) (fun p h=>by simp at h) ?_
 intro nx k hk J hnx
 rw[lt_nat]
 by_cases hk':k<c.Parts.length
 ·have hm:=List.getElem_mem hk'
  rw[decide_eq_true hk',fk_t,ix_lt hk',wr_succ k _ hk' hb.p]
  by_cases hh:faceP c.Parts[k].Face∧AllP c.Parts[k].Tasks
  ·refine jn_to false (fun k3=>?_) ?_
   ·rw[bnd_eq (supply_Right_eq _),decide_eq_true hh.1,Bool.not_true,fk_f,bnd_eq (task_All_eq _ (hb.t _ hm).1),decide_eq_true hh.2]; rfl
   ·rw[fk_f]
    refine hnx hk' fun p hp=>?_
    rcases mem_take_succ hk' hp with h | rfl
    ·exact J p h
    ·exact hh
  ·refine jn_to true (fun k3=>?_) ?_
   ·rw[bnd_eq (supply_Right_eq _)]
    by_cases h1:faceP c.Parts[k].Face
    ·rw[decide_eq_true h1,Bool.not_true,fk_f,bnd_eq (task_All_eq _ (hb.t _ hm).1),decide_eq_false (fun h2=>hh ⟨h1,h2⟩)]; rfl
    ·rw[decide_eq_false h1,Bool.not_false,fk_t]
   ·rw[fk_t,decide_eq_false (fun h:confP c=>hh (h.ps _ hm))]
 rw[List.take_of_length_le (by omega)] at J
 rw[decide_eq_false hk',fk_f]
 clear hnx nx hk hk' k
 refine lp_up c.Ports.length (by unfold FU; have:=hb.q; omega) (fun k=>∀p∈c.Ports.take k,portIn (c.Parts.length:Int) p) (fun p h=>by simp at h) ?_
 intro nx k hk J2 hnx
 rw[lt_nat]
 by_cases hk':k<c.Ports.length
 ·have hm:=List.getElem_mem hk'
  rw[decide_eq_true hk',fk_t,ix_lt hk',wr_succ k _ hk' (by have:=hb.q; omega)]
  by_cases hh:portIn (c.Parts.length:Int) c.Ports[k]
  ·refine jn_to false (fun k3=>?_) ?_
   ·unfold portIn at hh
    rw[decide_eq_false (by omega),fk_f,decide_eq_false (by omega)]
   ·rw[fk_f]
    refine hnx hk' fun p hp=>?_
    rcases mem_take_succ hk' hp with h | rfl
    ·exact J2 p h
    ·exact hh
  ·refine jn_to true (fun k3=>?_) ?_
   ·unfold portIn at hh
    by_cases h1:c.Ports[k].From≥(c.Parts.length:Int)
    ·rw[decide_eq_true h1,fk_t]
    ·rw[decide_eq_false h1,fk_f,decide_eq_true (show c.Ports[k].To≥(c.Parts.length:Int) from Int.not_lt.1 fun h2=>hh ⟨by omega,h2⟩)]
   ·rw[fk_t,decide_eq_false (fun h:confP c=>hh (h.qi _ hm))]
 rw[List.take_of_length_le (by omega)] at J2
 rw[decide_eq_false hk',fk_f,bnd_eq (port_Open_eq _ hb.q)]
 by_cases ho:(∀p∈c.Ports,portP p)∧c.Ports.length≤4
 ·rw[if_pos ho,decide_eq_true rfl,fk_t]
  exact dec_iff ⟨fun h=>⟨J,by omega,ho.1,J2,ho.2⟩,fun h=>by have:=h.pl; omega⟩
 ·rw[if_neg ho]
  show fk (decide ((1:Int)=0)) _ _=_
  rw[decide_eq_false (by decide),fk_f]
  exact dec_f fun h=>ho ⟨h.qs,h.ql⟩
theorem ref18_May_eq (p:Port):ref18_May p=some (decide (portP p)):=by
 unfold ref18_May portP
 by_cases h1:p.From≥0
 rotate_left
 ·rw[decide_eq_false h1,fk_f]; exact dec_f fun a=>h1 a.1
 rw[decide_eq_true h1,fk_t]
 by_cases h2:p.From<4
 rotate_left
 ·rw[decide_eq_false h2,fk_f]; exact dec_f fun a=>h2 a.2.1
 rw[decide_eq_true h2,fk_t]
 by_cases h3:p.To≥0
 rotate_left
 ·rw[decide_eq_false h3,fk_f]; exact dec_f fun a=>h3 a.2.2.1
 rw[decide_eq_true h3,fk_t]
 by_cases h4:p.To<4
 rotate_left
 ·rw[decide_eq_false h4,fk_f]; exact dec_f fun a=>h4 a.2.2.2.1
 rw[decide_eq_true h4,fk_t]
 by_cases h5:p.To=p.From
 ·rw[decide_eq_true h5,Bool.not_true,fk_f]; exact dec_f fun a=>a.2.2.2.2.1 h5.symm
 rw[decide_eq_false h5,Bool.not_false,fk_t]
 by_cases h6:p.Cap>0
 rotate_left
 ·rw[decide_eq_false h6,fk_f]; exact dec_f fun a=>h6 (by have:=a.2.2.2.2.2.1; omega)
 rw[decide_eq_true h6,fk_t]
 exact dec_iff ⟨fun a=>⟨h1,h2,h3,h4,fun e=>h5 e.symm,by omega,by omega⟩,fun a=>by omega⟩
theorem ref18_All_eq (l:List Port) (hl:l.length≤1000):ref18_All l=some (decide ((∀p∈l,portP p)∧l.length≤4)):=by
 unfold ref18_All
 refine lp_up l.length (by unfold FU; omega) (fun k=>∀p∈l.take k,portP p) (fun p h=>by simp at h) ?_
 intro nx k hk J hnx
 rw[lt_nat]
 by_cases hk':k<l.length
 ·rw[decide_eq_true hk',fk_t,ix_lt hk',bnd_eq (ref18_May_eq _),wr_succ k _ hk' (by omega)]
  by_cases hh:portP l[k]
  ·rw[decide_eq_true hh,Bool.not_true,fk_f]
   refine hnx hk' fun p hp=>?_
   rcases mem_take_succ hk' hp with h | rfl
   ·exact J p h
   ·exact hh
  ·rw[decide_eq_false hh,Bool.not_false,fk_t]
   exact dec_f fun h=>hh (h.1 _ (List.getElem_mem hk'))
 ·rw[List.take_of_length_le (by omega)] at J
  rw[decide_eq_false hk',fk_f]
  exact dec_iff ⟨fun h=>⟨J,by omega⟩,fun h=>by have:=h.2; omega⟩
theorem ref19_Right_eq (c:Config) (hb:confB c):ref19_Right c=some (decide (confP c)):=by
 unfold ref19_Right
 by_cases h0:c.Parts.length≤4∧(∀p∈c.Ports,portP p)∧c.Ports.length≤4
 rotate_left
 ·refine jn_to true (fun k=>?_) (by rw[fk_t]; exact dec_f fun h=>h0 ⟨h.pl,h.qs,h.ql⟩)
  by_cases h1:c.Parts.length≤4
  ·rw[decide_eq_false (by omega),fk_f,bnd_eq (ref18_All_eq _ hb.q),decide_eq_false (fun h=>h0 ⟨h1,h⟩)]; rfl
  ·rw[decide_eq_true (by omega),fk_t]
 obtain⟨h1,h2,h3⟩:=h0
 refine jn_to false (fun k=>by rw[decide_eq_false (by omega),fk_f,bnd_eq (ref18_All_eq _ hb.q),decide_eq_true ⟨h2,h3⟩]; rfl) ?_
 rw[fk_f]
 refine lp_up c.Parts.length (by unfold FU; omega) (fun k=>∀p∈c.Parts.take k,faceP p.Face∧AllP p.Tasks) (fun p h=>by simp at h) ?_
 intro nx k hk J hnx
 rw[lt_nat]
 by_cases hk':k<c.Parts.length
 ·have hm:=List.getElem_mem hk'
  rw[decide_eq_true hk',fk_t,wr_succ k _ hk' (by omega)]
  by_cases hh:faceP c.Parts[k].Face∧AllP c.Parts[k].Tasks
  ·refine jn_to false (fun k3=>?_) ?_
   ·rw[ix_lt hk',bnd_eq (ref09_Right_eq _),decide_eq_true hh.1,Bool.not_true,fk_f,ix_lt hk',bnd_eq (ref05_All_eq _ (hb.t _ hm).1 (hb.t _ hm).2),decide_eq_true hh.2]; rfl
   ·rw[fk_f]
    refine hnx hk' fun p hp=>?_
    rcases mem_take_succ hk' hp with h | rfl
    ·exact J p h
    ·exact hh
  ·refine jn_to true (fun k3=>?_) ?_
   ·rw[ix_lt hk',bnd_eq (ref09_Right_eq _)]
    by_cases g1:faceP c.Parts[k].Face
    ·rw[decide_eq_true g1,Bool.not_true,fk_f,ix_lt hk',bnd_eq (ref05_All_eq _ (hb.t _ hm).1 (hb.t _ hm).2),decide_eq_false (fun g2=>hh ⟨g1,g2⟩)]; rfl
    ·rw[decide_eq_false g1,Bool.not_false,fk_t]
   ·rw[fk_t,decide_eq_false (fun h:confP c=>hh (h.ps _ hm))]
 rw[List.take_of_length_le (by omega)] at J
 rw[decide_eq_false hk',fk_f]
 clear hnx nx hk hk' k
 refine lp_up c.Ports.length (by unfold FU; omega) (fun k=>∀p∈c.Ports.take k,portIn (c.Parts.length:Int) p) (fun p h=>by simp at h) ?_
 intro nx k hk J2 hnx
 rw[lt_nat]
 by_cases hk':k<c.Ports.length
 ·have hm:=List.getElem_mem hk'
  rw[decide_eq_true hk',fk_t,wr_succ k _ hk' (by omega)]
  by_cases hh:portIn (c.Parts.length:Int) c.Ports[k]
  ·refine jn_to false (fun k3=>?_) ?_
   ·unfold portIn at hh
    rw[ix_lt hk',decide_eq_false (by omega),fk_f,ix_lt hk',decide_eq_false (by omega)]
   ·rw[fk_f]
    refine hnx hk' fun p hp=>?_
    rcases mem_take_succ hk' hp with h | rfl
    ·exact J2 p h
    ·exact hh
  ·refine jn_to true (fun k3=>?_) ?_
   ·unfold portIn at hh
    rw[ix_lt hk']
    by_cases g1:c.Ports[k].From≥(c.Parts.length:Int)
    ·rw[decide_eq_true g1,fk_t]
    ·rw[decide_eq_false g1,fk_f,ix_lt hk',decide_eq_true (show c.Ports[k].To≥(c.Parts.length:Int) from Int.not_lt.1 fun g2=>hh ⟨by omega,g2⟩)]
   ·rw[fk_t,decide_eq_false (fun h:confP c=>hh (h.qi _ hm))]
 ·rw[List.take_of_length_le (by omega)] at J2
  rw[decide_eq_false hk',fk_f]
  exact dec_t ⟨J,h1,h2,J2,h3⟩
def zeroK:KernelState:=⟨⟨0,[]⟩,[],[],[],0⟩
structure booted (c:Config) (s:KernelState) (ticks:List Int):Prop where
 conf:confP c
 faces:s.Faces=c.Parts.map (·.Face)
 parts:s.Parts=c.Parts.map fun p=>new0 p.Tasks
 lines:s.Lines=c.Ports.map newL
 now:s.Now=0
 tab:tabP s.Table
 len:s.Table.Frame=(ticks.length:Int)
 at':∀(x:Nat) (y:Int),ticks[x]?=some y→whoV s.Table.Windows (x:Int)=y
theorem great_ex (c:Config) (hp:c.Parts.length≤4611686018427387904) (ht:∀p∈c.Parts,p.Tasks.length≤4611686018427387904∧∀t∈p.Tasks,t.Secs.length≤4611686018427387904):∃b,law21_Great c=some b∧(b=false→c.Parts.length≤20∧c.Ports.length≤20):=by
 have h19:∃b,law19_Great c=some b∧(b=false→c.Parts.length≤20∧c.Ports.length≤20):=by
  unfold law19_Great
  refine lp_up_ex c.Parts.length (by unfold FU; omega) (fun _=>True) (fun b=>b=false→c.Parts.length≤20∧c.Ports.length≤20) trivial ?_
  intro nx k hk _ hnx
  rw[lt_nat]
  by_cases hk':k<c.Parts.length
  ·rw[decide_eq_true hk',fk_t,ix_lt hk',bnd_eq (law05_Great_eq _ (ht _ (List.getElem_mem hk')).1),wr_succ k _ hk' hp]
   by_cases hg:GreatP c.Parts[k].Tasks
   ·rw[decide_eq_true hg,fk_t]; exact⟨true,rfl,fun h=>by cases h⟩
   ·rw[decide_eq_false hg,fk_f]; exact hnx hk' trivial
  ·rw[decide_eq_false hk',fk_f]
   by_cases h1:(c.Parts.length:Int)>20
   ·rw[decide_eq_true h1,fk_t]; exact⟨true,rfl,fun h=>by cases h⟩
   ·rw[decide_eq_false h1,fk_f]
    exact⟨_,rfl,fun h=>by rw[decide_eq_false_iff_not] at h; omega⟩
 obtain⟨b,e,hb⟩:=h19
 unfold law21_Great
 rw[bnd_eq e]
 cases b with
 | true=>rw[fk_t]; exact⟨true,rfl,fun h=>by cases h⟩
 | false=>
 rw[fk_f]
 refine lp_up_ex c.Parts.length (by unfold FU; omega) (fun _=>True) (fun b=>b=false→c.Parts.length≤20∧c.Ports.length≤20) trivial ?_
 intro nx k hk _ hnx
 rw[lt_nat]
 by_cases hk':k<c.Parts.length
 ·have hm:=ht _ (List.getElem_mem hk')
  rw[decide_eq_true hk',fk_t,ix_lt hk',ix_lt hk',bnd_eq (ref10_Cycle_eq _ _ hm.1 hm.2),wr_succ k _ hk' hp]
  by_cases hg:(cycV c.Parts[k].Tasks c.Parts[k].Face).2.1>200
  ·rw[decide_eq_true hg,fk_t]; exact⟨true,rfl,fun h=>by cases h⟩
  ·rw[decide_eq_false hg,fk_f]; exact hnx hk' trivial
 ·rw[decide_eq_false hk',fk_f]; exact⟨false,rfl,fun _=>hb rfl⟩
end Go.Proofs.YtldlcdnhdedoeaaGreat
namespace Go.Proofs.YtldlcdnhdedoeaaGreat
open Go Go.VC
noncomputable def admit_Drop (a0:PartState) (a1:Int):Option (PartState×Int):=
 bnd (part_Leave a0 a1) fun x1=>some (x1.1,x1.2)
theorem admit_Drop_w (a0:PartState) (a1:Int) (r:PartState×Int) (h:admit_Drop a0 a1=some r):Go.VC.Spec Tryz.prog 32 [.agg (PartState.enc a0),.d (.int .i64 a1)] (fun y=>y=E_PartState_Int r):=by
 refine Spec.of_xc (fn:=Tryz.f32) tab ⟨[(0,[1,2,4]),(1,[4,5])],[],[],[]⟩ 11 [.cell 4 51,.tmp 5] rfl rfl rfl rfl rfl rfl ?_<;>conv=>whnf
 refine ccS (E:=E_PartState_Int) h (part_Leave_w a0 a1) rfl rfl (fun x1 h=>?_)<;>conv=>whnf
 exact rt (E:=E_PartState_Int) h rfl
end Go.Proofs.YtldlcdnhdedoeaaGreat
namespace Go.Proofs.YtldlcdnhdedoeaaGreat
open Go Go.VC
noncomputable def admit_Change (a0:PartState) (a1:Face) (a2:Int) (a3:Task):Option (PartState×Int):=
 bnd (admit_Drop a0 a2) fun x1=>fk (!decide (x1.2=(0:Int))) (some (a0,x1.2)) (bnd (admit_Add x1.1 a1 a3) fun x2=>fk (!decide (x2.2=(0:Int))) (some (a0,x2.2)) (some (x2.1,(0:Int))))
theorem admit_Change_w (a0:PartState) (a1:Face) (a2:Int) (a3:Task) (r:PartState×Int) (h:admit_Change a0 a1 a2 a3=some r):Go.VC.Spec Tryz.prog 33 [.agg (PartState.enc a0),.agg (Face.enc a1),.d (.int .i64 a2),.agg (Task.enc a3)] (fun y=>y=E_PartState_Int r):=by
 refine Spec.of_xc (fn:=Tryz.f33) tab ⟨[(0,[2,4,5,7,8]),(1,[4,5,7,8,10,11]),(2,[4,5,7,8,10,11,19]),(3,[8,9]),(4,[4,8,10,11]),(5,[4,8,10,11,30]),(6,[8,9]),(7,[8,9])],[],[],[]⟩ 34 [.cell 8 51,.tmp 9] rfl rfl rfl rfl rfl rfl ?_<;>conv=>whnf
 refine ccS (E:=E_PartState_Int) h (admit_Drop_w a0 a2) rfl rfl (fun x1 h=>?_)<;>conv=>whnf
 refine fkS h (fun h=>?_) (fun h=>?_)<;>conv=>whnf
 ·exact rt (E:=E_PartState_Int) h rfl
 refine ccS (E:=E_PartState_Int) h (admit_Add_w x1.1 a1 a3) rfl rfl (fun x2 h=>?_)<;>conv=>whnf
 refine fkS h (fun h=>?_) (fun h=>?_)<;>conv=>whnf
 ·exact rt (E:=E_PartState_Int) h rfl
 exact rt (E:=E_PartState_Int) h rfl
end Go.Proofs.YtldlcdnhdedoeaaGreat
namespace Go.Proofs.YtldlcdnhdedoeaaGreat
open Go Go.VC
noncomputable def kernel_Right (a0:KernelState):Option Bool:=
 lp (fun nx1 (v1:Int)=>fk (decide (v1<(a0.Parts.length:Int))) (ix a0.Parts v1 fun x2=>bnd (part_Right x2) fun x3=>fk (!x3) (some false) (nx1 (wr (v1+(1:Int))))) (bnd (table_Right a0.Table) fun x4=>fk x4 (fk (decide ((a0.Faces.length:Int)=(a0.Parts.length:Int))) (fk (decide ((a0.Parts.length:Int)≤(4:Int))) (bnd (port_Right a0.Lines) fun x5=>fk x5 (fk (decide (a0.Now≥(0:Int))) (some (decide (a0.Now≤(4611686018427387703:Int)))) (some false)) (some false)) (some false)) (some false)) (some false))) FU (0:Int)
theorem kernel_Right_w (a0:KernelState) (r:Bool) (h:kernel_Right a0=some r):Go.VC.Spec Tryz.prog 17 [.agg (KernelState.enc a0)] (fun y=>y=E_Bool r):=by
 refine Spec.of_xc (fn:=Tryz.f17) tab ⟨[(0,[1]),(1,[1,6,7,8]),(2,[1,6,7,8,9]),(3,[1,4,6,7,8]),(4,[1,6,7,8,14]),(5,[2]),(6,[1,6,7,8]),(7,[2])],[],[],[]⟩ 49 [.tmp 2] rfl rfl rfl rfl rfl rfl ?_<;>conv=>whnf
 refine lenS a0.Parts PartState.enc rfl ?_<;>conv=>whnf
 refine lpS (fun v1=>⟨[(1,.l (.ptr 2 0)),(6,.l (.d (.sl (a0.Parts.map PartState.enc)))),(7,lI (a0.Parts.length:Int)),(8,lI v1)],49,[],[(2,[dI a0.Table.Frame,.d (.sl (a0.Table.Windows.map Window.enc)),.d (.sl (a0.Faces.map Face.enc)),.d (.sl (a0.Parts.map PartState.enc)),.d (.sl (a0.Lines.map PortLine.enc)),dI a0.Now])],[]⟩) h wR (fun _ nx1 hn1 v1 h=>?_)<;>conv=>whnf
 refine fkS h (fun h=>?_) (fun h=>?_)<;>conv=>whnf
 ·refine ixS (enc:=PartState.enc) h rfl (fun _=>rfl) (fun x2 h=>?_)<;>conv=>whnf
  refine caS (E:=E_Bool) h (part_Right_w x2) rfl (fun _=>rfl) (fun x3 h=>?_)<;>conv=>whnf
  refine fkS h (fun h=>?_) (fun h=>?_)<;>conv=>whnf
  ·exact rt (E:=E_Bool) h rfl
  exact leS hn1 h wR
 refine caS (E:=E_Bool) h (table_Right_w a0.Table) rfl (fun _=>rfl) (fun x4 h=>?_)<;>conv=>whnf
 refine fkS h (fun h=>?_) (fun h=>?_)<;>conv=>whnf
 ·refine lenS a0.Faces Face.enc rfl ?_<;>conv=>whnf
  refine lenS a0.Parts PartState.enc rfl ?_<;>conv=>whnf
  refine fkS h (fun h=>?_) (fun h=>?_)<;>conv=>whnf
  ·refine lenS a0.Parts PartState.enc rfl ?_<;>conv=>whnf
   refine fkS h (fun h=>?_) (fun h=>?_)<;>conv=>whnf
   ·refine caS (E:=E_Bool) h (port_Right_w a0.Lines) rfl (fun _=>rfl) (fun x5 h=>?_)<;>conv=>whnf
    refine fkS h (fun h=>?_) (fun h=>?_)<;>conv=>whnf
    ·refine fkS h (fun h=>?_) (fun h=>?_)<;>conv=>whnf
     ·exact rt (E:=E_Bool) h rfl
     exact rt (E:=E_Bool) h rfl
    exact rt (E:=E_Bool) h rfl
   exact rt (E:=E_Bool) h rfl
  exact rt (E:=E_Bool) h rfl
 exact rt (E:=E_Bool) h rfl
end Go.Proofs.YtldlcdnhdedoeaaGreat
namespace Go.Proofs.YtldlcdnhdedoeaaGreat
open Go Go.VC
noncomputable def kernel_State_with (a0:KernelState) (a1:Int) (a2:PartState):Option KernelState:=
 ck (decide ((([]:List PartState).length+a0.Parts.length)*120≤140737488355328)) (ck (decide (0≤a1) && decide (a1<((([]:List PartState)++a0.Parts).length:Int))) (ox (([]:List PartState)++a0.Parts) a1.toNat fun x1=>some ⟨a0.Table,a0.Faces,(([]:List PartState)++a0.Parts).set a1.toNat a2,a0.Lines,a0.Now⟩))
theorem kernel_State_with_w (a0:KernelState) (a1:Int) (a2:PartState) (r:KernelState) (h:kernel_State_with a0 a1 a2=some r):Go.VC.Spec Tryz.prog 90 [.agg (KernelState.enc a0),.d (.int .i64 a1),.agg (PartState.enc a2)] (fun y=>y=E_KernelState r):=by
 refine Spec.of_xc (fn:=Tryz.f90) tab ⟨[(0,[1,3,5,6]),(1,[1,3,5,6]),(2,[3,6]),(3,[6])],[],[],[]⟩ 18 [.cell 6 35] rfl rfl rfl rfl rfl rfl ?_<;>conv=>whnf
 refine liS ([]:List PartState) PartState.enc rfl rfl ?_<;>conv=>whnf
 refine apS (enc:=PartState.enc) (l1:=([]:List PartState)) (l2:=a0.Parts) h rfl rfl (fun _=>rfl) (fun h=>?_)<;>conv=>whnf
 refine ioS (enc:=PartState.enc) h rfl (fun h=>?_)<;>conv=>whnf
 refine seS (enc:=PartState.enc) h rfl (fun x1=>a2) (fun _=>rfl) (fun x1 h=>?_)<;>conv=>whnf
 exact rt (E:=E_KernelState) h rfl
end Go.Proofs.YtldlcdnhdedoeaaGreat
namespace Go.Proofs.YtldlcdnhdedoeaaGreat
open Go Go.VC
def E_fn_kernel_on:Unit→List CV:=fun r=>[.d (.fn 158 [[.fn 126 []]])]
noncomputable def kernel_on  : Option Unit:=
 some ()
theorem kernel_on_w  (r:Unit) (h:kernel_on=some r):Go.VC.Spec Tryz.prog 125 [.d (.fn 126 [])] (fun y=>y=E_fn_kernel_on r):=by
 refine Spec.of_xc (fn:=Tryz.f125) tab ⟨[(0,[1]),(1,[2])],[],[],[]⟩ 4 [.tmp 2] rfl rfl rfl rfl rfl rfl ?_<;>conv=>whnf
 exact rt (E:=E_fn_kernel_on) h rfl
end Go.Proofs.YtldlcdnhdedoeaaGreat
namespace Go.Proofs.YtldlcdnhdedoeaaGreat
open Go Go.VC
def E_fn_kernel_on_i1:Unit→List CV:=fun r=>[.d (.fn 158 [[.fn 127 []]])]
noncomputable def kernel_on_i1  : Option Unit:=
 some ()
theorem kernel_on_i1_w  (r:Unit) (h:kernel_on_i1=some r):Go.VC.Spec Tryz.prog 125 [.d (.fn 127 [])] (fun y=>y=E_fn_kernel_on_i1 r):=by
 refine Spec.of_xc (fn:=Tryz.f125) tab ⟨[(0,[1]),(1,[2])],[],[],[]⟩ 4 [.tmp 2] rfl rfl rfl rfl rfl rfl ?_<;>conv=>whnf
 exact rt (E:=E_fn_kernel_on_i1) h rfl
end Go.Proofs.YtldlcdnhdedoeaaGreat
namespace Go.Proofs.YtldlcdnhdedoeaaGreat
open Go Go.VC
def E_fn_kernel_on_2:Unit→List CV:=fun r=>[.d (.fn 158 [[.fn 128 []]])]
noncomputable def kernel_on_2  : Option Unit:=
 some ()
theorem kernel_on_2_w  (r:Unit) (h:kernel_on_2=some r):Go.VC.Spec Tryz.prog 125 [.d (.fn 128 [])] (fun y=>y=E_fn_kernel_on_2 r):=by
 refine Spec.of_xc (fn:=Tryz.f125) tab ⟨[(0,[1]),(1,[2])],[],[],[]⟩ 4 [.tmp 2] rfl rfl rfl rfl rfl rfl ?_<;>conv=>whnf
 exact rt (E:=E_fn_kernel_on_2) h rfl
end Go.Proofs.YtldlcdnhdedoeaaGreat
namespace Go.Proofs.YtldlcdnhdedoeaaGreat
open Go Go.VC
def E_fn_kernel_on_3:Unit→List CV:=fun r=>[.d (.fn 158 [[.fn 129 []]])]
noncomputable def kernel_on_3  : Option Unit:=
 some ()
theorem kernel_on_3_w  (r:Unit) (h:kernel_on_3=some r):Go.VC.Spec Tryz.prog 125 [.d (.fn 129 [])] (fun y=>y=E_fn_kernel_on_3 r):=by
 refine Spec.of_xc (fn:=Tryz.f125) tab ⟨[(0,[1]),(1,[2])],[],[],[]⟩ 4 [.tmp 2] rfl rfl rfl rfl rfl rfl ?_<;>conv=>whnf
 exact rt (E:=E_fn_kernel_on_3) h rfl
end Go.Proofs.YtldlcdnhdedoeaaGreat
namespace Go.Proofs.YtldlcdnhdedoeaaGreat
open Go Go.VC
def E_fn_kernel_kinds:Unit→List CV:=fun r=>[.d (.mp [[.int .i64 (1:Int),.fn 158 [[.fn 126 []]]],[.int .i64 (4:Int),.fn 158 [[.fn 127 []]]],[.int .i64 (5:Int),.fn 158 [[.fn 128 []]]],[.int .i64 (6:Int),.fn 158 [[.fn 129 []]]],[.int .i64 (2:Int),.fn 130 []],[.int .i64 (3:Int),.fn 131 []]])]
noncomputable def kernel_kinds:Option Unit:=some ()
theorem kernel_kinds_w (r:Unit) (h:kernel_kinds=some r):Go.VC.Spec Tryz.prog 73 [] (fun y=>y=E_fn_kernel_kinds r):=by
 refine Spec.of_wpF (args:=[]) (fn:=Tryz.f73) rfl rfl rfl rfl ?_
 refine WpF.seq tab ⟨[(0,[]),(1,[0])],[],[],[]⟩ (rs:=[.tmp 0]) rfl ?_<;>conv=>whnf
 refine WpF.reg (AWp.map rfl rfl rfl rfl rfl ?_)<;>conv=>whnf
 refine mp_call (r:=.fn 158 [[.fn 126 []]]) rfl rfl rfl rfl rfl (kernel_on_w _ rfl) ?_<;>conv=>whnf
 refine mp_ins rfl rfl rfl rfl Tryz.underlying150 Tryz.underlying3 rfl ?_<;>conv=>whnf
 refine mp_call (r:=.fn 158 [[.fn 127 []]]) rfl rfl rfl rfl rfl (kernel_on_i1_w _ rfl) ?_<;>conv=>whnf
 refine mp_ins rfl rfl rfl rfl Tryz.underlying150 Tryz.underlying3 rfl ?_<;>conv=>whnf
 refine mp_call (r:=.fn 158 [[.fn 128 []]]) rfl rfl rfl rfl rfl (kernel_on_2_w _ rfl) ?_<;>conv=>whnf
 refine mp_ins rfl rfl rfl rfl Tryz.underlying150 Tryz.underlying3 rfl ?_<;>conv=>whnf
 refine mp_call (r:=.fn 158 [[.fn 129 []]]) rfl rfl rfl rfl rfl (kernel_on_3_w _ rfl) ?_<;>conv=>whnf
 refine mp_ins rfl rfl rfl rfl Tryz.underlying150 Tryz.underlying3 rfl ?_<;>conv=>whnf
 refine mp_ins rfl rfl rfl rfl Tryz.underlying150 Tryz.underlying3 rfl ?_<;>conv=>whnf
 refine mp_ins rfl rfl rfl rfl Tryz.underlying150 Tryz.underlying3 rfl ?_<;>conv=>whnf
 refine mp_end tab rfl ?_<;>conv=>whnf
 exact WpF.ret tab (rs:=[.tmp 0]) rfl (RetOk.mk ⟨_,rfl,rfl⟩)
end Go.Proofs.YtldlcdnhdedoeaaGreat
