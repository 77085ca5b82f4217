/- Part 9 of what follows is proved here: the layer over the walk. -/
import Derived.Test.YtldlcdnhdedoeaaGreatV7
import Derived.WalkKit
import Derived.ProofKit
import Derived.OpenShut
import Derived.ShutString
import Derived.ChangeOld
import Derived.Carry
import Derived.SizedLaws
import Derived.IntWalk
set_option linter.unusedVariables false
set_option linter.unusedSimpArgs false
namespace Go.VC
open Go.RowKit (Below)
open Go.ChangeShapes Go.WideShapes

/-! ### Arguments of a row, as data -/
def BB:Nat:=140737488351232
def ShFs (S:TypeId→List D→Prop) (T:TypeId→Option TI):List (Nat×TypeId)→List D→Prop
  | [],ds=>ds=[]
  | (_,ft)::r,ds=>∃j d1 d2,T ft=some j∧ds=d1++d2∧d1.length=j.size∧S ft d1∧ShFs S T r d2
/-- Data of a type: numbers in their range, slices no longer than may be. -/
def ShD (T:TypeId→Option TI):Nat→TypeId→List D→Prop
  | 0,_,_=>False
  | n+1,t,ds=>∃i,T t=some i∧(match i.k with
    | .int k=>∃m,ds=[.int k m]∧(Lit.int k m).wf=true
    | .bool=>∃b,ds=[.bool b]
    | .str=>∃s,ds=[.str s]∧s.size≤BB
    | .slice e=>∃rows ie,ds=[.sl rows]∧T e=some ie∧rows.length*ie.bytes≤BB∧∀r∈rows,ShD T n e r
    | .struct fs=>ShFs (fun t d=>ShD T n t d) T fs ds
    | .other=>False)
def tileB (T:TypeId→Option TI):List (Nat×TypeId)→Nat→Nat→Bool
  | [],o,n=>Nat.beq o n
  | (off,ft)::r,o,n=>Nat.beq off o && (match T ft with | some j=>tileB T r (o+j.size) n | none=>false)
def plainB (T:TypeId→Option TI):Nat→TypeId→Bool
  | 0,_=>false
  | n+1,t=>(match T t with
    | some i=>(match i.k with
      | .int _=>Nat.beq i.size 1
      | .bool=>Nat.beq i.size 1
      | .str=>Nat.beq i.size 1
      | .slice e=>Nat.beq i.size 1 && (match T e with | some ie=>Nat.blt 0 ie.size | none=>false) && plainB T n e
      | .struct fs=>tileB T fs 0 i.size && fs.all fun f=>plainB T n f.2
      | .other=>false)
    | none=>false)

section
variable {P:Program} {T:TypeId→Option TI} {H:Type} {enc:TypeId×Value→H} {w:World}

theorem TIok.cellsOf {t:TypeId} {i:TI} (h:TIok P t i):P.cellsOf t=i.size:=by
  obtain⟨j,z,h1,h2,_⟩:=h.info
  simp[Program.cellsOf,h1,h2]
theorem TIok.bytesOf {t:TypeId} {i:TI} (h:TIok P t i):P.bytesOf t=i.bytes:=by
  obtain⟨j,z,h1,_,h2,_⟩:=h.info
  simp[Program.bytesOf,h1,h2]
theorem weightsAll_mem {e:TypeId}:∀{l:List (DataW H)} {d:DataW H},d∈l→∀n∈d.weights P e,n∈DataW.weightsAll P e l
  | [],_,h,_,_=>by cases h
  | x::r,d,h,n,hn=>by
    simp only[DataW.weightsAll,List.mem_append]
    rcases List.mem_cons.1 h with rfl | h
    · exact .inl hn
    · exact .inr (weightsAll_mem h n hn)
abbrev pw (w:World):Nat→Prop:=fun b=>b<w.heap.size

theorem tile_open {n:Nat} {m:Nat} (S:TypeId→List D→Prop) {cs:List Value} {fs:List (Nat×TypeId)} (hT:∀t i,T t=some i→TIok P t i)
    (hf:∀(q off:Nat) (ft:TypeId),fs[q]?=some (off,ft)→∃ds,All2 (RepD w (pw w)) ds ((cs.drop off).take (P.cellsOf ft))∧S ft ds) :
    ∀o,o≤cs.length→tileB T fs o cs.length=true→∃ds,All2 (RepD w (pw w)) ds (cs.drop o)∧ShFs S T fs ds:=by
  induction fs with
  | nil=>
    intro o _ ht
    unfold tileB at ht
    have:=Nat.eq_of_beq_eq_true ht
    subst this
    exact⟨[],by rw[List.drop_length]; exact All2.nil,rfl⟩
  | cons f r ih=>
    obtain⟨off,ft⟩:=f
    intro o ho ht
    unfold tileB at ht
    rw[Bool.and_eq_true] at ht
    obtain⟨h1,h2⟩:=ht
    have:=Nat.eq_of_beq_eq_true h1
    subst this
    split at h2 <;> try cases h2
    rename_i j hj
    obtain⟨d1,h3,h4⟩:=hf 0 off ft rfl
    rw[(hT _ _ hj).cellsOf] at h3
    -- the tile must end within
    have hle:∀(fs:List (Nat×TypeId)) (a n:Nat),tileB T fs a n=true→a≤n:=by
      intro fs
      induction fs with
      | nil=>intro a n h; unfold tileB at h; exact Nat.le_of_eq (Nat.eq_of_beq_eq_true h)
      | cons g s ih=>
        obtain⟨x,y⟩:=g
        intro a n h
        unfold tileB at h
        rw[Bool.and_eq_true] at h
        have h:=h.2
        split at h <;> try cases h
        have:=ih _ _ h
        omega
    have hend:=hle _ _ _ h2
    obtain⟨d2,h5,h6⟩:=ih (fun q off' ft' hq=>hf (q+1) off' ft' (by simpa using hq)) (off+j.size) hend h2
    refine⟨d1++d2,?_,j,d1,d2,hj,rfl,?_,h4,h6⟩
    · have e:cs.drop off=(cs.drop off).take j.size++cs.drop (off+j.size):=by
        rw[←List.drop_drop,List.take_append_drop]
      rw[e]
      exact All2.append h3 h5
    · rw[h3.1,List.length_take,List.length_drop]; omega

theorem open_rep (hT:TabOk P T):∀(m:Nat) (n:Nat) (t:TypeId) (cs:List Value) (x:DataW H×List MemPlace),plainB T m t=true→DataW.trod enc P w 0 (fun _=>true) true n t cs=some x→(∀k∈x.1.weights P t,k≤BB) →
    ∃ds,All2 (RepD w (pw w)) ds cs∧ShD T m t ds
  | 0,_,_,_,_,hp,_,_=>by cases hp
  | m+1,n,t,cs,x,hp,h,hw=>by
    unfold plainB at hp
    split at hp <;> try cases hp
    rename_i i hi
    have hok:=hT.ok t i hi
    obtain⟨d,hd,hk⟩:=hok.desc
    split at hp
    · rename_i k hik
      rw[hik] at hk
      simp only[DescOk] at hk
      subst hk
      obtain⟨q,rfl,rfl,hq⟩:=DataW.trod_int hd h
      exact⟨[.int k q],All2.cons (.int k q) All2.nil,i,hi,by rw[hik]; exact⟨q,rfl,hq⟩⟩
    · rename_i hik
      rw[hik] at hk
      simp only[DescOk] at hk
      subst hk
      obtain⟨b,rfl,rfl⟩:=DataW.trod_bool hd h
      exact⟨[.bool b],All2.cons (.bool b) All2.nil,i,hi,by rw[hik]; exact⟨b,rfl⟩⟩
    · rename_i hik
      rw[hik] at hk
      simp only[DescOk] at hk
      subst hk
      obtain⟨s,rfl,rfl,hs⟩:=DataW.trod_string hd h
      have hb:s.size≤BB:=by
        have h1:=hw s.data.toList.length (by simp[DataW.weights])
        rw[Array.length_toList] at h1
        exact h1
      exact⟨[.str s],All2.cons (.str s) All2.nil,i,hi,by rw[hik]; exact⟨s,rfl,hb⟩⟩
    · rename_i e hik
      rw[hik] at hk
      simp only[DescOk] at hk
      subst hk
      rw[Bool.and_eq_true,Bool.and_eq_true] at hp
      obtain⟨⟨_,hp1⟩,hp2⟩:=hp
      split at hp1 <;> try cases hp1
      rename_i ie hie
      have hoe:=hT.ok e ie hie
      rcases DataW.trod_slice hd h with ⟨rfl,rfl⟩ | ⟨a,len,cap,elems,rest,n',rfl,rfl,rfl,hb,hl,hm,hlen,hel,_,_⟩
      · exact⟨[.sl []],All2.cons (repD_nil _ _) All2.nil,i,hi,by rw[hik]; exact⟨[],ie,rfl,hie,by simp,fun r hr=>by cases hr⟩⟩
      · have hwt:(elems.length+rest.length)*P.bytesOf e≤BB∧∀k∈DataW.weightsAll P e (elems.map (·.1)),k≤BB:=by
          simp only[DataW.weights,hd,List.mem_cons,List.mem_append,forall_eq_or_imp,List.length_map] at hw
          exact⟨hw.1,fun k hk=>hw.2 k (.inl hk)⟩
        rw[hoe.bytesOf] at hwt
        have hsz:0<ie.size:=by simpa [Nat.blt_eq] using hp1
        have each:∀j,j<len→∃r:List D,(∃cs',w.cells? 0 (a.add (j*ie.size)) ie.size=some cs'∧All2 (RepD w (pw w)) r cs')∧ShD T m e r:=by
          intro j hj
          have he:=hel j hj
          rw[hoe.cellsOf,List.getElem?_eq_getElem (by omega),Option.bind_eq_some_iff] at he
          obtain⟨cs',hc,hy⟩:=he
          obtain⟨r,h1,h2⟩:=open_rep hT m n' e cs' _ hp2 hy (fun k hk=>hwt.2 k (weightsAll_mem (List.mem_map.2 ⟨_,List.getElem_mem (by omega),rfl⟩) k hk))
          exact⟨r,⟨cs',hc,h1⟩,h2⟩
        obtain⟨rows,hrl,hrows⟩:=choose_list (fun j (r:List D)=>(∃cs',w.cells? 0 (a.add (j*ie.size)) ie.size=some cs'∧All2 (RepD w (pw w)) r cs')∧ShD T m e r) len each
        have cell:∀(j q:Nat) (r:List D) (y:D),rows[j]?=some r→r[q]?=some y→∃u,w.cell? (a.add (j*ie.size+q))=some u∧RepD w (pw w) y u:=by
          intro j q r y hj hq
          obtain⟨⟨cs',hc,h1⟩,_⟩:=hrows j r hj
          obtain⟨_,h3,h4⟩:=World.cells?_some hc
          obtain⟨u,hu,hru⟩:=h1.get hq
          have hql:q<ie.size:=by rw[←h3,←h1.1]; exact (List.getElem?_eq_some_iff.1 hq).1
          refine⟨u,?_,hru⟩
          rw[←add_add,h4 q hql,hu]
        have hlen2:∀r∈rows,r.length=ie.size:=by
          intro r hr
          obtain⟨j,hj⟩:=List.getElem?_of_mem hr
          obtain⟨⟨cs',hc,h1⟩,_⟩:=hrows j r hj
          rw[h1.1,(World.cells?_some hc).2.1]
        refine⟨[.sl rows],All2.cons ?_ All2.nil,i,hi,by
          rw[hik]
          refine⟨rows,ie,rfl,hie,?_,fun r hr=>?_⟩
          · refine Nat.le_trans (Nat.mul_le_mul_right _ ?_) hwt.1
            omega
          · obtain⟨j,hj⟩:=List.getElem?_of_mem hr
            exact (hrows j r hj).2⟩
        have hrl':len=rows.length:=hrl.symm
        subst hrl'
        refine .sl rows ie.size (some a) cap (fun j q=>(w.cell? (a.add (j*ie.size+q))).getD undef) hl hm (fun e=>by cases e) (fun ad e hne=>?_) hlen2 (fun ad j q r y e hj hq=>?_) (fun j q r y hj hq=>?_)
        · cases e
          cases hr:rows with
          | nil=>exact absurd hr hne
          | cons r0 rs=>
            have h0:rows[0]?=some r0:=by rw[hr]; rfl
            have hl0:r0.length=ie.size:=hlen2 r0 (List.mem_of_getElem? h0)
            obtain⟨u,hu,_⟩:=cell 0 0 r0 r0[0] h0 (List.getElem?_eq_getElem (by omega))
            have:=World.block_lt_of_cell? w _ hu
            rwa [add_block] at this
        · cases e
          obtain⟨u,hu,_⟩:=cell j q r y hj hq
          rw[hu]; rfl
        · obtain⟨u,hu,hru⟩:=cell j q r y hj hq
          simp only[hu]
          exact hru
    · rename_i fs hik
      rw[hik] at hk
      obtain⟨F,rfl,hFl,hFf⟩:=hk
      rw[Bool.and_eq_true,List.all_eq_true] at hp
      obtain⟨hp1,hp2⟩:=hp
      obtain⟨xs,n',rfl,rfl,hcl,hxl,hx⟩:=DataW.trod_struct hd h
      rw[hok.cellsOf] at hcl
      rw[←hcl] at hp1
      obtain⟨ds,h1,h2⟩:=tile_open (w:=w) (n:=0) (m:=0) (fun t d=>ShD T m t d) (cs:=cs) (fs:=fs) hT.ok (fun q off ft hq=>by
        obtain⟨f,hf,rfl,rfl⟩:=hFf q off ft hq
        have htr:=hx q f hf
        have hql:q<xs.length:=by
          rw[hxl,hFl]; exact (List.getElem?_eq_some_iff.1 hq).1
        rw[List.getElem?_eq_getElem hql] at htr
        refine open_rep hT m n' f.type _ _ (hp2 _ (List.mem_of_getElem? hq)) htr fun k hk=>?_
        refine hw k ?_
        simp only[DataW.weights,hd]
        refine DataW.weights_mem_each (j:=q) (t:=f.type) (d:=xs[q].1) ?_ (by rw[List.getElem?_map,List.getElem?_eq_getElem hql]; rfl) k hk
        rw[List.getElem?_map,Array.getElem?_toList,hf]; rfl) 0 (Nat.zero_le _) hp1
      exact⟨ds,by simpa using h1,i,hi,by rw[hik]; exact h2⟩
    · cases hp
/-- An argument of a row, as a contract's argument. -/
theorem open_cv (hT:TabOk P T) {m:Nat} {t:TypeId} {v:Value} {d:DataW H} {ps:List MemPlace} {r:Reach} {b:Nat} (hp:plainB T m t=true) (hval:Value.okWide P w r b t v) (h:DataW.Trod enc P w 0 (fun _=>true) true t v d ps) (hw:∀k∈d.weights P t,k≤BB) :
    ∃ds,ShD T m t ds∧(∀i,T t=some i→RepCV w (pw w) (match i.k with | .struct _=>.agg ds | _=>.d (ds.headD .nilfn)) v):=by
  obtain⟨n,hn⟩:=h
  obtain⟨ds,h1,h2⟩:=open_rep hT m n t _ _ hp hn hw
  refine⟨ds,h2,fun i hi=>?_⟩
  have hok:=hT.ok t i hi
  obtain⟨dd,hd,hk⟩:=hok.desc
  have one:∀u,v=u→u.cells.toList=[u]→RepCV w (pw w) (.d (ds.headD .nilfn)) v:=by
    intro u e hu
    subst e
    rw[hu] at h1
    cases ds with
    | nil=>have:=h1.1; simp at this
    | cons a r=>exact h1.2 0 a v rfl rfl
  cases hik:i.k with
  | int k=>rw[hik] at hk; simp only[DescOk] at hk; subst hk; obtain⟨q,rfl⟩:=okWide_int hd hval; exact one _ rfl rfl
  | bool=>rw[hik] at hk; simp only[DescOk] at hk; subst hk; obtain⟨q,rfl⟩:=okWide_bool hd hval; exact one _ rfl rfl
  | str=>rw[hik] at hk; simp only[DescOk] at hk; subst hk; obtain⟨q,rfl⟩:=okWide_string hd hval; exact one _ rfl rfl
  | slice e=>rw[hik] at hk; simp only[DescOk] at hk; subst hk; obtain⟨a,l,c,rfl⟩:=okWide_slice hd hval; exact one _ rfl rfl
  | struct fs=>
    rw[hik] at hk
    obtain⟨F,rfl,_⟩:=hk
    obtain⟨cs,rfl,_⟩:=okWide_struct hd hval
    exact⟨cs.toList,by simp,by simpa [Value.cells] using h1⟩
  | other=>
    obtain⟨i',hi',hs⟩:∃i',T t=some i'∧True:=⟨i,hi,trivial⟩
    cases m with
    | zero=>cases hp
    | succ m=>
      unfold plainB at hp
      rw[hi] at hp
      simp only[hik] at hp
      cases hp

/-! What data of a type are, in types of one's own. -/
theorem ShD.i {n:Nat} {t:TypeId} {ds:List D} (h:ShD T n t ds) {k:IntKind} {z b:Nat} {zl:List LV} {e:Bool} (hi:T t=some ⟨.int k,z,b,zl,e⟩):∃m,ds=eI k m∧(Lit.int k m).wf=true:=by
  cases n with
  | zero=>cases h
  | succ n=>obtain⟨i,h1,h2⟩:=h; rw[hi] at h1; cases h1; exact h2
end
end Go.VC
namespace Go.VC

/-! ### Plain laws: what helps with the printed functions -/
section
variable {α β σ R:Type} {r:R}
theorem fk_t {x y:Option α}:fk true x y=x:=id rfl
theorem fk_f {x y:Option α}:fk false x y=y:=id rfl
theorem fk_if {b:Bool} {x y:Option α}:fk b x y=if b=true then x else y:=by cases b <;> rfl
theorem ck_t {b:Bool} {x:Option α} (h:b=true):ck b x=x:=by subst h; rfl
theorem bnd_some {a:α} {f:α→Option β}:bnd (some a) f=f a:=id rfl
theorem bnd_eq {c:Option α} {f:α→Option β} {a:α} (h:c=some a):bnd c f=f a:=by rw[h]; rfl
theorem jn_eq {Y:σ→Option R} {X:(σ→Option R)→Option R}:jn Y X=X Y:=id rfl
theorem ox_lt {l:List α} {k:Nat} {f:α→Option β} (h:k<l.length):ox l k f=f l[k]:=by unfold ox; rw[List.getElem?_eq_getElem h]
theorem ix_lt {l:List α} {k:Nat} {f:α→Option β} (h:k<l.length):ix l (k:Int) f=f l[k]:=by
  unfold ix
  rw[show decide ((0:Int)≤(k:Int))=true from decide_eq_true (Int.natCast_nonneg k),Int.toNat_natCast]
  exact ox_lt h
theorem ix_int {l:List α} {i:Int} {f:α→Option β} (h0:0≤i) (h:i.toNat<l.length):ix l i f=f l[i.toNat]:=by
  have e:i=((i.toNat:Nat):Int):=by omega
  unfold ix
  rw[show decide ((0:Int)≤i)=true from decide_eq_true h0]
  exact ox_lt h
theorem wr_in (n:Int) (h : -9223372036854775808≤n∧n≤9223372036854775807):wr n=n:=IntWalk.i64_in n h
theorem dec_t {p:Prop} [Decidable p] (h:p):some true=some (decide p):=by rw[decide_eq_true h]
theorem dec_f {p:Prop} [Decidable p] (h:¬p):some false=some (decide p):=by rw[decide_eq_false h]
theorem dec_iff {p q:Prop} [Decidable p] [Decidable q] (h:p↔q):some (decide p)=some (decide q):=by rw[decide_eq_decide.2 h]
theorem dec_not {p q:Prop} [Decidable p] [Decidable q] (h:¬p↔q):some (!decide p)=some (decide q):=by rw[←decide_not,decide_eq_decide.2 h]
/-- A loop that answers r, whatever its rounds do: a measure that falls, and what is kept. -/
theorem lp_inv {body:(σ→Option R)→σ→Option R} (m:σ→Nat) (I:σ→Prop) (step:∀(nx:σ→Option R) (v:σ),I v→(∀v',I v'→m v'<m v→nx v'=some r)→body nx v=some r) :
    ∀(n:Nat) (v:σ),I v→m v<n→lp body n v=some r
  | 0,v,_,h=>by omega
  | n+1,v,hI,h=>by
    rw[lp_succ]
    exact step _ v hI fun v' hI' hlt=>lp_inv m I step n v' hI' (by omega)
/-- A loop over 0, 1, .. up to N. -/
theorem lp_up {body:(Int→Option R)→Int→Option R} (N:Nat) (hN:N<FU) (J:Nat→Prop) (h0:J 0)
    (step:∀(nx:Int→Option R) (k:Nat),k≤N→J k→(k<N→J (k+1)→nx ((k+1:Nat):Int)=some r)→body nx (k:Int)=some r):lp body FU (0:Int)=some r:=by
  refine lp_inv (fun v=>N-v.toNat) (fun v=>∃k:Nat,v=(k:Int)∧k≤N∧J k) ?_ FU _ ⟨0,rfl,Nat.zero_le _,h0⟩ (by simp; omega)
  rintro nx v ⟨k,rfl,hk,hJ⟩ hnx
  exact step nx k hk hJ fun hlt hJ'=>hnx _ ⟨k+1,rfl,hlt,hJ'⟩ (by simp only[Int.toNat_natCast]; omega)
/-- The same with more that is carried along; the counter comes last. -/
theorem lp_upS {S:Type} {body:(S×Int→Option R)→S×Int→Option R} (N:Nat) (hN:N<FU) (J:Nat→S→Prop) (s0:S) (h0:J 0 s0)
    (step:∀(nx:S×Int→Option R) (k:Nat) (s:S),k≤N→J k s→(∀s',k<N→J (k+1) s'→nx (s',((k+1:Nat):Int))=some r)→body nx (s,(k:Int))=some r):lp body FU (s0,(0:Int))=some r:=by
  refine lp_inv (fun v=>N-v.2.toNat) (fun v=>∃k:Nat,v.2=(k:Int)∧k≤N∧J k v.1) ?_ FU _ ⟨0,rfl,Nat.zero_le _,h0⟩ (by simp; omega)
  rintro nx ⟨s,v⟩ ⟨k,hv,hk,hJ⟩ hnx
  simp only at hv hJ
  subst hv
  exact step nx k s hk hJ fun s' hlt hJ'=>hnx _ ⟨k+1,rfl,hlt,hJ'⟩ (by simp only[Int.toNat_natCast]; omega)
theorem wr_succ (k N:Nat) (h:k<N) (hN:N≤4611686018427387904):wr ((k:Int)+1)=((k+1:Nat):Int):=by
  rw[wr_in _ (by omega)]; rfl
theorem lt_nat {k N:Nat}:decide ((k:Int)<(N:Int))=decide (k<N):=by
  by_cases h:k<N
  · rw[decide_eq_true h,decide_eq_true (by omega)]
  · rw[decide_eq_false h,decide_eq_false (by omega)]
end
end Go.VC
