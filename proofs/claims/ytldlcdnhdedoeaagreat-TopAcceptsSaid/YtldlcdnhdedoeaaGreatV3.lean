/- Part 4 of what follows is proved here: the layer over the walk. -/
import Derived.Test.YtldlcdnhdedoeaaGreatV2
set_option linter.unusedVariables false
set_option linter.unusedSimpArgs false
namespace Go.VC
open Go.RowKit (Below)

theorem chk_iff {b:Bool} {X:Prop}:chk b X↔b=true∧X:=by rw[chk_eq]
theorem blt_t {a b:Nat}:Nat.blt a b=true↔a<b:=by simp[Nat.blt_eq]
theorem ble_t {a b:Nat}:Nat.ble a b=true↔a≤b:=by rw[Nat.ble_eq]
theorem beq_t {a b:Nat}:Nat.beq a b=true↔a=b:=⟨Nat.eq_of_beq_eq_true,fun e=>by subst e; exact Nat.beq_refl a⟩
theorem rowK_iff {α:Type} {o:Option α} {K:α→Prop}:rowK o K↔∃r,o=some r∧K r:=by rw[rowK_eq]
theorem ownK_iff {ω:Nat→Option Own} {k:Nat} {K:TypeId→Nat→List (List D)→Prop}:ownK ω k K↔∃z,ω k=some z∧K z.1 z.2.1 z.2.2:=by
  unfold ownK
  cases ω k with
  | none=>simp
  | some z=>obtain⟨a,b,c⟩:=z; simp
theorem tyK_iff {T:TypeId→Option TI} {t:TypeId} {K:TI→Prop}:tyK T t K↔∃i,T t=some i∧K i:=by
  unfold tyK
  cases T t <;> simp
theorem intK_iff {x:AV} {K:IntKind→Int→Prop}:intK x K↔∃k n,x=.l (.d (.int k n))∧K k n:=by
  unfold intK
  constructor
  · intro h; split at h
    · exact⟨_,_,rfl,h⟩
    · exact h.elim
  · rintro⟨k,n,rfl,h⟩; exact h
theorem boolK_iff {x:AV} {K:Bool→Prop}:boolK x K↔∃n,x=.l (.d (.bool n))∧K n:=by
  unfold boolK
  constructor
  · intro h; split at h
    · exact⟨_,rfl,h⟩
    · exact h.elim
  · rintro⟨n,rfl,h⟩; exact h
theorem aggK_iff {x:AV} {K:List LV→Prop}:aggK x K↔∃n,x=.agg n∧K n:=by
  unfold aggK
  constructor
  · intro h; split at h
    · exact⟨_,rfl,h⟩
    · exact h.elim
  · rintro⟨n,rfl,h⟩; exact h

section
variable {T:TypeId→Option TI} {K K':Eff→Prop} {t:TypeId} {x y:AV} {β:Nat→Option (List LV)} {ω:Nat→Option Own} {key:Nat}

theorem xld_s (h:xld T t x β ω K) (hm:∀e,K e→K' e):ldK T t x β ω K':=by
  unfold xld at h
  unfold ldK
  rw[tyK_iff] at h ⊢
  obtain⟨i,hi,h⟩:=h
  rw[chk_iff,blt_t] at h
  refine⟨i,hi,h.1,?_⟩
  have h:=h.2
  split at h
  · rw[rowK_iff] at h
    obtain⟨cs,hc,h⟩:=h
    rw[chk_iff,ble_t] at h
    simp only[hc]; exact⟨h.1,hm _ h.2⟩
  · rw[chk_iff,ble_t] at h
    exact⟨h.1,hm _ h.2⟩
  · rw[ownK_iff] at h
    obtain⟨z,hz,h⟩:=h
    rw[chk_iff,chk_iff,ble_t,beq_t] at h
    obtain⟨h1,h2,⟨row,h3,h4⟩⟩:=h
    simp only[hz,getS_ex]
    exact⟨h1,h2,row,h3,hm _ h4⟩
  · exact h.elim

theorem idxB_s {n:Int} {K:Nat→Prop}:∀{m j:Nat},idxB n j m K→∃i:Nat,n=(i:Int)∧j≤i∧i<j+m∧K i
  | 0,j,h=>h.elim
  | m+1,j,h=>by
    unfold idxB at h
    rw[forkK_eq] at h
    by_cases c:n=(j:Int)
    · exact⟨j,c,Nat.le_refl _,by omega,h.1 (decide_eq_true c)⟩
    · obtain⟨i,a,b,d,e⟩:=idxB_s (h.2 (decide_eq_false c))
      exact⟨i,a,by omega,by omega,e⟩
theorem xidx_s (h:xidx T t x y ω K) (hm:∀e,K e→K' e):idxK T t x y ω K':=by
  unfold xidx at h
  unfold idxK
  rw[tyK_iff] at h ⊢
  obtain⟨i,hi,h⟩:=h
  refine⟨i,hi,?_⟩
  split at h
  · rename_i e he
    simp only[he]
    rw[tyK_iff] at h ⊢
    obtain⟨ie,hie,h⟩:=h
    rw[chk_iff,blt_t,intK_iff] at h
    obtain⟨h1,k,n,rfl,h⟩:=h
    refine⟨ie,hie,h1,?_⟩
    rw[intK_iff]
    refine⟨k,n,rfl,?_⟩
    split at h
    · obtain⟨h2,row,h3,h4⟩:=h
      refine⟨h2,?_⟩
      rw[getS_ex]
      exact⟨row,h3,h4.1,hm _ h4.2⟩
    · rw[ownK_iff] at h
      obtain⟨z,hz,h⟩:=h
      rw[chk_iff,beq_t] at h
      simp only[hz]
      exact⟨h.1,h.2.h.1,h.2.h.2.1,hm _ h.2.h.2.2⟩
    · rw[chk_iff,beq_t] at h
      obtain⟨i,rfl,a,b,c⟩:=idxB_s h.2
      exact⟨h.1,by omega,by omega,by rw[Int.toNat_natCast]; exact hm _ c⟩
    · exact h.elim
  · exact h.elim

theorem xlen_s (h:xlen T t x ω K) (hm:∀e,K e→K' e):lenK T t x ω K':=by
  unfold xlen at h
  unfold lenK
  rw[tyK_iff] at h ⊢
  obtain⟨i,hi,h⟩:=h
  refine⟨i,hi,?_⟩
  split at h
  · rename_i e he
    simp only[he]
    split at h
    · exact hm _ h.h
    · exact hm _ h
    · rw[ownK_iff] at h
      obtain⟨z,hz,h⟩:=h
      simp only[hz]; exact hm _ h.h
    · exact h.elim
  · rename_i he
    simp only[he]
    split at h
    · exact hm _ h
    · exact h.elim
  · exact h.elim

theorem xapp_s (h:xapp T t x y ω key K) (hm:∀e,K e→K' e):appK T t x y ω key K':=by
  unfold xapp at h
  unfold appK
  rw[tyK_iff] at h ⊢
  obtain⟨i,hi,h⟩:=h
  refine⟨i,hi,?_⟩
  split at h
  · rename_i e he
    simp only[he]
    rw[tyK_iff] at h ⊢
    obtain⟨ie,hie,h⟩:=h
    rw[chk_iff,chk_iff,blt_t,blt_t,rowK_iff] at h
    obtain⟨h1,h2,p,hp,h⟩:=h
    obtain⟨ry,uy⟩:=p
    refine⟨ie,hie,h1,h2,?_⟩
    simp only[hp]
    split at h
    · obtain⟨a,b,c⟩:=h
      exact⟨a,by simpa using b,hm _ c⟩
    · rw[ownK_iff] at h
      obtain⟨z,hz,h⟩:=h
      rw[chk_iff,chk_iff,chk_iff,beq_t,beq_t] at h
      obtain⟨a,b,c,d,e,f⟩:=h
      simp only[hz]; exact⟨d,a,b,e,by simpa using c,hm _ f⟩
    · rw[ownK_iff] at h
      obtain⟨z,hz,h⟩:=h
      rw[chk_iff,chk_iff,chk_iff,chk_iff,beq_t,beq_t,beq_t] at h
      obtain⟨a,b,c,f,d,g,i,r,j,k⟩:=h
      simp only[hz]; exact⟨r,d,f,c,g,a,b,i,j,hm _ k⟩
    · exact h.elim
  · exact h.elim

theorem hiK_iff {hi:Option AV} {K:Option Int→Prop}:hiK hi K↔(hi=none∧K none)∨∃k n,hi=some (.l (.d (.int k n)))∧K (some n):=by
  unfold hiK
  cases hi with
  | none=>simp
  | some x=>
    simp only[intK_iff,Option.some.injEq,reduceCtorEq,false_and,false_or]

theorem bounds_of {len:Nat} {lo hi:Option AV} {l:Int} {h:Option Int} {K:Nat→Nat→Prop} (hl:intOr 0 lo=some l) (hh:(hi=none∧h=none)∨∃k n,hi=some (.l (.d (.int k n)))∧h=some n)
    (a:0≤l) (b:l≤h.getD len) (c:h.getD len≤len) (hk:K l.toNat (h.getD len).toNat):boundsK len lo hi K:=by
  unfold boundsK
  refine⟨l,h.getD len,hl,?_,a,b,c,hk⟩
  rcases hh with ⟨rfl,rfl⟩ | ⟨k,n,rfl,rfl⟩
  · rfl
  · rfl

theorem xsli_s {sz:Nat} {lo hi mx:Option AV} (h:xsli sz x lo hi mx ω K) (hm:∀e,K e→K' e):sliceK sz x lo hi mx ω K':=by
  unfold xsli at h
  unfold sliceK
  split at h
  · rw[rowK_iff] at h
    obtain⟨l,hl,h⟩:=h
    rw[hiK_iff] at h
    rcases h with ⟨e,a,b,c,d,f,g⟩ | ⟨k,n,e,a,b,c,d,f,g⟩
    · exact bounds_of hl (.inl ⟨e,rfl⟩) a b c ⟨d,f,hm _ g⟩
    · exact bounds_of hl (.inr ⟨k,n,e,rfl⟩) a b c ⟨d,f,hm _ g⟩
  · rw[ownK_iff] at h
    obtain⟨z,hz,h⟩:=h
    rw[chk_iff,beq_t,rowK_iff] at h
    obtain⟨h0,l,hl,h⟩:=h
    simp only[hz]
    refine⟨h0,?_⟩
    rw[hiK_iff] at h
    rcases h with ⟨e,a,b,c,d,f⟩ | ⟨k,n,e,a,b,c,d,f⟩
    · exact bounds_of hl (.inl ⟨e,rfl⟩) a b c ⟨d,hm _ f⟩
    · exact bounds_of hl (.inr ⟨k,n,e,rfl⟩) a b c ⟨d,hm _ f⟩
  · exact h.elim

theorem keq_iff {k k':IntKind} {X:Prop}:keq k k' X↔k=k'∧X:=by unfold keq; rw[chk_iff]; simp

theorem xbin_s {op:BinOp} {K K':D→Prop} (h:xbin T t op x y K) (hm:∀e,K e→K' e):binK T t op x y K':=by
  unfold xbin at h
  split at h
  case h_10 | h_11=>
    split at h
    · rw[intK_iff] at h
      obtain⟨k',b,rfl,h⟩:=h
      rw[keq_iff] at h
      exact⟨h.1,hm _ h.2⟩
    · rw[boolK_iff] at h
      obtain⟨b,rfl,h⟩:=h
      rw[tyK_iff] at h
      obtain⟨i,hi,h⟩:=h
      split at h
      · rename_i hb
        exact⟨⟨i,hi,by rw[hb]; trivial⟩,hm _ h⟩
      · exact h.elim
    · rw[aggK_iff] at h
      obtain⟨ys,rfl,h⟩:=h
      rw[tyK_iff] at h
      obtain⟨i,hi,h⟩:=h
      rw[rowK_iff] at h
      obtain⟨az,ha,h⟩:=h
      rw[rowK_iff] at h
      obtain⟨bs,hb,h⟩:=h
      rw[chk_iff,chk_iff,chk_iff] at h
      obtain⟨h1,h2,h3,h5⟩:=h
      exact⟨i,az,bs,hi,h1,ha,hb,of_decide_eq_true h2,of_decide_eq_true h3,hm _ h5⟩
    · exact h.elim
  all_goals first
    | exact h.elim
    | (rw[intK_iff] at h
       obtain⟨k,a,rfl,h⟩:=h
       rw[intK_iff] at h
       obtain⟨k',b,rfl,h⟩:=h
       rw[keq_iff] at h
       first
         | exact⟨h.1,hm _ h.2⟩
         | exact⟨h.1,h.2.1,hm _ h.2.2⟩)

theorem xcv_s {src dst:TypeId} (h:cvK T src dst x K) (hm:∀e,K e→K' e):cvK T src dst x K':=by
  unfold cvK at h ⊢
  rw[tyK_iff] at h ⊢
  obtain⟨i,hi,h⟩:=h
  rw[tyK_iff] at h
  obtain⟨j,hj,h⟩:=h
  refine⟨i,hi,?_⟩
  rw[tyK_iff]
  refine⟨j,hj,?_⟩
  cases hk:i.k <;> rw[hk] at h <;> try exact h.elim
  cases hk':j.k <;> rw[hk'] at h <;> try exact h.elim
  simp only at h ⊢
  rw[intK_iff] at h ⊢
  obtain⟨a,b,c,d⟩:=h
  exact⟨a,b,c,hm _ d⟩

theorem pickV_t {a b:AV}:pickV true a b=a:=by
  unfold pickV
  split <;> rfl
theorem pickV_f {a b:AV}:pickV false a b=b:=by
  unfold pickV
  split <;> rfl
theorem effX_s {o:Oper} {ρ:Operand→AV} (h:effX T o ρ β ω key K) (hm:∀e,K e→K' e):effK T o ρ β ω key K':=by
  obtain⟨dst,op,ty,pos,after,g⟩:=o
  unfold effX at h
  simp only at h
  split at h
  · exact hm _ h
  · exact hm _ h
  · rw[boolK_iff] at h
    obtain⟨b,hb,h⟩:=h
    rw[effK_pick_2]; rw[hb]
    refine hm _ ?_
    cases b with
    | true=>
      simp only[forkK,fAV_eq] at h
      rw[pickV_t]; exact h
    | false=>
      simp only[forkK,fAV_eq] at h
      rw[pickV_f]; exact h
  · rw[tyK_iff] at h
    obtain⟨i,hi,h⟩:=h
    rw[effK_alloc_3,hi]; exact hm _ h
  · rw[rowK_iff] at h
    obtain⟨cs,hc,h⟩:=h
    rw[chk_iff] at h
    rw[effK_box_4,hc]; exact⟨h.1,hm _ h.2⟩
  · rw[effK_ld]; exact xld_s h hm
  · rw[effK_fieldAddr_6]
    unfold xfa at h
    rw[tyK_iff] at h
    obtain⟨i,hi,h⟩:=h
    rw[hi]
    split at h
    · rename_i fs hfs
      simp only[hfs]
      split at h
      · rename_i off' ft hf
        simp only[hf]
        rw[tyK_iff] at h
        obtain⟨j,hj,h⟩:=h
        simp only[hj]
        rw[chk_iff,blt_t] at h
        refine⟨h.1,?_⟩
        have h:=h.2
        split at h
        · rename_i hx; simp only[hx]; exact hm _ h
        · rename_i hx; simp only[hx]; exact hm _ h
        · rename_i hx; simp only[hx]; exact hm _ h
        · exact h.elim
      · exact h.elim
    · exact h.elim
  · rw[effK_field_7]
    unfold xfi at h
    rw[tyK_iff] at h
    obtain⟨i,hi,h⟩:=h
    rw[hi]
    split at h
    · rename_i fs hfs
      simp only[hfs]
      split at h
      · rename_i off' ft hf
        simp only[hf]
        rw[tyK_iff] at h
        obtain⟨j,hj,h⟩:=h
        simp only[hj]
        rw[chk_iff,blt_t,aggK_iff] at h
        obtain⟨h1,cs,hx,h⟩:=h
        rw[chk_iff,ble_t] at h
        refine⟨h1,?_⟩
        simp only[hx]
        exact⟨h.1,hm _ h.2⟩
      · exact h.elim
    · exact h.elim
  · rw[effK_idx]; exact xidx_s h hm
  · rw[effK_binOp_9]; exact xbin_s h fun e he=>hm _ he
  · rw[boolK_iff] at h
    obtain⟨b,hb,h⟩:=h
    rw[effK_unOp_10,hb]; exact hm _ h
  · rw[intK_iff] at h
    obtain⟨k,n,hn,h⟩:=h
    rw[effK_unOp_11,hn]; exact hm _ h
  · rw[effK_cv]; exact xcv_s h hm
  · rw[rowK_iff] at h
    obtain⟨cs,hc,h⟩:=h
    rw[rowK_iff] at h
    obtain⟨x,hx,h⟩:=h
    rw[effK_makeFunc_13,hc]
    simp only[hx]; exact hm _ h
  · rw[effK_slice_14]
    rw[tyK_iff] at h
    obtain⟨i,hi,h⟩:=h
    rw[hi]
    split at h
    · rename_i e he
      simp only[he]
      rw[tyK_iff] at h
      obtain⟨ie,hie,h⟩:=h
      simp only[hie]
      exact xsli_s h hm
    · exact h.elim
  · rw[effK_build_15]
    unfold xbu at h
    rw[tyK_iff] at h
    obtain⟨i,hi,h⟩:=h
    rw[hi]
    split at h
    · rename_i e he
      simp only[he]
      rw[rowK_iff] at h
      obtain⟨cs,hc,h⟩:=h
      simp only[hc]; exact hm _ h
    · exact h.elim
  · rw[effK_buildSlice_16]
    unfold xbs at h
    rw[tyK_iff] at h
    obtain⟨i,hi,h⟩:=h
    rw[hi]
    split at h
    · rename_i e he
      simp only[he]
      rw[tyK_iff] at h
      obtain⟨ie,hie,h⟩:=h
      rw[chk_iff,chk_iff,blt_t,ble_t,rowK_iff] at h
      obtain⟨h1,h2,rows,hr,⟨h⟩⟩:=h
      simp only[hie,hr]
      exact⟨h1,h2,h.1,hm _ h.2⟩
    · exact h.elim
  · rw[effK_mk]
    unfold xmk at h
    unfold mkK
    rw[tyK_iff] at h ⊢
    obtain⟨i,hi,h⟩:=h
    refine⟨i,hi,?_⟩
    split at h
    · rename_i e he
      simp only[he]
      rw[tyK_iff] at h ⊢
      obtain⟨ie,hie,h⟩:=h
      rw[chk_iff,blt_t,intK_iff] at h
      obtain⟨h1,k,n,hn,h⟩:=h
      rw[intK_iff] at h
      obtain⟨k',m,hm',h⟩:=h
      rw[rowK_iff] at h
      obtain⟨z,hz,⟨a,b,c,d,h⟩⟩:=h
      refine⟨ie,hie,h1,?_⟩
      rw[intK_iff]
      refine⟨k,n,hn,?_⟩
      rw[intK_iff]
      refine⟨k',m,hm',?_⟩
      simp only[hz]
      exact⟨a,b,c,d,hm _ h⟩
    · exact h.elim
  · rw[effK_extract_18]
    split at h
    · rename_i cs hcs
      simp only[hcs]
      split at h
      · rename_i y hy; simp only[hy]; exact hm _ h
      · rename_i y hy; simp only[hy]; exact hm _ h
      · exact h.elim
    · exact h.elim
  · rw[effK_nilCheck_19]
    split at h
    · rename_i hx; simp only[hx]; exact hm _ h
    · rename_i hx; simp only[hx]; exact hm _ h
    · rename_i hx; simp only[hx]; exact hm _ h
    · exact h.elim
  · rename_i args ts
    split at h <;> try exact h.elim
    rename_i _ _ x t ha ht
    show callBK T .len ts.toList (args.toList.map ρ) ω key K'
    rw[ha,ht]
    show callBK T .len [t] [ρ x] ω key K'
    rw[callBK_len]; exact xlen_s h hm
  · rename_i args ts
    split at h <;> try exact h.elim
    rename_i _ _ x y t t' ha ht
    show callBK T .append ts.toList (args.toList.map ρ) ω key K'
    rw[ha,ht]
    show callBK T .append [t,t'] [ρ x,ρ y] ω key K'
    rw[chk_iff,beq_t] at h
    rw[callBK_append]; exact⟨h.1,xapp_s h.2 hm⟩
  · rename_i args ts
    split at h <;> try exact h.elim
    rename_i _ x y ha
    rw[intK_iff] at h
    obtain⟨k,a,hx,h⟩:=h
    rw[intK_iff] at h
    obtain⟨k',b,hy,h⟩:=h
    show callBK T .max ts.toList (args.toList.map ρ) ω key K'
    rw[ha]
    show callBK T .max ts.toList [ρ x,ρ y] ω key K'
    rw[hx,hy]
    unfold callBK; exact hm _ h
  · rename_i args ts
    split at h <;> try exact h.elim
    rename_i _ x y ha
    rw[intK_iff] at h
    obtain⟨k,a,hx,h⟩:=h
    rw[intK_iff] at h
    obtain⟨k',b,hy,h⟩:=h
    show callBK T .min ts.toList (args.toList.map ρ) ω key K'
    rw[ha]
    show callBK T .min ts.toList [ρ x,ρ y] ω key K'
    rw[hx,hy]
    unfold callBK; exact hm _ h
  · exact h.elim
end
end Go.VC
