/- Part 3 of what follows is proved here: the layer over the walk. -/
import Derived.Test.YtldlcdnhdedoeaaGreatV1
set_option linter.unusedVariables false
set_option linter.unusedSimpArgs false
namespace Go.VC
open Go.RowKit (Below)

/-! ### The form that reduces by itself: what is closed is matched away -/
def chk (b:Bool) (X:Prop):Prop:=match b with | true=>X | false=>False
theorem chk_eq {b:Bool} {X:Prop}:chk b X=(b=true∧X):=by cases b <;> simp[chk]
def forkK (b:Bool) (X Y:Prop):Prop:=match b with | true=>X | false=>Y
theorem forkK_eq {b:Bool} {X Y:Prop}:forkK b X Y=((b=true→X)∧(b=false→Y)):=by cases b <;> simp[forkK]
theorem fork_t {b:Bool} {X Y:Prop} (hb:b=true) (h1:X):forkK b X Y:=by subst hb; exact h1
theorem fork_f {b:Bool} {X Y:Prop} (hb:b=false) (h1:Y):forkK b X Y:=by subst hb; exact h1
def rowK {α:Type} (o:Option α) (K:α→Prop):Prop:=match o with | some r=>K r | none=>False
theorem rowK_eq {α:Type} {o:Option α} {K:α→Prop}:rowK o K=∃r,o=some r∧K r:=by cases o <;> simp[rowK]
/-! What waits for a list that is told in types. -/
structure RowK (rows:List (List D)) (r:Nat) (K:List D→Prop):Prop where
  h:∃row,rows[r]?=some row∧K row
structure IdxK (rows:List (List D)) (n:Int) (sz:Nat) (K:List D→Prop):Prop where
  h:0≤n∧∃row,rows[n.toNat]?=some row∧row.length=sz∧K row
structure IdxO (rows:List (List D)) (n:Int) (X:Prop):Prop where
  h:0≤n∧n<rows.length∧X
structure LenK (rows:List (List D)) (K:Int→Prop):Prop where
  h:K rows.length
structure ApK (a b:List (List D)) (sz bytes:Nat) (K:List (List D)→Prop):Prop where
  h:(∀r∈b,r.length=sz)∧(a.length+b.length)*bytes≤140737488355328∧K (a++b)
structure ApV (rows:List (List D)) (lo hi:Nat) (b:List (List D)) (sz bytes:Nat) (K:List (List D)→Prop):Prop where
  h:lo=0∧0<b.length∧hi≤rows.length∧(∀r∈b,r.length=sz)∧(hi+b.length)*bytes≤140737488355328∧K (rows.take hi++b)
structure SlD (rows:List (List D)) (lo:Int) (hi:Option Int) (sz:Nat) (M:Prop) (K:List (List D)→Prop):Prop where
  h:0≤lo∧lo≤hi.getD rows.length∧hi.getD rows.length≤rows.length∧(lo.toNat=0∨∀r∈rows,r.length=sz)∧M∧K ((rows.take (hi.getD rows.length).toNat).drop lo.toNat)
structure SlO (rows:List (List D)) (lo:Int) (hi:Option Int) (M:Prop) (K:Nat→Nat→Prop):Prop where
  h:0≤lo∧lo≤hi.getD rows.length∧hi.getD rows.length≤rows.length∧M∧K lo.toNat (hi.getD rows.length).toNat
structure LitK (rows:List (List D)) (len:Nat) (K:List (List D)→Prop):Prop where
  h:rows.length=len∧K rows
structure MkS (z:List D) (n m:Int) (bytes:Nat) (K:List (List D)→Prop):Prop where
  h:n=m∧0≤n∧n*bytes≤140737488355328∧n≤1000000000000∧K (List.replicate n.toNat z)
structure SetK (rows:List (List D)) (r off:Nat) (ds:List D) (K:List (List D)→Prop):Prop where
  h:∃row,rows[r]?=some row∧K (rows.set r (splice row off ds))
def eqI (az bs:List SC):Bool:=decide (az=bs)
def hiK (hi:Option AV) (K:Option Int→Prop):Prop:=match hi with | none=>K none | some x=>intK x fun _ n=>K (some n)

/-! Forced values. -/
def fD (x:D) (K:D→Prop):Prop:=match x with
  | .int k n=>K (.int k n) | .bool b=>K (.bool b) | .str s=>K (.str s) | .sl r=>K (.sl r) | .fn f c=>K (.fn f c) | .nilfn=>K .nilfn | .mp r=>K (.mp r)
theorem fD_eq {x:D} {K:D→Prop}:fD x K=K x:=by cases x <;> rfl
def fLV (x:LV) (K:LV→Prop):Prop:=match x with
  | .unk=>K .unk | .und=>K .und | .d x=>fD x fun x=>K (.d x) | .nil=>K .nil | .nilptr=>K .nilptr | .ptr k o=>K (.ptr k o) | .dptr c o=>K (.dptr c o)
  | .own k=>K (.own k) | .eptr k i sz o=>K (.eptr k i sz o) | .vw k sz lo hi f=>K (.vw k sz lo hi f) | .func f c=>K (.func f c) | .mfn f k=>K (.mfn f k) | .bsl k n z=>K (.bsl k n z) | .raw v=>K (.raw v)
theorem fLV_eq {x:LV} {K:LV→Prop}:fLV x K=K x:=by cases x <;> first | rfl | simp only[fLV,fD_eq]
def fLVs:List LV→(List LV→Prop)→Prop
  | [],K=>K []
  | x::r,K=>fLV x fun x=>fLVs r fun r=>K (x::r)
theorem fLVs_eq:∀{l:List LV} {K:List LV→Prop},fLVs l K=K l
  | [],K=>rfl
  | x::r,K=>by simp only[fLVs,fLV_eq,fLVs_eq]
def fAV1 (x:AV) (K:AV→Prop):Prop:=match x with | .l x=>fLV x fun x=>K (.l x) | .agg cs=>fLVs cs fun cs=>K (.agg cs) | .tup cs=>K (.tup cs)
theorem fAV1_eq {x:AV} {K:AV→Prop}:fAV1 x K=K x:=by cases x <;> simp only[fAV1,fLV_eq,fLVs_eq]
def fAV1s:List AV→(List AV→Prop)→Prop
  | [],K=>K []
  | x::r,K=>fAV1 x fun x=>fAV1s r fun r=>K (x::r)
theorem fAV1s_eq:∀{l:List AV} {K:List AV→Prop},fAV1s l K=K l
  | [],K=>rfl
  | x::r,K=>by simp only[fAV1s,fAV1_eq,fAV1s_eq]
def fAV (x:AV) (K:AV→Prop):Prop:=match x with | .l x=>fLV x fun x=>K (.l x) | .agg cs=>fLVs cs fun cs=>K (.agg cs) | .tup cs=>fAV1s cs fun cs=>K (.tup cs)
theorem fAV_eq {x:AV} {K:AV→Prop}:fAV x K=K x:=by cases x <;> simp only[fAV,fLV_eq,fLVs_eq,fAV1s_eq]
def fAVs:List AV→(List AV→Prop)→Prop
  | [],K=>K []
  | x::r,K=>fAV x fun x=>fAVs r fun r=>K (x::r)
theorem fAVs_eq:∀{l:List AV} {K:List AV→Prop},fAVs l K=K l
  | [],K=>rfl
  | x::r,K=>by simp only[fAVs,fAV_eq,fAVs_eq]
def fT:Tmps→(Tmps→Prop)→Prop
  | [],K=>K []
  | (i,x)::r,K=>fAV x fun x=>fT r fun r=>K ((i,x)::r)
theorem fT_eq:∀{l:Tmps} {K:Tmps→Prop},fT l K=K l
  | [],K=>rfl
  | (i,x)::r,K=>by simp only[fT,fAV_eq,fT_eq]
def fB:List (Nat×List LV)→(List (Nat×List LV)→Prop)→Prop
  | [],K=>K []
  | (i,x)::r,K=>fLVs x fun x=>fB r fun r=>K ((i,x)::r)
theorem fB_eq:∀{l:List (Nat×List LV)} {K:List (Nat×List LV)→Prop},fB l K=K l
  | [],K=>rfl
  | (i,x)::r,K=>by simp only[fB,fLVs_eq,fB_eq]
def fO:List (Nat×Own)→(List (Nat×Own)→Prop)→Prop
  | [],K=>K []
  | (i,(e,z,r))::l,K=>fO l fun l=>K ((i,(e,z,r))::l)
theorem fO_eq:∀{l:List (Nat×Own)} {K:List (Nat×Own)→Prop},fO l K=K l
  | [],K=>rfl
  | (i,(e,z,r))::l,K=>by simp only[fO,fO_eq]
def fN (n:Nat) (K:Nat→Prop):Prop:=match n with | 0=>K 0 | m+1=>K (m+1)
theorem fN_eq {n:Nat} {K:Nat→Prop}:fN n K=K n:=by cases n <;> rfl
def fU:List Frm→(List Frm→Prop)→Prop
  | [],K=>K []
  | ⟨t,n⟩::l,K=>fN n fun n=>fT t fun t=>fU l fun l=>K (⟨t,n⟩::l)
theorem fU_eq:∀{l:List Frm} {K:List Frm→Prop},fU l K=K l
  | [],K=>rfl
  | ⟨t,n⟩::l,K=>by simp only[fU,fN_eq,fT_eq,fU_eq]
def fS (s:St) (K:St→Prop):Prop:=match s with | ⟨t,n,u,b,o⟩=>fN n fun n=>fT t fun t=>fU u fun u=>fB b fun b=>fO o fun o=>K ⟨t,n,u,b,o⟩
theorem fS_eq {s:St} {K:St→Prop}:fS s K=K s:=by cases s; simp only[fS,fN_eq,fT_eq,fU_eq,fB_eq,fO_eq]
def putX (s:St) (dst:Option Nat) (v:AV) (K:St→Prop):Prop:=match s with
  | ⟨t,n,u,b,o⟩=>(match dst with | some d=>K ⟨(d,v)::t,n,u,b,o⟩ | none=>K ⟨t,n,u,b,o⟩)
theorem putX_eq {s:St} {dst:Option Nat} {v:AV} {K:St→Prop}:putX s dst v K=K (s.put dst v):=by cases s; cases dst <;> rfl
def appX (s:St) (dst:Option Nat) (ef:Eff) (K:St→Prop):Prop:=match ef with
  | ⟨v,nb,no,eat,use⟩=>(match nb with
    | none=>(match no with
      | none=>(match eat with
        | none=>putX s dst v K
        | some k=>fS (s.apply dst ⟨v,none,none,some k,use⟩) K)
      | some x=>fS (s.apply dst ⟨v,none,some x,eat,use⟩) K)
    | some x=>fS (s.apply dst ⟨v,some x,no,eat,use⟩) K)
theorem appX_eq {s:St} {dst:Option Nat} {ef:Eff} {K:St→Prop}:appX s dst ef K=K (s.apply dst ef):=by
  obtain⟨v,nb,no,eat,use⟩:=ef
  cases nb <;> cases no <;> cases eat <;> first | exact fS_eq | exact putX_eq
def fNb (x:Option (Nat×List LV)) (K:Option (Nat×List LV)→Prop):Prop:=match x with | none=>K none | some (k,l)=>fLVs l fun l=>K (some (k,l))
theorem fNb_eq {x:Option (Nat×List LV)} {K:Option (Nat×List LV)→Prop}:fNb x K=K x:=by cases x <;> simp only[fNb,fLVs_eq]
def fEff (e:Eff) (K:Eff→Prop):Prop:=match e with | ⟨v,nb,no,eat,use⟩=>fAV v fun v=>fNb nb fun nb=>K ⟨v,nb,no,eat,use⟩
theorem fEff_eq {e:Eff} {K:Eff→Prop}:fEff e K=K e:=by cases e; simp only[fEff,fAV_eq,fNb_eq]
def upX:List Frm→Nat→(Nat→Prop)→Prop
  | [],n,K=>K n
  | _::l,n,K=>upX l (1000+n) K
theorem upX_eq:∀{l:List Frm} {n:Nat} {K:Nat→Prop},upX l n K=K (l.length*1000+n)
  | [],n,K=>by unfold upX; rw[List.length_nil,Nat.zero_mul,Nat.zero_add]
  | _::l,n,K=>by unfold upX; rw[upX_eq,List.length_cons,Nat.add_mul,Nat.one_mul,Nat.add_assoc]
def keyX (up:List Frm) (dst:Option Nat) (K:Nat→Prop):Prop:=match dst with
  | some d=>upX up (d+1) K
  | none=>upX up 0 K
theorem keyX_eq {s:St} {dst:Option Nat} {K:Nat→Prop}:keyX s.up dst K=K (keyOf s dst):=by
  unfold keyX keyOf
  cases dst <;> simp only[upX_eq]

/-! Operations. -/
section
variable (T:TypeId→Option TI)
def ownK (ω:Nat→Option Own) (k:Nat) (K:TypeId→Nat→List (List D)→Prop):Prop:=match ω k with | some (e,z,r)=>K e z r | none=>False
def xld (t:TypeId) (x:AV) (β:Nat→Option (List LV)) (ω:Nat→Option Own) (K:Eff→Prop):Prop:=tyK T t fun i=>chk (Nat.blt 0 i.size) (match x with
  | .l (.ptr k off)=>rowK (β k) fun cs=>chk (Nat.ble (off+i.size) cs.length) (K { v:=loadV i cs off,use:=[k] })
  | .l (.dptr cells off)=>chk (Nat.ble (off+i.size) cells.length) (K { v:=loadV i (cells.map .d) off })
  | .l (.eptr k r sz off)=>ownK ω k fun e z rows=>chk (Nat.beq z sz) (chk (Nat.ble (off+i.size) sz) (RowK rows r fun row=>K { v:=loadV i (row.map .d) off,use:=[k] }))
  | _=>False)
def xfa (t:TypeId) (f:Nat) (x:AV) (K:Eff→Prop):Prop:=tyK T t fun i=>match i.k with
  | .struct fs=>(match fs[f]? with
    | some (off',ft)=>tyK T ft fun j=>chk (Nat.blt 0 j.size) (match x with
      | .l (.ptr k off)=>K { v:=.l (.ptr k (off+off')) }
      | .l (.dptr cs off)=>K { v:=.l (.dptr cs (off+off')) }
      | .l (.eptr k r sz off)=>K { v:=.l (.eptr k r sz (off+off')) }
      | _=>False)
    | none=>False)
  | _=>False
def xfi (t:TypeId) (f:Nat) (x:AV) (K:Eff→Prop):Prop:=tyK T t fun i=>match i.k with
  | .struct fs=>(match fs[f]? with
    | some (off',ft)=>tyK T ft fun j=>chk (Nat.blt 0 j.size) (aggK x fun cs=>chk (Nat.ble (off'+j.size) cs.length) (K { v:=loadV j cs off' }))
    | none=>False)
  | _=>False
/-- One of few places. -/
def idxB (n:Int):Nat→Nat→(Nat→Prop)→Prop
  | _,0,_=>False
  | j,m+1,K=>forkK (decide (n=(j:Int))) (K j) (idxB n (j+1) m K)
def xidx (t:TypeId) (x ix:AV) (ω:Nat→Option Own) (K:Eff→Prop):Prop:=tyK T t fun i=>match i.k with
  | .slice e=>tyK T e fun ie=>chk (Nat.blt 0 ie.size) (intK ix fun _ n=>match x with
    | .l (.d (.sl rows))=>IdxK rows n ie.size fun row=>K { v:=.l (.dptr row 0) }
    | .l (.own k)=>ownK ω k fun e z rows=>chk (Nat.beq z ie.size) (IdxO rows n (K { v:=.l (.eptr k n.toNat ie.size 0),use:=[k] }))
    | .l (.bsl k m sz)=>chk (Nat.beq sz ie.size) (idxB n 0 m fun j=>K { v:=.l (.ptr k (j*sz)),use:=[k] })
    | _=>False)
  | _=>False
def keq (k k':IntKind) (X:Prop):Prop:=chk (decide (k=k')) X
def xbin (t:TypeId) (op:BinOp) (x y:AV) (K:D→Prop):Prop:=match op with
  | .add=>intK x fun k a=>intK y fun k' b=>keq k k' (K (.int k (k.wrap (a+b))))
  | .sub=>intK x fun k a=>intK y fun k' b=>keq k k' (K (.int k (k.wrap (a-b))))
  | .mul=>intK x fun k a=>intK y fun k' b=>keq k k' (K (.int k (k.wrap (a*b))))
  | .quo=>intK x fun k a=>intK y fun k' b=>keq k k' (b≠0∧K (.int k (k.wrap (a.tdiv b))))
  | .rem=>intK x fun k a=>intK y fun k' b=>keq k k' (b≠0∧K (.int k (a.tmod b)))
  | .lss=>intK x fun k a=>intK y fun k' b=>keq k k' (K (.bool (decide (a<b))))
  | .leq=>intK x fun k a=>intK y fun k' b=>keq k k' (K (.bool (decide (a≤b))))
  | .gtr=>intK x fun k a=>intK y fun k' b=>keq k k' (K (.bool (decide (a>b))))
  | .geq=>intK x fun k a=>intK y fun k' b=>keq k k' (K (.bool (decide (a≥b))))
  | .eql=>(match x with
    | .l (.d (.int k a))=>intK y fun k' b=>keq k k' (K (.bool (decide (a=b))))
    | .l (.d (.bool a))=>boolK y fun b=>tyK T t fun i=>(match i.k with | .bool=>K (.bool (decide (a=b))) | _=>False)
    | .agg xs=>aggK y fun ys=>tyK T t fun i=>rowK (intsOf xs) fun az=>rowK (intsOf ys) fun bs=>chk i.eq (chk (decide (i.kds=some (az.map SC.kd))) (chk (decide (i.kds=some (bs.map SC.kd))) (K (.bool (eqI az bs)))))
    | _=>False)
  | .neq=>(match x with
    | .l (.d (.int k a))=>intK y fun k' b=>keq k k' (K (.bool (!decide (a=b))))
    | .l (.d (.bool a))=>boolK y fun b=>tyK T t fun i=>(match i.k with | .bool=>K (.bool (!decide (a=b))) | _=>False)
    | .agg xs=>aggK y fun ys=>tyK T t fun i=>rowK (intsOf xs) fun az=>rowK (intsOf ys) fun bs=>chk i.eq (chk (decide (i.kds=some (az.map SC.kd))) (chk (decide (i.kds=some (bs.map SC.kd))) (K (.bool (!eqI az bs)))))
    | _=>False)
  | _=>False
def xlen (t:TypeId) (x:AV) (ω:Nat→Option Own) (K:Eff→Prop):Prop:=tyK T t fun i=>match i.k with
    | .slice _=>(match x with
      | .l (.d (.sl rows))=>LenK rows fun n=>K { v:=.l (.d (.int .i64 n)) }
      | .l .nil=>K { v:=.l (.d (.int .i64 0)) }
      | .l (.own k)=>ownK ω k fun e z rows=>LenK rows fun n=>K { v:=.l (.d (.int .i64 n)),use:=[k] }
      | _=>False)
    | .str=>(match x with | .l (.d (.str s))=>K { v:=.l (.d (.int .i64 s.size)) } | _=>False)
    | _=>False
def xapp (t:TypeId) (x y:AV) (ω:Nat→Option Own) (key:Nat) (K:Eff→Prop):Prop:=tyK T t fun i=>match i.k with
    | .slice e=>tyK T e fun ie=>chk (Nat.blt 0 ie.size) (chk (Nat.blt 0 ie.bytes) (rowK (rowsOf ω y) fun p=>match x with
        | .l .nil=>ApK [] p.1 ie.size ie.bytes fun rows'=>K { v:=.l (.own key),no:=some (key,e,ie.size,rows'),use:=p.2 }
        | .l (.own k)=>ownK ω k fun e' z rows=>chk (Nat.beq e' e) (chk (Nat.beq z ie.size) (chk (!p.2.contains k) (ApK rows p.1 ie.size ie.bytes fun rows'=>K { v:=.l (.own key),no:=some (key,e,ie.size,rows'),eat:=some k,use:=k::p.2 })))
        | .l (.vw k sz lo hi full)=>ownK ω k fun e' z rows=>chk (Nat.beq e' e) (chk (Nat.beq z ie.size) (chk (Nat.beq sz ie.size) (chk full (ApV rows lo hi p.1 ie.size ie.bytes fun rows'=>K { v:=.l (.own key),no:=some (key,e,ie.size,rows'),use:=k::p.2 }))))
        | _=>False))
    | _=>False
def xsli (sz:Nat) (x:AV) (lo hi mx:Option AV) (ω:Nat→Option Own) (K:Eff→Prop):Prop:=match x with
  | .l (.d (.sl rows))=>rowK (intOr 0 lo) fun l=>hiK hi fun h=>SlD rows l h sz (mx=none∨mx=hi) fun rows'=>K { v:=.l (.d (.sl rows')) }
  | .l (.own k)=>ownK ω k fun e z rows=>chk (Nat.beq z sz) (rowK (intOr 0 lo) fun l=>hiK hi fun h=>SlO rows l h (mx=none∨mx=hi) fun l h=>K { v:=.l (.vw k sz l h mx.isSome),use:=[k] })
  | _=>False
def xmk (t:TypeId) (l c:AV) (key:Nat) (K:Eff→Prop):Prop:=tyK T t fun i=>match i.k with
  | .slice e=>tyK T e fun ie=>chk (Nat.blt 0 ie.size) (intK l fun _ n=>intK c fun _ m=>rowK (closeLs ie.zero) fun z=>MkS z n m ie.bytes fun rows=>K { v:=.l (.own key),no:=some (key,e,ie.size,rows) })
  | _=>False
def xbs (t:TypeId) (len:Nat) (ps:List (Nat×AV)) (key:Nat) (K:Eff→Prop):Prop:=tyK T t fun i=>match i.k with
  | .slice e=>tyK T e fun ie=>chk (Nat.blt 0 ie.size) (chk (Nat.ble (len*ie.size) 1000000) (rowK (litRows ie.size 0 ps) fun rows=>LitK rows len fun rows=>K { v:=.l (.own key),no:=some (key,e,ie.size,rows) }))
  | _=>False
def xbu (t:TypeId) (ps:List (Nat×AV)) (K:Eff→Prop):Prop:=tyK T t fun i=>match i.k with
  | .struct fs=>rowK (fillL fs T ps i.zero) fun cs=>K { v:=.agg cs }
  | _=>False
def effX (o:Oper) (ρ:Operand→AV) (β:Nat→Option (List LV)) (ω:Nat→Option Own) (key:Nat) (K:Eff→Prop):Prop:=
  match o.op with
  | .move x=>K { v:=ρ x }
  | .assign x=>K { v:=ρ x }
  | .pick c a b=>boolK (ρ c) fun t=>forkK t (fAV (ρ a) fun a=>K { v:=a }) (fAV (ρ b) fun b=>K { v:=b })
  | .alloc e=>tyK T e fun i=>K { v:=.l (.ptr key 0),nb:=some (key,i.zero) }
  | .box _ x=>rowK (cellsV (ρ x)) fun cs=>chk (cs.all LV.ok) (K { v:=.l (.ptr key 0),nb:=some (key,cs) })
  | .load t x=>xld T t (ρ x) β ω K
  | .fieldAddr t x f=>xfa T t f (ρ x) K
  | .field t x f=>xfi T t f (ρ x) K
  | .indexAddr t x ix=>xidx T t (ρ x) (ρ ix) ω K
  | .binOp op t x y _=>xbin T t op (ρ x) (ρ y) fun d=>K { v:=.l (.d d) }
  | .unOp .not _ x=>boolK (ρ x) fun b=>K { v:=.l (.d (.bool (!b))) }
  | .unOp .neg _ x=>intK (ρ x) fun k n=>K { v:=.l (.d (.int k (k.wrap (0-n)))) }
  | .convert src dst x=>cvK T src dst (ρ x) K
  | .makeFunc (.func f) first caps=>rowK (capsOf (caps.toList.map ρ)) fun cs=>rowK (mfOf f (first.toList.map ρ) cs) fun x=>K { v:=.l x }
  | .slice t x lo hi mx=>tyK T t fun i=>(match i.k with | .slice e=>tyK T e fun ie=>xsli ie.size (ρ x) (lo.map ρ) (hi.map ρ) (mx.map ρ) ω K | _=>False)
  | .build t parts=>xbu T t (parts.toList.map fun x=>(x.1,ρ x.2)) K
  | .buildSlice t len parts=>xbs T t len (parts.toList.map fun x=>(x.1,ρ x.2)) key K
  | .makeSlice t l c=>xmk T t (ρ l) (ρ c) key K
  | .extract x i=>(match ρ x with | .tup cs=>(match cs[i]? with | some (.l y)=>K { v:=.l y } | some (.agg y)=>K { v:=.agg y } | _=>False) | _=>False)
  | .nilCheck x=>(match ρ x with | .l (.ptr k off)=>K { v:=.l (.ptr k off) } | .l (.dptr cs off)=>K { v:=.l (.dptr cs off) } | .l (.eptr k i sz off)=>K { v:=.l (.eptr k i sz off) } | _=>False)
  | .call ⟨.builtin .len,args,ts⟩=>(match args.toList,ts.toList with | [x],[t]=>xlen T t (ρ x) ω K | _,_=>False)
  | .call ⟨.builtin .append,args,ts⟩=>(match args.toList,ts.toList with | [x,y],[t,t']=>chk (Nat.beq t t') (xapp T t (ρ x) (ρ y) ω key K) | _,_=>False)
  | .call ⟨.builtin .max,args,ts⟩=>(match args.toList with | [x,y]=>intK (ρ x) fun k a=>intK (ρ y) fun _ b=>K { v:=.l (.d (.int k (if b>a then b else a))) } | _=>False)
  | .call ⟨.builtin .min,args,ts⟩=>(match args.toList with | [x,y]=>intK (ρ x) fun k a=>intK (ρ y) fun _ b=>K { v:=.l (.d (.int k (if b<a then b else a))) } | _=>False)
  | _=>False
end
end Go.VC
