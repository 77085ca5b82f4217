/- Part 5 of what follows is proved here: the layer over the walk. -/
import Derived.Test.YtldlcdnhdedoeaaGreatV3
set_option linter.unusedVariables false
set_option linter.unusedSimpArgs false
namespace Go.VC
open Go.RowKit (Below)

/-! What an effect touches. -/
structure FP where
  nb:Option Nat
  no:Option Nat
  eat:Option Nat
  use:List Nat
def fp (e:Eff):FP:=⟨e.nb.map (·.1),e.no.map (·.1),e.eat,e.use⟩
def fNs:List Nat→(List Nat→Prop)→Prop
  | [],K=>K []
  | k::r,K=>fNs r fun r=>K (k::r)
theorem fNs_eq:∀{l:List Nat} {K:List Nat→Prop},fNs l K=K l
  | [],K=>rfl
  | x::r,K=>by simp only[fNs,fNs_eq]
def opt1 (x:Option Nat) (p:Nat→Bool):Bool:=match x with | some k=>p k | none=>true
def pairF (ops:Array Oper) (oi oj:Oper) (ei ej:FP):Bool:=
  oi.apart ops oj && opt1 ej.eat (fun q=>!ei.use.contains q) && opt1 ei.eat (fun q=>!ej.use.contains q) && opt1 ei.nb (fun k=>!ej.use.contains k) && opt1 ej.nb (fun k=>!ei.use.contains k) &&
  opt1 ei.no (fun k=>!ej.use.contains k) && opt1 ej.no (fun k=>!ei.use.contains k) &&
  opt1 ei.nb (fun k=>opt1 ej.nb fun k'=>k != k') && opt1 ei.no (fun k=>opt1 ej.no fun k'=>k != k') && opt1 ei.eat (fun q=>opt1 ej.no fun k=>q != k) && opt1 ej.eat (fun q=>opt1 ei.no fun k=>q != k)
def drawF (ops:Array Oper) (efs:List FP) (m:Nat):Bool:=
  let an:=ancs ops.toList []
  (efs.length == m) && decide (m≤ops.size) &&
  ((List.range ops.size).all fun j=>match ops[j]? with | some o=>o.after.toList.all (fun e=>!Region.binds .any e || decide (e.on<j)) | none=>true) &&
  ((List.range ops.size).all fun j=>decide (j<m) || (List.range j).all fun i=>(an.getD j []).contains i) &&
  ((List.range m).all fun j=>(List.range j).all fun i=>(an.getD j []).contains i || (match ops[i]?,ops[j]?,efs[i]?,efs[j]? with | some oi,some oj,some ei,some ej=>pairF ops oi oj ei ej | _,_,_,_=>true)) &&
  ((List.range m).all fun i=>(List.range m).all fun j=>(i == j) || (match ops[i]?,ops[j]? with | some oi,some oj=>!Oper.makes oi || (oi.dst.isSome && oi.dst != oj.dst) | _,_=>true))
theorem pairF_eq {ops:Array Oper} {oi oj:Oper} {ei ej:Eff}:pairB ops oi oj ei ej=pairF ops oi oj (fp ei) (fp ej):=by
  obtain⟨v,nb,no,eat,use⟩:=ei
  obtain⟨v',nb',no',eat',use'⟩:=ej
  cases nb <;> cases no <;> cases eat <;> cases nb' <;> cases no' <;> cases eat' <;> rfl
theorem drawF_eq {ops:Array Oper} {efs:List Eff} {m:Nat}:drawB ops efs m=drawF ops (efs.map fp) m:=by
  unfold drawB drawF
  have h:∀i j:Nat,(match ops[i]?,ops[j]?,efs[i]?,efs[j]? with | some oi,some oj,some ei,some ej=>pairB ops oi oj ei ej | _,_,_,_=>true)=(match ops[i]?,ops[j]?,(efs.map fp)[i]?,(efs.map fp)[j]? with | some oi,some oj,some ei,some ej=>pairF ops oi oj ei ej | _,_,_,_=>true):=by
    intro i j
    rw[List.getElem?_map,List.getElem?_map]
    cases ops[i]? <;> cases ops[j]? <;> cases efs[i]? <;> cases efs[j]? <;> first | rfl | exact pairF_eq
  rw[List.length_map]
  have hc:∀{a b c d:Bool},a=c→b=d→(a && b)=(c && d):=by intro a b c d h1 h2; rw[h1,h2]
  refine hc (hc rfl ?_) rfl
  refine congrArg _ (funext fun j=>congrArg _ (funext fun i=>congrArg _ (h i j)))

/-! The same, told by lists. -/
structure DL where
  i:Nat
  o:Oper
  an:List Nat
  f:FP
def dls:Nat→List Oper→List (List Nat)→List FP→List DL
  | i,o::l,a::az,f::fs=>⟨i,o,a,f⟩::dls (i+1) l az fs
  | _,_,_,_=>[]
def edgesL:Nat→List Oper→Bool
  | _,[]=>true
  | j,o::l=>o.after.toList.all (fun e=>!Region.binds .any e || Nat.blt e.on j) && edgesL (j+1) l
def downL:Nat→List Nat→Bool
  | 0,_=>true
  | n+1,l=>l.contains n && downL n l
def chainL (m:Nat):Nat→List (List Nat)→Bool
  | _,[]=>true
  | j,a::l=>(Nat.blt j m || downL j a) && chainL m (j+1) l
def pairsL (ops:Array Oper):List DL→Bool
  | []=>true
  | x::r=>r.all (fun y=>y.an.contains x.i || pairF ops x.o y.o x.f y.f) && (r.all (fun y=>(!Oper.makes x.o || (x.o.dst.isSome && x.o.dst != y.o.dst)) && (!Oper.makes y.o || (y.o.dst.isSome && y.o.dst != x.o.dst))) && pairsL ops r)
def drawL (ops:Array Oper) (efs:List FP) (m:Nat):Bool:=
  (efs.length == m) && Nat.ble m ops.toList.length && edgesL 0 ops.toList && chainL m 0 (ancs ops.toList []) && pairsL ops (dls 0 ops.toList (ancs ops.toList []) efs)

theorem edgesL_s {l:List Oper}:∀{k:Nat},edgesL k l=true→∀(j:Nat) (o:Oper),l[j]?=some o→o.after.toList.all (fun e=>!Region.binds .any e || decide (e.on<k+j))=true:=by
  induction l with
  | nil=>intro k _ j o h; cases h
  | cons a r ih=>
    intro k h j o hj
    unfold edgesL at h
    rw[Bool.and_eq_true] at h
    cases j with
    | zero=>cases hj; simpa [Nat.blt_eq] using h.1
    | succ j=>
      have:=ih h.2 j o (by simpa using hj)
      rwa [show k+1+j=k+(j+1) by omega] at this
theorem downL_s {l:List Nat}:∀{n:Nat},downL n l=true→∀i,i<n→l.contains i=true
  | 0,_,i,h=>by omega
  | n+1,h,i,hi=>by
    unfold downL at h
    rw[Bool.and_eq_true] at h
    by_cases e:i=n
    · subst e; exact h.1
    · exact downL_s h.2 i (by omega)
theorem chainL_s {m:Nat} {l:List (List Nat)}:∀{k:Nat},chainL m k l=true→∀(j:Nat) (a:List Nat),l[j]?=some a→k+j<m∨∀i,i<k+j→a.contains i=true:=by
  induction l with
  | nil=>intro k _ j o h; cases h
  | cons a r ih=>
    intro k h j o hj
    unfold chainL at h
    rw[Bool.and_eq_true,Bool.or_eq_true,Nat.blt_eq] at h
    cases j with
    | zero=>
      cases hj
      rcases h.1 with h | h
      · exact .inl h
      · exact .inr (downL_s h)
    | succ j=>
      have:=ih h.2 j o (by simpa using hj)
      rwa [show k+1+j=k+(j+1) by omega] at this
theorem dls_get:∀{k:Nat} {l:List Oper} {az:List (List Nat)} {fs:List FP} {j:Nat} {o:Oper} {a:List Nat} {f:FP},l[j]?=some o→az[j]?=some a→fs[j]?=some f→(dls k l az fs)[j]?=some ⟨k+j,o,a,f⟩
  | k,[],_,_,j,o,a,f,h1,_,_=>by cases h1
  | k,_::_,[],_,j,o,a,f,_,h2,_=>by cases h2
  | k,_::_,_::_,[],j,o,a,f,_,_,h3=>by cases h3
  | k,x::l,y::az,z::fs,j,o,a,f,h1,h2,h3=>by
    cases j with
    | zero=>cases h1; cases h2; cases h3; rfl
    | succ j=>
      simp only[dls,List.getElem?_cons_succ] at h1 h2 h3 ⊢
      rw[dls_get h1 h2 h3,show k+1+j=k+(j+1) by omega]
theorem pairsL_s {ops:Array Oper}:∀{l:List DL},pairsL ops l=true→∀(i j:Nat) (x y:DL),i<j→l[i]?=some x→l[j]?=some y→(y.an.contains x.i || pairF ops x.o y.o x.f y.f)=true∧(!Oper.makes x.o || (x.o.dst.isSome && x.o.dst != y.o.dst))=true∧(!Oper.makes y.o || (y.o.dst.isSome && y.o.dst != x.o.dst))=true
  | [],_,i,j,x,y,_,hx,_=>by cases hx
  | a::r,h,i,j,x,y,hij,hx,hy=>by
    unfold pairsL at h
    rw[Bool.and_eq_true,Bool.and_eq_true,List.all_eq_true,List.all_eq_true] at h
    cases j with
    | zero=>omega
    | succ j=>
      cases i with
      | zero=>
        cases hx
        have hm:y∈r:=List.mem_of_getElem? (by simpa using hy)
        exact⟨h.1 y hm,by have:=h.2.1 y hm; rwa [Bool.and_eq_true] at this⟩
      | succ i=>exact pairsL_s h.2.2 i j x y (by omega) (by simpa using hx) (by simpa using hy)
theorem ancs_len:∀(l:List Oper) (acc:List (List Nat)),(ancs l acc).length=acc.length+l.length
  | [],acc=>rfl
  | o::r,acc=>by unfold ancs; rw[ancs_len r]; simp; omega
theorem drawL_s {ops:Array Oper} {efs:List FP} {m:Nat} (h:drawL ops efs m=true):drawF ops efs m=true:=by
  unfold drawL at h
  simp only[Bool.and_eq_true] at h
  obtain⟨⟨⟨⟨h1,h2⟩,h3⟩,h4⟩,h5⟩:=h
  have hlen:efs.length=m:=by simpa using h1
  have hm:m≤ops.size:=by rw[Nat.ble_eq] at h2; simpa using h2
  have han:(ancs ops.toList []).length=ops.size:=by rw[ancs_len]; simp
  have get:∀i,i<m→∃o a f,ops[i]?=some o∧(ancs ops.toList [])[i]?=some a∧efs[i]?=some f∧(dls 0 ops.toList (ancs ops.toList []) efs)[i]?=some ⟨i,o,a,f⟩:=by
    intro i hi
    have e1:ops[i]?=some ops[i]:=Array.getElem?_eq_getElem (by omega)
    have e2:(ancs ops.toList [])[i]?=some (ancs ops.toList [])[i]:=List.getElem?_eq_getElem (by omega)
    have e3:efs[i]?=some efs[i]:=List.getElem?_eq_getElem (by omega)
    refine⟨_,_,_,e1,e2,e3,?_⟩
    have:=dls_get (k:=0) (by rw[Array.getElem?_toList]; exact e1) e2 e3
    rwa [Nat.zero_add] at this
  unfold drawF
  simp only[Bool.and_eq_true]
  refine⟨⟨⟨⟨⟨h1,by simpa using hm⟩,?_⟩,?_⟩,?_⟩,?_⟩
  · rw[List.all_eq_true]
    intro j hj
    cases ho:ops[j]? with
    | none=>rfl
    | some o=>
      have:=edgesL_s h3 j o (by rw[Array.getElem?_toList]; exact ho)
      rwa [Nat.zero_add] at this
  · rw[List.all_eq_true]
    intro j hj
    have hj:j<ops.size:=by simpa using hj
    have e2:(ancs ops.toList [])[j]?=some (ancs ops.toList [])[j]:=List.getElem?_eq_getElem (by omega)
    rcases chainL_s h4 j _ e2 with h | h
    · simp only[Bool.or_eq_true,decide_eq_true_eq]; exact .inl (by omega)
    · simp only[Bool.or_eq_true,List.all_eq_true]
      refine .inr fun i hi=>?_
      rw[List.getD_eq_getElem?_getD,e2]
      exact h i (by have:i<j:=by simpa using hi
                    omega)
  · rw[List.all_eq_true]
    intro j hj
    rw[List.all_eq_true]
    intro i hi
    have hj:j<m:=by simpa using hj
    have hi:i<j:=by simpa using hi
    obtain⟨o1,a1,f1,b1,c1,d1,e1⟩:=get i (by omega)
    obtain⟨o2,a2,f2,b2,c2,d2,e2⟩:=get j hj
    have:=(pairsL_s h5 i j _ _ hi e1 e2).1
    simp only[b1,b2,d1,d2,List.getD_eq_getElem?_getD,c2]
    exact this
  · rw[List.all_eq_true]
    intro i hi
    rw[List.all_eq_true]
    intro j hj
    have hj:j<m:=by simpa using hj
    have hi:i<m:=by simpa using hi
    obtain⟨o1,a1,f1,b1,c1,d1,e1⟩:=get i hi
    obtain⟨o2,a2,f2,b2,c2,d2,e2⟩:=get j hj
    simp only[b1,b2]
    by_cases e:i=j
    · subst e; simp
    · rw[Bool.or_eq_true]
      right
      rcases Nat.lt_or_gt_of_ne e with h | h
      · exact (pairsL_s h5 i j _ _ h e1 e2).2.1
      · exact (pairsL_s h5 j i _ _ h e2 e1).2.2

section
variable (P:Program) (T:TypeId→Option TI)
def xsto (t:TypeId) (x v:AV) (s:St) (K:St→Prop):Prop:=tyK T t fun i=>rowK (cellsV v) fun cs=>chk (Nat.beq cs.length i.size) (chk (cs.all LV.ok) (match x with
    | .l (.ptr k off)=>rowK (assoc s.b k) fun old=>chk (Nat.ble (off+i.size) old.length) (K (s.setBox k (splice old off cs)))
    | .l (.eptr k r sz off)=>ownK (assoc s.o) k fun e z rows=>rowK (closeLs cs) fun ds=>chk (Nat.beq z sz) (chk (Nat.ble (off+i.size) sz) (SetK rows r off ds fun rows'=>K (s.setOwn k (e,z,rows'))))
    | _=>False))
def xasg (s:St) (dst:Option Nat) (v:AV) (K:St→Prop):Prop:=match v with
  | .l (.own k)=>keyX s.up dst fun key=>if k=key then K (s.put dst (.l (.own k))) else (match assoc (s.drop key).o k with
    | some _=>fS (s.rekey k key) fun s=>K (s.put dst (.l (.own key)))
    | none=>K (s.put dst (.l (.own k))))
  | v=>putX s dst v K
structure CallX (f:FuncId) (args:List AV) (s:St) (dst:Option Nat) (K:St→Prop):Prop where
  h:ACall P f args s fun r s'=>s'.n=s.n∧∃s2,Weak (s'.put dst r) s2∧K s2
def xcall (f:FuncId) (args:List AV) (s:St) (dst:Option Nat) (K:St→Prop):Prop:=
  fAVs args fun args=>fS s fun s=>CallX P f args s dst K
def nilL:LV→Bool
  | .nil=>true
  | _=>false
/-- A slice whose elements hold slices. -/
def hasNil (t:TypeId):Bool:=match T t with
  | some i=>(match i.k with | .slice e=>(match T e with | some ie=>ie.zero.any nilL | none=>false) | _=>false)
  | none=>false
/-- What waits for a lemma of its own. -/
structure OpX (o:Oper) (s:St) (K:St→Prop):Prop where
  h:OWp P o s K
def xOp (o:Oper) (s:St) (K:St→Prop):Prop:=chk (dstLt o.dst s.n) (match o.op with
  | .store t x v=>xsto T t (s.eval x) (s.eval v) s fun s'=>fS (s'.put o.dst (.l .unk)) K
  | .assign x=>fAV (s.eval x) fun v=>xasg s o.dst v K
  | .call { callee:=.value f,args,.. }=>(match s.eval f with
    | .l (.func f caps)=>xcall P f (args.toList.map s.eval++caps.map capAV) s o.dst K
    | .l (.mfn f k)=>xcall P f (.l (.ptr k 0)::args.toList.map s.eval) s o.dst K
    | .l (.d (.fn f caps))=>xcall P f (args.toList.map s.eval++caps.map fun cs=>.l (.dptr cs 0)) s o.dst K
    | _=>False)
  | .lookup _ _ _ _=>OpX P o s K
  | .index _ _ _=>OpX P o s K
  | .convert _ _ x=>(match s.eval x with
    | .l (.d (.int _ _))=>effX T o s.eval (assoc s.b) (assoc s.o) 0 fun ef=>fEff ef fun ef=>appX s o.dst ef K
    | _=>OpX P o s K)
  | .makeSlice t _ _=>(match hasNil T t with
    | true=>OpX P o s K
    | false=>keyX s.up o.dst fun key=>fS (s.drop key) fun s=>effX T o s.eval (assoc s.b) (assoc s.o) key fun ef=>fEff ef fun ef=>appX s o.dst ef K)
  | .call ⟨.builtin .len,args,_⟩=>(match args.toList with
    | [x]=>(match s.eval x with
      | .l (.bsl _ _ _)=>OpX P o s K
      | _=>effX T o s.eval (assoc s.b) (assoc s.o) 0 fun ef=>fEff ef fun ef=>appX s o.dst ef K)
    | _=>False)
  | .binOp _ _ x _ _=>(match s.eval x with
    | .l (.d (.str _))=>OpX P o s K
    | .l (.d (.fn _ _))=>OpX P o s K
    | .l (.d .nilfn)=>OpX P o s K
    | _=>effX T o s.eval (assoc s.b) (assoc s.o) 0 fun ef=>fEff ef fun ef=>appX s o.dst ef K)
  | _=>keyX s.up o.dst fun key=>(match Oper.makes o with
    | true=>fS (s.drop key) fun s=>effX T o s.eval (assoc s.b) (assoc s.o) key fun ef=>fEff ef fun ef=>appX s o.dst ef K
    | false=>effX T o s.eval (assoc s.b) (assoc s.o) key fun ef=>fEff ef fun ef=>appX s o.dst ef K))
def dstAt:List Oper→Nat→Option Nat
  | [],_=>none
  | o::_,0=>o.dst
  | _::r,n+1=>dstAt r n
theorem dstAt_eq (ops:Array Oper) (j:Nat):dstAt ops.toList j=(ops[j]?).bind (·.dst):=by
  rw[←Array.getElem?_toList]
  generalize ops.toList=l
  induction l generalizing j with
  | nil=>simp[dstAt]
  | cons a r ih=>cases j with
    | zero=>simp[dstAt]
    | succ n=>simp only[dstAt,List.getElem?_cons_succ]; exact ih n
def xOps (ops:Array Oper):List Oper→St→(St→Prop)→Prop
  | [],s,K=>K s
  | o::rest,s,K=>
    match o.guard with
    | none=>xOp P T o s fun s'=>xOps ops rest s' K
    | some (j,want)=>
      match dstAt ops.toList j with
      | some d=>
        (match s.get d with
        | .l (.d (.bool b))=>(match want with
          | true=>forkK b (putX s (some d) (.l (.d (.bool true))) fun s=>xOp P T o s fun s'=>xOps ops rest s' K) (chk (dstLt o.dst s.n) (putX s (some d) (.l (.d (.bool false))) fun s=>putX s o.dst (.l .und) fun s=>xOps ops rest s K))
          | false=>forkK b (chk (dstLt o.dst s.n) (putX s (some d) (.l (.d (.bool true))) fun s=>putX s o.dst (.l .und) fun s=>xOps ops rest s K)) (putX s (some d) (.l (.d (.bool false))) fun s=>xOp P T o s fun s'=>xOps ops rest s' K))
        | .l .und=>chk (dstLt o.dst s.n) (putX s o.dst (.l .und) fun s=>xOps ops rest s K)
        | _=>False)
      | none=>False
/-- Own arrays that become data ahead of an operation. -/
def preX (L:Cut) (dst:Option Nat) (s:St) (K:St→Prop):Prop:=match L.pre with
  | []=>K s
  | l=>(match dst with
    | some d=>(match assoc l d with | some ks=>fS (s.ices ks) K | none=>K s)
    | none=>K s)
def xOpsP (L:Cut) (ops:Array Oper):List Oper→St→(St→Prop)→Prop
  | [],s,K=>K s
  | o::rest,s,K=>
    match o.guard with
    | none=>preX L o.dst s fun s=>xOp P T o s fun s'=>xOpsP L ops rest s' K
    | some (j,want)=>
      match dstAt ops.toList j with
      | some d=>
        (match s.get d with
        | .l (.d (.bool b))=>(match want with
          | true=>forkK b (putX s (some d) (.l (.d (.bool true))) fun s=>preX L o.dst s fun s=>xOp P T o s fun s'=>xOpsP L ops rest s' K) (chk (dstLt o.dst s.n) (putX s (some d) (.l (.d (.bool false))) fun s=>putX s o.dst (.l .und) fun s=>xOpsP L ops rest s K))
          | false=>forkK b (chk (dstLt o.dst s.n) (putX s (some d) (.l (.d (.bool true))) fun s=>putX s o.dst (.l .und) fun s=>xOpsP L ops rest s K)) (putX s (some d) (.l (.d (.bool false))) fun s=>preX L o.dst s fun s=>xOp P T o s fun s'=>xOpsP L ops rest s' K))
        | .l .und=>chk (dstLt o.dst s.n) (putX s o.dst (.l .und) fun s=>xOpsP L ops rest s K)
        | _=>False)
      | none=>False
structure callD (g:FuncId) (cargs:List CV) (xs:List AV) (K:Eff→Prop):Prop where
  h:∃rs,Spec P g cargs (fun r=>r=rs)∧(rs.all CV.scalar=true∨xs.all AV.closed=true)∧fAV (resAV rs) fun v=>K { v:=v,use:=xs.flatMap AV.keys }
def xStep (o:Oper) (s:St) (K:Eff→Prop):Prop:=chk (dstLt o.dst s.n) (match o.op with
  | .call { callee:=.value f,args,.. }=>(match s.eval f with
    | .l (.func g caps)=>(match caps with
      | []=>rowK (closeVs s (args.toList.map s.eval)) fun cargs=>chk ((args.toList.map s.eval).all AV.noCap) (callD P g cargs (args.toList.map s.eval) K)
      | _=>False)
    | .l (.d (.fn g caps))=>rowK (closeVs s (args.toList.map s.eval++caps.map fun cs=>AV.l (.dptr cs 0))) fun cargs=>chk ((args.toList.map s.eval++caps.map fun cs=>AV.l (.dptr cs 0)).all AV.noCap) (callD P g cargs (args.toList.map s.eval++caps.map fun cs=>AV.l (.dptr cs 0)) K)
    | _=>False)
  | .store t x v=>(match o.dst with
    | none=>tyK T t fun i=>rowK (cellsV (s.eval v)) fun cs=>chk (Nat.beq cs.length i.size) (chk (cs.all LV.ok) (match s.eval x with
      | .l (.ptr k off)=>rowK (assoc s.b k) fun old=>chk (Nat.ble (off+i.size) old.length) (K { v:=.l .unk,nb:=some (k,splice old off cs),use:=[k] })
      | _=>False))
    | some _=>False)
  | _=>keyX s.up o.dst fun key=>effX T o s.eval (assoc s.b) (assoc s.o) key fun ef=>fEff ef K)
def fpK (e:Eff) (K:FP→Prop):Prop:=match e with
  | ⟨v,nb,no,eat,use⟩=>fNs use fun use=>(match nb with
    | none=>(match no with | none=>K ⟨none,none,eat,use⟩ | some (k,_)=>K ⟨none,some k,eat,use⟩)
    | some (j,_)=>(match no with | none=>K ⟨some j,none,eat,use⟩ | some (k,_)=>K ⟨some j,some k,eat,use⟩))
theorem fpK_eq {e:Eff} {K:FP→Prop}:fpK e K=K (fp e):=by
  obtain⟨v,nb,no,eat,use⟩:=e
  cases nb <;> cases no <;> simp only[fpK,fNs_eq,fp] <;> rfl
def xDr (ops:Array Oper):List Oper→St→List FP→(St→List FP→Prop)→Prop
  | [],s,efs,K=>K s efs
  | o::rest,s,efs,K=>
    match o.guard with
    | none=>xStep P T o s fun ef=>appX s o.dst ef fun s=>fpK ef fun f=>xDr ops rest s (efs++[f]) K
    | some (j,want)=>
      match dstAt ops.toList j with
      | some d=>
        (match s.get d with
        | .l (.d (.bool b))=>(match want with
          | true=>forkK b (putX s (some d) (.l (.d (.bool true))) fun s=>xStep P T o s fun ef=>appX s o.dst ef fun s=>fpK ef fun f=>xDr ops rest s (efs++[f]) K) (chk (dstLt o.dst s.n) (putX s (some d) (.l (.d (.bool false))) fun s=>putX s o.dst (.l .und) fun s=>xDr ops rest s (efs++[⟨none,none,none,[]⟩]) K))
          | false=>forkK b (chk (dstLt o.dst s.n) (putX s (some d) (.l (.d (.bool true))) fun s=>putX s o.dst (.l .und) fun s=>xDr ops rest s (efs++[⟨none,none,none,[]⟩]) K)) (putX s (some d) (.l (.d (.bool false))) fun s=>xStep P T o s fun ef=>appX s o.dst ef fun s=>fpK ef fun f=>xDr ops rest s (efs++[f]) K))
        | .l .und=>chk (dstLt o.dst s.n) (putX s o.dst (.l .und) fun s=>xDr ops rest s (efs++[⟨none,none,none,[]⟩]) K)
        | _=>False)
      | none=>False
structure DrwK (ops:Array Oper) (fps:List FP) (m:Nat) (X:Prop):Prop where
  h:drawL ops fps m=true∧X
def takeX {α:Type}:Nat→List α→(List α→Prop)→Prop
  | 0,_,K=>K []
  | _+1,[],K=>K []
  | n+1,x::r,K=>takeX n r fun t=>K (x::t)
theorem takeX_eq {α:Type}:∀{n:Nat} {l:List α} {K:List α→Prop},takeX n l K=K (l.take n)
  | 0,_,_=>rfl
  | _+1,[],_=>rfl
  | n+1,x::r,K=>by simp only[takeX,takeX_eq,List.take_succ_cons]
def dropX {α:Type}:Nat→List α→(List α→Prop)→Prop
  | 0,l,K=>K l
  | _+1,[],K=>K []
  | n+1,_::r,K=>dropX n r K
theorem dropX_eq {α:Type}:∀{n:Nat} {l:List α} {K:List α→Prop},dropX n l K=K (l.drop n)
  | 0,_,_=>rfl
  | _+1,[],_=>rfl
  | n+1,x::r,K=>by simp only[dropX,dropX_eq,List.drop_succ_cons]
def cleanX:List Oper→St→(St→Prop)→Prop
  | [],s,K=>K s
  | o::r,s,K=>match Oper.makes o with
    | true=>keyX s.up o.dst fun k=>fS (s.drop k) fun s=>cleanX r s K
    | false=>cleanX r s K
theorem cleanX_eq:∀{l:List Oper} {s:St} {K:St→Prop},cleanX l s K=K (cleanAll l s)
  | [],_,_=>rfl
  | o::r,s,K=>by
    unfold cleanX cleanAll St.clean
    cases Oper.makes o
    · simp only[cleanX_eq]; rfl
    · simp only[keyX_eq,fS_eq,cleanX_eq]; rfl
def xDraw (ops:Array Oper) (s:St) (K:St→Prop) (m:Nat):Prop:=
  takeX m ops.toList fun tk=>dropX m ops.toList fun dr=>cleanX tk s fun s=>xDr P T ops tk s [] fun s' efs=>DrwK ops efs m (xOps P T ops dr s' K)
def refX (s:St) (c:Operand) (b:Bool) (K:St→Prop):Prop:=match c with | .tmp t=>putX s (some t) (.l (.d (.bool b))) K | _=>K s
theorem refX_eq {s:St} {c:Operand} {b:Bool} {K:St→Prop}:refX s c b K=K (s.refine c b):=by cases c <;> first | rfl | exact putX_eq
def firstReg:Code→Option Nat
  | .region id _ _=>some id
  | .seq x y=>(match firstReg x with | some i=>some i | none=>firstReg y)
  | .cond (.tmp t) _ _=>some (100000+t)
  | .cond _ _ _=>none
  | .block _ c=>firstReg c
  | .loop c=>firstReg c
  | .scope c=>firstReg c
  | _=>none
/-- Do ways meet ahead of y? -/
def joinB (L:Cut) (y:Code):Bool:=match L.join with | []=>false | l=>(match firstReg y with | some i=>l.contains i | none=>false)
structure SeqX (xp:(Exit→St→Prop)→Prop) (yp:St→Prop) (Q:Exit→St→Prop):Prop where
  h:∃J:St→Prop,xp (fun e s'=>match e with | .normal=>∃s2,Weak s' s2∧J s2 | e=>Q e s')∧∀s2,J s2→yp s2
def xc (L:Cut):Code→(Exit→St→Prop)→St→Prop
  | .skip,Q,s=>Q .normal s
  | .label _,Q,s=>Q .normal s
  | .seq x y,Q,s=>(match joinB L y with
    | true=>SeqX (fun Q'=>xc L x Q' s) (fun s'=>xc L y Q s') Q
    | false=>xc L x (fun e s'=>match e with | .normal=>xc L y Q s' | e=>Q e s') s)
  | .cond c x y,Q,s=>(match s.eval c with
    | .l (.d (.bool b))=>forkK b (refX s c true (xc L x Q)) (refX s c false (xc L y Q))
    | _=>False)
  | .block id c,Q,s=>xc L c (fun e s'=>match e with | .exit i=>(if i=id then Q .normal s' else Q (.exit i) s') | e=>Q e s') s
  | .loop c,Q,s=>fS s fun s=>LoopVC (fun Q' s'=>xc L c Q' s') Q s
  | .exit id,Q,s=>Q (.exit id) s
  | .ret,Q,s=>Q .ret s
  | .region id ops draw,Q,s=>(match draw with
    | false=>xOpsP P T L ops ops.toList s fun s'=>fS (s'.cut L id) fun s'=>Q .normal s'
    | true=>fS s fun s=>∃m,xDraw P T ops s (fun s'=>fS (s'.cut L id) fun s'=>Q .normal s') m)
  | .scope c,Q,s=>xc L c (fun e s'=>match e with | .goto _=>False | e=>Q e s') s
  | c,Q,s=>fS s fun s=>AWp P c Q s
end

section
variable {P:Program} {T:TypeId→Option TI} {K K':St→Prop} {s:St} {L:Cut}

theorem ACall.mono {f:FuncId} {args:List AV} {K K':AV→St→Prop} (h:ACall P f args s K) (hm:∀r s,K r s→K' r s):ACall P f args s K':=
  ⟨h.1,fun w0 p0 p σ tm ups w vs hr hv=>(h.2 w0 p0 p σ tm ups w vs hr hv).mono fun e w' ⟨v,r,s',p',σ',he,hk,h1,h2⟩=>⟨v,r,s',p',σ',he,hm _ _ hk,h1,h2⟩⟩

theorem xsto_s {t:TypeId} {x v:AV} (h:xsto T t x v s K) (hm:∀s,K s→K' s):storeK T t x v s K':=by
  rw[storeK_eq]
  unfold xsto at h
  unfold stoK
  rw[tyK_iff] at h ⊢
  obtain⟨i,hi,h⟩:=h
  rw[rowK_iff] at h
  obtain⟨cs,hc,h⟩:=h
  rw[chk_iff,chk_iff,beq_t] at h
  obtain⟨h1,h2,h⟩:=h
  refine⟨i,hi,?_⟩
  unfold cellsK
  simp only[hc]
  refine⟨h1,h2,?_⟩
  split at h
  · rw[rowK_iff] at h
    obtain⟨old,ho,h⟩:=h
    rw[chk_iff,ble_t] at h
    simp only[ho]; exact⟨h.1,hm _ h.2⟩
  · rw[ownK_iff] at h
    obtain⟨z,hz,h⟩:=h
    rw[rowK_iff] at h
    obtain⟨ds,hd,h⟩:=h
    rw[chk_iff,chk_iff,beq_t,ble_t] at h
    obtain⟨a,b,⟨row,hr,h⟩⟩:=h
    simp only[hz,hd,getS_ex]
    exact⟨a,b,row,hr,hm _ h⟩
  · exact h.elim

theorem xasg_s {dst:Option Nat} {v:AV} (h:xasg s dst v K) (hm:∀s,K s→K' s):K' (s.assignV dst v):=by
  apply hm
  cases v with
  | l x=>cases x with
    | own k=>
      simp only[xasg,keyX_eq,fS_eq] at h
      simp only[St.assignV]
      split at h
      · rename_i e; rw[if_pos e]; exact h
      · rename_i e; rw[if_neg e]
        split at h
        · rename_i hx; simp only[hx]; exact h
        · rename_i hx; simp only[hx]; exact h
    | _=>simp only[xasg,putX_eq] at h; exact h
  | _=>simp only[xasg,putX_eq] at h; exact h

theorem CallX.of {f:FuncId} {args:List AV} {dst:Option Nat} (h:ACall P f args s fun r s'=>s'.n=s.n∧fAV r fun r=>putX s' dst r K):CallX P f args s dst K:=
  ⟨h.mono fun r s' hr=>⟨hr.1,_,Weak.refl _,by have:=hr.2; rwa [fAV_eq,putX_eq] at this⟩⟩
theorem OpX.mono {o:Oper} (h:OpX P o s K) (hm:∀s,K s→K' s):OWp P o s K':=fun w0 p0 p σ tm ups w Q hr=>
  Oper.wp_mono (fun a w' ⟨hd,s',p',σ',hk,hrel⟩=>⟨hd,s',p',σ',hm _ hk,hrel⟩) (h.h w0 p0 p σ tm ups w Q hr)
theorem xOp_s {o:Oper} (h:xOp P T o s K) (hm:∀s,K s→K' s):vcOp P T o s K':=by
  obtain⟨dst,op,ty,pos,after,g⟩:=o
  unfold xOp at h
  unfold vcOp
  rw[chk_iff] at h
  have h0:=h.1
  have h:=h.2
  simp only at h
  have pure:∀{op:Op},Oper.makes ⟨dst,op,ty,pos,after,g⟩=false→(effX T ⟨dst,op,ty,pos,after,g⟩ s.eval (assoc s.b) (assoc s.o) (keyOf s dst) fun ef=>fEff ef fun ef=>appX s dst ef K)→effK T ⟨dst,op,ty,pos,after,g⟩ (s.clean ⟨dst,op,ty,pos,after,g⟩).eval (assoc (s.clean ⟨dst,op,ty,pos,after,g⟩).b) (assoc (s.clean ⟨dst,op,ty,pos,after,g⟩).o) (keyOf s dst) fun ef=>K' ((s.clean ⟨dst,op,ty,pos,after,g⟩).apply dst ef):=by
    intro op hk h
    unfold St.clean
    rw[if_neg (by rw[hk]; exact Bool.false_ne_true)]
    exact effX_s h fun e he=>hm _ (by rwa [fEff_eq,appX_eq] at he)
  split at h
  · exact .inr ⟨h0,xsto_s h fun s hs=>hm _ (by rwa [fS_eq] at hs)⟩
  · rw[fAV_eq] at h; exact .inr ⟨h0,xasg_s h hm⟩
  · refine .inl fun w0 p0 p σ tm ups w Q hr=>?_
    rename_i f args ats _
    have go:∀{f:FuncId} {args:List AV},xcall P f args s dst K→ACall P f args s fun r s'=>s'.n=s.n∧∃s2,Weak (s'.put dst r) s2∧K s2:=by
      intro f args hc
      unfold xcall at hc
      rw[fAVs_eq,fS_eq] at hc
      exact hc.h
    have hcv:callV P s (s.eval f) (args.toList.map s.eval) fun r s'=>s'.n=s.n∧∃s2,Weak (s'.put dst r) s2∧K s2:=by
      unfold callV
      split at h
      · rename_i hf; simp only[hf]; exact go h
      · rename_i hf; simp only[hf]; exact go h
      · rename_i hf; simp only[hf]; exact go h
      · exact h.elim
    have:=call_sound (Q:=Q) (K:=fun s1=>∃s2,Weak s1 s2∧K s2) hr (o:=⟨dst,.call ⟨.value f,args,ats⟩,ty,pos,after,g⟩) (dstLt_spec h0) rfl hcv
    refine Oper.wp_mono (fun a w' ⟨hd,s',p',σ',⟨s2,hw,hk⟩,hrel⟩=>?_) this
    obtain⟨p2,σ2,h2⟩:=hw _ _ _ _ _ _ _ hrel
    exact⟨hd,s2,p2,σ2,hm _ hk,h2⟩
  · exact .inl (h.mono hm)
  · exact .inl (h.mono hm)
  · split at h
    · exact .inr ⟨h0,pure rfl h⟩
    · exact .inl (h.mono hm)
  · split at h
    · exact .inl (h.mono hm)
    · refine .inr ⟨h0,?_⟩
      rw[keyX_eq,fS_eq] at h
      show effK T _ _ _ _ _ _
      unfold St.clean
      rw[if_pos (by rfl)]
      exact effX_s h fun e he=>hm _ (by rwa [fEff_eq,appX_eq] at he)
  · split at h
    · split at h
      · exact .inl (h.mono hm)
      · exact .inr ⟨h0,pure rfl h⟩
    · exact h.elim
  · split at h
    · exact .inl (h.mono hm)
    · exact .inl (h.mono hm)
    · exact .inl (h.mono hm)
    · exact .inr ⟨h0,pure rfl h⟩
  · rename_i h1 h2 h3 _ _ _ _ _ _
    refine .inr ⟨h0,?_⟩
    rw[keyX_eq] at h
    have main:effK T ⟨dst,op,ty,pos,after,g⟩ (s.clean ⟨dst,op,ty,pos,after,g⟩).eval (assoc (s.clean ⟨dst,op,ty,pos,after,g⟩).b) (assoc (s.clean ⟨dst,op,ty,pos,after,g⟩).o) (keyOf s dst) fun ef=>K' ((s.clean ⟨dst,op,ty,pos,after,g⟩).apply dst ef):=by
      unfold St.clean
      split at h
      · rename_i hk
        rw[if_pos hk]
        rw[fS_eq] at h
        exact effX_s h fun e he=>hm _ (by rwa [fEff_eq,appX_eq] at he)
      · rename_i hk
        rw[if_neg (by rw[hk]; exact Bool.false_ne_true)]
        exact effX_s h fun e he=>hm _ (by rwa [fEff_eq,appX_eq] at he)
    split
    · first | exact (h1 _ _ _ rfl).elim | (rename_i e; exact (h1 _ _ _ e).elim)
    · first | exact (h2 _ rfl).elim | (rename_i e; exact (h2 _ e).elim)
    · first | exact (h3 _ _ _ rfl).elim | (rename_i e; exact (h3 _ _ _ e).elim)
    · exact main

theorem xOps_s {ops:Array Oper}:∀{l:List Oper} {s:St},xOps P T ops l s K→(∀s,K s→K' s)→vcOps P T ops l s K'
  | [],s,h,hm=>hm _ h
  | o::rest,s,h,hm=>by
    unfold xOps at h
    unfold vcOps
    split at h
    · rename_i hg; simp only[hg]; exact xOp_s h fun s hs=>xOps_s hs hm
    · rename_i j want hg
      simp only[hg]
      split at h <;> try exact h.elim
      rename_i d hd
      rw[dstAt_eq] at hd
      simp only[hd]
      split at h <;> try exact h.elim
      case h_2 hb=>
        simp only[hb]
        rw[chk_iff,putX_eq] at h
        exact⟨h.1,xOps_s h.2 hm⟩
      rename_i b hb
      simp only[hb]
      split at h
      · rw[forkK_eq,putX_eq] at h
        simp only[putX_eq] at h
        refine⟨fun e=>xOp_s (h.1 e) fun s hs=>xOps_s hs hm,fun e=>?_⟩
        have:=h.2 e
        rw[chk_iff] at this
        exact⟨this.1,xOps_s this.2 hm⟩
      · rw[forkK_eq,putX_eq] at h
        simp only[putX_eq] at h
        refine⟨fun e=>xOp_s (h.2 e) fun s hs=>xOps_s hs hm,fun e=>?_⟩
        have:=h.1 e
        rw[chk_iff] at this
        exact⟨this.1,xOps_s this.2 hm⟩

theorem callD_s {g:FuncId} {cargs:List CV} {xs:List AV} {K:Eff→Prop} (h:callD P g cargs xs K):∃rs,Spec P g cargs (fun r=>r=rs)∧(rs.all CV.scalar=true∨xs.all AV.closed=true)∧K { v:=resAV rs,use:=xs.flatMap AV.keys }:=by
  obtain⟨⟨rs,h1,h2,h3⟩⟩:=h
  rw[fAV_eq] at h3
  exact⟨rs,h1,h2,h3⟩

def Det (F:(Eff→Prop)→Prop):Prop:=∀K,F K→∃ef,F (fun e=>e=ef)∧K ef
theorem Det.k (e:Eff):Det (fun K=>K e):=fun K h=>⟨e,rfl,h⟩
theorem Det.no:Det (fun _=>False):=fun K h=>h.elim
theorem Det.chk {b:Bool} {F:(Eff→Prop)→Prop} (h:Det F):Det (fun K=>Go.VC.chk b (F K)):=by cases b; exact Det.no; exact h
theorem Det.and {A:Prop} {F:(Eff→Prop)→Prop} (h:Det F):Det (fun K=>A∧F K):=fun K hk=>let ⟨e,h1,h2⟩:=h K hk.2; ⟨e,⟨hk.1,h1⟩,h2⟩
theorem Det.row {α:Type} {o:Option α} {F:α→(Eff→Prop)→Prop} (h:∀a,Det (F a)):Det (fun K=>rowK o fun a=>F a K):=by cases o; exact Det.no; exact h _
theorem Det.ty {t:TypeId} {F:TI→(Eff→Prop)→Prop} (h:∀a,Det (F a)):Det (fun K=>tyK T t fun a=>F a K):=by
  unfold tyK; cases T t; exact Det.no; exact h _
theorem Det.fork {t:Bool} {F G:(Eff→Prop)→Prop} (h1:Det F) (h2:Det G):Det (fun K=>forkK t (F K) (G K)):=by cases t; exact h2; exact h1
theorem Det.own {ω:Nat→Option Own} {k:Nat} {F:TypeId→Nat→List (List D)→(Eff→Prop)→Prop} (h:∀a b c,Det (F a b c)):Det (fun K=>ownK ω k fun a b c=>F a b c K):=by
  unfold ownK; cases ω k; exact Det.no; exact h _ _ _
theorem Det.int {x:AV} {F:IntKind→Int→(Eff→Prop)→Prop} (h:∀a b,Det (F a b)):Det (fun K=>intK x fun a b=>F a b K):=by
  intro K hk
  rw[intK_iff] at hk
  obtain⟨k,n,rfl,hk⟩:=hk
  exact h k n K hk
theorem Det.bool {x:AV} {F:Bool→(Eff→Prop)→Prop} (h:∀a,Det (F a)):Det (fun K=>boolK x fun a=>F a K):=by
  intro K hk
  rw[boolK_iff] at hk
  obtain⟨n,rfl,hk⟩:=hk
  exact h n K hk
theorem Det.agg {x:AV} {F:List LV→(Eff→Prop)→Prop} (h:∀a,Det (F a)):Det (fun K=>aggK x fun a=>F a K):=by
  intro K hk
  rw[aggK_iff] at hk
  obtain⟨n,rfl,hk⟩:=hk
  exact h n K hk
theorem Det.fav {x:AV} {F:AV→(Eff→Prop)→Prop} (h:∀a,Det (F a)):Det (fun K=>fAV x fun a=>F a K):=by
  simp only[fAV_eq]; exact h _

theorem Det.rowS {rows:List (List D)} {r:Nat} {F:List D→(Eff→Prop)→Prop} (h:∀a,Det (F a)):Det (fun K=>RowK rows r fun a=>F a K):=fun K hk=>
  let ⟨row,h1,h2⟩:=hk.h
  let ⟨e,h3,h4⟩:=h row K h2
  ⟨e,⟨row,h1,h3⟩,h4⟩
theorem Det.idxS {rows:List (List D)} {n:Int} {sz:Nat} {F:List D→(Eff→Prop)→Prop} (h:∀a,Det (F a)):Det (fun K=>IdxK rows n sz fun a=>F a K):=fun K hk=>
  let ⟨h0,row,h1,hs,h2⟩:=hk.h
  let ⟨e,h3,h4⟩:=h row K h2
  ⟨e,⟨h0,row,h1,hs,h3⟩,h4⟩
theorem Det.idxO {rows:List (List D)} {n:Int} {F:(Eff→Prop)→Prop} (h:Det F):Det (fun K=>IdxO rows n (F K)):=fun K hk=>
  let ⟨h0,h1,h2⟩:=hk.h
  let ⟨e,h3,h4⟩:=h K h2
  ⟨e,⟨h0,h1,h3⟩,h4⟩
theorem Det.lenS {rows:List (List D)} {F:Int→(Eff→Prop)→Prop} (h:∀a,Det (F a)):Det (fun K=>LenK rows fun a=>F a K):=fun K hk=>
  let ⟨e,h3,h4⟩:=h _ K hk.h
  ⟨e,⟨h3⟩,h4⟩
theorem Det.apS {a b:List (List D)} {sz bytes:Nat} {F:List (List D)→(Eff→Prop)→Prop} (h:∀a,Det (F a)):Det (fun K=>ApK a b sz bytes fun a=>F a K):=fun K hk=>
  let ⟨h0,h1,h2⟩:=hk.h
  let ⟨e,h3,h4⟩:=h _ K h2
  ⟨e,⟨h0,h1,h3⟩,h4⟩
theorem Det.apV {a b:List (List D)} {lo hi sz bytes:Nat} {F:List (List D)→(Eff→Prop)→Prop} (h:∀a,Det (F a)):Det (fun K=>ApV a lo hi b sz bytes fun a=>F a K):=fun K hk=>
  let ⟨h0,h1,h2,h5,h6,h7⟩:=hk.h
  let ⟨e,h3,h4⟩:=h _ K h7
  ⟨e,⟨h0,h1,h2,h5,h6,h3⟩,h4⟩
theorem Det.slD {rows:List (List D)} {lo:Int} {hi:Option Int} {sz:Nat} {M:Prop} {F:List (List D)→(Eff→Prop)→Prop} (h:∀a,Det (F a)):Det (fun K=>SlD rows lo hi sz M fun a=>F a K):=fun K hk=>
  let ⟨h0,h1,h2,h5,h6,h7⟩:=hk.h
  let ⟨e,h3,h4⟩:=h _ K h7
  ⟨e,⟨h0,h1,h2,h5,h6,h3⟩,h4⟩
theorem Det.slO {rows:List (List D)} {lo:Int} {hi:Option Int} {M:Prop} {F:Nat→Nat→(Eff→Prop)→Prop} (h:∀a b,Det (F a b)):Det (fun K=>SlO rows lo hi M fun a b=>F a b K):=fun K hk=>
  let ⟨h0,h1,h2,h5,h7⟩:=hk.h
  let ⟨e,h3,h4⟩:=h _ _ K h7
  ⟨e,⟨h0,h1,h2,h5,h3⟩,h4⟩
theorem Det.litS {rows:List (List D)} {n:Nat} {F:List (List D)→(Eff→Prop)→Prop} (h:∀a,Det (F a)):Det (fun K=>LitK rows n fun a=>F a K):=fun K hk=>
  let ⟨e,h3,h4⟩:=h _ K hk.h.2
  ⟨e,⟨hk.h.1,h3⟩,h4⟩
theorem Det.mkS {z:List D} {n m:Int} {bytes:Nat} {F:List (List D)→(Eff→Prop)→Prop} (h:∀a,Det (F a)):Det (fun K=>MkS z n m bytes fun a=>F a K):=fun K hk=>
  let ⟨h0,h1,h2,h5,h7⟩:=hk.h
  let ⟨e,h3,h4⟩:=h _ K h7
  ⟨e,⟨h0,h1,h2,h5,h3⟩,h4⟩
theorem Det.hiS {hi:Option AV} {F:Option Int→(Eff→Prop)→Prop} (h:∀a,Det (F a)):Det (fun K=>hiK hi fun a=>F a K):=by
  unfold hiK
  cases hi with
  | none=>exact h _
  | some x=>exact Det.int fun _ _=>h _

theorem Det.ld {t:TypeId} {x:AV} {β:Nat→Option (List LV)} {ω:Nat→Option Own}:Det (xld T t x β ω):=by
  unfold xld
  refine Det.ty fun i=>Det.chk ?_
  cases x with
  | l x=>cases x with
    | ptr k off=>exact Det.row fun cs=>Det.chk (Det.k _)
    | dptr c off=>exact Det.chk (Det.k _)
    | eptr k r sz off=>exact Det.own fun _ _ _=>Det.chk (Det.chk (Det.rowS fun _=>Det.k _))
    | _=>exact Det.no
  | _=>exact Det.no
theorem Det.fa {t:TypeId} {f:Nat} {x:AV}:Det (xfa T t f x):=by
  unfold xfa
  refine Det.ty fun i=>?_
  cases i.k with
  | struct fs=>
    simp only
    cases fs[f]? with
    | none=>exact Det.no
    | some p=>
      obtain⟨a,b⟩:=p
      refine Det.ty fun j=>Det.chk ?_
      cases x with
      | l x=>cases x <;> first | exact Det.k _ | exact Det.no
      | _=>exact Det.no
  | _=>exact Det.no
theorem Det.fi {t:TypeId} {f:Nat} {x:AV}:Det (xfi T t f x):=by
  unfold xfi
  refine Det.ty fun i=>?_
  cases i.k with
  | struct fs=>
    simp only
    cases fs[f]? with
    | none=>exact Det.no
    | some p=>
      obtain⟨a,b⟩:=p
      exact Det.ty fun j=>Det.chk (Det.agg fun _=>Det.chk (Det.k _))
  | _=>exact Det.no
theorem Det.idxB {n:Int} {F:Nat→(Eff→Prop)→Prop} (h:∀j,Det (F j)):∀(m j:Nat),Det (fun K=>idxB n j m fun i=>F i K)
  | 0,_=>Det.no
  | m+1,j=>Det.fork (h j) (Det.idxB h m (j+1))
theorem Det.idx {t:TypeId} {x ix:AV} {ω:Nat→Option Own}:Det (xidx T t x ix ω):=by
  unfold xidx
  refine Det.ty fun i=>?_
  cases i.k with
  | slice e=>
    refine Det.ty fun ie=>Det.chk (Det.int fun k n=>?_)
    cases x with
    | l x=>cases x with
      | d x=>cases x with
        | sl rows=>exact Det.idxS fun _=>Det.k _
        | _=>exact Det.no
      | own k=>exact Det.own fun _ _ _=>Det.chk (Det.idxO (Det.k _))
      | bsl k m z=>exact Det.chk (Det.idxB (fun _=>Det.k _) m 0)
      | _=>exact Det.no
    | _=>exact Det.no
  | _=>exact Det.no
theorem Det.keq {k k':IntKind} {F:(Eff→Prop)→Prop} (h:Det F):Det (fun K=>Go.VC.keq k k' (F K)):=Det.chk h
theorem Det.bin {t:TypeId} {op:BinOp} {x y:AV} {f:D→Eff}:Det (fun K=>xbin T t op x y fun d=>K (f d)):=by
  unfold xbin
  cases op <;> try exact Det.no
  case eql | neq=>
    cases x with
    | l x=>cases x with
      | d x=>cases x with
        | int k n=>exact Det.int fun _ _=>Det.keq (Det.k _)
        | bool b=>
          refine Det.bool fun b=>Det.ty fun i=>?_
          cases i.k <;> first | exact Det.k _ | exact Det.no
        | _=>exact Det.no
      | _=>exact Det.no
    | agg xs=>exact Det.agg fun _=>Det.ty fun _=>Det.row fun _=>Det.row fun _=>Det.chk (Det.chk (Det.chk (Det.k _)))
    | _=>exact Det.no
  all_goals first
    | exact Det.int fun _ _=>Det.int fun _ _=>Det.keq (Det.k _)
    | exact Det.int fun _ _=>Det.int fun _ _=>Det.keq (Det.and (Det.k _))
theorem Det.len {t:TypeId} {x:AV} {ω:Nat→Option Own}:Det (xlen T t x ω):=by
  unfold xlen
  refine Det.ty fun i=>?_
  cases i.k with
  | slice e=>cases x with
    | l x=>cases x with
      | d x=>cases x <;> first | exact Det.lenS fun _=>Det.k _ | exact Det.no
      | own k=>exact Det.own fun _ _ _=>Det.lenS fun _=>Det.k _
      | nil=>exact Det.k _
      | _=>exact Det.no
    | _=>exact Det.no
  | str=>cases x with
    | l x=>cases x with
      | d x=>cases x <;> first | exact Det.k _ | exact Det.no
      | _=>exact Det.no
    | _=>exact Det.no
  | _=>exact Det.no
theorem Det.app {t:TypeId} {x y:AV} {ω:Nat→Option Own} {key:Nat}:Det (xapp T t x y ω key):=by
  unfold xapp
  refine Det.ty fun i=>?_
  cases i.k with
  | slice e=>
    refine Det.ty fun ie=>Det.chk (Det.chk (Det.row fun p=>?_))
    cases x with
    | l x=>cases x with
      | nil=>exact Det.apS fun _=>Det.k _
      | own k=>exact Det.own fun _ _ _=>Det.chk (Det.chk (Det.chk (Det.apS fun _=>Det.k _)))
      | vw k sz lo hi full=>exact Det.own fun _ _ _=>Det.chk (Det.chk (Det.chk (Det.chk (Det.apV fun _=>Det.k _))))
      | _=>exact Det.no
    | _=>exact Det.no
  | _=>exact Det.no
theorem Det.cv {src dst:TypeId} {x:AV}:Det (cvK T src dst x):=by
  unfold cvK
  refine Det.ty fun i=>Det.ty fun j=>?_
  cases i.k <;> try exact Det.no
  cases j.k <;> first | exact Det.no | exact Det.int fun _ _=>Det.k _
theorem Det.sli {sz:Nat} {x:AV} {lo hi mx:Option AV} {ω:Nat→Option Own}:Det (xsli sz x lo hi mx ω):=by
  unfold xsli
  cases x with
  | l x=>cases x with
    | d x=>cases x with
      | sl rows=>exact Det.row fun _=>Det.hiS fun _=>Det.slD fun _=>Det.k _
      | _=>exact Det.no
    | own k=>exact Det.own fun _ _ _=>Det.chk (Det.row fun _=>Det.hiS fun _=>Det.slO fun _ _=>Det.k _)
    | _=>exact Det.no
  | _=>exact Det.no
theorem Det.mk' {t:TypeId} {l c:AV} {key:Nat}:Det (xmk T t l c key):=by
  unfold xmk
  refine Det.ty fun i=>?_
  cases i.k with
  | slice e=>exact Det.ty fun _=>Det.chk (Det.int fun _ _=>Det.int fun _ _=>Det.row fun _=>Det.mkS fun _=>Det.k _)
  | _=>exact Det.no
theorem Det.bs {t:TypeId} {len:Nat} {ps:List (Nat×AV)} {key:Nat}:Det (xbs T t len ps key):=by
  unfold xbs
  refine Det.ty fun i=>?_
  cases i.k with
  | slice e=>exact Det.ty fun _=>Det.chk (Det.chk (Det.row fun _=>Det.litS fun _=>Det.k _))
  | _=>exact Det.no
theorem Det.bu {t:TypeId} {ps:List (Nat×AV)}:Det (xbu T t ps):=by
  unfold xbu
  refine Det.ty fun i=>?_
  cases i.k with
  | struct e=>exact Det.row fun _=>Det.k _
  | _=>exact Det.no
theorem Det.nil' {x:AV}:Det (fun K=>match x with | .l (.ptr k off)=>K { v:=.l (.ptr k off) } | .l (.dptr cs off)=>K { v:=.l (.dptr cs off) } | .l (.eptr k i sz off)=>K { v:=.l (.eptr k i sz off) } | _=>False):=by
  cases x with
  | l x=>cases x <;> first | exact Det.k _ | exact Det.no
  | _=>exact Det.no
theorem Det.ext {x:AV} {i:Nat}:Det (fun K=>match x with | .tup cs=>(match cs[i]? with | some (.l y)=>K { v:=.l y } | some (.agg y)=>K { v:=.agg y } | _=>False) | _=>False):=by
  cases x with
  | tup cs=>
    simp only
    cases cs[i]? with
    | none=>exact Det.no
    | some y=>cases y <;> first | exact Det.k _ | exact Det.no
  | _=>exact Det.no
theorem Det.eff {o:Oper} {ρ:Operand→AV} {β:Nat→Option (List LV)} {ω:Nat→Option Own} {key:Nat}:Det (effX T o ρ β ω key):=by
  intro K h
  obtain⟨dst,op,ty,pos,after,g⟩:=o
  unfold effX at h ⊢
  simp only at h ⊢
  split at h
  · exact⟨_,rfl,h⟩
  · exact⟨_,rfl,h⟩
  · exact Det.bool (F:=fun t K=>forkK t (fAV _ fun a=>K { v:=a }) (fAV _ fun b=>K { v:=b })) (fun t=>Det.fork (Det.fav fun _=>Det.k _) (Det.fav fun _=>Det.k _)) K h
  · exact Det.ty (F:=fun i K=>K { v:=.l (.ptr key 0),nb:=some (key,i.zero) }) (fun _=>Det.k _) K h
  · exact Det.row (F:=fun cs K=>Go.VC.chk (cs.all LV.ok) (K { v:=.l (.ptr key 0),nb:=some (key,cs) })) (fun _=>Det.chk (Det.k _)) K h
  · exact Det.ld K h
  · exact Det.fa K h
  · exact Det.fi K h
  · exact Det.idx K h
  · exact Det.bin K h
  · exact Det.bool (F:=fun b K=>K { v:=.l (.d (.bool (!b))) }) (fun _=>Det.k _) K h
  · exact Det.int (F:=fun k n K=>K { v:=.l (.d (.int k (k.wrap (0-n)))) }) (fun _ _=>Det.k _) K h
  · exact Det.cv K h
  · rename_i f first caps
    exact Det.row (F:=fun cs K=>rowK (mfOf f (first.toList.map ρ) cs) fun x=>K { v:=.l x }) (fun _=>Det.row (F:=fun x K=>K { v:=.l x }) fun _=>Det.k _) K h
  · rename_i t x lo hi mx
    refine Det.ty (F:=fun i K=>(match i.k with | .slice e=>tyK T e fun ie=>xsli ie.size (ρ x) (lo.map ρ) (hi.map ρ) (mx.map ρ) ω K | _=>False)) (fun i=>?_) K h
    cases i.k with
    | slice e=>exact Det.ty fun _=>Det.sli
    | _=>exact Det.no
  · exact Det.bu K h
  · exact Det.bs K h
  · exact Det.mk' K h
  · exact Det.ext K h
  · exact Det.nil' K h
  · split at h
    · exact Det.len K h
    · exact h.elim
  · split at h
    · exact Det.chk Det.app K h
    · exact h.elim
  · split at h
    · rename_i _ x y ha
      exact Det.int (F:=fun k a K=>intK (ρ y) fun _ b=>K { v:=.l (.d (.int k (if b>a then b else a))) }) (fun k a=>Det.int (F:=fun _ b K=>K { v:=.l (.d (.int k (if b>a then b else a))) }) fun _ _=>Det.k _) K h
    · exact h.elim
  · split at h
    · rename_i _ x y ha
      exact Det.int (F:=fun k a K=>intK (ρ y) fun _ b=>K { v:=.l (.d (.int k (if b<a then b else a))) }) (fun k a=>Det.int (F:=fun _ b K=>K { v:=.l (.d (.int k (if b<a then b else a))) }) fun _ _=>Det.k _) K h
    · exact h.elim
  · exact h.elim

theorem xStep_s {o:Oper} {K:Eff→Prop} (h:xStep P T o s K):∃ef,stepE P T o s ef∧K ef:=by
  obtain⟨dst,op,ty,pos,after,g⟩:=o
  unfold xStep at h
  rw[chk_iff] at h
  obtain⟨hd,h⟩:=h
  unfold stepE
  simp only at h ⊢
  split at h
  · split at h <;> try exact h.elim
    · rename_i f' caps hf
      split at h <;> try exact h.elim
      rw[rowK_iff] at h
      obtain⟨cargs,hc,h⟩:=h
      rw[chk_iff] at h
      obtain⟨rs,h1,h2,h3⟩:=callD_s h.2
      refine⟨_,⟨hd,_,[],cargs,rs,by rw[hf]; rfl,h1,?_,?_,?_,rfl⟩,?_⟩
      · rw[List.append_nil]; exact hc
      · rw[List.append_nil]; exact h.1
      · rw[List.append_nil]; exact h2
      · rw[List.append_nil]; exact h3
    · rename_i f' caps hf
      rw[rowK_iff] at h
      obtain⟨cargs,hc,h⟩:=h
      rw[chk_iff] at h
      obtain⟨rs,h1,h2,h3⟩:=callD_s h.2
      exact⟨_,⟨hd,_,_,cargs,rs,by rw[hf]; rfl,h1,hc,h.1,h2,rfl⟩,h3⟩
  · rename_i t x v
    split at h <;> try exact h.elim
    rw[tyK_iff] at h
    obtain⟨i,hi,h⟩:=h
    rw[rowK_iff] at h
    obtain⟨cs,hc,h⟩:=h
    rw[chk_iff,chk_iff,beq_t] at h
    obtain⟨h1,h2,h⟩:=h
    split at h <;> try exact h.elim
    rename_i k off hx
    rw[rowK_iff] at h
    obtain⟨old,ho,h⟩:=h
    rw[chk_iff,ble_t] at h
    exact⟨_,⟨hd,k,off,i,cs,old,rfl,hx,hi,hc,h1,h2,ho,h.1,rfl⟩,h.2⟩
  · rename_i h3 h4
    rw[keyX_eq] at h
    obtain⟨ef,he,hk⟩:=Det.eff _ h
    rw[fEff_eq] at hk
    refine⟨ef,⟨hd,?_⟩,hk⟩
    split
    · exact (h3 _ _ _ rfl).elim
    · exact (h4 _ _ _ rfl).elim
    · exact effX_s he fun e h=>h

end
end Go.VC
