/- Part 11 of what follows is proved here: what the statement TopAccepts needs of functions and plain laws. -/
import Derived.Test.YtldlcdnhdedoeaaGreatV9
import Derived.Test.YtldlcdnhdedoeaaGreatV8
set_option linter.unusedVariables false
set_option linter.unusedSimpArgs false
namespace Go.VC
/-! Loops that answer something of which more is known. -/
section
variable {α β σ R:Type}
theorem lp_ex {body:(σ→Option R)→σ→Option R} (m:σ→Nat) (I:σ→Prop) (P:R→Prop) (step:∀(nx:σ→Option R) (v:σ),I v→(∀v',I v'→m v'<m v→∃r,nx v'=some r∧P r)→∃r,body nx v=some r∧P r) :
    ∀(n:Nat) (v:σ),I v→m v<n→∃r,lp body n v=some r∧P r
  | 0,v,_,h=>by omega
  | n+1,v,hI,h=>by
    rw[lp_succ]
    exact step _ v hI fun v' hI' hlt=>lp_ex m I P step n v' hI' (by omega)
theorem lp_upS_ex {S:Type} {body:(S×Int→Option R)→S×Int→Option R} (N:Nat) (hN:N<FU) (J:Nat→S→Prop) (P:R→Prop) (s0:S) (h0:J 0 s0)
    (step:∀(nx:S×Int→Option R) (k:Nat) (s:S),k≤N→J k s→(∀s',k<N→J (k+1) s'→∃r,nx (s',((k+1:Nat):Int))=some r∧P r)→∃r,body nx (s,(k:Int))=some r∧P r):∃r,lp body FU (s0,(0:Int))=some r∧P r:=by
  refine lp_ex (fun v=>N-v.2.toNat) (fun v=>∃k:Nat,v.2=(k:Int)∧k≤N∧J k v.1) P ?_ FU _ ⟨0,rfl,Nat.zero_le _,h0⟩ (by simp; omega)
  rintro nx ⟨s,v⟩ ⟨k,hv,hk,hJ⟩ hnx
  simp only at hv hJ
  subst hv
  exact step nx k s hk hJ fun s' hlt hJ'=>hnx _ ⟨k+1,rfl,hlt,hJ'⟩ (by simp only[Int.toNat_natCast]; omega)
end
end Go.VC
