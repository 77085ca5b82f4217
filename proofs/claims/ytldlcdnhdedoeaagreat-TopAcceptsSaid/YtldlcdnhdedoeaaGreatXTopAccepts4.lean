/- Part 15 of what follows is proved here: what the statement TopAccepts needs of functions and plain laws. -/
import Derived.Test.YtldlcdnhdedoeaaGreatXTopAccepts3
set_option linter.unusedVariables false
set_option linter.unusedSimpArgs false
namespace Go.VC
/-! Lists that are known row by row (slices of functions). -/
section
variable {R:Type} {r:R} {rows:List (List D)}
theorem ixC {A B:Option R} {n:Int} {sz:Nat} {K:List D→Prop} (j:Nat) (row:List D) (h:fk (decide (n=(j:Int))) A B=some r) (e:rows[j]?=some row) (hs:row.length=sz) (k1:A=some r→K row) (k2:B=some r→IdxK rows n sz K):IdxK rows n sz K:=by
  by_cases c:n=(j:Int)
  · rw[decide_eq_true c] at h
    exact⟨by omega,row,by rw[c,Int.toNat_natCast]; exact e,hs,k1 h⟩
  · rw[decide_eq_false c] at h
    exact k2 h
theorem ixN {n:Int} {sz:Nat} {K:List D→Prop} (h:(none:Option R)=some r):IdxK rows n sz K:=by cases h
theorem liR {len:Nat} {K:List (List D)→Prop} (hl:rows.length=len) (k:K rows):LitK rows len K:=⟨hl,k⟩
theorem lenR (n:Int) {K:Int→Prop} (e:(rows.length:Int)=n) (k:K n):LenK rows K:=⟨by rw[e]; exact k⟩
end
end Go.VC
