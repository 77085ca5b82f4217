/- Part 14 of what follows is proved here: what the statement TopAccepts needs of functions and plain laws. -/
import Derived.Test.YtldlcdnhdedoeaaGreatXTopAccepts2
set_option linter.unusedVariables false
set_option linter.unusedSimpArgs false
namespace Go.VC
/-! A state told less, step by step, each step told anew. -/
structure WkF (s s2:St):Prop where
  h:Weak s s2
theorem WkF.refl (s:St):WkF s s:=⟨Weak.refl s⟩
theorem WkF.step {s s1 s2:St} (w:Weak s s1) (h:fS s1 fun s=>WkF s s2):WkF s s2:=by
  rw[fS_eq] at h
  exact⟨Weak.trans w h.h⟩
section
variable {s:St} {σ R:Type} {r:R}
theorem jeX {Y k:σ→Option R} {st:σ→St} {v:σ} (hk:∀v,k v=some r→Y v=some r) (h:k v=some r) (hw:WkF s (st v)):∃s2,Weak s s2∧∃v,s2=st v∧Y v=some r:=jeS hk h hw.h
theorem leX {body:(σ→Option R)→σ→Option R} {n:Nat} {st:σ→St} {nx:σ→Option R} {v':σ} (hn:∀v',nx v'=some r→lp body n v'=some r) (h:nx v'=some r) (hw:WkF s (st v')):∃n' s2,n'<n+1∧Weak s s2∧∃v',s2=st v'∧lp body n' v'=some r:=leS hn h hw.h
end
end Go.VC
