/- Part 8 of what follows is proved here: the layer over the walk. -/
import Derived.Test.YtldlcdnhdedoeaaGreatV6
set_option linter.unusedVariables false
set_option linter.unusedSimpArgs false
namespace Go.VC
open Go.RowKit (Below)

/-! ### Cells of plain things -/
def eI (k:IntKind) (n:Int):List D:=[.int k n]
def eB (b:Bool):List D:=[.bool b]
def eL {α:Type} (f:α→List D) (l:List α):List D:=[.sl (l.map f)]
section
variable {P:Program} {T:TypeId→Option TI} {w0:World} {p0 p:Nat→Prop} {σ:Nat→Value} {s:St} {tm:Array Value} {ups:List (Array Value)} {w:World}
theorem Weak.keepS (s:St) (L:List Nat):Weak s ((s.keep L).sweep):=fun _ _ p σ _ _ _ h=>⟨p,σ,(h.keep L).sweep⟩
theorem n_ice (s:St) (k:Nat):(s.ice k).n=s.n:=by unfold St.ice; split <;> rfl
/-- What is handed over becomes data first. -/
theorem iceS {g:FuncId} {args:List AV} {dst:Option Nat} {K:St→Prop} (k:Nat) (h:fAVs (args.map (iceA s k)) fun args=>fS (s.ice k) fun s=>CallX P g args s dst K):CallX P g args s dst K:=by
  rw[fAVs_eq,fS_eq] at h
  obtain⟨h0,h⟩:=h.h
  refine⟨h0,fun w0 p0 p σ tm ups w vs hr hv=>?_⟩
  obtain⟨p',hr',hx⟩:=hr.ice2 k
  refine (h w0 p0 p' σ tm ups w vs hr' (hv.map_left _ fun x v hq=>hx x v hq)).mono fun e w' ⟨v,r,s',p2,σ',he,hk,h1,h2⟩=>⟨v,r,s',p2,σ',he,?_,h1,h2⟩
  rw[n_ice] at hk
  exact hk
end
theorem Weak.rekey (s:St) (k k':Nat) (h:Nat.beq k k'=false):Weak s (s.rekey k k'):=fun _ _ p σ _ _ _ hr=>
  let ⟨σ',h1,_⟩:=Rel.rekey hr k k' (fun e=>by subst e; rw[Nat.beq_refl] at h; cases h)
  ⟨p,σ',h1⟩
end Go.VC
