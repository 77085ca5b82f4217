/- Part 8 of what follows is proved here: the layer over the walk. -/
import Derived.Test.YtkhebjkplmidnaaV6
set_option linter.unusedVariables false
set_option linter.unusedSimpArgs false
namespace Go.VC
open Go.RowKit (Below)

/-! ### Cells of plain things -/
def eI (k : IntKind) (n : Int) : List D := [.int k n]
def eB (b : Bool) : List D := [.bool b]
def eS (b : ByteArray) : List D := [.str b]
def eL {α : Type} (f : α → List D) (l : List α) : List D := [.sl (l.map f)]
theorem map_td {α β : Type} (f : α → β) (l : List α) (a b : Nat) : ((l.map f).take a).drop b = ((l.take a).drop b).map f := by rw [List.map_drop, List.map_take]

section
variable {P : Program} {T : TypeId → Option TI} {w0 : World} {p0 p : Nat → Prop} {σ : Nat → Value} {s : St} {tm : Array Value} {ups : List (Array Value)} {w : World}
theorem Weak.keepS (s : St) (L : List Nat) : Weak s ((s.keep L).sweep) := fun _ _ p σ _ _ _ h => ⟨p, σ, (h.keep L).sweep⟩
def St.unkT (s : St) (i : Nat) : St := { s with t := repT s.t i (.l .unk) }
theorem Weak.unkT (s : St) (i : Nat) : Weak s (s.unkT i) := by
  intro w0 p0 p σ tm ups w hr
  refine ⟨p, σ, hr.below, hr.pin, hr.pnew, hr.plt, ⟨hr.t.1, fun j => ?_⟩, hr.up, hr.b, hr.o, hr.apart⟩
  rcases getT_repT s.t i (.l .unk) j with ⟨_, e1⟩ | ⟨rfl, e1 | e1⟩
  · rw [show getT (s.unkT i).t j = _ from rfl, St.unkT, e1]; exact hr.t.2 j
  · rw [St.unkT, e1]; trivial
  · rw [St.unkT, e1]; trivial
/-- A nil slice in a slot's struct, as data. -/
def St.nilAD (s : St) (i q : Nat) (cs : List LV) : St := { s with t := repT s.t i (.agg (cs.set q (.d (.sl [])))) }
theorem Weak.nilAD (s : St) (i q : Nat) (cs : List LV) (h : s.get i = .agg cs) (hq : cs[q]? = some .nil) : Weak s (s.nilAD i q cs) := by
  intro w0 p0 p σ tm ups w hr
  refine ⟨p, σ, hr.below, hr.pin, hr.pnew, hr.plt, ⟨hr.t.1, fun j => ?_⟩, hr.up, hr.b, hr.o, hr.apart⟩
  rcases getT_repT s.t i (.agg (cs.set q (.d (.sl [])))) j with ⟨_, e1⟩ | ⟨rfl, e1 | e1⟩
  · rw [show getT (s.nilAD i q cs).t j = _ from rfl, St.nilAD, e1]; exact hr.t.2 j
  · rw [St.nilAD, e1]
    have := hr.t.2 j
    unfold St.get at h
    rw [h] at this
    obtain ⟨vs, e, f⟩ := this
    refine ⟨vs, e, by rw [List.length_set]; exact f.1, fun a y v hy hv => ?_⟩
    rw [List.getElem?_set] at hy
    split at hy
    · rename_i e
      subst e
      split at hy
      · cases hy
        have h0 : v = .slice none 0 0 := f.2 _ _ _ hq hv
        subst h0; exact repD_nil w p
      · cases hy
    · exact f.2 _ _ _ hy hv
  · rw [St.nilAD, e1]; trivial
theorem n_ice (s : St) (k : Nat) : (s.ice k).n = s.n := by unfold St.ice; split <;> rfl
/-- What is handed over becomes data first. -/
theorem iceS {g : FuncId} {args : List AV} {dst : Option Nat} {K : St → Prop} (k : Nat) (h : fAVs (args.map (iceA s k)) fun args => fS (s.ice k) fun s => CallX P g args s dst K) : CallX P g args s dst K := by
  rw [fAVs_eq, fS_eq] at h
  obtain ⟨h0, h⟩ := h.h
  refine ⟨h0, fun w0 p0 p σ tm ups w vs hr hv => ?_⟩
  obtain ⟨p', hr', hx⟩ := hr.ice2 k
  refine (h w0 p0 p' σ tm ups w vs hr' (hv.map_left _ fun x v hq => hx x v hq)).mono fun e w' ⟨v, r, s', p2, σ', he, hk, h1, h2⟩ => ⟨v, r, s', p2, σ', he, ?_, h1, h2⟩
  rw [n_ice] at hk
  exact hk
end
theorem Weak.rekey (s : St) (k k' : Nat) (h : Nat.beq k k' = false) : Weak s (s.rekey k k') := fun _ _ p σ _ _ _ hr =>
  let ⟨σ', h1, _⟩ := Rel.rekey hr k k' (fun e => by subst e; rw [Nat.beq_refl] at h; cases h)
  ⟨p, σ', h1⟩
end Go.VC
