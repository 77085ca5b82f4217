/-
  No cell of these rows narrows 'for every input' (looked for: loops, veiled, ifaces, maps, wideKeys, modest, calm, conditions, laid).
  DERIVED. THE GIVEN ROWS OF THIS SEAT. 9 by the template 'for every input the law returns true; each argument reads behind the call as it read before'; 0 by the template 'total and deterministic' (their statements: YtldlcdnhdedoeaaGreatTotals.lean).
  GIVEN WITH THE SEED: the statements are not yours to turn. If you find one false, say at which input.
  Laid BY PROGRAM, IN A SANDBOX (cutbox-rows.mjs): the forced cells as the released guide's own fill.sh prints them over the translation 5a784c4f8037bbc4… (all of the seat's roots in one cut). By AI agents, Wed Nov 11 2026. No macro, syntax, notation, axiom, sorry.
-/
import Derived.Test.YtldlcdnhdedoeaaGreatChecked
import GoSem.Claim
import GoSem.ClaimJoined
import GoSem.ClaimMapViews
import Derived.JoinedTies
import Derived.KernelRfl
namespace Go.Proofs.YtldlcdnhdedoeaaGreat
/- THE CELL 'sum', in the pinned program and in every row, IS THE sha256 OF THE DUMP (.gsa) THAT YtldlcdnhdedoeaaGreatProg.lean LOADS. Nothing in Lean hashes anything: it is a label: what it is worth is what the hold of that sum in a sandbox is worth. -/
noncomputable def Tryz.pinned : Pinned := { name := "ytldlcdnhdedoeaagreat", sum := "5a784c4f8037bbc4d9749355c27c82499465771b087e130b80e3b67f130b321a", checked := Tryz.checked }
namespace Rows
def none {H : Type} : Left H := { results := [], args := [] }

/-- 'remontoirlaw21.KernelBoots': WHATEVER THE INPUT: true; the input reads as it did. -/
def kernelBootsSpec : ChangeSpec := { name := "kernelBoots", fn := fun _ => fun
  | [d] => { results := [.lit (.bool true)], args := [d] }
  | _ => none }
def kernelBootsRow : OpenClaim := { program := "ytldlcdnhdedoeaagreat", sum := "5a784c4f8037bbc4d9749355c27c82499465771b087e130b80e3b67f130b321a", func := "remontoir/remontoirlaw21.KernelBoots", spec := "kernelBoots", unfollowed := true, recurses := true, apart := false }
def KernelBootsSaid : Prop := kernelBootsRow.holds Tryz.pinned (OpenSpec.ofChange kernelBootsSpec)

/-- ITS FALSE NEIGHBOUR: 'it returns false'. Refute it at one input. -/
def kernelBootsWrong : ChangeSpec := { name := "kernelBoots", fn := fun _ => fun
  | [d] => { results := [.lit (.bool false)], args := [d] }
  | _ => none }
def KernelBootsWrongFalsely : Prop := kernelBootsRow.holds Tryz.pinned (OpenSpec.ofChange kernelBootsWrong)

/-- 'remontoirlaw21.KernelDoes': WHATEVER THE INPUT: true; the input reads as it did. -/
def kernelDoesSpec : ChangeSpec := { name := "kernelDoes", fn := fun _ => fun
  | [d1, d2, d3] => { results := [.lit (.bool true)], args := [d1, d2, d3] }
  | _ => none }
def kernelDoesRow : OpenClaim := { program := "ytldlcdnhdedoeaagreat", sum := "5a784c4f8037bbc4d9749355c27c82499465771b087e130b80e3b67f130b321a", func := "remontoir/remontoirlaw21.KernelDoes", spec := "kernelDoes", unfollowed := true, recurses := true, apart := false }
def KernelDoesSaid : Prop := kernelDoesRow.holds Tryz.pinned (OpenSpec.ofChange kernelDoesSpec)

/-- ITS FALSE NEIGHBOUR: 'it returns false'. Refute it at one input. -/
def kernelDoesWrong : ChangeSpec := { name := "kernelDoes", fn := fun _ => fun
  | [d1, d2, d3] => { results := [.lit (.bool false)], args := [d1, d2, d3] }
  | _ => none }
def KernelDoesWrongFalsely : Prop := kernelDoesRow.holds Tryz.pinned (OpenSpec.ofChange kernelDoesWrong)

/-- 'remontoirlaw21.KernelTicks': WHATEVER THE INPUT: true; the input reads as it did. -/
def kernelTicksSpec : ChangeSpec := { name := "kernelTicks", fn := fun _ => fun
  | [d1, d2] => { results := [.lit (.bool true)], args := [d1, d2] }
  | _ => none }
def kernelTicksRow : OpenClaim := { program := "ytldlcdnhdedoeaagreat", sum := "5a784c4f8037bbc4d9749355c27c82499465771b087e130b80e3b67f130b321a", func := "remontoir/remontoirlaw21.KernelTicks", spec := "kernelTicks", unfollowed := true, recurses := true, apart := false }
def KernelTicksSaid : Prop := kernelTicksRow.holds Tryz.pinned (OpenSpec.ofChange kernelTicksSpec)

/-- ITS FALSE NEIGHBOUR: 'it returns false'. Refute it at one input. -/
def kernelTicksWrong : ChangeSpec := { name := "kernelTicks", fn := fun _ => fun
  | [d1, d2] => { results := [.lit (.bool false)], args := [d1, d2] }
  | _ => none }
def KernelTicksWrongFalsely : Prop := kernelTicksRow.holds Tryz.pinned (OpenSpec.ofChange kernelTicksWrong)

/-- 'remontoirlaw21.KernelSends': WHATEVER THE INPUT: true; the input reads as it did. -/
def kernelSendsSpec : ChangeSpec := { name := "kernelSends", fn := fun _ => fun
  | [d1, d2, d3] => { results := [.lit (.bool true)], args := [d1, d2, d3] }
  | _ => none }
def kernelSendsRow : OpenClaim := { program := "ytldlcdnhdedoeaagreat", sum := "5a784c4f8037bbc4d9749355c27c82499465771b087e130b80e3b67f130b321a", func := "remontoir/remontoirlaw21.KernelSends", spec := "kernelSends", unfollowed := true, recurses := true, apart := false }
def KernelSendsSaid : Prop := kernelSendsRow.holds Tryz.pinned (OpenSpec.ofChange kernelSendsSpec)

/-- ITS FALSE NEIGHBOUR: 'it returns false'. Refute it at one input. -/
def kernelSendsWrong : ChangeSpec := { name := "kernelSends", fn := fun _ => fun
  | [d1, d2, d3] => { results := [.lit (.bool false)], args := [d1, d2, d3] }
  | _ => none }
def KernelSendsWrongFalsely : Prop := kernelSendsRow.holds Tryz.pinned (OpenSpec.ofChange kernelSendsWrong)

/-- 'remontoirlaw22.WorldPlays': WHATEVER THE INPUT: true; the input reads as it did. -/
def worldPlaysSpec : ChangeSpec := { name := "worldPlays", fn := fun _ => fun
  | [d1, d2] => { results := [.lit (.bool true)], args := [d1, d2] }
  | _ => none }
def worldPlaysRow : OpenClaim := { program := "ytldlcdnhdedoeaagreat", sum := "5a784c4f8037bbc4d9749355c27c82499465771b087e130b80e3b67f130b321a", func := "remontoir/remontoirlaw22.WorldPlays", spec := "worldPlays", unfollowed := true, recurses := true, apart := false }
def WorldPlaysSaid : Prop := worldPlaysRow.holds Tryz.pinned (OpenSpec.ofChange worldPlaysSpec)

/-- ITS FALSE NEIGHBOUR: 'it returns false'. Refute it at one input. -/
def worldPlaysWrong : ChangeSpec := { name := "worldPlays", fn := fun _ => fun
  | [d1, d2] => { results := [.lit (.bool false)], args := [d1, d2] }
  | _ => none }
def WorldPlaysWrongFalsely : Prop := worldPlaysRow.holds Tryz.pinned (OpenSpec.ofChange worldPlaysWrong)

/-- 'remontoirlaw22.WorldAlone': WHATEVER THE INPUT: true; the input reads as it did. -/
def worldAloneSpec : ChangeSpec := { name := "worldAlone", fn := fun _ => fun
  | [d1, d2, d3] => { results := [.lit (.bool true)], args := [d1, d2, d3] }
  | _ => none }
def worldAloneRow : OpenClaim := { program := "ytldlcdnhdedoeaagreat", sum := "5a784c4f8037bbc4d9749355c27c82499465771b087e130b80e3b67f130b321a", func := "remontoir/remontoirlaw22.WorldAlone", spec := "worldAlone", unfollowed := true, recurses := true, apart := false }
def WorldAloneSaid : Prop := worldAloneRow.holds Tryz.pinned (OpenSpec.ofChange worldAloneSpec)

/-- ITS FALSE NEIGHBOUR: 'it returns false'. Refute it at one input. -/
def worldAloneWrong : ChangeSpec := { name := "worldAlone", fn := fun _ => fun
  | [d1, d2, d3] => { results := [.lit (.bool false)], args := [d1, d2, d3] }
  | _ => none }
def WorldAloneWrongFalsely : Prop := worldAloneRow.holds Tryz.pinned (OpenSpec.ofChange worldAloneWrong)

/-- 'remontoirlaw22.WorldOwns': WHATEVER THE INPUT: true; the input reads as it did. -/
def worldOwnsSpec : ChangeSpec := { name := "worldOwns", fn := fun _ => fun
  | [d1, d2] => { results := [.lit (.bool true)], args := [d1, d2] }
  | _ => none }
def worldOwnsRow : OpenClaim := { program := "ytldlcdnhdedoeaagreat", sum := "5a784c4f8037bbc4d9749355c27c82499465771b087e130b80e3b67f130b321a", func := "remontoir/remontoirlaw22.WorldOwns", spec := "worldOwns", unfollowed := true, recurses := true, apart := false }
def WorldOwnsSaid : Prop := worldOwnsRow.holds Tryz.pinned (OpenSpec.ofChange worldOwnsSpec)

/-- ITS FALSE NEIGHBOUR: 'it returns false'. Refute it at one input. -/
def worldOwnsWrong : ChangeSpec := { name := "worldOwns", fn := fun _ => fun
  | [d1, d2] => { results := [.lit (.bool false)], args := [d1, d2] }
  | _ => none }
def WorldOwnsWrongFalsely : Prop := worldOwnsRow.holds Tryz.pinned (OpenSpec.ofChange worldOwnsWrong)

/-- 'remontoirtop.TopBack': WHATEVER THE INPUT: true; the input reads as it did. -/
def topBackSpec : ChangeSpec := { name := "topBack", fn := fun _ => fun
  | [d1, d2] => { results := [.lit (.bool true)], args := [d1, d2] }
  | _ => none }
def topBackRow : OpenClaim := { program := "ytldlcdnhdedoeaagreat", sum := "5a784c4f8037bbc4d9749355c27c82499465771b087e130b80e3b67f130b321a", func := "remontoir/remontoirtop.TopBack", spec := "topBack", unfollowed := true, recurses := true, apart := false }
def TopBackSaid : Prop := topBackRow.holds Tryz.pinned (OpenSpec.ofChange topBackSpec)

/-- ITS FALSE NEIGHBOUR: 'it returns false'. Refute it at one input. -/
def topBackWrong : ChangeSpec := { name := "topBack", fn := fun _ => fun
  | [d1, d2] => { results := [.lit (.bool false)], args := [d1, d2] }
  | _ => none }
def TopBackWrongFalsely : Prop := topBackRow.holds Tryz.pinned (OpenSpec.ofChange topBackWrong)

/-- 'remontoirtop.TopAccepts': WHATEVER THE INPUT: true; the input reads as it did. -/
def topAcceptsSpec : ChangeSpec := { name := "topAccepts", fn := fun _ => fun
  | [d1, d2] => { results := [.lit (.bool true)], args := [d1, d2] }
  | _ => none }
def topAcceptsRow : OpenClaim := { program := "ytldlcdnhdedoeaagreat", sum := "5a784c4f8037bbc4d9749355c27c82499465771b087e130b80e3b67f130b321a", func := "remontoir/remontoirtop.TopAccepts", spec := "topAccepts", unfollowed := true, recurses := true, apart := false }
def TopAcceptsSaid : Prop := topAcceptsRow.holds Tryz.pinned (OpenSpec.ofChange topAcceptsSpec)

/-- ITS FALSE NEIGHBOUR: 'it returns false'. Refute it at one input. -/
def topAcceptsWrong : ChangeSpec := { name := "topAccepts", fn := fun _ => fun
  | [d1, d2] => { results := [.lit (.bool false)], args := [d1, d2] }
  | _ => none }
def TopAcceptsWrongFalsely : Prop := topAcceptsRow.holds Tryz.pinned (OpenSpec.ofChange topAcceptsWrong)

/- THE SECOND FORM. 'bulk': how many values and letters a reading holds, each counted each time it is reached (what is shared counts as often as it is met; a slice's spare places count too). A statement '..UptoSaid' is the law's where the arguments, and the package variables that the reading takes, are together of bulk at most 1048576: NARROWER than '..Said'. Prove '..Said' where nothing that the law and all that it calls make is longer than what came in: it says more and counts as full. Else prove '..UptoSaid'. A law counts once. -/
mutual
def uptoBulk {H : Type} : DataW H → Nat
  | .lit (.string bytes) => bytes.length + 1
  | .lit _ => 1
  | .nil => 1
  | .ptr d => uptoBulk d + 1
  | .slice elems spare => uptoBulkAll elems + uptoBulkAll spare + 1
  | .agg parts => uptoBulkAll parts + 1
  | .iface _ d => uptoBulk d + 1
  | .map entries => uptoBulkEntries entries + 1
  | .held _ => 1
def uptoBulkAll {H : Type} : List (DataW H) → Nat
  | [] => 0
  | d :: r => uptoBulk d + uptoBulkAll r
def uptoBulkEntries {H : Type} : List (Lit × DataW H) → Nat
  | [] => 0
  | x :: r => uptoBulkEntry x + uptoBulkEntries r
def uptoBulkEntry {H : Type} : Lit × DataW H → Nat
  | (.string bytes, d) => bytes.length + uptoBulk d + 1
  | (_, d) => uptoBulk d + 1
 end
def uptoSmall : (H : Type) → List (DataW H) → Bool := fun _ ds => decide (uptoBulkAll ds ≤ 1048576)
def OpenSpec.upto (s : _root_.Go.ChangeSpec) : _root_.Go.OpenSpec := { _root_.Go.OpenSpec.ofChange s with cond := some uptoSmall }

/-- 'remontoirlaw21.KernelBoots', WHERE WHAT IT READS IS OF BULK AT MOST 1048576: true; the input reads as it did. -/
def kernelBootsUptoRow : OpenClaim := { program := "ytldlcdnhdedoeaagreat", sum := "5a784c4f8037bbc4d9749355c27c82499465771b087e130b80e3b67f130b321a", func := "remontoir/remontoirlaw21.KernelBoots", spec := "kernelBoots", unfollowed := true, recurses := true, apart := false, narrowed := true }
def KernelBootsUptoSaid : Prop := kernelBootsUptoRow.holds Tryz.pinned (OpenSpec.upto kernelBootsSpec)

/-- 'remontoirlaw21.KernelDoes', WHERE WHAT IT READS IS OF BULK AT MOST 1048576: true; the input reads as it did. -/
def kernelDoesUptoRow : OpenClaim := { program := "ytldlcdnhdedoeaagreat", sum := "5a784c4f8037bbc4d9749355c27c82499465771b087e130b80e3b67f130b321a", func := "remontoir/remontoirlaw21.KernelDoes", spec := "kernelDoes", unfollowed := true, recurses := true, apart := false, narrowed := true }
def KernelDoesUptoSaid : Prop := kernelDoesUptoRow.holds Tryz.pinned (OpenSpec.upto kernelDoesSpec)

/-- 'remontoirlaw21.KernelTicks', WHERE WHAT IT READS IS OF BULK AT MOST 1048576: true; the input reads as it did. -/
def kernelTicksUptoRow : OpenClaim := { program := "ytldlcdnhdedoeaagreat", sum := "5a784c4f8037bbc4d9749355c27c82499465771b087e130b80e3b67f130b321a", func := "remontoir/remontoirlaw21.KernelTicks", spec := "kernelTicks", unfollowed := true, recurses := true, apart := false, narrowed := true }
def KernelTicksUptoSaid : Prop := kernelTicksUptoRow.holds Tryz.pinned (OpenSpec.upto kernelTicksSpec)

/-- 'remontoirlaw21.KernelSends', WHERE WHAT IT READS IS OF BULK AT MOST 1048576: true; the input reads as it did. -/
def kernelSendsUptoRow : OpenClaim := { program := "ytldlcdnhdedoeaagreat", sum := "5a784c4f8037bbc4d9749355c27c82499465771b087e130b80e3b67f130b321a", func := "remontoir/remontoirlaw21.KernelSends", spec := "kernelSends", unfollowed := true, recurses := true, apart := false, narrowed := true }
def KernelSendsUptoSaid : Prop := kernelSendsUptoRow.holds Tryz.pinned (OpenSpec.upto kernelSendsSpec)

/-- 'remontoirlaw22.WorldPlays', WHERE WHAT IT READS IS OF BULK AT MOST 1048576: true; the input reads as it did. -/
def worldPlaysUptoRow : OpenClaim := { program := "ytldlcdnhdedoeaagreat", sum := "5a784c4f8037bbc4d9749355c27c82499465771b087e130b80e3b67f130b321a", func := "remontoir/remontoirlaw22.WorldPlays", spec := "worldPlays", unfollowed := true, recurses := true, apart := false, narrowed := true }
def WorldPlaysUptoSaid : Prop := worldPlaysUptoRow.holds Tryz.pinned (OpenSpec.upto worldPlaysSpec)

/-- 'remontoirlaw22.WorldAlone', WHERE WHAT IT READS IS OF BULK AT MOST 1048576: true; the input reads as it did. -/
def worldAloneUptoRow : OpenClaim := { program := "ytldlcdnhdedoeaagreat", sum := "5a784c4f8037bbc4d9749355c27c82499465771b087e130b80e3b67f130b321a", func := "remontoir/remontoirlaw22.WorldAlone", spec := "worldAlone", unfollowed := true, recurses := true, apart := false, narrowed := true }
def WorldAloneUptoSaid : Prop := worldAloneUptoRow.holds Tryz.pinned (OpenSpec.upto worldAloneSpec)

/-- 'remontoirlaw22.WorldOwns', WHERE WHAT IT READS IS OF BULK AT MOST 1048576: true; the input reads as it did. -/
def worldOwnsUptoRow : OpenClaim := { program := "ytldlcdnhdedoeaagreat", sum := "5a784c4f8037bbc4d9749355c27c82499465771b087e130b80e3b67f130b321a", func := "remontoir/remontoirlaw22.WorldOwns", spec := "worldOwns", unfollowed := true, recurses := true, apart := false, narrowed := true }
def WorldOwnsUptoSaid : Prop := worldOwnsUptoRow.holds Tryz.pinned (OpenSpec.upto worldOwnsSpec)

/-- 'remontoirtop.TopBack', WHERE WHAT IT READS IS OF BULK AT MOST 1048576: true; the input reads as it did. -/
def topBackUptoRow : OpenClaim := { program := "ytldlcdnhdedoeaagreat", sum := "5a784c4f8037bbc4d9749355c27c82499465771b087e130b80e3b67f130b321a", func := "remontoir/remontoirtop.TopBack", spec := "topBack", unfollowed := true, recurses := true, apart := false, narrowed := true }
def TopBackUptoSaid : Prop := topBackUptoRow.holds Tryz.pinned (OpenSpec.upto topBackSpec)

/-- 'remontoirtop.TopAccepts', WHERE WHAT IT READS IS OF BULK AT MOST 1048576: true; the input reads as it did. -/
def topAcceptsUptoRow : OpenClaim := { program := "ytldlcdnhdedoeaagreat", sum := "5a784c4f8037bbc4d9749355c27c82499465771b087e130b80e3b67f130b321a", func := "remontoir/remontoirtop.TopAccepts", spec := "topAccepts", unfollowed := true, recurses := true, apart := false, narrowed := true }
def TopAcceptsUptoSaid : Prop := topAcceptsUptoRow.holds Tryz.pinned (OpenSpec.upto topAcceptsSpec)

end Rows
end Go.Proofs.YtldlcdnhdedoeaaGreat
