/-
  No cell of these rows narrows 'for every input' (looked for: loops, veiled, ifaces, maps, wideKeys, modest, calm, conditions, laid).
  DERIVED. THE GIVEN ROWS OF THIS SEAT. 10 by the template 'for every input the law returns true; each argument reads behind the call as it read before'; 0 by the template 'total and deterministic' (their statements: YtakiggekallckaaTotals.lean).
  GIVEN WITH THE SEED: the statements are not yours to turn. If you find one false, say at which input.
  Laid BY PROGRAM, IN A SANDBOX (cutbox-rows.mjs): the forced cells as the released guide's own fill.sh prints them over the translation 5f51cef005ac8838… (all of the seat's roots in one cut). By AI agents, Wed Nov 11 2026. No macro, syntax, notation, axiom, sorry.
-/
import Derived.Test.YtakiggekallckaaChecked
import GoSem.Claim
import GoSem.ClaimJoined
import GoSem.ClaimMapViews
import Derived.JoinedTies
import Derived.KernelRfl
namespace Go.Proofs.Ytakiggekallckaa
/- THE CELL 'sum', in the pinned program and in every row, IS THE sha256 OF THE DUMP (.gsa) THAT YtakiggekallckaaProg.lean LOADS. Nothing in Lean hashes anything: it is a label: what it is worth is what the hold of that sum in a sandbox is worth. -/
noncomputable def Try.pinned : Pinned := { name := "ytakiggekallckaa", sum := "5f51cef005ac8838fe99962716c809b1e05e75b5a5c30ffb73b1fe338c5227f4", checked := Try.checked }
namespace Rows
def none {H : Type} : Left H := { results := [], args := [] }

/-- 'remontoirlaw17.PartReleases': WHATEVER THE INPUT: true; the input reads as it did. -/
def partReleasesSpec : ChangeSpec := { name := "partReleases", fn := fun _ => fun
  | [d1, d2, d3, d4] => { results := [.lit (.bool true)], args := [d1, d2, d3, d4] }
  | _ => none }
def partReleasesRow : OpenClaim := { program := "ytakiggekallckaa", sum := "5f51cef005ac8838fe99962716c809b1e05e75b5a5c30ffb73b1fe338c5227f4", func := "remontoir/remontoirlaw17.PartReleases", spec := "partReleases", unfollowed := true, recurses := true, apart := false }
def PartReleasesSaid : Prop := partReleasesRow.holds Try.pinned (OpenSpec.ofChange partReleasesSpec)

/-- ITS FALSE NEIGHBOUR: 'it returns false'. Refute it at one input. -/
def partReleasesWrong : ChangeSpec := { name := "partReleases", fn := fun _ => fun
  | [d1, d2, d3, d4] => { results := [.lit (.bool false)], args := [d1, d2, d3, d4] }
  | _ => none }
def PartReleasesWrongFalsely : Prop := partReleasesRow.holds Try.pinned (OpenSpec.ofChange partReleasesWrong)

/-- 'remontoirlaw17.PartTicks': WHATEVER THE INPUT: true; the input reads as it did. -/
def partTicksSpec : ChangeSpec := { name := "partTicks", fn := fun _ => fun
  | [d1, d2, d3] => { results := [.lit (.bool true)], args := [d1, d2, d3] }
  | _ => none }
def partTicksRow : OpenClaim := { program := "ytakiggekallckaa", sum := "5f51cef005ac8838fe99962716c809b1e05e75b5a5c30ffb73b1fe338c5227f4", func := "remontoir/remontoirlaw17.PartTicks", spec := "partTicks", unfollowed := true, recurses := true, apart := false }
def PartTicksSaid : Prop := partTicksRow.holds Try.pinned (OpenSpec.ofChange partTicksSpec)

/-- ITS FALSE NEIGHBOUR: 'it returns false'. Refute it at one input. -/
def partTicksWrong : ChangeSpec := { name := "partTicks", fn := fun _ => fun
  | [d1, d2, d3] => { results := [.lit (.bool false)], args := [d1, d2, d3] }
  | _ => none }
def PartTicksWrongFalsely : Prop := partTicksRow.holds Try.pinned (OpenSpec.ofChange partTicksWrong)

/-- 'remontoirlaw17.PartTasks': WHATEVER THE INPUT: true; the input reads as it did. -/
def partTasksSpec : ChangeSpec := { name := "partTasks", fn := fun _ => fun
  | [d1, d2, d3] => { results := [.lit (.bool true)], args := [d1, d2, d3] }
  | _ => none }
def partTasksRow : OpenClaim := { program := "ytakiggekallckaa", sum := "5f51cef005ac8838fe99962716c809b1e05e75b5a5c30ffb73b1fe338c5227f4", func := "remontoir/remontoirlaw17.PartTasks", spec := "partTasks", unfollowed := true, recurses := true, apart := false }
def PartTasksSaid : Prop := partTasksRow.holds Try.pinned (OpenSpec.ofChange partTasksSpec)

/-- ITS FALSE NEIGHBOUR: 'it returns false'. Refute it at one input. -/
def partTasksWrong : ChangeSpec := { name := "partTasks", fn := fun _ => fun
  | [d1, d2, d3] => { results := [.lit (.bool false)], args := [d1, d2, d3] }
  | _ => none }
def PartTasksWrongFalsely : Prop := partTasksRow.holds Try.pinned (OpenSpec.ofChange partTasksWrong)

/-- 'remontoirlaw17.PartLogs': WHATEVER THE INPUT: true; the input reads as it did. -/
def partLogsSpec : ChangeSpec := { name := "partLogs", fn := fun _ => fun
  | [d1, d2, d3] => { results := [.lit (.bool true)], args := [d1, d2, d3] }
  | _ => none }
def partLogsRow : OpenClaim := { program := "ytakiggekallckaa", sum := "5f51cef005ac8838fe99962716c809b1e05e75b5a5c30ffb73b1fe338c5227f4", func := "remontoir/remontoirlaw17.PartLogs", spec := "partLogs", unfollowed := true, recurses := true, apart := false }
def PartLogsSaid : Prop := partLogsRow.holds Try.pinned (OpenSpec.ofChange partLogsSpec)

/-- ITS FALSE NEIGHBOUR: 'it returns false'. Refute it at one input. -/
def partLogsWrong : ChangeSpec := { name := "partLogs", fn := fun _ => fun
  | [d1, d2, d3] => { results := [.lit (.bool false)], args := [d1, d2, d3] }
  | _ => none }
def PartLogsWrongFalsely : Prop := partLogsRow.holds Try.pinned (OpenSpec.ofChange partLogsWrong)

/-- 'remontoirlaw20.AdmitBoots': WHATEVER THE INPUT: true; the input reads as it did. -/
def admitBootsSpec : ChangeSpec := { name := "admitBoots", fn := fun _ => fun
  | [d] => { results := [.lit (.bool true)], args := [d] }
  | _ => none }
def admitBootsRow : OpenClaim := { program := "ytakiggekallckaa", sum := "5f51cef005ac8838fe99962716c809b1e05e75b5a5c30ffb73b1fe338c5227f4", func := "remontoir/remontoirlaw20.AdmitBoots", spec := "admitBoots", unfollowed := true, recurses := true, apart := false }
def AdmitBootsSaid : Prop := admitBootsRow.holds Try.pinned (OpenSpec.ofChange admitBootsSpec)

/-- ITS FALSE NEIGHBOUR: 'it returns false'. Refute it at one input. -/
def admitBootsWrong : ChangeSpec := { name := "admitBoots", fn := fun _ => fun
  | [d] => { results := [.lit (.bool false)], args := [d] }
  | _ => none }
def AdmitBootsWrongFalsely : Prop := admitBootsRow.holds Try.pinned (OpenSpec.ofChange admitBootsWrong)

/-- 'remontoirlaw20.AdmitAdds': WHATEVER THE INPUT: true; the input reads as it did. -/
def admitAddsSpec : ChangeSpec := { name := "admitAdds", fn := fun _ => fun
  | [d1, d2, d3] => { results := [.lit (.bool true)], args := [d1, d2, d3] }
  | _ => none }
def admitAddsRow : OpenClaim := { program := "ytakiggekallckaa", sum := "5f51cef005ac8838fe99962716c809b1e05e75b5a5c30ffb73b1fe338c5227f4", func := "remontoir/remontoirlaw20.AdmitAdds", spec := "admitAdds", unfollowed := true, recurses := true, apart := false }
def AdmitAddsSaid : Prop := admitAddsRow.holds Try.pinned (OpenSpec.ofChange admitAddsSpec)

/-- ITS FALSE NEIGHBOUR: 'it returns false'. Refute it at one input. -/
def admitAddsWrong : ChangeSpec := { name := "admitAdds", fn := fun _ => fun
  | [d1, d2, d3] => { results := [.lit (.bool false)], args := [d1, d2, d3] }
  | _ => none }
def AdmitAddsWrongFalsely : Prop := admitAddsRow.holds Try.pinned (OpenSpec.ofChange admitAddsWrong)

/-- 'remontoirlaw20.AdmitHangs': WHATEVER THE INPUT: true; the input reads as it did. -/
def admitHangsSpec : ChangeSpec := { name := "admitHangs", fn := fun _ => fun
  | [d1, d2, d3, d4] => { results := [.lit (.bool true)], args := [d1, d2, d3, d4] }
  | _ => none }
def admitHangsRow : OpenClaim := { program := "ytakiggekallckaa", sum := "5f51cef005ac8838fe99962716c809b1e05e75b5a5c30ffb73b1fe338c5227f4", func := "remontoir/remontoirlaw20.AdmitHangs", spec := "admitHangs", unfollowed := true, recurses := true, apart := false }
def AdmitHangsSaid : Prop := admitHangsRow.holds Try.pinned (OpenSpec.ofChange admitHangsSpec)

/-- ITS FALSE NEIGHBOUR: 'it returns false'. Refute it at one input. -/
def admitHangsWrong : ChangeSpec := { name := "admitHangs", fn := fun _ => fun
  | [d1, d2, d3, d4] => { results := [.lit (.bool false)], args := [d1, d2, d3, d4] }
  | _ => none }
def AdmitHangsWrongFalsely : Prop := admitHangsRow.holds Try.pinned (OpenSpec.ofChange admitHangsWrong)

/-- 'remontoirlaw20.AdmitChanges': WHATEVER THE INPUT: true; the input reads as it did. -/
def admitChangesSpec : ChangeSpec := { name := "admitChanges", fn := fun _ => fun
  | [d1, d2, d3, d4] => { results := [.lit (.bool true)], args := [d1, d2, d3, d4] }
  | _ => none }
def admitChangesRow : OpenClaim := { program := "ytakiggekallckaa", sum := "5f51cef005ac8838fe99962716c809b1e05e75b5a5c30ffb73b1fe338c5227f4", func := "remontoir/remontoirlaw20.AdmitChanges", spec := "admitChanges", unfollowed := true, recurses := true, apart := false }
def AdmitChangesSaid : Prop := admitChangesRow.holds Try.pinned (OpenSpec.ofChange admitChangesSpec)

/-- ITS FALSE NEIGHBOUR: 'it returns false'. Refute it at one input. -/
def admitChangesWrong : ChangeSpec := { name := "admitChanges", fn := fun _ => fun
  | [d1, d2, d3, d4] => { results := [.lit (.bool false)], args := [d1, d2, d3, d4] }
  | _ => none }
def AdmitChangesWrongFalsely : Prop := admitChangesRow.holds Try.pinned (OpenSpec.ofChange admitChangesWrong)

/-- 'remontoirlaw17.PartMeets': WHATEVER THE INPUT: true; the input reads as it did. -/
def partMeetsSpec : ChangeSpec := { name := "partMeets", fn := fun _ => fun
  | [d1, d2, d3, d4] => { results := [.lit (.bool true)], args := [d1, d2, d3, d4] }
  | _ => none }
def partMeetsRow : OpenClaim := { program := "ytakiggekallckaa", sum := "5f51cef005ac8838fe99962716c809b1e05e75b5a5c30ffb73b1fe338c5227f4", func := "remontoir/remontoirlaw17.PartMeets", spec := "partMeets", unfollowed := true, recurses := true, apart := false }
def PartMeetsSaid : Prop := partMeetsRow.holds Try.pinned (OpenSpec.ofChange partMeetsSpec)

/-- ITS FALSE NEIGHBOUR: 'it returns false'. Refute it at one input. -/
def partMeetsWrong : ChangeSpec := { name := "partMeets", fn := fun _ => fun
  | [d1, d2, d3, d4] => { results := [.lit (.bool false)], args := [d1, d2, d3, d4] }
  | _ => none }
def PartMeetsWrongFalsely : Prop := partMeetsRow.holds Try.pinned (OpenSpec.ofChange partMeetsWrong)

/-- 'remontoirlaw20.AdmitMeets': WHATEVER THE INPUT: true; the input reads as it did. -/
def admitMeetsSpec : ChangeSpec := { name := "admitMeets", fn := fun _ => fun
  | [d1, d2, d3] => { results := [.lit (.bool true)], args := [d1, d2, d3] }
  | _ => none }
def admitMeetsRow : OpenClaim := { program := "ytakiggekallckaa", sum := "5f51cef005ac8838fe99962716c809b1e05e75b5a5c30ffb73b1fe338c5227f4", func := "remontoir/remontoirlaw20.AdmitMeets", spec := "admitMeets", unfollowed := true, recurses := true, apart := false }
def AdmitMeetsSaid : Prop := admitMeetsRow.holds Try.pinned (OpenSpec.ofChange admitMeetsSpec)

/-- ITS FALSE NEIGHBOUR: 'it returns false'. Refute it at one input. -/
def admitMeetsWrong : ChangeSpec := { name := "admitMeets", fn := fun _ => fun
  | [d1, d2, d3] => { results := [.lit (.bool false)], args := [d1, d2, d3] }
  | _ => none }
def AdmitMeetsWrongFalsely : Prop := admitMeetsRow.holds Try.pinned (OpenSpec.ofChange admitMeetsWrong)

/- THE SECOND FORM. 'bulk': how many values and letters a reading holds, each counted each time it is reached (what is shared counts as often as it is met; a slice's spare places count too). A statement '..UptoSaid' is the law's where the arguments, and the package variables that the reading takes, are together of bulk at most 1048576: NARROWER than '..Said'. Prove '..Said' where nothing that the law and all that it calls make is longer than what came in: it says more and counts as full. Else prove '..UptoSaid'. A law counts once. -/
mutual
def uptoBulk {H : Type} : DataW H → Nat
  | .lit (.string bytes) => bytes.length + 1
  | .lit _ => 1
  | .nil => 1
  | .ptr d => uptoBulk d + 1
  | .slice elems spare => uptoBulkAll elems + uptoBulkAll spare + 1
  | .agg parts => uptoBulkAll parts + 1
  | .iface _ d => uptoBulk d + 1
  | .map entries => uptoBulkEntries entries + 1
  | .held _ => 1
def uptoBulkAll {H : Type} : List (DataW H) → Nat
  | [] => 0
  | d :: r => uptoBulk d + uptoBulkAll r
def uptoBulkEntries {H : Type} : List (Lit × DataW H) → Nat
  | [] => 0
  | x :: r => uptoBulkEntry x + uptoBulkEntries r
def uptoBulkEntry {H : Type} : Lit × DataW H → Nat
  | (.string bytes, d) => bytes.length + uptoBulk d + 1
  | (_, d) => uptoBulk d + 1
 end
def uptoSmall : (H : Type) → List (DataW H) → Bool := fun _ ds => decide (uptoBulkAll ds ≤ 1048576)
def OpenSpec.upto (s : _root_.Go.ChangeSpec) : _root_.Go.OpenSpec := { _root_.Go.OpenSpec.ofChange s with cond := some uptoSmall }

/-- 'remontoirlaw17.PartReleases', WHERE WHAT IT READS IS OF BULK AT MOST 1048576: true; the input reads as it did. -/
def partReleasesUptoRow : OpenClaim := { program := "ytakiggekallckaa", sum := "5f51cef005ac8838fe99962716c809b1e05e75b5a5c30ffb73b1fe338c5227f4", func := "remontoir/remontoirlaw17.PartReleases", spec := "partReleases", unfollowed := true, recurses := true, apart := false, narrowed := true }
def PartReleasesUptoSaid : Prop := partReleasesUptoRow.holds Try.pinned (OpenSpec.upto partReleasesSpec)

/-- 'remontoirlaw17.PartTicks', WHERE WHAT IT READS IS OF BULK AT MOST 1048576: true; the input reads as it did. -/
def partTicksUptoRow : OpenClaim := { program := "ytakiggekallckaa", sum := "5f51cef005ac8838fe99962716c809b1e05e75b5a5c30ffb73b1fe338c5227f4", func := "remontoir/remontoirlaw17.PartTicks", spec := "partTicks", unfollowed := true, recurses := true, apart := false, narrowed := true }
def PartTicksUptoSaid : Prop := partTicksUptoRow.holds Try.pinned (OpenSpec.upto partTicksSpec)

/-- 'remontoirlaw17.PartTasks', WHERE WHAT IT READS IS OF BULK AT MOST 1048576: true; the input reads as it did. -/
def partTasksUptoRow : OpenClaim := { program := "ytakiggekallckaa", sum := "5f51cef005ac8838fe99962716c809b1e05e75b5a5c30ffb73b1fe338c5227f4", func := "remontoir/remontoirlaw17.PartTasks", spec := "partTasks", unfollowed := true, recurses := true, apart := false, narrowed := true }
def PartTasksUptoSaid : Prop := partTasksUptoRow.holds Try.pinned (OpenSpec.upto partTasksSpec)

/-- 'remontoirlaw17.PartLogs', WHERE WHAT IT READS IS OF BULK AT MOST 1048576: true; the input reads as it did. -/
def partLogsUptoRow : OpenClaim := { program := "ytakiggekallckaa", sum := "5f51cef005ac8838fe99962716c809b1e05e75b5a5c30ffb73b1fe338c5227f4", func := "remontoir/remontoirlaw17.PartLogs", spec := "partLogs", unfollowed := true, recurses := true, apart := false, narrowed := true }
def PartLogsUptoSaid : Prop := partLogsUptoRow.holds Try.pinned (OpenSpec.upto partLogsSpec)

/-- 'remontoirlaw20.AdmitBoots', WHERE WHAT IT READS IS OF BULK AT MOST 1048576: true; the input reads as it did. -/
def admitBootsUptoRow : OpenClaim := { program := "ytakiggekallckaa", sum := "5f51cef005ac8838fe99962716c809b1e05e75b5a5c30ffb73b1fe338c5227f4", func := "remontoir/remontoirlaw20.AdmitBoots", spec := "admitBoots", unfollowed := true, recurses := true, apart := false, narrowed := true }
def AdmitBootsUptoSaid : Prop := admitBootsUptoRow.holds Try.pinned (OpenSpec.upto admitBootsSpec)

/-- 'remontoirlaw20.AdmitAdds', WHERE WHAT IT READS IS OF BULK AT MOST 1048576: true; the input reads as it did. -/
def admitAddsUptoRow : OpenClaim := { program := "ytakiggekallckaa", sum := "5f51cef005ac8838fe99962716c809b1e05e75b5a5c30ffb73b1fe338c5227f4", func := "remontoir/remontoirlaw20.AdmitAdds", spec := "admitAdds", unfollowed := true, recurses := true, apart := false, narrowed := true }
def AdmitAddsUptoSaid : Prop := admitAddsUptoRow.holds Try.pinned (OpenSpec.upto admitAddsSpec)

/-- 'remontoirlaw20.AdmitHangs', WHERE WHAT IT READS IS OF BULK AT MOST 1048576: true; the input reads as it did. -/
def admitHangsUptoRow : OpenClaim := { program := "ytakiggekallckaa", sum := "5f51cef005ac8838fe99962716c809b1e05e75b5a5c30ffb73b1fe338c5227f4", func := "remontoir/remontoirlaw20.AdmitHangs", spec := "admitHangs", unfollowed := true, recurses := true, apart := false, narrowed := true }
def AdmitHangsUptoSaid : Prop := admitHangsUptoRow.holds Try.pinned (OpenSpec.upto admitHangsSpec)

/-- 'remontoirlaw20.AdmitChanges', WHERE WHAT IT READS IS OF BULK AT MOST 1048576: true; the input reads as it did. -/
def admitChangesUptoRow : OpenClaim := { program := "ytakiggekallckaa", sum := "5f51cef005ac8838fe99962716c809b1e05e75b5a5c30ffb73b1fe338c5227f4", func := "remontoir/remontoirlaw20.AdmitChanges", spec := "admitChanges", unfollowed := true, recurses := true, apart := false, narrowed := true }
def AdmitChangesUptoSaid : Prop := admitChangesUptoRow.holds Try.pinned (OpenSpec.upto admitChangesSpec)

/-- 'remontoirlaw17.PartMeets', WHERE WHAT IT READS IS OF BULK AT MOST 1048576: true; the input reads as it did. -/
def partMeetsUptoRow : OpenClaim := { program := "ytakiggekallckaa", sum := "5f51cef005ac8838fe99962716c809b1e05e75b5a5c30ffb73b1fe338c5227f4", func := "remontoir/remontoirlaw17.PartMeets", spec := "partMeets", unfollowed := true, recurses := true, apart := false, narrowed := true }
def PartMeetsUptoSaid : Prop := partMeetsUptoRow.holds Try.pinned (OpenSpec.upto partMeetsSpec)

/-- 'remontoirlaw20.AdmitMeets', WHERE WHAT IT READS IS OF BULK AT MOST 1048576: true; the input reads as it did. -/
def admitMeetsUptoRow : OpenClaim := { program := "ytakiggekallckaa", sum := "5f51cef005ac8838fe99962716c809b1e05e75b5a5c30ffb73b1fe338c5227f4", func := "remontoir/remontoirlaw20.AdmitMeets", spec := "admitMeets", unfollowed := true, recurses := true, apart := false, narrowed := true }
def AdmitMeetsUptoSaid : Prop := admitMeetsUptoRow.holds Try.pinned (OpenSpec.upto admitMeetsSpec)

end Rows
end Go.Proofs.Ytakiggekallckaa
