/-
  No cell of these rows narrows 'for every input' (looked for: loops, veiled, ifaces, maps, wideKeys, modest, calm, conditions, laid).
  DERIVED. THE GIVEN ROWS OF THIS SEAT. 11 by the template 'for every input the law returns true; each argument reads behind the call as it read before'; 0 by the template 'total and deterministic' (their statements: YtkhebjkplmidnaaTotals.lean).
  GIVEN WITH THE SEED: the statements are not yours to turn. If you find one false, say at which input.
  Laid BY PROGRAM, IN A SANDBOX (cutbox-rows.mjs): the forced cells as the released guide's own fill.sh prints them over the translation ddbe2ac56b5ae169… (all of the seat's roots in one cut). By AI agents, Wed Nov 11 2026. No macro, syntax, notation, axiom, sorry.
-/
import Derived.Test.YtkhebjkplmidnaaChecked
import GoSem.Claim
import GoSem.ClaimJoined
import GoSem.ClaimMapViews
import Derived.JoinedTies
import Derived.KernelRfl
namespace Go.Proofs.Ytkhebjkplmidnaa
/- THE CELL 'sum', in the pinned program and in every row, IS THE sha256 OF THE DUMP (.gsa) THAT YtkhebjkplmidnaaProg.lean LOADS. Nothing in Lean hashes anything: it is a label: what it is worth is what the hold of that sum in a sandbox is worth. -/
noncomputable def Try.pinned : Pinned := { name := "ytkhebjkplmidnaa", sum := "ddbe2ac56b5ae1699b5edda10c17a5c5b31a837a254d6f85b1be8c578974abb5", checked := Try.checked }
namespace Rows
def none {H : Type} : Left H := { results := [], args := [] }

/-- 'remontoirlaw16.PoliceTells': WHATEVER THE INPUT: true; the input reads as it did. -/
def policeTellsSpec : ChangeSpec := { name := "policeTells", fn := fun _ => fun
  | [d1, d2, d3, d4] => { results := [.lit (.bool true)], args := [d1, d2, d3, d4] }
  | _ => none }
def policeTellsRow : OpenClaim := { program := "ytkhebjkplmidnaa", sum := "ddbe2ac56b5ae1699b5edda10c17a5c5b31a837a254d6f85b1be8c578974abb5", func := "remontoir/remontoirlaw16.PoliceTells", spec := "policeTells", unfollowed := true, recurses := true, apart := false }
def PoliceTellsSaid : Prop := policeTellsRow.holds Try.pinned (OpenSpec.ofChange policeTellsSpec)

/-- ITS FALSE NEIGHBOUR: 'it returns false'. Refute it at one input. -/
def policeTellsWrong : ChangeSpec := { name := "policeTells", fn := fun _ => fun
  | [d1, d2, d3, d4] => { results := [.lit (.bool false)], args := [d1, d2, d3, d4] }
  | _ => none }
def PoliceTellsWrongFalsely : Prop := policeTellsRow.holds Try.pinned (OpenSpec.ofChange policeTellsWrong)

/-- 'remontoirlaw16.PoliceFilters': WHATEVER THE INPUT: true; the input reads as it did. -/
def policeFiltersSpec : ChangeSpec := { name := "policeFilters", fn := fun _ => fun
  | [d1, d2] => { results := [.lit (.bool true)], args := [d1, d2] }
  | _ => none }
def policeFiltersRow : OpenClaim := { program := "ytkhebjkplmidnaa", sum := "ddbe2ac56b5ae1699b5edda10c17a5c5b31a837a254d6f85b1be8c578974abb5", func := "remontoir/remontoirlaw16.PoliceFilters", spec := "policeFilters", unfollowed := true, recurses := true, apart := false }
def PoliceFiltersSaid : Prop := policeFiltersRow.holds Try.pinned (OpenSpec.ofChange policeFiltersSpec)

/-- ITS FALSE NEIGHBOUR: 'it returns false'. Refute it at one input. -/
def policeFiltersWrong : ChangeSpec := { name := "policeFilters", fn := fun _ => fun
  | [d1, d2] => { results := [.lit (.bool false)], args := [d1, d2] }
  | _ => none }
def PoliceFiltersWrongFalsely : Prop := policeFiltersRow.holds Try.pinned (OpenSpec.ofChange policeFiltersWrong)

/-- 'remontoirlaw16.PoliceLater': WHATEVER THE INPUT: true; the input reads as it did. -/
def policeLaterSpec : ChangeSpec := { name := "policeLater", fn := fun _ => fun
  | [d1, d2, d3, d4, d5] => { results := [.lit (.bool true)], args := [d1, d2, d3, d4, d5] }
  | _ => none }
def policeLaterRow : OpenClaim := { program := "ytkhebjkplmidnaa", sum := "ddbe2ac56b5ae1699b5edda10c17a5c5b31a837a254d6f85b1be8c578974abb5", func := "remontoir/remontoirlaw16.PoliceLater", spec := "policeLater", unfollowed := true, recurses := true, apart := false }
def PoliceLaterSaid : Prop := policeLaterRow.holds Try.pinned (OpenSpec.ofChange policeLaterSpec)

/-- ITS FALSE NEIGHBOUR: 'it returns false'. Refute it at one input. -/
def policeLaterWrong : ChangeSpec := { name := "policeLater", fn := fun _ => fun
  | [d1, d2, d3, d4, d5] => { results := [.lit (.bool false)], args := [d1, d2, d3, d4, d5] }
  | _ => none }
def PoliceLaterWrongFalsely : Prop := policeLaterRow.holds Try.pinned (OpenSpec.ofChange policeLaterWrong)

/-- 'remontoirlaw16.PolicePatterns': WHATEVER THE INPUT: true; the input reads as it did. -/
def policePatternsSpec : ChangeSpec := { name := "policePatterns", fn := fun _ => fun
  | [d1, d2] => { results := [.lit (.bool true)], args := [d1, d2] }
  | _ => none }
def policePatternsRow : OpenClaim := { program := "ytkhebjkplmidnaa", sum := "ddbe2ac56b5ae1699b5edda10c17a5c5b31a837a254d6f85b1be8c578974abb5", func := "remontoir/remontoirlaw16.PolicePatterns", spec := "policePatterns", unfollowed := true, recurses := true, apart := false }
def PolicePatternsSaid : Prop := policePatternsRow.holds Try.pinned (OpenSpec.ofChange policePatternsSpec)

/-- ITS FALSE NEIGHBOUR: 'it returns false'. Refute it at one input. -/
def policePatternsWrong : ChangeSpec := { name := "policePatterns", fn := fun _ => fun
  | [d1, d2] => { results := [.lit (.bool false)], args := [d1, d2] }
  | _ => none }
def PolicePatternsWrongFalsely : Prop := policePatternsRow.holds Try.pinned (OpenSpec.ofChange policePatternsWrong)

/-- 'remontoirlaw14.JobHolds': WHATEVER THE INPUT: true; the input reads as it did. -/
def jobHoldsSpec : ChangeSpec := { name := "jobHolds", fn := fun _ => fun
  | [d1, d2] => { results := [.lit (.bool true)], args := [d1, d2] }
  | _ => none }
def jobHoldsRow : OpenClaim := { program := "ytkhebjkplmidnaa", sum := "ddbe2ac56b5ae1699b5edda10c17a5c5b31a837a254d6f85b1be8c578974abb5", func := "remontoir/remontoirlaw14.JobHolds", spec := "jobHolds", unfollowed := true, recurses := true, apart := false }
def JobHoldsSaid : Prop := jobHoldsRow.holds Try.pinned (OpenSpec.ofChange jobHoldsSpec)

/-- ITS FALSE NEIGHBOUR: 'it returns false'. Refute it at one input. -/
def jobHoldsWrong : ChangeSpec := { name := "jobHolds", fn := fun _ => fun
  | [d1, d2] => { results := [.lit (.bool false)], args := [d1, d2] }
  | _ => none }
def JobHoldsWrongFalsely : Prop := jobHoldsRow.holds Try.pinned (OpenSpec.ofChange jobHoldsWrong)

/-- 'remontoirlaw14.JobOne': WHATEVER THE INPUT: true; the input reads as it did. -/
def jobOneSpec : ChangeSpec := { name := "jobOne", fn := fun _ => fun
  | [d1, d2, d3, d4, d5] => { results := [.lit (.bool true)], args := [d1, d2, d3, d4, d5] }
  | _ => none }
def jobOneRow : OpenClaim := { program := "ytkhebjkplmidnaa", sum := "ddbe2ac56b5ae1699b5edda10c17a5c5b31a837a254d6f85b1be8c578974abb5", func := "remontoir/remontoirlaw14.JobOne", spec := "jobOne", unfollowed := true, recurses := true, apart := false }
def JobOneSaid : Prop := jobOneRow.holds Try.pinned (OpenSpec.ofChange jobOneSpec)

/-- ITS FALSE NEIGHBOUR: 'it returns false'. Refute it at one input. -/
def jobOneWrong : ChangeSpec := { name := "jobOne", fn := fun _ => fun
  | [d1, d2, d3, d4, d5] => { results := [.lit (.bool false)], args := [d1, d2, d3, d4, d5] }
  | _ => none }
def JobOneWrongFalsely : Prop := jobOneRow.holds Try.pinned (OpenSpec.ofChange jobOneWrong)

/-- 'remontoirlaw14.JobFirst': WHATEVER THE INPUT: true; the input reads as it did. -/
def jobFirstSpec : ChangeSpec := { name := "jobFirst", fn := fun _ => fun
  | [d1, d2, d3] => { results := [.lit (.bool true)], args := [d1, d2, d3] }
  | _ => none }
def jobFirstRow : OpenClaim := { program := "ytkhebjkplmidnaa", sum := "ddbe2ac56b5ae1699b5edda10c17a5c5b31a837a254d6f85b1be8c578974abb5", func := "remontoir/remontoirlaw14.JobFirst", spec := "jobFirst", unfollowed := true, recurses := true, apart := false }
def JobFirstSaid : Prop := jobFirstRow.holds Try.pinned (OpenSpec.ofChange jobFirstSpec)

/-- ITS FALSE NEIGHBOUR: 'it returns false'. Refute it at one input. -/
def jobFirstWrong : ChangeSpec := { name := "jobFirst", fn := fun _ => fun
  | [d1, d2, d3] => { results := [.lit (.bool false)], args := [d1, d2, d3] }
  | _ => none }
def JobFirstWrongFalsely : Prop := jobFirstRow.holds Try.pinned (OpenSpec.ofChange jobFirstWrong)

/-- 'remontoirlaw15.SrpTells': WHATEVER THE INPUT: true; the input reads as it did. -/
def srpTellsSpec : ChangeSpec := { name := "srpTells", fn := fun _ => fun
  | [d1, d2] => { results := [.lit (.bool true)], args := [d1, d2] }
  | _ => none }
def srpTellsRow : OpenClaim := { program := "ytkhebjkplmidnaa", sum := "ddbe2ac56b5ae1699b5edda10c17a5c5b31a837a254d6f85b1be8c578974abb5", func := "remontoir/remontoirlaw15.SrpTells", spec := "srpTells", unfollowed := true, recurses := true, apart := false }
def SrpTellsSaid : Prop := srpTellsRow.holds Try.pinned (OpenSpec.ofChange srpTellsSpec)

/-- ITS FALSE NEIGHBOUR: 'it returns false'. Refute it at one input. -/
def srpTellsWrong : ChangeSpec := { name := "srpTells", fn := fun _ => fun
  | [d1, d2] => { results := [.lit (.bool false)], args := [d1, d2] }
  | _ => none }
def SrpTellsWrongFalsely : Prop := srpTellsRow.holds Try.pinned (OpenSpec.ofChange srpTellsWrong)

/-- 'remontoirlaw15.SrpHolds': WHATEVER THE INPUT: true; the input reads as it did. -/
def srpHoldsSpec : ChangeSpec := { name := "srpHolds", fn := fun _ => fun
  | [d1, d2] => { results := [.lit (.bool true)], args := [d1, d2] }
  | _ => none }
def srpHoldsRow : OpenClaim := { program := "ytkhebjkplmidnaa", sum := "ddbe2ac56b5ae1699b5edda10c17a5c5b31a837a254d6f85b1be8c578974abb5", func := "remontoir/remontoirlaw15.SrpHolds", spec := "srpHolds", unfollowed := true, recurses := true, apart := false }
def SrpHoldsSaid : Prop := srpHoldsRow.holds Try.pinned (OpenSpec.ofChange srpHoldsSpec)

/-- ITS FALSE NEIGHBOUR: 'it returns false'. Refute it at one input. -/
def srpHoldsWrong : ChangeSpec := { name := "srpHolds", fn := fun _ => fun
  | [d1, d2] => { results := [.lit (.bool false)], args := [d1, d2] }
  | _ => none }
def SrpHoldsWrongFalsely : Prop := srpHoldsRow.holds Try.pinned (OpenSpec.ofChange srpHoldsWrong)

/-- 'remontoirlaw15.SrpWorks': WHATEVER THE INPUT: true; the input reads as it did. -/
def srpWorksSpec : ChangeSpec := { name := "srpWorks", fn := fun _ => fun
  | [d1, d2] => { results := [.lit (.bool true)], args := [d1, d2] }
  | _ => none }
def srpWorksRow : OpenClaim := { program := "ytkhebjkplmidnaa", sum := "ddbe2ac56b5ae1699b5edda10c17a5c5b31a837a254d6f85b1be8c578974abb5", func := "remontoir/remontoirlaw15.SrpWorks", spec := "srpWorks", unfollowed := true, recurses := true, apart := false }
def SrpWorksSaid : Prop := srpWorksRow.holds Try.pinned (OpenSpec.ofChange srpWorksSpec)

/-- ITS FALSE NEIGHBOUR: 'it returns false'. Refute it at one input. -/
def srpWorksWrong : ChangeSpec := { name := "srpWorks", fn := fun _ => fun
  | [d1, d2] => { results := [.lit (.bool false)], args := [d1, d2] }
  | _ => none }
def SrpWorksWrongFalsely : Prop := srpWorksRow.holds Try.pinned (OpenSpec.ofChange srpWorksWrong)

/-- 'remontoirlaw15.SrpStacks': WHATEVER THE INPUT: true; the input reads as it did. -/
def srpStacksSpec : ChangeSpec := { name := "srpStacks", fn := fun _ => fun
  | [d1, d2] => { results := [.lit (.bool true)], args := [d1, d2] }
  | _ => none }
def srpStacksRow : OpenClaim := { program := "ytkhebjkplmidnaa", sum := "ddbe2ac56b5ae1699b5edda10c17a5c5b31a837a254d6f85b1be8c578974abb5", func := "remontoir/remontoirlaw15.SrpStacks", spec := "srpStacks", unfollowed := true, recurses := true, apart := false }
def SrpStacksSaid : Prop := srpStacksRow.holds Try.pinned (OpenSpec.ofChange srpStacksSpec)

/-- ITS FALSE NEIGHBOUR: 'it returns false'. Refute it at one input. -/
def srpStacksWrong : ChangeSpec := { name := "srpStacks", fn := fun _ => fun
  | [d1, d2] => { results := [.lit (.bool false)], args := [d1, d2] }
  | _ => none }
def SrpStacksWrongFalsely : Prop := srpStacksRow.holds Try.pinned (OpenSpec.ofChange srpStacksWrong)

/- THE SECOND FORM. 'bulk': how many values and letters a reading holds, each counted each time it is reached (what is shared counts as often as it is met; a slice's spare places count too). A statement '..UptoSaid' is the law's where the arguments, and the package variables that the reading takes, are together of bulk at most 1048576: NARROWER than '..Said'. Prove '..Said' where nothing that the law and all that it calls make is longer than what came in: it says more and counts as full. Else prove '..UptoSaid'. A law counts once. -/
mutual
def uptoBulk {H : Type} : DataW H → Nat
  | .lit (.string bytes) => bytes.length + 1
  | .lit _ => 1
  | .nil => 1
  | .ptr d => uptoBulk d + 1
  | .slice elems spare => uptoBulkAll elems + uptoBulkAll spare + 1
  | .agg parts => uptoBulkAll parts + 1
  | .iface _ d => uptoBulk d + 1
  | .map entries => uptoBulkEntries entries + 1
  | .held _ => 1
def uptoBulkAll {H : Type} : List (DataW H) → Nat
  | [] => 0
  | d :: r => uptoBulk d + uptoBulkAll r
def uptoBulkEntries {H : Type} : List (Lit × DataW H) → Nat
  | [] => 0
  | x :: r => uptoBulkEntry x + uptoBulkEntries r
def uptoBulkEntry {H : Type} : Lit × DataW H → Nat
  | (.string bytes, d) => bytes.length + uptoBulk d + 1
  | (_, d) => uptoBulk d + 1
 end
def uptoSmall : (H : Type) → List (DataW H) → Bool := fun _ ds => decide (uptoBulkAll ds ≤ 1048576)
def OpenSpec.upto (s : _root_.Go.ChangeSpec) : _root_.Go.OpenSpec := { _root_.Go.OpenSpec.ofChange s with cond := some uptoSmall }

/-- 'remontoirlaw16.PoliceTells', WHERE WHAT IT READS IS OF BULK AT MOST 1048576: true; the input reads as it did. -/
def policeTellsUptoRow : OpenClaim := { program := "ytkhebjkplmidnaa", sum := "ddbe2ac56b5ae1699b5edda10c17a5c5b31a837a254d6f85b1be8c578974abb5", func := "remontoir/remontoirlaw16.PoliceTells", spec := "policeTells", unfollowed := true, recurses := true, apart := false, narrowed := true }
def PoliceTellsUptoSaid : Prop := policeTellsUptoRow.holds Try.pinned (OpenSpec.upto policeTellsSpec)

/-- 'remontoirlaw16.PoliceFilters', WHERE WHAT IT READS IS OF BULK AT MOST 1048576: true; the input reads as it did. -/
def policeFiltersUptoRow : OpenClaim := { program := "ytkhebjkplmidnaa", sum := "ddbe2ac56b5ae1699b5edda10c17a5c5b31a837a254d6f85b1be8c578974abb5", func := "remontoir/remontoirlaw16.PoliceFilters", spec := "policeFilters", unfollowed := true, recurses := true, apart := false, narrowed := true }
def PoliceFiltersUptoSaid : Prop := policeFiltersUptoRow.holds Try.pinned (OpenSpec.upto policeFiltersSpec)

/-- 'remontoirlaw16.PoliceLater', WHERE WHAT IT READS IS OF BULK AT MOST 1048576: true; the input reads as it did. -/
def policeLaterUptoRow : OpenClaim := { program := "ytkhebjkplmidnaa", sum := "ddbe2ac56b5ae1699b5edda10c17a5c5b31a837a254d6f85b1be8c578974abb5", func := "remontoir/remontoirlaw16.PoliceLater", spec := "policeLater", unfollowed := true, recurses := true, apart := false, narrowed := true }
def PoliceLaterUptoSaid : Prop := policeLaterUptoRow.holds Try.pinned (OpenSpec.upto policeLaterSpec)

/-- 'remontoirlaw16.PolicePatterns', WHERE WHAT IT READS IS OF BULK AT MOST 1048576: true; the input reads as it did. -/
def policePatternsUptoRow : OpenClaim := { program := "ytkhebjkplmidnaa", sum := "ddbe2ac56b5ae1699b5edda10c17a5c5b31a837a254d6f85b1be8c578974abb5", func := "remontoir/remontoirlaw16.PolicePatterns", spec := "policePatterns", unfollowed := true, recurses := true, apart := false, narrowed := true }
def PolicePatternsUptoSaid : Prop := policePatternsUptoRow.holds Try.pinned (OpenSpec.upto policePatternsSpec)

/-- 'remontoirlaw14.JobHolds', WHERE WHAT IT READS IS OF BULK AT MOST 1048576: true; the input reads as it did. -/
def jobHoldsUptoRow : OpenClaim := { program := "ytkhebjkplmidnaa", sum := "ddbe2ac56b5ae1699b5edda10c17a5c5b31a837a254d6f85b1be8c578974abb5", func := "remontoir/remontoirlaw14.JobHolds", spec := "jobHolds", unfollowed := true, recurses := true, apart := false, narrowed := true }
def JobHoldsUptoSaid : Prop := jobHoldsUptoRow.holds Try.pinned (OpenSpec.upto jobHoldsSpec)

/-- 'remontoirlaw14.JobOne', WHERE WHAT IT READS IS OF BULK AT MOST 1048576: true; the input reads as it did. -/
def jobOneUptoRow : OpenClaim := { program := "ytkhebjkplmidnaa", sum := "ddbe2ac56b5ae1699b5edda10c17a5c5b31a837a254d6f85b1be8c578974abb5", func := "remontoir/remontoirlaw14.JobOne", spec := "jobOne", unfollowed := true, recurses := true, apart := false, narrowed := true }
def JobOneUptoSaid : Prop := jobOneUptoRow.holds Try.pinned (OpenSpec.upto jobOneSpec)

/-- 'remontoirlaw14.JobFirst', WHERE WHAT IT READS IS OF BULK AT MOST 1048576: true; the input reads as it did. -/
def jobFirstUptoRow : OpenClaim := { program := "ytkhebjkplmidnaa", sum := "ddbe2ac56b5ae1699b5edda10c17a5c5b31a837a254d6f85b1be8c578974abb5", func := "remontoir/remontoirlaw14.JobFirst", spec := "jobFirst", unfollowed := true, recurses := true, apart := false, narrowed := true }
def JobFirstUptoSaid : Prop := jobFirstUptoRow.holds Try.pinned (OpenSpec.upto jobFirstSpec)

/-- 'remontoirlaw15.SrpTells', WHERE WHAT IT READS IS OF BULK AT MOST 1048576: true; the input reads as it did. -/
def srpTellsUptoRow : OpenClaim := { program := "ytkhebjkplmidnaa", sum := "ddbe2ac56b5ae1699b5edda10c17a5c5b31a837a254d6f85b1be8c578974abb5", func := "remontoir/remontoirlaw15.SrpTells", spec := "srpTells", unfollowed := true, recurses := true, apart := false, narrowed := true }
def SrpTellsUptoSaid : Prop := srpTellsUptoRow.holds Try.pinned (OpenSpec.upto srpTellsSpec)

/-- 'remontoirlaw15.SrpHolds', WHERE WHAT IT READS IS OF BULK AT MOST 1048576: true; the input reads as it did. -/
def srpHoldsUptoRow : OpenClaim := { program := "ytkhebjkplmidnaa", sum := "ddbe2ac56b5ae1699b5edda10c17a5c5b31a837a254d6f85b1be8c578974abb5", func := "remontoir/remontoirlaw15.SrpHolds", spec := "srpHolds", unfollowed := true, recurses := true, apart := false, narrowed := true }
def SrpHoldsUptoSaid : Prop := srpHoldsUptoRow.holds Try.pinned (OpenSpec.upto srpHoldsSpec)

/-- 'remontoirlaw15.SrpWorks', WHERE WHAT IT READS IS OF BULK AT MOST 1048576: true; the input reads as it did. -/
def srpWorksUptoRow : OpenClaim := { program := "ytkhebjkplmidnaa", sum := "ddbe2ac56b5ae1699b5edda10c17a5c5b31a837a254d6f85b1be8c578974abb5", func := "remontoir/remontoirlaw15.SrpWorks", spec := "srpWorks", unfollowed := true, recurses := true, apart := false, narrowed := true }
def SrpWorksUptoSaid : Prop := srpWorksUptoRow.holds Try.pinned (OpenSpec.upto srpWorksSpec)

/-- 'remontoirlaw15.SrpStacks', WHERE WHAT IT READS IS OF BULK AT MOST 1048576: true; the input reads as it did. -/
def srpStacksUptoRow : OpenClaim := { program := "ytkhebjkplmidnaa", sum := "ddbe2ac56b5ae1699b5edda10c17a5c5b31a837a254d6f85b1be8c578974abb5", func := "remontoir/remontoirlaw15.SrpStacks", spec := "srpStacks", unfollowed := true, recurses := true, apart := false, narrowed := true }
def SrpStacksUptoSaid : Prop := srpStacksUptoRow.holds Try.pinned (OpenSpec.upto srpStacksSpec)

end Rows
end Go.Proofs.Ytkhebjkplmidnaa
