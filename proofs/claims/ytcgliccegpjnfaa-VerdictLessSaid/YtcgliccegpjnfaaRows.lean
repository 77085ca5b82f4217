/-
  No cell of these rows narrows 'for every input' (looked for: loops, veiled, ifaces, maps, wideKeys, modest, calm, conditions, laid).
  DERIVED. THE GIVEN ROWS OF THIS SEAT. 12 by the template 'for every input the law returns true; each argument reads behind the call as it read before'; 0 by the template 'total and deterministic' (their statements: YtcgliccegpjnfaaTotals.lean).
  GIVEN WITH THE SEED: the statements are not yours to turn. If you find one false, say at which input.
  Laid BY PROGRAM, IN A SANDBOX (cutbox-rows.mjs): the forced cells as the released guide's own fill.sh prints them over the translation a4925ae2008b1649… (all of the seat's roots in one cut). By AI agents, Wed Nov 11 2026. No macro, syntax, notation, axiom, sorry.
-/
import Derived.Test.YtcgliccegpjnfaaChecked
import GoSem.Claim
import GoSem.ClaimJoined
import GoSem.ClaimMapViews
import Derived.JoinedTies
import Derived.KernelRfl
namespace Go.Proofs.Ytcgliccegpjnfaa
/- THE CELL 'sum', in the pinned program and in every row, IS THE sha256 OF THE DUMP (.gsa) THAT YtcgliccegpjnfaaProg.lean LOADS. Nothing in Lean hashes anything: it is a label: what it is worth is what the hold of that sum in a sandbox is worth. -/
noncomputable def Try.pinned : Pinned := { name := "ytcgliccegpjnfaa", sum := "a4925ae2008b164934774a10f8e84b69dca893f563c8daee856ad3437203ca2a", checked := Try.checked }
namespace Rows
def none {H : Type} : Left H := { results := [], args := [] }

/-- 'remontoirlaw07.DemandBounds': WHATEVER THE INPUT: true; the input reads as it did. -/
def demandBoundsSpec : ChangeSpec := { name := "demandBounds", fn := fun _ => fun
  | [d1, d2] => { results := [.lit (.bool true)], args := [d1, d2] }
  | _ => none }
def demandBoundsRow : OpenClaim := { program := "ytcgliccegpjnfaa", sum := "a4925ae2008b164934774a10f8e84b69dca893f563c8daee856ad3437203ca2a", func := "remontoir/remontoirlaw07.DemandBounds", spec := "demandBounds", unfollowed := true, recurses := true, apart := false }
def DemandBoundsSaid : Prop := demandBoundsRow.holds Try.pinned (OpenSpec.ofChange demandBoundsSpec)

/-- ITS FALSE NEIGHBOUR: 'it returns false'. Refute it at one input. -/
def demandBoundsWrong : ChangeSpec := { name := "demandBounds", fn := fun _ => fun
  | [d1, d2] => { results := [.lit (.bool false)], args := [d1, d2] }
  | _ => none }
def DemandBoundsWrongFalsely : Prop := demandBoundsRow.holds Try.pinned (OpenSpec.ofChange demandBoundsWrong)

/-- 'remontoirlaw07.DemandLarge': WHATEVER THE INPUT: true; the input reads as it did. -/
def demandLargeSpec : ChangeSpec := { name := "demandLarge", fn := fun _ => fun
  | [d1, d2] => { results := [.lit (.bool true)], args := [d1, d2] }
  | _ => none }
def demandLargeRow : OpenClaim := { program := "ytcgliccegpjnfaa", sum := "a4925ae2008b164934774a10f8e84b69dca893f563c8daee856ad3437203ca2a", func := "remontoir/remontoirlaw07.DemandLarge", spec := "demandLarge", unfollowed := true, recurses := true, apart := false }
def DemandLargeSaid : Prop := demandLargeRow.holds Try.pinned (OpenSpec.ofChange demandLargeSpec)

/-- ITS FALSE NEIGHBOUR: 'it returns false'. Refute it at one input. -/
def demandLargeWrong : ChangeSpec := { name := "demandLarge", fn := fun _ => fun
  | [d1, d2] => { results := [.lit (.bool false)], args := [d1, d2] }
  | _ => none }
def DemandLargeWrongFalsely : Prop := demandLargeRow.holds Try.pinned (OpenSpec.ofChange demandLargeWrong)

/-- 'remontoirlaw07.DemandPatterns': WHATEVER THE INPUT: true; the input reads as it did. -/
def demandPatternsSpec : ChangeSpec := { name := "demandPatterns", fn := fun _ => fun
  | [d1, d2, d3, d4] => { results := [.lit (.bool true)], args := [d1, d2, d3, d4] }
  | _ => none }
def demandPatternsRow : OpenClaim := { program := "ytcgliccegpjnfaa", sum := "a4925ae2008b164934774a10f8e84b69dca893f563c8daee856ad3437203ca2a", func := "remontoir/remontoirlaw07.DemandPatterns", spec := "demandPatterns", unfollowed := true, recurses := true, apart := false }
def DemandPatternsSaid : Prop := demandPatternsRow.holds Try.pinned (OpenSpec.ofChange demandPatternsSpec)

/-- ITS FALSE NEIGHBOUR: 'it returns false'. Refute it at one input. -/
def demandPatternsWrong : ChangeSpec := { name := "demandPatterns", fn := fun _ => fun
  | [d1, d2, d3, d4] => { results := [.lit (.bool false)], args := [d1, d2, d3, d4] }
  | _ => none }
def DemandPatternsWrongFalsely : Prop := demandPatternsRow.holds Try.pinned (OpenSpec.ofChange demandPatternsWrong)

/-- 'remontoirlaw07.DemandMost': WHATEVER THE INPUT: true; the input reads as it did. -/
def demandMostSpec : ChangeSpec := { name := "demandMost", fn := fun _ => fun
  | [d1, d2, d3, d4] => { results := [.lit (.bool true)], args := [d1, d2, d3, d4] }
  | _ => none }
def demandMostRow : OpenClaim := { program := "ytcgliccegpjnfaa", sum := "a4925ae2008b164934774a10f8e84b69dca893f563c8daee856ad3437203ca2a", func := "remontoir/remontoirlaw07.DemandMost", spec := "demandMost", unfollowed := true, recurses := true, apart := false }
def DemandMostSaid : Prop := demandMostRow.holds Try.pinned (OpenSpec.ofChange demandMostSpec)

/-- ITS FALSE NEIGHBOUR: 'it returns false'. Refute it at one input. -/
def demandMostWrong : ChangeSpec := { name := "demandMost", fn := fun _ => fun
  | [d1, d2, d3, d4] => { results := [.lit (.bool false)], args := [d1, d2, d3, d4] }
  | _ => none }
def DemandMostWrongFalsely : Prop := demandMostRow.holds Try.pinned (OpenSpec.ofChange demandMostWrong)

/-- 'remontoirlaw07.DemandFirst': WHATEVER THE INPUT: true; the input reads as it did. -/
def demandFirstSpec : ChangeSpec := { name := "demandFirst", fn := fun _ => fun
  | [d1, d2] => { results := [.lit (.bool true)], args := [d1, d2] }
  | _ => none }
def demandFirstRow : OpenClaim := { program := "ytcgliccegpjnfaa", sum := "a4925ae2008b164934774a10f8e84b69dca893f563c8daee856ad3437203ca2a", func := "remontoir/remontoirlaw07.DemandFirst", spec := "demandFirst", unfollowed := true, recurses := true, apart := false }
def DemandFirstSaid : Prop := demandFirstRow.holds Try.pinned (OpenSpec.ofChange demandFirstSpec)

/-- ITS FALSE NEIGHBOUR: 'it returns false'. Refute it at one input. -/
def demandFirstWrong : ChangeSpec := { name := "demandFirst", fn := fun _ => fun
  | [d1, d2] => { results := [.lit (.bool false)], args := [d1, d2] }
  | _ => none }
def DemandFirstWrongFalsely : Prop := demandFirstRow.holds Try.pinned (OpenSpec.ofChange demandFirstWrong)

/-- 'remontoirlaw07.DemandRises': WHATEVER THE INPUT: true; the input reads as it did. -/
def demandRisesSpec : ChangeSpec := { name := "demandRises", fn := fun _ => fun
  | [d1, d2, d3, d4] => { results := [.lit (.bool true)], args := [d1, d2, d3, d4] }
  | _ => none }
def demandRisesRow : OpenClaim := { program := "ytcgliccegpjnfaa", sum := "a4925ae2008b164934774a10f8e84b69dca893f563c8daee856ad3437203ca2a", func := "remontoir/remontoirlaw07.DemandRises", spec := "demandRises", unfollowed := true, recurses := true, apart := false }
def DemandRisesSaid : Prop := demandRisesRow.holds Try.pinned (OpenSpec.ofChange demandRisesSpec)

/-- ITS FALSE NEIGHBOUR: 'it returns false'. Refute it at one input. -/
def demandRisesWrong : ChangeSpec := { name := "demandRises", fn := fun _ => fun
  | [d1, d2, d3, d4] => { results := [.lit (.bool false)], args := [d1, d2, d3, d4] }
  | _ => none }
def DemandRisesWrongFalsely : Prop := demandRisesRow.holds Try.pinned (OpenSpec.ofChange demandRisesWrong)

/-- 'remontoirlaw10.VerdictNeeds': WHATEVER THE INPUT: true; the input reads as it did. -/
def verdictNeedsSpec : ChangeSpec := { name := "verdictNeeds", fn := fun _ => fun
  | [d1, d2] => { results := [.lit (.bool true)], args := [d1, d2] }
  | _ => none }
def verdictNeedsRow : OpenClaim := { program := "ytcgliccegpjnfaa", sum := "a4925ae2008b164934774a10f8e84b69dca893f563c8daee856ad3437203ca2a", func := "remontoir/remontoirlaw10.VerdictNeeds", spec := "verdictNeeds", unfollowed := true, recurses := true, apart := false }
def VerdictNeedsSaid : Prop := verdictNeedsRow.holds Try.pinned (OpenSpec.ofChange verdictNeedsSpec)

/-- ITS FALSE NEIGHBOUR: 'it returns false'. Refute it at one input. -/
def verdictNeedsWrong : ChangeSpec := { name := "verdictNeeds", fn := fun _ => fun
  | [d1, d2] => { results := [.lit (.bool false)], args := [d1, d2] }
  | _ => none }
def VerdictNeedsWrongFalsely : Prop := verdictNeedsRow.holds Try.pinned (OpenSpec.ofChange verdictNeedsWrong)

/-- 'remontoirlaw10.VerdictCycles': WHATEVER THE INPUT: true; the input reads as it did. -/
def verdictCyclesSpec : ChangeSpec := { name := "verdictCycles", fn := fun _ => fun
  | [d1, d2] => { results := [.lit (.bool true)], args := [d1, d2] }
  | _ => none }
def verdictCyclesRow : OpenClaim := { program := "ytcgliccegpjnfaa", sum := "a4925ae2008b164934774a10f8e84b69dca893f563c8daee856ad3437203ca2a", func := "remontoir/remontoirlaw10.VerdictCycles", spec := "verdictCycles", unfollowed := true, recurses := true, apart := false }
def VerdictCyclesSaid : Prop := verdictCyclesRow.holds Try.pinned (OpenSpec.ofChange verdictCyclesSpec)

/-- ITS FALSE NEIGHBOUR: 'it returns false'. Refute it at one input. -/
def verdictCyclesWrong : ChangeSpec := { name := "verdictCycles", fn := fun _ => fun
  | [d1, d2] => { results := [.lit (.bool false)], args := [d1, d2] }
  | _ => none }
def VerdictCyclesWrongFalsely : Prop := verdictCyclesRow.holds Try.pinned (OpenSpec.ofChange verdictCyclesWrong)

/-- 'remontoirlaw10.VerdictTells': WHATEVER THE INPUT: true; the input reads as it did. -/
def verdictTellsSpec : ChangeSpec := { name := "verdictTells", fn := fun _ => fun
  | [d1, d2] => { results := [.lit (.bool true)], args := [d1, d2] }
  | _ => none }
def verdictTellsRow : OpenClaim := { program := "ytcgliccegpjnfaa", sum := "a4925ae2008b164934774a10f8e84b69dca893f563c8daee856ad3437203ca2a", func := "remontoir/remontoirlaw10.VerdictTells", spec := "verdictTells", unfollowed := true, recurses := true, apart := false }
def VerdictTellsSaid : Prop := verdictTellsRow.holds Try.pinned (OpenSpec.ofChange verdictTellsSpec)

/-- ITS FALSE NEIGHBOUR: 'it returns false'. Refute it at one input. -/
def verdictTellsWrong : ChangeSpec := { name := "verdictTells", fn := fun _ => fun
  | [d1, d2] => { results := [.lit (.bool false)], args := [d1, d2] }
  | _ => none }
def VerdictTellsWrongFalsely : Prop := verdictTellsRow.holds Try.pinned (OpenSpec.ofChange verdictTellsWrong)

/-- 'remontoirlaw10.VerdictAll': WHATEVER THE INPUT: true; the input reads as it did. -/
def verdictAllSpec : ChangeSpec := { name := "verdictAll", fn := fun _ => fun
  | [d1, d2, d3] => { results := [.lit (.bool true)], args := [d1, d2, d3] }
  | _ => none }
def verdictAllRow : OpenClaim := { program := "ytcgliccegpjnfaa", sum := "a4925ae2008b164934774a10f8e84b69dca893f563c8daee856ad3437203ca2a", func := "remontoir/remontoirlaw10.VerdictAll", spec := "verdictAll", unfollowed := true, recurses := true, apart := false }
def VerdictAllSaid : Prop := verdictAllRow.holds Try.pinned (OpenSpec.ofChange verdictAllSpec)

/-- ITS FALSE NEIGHBOUR: 'it returns false'. Refute it at one input. -/
def verdictAllWrong : ChangeSpec := { name := "verdictAll", fn := fun _ => fun
  | [d1, d2, d3] => { results := [.lit (.bool false)], args := [d1, d2, d3] }
  | _ => none }
def VerdictAllWrongFalsely : Prop := verdictAllRow.holds Try.pinned (OpenSpec.ofChange verdictAllWrong)

/-- 'remontoirlaw10.VerdictSome': WHATEVER THE INPUT: true; the input reads as it did. -/
def verdictSomeSpec : ChangeSpec := { name := "verdictSome", fn := fun _ => fun
  | [d1, d2] => { results := [.lit (.bool true)], args := [d1, d2] }
  | _ => none }
def verdictSomeRow : OpenClaim := { program := "ytcgliccegpjnfaa", sum := "a4925ae2008b164934774a10f8e84b69dca893f563c8daee856ad3437203ca2a", func := "remontoir/remontoirlaw10.VerdictSome", spec := "verdictSome", unfollowed := true, recurses := true, apart := false }
def VerdictSomeSaid : Prop := verdictSomeRow.holds Try.pinned (OpenSpec.ofChange verdictSomeSpec)

/-- ITS FALSE NEIGHBOUR: 'it returns false'. Refute it at one input. -/
def verdictSomeWrong : ChangeSpec := { name := "verdictSome", fn := fun _ => fun
  | [d1, d2] => { results := [.lit (.bool false)], args := [d1, d2] }
  | _ => none }
def VerdictSomeWrongFalsely : Prop := verdictSomeRow.holds Try.pinned (OpenSpec.ofChange verdictSomeWrong)

/-- 'remontoirlaw10.VerdictLess': WHATEVER THE INPUT: true; the input reads as it did. -/
def verdictLessSpec : ChangeSpec := { name := "verdictLess", fn := fun _ => fun
  | [d1, d2, d3] => { results := [.lit (.bool true)], args := [d1, d2, d3] }
  | _ => none }
def verdictLessRow : OpenClaim := { program := "ytcgliccegpjnfaa", sum := "a4925ae2008b164934774a10f8e84b69dca893f563c8daee856ad3437203ca2a", func := "remontoir/remontoirlaw10.VerdictLess", spec := "verdictLess", unfollowed := true, recurses := true, apart := false }
def VerdictLessSaid : Prop := verdictLessRow.holds Try.pinned (OpenSpec.ofChange verdictLessSpec)

/-- ITS FALSE NEIGHBOUR: 'it returns false'. Refute it at one input. -/
def verdictLessWrong : ChangeSpec := { name := "verdictLess", fn := fun _ => fun
  | [d1, d2, d3] => { results := [.lit (.bool false)], args := [d1, d2, d3] }
  | _ => none }
def VerdictLessWrongFalsely : Prop := verdictLessRow.holds Try.pinned (OpenSpec.ofChange verdictLessWrong)

/- THE SECOND FORM. 'bulk': how many values and letters a reading holds, each counted each time it is reached (what is shared counts as often as it is met; a slice's spare places count too). A statement '..UptoSaid' is the law's where the arguments, and the package variables that the reading takes, are together of bulk at most 1048576: NARROWER than '..Said'. Prove '..Said' where nothing that the law and all that it calls make is longer than what came in: it says more and counts as full. Else prove '..UptoSaid'. A law counts once. -/
mutual
def uptoBulk {H : Type} : DataW H → Nat
  | .lit (.string bytes) => bytes.length + 1
  | .lit _ => 1
  | .nil => 1
  | .ptr d => uptoBulk d + 1
  | .slice elems spare => uptoBulkAll elems + uptoBulkAll spare + 1
  | .agg parts => uptoBulkAll parts + 1
  | .iface _ d => uptoBulk d + 1
  | .map entries => uptoBulkEntries entries + 1
  | .held _ => 1
def uptoBulkAll {H : Type} : List (DataW H) → Nat
  | [] => 0
  | d :: r => uptoBulk d + uptoBulkAll r
def uptoBulkEntries {H : Type} : List (Lit × DataW H) → Nat
  | [] => 0
  | x :: r => uptoBulkEntry x + uptoBulkEntries r
def uptoBulkEntry {H : Type} : Lit × DataW H → Nat
  | (.string bytes, d) => bytes.length + uptoBulk d + 1
  | (_, d) => uptoBulk d + 1
 end
def uptoSmall : (H : Type) → List (DataW H) → Bool := fun _ ds => decide (uptoBulkAll ds ≤ 1048576)
def OpenSpec.upto (s : _root_.Go.ChangeSpec) : _root_.Go.OpenSpec := { _root_.Go.OpenSpec.ofChange s with cond := some uptoSmall }

/-- 'remontoirlaw07.DemandBounds', WHERE WHAT IT READS IS OF BULK AT MOST 1048576: true; the input reads as it did. -/
def demandBoundsUptoRow : OpenClaim := { program := "ytcgliccegpjnfaa", sum := "a4925ae2008b164934774a10f8e84b69dca893f563c8daee856ad3437203ca2a", func := "remontoir/remontoirlaw07.DemandBounds", spec := "demandBounds", unfollowed := true, recurses := true, apart := false, narrowed := true }
def DemandBoundsUptoSaid : Prop := demandBoundsUptoRow.holds Try.pinned (OpenSpec.upto demandBoundsSpec)

/-- 'remontoirlaw07.DemandLarge', WHERE WHAT IT READS IS OF BULK AT MOST 1048576: true; the input reads as it did. -/
def demandLargeUptoRow : OpenClaim := { program := "ytcgliccegpjnfaa", sum := "a4925ae2008b164934774a10f8e84b69dca893f563c8daee856ad3437203ca2a", func := "remontoir/remontoirlaw07.DemandLarge", spec := "demandLarge", unfollowed := true, recurses := true, apart := false, narrowed := true }
def DemandLargeUptoSaid : Prop := demandLargeUptoRow.holds Try.pinned (OpenSpec.upto demandLargeSpec)

/-- 'remontoirlaw07.DemandPatterns', WHERE WHAT IT READS IS OF BULK AT MOST 1048576: true; the input reads as it did. -/
def demandPatternsUptoRow : OpenClaim := { program := "ytcgliccegpjnfaa", sum := "a4925ae2008b164934774a10f8e84b69dca893f563c8daee856ad3437203ca2a", func := "remontoir/remontoirlaw07.DemandPatterns", spec := "demandPatterns", unfollowed := true, recurses := true, apart := false, narrowed := true }
def DemandPatternsUptoSaid : Prop := demandPatternsUptoRow.holds Try.pinned (OpenSpec.upto demandPatternsSpec)

/-- 'remontoirlaw07.DemandMost', WHERE WHAT IT READS IS OF BULK AT MOST 1048576: true; the input reads as it did. -/
def demandMostUptoRow : OpenClaim := { program := "ytcgliccegpjnfaa", sum := "a4925ae2008b164934774a10f8e84b69dca893f563c8daee856ad3437203ca2a", func := "remontoir/remontoirlaw07.DemandMost", spec := "demandMost", unfollowed := true, recurses := true, apart := false, narrowed := true }
def DemandMostUptoSaid : Prop := demandMostUptoRow.holds Try.pinned (OpenSpec.upto demandMostSpec)

/-- 'remontoirlaw07.DemandFirst', WHERE WHAT IT READS IS OF BULK AT MOST 1048576: true; the input reads as it did. -/
def demandFirstUptoRow : OpenClaim := { program := "ytcgliccegpjnfaa", sum := "a4925ae2008b164934774a10f8e84b69dca893f563c8daee856ad3437203ca2a", func := "remontoir/remontoirlaw07.DemandFirst", spec := "demandFirst", unfollowed := true, recurses := true, apart := false, narrowed := true }
def DemandFirstUptoSaid : Prop := demandFirstUptoRow.holds Try.pinned (OpenSpec.upto demandFirstSpec)

/-- 'remontoirlaw07.DemandRises', WHERE WHAT IT READS IS OF BULK AT MOST 1048576: true; the input reads as it did. -/
def demandRisesUptoRow : OpenClaim := { program := "ytcgliccegpjnfaa", sum := "a4925ae2008b164934774a10f8e84b69dca893f563c8daee856ad3437203ca2a", func := "remontoir/remontoirlaw07.DemandRises", spec := "demandRises", unfollowed := true, recurses := true, apart := false, narrowed := true }
def DemandRisesUptoSaid : Prop := demandRisesUptoRow.holds Try.pinned (OpenSpec.upto demandRisesSpec)

/-- 'remontoirlaw10.VerdictNeeds', WHERE WHAT IT READS IS OF BULK AT MOST 1048576: true; the input reads as it did. -/
def verdictNeedsUptoRow : OpenClaim := { program := "ytcgliccegpjnfaa", sum := "a4925ae2008b164934774a10f8e84b69dca893f563c8daee856ad3437203ca2a", func := "remontoir/remontoirlaw10.VerdictNeeds", spec := "verdictNeeds", unfollowed := true, recurses := true, apart := false, narrowed := true }
def VerdictNeedsUptoSaid : Prop := verdictNeedsUptoRow.holds Try.pinned (OpenSpec.upto verdictNeedsSpec)

/-- 'remontoirlaw10.VerdictCycles', WHERE WHAT IT READS IS OF BULK AT MOST 1048576: true; the input reads as it did. -/
def verdictCyclesUptoRow : OpenClaim := { program := "ytcgliccegpjnfaa", sum := "a4925ae2008b164934774a10f8e84b69dca893f563c8daee856ad3437203ca2a", func := "remontoir/remontoirlaw10.VerdictCycles", spec := "verdictCycles", unfollowed := true, recurses := true, apart := false, narrowed := true }
def VerdictCyclesUptoSaid : Prop := verdictCyclesUptoRow.holds Try.pinned (OpenSpec.upto verdictCyclesSpec)

/-- 'remontoirlaw10.VerdictTells', WHERE WHAT IT READS IS OF BULK AT MOST 1048576: true; the input reads as it did. -/
def verdictTellsUptoRow : OpenClaim := { program := "ytcgliccegpjnfaa", sum := "a4925ae2008b164934774a10f8e84b69dca893f563c8daee856ad3437203ca2a", func := "remontoir/remontoirlaw10.VerdictTells", spec := "verdictTells", unfollowed := true, recurses := true, apart := false, narrowed := true }
def VerdictTellsUptoSaid : Prop := verdictTellsUptoRow.holds Try.pinned (OpenSpec.upto verdictTellsSpec)

/-- 'remontoirlaw10.VerdictAll', WHERE WHAT IT READS IS OF BULK AT MOST 1048576: true; the input reads as it did. -/
def verdictAllUptoRow : OpenClaim := { program := "ytcgliccegpjnfaa", sum := "a4925ae2008b164934774a10f8e84b69dca893f563c8daee856ad3437203ca2a", func := "remontoir/remontoirlaw10.VerdictAll", spec := "verdictAll", unfollowed := true, recurses := true, apart := false, narrowed := true }
def VerdictAllUptoSaid : Prop := verdictAllUptoRow.holds Try.pinned (OpenSpec.upto verdictAllSpec)

/-- 'remontoirlaw10.VerdictSome', WHERE WHAT IT READS IS OF BULK AT MOST 1048576: true; the input reads as it did. -/
def verdictSomeUptoRow : OpenClaim := { program := "ytcgliccegpjnfaa", sum := "a4925ae2008b164934774a10f8e84b69dca893f563c8daee856ad3437203ca2a", func := "remontoir/remontoirlaw10.VerdictSome", spec := "verdictSome", unfollowed := true, recurses := true, apart := false, narrowed := true }
def VerdictSomeUptoSaid : Prop := verdictSomeUptoRow.holds Try.pinned (OpenSpec.upto verdictSomeSpec)

/-- 'remontoirlaw10.VerdictLess', WHERE WHAT IT READS IS OF BULK AT MOST 1048576: true; the input reads as it did. -/
def verdictLessUptoRow : OpenClaim := { program := "ytcgliccegpjnfaa", sum := "a4925ae2008b164934774a10f8e84b69dca893f563c8daee856ad3437203ca2a", func := "remontoir/remontoirlaw10.VerdictLess", spec := "verdictLess", unfollowed := true, recurses := true, apart := false, narrowed := true }
def VerdictLessUptoSaid : Prop := verdictLessUptoRow.holds Try.pinned (OpenSpec.upto verdictLessSpec)

end Rows
end Go.Proofs.Ytcgliccegpjnfaa
