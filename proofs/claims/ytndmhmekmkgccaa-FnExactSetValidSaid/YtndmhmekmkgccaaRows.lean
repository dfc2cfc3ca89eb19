/-
  No cell of these rows narrows 'for every input' (looked for: loops, veiled, ifaces, maps, wideKeys, modest, calm, conditions, laid).
  DERIVED. THE GIVEN ROWS OF THIS SEAT. 6 by the template 'for every input the law returns true; each argument reads behind the call as it read before'; 0 by the template 'total and deterministic' (their statements: YtndmhmekmkgccaaTotals.lean).
  GIVEN WITH THE SEED: the statements are not yours to turn. If you find one false, say at which input.
  Laid BY PROGRAM, IN A SANDBOX (cutbox-rows.mjs): the forced cells as the released guide's own fill.sh prints them over the translation 2783c2450c098b74… (all of the seat's roots in one cut). By AI agents, Wed Nov 11 2026. No macro, syntax, notation, axiom, sorry.
-/
import Derived.Test.YtndmhmekmkgccaaChecked
import GoSem.Claim
import GoSem.ClaimJoined
import GoSem.ClaimMapViews
import Derived.JoinedTies
import Derived.KernelRfl
namespace Go.Proofs.Ytndmhmekmkgccaa
/- THE CELL 'sum', in the pinned program and in every row, IS THE sha256 OF THE DUMP (.gsa) THAT YtndmhmekmkgccaaProg.lean LOADS. Nothing in Lean hashes anything: it is a label: what it is worth is what the hold of that sum in a sandbox is worth. -/
noncomputable def Try.pinned : Pinned := { name := "ytndmhmekmkgccaa", sum := "2783c2450c098b748d9b606c8dd19d2434f38f3cc357dd8042766125a2004ea7", checked := Try.checked }
namespace Rows
def none {H : Type} : Left H := { results := [], args := [] }

/-- 'laws.FnReordered': WHATEVER THE INPUT: true; the input reads as it did. -/
def fnReorderedSpec : ChangeSpec := { name := "fnReordered", fn := fun _ => fun
  | [d] => { results := [.lit (.bool true)], args := [d] }
  | _ => none }
def fnReorderedRow : OpenClaim := { program := "ytndmhmekmkgccaa", sum := "2783c2450c098b748d9b606c8dd19d2434f38f3cc357dd8042766125a2004ea7", func := "loop.example/wholecheck/laws.FnReordered", spec := "fnReordered", unfollowed := true, recurses := true, plainKeys := false, apart := false }
def FnReorderedSaid : Prop := fnReorderedRow.holds Try.pinned (OpenSpec.ofChange fnReorderedSpec)

/-- ITS FALSE NEIGHBOUR: 'it returns false'. Refute it at one input. -/
def fnReorderedWrong : ChangeSpec := { name := "fnReordered", fn := fun _ => fun
  | [d] => { results := [.lit (.bool false)], args := [d] }
  | _ => none }
def FnReorderedWrongFalsely : Prop := fnReorderedRow.holds Try.pinned (OpenSpec.ofChange fnReorderedWrong)

/-- 'laws.FnExactInRange': WHATEVER THE INPUT: true; the input reads as it did. -/
def fnExactInRangeSpec : ChangeSpec := { name := "fnExactInRange", fn := fun _ => fun
  | [d1, d2] => { results := [.lit (.bool true)], args := [d1, d2] }
  | _ => none }
def fnExactInRangeRow : OpenClaim := { program := "ytndmhmekmkgccaa", sum := "2783c2450c098b748d9b606c8dd19d2434f38f3cc357dd8042766125a2004ea7", func := "loop.example/wholecheck/laws.FnExactInRange", spec := "fnExactInRange", unfollowed := true, recurses := true, plainKeys := false, apart := false }
def FnExactInRangeSaid : Prop := fnExactInRangeRow.holds Try.pinned (OpenSpec.ofChange fnExactInRangeSpec)

/-- ITS FALSE NEIGHBOUR: 'it returns false'. Refute it at one input. -/
def fnExactInRangeWrong : ChangeSpec := { name := "fnExactInRange", fn := fun _ => fun
  | [d1, d2] => { results := [.lit (.bool false)], args := [d1, d2] }
  | _ => none }
def FnExactInRangeWrongFalsely : Prop := fnExactInRangeRow.holds Try.pinned (OpenSpec.ofChange fnExactInRangeWrong)

/-- 'laws.FnExactDiagramSome': WHATEVER THE INPUT: true; the input reads as it did. -/
def fnExactDiagramSomeSpec : ChangeSpec := { name := "fnExactDiagramSome", fn := fun _ => fun
  | [d1, d2, d3] => { results := [.lit (.bool true)], args := [d1, d2, d3] }
  | _ => none }
def fnExactDiagramSomeRow : OpenClaim := { program := "ytndmhmekmkgccaa", sum := "2783c2450c098b748d9b606c8dd19d2434f38f3cc357dd8042766125a2004ea7", func := "loop.example/wholecheck/laws.FnExactDiagramSome", spec := "fnExactDiagramSome", recurses := true, plainKeys := false, apart := false }
def FnExactDiagramSomeSaid : Prop := fnExactDiagramSomeRow.holds Try.pinned (OpenSpec.ofChange fnExactDiagramSomeSpec)

/-- ITS FALSE NEIGHBOUR: 'it returns false'. Refute it at one input. -/
def fnExactDiagramSomeWrong : ChangeSpec := { name := "fnExactDiagramSome", fn := fun _ => fun
  | [d1, d2, d3] => { results := [.lit (.bool false)], args := [d1, d2, d3] }
  | _ => none }
def FnExactDiagramSomeWrongFalsely : Prop := fnExactDiagramSomeRow.holds Try.pinned (OpenSpec.ofChange fnExactDiagramSomeWrong)

/-- 'laws.FnEvalRange': WHATEVER THE INPUT: true; the input reads as it did. -/
def fnEvalRangeSpec : ChangeSpec := { name := "fnEvalRange", fn := fun _ => fun
  | [d] => { results := [.lit (.bool true)], args := [d] }
  | _ => none }
def fnEvalRangeRow : OpenClaim := { program := "ytndmhmekmkgccaa", sum := "2783c2450c098b748d9b606c8dd19d2434f38f3cc357dd8042766125a2004ea7", func := "loop.example/wholecheck/laws.FnEvalRange", spec := "fnEvalRange", unfollowed := true, recurses := true, plainKeys := false, apart := false }
def FnEvalRangeSaid : Prop := fnEvalRangeRow.holds Try.pinned (OpenSpec.ofChange fnEvalRangeSpec)

/-- ITS FALSE NEIGHBOUR: 'it returns false'. Refute it at one input. -/
def fnEvalRangeWrong : ChangeSpec := { name := "fnEvalRange", fn := fun _ => fun
  | [d] => { results := [.lit (.bool false)], args := [d] }
  | _ => none }
def FnEvalRangeWrongFalsely : Prop := fnEvalRangeRow.holds Try.pinned (OpenSpec.ofChange fnEvalRangeWrong)

/-- 'laws.FnExactSetValid': WHATEVER THE INPUT: true; the input reads as it did. -/
def fnExactSetValidSpec : ChangeSpec := { name := "fnExactSetValid", fn := fun _ => fun
  | [d1, d2] => { results := [.lit (.bool true)], args := [d1, d2] }
  | _ => none }
def fnExactSetValidRow : OpenClaim := { program := "ytndmhmekmkgccaa", sum := "2783c2450c098b748d9b606c8dd19d2434f38f3cc357dd8042766125a2004ea7", func := "loop.example/wholecheck/laws.FnExactSetValid", spec := "fnExactSetValid", unfollowed := true, recurses := true, plainKeys := false, apart := false }
def FnExactSetValidSaid : Prop := fnExactSetValidRow.holds Try.pinned (OpenSpec.ofChange fnExactSetValidSpec)

/-- ITS FALSE NEIGHBOUR: 'it returns false'. Refute it at one input. -/
def fnExactSetValidWrong : ChangeSpec := { name := "fnExactSetValid", fn := fun _ => fun
  | [d1, d2] => { results := [.lit (.bool false)], args := [d1, d2] }
  | _ => none }
def FnExactSetValidWrongFalsely : Prop := fnExactSetValidRow.holds Try.pinned (OpenSpec.ofChange fnExactSetValidWrong)

/-- 'laws.FnDiagramSome': WHATEVER THE INPUT: true; the input reads as it did. -/
def fnDiagramSomeSpec : ChangeSpec := { name := "fnDiagramSome", fn := fun _ => fun
  | [d] => { results := [.lit (.bool true)], args := [d] }
  | _ => none }
def fnDiagramSomeRow : OpenClaim := { program := "ytndmhmekmkgccaa", sum := "2783c2450c098b748d9b606c8dd19d2434f38f3cc357dd8042766125a2004ea7", func := "loop.example/wholecheck/laws.FnDiagramSome", spec := "fnDiagramSome", recurses := true, plainKeys := false, apart := false }
def FnDiagramSomeSaid : Prop := fnDiagramSomeRow.holds Try.pinned (OpenSpec.ofChange fnDiagramSomeSpec)

/-- ITS FALSE NEIGHBOUR: 'it returns false'. Refute it at one input. -/
def fnDiagramSomeWrong : ChangeSpec := { name := "fnDiagramSome", fn := fun _ => fun
  | [d] => { results := [.lit (.bool false)], args := [d] }
  | _ => none }
def FnDiagramSomeWrongFalsely : Prop := fnDiagramSomeRow.holds Try.pinned (OpenSpec.ofChange fnDiagramSomeWrong)

/- THE SECOND FORM. 'bulk': how many values and letters a reading holds, each counted each time it is reached (what is shared counts as often as it is met; a slice's spare places count too). A statement '..UptoSaid' is the law's where the arguments, and the package variables that the reading takes, are together of bulk at most 1048576: NARROWER than '..Said'. Prove '..Said' where nothing that the law and all that it calls make is longer than what came in: it says more and counts as full. Else prove '..UptoSaid'. A law counts once. -/
mutual
def uptoBulk {H : Type} : DataW H → Nat
  | .lit (.string bytes) => bytes.length + 1
  | .lit _ => 1
  | .nil => 1
  | .ptr d => uptoBulk d + 1
  | .slice elems spare => uptoBulkAll elems + uptoBulkAll spare + 1
  | .agg parts => uptoBulkAll parts + 1
  | .iface _ d => uptoBulk d + 1
  | .map entries => uptoBulkEntries entries + 1
  | .held _ => 1
def uptoBulkAll {H : Type} : List (DataW H) → Nat
  | [] => 0
  | d :: r => uptoBulk d + uptoBulkAll r
def uptoBulkEntries {H : Type} : List (Lit × DataW H) → Nat
  | [] => 0
  | x :: r => uptoBulkEntry x + uptoBulkEntries r
def uptoBulkEntry {H : Type} : Lit × DataW H → Nat
  | (.string bytes, d) => bytes.length + uptoBulk d + 1
  | (_, d) => uptoBulk d + 1
 end
def uptoSmall : (H : Type) → List (DataW H) → Bool := fun _ ds => decide (uptoBulkAll ds ≤ 1048576)
def OpenSpec.upto (s : _root_.Go.ChangeSpec) : _root_.Go.OpenSpec := { _root_.Go.OpenSpec.ofChange s with cond := some uptoSmall }

/-- 'laws.FnReordered', WHERE WHAT IT READS IS OF BULK AT MOST 1048576: true; the input reads as it did. -/
def fnReorderedUptoRow : OpenClaim := { program := "ytndmhmekmkgccaa", sum := "2783c2450c098b748d9b606c8dd19d2434f38f3cc357dd8042766125a2004ea7", func := "loop.example/wholecheck/laws.FnReordered", spec := "fnReordered", unfollowed := true, recurses := true, plainKeys := false, apart := false, narrowed := true }
def FnReorderedUptoSaid : Prop := fnReorderedUptoRow.holds Try.pinned (OpenSpec.upto fnReorderedSpec)

/-- 'laws.FnExactInRange', WHERE WHAT IT READS IS OF BULK AT MOST 1048576: true; the input reads as it did. -/
def fnExactInRangeUptoRow : OpenClaim := { program := "ytndmhmekmkgccaa", sum := "2783c2450c098b748d9b606c8dd19d2434f38f3cc357dd8042766125a2004ea7", func := "loop.example/wholecheck/laws.FnExactInRange", spec := "fnExactInRange", unfollowed := true, recurses := true, plainKeys := false, apart := false, narrowed := true }
def FnExactInRangeUptoSaid : Prop := fnExactInRangeUptoRow.holds Try.pinned (OpenSpec.upto fnExactInRangeSpec)

/-- 'laws.FnExactDiagramSome', WHERE WHAT IT READS IS OF BULK AT MOST 1048576: true; the input reads as it did. -/
def fnExactDiagramSomeUptoRow : OpenClaim := { program := "ytndmhmekmkgccaa", sum := "2783c2450c098b748d9b606c8dd19d2434f38f3cc357dd8042766125a2004ea7", func := "loop.example/wholecheck/laws.FnExactDiagramSome", spec := "fnExactDiagramSome", recurses := true, plainKeys := false, apart := false, narrowed := true }
def FnExactDiagramSomeUptoSaid : Prop := fnExactDiagramSomeUptoRow.holds Try.pinned (OpenSpec.upto fnExactDiagramSomeSpec)

/-- 'laws.FnEvalRange', WHERE WHAT IT READS IS OF BULK AT MOST 1048576: true; the input reads as it did. -/
def fnEvalRangeUptoRow : OpenClaim := { program := "ytndmhmekmkgccaa", sum := "2783c2450c098b748d9b606c8dd19d2434f38f3cc357dd8042766125a2004ea7", func := "loop.example/wholecheck/laws.FnEvalRange", spec := "fnEvalRange", unfollowed := true, recurses := true, plainKeys := false, apart := false, narrowed := true }
def FnEvalRangeUptoSaid : Prop := fnEvalRangeUptoRow.holds Try.pinned (OpenSpec.upto fnEvalRangeSpec)

/-- 'laws.FnExactSetValid', WHERE WHAT IT READS IS OF BULK AT MOST 1048576: true; the input reads as it did. -/
def fnExactSetValidUptoRow : OpenClaim := { program := "ytndmhmekmkgccaa", sum := "2783c2450c098b748d9b606c8dd19d2434f38f3cc357dd8042766125a2004ea7", func := "loop.example/wholecheck/laws.FnExactSetValid", spec := "fnExactSetValid", unfollowed := true, recurses := true, plainKeys := false, apart := false, narrowed := true }
def FnExactSetValidUptoSaid : Prop := fnExactSetValidUptoRow.holds Try.pinned (OpenSpec.upto fnExactSetValidSpec)

/-- 'laws.FnDiagramSome', WHERE WHAT IT READS IS OF BULK AT MOST 1048576: true; the input reads as it did. -/
def fnDiagramSomeUptoRow : OpenClaim := { program := "ytndmhmekmkgccaa", sum := "2783c2450c098b748d9b606c8dd19d2434f38f3cc357dd8042766125a2004ea7", func := "loop.example/wholecheck/laws.FnDiagramSome", spec := "fnDiagramSome", recurses := true, plainKeys := false, apart := false, narrowed := true }
def FnDiagramSomeUptoSaid : Prop := fnDiagramSomeUptoRow.holds Try.pinned (OpenSpec.upto fnDiagramSomeSpec)

end Rows
end Go.Proofs.Ytndmhmekmkgccaa
