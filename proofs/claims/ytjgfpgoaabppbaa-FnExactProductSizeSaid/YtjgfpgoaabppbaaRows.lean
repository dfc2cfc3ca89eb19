/-
  No cell of these rows narrows 'for every input' (looked for: loops, veiled, ifaces, maps, wideKeys, modest, calm, conditions, laid).
  DERIVED. THE GIVEN ROWS OF THIS SEAT. 10 by the template 'for every input the law returns true; each argument reads behind the call as it read before'; 0 by the template 'total and deterministic' (their statements: YtjgfpgoaabppbaaTotals.lean).
  GIVEN WITH THE SEED: the statements are not yours to turn. If you find one false, say at which input.
  Laid BY PROGRAM, IN A SANDBOX (cutbox-rows.mjs): the forced cells as the released guide's own fill.sh prints them over the translation 54dce6e62e157528… (all of the seat's roots in one cut). By AI agents, Wed Nov 11 2026. No macro, syntax, notation, axiom, sorry.
-/
import Derived.Test.YtjgfpgoaabppbaaChecked
import GoSem.Claim
import GoSem.ClaimJoined
import GoSem.ClaimMapViews
import Derived.JoinedTies
import Derived.KernelRfl
namespace Go.Proofs.Ytjgfpgoaabppbaa
/- THE CELL 'sum', in the pinned program and in every row, IS THE sha256 OF THE DUMP (.gsa) THAT YtjgfpgoaabppbaaProg.lean LOADS. Nothing in Lean hashes anything: it is a label: what it is worth is what the hold of that sum in a sandbox is worth. -/
noncomputable def Try.pinned : Pinned := { name := "ytjgfpgoaabppbaa", sum := "54dce6e62e157528c7f1591402309fb5e6c88b714a033ddfcafefe41fb0b7d07", checked := Try.checked }
namespace Rows
def none {H : Type} : Left H := { results := [], args := [] }

/-- 'laws.FnExactClauseOf': WHATEVER THE INPUT: true; the input reads as it did. -/
def fnExactClauseOfSpec : ChangeSpec := { name := "fnExactClauseOf", fn := fun _ => fun
  | [d1, d2] => { results := [.lit (.bool true)], args := [d1, d2] }
  | _ => none }
def fnExactClauseOfRow : OpenClaim := { program := "ytjgfpgoaabppbaa", sum := "54dce6e62e157528c7f1591402309fb5e6c88b714a033ddfcafefe41fb0b7d07", func := "loop.example/wholecheck/laws.FnExactClauseOf", spec := "fnExactClauseOf", unfollowed := true, recurses := true, plainKeys := false, apart := false }
def FnExactClauseOfSaid : Prop := fnExactClauseOfRow.holds Try.pinned (OpenSpec.ofChange fnExactClauseOfSpec)

/-- ITS FALSE NEIGHBOUR: 'it returns false'. Refute it at one input. -/
def fnExactClauseOfWrong : ChangeSpec := { name := "fnExactClauseOf", fn := fun _ => fun
  | [d1, d2] => { results := [.lit (.bool false)], args := [d1, d2] }
  | _ => none }
def FnExactClauseOfWrongFalsely : Prop := fnExactClauseOfRow.holds Try.pinned (OpenSpec.ofChange fnExactClauseOfWrong)

/-- 'laws.FnExactResolved': WHATEVER THE INPUT: true; the input reads as it did. -/
def fnExactResolvedSpec : ChangeSpec := { name := "fnExactResolved", fn := fun _ => fun
  | [d1, d2, d3] => { results := [.lit (.bool true)], args := [d1, d2, d3] }
  | _ => none }
def fnExactResolvedRow : OpenClaim := { program := "ytjgfpgoaabppbaa", sum := "54dce6e62e157528c7f1591402309fb5e6c88b714a033ddfcafefe41fb0b7d07", func := "loop.example/wholecheck/laws.FnExactResolved", spec := "fnExactResolved", unfollowed := true, recurses := true, plainKeys := false, apart := false }
def FnExactResolvedSaid : Prop := fnExactResolvedRow.holds Try.pinned (OpenSpec.ofChange fnExactResolvedSpec)

/-- ITS FALSE NEIGHBOUR: 'it returns false'. Refute it at one input. -/
def fnExactResolvedWrong : ChangeSpec := { name := "fnExactResolved", fn := fun _ => fun
  | [d1, d2, d3] => { results := [.lit (.bool false)], args := [d1, d2, d3] }
  | _ => none }
def FnExactResolvedWrongFalsely : Prop := fnExactResolvedRow.holds Try.pinned (OpenSpec.ofChange fnExactResolvedWrong)

/-- 'laws.FnExactLiesBetween': WHATEVER THE INPUT: true; the input reads as it did. -/
def fnExactLiesBetweenSpec : ChangeSpec := { name := "fnExactLiesBetween", fn := fun _ => fun
  | [d1, d2, d3, d4] => { results := [.lit (.bool true)], args := [d1, d2, d3, d4] }
  | _ => none }
def fnExactLiesBetweenRow : OpenClaim := { program := "ytjgfpgoaabppbaa", sum := "54dce6e62e157528c7f1591402309fb5e6c88b714a033ddfcafefe41fb0b7d07", func := "loop.example/wholecheck/laws.FnExactLiesBetween", spec := "fnExactLiesBetween", unfollowed := true, recurses := true, plainKeys := false, apart := false }
def FnExactLiesBetweenSaid : Prop := fnExactLiesBetweenRow.holds Try.pinned (OpenSpec.ofChange fnExactLiesBetweenSpec)

/-- ITS FALSE NEIGHBOUR: 'it returns false'. Refute it at one input. -/
def fnExactLiesBetweenWrong : ChangeSpec := { name := "fnExactLiesBetween", fn := fun _ => fun
  | [d1, d2, d3, d4] => { results := [.lit (.bool false)], args := [d1, d2, d3, d4] }
  | _ => none }
def FnExactLiesBetweenWrongFalsely : Prop := fnExactLiesBetweenRow.holds Try.pinned (OpenSpec.ofChange fnExactLiesBetweenWrong)

/-- 'laws.FnExactClausesOf': WHATEVER THE INPUT: true; the input reads as it did. -/
def fnExactClausesOfSpec : ChangeSpec := { name := "fnExactClausesOf", fn := fun _ => fun
  | [d1, d2] => { results := [.lit (.bool true)], args := [d1, d2] }
  | _ => none }
def fnExactClausesOfRow : OpenClaim := { program := "ytjgfpgoaabppbaa", sum := "54dce6e62e157528c7f1591402309fb5e6c88b714a033ddfcafefe41fb0b7d07", func := "loop.example/wholecheck/laws.FnExactClausesOf", spec := "fnExactClausesOf", unfollowed := true, recurses := true, plainKeys := false, apart := false }
def FnExactClausesOfSaid : Prop := fnExactClausesOfRow.holds Try.pinned (OpenSpec.ofChange fnExactClausesOfSpec)

/-- ITS FALSE NEIGHBOUR: 'it returns false'. Refute it at one input. -/
def fnExactClausesOfWrong : ChangeSpec := { name := "fnExactClausesOf", fn := fun _ => fun
  | [d1, d2] => { results := [.lit (.bool false)], args := [d1, d2] }
  | _ => none }
def FnExactClausesOfWrongFalsely : Prop := fnExactClausesOfRow.holds Try.pinned (OpenSpec.ofChange fnExactClausesOfWrong)

/-- 'laws.FnExactGuessesAt': WHATEVER THE INPUT: true; the input reads as it did. -/
def fnExactGuessesAtSpec : ChangeSpec := { name := "fnExactGuessesAt", fn := fun _ => fun
  | [d1, d2, d3, d4] => { results := [.lit (.bool true)], args := [d1, d2, d3, d4] }
  | _ => none }
def fnExactGuessesAtRow : OpenClaim := { program := "ytjgfpgoaabppbaa", sum := "54dce6e62e157528c7f1591402309fb5e6c88b714a033ddfcafefe41fb0b7d07", func := "loop.example/wholecheck/laws.FnExactGuessesAt", spec := "fnExactGuessesAt", unfollowed := true, recurses := true, plainKeys := false, apart := false }
def FnExactGuessesAtSaid : Prop := fnExactGuessesAtRow.holds Try.pinned (OpenSpec.ofChange fnExactGuessesAtSpec)

/-- ITS FALSE NEIGHBOUR: 'it returns false'. Refute it at one input. -/
def fnExactGuessesAtWrong : ChangeSpec := { name := "fnExactGuessesAt", fn := fun _ => fun
  | [d1, d2, d3, d4] => { results := [.lit (.bool false)], args := [d1, d2, d3, d4] }
  | _ => none }
def FnExactGuessesAtWrongFalsely : Prop := fnExactGuessesAtRow.holds Try.pinned (OpenSpec.ofChange fnExactGuessesAtWrong)

/-- 'laws.FnExactTreesOn': WHATEVER THE INPUT: true; the input reads as it did. -/
def fnExactTreesOnSpec : ChangeSpec := { name := "fnExactTreesOn", fn := fun _ => fun
  | [d1, d2, d3] => { results := [.lit (.bool true)], args := [d1, d2, d3] }
  | _ => none }
def fnExactTreesOnRow : OpenClaim := { program := "ytjgfpgoaabppbaa", sum := "54dce6e62e157528c7f1591402309fb5e6c88b714a033ddfcafefe41fb0b7d07", func := "loop.example/wholecheck/laws.FnExactTreesOn", spec := "fnExactTreesOn", unfollowed := true, recurses := true, plainKeys := false, apart := false }
def FnExactTreesOnSaid : Prop := fnExactTreesOnRow.holds Try.pinned (OpenSpec.ofChange fnExactTreesOnSpec)

/-- ITS FALSE NEIGHBOUR: 'it returns false'. Refute it at one input. -/
def fnExactTreesOnWrong : ChangeSpec := { name := "fnExactTreesOn", fn := fun _ => fun
  | [d1, d2, d3] => { results := [.lit (.bool false)], args := [d1, d2, d3] }
  | _ => none }
def FnExactTreesOnWrongFalsely : Prop := fnExactTreesOnRow.holds Try.pinned (OpenSpec.ofChange fnExactTreesOnWrong)

/-- 'laws.FnExactProductSize': WHATEVER THE INPUT: true; the input reads as it did. -/
def fnExactProductSizeSpec : ChangeSpec := { name := "fnExactProductSize", fn := fun _ => fun
  | [d1, d2, d3] => { results := [.lit (.bool true)], args := [d1, d2, d3] }
  | _ => none }
def fnExactProductSizeRow : OpenClaim := { program := "ytjgfpgoaabppbaa", sum := "54dce6e62e157528c7f1591402309fb5e6c88b714a033ddfcafefe41fb0b7d07", func := "loop.example/wholecheck/laws.FnExactProductSize", spec := "fnExactProductSize", unfollowed := true, recurses := true, plainKeys := false, apart := false }
def FnExactProductSizeSaid : Prop := fnExactProductSizeRow.holds Try.pinned (OpenSpec.ofChange fnExactProductSizeSpec)

/-- ITS FALSE NEIGHBOUR: 'it returns false'. Refute it at one input. -/
def fnExactProductSizeWrong : ChangeSpec := { name := "fnExactProductSize", fn := fun _ => fun
  | [d1, d2, d3] => { results := [.lit (.bool false)], args := [d1, d2, d3] }
  | _ => none }
def FnExactProductSizeWrongFalsely : Prop := fnExactProductSizeRow.holds Try.pinned (OpenSpec.ofChange fnExactProductSizeWrong)

/-- 'laws.FnExactDiagramSome': WHATEVER THE INPUT: true; the input reads as it did. -/
def fnExactDiagramSomeSpec : ChangeSpec := { name := "fnExactDiagramSome", fn := fun _ => fun
  | [d1, d2, d3] => { results := [.lit (.bool true)], args := [d1, d2, d3] }
  | _ => none }
def fnExactDiagramSomeRow : OpenClaim := { program := "ytjgfpgoaabppbaa", sum := "54dce6e62e157528c7f1591402309fb5e6c88b714a033ddfcafefe41fb0b7d07", func := "loop.example/wholecheck/laws.FnExactDiagramSome", spec := "fnExactDiagramSome", recurses := true, plainKeys := false, apart := false }
def FnExactDiagramSomeSaid : Prop := fnExactDiagramSomeRow.holds Try.pinned (OpenSpec.ofChange fnExactDiagramSomeSpec)

/-- ITS FALSE NEIGHBOUR: 'it returns false'. Refute it at one input. -/
def fnExactDiagramSomeWrong : ChangeSpec := { name := "fnExactDiagramSome", fn := fun _ => fun
  | [d1, d2, d3] => { results := [.lit (.bool false)], args := [d1, d2, d3] }
  | _ => none }
def FnExactDiagramSomeWrongFalsely : Prop := fnExactDiagramSomeRow.holds Try.pinned (OpenSpec.ofChange fnExactDiagramSomeWrong)

/-- 'laws.FnExactLeastOrder': WHATEVER THE INPUT: true; the input reads as it did. -/
def fnExactLeastOrderSpec : ChangeSpec := { name := "fnExactLeastOrder", fn := fun _ => fun
  | [d1, d2] => { results := [.lit (.bool true)], args := [d1, d2] }
  | _ => none }
def fnExactLeastOrderRow : OpenClaim := { program := "ytjgfpgoaabppbaa", sum := "54dce6e62e157528c7f1591402309fb5e6c88b714a033ddfcafefe41fb0b7d07", func := "loop.example/wholecheck/laws.FnExactLeastOrder", spec := "fnExactLeastOrder", unfollowed := true, recurses := true, plainKeys := false, apart := false }
def FnExactLeastOrderSaid : Prop := fnExactLeastOrderRow.holds Try.pinned (OpenSpec.ofChange fnExactLeastOrderSpec)

/-- ITS FALSE NEIGHBOUR: 'it returns false'. Refute it at one input. -/
def fnExactLeastOrderWrong : ChangeSpec := { name := "fnExactLeastOrder", fn := fun _ => fun
  | [d1, d2] => { results := [.lit (.bool false)], args := [d1, d2] }
  | _ => none }
def FnExactLeastOrderWrongFalsely : Prop := fnExactLeastOrderRow.holds Try.pinned (OpenSpec.ofChange fnExactLeastOrderWrong)

/-- 'laws.FnExactSiftOrder': WHATEVER THE INPUT: true; the input reads as it did. -/
def fnExactSiftOrderSpec : ChangeSpec := { name := "fnExactSiftOrder", fn := fun _ => fun
  | [d1, d2] => { results := [.lit (.bool true)], args := [d1, d2] }
  | _ => none }
def fnExactSiftOrderRow : OpenClaim := { program := "ytjgfpgoaabppbaa", sum := "54dce6e62e157528c7f1591402309fb5e6c88b714a033ddfcafefe41fb0b7d07", func := "loop.example/wholecheck/laws.FnExactSiftOrder", spec := "fnExactSiftOrder", inPlace := ["slices.overlaps[int]"], unfollowed := true, recurses := true, plainKeys := false, apart := false }
def FnExactSiftOrderSaid : Prop := fnExactSiftOrderRow.holds Try.pinned (OpenSpec.ofChange fnExactSiftOrderSpec)

/-- ITS FALSE NEIGHBOUR: 'it returns false'. Refute it at one input. -/
def fnExactSiftOrderWrong : ChangeSpec := { name := "fnExactSiftOrder", fn := fun _ => fun
  | [d1, d2] => { results := [.lit (.bool false)], args := [d1, d2] }
  | _ => none }
def FnExactSiftOrderWrongFalsely : Prop := fnExactSiftOrderRow.holds Try.pinned (OpenSpec.ofChange fnExactSiftOrderWrong)

/- THE SECOND FORM. 'bulk': how many values and letters a reading holds, each counted each time it is reached (what is shared counts as often as it is met; a slice's spare places count too). A statement '..UptoSaid' is the law's where the arguments, and the package variables that the reading takes, are together of bulk at most 1048576: NARROWER than '..Said'. Prove '..Said' where nothing that the law and all that it calls make is longer than what came in: it says more and counts as full. Else prove '..UptoSaid'. A law counts once. -/
mutual
def uptoBulk {H : Type} : DataW H → Nat
  | .lit (.string bytes) => bytes.length + 1
  | .lit _ => 1
  | .nil => 1
  | .ptr d => uptoBulk d + 1
  | .slice elems spare => uptoBulkAll elems + uptoBulkAll spare + 1
  | .agg parts => uptoBulkAll parts + 1
  | .iface _ d => uptoBulk d + 1
  | .map entries => uptoBulkEntries entries + 1
  | .held _ => 1
def uptoBulkAll {H : Type} : List (DataW H) → Nat
  | [] => 0
  | d :: r => uptoBulk d + uptoBulkAll r
def uptoBulkEntries {H : Type} : List (Lit × DataW H) → Nat
  | [] => 0
  | x :: r => uptoBulkEntry x + uptoBulkEntries r
def uptoBulkEntry {H : Type} : Lit × DataW H → Nat
  | (.string bytes, d) => bytes.length + uptoBulk d + 1
  | (_, d) => uptoBulk d + 1
 end
def uptoSmall : (H : Type) → List (DataW H) → Bool := fun _ ds => decide (uptoBulkAll ds ≤ 1048576)
def OpenSpec.upto (s : _root_.Go.ChangeSpec) : _root_.Go.OpenSpec := { _root_.Go.OpenSpec.ofChange s with cond := some uptoSmall }

/-- 'laws.FnExactClauseOf', WHERE WHAT IT READS IS OF BULK AT MOST 1048576: true; the input reads as it did. -/
def fnExactClauseOfUptoRow : OpenClaim := { program := "ytjgfpgoaabppbaa", sum := "54dce6e62e157528c7f1591402309fb5e6c88b714a033ddfcafefe41fb0b7d07", func := "loop.example/wholecheck/laws.FnExactClauseOf", spec := "fnExactClauseOf", unfollowed := true, recurses := true, plainKeys := false, apart := false, narrowed := true }
def FnExactClauseOfUptoSaid : Prop := fnExactClauseOfUptoRow.holds Try.pinned (OpenSpec.upto fnExactClauseOfSpec)

/-- 'laws.FnExactResolved', WHERE WHAT IT READS IS OF BULK AT MOST 1048576: true; the input reads as it did. -/
def fnExactResolvedUptoRow : OpenClaim := { program := "ytjgfpgoaabppbaa", sum := "54dce6e62e157528c7f1591402309fb5e6c88b714a033ddfcafefe41fb0b7d07", func := "loop.example/wholecheck/laws.FnExactResolved", spec := "fnExactResolved", unfollowed := true, recurses := true, plainKeys := false, apart := false, narrowed := true }
def FnExactResolvedUptoSaid : Prop := fnExactResolvedUptoRow.holds Try.pinned (OpenSpec.upto fnExactResolvedSpec)

/-- 'laws.FnExactLiesBetween', WHERE WHAT IT READS IS OF BULK AT MOST 1048576: true; the input reads as it did. -/
def fnExactLiesBetweenUptoRow : OpenClaim := { program := "ytjgfpgoaabppbaa", sum := "54dce6e62e157528c7f1591402309fb5e6c88b714a033ddfcafefe41fb0b7d07", func := "loop.example/wholecheck/laws.FnExactLiesBetween", spec := "fnExactLiesBetween", unfollowed := true, recurses := true, plainKeys := false, apart := false, narrowed := true }
def FnExactLiesBetweenUptoSaid : Prop := fnExactLiesBetweenUptoRow.holds Try.pinned (OpenSpec.upto fnExactLiesBetweenSpec)

/-- 'laws.FnExactClausesOf', WHERE WHAT IT READS IS OF BULK AT MOST 1048576: true; the input reads as it did. -/
def fnExactClausesOfUptoRow : OpenClaim := { program := "ytjgfpgoaabppbaa", sum := "54dce6e62e157528c7f1591402309fb5e6c88b714a033ddfcafefe41fb0b7d07", func := "loop.example/wholecheck/laws.FnExactClausesOf", spec := "fnExactClausesOf", unfollowed := true, recurses := true, plainKeys := false, apart := false, narrowed := true }
def FnExactClausesOfUptoSaid : Prop := fnExactClausesOfUptoRow.holds Try.pinned (OpenSpec.upto fnExactClausesOfSpec)

/-- 'laws.FnExactGuessesAt', WHERE WHAT IT READS IS OF BULK AT MOST 1048576: true; the input reads as it did. -/
def fnExactGuessesAtUptoRow : OpenClaim := { program := "ytjgfpgoaabppbaa", sum := "54dce6e62e157528c7f1591402309fb5e6c88b714a033ddfcafefe41fb0b7d07", func := "loop.example/wholecheck/laws.FnExactGuessesAt", spec := "fnExactGuessesAt", unfollowed := true, recurses := true, plainKeys := false, apart := false, narrowed := true }
def FnExactGuessesAtUptoSaid : Prop := fnExactGuessesAtUptoRow.holds Try.pinned (OpenSpec.upto fnExactGuessesAtSpec)

/-- 'laws.FnExactTreesOn', WHERE WHAT IT READS IS OF BULK AT MOST 1048576: true; the input reads as it did. -/
def fnExactTreesOnUptoRow : OpenClaim := { program := "ytjgfpgoaabppbaa", sum := "54dce6e62e157528c7f1591402309fb5e6c88b714a033ddfcafefe41fb0b7d07", func := "loop.example/wholecheck/laws.FnExactTreesOn", spec := "fnExactTreesOn", unfollowed := true, recurses := true, plainKeys := false, apart := false, narrowed := true }
def FnExactTreesOnUptoSaid : Prop := fnExactTreesOnUptoRow.holds Try.pinned (OpenSpec.upto fnExactTreesOnSpec)

/-- 'laws.FnExactProductSize', WHERE WHAT IT READS IS OF BULK AT MOST 1048576: true; the input reads as it did. -/
def fnExactProductSizeUptoRow : OpenClaim := { program := "ytjgfpgoaabppbaa", sum := "54dce6e62e157528c7f1591402309fb5e6c88b714a033ddfcafefe41fb0b7d07", func := "loop.example/wholecheck/laws.FnExactProductSize", spec := "fnExactProductSize", unfollowed := true, recurses := true, plainKeys := false, apart := false, narrowed := true }
def FnExactProductSizeUptoSaid : Prop := fnExactProductSizeUptoRow.holds Try.pinned (OpenSpec.upto fnExactProductSizeSpec)

/-- 'laws.FnExactDiagramSome', WHERE WHAT IT READS IS OF BULK AT MOST 1048576: true; the input reads as it did. -/
def fnExactDiagramSomeUptoRow : OpenClaim := { program := "ytjgfpgoaabppbaa", sum := "54dce6e62e157528c7f1591402309fb5e6c88b714a033ddfcafefe41fb0b7d07", func := "loop.example/wholecheck/laws.FnExactDiagramSome", spec := "fnExactDiagramSome", recurses := true, plainKeys := false, apart := false, narrowed := true }
def FnExactDiagramSomeUptoSaid : Prop := fnExactDiagramSomeUptoRow.holds Try.pinned (OpenSpec.upto fnExactDiagramSomeSpec)

/-- 'laws.FnExactLeastOrder', WHERE WHAT IT READS IS OF BULK AT MOST 1048576: true; the input reads as it did. -/
def fnExactLeastOrderUptoRow : OpenClaim := { program := "ytjgfpgoaabppbaa", sum := "54dce6e62e157528c7f1591402309fb5e6c88b714a033ddfcafefe41fb0b7d07", func := "loop.example/wholecheck/laws.FnExactLeastOrder", spec := "fnExactLeastOrder", unfollowed := true, recurses := true, plainKeys := false, apart := false, narrowed := true }
def FnExactLeastOrderUptoSaid : Prop := fnExactLeastOrderUptoRow.holds Try.pinned (OpenSpec.upto fnExactLeastOrderSpec)

/-- 'laws.FnExactSiftOrder', WHERE WHAT IT READS IS OF BULK AT MOST 1048576: true; the input reads as it did. -/
def fnExactSiftOrderUptoRow : OpenClaim := { program := "ytjgfpgoaabppbaa", sum := "54dce6e62e157528c7f1591402309fb5e6c88b714a033ddfcafefe41fb0b7d07", func := "loop.example/wholecheck/laws.FnExactSiftOrder", spec := "fnExactSiftOrder", inPlace := ["slices.overlaps[int]"], unfollowed := true, recurses := true, plainKeys := false, apart := false, narrowed := true }
def FnExactSiftOrderUptoSaid : Prop := fnExactSiftOrderUptoRow.holds Try.pinned (OpenSpec.upto fnExactSiftOrderSpec)

end Rows
end Go.Proofs.Ytjgfpgoaabppbaa
