/-
  No cell of these rows narrows 'for every input' (looked for: loops, veiled, ifaces, maps, wideKeys, modest, calm, conditions, laid).
  DERIVED. THE GIVEN ROWS OF THIS SEAT. 5 by the template 'for every input the law returns true; each argument reads behind the call as it read before'; 0 by the template 'total and deterministic' (their statements: YtaajnneigmgikaaTotals.lean).
  GIVEN WITH THE SEED: the statements are not yours to turn. If you find one false, say at which input.
  Laid BY PROGRAM, IN A SANDBOX (cutbox-rows.mjs): the forced cells as the released guide's own fill.sh prints them over the translation 5c4378bedc04ac04… (all of the seat's roots in one cut). By AI agents, Wed Nov 11 2026. No macro, syntax, notation, axiom, sorry.
-/
import Derived.Test.YtaajnneigmgikaaChecked
import GoSem.Claim
import GoSem.ClaimJoined
import GoSem.ClaimMapViews
import Derived.JoinedTies
import Derived.KernelRfl
namespace Go.Proofs.Ytaajnneigmgikaa
/- THE CELL 'sum', in the pinned program and in every row, IS THE sha256 OF THE DUMP (.gsa) THAT YtaajnneigmgikaaProg.lean LOADS. Nothing in Lean hashes anything: it is a label: what it is worth is what the hold of that sum in a sandbox is worth. -/
noncomputable def Try.pinned : Pinned := { name := "ytaajnneigmgikaa", sum := "5c4378bedc04ac047943f8d4aa71d9339beda1fa2bc038fe752cec3f5807b4a2", checked := Try.checked }
namespace Rows
def none {H : Type} : Left H := { results := [], args := [] }

/-- 'laws.FnExactLiesBetween': WHATEVER THE INPUT: true; the input reads as it did. -/
def fnExactLiesBetweenSpec : ChangeSpec := { name := "fnExactLiesBetween", fn := fun _ => fun
  | [d1, d2, d3, d4] => { results := [.lit (.bool true)], args := [d1, d2, d3, d4] }
  | _ => none }
def fnExactLiesBetweenRow : OpenClaim := { program := "ytaajnneigmgikaa", sum := "5c4378bedc04ac047943f8d4aa71d9339beda1fa2bc038fe752cec3f5807b4a2", func := "loop.example/wholecheck/laws.FnExactLiesBetween", spec := "fnExactLiesBetween", unfollowed := true, recurses := true, apart := false }
def FnExactLiesBetweenSaid : Prop := fnExactLiesBetweenRow.holds Try.pinned (OpenSpec.ofChange fnExactLiesBetweenSpec)

/-- ITS FALSE NEIGHBOUR: 'it returns false'. Refute it at one input. -/
def fnExactLiesBetweenWrong : ChangeSpec := { name := "fnExactLiesBetween", fn := fun _ => fun
  | [d1, d2, d3, d4] => { results := [.lit (.bool false)], args := [d1, d2, d3, d4] }
  | _ => none }
def FnExactLiesBetweenWrongFalsely : Prop := fnExactLiesBetweenRow.holds Try.pinned (OpenSpec.ofChange fnExactLiesBetweenWrong)

/-- 'laws.FnClauseOf': WHATEVER THE INPUT: true; the input reads as it did. -/
def fnClauseOfSpec : ChangeSpec := { name := "fnClauseOf", fn := fun _ => fun
  | [d] => { results := [.lit (.bool true)], args := [d] }
  | _ => none }
def fnClauseOfRow : OpenClaim := { program := "ytaajnneigmgikaa", sum := "5c4378bedc04ac047943f8d4aa71d9339beda1fa2bc038fe752cec3f5807b4a2", func := "loop.example/wholecheck/laws.FnClauseOf", spec := "fnClauseOf", unfollowed := true, recurses := true, apart := false }
def FnClauseOfSaid : Prop := fnClauseOfRow.holds Try.pinned (OpenSpec.ofChange fnClauseOfSpec)

/-- ITS FALSE NEIGHBOUR: 'it returns false'. Refute it at one input. -/
def fnClauseOfWrong : ChangeSpec := { name := "fnClauseOf", fn := fun _ => fun
  | [d] => { results := [.lit (.bool false)], args := [d] }
  | _ => none }
def FnClauseOfWrongFalsely : Prop := fnClauseOfRow.holds Try.pinned (OpenSpec.ofChange fnClauseOfWrong)

/-- 'laws.FnResolved': WHATEVER THE INPUT: true; the input reads as it did. -/
def fnResolvedSpec : ChangeSpec := { name := "fnResolved", fn := fun _ => fun
  | [d] => { results := [.lit (.bool true)], args := [d] }
  | _ => none }
def fnResolvedRow : OpenClaim := { program := "ytaajnneigmgikaa", sum := "5c4378bedc04ac047943f8d4aa71d9339beda1fa2bc038fe752cec3f5807b4a2", func := "loop.example/wholecheck/laws.FnResolved", spec := "fnResolved", unfollowed := true, recurses := true, apart := false }
def FnResolvedSaid : Prop := fnResolvedRow.holds Try.pinned (OpenSpec.ofChange fnResolvedSpec)

/-- ITS FALSE NEIGHBOUR: 'it returns false'. Refute it at one input. -/
def fnResolvedWrong : ChangeSpec := { name := "fnResolved", fn := fun _ => fun
  | [d] => { results := [.lit (.bool false)], args := [d] }
  | _ => none }
def FnResolvedWrongFalsely : Prop := fnResolvedRow.holds Try.pinned (OpenSpec.ofChange fnResolvedWrong)

/-- 'laws.FnExactClausesOf': WHATEVER THE INPUT: true; the input reads as it did. -/
def fnExactClausesOfSpec : ChangeSpec := { name := "fnExactClausesOf", fn := fun _ => fun
  | [d1, d2] => { results := [.lit (.bool true)], args := [d1, d2] }
  | _ => none }
def fnExactClausesOfRow : OpenClaim := { program := "ytaajnneigmgikaa", sum := "5c4378bedc04ac047943f8d4aa71d9339beda1fa2bc038fe752cec3f5807b4a2", func := "loop.example/wholecheck/laws.FnExactClausesOf", spec := "fnExactClausesOf", unfollowed := true, recurses := true, apart := false }
def FnExactClausesOfSaid : Prop := fnExactClausesOfRow.holds Try.pinned (OpenSpec.ofChange fnExactClausesOfSpec)

/-- ITS FALSE NEIGHBOUR: 'it returns false'. Refute it at one input. -/
def fnExactClausesOfWrong : ChangeSpec := { name := "fnExactClausesOf", fn := fun _ => fun
  | [d1, d2] => { results := [.lit (.bool false)], args := [d1, d2] }
  | _ => none }
def FnExactClausesOfWrongFalsely : Prop := fnExactClausesOfRow.holds Try.pinned (OpenSpec.ofChange fnExactClausesOfWrong)

/-- 'laws.FnClausesOf': WHATEVER THE INPUT: true; the input reads as it did. -/
def fnClausesOfSpec : ChangeSpec := { name := "fnClausesOf", fn := fun _ => fun
  | [d] => { results := [.lit (.bool true)], args := [d] }
  | _ => none }
def fnClausesOfRow : OpenClaim := { program := "ytaajnneigmgikaa", sum := "5c4378bedc04ac047943f8d4aa71d9339beda1fa2bc038fe752cec3f5807b4a2", func := "loop.example/wholecheck/laws.FnClausesOf", spec := "fnClausesOf", unfollowed := true, recurses := true, apart := false }
def FnClausesOfSaid : Prop := fnClausesOfRow.holds Try.pinned (OpenSpec.ofChange fnClausesOfSpec)

/-- ITS FALSE NEIGHBOUR: 'it returns false'. Refute it at one input. -/
def fnClausesOfWrong : ChangeSpec := { name := "fnClausesOf", fn := fun _ => fun
  | [d] => { results := [.lit (.bool false)], args := [d] }
  | _ => none }
def FnClausesOfWrongFalsely : Prop := fnClausesOfRow.holds Try.pinned (OpenSpec.ofChange fnClausesOfWrong)

/- THE SECOND FORM. 'bulk': how many values and letters a reading holds, each counted each time it is reached (what is shared counts as often as it is met; a slice's spare places count too). A statement '..UptoSaid' is the law's where the arguments, and the package variables that the reading takes, are together of bulk at most 1048576: NARROWER than '..Said'. Prove '..Said' where nothing that the law and all that it calls make is longer than what came in: it says more and counts as full. Else prove '..UptoSaid'. A law counts once. -/
mutual
def uptoBulk {H : Type} : DataW H → Nat
  | .lit (.string bytes) => bytes.length + 1
  | .lit _ => 1
  | .nil => 1
  | .ptr d => uptoBulk d + 1
  | .slice elems spare => uptoBulkAll elems + uptoBulkAll spare + 1
  | .agg parts => uptoBulkAll parts + 1
  | .iface _ d => uptoBulk d + 1
  | .map entries => uptoBulkEntries entries + 1
  | .held _ => 1
def uptoBulkAll {H : Type} : List (DataW H) → Nat
  | [] => 0
  | d :: r => uptoBulk d + uptoBulkAll r
def uptoBulkEntries {H : Type} : List (Lit × DataW H) → Nat
  | [] => 0
  | x :: r => uptoBulkEntry x + uptoBulkEntries r
def uptoBulkEntry {H : Type} : Lit × DataW H → Nat
  | (.string bytes, d) => bytes.length + uptoBulk d + 1
  | (_, d) => uptoBulk d + 1
 end
def uptoSmall : (H : Type) → List (DataW H) → Bool := fun _ ds => decide (uptoBulkAll ds ≤ 1048576)
def OpenSpec.upto (s : _root_.Go.ChangeSpec) : _root_.Go.OpenSpec := { _root_.Go.OpenSpec.ofChange s with cond := some uptoSmall }

/-- 'laws.FnExactLiesBetween', WHERE WHAT IT READS IS OF BULK AT MOST 1048576: true; the input reads as it did. -/
def fnExactLiesBetweenUptoRow : OpenClaim := { program := "ytaajnneigmgikaa", sum := "5c4378bedc04ac047943f8d4aa71d9339beda1fa2bc038fe752cec3f5807b4a2", func := "loop.example/wholecheck/laws.FnExactLiesBetween", spec := "fnExactLiesBetween", unfollowed := true, recurses := true, apart := false, narrowed := true }
def FnExactLiesBetweenUptoSaid : Prop := fnExactLiesBetweenUptoRow.holds Try.pinned (OpenSpec.upto fnExactLiesBetweenSpec)

/-- 'laws.FnClauseOf', WHERE WHAT IT READS IS OF BULK AT MOST 1048576: true; the input reads as it did. -/
def fnClauseOfUptoRow : OpenClaim := { program := "ytaajnneigmgikaa", sum := "5c4378bedc04ac047943f8d4aa71d9339beda1fa2bc038fe752cec3f5807b4a2", func := "loop.example/wholecheck/laws.FnClauseOf", spec := "fnClauseOf", unfollowed := true, recurses := true, apart := false, narrowed := true }
def FnClauseOfUptoSaid : Prop := fnClauseOfUptoRow.holds Try.pinned (OpenSpec.upto fnClauseOfSpec)

/-- 'laws.FnResolved', WHERE WHAT IT READS IS OF BULK AT MOST 1048576: true; the input reads as it did. -/
def fnResolvedUptoRow : OpenClaim := { program := "ytaajnneigmgikaa", sum := "5c4378bedc04ac047943f8d4aa71d9339beda1fa2bc038fe752cec3f5807b4a2", func := "loop.example/wholecheck/laws.FnResolved", spec := "fnResolved", unfollowed := true, recurses := true, apart := false, narrowed := true }
def FnResolvedUptoSaid : Prop := fnResolvedUptoRow.holds Try.pinned (OpenSpec.upto fnResolvedSpec)

/-- 'laws.FnExactClausesOf', WHERE WHAT IT READS IS OF BULK AT MOST 1048576: true; the input reads as it did. -/
def fnExactClausesOfUptoRow : OpenClaim := { program := "ytaajnneigmgikaa", sum := "5c4378bedc04ac047943f8d4aa71d9339beda1fa2bc038fe752cec3f5807b4a2", func := "loop.example/wholecheck/laws.FnExactClausesOf", spec := "fnExactClausesOf", unfollowed := true, recurses := true, apart := false, narrowed := true }
def FnExactClausesOfUptoSaid : Prop := fnExactClausesOfUptoRow.holds Try.pinned (OpenSpec.upto fnExactClausesOfSpec)

/-- 'laws.FnClausesOf', WHERE WHAT IT READS IS OF BULK AT MOST 1048576: true; the input reads as it did. -/
def fnClausesOfUptoRow : OpenClaim := { program := "ytaajnneigmgikaa", sum := "5c4378bedc04ac047943f8d4aa71d9339beda1fa2bc038fe752cec3f5807b4a2", func := "loop.example/wholecheck/laws.FnClausesOf", spec := "fnClausesOf", unfollowed := true, recurses := true, apart := false, narrowed := true }
def FnClausesOfUptoSaid : Prop := fnClausesOfUptoRow.holds Try.pinned (OpenSpec.upto fnClausesOfSpec)

end Rows
end Go.Proofs.Ytaajnneigmgikaa
