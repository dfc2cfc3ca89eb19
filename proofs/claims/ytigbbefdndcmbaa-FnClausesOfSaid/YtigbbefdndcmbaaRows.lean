/-
  No cell of these rows narrows 'for every input' (looked for: loops, veiled, ifaces, maps, wideKeys, modest, calm, conditions, laid).
  DERIVED. THE GIVEN ROWS OF THIS SEAT. 4 by the template 'for every input the law returns true; each argument reads behind the call as it read before'; 0 by the template 'total and deterministic' (their statements: YtigbbefdndcmbaaTotals.lean).
  GIVEN WITH THE SEED: the statements are not yours to turn. If you find one false, say at which input.
  Laid BY PROGRAM, IN A SANDBOX (cutbox-rows.mjs): the forced cells as the released guide's own fill.sh prints them over the translation e7942ca81f9a12d4… (all of the seat's roots in one cut). By AI agents, Wed Nov 11 2026. No macro, syntax, notation, axiom, sorry.
-/
import Derived.Test.YtigbbefdndcmbaaChecked
import GoSem.Claim
import GoSem.ClaimJoined
import GoSem.ClaimMapViews
import Derived.JoinedTies
import Derived.KernelRfl
namespace Go.Proofs.Ytigbbefdndcmbaa
/- THE CELL 'sum', in the pinned program and in every row, IS THE sha256 OF THE DUMP (.gsa) THAT YtigbbefdndcmbaaProg.lean LOADS. Nothing in Lean hashes anything: it is a label: what it is worth is what the hold of that sum in a sandbox is worth. -/
noncomputable def Try.pinned : Pinned := { name := "ytigbbefdndcmbaa", sum := "e7942ca81f9a12d4a40c9cbceb15663b25d36b842782b9080f438a3ce34ecb96", checked := Try.checked }
namespace Rows
def none {H : Type} : Left H := { results := [], args := [] }

/-- 'laws.FnExactClauseOf': WHATEVER THE INPUT: true; the input reads as it did. -/
def fnExactClauseOfSpec : ChangeSpec := { name := "fnExactClauseOf", fn := fun _ => fun
  | [d1, d2] => { results := [.lit (.bool true)], args := [d1, d2] }
  | _ => none }
def fnExactClauseOfRow : OpenClaim := { program := "ytigbbefdndcmbaa", sum := "e7942ca81f9a12d4a40c9cbceb15663b25d36b842782b9080f438a3ce34ecb96", func := "loop.example/wholecheck/laws.FnExactClauseOf", spec := "fnExactClauseOf", unfollowed := true, recurses := true, apart := false }
def FnExactClauseOfSaid : Prop := fnExactClauseOfRow.holds Try.pinned (OpenSpec.ofChange fnExactClauseOfSpec)

/-- ITS FALSE NEIGHBOUR: 'it returns false'. Refute it at one input. -/
def fnExactClauseOfWrong : ChangeSpec := { name := "fnExactClauseOf", fn := fun _ => fun
  | [d1, d2] => { results := [.lit (.bool false)], args := [d1, d2] }
  | _ => none }
def FnExactClauseOfWrongFalsely : Prop := fnExactClauseOfRow.holds Try.pinned (OpenSpec.ofChange fnExactClauseOfWrong)

/-- 'laws.FnExactResolved': WHATEVER THE INPUT: true; the input reads as it did. -/
def fnExactResolvedSpec : ChangeSpec := { name := "fnExactResolved", fn := fun _ => fun
  | [d1, d2, d3] => { results := [.lit (.bool true)], args := [d1, d2, d3] }
  | _ => none }
def fnExactResolvedRow : OpenClaim := { program := "ytigbbefdndcmbaa", sum := "e7942ca81f9a12d4a40c9cbceb15663b25d36b842782b9080f438a3ce34ecb96", func := "loop.example/wholecheck/laws.FnExactResolved", spec := "fnExactResolved", unfollowed := true, recurses := true, apart := false }
def FnExactResolvedSaid : Prop := fnExactResolvedRow.holds Try.pinned (OpenSpec.ofChange fnExactResolvedSpec)

/-- ITS FALSE NEIGHBOUR: 'it returns false'. Refute it at one input. -/
def fnExactResolvedWrong : ChangeSpec := { name := "fnExactResolved", fn := fun _ => fun
  | [d1, d2, d3] => { results := [.lit (.bool false)], args := [d1, d2, d3] }
  | _ => none }
def FnExactResolvedWrongFalsely : Prop := fnExactResolvedRow.holds Try.pinned (OpenSpec.ofChange fnExactResolvedWrong)

/-- 'laws.FnExactClausesOf': WHATEVER THE INPUT: true; the input reads as it did. -/
def fnExactClausesOfSpec : ChangeSpec := { name := "fnExactClausesOf", fn := fun _ => fun
  | [d1, d2] => { results := [.lit (.bool true)], args := [d1, d2] }
  | _ => none }
def fnExactClausesOfRow : OpenClaim := { program := "ytigbbefdndcmbaa", sum := "e7942ca81f9a12d4a40c9cbceb15663b25d36b842782b9080f438a3ce34ecb96", func := "loop.example/wholecheck/laws.FnExactClausesOf", spec := "fnExactClausesOf", unfollowed := true, recurses := true, apart := false }
def FnExactClausesOfSaid : Prop := fnExactClausesOfRow.holds Try.pinned (OpenSpec.ofChange fnExactClausesOfSpec)

/-- ITS FALSE NEIGHBOUR: 'it returns false'. Refute it at one input. -/
def fnExactClausesOfWrong : ChangeSpec := { name := "fnExactClausesOf", fn := fun _ => fun
  | [d1, d2] => { results := [.lit (.bool false)], args := [d1, d2] }
  | _ => none }
def FnExactClausesOfWrongFalsely : Prop := fnExactClausesOfRow.holds Try.pinned (OpenSpec.ofChange fnExactClausesOfWrong)

/-- 'laws.FnClausesOf': WHATEVER THE INPUT: true; the input reads as it did. -/
def fnClausesOfSpec : ChangeSpec := { name := "fnClausesOf", fn := fun _ => fun
  | [d] => { results := [.lit (.bool true)], args := [d] }
  | _ => none }
def fnClausesOfRow : OpenClaim := { program := "ytigbbefdndcmbaa", sum := "e7942ca81f9a12d4a40c9cbceb15663b25d36b842782b9080f438a3ce34ecb96", func := "loop.example/wholecheck/laws.FnClausesOf", spec := "fnClausesOf", unfollowed := true, recurses := true, apart := false }
def FnClausesOfSaid : Prop := fnClausesOfRow.holds Try.pinned (OpenSpec.ofChange fnClausesOfSpec)

/-- ITS FALSE NEIGHBOUR: 'it returns false'. Refute it at one input. -/
def fnClausesOfWrong : ChangeSpec := { name := "fnClausesOf", fn := fun _ => fun
  | [d] => { results := [.lit (.bool false)], args := [d] }
  | _ => none }
def FnClausesOfWrongFalsely : Prop := fnClausesOfRow.holds Try.pinned (OpenSpec.ofChange fnClausesOfWrong)

/- THE SECOND FORM. 'bulk': how many values and letters a reading holds, each counted each time it is reached (what is shared counts as often as it is met; a slice's spare places count too). A statement '..UptoSaid' is the law's where the arguments, and the package variables that the reading takes, are together of bulk at most 1048576: NARROWER than '..Said'. Prove '..Said' where nothing that the law and all that it calls make is longer than what came in: it says more and counts as full. Else prove '..UptoSaid'. A law counts once. -/
mutual
def uptoBulk {H : Type} : DataW H → Nat
  | .lit (.string bytes) => bytes.length + 1
  | .lit _ => 1
  | .nil => 1
  | .ptr d => uptoBulk d + 1
  | .slice elems spare => uptoBulkAll elems + uptoBulkAll spare + 1
  | .agg parts => uptoBulkAll parts + 1
  | .iface _ d => uptoBulk d + 1
  | .map entries => uptoBulkEntries entries + 1
  | .held _ => 1
def uptoBulkAll {H : Type} : List (DataW H) → Nat
  | [] => 0
  | d :: r => uptoBulk d + uptoBulkAll r
def uptoBulkEntries {H : Type} : List (Lit × DataW H) → Nat
  | [] => 0
  | x :: r => uptoBulkEntry x + uptoBulkEntries r
def uptoBulkEntry {H : Type} : Lit × DataW H → Nat
  | (.string bytes, d) => bytes.length + uptoBulk d + 1
  | (_, d) => uptoBulk d + 1
 end
def uptoSmall : (H : Type) → List (DataW H) → Bool := fun _ ds => decide (uptoBulkAll ds ≤ 1048576)
def OpenSpec.upto (s : _root_.Go.ChangeSpec) : _root_.Go.OpenSpec := { _root_.Go.OpenSpec.ofChange s with cond := some uptoSmall }

/-- 'laws.FnExactClauseOf', WHERE WHAT IT READS IS OF BULK AT MOST 1048576: true; the input reads as it did. -/
def fnExactClauseOfUptoRow : OpenClaim := { program := "ytigbbefdndcmbaa", sum := "e7942ca81f9a12d4a40c9cbceb15663b25d36b842782b9080f438a3ce34ecb96", func := "loop.example/wholecheck/laws.FnExactClauseOf", spec := "fnExactClauseOf", unfollowed := true, recurses := true, apart := false, narrowed := true }
def FnExactClauseOfUptoSaid : Prop := fnExactClauseOfUptoRow.holds Try.pinned (OpenSpec.upto fnExactClauseOfSpec)

/-- 'laws.FnExactResolved', WHERE WHAT IT READS IS OF BULK AT MOST 1048576: true; the input reads as it did. -/
def fnExactResolvedUptoRow : OpenClaim := { program := "ytigbbefdndcmbaa", sum := "e7942ca81f9a12d4a40c9cbceb15663b25d36b842782b9080f438a3ce34ecb96", func := "loop.example/wholecheck/laws.FnExactResolved", spec := "fnExactResolved", unfollowed := true, recurses := true, apart := false, narrowed := true }
def FnExactResolvedUptoSaid : Prop := fnExactResolvedUptoRow.holds Try.pinned (OpenSpec.upto fnExactResolvedSpec)

/-- 'laws.FnExactClausesOf', WHERE WHAT IT READS IS OF BULK AT MOST 1048576: true; the input reads as it did. -/
def fnExactClausesOfUptoRow : OpenClaim := { program := "ytigbbefdndcmbaa", sum := "e7942ca81f9a12d4a40c9cbceb15663b25d36b842782b9080f438a3ce34ecb96", func := "loop.example/wholecheck/laws.FnExactClausesOf", spec := "fnExactClausesOf", unfollowed := true, recurses := true, apart := false, narrowed := true }
def FnExactClausesOfUptoSaid : Prop := fnExactClausesOfUptoRow.holds Try.pinned (OpenSpec.upto fnExactClausesOfSpec)

/-- 'laws.FnClausesOf', WHERE WHAT IT READS IS OF BULK AT MOST 1048576: true; the input reads as it did. -/
def fnClausesOfUptoRow : OpenClaim := { program := "ytigbbefdndcmbaa", sum := "e7942ca81f9a12d4a40c9cbceb15663b25d36b842782b9080f438a3ce34ecb96", func := "loop.example/wholecheck/laws.FnClausesOf", spec := "fnClausesOf", unfollowed := true, recurses := true, apart := false, narrowed := true }
def FnClausesOfUptoSaid : Prop := fnClausesOfUptoRow.holds Try.pinned (OpenSpec.upto fnClausesOfSpec)

end Rows
end Go.Proofs.Ytigbbefdndcmbaa
