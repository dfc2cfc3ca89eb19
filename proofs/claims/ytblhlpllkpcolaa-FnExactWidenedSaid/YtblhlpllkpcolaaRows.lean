/-
  No cell of these rows narrows 'for every input' (looked for: loops, veiled, ifaces, maps, wideKeys, modest, calm, conditions, laid).
  DERIVED. THE GIVEN ROWS OF THIS SEAT. 11 by the template 'for every input the law returns true; each argument reads behind the call as it read before'; 0 by the template 'total and deterministic' (their statements: YtblhlpllkpcolaaTotals.lean).
  GIVEN WITH THE SEED: the statements are not yours to turn. If you find one false, say at which input.
  Laid BY PROGRAM, IN A SANDBOX (cutbox-rows.mjs): the forced cells as the released guide's own fill.sh prints them over the translation 4d0a80132753dc94… (all of the seat's roots in one cut). By AI agents, Wed Nov 11 2026. No macro, syntax, notation, axiom, sorry.
-/
import Derived.Test.YtblhlpllkpcolaaChecked
import GoSem.Claim
import GoSem.ClaimJoined
import GoSem.ClaimMapViews
import Derived.JoinedTies
import Derived.KernelRfl
namespace Go.Proofs.Ytblhlpllkpcolaa
/- THE CELL 'sum', in the pinned program and in every row, IS THE sha256 OF THE DUMP (.gsa) THAT YtblhlpllkpcolaaProg.lean LOADS. Nothing in Lean hashes anything: it is a label: what it is worth is what the hold of that sum in a sandbox is worth. -/
noncomputable def Try.pinned : Pinned := { name := "ytblhlpllkpcolaa", sum := "4d0a80132753dc94fb22d95aeb0d9df8eacdaace3a944f01fc146ee2c08eff20", checked := Try.checked }
namespace Rows
def none {H : Type} : Left H := { results := [], args := [] }

/-- 'laws.FnExactFollows': WHATEVER THE INPUT: true; the input reads as it did. -/
def fnExactFollowsSpec : ChangeSpec := { name := "fnExactFollows", fn := fun _ => fun
  | [d1, d2, d3] => { results := [.lit (.bool true)], args := [d1, d2, d3] }
  | _ => none }
def fnExactFollowsRow : OpenClaim := { program := "ytblhlpllkpcolaa", sum := "4d0a80132753dc94fb22d95aeb0d9df8eacdaace3a944f01fc146ee2c08eff20", func := "loop.example/wholecheck/laws.FnExactFollows", spec := "fnExactFollows", unfollowed := true, recurses := true, apart := false }
def FnExactFollowsSaid : Prop := fnExactFollowsRow.holds Try.pinned (OpenSpec.ofChange fnExactFollowsSpec)

/-- ITS FALSE NEIGHBOUR: 'it returns false'. Refute it at one input. -/
def fnExactFollowsWrong : ChangeSpec := { name := "fnExactFollows", fn := fun _ => fun
  | [d1, d2, d3] => { results := [.lit (.bool false)], args := [d1, d2, d3] }
  | _ => none }
def FnExactFollowsWrongFalsely : Prop := fnExactFollowsRow.holds Try.pinned (OpenSpec.ofChange fnExactFollowsWrong)

/-- 'laws.FnExactTraceValid': WHATEVER THE INPUT: true; the input reads as it did. -/
def fnExactTraceValidSpec : ChangeSpec := { name := "fnExactTraceValid", fn := fun _ => fun
  | [d1, d2] => { results := [.lit (.bool true)], args := [d1, d2] }
  | _ => none }
def fnExactTraceValidRow : OpenClaim := { program := "ytblhlpllkpcolaa", sum := "4d0a80132753dc94fb22d95aeb0d9df8eacdaace3a944f01fc146ee2c08eff20", func := "loop.example/wholecheck/laws.FnExactTraceValid", spec := "fnExactTraceValid", unfollowed := true, recurses := true, apart := false }
def FnExactTraceValidSaid : Prop := fnExactTraceValidRow.holds Try.pinned (OpenSpec.ofChange fnExactTraceValidSpec)

/-- ITS FALSE NEIGHBOUR: 'it returns false'. Refute it at one input. -/
def fnExactTraceValidWrong : ChangeSpec := { name := "fnExactTraceValid", fn := fun _ => fun
  | [d1, d2] => { results := [.lit (.bool false)], args := [d1, d2] }
  | _ => none }
def FnExactTraceValidWrongFalsely : Prop := fnExactTraceValidRow.holds Try.pinned (OpenSpec.ofChange fnExactTraceValidWrong)

/-- 'laws.FnExactLassoValid': WHATEVER THE INPUT: true; the input reads as it did. -/
def fnExactLassoValidSpec : ChangeSpec := { name := "fnExactLassoValid", fn := fun _ => fun
  | [d1, d2, d3] => { results := [.lit (.bool true)], args := [d1, d2, d3] }
  | _ => none }
def fnExactLassoValidRow : OpenClaim := { program := "ytblhlpllkpcolaa", sum := "4d0a80132753dc94fb22d95aeb0d9df8eacdaace3a944f01fc146ee2c08eff20", func := "loop.example/wholecheck/laws.FnExactLassoValid", spec := "fnExactLassoValid", unfollowed := true, recurses := true, apart := false }
def FnExactLassoValidSaid : Prop := fnExactLassoValidRow.holds Try.pinned (OpenSpec.ofChange fnExactLassoValidSpec)

/-- ITS FALSE NEIGHBOUR: 'it returns false'. Refute it at one input. -/
def fnExactLassoValidWrong : ChangeSpec := { name := "fnExactLassoValid", fn := fun _ => fun
  | [d1, d2, d3] => { results := [.lit (.bool false)], args := [d1, d2, d3] }
  | _ => none }
def FnExactLassoValidWrongFalsely : Prop := fnExactLassoValidRow.holds Try.pinned (OpenSpec.ofChange fnExactLassoValidWrong)

/-- 'laws.FnExactBitsState': WHATEVER THE INPUT: true; the input reads as it did. -/
def fnExactBitsStateSpec : ChangeSpec := { name := "fnExactBitsState", fn := fun _ => fun
  | [d1, d2] => { results := [.lit (.bool true)], args := [d1, d2] }
  | _ => none }
def fnExactBitsStateRow : OpenClaim := { program := "ytblhlpllkpcolaa", sum := "4d0a80132753dc94fb22d95aeb0d9df8eacdaace3a944f01fc146ee2c08eff20", func := "loop.example/wholecheck/laws.FnExactBitsState", spec := "fnExactBitsState", unfollowed := true, recurses := true, apart := false }
def FnExactBitsStateSaid : Prop := fnExactBitsStateRow.holds Try.pinned (OpenSpec.ofChange fnExactBitsStateSpec)

/-- ITS FALSE NEIGHBOUR: 'it returns false'. Refute it at one input. -/
def fnExactBitsStateWrong : ChangeSpec := { name := "fnExactBitsState", fn := fun _ => fun
  | [d1, d2] => { results := [.lit (.bool false)], args := [d1, d2] }
  | _ => none }
def FnExactBitsStateWrongFalsely : Prop := fnExactBitsStateRow.holds Try.pinned (OpenSpec.ofChange fnExactBitsStateWrong)

/-- 'laws.FnExactAllBits': WHATEVER THE INPUT: true; the input reads as it did. -/
def fnExactAllBitsSpec : ChangeSpec := { name := "fnExactAllBits", fn := fun _ => fun
  | [d1, d2] => { results := [.lit (.bool true)], args := [d1, d2] }
  | _ => none }
def fnExactAllBitsRow : OpenClaim := { program := "ytblhlpllkpcolaa", sum := "4d0a80132753dc94fb22d95aeb0d9df8eacdaace3a944f01fc146ee2c08eff20", func := "loop.example/wholecheck/laws.FnExactAllBits", spec := "fnExactAllBits", unfollowed := true, recurses := true, apart := false }
def FnExactAllBitsSaid : Prop := fnExactAllBitsRow.holds Try.pinned (OpenSpec.ofChange fnExactAllBitsSpec)

/-- ITS FALSE NEIGHBOUR: 'it returns false'. Refute it at one input. -/
def fnExactAllBitsWrong : ChangeSpec := { name := "fnExactAllBits", fn := fun _ => fun
  | [d1, d2] => { results := [.lit (.bool false)], args := [d1, d2] }
  | _ => none }
def FnExactAllBitsWrongFalsely : Prop := fnExactAllBitsRow.holds Try.pinned (OpenSpec.ofChange fnExactAllBitsWrong)

/-- 'laws.FnExactStatesWhere': WHATEVER THE INPUT: true; the input reads as it did. -/
def fnExactStatesWhereSpec : ChangeSpec := { name := "fnExactStatesWhere", fn := fun _ => fun
  | [d1, d2] => { results := [.lit (.bool true)], args := [d1, d2] }
  | _ => none }
def fnExactStatesWhereRow : OpenClaim := { program := "ytblhlpllkpcolaa", sum := "4d0a80132753dc94fb22d95aeb0d9df8eacdaace3a944f01fc146ee2c08eff20", func := "loop.example/wholecheck/laws.FnExactStatesWhere", spec := "fnExactStatesWhere", unfollowed := true, recurses := true, apart := false }
def FnExactStatesWhereSaid : Prop := fnExactStatesWhereRow.holds Try.pinned (OpenSpec.ofChange fnExactStatesWhereSpec)

/-- ITS FALSE NEIGHBOUR: 'it returns false'. Refute it at one input. -/
def fnExactStatesWhereWrong : ChangeSpec := { name := "fnExactStatesWhere", fn := fun _ => fun
  | [d1, d2] => { results := [.lit (.bool false)], args := [d1, d2] }
  | _ => none }
def FnExactStatesWhereWrongFalsely : Prop := fnExactStatesWhereRow.holds Try.pinned (OpenSpec.ofChange fnExactStatesWhereWrong)

/-- 'laws.FnExactCubeStates': WHATEVER THE INPUT: true; the input reads as it did. -/
def fnExactCubeStatesSpec : ChangeSpec := { name := "fnExactCubeStates", fn := fun _ => fun
  | [d1, d2] => { results := [.lit (.bool true)], args := [d1, d2] }
  | _ => none }
def fnExactCubeStatesRow : OpenClaim := { program := "ytblhlpllkpcolaa", sum := "4d0a80132753dc94fb22d95aeb0d9df8eacdaace3a944f01fc146ee2c08eff20", func := "loop.example/wholecheck/laws.FnExactCubeStates", spec := "fnExactCubeStates", unfollowed := true, recurses := true, apart := false }
def FnExactCubeStatesSaid : Prop := fnExactCubeStatesRow.holds Try.pinned (OpenSpec.ofChange fnExactCubeStatesSpec)

/-- ITS FALSE NEIGHBOUR: 'it returns false'. Refute it at one input. -/
def fnExactCubeStatesWrong : ChangeSpec := { name := "fnExactCubeStates", fn := fun _ => fun
  | [d1, d2] => { results := [.lit (.bool false)], args := [d1, d2] }
  | _ => none }
def FnExactCubeStatesWrongFalsely : Prop := fnExactCubeStatesRow.holds Try.pinned (OpenSpec.ofChange fnExactCubeStatesWrong)

/-- 'laws.FnExactPathStates': WHATEVER THE INPUT: true; the input reads as it did. -/
def fnExactPathStatesSpec : ChangeSpec := { name := "fnExactPathStates", fn := fun _ => fun
  | [d1, d2, d3] => { results := [.lit (.bool true)], args := [d1, d2, d3] }
  | _ => none }
def fnExactPathStatesRow : OpenClaim := { program := "ytblhlpllkpcolaa", sum := "4d0a80132753dc94fb22d95aeb0d9df8eacdaace3a944f01fc146ee2c08eff20", func := "loop.example/wholecheck/laws.FnExactPathStates", spec := "fnExactPathStates", unfollowed := true, recurses := true, apart := false }
def FnExactPathStatesSaid : Prop := fnExactPathStatesRow.holds Try.pinned (OpenSpec.ofChange fnExactPathStatesSpec)

/-- ITS FALSE NEIGHBOUR: 'it returns false'. Refute it at one input. -/
def fnExactPathStatesWrong : ChangeSpec := { name := "fnExactPathStates", fn := fun _ => fun
  | [d1, d2, d3] => { results := [.lit (.bool false)], args := [d1, d2, d3] }
  | _ => none }
def FnExactPathStatesWrongFalsely : Prop := fnExactPathStatesRow.holds Try.pinned (OpenSpec.ofChange fnExactPathStatesWrong)

/-- 'laws.FnExactReplay': WHATEVER THE INPUT: true; the input reads as it did. -/
def fnExactReplaySpec : ChangeSpec := { name := "fnExactReplay", fn := fun _ => fun
  | [d1, d2] => { results := [.lit (.bool true)], args := [d1, d2] }
  | _ => none }
def fnExactReplayRow : OpenClaim := { program := "ytblhlpllkpcolaa", sum := "4d0a80132753dc94fb22d95aeb0d9df8eacdaace3a944f01fc146ee2c08eff20", func := "loop.example/wholecheck/laws.FnExactReplay", spec := "fnExactReplay", unfollowed := true, recurses := true, apart := false }
def FnExactReplaySaid : Prop := fnExactReplayRow.holds Try.pinned (OpenSpec.ofChange fnExactReplaySpec)

/-- ITS FALSE NEIGHBOUR: 'it returns false'. Refute it at one input. -/
def fnExactReplayWrong : ChangeSpec := { name := "fnExactReplay", fn := fun _ => fun
  | [d1, d2] => { results := [.lit (.bool false)], args := [d1, d2] }
  | _ => none }
def FnExactReplayWrongFalsely : Prop := fnExactReplayRow.holds Try.pinned (OpenSpec.ofChange fnExactReplayWrong)

/-- 'laws.FnExactWidened': WHATEVER THE INPUT: true; the input reads as it did. -/
def fnExactWidenedSpec : ChangeSpec := { name := "fnExactWidened", fn := fun _ => fun
  | [d1, d2, d3] => { results := [.lit (.bool true)], args := [d1, d2, d3] }
  | _ => none }
def fnExactWidenedRow : OpenClaim := { program := "ytblhlpllkpcolaa", sum := "4d0a80132753dc94fb22d95aeb0d9df8eacdaace3a944f01fc146ee2c08eff20", func := "loop.example/wholecheck/laws.FnExactWidened", spec := "fnExactWidened", unfollowed := true, recurses := true, apart := false }
def FnExactWidenedSaid : Prop := fnExactWidenedRow.holds Try.pinned (OpenSpec.ofChange fnExactWidenedSpec)

/-- ITS FALSE NEIGHBOUR: 'it returns false'. Refute it at one input. -/
def fnExactWidenedWrong : ChangeSpec := { name := "fnExactWidened", fn := fun _ => fun
  | [d1, d2, d3] => { results := [.lit (.bool false)], args := [d1, d2, d3] }
  | _ => none }
def FnExactWidenedWrongFalsely : Prop := fnExactWidenedRow.holds Try.pinned (OpenSpec.ofChange fnExactWidenedWrong)

/-- 'laws.FnExactLettersOf': WHATEVER THE INPUT: true; the input reads as it did. -/
def fnExactLettersOfSpec : ChangeSpec := { name := "fnExactLettersOf", fn := fun _ => fun
  | [d1, d2, d3] => { results := [.lit (.bool true)], args := [d1, d2, d3] }
  | _ => none }
def fnExactLettersOfRow : OpenClaim := { program := "ytblhlpllkpcolaa", sum := "4d0a80132753dc94fb22d95aeb0d9df8eacdaace3a944f01fc146ee2c08eff20", func := "loop.example/wholecheck/laws.FnExactLettersOf", spec := "fnExactLettersOf", unfollowed := true, recurses := true, apart := false }
def FnExactLettersOfSaid : Prop := fnExactLettersOfRow.holds Try.pinned (OpenSpec.ofChange fnExactLettersOfSpec)

/-- ITS FALSE NEIGHBOUR: 'it returns false'. Refute it at one input. -/
def fnExactLettersOfWrong : ChangeSpec := { name := "fnExactLettersOf", fn := fun _ => fun
  | [d1, d2, d3] => { results := [.lit (.bool false)], args := [d1, d2, d3] }
  | _ => none }
def FnExactLettersOfWrongFalsely : Prop := fnExactLettersOfRow.holds Try.pinned (OpenSpec.ofChange fnExactLettersOfWrong)

/- THE SECOND FORM. 'bulk': how many values and letters a reading holds, each counted each time it is reached (what is shared counts as often as it is met; a slice's spare places count too). A statement '..UptoSaid' is the law's where the arguments, and the package variables that the reading takes, are together of bulk at most 1048576: NARROWER than '..Said'. Prove '..Said' where nothing that the law and all that it calls make is longer than what came in: it says more and counts as full. Else prove '..UptoSaid'. A law counts once. -/
mutual
def uptoBulk {H : Type} : DataW H → Nat
  | .lit (.string bytes) => bytes.length + 1
  | .lit _ => 1
  | .nil => 1
  | .ptr d => uptoBulk d + 1
  | .slice elems spare => uptoBulkAll elems + uptoBulkAll spare + 1
  | .agg parts => uptoBulkAll parts + 1
  | .iface _ d => uptoBulk d + 1
  | .map entries => uptoBulkEntries entries + 1
  | .held _ => 1
def uptoBulkAll {H : Type} : List (DataW H) → Nat
  | [] => 0
  | d :: r => uptoBulk d + uptoBulkAll r
def uptoBulkEntries {H : Type} : List (Lit × DataW H) → Nat
  | [] => 0
  | x :: r => uptoBulkEntry x + uptoBulkEntries r
def uptoBulkEntry {H : Type} : Lit × DataW H → Nat
  | (.string bytes, d) => bytes.length + uptoBulk d + 1
  | (_, d) => uptoBulk d + 1
 end
def uptoSmall : (H : Type) → List (DataW H) → Bool := fun _ ds => decide (uptoBulkAll ds ≤ 1048576)
def OpenSpec.upto (s : _root_.Go.ChangeSpec) : _root_.Go.OpenSpec := { _root_.Go.OpenSpec.ofChange s with cond := some uptoSmall }

/-- 'laws.FnExactFollows', WHERE WHAT IT READS IS OF BULK AT MOST 1048576: true; the input reads as it did. -/
def fnExactFollowsUptoRow : OpenClaim := { program := "ytblhlpllkpcolaa", sum := "4d0a80132753dc94fb22d95aeb0d9df8eacdaace3a944f01fc146ee2c08eff20", func := "loop.example/wholecheck/laws.FnExactFollows", spec := "fnExactFollows", unfollowed := true, recurses := true, apart := false, narrowed := true }
def FnExactFollowsUptoSaid : Prop := fnExactFollowsUptoRow.holds Try.pinned (OpenSpec.upto fnExactFollowsSpec)

/-- 'laws.FnExactTraceValid', WHERE WHAT IT READS IS OF BULK AT MOST 1048576: true; the input reads as it did. -/
def fnExactTraceValidUptoRow : OpenClaim := { program := "ytblhlpllkpcolaa", sum := "4d0a80132753dc94fb22d95aeb0d9df8eacdaace3a944f01fc146ee2c08eff20", func := "loop.example/wholecheck/laws.FnExactTraceValid", spec := "fnExactTraceValid", unfollowed := true, recurses := true, apart := false, narrowed := true }
def FnExactTraceValidUptoSaid : Prop := fnExactTraceValidUptoRow.holds Try.pinned (OpenSpec.upto fnExactTraceValidSpec)

/-- 'laws.FnExactLassoValid', WHERE WHAT IT READS IS OF BULK AT MOST 1048576: true; the input reads as it did. -/
def fnExactLassoValidUptoRow : OpenClaim := { program := "ytblhlpllkpcolaa", sum := "4d0a80132753dc94fb22d95aeb0d9df8eacdaace3a944f01fc146ee2c08eff20", func := "loop.example/wholecheck/laws.FnExactLassoValid", spec := "fnExactLassoValid", unfollowed := true, recurses := true, apart := false, narrowed := true }
def FnExactLassoValidUptoSaid : Prop := fnExactLassoValidUptoRow.holds Try.pinned (OpenSpec.upto fnExactLassoValidSpec)

/-- 'laws.FnExactBitsState', WHERE WHAT IT READS IS OF BULK AT MOST 1048576: true; the input reads as it did. -/
def fnExactBitsStateUptoRow : OpenClaim := { program := "ytblhlpllkpcolaa", sum := "4d0a80132753dc94fb22d95aeb0d9df8eacdaace3a944f01fc146ee2c08eff20", func := "loop.example/wholecheck/laws.FnExactBitsState", spec := "fnExactBitsState", unfollowed := true, recurses := true, apart := false, narrowed := true }
def FnExactBitsStateUptoSaid : Prop := fnExactBitsStateUptoRow.holds Try.pinned (OpenSpec.upto fnExactBitsStateSpec)

/-- 'laws.FnExactAllBits', WHERE WHAT IT READS IS OF BULK AT MOST 1048576: true; the input reads as it did. -/
def fnExactAllBitsUptoRow : OpenClaim := { program := "ytblhlpllkpcolaa", sum := "4d0a80132753dc94fb22d95aeb0d9df8eacdaace3a944f01fc146ee2c08eff20", func := "loop.example/wholecheck/laws.FnExactAllBits", spec := "fnExactAllBits", unfollowed := true, recurses := true, apart := false, narrowed := true }
def FnExactAllBitsUptoSaid : Prop := fnExactAllBitsUptoRow.holds Try.pinned (OpenSpec.upto fnExactAllBitsSpec)

/-- 'laws.FnExactStatesWhere', WHERE WHAT IT READS IS OF BULK AT MOST 1048576: true; the input reads as it did. -/
def fnExactStatesWhereUptoRow : OpenClaim := { program := "ytblhlpllkpcolaa", sum := "4d0a80132753dc94fb22d95aeb0d9df8eacdaace3a944f01fc146ee2c08eff20", func := "loop.example/wholecheck/laws.FnExactStatesWhere", spec := "fnExactStatesWhere", unfollowed := true, recurses := true, apart := false, narrowed := true }
def FnExactStatesWhereUptoSaid : Prop := fnExactStatesWhereUptoRow.holds Try.pinned (OpenSpec.upto fnExactStatesWhereSpec)

/-- 'laws.FnExactCubeStates', WHERE WHAT IT READS IS OF BULK AT MOST 1048576: true; the input reads as it did. -/
def fnExactCubeStatesUptoRow : OpenClaim := { program := "ytblhlpllkpcolaa", sum := "4d0a80132753dc94fb22d95aeb0d9df8eacdaace3a944f01fc146ee2c08eff20", func := "loop.example/wholecheck/laws.FnExactCubeStates", spec := "fnExactCubeStates", unfollowed := true, recurses := true, apart := false, narrowed := true }
def FnExactCubeStatesUptoSaid : Prop := fnExactCubeStatesUptoRow.holds Try.pinned (OpenSpec.upto fnExactCubeStatesSpec)

/-- 'laws.FnExactPathStates', WHERE WHAT IT READS IS OF BULK AT MOST 1048576: true; the input reads as it did. -/
def fnExactPathStatesUptoRow : OpenClaim := { program := "ytblhlpllkpcolaa", sum := "4d0a80132753dc94fb22d95aeb0d9df8eacdaace3a944f01fc146ee2c08eff20", func := "loop.example/wholecheck/laws.FnExactPathStates", spec := "fnExactPathStates", unfollowed := true, recurses := true, apart := false, narrowed := true }
def FnExactPathStatesUptoSaid : Prop := fnExactPathStatesUptoRow.holds Try.pinned (OpenSpec.upto fnExactPathStatesSpec)

/-- 'laws.FnExactReplay', WHERE WHAT IT READS IS OF BULK AT MOST 1048576: true; the input reads as it did. -/
def fnExactReplayUptoRow : OpenClaim := { program := "ytblhlpllkpcolaa", sum := "4d0a80132753dc94fb22d95aeb0d9df8eacdaace3a944f01fc146ee2c08eff20", func := "loop.example/wholecheck/laws.FnExactReplay", spec := "fnExactReplay", unfollowed := true, recurses := true, apart := false, narrowed := true }
def FnExactReplayUptoSaid : Prop := fnExactReplayUptoRow.holds Try.pinned (OpenSpec.upto fnExactReplaySpec)

/-- 'laws.FnExactWidened', WHERE WHAT IT READS IS OF BULK AT MOST 1048576: true; the input reads as it did. -/
def fnExactWidenedUptoRow : OpenClaim := { program := "ytblhlpllkpcolaa", sum := "4d0a80132753dc94fb22d95aeb0d9df8eacdaace3a944f01fc146ee2c08eff20", func := "loop.example/wholecheck/laws.FnExactWidened", spec := "fnExactWidened", unfollowed := true, recurses := true, apart := false, narrowed := true }
def FnExactWidenedUptoSaid : Prop := fnExactWidenedUptoRow.holds Try.pinned (OpenSpec.upto fnExactWidenedSpec)

/-- 'laws.FnExactLettersOf', WHERE WHAT IT READS IS OF BULK AT MOST 1048576: true; the input reads as it did. -/
def fnExactLettersOfUptoRow : OpenClaim := { program := "ytblhlpllkpcolaa", sum := "4d0a80132753dc94fb22d95aeb0d9df8eacdaace3a944f01fc146ee2c08eff20", func := "loop.example/wholecheck/laws.FnExactLettersOf", spec := "fnExactLettersOf", unfollowed := true, recurses := true, apart := false, narrowed := true }
def FnExactLettersOfUptoSaid : Prop := fnExactLettersOfUptoRow.holds Try.pinned (OpenSpec.upto fnExactLettersOfSpec)

end Rows
end Go.Proofs.Ytblhlpllkpcolaa
