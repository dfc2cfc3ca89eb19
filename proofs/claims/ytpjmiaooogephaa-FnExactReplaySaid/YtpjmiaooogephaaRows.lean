/-
  No cell of these rows narrows 'for every input' (looked for: loops, veiled, ifaces, maps, wideKeys, modest, calm, conditions, laid).
  DERIVED. THE GIVEN ROWS OF THIS SEAT. 6 by the template 'for every input the law returns true; each argument reads behind the call as it read before'; 0 by the template 'total and deterministic' (their statements: YtpjmiaooogephaaTotals.lean).
  GIVEN WITH THE SEED: the statements are not yours to turn. If you find one false, say at which input.
  Laid BY PROGRAM, IN A SANDBOX (cutbox-rows.mjs): the forced cells as the released guide's own fill.sh prints them over the translation af6f0471d1f26efe… (all of the seat's roots in one cut). By AI agents, Wed Nov 11 2026. No macro, syntax, notation, axiom, sorry.
-/
import Derived.Test.YtpjmiaooogephaaChecked
import GoSem.Claim
import GoSem.ClaimJoined
import GoSem.ClaimMapViews
import Derived.JoinedTies
import Derived.KernelRfl
namespace Go.Proofs.Ytpjmiaooogephaa
/- THE CELL 'sum', in the pinned program and in every row, IS THE sha256 OF THE DUMP (.gsa) THAT YtpjmiaooogephaaProg.lean LOADS. Nothing in Lean hashes anything: it is a label: what it is worth is what the hold of that sum in a sandbox is worth. -/
noncomputable def Try.pinned : Pinned := { name := "ytpjmiaooogephaa", sum := "af6f0471d1f26efed2c0495c15695c5addcdfc0ead0f00ff140a93d01797b6ee", checked := Try.checked }
namespace Rows
def none {H : Type} : Left H := { results := [], args := [] }

/-- 'laws.FnCubesOf': WHATEVER THE INPUT: true; the input reads as it did. -/
def fnCubesOfSpec : ChangeSpec := { name := "fnCubesOf", fn := fun _ => fun
  | [d] => { results := [.lit (.bool true)], args := [d] }
  | _ => none }
def fnCubesOfRow : OpenClaim := { program := "ytpjmiaooogephaa", sum := "af6f0471d1f26efed2c0495c15695c5addcdfc0ead0f00ff140a93d01797b6ee", func := "loop.example/wholecheck/laws.FnCubesOf", spec := "fnCubesOf", unfollowed := true, recurses := true, apart := false }
def FnCubesOfSaid : Prop := fnCubesOfRow.holds Try.pinned (OpenSpec.ofChange fnCubesOfSpec)

/-- ITS FALSE NEIGHBOUR: 'it returns false'. Refute it at one input. -/
def fnCubesOfWrong : ChangeSpec := { name := "fnCubesOf", fn := fun _ => fun
  | [d] => { results := [.lit (.bool false)], args := [d] }
  | _ => none }
def FnCubesOfWrongFalsely : Prop := fnCubesOfRow.holds Try.pinned (OpenSpec.ofChange fnCubesOfWrong)

/-- 'laws.FnAround': WHATEVER THE INPUT: true; the input reads as it did. -/
def fnAroundSpec : ChangeSpec := { name := "fnAround", fn := fun _ => fun
  | [d] => { results := [.lit (.bool true)], args := [d] }
  | _ => none }
def fnAroundRow : OpenClaim := { program := "ytpjmiaooogephaa", sum := "af6f0471d1f26efed2c0495c15695c5addcdfc0ead0f00ff140a93d01797b6ee", func := "loop.example/wholecheck/laws.FnAround", spec := "fnAround", unfollowed := true, recurses := true, apart := false }
def FnAroundSaid : Prop := fnAroundRow.holds Try.pinned (OpenSpec.ofChange fnAroundSpec)

/-- ITS FALSE NEIGHBOUR: 'it returns false'. Refute it at one input. -/
def fnAroundWrong : ChangeSpec := { name := "fnAround", fn := fun _ => fun
  | [d] => { results := [.lit (.bool false)], args := [d] }
  | _ => none }
def FnAroundWrongFalsely : Prop := fnAroundRow.holds Try.pinned (OpenSpec.ofChange fnAroundWrong)

/-- 'laws.FnWithoutRounds': WHATEVER THE INPUT: true; the input reads as it did. -/
def fnWithoutRoundsSpec : ChangeSpec := { name := "fnWithoutRounds", fn := fun _ => fun
  | [d] => { results := [.lit (.bool true)], args := [d] }
  | _ => none }
def fnWithoutRoundsRow : OpenClaim := { program := "ytpjmiaooogephaa", sum := "af6f0471d1f26efed2c0495c15695c5addcdfc0ead0f00ff140a93d01797b6ee", func := "loop.example/wholecheck/laws.FnWithoutRounds", spec := "fnWithoutRounds", unfollowed := true, recurses := true, apart := false }
def FnWithoutRoundsSaid : Prop := fnWithoutRoundsRow.holds Try.pinned (OpenSpec.ofChange fnWithoutRoundsSpec)

/-- ITS FALSE NEIGHBOUR: 'it returns false'. Refute it at one input. -/
def fnWithoutRoundsWrong : ChangeSpec := { name := "fnWithoutRounds", fn := fun _ => fun
  | [d] => { results := [.lit (.bool false)], args := [d] }
  | _ => none }
def FnWithoutRoundsWrongFalsely : Prop := fnWithoutRoundsRow.holds Try.pinned (OpenSpec.ofChange fnWithoutRoundsWrong)

/-- 'laws.FnReplayTrace': WHATEVER THE INPUT: true; the input reads as it did. -/
def fnReplayTraceSpec : ChangeSpec := { name := "fnReplayTrace", fn := fun _ => fun
  | [d] => { results := [.lit (.bool true)], args := [d] }
  | _ => none }
def fnReplayTraceRow : OpenClaim := { program := "ytpjmiaooogephaa", sum := "af6f0471d1f26efed2c0495c15695c5addcdfc0ead0f00ff140a93d01797b6ee", func := "loop.example/wholecheck/laws.FnReplayTrace", spec := "fnReplayTrace", unfollowed := true, recurses := true, apart := false }
def FnReplayTraceSaid : Prop := fnReplayTraceRow.holds Try.pinned (OpenSpec.ofChange fnReplayTraceSpec)

/-- ITS FALSE NEIGHBOUR: 'it returns false'. Refute it at one input. -/
def fnReplayTraceWrong : ChangeSpec := { name := "fnReplayTrace", fn := fun _ => fun
  | [d] => { results := [.lit (.bool false)], args := [d] }
  | _ => none }
def FnReplayTraceWrongFalsely : Prop := fnReplayTraceRow.holds Try.pinned (OpenSpec.ofChange fnReplayTraceWrong)

/-- 'laws.FnExactReplay': WHATEVER THE INPUT: true; the input reads as it did. -/
def fnExactReplaySpec : ChangeSpec := { name := "fnExactReplay", fn := fun _ => fun
  | [d1, d2] => { results := [.lit (.bool true)], args := [d1, d2] }
  | _ => none }
def fnExactReplayRow : OpenClaim := { program := "ytpjmiaooogephaa", sum := "af6f0471d1f26efed2c0495c15695c5addcdfc0ead0f00ff140a93d01797b6ee", func := "loop.example/wholecheck/laws.FnExactReplay", spec := "fnExactReplay", unfollowed := true, recurses := true, apart := false }
def FnExactReplaySaid : Prop := fnExactReplayRow.holds Try.pinned (OpenSpec.ofChange fnExactReplaySpec)

/-- ITS FALSE NEIGHBOUR: 'it returns false'. Refute it at one input. -/
def fnExactReplayWrong : ChangeSpec := { name := "fnExactReplay", fn := fun _ => fun
  | [d1, d2] => { results := [.lit (.bool false)], args := [d1, d2] }
  | _ => none }
def FnExactReplayWrongFalsely : Prop := fnExactReplayRow.holds Try.pinned (OpenSpec.ofChange fnExactReplayWrong)

/-- 'laws.FnEvalRange': WHATEVER THE INPUT: true; the input reads as it did. -/
def fnEvalRangeSpec : ChangeSpec := { name := "fnEvalRange", fn := fun _ => fun
  | [d] => { results := [.lit (.bool true)], args := [d] }
  | _ => none }
def fnEvalRangeRow : OpenClaim := { program := "ytpjmiaooogephaa", sum := "af6f0471d1f26efed2c0495c15695c5addcdfc0ead0f00ff140a93d01797b6ee", func := "loop.example/wholecheck/laws.FnEvalRange", spec := "fnEvalRange", unfollowed := true, recurses := true, apart := false }
def FnEvalRangeSaid : Prop := fnEvalRangeRow.holds Try.pinned (OpenSpec.ofChange fnEvalRangeSpec)

/-- ITS FALSE NEIGHBOUR: 'it returns false'. Refute it at one input. -/
def fnEvalRangeWrong : ChangeSpec := { name := "fnEvalRange", fn := fun _ => fun
  | [d] => { results := [.lit (.bool false)], args := [d] }
  | _ => none }
def FnEvalRangeWrongFalsely : Prop := fnEvalRangeRow.holds Try.pinned (OpenSpec.ofChange fnEvalRangeWrong)

/- THE SECOND FORM. 'bulk': how many values and letters a reading holds, each counted each time it is reached (what is shared counts as often as it is met; a slice's spare places count too). A statement '..UptoSaid' is the law's where the arguments, and the package variables that the reading takes, are together of bulk at most 1048576: NARROWER than '..Said'. Prove '..Said' where nothing that the law and all that it calls make is longer than what came in: it says more and counts as full. Else prove '..UptoSaid'. A law counts once. -/
mutual
def uptoBulk {H : Type} : DataW H → Nat
  | .lit (.string bytes) => bytes.length + 1
  | .lit _ => 1
  | .nil => 1
  | .ptr d => uptoBulk d + 1
  | .slice elems spare => uptoBulkAll elems + uptoBulkAll spare + 1
  | .agg parts => uptoBulkAll parts + 1
  | .iface _ d => uptoBulk d + 1
  | .map entries => uptoBulkEntries entries + 1
  | .held _ => 1
def uptoBulkAll {H : Type} : List (DataW H) → Nat
  | [] => 0
  | d :: r => uptoBulk d + uptoBulkAll r
def uptoBulkEntries {H : Type} : List (Lit × DataW H) → Nat
  | [] => 0
  | x :: r => uptoBulkEntry x + uptoBulkEntries r
def uptoBulkEntry {H : Type} : Lit × DataW H → Nat
  | (.string bytes, d) => bytes.length + uptoBulk d + 1
  | (_, d) => uptoBulk d + 1
 end
def uptoSmall : (H : Type) → List (DataW H) → Bool := fun _ ds => decide (uptoBulkAll ds ≤ 1048576)
def OpenSpec.upto (s : _root_.Go.ChangeSpec) : _root_.Go.OpenSpec := { _root_.Go.OpenSpec.ofChange s with cond := some uptoSmall }

/-- 'laws.FnCubesOf', WHERE WHAT IT READS IS OF BULK AT MOST 1048576: true; the input reads as it did. -/
def fnCubesOfUptoRow : OpenClaim := { program := "ytpjmiaooogephaa", sum := "af6f0471d1f26efed2c0495c15695c5addcdfc0ead0f00ff140a93d01797b6ee", func := "loop.example/wholecheck/laws.FnCubesOf", spec := "fnCubesOf", unfollowed := true, recurses := true, apart := false, narrowed := true }
def FnCubesOfUptoSaid : Prop := fnCubesOfUptoRow.holds Try.pinned (OpenSpec.upto fnCubesOfSpec)

/-- 'laws.FnAround', WHERE WHAT IT READS IS OF BULK AT MOST 1048576: true; the input reads as it did. -/
def fnAroundUptoRow : OpenClaim := { program := "ytpjmiaooogephaa", sum := "af6f0471d1f26efed2c0495c15695c5addcdfc0ead0f00ff140a93d01797b6ee", func := "loop.example/wholecheck/laws.FnAround", spec := "fnAround", unfollowed := true, recurses := true, apart := false, narrowed := true }
def FnAroundUptoSaid : Prop := fnAroundUptoRow.holds Try.pinned (OpenSpec.upto fnAroundSpec)

/-- 'laws.FnWithoutRounds', WHERE WHAT IT READS IS OF BULK AT MOST 1048576: true; the input reads as it did. -/
def fnWithoutRoundsUptoRow : OpenClaim := { program := "ytpjmiaooogephaa", sum := "af6f0471d1f26efed2c0495c15695c5addcdfc0ead0f00ff140a93d01797b6ee", func := "loop.example/wholecheck/laws.FnWithoutRounds", spec := "fnWithoutRounds", unfollowed := true, recurses := true, apart := false, narrowed := true }
def FnWithoutRoundsUptoSaid : Prop := fnWithoutRoundsUptoRow.holds Try.pinned (OpenSpec.upto fnWithoutRoundsSpec)

/-- 'laws.FnReplayTrace', WHERE WHAT IT READS IS OF BULK AT MOST 1048576: true; the input reads as it did. -/
def fnReplayTraceUptoRow : OpenClaim := { program := "ytpjmiaooogephaa", sum := "af6f0471d1f26efed2c0495c15695c5addcdfc0ead0f00ff140a93d01797b6ee", func := "loop.example/wholecheck/laws.FnReplayTrace", spec := "fnReplayTrace", unfollowed := true, recurses := true, apart := false, narrowed := true }
def FnReplayTraceUptoSaid : Prop := fnReplayTraceUptoRow.holds Try.pinned (OpenSpec.upto fnReplayTraceSpec)

/-- 'laws.FnExactReplay', WHERE WHAT IT READS IS OF BULK AT MOST 1048576: true; the input reads as it did. -/
def fnExactReplayUptoRow : OpenClaim := { program := "ytpjmiaooogephaa", sum := "af6f0471d1f26efed2c0495c15695c5addcdfc0ead0f00ff140a93d01797b6ee", func := "loop.example/wholecheck/laws.FnExactReplay", spec := "fnExactReplay", unfollowed := true, recurses := true, apart := false, narrowed := true }
def FnExactReplayUptoSaid : Prop := fnExactReplayUptoRow.holds Try.pinned (OpenSpec.upto fnExactReplaySpec)

/-- 'laws.FnEvalRange', WHERE WHAT IT READS IS OF BULK AT MOST 1048576: true; the input reads as it did. -/
def fnEvalRangeUptoRow : OpenClaim := { program := "ytpjmiaooogephaa", sum := "af6f0471d1f26efed2c0495c15695c5addcdfc0ead0f00ff140a93d01797b6ee", func := "loop.example/wholecheck/laws.FnEvalRange", spec := "fnEvalRange", unfollowed := true, recurses := true, apart := false, narrowed := true }
def FnEvalRangeUptoSaid : Prop := fnEvalRangeUptoRow.holds Try.pinned (OpenSpec.upto fnEvalRangeSpec)

end Rows
end Go.Proofs.Ytpjmiaooogephaa
