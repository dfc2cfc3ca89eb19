/-
  No cell of these rows narrows 'for every input' (looked for: loops, veiled, ifaces, maps, wideKeys, modest, calm, conditions, laid).
  DERIVED. THE GIVEN ROWS OF THIS SEAT. 12 by the template 'for every input the law returns true; each argument reads behind the call as it read before'; 0 by the template 'total and deterministic' (their statements: YtoofhjflfpccdaaTotals.lean).
  GIVEN WITH THE SEED: the statements are not yours to turn. If you find one false, say at which input.
  Laid BY PROGRAM, IN A SANDBOX (cutbox-rows.mjs): the forced cells as the released guide's own fill.sh prints them over the translation 018c3823e947b38f… (all of the seat's roots in one cut). By AI agents, Wed Nov 11 2026. No macro, syntax, notation, axiom, sorry.
-/
import Derived.Test.YtoofhjflfpccdaaChecked
import GoSem.Claim
import GoSem.ClaimJoined
import GoSem.ClaimMapViews
import Derived.JoinedTies
import Derived.KernelRfl
namespace Go.Proofs.Ytoofhjflfpccdaa
/- THE CELL 'sum', in the pinned program and in every row, IS THE sha256 OF THE DUMP (.gsa) THAT YtoofhjflfpccdaaProg.lean LOADS. Nothing in Lean hashes anything: it is a label: what it is worth is what the hold of that sum in a sandbox is worth. -/
noncomputable def Try.pinned : Pinned := { name := "ytoofhjflfpccdaa", sum := "018c3823e947b38ff72173c0065eb74a6c1749bd8191f05bd1c02780ec3d1213", checked := Try.checked }
namespace Rows
def none {H : Type} : Left H := { results := [], args := [] }

/-- 'laws.FnExactNarrow': WHATEVER THE INPUT: true; the input reads as it did. -/
def fnExactNarrowSpec : ChangeSpec := { name := "fnExactNarrow", fn := fun _ => fun
  | [d] => { results := [.lit (.bool true)], args := [d] }
  | _ => none }
def fnExactNarrowRow : OpenClaim := { program := "ytoofhjflfpccdaa", sum := "018c3823e947b38ff72173c0065eb74a6c1749bd8191f05bd1c02780ec3d1213", func := "loop.example/wholecheck/laws.FnExactNarrow", spec := "fnExactNarrow", unfollowed := true, recurses := true, apart := false }
def FnExactNarrowSaid : Prop := fnExactNarrowRow.holds Try.pinned (OpenSpec.ofChange fnExactNarrowSpec)

/-- ITS FALSE NEIGHBOUR: 'it returns false'. Refute it at one input. -/
def fnExactNarrowWrong : ChangeSpec := { name := "fnExactNarrow", fn := fun _ => fun
  | [d] => { results := [.lit (.bool false)], args := [d] }
  | _ => none }
def FnExactNarrowWrongFalsely : Prop := fnExactNarrowRow.holds Try.pinned (OpenSpec.ofChange fnExactNarrowWrong)

/-- 'laws.FnExactFirstState': WHATEVER THE INPUT: true; the input reads as it did. -/
def fnExactFirstStateSpec : ChangeSpec := { name := "fnExactFirstState", fn := fun _ => fun
  | [d] => { results := [.lit (.bool true)], args := [d] }
  | _ => none }
def fnExactFirstStateRow : OpenClaim := { program := "ytoofhjflfpccdaa", sum := "018c3823e947b38ff72173c0065eb74a6c1749bd8191f05bd1c02780ec3d1213", func := "loop.example/wholecheck/laws.FnExactFirstState", spec := "fnExactFirstState", unfollowed := true, recurses := true, apart := false }
def FnExactFirstStateSaid : Prop := fnExactFirstStateRow.holds Try.pinned (OpenSpec.ofChange fnExactFirstStateSpec)

/-- ITS FALSE NEIGHBOUR: 'it returns false'. Refute it at one input. -/
def fnExactFirstStateWrong : ChangeSpec := { name := "fnExactFirstState", fn := fun _ => fun
  | [d] => { results := [.lit (.bool false)], args := [d] }
  | _ => none }
def FnExactFirstStateWrongFalsely : Prop := fnExactFirstStateRow.holds Try.pinned (OpenSpec.ofChange fnExactFirstStateWrong)

/-- 'laws.FnExactNumberOf': WHATEVER THE INPUT: true; the input reads as it did. -/
def fnExactNumberOfSpec : ChangeSpec := { name := "fnExactNumberOf", fn := fun _ => fun
  | [d1, d2] => { results := [.lit (.bool true)], args := [d1, d2] }
  | _ => none }
def fnExactNumberOfRow : OpenClaim := { program := "ytoofhjflfpccdaa", sum := "018c3823e947b38ff72173c0065eb74a6c1749bd8191f05bd1c02780ec3d1213", func := "loop.example/wholecheck/laws.FnExactNumberOf", spec := "fnExactNumberOf", unfollowed := true, recurses := true, apart := false }
def FnExactNumberOfSaid : Prop := fnExactNumberOfRow.holds Try.pinned (OpenSpec.ofChange fnExactNumberOfSpec)

/-- ITS FALSE NEIGHBOUR: 'it returns false'. Refute it at one input. -/
def fnExactNumberOfWrong : ChangeSpec := { name := "fnExactNumberOf", fn := fun _ => fun
  | [d1, d2] => { results := [.lit (.bool false)], args := [d1, d2] }
  | _ => none }
def FnExactNumberOfWrongFalsely : Prop := fnExactNumberOfRow.holds Try.pinned (OpenSpec.ofChange fnExactNumberOfWrong)

/-- 'laws.FnExactBitsOf': WHATEVER THE INPUT: true; the input reads as it did. -/
def fnExactBitsOfSpec : ChangeSpec := { name := "fnExactBitsOf", fn := fun _ => fun
  | [d] => { results := [.lit (.bool true)], args := [d] }
  | _ => none }
def fnExactBitsOfRow : OpenClaim := { program := "ytoofhjflfpccdaa", sum := "018c3823e947b38ff72173c0065eb74a6c1749bd8191f05bd1c02780ec3d1213", func := "loop.example/wholecheck/laws.FnExactBitsOf", spec := "fnExactBitsOf", unfollowed := true, recurses := true, apart := false }
def FnExactBitsOfSaid : Prop := fnExactBitsOfRow.holds Try.pinned (OpenSpec.ofChange fnExactBitsOfSpec)

/-- ITS FALSE NEIGHBOUR: 'it returns false'. Refute it at one input. -/
def fnExactBitsOfWrong : ChangeSpec := { name := "fnExactBitsOf", fn := fun _ => fun
  | [d] => { results := [.lit (.bool false)], args := [d] }
  | _ => none }
def FnExactBitsOfWrongFalsely : Prop := fnExactBitsOfRow.holds Try.pinned (OpenSpec.ofChange fnExactBitsOfWrong)

/-- 'laws.FnExactStateAt': WHATEVER THE INPUT: true; the input reads as it did. -/
def fnExactStateAtSpec : ChangeSpec := { name := "fnExactStateAt", fn := fun _ => fun
  | [d1, d2] => { results := [.lit (.bool true)], args := [d1, d2] }
  | _ => none }
def fnExactStateAtRow : OpenClaim := { program := "ytoofhjflfpccdaa", sum := "018c3823e947b38ff72173c0065eb74a6c1749bd8191f05bd1c02780ec3d1213", func := "loop.example/wholecheck/laws.FnExactStateAt", spec := "fnExactStateAt", unfollowed := true, recurses := true, apart := false }
def FnExactStateAtSaid : Prop := fnExactStateAtRow.holds Try.pinned (OpenSpec.ofChange fnExactStateAtSpec)

/-- ITS FALSE NEIGHBOUR: 'it returns false'. Refute it at one input. -/
def fnExactStateAtWrong : ChangeSpec := { name := "fnExactStateAt", fn := fun _ => fun
  | [d1, d2] => { results := [.lit (.bool false)], args := [d1, d2] }
  | _ => none }
def FnExactStateAtWrongFalsely : Prop := fnExactStateAtRow.holds Try.pinned (OpenSpec.ofChange fnExactStateAtWrong)

/-- 'laws.FnExactApartBits': WHATEVER THE INPUT: true; the input reads as it did. -/
def fnExactApartBitsSpec : ChangeSpec := { name := "fnExactApartBits", fn := fun _ => fun
  | [d1, d2, d3] => { results := [.lit (.bool true)], args := [d1, d2, d3] }
  | _ => none }
def fnExactApartBitsRow : OpenClaim := { program := "ytoofhjflfpccdaa", sum := "018c3823e947b38ff72173c0065eb74a6c1749bd8191f05bd1c02780ec3d1213", func := "loop.example/wholecheck/laws.FnExactApartBits", spec := "fnExactApartBits", unfollowed := true, recurses := true, apart := false }
def FnExactApartBitsSaid : Prop := fnExactApartBitsRow.holds Try.pinned (OpenSpec.ofChange fnExactApartBitsSpec)

/-- ITS FALSE NEIGHBOUR: 'it returns false'. Refute it at one input. -/
def fnExactApartBitsWrong : ChangeSpec := { name := "fnExactApartBits", fn := fun _ => fun
  | [d1, d2, d3] => { results := [.lit (.bool false)], args := [d1, d2, d3] }
  | _ => none }
def FnExactApartBitsWrongFalsely : Prop := fnExactApartBitsRow.holds Try.pinned (OpenSpec.ofChange fnExactApartBitsWrong)

/-- 'laws.FnExactStateBits': WHATEVER THE INPUT: true; the input reads as it did. -/
def fnExactStateBitsSpec : ChangeSpec := { name := "fnExactStateBits", fn := fun _ => fun
  | [d1, d2] => { results := [.lit (.bool true)], args := [d1, d2] }
  | _ => none }
def fnExactStateBitsRow : OpenClaim := { program := "ytoofhjflfpccdaa", sum := "018c3823e947b38ff72173c0065eb74a6c1749bd8191f05bd1c02780ec3d1213", func := "loop.example/wholecheck/laws.FnExactStateBits", spec := "fnExactStateBits", unfollowed := true, recurses := true, apart := false }
def FnExactStateBitsSaid : Prop := fnExactStateBitsRow.holds Try.pinned (OpenSpec.ofChange fnExactStateBitsSpec)

/-- ITS FALSE NEIGHBOUR: 'it returns false'. Refute it at one input. -/
def fnExactStateBitsWrong : ChangeSpec := { name := "fnExactStateBits", fn := fun _ => fun
  | [d1, d2] => { results := [.lit (.bool false)], args := [d1, d2] }
  | _ => none }
def FnExactStateBitsWrongFalsely : Prop := fnExactStateBitsRow.holds Try.pinned (OpenSpec.ofChange fnExactStateBitsWrong)

/-- 'laws.FnExactRuleBetween': WHATEVER THE INPUT: true; the input reads as it did. -/
def fnExactRuleBetweenSpec : ChangeSpec := { name := "fnExactRuleBetween", fn := fun _ => fun
  | [d1, d2, d3] => { results := [.lit (.bool true)], args := [d1, d2, d3] }
  | _ => none }
def fnExactRuleBetweenRow : OpenClaim := { program := "ytoofhjflfpccdaa", sum := "018c3823e947b38ff72173c0065eb74a6c1749bd8191f05bd1c02780ec3d1213", func := "loop.example/wholecheck/laws.FnExactRuleBetween", spec := "fnExactRuleBetween", unfollowed := true, recurses := true, apart := false }
def FnExactRuleBetweenSaid : Prop := fnExactRuleBetweenRow.holds Try.pinned (OpenSpec.ofChange fnExactRuleBetweenSpec)

/-- ITS FALSE NEIGHBOUR: 'it returns false'. Refute it at one input. -/
def fnExactRuleBetweenWrong : ChangeSpec := { name := "fnExactRuleBetween", fn := fun _ => fun
  | [d1, d2, d3] => { results := [.lit (.bool false)], args := [d1, d2, d3] }
  | _ => none }
def FnExactRuleBetweenWrongFalsely : Prop := fnExactRuleBetweenRow.holds Try.pinned (OpenSpec.ofChange fnExactRuleBetweenWrong)

/-- 'laws.FnExactStuckIn': WHATEVER THE INPUT: true; the input reads as it did. -/
def fnExactStuckInSpec : ChangeSpec := { name := "fnExactStuckIn", fn := fun _ => fun
  | [d1, d2] => { results := [.lit (.bool true)], args := [d1, d2] }
  | _ => none }
def fnExactStuckInRow : OpenClaim := { program := "ytoofhjflfpccdaa", sum := "018c3823e947b38ff72173c0065eb74a6c1749bd8191f05bd1c02780ec3d1213", func := "loop.example/wholecheck/laws.FnExactStuckIn", spec := "fnExactStuckIn", unfollowed := true, recurses := true, apart := false }
def FnExactStuckInSaid : Prop := fnExactStuckInRow.holds Try.pinned (OpenSpec.ofChange fnExactStuckInSpec)

/-- ITS FALSE NEIGHBOUR: 'it returns false'. Refute it at one input. -/
def fnExactStuckInWrong : ChangeSpec := { name := "fnExactStuckIn", fn := fun _ => fun
  | [d1, d2] => { results := [.lit (.bool false)], args := [d1, d2] }
  | _ => none }
def FnExactStuckInWrongFalsely : Prop := fnExactStuckInRow.holds Try.pinned (OpenSpec.ofChange fnExactStuckInWrong)

/-- 'laws.FnExactUsableIn': WHATEVER THE INPUT: true; the input reads as it did. -/
def fnExactUsableInSpec : ChangeSpec := { name := "fnExactUsableIn", fn := fun _ => fun
  | [d1, d2] => { results := [.lit (.bool true)], args := [d1, d2] }
  | _ => none }
def fnExactUsableInRow : OpenClaim := { program := "ytoofhjflfpccdaa", sum := "018c3823e947b38ff72173c0065eb74a6c1749bd8191f05bd1c02780ec3d1213", func := "loop.example/wholecheck/laws.FnExactUsableIn", spec := "fnExactUsableIn", unfollowed := true, recurses := true, apart := false }
def FnExactUsableInSaid : Prop := fnExactUsableInRow.holds Try.pinned (OpenSpec.ofChange fnExactUsableInSpec)

/-- ITS FALSE NEIGHBOUR: 'it returns false'. Refute it at one input. -/
def fnExactUsableInWrong : ChangeSpec := { name := "fnExactUsableIn", fn := fun _ => fun
  | [d1, d2] => { results := [.lit (.bool false)], args := [d1, d2] }
  | _ => none }
def FnExactUsableInWrongFalsely : Prop := fnExactUsableInRow.holds Try.pinned (OpenSpec.ofChange fnExactUsableInWrong)

/-- 'laws.FnExactUse': WHATEVER THE INPUT: true; the input reads as it did. -/
def fnExactUseSpec : ChangeSpec := { name := "fnExactUse", fn := fun _ => fun
  | [d1, d2, d3] => { results := [.lit (.bool true)], args := [d1, d2, d3] }
  | _ => none }
def fnExactUseRow : OpenClaim := { program := "ytoofhjflfpccdaa", sum := "018c3823e947b38ff72173c0065eb74a6c1749bd8191f05bd1c02780ec3d1213", func := "loop.example/wholecheck/laws.FnExactUse", spec := "fnExactUse", unfollowed := true, recurses := true, apart := false }
def FnExactUseSaid : Prop := fnExactUseRow.holds Try.pinned (OpenSpec.ofChange fnExactUseSpec)

/-- ITS FALSE NEIGHBOUR: 'it returns false'. Refute it at one input. -/
def fnExactUseWrong : ChangeSpec := { name := "fnExactUse", fn := fun _ => fun
  | [d1, d2, d3] => { results := [.lit (.bool false)], args := [d1, d2, d3] }
  | _ => none }
def FnExactUseWrongFalsely : Prop := fnExactUseRow.holds Try.pinned (OpenSpec.ofChange fnExactUseWrong)

/-- 'laws.FnExactRulesCommute': WHATEVER THE INPUT: true; the input reads as it did. -/
def fnExactRulesCommuteSpec : ChangeSpec := { name := "fnExactRulesCommute", fn := fun _ => fun
  | [d1, d2, d3, d4] => { results := [.lit (.bool true)], args := [d1, d2, d3, d4] }
  | _ => none }
def fnExactRulesCommuteRow : OpenClaim := { program := "ytoofhjflfpccdaa", sum := "018c3823e947b38ff72173c0065eb74a6c1749bd8191f05bd1c02780ec3d1213", func := "loop.example/wholecheck/laws.FnExactRulesCommute", spec := "fnExactRulesCommute", unfollowed := true, recurses := true, apart := false }
def FnExactRulesCommuteSaid : Prop := fnExactRulesCommuteRow.holds Try.pinned (OpenSpec.ofChange fnExactRulesCommuteSpec)

/-- ITS FALSE NEIGHBOUR: 'it returns false'. Refute it at one input. -/
def fnExactRulesCommuteWrong : ChangeSpec := { name := "fnExactRulesCommute", fn := fun _ => fun
  | [d1, d2, d3, d4] => { results := [.lit (.bool false)], args := [d1, d2, d3, d4] }
  | _ => none }
def FnExactRulesCommuteWrongFalsely : Prop := fnExactRulesCommuteRow.holds Try.pinned (OpenSpec.ofChange fnExactRulesCommuteWrong)

/- THE SECOND FORM. 'bulk': how many values and letters a reading holds, each counted each time it is reached (what is shared counts as often as it is met; a slice's spare places count too). A statement '..UptoSaid' is the law's where the arguments, and the package variables that the reading takes, are together of bulk at most 1048576: NARROWER than '..Said'. Prove '..Said' where nothing that the law and all that it calls make is longer than what came in: it says more and counts as full. Else prove '..UptoSaid'. A law counts once. -/
mutual
def uptoBulk {H : Type} : DataW H → Nat
  | .lit (.string bytes) => bytes.length + 1
  | .lit _ => 1
  | .nil => 1
  | .ptr d => uptoBulk d + 1
  | .slice elems spare => uptoBulkAll elems + uptoBulkAll spare + 1
  | .agg parts => uptoBulkAll parts + 1
  | .iface _ d => uptoBulk d + 1
  | .map entries => uptoBulkEntries entries + 1
  | .held _ => 1
def uptoBulkAll {H : Type} : List (DataW H) → Nat
  | [] => 0
  | d :: r => uptoBulk d + uptoBulkAll r
def uptoBulkEntries {H : Type} : List (Lit × DataW H) → Nat
  | [] => 0
  | x :: r => uptoBulkEntry x + uptoBulkEntries r
def uptoBulkEntry {H : Type} : Lit × DataW H → Nat
  | (.string bytes, d) => bytes.length + uptoBulk d + 1
  | (_, d) => uptoBulk d + 1
 end
def uptoSmall : (H : Type) → List (DataW H) → Bool := fun _ ds => decide (uptoBulkAll ds ≤ 1048576)
def OpenSpec.upto (s : _root_.Go.ChangeSpec) : _root_.Go.OpenSpec := { _root_.Go.OpenSpec.ofChange s with cond := some uptoSmall }

/-- 'laws.FnExactNarrow', WHERE WHAT IT READS IS OF BULK AT MOST 1048576: true; the input reads as it did. -/
def fnExactNarrowUptoRow : OpenClaim := { program := "ytoofhjflfpccdaa", sum := "018c3823e947b38ff72173c0065eb74a6c1749bd8191f05bd1c02780ec3d1213", func := "loop.example/wholecheck/laws.FnExactNarrow", spec := "fnExactNarrow", unfollowed := true, recurses := true, apart := false, narrowed := true }
def FnExactNarrowUptoSaid : Prop := fnExactNarrowUptoRow.holds Try.pinned (OpenSpec.upto fnExactNarrowSpec)

/-- 'laws.FnExactFirstState', WHERE WHAT IT READS IS OF BULK AT MOST 1048576: true; the input reads as it did. -/
def fnExactFirstStateUptoRow : OpenClaim := { program := "ytoofhjflfpccdaa", sum := "018c3823e947b38ff72173c0065eb74a6c1749bd8191f05bd1c02780ec3d1213", func := "loop.example/wholecheck/laws.FnExactFirstState", spec := "fnExactFirstState", unfollowed := true, recurses := true, apart := false, narrowed := true }
def FnExactFirstStateUptoSaid : Prop := fnExactFirstStateUptoRow.holds Try.pinned (OpenSpec.upto fnExactFirstStateSpec)

/-- 'laws.FnExactNumberOf', WHERE WHAT IT READS IS OF BULK AT MOST 1048576: true; the input reads as it did. -/
def fnExactNumberOfUptoRow : OpenClaim := { program := "ytoofhjflfpccdaa", sum := "018c3823e947b38ff72173c0065eb74a6c1749bd8191f05bd1c02780ec3d1213", func := "loop.example/wholecheck/laws.FnExactNumberOf", spec := "fnExactNumberOf", unfollowed := true, recurses := true, apart := false, narrowed := true }
def FnExactNumberOfUptoSaid : Prop := fnExactNumberOfUptoRow.holds Try.pinned (OpenSpec.upto fnExactNumberOfSpec)

/-- 'laws.FnExactBitsOf', WHERE WHAT IT READS IS OF BULK AT MOST 1048576: true; the input reads as it did. -/
def fnExactBitsOfUptoRow : OpenClaim := { program := "ytoofhjflfpccdaa", sum := "018c3823e947b38ff72173c0065eb74a6c1749bd8191f05bd1c02780ec3d1213", func := "loop.example/wholecheck/laws.FnExactBitsOf", spec := "fnExactBitsOf", unfollowed := true, recurses := true, apart := false, narrowed := true }
def FnExactBitsOfUptoSaid : Prop := fnExactBitsOfUptoRow.holds Try.pinned (OpenSpec.upto fnExactBitsOfSpec)

/-- 'laws.FnExactStateAt', WHERE WHAT IT READS IS OF BULK AT MOST 1048576: true; the input reads as it did. -/
def fnExactStateAtUptoRow : OpenClaim := { program := "ytoofhjflfpccdaa", sum := "018c3823e947b38ff72173c0065eb74a6c1749bd8191f05bd1c02780ec3d1213", func := "loop.example/wholecheck/laws.FnExactStateAt", spec := "fnExactStateAt", unfollowed := true, recurses := true, apart := false, narrowed := true }
def FnExactStateAtUptoSaid : Prop := fnExactStateAtUptoRow.holds Try.pinned (OpenSpec.upto fnExactStateAtSpec)

/-- 'laws.FnExactApartBits', WHERE WHAT IT READS IS OF BULK AT MOST 1048576: true; the input reads as it did. -/
def fnExactApartBitsUptoRow : OpenClaim := { program := "ytoofhjflfpccdaa", sum := "018c3823e947b38ff72173c0065eb74a6c1749bd8191f05bd1c02780ec3d1213", func := "loop.example/wholecheck/laws.FnExactApartBits", spec := "fnExactApartBits", unfollowed := true, recurses := true, apart := false, narrowed := true }
def FnExactApartBitsUptoSaid : Prop := fnExactApartBitsUptoRow.holds Try.pinned (OpenSpec.upto fnExactApartBitsSpec)

/-- 'laws.FnExactStateBits', WHERE WHAT IT READS IS OF BULK AT MOST 1048576: true; the input reads as it did. -/
def fnExactStateBitsUptoRow : OpenClaim := { program := "ytoofhjflfpccdaa", sum := "018c3823e947b38ff72173c0065eb74a6c1749bd8191f05bd1c02780ec3d1213", func := "loop.example/wholecheck/laws.FnExactStateBits", spec := "fnExactStateBits", unfollowed := true, recurses := true, apart := false, narrowed := true }
def FnExactStateBitsUptoSaid : Prop := fnExactStateBitsUptoRow.holds Try.pinned (OpenSpec.upto fnExactStateBitsSpec)

/-- 'laws.FnExactRuleBetween', WHERE WHAT IT READS IS OF BULK AT MOST 1048576: true; the input reads as it did. -/
def fnExactRuleBetweenUptoRow : OpenClaim := { program := "ytoofhjflfpccdaa", sum := "018c3823e947b38ff72173c0065eb74a6c1749bd8191f05bd1c02780ec3d1213", func := "loop.example/wholecheck/laws.FnExactRuleBetween", spec := "fnExactRuleBetween", unfollowed := true, recurses := true, apart := false, narrowed := true }
def FnExactRuleBetweenUptoSaid : Prop := fnExactRuleBetweenUptoRow.holds Try.pinned (OpenSpec.upto fnExactRuleBetweenSpec)

/-- 'laws.FnExactStuckIn', WHERE WHAT IT READS IS OF BULK AT MOST 1048576: true; the input reads as it did. -/
def fnExactStuckInUptoRow : OpenClaim := { program := "ytoofhjflfpccdaa", sum := "018c3823e947b38ff72173c0065eb74a6c1749bd8191f05bd1c02780ec3d1213", func := "loop.example/wholecheck/laws.FnExactStuckIn", spec := "fnExactStuckIn", unfollowed := true, recurses := true, apart := false, narrowed := true }
def FnExactStuckInUptoSaid : Prop := fnExactStuckInUptoRow.holds Try.pinned (OpenSpec.upto fnExactStuckInSpec)

/-- 'laws.FnExactUsableIn', WHERE WHAT IT READS IS OF BULK AT MOST 1048576: true; the input reads as it did. -/
def fnExactUsableInUptoRow : OpenClaim := { program := "ytoofhjflfpccdaa", sum := "018c3823e947b38ff72173c0065eb74a6c1749bd8191f05bd1c02780ec3d1213", func := "loop.example/wholecheck/laws.FnExactUsableIn", spec := "fnExactUsableIn", unfollowed := true, recurses := true, apart := false, narrowed := true }
def FnExactUsableInUptoSaid : Prop := fnExactUsableInUptoRow.holds Try.pinned (OpenSpec.upto fnExactUsableInSpec)

/-- 'laws.FnExactUse', WHERE WHAT IT READS IS OF BULK AT MOST 1048576: true; the input reads as it did. -/
def fnExactUseUptoRow : OpenClaim := { program := "ytoofhjflfpccdaa", sum := "018c3823e947b38ff72173c0065eb74a6c1749bd8191f05bd1c02780ec3d1213", func := "loop.example/wholecheck/laws.FnExactUse", spec := "fnExactUse", unfollowed := true, recurses := true, apart := false, narrowed := true }
def FnExactUseUptoSaid : Prop := fnExactUseUptoRow.holds Try.pinned (OpenSpec.upto fnExactUseSpec)

/-- 'laws.FnExactRulesCommute', WHERE WHAT IT READS IS OF BULK AT MOST 1048576: true; the input reads as it did. -/
def fnExactRulesCommuteUptoRow : OpenClaim := { program := "ytoofhjflfpccdaa", sum := "018c3823e947b38ff72173c0065eb74a6c1749bd8191f05bd1c02780ec3d1213", func := "loop.example/wholecheck/laws.FnExactRulesCommute", spec := "fnExactRulesCommute", unfollowed := true, recurses := true, apart := false, narrowed := true }
def FnExactRulesCommuteUptoSaid : Prop := fnExactRulesCommuteUptoRow.holds Try.pinned (OpenSpec.upto fnExactRulesCommuteSpec)

end Rows
end Go.Proofs.Ytoofhjflfpccdaa
