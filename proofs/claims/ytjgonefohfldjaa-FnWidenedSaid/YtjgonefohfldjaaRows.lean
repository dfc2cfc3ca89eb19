/-
  No cell of these rows narrows 'for every input' (looked for: loops, veiled, ifaces, maps, wideKeys, modest, calm, conditions, laid).
  DERIVED. THE GIVEN ROWS OF THIS SEAT. 7 by the template 'for every input the law returns true; each argument reads behind the call as it read before'; 0 by the template 'total and deterministic' (their statements: YtjgonefohfldjaaTotals.lean).
  GIVEN WITH THE SEED: the statements are not yours to turn. If you find one false, say at which input.
  Laid BY PROGRAM, IN A SANDBOX (cutbox-rows.mjs): the forced cells as the released guide's own fill.sh prints them over the translation 29e8db46737acf81… (all of the seat's roots in one cut). By AI agents, Wed Nov 11 2026. No macro, syntax, notation, axiom, sorry.
-/
import Derived.Test.YtjgonefohfldjaaChecked
import GoSem.Claim
import GoSem.ClaimJoined
import GoSem.ClaimMapViews
import Derived.JoinedTies
import Derived.KernelRfl
namespace Go.Proofs.Ytjgonefohfldjaa
/- THE CELL 'sum', in the pinned program and in every row, IS THE sha256 OF THE DUMP (.gsa) THAT YtjgonefohfldjaaProg.lean LOADS. Nothing in Lean hashes anything: it is a label: what it is worth is what the hold of that sum in a sandbox is worth. -/
noncomputable def Try.pinned : Pinned := { name := "ytjgonefohfldjaa", sum := "29e8db46737acf815c1ed3beebb3eadce0574810cd97398de02787fe1c078b8e", checked := Try.checked }
namespace Rows
def none {H : Type} : Left H := { results := [], args := [] }

/-- 'laws.FnNumbers': WHATEVER THE INPUT: true; the input reads as it did. -/
def fnNumbersSpec : ChangeSpec := { name := "fnNumbers", fn := fun _ => fun
  | [d] => { results := [.lit (.bool true)], args := [d] }
  | _ => none }
def fnNumbersRow : OpenClaim := { program := "ytjgonefohfldjaa", sum := "29e8db46737acf815c1ed3beebb3eadce0574810cd97398de02787fe1c078b8e", func := "loop.example/wholecheck/laws.FnNumbers", spec := "fnNumbers", unfollowed := true, recurses := true, apart := false }
def FnNumbersSaid : Prop := fnNumbersRow.holds Try.pinned (OpenSpec.ofChange fnNumbersSpec)

/-- ITS FALSE NEIGHBOUR: 'it returns false'. Refute it at one input. -/
def fnNumbersWrong : ChangeSpec := { name := "fnNumbers", fn := fun _ => fun
  | [d] => { results := [.lit (.bool false)], args := [d] }
  | _ => none }
def FnNumbersWrongFalsely : Prop := fnNumbersRow.holds Try.pinned (OpenSpec.ofChange fnNumbersWrong)

/-- 'laws.FnApartBits': WHATEVER THE INPUT: true; the input reads as it did. -/
def fnApartBitsSpec : ChangeSpec := { name := "fnApartBits", fn := fun _ => fun
  | [d] => { results := [.lit (.bool true)], args := [d] }
  | _ => none }
def fnApartBitsRow : OpenClaim := { program := "ytjgonefohfldjaa", sum := "29e8db46737acf815c1ed3beebb3eadce0574810cd97398de02787fe1c078b8e", func := "loop.example/wholecheck/laws.FnApartBits", spec := "fnApartBits", unfollowed := true, recurses := true, apart := false }
def FnApartBitsSaid : Prop := fnApartBitsRow.holds Try.pinned (OpenSpec.ofChange fnApartBitsSpec)

/-- ITS FALSE NEIGHBOUR: 'it returns false'. Refute it at one input. -/
def fnApartBitsWrong : ChangeSpec := { name := "fnApartBits", fn := fun _ => fun
  | [d] => { results := [.lit (.bool false)], args := [d] }
  | _ => none }
def FnApartBitsWrongFalsely : Prop := fnApartBitsRow.holds Try.pinned (OpenSpec.ofChange fnApartBitsWrong)

/-- 'laws.FnStateBits': WHATEVER THE INPUT: true; the input reads as it did. -/
def fnStateBitsSpec : ChangeSpec := { name := "fnStateBits", fn := fun _ => fun
  | [d] => { results := [.lit (.bool true)], args := [d] }
  | _ => none }
def fnStateBitsRow : OpenClaim := { program := "ytjgonefohfldjaa", sum := "29e8db46737acf815c1ed3beebb3eadce0574810cd97398de02787fe1c078b8e", func := "loop.example/wholecheck/laws.FnStateBits", spec := "fnStateBits", unfollowed := true, recurses := true, apart := false }
def FnStateBitsSaid : Prop := fnStateBitsRow.holds Try.pinned (OpenSpec.ofChange fnStateBitsSpec)

/-- ITS FALSE NEIGHBOUR: 'it returns false'. Refute it at one input. -/
def fnStateBitsWrong : ChangeSpec := { name := "fnStateBits", fn := fun _ => fun
  | [d] => { results := [.lit (.bool false)], args := [d] }
  | _ => none }
def FnStateBitsWrongFalsely : Prop := fnStateBitsRow.holds Try.pinned (OpenSpec.ofChange fnStateBitsWrong)

/-- 'laws.FnBitsState': WHATEVER THE INPUT: true; the input reads as it did. -/
def fnBitsStateSpec : ChangeSpec := { name := "fnBitsState", fn := fun _ => fun
  | [d] => { results := [.lit (.bool true)], args := [d] }
  | _ => none }
def fnBitsStateRow : OpenClaim := { program := "ytjgonefohfldjaa", sum := "29e8db46737acf815c1ed3beebb3eadce0574810cd97398de02787fe1c078b8e", func := "loop.example/wholecheck/laws.FnBitsState", spec := "fnBitsState", unfollowed := true, recurses := true, apart := false }
def FnBitsStateSaid : Prop := fnBitsStateRow.holds Try.pinned (OpenSpec.ofChange fnBitsStateSpec)

/-- ITS FALSE NEIGHBOUR: 'it returns false'. Refute it at one input. -/
def fnBitsStateWrong : ChangeSpec := { name := "fnBitsState", fn := fun _ => fun
  | [d] => { results := [.lit (.bool false)], args := [d] }
  | _ => none }
def FnBitsStateWrongFalsely : Prop := fnBitsStateRow.holds Try.pinned (OpenSpec.ofChange fnBitsStateWrong)

/-- 'laws.FnWhere': WHATEVER THE INPUT: true; the input reads as it did. -/
def fnWhereSpec : ChangeSpec := { name := "fnWhere", fn := fun _ => fun
  | [d] => { results := [.lit (.bool true)], args := [d] }
  | _ => none }
def fnWhereRow : OpenClaim := { program := "ytjgonefohfldjaa", sum := "29e8db46737acf815c1ed3beebb3eadce0574810cd97398de02787fe1c078b8e", func := "loop.example/wholecheck/laws.FnWhere", spec := "fnWhere", unfollowed := true, recurses := true, apart := false }
def FnWhereSaid : Prop := fnWhereRow.holds Try.pinned (OpenSpec.ofChange fnWhereSpec)

/-- ITS FALSE NEIGHBOUR: 'it returns false'. Refute it at one input. -/
def fnWhereWrong : ChangeSpec := { name := "fnWhere", fn := fun _ => fun
  | [d] => { results := [.lit (.bool false)], args := [d] }
  | _ => none }
def FnWhereWrongFalsely : Prop := fnWhereRow.holds Try.pinned (OpenSpec.ofChange fnWhereWrong)

/-- 'laws.FnCubeStates': WHATEVER THE INPUT: true; the input reads as it did. -/
def fnCubeStatesSpec : ChangeSpec := { name := "fnCubeStates", fn := fun _ => fun
  | [d] => { results := [.lit (.bool true)], args := [d] }
  | _ => none }
def fnCubeStatesRow : OpenClaim := { program := "ytjgonefohfldjaa", sum := "29e8db46737acf815c1ed3beebb3eadce0574810cd97398de02787fe1c078b8e", func := "loop.example/wholecheck/laws.FnCubeStates", spec := "fnCubeStates", unfollowed := true, recurses := true, apart := false }
def FnCubeStatesSaid : Prop := fnCubeStatesRow.holds Try.pinned (OpenSpec.ofChange fnCubeStatesSpec)

/-- ITS FALSE NEIGHBOUR: 'it returns false'. Refute it at one input. -/
def fnCubeStatesWrong : ChangeSpec := { name := "fnCubeStates", fn := fun _ => fun
  | [d] => { results := [.lit (.bool false)], args := [d] }
  | _ => none }
def FnCubeStatesWrongFalsely : Prop := fnCubeStatesRow.holds Try.pinned (OpenSpec.ofChange fnCubeStatesWrong)

/-- 'laws.FnWidened': WHATEVER THE INPUT: true; the input reads as it did. -/
def fnWidenedSpec : ChangeSpec := { name := "fnWidened", fn := fun _ => fun
  | [d] => { results := [.lit (.bool true)], args := [d] }
  | _ => none }
def fnWidenedRow : OpenClaim := { program := "ytjgonefohfldjaa", sum := "29e8db46737acf815c1ed3beebb3eadce0574810cd97398de02787fe1c078b8e", func := "loop.example/wholecheck/laws.FnWidened", spec := "fnWidened", unfollowed := true, recurses := true, apart := false }
def FnWidenedSaid : Prop := fnWidenedRow.holds Try.pinned (OpenSpec.ofChange fnWidenedSpec)

/-- ITS FALSE NEIGHBOUR: 'it returns false'. Refute it at one input. -/
def fnWidenedWrong : ChangeSpec := { name := "fnWidened", fn := fun _ => fun
  | [d] => { results := [.lit (.bool false)], args := [d] }
  | _ => none }
def FnWidenedWrongFalsely : Prop := fnWidenedRow.holds Try.pinned (OpenSpec.ofChange fnWidenedWrong)

/- THE SECOND FORM. 'bulk': how many values and letters a reading holds, each counted each time it is reached (what is shared counts as often as it is met; a slice's spare places count too). A statement '..UptoSaid' is the law's where the arguments, and the package variables that the reading takes, are together of bulk at most 1048576: NARROWER than '..Said'. Prove '..Said' where nothing that the law and all that it calls make is longer than what came in: it says more and counts as full. Else prove '..UptoSaid'. A law counts once. -/
mutual
def uptoBulk {H : Type} : DataW H → Nat
  | .lit (.string bytes) => bytes.length + 1
  | .lit _ => 1
  | .nil => 1
  | .ptr d => uptoBulk d + 1
  | .slice elems spare => uptoBulkAll elems + uptoBulkAll spare + 1
  | .agg parts => uptoBulkAll parts + 1
  | .iface _ d => uptoBulk d + 1
  | .map entries => uptoBulkEntries entries + 1
  | .held _ => 1
def uptoBulkAll {H : Type} : List (DataW H) → Nat
  | [] => 0
  | d :: r => uptoBulk d + uptoBulkAll r
def uptoBulkEntries {H : Type} : List (Lit × DataW H) → Nat
  | [] => 0
  | x :: r => uptoBulkEntry x + uptoBulkEntries r
def uptoBulkEntry {H : Type} : Lit × DataW H → Nat
  | (.string bytes, d) => bytes.length + uptoBulk d + 1
  | (_, d) => uptoBulk d + 1
 end
def uptoSmall : (H : Type) → List (DataW H) → Bool := fun _ ds => decide (uptoBulkAll ds ≤ 1048576)
def OpenSpec.upto (s : _root_.Go.ChangeSpec) : _root_.Go.OpenSpec := { _root_.Go.OpenSpec.ofChange s with cond := some uptoSmall }

/-- 'laws.FnNumbers', WHERE WHAT IT READS IS OF BULK AT MOST 1048576: true; the input reads as it did. -/
def fnNumbersUptoRow : OpenClaim := { program := "ytjgonefohfldjaa", sum := "29e8db46737acf815c1ed3beebb3eadce0574810cd97398de02787fe1c078b8e", func := "loop.example/wholecheck/laws.FnNumbers", spec := "fnNumbers", unfollowed := true, recurses := true, apart := false, narrowed := true }
def FnNumbersUptoSaid : Prop := fnNumbersUptoRow.holds Try.pinned (OpenSpec.upto fnNumbersSpec)

/-- 'laws.FnApartBits', WHERE WHAT IT READS IS OF BULK AT MOST 1048576: true; the input reads as it did. -/
def fnApartBitsUptoRow : OpenClaim := { program := "ytjgonefohfldjaa", sum := "29e8db46737acf815c1ed3beebb3eadce0574810cd97398de02787fe1c078b8e", func := "loop.example/wholecheck/laws.FnApartBits", spec := "fnApartBits", unfollowed := true, recurses := true, apart := false, narrowed := true }
def FnApartBitsUptoSaid : Prop := fnApartBitsUptoRow.holds Try.pinned (OpenSpec.upto fnApartBitsSpec)

/-- 'laws.FnStateBits', WHERE WHAT IT READS IS OF BULK AT MOST 1048576: true; the input reads as it did. -/
def fnStateBitsUptoRow : OpenClaim := { program := "ytjgonefohfldjaa", sum := "29e8db46737acf815c1ed3beebb3eadce0574810cd97398de02787fe1c078b8e", func := "loop.example/wholecheck/laws.FnStateBits", spec := "fnStateBits", unfollowed := true, recurses := true, apart := false, narrowed := true }
def FnStateBitsUptoSaid : Prop := fnStateBitsUptoRow.holds Try.pinned (OpenSpec.upto fnStateBitsSpec)

/-- 'laws.FnBitsState', WHERE WHAT IT READS IS OF BULK AT MOST 1048576: true; the input reads as it did. -/
def fnBitsStateUptoRow : OpenClaim := { program := "ytjgonefohfldjaa", sum := "29e8db46737acf815c1ed3beebb3eadce0574810cd97398de02787fe1c078b8e", func := "loop.example/wholecheck/laws.FnBitsState", spec := "fnBitsState", unfollowed := true, recurses := true, apart := false, narrowed := true }
def FnBitsStateUptoSaid : Prop := fnBitsStateUptoRow.holds Try.pinned (OpenSpec.upto fnBitsStateSpec)

/-- 'laws.FnWhere', WHERE WHAT IT READS IS OF BULK AT MOST 1048576: true; the input reads as it did. -/
def fnWhereUptoRow : OpenClaim := { program := "ytjgonefohfldjaa", sum := "29e8db46737acf815c1ed3beebb3eadce0574810cd97398de02787fe1c078b8e", func := "loop.example/wholecheck/laws.FnWhere", spec := "fnWhere", unfollowed := true, recurses := true, apart := false, narrowed := true }
def FnWhereUptoSaid : Prop := fnWhereUptoRow.holds Try.pinned (OpenSpec.upto fnWhereSpec)

/-- 'laws.FnCubeStates', WHERE WHAT IT READS IS OF BULK AT MOST 1048576: true; the input reads as it did. -/
def fnCubeStatesUptoRow : OpenClaim := { program := "ytjgonefohfldjaa", sum := "29e8db46737acf815c1ed3beebb3eadce0574810cd97398de02787fe1c078b8e", func := "loop.example/wholecheck/laws.FnCubeStates", spec := "fnCubeStates", unfollowed := true, recurses := true, apart := false, narrowed := true }
def FnCubeStatesUptoSaid : Prop := fnCubeStatesUptoRow.holds Try.pinned (OpenSpec.upto fnCubeStatesSpec)

/-- 'laws.FnWidened', WHERE WHAT IT READS IS OF BULK AT MOST 1048576: true; the input reads as it did. -/
def fnWidenedUptoRow : OpenClaim := { program := "ytjgonefohfldjaa", sum := "29e8db46737acf815c1ed3beebb3eadce0574810cd97398de02787fe1c078b8e", func := "loop.example/wholecheck/laws.FnWidened", spec := "fnWidened", unfollowed := true, recurses := true, apart := false, narrowed := true }
def FnWidenedUptoSaid : Prop := fnWidenedUptoRow.holds Try.pinned (OpenSpec.upto fnWidenedSpec)

end Rows
end Go.Proofs.Ytjgonefohfldjaa
