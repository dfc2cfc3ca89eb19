/- Types and the Lean functions that the walks are told against. No conditions. -/
import Derived.Test.YtoofhjflfpccdaaProg
import Derived.Below
import Derived.Deep.Draws
import Derived.Deep.AppendLies
import Derived.Maps.AppendAt
import Derived.OwnWalk
import Derived.Laws.BytesArg
import Derived.Laws.MakeOwn
import Derived.Laws.OwnMore
import Derived.Deep.OwnRows
import Derived.Tactics
import Derived.Lib.ConvBytes
import Derived.Laws.Slices
import Derived.WalkKit
import Derived.KernelRfl
import Derived.RowKit3
import Derived.Deep.LoopGhost
import Derived.Deep.QuietTactic
import Derived.BigQuiet
import Derived.WideLaws
import Derived.Deep.DeepCutAuto
import Derived.Deep.CutBlock
import Derived.Deep.RegionHeld3
import Derived.Laws.Rows
import Derived.Lib.AppendStr
import Derived.ArgAppend
import Derived.Laws.IdiomCopy
import Derived.OrdersHeld
import Derived.Laws.BitsLemmas
import Derived.RowKit
import Derived.Laws.StructEq
import Derived.Lib.SliceRun
import Derived.WalkSpells
import Derived.ChangeArms
import Derived.ChangeSlices
import Derived.Deep.Slices
import Derived.Test.YtoofhjflfpccdaaKD678a608cbb
import Derived.Test.YtoofhjflfpccdaaKW3ac8a80afb
namespace Go.Proofs.Ytoofhjflfpccdaa.PA
open Go.RowKit Go.Proofs.YtoofhjflfpccdaaW.PrintWords Go.Proofs.YtoofhjflfpccdaaW.PrintLast Go.Proofs.YtoofhjflfpccdaaW.PrintMore
attribute [local go_sem] max2_int min2_int max_two min_two max_three min_three max_four min_four   -- for this text's walks alone
set_option linter.unusedVariables false
set_option linter.unusedSimpArgs false
def spec_l2In.l0 : Nat → List Int → Int → List (IVar) → List (IRule) → Option (Bool)
  | 0, _, _, _, _ => none
  | k + 1, x1, x5, x436000, x436001 => if x5 < (x1.length : Int) then (if 0 ≤ x5 then (if x5 < (x436000.length : Int) then ((spec_l1In.f (rd x1 x5) ((rd_IVar x436000 x5).f0) ((rd_IVar x436000 x5).f1)).bind fun t439 => (if t439 = true then (spec_l2In.l0 k x1 (wrap64 (x5 + 1)) x436000 x436001) else (some false))) else (none)) else (none)) else (some true)
def spec_l2In.f (k : Nat) (l0_0 : List (IVar)) (l0_1 : List (IRule)) (l1 : List Int) : Option (Bool) := if (l1.length : Int) = (l0_0.length : Int) then (spec_l2In.l0 k l1 0 l0_0 l0_1) else (some false)
def spec_InRange.f (k : Nat) (l0_0 : List (IVar)) (l0_1 : List (IRule)) (l1 : List Int) : Option (Bool) := (spec_SystemValid.f k l0_0 l0_1).bind fun t441 => (if t441 = true then ((spec_l2In.f k l0_0 l0_1 l1).bind fun t442 => (some t442)) else (some false))
def spec_l4Number.l0 : Nat → List Int → Int → Int → List (IVar) → List (IRule) → Option (Int)
  | 0, _, _, _, _, _ => none
  | k + 1, x1, x5, x6, x444000, x444001 => if x6 < (x1.length : Int) then (if 0 ≤ x6 then (if x6 < (x444000.length : Int) then (spec_l4Number.l0 k x1 (wrap64 ((wrap64 ((wrap64 (x5 * (wrap64 ((wrap64 (((rd_IVar x444000 x6).f1) - ((rd_IVar x444000 x6).f0))) + 1)))) + (rd x1 x6))) - ((rd_IVar x444000 x6).f0))) (wrap64 (x6 + 1)) x444000 x444001) else (none)) else (none)) else (some x5)
def spec_l4Number.f (k : Nat) (l0_0 : List (IVar)) (l0_1 : List (IRule)) (l1 : List Int) : Option (Int) := spec_l4Number.l0 k l1 0 0 l0_0 l0_1
def spec_NumberOf.f (k : Nat) (l0_0 : List (IVar)) (l0_1 : List (IRule)) (l1 : List Int) : Option (Int) := (spec_InRange.f k l0_0 l0_1 l1).bind fun t449 => (if t449 = true then ((spec_l4Number.f k l0_0 l0_1 l1).bind fun t450 => (some t450)) else (some (-1)))
def impl_inRange.l0 : Nat → List Int → List (IVar) → Int → Int → Option (Bool)
  | 0, _, _, _, _ => none
  | k + 1, x1, x14, x15, x16 => if x16 < x15 then (if 0 ≤ x16 then (if x16 < (x14.length : Int) then (if x16 < (x1.length : Int) then ((impl_in.f (rd x1 x16) ((rd_IVar x14 x16).f0) ((rd_IVar x14 x16).f1)).bind fun t455 => (if t455 = true then (impl_inRange.l0 k x1 x14 x15 (wrap64 (x16 + 1))) else (some false))) else (none)) else (none)) else (none)) else (some true)
def impl_inRange.f (k : Nat) (l0_0 : List (IVar)) (l0_1 : List (IRule)) (l1 : List Int) : Option (Bool) := if (l1.length : Int) = (l0_0.length : Int) then (impl_inRange.l0 k l1 l0_0 (l0_0.length : Int) 0) else (some false)
def impl_InRange.f (k : Nat) (l0_0 : List (IVar)) (l0_1 : List (IRule)) (l1 : List Int) : Option (Bool) := (impl_SystemValid.f k l0_0 l0_1).bind fun t457 => (if t457 = true then ((impl_inRange.f k l0_0 l0_1 l1).bind fun t458 => (some t458)) else (some false))
def impl_number.l0 : Nat → List Int → Int → List (IVar) → Int → Int → Option (Int)
  | 0, _, _, _, _, _ => none
  | k + 1, x1, x5, x9, x10, x11 => if x11 < x10 then (if 0 ≤ x11 then (if x11 < (x9.length : Int) then (if x11 < (x1.length : Int) then (impl_number.l0 k x1 (wrap64 ((wrap64 ((wrap64 (x5 * (wrap64 ((wrap64 (((rd_IVar x9 x11).f1) - ((rd_IVar x9 x11).f0))) + 1)))) + (rd x1 x11))) - ((rd_IVar x9 x11).f0))) x9 x10 (wrap64 (x11 + 1))) else (none)) else (none)) else (none)) else (some x5)
def impl_number.f (k : Nat) (l0_0 : List (IVar)) (l0_1 : List (IRule)) (l1 : List Int) : Option (Int) := impl_number.l0 k l1 0 l0_0 (l0_0.length : Int) 0
def impl_NumberOf.f (k : Nat) (l0_0 : List (IVar)) (l0_1 : List (IRule)) (l1 : List Int) : Option (Int) := (impl_InRange.f k l0_0 l0_1 l1).bind fun t464 => (if t464 = true then ((impl_number.f k l0_0 l0_1 l1).bind fun t465 => (some t465)) else (some (-1)))
def laws_FnExactNumberOf.f (k : Nat) (l0_0 : List (LVar)) (l0_1 : List (LRule)) (l1 : List Int) : Option (Bool) := if (l1.length : Int) > 1048576 then (some true) else ((laws_szSystem.f k l0_0 l0_1 1048576).bind fun t467 => (if t467 < 0 then (some true) else ((laws_toSystem.f k l0_0 l0_1).bind fun bt468 => ((laws_toIntS.f k l1).bind fun t474 => ((spec_NumberOf.f k bt468.1 bt468.2 t474).bind fun t477 => ((laws_toSystem.f k l0_0 l0_1).bind fun bt478 => ((laws_toIntS.f k l1).bind fun t485 => ((impl_NumberOf.f k bt478.1 bt478.2 t485).bind fun t488 => (if t488 = t477 then ((laws_toSystem.f k l0_0 l0_1).bind fun bt489 => ((laws_eqSystem.f k bt478.1 bt478.2 bt489.1 bt489.2).bind fun t495 => (if t495 = true then ((laws_toIntS.f k l1).bind fun t496 => ((laws_eqIntS.f k t485 t496).bind fun t499 => (if t499 = true then (some true) else (some false)))) else (some false)))) else (some false))))))))))
end Go.Proofs.Ytoofhjflfpccdaa.PA
