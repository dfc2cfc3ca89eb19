/- Types and the Lean functions that the walks are told against. No conditions. -/
import Derived.Test.YtoofhjflfpccdaaProg
import Derived.Below
import Derived.Deep.Draws
import Derived.Deep.AppendLies
import Derived.Maps.AppendAt
import Derived.OwnWalk
import Derived.Laws.BytesArg
import Derived.Laws.MakeOwn
import Derived.Laws.OwnMore
import Derived.Deep.OwnRows
import Derived.Tactics
import Derived.Lib.ConvBytes
import Derived.Laws.Slices
import Derived.WalkKit
import Derived.KernelRfl
import Derived.RowKit3
import Derived.Deep.LoopGhost
import Derived.Deep.QuietTactic
import Derived.BigQuiet
import Derived.WideLaws
import Derived.Deep.DeepCutAuto
import Derived.Deep.CutBlock
import Derived.Deep.RegionHeld3
import Derived.Laws.Rows
import Derived.Lib.AppendStr
import Derived.ArgAppend
import Derived.Laws.IdiomCopy
import Derived.OrdersHeld
import Derived.Laws.BitsLemmas
import Derived.RowKit
import Derived.Laws.StructEq
import Derived.Lib.SliceRun
import Derived.WalkSpells
import Derived.ChangeArms
import Derived.ChangeSlices
import Derived.Deep.Slices
import Derived.Test.YtoofhjflfpccdaaKD35d9d1ced7
import Derived.Test.YtoofhjflfpccdaaKW53babb26ca
namespace Go.Proofs.Ytoofhjflfpccdaa.PA
open Go.RowKit Go.Proofs.YtoofhjflfpccdaaW.PrintWords Go.Proofs.YtoofhjflfpccdaaW.PrintLast Go.Proofs.YtoofhjflfpccdaaW.PrintMore
attribute [local go_sem] max2_int min2_int max_two min_two max_three min_three max_four min_four   -- for this text's walks alone
set_option linter.unusedVariables false
set_option linter.unusedSimpArgs false
def spec_FirstState.l0 : Nat → List Int → Int → List (IVar) → List (IRule) → Option (List Int)
  | 0, _, _, _, _ => none
  | k + 1, x3, x4, x370000, x370001 => if x4 < (x370000.length : Int) then ((spec_SystemValid.f k x370000 x370001).bind fun t373 => (if t373 = true then (if 0 ≤ x4 then (if x3.length < 17592186044416 then (spec_FirstState.l0 k (x3 ++ [(rd_IVar x370000 x4).f2]) (wrap64 (x4 + 1)) x370000 x370001) else (none)) else (none)) else (some x3))) else (some x3)
def spec_FirstState.f (k : Nat) (l0_0 : List (IVar)) (l0_1 : List (IRule)) : Option (List Int) := spec_FirstState.l0 k (([] : List Int)) 0 l0_0 l0_1
def laws_markIntS.l0 : Nat → List Int → Int → Int → Option (Int × List Int)
  | 0, _, _, _ => none
  | k + 1, x0, x1, x5 => if x5 < (x0.length : Int) then (if 0 ≤ x5 then (laws_markIntS.l0 k (x0.set (x5 : Int).toNat x1) (wrap64 (x1 + 1)) (wrap64 (x5 + 1))) else (none)) else (some (x1, x0))
def laws_markIntS.f (k : Nat) (l0 : List Int) (a1 : Int) : Option (Int × List Int) := laws_markIntS.l0 k l0 a1 0
def laws_heldIntS.l0 : Nat → List Int → Int → Int → Option (Int)
  | 0, _, _, _ => none
  | k + 1, x0, x1, x5 => if x5 < (x0.length : Int) then (if 0 ≤ x5 then (if (rd x0 x5) = x1 then (laws_heldIntS.l0 k x0 (wrap64 (x1 + 1)) (wrap64 (x5 + 1))) else (some (-1))) else (none)) else (some x1)
def laws_heldIntS.f (k : Nat) (l0 : List Int) (a1 : Int) : Option (Int) := laws_heldIntS.l0 k l0 a1 0
def spec_SizeOf.l0 : Nat → Int → Int → List (IVar) → List (IRule) → Option (Int)
  | 0, _, _, _, _ => none
  | k + 1, x3, x4, x540000, x540001 => if x4 < (x540000.length : Int) then (if 0 ≤ x4 then (spec_SizeOf.l0 k (wrap64 (x3 * (wrap64 ((wrap64 (((rd_IVar x540000 x4).f1) - ((rd_IVar x540000 x4).f0))) + 1)))) (wrap64 (x4 + 1)) x540000 x540001) else (none)) else (some x3)
def spec_SizeOf.f (k : Nat) (l0_0 : List (IVar)) (l0_1 : List (IRule)) : Option (Int) := (spec_SystemValid.f k l0_0 l0_1).bind fun t540 => (if t540 = true then (spec_SizeOf.l0 k 1 0 l0_0 l0_1) else (some 0))
def spec_l3Copy.l0 : Nat → List Int → List Int → Int → Option (List Int)
  | 0, _, _, _ => none
  | k + 1, x0, x3, x4 => if x4 < (x0.length : Int) then (if 0 ≤ x4 then (if x3.length < 17592186044416 then (spec_l3Copy.l0 k x0 (x3 ++ [rd x0 x4]) (wrap64 (x4 + 1))) else (none)) else (none)) else (some x3)
def spec_l3Copy.f (k : Nat) (l0 : List Int) : Option (List Int) := spec_l3Copy.l0 k l0 (([] : List Int)) 0
def spec_l4State.l0 : Nat → Int → List Int → Int → List (IVar) → List (IRule) → Option (List Int)
  | 0, _, _, _, _, _ => none
  | k + 1, x1, x5, x6, x551000, x551001 => if x6 ≥ 0 then (if 0 ≤ x6 then (if x6 < (x551000.length : Int) then (if (wrap64 ((wrap64 (((rd_IVar x551000 x6).f1) - ((rd_IVar x551000 x6).f0))) + 1)) = 0 then (none) else (if x6 < (x5.length : Int) then (spec_l4State.l0 k (wrap64 (Int.tdiv x1 (wrap64 ((wrap64 (((rd_IVar x551000 x6).f1) - ((rd_IVar x551000 x6).f0))) + 1)))) (x5.set (x6 : Int).toNat (wrap64 (((rd_IVar x551000 x6).f0) + (Int.tmod x1 (wrap64 ((wrap64 (((rd_IVar x551000 x6).f1) - ((rd_IVar x551000 x6).f0))) + 1)))))) (wrap64 (x6 - 1)) x551000 x551001) else (none))) else (none)) else (none)) else (some x5)
def spec_l4State.f (k : Nat) (l0_0 : List (IVar)) (l0_1 : List (IRule)) (a1 : Int) : Option (List Int) := (spec_FirstState.f k l0_0 l0_1).bind fun t551 => ((spec_l3Copy.f k t551).bind fun t554 => (spec_l4State.l0 k a1 t554 (wrap64 ((l0_0.length : Int) - 1)) l0_0 l0_1))
def spec_StateAt.f (k : Nat) (l0_0 : List (IVar)) (l0_1 : List (IRule)) (a1 : Int) : Option (List Int) := (spec_SizeOf.f k l0_0 l0_1).bind fun t562 => ((spec_l1In.f a1 0 (wrap64 (t562 - 1))).bind fun t563 => (if t563 = true then ((spec_l4State.f k l0_0 l0_1 a1).bind fun t564 => (some t564)) else (some ([] : List Int))))
def impl_SizeOf.f (k : Nat) (l0_0 : List (IVar)) (l0_1 : List (IRule)) : Option (Int) := (impl_SystemValid.f k l0_0 l0_1).bind fun t568 => (if t568 = true then ((impl_size.f k l0_0).bind fun t569 => (some t569)) else (some 0))
def impl_stateAt.l0 : Nat → Int → List Int → Int → List (IVar) → List (IRule) → Option (List Int)
  | 0, _, _, _, _, _ => none
  | k + 1, x1, x5, x6, x571000, x571001 => if x6 ≥ 0 then (if 0 ≤ x6 then (if x6 < (x571000.length : Int) then (if (wrap64 ((wrap64 (((rd_IVar x571000 x6).f1) - ((rd_IVar x571000 x6).f0))) + 1)) = 0 then (none) else (if x6 < (x5.length : Int) then (impl_stateAt.l0 k (wrap64 (Int.tdiv x1 (wrap64 ((wrap64 (((rd_IVar x571000 x6).f1) - ((rd_IVar x571000 x6).f0))) + 1)))) (x5.set (x6 : Int).toNat (wrap64 (((rd_IVar x571000 x6).f0) + (Int.tmod x1 (wrap64 ((wrap64 (((rd_IVar x571000 x6).f1) - ((rd_IVar x571000 x6).f0))) + 1)))))) (wrap64 (x6 - 1)) x571000 x571001) else (none))) else (none)) else (none)) else (some x5)
def impl_stateAt.f (k : Nat) (l0_0 : List (IVar)) (l0_1 : List (IRule)) (a1 : Int) : Option (List Int) := if 0 ≤ (l0_0.length : Int) then (if ((l0_0.length : Int) : Int).toNat ≤ 35184372088832 then ((some (List.replicate ((l0_0.length : Int) : Int).toNat 0 : List Int)).bind fun y571 => (impl_stateAt.l0 k a1 y571 (wrap64 ((y571.length : Int) - 1)) l0_0 l0_1)) else (none)) else (none)
def impl_StateAt.f (k : Nat) (l0_0 : List (IVar)) (l0_1 : List (IRule)) (a1 : Int) : Option (List Int) := (impl_SizeOf.f k l0_0 l0_1).bind fun t578 => ((impl_in.f a1 0 (wrap64 (t578 - 1))).bind fun t579 => (if t579 = true then ((impl_stateAt.f k l0_0 l0_1 a1).bind fun t580 => (some t580)) else (some ([] : List Int))))
end Go.Proofs.Ytoofhjflfpccdaa.PA
