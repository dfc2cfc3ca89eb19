/- Types and the Lean functions that the walks are told against. No conditions. -/
import Derived.Test.YtoofhjflfpccdaaProg
import Derived.Below
import Derived.Deep.Draws
import Derived.Deep.AppendLies
import Derived.Maps.AppendAt
import Derived.OwnWalk
import Derived.Laws.BytesArg
import Derived.Laws.MakeOwn
import Derived.Laws.OwnMore
import Derived.Deep.OwnRows
import Derived.Tactics
import Derived.Lib.ConvBytes
import Derived.Laws.Slices
import Derived.WalkKit
import Derived.KernelRfl
import Derived.RowKit3
import Derived.Deep.LoopGhost
import Derived.Deep.QuietTactic
import Derived.BigQuiet
import Derived.WideLaws
import Derived.Deep.DeepCutAuto
import Derived.Deep.CutBlock
import Derived.Deep.RegionHeld3
import Derived.Laws.Rows
import Derived.Lib.AppendStr
import Derived.ArgAppend
import Derived.Laws.IdiomCopy
import Derived.OrdersHeld
import Derived.Laws.BitsLemmas
import Derived.RowKit
import Derived.Laws.StructEq
import Derived.Lib.SliceRun
import Derived.WalkSpells
import Derived.ChangeArms
import Derived.ChangeSlices
import Derived.Deep.Slices
import Derived.Test.YtoofhjflfpccdaaKD35d9d1ced7
import Derived.Test.YtoofhjflfpccdaaKW72b72df2c1
namespace Go.Proofs.Ytoofhjflfpccdaa.PA
open Go.RowKit Go.Proofs.YtoofhjflfpccdaaW.PrintWords Go.Proofs.YtoofhjflfpccdaaW.PrintLast Go.Proofs.YtoofhjflfpccdaaW.PrintMore
attribute [local go_sem] max2_int min2_int max_two min_two max_three min_three max_four min_four   -- for this text's walks alone
set_option linter.unusedVariables false
set_option linter.unusedSimpArgs false
def spec_l6Many.l0 : Nat → Int → Int → Int → Option (Int)
  | 0, _, _, _ => none
  | k + 1, x0, x3, x4 => if x4 < x0 then (spec_l6Many.l0 k x0 (wrap64 (x3 + 1)) (wrap64 (x4 * 2))) else (some x3)
def spec_l6Many.f (k : Nat) (a0 : Int) : Option (Int) := spec_l6Many.l0 k a0 0 1
def spec_l6Widths.l0 : Nat → List Int → Int → List (IVar) → List (IRule) → Option (List Int)
  | 0, _, _, _, _ => none
  | k + 1, x3, x4, x159000, x159001 => if x4 < (x159000.length : Int) then (if 0 ≤ x4 then ((spec_l6Many.f k (wrap64 ((wrap64 (((rd_IVar x159000 x4).f1) - ((rd_IVar x159000 x4).f0))) + 1))).bind fun t164 => (if x3.length < 17592186044416 then (spec_l6Widths.l0 k (x3 ++ [t164]) (wrap64 (x4 + 1)) x159000 x159001) else (none))) else (none)) else (some x3)
def spec_l6Widths.f (k : Nat) (l0_0 : List (IVar)) (l0_1 : List (IRule)) : Option (List Int) := spec_l6Widths.l0 k (([] : List Int)) 0 l0_0 l0_1
def impl_clone_int.f (l0 : List Int) : Option (List Int) := if l0.length ≤ 35184372088832 then some l0 else none
def impl_bitsFor.l0 : Nat → Int → Int → Option (Int)
  | 0, _, _ => none
  | k + 1, x0, x3 => if 0 ≤ x3 then (if (shl .i64 1 x3) < x0 then (impl_bitsFor.l0 k x0 (wrap64 (x3 + 1))) else (some x3)) else (none)
def impl_bitsFor.f (k : Nat) (a0 : Int) : Option (Int) := impl_bitsFor.l0 k a0 0
def impl_bitsOf.l0 : Nat → List Int → List (IVar) → Int → Int → Option (List Int)
  | 0, _, _, _, _ => none
  | k + 1, x3, x7, x8, x9 => if x9 < x8 then (if 0 ≤ x9 then (if x9 < (x7.length : Int) then ((impl_bitsFor.f k (wrap64 ((wrap64 (((rd_IVar x7 x9).f1) - ((rd_IVar x7 x9).f0))) + 1))).bind fun t301 => (if x3.length < 17592186044416 then (impl_bitsOf.l0 k (x3 ++ [t301]) x7 x8 (wrap64 (x9 + 1))) else (none))) else (none)) else (none)) else ((impl_clone_int.f x3).bind fun t305 => (some t305))
def impl_bitsOf.f (k : Nat) (l0_0 : List (IVar)) (l0_1 : List (IRule)) : Option (List Int) := impl_bitsOf.l0 k ([] : List Int) l0_0 (l0_0.length : Int) 0
def laws_markIntS.l0 : Nat → List Int → Int → Int → Option (Int × List Int)
  | 0, _, _, _ => none
  | k + 1, x0, x1, x5 => if x5 < (x0.length : Int) then (if 0 ≤ x5 then (laws_markIntS.l0 k (x0.set (x5 : Int).toNat x1) (wrap64 (x1 + 1)) (wrap64 (x5 + 1))) else (none)) else (some (x1, x0))
def laws_markIntS.f (k : Nat) (l0 : List Int) (a1 : Int) : Option (Int × List Int) := laws_markIntS.l0 k l0 a1 0
def laws_heldIntS.l0 : Nat → List Int → Int → Int → Option (Int)
  | 0, _, _, _ => none
  | k + 1, x0, x1, x5 => if x5 < (x0.length : Int) then (if 0 ≤ x5 then (if (rd x0 x5) = x1 then (laws_heldIntS.l0 k x0 (wrap64 (x1 + 1)) (wrap64 (x5 + 1))) else (some (-1))) else (none)) else (some x1)
def laws_heldIntS.f (k : Nat) (l0 : List Int) (a1 : Int) : Option (Int) := laws_heldIntS.l0 k l0 a1 0
def spec_l2In.l0 : Nat → List Int → Int → List (IVar) → List (IRule) → Option (Bool)
  | 0, _, _, _, _ => none
  | k + 1, x1, x5, x436000, x436001 => if x5 < (x1.length : Int) then (if 0 ≤ x5 then (if x5 < (x436000.length : Int) then ((spec_l1In.f (rd x1 x5) ((rd_IVar x436000 x5).f0) ((rd_IVar x436000 x5).f1)).bind fun t439 => (if t439 = true then (spec_l2In.l0 k x1 (wrap64 (x5 + 1)) x436000 x436001) else (some false))) else (none)) else (none)) else (some true)
def spec_l2In.f (k : Nat) (l0_0 : List (IVar)) (l0_1 : List (IRule)) (l1 : List Int) : Option (Bool) := if (l1.length : Int) = (l0_0.length : Int) then (spec_l2In.l0 k l1 0 l0_0 l0_1) else (some false)
def spec_InRange.f (k : Nat) (l0_0 : List (IVar)) (l0_1 : List (IRule)) (l1 : List Int) : Option (Bool) := (spec_SystemValid.f k l0_0 l0_1).bind fun t441 => (if t441 = true then ((spec_l2In.f k l0_0 l0_1 l1).bind fun t442 => (some t442)) else (some false))
def impl_inRange.l0 : Nat → List Int → List (IVar) → Int → Int → Option (Bool)
  | 0, _, _, _, _ => none
  | k + 1, x1, x14, x15, x16 => if x16 < x15 then (if 0 ≤ x16 then (if x16 < (x14.length : Int) then (if x16 < (x1.length : Int) then ((impl_in.f (rd x1 x16) ((rd_IVar x14 x16).f0) ((rd_IVar x14 x16).f1)).bind fun t455 => (if t455 = true then (impl_inRange.l0 k x1 x14 x15 (wrap64 (x16 + 1))) else (some false))) else (none)) else (none)) else (none)) else (some true)
def impl_inRange.f (k : Nat) (l0_0 : List (IVar)) (l0_1 : List (IRule)) (l1 : List Int) : Option (Bool) := if (l1.length : Int) = (l0_0.length : Int) then (impl_inRange.l0 k l1 l0_0 (l0_0.length : Int) 0) else (some false)
def impl_InRange.f (k : Nat) (l0_0 : List (IVar)) (l0_1 : List (IRule)) (l1 : List Int) : Option (Bool) := (impl_SystemValid.f k l0_0 l0_1).bind fun t457 => (if t457 = true then ((impl_inRange.f k l0_0 l0_1 l1).bind fun t458 => (some t458)) else (some false))
def spec_l6Value.l0 : Nat → Int → List Int → Int → Option (List Int)
  | 0, _, _, _ => none
  | k + 1, x0, x5, x6 => if x6 ≥ 0 then (if 0 ≤ x6 then (if x5.length < 17592186044416 then (spec_l6Value.l0 k x0 (x5 ++ [Int.tmod (shr .i64 x0 x6) 2]) (wrap64 (x6 - 1))) else (none)) else (none)) else (some x5)
def spec_l6Value.f (k : Nat) (a0 : Int) (a1 : Int) : Option (List Int) := spec_l6Value.l0 k a0 (([] : List Int)) (wrap64 (a1 - 1))
theorem spec_l6Value.mono_l : ∀ k, (∀ y0 y1 y2, LeO (spec_l6Value.l0 k y0 y1 y2) (spec_l6Value.l0 (k + 1) y0 y1 y2))
  | 0 => fun _ _ _ r h => by simp [spec_l6Value.l0] at h
  | k + 1 => by
    have ih0 := spec_l6Value.mono_l k
    · intro y0 y1 y2
      unfold spec_l6Value.l0
      repeat' first
      | (with_reducible exact ih0 _ _ _)
      | (with_reducible exact LeO.refl _)
      | (with_reducible exact LeO.none _)
      | (with_reducible refine LeO.ite ?_ ?_)
      | (with_reducible refine LeO.bind ?_ (fun _ => ?_))
      | exact ih0 _ _ _
      | exact LeO.none _
      | refine LeO.ite ?_ ?_
      | refine LeO.bind ?_ (fun _ => ?_)
theorem spec_l6Value.mono : ∀ a0 a1 k, LeO (spec_l6Value.f k a0 a1) (spec_l6Value.f (k + 1) a0 a1) := by
  intro a0 a1 k
  have ih0 := spec_l6Value.mono_l k
  unfold spec_l6Value.f
  repeat' first
      | (with_reducible exact ih0 _ _ _)
      | (with_reducible exact LeO.refl _)
      | (with_reducible exact LeO.none _)
      | (with_reducible refine LeO.ite ?_ ?_)
      | (with_reducible refine LeO.bind ?_ (fun _ => ?_))
      | exact ih0 _ _ _
      | exact LeO.none _
      | refine LeO.ite ?_ ?_
      | refine LeO.bind ?_ (fun _ => ?_)
mutual
def spec_l6State.l0 : Nat → List Int → List Int → List Int → Int → List (IVar) → List (IRule) → Option (List Int)
  | 0, _, _, _, _, _, _ => none
  | k + 1, x1, x5, x6, x7, x619000, x619001 => if x7 < (x1.length : Int) then (if 0 ≤ x7 then (if x7 < (x619000.length : Int) then (if x7 < (x6.length : Int) then ((spec_l6Value.f k (wrap64 ((rd x1 x7) - ((rd_IVar x619000 x7).f0))) (rd x6 x7)).bind fun t628 => (spec_l6State.l1 k x1 x5 x6 x7 t628 0 x619000 x619001)) else (none)) else (none)) else (none)) else (some x5)
def spec_l6State.l1 : Nat → List Int → List Int → List Int → Int → List Int → Int → List (IVar) → List (IRule) → Option (List Int)
  | 0, _, _, _, _, _, _, _, _ => none
  | k + 1, x1, x5, x6, x7, x8, x9, x619000, x619001 => if x9 < (x8.length : Int) then (if 0 ≤ x9 then (if x5.length < 17592186044416 then (spec_l6State.l1 k x1 (x5 ++ [rd x8 x9]) x6 x7 x8 (wrap64 (x9 + 1)) x619000 x619001) else (none)) else (none)) else (spec_l6State.l0 k x1 x5 x6 (wrap64 (x7 + 1)) x619000 x619001)
end
def spec_l6State.f (k : Nat) (l0_0 : List (IVar)) (l0_1 : List (IRule)) (l1 : List Int) : Option (List Int) := (spec_l6Widths.f k l0_0 l0_1).bind fun t622 => (spec_l6State.l0 k l1 (([] : List Int)) t622 0 l0_0 l0_1)
def impl_valueBits.l0 : Nat → Int → Int → List Int → Int → Int → Option (List Int)
  | 0, _, _, _, _, _ => none
  | k + 1, x0, x1, x5, x10, x11 => if x11 < x10 then (if 0 ≤ (wrap64 ((wrap64 (x1 - 1)) - x11)) then (if 0 ≤ x11 then (if x11 < (x5.length : Int) then (impl_valueBits.l0 k x0 x1 (x5.set (x11 : Int).toNat (Go.bits .and .i64 (shr .i64 x0 (wrap64 ((wrap64 (x1 - 1)) - x11))) 1)) x10 (wrap64 (x11 + 1))) else (none)) else (none)) else (none)) else (some x5)
def impl_valueBits.f (k : Nat) (a0 : Int) (a1 : Int) : Option (List Int) := if 0 ≤ a1 then (if (a1 : Int).toNat ≤ 35184372088832 then ((some (List.replicate (a1 : Int).toNat 0 : List Int)).bind fun y646 => (impl_valueBits.l0 k a0 a1 y646 (y646.length : Int) 0)) else (none)) else (none)
theorem impl_valueBits.mono_l : ∀ k, (∀ y0 y1 y2 y3 y4, LeO (impl_valueBits.l0 k y0 y1 y2 y3 y4) (impl_valueBits.l0 (k + 1) y0 y1 y2 y3 y4))
  | 0 => fun _ _ _ _ _ r h => by simp [impl_valueBits.l0] at h
  | k + 1 => by
    have ih0 := impl_valueBits.mono_l k
    · intro y0 y1 y2 y3 y4
      unfold impl_valueBits.l0
      repeat' first
      | (with_reducible exact ih0 _ _ _ _ _)
      | (with_reducible exact LeO.refl _)
      | (with_reducible exact LeO.none _)
      | (with_reducible refine LeO.ite ?_ ?_)
      | (with_reducible refine LeO.bind ?_ (fun _ => ?_))
      | exact ih0 _ _ _ _ _
      | exact LeO.none _
      | refine LeO.ite ?_ ?_
      | refine LeO.bind ?_ (fun _ => ?_)
theorem impl_valueBits.mono : ∀ a0 a1 k, LeO (impl_valueBits.f k a0 a1) (impl_valueBits.f (k + 1) a0 a1) := by
  intro a0 a1 k
  have ih0 := impl_valueBits.mono_l k
  unfold impl_valueBits.f
  repeat' first
      | (with_reducible exact ih0 _ _ _ _ _)
      | (with_reducible exact LeO.refl _)
      | (with_reducible exact LeO.none _)
      | (with_reducible refine LeO.ite ?_ ?_)
      | (with_reducible refine LeO.bind ?_ (fun _ => ?_))
      | exact ih0 _ _ _ _ _
      | exact LeO.none _
      | refine LeO.ite ?_ ?_
      | refine LeO.bind ?_ (fun _ => ?_)
def impl_stateBits.l0 : Nat → List Int → List Int → List Int → Int → Int → List (IVar) → List (IRule) → Option (List Int)
  | 0, _, _, _, _, _, _, _ => none
  | k + 1, x1, x5, x9, x10, x11, x651000, x651001 => if x11 < x10 then (if 0 ≤ x11 then (if x11 < (x9.length : Int) then (if x11 < (x1.length : Int) then (if x11 < (x651000.length : Int) then ((impl_valueBits.f k (wrap64 ((rd x1 x11) - ((rd_IVar x651000 x11).f0))) (rd x9 x11)).bind fun t657 => (if x5.length + t657.length < 17592186044416 then (impl_stateBits.l0 k x1 (x5 ++ t657) x9 x10 (wrap64 (x11 + 1)) x651000 x651001) else (none))) else (none)) else (none)) else (none)) else (none)) else ((impl_clone_int.f x5).bind fun t663 => (some t663))
def impl_stateBits.f (k : Nat) (l0_0 : List (IVar)) (l0_1 : List (IRule)) (l1 : List Int) : Option (List Int) := (impl_bitsOf.f k l0_0 l0_1).bind fun t651 => (impl_stateBits.l0 k l1 ([] : List Int) t651 (t651.length : Int) 0 l0_0 l0_1)
def spec_StateBits.f (k : Nat) (l0_0 : List (IVar)) (l0_1 : List (IRule)) (l1 : List Int) : Option (List Int) := (spec_InRange.f k l0_0 l0_1 l1).bind fun t723 => (if t723 = true then ((spec_l6State.f k l0_0 l0_1 l1).bind fun t724 => (some t724)) else (some ([] : List Int)))
def impl_StateBits.f (k : Nat) (l0_0 : List (IVar)) (l0_1 : List (IRule)) (l1 : List Int) : Option (List Int) := (impl_InRange.f k l0_0 l0_1 l1).bind fun t728 => (if t728 = true then ((impl_stateBits.f k l0_0 l0_1 l1).bind fun t729 => (some t729)) else (some ([] : List Int)))
end Go.Proofs.Ytoofhjflfpccdaa.PA
