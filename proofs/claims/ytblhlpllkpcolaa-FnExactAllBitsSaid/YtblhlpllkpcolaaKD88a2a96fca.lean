/- Types and the Lean functions that the walks are told against. No conditions. -/
import Derived.Test.YtblhlpllkpcolaaProg
import Derived.Below
import Derived.Deep.Draws
import Derived.Deep.AppendLies
import Derived.Maps.AppendAt
import Derived.OwnWalk
import Derived.Laws.BytesArg
import Derived.Laws.MakeOwn
import Derived.Laws.OwnMore
import Derived.Deep.OwnRows
import Derived.Tactics
import Derived.Lib.ConvBytes
import Derived.Laws.Slices
import Derived.WalkKit
import Derived.KernelRfl
import Derived.RowKit3
import Derived.Deep.LoopGhost
import Derived.Deep.QuietTactic
import Derived.BigQuiet
import Derived.WideLaws
import Derived.Deep.DeepCutAuto
import Derived.Deep.CutBlock
import Derived.Deep.RegionHeld3
import Derived.Laws.Rows
import Derived.Lib.AppendStr
import Derived.ArgAppend
import Derived.Laws.IdiomCopy
import Derived.OrdersHeld
import Derived.Laws.BitsLemmas
import Derived.RowKit
import Derived.Laws.StructEq
import Derived.Lib.SliceRun
import Derived.WalkSpells
import Derived.ChangeArms
import Derived.ChangeSlices
import Derived.Deep.Slices
import Derived.Test.YtblhlpllkpcolaaKDa4fe44dccf
import Derived.Test.YtblhlpllkpcolaaKW93d96275bc
namespace Go.Proofs.Ytblhlpllkpcolaa.PA
open Go.RowKit Go.Proofs.YtblhlpllkpcolaaW.PrintWords Go.Proofs.YtblhlpllkpcolaaW.PrintLast Go.Proofs.YtblhlpllkpcolaaW.PrintMore
attribute [local go_sem] max2_int min2_int max_two min_two max_three min_three max_four min_four   -- for this text's walks alone
set_option linter.unusedVariables false
set_option linter.unusedSimpArgs false
def spec_FirstState.l0 : Nat → List Int → Int → List (IVar) → List (IRule) → Option (List Int)
  | 0, _, _, _, _ => none
  | k + 1, x3, x4, x529000, x529001 => if x4 < (x529000.length : Int) then ((spec_SystemValid.f k x529000 x529001).bind fun t532 => (if t532 = true then (if 0 ≤ x4 then (if x3.length < 17592186044416 then (spec_FirstState.l0 k (x3 ++ [(rd_IVar x529000 x4).f2]) (wrap64 (x4 + 1)) x529000 x529001) else (none)) else (none)) else (some x3))) else (some x3)
def spec_FirstState.f (k : Nat) (l0_0 : List (IVar)) (l0_1 : List (IRule)) : Option (List Int) := spec_FirstState.l0 k (([] : List Int)) 0 l0_0 l0_1
def laws_eqIntSS.l0 : Nat → List (List Int) → List (List Int) → Int → Option (Bool)
  | 0, _, _, _ => none
  | k + 1, x0, x1, x5 => if x5 < (x0.length : Int) then (if 0 ≤ x5 then (if x5 < (x1.length : Int) then ((laws_eqIntS.f k (rd_Lint x0 x5) (rd_Lint x1 x5)).bind fun t601 => (if t601 = true then (laws_eqIntSS.l0 k x0 x1 (wrap64 (x5 + 1))) else (some false))) else (none)) else (none)) else (some true)
def laws_eqIntSS.f (k : Nat) (l0 : List (List Int)) (l1 : List (List Int)) : Option (Bool) := if (l0.length : Int) = (l1.length : Int) then (laws_eqIntSS.l0 k l0 l1 0) else (some false)
def spec_l6Many.l0 : Nat → Int → Int → Int → Option (Int)
  | 0, _, _, _ => none
  | k + 1, x0, x3, x4 => if x4 < x0 then (spec_l6Many.l0 k x0 (wrap64 (x3 + 1)) (wrap64 (x4 * 2))) else (some x3)
def spec_l6Many.f (k : Nat) (a0 : Int) : Option (Int) := spec_l6Many.l0 k a0 0 1
def spec_l6Widths.l0 : Nat → List Int → Int → List (IVar) → List (IRule) → Option (List Int)
  | 0, _, _, _, _ => none
  | k + 1, x3, x4, x723000, x723001 => if x4 < (x723000.length : Int) then (if 0 ≤ x4 then ((spec_l6Many.f k (wrap64 ((wrap64 (((rd_IVar x723000 x4).f1) - ((rd_IVar x723000 x4).f0))) + 1))).bind fun t728 => (if x3.length < 17592186044416 then (spec_l6Widths.l0 k (x3 ++ [t728]) (wrap64 (x4 + 1)) x723000 x723001) else (none))) else (none)) else (some x3)
def spec_l6Widths.f (k : Nat) (l0_0 : List (IVar)) (l0_1 : List (IRule)) : Option (List Int) := spec_l6Widths.l0 k (([] : List Int)) 0 l0_0 l0_1
def impl_bitsFor.l0 : Nat → Int → Int → Option (Int)
  | 0, _, _ => none
  | k + 1, x0, x3 => if 0 ≤ x3 then (if (shl .i64 1 x3) < x0 then (impl_bitsFor.l0 k x0 (wrap64 (x3 + 1))) else (some x3)) else (none)
def impl_bitsFor.f (k : Nat) (a0 : Int) : Option (Int) := impl_bitsFor.l0 k a0 0
def impl_bitsOf.l0 : Nat → List Int → List (IVar) → Int → Int → Option (List Int)
  | 0, _, _, _, _ => none
  | k + 1, x3, x7, x8, x9 => if x9 < x8 then (if 0 ≤ x9 then (if x9 < (x7.length : Int) then ((impl_bitsFor.f k (wrap64 ((wrap64 (((rd_IVar x7 x9).f1) - ((rd_IVar x7 x9).f0))) + 1))).bind fun t756 => (if x3.length < 17592186044416 then (impl_bitsOf.l0 k (x3 ++ [t756]) x7 x8 (wrap64 (x9 + 1))) else (none))) else (none)) else (none)) else ((impl_clone_int.f x3).bind fun t760 => (some t760))
def impl_bitsOf.f (k : Nat) (l0_0 : List (IVar)) (l0_1 : List (IRule)) : Option (List Int) := impl_bitsOf.l0 k ([] : List Int) l0_0 (l0_0.length : Int) 0
def laws_markIntS.l0 : Nat → List Int → Int → Int → Option (Int × List Int)
  | 0, _, _, _ => none
  | k + 1, x0, x1, x5 => if x5 < (x0.length : Int) then (if 0 ≤ x5 then (laws_markIntS.l0 k (x0.set (x5 : Int).toNat x1) (wrap64 (x1 + 1)) (wrap64 (x5 + 1))) else (none)) else (some (x1, x0))
def laws_markIntS.f (k : Nat) (l0 : List Int) (a1 : Int) : Option (Int × List Int) := laws_markIntS.l0 k l0 a1 0
def laws_heldIntS.l0 : Nat → List Int → Int → Int → Option (Int)
  | 0, _, _, _ => none
  | k + 1, x0, x1, x5 => if x5 < (x0.length : Int) then (if 0 ≤ x5 then (if (rd x0 x5) = x1 then (laws_heldIntS.l0 k x0 (wrap64 (x1 + 1)) (wrap64 (x5 + 1))) else (some (-1))) else (none)) else (some x1)
def laws_heldIntS.f (k : Nat) (l0 : List Int) (a1 : Int) : Option (Int) := laws_heldIntS.l0 k l0 a1 0
def spec_SizeOf.l0 : Nat → Int → Int → List (IVar) → List (IRule) → Option (Int)
  | 0, _, _, _, _ => none
  | k + 1, x3, x4, x860000, x860001 => if x4 < (x860000.length : Int) then (if 0 ≤ x4 then (spec_SizeOf.l0 k (wrap64 (x3 * (wrap64 ((wrap64 (((rd_IVar x860000 x4).f1) - ((rd_IVar x860000 x4).f0))) + 1)))) (wrap64 (x4 + 1)) x860000 x860001) else (none)) else (some x3)
def spec_SizeOf.f (k : Nat) (l0_0 : List (IVar)) (l0_1 : List (IRule)) : Option (Int) := (spec_SystemValid.f k l0_0 l0_1).bind fun t860 => (if t860 = true then (spec_SizeOf.l0 k 1 0 l0_0 l0_1) else (some 0))
mutual
def spec_SetValid.l0 : Nat → List Int → Int → Int → Option (Bool)
  | 0, _, _, _ => none
  | k + 1, x1, x5, x6 => if x6 < (x1.length : Int) then (if 0 ≤ x6 then ((spec_l1In.f (rd x1 x6) 0 (wrap64 (x5 - 1))).bind fun t866 => (if t866 = true then (if x6 > 0 then (if 0 ≤ (wrap64 (x6 - 1)) then (if (wrap64 (x6 - 1)) < (x1.length : Int) then (spec_SetValid.j1 k x1 x5 x6 (decide ((rd x1 x6) ≤ (rd x1 (wrap64 (x6 - 1)))))) else (none)) else (none)) else (spec_SetValid.j1 k x1 x5 x6 false)) else (spec_SetValid.j1 k x1 x5 x6 true))) else (none)) else (some (decide (x5 > 0)))
def spec_SetValid.j1 : Nat → List Int → Int → Int → Bool → Option (Bool)
  | 0, _, _, _, _ => none
  | k + 1, x1, x5, x6, x38 => if x38 = true then (some false) else (spec_SetValid.l0 k x1 x5 (wrap64 (x6 + 1)))
end
def spec_SetValid.f (k : Nat) (l0_0 : List (IVar)) (l0_1 : List (IRule)) (l1 : List Int) : Option (Bool) := (spec_SizeOf.f k l0_0 l0_1).bind fun t864 => (spec_SetValid.l0 k l1 t864 0)
def spec_l6Value.l0 : Nat → Int → List Int → Int → Option (List Int)
  | 0, _, _, _ => none
  | k + 1, x0, x5, x6 => if x6 ≥ 0 then (if 0 ≤ x6 then (if x5.length < 17592186044416 then (spec_l6Value.l0 k x0 (x5 ++ [Int.tmod (shr .i64 x0 x6) 2]) (wrap64 (x6 - 1))) else (none)) else (none)) else (some x5)
def spec_l6Value.f (k : Nat) (a0 : Int) (a1 : Int) : Option (List Int) := spec_l6Value.l0 k a0 (([] : List Int)) (wrap64 (a1 - 1))
theorem spec_l6Value.mono_l : ∀ k, (∀ y0 y1 y2, LeO (spec_l6Value.l0 k y0 y1 y2) (spec_l6Value.l0 (k + 1) y0 y1 y2))
  | 0 => fun _ _ _ r h => by simp [spec_l6Value.l0] at h
  | k + 1 => by
    have ih0 := spec_l6Value.mono_l k
    · intro y0 y1 y2
      unfold spec_l6Value.l0
      repeat' first
      | (with_reducible exact ih0 _ _ _)
      | (with_reducible exact LeO.refl _)
      | (with_reducible exact LeO.none _)
      | (with_reducible refine LeO.ite ?_ ?_)
      | (with_reducible refine LeO.bind ?_ (fun _ => ?_))
      | exact ih0 _ _ _
      | exact LeO.none _
      | refine LeO.ite ?_ ?_
      | refine LeO.bind ?_ (fun _ => ?_)
theorem spec_l6Value.mono : ∀ a0 a1 k, LeO (spec_l6Value.f k a0 a1) (spec_l6Value.f (k + 1) a0 a1) := by
  intro a0 a1 k
  have ih0 := spec_l6Value.mono_l k
  unfold spec_l6Value.f
  repeat' first
      | (with_reducible exact ih0 _ _ _)
      | (with_reducible exact LeO.refl _)
      | (with_reducible exact LeO.none _)
      | (with_reducible refine LeO.ite ?_ ?_)
      | (with_reducible refine LeO.bind ?_ (fun _ => ?_))
      | exact ih0 _ _ _
      | exact LeO.none _
      | refine LeO.ite ?_ ?_
      | refine LeO.bind ?_ (fun _ => ?_)
mutual
def spec_l6State.l0 : Nat → List Int → List Int → List Int → Int → List (IVar) → List (IRule) → Option (List Int)
  | 0, _, _, _, _, _, _ => none
  | k + 1, x1, x5, x6, x7, x876000, x876001 => if x7 < (x1.length : Int) then (if 0 ≤ x7 then (if x7 < (x876000.length : Int) then (if x7 < (x6.length : Int) then ((spec_l6Value.f k (wrap64 ((rd x1 x7) - ((rd_IVar x876000 x7).f0))) (rd x6 x7)).bind fun t885 => (spec_l6State.l1 k x1 x5 x6 x7 t885 0 x876000 x876001)) else (none)) else (none)) else (none)) else (some x5)
def spec_l6State.l1 : Nat → List Int → List Int → List Int → Int → List Int → Int → List (IVar) → List (IRule) → Option (List Int)
  | 0, _, _, _, _, _, _, _, _ => none
  | k + 1, x1, x5, x6, x7, x8, x9, x876000, x876001 => if x9 < (x8.length : Int) then (if 0 ≤ x9 then (if x5.length < 17592186044416 then (spec_l6State.l1 k x1 (x5 ++ [rd x8 x9]) x6 x7 x8 (wrap64 (x9 + 1)) x876000 x876001) else (none)) else (none)) else (spec_l6State.l0 k x1 x5 x6 (wrap64 (x7 + 1)) x876000 x876001)
end
def spec_l6State.f (k : Nat) (l0_0 : List (IVar)) (l0_1 : List (IRule)) (l1 : List Int) : Option (List Int) := (spec_l6Widths.f k l0_0 l0_1).bind fun t879 => (spec_l6State.l0 k l1 (([] : List Int)) t879 0 l0_0 l0_1)
def spec_l3Copy.l0 : Nat → List Int → List Int → Int → Option (List Int)
  | 0, _, _, _ => none
  | k + 1, x0, x3, x4 => if x4 < (x0.length : Int) then (if 0 ≤ x4 then (if x3.length < 17592186044416 then (spec_l3Copy.l0 k x0 (x3 ++ [rd x0 x4]) (wrap64 (x4 + 1))) else (none)) else (none)) else (some x3)
def spec_l3Copy.f (k : Nat) (l0 : List Int) : Option (List Int) := spec_l3Copy.l0 k l0 (([] : List Int)) 0
def spec_l4State.l0 : Nat → Int → List Int → Int → List (IVar) → List (IRule) → Option (List Int)
  | 0, _, _, _, _, _ => none
  | k + 1, x1, x5, x6, x900000, x900001 => if x6 ≥ 0 then (if 0 ≤ x6 then (if x6 < (x900000.length : Int) then (if (wrap64 ((wrap64 (((rd_IVar x900000 x6).f1) - ((rd_IVar x900000 x6).f0))) + 1)) = 0 then (none) else (if x6 < (x5.length : Int) then (spec_l4State.l0 k (wrap64 (Int.tdiv x1 (wrap64 ((wrap64 (((rd_IVar x900000 x6).f1) - ((rd_IVar x900000 x6).f0))) + 1)))) (x5.set (x6 : Int).toNat (wrap64 (((rd_IVar x900000 x6).f0) + (Int.tmod x1 (wrap64 ((wrap64 (((rd_IVar x900000 x6).f1) - ((rd_IVar x900000 x6).f0))) + 1)))))) (wrap64 (x6 - 1)) x900000 x900001) else (none))) else (none)) else (none)) else (some x5)
def spec_l4State.f (k : Nat) (l0_0 : List (IVar)) (l0_1 : List (IRule)) (a1 : Int) : Option (List Int) := (spec_FirstState.f k l0_0 l0_1).bind fun t900 => ((spec_l3Copy.f k t900).bind fun t903 => (spec_l4State.l0 k a1 t903 (wrap64 ((l0_0.length : Int) - 1)) l0_0 l0_1))
mutual
def spec_AllBits.l0 : Nat → List Int → List (List Int) → Int → List (IVar) → List (IRule) → Option ((List (List Int)))
  | 0, _, _, _, _, _ => none
  | k + 1, x1, x5, x6, x911000, x911001 => if x6 < (x1.length : Int) then ((spec_SetValid.f k x911000 x911001 x1).bind fun t914 => (spec_AllBits.j1 k x1 x5 x6 t914 x911000 x911001)) else (spec_AllBits.j1 k x1 x5 x6 false x911000 x911001)
def spec_AllBits.j1 : Nat → List Int → List (List Int) → Int → Bool → List (IVar) → List (IRule) → Option ((List (List Int)))
  | 0, _, _, _, _, _, _ => none
  | k + 1, x1, x5, x6, x16, x911000, x911001 => if x16 = true then (if 0 ≤ x6 then (if x6 < (x1.length : Int) then ((spec_l4State.f k x911000 x911001 (rd x1 x6)).bind fun t916 => ((spec_l6State.f k x911000 x911001 t916).bind fun t919 => (if x5.length < 5864062014805 then (spec_AllBits.l0 k x1 (x5 ++ [t919]) (wrap64 (x6 + 1)) x911000 x911001) else (none)))) else (none)) else (none)) else (some x5)
end
def spec_AllBits.f (k : Nat) (l0_0 : List (IVar)) (l0_1 : List (IRule)) (l1 : List Int) : Option ((List (List Int))) := spec_AllBits.l0 k l1 (([] : List (List Int))) 0 l0_0 l0_1
mutual
def impl_setOk.l0 : Nat → List Int → Int → List Int → Int → Int → Option (Bool)
  | 0, _, _, _, _, _ => none
  | k + 1, x0, x1, x7, x8, x9 => if x9 < x8 then (if 0 ≤ x9 then (if x9 < (x7.length : Int) then ((impl_in.f (rd x7 x9) 0 (wrap64 (x1 - 1))).bind fun t926 => (if t926 = true then (if x9 > 0 then (if 0 ≤ (wrap64 (x9 - 1)) then (if (wrap64 (x9 - 1)) < (x0.length : Int) then (impl_setOk.j1 k x0 x1 x7 x8 x9 (decide ((rd x0 (wrap64 (x9 - 1))) ≥ (rd x7 x9)))) else (none)) else (none)) else (impl_setOk.j1 k x0 x1 x7 x8 x9 false)) else (impl_setOk.j1 k x0 x1 x7 x8 x9 true))) else (none)) else (none)) else (some true)
def impl_setOk.j1 : Nat → List Int → Int → List Int → Int → Int → Bool → Option (Bool)
  | 0, _, _, _, _, _, _ => none
  | k + 1, x0, x1, x7, x8, x9, x31 => if x31 = true then (some false) else (impl_setOk.l0 k x0 x1 x7 x8 (wrap64 (x9 + 1)))
end
def impl_setOk.f (k : Nat) (l0 : List Int) (a1 : Int) : Option (Bool) := impl_setOk.l0 k l0 a1 l0 (l0.length : Int) 0
def impl_SetValid.f (k : Nat) (l0_0 : List (IVar)) (l0_1 : List (IRule)) (l1 : List Int) : Option (Bool) := (impl_SystemValid.f k l0_0 l0_1).bind fun t929 => (if t929 = true then ((impl_size.f k l0_0).bind fun t930 => ((impl_setOk.f k l1 t930).bind fun t931 => (some t931))) else (some false))
def impl_clone_Lint.f (l0 : List (List Int)) : Option (List (List Int)) := if l0.length ≤ 5864062014805 then some l0 else none
def impl_valueBits.l0 : Nat → Int → Int → List Int → Int → Int → Option (List Int)
  | 0, _, _, _, _, _ => none
  | k + 1, x0, x1, x5, x10, x11 => if x11 < x10 then (if 0 ≤ (wrap64 ((wrap64 (x1 - 1)) - x11)) then (if 0 ≤ x11 then (if x11 < (x5.length : Int) then (impl_valueBits.l0 k x0 x1 (x5.set (x11 : Int).toNat (Go.bits .and .i64 (shr .i64 x0 (wrap64 ((wrap64 (x1 - 1)) - x11))) 1)) x10 (wrap64 (x11 + 1))) else (none)) else (none)) else (none)) else (some x5)
def impl_valueBits.f (k : Nat) (a0 : Int) (a1 : Int) : Option (List Int) := if 0 ≤ a1 then (if (a1 : Int).toNat ≤ 35184372088832 then ((some (List.replicate (a1 : Int).toNat 0 : List Int)).bind fun y932 => (impl_valueBits.l0 k a0 a1 y932 (y932.length : Int) 0)) else (none)) else (none)
theorem impl_valueBits.mono_l : ∀ k, (∀ y0 y1 y2 y3 y4, LeO (impl_valueBits.l0 k y0 y1 y2 y3 y4) (impl_valueBits.l0 (k + 1) y0 y1 y2 y3 y4))
  | 0 => fun _ _ _ _ _ r h => by simp [impl_valueBits.l0] at h
  | k + 1 => by
    have ih0 := impl_valueBits.mono_l k
    · intro y0 y1 y2 y3 y4
      unfold impl_valueBits.l0
      repeat' first
      | (with_reducible exact ih0 _ _ _ _ _)
      | (with_reducible exact LeO.refl _)
      | (with_reducible exact LeO.none _)
      | (with_reducible refine LeO.ite ?_ ?_)
      | (with_reducible refine LeO.bind ?_ (fun _ => ?_))
      | exact ih0 _ _ _ _ _
      | exact LeO.none _
      | refine LeO.ite ?_ ?_
      | refine LeO.bind ?_ (fun _ => ?_)
theorem impl_valueBits.mono : ∀ a0 a1 k, LeO (impl_valueBits.f k a0 a1) (impl_valueBits.f (k + 1) a0 a1) := by
  intro a0 a1 k
  have ih0 := impl_valueBits.mono_l k
  unfold impl_valueBits.f
  repeat' first
      | (with_reducible exact ih0 _ _ _ _ _)
      | (with_reducible exact LeO.refl _)
      | (with_reducible exact LeO.none _)
      | (with_reducible refine LeO.ite ?_ ?_)
      | (with_reducible refine LeO.bind ?_ (fun _ => ?_))
      | exact ih0 _ _ _ _ _
      | exact LeO.none _
      | refine LeO.ite ?_ ?_
      | refine LeO.bind ?_ (fun _ => ?_)
def impl_stateBits.l0 : Nat → List Int → List Int → List Int → Int → Int → List (IVar) → List (IRule) → Option (List Int)
  | 0, _, _, _, _, _, _, _ => none
  | k + 1, x1, x5, x9, x10, x11, x937000, x937001 => if x11 < x10 then (if 0 ≤ x11 then (if x11 < (x9.length : Int) then (if x11 < (x1.length : Int) then (if x11 < (x937000.length : Int) then ((impl_valueBits.f k (wrap64 ((rd x1 x11) - ((rd_IVar x937000 x11).f0))) (rd x9 x11)).bind fun t943 => (if x5.length + t943.length < 17592186044416 then (impl_stateBits.l0 k x1 (x5 ++ t943) x9 x10 (wrap64 (x11 + 1)) x937000 x937001) else (none))) else (none)) else (none)) else (none)) else (none)) else ((impl_clone_int.f x5).bind fun t949 => (some t949))
def impl_stateBits.f (k : Nat) (l0_0 : List (IVar)) (l0_1 : List (IRule)) (l1 : List Int) : Option (List Int) := (impl_bitsOf.f k l0_0 l0_1).bind fun t937 => (impl_stateBits.l0 k l1 ([] : List Int) t937 (t937.length : Int) 0 l0_0 l0_1)
def impl_stateAt.l0 : Nat → Int → List Int → Int → List (IVar) → List (IRule) → Option (List Int)
  | 0, _, _, _, _, _ => none
  | k + 1, x1, x5, x6, x953000, x953001 => if x6 ≥ 0 then (if 0 ≤ x6 then (if x6 < (x953000.length : Int) then (if (wrap64 ((wrap64 (((rd_IVar x953000 x6).f1) - ((rd_IVar x953000 x6).f0))) + 1)) = 0 then (none) else (if x6 < (x5.length : Int) then (impl_stateAt.l0 k (wrap64 (Int.tdiv x1 (wrap64 ((wrap64 (((rd_IVar x953000 x6).f1) - ((rd_IVar x953000 x6).f0))) + 1)))) (x5.set (x6 : Int).toNat (wrap64 (((rd_IVar x953000 x6).f0) + (Int.tmod x1 (wrap64 ((wrap64 (((rd_IVar x953000 x6).f1) - ((rd_IVar x953000 x6).f0))) + 1)))))) (wrap64 (x6 - 1)) x953000 x953001) else (none))) else (none)) else (none)) else (some x5)
def impl_stateAt.f (k : Nat) (l0_0 : List (IVar)) (l0_1 : List (IRule)) (a1 : Int) : Option (List Int) := if 0 ≤ (l0_0.length : Int) then (if ((l0_0.length : Int) : Int).toNat ≤ 35184372088832 then ((some (List.replicate ((l0_0.length : Int) : Int).toNat 0 : List Int)).bind fun y953 => (impl_stateAt.l0 k a1 y953 (wrap64 ((y953.length : Int) - 1)) l0_0 l0_1)) else (none)) else (none)
def impl_allBits.l0 : Nat → List (List Int) → List Int → Int → Int → List (IVar) → List (IRule) → Option ((List (List Int)))
  | 0, _, _, _, _, _, _ => none
  | k + 1, x5, x8, x9, x10, x960000, x960001 => if x10 < x9 then (if 0 ≤ x10 then (if x10 < (x8.length : Int) then ((impl_stateAt.f k x960000 x960001 (rd x8 x10)).bind fun t961 => ((impl_stateBits.f k x960000 x960001 t961).bind fun t964 => (if x5.length < 5864062014805 then (impl_allBits.l0 k (x5 ++ [t964]) x8 x9 (wrap64 (x10 + 1)) x960000 x960001) else (none)))) else (none)) else (none)) else ((impl_clone_Lint.f x5).bind fun t970 => (some t970))
def impl_allBits.f (k : Nat) (l0_0 : List (IVar)) (l0_1 : List (IRule)) (l1 : List Int) : Option ((List (List Int))) := impl_allBits.l0 k ([] : List (List Int)) l1 (l1.length : Int) 0 l0_0 l0_1
def impl_AllBits.f (k : Nat) (l0_0 : List (IVar)) (l0_1 : List (IRule)) (l1 : List Int) : Option ((List (List Int))) := (impl_SetValid.f k l0_0 l0_1 l1).bind fun t974 => (if t974 = true then ((impl_allBits.f k l0_0 l0_1 l1).bind fun t975 => (some t975)) else (some ([] : List (List Int))))
def laws_markIntSS.f (k : Nat) : List (List Int) → Int → Option (Int × List (List Int))
  | [], a => some (a, [])
  | x :: l, a => (laws_markIntS.f k x a).bind fun p => (laws_markIntSS.f k l p.1).bind fun q => some (q.1, p.2 :: q.2)
def laws_heldIntSS.l0 : Nat → List (List Int) → Int → Int → Option (Int)
  | 0, _, _, _ => none
  | k + 1, x0, x1, x5 => if x5 < (x0.length : Int) then (if 0 ≤ x5 then ((laws_heldIntS.f k (rd_Lint x0 x5) x1).bind fun t979 => (if t979 < 0 then (some (-1)) else (laws_heldIntSS.l0 k x0 t979 (wrap64 (x5 + 1))))) else (none)) else (some x1)
def laws_heldIntSS.f (k : Nat) (l0 : List (List Int)) (a1 : Int) : Option (Int) := laws_heldIntSS.l0 k l0 a1 0
end Go.Proofs.Ytblhlpllkpcolaa.PA
