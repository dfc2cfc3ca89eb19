/- Types and the Lean functions that the walks are told against. No conditions. -/
import Derived.Test.YtigbbefdndcmbaaProg
import Derived.Below
import Derived.Deep.Draws
import Derived.Deep.AppendLies
import Derived.Maps.AppendAt
import Derived.OwnWalk
import Derived.Laws.BytesArg
import Derived.Laws.MakeOwn
import Derived.Laws.OwnMore
import Derived.Deep.OwnRows
import Derived.Tactics
import Derived.Lib.ConvBytes
import Derived.Laws.Slices
import Derived.WalkKit
import Derived.KernelRfl
import Derived.RowKit3
import Derived.Deep.LoopGhost
import Derived.Deep.QuietTactic
import Derived.BigQuiet
import Derived.WideLaws
import Derived.Deep.DeepCutAuto
import Derived.Deep.CutBlock
import Derived.Deep.RegionHeld3
import Derived.Laws.Rows
import Derived.Lib.AppendStr
import Derived.ArgAppend
import Derived.Laws.IdiomCopy
import Derived.OrdersHeld
import Derived.Laws.BitsLemmas
import Derived.RowKit
import Derived.Laws.StructEq
import Derived.Lib.SliceRun
import Derived.WalkSpells
import Derived.ChangeArms
import Derived.ChangeSlices
import Derived.Deep.Slices
import Derived.Test.YtigbbefdndcmbaaKWf51dea6f29
namespace Go.Proofs.Ytigbbefdndcmbaa.PA
open Go.RowKit Go.Proofs.YtigbbefdndcmbaaW.PrintWords Go.Proofs.YtigbbefdndcmbaaW.PrintLast Go.Proofs.YtigbbefdndcmbaaW.PrintMore
attribute [local go_sem] max2_int min2_int max_two min_two max_three min_three max_four min_four   -- for this text's walks alone
set_option linter.unusedVariables false
set_option linter.unusedSimpArgs false
def spec_l1In.f (a0 : Int) (a1 : Int) (a2 : Int) : Option (Bool) := if a0 ≥ a1 then (some (decide (a0 ≤ a2))) else (some false)
def spec_l11Lit.f (a0 : Int) (a1 : Int) : Option (Bool) := if a0 = 0 then (some false) else ((spec_l1In.f a0 (wrap64 (-a1)) a1).bind fun t101 => (some t101))
def spec_l11Abs.f (a0 : Int) : Option (Int) := if a0 < 0 then (some (wrap64 (-a0))) else (some a0)
mutual
def spec_l11Clause.j2 : Nat → List Int → Int → List Int → Int → Int → Option ((List Int) × Bool)
  | 0, _, _, _, _, _ => none
  | k + 1, l0, a1, x6, x7, r1 => if 0 ≤ x7 then (if x7 < (l0.length : Int) then (if 0 ≤ r1 then (if r1 < (x6.length : Int) then (spec_l11Clause.l1 k (x6.set r1.toNat (rd l0 x7)) (wrap64 (x7 + 1)) l0 a1) else none) else none) else none) else none
def spec_l11Clause.l3 : Nat → List Int → Int → Int → List Int → Option ((List Int) × Bool)
  | 0, _, _, _, _ => none
  | k + 1, x9q4, x10q4, a1, x6 => if x10q4 ≤ a1 then (if 0 ≤ x10q4 then (if x10q4 < (x6.length : Int) then (if (rd x6 x10q4) ≠ 0 then (if 0 ≤ x10q4 then (if x10q4 < (x6.length : Int) then (if x9q4.length + 1 ≤ 1099511627776 then (spec_l11Clause.l3 k (x9q4 ++ [(rd x6 x10q4)]) (wrap64 (x10q4 + 1)) a1 x6) else none) else none) else none) else (spec_l11Clause.l3 k x9q4 (wrap64 (x10q4 + 1)) a1 x6)) else none) else none) else (some (x9q4, true))
def spec_l11Clause.l1 : Nat → List Int → Int → List Int → Int → Option ((List Int) × Bool)
  | 0, _, _, _, _ => none
  | k + 1, x6, x7, l0, a1 => if x7 < (l0.length : Int) then (if 0 ≤ x7 then (if x7 < (l0.length : Int) then ((spec_l11Abs.f (rd l0 x7)).bind fun r1 => if 0 ≤ r1 then (if r1 < (x6.length : Int) then (if (rd x6 r1) ≠ 0 then (if 0 ≤ r1 then (if r1 < (x6.length : Int) then (if 0 ≤ x7 then (if x7 < (l0.length : Int) then (if (rd x6 r1) ≠ (rd l0 x7) then (some (([] : List Int), false)) else (spec_l11Clause.j2 k l0 a1 x6 x7 r1)) else none) else none) else none) else none) else (spec_l11Clause.j2 k l0 a1 x6 x7 r1)) else none) else none) else none) else none) else (spec_l11Clause.l3 k ([] : List Int) 1 a1 x6)
end
def spec_l11Clause.f (k : Nat) (l0 : List Int) (a1 : Int) : Option ((List Int) × Bool) := if 0 ≤ (wrap64 (a1 + 1)) then (if (wrap64 (a1 + 1)) ≤ 1099511627776 then (spec_l11Clause.l1 k (List.replicate (wrap64 (a1 + 1)).toNat (0 : Int)) 0 l0 a1) else none) else none
def laws_toIntS.l0 : Nat → List Int → List Int → Int → Option (List Int)
  | 0, _, _, _ => none
  | k + 1, x0, x3, x4 => if x4 < (x0.length : Int) then (if 0 ≤ x4 then (if x4 < (x3.length : Int) then (laws_toIntS.l0 k x0 (x3.set (x4 : Int).toNat (rd x0 x4)) (wrap64 (x4 + 1))) else (none)) else (none)) else (some x3)
def laws_toIntS.f (k : Nat) (l0 : List Int) : Option (List Int) := if 0 ≤ (l0.length : Int) then (if ((l0.length : Int) : Int).toNat ≤ 35184372088832 then (laws_toIntS.l0 k l0 (List.replicate ((l0.length : Int) : Int).toNat 0) 0) else (none)) else (none)
def impl_in.f (a0 : Int) (a1 : Int) (a2 : Int) : Option (Bool) := if a0 ≥ a1 then (some (decide (a0 ≤ a2))) else (some false)
def impl_clone_int.f (l0 : List Int) : Option (List Int) := if l0.length ≤ 35184372088832 then some l0 else none
def cmp_Or_int.l0 : Nat → Int → List Int → Int → Int → Option (Int)
  | 0, _, _, _, _ => none
  | k + 1, x3, x6, x7, x8 => if x8 < x7 then (if 0 ≤ x8 then (if x8 < (x6.length : Int) then (if (rd x6 x8) = x3 then (cmp_Or_int.l0 k x3 x6 x7 (wrap64 (x8 + 1))) else (some (rd x6 x8))) else (none)) else (none)) else (some x3)
def cmp_Or_int.f (k : Nat) (l0 : List Int) : Option (Int) := cmp_Or_int.l0 k 0 l0 (l0.length : Int) 0
def cmp_isNaN_int.f (a0 : Int) : Option (Bool) := some (a0 != a0)
def cmp_Compare_int.f (k : Nat) (a0 : Int) (a1 : Int) : Option Int := (cmp_isNaN_int.f a0).bind fun r1 => (cmp_isNaN_int.f a1).bind fun r2 => if r1 = true then (if r2 = true then (some 0) else (some (-1))) else (if r2 = true then (some 1) else (if a0 < a1 then (some (-1)) else (if a0 > a1 then (some 1) else (some 0))))
def impl_atomOf.f (a0 : Int) : Option (Int) := some (mx a0 (wrap64 (-a0)))
def impl_clauseOf_1.f (k : Nat) (a0 : Int) (a1 : Int) : Option Int := (impl_atomOf.f a0).bind fun r1 => (impl_atomOf.f a1).bind fun r2 => (cmp_Compare_int.f k r1 r2).bind fun r3 => (cmp_Compare_int.f k a0 a1).bind fun r4 => (cmp_Or_int.f k [r3, r4]).bind fun r5 => some r5
def laws_eqIntS.l0 : Nat → List Int → List Int → Int → Option (Bool)
  | 0, _, _, _ => none
  | k + 1, x0, x1, x5 => if x5 < (x0.length : Int) then (if 0 ≤ x5 then (if x5 < (x1.length : Int) then (if (rd x0 x5) = (rd x1 x5) then (laws_eqIntS.l0 k x0 x1 (wrap64 (x5 + 1))) else (some false)) else (none)) else (none)) else (some true)
def laws_eqIntS.f (k : Nat) (l0 : List Int) (l1 : List Int) : Option (Bool) := if (l0.length : Int) = (l1.length : Int) then (laws_eqIntS.l0 k l0 l1 0) else (some false)
def laws_markIntS.l0 : Nat → List Int → Int → Int → Option (Int × List Int)
  | 0, _, _, _ => none
  | k + 1, x0, x1, x5 => if x5 < (x0.length : Int) then (if 0 ≤ x5 then (laws_markIntS.l0 k (x0.set (x5 : Int).toNat x1) (wrap64 (x1 + 1)) (wrap64 (x5 + 1))) else (none)) else (some (x1, x0))
def laws_markIntS.f (k : Nat) (l0 : List Int) (a1 : Int) : Option (Int × List Int) := laws_markIntS.l0 k l0 a1 0
def laws_heldIntS.l0 : Nat → List Int → Int → Int → Option (Int)
  | 0, _, _, _ => none
  | k + 1, x0, x1, x5 => if x5 < (x0.length : Int) then (if 0 ≤ x5 then (if (rd x0 x5) = x1 then (laws_heldIntS.l0 k x0 (wrap64 (x1 + 1)) (wrap64 (x5 + 1))) else (some (-1))) else (none)) else (some x1)
def laws_heldIntS.f (k : Nat) (l0 : List Int) (a1 : Int) : Option (Int) := laws_heldIntS.l0 k l0 a1 0
mutual
def spec_ClauseValid.l0 : Nat → List Int → Int → Int → Option (Bool)
  | 0, _, _, _ => none
  | k + 1, x0, x1, x5 => if x5 < (x0.length : Int) then (if 0 ≤ x5 then ((spec_l11Lit.f (rd x0 x5) x1).bind fun t266 => (if t266 = true then (if x5 > 0 then ((spec_l11Abs.f (rd x0 x5)).bind fun t268 => (if 0 ≤ (wrap64 (x5 - 1)) then (if (wrap64 (x5 - 1)) < (x0.length : Int) then ((spec_l11Abs.f (rd x0 (wrap64 (x5 - 1)))).bind fun t270 => (spec_ClauseValid.j1 k x0 x1 x5 (decide (t268 ≤ t270)))) else (none)) else (none))) else (spec_ClauseValid.j1 k x0 x1 x5 false)) else (spec_ClauseValid.j1 k x0 x1 x5 true))) else (none)) else ((spec_l1In.f x1 0 700).bind fun t271 => (some t271))
def spec_ClauseValid.j1 : Nat → List Int → Int → Int → Bool → Option (Bool)
  | 0, _, _, _, _ => none
  | k + 1, x0, x1, x5, x36 => if x36 = true then (some false) else (spec_ClauseValid.l0 k x0 x1 (wrap64 (x5 + 1)))
end
def spec_ClauseValid.f (k : Nat) (l0 : List Int) (a1 : Int) : Option (Bool) := spec_ClauseValid.l0 k l0 a1 0
def spec_l2Has.l0 : Nat → List Int → Int → Int → Option (Bool)
  | 0, _, _, _ => none
  | k + 1, x0, x1, x5 => if x5 < (x0.length : Int) then (if 0 ≤ x5 then (if (rd x0 x5) = x1 then (some true) else (spec_l2Has.l0 k x0 x1 (wrap64 (x5 + 1)))) else (none)) else (some false)
def spec_l2Has.f (k : Nat) (l0 : List Int) (a1 : Int) : Option (Bool) := spec_l2Has.l0 k l0 a1 0
def spec_l3Copy.l0 : Nat → List Int → List Int → Int → Option (List Int)
  | 0, _, _, _ => none
  | k + 1, x0, x3, x4 => if x4 < (x0.length : Int) then (if 0 ≤ x4 then (if x3.length < 17592186044416 then (spec_l3Copy.l0 k x0 (x3 ++ [rd x0 x4]) (wrap64 (x4 + 1))) else (none)) else (none)) else (some x3)
def spec_l3Copy.f (k : Nat) (l0 : List Int) : Option (List Int) := spec_l3Copy.l0 k l0 (([] : List Int)) 0
def spec_l11Join.l0 : Nat → List Int → List Int → Int → Option (List Int)
  | 0, _, _, _ => none
  | k + 1, x1, x5, x6 => if x6 < (x1.length : Int) then (if 0 ≤ x6 then (if x5.length < 17592186044416 then (spec_l11Join.l0 k x1 (x5 ++ [rd x1 x6]) (wrap64 (x6 + 1))) else (none)) else (none)) else (some x5)
def spec_l11Join.f (k : Nat) (l0 : List Int) (l1 : List Int) : Option (List Int) := (spec_l3Copy.f k l0).bind fun t280 => (spec_l11Join.l0 k l1 t280 0)
def spec_l11Without.l0 : Nat → List Int → Int → List Int → Int → Option (List Int)
  | 0, _, _, _, _ => none
  | k + 1, x0, x1, x5, x6 => if x6 < (x0.length : Int) then (if 0 ≤ x6 then (if (rd x0 x6) = x1 then (spec_l11Without.l0 k x0 x1 x5 (wrap64 (x6 + 1))) else (if x5.length < 17592186044416 then (spec_l11Without.l0 k x0 x1 (x5 ++ [rd x0 x6]) (wrap64 (x6 + 1))) else (none))) else (none)) else (some x5)
def spec_l11Without.f (k : Nat) (l0 : List Int) (a1 : Int) : Option (List Int) := spec_l11Without.l0 k l0 a1 (([] : List Int)) 0
def spec_Resolved.f (k : Nat) (l0 : List Int) (l1 : List Int) (a2 : Int) : Option ((List Int) × Bool) := (spec_ClauseValid.f k l0 700).bind fun r1 => if r1 = true then ((spec_ClauseValid.f k l1 700).bind fun r2 => if r2 = true then (if a2 < 1 then (some (([] : List Int), false)) else ((spec_l2Has.f k l0 a2).bind fun r3 => if r3 = true then ((spec_l2Has.f k l1 (wrap64 (-a2))).bind fun r4 => if r4 = true then ((spec_l11Without.f k l0 a2).bind fun r5 => (spec_l11Without.f k l1 (wrap64 (-a2))).bind fun r6 => (spec_l11Join.f k r5 r6).bind fun r7 => (spec_l11Clause.f k r7 700).bind fun r8 => some (r8.1, r8.2)) else (some (([] : List Int), false))) else (some (([] : List Int), false)))) else (some (([] : List Int), false))) else (some (([] : List Int), false))
mutual
def impl_ClauseValid.l0 : Nat → List Int → Int → List Int → Int → Int → Option (Bool)
  | 0, _, _, _, _, _ => none
  | k + 1, x0, x1, x10, x11, x12 => if x12 < x11 then (if 0 ≤ x12 then (if x12 < (x10.length : Int) then ((impl_in.f (rd x10 x12) (wrap64 (-x1)) x1).bind fun t314 => (if t314 = true then (if (rd x10 x12) = 0 then (impl_ClauseValid.j1 k x0 x1 x10 x11 x12 true) else (if x12 > 0 then (if 0 ≤ (wrap64 (x12 - 1)) then (if (wrap64 (x12 - 1)) < (x0.length : Int) then ((impl_atomOf.f (rd x0 (wrap64 (x12 - 1)))).bind fun t316 => ((impl_atomOf.f (rd x10 x12)).bind fun t317 => (impl_ClauseValid.j1 k x0 x1 x10 x11 x12 (decide (t316 ≥ t317))))) else (none)) else (none)) else (impl_ClauseValid.j1 k x0 x1 x10 x11 x12 false))) else (impl_ClauseValid.j1 k x0 x1 x10 x11 x12 true))) else (none)) else (none)) else (some true)
def impl_ClauseValid.j1 : Nat → List Int → Int → List Int → Int → Int → Bool → Option (Bool)
  | 0, _, _, _, _, _, _ => none
  | k + 1, x0, x1, x10, x11, x12, x41 => if x41 = true then (some false) else (impl_ClauseValid.l0 k x0 x1 x10 x11 (wrap64 (x12 + 1)))
end
def impl_ClauseValid.f (k : Nat) (l0 : List Int) (a1 : Int) : Option (Bool) := (impl_in.f a1 0 700).bind fun t312 => (if t312 = true then (impl_ClauseValid.l0 k l0 a1 l0 (l0.length : Int) 0) else (some false))
def slices_Index_int_int.l0 : Nat → List Int → Int → Int → Int → Option (Int)
  | 0, _, _, _, _ => none
  | k + 1, x0, x1, x7, x8 => if x8 < x7 then (if 0 ≤ x8 then (if x8 < (x0.length : Int) then (if x1 = (rd x0 x8) then (some x8) else (slices_Index_int_int.l0 k x0 x1 x7 (wrap64 (x8 + 1)))) else (none)) else (none)) else (some (-1))
def slices_Index_int_int.f (k : Nat) (l0 : List Int) (a1 : Int) : Option (Int) := slices_Index_int_int.l0 k l0 a1 (l0.length : Int) 0
def slices_Contains_int_int.f (k : Nat) (l0 : List Int) (a1 : Int) : Option (Bool) := (slices_Index_int_int.f k l0 a1).bind fun t319 => (some (decide (t319 ≥ 0)))
def slices_Clone_int_int.f (l0 : List Int) : Option (List Int) := if l0.length ≤ 1099511627776 then (some l0) else none
def litKey (x : Int) : Int := mx x (wrap64 (-x))
def litCmp (x y : Int) : Int := if x < y then -1 else if x > y then 1 else 0
def litCf (x y : Int) : Int := if litCmp (litKey x) (litKey y) = 0 then litCmp x y else litCmp (litKey x) (litKey y)
def slices_SortFunc_int_int_at_impl_clauseOf_1.f (k : Nat) (l0 : List Int) : Option (List Int) := if l0.length < 4611686018427387904 then some (l0.mergeSort fun x y => !(decide (litCf y x < 0))) else none
mutual
def slices_Compact_int_int.l2 : Nat → List Int → Int → Int → Int → Option (List Int)
  | 0, _, _, _, _ => none
  | k + 1, x0q4, x3q5, x5q4, x3q3 => if x5q4 < ((x0q4.length - (x3q3 : Int).toNat : Nat) : Int) then (if 0 ≤ x5q4 then (if x5q4 < ((x0q4.length - (x3q3 : Int).toNat : Nat) : Int) then (if 0 ≤ (wrap64 (x5q4 - 1)) then (if (wrap64 (x5q4 - 1)) < ((x0q4.length - (x3q3 : Int).toNat : Nat) : Int) then (if (rd x0q4 (x3q3 + x5q4)) ≠ (rd x0q4 (x3q3 + (wrap64 (x5q4 - 1)))) then (if 0 ≤ x5q4 then (if x5q4 < ((x0q4.length - (x3q3 : Int).toNat : Nat) : Int) then (if 0 ≤ x3q5 then (if x3q5 < (x0q4.length : Int) then (slices_Compact_int_int.l2 k (x0q4.set x3q5.toNat (rd x0q4 (x3q3 + x5q4))) (wrap64 (x3q5 + 1)) (wrap64 (x5q4 + 1)) x3q3) else none) else none) else none) else none) else (slices_Compact_int_int.l2 k x0q4 x3q5 (wrap64 (x5q4 + 1)) x3q3)) else none) else none) else none) else none) else (if 0 < (x0q4.length : Int) then (if 0 ≤ x3q5 then (if x3q5 ≤ (x0q4.length : Int) then (if 0 < ((x0q4.take (x3q5 : Int).toNat ++ List.replicate (x0q4.length - (x3q5 : Int).toNat) (0 : Int)).length : Int) then (if 0 ≤ x3q5 then (if x3q5 ≤ ((x0q4.take (x3q5 : Int).toNat ++ List.replicate (x0q4.length - (x3q5 : Int).toNat) (0 : Int)).length : Int) then (some ((x0q4.take (x3q5 : Int).toNat ++ List.replicate (x0q4.length - (x3q5 : Int).toNat) (0 : Int)).take (x3q5 : Int).toNat)) else none) else none) else none) else none) else none) else none)
def slices_Compact_int_int.l1 : Nat → Int → List Int → Option (List Int)
  | 0, _, _ => none
  | k + 1, x3q3, l0 => if x3q3 < (l0.length : Int) then (if 0 ≤ x3q3 then (if x3q3 < (l0.length : Int) then (if 0 ≤ (wrap64 (x3q3 - 1)) then (if (wrap64 (x3q3 - 1)) < (l0.length : Int) then (if (rd l0 x3q3) = (rd l0 (wrap64 (x3q3 - 1))) then (if 0 < (l0.length : Int) then (if 0 ≤ x3q3 then (if x3q3 ≤ (l0.length : Int) then (slices_Compact_int_int.l2 k l0 x3q3 1 x3q3) else none) else none) else none) else (slices_Compact_int_int.l1 k (wrap64 (x3q3 + 1)) l0)) else none) else none) else none) else none) else (some l0)
end
def slices_Compact_int_int.f (k : Nat) (l0 : List Int) : Option (List Int) := if (l0.length : Int) < 2 then (some l0) else (slices_Compact_int_int.l1 k 1 l0)
mutual
def impl_clauseOf.l1 : Nat → Int → List Int → Option ((List Int) × Bool)
  | 0, _, _ => none
  | k + 1, x5, r3 => if x5 < (r3.length : Int) then (if 0 ≤ x5 then (if x5 < (r3.length : Int) then (if 0 ≤ (wrap64 (x5 - 1)) then (if (wrap64 (x5 - 1)) < (r3.length : Int) then (if (rd r3 x5) = (wrap64 (-(rd r3 (wrap64 (x5 - 1))))) then (some (([] : List Int), false)) else (impl_clauseOf.l1 k (wrap64 (x5 + 1)) r3)) else none) else none) else none) else none) else ((impl_clone_int.f r3).bind fun r4 => some (r4, true))
end
def impl_clauseOf.f (k : Nat) (l0 : List Int) : Option ((List Int) × Bool) := (slices_Clone_int_int.f l0).bind fun r1 => (slices_SortFunc_int_int_at_impl_clauseOf_1.f k r1).bind fun r2 => (slices_Compact_int_int.f k r2).bind fun r3 => impl_clauseOf.l1 k 1 r3
mutual
def impl_Resolved.l2 : Nat → List Int → Int → List Int → Int → Option ((List Int) × Bool)
  | 0, _, _, _, _ => none
  | k + 1, x8q5, x54q4, l1, a2 => if x54q4 < (l1.length : Int) then (if 0 ≤ x54q4 then (if x54q4 < (l1.length : Int) then (if (rd l1 x54q4) ≠ (wrap64 (-a2)) then (if x8q5.length + 1 ≤ 1099511627776 then (impl_Resolved.l2 k (x8q5 ++ [(rd l1 x54q4)]) (wrap64 (x54q4 + 1)) l1 a2) else none) else (impl_Resolved.l2 k x8q5 (wrap64 (x54q4 + 1)) l1 a2)) else none) else none) else ((impl_clauseOf.f k x8q5).bind fun r5 => some (r5.1, r5.2))
def impl_Resolved.l1 : Nat → List Int → Int → List Int → List Int → Int → Option ((List Int) × Bool)
  | 0, _, _, _, _, _ => none
  | k + 1, x8q3, x40, l0, l1, a2 => if x40 < (l0.length : Int) then (if 0 ≤ x40 then (if x40 < (l0.length : Int) then (if (rd l0 x40) ≠ a2 then (if x8q3.length + 1 ≤ 1099511627776 then (impl_Resolved.l1 k (x8q3 ++ [(rd l0 x40)]) (wrap64 (x40 + 1)) l0 l1 a2) else none) else (impl_Resolved.l1 k x8q3 (wrap64 (x40 + 1)) l0 l1 a2)) else none) else none) else (impl_Resolved.l2 k x8q3 0 l1 a2)
end
def impl_Resolved.f (k : Nat) (l0 : List Int) (l1 : List Int) (a2 : Int) : Option ((List Int) × Bool) := (impl_ClauseValid.f k l0 700).bind fun r1 => if r1 = true then ((impl_ClauseValid.f k l1 700).bind fun r2 => if r2 = true then (if a2 ≤ 0 then (some (([] : List Int), false)) else ((slices_Contains_int_int.f k l0 a2).bind fun r3 => if r3 = true then ((slices_Contains_int_int.f k l1 (wrap64 (-a2))).bind fun r4 => if r4 = true then (impl_Resolved.l1 k ([] : List Int) 0 l0 l1 a2) else (some (([] : List Int), false))) else (some (([] : List Int), false)))) else (some (([] : List Int), false))) else (some (([] : List Int), false))
end Go.Proofs.Ytigbbefdndcmbaa.PA
