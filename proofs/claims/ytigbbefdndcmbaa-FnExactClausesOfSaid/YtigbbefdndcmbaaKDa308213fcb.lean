/- Types and the Lean functions that the walks are told against. No conditions. -/
import Derived.Test.YtigbbefdndcmbaaProg
import Derived.Below
import Derived.Deep.Draws
import Derived.Deep.AppendLies
import Derived.Maps.AppendAt
import Derived.OwnWalk
import Derived.Laws.BytesArg
import Derived.Laws.MakeOwn
import Derived.Laws.OwnMore
import Derived.Deep.OwnRows
import Derived.Tactics
import Derived.Lib.ConvBytes
import Derived.Laws.Slices
import Derived.WalkKit
import Derived.KernelRfl
import Derived.RowKit3
import Derived.Deep.LoopGhost
import Derived.Deep.QuietTactic
import Derived.BigQuiet
import Derived.WideLaws
import Derived.Deep.DeepCutAuto
import Derived.Deep.CutBlock
import Derived.Deep.RegionHeld3
import Derived.Laws.Rows
import Derived.Lib.AppendStr
import Derived.ArgAppend
import Derived.Laws.IdiomCopy
import Derived.OrdersHeld
import Derived.Laws.BitsLemmas
import Derived.RowKit
import Derived.Laws.StructEq
import Derived.Lib.SliceRun
import Derived.WalkSpells
import Derived.ChangeArms
import Derived.ChangeSlices
import Derived.Deep.Slices
import Derived.Test.YtigbbefdndcmbaaKW5f70121b7d
namespace Go.Proofs.Ytigbbefdndcmbaa.PA
open Go.RowKit Go.Proofs.YtigbbefdndcmbaaW.PrintWords Go.Proofs.YtigbbefdndcmbaaW.PrintLast Go.Proofs.YtigbbefdndcmbaaW.PrintMore
attribute [local go_sem] max2_int min2_int max_two min_two max_three min_three max_four min_four   -- for this text's walks alone
set_option linter.unusedVariables false
set_option linter.unusedSimpArgs false
structure LAnd where
  f0 : Int
  f1 : Int
def zLAnd : LAnd := ⟨(0 : Int), (0 : Int)⟩
def rd_LAnd (xs : List LAnd) (i : Int) : LAnd := xs.getD i.toNat zLAnd
structure LCircuit where
  f0 : Int
  f1 : (List LAnd)
def zLCircuit : LCircuit := ⟨(0 : Int), ([] : List LAnd)⟩
def rd_Lint (xs : List (List Int)) (i : Int) : (List Int) := xs.getD i.toNat ([] : List Int)
structure IAnd where
  f0 : Int
  f1 : Int
def zIAnd : IAnd := ⟨(0 : Int), (0 : Int)⟩
def rd_IAnd (xs : List IAnd) (i : Int) : IAnd := xs.getD i.toNat zIAnd
def spec_l1In.f (a0 : Int) (a1 : Int) (a2 : Int) : Option (Bool) := if a0 ≥ a1 then (some (decide (a0 ≤ a2))) else (some false)
def spec_l11Abs.f (a0 : Int) : Option (Int) := if a0 < 0 then (some (wrap64 (-a0))) else (some a0)
mutual
def spec_l11Clause.j2 : Nat → List Int → Int → List Int → Int → Int → Option ((List Int) × Bool)
  | 0, _, _, _, _, _ => none
  | k + 1, l0, a1, x6, x7, r1 => if 0 ≤ x7 then (if x7 < (l0.length : Int) then (if 0 ≤ r1 then (if r1 < (x6.length : Int) then (spec_l11Clause.l1 k (x6.set r1.toNat (rd l0 x7)) (wrap64 (x7 + 1)) l0 a1) else none) else none) else none) else none
def spec_l11Clause.l3 : Nat → List Int → Int → Int → List Int → Option ((List Int) × Bool)
  | 0, _, _, _, _ => none
  | k + 1, x9q4, x10q4, a1, x6 => if x10q4 ≤ a1 then (if 0 ≤ x10q4 then (if x10q4 < (x6.length : Int) then (if (rd x6 x10q4) ≠ 0 then (if 0 ≤ x10q4 then (if x10q4 < (x6.length : Int) then (if x9q4.length + 1 ≤ 1099511627776 then (spec_l11Clause.l3 k (x9q4 ++ [(rd x6 x10q4)]) (wrap64 (x10q4 + 1)) a1 x6) else none) else none) else none) else (spec_l11Clause.l3 k x9q4 (wrap64 (x10q4 + 1)) a1 x6)) else none) else none) else (some (x9q4, true))
def spec_l11Clause.l1 : Nat → List Int → Int → List Int → Int → Option ((List Int) × Bool)
  | 0, _, _, _, _ => none
  | k + 1, x6, x7, l0, a1 => if x7 < (l0.length : Int) then (if 0 ≤ x7 then (if x7 < (l0.length : Int) then ((spec_l11Abs.f (rd l0 x7)).bind fun r1 => if 0 ≤ r1 then (if r1 < (x6.length : Int) then (if (rd x6 r1) ≠ 0 then (if 0 ≤ r1 then (if r1 < (x6.length : Int) then (if 0 ≤ x7 then (if x7 < (l0.length : Int) then (if (rd x6 r1) ≠ (rd l0 x7) then (some (([] : List Int), false)) else (spec_l11Clause.j2 k l0 a1 x6 x7 r1)) else none) else none) else none) else none) else (spec_l11Clause.j2 k l0 a1 x6 x7 r1)) else none) else none) else none) else none) else (spec_l11Clause.l3 k ([] : List Int) 1 a1 x6)
end
def spec_l11Clause.f (k : Nat) (l0 : List Int) (a1 : Int) : Option ((List Int) × Bool) := if 0 ≤ (wrap64 (a1 + 1)) then (if (wrap64 (a1 + 1)) ≤ 1099511627776 then (spec_l11Clause.l1 k (List.replicate (wrap64 (a1 + 1)).toNat (0 : Int)) 0 l0 a1) else none) else none
def impl_in.f (a0 : Int) (a1 : Int) (a2 : Int) : Option (Bool) := if a0 ≥ a1 then (some (decide (a0 ≤ a2))) else (some false)
def impl_clone_int.f (l0 : List Int) : Option (List Int) := if l0.length ≤ 35184372088832 then some l0 else none
def cmp_Or_int.l0 : Nat → Int → List Int → Int → Int → Option (Int)
  | 0, _, _, _, _ => none
  | k + 1, x3, x6, x7, x8 => if x8 < x7 then (if 0 ≤ x8 then (if x8 < (x6.length : Int) then (if (rd x6 x8) = x3 then (cmp_Or_int.l0 k x3 x6 x7 (wrap64 (x8 + 1))) else (some (rd x6 x8))) else (none)) else (none)) else (some x3)
def cmp_Or_int.f (k : Nat) (l0 : List Int) : Option (Int) := cmp_Or_int.l0 k 0 l0 (l0.length : Int) 0
def cmp_isNaN_int.f (a0 : Int) : Option (Bool) := some (a0 != a0)
def cmp_Compare_int.f (k : Nat) (a0 : Int) (a1 : Int) : Option Int := (cmp_isNaN_int.f a0).bind fun r1 => (cmp_isNaN_int.f a1).bind fun r2 => if r1 = true then (if r2 = true then (some 0) else (some (-1))) else (if r2 = true then (some 1) else (if a0 < a1 then (some (-1)) else (if a0 > a1 then (some 1) else (some 0))))
def impl_atomOf.f (a0 : Int) : Option (Int) := some (mx a0 (wrap64 (-a0)))
def impl_clauseOf_1.f (k : Nat) (a0 : Int) (a1 : Int) : Option Int := (impl_atomOf.f a0).bind fun r1 => (impl_atomOf.f a1).bind fun r2 => (cmp_Compare_int.f k r1 r2).bind fun r3 => (cmp_Compare_int.f k a0 a1).bind fun r4 => (cmp_Or_int.f k [r3, r4]).bind fun r5 => some r5
def laws_eqIntS.l0 : Nat → List Int → List Int → Int → Option (Bool)
  | 0, _, _, _ => none
  | k + 1, x0, x1, x5 => if x5 < (x0.length : Int) then (if 0 ≤ x5 then (if x5 < (x1.length : Int) then (if (rd x0 x5) = (rd x1 x5) then (laws_eqIntS.l0 k x0 x1 (wrap64 (x5 + 1))) else (some false)) else (none)) else (none)) else (some true)
def laws_eqIntS.f (k : Nat) (l0 : List Int) (l1 : List Int) : Option (Bool) := if (l0.length : Int) = (l1.length : Int) then (laws_eqIntS.l0 k l0 l1 0) else (some false)
def laws_markIntS.l0 : Nat → List Int → Int → Int → Option (Int × List Int)
  | 0, _, _, _ => none
  | k + 1, x0, x1, x5 => if x5 < (x0.length : Int) then (if 0 ≤ x5 then (laws_markIntS.l0 k (x0.set (x5 : Int).toNat x1) (wrap64 (x1 + 1)) (wrap64 (x5 + 1))) else (none)) else (some (x1, x0))
def laws_markIntS.f (k : Nat) (l0 : List Int) (a1 : Int) : Option (Int × List Int) := laws_markIntS.l0 k l0 a1 0
def laws_heldIntS.l0 : Nat → List Int → Int → Int → Option (Int)
  | 0, _, _, _ => none
  | k + 1, x0, x1, x5 => if x5 < (x0.length : Int) then (if 0 ≤ x5 then (if (rd x0 x5) = x1 then (laws_heldIntS.l0 k x0 (wrap64 (x1 + 1)) (wrap64 (x5 + 1))) else (some (-1))) else (none)) else (some x1)
def laws_heldIntS.f (k : Nat) (l0 : List Int) (a1 : Int) : Option (Int) := laws_heldIntS.l0 k l0 a1 0
def laws_szAndS.f (l0 : List (LAnd)) (a1 : Int) : Option (Int) := if (wrap64 (a1 - (l0.length : Int))) < 0 then (some (-1)) else (some (wrap64 (a1 - (l0.length : Int))))
def laws_szCircuit.f (a0_0 : Int) (l0_1 : List (LAnd)) (a1 : Int) : Option (Int) := (laws_szAndS.f l0_1 a1).bind fun t349 => (if t349 < 0 then (some (-1)) else (some t349))
mutual
def spec_CircuitValid.j0 : Nat → Bool → Int → List (IAnd) → Option (Bool)
  | 0, _, _, _ => none
  | k + 1, x14, x351000, x351001 => if x14 = true then (some false) else (spec_CircuitValid.l0 k 0 x351000 x351001)
def spec_CircuitValid.l0 : Nat → Int → Int → List (IAnd) → Option (Bool)
  | 0, _, _, _ => none
  | k + 1, x3, x351000, x351001 => if x3 < (x351001.length : Int) then (if 0 ≤ x3 then ((spec_l1In.f ((rd_IAnd x351001 x3).f0) 0 (wrap64 ((wrap64 (2 * (wrap64 ((wrap64 (1 + x351000)) + x3)))) - 1))).bind fun t353 => (if t353 = true then ((spec_l1In.f ((rd_IAnd x351001 x3).f1) 0 (wrap64 ((wrap64 (2 * (wrap64 ((wrap64 (1 + x351000)) + x3)))) - 1))).bind fun t355 => (if t355 = true then (spec_CircuitValid.l0 k (wrap64 (x3 + 1)) x351000 x351001) else (some false))) else (some false))) else (none)) else (some true)
end
def spec_CircuitValid.f (k : Nat) (a0_0 : Int) (l0_1 : List (IAnd)) : Option (Bool) := (spec_l1In.f a0_0 0 12).bind fun t351 => (if t351 = true then (spec_CircuitValid.j0 k (decide ((l0_1.length : Int) > 600)) a0_0 l0_1) else (spec_CircuitValid.j0 k true a0_0 l0_1))
def spec_l7Nodes.f (a0_0 : Int) (l0_1 : List (IAnd)) : Option (Int) := some (wrap64 ((wrap64 (1 + a0_0)) + (l0_1.length : Int)))
def spec_l7Edge.f (a0_0 : Int) (l0_1 : List (IAnd)) (a1 : Int) : Option (Bool) := (spec_l7Nodes.f a0_0 l0_1).bind fun t358 => ((spec_l1In.f a1 0 (wrap64 ((wrap64 (2 * t358)) - 1))).bind fun t359 => (some t359))
def spec_l11Edge.f (a0 : Int) : Option (Int) := if (Int.tmod a0 2) = 1 then (some (wrap64 (-(wrap64 (Int.tdiv a0 2))))) else (some (wrap64 (Int.tdiv a0 2)))
def spec_l7Not.f (a0 : Int) : Option (Int) := if a0 < 0 then (some (-1)) else (some (wrap64 ((wrap64 ((wrap64 ((wrap64 (Int.tdiv a0 2)) * 2)) + 1)) - (Int.tmod a0 2))))
def laws_toAnd.f (a0_0 : Int) (a0_1 : Int) : Option (Int × Int) := some (a0_0, a0_1)
def laws_toAndS.l0 : Nat → List (LAnd) → List (IAnd) → Int → Option ((List (IAnd)))
  | 0, _, _, _ => none
  | k + 1, x0, x3, x4 => if x4 < (x0.length : Int) then (if 0 ≤ x4 then ((laws_toAnd.f ((rd_LAnd x0 x4).f0) ((rd_LAnd x0 x4).f1)).bind fun bt394 => (if x4 < (x3.length : Int) then (laws_toAndS.l0 k x0 (x3.set (x4 : Int).toNat (⟨bt394.1, bt394.2⟩ : IAnd)) (wrap64 (x4 + 1))) else (none))) else (none)) else (some x3)
def laws_toAndS.f (k : Nat) (l0 : List (LAnd)) : Option ((List (IAnd))) := if 0 ≤ (l0.length : Int) then (if ((l0.length : Int) : Int).toNat ≤ 17592186044416 then (laws_toAndS.l0 k l0 (List.replicate ((l0.length : Int) : Int).toNat zIAnd) 0) else (none)) else (none)
def laws_toCircuit.f (k : Nat) (a0_0 : Int) (l0_1 : List (LAnd)) : Option (Int × (List (IAnd))) := (laws_toAndS.f k l0_1).bind fun t400 => (some (a0_0, t400))
mutual
def impl_CircuitValid.j0 : Nat → Bool → Int → List (IAnd) → Option (Bool)
  | 0, _, _, _ => none
  | k + 1, x15, x404000, x404001 => if x15 = true then (some false) else (impl_CircuitValid.l0 k x404001 (x404001.length : Int) 0 x404000 x404001)
def impl_CircuitValid.l0 : Nat → List (IAnd) → Int → Int → Int → List (IAnd) → Option (Bool)
  | 0, _, _, _, _, _ => none
  | k + 1, x17, x18, x19, x404000, x404001 => if x19 < x18 then (if 0 ≤ x19 then (if x19 < (x17.length : Int) then ((impl_in.f ((rd_IAnd x17 x19).f0) 0 (wrap64 ((wrap64 (2 * (wrap64 ((wrap64 (1 + x404000)) + x19)))) - 1))).bind fun t407 => (if t407 = true then ((impl_in.f ((rd_IAnd x17 x19).f1) 0 (wrap64 ((wrap64 (2 * (wrap64 ((wrap64 (1 + x404000)) + x19)))) - 1))).bind fun t408 => (if t408 = true then (impl_CircuitValid.l0 k x17 x18 (wrap64 (x19 + 1)) x404000 x404001) else (some false))) else (some false))) else (none)) else (none)) else (some true)
end
def impl_CircuitValid.f (k : Nat) (a0_0 : Int) (l0_1 : List (IAnd)) : Option (Bool) := (impl_in.f a0_0 0 12).bind fun t404 => (if t404 = true then (impl_CircuitValid.j0 k (decide ((l0_1.length : Int) > 600)) a0_0 l0_1) else (impl_CircuitValid.j0 k true a0_0 l0_1))
def impl_Circuit_isEdge.f (a0_0 : Int) (l0_1 : List (IAnd)) (a1 : Int) : Option (Bool) := (impl_in.f a1 0 (wrap64 ((wrap64 (2 * (wrap64 ((wrap64 (1 + a0_0)) + (l0_1.length : Int))))) - 1))).bind fun t410 => (some t410)
def impl_numbered.l0 : Nat → List Int → Int → Int → Option (List Int)
  | 0, _, _, _ => none
  | k + 1, x3, x8, x9 => if x9 < x8 then (if 0 ≤ x9 then (if x9 < (x3.length : Int) then (impl_numbered.l0 k (x3.set (x9 : Int).toNat x9) x8 (wrap64 (x9 + 1))) else (none)) else (none)) else (some x3)
def impl_numbered.f (k : Nat) (a0 : Int) : Option (List Int) := if 0 ≤ a0 then (if (a0 : Int).toNat ≤ 35184372088832 then ((some (List.replicate (a0 : Int).toNat 0 : List Int)).bind fun y411 => (impl_numbered.l0 k y411 (y411.length : Int) 0)) else (none)) else (none)
def impl_clone_Lint.f (l0 : List (List Int)) : Option (List (List Int)) := if l0.length ≤ 5864062014805 then some l0 else none
def laws_eqIntSS.l0 : Nat → List (List Int) → List (List Int) → Int → Option (Bool)
  | 0, _, _, _ => none
  | k + 1, x0, x1, x5 => if x5 < (x0.length : Int) then (if 0 ≤ x5 then (if x5 < (x1.length : Int) then ((laws_eqIntS.f k (rd_Lint x0 x5) (rd_Lint x1 x5)).bind fun t445 => (if t445 = true then (laws_eqIntSS.l0 k x0 x1 (wrap64 (x5 + 1))) else (some false))) else (none)) else (none)) else (some true)
def laws_eqIntSS.f (k : Nat) (l0 : List (List Int)) (l1 : List (List Int)) : Option (Bool) := if (l0.length : Int) = (l1.length : Int) then (laws_eqIntSS.l0 k l0 l1 0) else (some false)
def laws_eqClauses.f (k : Nat) (a0_0 : Int) (l0_1 : List (List Int)) (a1_0 : Int) (l1_1 : List (List Int)) : Option (Bool) := if a0_0 = a1_0 then ((laws_eqIntSS.f k l0_1 l1_1).bind fun t448 => (if t448 = true then (some true) else (some false))) else (some false)
def laws_eqAnd.f (a0_0 : Int) (a0_1 : Int) (a1_0 : Int) (a1_1 : Int) : Option (Bool) := if a0_0 = a1_0 then (if a0_1 = a1_1 then (some true) else (some false)) else (some false)
def laws_eqAndS.l0 : Nat → List (IAnd) → List (IAnd) → Int → Option (Bool)
  | 0, _, _, _ => none
  | k + 1, x0, x1, x5 => if x5 < (x0.length : Int) then (if 0 ≤ x5 then (if x5 < (x1.length : Int) then ((laws_eqAnd.f ((rd_IAnd x0 x5).f0) ((rd_IAnd x0 x5).f1) ((rd_IAnd x1 x5).f0) ((rd_IAnd x1 x5).f1)).bind fun t453 => (if t453 = true then (laws_eqAndS.l0 k x0 x1 (wrap64 (x5 + 1))) else (some false))) else (none)) else (none)) else (some true)
def laws_eqAndS.f (k : Nat) (l0 : List (IAnd)) (l1 : List (IAnd)) : Option (Bool) := if (l0.length : Int) = (l1.length : Int) then (laws_eqAndS.l0 k l0 l1 0) else (some false)
def laws_eqCircuit.f (k : Nat) (a0_0 : Int) (l0_1 : List (IAnd)) (a1_0 : Int) (l1_1 : List (IAnd)) : Option (Bool) := if a0_0 = a1_0 then ((laws_eqAndS.f k l0_1 l1_1).bind fun t456 => (if t456 = true then (some true) else (some false))) else (some false)
def laws_markIntSS.f (k : Nat) : List (List Int) → Int → Option (Int × List (List Int))
  | [], a => some (a, [])
  | x :: l, a => (laws_markIntS.f k x a).bind fun p => (laws_markIntSS.f k l p.1).bind fun q => some (q.1, p.2 :: q.2)
def laws_heldIntSS.l0 : Nat → List (List Int) → Int → Int → Option (Int)
  | 0, _, _, _ => none
  | k + 1, x0, x1, x5 => if x5 < (x0.length : Int) then (if 0 ≤ x5 then ((laws_heldIntS.f k (rd_Lint x0 x5) x1).bind fun t464 => (if t464 < 0 then (some (-1)) else (laws_heldIntSS.l0 k x0 t464 (wrap64 (x5 + 1))))) else (none)) else (some x1)
def laws_heldIntSS.f (k : Nat) (l0 : List (List Int)) (a1 : Int) : Option (Int) := laws_heldIntSS.l0 k l0 a1 0
def laws_heldClauses.f (k : Nat) (a0_0 : Int) (l0_1 : List (List Int)) (a1 : Int) : Option (Int) := (laws_heldIntSS.f k l0_1 a1).bind fun t466 => (if t466 < 0 then (some (-1)) else (some t466))
def slices_Clone_int_int.f (l0 : List Int) : Option (List Int) := if l0.length ≤ 1099511627776 then (some l0) else none
def litKey (x : Int) : Int := mx x (wrap64 (-x))
def litCmp (x y : Int) : Int := if x < y then -1 else if x > y then 1 else 0
def litCf (x y : Int) : Int := if litCmp (litKey x) (litKey y) = 0 then litCmp x y else litCmp (litKey x) (litKey y)
def slices_SortFunc_int_int_at_impl_clauseOf_1.f (k : Nat) (l0 : List Int) : Option (List Int) := if l0.length < 4611686018427387904 then some (l0.mergeSort fun x y => !(decide (litCf y x < 0))) else none
mutual
def slices_Compact_int_int.l2 : Nat → List Int → Int → Int → Int → Option (List Int)
  | 0, _, _, _, _ => none
  | k + 1, x0q4, x3q5, x5q4, x3q3 => if x5q4 < ((x0q4.length - (x3q3 : Int).toNat : Nat) : Int) then (if 0 ≤ x5q4 then (if x5q4 < ((x0q4.length - (x3q3 : Int).toNat : Nat) : Int) then (if 0 ≤ (wrap64 (x5q4 - 1)) then (if (wrap64 (x5q4 - 1)) < ((x0q4.length - (x3q3 : Int).toNat : Nat) : Int) then (if (rd x0q4 (x3q3 + x5q4)) ≠ (rd x0q4 (x3q3 + (wrap64 (x5q4 - 1)))) then (if 0 ≤ x5q4 then (if x5q4 < ((x0q4.length - (x3q3 : Int).toNat : Nat) : Int) then (if 0 ≤ x3q5 then (if x3q5 < (x0q4.length : Int) then (slices_Compact_int_int.l2 k (x0q4.set x3q5.toNat (rd x0q4 (x3q3 + x5q4))) (wrap64 (x3q5 + 1)) (wrap64 (x5q4 + 1)) x3q3) else none) else none) else none) else none) else (slices_Compact_int_int.l2 k x0q4 x3q5 (wrap64 (x5q4 + 1)) x3q3)) else none) else none) else none) else none) else (if 0 < (x0q4.length : Int) then (if 0 ≤ x3q5 then (if x3q5 ≤ (x0q4.length : Int) then (if 0 < ((x0q4.take (x3q5 : Int).toNat ++ List.replicate (x0q4.length - (x3q5 : Int).toNat) (0 : Int)).length : Int) then (if 0 ≤ x3q5 then (if x3q5 ≤ ((x0q4.take (x3q5 : Int).toNat ++ List.replicate (x0q4.length - (x3q5 : Int).toNat) (0 : Int)).length : Int) then (some ((x0q4.take (x3q5 : Int).toNat ++ List.replicate (x0q4.length - (x3q5 : Int).toNat) (0 : Int)).take (x3q5 : Int).toNat)) else none) else none) else none) else none) else none) else none)
def slices_Compact_int_int.l1 : Nat → Int → List Int → Option (List Int)
  | 0, _, _ => none
  | k + 1, x3q3, l0 => if x3q3 < (l0.length : Int) then (if 0 ≤ x3q3 then (if x3q3 < (l0.length : Int) then (if 0 ≤ (wrap64 (x3q3 - 1)) then (if (wrap64 (x3q3 - 1)) < (l0.length : Int) then (if (rd l0 x3q3) = (rd l0 (wrap64 (x3q3 - 1))) then (if 0 < (l0.length : Int) then (if 0 ≤ x3q3 then (if x3q3 ≤ (l0.length : Int) then (slices_Compact_int_int.l2 k l0 x3q3 1 x3q3) else none) else none) else none) else (slices_Compact_int_int.l1 k (wrap64 (x3q3 + 1)) l0)) else none) else none) else none) else none) else (some l0)
end
def slices_Compact_int_int.f (k : Nat) (l0 : List Int) : Option (List Int) := if (l0.length : Int) < 2 then (some l0) else (slices_Compact_int_int.l1 k 1 l0)
mutual
def impl_clauseOf.l1 : Nat → Int → List Int → Option ((List Int) × Bool)
  | 0, _, _ => none
  | k + 1, x5, r3 => if x5 < (r3.length : Int) then (if 0 ≤ x5 then (if x5 < (r3.length : Int) then (if 0 ≤ (wrap64 (x5 - 1)) then (if (wrap64 (x5 - 1)) < (r3.length : Int) then (if (rd r3 x5) = (wrap64 (-(rd r3 (wrap64 (x5 - 1))))) then (some (([] : List Int), false)) else (impl_clauseOf.l1 k (wrap64 (x5 + 1)) r3)) else none) else none) else none) else none) else ((impl_clone_int.f r3).bind fun r4 => some (r4, true))
end
def impl_clauseOf.f (k : Nat) (l0 : List Int) : Option ((List Int) × Bool) := (slices_Clone_int_int.f l0).bind fun r1 => (slices_SortFunc_int_int_at_impl_clauseOf_1.f k r1).bind fun r2 => (slices_Compact_int_int.f k r2).bind fun r3 => impl_clauseOf.l1 k 1 r3
mutual
def spec_l11Put.l1 : Nat → List Int → Int → Int → List (List Int) → List Int → Option (Int × List (List Int))
  | 0, _, _, _, _, _ => none
  | k + 1, x5, x6, a0_0, l0_1, l1 => if x6 < (l1.length : Int) then (if 0 ≤ x6 then (if x6 < (l1.length : Int) then (if (rd l1 x6) = 1 then (some (a0_0, l0_1)) else (if 0 ≤ x6 then (if x6 < (l1.length : Int) then (if (rd l1 x6) > 1 then (if 0 ≤ x6 then (if x6 < (l1.length : Int) then ((spec_l11Edge.f (rd l1 x6)).bind fun r1 => if x5.length + 1 ≤ 1099511627776 then (spec_l11Put.l1 k (x5 ++ [r1]) (wrap64 (x6 + 1)) a0_0 l0_1 l1) else none) else none) else none) else (spec_l11Put.l1 k x5 (wrap64 (x6 + 1)) a0_0 l0_1 l1)) else none) else none)) else none) else none) else ((spec_l11Clause.f k x5 a0_0).bind fun r2 => if r2.2 = true then (if l0_1.length + 1 ≤ 1099511627776 then (some (a0_0, (l0_1 ++ [r2.1]))) else none) else (some (a0_0, l0_1)))
end
def spec_l11Put.f (k : Nat) (a0_0 : Int) (l0_1 : List (List Int)) (l1 : List Int) : Option (Int × List (List Int)) := spec_l11Put.l1 k ([] : List Int) 0 a0_0 l0_1 l1
mutual
def spec_ClausesOf.l1 : Nat → Int → List (List Int) → Int → Int → List IAnd → Int → Option ((Int × List (List Int)) × Bool)
  | 0, _, _, _, _, _, _ => none
  | k + 1, x6b0, x6b1, x7, a0_0, l0_1, a1 => if x7 < (l0_1.length : Int) then (if 0 ≤ x7 then (if x7 < (l0_1.length : Int) then (if 0 ≤ x7 then (if x7 < (l0_1.length : Int) then ((spec_l11Put.f k x6b0 x6b1 [(wrap64 ((wrap64 (2 * (wrap64 ((wrap64 (1 + a0_0)) + x7)))) + 1)), ((rd_IAnd l0_1 x7).f0)]).bind fun r4 => (spec_l11Put.f k r4.1 r4.2 [(wrap64 ((wrap64 (2 * (wrap64 ((wrap64 (1 + a0_0)) + x7)))) + 1)), ((rd_IAnd l0_1 x7).f1)]).bind fun r5 => (spec_l7Not.f ((rd_IAnd l0_1 x7).f0)).bind fun r6 => (spec_l7Not.f ((rd_IAnd l0_1 x7).f1)).bind fun r7 => (spec_l11Put.f k r5.1 r5.2 [(wrap64 (2 * (wrap64 ((wrap64 (1 + a0_0)) + x7)))), r6, r7]).bind fun r8 => spec_ClausesOf.l1 k r8.1 r8.2 (wrap64 (x7 + 1)) a0_0 l0_1 a1) else none) else none) else none) else none) else ((spec_l11Put.f k x6b0 x6b1 [a1]).bind fun r9 => some ((r9.1, r9.2), true))
end
def spec_ClausesOf.f (k : Nat) (a0_0 : Int) (l0_1 : List IAnd) (a1 : Int) : Option ((Int × List (List Int)) × Bool) := (spec_CircuitValid.f k a0_0 l0_1).bind fun r1 => if r1 = true then ((spec_l7Edge.f a0_0 l0_1 a1).bind fun r2 => if r2 = true then ((spec_l7Nodes.f a0_0 l0_1).bind fun r3 => spec_ClausesOf.l1 k (wrap64 (r3 - 1)) ([] : List (List Int)) 0 a0_0 l0_1 a1) else (some ((0, ([] : List (List Int))), false))) else (some ((0, ([] : List (List Int))), false))
mutual
def impl_edgeClause.l1 : Nat → List Int → Int → List Int → List Int → Option ((List Int) × Bool)
  | 0, _, _, _, _ => none
  | k + 1, x6, x11, l0, l1 => if x11 < (l0.length : Int) then (if 0 ≤ x11 then (if x11 < (l0.length : Int) then (if (rd l0 x11) = 1 then (some (([] : List Int), false)) else (if (rd l0 x11) > 1 then (if 0 ≤ (wrap64 (Int.tdiv (rd l0 x11) 2)) then (if (wrap64 (Int.tdiv (rd l0 x11) 2)) < (l1.length : Int) then (if x6.length + 1 ≤ 1099511627776 then (impl_edgeClause.l1 k (x6 ++ [(wrap64 ((rd l1 (wrap64 (Int.tdiv (rd l0 x11) 2))) * (wrap64 (1 - (wrap64 (2 * (Go.bits .and .i64 (rd l0 x11) 1)))))))]) (wrap64 (x11 + 1)) l0 l1) else none) else none) else none) else (impl_edgeClause.l1 k x6 (wrap64 (x11 + 1)) l0 l1))) else none) else none) else ((impl_clauseOf.f k x6).bind fun r1 => some (r1.1, r1.2))
end
def impl_edgeClause.f (k : Nat) (l0 : List Int) (l1 : List Int) : Option ((List Int) × Bool) := impl_edgeClause.l1 k ([] : List Int) 0 l0 l1
mutual
def impl_gateClauses.l2 : Nat → List (List Int) → Int → Int → List IAnd → List Int → Int → Option (List (List Int))
  | 0, _, _, _, _, _, _ => none
  | k + 1, x5q3, x47q2, a0_0, l0_1, l1, x16 => if x47q2 < ([[(wrap64 ((wrap64 (2 * (wrap64 ((wrap64 (1 + a0_0)) + x16)))) + 1)), ((rd_IAnd l0_1 x16).f0)], [(wrap64 ((wrap64 (2 * (wrap64 ((wrap64 (1 + a0_0)) + x16)))) + 1)), ((rd_IAnd l0_1 x16).f1)], [(wrap64 (2 * (wrap64 ((wrap64 (1 + a0_0)) + x16)))), (Go.bits .xor .i64 ((rd_IAnd l0_1 x16).f0) 1), (Go.bits .xor .i64 ((rd_IAnd l0_1 x16).f1) 1)]].length : Int) then (if 0 ≤ x47q2 then (if x47q2 < ([[(wrap64 ((wrap64 (2 * (wrap64 ((wrap64 (1 + a0_0)) + x16)))) + 1)), ((rd_IAnd l0_1 x16).f0)], [(wrap64 ((wrap64 (2 * (wrap64 ((wrap64 (1 + a0_0)) + x16)))) + 1)), ((rd_IAnd l0_1 x16).f1)], [(wrap64 (2 * (wrap64 ((wrap64 (1 + a0_0)) + x16)))), (Go.bits .xor .i64 ((rd_IAnd l0_1 x16).f0) 1), (Go.bits .xor .i64 ((rd_IAnd l0_1 x16).f1) 1)]].length : Int) then ((impl_edgeClause.f k (rd_Lint [[(wrap64 ((wrap64 (2 * (wrap64 ((wrap64 (1 + a0_0)) + x16)))) + 1)), ((rd_IAnd l0_1 x16).f0)], [(wrap64 ((wrap64 (2 * (wrap64 ((wrap64 (1 + a0_0)) + x16)))) + 1)), ((rd_IAnd l0_1 x16).f1)], [(wrap64 (2 * (wrap64 ((wrap64 (1 + a0_0)) + x16)))), (Go.bits .xor .i64 ((rd_IAnd l0_1 x16).f0) 1), (Go.bits .xor .i64 ((rd_IAnd l0_1 x16).f1) 1)]] x47q2) l1).bind fun r1 => if r1.2 = true then (if x5q3.length + 1 ≤ 1099511627776 then (impl_gateClauses.l2 k (x5q3 ++ [r1.1]) (wrap64 (x47q2 + 1)) a0_0 l0_1 l1 x16) else none) else (impl_gateClauses.l2 k x5q3 (wrap64 (x47q2 + 1)) a0_0 l0_1 l1 x16)) else none) else none) else (impl_gateClauses.l1 k x5q3 (wrap64 (x16 + 1)) a0_0 l0_1 l1)
def impl_gateClauses.l1 : Nat → List (List Int) → Int → Int → List IAnd → List Int → Option (List (List Int))
  | 0, _, _, _, _, _ => none
  | k + 1, x5q2, x16, a0_0, l0_1, l1 => if x16 < (l0_1.length : Int) then (if 0 ≤ x16 then (if x16 < (l0_1.length : Int) then (impl_gateClauses.l2 k x5q2 0 a0_0 l0_1 l1 x16) else none) else none) else (some x5q2)
end
def impl_gateClauses.f (k : Nat) (a0_0 : Int) (l0_1 : List IAnd) (l1 : List Int) : Option (List (List Int)) := impl_gateClauses.l1 k ([] : List (List Int)) 0 a0_0 l0_1 l1
mutual
def impl_ClausesOf.j1 : Nat → List (List Int) → (List Int) → Option ((Int × List (List Int)) × Bool)
  | 0, _, _ => none
  | k + 1, x7b1, r3 => (impl_clone_Lint.f x7b1).bind fun r6 => some (((wrap64 ((r3.length : Int) - 1)), r6), true)
end
def impl_ClausesOf.f (k : Nat) (a0_0 : Int) (l0_1 : List IAnd) (a1 : Int) : Option ((Int × List (List Int)) × Bool) := (impl_CircuitValid.f k a0_0 l0_1).bind fun r1 => if r1 = true then ((impl_Circuit_isEdge.f a0_0 l0_1 a1).bind fun r2 => if r2 = true then ((impl_numbered.f k (wrap64 ((wrap64 (1 + a0_0)) + (l0_1.length : Int)))).bind fun r3 => (impl_gateClauses.f k a0_0 l0_1 r3).bind fun r4 => (impl_edgeClause.f k [a1] r3).bind fun r5 => if r5.2 = true then (if r4.length + 1 ≤ 1099511627776 then (impl_ClausesOf.j1 k (r4 ++ [r5.1]) r3) else none) else (impl_ClausesOf.j1 k r4 r3)) else (some ((0, ([] : List (List Int))), false))) else (some ((0, ([] : List (List Int))), false))
end Go.Proofs.Ytigbbefdndcmbaa.PA
