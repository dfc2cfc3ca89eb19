/- Types and the Lean functions that the walks are told against. No conditions. -/
import Derived.Test.YtaajnneigmgikaaProg
import Derived.Below
import Derived.Deep.Draws
import Derived.Deep.AppendLies
import Derived.Maps.AppendAt
import Derived.OwnWalk
import Derived.Laws.BytesArg
import Derived.Laws.MakeOwn
import Derived.Laws.OwnMore
import Derived.Deep.OwnRows
import Derived.Tactics
import Derived.Lib.ConvBytes
import Derived.Laws.Slices
import Derived.WalkKit
import Derived.KernelRfl
import Derived.RowKit3
import Derived.Deep.LoopGhost
import Derived.Deep.QuietTactic
import Derived.BigQuiet
import Derived.WideLaws
import Derived.Deep.DeepCutAuto
import Derived.Deep.CutBlock
import Derived.Deep.RegionHeld3
import Derived.Laws.Rows
import Derived.Lib.AppendStr
import Derived.ArgAppend
import Derived.Laws.IdiomCopy
import Derived.OrdersHeld
import Derived.Laws.BitsLemmas
import Derived.RowKit
import Derived.Laws.StructEq
import Derived.Lib.SliceRun
import Derived.WalkSpells
import Derived.ChangeArms
import Derived.ChangeSlices
import Derived.Deep.Slices
import Derived.Test.YtaajnneigmgikaaKW75dd14df3e
namespace Go.Proofs.Ytaajnneigmgikaa.PA
open Go.RowKit Go.Proofs.YtaajnneigmgikaaW.PrintWords Go.Proofs.YtaajnneigmgikaaW.PrintLast Go.Proofs.YtaajnneigmgikaaW.PrintMore
attribute [local go_sem] max2_int min2_int max_two min_two max_three min_three max_four min_four   -- for this text's walks alone
set_option linter.unusedVariables false
set_option linter.unusedSimpArgs false
def rd_Lint (xs : List (List Int)) (i : Int) : (List Int) := xs.getD i.toNat ([] : List Int)
def spec_l1In.f (a0 : Int) (a1 : Int) (a2 : Int) : Option (Bool) := if a0 ≥ a1 then (some (decide (a0 ≤ a2))) else (some false)
def spec_l11Lit.f (a0 : Int) (a1 : Int) : Option (Bool) := if a0 = 0 then (some false) else ((spec_l1In.f a0 (wrap64 (-a1)) a1).bind fun t107 => (some t107))
def spec_l11Abs.f (a0 : Int) : Option (Int) := if a0 < 0 then (some (wrap64 (-a0))) else (some a0)
mutual
def spec_ClauseValid.l0 : Nat → List Int → Int → Int → Option (Bool)
  | 0, _, _, _ => none
  | k + 1, x0, x1, x5 => if x5 < (x0.length : Int) then (if 0 ≤ x5 then ((spec_l11Lit.f (rd x0 x5) x1).bind fun t109 => (if t109 = true then (if x5 > 0 then ((spec_l11Abs.f (rd x0 x5)).bind fun t111 => (if 0 ≤ (wrap64 (x5 - 1)) then (if (wrap64 (x5 - 1)) < (x0.length : Int) then ((spec_l11Abs.f (rd x0 (wrap64 (x5 - 1)))).bind fun t113 => (spec_ClauseValid.j1 k x0 x1 x5 (decide (t111 ≤ t113)))) else (none)) else (none))) else (spec_ClauseValid.j1 k x0 x1 x5 false)) else (spec_ClauseValid.j1 k x0 x1 x5 true))) else (none)) else ((spec_l1In.f x1 0 700).bind fun t114 => (some t114))
def spec_ClauseValid.j1 : Nat → List Int → Int → Int → Bool → Option (Bool)
  | 0, _, _, _, _ => none
  | k + 1, x0, x1, x5, x36 => if x36 = true then (some false) else (spec_ClauseValid.l0 k x0 x1 (wrap64 (x5 + 1)))
end
def spec_ClauseValid.f (k : Nat) (l0 : List Int) (a1 : Int) : Option (Bool) := spec_ClauseValid.l0 k l0 a1 0
def spec_l2Has.l0 : Nat → List Int → Int → Int → Option (Bool)
  | 0, _, _, _ => none
  | k + 1, x0, x1, x5 => if x5 < (x0.length : Int) then (if 0 ≤ x5 then (if (rd x0 x5) = x1 then (some true) else (spec_l2Has.l0 k x0 x1 (wrap64 (x5 + 1)))) else (none)) else (some false)
def spec_l2Has.f (k : Nat) (l0 : List Int) (a1 : Int) : Option (Bool) := spec_l2Has.l0 k l0 a1 0
def impl_in.f (a0 : Int) (a1 : Int) (a2 : Int) : Option (Bool) := if a0 ≥ a1 then (some (decide (a0 ≤ a2))) else (some false)
def impl_atomOf.f (a0 : Int) : Option (Int) := some (mx a0 (wrap64 (-a0)))
mutual
def impl_ClauseValid.l0 : Nat → List Int → Int → List Int → Int → Int → Option (Bool)
  | 0, _, _, _, _, _ => none
  | k + 1, x0, x1, x10, x11, x12 => if x12 < x11 then (if 0 ≤ x12 then (if x12 < (x10.length : Int) then ((impl_in.f (rd x10 x12) (wrap64 (-x1)) x1).bind fun t298 => (if t298 = true then (if (rd x10 x12) = 0 then (impl_ClauseValid.j1 k x0 x1 x10 x11 x12 true) else (if x12 > 0 then (if 0 ≤ (wrap64 (x12 - 1)) then (if (wrap64 (x12 - 1)) < (x0.length : Int) then ((impl_atomOf.f (rd x0 (wrap64 (x12 - 1)))).bind fun t300 => ((impl_atomOf.f (rd x10 x12)).bind fun t301 => (impl_ClauseValid.j1 k x0 x1 x10 x11 x12 (decide (t300 ≥ t301))))) else (none)) else (none)) else (impl_ClauseValid.j1 k x0 x1 x10 x11 x12 false))) else (impl_ClauseValid.j1 k x0 x1 x10 x11 x12 true))) else (none)) else (none)) else (some true)
def impl_ClauseValid.j1 : Nat → List Int → Int → List Int → Int → Int → Bool → Option (Bool)
  | 0, _, _, _, _, _, _ => none
  | k + 1, x0, x1, x10, x11, x12, x41 => if x41 = true then (some false) else (impl_ClauseValid.l0 k x0 x1 x10 x11 (wrap64 (x12 + 1)))
end
def impl_ClauseValid.f (k : Nat) (l0 : List Int) (a1 : Int) : Option (Bool) := (impl_in.f a1 0 700).bind fun t296 => (if t296 = true then (impl_ClauseValid.l0 k l0 a1 l0 (l0.length : Int) 0) else (some false))
def impl_ClausesValid_1.f (k : Nat) (l0 : List Int) (a1_0 : Int) (l1_1 : List (List Int)) : Option (Bool) := (impl_ClauseValid.f k l0 a1_0).bind fun t303 => (some (!t303))
def slices_IndexFunc_at_impl_ClausesValid_1.l0 : Nat → List (List Int) → Int → Int → Int → List (List Int) → Option (Int)
  | 0, _, _, _, _, _ => none
  | k + 1, x0, x7, x8, x305000, x305001 => if x8 < x7 then (if 0 ≤ x8 then (if x8 < (x0.length : Int) then ((impl_ClausesValid_1.f k (rd_Lint x0 x8) x305000 x305001).bind fun t306 => (if t306 = true then (some x8) else (slices_IndexFunc_at_impl_ClausesValid_1.l0 k x0 x7 (wrap64 (x8 + 1)) x305000 x305001))) else (none)) else (none)) else (some (-1))
def slices_IndexFunc_at_impl_ClausesValid_1.f (k : Nat) (l0 : List (List Int))  (a2_0 : Int) (l2_1 : List (List Int)) : Option (Int) := slices_IndexFunc_at_impl_ClausesValid_1.l0 k l0 (l0.length : Int) 0 a2_0 l2_1
def slices_ContainsFunc_at_impl_ClausesValid_1.f (k : Nat) (l0 : List (List Int))  (a2_0 : Int) (l2_1 : List (List Int)) : Option (Bool) := (slices_IndexFunc_at_impl_ClausesValid_1.f k l0 a2_0 l2_1).bind fun t308 => (some (decide (t308 ≥ 0)))
def impl_ClausesValid.f (k : Nat) (a0_0 : Int) (l0_1 : List (List Int)) : Option (Bool) := (impl_in.f a0_0 0 700).bind fun t310 => (if t310 = true then (if (l0_1.length : Int) ≤ 2500 then ((slices_ContainsFunc_at_impl_ClausesValid_1.f k l0_1 a0_0 l0_1).bind fun t311 => (some (!t311))) else (some false)) else (some false))
def impl_bit.f (a0 : Bool) : Option (Int) := if a0 = true then (some 1) else (some 0)
def impl_litTrue.f (a0 : Int) (l1 : List Int) : Option (Bool) := (impl_atomOf.f a0).bind fun t378 => (if 0 ≤ (wrap64 (t378 - 1)) then (if (wrap64 (t378 - 1)) < (l1.length : Int) then ((impl_bit.f (decide (a0 > 0))).bind fun t380 => (some ((rd l1 (wrap64 (t378 - 1))) == t380))) else (none)) else (none))
def spec_l40Rd_pick.f (k : Nat) (l0_0 : List Int) (a0_1 : Int) (a1 : Int) : Option (Int × Int) := if a1 < 1 then (some ((wrap64 (a0_1 + 1)), 0)) else (if (l0_0.length : Int) = 0 then (some ((wrap64 (a0_1 + 1)), 0)) else (if (wrap64 ((wrap64 (a0_1 + 1)) - 1)) < (l0_0.length : Int) then (if 0 ≤ (wrap64 ((wrap64 (a0_1 + 1)) - 1)) then (if (wrap64 ((wrap64 (a0_1 + 1)) - 1)) < (l0_0.length : Int) then (if a1 ≠ 0 then (some ((wrap64 (a0_1 + 1)), (Int.tmod (wrap64 (rd l0_0 (wrap64 ((wrap64 (a0_1 + 1)) - 1)))) a1))) else none) else none) else none) else (if (l0_0.length : Int) ≠ 0 then (if 0 ≤ (Int.tmod (wrap64 ((wrap64 (a0_1 + 1)) - 1)) (l0_0.length : Int)) then (if (Int.tmod (wrap64 ((wrap64 (a0_1 + 1)) - 1)) (l0_0.length : Int)) < (l0_0.length : Int) then (if (l0_0.length : Int) ≠ 0 then (if 0 ≤ (Int.tmod (wrap64 ((wrap64 ((wrap64 ((wrap64 (a0_1 + 1)) - 1)) * 7)) + 3)) (l0_0.length : Int)) then (if (Int.tmod (wrap64 ((wrap64 ((wrap64 ((wrap64 (a0_1 + 1)) - 1)) * 7)) + 3)) (l0_0.length : Int)) < (l0_0.length : Int) then (if (l0_0.length : Int) ≠ 0 then (if a1 ≠ 0 then (some ((wrap64 (a0_1 + 1)), (Int.tmod (Go.bits .xor .i64 (wrap64 ((wrap64 ((wrap64 ((wrap64 ((wrap64 (rd l0_0 (Int.tmod (wrap64 ((wrap64 (a0_1 + 1)) - 1)) (l0_0.length : Int)))) * 131)) + (wrap64 ((wrap64 (rd l0_0 (Int.tmod (wrap64 ((wrap64 ((wrap64 ((wrap64 (a0_1 + 1)) - 1)) * 7)) + 3)) (l0_0.length : Int)))) * 1117)))) + (wrap64 ((wrap64 ((wrap64 (a0_1 + 1)) - 1)) * 29)))) + (wrap64 ((wrap64 (Int.tdiv (wrap64 ((wrap64 (a0_1 + 1)) - 1)) (l0_0.length : Int))) * 53)))) (wrap64 (Int.tdiv (wrap64 ((wrap64 ((wrap64 ((wrap64 ((wrap64 (rd l0_0 (Int.tmod (wrap64 ((wrap64 (a0_1 + 1)) - 1)) (l0_0.length : Int)))) * 131)) + (wrap64 ((wrap64 (rd l0_0 (Int.tmod (wrap64 ((wrap64 ((wrap64 ((wrap64 (a0_1 + 1)) - 1)) * 7)) + 3)) (l0_0.length : Int)))) * 1117)))) + (wrap64 ((wrap64 ((wrap64 (a0_1 + 1)) - 1)) * 29)))) + (wrap64 ((wrap64 (Int.tdiv (wrap64 ((wrap64 (a0_1 + 1)) - 1)) (l0_0.length : Int))) * 53)))) 64))) a1))) else none) else none) else none) else none) else none) else none) else none) else none)))
def spec_l40Rd_num.f (k : Nat) (l0_0 : List Int) (a0_1 : Int) (l1 : List Int) : Option (Int × Int) := (spec_l40Rd_pick.f k l0_0 a0_1 (l1.length : Int)).bind fun r1 => if 0 ≤ r1.2 then (if r1.2 < (l1.length : Int) then (some (r1.1, (rd l1 r1.2))) else none) else none
def spec_l40Open.f (k : Nat) (l0 : List Int) : Option (List Int × Int) := if (l0.length : Int) > 2000 then (if 2000 ≤ (l0.length : Int) then (some ((l0.take (2000 : Int).toNat), 0)) else none) else (some (l0, 0))
def impl_clone_int.f (l0 : List Int) : Option (List Int) := if l0.length ≤ 35184372088832 then some l0 else none
def cmp_Or_int.l0 : Nat → Int → List Int → Int → Int → Option (Int)
  | 0, _, _, _, _ => none
  | k + 1, x3, x6, x7, x8 => if x8 < x7 then (if 0 ≤ x8 then (if x8 < (x6.length : Int) then (if (rd x6 x8) = x3 then (cmp_Or_int.l0 k x3 x6 x7 (wrap64 (x8 + 1))) else (some (rd x6 x8))) else (none)) else (none)) else (some x3)
def cmp_Or_int.f (k : Nat) (l0 : List Int) : Option (Int) := cmp_Or_int.l0 k 0 l0 (l0.length : Int) 0
def cmp_isNaN_int.f (a0 : Int) : Option (Bool) := some (a0 != a0)
def cmp_Compare_int.f (k : Nat) (a0 : Int) (a1 : Int) : Option Int := (cmp_isNaN_int.f a0).bind fun r1 => (cmp_isNaN_int.f a1).bind fun r2 => if r1 = true then (if r2 = true then (some 0) else (some (-1))) else (if r2 = true then (some 1) else (if a0 < a1 then (some (-1)) else (if a0 > a1 then (some 1) else (some 0))))
def impl_clauseOf_1.f (k : Nat) (a0 : Int) (a1 : Int) : Option Int := (impl_atomOf.f a0).bind fun r1 => (impl_atomOf.f a1).bind fun r2 => (cmp_Compare_int.f k r1 r2).bind fun r3 => (cmp_Compare_int.f k a0 a1).bind fun r4 => (cmp_Or_int.f k [r3, r4]).bind fun r5 => some r5
mutual
def spec_l11Clause.j2 : Nat → List Int → Int → List Int → Int → Int → Option ((List Int) × Bool)
  | 0, _, _, _, _, _ => none
  | k + 1, l0, a1, x6, x7, r1 => if 0 ≤ x7 then (if x7 < (l0.length : Int) then (if 0 ≤ r1 then (if r1 < (x6.length : Int) then (spec_l11Clause.l1 k (x6.set r1.toNat (rd l0 x7)) (wrap64 (x7 + 1)) l0 a1) else none) else none) else none) else none
def spec_l11Clause.l3 : Nat → List Int → Int → Int → List Int → Option ((List Int) × Bool)
  | 0, _, _, _, _ => none
  | k + 1, x9q4, x10q4, a1, x6 => if x10q4 ≤ a1 then (if 0 ≤ x10q4 then (if x10q4 < (x6.length : Int) then (if (rd x6 x10q4) ≠ 0 then (if 0 ≤ x10q4 then (if x10q4 < (x6.length : Int) then (if x9q4.length + 1 ≤ 1099511627776 then (spec_l11Clause.l3 k (x9q4 ++ [(rd x6 x10q4)]) (wrap64 (x10q4 + 1)) a1 x6) else none) else none) else none) else (spec_l11Clause.l3 k x9q4 (wrap64 (x10q4 + 1)) a1 x6)) else none) else none) else (some (x9q4, true))
def spec_l11Clause.l1 : Nat → List Int → Int → List Int → Int → Option ((List Int) × Bool)
  | 0, _, _, _, _ => none
  | k + 1, x6, x7, l0, a1 => if x7 < (l0.length : Int) then (if 0 ≤ x7 then (if x7 < (l0.length : Int) then ((spec_l11Abs.f (rd l0 x7)).bind fun r1 => if 0 ≤ r1 then (if r1 < (x6.length : Int) then (if (rd x6 r1) ≠ 0 then (if 0 ≤ r1 then (if r1 < (x6.length : Int) then (if 0 ≤ x7 then (if x7 < (l0.length : Int) then (if (rd x6 r1) ≠ (rd l0 x7) then (some (([] : List Int), false)) else (spec_l11Clause.j2 k l0 a1 x6 x7 r1)) else none) else none) else none) else none) else (spec_l11Clause.j2 k l0 a1 x6 x7 r1)) else none) else none) else none) else none) else (spec_l11Clause.l3 k ([] : List Int) 1 a1 x6)
end
def spec_l11Clause.f (k : Nat) (l0 : List Int) (a1 : Int) : Option ((List Int) × Bool) := if 0 ≤ (wrap64 (a1 + 1)) then (if (wrap64 (a1 + 1)) ≤ 1099511627776 then (spec_l11Clause.l1 k (List.replicate (wrap64 (a1 + 1)).toNat (0 : Int)) 0 l0 a1) else none) else none
def laws_wcInts.l0 : Nat → List Int → List Int → Int → Int → Option (Bool)
  | 0, _, _, _, _ => none
  | k + 1, x1, x12, x13, x14 => if x14 < x13 then (if 0 ≤ x14 then (if x14 < (x12.length : Int) then (if x14 < (x1.length : Int) then (if (rd x1 x14) = (rd x12 x14) then (laws_wcInts.l0 k x1 x12 x13 (wrap64 (x14 + 1))) else (some false)) else (none)) else (none)) else (none)) else (some true)
def laws_wcInts.f (k : Nat) (l0 : List Int) (l1 : List Int) : Option (Bool) := if (l0.length : Int) = (l1.length : Int) then (laws_wcInts.l0 k l1 l0 (l0.length : Int) 0) else (some false)
mutual
def spec_l11Lits.j2 : Nat → Int → List Int → Int → Int → List Int → Int → Int × Int → Option (Int × (List Int))
  | 0, _, _, _, _, _, _, _ => none
  | k + 1, x9q2, l0_0, a1, a2, x7, x8, r2 => (spec_l2Has.f k x7 (wrap64 (-x9q2))).bind fun r3 => if r3 = true then (spec_l11Lits.l1 k r2.1 x7 (wrap64 (x8 + 1)) l0_0 a1 a2) else (if x7.length + 1 ≤ 1099511627776 then (spec_l11Lits.l1 k r2.1 (x7 ++ [x9q2]) (wrap64 (x8 + 1)) l0_0 a1 a2) else none)
def spec_l11Lits.l1 : Nat → Int → List Int → Int → List Int → Int → Int → Option (Int × (List Int))
  | 0, _, _, _, _, _, _ => none
  | k + 1, x0b1, x7, x8, l0_0, a1, a2 => if x8 < a2 then (if a1 > 0 then ((spec_l40Rd_pick.f k l0_0 x0b1 a1).bind fun r1 => (spec_l40Rd_pick.f k l0_0 r1.1 2).bind fun r2 => if r2.2 = 0 then (spec_l11Lits.j2 k (wrap64 (-(wrap64 (1 + r1.2)))) l0_0 a1 a2 x7 x8 r2) else (spec_l11Lits.j2 k (wrap64 (1 + r1.2)) l0_0 a1 a2 x7 x8 r2)) else ((spec_l11Clause.f k x7 a1).bind fun r4 => some (x0b1, r4.1))) else ((spec_l11Clause.f k x7 a1).bind fun r5 => some (x0b1, r5.1))
end
def spec_l11Lits.f (k : Nat) (l0_0 : List Int) (a0_1 : Int) (a1 : Int) (a2 : Int) : Option (Int × (List Int)) := spec_l11Lits.l1 k a0_1 ([] : List Int) 0 l0_0 a1 a2
mutual
def spec_DrawResolved.l1 : Nat → Int → (List Int × Int) → Int × Int → Int × (List Int) → Int × (List Int) → Option ((List Int) × (List Int) × Int)
  | 0, _, _, _, _, _ => none
  | k + 1, x9, r1, r2, r4, r6 => if x9 < (r4.2.length : Int) then (if 0 ≤ x9 then (if x9 < (r4.2.length : Int) then (if (rd r4.2 x9) > 0 then (if 0 ≤ x9 then (if x9 < (r4.2.length : Int) then ((spec_l2Has.f k r6.2 (wrap64 (-(rd r4.2 x9)))).bind fun r7 => if r7 = true then (if 0 ≤ x9 then (if x9 < (r4.2.length : Int) then (some (r4.2, r6.2, (rd r4.2 x9))) else none) else none) else (spec_DrawResolved.l1 k (wrap64 (x9 + 1)) r1 r2 r4 r6)) else none) else none) else (spec_DrawResolved.l1 k (wrap64 (x9 + 1)) r1 r2 r4 r6)) else none) else none) else ((spec_l40Rd_pick.f k r1.1 r6.1 12).bind fun r8 => if r8.2 = 0 then (some ([1, 701], [(-1)], 1)) else ((spec_l40Rd_pick.f k r1.1 r8.1 r2.2).bind fun r9 => some (r4.2, r6.2, (wrap64 (1 + r9.2)))))
end
def spec_DrawResolved.f (k : Nat) (l0 : List Int) : Option ((List Int) × (List Int) × Int) := (spec_l40Open.f k l0).bind fun r1 => (spec_l40Rd_num.f k r1.1 r1.2 [3, 4, 5]).bind fun r2 => (spec_l40Rd_num.f k r1.1 r2.1 [2, 3, 1]).bind fun r3 => (spec_l11Lits.f k r1.1 r3.1 r2.2 r3.2).bind fun r4 => (spec_l40Rd_num.f k r1.1 r4.1 [2, 3, 1]).bind fun r5 => (spec_l11Lits.f k r1.1 r5.1 r2.2 r5.2).bind fun r6 => spec_DrawResolved.l1 k 0 r1 r2 r4 r6
def slices_Index_int_int.l0 : Nat → List Int → Int → Int → Int → Option (Int)
  | 0, _, _, _, _ => none
  | k + 1, x0, x1, x7, x8 => if x8 < x7 then (if 0 ≤ x8 then (if x8 < (x0.length : Int) then (if x1 = (rd x0 x8) then (some x8) else (slices_Index_int_int.l0 k x0 x1 x7 (wrap64 (x8 + 1)))) else (none)) else (none)) else (some (-1))
def slices_Index_int_int.f (k : Nat) (l0 : List Int) (a1 : Int) : Option (Int) := slices_Index_int_int.l0 k l0 a1 (l0.length : Int) 0
def slices_Contains_int_int.f (k : Nat) (l0 : List Int) (a1 : Int) : Option (Bool) := (slices_Index_int_int.f k l0 a1).bind fun t687 => (some (decide (t687 ≥ 0)))
def spec_l3Copy.l0 : Nat → List Int → List Int → Int → Option (List Int)
  | 0, _, _, _ => none
  | k + 1, x0, x3, x4 => if x4 < (x0.length : Int) then (if 0 ≤ x4 then (if x3.length < 17592186044416 then (spec_l3Copy.l0 k x0 (x3 ++ [rd x0 x4]) (wrap64 (x4 + 1))) else (none)) else (none)) else (some x3)
def spec_l3Copy.f (k : Nat) (l0 : List Int) : Option (List Int) := spec_l3Copy.l0 k l0 (([] : List Int)) 0
def spec_l11Join.l0 : Nat → List Int → List Int → Int → Option (List Int)
  | 0, _, _, _ => none
  | k + 1, x1, x5, x6 => if x6 < (x1.length : Int) then (if 0 ≤ x6 then (if x5.length < 17592186044416 then (spec_l11Join.l0 k x1 (x5 ++ [rd x1 x6]) (wrap64 (x6 + 1))) else (none)) else (none)) else (some x5)
def spec_l11Join.f (k : Nat) (l0 : List Int) (l1 : List Int) : Option (List Int) := (spec_l3Copy.f k l0).bind fun t707 => (spec_l11Join.l0 k l1 t707 0)
def spec_l11Without.l0 : Nat → List Int → Int → List Int → Int → Option (List Int)
  | 0, _, _, _, _ => none
  | k + 1, x0, x1, x5, x6 => if x6 < (x0.length : Int) then (if 0 ≤ x6 then (if (rd x0 x6) = x1 then (spec_l11Without.l0 k x0 x1 x5 (wrap64 (x6 + 1))) else (if x5.length < 17592186044416 then (spec_l11Without.l0 k x0 x1 (x5 ++ [rd x0 x6]) (wrap64 (x6 + 1))) else (none))) else (none)) else (some x5)
def spec_l11Without.f (k : Nat) (l0 : List Int) (a1 : Int) : Option (List Int) := spec_l11Without.l0 k l0 a1 (([] : List Int)) 0
def spec_Resolved.f (k : Nat) (l0 : List Int) (l1 : List Int) (a2 : Int) : Option ((List Int) × Bool) := (spec_ClauseValid.f k l0 700).bind fun r1 => if r1 = true then ((spec_ClauseValid.f k l1 700).bind fun r2 => if r2 = true then (if a2 < 1 then (some (([] : List Int), false)) else ((spec_l2Has.f k l0 a2).bind fun r3 => if r3 = true then ((spec_l2Has.f k l1 (wrap64 (-a2))).bind fun r4 => if r4 = true then ((spec_l11Without.f k l0 a2).bind fun r5 => (spec_l11Without.f k l1 (wrap64 (-a2))).bind fun r6 => (spec_l11Join.f k r5 r6).bind fun r7 => (spec_l11Clause.f k r7 700).bind fun r8 => some (r8.1, r8.2)) else (some (([] : List Int), false))) else (some (([] : List Int), false)))) else (some (([] : List Int), false))) else (some (([] : List Int), false))
def impl_bitsValid_1.f (a0 : Int) : Option (Bool) := (impl_in.f a0 0 1).bind fun t739 => (some (!t739))
def slices_IndexFunc_at_impl_bitsValid_1.l0 : Nat → List Int → Int → Int → Option (Int)
  | 0, _, _, _ => none
  | k + 1, x0, x7, x8 => if x8 < x7 then (if 0 ≤ x8 then (if x8 < (x0.length : Int) then ((impl_bitsValid_1.f (rd x0 x8)).bind fun t741 => (if t741 = true then (some x8) else (slices_IndexFunc_at_impl_bitsValid_1.l0 k x0 x7 (wrap64 (x8 + 1))))) else (none)) else (none)) else (some (-1))
def slices_IndexFunc_at_impl_bitsValid_1.f (k : Nat) (l0 : List Int)  : Option (Int) := slices_IndexFunc_at_impl_bitsValid_1.l0 k l0 (l0.length : Int) 0
def slices_ContainsFunc_at_impl_bitsValid_1.f (k : Nat) (l0 : List Int)  : Option (Bool) := (slices_IndexFunc_at_impl_bitsValid_1.f k l0).bind fun t742 => (some (decide (t742 ≥ 0)))
def impl_bitsValid.f (k : Nat) (l0 : List Int) : Option (Bool) := (slices_ContainsFunc_at_impl_bitsValid_1.f k l0).bind fun t743 => (some (!t743))
def impl_trueIn_1_1.f (k : Nat) (a0 : Int) (l1 : List Int) : Option Bool := (impl_litTrue.f a0 l1).bind fun r1 => some r1
mutual
def slices_IndexFunc_int_int_at_impl_trueIn_1_1.l1 : Nat → Int → List Int → List Int → Option Int
  | 0, _, _, _ => none
  | k + 1, x8, l0, l2 => if x8 < (l0.length : Int) then (if 0 ≤ x8 then (if x8 < (l0.length : Int) then ((impl_trueIn_1_1.f k (rd l0 x8) l2).bind fun r1 => if r1 = true then (some x8) else (slices_IndexFunc_int_int_at_impl_trueIn_1_1.l1 k (wrap64 (x8 + 1)) l0 l2)) else none) else none) else (some (-1))
end
def slices_IndexFunc_int_int_at_impl_trueIn_1_1.f (k : Nat) (l0 : List Int) (l2 : List Int) : Option Int := slices_IndexFunc_int_int_at_impl_trueIn_1_1.l1 k 0 l0 l2
def slices_ContainsFunc_int_int_at_impl_trueIn_1_1.f (k : Nat) (l0 : List Int) (l2 : List Int) : Option Bool := (slices_IndexFunc_int_int_at_impl_trueIn_1_1.f k l0 l2).bind fun r1 => some (decide (r1 ≥ 0))
def impl_trueIn_1.f (k : Nat) (l0 : List Int) (l1 : List Int) : Option Bool := (slices_ContainsFunc_int_int_at_impl_trueIn_1_1.f k l0 l1).bind fun r1 => some (!r1)
mutual
def slices_IndexFunc_int_int_at_impl_trueIn_1.l1 : Nat → Int → List (List Int) → List Int → Option Int
  | 0, _, _, _ => none
  | k + 1, x8, l0, l2 => if x8 < (l0.length : Int) then (if 0 ≤ x8 then (if x8 < (l0.length : Int) then ((impl_trueIn_1.f k (rd_Lint l0 x8) l2).bind fun r1 => if r1 = true then (some x8) else (slices_IndexFunc_int_int_at_impl_trueIn_1.l1 k (wrap64 (x8 + 1)) l0 l2)) else none) else none) else (some (-1))
end
def slices_IndexFunc_int_int_at_impl_trueIn_1.f (k : Nat) (l0 : List (List Int)) (l2 : List Int) : Option Int := slices_IndexFunc_int_int_at_impl_trueIn_1.l1 k 0 l0 l2
def slices_ContainsFunc_int_int_at_impl_trueIn_1.f (k : Nat) (l0 : List (List Int)) (l2 : List Int) : Option Bool := (slices_IndexFunc_int_int_at_impl_trueIn_1.f k l0 l2).bind fun r1 => some (decide (r1 ≥ 0))
def impl_trueIn.f (k : Nat) (l0 : List (List Int)) (l1 : List Int) : Option Bool := (slices_ContainsFunc_int_int_at_impl_trueIn_1.f k l0 l1).bind fun r1 => some (!r1)
def slices_Clone_int_int.f (l0 : List Int) : Option (List Int) := if l0.length ≤ 1099511627776 then (some l0) else none
def len8tab : ByteArray := ⟨#[0, 1, 2, 2, 3, 3, 3, 3, 4, 4, 4, 4, 4, 4, 4, 4, 5, 5, 5, 5, 5, 5, 5, 5, 5, 5, 5, 5, 5, 5, 5, 5, 6, 6, 6, 6, 6, 6, 6, 6, 6, 6, 6, 6, 6, 6, 6, 6, 6, 6, 6, 6, 6, 6, 6, 6, 6, 6, 6, 6, 6, 6, 6, 6, 7, 7, 7, 7, 7, 7, 7, 7, 7, 7, 7, 7, 7, 7, 7, 7, 7, 7, 7, 7, 7, 7, 7, 7, 7, 7, 7, 7, 7, 7, 7, 7, 7, 7, 7, 7, 7, 7, 7, 7, 7, 7, 7, 7, 7, 7, 7, 7, 7, 7, 7, 7, 7, 7, 7, 7, 7, 7, 7, 7, 7, 7, 7, 7, 8, 8, 8, 8, 8, 8, 8, 8, 8, 8, 8, 8, 8, 8, 8, 8, 8, 8, 8, 8, 8, 8, 8, 8, 8, 8, 8, 8, 8, 8, 8, 8, 8, 8, 8, 8, 8, 8, 8, 8, 8, 8, 8, 8, 8, 8, 8, 8, 8, 8, 8, 8, 8, 8, 8, 8, 8, 8, 8, 8, 8, 8, 8, 8, 8, 8, 8, 8, 8, 8, 8, 8, 8, 8, 8, 8, 8, 8, 8, 8, 8, 8, 8, 8, 8, 8, 8, 8, 8, 8, 8, 8, 8, 8, 8, 8, 8, 8, 8, 8, 8, 8, 8, 8, 8, 8, 8, 8, 8, 8, 8, 8, 8, 8, 8, 8, 8, 8, 8, 8, 8, 8, 8, 8, 8, 8, 8, 8]⟩
def lenAt (s : ByteArray) (j : Int) : Int := (((s[j.toNat]?).map fun b => (b.toNat : Int)).getD 0)
mutual
def math_bits_Len64.j3 : Nat → Int → Int → Option Int
  | 0, _, _ => none
  | k + 1, x0q3, x2q3 => if 0 ≤ (IntKind.u8.wrap x0q3) then (if (IntKind.u8.wrap x0q3) < (len8tab.size : Int) then (some (wrap64 (x2q3 + (wrap64 (lenAt len8tab (IntKind.u8.wrap x0q3)))))) else none) else none
def math_bits_Len64.j2 : Nat → Int → Int → Option Int
  | 0, _, _ => none
  | k + 1, x0q2, x2q2 => if x0q2 ≥ 256 then (math_bits_Len64.j3 k (shr .u64 x0q2 8) (wrap64 (x2q2 + 8))) else (math_bits_Len64.j3 k x0q2 x2q2)
def math_bits_Len64.j1 : Nat → Int → Int → Option Int
  | 0, _, _ => none
  | k + 1, x0, x2 => if x0 ≥ 65536 then (math_bits_Len64.j2 k (shr .u64 x0 16) (wrap64 (x2 + 16))) else (math_bits_Len64.j2 k x0 x2)
end
def math_bits_Len64.f (k : Nat) (a0 : Int) : Option Int := if a0 ≥ 4294967296 then (math_bits_Len64.j1 k (shr .u64 a0 32) 32) else (math_bits_Len64.j1 k a0 0)
def math_bits_Len.f (k : Nat) (a0 : Int) : Option Int := (math_bits_Len64.f k a0).bind fun r1 => some r1
mutual
def slices_insertionSortCmpFunc_int_at_impl_clauseOf_1.l2 : Nat → List Int → Int → Int → Int → Int → Option (List Int)
  | 0, _, _, _, _, _ => none
  | k + 1, x0q3, x9q2, a1, a2, x8 => if x9q2 > a1 then (if 0 ≤ x9q2 then (if x9q2 < (x0q3.length : Int) then (if 0 ≤ (wrap64 (x9q2 - 1)) then (if (wrap64 (x9q2 - 1)) < (x0q3.length : Int) then ((impl_clauseOf_1.f k (rd x0q3 x9q2) (rd x0q3 (wrap64 (x9q2 - 1)))).bind fun r1 => if r1 < 0 then (if 0 ≤ (wrap64 (x9q2 - 1)) then (if (wrap64 (x9q2 - 1)) < (x0q3.length : Int) then (if 0 ≤ x9q2 then (if x9q2 < (x0q3.length : Int) then (if 0 ≤ x9q2 then (if x9q2 < (x0q3.length : Int) then (if 0 ≤ (wrap64 (x9q2 - 1)) then (if (wrap64 (x9q2 - 1)) < ((x0q3.set x9q2.toNat (rd x0q3 (wrap64 (x9q2 - 1)))).length : Int) then (slices_insertionSortCmpFunc_int_at_impl_clauseOf_1.l2 k ((x0q3.set x9q2.toNat (rd x0q3 (wrap64 (x9q2 - 1)))).set (wrap64 (x9q2 - 1)).toNat (rd x0q3 x9q2)) (wrap64 (x9q2 - 1)) a1 a2 x8) else none) else none) else none) else none) else none) else none) else none) else none) else (slices_insertionSortCmpFunc_int_at_impl_clauseOf_1.l1 k x0q3 (wrap64 (x8 + 1)) a1 a2)) else none) else none) else none) else none) else (slices_insertionSortCmpFunc_int_at_impl_clauseOf_1.l1 k x0q3 (wrap64 (x8 + 1)) a1 a2)
def slices_insertionSortCmpFunc_int_at_impl_clauseOf_1.l1 : Nat → List Int → Int → Int → Int → Option (List Int)
  | 0, _, _, _, _ => none
  | k + 1, x0q2, x8, a1, a2 => if x8 < a2 then (slices_insertionSortCmpFunc_int_at_impl_clauseOf_1.l2 k x0q2 x8 a1 a2 x8) else (some x0q2)
end
def slices_insertionSortCmpFunc_int_at_impl_clauseOf_1.f (k : Nat) (l0 : List Int) (a1 : Int) (a2 : Int) : Option (List Int) := slices_insertionSortCmpFunc_int_at_impl_clauseOf_1.l1 k l0 (wrap64 (a1 + 1)) a1 a2
mutual
def slices_pdqsortCmpFunc_int_at_impl_clauseOf_1.l1 : Nat → List Int → Int → Int → Int → Option (List Int)
  | 0, _, _, _, _ => none
  | k + 1, l0, a1, a2, a3 => if (wrap64 (a2 - a1)) ≤ 12 then ((slices_insertionSortCmpFunc_int_at_impl_clauseOf_1.f k l0 a1 a2).bind fun r1 => some r1) else (if a3 = 0 then (Option.none) else (Option.none))
end
def slices_pdqsortCmpFunc_int_at_impl_clauseOf_1.f (k : Nat) (l0 : List Int) (a1 : Int) (a2 : Int) (a3 : Int) : Option (List Int) := slices_pdqsortCmpFunc_int_at_impl_clauseOf_1.l1 k l0 a1 a2 a3
def slices_SortFunc_int_int_at_impl_clauseOf_1.f (k : Nat) (l0 : List Int) : Option (List Int) := (math_bits_Len.f k (IntKind.u64.wrap (l0.length : Int))).bind fun r1 => (slices_pdqsortCmpFunc_int_at_impl_clauseOf_1.f k l0 0 (l0.length : Int) r1).bind fun r2 => some r2
mutual
def slices_Compact_int_int.l2 : Nat → List Int → Int → Int → Int → Option (List Int)
  | 0, _, _, _, _ => none
  | k + 1, x0q4, x3q5, x5q4, x3q3 => if x5q4 < ((x0q4.length - (x3q3 : Int).toNat : Nat) : Int) then (if 0 ≤ x5q4 then (if x5q4 < ((x0q4.length - (x3q3 : Int).toNat : Nat) : Int) then (if 0 ≤ (wrap64 (x5q4 - 1)) then (if (wrap64 (x5q4 - 1)) < ((x0q4.length - (x3q3 : Int).toNat : Nat) : Int) then (if (rd x0q4 (x3q3 + x5q4)) ≠ (rd x0q4 (x3q3 + (wrap64 (x5q4 - 1)))) then (if 0 ≤ x5q4 then (if x5q4 < ((x0q4.length - (x3q3 : Int).toNat : Nat) : Int) then (if 0 ≤ x3q5 then (if x3q5 < (x0q4.length : Int) then (slices_Compact_int_int.l2 k (x0q4.set x3q5.toNat (rd x0q4 (x3q3 + x5q4))) (wrap64 (x3q5 + 1)) (wrap64 (x5q4 + 1)) x3q3) else none) else none) else none) else none) else (slices_Compact_int_int.l2 k x0q4 x3q5 (wrap64 (x5q4 + 1)) x3q3)) else none) else none) else none) else none) else (if 0 < (x0q4.length : Int) then (if 0 ≤ x3q5 then (if x3q5 ≤ (x0q4.length : Int) then (if 0 < ((x0q4.take (x3q5 : Int).toNat ++ List.replicate (x0q4.length - (x3q5 : Int).toNat) (0 : Int)).length : Int) then (if 0 ≤ x3q5 then (if x3q5 ≤ ((x0q4.take (x3q5 : Int).toNat ++ List.replicate (x0q4.length - (x3q5 : Int).toNat) (0 : Int)).length : Int) then (some ((x0q4.take (x3q5 : Int).toNat ++ List.replicate (x0q4.length - (x3q5 : Int).toNat) (0 : Int)).take (x3q5 : Int).toNat)) else none) else none) else none) else none) else none) else none)
def slices_Compact_int_int.l1 : Nat → Int → List Int → Option (List Int)
  | 0, _, _ => none
  | k + 1, x3q3, l0 => if x3q3 < (l0.length : Int) then (if 0 ≤ x3q3 then (if x3q3 < (l0.length : Int) then (if 0 ≤ (wrap64 (x3q3 - 1)) then (if (wrap64 (x3q3 - 1)) < (l0.length : Int) then (if (rd l0 x3q3) = (rd l0 (wrap64 (x3q3 - 1))) then (if 0 < (l0.length : Int) then (if 0 ≤ x3q3 then (if x3q3 ≤ (l0.length : Int) then (slices_Compact_int_int.l2 k l0 x3q3 1 x3q3) else none) else none) else none) else (slices_Compact_int_int.l1 k (wrap64 (x3q3 + 1)) l0)) else none) else none) else none) else none) else (some l0)
end
def slices_Compact_int_int.f (k : Nat) (l0 : List Int) : Option (List Int) := if (l0.length : Int) < 2 then (some l0) else (slices_Compact_int_int.l1 k 1 l0)
mutual
def impl_clauseOf.l1 : Nat → Int → List Int → Option ((List Int) × Bool)
  | 0, _, _ => none
  | k + 1, x5, r3 => if x5 < (r3.length : Int) then (if 0 ≤ x5 then (if x5 < (r3.length : Int) then (if 0 ≤ (wrap64 (x5 - 1)) then (if (wrap64 (x5 - 1)) < (r3.length : Int) then (if (rd r3 x5) = (wrap64 (-(rd r3 (wrap64 (x5 - 1))))) then (some (([] : List Int), false)) else (impl_clauseOf.l1 k (wrap64 (x5 + 1)) r3)) else none) else none) else none) else none) else ((impl_clone_int.f r3).bind fun r4 => some (r4, true))
end
def impl_clauseOf.f (k : Nat) (l0 : List Int) : Option ((List Int) × Bool) := (slices_Clone_int_int.f l0).bind fun r1 => (slices_SortFunc_int_int_at_impl_clauseOf_1.f k r1).bind fun r2 => (slices_Compact_int_int.f k r2).bind fun r3 => impl_clauseOf.l1 k 1 r3
mutual
def impl_Resolved.l2 : Nat → List Int → Int → List Int → Int → Option ((List Int) × Bool)
  | 0, _, _, _, _ => none
  | k + 1, x8q5, x54q4, l1, a2 => if x54q4 < (l1.length : Int) then (if 0 ≤ x54q4 then (if x54q4 < (l1.length : Int) then (if (rd l1 x54q4) ≠ (wrap64 (-a2)) then (if x8q5.length + 1 ≤ 1099511627776 then (impl_Resolved.l2 k (x8q5 ++ [(rd l1 x54q4)]) (wrap64 (x54q4 + 1)) l1 a2) else none) else (impl_Resolved.l2 k x8q5 (wrap64 (x54q4 + 1)) l1 a2)) else none) else none) else ((impl_clauseOf.f k x8q5).bind fun r5 => some (r5.1, r5.2))
def impl_Resolved.l1 : Nat → List Int → Int → List Int → List Int → Int → Option ((List Int) × Bool)
  | 0, _, _, _, _, _ => none
  | k + 1, x8q3, x40, l0, l1, a2 => if x40 < (l0.length : Int) then (if 0 ≤ x40 then (if x40 < (l0.length : Int) then (if (rd l0 x40) ≠ a2 then (if x8q3.length + 1 ≤ 1099511627776 then (impl_Resolved.l1 k (x8q3 ++ [(rd l0 x40)]) (wrap64 (x40 + 1)) l0 l1 a2) else none) else (impl_Resolved.l1 k x8q3 (wrap64 (x40 + 1)) l0 l1 a2)) else none) else none) else (impl_Resolved.l2 k x8q3 0 l1 a2)
end
def impl_Resolved.f (k : Nat) (l0 : List Int) (l1 : List Int) (a2 : Int) : Option ((List Int) × Bool) := (impl_ClauseValid.f k l0 700).bind fun r1 => if r1 = true then ((impl_ClauseValid.f k l1 700).bind fun r2 => if r2 = true then (if a2 ≤ 0 then (some (([] : List Int), false)) else ((slices_Contains_int_int.f k l0 a2).bind fun r3 => if r3 = true then ((slices_Contains_int_int.f k l1 (wrap64 (-a2))).bind fun r4 => if r4 = true then (impl_Resolved.l1 k ([] : List Int) 0 l0 l1 a2) else (some (([] : List Int), false))) else (some (([] : List Int), false)))) else (some (([] : List Int), false))) else (some (([] : List Int), false))
def impl_TrueIn.f (k : Nat) (a0_0 : Int) (l0_1 : List (List Int)) (l1 : List Int) : Option Bool := (impl_ClausesValid.f k a0_0 l0_1).bind fun r1 => if r1 = true then (if (l1.length : Int) = a0_0 then ((impl_bitsValid.f k l1).bind fun r2 => if r2 = true then ((impl_trueIn.f k l0_1 l1).bind fun r3 => some r3) else (some false)) else (some false)) else (some false)
mutual
def laws_FnResolved.j1 : Nat → Bool → Option Bool
  | 0, _ => none
  | k + 1, x2q5 => some x2q5
def laws_FnResolved.l2 : Nat → Int → (List Int) × (List Int) × Int → (List Int) × Bool → Option Bool
  | 0, _, _, _ => none
  | k + 1, x72, r1, r2 => if x72 < 64 then ((impl_TrueIn.f k 6 [r1.1, r1.2.1] [(Int.tmod x72 2), (Int.tmod (wrap64 (Int.tdiv x72 2)) 2), (Int.tmod (wrap64 (Int.tdiv x72 4)) 2), (Int.tmod (wrap64 (Int.tdiv x72 8)) 2), (Int.tmod (wrap64 (Int.tdiv x72 16)) 2), (wrap64 (Int.tdiv x72 32))]).bind fun r7 => if r7 = true then ((impl_TrueIn.f k 6 [r2.1] [(Int.tmod x72 2), (Int.tmod (wrap64 (Int.tdiv x72 2)) 2), (Int.tmod (wrap64 (Int.tdiv x72 4)) 2), (Int.tmod (wrap64 (Int.tdiv x72 8)) 2), (Int.tmod (wrap64 (Int.tdiv x72 16)) 2), (wrap64 (Int.tdiv x72 32))]).bind fun r8 => if r8 = true then (laws_FnResolved.l2 k (wrap64 (x72 + 1)) r1 r2) else (some false)) else (laws_FnResolved.l2 k (wrap64 (x72 + 1)) r1 r2)) else ((impl_ClauseValid.f k r2.1 6).bind fun r9 => some r9)
def laws_FnResolved.j3 : Nat → Bool → Option Bool
  | 0, _ => none
  | k + 1, x2q7 => some x2q7
def laws_FnResolved.j4 : Nat → Bool → Option Bool
  | 0, _ => none
  | k + 1, x2q8 => some x2q8
end
def laws_FnResolved.f (k : Nat) (l0 : List Int) : Option Bool := if (l0.length : Int) > 1048576 then (some true) else ((spec_DrawResolved.f k l0).bind fun r1 => (impl_Resolved.f k r1.1 r1.2.1 r1.2.2).bind fun r2 => (spec_Resolved.f k r1.1 r1.2.1 r1.2.2).bind fun r3 => if r2.2 ≠ r3.2 then (if r2.2 = r3.2 then (if (r2.1.length : Int) = 0 then ((impl_ClauseValid.f k r1.1 700).bind fun r4 => (spec_ClauseValid.f k r1.1 700).bind fun r5 => laws_FnResolved.j1 k (r4 == r5)) else (laws_FnResolved.j1 k false)) else (laws_FnResolved.j1 k false)) else ((laws_wcInts.f k r2.1 r3.1).bind fun r6 => if r6 = true then (if r2.2 = true then (laws_FnResolved.l2 k 0 r1 r2) else (if r2.2 = r3.2 then (if (r2.1.length : Int) = 0 then ((impl_ClauseValid.f k r1.1 700).bind fun r10 => (spec_ClauseValid.f k r1.1 700).bind fun r11 => laws_FnResolved.j3 k (r10 == r11)) else (laws_FnResolved.j3 k false)) else (laws_FnResolved.j3 k false))) else (if r2.2 = r3.2 then (if (r2.1.length : Int) = 0 then ((impl_ClauseValid.f k r1.1 700).bind fun r12 => (spec_ClauseValid.f k r1.1 700).bind fun r13 => laws_FnResolved.j4 k (r12 == r13)) else (laws_FnResolved.j4 k false)) else (laws_FnResolved.j4 k false))))
end Go.Proofs.Ytaajnneigmgikaa.PA
