/- Types and the Lean functions that the walks are told against. No conditions. -/
import Derived.Test.YtaajnneigmgikaaProg
import Derived.Below
import Derived.Deep.Draws
import Derived.Deep.AppendLies
import Derived.Maps.AppendAt
import Derived.OwnWalk
import Derived.Laws.BytesArg
import Derived.Laws.MakeOwn
import Derived.Laws.OwnMore
import Derived.Deep.OwnRows
import Derived.Tactics
import Derived.Lib.ConvBytes
import Derived.Laws.Slices
import Derived.WalkKit
import Derived.KernelRfl
import Derived.RowKit3
import Derived.Deep.LoopGhost
import Derived.Deep.QuietTactic
import Derived.BigQuiet
import Derived.WideLaws
import Derived.Deep.DeepCutAuto
import Derived.Deep.CutBlock
import Derived.Deep.RegionHeld3
import Derived.Laws.Rows
import Derived.Lib.AppendStr
import Derived.ArgAppend
import Derived.Laws.IdiomCopy
import Derived.OrdersHeld
import Derived.Laws.BitsLemmas
import Derived.RowKit
import Derived.Laws.StructEq
import Derived.Lib.SliceRun
import Derived.WalkSpells
import Derived.ChangeArms
import Derived.ChangeSlices
import Derived.Deep.Slices
import Derived.Test.YtaajnneigmgikaaKW829822effb
namespace Go.Proofs.Ytaajnneigmgikaa.PA
open Go.RowKit Go.Proofs.YtaajnneigmgikaaW.PrintWords Go.Proofs.YtaajnneigmgikaaW.PrintLast Go.Proofs.YtaajnneigmgikaaW.PrintMore
attribute [local go_sem] max2_int min2_int max_two min_two max_three min_three max_four min_four   -- for this text's walks alone
set_option linter.unusedVariables false
set_option linter.unusedSimpArgs false
def spec_l1In.f (a0 : Int) (a1 : Int) (a2 : Int) : Option (Bool) := if a0 ≥ a1 then (some (decide (a0 ≤ a2))) else (some false)
def spec_l11Lit.f (a0 : Int) (a1 : Int) : Option (Bool) := if a0 = 0 then (some false) else ((spec_l1In.f a0 (wrap64 (-a1)) a1).bind fun t107 => (some t107))
def spec_l11Abs.f (a0 : Int) : Option (Int) := if a0 < 0 then (some (wrap64 (-a0))) else (some a0)
def impl_in.f (a0 : Int) (a1 : Int) (a2 : Int) : Option (Bool) := if a0 ≥ a1 then (some (decide (a0 ≤ a2))) else (some false)
def impl_atomOf.f (a0 : Int) : Option (Int) := some (mx a0 (wrap64 (-a0)))
mutual
def impl_ClauseValid.l0 : Nat → List Int → Int → List Int → Int → Int → Option (Bool)
  | 0, _, _, _, _, _ => none
  | k + 1, x0, x1, x10, x11, x12 => if x12 < x11 then (if 0 ≤ x12 then (if x12 < (x10.length : Int) then ((impl_in.f (rd x10 x12) (wrap64 (-x1)) x1).bind fun t298 => (if t298 = true then (if (rd x10 x12) = 0 then (impl_ClauseValid.j1 k x0 x1 x10 x11 x12 true) else (if x12 > 0 then (if 0 ≤ (wrap64 (x12 - 1)) then (if (wrap64 (x12 - 1)) < (x0.length : Int) then ((impl_atomOf.f (rd x0 (wrap64 (x12 - 1)))).bind fun t300 => ((impl_atomOf.f (rd x10 x12)).bind fun t301 => (impl_ClauseValid.j1 k x0 x1 x10 x11 x12 (decide (t300 ≥ t301))))) else (none)) else (none)) else (impl_ClauseValid.j1 k x0 x1 x10 x11 x12 false))) else (impl_ClauseValid.j1 k x0 x1 x10 x11 x12 true))) else (none)) else (none)) else (some true)
def impl_ClauseValid.j1 : Nat → List Int → Int → List Int → Int → Int → Bool → Option (Bool)
  | 0, _, _, _, _, _, _ => none
  | k + 1, x0, x1, x10, x11, x12, x41 => if x41 = true then (some false) else (impl_ClauseValid.l0 k x0 x1 x10 x11 (wrap64 (x12 + 1)))
end
def impl_ClauseValid.f (k : Nat) (l0 : List Int) (a1 : Int) : Option (Bool) := (impl_in.f a1 0 700).bind fun t296 => (if t296 = true then (impl_ClauseValid.l0 k l0 a1 l0 (l0.length : Int) 0) else (some false))
def spec_l40Rd_pick.f (k : Nat) (l0_0 : List Int) (a0_1 : Int) (a1 : Int) : Option (Int × Int) := if a1 < 1 then (some ((wrap64 (a0_1 + 1)), 0)) else (if (l0_0.length : Int) = 0 then (some ((wrap64 (a0_1 + 1)), 0)) else (if (wrap64 ((wrap64 (a0_1 + 1)) - 1)) < (l0_0.length : Int) then (if 0 ≤ (wrap64 ((wrap64 (a0_1 + 1)) - 1)) then (if (wrap64 ((wrap64 (a0_1 + 1)) - 1)) < (l0_0.length : Int) then (if a1 ≠ 0 then (some ((wrap64 (a0_1 + 1)), (Int.tmod (wrap64 (rd l0_0 (wrap64 ((wrap64 (a0_1 + 1)) - 1)))) a1))) else none) else none) else none) else (if (l0_0.length : Int) ≠ 0 then (if 0 ≤ (Int.tmod (wrap64 ((wrap64 (a0_1 + 1)) - 1)) (l0_0.length : Int)) then (if (Int.tmod (wrap64 ((wrap64 (a0_1 + 1)) - 1)) (l0_0.length : Int)) < (l0_0.length : Int) then (if (l0_0.length : Int) ≠ 0 then (if 0 ≤ (Int.tmod (wrap64 ((wrap64 ((wrap64 ((wrap64 (a0_1 + 1)) - 1)) * 7)) + 3)) (l0_0.length : Int)) then (if (Int.tmod (wrap64 ((wrap64 ((wrap64 ((wrap64 (a0_1 + 1)) - 1)) * 7)) + 3)) (l0_0.length : Int)) < (l0_0.length : Int) then (if (l0_0.length : Int) ≠ 0 then (if a1 ≠ 0 then (some ((wrap64 (a0_1 + 1)), (Int.tmod (Go.bits .xor .i64 (wrap64 ((wrap64 ((wrap64 ((wrap64 ((wrap64 (rd l0_0 (Int.tmod (wrap64 ((wrap64 (a0_1 + 1)) - 1)) (l0_0.length : Int)))) * 131)) + (wrap64 ((wrap64 (rd l0_0 (Int.tmod (wrap64 ((wrap64 ((wrap64 ((wrap64 (a0_1 + 1)) - 1)) * 7)) + 3)) (l0_0.length : Int)))) * 1117)))) + (wrap64 ((wrap64 ((wrap64 (a0_1 + 1)) - 1)) * 29)))) + (wrap64 ((wrap64 (Int.tdiv (wrap64 ((wrap64 (a0_1 + 1)) - 1)) (l0_0.length : Int))) * 53)))) (wrap64 (Int.tdiv (wrap64 ((wrap64 ((wrap64 ((wrap64 ((wrap64 (rd l0_0 (Int.tmod (wrap64 ((wrap64 (a0_1 + 1)) - 1)) (l0_0.length : Int)))) * 131)) + (wrap64 ((wrap64 (rd l0_0 (Int.tmod (wrap64 ((wrap64 ((wrap64 ((wrap64 (a0_1 + 1)) - 1)) * 7)) + 3)) (l0_0.length : Int)))) * 1117)))) + (wrap64 ((wrap64 ((wrap64 (a0_1 + 1)) - 1)) * 29)))) + (wrap64 ((wrap64 (Int.tdiv (wrap64 ((wrap64 (a0_1 + 1)) - 1)) (l0_0.length : Int))) * 53)))) 64))) a1))) else none) else none) else none) else none) else none) else none) else none) else none)))
def spec_l40Rd_num.f (k : Nat) (l0_0 : List Int) (a0_1 : Int) (l1 : List Int) : Option (Int × Int) := (spec_l40Rd_pick.f k l0_0 a0_1 (l1.length : Int)).bind fun r1 => if 0 ≤ r1.2 then (if r1.2 < (l1.length : Int) then (some (r1.1, (rd l1 r1.2))) else none) else none
def spec_l40Open.f (k : Nat) (l0 : List Int) : Option (List Int × Int) := if (l0.length : Int) > 2000 then (if 2000 ≤ (l0.length : Int) then (some ((l0.take (2000 : Int).toNat), 0)) else none) else (some (l0, 0))
mutual
def spec_DrawClauseOf.l1 : Nat → Int → List Int → Int → (List Int × Int) → Int × Int → Option ((List Int) × Int)
  | 0, _, _, _, _, _ => none
  | k + 1, x4b1, x6, x7, r1, r2 => if x7 > 0 then ((spec_l40Rd_pick.f k r1.1 x4b1 9).bind fun r4 => (spec_l40Rd_num.f k r1.1 r4.1 [1, 2, 3, (-1), (-2), 4, (wrap64 (r4.2 - 4))]).bind fun r5 => if x6.length + 1 ≤ 1099511627776 then (spec_DrawClauseOf.l1 k r5.1 (x6 ++ [r5.2]) (wrap64 (x7 - 1)) r1 r2) else none) else (some (x6, r2.2))
end
def spec_DrawClauseOf.f (k : Nat) (l0 : List Int) : Option ((List Int) × Int) := (spec_l40Open.f k l0).bind fun r1 => (spec_l40Rd_num.f k r1.1 r1.2 [3, 4, 6, 1, 0, 701, (-1)]).bind fun r2 => (spec_l40Rd_pick.f k r1.1 r2.1 6).bind fun r3 => spec_DrawClauseOf.l1 k r3.1 ([] : List Int) r3.2 r1 r2
def impl_clone_int.f (l0 : List Int) : Option (List Int) := if l0.length ≤ 35184372088832 then some l0 else none
def cmp_Or_int.l0 : Nat → Int → List Int → Int → Int → Option (Int)
  | 0, _, _, _, _ => none
  | k + 1, x3, x6, x7, x8 => if x8 < x7 then (if 0 ≤ x8 then (if x8 < (x6.length : Int) then (if (rd x6 x8) = x3 then (cmp_Or_int.l0 k x3 x6 x7 (wrap64 (x8 + 1))) else (some (rd x6 x8))) else (none)) else (none)) else (some x3)
def cmp_Or_int.f (k : Nat) (l0 : List Int) : Option (Int) := cmp_Or_int.l0 k 0 l0 (l0.length : Int) 0
def cmp_isNaN_int.f (a0 : Int) : Option (Bool) := some (a0 != a0)
def cmp_Compare_int.f (k : Nat) (a0 : Int) (a1 : Int) : Option Int := (cmp_isNaN_int.f a0).bind fun r1 => (cmp_isNaN_int.f a1).bind fun r2 => if r1 = true then (if r2 = true then (some 0) else (some (-1))) else (if r2 = true then (some 1) else (if a0 < a1 then (some (-1)) else (if a0 > a1 then (some 1) else (some 0))))
def impl_clauseOf_1.f (k : Nat) (a0 : Int) (a1 : Int) : Option Int := (impl_atomOf.f a0).bind fun r1 => (impl_atomOf.f a1).bind fun r2 => (cmp_Compare_int.f k r1 r2).bind fun r3 => (cmp_Compare_int.f k a0 a1).bind fun r4 => (cmp_Or_int.f k [r3, r4]).bind fun r5 => some r5
mutual
def spec_l11Clause.j2 : Nat → List Int → Int → List Int → Int → Int → Option ((List Int) × Bool)
  | 0, _, _, _, _, _ => none
  | k + 1, l0, a1, x6, x7, r1 => if 0 ≤ x7 then (if x7 < (l0.length : Int) then (if 0 ≤ r1 then (if r1 < (x6.length : Int) then (spec_l11Clause.l1 k (x6.set r1.toNat (rd l0 x7)) (wrap64 (x7 + 1)) l0 a1) else none) else none) else none) else none
def spec_l11Clause.l3 : Nat → List Int → Int → Int → List Int → Option ((List Int) × Bool)
  | 0, _, _, _, _ => none
  | k + 1, x9q4, x10q4, a1, x6 => if x10q4 ≤ a1 then (if 0 ≤ x10q4 then (if x10q4 < (x6.length : Int) then (if (rd x6 x10q4) ≠ 0 then (if 0 ≤ x10q4 then (if x10q4 < (x6.length : Int) then (if x9q4.length + 1 ≤ 1099511627776 then (spec_l11Clause.l3 k (x9q4 ++ [(rd x6 x10q4)]) (wrap64 (x10q4 + 1)) a1 x6) else none) else none) else none) else (spec_l11Clause.l3 k x9q4 (wrap64 (x10q4 + 1)) a1 x6)) else none) else none) else (some (x9q4, true))
def spec_l11Clause.l1 : Nat → List Int → Int → List Int → Int → Option ((List Int) × Bool)
  | 0, _, _, _, _ => none
  | k + 1, x6, x7, l0, a1 => if x7 < (l0.length : Int) then (if 0 ≤ x7 then (if x7 < (l0.length : Int) then ((spec_l11Abs.f (rd l0 x7)).bind fun r1 => if 0 ≤ r1 then (if r1 < (x6.length : Int) then (if (rd x6 r1) ≠ 0 then (if 0 ≤ r1 then (if r1 < (x6.length : Int) then (if 0 ≤ x7 then (if x7 < (l0.length : Int) then (if (rd x6 r1) ≠ (rd l0 x7) then (some (([] : List Int), false)) else (spec_l11Clause.j2 k l0 a1 x6 x7 r1)) else none) else none) else none) else none) else (spec_l11Clause.j2 k l0 a1 x6 x7 r1)) else none) else none) else none) else none) else (spec_l11Clause.l3 k ([] : List Int) 1 a1 x6)
end
def spec_l11Clause.f (k : Nat) (l0 : List Int) (a1 : Int) : Option ((List Int) × Bool) := if 0 ≤ (wrap64 (a1 + 1)) then (if (wrap64 (a1 + 1)) ≤ 1099511627776 then (spec_l11Clause.l1 k (List.replicate (wrap64 (a1 + 1)).toNat (0 : Int)) 0 l0 a1) else none) else none
mutual
def spec_ClauseOf.l1 : Nat → Int → List Int → Int → Option ((List Int) × Bool)
  | 0, _, _, _ => none
  | k + 1, x6, l0, a1 => if x6 < (l0.length : Int) then (if 0 ≤ x6 then (if x6 < (l0.length : Int) then ((spec_l11Lit.f (rd l0 x6) a1).bind fun r2 => if r2 = true then (spec_ClauseOf.l1 k (wrap64 (x6 + 1)) l0 a1) else (some (([] : List Int), false))) else none) else none) else ((spec_l11Clause.f k l0 a1).bind fun r3 => some (r3.1, r3.2))
end
def spec_ClauseOf.f (k : Nat) (l0 : List Int) (a1 : Int) : Option ((List Int) × Bool) := (spec_l1In.f a1 0 700).bind fun r1 => if r1 = true then (spec_ClauseOf.l1 k 0 l0 a1) else (some (([] : List Int), false))
def laws_wcInts.l0 : Nat → List Int → List Int → Int → Int → Option (Bool)
  | 0, _, _, _, _ => none
  | k + 1, x1, x12, x13, x14 => if x14 < x13 then (if 0 ≤ x14 then (if x14 < (x12.length : Int) then (if x14 < (x1.length : Int) then (if (rd x1 x14) = (rd x12 x14) then (laws_wcInts.l0 k x1 x12 x13 (wrap64 (x14 + 1))) else (some false)) else (none)) else (none)) else (none)) else (some true)
def laws_wcInts.f (k : Nat) (l0 : List Int) (l1 : List Int) : Option (Bool) := if (l0.length : Int) = (l1.length : Int) then (laws_wcInts.l0 k l1 l0 (l0.length : Int) 0) else (some false)
def laws_wcHas.l0 : Nat → Int → List Int → Int → Int → Option (Bool)
  | 0, _, _, _, _ => none
  | k + 1, x1, x7, x8, x9 => if x9 < x8 then (if 0 ≤ x9 then (if x9 < (x7.length : Int) then (if (rd x7 x9) = x1 then (some true) else (laws_wcHas.l0 k x1 x7 x8 (wrap64 (x9 + 1)))) else (none)) else (none)) else (some false)
def laws_wcHas.f (k : Nat) (l0 : List Int) (a1 : Int) : Option (Bool) := laws_wcHas.l0 k a1 l0 (l0.length : Int) 0
def impl_ClauseOf_1.f (k : Nat) (a0 : Int) (a1 : Int) : Option Bool := if a0 = 0 then (some true) else ((impl_in.f a0 (wrap64 (-a1)) a1).bind fun r1 => some (!r1))
mutual
def slices_IndexFunc_int_int_at_impl_ClauseOf_1.l1 : Nat → Int → List Int → Int → Option Int
  | 0, _, _, _ => none
  | k + 1, x8, l0, a2 => if x8 < (l0.length : Int) then (if 0 ≤ x8 then (if x8 < (l0.length : Int) then ((impl_ClauseOf_1.f k (rd l0 x8) a2).bind fun r1 => if r1 = true then (some x8) else (slices_IndexFunc_int_int_at_impl_ClauseOf_1.l1 k (wrap64 (x8 + 1)) l0 a2)) else none) else none) else (some (-1))
end
def slices_IndexFunc_int_int_at_impl_ClauseOf_1.f (k : Nat) (l0 : List Int) (a2 : Int) : Option Int := slices_IndexFunc_int_int_at_impl_ClauseOf_1.l1 k 0 l0 a2
def slices_ContainsFunc_int_int_at_impl_ClauseOf_1.f (k : Nat) (l0 : List Int) (a2 : Int) : Option Bool := (slices_IndexFunc_int_int_at_impl_ClauseOf_1.f k l0 a2).bind fun r1 => some (decide (r1 ≥ 0))
def slices_Clone_int_int.f (l0 : List Int) : Option (List Int) := if l0.length ≤ 1099511627776 then (some l0) else none
def len8tab : ByteArray := ⟨#[0, 1, 2, 2, 3, 3, 3, 3, 4, 4, 4, 4, 4, 4, 4, 4, 5, 5, 5, 5, 5, 5, 5, 5, 5, 5, 5, 5, 5, 5, 5, 5, 6, 6, 6, 6, 6, 6, 6, 6, 6, 6, 6, 6, 6, 6, 6, 6, 6, 6, 6, 6, 6, 6, 6, 6, 6, 6, 6, 6, 6, 6, 6, 6, 7, 7, 7, 7, 7, 7, 7, 7, 7, 7, 7, 7, 7, 7, 7, 7, 7, 7, 7, 7, 7, 7, 7, 7, 7, 7, 7, 7, 7, 7, 7, 7, 7, 7, 7, 7, 7, 7, 7, 7, 7, 7, 7, 7, 7, 7, 7, 7, 7, 7, 7, 7, 7, 7, 7, 7, 7, 7, 7, 7, 7, 7, 7, 7, 8, 8, 8, 8, 8, 8, 8, 8, 8, 8, 8, 8, 8, 8, 8, 8, 8, 8, 8, 8, 8, 8, 8, 8, 8, 8, 8, 8, 8, 8, 8, 8, 8, 8, 8, 8, 8, 8, 8, 8, 8, 8, 8, 8, 8, 8, 8, 8, 8, 8, 8, 8, 8, 8, 8, 8, 8, 8, 8, 8, 8, 8, 8, 8, 8, 8, 8, 8, 8, 8, 8, 8, 8, 8, 8, 8, 8, 8, 8, 8, 8, 8, 8, 8, 8, 8, 8, 8, 8, 8, 8, 8, 8, 8, 8, 8, 8, 8, 8, 8, 8, 8, 8, 8, 8, 8, 8, 8, 8, 8, 8, 8, 8, 8, 8, 8, 8, 8, 8, 8, 8, 8, 8, 8, 8, 8, 8, 8]⟩
def lenAt (s : ByteArray) (j : Int) : Int := (((s[j.toNat]?).map fun b => (b.toNat : Int)).getD 0)
mutual
def math_bits_Len64.j3 : Nat → Int → Int → Option Int
  | 0, _, _ => none
  | k + 1, x0q3, x2q3 => if 0 ≤ (IntKind.u8.wrap x0q3) then (if (IntKind.u8.wrap x0q3) < (len8tab.size : Int) then (some (wrap64 (x2q3 + (wrap64 (lenAt len8tab (IntKind.u8.wrap x0q3)))))) else none) else none
def math_bits_Len64.j2 : Nat → Int → Int → Option Int
  | 0, _, _ => none
  | k + 1, x0q2, x2q2 => if x0q2 ≥ 256 then (math_bits_Len64.j3 k (shr .u64 x0q2 8) (wrap64 (x2q2 + 8))) else (math_bits_Len64.j3 k x0q2 x2q2)
def math_bits_Len64.j1 : Nat → Int → Int → Option Int
  | 0, _, _ => none
  | k + 1, x0, x2 => if x0 ≥ 65536 then (math_bits_Len64.j2 k (shr .u64 x0 16) (wrap64 (x2 + 16))) else (math_bits_Len64.j2 k x0 x2)
end
def math_bits_Len64.f (k : Nat) (a0 : Int) : Option Int := if a0 ≥ 4294967296 then (math_bits_Len64.j1 k (shr .u64 a0 32) 32) else (math_bits_Len64.j1 k a0 0)
def math_bits_Len.f (k : Nat) (a0 : Int) : Option Int := (math_bits_Len64.f k a0).bind fun r1 => some r1
mutual
def slices_insertionSortCmpFunc_int_at_impl_clauseOf_1.l2 : Nat → List Int → Int → Int → Int → Int → Option (List Int)
  | 0, _, _, _, _, _ => none
  | k + 1, x0q3, x9q2, a1, a2, x8 => if x9q2 > a1 then (if 0 ≤ x9q2 then (if x9q2 < (x0q3.length : Int) then (if 0 ≤ (wrap64 (x9q2 - 1)) then (if (wrap64 (x9q2 - 1)) < (x0q3.length : Int) then ((impl_clauseOf_1.f k (rd x0q3 x9q2) (rd x0q3 (wrap64 (x9q2 - 1)))).bind fun r1 => if r1 < 0 then (if 0 ≤ (wrap64 (x9q2 - 1)) then (if (wrap64 (x9q2 - 1)) < (x0q3.length : Int) then (if 0 ≤ x9q2 then (if x9q2 < (x0q3.length : Int) then (if 0 ≤ x9q2 then (if x9q2 < (x0q3.length : Int) then (if 0 ≤ (wrap64 (x9q2 - 1)) then (if (wrap64 (x9q2 - 1)) < ((x0q3.set x9q2.toNat (rd x0q3 (wrap64 (x9q2 - 1)))).length : Int) then (slices_insertionSortCmpFunc_int_at_impl_clauseOf_1.l2 k ((x0q3.set x9q2.toNat (rd x0q3 (wrap64 (x9q2 - 1)))).set (wrap64 (x9q2 - 1)).toNat (rd x0q3 x9q2)) (wrap64 (x9q2 - 1)) a1 a2 x8) else none) else none) else none) else none) else none) else none) else none) else none) else (slices_insertionSortCmpFunc_int_at_impl_clauseOf_1.l1 k x0q3 (wrap64 (x8 + 1)) a1 a2)) else none) else none) else none) else none) else (slices_insertionSortCmpFunc_int_at_impl_clauseOf_1.l1 k x0q3 (wrap64 (x8 + 1)) a1 a2)
def slices_insertionSortCmpFunc_int_at_impl_clauseOf_1.l1 : Nat → List Int → Int → Int → Int → Option (List Int)
  | 0, _, _, _, _ => none
  | k + 1, x0q2, x8, a1, a2 => if x8 < a2 then (slices_insertionSortCmpFunc_int_at_impl_clauseOf_1.l2 k x0q2 x8 a1 a2 x8) else (some x0q2)
end
def slices_insertionSortCmpFunc_int_at_impl_clauseOf_1.f (k : Nat) (l0 : List Int) (a1 : Int) (a2 : Int) : Option (List Int) := slices_insertionSortCmpFunc_int_at_impl_clauseOf_1.l1 k l0 (wrap64 (a1 + 1)) a1 a2
mutual
def slices_pdqsortCmpFunc_int_at_impl_clauseOf_1.l1 : Nat → List Int → Int → Int → Int → Option (List Int)
  | 0, _, _, _, _ => none
  | k + 1, l0, a1, a2, a3 => if (wrap64 (a2 - a1)) ≤ 12 then ((slices_insertionSortCmpFunc_int_at_impl_clauseOf_1.f k l0 a1 a2).bind fun r1 => some r1) else (if a3 = 0 then (Option.none) else (Option.none))
end
def slices_pdqsortCmpFunc_int_at_impl_clauseOf_1.f (k : Nat) (l0 : List Int) (a1 : Int) (a2 : Int) (a3 : Int) : Option (List Int) := slices_pdqsortCmpFunc_int_at_impl_clauseOf_1.l1 k l0 a1 a2 a3
def slices_SortFunc_int_int_at_impl_clauseOf_1.f (k : Nat) (l0 : List Int) : Option (List Int) := (math_bits_Len.f k (IntKind.u64.wrap (l0.length : Int))).bind fun r1 => (slices_pdqsortCmpFunc_int_at_impl_clauseOf_1.f k l0 0 (l0.length : Int) r1).bind fun r2 => some r2
mutual
def slices_Compact_int_int.l2 : Nat → List Int → Int → Int → Int → Option (List Int)
  | 0, _, _, _, _ => none
  | k + 1, x0q4, x3q5, x5q4, x3q3 => if x5q4 < ((x0q4.length - (x3q3 : Int).toNat : Nat) : Int) then (if 0 ≤ x5q4 then (if x5q4 < ((x0q4.length - (x3q3 : Int).toNat : Nat) : Int) then (if 0 ≤ (wrap64 (x5q4 - 1)) then (if (wrap64 (x5q4 - 1)) < ((x0q4.length - (x3q3 : Int).toNat : Nat) : Int) then (if (rd x0q4 (x3q3 + x5q4)) ≠ (rd x0q4 (x3q3 + (wrap64 (x5q4 - 1)))) then (if 0 ≤ x5q4 then (if x5q4 < ((x0q4.length - (x3q3 : Int).toNat : Nat) : Int) then (if 0 ≤ x3q5 then (if x3q5 < (x0q4.length : Int) then (slices_Compact_int_int.l2 k (x0q4.set x3q5.toNat (rd x0q4 (x3q3 + x5q4))) (wrap64 (x3q5 + 1)) (wrap64 (x5q4 + 1)) x3q3) else none) else none) else none) else none) else (slices_Compact_int_int.l2 k x0q4 x3q5 (wrap64 (x5q4 + 1)) x3q3)) else none) else none) else none) else none) else (if 0 < (x0q4.length : Int) then (if 0 ≤ x3q5 then (if x3q5 ≤ (x0q4.length : Int) then (if 0 < ((x0q4.take (x3q5 : Int).toNat ++ List.replicate (x0q4.length - (x3q5 : Int).toNat) (0 : Int)).length : Int) then (if 0 ≤ x3q5 then (if x3q5 ≤ ((x0q4.take (x3q5 : Int).toNat ++ List.replicate (x0q4.length - (x3q5 : Int).toNat) (0 : Int)).length : Int) then (some ((x0q4.take (x3q5 : Int).toNat ++ List.replicate (x0q4.length - (x3q5 : Int).toNat) (0 : Int)).take (x3q5 : Int).toNat)) else none) else none) else none) else none) else none) else none)
def slices_Compact_int_int.l1 : Nat → Int → List Int → Option (List Int)
  | 0, _, _ => none
  | k + 1, x3q3, l0 => if x3q3 < (l0.length : Int) then (if 0 ≤ x3q3 then (if x3q3 < (l0.length : Int) then (if 0 ≤ (wrap64 (x3q3 - 1)) then (if (wrap64 (x3q3 - 1)) < (l0.length : Int) then (if (rd l0 x3q3) = (rd l0 (wrap64 (x3q3 - 1))) then (if 0 < (l0.length : Int) then (if 0 ≤ x3q3 then (if x3q3 ≤ (l0.length : Int) then (slices_Compact_int_int.l2 k l0 x3q3 1 x3q3) else none) else none) else none) else (slices_Compact_int_int.l1 k (wrap64 (x3q3 + 1)) l0)) else none) else none) else none) else none) else (some l0)
end
def slices_Compact_int_int.f (k : Nat) (l0 : List Int) : Option (List Int) := if (l0.length : Int) < 2 then (some l0) else (slices_Compact_int_int.l1 k 1 l0)
mutual
def impl_clauseOf.l1 : Nat → Int → List Int → Option ((List Int) × Bool)
  | 0, _, _ => none
  | k + 1, x5, r3 => if x5 < (r3.length : Int) then (if 0 ≤ x5 then (if x5 < (r3.length : Int) then (if 0 ≤ (wrap64 (x5 - 1)) then (if (wrap64 (x5 - 1)) < (r3.length : Int) then (if (rd r3 x5) = (wrap64 (-(rd r3 (wrap64 (x5 - 1))))) then (some (([] : List Int), false)) else (impl_clauseOf.l1 k (wrap64 (x5 + 1)) r3)) else none) else none) else none) else none) else ((impl_clone_int.f r3).bind fun r4 => some (r4, true))
end
def impl_clauseOf.f (k : Nat) (l0 : List Int) : Option ((List Int) × Bool) := (slices_Clone_int_int.f l0).bind fun r1 => (slices_SortFunc_int_int_at_impl_clauseOf_1.f k r1).bind fun r2 => (slices_Compact_int_int.f k r2).bind fun r3 => impl_clauseOf.l1 k 1 r3
def impl_ClauseOf.f (k : Nat) (l0 : List Int) (a1 : Int) : Option ((List Int) × Bool) := (impl_in.f a1 0 700).bind fun r1 => if r1 = true then ((slices_ContainsFunc_int_int_at_impl_ClauseOf_1.f k l0 a1).bind fun r2 => if r2 = true then (some (([] : List Int), false)) else ((impl_clauseOf.f k l0).bind fun r3 => some (r3.1, r3.2))) else (some (([] : List Int), false))
mutual
def laws_FnClauseOf.l2 : Nat → Int → (List Int) × Int → (List Int) × Bool → Bool → Option Bool
  | 0, _, _, _, _ => none
  | k + 1, x58q4, r1, r2, x6 => if x58q4 < (r2.1.length : Int) then (if 0 ≤ x58q4 then (if x58q4 < (r2.1.length : Int) then ((laws_wcHas.f k r1.1 (rd r2.1 x58q4)).bind fun r6 => if r6 = true then (laws_FnClauseOf.l2 k (wrap64 (x58q4 + 1)) r1 r2 x6) else (some false)) else none) else none) else (if x6 = true then (if x6 = true then ((impl_ClauseValid.f k r2.1 r1.2).bind fun r7 => some r7) else (some false)) else (if (r2.1.length : Int) = 0 then (some true) else (if x6 = true then ((impl_ClauseValid.f k r2.1 r1.2).bind fun r8 => some r8) else (some false))))
def laws_FnClauseOf.l1 : Nat → Bool → Int → (List Int) × Int → (List Int) × Bool → Option Bool
  | 0, _, _, _, _ => none
  | k + 1, x6, x44, r1, r2 => if x44 < (r1.1.length : Int) then (if 0 ≤ x44 then (if x44 < (r1.1.length : Int) then (if x6 = true then ((laws_wcHas.f k r2.1 (rd r1.1 x44)).bind fun r5 => if r5 = true then (laws_FnClauseOf.l1 k true (wrap64 (x44 + 1)) r1 r2) else (some false)) else (laws_FnClauseOf.l1 k false (wrap64 (x44 + 1)) r1 r2)) else none) else none) else (laws_FnClauseOf.l2 k 0 r1 r2 x6)
end
def laws_FnClauseOf.f (k : Nat) (l0 : List Int) : Option Bool := if (l0.length : Int) > 1048576 then (some true) else ((spec_DrawClauseOf.f k l0).bind fun r1 => (impl_ClauseOf.f k r1.1 r1.2).bind fun r2 => (spec_ClauseOf.f k r1.1 r1.2).bind fun r3 => if r2.2 ≠ r3.2 then (some false) else ((laws_wcInts.f k r2.1 r3.1).bind fun r4 => if r4 = true then (laws_FnClauseOf.l1 k r2.2 0 r1 r2) else (some false)))
end Go.Proofs.Ytaajnneigmgikaa.PA
