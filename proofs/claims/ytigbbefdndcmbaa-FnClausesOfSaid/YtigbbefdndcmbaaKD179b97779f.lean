/- Types and the Lean functions that the walks are told against. No conditions. -/
import Derived.Test.YtigbbefdndcmbaaProg
import Derived.Below
import Derived.Deep.Draws
import Derived.Deep.AppendLies
import Derived.Maps.AppendAt
import Derived.OwnWalk
import Derived.Laws.BytesArg
import Derived.Laws.MakeOwn
import Derived.Laws.OwnMore
import Derived.Deep.OwnRows
import Derived.Tactics
import Derived.Lib.ConvBytes
import Derived.Laws.Slices
import Derived.WalkKit
import Derived.KernelRfl
import Derived.RowKit3
import Derived.Deep.LoopGhost
import Derived.Deep.QuietTactic
import Derived.BigQuiet
import Derived.WideLaws
import Derived.Deep.DeepCutAuto
import Derived.Deep.CutBlock
import Derived.Deep.RegionHeld3
import Derived.Laws.Rows
import Derived.Lib.AppendStr
import Derived.ArgAppend
import Derived.Laws.IdiomCopy
import Derived.OrdersHeld
import Derived.Laws.BitsLemmas
import Derived.RowKit
import Derived.Laws.StructEq
import Derived.Lib.SliceRun
import Derived.WalkSpells
import Derived.ChangeArms
import Derived.ChangeSlices
import Derived.Deep.Slices
import Derived.Test.YtigbbefdndcmbaaKW63b0a8668a
namespace Go.Proofs.Ytigbbefdndcmbaa.PA
open Go.RowKit Go.Proofs.YtigbbefdndcmbaaW.PrintWords Go.Proofs.YtigbbefdndcmbaaW.PrintLast Go.Proofs.YtigbbefdndcmbaaW.PrintMore
attribute [local go_sem] max2_int min2_int max_two min_two max_three min_three max_four min_four   -- for this text's walks alone
set_option linter.unusedVariables false
set_option linter.unusedSimpArgs false
def rd_Lint (xs : List (List Int)) (i : Int) : (List Int) := xs.getD i.toNat ([] : List Int)
structure IAnd where
  f0 : Int
  f1 : Int
def zIAnd : IAnd := ⟨(0 : Int), (0 : Int)⟩
def rd_IAnd (xs : List IAnd) (i : Int) : IAnd := xs.getD i.toNat zIAnd
def spec_l1In.f (a0 : Int) (a1 : Int) (a2 : Int) : Option (Bool) := if a0 ≥ a1 then (some (decide (a0 ≤ a2))) else (some false)
def spec_l11Abs.f (a0 : Int) : Option (Int) := if a0 < 0 then (some (wrap64 (-a0))) else (some a0)
mutual
def spec_l11Clause.j2 : Nat → List Int → Int → List Int → Int → Int → Option ((List Int) × Bool)
  | 0, _, _, _, _, _ => none
  | k + 1, l0, a1, x6, x7, r1 => if 0 ≤ x7 then (if x7 < (l0.length : Int) then (if 0 ≤ r1 then (if r1 < (x6.length : Int) then (spec_l11Clause.l1 k (x6.set r1.toNat (rd l0 x7)) (wrap64 (x7 + 1)) l0 a1) else none) else none) else none) else none
def spec_l11Clause.l3 : Nat → List Int → Int → Int → List Int → Option ((List Int) × Bool)
  | 0, _, _, _, _ => none
  | k + 1, x9q4, x10q4, a1, x6 => if x10q4 ≤ a1 then (if 0 ≤ x10q4 then (if x10q4 < (x6.length : Int) then (if (rd x6 x10q4) ≠ 0 then (if 0 ≤ x10q4 then (if x10q4 < (x6.length : Int) then (if x9q4.length + 1 ≤ 1099511627776 then (spec_l11Clause.l3 k (x9q4 ++ [(rd x6 x10q4)]) (wrap64 (x10q4 + 1)) a1 x6) else none) else none) else none) else (spec_l11Clause.l3 k x9q4 (wrap64 (x10q4 + 1)) a1 x6)) else none) else none) else (some (x9q4, true))
def spec_l11Clause.l1 : Nat → List Int → Int → List Int → Int → Option ((List Int) × Bool)
  | 0, _, _, _, _ => none
  | k + 1, x6, x7, l0, a1 => if x7 < (l0.length : Int) then (if 0 ≤ x7 then (if x7 < (l0.length : Int) then ((spec_l11Abs.f (rd l0 x7)).bind fun r1 => if 0 ≤ r1 then (if r1 < (x6.length : Int) then (if (rd x6 r1) ≠ 0 then (if 0 ≤ r1 then (if r1 < (x6.length : Int) then (if 0 ≤ x7 then (if x7 < (l0.length : Int) then (if (rd x6 r1) ≠ (rd l0 x7) then (some (([] : List Int), false)) else (spec_l11Clause.j2 k l0 a1 x6 x7 r1)) else none) else none) else none) else none) else (spec_l11Clause.j2 k l0 a1 x6 x7 r1)) else none) else none) else none) else none) else (spec_l11Clause.l3 k ([] : List Int) 1 a1 x6)
end
def spec_l11Clause.f (k : Nat) (l0 : List Int) (a1 : Int) : Option ((List Int) × Bool) := if 0 ≤ (wrap64 (a1 + 1)) then (if (wrap64 (a1 + 1)) ≤ 1099511627776 then (spec_l11Clause.l1 k (List.replicate (wrap64 (a1 + 1)).toNat (0 : Int)) 0 l0 a1) else none) else none
def impl_in.f (a0 : Int) (a1 : Int) (a2 : Int) : Option (Bool) := if a0 ≥ a1 then (some (decide (a0 ≤ a2))) else (some false)
def impl_clone_int.f (l0 : List Int) : Option (List Int) := if l0.length ≤ 35184372088832 then some l0 else none
def cmp_Or_int.l0 : Nat → Int → List Int → Int → Int → Option (Int)
  | 0, _, _, _, _ => none
  | k + 1, x3, x6, x7, x8 => if x8 < x7 then (if 0 ≤ x8 then (if x8 < (x6.length : Int) then (if (rd x6 x8) = x3 then (cmp_Or_int.l0 k x3 x6 x7 (wrap64 (x8 + 1))) else (some (rd x6 x8))) else (none)) else (none)) else (some x3)
def cmp_Or_int.f (k : Nat) (l0 : List Int) : Option (Int) := cmp_Or_int.l0 k 0 l0 (l0.length : Int) 0
def cmp_isNaN_int.f (a0 : Int) : Option (Bool) := some (a0 != a0)
def cmp_Compare_int.f (k : Nat) (a0 : Int) (a1 : Int) : Option Int := (cmp_isNaN_int.f a0).bind fun r1 => (cmp_isNaN_int.f a1).bind fun r2 => if r1 = true then (if r2 = true then (some 0) else (some (-1))) else (if r2 = true then (some 1) else (if a0 < a1 then (some (-1)) else (if a0 > a1 then (some 1) else (some 0))))
def impl_atomOf.f (a0 : Int) : Option (Int) := some (mx a0 (wrap64 (-a0)))
def impl_clauseOf_1.f (k : Nat) (a0 : Int) (a1 : Int) : Option Int := (impl_atomOf.f a0).bind fun r1 => (impl_atomOf.f a1).bind fun r2 => (cmp_Compare_int.f k r1 r2).bind fun r3 => (cmp_Compare_int.f k a0 a1).bind fun r4 => (cmp_Or_int.f k [r3, r4]).bind fun r5 => some r5
mutual
def impl_ClauseValid.l0 : Nat → List Int → Int → List Int → Int → Int → Option (Bool)
  | 0, _, _, _, _, _ => none
  | k + 1, x0, x1, x10, x11, x12 => if x12 < x11 then (if 0 ≤ x12 then (if x12 < (x10.length : Int) then ((impl_in.f (rd x10 x12) (wrap64 (-x1)) x1).bind fun t314 => (if t314 = true then (if (rd x10 x12) = 0 then (impl_ClauseValid.j1 k x0 x1 x10 x11 x12 true) else (if x12 > 0 then (if 0 ≤ (wrap64 (x12 - 1)) then (if (wrap64 (x12 - 1)) < (x0.length : Int) then ((impl_atomOf.f (rd x0 (wrap64 (x12 - 1)))).bind fun t316 => ((impl_atomOf.f (rd x10 x12)).bind fun t317 => (impl_ClauseValid.j1 k x0 x1 x10 x11 x12 (decide (t316 ≥ t317))))) else (none)) else (none)) else (impl_ClauseValid.j1 k x0 x1 x10 x11 x12 false))) else (impl_ClauseValid.j1 k x0 x1 x10 x11 x12 true))) else (none)) else (none)) else (some true)
def impl_ClauseValid.j1 : Nat → List Int → Int → List Int → Int → Int → Bool → Option (Bool)
  | 0, _, _, _, _, _, _ => none
  | k + 1, x0, x1, x10, x11, x12, x41 => if x41 = true then (some false) else (impl_ClauseValid.l0 k x0 x1 x10 x11 (wrap64 (x12 + 1)))
end
def impl_ClauseValid.f (k : Nat) (l0 : List Int) (a1 : Int) : Option (Bool) := (impl_in.f a1 0 700).bind fun t312 => (if t312 = true then (impl_ClauseValid.l0 k l0 a1 l0 (l0.length : Int) 0) else (some false))
mutual
def spec_CircuitValid.j0 : Nat → Bool → Int → List (IAnd) → Option (Bool)
  | 0, _, _, _ => none
  | k + 1, x14, x351000, x351001 => if x14 = true then (some false) else (spec_CircuitValid.l0 k 0 x351000 x351001)
def spec_CircuitValid.l0 : Nat → Int → Int → List (IAnd) → Option (Bool)
  | 0, _, _, _ => none
  | k + 1, x3, x351000, x351001 => if x3 < (x351001.length : Int) then (if 0 ≤ x3 then ((spec_l1In.f ((rd_IAnd x351001 x3).f0) 0 (wrap64 ((wrap64 (2 * (wrap64 ((wrap64 (1 + x351000)) + x3)))) - 1))).bind fun t353 => (if t353 = true then ((spec_l1In.f ((rd_IAnd x351001 x3).f1) 0 (wrap64 ((wrap64 (2 * (wrap64 ((wrap64 (1 + x351000)) + x3)))) - 1))).bind fun t355 => (if t355 = true then (spec_CircuitValid.l0 k (wrap64 (x3 + 1)) x351000 x351001) else (some false))) else (some false))) else (none)) else (some true)
end
def spec_CircuitValid.f (k : Nat) (a0_0 : Int) (l0_1 : List (IAnd)) : Option (Bool) := (spec_l1In.f a0_0 0 12).bind fun t351 => (if t351 = true then (spec_CircuitValid.j0 k (decide ((l0_1.length : Int) > 600)) a0_0 l0_1) else (spec_CircuitValid.j0 k true a0_0 l0_1))
def spec_l7Nodes.f (a0_0 : Int) (l0_1 : List (IAnd)) : Option (Int) := some (wrap64 ((wrap64 (1 + a0_0)) + (l0_1.length : Int)))
def spec_l7Edge.f (a0_0 : Int) (l0_1 : List (IAnd)) (a1 : Int) : Option (Bool) := (spec_l7Nodes.f a0_0 l0_1).bind fun t358 => ((spec_l1In.f a1 0 (wrap64 ((wrap64 (2 * t358)) - 1))).bind fun t359 => (some t359))
def spec_l11Edge.f (a0 : Int) : Option (Int) := if (Int.tmod a0 2) = 1 then (some (wrap64 (-(wrap64 (Int.tdiv a0 2))))) else (some (wrap64 (Int.tdiv a0 2)))
def spec_l7Not.f (a0 : Int) : Option (Int) := if a0 < 0 then (some (-1)) else (some (wrap64 ((wrap64 ((wrap64 ((wrap64 (Int.tdiv a0 2)) * 2)) + 1)) - (Int.tmod a0 2))))
mutual
def impl_CircuitValid.j0 : Nat → Bool → Int → List (IAnd) → Option (Bool)
  | 0, _, _, _ => none
  | k + 1, x15, x404000, x404001 => if x15 = true then (some false) else (impl_CircuitValid.l0 k x404001 (x404001.length : Int) 0 x404000 x404001)
def impl_CircuitValid.l0 : Nat → List (IAnd) → Int → Int → Int → List (IAnd) → Option (Bool)
  | 0, _, _, _, _, _ => none
  | k + 1, x17, x18, x19, x404000, x404001 => if x19 < x18 then (if 0 ≤ x19 then (if x19 < (x17.length : Int) then ((impl_in.f ((rd_IAnd x17 x19).f0) 0 (wrap64 ((wrap64 (2 * (wrap64 ((wrap64 (1 + x404000)) + x19)))) - 1))).bind fun t407 => (if t407 = true then ((impl_in.f ((rd_IAnd x17 x19).f1) 0 (wrap64 ((wrap64 (2 * (wrap64 ((wrap64 (1 + x404000)) + x19)))) - 1))).bind fun t408 => (if t408 = true then (impl_CircuitValid.l0 k x17 x18 (wrap64 (x19 + 1)) x404000 x404001) else (some false))) else (some false))) else (none)) else (none)) else (some true)
end
def impl_CircuitValid.f (k : Nat) (a0_0 : Int) (l0_1 : List (IAnd)) : Option (Bool) := (impl_in.f a0_0 0 12).bind fun t404 => (if t404 = true then (impl_CircuitValid.j0 k (decide ((l0_1.length : Int) > 600)) a0_0 l0_1) else (impl_CircuitValid.j0 k true a0_0 l0_1))
def impl_Circuit_isEdge.f (a0_0 : Int) (l0_1 : List (IAnd)) (a1 : Int) : Option (Bool) := (impl_in.f a1 0 (wrap64 ((wrap64 (2 * (wrap64 ((wrap64 (1 + a0_0)) + (l0_1.length : Int))))) - 1))).bind fun t410 => (some t410)
def impl_numbered.l0 : Nat → List Int → Int → Int → Option (List Int)
  | 0, _, _, _ => none
  | k + 1, x3, x8, x9 => if x9 < x8 then (if 0 ≤ x9 then (if x9 < (x3.length : Int) then (impl_numbered.l0 k (x3.set (x9 : Int).toNat x9) x8 (wrap64 (x9 + 1))) else (none)) else (none)) else (some x3)
def impl_numbered.f (k : Nat) (a0 : Int) : Option (List Int) := if 0 ≤ a0 then (if (a0 : Int).toNat ≤ 35184372088832 then ((some (List.replicate (a0 : Int).toNat 0 : List Int)).bind fun y411 => (impl_numbered.l0 k y411 (y411.length : Int) 0)) else (none)) else (none)
def impl_clone_Lint.f (l0 : List (List Int)) : Option (List (List Int)) := if l0.length ≤ 5864062014805 then some l0 else none
def spec_l40Rd_pick.f (k : Nat) (l0_0 : List Int) (a0_1 : Int) (a1 : Int) : Option (Int × Int) := if a1 < 1 then (some ((wrap64 (a0_1 + 1)), 0)) else (if (l0_0.length : Int) = 0 then (some ((wrap64 (a0_1 + 1)), 0)) else (if (wrap64 ((wrap64 (a0_1 + 1)) - 1)) < (l0_0.length : Int) then (if 0 ≤ (wrap64 ((wrap64 (a0_1 + 1)) - 1)) then (if (wrap64 ((wrap64 (a0_1 + 1)) - 1)) < (l0_0.length : Int) then (if a1 ≠ 0 then (some ((wrap64 (a0_1 + 1)), (Int.tmod (wrap64 (rd l0_0 (wrap64 ((wrap64 (a0_1 + 1)) - 1)))) a1))) else none) else none) else none) else (if (l0_0.length : Int) ≠ 0 then (if 0 ≤ (Int.tmod (wrap64 ((wrap64 (a0_1 + 1)) - 1)) (l0_0.length : Int)) then (if (Int.tmod (wrap64 ((wrap64 (a0_1 + 1)) - 1)) (l0_0.length : Int)) < (l0_0.length : Int) then (if (l0_0.length : Int) ≠ 0 then (if 0 ≤ (Int.tmod (wrap64 ((wrap64 ((wrap64 ((wrap64 (a0_1 + 1)) - 1)) * 7)) + 3)) (l0_0.length : Int)) then (if (Int.tmod (wrap64 ((wrap64 ((wrap64 ((wrap64 (a0_1 + 1)) - 1)) * 7)) + 3)) (l0_0.length : Int)) < (l0_0.length : Int) then (if (l0_0.length : Int) ≠ 0 then (if a1 ≠ 0 then (some ((wrap64 (a0_1 + 1)), (Int.tmod (Go.bits .xor .i64 (wrap64 ((wrap64 ((wrap64 ((wrap64 ((wrap64 (rd l0_0 (Int.tmod (wrap64 ((wrap64 (a0_1 + 1)) - 1)) (l0_0.length : Int)))) * 131)) + (wrap64 ((wrap64 (rd l0_0 (Int.tmod (wrap64 ((wrap64 ((wrap64 ((wrap64 (a0_1 + 1)) - 1)) * 7)) + 3)) (l0_0.length : Int)))) * 1117)))) + (wrap64 ((wrap64 ((wrap64 (a0_1 + 1)) - 1)) * 29)))) + (wrap64 ((wrap64 (Int.tdiv (wrap64 ((wrap64 (a0_1 + 1)) - 1)) (l0_0.length : Int))) * 53)))) (wrap64 (Int.tdiv (wrap64 ((wrap64 ((wrap64 ((wrap64 ((wrap64 (rd l0_0 (Int.tmod (wrap64 ((wrap64 (a0_1 + 1)) - 1)) (l0_0.length : Int)))) * 131)) + (wrap64 ((wrap64 (rd l0_0 (Int.tmod (wrap64 ((wrap64 ((wrap64 ((wrap64 (a0_1 + 1)) - 1)) * 7)) + 3)) (l0_0.length : Int)))) * 1117)))) + (wrap64 ((wrap64 ((wrap64 (a0_1 + 1)) - 1)) * 29)))) + (wrap64 ((wrap64 (Int.tdiv (wrap64 ((wrap64 (a0_1 + 1)) - 1)) (l0_0.length : Int))) * 53)))) 64))) a1))) else none) else none) else none) else none) else none) else none) else none) else none)))
def spec_l40Rd_num.f (k : Nat) (l0_0 : List Int) (a0_1 : Int) (l1 : List Int) : Option (Int × Int) := (spec_l40Rd_pick.f k l0_0 a0_1 (l1.length : Int)).bind fun r1 => if 0 ≤ r1.2 then (if r1.2 < (l1.length : Int) then (some (r1.1, (rd l1 r1.2))) else none) else none
def impl_bitsValid_1.f (a0 : Int) : Option (Bool) := (impl_in.f a0 0 1).bind fun t556 => (some (!t556))
def slices_IndexFunc_at_impl_bitsValid_1.l0 : Nat → List Int → Int → Int → Option (Int)
  | 0, _, _, _ => none
  | k + 1, x0, x7, x8 => if x8 < x7 then (if 0 ≤ x8 then (if x8 < (x0.length : Int) then ((impl_bitsValid_1.f (rd x0 x8)).bind fun t558 => (if t558 = true then (some x8) else (slices_IndexFunc_at_impl_bitsValid_1.l0 k x0 x7 (wrap64 (x8 + 1))))) else (none)) else (none)) else (some (-1))
def slices_IndexFunc_at_impl_bitsValid_1.f (k : Nat) (l0 : List Int)  : Option (Int) := slices_IndexFunc_at_impl_bitsValid_1.l0 k l0 (l0.length : Int) 0
def slices_ContainsFunc_at_impl_bitsValid_1.f (k : Nat) (l0 : List Int)  : Option (Bool) := (slices_IndexFunc_at_impl_bitsValid_1.f k l0).bind fun t559 => (some (decide (t559 ≥ 0)))
def impl_bitsValid.f (k : Nat) (l0 : List Int) : Option (Bool) := (slices_ContainsFunc_at_impl_bitsValid_1.f k l0).bind fun t560 => (some (!t560))
def impl_edgeOf.f (l0 : List Int) (a1 : Int) : Option (Int) := if 0 ≤ (wrap64 (Int.tdiv a1 2)) then (if (wrap64 (Int.tdiv a1 2)) < (l0.length : Int) then (some (Go.bits .xor .i64 (rd l0 (wrap64 (Int.tdiv a1 2))) (Go.bits .and .i64 a1 1))) else (none)) else (none)
def impl_Circuit_values.l0 : Nat → List Int → List (IAnd) → Int → Int → Option (List Int)
  | 0, _, _, _, _ => none
  | k + 1, x5, x12, x13, x14 => if x14 < x13 then (if 0 ≤ x14 then (if x14 < (x12.length : Int) then ((impl_edgeOf.f x5 ((rd_IAnd x12 x14).f0)).bind fun t571 => ((impl_edgeOf.f x5 ((rd_IAnd x12 x14).f1)).bind fun t572 => (if x5.length < 17592186044416 then (impl_Circuit_values.l0 k (x5 ++ [Go.bits .and .i64 t571 t572]) x12 x13 (wrap64 (x14 + 1))) else (none)))) else (none)) else (none)) else (some x5)
def impl_Circuit_values.f (k : Nat) (a0_0 : Int) (l0_1 : List (IAnd)) (l1 : List Int) : Option (List Int) := (some (([0] : List Int) : List Int)).bind fun y563 => (if y563.length + l1.length < 17592186044416 then (impl_Circuit_values.l0 k (y563 ++ l1) l0_1 (l0_1.length : Int) 0) else (none))
def impl_NodeValues.j0 : Nat → List Int → Bool → Int → List (IAnd) → Option (List Int)
  | 0, _, _, _, _ => none
  | k + 1, x1, x19, x577000, x577001 => if x19 = true then (some ([] : List Int)) else ((impl_Circuit_values.f k x577000 x577001 x1).bind fun t579 => ((impl_clone_int.f t579).bind fun t582 => (some t582)))
def impl_NodeValues.f (k : Nat) (a0_0 : Int) (l0_1 : List (IAnd)) (l1 : List Int) : Option (List Int) := (impl_CircuitValid.f k a0_0 l0_1).bind fun t577 => (if t577 = true then (if (l1.length : Int) = a0_0 then ((impl_bitsValid.f k l1).bind fun t578 => (impl_NodeValues.j0 k l1 (!t578) a0_0 l0_1)) else (impl_NodeValues.j0 k l1 true a0_0 l0_1)) else (impl_NodeValues.j0 k l1 true a0_0 l0_1))
def impl_ClausesValid_1.f (k : Nat) (l0 : List Int) (a1_0 : Int) (l1_1 : List (List Int)) : Option (Bool) := (impl_ClauseValid.f k l0 a1_0).bind fun t586 => (some (!t586))
def slices_IndexFunc_at_impl_ClausesValid_1.l0 : Nat → List (List Int) → Int → Int → Int → List (List Int) → Option (Int)
  | 0, _, _, _, _, _ => none
  | k + 1, x0, x7, x8, x588000, x588001 => if x8 < x7 then (if 0 ≤ x8 then (if x8 < (x0.length : Int) then ((impl_ClausesValid_1.f k (rd_Lint x0 x8) x588000 x588001).bind fun t589 => (if t589 = true then (some x8) else (slices_IndexFunc_at_impl_ClausesValid_1.l0 k x0 x7 (wrap64 (x8 + 1)) x588000 x588001))) else (none)) else (none)) else (some (-1))
def slices_IndexFunc_at_impl_ClausesValid_1.f (k : Nat) (l0 : List (List Int))  (a2_0 : Int) (l2_1 : List (List Int)) : Option (Int) := slices_IndexFunc_at_impl_ClausesValid_1.l0 k l0 (l0.length : Int) 0 a2_0 l2_1
def slices_ContainsFunc_at_impl_ClausesValid_1.f (k : Nat) (l0 : List (List Int))  (a2_0 : Int) (l2_1 : List (List Int)) : Option (Bool) := (slices_IndexFunc_at_impl_ClausesValid_1.f k l0 a2_0 l2_1).bind fun t591 => (some (decide (t591 ≥ 0)))
def impl_ClausesValid.f (k : Nat) (a0_0 : Int) (l0_1 : List (List Int)) : Option (Bool) := (impl_in.f a0_0 0 700).bind fun t593 => (if t593 = true then (if (l0_1.length : Int) ≤ 2500 then ((slices_ContainsFunc_at_impl_ClausesValid_1.f k l0_1 a0_0 l0_1).bind fun t594 => (some (!t594))) else (some false)) else (some false))
def impl_bit.f (a0 : Bool) : Option (Int) := if a0 = true then (some 1) else (some 0)
def impl_litTrue.f (a0 : Int) (l1 : List Int) : Option (Bool) := (impl_atomOf.f a0).bind fun t595 => (if 0 ≤ (wrap64 (t595 - 1)) then (if (wrap64 (t595 - 1)) < (l1.length : Int) then ((impl_bit.f (decide (a0 > 0))).bind fun t597 => (some ((rd l1 (wrap64 (t595 - 1))) == t597))) else (none)) else (none))
def impl_EdgeValue.j0 : Nat → List Int → Int → Bool → Int → List (IAnd) → Option (Int)
  | 0, _, _, _, _, _ => none
  | k + 1, x1, x2, x27, x602000, x602001 => if x27 = true then (some (-1)) else ((impl_Circuit_values.f k x602000 x602001 x1).bind fun t605 => ((impl_edgeOf.f t605 x2).bind fun t608 => (some t608)))
def impl_EdgeValue.f (k : Nat) (a0_0 : Int) (l0_1 : List (IAnd)) (l1 : List Int) (a2 : Int) : Option (Int) := (impl_CircuitValid.f k a0_0 l0_1).bind fun t602 => (if t602 = true then (if (l1.length : Int) = a0_0 then ((impl_bitsValid.f k l1).bind fun t603 => (if t603 = true then ((impl_Circuit_isEdge.f a0_0 l0_1 a2).bind fun t604 => (impl_EdgeValue.j0 k l1 a2 (!t604) a0_0 l0_1)) else (impl_EdgeValue.j0 k l1 a2 true a0_0 l0_1))) else (impl_EdgeValue.j0 k l1 a2 true a0_0 l0_1)) else (impl_EdgeValue.j0 k l1 a2 true a0_0 l0_1))
def laws_wcInts.l0 : Nat → List Int → List Int → Int → Int → Option (Bool)
  | 0, _, _, _, _ => none
  | k + 1, x1, x12, x13, x14 => if x14 < x13 then (if 0 ≤ x14 then (if x14 < (x12.length : Int) then (if x14 < (x1.length : Int) then (if (rd x1 x14) = (rd x12 x14) then (laws_wcInts.l0 k x1 x12 x13 (wrap64 (x14 + 1))) else (some false)) else (none)) else (none)) else (none)) else (some true)
def laws_wcInts.f (k : Nat) (l0 : List Int) (l1 : List Int) : Option (Bool) := if (l0.length : Int) = (l1.length : Int) then (laws_wcInts.l0 k l1 l0 (l0.length : Int) 0) else (some false)
def impl_InputsOf.j0 : Nat → List Int → Bool → Int → List (IAnd) → Option (List Int)
  | 0, _, _, _, _ => none
  | k + 1, x1, x23, x612000, x612001 => if x23 = true then (some ([] : List Int)) else (if 0 ≤ x612000 then (if x612000 ≤ (x1.length : Int) then ((impl_clone_int.f (x1.take (x612000 : Int).toNat)).bind fun t615 => (some t615)) else (none)) else (none))
def impl_InputsOf.f (k : Nat) (a0_0 : Int) (l0_1 : List (IAnd)) (l1 : List Int) : Option (List Int) := (impl_CircuitValid.f k a0_0 l0_1).bind fun t612 => (if t612 = true then (if (l1.length : Int) = (wrap64 (a0_0 + (l0_1.length : Int))) then ((impl_bitsValid.f k l1).bind fun t613 => (impl_InputsOf.j0 k l1 (!t613) a0_0 l0_1)) else (impl_InputsOf.j0 k l1 true a0_0 l0_1)) else (impl_InputsOf.j0 k l1 true a0_0 l0_1))
def slices_Clone_int_int.f (l0 : List Int) : Option (List Int) := if l0.length ≤ 1099511627776 then (some l0) else none
def litKey (x : Int) : Int := mx x (wrap64 (-x))
def litCmp (x y : Int) : Int := if x < y then -1 else if x > y then 1 else 0
def litCf (x y : Int) : Int := if litCmp (litKey x) (litKey y) = 0 then litCmp x y else litCmp (litKey x) (litKey y)
def slices_SortFunc_int_int_at_impl_clauseOf_1.f (k : Nat) (l0 : List Int) : Option (List Int) := if l0.length < 4611686018427387904 then some (l0.mergeSort fun x y => !(decide (litCf y x < 0))) else none
mutual
def slices_Compact_int_int.l2 : Nat → List Int → Int → Int → Int → Option (List Int)
  | 0, _, _, _, _ => none
  | k + 1, x0q4, x3q5, x5q4, x3q3 => if x5q4 < ((x0q4.length - (x3q3 : Int).toNat : Nat) : Int) then (if 0 ≤ x5q4 then (if x5q4 < ((x0q4.length - (x3q3 : Int).toNat : Nat) : Int) then (if 0 ≤ (wrap64 (x5q4 - 1)) then (if (wrap64 (x5q4 - 1)) < ((x0q4.length - (x3q3 : Int).toNat : Nat) : Int) then (if (rd x0q4 (x3q3 + x5q4)) ≠ (rd x0q4 (x3q3 + (wrap64 (x5q4 - 1)))) then (if 0 ≤ x5q4 then (if x5q4 < ((x0q4.length - (x3q3 : Int).toNat : Nat) : Int) then (if 0 ≤ x3q5 then (if x3q5 < (x0q4.length : Int) then (slices_Compact_int_int.l2 k (x0q4.set x3q5.toNat (rd x0q4 (x3q3 + x5q4))) (wrap64 (x3q5 + 1)) (wrap64 (x5q4 + 1)) x3q3) else none) else none) else none) else none) else (slices_Compact_int_int.l2 k x0q4 x3q5 (wrap64 (x5q4 + 1)) x3q3)) else none) else none) else none) else none) else (if 0 < (x0q4.length : Int) then (if 0 ≤ x3q5 then (if x3q5 ≤ (x0q4.length : Int) then (if 0 < ((x0q4.take (x3q5 : Int).toNat ++ List.replicate (x0q4.length - (x3q5 : Int).toNat) (0 : Int)).length : Int) then (if 0 ≤ x3q5 then (if x3q5 ≤ ((x0q4.take (x3q5 : Int).toNat ++ List.replicate (x0q4.length - (x3q5 : Int).toNat) (0 : Int)).length : Int) then (some ((x0q4.take (x3q5 : Int).toNat ++ List.replicate (x0q4.length - (x3q5 : Int).toNat) (0 : Int)).take (x3q5 : Int).toNat)) else none) else none) else none) else none) else none) else none)
def slices_Compact_int_int.l1 : Nat → Int → List Int → Option (List Int)
  | 0, _, _ => none
  | k + 1, x3q3, l0 => if x3q3 < (l0.length : Int) then (if 0 ≤ x3q3 then (if x3q3 < (l0.length : Int) then (if 0 ≤ (wrap64 (x3q3 - 1)) then (if (wrap64 (x3q3 - 1)) < (l0.length : Int) then (if (rd l0 x3q3) = (rd l0 (wrap64 (x3q3 - 1))) then (if 0 < (l0.length : Int) then (if 0 ≤ x3q3 then (if x3q3 ≤ (l0.length : Int) then (slices_Compact_int_int.l2 k l0 x3q3 1 x3q3) else none) else none) else none) else (slices_Compact_int_int.l1 k (wrap64 (x3q3 + 1)) l0)) else none) else none) else none) else none) else (some l0)
end
def slices_Compact_int_int.f (k : Nat) (l0 : List Int) : Option (List Int) := if (l0.length : Int) < 2 then (some l0) else (slices_Compact_int_int.l1 k 1 l0)
mutual
def impl_clauseOf.l1 : Nat → Int → List Int → Option ((List Int) × Bool)
  | 0, _, _ => none
  | k + 1, x5, r3 => if x5 < (r3.length : Int) then (if 0 ≤ x5 then (if x5 < (r3.length : Int) then (if 0 ≤ (wrap64 (x5 - 1)) then (if (wrap64 (x5 - 1)) < (r3.length : Int) then (if (rd r3 x5) = (wrap64 (-(rd r3 (wrap64 (x5 - 1))))) then (some (([] : List Int), false)) else (impl_clauseOf.l1 k (wrap64 (x5 + 1)) r3)) else none) else none) else none) else none) else ((impl_clone_int.f r3).bind fun r4 => some (r4, true))
end
def impl_clauseOf.f (k : Nat) (l0 : List Int) : Option ((List Int) × Bool) := (slices_Clone_int_int.f l0).bind fun r1 => (slices_SortFunc_int_int_at_impl_clauseOf_1.f k r1).bind fun r2 => (slices_Compact_int_int.f k r2).bind fun r3 => impl_clauseOf.l1 k 1 r3
mutual
def spec_l11Put.l1 : Nat → List Int → Int → Int → List (List Int) → List Int → Option (Int × List (List Int))
  | 0, _, _, _, _, _ => none
  | k + 1, x5, x6, a0_0, l0_1, l1 => if x6 < (l1.length : Int) then (if 0 ≤ x6 then (if x6 < (l1.length : Int) then (if (rd l1 x6) = 1 then (some (a0_0, l0_1)) else (if 0 ≤ x6 then (if x6 < (l1.length : Int) then (if (rd l1 x6) > 1 then (if 0 ≤ x6 then (if x6 < (l1.length : Int) then ((spec_l11Edge.f (rd l1 x6)).bind fun r1 => if x5.length + 1 ≤ 1099511627776 then (spec_l11Put.l1 k (x5 ++ [r1]) (wrap64 (x6 + 1)) a0_0 l0_1 l1) else none) else none) else none) else (spec_l11Put.l1 k x5 (wrap64 (x6 + 1)) a0_0 l0_1 l1)) else none) else none)) else none) else none) else ((spec_l11Clause.f k x5 a0_0).bind fun r2 => if r2.2 = true then (if l0_1.length + 1 ≤ 1099511627776 then (some (a0_0, (l0_1 ++ [r2.1]))) else none) else (some (a0_0, l0_1)))
end
def spec_l11Put.f (k : Nat) (a0_0 : Int) (l0_1 : List (List Int)) (l1 : List Int) : Option (Int × List (List Int)) := spec_l11Put.l1 k ([] : List Int) 0 a0_0 l0_1 l1
mutual
def spec_ClausesOf.l1 : Nat → Int → List (List Int) → Int → Int → List IAnd → Int → Option ((Int × List (List Int)) × Bool)
  | 0, _, _, _, _, _, _ => none
  | k + 1, x6b0, x6b1, x7, a0_0, l0_1, a1 => if x7 < (l0_1.length : Int) then (if 0 ≤ x7 then (if x7 < (l0_1.length : Int) then (if 0 ≤ x7 then (if x7 < (l0_1.length : Int) then ((spec_l11Put.f k x6b0 x6b1 [(wrap64 ((wrap64 (2 * (wrap64 ((wrap64 (1 + a0_0)) + x7)))) + 1)), ((rd_IAnd l0_1 x7).f0)]).bind fun r4 => (spec_l11Put.f k r4.1 r4.2 [(wrap64 ((wrap64 (2 * (wrap64 ((wrap64 (1 + a0_0)) + x7)))) + 1)), ((rd_IAnd l0_1 x7).f1)]).bind fun r5 => (spec_l7Not.f ((rd_IAnd l0_1 x7).f0)).bind fun r6 => (spec_l7Not.f ((rd_IAnd l0_1 x7).f1)).bind fun r7 => (spec_l11Put.f k r5.1 r5.2 [(wrap64 (2 * (wrap64 ((wrap64 (1 + a0_0)) + x7)))), r6, r7]).bind fun r8 => spec_ClausesOf.l1 k r8.1 r8.2 (wrap64 (x7 + 1)) a0_0 l0_1 a1) else none) else none) else none) else none) else ((spec_l11Put.f k x6b0 x6b1 [a1]).bind fun r9 => some ((r9.1, r9.2), true))
end
def spec_ClausesOf.f (k : Nat) (a0_0 : Int) (l0_1 : List IAnd) (a1 : Int) : Option ((Int × List (List Int)) × Bool) := (spec_CircuitValid.f k a0_0 l0_1).bind fun r1 => if r1 = true then ((spec_l7Edge.f a0_0 l0_1 a1).bind fun r2 => if r2 = true then ((spec_l7Nodes.f a0_0 l0_1).bind fun r3 => spec_ClausesOf.l1 k (wrap64 (r3 - 1)) ([] : List (List Int)) 0 a0_0 l0_1 a1) else (some ((0, ([] : List (List Int))), false))) else (some ((0, ([] : List (List Int))), false))
mutual
def impl_edgeClause.l1 : Nat → List Int → Int → List Int → List Int → Option ((List Int) × Bool)
  | 0, _, _, _, _ => none
  | k + 1, x6, x11, l0, l1 => if x11 < (l0.length : Int) then (if 0 ≤ x11 then (if x11 < (l0.length : Int) then (if (rd l0 x11) = 1 then (some (([] : List Int), false)) else (if (rd l0 x11) > 1 then (if 0 ≤ (wrap64 (Int.tdiv (rd l0 x11) 2)) then (if (wrap64 (Int.tdiv (rd l0 x11) 2)) < (l1.length : Int) then (if x6.length + 1 ≤ 1099511627776 then (impl_edgeClause.l1 k (x6 ++ [(wrap64 ((rd l1 (wrap64 (Int.tdiv (rd l0 x11) 2))) * (wrap64 (1 - (wrap64 (2 * (Go.bits .and .i64 (rd l0 x11) 1)))))))]) (wrap64 (x11 + 1)) l0 l1) else none) else none) else none) else (impl_edgeClause.l1 k x6 (wrap64 (x11 + 1)) l0 l1))) else none) else none) else ((impl_clauseOf.f k x6).bind fun r1 => some (r1.1, r1.2))
end
def impl_edgeClause.f (k : Nat) (l0 : List Int) (l1 : List Int) : Option ((List Int) × Bool) := impl_edgeClause.l1 k ([] : List Int) 0 l0 l1
mutual
def impl_gateClauses.l2 : Nat → List (List Int) → Int → Int → List IAnd → List Int → Int → Option (List (List Int))
  | 0, _, _, _, _, _, _ => none
  | k + 1, x5q3, x47q2, a0_0, l0_1, l1, x16 => if x47q2 < ([[(wrap64 ((wrap64 (2 * (wrap64 ((wrap64 (1 + a0_0)) + x16)))) + 1)), ((rd_IAnd l0_1 x16).f0)], [(wrap64 ((wrap64 (2 * (wrap64 ((wrap64 (1 + a0_0)) + x16)))) + 1)), ((rd_IAnd l0_1 x16).f1)], [(wrap64 (2 * (wrap64 ((wrap64 (1 + a0_0)) + x16)))), (Go.bits .xor .i64 ((rd_IAnd l0_1 x16).f0) 1), (Go.bits .xor .i64 ((rd_IAnd l0_1 x16).f1) 1)]].length : Int) then (if 0 ≤ x47q2 then (if x47q2 < ([[(wrap64 ((wrap64 (2 * (wrap64 ((wrap64 (1 + a0_0)) + x16)))) + 1)), ((rd_IAnd l0_1 x16).f0)], [(wrap64 ((wrap64 (2 * (wrap64 ((wrap64 (1 + a0_0)) + x16)))) + 1)), ((rd_IAnd l0_1 x16).f1)], [(wrap64 (2 * (wrap64 ((wrap64 (1 + a0_0)) + x16)))), (Go.bits .xor .i64 ((rd_IAnd l0_1 x16).f0) 1), (Go.bits .xor .i64 ((rd_IAnd l0_1 x16).f1) 1)]].length : Int) then ((impl_edgeClause.f k (rd_Lint [[(wrap64 ((wrap64 (2 * (wrap64 ((wrap64 (1 + a0_0)) + x16)))) + 1)), ((rd_IAnd l0_1 x16).f0)], [(wrap64 ((wrap64 (2 * (wrap64 ((wrap64 (1 + a0_0)) + x16)))) + 1)), ((rd_IAnd l0_1 x16).f1)], [(wrap64 (2 * (wrap64 ((wrap64 (1 + a0_0)) + x16)))), (Go.bits .xor .i64 ((rd_IAnd l0_1 x16).f0) 1), (Go.bits .xor .i64 ((rd_IAnd l0_1 x16).f1) 1)]] x47q2) l1).bind fun r1 => if r1.2 = true then (if x5q3.length + 1 ≤ 1099511627776 then (impl_gateClauses.l2 k (x5q3 ++ [r1.1]) (wrap64 (x47q2 + 1)) a0_0 l0_1 l1 x16) else none) else (impl_gateClauses.l2 k x5q3 (wrap64 (x47q2 + 1)) a0_0 l0_1 l1 x16)) else none) else none) else (impl_gateClauses.l1 k x5q3 (wrap64 (x16 + 1)) a0_0 l0_1 l1)
def impl_gateClauses.l1 : Nat → List (List Int) → Int → Int → List IAnd → List Int → Option (List (List Int))
  | 0, _, _, _, _, _ => none
  | k + 1, x5q2, x16, a0_0, l0_1, l1 => if x16 < (l0_1.length : Int) then (if 0 ≤ x16 then (if x16 < (l0_1.length : Int) then (impl_gateClauses.l2 k x5q2 0 a0_0 l0_1 l1 x16) else none) else none) else (some x5q2)
end
def impl_gateClauses.f (k : Nat) (a0_0 : Int) (l0_1 : List IAnd) (l1 : List Int) : Option (List (List Int)) := impl_gateClauses.l1 k ([] : List (List Int)) 0 a0_0 l0_1 l1
mutual
def impl_ClausesOf.j1 : Nat → List (List Int) → (List Int) → Option ((Int × List (List Int)) × Bool)
  | 0, _, _ => none
  | k + 1, x7b1, r3 => (impl_clone_Lint.f x7b1).bind fun r6 => some (((wrap64 ((r3.length : Int) - 1)), r6), true)
end
def impl_ClausesOf.f (k : Nat) (a0_0 : Int) (l0_1 : List IAnd) (a1 : Int) : Option ((Int × List (List Int)) × Bool) := (impl_CircuitValid.f k a0_0 l0_1).bind fun r1 => if r1 = true then ((impl_Circuit_isEdge.f a0_0 l0_1 a1).bind fun r2 => if r2 = true then ((impl_numbered.f k (wrap64 ((wrap64 (1 + a0_0)) + (l0_1.length : Int)))).bind fun r3 => (impl_gateClauses.f k a0_0 l0_1 r3).bind fun r4 => (impl_edgeClause.f k [a1] r3).bind fun r5 => if r5.2 = true then (if r4.length + 1 ≤ 1099511627776 then (impl_ClausesOf.j1 k (r4 ++ [r5.1]) r3) else none) else (impl_ClausesOf.j1 k r4 r3)) else (some ((0, ([] : List (List Int))), false))) else (some ((0, ([] : List (List Int))), false))
def spec_l40Open.f (k : Nat) (l0 : List Int) : Option (List Int × Int) := if (l0.length : Int) > 2000 then (if 2000 ≤ (l0.length : Int) then (some ((l0.take (2000 : Int).toNat), 0)) else none) else (some (l0, 0))
mutual
def spec_l7Draw.l1 : Nat → Int → List IAnd → Int → List Int → Int × Int → Option (Int × (Int × List IAnd))
  | 0, _, _, _, _, _ => none
  | k + 1, x0b1, x5b1, x6, l0_0, r1 => if x6 > 0 then ((spec_l7Nodes.f r1.2 x5b1).bind fun r3 => (spec_l40Rd_pick.f k l0_0 x0b1 (wrap64 (2 * r3))).bind fun r4 => (spec_l40Rd_pick.f k l0_0 r4.1 (wrap64 (Int.tdiv (wrap64 ((wrap64 (2 * r3)) + 1)) 2))).bind fun r5 => if x5b1.length + 1 ≤ 1099511627776 then (spec_l7Draw.l1 k r5.1 (x5b1 ++ [(⟨r4.2, (wrap64 ((wrap64 ((wrap64 (2 * r3)) - 1)) - r5.2))⟩ : IAnd)]) (wrap64 (x6 - 1)) l0_0 r1) else none) else (some (x0b1, (r1.2, x5b1)))
end
def spec_l7Draw.f (k : Nat) (l0_0 : List Int) (a0_1 : Int) (a1 : Int) : Option (Int × (Int × List IAnd)) := (spec_l40Rd_pick.f k l0_0 a0_1 (wrap64 (a1 + 1))).bind fun r1 => (spec_l40Rd_num.f k l0_0 r1.1 [3, 6, 10, 1, 14, 0]).bind fun r2 => spec_l7Draw.l1 k r2.1 ([] : List IAnd) r2.2 l0_0 r1
def spec_l7Any.f (k : Nat) (l0_0 : List Int) (a0_1 : Int) (a1 : Int) : Option (Int × (Int × List IAnd)) := (spec_l7Draw.f k l0_0 a0_1 a1).bind fun r1 => (spec_l40Rd_pick.f k l0_0 r1.1 14).bind fun r2 => if r2.2 = 0 then ((spec_l40Rd_pick.f k l0_0 r2.1 2).bind fun r3 => if r3.2 = 0 then ((spec_l40Rd_num.f k l0_0 r3.1 [(-1), 13]).bind fun r4 => some (r4.1, (r4.2, r1.2.2))) else (if (r1.2.2.length : Int) = 0 then ((spec_l40Rd_num.f k l0_0 r3.1 [(-1), 13]).bind fun r5 => some (r5.1, (r5.2, r1.2.2))) else ((spec_l40Rd_pick.f k l0_0 r3.1 (r1.2.2.length : Int)).bind fun r6 => (spec_l40Rd_num.f k l0_0 r6.1 [(-1), (wrap64 (2 * (wrap64 ((wrap64 (1 + r1.2.1)) + r6.2))))]).bind fun r7 => if 0 ≤ r6.2 then (if r6.2 < (r1.2.2.length : Int) then (some (r7.1, (r1.2.1, r1.2.2.set r6.2.toNat (⟨r7.2, 0⟩ : IAnd)))) else none) else none))) else (some (r2.1, (r1.2.1, r1.2.2)))
def spec_l7Some.f (k : Nat) (l0_0 : List Int) (a0_1 : Int) (a1_0 : Int) (l1_1 : List IAnd) : Option (Int × Int) := (spec_l7Nodes.f a1_0 l1_1).bind fun r1 => (spec_l40Rd_pick.f k l0_0 a0_1 15).bind fun r2 => if r2.2 = 0 then ((spec_l40Rd_num.f k l0_0 r2.1 [(wrap64 (2 * r1)), (-1)]).bind fun r3 => some (r3.1, r3.2)) else ((spec_l40Rd_pick.f k l0_0 r2.1 2).bind fun r4 => if r4.2 = 0 then ((spec_l40Rd_pick.f k l0_0 r4.1 4).bind fun r5 => some (r5.1, (wrap64 ((wrap64 ((wrap64 (2 * r1)) - 1)) - r5.2)))) else ((spec_l40Rd_pick.f k l0_0 r4.1 (wrap64 (2 * r1))).bind fun r6 => some (r6.1, r6.2)))
def spec_DrawNeedsInputs.f (k : Nat) (l0 : List Int) : Option ((Int × List IAnd) × Int) := (spec_l40Open.f k l0).bind fun r1 => (spec_l7Any.f k r1.1 r1.2 5).bind fun r2 => (spec_l7Some.f k r1.1 r2.1 r2.2.1 r2.2.2).bind fun r3 => some ((r2.2.1, r2.2.2), r3.2)
def spec_DrawClausesOf.f (k : Nat) (l0 : List Int) : Option ((Int × List IAnd) × Int) := (spec_DrawNeedsInputs.f k l0).bind fun r1 => some ((r1.1.1, r1.1.2), r1.2)
def impl_trueIn_1_1.f (k : Nat) (a0 : Int) (l1 : List Int) : Option Bool := (impl_litTrue.f a0 l1).bind fun r1 => some r1
mutual
def slices_IndexFunc_int_int_at_impl_trueIn_1_1.l1 : Nat → Int → List Int → List Int → Option Int
  | 0, _, _, _ => none
  | k + 1, x8, l0, l2 => if x8 < (l0.length : Int) then (if 0 ≤ x8 then (if x8 < (l0.length : Int) then ((impl_trueIn_1_1.f k (rd l0 x8) l2).bind fun r1 => if r1 = true then (some x8) else (slices_IndexFunc_int_int_at_impl_trueIn_1_1.l1 k (wrap64 (x8 + 1)) l0 l2)) else none) else none) else (some (-1))
end
def slices_IndexFunc_int_int_at_impl_trueIn_1_1.f (k : Nat) (l0 : List Int) (l2 : List Int) : Option Int := slices_IndexFunc_int_int_at_impl_trueIn_1_1.l1 k 0 l0 l2
def slices_ContainsFunc_int_int_at_impl_trueIn_1_1.f (k : Nat) (l0 : List Int) (l2 : List Int) : Option Bool := (slices_IndexFunc_int_int_at_impl_trueIn_1_1.f k l0 l2).bind fun r1 => some (decide (r1 ≥ 0))
def impl_trueIn_1.f (k : Nat) (l0 : List Int) (l1 : List Int) : Option Bool := (slices_ContainsFunc_int_int_at_impl_trueIn_1_1.f k l0 l1).bind fun r1 => some (!r1)
mutual
def slices_IndexFunc_int_int_at_impl_trueIn_1.l1 : Nat → Int → List (List Int) → List Int → Option Int
  | 0, _, _, _ => none
  | k + 1, x8, l0, l2 => if x8 < (l0.length : Int) then (if 0 ≤ x8 then (if x8 < (l0.length : Int) then ((impl_trueIn_1.f k (rd_Lint l0 x8) l2).bind fun r1 => if r1 = true then (some x8) else (slices_IndexFunc_int_int_at_impl_trueIn_1.l1 k (wrap64 (x8 + 1)) l0 l2)) else none) else none) else (some (-1))
end
def slices_IndexFunc_int_int_at_impl_trueIn_1.f (k : Nat) (l0 : List (List Int)) (l2 : List Int) : Option Int := slices_IndexFunc_int_int_at_impl_trueIn_1.l1 k 0 l0 l2
def slices_ContainsFunc_int_int_at_impl_trueIn_1.f (k : Nat) (l0 : List (List Int)) (l2 : List Int) : Option Bool := (slices_IndexFunc_int_int_at_impl_trueIn_1.f k l0 l2).bind fun r1 => some (decide (r1 ≥ 0))
def impl_trueIn.f (k : Nat) (l0 : List (List Int)) (l1 : List Int) : Option Bool := (slices_ContainsFunc_int_int_at_impl_trueIn_1.f k l0 l1).bind fun r1 => some (!r1)
def impl_TrueIn.f (k : Nat) (a0_0 : Int) (l0_1 : List (List Int)) (l1 : List Int) : Option Bool := (impl_ClausesValid.f k a0_0 l0_1).bind fun r1 => if r1 = true then (if (l1.length : Int) = a0_0 then ((impl_bitsValid.f k l1).bind fun r2 => if r2 = true then ((impl_trueIn.f k l0_1 l1).bind fun r3 => some r3) else (some false)) else (some false)) else (some false)
mutual
def laws_FnClausesOf.j1 : Nat → Bool → Option Bool
  | 0, _ => none
  | k + 1, x2q6 => some x2q6
def laws_FnClausesOf.j2 : Nat → Bool → Option Bool
  | 0, _ => none
  | k + 1, x2q7 => some x2q7
def laws_FnClausesOf.j3 : Nat → Bool → Option Bool
  | 0, _ => none
  | k + 1, x2q8 => some x2q8
def laws_FnClausesOf.l5 : Nat → List Int → Int → (Int × List IAnd) × Int → (Int × List (List Int)) × Bool → Int → Option Bool
  | 0, _, _, _, _, _ => none
  | k + 1, x10q2, x83q2, r1, r2, x77 => if x83q2 < r1.1.1 then (if 0 ≤ x83q2 then (if x10q2.length + 1 ≤ 1099511627776 then (laws_FnClausesOf.l5 k (x10q2 ++ [(Int.tmod (shr .i64 x77 x83q2) 2)]) (wrap64 (x83q2 + 1)) r1 r2 x77) else none) else none) else ((impl_NodeValues.f k r1.1.1 r1.1.2 x10q2).bind fun r4 => if 0 < (r4.length : Int) then (if 1 ≤ (r4.length : Int) then ((impl_TrueIn.f k r2.1.1 r2.1.2 (r4.drop (1 : Int).toNat)).bind fun r5 => (impl_EdgeValue.f k r1.1.1 r1.1.2 x10q2 r1.2).bind fun r6 => if r5 ≠ (r6 == 1) then (some false) else (if 0 < (r4.length : Int) then (if 1 ≤ (r4.length : Int) then ((impl_InputsOf.f k r1.1.1 r1.1.2 (r4.drop (1 : Int).toNat)).bind fun r7 => (laws_wcInts.f k r7 x10q2).bind fun r8 => if r8 = true then (if r5 = true then (if (r1.1.2.length : Int) > 0 then (if 0 ≤ (wrap64 ((r4.length : Int) - 1)) then (if (wrap64 ((r4.length : Int) - 1)) < (r4.length : Int) then (if 0 ≤ (wrap64 ((r4.length : Int) - 1)) then (if (wrap64 ((r4.length : Int) - 1)) < (r4.length : Int) then (if 0 < ((r4.set (wrap64 ((r4.length : Int) - 1)).toNat (wrap64 (1 - (rd r4 (wrap64 ((r4.length : Int) - 1)))))).length : Int) then (if 1 ≤ ((r4.set (wrap64 ((r4.length : Int) - 1)).toNat (wrap64 (1 - (rd r4 (wrap64 ((r4.length : Int) - 1)))))).length : Int) then ((impl_TrueIn.f k r2.1.1 r2.1.2 ((r4.set (wrap64 ((r4.length : Int) - 1)).toNat (wrap64 (1 - (rd r4 (wrap64 ((r4.length : Int) - 1)))))).drop (1 : Int).toNat)).bind fun r9 => if r9 = true then (some false) else (laws_FnClausesOf.l4 k (wrap64 (x77 + 1)) r1 r2)) else none) else none) else none) else none) else none) else none) else (laws_FnClausesOf.l4 k (wrap64 (x77 + 1)) r1 r2)) else (laws_FnClausesOf.l4 k (wrap64 (x77 + 1)) r1 r2)) else (some false)) else none) else none)) else none) else none)
def laws_FnClausesOf.l4 : Nat → Int → (Int × List IAnd) × Int → (Int × List (List Int)) × Bool → Option Bool
  | 0, _, _, _ => none
  | k + 1, x77, r1, r2 => if x77 < (shl .i64 1 r1.1.1) then (laws_FnClausesOf.l5 k ([] : List Int) 0 r1 r2 x77) else ((impl_ClausesValid.f k r2.1.1 r2.1.2).bind fun r10 => some r10)
def laws_FnClausesOf.j6 : Nat → Bool → Option Bool
  | 0, _ => none
  | k + 1, x2q10 => some x2q10
end
def laws_FnClausesOf.f (k : Nat) (l0 : List Int) : Option Bool := if (l0.length : Int) > 1048576 then (some true) else ((spec_DrawClausesOf.f k l0).bind fun r1 => (impl_ClausesOf.f k r1.1.1 r1.1.2 r1.2).bind fun r2 => (spec_ClausesOf.f k r1.1.1 r1.1.2 r1.2).bind fun r3 => if r2.2 ≠ r3.2 then (if r2.2 = r3.2 then (if (r2.1.2.length : Int) = (r3.1.2.length : Int) then (laws_FnClausesOf.j1 k (!r2.2)) else (laws_FnClausesOf.j1 k false)) else (laws_FnClausesOf.j1 k false)) else (if r2.1.1 ≠ r3.1.1 then (if r2.2 = r3.2 then (if (r2.1.2.length : Int) = (r3.1.2.length : Int) then (laws_FnClausesOf.j2 k (!r2.2)) else (laws_FnClausesOf.j2 k false)) else (laws_FnClausesOf.j2 k false)) else (if (r2.1.2.length : Int) ≠ (r3.1.2.length : Int) then (if r2.2 = r3.2 then (if (r2.1.2.length : Int) = (r3.1.2.length : Int) then (laws_FnClausesOf.j3 k (!r2.2)) else (laws_FnClausesOf.j3 k false)) else (laws_FnClausesOf.j3 k false)) else (if r2.2 = true then (if 0 ≤ r1.1.1 then (laws_FnClausesOf.l4 k 0 r1 r2) else none) else (if r2.2 = r3.2 then (if (r2.1.2.length : Int) = (r3.1.2.length : Int) then (laws_FnClausesOf.j6 k (!r2.2)) else (laws_FnClausesOf.j6 k false)) else (laws_FnClausesOf.j6 k false))))))
end Go.Proofs.Ytigbbefdndcmbaa.PA
