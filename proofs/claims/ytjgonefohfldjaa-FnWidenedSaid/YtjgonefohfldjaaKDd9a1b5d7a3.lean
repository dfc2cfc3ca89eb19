/- Types and the Lean functions that the walks are told against. No conditions. -/
import Derived.Test.YtjgonefohfldjaaProg
import Derived.Below
import Derived.Deep.Draws
import Derived.Deep.AppendLies
import Derived.Maps.AppendAt
import Derived.OwnWalk
import Derived.Laws.BytesArg
import Derived.Laws.MakeOwn
import Derived.Laws.OwnMore
import Derived.Deep.OwnRows
import Derived.Tactics
import Derived.Lib.ConvBytes
import Derived.Laws.Slices
import Derived.WalkKit
import Derived.KernelRfl
import Derived.RowKit3
import Derived.Deep.LoopGhost
import Derived.Deep.QuietTactic
import Derived.BigQuiet
import Derived.WideLaws
import Derived.Deep.DeepCutAuto
import Derived.Deep.CutBlock
import Derived.Deep.RegionHeld3
import Derived.Laws.Rows
import Derived.Lib.AppendStr
import Derived.ArgAppend
import Derived.Laws.IdiomCopy
import Derived.OrdersHeld
import Derived.Laws.BitsLemmas
import Derived.RowKit
import Derived.Laws.StructEq
import Derived.Lib.SliceRun
import Derived.WalkSpells
import Derived.ChangeArms
import Derived.ChangeSlices
import Derived.Deep.Slices
import Derived.Test.YtjgonefohfldjaaKW62648d45e0
namespace Go.Proofs.Ytjgonefohfldjaa.PA
open Go.RowKit Go.Proofs.YtjgonefohfldjaaW.PrintWords Go.Proofs.YtjgonefohfldjaaW.PrintLast Go.Proofs.YtjgonefohfldjaaW.PrintMore
attribute [local go_sem] max2_int min2_int max_two min_two max_three min_three max_four min_four   -- for this text's walks alone
set_option linter.unusedVariables false
set_option linter.unusedSimpArgs false
structure ITerm where
  f0 : Int
  f1 : Int
  f2 : Int
  f3 : Int
def zITerm : ITerm := ⟨(0 : Int), (0 : Int), (0 : Int), (0 : Int)⟩
def rd_ITerm (xs : List ITerm) (i : Int) : ITerm := xs.getD i.toNat zITerm
def rd_LITerm (xs : List (List ITerm)) (i : Int) : (List ITerm) := xs.getD i.toNat ([] : List ITerm)
structure IVar where
  f0 : Int
  f1 : Int
  f2 : Int
def zIVar : IVar := ⟨(0 : Int), (0 : Int), (0 : Int)⟩
def rd_IVar (xs : List IVar) (i : Int) : IVar := xs.getD i.toNat zIVar
def rd_Lint (xs : List (List Int)) (i : Int) : (List Int) := xs.getD i.toNat ([] : List Int)
structure IRule where
  f0 : (List ITerm)
  f1 : (List Int)
  f2 : (List (List ITerm))
def zIRule : IRule := ⟨([] : List ITerm), ([] : List Int), ([] : List (List ITerm))⟩
def rd_IRule (xs : List IRule) (i : Int) : IRule := xs.getD i.toNat zIRule
def spec_l1In.f (a0 : Int) (a1 : Int) (a2 : Int) : Option (Bool) := if a0 ≥ a1 then (some (decide (a0 ≤ a2))) else (some false)
def spec_l2Var.f (a0_0 : Int) (a0_1 : Int) (a0_2 : Int) : Option (Bool) := (spec_l1In.f a0_0 (-9999) 9999).bind fun t102 => (if t102 = true then ((spec_l1In.f a0_1 a0_0 9999).bind fun t103 => (if t103 = true then (if (wrap64 (a0_1 - a0_0)) < 20 then ((spec_l1In.f a0_2 a0_0 a0_1).bind fun t104 => (some t104)) else (some false)) else (some false))) else (some false))
def spec_l1One.f (a0 : Int) : Option (Bool) := some (a0 == 7)
mutual
def spec_l1Kind.j0 : Nat → List Int → Int → Bool → Int → Int → Int → Int → Option (Int)
  | 0, _, _, _, _, _, _, _ => none
  | k + 1, x1, x2, x25, x106000, x106001, x106002, x106003 => if x25 = true then (some 1) else (if x106000 = 1 then ((spec_l1In.f x106001 0 (wrap64 (x2 - 1))).bind fun t107 => (if t107 = true then (if x106002 = 0 then (spec_l1Kind.j1 k x1 (x106003 == 0) x106000 x106001 x106002 x106003) else (spec_l1Kind.j1 k x1 false x106000 x106001 x106002 x106003)) else (spec_l1Kind.j1 k x1 false x106000 x106001 x106002 x106003))) else (spec_l1Kind.j1 k x1 false x106000 x106001 x106002 x106003))
def spec_l1Kind.j1 : Nat → List Int → Bool → Int → Int → Int → Int → Option (Int)
  | 0, _, _, _, _, _, _ => none
  | k + 1, x1, x45, x106000, x106001, x106002, x106003 => if x45 = true then (some 1) else ((spec_l1In.f x106000 2 9).bind fun t108 => (if t108 = true then (if x106001 = 0 then ((spec_l1In.f x106002 0 (wrap64 ((x1.length : Int) - 1))).bind fun t109 => (if t109 = true then ((spec_l1In.f x106003 0 (wrap64 ((x1.length : Int) - 1))).bind fun t110 => (spec_l1Kind.j2 k x1 (!t110) x106000 x106001 x106002 x106003)) else (spec_l1Kind.j2 k x1 true x106000 x106001 x106002 x106003))) else (spec_l1Kind.j2 k x1 true x106000 x106001 x106002 x106003)) else (spec_l1Kind.j2 k x1 true x106000 x106001 x106002 x106003)))
def spec_l1Kind.j2 : Nat → List Int → Bool → Int → Int → Int → Int → Option (Int)
  | 0, _, _, _, _, _, _ => none
  | k + 1, x1, x72, x106000, x106001, x106002, x106003 => if x72 = true then (some 0) else (if x106000 ≥ 7 then (spec_l1Kind.j3 k x1 2 x106000 x106001 x106002 x106003) else (spec_l1Kind.j3 k x1 1 x106000 x106001 x106002 x106003))
def spec_l1Kind.j3 : Nat → List Int → Int → Int → Int → Int → Int → Option (Int)
  | 0, _, _, _, _, _, _ => none
  | k + 1, x1, x7, x106000, x106001, x106002, x106003 => if 0 ≤ x106002 then (if x106002 < (x1.length : Int) then (if (rd x1 x106002) = x7 then (if 0 ≤ x106003 then (if x106003 < (x1.length : Int) then (if (rd x1 x106003) = x7 then ((spec_l1One.f x106000).bind fun t113 => (if t113 = true then (spec_l1Kind.j4 k (x106003 != x106002) x106000 x106001 x106002 x106003) else (spec_l1Kind.j4 k false x106000 x106001 x106002 x106003))) else (spec_l1Kind.j4 k true x106000 x106001 x106002 x106003)) else (none)) else (none)) else (spec_l1Kind.j4 k true x106000 x106001 x106002 x106003)) else (none)) else (none)
def spec_l1Kind.j4 : Nat → Bool → Int → Int → Int → Int → Option (Int)
  | 0, _, _, _, _, _ => none
  | k + 1, x103, x106000, x106001, x106002, x106003 => if x103 = true then (some 0) else (if x106000 ≥ 5 then (some 2) else (some 1))
end
def spec_l1Kind.f (k : Nat) (a0_0 : Int) (a0_1 : Int) (a0_2 : Int) (a0_3 : Int) (l1 : List Int) (a2 : Int) : Option (Int) := if a0_0 = 0 then ((spec_l1In.f a0_1 (-9999) 9999).bind fun t106 => (if t106 = true then (if a0_2 = 0 then (spec_l1Kind.j0 k l1 a2 (a0_3 == 0) a0_0 a0_1 a0_2 a0_3) else (spec_l1Kind.j0 k l1 a2 false a0_0 a0_1 a0_2 a0_3)) else (spec_l1Kind.j0 k l1 a2 false a0_0 a0_1 a0_2 a0_3))) else (spec_l1Kind.j0 k l1 a2 false a0_0 a0_1 a0_2 a0_3)
mutual
def spec_KindsOf.j0 : Nat → List (ITerm) → Int → Bool → Option (List Int)
  | 0, _, _, _ => none
  | k + 1, x0, x1, x16 => if x16 = true then (some ([] : List Int)) else (spec_KindsOf.l0 k x0 x1 (([] : List Int)) 0)
def spec_KindsOf.l0 : Nat → List (ITerm) → Int → List Int → Int → Option (List Int)
  | 0, _, _, _, _ => none
  | k + 1, x0, x1, x5, x6 => if x6 < (x0.length : Int) then (if 0 ≤ x6 then ((spec_l1Kind.f k ((rd_ITerm x0 x6).f0) ((rd_ITerm x0 x6).f1) ((rd_ITerm x0 x6).f2) ((rd_ITerm x0 x6).f3) x5 x1).bind fun t120 => (if t120 = 0 then (some ([] : List Int)) else (if x5.length < 17592186044416 then (spec_KindsOf.l0 k x0 x1 (x5 ++ [t120]) (wrap64 (x6 + 1))) else (none)))) else (none)) else (some x5)
end
def spec_KindsOf.f (k : Nat) (l0 : List (ITerm)) (a1 : Int) : Option (List Int) := (spec_l1In.f a1 0 5).bind fun t114 => (if t114 = true then ((spec_l1In.f (l0.length : Int) 1 40).bind fun t115 => (spec_KindsOf.j0 k l0 a1 (!t115))) else (spec_KindsOf.j0 k l0 a1 true))
def spec_l2Is.f (k : Nat) (l0 : List (ITerm)) (a1 : Int) (a2 : Int) : Option (Bool) := (spec_KindsOf.f k l0 a1).bind fun t124 => (if (t124.length : Int) > 0 then (if 0 ≤ (wrap64 ((t124.length : Int) - 1)) then (if (wrap64 ((t124.length : Int) - 1)) < (t124.length : Int) then (some ((rd t124 (wrap64 ((t124.length : Int) - 1))) == a2)) else (none)) else (none)) else (some false))
mutual
def spec_l2Rule.j0 : Nat → Int → Bool → List (ITerm) → List Int → List (List (ITerm)) → Option (Bool)
  | 0, _, _, _, _, _ => none
  | k + 1, x1, x26, x129000, x129001, x129002 => if x26 = true then (some false) else (spec_l2Rule.l0 k x1 0 x129000 x129001 x129002)
def spec_l2Rule.l0 : Nat → Int → Int → List (ITerm) → List Int → List (List (ITerm)) → Option (Bool)
  | 0, _, _, _, _, _ => none
  | k + 1, x1, x5, x129000, x129001, x129002 => if x5 < (x129001.length : Int) then (if 0 ≤ x5 then ((spec_l1In.f (rd x129001 x5) 0 (wrap64 (x1 - 1))).bind fun t131 => (if t131 = true then (if x5 > 0 then (if 0 ≤ (wrap64 (x5 - 1)) then (if (wrap64 (x5 - 1)) < (x129001.length : Int) then (if (rd x129001 x5) ≤ (rd x129001 (wrap64 (x5 - 1))) then (spec_l2Rule.j2 k x1 x5 true x129000 x129001 x129002) else (if x5 < (x129002.length : Int) then ((spec_l2Is.f k (rd_LITerm x129002 x5) x1 1).bind fun t135 => (spec_l2Rule.j2 k x1 x5 (!t135) x129000 x129001 x129002)) else (none))) else (none)) else (none)) else (if x5 < (x129002.length : Int) then ((spec_l2Is.f k (rd_LITerm x129002 x5) x1 1).bind fun t137 => (spec_l2Rule.j2 k x1 x5 (!t137) x129000 x129001 x129002)) else (none))) else (spec_l2Rule.j2 k x1 x5 true x129000 x129001 x129002))) else (none)) else (some true)
def spec_l2Rule.j2 : Nat → Int → Int → Bool → List (ITerm) → List Int → List (List (ITerm)) → Option (Bool)
  | 0, _, _, _, _, _, _ => none
  | k + 1, x1, x5, x70, x129000, x129001, x129002 => if x70 = true then (some false) else (spec_l2Rule.l0 k x1 (wrap64 (x5 + 1)) x129000 x129001 x129002)
end
def spec_l2Rule.f (k : Nat) (l0_0 : List (ITerm)) (l0_1 : List Int) (l0_2 : List (List (ITerm))) (a1 : Int) : Option (Bool) := (spec_l2Is.f k l0_0 a1 2).bind fun t129 => (if t129 = true then (if (l0_1.length : Int) = (l0_2.length : Int) then (spec_l2Rule.j0 k a1 (decide ((l0_1.length : Int) > a1)) l0_0 l0_1 l0_2) else (spec_l2Rule.j0 k a1 true l0_0 l0_1 l0_2)) else (spec_l2Rule.j0 k a1 true l0_0 l0_1 l0_2))
mutual
def spec_SystemValid.j0 : Nat → Bool → List (IVar) → List (IRule) → Option (Bool)
  | 0, _, _, _ => none
  | k + 1, x16, x139000, x139001 => if x16 = true then (some false) else (spec_SystemValid.l0 k 1 0 x139000 x139001)
def spec_SystemValid.l0 : Nat → Int → Int → List (IVar) → List (IRule) → Option (Bool)
  | 0, _, _, _, _ => none
  | k + 1, x3, x4, x139000, x139001 => if x4 < (x139000.length : Int) then (if 0 ≤ x4 then ((spec_l2Var.f ((rd_IVar x139000 x4).f0) ((rd_IVar x139000 x4).f1) ((rd_IVar x139000 x4).f2)).bind fun t141 => (if t141 = true then (spec_SystemValid.l0 k (wrap64 (x3 * (wrap64 ((wrap64 (((rd_IVar x139000 x4).f1) - ((rd_IVar x139000 x4).f0))) + 1)))) (wrap64 (x4 + 1)) x139000 x139001) else (some false))) else (none)) else (spec_SystemValid.l1 k x3 0 x139000 x139001)
def spec_SystemValid.l1 : Nat → Int → Int → List (IVar) → List (IRule) → Option (Bool)
  | 0, _, _, _, _ => none
  | k + 1, x3, x5, x139000, x139001 => if x5 < (x139001.length : Int) then (if 0 ≤ x5 then ((spec_l2Rule.f k ((rd_IRule x139001 x5).f0) ((rd_IRule x139001 x5).f1) ((rd_IRule x139001 x5).f2) (x139000.length : Int)).bind fun t145 => (if t145 = true then (spec_SystemValid.l1 k x3 (wrap64 (x5 + 1)) x139000 x139001) else (some false))) else (none)) else (some (decide (x3 ≤ 400)))
end
def spec_SystemValid.f (k : Nat) (l0_0 : List (IVar)) (l0_1 : List (IRule)) : Option (Bool) := (spec_l1In.f (l0_0.length : Int) 1 5).bind fun t139 => (if t139 = true then (spec_SystemValid.j0 k (decide ((l0_1.length : Int) > 8)) l0_0 l0_1) else (spec_SystemValid.j0 k true l0_0 l0_1))
def spec_SizeOf.l0 : Nat → Int → Int → List (IVar) → List (IRule) → Option (Int)
  | 0, _, _, _, _ => none
  | k + 1, x3, x4, x147000, x147001 => if x4 < (x147000.length : Int) then (if 0 ≤ x4 then (spec_SizeOf.l0 k (wrap64 (x3 * (wrap64 ((wrap64 (((rd_IVar x147000 x4).f1) - ((rd_IVar x147000 x4).f0))) + 1)))) (wrap64 (x4 + 1)) x147000 x147001) else (none)) else (some x3)
def spec_SizeOf.f (k : Nat) (l0_0 : List (IVar)) (l0_1 : List (IRule)) : Option (Int) := (spec_SystemValid.f k l0_0 l0_1).bind fun t147 => (if t147 = true then (spec_SizeOf.l0 k 1 0 l0_0 l0_1) else (some 0))
def spec_l40Rd_pick.f (k : Nat) (l0_0 : List Int) (a0_1 : Int) (a1 : Int) : Option (Int × Int) := if a1 < 1 then (some ((wrap64 (a0_1 + 1)), 0)) else (if (l0_0.length : Int) = 0 then (some ((wrap64 (a0_1 + 1)), 0)) else (if (wrap64 ((wrap64 (a0_1 + 1)) - 1)) < (l0_0.length : Int) then (if 0 ≤ (wrap64 ((wrap64 (a0_1 + 1)) - 1)) then (if (wrap64 ((wrap64 (a0_1 + 1)) - 1)) < (l0_0.length : Int) then (if a1 ≠ 0 then (some ((wrap64 (a0_1 + 1)), (Int.tmod (wrap64 (rd l0_0 (wrap64 ((wrap64 (a0_1 + 1)) - 1)))) a1))) else none) else none) else none) else (if (l0_0.length : Int) ≠ 0 then (if 0 ≤ (Int.tmod (wrap64 ((wrap64 (a0_1 + 1)) - 1)) (l0_0.length : Int)) then (if (Int.tmod (wrap64 ((wrap64 (a0_1 + 1)) - 1)) (l0_0.length : Int)) < (l0_0.length : Int) then (if (l0_0.length : Int) ≠ 0 then (if 0 ≤ (Int.tmod (wrap64 ((wrap64 ((wrap64 ((wrap64 (a0_1 + 1)) - 1)) * 7)) + 3)) (l0_0.length : Int)) then (if (Int.tmod (wrap64 ((wrap64 ((wrap64 ((wrap64 (a0_1 + 1)) - 1)) * 7)) + 3)) (l0_0.length : Int)) < (l0_0.length : Int) then (if (l0_0.length : Int) ≠ 0 then (if a1 ≠ 0 then (some ((wrap64 (a0_1 + 1)), (Int.tmod (Go.bits .xor .i64 (wrap64 ((wrap64 ((wrap64 ((wrap64 ((wrap64 (rd l0_0 (Int.tmod (wrap64 ((wrap64 (a0_1 + 1)) - 1)) (l0_0.length : Int)))) * 131)) + (wrap64 ((wrap64 (rd l0_0 (Int.tmod (wrap64 ((wrap64 ((wrap64 ((wrap64 (a0_1 + 1)) - 1)) * 7)) + 3)) (l0_0.length : Int)))) * 1117)))) + (wrap64 ((wrap64 ((wrap64 (a0_1 + 1)) - 1)) * 29)))) + (wrap64 ((wrap64 (Int.tdiv (wrap64 ((wrap64 (a0_1 + 1)) - 1)) (l0_0.length : Int))) * 53)))) (wrap64 (Int.tdiv (wrap64 ((wrap64 ((wrap64 ((wrap64 ((wrap64 (rd l0_0 (Int.tmod (wrap64 ((wrap64 (a0_1 + 1)) - 1)) (l0_0.length : Int)))) * 131)) + (wrap64 ((wrap64 (rd l0_0 (Int.tmod (wrap64 ((wrap64 ((wrap64 ((wrap64 (a0_1 + 1)) - 1)) * 7)) + 3)) (l0_0.length : Int)))) * 1117)))) + (wrap64 ((wrap64 ((wrap64 (a0_1 + 1)) - 1)) * 29)))) + (wrap64 ((wrap64 (Int.tdiv (wrap64 ((wrap64 (a0_1 + 1)) - 1)) (l0_0.length : Int))) * 53)))) 64))) a1))) else none) else none) else none) else none) else none) else none) else none) else none)))
def spec_l40Rd_num.f (k : Nat) (l0_0 : List Int) (a0_1 : Int) (l1 : List Int) : Option (Int × Int) := (spec_l40Rd_pick.f k l0_0 a0_1 (l1.length : Int)).bind fun r1 => if 0 ≤ r1.2 then (if r1.2 < (l1.length : Int) then (some (r1.1, (rd l1 r1.2))) else none) else none
def spec_l2Const.f (a0 : Int) : Option (Int × Int × Int × Int) := some (0, a0, 0, 0)
def spec_l2VarOf.f (a0 : Int) : Option (Int × Int × Int × Int) := some (1, a0, 0, 0)
def spec_l2Cond.f (k : Nat) (l0_0 : List Int) (a0_1 : Int) (a1_0 : Int) (a1_1 : Int) (a1_2 : Int) (a2 : Int) : Option (Int × (List ITerm)) := (spec_l40Rd_pick.f k l0_0 a0_1 (wrap64 ((wrap64 (a1_1 - a1_0)) + 1))).bind fun r1 => (spec_l40Rd_num.f k l0_0 r1.1 [6, 5, 5, 6]).bind fun r2 => (spec_l2VarOf.f a2).bind fun r3 => (spec_l2Const.f (wrap64 (a1_0 + r1.2))).bind fun r4 => (spec_l40Rd_pick.f k l0_0 r2.1 3).bind fun r5 => if r5.2 = 0 then (if 3 + 1 ≤ 1099511627776 then (some (r5.1, ([(⟨r3.1, r3.2.1, r3.2.2.1, r3.2.2.2⟩ : ITerm), (⟨r4.1, r4.2.1, r4.2.2.1, r4.2.2.2⟩ : ITerm), (⟨r2.2, 0, 0, 1⟩ : ITerm)] ++ [(⟨7, 0, 2, 2⟩ : ITerm)]))) else none) else (some (r5.1, [(⟨r3.1, r3.2.1, r3.2.2.1, r3.2.2.2⟩ : ITerm), (⟨r4.1, r4.2.1, r4.2.2.1, r4.2.2.2⟩ : ITerm), (⟨r2.2, 0, 0, 1⟩ : ITerm)]))
def spec_TermsValid.f (k : Nat) (l0 : List (ITerm)) (a1 : Int) : Option (Bool) := (spec_KindsOf.f k l0 a1).bind fun t185 => (some (decide ((t185.length : Int) > 0)))
def spec_l1Moved.f (a0_0 : Int) (a0_1 : Int) (a0_2 : Int) (a0_3 : Int) (a1 : Int) : Option (Int × Int × Int × Int) := if a0_0 ≥ 2 then (some (a0_0, 0, wrap64 (a0_2 + a1), wrap64 (a0_3 + a1))) else (some (a0_0, a0_1, a0_2, a0_3))
mutual
def spec_Joined.j0 : Nat → Int → List (ITerm) → List (ITerm) → Int → Bool → Option ((List (ITerm)))
  | 0, _, _, _, _, _ => none
  | k + 1, x0, x1, x2, x3, x21 => if x21 = true then (some ([] : List (ITerm))) else (spec_Joined.l0 k x0 x1 x2 x3 (([] : List (ITerm))) 0)
def spec_Joined.l0 : Nat → Int → List (ITerm) → List (ITerm) → Int → List (ITerm) → Int → Option ((List (ITerm)))
  | 0, _, _, _, _, _, _ => none
  | k + 1, x0, x1, x2, x3, x9, x10 => if x10 < (x1.length : Int) then (if 0 ≤ x10 then (if x9.length < 4398046511104 then (spec_Joined.l0 k x0 x1 x2 x3 (x9 ++ [(⟨(rd_ITerm x1 x10).f0, (rd_ITerm x1 x10).f1, (rd_ITerm x1 x10).f2, (rd_ITerm x1 x10).f3⟩ : ITerm)]) (wrap64 (x10 + 1))) else (none)) else (none)) else (spec_Joined.l1 k x0 x1 x2 x3 x9 0)
def spec_Joined.j3 : Nat → Int → List (ITerm) → Int → List (ITerm) → Option ((List (ITerm)))
  | 0, _, _, _, _ => none
  | k + 1, x0, x1, x3, x9 => if x9.length < 4398046511104 then ((some (x9 ++ [(⟨x0, 0, wrap64 ((x1.length : Int) - 1), wrap64 ((x9.length : Int) - 1)⟩ : ITerm)] : List (ITerm))).bind fun y208 => (if x0 < 2 then (some ([] : List (ITerm))) else ((spec_TermsValid.f k y208 x3).bind fun t211 => (if t211 = true then (some y208) else (some ([] : List (ITerm))))))) else (none)
def spec_Joined.l1 : Nat → Int → List (ITerm) → List (ITerm) → Int → List (ITerm) → Int → Option ((List (ITerm)))
  | 0, _, _, _, _, _, _ => none
  | k + 1, x0, x1, x2, x3, x9, x11 => if x11 < (x2.length : Int) then ((spec_l1One.f x0).bind fun t199 => (if t199 = true then (spec_Joined.j3 k x0 x1 x3 x9) else (if 0 ≤ x11 then ((spec_l1Moved.f ((rd_ITerm x2 x11).f0) ((rd_ITerm x2 x11).f1) ((rd_ITerm x2 x11).f2) ((rd_ITerm x2 x11).f3) (x1.length : Int)).bind fun bt201 => (if x9.length < 4398046511104 then (spec_Joined.l1 k x0 x1 x2 x3 (x9 ++ [(⟨bt201.1, bt201.2.1, bt201.2.2.1, bt201.2.2.2⟩ : ITerm)]) (wrap64 (x11 + 1))) else (none))) else (none)))) else (spec_Joined.j3 k x0 x1 x3 x9)
end
def spec_Joined.f (k : Nat) (a0 : Int) (l1 : List (ITerm)) (l2 : List (ITerm)) (a3 : Int) : Option ((List (ITerm))) := (spec_TermsValid.f k l1 a3).bind fun t190 => (if t190 = true then ((spec_TermsValid.f k l2 a3).bind fun t191 => (spec_Joined.j0 k a0 l1 l2 a3 (!t191))) else (spec_Joined.j0 k a0 l1 l2 a3 true))
def spec_l2When.f (k : Nat) (l0_0 : List Int) (a0_1 : Int) (l1 : List IVar) : Option (Int × (List ITerm)) := (spec_l40Rd_pick.f k l0_0 a0_1 (l1.length : Int)).bind fun r1 => if 0 ≤ r1.2 then (if r1.2 < (l1.length : Int) then ((spec_l2Cond.f k l0_0 r1.1 ((rd_IVar l1 r1.2).f0) ((rd_IVar l1 r1.2).f1) ((rd_IVar l1 r1.2).f2) r1.2).bind fun r2 => (spec_l40Rd_pick.f k l0_0 r2.1 2).bind fun r3 => if r3.2 = 0 then ((spec_l40Rd_pick.f k l0_0 r3.1 (l1.length : Int)).bind fun r4 => (spec_l40Rd_num.f k l0_0 r4.1 [8, 9, 8]).bind fun r5 => if 0 ≤ r4.2 then (if r4.2 < (l1.length : Int) then ((spec_l2Cond.f k l0_0 r5.1 ((rd_IVar l1 r4.2).f0) ((rd_IVar l1 r4.2).f1) ((rd_IVar l1 r4.2).f2) r4.2).bind fun r6 => (spec_Joined.f k r5.2 r2.2 r6.2 (l1.length : Int)).bind fun r7 => some (r6.1, r7)) else none) else none) else (some (r3.1, r2.2))) else none) else none
def spec_l1Number.f (k : Nat) (l0_0 : List Int) (a0_1 : Int) : Option (Int × Int) := (spec_l40Rd_pick.f k l0_0 a0_1 4).bind fun r1 => (spec_l40Rd_pick.f k l0_0 r1.1 4).bind fun r2 => (spec_l40Rd_pick.f k l0_0 r2.1 7).bind fun r3 => (spec_l40Rd_pick.f k l0_0 r3.1 200).bind fun r4 => (spec_l40Rd_pick.f k l0_0 r4.1 4).bind fun r5 => if 0 ≤ r5.2 then (if r5.2 < ([9999, (-9999), 5000, 100].length : Int) then ((spec_l40Rd_num.f k l0_0 r5.1 [r1.2, r2.2, (wrap64 (r3.2 - 3)), 1, 0, (wrap64 (r4.2 - 100)), (rd [9999, (-9999), 5000, 100] r5.2)]).bind fun r6 => some (r6.1, r6.2)) else none) else none
mutual
def spec_l1Pick.l1 : Nat → Int → List Int → List Int → Int → Int × Int → Option (Int × Int)
  | 0, _, _, _, _, _ => none
  | k + 1, x8, l0_0, l1, a2, r1 => if x8 < (l1.length : Int) then (if (l1.length : Int) ≠ 0 then (if 0 ≤ (Int.tmod (wrap64 (r1.2 + x8)) (l1.length : Int)) then (if (Int.tmod (wrap64 (r1.2 + x8)) (l1.length : Int)) < (l1.length : Int) then (if (rd l1 (Int.tmod (wrap64 (r1.2 + x8)) (l1.length : Int))) = a2 then (some (r1.1, (Int.tmod (wrap64 (r1.2 + x8)) (l1.length : Int)))) else (spec_l1Pick.l1 k (wrap64 (x8 + 1)) l0_0 l1 a2 r1)) else none) else none) else none) else (some (r1.1, (-1)))
end
def spec_l1Pick.f (k : Nat) (l0_0 : List Int) (a0_1 : Int) (l1 : List Int) (a2 : Int) : Option (Int × Int) := (spec_l40Rd_pick.f k l0_0 a0_1 (l1.length : Int)).bind fun r1 => spec_l1Pick.l1 k 0 l0_0 l1 a2 r1
mutual
def spec_l1Terms.j2 : Nat → Int → Int → Int → Int → Int → List Int → Int → Int → List ITerm → List Int → Int → Option (Int × (List ITerm))
  | 0, _, _, _, _, _, _, _, _, _, _, _ => none
  | k + 1, x0b1q33, x13b0q32, x13b1q32, x13b2q5, x13b3q11, l0_0, a1, a2, x9q3, x10q3, x11 => (spec_l1Kind.f k x13b0q32 x13b1q32 x13b2q5 x13b3q11 x10q3 a1).bind fun r3 => if r3 ≠ 0 then (if x9q3.length + 1 ≤ 1099511627776 then (if x10q3.length + 1 ≤ 1099511627776 then (spec_l1Terms.l1 k x0b1q33 (x9q3 ++ [(⟨x13b0q32, x13b1q32, x13b2q5, x13b3q11⟩ : ITerm)]) (x10q3 ++ [r3]) (wrap64 (x11 - 1)) l0_0 a1 a2) else none) else none) else (spec_l1Terms.l1 k x0b1q33 x9q3 x10q3 (wrap64 (x11 - 1)) l0_0 a1 a2)
def spec_l1Terms.j3 : Nat → Int → Int → Int → List Int → Int → Int → List ITerm → List Int → Int → Option (Int × (List ITerm))
  | 0, _, _, _, _, _, _, _, _, _ => none
  | k + 1, x0b1q35, x13b0q34, x13b1q34, l0_0, a1, a2, x9q3, x10q3, x11 => spec_l1Terms.j2 k x0b1q35 x13b0q34 x13b1q34 0 0 l0_0 a1 a2 x9q3 x10q3 x11
def spec_l1Terms.j4 : Nat → Int → Int → Int → List Int → Int → Int → List ITerm → List Int → Int → Option (Int × (List ITerm))
  | 0, _, _, _, _, _, _, _, _, _ => none
  | k + 1, x0b1q36, x13b0q35, x13b1q35, l0_0, a1, a2, x9q3, x10q3, x11 => spec_l1Terms.j3 k x0b1q36 x13b0q35 x13b1q35 l0_0 a1 a2 x9q3 x10q3 x11
def spec_l1Terms.j5 : Nat → Int → Int → Int → Int → Int → List Int → Int → Int → List ITerm → List Int → Int → Option (Int × (List ITerm))
  | 0, _, _, _, _, _, _, _, _, _, _, _ => none
  | k + 1, x0b1q40, x13b0q39, x13b1q39, x13b2q6, x13b3q13, l0_0, a1, a2, x9q3, x10q3, x11 => spec_l1Terms.j2 k x0b1q40 x13b0q39 x13b1q39 x13b2q6 x13b3q13 l0_0 a1 a2 x9q3 x10q3 x11
def spec_l1Terms.j6 : Nat → Int → Int → Int → List Int → Int → Int → List ITerm → List Int → Int → Option (Int × (List ITerm))
  | 0, _, _, _, _, _, _, _, _, _ => none
  | k + 1, x0b1q42, x13b0q41, x13b1q41, l0_0, a1, a2, x9q3, x10q3, x11 => spec_l1Terms.j5 k x0b1q42 x13b0q41 x13b1q41 0 0 l0_0 a1 a2 x9q3 x10q3 x11
def spec_l1Terms.j7 : Nat → Int → Int → Int → List Int → Int → Int → List ITerm → List Int → Int → Option (Int × (List ITerm))
  | 0, _, _, _, _, _, _, _, _, _ => none
  | k + 1, x0b1q43, x13b0q42, x13b1q42, l0_0, a1, a2, x9q3, x10q3, x11 => spec_l1Terms.j6 k x0b1q43 x13b0q42 x13b1q42 l0_0 a1 a2 x9q3 x10q3 x11
def spec_l1Terms.j9 : Nat → Int → List Int → Int → Int → List ITerm → List Int → Int → Int × Int → Int × Int → Int × Int → Option (Int × (List ITerm))
  | 0, _, _, _, _, _, _, _, _, _, _ => none
  | k + 1, x13b3q14, l0_0, a1, a2, x9q3, x10q3, x11, r2, r8, r9 => spec_l1Terms.j5 k r9.1 r2.2 0 r8.2 x13b3q14 l0_0 a1 a2 x9q3 x10q3 x11
def spec_l1Terms.j8 : Nat → Int → List Int → Int → Int → List ITerm → List Int → Int → Int × Int → Option (Int × (List ITerm))
  | 0, _, _, _, _, _, _, _, _ => none
  | k + 1, x14q8, l0_0, a1, a2, x9q3, x10q3, x11, r2 => (spec_l1Pick.f k l0_0 r2.1 x10q3 x14q8).bind fun r8 => (spec_l1Pick.f k l0_0 r8.1 x10q3 x14q8).bind fun r9 => (spec_l1One.f r2.2).bind fun r10 => if r10 = true then (spec_l1Terms.j9 k r8.2 l0_0 a1 a2 x9q3 x10q3 x11 r2 r8 r9) else (spec_l1Terms.j9 k r9.2 l0_0 a1 a2 x9q3 x10q3 x11 r2 r8 r9)
def spec_l1Terms.j10 : Nat → List ITerm → List Int → List Int → Int → Int → Option (Int × (List ITerm))
  | 0, _, _, _, _, _ => none
  | k + 1, x9q5, x10q5, l0_0, a2, x0b1q22 => if a2 = 2 then (if 0 ≤ (wrap64 ((x9q5.length : Int) - 1)) then (if (wrap64 ((x9q5.length : Int) - 1)) < (x10q5.length : Int) then (if (rd x10q5 (wrap64 ((x9q5.length : Int) - 1))) ≠ a2 then ((spec_l40Rd_num.f k l0_0 x0b1q22 [5, 6]).bind fun r11 => (spec_l1Pick.f k l0_0 r11.1 x10q5 1).bind fun r12 => if x9q5.length + 1 ≤ 1099511627776 then (some (r12.1, (x9q5 ++ [(⟨r11.2, 0, (wrap64 ((x9q5.length : Int) - 1)), r12.2⟩ : ITerm)]))) else none) else (if a2 = 1 then (if 0 ≤ (wrap64 ((x9q5.length : Int) - 1)) then (if (wrap64 ((x9q5.length : Int) - 1)) < (x10q5.length : Int) then (if (rd x10q5 (wrap64 ((x9q5.length : Int) - 1))) ≠ a2 then ((spec_l1Pick.f k l0_0 x0b1q22 x10q5 1).bind fun r13 => (spec_l40Rd_num.f k l0_0 r13.1 [2, 3]).bind fun r14 => (spec_l1Pick.f k l0_0 r14.1 x10q5 1).bind fun r15 => if x9q5.length + 1 ≤ 1099511627776 then (some (r15.1, (x9q5 ++ [(⟨r14.2, 0, r13.2, r15.2⟩ : ITerm)]))) else none) else (some (x0b1q22, x9q5))) else none) else none) else (some (x0b1q22, x9q5)))) else none) else none) else (if a2 = 1 then (if 0 ≤ (wrap64 ((x9q5.length : Int) - 1)) then (if (wrap64 ((x9q5.length : Int) - 1)) < (x10q5.length : Int) then (if (rd x10q5 (wrap64 ((x9q5.length : Int) - 1))) ≠ a2 then ((spec_l1Pick.f k l0_0 x0b1q22 x10q5 1).bind fun r16 => (spec_l40Rd_num.f k l0_0 r16.1 [2, 3]).bind fun r17 => (spec_l1Pick.f k l0_0 r17.1 x10q5 1).bind fun r18 => if x9q5.length + 1 ≤ 1099511627776 then (some (r18.1, (x9q5 ++ [(⟨r17.2, 0, r16.2, r18.2⟩ : ITerm)]))) else none) else (some (x0b1q22, x9q5))) else none) else none) else (some (x0b1q22, x9q5)))
def spec_l1Terms.l1 : Nat → Int → List ITerm → List Int → Int → List Int → Int → Int → Option (Int × (List ITerm))
  | 0, _, _, _, _, _, _, _ => none
  | k + 1, x0b1q22, x9q3, x10q3, x11, l0_0, a1, a2 => if x11 > 0 then ((spec_l40Rd_num.f k l0_0 x0b1q22 [0, 1, 1, 2, 3, 4, 5, 6, 5, 6, 7, 8, 9]).bind fun r2 => if (x9q3.length : Int) = 0 then ((spec_l1Number.f k l0_0 r2.1).bind fun r4 => if a1 > 0 then (if r2.2 ≠ 0 then ((spec_l40Rd_pick.f k l0_0 r4.1 a1).bind fun r5 => spec_l1Terms.j4 k r5.1 1 r5.2 l0_0 a1 a2 x9q3 x10q3 x11) else (spec_l1Terms.j4 k r4.1 0 r4.2 l0_0 a1 a2 x9q3 x10q3 x11)) else (spec_l1Terms.j3 k r4.1 0 r4.2 l0_0 a1 a2 x9q3 x10q3 x11)) else (if r2.2 < 2 then ((spec_l1Number.f k l0_0 r2.1).bind fun r6 => if a1 > 0 then (if r2.2 ≠ 0 then ((spec_l40Rd_pick.f k l0_0 r6.1 a1).bind fun r7 => spec_l1Terms.j7 k r7.1 1 r7.2 l0_0 a1 a2 x9q3 x10q3 x11) else (spec_l1Terms.j7 k r6.1 0 r6.2 l0_0 a1 a2 x9q3 x10q3 x11)) else (spec_l1Terms.j6 k r6.1 0 r6.2 l0_0 a1 a2 x9q3 x10q3 x11)) else (if r2.2 ≥ 7 then (spec_l1Terms.j8 k 2 l0_0 a1 a2 x9q3 x10q3 x11 r2) else (spec_l1Terms.j8 k 1 l0_0 a1 a2 x9q3 x10q3 x11 r2)))) else (if (x9q3.length : Int) = 0 then (if x9q3.length + 1 ≤ 1099511627776 then (if x10q3.length + 1 ≤ 1099511627776 then (spec_l1Terms.j10 k (x9q3 ++ [(⟨0, 1, 0, 0⟩ : ITerm)]) (x10q3 ++ [1]) l0_0 a2 x0b1q22) else none) else none) else (spec_l1Terms.j10 k x9q3 x10q3 l0_0 a2 x0b1q22))
end
def spec_l1Terms.f (k : Nat) (l0_0 : List Int) (a0_1 : Int) (a1 : Int) (a2 : Int) (a3 : Int) : Option (Int × (List ITerm)) := (spec_l40Rd_pick.f k l0_0 a0_1 a3).bind fun r1 => spec_l1Terms.l1 k r1.1 ([] : List ITerm) ([] : List Int) (wrap64 (2 + r1.2)) l0_0 a1 a2
def spec_l2Value.f (k : Nat) (l0_0 : List Int) (a0_1 : Int) (l1 : List IVar) (a2 : Int) : Option (Int × (List ITerm)) := (spec_l40Rd_pick.f k l0_0 a0_1 6).bind fun r1 => if r1.2 < 3 then ((spec_l2VarOf.f a2).bind fun r2 => (spec_l2Const.f 1).bind fun r3 => (spec_l40Rd_num.f k l0_0 r1.1 [2, 3]).bind fun r4 => some (r4.1, [(⟨r2.1, r2.2.1, r2.2.2.1, r2.2.2.2⟩ : ITerm), (⟨r3.1, r3.2.1, r3.2.2.1, r3.2.2.2⟩ : ITerm), (⟨r4.2, 0, 0, 1⟩ : ITerm)])) else (if r1.2 = 3 then (if 0 ≤ a2 then (if a2 < (l1.length : Int) then (if 0 ≤ a2 then (if a2 < (l1.length : Int) then (if 0 ≤ a2 then (if a2 < (l1.length : Int) then ((spec_l40Rd_pick.f k l0_0 r1.1 (wrap64 ((wrap64 (((rd_IVar l1 a2).f1) - ((rd_IVar l1 a2).f0))) + 1))).bind fun r5 => (spec_l2Const.f (wrap64 (((rd_IVar l1 a2).f0) + r5.2))).bind fun r6 => some (r5.1, [(⟨r6.1, r6.2.1, r6.2.2.1, r6.2.2.2⟩ : ITerm)])) else none) else none) else none) else none) else none) else none) else (if r1.2 = 4 then ((spec_l40Rd_pick.f k l0_0 r1.1 (l1.length : Int)).bind fun r7 => (spec_l2VarOf.f r7.2).bind fun r8 => some (r7.1, [(⟨r8.1, r8.2.1, r8.2.2.1, r8.2.2.2⟩ : ITerm)])) else ((spec_l1Terms.f k l0_0 r1.1 (l1.length : Int) 1 5).bind fun r9 => some (r9.1, r9.2))))
mutual
def spec_l2Rules.l2 : Nat → Int → List Int → List (List ITerm) → Int → List Int → List IVar → Int → List IRule → Int → Int × (List ITerm) → Option (Int × (List IRule))
  | 0, _, _, _, _, _, _, _, _, _, _ => none
  | k + 1, x0b1q3, x9b1q2, x9b2q2, x10q2, l0_0, l1, a2, x7, x8, r1 => if x10q2 < (l1.length : Int) then ((spec_l40Rd_pick.f k l0_0 x0b1q3 (wrap64 ((l1.length : Int) + 1))).bind fun r2 => if r2.2 < 1 then (if x9b1q2.length + 1 ≤ 1099511627776 then ((spec_l2Value.f k l0_0 r2.1 l1 x10q2).bind fun r3 => if x9b2q2.length + 1 ≤ 1099511627776 then (spec_l2Rules.l2 k r3.1 (x9b1q2 ++ [x10q2]) (x9b2q2 ++ [r3.2]) (wrap64 (x10q2 + 1)) l0_0 l1 a2 x7 x8 r1) else none) else none) else (if x10q2 = (wrap64 ((l1.length : Int) - 1)) then (if (x9b1q2.length : Int) = 0 then ((spec_l40Rd_pick.f k l0_0 r2.1 9).bind fun r4 => if r4.2 > 0 then (if x9b1q2.length + 1 ≤ 1099511627776 then ((spec_l2Value.f k l0_0 r4.1 l1 x10q2).bind fun r5 => if x9b2q2.length + 1 ≤ 1099511627776 then (spec_l2Rules.l2 k r5.1 (x9b1q2 ++ [x10q2]) (x9b2q2 ++ [r5.2]) (wrap64 (x10q2 + 1)) l0_0 l1 a2 x7 x8 r1) else none) else none) else (spec_l2Rules.l2 k r4.1 x9b1q2 x9b2q2 (wrap64 (x10q2 + 1)) l0_0 l1 a2 x7 x8 r1)) else (spec_l2Rules.l2 k r2.1 x9b1q2 x9b2q2 (wrap64 (x10q2 + 1)) l0_0 l1 a2 x7 x8 r1)) else (spec_l2Rules.l2 k r2.1 x9b1q2 x9b2q2 (wrap64 (x10q2 + 1)) l0_0 l1 a2 x7 x8 r1))) else (if x7.length + 1 ≤ 1099511627776 then (spec_l2Rules.l1 k x0b1q3 (x7 ++ [(⟨r1.2, x9b1q2, x9b2q2⟩ : IRule)]) (wrap64 (x8 + 1)) l0_0 l1 a2) else none)
def spec_l2Rules.l1 : Nat → Int → List IRule → Int → List Int → List IVar → Int → Option (Int × (List IRule))
  | 0, _, _, _, _, _, _ => none
  | k + 1, x0b1q2, x7, x8, l0_0, l1, a2 => if x8 < a2 then ((spec_l2When.f k l0_0 x0b1q2 l1).bind fun r1 => spec_l2Rules.l2 k r1.1 ([] : List Int) ([] : List (List ITerm)) 0 l0_0 l1 a2 x7 x8 r1) else (some (x0b1q2, x7))
end
def spec_l2Rules.f (k : Nat) (l0_0 : List Int) (a0_1 : Int) (l1 : List IVar) (a2 : Int) : Option (Int × (List IRule)) := spec_l2Rules.l1 k a0_1 ([] : List IRule) 0 l0_0 l1 a2
mutual
def spec_l2System.j2 : Nat → List IVar → List Int → Int → Option (Int × (List IVar × List IRule))
  | 0, _, _, _ => none
  | k + 1, x5b0q5, l0_0, x0b1 => (spec_l40Rd_num.f k l0_0 x0b1 [1, 2, 3, 4, 2, 3, 0]).bind fun r5 => (spec_l2Rules.f k l0_0 r5.1 x5b0q5 r5.2).bind fun r6 => some (r6.1, (x5b0q5, r6.2))
def spec_l2System.l1 : Nat → Int → List IVar → Int → Int → List Int → Int → Option (Int × (List IVar × List IRule))
  | 0, _, _, _, _, _, _ => none
  | k + 1, x0b1, x5b0q3, x6, x7, l0_0, a1 => if x7 > 0 then ((spec_l40Rd_num.f k l0_0 x0b1 [2, 3, 2, 4, 5]).bind fun r2 => if (wrap64 (x6 * r2.2)) ≤ a1 then ((spec_l40Rd_num.f k l0_0 r2.1 [0, 0, 0, (-1), 2]).bind fun r3 => (spec_l40Rd_pick.f k l0_0 r3.1 r2.2).bind fun r4 => if x5b0q3.length + 1 ≤ 1099511627776 then (spec_l2System.l1 k r4.1 (x5b0q3 ++ [(⟨r3.2, (wrap64 ((wrap64 (r3.2 + r2.2)) - 1)), (wrap64 (r3.2 + r4.2))⟩ : IVar)]) (wrap64 (x6 * r2.2)) (wrap64 (x7 - 1)) l0_0 a1) else none) else (spec_l2System.l1 k r2.1 x5b0q3 x6 (wrap64 (x7 - 1)) l0_0 a1)) else (if (x5b0q3.length : Int) = 0 then (if x5b0q3.length + 1 ≤ 1099511627776 then (spec_l2System.j2 k (x5b0q3 ++ [(⟨0, 1, 0⟩ : IVar)]) l0_0 x0b1) else none) else (spec_l2System.j2 k x5b0q3 l0_0 x0b1))
end
def spec_l2System.f (k : Nat) (l0_0 : List Int) (a0_1 : Int) (a1 : Int) : Option (Int × (List IVar × List IRule)) := (spec_l40Rd_pick.f k l0_0 a0_1 3).bind fun r1 => spec_l2System.l1 k r1.1 ([] : List IVar) 1 (wrap64 (1 + r1.2)) l0_0 a1
def impl_in.f (a0 : Int) (a1 : Int) (a2 : Int) : Option (Bool) := if a0 ≥ a1 then (some (decide (a0 ≤ a2))) else (some false)
def impl_size.l0 : Nat → Int → List (IVar) → Int → Int → Option (Int)
  | 0, _, _, _, _ => none
  | k + 1, x3, x6, x7, x8 => if x8 < x7 then (if 0 ≤ x8 then (if x8 < (x6.length : Int) then (impl_size.l0 k (wrap64 (x3 * (wrap64 ((wrap64 (((rd_IVar x6 x8).f1) - ((rd_IVar x6 x8).f0))) + 1)))) x6 x7 (wrap64 (x8 + 1))) else (none)) else (none)) else (some x3)
def impl_size.f (k : Nat) (l0 : List (IVar)) : Option (Int) := impl_size.l0 k 1 l0 (l0.length : Int) 0
def impl_varOk.f (a0_0 : Int) (a0_1 : Int) (a0_2 : Int) : Option (Bool) := (impl_in.f a0_0 (-9999) 9999).bind fun t455 => (if t455 = true then ((impl_in.f a0_1 a0_0 9999).bind fun t456 => (if t456 = true then (if (wrap64 (a0_1 - a0_0)) < 20 then ((impl_in.f a0_2 a0_0 a0_1).bind fun t457 => (some t457)) else (some false)) else (some false))) else (some false))
mutual
def impl_parts.j0 : Nat → Int → Bool → Option (Int × Int × Int)
  | 0, _, _ => none
  | k + 1, x5, x6 => if x6 = true then (some (2, 1, 1)) else (if x5 = 5 then (impl_parts.j1 k x5 (x5 == 5)) else (impl_parts.j1 k x5 (x5 == 6)))
def impl_parts.j1 : Nat → Int → Bool → Option (Int × Int × Int)
  | 0, _, _ => none
  | k + 1, x5, x10 => if x10 = true then (some (2, 1, 2)) else (if x5 = 7 then (some (1, 2, 2)) else (if x5 = 8 then (impl_parts.j2 k (x5 == 8)) else (impl_parts.j2 k (x5 == 9))))
def impl_parts.j2 : Nat → Bool → Option (Int × Int × Int)
  | 0, _ => none
  | k + 1, x15 => if x15 = true then (some (2, 2, 2)) else (some (0, 0, 1))
end
def impl_parts.f (k : Nat) (a0 : Int) : Option (Int × Int × Int) := if a0 = 2 then (impl_parts.j0 k a0 (a0 == 2)) else (if a0 = 3 then (impl_parts.j0 k a0 (a0 == 3)) else (impl_parts.j0 k a0 (a0 == 4)))
mutual
def impl_kindsOf.j0 : Nat → List (ITerm) → Int → Bool → Option (List Int)
  | 0, _, _, _ => none
  | k + 1, x0, x1, x20 => if x20 = true then (some ([] : List Int)) else (if 0 ≤ (x0.length : Int) then (if ((x0.length : Int) : Int).toNat ≤ 35184372088832 then (impl_kindsOf.l0 k x1 (([] : List Int)) x0 (x0.length : Int) 0) else (none)) else (none))
def impl_kindsOf.l0 : Nat → Int → List Int → List (ITerm) → Int → Int → Option (List Int)
  | 0, _, _, _, _, _ => none
  | k + 1, x1, x5, x24, x25, x26 => if x26 < x25 then (if 0 ≤ x26 then (if x26 < (x24.length : Int) then ((impl_parts.f k ((rd_ITerm x24 x26).f0)).bind fun bt465 => ((impl_in.f ((rd_ITerm x24 x26).f0) 0 9).bind fun t468 => (if ((rd_ITerm x24 x26).f0) = 0 then ((impl_in.f ((rd_ITerm x24 x26).f1) (-9999) 9999).bind fun t469 => (if t469 = true then (if ((rd_ITerm x24 x26).f2) = 0 then (impl_kindsOf.j2 k x1 x5 bt465.2.2 (((rd_ITerm x24 x26).f3) == 0) x24 x25 x26) else (impl_kindsOf.j2 k x1 x5 bt465.2.2 false x24 x25 x26)) else (impl_kindsOf.j2 k x1 x5 bt465.2.2 false x24 x25 x26))) else (if ((rd_ITerm x24 x26).f0) = 1 then ((impl_in.f ((rd_ITerm x24 x26).f1) 0 (wrap64 (x1 - 1))).bind fun t470 => (if t470 = true then (if ((rd_ITerm x24 x26).f2) = 0 then (impl_kindsOf.j2 k x1 x5 bt465.2.2 (((rd_ITerm x24 x26).f3) == 0) x24 x25 x26) else (impl_kindsOf.j2 k x1 x5 bt465.2.2 false x24 x25 x26)) else (impl_kindsOf.j2 k x1 x5 bt465.2.2 false x24 x25 x26))) else (if t468 = true then (if ((rd_ITerm x24 x26).f1) = 0 then ((impl_in.f ((rd_ITerm x24 x26).f2) 0 (wrap64 (x26 - 1))).bind fun t471 => (if t471 = true then ((impl_in.f ((rd_ITerm x24 x26).f3) 0 (wrap64 (x26 - 1))).bind fun t472 => (if t472 = true then (if 0 ≤ ((rd_ITerm x24 x26).f2) then (if ((rd_ITerm x24 x26).f2) < (x5.length : Int) then (if (rd x5 ((rd_ITerm x24 x26).f2)) = bt465.2.1 then (if 0 ≤ ((rd_ITerm x24 x26).f3) then (if ((rd_ITerm x24 x26).f3) < (x5.length : Int) then (if (rd x5 ((rd_ITerm x24 x26).f3)) = bt465.2.1 then (if bt465.1 = 2 then (impl_kindsOf.j2 k x1 x5 bt465.2.2 true x24 x25 x26) else (impl_kindsOf.j2 k x1 x5 bt465.2.2 (((rd_ITerm x24 x26).f2) == ((rd_ITerm x24 x26).f3)) x24 x25 x26)) else (impl_kindsOf.j2 k x1 x5 bt465.2.2 false x24 x25 x26)) else (none)) else (none)) else (impl_kindsOf.j2 k x1 x5 bt465.2.2 false x24 x25 x26)) else (none)) else (none)) else (impl_kindsOf.j2 k x1 x5 bt465.2.2 false x24 x25 x26))) else (impl_kindsOf.j2 k x1 x5 bt465.2.2 false x24 x25 x26))) else (impl_kindsOf.j2 k x1 x5 bt465.2.2 false x24 x25 x26)) else (impl_kindsOf.j2 k x1 x5 bt465.2.2 t468 x24 x25 x26)))))) else (none)) else (none)) else (if 0 < x5.length then (some x5) else (none))
def impl_kindsOf.j2 : Nat → Int → List Int → Int → Bool → List (ITerm) → Int → Int → Option (List Int)
  | 0, _, _, _, _, _, _, _ => none
  | k + 1, x1, x5, x10, x11, x24, x25, x26 => if x11 = true then (if x5.length < 17592186044416 then (impl_kindsOf.l0 k x1 (x5 ++ [x10]) x24 x25 (wrap64 (x26 + 1))) else (none)) else (some ([] : List Int))
end
def impl_kindsOf.f (k : Nat) (l0 : List (ITerm)) (a1 : Int) : Option (List Int) := (impl_in.f a1 0 5).bind fun t458 => (if t458 = true then ((impl_in.f (l0.length : Int) 1 40).bind fun t459 => (impl_kindsOf.j0 k l0 a1 (!t459))) else (impl_kindsOf.j0 k l0 a1 true))
def impl_kindOf.f (k : Nat) (l0 : List (ITerm)) (a1 : Int) : Option (Int) := (impl_kindsOf.f k l0 a1).bind fun t => if t = [] then some 0 else (if 0 ≤ (wrap64 ((t.length : Int) - 1)) then (if (wrap64 ((t.length : Int) - 1)) < (t.length : Int) then some (rd t (wrap64 ((t.length : Int) - 1))) else none) else none)
mutual
def impl_ruleOk.j0 : Nat → Int → Bool → List (ITerm) → List Int → List (List (ITerm)) → Option (Bool)
  | 0, _, _, _, _, _ => none
  | k + 1, x1, x20, x479000, x479001, x479002 => if x20 = true then (some false) else (impl_ruleOk.l0 k x1 x479001 (x479001.length : Int) 0 x479000 x479001 x479002)
def impl_ruleOk.l0 : Nat → Int → List Int → Int → Int → List (ITerm) → List Int → List (List (ITerm)) → Option (Bool)
  | 0, _, _, _, _, _, _, _ => none
  | k + 1, x1, x22, x23, x24, x479000, x479001, x479002 => if x24 < x23 then (if 0 ≤ x24 then (if x24 < (x22.length : Int) then ((impl_in.f (rd x22 x24) 0 (wrap64 (x1 - 1))).bind fun t481 => (if t481 = true then (if x24 > 0 then (if 0 ≤ (wrap64 (x24 - 1)) then (if (wrap64 (x24 - 1)) < (x479001.length : Int) then (if (rd x479001 (wrap64 (x24 - 1))) ≥ (rd x22 x24) then (impl_ruleOk.j2 k x1 x22 x23 x24 true x479000 x479001 x479002) else (if x24 < (x479002.length : Int) then ((impl_kindOf.f k (rd_LITerm x479002 x24) x1).bind fun t484 => (impl_ruleOk.j2 k x1 x22 x23 x24 (t484 != 1) x479000 x479001 x479002)) else (none))) else (none)) else (none)) else (if x24 < (x479002.length : Int) then ((impl_kindOf.f k (rd_LITerm x479002 x24) x1).bind fun t486 => (impl_ruleOk.j2 k x1 x22 x23 x24 (t486 != 1) x479000 x479001 x479002)) else (none))) else (impl_ruleOk.j2 k x1 x22 x23 x24 true x479000 x479001 x479002))) else (none)) else (none)) else (some true)
def impl_ruleOk.j2 : Nat → Int → List Int → Int → Int → Bool → List (ITerm) → List Int → List (List (ITerm)) → Option (Bool)
  | 0, _, _, _, _, _, _, _, _ => none
  | k + 1, x1, x22, x23, x24, x57, x479000, x479001, x479002 => if x57 = true then (some false) else (impl_ruleOk.l0 k x1 x22 x23 (wrap64 (x24 + 1)) x479000 x479001 x479002)
end
def impl_ruleOk.f (k : Nat) (l0_0 : List (ITerm)) (l0_1 : List Int) (l0_2 : List (List (ITerm))) (a1 : Int) : Option (Bool) := (impl_kindOf.f k l0_0 a1).bind fun t479 => (if t479 = 2 then (impl_ruleOk.j0 k a1 ((l0_1.length : Int) != (l0_2.length : Int)) l0_0 l0_1 l0_2) else (impl_ruleOk.j0 k a1 true l0_0 l0_1 l0_2))
def impl_SystemValid_1.f (a0_0 : Int) (a0_1 : Int) (a0_2 : Int) : Option (Bool) := (impl_varOk.f a0_0 a0_1 a0_2).bind fun t488 => (some (!t488))
def slices_IndexFunc_at_impl_SystemValid_1.l0 : Nat → List (IVar) → Int → Int → Option (Int)
  | 0, _, _, _ => none
  | k + 1, x0, x7, x8 => if x8 < x7 then (if 0 ≤ x8 then (if x8 < (x0.length : Int) then ((impl_SystemValid_1.f ((rd_IVar x0 x8).f0) ((rd_IVar x0 x8).f1) ((rd_IVar x0 x8).f2)).bind fun t490 => (if t490 = true then (some x8) else (slices_IndexFunc_at_impl_SystemValid_1.l0 k x0 x7 (wrap64 (x8 + 1))))) else (none)) else (none)) else (some (-1))
def slices_IndexFunc_at_impl_SystemValid_1.f (k : Nat) (l0 : List (IVar))  : Option (Int) := slices_IndexFunc_at_impl_SystemValid_1.l0 k l0 (l0.length : Int) 0
def slices_ContainsFunc_at_impl_SystemValid_1.f (k : Nat) (l0 : List (IVar))  : Option (Bool) := (slices_IndexFunc_at_impl_SystemValid_1.f k l0).bind fun t491 => (some (decide (t491 ≥ 0)))
def impl_SystemValid_2.f (k : Nat) (l0_0 : List (ITerm)) (l0_1 : List Int) (l0_2 : List (List (ITerm))) (l1_0 : List (IVar)) (l1_1 : List (IRule)) : Option (Bool) := (impl_ruleOk.f k l0_0 l0_1 l0_2 (l1_0.length : Int)).bind fun t494 => (some (!t494))
def slices_IndexFunc_at_impl_SystemValid_2.l0 : Nat → List (IRule) → Int → Int → List (IVar) → List (IRule) → Option (Int)
  | 0, _, _, _, _, _ => none
  | k + 1, x0, x7, x8, x496000, x496001 => if x8 < x7 then (if 0 ≤ x8 then (if x8 < (x0.length : Int) then ((impl_SystemValid_2.f k ((rd_IRule x0 x8).f0) ((rd_IRule x0 x8).f1) ((rd_IRule x0 x8).f2) x496000 x496001).bind fun t497 => (if t497 = true then (some x8) else (slices_IndexFunc_at_impl_SystemValid_2.l0 k x0 x7 (wrap64 (x8 + 1)) x496000 x496001))) else (none)) else (none)) else (some (-1))
def slices_IndexFunc_at_impl_SystemValid_2.f (k : Nat) (l0 : List (IRule))  (l2_0 : List (IVar)) (l2_1 : List (IRule)) : Option (Int) := slices_IndexFunc_at_impl_SystemValid_2.l0 k l0 (l0.length : Int) 0 l2_0 l2_1
def slices_ContainsFunc_at_impl_SystemValid_2.f (k : Nat) (l0 : List (IRule))  (l2_0 : List (IVar)) (l2_1 : List (IRule)) : Option (Bool) := (slices_IndexFunc_at_impl_SystemValid_2.f k l0 l2_0 l2_1).bind fun t499 => (some (decide (t499 ≥ 0)))
def impl_SystemValid.j0 : Nat → Bool → List (IVar) → List (IRule) → Option (Bool)
  | 0, _, _, _ => none
  | k + 1, x24, x501000, x501001 => if x24 = true then (some false) else ((slices_ContainsFunc_at_impl_SystemValid_2.f k x501001 x501000 x501001).bind fun t504 => (some (!t504)))
def impl_SystemValid.f (k : Nat) (l0_0 : List (IVar)) (l0_1 : List (IRule)) : Option (Bool) := (impl_in.f (l0_0.length : Int) 1 5).bind fun t501 => (if t501 = true then (if (l0_1.length : Int) > 8 then (impl_SystemValid.j0 k true l0_0 l0_1) else ((slices_ContainsFunc_at_impl_SystemValid_1.f k l0_0).bind fun t502 => (if t502 = true then (impl_SystemValid.j0 k true l0_0 l0_1) else ((impl_size.f k l0_0).bind fun t503 => (impl_SystemValid.j0 k (decide (t503 > 400)) l0_0 l0_1))))) else (impl_SystemValid.j0 k true l0_0 l0_1))
def impl_stateAt.l0 : Nat → Int → List Int → Int → List (IVar) → List (IRule) → Option (List Int)
  | 0, _, _, _, _, _ => none
  | k + 1, x1, x5, x6, x509000, x509001 => if x6 ≥ 0 then (if 0 ≤ x6 then (if x6 < (x509000.length : Int) then (if (wrap64 ((wrap64 (((rd_IVar x509000 x6).f1) - ((rd_IVar x509000 x6).f0))) + 1)) = 0 then (none) else (if x6 < (x5.length : Int) then (impl_stateAt.l0 k (wrap64 (Int.tdiv x1 (wrap64 ((wrap64 (((rd_IVar x509000 x6).f1) - ((rd_IVar x509000 x6).f0))) + 1)))) (x5.set (x6 : Int).toNat (wrap64 (((rd_IVar x509000 x6).f0) + (Int.tmod x1 (wrap64 ((wrap64 (((rd_IVar x509000 x6).f1) - ((rd_IVar x509000 x6).f0))) + 1)))))) (wrap64 (x6 - 1)) x509000 x509001) else (none))) else (none)) else (none)) else (some x5)
def impl_stateAt.f (k : Nat) (l0_0 : List (IVar)) (l0_1 : List (IRule)) (a1 : Int) : Option (List Int) := if 0 ≤ (l0_0.length : Int) then (if ((l0_0.length : Int) : Int).toNat ≤ 35184372088832 then ((some (List.replicate ((l0_0.length : Int) : Int).toNat 0 : List Int)).bind fun y509 => (impl_stateAt.l0 k a1 y509 (wrap64 ((y509.length : Int) - 1)) l0_0 l0_1)) else (none)) else (none)
def laws_wcInts.l0 : Nat → List Int → List Int → Int → Int → Option (Bool)
  | 0, _, _, _, _ => none
  | k + 1, x1, x12, x13, x14 => if x14 < x13 then (if 0 ≤ x14 then (if x14 < (x12.length : Int) then (if x14 < (x1.length : Int) then (if (rd x1 x14) = (rd x12 x14) then (laws_wcInts.l0 k x1 x12 x13 (wrap64 (x14 + 1))) else (some false)) else (none)) else (none)) else (none)) else (some true)
def laws_wcInts.f (k : Nat) (l0 : List Int) (l1 : List Int) : Option (Bool) := if (l0.length : Int) = (l1.length : Int) then (laws_wcInts.l0 k l1 l0 (l0.length : Int) 0) else (some false)
def spec_l3Copy.l0 : Nat → List Int → List Int → Int → Option (List Int)
  | 0, _, _, _ => none
  | k + 1, x0, x3, x4 => if x4 < (x0.length : Int) then (if 0 ≤ x4 then (if x3.length < 17592186044416 then (spec_l3Copy.l0 k x0 (x3 ++ [rd x0 x4]) (wrap64 (x4 + 1))) else (none)) else (none)) else (some x3)
def spec_l3Copy.f (k : Nat) (l0 : List Int) : Option (List Int) := spec_l3Copy.l0 k l0 (([] : List Int)) 0
def spec_FirstState.l0 : Nat → List Int → Int → List (IVar) → List (IRule) → Option (List Int)
  | 0, _, _, _, _ => none
  | k + 1, x3, x4, x531000, x531001 => if x4 < (x531000.length : Int) then ((spec_SystemValid.f k x531000 x531001).bind fun t534 => (if t534 = true then (if 0 ≤ x4 then (if x3.length < 17592186044416 then (spec_FirstState.l0 k (x3 ++ [(rd_IVar x531000 x4).f2]) (wrap64 (x4 + 1)) x531000 x531001) else (none)) else (none)) else (some x3))) else (some x3)
def spec_FirstState.f (k : Nat) (l0_0 : List (IVar)) (l0_1 : List (IRule)) : Option (List Int) := spec_FirstState.l0 k (([] : List Int)) 0 l0_0 l0_1
def spec_l4State.l0 : Nat → Int → List Int → Int → List (IVar) → List (IRule) → Option (List Int)
  | 0, _, _, _, _, _ => none
  | k + 1, x1, x5, x6, x540000, x540001 => if x6 ≥ 0 then (if 0 ≤ x6 then (if x6 < (x540000.length : Int) then (if (wrap64 ((wrap64 (((rd_IVar x540000 x6).f1) - ((rd_IVar x540000 x6).f0))) + 1)) = 0 then (none) else (if x6 < (x5.length : Int) then (spec_l4State.l0 k (wrap64 (Int.tdiv x1 (wrap64 ((wrap64 (((rd_IVar x540000 x6).f1) - ((rd_IVar x540000 x6).f0))) + 1)))) (x5.set (x6 : Int).toNat (wrap64 (((rd_IVar x540000 x6).f0) + (Int.tmod x1 (wrap64 ((wrap64 (((rd_IVar x540000 x6).f1) - ((rd_IVar x540000 x6).f0))) + 1)))))) (wrap64 (x6 - 1)) x540000 x540001) else (none))) else (none)) else (none)) else (some x5)
def spec_l4State.f (k : Nat) (l0_0 : List (IVar)) (l0_1 : List (IRule)) (a1 : Int) : Option (List Int) := (spec_FirstState.f k l0_0 l0_1).bind fun t540 => ((spec_l3Copy.f k t540).bind fun t543 => (spec_l4State.l0 k a1 t543 (wrap64 ((l0_0.length : Int) - 1)) l0_0 l0_1))
def impl_clone_int.f (l0 : List Int) : Option (List Int) := if l0.length ≤ 35184372088832 then some l0 else none
def impl_bitsFor.l0 : Nat → Int → Int → Option (Int)
  | 0, _, _ => none
  | k + 1, x0, x3 => if 0 ≤ x3 then (if (shl .i64 1 x3) < x0 then (impl_bitsFor.l0 k x0 (wrap64 (x3 + 1))) else (some x3)) else (none)
def impl_bitsFor.f (k : Nat) (a0 : Int) : Option (Int) := impl_bitsFor.l0 k a0 0
def impl_bitsOf.l0 : Nat → List Int → List (IVar) → Int → Int → Option (List Int)
  | 0, _, _, _, _ => none
  | k + 1, x3, x7, x8, x9 => if x9 < x8 then (if 0 ≤ x9 then (if x9 < (x7.length : Int) then ((impl_bitsFor.f k (wrap64 ((wrap64 (((rd_IVar x7 x9).f1) - ((rd_IVar x7 x9).f0))) + 1))).bind fun t608 => (if x3.length < 17592186044416 then (impl_bitsOf.l0 k (x3 ++ [t608]) x7 x8 (wrap64 (x9 + 1))) else (none))) else (none)) else (none)) else ((impl_clone_int.f x3).bind fun t612 => (some t612))
def impl_bitsOf.f (k : Nat) (l0_0 : List (IVar)) (l0_1 : List (IRule)) : Option (List Int) := impl_bitsOf.l0 k ([] : List Int) l0_0 (l0_0.length : Int) 0
def impl_valueBits.l0 : Nat → Int → Int → List Int → Int → Int → Option (List Int)
  | 0, _, _, _, _, _ => none
  | k + 1, x0, x1, x5, x10, x11 => if x11 < x10 then (if 0 ≤ (wrap64 ((wrap64 (x1 - 1)) - x11)) then (if 0 ≤ x11 then (if x11 < (x5.length : Int) then (impl_valueBits.l0 k x0 x1 (x5.set (x11 : Int).toNat (Go.bits .and .i64 (shr .i64 x0 (wrap64 ((wrap64 (x1 - 1)) - x11))) 1)) x10 (wrap64 (x11 + 1))) else (none)) else (none)) else (none)) else (some x5)
def impl_valueBits.f (k : Nat) (a0 : Int) (a1 : Int) : Option (List Int) := if 0 ≤ a1 then (if (a1 : Int).toNat ≤ 35184372088832 then ((some (List.replicate (a1 : Int).toNat 0 : List Int)).bind fun y615 => (impl_valueBits.l0 k a0 a1 y615 (y615.length : Int) 0)) else (none)) else (none)
theorem impl_valueBits.mono_l : ∀ k, (∀ y0 y1 y2 y3 y4, LeO (impl_valueBits.l0 k y0 y1 y2 y3 y4) (impl_valueBits.l0 (k + 1) y0 y1 y2 y3 y4))
  | 0 => fun _ _ _ _ _ r h => by simp [impl_valueBits.l0] at h
  | k + 1 => by
    have ih0 := impl_valueBits.mono_l k
    · intro y0 y1 y2 y3 y4
      unfold impl_valueBits.l0
      repeat' first
      | (with_reducible exact ih0 _ _ _ _ _)
      | (with_reducible exact LeO.refl _)
      | (with_reducible exact LeO.none _)
      | (with_reducible refine LeO.ite ?_ ?_)
      | (with_reducible refine LeO.bind ?_ (fun _ => ?_))
      | exact ih0 _ _ _ _ _
      | exact LeO.none _
      | refine LeO.ite ?_ ?_
      | refine LeO.bind ?_ (fun _ => ?_)
theorem impl_valueBits.mono : ∀ a0 a1 k, LeO (impl_valueBits.f k a0 a1) (impl_valueBits.f (k + 1) a0 a1) := by
  intro a0 a1 k
  have ih0 := impl_valueBits.mono_l k
  unfold impl_valueBits.f
  repeat' first
      | (with_reducible exact ih0 _ _ _ _ _)
      | (with_reducible exact LeO.refl _)
      | (with_reducible exact LeO.none _)
      | (with_reducible refine LeO.ite ?_ ?_)
      | (with_reducible refine LeO.bind ?_ (fun _ => ?_))
      | exact ih0 _ _ _ _ _
      | exact LeO.none _
      | refine LeO.ite ?_ ?_
      | refine LeO.bind ?_ (fun _ => ?_)
def impl_stateBits.l0 : Nat → List Int → List Int → List Int → Int → Int → List (IVar) → List (IRule) → Option (List Int)
  | 0, _, _, _, _, _, _, _ => none
  | k + 1, x1, x5, x9, x10, x11, x620000, x620001 => if x11 < x10 then (if 0 ≤ x11 then (if x11 < (x9.length : Int) then (if x11 < (x1.length : Int) then (if x11 < (x620000.length : Int) then ((impl_valueBits.f k (wrap64 ((rd x1 x11) - ((rd_IVar x620000 x11).f0))) (rd x9 x11)).bind fun t626 => (if x5.length + t626.length < 17592186044416 then (impl_stateBits.l0 k x1 (x5 ++ t626) x9 x10 (wrap64 (x11 + 1)) x620000 x620001) else (none))) else (none)) else (none)) else (none)) else (none)) else ((impl_clone_int.f x5).bind fun t632 => (some t632))
def impl_stateBits.f (k : Nat) (l0_0 : List (IVar)) (l0_1 : List (IRule)) (l1 : List Int) : Option (List Int) := (impl_bitsOf.f k l0_0 l0_1).bind fun t620 => (impl_stateBits.l0 k l1 ([] : List Int) t620 (t620.length : Int) 0 l0_0 l0_1)
def spec_l6Many.l0 : Nat → Int → Int → Int → Option (Int)
  | 0, _, _, _ => none
  | k + 1, x0, x3, x4 => if x4 < x0 then (spec_l6Many.l0 k x0 (wrap64 (x3 + 1)) (wrap64 (x4 * 2))) else (some x3)
def spec_l6Many.f (k : Nat) (a0 : Int) : Option (Int) := spec_l6Many.l0 k a0 0 1
def spec_l6Widths.l0 : Nat → List Int → Int → List (IVar) → List (IRule) → Option (List Int)
  | 0, _, _, _, _ => none
  | k + 1, x3, x4, x656000, x656001 => if x4 < (x656000.length : Int) then (if 0 ≤ x4 then ((spec_l6Many.f k (wrap64 ((wrap64 (((rd_IVar x656000 x4).f1) - ((rd_IVar x656000 x4).f0))) + 1))).bind fun t661 => (if x3.length < 17592186044416 then (spec_l6Widths.l0 k (x3 ++ [t661]) (wrap64 (x4 + 1)) x656000 x656001) else (none))) else (none)) else (some x3)
def spec_l6Widths.f (k : Nat) (l0_0 : List (IVar)) (l0_1 : List (IRule)) : Option (List Int) := spec_l6Widths.l0 k (([] : List Int)) 0 l0_0 l0_1
def spec_l6Value.l0 : Nat → Int → List Int → Int → Option (List Int)
  | 0, _, _, _ => none
  | k + 1, x0, x5, x6 => if x6 ≥ 0 then (if 0 ≤ x6 then (if x5.length < 17592186044416 then (spec_l6Value.l0 k x0 (x5 ++ [Int.tmod (shr .i64 x0 x6) 2]) (wrap64 (x6 - 1))) else (none)) else (none)) else (some x5)
def spec_l6Value.f (k : Nat) (a0 : Int) (a1 : Int) : Option (List Int) := spec_l6Value.l0 k a0 (([] : List Int)) (wrap64 (a1 - 1))
theorem spec_l6Value.mono_l : ∀ k, (∀ y0 y1 y2, LeO (spec_l6Value.l0 k y0 y1 y2) (spec_l6Value.l0 (k + 1) y0 y1 y2))
  | 0 => fun _ _ _ r h => by simp [spec_l6Value.l0] at h
  | k + 1 => by
    have ih0 := spec_l6Value.mono_l k
    · intro y0 y1 y2
      unfold spec_l6Value.l0
      repeat' first
      | (with_reducible exact ih0 _ _ _)
      | (with_reducible exact LeO.refl _)
      | (with_reducible exact LeO.none _)
      | (with_reducible refine LeO.ite ?_ ?_)
      | (with_reducible refine LeO.bind ?_ (fun _ => ?_))
      | exact ih0 _ _ _
      | exact LeO.none _
      | refine LeO.ite ?_ ?_
      | refine LeO.bind ?_ (fun _ => ?_)
theorem spec_l6Value.mono : ∀ a0 a1 k, LeO (spec_l6Value.f k a0 a1) (spec_l6Value.f (k + 1) a0 a1) := by
  intro a0 a1 k
  have ih0 := spec_l6Value.mono_l k
  unfold spec_l6Value.f
  repeat' first
      | (with_reducible exact ih0 _ _ _)
      | (with_reducible exact LeO.refl _)
      | (with_reducible exact LeO.none _)
      | (with_reducible refine LeO.ite ?_ ?_)
      | (with_reducible refine LeO.bind ?_ (fun _ => ?_))
      | exact ih0 _ _ _
      | exact LeO.none _
      | refine LeO.ite ?_ ?_
      | refine LeO.bind ?_ (fun _ => ?_)
mutual
def spec_l6State.l0 : Nat → List Int → List Int → List Int → Int → List (IVar) → List (IRule) → Option (List Int)
  | 0, _, _, _, _, _, _ => none
  | k + 1, x1, x5, x6, x7, x672000, x672001 => if x7 < (x1.length : Int) then (if 0 ≤ x7 then (if x7 < (x672000.length : Int) then (if x7 < (x6.length : Int) then ((spec_l6Value.f k (wrap64 ((rd x1 x7) - ((rd_IVar x672000 x7).f0))) (rd x6 x7)).bind fun t681 => (spec_l6State.l1 k x1 x5 x6 x7 t681 0 x672000 x672001)) else (none)) else (none)) else (none)) else (some x5)
def spec_l6State.l1 : Nat → List Int → List Int → List Int → Int → List Int → Int → List (IVar) → List (IRule) → Option (List Int)
  | 0, _, _, _, _, _, _, _, _ => none
  | k + 1, x1, x5, x6, x7, x8, x9, x672000, x672001 => if x9 < (x8.length : Int) then (if 0 ≤ x9 then (if x5.length < 17592186044416 then (spec_l6State.l1 k x1 (x5 ++ [rd x8 x9]) x6 x7 x8 (wrap64 (x9 + 1)) x672000 x672001) else (none)) else (none)) else (spec_l6State.l0 k x1 x5 x6 (wrap64 (x7 + 1)) x672000 x672001)
end
def spec_l6State.f (k : Nat) (l0_0 : List (IVar)) (l0_1 : List (IRule)) (l1 : List Int) : Option (List Int) := (spec_l6Widths.f k l0_0 l0_1).bind fun t675 => (spec_l6State.l0 k l1 (([] : List Int)) t675 0 l0_0 l0_1)
def impl_bitCount.l0 : Nat → Int → List Int → Int → Int → Option (Int)
  | 0, _, _, _, _ => none
  | k + 1, x3, x7, x8, x9 => if x9 < x8 then (if 0 ≤ x9 then (if x9 < (x7.length : Int) then (impl_bitCount.l0 k (wrap64 (x3 + (rd x7 x9))) x7 x8 (wrap64 (x9 + 1))) else (none)) else (none)) else (some x3)
def impl_bitCount.f (k : Nat) (l0_0 : List (IVar)) (l0_1 : List (IRule)) : Option (Int) := (impl_bitsOf.f k l0_0 l0_1).bind fun t720 => (impl_bitCount.l0 k 0 t720 (t720.length : Int) 0)
def spec_l6Sum.l0 : Nat → List Int → Int → Int → Option (Int)
  | 0, _, _, _ => none
  | k + 1, x0, x3, x4 => if x4 < (x0.length : Int) then (if 0 ≤ x4 then (spec_l6Sum.l0 k x0 (wrap64 (x3 + (rd x0 x4))) (wrap64 (x4 + 1))) else (none)) else (some x3)
def spec_l6Sum.f (k : Nat) (l0 : List Int) : Option (Int) := spec_l6Sum.l0 k l0 0 0
def impl_listOf.l0 : Nat → List Int → List Bool → Int → Int → Option (List Int)
  | 0, _, _, _, _ => none
  | k + 1, x3, x6, x7, x8 => if x8 < x7 then (if 0 ≤ x8 then (if x8 < (x6.length : Int) then (if rdOf false x6 x8 = true then (if x3.length < 17592186044416 then (impl_listOf.l0 k (x3 ++ [x8]) x6 x7 (wrap64 (x8 + 1))) else (none)) else (impl_listOf.l0 k x3 x6 x7 (wrap64 (x8 + 1)))) else (none)) else (none)) else ((impl_clone_int.f x3).bind fun t838 => (some t838))
def impl_listOf.f (k : Nat) (l0 : List Bool) : Option (List Int) := impl_listOf.l0 k ([] : List Int) l0 (l0.length : Int) 0
mutual
def impl_setOk.l0 : Nat → List Int → Int → List Int → Int → Int → Option (Bool)
  | 0, _, _, _, _, _ => none
  | k + 1, x0, x1, x7, x8, x9 => if x9 < x8 then (if 0 ≤ x9 then (if x9 < (x7.length : Int) then ((impl_in.f (rd x7 x9) 0 (wrap64 (x1 - 1))).bind fun t929 => (if t929 = true then (if x9 > 0 then (if 0 ≤ (wrap64 (x9 - 1)) then (if (wrap64 (x9 - 1)) < (x0.length : Int) then (impl_setOk.j1 k x0 x1 x7 x8 x9 (decide ((rd x0 (wrap64 (x9 - 1))) ≥ (rd x7 x9)))) else (none)) else (none)) else (impl_setOk.j1 k x0 x1 x7 x8 x9 false)) else (impl_setOk.j1 k x0 x1 x7 x8 x9 true))) else (none)) else (none)) else (some true)
def impl_setOk.j1 : Nat → List Int → Int → List Int → Int → Int → Bool → Option (Bool)
  | 0, _, _, _, _, _, _ => none
  | k + 1, x0, x1, x7, x8, x9, x31 => if x31 = true then (some false) else (impl_setOk.l0 k x0 x1 x7 x8 (wrap64 (x9 + 1)))
end
def impl_setOk.f (k : Nat) (l0 : List Int) (a1 : Int) : Option (Bool) := impl_setOk.l0 k l0 a1 l0 (l0.length : Int) 0
def impl_SetValid.f (k : Nat) (l0_0 : List (IVar)) (l0_1 : List (IRule)) (l1 : List Int) : Option (Bool) := (impl_SystemValid.f k l0_0 l0_1).bind fun t932 => (if t932 = true then ((impl_size.f k l0_0).bind fun t933 => ((impl_setOk.f k l1 t933).bind fun t934 => (some t934))) else (some false))
mutual
def spec_l16Some.l1 : Nat → Int → List Int → Int → List Int → Int → Option (Int × (List Int))
  | 0, _, _, _, _, _ => none
  | k + 1, x0b1, x5, x6, l0_0, a1 => if x6 < a1 then ((spec_l40Rd_num.f k l0_0 x0b1 [0, 1, 2, 2]).bind fun r1 => if x5.length + 1 ≤ 1099511627776 then (spec_l16Some.l1 k r1.1 (x5 ++ [r1.2]) (wrap64 (x6 + 1)) l0_0 a1) else none) else ((spec_l40Rd_pick.f k l0_0 x0b1 14).bind fun r2 => if r2.2 = 0 then ((spec_l40Rd_num.f k l0_0 r2.1 [0, 2, 3, (-1)]).bind fun r3 => if x5.length + 1 ≤ 1099511627776 then (some (r3.1, (x5 ++ [r3.2]))) else none) else (some (r2.1, x5)))
end
def spec_l16Some.f (k : Nat) (l0_0 : List Int) (a0_1 : Int) (a1 : Int) : Option (Int × (List Int)) := spec_l16Some.l1 k a0_1 ([] : List Int) 0 l0_0 a1
def spec_BitsOf.f (k : Nat) (l0_0 : List (IVar)) (l0_1 : List (IRule)) : Option (List Int) := (spec_SystemValid.f k l0_0 l0_1).bind fun t957 => (if t957 = true then ((spec_l6Widths.f k l0_0 l0_1).bind fun t958 => (some t958)) else (some ([] : List Int)))
def impl_CubeValid_1.f (a0 : Int) : Option (Bool) := (impl_in.f a0 0 2).bind fun t962 => (some (!t962))
def slices_IndexFunc_at_impl_CubeValid_1.l0 : Nat → List Int → Int → Int → Option (Int)
  | 0, _, _, _ => none
  | k + 1, x0, x7, x8 => if x8 < x7 then (if 0 ≤ x8 then (if x8 < (x0.length : Int) then ((impl_CubeValid_1.f (rd x0 x8)).bind fun t964 => (if t964 = true then (some x8) else (slices_IndexFunc_at_impl_CubeValid_1.l0 k x0 x7 (wrap64 (x8 + 1))))) else (none)) else (none)) else (some (-1))
def slices_IndexFunc_at_impl_CubeValid_1.f (k : Nat) (l0 : List Int)  : Option (Int) := slices_IndexFunc_at_impl_CubeValid_1.l0 k l0 (l0.length : Int) 0
def slices_ContainsFunc_at_impl_CubeValid_1.f (k : Nat) (l0 : List Int)  : Option (Bool) := (slices_IndexFunc_at_impl_CubeValid_1.f k l0).bind fun t965 => (some (decide (t965 ≥ 0)))
def impl_CubeValid.f (k : Nat) (l0 : List Int) (a1 : Int) : Option (Bool) := (impl_in.f a1 0 12).bind fun t966 => (if t966 = true then (if (l0.length : Int) = a1 then ((slices_ContainsFunc_at_impl_CubeValid_1.f k l0).bind fun t967 => (some (!t967))) else (some false)) else (some false))
def impl_cubeHas.l0 : Nat → List Int → List Int → Int → Int → Option (Bool)
  | 0, _, _, _, _ => none
  | k + 1, x1, x7, x8, x9 => if x9 < x8 then (if 0 ≤ x9 then (if x9 < (x7.length : Int) then (if (rd x7 x9) = 2 then (impl_cubeHas.l0 k x1 x7 x8 (wrap64 (x9 + 1))) else (if x9 < (x1.length : Int) then (if (rd x7 x9) = (rd x1 x9) then (impl_cubeHas.l0 k x1 x7 x8 (wrap64 (x9 + 1))) else (some false)) else (none))) else (none)) else (none)) else (some true)
def impl_cubeHas.f (k : Nat) (l0 : List Int) (l1 : List Int) : Option (Bool) := impl_cubeHas.l0 k l1 l0 (l0.length : Int) 0
def impl_cubeStates.l0 : Nat → List Int → List Bool → Int → Int → List (IVar) → List (IRule) → Option (List Int)
  | 0, _, _, _, _, _, _ => none
  | k + 1, x1, x5, x12, x13, x971000, x971001 => if x13 < x12 then ((impl_stateAt.f k x971000 x971001 x13).bind fun t975 => ((impl_stateBits.f k x971000 x971001 t975).bind fun t978 => ((impl_cubeHas.f k x1 t978).bind fun t981 => (if 0 ≤ x13 then (if x13 < (x5.length : Int) then (impl_cubeStates.l0 k x1 (x5.set (x13 : Int).toNat t981) x12 (wrap64 (x13 + 1)) x971000 x971001) else (none)) else (none))))) else ((impl_listOf.f k x5).bind fun t983 => (some t983))
def impl_cubeStates.f (k : Nat) (l0_0 : List (IVar)) (l0_1 : List (IRule)) (l1 : List Int) : Option (List Int) := (impl_size.f k l0_0).bind fun t971 => (if 0 ≤ t971 then (if (t971 : Int).toNat ≤ 281474976710656 then ((some (List.replicate (t971 : Int).toNat false : List Bool)).bind fun y972 => (impl_cubeStates.l0 k l1 y972 (y972.length : Int) 0 l0_0 l0_1)) else (none)) else (none))
def impl_CubeStates.f (k : Nat) (l0_0 : List (IVar)) (l0_1 : List (IRule)) (l1 : List Int) : Option (List Int) := (impl_SystemValid.f k l0_0 l0_1).bind fun t987 => (if t987 = true then ((impl_bitCount.f k l0_0 l0_1).bind fun t988 => ((impl_CubeValid.f k l1 t988).bind fun t989 => (if t989 = true then ((impl_cubeStates.f k l0_0 l0_1 l1).bind fun t990 => (some t990)) else (some ([] : List Int))))) else (some ([] : List Int)))
def spec_CubeValid.l0 : Nat → List Int → Int → Int → Option (Bool)
  | 0, _, _, _ => none
  | k + 1, x0, x1, x5 => if x5 < (x0.length : Int) then (if 0 ≤ x5 then ((spec_l1In.f (rd x0 x5) 0 2).bind fun t994 => (if t994 = true then (spec_CubeValid.l0 k x0 x1 (wrap64 (x5 + 1))) else (some false))) else (none)) else ((spec_l1In.f x1 0 12).bind fun t995 => (if t995 = true then (some ((x0.length : Int) == x1)) else (some false)))
def spec_CubeValid.f (k : Nat) (l0 : List Int) (a1 : Int) : Option (Bool) := spec_CubeValid.l0 k l0 a1 0
def spec_l16Cube.f (k : Nat) (l0_0 : List (IVar)) (l0_1 : List (IRule)) (l1 : List Int) : Option (Bool) := (spec_SystemValid.f k l0_0 l0_1).bind fun t997 => (if t997 = true then ((spec_l6Widths.f k l0_0 l0_1).bind fun t998 => ((spec_l6Sum.f k t998).bind fun t1001 => ((spec_CubeValid.f k l1 t1001).bind fun t1002 => (some t1002)))) else (some false))
def spec_l16Has.l0 : Nat → List Int → List Int → Int → Option (Bool)
  | 0, _, _, _ => none
  | k + 1, x0, x1, x5 => if x5 < (x0.length : Int) then (if 0 ≤ x5 then (if (rd x0 x5) = 2 then (spec_l16Has.l0 k x0 x1 (wrap64 (x5 + 1))) else (if x5 < (x1.length : Int) then (if (rd x0 x5) = (rd x1 x5) then (spec_l16Has.l0 k x0 x1 (wrap64 (x5 + 1))) else (some false)) else (none))) else (none)) else (some true)
def spec_l16Has.f (k : Nat) (l0 : List Int) (l1 : List Int) : Option (Bool) := spec_l16Has.l0 k l0 l1 0
def spec_l16States.l0 : Nat → List Int → List Int → Int → List (IVar) → List (IRule) → Option (List Int)
  | 0, _, _, _, _, _ => none
  | k + 1, x1, x5, x6, x1007000, x1007001 => (spec_SizeOf.f k x1007000 x1007001).bind fun t1010 => (if x6 < t1010 then ((spec_l4State.f k x1007000 x1007001 x6).bind fun t1011 => ((spec_l6State.f k x1007000 x1007001 t1011).bind fun t1014 => ((spec_l16Has.f k x1 t1014).bind fun t1017 => (if t1017 = true then (if x5.length < 17592186044416 then (spec_l16States.l0 k x1 (x5 ++ [x6]) (wrap64 (x6 + 1)) x1007000 x1007001) else (none)) else (spec_l16States.l0 k x1 x5 (wrap64 (x6 + 1)) x1007000 x1007001))))) else (some x5))
def spec_l16States.f (k : Nat) (l0_0 : List (IVar)) (l0_1 : List (IRule)) (l1 : List Int) : Option (List Int) := spec_l16States.l0 k l1 (([] : List Int)) 0 l0_0 l0_1
def spec_CubeStates.f (k : Nat) (l0_0 : List (IVar)) (l0_1 : List (IRule)) (l1 : List Int) : Option (List Int) := (spec_l16Cube.f k l0_0 l0_1 l1).bind fun t1022 => (if t1022 = true then ((spec_l16States.f k l0_0 l0_1 l1).bind fun t1023 => (some t1023)) else (some ([] : List Int)))
mutual
def spec_SetValid.l0 : Nat → List Int → Int → Int → Option (Bool)
  | 0, _, _, _ => none
  | k + 1, x1, x5, x6 => if x6 < (x1.length : Int) then (if 0 ≤ x6 then ((spec_l1In.f (rd x1 x6) 0 (wrap64 (x5 - 1))).bind fun t1032 => (if t1032 = true then (if x6 > 0 then (if 0 ≤ (wrap64 (x6 - 1)) then (if (wrap64 (x6 - 1)) < (x1.length : Int) then (spec_SetValid.j1 k x1 x5 x6 (decide ((rd x1 x6) ≤ (rd x1 (wrap64 (x6 - 1)))))) else (none)) else (none)) else (spec_SetValid.j1 k x1 x5 x6 false)) else (spec_SetValid.j1 k x1 x5 x6 true))) else (none)) else (some (decide (x5 > 0)))
def spec_SetValid.j1 : Nat → List Int → Int → Int → Bool → Option (Bool)
  | 0, _, _, _, _ => none
  | k + 1, x1, x5, x6, x38 => if x38 = true then (some false) else (spec_SetValid.l0 k x1 x5 (wrap64 (x6 + 1)))
end
def spec_SetValid.f (k : Nat) (l0_0 : List (IVar)) (l0_1 : List (IRule)) (l1 : List Int) : Option (Bool) := (spec_SizeOf.f k l0_0 l0_1).bind fun t1030 => (spec_SetValid.l0 k l1 t1030 0)
mutual
def spec_l4Some.l1 : Nat → Int → List Int → Int → List Int → Int → Int × Int → Option (Int × (List Int))
  | 0, _, _, _, _, _, _ => none
  | k + 1, x0b1, x5, x8, l0_0, r1, r2 => if x8 < r1 then ((spec_l40Rd_pick.f k l0_0 x0b1 r2.2).bind fun r3 => if r3.2 = 0 then (if x5.length + 1 ≤ 1099511627776 then (spec_l4Some.l1 k r3.1 (x5 ++ [x8]) (wrap64 (x8 + 1)) l0_0 r1 r2) else none) else (spec_l4Some.l1 k r3.1 x5 (wrap64 (x8 + 1)) l0_0 r1 r2)) else ((spec_l40Rd_pick.f k l0_0 x0b1 15).bind fun r4 => if r4.2 = 0 then ((spec_l40Rd_num.f k l0_0 r4.1 [r1, 0, (-1)]).bind fun r5 => if x5.length + 1 ≤ 1099511627776 then (some (r5.1, (x5 ++ [r5.2]))) else none) else (some (r4.1, x5)))
end
def spec_l4Some.f (k : Nat) (l0_0 : List Int) (a0_1 : Int) (l1_0 : List IVar) (l1_1 : List IRule) : Option (Int × (List Int)) := (spec_SizeOf.f k l1_0 l1_1).bind fun r1 => (spec_l40Rd_num.f k l0_0 a0_1 [2, 3, 1, 5, 9]).bind fun r2 => spec_l4Some.l1 k r2.1 ([] : List Int) 0 l0_0 r1 r2
mutual
def spec_l4Set.l0 : Nat → List Int → Int → Option (Bool)
  | 0, _, _ => none
  | k + 1, x0, x3 => if x3 < (x0.length : Int) then (if 0 ≤ x3 then ((spec_l1In.f (rd x0 x3) 0 399).bind fun t1061 => (if t1061 = true then (if x3 > 0 then (if 0 ≤ (wrap64 (x3 - 1)) then (if (wrap64 (x3 - 1)) < (x0.length : Int) then (spec_l4Set.j1 k x0 x3 (decide ((rd x0 x3) ≤ (rd x0 (wrap64 (x3 - 1)))))) else (none)) else (none)) else (spec_l4Set.j1 k x0 x3 false)) else (spec_l4Set.j1 k x0 x3 true))) else (none)) else (some true)
def spec_l4Set.j1 : Nat → List Int → Int → Bool → Option (Bool)
  | 0, _, _, _ => none
  | k + 1, x0, x3, x31 => if x31 = true then (some false) else (spec_l4Set.l0 k x0 (wrap64 (x3 + 1)))
end
def spec_l4Set.f (k : Nat) (l0 : List Int) : Option (Bool) := spec_l4Set.l0 k l0 0
def spec_l4Marks.l0 : Nat → List Int → List Bool → Int → Option (List Bool)
  | 0, _, _, _ => none
  | k + 1, x0, x5, x6 => if x6 < (x0.length : Int) then (if 0 ≤ x6 then (if 0 ≤ (rd x0 x6) then (if (rd x0 x6) < (x5.length : Int) then (spec_l4Marks.l0 k x0 (x5.set ((rd x0 x6) : Int).toNat true) (wrap64 (x6 + 1))) else (none)) else (none)) else (none)) else (some x5)
def spec_l4Marks.f (k : Nat) (l0 : List Int) (a1 : Int) : Option (List Bool) := if 0 ≤ a1 then (if (a1 : Int).toNat ≤ 281474976710656 then (spec_l4Marks.l0 k l0 (List.replicate (a1 : Int).toNat false) 0) else (none)) else (none)
mutual
def spec_l4Mix.l1 : Nat → List Int → Int → Int → (List Bool) → (List Bool) → Option (List Int)
  | 0, _, _, _, _, _ => none
  | k + 1, x7, x10, a2, r3, r4 => if x10 < 400 then (if a2 = 0 then (if 0 ≤ x10 then (if x10 < (r3.length : Int) then (if (rdOf false r3 x10) = true then (if 0 ≤ x10 then (if x10 < (r4.length : Int) then (if (rdOf false r4 x10) = true then (if x7.length + 1 ≤ 1099511627776 then (spec_l4Mix.l1 k (x7 ++ [x10]) (wrap64 (x10 + 1)) a2 r3 r4) else none) else (if a2 = 1 then (if 0 ≤ x10 then (if x10 < (r3.length : Int) then (if (rdOf false r3 x10) = true then (if x7.length + 1 ≤ 1099511627776 then (spec_l4Mix.l1 k (x7 ++ [x10]) (wrap64 (x10 + 1)) a2 r3 r4) else none) else (if 0 ≤ x10 then (if x10 < (r4.length : Int) then (if (rdOf false r4 x10) = true then (if x7.length + 1 ≤ 1099511627776 then (spec_l4Mix.l1 k (x7 ++ [x10]) (wrap64 (x10 + 1)) a2 r3 r4) else none) else (if a2 = 2 then (if 0 ≤ x10 then (if x10 < (r3.length : Int) then (if (rdOf false r3 x10) = true then (if 0 ≤ x10 then (if x10 < (r4.length : Int) then (if (rdOf false r4 x10) = true then (spec_l4Mix.l1 k x7 (wrap64 (x10 + 1)) a2 r3 r4) else (if x7.length + 1 ≤ 1099511627776 then (spec_l4Mix.l1 k (x7 ++ [x10]) (wrap64 (x10 + 1)) a2 r3 r4) else none)) else none) else none) else (spec_l4Mix.l1 k x7 (wrap64 (x10 + 1)) a2 r3 r4)) else none) else none) else (spec_l4Mix.l1 k x7 (wrap64 (x10 + 1)) a2 r3 r4))) else none) else none)) else none) else none) else (if a2 = 2 then (if 0 ≤ x10 then (if x10 < (r3.length : Int) then (if (rdOf false r3 x10) = true then (if 0 ≤ x10 then (if x10 < (r4.length : Int) then (if (rdOf false r4 x10) = true then (spec_l4Mix.l1 k x7 (wrap64 (x10 + 1)) a2 r3 r4) else (if x7.length + 1 ≤ 1099511627776 then (spec_l4Mix.l1 k (x7 ++ [x10]) (wrap64 (x10 + 1)) a2 r3 r4) else none)) else none) else none) else (spec_l4Mix.l1 k x7 (wrap64 (x10 + 1)) a2 r3 r4)) else none) else none) else (spec_l4Mix.l1 k x7 (wrap64 (x10 + 1)) a2 r3 r4)))) else none) else none) else (if a2 = 1 then (if 0 ≤ x10 then (if x10 < (r3.length : Int) then (if (rdOf false r3 x10) = true then (if x7.length + 1 ≤ 1099511627776 then (spec_l4Mix.l1 k (x7 ++ [x10]) (wrap64 (x10 + 1)) a2 r3 r4) else none) else (if 0 ≤ x10 then (if x10 < (r4.length : Int) then (if (rdOf false r4 x10) = true then (if x7.length + 1 ≤ 1099511627776 then (spec_l4Mix.l1 k (x7 ++ [x10]) (wrap64 (x10 + 1)) a2 r3 r4) else none) else (if a2 = 2 then (if 0 ≤ x10 then (if x10 < (r3.length : Int) then (if (rdOf false r3 x10) = true then (if 0 ≤ x10 then (if x10 < (r4.length : Int) then (if (rdOf false r4 x10) = true then (spec_l4Mix.l1 k x7 (wrap64 (x10 + 1)) a2 r3 r4) else (if x7.length + 1 ≤ 1099511627776 then (spec_l4Mix.l1 k (x7 ++ [x10]) (wrap64 (x10 + 1)) a2 r3 r4) else none)) else none) else none) else (spec_l4Mix.l1 k x7 (wrap64 (x10 + 1)) a2 r3 r4)) else none) else none) else (spec_l4Mix.l1 k x7 (wrap64 (x10 + 1)) a2 r3 r4))) else none) else none)) else none) else none) else (if a2 = 2 then (if 0 ≤ x10 then (if x10 < (r3.length : Int) then (if (rdOf false r3 x10) = true then (if 0 ≤ x10 then (if x10 < (r4.length : Int) then (if (rdOf false r4 x10) = true then (spec_l4Mix.l1 k x7 (wrap64 (x10 + 1)) a2 r3 r4) else (if x7.length + 1 ≤ 1099511627776 then (spec_l4Mix.l1 k (x7 ++ [x10]) (wrap64 (x10 + 1)) a2 r3 r4) else none)) else none) else none) else (spec_l4Mix.l1 k x7 (wrap64 (x10 + 1)) a2 r3 r4)) else none) else none) else (spec_l4Mix.l1 k x7 (wrap64 (x10 + 1)) a2 r3 r4)))) else none) else none) else (if a2 = 1 then (if 0 ≤ x10 then (if x10 < (r3.length : Int) then (if (rdOf false r3 x10) = true then (if x7.length + 1 ≤ 1099511627776 then (spec_l4Mix.l1 k (x7 ++ [x10]) (wrap64 (x10 + 1)) a2 r3 r4) else none) else (if 0 ≤ x10 then (if x10 < (r4.length : Int) then (if (rdOf false r4 x10) = true then (if x7.length + 1 ≤ 1099511627776 then (spec_l4Mix.l1 k (x7 ++ [x10]) (wrap64 (x10 + 1)) a2 r3 r4) else none) else (if a2 = 2 then (if 0 ≤ x10 then (if x10 < (r3.length : Int) then (if (rdOf false r3 x10) = true then (if 0 ≤ x10 then (if x10 < (r4.length : Int) then (if (rdOf false r4 x10) = true then (spec_l4Mix.l1 k x7 (wrap64 (x10 + 1)) a2 r3 r4) else (if x7.length + 1 ≤ 1099511627776 then (spec_l4Mix.l1 k (x7 ++ [x10]) (wrap64 (x10 + 1)) a2 r3 r4) else none)) else none) else none) else (spec_l4Mix.l1 k x7 (wrap64 (x10 + 1)) a2 r3 r4)) else none) else none) else (spec_l4Mix.l1 k x7 (wrap64 (x10 + 1)) a2 r3 r4))) else none) else none)) else none) else none) else (if a2 = 2 then (if 0 ≤ x10 then (if x10 < (r3.length : Int) then (if (rdOf false r3 x10) = true then (if 0 ≤ x10 then (if x10 < (r4.length : Int) then (if (rdOf false r4 x10) = true then (spec_l4Mix.l1 k x7 (wrap64 (x10 + 1)) a2 r3 r4) else (if x7.length + 1 ≤ 1099511627776 then (spec_l4Mix.l1 k (x7 ++ [x10]) (wrap64 (x10 + 1)) a2 r3 r4) else none)) else none) else none) else (spec_l4Mix.l1 k x7 (wrap64 (x10 + 1)) a2 r3 r4)) else none) else none) else (spec_l4Mix.l1 k x7 (wrap64 (x10 + 1)) a2 r3 r4)))) else (some x7)
end
def spec_l4Mix.f (k : Nat) (l0 : List Int) (l1 : List Int) (a2 : Int) : Option (List Int) := (spec_l4Set.f k l0).bind fun r1 => if r1 = true then ((spec_l4Set.f k l1).bind fun r2 => if r2 = true then ((spec_l4Marks.f k l0 400).bind fun r3 => (spec_l4Marks.f k l1 400).bind fun r4 => spec_l4Mix.l1 k ([] : List Int) 0 a2 r3 r4) else (some ([] : List Int))) else (some ([] : List Int))
def spec_SetWithout.f (k : Nat) (l0 : List Int) (l1 : List Int) : Option (List Int) := (spec_l4Mix.f k l0 l1 2).bind fun r1 => some r1
def impl_clone_Lint.f (l0 : List (List Int)) : Option (List (List Int)) := if l0.length ≤ 5864062014805 then some l0 else none
def impl_allBits.l0 : Nat → List (List Int) → List Int → Int → Int → List (IVar) → List (IRule) → Option ((List (List Int)))
  | 0, _, _, _, _, _, _ => none
  | k + 1, x5, x8, x9, x10, x1102000, x1102001 => if x10 < x9 then (if 0 ≤ x10 then (if x10 < (x8.length : Int) then ((impl_stateAt.f k x1102000 x1102001 (rd x8 x10)).bind fun t1103 => ((impl_stateBits.f k x1102000 x1102001 t1103).bind fun t1106 => (if x5.length < 5864062014805 then (impl_allBits.l0 k (x5 ++ [t1106]) x8 x9 (wrap64 (x10 + 1)) x1102000 x1102001) else (none)))) else (none)) else (none)) else ((impl_clone_Lint.f x5).bind fun t1112 => (some t1112))
def impl_allBits.f (k : Nat) (l0_0 : List (IVar)) (l0_1 : List (IRule)) (l1 : List Int) : Option ((List (List Int))) := impl_allBits.l0 k ([] : List (List Int)) l1 (l1.length : Int) 0 l0_0 l0_1
def spec_SetBoth.f (k : Nat) (l0 : List Int) (l1 : List Int) : Option (List Int) := (spec_l4Mix.f k l0 l1 0).bind fun r1 => some r1
mutual
def spec_l16Wide.l1 : Nat → List Int → Int → List IVar → List IRule → List Int → Option (List Int)
  | 0, _, _, _, _, _ => none
  | k + 1, x7, x8, l0_0, l0_1, l2 => if x8 < (x7.length : Int) then ((spec_l3Copy.f k x7).bind fun r2 => if 0 ≤ x8 then (if x8 < (r2.length : Int) then ((spec_l16States.f k l0_0 l0_1 (r2.set x8.toNat 2)).bind fun r3 => (spec_SetBoth.f k r3 l2).bind fun r4 => if (r4.length : Int) = 0 then (spec_l16Wide.l1 k (r2.set x8.toNat 2) (wrap64 (x8 + 1)) l0_0 l0_1 l2) else (spec_l16Wide.l1 k x7 (wrap64 (x8 + 1)) l0_0 l0_1 l2)) else none) else none) else (some x7)
end
def spec_l16Wide.f (k : Nat) (l0_0 : List IVar) (l0_1 : List IRule) (l1 : List Int) (l2 : List Int) : Option (List Int) := (spec_l3Copy.f k l1).bind fun r1 => spec_l16Wide.l1 k r1 0 l0_0 l0_1 l2
def spec_Widened.f (k : Nat) (l0_0 : List IVar) (l0_1 : List IRule) (l1 : List Int) (l2 : List Int) : Option (List Int) := (spec_l16Cube.f k l0_0 l0_1 l1).bind fun r1 => if r1 = true then ((spec_SetValid.f k l0_0 l0_1 l2).bind fun r2 => if r2 = true then ((spec_l16Wide.f k l0_0 l0_1 l1 l2).bind fun r3 => some r3) else (some ([] : List Int))) else (some ([] : List Int))
def impl_marks.l0 : Nat → List Bool → List Int → Int → Int → Option (List Bool)
  | 0, _, _, _, _ => none
  | k + 1, x5, x10, x11, x12 => if x12 < x11 then (if 0 ≤ x12 then (if x12 < (x10.length : Int) then (if 0 ≤ (rd x10 x12) then (if (rd x10 x12) < (x5.length : Int) then (impl_marks.l0 k (x5.set ((rd x10 x12) : Int).toNat true) x10 x11 (wrap64 (x12 + 1))) else (none)) else (none)) else (none)) else (none)) else (some x5)
def impl_marks.f (k : Nat) (l0 : List Int) (a1 : Int) : Option (List Bool) := if 0 ≤ a1 then (if (a1 : Int).toNat ≤ 281474976710656 then (impl_marks.l0 k (List.replicate (a1 : Int).toNat false) l0 (l0.length : Int) 0) else (none)) else (none)
def impl_SetBoth_1.f (a0 : Bool) (a1 : Bool) : Option (Bool) := if a0 = true then (some a1) else (some false)
mutual
def loop_example_wholecheck_impl_setOf_at_impl_SetBoth_1.j0 : Nat → List Int → List Int → Bool → Option (List Int)
  | 0, _, _, _ => none
  | k + 1, x0, x1, x18 => if x18 = true then (some ([] : List Int)) else ((impl_marks.f k x0 400).bind fun t1152 => ((impl_marks.f k x1 400).bind fun t1155 => (if 400 ≤ 281474976710656 then ((some (List.replicate 400 false : List Bool)).bind fun y1158 => (loop_example_wholecheck_impl_setOf_at_impl_SetBoth_1.l0 k t1152 t1155 y1158 (y1158.length : Int) 0)) else (none))))
def loop_example_wholecheck_impl_setOf_at_impl_SetBoth_1.l0 : Nat → List Bool → List Bool → List Bool → Int → Int → Option (List Int)
  | 0, _, _, _, _, _ => none
  | k + 1, x7, x8, x9, x25, x26 => if x26 < x25 then (if 0 ≤ x26 then (if x26 < (x7.length : Int) then (if x26 < (x8.length : Int) then ((impl_SetBoth_1.f (rdOf false x7 x26) (rdOf false x8 x26)).bind fun t1163 => (if x26 < (x9.length : Int) then (loop_example_wholecheck_impl_setOf_at_impl_SetBoth_1.l0 k x7 x8 (x9.set (x26 : Int).toNat t1163) x25 (wrap64 (x26 + 1))) else (none))) else (none)) else (none)) else (none)) else ((impl_listOf.f k x9).bind fun t1165 => (some t1165))
end
def loop_example_wholecheck_impl_setOf_at_impl_SetBoth_1.f (k : Nat) (l0 : List Int) (l1 : List Int)  : Option (List Int) := (impl_setOk.f k l0 400).bind fun t1150 => (if t1150 = true then ((impl_setOk.f k l1 400).bind fun t1151 => (loop_example_wholecheck_impl_setOf_at_impl_SetBoth_1.j0 k l0 l1 (!t1151))) else (loop_example_wholecheck_impl_setOf_at_impl_SetBoth_1.j0 k l0 l1 true))
def impl_SetBoth.f (k : Nat) (l0 : List Int) (l1 : List Int) : Option (List Int) := (loop_example_wholecheck_impl_setOf_at_impl_SetBoth_1.f k l0 l1).bind fun t1168 => (some t1168)
def impl_bothCubes.f (k : Nat) (l0 : List Int) (l1 : List Int) : Option (Bool) := (impl_CubeValid.f k l0 (l0.length : Int)).bind fun t1171 => (if t1171 = true then ((impl_CubeValid.f k l1 (l0.length : Int)).bind fun t1172 => (some t1172)) else (some false))
def impl_CubeInside.f (k : Nat) (l0 : List Int) (l1 : List Int) : Option (Bool) := (impl_bothCubes.f k l0 l1).bind fun t1173 => (if t1173 = true then ((impl_cubeHas.f k l1 l0).bind fun t1174 => (some t1174)) else (some false))
def spec_l40Open.f (k : Nat) (l0 : List Int) : Option (List Int × Int) := if (l0.length : Int) > 2000 then (if 2000 ≤ (l0.length : Int) then (some ((l0.take (2000 : Int).toNat), 0)) else none) else (some (l0, 0))
def spec_l2Any.f (k : Nat) (l0_0 : List Int) (a0_1 : Int) (a1 : Int) : Option (Int × (List IVar × List IRule)) := (spec_l2System.f k l0_0 a0_1 a1).bind fun r1 => (spec_l40Rd_pick.f k l0_0 r1.1 14).bind fun r2 => if r2.2 = 0 then ((spec_l40Rd_pick.f k l0_0 r2.1 6).bind fun r3 => if r3.2 = 0 then (if 0 < (r1.2.1.length : Int) then (if 0 < (r1.2.1.length : Int) then (some (r3.1, (r1.2.1.set (0 : Int).toNat (⟨(rd_IVar r1.2.1 (0 : Int)).f0, (rd_IVar r1.2.1 (0 : Int)).f1, (wrap64 (((rd_IVar r1.2.1 (0 : Int)).f1) + 1))⟩ : IVar), r1.2.2))) else none) else none) else (if r3.2 = 1 then (if 0 < (r1.2.1.length : Int) then ((spec_l40Rd_num.f k l0_0 r3.1 [(-1), 20, 19]).bind fun r4 => if 0 < (r1.2.1.length : Int) then (some (r4.1, (r1.2.1.set (0 : Int).toNat (⟨(rd_IVar r1.2.1 (0 : Int)).f0, (wrap64 (((rd_IVar r1.2.1 (0 : Int)).f0) + r4.2)), (rd_IVar r1.2.1 (0 : Int)).f2⟩ : IVar), r1.2.2))) else none) else none) else (if r3.2 = 2 then (if (r1.2.2.length : Int) > 0 then ((spec_l2Const.f 1).bind fun r5 => some (r3.1, (r1.2.1, ((⟨[(⟨r5.1, r5.2.1, r5.2.2.1, r5.2.2.2⟩ : ITerm)], (r1.2.2.getD 0 (zIRule : IRule)).f1, (r1.2.2.getD 0 (zIRule : IRule)).f2⟩ : IRule) :: r1.2.2.tail)))) else (if r3.2 = 3 then (if (r1.2.2.length : Int) > 0 then (if ((r1.2.2.getD 0 (zIRule : IRule)).f1).length + 1 ≤ 1099511627776 then (some (r3.1, (r1.2.1, ((⟨(r1.2.2.getD 0 (zIRule : IRule)).f0, (((r1.2.2.getD 0 (zIRule : IRule)).f1) ++ [(r1.2.1.length : Int)]), (r1.2.2.getD 0 (zIRule : IRule)).f2⟩ : IRule) :: r1.2.2.tail)))) else none) else (if r3.2 = 4 then (some (r3.1, (([] : List IVar), r1.2.2))) else (if (r1.2.2.length : Int) > 0 then ((spec_l2Const.f 0).bind fun r6 => if ((r1.2.2.getD 0 (zIRule : IRule)).f2).length + 1 ≤ 1099511627776 then (some (r3.1, (r1.2.1, ((⟨(r1.2.2.getD 0 (zIRule : IRule)).f0, (r1.2.2.getD 0 (zIRule : IRule)).f1, (((r1.2.2.getD 0 (zIRule : IRule)).f2) ++ [[(⟨r6.1, r6.2.1, r6.2.2.1, r6.2.2.2⟩ : ITerm)]])⟩ : IRule) :: r1.2.2.tail)))) else none) else (some (r3.1, (r1.2.1, r1.2.2)))))) else (if r3.2 = 4 then (some (r3.1, (([] : List IVar), r1.2.2))) else (if (r1.2.2.length : Int) > 0 then ((spec_l2Const.f 0).bind fun r7 => if ((r1.2.2.getD 0 (zIRule : IRule)).f2).length + 1 ≤ 1099511627776 then (some (r3.1, (r1.2.1, ((⟨(r1.2.2.getD 0 (zIRule : IRule)).f0, (r1.2.2.getD 0 (zIRule : IRule)).f1, (((r1.2.2.getD 0 (zIRule : IRule)).f2) ++ [[(⟨r7.1, r7.2.1, r7.2.2.1, r7.2.2.2⟩ : ITerm)]])⟩ : IRule) :: r1.2.2.tail)))) else none) else (some (r3.1, (r1.2.1, r1.2.2))))))) else (if r3.2 = 3 then (if (r1.2.2.length : Int) > 0 then (if ((r1.2.2.getD 0 (zIRule : IRule)).f1).length + 1 ≤ 1099511627776 then (some (r3.1, (r1.2.1, ((⟨(r1.2.2.getD 0 (zIRule : IRule)).f0, (((r1.2.2.getD 0 (zIRule : IRule)).f1) ++ [(r1.2.1.length : Int)]), (r1.2.2.getD 0 (zIRule : IRule)).f2⟩ : IRule) :: r1.2.2.tail)))) else none) else (if r3.2 = 4 then (some (r3.1, (([] : List IVar), r1.2.2))) else (if (r1.2.2.length : Int) > 0 then ((spec_l2Const.f 0).bind fun r8 => if ((r1.2.2.getD 0 (zIRule : IRule)).f2).length + 1 ≤ 1099511627776 then (some (r3.1, (r1.2.1, ((⟨(r1.2.2.getD 0 (zIRule : IRule)).f0, (r1.2.2.getD 0 (zIRule : IRule)).f1, (((r1.2.2.getD 0 (zIRule : IRule)).f2) ++ [[(⟨r8.1, r8.2.1, r8.2.2.1, r8.2.2.2⟩ : ITerm)]])⟩ : IRule) :: r1.2.2.tail)))) else none) else (some (r3.1, (r1.2.1, r1.2.2)))))) else (if r3.2 = 4 then (some (r3.1, (([] : List IVar), r1.2.2))) else (if (r1.2.2.length : Int) > 0 then ((spec_l2Const.f 0).bind fun r9 => if ((r1.2.2.getD 0 (zIRule : IRule)).f2).length + 1 ≤ 1099511627776 then (some (r3.1, (r1.2.1, ((⟨(r1.2.2.getD 0 (zIRule : IRule)).f0, (r1.2.2.getD 0 (zIRule : IRule)).f1, (((r1.2.2.getD 0 (zIRule : IRule)).f2) ++ [[(⟨r9.1, r9.2.1, r9.2.2.1, r9.2.2.2⟩ : ITerm)]])⟩ : IRule) :: r1.2.2.tail)))) else none) else (some (r3.1, (r1.2.1, r1.2.2))))))))) else (some (r2.1, (r1.2.1, r1.2.2)))
mutual
def spec_l16Draw.j1 : Nat → Int → List Int → (List Int × Int) → Int × (List IVar × List IRule) → Option ((List Int × Int) × (List IVar × List IRule) × (List Int))
  | 0, _, _, _, _ => none
  | k + 1, x5b1q2, x7q2, r1, r2 => some ((r1.1, x5b1q2), (r2.2.1, r2.2.2), x7q2)
def spec_l16Draw.j2 : Nat → Int → List Int → (List Int × Int) → Int × (List IVar × List IRule) → Option ((List Int × Int) × (List IVar × List IRule) × (List Int))
  | 0, _, _, _, _ => none
  | k + 1, x5b1q3, x7q3, r1, r2 => spec_l16Draw.j1 k x5b1q3 x7q3 r1 r2
end
def spec_l16Draw.f (k : Nat) (l0 : List Int) : Option ((List Int × Int) × (List IVar × List IRule) × (List Int)) := (spec_l40Open.f k l0).bind fun r1 => (spec_l2Any.f k r1.1 r1.2 24).bind fun r2 => (spec_BitsOf.f k r2.2.1 r2.2.2).bind fun r3 => (spec_l6Sum.f k r3).bind fun r4 => (spec_l16Some.f k r1.1 r2.1 r4).bind fun r5 => (spec_SystemValid.f k r2.2.1 r2.2.2).bind fun r6 => if r6 = true then ((spec_l40Rd_pick.f k r1.1 r5.1 3).bind fun r7 => if r7.2 = 0 then ((spec_SizeOf.f k r2.2.1 r2.2.2).bind fun r8 => (spec_l40Rd_pick.f k r1.1 r7.1 r8).bind fun r9 => (spec_l4State.f k r2.2.1 r2.2.2 r9.2).bind fun r10 => (spec_l6State.f k r2.2.1 r2.2.2 r10).bind fun r11 => spec_l16Draw.j2 k r9.1 r11 r1 r2) else (spec_l16Draw.j2 k r7.1 r5.2 r1 r2)) else (spec_l16Draw.j1 k r5.1 r5.2 r1 r2)
mutual
def spec_DrawWidened.j1 : Nat → List Int → (List Int × Int) × (List IVar × List IRule) × (List Int) → Option ((List IVar × List IRule) × (List Int) × (List Int))
  | 0, _, _ => none
  | k + 1, x8q2, r1 => some ((r1.2.1.1, r1.2.1.2), r1.2.2, x8q2)
def spec_DrawWidened.j2 : Nat → List Int → (List Int × Int) × (List IVar × List IRule) × (List Int) → Option ((List IVar × List IRule) × (List Int) × (List Int))
  | 0, _, _ => none
  | k + 1, x8q3, r1 => spec_DrawWidened.j1 k x8q3 r1
end
def spec_DrawWidened.f (k : Nat) (l0 : List Int) : Option ((List IVar × List IRule) × (List Int) × (List Int)) := (spec_l16Draw.f k l0).bind fun r1 => (spec_l4Some.f k r1.1.1 r1.1.2 r1.2.1.1 r1.2.1.2).bind fun r2 => (spec_SetValid.f k r1.2.1.1 r1.2.1.2 r2.2).bind fun r3 => if r3 = true then ((spec_l40Rd_pick.f k r1.1.1 r2.1 3).bind fun r4 => if r4.2 > 0 then ((spec_CubeStates.f k r1.2.1.1 r1.2.1.2 r1.2.2).bind fun r5 => (spec_SetWithout.f k r2.2 r5).bind fun r6 => spec_DrawWidened.j2 k r6 r1) else (spec_DrawWidened.j2 k r2.2 r1)) else (spec_DrawWidened.j1 k r2.2 r1)
def impl_hasNone.f (k : Nat) (l0 : List (List Int)) : Option (List (List Int)) := some l0
def impl_hasNone_1_1.f (k : Nat) (l0 : List Int) (l1 : List Int) : Option Bool := (impl_cubeHas.f k l1 l0).bind fun r1 => some r1
mutual
def slices_IndexFunc_int_int_at_impl_hasNone_1_1.l1 : Nat → Int → List (List Int) → List Int → Option Int
  | 0, _, _, _ => none
  | k + 1, x8, l0, l2 => if x8 < (l0.length : Int) then (if 0 ≤ x8 then (if x8 < (l0.length : Int) then ((impl_hasNone_1_1.f k (rd_Lint l0 x8) l2).bind fun r1 => if r1 = true then (some x8) else (slices_IndexFunc_int_int_at_impl_hasNone_1_1.l1 k (wrap64 (x8 + 1)) l0 l2)) else none) else none) else (some (-1))
end
def slices_IndexFunc_int_int_at_impl_hasNone_1_1.f (k : Nat) (l0 : List (List Int)) (l2 : List Int) : Option Int := slices_IndexFunc_int_int_at_impl_hasNone_1_1.l1 k 0 l0 l2
def slices_ContainsFunc_int_int_at_impl_hasNone_1_1.f (k : Nat) (l0 : List (List Int)) (l2 : List Int) : Option Bool := (slices_IndexFunc_int_int_at_impl_hasNone_1_1.f k l0 l2).bind fun r1 => some (decide (r1 ≥ 0))
def impl_hasNone_1.f (k : Nat) (l0 : List Int) (l1 : List (List Int)) : Option Bool := (slices_ContainsFunc_int_int_at_impl_hasNone_1_1.f k l1 l0).bind fun r1 => some (!r1)
mutual
def impl_widened_at_impl_hasNone_1.l1 : Nat → List Int → Int → List Int → List (List Int) → Option (List Int)
  | 0, _, _, _, _ => none
  | k + 1, x5, x12, l0, l2 => if x12 < (l0.length : Int) then (if 0 ≤ x12 then (if x12 < (l0.length : Int) then (if 0 ≤ x12 then (if x12 < (x5.length : Int) then ((impl_hasNone_1.f k (x5.set x12.toNat 2) l2).bind fun r2 => if r2 = true then (impl_widened_at_impl_hasNone_1.l1 k (x5.set x12.toNat 2) (wrap64 (x12 + 1)) l0 l2) else (if 0 ≤ x12 then (if x12 < ((x5.set x12.toNat 2).length : Int) then (impl_widened_at_impl_hasNone_1.l1 k ((x5.set x12.toNat 2).set x12.toNat (rd l0 x12)) (wrap64 (x12 + 1)) l0 l2) else none) else none)) else none) else none) else none) else none) else (some x5)
end
def impl_widened_at_impl_hasNone_1.f (k : Nat) (l0 : List Int) (l2 : List (List Int)) : Option (List Int) := (impl_clone_int.f l0).bind fun r1 => impl_widened_at_impl_hasNone_1.l1 k r1 0 l0 l2
def impl_Widened.f (k : Nat) (l0_0 : List IVar) (l0_1 : List IRule) (l1 : List Int) (l2 : List Int) : Option (List Int) := (impl_SetValid.f k l0_0 l0_1 l2).bind fun r1 => if r1 = true then ((impl_bitCount.f k l0_0 l0_1).bind fun r2 => (impl_CubeValid.f k l1 r2).bind fun r3 => if r3 = true then ((impl_allBits.f k l0_0 l0_1 l2).bind fun r4 => (impl_hasNone.f k r4).bind fun r5 => (impl_widened_at_impl_hasNone_1.f k l1 r5).bind fun r6 => some r6) else (some ([] : List Int))) else (some ([] : List Int))
def laws_FnWidened.f (k : Nat) (l0 : List Int) : Option Bool := if (l0.length : Int) > 1048576 then (some true) else ((spec_DrawWidened.f k l0).bind fun r1 => (impl_Widened.f k r1.1.1 r1.1.2 r1.2.1 r1.2.2).bind fun r2 => (spec_Widened.f k r1.1.1 r1.1.2 r1.2.1 r1.2.2).bind fun r3 => (laws_wcInts.f k r2 r3).bind fun r4 => if r4 = true then ((impl_SetValid.f k r1.1.1 r1.1.2 r1.2.2).bind fun r5 => (spec_SetValid.f k r1.1.1 r1.1.2 r1.2.2).bind fun r6 => if r5 ≠ r6 then (some false) else (if (r2.length : Int) = 0 then (some true) else ((impl_CubeStates.f k r1.1.1 r1.1.2 r1.2.1).bind fun r7 => (impl_SetBoth.f k r7 r1.2.2).bind fun r8 => (impl_CubeInside.f k r1.2.1 r2).bind fun r9 => if r9 = true then (if (r8.length : Int) > 0 then (some true) else ((impl_CubeStates.f k r1.1.1 r1.1.2 r2).bind fun r10 => (impl_SetBoth.f k r10 r1.2.2).bind fun r11 => some ((r11.length : Int) == 0))) else (some false)))) else (some false))
end Go.Proofs.Ytjgonefohfldjaa.PA
