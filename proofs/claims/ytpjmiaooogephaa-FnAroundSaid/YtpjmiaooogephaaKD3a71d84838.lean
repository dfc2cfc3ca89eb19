/- Types and the Lean functions that the walks are told against. No conditions. -/
import Derived.Test.YtpjmiaooogephaaProg
import Derived.Below
import Derived.Deep.Draws
import Derived.Deep.AppendLies
import Derived.Maps.AppendAt
import Derived.OwnWalk
import Derived.Laws.BytesArg
import Derived.Laws.MakeOwn
import Derived.Laws.OwnMore
import Derived.Deep.OwnRows
import Derived.Tactics
import Derived.Lib.ConvBytes
import Derived.Laws.Slices
import Derived.WalkKit
import Derived.KernelRfl
import Derived.RowKit3
import Derived.Deep.LoopGhost
import Derived.Deep.QuietTactic
import Derived.BigQuiet
import Derived.WideLaws
import Derived.Deep.DeepCutAuto
import Derived.Deep.CutBlock
import Derived.Deep.RegionHeld3
import Derived.Laws.Rows
import Derived.Lib.AppendStr
import Derived.ArgAppend
import Derived.Laws.IdiomCopy
import Derived.OrdersHeld
import Derived.Laws.BitsLemmas
import Derived.RowKit
import Derived.Laws.StructEq
import Derived.Lib.SliceRun
import Derived.WalkSpells
import Derived.ChangeArms
import Derived.ChangeSlices
import Derived.Deep.Slices
import Derived.Test.YtpjmiaooogephaaKWa94c7adb1d
namespace Go.Proofs.Ytpjmiaooogephaa.PA
open Go.RowKit Go.Proofs.YtpjmiaooogephaaW.PrintWords Go.Proofs.YtpjmiaooogephaaW.PrintLast Go.Proofs.YtpjmiaooogephaaW.PrintMore
attribute [local go_sem] max2_int min2_int max_two min_two max_three min_three max_four min_four   -- for this text's walks alone
set_option linter.unusedVariables false
set_option linter.unusedSimpArgs false
structure LVar where
  f0 : Int
  f1 : Int
  f2 : Int
def zLVar : LVar := ⟨(0 : Int), (0 : Int), (0 : Int)⟩
def rd_LVar (xs : List LVar) (i : Int) : LVar := xs.getD i.toNat zLVar
structure LTerm where
  f0 : Int
  f1 : Int
  f2 : Int
  f3 : Int
def zLTerm : LTerm := ⟨(0 : Int), (0 : Int), (0 : Int), (0 : Int)⟩
def rd_LTerm (xs : List LTerm) (i : Int) : LTerm := xs.getD i.toNat zLTerm
def rd_LLTerm (xs : List (List LTerm)) (i : Int) : (List LTerm) := xs.getD i.toNat ([] : List LTerm)
def rd_Lint (xs : List (List Int)) (i : Int) : (List Int) := xs.getD i.toNat ([] : List Int)
structure LRule where
  f0 : (List LTerm)
  f1 : (List Int)
  f2 : (List (List LTerm))
def zLRule : LRule := ⟨([] : List LTerm), ([] : List Int), ([] : List (List LTerm))⟩
def rd_LRule (xs : List LRule) (i : Int) : LRule := xs.getD i.toNat zLRule
structure ITerm where
  f0 : Int
  f1 : Int
  f2 : Int
  f3 : Int
def zITerm : ITerm := ⟨(0 : Int), (0 : Int), (0 : Int), (0 : Int)⟩
def rd_ITerm (xs : List ITerm) (i : Int) : ITerm := xs.getD i.toNat zITerm
structure IVar where
  f0 : Int
  f1 : Int
  f2 : Int
def zIVar : IVar := ⟨(0 : Int), (0 : Int), (0 : Int)⟩
def rd_IVar (xs : List IVar) (i : Int) : IVar := xs.getD i.toNat zIVar
def rd_LITerm (xs : List (List ITerm)) (i : Int) : (List ITerm) := xs.getD i.toNat ([] : List ITerm)
structure IRule where
  f0 : (List ITerm)
  f1 : (List Int)
  f2 : (List (List ITerm))
def zIRule : IRule := ⟨([] : List ITerm), ([] : List Int), ([] : List (List ITerm))⟩
def rd_IRule (xs : List IRule) (i : Int) : IRule := xs.getD i.toNat zIRule
def spec_l40Rd_pick.f (k : Nat) (l0_0 : List Int) (a0_1 : Int) (a1 : Int) : Option (Int × Int) := if a1 < 1 then (some ((wrap64 (a0_1 + 1)), 0)) else (if (l0_0.length : Int) = 0 then (some ((wrap64 (a0_1 + 1)), 0)) else (if (wrap64 ((wrap64 (a0_1 + 1)) - 1)) < (l0_0.length : Int) then (if 0 ≤ (wrap64 ((wrap64 (a0_1 + 1)) - 1)) then (if (wrap64 ((wrap64 (a0_1 + 1)) - 1)) < (l0_0.length : Int) then (if a1 ≠ 0 then (some ((wrap64 (a0_1 + 1)), (Int.tmod (wrap64 (rd l0_0 (wrap64 ((wrap64 (a0_1 + 1)) - 1)))) a1))) else none) else none) else none) else (if (l0_0.length : Int) ≠ 0 then (if 0 ≤ (Int.tmod (wrap64 ((wrap64 (a0_1 + 1)) - 1)) (l0_0.length : Int)) then (if (Int.tmod (wrap64 ((wrap64 (a0_1 + 1)) - 1)) (l0_0.length : Int)) < (l0_0.length : Int) then (if (l0_0.length : Int) ≠ 0 then (if 0 ≤ (Int.tmod (wrap64 ((wrap64 ((wrap64 ((wrap64 (a0_1 + 1)) - 1)) * 7)) + 3)) (l0_0.length : Int)) then (if (Int.tmod (wrap64 ((wrap64 ((wrap64 ((wrap64 (a0_1 + 1)) - 1)) * 7)) + 3)) (l0_0.length : Int)) < (l0_0.length : Int) then (if (l0_0.length : Int) ≠ 0 then (if a1 ≠ 0 then (some ((wrap64 (a0_1 + 1)), (Int.tmod (Go.bits .xor .i64 (wrap64 ((wrap64 ((wrap64 ((wrap64 ((wrap64 (rd l0_0 (Int.tmod (wrap64 ((wrap64 (a0_1 + 1)) - 1)) (l0_0.length : Int)))) * 131)) + (wrap64 ((wrap64 (rd l0_0 (Int.tmod (wrap64 ((wrap64 ((wrap64 ((wrap64 (a0_1 + 1)) - 1)) * 7)) + 3)) (l0_0.length : Int)))) * 1117)))) + (wrap64 ((wrap64 ((wrap64 (a0_1 + 1)) - 1)) * 29)))) + (wrap64 ((wrap64 (Int.tdiv (wrap64 ((wrap64 (a0_1 + 1)) - 1)) (l0_0.length : Int))) * 53)))) (wrap64 (Int.tdiv (wrap64 ((wrap64 ((wrap64 ((wrap64 ((wrap64 (rd l0_0 (Int.tmod (wrap64 ((wrap64 (a0_1 + 1)) - 1)) (l0_0.length : Int)))) * 131)) + (wrap64 ((wrap64 (rd l0_0 (Int.tmod (wrap64 ((wrap64 ((wrap64 ((wrap64 (a0_1 + 1)) - 1)) * 7)) + 3)) (l0_0.length : Int)))) * 1117)))) + (wrap64 ((wrap64 ((wrap64 (a0_1 + 1)) - 1)) * 29)))) + (wrap64 ((wrap64 (Int.tdiv (wrap64 ((wrap64 (a0_1 + 1)) - 1)) (l0_0.length : Int))) * 53)))) 64))) a1))) else none) else none) else none) else none) else none) else none) else none) else none)))
def spec_l40Rd_num.f (k : Nat) (l0_0 : List Int) (a0_1 : Int) (l1 : List Int) : Option (Int × Int) := (spec_l40Rd_pick.f k l0_0 a0_1 (l1.length : Int)).bind fun r1 => if 0 ≤ r1.2 then (if r1.2 < (l1.length : Int) then (some (r1.1, (rd l1 r1.2))) else none) else none
def spec_l2Const.f (a0 : Int) : Option (Int × Int × Int × Int) := some (0, a0, 0, 0)
def spec_l2VarOf.f (a0 : Int) : Option (Int × Int × Int × Int) := some (1, a0, 0, 0)
def spec_l2Cond.f (k : Nat) (l0_0 : List Int) (a0_1 : Int) (a1_0 : Int) (a1_1 : Int) (a1_2 : Int) (a2 : Int) : Option (Int × (List ITerm)) := (spec_l40Rd_pick.f k l0_0 a0_1 (wrap64 ((wrap64 (a1_1 - a1_0)) + 1))).bind fun r1 => (spec_l40Rd_num.f k l0_0 r1.1 [6, 5, 5, 6]).bind fun r2 => (spec_l2VarOf.f a2).bind fun r3 => (spec_l2Const.f (wrap64 (a1_0 + r1.2))).bind fun r4 => (spec_l40Rd_pick.f k l0_0 r2.1 3).bind fun r5 => if r5.2 = 0 then (if 3 + 1 ≤ 1099511627776 then (some (r5.1, ([(⟨r3.1, r3.2.1, r3.2.2.1, r3.2.2.2⟩ : ITerm), (⟨r4.1, r4.2.1, r4.2.2.1, r4.2.2.2⟩ : ITerm), (⟨r2.2, 0, 0, 1⟩ : ITerm)] ++ [(⟨7, 0, 2, 2⟩ : ITerm)]))) else none) else (some (r5.1, [(⟨r3.1, r3.2.1, r3.2.2.1, r3.2.2.2⟩ : ITerm), (⟨r4.1, r4.2.1, r4.2.2.1, r4.2.2.2⟩ : ITerm), (⟨r2.2, 0, 0, 1⟩ : ITerm)]))
def spec_l1In.f (a0 : Int) (a1 : Int) (a2 : Int) : Option (Bool) := if a0 ≥ a1 then (some (decide (a0 ≤ a2))) else (some false)
def spec_l1One.f (a0 : Int) : Option (Bool) := some (a0 == 7)
mutual
def spec_l1Kind.j0 : Nat → List Int → Int → Bool → Int → Int → Int → Int → Option (Int)
  | 0, _, _, _, _, _, _, _ => none
  | k + 1, x1, x2, x25, x137000, x137001, x137002, x137003 => if x25 = true then (some 1) else (if x137000 = 1 then ((spec_l1In.f x137001 0 (wrap64 (x2 - 1))).bind fun t138 => (if t138 = true then (if x137002 = 0 then (spec_l1Kind.j1 k x1 (x137003 == 0) x137000 x137001 x137002 x137003) else (spec_l1Kind.j1 k x1 false x137000 x137001 x137002 x137003)) else (spec_l1Kind.j1 k x1 false x137000 x137001 x137002 x137003))) else (spec_l1Kind.j1 k x1 false x137000 x137001 x137002 x137003))
def spec_l1Kind.j1 : Nat → List Int → Bool → Int → Int → Int → Int → Option (Int)
  | 0, _, _, _, _, _, _ => none
  | k + 1, x1, x45, x137000, x137001, x137002, x137003 => if x45 = true then (some 1) else ((spec_l1In.f x137000 2 9).bind fun t139 => (if t139 = true then (if x137001 = 0 then ((spec_l1In.f x137002 0 (wrap64 ((x1.length : Int) - 1))).bind fun t140 => (if t140 = true then ((spec_l1In.f x137003 0 (wrap64 ((x1.length : Int) - 1))).bind fun t141 => (spec_l1Kind.j2 k x1 (!t141) x137000 x137001 x137002 x137003)) else (spec_l1Kind.j2 k x1 true x137000 x137001 x137002 x137003))) else (spec_l1Kind.j2 k x1 true x137000 x137001 x137002 x137003)) else (spec_l1Kind.j2 k x1 true x137000 x137001 x137002 x137003)))
def spec_l1Kind.j2 : Nat → List Int → Bool → Int → Int → Int → Int → Option (Int)
  | 0, _, _, _, _, _, _ => none
  | k + 1, x1, x72, x137000, x137001, x137002, x137003 => if x72 = true then (some 0) else (if x137000 ≥ 7 then (spec_l1Kind.j3 k x1 2 x137000 x137001 x137002 x137003) else (spec_l1Kind.j3 k x1 1 x137000 x137001 x137002 x137003))
def spec_l1Kind.j3 : Nat → List Int → Int → Int → Int → Int → Int → Option (Int)
  | 0, _, _, _, _, _, _ => none
  | k + 1, x1, x7, x137000, x137001, x137002, x137003 => if 0 ≤ x137002 then (if x137002 < (x1.length : Int) then (if (rd x1 x137002) = x7 then (if 0 ≤ x137003 then (if x137003 < (x1.length : Int) then (if (rd x1 x137003) = x7 then ((spec_l1One.f x137000).bind fun t144 => (if t144 = true then (spec_l1Kind.j4 k (x137003 != x137002) x137000 x137001 x137002 x137003) else (spec_l1Kind.j4 k false x137000 x137001 x137002 x137003))) else (spec_l1Kind.j4 k true x137000 x137001 x137002 x137003)) else (none)) else (none)) else (spec_l1Kind.j4 k true x137000 x137001 x137002 x137003)) else (none)) else (none)
def spec_l1Kind.j4 : Nat → Bool → Int → Int → Int → Int → Option (Int)
  | 0, _, _, _, _, _ => none
  | k + 1, x103, x137000, x137001, x137002, x137003 => if x103 = true then (some 0) else (if x137000 ≥ 5 then (some 2) else (some 1))
end
def spec_l1Kind.f (k : Nat) (a0_0 : Int) (a0_1 : Int) (a0_2 : Int) (a0_3 : Int) (l1 : List Int) (a2 : Int) : Option (Int) := if a0_0 = 0 then ((spec_l1In.f a0_1 (-9999) 9999).bind fun t137 => (if t137 = true then (if a0_2 = 0 then (spec_l1Kind.j0 k l1 a2 (a0_3 == 0) a0_0 a0_1 a0_2 a0_3) else (spec_l1Kind.j0 k l1 a2 false a0_0 a0_1 a0_2 a0_3)) else (spec_l1Kind.j0 k l1 a2 false a0_0 a0_1 a0_2 a0_3))) else (spec_l1Kind.j0 k l1 a2 false a0_0 a0_1 a0_2 a0_3)
mutual
def spec_KindsOf.j0 : Nat → List (ITerm) → Int → Bool → Option (List Int)
  | 0, _, _, _ => none
  | k + 1, x0, x1, x16 => if x16 = true then (some ([] : List Int)) else (spec_KindsOf.l0 k x0 x1 (([] : List Int)) 0)
def spec_KindsOf.l0 : Nat → List (ITerm) → Int → List Int → Int → Option (List Int)
  | 0, _, _, _, _ => none
  | k + 1, x0, x1, x5, x6 => if x6 < (x0.length : Int) then (if 0 ≤ x6 then ((spec_l1Kind.f k ((rd_ITerm x0 x6).f0) ((rd_ITerm x0 x6).f1) ((rd_ITerm x0 x6).f2) ((rd_ITerm x0 x6).f3) x5 x1).bind fun t151 => (if t151 = 0 then (some ([] : List Int)) else (if x5.length < 17592186044416 then (spec_KindsOf.l0 k x0 x1 (x5 ++ [t151]) (wrap64 (x6 + 1))) else (none)))) else (none)) else (some x5)
end
def spec_KindsOf.f (k : Nat) (l0 : List (ITerm)) (a1 : Int) : Option (List Int) := (spec_l1In.f a1 0 5).bind fun t145 => (if t145 = true then ((spec_l1In.f (l0.length : Int) 1 40).bind fun t146 => (spec_KindsOf.j0 k l0 a1 (!t146))) else (spec_KindsOf.j0 k l0 a1 true))
def spec_TermsValid.f (k : Nat) (l0 : List (ITerm)) (a1 : Int) : Option (Bool) := (spec_KindsOf.f k l0 a1).bind fun t155 => (some (decide ((t155.length : Int) > 0)))
def spec_l1Moved.f (a0_0 : Int) (a0_1 : Int) (a0_2 : Int) (a0_3 : Int) (a1 : Int) : Option (Int × Int × Int × Int) := if a0_0 ≥ 2 then (some (a0_0, 0, wrap64 (a0_2 + a1), wrap64 (a0_3 + a1))) else (some (a0_0, a0_1, a0_2, a0_3))
mutual
def spec_Joined.j0 : Nat → Int → List (ITerm) → List (ITerm) → Int → Bool → Option ((List (ITerm)))
  | 0, _, _, _, _, _ => none
  | k + 1, x0, x1, x2, x3, x21 => if x21 = true then (some ([] : List (ITerm))) else (spec_Joined.l0 k x0 x1 x2 x3 (([] : List (ITerm))) 0)
def spec_Joined.l0 : Nat → Int → List (ITerm) → List (ITerm) → Int → List (ITerm) → Int → Option ((List (ITerm)))
  | 0, _, _, _, _, _, _ => none
  | k + 1, x0, x1, x2, x3, x9, x10 => if x10 < (x1.length : Int) then (if 0 ≤ x10 then (if x9.length < 4398046511104 then (spec_Joined.l0 k x0 x1 x2 x3 (x9 ++ [(⟨(rd_ITerm x1 x10).f0, (rd_ITerm x1 x10).f1, (rd_ITerm x1 x10).f2, (rd_ITerm x1 x10).f3⟩ : ITerm)]) (wrap64 (x10 + 1))) else (none)) else (none)) else (spec_Joined.l1 k x0 x1 x2 x3 x9 0)
def spec_Joined.j3 : Nat → Int → List (ITerm) → Int → List (ITerm) → Option ((List (ITerm)))
  | 0, _, _, _, _ => none
  | k + 1, x0, x1, x3, x9 => if x9.length < 4398046511104 then ((some (x9 ++ [(⟨x0, 0, wrap64 ((x1.length : Int) - 1), wrap64 ((x9.length : Int) - 1)⟩ : ITerm)] : List (ITerm))).bind fun y178 => (if x0 < 2 then (some ([] : List (ITerm))) else ((spec_TermsValid.f k y178 x3).bind fun t181 => (if t181 = true then (some y178) else (some ([] : List (ITerm))))))) else (none)
def spec_Joined.l1 : Nat → Int → List (ITerm) → List (ITerm) → Int → List (ITerm) → Int → Option ((List (ITerm)))
  | 0, _, _, _, _, _, _ => none
  | k + 1, x0, x1, x2, x3, x9, x11 => if x11 < (x2.length : Int) then ((spec_l1One.f x0).bind fun t169 => (if t169 = true then (spec_Joined.j3 k x0 x1 x3 x9) else (if 0 ≤ x11 then ((spec_l1Moved.f ((rd_ITerm x2 x11).f0) ((rd_ITerm x2 x11).f1) ((rd_ITerm x2 x11).f2) ((rd_ITerm x2 x11).f3) (x1.length : Int)).bind fun bt171 => (if x9.length < 4398046511104 then (spec_Joined.l1 k x0 x1 x2 x3 (x9 ++ [(⟨bt171.1, bt171.2.1, bt171.2.2.1, bt171.2.2.2⟩ : ITerm)]) (wrap64 (x11 + 1))) else (none))) else (none)))) else (spec_Joined.j3 k x0 x1 x3 x9)
end
def spec_Joined.f (k : Nat) (a0 : Int) (l1 : List (ITerm)) (l2 : List (ITerm)) (a3 : Int) : Option ((List (ITerm))) := (spec_TermsValid.f k l1 a3).bind fun t160 => (if t160 = true then ((spec_TermsValid.f k l2 a3).bind fun t161 => (spec_Joined.j0 k a0 l1 l2 a3 (!t161))) else (spec_Joined.j0 k a0 l1 l2 a3 true))
def spec_l2When.f (k : Nat) (l0_0 : List Int) (a0_1 : Int) (l1 : List IVar) : Option (Int × (List ITerm)) := (spec_l40Rd_pick.f k l0_0 a0_1 (l1.length : Int)).bind fun r1 => if 0 ≤ r1.2 then (if r1.2 < (l1.length : Int) then ((spec_l2Cond.f k l0_0 r1.1 ((rd_IVar l1 r1.2).f0) ((rd_IVar l1 r1.2).f1) ((rd_IVar l1 r1.2).f2) r1.2).bind fun r2 => (spec_l40Rd_pick.f k l0_0 r2.1 2).bind fun r3 => if r3.2 = 0 then ((spec_l40Rd_pick.f k l0_0 r3.1 (l1.length : Int)).bind fun r4 => (spec_l40Rd_num.f k l0_0 r4.1 [8, 9, 8]).bind fun r5 => if 0 ≤ r4.2 then (if r4.2 < (l1.length : Int) then ((spec_l2Cond.f k l0_0 r5.1 ((rd_IVar l1 r4.2).f0) ((rd_IVar l1 r4.2).f1) ((rd_IVar l1 r4.2).f2) r4.2).bind fun r6 => (spec_Joined.f k r5.2 r2.2 r6.2 (l1.length : Int)).bind fun r7 => some (r6.1, r7)) else none) else none) else (some (r3.1, r2.2))) else none) else none
def spec_l1Number.f (k : Nat) (l0_0 : List Int) (a0_1 : Int) : Option (Int × Int) := (spec_l40Rd_pick.f k l0_0 a0_1 4).bind fun r1 => (spec_l40Rd_pick.f k l0_0 r1.1 4).bind fun r2 => (spec_l40Rd_pick.f k l0_0 r2.1 7).bind fun r3 => (spec_l40Rd_pick.f k l0_0 r3.1 200).bind fun r4 => (spec_l40Rd_pick.f k l0_0 r4.1 4).bind fun r5 => if 0 ≤ r5.2 then (if r5.2 < ([9999, (-9999), 5000, 100].length : Int) then ((spec_l40Rd_num.f k l0_0 r5.1 [r1.2, r2.2, (wrap64 (r3.2 - 3)), 1, 0, (wrap64 (r4.2 - 100)), (rd [9999, (-9999), 5000, 100] r5.2)]).bind fun r6 => some (r6.1, r6.2)) else none) else none
mutual
def spec_l1Pick.l1 : Nat → Int → List Int → List Int → Int → Int × Int → Option (Int × Int)
  | 0, _, _, _, _, _ => none
  | k + 1, x8, l0_0, l1, a2, r1 => if x8 < (l1.length : Int) then (if (l1.length : Int) ≠ 0 then (if 0 ≤ (Int.tmod (wrap64 (r1.2 + x8)) (l1.length : Int)) then (if (Int.tmod (wrap64 (r1.2 + x8)) (l1.length : Int)) < (l1.length : Int) then (if (rd l1 (Int.tmod (wrap64 (r1.2 + x8)) (l1.length : Int))) = a2 then (some (r1.1, (Int.tmod (wrap64 (r1.2 + x8)) (l1.length : Int)))) else (spec_l1Pick.l1 k (wrap64 (x8 + 1)) l0_0 l1 a2 r1)) else none) else none) else none) else (some (r1.1, (-1)))
end
def spec_l1Pick.f (k : Nat) (l0_0 : List Int) (a0_1 : Int) (l1 : List Int) (a2 : Int) : Option (Int × Int) := (spec_l40Rd_pick.f k l0_0 a0_1 (l1.length : Int)).bind fun r1 => spec_l1Pick.l1 k 0 l0_0 l1 a2 r1
mutual
def spec_l1Terms.j2 : Nat → Int → Int → Int → Int → Int → List Int → Int → Int → List ITerm → List Int → Int → Option (Int × (List ITerm))
  | 0, _, _, _, _, _, _, _, _, _, _, _ => none
  | k + 1, x0b1q33, x13b0q32, x13b1q32, x13b2q5, x13b3q11, l0_0, a1, a2, x9q3, x10q3, x11 => (spec_l1Kind.f k x13b0q32 x13b1q32 x13b2q5 x13b3q11 x10q3 a1).bind fun r3 => if r3 ≠ 0 then (if x9q3.length + 1 ≤ 1099511627776 then (if x10q3.length + 1 ≤ 1099511627776 then (spec_l1Terms.l1 k x0b1q33 (x9q3 ++ [(⟨x13b0q32, x13b1q32, x13b2q5, x13b3q11⟩ : ITerm)]) (x10q3 ++ [r3]) (wrap64 (x11 - 1)) l0_0 a1 a2) else none) else none) else (spec_l1Terms.l1 k x0b1q33 x9q3 x10q3 (wrap64 (x11 - 1)) l0_0 a1 a2)
def spec_l1Terms.j3 : Nat → Int → Int → Int → List Int → Int → Int → List ITerm → List Int → Int → Option (Int × (List ITerm))
  | 0, _, _, _, _, _, _, _, _, _ => none
  | k + 1, x0b1q35, x13b0q34, x13b1q34, l0_0, a1, a2, x9q3, x10q3, x11 => spec_l1Terms.j2 k x0b1q35 x13b0q34 x13b1q34 0 0 l0_0 a1 a2 x9q3 x10q3 x11
def spec_l1Terms.j4 : Nat → Int → Int → Int → List Int → Int → Int → List ITerm → List Int → Int → Option (Int × (List ITerm))
  | 0, _, _, _, _, _, _, _, _, _ => none
  | k + 1, x0b1q36, x13b0q35, x13b1q35, l0_0, a1, a2, x9q3, x10q3, x11 => spec_l1Terms.j3 k x0b1q36 x13b0q35 x13b1q35 l0_0 a1 a2 x9q3 x10q3 x11
def spec_l1Terms.j5 : Nat → Int → Int → Int → Int → Int → List Int → Int → Int → List ITerm → List Int → Int → Option (Int × (List ITerm))
  | 0, _, _, _, _, _, _, _, _, _, _, _ => none
  | k + 1, x0b1q40, x13b0q39, x13b1q39, x13b2q6, x13b3q13, l0_0, a1, a2, x9q3, x10q3, x11 => spec_l1Terms.j2 k x0b1q40 x13b0q39 x13b1q39 x13b2q6 x13b3q13 l0_0 a1 a2 x9q3 x10q3 x11
def spec_l1Terms.j6 : Nat → Int → Int → Int → List Int → Int → Int → List ITerm → List Int → Int → Option (Int × (List ITerm))
  | 0, _, _, _, _, _, _, _, _, _ => none
  | k + 1, x0b1q42, x13b0q41, x13b1q41, l0_0, a1, a2, x9q3, x10q3, x11 => spec_l1Terms.j5 k x0b1q42 x13b0q41 x13b1q41 0 0 l0_0 a1 a2 x9q3 x10q3 x11
def spec_l1Terms.j7 : Nat → Int → Int → Int → List Int → Int → Int → List ITerm → List Int → Int → Option (Int × (List ITerm))
  | 0, _, _, _, _, _, _, _, _, _ => none
  | k + 1, x0b1q43, x13b0q42, x13b1q42, l0_0, a1, a2, x9q3, x10q3, x11 => spec_l1Terms.j6 k x0b1q43 x13b0q42 x13b1q42 l0_0 a1 a2 x9q3 x10q3 x11
def spec_l1Terms.j9 : Nat → Int → List Int → Int → Int → List ITerm → List Int → Int → Int × Int → Int × Int → Int × Int → Option (Int × (List ITerm))
  | 0, _, _, _, _, _, _, _, _, _, _ => none
  | k + 1, x13b3q14, l0_0, a1, a2, x9q3, x10q3, x11, r2, r8, r9 => spec_l1Terms.j5 k r9.1 r2.2 0 r8.2 x13b3q14 l0_0 a1 a2 x9q3 x10q3 x11
def spec_l1Terms.j8 : Nat → Int → List Int → Int → Int → List ITerm → List Int → Int → Int × Int → Option (Int × (List ITerm))
  | 0, _, _, _, _, _, _, _, _ => none
  | k + 1, x14q8, l0_0, a1, a2, x9q3, x10q3, x11, r2 => (spec_l1Pick.f k l0_0 r2.1 x10q3 x14q8).bind fun r8 => (spec_l1Pick.f k l0_0 r8.1 x10q3 x14q8).bind fun r9 => (spec_l1One.f r2.2).bind fun r10 => if r10 = true then (spec_l1Terms.j9 k r8.2 l0_0 a1 a2 x9q3 x10q3 x11 r2 r8 r9) else (spec_l1Terms.j9 k r9.2 l0_0 a1 a2 x9q3 x10q3 x11 r2 r8 r9)
def spec_l1Terms.j10 : Nat → List ITerm → List Int → List Int → Int → Int → Option (Int × (List ITerm))
  | 0, _, _, _, _, _ => none
  | k + 1, x9q5, x10q5, l0_0, a2, x0b1q22 => if a2 = 2 then (if 0 ≤ (wrap64 ((x9q5.length : Int) - 1)) then (if (wrap64 ((x9q5.length : Int) - 1)) < (x10q5.length : Int) then (if (rd x10q5 (wrap64 ((x9q5.length : Int) - 1))) ≠ a2 then ((spec_l40Rd_num.f k l0_0 x0b1q22 [5, 6]).bind fun r11 => (spec_l1Pick.f k l0_0 r11.1 x10q5 1).bind fun r12 => if x9q5.length + 1 ≤ 1099511627776 then (some (r12.1, (x9q5 ++ [(⟨r11.2, 0, (wrap64 ((x9q5.length : Int) - 1)), r12.2⟩ : ITerm)]))) else none) else (if a2 = 1 then (if 0 ≤ (wrap64 ((x9q5.length : Int) - 1)) then (if (wrap64 ((x9q5.length : Int) - 1)) < (x10q5.length : Int) then (if (rd x10q5 (wrap64 ((x9q5.length : Int) - 1))) ≠ a2 then ((spec_l1Pick.f k l0_0 x0b1q22 x10q5 1).bind fun r13 => (spec_l40Rd_num.f k l0_0 r13.1 [2, 3]).bind fun r14 => (spec_l1Pick.f k l0_0 r14.1 x10q5 1).bind fun r15 => if x9q5.length + 1 ≤ 1099511627776 then (some (r15.1, (x9q5 ++ [(⟨r14.2, 0, r13.2, r15.2⟩ : ITerm)]))) else none) else (some (x0b1q22, x9q5))) else none) else none) else (some (x0b1q22, x9q5)))) else none) else none) else (if a2 = 1 then (if 0 ≤ (wrap64 ((x9q5.length : Int) - 1)) then (if (wrap64 ((x9q5.length : Int) - 1)) < (x10q5.length : Int) then (if (rd x10q5 (wrap64 ((x9q5.length : Int) - 1))) ≠ a2 then ((spec_l1Pick.f k l0_0 x0b1q22 x10q5 1).bind fun r16 => (spec_l40Rd_num.f k l0_0 r16.1 [2, 3]).bind fun r17 => (spec_l1Pick.f k l0_0 r17.1 x10q5 1).bind fun r18 => if x9q5.length + 1 ≤ 1099511627776 then (some (r18.1, (x9q5 ++ [(⟨r17.2, 0, r16.2, r18.2⟩ : ITerm)]))) else none) else (some (x0b1q22, x9q5))) else none) else none) else (some (x0b1q22, x9q5)))
def spec_l1Terms.l1 : Nat → Int → List ITerm → List Int → Int → List Int → Int → Int → Option (Int × (List ITerm))
  | 0, _, _, _, _, _, _, _ => none
  | k + 1, x0b1q22, x9q3, x10q3, x11, l0_0, a1, a2 => if x11 > 0 then ((spec_l40Rd_num.f k l0_0 x0b1q22 [0, 1, 1, 2, 3, 4, 5, 6, 5, 6, 7, 8, 9]).bind fun r2 => if (x9q3.length : Int) = 0 then ((spec_l1Number.f k l0_0 r2.1).bind fun r4 => if a1 > 0 then (if r2.2 ≠ 0 then ((spec_l40Rd_pick.f k l0_0 r4.1 a1).bind fun r5 => spec_l1Terms.j4 k r5.1 1 r5.2 l0_0 a1 a2 x9q3 x10q3 x11) else (spec_l1Terms.j4 k r4.1 0 r4.2 l0_0 a1 a2 x9q3 x10q3 x11)) else (spec_l1Terms.j3 k r4.1 0 r4.2 l0_0 a1 a2 x9q3 x10q3 x11)) else (if r2.2 < 2 then ((spec_l1Number.f k l0_0 r2.1).bind fun r6 => if a1 > 0 then (if r2.2 ≠ 0 then ((spec_l40Rd_pick.f k l0_0 r6.1 a1).bind fun r7 => spec_l1Terms.j7 k r7.1 1 r7.2 l0_0 a1 a2 x9q3 x10q3 x11) else (spec_l1Terms.j7 k r6.1 0 r6.2 l0_0 a1 a2 x9q3 x10q3 x11)) else (spec_l1Terms.j6 k r6.1 0 r6.2 l0_0 a1 a2 x9q3 x10q3 x11)) else (if r2.2 ≥ 7 then (spec_l1Terms.j8 k 2 l0_0 a1 a2 x9q3 x10q3 x11 r2) else (spec_l1Terms.j8 k 1 l0_0 a1 a2 x9q3 x10q3 x11 r2)))) else (if (x9q3.length : Int) = 0 then (if x9q3.length + 1 ≤ 1099511627776 then (if x10q3.length + 1 ≤ 1099511627776 then (spec_l1Terms.j10 k (x9q3 ++ [(⟨0, 1, 0, 0⟩ : ITerm)]) (x10q3 ++ [1]) l0_0 a2 x0b1q22) else none) else none) else (spec_l1Terms.j10 k x9q3 x10q3 l0_0 a2 x0b1q22))
end
def spec_l1Terms.f (k : Nat) (l0_0 : List Int) (a0_1 : Int) (a1 : Int) (a2 : Int) (a3 : Int) : Option (Int × (List ITerm)) := (spec_l40Rd_pick.f k l0_0 a0_1 a3).bind fun r1 => spec_l1Terms.l1 k r1.1 ([] : List ITerm) ([] : List Int) (wrap64 (2 + r1.2)) l0_0 a1 a2
def spec_l2Value.f (k : Nat) (l0_0 : List Int) (a0_1 : Int) (l1 : List IVar) (a2 : Int) : Option (Int × (List ITerm)) := (spec_l40Rd_pick.f k l0_0 a0_1 6).bind fun r1 => if r1.2 < 3 then ((spec_l2VarOf.f a2).bind fun r2 => (spec_l2Const.f 1).bind fun r3 => (spec_l40Rd_num.f k l0_0 r1.1 [2, 3]).bind fun r4 => some (r4.1, [(⟨r2.1, r2.2.1, r2.2.2.1, r2.2.2.2⟩ : ITerm), (⟨r3.1, r3.2.1, r3.2.2.1, r3.2.2.2⟩ : ITerm), (⟨r4.2, 0, 0, 1⟩ : ITerm)])) else (if r1.2 = 3 then (if 0 ≤ a2 then (if a2 < (l1.length : Int) then (if 0 ≤ a2 then (if a2 < (l1.length : Int) then (if 0 ≤ a2 then (if a2 < (l1.length : Int) then ((spec_l40Rd_pick.f k l0_0 r1.1 (wrap64 ((wrap64 (((rd_IVar l1 a2).f1) - ((rd_IVar l1 a2).f0))) + 1))).bind fun r5 => (spec_l2Const.f (wrap64 (((rd_IVar l1 a2).f0) + r5.2))).bind fun r6 => some (r5.1, [(⟨r6.1, r6.2.1, r6.2.2.1, r6.2.2.2⟩ : ITerm)])) else none) else none) else none) else none) else none) else none) else (if r1.2 = 4 then ((spec_l40Rd_pick.f k l0_0 r1.1 (l1.length : Int)).bind fun r7 => (spec_l2VarOf.f r7.2).bind fun r8 => some (r7.1, [(⟨r8.1, r8.2.1, r8.2.2.1, r8.2.2.2⟩ : ITerm)])) else ((spec_l1Terms.f k l0_0 r1.1 (l1.length : Int) 1 5).bind fun r9 => some (r9.1, r9.2))))
mutual
def spec_l2Rules.l2 : Nat → Int → List Int → List (List ITerm) → Int → List Int → List IVar → Int → List IRule → Int → Int × (List ITerm) → Option (Int × (List IRule))
  | 0, _, _, _, _, _, _, _, _, _, _ => none
  | k + 1, x0b1q3, x9b1q2, x9b2q2, x10q2, l0_0, l1, a2, x7, x8, r1 => if x10q2 < (l1.length : Int) then ((spec_l40Rd_pick.f k l0_0 x0b1q3 (wrap64 ((l1.length : Int) + 1))).bind fun r2 => if r2.2 < 1 then (if x9b1q2.length + 1 ≤ 1099511627776 then ((spec_l2Value.f k l0_0 r2.1 l1 x10q2).bind fun r3 => if x9b2q2.length + 1 ≤ 1099511627776 then (spec_l2Rules.l2 k r3.1 (x9b1q2 ++ [x10q2]) (x9b2q2 ++ [r3.2]) (wrap64 (x10q2 + 1)) l0_0 l1 a2 x7 x8 r1) else none) else none) else (if x10q2 = (wrap64 ((l1.length : Int) - 1)) then (if (x9b1q2.length : Int) = 0 then ((spec_l40Rd_pick.f k l0_0 r2.1 9).bind fun r4 => if r4.2 > 0 then (if x9b1q2.length + 1 ≤ 1099511627776 then ((spec_l2Value.f k l0_0 r4.1 l1 x10q2).bind fun r5 => if x9b2q2.length + 1 ≤ 1099511627776 then (spec_l2Rules.l2 k r5.1 (x9b1q2 ++ [x10q2]) (x9b2q2 ++ [r5.2]) (wrap64 (x10q2 + 1)) l0_0 l1 a2 x7 x8 r1) else none) else none) else (spec_l2Rules.l2 k r4.1 x9b1q2 x9b2q2 (wrap64 (x10q2 + 1)) l0_0 l1 a2 x7 x8 r1)) else (spec_l2Rules.l2 k r2.1 x9b1q2 x9b2q2 (wrap64 (x10q2 + 1)) l0_0 l1 a2 x7 x8 r1)) else (spec_l2Rules.l2 k r2.1 x9b1q2 x9b2q2 (wrap64 (x10q2 + 1)) l0_0 l1 a2 x7 x8 r1))) else (if x7.length + 1 ≤ 1099511627776 then (spec_l2Rules.l1 k x0b1q3 (x7 ++ [(⟨r1.2, x9b1q2, x9b2q2⟩ : IRule)]) (wrap64 (x8 + 1)) l0_0 l1 a2) else none)
def spec_l2Rules.l1 : Nat → Int → List IRule → Int → List Int → List IVar → Int → Option (Int × (List IRule))
  | 0, _, _, _, _, _, _ => none
  | k + 1, x0b1q2, x7, x8, l0_0, l1, a2 => if x8 < a2 then ((spec_l2When.f k l0_0 x0b1q2 l1).bind fun r1 => spec_l2Rules.l2 k r1.1 ([] : List Int) ([] : List (List ITerm)) 0 l0_0 l1 a2 x7 x8 r1) else (some (x0b1q2, x7))
end
def spec_l2Rules.f (k : Nat) (l0_0 : List Int) (a0_1 : Int) (l1 : List IVar) (a2 : Int) : Option (Int × (List IRule)) := spec_l2Rules.l1 k a0_1 ([] : List IRule) 0 l0_0 l1 a2
mutual
def spec_l2System.j2 : Nat → List IVar → List Int → Int → Option (Int × (List IVar × List IRule))
  | 0, _, _, _ => none
  | k + 1, x5b0q5, l0_0, x0b1 => (spec_l40Rd_num.f k l0_0 x0b1 [1, 2, 3, 4, 2, 3, 0]).bind fun r5 => (spec_l2Rules.f k l0_0 r5.1 x5b0q5 r5.2).bind fun r6 => some (r6.1, (x5b0q5, r6.2))
def spec_l2System.l1 : Nat → Int → List IVar → Int → Int → List Int → Int → Option (Int × (List IVar × List IRule))
  | 0, _, _, _, _, _, _ => none
  | k + 1, x0b1, x5b0q3, x6, x7, l0_0, a1 => if x7 > 0 then ((spec_l40Rd_num.f k l0_0 x0b1 [2, 3, 2, 4, 5]).bind fun r2 => if (wrap64 (x6 * r2.2)) ≤ a1 then ((spec_l40Rd_num.f k l0_0 r2.1 [0, 0, 0, (-1), 2]).bind fun r3 => (spec_l40Rd_pick.f k l0_0 r3.1 r2.2).bind fun r4 => if x5b0q3.length + 1 ≤ 1099511627776 then (spec_l2System.l1 k r4.1 (x5b0q3 ++ [(⟨r3.2, (wrap64 ((wrap64 (r3.2 + r2.2)) - 1)), (wrap64 (r3.2 + r4.2))⟩ : IVar)]) (wrap64 (x6 * r2.2)) (wrap64 (x7 - 1)) l0_0 a1) else none) else (spec_l2System.l1 k r2.1 x5b0q3 x6 (wrap64 (x7 - 1)) l0_0 a1)) else (if (x5b0q3.length : Int) = 0 then (if x5b0q3.length + 1 ≤ 1099511627776 then (spec_l2System.j2 k (x5b0q3 ++ [(⟨0, 1, 0⟩ : IVar)]) l0_0 x0b1) else none) else (spec_l2System.j2 k x5b0q3 l0_0 x0b1))
end
def spec_l2System.f (k : Nat) (l0_0 : List Int) (a0_1 : Int) (a1 : Int) : Option (Int × (List IVar × List IRule)) := (spec_l40Rd_pick.f k l0_0 a0_1 3).bind fun r1 => spec_l2System.l1 k r1.1 ([] : List IVar) 1 (wrap64 (1 + r1.2)) l0_0 a1
def spec_l2Var.f (a0_0 : Int) (a0_1 : Int) (a0_2 : Int) : Option (Bool) := (spec_l1In.f a0_0 (-9999) 9999).bind fun t419 => (if t419 = true then ((spec_l1In.f a0_1 a0_0 9999).bind fun t420 => (if t420 = true then (if (wrap64 (a0_1 - a0_0)) < 20 then ((spec_l1In.f a0_2 a0_0 a0_1).bind fun t421 => (some t421)) else (some false)) else (some false))) else (some false))
def spec_l2Is.f (k : Nat) (l0 : List (ITerm)) (a1 : Int) (a2 : Int) : Option (Bool) := (spec_KindsOf.f k l0 a1).bind fun t422 => (if (t422.length : Int) > 0 then (if 0 ≤ (wrap64 ((t422.length : Int) - 1)) then (if (wrap64 ((t422.length : Int) - 1)) < (t422.length : Int) then (some ((rd t422 (wrap64 ((t422.length : Int) - 1))) == a2)) else (none)) else (none)) else (some false))
mutual
def spec_l2Rule.j0 : Nat → Int → Bool → List (ITerm) → List Int → List (List (ITerm)) → Option (Bool)
  | 0, _, _, _, _, _ => none
  | k + 1, x1, x26, x427000, x427001, x427002 => if x26 = true then (some false) else (spec_l2Rule.l0 k x1 0 x427000 x427001 x427002)
def spec_l2Rule.l0 : Nat → Int → Int → List (ITerm) → List Int → List (List (ITerm)) → Option (Bool)
  | 0, _, _, _, _, _ => none
  | k + 1, x1, x5, x427000, x427001, x427002 => if x5 < (x427001.length : Int) then (if 0 ≤ x5 then ((spec_l1In.f (rd x427001 x5) 0 (wrap64 (x1 - 1))).bind fun t429 => (if t429 = true then (if x5 > 0 then (if 0 ≤ (wrap64 (x5 - 1)) then (if (wrap64 (x5 - 1)) < (x427001.length : Int) then (if (rd x427001 x5) ≤ (rd x427001 (wrap64 (x5 - 1))) then (spec_l2Rule.j2 k x1 x5 true x427000 x427001 x427002) else (if x5 < (x427002.length : Int) then ((spec_l2Is.f k (rd_LITerm x427002 x5) x1 1).bind fun t433 => (spec_l2Rule.j2 k x1 x5 (!t433) x427000 x427001 x427002)) else (none))) else (none)) else (none)) else (if x5 < (x427002.length : Int) then ((spec_l2Is.f k (rd_LITerm x427002 x5) x1 1).bind fun t435 => (spec_l2Rule.j2 k x1 x5 (!t435) x427000 x427001 x427002)) else (none))) else (spec_l2Rule.j2 k x1 x5 true x427000 x427001 x427002))) else (none)) else (some true)
def spec_l2Rule.j2 : Nat → Int → Int → Bool → List (ITerm) → List Int → List (List (ITerm)) → Option (Bool)
  | 0, _, _, _, _, _, _ => none
  | k + 1, x1, x5, x70, x427000, x427001, x427002 => if x70 = true then (some false) else (spec_l2Rule.l0 k x1 (wrap64 (x5 + 1)) x427000 x427001 x427002)
end
def spec_l2Rule.f (k : Nat) (l0_0 : List (ITerm)) (l0_1 : List Int) (l0_2 : List (List (ITerm))) (a1 : Int) : Option (Bool) := (spec_l2Is.f k l0_0 a1 2).bind fun t427 => (if t427 = true then (if (l0_1.length : Int) = (l0_2.length : Int) then (spec_l2Rule.j0 k a1 (decide ((l0_1.length : Int) > a1)) l0_0 l0_1 l0_2) else (spec_l2Rule.j0 k a1 true l0_0 l0_1 l0_2)) else (spec_l2Rule.j0 k a1 true l0_0 l0_1 l0_2))
mutual
def spec_SystemValid.j0 : Nat → Bool → List (IVar) → List (IRule) → Option (Bool)
  | 0, _, _, _ => none
  | k + 1, x16, x437000, x437001 => if x16 = true then (some false) else (spec_SystemValid.l0 k 1 0 x437000 x437001)
def spec_SystemValid.l0 : Nat → Int → Int → List (IVar) → List (IRule) → Option (Bool)
  | 0, _, _, _, _ => none
  | k + 1, x3, x4, x437000, x437001 => if x4 < (x437000.length : Int) then (if 0 ≤ x4 then ((spec_l2Var.f ((rd_IVar x437000 x4).f0) ((rd_IVar x437000 x4).f1) ((rd_IVar x437000 x4).f2)).bind fun t439 => (if t439 = true then (spec_SystemValid.l0 k (wrap64 (x3 * (wrap64 ((wrap64 (((rd_IVar x437000 x4).f1) - ((rd_IVar x437000 x4).f0))) + 1)))) (wrap64 (x4 + 1)) x437000 x437001) else (some false))) else (none)) else (spec_SystemValid.l1 k x3 0 x437000 x437001)
def spec_SystemValid.l1 : Nat → Int → Int → List (IVar) → List (IRule) → Option (Bool)
  | 0, _, _, _, _ => none
  | k + 1, x3, x5, x437000, x437001 => if x5 < (x437001.length : Int) then (if 0 ≤ x5 then ((spec_l2Rule.f k ((rd_IRule x437001 x5).f0) ((rd_IRule x437001 x5).f1) ((rd_IRule x437001 x5).f2) (x437000.length : Int)).bind fun t443 => (if t443 = true then (spec_SystemValid.l1 k x3 (wrap64 (x5 + 1)) x437000 x437001) else (some false))) else (none)) else (some (decide (x3 ≤ 400)))
end
def spec_SystemValid.f (k : Nat) (l0_0 : List (IVar)) (l0_1 : List (IRule)) : Option (Bool) := (spec_l1In.f (l0_0.length : Int) 1 5).bind fun t437 => (if t437 = true then (spec_SystemValid.j0 k (decide ((l0_1.length : Int) > 8)) l0_0 l0_1) else (spec_SystemValid.j0 k true l0_0 l0_1))
def spec_SizeOf.l0 : Nat → Int → Int → List (IVar) → List (IRule) → Option (Int)
  | 0, _, _, _, _ => none
  | k + 1, x3, x4, x445000, x445001 => if x4 < (x445000.length : Int) then (if 0 ≤ x4 then (spec_SizeOf.l0 k (wrap64 (x3 * (wrap64 ((wrap64 (((rd_IVar x445000 x4).f1) - ((rd_IVar x445000 x4).f0))) + 1)))) (wrap64 (x4 + 1)) x445000 x445001) else (none)) else (some x3)
def spec_SizeOf.f (k : Nat) (l0_0 : List (IVar)) (l0_1 : List (IRule)) : Option (Int) := (spec_SystemValid.f k l0_0 l0_1).bind fun t445 => (if t445 = true then (spec_SizeOf.l0 k 1 0 l0_0 l0_1) else (some 0))
mutual
def spec_l4Some.l1 : Nat → Int → List Int → Int → List Int → Int → Int × Int → Option (Int × (List Int))
  | 0, _, _, _, _, _, _ => none
  | k + 1, x0b1, x5, x8, l0_0, r1, r2 => if x8 < r1 then ((spec_l40Rd_pick.f k l0_0 x0b1 r2.2).bind fun r3 => if r3.2 = 0 then (if x5.length + 1 ≤ 1099511627776 then (spec_l4Some.l1 k r3.1 (x5 ++ [x8]) (wrap64 (x8 + 1)) l0_0 r1 r2) else none) else (spec_l4Some.l1 k r3.1 x5 (wrap64 (x8 + 1)) l0_0 r1 r2)) else ((spec_l40Rd_pick.f k l0_0 x0b1 15).bind fun r4 => if r4.2 = 0 then ((spec_l40Rd_num.f k l0_0 r4.1 [r1, 0, (-1)]).bind fun r5 => if x5.length + 1 ≤ 1099511627776 then (some (r5.1, (x5 ++ [r5.2]))) else none) else (some (r4.1, x5)))
end
def spec_l4Some.f (k : Nat) (l0_0 : List Int) (a0_1 : Int) (l1_0 : List IVar) (l1_1 : List IRule) : Option (Int × (List Int)) := (spec_SizeOf.f k l1_0 l1_1).bind fun r1 => (spec_l40Rd_num.f k l0_0 a0_1 [2, 3, 1, 5, 9]).bind fun r2 => spec_l4Some.l1 k r2.1 ([] : List Int) 0 l0_0 r1 r2
def impl_size.l0 : Nat → Int → List (IVar) → Int → Int → Option (Int)
  | 0, _, _, _, _ => none
  | k + 1, x3, x6, x7, x8 => if x8 < x7 then (if 0 ≤ x8 then (if x8 < (x6.length : Int) then (impl_size.l0 k (wrap64 (x3 * (wrap64 ((wrap64 (((rd_IVar x6 x8).f1) - ((rd_IVar x6 x8).f0))) + 1)))) x6 x7 (wrap64 (x8 + 1))) else (none)) else (none)) else (some x3)
def impl_size.f (k : Nat) (l0 : List (IVar)) : Option (Int) := impl_size.l0 k 1 l0 (l0.length : Int) 0
def impl_in.f (a0 : Int) (a1 : Int) (a2 : Int) : Option (Bool) := if a0 ≥ a1 then (some (decide (a0 ≤ a2))) else (some false)
def impl_varOk.f (a0_0 : Int) (a0_1 : Int) (a0_2 : Int) : Option (Bool) := (impl_in.f a0_0 (-9999) 9999).bind fun t480 => (if t480 = true then ((impl_in.f a0_1 a0_0 9999).bind fun t481 => (if t481 = true then (if (wrap64 (a0_1 - a0_0)) < 20 then ((impl_in.f a0_2 a0_0 a0_1).bind fun t482 => (some t482)) else (some false)) else (some false))) else (some false))
mutual
def impl_parts.j0 : Nat → Int → Bool → Option (Int × Int × Int)
  | 0, _, _ => none
  | k + 1, x5, x6 => if x6 = true then (some (2, 1, 1)) else (if x5 = 5 then (impl_parts.j1 k x5 (x5 == 5)) else (impl_parts.j1 k x5 (x5 == 6)))
def impl_parts.j1 : Nat → Int → Bool → Option (Int × Int × Int)
  | 0, _, _ => none
  | k + 1, x5, x10 => if x10 = true then (some (2, 1, 2)) else (if x5 = 7 then (some (1, 2, 2)) else (if x5 = 8 then (impl_parts.j2 k (x5 == 8)) else (impl_parts.j2 k (x5 == 9))))
def impl_parts.j2 : Nat → Bool → Option (Int × Int × Int)
  | 0, _ => none
  | k + 1, x15 => if x15 = true then (some (2, 2, 2)) else (some (0, 0, 1))
end
def impl_parts.f (k : Nat) (a0 : Int) : Option (Int × Int × Int) := if a0 = 2 then (impl_parts.j0 k a0 (a0 == 2)) else (if a0 = 3 then (impl_parts.j0 k a0 (a0 == 3)) else (impl_parts.j0 k a0 (a0 == 4)))
mutual
def impl_kindsOf.j0 : Nat → List (ITerm) → Int → Bool → Option (List Int)
  | 0, _, _, _ => none
  | k + 1, x0, x1, x20 => if x20 = true then (some ([] : List Int)) else (if 0 ≤ (x0.length : Int) then (if ((x0.length : Int) : Int).toNat ≤ 35184372088832 then (impl_kindsOf.l0 k x1 (([] : List Int)) x0 (x0.length : Int) 0) else (none)) else (none))
def impl_kindsOf.l0 : Nat → Int → List Int → List (ITerm) → Int → Int → Option (List Int)
  | 0, _, _, _, _, _ => none
  | k + 1, x1, x5, x24, x25, x26 => if x26 < x25 then (if 0 ≤ x26 then (if x26 < (x24.length : Int) then ((impl_parts.f k ((rd_ITerm x24 x26).f0)).bind fun bt490 => ((impl_in.f ((rd_ITerm x24 x26).f0) 0 9).bind fun t493 => (if ((rd_ITerm x24 x26).f0) = 0 then ((impl_in.f ((rd_ITerm x24 x26).f1) (-9999) 9999).bind fun t494 => (if t494 = true then (if ((rd_ITerm x24 x26).f2) = 0 then (impl_kindsOf.j2 k x1 x5 bt490.2.2 (((rd_ITerm x24 x26).f3) == 0) x24 x25 x26) else (impl_kindsOf.j2 k x1 x5 bt490.2.2 false x24 x25 x26)) else (impl_kindsOf.j2 k x1 x5 bt490.2.2 false x24 x25 x26))) else (if ((rd_ITerm x24 x26).f0) = 1 then ((impl_in.f ((rd_ITerm x24 x26).f1) 0 (wrap64 (x1 - 1))).bind fun t495 => (if t495 = true then (if ((rd_ITerm x24 x26).f2) = 0 then (impl_kindsOf.j2 k x1 x5 bt490.2.2 (((rd_ITerm x24 x26).f3) == 0) x24 x25 x26) else (impl_kindsOf.j2 k x1 x5 bt490.2.2 false x24 x25 x26)) else (impl_kindsOf.j2 k x1 x5 bt490.2.2 false x24 x25 x26))) else (if t493 = true then (if ((rd_ITerm x24 x26).f1) = 0 then ((impl_in.f ((rd_ITerm x24 x26).f2) 0 (wrap64 (x26 - 1))).bind fun t496 => (if t496 = true then ((impl_in.f ((rd_ITerm x24 x26).f3) 0 (wrap64 (x26 - 1))).bind fun t497 => (if t497 = true then (if 0 ≤ ((rd_ITerm x24 x26).f2) then (if ((rd_ITerm x24 x26).f2) < (x5.length : Int) then (if (rd x5 ((rd_ITerm x24 x26).f2)) = bt490.2.1 then (if 0 ≤ ((rd_ITerm x24 x26).f3) then (if ((rd_ITerm x24 x26).f3) < (x5.length : Int) then (if (rd x5 ((rd_ITerm x24 x26).f3)) = bt490.2.1 then (if bt490.1 = 2 then (impl_kindsOf.j2 k x1 x5 bt490.2.2 true x24 x25 x26) else (impl_kindsOf.j2 k x1 x5 bt490.2.2 (((rd_ITerm x24 x26).f2) == ((rd_ITerm x24 x26).f3)) x24 x25 x26)) else (impl_kindsOf.j2 k x1 x5 bt490.2.2 false x24 x25 x26)) else (none)) else (none)) else (impl_kindsOf.j2 k x1 x5 bt490.2.2 false x24 x25 x26)) else (none)) else (none)) else (impl_kindsOf.j2 k x1 x5 bt490.2.2 false x24 x25 x26))) else (impl_kindsOf.j2 k x1 x5 bt490.2.2 false x24 x25 x26))) else (impl_kindsOf.j2 k x1 x5 bt490.2.2 false x24 x25 x26)) else (impl_kindsOf.j2 k x1 x5 bt490.2.2 t493 x24 x25 x26)))))) else (none)) else (none)) else (if 0 < x5.length then (some x5) else (none))
def impl_kindsOf.j2 : Nat → Int → List Int → Int → Bool → List (ITerm) → Int → Int → Option (List Int)
  | 0, _, _, _, _, _, _, _ => none
  | k + 1, x1, x5, x10, x11, x24, x25, x26 => if x11 = true then (if x5.length < 17592186044416 then (impl_kindsOf.l0 k x1 (x5 ++ [x10]) x24 x25 (wrap64 (x26 + 1))) else (none)) else (some ([] : List Int))
end
def impl_kindsOf.f (k : Nat) (l0 : List (ITerm)) (a1 : Int) : Option (List Int) := (impl_in.f a1 0 5).bind fun t483 => (if t483 = true then ((impl_in.f (l0.length : Int) 1 40).bind fun t484 => (impl_kindsOf.j0 k l0 a1 (!t484))) else (impl_kindsOf.j0 k l0 a1 true))
def impl_kindOf.f (k : Nat) (l0 : List (ITerm)) (a1 : Int) : Option (Int) := (impl_kindsOf.f k l0 a1).bind fun t => if t = [] then some 0 else (if 0 ≤ (wrap64 ((t.length : Int) - 1)) then (if (wrap64 ((t.length : Int) - 1)) < (t.length : Int) then some (rd t (wrap64 ((t.length : Int) - 1))) else none) else none)
mutual
def impl_ruleOk.j0 : Nat → Int → Bool → List (ITerm) → List Int → List (List (ITerm)) → Option (Bool)
  | 0, _, _, _, _, _ => none
  | k + 1, x1, x20, x504000, x504001, x504002 => if x20 = true then (some false) else (impl_ruleOk.l0 k x1 x504001 (x504001.length : Int) 0 x504000 x504001 x504002)
def impl_ruleOk.l0 : Nat → Int → List Int → Int → Int → List (ITerm) → List Int → List (List (ITerm)) → Option (Bool)
  | 0, _, _, _, _, _, _, _ => none
  | k + 1, x1, x22, x23, x24, x504000, x504001, x504002 => if x24 < x23 then (if 0 ≤ x24 then (if x24 < (x22.length : Int) then ((impl_in.f (rd x22 x24) 0 (wrap64 (x1 - 1))).bind fun t506 => (if t506 = true then (if x24 > 0 then (if 0 ≤ (wrap64 (x24 - 1)) then (if (wrap64 (x24 - 1)) < (x504001.length : Int) then (if (rd x504001 (wrap64 (x24 - 1))) ≥ (rd x22 x24) then (impl_ruleOk.j2 k x1 x22 x23 x24 true x504000 x504001 x504002) else (if x24 < (x504002.length : Int) then ((impl_kindOf.f k (rd_LITerm x504002 x24) x1).bind fun t509 => (impl_ruleOk.j2 k x1 x22 x23 x24 (t509 != 1) x504000 x504001 x504002)) else (none))) else (none)) else (none)) else (if x24 < (x504002.length : Int) then ((impl_kindOf.f k (rd_LITerm x504002 x24) x1).bind fun t511 => (impl_ruleOk.j2 k x1 x22 x23 x24 (t511 != 1) x504000 x504001 x504002)) else (none))) else (impl_ruleOk.j2 k x1 x22 x23 x24 true x504000 x504001 x504002))) else (none)) else (none)) else (some true)
def impl_ruleOk.j2 : Nat → Int → List Int → Int → Int → Bool → List (ITerm) → List Int → List (List (ITerm)) → Option (Bool)
  | 0, _, _, _, _, _, _, _, _ => none
  | k + 1, x1, x22, x23, x24, x57, x504000, x504001, x504002 => if x57 = true then (some false) else (impl_ruleOk.l0 k x1 x22 x23 (wrap64 (x24 + 1)) x504000 x504001 x504002)
end
def impl_ruleOk.f (k : Nat) (l0_0 : List (ITerm)) (l0_1 : List Int) (l0_2 : List (List (ITerm))) (a1 : Int) : Option (Bool) := (impl_kindOf.f k l0_0 a1).bind fun t504 => (if t504 = 2 then (impl_ruleOk.j0 k a1 ((l0_1.length : Int) != (l0_2.length : Int)) l0_0 l0_1 l0_2) else (impl_ruleOk.j0 k a1 true l0_0 l0_1 l0_2))
def impl_SystemValid_1.f (a0_0 : Int) (a0_1 : Int) (a0_2 : Int) : Option (Bool) := (impl_varOk.f a0_0 a0_1 a0_2).bind fun t513 => (some (!t513))
def slices_IndexFunc_at_impl_SystemValid_1.l0 : Nat → List (IVar) → Int → Int → Option (Int)
  | 0, _, _, _ => none
  | k + 1, x0, x7, x8 => if x8 < x7 then (if 0 ≤ x8 then (if x8 < (x0.length : Int) then ((impl_SystemValid_1.f ((rd_IVar x0 x8).f0) ((rd_IVar x0 x8).f1) ((rd_IVar x0 x8).f2)).bind fun t515 => (if t515 = true then (some x8) else (slices_IndexFunc_at_impl_SystemValid_1.l0 k x0 x7 (wrap64 (x8 + 1))))) else (none)) else (none)) else (some (-1))
def slices_IndexFunc_at_impl_SystemValid_1.f (k : Nat) (l0 : List (IVar))  : Option (Int) := slices_IndexFunc_at_impl_SystemValid_1.l0 k l0 (l0.length : Int) 0
def slices_ContainsFunc_at_impl_SystemValid_1.f (k : Nat) (l0 : List (IVar))  : Option (Bool) := (slices_IndexFunc_at_impl_SystemValid_1.f k l0).bind fun t516 => (some (decide (t516 ≥ 0)))
def impl_SystemValid_2.f (k : Nat) (l0_0 : List (ITerm)) (l0_1 : List Int) (l0_2 : List (List (ITerm))) (l1_0 : List (IVar)) (l1_1 : List (IRule)) : Option (Bool) := (impl_ruleOk.f k l0_0 l0_1 l0_2 (l1_0.length : Int)).bind fun t519 => (some (!t519))
def slices_IndexFunc_at_impl_SystemValid_2.l0 : Nat → List (IRule) → Int → Int → List (IVar) → List (IRule) → Option (Int)
  | 0, _, _, _, _, _ => none
  | k + 1, x0, x7, x8, x521000, x521001 => if x8 < x7 then (if 0 ≤ x8 then (if x8 < (x0.length : Int) then ((impl_SystemValid_2.f k ((rd_IRule x0 x8).f0) ((rd_IRule x0 x8).f1) ((rd_IRule x0 x8).f2) x521000 x521001).bind fun t522 => (if t522 = true then (some x8) else (slices_IndexFunc_at_impl_SystemValid_2.l0 k x0 x7 (wrap64 (x8 + 1)) x521000 x521001))) else (none)) else (none)) else (some (-1))
def slices_IndexFunc_at_impl_SystemValid_2.f (k : Nat) (l0 : List (IRule))  (l2_0 : List (IVar)) (l2_1 : List (IRule)) : Option (Int) := slices_IndexFunc_at_impl_SystemValid_2.l0 k l0 (l0.length : Int) 0 l2_0 l2_1
def slices_ContainsFunc_at_impl_SystemValid_2.f (k : Nat) (l0 : List (IRule))  (l2_0 : List (IVar)) (l2_1 : List (IRule)) : Option (Bool) := (slices_IndexFunc_at_impl_SystemValid_2.f k l0 l2_0 l2_1).bind fun t524 => (some (decide (t524 ≥ 0)))
def impl_SystemValid.j0 : Nat → Bool → List (IVar) → List (IRule) → Option (Bool)
  | 0, _, _, _ => none
  | k + 1, x24, x526000, x526001 => if x24 = true then (some false) else ((slices_ContainsFunc_at_impl_SystemValid_2.f k x526001 x526000 x526001).bind fun t529 => (some (!t529)))
def impl_SystemValid.f (k : Nat) (l0_0 : List (IVar)) (l0_1 : List (IRule)) : Option (Bool) := (impl_in.f (l0_0.length : Int) 1 5).bind fun t526 => (if t526 = true then (if (l0_1.length : Int) > 8 then (impl_SystemValid.j0 k true l0_0 l0_1) else ((slices_ContainsFunc_at_impl_SystemValid_1.f k l0_0).bind fun t527 => (if t527 = true then (impl_SystemValid.j0 k true l0_0 l0_1) else ((impl_size.f k l0_0).bind fun t528 => (impl_SystemValid.j0 k (decide (t528 > 400)) l0_0 l0_1))))) else (impl_SystemValid.j0 k true l0_0 l0_1))
mutual
def impl_setOk.l0 : Nat → List Int → Int → List Int → Int → Int → Option (Bool)
  | 0, _, _, _, _, _ => none
  | k + 1, x0, x1, x7, x8, x9 => if x9 < x8 then (if 0 ≤ x9 then (if x9 < (x7.length : Int) then ((impl_in.f (rd x7 x9) 0 (wrap64 (x1 - 1))).bind fun t531 => (if t531 = true then (if x9 > 0 then (if 0 ≤ (wrap64 (x9 - 1)) then (if (wrap64 (x9 - 1)) < (x0.length : Int) then (impl_setOk.j1 k x0 x1 x7 x8 x9 (decide ((rd x0 (wrap64 (x9 - 1))) ≥ (rd x7 x9)))) else (none)) else (none)) else (impl_setOk.j1 k x0 x1 x7 x8 x9 false)) else (impl_setOk.j1 k x0 x1 x7 x8 x9 true))) else (none)) else (none)) else (some true)
def impl_setOk.j1 : Nat → List Int → Int → List Int → Int → Int → Bool → Option (Bool)
  | 0, _, _, _, _, _, _ => none
  | k + 1, x0, x1, x7, x8, x9, x31 => if x31 = true then (some false) else (impl_setOk.l0 k x0 x1 x7 x8 (wrap64 (x9 + 1)))
end
def impl_setOk.f (k : Nat) (l0 : List Int) (a1 : Int) : Option (Bool) := impl_setOk.l0 k l0 a1 l0 (l0.length : Int) 0
def impl_SetValid.f (k : Nat) (l0_0 : List (IVar)) (l0_1 : List (IRule)) (l1 : List Int) : Option (Bool) := (impl_SystemValid.f k l0_0 l0_1).bind fun t534 => (if t534 = true then ((impl_size.f k l0_0).bind fun t535 => ((impl_setOk.f k l1 t535).bind fun t536 => (some t536))) else (some false))
def impl_clone_Lint.f (l0 : List (List Int)) : Option (List (List Int)) := if l0.length ≤ 5864062014805 then some l0 else none
def impl_cubeHas.l0 : Nat → List Int → List Int → Int → Int → Option (Bool)
  | 0, _, _, _, _ => none
  | k + 1, x1, x7, x8, x9 => if x9 < x8 then (if 0 ≤ x9 then (if x9 < (x7.length : Int) then (if (rd x7 x9) = 2 then (impl_cubeHas.l0 k x1 x7 x8 (wrap64 (x9 + 1))) else (if x9 < (x1.length : Int) then (if (rd x7 x9) = (rd x1 x9) then (impl_cubeHas.l0 k x1 x7 x8 (wrap64 (x9 + 1))) else (some false)) else (none))) else (none)) else (none)) else (some true)
def impl_cubeHas.f (k : Nat) (l0 : List Int) (l1 : List Int) : Option (Bool) := impl_cubeHas.l0 k l1 l0 (l0.length : Int) 0
def impl_clone_int.f (l0 : List Int) : Option (List Int) := if l0.length ≤ 35184372088832 then some l0 else none
def impl_bitsFor.l0 : Nat → Int → Int → Option (Int)
  | 0, _, _ => none
  | k + 1, x0, x3 => if 0 ≤ x3 then (if (shl .i64 1 x3) < x0 then (impl_bitsFor.l0 k x0 (wrap64 (x3 + 1))) else (some x3)) else (none)
def impl_bitsFor.f (k : Nat) (a0 : Int) : Option (Int) := impl_bitsFor.l0 k a0 0
def impl_bitsOf.l0 : Nat → List Int → List (IVar) → Int → Int → Option (List Int)
  | 0, _, _, _, _ => none
  | k + 1, x3, x7, x8, x9 => if x9 < x8 then (if 0 ≤ x9 then (if x9 < (x7.length : Int) then ((impl_bitsFor.f k (wrap64 ((wrap64 (((rd_IVar x7 x9).f1) - ((rd_IVar x7 x9).f0))) + 1))).bind fun t542 => (if x3.length < 17592186044416 then (impl_bitsOf.l0 k (x3 ++ [t542]) x7 x8 (wrap64 (x9 + 1))) else (none))) else (none)) else (none)) else ((impl_clone_int.f x3).bind fun t546 => (some t546))
def impl_bitsOf.f (k : Nat) (l0_0 : List (IVar)) (l0_1 : List (IRule)) : Option (List Int) := impl_bitsOf.l0 k ([] : List Int) l0_0 (l0_0.length : Int) 0
def impl_valueBits.l0 : Nat → Int → Int → List Int → Int → Int → Option (List Int)
  | 0, _, _, _, _, _ => none
  | k + 1, x0, x1, x5, x10, x11 => if x11 < x10 then (if 0 ≤ (wrap64 ((wrap64 (x1 - 1)) - x11)) then (if 0 ≤ x11 then (if x11 < (x5.length : Int) then (impl_valueBits.l0 k x0 x1 (x5.set (x11 : Int).toNat (Go.bits .and .i64 (shr .i64 x0 (wrap64 ((wrap64 (x1 - 1)) - x11))) 1)) x10 (wrap64 (x11 + 1))) else (none)) else (none)) else (none)) else (some x5)
def impl_valueBits.f (k : Nat) (a0 : Int) (a1 : Int) : Option (List Int) := if 0 ≤ a1 then (if (a1 : Int).toNat ≤ 35184372088832 then ((some (List.replicate (a1 : Int).toNat 0 : List Int)).bind fun y549 => (impl_valueBits.l0 k a0 a1 y549 (y549.length : Int) 0)) else (none)) else (none)
theorem impl_valueBits.mono_l : ∀ k, (∀ y0 y1 y2 y3 y4, LeO (impl_valueBits.l0 k y0 y1 y2 y3 y4) (impl_valueBits.l0 (k + 1) y0 y1 y2 y3 y4))
  | 0 => fun _ _ _ _ _ r h => by simp [impl_valueBits.l0] at h
  | k + 1 => by
    have ih0 := impl_valueBits.mono_l k
    · intro y0 y1 y2 y3 y4
      unfold impl_valueBits.l0
      repeat' first
      | (with_reducible exact ih0 _ _ _ _ _)
      | (with_reducible exact LeO.refl _)
      | (with_reducible exact LeO.none _)
      | (with_reducible refine LeO.ite ?_ ?_)
      | (with_reducible refine LeO.bind ?_ (fun _ => ?_))
      | exact ih0 _ _ _ _ _
      | exact LeO.none _
      | refine LeO.ite ?_ ?_
      | refine LeO.bind ?_ (fun _ => ?_)
theorem impl_valueBits.mono : ∀ a0 a1 k, LeO (impl_valueBits.f k a0 a1) (impl_valueBits.f (k + 1) a0 a1) := by
  intro a0 a1 k
  have ih0 := impl_valueBits.mono_l k
  unfold impl_valueBits.f
  repeat' first
      | (with_reducible exact ih0 _ _ _ _ _)
      | (with_reducible exact LeO.refl _)
      | (with_reducible exact LeO.none _)
      | (with_reducible refine LeO.ite ?_ ?_)
      | (with_reducible refine LeO.bind ?_ (fun _ => ?_))
      | exact ih0 _ _ _ _ _
      | exact LeO.none _
      | refine LeO.ite ?_ ?_
      | refine LeO.bind ?_ (fun _ => ?_)
def impl_stateBits.l0 : Nat → List Int → List Int → List Int → Int → Int → List (IVar) → List (IRule) → Option (List Int)
  | 0, _, _, _, _, _, _, _ => none
  | k + 1, x1, x5, x9, x10, x11, x554000, x554001 => if x11 < x10 then (if 0 ≤ x11 then (if x11 < (x9.length : Int) then (if x11 < (x1.length : Int) then (if x11 < (x554000.length : Int) then ((impl_valueBits.f k (wrap64 ((rd x1 x11) - ((rd_IVar x554000 x11).f0))) (rd x9 x11)).bind fun t560 => (if x5.length + t560.length < 17592186044416 then (impl_stateBits.l0 k x1 (x5 ++ t560) x9 x10 (wrap64 (x11 + 1)) x554000 x554001) else (none))) else (none)) else (none)) else (none)) else (none)) else ((impl_clone_int.f x5).bind fun t566 => (some t566))
def impl_stateBits.f (k : Nat) (l0_0 : List (IVar)) (l0_1 : List (IRule)) (l1 : List Int) : Option (List Int) := (impl_bitsOf.f k l0_0 l0_1).bind fun t554 => (impl_stateBits.l0 k l1 ([] : List Int) t554 (t554.length : Int) 0 l0_0 l0_1)
def impl_stateAt.l0 : Nat → Int → List Int → Int → List (IVar) → List (IRule) → Option (List Int)
  | 0, _, _, _, _, _ => none
  | k + 1, x1, x5, x6, x570000, x570001 => if x6 ≥ 0 then (if 0 ≤ x6 then (if x6 < (x570000.length : Int) then (if (wrap64 ((wrap64 (((rd_IVar x570000 x6).f1) - ((rd_IVar x570000 x6).f0))) + 1)) = 0 then (none) else (if x6 < (x5.length : Int) then (impl_stateAt.l0 k (wrap64 (Int.tdiv x1 (wrap64 ((wrap64 (((rd_IVar x570000 x6).f1) - ((rd_IVar x570000 x6).f0))) + 1)))) (x5.set (x6 : Int).toNat (wrap64 (((rd_IVar x570000 x6).f0) + (Int.tmod x1 (wrap64 ((wrap64 (((rd_IVar x570000 x6).f1) - ((rd_IVar x570000 x6).f0))) + 1)))))) (wrap64 (x6 - 1)) x570000 x570001) else (none))) else (none)) else (none)) else (some x5)
def impl_stateAt.f (k : Nat) (l0_0 : List (IVar)) (l0_1 : List (IRule)) (a1 : Int) : Option (List Int) := if 0 ≤ (l0_0.length : Int) then (if ((l0_0.length : Int) : Int).toNat ≤ 35184372088832 then ((some (List.replicate ((l0_0.length : Int) : Int).toNat 0 : List Int)).bind fun y570 => (impl_stateAt.l0 k a1 y570 (wrap64 ((y570.length : Int) - 1)) l0_0 l0_1)) else (none)) else (none)
def impl_allBits.l0 : Nat → List (List Int) → List Int → Int → Int → List (IVar) → List (IRule) → Option ((List (List Int)))
  | 0, _, _, _, _, _, _ => none
  | k + 1, x5, x8, x9, x10, x577000, x577001 => if x10 < x9 then (if 0 ≤ x10 then (if x10 < (x8.length : Int) then ((impl_stateAt.f k x577000 x577001 (rd x8 x10)).bind fun t578 => ((impl_stateBits.f k x577000 x577001 t578).bind fun t581 => (if x5.length < 5864062014805 then (impl_allBits.l0 k (x5 ++ [t581]) x8 x9 (wrap64 (x10 + 1)) x577000 x577001) else (none)))) else (none)) else (none)) else ((impl_clone_Lint.f x5).bind fun t587 => (some t587))
def impl_allBits.f (k : Nat) (l0_0 : List (IVar)) (l0_1 : List (IRule)) (l1 : List Int) : Option ((List (List Int))) := impl_allBits.l0 k ([] : List (List Int)) l1 (l1.length : Int) 0 l0_0 l0_1
def impl_listOf.l0 : Nat → List Int → List Bool → Int → Int → Option (List Int)
  | 0, _, _, _, _ => none
  | k + 1, x3, x6, x7, x8 => if x8 < x7 then (if 0 ≤ x8 then (if x8 < (x6.length : Int) then (if rdOf false x6 x8 = true then (if x3.length < 17592186044416 then (impl_listOf.l0 k (x3 ++ [x8]) x6 x7 (wrap64 (x8 + 1))) else (none)) else (impl_listOf.l0 k x3 x6 x7 (wrap64 (x8 + 1)))) else (none)) else (none)) else ((impl_clone_int.f x3).bind fun t598 => (some t598))
def impl_listOf.f (k : Nat) (l0 : List Bool) : Option (List Int) := impl_listOf.l0 k ([] : List Int) l0 (l0.length : Int) 0
def impl_marks.l0 : Nat → List Bool → List Int → Int → Int → Option (List Bool)
  | 0, _, _, _, _ => none
  | k + 1, x5, x10, x11, x12 => if x12 < x11 then (if 0 ≤ x12 then (if x12 < (x10.length : Int) then (if 0 ≤ (rd x10 x12) then (if (rd x10 x12) < (x5.length : Int) then (impl_marks.l0 k (x5.set ((rd x10 x12) : Int).toNat true) x10 x11 (wrap64 (x12 + 1))) else (none)) else (none)) else (none)) else (none)) else (some x5)
def impl_marks.f (k : Nat) (l0 : List Int) (a1 : Int) : Option (List Bool) := if 0 ≤ a1 then (if (a1 : Int).toNat ≤ 281474976710656 then (impl_marks.l0 k (List.replicate (a1 : Int).toNat false) l0 (l0.length : Int) 0) else (none)) else (none)
mutual
def spec_SetValid.l0 : Nat → List Int → Int → Int → Option (Bool)
  | 0, _, _, _ => none
  | k + 1, x1, x5, x6 => if x6 < (x1.length : Int) then (if 0 ≤ x6 then ((spec_l1In.f (rd x1 x6) 0 (wrap64 (x5 - 1))).bind fun t624 => (if t624 = true then (if x6 > 0 then (if 0 ≤ (wrap64 (x6 - 1)) then (if (wrap64 (x6 - 1)) < (x1.length : Int) then (spec_SetValid.j1 k x1 x5 x6 (decide ((rd x1 x6) ≤ (rd x1 (wrap64 (x6 - 1)))))) else (none)) else (none)) else (spec_SetValid.j1 k x1 x5 x6 false)) else (spec_SetValid.j1 k x1 x5 x6 true))) else (none)) else (some (decide (x5 > 0)))
def spec_SetValid.j1 : Nat → List Int → Int → Int → Bool → Option (Bool)
  | 0, _, _, _, _ => none
  | k + 1, x1, x5, x6, x38 => if x38 = true then (some false) else (spec_SetValid.l0 k x1 x5 (wrap64 (x6 + 1)))
end
def spec_SetValid.f (k : Nat) (l0_0 : List (IVar)) (l0_1 : List (IRule)) (l1 : List Int) : Option (Bool) := (spec_SizeOf.f k l0_0 l0_1).bind fun t622 => (spec_SetValid.l0 k l1 t622 0)
mutual
def spec_l4Set.l0 : Nat → List Int → Int → Option (Bool)
  | 0, _, _ => none
  | k + 1, x0, x3 => if x3 < (x0.length : Int) then (if 0 ≤ x3 then ((spec_l1In.f (rd x0 x3) 0 399).bind fun t628 => (if t628 = true then (if x3 > 0 then (if 0 ≤ (wrap64 (x3 - 1)) then (if (wrap64 (x3 - 1)) < (x0.length : Int) then (spec_l4Set.j1 k x0 x3 (decide ((rd x0 x3) ≤ (rd x0 (wrap64 (x3 - 1)))))) else (none)) else (none)) else (spec_l4Set.j1 k x0 x3 false)) else (spec_l4Set.j1 k x0 x3 true))) else (none)) else (some true)
def spec_l4Set.j1 : Nat → List Int → Int → Bool → Option (Bool)
  | 0, _, _, _ => none
  | k + 1, x0, x3, x31 => if x31 = true then (some false) else (spec_l4Set.l0 k x0 (wrap64 (x3 + 1)))
end
def spec_l4Set.f (k : Nat) (l0 : List Int) : Option (Bool) := spec_l4Set.l0 k l0 0
def spec_l4Marks.l0 : Nat → List Int → List Bool → Int → Option (List Bool)
  | 0, _, _, _ => none
  | k + 1, x0, x5, x6 => if x6 < (x0.length : Int) then (if 0 ≤ x6 then (if 0 ≤ (rd x0 x6) then (if (rd x0 x6) < (x5.length : Int) then (spec_l4Marks.l0 k x0 (x5.set ((rd x0 x6) : Int).toNat true) (wrap64 (x6 + 1))) else (none)) else (none)) else (none)) else (some x5)
def spec_l4Marks.f (k : Nat) (l0 : List Int) (a1 : Int) : Option (List Bool) := if 0 ≤ a1 then (if (a1 : Int).toNat ≤ 281474976710656 then (spec_l4Marks.l0 k l0 (List.replicate (a1 : Int).toNat false) 0) else (none)) else (none)
mutual
def spec_l4Mix.l1 : Nat → List Int → Int → Int → (List Bool) → (List Bool) → Option (List Int)
  | 0, _, _, _, _, _ => none
  | k + 1, x7, x10, a2, r3, r4 => if x10 < 400 then (if a2 = 0 then (if 0 ≤ x10 then (if x10 < (r3.length : Int) then (if (rdOf false r3 x10) = true then (if 0 ≤ x10 then (if x10 < (r4.length : Int) then (if (rdOf false r4 x10) = true then (if x7.length + 1 ≤ 1099511627776 then (spec_l4Mix.l1 k (x7 ++ [x10]) (wrap64 (x10 + 1)) a2 r3 r4) else none) else (if a2 = 1 then (if 0 ≤ x10 then (if x10 < (r3.length : Int) then (if (rdOf false r3 x10) = true then (if x7.length + 1 ≤ 1099511627776 then (spec_l4Mix.l1 k (x7 ++ [x10]) (wrap64 (x10 + 1)) a2 r3 r4) else none) else (if 0 ≤ x10 then (if x10 < (r4.length : Int) then (if (rdOf false r4 x10) = true then (if x7.length + 1 ≤ 1099511627776 then (spec_l4Mix.l1 k (x7 ++ [x10]) (wrap64 (x10 + 1)) a2 r3 r4) else none) else (if a2 = 2 then (if 0 ≤ x10 then (if x10 < (r3.length : Int) then (if (rdOf false r3 x10) = true then (if 0 ≤ x10 then (if x10 < (r4.length : Int) then (if (rdOf false r4 x10) = true then (spec_l4Mix.l1 k x7 (wrap64 (x10 + 1)) a2 r3 r4) else (if x7.length + 1 ≤ 1099511627776 then (spec_l4Mix.l1 k (x7 ++ [x10]) (wrap64 (x10 + 1)) a2 r3 r4) else none)) else none) else none) else (spec_l4Mix.l1 k x7 (wrap64 (x10 + 1)) a2 r3 r4)) else none) else none) else (spec_l4Mix.l1 k x7 (wrap64 (x10 + 1)) a2 r3 r4))) else none) else none)) else none) else none) else (if a2 = 2 then (if 0 ≤ x10 then (if x10 < (r3.length : Int) then (if (rdOf false r3 x10) = true then (if 0 ≤ x10 then (if x10 < (r4.length : Int) then (if (rdOf false r4 x10) = true then (spec_l4Mix.l1 k x7 (wrap64 (x10 + 1)) a2 r3 r4) else (if x7.length + 1 ≤ 1099511627776 then (spec_l4Mix.l1 k (x7 ++ [x10]) (wrap64 (x10 + 1)) a2 r3 r4) else none)) else none) else none) else (spec_l4Mix.l1 k x7 (wrap64 (x10 + 1)) a2 r3 r4)) else none) else none) else (spec_l4Mix.l1 k x7 (wrap64 (x10 + 1)) a2 r3 r4)))) else none) else none) else (if a2 = 1 then (if 0 ≤ x10 then (if x10 < (r3.length : Int) then (if (rdOf false r3 x10) = true then (if x7.length + 1 ≤ 1099511627776 then (spec_l4Mix.l1 k (x7 ++ [x10]) (wrap64 (x10 + 1)) a2 r3 r4) else none) else (if 0 ≤ x10 then (if x10 < (r4.length : Int) then (if (rdOf false r4 x10) = true then (if x7.length + 1 ≤ 1099511627776 then (spec_l4Mix.l1 k (x7 ++ [x10]) (wrap64 (x10 + 1)) a2 r3 r4) else none) else (if a2 = 2 then (if 0 ≤ x10 then (if x10 < (r3.length : Int) then (if (rdOf false r3 x10) = true then (if 0 ≤ x10 then (if x10 < (r4.length : Int) then (if (rdOf false r4 x10) = true then (spec_l4Mix.l1 k x7 (wrap64 (x10 + 1)) a2 r3 r4) else (if x7.length + 1 ≤ 1099511627776 then (spec_l4Mix.l1 k (x7 ++ [x10]) (wrap64 (x10 + 1)) a2 r3 r4) else none)) else none) else none) else (spec_l4Mix.l1 k x7 (wrap64 (x10 + 1)) a2 r3 r4)) else none) else none) else (spec_l4Mix.l1 k x7 (wrap64 (x10 + 1)) a2 r3 r4))) else none) else none)) else none) else none) else (if a2 = 2 then (if 0 ≤ x10 then (if x10 < (r3.length : Int) then (if (rdOf false r3 x10) = true then (if 0 ≤ x10 then (if x10 < (r4.length : Int) then (if (rdOf false r4 x10) = true then (spec_l4Mix.l1 k x7 (wrap64 (x10 + 1)) a2 r3 r4) else (if x7.length + 1 ≤ 1099511627776 then (spec_l4Mix.l1 k (x7 ++ [x10]) (wrap64 (x10 + 1)) a2 r3 r4) else none)) else none) else none) else (spec_l4Mix.l1 k x7 (wrap64 (x10 + 1)) a2 r3 r4)) else none) else none) else (spec_l4Mix.l1 k x7 (wrap64 (x10 + 1)) a2 r3 r4)))) else none) else none) else (if a2 = 1 then (if 0 ≤ x10 then (if x10 < (r3.length : Int) then (if (rdOf false r3 x10) = true then (if x7.length + 1 ≤ 1099511627776 then (spec_l4Mix.l1 k (x7 ++ [x10]) (wrap64 (x10 + 1)) a2 r3 r4) else none) else (if 0 ≤ x10 then (if x10 < (r4.length : Int) then (if (rdOf false r4 x10) = true then (if x7.length + 1 ≤ 1099511627776 then (spec_l4Mix.l1 k (x7 ++ [x10]) (wrap64 (x10 + 1)) a2 r3 r4) else none) else (if a2 = 2 then (if 0 ≤ x10 then (if x10 < (r3.length : Int) then (if (rdOf false r3 x10) = true then (if 0 ≤ x10 then (if x10 < (r4.length : Int) then (if (rdOf false r4 x10) = true then (spec_l4Mix.l1 k x7 (wrap64 (x10 + 1)) a2 r3 r4) else (if x7.length + 1 ≤ 1099511627776 then (spec_l4Mix.l1 k (x7 ++ [x10]) (wrap64 (x10 + 1)) a2 r3 r4) else none)) else none) else none) else (spec_l4Mix.l1 k x7 (wrap64 (x10 + 1)) a2 r3 r4)) else none) else none) else (spec_l4Mix.l1 k x7 (wrap64 (x10 + 1)) a2 r3 r4))) else none) else none)) else none) else none) else (if a2 = 2 then (if 0 ≤ x10 then (if x10 < (r3.length : Int) then (if (rdOf false r3 x10) = true then (if 0 ≤ x10 then (if x10 < (r4.length : Int) then (if (rdOf false r4 x10) = true then (spec_l4Mix.l1 k x7 (wrap64 (x10 + 1)) a2 r3 r4) else (if x7.length + 1 ≤ 1099511627776 then (spec_l4Mix.l1 k (x7 ++ [x10]) (wrap64 (x10 + 1)) a2 r3 r4) else none)) else none) else none) else (spec_l4Mix.l1 k x7 (wrap64 (x10 + 1)) a2 r3 r4)) else none) else none) else (spec_l4Mix.l1 k x7 (wrap64 (x10 + 1)) a2 r3 r4)))) else (some x7)
end
def spec_l4Mix.f (k : Nat) (l0 : List Int) (l1 : List Int) (a2 : Int) : Option (List Int) := (spec_l4Set.f k l0).bind fun r1 => if r1 = true then ((spec_l4Set.f k l1).bind fun r2 => if r2 = true then ((spec_l4Marks.f k l0 400).bind fun r3 => (spec_l4Marks.f k l1 400).bind fun r4 => spec_l4Mix.l1 k ([] : List Int) 0 a2 r3 r4) else (some ([] : List Int))) else (some ([] : List Int))
def spec_SetWithout.f (k : Nat) (l0 : List Int) (l1 : List Int) : Option (List Int) := (spec_l4Mix.f k l0 l1 2).bind fun r1 => some r1
def spec_l3Copy.l0 : Nat → List Int → List Int → Int → Option (List Int)
  | 0, _, _, _ => none
  | k + 1, x0, x3, x4 => if x4 < (x0.length : Int) then (if 0 ≤ x4 then (if x3.length < 17592186044416 then (spec_l3Copy.l0 k x0 (x3 ++ [rd x0 x4]) (wrap64 (x4 + 1))) else (none)) else (none)) else (some x3)
def spec_l3Copy.f (k : Nat) (l0 : List Int) : Option (List Int) := spec_l3Copy.l0 k l0 (([] : List Int)) 0
def spec_l6Many.l0 : Nat → Int → Int → Int → Option (Int)
  | 0, _, _, _ => none
  | k + 1, x0, x3, x4 => if x4 < x0 then (spec_l6Many.l0 k x0 (wrap64 (x3 + 1)) (wrap64 (x4 * 2))) else (some x3)
def spec_l6Many.f (k : Nat) (a0 : Int) : Option (Int) := spec_l6Many.l0 k a0 0 1
def spec_l6Widths.l0 : Nat → List Int → Int → List (IVar) → List (IRule) → Option (List Int)
  | 0, _, _, _, _ => none
  | k + 1, x3, x4, x681000, x681001 => if x4 < (x681000.length : Int) then (if 0 ≤ x4 then ((spec_l6Many.f k (wrap64 ((wrap64 (((rd_IVar x681000 x4).f1) - ((rd_IVar x681000 x4).f0))) + 1))).bind fun t686 => (if x3.length < 17592186044416 then (spec_l6Widths.l0 k (x3 ++ [t686]) (wrap64 (x4 + 1)) x681000 x681001) else (none))) else (none)) else (some x3)
def spec_l6Widths.f (k : Nat) (l0_0 : List (IVar)) (l0_1 : List (IRule)) : Option (List Int) := spec_l6Widths.l0 k (([] : List Int)) 0 l0_0 l0_1
def spec_l6Value.l0 : Nat → Int → List Int → Int → Option (List Int)
  | 0, _, _, _ => none
  | k + 1, x0, x5, x6 => if x6 ≥ 0 then (if 0 ≤ x6 then (if x5.length < 17592186044416 then (spec_l6Value.l0 k x0 (x5 ++ [Int.tmod (shr .i64 x0 x6) 2]) (wrap64 (x6 - 1))) else (none)) else (none)) else (some x5)
def spec_l6Value.f (k : Nat) (a0 : Int) (a1 : Int) : Option (List Int) := spec_l6Value.l0 k a0 (([] : List Int)) (wrap64 (a1 - 1))
theorem spec_l6Value.mono_l : ∀ k, (∀ y0 y1 y2, LeO (spec_l6Value.l0 k y0 y1 y2) (spec_l6Value.l0 (k + 1) y0 y1 y2))
  | 0 => fun _ _ _ r h => by simp [spec_l6Value.l0] at h
  | k + 1 => by
    have ih0 := spec_l6Value.mono_l k
    · intro y0 y1 y2
      unfold spec_l6Value.l0
      repeat' first
      | (with_reducible exact ih0 _ _ _)
      | (with_reducible exact LeO.refl _)
      | (with_reducible exact LeO.none _)
      | (with_reducible refine LeO.ite ?_ ?_)
      | (with_reducible refine LeO.bind ?_ (fun _ => ?_))
      | exact ih0 _ _ _
      | exact LeO.none _
      | refine LeO.ite ?_ ?_
      | refine LeO.bind ?_ (fun _ => ?_)
theorem spec_l6Value.mono : ∀ a0 a1 k, LeO (spec_l6Value.f k a0 a1) (spec_l6Value.f (k + 1) a0 a1) := by
  intro a0 a1 k
  have ih0 := spec_l6Value.mono_l k
  unfold spec_l6Value.f
  repeat' first
      | (with_reducible exact ih0 _ _ _)
      | (with_reducible exact LeO.refl _)
      | (with_reducible exact LeO.none _)
      | (with_reducible refine LeO.ite ?_ ?_)
      | (with_reducible refine LeO.bind ?_ (fun _ => ?_))
      | exact ih0 _ _ _
      | exact LeO.none _
      | refine LeO.ite ?_ ?_
      | refine LeO.bind ?_ (fun _ => ?_)
mutual
def spec_l6State.l0 : Nat → List Int → List Int → List Int → Int → List (IVar) → List (IRule) → Option (List Int)
  | 0, _, _, _, _, _, _ => none
  | k + 1, x1, x5, x6, x7, x697000, x697001 => if x7 < (x1.length : Int) then (if 0 ≤ x7 then (if x7 < (x697000.length : Int) then (if x7 < (x6.length : Int) then ((spec_l6Value.f k (wrap64 ((rd x1 x7) - ((rd_IVar x697000 x7).f0))) (rd x6 x7)).bind fun t706 => (spec_l6State.l1 k x1 x5 x6 x7 t706 0 x697000 x697001)) else (none)) else (none)) else (none)) else (some x5)
def spec_l6State.l1 : Nat → List Int → List Int → List Int → Int → List Int → Int → List (IVar) → List (IRule) → Option (List Int)
  | 0, _, _, _, _, _, _, _, _ => none
  | k + 1, x1, x5, x6, x7, x8, x9, x697000, x697001 => if x9 < (x8.length : Int) then (if 0 ≤ x9 then (if x5.length < 17592186044416 then (spec_l6State.l1 k x1 (x5 ++ [rd x8 x9]) x6 x7 x8 (wrap64 (x9 + 1)) x697000 x697001) else (none)) else (none)) else (spec_l6State.l0 k x1 x5 x6 (wrap64 (x7 + 1)) x697000 x697001)
end
def spec_l6State.f (k : Nat) (l0_0 : List (IVar)) (l0_1 : List (IRule)) (l1 : List Int) : Option (List Int) := (spec_l6Widths.f k l0_0 l0_1).bind fun t700 => (spec_l6State.l0 k l1 (([] : List Int)) t700 0 l0_0 l0_1)
def spec_FirstState.l0 : Nat → List Int → Int → List (IVar) → List (IRule) → Option (List Int)
  | 0, _, _, _, _ => none
  | k + 1, x3, x4, x714000, x714001 => if x4 < (x714000.length : Int) then ((spec_SystemValid.f k x714000 x714001).bind fun t717 => (if t717 = true then (if 0 ≤ x4 then (if x3.length < 17592186044416 then (spec_FirstState.l0 k (x3 ++ [(rd_IVar x714000 x4).f2]) (wrap64 (x4 + 1)) x714000 x714001) else (none)) else (none)) else (some x3))) else (some x3)
def spec_FirstState.f (k : Nat) (l0_0 : List (IVar)) (l0_1 : List (IRule)) : Option (List Int) := spec_FirstState.l0 k (([] : List Int)) 0 l0_0 l0_1
def spec_l4State.l0 : Nat → Int → List Int → Int → List (IVar) → List (IRule) → Option (List Int)
  | 0, _, _, _, _, _ => none
  | k + 1, x1, x5, x6, x723000, x723001 => if x6 ≥ 0 then (if 0 ≤ x6 then (if x6 < (x723000.length : Int) then (if (wrap64 ((wrap64 (((rd_IVar x723000 x6).f1) - ((rd_IVar x723000 x6).f0))) + 1)) = 0 then (none) else (if x6 < (x5.length : Int) then (spec_l4State.l0 k (wrap64 (Int.tdiv x1 (wrap64 ((wrap64 (((rd_IVar x723000 x6).f1) - ((rd_IVar x723000 x6).f0))) + 1)))) (x5.set (x6 : Int).toNat (wrap64 (((rd_IVar x723000 x6).f0) + (Int.tmod x1 (wrap64 ((wrap64 (((rd_IVar x723000 x6).f1) - ((rd_IVar x723000 x6).f0))) + 1)))))) (wrap64 (x6 - 1)) x723000 x723001) else (none))) else (none)) else (none)) else (some x5)
def spec_l4State.f (k : Nat) (l0_0 : List (IVar)) (l0_1 : List (IRule)) (a1 : Int) : Option (List Int) := (spec_FirstState.f k l0_0 l0_1).bind fun t723 => ((spec_l3Copy.f k t723).bind fun t726 => (spec_l4State.l0 k a1 t726 (wrap64 ((l0_0.length : Int) - 1)) l0_0 l0_1))
def spec_l16Has.l0 : Nat → List Int → List Int → Int → Option (Bool)
  | 0, _, _, _ => none
  | k + 1, x0, x1, x5 => if x5 < (x0.length : Int) then (if 0 ≤ x5 then (if (rd x0 x5) = 2 then (spec_l16Has.l0 k x0 x1 (wrap64 (x5 + 1))) else (if x5 < (x1.length : Int) then (if (rd x0 x5) = (rd x1 x5) then (spec_l16Has.l0 k x0 x1 (wrap64 (x5 + 1))) else (some false)) else (none))) else (none)) else (some true)
def spec_l16Has.f (k : Nat) (l0 : List Int) (l1 : List Int) : Option (Bool) := spec_l16Has.l0 k l0 l1 0
def spec_l16States.l0 : Nat → List Int → List Int → Int → List (IVar) → List (IRule) → Option (List Int)
  | 0, _, _, _, _, _ => none
  | k + 1, x1, x5, x6, x737000, x737001 => (spec_SizeOf.f k x737000 x737001).bind fun t740 => (if x6 < t740 then ((spec_l4State.f k x737000 x737001 x6).bind fun t741 => ((spec_l6State.f k x737000 x737001 t741).bind fun t744 => ((spec_l16Has.f k x1 t744).bind fun t747 => (if t747 = true then (if x5.length < 17592186044416 then (spec_l16States.l0 k x1 (x5 ++ [x6]) (wrap64 (x6 + 1)) x737000 x737001) else (none)) else (spec_l16States.l0 k x1 x5 (wrap64 (x6 + 1)) x737000 x737001))))) else (some x5))
def spec_l16States.f (k : Nat) (l0_0 : List (IVar)) (l0_1 : List (IRule)) (l1 : List Int) : Option (List Int) := spec_l16States.l0 k l1 (([] : List Int)) 0 l0_0 l0_1
def spec_SetBoth.f (k : Nat) (l0 : List Int) (l1 : List Int) : Option (List Int) := (spec_l4Mix.f k l0 l1 0).bind fun r1 => some r1
mutual
def spec_l16Wide.l1 : Nat → List Int → Int → List IVar → List IRule → List Int → Option (List Int)
  | 0, _, _, _, _, _ => none
  | k + 1, x7, x8, l0_0, l0_1, l2 => if x8 < (x7.length : Int) then ((spec_l3Copy.f k x7).bind fun r2 => if 0 ≤ x8 then (if x8 < (r2.length : Int) then ((spec_l16States.f k l0_0 l0_1 (r2.set x8.toNat 2)).bind fun r3 => (spec_SetBoth.f k r3 l2).bind fun r4 => if (r4.length : Int) = 0 then (spec_l16Wide.l1 k (r2.set x8.toNat 2) (wrap64 (x8 + 1)) l0_0 l0_1 l2) else (spec_l16Wide.l1 k x7 (wrap64 (x8 + 1)) l0_0 l0_1 l2)) else none) else none) else (some x7)
end
def spec_l16Wide.f (k : Nat) (l0_0 : List IVar) (l0_1 : List IRule) (l1 : List Int) (l2 : List Int) : Option (List Int) := (spec_l3Copy.f k l1).bind fun r1 => spec_l16Wide.l1 k r1 0 l0_0 l0_1 l2
def laws_wcInts.l0 : Nat → List Int → List Int → Int → Int → Option (Bool)
  | 0, _, _, _, _ => none
  | k + 1, x1, x12, x13, x14 => if x14 < x13 then (if 0 ≤ x14 then (if x14 < (x12.length : Int) then (if x14 < (x1.length : Int) then (if (rd x1 x14) = (rd x12 x14) then (laws_wcInts.l0 k x1 x12 x13 (wrap64 (x14 + 1))) else (some false)) else (none)) else (none)) else (none)) else (some true)
def laws_wcInts.f (k : Nat) (l0 : List Int) (l1 : List Int) : Option (Bool) := if (l0.length : Int) = (l1.length : Int) then (laws_wcInts.l0 k l1 l0 (l0.length : Int) 0) else (some false)
def impl_cubeStates.l0 : Nat → List Int → List Bool → Int → Int → List (IVar) → List (IRule) → Option (List Int)
  | 0, _, _, _, _, _, _ => none
  | k + 1, x1, x5, x12, x13, x837000, x837001 => if x13 < x12 then ((impl_stateAt.f k x837000 x837001 x13).bind fun t841 => ((impl_stateBits.f k x837000 x837001 t841).bind fun t844 => ((impl_cubeHas.f k x1 t844).bind fun t847 => (if 0 ≤ x13 then (if x13 < (x5.length : Int) then (impl_cubeStates.l0 k x1 (x5.set (x13 : Int).toNat t847) x12 (wrap64 (x13 + 1)) x837000 x837001) else (none)) else (none))))) else ((impl_listOf.f k x5).bind fun t849 => (some t849))
def impl_cubeStates.f (k : Nat) (l0_0 : List (IVar)) (l0_1 : List (IRule)) (l1 : List Int) : Option (List Int) := (impl_size.f k l0_0).bind fun t837 => (if 0 ≤ t837 then (if (t837 : Int).toNat ≤ 281474976710656 then ((some (List.replicate (t837 : Int).toNat false : List Bool)).bind fun y838 => (impl_cubeStates.l0 k l1 y838 (y838.length : Int) 0 l0_0 l0_1)) else (none)) else (none))
def impl_SetWithout_1.f (a0 : Bool) (a1 : Bool) : Option (Bool) := if a0 = true then (some (!a1)) else (some false)
mutual
def loop_example_wholecheck_impl_setOf_at_impl_SetWithout_1.j0 : Nat → List Int → List Int → Bool → Option (List Int)
  | 0, _, _, _ => none
  | k + 1, x0, x1, x18 => if x18 = true then (some ([] : List Int)) else ((impl_marks.f k x0 400).bind fun t861 => ((impl_marks.f k x1 400).bind fun t864 => (if 400 ≤ 281474976710656 then ((some (List.replicate 400 false : List Bool)).bind fun y867 => (loop_example_wholecheck_impl_setOf_at_impl_SetWithout_1.l0 k t861 t864 y867 (y867.length : Int) 0)) else (none))))
def loop_example_wholecheck_impl_setOf_at_impl_SetWithout_1.l0 : Nat → List Bool → List Bool → List Bool → Int → Int → Option (List Int)
  | 0, _, _, _, _, _ => none
  | k + 1, x7, x8, x9, x25, x26 => if x26 < x25 then (if 0 ≤ x26 then (if x26 < (x7.length : Int) then (if x26 < (x8.length : Int) then ((impl_SetWithout_1.f (rdOf false x7 x26) (rdOf false x8 x26)).bind fun t872 => (if x26 < (x9.length : Int) then (loop_example_wholecheck_impl_setOf_at_impl_SetWithout_1.l0 k x7 x8 (x9.set (x26 : Int).toNat t872) x25 (wrap64 (x26 + 1))) else (none))) else (none)) else (none)) else (none)) else ((impl_listOf.f k x9).bind fun t874 => (some t874))
end
def loop_example_wholecheck_impl_setOf_at_impl_SetWithout_1.f (k : Nat) (l0 : List Int) (l1 : List Int)  : Option (List Int) := (impl_setOk.f k l0 400).bind fun t859 => (if t859 = true then ((impl_setOk.f k l1 400).bind fun t860 => (loop_example_wholecheck_impl_setOf_at_impl_SetWithout_1.j0 k l0 l1 (!t860))) else (loop_example_wholecheck_impl_setOf_at_impl_SetWithout_1.j0 k l0 l1 true))
def impl_SetWithout.f (k : Nat) (l0 : List Int) (l1 : List Int) : Option (List Int) := (loop_example_wholecheck_impl_setOf_at_impl_SetWithout_1.f k l0 l1).bind fun t877 => (some t877)
def slices_Index_int_int.l0 : Nat → List Int → Int → Int → Int → Option (Int)
  | 0, _, _, _, _ => none
  | k + 1, x0, x1, x7, x8 => if x8 < x7 then (if 0 ≤ x8 then (if x8 < (x0.length : Int) then (if x1 = (rd x0 x8) then (some x8) else (slices_Index_int_int.l0 k x0 x1 x7 (wrap64 (x8 + 1)))) else (none)) else (none)) else (some (-1))
def slices_Index_int_int.f (k : Nat) (l0 : List Int) (a1 : Int) : Option (Int) := slices_Index_int_int.l0 k l0 a1 (l0.length : Int) 0
def slices_Contains_int_int.f (k : Nat) (l0 : List Int) (a1 : Int) : Option (Bool) := (slices_Index_int_int.f k l0 a1).bind fun t885 => (some (decide (t885 ≥ 0)))
def spec_l2Has.l0 : Nat → List Int → Int → Int → Option (Bool)
  | 0, _, _, _ => none
  | k + 1, x0, x1, x5 => if x5 < (x0.length : Int) then (if 0 ≤ x5 then (if (rd x0 x5) = x1 then (some true) else (spec_l2Has.l0 k x0 x1 (wrap64 (x5 + 1)))) else (none)) else (some false)
def spec_l2Has.f (k : Nat) (l0 : List Int) (a1 : Int) : Option (Bool) := spec_l2Has.l0 k l0 a1 0
def spec_SetEither.f (k : Nat) (l0 : List Int) (l1 : List Int) : Option (List Int) := (spec_l4Mix.f k l0 l1 1).bind fun r1 => some r1
mutual
def spec_l19Around.l1 : Nat → List Int → Int → List IVar → List IRule → List Int → List Int → Option (List Int)
  | 0, _, _, _, _, _, _ => none
  | k + 1, x7, x8q2, l0_0, l0_1, l1, l2 => if x8q2 < (l1.length : Int) then (if 0 ≤ x8q2 then (if x8q2 < (l1.length : Int) then ((spec_l2Has.f k x7 (rd l1 x8q2)).bind fun r1 => if r1 = true then (spec_l19Around.l1 k x7 (wrap64 (x8q2 + 1)) l0_0 l0_1 l1 l2) else (if 0 ≤ x8q2 then (if x8q2 < (l1.length : Int) then ((spec_l4State.f k l0_0 l0_1 (rd l1 x8q2)).bind fun r2 => (spec_l6State.f k l0_0 l0_1 r2).bind fun r3 => (spec_l16Wide.f k l0_0 l0_1 r3 l2).bind fun r4 => (spec_l16States.f k l0_0 l0_1 r4).bind fun r5 => (spec_SetEither.f k x7 r5).bind fun r6 => spec_l19Around.l1 k r6 (wrap64 (x8q2 + 1)) l0_0 l0_1 l1 l2) else none) else none)) else none) else none) else (some x7)
end
def spec_l19Around.f (k : Nat) (l0_0 : List IVar) (l0_1 : List IRule) (l1 : List Int) (l2 : List Int) : Option (List Int) := spec_l19Around.l1 k ([] : List Int) 0 l0_0 l0_1 l1 l2
def spec_Around.f (k : Nat) (l0_0 : List IVar) (l0_1 : List IRule) (l1 : List Int) (l2 : List Int) : Option ((List Int) × Bool) := (spec_SetValid.f k l0_0 l0_1 l1).bind fun r1 => if r1 = true then ((spec_SetValid.f k l0_0 l0_1 l2).bind fun r2 => if r2 = true then ((spec_SetBoth.f k l1 l2).bind fun r3 => if (r3.length : Int) > 0 then (some (([] : List Int), false)) else ((spec_l19Around.f k l0_0 l0_1 l1 l2).bind fun r4 => some (r4, true))) else (some (([] : List Int), false))) else (some (([] : List Int), false))
def impl_SetBoth_1.f (a0 : Bool) (a1 : Bool) : Option (Bool) := if a0 = true then (some a1) else (some false)
mutual
def loop_example_wholecheck_impl_setOf_at_impl_SetBoth_1.j0 : Nat → List Int → List Int → Bool → Option (List Int)
  | 0, _, _, _ => none
  | k + 1, x0, x1, x18 => if x18 = true then (some ([] : List Int)) else ((impl_marks.f k x0 400).bind fun t929 => ((impl_marks.f k x1 400).bind fun t932 => (if 400 ≤ 281474976710656 then ((some (List.replicate 400 false : List Bool)).bind fun y935 => (loop_example_wholecheck_impl_setOf_at_impl_SetBoth_1.l0 k t929 t932 y935 (y935.length : Int) 0)) else (none))))
def loop_example_wholecheck_impl_setOf_at_impl_SetBoth_1.l0 : Nat → List Bool → List Bool → List Bool → Int → Int → Option (List Int)
  | 0, _, _, _, _, _ => none
  | k + 1, x7, x8, x9, x25, x26 => if x26 < x25 then (if 0 ≤ x26 then (if x26 < (x7.length : Int) then (if x26 < (x8.length : Int) then ((impl_SetBoth_1.f (rdOf false x7 x26) (rdOf false x8 x26)).bind fun t940 => (if x26 < (x9.length : Int) then (loop_example_wholecheck_impl_setOf_at_impl_SetBoth_1.l0 k x7 x8 (x9.set (x26 : Int).toNat t940) x25 (wrap64 (x26 + 1))) else (none))) else (none)) else (none)) else (none)) else ((impl_listOf.f k x9).bind fun t942 => (some t942))
end
def loop_example_wholecheck_impl_setOf_at_impl_SetBoth_1.f (k : Nat) (l0 : List Int) (l1 : List Int)  : Option (List Int) := (impl_setOk.f k l0 400).bind fun t927 => (if t927 = true then ((impl_setOk.f k l1 400).bind fun t928 => (loop_example_wholecheck_impl_setOf_at_impl_SetBoth_1.j0 k l0 l1 (!t928))) else (loop_example_wholecheck_impl_setOf_at_impl_SetBoth_1.j0 k l0 l1 true))
def impl_SetBoth.f (k : Nat) (l0 : List Int) (l1 : List Int) : Option (List Int) := (loop_example_wholecheck_impl_setOf_at_impl_SetBoth_1.f k l0 l1).bind fun t945 => (some t945)
def laws_toVar.f (a0_0 : Int) (a0_1 : Int) (a0_2 : Int) : Option (Int × Int × Int) := some (a0_0, a0_1, a0_2)
def laws_toVarS.l0 : Nat → List (LVar) → List (IVar) → Int → Option ((List (IVar)))
  | 0, _, _, _ => none
  | k + 1, x0, x3, x4 => if x4 < (x0.length : Int) then (if 0 ≤ x4 then ((laws_toVar.f ((rd_LVar x0 x4).f0) ((rd_LVar x0 x4).f1) ((rd_LVar x0 x4).f2)).bind fun bt1345 => (if x4 < (x3.length : Int) then (laws_toVarS.l0 k x0 (x3.set (x4 : Int).toNat (⟨bt1345.1, bt1345.2.1, bt1345.2.2⟩ : IVar)) (wrap64 (x4 + 1))) else (none))) else (none)) else (some x3)
def laws_toVarS.f (k : Nat) (l0 : List (LVar)) : Option ((List (IVar))) := if 0 ≤ (l0.length : Int) then (if ((l0.length : Int) : Int).toNat ≤ 11728124029610 then (laws_toVarS.l0 k l0 (List.replicate ((l0.length : Int) : Int).toNat zIVar) 0) else (none)) else (none)
def laws_toIntS.l0 : Nat → List Int → List Int → Int → Option (List Int)
  | 0, _, _, _ => none
  | k + 1, x0, x3, x4 => if x4 < (x0.length : Int) then (if 0 ≤ x4 then (if x4 < (x3.length : Int) then (laws_toIntS.l0 k x0 (x3.set (x4 : Int).toNat (rd x0 x4)) (wrap64 (x4 + 1))) else (none)) else (none)) else (some x3)
def laws_toIntS.f (k : Nat) (l0 : List Int) : Option (List Int) := if 0 ≤ (l0.length : Int) then (if ((l0.length : Int) : Int).toNat ≤ 35184372088832 then (laws_toIntS.l0 k l0 (List.replicate ((l0.length : Int) : Int).toNat 0) 0) else (none)) else (none)
def laws_toTerm.f (a0_0 : Int) (a0_1 : Int) (a0_2 : Int) (a0_3 : Int) : Option (Int × Int × Int × Int) := some (a0_0, a0_1, a0_2, a0_3)
def laws_toTermS.l0 : Nat → List (LTerm) → List (ITerm) → Int → Option ((List (ITerm)))
  | 0, _, _, _ => none
  | k + 1, x0, x3, x4 => if x4 < (x0.length : Int) then (if 0 ≤ x4 then ((laws_toTerm.f ((rd_LTerm x0 x4).f0) ((rd_LTerm x0 x4).f1) ((rd_LTerm x0 x4).f2) ((rd_LTerm x0 x4).f3)).bind fun bt1361 => (if x4 < (x3.length : Int) then (laws_toTermS.l0 k x0 (x3.set (x4 : Int).toNat (⟨bt1361.1, bt1361.2.1, bt1361.2.2.1, bt1361.2.2.2⟩ : ITerm)) (wrap64 (x4 + 1))) else (none))) else (none)) else (some x3)
def laws_toTermS.f (k : Nat) (l0 : List (LTerm)) : Option ((List (ITerm))) := if 0 ≤ (l0.length : Int) then (if ((l0.length : Int) : Int).toNat ≤ 8796093022208 then (laws_toTermS.l0 k l0 (List.replicate ((l0.length : Int) : Int).toNat zITerm) 0) else (none)) else (none)
def laws_toTermSS.l0 : Nat → List (List (LTerm)) → List (List (ITerm)) → Int → Option ((List (List (ITerm))))
  | 0, _, _, _ => none
  | k + 1, x0, x3, x4 => if x4 < (x0.length : Int) then (if 0 ≤ x4 then ((laws_toTermS.f k (rd_LLTerm x0 x4)).bind fun t1370 => (if x4 < (x3.length : Int) then (laws_toTermSS.l0 k x0 (x3.set (x4 : Int).toNat t1370) (wrap64 (x4 + 1))) else (none))) else (none)) else (some x3)
def laws_toTermSS.f (k : Nat) (l0 : List (List (LTerm))) : Option ((List (List (ITerm)))) := if 0 ≤ (l0.length : Int) then (if ((l0.length : Int) : Int).toNat ≤ 11728124029610 then (laws_toTermSS.l0 k l0 (List.replicate ((l0.length : Int) : Int).toNat []) 0) else (none)) else (none)
def laws_toRule.f (k : Nat) (l0_0 : List (LTerm)) (l0_1 : List Int) (l0_2 : List (List (LTerm))) : Option ((List (ITerm)) × List Int × (List (List (ITerm)))) := (laws_toTermS.f k l0_0).bind fun t1377 => ((laws_toIntS.f k l0_1).bind fun t1380 => ((laws_toTermSS.f k l0_2).bind fun t1383 => (some (t1377, t1380, t1383))))
def laws_toRuleS.l0 : Nat → List (LRule) → List (IRule) → Int → Option ((List (IRule)))
  | 0, _, _, _ => none
  | k + 1, x0, x3, x4 => if x4 < (x0.length : Int) then (if 0 ≤ x4 then ((laws_toRule.f k ((rd_LRule x0 x4).f0) ((rd_LRule x0 x4).f1) ((rd_LRule x0 x4).f2)).bind fun bt1390 => (if x4 < (x3.length : Int) then (laws_toRuleS.l0 k x0 (x3.set (x4 : Int).toNat (⟨bt1390.1, bt1390.2.1, bt1390.2.2⟩ : IRule)) (wrap64 (x4 + 1))) else (none))) else (none)) else (some x3)
def laws_toRuleS.f (k : Nat) (l0 : List (LRule)) : Option ((List (IRule))) := if 0 ≤ (l0.length : Int) then (if ((l0.length : Int) : Int).toNat ≤ 3909374676536 then (laws_toRuleS.l0 k l0 (List.replicate ((l0.length : Int) : Int).toNat zIRule) 0) else (none)) else (none)
def laws_toSystem.f (k : Nat) (l0_0 : List (LVar)) (l0_1 : List (LRule)) : Option ((List (IVar)) × (List (IRule))) := (laws_toVarS.f k l0_0).bind fun t1403 => ((laws_toRuleS.f k l0_1).bind fun t1406 => (some (t1403, t1406)))
def laws_eqIntS.l0 : Nat → List Int → List Int → Int → Option (Bool)
  | 0, _, _, _ => none
  | k + 1, x0, x1, x5 => if x5 < (x0.length : Int) then (if 0 ≤ x5 then (if x5 < (x1.length : Int) then (if (rd x0 x5) = (rd x1 x5) then (laws_eqIntS.l0 k x0 x1 (wrap64 (x5 + 1))) else (some false)) else (none)) else (none)) else (some true)
def laws_eqIntS.f (k : Nat) (l0 : List Int) (l1 : List Int) : Option (Bool) := if (l0.length : Int) = (l1.length : Int) then (laws_eqIntS.l0 k l0 l1 0) else (some false)
def laws_eqVar.f (a0_0 : Int) (a0_1 : Int) (a0_2 : Int) (a1_0 : Int) (a1_1 : Int) (a1_2 : Int) : Option (Bool) := if a0_0 = a1_0 then (if a0_1 = a1_1 then (if a0_2 = a1_2 then (some true) else (some false)) else (some false)) else (some false)
def laws_eqVarS.l0 : Nat → List (IVar) → List (IVar) → Int → Option (Bool)
  | 0, _, _, _ => none
  | k + 1, x0, x1, x5 => if x5 < (x0.length : Int) then (if 0 ≤ x5 then (if x5 < (x1.length : Int) then ((laws_eqVar.f ((rd_IVar x0 x5).f0) ((rd_IVar x0 x5).f1) ((rd_IVar x0 x5).f2) ((rd_IVar x1 x5).f0) ((rd_IVar x1 x5).f1) ((rd_IVar x1 x5).f2)).bind fun t1422 => (if t1422 = true then (laws_eqVarS.l0 k x0 x1 (wrap64 (x5 + 1))) else (some false))) else (none)) else (none)) else (some true)
def laws_eqVarS.f (k : Nat) (l0 : List (IVar)) (l1 : List (IVar)) : Option (Bool) := if (l0.length : Int) = (l1.length : Int) then (laws_eqVarS.l0 k l0 l1 0) else (some false)
def laws_eqTerm.f (a0_0 : Int) (a0_1 : Int) (a0_2 : Int) (a0_3 : Int) (a1_0 : Int) (a1_1 : Int) (a1_2 : Int) (a1_3 : Int) : Option (Bool) := if a0_0 = a1_0 then (if a0_1 = a1_1 then (if a0_2 = a1_2 then (if a0_3 = a1_3 then (some true) else (some false)) else (some false)) else (some false)) else (some false)
def laws_eqTermS.l0 : Nat → List (ITerm) → List (ITerm) → Int → Option (Bool)
  | 0, _, _, _ => none
  | k + 1, x0, x1, x5 => if x5 < (x0.length : Int) then (if 0 ≤ x5 then (if x5 < (x1.length : Int) then ((laws_eqTerm.f ((rd_ITerm x0 x5).f0) ((rd_ITerm x0 x5).f1) ((rd_ITerm x0 x5).f2) ((rd_ITerm x0 x5).f3) ((rd_ITerm x1 x5).f0) ((rd_ITerm x1 x5).f1) ((rd_ITerm x1 x5).f2) ((rd_ITerm x1 x5).f3)).bind fun t1427 => (if t1427 = true then (laws_eqTermS.l0 k x0 x1 (wrap64 (x5 + 1))) else (some false))) else (none)) else (none)) else (some true)
def laws_eqTermS.f (k : Nat) (l0 : List (ITerm)) (l1 : List (ITerm)) : Option (Bool) := if (l0.length : Int) = (l1.length : Int) then (laws_eqTermS.l0 k l0 l1 0) else (some false)
def laws_eqTermSS.l0 : Nat → List (List (ITerm)) → List (List (ITerm)) → Int → Option (Bool)
  | 0, _, _, _ => none
  | k + 1, x0, x1, x5 => if x5 < (x0.length : Int) then (if 0 ≤ x5 then (if x5 < (x1.length : Int) then ((laws_eqTermS.f k (rd_LITerm x0 x5) (rd_LITerm x1 x5)).bind fun t1430 => (if t1430 = true then (laws_eqTermSS.l0 k x0 x1 (wrap64 (x5 + 1))) else (some false))) else (none)) else (none)) else (some true)
def laws_eqTermSS.f (k : Nat) (l0 : List (List (ITerm))) (l1 : List (List (ITerm))) : Option (Bool) := if (l0.length : Int) = (l1.length : Int) then (laws_eqTermSS.l0 k l0 l1 0) else (some false)
def laws_eqRule.f (k : Nat) (l0_0 : List (ITerm)) (l0_1 : List Int) (l0_2 : List (List (ITerm))) (l1_0 : List (ITerm)) (l1_1 : List Int) (l1_2 : List (List (ITerm))) : Option (Bool) := (laws_eqTermS.f k l0_0 l1_0).bind fun t1433 => (if t1433 = true then ((laws_eqIntS.f k l0_1 l1_1).bind fun t1434 => (if t1434 = true then ((laws_eqTermSS.f k l0_2 l1_2).bind fun t1435 => (if t1435 = true then (some true) else (some false))) else (some false))) else (some false))
def laws_eqRuleS.l0 : Nat → List (IRule) → List (IRule) → Int → Option (Bool)
  | 0, _, _, _ => none
  | k + 1, x0, x1, x5 => if x5 < (x0.length : Int) then (if 0 ≤ x5 then (if x5 < (x1.length : Int) then ((laws_eqRule.f k ((rd_IRule x0 x5).f0) ((rd_IRule x0 x5).f1) ((rd_IRule x0 x5).f2) ((rd_IRule x1 x5).f0) ((rd_IRule x1 x5).f1) ((rd_IRule x1 x5).f2)).bind fun t1438 => (if t1438 = true then (laws_eqRuleS.l0 k x0 x1 (wrap64 (x5 + 1))) else (some false))) else (none)) else (none)) else (some true)
def laws_eqRuleS.f (k : Nat) (l0 : List (IRule)) (l1 : List (IRule)) : Option (Bool) := if (l0.length : Int) = (l1.length : Int) then (laws_eqRuleS.l0 k l0 l1 0) else (some false)
def laws_eqSystem.f (k : Nat) (l0_0 : List (IVar)) (l0_1 : List (IRule)) (l1_0 : List (IVar)) (l1_1 : List (IRule)) : Option (Bool) := (laws_eqVarS.f k l0_0 l1_0).bind fun t1441 => (if t1441 = true then ((laws_eqRuleS.f k l0_1 l1_1).bind fun t1442 => (if t1442 = true then (some true) else (some false))) else (some false))
def spec_l40Open.f (k : Nat) (l0 : List Int) : Option (List Int × Int) := if (l0.length : Int) > 2000 then (if 2000 ≤ (l0.length : Int) then (some ((l0.take (2000 : Int).toNat), 0)) else none) else (some (l0, 0))
def spec_l2Any.f (k : Nat) (l0_0 : List Int) (a0_1 : Int) (a1 : Int) : Option (Int × (List IVar × List IRule)) := (spec_l2System.f k l0_0 a0_1 a1).bind fun r1 => (spec_l40Rd_pick.f k l0_0 r1.1 14).bind fun r2 => if r2.2 = 0 then ((spec_l40Rd_pick.f k l0_0 r2.1 6).bind fun r3 => if r3.2 = 0 then (if 0 < (r1.2.1.length : Int) then (if 0 < (r1.2.1.length : Int) then (some (r3.1, (r1.2.1.set (0 : Int).toNat (⟨(rd_IVar r1.2.1 (0 : Int)).f0, (rd_IVar r1.2.1 (0 : Int)).f1, (wrap64 (((rd_IVar r1.2.1 (0 : Int)).f1) + 1))⟩ : IVar), r1.2.2))) else none) else none) else (if r3.2 = 1 then (if 0 < (r1.2.1.length : Int) then ((spec_l40Rd_num.f k l0_0 r3.1 [(-1), 20, 19]).bind fun r4 => if 0 < (r1.2.1.length : Int) then (some (r4.1, (r1.2.1.set (0 : Int).toNat (⟨(rd_IVar r1.2.1 (0 : Int)).f0, (wrap64 (((rd_IVar r1.2.1 (0 : Int)).f0) + r4.2)), (rd_IVar r1.2.1 (0 : Int)).f2⟩ : IVar), r1.2.2))) else none) else none) else (if r3.2 = 2 then (if (r1.2.2.length : Int) > 0 then ((spec_l2Const.f 1).bind fun r5 => some (r3.1, (r1.2.1, ((⟨[(⟨r5.1, r5.2.1, r5.2.2.1, r5.2.2.2⟩ : ITerm)], (r1.2.2.getD 0 (zIRule : IRule)).f1, (r1.2.2.getD 0 (zIRule : IRule)).f2⟩ : IRule) :: r1.2.2.tail)))) else (if r3.2 = 3 then (if (r1.2.2.length : Int) > 0 then (if ((r1.2.2.getD 0 (zIRule : IRule)).f1).length + 1 ≤ 1099511627776 then (some (r3.1, (r1.2.1, ((⟨(r1.2.2.getD 0 (zIRule : IRule)).f0, (((r1.2.2.getD 0 (zIRule : IRule)).f1) ++ [(r1.2.1.length : Int)]), (r1.2.2.getD 0 (zIRule : IRule)).f2⟩ : IRule) :: r1.2.2.tail)))) else none) else (if r3.2 = 4 then (some (r3.1, (([] : List IVar), r1.2.2))) else (if (r1.2.2.length : Int) > 0 then ((spec_l2Const.f 0).bind fun r6 => if ((r1.2.2.getD 0 (zIRule : IRule)).f2).length + 1 ≤ 1099511627776 then (some (r3.1, (r1.2.1, ((⟨(r1.2.2.getD 0 (zIRule : IRule)).f0, (r1.2.2.getD 0 (zIRule : IRule)).f1, (((r1.2.2.getD 0 (zIRule : IRule)).f2) ++ [[(⟨r6.1, r6.2.1, r6.2.2.1, r6.2.2.2⟩ : ITerm)]])⟩ : IRule) :: r1.2.2.tail)))) else none) else (some (r3.1, (r1.2.1, r1.2.2)))))) else (if r3.2 = 4 then (some (r3.1, (([] : List IVar), r1.2.2))) else (if (r1.2.2.length : Int) > 0 then ((spec_l2Const.f 0).bind fun r7 => if ((r1.2.2.getD 0 (zIRule : IRule)).f2).length + 1 ≤ 1099511627776 then (some (r3.1, (r1.2.1, ((⟨(r1.2.2.getD 0 (zIRule : IRule)).f0, (r1.2.2.getD 0 (zIRule : IRule)).f1, (((r1.2.2.getD 0 (zIRule : IRule)).f2) ++ [[(⟨r7.1, r7.2.1, r7.2.2.1, r7.2.2.2⟩ : ITerm)]])⟩ : IRule) :: r1.2.2.tail)))) else none) else (some (r3.1, (r1.2.1, r1.2.2))))))) else (if r3.2 = 3 then (if (r1.2.2.length : Int) > 0 then (if ((r1.2.2.getD 0 (zIRule : IRule)).f1).length + 1 ≤ 1099511627776 then (some (r3.1, (r1.2.1, ((⟨(r1.2.2.getD 0 (zIRule : IRule)).f0, (((r1.2.2.getD 0 (zIRule : IRule)).f1) ++ [(r1.2.1.length : Int)]), (r1.2.2.getD 0 (zIRule : IRule)).f2⟩ : IRule) :: r1.2.2.tail)))) else none) else (if r3.2 = 4 then (some (r3.1, (([] : List IVar), r1.2.2))) else (if (r1.2.2.length : Int) > 0 then ((spec_l2Const.f 0).bind fun r8 => if ((r1.2.2.getD 0 (zIRule : IRule)).f2).length + 1 ≤ 1099511627776 then (some (r3.1, (r1.2.1, ((⟨(r1.2.2.getD 0 (zIRule : IRule)).f0, (r1.2.2.getD 0 (zIRule : IRule)).f1, (((r1.2.2.getD 0 (zIRule : IRule)).f2) ++ [[(⟨r8.1, r8.2.1, r8.2.2.1, r8.2.2.2⟩ : ITerm)]])⟩ : IRule) :: r1.2.2.tail)))) else none) else (some (r3.1, (r1.2.1, r1.2.2)))))) else (if r3.2 = 4 then (some (r3.1, (([] : List IVar), r1.2.2))) else (if (r1.2.2.length : Int) > 0 then ((spec_l2Const.f 0).bind fun r9 => if ((r1.2.2.getD 0 (zIRule : IRule)).f2).length + 1 ≤ 1099511627776 then (some (r3.1, (r1.2.1, ((⟨(r1.2.2.getD 0 (zIRule : IRule)).f0, (r1.2.2.getD 0 (zIRule : IRule)).f1, (((r1.2.2.getD 0 (zIRule : IRule)).f2) ++ [[(⟨r9.1, r9.2.1, r9.2.2.1, r9.2.2.2⟩ : ITerm)]])⟩ : IRule) :: r1.2.2.tail)))) else none) else (some (r3.1, (r1.2.1, r1.2.2))))))))) else (some (r2.1, (r1.2.1, r1.2.2)))
def impl_hasNone.f (k : Nat) (l0 : List (List Int)) : Option (List (List Int)) := some l0
def impl_cubesOf_1.f (k : Nat) (l0 : List Int) (l1 : List Int) : Option Bool := (impl_cubeHas.f k l0 l1).bind fun r1 => some r1
mutual
def slices_IndexFunc_int_int_at_impl_cubesOf_1.l1 : Nat → Int → List (List Int) → List Int → Option Int
  | 0, _, _, _ => none
  | k + 1, x8, l0, l2 => if x8 < (l0.length : Int) then (if 0 ≤ x8 then (if x8 < (l0.length : Int) then ((impl_cubesOf_1.f k (rd_Lint l0 x8) l2).bind fun r1 => if r1 = true then (some x8) else (slices_IndexFunc_int_int_at_impl_cubesOf_1.l1 k (wrap64 (x8 + 1)) l0 l2)) else none) else none) else (some (-1))
end
def slices_IndexFunc_int_int_at_impl_cubesOf_1.f (k : Nat) (l0 : List (List Int)) (l2 : List Int) : Option Int := slices_IndexFunc_int_int_at_impl_cubesOf_1.l1 k 0 l0 l2
def slices_ContainsFunc_int_int_at_impl_cubesOf_1.f (k : Nat) (l0 : List (List Int)) (l2 : List Int) : Option Bool := (slices_IndexFunc_int_int_at_impl_cubesOf_1.f k l0 l2).bind fun r1 => some (decide (r1 ≥ 0))
def impl_hasNone_1_1.f (k : Nat) (l0 : List Int) (l1 : List Int) : Option Bool := (impl_cubeHas.f k l1 l0).bind fun r1 => some r1
mutual
def slices_IndexFunc_int_int_at_impl_hasNone_1_1.l1 : Nat → Int → List (List Int) → List Int → Option Int
  | 0, _, _, _ => none
  | k + 1, x8, l0, l2 => if x8 < (l0.length : Int) then (if 0 ≤ x8 then (if x8 < (l0.length : Int) then ((impl_hasNone_1_1.f k (rd_Lint l0 x8) l2).bind fun r1 => if r1 = true then (some x8) else (slices_IndexFunc_int_int_at_impl_hasNone_1_1.l1 k (wrap64 (x8 + 1)) l0 l2)) else none) else none) else (some (-1))
end
def slices_IndexFunc_int_int_at_impl_hasNone_1_1.f (k : Nat) (l0 : List (List Int)) (l2 : List Int) : Option Int := slices_IndexFunc_int_int_at_impl_hasNone_1_1.l1 k 0 l0 l2
def slices_ContainsFunc_int_int_at_impl_hasNone_1_1.f (k : Nat) (l0 : List (List Int)) (l2 : List Int) : Option Bool := (slices_IndexFunc_int_int_at_impl_hasNone_1_1.f k l0 l2).bind fun r1 => some (decide (r1 ≥ 0))
def impl_hasNone_1.f (k : Nat) (l0 : List Int) (l1 : List (List Int)) : Option Bool := (slices_ContainsFunc_int_int_at_impl_hasNone_1_1.f k l1 l0).bind fun r1 => some (!r1)
mutual
def impl_widened_at_impl_hasNone_1.l1 : Nat → List Int → Int → List Int → List (List Int) → Option (List Int)
  | 0, _, _, _, _ => none
  | k + 1, x5, x12, l0, l2 => if x12 < (l0.length : Int) then (if 0 ≤ x12 then (if x12 < (l0.length : Int) then (if 0 ≤ x12 then (if x12 < (x5.length : Int) then ((impl_hasNone_1.f k (x5.set x12.toNat 2) l2).bind fun r2 => if r2 = true then (impl_widened_at_impl_hasNone_1.l1 k (x5.set x12.toNat 2) (wrap64 (x12 + 1)) l0 l2) else (if 0 ≤ x12 then (if x12 < ((x5.set x12.toNat 2).length : Int) then (impl_widened_at_impl_hasNone_1.l1 k ((x5.set x12.toNat 2).set x12.toNat (rd l0 x12)) (wrap64 (x12 + 1)) l0 l2) else none) else none)) else none) else none) else none) else none) else (some x5)
end
def impl_widened_at_impl_hasNone_1.f (k : Nat) (l0 : List Int) (l2 : List (List Int)) : Option (List Int) := (impl_clone_int.f l0).bind fun r1 => impl_widened_at_impl_hasNone_1.l1 k r1 0 l0 l2
mutual
def impl_cubesOf.l1 : Nat → List (List Int) → Int → (List (List Int)) → (List (List Int)) → Option (List (List Int))
  | 0, _, _, _, _ => none
  | k + 1, x7, x19, r2, r3 => if x19 < (r3.length : Int) then (if 0 ≤ x19 then (if x19 < (r3.length : Int) then ((slices_ContainsFunc_int_int_at_impl_cubesOf_1.f k x7 (rd_Lint r3 x19)).bind fun r4 => if r4 = true then (impl_cubesOf.l1 k x7 (wrap64 (x19 + 1)) r2 r3) else ((impl_widened_at_impl_hasNone_1.f k (rd_Lint r3 x19) r2).bind fun r5 => if x7.length + 1 ≤ 1099511627776 then (impl_cubesOf.l1 k (x7 ++ [r5]) (wrap64 (x19 + 1)) r2 r3) else none)) else none) else none) else ((impl_clone_Lint.f x7).bind fun r6 => some r6)
end
def impl_cubesOf.f (k : Nat) (l0_0 : List IVar) (l0_1 : List IRule) (l1 : List Int) (l2 : List Int) : Option (List (List Int)) := (impl_allBits.f k l0_0 l0_1 l2).bind fun r1 => (impl_hasNone.f k r1).bind fun r2 => (impl_allBits.f k l0_0 l0_1 l1).bind fun r3 => impl_cubesOf.l1 k ([] : List (List Int)) 0 r2 r3
mutual
def spec_DrawAround.j1 : Nat → List Int → Int × (List IVar × List IRule) → Int × (List Int) → Option ((List IVar × List IRule) × (List Int) × (List Int))
  | 0, _, _, _ => none
  | k + 1, x8q2, r2, r3 => some ((r2.2.1, r2.2.2), r3.2, x8q2)
def spec_DrawAround.j2 : Nat → List Int → Int × (List IVar × List IRule) → Int × (List Int) → Option ((List IVar × List IRule) × (List Int) × (List Int))
  | 0, _, _, _ => none
  | k + 1, x8q3, r2, r3 => spec_DrawAround.j1 k x8q3 r2 r3
end
def spec_DrawAround.f (k : Nat) (l0 : List Int) : Option ((List IVar × List IRule) × (List Int) × (List Int)) := (spec_l40Open.f k l0).bind fun r1 => (spec_l2Any.f k r1.1 r1.2 24).bind fun r2 => (spec_l4Some.f k r1.1 r2.1 r2.2.1 r2.2.2).bind fun r3 => (spec_l4Some.f k r1.1 r3.1 r2.2.1 r2.2.2).bind fun r4 => (spec_SetValid.f k r2.2.1 r2.2.2 r3.2).bind fun r5 => if r5 = true then ((spec_SetValid.f k r2.2.1 r2.2.2 r4.2).bind fun r6 => if r6 = true then ((spec_l40Rd_pick.f k r1.1 r4.1 4).bind fun r7 => if r7.2 > 0 then ((spec_SetWithout.f k r4.2 r3.2).bind fun r8 => spec_DrawAround.j2 k r8 r2 r3) else (spec_DrawAround.j2 k r4.2 r2 r3)) else (spec_DrawAround.j1 k r4.2 r2 r3)) else (spec_DrawAround.j1 k r4.2 r2 r3)
def impl_Around_1.f (k : Nat) (a0 : Int) (l1 : List Int) : Option Bool := (slices_Contains_int_int.f k l1 a0).bind fun r1 => some r1
mutual
def slices_IndexFunc_int_int_at_impl_Around_1.l1 : Nat → Int → List Int → List Int → Option Int
  | 0, _, _, _ => none
  | k + 1, x8, l0, l2 => if x8 < (l0.length : Int) then (if 0 ≤ x8 then (if x8 < (l0.length : Int) then ((impl_Around_1.f k (rd l0 x8) l2).bind fun r1 => if r1 = true then (some x8) else (slices_IndexFunc_int_int_at_impl_Around_1.l1 k (wrap64 (x8 + 1)) l0 l2)) else none) else none) else (some (-1))
end
def slices_IndexFunc_int_int_at_impl_Around_1.f (k : Nat) (l0 : List Int) (l2 : List Int) : Option Int := slices_IndexFunc_int_int_at_impl_Around_1.l1 k 0 l0 l2
def slices_ContainsFunc_int_int_at_impl_Around_1.f (k : Nat) (l0 : List Int) (l2 : List Int) : Option Bool := (slices_IndexFunc_int_int_at_impl_Around_1.f k l0 l2).bind fun r1 => some (decide (r1 ≥ 0))
mutual
def impl_around.l2 : Nat → List Bool → Int → List IVar → List IRule → (List (List Int)) → Int → (List Int) → Option (List Bool)
  | 0, _, _, _, _, _, _, _ => none
  | k + 1, x7q3, x29q2, l0_0, l0_1, r2, x21, r3 => if x29q2 < (r3.length : Int) then (if 0 ≤ x29q2 then (if x29q2 < (r3.length : Int) then (if 0 ≤ (rd r3 x29q2) then (if (rd r3 x29q2) < (x7q3.length : Int) then (impl_around.l2 k (x7q3.set (rd r3 x29q2).toNat true) (wrap64 (x29q2 + 1)) l0_0 l0_1 r2 x21 r3) else none) else none) else none) else none) else (impl_around.l1 k x7q3 (wrap64 (x21 + 1)) l0_0 l0_1 r2)
def impl_around.l1 : Nat → List Bool → Int → List IVar → List IRule → (List (List Int)) → Option (List Bool)
  | 0, _, _, _, _, _ => none
  | k + 1, x7q2, x21, l0_0, l0_1, r2 => if x21 < (r2.length : Int) then (if 0 ≤ x21 then (if x21 < (r2.length : Int) then ((impl_cubeStates.f k l0_0 l0_1 (rd_Lint r2 x21)).bind fun r3 => impl_around.l2 k x7q2 0 l0_0 l0_1 r2 x21 r3) else none) else none) else (some x7q2)
end
def impl_around.f (k : Nat) (l0_0 : List IVar) (l0_1 : List IRule) (l1 : List Int) (l2 : List Int) : Option (List Bool) := (impl_size.f k l0_0).bind fun r1 => if 0 ≤ r1 then (if r1 ≤ 1099511627776 then ((impl_cubesOf.f k l0_0 l0_1 l1 l2).bind fun r2 => impl_around.l1 k (List.replicate r1.toNat false) 0 l0_0 l0_1 r2) else none) else none
def impl_Around.f (k : Nat) (l0_0 : List IVar) (l0_1 : List IRule) (l1 : List Int) (l2 : List Int) : Option ((List Int) × Bool) := (impl_SetValid.f k l0_0 l0_1 l1).bind fun r1 => if r1 = true then ((impl_size.f k l0_0).bind fun r2 => (impl_setOk.f k l2 r2).bind fun r3 => if r3 = true then ((slices_ContainsFunc_int_int_at_impl_Around_1.f k l1 l2).bind fun r4 => if r4 = true then (some (([] : List Int), false)) else ((impl_around.f k l0_0 l0_1 l1 l2).bind fun r5 => (impl_listOf.f k r5).bind fun r6 => some (r6, true))) else (some (([] : List Int), false))) else (some (([] : List Int), false))
def laws_FnAround.f (k : Nat) (l0 : List Int) : Option Bool := if (l0.length : Int) > 1048576 then (some true) else ((spec_DrawAround.f k l0).bind fun r1 => (impl_Around.f k r1.1.1 r1.1.2 r1.2.1 r1.2.2).bind fun r2 => (spec_Around.f k r1.1.1 r1.1.2 r1.2.1 r1.2.2).bind fun r3 => if r2.2 ≠ r3.2 then (some false) else ((laws_wcInts.f k r2.1 r3.1).bind fun r4 => if r4 = true then ((impl_SetValid.f k r1.1.1 r1.1.2 r1.2.1).bind fun r5 => (spec_SetValid.f k r1.1.1 r1.1.2 r1.2.1).bind fun r6 => if r5 ≠ r6 then (some false) else (if r2.2 = true then (if r2.2 = true then ((impl_SetWithout.f k r1.2.1 r2.1).bind fun r7 => if (r7.length : Int) = 0 then ((impl_SetBoth.f k r2.1 r1.2.2).bind fun r8 => some ((r8.length : Int) == 0)) else (some false)) else (some false)) else (if (r2.1.length : Int) = 0 then (some true) else (if r2.2 = true then ((impl_SetWithout.f k r1.2.1 r2.1).bind fun r9 => if (r9.length : Int) = 0 then ((impl_SetBoth.f k r2.1 r1.2.2).bind fun r10 => some ((r10.length : Int) == 0)) else (some false)) else (some false))))) else (some false)))
end Go.Proofs.Ytpjmiaooogephaa.PA
