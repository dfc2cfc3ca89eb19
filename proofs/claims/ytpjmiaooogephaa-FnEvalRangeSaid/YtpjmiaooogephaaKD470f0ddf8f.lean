/- Types and the Lean functions that the walks are told against. No conditions. -/
import Derived.Test.YtpjmiaooogephaaProg
import Derived.Below
import Derived.Deep.Draws
import Derived.Deep.AppendLies
import Derived.Maps.AppendAt
import Derived.OwnWalk
import Derived.Laws.BytesArg
import Derived.Laws.MakeOwn
import Derived.Laws.OwnMore
import Derived.Deep.OwnRows
import Derived.Tactics
import Derived.Lib.ConvBytes
import Derived.Laws.Slices
import Derived.WalkKit
import Derived.KernelRfl
import Derived.RowKit3
import Derived.Deep.LoopGhost
import Derived.Deep.QuietTactic
import Derived.BigQuiet
import Derived.WideLaws
import Derived.Deep.DeepCutAuto
import Derived.Deep.CutBlock
import Derived.Deep.RegionHeld3
import Derived.Laws.Rows
import Derived.Lib.AppendStr
import Derived.ArgAppend
import Derived.Laws.IdiomCopy
import Derived.OrdersHeld
import Derived.Laws.BitsLemmas
import Derived.RowKit
import Derived.Laws.StructEq
import Derived.Lib.SliceRun
import Derived.WalkSpells
import Derived.ChangeArms
import Derived.ChangeSlices
import Derived.Deep.Slices
import Derived.Test.YtpjmiaooogephaaKW9f4b652fda
namespace Go.Proofs.Ytpjmiaooogephaa.PA
open Go.RowKit Go.Proofs.YtpjmiaooogephaaW.PrintWords Go.Proofs.YtpjmiaooogephaaW.PrintLast Go.Proofs.YtpjmiaooogephaaW.PrintMore
attribute [local go_sem] max2_int min2_int max_two min_two max_three min_three max_four min_four   -- for this text's walks alone
set_option linter.unusedVariables false
set_option linter.unusedSimpArgs false
structure LVar where
  f0 : Int
  f1 : Int
  f2 : Int
def zLVar : LVar := ⟨(0 : Int), (0 : Int), (0 : Int)⟩
def rd_LVar (xs : List LVar) (i : Int) : LVar := xs.getD i.toNat zLVar
structure LTerm where
  f0 : Int
  f1 : Int
  f2 : Int
  f3 : Int
def zLTerm : LTerm := ⟨(0 : Int), (0 : Int), (0 : Int), (0 : Int)⟩
def rd_LTerm (xs : List LTerm) (i : Int) : LTerm := xs.getD i.toNat zLTerm
def rd_LLTerm (xs : List (List LTerm)) (i : Int) : (List LTerm) := xs.getD i.toNat ([] : List LTerm)
def rd_Lint (xs : List (List Int)) (i : Int) : (List Int) := xs.getD i.toNat ([] : List Int)
structure LRule where
  f0 : (List LTerm)
  f1 : (List Int)
  f2 : (List (List LTerm))
def zLRule : LRule := ⟨([] : List LTerm), ([] : List Int), ([] : List (List LTerm))⟩
def rd_LRule (xs : List LRule) (i : Int) : LRule := xs.getD i.toNat zLRule
structure ITerm where
  f0 : Int
  f1 : Int
  f2 : Int
  f3 : Int
def zITerm : ITerm := ⟨(0 : Int), (0 : Int), (0 : Int), (0 : Int)⟩
def rd_ITerm (xs : List ITerm) (i : Int) : ITerm := xs.getD i.toNat zITerm
structure IVar where
  f0 : Int
  f1 : Int
  f2 : Int
def zIVar : IVar := ⟨(0 : Int), (0 : Int), (0 : Int)⟩
def rd_IVar (xs : List IVar) (i : Int) : IVar := xs.getD i.toNat zIVar
def rd_LITerm (xs : List (List ITerm)) (i : Int) : (List ITerm) := xs.getD i.toNat ([] : List ITerm)
structure IRule where
  f0 : (List ITerm)
  f1 : (List Int)
  f2 : (List (List ITerm))
def zIRule : IRule := ⟨([] : List ITerm), ([] : List Int), ([] : List (List ITerm))⟩
def rd_IRule (xs : List IRule) (i : Int) : IRule := xs.getD i.toNat zIRule
structure Ispan where
  f0 : Int
  f1 : Int
def zIspan : Ispan := ⟨(0 : Int), (0 : Int)⟩
def rd_Ispan (xs : List Ispan) (i : Int) : Ispan := xs.getD i.toNat zIspan
def spec_l40Rd_pick.f (k : Nat) (l0_0 : List Int) (a0_1 : Int) (a1 : Int) : Option (Int × Int) := if a1 < 1 then (some ((wrap64 (a0_1 + 1)), 0)) else (if (l0_0.length : Int) = 0 then (some ((wrap64 (a0_1 + 1)), 0)) else (if (wrap64 ((wrap64 (a0_1 + 1)) - 1)) < (l0_0.length : Int) then (if 0 ≤ (wrap64 ((wrap64 (a0_1 + 1)) - 1)) then (if (wrap64 ((wrap64 (a0_1 + 1)) - 1)) < (l0_0.length : Int) then (if a1 ≠ 0 then (some ((wrap64 (a0_1 + 1)), (Int.tmod (wrap64 (rd l0_0 (wrap64 ((wrap64 (a0_1 + 1)) - 1)))) a1))) else none) else none) else none) else (if (l0_0.length : Int) ≠ 0 then (if 0 ≤ (Int.tmod (wrap64 ((wrap64 (a0_1 + 1)) - 1)) (l0_0.length : Int)) then (if (Int.tmod (wrap64 ((wrap64 (a0_1 + 1)) - 1)) (l0_0.length : Int)) < (l0_0.length : Int) then (if (l0_0.length : Int) ≠ 0 then (if 0 ≤ (Int.tmod (wrap64 ((wrap64 ((wrap64 ((wrap64 (a0_1 + 1)) - 1)) * 7)) + 3)) (l0_0.length : Int)) then (if (Int.tmod (wrap64 ((wrap64 ((wrap64 ((wrap64 (a0_1 + 1)) - 1)) * 7)) + 3)) (l0_0.length : Int)) < (l0_0.length : Int) then (if (l0_0.length : Int) ≠ 0 then (if a1 ≠ 0 then (some ((wrap64 (a0_1 + 1)), (Int.tmod (Go.bits .xor .i64 (wrap64 ((wrap64 ((wrap64 ((wrap64 ((wrap64 (rd l0_0 (Int.tmod (wrap64 ((wrap64 (a0_1 + 1)) - 1)) (l0_0.length : Int)))) * 131)) + (wrap64 ((wrap64 (rd l0_0 (Int.tmod (wrap64 ((wrap64 ((wrap64 ((wrap64 (a0_1 + 1)) - 1)) * 7)) + 3)) (l0_0.length : Int)))) * 1117)))) + (wrap64 ((wrap64 ((wrap64 (a0_1 + 1)) - 1)) * 29)))) + (wrap64 ((wrap64 (Int.tdiv (wrap64 ((wrap64 (a0_1 + 1)) - 1)) (l0_0.length : Int))) * 53)))) (wrap64 (Int.tdiv (wrap64 ((wrap64 ((wrap64 ((wrap64 ((wrap64 (rd l0_0 (Int.tmod (wrap64 ((wrap64 (a0_1 + 1)) - 1)) (l0_0.length : Int)))) * 131)) + (wrap64 ((wrap64 (rd l0_0 (Int.tmod (wrap64 ((wrap64 ((wrap64 ((wrap64 (a0_1 + 1)) - 1)) * 7)) + 3)) (l0_0.length : Int)))) * 1117)))) + (wrap64 ((wrap64 ((wrap64 (a0_1 + 1)) - 1)) * 29)))) + (wrap64 ((wrap64 (Int.tdiv (wrap64 ((wrap64 (a0_1 + 1)) - 1)) (l0_0.length : Int))) * 53)))) 64))) a1))) else none) else none) else none) else none) else none) else none) else none) else none)))
def spec_l40Rd_num.f (k : Nat) (l0_0 : List Int) (a0_1 : Int) (l1 : List Int) : Option (Int × Int) := (spec_l40Rd_pick.f k l0_0 a0_1 (l1.length : Int)).bind fun r1 => if 0 ≤ r1.2 then (if r1.2 < (l1.length : Int) then (some (r1.1, (rd l1 r1.2))) else none) else none
def spec_l1In.f (a0 : Int) (a1 : Int) (a2 : Int) : Option (Bool) := if a0 ≥ a1 then (some (decide (a0 ≤ a2))) else (some false)
def spec_l1One.f (a0 : Int) : Option (Bool) := some (a0 == 7)
mutual
def spec_l1Kind.j0 : Nat → List Int → Int → Bool → Int → Int → Int → Int → Option (Int)
  | 0, _, _, _, _, _, _, _ => none
  | k + 1, x1, x2, x25, x137000, x137001, x137002, x137003 => if x25 = true then (some 1) else (if x137000 = 1 then ((spec_l1In.f x137001 0 (wrap64 (x2 - 1))).bind fun t138 => (if t138 = true then (if x137002 = 0 then (spec_l1Kind.j1 k x1 (x137003 == 0) x137000 x137001 x137002 x137003) else (spec_l1Kind.j1 k x1 false x137000 x137001 x137002 x137003)) else (spec_l1Kind.j1 k x1 false x137000 x137001 x137002 x137003))) else (spec_l1Kind.j1 k x1 false x137000 x137001 x137002 x137003))
def spec_l1Kind.j1 : Nat → List Int → Bool → Int → Int → Int → Int → Option (Int)
  | 0, _, _, _, _, _, _ => none
  | k + 1, x1, x45, x137000, x137001, x137002, x137003 => if x45 = true then (some 1) else ((spec_l1In.f x137000 2 9).bind fun t139 => (if t139 = true then (if x137001 = 0 then ((spec_l1In.f x137002 0 (wrap64 ((x1.length : Int) - 1))).bind fun t140 => (if t140 = true then ((spec_l1In.f x137003 0 (wrap64 ((x1.length : Int) - 1))).bind fun t141 => (spec_l1Kind.j2 k x1 (!t141) x137000 x137001 x137002 x137003)) else (spec_l1Kind.j2 k x1 true x137000 x137001 x137002 x137003))) else (spec_l1Kind.j2 k x1 true x137000 x137001 x137002 x137003)) else (spec_l1Kind.j2 k x1 true x137000 x137001 x137002 x137003)))
def spec_l1Kind.j2 : Nat → List Int → Bool → Int → Int → Int → Int → Option (Int)
  | 0, _, _, _, _, _, _ => none
  | k + 1, x1, x72, x137000, x137001, x137002, x137003 => if x72 = true then (some 0) else (if x137000 ≥ 7 then (spec_l1Kind.j3 k x1 2 x137000 x137001 x137002 x137003) else (spec_l1Kind.j3 k x1 1 x137000 x137001 x137002 x137003))
def spec_l1Kind.j3 : Nat → List Int → Int → Int → Int → Int → Int → Option (Int)
  | 0, _, _, _, _, _, _ => none
  | k + 1, x1, x7, x137000, x137001, x137002, x137003 => if 0 ≤ x137002 then (if x137002 < (x1.length : Int) then (if (rd x1 x137002) = x7 then (if 0 ≤ x137003 then (if x137003 < (x1.length : Int) then (if (rd x1 x137003) = x7 then ((spec_l1One.f x137000).bind fun t144 => (if t144 = true then (spec_l1Kind.j4 k (x137003 != x137002) x137000 x137001 x137002 x137003) else (spec_l1Kind.j4 k false x137000 x137001 x137002 x137003))) else (spec_l1Kind.j4 k true x137000 x137001 x137002 x137003)) else (none)) else (none)) else (spec_l1Kind.j4 k true x137000 x137001 x137002 x137003)) else (none)) else (none)
def spec_l1Kind.j4 : Nat → Bool → Int → Int → Int → Int → Option (Int)
  | 0, _, _, _, _, _ => none
  | k + 1, x103, x137000, x137001, x137002, x137003 => if x103 = true then (some 0) else (if x137000 ≥ 5 then (some 2) else (some 1))
end
def spec_l1Kind.f (k : Nat) (a0_0 : Int) (a0_1 : Int) (a0_2 : Int) (a0_3 : Int) (l1 : List Int) (a2 : Int) : Option (Int) := if a0_0 = 0 then ((spec_l1In.f a0_1 (-9999) 9999).bind fun t137 => (if t137 = true then (if a0_2 = 0 then (spec_l1Kind.j0 k l1 a2 (a0_3 == 0) a0_0 a0_1 a0_2 a0_3) else (spec_l1Kind.j0 k l1 a2 false a0_0 a0_1 a0_2 a0_3)) else (spec_l1Kind.j0 k l1 a2 false a0_0 a0_1 a0_2 a0_3))) else (spec_l1Kind.j0 k l1 a2 false a0_0 a0_1 a0_2 a0_3)
mutual
def spec_KindsOf.j0 : Nat → List (ITerm) → Int → Bool → Option (List Int)
  | 0, _, _, _ => none
  | k + 1, x0, x1, x16 => if x16 = true then (some ([] : List Int)) else (spec_KindsOf.l0 k x0 x1 (([] : List Int)) 0)
def spec_KindsOf.l0 : Nat → List (ITerm) → Int → List Int → Int → Option (List Int)
  | 0, _, _, _, _ => none
  | k + 1, x0, x1, x5, x6 => if x6 < (x0.length : Int) then (if 0 ≤ x6 then ((spec_l1Kind.f k ((rd_ITerm x0 x6).f0) ((rd_ITerm x0 x6).f1) ((rd_ITerm x0 x6).f2) ((rd_ITerm x0 x6).f3) x5 x1).bind fun t151 => (if t151 = 0 then (some ([] : List Int)) else (if x5.length < 17592186044416 then (spec_KindsOf.l0 k x0 x1 (x5 ++ [t151]) (wrap64 (x6 + 1))) else (none)))) else (none)) else (some x5)
end
def spec_KindsOf.f (k : Nat) (l0 : List (ITerm)) (a1 : Int) : Option (List Int) := (spec_l1In.f a1 0 5).bind fun t145 => (if t145 = true then ((spec_l1In.f (l0.length : Int) 1 40).bind fun t146 => (spec_KindsOf.j0 k l0 a1 (!t146))) else (spec_KindsOf.j0 k l0 a1 true))
def spec_TermsValid.f (k : Nat) (l0 : List (ITerm)) (a1 : Int) : Option (Bool) := (spec_KindsOf.f k l0 a1).bind fun t155 => (some (decide ((t155.length : Int) > 0)))
def spec_l1Number.f (k : Nat) (l0_0 : List Int) (a0_1 : Int) : Option (Int × Int) := (spec_l40Rd_pick.f k l0_0 a0_1 4).bind fun r1 => (spec_l40Rd_pick.f k l0_0 r1.1 4).bind fun r2 => (spec_l40Rd_pick.f k l0_0 r2.1 7).bind fun r3 => (spec_l40Rd_pick.f k l0_0 r3.1 200).bind fun r4 => (spec_l40Rd_pick.f k l0_0 r4.1 4).bind fun r5 => if 0 ≤ r5.2 then (if r5.2 < ([9999, (-9999), 5000, 100].length : Int) then ((spec_l40Rd_num.f k l0_0 r5.1 [r1.2, r2.2, (wrap64 (r3.2 - 3)), 1, 0, (wrap64 (r4.2 - 100)), (rd [9999, (-9999), 5000, 100] r5.2)]).bind fun r6 => some (r6.1, r6.2)) else none) else none
mutual
def spec_l1Pick.l1 : Nat → Int → List Int → List Int → Int → Int × Int → Option (Int × Int)
  | 0, _, _, _, _, _ => none
  | k + 1, x8, l0_0, l1, a2, r1 => if x8 < (l1.length : Int) then (if (l1.length : Int) ≠ 0 then (if 0 ≤ (Int.tmod (wrap64 (r1.2 + x8)) (l1.length : Int)) then (if (Int.tmod (wrap64 (r1.2 + x8)) (l1.length : Int)) < (l1.length : Int) then (if (rd l1 (Int.tmod (wrap64 (r1.2 + x8)) (l1.length : Int))) = a2 then (some (r1.1, (Int.tmod (wrap64 (r1.2 + x8)) (l1.length : Int)))) else (spec_l1Pick.l1 k (wrap64 (x8 + 1)) l0_0 l1 a2 r1)) else none) else none) else none) else (some (r1.1, (-1)))
end
def spec_l1Pick.f (k : Nat) (l0_0 : List Int) (a0_1 : Int) (l1 : List Int) (a2 : Int) : Option (Int × Int) := (spec_l40Rd_pick.f k l0_0 a0_1 (l1.length : Int)).bind fun r1 => spec_l1Pick.l1 k 0 l0_0 l1 a2 r1
mutual
def spec_l1Terms.j2 : Nat → Int → Int → Int → Int → Int → List Int → Int → Int → List ITerm → List Int → Int → Option (Int × (List ITerm))
  | 0, _, _, _, _, _, _, _, _, _, _, _ => none
  | k + 1, x0b1q33, x13b0q32, x13b1q32, x13b2q5, x13b3q11, l0_0, a1, a2, x9q3, x10q3, x11 => (spec_l1Kind.f k x13b0q32 x13b1q32 x13b2q5 x13b3q11 x10q3 a1).bind fun r3 => if r3 ≠ 0 then (if x9q3.length + 1 ≤ 1099511627776 then (if x10q3.length + 1 ≤ 1099511627776 then (spec_l1Terms.l1 k x0b1q33 (x9q3 ++ [(⟨x13b0q32, x13b1q32, x13b2q5, x13b3q11⟩ : ITerm)]) (x10q3 ++ [r3]) (wrap64 (x11 - 1)) l0_0 a1 a2) else none) else none) else (spec_l1Terms.l1 k x0b1q33 x9q3 x10q3 (wrap64 (x11 - 1)) l0_0 a1 a2)
def spec_l1Terms.j3 : Nat → Int → Int → Int → List Int → Int → Int → List ITerm → List Int → Int → Option (Int × (List ITerm))
  | 0, _, _, _, _, _, _, _, _, _ => none
  | k + 1, x0b1q35, x13b0q34, x13b1q34, l0_0, a1, a2, x9q3, x10q3, x11 => spec_l1Terms.j2 k x0b1q35 x13b0q34 x13b1q34 0 0 l0_0 a1 a2 x9q3 x10q3 x11
def spec_l1Terms.j4 : Nat → Int → Int → Int → List Int → Int → Int → List ITerm → List Int → Int → Option (Int × (List ITerm))
  | 0, _, _, _, _, _, _, _, _, _ => none
  | k + 1, x0b1q36, x13b0q35, x13b1q35, l0_0, a1, a2, x9q3, x10q3, x11 => spec_l1Terms.j3 k x0b1q36 x13b0q35 x13b1q35 l0_0 a1 a2 x9q3 x10q3 x11
def spec_l1Terms.j5 : Nat → Int → Int → Int → Int → Int → List Int → Int → Int → List ITerm → List Int → Int → Option (Int × (List ITerm))
  | 0, _, _, _, _, _, _, _, _, _, _, _ => none
  | k + 1, x0b1q40, x13b0q39, x13b1q39, x13b2q6, x13b3q13, l0_0, a1, a2, x9q3, x10q3, x11 => spec_l1Terms.j2 k x0b1q40 x13b0q39 x13b1q39 x13b2q6 x13b3q13 l0_0 a1 a2 x9q3 x10q3 x11
def spec_l1Terms.j6 : Nat → Int → Int → Int → List Int → Int → Int → List ITerm → List Int → Int → Option (Int × (List ITerm))
  | 0, _, _, _, _, _, _, _, _, _ => none
  | k + 1, x0b1q42, x13b0q41, x13b1q41, l0_0, a1, a2, x9q3, x10q3, x11 => spec_l1Terms.j5 k x0b1q42 x13b0q41 x13b1q41 0 0 l0_0 a1 a2 x9q3 x10q3 x11
def spec_l1Terms.j7 : Nat → Int → Int → Int → List Int → Int → Int → List ITerm → List Int → Int → Option (Int × (List ITerm))
  | 0, _, _, _, _, _, _, _, _, _ => none
  | k + 1, x0b1q43, x13b0q42, x13b1q42, l0_0, a1, a2, x9q3, x10q3, x11 => spec_l1Terms.j6 k x0b1q43 x13b0q42 x13b1q42 l0_0 a1 a2 x9q3 x10q3 x11
def spec_l1Terms.j9 : Nat → Int → List Int → Int → Int → List ITerm → List Int → Int → Int × Int → Int × Int → Int × Int → Option (Int × (List ITerm))
  | 0, _, _, _, _, _, _, _, _, _, _ => none
  | k + 1, x13b3q14, l0_0, a1, a2, x9q3, x10q3, x11, r2, r8, r9 => spec_l1Terms.j5 k r9.1 r2.2 0 r8.2 x13b3q14 l0_0 a1 a2 x9q3 x10q3 x11
def spec_l1Terms.j8 : Nat → Int → List Int → Int → Int → List ITerm → List Int → Int → Int × Int → Option (Int × (List ITerm))
  | 0, _, _, _, _, _, _, _, _ => none
  | k + 1, x14q8, l0_0, a1, a2, x9q3, x10q3, x11, r2 => (spec_l1Pick.f k l0_0 r2.1 x10q3 x14q8).bind fun r8 => (spec_l1Pick.f k l0_0 r8.1 x10q3 x14q8).bind fun r9 => (spec_l1One.f r2.2).bind fun r10 => if r10 = true then (spec_l1Terms.j9 k r8.2 l0_0 a1 a2 x9q3 x10q3 x11 r2 r8 r9) else (spec_l1Terms.j9 k r9.2 l0_0 a1 a2 x9q3 x10q3 x11 r2 r8 r9)
def spec_l1Terms.j10 : Nat → List ITerm → List Int → List Int → Int → Int → Option (Int × (List ITerm))
  | 0, _, _, _, _, _ => none
  | k + 1, x9q5, x10q5, l0_0, a2, x0b1q22 => if a2 = 2 then (if 0 ≤ (wrap64 ((x9q5.length : Int) - 1)) then (if (wrap64 ((x9q5.length : Int) - 1)) < (x10q5.length : Int) then (if (rd x10q5 (wrap64 ((x9q5.length : Int) - 1))) ≠ a2 then ((spec_l40Rd_num.f k l0_0 x0b1q22 [5, 6]).bind fun r11 => (spec_l1Pick.f k l0_0 r11.1 x10q5 1).bind fun r12 => if x9q5.length + 1 ≤ 1099511627776 then (some (r12.1, (x9q5 ++ [(⟨r11.2, 0, (wrap64 ((x9q5.length : Int) - 1)), r12.2⟩ : ITerm)]))) else none) else (if a2 = 1 then (if 0 ≤ (wrap64 ((x9q5.length : Int) - 1)) then (if (wrap64 ((x9q5.length : Int) - 1)) < (x10q5.length : Int) then (if (rd x10q5 (wrap64 ((x9q5.length : Int) - 1))) ≠ a2 then ((spec_l1Pick.f k l0_0 x0b1q22 x10q5 1).bind fun r13 => (spec_l40Rd_num.f k l0_0 r13.1 [2, 3]).bind fun r14 => (spec_l1Pick.f k l0_0 r14.1 x10q5 1).bind fun r15 => if x9q5.length + 1 ≤ 1099511627776 then (some (r15.1, (x9q5 ++ [(⟨r14.2, 0, r13.2, r15.2⟩ : ITerm)]))) else none) else (some (x0b1q22, x9q5))) else none) else none) else (some (x0b1q22, x9q5)))) else none) else none) else (if a2 = 1 then (if 0 ≤ (wrap64 ((x9q5.length : Int) - 1)) then (if (wrap64 ((x9q5.length : Int) - 1)) < (x10q5.length : Int) then (if (rd x10q5 (wrap64 ((x9q5.length : Int) - 1))) ≠ a2 then ((spec_l1Pick.f k l0_0 x0b1q22 x10q5 1).bind fun r16 => (spec_l40Rd_num.f k l0_0 r16.1 [2, 3]).bind fun r17 => (spec_l1Pick.f k l0_0 r17.1 x10q5 1).bind fun r18 => if x9q5.length + 1 ≤ 1099511627776 then (some (r18.1, (x9q5 ++ [(⟨r17.2, 0, r16.2, r18.2⟩ : ITerm)]))) else none) else (some (x0b1q22, x9q5))) else none) else none) else (some (x0b1q22, x9q5)))
def spec_l1Terms.l1 : Nat → Int → List ITerm → List Int → Int → List Int → Int → Int → Option (Int × (List ITerm))
  | 0, _, _, _, _, _, _, _ => none
  | k + 1, x0b1q22, x9q3, x10q3, x11, l0_0, a1, a2 => if x11 > 0 then ((spec_l40Rd_num.f k l0_0 x0b1q22 [0, 1, 1, 2, 3, 4, 5, 6, 5, 6, 7, 8, 9]).bind fun r2 => if (x9q3.length : Int) = 0 then ((spec_l1Number.f k l0_0 r2.1).bind fun r4 => if a1 > 0 then (if r2.2 ≠ 0 then ((spec_l40Rd_pick.f k l0_0 r4.1 a1).bind fun r5 => spec_l1Terms.j4 k r5.1 1 r5.2 l0_0 a1 a2 x9q3 x10q3 x11) else (spec_l1Terms.j4 k r4.1 0 r4.2 l0_0 a1 a2 x9q3 x10q3 x11)) else (spec_l1Terms.j3 k r4.1 0 r4.2 l0_0 a1 a2 x9q3 x10q3 x11)) else (if r2.2 < 2 then ((spec_l1Number.f k l0_0 r2.1).bind fun r6 => if a1 > 0 then (if r2.2 ≠ 0 then ((spec_l40Rd_pick.f k l0_0 r6.1 a1).bind fun r7 => spec_l1Terms.j7 k r7.1 1 r7.2 l0_0 a1 a2 x9q3 x10q3 x11) else (spec_l1Terms.j7 k r6.1 0 r6.2 l0_0 a1 a2 x9q3 x10q3 x11)) else (spec_l1Terms.j6 k r6.1 0 r6.2 l0_0 a1 a2 x9q3 x10q3 x11)) else (if r2.2 ≥ 7 then (spec_l1Terms.j8 k 2 l0_0 a1 a2 x9q3 x10q3 x11 r2) else (spec_l1Terms.j8 k 1 l0_0 a1 a2 x9q3 x10q3 x11 r2)))) else (if (x9q3.length : Int) = 0 then (if x9q3.length + 1 ≤ 1099511627776 then (if x10q3.length + 1 ≤ 1099511627776 then (spec_l1Terms.j10 k (x9q3 ++ [(⟨0, 1, 0, 0⟩ : ITerm)]) (x10q3 ++ [1]) l0_0 a2 x0b1q22) else none) else none) else (spec_l1Terms.j10 k x9q3 x10q3 l0_0 a2 x0b1q22))
end
def spec_l1Terms.f (k : Nat) (l0_0 : List Int) (a0_1 : Int) (a1 : Int) (a2 : Int) (a3 : Int) : Option (Int × (List ITerm)) := (spec_l40Rd_pick.f k l0_0 a0_1 a3).bind fun r1 => spec_l1Terms.l1 k r1.1 ([] : List ITerm) ([] : List Int) (wrap64 (2 + r1.2)) l0_0 a1 a2
def impl_in.f (a0 : Int) (a1 : Int) (a2 : Int) : Option (Bool) := if a0 ≥ a1 then (some (decide (a0 ≤ a2))) else (some false)
mutual
def impl_parts.j0 : Nat → Int → Bool → Option (Int × Int × Int)
  | 0, _, _ => none
  | k + 1, x5, x6 => if x6 = true then (some (2, 1, 1)) else (if x5 = 5 then (impl_parts.j1 k x5 (x5 == 5)) else (impl_parts.j1 k x5 (x5 == 6)))
def impl_parts.j1 : Nat → Int → Bool → Option (Int × Int × Int)
  | 0, _, _ => none
  | k + 1, x5, x10 => if x10 = true then (some (2, 1, 2)) else (if x5 = 7 then (some (1, 2, 2)) else (if x5 = 8 then (impl_parts.j2 k (x5 == 8)) else (impl_parts.j2 k (x5 == 9))))
def impl_parts.j2 : Nat → Bool → Option (Int × Int × Int)
  | 0, _ => none
  | k + 1, x15 => if x15 = true then (some (2, 2, 2)) else (some (0, 0, 1))
end
def impl_parts.f (k : Nat) (a0 : Int) : Option (Int × Int × Int) := if a0 = 2 then (impl_parts.j0 k a0 (a0 == 2)) else (if a0 = 3 then (impl_parts.j0 k a0 (a0 == 3)) else (impl_parts.j0 k a0 (a0 == 4)))
mutual
def impl_kindsOf.j0 : Nat → List (ITerm) → Int → Bool → Option (List Int)
  | 0, _, _, _ => none
  | k + 1, x0, x1, x20 => if x20 = true then (some ([] : List Int)) else (if 0 ≤ (x0.length : Int) then (if ((x0.length : Int) : Int).toNat ≤ 35184372088832 then (impl_kindsOf.l0 k x1 (([] : List Int)) x0 (x0.length : Int) 0) else (none)) else (none))
def impl_kindsOf.l0 : Nat → Int → List Int → List (ITerm) → Int → Int → Option (List Int)
  | 0, _, _, _, _, _ => none
  | k + 1, x1, x5, x24, x25, x26 => if x26 < x25 then (if 0 ≤ x26 then (if x26 < (x24.length : Int) then ((impl_parts.f k ((rd_ITerm x24 x26).f0)).bind fun bt490 => ((impl_in.f ((rd_ITerm x24 x26).f0) 0 9).bind fun t493 => (if ((rd_ITerm x24 x26).f0) = 0 then ((impl_in.f ((rd_ITerm x24 x26).f1) (-9999) 9999).bind fun t494 => (if t494 = true then (if ((rd_ITerm x24 x26).f2) = 0 then (impl_kindsOf.j2 k x1 x5 bt490.2.2 (((rd_ITerm x24 x26).f3) == 0) x24 x25 x26) else (impl_kindsOf.j2 k x1 x5 bt490.2.2 false x24 x25 x26)) else (impl_kindsOf.j2 k x1 x5 bt490.2.2 false x24 x25 x26))) else (if ((rd_ITerm x24 x26).f0) = 1 then ((impl_in.f ((rd_ITerm x24 x26).f1) 0 (wrap64 (x1 - 1))).bind fun t495 => (if t495 = true then (if ((rd_ITerm x24 x26).f2) = 0 then (impl_kindsOf.j2 k x1 x5 bt490.2.2 (((rd_ITerm x24 x26).f3) == 0) x24 x25 x26) else (impl_kindsOf.j2 k x1 x5 bt490.2.2 false x24 x25 x26)) else (impl_kindsOf.j2 k x1 x5 bt490.2.2 false x24 x25 x26))) else (if t493 = true then (if ((rd_ITerm x24 x26).f1) = 0 then ((impl_in.f ((rd_ITerm x24 x26).f2) 0 (wrap64 (x26 - 1))).bind fun t496 => (if t496 = true then ((impl_in.f ((rd_ITerm x24 x26).f3) 0 (wrap64 (x26 - 1))).bind fun t497 => (if t497 = true then (if 0 ≤ ((rd_ITerm x24 x26).f2) then (if ((rd_ITerm x24 x26).f2) < (x5.length : Int) then (if (rd x5 ((rd_ITerm x24 x26).f2)) = bt490.2.1 then (if 0 ≤ ((rd_ITerm x24 x26).f3) then (if ((rd_ITerm x24 x26).f3) < (x5.length : Int) then (if (rd x5 ((rd_ITerm x24 x26).f3)) = bt490.2.1 then (if bt490.1 = 2 then (impl_kindsOf.j2 k x1 x5 bt490.2.2 true x24 x25 x26) else (impl_kindsOf.j2 k x1 x5 bt490.2.2 (((rd_ITerm x24 x26).f2) == ((rd_ITerm x24 x26).f3)) x24 x25 x26)) else (impl_kindsOf.j2 k x1 x5 bt490.2.2 false x24 x25 x26)) else (none)) else (none)) else (impl_kindsOf.j2 k x1 x5 bt490.2.2 false x24 x25 x26)) else (none)) else (none)) else (impl_kindsOf.j2 k x1 x5 bt490.2.2 false x24 x25 x26))) else (impl_kindsOf.j2 k x1 x5 bt490.2.2 false x24 x25 x26))) else (impl_kindsOf.j2 k x1 x5 bt490.2.2 false x24 x25 x26)) else (impl_kindsOf.j2 k x1 x5 bt490.2.2 t493 x24 x25 x26)))))) else (none)) else (none)) else (if 0 < x5.length then (some x5) else (none))
def impl_kindsOf.j2 : Nat → Int → List Int → Int → Bool → List (ITerm) → Int → Int → Option (List Int)
  | 0, _, _, _, _, _, _, _ => none
  | k + 1, x1, x5, x10, x11, x24, x25, x26 => if x11 = true then (if x5.length < 17592186044416 then (impl_kindsOf.l0 k x1 (x5 ++ [x10]) x24 x25 (wrap64 (x26 + 1))) else (none)) else (some ([] : List Int))
end
def impl_kindsOf.f (k : Nat) (l0 : List (ITerm)) (a1 : Int) : Option (List Int) := (impl_in.f a1 0 5).bind fun t483 => (if t483 = true then ((impl_in.f (l0.length : Int) 1 40).bind fun t484 => (impl_kindsOf.j0 k l0 a1 (!t484))) else (impl_kindsOf.j0 k l0 a1 true))
def spec_l1Held.f (a0 : Int) : Option (Int) := if a0 > 9999 then (some 9999) else (if a0 < (-9999) then (some (-9999)) else (some a0))
def spec_l1Truth.f (a0 : Bool) : Option (Int) := if a0 = true then (some 1) else (some 0)
def spec_l1Do.f (a0 : Int) (a1 : Int) (a2 : Int) : Option (Int) := if a0 = 2 then ((spec_l1Held.f (wrap64 (a1 + a2))).bind fun t948 => (some t948)) else (if a0 = 3 then ((spec_l1Held.f (wrap64 (a1 - a2))).bind fun t949 => (some t949)) else (if a0 = 4 then ((spec_l1Held.f (wrap64 (a1 * a2))).bind fun t950 => (some t950)) else (if a0 = 5 then ((spec_l1Truth.f (decide (a1 < a2))).bind fun t951 => (some t951)) else (if a0 = 6 then ((spec_l1Truth.f (a1 == a2)).bind fun t952 => (some t952)) else (if a0 = 7 then (some (wrap64 (1 - a1))) else (if a0 = 8 then (some (wrap64 (a1 * a2))) else ((spec_l1Truth.f (decide ((wrap64 (a1 + a2)) > 0))).bind fun t953 => (some t953))))))))
def impl_held.f (a0 : Int) : Option (Int) := some (mx (-9999) (mn 9999 a0))
def impl_bit.f (a0 : Bool) : Option (Int) := if a0 = true then (some 1) else (some 0)
def impl_do.f (a0 : Int) (a1 : Int) (a2 : Int) : Option (Int) := if a0 = 2 then ((impl_held.f (wrap64 (a1 + a2))).bind fun t1087 => (some t1087)) else (if a0 = 3 then ((impl_held.f (wrap64 (a1 - a2))).bind fun t1088 => (some t1088)) else (if a0 = 4 then ((impl_held.f (wrap64 (a1 * a2))).bind fun t1089 => (some t1089)) else (if a0 = 5 then ((impl_bit.f (decide (a1 < a2))).bind fun t1090 => (some t1090)) else (if a0 = 6 then ((impl_bit.f (a1 == a2)).bind fun t1091 => (some t1091)) else (if a0 = 7 then (some (wrap64 (1 - a1))) else (if a0 = 8 then (some (mn a1 a2)) else (some (mx a1 a2))))))))
def impl_eval.l0 : Nat → List Int → List Int → List (ITerm) → Int → Int → Option (Int)
  | 0, _, _, _, _, _ => none
  | k + 1, x1, x5, x11, x12, x13 => if x13 < x12 then (if 0 ≤ x13 then (if x13 < (x11.length : Int) then (if ((rd_ITerm x11 x13).f0) = 0 then (if x13 < (x5.length : Int) then (impl_eval.l0 k x1 (x5.set (x13 : Int).toNat ((rd_ITerm x11 x13).f1)) x11 x12 (wrap64 (x13 + 1))) else (none)) else (if ((rd_ITerm x11 x13).f0) = 1 then (if 0 ≤ ((rd_ITerm x11 x13).f1) then (if ((rd_ITerm x11 x13).f1) < (x1.length : Int) then (if x13 < (x5.length : Int) then (impl_eval.l0 k x1 (x5.set (x13 : Int).toNat (rd x1 ((rd_ITerm x11 x13).f1))) x11 x12 (wrap64 (x13 + 1))) else (none)) else (none)) else (none)) else (if 0 ≤ ((rd_ITerm x11 x13).f2) then (if ((rd_ITerm x11 x13).f2) < (x5.length : Int) then (if 0 ≤ ((rd_ITerm x11 x13).f3) then (if ((rd_ITerm x11 x13).f3) < (x5.length : Int) then ((impl_do.f ((rd_ITerm x11 x13).f0) (rd x5 ((rd_ITerm x11 x13).f2)) (rd x5 ((rd_ITerm x11 x13).f3))).bind fun t1103 => (if x13 < (x5.length : Int) then (impl_eval.l0 k x1 (x5.set (x13 : Int).toNat t1103) x11 x12 (wrap64 (x13 + 1))) else (none))) else (none)) else (none)) else (none)) else (none)))) else (none)) else (none)) else (if 0 ≤ (wrap64 ((x5.length : Int) - 1)) then (if (wrap64 ((x5.length : Int) - 1)) < (x5.length : Int) then (some (rd x5 (wrap64 ((x5.length : Int) - 1)))) else (none)) else (none))
def impl_eval.f (k : Nat) (l0 : List (ITerm)) (l1 : List Int) : Option (Int) := if 0 ≤ (l0.length : Int) then (if ((l0.length : Int) : Int).toNat ≤ 35184372088832 then (impl_eval.l0 k l1 (List.replicate ((l0.length : Int) : Int).toNat 0) l0 (l0.length : Int) 0) else (none)) else (none)
def laws_toVar.f (a0_0 : Int) (a0_1 : Int) (a0_2 : Int) : Option (Int × Int × Int) := some (a0_0, a0_1, a0_2)
def laws_toVarS.l0 : Nat → List (LVar) → List (IVar) → Int → Option ((List (IVar)))
  | 0, _, _, _ => none
  | k + 1, x0, x3, x4 => if x4 < (x0.length : Int) then (if 0 ≤ x4 then ((laws_toVar.f ((rd_LVar x0 x4).f0) ((rd_LVar x0 x4).f1) ((rd_LVar x0 x4).f2)).bind fun bt1345 => (if x4 < (x3.length : Int) then (laws_toVarS.l0 k x0 (x3.set (x4 : Int).toNat (⟨bt1345.1, bt1345.2.1, bt1345.2.2⟩ : IVar)) (wrap64 (x4 + 1))) else (none))) else (none)) else (some x3)
def laws_toVarS.f (k : Nat) (l0 : List (LVar)) : Option ((List (IVar))) := if 0 ≤ (l0.length : Int) then (if ((l0.length : Int) : Int).toNat ≤ 11728124029610 then (laws_toVarS.l0 k l0 (List.replicate ((l0.length : Int) : Int).toNat zIVar) 0) else (none)) else (none)
def laws_toIntS.l0 : Nat → List Int → List Int → Int → Option (List Int)
  | 0, _, _, _ => none
  | k + 1, x0, x3, x4 => if x4 < (x0.length : Int) then (if 0 ≤ x4 then (if x4 < (x3.length : Int) then (laws_toIntS.l0 k x0 (x3.set (x4 : Int).toNat (rd x0 x4)) (wrap64 (x4 + 1))) else (none)) else (none)) else (some x3)
def laws_toIntS.f (k : Nat) (l0 : List Int) : Option (List Int) := if 0 ≤ (l0.length : Int) then (if ((l0.length : Int) : Int).toNat ≤ 35184372088832 then (laws_toIntS.l0 k l0 (List.replicate ((l0.length : Int) : Int).toNat 0) 0) else (none)) else (none)
def laws_toTerm.f (a0_0 : Int) (a0_1 : Int) (a0_2 : Int) (a0_3 : Int) : Option (Int × Int × Int × Int) := some (a0_0, a0_1, a0_2, a0_3)
def laws_toTermS.l0 : Nat → List (LTerm) → List (ITerm) → Int → Option ((List (ITerm)))
  | 0, _, _, _ => none
  | k + 1, x0, x3, x4 => if x4 < (x0.length : Int) then (if 0 ≤ x4 then ((laws_toTerm.f ((rd_LTerm x0 x4).f0) ((rd_LTerm x0 x4).f1) ((rd_LTerm x0 x4).f2) ((rd_LTerm x0 x4).f3)).bind fun bt1361 => (if x4 < (x3.length : Int) then (laws_toTermS.l0 k x0 (x3.set (x4 : Int).toNat (⟨bt1361.1, bt1361.2.1, bt1361.2.2.1, bt1361.2.2.2⟩ : ITerm)) (wrap64 (x4 + 1))) else (none))) else (none)) else (some x3)
def laws_toTermS.f (k : Nat) (l0 : List (LTerm)) : Option ((List (ITerm))) := if 0 ≤ (l0.length : Int) then (if ((l0.length : Int) : Int).toNat ≤ 8796093022208 then (laws_toTermS.l0 k l0 (List.replicate ((l0.length : Int) : Int).toNat zITerm) 0) else (none)) else (none)
def laws_toTermSS.l0 : Nat → List (List (LTerm)) → List (List (ITerm)) → Int → Option ((List (List (ITerm))))
  | 0, _, _, _ => none
  | k + 1, x0, x3, x4 => if x4 < (x0.length : Int) then (if 0 ≤ x4 then ((laws_toTermS.f k (rd_LLTerm x0 x4)).bind fun t1370 => (if x4 < (x3.length : Int) then (laws_toTermSS.l0 k x0 (x3.set (x4 : Int).toNat t1370) (wrap64 (x4 + 1))) else (none))) else (none)) else (some x3)
def laws_toTermSS.f (k : Nat) (l0 : List (List (LTerm))) : Option ((List (List (ITerm)))) := if 0 ≤ (l0.length : Int) then (if ((l0.length : Int) : Int).toNat ≤ 11728124029610 then (laws_toTermSS.l0 k l0 (List.replicate ((l0.length : Int) : Int).toNat []) 0) else (none)) else (none)
def laws_toRule.f (k : Nat) (l0_0 : List (LTerm)) (l0_1 : List Int) (l0_2 : List (List (LTerm))) : Option ((List (ITerm)) × List Int × (List (List (ITerm)))) := (laws_toTermS.f k l0_0).bind fun t1377 => ((laws_toIntS.f k l0_1).bind fun t1380 => ((laws_toTermSS.f k l0_2).bind fun t1383 => (some (t1377, t1380, t1383))))
def laws_toRuleS.l0 : Nat → List (LRule) → List (IRule) → Int → Option ((List (IRule)))
  | 0, _, _, _ => none
  | k + 1, x0, x3, x4 => if x4 < (x0.length : Int) then (if 0 ≤ x4 then ((laws_toRule.f k ((rd_LRule x0 x4).f0) ((rd_LRule x0 x4).f1) ((rd_LRule x0 x4).f2)).bind fun bt1390 => (if x4 < (x3.length : Int) then (laws_toRuleS.l0 k x0 (x3.set (x4 : Int).toNat (⟨bt1390.1, bt1390.2.1, bt1390.2.2⟩ : IRule)) (wrap64 (x4 + 1))) else (none))) else (none)) else (some x3)
def laws_toRuleS.f (k : Nat) (l0 : List (LRule)) : Option ((List (IRule))) := if 0 ≤ (l0.length : Int) then (if ((l0.length : Int) : Int).toNat ≤ 3909374676536 then (laws_toRuleS.l0 k l0 (List.replicate ((l0.length : Int) : Int).toNat zIRule) 0) else (none)) else (none)
def laws_toSystem.f (k : Nat) (l0_0 : List (LVar)) (l0_1 : List (LRule)) : Option ((List (IVar)) × (List (IRule))) := (laws_toVarS.f k l0_0).bind fun t1403 => ((laws_toRuleS.f k l0_1).bind fun t1406 => (some (t1403, t1406)))
def laws_eqIntS.l0 : Nat → List Int → List Int → Int → Option (Bool)
  | 0, _, _, _ => none
  | k + 1, x0, x1, x5 => if x5 < (x0.length : Int) then (if 0 ≤ x5 then (if x5 < (x1.length : Int) then (if (rd x0 x5) = (rd x1 x5) then (laws_eqIntS.l0 k x0 x1 (wrap64 (x5 + 1))) else (some false)) else (none)) else (none)) else (some true)
def laws_eqIntS.f (k : Nat) (l0 : List Int) (l1 : List Int) : Option (Bool) := if (l0.length : Int) = (l1.length : Int) then (laws_eqIntS.l0 k l0 l1 0) else (some false)
def laws_eqVar.f (a0_0 : Int) (a0_1 : Int) (a0_2 : Int) (a1_0 : Int) (a1_1 : Int) (a1_2 : Int) : Option (Bool) := if a0_0 = a1_0 then (if a0_1 = a1_1 then (if a0_2 = a1_2 then (some true) else (some false)) else (some false)) else (some false)
def laws_eqVarS.l0 : Nat → List (IVar) → List (IVar) → Int → Option (Bool)
  | 0, _, _, _ => none
  | k + 1, x0, x1, x5 => if x5 < (x0.length : Int) then (if 0 ≤ x5 then (if x5 < (x1.length : Int) then ((laws_eqVar.f ((rd_IVar x0 x5).f0) ((rd_IVar x0 x5).f1) ((rd_IVar x0 x5).f2) ((rd_IVar x1 x5).f0) ((rd_IVar x1 x5).f1) ((rd_IVar x1 x5).f2)).bind fun t1422 => (if t1422 = true then (laws_eqVarS.l0 k x0 x1 (wrap64 (x5 + 1))) else (some false))) else (none)) else (none)) else (some true)
def laws_eqVarS.f (k : Nat) (l0 : List (IVar)) (l1 : List (IVar)) : Option (Bool) := if (l0.length : Int) = (l1.length : Int) then (laws_eqVarS.l0 k l0 l1 0) else (some false)
def laws_eqTerm.f (a0_0 : Int) (a0_1 : Int) (a0_2 : Int) (a0_3 : Int) (a1_0 : Int) (a1_1 : Int) (a1_2 : Int) (a1_3 : Int) : Option (Bool) := if a0_0 = a1_0 then (if a0_1 = a1_1 then (if a0_2 = a1_2 then (if a0_3 = a1_3 then (some true) else (some false)) else (some false)) else (some false)) else (some false)
def laws_eqTermS.l0 : Nat → List (ITerm) → List (ITerm) → Int → Option (Bool)
  | 0, _, _, _ => none
  | k + 1, x0, x1, x5 => if x5 < (x0.length : Int) then (if 0 ≤ x5 then (if x5 < (x1.length : Int) then ((laws_eqTerm.f ((rd_ITerm x0 x5).f0) ((rd_ITerm x0 x5).f1) ((rd_ITerm x0 x5).f2) ((rd_ITerm x0 x5).f3) ((rd_ITerm x1 x5).f0) ((rd_ITerm x1 x5).f1) ((rd_ITerm x1 x5).f2) ((rd_ITerm x1 x5).f3)).bind fun t1427 => (if t1427 = true then (laws_eqTermS.l0 k x0 x1 (wrap64 (x5 + 1))) else (some false))) else (none)) else (none)) else (some true)
def laws_eqTermS.f (k : Nat) (l0 : List (ITerm)) (l1 : List (ITerm)) : Option (Bool) := if (l0.length : Int) = (l1.length : Int) then (laws_eqTermS.l0 k l0 l1 0) else (some false)
def laws_eqTermSS.l0 : Nat → List (List (ITerm)) → List (List (ITerm)) → Int → Option (Bool)
  | 0, _, _, _ => none
  | k + 1, x0, x1, x5 => if x5 < (x0.length : Int) then (if 0 ≤ x5 then (if x5 < (x1.length : Int) then ((laws_eqTermS.f k (rd_LITerm x0 x5) (rd_LITerm x1 x5)).bind fun t1430 => (if t1430 = true then (laws_eqTermSS.l0 k x0 x1 (wrap64 (x5 + 1))) else (some false))) else (none)) else (none)) else (some true)
def laws_eqTermSS.f (k : Nat) (l0 : List (List (ITerm))) (l1 : List (List (ITerm))) : Option (Bool) := if (l0.length : Int) = (l1.length : Int) then (laws_eqTermSS.l0 k l0 l1 0) else (some false)
def laws_eqRule.f (k : Nat) (l0_0 : List (ITerm)) (l0_1 : List Int) (l0_2 : List (List (ITerm))) (l1_0 : List (ITerm)) (l1_1 : List Int) (l1_2 : List (List (ITerm))) : Option (Bool) := (laws_eqTermS.f k l0_0 l1_0).bind fun t1433 => (if t1433 = true then ((laws_eqIntS.f k l0_1 l1_1).bind fun t1434 => (if t1434 = true then ((laws_eqTermSS.f k l0_2 l1_2).bind fun t1435 => (if t1435 = true then (some true) else (some false))) else (some false))) else (some false))
def laws_eqRuleS.l0 : Nat → List (IRule) → List (IRule) → Int → Option (Bool)
  | 0, _, _, _ => none
  | k + 1, x0, x1, x5 => if x5 < (x0.length : Int) then (if 0 ≤ x5 then (if x5 < (x1.length : Int) then ((laws_eqRule.f k ((rd_IRule x0 x5).f0) ((rd_IRule x0 x5).f1) ((rd_IRule x0 x5).f2) ((rd_IRule x1 x5).f0) ((rd_IRule x1 x5).f1) ((rd_IRule x1 x5).f2)).bind fun t1438 => (if t1438 = true then (laws_eqRuleS.l0 k x0 x1 (wrap64 (x5 + 1))) else (some false))) else (none)) else (none)) else (some true)
def laws_eqRuleS.f (k : Nat) (l0 : List (IRule)) (l1 : List (IRule)) : Option (Bool) := if (l0.length : Int) = (l1.length : Int) then (laws_eqRuleS.l0 k l0 l1 0) else (some false)
def laws_eqSystem.f (k : Nat) (l0_0 : List (IVar)) (l0_1 : List (IRule)) (l1_0 : List (IVar)) (l1_1 : List (IRule)) : Option (Bool) := (laws_eqVarS.f k l0_0 l1_0).bind fun t1441 => (if t1441 = true then ((laws_eqRuleS.f k l0_1 l1_1).bind fun t1442 => (if t1442 = true then (some true) else (some false))) else (some false))
mutual
def spec_l1Any.j1 : Nat → Int → Int → Int → Int → Int → List Int → Int × (List ITerm) → Int × Int → Option (Int × (List ITerm))
  | 0, _, _, _, _, _, _, _, _ => none
  | k + 1, x0b1q11, x7b0q2, x7b1q5, x7b2q11, x7b3q11, l0_0, r2, r4 => if 0 ≤ r4.2 then (if r4.2 < (r2.2.length : Int) then (some (x0b1q11, r2.2.set r4.2.toNat (⟨x7b0q2, x7b1q5, x7b2q11, x7b3q11⟩ : ITerm))) else none) else none
def spec_l1Any.j2 : Nat → Int → Int → Int → Int → List Int → Int × (List ITerm) → Int × Int → Option (Int × (List ITerm))
  | 0, _, _, _, _, _, _, _ => none
  | k + 1, x0b1q13, x7b1q6, x7b2q13, x7b3q13, l0_0, r2, r4 => spec_l1Any.j1 k x0b1q13 ((rd_ITerm r2.2 r4.2).f0) x7b1q6 x7b2q13 x7b3q13 l0_0 r2 r4
def spec_l1Any.j3 : Nat → Int → Int → Int → List Int → Int × (List ITerm) → Int × Int → Option (Int × (List ITerm))
  | 0, _, _, _, _, _, _ => none
  | k + 1, x0b1q14, x7b2q14, x7b3q14, l0_0, r2, r4 => spec_l1Any.j2 k x0b1q14 ((rd_ITerm r2.2 r4.2).f1) x7b2q14 x7b3q14 l0_0 r2 r4
end
def spec_l1Any.f (k : Nat) (l0_0 : List Int) (a0_1 : Int) (a1 : Int) : Option (Int × (List ITerm)) := (spec_l40Rd_pick.f k l0_0 a0_1 3).bind fun r1 => (spec_l1Terms.f k l0_0 r1.1 a1 r1.2 12).bind fun r2 => (spec_l40Rd_pick.f k l0_0 r2.1 12).bind fun r3 => if r3.2 = 0 then ((spec_l40Rd_pick.f k l0_0 r3.1 (r2.2.length : Int)).bind fun r4 => if 0 ≤ r4.2 then (if r4.2 < (r2.2.length : Int) then ((spec_l40Rd_pick.f k l0_0 r4.1 4).bind fun r5 => if r5.2 = 0 then ((spec_l40Rd_num.f k l0_0 r5.1 [(-1), 10, 7, 2, 0, 1]).bind fun r6 => spec_l1Any.j1 k r6.1 r6.2 ((rd_ITerm r2.2 r4.2).f1) ((rd_ITerm r2.2 r4.2).f2) ((rd_ITerm r2.2 r4.2).f3) l0_0 r2 r4) else (if r5.2 = 1 then ((spec_l40Rd_num.f k l0_0 r5.1 [(-1), a1, 10000, 1]).bind fun r7 => spec_l1Any.j2 k r7.1 r7.2 ((rd_ITerm r2.2 r4.2).f2) ((rd_ITerm r2.2 r4.2).f3) l0_0 r2 r4) else (if r5.2 = 2 then ((spec_l40Rd_num.f k l0_0 r5.1 [(-1), r4.2, (r2.2.length : Int), 0]).bind fun r8 => spec_l1Any.j3 k r8.1 r8.2 ((rd_ITerm r2.2 r4.2).f3) l0_0 r2 r4) else ((spec_l40Rd_num.f k l0_0 r5.1 [(-1), r4.2, (r2.2.length : Int), 0]).bind fun r9 => spec_l1Any.j3 k r9.1 ((rd_ITerm r2.2 r4.2).f2) r9.2 l0_0 r2 r4)))) else none) else none) else (some (r3.1, r2.2))
mutual
def spec_l1Numbers.l1 : Nat → Int → List Int → Int → List Int → Int → Option (Int × (List Int))
  | 0, _, _, _, _, _ => none
  | k + 1, x0b1, x5, x6, l0_0, a1 => if x6 < a1 then ((spec_l1Number.f k l0_0 x0b1).bind fun r1 => if x5.length + 1 ≤ 1099511627776 then (spec_l1Numbers.l1 k r1.1 (x5 ++ [r1.2]) (wrap64 (x6 + 1)) l0_0 a1) else none) else (if a1 > 0 then ((spec_l40Rd_pick.f k l0_0 x0b1 30).bind fun r2 => if r2.2 = 0 then ((spec_l40Rd_num.f k l0_0 r2.1 [10000, (-10000)]).bind fun r3 => if 0 < (x5.length : Int) then (some (r3.1, x5.set (0 : Int).toNat r3.2)) else none) else (some (r2.1, x5))) else (some (x0b1, x5)))
end
def spec_l1Numbers.f (k : Nat) (l0_0 : List Int) (a0_1 : Int) (a1 : Int) : Option (Int × (List Int)) := spec_l1Numbers.l1 k a0_1 ([] : List Int) 0 l0_0 a1
def spec_l40Open.f (k : Nat) (l0 : List Int) : Option (List Int × Int) := if (l0.length : Int) > 2000 then (if 2000 ≤ (l0.length : Int) then (some ((l0.take (2000 : Int).toNat), 0)) else none) else (some (l0, 0))
mutual
def spec_DrawRangeOf.j2 : Nat → List Int → Int × (List ITerm) → Int × (List Int) → Option ((List ITerm) × (List Int) × (List Int))
  | 0, _, _, _ => none
  | k + 1, x9q12, r3, r4 => some (r3.2, r4.2, x9q12)
def spec_DrawRangeOf.j3 : Nat → List Int → Int × (List ITerm) → Int × (List Int) → Option ((List ITerm) × (List Int) × (List Int))
  | 0, _, _, _ => none
  | k + 1, x9q13, r3, r4 => spec_DrawRangeOf.j2 k x9q13 r3 r4
def spec_DrawRangeOf.l1 : Nat → Int → List Int → Int → (List Int × Int) → Int × Int → Int × (List ITerm) → Int × (List Int) → Option ((List ITerm) × (List Int) × (List Int))
  | 0, _, _, _, _, _, _, _ => none
  | k + 1, x5b1, x9q7, x10, r1, r2, r3, r4 => if x10 < r2.2 then (if 0 ≤ x10 then (if x10 < (r4.2.length : Int) then ((spec_l40Rd_num.f k r1.1 x5b1 [0, 1, 2, 5, 100]).bind fun r5 => if x9q7.length + 1 ≤ 1099511627776 then (spec_DrawRangeOf.l1 k r5.1 (x9q7 ++ [(wrap64 ((rd r4.2 x10) + r5.2))]) (wrap64 (x10 + 1)) r1 r2 r3 r4) else none) else none) else none) else (if r2.2 > 0 then ((spec_l40Rd_pick.f k r1.1 x5b1 20).bind fun r6 => if r6.2 = 0 then (if 0 < (r4.2.length : Int) then (if 0 < (x9q7.length : Int) then (spec_DrawRangeOf.j3 k (x9q7.set (0 : Int).toNat (wrap64 ((rd r4.2 0) - 1))) r3 r4) else none) else none) else (spec_DrawRangeOf.j3 k x9q7 r3 r4)) else (spec_DrawRangeOf.j2 k x9q7 r3 r4))
end
def spec_DrawRangeOf.f (k : Nat) (l0 : List Int) : Option ((List ITerm) × (List Int) × (List Int)) := (spec_l40Open.f k l0).bind fun r1 => (spec_l40Rd_num.f k r1.1 r1.2 [1, 2, 3, 0]).bind fun r2 => (spec_l1Any.f k r1.1 r2.1 r2.2).bind fun r3 => (spec_l1Numbers.f k r1.1 r3.1 r2.2).bind fun r4 => spec_DrawRangeOf.l1 k r4.1 ([] : List Int) 0 r1 r2 r3 r4
def impl_stateOk_1.f (a0 : Int) : Option (Bool) := (impl_in.f a0 (-9999) 9999).bind fun t1598 => (some (!t1598))
def slices_IndexFunc_at_impl_stateOk_1.l0 : Nat → List Int → Int → Int → Option (Int)
  | 0, _, _, _ => none
  | k + 1, x0, x7, x8 => if x8 < x7 then (if 0 ≤ x8 then (if x8 < (x0.length : Int) then ((impl_stateOk_1.f (rd x0 x8)).bind fun t1600 => (if t1600 = true then (some x8) else (slices_IndexFunc_at_impl_stateOk_1.l0 k x0 x7 (wrap64 (x8 + 1))))) else (none)) else (none)) else (some (-1))
def slices_IndexFunc_at_impl_stateOk_1.f (k : Nat) (l0 : List Int)  : Option (Int) := slices_IndexFunc_at_impl_stateOk_1.l0 k l0 (l0.length : Int) 0
def slices_ContainsFunc_at_impl_stateOk_1.f (k : Nat) (l0 : List Int)  : Option (Bool) := (slices_IndexFunc_at_impl_stateOk_1.f k l0).bind fun t1601 => (some (decide (t1601 ≥ 0)))
def impl_stateOk.f (k : Nat) (l0 : List Int) : Option (Bool) := if (l0.length : Int) ≤ 5 then ((slices_ContainsFunc_at_impl_stateOk_1.f k l0).bind fun t1602 => (some (!t1602))) else (some false)
def impl_TermsValid.f (k : Nat) (l0 : List (ITerm)) (a1 : Int) : Option (Bool) := (impl_kindsOf.f k l0 a1).bind fun t => some (!t.isEmpty)
def spec_l1State.l0 : Nat → List Int → Int → Option (Bool)
  | 0, _, _ => none
  | k + 1, x0, x3 => if x3 < (x0.length : Int) then (if 0 ≤ x3 then ((spec_l1In.f (rd x0 x3) (-9999) 9999).bind fun t1636 => (if t1636 = true then (spec_l1State.l0 k x0 (wrap64 (x3 + 1))) else (some false))) else (none)) else (some true)
def spec_l1State.f (k : Nat) (l0 : List Int) : Option (Bool) := spec_l1State.l0 k l0 0
mutual
def spec_l1Four.l0 : Nat → Int → Int → List Int → Int → Option (List Int)
  | 0, _, _, _, _ => none
  | k + 1, x9, x10, x11, x12 => if x12 < (x11.length : Int) then (if 0 ≤ x12 then (if (rd x11 x12) < x9 then (spec_l1Four.j1 k (rd x11 x12) x10 x11 x12) else (spec_l1Four.j1 k x9 x10 x11 x12)) else (none)) else (some (([x9, x10] : List Int)))
def spec_l1Four.j1 : Nat → Int → Int → List Int → Int → Option (List Int)
  | 0, _, _, _, _ => none
  | k + 1, x9, x10, x11, x12 => if 0 ≤ x12 then (if x12 < (x11.length : Int) then (if (rd x11 x12) > x10 then (spec_l1Four.l0 k x9 (rd x11 x12) x11 (wrap64 (x12 + 1))) else (spec_l1Four.l0 k x9 x10 x11 (wrap64 (x12 + 1)))) else (none)) else (none)
end
def spec_l1Four.f (k : Nat) (a0 : Int) (a1 : Int) (a2 : Int) (a3 : Int) : Option (List Int) := spec_l1Four.l0 k a0 a0 (([a1, a2, a3] : List Int)) 0
def impl_Eval.f (k : Nat) (l0 : List (ITerm)) (l1 : List Int) : Option (Int × Bool) := (impl_stateOk.f k l1).bind fun t1780 => (if t1780 = true then ((impl_TermsValid.f k l0 (l1.length : Int)).bind fun t1781 => (if t1781 = true then ((impl_eval.f k l0 l1).bind fun t1782 => (some (t1782, true))) else (some (0, false)))) else (some (0, false)))
mutual
def slices_Min_int_int.l1 : Nat → Int → Int → List Int → Option Int
  | 0, _, _, _ => none
  | k + 1, x3, x4, l0 => if x4 < (l0.length : Int) then (if 0 ≤ x4 then (if x4 < (l0.length : Int) then (slices_Min_int_int.l1 k (if (rd l0 x4) < x3 then (rd l0 x4) else x3) (wrap64 (x4 + 1)) l0) else none) else none) else (some x3)
end
def slices_Min_int_int.f (k : Nat) (l0 : List Int) : Option Int := if (l0.length : Int) < 1 then (Option.none) else (if 0 < (l0.length : Int) then (slices_Min_int_int.l1 k (rd l0 0) 1 l0) else none)
mutual
def slices_Max_int_int.l1 : Nat → Int → Int → List Int → Option Int
  | 0, _, _, _ => none
  | k + 1, x3, x4, l0 => if x4 < (l0.length : Int) then (if 0 ≤ x4 then (if x4 < (l0.length : Int) then (slices_Max_int_int.l1 k (if (rd l0 x4) > x3 then (rd l0 x4) else x3) (wrap64 (x4 + 1)) l0) else none) else none) else (some x3)
end
def slices_Max_int_int.f (k : Nat) (l0 : List Int) : Option Int := if (l0.length : Int) < 1 then (Option.none) else (if 0 < (l0.length : Int) then (slices_Max_int_int.l1 k (rd l0 0) 1 l0) else none)
mutual
def impl_spanOf.j1 : Nat → Int → Int → Option (Int × Int)
  | 0, _, _ => none
  | k + 1, x6b0q32, x6b1q32 => some (x6b0q32, x6b1q32)
end
def impl_spanOf.f (k : Nat) (a0 : Int) (a1_0 : Int) (a1_1 : Int) (a2_0 : Int) (a2_1 : Int) : Option (Int × Int) := if a0 = 2 then ((impl_held.f (wrap64 (a1_0 + a2_0))).bind fun r1 => (impl_held.f (wrap64 (a1_1 + a2_1))).bind fun r2 => some (r1, r2)) else (if a0 = 3 then ((impl_held.f (wrap64 (a1_0 - a2_1))).bind fun r3 => (impl_held.f (wrap64 (a1_1 - a2_0))).bind fun r4 => some (r3, r4)) else (if a0 = 4 then ((impl_held.f (wrap64 (a1_0 * a2_0))).bind fun r5 => (impl_held.f (wrap64 (a1_0 * a2_1))).bind fun r6 => (impl_held.f (wrap64 (a1_1 * a2_0))).bind fun r7 => (impl_held.f (wrap64 (a1_1 * a2_1))).bind fun r8 => (slices_Min_int_int.f k [r5, r6, r7, r8]).bind fun r9 => (slices_Max_int_int.f k [r5, r6, r7, r8]).bind fun r10 => some (r9, r10)) else (if a0 = 5 then ((impl_bit.f (decide (a1_1 < a2_0))).bind fun r11 => (impl_bit.f (decide (a1_0 < a2_1))).bind fun r12 => some (r11, r12)) else (if a0 = 6 then (if a1_0 = a1_1 then ((impl_bit.f (a1_0 == a2_0 && (a1_1 == a2_1 && true))).bind fun r13 => if a1_0 ≤ a2_1 then ((impl_bit.f (decide (a2_0 ≤ a1_1))).bind fun r14 => impl_spanOf.j1 k r13 r14) else ((impl_bit.f false).bind fun r15 => impl_spanOf.j1 k r13 r15)) else ((impl_bit.f false).bind fun r16 => if a1_0 ≤ a2_1 then ((impl_bit.f (decide (a2_0 ≤ a1_1))).bind fun r17 => impl_spanOf.j1 k r16 r17) else ((impl_bit.f false).bind fun r18 => impl_spanOf.j1 k r16 r18))) else (if a0 = 7 then (some ((wrap64 (1 - a1_1)), (wrap64 (1 - a1_0)))) else ((impl_do.f a0 a1_0 a2_0).bind fun r19 => (impl_do.f a0 a1_1 a2_1).bind fun r20 => some (r19, r20)))))))
mutual
def impl_RangeOf.l2 : Nat → List Ispan → Int → List ITerm → List Int → List Int → Option (Int × Int × Bool)
  | 0, _, _, _, _, _ => none
  | k + 1, x10q4, x56q4, l0, l1, l2 => if x56q4 < (l0.length : Int) then (if 0 ≤ x56q4 then (if x56q4 < (l0.length : Int) then (if ((rd_ITerm l0 x56q4).f0) = 0 then (if 0 ≤ x56q4 then (if x56q4 < (x10q4.length : Int) then (impl_RangeOf.l2 k (x10q4.set x56q4.toNat (⟨((rd_ITerm l0 x56q4).f1), ((rd_ITerm l0 x56q4).f1)⟩ : Ispan)) (wrap64 (x56q4 + 1)) l0 l1 l2) else none) else none) else (if ((rd_ITerm l0 x56q4).f0) = 1 then (if 0 ≤ ((rd_ITerm l0 x56q4).f1) then (if ((rd_ITerm l0 x56q4).f1) < (l1.length : Int) then (if 0 ≤ ((rd_ITerm l0 x56q4).f1) then (if ((rd_ITerm l0 x56q4).f1) < (l2.length : Int) then (if 0 ≤ x56q4 then (if x56q4 < (x10q4.length : Int) then (impl_RangeOf.l2 k (x10q4.set x56q4.toNat (⟨(rd l1 ((rd_ITerm l0 x56q4).f1)), (rd l2 ((rd_ITerm l0 x56q4).f1))⟩ : Ispan)) (wrap64 (x56q4 + 1)) l0 l1 l2) else none) else none) else none) else none) else none) else none) else (if 0 ≤ ((rd_ITerm l0 x56q4).f2) then (if ((rd_ITerm l0 x56q4).f2) < (x10q4.length : Int) then (if 0 ≤ ((rd_ITerm l0 x56q4).f3) then (if ((rd_ITerm l0 x56q4).f3) < (x10q4.length : Int) then ((impl_spanOf.f k ((rd_ITerm l0 x56q4).f0) ((rd_Ispan x10q4 ((rd_ITerm l0 x56q4).f2)).f0) ((rd_Ispan x10q4 ((rd_ITerm l0 x56q4).f2)).f1) ((rd_Ispan x10q4 ((rd_ITerm l0 x56q4).f3)).f0) ((rd_Ispan x10q4 ((rd_ITerm l0 x56q4).f3)).f1)).bind fun r4 => if 0 ≤ x56q4 then (if x56q4 < (x10q4.length : Int) then (impl_RangeOf.l2 k (x10q4.set x56q4.toNat (⟨r4.1, r4.2⟩ : Ispan)) (wrap64 (x56q4 + 1)) l0 l1 l2) else none) else none) else none) else none) else none) else none))) else none) else none) else (if 0 ≤ (wrap64 ((x10q4.length : Int) - 1)) then (if (wrap64 ((x10q4.length : Int) - 1)) < (x10q4.length : Int) then (some (((rd_Ispan x10q4 (wrap64 ((x10q4.length : Int) - 1))).f0), ((rd_Ispan x10q4 (wrap64 ((x10q4.length : Int) - 1))).f1), true)) else none) else none)
def impl_RangeOf.l1 : Nat → Int → List ITerm → List Int → List Int → Option (Int × Int × Bool)
  | 0, _, _, _, _ => none
  | k + 1, x38, l0, l1, l2 => if x38 < (l1.length : Int) then (if 0 ≤ x38 then (if x38 < (l1.length : Int) then (if 0 ≤ x38 then (if x38 < (l2.length : Int) then (if (rd l1 x38) > (rd l2 x38) then (some (0, 0, false)) else (impl_RangeOf.l1 k (wrap64 (x38 + 1)) l0 l1 l2)) else none) else none) else none) else none) else (if 0 ≤ (l0.length : Int) then (if (l0.length : Int) ≤ 1099511627776 then (impl_RangeOf.l2 k (List.replicate (l0.length : Int).toNat zIspan) 0 l0 l1 l2) else none) else none)
end
def impl_RangeOf.f (k : Nat) (l0 : List ITerm) (l1 : List Int) (l2 : List Int) : Option (Int × Int × Bool) := (impl_stateOk.f k l1).bind fun r1 => if r1 = true then ((impl_stateOk.f k l2).bind fun r2 => if r2 = true then (if (l1.length : Int) ≠ (l2.length : Int) then (some (0, 0, false)) else ((impl_TermsValid.f k l0 (l1.length : Int)).bind fun r3 => if r3 = true then (impl_RangeOf.l1 k 0 l0 l1 l2) else (some (0, 0, false)))) else (some (0, 0, false))) else (some (0, 0, false))
mutual
def spec_l1Between.j1 : Nat → List Int → Option (List Int)
  | 0, _ => none
  | k + 1, x6q2 => some x6q2
end
def spec_l1Between.f (k : Nat) (a0 : Int) (l1 : List Int) (l2 : List Int) : Option (List Int) := if a0 = 2 then (if 0 < (l1.length : Int) then (if 0 < (l2.length : Int) then ((spec_l1Held.f (wrap64 ((rd l1 0) + (rd l2 0)))).bind fun r1 => if 1 < (l1.length : Int) then (if 1 < (l2.length : Int) then ((spec_l1Held.f (wrap64 ((rd l1 1) + (rd l2 1)))).bind fun r2 => some [r1, r2]) else none) else none) else none) else none) else (if a0 = 3 then (if 0 < (l1.length : Int) then (if 1 < (l2.length : Int) then ((spec_l1Held.f (wrap64 ((rd l1 0) - (rd l2 1)))).bind fun r3 => if 1 < (l1.length : Int) then (if 0 < (l2.length : Int) then ((spec_l1Held.f (wrap64 ((rd l1 1) - (rd l2 0)))).bind fun r4 => some [r3, r4]) else none) else none) else none) else none) else (if a0 = 4 then (if 0 < (l1.length : Int) then (if 0 < (l2.length : Int) then (if 0 < (l1.length : Int) then (if 1 < (l2.length : Int) then (if 1 < (l1.length : Int) then (if 0 < (l2.length : Int) then (if 1 < (l1.length : Int) then (if 1 < (l2.length : Int) then ((spec_l1Four.f k (wrap64 ((rd l1 0) * (rd l2 0))) (wrap64 ((rd l1 0) * (rd l2 1))) (wrap64 ((rd l1 1) * (rd l2 0))) (wrap64 ((rd l1 1) * (rd l2 1)))).bind fun r5 => if 0 < (r5.length : Int) then ((spec_l1Held.f (rd r5 0)).bind fun r6 => if 1 < (r5.length : Int) then ((spec_l1Held.f (rd r5 1)).bind fun r7 => some [r6, r7]) else none) else none) else none) else none) else none) else none) else none) else none) else none) else none) else (if a0 = 5 then (if 1 < (l1.length : Int) then (if 0 < (l2.length : Int) then ((spec_l1Truth.f (decide ((rd l1 1) < (rd l2 0)))).bind fun r8 => if 0 < (l1.length : Int) then (if 1 < (l2.length : Int) then ((spec_l1Truth.f (decide ((rd l1 0) < (rd l2 1)))).bind fun r9 => some [r8, r9]) else none) else none) else none) else none) else (if a0 = 6 then (if 0 < (l1.length : Int) then (if 1 < (l1.length : Int) then (if (rd l1 0) = (rd l1 1) then (if 0 < (l2.length : Int) then (if 1 < (l2.length : Int) then (if (rd l2 0) = (rd l2 1) then (if 0 < (l1.length : Int) then (if 0 < (l2.length : Int) then ((spec_l1Truth.f ((rd l1 0) == (rd l2 0))).bind fun r10 => if 0 < (l1.length : Int) then (if 1 < (l2.length : Int) then (if (rd l1 0) ≤ (rd l2 1) then (if 0 < (l2.length : Int) then (if 1 < (l1.length : Int) then ((spec_l1Truth.f (decide ((rd l2 0) ≤ (rd l1 1)))).bind fun r11 => spec_l1Between.j1 k [r10, r11]) else none) else none) else ((spec_l1Truth.f false).bind fun r12 => spec_l1Between.j1 k [r10, r12])) else none) else none) else none) else none) else ((spec_l1Truth.f false).bind fun r13 => if 0 < (l1.length : Int) then (if 1 < (l2.length : Int) then (if (rd l1 0) ≤ (rd l2 1) then (if 0 < (l2.length : Int) then (if 1 < (l1.length : Int) then ((spec_l1Truth.f (decide ((rd l2 0) ≤ (rd l1 1)))).bind fun r14 => spec_l1Between.j1 k [r13, r14]) else none) else none) else ((spec_l1Truth.f false).bind fun r15 => spec_l1Between.j1 k [r13, r15])) else none) else none)) else none) else none) else ((spec_l1Truth.f false).bind fun r16 => if 0 < (l1.length : Int) then (if 1 < (l2.length : Int) then (if (rd l1 0) ≤ (rd l2 1) then (if 0 < (l2.length : Int) then (if 1 < (l1.length : Int) then ((spec_l1Truth.f (decide ((rd l2 0) ≤ (rd l1 1)))).bind fun r17 => spec_l1Between.j1 k [r16, r17]) else none) else none) else ((spec_l1Truth.f false).bind fun r18 => spec_l1Between.j1 k [r16, r18])) else none) else none)) else none) else none) else (if a0 = 7 then (if 1 < (l1.length : Int) then (if 0 < (l1.length : Int) then (some [(wrap64 (1 - (rd l1 1))), (wrap64 (1 - (rd l1 0)))]) else none) else none) else (if 0 < (l1.length : Int) then (if 0 < (l2.length : Int) then ((spec_l1Do.f a0 (rd l1 0) (rd l2 0)).bind fun r19 => if 1 < (l1.length : Int) then (if 1 < (l2.length : Int) then ((spec_l1Do.f a0 (rd l1 1) (rd l2 1)).bind fun r20 => some [r19, r20]) else none) else none) else none) else none))))))
mutual
def spec_RangeOf.l2 : Nat → List (List Int) → Int → List ITerm → List Int → List Int → Option (Int × Int × Bool)
  | 0, _, _, _, _, _ => none
  | k + 1, x10q4, x11q4, l0, l1, l2 => if x11q4 < (l0.length : Int) then (if 0 ≤ x11q4 then (if x11q4 < (l0.length : Int) then (if ((rd_ITerm l0 x11q4).f0) = 0 then (if x10q4.length + 1 ≤ 1099511627776 then (spec_RangeOf.l2 k (x10q4 ++ [[((rd_ITerm l0 x11q4).f1), ((rd_ITerm l0 x11q4).f1)]]) (wrap64 (x11q4 + 1)) l0 l1 l2) else none) else (if ((rd_ITerm l0 x11q4).f0) = 1 then (if 0 ≤ ((rd_ITerm l0 x11q4).f1) then (if ((rd_ITerm l0 x11q4).f1) < (l1.length : Int) then (if 0 ≤ ((rd_ITerm l0 x11q4).f1) then (if ((rd_ITerm l0 x11q4).f1) < (l2.length : Int) then (if x10q4.length + 1 ≤ 1099511627776 then (spec_RangeOf.l2 k (x10q4 ++ [[(rd l1 ((rd_ITerm l0 x11q4).f1)), (rd l2 ((rd_ITerm l0 x11q4).f1))]]) (wrap64 (x11q4 + 1)) l0 l1 l2) else none) else none) else none) else none) else none) else (if 0 ≤ ((rd_ITerm l0 x11q4).f2) then (if ((rd_ITerm l0 x11q4).f2) < (x10q4.length : Int) then (if 0 ≤ ((rd_ITerm l0 x11q4).f3) then (if ((rd_ITerm l0 x11q4).f3) < (x10q4.length : Int) then ((spec_l1Between.f k ((rd_ITerm l0 x11q4).f0) (rd_Lint x10q4 ((rd_ITerm l0 x11q4).f2)) (rd_Lint x10q4 ((rd_ITerm l0 x11q4).f3))).bind fun r4 => if x10q4.length + 1 ≤ 1099511627776 then (spec_RangeOf.l2 k (x10q4 ++ [r4]) (wrap64 (x11q4 + 1)) l0 l1 l2) else none) else none) else none) else none) else none))) else none) else none) else (if 0 ≤ (wrap64 ((x10q4.length : Int) - 1)) then (if (wrap64 ((x10q4.length : Int) - 1)) < (x10q4.length : Int) then (if 0 < ((rd_Lint x10q4 (wrap64 ((x10q4.length : Int) - 1))).length : Int) then (if 1 < ((rd_Lint x10q4 (wrap64 ((x10q4.length : Int) - 1))).length : Int) then (some ((rd (rd_Lint x10q4 (wrap64 ((x10q4.length : Int) - 1))) 0), (rd (rd_Lint x10q4 (wrap64 ((x10q4.length : Int) - 1))) 1), true)) else none) else none) else none) else none)
def spec_RangeOf.l1 : Nat → Int → List ITerm → List Int → List Int → Option (Int × Int × Bool)
  | 0, _, _, _, _ => none
  | k + 1, x9, l0, l1, l2 => if x9 < (l1.length : Int) then (if 0 ≤ x9 then (if x9 < (l1.length : Int) then (if 0 ≤ x9 then (if x9 < (l2.length : Int) then (if (rd l1 x9) > (rd l2 x9) then (some (0, 0, false)) else (spec_RangeOf.l1 k (wrap64 (x9 + 1)) l0 l1 l2)) else none) else none) else none) else none) else (spec_RangeOf.l2 k ([] : List (List Int)) 0 l0 l1 l2)
end
def spec_RangeOf.f (k : Nat) (l0 : List ITerm) (l1 : List Int) (l2 : List Int) : Option (Int × Int × Bool) := if (l1.length : Int) ≠ (l2.length : Int) then (some (0, 0, false)) else ((spec_TermsValid.f k l0 (l1.length : Int)).bind fun r1 => if r1 = true then ((spec_l1State.f k l1).bind fun r2 => if r2 = true then ((spec_l1State.f k l2).bind fun r3 => if r3 = true then (spec_RangeOf.l1 k 0 l0 l1 l2) else (some (0, 0, false))) else (some (0, 0, false))) else (some (0, 0, false)))
mutual
def laws_FnEvalRange.j1 : Nat → Bool → Option Bool
  | 0, _ => none
  | k + 1, x2q6 => some x2q6
def laws_FnEvalRange.j2 : Nat → Bool → Option Bool
  | 0, _ => none
  | k + 1, x2q7 => some x2q7
def laws_FnEvalRange.j3 : Nat → Bool → Option Bool
  | 0, _ => none
  | k + 1, x2q8 => some x2q8
def laws_FnEvalRange.l5 : Nat → List Int → Int → (List ITerm) × (List Int) × (List Int) → Int × Int × Bool → Int → Option Bool
  | 0, _, _, _, _, _ => none
  | k + 1, x13q2, x82q2, r1, r2, x76 => if x82q2 < (r1.2.1.length : Int) then (if 0 ≤ x82q2 then (if x82q2 < (r1.2.1.length : Int) then (if 0 ≤ x82q2 then (if x82q2 < (r1.2.2.length : Int) then (if 0 ≤ x82q2 then (if x82q2 < (r1.2.1.length : Int) then (if 0 ≤ (Int.tmod x82q2 2) then (if x13q2.length + 1 ≤ 1099511627776 then (laws_FnEvalRange.l5 k (x13q2 ++ [(wrap64 ((rd r1.2.1 x82q2) + (wrap64 ((wrap64 ((rd r1.2.2 x82q2) - (rd r1.2.1 x82q2))) * (Int.tmod (shr .i64 x76 (Int.tmod x82q2 2)) 2)))))]) (wrap64 (x82q2 + 1)) r1 r2 x76) else none) else none) else none) else none) else none) else none) else none) else none) else ((impl_Eval.f k r1.1 x13q2).bind fun r4 => if r4.2 = true then (if r4.1 < r2.1 then (some false) else (if r4.1 > r2.2.1 then (some false) else (laws_FnEvalRange.l4 k (wrap64 (x76 + 1)) r1 r2))) else (some false))
def laws_FnEvalRange.l4 : Nat → Int → (List ITerm) × (List Int) × (List Int) → Int × Int × Bool → Option Bool
  | 0, _, _, _ => none
  | k + 1, x76, r1, r2 => if x76 < 4 then (laws_FnEvalRange.l5 k ([] : List Int) 0 r1 r2 x76) else (some true)
def laws_FnEvalRange.j6 : Nat → Bool → Option Bool
  | 0, _ => none
  | k + 1, x2q10 => some x2q10
end
def laws_FnEvalRange.f (k : Nat) (l0 : List Int) : Option Bool := if (l0.length : Int) > 1048576 then (some true) else ((spec_DrawRangeOf.f k l0).bind fun r1 => (impl_RangeOf.f k r1.1 r1.2.1 r1.2.2).bind fun r2 => (spec_RangeOf.f k r1.1 r1.2.1 r1.2.2).bind fun r3 => if r2.1 ≠ r3.1 then (if r2.1 = r3.1 then (if r2.2.1 = r3.2.1 then (if r2.2.2 = r3.2.2 then (laws_FnEvalRange.j1 k (!r2.2.2)) else (laws_FnEvalRange.j1 k false)) else (laws_FnEvalRange.j1 k false)) else (laws_FnEvalRange.j1 k false)) else (if r2.2.1 ≠ r3.2.1 then (if r2.1 = r3.1 then (if r2.2.1 = r3.2.1 then (if r2.2.2 = r3.2.2 then (laws_FnEvalRange.j2 k (!r2.2.2)) else (laws_FnEvalRange.j2 k false)) else (laws_FnEvalRange.j2 k false)) else (laws_FnEvalRange.j2 k false)) else (if r2.2.2 ≠ r3.2.2 then (if r2.1 = r3.1 then (if r2.2.1 = r3.2.1 then (if r2.2.2 = r3.2.2 then (laws_FnEvalRange.j3 k (!r2.2.2)) else (laws_FnEvalRange.j3 k false)) else (laws_FnEvalRange.j3 k false)) else (laws_FnEvalRange.j3 k false)) else (if r2.2.2 = true then (laws_FnEvalRange.l4 k 0 r1 r2) else (if r2.1 = r3.1 then (if r2.2.1 = r3.2.1 then (if r2.2.2 = r3.2.2 then (laws_FnEvalRange.j6 k (!r2.2.2)) else (laws_FnEvalRange.j6 k false)) else (laws_FnEvalRange.j6 k false)) else (laws_FnEvalRange.j6 k false))))))
end Go.Proofs.Ytpjmiaooogephaa.PA
