/- Types and the Lean functions that the walks are told against. No conditions. -/
import Derived.Test.YtpjmiaooogephaaProg
import Derived.Below
import Derived.Deep.Draws
import Derived.Deep.AppendLies
import Derived.Maps.AppendAt
import Derived.OwnWalk
import Derived.Laws.BytesArg
import Derived.Laws.MakeOwn
import Derived.Laws.OwnMore
import Derived.Deep.OwnRows
import Derived.Tactics
import Derived.Lib.ConvBytes
import Derived.Laws.Slices
import Derived.WalkKit
import Derived.KernelRfl
import Derived.RowKit3
import Derived.Deep.LoopGhost
import Derived.Deep.QuietTactic
import Derived.BigQuiet
import Derived.WideLaws
import Derived.Deep.DeepCutAuto
import Derived.Deep.CutBlock
import Derived.Deep.RegionHeld3
import Derived.Laws.Rows
import Derived.Lib.AppendStr
import Derived.ArgAppend
import Derived.Laws.IdiomCopy
import Derived.OrdersHeld
import Derived.Laws.BitsLemmas
import Derived.RowKit
import Derived.Laws.StructEq
import Derived.Lib.SliceRun
import Derived.WalkSpells
import Derived.ChangeArms
import Derived.ChangeSlices
import Derived.Deep.Slices
import Derived.Test.YtpjmiaooogephaaKW54c76ecb77
namespace Go.Proofs.Ytpjmiaooogephaa.PA
open Go.RowKit Go.Proofs.YtpjmiaooogephaaW.PrintWords Go.Proofs.YtpjmiaooogephaaW.PrintLast Go.Proofs.YtpjmiaooogephaaW.PrintMore
attribute [local go_sem] max2_int min2_int max_two min_two max_three min_three max_four min_four   -- for this text's walks alone
set_option linter.unusedVariables false
set_option linter.unusedSimpArgs false
structure LVar where
  f0 : Int
  f1 : Int
  f2 : Int
def zLVar : LVar := ⟨(0 : Int), (0 : Int), (0 : Int)⟩
def rd_LVar (xs : List LVar) (i : Int) : LVar := xs.getD i.toNat zLVar
structure LTerm where
  f0 : Int
  f1 : Int
  f2 : Int
  f3 : Int
def zLTerm : LTerm := ⟨(0 : Int), (0 : Int), (0 : Int), (0 : Int)⟩
def rd_LTerm (xs : List LTerm) (i : Int) : LTerm := xs.getD i.toNat zLTerm
def rd_LLTerm (xs : List (List LTerm)) (i : Int) : (List LTerm) := xs.getD i.toNat ([] : List LTerm)
def rd_Lint (xs : List (List Int)) (i : Int) : (List Int) := xs.getD i.toNat ([] : List Int)
structure LRule where
  f0 : (List LTerm)
  f1 : (List Int)
  f2 : (List (List LTerm))
def zLRule : LRule := ⟨([] : List LTerm), ([] : List Int), ([] : List (List LTerm))⟩
def rd_LRule (xs : List LRule) (i : Int) : LRule := xs.getD i.toNat zLRule
structure LSystem where
  f0 : (List LVar)
  f1 : (List LRule)
def zLSystem : LSystem := ⟨([] : List LVar), ([] : List LRule)⟩
structure ITerm where
  f0 : Int
  f1 : Int
  f2 : Int
  f3 : Int
def zITerm : ITerm := ⟨(0 : Int), (0 : Int), (0 : Int), (0 : Int)⟩
def rd_ITerm (xs : List ITerm) (i : Int) : ITerm := xs.getD i.toNat zITerm
structure IVar where
  f0 : Int
  f1 : Int
  f2 : Int
def zIVar : IVar := ⟨(0 : Int), (0 : Int), (0 : Int)⟩
def rd_IVar (xs : List IVar) (i : Int) : IVar := xs.getD i.toNat zIVar
def rd_LITerm (xs : List (List ITerm)) (i : Int) : (List ITerm) := xs.getD i.toNat ([] : List ITerm)
structure IRule where
  f0 : (List ITerm)
  f1 : (List Int)
  f2 : (List (List ITerm))
def zIRule : IRule := ⟨([] : List ITerm), ([] : List Int), ([] : List (List ITerm))⟩
def rd_IRule (xs : List IRule) (i : Int) : IRule := xs.getD i.toNat zIRule
def spec_l1In.f (a0 : Int) (a1 : Int) (a2 : Int) : Option (Bool) := if a0 ≥ a1 then (some (decide (a0 ≤ a2))) else (some false)
def spec_l1One.f (a0 : Int) : Option (Bool) := some (a0 == 7)
mutual
def spec_l1Kind.j0 : Nat → List Int → Int → Bool → Int → Int → Int → Int → Option (Int)
  | 0, _, _, _, _, _, _, _ => none
  | k + 1, x1, x2, x25, x137000, x137001, x137002, x137003 => if x25 = true then (some 1) else (if x137000 = 1 then ((spec_l1In.f x137001 0 (wrap64 (x2 - 1))).bind fun t138 => (if t138 = true then (if x137002 = 0 then (spec_l1Kind.j1 k x1 (x137003 == 0) x137000 x137001 x137002 x137003) else (spec_l1Kind.j1 k x1 false x137000 x137001 x137002 x137003)) else (spec_l1Kind.j1 k x1 false x137000 x137001 x137002 x137003))) else (spec_l1Kind.j1 k x1 false x137000 x137001 x137002 x137003))
def spec_l1Kind.j1 : Nat → List Int → Bool → Int → Int → Int → Int → Option (Int)
  | 0, _, _, _, _, _, _ => none
  | k + 1, x1, x45, x137000, x137001, x137002, x137003 => if x45 = true then (some 1) else ((spec_l1In.f x137000 2 9).bind fun t139 => (if t139 = true then (if x137001 = 0 then ((spec_l1In.f x137002 0 (wrap64 ((x1.length : Int) - 1))).bind fun t140 => (if t140 = true then ((spec_l1In.f x137003 0 (wrap64 ((x1.length : Int) - 1))).bind fun t141 => (spec_l1Kind.j2 k x1 (!t141) x137000 x137001 x137002 x137003)) else (spec_l1Kind.j2 k x1 true x137000 x137001 x137002 x137003))) else (spec_l1Kind.j2 k x1 true x137000 x137001 x137002 x137003)) else (spec_l1Kind.j2 k x1 true x137000 x137001 x137002 x137003)))
def spec_l1Kind.j2 : Nat → List Int → Bool → Int → Int → Int → Int → Option (Int)
  | 0, _, _, _, _, _, _ => none
  | k + 1, x1, x72, x137000, x137001, x137002, x137003 => if x72 = true then (some 0) else (if x137000 ≥ 7 then (spec_l1Kind.j3 k x1 2 x137000 x137001 x137002 x137003) else (spec_l1Kind.j3 k x1 1 x137000 x137001 x137002 x137003))
def spec_l1Kind.j3 : Nat → List Int → Int → Int → Int → Int → Int → Option (Int)
  | 0, _, _, _, _, _, _ => none
  | k + 1, x1, x7, x137000, x137001, x137002, x137003 => if 0 ≤ x137002 then (if x137002 < (x1.length : Int) then (if (rd x1 x137002) = x7 then (if 0 ≤ x137003 then (if x137003 < (x1.length : Int) then (if (rd x1 x137003) = x7 then ((spec_l1One.f x137000).bind fun t144 => (if t144 = true then (spec_l1Kind.j4 k (x137003 != x137002) x137000 x137001 x137002 x137003) else (spec_l1Kind.j4 k false x137000 x137001 x137002 x137003))) else (spec_l1Kind.j4 k true x137000 x137001 x137002 x137003)) else (none)) else (none)) else (spec_l1Kind.j4 k true x137000 x137001 x137002 x137003)) else (none)) else (none)
def spec_l1Kind.j4 : Nat → Bool → Int → Int → Int → Int → Option (Int)
  | 0, _, _, _, _, _ => none
  | k + 1, x103, x137000, x137001, x137002, x137003 => if x103 = true then (some 0) else (if x137000 ≥ 5 then (some 2) else (some 1))
end
def spec_l1Kind.f (k : Nat) (a0_0 : Int) (a0_1 : Int) (a0_2 : Int) (a0_3 : Int) (l1 : List Int) (a2 : Int) : Option (Int) := if a0_0 = 0 then ((spec_l1In.f a0_1 (-9999) 9999).bind fun t137 => (if t137 = true then (if a0_2 = 0 then (spec_l1Kind.j0 k l1 a2 (a0_3 == 0) a0_0 a0_1 a0_2 a0_3) else (spec_l1Kind.j0 k l1 a2 false a0_0 a0_1 a0_2 a0_3)) else (spec_l1Kind.j0 k l1 a2 false a0_0 a0_1 a0_2 a0_3))) else (spec_l1Kind.j0 k l1 a2 false a0_0 a0_1 a0_2 a0_3)
mutual
def spec_KindsOf.j0 : Nat → List (ITerm) → Int → Bool → Option (List Int)
  | 0, _, _, _ => none
  | k + 1, x0, x1, x16 => if x16 = true then (some ([] : List Int)) else (spec_KindsOf.l0 k x0 x1 (([] : List Int)) 0)
def spec_KindsOf.l0 : Nat → List (ITerm) → Int → List Int → Int → Option (List Int)
  | 0, _, _, _, _ => none
  | k + 1, x0, x1, x5, x6 => if x6 < (x0.length : Int) then (if 0 ≤ x6 then ((spec_l1Kind.f k ((rd_ITerm x0 x6).f0) ((rd_ITerm x0 x6).f1) ((rd_ITerm x0 x6).f2) ((rd_ITerm x0 x6).f3) x5 x1).bind fun t151 => (if t151 = 0 then (some ([] : List Int)) else (if x5.length < 17592186044416 then (spec_KindsOf.l0 k x0 x1 (x5 ++ [t151]) (wrap64 (x6 + 1))) else (none)))) else (none)) else (some x5)
end
def spec_KindsOf.f (k : Nat) (l0 : List (ITerm)) (a1 : Int) : Option (List Int) := (spec_l1In.f a1 0 5).bind fun t145 => (if t145 = true then ((spec_l1In.f (l0.length : Int) 1 40).bind fun t146 => (spec_KindsOf.j0 k l0 a1 (!t146))) else (spec_KindsOf.j0 k l0 a1 true))
def spec_l2Var.f (a0_0 : Int) (a0_1 : Int) (a0_2 : Int) : Option (Bool) := (spec_l1In.f a0_0 (-9999) 9999).bind fun t419 => (if t419 = true then ((spec_l1In.f a0_1 a0_0 9999).bind fun t420 => (if t420 = true then (if (wrap64 (a0_1 - a0_0)) < 20 then ((spec_l1In.f a0_2 a0_0 a0_1).bind fun t421 => (some t421)) else (some false)) else (some false))) else (some false))
def spec_l2Is.f (k : Nat) (l0 : List (ITerm)) (a1 : Int) (a2 : Int) : Option (Bool) := (spec_KindsOf.f k l0 a1).bind fun t422 => (if (t422.length : Int) > 0 then (if 0 ≤ (wrap64 ((t422.length : Int) - 1)) then (if (wrap64 ((t422.length : Int) - 1)) < (t422.length : Int) then (some ((rd t422 (wrap64 ((t422.length : Int) - 1))) == a2)) else (none)) else (none)) else (some false))
mutual
def spec_l2Rule.j0 : Nat → Int → Bool → List (ITerm) → List Int → List (List (ITerm)) → Option (Bool)
  | 0, _, _, _, _, _ => none
  | k + 1, x1, x26, x427000, x427001, x427002 => if x26 = true then (some false) else (spec_l2Rule.l0 k x1 0 x427000 x427001 x427002)
def spec_l2Rule.l0 : Nat → Int → Int → List (ITerm) → List Int → List (List (ITerm)) → Option (Bool)
  | 0, _, _, _, _, _ => none
  | k + 1, x1, x5, x427000, x427001, x427002 => if x5 < (x427001.length : Int) then (if 0 ≤ x5 then ((spec_l1In.f (rd x427001 x5) 0 (wrap64 (x1 - 1))).bind fun t429 => (if t429 = true then (if x5 > 0 then (if 0 ≤ (wrap64 (x5 - 1)) then (if (wrap64 (x5 - 1)) < (x427001.length : Int) then (if (rd x427001 x5) ≤ (rd x427001 (wrap64 (x5 - 1))) then (spec_l2Rule.j2 k x1 x5 true x427000 x427001 x427002) else (if x5 < (x427002.length : Int) then ((spec_l2Is.f k (rd_LITerm x427002 x5) x1 1).bind fun t433 => (spec_l2Rule.j2 k x1 x5 (!t433) x427000 x427001 x427002)) else (none))) else (none)) else (none)) else (if x5 < (x427002.length : Int) then ((spec_l2Is.f k (rd_LITerm x427002 x5) x1 1).bind fun t435 => (spec_l2Rule.j2 k x1 x5 (!t435) x427000 x427001 x427002)) else (none))) else (spec_l2Rule.j2 k x1 x5 true x427000 x427001 x427002))) else (none)) else (some true)
def spec_l2Rule.j2 : Nat → Int → Int → Bool → List (ITerm) → List Int → List (List (ITerm)) → Option (Bool)
  | 0, _, _, _, _, _, _ => none
  | k + 1, x1, x5, x70, x427000, x427001, x427002 => if x70 = true then (some false) else (spec_l2Rule.l0 k x1 (wrap64 (x5 + 1)) x427000 x427001 x427002)
end
def spec_l2Rule.f (k : Nat) (l0_0 : List (ITerm)) (l0_1 : List Int) (l0_2 : List (List (ITerm))) (a1 : Int) : Option (Bool) := (spec_l2Is.f k l0_0 a1 2).bind fun t427 => (if t427 = true then (if (l0_1.length : Int) = (l0_2.length : Int) then (spec_l2Rule.j0 k a1 (decide ((l0_1.length : Int) > a1)) l0_0 l0_1 l0_2) else (spec_l2Rule.j0 k a1 true l0_0 l0_1 l0_2)) else (spec_l2Rule.j0 k a1 true l0_0 l0_1 l0_2))
mutual
def spec_SystemValid.j0 : Nat → Bool → List (IVar) → List (IRule) → Option (Bool)
  | 0, _, _, _ => none
  | k + 1, x16, x437000, x437001 => if x16 = true then (some false) else (spec_SystemValid.l0 k 1 0 x437000 x437001)
def spec_SystemValid.l0 : Nat → Int → Int → List (IVar) → List (IRule) → Option (Bool)
  | 0, _, _, _, _ => none
  | k + 1, x3, x4, x437000, x437001 => if x4 < (x437000.length : Int) then (if 0 ≤ x4 then ((spec_l2Var.f ((rd_IVar x437000 x4).f0) ((rd_IVar x437000 x4).f1) ((rd_IVar x437000 x4).f2)).bind fun t439 => (if t439 = true then (spec_SystemValid.l0 k (wrap64 (x3 * (wrap64 ((wrap64 (((rd_IVar x437000 x4).f1) - ((rd_IVar x437000 x4).f0))) + 1)))) (wrap64 (x4 + 1)) x437000 x437001) else (some false))) else (none)) else (spec_SystemValid.l1 k x3 0 x437000 x437001)
def spec_SystemValid.l1 : Nat → Int → Int → List (IVar) → List (IRule) → Option (Bool)
  | 0, _, _, _, _ => none
  | k + 1, x3, x5, x437000, x437001 => if x5 < (x437001.length : Int) then (if 0 ≤ x5 then ((spec_l2Rule.f k ((rd_IRule x437001 x5).f0) ((rd_IRule x437001 x5).f1) ((rd_IRule x437001 x5).f2) (x437000.length : Int)).bind fun t443 => (if t443 = true then (spec_SystemValid.l1 k x3 (wrap64 (x5 + 1)) x437000 x437001) else (some false))) else (none)) else (some (decide (x3 ≤ 400)))
end
def spec_SystemValid.f (k : Nat) (l0_0 : List (IVar)) (l0_1 : List (IRule)) : Option (Bool) := (spec_l1In.f (l0_0.length : Int) 1 5).bind fun t437 => (if t437 = true then (spec_SystemValid.j0 k (decide ((l0_1.length : Int) > 8)) l0_0 l0_1) else (spec_SystemValid.j0 k true l0_0 l0_1))
def impl_size.l0 : Nat → Int → List (IVar) → Int → Int → Option (Int)
  | 0, _, _, _, _ => none
  | k + 1, x3, x6, x7, x8 => if x8 < x7 then (if 0 ≤ x8 then (if x8 < (x6.length : Int) then (impl_size.l0 k (wrap64 (x3 * (wrap64 ((wrap64 (((rd_IVar x6 x8).f1) - ((rd_IVar x6 x8).f0))) + 1)))) x6 x7 (wrap64 (x8 + 1))) else (none)) else (none)) else (some x3)
def impl_size.f (k : Nat) (l0 : List (IVar)) : Option (Int) := impl_size.l0 k 1 l0 (l0.length : Int) 0
def impl_in.f (a0 : Int) (a1 : Int) (a2 : Int) : Option (Bool) := if a0 ≥ a1 then (some (decide (a0 ≤ a2))) else (some false)
def impl_varOk.f (a0_0 : Int) (a0_1 : Int) (a0_2 : Int) : Option (Bool) := (impl_in.f a0_0 (-9999) 9999).bind fun t480 => (if t480 = true then ((impl_in.f a0_1 a0_0 9999).bind fun t481 => (if t481 = true then (if (wrap64 (a0_1 - a0_0)) < 20 then ((impl_in.f a0_2 a0_0 a0_1).bind fun t482 => (some t482)) else (some false)) else (some false))) else (some false))
mutual
def impl_parts.j0 : Nat → Int → Bool → Option (Int × Int × Int)
  | 0, _, _ => none
  | k + 1, x5, x6 => if x6 = true then (some (2, 1, 1)) else (if x5 = 5 then (impl_parts.j1 k x5 (x5 == 5)) else (impl_parts.j1 k x5 (x5 == 6)))
def impl_parts.j1 : Nat → Int → Bool → Option (Int × Int × Int)
  | 0, _, _ => none
  | k + 1, x5, x10 => if x10 = true then (some (2, 1, 2)) else (if x5 = 7 then (some (1, 2, 2)) else (if x5 = 8 then (impl_parts.j2 k (x5 == 8)) else (impl_parts.j2 k (x5 == 9))))
def impl_parts.j2 : Nat → Bool → Option (Int × Int × Int)
  | 0, _ => none
  | k + 1, x15 => if x15 = true then (some (2, 2, 2)) else (some (0, 0, 1))
end
def impl_parts.f (k : Nat) (a0 : Int) : Option (Int × Int × Int) := if a0 = 2 then (impl_parts.j0 k a0 (a0 == 2)) else (if a0 = 3 then (impl_parts.j0 k a0 (a0 == 3)) else (impl_parts.j0 k a0 (a0 == 4)))
mutual
def impl_kindsOf.j0 : Nat → List (ITerm) → Int → Bool → Option (List Int)
  | 0, _, _, _ => none
  | k + 1, x0, x1, x20 => if x20 = true then (some ([] : List Int)) else (if 0 ≤ (x0.length : Int) then (if ((x0.length : Int) : Int).toNat ≤ 35184372088832 then (impl_kindsOf.l0 k x1 (([] : List Int)) x0 (x0.length : Int) 0) else (none)) else (none))
def impl_kindsOf.l0 : Nat → Int → List Int → List (ITerm) → Int → Int → Option (List Int)
  | 0, _, _, _, _, _ => none
  | k + 1, x1, x5, x24, x25, x26 => if x26 < x25 then (if 0 ≤ x26 then (if x26 < (x24.length : Int) then ((impl_parts.f k ((rd_ITerm x24 x26).f0)).bind fun bt490 => ((impl_in.f ((rd_ITerm x24 x26).f0) 0 9).bind fun t493 => (if ((rd_ITerm x24 x26).f0) = 0 then ((impl_in.f ((rd_ITerm x24 x26).f1) (-9999) 9999).bind fun t494 => (if t494 = true then (if ((rd_ITerm x24 x26).f2) = 0 then (impl_kindsOf.j2 k x1 x5 bt490.2.2 (((rd_ITerm x24 x26).f3) == 0) x24 x25 x26) else (impl_kindsOf.j2 k x1 x5 bt490.2.2 false x24 x25 x26)) else (impl_kindsOf.j2 k x1 x5 bt490.2.2 false x24 x25 x26))) else (if ((rd_ITerm x24 x26).f0) = 1 then ((impl_in.f ((rd_ITerm x24 x26).f1) 0 (wrap64 (x1 - 1))).bind fun t495 => (if t495 = true then (if ((rd_ITerm x24 x26).f2) = 0 then (impl_kindsOf.j2 k x1 x5 bt490.2.2 (((rd_ITerm x24 x26).f3) == 0) x24 x25 x26) else (impl_kindsOf.j2 k x1 x5 bt490.2.2 false x24 x25 x26)) else (impl_kindsOf.j2 k x1 x5 bt490.2.2 false x24 x25 x26))) else (if t493 = true then (if ((rd_ITerm x24 x26).f1) = 0 then ((impl_in.f ((rd_ITerm x24 x26).f2) 0 (wrap64 (x26 - 1))).bind fun t496 => (if t496 = true then ((impl_in.f ((rd_ITerm x24 x26).f3) 0 (wrap64 (x26 - 1))).bind fun t497 => (if t497 = true then (if 0 ≤ ((rd_ITerm x24 x26).f2) then (if ((rd_ITerm x24 x26).f2) < (x5.length : Int) then (if (rd x5 ((rd_ITerm x24 x26).f2)) = bt490.2.1 then (if 0 ≤ ((rd_ITerm x24 x26).f3) then (if ((rd_ITerm x24 x26).f3) < (x5.length : Int) then (if (rd x5 ((rd_ITerm x24 x26).f3)) = bt490.2.1 then (if bt490.1 = 2 then (impl_kindsOf.j2 k x1 x5 bt490.2.2 true x24 x25 x26) else (impl_kindsOf.j2 k x1 x5 bt490.2.2 (((rd_ITerm x24 x26).f2) == ((rd_ITerm x24 x26).f3)) x24 x25 x26)) else (impl_kindsOf.j2 k x1 x5 bt490.2.2 false x24 x25 x26)) else (none)) else (none)) else (impl_kindsOf.j2 k x1 x5 bt490.2.2 false x24 x25 x26)) else (none)) else (none)) else (impl_kindsOf.j2 k x1 x5 bt490.2.2 false x24 x25 x26))) else (impl_kindsOf.j2 k x1 x5 bt490.2.2 false x24 x25 x26))) else (impl_kindsOf.j2 k x1 x5 bt490.2.2 false x24 x25 x26)) else (impl_kindsOf.j2 k x1 x5 bt490.2.2 t493 x24 x25 x26)))))) else (none)) else (none)) else (if 0 < x5.length then (some x5) else (none))
def impl_kindsOf.j2 : Nat → Int → List Int → Int → Bool → List (ITerm) → Int → Int → Option (List Int)
  | 0, _, _, _, _, _, _, _ => none
  | k + 1, x1, x5, x10, x11, x24, x25, x26 => if x11 = true then (if x5.length < 17592186044416 then (impl_kindsOf.l0 k x1 (x5 ++ [x10]) x24 x25 (wrap64 (x26 + 1))) else (none)) else (some ([] : List Int))
end
def impl_kindsOf.f (k : Nat) (l0 : List (ITerm)) (a1 : Int) : Option (List Int) := (impl_in.f a1 0 5).bind fun t483 => (if t483 = true then ((impl_in.f (l0.length : Int) 1 40).bind fun t484 => (impl_kindsOf.j0 k l0 a1 (!t484))) else (impl_kindsOf.j0 k l0 a1 true))
def impl_kindOf.f (k : Nat) (l0 : List (ITerm)) (a1 : Int) : Option (Int) := (impl_kindsOf.f k l0 a1).bind fun t => if t = [] then some 0 else (if 0 ≤ (wrap64 ((t.length : Int) - 1)) then (if (wrap64 ((t.length : Int) - 1)) < (t.length : Int) then some (rd t (wrap64 ((t.length : Int) - 1))) else none) else none)
mutual
def impl_ruleOk.j0 : Nat → Int → Bool → List (ITerm) → List Int → List (List (ITerm)) → Option (Bool)
  | 0, _, _, _, _, _ => none
  | k + 1, x1, x20, x504000, x504001, x504002 => if x20 = true then (some false) else (impl_ruleOk.l0 k x1 x504001 (x504001.length : Int) 0 x504000 x504001 x504002)
def impl_ruleOk.l0 : Nat → Int → List Int → Int → Int → List (ITerm) → List Int → List (List (ITerm)) → Option (Bool)
  | 0, _, _, _, _, _, _, _ => none
  | k + 1, x1, x22, x23, x24, x504000, x504001, x504002 => if x24 < x23 then (if 0 ≤ x24 then (if x24 < (x22.length : Int) then ((impl_in.f (rd x22 x24) 0 (wrap64 (x1 - 1))).bind fun t506 => (if t506 = true then (if x24 > 0 then (if 0 ≤ (wrap64 (x24 - 1)) then (if (wrap64 (x24 - 1)) < (x504001.length : Int) then (if (rd x504001 (wrap64 (x24 - 1))) ≥ (rd x22 x24) then (impl_ruleOk.j2 k x1 x22 x23 x24 true x504000 x504001 x504002) else (if x24 < (x504002.length : Int) then ((impl_kindOf.f k (rd_LITerm x504002 x24) x1).bind fun t509 => (impl_ruleOk.j2 k x1 x22 x23 x24 (t509 != 1) x504000 x504001 x504002)) else (none))) else (none)) else (none)) else (if x24 < (x504002.length : Int) then ((impl_kindOf.f k (rd_LITerm x504002 x24) x1).bind fun t511 => (impl_ruleOk.j2 k x1 x22 x23 x24 (t511 != 1) x504000 x504001 x504002)) else (none))) else (impl_ruleOk.j2 k x1 x22 x23 x24 true x504000 x504001 x504002))) else (none)) else (none)) else (some true)
def impl_ruleOk.j2 : Nat → Int → List Int → Int → Int → Bool → List (ITerm) → List Int → List (List (ITerm)) → Option (Bool)
  | 0, _, _, _, _, _, _, _, _ => none
  | k + 1, x1, x22, x23, x24, x57, x504000, x504001, x504002 => if x57 = true then (some false) else (impl_ruleOk.l0 k x1 x22 x23 (wrap64 (x24 + 1)) x504000 x504001 x504002)
end
def impl_ruleOk.f (k : Nat) (l0_0 : List (ITerm)) (l0_1 : List Int) (l0_2 : List (List (ITerm))) (a1 : Int) : Option (Bool) := (impl_kindOf.f k l0_0 a1).bind fun t504 => (if t504 = 2 then (impl_ruleOk.j0 k a1 ((l0_1.length : Int) != (l0_2.length : Int)) l0_0 l0_1 l0_2) else (impl_ruleOk.j0 k a1 true l0_0 l0_1 l0_2))
def impl_SystemValid_1.f (a0_0 : Int) (a0_1 : Int) (a0_2 : Int) : Option (Bool) := (impl_varOk.f a0_0 a0_1 a0_2).bind fun t513 => (some (!t513))
def slices_IndexFunc_at_impl_SystemValid_1.l0 : Nat → List (IVar) → Int → Int → Option (Int)
  | 0, _, _, _ => none
  | k + 1, x0, x7, x8 => if x8 < x7 then (if 0 ≤ x8 then (if x8 < (x0.length : Int) then ((impl_SystemValid_1.f ((rd_IVar x0 x8).f0) ((rd_IVar x0 x8).f1) ((rd_IVar x0 x8).f2)).bind fun t515 => (if t515 = true then (some x8) else (slices_IndexFunc_at_impl_SystemValid_1.l0 k x0 x7 (wrap64 (x8 + 1))))) else (none)) else (none)) else (some (-1))
def slices_IndexFunc_at_impl_SystemValid_1.f (k : Nat) (l0 : List (IVar))  : Option (Int) := slices_IndexFunc_at_impl_SystemValid_1.l0 k l0 (l0.length : Int) 0
def slices_ContainsFunc_at_impl_SystemValid_1.f (k : Nat) (l0 : List (IVar))  : Option (Bool) := (slices_IndexFunc_at_impl_SystemValid_1.f k l0).bind fun t516 => (some (decide (t516 ≥ 0)))
def impl_SystemValid_2.f (k : Nat) (l0_0 : List (ITerm)) (l0_1 : List Int) (l0_2 : List (List (ITerm))) (l1_0 : List (IVar)) (l1_1 : List (IRule)) : Option (Bool) := (impl_ruleOk.f k l0_0 l0_1 l0_2 (l1_0.length : Int)).bind fun t519 => (some (!t519))
def slices_IndexFunc_at_impl_SystemValid_2.l0 : Nat → List (IRule) → Int → Int → List (IVar) → List (IRule) → Option (Int)
  | 0, _, _, _, _, _ => none
  | k + 1, x0, x7, x8, x521000, x521001 => if x8 < x7 then (if 0 ≤ x8 then (if x8 < (x0.length : Int) then ((impl_SystemValid_2.f k ((rd_IRule x0 x8).f0) ((rd_IRule x0 x8).f1) ((rd_IRule x0 x8).f2) x521000 x521001).bind fun t522 => (if t522 = true then (some x8) else (slices_IndexFunc_at_impl_SystemValid_2.l0 k x0 x7 (wrap64 (x8 + 1)) x521000 x521001))) else (none)) else (none)) else (some (-1))
def slices_IndexFunc_at_impl_SystemValid_2.f (k : Nat) (l0 : List (IRule))  (l2_0 : List (IVar)) (l2_1 : List (IRule)) : Option (Int) := slices_IndexFunc_at_impl_SystemValid_2.l0 k l0 (l0.length : Int) 0 l2_0 l2_1
def slices_ContainsFunc_at_impl_SystemValid_2.f (k : Nat) (l0 : List (IRule))  (l2_0 : List (IVar)) (l2_1 : List (IRule)) : Option (Bool) := (slices_IndexFunc_at_impl_SystemValid_2.f k l0 l2_0 l2_1).bind fun t524 => (some (decide (t524 ≥ 0)))
def impl_SystemValid.j0 : Nat → Bool → List (IVar) → List (IRule) → Option (Bool)
  | 0, _, _, _ => none
  | k + 1, x24, x526000, x526001 => if x24 = true then (some false) else ((slices_ContainsFunc_at_impl_SystemValid_2.f k x526001 x526000 x526001).bind fun t529 => (some (!t529)))
def impl_SystemValid.f (k : Nat) (l0_0 : List (IVar)) (l0_1 : List (IRule)) : Option (Bool) := (impl_in.f (l0_0.length : Int) 1 5).bind fun t526 => (if t526 = true then (if (l0_1.length : Int) > 8 then (impl_SystemValid.j0 k true l0_0 l0_1) else ((slices_ContainsFunc_at_impl_SystemValid_1.f k l0_0).bind fun t527 => (if t527 = true then (impl_SystemValid.j0 k true l0_0 l0_1) else ((impl_size.f k l0_0).bind fun t528 => (impl_SystemValid.j0 k (decide (t528 > 400)) l0_0 l0_1))))) else (impl_SystemValid.j0 k true l0_0 l0_1))
def impl_clone_Lint.f (l0 : List (List Int)) : Option (List (List Int)) := if l0.length ≤ 5864062014805 then some l0 else none
def impl_clone_int.f (l0 : List Int) : Option (List Int) := if l0.length ≤ 35184372088832 then some l0 else none
def spec_FirstState.l0 : Nat → List Int → Int → List (IVar) → List (IRule) → Option (List Int)
  | 0, _, _, _, _ => none
  | k + 1, x3, x4, x714000, x714001 => if x4 < (x714000.length : Int) then ((spec_SystemValid.f k x714000 x714001).bind fun t717 => (if t717 = true then (if 0 ≤ x4 then (if x3.length < 17592186044416 then (spec_FirstState.l0 k (x3 ++ [(rd_IVar x714000 x4).f2]) (wrap64 (x4 + 1)) x714000 x714001) else (none)) else (none)) else (some x3))) else (some x3)
def spec_FirstState.f (k : Nat) (l0_0 : List (IVar)) (l0_1 : List (IRule)) : Option (List Int) := spec_FirstState.l0 k (([] : List Int)) 0 l0_0 l0_1
def spec_l1Held.f (a0 : Int) : Option (Int) := if a0 > 9999 then (some 9999) else (if a0 < (-9999) then (some (-9999)) else (some a0))
def spec_l1Truth.f (a0 : Bool) : Option (Int) := if a0 = true then (some 1) else (some 0)
def spec_l1Do.f (a0 : Int) (a1 : Int) (a2 : Int) : Option (Int) := if a0 = 2 then ((spec_l1Held.f (wrap64 (a1 + a2))).bind fun t948 => (some t948)) else (if a0 = 3 then ((spec_l1Held.f (wrap64 (a1 - a2))).bind fun t949 => (some t949)) else (if a0 = 4 then ((spec_l1Held.f (wrap64 (a1 * a2))).bind fun t950 => (some t950)) else (if a0 = 5 then ((spec_l1Truth.f (decide (a1 < a2))).bind fun t951 => (some t951)) else (if a0 = 6 then ((spec_l1Truth.f (a1 == a2)).bind fun t952 => (some t952)) else (if a0 = 7 then (some (wrap64 (1 - a1))) else (if a0 = 8 then (some (wrap64 (a1 * a2))) else ((spec_l1Truth.f (decide ((wrap64 (a1 + a2)) > 0))).bind fun t953 => (some t953))))))))
def spec_l1Values.l0 : Nat → List (ITerm) → List Int → List Int → Int → Option (List Int)
  | 0, _, _, _, _ => none
  | k + 1, x0, x1, x5, x6 => if x6 < (x0.length : Int) then (if 0 ≤ x6 then (if ((rd_ITerm x0 x6).f0) = 0 then (if x5.length < 17592186044416 then (spec_l1Values.l0 k x0 x1 (x5 ++ [(rd_ITerm x0 x6).f1]) (wrap64 (x6 + 1))) else (none)) else (if ((rd_ITerm x0 x6).f0) = 1 then (if 0 ≤ ((rd_ITerm x0 x6).f1) then (if ((rd_ITerm x0 x6).f1) < (x1.length : Int) then (if x5.length < 17592186044416 then (spec_l1Values.l0 k x0 x1 (x5 ++ [rd x1 ((rd_ITerm x0 x6).f1)]) (wrap64 (x6 + 1))) else (none)) else (none)) else (none)) else (if 0 ≤ ((rd_ITerm x0 x6).f2) then (if ((rd_ITerm x0 x6).f2) < (x5.length : Int) then (if 0 ≤ ((rd_ITerm x0 x6).f3) then (if ((rd_ITerm x0 x6).f3) < (x5.length : Int) then ((spec_l1Do.f ((rd_ITerm x0 x6).f0) (rd x5 ((rd_ITerm x0 x6).f2)) (rd x5 ((rd_ITerm x0 x6).f3))).bind fun t968 => (if x5.length < 17592186044416 then (spec_l1Values.l0 k x0 x1 (x5 ++ [t968]) (wrap64 (x6 + 1))) else (none))) else (none)) else (none)) else (none)) else (none)))) else (none)) else (some x5)
def spec_l1Values.f (k : Nat) (l0 : List (ITerm)) (l1 : List Int) : Option (List Int) := spec_l1Values.l0 k l0 l1 (([] : List Int)) 0
def spec_l2Last.f (k : Nat) (l0 : List (ITerm)) (l1 : List Int) : Option (Int) := (spec_l1Values.f k l0 l1).bind fun t972 => (if 0 ≤ (wrap64 ((l0.length : Int) - 1)) then (if (wrap64 ((l0.length : Int) - 1)) < (t972.length : Int) then (some (rd t972 (wrap64 ((l0.length : Int) - 1)))) else (none)) else (none))
def spec_l2In.l0 : Nat → List Int → Int → List (IVar) → List (IRule) → Option (Bool)
  | 0, _, _, _, _ => none
  | k + 1, x1, x5, x977000, x977001 => if x5 < (x1.length : Int) then (if 0 ≤ x5 then (if x5 < (x977000.length : Int) then ((spec_l1In.f (rd x1 x5) ((rd_IVar x977000 x5).f0) ((rd_IVar x977000 x5).f1)).bind fun t980 => (if t980 = true then (spec_l2In.l0 k x1 (wrap64 (x5 + 1)) x977000 x977001) else (some false))) else (none)) else (none)) else (some true)
def spec_l2In.f (k : Nat) (l0_0 : List (IVar)) (l0_1 : List (IRule)) (l1 : List Int) : Option (Bool) := if (l1.length : Int) = (l0_0.length : Int) then (spec_l2In.l0 k l1 0 l0_0 l0_1) else (some false)
mutual
def spec_l2Use.l0 : Nat → List Int → List Int → Int → List (IVar) → List (IRule) → List (ITerm) → List Int → List (List (ITerm)) → Option (List Int)
  | 0, _, _, _, _, _, _, _, _ => none
  | k + 1, x1, x8, x9, x982000, x982001, x984000, x984001, x984002 => if x9 < (x1.length : Int) then (if 0 ≤ x9 then (if x8.length < 17592186044416 then (spec_l2Use.l0 k x1 (x8 ++ [rd x1 x9]) (wrap64 (x9 + 1)) x982000 x982001 x984000 x984001 x984002) else (none)) else (none)) else (spec_l2Use.l1 k x1 x8 0 x982000 x982001 x984000 x984001 x984002)
def spec_l2Use.l1 : Nat → List Int → List Int → Int → List (IVar) → List (IRule) → List (ITerm) → List Int → List (List (ITerm)) → Option (List Int)
  | 0, _, _, _, _, _, _, _, _ => none
  | k + 1, x1, x8, x10, x982000, x982001, x984000, x984001, x984002 => if x10 < (x984001.length : Int) then (if 0 ≤ x10 then (if x10 < (x984002.length : Int) then ((spec_l2Last.f k (rd_LITerm x984002 x10) x1).bind fun t994 => (if 0 ≤ (rd x984001 x10) then (if (rd x984001 x10) < (x8.length : Int) then (spec_l2Use.l1 k x1 (x8.set ((rd x984001 x10) : Int).toNat t994) (wrap64 (x10 + 1)) x982000 x982001 x984000 x984001 x984002) else (none)) else (none))) else (none)) else (none)) else ((spec_l2In.f k x982000 x982001 x8).bind fun t996 => (if t996 = true then (some x8) else (some ([] : List Int))))
end
def spec_l2Use.f (k : Nat) (l0_0 : List (IVar)) (l0_1 : List (IRule)) (l1 : List Int) (a2 : Int) : Option (List Int) := if 0 ≤ a2 then (if a2 < (l0_1.length : Int) then ((spec_l2Last.f k ((rd_IRule l0_1 a2).f0) l1).bind fun t984 => (if t984 = 0 then (some ([] : List Int)) else (spec_l2Use.l0 k l1 (([] : List Int)) 0 l0_0 l0_1 ((rd_IRule l0_1 a2).f0) ((rd_IRule l0_1 a2).f1) ((rd_IRule l0_1 a2).f2)))) else (none)) else (none)
def impl_first.l0 : Nat → List Int → List (IVar) → Int → Int → Option (List Int)
  | 0, _, _, _, _ => none
  | k + 1, x3, x7, x8, x9 => if x9 < x8 then (if 0 ≤ x9 then (if x9 < (x7.length : Int) then (if x3.length < 17592186044416 then (impl_first.l0 k (x3 ++ [(rd_IVar x7 x9).f2]) x7 x8 (wrap64 (x9 + 1))) else (none)) else (none)) else (none)) else ((impl_clone_int.f x3).bind fun t1079 => (some t1079))
def impl_first.f (k : Nat) (l0_0 : List (IVar)) (l0_1 : List (IRule)) : Option (List Int) := impl_first.l0 k ([] : List Int) l0_0 (l0_0.length : Int) 0
def impl_inRange.l0 : Nat → List Int → List (IVar) → Int → Int → Option (Bool)
  | 0, _, _, _, _ => none
  | k + 1, x1, x14, x15, x16 => if x16 < x15 then (if 0 ≤ x16 then (if x16 < (x14.length : Int) then (if x16 < (x1.length : Int) then ((impl_in.f (rd x1 x16) ((rd_IVar x14 x16).f0) ((rd_IVar x14 x16).f1)).bind fun t1086 => (if t1086 = true then (impl_inRange.l0 k x1 x14 x15 (wrap64 (x16 + 1))) else (some false))) else (none)) else (none)) else (none)) else (some true)
def impl_inRange.f (k : Nat) (l0_0 : List (IVar)) (l0_1 : List (IRule)) (l1 : List Int) : Option (Bool) := if (l1.length : Int) = (l0_0.length : Int) then (impl_inRange.l0 k l1 l0_0 (l0_0.length : Int) 0) else (some false)
def impl_held.f (a0 : Int) : Option (Int) := some (mx (-9999) (mn 9999 a0))
def impl_bit.f (a0 : Bool) : Option (Int) := if a0 = true then (some 1) else (some 0)
def impl_do.f (a0 : Int) (a1 : Int) (a2 : Int) : Option (Int) := if a0 = 2 then ((impl_held.f (wrap64 (a1 + a2))).bind fun t1087 => (some t1087)) else (if a0 = 3 then ((impl_held.f (wrap64 (a1 - a2))).bind fun t1088 => (some t1088)) else (if a0 = 4 then ((impl_held.f (wrap64 (a1 * a2))).bind fun t1089 => (some t1089)) else (if a0 = 5 then ((impl_bit.f (decide (a1 < a2))).bind fun t1090 => (some t1090)) else (if a0 = 6 then ((impl_bit.f (a1 == a2)).bind fun t1091 => (some t1091)) else (if a0 = 7 then (some (wrap64 (1 - a1))) else (if a0 = 8 then (some (mn a1 a2)) else (some (mx a1 a2))))))))
def impl_eval.l0 : Nat → List Int → List Int → List (ITerm) → Int → Int → Option (Int)
  | 0, _, _, _, _, _ => none
  | k + 1, x1, x5, x11, x12, x13 => if x13 < x12 then (if 0 ≤ x13 then (if x13 < (x11.length : Int) then (if ((rd_ITerm x11 x13).f0) = 0 then (if x13 < (x5.length : Int) then (impl_eval.l0 k x1 (x5.set (x13 : Int).toNat ((rd_ITerm x11 x13).f1)) x11 x12 (wrap64 (x13 + 1))) else (none)) else (if ((rd_ITerm x11 x13).f0) = 1 then (if 0 ≤ ((rd_ITerm x11 x13).f1) then (if ((rd_ITerm x11 x13).f1) < (x1.length : Int) then (if x13 < (x5.length : Int) then (impl_eval.l0 k x1 (x5.set (x13 : Int).toNat (rd x1 ((rd_ITerm x11 x13).f1))) x11 x12 (wrap64 (x13 + 1))) else (none)) else (none)) else (none)) else (if 0 ≤ ((rd_ITerm x11 x13).f2) then (if ((rd_ITerm x11 x13).f2) < (x5.length : Int) then (if 0 ≤ ((rd_ITerm x11 x13).f3) then (if ((rd_ITerm x11 x13).f3) < (x5.length : Int) then ((impl_do.f ((rd_ITerm x11 x13).f0) (rd x5 ((rd_ITerm x11 x13).f2)) (rd x5 ((rd_ITerm x11 x13).f3))).bind fun t1103 => (if x13 < (x5.length : Int) then (impl_eval.l0 k x1 (x5.set (x13 : Int).toNat t1103) x11 x12 (wrap64 (x13 + 1))) else (none))) else (none)) else (none)) else (none)) else (none)))) else (none)) else (none)) else (if 0 ≤ (wrap64 ((x5.length : Int) - 1)) then (if (wrap64 ((x5.length : Int) - 1)) < (x5.length : Int) then (some (rd x5 (wrap64 ((x5.length : Int) - 1)))) else (none)) else (none))
def impl_eval.f (k : Nat) (l0 : List (ITerm)) (l1 : List Int) : Option (Int) := if 0 ≤ (l0.length : Int) then (if ((l0.length : Int) : Int).toNat ≤ 35184372088832 then (impl_eval.l0 k l1 (List.replicate ((l0.length : Int) : Int).toNat 0) l0 (l0.length : Int) 0) else (none)) else (none)
def impl_use.l0 : Nat → List Int → List Int → List Int → Int → Int → List (IVar) → List (IRule) → List (ITerm) → List Int → List (List (ITerm)) → Option (List Int × Bool)
  | 0, _, _, _, _, _, _, _, _, _, _ => none
  | k + 1, x1, x9, x25, x26, x27, x1106000, x1106001, x1108000, x1108001, x1108002 => if x27 < x26 then (if 0 ≤ x27 then (if x27 < (x25.length : Int) then (if x27 < (x1108002.length : Int) then ((impl_eval.f k (rd_LITerm x1108002 x27) x1).bind fun t1114 => (if 0 ≤ (rd x25 x27) then (if (rd x25 x27) < (x9.length : Int) then (impl_use.l0 k x1 (x9.set ((rd x25 x27) : Int).toNat t1114) x25 x26 (wrap64 (x27 + 1)) x1106000 x1106001 x1108000 x1108001 x1108002) else (none)) else (none))) else (none)) else (none)) else (none)) else ((impl_inRange.f k x1106000 x1106001 x9).bind fun t1116 => (if t1116 = true then (some (x9, true)) else (some (([] : List Int), false))))
def impl_use.f (k : Nat) (l0_0 : List (IVar)) (l0_1 : List (IRule)) (l1 : List Int) (a2 : Int) : Option (List Int × Bool) := if 0 ≤ a2 then (if a2 < (l0_1.length : Int) then ((impl_eval.f k ((rd_IRule l0_1 a2).f0) l1).bind fun t1108 => (if t1108 = 0 then (some (([] : List Int), false)) else ((impl_clone_int.f l1).bind fun t1109 => (impl_use.l0 k l1 t1109 ((rd_IRule l0_1 a2).f1) (((rd_IRule l0_1 a2).f1).length : Int) 0 l0_0 l0_1 ((rd_IRule l0_1 a2).f0) ((rd_IRule l0_1 a2).f1) ((rd_IRule l0_1 a2).f2))))) else (none)) else (none)
mutual
def impl_Replay.l1 : Nat → List (List Int) → List Int → Int → List IVar → List IRule → List Int → Option ((List (List Int) × List Int) × Int)
  | 0, _, _, _, _, _, _ => none
  | k + 1, x6b0, x6b1, x26, l0_0, l0_1, l1 => if x26 < (l1.length : Int) then (if 0 ≤ x26 then (if x26 < (l1.length : Int) then ((impl_in.f (rd l1 x26) 0 (wrap64 ((l0_1.length : Int) - 1))).bind fun r3 => if r3 = true then (if 0 ≤ x26 then (if x26 < (x6b0.length : Int) then ((impl_use.f k l0_0 l0_1 (rd_Lint x6b0 x26) (rd l1 x26)).bind fun r4 => if r4.2 = true then (if x6b0.length + 1 ≤ 1099511627776 then (if x6b1.length + 1 ≤ 1099511627776 then (impl_Replay.l1 k (x6b0 ++ [r4.1]) (x6b1 ++ [(rd l1 x26)]) (wrap64 (x26 + 1)) l0_0 l0_1 l1) else none) else none) else ((impl_clone_Lint.f x6b0).bind fun r5 => (impl_clone_int.f x6b1).bind fun r6 => some ((r5, r6), (x6b1.length : Int)))) else none) else none) else ((impl_clone_Lint.f x6b0).bind fun r7 => (impl_clone_int.f x6b1).bind fun r8 => some ((r7, r8), (x6b1.length : Int)))) else none) else none) else ((impl_clone_Lint.f x6b0).bind fun r9 => (impl_clone_int.f x6b1).bind fun r10 => some ((r9, r10), (x6b1.length : Int)))
end
def impl_Replay.f (k : Nat) (l0_0 : List IVar) (l0_1 : List IRule) (l1 : List Int) : Option ((List (List Int) × List Int) × Int) := (impl_SystemValid.f k l0_0 l0_1).bind fun r1 => if r1 = true then (if (l1.length : Int) ≥ 500 then (some ((([] : List (List Int)), ([] : List Int)), 0)) else ((impl_first.f k l0_0 l0_1).bind fun r2 => impl_Replay.l1 k [r2] ([] : List Int) 0 l0_0 l0_1 l1)) else (some ((([] : List (List Int)), ([] : List Int)), 0))
def laws_szVarS.f (l0 : List (LVar)) (a1 : Int) : Option (Int) := if (wrap64 (a1 - (l0.length : Int))) < 0 then (some (-1)) else (some (wrap64 (a1 - (l0.length : Int))))
def laws_szTermS.f (l0 : List (LTerm)) (a1 : Int) : Option (Int) := if (wrap64 (a1 - (l0.length : Int))) < 0 then (some (-1)) else (some (wrap64 (a1 - (l0.length : Int))))
def laws_szIntS.f (l0 : List Int) (a1 : Int) : Option (Int) := if (wrap64 (a1 - (l0.length : Int))) < 0 then (some (-1)) else (some (wrap64 (a1 - (l0.length : Int))))
def laws_szTermSS.l0 : Nat → List (List (LTerm)) → Int → Int → Option (Int)
  | 0, _, _, _ => none
  | k + 1, x0, x1, x5 => if x5 < (x0.length : Int) then (if 0 ≤ x5 then ((laws_szTermS.f (rd_LLTerm x0 x5) x1).bind fun t1304 => (if t1304 < 0 then (some (-1)) else (laws_szTermSS.l0 k x0 t1304 (wrap64 (x5 + 1))))) else (none)) else (some x1)
def laws_szTermSS.f (k : Nat) (l0 : List (List (LTerm))) (a1 : Int) : Option (Int) := if (wrap64 (a1 - (l0.length : Int))) < 0 then (some (-1)) else (laws_szTermSS.l0 k l0 (wrap64 (a1 - (l0.length : Int))) 0)
def laws_szRule.f (k : Nat) (l0_0 : List (LTerm)) (l0_1 : List Int) (l0_2 : List (List (LTerm))) (a1 : Int) : Option (Int) := (laws_szTermS.f l0_0 a1).bind fun t1306 => (if t1306 < 0 then (some (-1)) else ((laws_szIntS.f l0_1 t1306).bind fun t1307 => (if t1307 < 0 then (some (-1)) else ((laws_szTermSS.f k l0_2 t1307).bind fun t1308 => (if t1308 < 0 then (some (-1)) else (some t1308))))))
def laws_szRuleS.l0 : Nat → List (LRule) → Int → Int → Option (Int)
  | 0, _, _, _ => none
  | k + 1, x0, x1, x5 => if x5 < (x0.length : Int) then (if 0 ≤ x5 then ((laws_szRule.f k ((rd_LRule x0 x5).f0) ((rd_LRule x0 x5).f1) ((rd_LRule x0 x5).f2) x1).bind fun t1310 => (if t1310 < 0 then (some (-1)) else (laws_szRuleS.l0 k x0 t1310 (wrap64 (x5 + 1))))) else (none)) else (some x1)
def laws_szRuleS.f (k : Nat) (l0 : List (LRule)) (a1 : Int) : Option (Int) := if (wrap64 (a1 - (l0.length : Int))) < 0 then (some (-1)) else (laws_szRuleS.l0 k l0 (wrap64 (a1 - (l0.length : Int))) 0)
def laws_szSystem.f (k : Nat) (l0_0 : List (LVar)) (l0_1 : List (LRule)) (a1 : Int) : Option (Int) := (laws_szVarS.f l0_0 a1).bind fun t1312 => (if t1312 < 0 then (some (-1)) else ((laws_szRuleS.f k l0_1 t1312).bind fun t1313 => (if t1313 < 0 then (some (-1)) else (some t1313))))
mutual
def spec_Replay.l1 : Nat → List (List Int) → List Int → Int → List IVar → List IRule → List Int → Option ((List (List Int) × List Int) × Int)
  | 0, _, _, _, _, _, _ => none
  | k + 1, x6b0, x6b1, x7, l0_0, l0_1, l1 => if x7 < (l1.length : Int) then (if 0 ≤ x7 then (if x7 < (l1.length : Int) then ((spec_l1In.f (rd l1 x7) 0 (wrap64 ((l0_1.length : Int) - 1))).bind fun r3 => if r3 = true then (if 0 ≤ x7 then (if x7 < (x6b0.length : Int) then (if 0 ≤ x7 then (if x7 < (l1.length : Int) then ((spec_l2Use.f k l0_0 l0_1 (rd_Lint x6b0 x7) (rd l1 x7)).bind fun r4 => if (r4.length : Int) = 0 then (some ((x6b0, x6b1), x7)) else (if x6b0.length + 1 ≤ 1099511627776 then (if 0 ≤ x7 then (if x7 < (l1.length : Int) then (if x6b1.length + 1 ≤ 1099511627776 then (spec_Replay.l1 k (x6b0 ++ [r4]) (x6b1 ++ [(rd l1 x7)]) (wrap64 (x7 + 1)) l0_0 l0_1 l1) else none) else none) else none) else none)) else none) else none) else none) else none) else (some ((x6b0, x6b1), x7))) else none) else none) else (some ((x6b0, x6b1), (l1.length : Int)))
end
def spec_Replay.f (k : Nat) (l0_0 : List IVar) (l0_1 : List IRule) (l1 : List Int) : Option ((List (List Int) × List Int) × Int) := (spec_SystemValid.f k l0_0 l0_1).bind fun r1 => if r1 = true then (if (l1.length : Int) ≥ 500 then (some ((([] : List (List Int)), ([] : List Int)), 0)) else ((spec_FirstState.f k l0_0 l0_1).bind fun r2 => spec_Replay.l1 k [r2] ([] : List Int) 0 l0_0 l0_1 l1)) else (some ((([] : List (List Int)), ([] : List Int)), 0))
def laws_toVar.f (a0_0 : Int) (a0_1 : Int) (a0_2 : Int) : Option (Int × Int × Int) := some (a0_0, a0_1, a0_2)
def laws_toVarS.l0 : Nat → List (LVar) → List (IVar) → Int → Option ((List (IVar)))
  | 0, _, _, _ => none
  | k + 1, x0, x3, x4 => if x4 < (x0.length : Int) then (if 0 ≤ x4 then ((laws_toVar.f ((rd_LVar x0 x4).f0) ((rd_LVar x0 x4).f1) ((rd_LVar x0 x4).f2)).bind fun bt1345 => (if x4 < (x3.length : Int) then (laws_toVarS.l0 k x0 (x3.set (x4 : Int).toNat (⟨bt1345.1, bt1345.2.1, bt1345.2.2⟩ : IVar)) (wrap64 (x4 + 1))) else (none))) else (none)) else (some x3)
def laws_toVarS.f (k : Nat) (l0 : List (LVar)) : Option ((List (IVar))) := if 0 ≤ (l0.length : Int) then (if ((l0.length : Int) : Int).toNat ≤ 11728124029610 then (laws_toVarS.l0 k l0 (List.replicate ((l0.length : Int) : Int).toNat zIVar) 0) else (none)) else (none)
def laws_toIntS.l0 : Nat → List Int → List Int → Int → Option (List Int)
  | 0, _, _, _ => none
  | k + 1, x0, x3, x4 => if x4 < (x0.length : Int) then (if 0 ≤ x4 then (if x4 < (x3.length : Int) then (laws_toIntS.l0 k x0 (x3.set (x4 : Int).toNat (rd x0 x4)) (wrap64 (x4 + 1))) else (none)) else (none)) else (some x3)
def laws_toIntS.f (k : Nat) (l0 : List Int) : Option (List Int) := if 0 ≤ (l0.length : Int) then (if ((l0.length : Int) : Int).toNat ≤ 35184372088832 then (laws_toIntS.l0 k l0 (List.replicate ((l0.length : Int) : Int).toNat 0) 0) else (none)) else (none)
def laws_toTerm.f (a0_0 : Int) (a0_1 : Int) (a0_2 : Int) (a0_3 : Int) : Option (Int × Int × Int × Int) := some (a0_0, a0_1, a0_2, a0_3)
def laws_toTermS.l0 : Nat → List (LTerm) → List (ITerm) → Int → Option ((List (ITerm)))
  | 0, _, _, _ => none
  | k + 1, x0, x3, x4 => if x4 < (x0.length : Int) then (if 0 ≤ x4 then ((laws_toTerm.f ((rd_LTerm x0 x4).f0) ((rd_LTerm x0 x4).f1) ((rd_LTerm x0 x4).f2) ((rd_LTerm x0 x4).f3)).bind fun bt1361 => (if x4 < (x3.length : Int) then (laws_toTermS.l0 k x0 (x3.set (x4 : Int).toNat (⟨bt1361.1, bt1361.2.1, bt1361.2.2.1, bt1361.2.2.2⟩ : ITerm)) (wrap64 (x4 + 1))) else (none))) else (none)) else (some x3)
def laws_toTermS.f (k : Nat) (l0 : List (LTerm)) : Option ((List (ITerm))) := if 0 ≤ (l0.length : Int) then (if ((l0.length : Int) : Int).toNat ≤ 8796093022208 then (laws_toTermS.l0 k l0 (List.replicate ((l0.length : Int) : Int).toNat zITerm) 0) else (none)) else (none)
def laws_toTermSS.l0 : Nat → List (List (LTerm)) → List (List (ITerm)) → Int → Option ((List (List (ITerm))))
  | 0, _, _, _ => none
  | k + 1, x0, x3, x4 => if x4 < (x0.length : Int) then (if 0 ≤ x4 then ((laws_toTermS.f k (rd_LLTerm x0 x4)).bind fun t1370 => (if x4 < (x3.length : Int) then (laws_toTermSS.l0 k x0 (x3.set (x4 : Int).toNat t1370) (wrap64 (x4 + 1))) else (none))) else (none)) else (some x3)
def laws_toTermSS.f (k : Nat) (l0 : List (List (LTerm))) : Option ((List (List (ITerm)))) := if 0 ≤ (l0.length : Int) then (if ((l0.length : Int) : Int).toNat ≤ 11728124029610 then (laws_toTermSS.l0 k l0 (List.replicate ((l0.length : Int) : Int).toNat []) 0) else (none)) else (none)
def laws_toRule.f (k : Nat) (l0_0 : List (LTerm)) (l0_1 : List Int) (l0_2 : List (List (LTerm))) : Option ((List (ITerm)) × List Int × (List (List (ITerm)))) := (laws_toTermS.f k l0_0).bind fun t1377 => ((laws_toIntS.f k l0_1).bind fun t1380 => ((laws_toTermSS.f k l0_2).bind fun t1383 => (some (t1377, t1380, t1383))))
def laws_toRuleS.l0 : Nat → List (LRule) → List (IRule) → Int → Option ((List (IRule)))
  | 0, _, _, _ => none
  | k + 1, x0, x3, x4 => if x4 < (x0.length : Int) then (if 0 ≤ x4 then ((laws_toRule.f k ((rd_LRule x0 x4).f0) ((rd_LRule x0 x4).f1) ((rd_LRule x0 x4).f2)).bind fun bt1390 => (if x4 < (x3.length : Int) then (laws_toRuleS.l0 k x0 (x3.set (x4 : Int).toNat (⟨bt1390.1, bt1390.2.1, bt1390.2.2⟩ : IRule)) (wrap64 (x4 + 1))) else (none))) else (none)) else (some x3)
def laws_toRuleS.f (k : Nat) (l0 : List (LRule)) : Option ((List (IRule))) := if 0 ≤ (l0.length : Int) then (if ((l0.length : Int) : Int).toNat ≤ 3909374676536 then (laws_toRuleS.l0 k l0 (List.replicate ((l0.length : Int) : Int).toNat zIRule) 0) else (none)) else (none)
def laws_toSystem.f (k : Nat) (l0_0 : List (LVar)) (l0_1 : List (LRule)) : Option ((List (IVar)) × (List (IRule))) := (laws_toVarS.f k l0_0).bind fun t1403 => ((laws_toRuleS.f k l0_1).bind fun t1406 => (some (t1403, t1406)))
def laws_eqIntS.l0 : Nat → List Int → List Int → Int → Option (Bool)
  | 0, _, _, _ => none
  | k + 1, x0, x1, x5 => if x5 < (x0.length : Int) then (if 0 ≤ x5 then (if x5 < (x1.length : Int) then (if (rd x0 x5) = (rd x1 x5) then (laws_eqIntS.l0 k x0 x1 (wrap64 (x5 + 1))) else (some false)) else (none)) else (none)) else (some true)
def laws_eqIntS.f (k : Nat) (l0 : List Int) (l1 : List Int) : Option (Bool) := if (l0.length : Int) = (l1.length : Int) then (laws_eqIntS.l0 k l0 l1 0) else (some false)
def laws_eqIntSS.l0 : Nat → List (List Int) → List (List Int) → Int → Option (Bool)
  | 0, _, _, _ => none
  | k + 1, x0, x1, x5 => if x5 < (x0.length : Int) then (if 0 ≤ x5 then (if x5 < (x1.length : Int) then ((laws_eqIntS.f k (rd_Lint x0 x5) (rd_Lint x1 x5)).bind fun t1413 => (if t1413 = true then (laws_eqIntSS.l0 k x0 x1 (wrap64 (x5 + 1))) else (some false))) else (none)) else (none)) else (some true)
def laws_eqIntSS.f (k : Nat) (l0 : List (List Int)) (l1 : List (List Int)) : Option (Bool) := if (l0.length : Int) = (l1.length : Int) then (laws_eqIntSS.l0 k l0 l1 0) else (some false)
def laws_eqTrace.f (k : Nat) (l0_0 : List (List Int)) (l0_1 : List Int) (l1_0 : List (List Int)) (l1_1 : List Int) : Option (Bool) := (laws_eqIntSS.f k l0_0 l1_0).bind fun t1416 => (if t1416 = true then ((laws_eqIntS.f k l0_1 l1_1).bind fun t1417 => (if t1417 = true then (some true) else (some false))) else (some false))
def laws_eqVar.f (a0_0 : Int) (a0_1 : Int) (a0_2 : Int) (a1_0 : Int) (a1_1 : Int) (a1_2 : Int) : Option (Bool) := if a0_0 = a1_0 then (if a0_1 = a1_1 then (if a0_2 = a1_2 then (some true) else (some false)) else (some false)) else (some false)
def laws_eqVarS.l0 : Nat → List (IVar) → List (IVar) → Int → Option (Bool)
  | 0, _, _, _ => none
  | k + 1, x0, x1, x5 => if x5 < (x0.length : Int) then (if 0 ≤ x5 then (if x5 < (x1.length : Int) then ((laws_eqVar.f ((rd_IVar x0 x5).f0) ((rd_IVar x0 x5).f1) ((rd_IVar x0 x5).f2) ((rd_IVar x1 x5).f0) ((rd_IVar x1 x5).f1) ((rd_IVar x1 x5).f2)).bind fun t1422 => (if t1422 = true then (laws_eqVarS.l0 k x0 x1 (wrap64 (x5 + 1))) else (some false))) else (none)) else (none)) else (some true)
def laws_eqVarS.f (k : Nat) (l0 : List (IVar)) (l1 : List (IVar)) : Option (Bool) := if (l0.length : Int) = (l1.length : Int) then (laws_eqVarS.l0 k l0 l1 0) else (some false)
def laws_eqTerm.f (a0_0 : Int) (a0_1 : Int) (a0_2 : Int) (a0_3 : Int) (a1_0 : Int) (a1_1 : Int) (a1_2 : Int) (a1_3 : Int) : Option (Bool) := if a0_0 = a1_0 then (if a0_1 = a1_1 then (if a0_2 = a1_2 then (if a0_3 = a1_3 then (some true) else (some false)) else (some false)) else (some false)) else (some false)
def laws_eqTermS.l0 : Nat → List (ITerm) → List (ITerm) → Int → Option (Bool)
  | 0, _, _, _ => none
  | k + 1, x0, x1, x5 => if x5 < (x0.length : Int) then (if 0 ≤ x5 then (if x5 < (x1.length : Int) then ((laws_eqTerm.f ((rd_ITerm x0 x5).f0) ((rd_ITerm x0 x5).f1) ((rd_ITerm x0 x5).f2) ((rd_ITerm x0 x5).f3) ((rd_ITerm x1 x5).f0) ((rd_ITerm x1 x5).f1) ((rd_ITerm x1 x5).f2) ((rd_ITerm x1 x5).f3)).bind fun t1427 => (if t1427 = true then (laws_eqTermS.l0 k x0 x1 (wrap64 (x5 + 1))) else (some false))) else (none)) else (none)) else (some true)
def laws_eqTermS.f (k : Nat) (l0 : List (ITerm)) (l1 : List (ITerm)) : Option (Bool) := if (l0.length : Int) = (l1.length : Int) then (laws_eqTermS.l0 k l0 l1 0) else (some false)
def laws_eqTermSS.l0 : Nat → List (List (ITerm)) → List (List (ITerm)) → Int → Option (Bool)
  | 0, _, _, _ => none
  | k + 1, x0, x1, x5 => if x5 < (x0.length : Int) then (if 0 ≤ x5 then (if x5 < (x1.length : Int) then ((laws_eqTermS.f k (rd_LITerm x0 x5) (rd_LITerm x1 x5)).bind fun t1430 => (if t1430 = true then (laws_eqTermSS.l0 k x0 x1 (wrap64 (x5 + 1))) else (some false))) else (none)) else (none)) else (some true)
def laws_eqTermSS.f (k : Nat) (l0 : List (List (ITerm))) (l1 : List (List (ITerm))) : Option (Bool) := if (l0.length : Int) = (l1.length : Int) then (laws_eqTermSS.l0 k l0 l1 0) else (some false)
def laws_eqRule.f (k : Nat) (l0_0 : List (ITerm)) (l0_1 : List Int) (l0_2 : List (List (ITerm))) (l1_0 : List (ITerm)) (l1_1 : List Int) (l1_2 : List (List (ITerm))) : Option (Bool) := (laws_eqTermS.f k l0_0 l1_0).bind fun t1433 => (if t1433 = true then ((laws_eqIntS.f k l0_1 l1_1).bind fun t1434 => (if t1434 = true then ((laws_eqTermSS.f k l0_2 l1_2).bind fun t1435 => (if t1435 = true then (some true) else (some false))) else (some false))) else (some false))
def laws_eqRuleS.l0 : Nat → List (IRule) → List (IRule) → Int → Option (Bool)
  | 0, _, _, _ => none
  | k + 1, x0, x1, x5 => if x5 < (x0.length : Int) then (if 0 ≤ x5 then (if x5 < (x1.length : Int) then ((laws_eqRule.f k ((rd_IRule x0 x5).f0) ((rd_IRule x0 x5).f1) ((rd_IRule x0 x5).f2) ((rd_IRule x1 x5).f0) ((rd_IRule x1 x5).f1) ((rd_IRule x1 x5).f2)).bind fun t1438 => (if t1438 = true then (laws_eqRuleS.l0 k x0 x1 (wrap64 (x5 + 1))) else (some false))) else (none)) else (none)) else (some true)
def laws_eqRuleS.f (k : Nat) (l0 : List (IRule)) (l1 : List (IRule)) : Option (Bool) := if (l0.length : Int) = (l1.length : Int) then (laws_eqRuleS.l0 k l0 l1 0) else (some false)
def laws_eqSystem.f (k : Nat) (l0_0 : List (IVar)) (l0_1 : List (IRule)) (l1_0 : List (IVar)) (l1_1 : List (IRule)) : Option (Bool) := (laws_eqVarS.f k l0_0 l1_0).bind fun t1441 => (if t1441 = true then ((laws_eqRuleS.f k l0_1 l1_1).bind fun t1442 => (if t1442 = true then (some true) else (some false))) else (some false))
def laws_markIntS.l0 : Nat → List Int → Int → Int → Option (Int × List Int)
  | 0, _, _, _ => none
  | k + 1, x0, x1, x5 => if x5 < (x0.length : Int) then (if 0 ≤ x5 then (laws_markIntS.l0 k (x0.set (x5 : Int).toNat x1) (wrap64 (x1 + 1)) (wrap64 (x5 + 1))) else (none)) else (some (x1, x0))
def laws_markIntS.f (k : Nat) (l0 : List Int) (a1 : Int) : Option (Int × List Int) := laws_markIntS.l0 k l0 a1 0
def laws_markIntSS.f (k : Nat) : List (List Int) → Int → Option (Int × List (List Int))
  | [], a => some (a, [])
  | x :: l, a => (laws_markIntS.f k x a).bind fun p => (laws_markIntSS.f k l p.1).bind fun q => some (q.1, p.2 :: q.2)
def laws_heldIntS.l0 : Nat → List Int → Int → Int → Option (Int)
  | 0, _, _, _ => none
  | k + 1, x0, x1, x5 => if x5 < (x0.length : Int) then (if 0 ≤ x5 then (if (rd x0 x5) = x1 then (laws_heldIntS.l0 k x0 (wrap64 (x1 + 1)) (wrap64 (x5 + 1))) else (some (-1))) else (none)) else (some x1)
def laws_heldIntS.f (k : Nat) (l0 : List Int) (a1 : Int) : Option (Int) := laws_heldIntS.l0 k l0 a1 0
def laws_heldIntSS.l0 : Nat → List (List Int) → Int → Int → Option (Int)
  | 0, _, _, _ => none
  | k + 1, x0, x1, x5 => if x5 < (x0.length : Int) then (if 0 ≤ x5 then ((laws_heldIntS.f k (rd_Lint x0 x5) x1).bind fun t1459 => (if t1459 < 0 then (some (-1)) else (laws_heldIntSS.l0 k x0 t1459 (wrap64 (x5 + 1))))) else (none)) else (some x1)
def laws_heldIntSS.f (k : Nat) (l0 : List (List Int)) (a1 : Int) : Option (Int) := laws_heldIntSS.l0 k l0 a1 0
def laws_heldTrace.f (k : Nat) (l0_0 : List (List Int)) (l0_1 : List Int) (a1 : Int) : Option (Int) := (laws_heldIntSS.f k l0_0 a1).bind fun t1461 => (if t1461 < 0 then (some (-1)) else ((laws_heldIntS.f k l0_1 t1461).bind fun t1462 => (if t1462 < 0 then (some (-1)) else (some t1462))))
end Go.Proofs.Ytpjmiaooogephaa.PA
