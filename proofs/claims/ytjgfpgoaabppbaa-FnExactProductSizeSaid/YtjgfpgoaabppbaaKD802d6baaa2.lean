/- Types and the Lean functions that the walks are told against. No conditions. -/
import Derived.Test.YtjgfpgoaabppbaaProg
import Derived.Below
import Derived.Deep.Draws
import Derived.Deep.AppendLies
import Derived.Maps.AppendAt
import Derived.OwnWalk
import Derived.Laws.BytesArg
import Derived.Laws.MakeOwn
import Derived.Laws.OwnMore
import Derived.Deep.OwnRows
import Derived.Tactics
import Derived.Lib.ConvBytes
import Derived.Laws.Slices
import Derived.WalkKit
import Derived.KernelRfl
import Derived.RowKit3
import Derived.Deep.LoopGhost
import Derived.Deep.QuietTactic
import Derived.BigQuiet
import Derived.WideLaws
import Derived.Deep.DeepCutAuto
import Derived.Deep.CutBlock
import Derived.Deep.RegionHeld3
import Derived.Laws.Rows
import Derived.Lib.AppendStr
import Derived.ArgAppend
import Derived.Laws.IdiomCopy
import Derived.OrdersHeld
import Derived.Laws.BitsLemmas
import Derived.RowKit
import Derived.Laws.StructEq
import Derived.Lib.SliceRun
import Derived.WalkSpells
import Derived.ChangeArms
import Derived.ChangeSlices
import Derived.Deep.Slices
import Derived.Test.YtjgfpgoaabppbaaKW34eb79403f
namespace Go.Proofs.Ytjgfpgoaabppbaa.PA
open Go.RowKit Go.Proofs.YtjgfpgoaabppbaaW.PrintWords Go.Proofs.YtjgfpgoaabppbaaW.PrintLast Go.Proofs.YtjgfpgoaabppbaaW.PrintMore
attribute [local go_sem] max2_int min2_int max_two min_two max_three min_three max_four min_four   -- for this text's walks alone
set_option linter.unusedVariables false
set_option linter.unusedSimpArgs false
structure LVar where
  f0 : Int
  f1 : Int
  f2 : Int
def zLVar : LVar := ⟨(0 : Int), (0 : Int), (0 : Int)⟩
def rd_LVar (xs : List LVar) (i : Int) : LVar := xs.getD i.toNat zLVar
structure LTerm where
  f0 : Int
  f1 : Int
  f2 : Int
  f3 : Int
def zLTerm : LTerm := ⟨(0 : Int), (0 : Int), (0 : Int), (0 : Int)⟩
def rd_LTerm (xs : List LTerm) (i : Int) : LTerm := xs.getD i.toNat zLTerm
def rd_LLTerm (xs : List (List LTerm)) (i : Int) : (List LTerm) := xs.getD i.toNat ([] : List LTerm)
structure LRule where
  f0 : (List LTerm)
  f1 : (List Int)
  f2 : (List (List LTerm))
def zLRule : LRule := ⟨([] : List LTerm), ([] : List Int), ([] : List (List LTerm))⟩
def rd_LRule (xs : List LRule) (i : Int) : LRule := xs.getD i.toNat zLRule
structure LSystem where
  f0 : (List LVar)
  f1 : (List LRule)
structure LTime where
  f0 : Int
  f1 : Int
  f2 : Int
  f3 : Int
def zLTime : LTime := ⟨(0 : Int), (0 : Int), (0 : Int), (0 : Int)⟩
def rd_LTime (xs : List LTime) (i : Int) : LTime := xs.getD i.toNat zLTime
structure ITime where
  f0 : Int
  f1 : Int
  f2 : Int
  f3 : Int
def zITime : ITime := ⟨(0 : Int), (0 : Int), (0 : Int), (0 : Int)⟩
def rd_ITime (xs : List ITime) (i : Int) : ITime := xs.getD i.toNat zITime
structure ITerm where
  f0 : Int
  f1 : Int
  f2 : Int
  f3 : Int
def zITerm : ITerm := ⟨(0 : Int), (0 : Int), (0 : Int), (0 : Int)⟩
def rd_ITerm (xs : List ITerm) (i : Int) : ITerm := xs.getD i.toNat zITerm
def rd_LITerm (xs : List (List ITerm)) (i : Int) : (List ITerm) := xs.getD i.toNat ([] : List ITerm)
structure IVar where
  f0 : Int
  f1 : Int
  f2 : Int
def zIVar : IVar := ⟨(0 : Int), (0 : Int), (0 : Int)⟩
def rd_IVar (xs : List IVar) (i : Int) : IVar := xs.getD i.toNat zIVar
structure IRule where
  f0 : (List ITerm)
  f1 : (List Int)
  f2 : (List (List ITerm))
def zIRule : IRule := ⟨([] : List ITerm), ([] : List Int), ([] : List (List ITerm))⟩
def rd_IRule (xs : List IRule) (i : Int) : IRule := xs.getD i.toNat zIRule
def spec_l1In.f (a0 : Int) (a1 : Int) (a2 : Int) : Option (Bool) := if a0 ≥ a1 then (some (decide (a0 ≤ a2))) else (some false)
def laws_toIntS.l0 : Nat → List Int → List Int → Int → Option (List Int)
  | 0, _, _, _ => none
  | k + 1, x0, x3, x4 => if x4 < (x0.length : Int) then (if 0 ≤ x4 then (if x4 < (x3.length : Int) then (laws_toIntS.l0 k x0 (x3.set (x4 : Int).toNat (rd x0 x4)) (wrap64 (x4 + 1))) else (none)) else (none)) else (some x3)
def laws_toIntS.f (k : Nat) (l0 : List Int) : Option (List Int) := if 0 ≤ (l0.length : Int) then (if ((l0.length : Int) : Int).toNat ≤ 35184372088832 then (laws_toIntS.l0 k l0 (List.replicate ((l0.length : Int) : Int).toNat 0) 0) else (none)) else (none)
def impl_in.f (a0 : Int) (a1 : Int) (a2 : Int) : Option (Bool) := if a0 ≥ a1 then (some (decide (a0 ≤ a2))) else (some false)
def impl_clone_int.f (l0 : List Int) : Option (List Int) := if l0.length ≤ 35184372088832 then some l0 else none
def laws_eqIntS.l0 : Nat → List Int → List Int → Int → Option (Bool)
  | 0, _, _, _ => none
  | k + 1, x0, x1, x5 => if x5 < (x0.length : Int) then (if 0 ≤ x5 then (if x5 < (x1.length : Int) then (if (rd x0 x5) = (rd x1 x5) then (laws_eqIntS.l0 k x0 x1 (wrap64 (x5 + 1))) else (some false)) else (none)) else (none)) else (some true)
def laws_eqIntS.f (k : Nat) (l0 : List Int) (l1 : List Int) : Option (Bool) := if (l0.length : Int) = (l1.length : Int) then (laws_eqIntS.l0 k l0 l1 0) else (some false)
def laws_szIntS.f (l0 : List Int) (a1 : Int) : Option (Int) := if (wrap64 (a1 - (l0.length : Int))) < 0 then (some (-1)) else (some (wrap64 (a1 - (l0.length : Int))))
def laws_szTimeS.f (l0 : List (LTime)) (a1 : Int) : Option (Int) := if (wrap64 (a1 - (l0.length : Int))) < 0 then (some (-1)) else (some (wrap64 (a1 - (l0.length : Int))))
def spec_l20One.f (a0 : Int) : Option (Bool) := if a0 = 2 then (some true) else (some (a0 == 5))
def spec_l20Step.j0 : Nat → Bool → Int → Int → Int → Int → Option (Bool)
  | 0, _, _, _, _, _ => none
  | k + 1, x65, x749000, x749001, x749002, x749003 => if x65 = true then (some false) else ((spec_l20One.f x749000).bind fun t753 => (if t753 = true then (some (x749003 == x749002)) else (some true)))
def spec_l20Step.f (k : Nat) (a0_0 : Int) (a0_1 : Int) (a0_2 : Int) (a0_3 : Int) (a1 : Int) (a2 : Int) : Option (Bool) := if a0_0 = 0 then (if a0_1 = 0 then (if a0_2 = 0 then (some (a0_3 == 0)) else (some false)) else (some false)) else (if a0_0 = 1 then ((spec_l1In.f a0_1 0 (wrap64 (a2 - 1))).bind fun t749 => (if t749 = true then (if a0_2 = 0 then (some (a0_3 == 0)) else (some false)) else (some false))) else ((spec_l1In.f a0_0 2 7).bind fun t750 => (if t750 = true then (if a0_1 = 0 then ((spec_l1In.f a0_2 0 (wrap64 (a1 - 1))).bind fun t751 => (if t751 = true then ((spec_l1In.f a0_3 0 (wrap64 (a1 - 1))).bind fun t752 => (spec_l20Step.j0 k (!t752) a0_0 a0_1 a0_2 a0_3)) else (spec_l20Step.j0 k true a0_0 a0_1 a0_2 a0_3))) else (spec_l20Step.j0 k true a0_0 a0_1 a0_2 a0_3)) else (spec_l20Step.j0 k true a0_0 a0_1 a0_2 a0_3))))
mutual
def spec_TimesValid.j0 : Nat → List (ITime) → Int → Bool → Option (Bool)
  | 0, _, _, _ => none
  | k + 1, x0, x1, x14 => if x14 = true then (some false) else (spec_TimesValid.l0 k x0 x1 0)
def spec_TimesValid.l0 : Nat → List (ITime) → Int → Int → Option (Bool)
  | 0, _, _, _ => none
  | k + 1, x0, x1, x5 => if x5 < (x0.length : Int) then (if 0 ≤ x5 then ((spec_l20Step.f k ((rd_ITime x0 x5).f0) ((rd_ITime x0 x5).f1) ((rd_ITime x0 x5).f2) ((rd_ITime x0 x5).f3) x5 x1).bind fun t757 => (if t757 = true then (spec_TimesValid.l0 k x0 x1 (wrap64 (x5 + 1))) else (some false))) else (none)) else (some true)
end
def spec_TimesValid.f (k : Nat) (l0 : List (ITime)) (a1 : Int) : Option (Bool) := (spec_l1In.f a1 0 4).bind fun t754 => (if t754 = true then ((spec_l1In.f (l0.length : Int) 1 24).bind fun t755 => (spec_TimesValid.j0 k l0 a1 (!t755))) else (spec_TimesValid.j0 k l0 a1 true))
def spec_l21Steps.l0 : Nat → List (ITime) → List Int → Int → Option (List Int)
  | 0, _, _, _ => none
  | k + 1, x0, x3, x4 => if x4 < (x0.length : Int) then (if 0 ≤ x4 then (if ((rd_ITime x0 x4).f0) ≥ 5 then (if x3.length < 17592186044416 then (spec_l21Steps.l0 k x0 (x3 ++ [x4]) (wrap64 (x4 + 1))) else (none)) else (spec_l21Steps.l0 k x0 x3 (wrap64 (x4 + 1)))) else (none)) else (some x3)
def spec_l21Steps.f (k : Nat) (l0 : List (ITime)) : Option (List Int) := spec_l21Steps.l0 k l0 (([] : List Int)) 0
def spec_l21Asked.f (k : Nat) (l0 : List (ITime)) (a1 : Int) : Option (Bool) := (spec_TimesValid.f k l0 a1).bind fun t856 => (if t856 = true then ((spec_l21Steps.f k l0).bind fun t857 => (some (decide ((wrap64 (a1 + (t857.length : Int))) ≤ 7)))) else (some false))
def laws_toTime.f (a0_0 : Int) (a0_1 : Int) (a0_2 : Int) (a0_3 : Int) : Option (Int × Int × Int × Int) := some (a0_0, a0_1, a0_2, a0_3)
def laws_toTimeS.l0 : Nat → List (LTime) → List (ITime) → Int → Option ((List (ITime)))
  | 0, _, _, _ => none
  | k + 1, x0, x3, x4 => if x4 < (x0.length : Int) then (if 0 ≤ x4 then ((laws_toTime.f ((rd_LTime x0 x4).f0) ((rd_LTime x0 x4).f1) ((rd_LTime x0 x4).f2) ((rd_LTime x0 x4).f3)).bind fun bt895 => (if x4 < (x3.length : Int) then (laws_toTimeS.l0 k x0 (x3.set (x4 : Int).toNat (⟨bt895.1, bt895.2.1, bt895.2.2.1, bt895.2.2.2⟩ : ITime)) (wrap64 (x4 + 1))) else (none))) else (none)) else (some x3)
def laws_toTimeS.f (k : Nat) (l0 : List (LTime)) : Option ((List (ITime))) := if 0 ≤ (l0.length : Int) then (if ((l0.length : Int) : Int).toNat ≤ 8796093022208 then (laws_toTimeS.l0 k l0 (List.replicate ((l0.length : Int) : Int).toNat zITime) 0) else (none)) else (none)
mutual
def impl_TimesValid.j0 : Nat → List (ITime) → Int → Bool → Option (Bool)
  | 0, _, _, _ => none
  | k + 1, x0, x1, x16 => if x16 = true then (some false) else (impl_TimesValid.l0 k x1 x0 (x0.length : Int) 0)
def impl_TimesValid.l0 : Nat → Int → List (ITime) → Int → Int → Option (Bool)
  | 0, _, _, _, _ => none
  | k + 1, x1, x17, x18, x19 => if x19 < x18 then (if 0 ≤ x19 then (if x19 < (x17.length : Int) then ((impl_in.f ((rd_ITime x17 x19).f0) 0 7).bind fun t904 => (if ((rd_ITime x17 x19).f0) = 0 then (impl_TimesValid.j2 k x1 (((rd_ITime x17 x19).f0) == 0 && (((rd_ITime x17 x19).f1) == 0 && (((rd_ITime x17 x19).f2) == 0 && (((rd_ITime x17 x19).f3) == 0)))) x17 x18 x19) else (if ((rd_ITime x17 x19).f0) = 1 then ((impl_in.f ((rd_ITime x17 x19).f1) 0 (wrap64 (x1 - 1))).bind fun t905 => (if t905 = true then (if ((rd_ITime x17 x19).f2) = 0 then (impl_TimesValid.j2 k x1 (((rd_ITime x17 x19).f3) == 0) x17 x18 x19) else (impl_TimesValid.j2 k x1 false x17 x18 x19)) else (impl_TimesValid.j2 k x1 false x17 x18 x19))) else (if t904 = true then (if ((rd_ITime x17 x19).f1) = 0 then ((impl_in.f ((rd_ITime x17 x19).f2) 0 (wrap64 (x19 - 1))).bind fun t906 => (if t906 = true then ((impl_in.f ((rd_ITime x17 x19).f3) 0 (wrap64 (x19 - 1))).bind fun t907 => (if t907 = true then (if ((rd_ITime x17 x19).f2) = ((rd_ITime x17 x19).f3) then (impl_TimesValid.j2 k x1 true x17 x18 x19) else (if ((rd_ITime x17 x19).f0) = 2 then (impl_TimesValid.j2 k x1 false x17 x18 x19) else (impl_TimesValid.j2 k x1 (((rd_ITime x17 x19).f0) != 5) x17 x18 x19))) else (impl_TimesValid.j2 k x1 false x17 x18 x19))) else (impl_TimesValid.j2 k x1 false x17 x18 x19))) else (impl_TimesValid.j2 k x1 false x17 x18 x19)) else (impl_TimesValid.j2 k x1 false x17 x18 x19))))) else (none)) else (none)) else (some true)
def impl_TimesValid.j2 : Nat → Int → Bool → List (ITime) → Int → Int → Option (Bool)
  | 0, _, _, _, _, _ => none
  | k + 1, x1, x7, x17, x18, x19 => if x7 = true then (impl_TimesValid.l0 k x1 x17 x18 (wrap64 (x19 + 1))) else (some false)
end
def impl_TimesValid.f (k : Nat) (l0 : List (ITime)) (a1 : Int) : Option (Bool) := (impl_in.f a1 0 4).bind fun t900 => (if t900 = true then ((impl_in.f (l0.length : Int) 1 24).bind fun t901 => (impl_TimesValid.j0 k l0 a1 (!t901))) else (impl_TimesValid.j0 k l0 a1 true))
def impl_guessed.l0 : Nat → Int → List Int → List (ITime) → Int → Int → Option (List Int × Bool)
  | 0, _, _, _, _, _ => none
  | k + 1, x1, x6, x13, x14, x15 => if x15 < x14 then (if 0 ≤ x15 then (if x15 < (x13.length : Int) then (if ((rd_ITime x13 x15).f0) ≥ 5 then (if x6.length < 17592186044416 then (impl_guessed.l0 k x1 (x6 ++ [x15]) x13 x14 (wrap64 (x15 + 1))) else (none)) else (impl_guessed.l0 k x1 x6 x13 x14 (wrap64 (x15 + 1)))) else (none)) else (none)) else ((impl_clone_int.f x6).bind fun t914 => (some (t914, decide ((wrap64 (x1 + (x6.length : Int))) ≤ 7))))
def impl_guessed.f (k : Nat) (l0 : List (ITime)) (a1 : Int) : Option (List Int × Bool) := (impl_TimesValid.f k l0 a1).bind fun t908 => (if t908 = true then (impl_guessed.l0 k a1 ([] : List Int) l0 (l0.length : Int) 0) else (some (([] : List Int), false)))
def laws_eqTime.f (a0_0 : Int) (a0_1 : Int) (a0_2 : Int) (a0_3 : Int) (a1_0 : Int) (a1_1 : Int) (a1_2 : Int) (a1_3 : Int) : Option (Bool) := if a0_0 = a1_0 then (if a0_1 = a1_1 then (if a0_2 = a1_2 then (if a0_3 = a1_3 then (some true) else (some false)) else (some false)) else (some false)) else (some false)
def laws_eqTimeS.l0 : Nat → List (ITime) → List (ITime) → Int → Option (Bool)
  | 0, _, _, _ => none
  | k + 1, x0, x1, x5 => if x5 < (x0.length : Int) then (if 0 ≤ x5 then (if x5 < (x1.length : Int) then ((laws_eqTime.f ((rd_ITime x0 x5).f0) ((rd_ITime x0 x5).f1) ((rd_ITime x0 x5).f2) ((rd_ITime x0 x5).f3) ((rd_ITime x1 x5).f0) ((rd_ITime x1 x5).f1) ((rd_ITime x1 x5).f2) ((rd_ITime x1 x5).f3)).bind fun t933 => (if t933 = true then (laws_eqTimeS.l0 k x0 x1 (wrap64 (x5 + 1))) else (some false))) else (none)) else (none)) else (some true)
def laws_eqTimeS.f (k : Nat) (l0 : List (ITime)) (l1 : List (ITime)) : Option (Bool) := if (l0.length : Int) = (l1.length : Int) then (laws_eqTimeS.l0 k l0 l1 0) else (some false)
def laws_szVarS.f (l0 : List (LVar)) (a1 : Int) : Option (Int) := if (wrap64 (a1 - (l0.length : Int))) < 0 then (some (-1)) else (some (wrap64 (a1 - (l0.length : Int))))
def laws_szTermS.f (l0 : List (LTerm)) (a1 : Int) : Option (Int) := if (wrap64 (a1 - (l0.length : Int))) < 0 then (some (-1)) else (some (wrap64 (a1 - (l0.length : Int))))
def laws_szTermSS.l0 : Nat → List (List (LTerm)) → Int → Int → Option (Int)
  | 0, _, _, _ => none
  | k + 1, x0, x1, x5 => if x5 < (x0.length : Int) then (if 0 ≤ x5 then ((laws_szTermS.f (rd_LLTerm x0 x5) x1).bind fun t1255 => (if t1255 < 0 then (some (-1)) else (laws_szTermSS.l0 k x0 t1255 (wrap64 (x5 + 1))))) else (none)) else (some x1)
def laws_szTermSS.f (k : Nat) (l0 : List (List (LTerm))) (a1 : Int) : Option (Int) := if (wrap64 (a1 - (l0.length : Int))) < 0 then (some (-1)) else (laws_szTermSS.l0 k l0 (wrap64 (a1 - (l0.length : Int))) 0)
def laws_szRule.f (k : Nat) (l0_0 : List (LTerm)) (l0_1 : List Int) (l0_2 : List (List (LTerm))) (a1 : Int) : Option (Int) := (laws_szTermS.f l0_0 a1).bind fun t1257 => (if t1257 < 0 then (some (-1)) else ((laws_szIntS.f l0_1 t1257).bind fun t1258 => (if t1258 < 0 then (some (-1)) else ((laws_szTermSS.f k l0_2 t1258).bind fun t1259 => (if t1259 < 0 then (some (-1)) else (some t1259))))))
def laws_szRuleS.l0 : Nat → List (LRule) → Int → Int → Option (Int)
  | 0, _, _, _ => none
  | k + 1, x0, x1, x5 => if x5 < (x0.length : Int) then (if 0 ≤ x5 then ((laws_szRule.f k ((rd_LRule x0 x5).f0) ((rd_LRule x0 x5).f1) ((rd_LRule x0 x5).f2) x1).bind fun t1261 => (if t1261 < 0 then (some (-1)) else (laws_szRuleS.l0 k x0 t1261 (wrap64 (x5 + 1))))) else (none)) else (some x1)
def laws_szRuleS.f (k : Nat) (l0 : List (LRule)) (a1 : Int) : Option (Int) := if (wrap64 (a1 - (l0.length : Int))) < 0 then (some (-1)) else (laws_szRuleS.l0 k l0 (wrap64 (a1 - (l0.length : Int))) 0)
def laws_szSystem.f (k : Nat) (l0_0 : List (LVar)) (l0_1 : List (LRule)) (a1 : Int) : Option (Int) := (laws_szVarS.f l0_0 a1).bind fun t1263 => (if t1263 < 0 then (some (-1)) else ((laws_szRuleS.f k l0_1 t1263).bind fun t1264 => (if t1264 < 0 then (some (-1)) else (some t1264))))
def spec_l2Var.f (a0_0 : Int) (a0_1 : Int) (a0_2 : Int) : Option (Bool) := (spec_l1In.f a0_0 (-9999) 9999).bind fun t1266 => (if t1266 = true then ((spec_l1In.f a0_1 a0_0 9999).bind fun t1267 => (if t1267 = true then (if (wrap64 (a0_1 - a0_0)) < 20 then ((spec_l1In.f a0_2 a0_0 a0_1).bind fun t1268 => (some t1268)) else (some false)) else (some false))) else (some false))
def spec_l1One.f (a0 : Int) : Option (Bool) := some (a0 == 7)
mutual
def spec_l1Kind.j0 : Nat → List Int → Int → Bool → Int → Int → Int → Int → Option (Int)
  | 0, _, _, _, _, _, _, _ => none
  | k + 1, x1, x2, x25, x1270000, x1270001, x1270002, x1270003 => if x25 = true then (some 1) else (if x1270000 = 1 then ((spec_l1In.f x1270001 0 (wrap64 (x2 - 1))).bind fun t1271 => (if t1271 = true then (if x1270002 = 0 then (spec_l1Kind.j1 k x1 (x1270003 == 0) x1270000 x1270001 x1270002 x1270003) else (spec_l1Kind.j1 k x1 false x1270000 x1270001 x1270002 x1270003)) else (spec_l1Kind.j1 k x1 false x1270000 x1270001 x1270002 x1270003))) else (spec_l1Kind.j1 k x1 false x1270000 x1270001 x1270002 x1270003))
def spec_l1Kind.j1 : Nat → List Int → Bool → Int → Int → Int → Int → Option (Int)
  | 0, _, _, _, _, _, _ => none
  | k + 1, x1, x45, x1270000, x1270001, x1270002, x1270003 => if x45 = true then (some 1) else ((spec_l1In.f x1270000 2 9).bind fun t1272 => (if t1272 = true then (if x1270001 = 0 then ((spec_l1In.f x1270002 0 (wrap64 ((x1.length : Int) - 1))).bind fun t1273 => (if t1273 = true then ((spec_l1In.f x1270003 0 (wrap64 ((x1.length : Int) - 1))).bind fun t1274 => (spec_l1Kind.j2 k x1 (!t1274) x1270000 x1270001 x1270002 x1270003)) else (spec_l1Kind.j2 k x1 true x1270000 x1270001 x1270002 x1270003))) else (spec_l1Kind.j2 k x1 true x1270000 x1270001 x1270002 x1270003)) else (spec_l1Kind.j2 k x1 true x1270000 x1270001 x1270002 x1270003)))
def spec_l1Kind.j2 : Nat → List Int → Bool → Int → Int → Int → Int → Option (Int)
  | 0, _, _, _, _, _, _ => none
  | k + 1, x1, x72, x1270000, x1270001, x1270002, x1270003 => if x72 = true then (some 0) else (if x1270000 ≥ 7 then (spec_l1Kind.j3 k x1 2 x1270000 x1270001 x1270002 x1270003) else (spec_l1Kind.j3 k x1 1 x1270000 x1270001 x1270002 x1270003))
def spec_l1Kind.j3 : Nat → List Int → Int → Int → Int → Int → Int → Option (Int)
  | 0, _, _, _, _, _, _ => none
  | k + 1, x1, x7, x1270000, x1270001, x1270002, x1270003 => if 0 ≤ x1270002 then (if x1270002 < (x1.length : Int) then (if (rd x1 x1270002) = x7 then (if 0 ≤ x1270003 then (if x1270003 < (x1.length : Int) then (if (rd x1 x1270003) = x7 then ((spec_l1One.f x1270000).bind fun t1277 => (if t1277 = true then (spec_l1Kind.j4 k (x1270003 != x1270002) x1270000 x1270001 x1270002 x1270003) else (spec_l1Kind.j4 k false x1270000 x1270001 x1270002 x1270003))) else (spec_l1Kind.j4 k true x1270000 x1270001 x1270002 x1270003)) else (none)) else (none)) else (spec_l1Kind.j4 k true x1270000 x1270001 x1270002 x1270003)) else (none)) else (none)
def spec_l1Kind.j4 : Nat → Bool → Int → Int → Int → Int → Option (Int)
  | 0, _, _, _, _, _ => none
  | k + 1, x103, x1270000, x1270001, x1270002, x1270003 => if x103 = true then (some 0) else (if x1270000 ≥ 5 then (some 2) else (some 1))
end
def spec_l1Kind.f (k : Nat) (a0_0 : Int) (a0_1 : Int) (a0_2 : Int) (a0_3 : Int) (l1 : List Int) (a2 : Int) : Option (Int) := if a0_0 = 0 then ((spec_l1In.f a0_1 (-9999) 9999).bind fun t1270 => (if t1270 = true then (if a0_2 = 0 then (spec_l1Kind.j0 k l1 a2 (a0_3 == 0) a0_0 a0_1 a0_2 a0_3) else (spec_l1Kind.j0 k l1 a2 false a0_0 a0_1 a0_2 a0_3)) else (spec_l1Kind.j0 k l1 a2 false a0_0 a0_1 a0_2 a0_3))) else (spec_l1Kind.j0 k l1 a2 false a0_0 a0_1 a0_2 a0_3)
mutual
def spec_KindsOf.j0 : Nat → List (ITerm) → Int → Bool → Option (List Int)
  | 0, _, _, _ => none
  | k + 1, x0, x1, x16 => if x16 = true then (some ([] : List Int)) else (spec_KindsOf.l0 k x0 x1 (([] : List Int)) 0)
def spec_KindsOf.l0 : Nat → List (ITerm) → Int → List Int → Int → Option (List Int)
  | 0, _, _, _, _ => none
  | k + 1, x0, x1, x5, x6 => if x6 < (x0.length : Int) then (if 0 ≤ x6 then ((spec_l1Kind.f k ((rd_ITerm x0 x6).f0) ((rd_ITerm x0 x6).f1) ((rd_ITerm x0 x6).f2) ((rd_ITerm x0 x6).f3) x5 x1).bind fun t1284 => (if t1284 = 0 then (some ([] : List Int)) else (if x5.length < 17592186044416 then (spec_KindsOf.l0 k x0 x1 (x5 ++ [t1284]) (wrap64 (x6 + 1))) else (none)))) else (none)) else (some x5)
end
def spec_KindsOf.f (k : Nat) (l0 : List (ITerm)) (a1 : Int) : Option (List Int) := (spec_l1In.f a1 0 5).bind fun t1278 => (if t1278 = true then ((spec_l1In.f (l0.length : Int) 1 40).bind fun t1279 => (spec_KindsOf.j0 k l0 a1 (!t1279))) else (spec_KindsOf.j0 k l0 a1 true))
def spec_l2Is.f (k : Nat) (l0 : List (ITerm)) (a1 : Int) (a2 : Int) : Option (Bool) := (spec_KindsOf.f k l0 a1).bind fun t1288 => (if (t1288.length : Int) > 0 then (if 0 ≤ (wrap64 ((t1288.length : Int) - 1)) then (if (wrap64 ((t1288.length : Int) - 1)) < (t1288.length : Int) then (some ((rd t1288 (wrap64 ((t1288.length : Int) - 1))) == a2)) else (none)) else (none)) else (some false))
mutual
def spec_l2Rule.j0 : Nat → Int → Bool → List (ITerm) → List Int → List (List (ITerm)) → Option (Bool)
  | 0, _, _, _, _, _ => none
  | k + 1, x1, x26, x1293000, x1293001, x1293002 => if x26 = true then (some false) else (spec_l2Rule.l0 k x1 0 x1293000 x1293001 x1293002)
def spec_l2Rule.l0 : Nat → Int → Int → List (ITerm) → List Int → List (List (ITerm)) → Option (Bool)
  | 0, _, _, _, _, _ => none
  | k + 1, x1, x5, x1293000, x1293001, x1293002 => if x5 < (x1293001.length : Int) then (if 0 ≤ x5 then ((spec_l1In.f (rd x1293001 x5) 0 (wrap64 (x1 - 1))).bind fun t1295 => (if t1295 = true then (if x5 > 0 then (if 0 ≤ (wrap64 (x5 - 1)) then (if (wrap64 (x5 - 1)) < (x1293001.length : Int) then (if (rd x1293001 x5) ≤ (rd x1293001 (wrap64 (x5 - 1))) then (spec_l2Rule.j2 k x1 x5 true x1293000 x1293001 x1293002) else (if x5 < (x1293002.length : Int) then ((spec_l2Is.f k (rd_LITerm x1293002 x5) x1 1).bind fun t1299 => (spec_l2Rule.j2 k x1 x5 (!t1299) x1293000 x1293001 x1293002)) else (none))) else (none)) else (none)) else (if x5 < (x1293002.length : Int) then ((spec_l2Is.f k (rd_LITerm x1293002 x5) x1 1).bind fun t1301 => (spec_l2Rule.j2 k x1 x5 (!t1301) x1293000 x1293001 x1293002)) else (none))) else (spec_l2Rule.j2 k x1 x5 true x1293000 x1293001 x1293002))) else (none)) else (some true)
def spec_l2Rule.j2 : Nat → Int → Int → Bool → List (ITerm) → List Int → List (List (ITerm)) → Option (Bool)
  | 0, _, _, _, _, _, _ => none
  | k + 1, x1, x5, x70, x1293000, x1293001, x1293002 => if x70 = true then (some false) else (spec_l2Rule.l0 k x1 (wrap64 (x5 + 1)) x1293000 x1293001 x1293002)
end
def spec_l2Rule.f (k : Nat) (l0_0 : List (ITerm)) (l0_1 : List Int) (l0_2 : List (List (ITerm))) (a1 : Int) : Option (Bool) := (spec_l2Is.f k l0_0 a1 2).bind fun t1293 => (if t1293 = true then (if (l0_1.length : Int) = (l0_2.length : Int) then (spec_l2Rule.j0 k a1 (decide ((l0_1.length : Int) > a1)) l0_0 l0_1 l0_2) else (spec_l2Rule.j0 k a1 true l0_0 l0_1 l0_2)) else (spec_l2Rule.j0 k a1 true l0_0 l0_1 l0_2))
mutual
def spec_SystemValid.j0 : Nat → Bool → List (IVar) → List (IRule) → Option (Bool)
  | 0, _, _, _ => none
  | k + 1, x16, x1303000, x1303001 => if x16 = true then (some false) else (spec_SystemValid.l0 k 1 0 x1303000 x1303001)
def spec_SystemValid.l0 : Nat → Int → Int → List (IVar) → List (IRule) → Option (Bool)
  | 0, _, _, _, _ => none
  | k + 1, x3, x4, x1303000, x1303001 => if x4 < (x1303000.length : Int) then (if 0 ≤ x4 then ((spec_l2Var.f ((rd_IVar x1303000 x4).f0) ((rd_IVar x1303000 x4).f1) ((rd_IVar x1303000 x4).f2)).bind fun t1305 => (if t1305 = true then (spec_SystemValid.l0 k (wrap64 (x3 * (wrap64 ((wrap64 (((rd_IVar x1303000 x4).f1) - ((rd_IVar x1303000 x4).f0))) + 1)))) (wrap64 (x4 + 1)) x1303000 x1303001) else (some false))) else (none)) else (spec_SystemValid.l1 k x3 0 x1303000 x1303001)
def spec_SystemValid.l1 : Nat → Int → Int → List (IVar) → List (IRule) → Option (Bool)
  | 0, _, _, _, _ => none
  | k + 1, x3, x5, x1303000, x1303001 => if x5 < (x1303001.length : Int) then (if 0 ≤ x5 then ((spec_l2Rule.f k ((rd_IRule x1303001 x5).f0) ((rd_IRule x1303001 x5).f1) ((rd_IRule x1303001 x5).f2) (x1303000.length : Int)).bind fun t1309 => (if t1309 = true then (spec_SystemValid.l1 k x3 (wrap64 (x5 + 1)) x1303000 x1303001) else (some false))) else (none)) else (some (decide (x3 ≤ 400)))
end
def spec_SystemValid.f (k : Nat) (l0_0 : List (IVar)) (l0_1 : List (IRule)) : Option (Bool) := (spec_l1In.f (l0_0.length : Int) 1 5).bind fun t1303 => (if t1303 = true then (spec_SystemValid.j0 k (decide ((l0_1.length : Int) > 8)) l0_0 l0_1) else (spec_SystemValid.j0 k true l0_0 l0_1))
def spec_SizeOf.l0 : Nat → Int → Int → List (IVar) → List (IRule) → Option (Int)
  | 0, _, _, _, _ => none
  | k + 1, x3, x4, x1311000, x1311001 => if x4 < (x1311000.length : Int) then (if 0 ≤ x4 then (spec_SizeOf.l0 k (wrap64 (x3 * (wrap64 ((wrap64 (((rd_IVar x1311000 x4).f1) - ((rd_IVar x1311000 x4).f0))) + 1)))) (wrap64 (x4 + 1)) x1311000 x1311001) else (none)) else (some x3)
def spec_SizeOf.f (k : Nat) (l0_0 : List (IVar)) (l0_1 : List (IRule)) : Option (Int) := (spec_SystemValid.f k l0_0 l0_1).bind fun t1311 => (if t1311 = true then (spec_SizeOf.l0 k 1 0 l0_0 l0_1) else (some 0))
def spec_l20Facts.l0 : Nat → List (List (ITerm)) → Int → List (IVar) → List (IRule) → Option (Bool)
  | 0, _, _, _, _ => none
  | k + 1, x1, x5, x1315000, x1315001 => if x5 < (x1.length : Int) then (if 0 ≤ x5 then ((spec_l2Is.f k (rd_LITerm x1 x5) (x1315000.length : Int) 2).bind fun t1316 => (if t1316 = true then (spec_l20Facts.l0 k x1 (wrap64 (x5 + 1)) x1315000 x1315001) else (some false))) else (none)) else ((spec_SystemValid.f k x1315000 x1315001).bind fun t1317 => (if t1317 = true then (some (decide ((x1.length : Int) ≤ 4))) else (some false)))
def spec_l20Facts.f (k : Nat) (l0_0 : List (IVar)) (l0_1 : List (IRule)) (l1 : List (List (ITerm))) : Option (Bool) := spec_l20Facts.l0 k l1 0 l0_0 l0_1
def spec_l22Asked.f (k : Nat) (l0_0 : List (IVar)) (l0_1 : List (IRule)) (l1 : List (List (ITerm))) (l2 : List (ITime)) : Option (Bool) := (spec_l20Facts.f k l0_0 l0_1 l1).bind fun t1319 => (if t1319 = true then ((spec_SizeOf.f k l0_0 l0_1).bind fun t1320 => (if t1320 ≤ 50 then ((spec_l21Asked.f k l2 (l1.length : Int)).bind fun t1321 => (some t1321)) else (some false))) else (some false))
def spec_GuessCount.f (k : Nat) (l0 : List (ITime)) (a1 : Int) : Option (Int) := (spec_l21Asked.f k l0 a1).bind fun t1322 => (if t1322 = true then ((spec_l21Steps.f k l0).bind fun t1323 => (if 0 ≤ (wrap64 (a1 + (t1323.length : Int))) then (some (shl .i64 1 (wrap64 (a1 + (t1323.length : Int))))) else (none))) else (some 0))
def spec_ProductSize.f (k : Nat) (l0_0 : List (IVar)) (l0_1 : List (IRule)) (l1 : List (List (ITerm))) (l2 : List (ITime)) : Option (Int) := (spec_l22Asked.f k l0_0 l0_1 l1 l2).bind fun t1327 => (if t1327 = true then ((spec_SizeOf.f k l0_0 l0_1).bind fun t1328 => ((spec_GuessCount.f k l2 (l1.length : Int)).bind fun t1329 => (some (wrap64 (t1328 * t1329))))) else (some 0))
def laws_toVar.f (a0_0 : Int) (a0_1 : Int) (a0_2 : Int) : Option (Int × Int × Int) := some (a0_0, a0_1, a0_2)
def laws_toVarS.l0 : Nat → List (LVar) → List (IVar) → Int → Option ((List (IVar)))
  | 0, _, _, _ => none
  | k + 1, x0, x3, x4 => if x4 < (x0.length : Int) then (if 0 ≤ x4 then ((laws_toVar.f ((rd_LVar x0 x4).f0) ((rd_LVar x0 x4).f1) ((rd_LVar x0 x4).f2)).bind fun bt1337 => (if x4 < (x3.length : Int) then (laws_toVarS.l0 k x0 (x3.set (x4 : Int).toNat (⟨bt1337.1, bt1337.2.1, bt1337.2.2⟩ : IVar)) (wrap64 (x4 + 1))) else (none))) else (none)) else (some x3)
def laws_toVarS.f (k : Nat) (l0 : List (LVar)) : Option ((List (IVar))) := if 0 ≤ (l0.length : Int) then (if ((l0.length : Int) : Int).toNat ≤ 11728124029610 then (laws_toVarS.l0 k l0 (List.replicate ((l0.length : Int) : Int).toNat zIVar) 0) else (none)) else (none)
def laws_toTerm.f (a0_0 : Int) (a0_1 : Int) (a0_2 : Int) (a0_3 : Int) : Option (Int × Int × Int × Int) := some (a0_0, a0_1, a0_2, a0_3)
def laws_toTermS.l0 : Nat → List (LTerm) → List (ITerm) → Int → Option ((List (ITerm)))
  | 0, _, _, _ => none
  | k + 1, x0, x3, x4 => if x4 < (x0.length : Int) then (if 0 ≤ x4 then ((laws_toTerm.f ((rd_LTerm x0 x4).f0) ((rd_LTerm x0 x4).f1) ((rd_LTerm x0 x4).f2) ((rd_LTerm x0 x4).f3)).bind fun bt1348 => (if x4 < (x3.length : Int) then (laws_toTermS.l0 k x0 (x3.set (x4 : Int).toNat (⟨bt1348.1, bt1348.2.1, bt1348.2.2.1, bt1348.2.2.2⟩ : ITerm)) (wrap64 (x4 + 1))) else (none))) else (none)) else (some x3)
def laws_toTermS.f (k : Nat) (l0 : List (LTerm)) : Option ((List (ITerm))) := if 0 ≤ (l0.length : Int) then (if ((l0.length : Int) : Int).toNat ≤ 8796093022208 then (laws_toTermS.l0 k l0 (List.replicate ((l0.length : Int) : Int).toNat zITerm) 0) else (none)) else (none)
def laws_toTermSS.l0 : Nat → List (List (LTerm)) → List (List (ITerm)) → Int → Option ((List (List (ITerm))))
  | 0, _, _, _ => none
  | k + 1, x0, x3, x4 => if x4 < (x0.length : Int) then (if 0 ≤ x4 then ((laws_toTermS.f k (rd_LLTerm x0 x4)).bind fun t1357 => (if x4 < (x3.length : Int) then (laws_toTermSS.l0 k x0 (x3.set (x4 : Int).toNat t1357) (wrap64 (x4 + 1))) else (none))) else (none)) else (some x3)
def laws_toTermSS.f (k : Nat) (l0 : List (List (LTerm))) : Option ((List (List (ITerm)))) := if 0 ≤ (l0.length : Int) then (if ((l0.length : Int) : Int).toNat ≤ 11728124029610 then (laws_toTermSS.l0 k l0 (List.replicate ((l0.length : Int) : Int).toNat []) 0) else (none)) else (none)
def laws_toRule.f (k : Nat) (l0_0 : List (LTerm)) (l0_1 : List Int) (l0_2 : List (List (LTerm))) : Option ((List (ITerm)) × List Int × (List (List (ITerm)))) := (laws_toTermS.f k l0_0).bind fun t1364 => ((laws_toIntS.f k l0_1).bind fun t1367 => ((laws_toTermSS.f k l0_2).bind fun t1370 => (some (t1364, t1367, t1370))))
def laws_toRuleS.l0 : Nat → List (LRule) → List (IRule) → Int → Option ((List (IRule)))
  | 0, _, _, _ => none
  | k + 1, x0, x3, x4 => if x4 < (x0.length : Int) then (if 0 ≤ x4 then ((laws_toRule.f k ((rd_LRule x0 x4).f0) ((rd_LRule x0 x4).f1) ((rd_LRule x0 x4).f2)).bind fun bt1377 => (if x4 < (x3.length : Int) then (laws_toRuleS.l0 k x0 (x3.set (x4 : Int).toNat (⟨bt1377.1, bt1377.2.1, bt1377.2.2⟩ : IRule)) (wrap64 (x4 + 1))) else (none))) else (none)) else (some x3)
def laws_toRuleS.f (k : Nat) (l0 : List (LRule)) : Option ((List (IRule))) := if 0 ≤ (l0.length : Int) then (if ((l0.length : Int) : Int).toNat ≤ 3909374676536 then (laws_toRuleS.l0 k l0 (List.replicate ((l0.length : Int) : Int).toNat zIRule) 0) else (none)) else (none)
def laws_toSystem.f (k : Nat) (l0_0 : List (LVar)) (l0_1 : List (LRule)) : Option ((List (IVar)) × (List (IRule))) := (laws_toVarS.f k l0_0).bind fun t1390 => ((laws_toRuleS.f k l0_1).bind fun t1393 => (some (t1390, t1393)))
def impl_size.l0 : Nat → Int → List (IVar) → Int → Int → Option (Int)
  | 0, _, _, _, _ => none
  | k + 1, x3, x6, x7, x8 => if x8 < x7 then (if 0 ≤ x8 then (if x8 < (x6.length : Int) then (impl_size.l0 k (wrap64 (x3 * (wrap64 ((wrap64 (((rd_IVar x6 x8).f1) - ((rd_IVar x6 x8).f0))) + 1)))) x6 x7 (wrap64 (x8 + 1))) else (none)) else (none)) else (some x3)
def impl_size.f (k : Nat) (l0 : List (IVar)) : Option (Int) := impl_size.l0 k 1 l0 (l0.length : Int) 0
def impl_GuessCount.f (k : Nat) (l0 : List (ITime)) (a1 : Int) : Option (Int) := (impl_guessed.f k l0 a1).bind fun bt1398 => (if bt1398.2 = true then (if 0 ≤ (wrap64 (a1 + (bt1398.1.length : Int))) then (some (shl .i64 1 (wrap64 (a1 + (bt1398.1.length : Int))))) else (none)) else (some 0))
def impl_varOk.f (a0_0 : Int) (a0_1 : Int) (a0_2 : Int) : Option (Bool) := (impl_in.f a0_0 (-9999) 9999).bind fun t1403 => (if t1403 = true then ((impl_in.f a0_1 a0_0 9999).bind fun t1404 => (if t1404 = true then (if (wrap64 (a0_1 - a0_0)) < 20 then ((impl_in.f a0_2 a0_0 a0_1).bind fun t1405 => (some t1405)) else (some false)) else (some false))) else (some false))
mutual
def impl_parts.j0 : Nat → Int → Bool → Option (Int × Int × Int)
  | 0, _, _ => none
  | k + 1, x5, x6 => if x6 = true then (some (2, 1, 1)) else (if x5 = 5 then (impl_parts.j1 k x5 (x5 == 5)) else (impl_parts.j1 k x5 (x5 == 6)))
def impl_parts.j1 : Nat → Int → Bool → Option (Int × Int × Int)
  | 0, _, _ => none
  | k + 1, x5, x10 => if x10 = true then (some (2, 1, 2)) else (if x5 = 7 then (some (1, 2, 2)) else (if x5 = 8 then (impl_parts.j2 k (x5 == 8)) else (impl_parts.j2 k (x5 == 9))))
def impl_parts.j2 : Nat → Bool → Option (Int × Int × Int)
  | 0, _ => none
  | k + 1, x15 => if x15 = true then (some (2, 2, 2)) else (some (0, 0, 1))
end
def impl_parts.f (k : Nat) (a0 : Int) : Option (Int × Int × Int) := if a0 = 2 then (impl_parts.j0 k a0 (a0 == 2)) else (if a0 = 3 then (impl_parts.j0 k a0 (a0 == 3)) else (impl_parts.j0 k a0 (a0 == 4)))
mutual
def impl_kindsOf.j0 : Nat → List (ITerm) → Int → Bool → Option (List Int)
  | 0, _, _, _ => none
  | k + 1, x0, x1, x20 => if x20 = true then (some ([] : List Int)) else (if 0 ≤ (x0.length : Int) then (if ((x0.length : Int) : Int).toNat ≤ 35184372088832 then (impl_kindsOf.l0 k x1 (([] : List Int)) x0 (x0.length : Int) 0) else (none)) else (none))
def impl_kindsOf.l0 : Nat → Int → List Int → List (ITerm) → Int → Int → Option (List Int)
  | 0, _, _, _, _, _ => none
  | k + 1, x1, x5, x24, x25, x26 => if x26 < x25 then (if 0 ≤ x26 then (if x26 < (x24.length : Int) then ((impl_parts.f k ((rd_ITerm x24 x26).f0)).bind fun bt1413 => ((impl_in.f ((rd_ITerm x24 x26).f0) 0 9).bind fun t1416 => (if ((rd_ITerm x24 x26).f0) = 0 then ((impl_in.f ((rd_ITerm x24 x26).f1) (-9999) 9999).bind fun t1417 => (if t1417 = true then (if ((rd_ITerm x24 x26).f2) = 0 then (impl_kindsOf.j2 k x1 x5 bt1413.2.2 (((rd_ITerm x24 x26).f3) == 0) x24 x25 x26) else (impl_kindsOf.j2 k x1 x5 bt1413.2.2 false x24 x25 x26)) else (impl_kindsOf.j2 k x1 x5 bt1413.2.2 false x24 x25 x26))) else (if ((rd_ITerm x24 x26).f0) = 1 then ((impl_in.f ((rd_ITerm x24 x26).f1) 0 (wrap64 (x1 - 1))).bind fun t1418 => (if t1418 = true then (if ((rd_ITerm x24 x26).f2) = 0 then (impl_kindsOf.j2 k x1 x5 bt1413.2.2 (((rd_ITerm x24 x26).f3) == 0) x24 x25 x26) else (impl_kindsOf.j2 k x1 x5 bt1413.2.2 false x24 x25 x26)) else (impl_kindsOf.j2 k x1 x5 bt1413.2.2 false x24 x25 x26))) else (if t1416 = true then (if ((rd_ITerm x24 x26).f1) = 0 then ((impl_in.f ((rd_ITerm x24 x26).f2) 0 (wrap64 (x26 - 1))).bind fun t1419 => (if t1419 = true then ((impl_in.f ((rd_ITerm x24 x26).f3) 0 (wrap64 (x26 - 1))).bind fun t1420 => (if t1420 = true then (if 0 ≤ ((rd_ITerm x24 x26).f2) then (if ((rd_ITerm x24 x26).f2) < (x5.length : Int) then (if (rd x5 ((rd_ITerm x24 x26).f2)) = bt1413.2.1 then (if 0 ≤ ((rd_ITerm x24 x26).f3) then (if ((rd_ITerm x24 x26).f3) < (x5.length : Int) then (if (rd x5 ((rd_ITerm x24 x26).f3)) = bt1413.2.1 then (if bt1413.1 = 2 then (impl_kindsOf.j2 k x1 x5 bt1413.2.2 true x24 x25 x26) else (impl_kindsOf.j2 k x1 x5 bt1413.2.2 (((rd_ITerm x24 x26).f2) == ((rd_ITerm x24 x26).f3)) x24 x25 x26)) else (impl_kindsOf.j2 k x1 x5 bt1413.2.2 false x24 x25 x26)) else (none)) else (none)) else (impl_kindsOf.j2 k x1 x5 bt1413.2.2 false x24 x25 x26)) else (none)) else (none)) else (impl_kindsOf.j2 k x1 x5 bt1413.2.2 false x24 x25 x26))) else (impl_kindsOf.j2 k x1 x5 bt1413.2.2 false x24 x25 x26))) else (impl_kindsOf.j2 k x1 x5 bt1413.2.2 false x24 x25 x26)) else (impl_kindsOf.j2 k x1 x5 bt1413.2.2 t1416 x24 x25 x26)))))) else (none)) else (none)) else (if 0 < x5.length then (some x5) else (none))
def impl_kindsOf.j2 : Nat → Int → List Int → Int → Bool → List (ITerm) → Int → Int → Option (List Int)
  | 0, _, _, _, _, _, _, _ => none
  | k + 1, x1, x5, x10, x11, x24, x25, x26 => if x11 = true then (if x5.length < 17592186044416 then (impl_kindsOf.l0 k x1 (x5 ++ [x10]) x24 x25 (wrap64 (x26 + 1))) else (none)) else (some ([] : List Int))
end
def impl_kindsOf.f (k : Nat) (l0 : List (ITerm)) (a1 : Int) : Option (List Int) := (impl_in.f a1 0 5).bind fun t1406 => (if t1406 = true then ((impl_in.f (l0.length : Int) 1 40).bind fun t1407 => (impl_kindsOf.j0 k l0 a1 (!t1407))) else (impl_kindsOf.j0 k l0 a1 true))
def impl_kindOf.f (k : Nat) (l0 : List (ITerm)) (a1 : Int) : Option (Int) := (impl_kindsOf.f k l0 a1).bind fun t => if t = [] then some 0 else (if 0 ≤ (wrap64 ((t.length : Int) - 1)) then (if (wrap64 ((t.length : Int) - 1)) < (t.length : Int) then some (rd t (wrap64 ((t.length : Int) - 1))) else none) else none)
mutual
def impl_ruleOk.j0 : Nat → Int → Bool → List (ITerm) → List Int → List (List (ITerm)) → Option (Bool)
  | 0, _, _, _, _, _ => none
  | k + 1, x1, x20, x1427000, x1427001, x1427002 => if x20 = true then (some false) else (impl_ruleOk.l0 k x1 x1427001 (x1427001.length : Int) 0 x1427000 x1427001 x1427002)
def impl_ruleOk.l0 : Nat → Int → List Int → Int → Int → List (ITerm) → List Int → List (List (ITerm)) → Option (Bool)
  | 0, _, _, _, _, _, _, _ => none
  | k + 1, x1, x22, x23, x24, x1427000, x1427001, x1427002 => if x24 < x23 then (if 0 ≤ x24 then (if x24 < (x22.length : Int) then ((impl_in.f (rd x22 x24) 0 (wrap64 (x1 - 1))).bind fun t1429 => (if t1429 = true then (if x24 > 0 then (if 0 ≤ (wrap64 (x24 - 1)) then (if (wrap64 (x24 - 1)) < (x1427001.length : Int) then (if (rd x1427001 (wrap64 (x24 - 1))) ≥ (rd x22 x24) then (impl_ruleOk.j2 k x1 x22 x23 x24 true x1427000 x1427001 x1427002) else (if x24 < (x1427002.length : Int) then ((impl_kindOf.f k (rd_LITerm x1427002 x24) x1).bind fun t1432 => (impl_ruleOk.j2 k x1 x22 x23 x24 (t1432 != 1) x1427000 x1427001 x1427002)) else (none))) else (none)) else (none)) else (if x24 < (x1427002.length : Int) then ((impl_kindOf.f k (rd_LITerm x1427002 x24) x1).bind fun t1434 => (impl_ruleOk.j2 k x1 x22 x23 x24 (t1434 != 1) x1427000 x1427001 x1427002)) else (none))) else (impl_ruleOk.j2 k x1 x22 x23 x24 true x1427000 x1427001 x1427002))) else (none)) else (none)) else (some true)
def impl_ruleOk.j2 : Nat → Int → List Int → Int → Int → Bool → List (ITerm) → List Int → List (List (ITerm)) → Option (Bool)
  | 0, _, _, _, _, _, _, _, _ => none
  | k + 1, x1, x22, x23, x24, x57, x1427000, x1427001, x1427002 => if x57 = true then (some false) else (impl_ruleOk.l0 k x1 x22 x23 (wrap64 (x24 + 1)) x1427000 x1427001 x1427002)
end
def impl_ruleOk.f (k : Nat) (l0_0 : List (ITerm)) (l0_1 : List Int) (l0_2 : List (List (ITerm))) (a1 : Int) : Option (Bool) := (impl_kindOf.f k l0_0 a1).bind fun t1427 => (if t1427 = 2 then (impl_ruleOk.j0 k a1 ((l0_1.length : Int) != (l0_2.length : Int)) l0_0 l0_1 l0_2) else (impl_ruleOk.j0 k a1 true l0_0 l0_1 l0_2))
def impl_SystemValid_1.f (a0_0 : Int) (a0_1 : Int) (a0_2 : Int) : Option (Bool) := (impl_varOk.f a0_0 a0_1 a0_2).bind fun t1436 => (some (!t1436))
def slices_IndexFunc_at_impl_SystemValid_1.l0 : Nat → List (IVar) → Int → Int → Option (Int)
  | 0, _, _, _ => none
  | k + 1, x0, x7, x8 => if x8 < x7 then (if 0 ≤ x8 then (if x8 < (x0.length : Int) then ((impl_SystemValid_1.f ((rd_IVar x0 x8).f0) ((rd_IVar x0 x8).f1) ((rd_IVar x0 x8).f2)).bind fun t1438 => (if t1438 = true then (some x8) else (slices_IndexFunc_at_impl_SystemValid_1.l0 k x0 x7 (wrap64 (x8 + 1))))) else (none)) else (none)) else (some (-1))
def slices_IndexFunc_at_impl_SystemValid_1.f (k : Nat) (l0 : List (IVar))  : Option (Int) := slices_IndexFunc_at_impl_SystemValid_1.l0 k l0 (l0.length : Int) 0
def slices_ContainsFunc_at_impl_SystemValid_1.f (k : Nat) (l0 : List (IVar))  : Option (Bool) := (slices_IndexFunc_at_impl_SystemValid_1.f k l0).bind fun t1439 => (some (decide (t1439 ≥ 0)))
def impl_SystemValid_2.f (k : Nat) (l0_0 : List (ITerm)) (l0_1 : List Int) (l0_2 : List (List (ITerm))) (l1_0 : List (IVar)) (l1_1 : List (IRule)) : Option (Bool) := (impl_ruleOk.f k l0_0 l0_1 l0_2 (l1_0.length : Int)).bind fun t1442 => (some (!t1442))
def slices_IndexFunc_at_impl_SystemValid_2.l0 : Nat → List (IRule) → Int → Int → List (IVar) → List (IRule) → Option (Int)
  | 0, _, _, _, _, _ => none
  | k + 1, x0, x7, x8, x1444000, x1444001 => if x8 < x7 then (if 0 ≤ x8 then (if x8 < (x0.length : Int) then ((impl_SystemValid_2.f k ((rd_IRule x0 x8).f0) ((rd_IRule x0 x8).f1) ((rd_IRule x0 x8).f2) x1444000 x1444001).bind fun t1445 => (if t1445 = true then (some x8) else (slices_IndexFunc_at_impl_SystemValid_2.l0 k x0 x7 (wrap64 (x8 + 1)) x1444000 x1444001))) else (none)) else (none)) else (some (-1))
def slices_IndexFunc_at_impl_SystemValid_2.f (k : Nat) (l0 : List (IRule))  (l2_0 : List (IVar)) (l2_1 : List (IRule)) : Option (Int) := slices_IndexFunc_at_impl_SystemValid_2.l0 k l0 (l0.length : Int) 0 l2_0 l2_1
def slices_ContainsFunc_at_impl_SystemValid_2.f (k : Nat) (l0 : List (IRule))  (l2_0 : List (IVar)) (l2_1 : List (IRule)) : Option (Bool) := (slices_IndexFunc_at_impl_SystemValid_2.f k l0 l2_0 l2_1).bind fun t1447 => (some (decide (t1447 ≥ 0)))
def impl_SystemValid.j0 : Nat → Bool → List (IVar) → List (IRule) → Option (Bool)
  | 0, _, _, _ => none
  | k + 1, x24, x1449000, x1449001 => if x24 = true then (some false) else ((slices_ContainsFunc_at_impl_SystemValid_2.f k x1449001 x1449000 x1449001).bind fun t1452 => (some (!t1452)))
def impl_SystemValid.f (k : Nat) (l0_0 : List (IVar)) (l0_1 : List (IRule)) : Option (Bool) := (impl_in.f (l0_0.length : Int) 1 5).bind fun t1449 => (if t1449 = true then (if (l0_1.length : Int) > 8 then (impl_SystemValid.j0 k true l0_0 l0_1) else ((slices_ContainsFunc_at_impl_SystemValid_1.f k l0_0).bind fun t1450 => (if t1450 = true then (impl_SystemValid.j0 k true l0_0 l0_1) else ((impl_size.f k l0_0).bind fun t1451 => (impl_SystemValid.j0 k (decide (t1451 > 400)) l0_0 l0_1))))) else (impl_SystemValid.j0 k true l0_0 l0_1))
def impl_factsOk_1.f (k : Nat) (l0 : List (ITerm)) (l1_0 : List (IVar)) (l1_1 : List (IRule)) : Option (Bool) := (impl_kindOf.f k l0 (l1_0.length : Int)).bind fun t1454 => (some (t1454 != 2))
def slices_IndexFunc_at_impl_factsOk_1.l0 : Nat → List (List (ITerm)) → Int → Int → List (IVar) → List (IRule) → Option (Int)
  | 0, _, _, _, _, _ => none
  | k + 1, x0, x7, x8, x1456000, x1456001 => if x8 < x7 then (if 0 ≤ x8 then (if x8 < (x0.length : Int) then ((impl_factsOk_1.f k (rd_LITerm x0 x8) x1456000 x1456001).bind fun t1457 => (if t1457 = true then (some x8) else (slices_IndexFunc_at_impl_factsOk_1.l0 k x0 x7 (wrap64 (x8 + 1)) x1456000 x1456001))) else (none)) else (none)) else (some (-1))
def slices_IndexFunc_at_impl_factsOk_1.f (k : Nat) (l0 : List (List (ITerm)))  (l2_0 : List (IVar)) (l2_1 : List (IRule)) : Option (Int) := slices_IndexFunc_at_impl_factsOk_1.l0 k l0 (l0.length : Int) 0 l2_0 l2_1
def slices_ContainsFunc_at_impl_factsOk_1.f (k : Nat) (l0 : List (List (ITerm)))  (l2_0 : List (IVar)) (l2_1 : List (IRule)) : Option (Bool) := (slices_IndexFunc_at_impl_factsOk_1.f k l0 l2_0 l2_1).bind fun t1459 => (some (decide (t1459 ≥ 0)))
def impl_factsOk.f (k : Nat) (l0_0 : List (IVar)) (l0_1 : List (IRule)) (l1 : List (List (ITerm))) : Option (Bool) := (impl_SystemValid.f k l0_0 l0_1).bind fun t1461 => (if t1461 = true then (if (l1.length : Int) ≤ 4 then ((slices_ContainsFunc_at_impl_factsOk_1.f k l1 l0_0 l0_1).bind fun t1462 => (some (!t1462))) else (some false)) else (some false))
def impl_askTime.f (k : Nat) (l0_0 : List (IVar)) (l0_1 : List (IRule)) (l1 : List (List (ITerm))) (l2 : List (ITime)) : Option (Bool) := (impl_factsOk.f k l0_0 l0_1 l1).bind fun t1464 => (if t1464 = true then ((impl_GuessCount.f k l2 (l1.length : Int)).bind fun t1465 => (if t1465 > 0 then ((impl_size.f k l0_0).bind fun t1466 => (some (decide (t1466 ≤ 50)))) else (some false))) else (some false))
def impl_ProductSize.f (k : Nat) (l0_0 : List (IVar)) (l0_1 : List (IRule)) (l1 : List (List (ITerm))) (l2 : List (ITime)) : Option (Int) := (impl_askTime.f k l0_0 l0_1 l1 l2).bind fun t1468 => (if t1468 = true then ((impl_size.f k l0_0).bind fun t1469 => ((impl_GuessCount.f k l2 (l1.length : Int)).bind fun t1470 => (some (wrap64 (t1469 * t1470))))) else (some 0))
def laws_eqVar.f (a0_0 : Int) (a0_1 : Int) (a0_2 : Int) (a1_0 : Int) (a1_1 : Int) (a1_2 : Int) : Option (Bool) := if a0_0 = a1_0 then (if a0_1 = a1_1 then (if a0_2 = a1_2 then (some true) else (some false)) else (some false)) else (some false)
def laws_eqVarS.l0 : Nat → List (IVar) → List (IVar) → Int → Option (Bool)
  | 0, _, _, _ => none
  | k + 1, x0, x1, x5 => if x5 < (x0.length : Int) then (if 0 ≤ x5 then (if x5 < (x1.length : Int) then ((laws_eqVar.f ((rd_IVar x0 x5).f0) ((rd_IVar x0 x5).f1) ((rd_IVar x0 x5).f2) ((rd_IVar x1 x5).f0) ((rd_IVar x1 x5).f1) ((rd_IVar x1 x5).f2)).bind fun t1475 => (if t1475 = true then (laws_eqVarS.l0 k x0 x1 (wrap64 (x5 + 1))) else (some false))) else (none)) else (none)) else (some true)
def laws_eqVarS.f (k : Nat) (l0 : List (IVar)) (l1 : List (IVar)) : Option (Bool) := if (l0.length : Int) = (l1.length : Int) then (laws_eqVarS.l0 k l0 l1 0) else (some false)
def laws_eqTerm.f (a0_0 : Int) (a0_1 : Int) (a0_2 : Int) (a0_3 : Int) (a1_0 : Int) (a1_1 : Int) (a1_2 : Int) (a1_3 : Int) : Option (Bool) := if a0_0 = a1_0 then (if a0_1 = a1_1 then (if a0_2 = a1_2 then (if a0_3 = a1_3 then (some true) else (some false)) else (some false)) else (some false)) else (some false)
def laws_eqTermS.l0 : Nat → List (ITerm) → List (ITerm) → Int → Option (Bool)
  | 0, _, _, _ => none
  | k + 1, x0, x1, x5 => if x5 < (x0.length : Int) then (if 0 ≤ x5 then (if x5 < (x1.length : Int) then ((laws_eqTerm.f ((rd_ITerm x0 x5).f0) ((rd_ITerm x0 x5).f1) ((rd_ITerm x0 x5).f2) ((rd_ITerm x0 x5).f3) ((rd_ITerm x1 x5).f0) ((rd_ITerm x1 x5).f1) ((rd_ITerm x1 x5).f2) ((rd_ITerm x1 x5).f3)).bind fun t1480 => (if t1480 = true then (laws_eqTermS.l0 k x0 x1 (wrap64 (x5 + 1))) else (some false))) else (none)) else (none)) else (some true)
def laws_eqTermS.f (k : Nat) (l0 : List (ITerm)) (l1 : List (ITerm)) : Option (Bool) := if (l0.length : Int) = (l1.length : Int) then (laws_eqTermS.l0 k l0 l1 0) else (some false)
def laws_eqTermSS.l0 : Nat → List (List (ITerm)) → List (List (ITerm)) → Int → Option (Bool)
  | 0, _, _, _ => none
  | k + 1, x0, x1, x5 => if x5 < (x0.length : Int) then (if 0 ≤ x5 then (if x5 < (x1.length : Int) then ((laws_eqTermS.f k (rd_LITerm x0 x5) (rd_LITerm x1 x5)).bind fun t1483 => (if t1483 = true then (laws_eqTermSS.l0 k x0 x1 (wrap64 (x5 + 1))) else (some false))) else (none)) else (none)) else (some true)
def laws_eqTermSS.f (k : Nat) (l0 : List (List (ITerm))) (l1 : List (List (ITerm))) : Option (Bool) := if (l0.length : Int) = (l1.length : Int) then (laws_eqTermSS.l0 k l0 l1 0) else (some false)
def laws_eqRule.f (k : Nat) (l0_0 : List (ITerm)) (l0_1 : List Int) (l0_2 : List (List (ITerm))) (l1_0 : List (ITerm)) (l1_1 : List Int) (l1_2 : List (List (ITerm))) : Option (Bool) := (laws_eqTermS.f k l0_0 l1_0).bind fun t1486 => (if t1486 = true then ((laws_eqIntS.f k l0_1 l1_1).bind fun t1487 => (if t1487 = true then ((laws_eqTermSS.f k l0_2 l1_2).bind fun t1488 => (if t1488 = true then (some true) else (some false))) else (some false))) else (some false))
def laws_eqRuleS.l0 : Nat → List (IRule) → List (IRule) → Int → Option (Bool)
  | 0, _, _, _ => none
  | k + 1, x0, x1, x5 => if x5 < (x0.length : Int) then (if 0 ≤ x5 then (if x5 < (x1.length : Int) then ((laws_eqRule.f k ((rd_IRule x0 x5).f0) ((rd_IRule x0 x5).f1) ((rd_IRule x0 x5).f2) ((rd_IRule x1 x5).f0) ((rd_IRule x1 x5).f1) ((rd_IRule x1 x5).f2)).bind fun t1491 => (if t1491 = true then (laws_eqRuleS.l0 k x0 x1 (wrap64 (x5 + 1))) else (some false))) else (none)) else (none)) else (some true)
def laws_eqRuleS.f (k : Nat) (l0 : List (IRule)) (l1 : List (IRule)) : Option (Bool) := if (l0.length : Int) = (l1.length : Int) then (laws_eqRuleS.l0 k l0 l1 0) else (some false)
def laws_eqSystem.f (k : Nat) (l0_0 : List (IVar)) (l0_1 : List (IRule)) (l1_0 : List (IVar)) (l1_1 : List (IRule)) : Option (Bool) := (laws_eqVarS.f k l0_0 l1_0).bind fun t1494 => (if t1494 = true then ((laws_eqRuleS.f k l0_1 l1_1).bind fun t1495 => (if t1495 = true then (some true) else (some false))) else (some false))
def laws_FnExactProductSize.f (k : Nat) (l0_0 : List (LVar)) (l0_1 : List (LRule)) (l1 : List (List (LTerm))) (l2 : List (LTime)) : Option (Bool) := (laws_szSystem.f k l0_0 l0_1 1048576).bind fun t1497 => (if t1497 < 0 then (some true) else ((laws_szTermSS.f k l1 t1497).bind fun t1498 => (if t1498 < 0 then (some true) else ((laws_szTimeS.f l2 t1498).bind fun t1499 => (if t1499 < 0 then (some true) else ((laws_toSystem.f k l0_0 l0_1).bind fun bt1500 => ((laws_toTermSS.f k l1).bind fun t1506 => ((laws_toTimeS.f k l2).bind fun t1509 => ((spec_ProductSize.f k bt1500.1 bt1500.2 t1506 t1509).bind fun t1512 => ((laws_toSystem.f k l0_0 l0_1).bind fun bt1513 => ((laws_toTermSS.f k l1).bind fun t1520 => ((laws_toTimeS.f k l2).bind fun t1523 => ((impl_ProductSize.f k bt1513.1 bt1513.2 t1520 t1523).bind fun t1526 => (if t1526 = t1512 then ((laws_toSystem.f k l0_0 l0_1).bind fun bt1527 => ((laws_eqSystem.f k bt1513.1 bt1513.2 bt1527.1 bt1527.2).bind fun t1533 => (if t1533 = true then ((laws_toTermSS.f k l1).bind fun t1534 => ((laws_eqTermSS.f k t1520 t1534).bind fun t1537 => (if t1537 = true then ((laws_toTimeS.f k l2).bind fun t1538 => ((laws_eqTimeS.f k t1523 t1538).bind fun t1541 => (if t1541 = true then (some true) else (some false)))) else (some false)))) else (some false)))) else (some false)))))))))))))))
end Go.Proofs.Ytjgfpgoaabppbaa.PA
