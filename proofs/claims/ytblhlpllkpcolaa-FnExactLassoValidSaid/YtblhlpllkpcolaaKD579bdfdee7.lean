/- Types and the Lean functions that the walks are told against. No conditions. -/
import Derived.Test.YtblhlpllkpcolaaProg
import Derived.Below
import Derived.Deep.Draws
import Derived.Deep.AppendLies
import Derived.Maps.AppendAt
import Derived.OwnWalk
import Derived.Laws.BytesArg
import Derived.Laws.MakeOwn
import Derived.Laws.OwnMore
import Derived.Deep.OwnRows
import Derived.Tactics
import Derived.Lib.ConvBytes
import Derived.Laws.Slices
import Derived.WalkKit
import Derived.KernelRfl
import Derived.RowKit3
import Derived.Deep.LoopGhost
import Derived.Deep.QuietTactic
import Derived.BigQuiet
import Derived.WideLaws
import Derived.Deep.DeepCutAuto
import Derived.Deep.CutBlock
import Derived.Deep.RegionHeld3
import Derived.Laws.Rows
import Derived.Lib.AppendStr
import Derived.ArgAppend
import Derived.Laws.IdiomCopy
import Derived.OrdersHeld
import Derived.Laws.BitsLemmas
import Derived.RowKit
import Derived.Laws.StructEq
import Derived.Lib.SliceRun
import Derived.WalkSpells
import Derived.ChangeArms
import Derived.ChangeSlices
import Derived.Deep.Slices
import Derived.Test.YtblhlpllkpcolaaKWe9bcf1b459
namespace Go.Proofs.Ytblhlpllkpcolaa.PA
open Go.RowKit Go.Proofs.YtblhlpllkpcolaaW.PrintWords Go.Proofs.YtblhlpllkpcolaaW.PrintLast Go.Proofs.YtblhlpllkpcolaaW.PrintMore
attribute [local go_sem] max2_int min2_int max_two min_two max_three min_three max_four min_four   -- for this text's walks alone
set_option linter.unusedVariables false
set_option linter.unusedSimpArgs false
structure LVar where
  f0 : Int
  f1 : Int
  f2 : Int
def zLVar : LVar := ⟨(0 : Int), (0 : Int), (0 : Int)⟩
def rd_LVar (xs : List LVar) (i : Int) : LVar := xs.getD i.toNat zLVar
structure LTerm where
  f0 : Int
  f1 : Int
  f2 : Int
  f3 : Int
def zLTerm : LTerm := ⟨(0 : Int), (0 : Int), (0 : Int), (0 : Int)⟩
def rd_LTerm (xs : List LTerm) (i : Int) : LTerm := xs.getD i.toNat zLTerm
def rd_LLTerm (xs : List (List LTerm)) (i : Int) : (List LTerm) := xs.getD i.toNat ([] : List LTerm)
def rd_Lint (xs : List (List Int)) (i : Int) : (List Int) := xs.getD i.toNat ([] : List Int)
structure LRule where
  f0 : (List LTerm)
  f1 : (List Int)
  f2 : (List (List LTerm))
def zLRule : LRule := ⟨([] : List LTerm), ([] : List Int), ([] : List (List LTerm))⟩
def rd_LRule (xs : List LRule) (i : Int) : LRule := xs.getD i.toNat zLRule
structure LSystem where
  f0 : (List LVar)
  f1 : (List LRule)
structure IVar where
  f0 : Int
  f1 : Int
  f2 : Int
def zIVar : IVar := ⟨(0 : Int), (0 : Int), (0 : Int)⟩
def rd_IVar (xs : List IVar) (i : Int) : IVar := xs.getD i.toNat zIVar
structure ITerm where
  f0 : Int
  f1 : Int
  f2 : Int
  f3 : Int
def zITerm : ITerm := ⟨(0 : Int), (0 : Int), (0 : Int), (0 : Int)⟩
def rd_ITerm (xs : List ITerm) (i : Int) : ITerm := xs.getD i.toNat zITerm
def rd_LITerm (xs : List (List ITerm)) (i : Int) : (List ITerm) := xs.getD i.toNat ([] : List ITerm)
structure IRule where
  f0 : (List ITerm)
  f1 : (List Int)
  f2 : (List (List ITerm))
def zIRule : IRule := ⟨([] : List ITerm), ([] : List Int), ([] : List (List ITerm))⟩
def rd_IRule (xs : List IRule) (i : Int) : IRule := xs.getD i.toNat zIRule
def rd_LLint (xs : List (List (List Int))) (i : Int) : (List (List Int)) := xs.getD i.toNat ([] : List (List Int))
def laws_szVarS.f (l0 : List (LVar)) (a1 : Int) : Option (Int) := if (wrap64 (a1 - (l0.length : Int))) < 0 then (some (-1)) else (some (wrap64 (a1 - (l0.length : Int))))
def laws_szTermS.f (l0 : List (LTerm)) (a1 : Int) : Option (Int) := if (wrap64 (a1 - (l0.length : Int))) < 0 then (some (-1)) else (some (wrap64 (a1 - (l0.length : Int))))
def laws_szTermSS.l0 : Nat → List (List (LTerm)) → Int → Int → Option (Int)
  | 0, _, _, _ => none
  | k + 1, x0, x1, x5 => if x5 < (x0.length : Int) then (if 0 ≤ x5 then ((laws_szTermS.f (rd_LLTerm x0 x5) x1).bind fun t102 => (if t102 < 0 then (some (-1)) else (laws_szTermSS.l0 k x0 t102 (wrap64 (x5 + 1))))) else (none)) else (some x1)
def laws_szTermSS.f (k : Nat) (l0 : List (List (LTerm))) (a1 : Int) : Option (Int) := if (wrap64 (a1 - (l0.length : Int))) < 0 then (some (-1)) else (laws_szTermSS.l0 k l0 (wrap64 (a1 - (l0.length : Int))) 0)
def laws_szIntS.f (l0 : List Int) (a1 : Int) : Option (Int) := if (wrap64 (a1 - (l0.length : Int))) < 0 then (some (-1)) else (some (wrap64 (a1 - (l0.length : Int))))
def laws_szRule.f (k : Nat) (l0_0 : List (LTerm)) (l0_1 : List Int) (l0_2 : List (List (LTerm))) (a1 : Int) : Option (Int) := (laws_szTermS.f l0_0 a1).bind fun t104 => (if t104 < 0 then (some (-1)) else ((laws_szIntS.f l0_1 t104).bind fun t105 => (if t105 < 0 then (some (-1)) else ((laws_szTermSS.f k l0_2 t105).bind fun t106 => (if t106 < 0 then (some (-1)) else (some t106))))))
def laws_szRuleS.l0 : Nat → List (LRule) → Int → Int → Option (Int)
  | 0, _, _, _ => none
  | k + 1, x0, x1, x5 => if x5 < (x0.length : Int) then (if 0 ≤ x5 then ((laws_szRule.f k ((rd_LRule x0 x5).f0) ((rd_LRule x0 x5).f1) ((rd_LRule x0 x5).f2) x1).bind fun t108 => (if t108 < 0 then (some (-1)) else (laws_szRuleS.l0 k x0 t108 (wrap64 (x5 + 1))))) else (none)) else (some x1)
def laws_szRuleS.f (k : Nat) (l0 : List (LRule)) (a1 : Int) : Option (Int) := if (wrap64 (a1 - (l0.length : Int))) < 0 then (some (-1)) else (laws_szRuleS.l0 k l0 (wrap64 (a1 - (l0.length : Int))) 0)
def laws_szSystem.f (k : Nat) (l0_0 : List (LVar)) (l0_1 : List (LRule)) (a1 : Int) : Option (Int) := (laws_szVarS.f l0_0 a1).bind fun t110 => (if t110 < 0 then (some (-1)) else ((laws_szRuleS.f k l0_1 t110).bind fun t111 => (if t111 < 0 then (some (-1)) else (some t111))))
def laws_toVar.f (a0_0 : Int) (a0_1 : Int) (a0_2 : Int) : Option (Int × Int × Int) := some (a0_0, a0_1, a0_2)
def laws_toVarS.l0 : Nat → List (LVar) → List (IVar) → Int → Option ((List (IVar)))
  | 0, _, _, _ => none
  | k + 1, x0, x3, x4 => if x4 < (x0.length : Int) then (if 0 ≤ x4 then ((laws_toVar.f ((rd_LVar x0 x4).f0) ((rd_LVar x0 x4).f1) ((rd_LVar x0 x4).f2)).bind fun bt119 => (if x4 < (x3.length : Int) then (laws_toVarS.l0 k x0 (x3.set (x4 : Int).toNat (⟨bt119.1, bt119.2.1, bt119.2.2⟩ : IVar)) (wrap64 (x4 + 1))) else (none))) else (none)) else (some x3)
def laws_toVarS.f (k : Nat) (l0 : List (LVar)) : Option ((List (IVar))) := if 0 ≤ (l0.length : Int) then (if ((l0.length : Int) : Int).toNat ≤ 11728124029610 then (laws_toVarS.l0 k l0 (List.replicate ((l0.length : Int) : Int).toNat zIVar) 0) else (none)) else (none)
def laws_toIntS.l0 : Nat → List Int → List Int → Int → Option (List Int)
  | 0, _, _, _ => none
  | k + 1, x0, x3, x4 => if x4 < (x0.length : Int) then (if 0 ≤ x4 then (if x4 < (x3.length : Int) then (laws_toIntS.l0 k x0 (x3.set (x4 : Int).toNat (rd x0 x4)) (wrap64 (x4 + 1))) else (none)) else (none)) else (some x3)
def laws_toIntS.f (k : Nat) (l0 : List Int) : Option (List Int) := if 0 ≤ (l0.length : Int) then (if ((l0.length : Int) : Int).toNat ≤ 35184372088832 then (laws_toIntS.l0 k l0 (List.replicate ((l0.length : Int) : Int).toNat 0) 0) else (none)) else (none)
def laws_toTerm.f (a0_0 : Int) (a0_1 : Int) (a0_2 : Int) (a0_3 : Int) : Option (Int × Int × Int × Int) := some (a0_0, a0_1, a0_2, a0_3)
def laws_toTermS.l0 : Nat → List (LTerm) → List (ITerm) → Int → Option ((List (ITerm)))
  | 0, _, _, _ => none
  | k + 1, x0, x3, x4 => if x4 < (x0.length : Int) then (if 0 ≤ x4 then ((laws_toTerm.f ((rd_LTerm x0 x4).f0) ((rd_LTerm x0 x4).f1) ((rd_LTerm x0 x4).f2) ((rd_LTerm x0 x4).f3)).bind fun bt135 => (if x4 < (x3.length : Int) then (laws_toTermS.l0 k x0 (x3.set (x4 : Int).toNat (⟨bt135.1, bt135.2.1, bt135.2.2.1, bt135.2.2.2⟩ : ITerm)) (wrap64 (x4 + 1))) else (none))) else (none)) else (some x3)
def laws_toTermS.f (k : Nat) (l0 : List (LTerm)) : Option ((List (ITerm))) := if 0 ≤ (l0.length : Int) then (if ((l0.length : Int) : Int).toNat ≤ 8796093022208 then (laws_toTermS.l0 k l0 (List.replicate ((l0.length : Int) : Int).toNat zITerm) 0) else (none)) else (none)
def laws_toTermSS.l0 : Nat → List (List (LTerm)) → List (List (ITerm)) → Int → Option ((List (List (ITerm))))
  | 0, _, _, _ => none
  | k + 1, x0, x3, x4 => if x4 < (x0.length : Int) then (if 0 ≤ x4 then ((laws_toTermS.f k (rd_LLTerm x0 x4)).bind fun t144 => (if x4 < (x3.length : Int) then (laws_toTermSS.l0 k x0 (x3.set (x4 : Int).toNat t144) (wrap64 (x4 + 1))) else (none))) else (none)) else (some x3)
def laws_toTermSS.f (k : Nat) (l0 : List (List (LTerm))) : Option ((List (List (ITerm)))) := if 0 ≤ (l0.length : Int) then (if ((l0.length : Int) : Int).toNat ≤ 11728124029610 then (laws_toTermSS.l0 k l0 (List.replicate ((l0.length : Int) : Int).toNat []) 0) else (none)) else (none)
def laws_toRule.f (k : Nat) (l0_0 : List (LTerm)) (l0_1 : List Int) (l0_2 : List (List (LTerm))) : Option ((List (ITerm)) × List Int × (List (List (ITerm)))) := (laws_toTermS.f k l0_0).bind fun t151 => ((laws_toIntS.f k l0_1).bind fun t154 => ((laws_toTermSS.f k l0_2).bind fun t157 => (some (t151, t154, t157))))
def laws_toRuleS.l0 : Nat → List (LRule) → List (IRule) → Int → Option ((List (IRule)))
  | 0, _, _, _ => none
  | k + 1, x0, x3, x4 => if x4 < (x0.length : Int) then (if 0 ≤ x4 then ((laws_toRule.f k ((rd_LRule x0 x4).f0) ((rd_LRule x0 x4).f1) ((rd_LRule x0 x4).f2)).bind fun bt164 => (if x4 < (x3.length : Int) then (laws_toRuleS.l0 k x0 (x3.set (x4 : Int).toNat (⟨bt164.1, bt164.2.1, bt164.2.2⟩ : IRule)) (wrap64 (x4 + 1))) else (none))) else (none)) else (some x3)
def laws_toRuleS.f (k : Nat) (l0 : List (LRule)) : Option ((List (IRule))) := if 0 ≤ (l0.length : Int) then (if ((l0.length : Int) : Int).toNat ≤ 3909374676536 then (laws_toRuleS.l0 k l0 (List.replicate ((l0.length : Int) : Int).toNat zIRule) 0) else (none)) else (none)
def laws_toSystem.f (k : Nat) (l0_0 : List (LVar)) (l0_1 : List (LRule)) : Option ((List (IVar)) × (List (IRule))) := (laws_toVarS.f k l0_0).bind fun t177 => ((laws_toRuleS.f k l0_1).bind fun t180 => (some (t177, t180)))
def laws_eqVar.f (a0_0 : Int) (a0_1 : Int) (a0_2 : Int) (a1_0 : Int) (a1_1 : Int) (a1_2 : Int) : Option (Bool) := if a0_0 = a1_0 then (if a0_1 = a1_1 then (if a0_2 = a1_2 then (some true) else (some false)) else (some false)) else (some false)
def laws_eqVarS.l0 : Nat → List (IVar) → List (IVar) → Int → Option (Bool)
  | 0, _, _, _ => none
  | k + 1, x0, x1, x5 => if x5 < (x0.length : Int) then (if 0 ≤ x5 then (if x5 < (x1.length : Int) then ((laws_eqVar.f ((rd_IVar x0 x5).f0) ((rd_IVar x0 x5).f1) ((rd_IVar x0 x5).f2) ((rd_IVar x1 x5).f0) ((rd_IVar x1 x5).f1) ((rd_IVar x1 x5).f2)).bind fun t187 => (if t187 = true then (laws_eqVarS.l0 k x0 x1 (wrap64 (x5 + 1))) else (some false))) else (none)) else (none)) else (some true)
def laws_eqVarS.f (k : Nat) (l0 : List (IVar)) (l1 : List (IVar)) : Option (Bool) := if (l0.length : Int) = (l1.length : Int) then (laws_eqVarS.l0 k l0 l1 0) else (some false)
def laws_eqIntS.l0 : Nat → List Int → List Int → Int → Option (Bool)
  | 0, _, _, _ => none
  | k + 1, x0, x1, x5 => if x5 < (x0.length : Int) then (if 0 ≤ x5 then (if x5 < (x1.length : Int) then (if (rd x0 x5) = (rd x1 x5) then (laws_eqIntS.l0 k x0 x1 (wrap64 (x5 + 1))) else (some false)) else (none)) else (none)) else (some true)
def laws_eqIntS.f (k : Nat) (l0 : List Int) (l1 : List Int) : Option (Bool) := if (l0.length : Int) = (l1.length : Int) then (laws_eqIntS.l0 k l0 l1 0) else (some false)
def laws_eqTerm.f (a0_0 : Int) (a0_1 : Int) (a0_2 : Int) (a0_3 : Int) (a1_0 : Int) (a1_1 : Int) (a1_2 : Int) (a1_3 : Int) : Option (Bool) := if a0_0 = a1_0 then (if a0_1 = a1_1 then (if a0_2 = a1_2 then (if a0_3 = a1_3 then (some true) else (some false)) else (some false)) else (some false)) else (some false)
def laws_eqTermS.l0 : Nat → List (ITerm) → List (ITerm) → Int → Option (Bool)
  | 0, _, _, _ => none
  | k + 1, x0, x1, x5 => if x5 < (x0.length : Int) then (if 0 ≤ x5 then (if x5 < (x1.length : Int) then ((laws_eqTerm.f ((rd_ITerm x0 x5).f0) ((rd_ITerm x0 x5).f1) ((rd_ITerm x0 x5).f2) ((rd_ITerm x0 x5).f3) ((rd_ITerm x1 x5).f0) ((rd_ITerm x1 x5).f1) ((rd_ITerm x1 x5).f2) ((rd_ITerm x1 x5).f3)).bind fun t194 => (if t194 = true then (laws_eqTermS.l0 k x0 x1 (wrap64 (x5 + 1))) else (some false))) else (none)) else (none)) else (some true)
def laws_eqTermS.f (k : Nat) (l0 : List (ITerm)) (l1 : List (ITerm)) : Option (Bool) := if (l0.length : Int) = (l1.length : Int) then (laws_eqTermS.l0 k l0 l1 0) else (some false)
def laws_eqTermSS.l0 : Nat → List (List (ITerm)) → List (List (ITerm)) → Int → Option (Bool)
  | 0, _, _, _ => none
  | k + 1, x0, x1, x5 => if x5 < (x0.length : Int) then (if 0 ≤ x5 then (if x5 < (x1.length : Int) then ((laws_eqTermS.f k (rd_LITerm x0 x5) (rd_LITerm x1 x5)).bind fun t197 => (if t197 = true then (laws_eqTermSS.l0 k x0 x1 (wrap64 (x5 + 1))) else (some false))) else (none)) else (none)) else (some true)
def laws_eqTermSS.f (k : Nat) (l0 : List (List (ITerm))) (l1 : List (List (ITerm))) : Option (Bool) := if (l0.length : Int) = (l1.length : Int) then (laws_eqTermSS.l0 k l0 l1 0) else (some false)
def laws_eqRule.f (k : Nat) (l0_0 : List (ITerm)) (l0_1 : List Int) (l0_2 : List (List (ITerm))) (l1_0 : List (ITerm)) (l1_1 : List Int) (l1_2 : List (List (ITerm))) : Option (Bool) := (laws_eqTermS.f k l0_0 l1_0).bind fun t200 => (if t200 = true then ((laws_eqIntS.f k l0_1 l1_1).bind fun t201 => (if t201 = true then ((laws_eqTermSS.f k l0_2 l1_2).bind fun t202 => (if t202 = true then (some true) else (some false))) else (some false))) else (some false))
def laws_eqRuleS.l0 : Nat → List (IRule) → List (IRule) → Int → Option (Bool)
  | 0, _, _, _ => none
  | k + 1, x0, x1, x5 => if x5 < (x0.length : Int) then (if 0 ≤ x5 then (if x5 < (x1.length : Int) then ((laws_eqRule.f k ((rd_IRule x0 x5).f0) ((rd_IRule x0 x5).f1) ((rd_IRule x0 x5).f2) ((rd_IRule x1 x5).f0) ((rd_IRule x1 x5).f1) ((rd_IRule x1 x5).f2)).bind fun t205 => (if t205 = true then (laws_eqRuleS.l0 k x0 x1 (wrap64 (x5 + 1))) else (some false))) else (none)) else (none)) else (some true)
def laws_eqRuleS.f (k : Nat) (l0 : List (IRule)) (l1 : List (IRule)) : Option (Bool) := if (l0.length : Int) = (l1.length : Int) then (laws_eqRuleS.l0 k l0 l1 0) else (some false)
def laws_eqSystem.f (k : Nat) (l0_0 : List (IVar)) (l0_1 : List (IRule)) (l1_0 : List (IVar)) (l1_1 : List (IRule)) : Option (Bool) := (laws_eqVarS.f k l0_0 l1_0).bind fun t208 => (if t208 = true then ((laws_eqRuleS.f k l0_1 l1_1).bind fun t209 => (if t209 = true then (some true) else (some false))) else (some false))
def laws_szIntSS.l0 : Nat → List (List Int) → Int → Int → Option (Int)
  | 0, _, _, _ => none
  | k + 1, x0, x1, x5 => if x5 < (x0.length : Int) then (if 0 ≤ x5 then ((laws_szIntS.f (rd_Lint x0 x5) x1).bind fun t211 => (if t211 < 0 then (some (-1)) else (laws_szIntSS.l0 k x0 t211 (wrap64 (x5 + 1))))) else (none)) else (some x1)
def laws_szIntSS.f (k : Nat) (l0 : List (List Int)) (a1 : Int) : Option (Int) := if (wrap64 (a1 - (l0.length : Int))) < 0 then (some (-1)) else (laws_szIntSS.l0 k l0 (wrap64 (a1 - (l0.length : Int))) 0)
def spec_l1In.f (a0 : Int) (a1 : Int) (a2 : Int) : Option (Bool) := if a0 ≥ a1 then (some (decide (a0 ≤ a2))) else (some false)
def spec_l2In.l0 : Nat → List Int → Int → List (IVar) → List (IRule) → Option (Bool)
  | 0, _, _, _, _ => none
  | k + 1, x1, x5, x213000, x213001 => if x5 < (x1.length : Int) then (if 0 ≤ x5 then (if x5 < (x213000.length : Int) then ((spec_l1In.f (rd x1 x5) ((rd_IVar x213000 x5).f0) ((rd_IVar x213000 x5).f1)).bind fun t216 => (if t216 = true then (spec_l2In.l0 k x1 (wrap64 (x5 + 1)) x213000 x213001) else (some false))) else (none)) else (none)) else (some true)
def spec_l2In.f (k : Nat) (l0_0 : List (IVar)) (l0_1 : List (IRule)) (l1 : List Int) : Option (Bool) := if (l1.length : Int) = (l0_0.length : Int) then (spec_l2In.l0 k l1 0 l0_0 l0_1) else (some false)
def spec_l2Same.l0 : Nat → List Int → List Int → Int → Option (Bool)
  | 0, _, _, _ => none
  | k + 1, x0, x1, x5 => if x5 < (x0.length : Int) then (if 0 ≤ x5 then (if x5 < (x1.length : Int) then (if (rd x0 x5) = (rd x1 x5) then (spec_l2Same.l0 k x0 x1 (wrap64 (x5 + 1))) else (some false)) else (none)) else (none)) else (some true)
def spec_l2Same.f (k : Nat) (l0 : List Int) (l1 : List Int) : Option (Bool) := if (l0.length : Int) = (l1.length : Int) then (spec_l2Same.l0 k l0 l1 0) else (some false)
def spec_l1Held.f (a0 : Int) : Option (Int) := if a0 > 9999 then (some 9999) else (if a0 < (-9999) then (some (-9999)) else (some a0))
def spec_l1Truth.f (a0 : Bool) : Option (Int) := if a0 = true then (some 1) else (some 0)
def spec_l1Do.f (a0 : Int) (a1 : Int) (a2 : Int) : Option (Int) := if a0 = 2 then ((spec_l1Held.f (wrap64 (a1 + a2))).bind fun t219 => (some t219)) else (if a0 = 3 then ((spec_l1Held.f (wrap64 (a1 - a2))).bind fun t220 => (some t220)) else (if a0 = 4 then ((spec_l1Held.f (wrap64 (a1 * a2))).bind fun t221 => (some t221)) else (if a0 = 5 then ((spec_l1Truth.f (decide (a1 < a2))).bind fun t222 => (some t222)) else (if a0 = 6 then ((spec_l1Truth.f (a1 == a2)).bind fun t223 => (some t223)) else (if a0 = 7 then (some (wrap64 (1 - a1))) else (if a0 = 8 then (some (wrap64 (a1 * a2))) else ((spec_l1Truth.f (decide ((wrap64 (a1 + a2)) > 0))).bind fun t224 => (some t224))))))))
def spec_l1Values.l0 : Nat → List (ITerm) → List Int → List Int → Int → Option (List Int)
  | 0, _, _, _, _ => none
  | k + 1, x0, x1, x5, x6 => if x6 < (x0.length : Int) then (if 0 ≤ x6 then (if ((rd_ITerm x0 x6).f0) = 0 then (if x5.length < 17592186044416 then (spec_l1Values.l0 k x0 x1 (x5 ++ [(rd_ITerm x0 x6).f1]) (wrap64 (x6 + 1))) else (none)) else (if ((rd_ITerm x0 x6).f0) = 1 then (if 0 ≤ ((rd_ITerm x0 x6).f1) then (if ((rd_ITerm x0 x6).f1) < (x1.length : Int) then (if x5.length < 17592186044416 then (spec_l1Values.l0 k x0 x1 (x5 ++ [rd x1 ((rd_ITerm x0 x6).f1)]) (wrap64 (x6 + 1))) else (none)) else (none)) else (none)) else (if 0 ≤ ((rd_ITerm x0 x6).f2) then (if ((rd_ITerm x0 x6).f2) < (x5.length : Int) then (if 0 ≤ ((rd_ITerm x0 x6).f3) then (if ((rd_ITerm x0 x6).f3) < (x5.length : Int) then ((spec_l1Do.f ((rd_ITerm x0 x6).f0) (rd x5 ((rd_ITerm x0 x6).f2)) (rd x5 ((rd_ITerm x0 x6).f3))).bind fun t239 => (if x5.length < 17592186044416 then (spec_l1Values.l0 k x0 x1 (x5 ++ [t239]) (wrap64 (x6 + 1))) else (none))) else (none)) else (none)) else (none)) else (none)))) else (none)) else (some x5)
def spec_l1Values.f (k : Nat) (l0 : List (ITerm)) (l1 : List Int) : Option (List Int) := spec_l1Values.l0 k l0 l1 (([] : List Int)) 0
def spec_l2Last.f (k : Nat) (l0 : List (ITerm)) (l1 : List Int) : Option (Int) := (spec_l1Values.f k l0 l1).bind fun t243 => (if 0 ≤ (wrap64 ((l0.length : Int) - 1)) then (if (wrap64 ((l0.length : Int) - 1)) < (t243.length : Int) then (some (rd t243 (wrap64 ((l0.length : Int) - 1)))) else (none)) else (none))
mutual
def spec_l2Use.l0 : Nat → List Int → List Int → Int → List (IVar) → List (IRule) → List (ITerm) → List Int → List (List (ITerm)) → Option (List Int)
  | 0, _, _, _, _, _, _, _, _ => none
  | k + 1, x1, x8, x9, x248000, x248001, x250000, x250001, x250002 => if x9 < (x1.length : Int) then (if 0 ≤ x9 then (if x8.length < 17592186044416 then (spec_l2Use.l0 k x1 (x8 ++ [rd x1 x9]) (wrap64 (x9 + 1)) x248000 x248001 x250000 x250001 x250002) else (none)) else (none)) else (spec_l2Use.l1 k x1 x8 0 x248000 x248001 x250000 x250001 x250002)
def spec_l2Use.l1 : Nat → List Int → List Int → Int → List (IVar) → List (IRule) → List (ITerm) → List Int → List (List (ITerm)) → Option (List Int)
  | 0, _, _, _, _, _, _, _, _ => none
  | k + 1, x1, x8, x10, x248000, x248001, x250000, x250001, x250002 => if x10 < (x250001.length : Int) then (if 0 ≤ x10 then (if x10 < (x250002.length : Int) then ((spec_l2Last.f k (rd_LITerm x250002 x10) x1).bind fun t260 => (if 0 ≤ (rd x250001 x10) then (if (rd x250001 x10) < (x8.length : Int) then (spec_l2Use.l1 k x1 (x8.set ((rd x250001 x10) : Int).toNat t260) (wrap64 (x10 + 1)) x248000 x248001 x250000 x250001 x250002) else (none)) else (none))) else (none)) else (none)) else ((spec_l2In.f k x248000 x248001 x8).bind fun t262 => (if t262 = true then (some x8) else (some ([] : List Int))))
end
def spec_l2Use.f (k : Nat) (l0_0 : List (IVar)) (l0_1 : List (IRule)) (l1 : List Int) (a2 : Int) : Option (List Int) := if 0 ≤ a2 then (if a2 < (l0_1.length : Int) then ((spec_l2Last.f k ((rd_IRule l0_1 a2).f0) l1).bind fun t250 => (if t250 = 0 then (some ([] : List Int)) else (spec_l2Use.l0 k l1 (([] : List Int)) 0 l0_0 l0_1 ((rd_IRule l0_1 a2).f0) ((rd_IRule l0_1 a2).f1) ((rd_IRule l0_1 a2).f2)))) else (none)) else (none)
mutual
def spec_l2Less.l0 : Nat → List Int → List Int → Int → Option (Bool)
  | 0, _, _, _ => none
  | k + 1, x0, x1, x5 => if x5 < (x0.length : Int) then (spec_l2Less.j1 k x0 x1 x5 (decide (x5 < (x1.length : Int)))) else (spec_l2Less.j1 k x0 x1 x5 false)
def spec_l2Less.j1 : Nat → List Int → List Int → Int → Bool → Option (Bool)
  | 0, _, _, _, _ => none
  | k + 1, x0, x1, x5, x15 => if x15 = true then (if 0 ≤ x5 then (if x5 < (x0.length : Int) then (if x5 < (x1.length : Int) then (if (rd x0 x5) = (rd x1 x5) then (spec_l2Less.l0 k x0 x1 (wrap64 (x5 + 1))) else (some (decide ((rd x0 x5) < (rd x1 x5))))) else (none)) else (none)) else (none)) else (some (decide ((x0.length : Int) < (x1.length : Int))))
end
def spec_l2Less.f (k : Nat) (l0 : List Int) (l1 : List Int) : Option (Bool) := spec_l2Less.l0 k l0 l1 0
mutual
def spec_l2Put.l0 : Nat → List (List Int) → List Int → List (List Int) → Bool → Int → Option ((List (List Int)))
  | 0, _, _, _, _, _ => none
  | k + 1, x0, x1, x5, x6, x7 => if x7 < (x0.length : Int) then (if x6 = true then (spec_l2Put.j1 k x0 x1 x5 x6 x7 false) else (if 0 ≤ x7 then ((spec_l2Same.f k (rd_Lint x0 x7) x1).bind fun t271 => (spec_l2Put.j1 k x0 x1 x5 x6 x7 t271)) else (none))) else (if x6 = true then (some x5) else (if x5.length < 5864062014805 then (some (x5 ++ [x1])) else (none)))
def spec_l2Put.j1 : Nat → List (List Int) → List Int → List (List Int) → Bool → Int → Bool → Option ((List (List Int)))
  | 0, _, _, _, _, _, _ => none
  | k + 1, x0, x1, x5, x6, x7, x24 => if x24 = true then (spec_l2Put.j2 k x0 x1 x5 true x7) else (spec_l2Put.j2 k x0 x1 x5 x6 x7)
def spec_l2Put.j2 : Nat → List (List Int) → List Int → List (List Int) → Bool → Int → Option ((List (List Int)))
  | 0, _, _, _, _, _ => none
  | k + 1, x0, x1, x5, x6, x7 => if x6 = true then (if 0 ≤ x7 then (if x7 < (x0.length : Int) then (if x5.length < 5864062014805 then (spec_l2Put.l0 k x0 x1 (x5 ++ [rd_Lint x0 x7]) x6 (wrap64 (x7 + 1))) else (none)) else (none)) else (none)) else (if 0 ≤ x7 then (if x7 < (x0.length : Int) then ((spec_l2Less.f k x1 (rd_Lint x0 x7)).bind fun t273 => (if t273 = true then (if x5.length < 5864062014805 then ((some (x5 ++ [x1] : List (List Int))).bind fun y278 => (if y278.length < 5864062014805 then (spec_l2Put.l0 k x0 x1 (y278 ++ [rd_Lint x0 x7]) true (wrap64 (x7 + 1))) else (none))) else (none)) else (if x5.length < 5864062014805 then (spec_l2Put.l0 k x0 x1 (x5 ++ [rd_Lint x0 x7]) x6 (wrap64 (x7 + 1))) else (none)))) else (none)) else (none))
end
def spec_l2Put.f (k : Nat) (l0 : List (List Int)) (l1 : List Int) : Option ((List (List Int))) := spec_l2Put.l0 k l0 l1 (([] : List (List Int))) false 0
def spec_l2Next.l0 : Nat → List Int → List (List Int) → Int → List (IVar) → List (IRule) → Option ((List (List Int)))
  | 0, _, _, _, _, _ => none
  | k + 1, x1, x5, x6, x293000, x293001 => if x6 < (x293001.length : Int) then ((spec_l2Use.f k x293000 x293001 x1 x6).bind fun t296 => (if (t296.length : Int) > 0 then ((spec_l2Put.f k x5 t296).bind fun t299 => (spec_l2Next.l0 k x1 t299 (wrap64 (x6 + 1)) x293000 x293001)) else (spec_l2Next.l0 k x1 x5 (wrap64 (x6 + 1)) x293000 x293001))) else (some x5)
def spec_l2Next.f (k : Nat) (l0_0 : List (IVar)) (l0_1 : List (IRule)) (l1 : List Int) : Option ((List (List Int))) := spec_l2Next.l0 k l1 (([] : List (List Int))) 0 l0_0 l0_1
def spec_l3Follows.l0 : Nat → List Int → List (List Int) → Int → Option (Bool)
  | 0, _, _, _ => none
  | k + 1, x2, x7, x8 => if x8 < (x7.length : Int) then (if 0 ≤ x8 then ((spec_l2Same.f k (rd_Lint x7 x8) x2).bind fun t308 => (if t308 = true then (some true) else (spec_l3Follows.l0 k x2 x7 (wrap64 (x8 + 1))))) else (none)) else (some false)
def spec_l3Follows.f (k : Nat) (l0_0 : List (IVar)) (l0_1 : List (IRule)) (l1 : List Int) (l2 : List Int) : Option (Bool) := (spec_l2Next.f k l0_0 l0_1 l1).bind fun t303 => (if (t303.length : Int) = 0 then ((spec_l2Same.f k l1 l2).bind fun t306 => (some t306)) else (spec_l3Follows.l0 k l2 t303 0))
def spec_l2Var.f (a0_0 : Int) (a0_1 : Int) (a0_2 : Int) : Option (Bool) := (spec_l1In.f a0_0 (-9999) 9999).bind fun t310 => (if t310 = true then ((spec_l1In.f a0_1 a0_0 9999).bind fun t311 => (if t311 = true then (if (wrap64 (a0_1 - a0_0)) < 20 then ((spec_l1In.f a0_2 a0_0 a0_1).bind fun t312 => (some t312)) else (some false)) else (some false))) else (some false))
def spec_l1One.f (a0 : Int) : Option (Bool) := some (a0 == 7)
mutual
def spec_l1Kind.j0 : Nat → List Int → Int → Bool → Int → Int → Int → Int → Option (Int)
  | 0, _, _, _, _, _, _, _ => none
  | k + 1, x1, x2, x25, x314000, x314001, x314002, x314003 => if x25 = true then (some 1) else (if x314000 = 1 then ((spec_l1In.f x314001 0 (wrap64 (x2 - 1))).bind fun t315 => (if t315 = true then (if x314002 = 0 then (spec_l1Kind.j1 k x1 (x314003 == 0) x314000 x314001 x314002 x314003) else (spec_l1Kind.j1 k x1 false x314000 x314001 x314002 x314003)) else (spec_l1Kind.j1 k x1 false x314000 x314001 x314002 x314003))) else (spec_l1Kind.j1 k x1 false x314000 x314001 x314002 x314003))
def spec_l1Kind.j1 : Nat → List Int → Bool → Int → Int → Int → Int → Option (Int)
  | 0, _, _, _, _, _, _ => none
  | k + 1, x1, x45, x314000, x314001, x314002, x314003 => if x45 = true then (some 1) else ((spec_l1In.f x314000 2 9).bind fun t316 => (if t316 = true then (if x314001 = 0 then ((spec_l1In.f x314002 0 (wrap64 ((x1.length : Int) - 1))).bind fun t317 => (if t317 = true then ((spec_l1In.f x314003 0 (wrap64 ((x1.length : Int) - 1))).bind fun t318 => (spec_l1Kind.j2 k x1 (!t318) x314000 x314001 x314002 x314003)) else (spec_l1Kind.j2 k x1 true x314000 x314001 x314002 x314003))) else (spec_l1Kind.j2 k x1 true x314000 x314001 x314002 x314003)) else (spec_l1Kind.j2 k x1 true x314000 x314001 x314002 x314003)))
def spec_l1Kind.j2 : Nat → List Int → Bool → Int → Int → Int → Int → Option (Int)
  | 0, _, _, _, _, _, _ => none
  | k + 1, x1, x72, x314000, x314001, x314002, x314003 => if x72 = true then (some 0) else (if x314000 ≥ 7 then (spec_l1Kind.j3 k x1 2 x314000 x314001 x314002 x314003) else (spec_l1Kind.j3 k x1 1 x314000 x314001 x314002 x314003))
def spec_l1Kind.j3 : Nat → List Int → Int → Int → Int → Int → Int → Option (Int)
  | 0, _, _, _, _, _, _ => none
  | k + 1, x1, x7, x314000, x314001, x314002, x314003 => if 0 ≤ x314002 then (if x314002 < (x1.length : Int) then (if (rd x1 x314002) = x7 then (if 0 ≤ x314003 then (if x314003 < (x1.length : Int) then (if (rd x1 x314003) = x7 then ((spec_l1One.f x314000).bind fun t321 => (if t321 = true then (spec_l1Kind.j4 k (x314003 != x314002) x314000 x314001 x314002 x314003) else (spec_l1Kind.j4 k false x314000 x314001 x314002 x314003))) else (spec_l1Kind.j4 k true x314000 x314001 x314002 x314003)) else (none)) else (none)) else (spec_l1Kind.j4 k true x314000 x314001 x314002 x314003)) else (none)) else (none)
def spec_l1Kind.j4 : Nat → Bool → Int → Int → Int → Int → Option (Int)
  | 0, _, _, _, _, _ => none
  | k + 1, x103, x314000, x314001, x314002, x314003 => if x103 = true then (some 0) else (if x314000 ≥ 5 then (some 2) else (some 1))
end
def spec_l1Kind.f (k : Nat) (a0_0 : Int) (a0_1 : Int) (a0_2 : Int) (a0_3 : Int) (l1 : List Int) (a2 : Int) : Option (Int) := if a0_0 = 0 then ((spec_l1In.f a0_1 (-9999) 9999).bind fun t314 => (if t314 = true then (if a0_2 = 0 then (spec_l1Kind.j0 k l1 a2 (a0_3 == 0) a0_0 a0_1 a0_2 a0_3) else (spec_l1Kind.j0 k l1 a2 false a0_0 a0_1 a0_2 a0_3)) else (spec_l1Kind.j0 k l1 a2 false a0_0 a0_1 a0_2 a0_3))) else (spec_l1Kind.j0 k l1 a2 false a0_0 a0_1 a0_2 a0_3)
mutual
def spec_KindsOf.j0 : Nat → List (ITerm) → Int → Bool → Option (List Int)
  | 0, _, _, _ => none
  | k + 1, x0, x1, x16 => if x16 = true then (some ([] : List Int)) else (spec_KindsOf.l0 k x0 x1 (([] : List Int)) 0)
def spec_KindsOf.l0 : Nat → List (ITerm) → Int → List Int → Int → Option (List Int)
  | 0, _, _, _, _ => none
  | k + 1, x0, x1, x5, x6 => if x6 < (x0.length : Int) then (if 0 ≤ x6 then ((spec_l1Kind.f k ((rd_ITerm x0 x6).f0) ((rd_ITerm x0 x6).f1) ((rd_ITerm x0 x6).f2) ((rd_ITerm x0 x6).f3) x5 x1).bind fun t328 => (if t328 = 0 then (some ([] : List Int)) else (if x5.length < 17592186044416 then (spec_KindsOf.l0 k x0 x1 (x5 ++ [t328]) (wrap64 (x6 + 1))) else (none)))) else (none)) else (some x5)
end
def spec_KindsOf.f (k : Nat) (l0 : List (ITerm)) (a1 : Int) : Option (List Int) := (spec_l1In.f a1 0 5).bind fun t322 => (if t322 = true then ((spec_l1In.f (l0.length : Int) 1 40).bind fun t323 => (spec_KindsOf.j0 k l0 a1 (!t323))) else (spec_KindsOf.j0 k l0 a1 true))
def spec_l2Is.f (k : Nat) (l0 : List (ITerm)) (a1 : Int) (a2 : Int) : Option (Bool) := (spec_KindsOf.f k l0 a1).bind fun t332 => (if (t332.length : Int) > 0 then (if 0 ≤ (wrap64 ((t332.length : Int) - 1)) then (if (wrap64 ((t332.length : Int) - 1)) < (t332.length : Int) then (some ((rd t332 (wrap64 ((t332.length : Int) - 1))) == a2)) else (none)) else (none)) else (some false))
mutual
def spec_l2Rule.j0 : Nat → Int → Bool → List (ITerm) → List Int → List (List (ITerm)) → Option (Bool)
  | 0, _, _, _, _, _ => none
  | k + 1, x1, x26, x337000, x337001, x337002 => if x26 = true then (some false) else (spec_l2Rule.l0 k x1 0 x337000 x337001 x337002)
def spec_l2Rule.l0 : Nat → Int → Int → List (ITerm) → List Int → List (List (ITerm)) → Option (Bool)
  | 0, _, _, _, _, _ => none
  | k + 1, x1, x5, x337000, x337001, x337002 => if x5 < (x337001.length : Int) then (if 0 ≤ x5 then ((spec_l1In.f (rd x337001 x5) 0 (wrap64 (x1 - 1))).bind fun t339 => (if t339 = true then (if x5 > 0 then (if 0 ≤ (wrap64 (x5 - 1)) then (if (wrap64 (x5 - 1)) < (x337001.length : Int) then (if (rd x337001 x5) ≤ (rd x337001 (wrap64 (x5 - 1))) then (spec_l2Rule.j2 k x1 x5 true x337000 x337001 x337002) else (if x5 < (x337002.length : Int) then ((spec_l2Is.f k (rd_LITerm x337002 x5) x1 1).bind fun t343 => (spec_l2Rule.j2 k x1 x5 (!t343) x337000 x337001 x337002)) else (none))) else (none)) else (none)) else (if x5 < (x337002.length : Int) then ((spec_l2Is.f k (rd_LITerm x337002 x5) x1 1).bind fun t345 => (spec_l2Rule.j2 k x1 x5 (!t345) x337000 x337001 x337002)) else (none))) else (spec_l2Rule.j2 k x1 x5 true x337000 x337001 x337002))) else (none)) else (some true)
def spec_l2Rule.j2 : Nat → Int → Int → Bool → List (ITerm) → List Int → List (List (ITerm)) → Option (Bool)
  | 0, _, _, _, _, _, _ => none
  | k + 1, x1, x5, x70, x337000, x337001, x337002 => if x70 = true then (some false) else (spec_l2Rule.l0 k x1 (wrap64 (x5 + 1)) x337000 x337001 x337002)
end
def spec_l2Rule.f (k : Nat) (l0_0 : List (ITerm)) (l0_1 : List Int) (l0_2 : List (List (ITerm))) (a1 : Int) : Option (Bool) := (spec_l2Is.f k l0_0 a1 2).bind fun t337 => (if t337 = true then (if (l0_1.length : Int) = (l0_2.length : Int) then (spec_l2Rule.j0 k a1 (decide ((l0_1.length : Int) > a1)) l0_0 l0_1 l0_2) else (spec_l2Rule.j0 k a1 true l0_0 l0_1 l0_2)) else (spec_l2Rule.j0 k a1 true l0_0 l0_1 l0_2))
mutual
def spec_SystemValid.j0 : Nat → Bool → List (IVar) → List (IRule) → Option (Bool)
  | 0, _, _, _ => none
  | k + 1, x16, x347000, x347001 => if x16 = true then (some false) else (spec_SystemValid.l0 k 1 0 x347000 x347001)
def spec_SystemValid.l0 : Nat → Int → Int → List (IVar) → List (IRule) → Option (Bool)
  | 0, _, _, _, _ => none
  | k + 1, x3, x4, x347000, x347001 => if x4 < (x347000.length : Int) then (if 0 ≤ x4 then ((spec_l2Var.f ((rd_IVar x347000 x4).f0) ((rd_IVar x347000 x4).f1) ((rd_IVar x347000 x4).f2)).bind fun t349 => (if t349 = true then (spec_SystemValid.l0 k (wrap64 (x3 * (wrap64 ((wrap64 (((rd_IVar x347000 x4).f1) - ((rd_IVar x347000 x4).f0))) + 1)))) (wrap64 (x4 + 1)) x347000 x347001) else (some false))) else (none)) else (spec_SystemValid.l1 k x3 0 x347000 x347001)
def spec_SystemValid.l1 : Nat → Int → Int → List (IVar) → List (IRule) → Option (Bool)
  | 0, _, _, _, _ => none
  | k + 1, x3, x5, x347000, x347001 => if x5 < (x347001.length : Int) then (if 0 ≤ x5 then ((spec_l2Rule.f k ((rd_IRule x347001 x5).f0) ((rd_IRule x347001 x5).f1) ((rd_IRule x347001 x5).f2) (x347000.length : Int)).bind fun t353 => (if t353 = true then (spec_SystemValid.l1 k x3 (wrap64 (x5 + 1)) x347000 x347001) else (some false))) else (none)) else (some (decide (x3 ≤ 400)))
end
def spec_SystemValid.f (k : Nat) (l0_0 : List (IVar)) (l0_1 : List (IRule)) : Option (Bool) := (spec_l1In.f (l0_0.length : Int) 1 5).bind fun t347 => (if t347 = true then (spec_SystemValid.j0 k (decide ((l0_1.length : Int) > 8)) l0_0 l0_1) else (spec_SystemValid.j0 k true l0_0 l0_1))
def spec_FirstState.l0 : Nat → List Int → Int → List (IVar) → List (IRule) → Option (List Int)
  | 0, _, _, _, _ => none
  | k + 1, x3, x4, x355000, x355001 => if x4 < (x355000.length : Int) then ((spec_SystemValid.f k x355000 x355001).bind fun t358 => (if t358 = true then (if 0 ≤ x4 then (if x3.length < 17592186044416 then (spec_FirstState.l0 k (x3 ++ [(rd_IVar x355000 x4).f2]) (wrap64 (x4 + 1)) x355000 x355001) else (none)) else (none)) else (some x3))) else (some x3)
def spec_FirstState.f (k : Nat) (l0_0 : List (IVar)) (l0_1 : List (IRule)) : Option (List Int) := spec_FirstState.l0 k (([] : List Int)) 0 l0_0 l0_1
def spec_l3At.f (l0 : List (List Int)) (l1 : List (List Int)) (a2 : Int) : Option (List Int) := if a2 < (l0.length : Int) then (if 0 ≤ a2 then (some (rd_Lint l0 a2)) else (none)) else (if (l1.length : Int) = 0 then (none) else (if 0 ≤ (Int.tmod (wrap64 (a2 - (l0.length : Int))) (l1.length : Int)) then (if (Int.tmod (wrap64 (a2 - (l0.length : Int))) (l1.length : Int)) < (l1.length : Int) then (some (rd_Lint l1 (Int.tmod (wrap64 (a2 - (l0.length : Int))) (l1.length : Int)))) else (none)) else (none)))
mutual
def spec_LassoValid.j0 : Nat → List (List Int) → List (List Int) → Int → Bool → List (IVar) → List (IRule) → Option (Bool)
  | 0, _, _, _, _, _, _ => none
  | k + 1, x1, x2, x7, x34, x366000, x366001 => if x34 = true then (some false) else (spec_LassoValid.l0 k x1 x2 x7 0 x366000 x366001)
def spec_LassoValid.l0 : Nat → List (List Int) → List (List Int) → Int → Int → List (IVar) → List (IRule) → Option (Bool)
  | 0, _, _, _, _, _, _ => none
  | k + 1, x1, x2, x7, x8, x366000, x366001 => if x8 < x7 then ((spec_l3At.f x1 x2 x8).bind fun t374 => ((spec_l2In.f k x366000 x366001 t374).bind fun t377 => (if t377 = true then ((spec_l3At.f x1 x2 (wrap64 (x8 + 1))).bind fun t378 => ((spec_l2In.f k x366000 x366001 t378).bind fun t381 => (if t381 = true then ((spec_l3At.f x1 x2 x8).bind fun t382 => ((spec_l3At.f x1 x2 (wrap64 (x8 + 1))).bind fun t385 => ((spec_l3Follows.f k x366000 x366001 t382 t385).bind fun t388 => (spec_LassoValid.j2 k x1 x2 x7 x8 (!t388) x366000 x366001)))) else (spec_LassoValid.j2 k x1 x2 x7 x8 true x366000 x366001)))) else (spec_LassoValid.j2 k x1 x2 x7 x8 true x366000 x366001)))) else (some true)
def spec_LassoValid.j2 : Nat → List (List Int) → List (List Int) → Int → Int → Bool → List (IVar) → List (IRule) → Option (Bool)
  | 0, _, _, _, _, _, _, _ => none
  | k + 1, x1, x2, x7, x8, x70, x366000, x366001 => if x70 = true then (some false) else (spec_LassoValid.l0 k x1 x2 x7 (wrap64 (x8 + 1)) x366000 x366001)
end
def spec_LassoValid.f (k : Nat) (l0_0 : List (IVar)) (l0_1 : List (IRule)) (l1 : List (List Int)) (l2 : List (List Int)) : Option (Bool) := (spec_SystemValid.f k l0_0 l0_1).bind fun t366 => (if t366 = true then (if (l2.length : Int) = 0 then (spec_LassoValid.j0 k l1 l2 (wrap64 ((l1.length : Int) + (l2.length : Int))) true l0_0 l0_1) else (if (wrap64 ((l1.length : Int) + (l2.length : Int))) > 500 then (spec_LassoValid.j0 k l1 l2 (wrap64 ((l1.length : Int) + (l2.length : Int))) true l0_0 l0_1) else ((spec_l3At.f l1 l2 0).bind fun t367 => ((spec_FirstState.f k l0_0 l0_1).bind fun t370 => ((spec_l2Same.f k t367 t370).bind fun t373 => (spec_LassoValid.j0 k l1 l2 (wrap64 ((l1.length : Int) + (l2.length : Int))) (!t373) l0_0 l0_1)))))) else (spec_LassoValid.j0 k l1 l2 (wrap64 ((l1.length : Int) + (l2.length : Int))) true l0_0 l0_1))
def laws_toIntSS.l0 : Nat → List (List Int) → List (List Int) → Int → Option ((List (List Int)))
  | 0, _, _, _ => none
  | k + 1, x0, x3, x4 => if x4 < (x0.length : Int) then (if 0 ≤ x4 then ((laws_toIntS.f k (rd_Lint x0 x4)).bind fun t393 => (if x4 < (x3.length : Int) then (laws_toIntSS.l0 k x0 (x3.set (x4 : Int).toNat t393) (wrap64 (x4 + 1))) else (none))) else (none)) else (some x3)
def laws_toIntSS.f (k : Nat) (l0 : List (List Int)) : Option ((List (List Int))) := if 0 ≤ (l0.length : Int) then (if ((l0.length : Int) : Int).toNat ≤ 11728124029610 then (laws_toIntSS.l0 k l0 (List.replicate ((l0.length : Int) : Int).toNat []) 0) else (none)) else (none)
def impl_in.f (a0 : Int) (a1 : Int) (a2 : Int) : Option (Bool) := if a0 ≥ a1 then (some (decide (a0 ≤ a2))) else (some false)
def impl_inRange.l0 : Nat → List Int → List (IVar) → Int → Int → Option (Bool)
  | 0, _, _, _, _ => none
  | k + 1, x1, x14, x15, x16 => if x16 < x15 then (if 0 ≤ x16 then (if x16 < (x14.length : Int) then (if x16 < (x1.length : Int) then ((impl_in.f (rd x1 x16) ((rd_IVar x14 x16).f0) ((rd_IVar x14 x16).f1)).bind fun t401 => (if t401 = true then (impl_inRange.l0 k x1 x14 x15 (wrap64 (x16 + 1))) else (some false))) else (none)) else (none)) else (none)) else (some true)
def impl_inRange.f (k : Nat) (l0_0 : List (IVar)) (l0_1 : List (IRule)) (l1 : List Int) : Option (Bool) := if (l1.length : Int) = (l0_0.length : Int) then (impl_inRange.l0 k l1 l0_0 (l0_0.length : Int) 0) else (some false)
def slices_Equal_int_int.l0 : Nat → List Int → List Int → Int → Int → Option (Bool)
  | 0, _, _, _, _ => none
  | k + 1, x0, x1, x12, x13 => if x13 < x12 then (if 0 ≤ x13 then (if x13 < (x0.length : Int) then (if x13 < (x1.length : Int) then (if (rd x0 x13) = (rd x1 x13) then (slices_Equal_int_int.l0 k x0 x1 x12 (wrap64 (x13 + 1))) else (some false)) else (none)) else (none)) else (none)) else (some true)
def slices_Equal_int_int.f (k : Nat) (l0 : List Int) (l1 : List Int) : Option (Bool) := if (l0.length : Int) = (l1.length : Int) then (slices_Equal_int_int.l0 k l0 l1 (l0.length : Int) 0) else (some false)
def impl_clone_int.f (l0 : List Int) : Option (List Int) := if l0.length ≤ 35184372088832 then some l0 else none
def impl_held.f (a0 : Int) : Option (Int) := some (mx (-9999) (mn 9999 a0))
def impl_bit.f (a0 : Bool) : Option (Int) := if a0 = true then (some 1) else (some 0)
def impl_do.f (a0 : Int) (a1 : Int) (a2 : Int) : Option (Int) := if a0 = 2 then ((impl_held.f (wrap64 (a1 + a2))).bind fun t404 => (some t404)) else (if a0 = 3 then ((impl_held.f (wrap64 (a1 - a2))).bind fun t405 => (some t405)) else (if a0 = 4 then ((impl_held.f (wrap64 (a1 * a2))).bind fun t406 => (some t406)) else (if a0 = 5 then ((impl_bit.f (decide (a1 < a2))).bind fun t407 => (some t407)) else (if a0 = 6 then ((impl_bit.f (a1 == a2)).bind fun t408 => (some t408)) else (if a0 = 7 then (some (wrap64 (1 - a1))) else (if a0 = 8 then (some (mn a1 a2)) else (some (mx a1 a2))))))))
def impl_eval.l0 : Nat → List Int → List Int → List (ITerm) → Int → Int → Option (Int)
  | 0, _, _, _, _, _ => none
  | k + 1, x1, x5, x11, x12, x13 => if x13 < x12 then (if 0 ≤ x13 then (if x13 < (x11.length : Int) then (if ((rd_ITerm x11 x13).f0) = 0 then (if x13 < (x5.length : Int) then (impl_eval.l0 k x1 (x5.set (x13 : Int).toNat ((rd_ITerm x11 x13).f1)) x11 x12 (wrap64 (x13 + 1))) else (none)) else (if ((rd_ITerm x11 x13).f0) = 1 then (if 0 ≤ ((rd_ITerm x11 x13).f1) then (if ((rd_ITerm x11 x13).f1) < (x1.length : Int) then (if x13 < (x5.length : Int) then (impl_eval.l0 k x1 (x5.set (x13 : Int).toNat (rd x1 ((rd_ITerm x11 x13).f1))) x11 x12 (wrap64 (x13 + 1))) else (none)) else (none)) else (none)) else (if 0 ≤ ((rd_ITerm x11 x13).f2) then (if ((rd_ITerm x11 x13).f2) < (x5.length : Int) then (if 0 ≤ ((rd_ITerm x11 x13).f3) then (if ((rd_ITerm x11 x13).f3) < (x5.length : Int) then ((impl_do.f ((rd_ITerm x11 x13).f0) (rd x5 ((rd_ITerm x11 x13).f2)) (rd x5 ((rd_ITerm x11 x13).f3))).bind fun t420 => (if x13 < (x5.length : Int) then (impl_eval.l0 k x1 (x5.set (x13 : Int).toNat t420) x11 x12 (wrap64 (x13 + 1))) else (none))) else (none)) else (none)) else (none)) else (none)))) else (none)) else (none)) else (if 0 ≤ (wrap64 ((x5.length : Int) - 1)) then (if (wrap64 ((x5.length : Int) - 1)) < (x5.length : Int) then (some (rd x5 (wrap64 ((x5.length : Int) - 1)))) else (none)) else (none))
def impl_eval.f (k : Nat) (l0 : List (ITerm)) (l1 : List Int) : Option (Int) := if 0 ≤ (l0.length : Int) then (if ((l0.length : Int) : Int).toNat ≤ 35184372088832 then (impl_eval.l0 k l1 (List.replicate ((l0.length : Int) : Int).toNat 0) l0 (l0.length : Int) 0) else (none)) else (none)
def impl_use.l0 : Nat → List Int → List Int → List Int → Int → Int → List (IVar) → List (IRule) → List (ITerm) → List Int → List (List (ITerm)) → Option (List Int × Bool)
  | 0, _, _, _, _, _, _, _, _, _, _ => none
  | k + 1, x1, x9, x25, x26, x27, x423000, x423001, x425000, x425001, x425002 => if x27 < x26 then (if 0 ≤ x27 then (if x27 < (x25.length : Int) then (if x27 < (x425002.length : Int) then ((impl_eval.f k (rd_LITerm x425002 x27) x1).bind fun t431 => (if 0 ≤ (rd x25 x27) then (if (rd x25 x27) < (x9.length : Int) then (impl_use.l0 k x1 (x9.set ((rd x25 x27) : Int).toNat t431) x25 x26 (wrap64 (x27 + 1)) x423000 x423001 x425000 x425001 x425002) else (none)) else (none))) else (none)) else (none)) else (none)) else ((impl_inRange.f k x423000 x423001 x9).bind fun t433 => (if t433 = true then (some (x9, true)) else (some (([] : List Int), false))))
def impl_use.f (k : Nat) (l0_0 : List (IVar)) (l0_1 : List (IRule)) (l1 : List Int) (a2 : Int) : Option (List Int × Bool) := if 0 ≤ a2 then (if a2 < (l0_1.length : Int) then ((impl_eval.f k ((rd_IRule l0_1 a2).f0) l1).bind fun t425 => (if t425 = 0 then (some (([] : List Int), false)) else ((impl_clone_int.f l1).bind fun t426 => (impl_use.l0 k l1 t426 ((rd_IRule l0_1 a2).f1) (((rd_IRule l0_1 a2).f1).length : Int) 0 l0_0 l0_1 ((rd_IRule l0_1 a2).f0) ((rd_IRule l0_1 a2).f1) ((rd_IRule l0_1 a2).f2))))) else (none)) else (none)
def impl_usableIn.l0 : Nat → List Int → List Int → Int → Int → List (IVar) → List (IRule) → Option (List Int)
  | 0, _, _, _, _, _, _ => none
  | k + 1, x1, x5, x11, x12, x435000, x435001 => if x12 < x11 then ((impl_use.f k x435000 x435001 x1 x12).bind fun bt435 => (if bt435.2 = true then (if x5.length < 17592186044416 then (impl_usableIn.l0 k x1 (x5 ++ [x12]) x11 (wrap64 (x12 + 1)) x435000 x435001) else (none)) else (impl_usableIn.l0 k x1 x5 x11 (wrap64 (x12 + 1)) x435000 x435001))) else ((impl_clone_int.f x5).bind fun t442 => (some t442))
def impl_usableIn.f (k : Nat) (l0_0 : List (IVar)) (l0_1 : List (IRule)) (l1 : List Int) : Option (List Int) := impl_usableIn.l0 k l1 ([] : List Int) (l0_1.length : Int) 0 l0_0 l0_1
def impl_ruleBetween.l0 : Nat → List Int → List Int → Int → Int → List (IVar) → List (IRule) → Option (Int)
  | 0, _, _, _, _, _, _ => none
  | k + 1, x1, x2, x12, x13, x446000, x446001 => if x13 < x12 then ((impl_use.f k x446000 x446001 x1 x13).bind fun bt446 => (if bt446.2 = true then ((slices_Equal_int_int.f k bt446.1 x2).bind fun t450 => (if t450 = true then (some x13) else (impl_ruleBetween.l0 k x1 x2 x12 (wrap64 (x13 + 1)) x446000 x446001))) else (impl_ruleBetween.l0 k x1 x2 x12 (wrap64 (x13 + 1)) x446000 x446001))) else (some (-1))
def impl_ruleBetween.f (k : Nat) (l0_0 : List (IVar)) (l0_1 : List (IRule)) (l1 : List Int) (l2 : List Int) : Option (Int) := impl_ruleBetween.l0 k l1 l2 (l0_1.length : Int) 0 l0_0 l0_1
def impl_follows.f (k : Nat) (l0_0 : List (IVar)) (l0_1 : List (IRule)) (l1 : List Int) (l2 : List Int) : Option (Bool) := (impl_usableIn.f k l0_0 l0_1 l1).bind fun t452 => (if (t452.length : Int) = 0 then ((slices_Equal_int_int.f k l1 l2).bind fun t455 => (some t455)) else ((impl_ruleBetween.f k l0_0 l0_1 l1 l2).bind fun t456 => (some (decide (t456 ≥ 0)))))
def impl_varOk.f (a0_0 : Int) (a0_1 : Int) (a0_2 : Int) : Option (Bool) := (impl_in.f a0_0 (-9999) 9999).bind fun t458 => (if t458 = true then ((impl_in.f a0_1 a0_0 9999).bind fun t459 => (if t459 = true then (if (wrap64 (a0_1 - a0_0)) < 20 then ((impl_in.f a0_2 a0_0 a0_1).bind fun t460 => (some t460)) else (some false)) else (some false))) else (some false))
def impl_size.l0 : Nat → Int → List (IVar) → Int → Int → Option (Int)
  | 0, _, _, _, _ => none
  | k + 1, x3, x6, x7, x8 => if x8 < x7 then (if 0 ≤ x8 then (if x8 < (x6.length : Int) then (impl_size.l0 k (wrap64 (x3 * (wrap64 ((wrap64 (((rd_IVar x6 x8).f1) - ((rd_IVar x6 x8).f0))) + 1)))) x6 x7 (wrap64 (x8 + 1))) else (none)) else (none)) else (some x3)
def impl_size.f (k : Nat) (l0 : List (IVar)) : Option (Int) := impl_size.l0 k 1 l0 (l0.length : Int) 0
mutual
def impl_parts.j0 : Nat → Int → Bool → Option (Int × Int × Int)
  | 0, _, _ => none
  | k + 1, x5, x6 => if x6 = true then (some (2, 1, 1)) else (if x5 = 5 then (impl_parts.j1 k x5 (x5 == 5)) else (impl_parts.j1 k x5 (x5 == 6)))
def impl_parts.j1 : Nat → Int → Bool → Option (Int × Int × Int)
  | 0, _, _ => none
  | k + 1, x5, x10 => if x10 = true then (some (2, 1, 2)) else (if x5 = 7 then (some (1, 2, 2)) else (if x5 = 8 then (impl_parts.j2 k (x5 == 8)) else (impl_parts.j2 k (x5 == 9))))
def impl_parts.j2 : Nat → Bool → Option (Int × Int × Int)
  | 0, _ => none
  | k + 1, x15 => if x15 = true then (some (2, 2, 2)) else (some (0, 0, 1))
end
def impl_parts.f (k : Nat) (a0 : Int) : Option (Int × Int × Int) := if a0 = 2 then (impl_parts.j0 k a0 (a0 == 2)) else (if a0 = 3 then (impl_parts.j0 k a0 (a0 == 3)) else (impl_parts.j0 k a0 (a0 == 4)))
mutual
def impl_kindsOf.j0 : Nat → List (ITerm) → Int → Bool → Option (List Int)
  | 0, _, _, _ => none
  | k + 1, x0, x1, x20 => if x20 = true then (some ([] : List Int)) else (if 0 ≤ (x0.length : Int) then (if ((x0.length : Int) : Int).toNat ≤ 35184372088832 then (impl_kindsOf.l0 k x1 (([] : List Int)) x0 (x0.length : Int) 0) else (none)) else (none))
def impl_kindsOf.l0 : Nat → Int → List Int → List (ITerm) → Int → Int → Option (List Int)
  | 0, _, _, _, _, _ => none
  | k + 1, x1, x5, x24, x25, x26 => if x26 < x25 then (if 0 ≤ x26 then (if x26 < (x24.length : Int) then ((impl_parts.f k ((rd_ITerm x24 x26).f0)).bind fun bt470 => ((impl_in.f ((rd_ITerm x24 x26).f0) 0 9).bind fun t473 => (if ((rd_ITerm x24 x26).f0) = 0 then ((impl_in.f ((rd_ITerm x24 x26).f1) (-9999) 9999).bind fun t474 => (if t474 = true then (if ((rd_ITerm x24 x26).f2) = 0 then (impl_kindsOf.j2 k x1 x5 bt470.2.2 (((rd_ITerm x24 x26).f3) == 0) x24 x25 x26) else (impl_kindsOf.j2 k x1 x5 bt470.2.2 false x24 x25 x26)) else (impl_kindsOf.j2 k x1 x5 bt470.2.2 false x24 x25 x26))) else (if ((rd_ITerm x24 x26).f0) = 1 then ((impl_in.f ((rd_ITerm x24 x26).f1) 0 (wrap64 (x1 - 1))).bind fun t475 => (if t475 = true then (if ((rd_ITerm x24 x26).f2) = 0 then (impl_kindsOf.j2 k x1 x5 bt470.2.2 (((rd_ITerm x24 x26).f3) == 0) x24 x25 x26) else (impl_kindsOf.j2 k x1 x5 bt470.2.2 false x24 x25 x26)) else (impl_kindsOf.j2 k x1 x5 bt470.2.2 false x24 x25 x26))) else (if t473 = true then (if ((rd_ITerm x24 x26).f1) = 0 then ((impl_in.f ((rd_ITerm x24 x26).f2) 0 (wrap64 (x26 - 1))).bind fun t476 => (if t476 = true then ((impl_in.f ((rd_ITerm x24 x26).f3) 0 (wrap64 (x26 - 1))).bind fun t477 => (if t477 = true then (if 0 ≤ ((rd_ITerm x24 x26).f2) then (if ((rd_ITerm x24 x26).f2) < (x5.length : Int) then (if (rd x5 ((rd_ITerm x24 x26).f2)) = bt470.2.1 then (if 0 ≤ ((rd_ITerm x24 x26).f3) then (if ((rd_ITerm x24 x26).f3) < (x5.length : Int) then (if (rd x5 ((rd_ITerm x24 x26).f3)) = bt470.2.1 then (if bt470.1 = 2 then (impl_kindsOf.j2 k x1 x5 bt470.2.2 true x24 x25 x26) else (impl_kindsOf.j2 k x1 x5 bt470.2.2 (((rd_ITerm x24 x26).f2) == ((rd_ITerm x24 x26).f3)) x24 x25 x26)) else (impl_kindsOf.j2 k x1 x5 bt470.2.2 false x24 x25 x26)) else (none)) else (none)) else (impl_kindsOf.j2 k x1 x5 bt470.2.2 false x24 x25 x26)) else (none)) else (none)) else (impl_kindsOf.j2 k x1 x5 bt470.2.2 false x24 x25 x26))) else (impl_kindsOf.j2 k x1 x5 bt470.2.2 false x24 x25 x26))) else (impl_kindsOf.j2 k x1 x5 bt470.2.2 false x24 x25 x26)) else (impl_kindsOf.j2 k x1 x5 bt470.2.2 t473 x24 x25 x26)))))) else (none)) else (none)) else (if 0 < x5.length then (some x5) else (none))
def impl_kindsOf.j2 : Nat → Int → List Int → Int → Bool → List (ITerm) → Int → Int → Option (List Int)
  | 0, _, _, _, _, _, _, _ => none
  | k + 1, x1, x5, x10, x11, x24, x25, x26 => if x11 = true then (if x5.length < 17592186044416 then (impl_kindsOf.l0 k x1 (x5 ++ [x10]) x24 x25 (wrap64 (x26 + 1))) else (none)) else (some ([] : List Int))
end
def impl_kindsOf.f (k : Nat) (l0 : List (ITerm)) (a1 : Int) : Option (List Int) := (impl_in.f a1 0 5).bind fun t463 => (if t463 = true then ((impl_in.f (l0.length : Int) 1 40).bind fun t464 => (impl_kindsOf.j0 k l0 a1 (!t464))) else (impl_kindsOf.j0 k l0 a1 true))
def impl_kindOf.f (k : Nat) (l0 : List (ITerm)) (a1 : Int) : Option (Int) := (impl_kindsOf.f k l0 a1).bind fun t => if t = [] then some 0 else (if 0 ≤ (wrap64 ((t.length : Int) - 1)) then (if (wrap64 ((t.length : Int) - 1)) < (t.length : Int) then some (rd t (wrap64 ((t.length : Int) - 1))) else none) else none)
mutual
def impl_ruleOk.j0 : Nat → Int → Bool → List (ITerm) → List Int → List (List (ITerm)) → Option (Bool)
  | 0, _, _, _, _, _ => none
  | k + 1, x1, x20, x484000, x484001, x484002 => if x20 = true then (some false) else (impl_ruleOk.l0 k x1 x484001 (x484001.length : Int) 0 x484000 x484001 x484002)
def impl_ruleOk.l0 : Nat → Int → List Int → Int → Int → List (ITerm) → List Int → List (List (ITerm)) → Option (Bool)
  | 0, _, _, _, _, _, _, _ => none
  | k + 1, x1, x22, x23, x24, x484000, x484001, x484002 => if x24 < x23 then (if 0 ≤ x24 then (if x24 < (x22.length : Int) then ((impl_in.f (rd x22 x24) 0 (wrap64 (x1 - 1))).bind fun t486 => (if t486 = true then (if x24 > 0 then (if 0 ≤ (wrap64 (x24 - 1)) then (if (wrap64 (x24 - 1)) < (x484001.length : Int) then (if (rd x484001 (wrap64 (x24 - 1))) ≥ (rd x22 x24) then (impl_ruleOk.j2 k x1 x22 x23 x24 true x484000 x484001 x484002) else (if x24 < (x484002.length : Int) then ((impl_kindOf.f k (rd_LITerm x484002 x24) x1).bind fun t489 => (impl_ruleOk.j2 k x1 x22 x23 x24 (t489 != 1) x484000 x484001 x484002)) else (none))) else (none)) else (none)) else (if x24 < (x484002.length : Int) then ((impl_kindOf.f k (rd_LITerm x484002 x24) x1).bind fun t491 => (impl_ruleOk.j2 k x1 x22 x23 x24 (t491 != 1) x484000 x484001 x484002)) else (none))) else (impl_ruleOk.j2 k x1 x22 x23 x24 true x484000 x484001 x484002))) else (none)) else (none)) else (some true)
def impl_ruleOk.j2 : Nat → Int → List Int → Int → Int → Bool → List (ITerm) → List Int → List (List (ITerm)) → Option (Bool)
  | 0, _, _, _, _, _, _, _, _ => none
  | k + 1, x1, x22, x23, x24, x57, x484000, x484001, x484002 => if x57 = true then (some false) else (impl_ruleOk.l0 k x1 x22 x23 (wrap64 (x24 + 1)) x484000 x484001 x484002)
end
def impl_ruleOk.f (k : Nat) (l0_0 : List (ITerm)) (l0_1 : List Int) (l0_2 : List (List (ITerm))) (a1 : Int) : Option (Bool) := (impl_kindOf.f k l0_0 a1).bind fun t484 => (if t484 = 2 then (impl_ruleOk.j0 k a1 ((l0_1.length : Int) != (l0_2.length : Int)) l0_0 l0_1 l0_2) else (impl_ruleOk.j0 k a1 true l0_0 l0_1 l0_2))
def impl_SystemValid_1.f (a0_0 : Int) (a0_1 : Int) (a0_2 : Int) : Option (Bool) := (impl_varOk.f a0_0 a0_1 a0_2).bind fun t493 => (some (!t493))
def slices_IndexFunc_at_impl_SystemValid_1.l0 : Nat → List (IVar) → Int → Int → Option (Int)
  | 0, _, _, _ => none
  | k + 1, x0, x7, x8 => if x8 < x7 then (if 0 ≤ x8 then (if x8 < (x0.length : Int) then ((impl_SystemValid_1.f ((rd_IVar x0 x8).f0) ((rd_IVar x0 x8).f1) ((rd_IVar x0 x8).f2)).bind fun t495 => (if t495 = true then (some x8) else (slices_IndexFunc_at_impl_SystemValid_1.l0 k x0 x7 (wrap64 (x8 + 1))))) else (none)) else (none)) else (some (-1))
def slices_IndexFunc_at_impl_SystemValid_1.f (k : Nat) (l0 : List (IVar))  : Option (Int) := slices_IndexFunc_at_impl_SystemValid_1.l0 k l0 (l0.length : Int) 0
def slices_ContainsFunc_at_impl_SystemValid_1.f (k : Nat) (l0 : List (IVar))  : Option (Bool) := (slices_IndexFunc_at_impl_SystemValid_1.f k l0).bind fun t496 => (some (decide (t496 ≥ 0)))
def impl_SystemValid_2.f (k : Nat) (l0_0 : List (ITerm)) (l0_1 : List Int) (l0_2 : List (List (ITerm))) (l1_0 : List (IVar)) (l1_1 : List (IRule)) : Option (Bool) := (impl_ruleOk.f k l0_0 l0_1 l0_2 (l1_0.length : Int)).bind fun t499 => (some (!t499))
def slices_IndexFunc_at_impl_SystemValid_2.l0 : Nat → List (IRule) → Int → Int → List (IVar) → List (IRule) → Option (Int)
  | 0, _, _, _, _, _ => none
  | k + 1, x0, x7, x8, x501000, x501001 => if x8 < x7 then (if 0 ≤ x8 then (if x8 < (x0.length : Int) then ((impl_SystemValid_2.f k ((rd_IRule x0 x8).f0) ((rd_IRule x0 x8).f1) ((rd_IRule x0 x8).f2) x501000 x501001).bind fun t502 => (if t502 = true then (some x8) else (slices_IndexFunc_at_impl_SystemValid_2.l0 k x0 x7 (wrap64 (x8 + 1)) x501000 x501001))) else (none)) else (none)) else (some (-1))
def slices_IndexFunc_at_impl_SystemValid_2.f (k : Nat) (l0 : List (IRule))  (l2_0 : List (IVar)) (l2_1 : List (IRule)) : Option (Int) := slices_IndexFunc_at_impl_SystemValid_2.l0 k l0 (l0.length : Int) 0 l2_0 l2_1
def slices_ContainsFunc_at_impl_SystemValid_2.f (k : Nat) (l0 : List (IRule))  (l2_0 : List (IVar)) (l2_1 : List (IRule)) : Option (Bool) := (slices_IndexFunc_at_impl_SystemValid_2.f k l0 l2_0 l2_1).bind fun t504 => (some (decide (t504 ≥ 0)))
def impl_SystemValid.j0 : Nat → Bool → List (IVar) → List (IRule) → Option (Bool)
  | 0, _, _, _ => none
  | k + 1, x24, x506000, x506001 => if x24 = true then (some false) else ((slices_ContainsFunc_at_impl_SystemValid_2.f k x506001 x506000 x506001).bind fun t509 => (some (!t509)))
def impl_SystemValid.f (k : Nat) (l0_0 : List (IVar)) (l0_1 : List (IRule)) : Option (Bool) := (impl_in.f (l0_0.length : Int) 1 5).bind fun t506 => (if t506 = true then (if (l0_1.length : Int) > 8 then (impl_SystemValid.j0 k true l0_0 l0_1) else ((slices_ContainsFunc_at_impl_SystemValid_1.f k l0_0).bind fun t507 => (if t507 = true then (impl_SystemValid.j0 k true l0_0 l0_1) else ((impl_size.f k l0_0).bind fun t508 => (impl_SystemValid.j0 k (decide (t508 > 400)) l0_0 l0_1))))) else (impl_SystemValid.j0 k true l0_0 l0_1))
def impl_first.l0 : Nat → List Int → List (IVar) → Int → Int → Option (List Int)
  | 0, _, _, _, _ => none
  | k + 1, x3, x7, x8, x9 => if x9 < x8 then (if 0 ≤ x9 then (if x9 < (x7.length : Int) then (if x3.length < 17592186044416 then (impl_first.l0 k (x3 ++ [(rd_IVar x7 x9).f2]) x7 x8 (wrap64 (x9 + 1))) else (none)) else (none)) else (none)) else ((impl_clone_int.f x3).bind fun t516 => (some t516))
def impl_first.f (k : Nat) (l0_0 : List (IVar)) (l0_1 : List (IRule)) : Option (List Int) := impl_first.l0 k ([] : List Int) l0_0 (l0_0.length : Int) 0
def impl_lassoOk.f (l0 : List (List Int)) (l1 : List (List Int)) : Option (Bool) := if (l1.length : Int) > 0 then (some (decide ((wrap64 ((l0.length : Int) + (l1.length : Int))) ≤ 500))) else (some false)
def laws_eqIntSS.l0 : Nat → List (List Int) → List (List Int) → Int → Option (Bool)
  | 0, _, _, _ => none
  | k + 1, x0, x1, x5 => if x5 < (x0.length : Int) then (if 0 ≤ x5 then (if x5 < (x1.length : Int) then ((laws_eqIntS.f k (rd_Lint x0 x5) (rd_Lint x1 x5)).bind fun t533 => (if t533 = true then (laws_eqIntSS.l0 k x0 x1 (wrap64 (x5 + 1))) else (some false))) else (none)) else (none)) else (some true)
def laws_eqIntSS.f (k : Nat) (l0 : List (List Int)) (l1 : List (List Int)) : Option (Bool) := if (l0.length : Int) = (l1.length : Int) then (laws_eqIntSS.l0 k l0 l1 0) else (some false)
def slices_Grow_int_int.f (l0 : List (List Int)) (a1 : Int) : Option (List (List Int)) := if 0 ≤ a1 then (if a1 ≤ 1099511627776 then (some ([] : List (List Int))) else none) else none
mutual
def slices_Concat_int_int.l2 : Nat → List (List Int) → Int → List (List (List Int)) → Option (List (List Int))
  | 0, _, _, _ => none
  | k + 1, x6, x27, l0 => if x27 < (l0.length : Int) then (if 0 ≤ x27 then (if x27 < (l0.length : Int) then (if x6.length + (rd_LLint l0 x27).length ≤ 1099511627776 then (slices_Concat_int_int.l2 k (x6 ++ (rd_LLint l0 x27)) (wrap64 (x27 + 1)) l0) else none) else none) else none) else (some x6)
def slices_Concat_int_int.l1 : Nat → Int → Int → List (List (List Int)) → Option (List (List Int))
  | 0, _, _, _ => none
  | k + 1, x3, x11, l0 => if x11 < (l0.length : Int) then (if 0 ≤ x11 then (if x11 < (l0.length : Int) then (if (wrap64 (x3 + ((rd_LLint l0 x11).length : Int))) < 0 then (Option.none) else (slices_Concat_int_int.l1 k (wrap64 (x3 + ((rd_LLint l0 x11).length : Int))) (wrap64 (x11 + 1)) l0)) else none) else none) else ((slices_Grow_int_int.f ([] : List (List Int)) x3).bind fun r1 => slices_Concat_int_int.l2 k r1 0 l0)
end
def slices_Concat_int_int.f (k : Nat) (l0 : List (List (List Int))) : Option (List (List Int)) := slices_Concat_int_int.l1 k 0 0 l0
mutual
def impl_LassoValid.l1 : Nat → Int → List IVar → List IRule → (List (List Int)) → Option Bool
  | 0, _, _, _, _ => none
  | k + 1, x27, l0_0, l0_1, r3 => if x27 < (r3.length : Int) then (if 0 ≤ x27 then (if x27 < (r3.length : Int) then ((impl_inRange.f k l0_0 l0_1 (rd_Lint r3 x27)).bind fun r4 => if r4 = true then (if x27 = 0 then ((impl_first.f k l0_0 l0_1).bind fun r5 => (slices_Equal_int_int.f k (rd_Lint r3 x27) r5).bind fun r6 => if r6 = true then (if x27 > 0 then (if 0 ≤ (wrap64 (x27 - 1)) then (if (wrap64 (x27 - 1)) < (r3.length : Int) then ((impl_follows.f k l0_0 l0_1 (rd_Lint r3 (wrap64 (x27 - 1))) (rd_Lint r3 x27)).bind fun r7 => if r7 = true then (impl_LassoValid.l1 k (wrap64 (x27 + 1)) l0_0 l0_1 r3) else (some false)) else none) else none) else (impl_LassoValid.l1 k (wrap64 (x27 + 1)) l0_0 l0_1 r3)) else (some false)) else (if x27 > 0 then (if 0 ≤ (wrap64 (x27 - 1)) then (if (wrap64 (x27 - 1)) < (r3.length : Int) then ((impl_follows.f k l0_0 l0_1 (rd_Lint r3 (wrap64 (x27 - 1))) (rd_Lint r3 x27)).bind fun r8 => if r8 = true then (impl_LassoValid.l1 k (wrap64 (x27 + 1)) l0_0 l0_1 r3) else (some false)) else none) else none) else (impl_LassoValid.l1 k (wrap64 (x27 + 1)) l0_0 l0_1 r3))) else (some false)) else none) else none) else (some true)
end
def impl_LassoValid.f (k : Nat) (l0_0 : List IVar) (l0_1 : List IRule) (l1 : List (List Int)) (l2 : List (List Int)) : Option Bool := (impl_SystemValid.f k l0_0 l0_1).bind fun r1 => if r1 = true then ((impl_lassoOk.f l1 l2).bind fun r2 => if r2 = true then (if 1 ≤ (l2.length : Int) then ((slices_Concat_int_int.f k [l1, l2, (l2.take (1 : Int).toNat)]).bind fun r3 => impl_LassoValid.l1 k 0 l0_0 l0_1 r3) else none) else (some false)) else (some false)
def laws_FnExactLassoValid.f (k : Nat) (l0_0 : List LVar) (l0_1 : List LRule) (l1 : List (List Int)) (l2 : List (List Int)) : Option Bool := (laws_szSystem.f k l0_0 l0_1 1048576).bind fun r1 => if r1 < 0 then (some true) else ((laws_szIntSS.f k l1 r1).bind fun r2 => if r2 < 0 then (some true) else ((laws_szIntSS.f k l2 r2).bind fun r3 => if r3 < 0 then (some true) else ((laws_toSystem.f k l0_0 l0_1).bind fun r4 => (laws_toIntSS.f k l1).bind fun r5 => (laws_toIntSS.f k l2).bind fun r6 => (spec_LassoValid.f k r4.1 r4.2 r5 r6).bind fun r7 => (laws_toSystem.f k l0_0 l0_1).bind fun r8 => (laws_toIntSS.f k l1).bind fun r9 => (laws_toIntSS.f k l2).bind fun r10 => (impl_LassoValid.f k r8.1 r8.2 r9 r10).bind fun r11 => if r11 ≠ r7 then (some false) else ((laws_toSystem.f k l0_0 l0_1).bind fun r12 => (laws_eqSystem.f k r8.1 r8.2 r12.1 r12.2).bind fun r13 => if r13 = true then ((laws_toIntSS.f k l1).bind fun r14 => (laws_eqIntSS.f k r9 r14).bind fun r15 => if r15 = true then ((laws_toIntSS.f k l2).bind fun r16 => (laws_eqIntSS.f k r10 r16).bind fun r17 => if r17 = true then (some true) else (some false)) else (some false)) else (some false)))))
end Go.Proofs.Ytblhlpllkpcolaa.PA
