/- Types and the Lean functions that the walks are told against. No conditions. -/
import Derived.Test.YtblhlpllkpcolaaProg
import Derived.Below
import Derived.Deep.Draws
import Derived.Deep.AppendLies
import Derived.Maps.AppendAt
import Derived.OwnWalk
import Derived.Laws.BytesArg
import Derived.Laws.MakeOwn
import Derived.Laws.OwnMore
import Derived.Deep.OwnRows
import Derived.Tactics
import Derived.Lib.ConvBytes
import Derived.Laws.Slices
import Derived.WalkKit
import Derived.KernelRfl
import Derived.RowKit3
import Derived.Deep.LoopGhost
import Derived.Deep.QuietTactic
import Derived.BigQuiet
import Derived.WideLaws
import Derived.Deep.DeepCutAuto
import Derived.Deep.CutBlock
import Derived.Deep.RegionHeld3
import Derived.Laws.Rows
import Derived.Lib.AppendStr
import Derived.ArgAppend
import Derived.Laws.IdiomCopy
import Derived.OrdersHeld
import Derived.Laws.BitsLemmas
import Derived.RowKit
import Derived.Laws.StructEq
import Derived.Lib.SliceRun
import Derived.WalkSpells
import Derived.ChangeArms
import Derived.ChangeSlices
import Derived.Deep.Slices
import Derived.Test.YtblhlpllkpcolaaKW5ba4e0ba11
namespace Go.Proofs.Ytblhlpllkpcolaa.PA
open Go.RowKit Go.Proofs.YtblhlpllkpcolaaW.PrintWords Go.Proofs.YtblhlpllkpcolaaW.PrintLast Go.Proofs.YtblhlpllkpcolaaW.PrintMore
attribute [local go_sem] max2_int min2_int max_two min_two max_three min_three max_four min_four   -- for this text's walks alone
set_option linter.unusedVariables false
set_option linter.unusedSimpArgs false
structure LVar where
  f0 : Int
  f1 : Int
  f2 : Int
def zLVar : LVar := ⟨(0 : Int), (0 : Int), (0 : Int)⟩
def rd_LVar (xs : List LVar) (i : Int) : LVar := xs.getD i.toNat zLVar
structure LTerm where
  f0 : Int
  f1 : Int
  f2 : Int
  f3 : Int
def zLTerm : LTerm := ⟨(0 : Int), (0 : Int), (0 : Int), (0 : Int)⟩
def rd_LTerm (xs : List LTerm) (i : Int) : LTerm := xs.getD i.toNat zLTerm
def rd_LLTerm (xs : List (List LTerm)) (i : Int) : (List LTerm) := xs.getD i.toNat ([] : List LTerm)
def rd_Lint (xs : List (List Int)) (i : Int) : (List Int) := xs.getD i.toNat ([] : List Int)
structure LRule where
  f0 : (List LTerm)
  f1 : (List Int)
  f2 : (List (List LTerm))
def zLRule : LRule := ⟨([] : List LTerm), ([] : List Int), ([] : List (List LTerm))⟩
def rd_LRule (xs : List LRule) (i : Int) : LRule := xs.getD i.toNat zLRule
structure LSystem where
  f0 : (List LVar)
  f1 : (List LRule)
structure IVar where
  f0 : Int
  f1 : Int
  f2 : Int
def zIVar : IVar := ⟨(0 : Int), (0 : Int), (0 : Int)⟩
def rd_IVar (xs : List IVar) (i : Int) : IVar := xs.getD i.toNat zIVar
structure ITerm where
  f0 : Int
  f1 : Int
  f2 : Int
  f3 : Int
def zITerm : ITerm := ⟨(0 : Int), (0 : Int), (0 : Int), (0 : Int)⟩
def rd_ITerm (xs : List ITerm) (i : Int) : ITerm := xs.getD i.toNat zITerm
def rd_LITerm (xs : List (List ITerm)) (i : Int) : (List ITerm) := xs.getD i.toNat ([] : List ITerm)
structure IRule where
  f0 : (List ITerm)
  f1 : (List Int)
  f2 : (List (List ITerm))
def zIRule : IRule := ⟨([] : List ITerm), ([] : List Int), ([] : List (List ITerm))⟩
def rd_IRule (xs : List IRule) (i : Int) : IRule := xs.getD i.toNat zIRule
def laws_szVarS.f (l0 : List (LVar)) (a1 : Int) : Option (Int) := if (wrap64 (a1 - (l0.length : Int))) < 0 then (some (-1)) else (some (wrap64 (a1 - (l0.length : Int))))
def laws_szTermS.f (l0 : List (LTerm)) (a1 : Int) : Option (Int) := if (wrap64 (a1 - (l0.length : Int))) < 0 then (some (-1)) else (some (wrap64 (a1 - (l0.length : Int))))
def laws_szTermSS.l0 : Nat → List (List (LTerm)) → Int → Int → Option (Int)
  | 0, _, _, _ => none
  | k + 1, x0, x1, x5 => if x5 < (x0.length : Int) then (if 0 ≤ x5 then ((laws_szTermS.f (rd_LLTerm x0 x5) x1).bind fun t102 => (if t102 < 0 then (some (-1)) else (laws_szTermSS.l0 k x0 t102 (wrap64 (x5 + 1))))) else (none)) else (some x1)
def laws_szTermSS.f (k : Nat) (l0 : List (List (LTerm))) (a1 : Int) : Option (Int) := if (wrap64 (a1 - (l0.length : Int))) < 0 then (some (-1)) else (laws_szTermSS.l0 k l0 (wrap64 (a1 - (l0.length : Int))) 0)
def laws_szIntS.f (l0 : List Int) (a1 : Int) : Option (Int) := if (wrap64 (a1 - (l0.length : Int))) < 0 then (some (-1)) else (some (wrap64 (a1 - (l0.length : Int))))
def laws_szRule.f (k : Nat) (l0_0 : List (LTerm)) (l0_1 : List Int) (l0_2 : List (List (LTerm))) (a1 : Int) : Option (Int) := (laws_szTermS.f l0_0 a1).bind fun t104 => (if t104 < 0 then (some (-1)) else ((laws_szIntS.f l0_1 t104).bind fun t105 => (if t105 < 0 then (some (-1)) else ((laws_szTermSS.f k l0_2 t105).bind fun t106 => (if t106 < 0 then (some (-1)) else (some t106))))))
def laws_szRuleS.l0 : Nat → List (LRule) → Int → Int → Option (Int)
  | 0, _, _, _ => none
  | k + 1, x0, x1, x5 => if x5 < (x0.length : Int) then (if 0 ≤ x5 then ((laws_szRule.f k ((rd_LRule x0 x5).f0) ((rd_LRule x0 x5).f1) ((rd_LRule x0 x5).f2) x1).bind fun t108 => (if t108 < 0 then (some (-1)) else (laws_szRuleS.l0 k x0 t108 (wrap64 (x5 + 1))))) else (none)) else (some x1)
def laws_szRuleS.f (k : Nat) (l0 : List (LRule)) (a1 : Int) : Option (Int) := if (wrap64 (a1 - (l0.length : Int))) < 0 then (some (-1)) else (laws_szRuleS.l0 k l0 (wrap64 (a1 - (l0.length : Int))) 0)
def laws_szSystem.f (k : Nat) (l0_0 : List (LVar)) (l0_1 : List (LRule)) (a1 : Int) : Option (Int) := (laws_szVarS.f l0_0 a1).bind fun t110 => (if t110 < 0 then (some (-1)) else ((laws_szRuleS.f k l0_1 t110).bind fun t111 => (if t111 < 0 then (some (-1)) else (some t111))))
def laws_toVar.f (a0_0 : Int) (a0_1 : Int) (a0_2 : Int) : Option (Int × Int × Int) := some (a0_0, a0_1, a0_2)
def laws_toVarS.l0 : Nat → List (LVar) → List (IVar) → Int → Option ((List (IVar)))
  | 0, _, _, _ => none
  | k + 1, x0, x3, x4 => if x4 < (x0.length : Int) then (if 0 ≤ x4 then ((laws_toVar.f ((rd_LVar x0 x4).f0) ((rd_LVar x0 x4).f1) ((rd_LVar x0 x4).f2)).bind fun bt119 => (if x4 < (x3.length : Int) then (laws_toVarS.l0 k x0 (x3.set (x4 : Int).toNat (⟨bt119.1, bt119.2.1, bt119.2.2⟩ : IVar)) (wrap64 (x4 + 1))) else (none))) else (none)) else (some x3)
def laws_toVarS.f (k : Nat) (l0 : List (LVar)) : Option ((List (IVar))) := if 0 ≤ (l0.length : Int) then (if ((l0.length : Int) : Int).toNat ≤ 11728124029610 then (laws_toVarS.l0 k l0 (List.replicate ((l0.length : Int) : Int).toNat zIVar) 0) else (none)) else (none)
def laws_toIntS.l0 : Nat → List Int → List Int → Int → Option (List Int)
  | 0, _, _, _ => none
  | k + 1, x0, x3, x4 => if x4 < (x0.length : Int) then (if 0 ≤ x4 then (if x4 < (x3.length : Int) then (laws_toIntS.l0 k x0 (x3.set (x4 : Int).toNat (rd x0 x4)) (wrap64 (x4 + 1))) else (none)) else (none)) else (some x3)
def laws_toIntS.f (k : Nat) (l0 : List Int) : Option (List Int) := if 0 ≤ (l0.length : Int) then (if ((l0.length : Int) : Int).toNat ≤ 35184372088832 then (laws_toIntS.l0 k l0 (List.replicate ((l0.length : Int) : Int).toNat 0) 0) else (none)) else (none)
def laws_toTerm.f (a0_0 : Int) (a0_1 : Int) (a0_2 : Int) (a0_3 : Int) : Option (Int × Int × Int × Int) := some (a0_0, a0_1, a0_2, a0_3)
def laws_toTermS.l0 : Nat → List (LTerm) → List (ITerm) → Int → Option ((List (ITerm)))
  | 0, _, _, _ => none
  | k + 1, x0, x3, x4 => if x4 < (x0.length : Int) then (if 0 ≤ x4 then ((laws_toTerm.f ((rd_LTerm x0 x4).f0) ((rd_LTerm x0 x4).f1) ((rd_LTerm x0 x4).f2) ((rd_LTerm x0 x4).f3)).bind fun bt135 => (if x4 < (x3.length : Int) then (laws_toTermS.l0 k x0 (x3.set (x4 : Int).toNat (⟨bt135.1, bt135.2.1, bt135.2.2.1, bt135.2.2.2⟩ : ITerm)) (wrap64 (x4 + 1))) else (none))) else (none)) else (some x3)
def laws_toTermS.f (k : Nat) (l0 : List (LTerm)) : Option ((List (ITerm))) := if 0 ≤ (l0.length : Int) then (if ((l0.length : Int) : Int).toNat ≤ 8796093022208 then (laws_toTermS.l0 k l0 (List.replicate ((l0.length : Int) : Int).toNat zITerm) 0) else (none)) else (none)
def laws_toTermSS.l0 : Nat → List (List (LTerm)) → List (List (ITerm)) → Int → Option ((List (List (ITerm))))
  | 0, _, _, _ => none
  | k + 1, x0, x3, x4 => if x4 < (x0.length : Int) then (if 0 ≤ x4 then ((laws_toTermS.f k (rd_LLTerm x0 x4)).bind fun t144 => (if x4 < (x3.length : Int) then (laws_toTermSS.l0 k x0 (x3.set (x4 : Int).toNat t144) (wrap64 (x4 + 1))) else (none))) else (none)) else (some x3)
def laws_toTermSS.f (k : Nat) (l0 : List (List (LTerm))) : Option ((List (List (ITerm)))) := if 0 ≤ (l0.length : Int) then (if ((l0.length : Int) : Int).toNat ≤ 11728124029610 then (laws_toTermSS.l0 k l0 (List.replicate ((l0.length : Int) : Int).toNat []) 0) else (none)) else (none)
def laws_toRule.f (k : Nat) (l0_0 : List (LTerm)) (l0_1 : List Int) (l0_2 : List (List (LTerm))) : Option ((List (ITerm)) × List Int × (List (List (ITerm)))) := (laws_toTermS.f k l0_0).bind fun t151 => ((laws_toIntS.f k l0_1).bind fun t154 => ((laws_toTermSS.f k l0_2).bind fun t157 => (some (t151, t154, t157))))
def laws_toRuleS.l0 : Nat → List (LRule) → List (IRule) → Int → Option ((List (IRule)))
  | 0, _, _, _ => none
  | k + 1, x0, x3, x4 => if x4 < (x0.length : Int) then (if 0 ≤ x4 then ((laws_toRule.f k ((rd_LRule x0 x4).f0) ((rd_LRule x0 x4).f1) ((rd_LRule x0 x4).f2)).bind fun bt164 => (if x4 < (x3.length : Int) then (laws_toRuleS.l0 k x0 (x3.set (x4 : Int).toNat (⟨bt164.1, bt164.2.1, bt164.2.2⟩ : IRule)) (wrap64 (x4 + 1))) else (none))) else (none)) else (some x3)
def laws_toRuleS.f (k : Nat) (l0 : List (LRule)) : Option ((List (IRule))) := if 0 ≤ (l0.length : Int) then (if ((l0.length : Int) : Int).toNat ≤ 3909374676536 then (laws_toRuleS.l0 k l0 (List.replicate ((l0.length : Int) : Int).toNat zIRule) 0) else (none)) else (none)
def laws_toSystem.f (k : Nat) (l0_0 : List (LVar)) (l0_1 : List (LRule)) : Option ((List (IVar)) × (List (IRule))) := (laws_toVarS.f k l0_0).bind fun t177 => ((laws_toRuleS.f k l0_1).bind fun t180 => (some (t177, t180)))
def laws_eqVar.f (a0_0 : Int) (a0_1 : Int) (a0_2 : Int) (a1_0 : Int) (a1_1 : Int) (a1_2 : Int) : Option (Bool) := if a0_0 = a1_0 then (if a0_1 = a1_1 then (if a0_2 = a1_2 then (some true) else (some false)) else (some false)) else (some false)
def laws_eqVarS.l0 : Nat → List (IVar) → List (IVar) → Int → Option (Bool)
  | 0, _, _, _ => none
  | k + 1, x0, x1, x5 => if x5 < (x0.length : Int) then (if 0 ≤ x5 then (if x5 < (x1.length : Int) then ((laws_eqVar.f ((rd_IVar x0 x5).f0) ((rd_IVar x0 x5).f1) ((rd_IVar x0 x5).f2) ((rd_IVar x1 x5).f0) ((rd_IVar x1 x5).f1) ((rd_IVar x1 x5).f2)).bind fun t187 => (if t187 = true then (laws_eqVarS.l0 k x0 x1 (wrap64 (x5 + 1))) else (some false))) else (none)) else (none)) else (some true)
def laws_eqVarS.f (k : Nat) (l0 : List (IVar)) (l1 : List (IVar)) : Option (Bool) := if (l0.length : Int) = (l1.length : Int) then (laws_eqVarS.l0 k l0 l1 0) else (some false)
def laws_eqIntS.l0 : Nat → List Int → List Int → Int → Option (Bool)
  | 0, _, _, _ => none
  | k + 1, x0, x1, x5 => if x5 < (x0.length : Int) then (if 0 ≤ x5 then (if x5 < (x1.length : Int) then (if (rd x0 x5) = (rd x1 x5) then (laws_eqIntS.l0 k x0 x1 (wrap64 (x5 + 1))) else (some false)) else (none)) else (none)) else (some true)
def laws_eqIntS.f (k : Nat) (l0 : List Int) (l1 : List Int) : Option (Bool) := if (l0.length : Int) = (l1.length : Int) then (laws_eqIntS.l0 k l0 l1 0) else (some false)
def laws_eqTerm.f (a0_0 : Int) (a0_1 : Int) (a0_2 : Int) (a0_3 : Int) (a1_0 : Int) (a1_1 : Int) (a1_2 : Int) (a1_3 : Int) : Option (Bool) := if a0_0 = a1_0 then (if a0_1 = a1_1 then (if a0_2 = a1_2 then (if a0_3 = a1_3 then (some true) else (some false)) else (some false)) else (some false)) else (some false)
def laws_eqTermS.l0 : Nat → List (ITerm) → List (ITerm) → Int → Option (Bool)
  | 0, _, _, _ => none
  | k + 1, x0, x1, x5 => if x5 < (x0.length : Int) then (if 0 ≤ x5 then (if x5 < (x1.length : Int) then ((laws_eqTerm.f ((rd_ITerm x0 x5).f0) ((rd_ITerm x0 x5).f1) ((rd_ITerm x0 x5).f2) ((rd_ITerm x0 x5).f3) ((rd_ITerm x1 x5).f0) ((rd_ITerm x1 x5).f1) ((rd_ITerm x1 x5).f2) ((rd_ITerm x1 x5).f3)).bind fun t194 => (if t194 = true then (laws_eqTermS.l0 k x0 x1 (wrap64 (x5 + 1))) else (some false))) else (none)) else (none)) else (some true)
def laws_eqTermS.f (k : Nat) (l0 : List (ITerm)) (l1 : List (ITerm)) : Option (Bool) := if (l0.length : Int) = (l1.length : Int) then (laws_eqTermS.l0 k l0 l1 0) else (some false)
def laws_eqTermSS.l0 : Nat → List (List (ITerm)) → List (List (ITerm)) → Int → Option (Bool)
  | 0, _, _, _ => none
  | k + 1, x0, x1, x5 => if x5 < (x0.length : Int) then (if 0 ≤ x5 then (if x5 < (x1.length : Int) then ((laws_eqTermS.f k (rd_LITerm x0 x5) (rd_LITerm x1 x5)).bind fun t197 => (if t197 = true then (laws_eqTermSS.l0 k x0 x1 (wrap64 (x5 + 1))) else (some false))) else (none)) else (none)) else (some true)
def laws_eqTermSS.f (k : Nat) (l0 : List (List (ITerm))) (l1 : List (List (ITerm))) : Option (Bool) := if (l0.length : Int) = (l1.length : Int) then (laws_eqTermSS.l0 k l0 l1 0) else (some false)
def laws_eqRule.f (k : Nat) (l0_0 : List (ITerm)) (l0_1 : List Int) (l0_2 : List (List (ITerm))) (l1_0 : List (ITerm)) (l1_1 : List Int) (l1_2 : List (List (ITerm))) : Option (Bool) := (laws_eqTermS.f k l0_0 l1_0).bind fun t200 => (if t200 = true then ((laws_eqIntS.f k l0_1 l1_1).bind fun t201 => (if t201 = true then ((laws_eqTermSS.f k l0_2 l1_2).bind fun t202 => (if t202 = true then (some true) else (some false))) else (some false))) else (some false))
def laws_eqRuleS.l0 : Nat → List (IRule) → List (IRule) → Int → Option (Bool)
  | 0, _, _, _ => none
  | k + 1, x0, x1, x5 => if x5 < (x0.length : Int) then (if 0 ≤ x5 then (if x5 < (x1.length : Int) then ((laws_eqRule.f k ((rd_IRule x0 x5).f0) ((rd_IRule x0 x5).f1) ((rd_IRule x0 x5).f2) ((rd_IRule x1 x5).f0) ((rd_IRule x1 x5).f1) ((rd_IRule x1 x5).f2)).bind fun t205 => (if t205 = true then (laws_eqRuleS.l0 k x0 x1 (wrap64 (x5 + 1))) else (some false))) else (none)) else (none)) else (some true)
def laws_eqRuleS.f (k : Nat) (l0 : List (IRule)) (l1 : List (IRule)) : Option (Bool) := if (l0.length : Int) = (l1.length : Int) then (laws_eqRuleS.l0 k l0 l1 0) else (some false)
def laws_eqSystem.f (k : Nat) (l0_0 : List (IVar)) (l0_1 : List (IRule)) (l1_0 : List (IVar)) (l1_1 : List (IRule)) : Option (Bool) := (laws_eqVarS.f k l0_0 l1_0).bind fun t208 => (if t208 = true then ((laws_eqRuleS.f k l0_1 l1_1).bind fun t209 => (if t209 = true then (some true) else (some false))) else (some false))
def spec_l1In.f (a0 : Int) (a1 : Int) (a2 : Int) : Option (Bool) := if a0 ≥ a1 then (some (decide (a0 ≤ a2))) else (some false)
def spec_l2Var.f (a0_0 : Int) (a0_1 : Int) (a0_2 : Int) : Option (Bool) := (spec_l1In.f a0_0 (-9999) 9999).bind fun t310 => (if t310 = true then ((spec_l1In.f a0_1 a0_0 9999).bind fun t311 => (if t311 = true then (if (wrap64 (a0_1 - a0_0)) < 20 then ((spec_l1In.f a0_2 a0_0 a0_1).bind fun t312 => (some t312)) else (some false)) else (some false))) else (some false))
def spec_l1One.f (a0 : Int) : Option (Bool) := some (a0 == 7)
mutual
def spec_l1Kind.j0 : Nat → List Int → Int → Bool → Int → Int → Int → Int → Option (Int)
  | 0, _, _, _, _, _, _, _ => none
  | k + 1, x1, x2, x25, x314000, x314001, x314002, x314003 => if x25 = true then (some 1) else (if x314000 = 1 then ((spec_l1In.f x314001 0 (wrap64 (x2 - 1))).bind fun t315 => (if t315 = true then (if x314002 = 0 then (spec_l1Kind.j1 k x1 (x314003 == 0) x314000 x314001 x314002 x314003) else (spec_l1Kind.j1 k x1 false x314000 x314001 x314002 x314003)) else (spec_l1Kind.j1 k x1 false x314000 x314001 x314002 x314003))) else (spec_l1Kind.j1 k x1 false x314000 x314001 x314002 x314003))
def spec_l1Kind.j1 : Nat → List Int → Bool → Int → Int → Int → Int → Option (Int)
  | 0, _, _, _, _, _, _ => none
  | k + 1, x1, x45, x314000, x314001, x314002, x314003 => if x45 = true then (some 1) else ((spec_l1In.f x314000 2 9).bind fun t316 => (if t316 = true then (if x314001 = 0 then ((spec_l1In.f x314002 0 (wrap64 ((x1.length : Int) - 1))).bind fun t317 => (if t317 = true then ((spec_l1In.f x314003 0 (wrap64 ((x1.length : Int) - 1))).bind fun t318 => (spec_l1Kind.j2 k x1 (!t318) x314000 x314001 x314002 x314003)) else (spec_l1Kind.j2 k x1 true x314000 x314001 x314002 x314003))) else (spec_l1Kind.j2 k x1 true x314000 x314001 x314002 x314003)) else (spec_l1Kind.j2 k x1 true x314000 x314001 x314002 x314003)))
def spec_l1Kind.j2 : Nat → List Int → Bool → Int → Int → Int → Int → Option (Int)
  | 0, _, _, _, _, _, _ => none
  | k + 1, x1, x72, x314000, x314001, x314002, x314003 => if x72 = true then (some 0) else (if x314000 ≥ 7 then (spec_l1Kind.j3 k x1 2 x314000 x314001 x314002 x314003) else (spec_l1Kind.j3 k x1 1 x314000 x314001 x314002 x314003))
def spec_l1Kind.j3 : Nat → List Int → Int → Int → Int → Int → Int → Option (Int)
  | 0, _, _, _, _, _, _ => none
  | k + 1, x1, x7, x314000, x314001, x314002, x314003 => if 0 ≤ x314002 then (if x314002 < (x1.length : Int) then (if (rd x1 x314002) = x7 then (if 0 ≤ x314003 then (if x314003 < (x1.length : Int) then (if (rd x1 x314003) = x7 then ((spec_l1One.f x314000).bind fun t321 => (if t321 = true then (spec_l1Kind.j4 k (x314003 != x314002) x314000 x314001 x314002 x314003) else (spec_l1Kind.j4 k false x314000 x314001 x314002 x314003))) else (spec_l1Kind.j4 k true x314000 x314001 x314002 x314003)) else (none)) else (none)) else (spec_l1Kind.j4 k true x314000 x314001 x314002 x314003)) else (none)) else (none)
def spec_l1Kind.j4 : Nat → Bool → Int → Int → Int → Int → Option (Int)
  | 0, _, _, _, _, _ => none
  | k + 1, x103, x314000, x314001, x314002, x314003 => if x103 = true then (some 0) else (if x314000 ≥ 5 then (some 2) else (some 1))
end
def spec_l1Kind.f (k : Nat) (a0_0 : Int) (a0_1 : Int) (a0_2 : Int) (a0_3 : Int) (l1 : List Int) (a2 : Int) : Option (Int) := if a0_0 = 0 then ((spec_l1In.f a0_1 (-9999) 9999).bind fun t314 => (if t314 = true then (if a0_2 = 0 then (spec_l1Kind.j0 k l1 a2 (a0_3 == 0) a0_0 a0_1 a0_2 a0_3) else (spec_l1Kind.j0 k l1 a2 false a0_0 a0_1 a0_2 a0_3)) else (spec_l1Kind.j0 k l1 a2 false a0_0 a0_1 a0_2 a0_3))) else (spec_l1Kind.j0 k l1 a2 false a0_0 a0_1 a0_2 a0_3)
mutual
def spec_KindsOf.j0 : Nat → List (ITerm) → Int → Bool → Option (List Int)
  | 0, _, _, _ => none
  | k + 1, x0, x1, x16 => if x16 = true then (some ([] : List Int)) else (spec_KindsOf.l0 k x0 x1 (([] : List Int)) 0)
def spec_KindsOf.l0 : Nat → List (ITerm) → Int → List Int → Int → Option (List Int)
  | 0, _, _, _, _ => none
  | k + 1, x0, x1, x5, x6 => if x6 < (x0.length : Int) then (if 0 ≤ x6 then ((spec_l1Kind.f k ((rd_ITerm x0 x6).f0) ((rd_ITerm x0 x6).f1) ((rd_ITerm x0 x6).f2) ((rd_ITerm x0 x6).f3) x5 x1).bind fun t328 => (if t328 = 0 then (some ([] : List Int)) else (if x5.length < 17592186044416 then (spec_KindsOf.l0 k x0 x1 (x5 ++ [t328]) (wrap64 (x6 + 1))) else (none)))) else (none)) else (some x5)
end
def spec_KindsOf.f (k : Nat) (l0 : List (ITerm)) (a1 : Int) : Option (List Int) := (spec_l1In.f a1 0 5).bind fun t322 => (if t322 = true then ((spec_l1In.f (l0.length : Int) 1 40).bind fun t323 => (spec_KindsOf.j0 k l0 a1 (!t323))) else (spec_KindsOf.j0 k l0 a1 true))
def spec_l2Is.f (k : Nat) (l0 : List (ITerm)) (a1 : Int) (a2 : Int) : Option (Bool) := (spec_KindsOf.f k l0 a1).bind fun t332 => (if (t332.length : Int) > 0 then (if 0 ≤ (wrap64 ((t332.length : Int) - 1)) then (if (wrap64 ((t332.length : Int) - 1)) < (t332.length : Int) then (some ((rd t332 (wrap64 ((t332.length : Int) - 1))) == a2)) else (none)) else (none)) else (some false))
mutual
def spec_l2Rule.j0 : Nat → Int → Bool → List (ITerm) → List Int → List (List (ITerm)) → Option (Bool)
  | 0, _, _, _, _, _ => none
  | k + 1, x1, x26, x337000, x337001, x337002 => if x26 = true then (some false) else (spec_l2Rule.l0 k x1 0 x337000 x337001 x337002)
def spec_l2Rule.l0 : Nat → Int → Int → List (ITerm) → List Int → List (List (ITerm)) → Option (Bool)
  | 0, _, _, _, _, _ => none
  | k + 1, x1, x5, x337000, x337001, x337002 => if x5 < (x337001.length : Int) then (if 0 ≤ x5 then ((spec_l1In.f (rd x337001 x5) 0 (wrap64 (x1 - 1))).bind fun t339 => (if t339 = true then (if x5 > 0 then (if 0 ≤ (wrap64 (x5 - 1)) then (if (wrap64 (x5 - 1)) < (x337001.length : Int) then (if (rd x337001 x5) ≤ (rd x337001 (wrap64 (x5 - 1))) then (spec_l2Rule.j2 k x1 x5 true x337000 x337001 x337002) else (if x5 < (x337002.length : Int) then ((spec_l2Is.f k (rd_LITerm x337002 x5) x1 1).bind fun t343 => (spec_l2Rule.j2 k x1 x5 (!t343) x337000 x337001 x337002)) else (none))) else (none)) else (none)) else (if x5 < (x337002.length : Int) then ((spec_l2Is.f k (rd_LITerm x337002 x5) x1 1).bind fun t345 => (spec_l2Rule.j2 k x1 x5 (!t345) x337000 x337001 x337002)) else (none))) else (spec_l2Rule.j2 k x1 x5 true x337000 x337001 x337002))) else (none)) else (some true)
def spec_l2Rule.j2 : Nat → Int → Int → Bool → List (ITerm) → List Int → List (List (ITerm)) → Option (Bool)
  | 0, _, _, _, _, _, _ => none
  | k + 1, x1, x5, x70, x337000, x337001, x337002 => if x70 = true then (some false) else (spec_l2Rule.l0 k x1 (wrap64 (x5 + 1)) x337000 x337001 x337002)
end
def spec_l2Rule.f (k : Nat) (l0_0 : List (ITerm)) (l0_1 : List Int) (l0_2 : List (List (ITerm))) (a1 : Int) : Option (Bool) := (spec_l2Is.f k l0_0 a1 2).bind fun t337 => (if t337 = true then (if (l0_1.length : Int) = (l0_2.length : Int) then (spec_l2Rule.j0 k a1 (decide ((l0_1.length : Int) > a1)) l0_0 l0_1 l0_2) else (spec_l2Rule.j0 k a1 true l0_0 l0_1 l0_2)) else (spec_l2Rule.j0 k a1 true l0_0 l0_1 l0_2))
mutual
def spec_SystemValid.j0 : Nat → Bool → List (IVar) → List (IRule) → Option (Bool)
  | 0, _, _, _ => none
  | k + 1, x16, x347000, x347001 => if x16 = true then (some false) else (spec_SystemValid.l0 k 1 0 x347000 x347001)
def spec_SystemValid.l0 : Nat → Int → Int → List (IVar) → List (IRule) → Option (Bool)
  | 0, _, _, _, _ => none
  | k + 1, x3, x4, x347000, x347001 => if x4 < (x347000.length : Int) then (if 0 ≤ x4 then ((spec_l2Var.f ((rd_IVar x347000 x4).f0) ((rd_IVar x347000 x4).f1) ((rd_IVar x347000 x4).f2)).bind fun t349 => (if t349 = true then (spec_SystemValid.l0 k (wrap64 (x3 * (wrap64 ((wrap64 (((rd_IVar x347000 x4).f1) - ((rd_IVar x347000 x4).f0))) + 1)))) (wrap64 (x4 + 1)) x347000 x347001) else (some false))) else (none)) else (spec_SystemValid.l1 k x3 0 x347000 x347001)
def spec_SystemValid.l1 : Nat → Int → Int → List (IVar) → List (IRule) → Option (Bool)
  | 0, _, _, _, _ => none
  | k + 1, x3, x5, x347000, x347001 => if x5 < (x347001.length : Int) then (if 0 ≤ x5 then ((spec_l2Rule.f k ((rd_IRule x347001 x5).f0) ((rd_IRule x347001 x5).f1) ((rd_IRule x347001 x5).f2) (x347000.length : Int)).bind fun t353 => (if t353 = true then (spec_SystemValid.l1 k x3 (wrap64 (x5 + 1)) x347000 x347001) else (some false))) else (none)) else (some (decide (x3 ≤ 400)))
end
def spec_SystemValid.f (k : Nat) (l0_0 : List (IVar)) (l0_1 : List (IRule)) : Option (Bool) := (spec_l1In.f (l0_0.length : Int) 1 5).bind fun t347 => (if t347 = true then (spec_SystemValid.j0 k (decide ((l0_1.length : Int) > 8)) l0_0 l0_1) else (spec_SystemValid.j0 k true l0_0 l0_1))
def spec_FirstState.l0 : Nat → List Int → Int → List (IVar) → List (IRule) → Option (List Int)
  | 0, _, _, _, _ => none
  | k + 1, x3, x4, x355000, x355001 => if x4 < (x355000.length : Int) then ((spec_SystemValid.f k x355000 x355001).bind fun t358 => (if t358 = true then (if 0 ≤ x4 then (if x3.length < 17592186044416 then (spec_FirstState.l0 k (x3 ++ [(rd_IVar x355000 x4).f2]) (wrap64 (x4 + 1)) x355000 x355001) else (none)) else (none)) else (some x3))) else (some x3)
def spec_FirstState.f (k : Nat) (l0_0 : List (IVar)) (l0_1 : List (IRule)) : Option (List Int) := spec_FirstState.l0 k (([] : List Int)) 0 l0_0 l0_1
def impl_in.f (a0 : Int) (a1 : Int) (a2 : Int) : Option (Bool) := if a0 ≥ a1 then (some (decide (a0 ≤ a2))) else (some false)
def impl_clone_int.f (l0 : List Int) : Option (List Int) := if l0.length ≤ 35184372088832 then some l0 else none
def impl_varOk.f (a0_0 : Int) (a0_1 : Int) (a0_2 : Int) : Option (Bool) := (impl_in.f a0_0 (-9999) 9999).bind fun t458 => (if t458 = true then ((impl_in.f a0_1 a0_0 9999).bind fun t459 => (if t459 = true then (if (wrap64 (a0_1 - a0_0)) < 20 then ((impl_in.f a0_2 a0_0 a0_1).bind fun t460 => (some t460)) else (some false)) else (some false))) else (some false))
def impl_size.l0 : Nat → Int → List (IVar) → Int → Int → Option (Int)
  | 0, _, _, _, _ => none
  | k + 1, x3, x6, x7, x8 => if x8 < x7 then (if 0 ≤ x8 then (if x8 < (x6.length : Int) then (impl_size.l0 k (wrap64 (x3 * (wrap64 ((wrap64 (((rd_IVar x6 x8).f1) - ((rd_IVar x6 x8).f0))) + 1)))) x6 x7 (wrap64 (x8 + 1))) else (none)) else (none)) else (some x3)
def impl_size.f (k : Nat) (l0 : List (IVar)) : Option (Int) := impl_size.l0 k 1 l0 (l0.length : Int) 0
mutual
def impl_parts.j0 : Nat → Int → Bool → Option (Int × Int × Int)
  | 0, _, _ => none
  | k + 1, x5, x6 => if x6 = true then (some (2, 1, 1)) else (if x5 = 5 then (impl_parts.j1 k x5 (x5 == 5)) else (impl_parts.j1 k x5 (x5 == 6)))
def impl_parts.j1 : Nat → Int → Bool → Option (Int × Int × Int)
  | 0, _, _ => none
  | k + 1, x5, x10 => if x10 = true then (some (2, 1, 2)) else (if x5 = 7 then (some (1, 2, 2)) else (if x5 = 8 then (impl_parts.j2 k (x5 == 8)) else (impl_parts.j2 k (x5 == 9))))
def impl_parts.j2 : Nat → Bool → Option (Int × Int × Int)
  | 0, _ => none
  | k + 1, x15 => if x15 = true then (some (2, 2, 2)) else (some (0, 0, 1))
end
def impl_parts.f (k : Nat) (a0 : Int) : Option (Int × Int × Int) := if a0 = 2 then (impl_parts.j0 k a0 (a0 == 2)) else (if a0 = 3 then (impl_parts.j0 k a0 (a0 == 3)) else (impl_parts.j0 k a0 (a0 == 4)))
mutual
def impl_kindsOf.j0 : Nat → List (ITerm) → Int → Bool → Option (List Int)
  | 0, _, _, _ => none
  | k + 1, x0, x1, x20 => if x20 = true then (some ([] : List Int)) else (if 0 ≤ (x0.length : Int) then (if ((x0.length : Int) : Int).toNat ≤ 35184372088832 then (impl_kindsOf.l0 k x1 (([] : List Int)) x0 (x0.length : Int) 0) else (none)) else (none))
def impl_kindsOf.l0 : Nat → Int → List Int → List (ITerm) → Int → Int → Option (List Int)
  | 0, _, _, _, _, _ => none
  | k + 1, x1, x5, x24, x25, x26 => if x26 < x25 then (if 0 ≤ x26 then (if x26 < (x24.length : Int) then ((impl_parts.f k ((rd_ITerm x24 x26).f0)).bind fun bt470 => ((impl_in.f ((rd_ITerm x24 x26).f0) 0 9).bind fun t473 => (if ((rd_ITerm x24 x26).f0) = 0 then ((impl_in.f ((rd_ITerm x24 x26).f1) (-9999) 9999).bind fun t474 => (if t474 = true then (if ((rd_ITerm x24 x26).f2) = 0 then (impl_kindsOf.j2 k x1 x5 bt470.2.2 (((rd_ITerm x24 x26).f3) == 0) x24 x25 x26) else (impl_kindsOf.j2 k x1 x5 bt470.2.2 false x24 x25 x26)) else (impl_kindsOf.j2 k x1 x5 bt470.2.2 false x24 x25 x26))) else (if ((rd_ITerm x24 x26).f0) = 1 then ((impl_in.f ((rd_ITerm x24 x26).f1) 0 (wrap64 (x1 - 1))).bind fun t475 => (if t475 = true then (if ((rd_ITerm x24 x26).f2) = 0 then (impl_kindsOf.j2 k x1 x5 bt470.2.2 (((rd_ITerm x24 x26).f3) == 0) x24 x25 x26) else (impl_kindsOf.j2 k x1 x5 bt470.2.2 false x24 x25 x26)) else (impl_kindsOf.j2 k x1 x5 bt470.2.2 false x24 x25 x26))) else (if t473 = true then (if ((rd_ITerm x24 x26).f1) = 0 then ((impl_in.f ((rd_ITerm x24 x26).f2) 0 (wrap64 (x26 - 1))).bind fun t476 => (if t476 = true then ((impl_in.f ((rd_ITerm x24 x26).f3) 0 (wrap64 (x26 - 1))).bind fun t477 => (if t477 = true then (if 0 ≤ ((rd_ITerm x24 x26).f2) then (if ((rd_ITerm x24 x26).f2) < (x5.length : Int) then (if (rd x5 ((rd_ITerm x24 x26).f2)) = bt470.2.1 then (if 0 ≤ ((rd_ITerm x24 x26).f3) then (if ((rd_ITerm x24 x26).f3) < (x5.length : Int) then (if (rd x5 ((rd_ITerm x24 x26).f3)) = bt470.2.1 then (if bt470.1 = 2 then (impl_kindsOf.j2 k x1 x5 bt470.2.2 true x24 x25 x26) else (impl_kindsOf.j2 k x1 x5 bt470.2.2 (((rd_ITerm x24 x26).f2) == ((rd_ITerm x24 x26).f3)) x24 x25 x26)) else (impl_kindsOf.j2 k x1 x5 bt470.2.2 false x24 x25 x26)) else (none)) else (none)) else (impl_kindsOf.j2 k x1 x5 bt470.2.2 false x24 x25 x26)) else (none)) else (none)) else (impl_kindsOf.j2 k x1 x5 bt470.2.2 false x24 x25 x26))) else (impl_kindsOf.j2 k x1 x5 bt470.2.2 false x24 x25 x26))) else (impl_kindsOf.j2 k x1 x5 bt470.2.2 false x24 x25 x26)) else (impl_kindsOf.j2 k x1 x5 bt470.2.2 t473 x24 x25 x26)))))) else (none)) else (none)) else (if 0 < x5.length then (some x5) else (none))
def impl_kindsOf.j2 : Nat → Int → List Int → Int → Bool → List (ITerm) → Int → Int → Option (List Int)
  | 0, _, _, _, _, _, _, _ => none
  | k + 1, x1, x5, x10, x11, x24, x25, x26 => if x11 = true then (if x5.length < 17592186044416 then (impl_kindsOf.l0 k x1 (x5 ++ [x10]) x24 x25 (wrap64 (x26 + 1))) else (none)) else (some ([] : List Int))
end
def impl_kindsOf.f (k : Nat) (l0 : List (ITerm)) (a1 : Int) : Option (List Int) := (impl_in.f a1 0 5).bind fun t463 => (if t463 = true then ((impl_in.f (l0.length : Int) 1 40).bind fun t464 => (impl_kindsOf.j0 k l0 a1 (!t464))) else (impl_kindsOf.j0 k l0 a1 true))
def impl_kindOf.f (k : Nat) (l0 : List (ITerm)) (a1 : Int) : Option (Int) := (impl_kindsOf.f k l0 a1).bind fun t => if t = [] then some 0 else (if 0 ≤ (wrap64 ((t.length : Int) - 1)) then (if (wrap64 ((t.length : Int) - 1)) < (t.length : Int) then some (rd t (wrap64 ((t.length : Int) - 1))) else none) else none)
mutual
def impl_ruleOk.j0 : Nat → Int → Bool → List (ITerm) → List Int → List (List (ITerm)) → Option (Bool)
  | 0, _, _, _, _, _ => none
  | k + 1, x1, x20, x484000, x484001, x484002 => if x20 = true then (some false) else (impl_ruleOk.l0 k x1 x484001 (x484001.length : Int) 0 x484000 x484001 x484002)
def impl_ruleOk.l0 : Nat → Int → List Int → Int → Int → List (ITerm) → List Int → List (List (ITerm)) → Option (Bool)
  | 0, _, _, _, _, _, _, _ => none
  | k + 1, x1, x22, x23, x24, x484000, x484001, x484002 => if x24 < x23 then (if 0 ≤ x24 then (if x24 < (x22.length : Int) then ((impl_in.f (rd x22 x24) 0 (wrap64 (x1 - 1))).bind fun t486 => (if t486 = true then (if x24 > 0 then (if 0 ≤ (wrap64 (x24 - 1)) then (if (wrap64 (x24 - 1)) < (x484001.length : Int) then (if (rd x484001 (wrap64 (x24 - 1))) ≥ (rd x22 x24) then (impl_ruleOk.j2 k x1 x22 x23 x24 true x484000 x484001 x484002) else (if x24 < (x484002.length : Int) then ((impl_kindOf.f k (rd_LITerm x484002 x24) x1).bind fun t489 => (impl_ruleOk.j2 k x1 x22 x23 x24 (t489 != 1) x484000 x484001 x484002)) else (none))) else (none)) else (none)) else (if x24 < (x484002.length : Int) then ((impl_kindOf.f k (rd_LITerm x484002 x24) x1).bind fun t491 => (impl_ruleOk.j2 k x1 x22 x23 x24 (t491 != 1) x484000 x484001 x484002)) else (none))) else (impl_ruleOk.j2 k x1 x22 x23 x24 true x484000 x484001 x484002))) else (none)) else (none)) else (some true)
def impl_ruleOk.j2 : Nat → Int → List Int → Int → Int → Bool → List (ITerm) → List Int → List (List (ITerm)) → Option (Bool)
  | 0, _, _, _, _, _, _, _, _ => none
  | k + 1, x1, x22, x23, x24, x57, x484000, x484001, x484002 => if x57 = true then (some false) else (impl_ruleOk.l0 k x1 x22 x23 (wrap64 (x24 + 1)) x484000 x484001 x484002)
end
def impl_ruleOk.f (k : Nat) (l0_0 : List (ITerm)) (l0_1 : List Int) (l0_2 : List (List (ITerm))) (a1 : Int) : Option (Bool) := (impl_kindOf.f k l0_0 a1).bind fun t484 => (if t484 = 2 then (impl_ruleOk.j0 k a1 ((l0_1.length : Int) != (l0_2.length : Int)) l0_0 l0_1 l0_2) else (impl_ruleOk.j0 k a1 true l0_0 l0_1 l0_2))
def impl_SystemValid_1.f (a0_0 : Int) (a0_1 : Int) (a0_2 : Int) : Option (Bool) := (impl_varOk.f a0_0 a0_1 a0_2).bind fun t493 => (some (!t493))
def slices_IndexFunc_at_impl_SystemValid_1.l0 : Nat → List (IVar) → Int → Int → Option (Int)
  | 0, _, _, _ => none
  | k + 1, x0, x7, x8 => if x8 < x7 then (if 0 ≤ x8 then (if x8 < (x0.length : Int) then ((impl_SystemValid_1.f ((rd_IVar x0 x8).f0) ((rd_IVar x0 x8).f1) ((rd_IVar x0 x8).f2)).bind fun t495 => (if t495 = true then (some x8) else (slices_IndexFunc_at_impl_SystemValid_1.l0 k x0 x7 (wrap64 (x8 + 1))))) else (none)) else (none)) else (some (-1))
def slices_IndexFunc_at_impl_SystemValid_1.f (k : Nat) (l0 : List (IVar))  : Option (Int) := slices_IndexFunc_at_impl_SystemValid_1.l0 k l0 (l0.length : Int) 0
def slices_ContainsFunc_at_impl_SystemValid_1.f (k : Nat) (l0 : List (IVar))  : Option (Bool) := (slices_IndexFunc_at_impl_SystemValid_1.f k l0).bind fun t496 => (some (decide (t496 ≥ 0)))
def impl_SystemValid_2.f (k : Nat) (l0_0 : List (ITerm)) (l0_1 : List Int) (l0_2 : List (List (ITerm))) (l1_0 : List (IVar)) (l1_1 : List (IRule)) : Option (Bool) := (impl_ruleOk.f k l0_0 l0_1 l0_2 (l1_0.length : Int)).bind fun t499 => (some (!t499))
def slices_IndexFunc_at_impl_SystemValid_2.l0 : Nat → List (IRule) → Int → Int → List (IVar) → List (IRule) → Option (Int)
  | 0, _, _, _, _, _ => none
  | k + 1, x0, x7, x8, x501000, x501001 => if x8 < x7 then (if 0 ≤ x8 then (if x8 < (x0.length : Int) then ((impl_SystemValid_2.f k ((rd_IRule x0 x8).f0) ((rd_IRule x0 x8).f1) ((rd_IRule x0 x8).f2) x501000 x501001).bind fun t502 => (if t502 = true then (some x8) else (slices_IndexFunc_at_impl_SystemValid_2.l0 k x0 x7 (wrap64 (x8 + 1)) x501000 x501001))) else (none)) else (none)) else (some (-1))
def slices_IndexFunc_at_impl_SystemValid_2.f (k : Nat) (l0 : List (IRule))  (l2_0 : List (IVar)) (l2_1 : List (IRule)) : Option (Int) := slices_IndexFunc_at_impl_SystemValid_2.l0 k l0 (l0.length : Int) 0 l2_0 l2_1
def slices_ContainsFunc_at_impl_SystemValid_2.f (k : Nat) (l0 : List (IRule))  (l2_0 : List (IVar)) (l2_1 : List (IRule)) : Option (Bool) := (slices_IndexFunc_at_impl_SystemValid_2.f k l0 l2_0 l2_1).bind fun t504 => (some (decide (t504 ≥ 0)))
def impl_SystemValid.j0 : Nat → Bool → List (IVar) → List (IRule) → Option (Bool)
  | 0, _, _, _ => none
  | k + 1, x24, x506000, x506001 => if x24 = true then (some false) else ((slices_ContainsFunc_at_impl_SystemValid_2.f k x506001 x506000 x506001).bind fun t509 => (some (!t509)))
def impl_SystemValid.f (k : Nat) (l0_0 : List (IVar)) (l0_1 : List (IRule)) : Option (Bool) := (impl_in.f (l0_0.length : Int) 1 5).bind fun t506 => (if t506 = true then (if (l0_1.length : Int) > 8 then (impl_SystemValid.j0 k true l0_0 l0_1) else ((slices_ContainsFunc_at_impl_SystemValid_1.f k l0_0).bind fun t507 => (if t507 = true then (impl_SystemValid.j0 k true l0_0 l0_1) else ((impl_size.f k l0_0).bind fun t508 => (impl_SystemValid.j0 k (decide (t508 > 400)) l0_0 l0_1))))) else (impl_SystemValid.j0 k true l0_0 l0_1))
def laws_markIntS.l0 : Nat → List Int → Int → Int → Option (Int × List Int)
  | 0, _, _, _ => none
  | k + 1, x0, x1, x5 => if x5 < (x0.length : Int) then (if 0 ≤ x5 then (laws_markIntS.l0 k (x0.set (x5 : Int).toNat x1) (wrap64 (x1 + 1)) (wrap64 (x5 + 1))) else (none)) else (some (x1, x0))
def laws_markIntS.f (k : Nat) (l0 : List Int) (a1 : Int) : Option (Int × List Int) := laws_markIntS.l0 k l0 a1 0
def impl_clone_Lint.f (l0 : List (List Int)) : Option (List (List Int)) := if l0.length ≤ 5864062014805 then some l0 else none
def laws_heldIntS.l0 : Nat → List Int → Int → Int → Option (Int)
  | 0, _, _, _ => none
  | k + 1, x0, x1, x5 => if x5 < (x0.length : Int) then (if 0 ≤ x5 then (if (rd x0 x5) = x1 then (laws_heldIntS.l0 k x0 (wrap64 (x1 + 1)) (wrap64 (x5 + 1))) else (some (-1))) else (none)) else (some x1)
def laws_heldIntS.f (k : Nat) (l0 : List Int) (a1 : Int) : Option (Int) := laws_heldIntS.l0 k l0 a1 0
def spec_SizeOf.l0 : Nat → Int → Int → List (IVar) → List (IRule) → Option (Int)
  | 0, _, _, _, _ => none
  | k + 1, x3, x4, x691000, x691001 => if x4 < (x691000.length : Int) then (if 0 ≤ x4 then (spec_SizeOf.l0 k (wrap64 (x3 * (wrap64 ((wrap64 (((rd_IVar x691000 x4).f1) - ((rd_IVar x691000 x4).f0))) + 1)))) (wrap64 (x4 + 1)) x691000 x691001) else (none)) else (some x3)
def spec_SizeOf.f (k : Nat) (l0_0 : List (IVar)) (l0_1 : List (IRule)) : Option (Int) := (spec_SystemValid.f k l0_0 l0_1).bind fun t691 => (if t691 = true then (spec_SizeOf.l0 k 1 0 l0_0 l0_1) else (some 0))
mutual
def spec_SetValid.l0 : Nat → List Int → Int → Int → Option (Bool)
  | 0, _, _, _ => none
  | k + 1, x1, x5, x6 => if x6 < (x1.length : Int) then (if 0 ≤ x6 then ((spec_l1In.f (rd x1 x6) 0 (wrap64 (x5 - 1))).bind fun t697 => (if t697 = true then (if x6 > 0 then (if 0 ≤ (wrap64 (x6 - 1)) then (if (wrap64 (x6 - 1)) < (x1.length : Int) then (spec_SetValid.j1 k x1 x5 x6 (decide ((rd x1 x6) ≤ (rd x1 (wrap64 (x6 - 1)))))) else (none)) else (none)) else (spec_SetValid.j1 k x1 x5 x6 false)) else (spec_SetValid.j1 k x1 x5 x6 true))) else (none)) else (some (decide (x5 > 0)))
def spec_SetValid.j1 : Nat → List Int → Int → Int → Bool → Option (Bool)
  | 0, _, _, _, _ => none
  | k + 1, x1, x5, x6, x38 => if x38 = true then (some false) else (spec_SetValid.l0 k x1 x5 (wrap64 (x6 + 1)))
end
def spec_SetValid.f (k : Nat) (l0_0 : List (IVar)) (l0_1 : List (IRule)) (l1 : List Int) : Option (Bool) := (spec_SizeOf.f k l0_0 l0_1).bind fun t695 => (spec_SetValid.l0 k l1 t695 0)
def spec_l6Many.l0 : Nat → Int → Int → Int → Option (Int)
  | 0, _, _, _ => none
  | k + 1, x0, x3, x4 => if x4 < x0 then (spec_l6Many.l0 k x0 (wrap64 (x3 + 1)) (wrap64 (x4 * 2))) else (some x3)
def spec_l6Many.f (k : Nat) (a0 : Int) : Option (Int) := spec_l6Many.l0 k a0 0 1
def spec_l6Widths.l0 : Nat → List Int → Int → List (IVar) → List (IRule) → Option (List Int)
  | 0, _, _, _, _ => none
  | k + 1, x3, x4, x701000, x701001 => if x4 < (x701000.length : Int) then (if 0 ≤ x4 then ((spec_l6Many.f k (wrap64 ((wrap64 (((rd_IVar x701000 x4).f1) - ((rd_IVar x701000 x4).f0))) + 1))).bind fun t706 => (if x3.length < 17592186044416 then (spec_l6Widths.l0 k (x3 ++ [t706]) (wrap64 (x4 + 1)) x701000 x701001) else (none))) else (none)) else (some x3)
def spec_l6Widths.f (k : Nat) (l0_0 : List (IVar)) (l0_1 : List (IRule)) : Option (List Int) := spec_l6Widths.l0 k (([] : List Int)) 0 l0_0 l0_1
def spec_l6Sum.l0 : Nat → List Int → Int → Int → Option (Int)
  | 0, _, _, _ => none
  | k + 1, x0, x3, x4 => if x4 < (x0.length : Int) then (if 0 ≤ x4 then (spec_l6Sum.l0 k x0 (wrap64 (x3 + (rd x0 x4))) (wrap64 (x4 + 1))) else (none)) else (some x3)
def spec_l6Sum.f (k : Nat) (l0 : List Int) : Option (Int) := spec_l6Sum.l0 k l0 0 0
def spec_CubeValid.l0 : Nat → List Int → Int → Int → Option (Bool)
  | 0, _, _, _ => none
  | k + 1, x0, x1, x5 => if x5 < (x0.length : Int) then (if 0 ≤ x5 then ((spec_l1In.f (rd x0 x5) 0 2).bind fun t712 => (if t712 = true then (spec_CubeValid.l0 k x0 x1 (wrap64 (x5 + 1))) else (some false))) else (none)) else ((spec_l1In.f x1 0 12).bind fun t713 => (if t713 = true then (some ((x0.length : Int) == x1)) else (some false)))
def spec_CubeValid.f (k : Nat) (l0 : List Int) (a1 : Int) : Option (Bool) := spec_CubeValid.l0 k l0 a1 0
def spec_l16Cube.f (k : Nat) (l0_0 : List (IVar)) (l0_1 : List (IRule)) (l1 : List Int) : Option (Bool) := (spec_SystemValid.f k l0_0 l0_1).bind fun t715 => (if t715 = true then ((spec_l6Widths.f k l0_0 l0_1).bind fun t716 => ((spec_l6Sum.f k t716).bind fun t719 => ((spec_CubeValid.f k l1 t719).bind fun t720 => (some t720)))) else (some false))
def spec_l6Value.l0 : Nat → Int → List Int → Int → Option (List Int)
  | 0, _, _, _ => none
  | k + 1, x0, x5, x6 => if x6 ≥ 0 then (if 0 ≤ x6 then (if x5.length < 17592186044416 then (spec_l6Value.l0 k x0 (x5 ++ [Int.tmod (shr .i64 x0 x6) 2]) (wrap64 (x6 - 1))) else (none)) else (none)) else (some x5)
def spec_l6Value.f (k : Nat) (a0 : Int) (a1 : Int) : Option (List Int) := spec_l6Value.l0 k a0 (([] : List Int)) (wrap64 (a1 - 1))
theorem spec_l6Value.mono_l : ∀ k, (∀ y0 y1 y2, LeO (spec_l6Value.l0 k y0 y1 y2) (spec_l6Value.l0 (k + 1) y0 y1 y2))
  | 0 => fun _ _ _ r h => by simp [spec_l6Value.l0] at h
  | k + 1 => by
    have ih0 := spec_l6Value.mono_l k
    · intro y0 y1 y2
      unfold spec_l6Value.l0
      repeat' first
      | (with_reducible exact ih0 _ _ _)
      | (with_reducible exact LeO.refl _)
      | (with_reducible exact LeO.none _)
      | (with_reducible refine LeO.ite ?_ ?_)
      | (with_reducible refine LeO.bind ?_ (fun _ => ?_))
      | exact ih0 _ _ _
      | exact LeO.none _
      | refine LeO.ite ?_ ?_
      | refine LeO.bind ?_ (fun _ => ?_)
theorem spec_l6Value.mono : ∀ a0 a1 k, LeO (spec_l6Value.f k a0 a1) (spec_l6Value.f (k + 1) a0 a1) := by
  intro a0 a1 k
  have ih0 := spec_l6Value.mono_l k
  unfold spec_l6Value.f
  repeat' first
      | (with_reducible exact ih0 _ _ _)
      | (with_reducible exact LeO.refl _)
      | (with_reducible exact LeO.none _)
      | (with_reducible refine LeO.ite ?_ ?_)
      | (with_reducible refine LeO.bind ?_ (fun _ => ?_))
      | exact ih0 _ _ _
      | exact LeO.none _
      | refine LeO.ite ?_ ?_
      | refine LeO.bind ?_ (fun _ => ?_)
mutual
def spec_l6State.l0 : Nat → List Int → List Int → List Int → Int → List (IVar) → List (IRule) → Option (List Int)
  | 0, _, _, _, _, _, _ => none
  | k + 1, x1, x5, x6, x7, x728000, x728001 => if x7 < (x1.length : Int) then (if 0 ≤ x7 then (if x7 < (x728000.length : Int) then (if x7 < (x6.length : Int) then ((spec_l6Value.f k (wrap64 ((rd x1 x7) - ((rd_IVar x728000 x7).f0))) (rd x6 x7)).bind fun t737 => (spec_l6State.l1 k x1 x5 x6 x7 t737 0 x728000 x728001)) else (none)) else (none)) else (none)) else (some x5)
def spec_l6State.l1 : Nat → List Int → List Int → List Int → Int → List Int → Int → List (IVar) → List (IRule) → Option (List Int)
  | 0, _, _, _, _, _, _, _, _ => none
  | k + 1, x1, x5, x6, x7, x8, x9, x728000, x728001 => if x9 < (x8.length : Int) then (if 0 ≤ x9 then (if x5.length < 17592186044416 then (spec_l6State.l1 k x1 (x5 ++ [rd x8 x9]) x6 x7 x8 (wrap64 (x9 + 1)) x728000 x728001) else (none)) else (none)) else (spec_l6State.l0 k x1 x5 x6 (wrap64 (x7 + 1)) x728000 x728001)
end
def spec_l6State.f (k : Nat) (l0_0 : List (IVar)) (l0_1 : List (IRule)) (l1 : List Int) : Option (List Int) := (spec_l6Widths.f k l0_0 l0_1).bind fun t731 => (spec_l6State.l0 k l1 (([] : List Int)) t731 0 l0_0 l0_1)
def spec_l3Copy.l0 : Nat → List Int → List Int → Int → Option (List Int)
  | 0, _, _, _ => none
  | k + 1, x0, x3, x4 => if x4 < (x0.length : Int) then (if 0 ≤ x4 then (if x3.length < 17592186044416 then (spec_l3Copy.l0 k x0 (x3 ++ [rd x0 x4]) (wrap64 (x4 + 1))) else (none)) else (none)) else (some x3)
def spec_l3Copy.f (k : Nat) (l0 : List Int) : Option (List Int) := spec_l3Copy.l0 k l0 (([] : List Int)) 0
def spec_l4State.l0 : Nat → Int → List Int → Int → List (IVar) → List (IRule) → Option (List Int)
  | 0, _, _, _, _, _ => none
  | k + 1, x1, x5, x6, x752000, x752001 => if x6 ≥ 0 then (if 0 ≤ x6 then (if x6 < (x752000.length : Int) then (if (wrap64 ((wrap64 (((rd_IVar x752000 x6).f1) - ((rd_IVar x752000 x6).f0))) + 1)) = 0 then (none) else (if x6 < (x5.length : Int) then (spec_l4State.l0 k (wrap64 (Int.tdiv x1 (wrap64 ((wrap64 (((rd_IVar x752000 x6).f1) - ((rd_IVar x752000 x6).f0))) + 1)))) (x5.set (x6 : Int).toNat (wrap64 (((rd_IVar x752000 x6).f0) + (Int.tmod x1 (wrap64 ((wrap64 (((rd_IVar x752000 x6).f1) - ((rd_IVar x752000 x6).f0))) + 1)))))) (wrap64 (x6 - 1)) x752000 x752001) else (none))) else (none)) else (none)) else (some x5)
def spec_l4State.f (k : Nat) (l0_0 : List (IVar)) (l0_1 : List (IRule)) (a1 : Int) : Option (List Int) := (spec_FirstState.f k l0_0 l0_1).bind fun t752 => ((spec_l3Copy.f k t752).bind fun t755 => (spec_l4State.l0 k a1 t755 (wrap64 ((l0_0.length : Int) - 1)) l0_0 l0_1))
def spec_l16Has.l0 : Nat → List Int → List Int → Int → Option (Bool)
  | 0, _, _, _ => none
  | k + 1, x0, x1, x5 => if x5 < (x0.length : Int) then (if 0 ≤ x5 then (if (rd x0 x5) = 2 then (spec_l16Has.l0 k x0 x1 (wrap64 (x5 + 1))) else (if x5 < (x1.length : Int) then (if (rd x0 x5) = (rd x1 x5) then (spec_l16Has.l0 k x0 x1 (wrap64 (x5 + 1))) else (some false)) else (none))) else (none)) else (some true)
def spec_l16Has.f (k : Nat) (l0 : List Int) (l1 : List Int) : Option (Bool) := spec_l16Has.l0 k l0 l1 0
def spec_l16States.l0 : Nat → List Int → List Int → Int → List (IVar) → List (IRule) → Option (List Int)
  | 0, _, _, _, _, _ => none
  | k + 1, x1, x5, x6, x766000, x766001 => (spec_SizeOf.f k x766000 x766001).bind fun t769 => (if x6 < t769 then ((spec_l4State.f k x766000 x766001 x6).bind fun t770 => ((spec_l6State.f k x766000 x766001 t770).bind fun t773 => ((spec_l16Has.f k x1 t773).bind fun t776 => (if t776 = true then (if x5.length < 17592186044416 then (spec_l16States.l0 k x1 (x5 ++ [x6]) (wrap64 (x6 + 1)) x766000 x766001) else (none)) else (spec_l16States.l0 k x1 x5 (wrap64 (x6 + 1)) x766000 x766001))))) else (some x5))
def spec_l16States.f (k : Nat) (l0_0 : List (IVar)) (l0_1 : List (IRule)) (l1 : List Int) : Option (List Int) := spec_l16States.l0 k l1 (([] : List Int)) 0 l0_0 l0_1
mutual
def spec_l4Set.l0 : Nat → List Int → Int → Option (Bool)
  | 0, _, _ => none
  | k + 1, x0, x3 => if x3 < (x0.length : Int) then (if 0 ≤ x3 then ((spec_l1In.f (rd x0 x3) 0 399).bind fun t781 => (if t781 = true then (if x3 > 0 then (if 0 ≤ (wrap64 (x3 - 1)) then (if (wrap64 (x3 - 1)) < (x0.length : Int) then (spec_l4Set.j1 k x0 x3 (decide ((rd x0 x3) ≤ (rd x0 (wrap64 (x3 - 1)))))) else (none)) else (none)) else (spec_l4Set.j1 k x0 x3 false)) else (spec_l4Set.j1 k x0 x3 true))) else (none)) else (some true)
def spec_l4Set.j1 : Nat → List Int → Int → Bool → Option (Bool)
  | 0, _, _, _ => none
  | k + 1, x0, x3, x31 => if x31 = true then (some false) else (spec_l4Set.l0 k x0 (wrap64 (x3 + 1)))
end
def spec_l4Set.f (k : Nat) (l0 : List Int) : Option (Bool) := spec_l4Set.l0 k l0 0
def spec_l4Marks.l0 : Nat → List Int → List Bool → Int → Option (List Bool)
  | 0, _, _, _ => none
  | k + 1, x0, x5, x6 => if x6 < (x0.length : Int) then (if 0 ≤ x6 then (if 0 ≤ (rd x0 x6) then (if (rd x0 x6) < (x5.length : Int) then (spec_l4Marks.l0 k x0 (x5.set ((rd x0 x6) : Int).toNat true) (wrap64 (x6 + 1))) else (none)) else (none)) else (none)) else (some x5)
def spec_l4Marks.f (k : Nat) (l0 : List Int) (a1 : Int) : Option (List Bool) := if 0 ≤ a1 then (if (a1 : Int).toNat ≤ 281474976710656 then (spec_l4Marks.l0 k l0 (List.replicate (a1 : Int).toNat false) 0) else (none)) else (none)
mutual
def spec_l4Mix.l1 : Nat → List Int → Int → Int → (List Bool) → (List Bool) → Option (List Int)
  | 0, _, _, _, _, _ => none
  | k + 1, x7, x10, a2, r3, r4 => if x10 < 400 then (if a2 = 0 then (if 0 ≤ x10 then (if x10 < (r3.length : Int) then (if (rdOf false r3 x10) = true then (if 0 ≤ x10 then (if x10 < (r4.length : Int) then (if (rdOf false r4 x10) = true then (if x7.length + 1 ≤ 1099511627776 then (spec_l4Mix.l1 k (x7 ++ [x10]) (wrap64 (x10 + 1)) a2 r3 r4) else none) else (if a2 = 1 then (if 0 ≤ x10 then (if x10 < (r3.length : Int) then (if (rdOf false r3 x10) = true then (if x7.length + 1 ≤ 1099511627776 then (spec_l4Mix.l1 k (x7 ++ [x10]) (wrap64 (x10 + 1)) a2 r3 r4) else none) else (if 0 ≤ x10 then (if x10 < (r4.length : Int) then (if (rdOf false r4 x10) = true then (if x7.length + 1 ≤ 1099511627776 then (spec_l4Mix.l1 k (x7 ++ [x10]) (wrap64 (x10 + 1)) a2 r3 r4) else none) else (if a2 = 2 then (if 0 ≤ x10 then (if x10 < (r3.length : Int) then (if (rdOf false r3 x10) = true then (if 0 ≤ x10 then (if x10 < (r4.length : Int) then (if (rdOf false r4 x10) = true then (spec_l4Mix.l1 k x7 (wrap64 (x10 + 1)) a2 r3 r4) else (if x7.length + 1 ≤ 1099511627776 then (spec_l4Mix.l1 k (x7 ++ [x10]) (wrap64 (x10 + 1)) a2 r3 r4) else none)) else none) else none) else (spec_l4Mix.l1 k x7 (wrap64 (x10 + 1)) a2 r3 r4)) else none) else none) else (spec_l4Mix.l1 k x7 (wrap64 (x10 + 1)) a2 r3 r4))) else none) else none)) else none) else none) else (if a2 = 2 then (if 0 ≤ x10 then (if x10 < (r3.length : Int) then (if (rdOf false r3 x10) = true then (if 0 ≤ x10 then (if x10 < (r4.length : Int) then (if (rdOf false r4 x10) = true then (spec_l4Mix.l1 k x7 (wrap64 (x10 + 1)) a2 r3 r4) else (if x7.length + 1 ≤ 1099511627776 then (spec_l4Mix.l1 k (x7 ++ [x10]) (wrap64 (x10 + 1)) a2 r3 r4) else none)) else none) else none) else (spec_l4Mix.l1 k x7 (wrap64 (x10 + 1)) a2 r3 r4)) else none) else none) else (spec_l4Mix.l1 k x7 (wrap64 (x10 + 1)) a2 r3 r4)))) else none) else none) else (if a2 = 1 then (if 0 ≤ x10 then (if x10 < (r3.length : Int) then (if (rdOf false r3 x10) = true then (if x7.length + 1 ≤ 1099511627776 then (spec_l4Mix.l1 k (x7 ++ [x10]) (wrap64 (x10 + 1)) a2 r3 r4) else none) else (if 0 ≤ x10 then (if x10 < (r4.length : Int) then (if (rdOf false r4 x10) = true then (if x7.length + 1 ≤ 1099511627776 then (spec_l4Mix.l1 k (x7 ++ [x10]) (wrap64 (x10 + 1)) a2 r3 r4) else none) else (if a2 = 2 then (if 0 ≤ x10 then (if x10 < (r3.length : Int) then (if (rdOf false r3 x10) = true then (if 0 ≤ x10 then (if x10 < (r4.length : Int) then (if (rdOf false r4 x10) = true then (spec_l4Mix.l1 k x7 (wrap64 (x10 + 1)) a2 r3 r4) else (if x7.length + 1 ≤ 1099511627776 then (spec_l4Mix.l1 k (x7 ++ [x10]) (wrap64 (x10 + 1)) a2 r3 r4) else none)) else none) else none) else (spec_l4Mix.l1 k x7 (wrap64 (x10 + 1)) a2 r3 r4)) else none) else none) else (spec_l4Mix.l1 k x7 (wrap64 (x10 + 1)) a2 r3 r4))) else none) else none)) else none) else none) else (if a2 = 2 then (if 0 ≤ x10 then (if x10 < (r3.length : Int) then (if (rdOf false r3 x10) = true then (if 0 ≤ x10 then (if x10 < (r4.length : Int) then (if (rdOf false r4 x10) = true then (spec_l4Mix.l1 k x7 (wrap64 (x10 + 1)) a2 r3 r4) else (if x7.length + 1 ≤ 1099511627776 then (spec_l4Mix.l1 k (x7 ++ [x10]) (wrap64 (x10 + 1)) a2 r3 r4) else none)) else none) else none) else (spec_l4Mix.l1 k x7 (wrap64 (x10 + 1)) a2 r3 r4)) else none) else none) else (spec_l4Mix.l1 k x7 (wrap64 (x10 + 1)) a2 r3 r4)))) else none) else none) else (if a2 = 1 then (if 0 ≤ x10 then (if x10 < (r3.length : Int) then (if (rdOf false r3 x10) = true then (if x7.length + 1 ≤ 1099511627776 then (spec_l4Mix.l1 k (x7 ++ [x10]) (wrap64 (x10 + 1)) a2 r3 r4) else none) else (if 0 ≤ x10 then (if x10 < (r4.length : Int) then (if (rdOf false r4 x10) = true then (if x7.length + 1 ≤ 1099511627776 then (spec_l4Mix.l1 k (x7 ++ [x10]) (wrap64 (x10 + 1)) a2 r3 r4) else none) else (if a2 = 2 then (if 0 ≤ x10 then (if x10 < (r3.length : Int) then (if (rdOf false r3 x10) = true then (if 0 ≤ x10 then (if x10 < (r4.length : Int) then (if (rdOf false r4 x10) = true then (spec_l4Mix.l1 k x7 (wrap64 (x10 + 1)) a2 r3 r4) else (if x7.length + 1 ≤ 1099511627776 then (spec_l4Mix.l1 k (x7 ++ [x10]) (wrap64 (x10 + 1)) a2 r3 r4) else none)) else none) else none) else (spec_l4Mix.l1 k x7 (wrap64 (x10 + 1)) a2 r3 r4)) else none) else none) else (spec_l4Mix.l1 k x7 (wrap64 (x10 + 1)) a2 r3 r4))) else none) else none)) else none) else none) else (if a2 = 2 then (if 0 ≤ x10 then (if x10 < (r3.length : Int) then (if (rdOf false r3 x10) = true then (if 0 ≤ x10 then (if x10 < (r4.length : Int) then (if (rdOf false r4 x10) = true then (spec_l4Mix.l1 k x7 (wrap64 (x10 + 1)) a2 r3 r4) else (if x7.length + 1 ≤ 1099511627776 then (spec_l4Mix.l1 k (x7 ++ [x10]) (wrap64 (x10 + 1)) a2 r3 r4) else none)) else none) else none) else (spec_l4Mix.l1 k x7 (wrap64 (x10 + 1)) a2 r3 r4)) else none) else none) else (spec_l4Mix.l1 k x7 (wrap64 (x10 + 1)) a2 r3 r4)))) else (some x7)
end
def spec_l4Mix.f (k : Nat) (l0 : List Int) (l1 : List Int) (a2 : Int) : Option (List Int) := (spec_l4Set.f k l0).bind fun r1 => if r1 = true then ((spec_l4Set.f k l1).bind fun r2 => if r2 = true then ((spec_l4Marks.f k l0 400).bind fun r3 => (spec_l4Marks.f k l1 400).bind fun r4 => spec_l4Mix.l1 k ([] : List Int) 0 a2 r3 r4) else (some ([] : List Int))) else (some ([] : List Int))
def spec_SetBoth.f (k : Nat) (l0 : List Int) (l1 : List Int) : Option (List Int) := (spec_l4Mix.f k l0 l1 0).bind fun r1 => some r1
mutual
def spec_l16Wide.l1 : Nat → List Int → Int → List IVar → List IRule → List Int → Option (List Int)
  | 0, _, _, _, _, _ => none
  | k + 1, x7, x8, l0_0, l0_1, l2 => if x8 < (x7.length : Int) then ((spec_l3Copy.f k x7).bind fun r2 => if 0 ≤ x8 then (if x8 < (r2.length : Int) then ((spec_l16States.f k l0_0 l0_1 (r2.set x8.toNat 2)).bind fun r3 => (spec_SetBoth.f k r3 l2).bind fun r4 => if (r4.length : Int) = 0 then (spec_l16Wide.l1 k (r2.set x8.toNat 2) (wrap64 (x8 + 1)) l0_0 l0_1 l2) else (spec_l16Wide.l1 k x7 (wrap64 (x8 + 1)) l0_0 l0_1 l2)) else none) else none) else (some x7)
end
def spec_l16Wide.f (k : Nat) (l0_0 : List IVar) (l0_1 : List IRule) (l1 : List Int) (l2 : List Int) : Option (List Int) := (spec_l3Copy.f k l1).bind fun r1 => spec_l16Wide.l1 k r1 0 l0_0 l0_1 l2
def spec_Widened.f (k : Nat) (l0_0 : List IVar) (l0_1 : List IRule) (l1 : List Int) (l2 : List Int) : Option (List Int) := (spec_l16Cube.f k l0_0 l0_1 l1).bind fun r1 => if r1 = true then ((spec_SetValid.f k l0_0 l0_1 l2).bind fun r2 => if r2 = true then ((spec_l16Wide.f k l0_0 l0_1 l1 l2).bind fun r3 => some r3) else (some ([] : List Int))) else (some ([] : List Int))
mutual
def impl_setOk.l0 : Nat → List Int → Int → List Int → Int → Int → Option (Bool)
  | 0, _, _, _, _, _ => none
  | k + 1, x0, x1, x7, x8, x9 => if x9 < x8 then (if 0 ≤ x9 then (if x9 < (x7.length : Int) then ((impl_in.f (rd x7 x9) 0 (wrap64 (x1 - 1))).bind fun t841 => (if t841 = true then (if x9 > 0 then (if 0 ≤ (wrap64 (x9 - 1)) then (if (wrap64 (x9 - 1)) < (x0.length : Int) then (impl_setOk.j1 k x0 x1 x7 x8 x9 (decide ((rd x0 (wrap64 (x9 - 1))) ≥ (rd x7 x9)))) else (none)) else (none)) else (impl_setOk.j1 k x0 x1 x7 x8 x9 false)) else (impl_setOk.j1 k x0 x1 x7 x8 x9 true))) else (none)) else (none)) else (some true)
def impl_setOk.j1 : Nat → List Int → Int → List Int → Int → Int → Bool → Option (Bool)
  | 0, _, _, _, _, _, _ => none
  | k + 1, x0, x1, x7, x8, x9, x31 => if x31 = true then (some false) else (impl_setOk.l0 k x0 x1 x7 x8 (wrap64 (x9 + 1)))
end
def impl_setOk.f (k : Nat) (l0 : List Int) (a1 : Int) : Option (Bool) := impl_setOk.l0 k l0 a1 l0 (l0.length : Int) 0
def impl_SetValid.f (k : Nat) (l0_0 : List (IVar)) (l0_1 : List (IRule)) (l1 : List Int) : Option (Bool) := (impl_SystemValid.f k l0_0 l0_1).bind fun t844 => (if t844 = true then ((impl_size.f k l0_0).bind fun t845 => ((impl_setOk.f k l1 t845).bind fun t846 => (some t846))) else (some false))
def impl_bitsFor.l0 : Nat → Int → Int → Option (Int)
  | 0, _, _ => none
  | k + 1, x0, x3 => if 0 ≤ x3 then (if (shl .i64 1 x3) < x0 then (impl_bitsFor.l0 k x0 (wrap64 (x3 + 1))) else (some x3)) else (none)
def impl_bitsFor.f (k : Nat) (a0 : Int) : Option (Int) := impl_bitsFor.l0 k a0 0
def impl_bitsOf.l0 : Nat → List Int → List (IVar) → Int → Int → Option (List Int)
  | 0, _, _, _, _ => none
  | k + 1, x3, x7, x8, x9 => if x9 < x8 then (if 0 ≤ x9 then (if x9 < (x7.length : Int) then ((impl_bitsFor.f k (wrap64 ((wrap64 (((rd_IVar x7 x9).f1) - ((rd_IVar x7 x9).f0))) + 1))).bind fun t850 => (if x3.length < 17592186044416 then (impl_bitsOf.l0 k (x3 ++ [t850]) x7 x8 (wrap64 (x9 + 1))) else (none))) else (none)) else (none)) else ((impl_clone_int.f x3).bind fun t854 => (some t854))
def impl_bitsOf.f (k : Nat) (l0_0 : List (IVar)) (l0_1 : List (IRule)) : Option (List Int) := impl_bitsOf.l0 k ([] : List Int) l0_0 (l0_0.length : Int) 0
def impl_valueBits.l0 : Nat → Int → Int → List Int → Int → Int → Option (List Int)
  | 0, _, _, _, _, _ => none
  | k + 1, x0, x1, x5, x10, x11 => if x11 < x10 then (if 0 ≤ (wrap64 ((wrap64 (x1 - 1)) - x11)) then (if 0 ≤ x11 then (if x11 < (x5.length : Int) then (impl_valueBits.l0 k x0 x1 (x5.set (x11 : Int).toNat (Go.bits .and .i64 (shr .i64 x0 (wrap64 ((wrap64 (x1 - 1)) - x11))) 1)) x10 (wrap64 (x11 + 1))) else (none)) else (none)) else (none)) else (some x5)
def impl_valueBits.f (k : Nat) (a0 : Int) (a1 : Int) : Option (List Int) := if 0 ≤ a1 then (if (a1 : Int).toNat ≤ 35184372088832 then ((some (List.replicate (a1 : Int).toNat 0 : List Int)).bind fun y857 => (impl_valueBits.l0 k a0 a1 y857 (y857.length : Int) 0)) else (none)) else (none)
theorem impl_valueBits.mono_l : ∀ k, (∀ y0 y1 y2 y3 y4, LeO (impl_valueBits.l0 k y0 y1 y2 y3 y4) (impl_valueBits.l0 (k + 1) y0 y1 y2 y3 y4))
  | 0 => fun _ _ _ _ _ r h => by simp [impl_valueBits.l0] at h
  | k + 1 => by
    have ih0 := impl_valueBits.mono_l k
    · intro y0 y1 y2 y3 y4
      unfold impl_valueBits.l0
      repeat' first
      | (with_reducible exact ih0 _ _ _ _ _)
      | (with_reducible exact LeO.refl _)
      | (with_reducible exact LeO.none _)
      | (with_reducible refine LeO.ite ?_ ?_)
      | (with_reducible refine LeO.bind ?_ (fun _ => ?_))
      | exact ih0 _ _ _ _ _
      | exact LeO.none _
      | refine LeO.ite ?_ ?_
      | refine LeO.bind ?_ (fun _ => ?_)
theorem impl_valueBits.mono : ∀ a0 a1 k, LeO (impl_valueBits.f k a0 a1) (impl_valueBits.f (k + 1) a0 a1) := by
  intro a0 a1 k
  have ih0 := impl_valueBits.mono_l k
  unfold impl_valueBits.f
  repeat' first
      | (with_reducible exact ih0 _ _ _ _ _)
      | (with_reducible exact LeO.refl _)
      | (with_reducible exact LeO.none _)
      | (with_reducible refine LeO.ite ?_ ?_)
      | (with_reducible refine LeO.bind ?_ (fun _ => ?_))
      | exact ih0 _ _ _ _ _
      | exact LeO.none _
      | refine LeO.ite ?_ ?_
      | refine LeO.bind ?_ (fun _ => ?_)
def impl_stateBits.l0 : Nat → List Int → List Int → List Int → Int → Int → List (IVar) → List (IRule) → Option (List Int)
  | 0, _, _, _, _, _, _, _ => none
  | k + 1, x1, x5, x9, x10, x11, x862000, x862001 => if x11 < x10 then (if 0 ≤ x11 then (if x11 < (x9.length : Int) then (if x11 < (x1.length : Int) then (if x11 < (x862000.length : Int) then ((impl_valueBits.f k (wrap64 ((rd x1 x11) - ((rd_IVar x862000 x11).f0))) (rd x9 x11)).bind fun t868 => (if x5.length + t868.length < 17592186044416 then (impl_stateBits.l0 k x1 (x5 ++ t868) x9 x10 (wrap64 (x11 + 1)) x862000 x862001) else (none))) else (none)) else (none)) else (none)) else (none)) else ((impl_clone_int.f x5).bind fun t874 => (some t874))
def impl_stateBits.f (k : Nat) (l0_0 : List (IVar)) (l0_1 : List (IRule)) (l1 : List Int) : Option (List Int) := (impl_bitsOf.f k l0_0 l0_1).bind fun t862 => (impl_stateBits.l0 k l1 ([] : List Int) t862 (t862.length : Int) 0 l0_0 l0_1)
def impl_stateAt.l0 : Nat → Int → List Int → Int → List (IVar) → List (IRule) → Option (List Int)
  | 0, _, _, _, _, _ => none
  | k + 1, x1, x5, x6, x878000, x878001 => if x6 ≥ 0 then (if 0 ≤ x6 then (if x6 < (x878000.length : Int) then (if (wrap64 ((wrap64 (((rd_IVar x878000 x6).f1) - ((rd_IVar x878000 x6).f0))) + 1)) = 0 then (none) else (if x6 < (x5.length : Int) then (impl_stateAt.l0 k (wrap64 (Int.tdiv x1 (wrap64 ((wrap64 (((rd_IVar x878000 x6).f1) - ((rd_IVar x878000 x6).f0))) + 1)))) (x5.set (x6 : Int).toNat (wrap64 (((rd_IVar x878000 x6).f0) + (Int.tmod x1 (wrap64 ((wrap64 (((rd_IVar x878000 x6).f1) - ((rd_IVar x878000 x6).f0))) + 1)))))) (wrap64 (x6 - 1)) x878000 x878001) else (none))) else (none)) else (none)) else (some x5)
def impl_stateAt.f (k : Nat) (l0_0 : List (IVar)) (l0_1 : List (IRule)) (a1 : Int) : Option (List Int) := if 0 ≤ (l0_0.length : Int) then (if ((l0_0.length : Int) : Int).toNat ≤ 35184372088832 then ((some (List.replicate ((l0_0.length : Int) : Int).toNat 0 : List Int)).bind fun y878 => (impl_stateAt.l0 k a1 y878 (wrap64 ((y878.length : Int) - 1)) l0_0 l0_1)) else (none)) else (none)
def impl_allBits.l0 : Nat → List (List Int) → List Int → Int → Int → List (IVar) → List (IRule) → Option ((List (List Int)))
  | 0, _, _, _, _, _, _ => none
  | k + 1, x5, x8, x9, x10, x885000, x885001 => if x10 < x9 then (if 0 ≤ x10 then (if x10 < (x8.length : Int) then ((impl_stateAt.f k x885000 x885001 (rd x8 x10)).bind fun t886 => ((impl_stateBits.f k x885000 x885001 t886).bind fun t889 => (if x5.length < 5864062014805 then (impl_allBits.l0 k (x5 ++ [t889]) x8 x9 (wrap64 (x10 + 1)) x885000 x885001) else (none)))) else (none)) else (none)) else ((impl_clone_Lint.f x5).bind fun t895 => (some t895))
def impl_allBits.f (k : Nat) (l0_0 : List (IVar)) (l0_1 : List (IRule)) (l1 : List Int) : Option ((List (List Int))) := impl_allBits.l0 k ([] : List (List Int)) l1 (l1.length : Int) 0 l0_0 l0_1
def impl_CubeValid_1.f (a0 : Int) : Option (Bool) := (impl_in.f a0 0 2).bind fun t898 => (some (!t898))
def slices_IndexFunc_at_impl_CubeValid_1.l0 : Nat → List Int → Int → Int → Option (Int)
  | 0, _, _, _ => none
  | k + 1, x0, x7, x8 => if x8 < x7 then (if 0 ≤ x8 then (if x8 < (x0.length : Int) then ((impl_CubeValid_1.f (rd x0 x8)).bind fun t900 => (if t900 = true then (some x8) else (slices_IndexFunc_at_impl_CubeValid_1.l0 k x0 x7 (wrap64 (x8 + 1))))) else (none)) else (none)) else (some (-1))
def slices_IndexFunc_at_impl_CubeValid_1.f (k : Nat) (l0 : List Int)  : Option (Int) := slices_IndexFunc_at_impl_CubeValid_1.l0 k l0 (l0.length : Int) 0
def slices_ContainsFunc_at_impl_CubeValid_1.f (k : Nat) (l0 : List Int)  : Option (Bool) := (slices_IndexFunc_at_impl_CubeValid_1.f k l0).bind fun t901 => (some (decide (t901 ≥ 0)))
def impl_CubeValid.f (k : Nat) (l0 : List Int) (a1 : Int) : Option (Bool) := (impl_in.f a1 0 12).bind fun t902 => (if t902 = true then (if (l0.length : Int) = a1 then ((slices_ContainsFunc_at_impl_CubeValid_1.f k l0).bind fun t903 => (some (!t903))) else (some false)) else (some false))
def impl_bitCount.l0 : Nat → Int → List Int → Int → Int → Option (Int)
  | 0, _, _, _, _ => none
  | k + 1, x3, x7, x8, x9 => if x9 < x8 then (if 0 ≤ x9 then (if x9 < (x7.length : Int) then (impl_bitCount.l0 k (wrap64 (x3 + (rd x7 x9))) x7 x8 (wrap64 (x9 + 1))) else (none)) else (none)) else (some x3)
def impl_bitCount.f (k : Nat) (l0_0 : List (IVar)) (l0_1 : List (IRule)) : Option (Int) := (impl_bitsOf.f k l0_0 l0_1).bind fun t905 => (impl_bitCount.l0 k 0 t905 (t905.length : Int) 0)
def impl_cubeHas.l0 : Nat → List Int → List Int → Int → Int → Option (Bool)
  | 0, _, _, _, _ => none
  | k + 1, x1, x7, x8, x9 => if x9 < x8 then (if 0 ≤ x9 then (if x9 < (x7.length : Int) then (if (rd x7 x9) = 2 then (impl_cubeHas.l0 k x1 x7 x8 (wrap64 (x9 + 1))) else (if x9 < (x1.length : Int) then (if (rd x7 x9) = (rd x1 x9) then (impl_cubeHas.l0 k x1 x7 x8 (wrap64 (x9 + 1))) else (some false)) else (none))) else (none)) else (none)) else (some true)
def impl_cubeHas.f (k : Nat) (l0 : List Int) (l1 : List Int) : Option (Bool) := impl_cubeHas.l0 k l1 l0 (l0.length : Int) 0
def impl_hasNone.f (k : Nat) (l0 : List (List Int)) : Option (List (List Int)) := some l0
def impl_hasNone_1_1.f (k : Nat) (l0 : List Int) (l1 : List Int) : Option Bool := (impl_cubeHas.f k l1 l0).bind fun r1 => some r1
mutual
def slices_IndexFunc_int_int_at_impl_hasNone_1_1.l1 : Nat → Int → List (List Int) → List Int → Option Int
  | 0, _, _, _ => none
  | k + 1, x8, l0, l2 => if x8 < (l0.length : Int) then (if 0 ≤ x8 then (if x8 < (l0.length : Int) then ((impl_hasNone_1_1.f k (rd_Lint l0 x8) l2).bind fun r1 => if r1 = true then (some x8) else (slices_IndexFunc_int_int_at_impl_hasNone_1_1.l1 k (wrap64 (x8 + 1)) l0 l2)) else none) else none) else (some (-1))
end
def slices_IndexFunc_int_int_at_impl_hasNone_1_1.f (k : Nat) (l0 : List (List Int)) (l2 : List Int) : Option Int := slices_IndexFunc_int_int_at_impl_hasNone_1_1.l1 k 0 l0 l2
def slices_ContainsFunc_int_int_at_impl_hasNone_1_1.f (k : Nat) (l0 : List (List Int)) (l2 : List Int) : Option Bool := (slices_IndexFunc_int_int_at_impl_hasNone_1_1.f k l0 l2).bind fun r1 => some (decide (r1 ≥ 0))
def impl_hasNone_1.f (k : Nat) (l0 : List Int) (l1 : List (List Int)) : Option Bool := (slices_ContainsFunc_int_int_at_impl_hasNone_1_1.f k l1 l0).bind fun r1 => some (!r1)
mutual
def impl_widened_at_impl_hasNone_1.l1 : Nat → List Int → Int → List Int → List (List Int) → Option (List Int)
  | 0, _, _, _, _ => none
  | k + 1, x5, x12, l0, l2 => if x12 < (l0.length : Int) then (if 0 ≤ x12 then (if x12 < (l0.length : Int) then (if 0 ≤ x12 then (if x12 < (x5.length : Int) then ((impl_hasNone_1.f k (x5.set x12.toNat 2) l2).bind fun r2 => if r2 = true then (impl_widened_at_impl_hasNone_1.l1 k (x5.set x12.toNat 2) (wrap64 (x12 + 1)) l0 l2) else (if 0 ≤ x12 then (if x12 < ((x5.set x12.toNat 2).length : Int) then (impl_widened_at_impl_hasNone_1.l1 k ((x5.set x12.toNat 2).set x12.toNat (rd l0 x12)) (wrap64 (x12 + 1)) l0 l2) else none) else none)) else none) else none) else none) else none) else (some x5)
end
def impl_widened_at_impl_hasNone_1.f (k : Nat) (l0 : List Int) (l2 : List (List Int)) : Option (List Int) := (impl_clone_int.f l0).bind fun r1 => impl_widened_at_impl_hasNone_1.l1 k r1 0 l0 l2
def impl_Widened.f (k : Nat) (l0_0 : List IVar) (l0_1 : List IRule) (l1 : List Int) (l2 : List Int) : Option (List Int) := (impl_SetValid.f k l0_0 l0_1 l2).bind fun r1 => if r1 = true then ((impl_bitCount.f k l0_0 l0_1).bind fun r2 => (impl_CubeValid.f k l1 r2).bind fun r3 => if r3 = true then ((impl_allBits.f k l0_0 l0_1 l2).bind fun r4 => (impl_hasNone.f k r4).bind fun r5 => (impl_widened_at_impl_hasNone_1.f k l1 r5).bind fun r6 => some r6) else (some ([] : List Int))) else (some ([] : List Int))
end Go.Proofs.Ytblhlpllkpcolaa.PA
