/- Types and the Lean functions that the walks are told against. No conditions. -/
import Derived.Test.YtaajnneigmgikaaProg
import Derived.Below
import Derived.Deep.Draws
import Derived.Deep.AppendLies
import Derived.Maps.AppendAt
import Derived.OwnWalk
import Derived.Laws.BytesArg
import Derived.Laws.MakeOwn
import Derived.Laws.OwnMore
import Derived.Deep.OwnRows
import Derived.Tactics
import Derived.Lib.ConvBytes
import Derived.Laws.Slices
import Derived.WalkKit
import Derived.KernelRfl
import Derived.RowKit3
import Derived.Deep.LoopGhost
import Derived.Deep.QuietTactic
import Derived.BigQuiet
import Derived.WideLaws
import Derived.Deep.DeepCutAuto
import Derived.Deep.CutBlock
import Derived.Deep.RegionHeld3
import Derived.Laws.Rows
import Derived.Lib.AppendStr
import Derived.ArgAppend
import Derived.Laws.IdiomCopy
import Derived.OrdersHeld
import Derived.Laws.BitsLemmas
import Derived.RowKit
import Derived.Laws.StructEq
import Derived.Lib.SliceRun
import Derived.WalkSpells
import Derived.ChangeArms
import Derived.ChangeSlices
import Derived.Deep.Slices
import Derived.Test.YtaajnneigmgikaaKW597f3404a3
namespace Go.Proofs.Ytaajnneigmgikaa.PA
open Go.RowKit Go.Proofs.YtaajnneigmgikaaW.PrintWords Go.Proofs.YtaajnneigmgikaaW.PrintLast Go.Proofs.YtaajnneigmgikaaW.PrintMore
attribute [local go_sem] max2_int min2_int max_two min_two max_three min_three max_four min_four   -- for this text's walks alone
set_option linter.unusedVariables false
set_option linter.unusedSimpArgs false
def rd_Lint (xs : List (List Int)) (i : Int) : (List Int) := xs.getD i.toNat ([] : List Int)
structure LClauses where
  f0 : Int
  f1 : (List (List Int))
structure LAnd where
  f0 : Int
  f1 : Int
def zLAnd : LAnd := ⟨(0 : Int), (0 : Int)⟩
def rd_LAnd (xs : List LAnd) (i : Int) : LAnd := xs.getD i.toNat zLAnd
structure LCircuit where
  f0 : Int
  f1 : (List LAnd)
structure IAnd where
  f0 : Int
  f1 : Int
def zIAnd : IAnd := ⟨(0 : Int), (0 : Int)⟩
def rd_IAnd (xs : List IAnd) (i : Int) : IAnd := xs.getD i.toNat zIAnd
def laws_szIntS.f (l0 : List Int) (a1 : Int) : Option (Int) := if (wrap64 (a1 - (l0.length : Int))) < 0 then (some (-1)) else (some (wrap64 (a1 - (l0.length : Int))))
def laws_szIntSS.l0 : Nat → List (List Int) → Int → Int → Option (Int)
  | 0, _, _, _ => none
  | k + 1, x0, x1, x5 => if x5 < (x0.length : Int) then (if 0 ≤ x5 then ((laws_szIntS.f (rd_Lint x0 x5) x1).bind fun t102 => (if t102 < 0 then (some (-1)) else (laws_szIntSS.l0 k x0 t102 (wrap64 (x5 + 1))))) else (none)) else (some x1)
def laws_szIntSS.f (k : Nat) (l0 : List (List Int)) (a1 : Int) : Option (Int) := if (wrap64 (a1 - (l0.length : Int))) < 0 then (some (-1)) else (laws_szIntSS.l0 k l0 (wrap64 (a1 - (l0.length : Int))) 0)
def laws_szClauses.f (k : Nat) (a0_0 : Int) (l0_1 : List (List Int)) (a1 : Int) : Option (Int) := (laws_szIntSS.f k l0_1 a1).bind fun t104 => (if t104 < 0 then (some (-1)) else (some t104))
def laws_szAndS.f (l0 : List (LAnd)) (a1 : Int) : Option (Int) := if (wrap64 (a1 - (l0.length : Int))) < 0 then (some (-1)) else (some (wrap64 (a1 - (l0.length : Int))))
def laws_szCircuit.f (a0_0 : Int) (l0_1 : List (LAnd)) (a1 : Int) : Option (Int) := (laws_szAndS.f l0_1 a1).bind fun t106 => (if t106 < 0 then (some (-1)) else (some t106))
def spec_l1In.f (a0 : Int) (a1 : Int) (a2 : Int) : Option (Bool) := if a0 ≥ a1 then (some (decide (a0 ≤ a2))) else (some false)
def spec_l11Lit.f (a0 : Int) (a1 : Int) : Option (Bool) := if a0 = 0 then (some false) else ((spec_l1In.f a0 (wrap64 (-a1)) a1).bind fun t107 => (some t107))
def spec_l11Abs.f (a0 : Int) : Option (Int) := if a0 < 0 then (some (wrap64 (-a0))) else (some a0)
mutual
def spec_ClauseValid.l0 : Nat → List Int → Int → Int → Option (Bool)
  | 0, _, _, _ => none
  | k + 1, x0, x1, x5 => if x5 < (x0.length : Int) then (if 0 ≤ x5 then ((spec_l11Lit.f (rd x0 x5) x1).bind fun t109 => (if t109 = true then (if x5 > 0 then ((spec_l11Abs.f (rd x0 x5)).bind fun t111 => (if 0 ≤ (wrap64 (x5 - 1)) then (if (wrap64 (x5 - 1)) < (x0.length : Int) then ((spec_l11Abs.f (rd x0 (wrap64 (x5 - 1)))).bind fun t113 => (spec_ClauseValid.j1 k x0 x1 x5 (decide (t111 ≤ t113)))) else (none)) else (none))) else (spec_ClauseValid.j1 k x0 x1 x5 false)) else (spec_ClauseValid.j1 k x0 x1 x5 true))) else (none)) else ((spec_l1In.f x1 0 700).bind fun t114 => (some t114))
def spec_ClauseValid.j1 : Nat → List Int → Int → Int → Bool → Option (Bool)
  | 0, _, _, _, _ => none
  | k + 1, x0, x1, x5, x36 => if x36 = true then (some false) else (spec_ClauseValid.l0 k x0 x1 (wrap64 (x5 + 1)))
end
def spec_ClauseValid.f (k : Nat) (l0 : List Int) (a1 : Int) : Option (Bool) := spec_ClauseValid.l0 k l0 a1 0
mutual
def spec_ClausesValid.j0 : Nat → Bool → Int → List (List Int) → Option (Bool)
  | 0, _, _, _ => none
  | k + 1, x13, x116000, x116001 => if x13 = true then (some false) else (spec_ClausesValid.l0 k 0 x116000 x116001)
def spec_ClausesValid.l0 : Nat → Int → Int → List (List Int) → Option (Bool)
  | 0, _, _, _ => none
  | k + 1, x3, x116000, x116001 => if x3 < (x116001.length : Int) then (if 0 ≤ x3 then ((spec_ClauseValid.f k (rd_Lint x116001 x3) x116000).bind fun t118 => (if t118 = true then (spec_ClausesValid.l0 k (wrap64 (x3 + 1)) x116000 x116001) else (some false))) else (none)) else (some true)
end
def spec_ClausesValid.f (k : Nat) (a0_0 : Int) (l0_1 : List (List Int)) : Option (Bool) := (spec_l1In.f a0_0 0 700).bind fun t116 => (if t116 = true then (spec_ClausesValid.j0 k (decide ((l0_1.length : Int) > 2500)) a0_0 l0_1) else (spec_ClausesValid.j0 k true a0_0 l0_1))
def spec_l18Split.f (k : Nat) (a0_0 : Int) (l0_1 : List (List Int)) (a1 : Int) : Option (Bool) := (spec_ClausesValid.f k a0_0 l0_1).bind fun t120 => (if t120 = true then (if a0_0 ≤ 12 then ((spec_l1In.f a1 0 (l0_1.length : Int)).bind fun t121 => (some t121)) else (some false)) else (some false))
mutual
def spec_CircuitValid.j0 : Nat → Bool → Int → List (IAnd) → Option (Bool)
  | 0, _, _, _ => none
  | k + 1, x14, x123000, x123001 => if x14 = true then (some false) else (spec_CircuitValid.l0 k 0 x123000 x123001)
def spec_CircuitValid.l0 : Nat → Int → Int → List (IAnd) → Option (Bool)
  | 0, _, _, _ => none
  | k + 1, x3, x123000, x123001 => if x3 < (x123001.length : Int) then (if 0 ≤ x3 then ((spec_l1In.f ((rd_IAnd x123001 x3).f0) 0 (wrap64 ((wrap64 (2 * (wrap64 ((wrap64 (1 + x123000)) + x3)))) - 1))).bind fun t125 => (if t125 = true then ((spec_l1In.f ((rd_IAnd x123001 x3).f1) 0 (wrap64 ((wrap64 (2 * (wrap64 ((wrap64 (1 + x123000)) + x3)))) - 1))).bind fun t127 => (if t127 = true then (spec_CircuitValid.l0 k (wrap64 (x3 + 1)) x123000 x123001) else (some false))) else (some false))) else (none)) else (some true)
end
def spec_CircuitValid.f (k : Nat) (a0_0 : Int) (l0_1 : List (IAnd)) : Option (Bool) := (spec_l1In.f a0_0 0 12).bind fun t123 => (if t123 = true then (spec_CircuitValid.j0 k (decide ((l0_1.length : Int) > 600)) a0_0 l0_1) else (spec_CircuitValid.j0 k true a0_0 l0_1))
def spec_l7Nodes.f (a0_0 : Int) (l0_1 : List (IAnd)) : Option (Int) := some (wrap64 ((wrap64 (1 + a0_0)) + (l0_1.length : Int)))
def spec_l7Edge.f (a0_0 : Int) (l0_1 : List (IAnd)) (a1 : Int) : Option (Bool) := (spec_l7Nodes.f a0_0 l0_1).bind fun t130 => ((spec_l1In.f a1 0 (wrap64 ((wrap64 (2 * t130)) - 1))).bind fun t131 => (some t131))
def spec_l2Has.l0 : Nat → List Int → Int → Int → Option (Bool)
  | 0, _, _, _ => none
  | k + 1, x0, x1, x5 => if x5 < (x0.length : Int) then (if 0 ≤ x5 then (if (rd x0 x5) = x1 then (some true) else (spec_l2Has.l0 k x0 x1 (wrap64 (x5 + 1)))) else (none)) else (some false)
def spec_l2Has.f (k : Nat) (l0 : List Int) (a1 : Int) : Option (Bool) := spec_l2Has.l0 k l0 a1 0
def spec_l4List.l0 : Nat → List Bool → List Int → Int → Option (List Int)
  | 0, _, _, _ => none
  | k + 1, x0, x3, x4 => if x4 < (x0.length : Int) then (if 0 ≤ x4 then (if rdOf false x0 x4 = true then (if x3.length < 17592186044416 then (spec_l4List.l0 k x0 (x3 ++ [x4]) (wrap64 (x4 + 1))) else (none)) else (spec_l4List.l0 k x0 x3 (wrap64 (x4 + 1)))) else (none)) else (some x3)
def spec_l4List.f (k : Nat) (l0 : List Bool) : Option (List Int) := spec_l4List.l0 k l0 (([] : List Int)) 0
mutual
def spec_AtomsOf.j0 : Nat → Int → Int → Bool → Int → List (List Int) → Option (List Int)
  | 0, _, _, _, _, _ => none
  | k + 1, x1, x2, x25, x141000, x141001 => if x25 = true then (some ([] : List Int)) else (if 0 ≤ (wrap64 (x141000 + 1)) then (if (wrap64 (x141000 + 1) : Int).toNat ≤ 281474976710656 then (spec_AtomsOf.l0 k x2 (List.replicate (wrap64 (x141000 + 1) : Int).toNat false) x1 x141000 x141001) else (none)) else (none))
def spec_AtomsOf.l0 : Nat → Int → List Bool → Int → Int → List (List Int) → Option (List Int)
  | 0, _, _, _, _, _ => none
  | k + 1, x2, x7, x8, x141000, x141001 => if x8 < x2 then (spec_AtomsOf.l1 k x2 x7 x8 0 x141000 x141001) else ((spec_l4List.f k x7).bind fun t151 => (some t151))
def spec_AtomsOf.l1 : Nat → Int → List Bool → Int → Int → Int → List (List Int) → Option (List Int)
  | 0, _, _, _, _, _, _ => none
  | k + 1, x2, x7, x8, x9, x141000, x141001 => if 0 ≤ x8 then (if x8 < (x141001.length : Int) then (if x9 < ((rd_Lint x141001 x8).length : Int) then (if 0 ≤ x9 then ((spec_l11Abs.f (rd (rd_Lint x141001 x8) x9)).bind fun t149 => (if 0 ≤ t149 then (if t149 < (x7.length : Int) then (spec_AtomsOf.l1 k x2 (x7.set (t149 : Int).toNat true) x8 (wrap64 (x9 + 1)) x141000 x141001) else (none)) else (none))) else (none)) else (spec_AtomsOf.l0 k x2 x7 (wrap64 (x8 + 1)) x141000 x141001)) else (none)) else (none)
end
def spec_AtomsOf.f (k : Nat) (a0_0 : Int) (l0_1 : List (List Int)) (a1 : Int) (a2 : Int) : Option (List Int) := (spec_ClausesValid.f k a0_0 l0_1).bind fun t141 => (if t141 = true then ((spec_l1In.f a1 0 a2).bind fun t142 => (if t142 = true then (spec_AtomsOf.j0 k a1 a2 (decide (a2 > (l0_1.length : Int))) a0_0 l0_1) else (spec_AtomsOf.j0 k a1 a2 true a0_0 l0_1))) else (spec_AtomsOf.j0 k a1 a2 true a0_0 l0_1))
def spec_SharedAtoms.l0 : Nat → List Int → List Int → List Int → Int → Option (List Int)
  | 0, _, _, _, _ => none
  | k + 1, x5, x6, x7, x8 => if x8 < (x6.length : Int) then (if 0 ≤ x8 then ((spec_l2Has.f k x7 (rd x6 x8)).bind fun t165 => (if t165 = true then (if x5.length < 17592186044416 then (spec_SharedAtoms.l0 k (x5 ++ [rd x6 x8]) x6 x7 (wrap64 (x8 + 1))) else (none)) else (spec_SharedAtoms.l0 k x5 x6 x7 (wrap64 (x8 + 1))))) else (none)) else (some x5)
def spec_SharedAtoms.f (k : Nat) (a0_0 : Int) (l0_1 : List (List Int)) (a1 : Int) : Option (List Int) := (spec_AtomsOf.f k a0_0 l0_1 0 a1).bind fun t158 => ((spec_AtomsOf.f k a0_0 l0_1 a1 (l0_1.length : Int)).bind fun t161 => (spec_SharedAtoms.l0 k (([] : List Int)) t158 t161 0))
def spec_l7Reach.l0 : Nat → List Bool → Int → Int → List (IAnd) → Option (List Bool)
  | 0, _, _, _, _ => none
  | k + 1, x5, x6, x171000, x171001 => if x6 ≥ 0 then (if 0 ≤ (wrap64 ((wrap64 (1 + x171000)) + x6)) then (if (wrap64 ((wrap64 (1 + x171000)) + x6)) < (x5.length : Int) then (if rdOf false x5 (wrap64 ((wrap64 (1 + x171000)) + x6)) = true then (if 0 ≤ x6 then (if x6 < (x171001.length : Int) then (if 0 ≤ (wrap64 (Int.tdiv ((rd_IAnd x171001 x6).f0) 2)) then (if (wrap64 (Int.tdiv ((rd_IAnd x171001 x6).f0) 2)) < (x5.length : Int) then (if 0 ≤ (wrap64 (Int.tdiv ((rd_IAnd x171001 x6).f1) 2)) then (if (wrap64 (Int.tdiv ((rd_IAnd x171001 x6).f1) 2)) < (x5.length : Int) then (spec_l7Reach.l0 k ((x5.set ((wrap64 (Int.tdiv ((rd_IAnd x171001 x6).f0) 2)) : Int).toNat true).set ((wrap64 (Int.tdiv ((rd_IAnd x171001 x6).f1) 2)) : Int).toNat true) (wrap64 (x6 - 1)) x171000 x171001) else (none)) else (none)) else (none)) else (none)) else (none)) else (none)) else (spec_l7Reach.l0 k x5 (wrap64 (x6 - 1)) x171000 x171001)) else (none)) else (none)) else (some x5)
def spec_l7Reach.f (k : Nat) (a0_0 : Int) (l0_1 : List (IAnd)) (a1 : Int) : Option (List Bool) := (spec_l7Nodes.f a0_0 l0_1).bind fun t171 => (if 0 ≤ t171 then (if (t171 : Int).toNat ≤ 281474976710656 then ((some (List.replicate (t171 : Int).toNat false : List Bool)).bind fun y172 => (if 0 ≤ (wrap64 (Int.tdiv a1 2)) then (if (wrap64 (Int.tdiv a1 2)) < (y172.length : Int) then (spec_l7Reach.l0 k (y172.set ((wrap64 (Int.tdiv a1 2)) : Int).toNat true) (wrap64 ((l0_1.length : Int) - 1)) a0_0 l0_1) else (none)) else (none))) else (none)) else (none))
mutual
def spec_NeedsInputs.j0 : Nat → Int → List Int → Bool → Int → List (IAnd) → Option (List Int)
  | 0, _, _, _, _, _ => none
  | k + 1, x1, x5, x17, x182000, x182001 => if x17 = true then (some x5) else ((spec_l7Reach.f k x182000 x182001 x1).bind fun t187 => (spec_NeedsInputs.l0 k x5 t187 0 x182000 x182001))
def spec_NeedsInputs.l0 : Nat → List Int → List Bool → Int → Int → List (IAnd) → Option (List Int)
  | 0, _, _, _, _, _ => none
  | k + 1, x5, x6, x7, x182000, x182001 => if x7 < x182000 then (if 0 ≤ (wrap64 (1 + x7)) then (if (wrap64 (1 + x7)) < (x6.length : Int) then (if rdOf false x6 (wrap64 (1 + x7)) = true then (if x5.length < 17592186044416 then (spec_NeedsInputs.l0 k (x5 ++ [x7]) x6 (wrap64 (x7 + 1)) x182000 x182001) else (none)) else (spec_NeedsInputs.l0 k x5 x6 (wrap64 (x7 + 1)) x182000 x182001)) else (none)) else (none)) else (some x5)
end
def spec_NeedsInputs.f (k : Nat) (a0_0 : Int) (l0_1 : List (IAnd)) (a1 : Int) : Option (List Int) := (some (([] : List Int) : List Int)).bind fun y182 => ((spec_CircuitValid.f k a0_0 l0_1).bind fun t185 => (if t185 = true then ((spec_l7Edge.f a0_0 l0_1 a1).bind fun t186 => (spec_NeedsInputs.j0 k a1 y182 (!t186) a0_0 l0_1)) else (spec_NeedsInputs.j0 k a1 y182 true a0_0 l0_1)))
def spec_l6Value.l0 : Nat → Int → List Int → Int → Option (List Int)
  | 0, _, _, _ => none
  | k + 1, x0, x5, x6 => if x6 ≥ 0 then (if 0 ≤ x6 then (if x5.length < 17592186044416 then (spec_l6Value.l0 k x0 (x5 ++ [Int.tmod (shr .i64 x0 x6) 2]) (wrap64 (x6 - 1))) else (none)) else (none)) else (some x5)
def spec_l6Value.f (k : Nat) (a0 : Int) (a1 : Int) : Option (List Int) := spec_l6Value.l0 k a0 (([] : List Int)) (wrap64 (a1 - 1))
def spec_l7Of.f (l0 : List Int) (a1 : Int) : Option (Int) := if (Int.tmod a1 2) = 1 then (if 0 ≤ (wrap64 (Int.tdiv a1 2)) then (if (wrap64 (Int.tdiv a1 2)) < (l0.length : Int) then (some (wrap64 (1 - (rd l0 (wrap64 (Int.tdiv a1 2)))))) else (none)) else (none)) else (if 0 ≤ (wrap64 (Int.tdiv a1 2)) then (if (wrap64 (Int.tdiv a1 2)) < (l0.length : Int) then (some (rd l0 (wrap64 (Int.tdiv a1 2)))) else (none)) else (none))
mutual
def spec_l7Run.l0 : Nat → List Int → List Int → Int → Int → List (IAnd) → Option (List Int)
  | 0, _, _, _, _, _ => none
  | k + 1, x1, x5, x6, x203000, x203001 => if x6 < x203000 then (if 0 ≤ x6 then (if x6 < (x1.length : Int) then (if x5.length < 17592186044416 then (spec_l7Run.l0 k x1 (x5 ++ [rd x1 x6]) (wrap64 (x6 + 1)) x203000 x203001) else (none)) else (none)) else (none)) else (spec_l7Run.l1 k x5 0 x203000 x203001)
def spec_l7Run.l1 : Nat → List Int → Int → Int → List (IAnd) → Option (List Int)
  | 0, _, _, _, _ => none
  | k + 1, x5, x7, x203000, x203001 => if x7 < (x203001.length : Int) then (if 0 ≤ x7 then ((spec_l7Of.f x5 ((rd_IAnd x203001 x7).f0)).bind fun t211 => ((spec_l7Of.f x5 ((rd_IAnd x203001 x7).f1)).bind fun t213 => (if x5.length < 17592186044416 then (spec_l7Run.l1 k (x5 ++ [wrap64 (t211 * t213)]) (wrap64 (x7 + 1)) x203000 x203001) else (none)))) else (none)) else (some x5)
end
def spec_l7Run.f (k : Nat) (a0_0 : Int) (l0_1 : List (IAnd)) (l1 : List Int) : Option (List Int) := spec_l7Run.l0 k l1 (([0] : List Int)) 0 a0_0 l0_1
def spec_l6Are.l0 : Nat → List Int → Int → Option (Bool)
  | 0, _, _ => none
  | k + 1, x0, x3 => if x3 < (x0.length : Int) then (if 0 ≤ x3 then ((spec_l1In.f (rd x0 x3) 0 1).bind fun t218 => (if t218 = true then (spec_l6Are.l0 k x0 (wrap64 (x3 + 1))) else (some false))) else (none)) else (some true)
def spec_l6Are.f (k : Nat) (l0 : List Int) : Option (Bool) := spec_l6Are.l0 k l0 0
def spec_l11Is.f (a0 : Int) (l1 : List Int) : Option (Bool) := if a0 < 0 then (if 0 ≤ (wrap64 ((wrap64 (-a0)) - 1)) then (if (wrap64 ((wrap64 (-a0)) - 1)) < (l1.length : Int) then (some ((rd l1 (wrap64 ((wrap64 (-a0)) - 1))) == 0)) else (none)) else (none)) else (if 0 ≤ (wrap64 (a0 - 1)) then (if (wrap64 (a0 - 1)) < (l1.length : Int) then (some ((rd l1 (wrap64 (a0 - 1))) == 1)) else (none)) else (none))
def spec_l11Any.l0 : Nat → List Int → List Int → Int → Option (Bool)
  | 0, _, _, _ => none
  | k + 1, x0, x1, x5 => if x5 < (x0.length : Int) then (if 0 ≤ x5 then ((spec_l11Is.f (rd x0 x5) x1).bind fun t222 => (if t222 = true then (some true) else (spec_l11Any.l0 k x0 x1 (wrap64 (x5 + 1))))) else (none)) else (some false)
def spec_l11Any.f (k : Nat) (l0 : List Int) (l1 : List Int) : Option (Bool) := spec_l11Any.l0 k l0 l1 0
mutual
def spec_TrueIn.j0 : Nat → List Int → Bool → Int → List (List Int) → Option (Bool)
  | 0, _, _, _, _ => none
  | k + 1, x1, x20, x224000, x224001 => if x20 = true then (some false) else (spec_TrueIn.l0 k x1 0 x224000 x224001)
def spec_TrueIn.l0 : Nat → List Int → Int → Int → List (List Int) → Option (Bool)
  | 0, _, _, _, _ => none
  | k + 1, x1, x5, x224000, x224001 => if x5 < (x224001.length : Int) then (if 0 ≤ x5 then ((spec_l11Any.f k (rd_Lint x224001 x5) x1).bind fun t227 => (if t227 = true then (spec_TrueIn.l0 k x1 (wrap64 (x5 + 1)) x224000 x224001) else (some false))) else (none)) else (some true)
end
def spec_TrueIn.f (k : Nat) (a0_0 : Int) (l0_1 : List (List Int)) (l1 : List Int) : Option (Bool) := (spec_ClausesValid.f k a0_0 l0_1).bind fun t224 => (if t224 = true then (if (l1.length : Int) = a0_0 then ((spec_l6Are.f k l1).bind fun t225 => (spec_TrueIn.j0 k l1 (!t225) a0_0 l0_1)) else (spec_TrueIn.j0 k l1 true a0_0 l0_1)) else (spec_TrueIn.j0 k l1 true a0_0 l0_1))
mutual
def spec_LiesBetween.l2 : Nat → Int → Int → List (List Int) → Int → Int → List IAnd → Int → Option Bool
  | 0, _, _, _, _, _, _, _ => none
  | k + 1, x14q4, a0_0, l0_1, a1, a2_0, l2_1, a3 => if 0 ≤ a0_0 then (if x14q4 < (shl .i64 1 a0_0) then ((spec_l6Value.f k x14q4 a0_0).bind fun r7 => (spec_l7Run.f k a2_0 l2_1 r7).bind fun r8 => (spec_l7Of.f r8 a3).bind fun r9 => if r9 = 0 then ((spec_TrueIn.f k a0_0 (l0_1.take (a1 : Int).toNat) r7).bind fun r10 => if r10 = true then (some false) else (if r9 = 1 then ((spec_TrueIn.f k a0_0 (l0_1.drop (a1 : Int).toNat) r7).bind fun r11 => if r11 = true then (some false) else (spec_LiesBetween.l2 k (wrap64 (x14q4 + 1)) a0_0 l0_1 a1 a2_0 l2_1 a3)) else (spec_LiesBetween.l2 k (wrap64 (x14q4 + 1)) a0_0 l0_1 a1 a2_0 l2_1 a3))) else (if r9 = 1 then ((spec_TrueIn.f k a0_0 (l0_1.drop (a1 : Int).toNat) r7).bind fun r12 => if r12 = true then (some false) else (spec_LiesBetween.l2 k (wrap64 (x14q4 + 1)) a0_0 l0_1 a1 a2_0 l2_1 a3)) else (spec_LiesBetween.l2 k (wrap64 (x14q4 + 1)) a0_0 l0_1 a1 a2_0 l2_1 a3))) else (some true)) else none
def spec_LiesBetween.l1 : Nat → Int → Int → List (List Int) → Int → Int → List IAnd → Int → (List Int) → (List Int) → Option Bool
  | 0, _, _, _, _, _, _, _, _, _ => none
  | k + 1, x11, a0_0, l0_1, a1, a2_0, l2_1, a3, r4, r5 => if x11 < (r5.length : Int) then (if 0 ≤ x11 then (if x11 < (r5.length : Int) then ((spec_l2Has.f k r4 (wrap64 ((rd r5 x11) + 1))).bind fun r6 => if r6 = true then (spec_LiesBetween.l1 k (wrap64 (x11 + 1)) a0_0 l0_1 a1 a2_0 l2_1 a3 r4 r5) else (some false)) else none) else none) else (if 0 ≤ a1 then (if a1 ≤ (l0_1.length : Int) then (if 0 ≤ a1 then (if a1 ≤ (l0_1.length : Int) then (spec_LiesBetween.l2 k 0 a0_0 l0_1 a1 a2_0 l2_1 a3) else none) else none) else none) else none)
end
def spec_LiesBetween.f (k : Nat) (a0_0 : Int) (l0_1 : List (List Int)) (a1 : Int) (a2_0 : Int) (l2_1 : List IAnd) (a3 : Int) : Option Bool := (spec_l18Split.f k a0_0 l0_1 a1).bind fun r1 => if r1 = true then ((spec_CircuitValid.f k a2_0 l2_1).bind fun r2 => if r2 = true then (if a2_0 ≠ a0_0 then (some false) else ((spec_l7Edge.f a2_0 l2_1 a3).bind fun r3 => if r3 = true then ((spec_SharedAtoms.f k a0_0 l0_1 a1).bind fun r4 => (spec_NeedsInputs.f k a2_0 l2_1 a3).bind fun r5 => spec_LiesBetween.l1 k 0 a0_0 l0_1 a1 a2_0 l2_1 a3 r4 r5) else (some false))) else (some false)) else (some false)
def laws_toIntS.l0 : Nat → List Int → List Int → Int → Option (List Int)
  | 0, _, _, _ => none
  | k + 1, x0, x3, x4 => if x4 < (x0.length : Int) then (if 0 ≤ x4 then (if x4 < (x3.length : Int) then (laws_toIntS.l0 k x0 (x3.set (x4 : Int).toNat (rd x0 x4)) (wrap64 (x4 + 1))) else (none)) else (none)) else (some x3)
def laws_toIntS.f (k : Nat) (l0 : List Int) : Option (List Int) := if 0 ≤ (l0.length : Int) then (if ((l0.length : Int) : Int).toNat ≤ 35184372088832 then (laws_toIntS.l0 k l0 (List.replicate ((l0.length : Int) : Int).toNat 0) 0) else (none)) else (none)
def laws_toIntSS.l0 : Nat → List (List Int) → List (List Int) → Int → Option ((List (List Int)))
  | 0, _, _, _ => none
  | k + 1, x0, x3, x4 => if x4 < (x0.length : Int) then (if 0 ≤ x4 then ((laws_toIntS.f k (rd_Lint x0 x4)).bind fun t270 => (if x4 < (x3.length : Int) then (laws_toIntSS.l0 k x0 (x3.set (x4 : Int).toNat t270) (wrap64 (x4 + 1))) else (none))) else (none)) else (some x3)
def laws_toIntSS.f (k : Nat) (l0 : List (List Int)) : Option ((List (List Int))) := if 0 ≤ (l0.length : Int) then (if ((l0.length : Int) : Int).toNat ≤ 11728124029610 then (laws_toIntSS.l0 k l0 (List.replicate ((l0.length : Int) : Int).toNat []) 0) else (none)) else (none)
def laws_toClauses.f (k : Nat) (a0_0 : Int) (l0_1 : List (List Int)) : Option (Int × (List (List Int))) := (laws_toIntSS.f k l0_1).bind fun t277 => (some (a0_0, t277))
def laws_toAnd.f (a0_0 : Int) (a0_1 : Int) : Option (Int × Int) := some (a0_0, a0_1)
def laws_toAndS.l0 : Nat → List (LAnd) → List (IAnd) → Int → Option ((List (IAnd)))
  | 0, _, _, _ => none
  | k + 1, x0, x3, x4 => if x4 < (x0.length : Int) then (if 0 ≤ x4 then ((laws_toAnd.f ((rd_LAnd x0 x4).f0) ((rd_LAnd x0 x4).f1)).bind fun bt287 => (if x4 < (x3.length : Int) then (laws_toAndS.l0 k x0 (x3.set (x4 : Int).toNat (⟨bt287.1, bt287.2⟩ : IAnd)) (wrap64 (x4 + 1))) else (none))) else (none)) else (some x3)
def laws_toAndS.f (k : Nat) (l0 : List (LAnd)) : Option ((List (IAnd))) := if 0 ≤ (l0.length : Int) then (if ((l0.length : Int) : Int).toNat ≤ 17592186044416 then (laws_toAndS.l0 k l0 (List.replicate ((l0.length : Int) : Int).toNat zIAnd) 0) else (none)) else (none)
def laws_toCircuit.f (k : Nat) (a0_0 : Int) (l0_1 : List (LAnd)) : Option (Int × (List (IAnd))) := (laws_toAndS.f k l0_1).bind fun t293 => (some (a0_0, t293))
def impl_in.f (a0 : Int) (a1 : Int) (a2 : Int) : Option (Bool) := if a0 ≥ a1 then (some (decide (a0 ≤ a2))) else (some false)
def impl_atomOf.f (a0 : Int) : Option (Int) := some (mx a0 (wrap64 (-a0)))
mutual
def impl_ClauseValid.l0 : Nat → List Int → Int → List Int → Int → Int → Option (Bool)
  | 0, _, _, _, _, _ => none
  | k + 1, x0, x1, x10, x11, x12 => if x12 < x11 then (if 0 ≤ x12 then (if x12 < (x10.length : Int) then ((impl_in.f (rd x10 x12) (wrap64 (-x1)) x1).bind fun t298 => (if t298 = true then (if (rd x10 x12) = 0 then (impl_ClauseValid.j1 k x0 x1 x10 x11 x12 true) else (if x12 > 0 then (if 0 ≤ (wrap64 (x12 - 1)) then (if (wrap64 (x12 - 1)) < (x0.length : Int) then ((impl_atomOf.f (rd x0 (wrap64 (x12 - 1)))).bind fun t300 => ((impl_atomOf.f (rd x10 x12)).bind fun t301 => (impl_ClauseValid.j1 k x0 x1 x10 x11 x12 (decide (t300 ≥ t301))))) else (none)) else (none)) else (impl_ClauseValid.j1 k x0 x1 x10 x11 x12 false))) else (impl_ClauseValid.j1 k x0 x1 x10 x11 x12 true))) else (none)) else (none)) else (some true)
def impl_ClauseValid.j1 : Nat → List Int → Int → List Int → Int → Int → Bool → Option (Bool)
  | 0, _, _, _, _, _, _ => none
  | k + 1, x0, x1, x10, x11, x12, x41 => if x41 = true then (some false) else (impl_ClauseValid.l0 k x0 x1 x10 x11 (wrap64 (x12 + 1)))
end
def impl_ClauseValid.f (k : Nat) (l0 : List Int) (a1 : Int) : Option (Bool) := (impl_in.f a1 0 700).bind fun t296 => (if t296 = true then (impl_ClauseValid.l0 k l0 a1 l0 (l0.length : Int) 0) else (some false))
def impl_ClausesValid_1.f (k : Nat) (l0 : List Int) (a1_0 : Int) (l1_1 : List (List Int)) : Option (Bool) := (impl_ClauseValid.f k l0 a1_0).bind fun t303 => (some (!t303))
def slices_IndexFunc_at_impl_ClausesValid_1.l0 : Nat → List (List Int) → Int → Int → Int → List (List Int) → Option (Int)
  | 0, _, _, _, _, _ => none
  | k + 1, x0, x7, x8, x305000, x305001 => if x8 < x7 then (if 0 ≤ x8 then (if x8 < (x0.length : Int) then ((impl_ClausesValid_1.f k (rd_Lint x0 x8) x305000 x305001).bind fun t306 => (if t306 = true then (some x8) else (slices_IndexFunc_at_impl_ClausesValid_1.l0 k x0 x7 (wrap64 (x8 + 1)) x305000 x305001))) else (none)) else (none)) else (some (-1))
def slices_IndexFunc_at_impl_ClausesValid_1.f (k : Nat) (l0 : List (List Int))  (a2_0 : Int) (l2_1 : List (List Int)) : Option (Int) := slices_IndexFunc_at_impl_ClausesValid_1.l0 k l0 (l0.length : Int) 0 a2_0 l2_1
def slices_ContainsFunc_at_impl_ClausesValid_1.f (k : Nat) (l0 : List (List Int))  (a2_0 : Int) (l2_1 : List (List Int)) : Option (Bool) := (slices_IndexFunc_at_impl_ClausesValid_1.f k l0 a2_0 l2_1).bind fun t308 => (some (decide (t308 ≥ 0)))
def impl_ClausesValid.f (k : Nat) (a0_0 : Int) (l0_1 : List (List Int)) : Option (Bool) := (impl_in.f a0_0 0 700).bind fun t310 => (if t310 = true then (if (l0_1.length : Int) ≤ 2500 then ((slices_ContainsFunc_at_impl_ClausesValid_1.f k l0_1 a0_0 l0_1).bind fun t311 => (some (!t311))) else (some false)) else (some false))
def impl_betweenOk.f (k : Nat) (a0_0 : Int) (l0_1 : List (List Int)) (a1 : Int) : Option (Bool) := (impl_ClausesValid.f k a0_0 l0_1).bind fun t313 => (if t313 = true then (if a0_0 ≤ 12 then ((impl_in.f a1 0 (l0_1.length : Int)).bind fun t314 => (some t314)) else (some false)) else (some false))
mutual
def impl_CircuitValid.j0 : Nat → Bool → Int → List (IAnd) → Option (Bool)
  | 0, _, _, _ => none
  | k + 1, x15, x316000, x316001 => if x15 = true then (some false) else (impl_CircuitValid.l0 k x316001 (x316001.length : Int) 0 x316000 x316001)
def impl_CircuitValid.l0 : Nat → List (IAnd) → Int → Int → Int → List (IAnd) → Option (Bool)
  | 0, _, _, _, _, _ => none
  | k + 1, x17, x18, x19, x316000, x316001 => if x19 < x18 then (if 0 ≤ x19 then (if x19 < (x17.length : Int) then ((impl_in.f ((rd_IAnd x17 x19).f0) 0 (wrap64 ((wrap64 (2 * (wrap64 ((wrap64 (1 + x316000)) + x19)))) - 1))).bind fun t319 => (if t319 = true then ((impl_in.f ((rd_IAnd x17 x19).f1) 0 (wrap64 ((wrap64 (2 * (wrap64 ((wrap64 (1 + x316000)) + x19)))) - 1))).bind fun t320 => (if t320 = true then (impl_CircuitValid.l0 k x17 x18 (wrap64 (x19 + 1)) x316000 x316001) else (some false))) else (some false))) else (none)) else (none)) else (some true)
end
def impl_CircuitValid.f (k : Nat) (a0_0 : Int) (l0_1 : List (IAnd)) : Option (Bool) := (impl_in.f a0_0 0 12).bind fun t316 => (if t316 = true then (impl_CircuitValid.j0 k (decide ((l0_1.length : Int) > 600)) a0_0 l0_1) else (impl_CircuitValid.j0 k true a0_0 l0_1))
def impl_Circuit_isEdge.f (a0_0 : Int) (l0_1 : List (IAnd)) (a1 : Int) : Option (Bool) := (impl_in.f a1 0 (wrap64 ((wrap64 (2 * (wrap64 ((wrap64 (1 + a0_0)) + (l0_1.length : Int))))) - 1))).bind fun t322 => (some t322)
mutual
def impl_atomsIn.l0 : Nat → List Bool → List (List Int) → Int → Int → Option (List Bool)
  | 0, _, _, _, _ => none
  | k + 1, x5, x13, x14, x15 => if x15 < x14 then (if 0 ≤ x15 then (if x15 < (x13.length : Int) then (impl_atomsIn.l1 k x5 x13 x14 x15 (rd_Lint x13 x15) ((rd_Lint x13 x15).length : Int) 0) else (none)) else (none)) else (some x5)
def impl_atomsIn.l1 : Nat → List Bool → List (List Int) → Int → Int → List Int → Int → Int → Option (List Bool)
  | 0, _, _, _, _, _, _, _ => none
  | k + 1, x5, x13, x14, x15, x19, x20, x21 => if x21 < x20 then (if 0 ≤ x21 then (if x21 < (x19.length : Int) then ((impl_atomOf.f (rd x19 x21)).bind fun t328 => (if 0 ≤ t328 then (if t328 < (x5.length : Int) then (impl_atomsIn.l1 k (x5.set (t328 : Int).toNat true) x13 x14 x15 x19 x20 (wrap64 (x21 + 1))) else (none)) else (none))) else (none)) else (none)) else (impl_atomsIn.l0 k x5 x13 x14 (wrap64 (x15 + 1)))
end
def impl_atomsIn.f (k : Nat) (a0 : Int) (l1 : List (List Int)) : Option (List Bool) := if 0 ≤ (wrap64 (a0 + 1)) then (if (wrap64 (a0 + 1) : Int).toNat ≤ 281474976710656 then (impl_atomsIn.l0 k (List.replicate (wrap64 (a0 + 1) : Int).toNat false) l1 (l1.length : Int) 0) else (none)) else (none)
def impl_shared.l0 : Nat → List Bool → List Bool → Int → Int → Option (List Bool)
  | 0, _, _, _, _ => none
  | k + 1, x5, x21, x22, x23 => if x23 < x22 then (if 0 ≤ x23 then (if x23 < (x21.length : Int) then (if x23 < (x5.length : Int) then (if rdOf false x5 x23 = true then (impl_shared.l0 k (x5.set (x23 : Int).toNat (rdOf false x21 x23)) x21 x22 (wrap64 (x23 + 1))) else (impl_shared.l0 k (x5.set (x23 : Int).toNat false) x21 x22 (wrap64 (x23 + 1)))) else (none)) else (none)) else (none)) else (some x5)
def impl_shared.f (k : Nat) (a0_0 : Int) (l0_1 : List (List Int)) (a1 : Int) : Option (List Bool) := if 0 ≤ a1 then (if a1 ≤ (l0_1.length : Int) then ((impl_atomsIn.f k a0_0 (l0_1.take (a1 : Int).toNat)).bind fun t335 => ((impl_atomsIn.f k a0_0 (l0_1.drop (a1 : Int).toNat)).bind fun t342 => (impl_shared.l0 k t335 t342 (t342.length : Int) 0))) else (none)) else (none)
def impl_Circuit_needs.l0 : Nat → List Bool → Int → Int → List (IAnd) → Option (List Bool)
  | 0, _, _, _, _ => none
  | k + 1, x5, x6, x350000, x350001 => if x6 ≥ 0 then (if 0 ≤ (wrap64 ((wrap64 (1 + x350000)) + x6)) then (if (wrap64 ((wrap64 (1 + x350000)) + x6)) < (x5.length : Int) then (if rdOf false x5 (wrap64 ((wrap64 (1 + x350000)) + x6)) = true then (if 0 ≤ x6 then (if x6 < (x350001.length : Int) then (if 0 ≤ (wrap64 (Int.tdiv ((rd_IAnd x350001 x6).f0) 2)) then (if (wrap64 (Int.tdiv ((rd_IAnd x350001 x6).f0) 2)) < (x5.length : Int) then (if 0 ≤ (wrap64 (Int.tdiv ((rd_IAnd x350001 x6).f1) 2)) then (if (wrap64 (Int.tdiv ((rd_IAnd x350001 x6).f1) 2)) < (x5.length : Int) then (impl_Circuit_needs.l0 k ((x5.set ((wrap64 (Int.tdiv ((rd_IAnd x350001 x6).f0) 2)) : Int).toNat true).set ((wrap64 (Int.tdiv ((rd_IAnd x350001 x6).f1) 2)) : Int).toNat true) (wrap64 (x6 - 1)) x350000 x350001) else (none)) else (none)) else (none)) else (none)) else (none)) else (none)) else (impl_Circuit_needs.l0 k x5 (wrap64 (x6 - 1)) x350000 x350001)) else (none)) else (none)) else (some x5)
def impl_Circuit_needs.f (k : Nat) (a0_0 : Int) (l0_1 : List (IAnd)) (a1 : Int) : Option (List Bool) := if 0 ≤ (wrap64 ((wrap64 (1 + a0_0)) + (l0_1.length : Int))) then (if (wrap64 ((wrap64 (1 + a0_0)) + (l0_1.length : Int)) : Int).toNat ≤ 281474976710656 then ((some (List.replicate (wrap64 ((wrap64 (1 + a0_0)) + (l0_1.length : Int)) : Int).toNat false : List Bool)).bind fun y350 => (if 0 ≤ (wrap64 (Int.tdiv a1 2)) then (if (wrap64 (Int.tdiv a1 2)) < (y350.length : Int) then (impl_Circuit_needs.l0 k (y350.set ((wrap64 (Int.tdiv a1 2)) : Int).toNat true) (wrap64 ((l0_1.length : Int) - 1)) a0_0 l0_1) else (none)) else (none))) else (none)) else (none)
def impl_valueBits.l0 : Nat → Int → Int → List Int → Int → Int → Option (List Int)
  | 0, _, _, _, _, _ => none
  | k + 1, x0, x1, x5, x10, x11 => if x11 < x10 then (if 0 ≤ (wrap64 ((wrap64 (x1 - 1)) - x11)) then (if 0 ≤ x11 then (if x11 < (x5.length : Int) then (impl_valueBits.l0 k x0 x1 (x5.set (x11 : Int).toNat (Go.bits .and .i64 (shr .i64 x0 (wrap64 ((wrap64 (x1 - 1)) - x11))) 1)) x10 (wrap64 (x11 + 1))) else (none)) else (none)) else (none)) else (some x5)
def impl_valueBits.f (k : Nat) (a0 : Int) (a1 : Int) : Option (List Int) := if 0 ≤ a1 then (if (a1 : Int).toNat ≤ 35184372088832 then ((some (List.replicate (a1 : Int).toNat 0 : List Int)).bind fun y359 => (impl_valueBits.l0 k a0 a1 y359 (y359.length : Int) 0)) else (none)) else (none)
def impl_edgeOf.f (l0 : List Int) (a1 : Int) : Option (Int) := if 0 ≤ (wrap64 (Int.tdiv a1 2)) then (if (wrap64 (Int.tdiv a1 2)) < (l0.length : Int) then (some (Go.bits .xor .i64 (rd l0 (wrap64 (Int.tdiv a1 2))) (Go.bits .and .i64 a1 1))) else (none)) else (none)
def impl_Circuit_values.l0 : Nat → List Int → List (IAnd) → Int → Int → Option (List Int)
  | 0, _, _, _, _ => none
  | k + 1, x5, x12, x13, x14 => if x14 < x13 then (if 0 ≤ x14 then (if x14 < (x12.length : Int) then ((impl_edgeOf.f x5 ((rd_IAnd x12 x14).f0)).bind fun t373 => ((impl_edgeOf.f x5 ((rd_IAnd x12 x14).f1)).bind fun t374 => (if x5.length < 17592186044416 then (impl_Circuit_values.l0 k (x5 ++ [Go.bits .and .i64 t373 t374]) x12 x13 (wrap64 (x14 + 1))) else (none)))) else (none)) else (none)) else (some x5)
def impl_Circuit_values.f (k : Nat) (a0_0 : Int) (l0_1 : List (IAnd)) (l1 : List Int) : Option (List Int) := (some (([0] : List Int) : List Int)).bind fun y365 => (if y365.length + l1.length < 17592186044416 then (impl_Circuit_values.l0 k (y365 ++ l1) l0_1 (l0_1.length : Int) 0) else (none))
def impl_bit.f (a0 : Bool) : Option (Int) := if a0 = true then (some 1) else (some 0)
def impl_litTrue.f (a0 : Int) (l1 : List Int) : Option (Bool) := (impl_atomOf.f a0).bind fun t378 => (if 0 ≤ (wrap64 (t378 - 1)) then (if (wrap64 (t378 - 1)) < (l1.length : Int) then ((impl_bit.f (decide (a0 > 0))).bind fun t380 => (some ((rd l1 (wrap64 (t378 - 1))) == t380))) else (none)) else (none))
def laws_eqIntS.l0 : Nat → List Int → List Int → Int → Option (Bool)
  | 0, _, _, _ => none
  | k + 1, x0, x1, x5 => if x5 < (x0.length : Int) then (if 0 ≤ x5 then (if x5 < (x1.length : Int) then (if (rd x0 x5) = (rd x1 x5) then (laws_eqIntS.l0 k x0 x1 (wrap64 (x5 + 1))) else (some false)) else (none)) else (none)) else (some true)
def laws_eqIntS.f (k : Nat) (l0 : List Int) (l1 : List Int) : Option (Bool) := if (l0.length : Int) = (l1.length : Int) then (laws_eqIntS.l0 k l0 l1 0) else (some false)
def laws_eqIntSS.l0 : Nat → List (List Int) → List (List Int) → Int → Option (Bool)
  | 0, _, _, _ => none
  | k + 1, x0, x1, x5 => if x5 < (x0.length : Int) then (if 0 ≤ x5 then (if x5 < (x1.length : Int) then ((laws_eqIntS.f k (rd_Lint x0 x5) (rd_Lint x1 x5)).bind fun t413 => (if t413 = true then (laws_eqIntSS.l0 k x0 x1 (wrap64 (x5 + 1))) else (some false))) else (none)) else (none)) else (some true)
def laws_eqIntSS.f (k : Nat) (l0 : List (List Int)) (l1 : List (List Int)) : Option (Bool) := if (l0.length : Int) = (l1.length : Int) then (laws_eqIntSS.l0 k l0 l1 0) else (some false)
def laws_eqClauses.f (k : Nat) (a0_0 : Int) (l0_1 : List (List Int)) (a1_0 : Int) (l1_1 : List (List Int)) : Option (Bool) := if a0_0 = a1_0 then ((laws_eqIntSS.f k l0_1 l1_1).bind fun t416 => (if t416 = true then (some true) else (some false))) else (some false)
def laws_eqAnd.f (a0_0 : Int) (a0_1 : Int) (a1_0 : Int) (a1_1 : Int) : Option (Bool) := if a0_0 = a1_0 then (if a0_1 = a1_1 then (some true) else (some false)) else (some false)
def laws_eqAndS.l0 : Nat → List (IAnd) → List (IAnd) → Int → Option (Bool)
  | 0, _, _, _ => none
  | k + 1, x0, x1, x5 => if x5 < (x0.length : Int) then (if 0 ≤ x5 then (if x5 < (x1.length : Int) then ((laws_eqAnd.f ((rd_IAnd x0 x5).f0) ((rd_IAnd x0 x5).f1) ((rd_IAnd x1 x5).f0) ((rd_IAnd x1 x5).f1)).bind fun t421 => (if t421 = true then (laws_eqAndS.l0 k x0 x1 (wrap64 (x5 + 1))) else (some false))) else (none)) else (none)) else (some true)
def laws_eqAndS.f (k : Nat) (l0 : List (IAnd)) (l1 : List (IAnd)) : Option (Bool) := if (l0.length : Int) = (l1.length : Int) then (laws_eqAndS.l0 k l0 l1 0) else (some false)
def laws_eqCircuit.f (k : Nat) (a0_0 : Int) (l0_1 : List (IAnd)) (a1_0 : Int) (l1_1 : List (IAnd)) : Option (Bool) := if a0_0 = a1_0 then ((laws_eqAndS.f k l0_1 l1_1).bind fun t424 => (if t424 = true then (some true) else (some false))) else (some false)
def impl_trueIn_1_1.f (k : Nat) (a0 : Int) (l1 : List Int) : Option Bool := (impl_litTrue.f a0 l1).bind fun r1 => some r1
mutual
def slices_IndexFunc_int_int_at_impl_trueIn_1_1.l1 : Nat → Int → List Int → List Int → Option Int
  | 0, _, _, _ => none
  | k + 1, x8, l0, l2 => if x8 < (l0.length : Int) then (if 0 ≤ x8 then (if x8 < (l0.length : Int) then ((impl_trueIn_1_1.f k (rd l0 x8) l2).bind fun r1 => if r1 = true then (some x8) else (slices_IndexFunc_int_int_at_impl_trueIn_1_1.l1 k (wrap64 (x8 + 1)) l0 l2)) else none) else none) else (some (-1))
end
def slices_IndexFunc_int_int_at_impl_trueIn_1_1.f (k : Nat) (l0 : List Int) (l2 : List Int) : Option Int := slices_IndexFunc_int_int_at_impl_trueIn_1_1.l1 k 0 l0 l2
def slices_ContainsFunc_int_int_at_impl_trueIn_1_1.f (k : Nat) (l0 : List Int) (l2 : List Int) : Option Bool := (slices_IndexFunc_int_int_at_impl_trueIn_1_1.f k l0 l2).bind fun r1 => some (decide (r1 ≥ 0))
def impl_trueIn_1.f (k : Nat) (l0 : List Int) (l1 : List Int) : Option Bool := (slices_ContainsFunc_int_int_at_impl_trueIn_1_1.f k l0 l1).bind fun r1 => some (!r1)
mutual
def slices_IndexFunc_int_int_at_impl_trueIn_1.l1 : Nat → Int → List (List Int) → List Int → Option Int
  | 0, _, _, _ => none
  | k + 1, x8, l0, l2 => if x8 < (l0.length : Int) then (if 0 ≤ x8 then (if x8 < (l0.length : Int) then ((impl_trueIn_1.f k (rd_Lint l0 x8) l2).bind fun r1 => if r1 = true then (some x8) else (slices_IndexFunc_int_int_at_impl_trueIn_1.l1 k (wrap64 (x8 + 1)) l0 l2)) else none) else none) else (some (-1))
end
def slices_IndexFunc_int_int_at_impl_trueIn_1.f (k : Nat) (l0 : List (List Int)) (l2 : List Int) : Option Int := slices_IndexFunc_int_int_at_impl_trueIn_1.l1 k 0 l0 l2
def slices_ContainsFunc_int_int_at_impl_trueIn_1.f (k : Nat) (l0 : List (List Int)) (l2 : List Int) : Option Bool := (slices_IndexFunc_int_int_at_impl_trueIn_1.f k l0 l2).bind fun r1 => some (decide (r1 ≥ 0))
def impl_trueIn.f (k : Nat) (l0 : List (List Int)) (l1 : List Int) : Option Bool := (slices_ContainsFunc_int_int_at_impl_trueIn_1.f k l0 l1).bind fun r1 => some (!r1)
mutual
def impl_LiesBetween.l2 : Nat → Int → Int → List (List Int) → Int → Int → List IAnd → Int → Option Bool
  | 0, _, _, _, _, _, _, _ => none
  | k + 1, x66q4, a0_0, l0_1, a1, a2_0, l2_1, a3 => if x66q4 < (shl .i64 1 a2_0) then ((impl_valueBits.f k x66q4 a2_0).bind fun r6 => (impl_Circuit_values.f k a2_0 l2_1 r6).bind fun r7 => (impl_edgeOf.f r7 a3).bind fun r8 => if r8 = 1 then (if r8 = 1 then (if 0 ≤ a1 then (if a1 ≤ (l0_1.length : Int) then ((impl_trueIn.f k (l0_1.drop (a1 : Int).toNat) r6).bind fun r9 => if r9 = true then (some false) else (impl_LiesBetween.l2 k (wrap64 (x66q4 + 1)) a0_0 l0_1 a1 a2_0 l2_1 a3)) else none) else none) else (impl_LiesBetween.l2 k (wrap64 (x66q4 + 1)) a0_0 l0_1 a1 a2_0 l2_1 a3)) else (if 0 ≤ a1 then (if a1 ≤ (l0_1.length : Int) then ((impl_trueIn.f k (l0_1.take (a1 : Int).toNat) r6).bind fun r10 => if r10 = true then (some false) else (if r8 = 1 then (if 0 ≤ a1 then (if a1 ≤ (l0_1.length : Int) then ((impl_trueIn.f k (l0_1.drop (a1 : Int).toNat) r6).bind fun r11 => if r11 = true then (some false) else (impl_LiesBetween.l2 k (wrap64 (x66q4 + 1)) a0_0 l0_1 a1 a2_0 l2_1 a3)) else none) else none) else (impl_LiesBetween.l2 k (wrap64 (x66q4 + 1)) a0_0 l0_1 a1 a2_0 l2_1 a3))) else none) else none)) else (some true)
def impl_LiesBetween.l1 : Nat → Int → Int → List (List Int) → Int → Int → List IAnd → Int → (List Bool) → (List Bool) → Option Bool
  | 0, _, _, _, _, _, _, _, _, _ => none
  | k + 1, x48, a0_0, l0_1, a1, a2_0, l2_1, a3, r4, r5 => if x48 < (((r5.take ((wrap64 (1 + a2_0)) : Int).toNat).drop (1 : Int).toNat).length : Int) then (if 0 ≤ x48 then (if x48 < (((r5.take ((wrap64 (1 + a2_0)) : Int).toNat).drop (1 : Int).toNat).length : Int) then (if (rdOf false ((r5.take ((wrap64 (1 + a2_0)) : Int).toNat).drop (1 : Int).toNat) x48) = true then (if 0 ≤ (wrap64 (x48 + 1)) then (if (wrap64 (x48 + 1)) < (r4.length : Int) then (if (rdOf false r4 (wrap64 (x48 + 1))) = true then (impl_LiesBetween.l1 k (wrap64 (x48 + 1)) a0_0 l0_1 a1 a2_0 l2_1 a3 r4 r5) else (some false)) else none) else none) else (impl_LiesBetween.l1 k (wrap64 (x48 + 1)) a0_0 l0_1 a1 a2_0 l2_1 a3 r4 r5)) else none) else none) else (if 0 ≤ a2_0 then (impl_LiesBetween.l2 k 0 a0_0 l0_1 a1 a2_0 l2_1 a3) else none)
end
def impl_LiesBetween.f (k : Nat) (a0_0 : Int) (l0_1 : List (List Int)) (a1 : Int) (a2_0 : Int) (l2_1 : List IAnd) (a3 : Int) : Option Bool := (impl_betweenOk.f k a0_0 l0_1 a1).bind fun r1 => if r1 = true then ((impl_CircuitValid.f k a2_0 l2_1).bind fun r2 => if r2 = true then (if a2_0 ≠ a0_0 then (some false) else ((impl_Circuit_isEdge.f a2_0 l2_1 a3).bind fun r3 => if r3 = true then ((impl_shared.f k a0_0 l0_1 a1).bind fun r4 => (impl_Circuit_needs.f k a2_0 l2_1 a3).bind fun r5 => if 1 ≤ (wrap64 (1 + a2_0)) then (if (wrap64 (1 + a2_0)) ≤ (r5.length : Int) then (impl_LiesBetween.l1 k 0 a0_0 l0_1 a1 a2_0 l2_1 a3 r4 r5) else none) else none) else (some false))) else (some false)) else (some false)
def laws_FnExactLiesBetween.f (k : Nat) (a0_0 : Int) (l0_1 : List (List Int)) (a1 : Int) (a2_0 : Int) (l2_1 : List LAnd) (a3 : Int) : Option Bool := (laws_szClauses.f k a0_0 l0_1 1048576).bind fun r1 => if r1 < 0 then (some true) else ((laws_szCircuit.f a2_0 l2_1 r1).bind fun r2 => if r2 < 0 then (some true) else ((laws_toClauses.f k a0_0 l0_1).bind fun r3 => (laws_toCircuit.f k a2_0 l2_1).bind fun r4 => (spec_LiesBetween.f k r3.1 r3.2 a1 r4.1 r4.2 a3).bind fun r5 => (laws_toClauses.f k a0_0 l0_1).bind fun r6 => (laws_toCircuit.f k a2_0 l2_1).bind fun r7 => (impl_LiesBetween.f k r6.1 r6.2 a1 r7.1 r7.2 a3).bind fun r8 => if r8 ≠ r5 then (some false) else ((laws_toClauses.f k a0_0 l0_1).bind fun r9 => (laws_eqClauses.f k r6.1 r6.2 r9.1 r9.2).bind fun r10 => if r10 = true then ((laws_toCircuit.f k a2_0 l2_1).bind fun r11 => (laws_eqCircuit.f k r7.1 r7.2 r11.1 r11.2).bind fun r12 => if r12 = true then (some true) else (some false)) else (some false))))
end Go.Proofs.Ytaajnneigmgikaa.PA
