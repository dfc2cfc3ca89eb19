/- Types and the Lean functions that the walks are told against. No conditions. -/
import Derived.Test.YtikjlbanfbkhmaaProg
import Derived.Below
import Derived.Deep.Draws
import Derived.Deep.AppendLies
import Derived.Maps.AppendAt
import Derived.OwnWalk
import Derived.Laws.BytesArg
import Derived.Laws.MakeOwn
import Derived.Laws.OwnMore
import Derived.Deep.OwnRows
import Derived.Tactics
import Derived.Lib.ConvBytes
import Derived.Laws.Slices
import Derived.WalkKit
import Derived.KernelRfl
import Derived.RowKit3
import Derived.Deep.LoopGhost
import Derived.Deep.QuietTactic
import Derived.BigQuiet
import Derived.WideLaws
import Derived.Deep.DeepCutAuto
import Derived.Deep.CutBlock
import Derived.Deep.RegionHeld3
import Derived.Laws.Rows
import Derived.Lib.AppendStr
import Derived.ArgAppend
import Derived.Laws.IdiomCopy
import Derived.OrdersHeld
import Derived.Laws.BitsLemmas
import Derived.RowKit
import Derived.Laws.StructEq
import Derived.Lib.SliceRun
import Derived.WalkSpells
import Derived.ChangeArms
import Derived.ChangeSlices
import Derived.Deep.Slices
import Derived.Test.YtikjlbanfbkhmaaKW4b8ba71275
namespace Go.Proofs.Ytikjlbanfbkhmaa.PA
open Go.RowKit Go.Proofs.YtikjlbanfbkhmaaW.PrintWords Go.Proofs.YtikjlbanfbkhmaaW.PrintLast Go.Proofs.YtikjlbanfbkhmaaW.PrintMore
attribute [local go_sem] max2_int min2_int max_two min_two max_three min_three max_four min_four   -- for this text's walks alone
set_option linter.unusedVariables false
set_option linter.unusedSimpArgs false
def rd_Lint (xs : List (List Int)) (i : Int) : (List Int) := xs.getD i.toNat ([] : List Int)
structure LGraph where
  f0 : (List (List Int))
  f1 : Int
  f2 : (List (List Int))
def zLGraph : LGraph := ⟨([] : List (List Int)), (0 : Int), ([] : List (List Int))⟩
structure LTree where
  f0 : Int
  f1 : Int
  f2 : Int
  f3 : Int
def zLTree : LTree := ⟨(0 : Int), (0 : Int), (0 : Int), (0 : Int)⟩
def rd_LTree (xs : List LTree) (i : Int) : LTree := xs.getD i.toNat zLTree
structure ITree where
  f0 : Int
  f1 : Int
  f2 : Int
  f3 : Int
def zITree : ITree := ⟨(0 : Int), (0 : Int), (0 : Int), (0 : Int)⟩
def rd_ITree (xs : List ITree) (i : Int) : ITree := xs.getD i.toNat zITree
def rd_Lbool (xs : List (List Bool)) (i : Int) : (List Bool) := xs.getD i.toNat ([] : List Bool)
def laws_szIntS.f (l0 : List Int) (a1 : Int) : Option (Int) := if (wrap64 (a1 - (l0.length : Int))) < 0 then (some (-1)) else (some (wrap64 (a1 - (l0.length : Int))))
def laws_szIntSS.l0 : Nat → List (List Int) → Int → Int → Option (Int)
  | 0, _, _, _ => none
  | k + 1, x0, x1, x5 => if x5 < (x0.length : Int) then (if 0 ≤ x5 then ((laws_szIntS.f (rd_Lint x0 x5) x1).bind fun t102 => (if t102 < 0 then (some (-1)) else (laws_szIntSS.l0 k x0 t102 (wrap64 (x5 + 1))))) else (none)) else (some x1)
def laws_szIntSS.f (k : Nat) (l0 : List (List Int)) (a1 : Int) : Option (Int) := if (wrap64 (a1 - (l0.length : Int))) < 0 then (some (-1)) else (laws_szIntSS.l0 k l0 (wrap64 (a1 - (l0.length : Int))) 0)
def spec_l1In.f (a0 : Int) (a1 : Int) (a2 : Int) : Option (Bool) := if a0 ≥ a1 then (some (decide (a0 ≤ a2))) else (some false)
def spec_l6Are.l0 : Nat → List Int → Int → Option (Bool)
  | 0, _, _ => none
  | k + 1, x0, x3 => if x3 < (x0.length : Int) then (if 0 ≤ x3 then ((spec_l1In.f (rd x0 x3) 0 1).bind fun t114 => (if t114 = true then (spec_l6Are.l0 k x0 (wrap64 (x3 + 1))) else (some false))) else (none)) else (some true)
def spec_l6Are.f (k : Nat) (l0 : List Int) : Option (Bool) := spec_l6Are.l0 k l0 0
def spec_l20Letters.l0 : Nat → List (List Int) → Int → Int → Option (Bool)
  | 0, _, _, _ => none
  | k + 1, x0, x1, x5 => if x5 < (x0.length : Int) then (if 0 ≤ x5 then (if ((rd_Lint x0 x5).length : Int) = x1 then ((spec_l6Are.f k (rd_Lint x0 x5)).bind fun t117 => (if t117 = true then (spec_l20Letters.l0 k x0 x1 (wrap64 (x5 + 1))) else (some false))) else (some false)) else (none)) else (some true)
def spec_l20Letters.f (k : Nat) (l0 : List (List Int)) (a1 : Int) : Option (Bool) := spec_l20Letters.l0 k l0 a1 0
def laws_toIntS.l0 : Nat → List Int → List Int → Int → Option (List Int)
  | 0, _, _, _ => none
  | k + 1, x0, x3, x4 => if x4 < (x0.length : Int) then (if 0 ≤ x4 then (if x4 < (x3.length : Int) then (laws_toIntS.l0 k x0 (x3.set (x4 : Int).toNat (rd x0 x4)) (wrap64 (x4 + 1))) else (none)) else (none)) else (some x3)
def laws_toIntS.f (k : Nat) (l0 : List Int) : Option (List Int) := if 0 ≤ (l0.length : Int) then (if ((l0.length : Int) : Int).toNat ≤ 35184372088832 then (laws_toIntS.l0 k l0 (List.replicate ((l0.length : Int) : Int).toNat 0) 0) else (none)) else (none)
def laws_toIntSS.l0 : Nat → List (List Int) → List (List Int) → Int → Option ((List (List Int)))
  | 0, _, _, _ => none
  | k + 1, x0, x3, x4 => if x4 < (x0.length : Int) then (if 0 ≤ x4 then ((laws_toIntS.f k (rd_Lint x0 x4)).bind fun t273 => (if x4 < (x3.length : Int) then (laws_toIntSS.l0 k x0 (x3.set (x4 : Int).toNat t273) (wrap64 (x4 + 1))) else (none))) else (none)) else (some x3)
def laws_toIntSS.f (k : Nat) (l0 : List (List Int)) : Option ((List (List Int))) := if 0 ≤ (l0.length : Int) then (if ((l0.length : Int) : Int).toNat ≤ 11728124029610 then (laws_toIntSS.l0 k l0 (List.replicate ((l0.length : Int) : Int).toNat []) 0) else (none)) else (none)
def impl_clone_int.f (l0 : List Int) : Option (List Int) := if l0.length ≤ 35184372088832 then some l0 else none
def impl_in.f (a0 : Int) (a1 : Int) (a2 : Int) : Option (Bool) := if a0 ≥ a1 then (some (decide (a0 ≤ a2))) else (some false)
def impl_bitsValid_1.f (a0 : Int) : Option (Bool) := (impl_in.f a0 0 1).bind fun t294 => (some (!t294))
def slices_IndexFunc_at_impl_bitsValid_1.l0 : Nat → List Int → Int → Int → Option (Int)
  | 0, _, _, _ => none
  | k + 1, x0, x7, x8 => if x8 < x7 then (if 0 ≤ x8 then (if x8 < (x0.length : Int) then ((impl_bitsValid_1.f (rd x0 x8)).bind fun t296 => (if t296 = true then (some x8) else (slices_IndexFunc_at_impl_bitsValid_1.l0 k x0 x7 (wrap64 (x8 + 1))))) else (none)) else (none)) else (some (-1))
def slices_IndexFunc_at_impl_bitsValid_1.f (k : Nat) (l0 : List Int)  : Option (Int) := slices_IndexFunc_at_impl_bitsValid_1.l0 k l0 (l0.length : Int) 0
def slices_ContainsFunc_at_impl_bitsValid_1.f (k : Nat) (l0 : List Int)  : Option (Bool) := (slices_IndexFunc_at_impl_bitsValid_1.f k l0).bind fun t297 => (some (decide (t297 ≥ 0)))
def impl_bitsValid.f (k : Nat) (l0 : List Int) : Option (Bool) := (slices_ContainsFunc_at_impl_bitsValid_1.f k l0).bind fun t298 => (some (!t298))
def impl_letterOk.f (k : Nat) (l0 : List Int) (a1 : Int) : Option (Bool) := if (l0.length : Int) = a1 then ((impl_bitsValid.f k l0).bind fun t299 => (some t299)) else (some false)
def laws_eqIntS.l0 : Nat → List Int → List Int → Int → Option (Bool)
  | 0, _, _, _ => none
  | k + 1, x0, x1, x5 => if x5 < (x0.length : Int) then (if 0 ≤ x5 then (if x5 < (x1.length : Int) then (if (rd x0 x5) = (rd x1 x5) then (laws_eqIntS.l0 k x0 x1 (wrap64 (x5 + 1))) else (some false)) else (none)) else (none)) else (some true)
def laws_eqIntS.f (k : Nat) (l0 : List Int) (l1 : List Int) : Option (Bool) := if (l0.length : Int) = (l1.length : Int) then (laws_eqIntS.l0 k l0 l1 0) else (some false)
def laws_eqIntSS.l0 : Nat → List (List Int) → List (List Int) → Int → Option (Bool)
  | 0, _, _, _ => none
  | k + 1, x0, x1, x5 => if x5 < (x0.length : Int) then (if 0 ≤ x5 then (if x5 < (x1.length : Int) then ((laws_eqIntS.f k (rd_Lint x0 x5) (rd_Lint x1 x5)).bind fun t315 => (if t315 = true then (laws_eqIntSS.l0 k x0 x1 (wrap64 (x5 + 1))) else (some false))) else (none)) else (none)) else (some true)
def laws_eqIntSS.f (k : Nat) (l0 : List (List Int)) (l1 : List (List Int)) : Option (Bool) := if (l0.length : Int) = (l1.length : Int) then (laws_eqIntSS.l0 k l0 l1 0) else (some false)
def laws_markIntS.l0 : Nat → List Int → Int → Int → Option (Int × List Int)
  | 0, _, _, _ => none
  | k + 1, x0, x1, x5 => if x5 < (x0.length : Int) then (if 0 ≤ x5 then (laws_markIntS.l0 k (x0.set (x5 : Int).toNat x1) (wrap64 (x1 + 1)) (wrap64 (x5 + 1))) else (none)) else (some (x1, x0))
def laws_markIntS.f (k : Nat) (l0 : List Int) (a1 : Int) : Option (Int × List Int) := laws_markIntS.l0 k l0 a1 0
def laws_heldIntS.l0 : Nat → List Int → Int → Int → Option (Int)
  | 0, _, _, _ => none
  | k + 1, x0, x1, x5 => if x5 < (x0.length : Int) then (if 0 ≤ x5 then (if (rd x0 x5) = x1 then (laws_heldIntS.l0 k x0 (wrap64 (x1 + 1)) (wrap64 (x5 + 1))) else (some (-1))) else (none)) else (some x1)
def laws_heldIntS.f (k : Nat) (l0 : List Int) (a1 : Int) : Option (Int) := laws_heldIntS.l0 k l0 a1 0
def laws_szGraph.f (k : Nat) (l0_0 : List (List Int)) (a0_1 : Int) (l0_2 : List (List Int)) (a1 : Int) : Option (Int) := (laws_szIntSS.f k l0_0 a1).bind fun t347 => (if t347 < 0 then (some (-1)) else ((laws_szIntSS.f k l0_2 t347).bind fun t348 => (if t348 < 0 then (some (-1)) else (some t348))))
def laws_szTreeS.f (l0 : List (LTree)) (a1 : Int) : Option (Int) := if (wrap64 (a1 - (l0.length : Int))) < 0 then (some (-1)) else (some (wrap64 (a1 - (l0.length : Int))))
mutual
def spec_GraphValid.j0 : Nat → Int → Bool → List (List Int) → Int → List (List Int) → Option (Bool)
  | 0, _, _, _, _, _ => none
  | k + 1, x5, x40, x350000, x350001, x350002 => if x40 = true then (some false) else (spec_GraphValid.l0 k x5 0 x350000 x350001 x350002)
def spec_GraphValid.l0 : Nat → Int → Int → List (List Int) → Int → List (List Int) → Option (Bool)
  | 0, _, _, _, _, _ => none
  | k + 1, x5, x6, x350000, x350001, x350002 => if x6 < x5 then (spec_GraphValid.l1 k x5 x6 0 x350000 x350001 x350002) else (some true)
def spec_GraphValid.l1 : Nat → Int → Int → Int → List (List Int) → Int → List (List Int) → Option (Bool)
  | 0, _, _, _, _, _, _ => none
  | k + 1, x5, x6, x7, x350000, x350001, x350002 => if 0 ≤ x6 then (if x6 < (x350002.length : Int) then (if x7 < ((rd_Lint x350002 x6).length : Int) then (if 0 ≤ x7 then ((spec_l1In.f (rd (rd_Lint x350002 x6) x7) 0 (wrap64 (x5 - 1))).bind fun t357 => (if t357 = true then (if x7 > 0 then (if 0 ≤ (wrap64 (x7 - 1)) then (if (wrap64 (x7 - 1)) < ((rd_Lint x350002 x6).length : Int) then (spec_GraphValid.j3 k x5 x6 x7 (decide ((rd (rd_Lint x350002 x6) x7) ≤ (rd (rd_Lint x350002 x6) (wrap64 (x7 - 1))))) x350000 x350001 x350002) else (none)) else (none)) else (spec_GraphValid.j3 k x5 x6 x7 false x350000 x350001 x350002)) else (spec_GraphValid.j3 k x5 x6 x7 true x350000 x350001 x350002))) else (none)) else (if ((rd_Lint x350002 x6).length : Int) = 0 then (some false) else (spec_GraphValid.l0 k x5 (wrap64 (x6 + 1)) x350000 x350001 x350002))) else (none)) else (none)
def spec_GraphValid.j3 : Nat → Int → Int → Int → Bool → List (List Int) → Int → List (List Int) → Option (Bool)
  | 0, _, _, _, _, _, _, _ => none
  | k + 1, x5, x6, x7, x91, x350000, x350001, x350002 => if x91 = true then (some false) else (spec_GraphValid.l1 k x5 x6 (wrap64 (x7 + 1)) x350000 x350001 x350002)
end
def spec_GraphValid.f (k : Nat) (l0_0 : List (List Int)) (a0_1 : Int) (l0_2 : List (List Int)) (a1 : Int) : Option (Bool) := (spec_l1In.f a1 0 4).bind fun t350 => (if t350 = true then ((spec_l1In.f (l0_0.length : Int) 1 400).bind fun t351 => (if t351 = true then (if (l0_2.length : Int) = (l0_0.length : Int) then ((spec_l1In.f a0_1 0 (wrap64 ((l0_0.length : Int) - 1))).bind fun t352 => (if t352 = true then ((spec_l20Letters.f k l0_0 a1).bind fun t353 => (spec_GraphValid.j0 k (l0_0.length : Int) (!t353) l0_0 a0_1 l0_2)) else (spec_GraphValid.j0 k (l0_0.length : Int) true l0_0 a0_1 l0_2))) else (spec_GraphValid.j0 k (l0_0.length : Int) true l0_0 a0_1 l0_2)) else (spec_GraphValid.j0 k (l0_0.length : Int) true l0_0 a0_1 l0_2))) else (spec_GraphValid.j0 k (l0_0.length : Int) true l0_0 a0_1 l0_2))
def spec_l24One.f (a0 : Int) : Option (Bool) := if a0 = 2 then (some true) else (if a0 = 5 then (some true) else (if a0 = 7 then (some true) else (if a0 = 8 then (some true) else (some (a0 == 10)))))
def spec_l24Step.j0 : Nat → Bool → Int → Int → Int → Int → Option (Bool)
  | 0, _, _, _, _, _ => none
  | k + 1, x65, x364000, x364001, x364002, x364003 => if x65 = true then (some false) else ((spec_l24One.f x364000).bind fun t368 => (if t368 = true then (some (x364003 == x364002)) else (some true)))
def spec_l24Step.f (k : Nat) (a0_0 : Int) (a0_1 : Int) (a0_2 : Int) (a0_3 : Int) (a1 : Int) (a2 : Int) : Option (Bool) := if a0_0 = 0 then (if a0_1 = 0 then (if a0_2 = 0 then (some (a0_3 == 0)) else (some false)) else (some false)) else (if a0_0 = 1 then ((spec_l1In.f a0_1 0 (wrap64 (a2 - 1))).bind fun t364 => (if t364 = true then (if a0_2 = 0 then (some (a0_3 == 0)) else (some false)) else (some false))) else ((spec_l1In.f a0_0 2 10).bind fun t365 => (if t365 = true then (if a0_1 = 0 then ((spec_l1In.f a0_2 0 (wrap64 (a1 - 1))).bind fun t366 => (if t366 = true then ((spec_l1In.f a0_3 0 (wrap64 (a1 - 1))).bind fun t367 => (spec_l24Step.j0 k (!t367) a0_0 a0_1 a0_2 a0_3)) else (spec_l24Step.j0 k true a0_0 a0_1 a0_2 a0_3))) else (spec_l24Step.j0 k true a0_0 a0_1 a0_2 a0_3)) else (spec_l24Step.j0 k true a0_0 a0_1 a0_2 a0_3))))
mutual
def spec_TreesValid.j0 : Nat → List (ITree) → Int → Bool → Option (Bool)
  | 0, _, _, _ => none
  | k + 1, x0, x1, x14 => if x14 = true then (some false) else (spec_TreesValid.l0 k x0 x1 0)
def spec_TreesValid.l0 : Nat → List (ITree) → Int → Int → Option (Bool)
  | 0, _, _, _ => none
  | k + 1, x0, x1, x5 => if x5 < (x0.length : Int) then (if 0 ≤ x5 then ((spec_l24Step.f k ((rd_ITree x0 x5).f0) ((rd_ITree x0 x5).f1) ((rd_ITree x0 x5).f2) ((rd_ITree x0 x5).f3) x5 x1).bind fun t372 => (if t372 = true then (spec_TreesValid.l0 k x0 x1 (wrap64 (x5 + 1))) else (some false))) else (none)) else (some true)
end
def spec_TreesValid.f (k : Nat) (l0 : List (ITree)) (a1 : Int) : Option (Bool) := (spec_l1In.f a1 0 4).bind fun t369 => (if t369 = true then ((spec_l1In.f (l0.length : Int) 1 24).bind fun t370 => (spec_TreesValid.j0 k l0 a1 (!t370))) else (spec_TreesValid.j0 k l0 a1 true))
def spec_l24Not.l0 : Nat → List Bool → List Bool → Int → Option (List Bool)
  | 0, _, _, _ => none
  | k + 1, x0, x3, x4 => if x4 < (x0.length : Int) then (if 0 ≤ x4 then (if x4 < (x3.length : Int) then (spec_l24Not.l0 k x0 (x3.set (x4 : Int).toNat (!(rdOf false x0 x4))) (wrap64 (x4 + 1))) else (none)) else (none)) else (some x3)
def spec_l24Not.f (k : Nat) (l0 : List Bool) : Option (List Bool) := if 0 ≤ (l0.length : Int) then (if ((l0.length : Int) : Int).toNat ≤ 281474976710656 then (spec_l24Not.l0 k l0 (List.replicate ((l0.length : Int) : Int).toNat false) 0) else (none)) else (none)
def spec_l24Both.l0 : Nat → List Bool → List Bool → List Bool → Int → Option (List Bool)
  | 0, _, _, _, _ => none
  | k + 1, x0, x1, x5, x6 => if x6 < (x0.length : Int) then (if 0 ≤ x6 then (if rdOf false x0 x6 = true then (if x6 < (x1.length : Int) then (if x6 < (x5.length : Int) then (spec_l24Both.l0 k x0 x1 (x5.set (x6 : Int).toNat (rdOf false x1 x6)) (wrap64 (x6 + 1))) else (none)) else (none)) else (if x6 < (x5.length : Int) then (spec_l24Both.l0 k x0 x1 (x5.set (x6 : Int).toNat false) (wrap64 (x6 + 1))) else (none))) else (none)) else (some x5)
def spec_l24Both.f (k : Nat) (l0 : List Bool) (l1 : List Bool) : Option (List Bool) := if 0 ≤ (l0.length : Int) then (if ((l0.length : Int) : Int).toNat ≤ 281474976710656 then (spec_l24Both.l0 k l0 l1 (List.replicate ((l0.length : Int) : Int).toNat false) 0) else (none)) else (none)
mutual
def spec_l4Ahead.l0 : Nat → List (List Int) → List Bool → List Bool → Int → Option (List Bool)
  | 0, _, _, _, _ => none
  | k + 1, x0, x1, x5, x6 => if x6 < (x0.length : Int) then (spec_l4Ahead.l1 k x0 x1 x5 x6 0) else (some x5)
def spec_l4Ahead.l1 : Nat → List (List Int) → List Bool → List Bool → Int → Int → Option (List Bool)
  | 0, _, _, _, _, _ => none
  | k + 1, x0, x1, x5, x6, x7 => if 0 ≤ x6 then (if x6 < (x0.length : Int) then (if x7 < ((rd_Lint x0 x6).length : Int) then (if 0 ≤ x7 then (if 0 ≤ (rd (rd_Lint x0 x6) x7) then (if (rd (rd_Lint x0 x6) x7) < (x1.length : Int) then (if rdOf false x1 (rd (rd_Lint x0 x6) x7) = true then (if x6 < (x5.length : Int) then (spec_l4Ahead.l1 k x0 x1 (x5.set (x6 : Int).toNat true) x6 (wrap64 (x7 + 1))) else (none)) else (spec_l4Ahead.l1 k x0 x1 x5 x6 (wrap64 (x7 + 1)))) else (none)) else (none)) else (none)) else (spec_l4Ahead.l0 k x0 x1 x5 (wrap64 (x6 + 1)))) else (none)) else (none)
end
def spec_l4Ahead.f (k : Nat) (l0 : List (List Int)) (l1 : List Bool) : Option (List Bool) := if 0 ≤ (l0.length : Int) then (if ((l0.length : Int) : Int).toNat ≤ 281474976710656 then (spec_l4Ahead.l0 k l0 l1 (List.replicate ((l0.length : Int) : Int).toNat false) 0) else (none)) else (none)
mutual
def spec_l24Until.l0 : Nat → List (List Int) → List Bool → List Bool → List Bool → Int → Option (List Bool)
  | 0, _, _, _, _, _ => none
  | k + 1, x0, x1, x2, x7, x8 => if x8 < (x1.length : Int) then (if 0 ≤ x8 then (if x8 < (x2.length : Int) then (if x8 < (x7.length : Int) then (spec_l24Until.l0 k x0 x1 x2 (x7.set (x8 : Int).toNat (rdOf false x2 x8)) (wrap64 (x8 + 1))) else (none)) else (none)) else (none)) else (spec_l24Until.l1 k x0 x1 x7 0)
def spec_l24Until.l1 : Nat → List (List Int) → List Bool → List Bool → Int → Option (List Bool)
  | 0, _, _, _, _ => none
  | k + 1, x0, x1, x7, x9 => if x9 < (x1.length : Int) then ((spec_l4Ahead.f k x0 x7).bind fun t398 => (spec_l24Until.l2 k x0 x1 x7 x9 t398 0)) else (some x7)
def spec_l24Until.l2 : Nat → List (List Int) → List Bool → List Bool → Int → List Bool → Int → Option (List Bool)
  | 0, _, _, _, _, _, _ => none
  | k + 1, x0, x1, x7, x9, x10, x11 => if x11 < (x1.length : Int) then (if 0 ≤ x11 then (if x11 < (x7.length : Int) then (if rdOf false x7 x11 = true then (spec_l24Until.l2 k x0 x1 (x7.set (x11 : Int).toNat true) x9 x10 (wrap64 (x11 + 1))) else (if rdOf false x1 x11 = true then (if x11 < (x10.length : Int) then (spec_l24Until.l2 k x0 x1 (x7.set (x11 : Int).toNat (rdOf false x10 x11)) x9 x10 (wrap64 (x11 + 1))) else (none)) else (spec_l24Until.l2 k x0 x1 (x7.set (x11 : Int).toNat false) x9 x10 (wrap64 (x11 + 1))))) else (none)) else (none)) else (spec_l24Until.l1 k x0 x1 x7 (wrap64 (x9 + 1)))
end
def spec_l24Until.f (k : Nat) (l0 : List (List Int)) (l1 : List Bool) (l2 : List Bool) : Option (List Bool) := if 0 ≤ (l1.length : Int) then (if ((l1.length : Int) : Int).toNat ≤ 281474976710656 then (spec_l24Until.l0 k l0 l1 l2 (List.replicate ((l1.length : Int) : Int).toNat false) 0) else (none)) else (none)
mutual
def spec_l24Stay.l0 : Nat → List (List Int) → List Bool → List Bool → Int → Option (List Bool)
  | 0, _, _, _, _ => none
  | k + 1, x0, x1, x5, x6 => if x6 < (x1.length : Int) then (if 0 ≤ x6 then (if x6 < (x5.length : Int) then (spec_l24Stay.l0 k x0 x1 (x5.set (x6 : Int).toNat (rdOf false x1 x6)) (wrap64 (x6 + 1))) else (none)) else (none)) else (spec_l24Stay.l1 k x0 x1 x5 0)
def spec_l24Stay.l1 : Nat → List (List Int) → List Bool → List Bool → Int → Option (List Bool)
  | 0, _, _, _, _ => none
  | k + 1, x0, x1, x5, x7 => if x7 < (x1.length : Int) then ((spec_l4Ahead.f k x0 x5).bind fun t412 => (spec_l24Stay.l2 k x0 x1 x5 x7 t412 0)) else (some x5)
def spec_l24Stay.l2 : Nat → List (List Int) → List Bool → List Bool → Int → List Bool → Int → Option (List Bool)
  | 0, _, _, _, _, _, _ => none
  | k + 1, x0, x1, x5, x7, x8, x9 => if x9 < (x1.length : Int) then (if 0 ≤ x9 then (if x9 < (x5.length : Int) then (if rdOf false x5 x9 = true then (if x9 < (x8.length : Int) then (spec_l24Stay.l2 k x0 x1 (x5.set (x9 : Int).toNat (rdOf false x8 x9)) x7 x8 (wrap64 (x9 + 1))) else (none)) else (spec_l24Stay.l2 k x0 x1 (x5.set (x9 : Int).toNat false) x7 x8 (wrap64 (x9 + 1)))) else (none)) else (none)) else (spec_l24Stay.l1 k x0 x1 x5 (wrap64 (x7 + 1)))
end
def spec_l24Stay.f (k : Nat) (l0 : List (List Int)) (l1 : List Bool) : Option (List Bool) := if 0 ≤ (l1.length : Int) then (if ((l1.length : Int) : Int).toNat ≤ 281474976710656 then (spec_l24Stay.l0 k l0 l1 (List.replicate ((l1.length : Int) : Int).toNat false) 0) else (none)) else (none)
def spec_l24All.l0 : Nat → List Bool → List Bool → List Bool → List Bool → Int → Option (List Bool)
  | 0, _, _, _, _, _ => none
  | k + 1, x1, x8, x9, x10, x11 => if x11 < (x1.length : Int) then (if 0 ≤ x11 then (if x11 < (x8.length : Int) then (if rdOf false x8 x11 = true then (if x11 < (x10.length : Int) then (spec_l24All.l0 k x1 x8 x9 (x10.set (x11 : Int).toNat false) (wrap64 (x11 + 1))) else (none)) else (if x11 < (x9.length : Int) then (if x11 < (x10.length : Int) then (spec_l24All.l0 k x1 x8 x9 (x10.set (x11 : Int).toNat (!(rdOf false x9 x11))) (wrap64 (x11 + 1))) else (none)) else (none))) else (none)) else (none)) else (some x10)
def spec_l24All.f (k : Nat) (l0 : List (List Int)) (l1 : List Bool) (l2 : List Bool) : Option (List Bool) := (spec_l24Not.f k l2).bind fun t419 => ((spec_l24Not.f k l1).bind fun t422 => ((spec_l24Both.f k t419 t422).bind fun t425 => ((spec_l24Until.f k l0 t419 t425).bind fun t428 => ((spec_l24Stay.f k l0 t419).bind fun t431 => (if 0 ≤ (l1.length : Int) then (if ((l1.length : Int) : Int).toNat ≤ 281474976710656 then (spec_l24All.l0 k l1 t428 t431 (List.replicate ((l1.length : Int) : Int).toNat false) 0) else (none)) else (none))))))
mutual
def spec_l24Row.l0 : Nat → List (List Int) → List (List Int) → List Bool → Int → Int → Int → Int → Int → Option (List Bool)
  | 0, _, _, _, _, _, _, _, _ => none
  | k + 1, x2, x3, x9, x10, x442000, x442001, x442002, x442003 => if x10 < (x2.length : Int) then (if x442000 = 0 then (if 0 ≤ x10 then (if x10 < (x9.length : Int) then (spec_l24Row.l0 k x2 x3 (x9.set (x10 : Int).toNat true) (wrap64 (x10 + 1)) x442000 x442001 x442002 x442003) else (none)) else (none)) else (if 0 ≤ x10 then (if x10 < (x3.length : Int) then (if 0 ≤ x442001 then (if x442001 < ((rd_Lint x3 x10).length : Int) then (if x10 < (x9.length : Int) then (spec_l24Row.l0 k x2 x3 (x9.set (x10 : Int).toNat ((rd (rd_Lint x3 x10) x442001) == 1)) (wrap64 (x10 + 1)) x442000 x442001 x442002 x442003) else (none)) else (none)) else (none)) else (none)) else (none))) else (some x9)
def spec_l24Row.l1 : Nat → List (List Int) → List Bool → List Bool → Int → Option (List Bool)
  | 0, _, _, _, _ => none
  | k + 1, x2, x11, x13, x14 => if x14 < (x2.length : Int) then (if 0 ≤ x14 then (if x14 < (x13.length : Int) then (spec_l24Row.l1 k x2 x11 (x13.set (x14 : Int).toNat true) (wrap64 (x14 + 1))) else (none)) else (none)) else ((spec_l24Not.f k x11).bind fun t494 => ((spec_l24Until.f k x2 x13 t494).bind fun t497 => ((spec_l24Not.f k t497).bind fun t500 => (some t500))))
end
def spec_l24Row.f (k : Nat) (a0_0 : Int) (a0_1 : Int) (a0_2 : Int) (a0_3 : Int) (l1 : List (List Bool)) (l2 : List (List Int)) (l3 : List (List Int)) : Option (List Bool) := if a0_0 ≤ 1 then (if 0 ≤ (l2.length : Int) then (if ((l2.length : Int) : Int).toNat ≤ 281474976710656 then (spec_l24Row.l0 k l2 l3 (List.replicate ((l2.length : Int) : Int).toNat false) 0 a0_0 a0_1 a0_2 a0_3) else (none)) else (none)) else (if 0 ≤ a0_2 then (if a0_2 < (l1.length : Int) then (if 0 ≤ a0_3 then (if a0_3 < (l1.length : Int) then (if a0_0 = 2 then ((spec_l24Not.f k (rd_Lbool l1 a0_2)).bind fun t451 => (some t451)) else (if a0_0 = 3 then ((spec_l24Both.f k (rd_Lbool l1 a0_2) (rd_Lbool l1 a0_3)).bind fun t454 => (some t454)) else (if a0_0 = 4 then ((spec_l24Not.f k (rd_Lbool l1 a0_2)).bind fun t457 => ((spec_l24Not.f k (rd_Lbool l1 a0_3)).bind fun t460 => ((spec_l24Both.f k t457 t460).bind fun t463 => ((spec_l24Not.f k t463).bind fun t466 => (some t466))))) else (if a0_0 = 5 then ((spec_l4Ahead.f k l2 (rd_Lbool l1 a0_2)).bind fun t469 => (some t469)) else (if a0_0 = 6 then ((spec_l24Until.f k l2 (rd_Lbool l1 a0_2) (rd_Lbool l1 a0_3)).bind fun t472 => (some t472)) else (if a0_0 = 7 then ((spec_l24Stay.f k l2 (rd_Lbool l1 a0_2)).bind fun t475 => (some t475)) else (if a0_0 = 8 then ((spec_l24Not.f k (rd_Lbool l1 a0_2)).bind fun t478 => ((spec_l4Ahead.f k l2 t478).bind fun t481 => ((spec_l24Not.f k t481).bind fun t484 => (some t484)))) else (if a0_0 = 9 then ((spec_l24All.f k l2 (rd_Lbool l1 a0_2) (rd_Lbool l1 a0_3)).bind fun t487 => (some t487)) else (if 0 ≤ (l2.length : Int) then (if ((l2.length : Int) : Int).toNat ≤ 281474976710656 then (spec_l24Row.l1 k l2 (rd_Lbool l1 a0_2) (List.replicate ((l2.length : Int) : Int).toNat false) 0) else (none)) else (none)))))))))) else (none)) else (none)) else (none)) else (none))
def spec_l4List.l0 : Nat → List Bool → List Int → Int → Option (List Int)
  | 0, _, _, _ => none
  | k + 1, x0, x3, x4 => if x4 < (x0.length : Int) then (if 0 ≤ x4 then (if rdOf false x0 x4 = true then (if x3.length < 17592186044416 then (spec_l4List.l0 k x0 (x3 ++ [x4]) (wrap64 (x4 + 1))) else (none)) else (spec_l4List.l0 k x0 x3 (wrap64 (x4 + 1)))) else (none)) else (some x3)
def spec_l4List.f (k : Nat) (l0 : List Bool) : Option (List Int) := spec_l4List.l0 k l0 (([] : List Int)) 0
mutual
def spec_TreesOn.j0 : Nat → List (ITree) → Bool → List (List Int) → Int → List (List Int) → Option (List Int)
  | 0, _, _, _, _, _ => none
  | k + 1, x2, x18, x511000, x511001, x511002 => if x18 = true then (some ([] : List Int)) else (spec_TreesOn.l0 k x2 (([] : List (List Bool))) 0 x511000 x511001 x511002)
def spec_TreesOn.l0 : Nat → List (ITree) → List (List Bool) → Int → List (List Int) → Int → List (List Int) → Option (List Int)
  | 0, _, _, _, _, _, _ => none
  | k + 1, x2, x7, x8, x511000, x511001, x511002 => if x8 < (x2.length : Int) then (if 0 ≤ x8 then ((spec_l24Row.f k ((rd_ITree x2 x8).f0) ((rd_ITree x2 x8).f1) ((rd_ITree x2 x8).f2) ((rd_ITree x2 x8).f3) x7 x511002 x511000).bind fun t517 => (if x7.length < 5864062014805 then (spec_TreesOn.l0 k x2 (x7 ++ [t517]) (wrap64 (x8 + 1)) x511000 x511001 x511002) else (none))) else (none)) else (if 0 ≤ (wrap64 ((x7.length : Int) - 1)) then (if (wrap64 ((x7.length : Int) - 1)) < (x7.length : Int) then ((spec_l4List.f k (rd_Lbool x7 (wrap64 ((x7.length : Int) - 1)))).bind fun t524 => (some t524)) else (none)) else (none))
end
def spec_TreesOn.f (k : Nat) (l0_0 : List (List Int)) (a0_1 : Int) (l0_2 : List (List Int)) (a1 : Int) (l2 : List (ITree)) : Option (List Int) := (spec_GraphValid.f k l0_0 a0_1 l0_2 a1).bind fun t511 => (if t511 = true then ((spec_TreesValid.f k l2 a1).bind fun t512 => (spec_TreesOn.j0 k l2 (!t512) l0_0 a0_1 l0_2)) else (spec_TreesOn.j0 k l2 true l0_0 a0_1 l0_2))
def laws_toGraph.f (k : Nat) (l0_0 : List (List Int)) (a0_1 : Int) (l0_2 : List (List Int)) : Option ((List (List Int)) × Int × (List (List Int))) := (laws_toIntSS.f k l0_0).bind fun t530 => ((laws_toIntSS.f k l0_2).bind fun t533 => (some (t530, a0_1, t533)))
def laws_toTree.f (a0_0 : Int) (a0_1 : Int) (a0_2 : Int) (a0_3 : Int) : Option (Int × Int × Int × Int) := some (a0_0, a0_1, a0_2, a0_3)
def laws_toTreeS.l0 : Nat → List (LTree) → List (ITree) → Int → Option ((List (ITree)))
  | 0, _, _, _ => none
  | k + 1, x0, x3, x4 => if x4 < (x0.length : Int) then (if 0 ≤ x4 then ((laws_toTree.f ((rd_LTree x0 x4).f0) ((rd_LTree x0 x4).f1) ((rd_LTree x0 x4).f2) ((rd_LTree x0 x4).f3)).bind fun bt543 => (if x4 < (x3.length : Int) then (laws_toTreeS.l0 k x0 (x3.set (x4 : Int).toNat (⟨bt543.1, bt543.2.1, bt543.2.2.1, bt543.2.2.2⟩ : ITree)) (wrap64 (x4 + 1))) else (none))) else (none)) else (some x3)
def laws_toTreeS.f (k : Nat) (l0 : List (LTree)) : Option ((List (ITree))) := if 0 ≤ (l0.length : Int) then (if ((l0.length : Int) : Int).toNat ≤ 8796093022208 then (laws_toTreeS.l0 k l0 (List.replicate ((l0.length : Int) : Int).toNat zITree) 0) else (none)) else (none)
mutual
def impl_setOk.l0 : Nat → List Int → Int → List Int → Int → Int → Option (Bool)
  | 0, _, _, _, _, _ => none
  | k + 1, x0, x1, x7, x8, x9 => if x9 < x8 then (if 0 ≤ x9 then (if x9 < (x7.length : Int) then ((impl_in.f (rd x7 x9) 0 (wrap64 (x1 - 1))).bind fun t549 => (if t549 = true then (if x9 > 0 then (if 0 ≤ (wrap64 (x9 - 1)) then (if (wrap64 (x9 - 1)) < (x0.length : Int) then (impl_setOk.j1 k x0 x1 x7 x8 x9 (decide ((rd x0 (wrap64 (x9 - 1))) ≥ (rd x7 x9)))) else (none)) else (none)) else (impl_setOk.j1 k x0 x1 x7 x8 x9 false)) else (impl_setOk.j1 k x0 x1 x7 x8 x9 true))) else (none)) else (none)) else (some true)
def impl_setOk.j1 : Nat → List Int → Int → List Int → Int → Int → Bool → Option (Bool)
  | 0, _, _, _, _, _, _ => none
  | k + 1, x0, x1, x7, x8, x9, x31 => if x31 = true then (some false) else (impl_setOk.l0 k x0 x1 x7 x8 (wrap64 (x9 + 1)))
end
def impl_setOk.f (k : Nat) (l0 : List Int) (a1 : Int) : Option (Bool) := impl_setOk.l0 k l0 a1 l0 (l0.length : Int) 0
mutual
def impl_GraphValid.j0 : Nat → Int → Int → Bool → List (List Int) → Int → List (List Int) → Option (Bool)
  | 0, _, _, _, _, _, _ => none
  | k + 1, x1, x5, x33, x552000, x552001, x552002 => if x33 = true then (some false) else (impl_GraphValid.l0 k x1 x5 x552002 (x552002.length : Int) 0 x552000 x552001 x552002)
def impl_GraphValid.l0 : Nat → Int → Int → List (List Int) → Int → Int → List (List Int) → Int → List (List Int) → Option (Bool)
  | 0, _, _, _, _, _, _, _, _ => none
  | k + 1, x1, x5, x35, x36, x37, x552000, x552001, x552002 => if x37 < x36 then (if 0 ≤ x37 then (if x37 < (x35.length : Int) then (if x37 < (x552000.length : Int) then ((impl_letterOk.f k (rd_Lint x552000 x37) x1).bind fun t557 => (if t557 = true then (if ((rd_Lint x35 x37).length : Int) = 0 then (impl_GraphValid.j2 k x1 x5 x35 x36 x37 true x552000 x552001 x552002) else ((impl_setOk.f k (rd_Lint x35 x37) x5).bind fun t558 => (impl_GraphValid.j2 k x1 x5 x35 x36 x37 (!t558) x552000 x552001 x552002))) else (impl_GraphValid.j2 k x1 x5 x35 x36 x37 true x552000 x552001 x552002))) else (none)) else (none)) else (none)) else (some true)
def impl_GraphValid.j2 : Nat → Int → Int → List (List Int) → Int → Int → Bool → List (List Int) → Int → List (List Int) → Option (Bool)
  | 0, _, _, _, _, _, _, _, _, _ => none
  | k + 1, x1, x5, x35, x36, x37, x60, x552000, x552001, x552002 => if x60 = true then (some false) else (impl_GraphValid.l0 k x1 x5 x35 x36 (wrap64 (x37 + 1)) x552000 x552001 x552002)
end
def impl_GraphValid.f (k : Nat) (l0_0 : List (List Int)) (a0_1 : Int) (l0_2 : List (List Int)) (a1 : Int) : Option (Bool) := (impl_in.f a1 0 4).bind fun t552 => (if t552 = true then ((impl_in.f (l0_0.length : Int) 1 400).bind fun t553 => (if t553 = true then ((impl_in.f a0_1 0 (wrap64 ((l0_0.length : Int) - 1))).bind fun t554 => (if t554 = true then (impl_GraphValid.j0 k a1 (l0_0.length : Int) ((l0_2.length : Int) != (l0_0.length : Int)) l0_0 a0_1 l0_2) else (impl_GraphValid.j0 k a1 (l0_0.length : Int) true l0_0 a0_1 l0_2))) else (impl_GraphValid.j0 k a1 (l0_0.length : Int) true l0_0 a0_1 l0_2))) else (impl_GraphValid.j0 k a1 (l0_0.length : Int) true l0_0 a0_1 l0_2))
mutual
def impl_treeParts.j0 : Nat → Int → Bool → Option (Int)
  | 0, _, _ => none
  | k + 1, x3, x4 => if x4 = true then (some 2) else (if x3 = 0 then (impl_treeParts.j1 k (x3 == 0)) else (impl_treeParts.j1 k (x3 == 1)))
def impl_treeParts.j1 : Nat → Bool → Option (Int)
  | 0, _ => none
  | k + 1, x9 => if x9 = true then (some 0) else (some 1)
end
def impl_treeParts.f (k : Nat) (a0 : Int) : Option (Int) := if a0 = 3 then (impl_treeParts.j0 k a0 (a0 == 3)) else (if a0 = 4 then (impl_treeParts.j0 k a0 (a0 == 4)) else (if a0 = 6 then (impl_treeParts.j0 k a0 (a0 == 6)) else (impl_treeParts.j0 k a0 (a0 == 9))))
mutual
def impl_TreesValid.j0 : Nat → List (ITree) → Int → Bool → Option (Bool)
  | 0, _, _, _ => none
  | k + 1, x0, x1, x16 => if x16 = true then (some false) else (impl_TreesValid.l0 k x1 x0 (x0.length : Int) 0)
def impl_TreesValid.l0 : Nat → Int → List (ITree) → Int → Int → Option (Bool)
  | 0, _, _, _, _ => none
  | k + 1, x1, x17, x18, x19 => if x19 < x18 then (if 0 ≤ x19 then (if x19 < (x17.length : Int) then ((impl_in.f ((rd_ITree x17 x19).f0) 0 10).bind fun t563 => (if ((rd_ITree x17 x19).f0) = 0 then (impl_TreesValid.j2 k x1 (((rd_ITree x17 x19).f0) == 0 && (((rd_ITree x17 x19).f1) == 0 && (((rd_ITree x17 x19).f2) == 0 && (((rd_ITree x17 x19).f3) == 0)))) x17 x18 x19) else (if ((rd_ITree x17 x19).f0) = 1 then ((impl_in.f ((rd_ITree x17 x19).f1) 0 (wrap64 (x1 - 1))).bind fun t564 => (if t564 = true then (if ((rd_ITree x17 x19).f2) = 0 then (impl_TreesValid.j2 k x1 (((rd_ITree x17 x19).f3) == 0) x17 x18 x19) else (impl_TreesValid.j2 k x1 false x17 x18 x19)) else (impl_TreesValid.j2 k x1 false x17 x18 x19))) else (if t563 = true then (if ((rd_ITree x17 x19).f1) = 0 then ((impl_in.f ((rd_ITree x17 x19).f2) 0 (wrap64 (x19 - 1))).bind fun t565 => (if t565 = true then ((impl_in.f ((rd_ITree x17 x19).f3) 0 (wrap64 (x19 - 1))).bind fun t566 => (if t566 = true then (if ((rd_ITree x17 x19).f2) = ((rd_ITree x17 x19).f3) then (impl_TreesValid.j2 k x1 true x17 x18 x19) else ((impl_treeParts.f k ((rd_ITree x17 x19).f0)).bind fun t567 => (impl_TreesValid.j2 k x1 (t567 == 2) x17 x18 x19))) else (impl_TreesValid.j2 k x1 false x17 x18 x19))) else (impl_TreesValid.j2 k x1 false x17 x18 x19))) else (impl_TreesValid.j2 k x1 false x17 x18 x19)) else (impl_TreesValid.j2 k x1 t563 x17 x18 x19))))) else (none)) else (none)) else (some true)
def impl_TreesValid.j2 : Nat → Int → Bool → List (ITree) → Int → Int → Option (Bool)
  | 0, _, _, _, _, _ => none
  | k + 1, x1, x7, x17, x18, x19 => if x7 = true then (impl_TreesValid.l0 k x1 x17 x18 (wrap64 (x19 + 1))) else (some false)
end
def impl_TreesValid.f (k : Nat) (l0 : List (ITree)) (a1 : Int) : Option (Bool) := (impl_in.f a1 0 4).bind fun t559 => (if t559 = true then ((impl_in.f (l0.length : Int) 1 24).bind fun t560 => (impl_TreesValid.j0 k l0 a1 (!t560))) else (impl_TreesValid.j0 k l0 a1 true))
def slices_Equal_bool_bool.l0 : Nat → List Bool → List Bool → Int → Int → Option (Bool)
  | 0, _, _, _, _ => none
  | k + 1, x0, x1, x12, x13 => if x13 < x12 then (if 0 ≤ x13 then (if x13 < (x0.length : Int) then (if x13 < (x1.length : Int) then (if ((rdOf false x0 x13) != (rdOf false x1 x13)) = true then (some false) else (slices_Equal_bool_bool.l0 k x0 x1 x12 (wrap64 (x13 + 1)))) else (none)) else (none)) else (none)) else (some true)
def slices_Equal_bool_bool.f (k : Nat) (l0 : List Bool) (l1 : List Bool) : Option (Bool) := if (l0.length : Int) = (l1.length : Int) then (slices_Equal_bool_bool.l0 k l0 l1 (l0.length : Int) 0) else (some false)
def impl_not_1.f (a0 : Bool) (a1 : Bool) : Option (Bool) := some (!a0)
def loop_example_wholecheck_impl_each_at_impl_not_1.l0 : Nat → List Bool → List Bool → List Bool → Int → Int → Option (List Bool)
  | 0, _, _, _, _, _ => none
  | k + 1, x0, x1, x7, x13, x14 => if x14 < x13 then (if 0 ≤ x14 then (if x14 < (x0.length : Int) then (if x14 < (x1.length : Int) then ((impl_not_1.f (rdOf false x0 x14) (rdOf false x1 x14)).bind fun t575 => (if x14 < (x7.length : Int) then (loop_example_wholecheck_impl_each_at_impl_not_1.l0 k x0 x1 (x7.set (x14 : Int).toNat t575) x13 (wrap64 (x14 + 1))) else (none))) else (none)) else (none)) else (none)) else (some x7)
def loop_example_wholecheck_impl_each_at_impl_not_1.f (k : Nat) (l0 : List Bool) (l1 : List Bool)  : Option (List Bool) := if 0 ≤ (l0.length : Int) then (if ((l0.length : Int) : Int).toNat ≤ 281474976710656 then (loop_example_wholecheck_impl_each_at_impl_not_1.l0 k l0 l1 (List.replicate ((l0.length : Int) : Int).toNat false) (l0.length : Int) 0) else (none)) else (none)
def impl_not.f (k : Nat) (l0 : List Bool) : Option (List Bool) := (loop_example_wholecheck_impl_each_at_impl_not_1.f k l0 l0).bind fun t577 => (some t577)
def impl_treeRows_3.f (a0 : Bool) (a1 : Bool) : Option (Bool) := if a0 = true then (some a1) else (some false)
def impl_treeRows_4.f (a0 : Bool) (a1 : Bool) : Option (Bool) := if a0 = true then (some true) else (some a1)
def impl_listOf.l0 : Nat → List Int → List Bool → Int → Int → Option (List Int)
  | 0, _, _, _, _ => none
  | k + 1, x3, x6, x7, x8 => if x8 < x7 then (if 0 ≤ x8 then (if x8 < (x6.length : Int) then (if rdOf false x6 x8 = true then (if x3.length < 17592186044416 then (impl_listOf.l0 k (x3 ++ [x8]) x6 x7 (wrap64 (x8 + 1))) else (none)) else (impl_listOf.l0 k x3 x6 x7 (wrap64 (x8 + 1)))) else (none)) else (none)) else ((impl_clone_int.f x3).bind fun t598 => (some t598))
def impl_listOf.f (k : Nat) (l0 : List Bool) : Option (List Int) := impl_listOf.l0 k ([] : List Int) l0 (l0.length : Int) 0
def laws_eqGraph.f (k : Nat) (l0_0 : List (List Int)) (a0_1 : Int) (l0_2 : List (List Int)) (l1_0 : List (List Int)) (a1_1 : Int) (l1_2 : List (List Int)) : Option (Bool) := (laws_eqIntSS.f k l0_0 l1_0).bind fun t606 => (if t606 = true then (if a0_1 = a1_1 then ((laws_eqIntSS.f k l0_2 l1_2).bind fun t607 => (if t607 = true then (some true) else (some false))) else (some false)) else (some false))
def laws_eqTree.f (a0_0 : Int) (a0_1 : Int) (a0_2 : Int) (a0_3 : Int) (a1_0 : Int) (a1_1 : Int) (a1_2 : Int) (a1_3 : Int) : Option (Bool) := if a0_0 = a1_0 then (if a0_1 = a1_1 then (if a0_2 = a1_2 then (if a0_3 = a1_3 then (some true) else (some false)) else (some false)) else (some false)) else (some false)
def laws_eqTreeS.l0 : Nat → List (ITree) → List (ITree) → Int → Option (Bool)
  | 0, _, _, _ => none
  | k + 1, x0, x1, x5 => if x5 < (x0.length : Int) then (if 0 ≤ x5 then (if x5 < (x1.length : Int) then ((laws_eqTree.f ((rd_ITree x0 x5).f0) ((rd_ITree x0 x5).f1) ((rd_ITree x0 x5).f2) ((rd_ITree x0 x5).f3) ((rd_ITree x1 x5).f0) ((rd_ITree x1 x5).f1) ((rd_ITree x1 x5).f2) ((rd_ITree x1 x5).f3)).bind fun t612 => (if t612 = true then (laws_eqTreeS.l0 k x0 x1 (wrap64 (x5 + 1))) else (some false))) else (none)) else (none)) else (some true)
def laws_eqTreeS.f (k : Nat) (l0 : List (ITree)) (l1 : List (ITree)) : Option (Bool) := if (l0.length : Int) = (l1.length : Int) then (laws_eqTreeS.l0 k l0 l1 0) else (some false)
mutual
def impl_each_at_impl_treeRows_3.l1 : Nat → List Bool → Int → List Bool → List Bool → Option (List Bool)
  | 0, _, _, _, _ => none
  | k + 1, x7, x14, l0, l1 => if x14 < (l0.length : Int) then (if 0 ≤ x14 then (if x14 < (l0.length : Int) then (if 0 ≤ x14 then (if x14 < (l1.length : Int) then ((impl_treeRows_3.f (rdOf false l0 x14) (rdOf false l1 x14)).bind fun r1 => if 0 ≤ x14 then (if x14 < (x7.length : Int) then (impl_each_at_impl_treeRows_3.l1 k (x7.set x14.toNat r1) (wrap64 (x14 + 1)) l0 l1) else none) else none) else none) else none) else none) else none) else (some x7)
end
def impl_each_at_impl_treeRows_3.f (k : Nat) (l0 : List Bool) (l1 : List Bool) : Option (List Bool) := if 0 ≤ (l0.length : Int) then (if (l0.length : Int) ≤ 1099511627776 then (impl_each_at_impl_treeRows_3.l1 k (List.replicate (l0.length : Int).toNat false) 0 l0 l1) else none) else none
mutual
def impl_each_at_impl_treeRows_4.l1 : Nat → List Bool → Int → List Bool → List Bool → Option (List Bool)
  | 0, _, _, _, _ => none
  | k + 1, x7, x14, l0, l1 => if x14 < (l0.length : Int) then (if 0 ≤ x14 then (if x14 < (l0.length : Int) then (if 0 ≤ x14 then (if x14 < (l1.length : Int) then ((impl_treeRows_4.f (rdOf false l0 x14) (rdOf false l1 x14)).bind fun r1 => if 0 ≤ x14 then (if x14 < (x7.length : Int) then (impl_each_at_impl_treeRows_4.l1 k (x7.set x14.toNat r1) (wrap64 (x14 + 1)) l0 l1) else none) else none) else none) else none) else none) else none) else (some x7)
end
def impl_each_at_impl_treeRows_4.f (k : Nat) (l0 : List Bool) (l1 : List Bool) : Option (List Bool) := if 0 ≤ (l0.length : Int) then (if (l0.length : Int) ≤ 1099511627776 then (impl_each_at_impl_treeRows_4.l1 k (List.replicate (l0.length : Int).toNat false) 0 l0 l1) else none) else none
def impl_some_1.f (k : Nat) (a0 : Int) (l1 : List Bool) : Option Bool := if 0 ≤ a0 then (if a0 < (l1.length : Int) then (some (rdOf false l1 a0)) else none) else none
mutual
def slices_IndexFunc_int_int_at_impl_some_1.l1 : Nat → Int → List Int → List Bool → Option Int
  | 0, _, _, _ => none
  | k + 1, x8, l0, l2 => if x8 < (l0.length : Int) then (if 0 ≤ x8 then (if x8 < (l0.length : Int) then ((impl_some_1.f k (rd l0 x8) l2).bind fun r1 => if r1 = true then (some x8) else (slices_IndexFunc_int_int_at_impl_some_1.l1 k (wrap64 (x8 + 1)) l0 l2)) else none) else none) else (some (-1))
end
def slices_IndexFunc_int_int_at_impl_some_1.f (k : Nat) (l0 : List Int) (l2 : List Bool) : Option Int := slices_IndexFunc_int_int_at_impl_some_1.l1 k 0 l0 l2
def slices_ContainsFunc_int_int_at_impl_some_1.f (k : Nat) (l0 : List Int) (l2 : List Bool) : Option Bool := (slices_IndexFunc_int_int_at_impl_some_1.f k l0 l2).bind fun r1 => some (decide (r1 ≥ 0))
mutual
def impl_some.l1 : Nat → List Bool → Int → List (List Int) → List Bool → Option (List Bool)
  | 0, _, _, _, _ => none
  | k + 1, x5, x13, l0, l1 => if x13 < (l0.length : Int) then (if 0 ≤ x13 then (if x13 < (l0.length : Int) then ((slices_ContainsFunc_int_int_at_impl_some_1.f k (rd_Lint l0 x13) l1).bind fun r1 => if 0 ≤ x13 then (if x13 < (x5.length : Int) then (impl_some.l1 k (x5.set x13.toNat r1) (wrap64 (x13 + 1)) l0 l1) else none) else none) else none) else none) else (some x5)
end
def impl_some.f (k : Nat) (l0 : List (List Int)) (l1 : List Bool) : Option (List Bool) := if 0 ≤ (l0.length : Int) then (if (l0.length : Int) ≤ 1099511627776 then (impl_some.l1 k (List.replicate (l0.length : Int).toNat false) 0 l0 l1) else none) else none
def impl_treeRows_1_1_1.f (k : Nat) (a0 : Bool) (a1 : Bool) : Option Bool := if a0 = true then (some a1) else (some false)
mutual
def impl_each_at_impl_treeRows_1_1_1.l1 : Nat → List Bool → Int → List Bool → List Bool → Option (List Bool)
  | 0, _, _, _, _ => none
  | k + 1, x7, x14, l0, l1 => if x14 < (l0.length : Int) then (if 0 ≤ x14 then (if x14 < (l0.length : Int) then (if 0 ≤ x14 then (if x14 < (l1.length : Int) then ((impl_treeRows_1_1_1.f k (rdOf false l0 x14) (rdOf false l1 x14)).bind fun r1 => if 0 ≤ x14 then (if x14 < (x7.length : Int) then (impl_each_at_impl_treeRows_1_1_1.l1 k (x7.set x14.toNat r1) (wrap64 (x14 + 1)) l0 l1) else none) else none) else none) else none) else none) else none) else (some x7)
end
def impl_each_at_impl_treeRows_1_1_1.f (k : Nat) (l0 : List Bool) (l1 : List Bool) : Option (List Bool) := if 0 ≤ (l0.length : Int) then (if (l0.length : Int) ≤ 1099511627776 then (impl_each_at_impl_treeRows_1_1_1.l1 k (List.replicate (l0.length : Int).toNat false) 0 l0 l1) else none) else none
def impl_treeRows_1_1_2.f (k : Nat) (a0 : Bool) (a1 : Bool) : Option Bool := if a0 = true then (some true) else (some a1)
mutual
def impl_each_at_impl_treeRows_1_1_2.l1 : Nat → List Bool → Int → List Bool → List Bool → Option (List Bool)
  | 0, _, _, _, _ => none
  | k + 1, x7, x14, l0, l1 => if x14 < (l0.length : Int) then (if 0 ≤ x14 then (if x14 < (l0.length : Int) then (if 0 ≤ x14 then (if x14 < (l1.length : Int) then ((impl_treeRows_1_1_2.f k (rdOf false l0 x14) (rdOf false l1 x14)).bind fun r1 => if 0 ≤ x14 then (if x14 < (x7.length : Int) then (impl_each_at_impl_treeRows_1_1_2.l1 k (x7.set x14.toNat r1) (wrap64 (x14 + 1)) l0 l1) else none) else none) else none) else none) else none) else none) else (some x7)
end
def impl_each_at_impl_treeRows_1_1_2.f (k : Nat) (l0 : List Bool) (l1 : List Bool) : Option (List Bool) := if 0 ≤ (l0.length : Int) then (if (l0.length : Int) ≤ 1099511627776 then (impl_each_at_impl_treeRows_1_1_2.l1 k (List.replicate (l0.length : Int).toNat false) 0 l0 l1) else none) else none
mutual
def impl_treeRows_1_1.j1 : Nat → List Bool → List Bool → List Bool → Option (List Bool)
  | 0, _, _, _ => none
  | k + 1, x7, l3, l4 => (impl_each_at_impl_treeRows_1_1_1.f k l4 x7).bind fun r2 => (impl_each_at_impl_treeRows_1_1_2.f k l3 r2).bind fun r3 => some r3
end
def impl_treeRows_1_1.f (k : Nat) (l0 : List Bool) (l1 : List (List Int)) (a2 : Bool) (l3 : List Bool) (l4 : List Bool) : Option (List Bool) := (impl_some.f k l1 l0).bind fun r1 => if a2 = true then ((impl_not.f k l0).bind fun r4 => (impl_some.f k l1 r4).bind fun r5 => (impl_not.f k r5).bind fun r6 => impl_treeRows_1_1.j1 k r6 l3 l4) else (impl_treeRows_1_1.j1 k r1 l3 l4)
mutual
def impl_fixed_at_impl_treeRows_1_1.l1 : Nat → List Bool → List (List Int) → Bool → List Bool → List Bool → Option (List Bool)
  | 0, _, _, _, _, _ => none
  | k + 1, x0, l2, a3, l4, l5 => (impl_treeRows_1_1.f k x0 l2 a3 l4 l5).bind fun r1 => (slices_Equal_bool_bool.f k r1 x0).bind fun r2 => if r2 = true then (some x0) else (impl_fixed_at_impl_treeRows_1_1.l1 k r1 l2 a3 l4 l5)
end
def impl_fixed_at_impl_treeRows_1_1.f (k : Nat) (l0 : List Bool) (l2 : List (List Int)) (a3 : Bool) (l4 : List Bool) (l5 : List Bool) : Option (List Bool) := impl_fixed_at_impl_treeRows_1_1.l1 k l0 l2 a3 l4 l5
def impl_treeRows_1.f (k : Nat) (l0 : List Bool) (l1 : List Bool) (a2 : Bool) (l3 : List (List Int)) : Option (List Bool) := (impl_fixed_at_impl_treeRows_1_1.f k l1 l3 a2 l1 l0).bind fun r1 => some r1
def impl_treeRows_2_1_1.f (k : Nat) (a0 : Bool) (a1 : Bool) : Option Bool := if a0 = true then (some a1) else (some false)
mutual
def impl_each_at_impl_treeRows_2_1_1.l1 : Nat → List Bool → Int → List Bool → List Bool → Option (List Bool)
  | 0, _, _, _, _ => none
  | k + 1, x7, x14, l0, l1 => if x14 < (l0.length : Int) then (if 0 ≤ x14 then (if x14 < (l0.length : Int) then (if 0 ≤ x14 then (if x14 < (l1.length : Int) then ((impl_treeRows_2_1_1.f k (rdOf false l0 x14) (rdOf false l1 x14)).bind fun r1 => if 0 ≤ x14 then (if x14 < (x7.length : Int) then (impl_each_at_impl_treeRows_2_1_1.l1 k (x7.set x14.toNat r1) (wrap64 (x14 + 1)) l0 l1) else none) else none) else none) else none) else none) else none) else (some x7)
end
def impl_each_at_impl_treeRows_2_1_1.f (k : Nat) (l0 : List Bool) (l1 : List Bool) : Option (List Bool) := if 0 ≤ (l0.length : Int) then (if (l0.length : Int) ≤ 1099511627776 then (impl_each_at_impl_treeRows_2_1_1.l1 k (List.replicate (l0.length : Int).toNat false) 0 l0 l1) else none) else none
def impl_treeRows_2_1.f (k : Nat) (l0 : List Bool) (l1 : List (List Int)) (a2 : Bool) (l3 : List Bool) : Option (List Bool) := (impl_some.f k l1 l0).bind fun r1 => if a2 = true then ((impl_not.f k l0).bind fun r2 => (impl_some.f k l1 r2).bind fun r3 => (impl_not.f k r3).bind fun r4 => (impl_each_at_impl_treeRows_2_1_1.f k l3 r4).bind fun r5 => some r5) else ((impl_each_at_impl_treeRows_2_1_1.f k l3 r1).bind fun r6 => some r6)
mutual
def impl_fixed_at_impl_treeRows_2_1.l1 : Nat → List Bool → List (List Int) → Bool → List Bool → Option (List Bool)
  | 0, _, _, _, _ => none
  | k + 1, x0, l2, a3, l4 => (impl_treeRows_2_1.f k x0 l2 a3 l4).bind fun r1 => (slices_Equal_bool_bool.f k r1 x0).bind fun r2 => if r2 = true then (some x0) else (impl_fixed_at_impl_treeRows_2_1.l1 k r1 l2 a3 l4)
end
def impl_fixed_at_impl_treeRows_2_1.f (k : Nat) (l0 : List Bool) (l2 : List (List Int)) (a3 : Bool) (l4 : List Bool) : Option (List Bool) := impl_fixed_at_impl_treeRows_2_1.l1 k l0 l2 a3 l4
def impl_treeRows_2.f (k : Nat) (l0 : List Bool) (a1 : Bool) (l2 : List (List Int)) : Option (List Bool) := (impl_fixed_at_impl_treeRows_2_1.f k l0 l2 a1 l0).bind fun r1 => some r1
mutual
def impl_treeRows.l3 : Nat → List Bool → Int → List ITree → List (List Int) → List (List Int) → List (List Bool) → Int → Option (List (List Bool))
  | 0, _, _, _, _, _, _, _ => none
  | k + 1, x7hq4, x65q4, l0, l1, l2, x7, x22 => if x65q4 < ((List.replicate (l1.length : Int).toNat false).length : Int) then (if 0 ≤ x22 then (if x22 < (x7.length : Int) then (if ((rd_ITree l0 x22).f0) = 0 then (if 0 ≤ x65q4 then (if x65q4 < (x7hq4.length : Int) then (impl_treeRows.l3 k (x7hq4.set x65q4.toNat true) (wrap64 (x65q4 + 1)) l0 l1 l2 x7 x22) else none) else none) else (if 0 ≤ x65q4 then (if x65q4 < (l2.length : Int) then (if 0 ≤ ((rd_ITree l0 x22).f1) then (if ((rd_ITree l0 x22).f1) < ((rd_Lint l2 x65q4).length : Int) then (if 0 ≤ x65q4 then (if x65q4 < (x7hq4.length : Int) then (impl_treeRows.l3 k (x7hq4.set x65q4.toNat ((rd (rd_Lint l2 x65q4) ((rd_ITree l0 x22).f1)) == 1)) (wrap64 (x65q4 + 1)) l0 l1 l2 x7 x22) else none) else none) else none) else none) else none) else none)) else none) else none) else (impl_treeRows.l1 k (x7.set x22.toNat x7hq4) (wrap64 (x22 + 1)) l0 l1 l2)
def impl_treeRows.l4 : Nat → List Bool → Int → List ITree → List (List Int) → List (List Int) → List (List Bool) → Int → Option (List (List Bool))
  | 0, _, _, _, _, _, _, _ => none
  | k + 1, x7hq6, x65q6, l0, l1, l2, x7, x22 => if x65q6 < ((List.replicate (l1.length : Int).toNat false).length : Int) then (if 0 ≤ x22 then (if x22 < (x7.length : Int) then (if ((rd_ITree l0 x22).f0) = 0 then (if 0 ≤ x65q6 then (if x65q6 < (x7hq6.length : Int) then (impl_treeRows.l4 k (x7hq6.set x65q6.toNat true) (wrap64 (x65q6 + 1)) l0 l1 l2 x7 x22) else none) else none) else (if 0 ≤ x65q6 then (if x65q6 < (l2.length : Int) then (if 0 ≤ ((rd_ITree l0 x22).f1) then (if ((rd_ITree l0 x22).f1) < ((rd_Lint l2 x65q6).length : Int) then (if 0 ≤ x65q6 then (if x65q6 < (x7hq6.length : Int) then (impl_treeRows.l4 k (x7hq6.set x65q6.toNat ((rd (rd_Lint l2 x65q6) ((rd_ITree l0 x22).f1)) == 1)) (wrap64 (x65q6 + 1)) l0 l1 l2 x7 x22) else none) else none) else none) else none) else none) else none)) else none) else none) else (impl_treeRows.l1 k (x7.set x22.toNat x7hq6) (wrap64 (x22 + 1)) l0 l1 l2)
def impl_treeRows.j2 : Nat → List Bool → List Bool → List ITree → List (List Int) → List (List Int) → List (List Bool) → Int → Option (List (List Bool))
  | 0, _, _, _, _, _, _, _ => none
  | k + 1, x12q2, x13q2, l0, l1, l2, x7, x22 => if ((rd_ITree l0 x22).f0) = 0 then (if 0 ≤ (l1.length : Int) then (if (l1.length : Int) ≤ 1099511627776 then (if 0 ≤ x22 then (if x22 < (x7.length : Int) then (if 0 ≤ x22 then (if x22 < (x7.length : Int) then (impl_treeRows.l3 k (List.replicate (l1.length : Int).toNat false) 0 l0 l1 l2 x7 x22) else none) else none) else none) else none) else none) else none) else (if ((rd_ITree l0 x22).f0) = 1 then (if 0 ≤ (l1.length : Int) then (if (l1.length : Int) ≤ 1099511627776 then (if 0 ≤ x22 then (if x22 < (x7.length : Int) then (if 0 ≤ x22 then (if x22 < (x7.length : Int) then (impl_treeRows.l4 k (List.replicate (l1.length : Int).toNat false) 0 l0 l1 l2 x7 x22) else none) else none) else none) else none) else none) else none) else (if ((rd_ITree l0 x22).f0) = 2 then ((impl_not.f k x12q2).bind fun r1 => if 0 ≤ x22 then (if x22 < (x7.length : Int) then (impl_treeRows.l1 k (x7.set x22.toNat r1) (wrap64 (x22 + 1)) l0 l1 l2) else none) else none) else (if ((rd_ITree l0 x22).f0) = 3 then ((impl_each_at_impl_treeRows_3.f k x12q2 x13q2).bind fun r2 => if 0 ≤ x22 then (if x22 < (x7.length : Int) then (impl_treeRows.l1 k (x7.set x22.toNat r2) (wrap64 (x22 + 1)) l0 l1 l2) else none) else none) else (if ((rd_ITree l0 x22).f0) = 4 then ((impl_each_at_impl_treeRows_4.f k x12q2 x13q2).bind fun r3 => if 0 ≤ x22 then (if x22 < (x7.length : Int) then (impl_treeRows.l1 k (x7.set x22.toNat r3) (wrap64 (x22 + 1)) l0 l1 l2) else none) else none) else (if ((rd_ITree l0 x22).f0) = 5 then ((impl_some.f k l1 x12q2).bind fun r4 => if 0 ≤ x22 then (if x22 < (x7.length : Int) then (impl_treeRows.l1 k (x7.set x22.toNat r4) (wrap64 (x22 + 1)) l0 l1 l2) else none) else none) else (if ((rd_ITree l0 x22).f0) = 8 then ((impl_not.f k x12q2).bind fun r5 => (impl_some.f k l1 r5).bind fun r6 => (impl_not.f k r6).bind fun r7 => if 0 ≤ x22 then (if x22 < (x7.length : Int) then (impl_treeRows.l1 k (x7.set x22.toNat r7) (wrap64 (x22 + 1)) l0 l1 l2) else none) else none) else (if ((rd_ITree l0 x22).f0) = 6 then ((impl_treeRows_1.f k x12q2 x13q2 (((rd_ITree l0 x22).f0) == 9) l1).bind fun r8 => if 0 ≤ x22 then (if x22 < (x7.length : Int) then (impl_treeRows.l1 k (x7.set x22.toNat r8) (wrap64 (x22 + 1)) l0 l1 l2) else none) else none) else (if ((rd_ITree l0 x22).f0) = 9 then ((impl_treeRows_1.f k x12q2 x13q2 (((rd_ITree l0 x22).f0) == 9) l1).bind fun r9 => if 0 ≤ x22 then (if x22 < (x7.length : Int) then (impl_treeRows.l1 k (x7.set x22.toNat r9) (wrap64 (x22 + 1)) l0 l1 l2) else none) else none) else ((impl_treeRows_2.f k x12q2 (((rd_ITree l0 x22).f0) == 10) l1).bind fun r10 => if 0 ≤ x22 then (if x22 < (x7.length : Int) then (impl_treeRows.l1 k (x7.set x22.toNat r10) (wrap64 (x22 + 1)) l0 l1 l2) else none) else none)))))))))
def impl_treeRows.l1 : Nat → List (List Bool) → Int → List ITree → List (List Int) → List (List Int) → Option (List (List Bool))
  | 0, _, _, _, _, _ => none
  | k + 1, x7, x22, l0, l1, l2 => if x22 < (l0.length : Int) then (if 0 ≤ x22 then (if x22 < (l0.length : Int) then (if ((rd_ITree l0 x22).f0) > 1 then (if 0 ≤ ((rd_ITree l0 x22).f2) then (if ((rd_ITree l0 x22).f2) < (x7.length : Int) then (if 0 ≤ ((rd_ITree l0 x22).f3) then (if ((rd_ITree l0 x22).f3) < (x7.length : Int) then (impl_treeRows.j2 k (rd_Lbool x7 ((rd_ITree l0 x22).f2)) (rd_Lbool x7 ((rd_ITree l0 x22).f3)) l0 l1 l2 x7 x22) else none) else none) else none) else none) else (impl_treeRows.j2 k ([] : List Bool) ([] : List Bool) l0 l1 l2 x7 x22)) else none) else none) else (some x7)
end
def impl_treeRows.f (k : Nat) (l0 : List ITree) (l1 : List (List Int)) (l2 : List (List Int)) : Option (List (List Bool)) := if 0 ≤ (l0.length : Int) then (if (l0.length : Int) ≤ 1099511627776 then (impl_treeRows.l1 k (List.replicate (l0.length : Int).toNat ([] : List Bool)) 0 l0 l1 l2) else none) else none
def impl_TreesOn.f (k : Nat) (l0_0 : List (List Int)) (a0_1 : Int) (l0_2 : List (List Int)) (a1 : Int) (l2 : List ITree) : Option (List Int) := (impl_GraphValid.f k l0_0 a0_1 l0_2 a1).bind fun r1 => if r1 = true then ((impl_TreesValid.f k l2 a1).bind fun r2 => if r2 = true then ((impl_treeRows.f k l2 l0_2 l0_0).bind fun r3 => if 0 ≤ (wrap64 ((r3.length : Int) - 1)) then (if (wrap64 ((r3.length : Int) - 1)) < (r3.length : Int) then ((impl_listOf.f k (rd_Lbool r3 (wrap64 ((r3.length : Int) - 1)))).bind fun r4 => some r4) else none) else none) else (some ([] : List Int))) else (some ([] : List Int))
end Go.Proofs.Ytikjlbanfbkhmaa.PA
