/- Types and the Lean functions that the walks are told against. No conditions. -/
import Derived.Test.YtblhlpllkpcolaaProg
import Derived.Below
import Derived.Deep.Draws
import Derived.Deep.AppendLies
import Derived.Maps.AppendAt
import Derived.OwnWalk
import Derived.Laws.BytesArg
import Derived.Laws.MakeOwn
import Derived.Laws.OwnMore
import Derived.Deep.OwnRows
import Derived.Tactics
import Derived.Lib.ConvBytes
import Derived.Laws.Slices
import Derived.WalkKit
import Derived.KernelRfl
import Derived.RowKit3
import Derived.Deep.LoopGhost
import Derived.Deep.QuietTactic
import Derived.BigQuiet
import Derived.WideLaws
import Derived.Deep.DeepCutAuto
import Derived.Deep.CutBlock
import Derived.Deep.RegionHeld3
import Derived.Laws.Rows
import Derived.Lib.AppendStr
import Derived.ArgAppend
import Derived.Laws.IdiomCopy
import Derived.OrdersHeld
import Derived.Laws.BitsLemmas
import Derived.RowKit
import Derived.Laws.StructEq
import Derived.Lib.SliceRun
import Derived.WalkSpells
import Derived.ChangeArms
import Derived.ChangeSlices
import Derived.Deep.Slices
import Derived.Test.YtblhlpllkpcolaaKD9348bb7ef9
import Derived.Test.YtblhlpllkpcolaaKW32ed07a226
namespace Go.Proofs.Ytblhlpllkpcolaa.PA
open Go.RowKit Go.Proofs.YtblhlpllkpcolaaW.PrintWords Go.Proofs.YtblhlpllkpcolaaW.PrintLast Go.Proofs.YtblhlpllkpcolaaW.PrintMore
attribute [local go_sem] max2_int min2_int max_two min_two max_three min_three max_four min_four   -- for this text's walks alone
set_option linter.unusedVariables false
set_option linter.unusedSimpArgs false
def laws_eqIntSS.l0 : Nat → List (List Int) → List (List Int) → Int → Option (Bool)
  | 0, _, _, _ => none
  | k + 1, x0, x1, x5 => if x5 < (x0.length : Int) then (if 0 ≤ x5 then (if x5 < (x1.length : Int) then ((laws_eqIntS.f k (rd_Lint x0 x5) (rd_Lint x1 x5)).bind fun t601 => (if t601 = true then (laws_eqIntSS.l0 k x0 x1 (wrap64 (x5 + 1))) else (some false))) else (none)) else (none)) else (some true)
def laws_eqIntSS.f (k : Nat) (l0 : List (List Int)) (l1 : List (List Int)) : Option (Bool) := if (l0.length : Int) = (l1.length : Int) then (laws_eqIntSS.l0 k l0 l1 0) else (some false)
def spec_l6Are.l0 : Nat → List Int → Int → Option (Bool)
  | 0, _, _ => none
  | k + 1, x0, x3 => if x3 < (x0.length : Int) then (if 0 ≤ x3 then ((spec_l1In.f (rd x0 x3) 0 1).bind fun t721 => (if t721 = true then (spec_l6Are.l0 k x0 (wrap64 (x3 + 1))) else (some false))) else (none)) else (some true)
def spec_l6Are.f (k : Nat) (l0 : List Int) : Option (Bool) := spec_l6Are.l0 k l0 0
def spec_l6Many.l0 : Nat → Int → Int → Int → Option (Int)
  | 0, _, _, _ => none
  | k + 1, x0, x3, x4 => if x4 < x0 then (spec_l6Many.l0 k x0 (wrap64 (x3 + 1)) (wrap64 (x4 * 2))) else (some x3)
def spec_l6Many.f (k : Nat) (a0 : Int) : Option (Int) := spec_l6Many.l0 k a0 0 1
def spec_l6Widths.l0 : Nat → List Int → Int → List (IVar) → List (IRule) → Option (List Int)
  | 0, _, _, _, _ => none
  | k + 1, x3, x4, x723000, x723001 => if x4 < (x723000.length : Int) then (if 0 ≤ x4 then ((spec_l6Many.f k (wrap64 ((wrap64 (((rd_IVar x723000 x4).f1) - ((rd_IVar x723000 x4).f0))) + 1))).bind fun t728 => (if x3.length < 17592186044416 then (spec_l6Widths.l0 k (x3 ++ [t728]) (wrap64 (x4 + 1)) x723000 x723001) else (none))) else (none)) else (some x3)
def spec_l6Widths.f (k : Nat) (l0_0 : List (IVar)) (l0_1 : List (IRule)) : Option (List Int) := spec_l6Widths.l0 k (([] : List Int)) 0 l0_0 l0_1
def spec_l6Sum.l0 : Nat → List Int → Int → Int → Option (Int)
  | 0, _, _, _ => none
  | k + 1, x0, x3, x4 => if x4 < (x0.length : Int) then (if 0 ≤ x4 then (spec_l6Sum.l0 k x0 (wrap64 (x3 + (rd x0 x4))) (wrap64 (x4 + 1))) else (none)) else (some x3)
def spec_l6Sum.f (k : Nat) (l0 : List Int) : Option (Int) := spec_l6Sum.l0 k l0 0 0
def spec_l6Number.l0 : Nat → List Int → Int → Int → Option (Int)
  | 0, _, _, _ => none
  | k + 1, x0, x3, x4 => if x4 < (x0.length : Int) then (if 0 ≤ x4 then (spec_l6Number.l0 k x0 (wrap64 ((wrap64 (x3 * 2)) + (rd x0 x4))) (wrap64 (x4 + 1))) else (none)) else (some x3)
def spec_l6Number.f (k : Nat) (l0 : List Int) : Option (Int) := spec_l6Number.l0 k l0 0 0
mutual
def spec_BitsState.j0 : Nat → List Int → Bool → List (IVar) → List (IRule) → Option (List Int)
  | 0, _, _, _, _ => none
  | k + 1, x1, x16, x735000, x735001 => if x16 = true then (some ([] : List Int)) else ((spec_l6Widths.f k x735000 x735001).bind fun t737 => ((spec_l6Sum.f k t737).bind fun t740 => (if (x1.length : Int) = t740 then (spec_BitsState.l0 k x1 t737 (([] : List Int)) 0 0 x735000 x735001) else (some ([] : List Int)))))
def spec_BitsState.l0 : Nat → List Int → List Int → List Int → Int → Int → List (IVar) → List (IRule) → Option (List Int)
  | 0, _, _, _, _, _, _, _ => none
  | k + 1, x1, x5, x6, x7, x8, x735000, x735001 => if x8 < (x5.length : Int) then (if 0 ≤ x8 then (if x8 < (x735000.length : Int) then (if 0 ≤ x7 then (if x7 ≤ (wrap64 (x7 + (rd x5 x8))) then (if (wrap64 (x7 + (rd x5 x8))) ≤ (x1.length : Int) then ((spec_l6Number.f k ((x1.take ((wrap64 (x7 + (rd x5 x8))) : Int).toNat).drop (x7 : Int).toNat)).bind fun t747 => (if x6.length < 17592186044416 then (spec_BitsState.l0 k x1 x5 (x6 ++ [wrap64 (((rd_IVar x735000 x8).f0) + t747)]) (wrap64 (x7 + (rd x5 x8))) (wrap64 (x8 + 1)) x735000 x735001) else (none))) else (none)) else (none)) else (none)) else (none)) else (none)) else ((spec_l2In.f k x735000 x735001 x6).bind fun t752 => (if t752 = true then (some x6) else (some ([] : List Int))))
end
def spec_BitsState.f (k : Nat) (l0_0 : List (IVar)) (l0_1 : List (IRule)) (l1 : List Int) : Option (List Int) := (spec_SystemValid.f k l0_0 l0_1).bind fun t735 => (if t735 = true then ((spec_l6Are.f k l1).bind fun t736 => (spec_BitsState.j0 k l1 (!t736) l0_0 l0_1)) else (spec_BitsState.j0 k l1 true l0_0 l0_1))
def impl_bitsFor.l0 : Nat → Int → Int → Option (Int)
  | 0, _, _ => none
  | k + 1, x0, x3 => if 0 ≤ x3 then (if (shl .i64 1 x3) < x0 then (impl_bitsFor.l0 k x0 (wrap64 (x3 + 1))) else (some x3)) else (none)
def impl_bitsFor.f (k : Nat) (a0 : Int) : Option (Int) := impl_bitsFor.l0 k a0 0
def impl_bitsOf.l0 : Nat → List Int → List (IVar) → Int → Int → Option (List Int)
  | 0, _, _, _, _ => none
  | k + 1, x3, x7, x8, x9 => if x9 < x8 then (if 0 ≤ x9 then (if x9 < (x7.length : Int) then ((impl_bitsFor.f k (wrap64 ((wrap64 (((rd_IVar x7 x9).f1) - ((rd_IVar x7 x9).f0))) + 1))).bind fun t756 => (if x3.length < 17592186044416 then (impl_bitsOf.l0 k (x3 ++ [t756]) x7 x8 (wrap64 (x9 + 1))) else (none))) else (none)) else (none)) else ((impl_clone_int.f x3).bind fun t760 => (some t760))
def impl_bitsOf.f (k : Nat) (l0_0 : List (IVar)) (l0_1 : List (IRule)) : Option (List Int) := impl_bitsOf.l0 k ([] : List Int) l0_0 (l0_0.length : Int) 0
def impl_bitCount.l0 : Nat → Int → List Int → Int → Int → Option (Int)
  | 0, _, _, _, _ => none
  | k + 1, x3, x7, x8, x9 => if x9 < x8 then (if 0 ≤ x9 then (if x9 < (x7.length : Int) then (impl_bitCount.l0 k (wrap64 (x3 + (rd x7 x9))) x7 x8 (wrap64 (x9 + 1))) else (none)) else (none)) else (some x3)
def impl_bitCount.f (k : Nat) (l0_0 : List (IVar)) (l0_1 : List (IRule)) : Option (Int) := (impl_bitsOf.f k l0_0 l0_1).bind fun t764 => (impl_bitCount.l0 k 0 t764 (t764.length : Int) 0)
def impl_bitsValid_1.f (a0 : Int) : Option (Bool) := (impl_in.f a0 0 1).bind fun t768 => (some (!t768))
def slices_IndexFunc_at_impl_bitsValid_1.l0 : Nat → List Int → Int → Int → Option (Int)
  | 0, _, _, _ => none
  | k + 1, x0, x7, x8 => if x8 < x7 then (if 0 ≤ x8 then (if x8 < (x0.length : Int) then ((impl_bitsValid_1.f (rd x0 x8)).bind fun t770 => (if t770 = true then (some x8) else (slices_IndexFunc_at_impl_bitsValid_1.l0 k x0 x7 (wrap64 (x8 + 1))))) else (none)) else (none)) else (some (-1))
def slices_IndexFunc_at_impl_bitsValid_1.f (k : Nat) (l0 : List Int)  : Option (Int) := slices_IndexFunc_at_impl_bitsValid_1.l0 k l0 (l0.length : Int) 0
def slices_ContainsFunc_at_impl_bitsValid_1.f (k : Nat) (l0 : List Int)  : Option (Bool) := (slices_IndexFunc_at_impl_bitsValid_1.f k l0).bind fun t771 => (some (decide (t771 ≥ 0)))
def impl_bitsValid.f (k : Nat) (l0 : List Int) : Option (Bool) := (slices_ContainsFunc_at_impl_bitsValid_1.f k l0).bind fun t772 => (some (!t772))
def impl_bitsValue.l0 : Nat → Int → List Int → Int → Int → Option (Int)
  | 0, _, _, _, _ => none
  | k + 1, x3, x6, x7, x8 => if x8 < x7 then (if 0 ≤ x8 then (if x8 < (x6.length : Int) then (impl_bitsValue.l0 k (wrap64 ((wrap64 (2 * x3)) + (rd x6 x8))) x6 x7 (wrap64 (x8 + 1))) else (none)) else (none)) else (some x3)
def impl_bitsValue.f (k : Nat) (l0 : List Int) : Option (Int) := impl_bitsValue.l0 k 0 l0 (l0.length : Int) 0
mutual
def impl_bitsState.j0 : Nat → List Int → Bool → List (IVar) → List (IRule) → Option (List Int × Bool)
  | 0, _, _, _, _ => none
  | k + 1, x1, x18, x775000, x775001 => if x18 = true then (some (([] : List Int), false)) else ((impl_bitsOf.f k x775000 x775001).bind fun t777 => (impl_bitsState.l0 k x1 ([] : List Int) t777 (t777.length : Int) 0 x775000 x775001))
def impl_bitsState.l0 : Nat → List Int → List Int → List Int → Int → Int → List (IVar) → List (IRule) → Option (List Int × Bool)
  | 0, _, _, _, _, _, _, _ => none
  | k + 1, x1, x6, x20, x21, x22, x775000, x775001 => if x22 < x21 then (if 0 ≤ x22 then (if x22 < (x20.length : Int) then (if x22 < (x775000.length : Int) then (if 0 ≤ (rd x20 x22) then (if (rd x20 x22) ≤ (x1.length : Int) then ((impl_bitsValue.f k (x1.take ((rd x20 x22) : Int).toNat)).bind fun t787 => (if x6.length < 17592186044416 then (impl_bitsState.l0 k (x1.drop ((rd x20 x22) : Int).toNat) (x6 ++ [wrap64 (((rd_IVar x775000 x22).f0) + t787)]) x20 x21 (wrap64 (x22 + 1)) x775000 x775001) else (none))) else (none)) else (none)) else (none)) else (none)) else (none)) else ((impl_clone_int.f x6).bind fun t796 => ((impl_inRange.f k x775000 x775001 x6).bind fun t799 => (some (t796, t799))))
end
def impl_bitsState.f (k : Nat) (l0_0 : List (IVar)) (l0_1 : List (IRule)) (l1 : List Int) : Option (List Int × Bool) := (impl_bitCount.f k l0_0 l0_1).bind fun t775 => (if (l1.length : Int) = t775 then ((impl_bitsValid.f k l1).bind fun t776 => (impl_bitsState.j0 k l1 (!t776) l0_0 l0_1)) else (impl_bitsState.j0 k l1 true l0_0 l0_1))
def laws_markIntS.l0 : Nat → List Int → Int → Int → Option (Int × List Int)
  | 0, _, _, _ => none
  | k + 1, x0, x1, x5 => if x5 < (x0.length : Int) then (if 0 ≤ x5 then (laws_markIntS.l0 k (x0.set (x5 : Int).toNat x1) (wrap64 (x1 + 1)) (wrap64 (x5 + 1))) else (none)) else (some (x1, x0))
def laws_markIntS.f (k : Nat) (l0 : List Int) (a1 : Int) : Option (Int × List Int) := laws_markIntS.l0 k l0 a1 0
def laws_heldIntS.l0 : Nat → List Int → Int → Int → Option (Int)
  | 0, _, _, _ => none
  | k + 1, x0, x1, x5 => if x5 < (x0.length : Int) then (if 0 ≤ x5 then (if (rd x0 x5) = x1 then (laws_heldIntS.l0 k x0 (wrap64 (x1 + 1)) (wrap64 (x5 + 1))) else (some (-1))) else (none)) else (some x1)
def laws_heldIntS.f (k : Nat) (l0 : List Int) (a1 : Int) : Option (Int) := laws_heldIntS.l0 k l0 a1 0
def impl_clone_Lint.f (l0 : List (List Int)) : Option (List (List Int)) := if l0.length ≤ 5864062014805 then some l0 else none
def laws_markIntSS.f (k : Nat) : List (List Int) → Int → Option (Int × List (List Int))
  | [], a => some (a, [])
  | x :: l, a => (laws_markIntS.f k x a).bind fun p => (laws_markIntSS.f k l p.1).bind fun q => some (q.1, p.2 :: q.2)
def laws_heldIntSS.l0 : Nat → List (List Int) → Int → Int → Option (Int)
  | 0, _, _, _ => none
  | k + 1, x0, x1, x5 => if x5 < (x0.length : Int) then (if 0 ≤ x5 then ((laws_heldIntS.f k (rd_Lint x0 x5) x1).bind fun t979 => (if t979 < 0 then (some (-1)) else (laws_heldIntSS.l0 k x0 t979 (wrap64 (x5 + 1))))) else (none)) else (some x1)
def laws_heldIntSS.f (k : Nat) (l0 : List (List Int)) (a1 : Int) : Option (Int) := laws_heldIntSS.l0 k l0 a1 0
def spec_BitsOf.f (k : Nat) (l0_0 : List (IVar)) (l0_1 : List (IRule)) : Option (List Int) := (spec_SystemValid.f k l0_0 l0_1).bind fun t1205 => (if t1205 = true then ((spec_l6Widths.f k l0_0 l0_1).bind fun t1206 => (some t1206)) else (some ([] : List Int)))
def spec_Narrow.f (k : Nat) (l0_0 : List (IVar)) (l0_1 : List (IRule)) : Option (Bool) := (spec_SystemValid.f k l0_0 l0_1).bind fun t1210 => (if t1210 = true then ((spec_l6Widths.f k l0_0 l0_1).bind fun t1211 => ((spec_l6Sum.f k t1211).bind fun t1214 => (some (decide (t1214 ≤ 6))))) else (some false))
mutual
def spec_PathStates.j0 : Nat → Int → List Int → Int → Bool → List (IVar) → List (IRule) → Option ((List (List Int)))
  | 0, _, _, _, _, _, _ => none
  | k + 1, x1, x2, x7, x35, x1216000, x1216001 => if x35 = true then (some ([] : List (List Int))) else (spec_PathStates.l0 k x1 x2 x7 (([] : List (List Int))) 0 x1216000 x1216001)
def spec_PathStates.l0 : Nat → Int → List Int → Int → List (List Int) → Int → List (IVar) → List (IRule) → Option ((List (List Int)))
  | 0, _, _, _, _, _, _, _ => none
  | k + 1, x1, x2, x7, x8, x9, x1216000, x1216001 => if x9 ≤ x1 then (if 0 ≤ (wrap64 (x9 * x7)) then (if (wrap64 (x9 * x7)) ≤ (wrap64 ((wrap64 (x9 + 1)) * x7)) then (if (wrap64 ((wrap64 (x9 + 1)) * x7)) ≤ (x2.length : Int) then ((spec_BitsState.f k x1216000 x1216001 ((x2.take ((wrap64 ((wrap64 (x9 + 1)) * x7)) : Int).toNat).drop ((wrap64 (x9 * x7)) : Int).toNat)).bind fun t1227 => (if (t1227.length : Int) = 0 then (some ([] : List (List Int))) else (if x8.length < 5864062014805 then (spec_PathStates.l0 k x1 x2 x7 (x8 ++ [t1227]) (wrap64 (x9 + 1)) x1216000 x1216001) else (none)))) else (none)) else (none)) else (none)) else (some x8)
end
def spec_PathStates.f (k : Nat) (l0_0 : List (IVar)) (l0_1 : List (IRule)) (a1 : Int) (l2 : List Int) : Option ((List (List Int))) := (spec_BitsOf.f k l0_0 l0_1).bind fun t1216 => ((spec_l6Sum.f k t1216).bind fun t1219 => ((spec_Narrow.f k l0_0 l0_1).bind fun t1220 => (if t1220 = true then ((spec_l1In.f a1 0 6).bind fun t1221 => (if t1221 = true then (if (l2.length : Int) < (wrap64 ((wrap64 (a1 + 1)) * t1219)) then (spec_PathStates.j0 k a1 l2 t1219 true l0_0 l0_1) else ((spec_l6Are.f k l2).bind fun t1222 => (spec_PathStates.j0 k a1 l2 t1219 (!t1222) l0_0 l0_1))) else (spec_PathStates.j0 k a1 l2 t1219 true l0_0 l0_1))) else (spec_PathStates.j0 k a1 l2 t1219 true l0_0 l0_1))))
def impl_narrow.f (k : Nat) (l0_0 : List (IVar)) (l0_1 : List (IRule)) : Option (Bool) := (impl_SystemValid.f k l0_0 l0_1).bind fun t1234 => (if t1234 = true then ((impl_bitCount.f k l0_0 l0_1).bind fun t1235 => (some (decide (t1235 ≤ 6)))) else (some false))
def impl_pathStates.l0 : Nat → List Int → Int → List (List Int) → Int → Int → List (IVar) → List (IRule) → Option ((List (List Int)))
  | 0, _, _, _, _, _, _, _ => none
  | k + 1, x2, x7, x8, x15, x16, x1237000, x1237001 => if x16 < x15 then (if 0 ≤ (wrap64 (x16 * x7)) then (if (wrap64 (x16 * x7)) ≤ (wrap64 ((wrap64 (x16 + 1)) * x7)) then (if (wrap64 ((wrap64 (x16 + 1)) * x7)) ≤ (x2.length : Int) then ((impl_bitsState.f k x1237000 x1237001 ((x2.take ((wrap64 ((wrap64 (x16 + 1)) * x7)) : Int).toNat).drop ((wrap64 (x16 * x7)) : Int).toNat)).bind fun bt1239 => (if bt1239.2 = true then (if x8.length < 5864062014805 then (impl_pathStates.l0 k x2 x7 (x8 ++ [bt1239.1]) x15 (wrap64 (x16 + 1)) x1237000 x1237001) else (none)) else (some ([] : List (List Int))))) else (none)) else (none)) else (none)) else ((impl_clone_Lint.f x8).bind fun t1246 => (some t1246))
def impl_pathStates.f (k : Nat) (l0_0 : List (IVar)) (l0_1 : List (IRule)) (a1 : Int) (l2 : List Int) : Option ((List (List Int))) := (impl_bitCount.f k l0_0 l0_1).bind fun t1237 => (impl_pathStates.l0 k l2 t1237 ([] : List (List Int)) (wrap64 (a1 + 1)) 0 l0_0 l0_1)
def impl_PathStates.j0 : Nat → Int → List Int → Bool → List (IVar) → List (IRule) → Option ((List (List Int)))
  | 0, _, _, _, _, _ => none
  | k + 1, x1, x2, x29, x1250000, x1250001 => if x29 = true then (some ([] : List (List Int))) else ((impl_pathStates.f k x1250000 x1250001 x1 x2).bind fun t1254 => (some t1254))
def impl_PathStates.f (k : Nat) (l0_0 : List (IVar)) (l0_1 : List (IRule)) (a1 : Int) (l2 : List Int) : Option ((List (List Int))) := (impl_narrow.f k l0_0 l0_1).bind fun t1250 => (if t1250 = true then ((impl_in.f a1 0 6).bind fun t1251 => (if t1251 = true then ((impl_bitCount.f k l0_0 l0_1).bind fun t1252 => (if (l2.length : Int) < (wrap64 ((wrap64 (a1 + 1)) * t1252)) then (impl_PathStates.j0 k a1 l2 true l0_0 l0_1) else ((impl_bitsValid.f k l2).bind fun t1253 => (impl_PathStates.j0 k a1 l2 (!t1253) l0_0 l0_1)))) else (impl_PathStates.j0 k a1 l2 true l0_0 l0_1))) else (impl_PathStates.j0 k a1 l2 true l0_0 l0_1))
end Go.Proofs.Ytblhlpllkpcolaa.PA
