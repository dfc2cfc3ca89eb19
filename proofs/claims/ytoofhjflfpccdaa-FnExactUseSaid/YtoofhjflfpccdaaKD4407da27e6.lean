/- Types and the Lean functions that the walks are told against. No conditions. -/
import Derived.Test.YtoofhjflfpccdaaProg
import Derived.Below
import Derived.Deep.Draws
import Derived.Deep.AppendLies
import Derived.Maps.AppendAt
import Derived.OwnWalk
import Derived.Laws.BytesArg
import Derived.Laws.MakeOwn
import Derived.Laws.OwnMore
import Derived.Deep.OwnRows
import Derived.Tactics
import Derived.Lib.ConvBytes
import Derived.Laws.Slices
import Derived.WalkKit
import Derived.KernelRfl
import Derived.RowKit3
import Derived.Deep.LoopGhost
import Derived.Deep.QuietTactic
import Derived.BigQuiet
import Derived.WideLaws
import Derived.Deep.DeepCutAuto
import Derived.Deep.CutBlock
import Derived.Deep.RegionHeld3
import Derived.Laws.Rows
import Derived.Lib.AppendStr
import Derived.ArgAppend
import Derived.Laws.IdiomCopy
import Derived.OrdersHeld
import Derived.Laws.BitsLemmas
import Derived.RowKit
import Derived.Laws.StructEq
import Derived.Lib.SliceRun
import Derived.WalkSpells
import Derived.ChangeArms
import Derived.ChangeSlices
import Derived.Deep.Slices
import Derived.Test.YtoofhjflfpccdaaKD35d9d1ced7
import Derived.Test.YtoofhjflfpccdaaKWc58c91fc2c
namespace Go.Proofs.Ytoofhjflfpccdaa.PA
open Go.RowKit Go.Proofs.YtoofhjflfpccdaaW.PrintWords Go.Proofs.YtoofhjflfpccdaaW.PrintLast Go.Proofs.YtoofhjflfpccdaaW.PrintMore
attribute [local go_sem] max2_int min2_int max_two min_two max_three min_three max_four min_four   -- for this text's walks alone
set_option linter.unusedVariables false
set_option linter.unusedSimpArgs false
def impl_clone_int.f (l0 : List Int) : Option (List Int) := if l0.length ≤ 35184372088832 then some l0 else none
def laws_markIntS.l0 : Nat → List Int → Int → Int → Option (Int × List Int)
  | 0, _, _, _ => none
  | k + 1, x0, x1, x5 => if x5 < (x0.length : Int) then (if 0 ≤ x5 then (laws_markIntS.l0 k (x0.set (x5 : Int).toNat x1) (wrap64 (x1 + 1)) (wrap64 (x5 + 1))) else (none)) else (some (x1, x0))
def laws_markIntS.f (k : Nat) (l0 : List Int) (a1 : Int) : Option (Int × List Int) := laws_markIntS.l0 k l0 a1 0
def laws_heldIntS.l0 : Nat → List Int → Int → Int → Option (Int)
  | 0, _, _, _ => none
  | k + 1, x0, x1, x5 => if x5 < (x0.length : Int) then (if 0 ≤ x5 then (if (rd x0 x5) = x1 then (laws_heldIntS.l0 k x0 (wrap64 (x1 + 1)) (wrap64 (x5 + 1))) else (some (-1))) else (none)) else (some x1)
def laws_heldIntS.f (k : Nat) (l0 : List Int) (a1 : Int) : Option (Int) := laws_heldIntS.l0 k l0 a1 0
def spec_l2In.l0 : Nat → List Int → Int → List (IVar) → List (IRule) → Option (Bool)
  | 0, _, _, _, _ => none
  | k + 1, x1, x5, x436000, x436001 => if x5 < (x1.length : Int) then (if 0 ≤ x5 then (if x5 < (x436000.length : Int) then ((spec_l1In.f (rd x1 x5) ((rd_IVar x436000 x5).f0) ((rd_IVar x436000 x5).f1)).bind fun t439 => (if t439 = true then (spec_l2In.l0 k x1 (wrap64 (x5 + 1)) x436000 x436001) else (some false))) else (none)) else (none)) else (some true)
def spec_l2In.f (k : Nat) (l0_0 : List (IVar)) (l0_1 : List (IRule)) (l1 : List Int) : Option (Bool) := if (l1.length : Int) = (l0_0.length : Int) then (spec_l2In.l0 k l1 0 l0_0 l0_1) else (some false)
def spec_InRange.f (k : Nat) (l0_0 : List (IVar)) (l0_1 : List (IRule)) (l1 : List Int) : Option (Bool) := (spec_SystemValid.f k l0_0 l0_1).bind fun t441 => (if t441 = true then ((spec_l2In.f k l0_0 l0_1 l1).bind fun t442 => (some t442)) else (some false))
def impl_inRange.l0 : Nat → List Int → List (IVar) → Int → Int → Option (Bool)
  | 0, _, _, _, _ => none
  | k + 1, x1, x14, x15, x16 => if x16 < x15 then (if 0 ≤ x16 then (if x16 < (x14.length : Int) then (if x16 < (x1.length : Int) then ((impl_in.f (rd x1 x16) ((rd_IVar x14 x16).f0) ((rd_IVar x14 x16).f1)).bind fun t455 => (if t455 = true then (impl_inRange.l0 k x1 x14 x15 (wrap64 (x16 + 1))) else (some false))) else (none)) else (none)) else (none)) else (some true)
def impl_inRange.f (k : Nat) (l0_0 : List (IVar)) (l0_1 : List (IRule)) (l1 : List Int) : Option (Bool) := if (l1.length : Int) = (l0_0.length : Int) then (impl_inRange.l0 k l1 l0_0 (l0_0.length : Int) 0) else (some false)
def impl_InRange.f (k : Nat) (l0_0 : List (IVar)) (l0_1 : List (IRule)) (l1 : List Int) : Option (Bool) := (impl_SystemValid.f k l0_0 l0_1).bind fun t457 => (if t457 = true then ((impl_inRange.f k l0_0 l0_1 l1).bind fun t458 => (some t458)) else (some false))
def impl_bit.f (a0 : Bool) : Option (Int) := if a0 = true then (some 1) else (some 0)
def spec_l1Held.f (a0 : Int) : Option (Int) := if a0 > 9999 then (some 9999) else (if a0 < (-9999) then (some (-9999)) else (some a0))
def spec_l1Truth.f (a0 : Bool) : Option (Int) := if a0 = true then (some 1) else (some 0)
def spec_l1Do.f (a0 : Int) (a1 : Int) (a2 : Int) : Option (Int) := if a0 = 2 then ((spec_l1Held.f (wrap64 (a1 + a2))).bind fun t771 => (some t771)) else (if a0 = 3 then ((spec_l1Held.f (wrap64 (a1 - a2))).bind fun t772 => (some t772)) else (if a0 = 4 then ((spec_l1Held.f (wrap64 (a1 * a2))).bind fun t773 => (some t773)) else (if a0 = 5 then ((spec_l1Truth.f (decide (a1 < a2))).bind fun t774 => (some t774)) else (if a0 = 6 then ((spec_l1Truth.f (a1 == a2)).bind fun t775 => (some t775)) else (if a0 = 7 then (some (wrap64 (1 - a1))) else (if a0 = 8 then (some (wrap64 (a1 * a2))) else ((spec_l1Truth.f (decide ((wrap64 (a1 + a2)) > 0))).bind fun t776 => (some t776))))))))
def spec_l1Values.l0 : Nat → List (ITerm) → List Int → List Int → Int → Option (List Int)
  | 0, _, _, _, _ => none
  | k + 1, x0, x1, x5, x6 => if x6 < (x0.length : Int) then (if 0 ≤ x6 then (if ((rd_ITerm x0 x6).f0) = 0 then (if x5.length < 17592186044416 then (spec_l1Values.l0 k x0 x1 (x5 ++ [(rd_ITerm x0 x6).f1]) (wrap64 (x6 + 1))) else (none)) else (if ((rd_ITerm x0 x6).f0) = 1 then (if 0 ≤ ((rd_ITerm x0 x6).f1) then (if ((rd_ITerm x0 x6).f1) < (x1.length : Int) then (if x5.length < 17592186044416 then (spec_l1Values.l0 k x0 x1 (x5 ++ [rd x1 ((rd_ITerm x0 x6).f1)]) (wrap64 (x6 + 1))) else (none)) else (none)) else (none)) else (if 0 ≤ ((rd_ITerm x0 x6).f2) then (if ((rd_ITerm x0 x6).f2) < (x5.length : Int) then (if 0 ≤ ((rd_ITerm x0 x6).f3) then (if ((rd_ITerm x0 x6).f3) < (x5.length : Int) then ((spec_l1Do.f ((rd_ITerm x0 x6).f0) (rd x5 ((rd_ITerm x0 x6).f2)) (rd x5 ((rd_ITerm x0 x6).f3))).bind fun t791 => (if x5.length < 17592186044416 then (spec_l1Values.l0 k x0 x1 (x5 ++ [t791]) (wrap64 (x6 + 1))) else (none))) else (none)) else (none)) else (none)) else (none)))) else (none)) else (some x5)
def spec_l1Values.f (k : Nat) (l0 : List (ITerm)) (l1 : List Int) : Option (List Int) := spec_l1Values.l0 k l0 l1 (([] : List Int)) 0
def spec_l2Last.f (k : Nat) (l0 : List (ITerm)) (l1 : List Int) : Option (Int) := (spec_l1Values.f k l0 l1).bind fun t795 => (if 0 ≤ (wrap64 ((l0.length : Int) - 1)) then (if (wrap64 ((l0.length : Int) - 1)) < (t795.length : Int) then (some (rd t795 (wrap64 ((l0.length : Int) - 1)))) else (none)) else (none))
mutual
def spec_l2Use.l0 : Nat → List Int → List Int → Int → List (IVar) → List (IRule) → List (ITerm) → List Int → List (List (ITerm)) → Option (List Int)
  | 0, _, _, _, _, _, _, _, _ => none
  | k + 1, x1, x8, x9, x800000, x800001, x802000, x802001, x802002 => if x9 < (x1.length : Int) then (if 0 ≤ x9 then (if x8.length < 17592186044416 then (spec_l2Use.l0 k x1 (x8 ++ [rd x1 x9]) (wrap64 (x9 + 1)) x800000 x800001 x802000 x802001 x802002) else (none)) else (none)) else (spec_l2Use.l1 k x1 x8 0 x800000 x800001 x802000 x802001 x802002)
def spec_l2Use.l1 : Nat → List Int → List Int → Int → List (IVar) → List (IRule) → List (ITerm) → List Int → List (List (ITerm)) → Option (List Int)
  | 0, _, _, _, _, _, _, _, _ => none
  | k + 1, x1, x8, x10, x800000, x800001, x802000, x802001, x802002 => if x10 < (x802001.length : Int) then (if 0 ≤ x10 then (if x10 < (x802002.length : Int) then ((spec_l2Last.f k (rd_LITerm x802002 x10) x1).bind fun t812 => (if 0 ≤ (rd x802001 x10) then (if (rd x802001 x10) < (x8.length : Int) then (spec_l2Use.l1 k x1 (x8.set ((rd x802001 x10) : Int).toNat t812) (wrap64 (x10 + 1)) x800000 x800001 x802000 x802001 x802002) else (none)) else (none))) else (none)) else (none)) else ((spec_l2In.f k x800000 x800001 x8).bind fun t814 => (if t814 = true then (some x8) else (some ([] : List Int))))
end
def spec_l2Use.f (k : Nat) (l0_0 : List (IVar)) (l0_1 : List (IRule)) (l1 : List Int) (a2 : Int) : Option (List Int) := if 0 ≤ a2 then (if a2 < (l0_1.length : Int) then ((spec_l2Last.f k ((rd_IRule l0_1 a2).f0) l1).bind fun t802 => (if t802 = 0 then (some ([] : List Int)) else (spec_l2Use.l0 k l1 (([] : List Int)) 0 l0_0 l0_1 ((rd_IRule l0_1 a2).f0) ((rd_IRule l0_1 a2).f1) ((rd_IRule l0_1 a2).f2)))) else (none)) else (none)
def impl_held.f (a0 : Int) : Option (Int) := some (mx (-9999) (mn 9999 a0))
def impl_do.f (a0 : Int) (a1 : Int) (a2 : Int) : Option (Int) := if a0 = 2 then ((impl_held.f (wrap64 (a1 + a2))).bind fun t826 => (some t826)) else (if a0 = 3 then ((impl_held.f (wrap64 (a1 - a2))).bind fun t827 => (some t827)) else (if a0 = 4 then ((impl_held.f (wrap64 (a1 * a2))).bind fun t828 => (some t828)) else (if a0 = 5 then ((impl_bit.f (decide (a1 < a2))).bind fun t829 => (some t829)) else (if a0 = 6 then ((impl_bit.f (a1 == a2)).bind fun t830 => (some t830)) else (if a0 = 7 then (some (wrap64 (1 - a1))) else (if a0 = 8 then (some (mn a1 a2)) else (some (mx a1 a2))))))))
def impl_eval.l0 : Nat → List Int → List Int → List (ITerm) → Int → Int → Option (Int)
  | 0, _, _, _, _, _ => none
  | k + 1, x1, x5, x11, x12, x13 => if x13 < x12 then (if 0 ≤ x13 then (if x13 < (x11.length : Int) then (if ((rd_ITerm x11 x13).f0) = 0 then (if x13 < (x5.length : Int) then (impl_eval.l0 k x1 (x5.set (x13 : Int).toNat ((rd_ITerm x11 x13).f1)) x11 x12 (wrap64 (x13 + 1))) else (none)) else (if ((rd_ITerm x11 x13).f0) = 1 then (if 0 ≤ ((rd_ITerm x11 x13).f1) then (if ((rd_ITerm x11 x13).f1) < (x1.length : Int) then (if x13 < (x5.length : Int) then (impl_eval.l0 k x1 (x5.set (x13 : Int).toNat (rd x1 ((rd_ITerm x11 x13).f1))) x11 x12 (wrap64 (x13 + 1))) else (none)) else (none)) else (none)) else (if 0 ≤ ((rd_ITerm x11 x13).f2) then (if ((rd_ITerm x11 x13).f2) < (x5.length : Int) then (if 0 ≤ ((rd_ITerm x11 x13).f3) then (if ((rd_ITerm x11 x13).f3) < (x5.length : Int) then ((impl_do.f ((rd_ITerm x11 x13).f0) (rd x5 ((rd_ITerm x11 x13).f2)) (rd x5 ((rd_ITerm x11 x13).f3))).bind fun t842 => (if x13 < (x5.length : Int) then (impl_eval.l0 k x1 (x5.set (x13 : Int).toNat t842) x11 x12 (wrap64 (x13 + 1))) else (none))) else (none)) else (none)) else (none)) else (none)))) else (none)) else (none)) else (if 0 ≤ (wrap64 ((x5.length : Int) - 1)) then (if (wrap64 ((x5.length : Int) - 1)) < (x5.length : Int) then (some (rd x5 (wrap64 ((x5.length : Int) - 1)))) else (none)) else (none))
def impl_eval.f (k : Nat) (l0 : List (ITerm)) (l1 : List Int) : Option (Int) := if 0 ≤ (l0.length : Int) then (if ((l0.length : Int) : Int).toNat ≤ 35184372088832 then (impl_eval.l0 k l1 (List.replicate ((l0.length : Int) : Int).toNat 0) l0 (l0.length : Int) 0) else (none)) else (none)
def impl_use.l0 : Nat → List Int → List Int → List Int → Int → Int → List (IVar) → List (IRule) → List (ITerm) → List Int → List (List (ITerm)) → Option (List Int × Bool)
  | 0, _, _, _, _, _, _, _, _, _, _ => none
  | k + 1, x1, x9, x25, x26, x27, x845000, x845001, x847000, x847001, x847002 => if x27 < x26 then (if 0 ≤ x27 then (if x27 < (x25.length : Int) then (if x27 < (x847002.length : Int) then ((impl_eval.f k (rd_LITerm x847002 x27) x1).bind fun t853 => (if 0 ≤ (rd x25 x27) then (if (rd x25 x27) < (x9.length : Int) then (impl_use.l0 k x1 (x9.set ((rd x25 x27) : Int).toNat t853) x25 x26 (wrap64 (x27 + 1)) x845000 x845001 x847000 x847001 x847002) else (none)) else (none))) else (none)) else (none)) else (none)) else ((impl_inRange.f k x845000 x845001 x9).bind fun t855 => (if t855 = true then (some (x9, true)) else (some (([] : List Int), false))))
def impl_use.f (k : Nat) (l0_0 : List (IVar)) (l0_1 : List (IRule)) (l1 : List Int) (a2 : Int) : Option (List Int × Bool) := if 0 ≤ a2 then (if a2 < (l0_1.length : Int) then ((impl_eval.f k ((rd_IRule l0_1 a2).f0) l1).bind fun t847 => (if t847 = 0 then (some (([] : List Int), false)) else ((impl_clone_int.f l1).bind fun t848 => (impl_use.l0 k l1 t848 ((rd_IRule l0_1 a2).f1) (((rd_IRule l0_1 a2).f1).length : Int) 0 l0_0 l0_1 ((rd_IRule l0_1 a2).f0) ((rd_IRule l0_1 a2).f1) ((rd_IRule l0_1 a2).f2))))) else (none)) else (none)
def spec_Use.f (k : Nat) (l0_0 : List (IVar)) (l0_1 : List (IRule)) (l1 : List Int) (a2 : Int) : Option (List Int × Bool) := (spec_InRange.f k l0_0 l0_1 l1).bind fun t1062 => (if t1062 = true then ((spec_l1In.f a2 0 (wrap64 ((l0_1.length : Int) - 1))).bind fun t1063 => (if t1063 = true then ((spec_l2Use.f k l0_0 l0_1 l1 a2).bind fun t1064 => (some (t1064, decide ((t1064.length : Int) > 0)))) else (some (([] : List Int), false)))) else (some (([] : List Int), false)))
def impl_Use.f (k : Nat) (l0_0 : List (IVar)) (l0_1 : List (IRule)) (l1 : List Int) (a2 : Int) : Option (List Int × Bool) := (impl_InRange.f k l0_0 l0_1 l1).bind fun t1068 => (if t1068 = true then ((impl_in.f a2 0 (wrap64 ((l0_1.length : Int) - 1))).bind fun t1069 => (if t1069 = true then ((impl_use.f k l0_0 l0_1 l1 a2).bind fun bt1070 => (some (bt1070.1, bt1070.2))) else (some (([] : List Int), false)))) else (some (([] : List Int), false)))
end Go.Proofs.Ytoofhjflfpccdaa.PA
