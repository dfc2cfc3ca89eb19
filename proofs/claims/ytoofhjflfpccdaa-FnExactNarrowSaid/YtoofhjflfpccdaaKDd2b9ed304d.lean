/- Types and the Lean functions that the walks are told against. No conditions. -/
import Derived.Test.YtoofhjflfpccdaaProg
import Derived.Below
import Derived.Deep.Draws
import Derived.Deep.AppendLies
import Derived.Maps.AppendAt
import Derived.OwnWalk
import Derived.Laws.BytesArg
import Derived.Laws.MakeOwn
import Derived.Laws.OwnMore
import Derived.Deep.OwnRows
import Derived.Tactics
import Derived.Lib.ConvBytes
import Derived.Laws.Slices
import Derived.WalkKit
import Derived.KernelRfl
import Derived.RowKit3
import Derived.Deep.LoopGhost
import Derived.Deep.QuietTactic
import Derived.BigQuiet
import Derived.WideLaws
import Derived.Deep.DeepCutAuto
import Derived.Deep.CutBlock
import Derived.Deep.RegionHeld3
import Derived.Laws.Rows
import Derived.Lib.AppendStr
import Derived.ArgAppend
import Derived.Laws.IdiomCopy
import Derived.OrdersHeld
import Derived.Laws.BitsLemmas
import Derived.RowKit
import Derived.Laws.StructEq
import Derived.Lib.SliceRun
import Derived.WalkSpells
import Derived.ChangeArms
import Derived.ChangeSlices
import Derived.Deep.Slices
import Derived.Test.YtoofhjflfpccdaaKD678a608cbb
import Derived.Test.YtoofhjflfpccdaaKWf53c33732f
namespace Go.Proofs.Ytoofhjflfpccdaa.PA
open Go.RowKit Go.Proofs.YtoofhjflfpccdaaW.PrintWords Go.Proofs.YtoofhjflfpccdaaW.PrintLast Go.Proofs.YtoofhjflfpccdaaW.PrintMore
attribute [local go_sem] max2_int min2_int max_two min_two max_three min_three max_four min_four   -- for this text's walks alone
set_option linter.unusedVariables false
set_option linter.unusedSimpArgs false
def spec_l6Sum.l0 : Nat → List Int → Int → Int → Option (Int)
  | 0, _, _, _ => none
  | k + 1, x0, x3, x4 => if x4 < (x0.length : Int) then (if 0 ≤ x4 then (spec_l6Sum.l0 k x0 (wrap64 (x3 + (rd x0 x4))) (wrap64 (x4 + 1))) else (none)) else (some x3)
def spec_l6Sum.f (k : Nat) (l0 : List Int) : Option (Int) := spec_l6Sum.l0 k l0 0 0
def spec_l6Many.l0 : Nat → Int → Int → Int → Option (Int)
  | 0, _, _, _ => none
  | k + 1, x0, x3, x4 => if x4 < x0 then (spec_l6Many.l0 k x0 (wrap64 (x3 + 1)) (wrap64 (x4 * 2))) else (some x3)
def spec_l6Many.f (k : Nat) (a0 : Int) : Option (Int) := spec_l6Many.l0 k a0 0 1
def spec_l6Widths.l0 : Nat → List Int → Int → List (IVar) → List (IRule) → Option (List Int)
  | 0, _, _, _, _ => none
  | k + 1, x3, x4, x159000, x159001 => if x4 < (x159000.length : Int) then (if 0 ≤ x4 then ((spec_l6Many.f k (wrap64 ((wrap64 (((rd_IVar x159000 x4).f1) - ((rd_IVar x159000 x4).f0))) + 1))).bind fun t164 => (if x3.length < 17592186044416 then (spec_l6Widths.l0 k (x3 ++ [t164]) (wrap64 (x4 + 1)) x159000 x159001) else (none))) else (none)) else (some x3)
def spec_l6Widths.f (k : Nat) (l0_0 : List (IVar)) (l0_1 : List (IRule)) : Option (List Int) := spec_l6Widths.l0 k (([] : List Int)) 0 l0_0 l0_1
def spec_Narrow.f (k : Nat) (l0_0 : List (IVar)) (l0_1 : List (IRule)) : Option (Bool) := (spec_SystemValid.f k l0_0 l0_1).bind fun t169 => (if t169 = true then ((spec_l6Widths.f k l0_0 l0_1).bind fun t170 => ((spec_l6Sum.f k t170).bind fun t173 => (some (decide (t173 ≤ 6))))) else (some false))
def impl_clone_int.f (l0 : List Int) : Option (List Int) := if l0.length ≤ 35184372088832 then some l0 else none
def impl_bitsFor.l0 : Nat → Int → Int → Option (Int)
  | 0, _, _ => none
  | k + 1, x0, x3 => if 0 ≤ x3 then (if (shl .i64 1 x3) < x0 then (impl_bitsFor.l0 k x0 (wrap64 (x3 + 1))) else (some x3)) else (none)
def impl_bitsFor.f (k : Nat) (a0 : Int) : Option (Int) := impl_bitsFor.l0 k a0 0
def impl_bitsOf.l0 : Nat → List Int → List (IVar) → Int → Int → Option (List Int)
  | 0, _, _, _, _ => none
  | k + 1, x3, x7, x8, x9 => if x9 < x8 then (if 0 ≤ x9 then (if x9 < (x7.length : Int) then ((impl_bitsFor.f k (wrap64 ((wrap64 (((rd_IVar x7 x9).f1) - ((rd_IVar x7 x9).f0))) + 1))).bind fun t301 => (if x3.length < 17592186044416 then (impl_bitsOf.l0 k (x3 ++ [t301]) x7 x8 (wrap64 (x9 + 1))) else (none))) else (none)) else (none)) else ((impl_clone_int.f x3).bind fun t305 => (some t305))
def impl_bitsOf.f (k : Nat) (l0_0 : List (IVar)) (l0_1 : List (IRule)) : Option (List Int) := impl_bitsOf.l0 k ([] : List Int) l0_0 (l0_0.length : Int) 0
def impl_bitCount.l0 : Nat → Int → List Int → Int → Int → Option (Int)
  | 0, _, _, _, _ => none
  | k + 1, x3, x7, x8, x9 => if x9 < x8 then (if 0 ≤ x9 then (if x9 < (x7.length : Int) then (impl_bitCount.l0 k (wrap64 (x3 + (rd x7 x9))) x7 x8 (wrap64 (x9 + 1))) else (none)) else (none)) else (some x3)
def impl_bitCount.f (k : Nat) (l0_0 : List (IVar)) (l0_1 : List (IRule)) : Option (Int) := (impl_bitsOf.f k l0_0 l0_1).bind fun t309 => (impl_bitCount.l0 k 0 t309 (t309.length : Int) 0)
def impl_narrow.f (k : Nat) (l0_0 : List (IVar)) (l0_1 : List (IRule)) : Option (Bool) := (impl_SystemValid.f k l0_0 l0_1).bind fun t314 => (if t314 = true then ((impl_bitCount.f k l0_0 l0_1).bind fun t315 => (some (decide (t315 ≤ 6)))) else (some false))
def impl_Narrow.f (k : Nat) (l0_0 : List (IVar)) (l0_1 : List (IRule)) : Option (Bool) := (impl_narrow.f k l0_0 l0_1).bind fun t317 => (some t317)
def laws_FnExactNarrow.f (k : Nat) (l0_0 : List (LVar)) (l0_1 : List (LRule)) : Option (Bool) := (laws_szSystem.f k l0_0 l0_1 1048576).bind fun t346 => (if t346 < 0 then (some true) else ((laws_toSystem.f k l0_0 l0_1).bind fun bt347 => ((spec_Narrow.f k bt347.1 bt347.2).bind fun t353 => ((laws_toSystem.f k l0_0 l0_1).bind fun bt354 => ((impl_Narrow.f k bt354.1 bt354.2).bind fun t361 => (if (t361 != t353) = true then (some false) else ((laws_toSystem.f k l0_0 l0_1).bind fun bt362 => ((laws_eqSystem.f k bt354.1 bt354.2 bt362.1 bt362.2).bind fun t368 => (if t368 = true then (some true) else (some false))))))))))
end Go.Proofs.Ytoofhjflfpccdaa.PA
