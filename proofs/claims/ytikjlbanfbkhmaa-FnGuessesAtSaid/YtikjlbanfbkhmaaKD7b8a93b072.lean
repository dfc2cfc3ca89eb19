/- Types and the Lean functions that the walks are told against. No conditions. -/
import Derived.Test.YtikjlbanfbkhmaaProg
import Derived.Below
import Derived.Deep.Draws
import Derived.Deep.AppendLies
import Derived.Maps.AppendAt
import Derived.OwnWalk
import Derived.Laws.BytesArg
import Derived.Laws.MakeOwn
import Derived.Laws.OwnMore
import Derived.Deep.OwnRows
import Derived.Tactics
import Derived.Lib.ConvBytes
import Derived.Laws.Slices
import Derived.WalkKit
import Derived.KernelRfl
import Derived.RowKit3
import Derived.Deep.LoopGhost
import Derived.Deep.QuietTactic
import Derived.BigQuiet
import Derived.WideLaws
import Derived.Deep.DeepCutAuto
import Derived.Deep.CutBlock
import Derived.Deep.RegionHeld3
import Derived.Laws.Rows
import Derived.Lib.AppendStr
import Derived.ArgAppend
import Derived.Laws.IdiomCopy
import Derived.OrdersHeld
import Derived.Laws.BitsLemmas
import Derived.RowKit
import Derived.Laws.StructEq
import Derived.Lib.SliceRun
import Derived.WalkSpells
import Derived.ChangeArms
import Derived.ChangeSlices
import Derived.Deep.Slices
import Derived.Test.YtikjlbanfbkhmaaKW03cc6f5608
namespace Go.Proofs.Ytikjlbanfbkhmaa.PA
open Go.RowKit Go.Proofs.YtikjlbanfbkhmaaW.PrintWords Go.Proofs.YtikjlbanfbkhmaaW.PrintLast Go.Proofs.YtikjlbanfbkhmaaW.PrintMore
attribute [local go_sem] max2_int min2_int max_two min_two max_three min_three max_four min_four   -- for this text's walks alone
set_option linter.unusedVariables false
set_option linter.unusedSimpArgs false
def rd_Lint (xs : List (List Int)) (i : Int) : (List Int) := xs.getD i.toNat ([] : List Int)
def rd_LLint (xs : List (List (List Int))) (i : Int) : (List (List Int)) := xs.getD i.toNat ([] : List (List Int))
structure LGraph where
  f0 : (List (List Int))
  f1 : Int
  f2 : (List (List Int))
def k38 : Kd LGraph := Kd.iso (Kd.pair (Kd.slice 26 (Kd.slice 3 (Kd.int .i64))) (Kd.pair (Kd.int .i64) (Kd.slice 26 (Kd.slice 3 (Kd.int .i64))))) (fun x : LGraph => (x.f0, x.f1, x.f2))
structure LTime where
  f0 : Int
  f1 : Int
  f2 : Int
  f3 : Int
def k66 : Kd LTime := Kd.iso (Kd.pair (Kd.int .i64) (Kd.pair (Kd.int .i64) (Kd.pair (Kd.int .i64) (Kd.int .i64)))) (fun x : LTime => (x.f0, x.f1, x.f2, x.f3))
structure ITime where
  f0 : Int
  f1 : Int
  f2 : Int
  f3 : Int
def zITime : ITime := ⟨(0 : Int), (0 : Int), (0 : Int), (0 : Int)⟩
def k64 : Kd ITime := Kd.iso (Kd.pair (Kd.int .i64) (Kd.pair (Kd.int .i64) (Kd.pair (Kd.int .i64) (Kd.int .i64)))) (fun x : ITime => (x.f0, x.f1, x.f2, x.f3))
def rd_ITime (xs : List ITime) (i : Int) : ITime := xs.getD i.toNat zITime
def spec_l1In.f (a0 : Int) (a1 : Int) (a2 : Int) : Option (Bool) := if a0 ≥ a1 then (some (decide (a0 ≤ a2))) else (some false)
def spec_l20One.f (a0 : Int) : Option (Bool) := if a0 = 2 then (some true) else (some (a0 == 5))
def spec_l20Step.j0 : Nat → Bool → Int → Int → Int → Int → Option (Bool)
  | 0, _, _, _, _, _ => none
  | k + 1, x65, x104000, x104001, x104002, x104003 => if x65 = true then (some false) else ((spec_l20One.f x104000).bind fun t108 => (if t108 = true then (some (x104003 == x104002)) else (some true)))
def spec_l20Step.f (k : Nat) (a0_0 : Int) (a0_1 : Int) (a0_2 : Int) (a0_3 : Int) (a1 : Int) (a2 : Int) : Option (Bool) := if a0_0 = 0 then (if a0_1 = 0 then (if a0_2 = 0 then (some (a0_3 == 0)) else (some false)) else (some false)) else (if a0_0 = 1 then ((spec_l1In.f a0_1 0 (wrap64 (a2 - 1))).bind fun t104 => (if t104 = true then (if a0_2 = 0 then (some (a0_3 == 0)) else (some false)) else (some false))) else ((spec_l1In.f a0_0 2 7).bind fun t105 => (if t105 = true then (if a0_1 = 0 then ((spec_l1In.f a0_2 0 (wrap64 (a1 - 1))).bind fun t106 => (if t106 = true then ((spec_l1In.f a0_3 0 (wrap64 (a1 - 1))).bind fun t107 => (spec_l20Step.j0 k (!t107) a0_0 a0_1 a0_2 a0_3)) else (spec_l20Step.j0 k true a0_0 a0_1 a0_2 a0_3))) else (spec_l20Step.j0 k true a0_0 a0_1 a0_2 a0_3)) else (spec_l20Step.j0 k true a0_0 a0_1 a0_2 a0_3))))
mutual
def spec_TimesValid.j0 : Nat → List (ITime) → Int → Bool → Option (Bool)
  | 0, _, _, _ => none
  | k + 1, x0, x1, x14 => if x14 = true then (some false) else (spec_TimesValid.l0 k x0 x1 0)
def spec_TimesValid.l0 : Nat → List (ITime) → Int → Int → Option (Bool)
  | 0, _, _, _ => none
  | k + 1, x0, x1, x5 => if x5 < (x0.length : Int) then (if 0 ≤ x5 then ((spec_l20Step.f k ((rd_ITime x0 x5).f0) ((rd_ITime x0 x5).f1) ((rd_ITime x0 x5).f2) ((rd_ITime x0 x5).f3) x5 x1).bind fun t112 => (if t112 = true then (spec_TimesValid.l0 k x0 x1 (wrap64 (x5 + 1))) else (some false))) else (none)) else (some true)
end
def spec_TimesValid.f (k : Nat) (l0 : List (ITime)) (a1 : Int) : Option (Bool) := (spec_l1In.f a1 0 4).bind fun t109 => (if t109 = true then ((spec_l1In.f (l0.length : Int) 1 24).bind fun t110 => (spec_TimesValid.j0 k l0 a1 (!t110))) else (spec_TimesValid.j0 k l0 a1 true))
def spec_l6Are.l0 : Nat → List Int → Int → Option (Bool)
  | 0, _, _ => none
  | k + 1, x0, x3 => if x3 < (x0.length : Int) then (if 0 ≤ x3 then ((spec_l1In.f (rd x0 x3) 0 1).bind fun t114 => (if t114 = true then (spec_l6Are.l0 k x0 (wrap64 (x3 + 1))) else (some false))) else (none)) else (some true)
def spec_l6Are.f (k : Nat) (l0 : List Int) : Option (Bool) := spec_l6Are.l0 k l0 0
def spec_l20Letters.l0 : Nat → List (List Int) → Int → Int → Option (Bool)
  | 0, _, _, _ => none
  | k + 1, x0, x1, x5 => if x5 < (x0.length : Int) then (if 0 ≤ x5 then (if ((rd_Lint x0 x5).length : Int) = x1 then ((spec_l6Are.f k (rd_Lint x0 x5)).bind fun t117 => (if t117 = true then (spec_l20Letters.l0 k x0 x1 (wrap64 (x5 + 1))) else (some false))) else (some false)) else (none)) else (some true)
def spec_l20Letters.f (k : Nat) (l0 : List (List Int)) (a1 : Int) : Option (Bool) := spec_l20Letters.l0 k l0 a1 0
def spec_WordValid.f (k : Nat) (l0 : List (List Int)) (l1 : List (List Int)) (a2 : Int) : Option (Bool) := (spec_l1In.f a2 0 4).bind fun t118 => (if t118 = true then (if (l1.length : Int) > 0 then (if (wrap64 ((l0.length : Int) + (l1.length : Int))) ≤ 60 then ((spec_l20Letters.f k l0 a2).bind fun t119 => (if t119 = true then ((spec_l20Letters.f k l1 a2).bind fun t120 => (some t120)) else (some false))) else (some false)) else (some false)) else (some false))
def spec_l3At.f (l0 : List (List Int)) (l1 : List (List Int)) (a2 : Int) : Option (List Int) := if a2 < (l0.length : Int) then (if 0 ≤ a2 then (some (rd_Lint l0 a2)) else (none)) else (if (l1.length : Int) = 0 then (none) else (if 0 ≤ (Int.tmod (wrap64 (a2 - (l0.length : Int))) (l1.length : Int)) then (if (Int.tmod (wrap64 (a2 - (l0.length : Int))) (l1.length : Int)) < (l1.length : Int) then (some (rd_Lint l1 (Int.tmod (wrap64 (a2 - (l0.length : Int))) (l1.length : Int)))) else (none)) else (none)))
def spec_l1Truth.f (a0 : Bool) : Option (Int) := if a0 = true then (some 1) else (some 0)
def spec_l20Next.f (a0 : Int) (a1 : Int) (a2 : Int) : Option (Int) := if (wrap64 (a0 + 1)) < a2 then (some (wrap64 (a0 + 1))) else (some a1)
mutual
def spec_l20Later.l0 : Nat → List (List Int) → Int → Int → List Int → Int → Int → Int → Int → Int → Option (List Int)
  | 0, _, _, _, _, _, _, _, _, _ => none
  | k + 1, x1, x2, x3, x9, x10, x124000, x124001, x124002, x124003 => if x10 < x3 then (if x124000 = 7 then (if x9.length < 17592186044416 then (spec_l20Later.l0 k x1 x2 x3 (x9 ++ [1]) (wrap64 (x10 + 1)) x124000 x124001 x124002 x124003) else (none)) else (if x9.length < 17592186044416 then (spec_l20Later.l0 k x1 x2 x3 (x9 ++ [0]) (wrap64 (x10 + 1)) x124000 x124001 x124002 x124003) else (none))) else (spec_l20Later.l1 k x1 x2 x3 x9 0 x124000 x124001 x124002 x124003)
def spec_l20Later.l1 : Nat → List (List Int) → Int → Int → List Int → Int → Int → Int → Int → Int → Option (List Int)
  | 0, _, _, _, _, _, _, _, _, _ => none
  | k + 1, x1, x2, x3, x9, x11, x124000, x124001, x124002, x124003 => if x11 ≤ x3 then (spec_l20Later.l2 k x1 x2 x3 x9 x11 (wrap64 (x3 - 1)) x124000 x124001 x124002 x124003) else (some x9)
def spec_l20Later.l2 : Nat → List (List Int) → Int → Int → List Int → Int → Int → Int → Int → Int → Int → Option (List Int)
  | 0, _, _, _, _, _, _, _, _, _, _ => none
  | k + 1, x1, x2, x3, x9, x11, x12, x124000, x124001, x124002, x124003 => if x12 ≥ 0 then (if 0 ≤ x124002 then (if x124002 < (x1.length : Int) then (if 0 ≤ x12 then (if x12 < ((rd_Lint x1 x124002).length : Int) then (if 0 ≤ x124003 then (if x124003 < (x1.length : Int) then (if x12 < ((rd_Lint x1 x124003).length : Int) then ((spec_l20Next.f x12 x2 x3).bind fun t137 => (if 0 ≤ t137 then (if t137 < (x9.length : Int) then (if x124000 = 6 then (if (rd (rd_Lint x1 x124003) x12) = 1 then ((spec_l1Truth.f true).bind fun t139 => (if x12 < (x9.length : Int) then (spec_l20Later.l2 k x1 x2 x3 (x9.set (x12 : Int).toNat t139) x11 (wrap64 (x12 - 1)) x124000 x124001 x124002 x124003) else (none))) else (if (rd (rd_Lint x1 x124002) x12) = 1 then ((spec_l1Truth.f ((rd x9 t137) == 1)).bind fun t141 => (if x12 < (x9.length : Int) then (spec_l20Later.l2 k x1 x2 x3 (x9.set (x12 : Int).toNat t141) x11 (wrap64 (x12 - 1)) x124000 x124001 x124002 x124003) else (none))) else ((spec_l1Truth.f false).bind fun t143 => (if x12 < (x9.length : Int) then (spec_l20Later.l2 k x1 x2 x3 (x9.set (x12 : Int).toNat t143) x11 (wrap64 (x12 - 1)) x124000 x124001 x124002 x124003) else (none))))) else (if (rd (rd_Lint x1 x124003) x12) = 1 then (if (rd (rd_Lint x1 x124002) x12) = 1 then ((spec_l1Truth.f true).bind fun t145 => (if x12 < (x9.length : Int) then (spec_l20Later.l2 k x1 x2 x3 (x9.set (x12 : Int).toNat t145) x11 (wrap64 (x12 - 1)) x124000 x124001 x124002 x124003) else (none))) else ((spec_l1Truth.f ((rd x9 t137) == 1)).bind fun t147 => (if x12 < (x9.length : Int) then (spec_l20Later.l2 k x1 x2 x3 (x9.set (x12 : Int).toNat t147) x11 (wrap64 (x12 - 1)) x124000 x124001 x124002 x124003) else (none)))) else ((spec_l1Truth.f false).bind fun t149 => (if x12 < (x9.length : Int) then (spec_l20Later.l2 k x1 x2 x3 (x9.set (x12 : Int).toNat t149) x11 (wrap64 (x12 - 1)) x124000 x124001 x124002 x124003) else (none))))) else (none)) else (none))) else (none)) else (none)) else (none)) else (none)) else (none)) else (none)) else (none)) else (spec_l20Later.l1 k x1 x2 x3 x9 (wrap64 (x11 + 1)) x124000 x124001 x124002 x124003)
end
def spec_l20Later.f (k : Nat) (a0_0 : Int) (a0_1 : Int) (a0_2 : Int) (a0_3 : Int) (l1 : List (List Int)) (a2 : Int) (a3 : Int) : Option (List Int) := spec_l20Later.l0 k l1 a2 a3 (([] : List Int)) 0 a0_0 a0_1 a0_2 a0_3
def spec_l20Row.l0 : Nat → List (List Int) → List (List Int) → List (List Int) → Int → List Int → Int → Int → Int → Int → Int → Option (List Int)
  | 0, _, _, _, _, _, _, _, _, _, _ => none
  | k + 1, x1, x2, x3, x9, x10, x11, x152000, x152001, x152002, x152003 => if x11 < x9 then (if x152000 = 1 then ((spec_l3At.f x2 x3 x11).bind fun t158 => (if 0 ≤ x152001 then (if x152001 < (t158.length : Int) then (if x10.length < 17592186044416 then (spec_l20Row.l0 k x1 x2 x3 x9 (x10 ++ [rd t158 x152001]) (wrap64 (x11 + 1)) x152000 x152001 x152002 x152003) else (none)) else (none)) else (none))) else (if x152000 = 2 then (if 0 ≤ x152002 then (if x152002 < (x1.length : Int) then (if 0 ≤ x11 then (if x11 < ((rd_Lint x1 x152002).length : Int) then (if x10.length < 17592186044416 then (spec_l20Row.l0 k x1 x2 x3 x9 (x10 ++ [wrap64 (1 - (rd (rd_Lint x1 x152002) x11))]) (wrap64 (x11 + 1)) x152000 x152001 x152002 x152003) else (none)) else (none)) else (none)) else (none)) else (none)) else (if x152000 = 3 then (if 0 ≤ x152002 then (if x152002 < (x1.length : Int) then (if 0 ≤ x11 then (if x11 < ((rd_Lint x1 x152002).length : Int) then (if 0 ≤ x152003 then (if x152003 < (x1.length : Int) then (if x11 < ((rd_Lint x1 x152003).length : Int) then (if x10.length < 17592186044416 then (spec_l20Row.l0 k x1 x2 x3 x9 (x10 ++ [wrap64 ((rd (rd_Lint x1 x152002) x11) * (rd (rd_Lint x1 x152003) x11))]) (wrap64 (x11 + 1)) x152000 x152001 x152002 x152003) else (none)) else (none)) else (none)) else (none)) else (none)) else (none)) else (none)) else (none)) else (if x152000 = 4 then (if 0 ≤ x152002 then (if x152002 < (x1.length : Int) then (if 0 ≤ x11 then (if x11 < ((rd_Lint x1 x152002).length : Int) then (if 0 ≤ x152003 then (if x152003 < (x1.length : Int) then (if x11 < ((rd_Lint x1 x152003).length : Int) then ((spec_l1Truth.f (decide ((wrap64 ((rd (rd_Lint x1 x152002) x11) + (rd (rd_Lint x1 x152003) x11))) > 0))).bind fun t181 => (if x10.length < 17592186044416 then (spec_l20Row.l0 k x1 x2 x3 x9 (x10 ++ [t181]) (wrap64 (x11 + 1)) x152000 x152001 x152002 x152003) else (none))) else (none)) else (none)) else (none)) else (none)) else (none)) else (none)) else (none)) else (if x152000 = 5 then (if 0 ≤ x152002 then (if x152002 < (x1.length : Int) then ((spec_l20Next.f x11 (x2.length : Int) x9).bind fun t186 => (if 0 ≤ t186 then (if t186 < ((rd_Lint x1 x152002).length : Int) then (if x10.length < 17592186044416 then (spec_l20Row.l0 k x1 x2 x3 x9 (x10 ++ [rd (rd_Lint x1 x152002) t186]) (wrap64 (x11 + 1)) x152000 x152001 x152002 x152003) else (none)) else (none)) else (none))) else (none)) else (none)) else (if x10.length < 17592186044416 then (spec_l20Row.l0 k x1 x2 x3 x9 (x10 ++ [1]) (wrap64 (x11 + 1)) x152000 x152001 x152002 x152003) else (none))))))) else (some x10)
def spec_l20Row.f (k : Nat) (a0_0 : Int) (a0_1 : Int) (a0_2 : Int) (a0_3 : Int) (l1 : List (List Int)) (l2 : List (List Int)) (l3 : List (List Int)) : Option (List Int) := if a0_0 ≥ 6 then ((spec_l20Later.f k a0_0 a0_1 a0_2 a0_3 l1 (l2.length : Int) (wrap64 ((l2.length : Int) + (l3.length : Int)))).bind fun t152 => (some t152)) else (spec_l20Row.l0 k l1 l2 l3 (wrap64 ((l2.length : Int) + (l3.length : Int))) (([] : List Int)) 0 a0_0 a0_1 a0_2 a0_3)
mutual
def spec_TimesOn.j0 : Nat → List (ITime) → List (List Int) → List (List Int) → Bool → Option ((List (List Int)))
  | 0, _, _, _, _ => none
  | k + 1, x0, x1, x2, x21 => if x21 = true then (some ([] : List (List Int))) else (spec_TimesOn.l0 k x0 x1 x2 (([] : List (List Int))) 0)
def spec_TimesOn.l0 : Nat → List (ITime) → List (List Int) → List (List Int) → List (List Int) → Int → Option ((List (List Int)))
  | 0, _, _, _, _, _ => none
  | k + 1, x0, x1, x2, x9, x10 => if x10 < (x0.length : Int) then (if 0 ≤ x10 then ((spec_l20Row.f k ((rd_ITime x0 x10).f0) ((rd_ITime x0 x10).f1) ((rd_ITime x0 x10).f2) ((rd_ITime x0 x10).f3) x9 x1 x2).bind fun t200 => (if x9.length < 5864062014805 then (spec_TimesOn.l0 k x0 x1 x2 (x9 ++ [t200]) (wrap64 (x10 + 1))) else (none))) else (none)) else (some x9)
end
def spec_TimesOn.f (k : Nat) (l0 : List (ITime)) (l1 : List (List Int)) (l2 : List (List Int)) (a3 : Int) : Option ((List (List Int))) := (spec_TimesValid.f k l0 a3).bind fun t194 => (if t194 = true then ((spec_WordValid.f k l1 l2 a3).bind fun t195 => (spec_TimesOn.j0 k l0 l1 l2 (!t195))) else (spec_TimesOn.j0 k l0 l1 l2 true))
def spec_l21Steps.l0 : Nat → List (ITime) → List Int → Int → Option (List Int)
  | 0, _, _, _ => none
  | k + 1, x0, x3, x4 => if x4 < (x0.length : Int) then (if 0 ≤ x4 then (if ((rd_ITime x0 x4).f0) ≥ 5 then (if x3.length < 17592186044416 then (spec_l21Steps.l0 k x0 (x3 ++ [x4]) (wrap64 (x4 + 1))) else (none)) else (spec_l21Steps.l0 k x0 x3 (wrap64 (x4 + 1)))) else (none)) else (some x3)
def spec_l21Steps.f (k : Nat) (l0 : List (ITime)) : Option (List Int) := spec_l21Steps.l0 k l0 (([] : List Int)) 0
def spec_l21Asked.f (k : Nat) (l0 : List (ITime)) (a1 : Int) : Option (Bool) := (spec_TimesValid.f k l0 a1).bind fun t213 => (if t213 = true then ((spec_l21Steps.f k l0).bind fun t214 => (some (decide ((wrap64 (a1 + (t214.length : Int))) ≤ 7)))) else (some false))
def spec_l3Copy.l0 : Nat → List Int → List Int → Int → Option (List Int)
  | 0, _, _, _ => none
  | k + 1, x0, x3, x4 => if x4 < (x0.length : Int) then (if 0 ≤ x4 then (if x3.length < 17592186044416 then (spec_l3Copy.l0 k x0 (x3 ++ [rd x0 x4]) (wrap64 (x4 + 1))) else (none)) else (none)) else (some x3)
def spec_l3Copy.f (k : Nat) (l0 : List Int) : Option (List Int) := spec_l3Copy.l0 k l0 (([] : List Int)) 0
def spec_l6Number.l0 : Nat → List Int → Int → Int → Option (Int)
  | 0, _, _, _ => none
  | k + 1, x0, x3, x4 => if x4 < (x0.length : Int) then (if 0 ≤ x4 then (spec_l6Number.l0 k x0 (wrap64 ((wrap64 (x3 * 2)) + (rd x0 x4))) (wrap64 (x4 + 1))) else (none)) else (some x3)
def spec_l6Number.f (k : Nat) (l0 : List Int) : Option (Int) := spec_l6Number.l0 k l0 0 0
def spec_l21Number.l0 : Nat → List (List Int) → Int → List Int → List Int → Int → Option (Int)
  | 0, _, _, _, _, _ => none
  | k + 1, x2, x3, x9, x10, x11 => if x11 < (x10.length : Int) then (if 0 ≤ x11 then (if 0 ≤ (rd x10 x11) then (if (rd x10 x11) < (x2.length : Int) then (if 0 ≤ x3 then (if x3 < ((rd_Lint x2 (rd x10 x11)).length : Int) then (if x9.length < 17592186044416 then (spec_l21Number.l0 k x2 x3 (x9 ++ [rd (rd_Lint x2 (rd x10 x11)) x3]) x10 (wrap64 (x11 + 1))) else (none)) else (none)) else (none)) else (none)) else (none)) else (none)) else ((spec_l6Number.f k x9).bind fun t237 => (some t237))
def spec_l21Number.f (k : Nat) (l0 : List (ITime)) (l1 : List Int) (l2 : List (List Int)) (a3 : Int) : Option (Int) := (spec_l3Copy.f k l1).bind fun t225 => ((spec_l21Steps.f k l0).bind fun t228 => (spec_l21Number.l0 k l2 a3 t225 t228 0))
mutual
def spec_GuessesAt.l0 : Nat → List (ITime) → List (List Int) → List (List Int) → Int → List (List Int) → List Int → Int → Option (List Int)
  | 0, _, _, _, _, _, _, _ => none
  | k + 1, x0, x1, x2, x3, x9, x10, x11 => if x11 < (wrap64 ((x1.length : Int) + (x2.length : Int))) then (if (x9.length : Int) > 0 then ((spec_l21Asked.f k x0 x3).bind fun t244 => (spec_GuessesAt.j1 k x0 x1 x2 x3 x9 x10 x11 t244)) else (spec_GuessesAt.j1 k x0 x1 x2 x3 x9 x10 x11 false)) else (spec_GuessesAt.j1 k x0 x1 x2 x3 x9 x10 x11 false)
def spec_GuessesAt.j1 : Nat → List (ITime) → List (List Int) → List (List Int) → Int → List (List Int) → List Int → Int → Bool → Option (List Int)
  | 0, _, _, _, _, _, _, _, _ => none
  | k + 1, x0, x1, x2, x3, x9, x10, x11, x34 => if x34 = true then ((spec_l3At.f x1 x2 x11).bind fun t245 => ((spec_l21Number.f k x0 t245 x9 x11).bind fun t248 => (if x10.length < 17592186044416 then (spec_GuessesAt.l0 k x0 x1 x2 x3 x9 (x10 ++ [t248]) (wrap64 (x11 + 1))) else (none)))) else (some x10)
end
def spec_GuessesAt.f (k : Nat) (l0 : List (ITime)) (l1 : List (List Int)) (l2 : List (List Int)) (a3 : Int) : Option (List Int) := (spec_TimesOn.f k l0 l1 l2 a3).bind fun t238 => (spec_GuessesAt.l0 k l0 l1 l2 a3 t238 (([] : List Int)) 0)
def impl_clone_int.f (l0 : List Int) : Option (List Int) := if l0.length ≤ 35184372088832 then some l0 else none
def impl_in.f (a0 : Int) (a1 : Int) (a2 : Int) : Option (Bool) := if a0 ≥ a1 then (some (decide (a0 ≤ a2))) else (some false)
mutual
def impl_TimesValid.j0 : Nat → List (ITime) → Int → Bool → Option (Bool)
  | 0, _, _, _ => none
  | k + 1, x0, x1, x16 => if x16 = true then (some false) else (impl_TimesValid.l0 k x1 x0 (x0.length : Int) 0)
def impl_TimesValid.l0 : Nat → Int → List (ITime) → Int → Int → Option (Bool)
  | 0, _, _, _, _ => none
  | k + 1, x1, x17, x18, x19 => if x19 < x18 then (if 0 ≤ x19 then (if x19 < (x17.length : Int) then ((impl_in.f ((rd_ITime x17 x19).f0) 0 7).bind fun t281 => (if ((rd_ITime x17 x19).f0) = 0 then (impl_TimesValid.j2 k x1 (((rd_ITime x17 x19).f0) == 0 && (((rd_ITime x17 x19).f1) == 0 && (((rd_ITime x17 x19).f2) == 0 && (((rd_ITime x17 x19).f3) == 0)))) x17 x18 x19) else (if ((rd_ITime x17 x19).f0) = 1 then ((impl_in.f ((rd_ITime x17 x19).f1) 0 (wrap64 (x1 - 1))).bind fun t282 => (if t282 = true then (if ((rd_ITime x17 x19).f2) = 0 then (impl_TimesValid.j2 k x1 (((rd_ITime x17 x19).f3) == 0) x17 x18 x19) else (impl_TimesValid.j2 k x1 false x17 x18 x19)) else (impl_TimesValid.j2 k x1 false x17 x18 x19))) else (if t281 = true then (if ((rd_ITime x17 x19).f1) = 0 then ((impl_in.f ((rd_ITime x17 x19).f2) 0 (wrap64 (x19 - 1))).bind fun t283 => (if t283 = true then ((impl_in.f ((rd_ITime x17 x19).f3) 0 (wrap64 (x19 - 1))).bind fun t284 => (if t284 = true then (if ((rd_ITime x17 x19).f2) = ((rd_ITime x17 x19).f3) then (impl_TimesValid.j2 k x1 true x17 x18 x19) else (if ((rd_ITime x17 x19).f0) = 2 then (impl_TimesValid.j2 k x1 false x17 x18 x19) else (impl_TimesValid.j2 k x1 (((rd_ITime x17 x19).f0) != 5) x17 x18 x19))) else (impl_TimesValid.j2 k x1 false x17 x18 x19))) else (impl_TimesValid.j2 k x1 false x17 x18 x19))) else (impl_TimesValid.j2 k x1 false x17 x18 x19)) else (impl_TimesValid.j2 k x1 false x17 x18 x19))))) else (none)) else (none)) else (some true)
def impl_TimesValid.j2 : Nat → Int → Bool → List (ITime) → Int → Int → Option (Bool)
  | 0, _, _, _, _, _ => none
  | k + 1, x1, x7, x17, x18, x19 => if x7 = true then (impl_TimesValid.l0 k x1 x17 x18 (wrap64 (x19 + 1))) else (some false)
end
def impl_TimesValid.f (k : Nat) (l0 : List (ITime)) (a1 : Int) : Option (Bool) := (impl_in.f a1 0 4).bind fun t277 => (if t277 = true then ((impl_in.f (l0.length : Int) 1 24).bind fun t278 => (impl_TimesValid.j0 k l0 a1 (!t278))) else (impl_TimesValid.j0 k l0 a1 true))
def impl_guessed.l0 : Nat → Int → List Int → List (ITime) → Int → Int → Option (List Int × Bool)
  | 0, _, _, _, _, _ => none
  | k + 1, x1, x6, x13, x14, x15 => if x15 < x14 then (if 0 ≤ x15 then (if x15 < (x13.length : Int) then (if ((rd_ITime x13 x15).f0) ≥ 5 then (if x6.length < 17592186044416 then (impl_guessed.l0 k x1 (x6 ++ [x15]) x13 x14 (wrap64 (x15 + 1))) else (none)) else (impl_guessed.l0 k x1 x6 x13 x14 (wrap64 (x15 + 1)))) else (none)) else (none)) else ((impl_clone_int.f x6).bind fun t291 => (some (t291, decide ((wrap64 (x1 + (x6.length : Int))) ≤ 7))))
def impl_guessed.f (k : Nat) (l0 : List (ITime)) (a1 : Int) : Option (List Int × Bool) := (impl_TimesValid.f k l0 a1).bind fun t285 => (if t285 = true then (impl_guessed.l0 k a1 ([] : List Int) l0 (l0.length : Int) 0) else (some (([] : List Int), false)))
def impl_bitsValid_1.f (a0 : Int) : Option (Bool) := (impl_in.f a0 0 1).bind fun t294 => (some (!t294))
def slices_IndexFunc_at_impl_bitsValid_1.l0 : Nat → List Int → Int → Int → Option (Int)
  | 0, _, _, _ => none
  | k + 1, x0, x7, x8 => if x8 < x7 then (if 0 ≤ x8 then (if x8 < (x0.length : Int) then ((impl_bitsValid_1.f (rd x0 x8)).bind fun t296 => (if t296 = true then (some x8) else (slices_IndexFunc_at_impl_bitsValid_1.l0 k x0 x7 (wrap64 (x8 + 1))))) else (none)) else (none)) else (some (-1))
def slices_IndexFunc_at_impl_bitsValid_1.f (k : Nat) (l0 : List Int)  : Option (Int) := slices_IndexFunc_at_impl_bitsValid_1.l0 k l0 (l0.length : Int) 0
def slices_ContainsFunc_at_impl_bitsValid_1.f (k : Nat) (l0 : List Int)  : Option (Bool) := (slices_IndexFunc_at_impl_bitsValid_1.f k l0).bind fun t297 => (some (decide (t297 ≥ 0)))
def impl_bitsValid.f (k : Nat) (l0 : List Int) : Option (Bool) := (slices_ContainsFunc_at_impl_bitsValid_1.f k l0).bind fun t298 => (some (!t298))
def impl_letterOk.f (k : Nat) (l0 : List Int) (a1 : Int) : Option (Bool) := if (l0.length : Int) = a1 then ((impl_bitsValid.f k l0).bind fun t299 => (some t299)) else (some false)
def impl_bitsValue.l0 : Nat → Int → List Int → Int → Int → Option (Int)
  | 0, _, _, _, _ => none
  | k + 1, x3, x6, x7, x8 => if x8 < x7 then (if 0 ≤ x8 then (if x8 < (x6.length : Int) then (impl_bitsValue.l0 k (wrap64 ((wrap64 (2 * x3)) + (rd x6 x8))) x6 x7 (wrap64 (x8 + 1))) else (none)) else (none)) else (some x3)
def impl_bitsValue.f (k : Nat) (l0 : List Int) : Option (Int) := impl_bitsValue.l0 k 0 l0 (l0.length : Int) 0
def spec_l40Rd_pick.f (k : Nat) (l0_0 : List Int) (a0_1 : Int) (a1 : Int) : Option (Int × Int) := if a1 < 1 then (some ((wrap64 (a0_1 + 1)), 0)) else (if (l0_0.length : Int) = 0 then (some ((wrap64 (a0_1 + 1)), 0)) else (if (wrap64 ((wrap64 (a0_1 + 1)) - 1)) < (l0_0.length : Int) then (if 0 ≤ (wrap64 ((wrap64 (a0_1 + 1)) - 1)) then (if (wrap64 ((wrap64 (a0_1 + 1)) - 1)) < (l0_0.length : Int) then (if a1 ≠ 0 then (some ((wrap64 (a0_1 + 1)), (Int.tmod (wrap64 (rd l0_0 (wrap64 ((wrap64 (a0_1 + 1)) - 1)))) a1))) else none) else none) else none) else (if (l0_0.length : Int) ≠ 0 then (if 0 ≤ (Int.tmod (wrap64 ((wrap64 (a0_1 + 1)) - 1)) (l0_0.length : Int)) then (if (Int.tmod (wrap64 ((wrap64 (a0_1 + 1)) - 1)) (l0_0.length : Int)) < (l0_0.length : Int) then (if (l0_0.length : Int) ≠ 0 then (if 0 ≤ (Int.tmod (wrap64 ((wrap64 ((wrap64 ((wrap64 (a0_1 + 1)) - 1)) * 7)) + 3)) (l0_0.length : Int)) then (if (Int.tmod (wrap64 ((wrap64 ((wrap64 ((wrap64 (a0_1 + 1)) - 1)) * 7)) + 3)) (l0_0.length : Int)) < (l0_0.length : Int) then (if (l0_0.length : Int) ≠ 0 then (if a1 ≠ 0 then (some ((wrap64 (a0_1 + 1)), (Int.tmod (Go.bits .xor .i64 (wrap64 ((wrap64 ((wrap64 ((wrap64 ((wrap64 (rd l0_0 (Int.tmod (wrap64 ((wrap64 (a0_1 + 1)) - 1)) (l0_0.length : Int)))) * 131)) + (wrap64 ((wrap64 (rd l0_0 (Int.tmod (wrap64 ((wrap64 ((wrap64 ((wrap64 (a0_1 + 1)) - 1)) * 7)) + 3)) (l0_0.length : Int)))) * 1117)))) + (wrap64 ((wrap64 ((wrap64 (a0_1 + 1)) - 1)) * 29)))) + (wrap64 ((wrap64 (Int.tdiv (wrap64 ((wrap64 (a0_1 + 1)) - 1)) (l0_0.length : Int))) * 53)))) (wrap64 (Int.tdiv (wrap64 ((wrap64 ((wrap64 ((wrap64 ((wrap64 (rd l0_0 (Int.tmod (wrap64 ((wrap64 (a0_1 + 1)) - 1)) (l0_0.length : Int)))) * 131)) + (wrap64 ((wrap64 (rd l0_0 (Int.tmod (wrap64 ((wrap64 ((wrap64 ((wrap64 (a0_1 + 1)) - 1)) * 7)) + 3)) (l0_0.length : Int)))) * 1117)))) + (wrap64 ((wrap64 ((wrap64 (a0_1 + 1)) - 1)) * 29)))) + (wrap64 ((wrap64 (Int.tdiv (wrap64 ((wrap64 (a0_1 + 1)) - 1)) (l0_0.length : Int))) * 53)))) 64))) a1))) else none) else none) else none) else none) else none) else none) else none) else none)))
def spec_l40Rd_num.f (k : Nat) (l0_0 : List Int) (a0_1 : Int) (l1 : List Int) : Option (Int × Int) := (spec_l40Rd_pick.f k l0_0 a0_1 (l1.length : Int)).bind fun r1 => if 0 ≤ r1.2 then (if r1.2 < (l1.length : Int) then (some (r1.1, (rd l1 r1.2))) else none) else none
mutual
def spec_l20Draw.j3 : Nat → Int → Int → Int → Int → Int → Int → List Int → Int → List ITime → Int → Option (Int × (List ITime))
  | 0, _, _, _, _, _, _, _, _, _, _ => none
  | k + 1, x0b1q6, x2q12, x10b0q32, x10b1q32, x10b2q5, x10b3q11, l0_0, a1, x7, x8 => if x7.length + 1 ≤ 1099511627776 then (spec_l20Draw.l1 k x0b1q6 x2q12 (x7 ++ [(⟨x10b0q32, x10b1q32, x10b2q5, x10b3q11⟩ : ITime)]) (wrap64 (x8 - 1)) l0_0 a1) else none
def spec_l20Draw.j4 : Nat → Int → Int → List Int → Int → Int → List ITime → Int → Int × Int → Option (Int × (List ITime))
  | 0, _, _, _, _, _, _, _, _ => none
  | k + 1, x10b0q34, x10b1q34, l0_0, a1, x2q8, x7, x8, r3 => spec_l20Draw.j3 k r3.1 x2q8 x10b0q34 x10b1q34 0 0 l0_0 a1 x7 x8
def spec_l20Draw.j5 : Nat → Int → Int → List Int → Int → Int → List ITime → Int → Int × Int → Option (Int × (List ITime))
  | 0, _, _, _, _, _, _, _, _ => none
  | k + 1, x10b0q35, x10b1q35, l0_0, a1, x2q8, x7, x8, r3 => spec_l20Draw.j4 k x10b0q35 x10b1q35 l0_0 a1 x2q8 x7 x8 r3
def spec_l20Draw.j6 : Nat → Int → Int → Int → Int → Int → Int → List Int → Int → List ITime → Int → Option (Int × (List ITime))
  | 0, _, _, _, _, _, _, _, _, _, _ => none
  | k + 1, x0b1q7, x2q14, x10b0q39, x10b1q39, x10b2q6, x10b3q13, l0_0, a1, x7, x8 => spec_l20Draw.j3 k x0b1q7 x2q14 x10b0q39 x10b1q39 x10b2q6 x10b3q13 l0_0 a1 x7 x8
def spec_l20Draw.j7 : Nat → Int → Int → List Int → Int → Int → List ITime → Int → Int × Int → Option (Int × (List ITime))
  | 0, _, _, _, _, _, _, _, _ => none
  | k + 1, x10b0q41, x10b1q41, l0_0, a1, x2q8, x7, x8, r4 => spec_l20Draw.j6 k r4.1 x2q8 x10b0q41 x10b1q41 0 0 l0_0 a1 x7 x8
def spec_l20Draw.j8 : Nat → Int → Int → List Int → Int → Int → List ITime → Int → Int × Int → Option (Int × (List ITime))
  | 0, _, _, _, _, _, _, _, _ => none
  | k + 1, x10b0q42, x10b1q42, l0_0, a1, x2q8, x7, x8, r4 => spec_l20Draw.j7 k x10b0q42 x10b1q42 l0_0 a1 x2q8 x7 x8 r4
def spec_l20Draw.j10 : Nat → Int → List Int → Int → List ITime → Int → Int → Int × Int → Int × Int → Int × Int → Int → Option (Int × (List ITime))
  | 0, _, _, _, _, _, _, _, _, _, _ => none
  | k + 1, x2q15, l0_0, a1, x7, x8, x9q5, r5, r6, r7, x10b3q14 => spec_l20Draw.j6 k r7.1 x2q15 x9q5 0 (wrap64 ((wrap64 ((x7.length : Int) - 1)) - (wrap64 (r5.2 * r6.2)))) x10b3q14 l0_0 a1 x7 x8
def spec_l20Draw.j9 : Nat → Int → List Int → Int → Int → List ITime → Int → Int → Int × Int → Int × Int → Int × Int → Option (Int × (List ITime))
  | 0, _, _, _, _, _, _, _, _, _, _ => none
  | k + 1, x10b3q14, l0_0, a1, x2q8, x7, x8, x9q5, r5, r6, r7 => if x9q5 ≥ 5 then (spec_l20Draw.j10 k (wrap64 (x2q8 - 1)) l0_0 a1 x7 x8 x9q5 r5 r6 r7 x10b3q14) else (spec_l20Draw.j10 k x2q8 l0_0 a1 x7 x8 x9q5 r5 r6 r7 x10b3q14)
def spec_l20Draw.j2 : Nat → Int → List Int → Int → Int → List ITime → Int → Int × Int → Option (Int × (List ITime))
  | 0, _, _, _, _, _, _, _ => none
  | k + 1, x9q5, l0_0, a1, x2q8, x7, x8, r2 => if (x7.length : Int) = 0 then ((spec_l40Rd_pick.f k l0_0 r2.1 a1).bind fun r3 => if a1 = 0 then (spec_l20Draw.j4 k 0 0 l0_0 a1 x2q8 x7 x8 r3) else (if x9q5 = 0 then (if (x7.length : Int) > 0 then (spec_l20Draw.j5 k 0 0 l0_0 a1 x2q8 x7 x8 r3) else (spec_l20Draw.j5 k 1 r3.2 l0_0 a1 x2q8 x7 x8 r3)) else (spec_l20Draw.j4 k 1 r3.2 l0_0 a1 x2q8 x7 x8 r3))) else (if x9q5 ≤ 1 then ((spec_l40Rd_pick.f k l0_0 r2.1 a1).bind fun r4 => if a1 = 0 then (spec_l20Draw.j7 k 0 0 l0_0 a1 x2q8 x7 x8 r4) else (if x9q5 = 0 then (if (x7.length : Int) > 0 then (spec_l20Draw.j8 k 0 0 l0_0 a1 x2q8 x7 x8 r4) else (spec_l20Draw.j8 k 1 r4.2 l0_0 a1 x2q8 x7 x8 r4)) else (spec_l20Draw.j7 k 1 r4.2 l0_0 a1 x2q8 x7 x8 r4))) else ((spec_l40Rd_pick.f k l0_0 r2.1 2).bind fun r5 => (spec_l40Rd_pick.f k l0_0 r5.1 (x7.length : Int)).bind fun r6 => (spec_l40Rd_pick.f k l0_0 r6.1 (x7.length : Int)).bind fun r7 => (spec_l20One.f x9q5).bind fun r8 => if r8 = true then (spec_l20Draw.j9 k (wrap64 ((wrap64 ((x7.length : Int) - 1)) - (wrap64 (r5.2 * r6.2)))) l0_0 a1 x2q8 x7 x8 x9q5 r5 r6 r7) else (spec_l20Draw.j9 k r7.2 l0_0 a1 x2q8 x7 x8 x9q5 r5 r6 r7)))
def spec_l20Draw.j11 : Nat → Int → List Int → Int → Int → List ITime → Int → Int × Int → Option (Int × (List ITime))
  | 0, _, _, _, _, _, _, _ => none
  | k + 1, x9q6, l0_0, a1, x2q8, x7, x8, r2 => spec_l20Draw.j2 k x9q6 l0_0 a1 x2q8 x7 x8 r2
def spec_l20Draw.l1 : Nat → Int → Int → List ITime → Int → List Int → Int → Option (Int × (List ITime))
  | 0, _, _, _, _, _, _ => none
  | k + 1, x0b1q4, x2q8, x7, x8, l0_0, a1 => if x8 > 0 then ((spec_l40Rd_num.f k l0_0 x0b1q4 [1, 1, 2, 3, 4, 5, 6, 7, 6, 7, 0]).bind fun r2 => if r2.2 ≥ 5 then (if x2q8 = 0 then (spec_l20Draw.j11 k 3 l0_0 a1 x2q8 x7 x8 r2) else (spec_l20Draw.j11 k r2.2 l0_0 a1 x2q8 x7 x8 r2)) else (spec_l20Draw.j2 k r2.2 l0_0 a1 x2q8 x7 x8 r2)) else (some (x0b1q4, x7))
end
def spec_l20Draw.f (k : Nat) (l0_0 : List Int) (a0_1 : Int) (a1 : Int) (a2 : Int) : Option (Int × (List ITime)) := (spec_l40Rd_pick.f k l0_0 a0_1 7).bind fun r1 => spec_l20Draw.l1 k r1.1 a2 ([] : List ITime) (wrap64 (2 + r1.2)) l0_0 a1
mutual
def spec_l20Any.j1 : Nat → Int → Int → Int → Int → Int → List Int → Int × (List ITime) → Int × Int → Option (Int × (List ITime))
  | 0, _, _, _, _, _, _, _, _ => none
  | k + 1, x0b1q11, x9b0q2, x9b1q5, x9b2q11, x9b3q11, l0_0, r1, r3 => if 0 ≤ r3.2 then (if r3.2 < (r1.2.length : Int) then (some (x0b1q11, r1.2.set r3.2.toNat (⟨x9b0q2, x9b1q5, x9b2q11, x9b3q11⟩ : ITime))) else none) else none
def spec_l20Any.j2 : Nat → Int → Int → Int → Int → List Int → Int × (List ITime) → Int × Int → Option (Int × (List ITime))
  | 0, _, _, _, _, _, _, _ => none
  | k + 1, x0b1q13, x9b1q6, x9b2q13, x9b3q13, l0_0, r1, r3 => spec_l20Any.j1 k x0b1q13 ((rd_ITime r1.2 r3.2).f0) x9b1q6 x9b2q13 x9b3q13 l0_0 r1 r3
def spec_l20Any.j3 : Nat → Int → Int → Int → List Int → Int × (List ITime) → Int × Int → Option (Int × (List ITime))
  | 0, _, _, _, _, _, _ => none
  | k + 1, x0b1q14, x9b2q14, x9b3q14, l0_0, r1, r3 => spec_l20Any.j2 k x0b1q14 ((rd_ITime r1.2 r3.2).f1) x9b2q14 x9b3q14 l0_0 r1 r3
end
def spec_l20Any.f (k : Nat) (l0_0 : List Int) (a0_1 : Int) (a1 : Int) (a2 : Int) : Option (Int × (List ITime)) := (spec_l20Draw.f k l0_0 a0_1 a1 a2).bind fun r1 => (spec_l40Rd_pick.f k l0_0 r1.1 14).bind fun r2 => if r2.2 = 0 then ((spec_l40Rd_pick.f k l0_0 r2.1 (r1.2.length : Int)).bind fun r3 => if 0 ≤ r3.2 then (if r3.2 < (r1.2.length : Int) then ((spec_l40Rd_pick.f k l0_0 r3.1 4).bind fun r4 => if r4.2 = 0 then ((spec_l40Rd_num.f k l0_0 r4.1 [(-1), 8, 2, 6]).bind fun r5 => spec_l20Any.j1 k r5.1 r5.2 ((rd_ITime r1.2 r3.2).f1) ((rd_ITime r1.2 r3.2).f2) ((rd_ITime r1.2 r3.2).f3) l0_0 r1 r3) else (if r4.2 = 1 then ((spec_l40Rd_num.f k l0_0 r4.1 [a1, (-1), 1]).bind fun r6 => spec_l20Any.j2 k r6.1 r6.2 ((rd_ITime r1.2 r3.2).f2) ((rd_ITime r1.2 r3.2).f3) l0_0 r1 r3) else (if r4.2 = 2 then ((spec_l40Rd_num.f k l0_0 r4.1 [r3.2, (-1)]).bind fun r7 => spec_l20Any.j3 k r7.1 r7.2 ((rd_ITime r1.2 r3.2).f3) l0_0 r1 r3) else ((spec_l40Rd_num.f k l0_0 r4.1 [r3.2, (-1), 0]).bind fun r8 => spec_l20Any.j3 k r8.1 ((rd_ITime r1.2 r3.2).f2) r8.2 l0_0 r1 r3)))) else none) else none) else (some (r2.1, r1.2))
def spec_l21Small.f (k : Nat) (l0_0 : List Int) (a0_1 : Int) (a1 : Int) : Option (Int × (List ITime)) := (spec_l40Rd_pick.f k l0_0 a0_1 2).bind fun r1 => (spec_l20Any.f k l0_0 r1.1 a1 (wrap64 (1 + r1.2))).bind fun r2 => some (r2.1, r2.2)
mutual
def spec_l20Word.l2 : Nat → Int → List Int → Int → List Int → Int → Int → List (List Int) → Int → Option (Int × (List (List Int)))
  | 0, _, _, _, _, _, _, _, _ => none
  | k + 1, x0b1q3, x9q2, x10q2, l0_0, a1, a2, x7, x8 => if x10q2 < a1 then ((spec_l40Rd_pick.f k l0_0 x0b1q3 2).bind fun r1 => if x9q2.length + 1 ≤ 1099511627776 then (spec_l20Word.l2 k r1.1 (x9q2 ++ [r1.2]) (wrap64 (x10q2 + 1)) l0_0 a1 a2 x7 x8) else none) else (if x7.length + 1 ≤ 1099511627776 then (spec_l20Word.l1 k x0b1q3 (x7 ++ [x9q2]) (wrap64 (x8 + 1)) l0_0 a1 a2) else none)
def spec_l20Word.l1 : Nat → Int → List (List Int) → Int → List Int → Int → Int → Option (Int × (List (List Int)))
  | 0, _, _, _, _, _, _ => none
  | k + 1, x0b1q2, x7, x8, l0_0, a1, a2 => if x8 < a2 then (spec_l20Word.l2 k x0b1q2 ([] : List Int) 0 l0_0 a1 a2 x7 x8) else (some (x0b1q2, x7))
end
def spec_l20Word.f (k : Nat) (l0_0 : List Int) (a0_1 : Int) (a1 : Int) (a2 : Int) : Option (Int × (List (List Int))) := spec_l20Word.l1 k a0_1 ([] : List (List Int)) 0 l0_0 a1 a2
def spec_l40Open.f (k : Nat) (l0 : List Int) : Option (List Int × Int) := if (l0.length : Int) > 2000 then (if 2000 ≤ (l0.length : Int) then (some ((l0.take (2000 : Int).toNat), 0)) else none) else (some (l0, 0))
mutual
def spec_l21On.j1 : Nat → List (List Int) → Int × Int → Int × (List ITime) → Int × (List (List Int)) → Option ((List ITime) × (List (List Int)) × (List (List Int)) × Int)
  | 0, _, _, _, _ => none
  | k + 1, x10, r2, r3, r5 => some (r3.2, r5.2, x10, r2.2)
end
def spec_l21On.f (k : Nat) (l0 : List Int) : Option ((List ITime) × (List (List Int)) × (List (List Int)) × Int) := (spec_l40Open.f k l0).bind fun r1 => (spec_l40Rd_num.f k r1.1 r1.2 [1, 2, 1]).bind fun r2 => (spec_l21Small.f k r1.1 r2.1 r2.2).bind fun r3 => (spec_l40Rd_pick.f k r1.1 r3.1 2).bind fun r4 => (spec_l20Word.f k r1.1 r4.1 r2.2 r4.2).bind fun r5 => (spec_l40Rd_pick.f k r1.1 r5.1 2).bind fun r6 => (spec_l20Word.f k r1.1 r6.1 r2.2 (wrap64 (1 + r6.2))).bind fun r7 => (spec_l40Rd_pick.f k r1.1 r7.1 16).bind fun r8 => if r8.2 = 0 then (spec_l21On.j1 k ([] : List (List Int)) r2 r3 r5) else (spec_l21On.j1 k r7.2 r2 r3 r5)
def spec_DrawGuessesAt.f (k : Nat) (l0 : List Int) : Option ((List ITime) × (List (List Int)) × (List (List Int)) × Int) := (spec_l21On.f k l0).bind fun r1 => some (r1.1, r1.2.1, r1.2.2.1, r1.2.2.2)
def laws_wcInts.l0 : Nat → List Int → List Int → Int → Int → Option (Bool)
  | 0, _, _, _, _ => none
  | k + 1, x1, x12, x13, x14 => if x14 < x13 then (if 0 ≤ x14 then (if x14 < (x12.length : Int) then (if x14 < (x1.length : Int) then (if (rd x1 x14) = (rd x12 x14) then (laws_wcInts.l0 k x1 x12 x13 (wrap64 (x14 + 1))) else (some false)) else (none)) else (none)) else (none)) else (some true)
def laws_wcInts.f (k : Nat) (l0 : List Int) (l1 : List Int) : Option (Bool) := if (l0.length : Int) = (l1.length : Int) then (laws_wcInts.l0 k l1 l0 (l0.length : Int) 0) else (some false)
def impl_GuessCount.f (k : Nat) (l0 : List (ITime)) (a1 : Int) : Option (Int) := (impl_guessed.f k l0 a1).bind fun bt780 => (if bt780.2 = true then (if 0 ≤ (wrap64 (a1 + (bt780.1.length : Int))) then (some (shl .i64 1 (wrap64 (a1 + (bt780.1.length : Int))))) else (none)) else (some 0))
def spec_GuessCount.f (k : Nat) (l0 : List (ITime)) (a1 : Int) : Option (Int) := (spec_l21Asked.f k l0 a1).bind fun t784 => (if t784 = true then ((spec_l21Steps.f k l0).bind fun t785 => (if 0 ≤ (wrap64 (a1 + (t785.length : Int))) then (some (shl .i64 1 (wrap64 (a1 + (t785.length : Int))))) else (none))) else (some 0))
mutual
def impl_behindOk.l0 : Nat → List Int → List Int → List (ITime) → Int → Int → Option (Bool)
  | 0, _, _, _, _, _ => none
  | k + 1, x1, x2, x12, x13, x14 => if x14 < x13 then (if 0 ≤ x14 then (if x14 < (x12.length : Int) then (if ((rd_ITime x12 x14).f0) ≥ 5 then (impl_behindOk.j1 k x1 x2 x14 ((rd_ITime x12 x14).f2) ((rd_ITime x12 x14).f3) x12 x13 x14 ((rd_ITime x12 x14).f0) ((rd_ITime x12 x14).f1) ((rd_ITime x12 x14).f2) ((rd_ITime x12 x14).f3)) else (impl_behindOk.j1 k x1 x2 x14 0 0 x12 x13 x14 ((rd_ITime x12 x14).f0) ((rd_ITime x12 x14).f1) ((rd_ITime x12 x14).f2) ((rd_ITime x12 x14).f3))) else (none)) else (none)) else (some true)
def impl_behindOk.j1 : Nat → List Int → List Int → Int → Int → Int → List (ITime) → Int → Int → Int → Int → Int → Int → Option (Bool)
  | 0, _, _, _, _, _, _, _, _, _, _, _, _ => none
  | k + 1, x1, x2, x7, x9, x10, x12, x13, x14, x790000, x790001, x790002, x790003 => if 0 ≤ x7 then (if x7 < (x1.length : Int) then (if x790000 = 5 then (if 0 ≤ x9 then (if x9 < (x2.length : Int) then (impl_behindOk.j2 k x1 x2 x7 (rd x2 x9) x12 x13 x14) else (none)) else (none)) else (if x790000 = 6 then (if 0 ≤ x10 then (if x10 < (x1.length : Int) then (if 0 ≤ x9 then (if x9 < (x1.length : Int) then (if x7 < (x2.length : Int) then (impl_behindOk.j2 k x1 x2 x7 (Go.bits .or .i64 (rd x1 x10) (Go.bits .and .i64 (rd x1 x9) (rd x2 x7))) x12 x13 x14) else (none)) else (none)) else (none)) else (none)) else (none)) else (if x790000 = 7 then (if 0 ≤ x10 then (if x10 < (x1.length : Int) then (if 0 ≤ x9 then (if x9 < (x1.length : Int) then (if x7 < (x2.length : Int) then (impl_behindOk.j2 k x1 x2 x7 (Go.bits .and .i64 (rd x1 x10) (Go.bits .or .i64 (rd x1 x9) (rd x2 x7))) x12 x13 x14) else (none)) else (none)) else (none)) else (none)) else (none)) else (impl_behindOk.j2 k x1 x2 x7 (rd x1 x7) x12 x13 x14)))) else (none)) else (none)
def impl_behindOk.j2 : Nat → List Int → List Int → Int → Int → List (ITime) → Int → Int → Option (Bool)
  | 0, _, _, _, _, _, _, _ => none
  | k + 1, x1, x2, x7, x11, x12, x13, x14 => if 0 ≤ x7 then (if x7 < (x1.length : Int) then (if (rd x1 x7) = x11 then (impl_behindOk.l0 k x1 x2 x12 x13 (wrap64 (x14 + 1))) else (some false)) else (none)) else (none)
end
def impl_behindOk.f (k : Nat) (l0 : List (ITime)) (l1 : List Int) (l2 : List Int) : Option (Bool) := impl_behindOk.l0 k l1 l2 l0 (l0.length : Int) 0
def impl_valueBits.l0 : Nat → Int → Int → List Int → Int → Int → Option (List Int)
  | 0, _, _, _, _, _ => none
  | k + 1, x0, x1, x5, x10, x11 => if x11 < x10 then (if 0 ≤ (wrap64 ((wrap64 (x1 - 1)) - x11)) then (if 0 ≤ x11 then (if x11 < (x5.length : Int) then (impl_valueBits.l0 k x0 x1 (x5.set (x11 : Int).toNat (Go.bits .and .i64 (shr .i64 x0 (wrap64 ((wrap64 (x1 - 1)) - x11))) 1)) x10 (wrap64 (x11 + 1))) else (none)) else (none)) else (none)) else (some x5)
def impl_valueBits.f (k : Nat) (a0 : Int) (a1 : Int) : Option (List Int) := if 0 ≤ a1 then (if (a1 : Int).toNat ≤ 35184372088832 then ((some (List.replicate (a1 : Int).toNat 0 : List Int)).bind fun y799 => (impl_valueBits.l0 k a0 a1 y799 (y799.length : Int) 0)) else (none)) else (none)
def impl_truths.l0 : Nat → List Int → List Int → Int → List (ITime) → Int → Int → Option (List Int)
  | 0, _, _, _, _, _, _ => none
  | k + 1, x9, x10, x11, x30, x31, x32 => if x32 < x31 then (if 0 ≤ x32 then (if x32 < (x30.length : Int) then (if ((rd_ITime x30 x32).f0) = 0 then (if x32 < (x10.length : Int) then (impl_truths.l0 k x9 (x10.set (x32 : Int).toNat 1) x11 x30 x31 (wrap64 (x32 + 1))) else (none)) else (if ((rd_ITime x30 x32).f0) = 1 then (if 0 ≤ ((rd_ITime x30 x32).f1) then (if ((rd_ITime x30 x32).f1) < (x9.length : Int) then (if x32 < (x10.length : Int) then (impl_truths.l0 k x9 (x10.set (x32 : Int).toNat (rd x9 ((rd_ITime x30 x32).f1))) x11 x30 x31 (wrap64 (x32 + 1))) else (none)) else (none)) else (none)) else (if ((rd_ITime x30 x32).f0) = 2 then (if 0 ≤ ((rd_ITime x30 x32).f2) then (if ((rd_ITime x30 x32).f2) < (x10.length : Int) then (if x32 < (x10.length : Int) then (impl_truths.l0 k x9 (x10.set (x32 : Int).toNat (wrap64 (1 - (rd x10 ((rd_ITime x30 x32).f2))))) x11 x30 x31 (wrap64 (x32 + 1))) else (none)) else (none)) else (none)) else (if ((rd_ITime x30 x32).f0) = 3 then (if 0 ≤ ((rd_ITime x30 x32).f2) then (if ((rd_ITime x30 x32).f2) < (x10.length : Int) then (if 0 ≤ ((rd_ITime x30 x32).f3) then (if ((rd_ITime x30 x32).f3) < (x10.length : Int) then (if x32 < (x10.length : Int) then (impl_truths.l0 k x9 (x10.set (x32 : Int).toNat (Go.bits .and .i64 (rd x10 ((rd_ITime x30 x32).f2)) (rd x10 ((rd_ITime x30 x32).f3)))) x11 x30 x31 (wrap64 (x32 + 1))) else (none)) else (none)) else (none)) else (none)) else (none)) else (if ((rd_ITime x30 x32).f0) = 4 then (if 0 ≤ ((rd_ITime x30 x32).f2) then (if ((rd_ITime x30 x32).f2) < (x10.length : Int) then (if 0 ≤ ((rd_ITime x30 x32).f3) then (if ((rd_ITime x30 x32).f3) < (x10.length : Int) then (if x32 < (x10.length : Int) then (impl_truths.l0 k x9 (x10.set (x32 : Int).toNat (Go.bits .or .i64 (rd x10 ((rd_ITime x30 x32).f2)) (rd x10 ((rd_ITime x30 x32).f3)))) x11 x30 x31 (wrap64 (x32 + 1))) else (none)) else (none)) else (none)) else (none)) else (none)) else (if 0 ≤ x11 then (if x11 < (x9.length : Int) then (if x32 < (x10.length : Int) then (impl_truths.l0 k x9 (x10.set (x32 : Int).toNat (rd x9 x11)) (wrap64 (x11 + 1)) x30 x31 (wrap64 (x32 + 1))) else (none)) else (none)) else (none))))))) else (none)) else (none)) else (some x10)
def impl_truths.f (k : Nat) (l0 : List (ITime)) (a1 : Int) (a2 : Int) : Option (List Int) := (impl_guessed.f k l0 a1).bind fun bt803 => ((impl_valueBits.f k a2 (wrap64 (a1 + (bt803.1.length : Int)))).bind fun t807 => (if 0 ≤ (l0.length : Int) then (if ((l0.length : Int) : Int).toNat ≤ 35184372088832 then (impl_truths.l0 k t807 (List.replicate ((l0.length : Int) : Int).toNat 0) a1 l0 (l0.length : Int) 0) else (none)) else (none)))
def impl_GuessNext.f (k : Nat) (l0 : List (ITime)) (a1 : Int) (a2 : Int) (a3 : Int) : Option (Bool) := (impl_GuessCount.f k l0 a1).bind fun t828 => ((impl_in.f a2 0 (wrap64 (t828 - 1))).bind fun t829 => (if t829 = true then ((impl_in.f a3 0 (wrap64 (t828 - 1))).bind fun t830 => (if t830 = true then ((impl_truths.f k l0 a1 a2).bind fun t831 => ((impl_truths.f k l0 a1 a3).bind fun t834 => ((impl_behindOk.f k l0 t831 t834).bind fun t837 => (some t837)))) else (some false))) else (some false)))
def impl_bitsFor.l0 : Nat → Int → Int → Option (Int)
  | 0, _, _ => none
  | k + 1, x0, x3 => if 0 ≤ x3 then (if (shl .i64 1 x3) < x0 then (impl_bitsFor.l0 k x0 (wrap64 (x3 + 1))) else (some x3)) else (none)
def impl_bitsFor.f (k : Nat) (a0 : Int) : Option (Int) := impl_bitsFor.l0 k a0 0
theorem impl_bitsFor.mono_l : ∀ k, (∀ y0 y1, LeO (impl_bitsFor.l0 k y0 y1) (impl_bitsFor.l0 (k + 1) y0 y1))
  | 0 => fun _ _ r h => by simp [impl_bitsFor.l0] at h
  | k + 1 => by
    have ih0 := impl_bitsFor.mono_l k
    · intro y0 y1
      unfold impl_bitsFor.l0
      repeat' first
      | (with_reducible exact ih0 _ _)
      | (with_reducible exact LeO.refl _)
      | (with_reducible exact LeO.none _)
      | (with_reducible refine LeO.ite ?_ ?_)
      | (with_reducible refine LeO.bind ?_ (fun _ => ?_))
      | exact ih0 _ _
      | exact LeO.none _
      | refine LeO.ite ?_ ?_
      | refine LeO.bind ?_ (fun _ => ?_)
theorem impl_bitsFor.mono : ∀ a0 k, LeO (impl_bitsFor.f k a0) (impl_bitsFor.f (k + 1) a0) := by
  intro a0 k
  have ih0 := impl_bitsFor.mono_l k
  unfold impl_bitsFor.f
  repeat' first
      | (with_reducible exact ih0 _ _)
      | (with_reducible exact LeO.refl _)
      | (with_reducible exact LeO.none _)
      | (with_reducible refine LeO.ite ?_ ?_)
      | (with_reducible refine LeO.bind ?_ (fun _ => ?_))
      | exact ih0 _ _
      | exact LeO.none _
      | refine LeO.ite ?_ ?_
      | refine LeO.bind ?_ (fun _ => ?_)
def impl_GuessLetter.f (k : Nat) (l0 : List (ITime)) (a1 : Int) (a2 : Int) : Option (List Int) := (impl_GuessCount.f k l0 a1).bind fun t838 => ((impl_in.f a2 0 (wrap64 (t838 - 1))).bind fun t839 => (if t839 = true then ((impl_bitsFor.f k t838).bind fun t840 => ((impl_valueBits.f k a2 t840).bind fun t841 => (if 0 ≤ a1 then (if a1 ≤ (t841.length : Int) then ((impl_clone_int.f (t841.take (a1 : Int).toNat)).bind fun t848 => (some t848)) else (none)) else (none)))) else (some ([] : List Int))))
def impl_keeps.l0 : Nat → List Int → List Int → List (ITime) → Int → Int → Option (List Int)
  | 0, _, _, _, _, _ => none
  | k + 1, x1, x5, x8, x9, x10 => if x10 < x9 then (if 0 ≤ x10 then (if x10 < (x8.length : Int) then (if ((rd_ITime x8 x10).f0) = 6 then (if x10 < (x1.length : Int) then (if 0 ≤ ((rd_ITime x8 x10).f3) then (if ((rd_ITime x8 x10).f3) < (x1.length : Int) then (if x5.length < 17592186044416 then (impl_keeps.l0 k x1 (x5 ++ [Go.bits .or .i64 (wrap64 (1 - (rd x1 x10))) (rd x1 ((rd_ITime x8 x10).f3))]) x8 x9 (wrap64 (x10 + 1))) else (none)) else (none)) else (none)) else (none)) else (if ((rd_ITime x8 x10).f0) = 7 then (if x10 < (x1.length : Int) then (if 0 ≤ ((rd_ITime x8 x10).f3) then (if ((rd_ITime x8 x10).f3) < (x1.length : Int) then (if x5.length < 17592186044416 then (impl_keeps.l0 k x1 (x5 ++ [Go.bits .or .i64 (rd x1 x10) (wrap64 (1 - (rd x1 ((rd_ITime x8 x10).f3))))]) x8 x9 (wrap64 (x10 + 1))) else (none)) else (none)) else (none)) else (none)) else (impl_keeps.l0 k x1 x5 x8 x9 (wrap64 (x10 + 1))))) else (none)) else (none)) else ((impl_clone_int.f x5).bind fun t863 => (some t863))
def impl_keeps.f (k : Nat) (l0 : List (ITime)) (l1 : List Int) : Option (List Int) := impl_keeps.l0 k l1 ([] : List Int) l0 (l0.length : Int) 0
def impl_GuessKept.f (k : Nat) (l0 : List (ITime)) (a1 : Int) (a2 : Int) : Option (List Int) := (impl_GuessCount.f k l0 a1).bind fun t866 => ((impl_in.f a2 0 (wrap64 (t866 - 1))).bind fun t867 => (if t867 = true then ((impl_truths.f k l0 a1 a2).bind fun t868 => ((impl_keeps.f k l0 t868).bind fun t871 => (some t871))) else (some ([] : List Int))))
def laws_wcHas.l0 : Nat → Int → List Int → Int → Int → Option (Bool)
  | 0, _, _, _, _ => none
  | k + 1, x1, x7, x8, x9 => if x9 < x8 then (if 0 ≤ x9 then (if x9 < (x7.length : Int) then (if (rd x7 x9) = x1 then (some true) else (laws_wcHas.l0 k x1 x7 x8 (wrap64 (x9 + 1)))) else (none)) else (none)) else (some false)
def laws_wcHas.f (k : Nat) (l0 : List Int) (a1 : Int) : Option (Bool) := laws_wcHas.l0 k a1 l0 (l0.length : Int) 0
def impl_WordValid_1.f (k : Nat) (l0 : List Int) (a1 : Int) : Option Bool := (impl_letterOk.f k l0 a1).bind fun r1 => some (!r1)
mutual
def slices_IndexFunc_int_int_at_impl_WordValid_1.l1 : Nat → Int → List (List Int) → Int → Option Int
  | 0, _, _, _ => none
  | k + 1, x8, l0, a2 => if x8 < (l0.length : Int) then (if 0 ≤ x8 then (if x8 < (l0.length : Int) then ((impl_WordValid_1.f k (rd_Lint l0 x8) a2).bind fun r1 => if r1 = true then (some x8) else (slices_IndexFunc_int_int_at_impl_WordValid_1.l1 k (wrap64 (x8 + 1)) l0 a2)) else none) else none) else (some (-1))
end
def slices_IndexFunc_int_int_at_impl_WordValid_1.f (k : Nat) (l0 : List (List Int)) (a2 : Int) : Option Int := slices_IndexFunc_int_int_at_impl_WordValid_1.l1 k 0 l0 a2
def slices_ContainsFunc_int_int_at_impl_WordValid_1.f (k : Nat) (l0 : List (List Int)) (a2 : Int) : Option Bool := (slices_IndexFunc_int_int_at_impl_WordValid_1.f k l0 a2).bind fun r1 => some (decide (r1 ≥ 0))
def impl_WordValid.f (k : Nat) (l0 : List (List Int)) (l1 : List (List Int)) (a2 : Int) : Option Bool := (impl_in.f a2 0 4).bind fun r1 => if r1 = true then (if (l1.length : Int) > 0 then (if (wrap64 ((l0.length : Int) + (l1.length : Int))) ≤ 60 then ((slices_ContainsFunc_int_int_at_impl_WordValid_1.f k l0 a2).bind fun r2 => if r2 = true then (some false) else ((slices_ContainsFunc_int_int_at_impl_WordValid_1.f k l1 a2).bind fun r3 => some (!r3))) else (some false)) else (some false)) else (some false)
def slices_Grow_int_int.f (l0 : List (List Int)) (a1 : Int) : Option (List (List Int)) := if 0 ≤ a1 then (if a1 ≤ 1099511627776 then (some ([] : List (List Int))) else none) else none
mutual
def slices_Concat_int_int.l2 : Nat → List (List Int) → Int → List (List (List Int)) → Option (List (List Int))
  | 0, _, _, _ => none
  | k + 1, x6q4, x27q4, l0 => if x27q4 < (l0.length : Int) then (if 0 ≤ x27q4 then (if x27q4 < (l0.length : Int) then (if x6q4.length + (rd_LLint l0 x27q4).length ≤ 1099511627776 then (slices_Concat_int_int.l2 k (x6q4 ++ (rd_LLint l0 x27q4)) (wrap64 (x27q4 + 1)) l0) else none) else none) else none) else (some x6q4)
def slices_Concat_int_int.l1 : Nat → Int → Int → List (List (List Int)) → Option (List (List Int))
  | 0, _, _, _ => none
  | k + 1, x3, x11, l0 => if x11 < (l0.length : Int) then (if 0 ≤ x11 then (if x11 < (l0.length : Int) then (if (wrap64 (x3 + ((rd_LLint l0 x11).length : Int))) < 0 then (Option.none) else (slices_Concat_int_int.l1 k (wrap64 (x3 + ((rd_LLint l0 x11).length : Int))) (wrap64 (x11 + 1)) l0)) else none) else none) else ((slices_Grow_int_int.f ([] : List (List Int)) x3).bind fun r1 => slices_Concat_int_int.l2 k r1 0 l0)
end
def slices_Concat_int_int.f (k : Nat) (l0 : List (List (List Int))) : Option (List (List Int)) := slices_Concat_int_int.l1 k 0 0 l0
def impl_timesOn_1.f (k : Nat) (a0 : Int) (a1 : Int) (l2 : List (List Int)) : Option Int := if (wrap64 (a0 + 1)) = a1 then (some (l2.length : Int)) else (some (wrap64 (a0 + 1)))
mutual
def impl_timesOn_2.j1 : Nat → Int → Int → Int → Int → Int → Int → Int → List (List Int) → List (List Int) → Int → List (List Int) → List Int → Option Int
  | 0, _, _, _, _, _, _, _, _, _, _, _, _ => none
  | k + 1, x8, x9, a0, a1_0, a1_1, a1_2, a1_3, l2, l3, a4_0, l4_1, l5 => if a1_0 = 0 then (some 1) else (if a1_0 = 1 then (if 0 ≤ a0 then (if a0 < (l3.length : Int) then (if 0 ≤ a1_1 then (if a1_1 < ((rd_Lint l3 a0).length : Int) then (some (rd (rd_Lint l3 a0) a1_1)) else none) else none) else none) else none) else (if a1_0 = 2 then (some (wrap64 (1 - x8))) else (if a1_0 = 3 then (some (Go.bits .and .i64 x8 x9)) else (if a1_0 = 4 then (some (Go.bits .or .i64 x8 x9)) else (if a1_0 = 5 then (if 0 ≤ a1_2 then (if a1_2 < (l2.length : Int) then ((impl_timesOn_1.f k a0 a4_0 l4_1).bind fun r1 => if 0 ≤ r1 then (if r1 < ((rd_Lint l2 a1_2).length : Int) then (some (rd (rd_Lint l2 a1_2) r1)) else none) else none) else none) else none) else (if a1_0 = 6 then ((impl_timesOn_1.f k a0 a4_0 l4_1).bind fun r2 => if 0 ≤ r2 then (if r2 < (l5.length : Int) then (some (Go.bits .or .i64 x9 (Go.bits .and .i64 x8 (rd l5 r2)))) else none) else none) else ((impl_timesOn_1.f k a0 a4_0 l4_1).bind fun r3 => if 0 ≤ r3 then (if r3 < (l5.length : Int) then (some (Go.bits .and .i64 x9 (Go.bits .or .i64 x8 (rd l5 r3)))) else none) else none)))))))
end
def impl_timesOn_2.f (k : Nat) (a0 : Int) (a1_0 : Int) (a1_1 : Int) (a1_2 : Int) (a1_3 : Int) (l2 : List (List Int)) (l3 : List (List Int)) (a4_0 : Int) (l4_1 : List (List Int)) (l5 : List Int) : Option Int := if a1_0 > 1 then (if 0 ≤ a1_2 then (if a1_2 < (l2.length : Int) then (if 0 ≤ a0 then (if a0 < ((rd_Lint l2 a1_2).length : Int) then (if 0 ≤ a1_3 then (if a1_3 < (l2.length : Int) then (if 0 ≤ a0 then (if a0 < ((rd_Lint l2 a1_3).length : Int) then (impl_timesOn_2.j1 k (rd (rd_Lint l2 a1_2) a0) (rd (rd_Lint l2 a1_3) a0) a0 a1_0 a1_1 a1_2 a1_3 l2 l3 a4_0 l4_1 l5) else none) else none) else none) else none) else none) else none) else none) else none) else (impl_timesOn_2.j1 k 0 0 a0 a1_0 a1_1 a1_2 a1_3 l2 l3 a4_0 l4_1 l5)
mutual
def impl_timesOn.l5 : Nat → List Int → Int → List ITime → List (List Int) → (List (List Int)) → List (List Int) → Int → Int → Option (List (List Int))
  | 0, _, _, _, _, _, _, _, _ => none
  | k + 1, x13b0q26, x17q16, l0, l1, r1, x10b0, x30, x51q8 => if x17q16 ≥ 0 then ((impl_timesOn_2.f k x17q16 ((rd_ITime l0 x30).f0) ((rd_ITime l0 x30).f1) ((rd_ITime l0 x30).f2) ((rd_ITime l0 x30).f3) x10b0 r1 (r1.length : Int) l1 x13b0q26).bind fun r2 => if 0 ≤ x17q16 then (if x17q16 < (x13b0q26.length : Int) then (impl_timesOn.l5 k (x13b0q26.set x17q16.toNat r2) (wrap64 (x17q16 - 1)) l0 l1 r1 x10b0 x30 x51q8) else none) else none) else (impl_timesOn.l4 k x13b0q26 (wrap64 (x51q8 + 1)) l0 l1 r1 x10b0 x30)
def impl_timesOn.l4 : Nat → List Int → Int → List ITime → List (List Int) → (List (List Int)) → List (List Int) → Int → Option (List (List Int))
  | 0, _, _, _, _, _, _, _ => none
  | k + 1, x13b0q25, x51q8, l0, l1, r1, x10b0, x30 => if x51q8 < 2 then (impl_timesOn.l5 k x13b0q25 (wrap64 ((r1.length : Int) - 1)) l0 l1 r1 x10b0 x30 x51q8) else (if 0 ≤ x30 then (if x30 < (x10b0.length : Int) then (impl_timesOn.l1 k (x10b0.set x30.toNat x13b0q25) (wrap64 (x30 + 1)) l0 l1 r1) else none) else none)
def impl_timesOn.l3 : Nat → List Int → Int → List ITime → List (List Int) → (List (List Int)) → List (List Int) → Int → Int → Option (List (List Int))
  | 0, _, _, _, _, _, _, _, _ => none
  | k + 1, x13b0q20, x43q2, l0, l1, r1, x10b0, x30, x14q2 => if x43q2 < ((List.replicate (r1.length : Int).toNat (0 : Int)).length : Int) then (if 0 ≤ x43q2 then (if x43q2 < (x13b0q20.length : Int) then (impl_timesOn.l3 k (x13b0q20.set x43q2.toNat x14q2) (wrap64 (x43q2 + 1)) l0 l1 r1 x10b0 x30 x14q2) else none) else none) else (impl_timesOn.l4 k x13b0q20 0 l0 l1 r1 x10b0 x30)
def impl_timesOn.j2 : Nat → Int → List ITime → List (List Int) → (List (List Int)) → List (List Int) → Int → Option (List (List Int))
  | 0, _, _, _, _, _, _ => none
  | k + 1, x14q2, l0, l1, r1, x10b0, x30 => impl_timesOn.l3 k (List.replicate (r1.length : Int).toNat (0 : Int)) 0 l0 l1 r1 x10b0 x30 x14q2
def impl_timesOn.l1 : Nat → List (List Int) → Int → List ITime → List (List Int) → (List (List Int)) → Option (List (List Int))
  | 0, _, _, _, _, _ => none
  | k + 1, x10b0, x30, l0, l1, r1 => if x30 < (l0.length : Int) then (if 0 ≤ x30 then (if x30 < (l0.length : Int) then (if 0 ≤ (r1.length : Int) then (if (r1.length : Int) ≤ 1099511627776 then (if ((rd_ITime l0 x30).f0) = 7 then (impl_timesOn.j2 k 1 l0 l1 r1 x10b0 x30) else (impl_timesOn.j2 k 0 l0 l1 r1 x10b0 x30)) else none) else none) else none) else none) else (some x10b0)
end
def impl_timesOn.f (k : Nat) (l0 : List ITime) (l1 : List (List Int)) (l2 : List (List Int)) : Option (List (List Int)) := (slices_Concat_int_int.f k [l1, l2]).bind fun r1 => if 0 ≤ (l0.length : Int) then (if (l0.length : Int) ≤ 1099511627776 then (impl_timesOn.l1 k (List.replicate (l0.length : Int).toNat ([] : List Int)) 0 l0 l1 r1) else none) else none
def slices_Clone_int_int.f (l0 : List Int) : Option (List Int) := if l0.length ≤ 1099511627776 then (some l0) else none
mutual
def impl_GuessesAt.l2 : Nat → List Int → Int → (List Int) × Bool → (List (List Int)) → (List (List Int)) → List Int → Int → Option (List Int)
  | 0, _, _, _, _, _, _, _ => none
  | k + 1, x15q2, x51q2, r1, r3, r4, x12, x42 => if x51q2 < (r1.1.length : Int) then (if 0 ≤ x51q2 then (if x51q2 < (r1.1.length : Int) then (if 0 ≤ (rd r1.1 x51q2) then (if (rd r1.1 x51q2) < (r3.length : Int) then (if 0 ≤ x42 then (if x42 < ((rd_Lint r3 (rd r1.1 x51q2)).length : Int) then (if x15q2.length + 1 ≤ 1099511627776 then (impl_GuessesAt.l2 k (x15q2 ++ [(rd (rd_Lint r3 (rd r1.1 x51q2)) x42)]) (wrap64 (x51q2 + 1)) r1 r3 r4 x12 x42) else none) else none) else none) else none) else none) else none) else none) else ((impl_bitsValue.f k x15q2).bind fun r6 => if x12.length + 1 ≤ 1099511627776 then (impl_GuessesAt.l1 k (x12 ++ [r6]) (wrap64 (x42 + 1)) r1 r3 r4) else none)
def impl_GuessesAt.l1 : Nat → List Int → Int → (List Int) × Bool → (List (List Int)) → (List (List Int)) → Option (List Int)
  | 0, _, _, _, _, _ => none
  | k + 1, x12, x42, r1, r3, r4 => if x42 < (r4.length : Int) then (if 0 ≤ x42 then (if x42 < (r4.length : Int) then ((slices_Clone_int_int.f (rd_Lint r4 x42)).bind fun r5 => impl_GuessesAt.l2 k r5 0 r1 r3 r4 x12 x42) else none) else none) else ((impl_clone_int.f x12).bind fun r7 => some r7)
end
def impl_GuessesAt.f (k : Nat) (l0 : List ITime) (l1 : List (List Int)) (l2 : List (List Int)) (a3 : Int) : Option (List Int) := (impl_guessed.f k l0 a3).bind fun r1 => if r1.2 = true then ((impl_WordValid.f k l1 l2 a3).bind fun r2 => if r2 = true then ((impl_timesOn.f k l0 l1 l2).bind fun r3 => (slices_Concat_int_int.f k [l1, l2]).bind fun r4 => impl_GuessesAt.l1 k ([] : List Int) 0 r1 r3 r4) else (some ([] : List Int))) else (some ([] : List Int))
mutual
def laws_FnGuessesAt.j4 : Nat → List Int → (List ITime) × (List (List Int)) × (List (List Int)) × Int → (List Int) → Int → (List Int) → Int → Option Bool
  | 0, _, _, _, _, _, _ => none
  | k + 1, x8q7, r1, r2, x50, r10, x94q2 => if x50 ≥ (r1.2.1.length : Int) then (if (rd r10 x94q2) = 1 then (if 0 ≤ x94q2 then (if x94q2 < (x8q7.length : Int) then (laws_FnGuessesAt.l3 k (x8q7.set x94q2.toNat 1) (wrap64 (x94q2 + 1)) r1 r2 x50 r10) else none) else none) else (laws_FnGuessesAt.l3 k x8q7 (wrap64 (x94q2 + 1)) r1 r2 x50 r10)) else (laws_FnGuessesAt.l3 k x8q7 (wrap64 (x94q2 + 1)) r1 r2 x50 r10)
def laws_FnGuessesAt.l3 : Nat → List Int → Int → (List ITime) × (List (List Int)) × (List (List Int)) × Int → (List Int) → Int → (List Int) → Option Bool
  | 0, _, _, _, _, _, _ => none
  | k + 1, x8q6, x94q2, r1, r2, x50, r10 => if x94q2 < (r10.length : Int) then (if 0 ≤ x94q2 then (if x94q2 < (r10.length : Int) then (if x50 = 0 then (if x8q6.length + 1 ≤ 1099511627776 then (laws_FnGuessesAt.j4 k (x8q6 ++ [0]) r1 r2 x50 r10 x94q2) else none) else (laws_FnGuessesAt.j4 k x8q6 r1 r2 x50 r10 x94q2)) else none) else none) else (laws_FnGuessesAt.l1 k x8q6 (wrap64 (x50 + 1)) r1 r2)
def laws_FnGuessesAt.j2 : Nat → Int → (List ITime) × (List (List Int)) × (List (List Int)) × Int → (List Int) → List Int → Int → Option Bool
  | 0, _, _, _, _, _ => none
  | k + 1, x11q2, r1, r2, x8q4, x50 => if ([] : List (List Int)).length + r1.2.1.length ≤ 1099511627776 then (if (([] : List (List Int)) ++ r1.2.1).length + r1.2.2.1.length ≤ 1099511627776 then (if 0 ≤ x50 then (if x50 < (((([] : List (List Int)) ++ r1.2.1) ++ r1.2.2.1).length : Int) then (if 0 ≤ x11q2 then (if x11q2 < (r2.length : Int) then ((impl_GuessNext.f k r1.1 r1.2.2.2 (rd r2 x50) (rd r2 x11q2)).bind fun r7 => if r7 = true then ((impl_GuessLetter.f k r1.1 r1.2.2.2 (rd r2 x50)).bind fun r8 => (laws_wcInts.f k r8 (rd_Lint ((([] : List (List Int)) ++ r1.2.1) ++ r1.2.2.1) x50)).bind fun r9 => if r9 = true then ((impl_GuessKept.f k r1.1 r1.2.2.2 (rd r2 x50)).bind fun r10 => laws_FnGuessesAt.l3 k x8q4 0 r1 r2 x50 r10) else (some false)) else (some false)) else none) else none) else none) else none) else none) else none
def laws_FnGuessesAt.l1 : Nat → List Int → Int → (List ITime) × (List (List Int)) × (List (List Int)) × Int → (List Int) → Option Bool
  | 0, _, _, _, _ => none
  | k + 1, x8q4, x50, r1, r2 => if x50 < (r2.length : Int) then (if 0 ≤ x50 then (if x50 < (r2.length : Int) then (if (wrap64 (x50 + 1)) = (r2.length : Int) then (laws_FnGuessesAt.j2 k (r1.2.1.length : Int) r1 r2 x8q4 x50) else (laws_FnGuessesAt.j2 k (wrap64 (x50 + 1)) r1 r2 x8q4 x50)) else none) else none) else ((laws_wcHas.f k x8q4 0).bind fun r11 => some (!r11))
end
def laws_FnGuessesAt.f (k : Nat) (l0 : List Int) : Option Bool := if (l0.length : Int) > 1048576 then (some true) else ((spec_DrawGuessesAt.f k l0).bind fun r1 => (impl_GuessesAt.f k r1.1 r1.2.1 r1.2.2.1 r1.2.2.2).bind fun r2 => (spec_GuessesAt.f k r1.1 r1.2.1 r1.2.2.1 r1.2.2.2).bind fun r3 => (laws_wcInts.f k r2 r3).bind fun r4 => if r4 = true then ((impl_GuessCount.f k r1.1 r1.2.2.2).bind fun r5 => (spec_GuessCount.f k r1.1 r1.2.2.2).bind fun r6 => if r5 ≠ r6 then (some false) else (laws_FnGuessesAt.l1 k ([] : List Int) 0 r1 r2)) else (some false))
end Go.Proofs.Ytikjlbanfbkhmaa.PA
