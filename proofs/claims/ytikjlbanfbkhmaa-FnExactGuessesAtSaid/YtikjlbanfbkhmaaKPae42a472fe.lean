/- Walks of Go functions: each is shown to answer as the Lean function beside it tells, under the conditions that its theorem names. -/
import Derived.Test.YtikjlbanfbkhmaaProg
import Derived.KernelRfl
import Derived.Below
import Derived.Deep.Draws
import Derived.Deep.AppendLies
import Derived.Maps.AppendAt
import Derived.OwnWalk
import Derived.Laws.BytesArg
import Derived.Laws.MakeOwn
import Derived.Laws.OwnMore
import Derived.Deep.OwnRows
import Derived.Tactics
import Derived.Lib.ConvBytes
import Derived.Laws.Slices
import Derived.WalkKit
import Derived.RowKit3
import Derived.Deep.LoopGhost
import Derived.Deep.QuietTactic
import Derived.BigQuiet
import Derived.WideLaws
import Derived.Deep.DeepCutAuto
import Derived.Deep.CutBlock
import Derived.Deep.RegionHeld3
import Derived.Laws.Rows
import Derived.Lib.AppendStr
import Derived.ArgAppend
import Derived.Laws.IdiomCopy
import Derived.OrdersHeld
import Derived.Laws.BitsLemmas
import Derived.RowKit
import Derived.Laws.StructEq
import Derived.Lib.SliceRun
import Derived.WalkSpells
import Derived.ChangeArms
import Derived.ChangeSlices
import Derived.Deep.Slices
import Derived.Attr
import Derived.Laws.Append
import Derived.Laws.AppendOwn
import Derived.Laws.Entries
import Derived.Calls
import Derived.Laws.Sem
import Derived.Test.YtikjlbanfbkhmaaKP56a4be8abd
namespace Go.Proofs.Ytikjlbanfbkhmaa.PA
open Go Go.Abs Go.RowKit Go.Proofs Go.Proofs.YtikjlbanfbkhmaaW.PrintWords Go.Proofs.YtikjlbanfbkhmaaW.PrintLast Go.Proofs.YtikjlbanfbkhmaaW.PrintMore
set_option maxRecDepth 100000
set_option maxHeartbeats 4000000
set_option linter.unusedVariables false
set_option linter.unusedSimpArgs false
theorem spec_l1In.ev {a0 : Int} {a1 : Int} {a2 : Int} {r : Bool} (H : spec_l1In.f a0 a1 a2 = some r) : Ret Try.prog 82 [.lit (.int .i64 a0), .lit (.int .i64 a1), .lit (.int .i64 a2)] fun v S => v = .lit (.bool r) := by
 unfold spec_l1In.f at H
 refine Ret.intro Try.func82 rfl (Nat.le_of_ble_eq_true rfl) rfl ?_
 rw [tm3]
 refine Evr.sr rfl (Opl.p1 (n := Opl.nil (Evr.sr rfl (Opl.p1 (n := Opl.p1 (n := Opl.p1 (n := Opl.p1 (n := ?_))))))))
 by_cases c1 : a0 ≥ a1
 case neg =>
  rw [if_neg c1] at H
  have e2 : (decide (a0 ≥ a1)) = false := by simpa using c1
  try rw [e2]
  refine Opl.skp rfl (Opl.skp rfl (Opl.skp rfl (Opl.p1 (n := Opl.p1 (n := Opl.nil ?_)))))
  obtain rfl := Option.some.inj H
  refine Evr.ret1 Try.func82 rfl ?_
  show (.lit (.bool false) : PV) = _
  first | rfl | (simp only [go_sem]; rfl)
 rw [if_pos c1] at H
 have e1 : (decide (a0 ≥ a1)) = true := by simpa using c1
 try rw [e1]
 refine Opl.p1 (n := Opl.p1 (n := Opl.p1 (n := Opl.p1 (n := Opl.p1 (n := Opl.nil ?_)))))
 obtain rfl := Option.some.inj H
 refine Evr.ret1 Try.func82 rfl ?_
 show (.lit (.bool (decide (a0 ≤ a2))) : PV) = _
 first | rfl | (simp only [go_sem]; rfl)
theorem spec_l20One.ev {a0 : Int} {r : Bool} (H : spec_l20One.f a0 = some r) : Ret Try.prog 124 [.lit (.int .i64 a0)] fun v S => v = .lit (.bool r) := by
 unfold spec_l20One.f at H
 refine Ret.intro Try.func124 rfl (Nat.le_of_ble_eq_true rfl) rfl ?_
 rw [tm1]
 refine Evr.sr rfl (Opl.p1 (n := Opl.nil (Evr.sr rfl (Opl.p1 (n := Opl.p1 (n := Opl.p1 (n := ?_)))))))
 by_cases c1 : a0 = 2
 case pos =>
  rw [if_pos c1] at H
  have e1 : (a0 == 2) = true := by simpa using c1
  try rw [e1]
  refine Opl.skp rfl (Opl.skp rfl (Opl.p1 (n := Opl.p1 (n := Opl.nil ?_))))
  obtain rfl := Option.some.inj H
  refine Evr.ret1 Try.func124 rfl ?_
  show (.lit (.bool true) : PV) = _
  first | rfl | (simp only [go_sem]; rfl)
 rw [if_neg c1] at H
 have e2 : (a0 == 2) = false := by simpa using c1
 try rw [e2]
 refine Opl.p1 (n := Opl.p1 (n := Opl.p1 (n := Opl.p1 (n := Opl.nil ?_))))
 obtain rfl := Option.some.inj H
 refine Evr.ret1 Try.func124 rfl ?_
 show (.lit (.bool (a0 == 5)) : PV) = _
 first | rfl | (simp only [go_sem]; rfl)
theorem spec_l20Step.ev {k : Nat} {a0_0 : Int} {a0_1 : Int} {a0_2 : Int} {a0_3 : Int} {a1 : Int} {a2 : Int} {r : Bool} (H : spec_l20Step.f k a0_0 a0_1 a0_2 a0_3 a1 a2 = some r) : Ret Try.prog 111 [.agg [.lit (.int .i64 a0_0), .lit (.int .i64 a0_1), .lit (.int .i64 a0_2), .lit (.int .i64 a0_3)], .lit (.int .i64 a1), .lit (.int .i64 a2)] fun v S => v = .lit (.bool r) := by
 unfold spec_l20Step.f at H
 refine Ret.intro Try.func111 rfl (Nat.le_of_ble_eq_true rfl) rfl ?_
 rw [tm3]
 refine Evr.sr rfl (Opl.box (cs := [.lit (.int .i64 a0_0), .lit (.int .i64 a0_1), .lit (.int .i64 a0_2), .lit (.int .i64 a0_3)]) rfl rfl rfl rfl ?_)
 rintro i1 S h1 u1 w1
 refine Opl.p1 (n := Opl.nil (Evr.seq (Evr.sr rfl (Opl.p1 (v := .ptr i1 0) (n := Opl.ldb (v := .lit (.int .i64 a0_0)) h1 rfl T3 rfl rfl rfl rfl (Opl.p1 (n := Opl.nil ?_)))))))
 by_cases c1 : a0_0 = 0
 case pos =>
  rw [if_pos c1] at H
  have e1 : (a0_0 == 0) = true := by simpa using c1
  try rw [e1]
  refine Evr.condT rfl (Evr.sr rfl (Opl.p1 (v := .ptr i1 1) (n := Opl.ldb (v := .lit (.int .i64 a0_1)) h1 rfl T3 rfl rfl rfl rfl (Opl.p1 (n := Opl.p1 (n := ?_))))))
  by_cases c2 : a0_1 = 0
  case neg =>
   rw [if_neg c2] at H
   have e5 : (a0_1 == 0) = false := by simpa using c2
   try rw [e5]
   refine Opl.skp rfl (Opl.skp rfl (Opl.skp rfl (Opl.p1 (n := Opl.p1 (n := Opl.skp rfl (Opl.skp rfl (Opl.skp rfl (Opl.p1 (n := Opl.p1 (n := Opl.nil ?_))))))))))
   obtain rfl := Option.some.inj H
   refine Evr.ret1 Try.func111 rfl ?_
   show (.lit (.bool false) : PV) = _
   first | rfl | (simp only [go_sem]; rfl)
  rw [if_pos c2] at H
  have e2 : (a0_1 == 0) = true := by simpa using c2
  try rw [e2]
  refine Opl.p1 (v := .ptr i1 2) (n := Opl.ldb (v := .lit (.int .i64 a0_2)) h1 rfl T3 rfl rfl rfl rfl (Opl.p1 (n := Opl.p1 (n := Opl.p1 (n := ?_)))))
  by_cases c3 : a0_2 = 0
  case neg =>
   rw [if_neg c3] at H
   have e4 : (a0_2 == 0) = false := by simpa using c3
   try rw [e4]
   refine Opl.skp rfl (Opl.skp rfl (Opl.skp rfl (Opl.p1 (n := Opl.p1 (n := Opl.nil ?_)))))
   obtain rfl := Option.some.inj H
   refine Evr.ret1 Try.func111 rfl ?_
   show (.lit (.bool false) : PV) = _
   first | rfl | (simp only [go_sem]; rfl)
  rw [if_pos c3] at H
  have e3 : (a0_2 == 0) = true := by simpa using c3
  try rw [e3]
  refine Opl.p1 (v := .ptr i1 3) (n := Opl.ldb (v := .lit (.int .i64 a0_3)) h1 rfl T3 rfl rfl rfl rfl (Opl.p1 (n := Opl.p1 (n := Opl.p1 (n := Opl.nil ?_)))))
  obtain rfl := Option.some.inj H
  refine Evr.ret1 Try.func111 rfl ?_
  show (.lit (.bool (a0_3 == 0)) : PV) = _
  first | rfl | (simp only [go_sem]; rfl)
 rw [if_neg c1] at H
 have e6 : (a0_0 == 0) = false := by simpa using c1
 try rw [e6]
 refine Evr.condF rfl (Evr.skip (Evr.seq (Evr.sr rfl (Opl.p1 (v := .ptr i1 0) (n := Opl.ldb (v := .lit (.int .i64 a0_0)) h1 rfl T3 rfl rfl rfl rfl (Opl.p1 (n := Opl.nil ?_)))))))
 by_cases c4 : a0_0 = 1
 case pos =>
  rw [if_pos c4] at H
  have e7 : (a0_0 == 1) = true := by simpa using c4
  try rw [e7]
  refine Evr.condT rfl (Evr.sr rfl (Opl.p1 (v := .ptr i1 1) (n := Opl.ldb (v := .lit (.int .i64 a0_1)) h1 rfl T3 rfl rfl rfl rfl (Opl.p1 (n := Opl.subi (k := .i64) (a := a2) (b := 1) K3 rfl rfl rfl rfl ?_)))))
  obtain ⟨t104, h_t104, H⟩ := Option.bind_eq_some_iff.1 H
  refine Opl.callc (spec_l1In.ev h_t104) rfl rfl rfl rfl ⟨(.lit _), (.lit _), (.lit _), trivial⟩ (by decide) (Opl.one (v := .lit (.bool t104)) rfl rfl rfl ?_)
  by_cases c5 : t104 = true
  case neg =>
   rw [if_neg c5] at H
   obtain rfl : t104 = false := by simpa using c5
   refine Opl.skp rfl (Opl.skp rfl (Opl.skp rfl (Opl.one (v := .lit (.bool false)) rfl rfl rfl (Opl.one (v := .lit (.bool false)) rfl rfl rfl (Opl.skp rfl (Opl.skp rfl (Opl.skp rfl (Opl.one (v := .lit (.bool false)) rfl rfl rfl (Opl.one (v := .lit (.bool false)) rfl rfl rfl (Opl.nil ?_))))))))))
   obtain rfl := Option.some.inj H
   refine Evr.ret1 Try.func111 rfl ?_
   show (.lit (.bool false) : PV) = _
   first | rfl | (simp only [go_sem]; rfl)
  rw [if_pos c5] at H
  obtain rfl : t104 = true := by simpa using c5
  refine Opl.p1 (v := .ptr i1 2) (n := Opl.ldb (v := .lit (.int .i64 a0_2)) h1 rfl T3 rfl rfl rfl rfl (Opl.p1 (n := Opl.one (v := .lit (.bool (a0_2 == 0))) rfl rfl rfl (Opl.one (v := .lit (.bool (a0_2 == 0))) rfl rfl rfl ?_))))
  by_cases c6 : a0_2 = 0
  case neg =>
   rw [if_neg c6] at H
   have e9 : (a0_2 == 0) = false := by simpa using c6
   try rw [e9]
   refine Opl.skp rfl (Opl.skp rfl (Opl.skp rfl (Opl.one (v := .lit (.bool false)) rfl rfl rfl (Opl.one (v := .lit (.bool false)) rfl rfl rfl (Opl.nil ?_)))))
   obtain rfl := Option.some.inj H
   refine Evr.ret1 Try.func111 rfl ?_
   show (.lit (.bool false) : PV) = _
   first | rfl | (simp only [go_sem]; rfl)
  rw [if_pos c6] at H
  have e8 : (a0_2 == 0) = true := by simpa using c6
  try rw [e8]
  refine Opl.p1 (v := .ptr i1 3) (n := Opl.ldb (v := .lit (.int .i64 a0_3)) h1 rfl T3 rfl rfl rfl rfl (Opl.p1 (n := Opl.one (v := .lit (.bool (a0_3 == 0))) rfl rfl rfl (Opl.one (v := .lit (.bool (a0_3 == 0))) rfl rfl rfl (Opl.nil ?_)))))
  obtain rfl := Option.some.inj H
  refine Evr.ret1 Try.func111 rfl ?_
  show (.lit (.bool (a0_3 == 0)) : PV) = _
  first | rfl | (simp only [go_sem]; rfl)
 rw [if_neg c4] at H
 have e10 : (a0_0 == 1) = false := by simpa using c4
 try rw [e10]
 refine Evr.condF rfl (Evr.skip (Evr.seq (Evr.seq ?_)))
 refine Evr.join (fun tm S => ∃ (kq1 : Nat) (x65_1 : Bool) (i2 : Abs.Id), spec_l20Step.j0 kq1 x65_1 a0_0 a0_1 a0_2 a0_3 = some r ∧ Has tm [(3, .ptr i2 0), (65, .lit (.bool x65_1))] ∧ Box (.ptr i2 0) [.lit (.int .i64 a0_0), .lit (.int .i64 a0_1), .lit (.int .i64 a0_2), .lit (.int .i64 a0_3)] S) ?_ fun hk1 => ?_
 ·
  rintro tm S ⟨kq1, x65_1, i2, H, hh, h2⟩
  rw [hh.eq]
  obtain _ | k1 := kq1
  · simp [spec_l20Step.j0] at H
  simp only [spec_l20Step.j0] at H
  by_cases c7 : x65_1 = true
  case pos =>
   rw [if_pos c7] at H
   obtain rfl : x65_1 = true := by simpa using c7
   refine Evr.condT rfl (Evr.sr rfl (Opl.p1 (n := Opl.nil ?_)))
   obtain rfl := Option.some.inj H
   refine Evr.ret1 Try.func111 rfl ?_
   show (.lit (.bool false) : PV) = _
   first | rfl | (simp only [go_sem]; rfl)
  rw [if_neg c7] at H
  obtain rfl : x65_1 = false := by simpa using c7
  refine Evr.condF rfl (Evr.skip (Evr.sr rfl (Opl.p1 (v := .ptr i2 0) (n := Opl.ldb (v := .lit (.int .i64 a0_0)) h2 rfl T3 rfl rfl rfl rfl ?_))))
  obtain ⟨t108, h_t108, H⟩ := Option.bind_eq_some_iff.1 H
  refine Opl.callc (spec_l20One.ev h_t108) rfl rfl rfl rfl ⟨(.lit _), trivial⟩ (by decide) (Opl.p1 (n := Opl.p1 (n := ?_)))
  by_cases c8 : t108 = true
  case neg =>
   rw [if_neg c8] at H
   have e12 : (!t108) = true := by simpa using c8
   try rw [e12]
   refine Opl.skp rfl (Opl.skp rfl (Opl.skp rfl (Opl.skp rfl (Opl.skp rfl (Opl.p1 (n := Opl.p1 (n := Opl.nil ?_)))))))
   obtain rfl := Option.some.inj H
   refine Evr.ret1 Try.func111 rfl ?_
   show (.lit (.bool true) : PV) = _
   first | rfl | (simp only [go_sem]; rfl)
  rw [if_pos c8] at H
  have e11 : (!t108) = false := by simpa using c8
  try rw [e11]
  refine Opl.p1 (v := .ptr i2 3) (n := Opl.ldb (v := .lit (.int .i64 a0_3)) h2 rfl T3 rfl rfl rfl rfl (Opl.p1 (v := .ptr i2 2) (n := Opl.ldb (v := .lit (.int .i64 a0_2)) h2 rfl T3 rfl rfl rfl rfl (Opl.p1 (n := Opl.p1 (n := Opl.p1 (n := Opl.nil ?_)))))))
  obtain rfl := Option.some.inj H
  refine Evr.ret1 Try.func111 rfl ?_
  show (.lit (.bool (a0_3 == a0_2)) : PV) = _
  first | rfl | (simp only [go_sem]; rfl)
 ·
  refine Evr.regionN rfl (Opl.p1 (v := .ptr i1 0) (n := Opl.ldb (v := .lit (.int .i64 a0_0)) h1 rfl T3 rfl rfl rfl rfl ?_))
  obtain ⟨t105, h_t105, H⟩ := Option.bind_eq_some_iff.1 H
  refine Opl.callc (spec_l1In.ev h_t105) rfl rfl rfl rfl ⟨(.lit _), (.lit _), (.lit _), trivial⟩ (by decide) (Opl.p1 (n := Opl.p1 (n := ?_)))
  by_cases c9 : t105 = true
  case neg =>
   rw [if_neg c9] at H
   have e18 : (!t105) = true := by simpa using c9
   try rw [e18]
   refine Opl.skp rfl (Opl.skp rfl (Opl.skp rfl (Opl.p1 (n := Opl.p1 (n := Opl.skp rfl (Opl.skp rfl (Opl.skp rfl (Opl.skp rfl (Opl.skp rfl (Opl.skp rfl (Opl.p1 (n := Opl.p1 (n := Opl.skp rfl (Opl.skp rfl (Opl.skp rfl (Opl.skp rfl (Opl.skp rfl (Opl.skp rfl (Opl.p1 (n := Opl.nil ?_))))))))))))))))))))
   exact hk1 _ _ ⟨_, _, _, H, ⟨rfl, (by first | rfl | (show PV.lit (.bool _) = _; congr 2; simp_all)), trivial⟩, h1⟩
  rw [if_pos c9] at H
  have e13 : (!t105) = false := by simpa using c9
  try rw [e13]
  refine Opl.p1 (v := .ptr i1 1) (n := Opl.ldb (v := .lit (.int .i64 a0_1)) h1 rfl T3 rfl rfl rfl rfl (Opl.p1 (n := Opl.p1 (n := Opl.p1 (n := ?_)))))
  by_cases c10 : a0_1 = 0
  case neg =>
   rw [if_neg c10] at H
   have e17 : (a0_1 != 0) = true := by simpa using c10
   try rw [e17]
   refine Opl.skp rfl (Opl.skp rfl (Opl.skp rfl (Opl.skp rfl (Opl.skp rfl (Opl.skp rfl (Opl.p1 (n := Opl.p1 (n := Opl.skp rfl (Opl.skp rfl (Opl.skp rfl (Opl.skp rfl (Opl.skp rfl (Opl.skp rfl (Opl.p1 (n := Opl.nil ?_)))))))))))))))
   exact hk1 _ _ ⟨_, _, _, H, ⟨rfl, (by first | rfl | (show PV.lit (.bool _) = _; congr 2; simp_all)), trivial⟩, h1⟩
  rw [if_pos c10] at H
  have e14 : (a0_1 != 0) = false := by simpa using c10
  try rw [e14]
  refine Opl.p1 (v := .ptr i1 2) (n := Opl.ldb (v := .lit (.int .i64 a0_2)) h1 rfl T3 rfl rfl rfl rfl (Opl.p1 (n := Opl.subi (k := .i64) (a := a1) (b := 1) K3 rfl rfl rfl rfl ?_)))
  obtain ⟨t106, h_t106, H⟩ := Option.bind_eq_some_iff.1 H
  refine Opl.callc (spec_l1In.ev h_t106) rfl rfl rfl rfl ⟨(.lit _), (.lit _), (.lit _), trivial⟩ (by decide) (Opl.p1 (n := Opl.one (v := .lit (.bool (!t106))) rfl rfl rfl (Opl.one (v := .lit (.bool (!t106))) rfl rfl rfl ?_)))
  by_cases c11 : t106 = true
  case neg =>
   rw [if_neg c11] at H
   have e16 : (!t106) = true := by simpa using c11
   try rw [e16]
   refine Opl.skp rfl (Opl.skp rfl (Opl.skp rfl (Opl.skp rfl (Opl.skp rfl (Opl.skp rfl (Opl.one (v := .lit (.bool true)) rfl rfl rfl (Opl.nil ?_)))))))
   exact hk1 _ _ ⟨_, _, _, H, ⟨rfl, (by first | rfl | (show PV.lit (.bool _) = _; congr 2; simp_all)), trivial⟩, h1⟩
  rw [if_pos c11] at H
  have e15 : (!t106) = false := by simpa using c11
  try rw [e15]
  refine Opl.p1 (v := .ptr i1 3) (n := Opl.ldb (v := .lit (.int .i64 a0_3)) h1 rfl T3 rfl rfl rfl rfl (Opl.one (v := .lit (.int .i64 a1)) rfl rfl rfl (Opl.subi (k := .i64) (a := a1) (b := 1) K3 rfl rfl rfl rfl ?_)))
  obtain ⟨t107, h_t107, H⟩ := Option.bind_eq_some_iff.1 H
  refine Opl.callc (spec_l1In.ev h_t107) rfl rfl rfl rfl ⟨(.lit _), (.lit _), (.lit _), trivial⟩ (by decide) (Opl.p1 (n := Opl.one (v := .lit (.bool (!t107))) rfl rfl rfl (Opl.nil ?_)))
  exact hk1 _ _ ⟨_, _, _, H, ⟨rfl, (by first | rfl | (show PV.lit (.bool _) = _; congr 2; simp_all)), trivial⟩, h1⟩
theorem spec_TimesValid.ev {k : Nat} {l0 : List ITime} {v0 : PV} (hv0 : Sl cITime l0 v0) {a1 : Int} {r : Bool} (H : spec_TimesValid.f k l0 a1 = some r) : Ret Try.prog 70 [v0, .lit (.int .i64 a1)] fun v S => v = .lit (.bool r) := by
 unfold spec_TimesValid.f at H
 refine Ret.intro Try.func70 rfl (Nat.le_of_ble_eq_true rfl) rfl ?_
 rw [tm2]
 refine Evr.sr rfl (Opl.p1 (n := Opl.nil (Evr.seq (Evr.seq ?_))))
 refine Evr.join (fun tm S => ∃ (kq1 : Nat) (x14_1 : Bool), spec_TimesValid.j0 kq1 l0 a1 x14_1 = some r ∧ Has tm [(0, v0), (1, .lit (.int .i64 a1)), (14, .lit (.bool x14_1))]) ?_ fun hk1 => ?_
 ·
  rintro tm S ⟨kq1, x14_1, H, hh⟩
  rw [hh.eq]
  obtain _ | k1 := kq1
  · simp [spec_TimesValid.j0] at H
  simp only [spec_TimesValid.j0] at H
  by_cases c1 : x14_1 = true
  case pos =>
   rw [if_pos c1] at H
   obtain rfl : x14_1 = true := by simpa using c1
   refine Evr.condT rfl (Evr.sr rfl (Opl.p1 (n := Opl.nil ?_)))
   obtain rfl := Option.some.inj H
   refine Evr.ret1 Try.func70 rfl ?_
   show (.lit (.bool false) : PV) = _
   first | rfl | (simp only [go_sem]; rfl)
  rw [if_neg c1] at H
  obtain rfl : x14_1 = false := by simpa using c1
  refine Evr.condF rfl (Evr.skip (Evr.seq (Evr.sr rfl (Opl.p1 (n := Opl.nil (Evr.block ?_))))))
  refine Evr.loop (Evr.rounds (n := k1) (Inv := fun n tm S => n ≤ k1 ∧ ∃ (x5_1 : Int), spec_TimesValid.l0 n l0 a1 x5_1 = some r ∧ Has tm [(0, v0), (1, .lit (.int .i64 a1)), (5, .lit (.int .i64 x5_1))]) ?_ ?_ ?_)
  · exact ⟨Nat.le_refl _, _, H, ⟨rfl, rfl, rfl, trivial⟩⟩
  ·
   rintro tm S ⟨_, _, H, -⟩
   simp [spec_TimesValid.l0] at H
  ·
   rintro n1 ih1 tm S ⟨hle, x5_1, H, hh⟩
   simp only [spec_TimesValid.l0] at H
   rw [hh.eq]
   refine Evr.seq (Evr.sr rfl (Opl.p1 (n := Opl.p1 (n := Opl.len (xs := l0) (by exact hv0) K28 rfl rfl rfl rfl (Opl.p1 (n := Opl.nil ?_))))))
   by_cases c2 : x5_1 < (l0.length : Int)
   case neg =>
    rw [if_neg c2] at H
    have e4 : (decide (x5_1 < (l0.length : Int))) = false := by simpa using c2
    try rw [e4]
    refine Evr.condF rfl (Evr.exit rfl (Evr.sr rfl (Opl.p1 (n := Opl.nil ?_))))
    obtain rfl := Option.some.inj H
    refine Evr.ret1 Try.func70 rfl ?_
    show (.lit (.bool true) : PV) = _
    first | rfl | (simp only [go_sem]; rfl)
   rw [if_pos c2] at H
   have e1 : (decide (x5_1 < (l0.length : Int))) = true := by simpa using c2
   try rw [e1]
   refine Evr.condT rfl (Evr.skip (Evr.seq (Evr.block (Evr.sr rfl (Opl.p1 (n := Opl.p1 (n := ?_)))))))
   obtain ⟨c3, H⟩ := peel H
   refine Opl.idx (M := cITime) (xs := l0) (j := x5_1) zITime (by exact hv0) rfl (by omega) (by omega) K28 Z64 rfl rfl ?_
   rintro p1 q1 h1
   obtain rfl := cITime_R (x := (rd_ITime l0 x5_1)) h1
   refine Opl.lda (.agg [.lit (.int .i64 ((rd_ITime l0 x5_1).f0)), .lit (.int .i64 ((rd_ITime l0 x5_1).f1)), .lit (.int .i64 ((rd_ITime l0 x5_1).f2)), .lit (.int .i64 ((rd_ITime l0 x5_1).f3))]) rfl T64 rfl rfl rfl rfl (Opl.p1 (n := Opl.p1 (n := ?_)))
   obtain ⟨t112, h_t112, H⟩ := Option.bind_eq_some_iff.1 H
   refine Opl.callc (spec_l20Step.ev h_t112) rfl rfl rfl rfl ⟨(.aggL ⟨(.lit _), (.lit _), (.lit _), (.lit _), trivial⟩), (.lit _), (.lit _), trivial⟩ (by decide) (Opl.p1 (n := Opl.nil ?_))
   by_cases c4 : t112 = true
   case neg =>
    rw [if_neg c4] at H
    have e3 : (!t112) = true := by simpa using c4
    try rw [e3]
    refine Evr.condT rfl (Evr.sr rfl (Opl.p1 (n := Opl.nil ?_)))
    obtain rfl := Option.some.inj H
    refine Evr.ret1 Try.func70 rfl ?_
    show (.lit (.bool false) : PV) = _
    first | rfl | (simp only [go_sem]; rfl)
   rw [if_pos c4] at H
   have e2 : (!t112) = false := by simpa using c4
   try rw [e2]
   refine Evr.condF rfl (Evr.skip (Evr.inBlock (Evr.regionN rfl (Opl.p1 (n := Opl.add (k := .i64) (a := x5_1) (b := 1) K3 rfl rfl rfl rfl (Opl.one (v := .lit (.int .i64 (wrap64 (x5_1 + 1)))) rfl rfl rfl (Opl.nil ?_)))))))
   exact ih1 _ (by omega) _ _ ⟨by omega, _, H, ⟨rfl, rfl, rfl, trivial⟩⟩
 ·
  refine Evr.regionN rfl (Opl.p1 (n := ?_))
  obtain ⟨t109, h_t109, H⟩ := Option.bind_eq_some_iff.1 H
  refine Opl.callc (spec_l1In.ev h_t109) rfl rfl rfl rfl ⟨(.lit _), (.lit _), (.lit _), trivial⟩ (by decide) (Opl.p1 (n := Opl.p1 (n := ?_)))
  by_cases c5 : t109 = true
  case neg =>
   rw [if_neg c5] at H
   have e6 : (!t109) = true := by simpa using c5
   try rw [e6]
   refine Opl.skp rfl (Opl.skp rfl (Opl.skp rfl (Opl.skp rfl (Opl.p1 (n := Opl.nil ?_)))))
   exact hk1 _ _ ⟨_, _, H, ⟨rfl, rfl, (by first | rfl | (show PV.lit (.bool _) = _; congr 2; simp_all)), trivial⟩⟩
  rw [if_pos c5] at H
  have e5 : (!t109) = false := by simpa using c5
  try rw [e5]
  refine Opl.p1 (n := Opl.len (xs := l0) (by exact hv0) K28 rfl rfl rfl rfl ?_)
  obtain ⟨t110, h_t110, H⟩ := Option.bind_eq_some_iff.1 H
  refine Opl.callc (spec_l1In.ev h_t110) rfl rfl rfl rfl ⟨(.lit _), (.lit _), (.lit _), trivial⟩ (by decide) (Opl.p1 (n := Opl.p1 (n := Opl.nil ?_)))
  exact hk1 _ _ ⟨_, _, H, ⟨rfl, rfl, (by first | rfl | (show PV.lit (.bool _) = _; congr 2; simp_all)), trivial⟩⟩
theorem spec_l6Are.ev {k : Nat} {l0 : List Int} {v0 : PV} (hv0 : Sl (cInt .i64) l0 v0) {r : Bool} (H : spec_l6Are.f k l0 = some r) : Ret Try.prog 117 [v0] fun v S => v = .lit (.bool r) := by
 unfold spec_l6Are.f at H
 refine Ret.intro Try.func117 rfl (Nat.le_of_ble_eq_true rfl) rfl ?_
 rw [tm1]
 refine Evr.sr rfl (Opl.p1 (n := Opl.nil (Evr.seq (Evr.sr rfl (Opl.p1 (n := Opl.nil (Evr.block ?_)))))))
 refine Evr.loop (Evr.rounds (n := k) (Inv := fun n tm S => n ≤ k ∧ ∃ (x3_1 : Int), spec_l6Are.l0 n l0 x3_1 = some r ∧ Has tm [(0, v0), (3, .lit (.int .i64 x3_1))]) ?_ ?_ ?_)
 · exact ⟨Nat.le_refl _, _, H, ⟨rfl, rfl, trivial⟩⟩
 ·
  rintro tm S ⟨_, _, H, -⟩
  simp [spec_l6Are.l0] at H
 ·
  rintro n1 ih1 tm S ⟨hle, x3_1, H, hh⟩
  simp only [spec_l6Are.l0] at H
  rw [hh.eq]
  refine Evr.seq (Evr.sr rfl (Opl.p1 (n := Opl.p1 (n := Opl.len (xs := l0) (by exact hv0) K26 rfl rfl rfl rfl (Opl.p1 (n := Opl.nil ?_))))))
  by_cases c1 : x3_1 < (l0.length : Int)
  case neg =>
   rw [if_neg c1] at H
   have e4 : (decide (x3_1 < (l0.length : Int))) = false := by simpa using c1
   try rw [e4]
   refine Evr.condF rfl (Evr.exit rfl (Evr.sr rfl (Opl.p1 (n := Opl.nil ?_))))
   obtain rfl := Option.some.inj H
   refine Evr.ret1 Try.func117 rfl ?_
   show (.lit (.bool true) : PV) = _
   first | rfl | (simp only [go_sem]; rfl)
  rw [if_pos c1] at H
  have e1 : (decide (x3_1 < (l0.length : Int))) = true := by simpa using c1
  try rw [e1]
  refine Evr.condT rfl (Evr.skip (Evr.seq (Evr.block (Evr.sr rfl (Opl.p1 (n := Opl.p1 (n := ?_)))))))
  obtain ⟨c2, H⟩ := peel H
  refine Opl.idx (M := (cInt .i64)) (xs := l0) (j := x3_1) (0 : Int) (by exact hv0) rfl (by omega) (by omega) K26 Z3 rfl rfl ?_
  rintro p1 q1 h1
  obtain rfl : p1 = [.lit (.int .i64 (rd l0 x3_1))] := h1
  refine Opl.lda (.lit (.int .i64 (rd l0 x3_1))) rfl T3 rfl rfl rfl rfl ?_
  obtain ⟨t114, h_t114, H⟩ := Option.bind_eq_some_iff.1 H
  refine Opl.callc (spec_l1In.ev h_t114) rfl rfl rfl rfl ⟨(.lit _), (.lit _), (.lit _), trivial⟩ (by decide) (Opl.p1 (n := Opl.nil ?_))
  by_cases c3 : t114 = true
  case neg =>
   rw [if_neg c3] at H
   have e3 : (!t114) = true := by simpa using c3
   try rw [e3]
   refine Evr.condT rfl (Evr.sr rfl (Opl.p1 (n := Opl.nil ?_)))
   obtain rfl := Option.some.inj H
   refine Evr.ret1 Try.func117 rfl ?_
   show (.lit (.bool false) : PV) = _
   first | rfl | (simp only [go_sem]; rfl)
  rw [if_pos c3] at H
  have e2 : (!t114) = false := by simpa using c3
  try rw [e2]
  refine Evr.condF rfl (Evr.skip (Evr.inBlock (Evr.regionN rfl (Opl.p1 (n := Opl.add (k := .i64) (a := x3_1) (b := 1) K3 rfl rfl rfl rfl (Opl.one (v := .lit (.int .i64 (wrap64 (x3_1 + 1)))) rfl rfl rfl (Opl.nil ?_)))))))
  exact ih1 _ (by omega) _ _ ⟨by omega, _, H, ⟨rfl, rfl, trivial⟩⟩
theorem spec_l20Letters.ev {k : Nat} {l0 : List (List Int)} {v0 : PV} (hv0 : Sl (cSl (cInt .i64)) l0 v0) {a1 : Int} {r : Bool} (H : spec_l20Letters.f k l0 a1 = some r) : Ret Try.prog 83 [v0, .lit (.int .i64 a1)] fun v S => v = .lit (.bool r) := by
 unfold spec_l20Letters.f at H
 refine Ret.intro Try.func83 rfl (Nat.le_of_ble_eq_true rfl) rfl ?_
 rw [tm2]
 refine Evr.sr rfl (Opl.p1 (n := Opl.nil (Evr.seq (Evr.sr rfl (Opl.p1 (n := Opl.nil (Evr.block ?_)))))))
 refine Evr.loop (Evr.rounds (n := k) (Inv := fun n tm S => n ≤ k ∧ ∃ (x5_1 : Int), spec_l20Letters.l0 n l0 a1 x5_1 = some r ∧ Has tm [(0, v0), (1, .lit (.int .i64 a1)), (5, .lit (.int .i64 x5_1))]) ?_ ?_ ?_)
 · exact ⟨Nat.le_refl _, _, H, ⟨rfl, rfl, rfl, trivial⟩⟩
 ·
  rintro tm S ⟨_, _, H, -⟩
  simp [spec_l20Letters.l0] at H
 ·
  rintro n1 ih1 tm S ⟨hle, x5_1, H, hh⟩
  simp only [spec_l20Letters.l0] at H
  rw [hh.eq]
  refine Evr.seq (Evr.sr rfl (Opl.p1 (n := Opl.p1 (n := Opl.len (xs := l0) (by exact hv0) K23 rfl rfl rfl rfl (Opl.p1 (n := Opl.nil ?_))))))
  by_cases c1 : x5_1 < (l0.length : Int)
  case neg =>
   rw [if_neg c1] at H
   have e6 : (decide (x5_1 < (l0.length : Int))) = false := by simpa using c1
   try rw [e6]
   refine Evr.condF rfl (Evr.exit rfl (Evr.sr rfl (Opl.p1 (n := Opl.nil ?_))))
   obtain rfl := Option.some.inj H
   refine Evr.ret1 Try.func83 rfl ?_
   show (.lit (.bool true) : PV) = _
   first | rfl | (simp only [go_sem]; rfl)
  rw [if_pos c1] at H
  have e1 : (decide (x5_1 < (l0.length : Int))) = true := by simpa using c1
  try rw [e1]
  refine Evr.condT rfl (Evr.skip (Evr.seq (Evr.block (Evr.sr rfl (Opl.p1 (n := Opl.p1 (n := ?_)))))))
  obtain ⟨c2, H⟩ := peel H
  refine Opl.idx (M := (cSl (cInt .i64))) (xs := l0) (j := x5_1) ([] : List Int) (by exact hv0) rfl (by omega) (by omega) K23 Z26 rfl rfl ?_
  rintro p1 q1 h1
  obtain ⟨pv1, rfl, h2⟩ := h1
  refine Opl.lda (pv1) rfl T26 rfl rfl rfl rfl (Opl.len (xs := (rd_Lint l0 x5_1)) (by exact h2) K26 rfl rfl rfl rfl (Opl.p1 (n := Opl.p1 (n := Opl.p1 (n := ?_)))))
  by_cases c3 : ((rd_Lint l0 x5_1).length : Int) = a1
  case neg =>
   rw [if_neg c3] at H
   have e5 : (((rd_Lint l0 x5_1).length : Int) != a1) = true := by simpa using c3
   try rw [e5]
   refine Opl.skp rfl (Opl.skp rfl (Opl.skp rfl (Opl.skp rfl (Opl.skp rfl (Opl.skp rfl (Opl.p1 (n := Opl.nil (Evr.condT rfl (Evr.sr rfl (Opl.p1 (n := Opl.nil ?_)))))))))))
   obtain rfl := Option.some.inj H
   refine Evr.ret1 Try.func83 rfl ?_
   show (.lit (.bool false) : PV) = _
   first | rfl | (simp only [go_sem]; rfl)
  rw [if_pos c3] at H
  have e2 : (((rd_Lint l0 x5_1).length : Int) != a1) = false := by simpa using c3
  try rw [e2]
  refine Opl.p1 (n := Opl.p1 (n := Opl.idx (M := (cSl (cInt .i64))) (xs := l0) (j := x5_1) ([] : List Int) (by exact hv0) rfl (by omega) (by omega) K23 Z26 rfl rfl ?_))
  rintro p2 q2 h3
  obtain ⟨pv2, rfl, h4⟩ := h3
  refine Opl.lda (pv2) rfl T26 rfl rfl rfl rfl ?_
  obtain ⟨t117, h_t117, H⟩ := Option.bind_eq_some_iff.1 H
  refine Opl.callc (spec_l6Are.ev h4 h_t117) rfl rfl rfl rfl ⟨h4.plain, trivial⟩ (by decide) (Opl.p1 (n := Opl.p1 (n := Opl.nil ?_)))
  by_cases c4 : t117 = true
  case neg =>
   rw [if_neg c4] at H
   have e4 : (!t117) = true := by simpa using c4
   try rw [e4]
   refine Evr.condT rfl (Evr.sr rfl (Opl.p1 (n := Opl.nil ?_)))
   obtain rfl := Option.some.inj H
   refine Evr.ret1 Try.func83 rfl ?_
   show (.lit (.bool false) : PV) = _
   first | rfl | (simp only [go_sem]; rfl)
  rw [if_pos c4] at H
  have e3 : (!t117) = false := by simpa using c4
  try rw [e3]
  refine Evr.condF rfl (Evr.skip (Evr.inBlock (Evr.regionN rfl (Opl.p1 (n := Opl.add (k := .i64) (a := x5_1) (b := 1) K3 rfl rfl rfl rfl (Opl.one (v := .lit (.int .i64 (wrap64 (x5_1 + 1)))) rfl rfl rfl (Opl.nil ?_)))))))
  exact ih1 _ (by omega) _ _ ⟨by omega, _, H, ⟨rfl, rfl, rfl, trivial⟩⟩
theorem spec_WordValid.ev {k : Nat} {l0 : List (List Int)} {v0 : PV} (hv0 : Sl (cSl (cInt .i64)) l0 v0) {l1 : List (List Int)} {v1 : PV} (hv1 : Sl (cSl (cInt .i64)) l1 v1) {a2 : Int} {r : Bool} (H : spec_WordValid.f k l0 l1 a2 = some r) : Ret Try.prog 71 [v0, v1, .lit (.int .i64 a2)] fun v S => v = .lit (.bool r) := by
 unfold spec_WordValid.f at H
 refine Ret.intro Try.func71 rfl (Nat.le_of_ble_eq_true rfl) rfl ?_
 rw [tm3]
 refine Evr.sr rfl (Opl.p1 (n := Opl.nil (Evr.sr rfl (Opl.p1 (n := ?_)))))
 obtain ⟨t118, h_t118, H⟩ := Option.bind_eq_some_iff.1 H
 refine Opl.callc (spec_l1In.ev h_t118) rfl rfl rfl rfl ⟨(.lit _), (.lit _), (.lit _), trivial⟩ (by decide) (Opl.p1 (n := ?_))
 by_cases c1 : t118 = true
 case neg =>
  rw [if_neg c1] at H
  obtain rfl : t118 = false := by simpa using c1
  refine Opl.skp rfl (Opl.skp rfl (Opl.skp rfl (Opl.p1 (n := Opl.p1 (n := Opl.skp rfl (Opl.skp rfl (Opl.skp rfl (Opl.skp rfl (Opl.skp rfl (Opl.skp rfl (Opl.p1 (n := Opl.p1 (n := Opl.skp rfl (Opl.skp rfl (Opl.skp rfl (Opl.p1 (n := Opl.p1 (n := Opl.skp rfl (Opl.skp rfl (Opl.skp rfl (Opl.p1 (n := Opl.p1 (n := Opl.nil ?_)))))))))))))))))))))))
  obtain rfl := Option.some.inj H
  refine Evr.ret1 Try.func71 rfl ?_
  show (.lit (.bool false) : PV) = _
  first | rfl | (simp only [go_sem]; rfl)
 rw [if_pos c1] at H
 obtain rfl : t118 = true := by simpa using c1
 refine Opl.p1 (n := Opl.len (xs := l1) (by exact hv1) K23 rfl rfl rfl rfl (Opl.p1 (n := Opl.p1 (n := Opl.p1 (n := ?_)))))
 by_cases c2 : (l1.length : Int) > 0
 case neg =>
  rw [if_neg c2] at H
  have e4 : (decide ((l1.length : Int) > 0)) = false := by simpa using c2
  try rw [e4]
  refine Opl.skp rfl (Opl.skp rfl (Opl.skp rfl (Opl.skp rfl (Opl.skp rfl (Opl.skp rfl (Opl.p1 (n := Opl.p1 (n := Opl.skp rfl (Opl.skp rfl (Opl.skp rfl (Opl.p1 (n := Opl.p1 (n := Opl.skp rfl (Opl.skp rfl (Opl.skp rfl (Opl.p1 (n := Opl.p1 (n := Opl.nil ?_))))))))))))))))))
  obtain rfl := Option.some.inj H
  refine Evr.ret1 Try.func71 rfl ?_
  show (.lit (.bool false) : PV) = _
  first | rfl | (simp only [go_sem]; rfl)
 rw [if_pos c2] at H
 have e1 : (decide ((l1.length : Int) > 0)) = true := by simpa using c2
 try rw [e1]
 refine Opl.p1 (n := Opl.len (xs := l0) (by exact hv0) K23 rfl rfl rfl rfl (Opl.p1 (n := Opl.len (xs := l1) (by exact hv1) K23 rfl rfl rfl rfl (Opl.add (k := .i64) (a := (l0.length : Int)) (b := (l1.length : Int)) K3 rfl rfl rfl rfl (Opl.leq (a := (wrap64 ((l0.length : Int) + (l1.length : Int)))) (b := 60) K3 rfl rfl rfl rfl (Opl.one (v := .lit (.bool (decide ((wrap64 ((l0.length : Int) + (l1.length : Int))) ≤ 60)))) rfl rfl rfl (Opl.one (v := .lit (.bool (decide ((wrap64 ((l0.length : Int) + (l1.length : Int))) ≤ 60)))) rfl rfl rfl ?_)))))))
 by_cases c3 : (wrap64 ((l0.length : Int) + (l1.length : Int))) ≤ 60
 case neg =>
  rw [if_neg c3] at H
  have e3 : (decide ((wrap64 ((l0.length : Int) + (l1.length : Int))) ≤ 60)) = false := by simpa using c3
  try rw [e3]
  refine Opl.skp rfl (Opl.skp rfl (Opl.skp rfl (Opl.one (v := .lit (.bool false)) rfl rfl rfl (Opl.one (v := .lit (.bool false)) rfl rfl rfl (Opl.skp rfl (Opl.skp rfl (Opl.skp rfl (Opl.one (v := .lit (.bool false)) rfl rfl rfl (Opl.one (v := .lit (.bool false)) rfl rfl rfl (Opl.nil ?_))))))))))
  obtain rfl := Option.some.inj H
  refine Evr.ret1 Try.func71 rfl ?_
  show (.lit (.bool false) : PV) = _
  first | rfl | (simp only [go_sem]; rfl)
 rw [if_pos c3] at H
 have e2 : (decide ((wrap64 ((l0.length : Int) + (l1.length : Int))) ≤ 60)) = true := by simpa using c3
 try rw [e2]
 refine Opl.one (v := v0) rfl rfl rfl (Opl.one (v := .lit (.int .i64 a2)) rfl rfl rfl ?_)
 obtain ⟨t119, h_t119, H⟩ := Option.bind_eq_some_iff.1 H
 refine Opl.callc (spec_l20Letters.ev hv0 h_t119) rfl rfl rfl rfl ⟨hv0.plain, (.lit _), trivial⟩ (by decide) (Opl.one (v := .lit (.bool t119)) rfl rfl rfl (Opl.one (v := .lit (.bool t119)) rfl rfl rfl ?_))
 by_cases c4 : t119 = true
 case neg =>
  rw [if_neg c4] at H
  obtain rfl : t119 = false := by simpa using c4
  refine Opl.skp rfl (Opl.skp rfl (Opl.skp rfl (Opl.one (v := .lit (.bool false)) rfl rfl rfl (Opl.one (v := .lit (.bool false)) rfl rfl rfl (Opl.nil ?_)))))
  obtain rfl := Option.some.inj H
  refine Evr.ret1 Try.func71 rfl ?_
  show (.lit (.bool false) : PV) = _
  first | rfl | (simp only [go_sem]; rfl)
 rw [if_pos c4] at H
 obtain rfl : t119 = true := by simpa using c4
 refine Opl.one (v := v1) rfl rfl rfl (Opl.one (v := .lit (.int .i64 a2)) rfl rfl rfl ?_)
 obtain ⟨t120, h_t120, H⟩ := Option.bind_eq_some_iff.1 H
 refine Opl.callc (spec_l20Letters.ev hv1 h_t120) rfl rfl rfl rfl ⟨hv1.plain, (.lit _), trivial⟩ (by decide) (Opl.one (v := .lit (.bool t120)) rfl rfl rfl (Opl.one (v := .lit (.bool t120)) rfl rfl rfl (Opl.nil ?_)))
 obtain rfl := Option.some.inj H
 refine Evr.ret1 Try.func71 rfl ?_
 show (.lit (.bool t120) : PV) = _
 first | rfl | (simp only [go_sem]; rfl)
theorem spec_l1Truth.ev {a0 : Bool} {r : Int} (H : spec_l1Truth.f a0 = some r) : Ret Try.prog 113 [.lit (.bool a0)] fun v S => v = .lit (.int .i64 r) := by
 unfold spec_l1Truth.f at H
 refine Ret.intro Try.func113 rfl (Nat.le_of_ble_eq_true rfl) rfl ?_
 rw [tm1]
 refine Evr.sr rfl (Opl.p1 (n := Opl.nil (Evr.seq (Evr.sr rfl (Opl.p1 (n := Opl.nil ?_))))))
 by_cases c1 : a0 = true
 case pos =>
  rw [if_pos c1] at H
  obtain rfl : a0 = true := by simpa using c1
  refine Evr.condT rfl (Evr.sr rfl (Opl.p1 (n := Opl.nil ?_)))
  obtain rfl := Option.some.inj H
  refine Evr.ret1 Try.func113 rfl ?_
  show (.lit (.int .i64 1) : PV) = _
  first | rfl | (simp only [go_sem]; rfl)
 rw [if_neg c1] at H
 obtain rfl : a0 = false := by simpa using c1
 refine Evr.condF rfl (Evr.skip (Evr.sr rfl (Opl.p1 (n := Opl.nil ?_))))
 obtain rfl := Option.some.inj H
 refine Evr.ret1 Try.func113 rfl ?_
 show (.lit (.int .i64 0) : PV) = _
 first | rfl | (simp only [go_sem]; rfl)
theorem spec_l20Next.ev {a0 : Int} {a1 : Int} {a2 : Int} {r : Int} (H : spec_l20Next.f a0 a1 a2 = some r) : Ret Try.prog 114 [.lit (.int .i64 a0), .lit (.int .i64 a1), .lit (.int .i64 a2)] fun v S => v = .lit (.int .i64 r) := by
 unfold spec_l20Next.f at H
 refine Ret.intro Try.func114 rfl (Nat.le_of_ble_eq_true rfl) rfl ?_
 rw [tm3]
 refine Evr.sr rfl (Opl.p1 (n := Opl.nil (Evr.seq (Evr.sr rfl (Opl.p1 (n := Opl.add (k := .i64) (a := a0) (b := 1) K3 rfl rfl rfl rfl (Opl.one (v := .lit (.int .i64 a2)) rfl rfl rfl (Opl.lss (a := (wrap64 (a0 + 1))) (b := a2) K3 rfl rfl rfl rfl (Opl.nil ?_)))))))))
 by_cases c1 : (wrap64 (a0 + 1)) < a2
 case neg =>
  rw [if_neg c1] at H
  have e2 : (decide ((wrap64 (a0 + 1)) < a2)) = false := by simpa using c1
  try rw [e2]
  refine Evr.condF rfl (Evr.skip (Evr.sr rfl (Opl.one (v := .lit (.int .i64 a1)) rfl rfl rfl (Opl.one (v := .lit (.int .i64 a1)) rfl rfl rfl (Opl.nil ?_)))))
  obtain rfl := Option.some.inj H
  refine Evr.ret1 Try.func114 rfl ?_
  show (.lit (.int .i64 a1) : PV) = _
  first | rfl | (simp only [go_sem]; rfl)
 rw [if_pos c1] at H
 have e1 : (decide ((wrap64 (a0 + 1)) < a2)) = true := by simpa using c1
 try rw [e1]
 refine Evr.condT rfl (Evr.sr rfl (Opl.one (v := .lit (.int .i64 a0)) rfl rfl rfl (Opl.add (k := .i64) (a := a0) (b := 1) K3 rfl rfl rfl rfl (Opl.one (v := .lit (.int .i64 (wrap64 (a0 + 1)))) rfl rfl rfl (Opl.nil ?_)))))
 obtain rfl := Option.some.inj H
 refine Evr.ret1 Try.func114 rfl ?_
 show (.lit (.int .i64 (wrap64 (a0 + 1))) : PV) = _
 first | rfl | (simp only [go_sem]; rfl)
theorem spec_l20Later.ev {k : Nat} {a0_0 : Int} {a0_1 : Int} {a0_2 : Int} {a0_3 : Int} {l1 : List (List Int)} {v1 : PV} (hv1 : Sl (cSl (cInt .i64)) l1 v1) {a2 : Int} {a3 : Int} {r : (List Int)} (H : spec_l20Later.f k a0_0 a0_1 a0_2 a0_3 l1 a2 a3 = some r) : Ret Try.prog 112 [.agg [.lit (.int .i64 a0_0), .lit (.int .i64 a0_1), .lit (.int .i64 a0_2), .lit (.int .i64 a0_3)], v1, .lit (.int .i64 a2), .lit (.int .i64 a3)] fun v S => Vec (cInt .i64) r v S := by
 unfold spec_l20Later.f at H
 refine Ret.intro Try.func112 rfl (Nat.le_of_ble_eq_true rfl) rfl ?_
 rw [tm4]
 refine Evr.sr rfl (Opl.box (cs := [.lit (.int .i64 a0_0), .lit (.int .i64 a0_1), .lit (.int .i64 a0_2), .lit (.int .i64 a0_3)]) rfl rfl rfl rfl ?_)
 rintro i1 S h1 u1 w1
 refine Opl.p1 (n := Opl.nil (Evr.sr rfl (Opl.lits (M := (cInt .i64)) (ys := []) [] K26 T3 rfl rfl rfl trivial rfl (by decide) rfl rfl rfl ?_)))
 rintro pv1 S h2 u2 w2
 have ap1 := w2.box h1
 have h3 := u2.box h1 ap1
 refine Opl.p1 (n := Opl.nil (Evr.seq (Evr.sr rfl (Opl.p1 (n := Opl.nil (Evr.block ?_))))))
 refine Evr.loop (Evr.rounds (n := k) (Inv := fun n tm S => n ≤ k ∧ ∃ (x9_1 : List Int) (x10_1 : Int) (i2 : Abs.Id) (pv2 : PV), spec_l20Later.l0 n l1 a2 a3 x9_1 x10_1 a0_0 a0_1 a0_2 a0_3 = some r ∧ Has tm [(1, v1), (2, .lit (.int .i64 a2)), (3, .lit (.int .i64 a3)), (4, .ptr i2 0), (9, pv2), (10, .lit (.int .i64 x10_1))] ∧ Box (.ptr i2 0) [.lit (.int .i64 a0_0), .lit (.int .i64 a0_1), .lit (.int .i64 a0_2), .lit (.int .i64 a0_3)] S ∧ Vec (cInt .i64) x9_1 pv2 S ∧ Ap (.ptr i2 0) pv2) ?_ ?_ ?_)
 · exact ⟨Nat.le_refl _, _, _, _, _, H, ⟨rfl, rfl, rfl, rfl, rfl, rfl, trivial⟩, h3, h2, ap1⟩
 ·
  rintro tm S ⟨_, _, _, _, _, H, -⟩
  simp [spec_l20Later.l0] at H
 ·
  rintro n1 ih1 tm S ⟨hle, x9_1, x10_1, i2, pv2, H, hh, h4, h5, ap2⟩
  simp only [spec_l20Later.l0] at H
  rw [hh.eq]
  refine Evr.seq (Evr.sr rfl (Opl.p1 (n := Opl.p1 (n := Opl.p1 (n := Opl.nil ?_)))))
  by_cases c1 : x10_1 < a3
  case pos =>
   rw [if_pos c1] at H
   have e1 : (decide (x10_1 < a3)) = true := by simpa using c1
   try rw [e1]
   refine Evr.condT rfl (Evr.skip (Evr.seq (Evr.block (Evr.sr rfl (Opl.p1 (v := .ptr i2 0) (n := Opl.ldb (v := .lit (.int .i64 a0_0)) h4 rfl T3 rfl rfl rfl rfl (Opl.p1 (n := Opl.nil ?_))))))))
   refine Evr.join (fun tm S => ∃ (kq1 : Nat) (x9_2 : List Int) (i3 : Abs.Id) (pv3 : PV), spec_l20Later.l0 kq1 l1 a2 a3 x9_2 (wrap64 (x10_1 + 1)) a0_0 a0_1 a0_2 a0_3 = some r ∧ kq1 ≤ n1 ∧ Has tm [(1, v1), (2, .lit (.int .i64 a2)), (3, .lit (.int .i64 a3)), (4, .ptr i3 0), (9, pv3), (10, .lit (.int .i64 x10_1))] ∧ Box (.ptr i3 0) [.lit (.int .i64 a0_0), .lit (.int .i64 a0_1), .lit (.int .i64 a0_2), .lit (.int .i64 a0_3)] S ∧ Vec (cInt .i64) x9_2 pv3 S ∧ Ap (.ptr i3 0) pv3) ?_ fun hk1 => ?_
   ·
    rintro tm S ⟨kq1, x9_2, i3, pv3, H, hle, hh, h6, h7, ap3⟩
    rw [hh.eq]
    refine Evr.inBlock (Evr.regionN rfl (Opl.p1 (n := Opl.add (k := .i64) (a := x10_1) (b := 1) K3 rfl rfl rfl rfl (Opl.one (v := .lit (.int .i64 (wrap64 (x10_1 + 1)))) rfl rfl rfl (Opl.nil ?_)))))
    exact ih1 _ (by omega) _ _ ⟨by omega, _, _, _, _, H, ⟨rfl, rfl, rfl, rfl, rfl, rfl, trivial⟩, h6, h7, ap3⟩
   ·
    by_cases c2 : a0_0 = 7
    case pos =>
     rw [if_pos c2] at H
     have e2 : (a0_0 == 7) = true := by simpa using c2
     try rw [e2]
     refine Evr.condT rfl (Evr.regionN rfl (Opl.p1 (n := Opl.lits (M := (cInt .i64)) (ys := [1]) [.const (.int .i64 1)] K26 T3 rfl rfl rfl (by exact ⟨rfl, trivial⟩) rfl (by decide) rfl rfl rfl ?_)))
     rintro pv4 S h8 u3 w3
     have ap4 := w3.box h4
     have h9 := u3.box h4 ap4
     have ap5 := w3.vec h5
     have h10 := u3.vec h5 ap5
     obtain ⟨c3, H⟩ := peel H
     refine Opl.app (M := (cInt .i64)) (xs := x9_1) (ys := [1]) (v := pv2) h10 (.vec h8) (oInt .i64) rfl rfl K26 T3 rfl rfl (by (try simp only [List.length_cons, List.length_nil]); omega) (by show (_ + _) * 8 ≤ 140737488355328; (try simp only [List.length_cons, List.length_nil]); omega) rfl rfl rfl rfl rfl ?_
     rintro pv5 S h11 u4 w4
     have ap6 := w4.box h9
     have h12 := u4.box h9 ap2
     have ap7 := w4.vec h8
     have h13 := u4.vec h8 ap5.symm
     refine Opl.p1 (n := Opl.nil ?_)
     exact hk1 _ _ ⟨_, _, _, _, H, by omega, ⟨rfl, rfl, rfl, rfl, rfl, rfl, trivial⟩, h12, h11, ap6⟩
    rw [if_neg c2] at H
    have e3 : (a0_0 == 7) = false := by simpa using c2
    try rw [e3]
    refine Evr.condF rfl (Evr.regionN rfl (Opl.p1 (n := Opl.lits (M := (cInt .i64)) (ys := [0]) [.const (.int .i64 0)] K26 T3 rfl rfl rfl (by exact ⟨rfl, trivial⟩) rfl (by decide) rfl rfl rfl ?_)))
    rintro pv6 S h14 u5 w5
    have ap8 := w5.box h4
    have h15 := u5.box h4 ap8
    have ap9 := w5.vec h5
    have h16 := u5.vec h5 ap9
    obtain ⟨c4, H⟩ := peel H
    refine Opl.app (M := (cInt .i64)) (xs := x9_1) (ys := [0]) (v := pv2) h16 (.vec h14) (oInt .i64) rfl rfl K26 T3 rfl rfl (by (try simp only [List.length_cons, List.length_nil]); omega) (by show (_ + _) * 8 ≤ 140737488355328; (try simp only [List.length_cons, List.length_nil]); omega) rfl rfl rfl rfl rfl ?_
    rintro pv7 S h17 u6 w6
    have ap10 := w6.box h15
    have h18 := u6.box h15 ap2
    have ap11 := w6.vec h14
    have h19 := u6.vec h14 ap9.symm
    refine Opl.p1 (n := Opl.nil ?_)
    exact hk1 _ _ ⟨_, _, _, _, H, by omega, ⟨rfl, rfl, rfl, rfl, rfl, rfl, trivial⟩, h18, h17, ap10⟩
  rw [if_neg c1] at H
  have e4 : (decide (x10_1 < a3)) = false := by simpa using c1
  try rw [e4]
  refine Evr.condF rfl (Evr.exit rfl (Evr.seq (Evr.sr rfl (Opl.p1 (n := Opl.nil (Evr.block ?_))))))
  refine Evr.loop (Evr.rounds (n := n1) (Inv := fun n tm S => n ≤ n1 ∧ ∃ (x9_3 : List Int) (x11_1 : Int) (i4 : Abs.Id) (pv8 : PV), spec_l20Later.l1 n l1 a2 a3 x9_3 x11_1 a0_0 a0_1 a0_2 a0_3 = some r ∧ Has tm [(1, v1), (2, .lit (.int .i64 a2)), (3, .lit (.int .i64 a3)), (4, .ptr i4 0), (9, pv8), (11, .lit (.int .i64 x11_1))] ∧ Box (.ptr i4 0) [.lit (.int .i64 a0_0), .lit (.int .i64 a0_1), .lit (.int .i64 a0_2), .lit (.int .i64 a0_3)] S ∧ Vec (cInt .i64) x9_3 pv8 S ∧ Ap (.ptr i4 0) pv8) ?_ ?_ ?_)
  · exact ⟨Nat.le_refl _, _, _, _, _, H, ⟨rfl, rfl, rfl, rfl, rfl, rfl, trivial⟩, h4, h5, ap2⟩
  ·
   rintro tm S ⟨_, _, _, _, _, H, -⟩
   simp [spec_l20Later.l1] at H
  ·
   rintro n2 ih2 tm S ⟨hle, x9_3, x11_1, i4, pv8, H, hh, h20, h21, ap12⟩
   simp only [spec_l20Later.l1] at H
   rw [hh.eq]
   refine Evr.seq (Evr.sr rfl (Opl.p1 (n := Opl.p1 (n := Opl.p1 (n := Opl.nil ?_)))))
   by_cases c5 : x11_1 ≤ a3
   case neg =>
    rw [if_neg c5] at H
    have e18 : (decide (x11_1 ≤ a3)) = false := by simpa using c5
    try rw [e18]
    refine Evr.condF rfl (Evr.exit rfl (Evr.sr rfl (Opl.p1 (n := Opl.p1 (n := Opl.nil ?_)))))
    obtain rfl := Option.some.inj H
    refine Evr.ret1 Try.func112 rfl ?_
    show Vec _ _ pv8 _
    exact h21
   rw [if_pos c5] at H
   have e5 : (decide (x11_1 ≤ a3)) = true := by simpa using c5
   try rw [e5]
   refine Evr.condT rfl (Evr.skip (Evr.seq (Evr.block (Evr.sr rfl (Opl.p1 (n := Opl.subi (k := .i64) (a := a3) (b := 1) K3 rfl rfl rfl rfl (Opl.one (v := .lit (.int .i64 (wrap64 (a3 - 1)))) rfl rfl rfl (Opl.nil (Evr.block ?_)))))))))
   refine Evr.loop (Evr.rounds (n := n2) (Inv := fun n tm S => n ≤ n2 ∧ ∃ (x9_4 : List Int) (x12_1 : Int) (i5 : Abs.Id) (pv9 : PV), spec_l20Later.l2 n l1 a2 a3 x9_4 x11_1 x12_1 a0_0 a0_1 a0_2 a0_3 = some r ∧ Has tm [(1, v1), (2, .lit (.int .i64 a2)), (3, .lit (.int .i64 a3)), (4, .ptr i5 0), (9, pv9), (11, .lit (.int .i64 x11_1)), (12, .lit (.int .i64 x12_1))] ∧ Box (.ptr i5 0) [.lit (.int .i64 a0_0), .lit (.int .i64 a0_1), .lit (.int .i64 a0_2), .lit (.int .i64 a0_3)] S ∧ Vec (cInt .i64) x9_4 pv9 S ∧ Ap (.ptr i5 0) pv9) ?_ ?_ ?_)
   · exact ⟨Nat.le_refl _, _, _, _, _, H, ⟨rfl, rfl, rfl, rfl, rfl, rfl, rfl, trivial⟩, h20, h21, ap12⟩
   ·
    rintro tm S ⟨_, _, _, _, _, H, -⟩
    simp [spec_l20Later.l2] at H
   ·
    rintro n3 ih3 tm S ⟨hle, x9_4, x12_1, i5, pv9, H, hh, h22, h23, ap13⟩
    simp only [spec_l20Later.l2] at H
    rw [hh.eq]
    refine Evr.seq (Evr.sr rfl (Opl.p1 (n := Opl.p1 (n := Opl.nil ?_))))
    by_cases c6 : x12_1 ≥ 0
    case neg =>
     rw [if_neg c6] at H
     have e17 : (decide (x12_1 ≥ 0)) = false := by simpa using c6
     try rw [e17]
     refine Evr.condF rfl (Evr.exit rfl (Evr.inBlock (Evr.regionN rfl (Opl.p1 (n := Opl.add (k := .i64) (a := x11_1) (b := 1) K3 rfl rfl rfl rfl (Opl.one (v := .lit (.int .i64 (wrap64 (x11_1 + 1)))) rfl rfl rfl (Opl.nil ?_)))))))
     exact ih2 _ (by omega) _ _ ⟨by omega, _, _, _, _, H, ⟨rfl, rfl, rfl, rfl, rfl, rfl, trivial⟩, h22, h23, ap13⟩
    rw [if_pos c6] at H
    have e6 : (decide (x12_1 ≥ 0)) = true := by simpa using c6
    try rw [e6]
    refine Evr.condT rfl (Evr.skip (Evr.seq (Evr.block (Evr.sr rfl (Opl.p1 (n := Opl.p1 (v := .ptr i5 2) (n := Opl.ldb (v := .lit (.int .i64 a0_2)) h22 rfl T3 rfl rfl rfl rfl ?_)))))))
    obtain ⟨c7, H⟩ := peel H
    obtain ⟨c8, H⟩ := peel H
    obtain ⟨c9, H⟩ := peel H
    obtain ⟨c10, H⟩ := peel H
    obtain ⟨c11, H⟩ := peel H
    obtain ⟨c12, H⟩ := peel H
    obtain ⟨c13, H⟩ := peel H
    refine Opl.idx (M := (cSl (cInt .i64))) (xs := l1) (j := a0_2) ([] : List Int) (by exact hv1) rfl (by omega) (by omega) K23 Z26 rfl rfl ?_
    rintro p1 q1 h24
    obtain ⟨pv10, rfl, h25⟩ := h24
    refine Opl.lda (pv10) rfl T26 rfl rfl rfl rfl (Opl.p1 (n := Opl.idx (M := (cInt .i64)) (xs := (rd_Lint l1 a0_2)) (j := x12_1) (0 : Int) (by exact h25) rfl (by omega) (by omega) K26 Z3 rfl rfl ?_))
    rintro p2 q2 h26
    obtain rfl : p2 = [.lit (.int .i64 (rd (rd_Lint l1 a0_2) x12_1))] := h26
    refine Opl.lda (.lit (.int .i64 (rd (rd_Lint l1 a0_2) x12_1))) rfl T3 rfl rfl rfl rfl (Opl.p1 (n := Opl.nil (Evr.sr rfl (Opl.p1 (n := Opl.p1 (v := .ptr i5 3) (n := Opl.ldb (v := .lit (.int .i64 a0_3)) h22 rfl T3 rfl rfl rfl rfl (Opl.idx (M := (cSl (cInt .i64))) (xs := l1) (j := a0_3) ([] : List Int) (by exact hv1) rfl (by omega) (by omega) K23 Z26 rfl rfl ?_)))))))
    rintro p3 q3 h27
    obtain ⟨pv11, rfl, h28⟩ := h27
    refine Opl.lda (pv11) rfl T26 rfl rfl rfl rfl (Opl.p1 (n := Opl.idx (M := (cInt .i64)) (xs := (rd_Lint l1 a0_3)) (j := x12_1) (0 : Int) (by exact h28) rfl (by omega) (by omega) K26 Z3 rfl rfl ?_))
    rintro p4 q4 h29
    obtain rfl : p4 = [.lit (.int .i64 (rd (rd_Lint l1 a0_3) x12_1))] := h29
    refine Opl.lda (.lit (.int .i64 (rd (rd_Lint l1 a0_3) x12_1))) rfl T3 rfl rfl rfl rfl (Opl.p1 (n := Opl.nil (Evr.sr rfl (Opl.p1 (n := Opl.p1 (n := Opl.p1 (n := Opl.p1 (n := ?_))))))))
    obtain ⟨t137, h_t137, H⟩ := Option.bind_eq_some_iff.1 H
    refine Opl.callc (spec_l20Next.ev h_t137) rfl rfl rfl rfl ⟨(.lit _), (.lit _), (.lit _), trivial⟩ (by decide) ?_
    obtain ⟨c14, H⟩ := peel H
    obtain ⟨c15, H⟩ := peel H
    refine Opl.idv (M := (cInt .i64)) (xs := x9_4) (j := t137) (v := pv9) h23 rfl rfl (by omega) (by omega) K26 Z3 rfl rfl ?_
    rintro d1 z1 q5 h30 h31
    refine Opl.ldv (M := (cInt .i64)) (xs := x9_4) (j := t137) (0 : Int) h30 h31 (by omega) (by omega) rfl T3 rfl rfl rfl ?_
    rintro p5 q6 h32
    obtain rfl : p5 = [.lit (.int .i64 (rd x9_4 t137))] := h32
    refine ⟨.lit (.int .i64 (rd x9_4 t137)), rfl, ?_⟩
    refine Opl.p1 (n := Opl.nil (Evr.sr rfl (Opl.p1 (v := .ptr i5 0) (n := Opl.ldb (v := .lit (.int .i64 a0_0)) h22 rfl T3 rfl rfl rfl rfl (Opl.p1 (n := Opl.nil ?_))))))
    refine Evr.join (fun tm S => ∃ (kq2 : Nat) (x9_5 : List Int) (i6 : Abs.Id) (pv12 : PV), spec_l20Later.l2 kq2 l1 a2 a3 x9_5 x11_1 (wrap64 (x12_1 - 1)) a0_0 a0_1 a0_2 a0_3 = some r ∧ kq2 ≤ n3 ∧ Has tm [(1, v1), (2, .lit (.int .i64 a2)), (3, .lit (.int .i64 a3)), (4, .ptr i6 0), (9, pv12), (11, .lit (.int .i64 x11_1)), (12, .lit (.int .i64 x12_1))] ∧ Box (.ptr i6 0) [.lit (.int .i64 a0_0), .lit (.int .i64 a0_1), .lit (.int .i64 a0_2), .lit (.int .i64 a0_3)] S ∧ Vec (cInt .i64) x9_5 pv12 S ∧ Ap (.ptr i6 0) pv12) ?_ fun hk2 => ?_
    ·
     rintro tm S ⟨kq2, x9_5, i6, pv12, H, hle, hh, h33, h34, ap14⟩
     rw [hh.eq]
     refine Evr.inBlock (Evr.regionN rfl (Opl.p1 (n := Opl.subi (k := .i64) (a := x12_1) (b := 1) K3 rfl rfl rfl rfl (Opl.one (v := .lit (.int .i64 (wrap64 (x12_1 - 1)))) rfl rfl rfl (Opl.nil ?_)))))
     exact ih3 _ (by omega) _ _ ⟨by omega, _, _, _, _, H, ⟨rfl, rfl, rfl, rfl, rfl, rfl, rfl, trivial⟩, h33, h34, ap14⟩
    ·
     by_cases c16 : a0_0 = 6
     case pos =>
      rw [if_pos c16] at H
      have e7 : (a0_0 == 6) = true := by simpa using c16
      try rw [e7]
      refine Evr.condT rfl ?_
      refine Evr.join (fun tm S => ∃ (kq3 : Nat) (x9_6 : List Int) (i7 : Abs.Id) (pv13 : PV), spec_l20Later.l2 kq3 l1 a2 a3 x9_6 x11_1 (wrap64 (x12_1 - 1)) a0_0 a0_1 a0_2 a0_3 = some r ∧ kq3 ≤ n3 ∧ Has tm [(1, v1), (2, .lit (.int .i64 a2)), (3, .lit (.int .i64 a3)), (4, .ptr i7 0), (9, pv13), (11, .lit (.int .i64 x11_1)), (12, .lit (.int .i64 x12_1))] ∧ Box (.ptr i7 0) [.lit (.int .i64 a0_0), .lit (.int .i64 a0_1), .lit (.int .i64 a0_2), .lit (.int .i64 a0_3)] S ∧ Vec (cInt .i64) x9_6 pv13 S ∧ Ap (.ptr i7 0) pv13) ?_ fun hk3 => ?_
      ·
       rintro tm S ⟨kq3, x9_6, i7, pv13, H, hle, hh, h35, h36, ap15⟩
       rw [hh.eq]
       exact hk2 _ _ ⟨_, _, _, _, H, by omega, ⟨rfl, rfl, rfl, rfl, rfl, rfl, rfl, trivial⟩, h35, h36, ap15⟩
      ·
       refine Evr.regionN rfl (Opl.p1 (n := Opl.p1 (n := Opl.p1 (n := Opl.p1 (n := Opl.p1 (n := ?_))))))
       by_cases c17 : (rd (rd_Lint l1 a0_3) x12_1) = 1
       case pos =>
        rw [if_pos c17] at H
        have e8 : ((rd (rd_Lint l1 a0_3) x12_1) == 1) = true := by simpa using c17
        try rw [e8]
        refine Opl.skp rfl (Opl.skp rfl (Opl.skp rfl (Opl.skp rfl (Opl.skp rfl (Opl.skp rfl (Opl.p1 (n := ?_)))))))
        obtain ⟨t139, h_t139, H⟩ := Option.bind_eq_some_iff.1 H
        refine Opl.callc (spec_l1Truth.ev h_t139) rfl rfl rfl rfl ⟨(.lit _), trivial⟩ (by decide) ?_
        obtain ⟨c18, H⟩ := peel H
        refine Opl.idv (M := (cInt .i64)) (xs := x9_4) (j := x12_1) (v := pv9) h23 rfl rfl (by omega) (by omega) K26 Z3 rfl rfl ?_
        rintro d2 z2 q7 h37 h38
        refine Opl.stv (M := (cInt .i64)) (xs := x9_4) (j := x12_1) (y := t139) (vs := [.lit (.int .i64 t139)]) h37 h38 (by omega) (by omega) rfl rfl (by exact rfl) Z3 rfl rfl rfl rfl ?_
        rw [← q7]
        rintro S h39 u7
        have h40 := u7.box h22 ap13
        refine Opl.nil ?_
        exact hk3 _ _ ⟨_, _, _, _, H, by omega, ⟨rfl, rfl, rfl, rfl, rfl, rfl, rfl, trivial⟩, h40, h39, ap13⟩
       rw [if_neg c17] at H
       have e9 : ((rd (rd_Lint l1 a0_3) x12_1) == 1) = false := by simpa using c17
       try rw [e9]
       refine Opl.p1 (n := Opl.p1 (n := Opl.p1 (n := ?_)))
       by_cases c19 : (rd (rd_Lint l1 a0_2) x12_1) = 1
       case pos =>
        rw [if_pos c19] at H
        have e10 : ((rd (rd_Lint l1 a0_2) x12_1) == 1) = true := by simpa using c19
        try rw [e10]
        refine Opl.p1 (n := Opl.p1 (n := Opl.p1 (n := Opl.p1 (n := ?_))))
        obtain ⟨t141, h_t141, H⟩ := Option.bind_eq_some_iff.1 H
        refine Opl.callc (spec_l1Truth.ev h_t141) rfl rfl rfl rfl ⟨(.lit _), trivial⟩ (by decide) ?_
        obtain ⟨c20, H⟩ := peel H
        refine Opl.idv (M := (cInt .i64)) (xs := x9_4) (j := x12_1) (v := pv9) h23 rfl rfl (by omega) (by omega) K26 Z3 rfl rfl ?_
        rintro d3 z3 q8 h41 h42
        refine Opl.stv (M := (cInt .i64)) (xs := x9_4) (j := x12_1) (y := t141) (vs := [.lit (.int .i64 t141)]) h41 h42 (by omega) (by omega) rfl rfl (by exact rfl) Z3 rfl rfl rfl rfl ?_
        rw [← q8]
        rintro S h43 u8
        have h44 := u8.box h22 ap13
        refine Opl.nil ?_
        exact hk3 _ _ ⟨_, _, _, _, H, by omega, ⟨rfl, rfl, rfl, rfl, rfl, rfl, rfl, trivial⟩, h44, h43, ap13⟩
       rw [if_neg c19] at H
       have e11 : ((rd (rd_Lint l1 a0_2) x12_1) == 1) = false := by simpa using c19
       try rw [e11]
       refine Opl.skp rfl (Opl.skp rfl (Opl.p1 (n := Opl.p1 (n := ?_))))
       obtain ⟨t143, h_t143, H⟩ := Option.bind_eq_some_iff.1 H
       refine Opl.callc (spec_l1Truth.ev h_t143) rfl rfl rfl rfl ⟨(.lit _), trivial⟩ (by decide) ?_
       obtain ⟨c21, H⟩ := peel H
       refine Opl.idv (M := (cInt .i64)) (xs := x9_4) (j := x12_1) (v := pv9) h23 rfl rfl (by omega) (by omega) K26 Z3 rfl rfl ?_
       rintro d4 z4 q9 h45 h46
       refine Opl.stv (M := (cInt .i64)) (xs := x9_4) (j := x12_1) (y := t143) (vs := [.lit (.int .i64 t143)]) h45 h46 (by omega) (by omega) rfl rfl (by exact rfl) Z3 rfl rfl rfl rfl ?_
       rw [← q9]
       rintro S h47 u9
       have h48 := u9.box h22 ap13
       refine Opl.nil ?_
       exact hk3 _ _ ⟨_, _, _, _, H, by omega, ⟨rfl, rfl, rfl, rfl, rfl, rfl, rfl, trivial⟩, h48, h47, ap13⟩
     rw [if_neg c16] at H
     have e12 : (a0_0 == 6) = false := by simpa using c16
     try rw [e12]
     refine Evr.condF rfl ?_
     refine Evr.join (fun tm S => ∃ (kq4 : Nat) (x9_7 : List Int) (i8 : Abs.Id) (pv14 : PV), spec_l20Later.l2 kq4 l1 a2 a3 x9_7 x11_1 (wrap64 (x12_1 - 1)) a0_0 a0_1 a0_2 a0_3 = some r ∧ kq4 ≤ n3 ∧ Has tm [(1, v1), (2, .lit (.int .i64 a2)), (3, .lit (.int .i64 a3)), (4, .ptr i8 0), (9, pv14), (11, .lit (.int .i64 x11_1)), (12, .lit (.int .i64 x12_1))] ∧ Box (.ptr i8 0) [.lit (.int .i64 a0_0), .lit (.int .i64 a0_1), .lit (.int .i64 a0_2), .lit (.int .i64 a0_3)] S ∧ Vec (cInt .i64) x9_7 pv14 S ∧ Ap (.ptr i8 0) pv14) ?_ fun hk4 => ?_
     ·
      rintro tm S ⟨kq4, x9_7, i8, pv14, H, hle, hh, h49, h50, ap16⟩
      rw [hh.eq]
      exact hk2 _ _ ⟨_, _, _, _, H, by omega, ⟨rfl, rfl, rfl, rfl, rfl, rfl, rfl, trivial⟩, h49, h50, ap16⟩
     ·
      refine Evr.regionN rfl (Opl.p1 (n := Opl.p1 (n := Opl.p1 (n := Opl.p1 (n := Opl.p1 (n := ?_))))))
      by_cases c22 : (rd (rd_Lint l1 a0_3) x12_1) = 1
      case neg =>
       rw [if_neg c22] at H
       have e16 : ((rd (rd_Lint l1 a0_3) x12_1) == 1) = false := by simpa using c22
       try rw [e16]
       refine Opl.skp rfl (Opl.skp rfl (Opl.skp rfl (Opl.skp rfl (Opl.skp rfl (Opl.skp rfl (Opl.p1 (n := ?_)))))))
       obtain ⟨t149, h_t149, H⟩ := Option.bind_eq_some_iff.1 H
       refine Opl.callc (spec_l1Truth.ev h_t149) rfl rfl rfl rfl ⟨(.lit _), trivial⟩ (by decide) ?_
       obtain ⟨c26, H⟩ := peel H
       refine Opl.idv (M := (cInt .i64)) (xs := x9_4) (j := x12_1) (v := pv9) h23 rfl rfl (by omega) (by omega) K26 Z3 rfl rfl ?_
       rintro d7 z7 q12 h59 h60
       refine Opl.stv (M := (cInt .i64)) (xs := x9_4) (j := x12_1) (y := t149) (vs := [.lit (.int .i64 t149)]) h59 h60 (by omega) (by omega) rfl rfl (by exact rfl) Z3 rfl rfl rfl rfl ?_
       rw [← q12]
       rintro S h61 u12
       have h62 := u12.box h22 ap13
       refine Opl.nil ?_
       exact hk4 _ _ ⟨_, _, _, _, H, by omega, ⟨rfl, rfl, rfl, rfl, rfl, rfl, rfl, trivial⟩, h62, h61, ap13⟩
      rw [if_pos c22] at H
      have e13 : ((rd (rd_Lint l1 a0_3) x12_1) == 1) = true := by simpa using c22
      try rw [e13]
      refine Opl.p1 (n := Opl.p1 (n := Opl.p1 (n := ?_)))
      by_cases c23 : (rd (rd_Lint l1 a0_2) x12_1) = 1
      case pos =>
       rw [if_pos c23] at H
       have e14 : ((rd (rd_Lint l1 a0_2) x12_1) == 1) = true := by simpa using c23
       try rw [e14]
       refine Opl.skp rfl (Opl.skp rfl (Opl.p1 (n := Opl.p1 (n := ?_))))
       obtain ⟨t145, h_t145, H⟩ := Option.bind_eq_some_iff.1 H
       refine Opl.callc (spec_l1Truth.ev h_t145) rfl rfl rfl rfl ⟨(.lit _), trivial⟩ (by decide) ?_
       obtain ⟨c24, H⟩ := peel H
       refine Opl.idv (M := (cInt .i64)) (xs := x9_4) (j := x12_1) (v := pv9) h23 rfl rfl (by omega) (by omega) K26 Z3 rfl rfl ?_
       rintro d5 z5 q10 h51 h52
       refine Opl.stv (M := (cInt .i64)) (xs := x9_4) (j := x12_1) (y := t145) (vs := [.lit (.int .i64 t145)]) h51 h52 (by omega) (by omega) rfl rfl (by exact rfl) Z3 rfl rfl rfl rfl ?_
       rw [← q10]
       rintro S h53 u10
       have h54 := u10.box h22 ap13
       refine Opl.nil ?_
       exact hk4 _ _ ⟨_, _, _, _, H, by omega, ⟨rfl, rfl, rfl, rfl, rfl, rfl, rfl, trivial⟩, h54, h53, ap13⟩
      rw [if_neg c23] at H
      have e15 : ((rd (rd_Lint l1 a0_2) x12_1) == 1) = false := by simpa using c23
      try rw [e15]
      refine Opl.p1 (n := Opl.p1 (n := Opl.p1 (n := Opl.p1 (n := ?_))))
      obtain ⟨t147, h_t147, H⟩ := Option.bind_eq_some_iff.1 H
      refine Opl.callc (spec_l1Truth.ev h_t147) rfl rfl rfl rfl ⟨(.lit _), trivial⟩ (by decide) ?_
      obtain ⟨c25, H⟩ := peel H
      refine Opl.idv (M := (cInt .i64)) (xs := x9_4) (j := x12_1) (v := pv9) h23 rfl rfl (by omega) (by omega) K26 Z3 rfl rfl ?_
      rintro d6 z6 q11 h55 h56
      refine Opl.stv (M := (cInt .i64)) (xs := x9_4) (j := x12_1) (y := t147) (vs := [.lit (.int .i64 t147)]) h55 h56 (by omega) (by omega) rfl rfl (by exact rfl) Z3 rfl rfl rfl rfl ?_
      rw [← q11]
      rintro S h57 u11
      have h58 := u11.box h22 ap13
      refine Opl.nil ?_
      exact hk4 _ _ ⟨_, _, _, _, H, by omega, ⟨rfl, rfl, rfl, rfl, rfl, rfl, rfl, trivial⟩, h58, h57, ap13⟩
theorem spec_l3At.ev {l0 : List (List Int)} {v0 : PV} (hv0 : Sl (cSl (cInt .i64)) l0 v0) {l1 : List (List Int)} {v1 : PV} (hv1 : Sl (cSl (cInt .i64)) l1 v1) {a2 : Int} {r : (List Int)} (H : spec_l3At.f l0 l1 a2 = some r) : Ret Try.prog 41 [v0, v1, .lit (.int .i64 a2)] fun v S => Out (fun q => Sl (cInt .i64) r q) v S := by
 unfold spec_l3At.f at H
 refine Ret.intro Try.func41 rfl (Nat.le_of_ble_eq_true rfl) rfl ?_
 rw [tm3]
 refine Evr.sr rfl (Opl.p1 (n := Opl.nil (Evr.seq (Evr.sr rfl (Opl.p1 (n := Opl.p1 (n := Opl.len (xs := l0) (by exact hv0) K23 rfl rfl rfl rfl (Opl.p1 (n := Opl.nil ?_)))))))))
 by_cases c1 : a2 < (l0.length : Int)
 case pos =>
  rw [if_pos c1] at H
  have e1 : (decide (a2 < (l0.length : Int))) = true := by simpa using c1
  try rw [e1]
  refine Evr.condT rfl (Evr.sr rfl (Opl.p1 (n := Opl.p1 (n := ?_))))
  obtain ⟨c2, H⟩ := peel H
  refine Opl.idx (M := (cSl (cInt .i64))) (xs := l0) (j := a2) ([] : List Int) (by exact hv0) rfl (by omega) (by omega) K23 Z26 rfl rfl ?_
  rintro p1 q1 h1
  obtain ⟨pv1, rfl, h2⟩ := h1
  refine Opl.lda (pv1) rfl T26 rfl rfl rfl rfl (Opl.p1 (n := Opl.nil ?_))
  obtain rfl := Option.some.inj H
  refine Evr.ret1 Try.func41 rfl ?_
  show Out _ pv1 _
  exact (.sl h2)
 rw [if_neg c1] at H
 have e2 : (decide (a2 < (l0.length : Int))) = false := by simpa using c1
 try rw [e2]
 refine Evr.condF rfl (Evr.skip (Evr.sr rfl (Opl.p1 (n := Opl.p1 (n := Opl.p1 (n := Opl.len (xs := l0) (by exact hv0) K23 rfl rfl rfl rfl (Opl.subi (k := .i64) (a := a2) (b := (l0.length : Int)) K3 rfl rfl rfl rfl (Opl.one (v := v1) rfl rfl rfl (Opl.len (xs := l1) (by exact hv1) K23 rfl rfl rfl rfl ?_)))))))))
 obtain ⟨c3, H⟩ := peelN H
 obtain ⟨c4, H⟩ := peel H
 obtain ⟨c5, H⟩ := peel H
 refine Opl.one (v := .lit (.int .i64 (Int.tmod (wrap64 (a2 - (l0.length : Int))) (l1.length : Int)))) rfl rfl (by simp only [go_sem]; rw [if_neg (by first | assumption | decide | omega)]; rfl) (Opl.idx (M := (cSl (cInt .i64))) (xs := l1) (j := (Int.tmod (wrap64 (a2 - (l0.length : Int))) (l1.length : Int))) ([] : List Int) (by exact hv1) rfl (by omega) (by omega) K23 Z26 rfl rfl ?_)
 rintro p2 q2 h3
 obtain ⟨pv2, rfl, h4⟩ := h3
 refine Opl.lda (pv2) rfl T26 rfl rfl rfl rfl (Opl.one (v := pv2) rfl rfl rfl (Opl.nil ?_))
 obtain rfl := Option.some.inj H
 refine Evr.ret1 Try.func41 rfl ?_
 show Out _ pv2 _
 exact (.sl h4)
theorem spec_l20Row.ev {k : Nat} {a0_0 : Int} {a0_1 : Int} {a0_2 : Int} {a0_3 : Int} {l1 : List (List Int)} {v1 : PV} (hv1 : Sl (cSl (cInt .i64)) l1 v1) {l2 : List (List Int)} {v2 : PV} (hv2 : Sl (cSl (cInt .i64)) l2 v2) {l3 : List (List Int)} {v3 : PV} (hv3 : Sl (cSl (cInt .i64)) l3 v3) {r : (List Int)} (H : spec_l20Row.f k a0_0 a0_1 a0_2 a0_3 l1 l2 l3 = some r) : Ret Try.prog 72 [.agg [.lit (.int .i64 a0_0), .lit (.int .i64 a0_1), .lit (.int .i64 a0_2), .lit (.int .i64 a0_3)], v1, v2, v3] fun v S => Vec (cInt .i64) r v S := by
 unfold spec_l20Row.f at H
 refine Ret.intro Try.func72 rfl (Nat.le_of_ble_eq_true rfl) rfl ?_
 rw [tm4]
 refine Evr.sr rfl (Opl.box (cs := [.lit (.int .i64 a0_0), .lit (.int .i64 a0_1), .lit (.int .i64 a0_2), .lit (.int .i64 a0_3)]) rfl rfl rfl rfl ?_)
 rintro i1 S h1 u1 w1
 refine Opl.p1 (n := Opl.nil (Evr.sr rfl (Opl.p1 (n := Opl.len (xs := l2) (by exact hv2) K23 rfl rfl rfl rfl (Opl.p1 (n := Opl.len (xs := l3) (by exact hv3) K23 rfl rfl rfl rfl (Opl.add (k := .i64) (a := (l2.length : Int)) (b := (l3.length : Int)) K3 rfl rfl rfl rfl (Opl.one (v := .lit (.int .i64 (wrap64 ((l2.length : Int) + (l3.length : Int))))) rfl rfl rfl (Opl.nil (Evr.seq (Evr.sr rfl (Opl.p1 (v := .ptr i1 0) (n := Opl.ldb (v := .lit (.int .i64 a0_0)) h1 rfl T3 rfl rfl rfl rfl (Opl.p1 (n := Opl.nil ?_)))))))))))))))
 by_cases c1 : a0_0 ≥ 6
 case pos =>
  rw [if_pos c1] at H
  have e1 : (decide (a0_0 ≥ 6)) = true := by simpa using c1
  try rw [e1]
  refine Evr.condT rfl (Evr.sr rfl (Opl.ldb (v := .agg [.lit (.int .i64 a0_0), .lit (.int .i64 a0_1), .lit (.int .i64 a0_2), .lit (.int .i64 a0_3)]) h1 rfl T64 rfl rfl rfl rfl (Opl.one (v := v1) rfl rfl rfl (Opl.one (v := v2) rfl rfl rfl (Opl.len (xs := l2) (by exact hv2) K23 rfl rfl rfl rfl (Opl.one (v := .lit (.int .i64 (wrap64 ((l2.length : Int) + (l3.length : Int))))) rfl rfl rfl ?_))))))
  obtain ⟨t152, h_t152, H⟩ := Option.bind_eq_some_iff.1 H
  refine Opl.calla (spec_l20Later.ev hv1 h_t152) rfl rfl rfl rfl ⟨(.aggL ⟨(.lit _), (.lit _), (.lit _), (.lit _), trivial⟩), hv1.plain, (.lit _), (.lit _), trivial⟩ rfl ?_
  rintro pv1 S h2 u2 w2
  have ap1 := w2.box h1
  have h3 := u2.box h1 ap1
  refine Opl.one (v := pv1) rfl rfl rfl (Opl.nil ?_)
  obtain rfl := Option.some.inj H
  refine Evr.ret1 Try.func72 rfl ?_
  show Vec _ _ pv1 _
  exact h2
 rw [if_neg c1] at H
 have e2 : (decide (a0_0 ≥ 6)) = false := by simpa using c1
 try rw [e2]
 refine Evr.condF rfl (Evr.skip (Evr.sr rfl (Opl.lits (M := (cInt .i64)) (ys := []) [] K26 T3 rfl rfl rfl trivial rfl (by decide) rfl rfl rfl ?_)))
 rintro pv2 S h4 u3 w3
 have ap2 := w3.box h1
 have h5 := u3.box h1 ap2
 refine Opl.one (v := pv2) rfl rfl rfl (Opl.nil (Evr.seq (Evr.sr rfl (Opl.one (v := .lit (.int .i64 0)) rfl rfl rfl (Opl.nil (Evr.block ?_))))))
 refine Evr.loop (Evr.rounds (n := k) (Inv := fun n tm S => n ≤ k ∧ ∃ (x10_1 : List Int) (x11_1 : Int) (i2 : Abs.Id) (pv3 : PV), spec_l20Row.l0 n l1 l2 l3 (wrap64 ((l2.length : Int) + (l3.length : Int))) x10_1 x11_1 a0_0 a0_1 a0_2 a0_3 = some r ∧ Has tm [(1, v1), (2, v2), (3, v3), (4, .ptr i2 0), (9, .lit (.int .i64 (wrap64 ((l2.length : Int) + (l3.length : Int))))), (10, pv3), (11, .lit (.int .i64 x11_1))] ∧ Box (.ptr i2 0) [.lit (.int .i64 a0_0), .lit (.int .i64 a0_1), .lit (.int .i64 a0_2), .lit (.int .i64 a0_3)] S ∧ Vec (cInt .i64) x10_1 pv3 S ∧ Ap (.ptr i2 0) pv3) ?_ ?_ ?_)
 · exact ⟨Nat.le_refl _, _, _, _, _, H, ⟨rfl, rfl, rfl, rfl, rfl, rfl, rfl, trivial⟩, h5, h4, ap2⟩
 ·
  rintro tm S ⟨_, _, _, _, _, H, -⟩
  simp [spec_l20Row.l0] at H
 ·
  rintro n1 ih1 tm S ⟨hle, x10_1, x11_1, i2, pv3, H, hh, h6, h7, ap3⟩
  simp only [spec_l20Row.l0] at H
  rw [hh.eq]
  refine Evr.seq (Evr.sr rfl (Opl.one (v := .lit (.int .i64 x11_1)) rfl rfl rfl (Opl.one (v := .lit (.int .i64 (wrap64 ((l2.length : Int) + (l3.length : Int))))) rfl rfl rfl (Opl.lss (a := x11_1) (b := (wrap64 ((l2.length : Int) + (l3.length : Int)))) K3 rfl rfl rfl rfl (Opl.nil ?_)))))
  by_cases c2 : x11_1 < (wrap64 ((l2.length : Int) + (l3.length : Int)))
  case neg =>
   rw [if_neg c2] at H
   have e14 : (decide (x11_1 < (wrap64 ((l2.length : Int) + (l3.length : Int))))) = false := by simpa using c2
   try rw [e14]
   refine Evr.condF rfl (Evr.exit rfl (Evr.sr rfl (Opl.one (v := pv3) rfl rfl rfl (Opl.one (v := pv3) rfl rfl rfl (Opl.nil ?_)))))
   obtain rfl := Option.some.inj H
   refine Evr.ret1 Try.func72 rfl ?_
   show Vec _ _ pv3 _
   exact h7
  rw [if_pos c2] at H
  have e3 : (decide (x11_1 < (wrap64 ((l2.length : Int) + (l3.length : Int))))) = true := by simpa using c2
  try rw [e3]
  refine Evr.condT rfl (Evr.skip (Evr.seq (Evr.block (Evr.sr rfl (Opl.one (v := .lit (.int .i64 1)) rfl rfl rfl (Opl.nil (Evr.seq (Evr.sr rfl (Opl.p1 (v := .ptr i2 0) (n := Opl.ldb (v := .lit (.int .i64 a0_0)) h6 rfl T3 rfl rfl rfl rfl (Opl.p1 (n := Opl.nil ?_))))))))))))
  by_cases c3 : a0_0 = 1
  case pos =>
   rw [if_pos c3] at H
   have e4 : (a0_0 == 1) = true := by simpa using c3
   try rw [e4]
   refine Evr.condT rfl (Evr.regionD rfl (by kernel_rfl) (Opl.one (v := v2) rfl rfl rfl (Opl.one (v := v3) rfl rfl rfl (Opl.one (v := .lit (.int .i64 x11_1)) rfl rfl rfl ?_))))
   obtain ⟨t158, h_t158, H⟩ := Option.bind_eq_some_iff.1 H
   refine Opl.call (spec_l3At.ev hv2 hv3 h_t158) rfl rfl rfl rfl ⟨hv2.plain, hv3.plain, (.lit _), trivial⟩ (by decide) ?_
   rintro pv4 h8
   refine Opl.p1 (v := .ptr i2 1) (n := Opl.ldb (v := .lit (.int .i64 a0_1)) h6 rfl T3 rfl rfl rfl rfl ?_)
   obtain ⟨c4, H⟩ := peel H
   obtain ⟨c5, H⟩ := peel H
   obtain ⟨c6, H⟩ := peel H
   refine Opl.idx (M := (cInt .i64)) (xs := t158) (j := a0_1) (0 : Int) (by exact h8) rfl (by omega) (by omega) K26 Z3 rfl rfl ?_
   rintro p1 q1 h9
   obtain rfl : p1 = [.lit (.int .i64 (rd t158 a0_1))] := h9
   refine Opl.lda (.lit (.int .i64 (rd t158 a0_1))) rfl T3 rfl rfl rfl rfl (Opl.one (v := .lit (.int .i64 (rd t158 a0_1))) rfl rfl rfl (Opl.nil (Evr.regionN rfl (Opl.one (v := pv3) rfl rfl rfl (Opl.one (v := .lit (.int .i64 (rd t158 a0_1))) rfl rfl rfl (Opl.lits (M := (cInt .i64)) (ys := [(rd t158 a0_1)]) [.tmp 114] K26 T3 rfl rfl rfl (by exact ⟨rfl, trivial⟩) rfl (by decide) rfl rfl rfl ?_))))))
   rintro pv5 S h10 u4 w4
   have ap4 := w4.box h6
   have h11 := u4.box h6 ap4
   have ap5 := w4.vec h7
   have h12 := u4.vec h7 ap5
   refine Opl.app (M := (cInt .i64)) (xs := x10_1) (ys := [(rd t158 a0_1)]) (v := pv3) h12 (.vec h10) (oInt .i64) rfl rfl K26 T3 rfl rfl (by (try simp only [List.length_cons, List.length_nil]); omega) (by show (_ + _) * 8 ≤ 140737488355328; (try simp only [List.length_cons, List.length_nil]); omega) rfl rfl rfl rfl rfl ?_
   rintro pv6 S h13 u5 w5
   have ap6 := w5.box h11
   have h14 := u5.box h11 ap3
   have ap7 := w5.vec h10
   have h15 := u5.vec h10 ap5.symm
   refine Opl.one (v := pv6) rfl rfl rfl (Opl.nil (Evr.inBlock (Evr.regionN rfl (Opl.one (v := .lit (.int .i64 x11_1)) rfl rfl rfl (Opl.add (k := .i64) (a := x11_1) (b := 1) K3 rfl rfl rfl rfl (Opl.one (v := .lit (.int .i64 (wrap64 (x11_1 + 1)))) rfl rfl rfl (Opl.nil ?_)))))))
   exact ih1 _ (by omega) _ _ ⟨by omega, _, _, _, _, H, ⟨rfl, rfl, rfl, rfl, rfl, rfl, rfl, trivial⟩, h14, h13, ap6⟩
  rw [if_neg c3] at H
  have e5 : (a0_0 == 1) = false := by simpa using c3
  try rw [e5]
  refine Evr.condF rfl (Evr.sr rfl (Opl.p1 (v := .ptr i2 0) (n := Opl.ldb (v := .lit (.int .i64 a0_0)) h6 rfl T3 rfl rfl rfl rfl (Opl.p1 (n := Opl.nil ?_)))))
  by_cases c7 : a0_0 = 2
  case pos =>
   rw [if_pos c7] at H
   have e6 : (a0_0 == 2) = true := by simpa using c7
   try rw [e6]
   refine Evr.condT rfl (Evr.regionN rfl (Opl.one (v := v1) rfl rfl rfl (Opl.p1 (v := .ptr i2 2) (n := Opl.ldb (v := .lit (.int .i64 a0_2)) h6 rfl T3 rfl rfl rfl rfl ?_))))
   obtain ⟨c8, H⟩ := peel H
   obtain ⟨c9, H⟩ := peel H
   obtain ⟨c10, H⟩ := peel H
   obtain ⟨c11, H⟩ := peel H
   obtain ⟨c12, H⟩ := peel H
   refine Opl.idx (M := (cSl (cInt .i64))) (xs := l1) (j := a0_2) ([] : List Int) (by exact hv1) rfl (by omega) (by omega) K23 Z26 rfl rfl ?_
   rintro p2 q2 h16
   obtain ⟨pv7, rfl, h17⟩ := h16
   refine Opl.lda (pv7) rfl T26 rfl rfl rfl rfl (Opl.one (v := .lit (.int .i64 x11_1)) rfl rfl rfl (Opl.idx (M := (cInt .i64)) (xs := (rd_Lint l1 a0_2)) (j := x11_1) (0 : Int) (by exact h17) rfl (by omega) (by omega) K26 Z3 rfl rfl ?_))
   rintro p3 q3 h18
   obtain rfl : p3 = [.lit (.int .i64 (rd (rd_Lint l1 a0_2) x11_1))] := h18
   refine Opl.lda (.lit (.int .i64 (rd (rd_Lint l1 a0_2) x11_1))) rfl T3 rfl rfl rfl rfl (Opl.subi (k := .i64) (a := 1) (b := (rd (rd_Lint l1 a0_2) x11_1)) K3 rfl rfl rfl rfl (Opl.one (v := .lit (.int .i64 (wrap64 (1 - (rd (rd_Lint l1 a0_2) x11_1))))) rfl rfl rfl (Opl.nil (Evr.regionN rfl (Opl.one (v := pv3) rfl rfl rfl (Opl.one (v := .lit (.int .i64 (wrap64 (1 - (rd (rd_Lint l1 a0_2) x11_1))))) rfl rfl rfl (Opl.lits (M := (cInt .i64)) (ys := [(wrap64 (1 - (rd (rd_Lint l1 a0_2) x11_1)))]) [.tmp 114] K26 T3 rfl rfl rfl (by exact ⟨rfl, trivial⟩) rfl (by decide) rfl rfl rfl ?_)))))))
   rintro pv8 S h19 u6 w6
   have ap8 := w6.box h6
   have h20 := u6.box h6 ap8
   have ap9 := w6.vec h7
   have h21 := u6.vec h7 ap9
   refine Opl.app (M := (cInt .i64)) (xs := x10_1) (ys := [(wrap64 (1 - (rd (rd_Lint l1 a0_2) x11_1)))]) (v := pv3) h21 (.vec h19) (oInt .i64) rfl rfl K26 T3 rfl rfl (by (try simp only [List.length_cons, List.length_nil]); omega) (by show (_ + _) * 8 ≤ 140737488355328; (try simp only [List.length_cons, List.length_nil]); omega) rfl rfl rfl rfl rfl ?_
   rintro pv9 S h22 u7 w7
   have ap10 := w7.box h20
   have h23 := u7.box h20 ap3
   have ap11 := w7.vec h19
   have h24 := u7.vec h19 ap9.symm
   refine Opl.one (v := pv9) rfl rfl rfl (Opl.nil (Evr.inBlock (Evr.regionN rfl (Opl.one (v := .lit (.int .i64 x11_1)) rfl rfl rfl (Opl.add (k := .i64) (a := x11_1) (b := 1) K3 rfl rfl rfl rfl (Opl.one (v := .lit (.int .i64 (wrap64 (x11_1 + 1)))) rfl rfl rfl (Opl.nil ?_)))))))
   exact ih1 _ (by omega) _ _ ⟨by omega, _, _, _, _, H, ⟨rfl, rfl, rfl, rfl, rfl, rfl, rfl, trivial⟩, h23, h22, ap10⟩
  rw [if_neg c7] at H
  have e7 : (a0_0 == 2) = false := by simpa using c7
  try rw [e7]
  refine Evr.condF rfl (Evr.sr rfl (Opl.p1 (v := .ptr i2 0) (n := Opl.ldb (v := .lit (.int .i64 a0_0)) h6 rfl T3 rfl rfl rfl rfl (Opl.p1 (n := Opl.nil ?_)))))
  by_cases c13 : a0_0 = 3
  case pos =>
   rw [if_pos c13] at H
   have e8 : (a0_0 == 3) = true := by simpa using c13
   try rw [e8]
   refine Evr.condT rfl (Evr.regionD rfl (by kernel_rfl) (Opl.one (v := v1) rfl rfl rfl (Opl.p1 (v := .ptr i2 2) (n := Opl.ldb (v := .lit (.int .i64 a0_2)) h6 rfl T3 rfl rfl rfl rfl ?_))))
   obtain ⟨c14, H⟩ := peel H
   obtain ⟨c15, H⟩ := peel H
   obtain ⟨c16, H⟩ := peel H
   obtain ⟨c17, H⟩ := peel H
   obtain ⟨c18, H⟩ := peel H
   obtain ⟨c19, H⟩ := peel H
   obtain ⟨c20, H⟩ := peel H
   obtain ⟨c21, H⟩ := peel H
   refine Opl.idx (M := (cSl (cInt .i64))) (xs := l1) (j := a0_2) ([] : List Int) (by exact hv1) rfl (by omega) (by omega) K23 Z26 rfl rfl ?_
   rintro p4 q4 h25
   obtain ⟨pv10, rfl, h26⟩ := h25
   refine Opl.lda (pv10) rfl T26 rfl rfl rfl rfl (Opl.one (v := .lit (.int .i64 x11_1)) rfl rfl rfl (Opl.idx (M := (cInt .i64)) (xs := (rd_Lint l1 a0_2)) (j := x11_1) (0 : Int) (by exact h26) rfl (by omega) (by omega) K26 Z3 rfl rfl ?_))
   rintro p5 q5 h27
   obtain rfl : p5 = [.lit (.int .i64 (rd (rd_Lint l1 a0_2) x11_1))] := h27
   refine Opl.lda (.lit (.int .i64 (rd (rd_Lint l1 a0_2) x11_1))) rfl T3 rfl rfl rfl rfl (Opl.one (v := v1) rfl rfl rfl (Opl.p1 (v := .ptr i2 3) (n := Opl.ldb (v := .lit (.int .i64 a0_3)) h6 rfl T3 rfl rfl rfl rfl (Opl.idx (M := (cSl (cInt .i64))) (xs := l1) (j := a0_3) ([] : List Int) (by exact hv1) rfl (by omega) (by omega) K23 Z26 rfl rfl ?_))))
   rintro p6 q6 h28
   obtain ⟨pv11, rfl, h29⟩ := h28
   refine Opl.lda (pv11) rfl T26 rfl rfl rfl rfl (Opl.one (v := .lit (.int .i64 x11_1)) rfl rfl rfl (Opl.idx (M := (cInt .i64)) (xs := (rd_Lint l1 a0_3)) (j := x11_1) (0 : Int) (by exact h29) rfl (by omega) (by omega) K26 Z3 rfl rfl ?_))
   rintro p7 q7 h30
   obtain rfl : p7 = [.lit (.int .i64 (rd (rd_Lint l1 a0_3) x11_1))] := h30
   refine Opl.lda (.lit (.int .i64 (rd (rd_Lint l1 a0_3) x11_1))) rfl T3 rfl rfl rfl rfl (Opl.mul (k := .i64) (a := (rd (rd_Lint l1 a0_2) x11_1)) (b := (rd (rd_Lint l1 a0_3) x11_1)) K3 rfl rfl rfl rfl (Opl.one (v := .lit (.int .i64 (wrap64 ((rd (rd_Lint l1 a0_2) x11_1) * (rd (rd_Lint l1 a0_3) x11_1))))) rfl rfl rfl (Opl.nil (Evr.regionN rfl (Opl.one (v := pv3) rfl rfl rfl (Opl.one (v := .lit (.int .i64 (wrap64 ((rd (rd_Lint l1 a0_2) x11_1) * (rd (rd_Lint l1 a0_3) x11_1))))) rfl rfl rfl (Opl.lits (M := (cInt .i64)) (ys := [(wrap64 ((rd (rd_Lint l1 a0_2) x11_1) * (rd (rd_Lint l1 a0_3) x11_1)))]) [.tmp 114] K26 T3 rfl rfl rfl (by exact ⟨rfl, trivial⟩) rfl (by decide) rfl rfl rfl ?_)))))))
   rintro pv12 S h31 u8 w8
   have ap12 := w8.box h6
   have h32 := u8.box h6 ap12
   have ap13 := w8.vec h7
   have h33 := u8.vec h7 ap13
   refine Opl.app (M := (cInt .i64)) (xs := x10_1) (ys := [(wrap64 ((rd (rd_Lint l1 a0_2) x11_1) * (rd (rd_Lint l1 a0_3) x11_1)))]) (v := pv3) h33 (.vec h31) (oInt .i64) rfl rfl K26 T3 rfl rfl (by (try simp only [List.length_cons, List.length_nil]); omega) (by show (_ + _) * 8 ≤ 140737488355328; (try simp only [List.length_cons, List.length_nil]); omega) rfl rfl rfl rfl rfl ?_
   rintro pv13 S h34 u9 w9
   have ap14 := w9.box h32
   have h35 := u9.box h32 ap3
   have ap15 := w9.vec h31
   have h36 := u9.vec h31 ap13.symm
   refine Opl.one (v := pv13) rfl rfl rfl (Opl.nil (Evr.inBlock (Evr.regionN rfl (Opl.one (v := .lit (.int .i64 x11_1)) rfl rfl rfl (Opl.add (k := .i64) (a := x11_1) (b := 1) K3 rfl rfl rfl rfl (Opl.one (v := .lit (.int .i64 (wrap64 (x11_1 + 1)))) rfl rfl rfl (Opl.nil ?_)))))))
   exact ih1 _ (by omega) _ _ ⟨by omega, _, _, _, _, H, ⟨rfl, rfl, rfl, rfl, rfl, rfl, rfl, trivial⟩, h35, h34, ap14⟩
  rw [if_neg c13] at H
  have e9 : (a0_0 == 3) = false := by simpa using c13
  try rw [e9]
  refine Evr.condF rfl (Evr.sr rfl (Opl.p1 (v := .ptr i2 0) (n := Opl.ldb (v := .lit (.int .i64 a0_0)) h6 rfl T3 rfl rfl rfl rfl (Opl.p1 (n := Opl.nil ?_)))))
  by_cases c22 : a0_0 = 4
  case pos =>
   rw [if_pos c22] at H
   have e10 : (a0_0 == 4) = true := by simpa using c22
   try rw [e10]
   refine Evr.condT rfl (Evr.regionD rfl (by kernel_rfl) (Opl.one (v := v1) rfl rfl rfl (Opl.p1 (v := .ptr i2 2) (n := Opl.ldb (v := .lit (.int .i64 a0_2)) h6 rfl T3 rfl rfl rfl rfl ?_))))
   obtain ⟨c23, H⟩ := peel H
   obtain ⟨c24, H⟩ := peel H
   obtain ⟨c25, H⟩ := peel H
   obtain ⟨c26, H⟩ := peel H
   obtain ⟨c27, H⟩ := peel H
   obtain ⟨c28, H⟩ := peel H
   obtain ⟨c29, H⟩ := peel H
   refine Opl.idx (M := (cSl (cInt .i64))) (xs := l1) (j := a0_2) ([] : List Int) (by exact hv1) rfl (by omega) (by omega) K23 Z26 rfl rfl ?_
   rintro p8 q8 h37
   obtain ⟨pv14, rfl, h38⟩ := h37
   refine Opl.lda (pv14) rfl T26 rfl rfl rfl rfl (Opl.one (v := .lit (.int .i64 x11_1)) rfl rfl rfl (Opl.idx (M := (cInt .i64)) (xs := (rd_Lint l1 a0_2)) (j := x11_1) (0 : Int) (by exact h38) rfl (by omega) (by omega) K26 Z3 rfl rfl ?_))
   rintro p9 q9 h39
   obtain rfl : p9 = [.lit (.int .i64 (rd (rd_Lint l1 a0_2) x11_1))] := h39
   refine Opl.lda (.lit (.int .i64 (rd (rd_Lint l1 a0_2) x11_1))) rfl T3 rfl rfl rfl rfl (Opl.one (v := v1) rfl rfl rfl (Opl.p1 (v := .ptr i2 3) (n := Opl.ldb (v := .lit (.int .i64 a0_3)) h6 rfl T3 rfl rfl rfl rfl (Opl.idx (M := (cSl (cInt .i64))) (xs := l1) (j := a0_3) ([] : List Int) (by exact hv1) rfl (by omega) (by omega) K23 Z26 rfl rfl ?_))))
   rintro p10 q10 h40
   obtain ⟨pv15, rfl, h41⟩ := h40
   refine Opl.lda (pv15) rfl T26 rfl rfl rfl rfl (Opl.one (v := .lit (.int .i64 x11_1)) rfl rfl rfl (Opl.idx (M := (cInt .i64)) (xs := (rd_Lint l1 a0_3)) (j := x11_1) (0 : Int) (by exact h41) rfl (by omega) (by omega) K26 Z3 rfl rfl ?_))
   rintro p11 q11 h42
   obtain rfl : p11 = [.lit (.int .i64 (rd (rd_Lint l1 a0_3) x11_1))] := h42
   refine Opl.lda (.lit (.int .i64 (rd (rd_Lint l1 a0_3) x11_1))) rfl T3 rfl rfl rfl rfl (Opl.add (k := .i64) (a := (rd (rd_Lint l1 a0_2) x11_1)) (b := (rd (rd_Lint l1 a0_3) x11_1)) K3 rfl rfl rfl rfl (Opl.gtr (a := (wrap64 ((rd (rd_Lint l1 a0_2) x11_1) + (rd (rd_Lint l1 a0_3) x11_1)))) (b := 0) K3 rfl rfl rfl rfl ?_))
   obtain ⟨t181, h_t181, H⟩ := Option.bind_eq_some_iff.1 H
   refine Opl.callc (spec_l1Truth.ev h_t181) rfl rfl rfl rfl ⟨(.lit _), trivial⟩ (by decide) (Opl.one (v := .lit (.int .i64 t181)) rfl rfl rfl (Opl.nil (Evr.regionN rfl (Opl.one (v := pv3) rfl rfl rfl (Opl.one (v := .lit (.int .i64 t181)) rfl rfl rfl (Opl.lits (M := (cInt .i64)) (ys := [t181]) [.tmp 114] K26 T3 rfl rfl rfl (by exact ⟨rfl, trivial⟩) rfl (by decide) rfl rfl rfl ?_))))))
   rintro pv16 S h43 u10 w10
   have ap16 := w10.box h6
   have h44 := u10.box h6 ap16
   have ap17 := w10.vec h7
   have h45 := u10.vec h7 ap17
   obtain ⟨c30, H⟩ := peel H
   refine Opl.app (M := (cInt .i64)) (xs := x10_1) (ys := [t181]) (v := pv3) h45 (.vec h43) (oInt .i64) rfl rfl K26 T3 rfl rfl (by (try simp only [List.length_cons, List.length_nil]); omega) (by show (_ + _) * 8 ≤ 140737488355328; (try simp only [List.length_cons, List.length_nil]); omega) rfl rfl rfl rfl rfl ?_
   rintro pv17 S h46 u11 w11
   have ap18 := w11.box h44
   have h47 := u11.box h44 ap3
   have ap19 := w11.vec h43
   have h48 := u11.vec h43 ap17.symm
   refine Opl.one (v := pv17) rfl rfl rfl (Opl.nil (Evr.inBlock (Evr.regionN rfl (Opl.one (v := .lit (.int .i64 x11_1)) rfl rfl rfl (Opl.add (k := .i64) (a := x11_1) (b := 1) K3 rfl rfl rfl rfl (Opl.one (v := .lit (.int .i64 (wrap64 (x11_1 + 1)))) rfl rfl rfl (Opl.nil ?_)))))))
   exact ih1 _ (by omega) _ _ ⟨by omega, _, _, _, _, H, ⟨rfl, rfl, rfl, rfl, rfl, rfl, rfl, trivial⟩, h47, h46, ap18⟩
  rw [if_neg c22] at H
  have e11 : (a0_0 == 4) = false := by simpa using c22
  try rw [e11]
  refine Evr.condF rfl (Evr.sr rfl (Opl.p1 (v := .ptr i2 0) (n := Opl.ldb (v := .lit (.int .i64 a0_0)) h6 rfl T3 rfl rfl rfl rfl (Opl.p1 (n := Opl.nil ?_)))))
  by_cases c31 : a0_0 = 5
  case neg =>
   rw [if_neg c31] at H
   have e13 : (a0_0 == 5) = false := by simpa using c31
   try rw [e13]
   refine Evr.condF rfl (Evr.skip (Evr.regionN rfl (Opl.one (v := pv3) rfl rfl rfl (Opl.one (v := .lit (.int .i64 1)) rfl rfl rfl (Opl.lits (M := (cInt .i64)) (ys := [1]) [.tmp 114] K26 T3 rfl rfl rfl (by exact ⟨rfl, trivial⟩) rfl (by decide) rfl rfl rfl ?_)))))
   rintro pv21 S h58 u14 w14
   have ap24 := w14.box h6
   have h59 := u14.box h6 ap24
   have ap25 := w14.vec h7
   have h60 := u14.vec h7 ap25
   obtain ⟨c37, H⟩ := peel H
   refine Opl.app (M := (cInt .i64)) (xs := x10_1) (ys := [1]) (v := pv3) h60 (.vec h58) (oInt .i64) rfl rfl K26 T3 rfl rfl (by (try simp only [List.length_cons, List.length_nil]); omega) (by show (_ + _) * 8 ≤ 140737488355328; (try simp only [List.length_cons, List.length_nil]); omega) rfl rfl rfl rfl rfl ?_
   rintro pv22 S h61 u15 w15
   have ap26 := w15.box h59
   have h62 := u15.box h59 ap3
   have ap27 := w15.vec h58
   have h63 := u15.vec h58 ap25.symm
   refine Opl.one (v := pv22) rfl rfl rfl (Opl.nil (Evr.inBlock (Evr.regionN rfl (Opl.one (v := .lit (.int .i64 x11_1)) rfl rfl rfl (Opl.add (k := .i64) (a := x11_1) (b := 1) K3 rfl rfl rfl rfl (Opl.one (v := .lit (.int .i64 (wrap64 (x11_1 + 1)))) rfl rfl rfl (Opl.nil ?_)))))))
   exact ih1 _ (by omega) _ _ ⟨by omega, _, _, _, _, H, ⟨rfl, rfl, rfl, rfl, rfl, rfl, rfl, trivial⟩, h62, h61, ap26⟩
  rw [if_pos c31] at H
  have e12 : (a0_0 == 5) = true := by simpa using c31
  try rw [e12]
  refine Evr.condT rfl (Evr.regionD rfl (by kernel_rfl) (Opl.one (v := v1) rfl rfl rfl (Opl.p1 (v := .ptr i2 2) (n := Opl.ldb (v := .lit (.int .i64 a0_2)) h6 rfl T3 rfl rfl rfl rfl ?_))))
  obtain ⟨c32, H⟩ := peel H
  obtain ⟨c33, H⟩ := peel H
  refine Opl.idx (M := (cSl (cInt .i64))) (xs := l1) (j := a0_2) ([] : List Int) (by exact hv1) rfl (by omega) (by omega) K23 Z26 rfl rfl ?_
  rintro p12 q12 h49
  obtain ⟨pv18, rfl, h50⟩ := h49
  refine Opl.lda (pv18) rfl T26 rfl rfl rfl rfl (Opl.one (v := .lit (.int .i64 x11_1)) rfl rfl rfl (Opl.one (v := v2) rfl rfl rfl (Opl.len (xs := l2) (by exact hv2) K23 rfl rfl rfl rfl (Opl.one (v := .lit (.int .i64 (wrap64 ((l2.length : Int) + (l3.length : Int))))) rfl rfl rfl ?_))))
  obtain ⟨t186, h_t186, H⟩ := Option.bind_eq_some_iff.1 H
  refine Opl.callc (spec_l20Next.ev h_t186) rfl rfl rfl rfl ⟨(.lit _), (.lit _), (.lit _), trivial⟩ (by decide) ?_
  obtain ⟨c34, H⟩ := peel H
  obtain ⟨c35, H⟩ := peel H
  obtain ⟨c36, H⟩ := peel H
  refine Opl.idx (M := (cInt .i64)) (xs := (rd_Lint l1 a0_2)) (j := t186) (0 : Int) (by exact h50) rfl (by omega) (by omega) K26 Z3 rfl rfl ?_
  rintro p13 q13 h51
  obtain rfl : p13 = [.lit (.int .i64 (rd (rd_Lint l1 a0_2) t186))] := h51
  refine Opl.lda (.lit (.int .i64 (rd (rd_Lint l1 a0_2) t186))) rfl T3 rfl rfl rfl rfl (Opl.one (v := .lit (.int .i64 (rd (rd_Lint l1 a0_2) t186))) rfl rfl rfl (Opl.nil (Evr.regionN rfl (Opl.one (v := pv3) rfl rfl rfl (Opl.one (v := .lit (.int .i64 (rd (rd_Lint l1 a0_2) t186))) rfl rfl rfl (Opl.lits (M := (cInt .i64)) (ys := [(rd (rd_Lint l1 a0_2) t186)]) [.tmp 114] K26 T3 rfl rfl rfl (by exact ⟨rfl, trivial⟩) rfl (by decide) rfl rfl rfl ?_))))))
  rintro pv19 S h52 u12 w12
  have ap20 := w12.box h6
  have h53 := u12.box h6 ap20
  have ap21 := w12.vec h7
  have h54 := u12.vec h7 ap21
  refine Opl.app (M := (cInt .i64)) (xs := x10_1) (ys := [(rd (rd_Lint l1 a0_2) t186)]) (v := pv3) h54 (.vec h52) (oInt .i64) rfl rfl K26 T3 rfl rfl (by (try simp only [List.length_cons, List.length_nil]); omega) (by show (_ + _) * 8 ≤ 140737488355328; (try simp only [List.length_cons, List.length_nil]); omega) rfl rfl rfl rfl rfl ?_
  rintro pv20 S h55 u13 w13
  have ap22 := w13.box h53
  have h56 := u13.box h53 ap3
  have ap23 := w13.vec h52
  have h57 := u13.vec h52 ap21.symm
  refine Opl.one (v := pv20) rfl rfl rfl (Opl.nil (Evr.inBlock (Evr.regionN rfl (Opl.one (v := .lit (.int .i64 x11_1)) rfl rfl rfl (Opl.add (k := .i64) (a := x11_1) (b := 1) K3 rfl rfl rfl rfl (Opl.one (v := .lit (.int .i64 (wrap64 (x11_1 + 1)))) rfl rfl rfl (Opl.nil ?_)))))))
  exact ih1 _ (by omega) _ _ ⟨by omega, _, _, _, _, H, ⟨rfl, rfl, rfl, rfl, rfl, rfl, rfl, trivial⟩, h56, h55, ap22⟩
theorem spec_TimesOn.ev {k : Nat} {l0 : List ITime} {v0 : PV} (hv0 : Sl cITime l0 v0) {l1 : List (List Int)} {v1 : PV} (hv1 : Sl (cSl (cInt .i64)) l1 v1) {l2 : List (List Int)} {v2 : PV} (hv2 : Sl (cSl (cInt .i64)) l2 v2) {a3 : Int} {r : (List (List Int))} (H : spec_TimesOn.f k l0 l1 l2 a3 = some r) : Ret Try.prog 38 [v0, v1, v2, .lit (.int .i64 a3)] fun v S => Vec (cSl (cInt .i64)) r v S := by
 unfold spec_TimesOn.f at H
 refine Ret.intro Try.func38 rfl (Nat.le_of_ble_eq_true rfl) rfl ?_
 rw [tm4]
 refine Evr.sr rfl (Opl.p1 (n := Opl.nil (Evr.seq (Evr.seq ?_))))
 refine Evr.join (fun tm S => ∃ (kq1 : Nat) (x21_1 : Bool), spec_TimesOn.j0 kq1 l0 l1 l2 x21_1 = some r ∧ Has tm [(0, v0), (1, v1), (2, v2), (21, .lit (.bool x21_1))]) ?_ fun hk1 => ?_
 ·
  rintro tm S ⟨kq1, x21_1, H, hh⟩
  rw [hh.eq]
  obtain _ | k1 := kq1
  · simp [spec_TimesOn.j0] at H
  simp only [spec_TimesOn.j0] at H
  by_cases c1 : x21_1 = true
  case pos =>
   rw [if_pos c1] at H
   obtain rfl : x21_1 = true := by simpa using c1
   refine Evr.condT rfl (Evr.sr rfl (Opl.p1 (n := Opl.nil ?_)))
   obtain rfl := Option.some.inj H
   refine Evr.ret1 Try.func38 rfl ?_
   show Vec _ _ (.lit (.slice none 0 0)) _
   exact .nil
  rw [if_neg c1] at H
  obtain rfl : x21_1 = false := by simpa using c1
  refine Evr.condF rfl (Evr.skip (Evr.sr rfl (Opl.lits (M := (cSl (cInt .i64))) (ys := []) [] K23 T26 rfl rfl rfl trivial rfl (by decide) rfl rfl rfl ?_)))
  rintro pv1 S h1 u1 w1
  refine Opl.p1 (n := Opl.nil (Evr.seq (Evr.sr rfl (Opl.p1 (n := Opl.nil (Evr.block ?_))))))
  refine Evr.loop (Evr.rounds (n := k1) (Inv := fun n tm S => n ≤ k1 ∧ ∃ (x9_1 : List (List Int)) (x10_1 : Int) (pv2 : PV), spec_TimesOn.l0 n l0 l1 l2 x9_1 x10_1 = some r ∧ Has tm [(0, v0), (1, v1), (2, v2), (9, pv2), (10, .lit (.int .i64 x10_1))] ∧ Vec (cSl (cInt .i64)) x9_1 pv2 S) ?_ ?_ ?_)
  · exact ⟨Nat.le_refl _, _, _, _, H, ⟨rfl, rfl, rfl, rfl, rfl, trivial⟩, h1⟩
  ·
   rintro tm S ⟨_, _, _, _, H, -⟩
   simp [spec_TimesOn.l0] at H
  ·
   rintro n1 ih1 tm S ⟨hle, x9_1, x10_1, pv2, H, hh, h2⟩
   simp only [spec_TimesOn.l0] at H
   rw [hh.eq]
   refine Evr.seq (Evr.sr rfl (Opl.p1 (n := Opl.p1 (n := Opl.len (xs := l0) (by exact hv0) K28 rfl rfl rfl rfl (Opl.p1 (n := Opl.nil ?_))))))
   by_cases c2 : x10_1 < (l0.length : Int)
   case neg =>
    rw [if_neg c2] at H
    have e2 : (decide (x10_1 < (l0.length : Int))) = false := by simpa using c2
    try rw [e2]
    refine Evr.condF rfl (Evr.exit rfl (Evr.sr rfl (Opl.p1 (n := Opl.p1 (n := Opl.nil ?_)))))
    obtain rfl := Option.some.inj H
    refine Evr.ret1 Try.func38 rfl ?_
    show Vec _ _ pv2 _
    exact h2
   rw [if_pos c2] at H
   have e1 : (decide (x10_1 < (l0.length : Int))) = true := by simpa using c2
   try rw [e1]
   refine Evr.condT rfl (Evr.skip (Evr.seq (Evr.block (Evr.regionN rfl (Opl.p1 (n := Opl.p1 (n := Opl.p1 (n := ?_))))))))
   obtain ⟨c3, H⟩ := peel H
   refine Opl.idx (M := cITime) (xs := l0) (j := x10_1) zITime (by exact hv0) rfl (by omega) (by omega) K28 Z64 rfl rfl ?_
   rintro p1 q1 h3
   obtain rfl := cITime_R (x := (rd_ITime l0 x10_1)) h3
   refine Opl.lda (.agg [.lit (.int .i64 ((rd_ITime l0 x10_1).f0)), .lit (.int .i64 ((rd_ITime l0 x10_1).f1)), .lit (.int .i64 ((rd_ITime l0 x10_1).f2)), .lit (.int .i64 ((rd_ITime l0 x10_1).f3))]) rfl T64 rfl rfl rfl rfl (Opl.p1 (n := Opl.p1 (n := Opl.p1 (n := ?_))))
   obtain ⟨t200, h_t200, H⟩ := Option.bind_eq_some_iff.1 H
   obtain ⟨pv3, h4, -, h5⟩ := Out.vec h2
   refine Opl.callv (sInt .i64) (spec_l20Row.ev h5 hv1 hv2 h_t200) rfl rfl rfl (.cons (.refl _) (.cons h4 (.cons (.refl _) (.cons (.refl _) .nil)))) ⟨(.aggL ⟨(.lit _), (.lit _), (.lit _), (.lit _), trivial⟩), h5.plain, hv1.plain, hv2.plain, trivial⟩ (by decide) ?_
   rintro pv4 h6
   refine Opl.lits (M := (cSl (cInt .i64))) (ys := [t200]) [.tmp 37] K23 T26 rfl rfl rfl (by exact ⟨⟨_, by first | rfl | exact h6.cells, h6⟩, trivial⟩) rfl (by decide) rfl rfl rfl ?_
   rintro pv5 S h7 u2 w2
   have ap1 := w2.vec h2
   have h8 := u2.vec h2 ap1
   obtain ⟨c4, H⟩ := peel H
   refine Opl.app (M := (cSl (cInt .i64))) (xs := x9_1) (ys := [t200]) (v := pv2) h8 (.vec h7) (oSl (cInt .i64)) rfl rfl K23 T26 rfl rfl (by (try simp only [List.length_cons, List.length_nil]); omega) (by show (_ + _) * 24 ≤ 140737488355328; (try simp only [List.length_cons, List.length_nil]); omega) rfl rfl rfl rfl rfl ?_
   rintro pv6 S h9 u3 w3
   have ap2 := w3.vec h7
   have h10 := u3.vec h7 ap1.symm
   refine Opl.p1 (n := Opl.nil (Evr.inBlock (Evr.regionN rfl (Opl.p1 (n := Opl.add (k := .i64) (a := x10_1) (b := 1) K3 rfl rfl rfl rfl (Opl.one (v := .lit (.int .i64 (wrap64 (x10_1 + 1)))) rfl rfl rfl (Opl.nil ?_)))))))
   exact ih1 _ (by omega) _ _ ⟨by omega, _, _, _, H, ⟨rfl, rfl, rfl, rfl, rfl, trivial⟩, h9⟩
 ·
  refine Evr.regionN rfl (Opl.p1 (n := Opl.p1 (n := ?_)))
  obtain ⟨t194, h_t194, H⟩ := Option.bind_eq_some_iff.1 H
  refine Opl.callc (spec_TimesValid.ev hv0 h_t194) rfl rfl rfl rfl ⟨hv0.plain, (.lit _), trivial⟩ (by decide) (Opl.p1 (n := Opl.p1 (n := ?_)))
  by_cases c5 : t194 = true
  case neg =>
   rw [if_neg c5] at H
   have e4 : (!t194) = true := by simpa using c5
   try rw [e4]
   refine Opl.skp rfl (Opl.skp rfl (Opl.skp rfl (Opl.skp rfl (Opl.skp rfl (Opl.p1 (n := Opl.nil ?_))))))
   exact hk1 _ _ ⟨_, _, H, ⟨rfl, rfl, rfl, (by first | rfl | (show PV.lit (.bool _) = _; congr 2; simp_all)), trivial⟩⟩
  rw [if_pos c5] at H
  have e3 : (!t194) = false := by simpa using c5
  try rw [e3]
  refine Opl.p1 (n := Opl.p1 (n := Opl.p1 (n := ?_)))
  obtain ⟨t195, h_t195, H⟩ := Option.bind_eq_some_iff.1 H
  refine Opl.callc (spec_WordValid.ev hv1 hv2 h_t195) rfl rfl rfl rfl ⟨hv1.plain, hv2.plain, (.lit _), trivial⟩ (by decide) (Opl.p1 (n := Opl.p1 (n := Opl.nil ?_)))
  exact hk1 _ _ ⟨_, _, H, ⟨rfl, rfl, rfl, (by first | rfl | (show PV.lit (.bool _) = _; congr 2; simp_all)), trivial⟩⟩
theorem spec_l21Steps.ev {k : Nat} {l0 : List ITime} {v0 : PV} (hv0 : Sl cITime l0 v0) {r : (List Int)} (H : spec_l21Steps.f k l0 = some r) : Ret Try.prog 63 [v0] fun v S => Vec (cInt .i64) r v S := by
 unfold spec_l21Steps.f at H
 refine Ret.intro Try.func63 rfl (Nat.le_of_ble_eq_true rfl) rfl ?_
 rw [tm1]
 refine Evr.sr rfl (Opl.p1 (n := Opl.nil (Evr.sr rfl (Opl.lits (M := (cInt .i64)) (ys := []) [] K26 T3 rfl rfl rfl trivial rfl (by decide) rfl rfl rfl ?_))))
 rintro pv1 S h1 u1 w1
 refine Opl.p1 (n := Opl.nil (Evr.seq (Evr.sr rfl (Opl.p1 (n := Opl.nil (Evr.block ?_))))))
 refine Evr.loop (Evr.rounds (n := k) (Inv := fun n tm S => n ≤ k ∧ ∃ (x3_1 : List Int) (x4_1 : Int) (pv2 : PV), spec_l21Steps.l0 n l0 x3_1 x4_1 = some r ∧ Has tm [(0, v0), (3, pv2), (4, .lit (.int .i64 x4_1))] ∧ Vec (cInt .i64) x3_1 pv2 S) ?_ ?_ ?_)
 · exact ⟨Nat.le_refl _, _, _, _, H, ⟨rfl, rfl, rfl, trivial⟩, h1⟩
 ·
  rintro tm S ⟨_, _, _, _, H, -⟩
  simp [spec_l21Steps.l0] at H
 ·
  rintro n1 ih1 tm S ⟨hle, x3_1, x4_1, pv2, H, hh, h2⟩
  simp only [spec_l21Steps.l0] at H
  rw [hh.eq]
  refine Evr.seq (Evr.sr rfl (Opl.p1 (n := Opl.p1 (n := Opl.len (xs := l0) (by exact hv0) K28 rfl rfl rfl rfl (Opl.p1 (n := Opl.nil ?_))))))
  by_cases c1 : x4_1 < (l0.length : Int)
  case neg =>
   rw [if_neg c1] at H
   have e4 : (decide (x4_1 < (l0.length : Int))) = false := by simpa using c1
   try rw [e4]
   refine Evr.condF rfl (Evr.exit rfl (Evr.sr rfl (Opl.p1 (n := Opl.p1 (n := Opl.nil ?_)))))
   obtain rfl := Option.some.inj H
   refine Evr.ret1 Try.func63 rfl ?_
   show Vec _ _ pv2 _
   exact h2
  rw [if_pos c1] at H
  have e1 : (decide (x4_1 < (l0.length : Int))) = true := by simpa using c1
  try rw [e1]
  refine Evr.condT rfl (Evr.skip (Evr.seq (Evr.block (Evr.sr rfl (Opl.p1 (n := Opl.p1 (n := ?_)))))))
  obtain ⟨c2, H⟩ := peel H
  refine Opl.idx (M := cITime) (xs := l0) (j := x4_1) zITime (by exact hv0) rfl (by omega) (by omega) K28 Z64 rfl rfl ?_
  rintro p1 q1 h3
  obtain rfl := cITime_R (x := (rd_ITime l0 x4_1)) h3
  refine Opl.p1 (v := .fel ((.lit (.int .i64 ((rd_ITime l0 x4_1).f0))) :: (.lit (.int .i64 ((rd_ITime l0 x4_1).f1))) :: (.lit (.int .i64 ((rd_ITime l0 x4_1).f2))) :: (.lit (.int .i64 ((rd_ITime l0 x4_1).f3))) :: q1)) (n := Opl.lda (.lit (.int .i64 ((rd_ITime l0 x4_1).f0))) rfl T3 rfl rfl rfl rfl (Opl.p1 (n := Opl.nil ?_)))
  refine Evr.join (fun tm S => ∃ (kq1 : Nat) (x3_2 : List Int) (pv3 : PV), spec_l21Steps.l0 kq1 l0 x3_2 (wrap64 (x4_1 + 1)) = some r ∧ kq1 ≤ n1 ∧ Has tm [(0, v0), (3, pv3), (4, .lit (.int .i64 x4_1))] ∧ Vec (cInt .i64) x3_2 pv3 S) ?_ fun hk1 => ?_
  ·
   rintro tm S ⟨kq1, x3_2, pv3, H, hle, hh, h4⟩
   rw [hh.eq]
   refine Evr.inBlock (Evr.regionN rfl (Opl.p1 (n := Opl.add (k := .i64) (a := x4_1) (b := 1) K3 rfl rfl rfl rfl (Opl.one (v := .lit (.int .i64 (wrap64 (x4_1 + 1)))) rfl rfl rfl (Opl.nil ?_)))))
   exact ih1 _ (by omega) _ _ ⟨by omega, _, _, _, H, ⟨rfl, rfl, rfl, trivial⟩, h4⟩
  ·
   by_cases c3 : ((rd_ITime l0 x4_1).f0) ≥ 5
   case neg =>
    rw [if_neg c3] at H
    have e3 : (decide (((rd_ITime l0 x4_1).f0) ≥ 5)) = false := by simpa using c3
    try rw [e3]
    refine Evr.condF rfl (Evr.skip ?_)
    exact hk1 _ _ ⟨_, _, _, H, by omega, ⟨rfl, rfl, rfl, trivial⟩, h2⟩
   rw [if_pos c3] at H
   have e2 : (decide (((rd_ITime l0 x4_1).f0) ≥ 5)) = true := by simpa using c3
   try rw [e2]
   refine Evr.condT rfl (Evr.regionN rfl (Opl.p1 (n := Opl.p1 (n := Opl.lits (M := (cInt .i64)) (ys := [x4_1]) [.tmp 19] K26 T3 rfl rfl rfl (by exact ⟨rfl, trivial⟩) rfl (by decide) rfl rfl rfl ?_))))
   rintro pv4 S h5 u2 w2
   have ap1 := w2.vec h2
   have h6 := u2.vec h2 ap1
   obtain ⟨c4, H⟩ := peel H
   refine Opl.app (M := (cInt .i64)) (xs := x3_1) (ys := [x4_1]) (v := pv2) h6 (.vec h5) (oInt .i64) rfl rfl K26 T3 rfl rfl (by (try simp only [List.length_cons, List.length_nil]); omega) (by show (_ + _) * 8 ≤ 140737488355328; (try simp only [List.length_cons, List.length_nil]); omega) rfl rfl rfl rfl rfl ?_
   rintro pv5 S h7 u3 w3
   have ap2 := w3.vec h5
   have h8 := u3.vec h5 ap1.symm
   refine Opl.p1 (n := Opl.nil ?_)
   exact hk1 _ _ ⟨_, _, _, H, by omega, ⟨rfl, rfl, rfl, trivial⟩, h7⟩
theorem spec_l21Asked.ev {k : Nat} {l0 : List ITime} {v0 : PV} (hv0 : Sl cITime l0 v0) {a1 : Int} {r : Bool} (H : spec_l21Asked.f k l0 a1 = some r) : Ret Try.prog 39 [v0, .lit (.int .i64 a1)] fun v S => v = .lit (.bool r) := by
 unfold spec_l21Asked.f at H
 refine Ret.intro Try.func39 rfl (Nat.le_of_ble_eq_true rfl) rfl ?_
 rw [tm2]
 refine Evr.sr rfl (Opl.p1 (n := Opl.nil (Evr.sr rfl (Opl.p1 (n := Opl.p1 (n := ?_))))))
 obtain ⟨t213, h_t213, H⟩ := Option.bind_eq_some_iff.1 H
 refine Opl.callc (spec_TimesValid.ev hv0 h_t213) rfl rfl rfl rfl ⟨hv0.plain, (.lit _), trivial⟩ (by decide) (Opl.p1 (n := ?_))
 by_cases c1 : t213 = true
 case neg =>
  rw [if_neg c1] at H
  obtain rfl : t213 = false := by simpa using c1
  refine Opl.skp rfl (Opl.skp rfl (Opl.skp rfl (Opl.skp rfl (Opl.skp rfl (Opl.skp rfl (Opl.p1 (n := Opl.p1 (n := Opl.nil ?_))))))))
  obtain rfl := Option.some.inj H
  refine Evr.ret1 Try.func39 rfl ?_
  show (.lit (.bool false) : PV) = _
  first | rfl | (simp only [go_sem]; rfl)
 rw [if_pos c1] at H
 obtain rfl : t213 = true := by simpa using c1
 refine Opl.p1 (n := Opl.p1 (n := ?_))
 obtain ⟨t214, h_t214, H⟩ := Option.bind_eq_some_iff.1 H
 refine Opl.call ((spec_l21Steps.ev hv0 h_t214).mono fun _ _ h => Out.vec h) rfl rfl rfl rfl ⟨hv0.plain, trivial⟩ (by decide) ?_
 rintro pv1 h1
 refine Opl.len (xs := t214) (by exact h1) K26 rfl rfl rfl rfl (Opl.add (k := .i64) (a := a1) (b := (t214.length : Int)) K3 rfl rfl rfl rfl (Opl.leq (a := (wrap64 (a1 + (t214.length : Int)))) (b := 7) K3 rfl rfl rfl rfl (Opl.one (v := .lit (.bool (decide ((wrap64 (a1 + (t214.length : Int))) ≤ 7)))) rfl rfl rfl (Opl.one (v := .lit (.bool (decide ((wrap64 (a1 + (t214.length : Int))) ≤ 7)))) rfl rfl rfl (Opl.nil ?_)))))
 obtain rfl := Option.some.inj H
 refine Evr.ret1 Try.func39 rfl ?_
 show (.lit (.bool (decide ((wrap64 (a1 + (t214.length : Int))) ≤ 7))) : PV) = _
 first | rfl | (simp only [go_sem]; rfl)
theorem spec_l3Copy.ev {k : Nat} {l0 : List Int} {v0 : PV} (hv0 : Sl (cInt .i64) l0 v0) {r : (List Int)} (H : spec_l3Copy.f k l0 = some r) : Ret Try.prog 73 [v0] fun v S => Vec (cInt .i64) r v S := by
 unfold spec_l3Copy.f at H
 refine Ret.intro Try.func73 rfl (Nat.le_of_ble_eq_true rfl) rfl ?_
 rw [tm1]
 refine Evr.sr rfl (Opl.p1 (n := Opl.nil (Evr.sr rfl (Opl.lits (M := (cInt .i64)) (ys := []) [] K26 T3 rfl rfl rfl trivial rfl (by decide) rfl rfl rfl ?_))))
 rintro pv1 S h1 u1 w1
 refine Opl.p1 (n := Opl.nil (Evr.seq (Evr.sr rfl (Opl.p1 (n := Opl.nil (Evr.block ?_))))))
 refine Evr.loop (Evr.rounds (n := k) (Inv := fun n tm S => n ≤ k ∧ ∃ (x3_1 : List Int) (x4_1 : Int) (pv2 : PV), spec_l3Copy.l0 n l0 x3_1 x4_1 = some r ∧ Has tm [(0, v0), (3, pv2), (4, .lit (.int .i64 x4_1))] ∧ Vec (cInt .i64) x3_1 pv2 S) ?_ ?_ ?_)
 · exact ⟨Nat.le_refl _, _, _, _, H, ⟨rfl, rfl, rfl, trivial⟩, h1⟩
 ·
  rintro tm S ⟨_, _, _, _, H, -⟩
  simp [spec_l3Copy.l0] at H
 ·
  rintro n1 ih1 tm S ⟨hle, x3_1, x4_1, pv2, H, hh, h2⟩
  simp only [spec_l3Copy.l0] at H
  rw [hh.eq]
  refine Evr.seq (Evr.sr rfl (Opl.p1 (n := Opl.p1 (n := Opl.len (xs := l0) (by exact hv0) K26 rfl rfl rfl rfl (Opl.p1 (n := Opl.nil ?_))))))
  by_cases c1 : x4_1 < (l0.length : Int)
  case neg =>
   rw [if_neg c1] at H
   have e2 : (decide (x4_1 < (l0.length : Int))) = false := by simpa using c1
   try rw [e2]
   refine Evr.condF rfl (Evr.exit rfl (Evr.sr rfl (Opl.p1 (n := Opl.p1 (n := Opl.nil ?_)))))
   obtain rfl := Option.some.inj H
   refine Evr.ret1 Try.func73 rfl ?_
   show Vec _ _ pv2 _
   exact h2
  rw [if_pos c1] at H
  have e1 : (decide (x4_1 < (l0.length : Int))) = true := by simpa using c1
  try rw [e1]
  refine Evr.condT rfl (Evr.skip (Evr.seq (Evr.block (Evr.regionN rfl (Opl.p1 (n := Opl.p1 (n := Opl.p1 (n := ?_))))))))
  obtain ⟨c2, H⟩ := peel H
  obtain ⟨c3, H⟩ := peel H
  refine Opl.idx (M := (cInt .i64)) (xs := l0) (j := x4_1) (0 : Int) (by exact hv0) rfl (by omega) (by omega) K26 Z3 rfl rfl ?_
  rintro p1 q1 h3
  obtain rfl : p1 = [.lit (.int .i64 (rd l0 x4_1))] := h3
  refine Opl.lda (.lit (.int .i64 (rd l0 x4_1))) rfl T3 rfl rfl rfl rfl (Opl.lits (M := (cInt .i64)) (ys := [(rd l0 x4_1)]) [.tmp 16] K26 T3 rfl rfl rfl (by exact ⟨rfl, trivial⟩) rfl (by decide) rfl rfl rfl ?_)
  rintro pv3 S h4 u2 w2
  have ap1 := w2.vec h2
  have h5 := u2.vec h2 ap1
  refine Opl.app (M := (cInt .i64)) (xs := x3_1) (ys := [(rd l0 x4_1)]) (v := pv2) h5 (.vec h4) (oInt .i64) rfl rfl K26 T3 rfl rfl (by (try simp only [List.length_cons, List.length_nil]); omega) (by show (_ + _) * 8 ≤ 140737488355328; (try simp only [List.length_cons, List.length_nil]); omega) rfl rfl rfl rfl rfl ?_
  rintro pv4 S h6 u3 w3
  have ap2 := w3.vec h4
  have h7 := u3.vec h4 ap1.symm
  refine Opl.p1 (n := Opl.nil (Evr.inBlock (Evr.regionN rfl (Opl.p1 (n := Opl.add (k := .i64) (a := x4_1) (b := 1) K3 rfl rfl rfl rfl (Opl.one (v := .lit (.int .i64 (wrap64 (x4_1 + 1)))) rfl rfl rfl (Opl.nil ?_)))))))
  exact ih1 _ (by omega) _ _ ⟨by omega, _, _, _, H, ⟨rfl, rfl, rfl, trivial⟩, h6⟩
theorem spec_l6Number.ev {k : Nat} {l0 : List Int} {v0 : PV} (hv0 : Sl (cInt .i64) l0 v0) {r : Int} (H : spec_l6Number.f k l0 = some r) : Ret Try.prog 74 [v0] fun v S => v = .lit (.int .i64 r) := by
 unfold spec_l6Number.f at H
 refine Ret.intro Try.func74 rfl (Nat.le_of_ble_eq_true rfl) rfl ?_
 rw [tm1]
 refine Evr.sr rfl (Opl.p1 (n := Opl.nil (Evr.sr rfl (Opl.p1 (n := Opl.nil (Evr.seq (Evr.sr rfl (Opl.p1 (n := Opl.nil (Evr.block ?_))))))))))
 refine Evr.loop (Evr.rounds (n := k) (Inv := fun n tm S => n ≤ k ∧ ∃ (x3_1 : Int) (x4_1 : Int), spec_l6Number.l0 n l0 x3_1 x4_1 = some r ∧ Has tm [(0, v0), (3, .lit (.int .i64 x3_1)), (4, .lit (.int .i64 x4_1))]) ?_ ?_ ?_)
 · exact ⟨Nat.le_refl _, _, _, H, ⟨rfl, rfl, rfl, trivial⟩⟩
 ·
  rintro tm S ⟨_, _, _, H, -⟩
  simp [spec_l6Number.l0] at H
 ·
  rintro n1 ih1 tm S ⟨hle, x3_1, x4_1, H, hh⟩
  simp only [spec_l6Number.l0] at H
  rw [hh.eq]
  refine Evr.seq (Evr.sr rfl (Opl.p1 (n := Opl.p1 (n := Opl.len (xs := l0) (by exact hv0) K26 rfl rfl rfl rfl (Opl.p1 (n := Opl.nil ?_))))))
  by_cases c1 : x4_1 < (l0.length : Int)
  case neg =>
   rw [if_neg c1] at H
   have e2 : (decide (x4_1 < (l0.length : Int))) = false := by simpa using c1
   try rw [e2]
   refine Evr.condF rfl (Evr.exit rfl (Evr.sr rfl (Opl.p1 (n := Opl.p1 (n := Opl.nil ?_)))))
   obtain rfl := Option.some.inj H
   refine Evr.ret1 Try.func74 rfl ?_
   show (.lit (.int .i64 x3_1) : PV) = _
   first | rfl | (simp only [go_sem]; rfl)
  rw [if_pos c1] at H
  have e1 : (decide (x4_1 < (l0.length : Int))) = true := by simpa using c1
  try rw [e1]
  refine Evr.condT rfl (Evr.skip (Evr.seq (Evr.block (Evr.regionN rfl (Opl.p1 (n := Opl.mul (k := .i64) (a := x3_1) (b := 2) K3 rfl rfl rfl rfl (Opl.one (v := v0) rfl rfl rfl (Opl.one (v := .lit (.int .i64 x4_1)) rfl rfl rfl ?_))))))))
  obtain ⟨c2, H⟩ := peel H
  refine Opl.idx (M := (cInt .i64)) (xs := l0) (j := x4_1) (0 : Int) (by exact hv0) rfl (by omega) (by omega) K26 Z3 rfl rfl ?_
  rintro p1 q1 h1
  obtain rfl : p1 = [.lit (.int .i64 (rd l0 x4_1))] := h1
  refine Opl.lda (.lit (.int .i64 (rd l0 x4_1))) rfl T3 rfl rfl rfl rfl (Opl.add (k := .i64) (a := (wrap64 (x3_1 * 2))) (b := (rd l0 x4_1)) K3 rfl rfl rfl rfl (Opl.one (v := .lit (.int .i64 (wrap64 ((wrap64 (x3_1 * 2)) + (rd l0 x4_1))))) rfl rfl rfl (Opl.nil (Evr.inBlock (Evr.regionN rfl (Opl.one (v := .lit (.int .i64 x4_1)) rfl rfl rfl (Opl.add (k := .i64) (a := x4_1) (b := 1) K3 rfl rfl rfl rfl (Opl.one (v := .lit (.int .i64 (wrap64 (x4_1 + 1)))) rfl rfl rfl (Opl.nil ?_)))))))))
  exact ih1 _ (by omega) _ _ ⟨by omega, _, _, H, ⟨rfl, rfl, rfl, trivial⟩⟩
theorem spec_l21Number.ev {k : Nat} {l0 : List ITime} {v0 : PV} (hv0 : Sl cITime l0 v0) {l1 : List Int} {v1 : PV} (hv1 : Sl (cInt .i64) l1 v1) {l2 : List (List Int)} {v2 : PV} (hv2 : Sl (cSl (cInt .i64)) l2 v2) {a3 : Int} {r : Int} (H : spec_l21Number.f k l0 l1 l2 a3 = some r) : Ret Try.prog 40 [v0, v1, v2, .lit (.int .i64 a3)] fun v S => v = .lit (.int .i64 r) := by
 unfold spec_l21Number.f at H
 refine Ret.intro Try.func40 rfl (Nat.le_of_ble_eq_true rfl) rfl ?_
 rw [tm4]
 refine Evr.sr rfl (Opl.p1 (n := Opl.nil (Evr.sr rfl (Opl.p1 (n := ?_)))))
 obtain ⟨t225, h_t225, H⟩ := Option.bind_eq_some_iff.1 H
 refine Opl.calla (spec_l3Copy.ev hv1 h_t225) rfl rfl rfl rfl ⟨hv1.plain, trivial⟩ rfl ?_
 rintro pv1 S h1 u1 w1
 refine Opl.p1 (n := Opl.nil (Evr.sr rfl (Opl.p1 (n := ?_))))
 obtain ⟨t228, h_t228, H⟩ := Option.bind_eq_some_iff.1 H
 refine Opl.call ((spec_l21Steps.ev hv0 h_t228).mono fun _ _ h => Out.vec h) rfl rfl rfl rfl ⟨hv0.plain, trivial⟩ (by decide) ?_
 rintro pv2 h2
 refine Opl.p1 (n := Opl.nil (Evr.seq (Evr.sr rfl (Opl.p1 (n := Opl.nil (Evr.block ?_))))))
 refine Evr.loop (Evr.rounds (n := k) (Inv := fun n tm S => n ≤ k ∧ ∃ (x9_1 : List Int) (x11_1 : Int) (pv3 : PV), spec_l21Number.l0 n l2 a3 x9_1 t228 x11_1 = some r ∧ Has tm [(2, v2), (3, .lit (.int .i64 a3)), (9, pv3), (10, pv2), (11, .lit (.int .i64 x11_1))] ∧ Vec (cInt .i64) x9_1 pv3 S) ?_ ?_ ?_)
 · exact ⟨Nat.le_refl _, _, _, _, H, ⟨rfl, rfl, rfl, rfl, rfl, trivial⟩, h1⟩
 ·
  rintro tm S ⟨_, _, _, _, H, -⟩
  simp [spec_l21Number.l0] at H
 ·
  rintro n1 ih1 tm S ⟨hle, x9_1, x11_1, pv3, H, hh, h3⟩
  simp only [spec_l21Number.l0] at H
  rw [hh.eq]
  refine Evr.seq (Evr.sr rfl (Opl.p1 (n := Opl.p1 (n := Opl.len (xs := t228) (by exact h2) K26 rfl rfl rfl rfl (Opl.p1 (n := Opl.nil ?_))))))
  by_cases c1 : x11_1 < (t228.length : Int)
  case neg =>
   rw [if_neg c1] at H
   have e2 : (decide (x11_1 < (t228.length : Int))) = false := by simpa using c1
   try rw [e2]
   refine Evr.condF rfl (Evr.exit rfl (Evr.sr rfl (Opl.p1 (n := ?_))))
   obtain ⟨t237, h_t237, H⟩ := Option.bind_eq_some_iff.1 H
   obtain ⟨pv7, h12, -, h13⟩ := Out.vec h3
   refine Opl.callw (spec_l6Number.ev h13 h_t237) rfl rfl rfl (.cons h12 .nil) ⟨h13.plain, trivial⟩ (by decide) (Opl.p1 (n := Opl.nil ?_))
   obtain rfl := Option.some.inj H
   refine Evr.ret1 Try.func40 rfl ?_
   show (.lit (.int .i64 t237) : PV) = _
   first | rfl | (simp only [go_sem]; rfl)
  rw [if_pos c1] at H
  have e1 : (decide (x11_1 < (t228.length : Int))) = true := by simpa using c1
  try rw [e1]
  refine Evr.condT rfl (Evr.skip (Evr.seq (Evr.block (Evr.regionN rfl (Opl.p1 (n := Opl.p1 (n := Opl.p1 (n := Opl.p1 (n := ?_)))))))))
  obtain ⟨c2, H⟩ := peel H
  obtain ⟨c3, H⟩ := peel H
  obtain ⟨c4, H⟩ := peel H
  obtain ⟨c5, H⟩ := peel H
  obtain ⟨c6, H⟩ := peel H
  obtain ⟨c7, H⟩ := peel H
  refine Opl.idx (M := (cInt .i64)) (xs := t228) (j := x11_1) (0 : Int) (by exact h2) rfl (by omega) (by omega) K26 Z3 rfl rfl ?_
  rintro p1 q1 h4
  obtain rfl : p1 = [.lit (.int .i64 (rd t228 x11_1))] := h4
  refine Opl.lda (.lit (.int .i64 (rd t228 x11_1))) rfl T3 rfl rfl rfl rfl (Opl.idx (M := (cSl (cInt .i64))) (xs := l2) (j := (rd t228 x11_1)) ([] : List Int) (by exact hv2) rfl (by omega) (by omega) K23 Z26 rfl rfl ?_)
  rintro p2 q2 h5
  obtain ⟨pv4, rfl, h6⟩ := h5
  refine Opl.lda (pv4) rfl T26 rfl rfl rfl rfl (Opl.p1 (n := Opl.idx (M := (cInt .i64)) (xs := (rd_Lint l2 (rd t228 x11_1))) (j := a3) (0 : Int) (by exact h6) rfl (by omega) (by omega) K26 Z3 rfl rfl ?_))
  rintro p3 q3 h7
  obtain rfl : p3 = [.lit (.int .i64 (rd (rd_Lint l2 (rd t228 x11_1)) a3))] := h7
  refine Opl.lda (.lit (.int .i64 (rd (rd_Lint l2 (rd t228 x11_1)) a3))) rfl T3 rfl rfl rfl rfl (Opl.lits (M := (cInt .i64)) (ys := [(rd (rd_Lint l2 (rd t228 x11_1)) a3)]) [.tmp 32] K26 T3 rfl rfl rfl (by exact ⟨rfl, trivial⟩) rfl (by decide) rfl rfl rfl ?_)
  rintro pv5 S h8 u2 w2
  have ap1 := w2.vec h3
  have h9 := u2.vec h3 ap1
  refine Opl.app (M := (cInt .i64)) (xs := x9_1) (ys := [(rd (rd_Lint l2 (rd t228 x11_1)) a3)]) (v := pv3) h9 (.vec h8) (oInt .i64) rfl rfl K26 T3 rfl rfl (by (try simp only [List.length_cons, List.length_nil]); omega) (by show (_ + _) * 8 ≤ 140737488355328; (try simp only [List.length_cons, List.length_nil]); omega) rfl rfl rfl rfl rfl ?_
  rintro pv6 S h10 u3 w3
  have ap2 := w3.vec h8
  have h11 := u3.vec h8 ap1.symm
  refine Opl.p1 (n := Opl.nil (Evr.inBlock (Evr.regionN rfl (Opl.p1 (n := Opl.add (k := .i64) (a := x11_1) (b := 1) K3 rfl rfl rfl rfl (Opl.one (v := .lit (.int .i64 (wrap64 (x11_1 + 1)))) rfl rfl rfl (Opl.nil ?_)))))))
  exact ih1 _ (by omega) _ _ ⟨by omega, _, _, _, H, ⟨rfl, rfl, rfl, rfl, rfl, trivial⟩, h10⟩
theorem spec_GuessesAt.ev {k : Nat} {l0 : List ITime} {v0 : PV} (hv0 : Sl cITime l0 v0) {l1 : List (List Int)} {v1 : PV} (hv1 : Sl (cSl (cInt .i64)) l1 v1) {l2 : List (List Int)} {v2 : PV} (hv2 : Sl (cSl (cInt .i64)) l2 v2) {a3 : Int} {r : (List Int)} (H : spec_GuessesAt.f k l0 l1 l2 a3 = some r) : Ret Try.prog 8 [v0, v1, v2, .lit (.int .i64 a3)] fun v S => Vec (cInt .i64) r v S := by
 unfold spec_GuessesAt.f at H
 refine Ret.intro Try.func8 rfl (Nat.le_of_ble_eq_true rfl) rfl ?_
 rw [tm4]
 refine Evr.sr rfl (Opl.p1 (n := Opl.nil (Evr.sr rfl (Opl.p1 (n := Opl.p1 (n := Opl.p1 (n := Opl.p1 (n := ?_))))))))
 obtain ⟨t238, h_t238, H⟩ := Option.bind_eq_some_iff.1 H
 refine Opl.call ((spec_TimesOn.ev hv0 hv1 hv2 h_t238).mono fun _ _ h => Out.vec h) rfl rfl rfl rfl ⟨hv0.plain, hv1.plain, hv2.plain, (.lit _), trivial⟩ (by decide) ?_
 rintro pv1 h1
 refine Opl.p1 (n := Opl.nil (Evr.sr rfl (Opl.lits (M := (cInt .i64)) (ys := []) [] K26 T3 rfl rfl rfl trivial rfl (by decide) rfl rfl rfl ?_)))
 rintro pv2 S h2 u1 w1
 refine Opl.p1 (n := Opl.nil (Evr.seq (Evr.sr rfl (Opl.p1 (n := Opl.nil (Evr.block ?_))))))
 refine Evr.loop (Evr.rounds (n := k) (Inv := fun n tm S => n ≤ k ∧ ∃ (x10_1 : List Int) (x11_1 : Int) (pv3 : PV), spec_GuessesAt.l0 n l0 l1 l2 a3 t238 x10_1 x11_1 = some r ∧ Has tm [(0, v0), (1, v1), (2, v2), (3, .lit (.int .i64 a3)), (9, pv1), (10, pv3), (11, .lit (.int .i64 x11_1))] ∧ Vec (cInt .i64) x10_1 pv3 S) ?_ ?_ ?_)
 · exact ⟨Nat.le_refl _, _, _, _, H, ⟨rfl, rfl, rfl, rfl, rfl, rfl, rfl, trivial⟩, h2⟩
 ·
  rintro tm S ⟨_, _, _, _, H, -⟩
  simp [spec_GuessesAt.l0] at H
 ·
  rintro n1 ih1 tm S ⟨hle, x10_1, x11_1, pv3, H, hh, h3⟩
  simp only [spec_GuessesAt.l0] at H
  rw [hh.eq]
  refine Evr.seq (Evr.seq ?_)
  refine Evr.join (fun tm S => ∃ (kq1 : Nat) (x34_1 : Bool) (pv4 : PV), spec_GuessesAt.j1 kq1 l0 l1 l2 a3 t238 x10_1 x11_1 x34_1 = some r ∧ kq1 ≤ n1 ∧ Has tm [(0, v0), (1, v1), (2, v2), (3, .lit (.int .i64 a3)), (9, pv1), (10, pv4), (11, .lit (.int .i64 x11_1)), (34, .lit (.bool x34_1))] ∧ Vec (cInt .i64) x10_1 pv4 S) ?_ fun hk1 => ?_
  ·
   rintro tm S ⟨kq1, x34_1, pv4, H, hle, hh, h4⟩
   rw [hh.eq]
   obtain _ | k1 := kq1
   · simp [spec_GuessesAt.j1] at H
   simp only [spec_GuessesAt.j1] at H
   by_cases c1 : x34_1 = true
   case neg =>
    rw [if_neg c1] at H
    obtain rfl : x34_1 = false := by simpa using c1
    refine Evr.condF rfl (Evr.exit rfl (Evr.sr rfl (Opl.p1 (n := Opl.p1 (n := Opl.nil ?_)))))
    obtain rfl := Option.some.inj H
    refine Evr.ret1 Try.func8 rfl ?_
    show Vec _ _ pv4 _
    exact h4
   rw [if_pos c1] at H
   obtain rfl : x34_1 = true := by simpa using c1
   refine Evr.condT rfl (Evr.skip (Evr.seq (Evr.block (Evr.regionN rfl (Opl.p1 (n := Opl.p1 (n := Opl.p1 (n := Opl.p1 (n := Opl.p1 (n := ?_))))))))))
   obtain ⟨t245, h_t245, H⟩ := Option.bind_eq_some_iff.1 H
   refine Opl.call (spec_l3At.ev hv1 hv2 h_t245) rfl rfl rfl rfl ⟨hv1.plain, hv2.plain, (.lit _), trivial⟩ (by decide) ?_
   rintro pv5 h5
   refine Opl.p1 (n := Opl.p1 (n := ?_))
   obtain ⟨t248, h_t248, H⟩ := Option.bind_eq_some_iff.1 H
   refine Opl.callc (spec_l21Number.ev hv0 h5 h1 h_t248) rfl rfl rfl rfl ⟨hv0.plain, h5.plain, h1.plain, (.lit _), trivial⟩ (by decide) (Opl.lits (M := (cInt .i64)) (ys := [t248]) [.tmp 45] K26 T3 rfl rfl rfl (by exact ⟨rfl, trivial⟩) rfl (by decide) rfl rfl rfl ?_)
   rintro pv6 S h6 u2 w2
   have ap1 := w2.vec h4
   have h7 := u2.vec h4 ap1
   obtain ⟨c2, H⟩ := peel H
   refine Opl.app (M := (cInt .i64)) (xs := x10_1) (ys := [t248]) (v := pv4) h7 (.vec h6) (oInt .i64) rfl rfl K26 T3 rfl rfl (by (try simp only [List.length_cons, List.length_nil]); omega) (by show (_ + _) * 8 ≤ 140737488355328; (try simp only [List.length_cons, List.length_nil]); omega) rfl rfl rfl rfl rfl ?_
   rintro pv7 S h8 u3 w3
   have ap2 := w3.vec h6
   have h9 := u3.vec h6 ap1.symm
   refine Opl.p1 (n := Opl.nil (Evr.inBlock (Evr.regionN rfl (Opl.p1 (n := Opl.add (k := .i64) (a := x11_1) (b := 1) K3 rfl rfl rfl rfl (Opl.one (v := .lit (.int .i64 (wrap64 (x11_1 + 1)))) rfl rfl rfl (Opl.nil ?_)))))))
   exact ih1 _ (by omega) _ _ ⟨by omega, _, _, _, H, ⟨rfl, rfl, rfl, rfl, rfl, rfl, rfl, trivial⟩, h8⟩
  ·
   refine Evr.regionN rfl (Opl.p1 (n := Opl.p1 (n := Opl.len (xs := l1) (by exact hv1) K23 rfl rfl rfl rfl (Opl.p1 (n := Opl.len (xs := l2) (by exact hv2) K23 rfl rfl rfl rfl (Opl.add (k := .i64) (a := (l1.length : Int)) (b := (l2.length : Int)) K3 rfl rfl rfl rfl (Opl.lss (a := x11_1) (b := (wrap64 ((l1.length : Int) + (l2.length : Int)))) K3 rfl rfl rfl rfl (Opl.one (v := .lit (.bool (decide (x11_1 < (wrap64 ((l1.length : Int) + (l2.length : Int))))))) rfl rfl rfl ?_))))))))
   by_cases c3 : x11_1 < (wrap64 ((l1.length : Int) + (l2.length : Int)))
   case neg =>
    rw [if_neg c3] at H
    have e4 : (decide (x11_1 < (wrap64 ((l1.length : Int) + (l2.length : Int))))) = false := by simpa using c3
    try rw [e4]
    refine Opl.skp rfl (Opl.skp rfl (Opl.skp rfl (Opl.one (v := .lit (.bool false)) rfl rfl rfl (Opl.one (v := .lit (.bool false)) rfl rfl rfl (Opl.skp rfl (Opl.skp rfl (Opl.skp rfl (Opl.one (v := .lit (.bool false)) rfl rfl rfl (Opl.nil ?_)))))))))
    exact hk1 _ _ ⟨_, _, _, H, by omega, ⟨rfl, rfl, rfl, rfl, rfl, rfl, rfl, (by first | rfl | (show PV.lit (.bool _) = _; congr 2; simp_all)), trivial⟩, h3⟩
   rw [if_pos c3] at H
   have e1 : (decide (x11_1 < (wrap64 ((l1.length : Int) + (l2.length : Int))))) = true := by simpa using c3
   try rw [e1]
   refine Opl.one (v := pv1) rfl rfl rfl (Opl.len (xs := t238) (by exact h1) K23 rfl rfl rfl rfl (Opl.p1 (n := Opl.one (v := .lit (.bool (decide ((t238.length : Int) > 0)))) rfl rfl rfl (Opl.one (v := .lit (.bool (decide ((t238.length : Int) > 0)))) rfl rfl rfl ?_))))
   by_cases c4 : (t238.length : Int) > 0
   case neg =>
    rw [if_neg c4] at H
    have e3 : (decide ((t238.length : Int) > 0)) = false := by simpa using c4
    try rw [e3]
    refine Opl.skp rfl (Opl.skp rfl (Opl.skp rfl (Opl.one (v := .lit (.bool false)) rfl rfl rfl (Opl.nil ?_))))
    exact hk1 _ _ ⟨_, _, _, H, by omega, ⟨rfl, rfl, rfl, rfl, rfl, rfl, rfl, (by first | rfl | (show PV.lit (.bool _) = _; congr 2; simp_all)), trivial⟩, h3⟩
   rw [if_pos c4] at H
   have e2 : (decide ((t238.length : Int) > 0)) = true := by simpa using c4
   try rw [e2]
   refine Opl.one (v := v0) rfl rfl rfl (Opl.one (v := .lit (.int .i64 a3)) rfl rfl rfl ?_)
   obtain ⟨t244, h_t244, H⟩ := Option.bind_eq_some_iff.1 H
   refine Opl.callc (spec_l21Asked.ev hv0 h_t244) rfl rfl rfl rfl ⟨hv0.plain, (.lit _), trivial⟩ (by decide) (Opl.one (v := .lit (.bool t244)) rfl rfl rfl (Opl.nil ?_))
   exact hk1 _ _ ⟨_, _, _, H, by omega, ⟨rfl, rfl, rfl, rfl, rfl, rfl, rfl, (by first | rfl | (show PV.lit (.bool _) = _; congr 2; simp_all)), trivial⟩, h3⟩
end Go.Proofs.Ytikjlbanfbkhmaa.PA
