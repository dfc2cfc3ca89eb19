/- Walks of Go functions: each is shown to answer as the Lean function beside it tells, under the conditions that its theorem names. -/
import Derived.Test.YtjgfpgoaabppbaaProg
import Derived.KernelRfl
import Derived.Below
import Derived.Deep.Draws
import Derived.Deep.AppendLies
import Derived.Maps.AppendAt
import Derived.OwnWalk
import Derived.Laws.BytesArg
import Derived.Laws.MakeOwn
import Derived.Laws.OwnMore
import Derived.Deep.OwnRows
import Derived.Tactics
import Derived.Lib.ConvBytes
import Derived.Laws.Slices
import Derived.WalkKit
import Derived.RowKit3
import Derived.Deep.LoopGhost
import Derived.Deep.QuietTactic
import Derived.BigQuiet
import Derived.WideLaws
import Derived.Deep.DeepCutAuto
import Derived.Deep.CutBlock
import Derived.Deep.RegionHeld3
import Derived.Laws.Rows
import Derived.Lib.AppendStr
import Derived.ArgAppend
import Derived.Laws.IdiomCopy
import Derived.OrdersHeld
import Derived.Laws.BitsLemmas
import Derived.RowKit
import Derived.Laws.StructEq
import Derived.Lib.SliceRun
import Derived.WalkSpells
import Derived.ChangeArms
import Derived.ChangeSlices
import Derived.Deep.Slices
import Derived.Attr
import Derived.Laws.Append
import Derived.Laws.AppendOwn
import Derived.Laws.Entries
import Derived.Calls
import Derived.Laws.Sem
import Derived.Test.YtjgfpgoaabppbaaKP9b0bd0bda6
namespace Go.Proofs.Ytjgfpgoaabppbaa.PA
open Go Go.Abs Go.RowKit Go.Proofs Go.Proofs.YtjgfpgoaabppbaaW.PrintWords Go.Proofs.YtjgfpgoaabppbaaW.PrintLast Go.Proofs.YtjgfpgoaabppbaaW.PrintMore
set_option maxRecDepth 100000
set_option maxHeartbeats 4000000
set_option linter.unusedVariables false
set_option linter.unusedSimpArgs false
theorem spec_l1In.ev {a0 : Int} {a1 : Int} {a2 : Int} {r : Bool} (H : spec_l1In.f a0 a1 a2 = some r) : Ret Try.prog 73 [.lit (.int .i64 a0), .lit (.int .i64 a1), .lit (.int .i64 a2)] fun v S => v = .lit (.bool r) := by
 unfold spec_l1In.f at H
 refine Ret.intro Try.func73 rfl (Nat.le_of_ble_eq_true rfl) rfl ?_
 rw [tm3]
 refine Evr.seq (Evr.regionN rfl (Opl.one rfl rfl (by simp only [go_sem]; rfl) (Opl.nil (Evr.seq (Evr.regionN rfl (Opl.one rfl rfl (by simp only [go_sem]; rfl) (Opl.one rfl rfl (by simp only [go_sem]; rfl) (Opl.one rfl rfl (by simp only [go_sem]; rfl) (Opl.one rfl rfl (by simp only [go_sem]; rfl) ?_)))))))))
 by_cases c1 : a0 ≥ a1
 case neg =>
  rw [if_neg c1] at H
  have e2 : (decide (a0 ≥ a1)) = false := by simpa using c1
  try rw [e2]
  refine Opl.skp rfl (Opl.skp rfl (Opl.skp rfl (Opl.one rfl rfl (by simp only [go_sem]; rfl) (Opl.one rfl rfl (by simp only [go_sem]; rfl) (Opl.nil ?_)))))
  obtain rfl := Option.some.inj H
  refine Evr.ret1 Try.func73 rfl ?_
  show (.lit (.bool false) : PV) = _
  first | rfl | (simp only [go_sem]; rfl)
 rw [if_pos c1] at H
 have e1 : (decide (a0 ≥ a1)) = true := by simpa using c1
 try rw [e1]
 refine Opl.one rfl rfl (by simp only [go_sem]; rfl) (Opl.one rfl rfl (by simp only [go_sem]; rfl) (Opl.one rfl rfl (by simp only [go_sem]; rfl) (Opl.one rfl rfl (by simp only [go_sem]; rfl) (Opl.one rfl rfl (by simp only [go_sem]; rfl) (Opl.nil ?_)))))
 obtain rfl := Option.some.inj H
 refine Evr.ret1 Try.func73 rfl ?_
 show (.lit (.bool (decide (a0 ≤ a2))) : PV) = _
 first | rfl | (simp only [go_sem]; rfl)
theorem spec_l20One.ev {a0 : Int} {r : Bool} (H : spec_l20One.f a0 = some r) : Ret Try.prog 311 [.lit (.int .i64 a0)] fun v S => v = .lit (.bool r) := by
 unfold spec_l20One.f at H
 refine Ret.intro Try.func311 rfl (Nat.le_of_ble_eq_true rfl) rfl ?_
 rw [tm1]
 refine Evr.seq (Evr.regionN rfl (Opl.one rfl rfl (by simp only [go_sem]; rfl) (Opl.nil (Evr.seq (Evr.regionN rfl (Opl.one rfl rfl (by simp only [go_sem]; rfl) (Opl.one rfl rfl (by simp only [go_sem]; rfl) (Opl.one rfl rfl (by simp only [go_sem]; rfl) ?_))))))))
 by_cases c1 : a0 = 2
 case pos =>
  rw [if_pos c1] at H
  have e1 : (a0 == 2) = true := by simpa using c1
  try rw [e1]
  refine Opl.skp rfl (Opl.skp rfl (Opl.one rfl rfl (by simp only [go_sem]; rfl) (Opl.one rfl rfl (by simp only [go_sem]; rfl) (Opl.nil ?_))))
  obtain rfl := Option.some.inj H
  refine Evr.ret1 Try.func311 rfl ?_
  show (.lit (.bool true) : PV) = _
  first | rfl | (simp only [go_sem]; rfl)
 rw [if_neg c1] at H
 have e2 : (a0 == 2) = false := by simpa using c1
 try rw [e2]
 refine Opl.one rfl rfl (by simp only [go_sem]; rfl) (Opl.one rfl rfl (by simp only [go_sem]; rfl) (Opl.one rfl rfl (by simp only [go_sem]; rfl) (Opl.one rfl rfl (by simp only [go_sem]; rfl) (Opl.nil ?_))))
 obtain rfl := Option.some.inj H
 refine Evr.ret1 Try.func311 rfl ?_
 show (.lit (.bool (a0 == 5)) : PV) = _
 first | rfl | (simp only [go_sem]; rfl)
theorem spec_l20Step.ev {k : Nat} {a0_0 : Int} {a0_1 : Int} {a0_2 : Int} {a0_3 : Int} {a1 : Int} {a2 : Int} {r : Bool} (H : spec_l20Step.f k a0_0 a0_1 a0_2 a0_3 a1 a2 = some r) : Ret Try.prog 274 [.agg [.lit (.int .i64 a0_0), .lit (.int .i64 a0_1), .lit (.int .i64 a0_2), .lit (.int .i64 a0_3)], .lit (.int .i64 a1), .lit (.int .i64 a2)] fun v S => v = .lit (.bool r) := by
 unfold spec_l20Step.f at H
 refine Ret.intro Try.func274 rfl (Nat.le_of_ble_eq_true rfl) rfl ?_
 rw [tm3]
 refine Evr.seq (Evr.regionN rfl (Opl.box (cs := [.lit (.int .i64 a0_0), .lit (.int .i64 a0_1), .lit (.int .i64 a0_2), .lit (.int .i64 a0_3)]) rfl rfl rfl rfl ?_))
 rintro i1 S h1 u1 w1
 refine Opl.one rfl rfl (by simp only [go_sem]; rfl) (Opl.nil (Evr.seq (Evr.seq (Evr.regionN rfl (Opl.one (v := .ptr i1 0) rfl rfl (by simp only [go_sem]; rfl) (Opl.ldb (v := .lit (.int .i64 a0_0)) h1 rfl T3 rfl rfl rfl rfl (Opl.one rfl rfl (by simp only [go_sem]; rfl) (Opl.nil ?_))))))))
 by_cases c1 : a0_0 = 0
 case pos =>
  rw [if_pos c1] at H
  have e1 : (a0_0 == 0) = true := by simpa using c1
  try rw [e1]
  refine Evr.condT rfl (Evr.seq (Evr.regionN rfl (Opl.one (v := .ptr i1 1) rfl rfl (by simp only [go_sem]; rfl) (Opl.ldb (v := .lit (.int .i64 a0_1)) h1 rfl T3 rfl rfl rfl rfl (Opl.one rfl rfl (by simp only [go_sem]; rfl) (Opl.one rfl rfl (by simp only [go_sem]; rfl) ?_))))))
  by_cases c2 : a0_1 = 0
  case neg =>
   rw [if_neg c2] at H
   have e5 : (a0_1 == 0) = false := by simpa using c2
   try rw [e5]
   refine Opl.skp rfl (Opl.skp rfl (Opl.skp rfl (Opl.one rfl rfl (by simp only [go_sem]; rfl) (Opl.one rfl rfl (by simp only [go_sem]; rfl) (Opl.skp rfl (Opl.skp rfl (Opl.skp rfl (Opl.one rfl rfl (by simp only [go_sem]; rfl) (Opl.one rfl rfl (by simp only [go_sem]; rfl) (Opl.nil ?_))))))))))
   obtain rfl := Option.some.inj H
   refine Evr.ret1 Try.func274 rfl ?_
   show (.lit (.bool false) : PV) = _
   first | rfl | (simp only [go_sem]; rfl)
  rw [if_pos c2] at H
  have e2 : (a0_1 == 0) = true := by simpa using c2
  try rw [e2]
  refine Opl.one (v := .ptr i1 2) rfl rfl (by simp only [go_sem]; rfl) (Opl.ldb (v := .lit (.int .i64 a0_2)) h1 rfl T3 rfl rfl rfl rfl (Opl.one rfl rfl (by simp only [go_sem]; rfl) (Opl.one rfl rfl (by simp only [go_sem]; rfl) (Opl.one rfl rfl (by simp only [go_sem]; rfl) ?_))))
  by_cases c3 : a0_2 = 0
  case neg =>
   rw [if_neg c3] at H
   have e4 : (a0_2 == 0) = false := by simpa using c3
   try rw [e4]
   refine Opl.skp rfl (Opl.skp rfl (Opl.skp rfl (Opl.one rfl rfl (by simp only [go_sem]; rfl) (Opl.one rfl rfl (by simp only [go_sem]; rfl) (Opl.nil ?_)))))
   obtain rfl := Option.some.inj H
   refine Evr.ret1 Try.func274 rfl ?_
   show (.lit (.bool false) : PV) = _
   first | rfl | (simp only [go_sem]; rfl)
  rw [if_pos c3] at H
  have e3 : (a0_2 == 0) = true := by simpa using c3
  try rw [e3]
  refine Opl.one (v := .ptr i1 3) rfl rfl (by simp only [go_sem]; rfl) (Opl.ldb (v := .lit (.int .i64 a0_3)) h1 rfl T3 rfl rfl rfl rfl (Opl.one rfl rfl (by simp only [go_sem]; rfl) (Opl.one rfl rfl (by simp only [go_sem]; rfl) (Opl.one rfl rfl (by simp only [go_sem]; rfl) (Opl.nil ?_)))))
  obtain rfl := Option.some.inj H
  refine Evr.ret1 Try.func274 rfl ?_
  show (.lit (.bool (a0_3 == 0)) : PV) = _
  first | rfl | (simp only [go_sem]; rfl)
 rw [if_neg c1] at H
 have e6 : (a0_0 == 0) = false := by simpa using c1
 try rw [e6]
 refine Evr.condF rfl (Evr.skip (Evr.seq (Evr.seq (Evr.regionN rfl (Opl.one (v := .ptr i1 0) rfl rfl (by simp only [go_sem]; rfl) (Opl.ldb (v := .lit (.int .i64 a0_0)) h1 rfl T3 rfl rfl rfl rfl (Opl.one rfl rfl (by simp only [go_sem]; rfl) (Opl.nil ?_))))))))
 by_cases c4 : a0_0 = 1
 case pos =>
  rw [if_pos c4] at H
  have e7 : (a0_0 == 1) = true := by simpa using c4
  try rw [e7]
  refine Evr.condT rfl (Evr.seq (Evr.regionN rfl (Opl.one (v := .ptr i1 1) rfl rfl (by simp only [go_sem]; rfl) (Opl.ldb (v := .lit (.int .i64 a0_1)) h1 rfl T3 rfl rfl rfl rfl (Opl.one rfl rfl (by simp only [go_sem]; rfl) (Opl.one rfl rfl (by simp only [go_sem]; rfl) ?_))))))
  obtain ⟨t749, h_t749, H⟩ := Option.bind_eq_some_iff.1 H
  refine Opl.callc (spec_l1In.ev h_t749) rfl rfl rfl rfl ⟨(.lit _), (.lit _), (.lit _), trivial⟩ (by decide) (Opl.one rfl rfl (by simp only [go_sem]; rfl) ?_)
  by_cases c5 : t749 = true
  case neg =>
   rw [if_neg c5] at H
   obtain rfl : t749 = false := by simpa using c5
   refine Opl.skp rfl (Opl.skp rfl (Opl.skp rfl (Opl.one rfl rfl (by simp only [go_sem]; rfl) (Opl.one rfl rfl (by simp only [go_sem]; rfl) (Opl.skp rfl (Opl.skp rfl (Opl.skp rfl (Opl.one rfl rfl (by simp only [go_sem]; rfl) (Opl.one rfl rfl (by simp only [go_sem]; rfl) (Opl.nil ?_))))))))))
   obtain rfl := Option.some.inj H
   refine Evr.ret1 Try.func274 rfl ?_
   show (.lit (.bool false) : PV) = _
   first | rfl | (simp only [go_sem]; rfl)
  rw [if_pos c5] at H
  obtain rfl : t749 = true := by simpa using c5
  refine Opl.one (v := .ptr i1 2) rfl rfl (by simp only [go_sem]; rfl) (Opl.ldb (v := .lit (.int .i64 a0_2)) h1 rfl T3 rfl rfl rfl rfl (Opl.one rfl rfl (by simp only [go_sem]; rfl) (Opl.one rfl rfl (by simp only [go_sem]; rfl) (Opl.one rfl rfl (by simp only [go_sem]; rfl) ?_))))
  by_cases c6 : a0_2 = 0
  case neg =>
   rw [if_neg c6] at H
   have e9 : (a0_2 == 0) = false := by simpa using c6
   try rw [e9]
   refine Opl.skp rfl (Opl.skp rfl (Opl.skp rfl (Opl.one rfl rfl (by simp only [go_sem]; rfl) (Opl.one rfl rfl (by simp only [go_sem]; rfl) (Opl.nil ?_)))))
   obtain rfl := Option.some.inj H
   refine Evr.ret1 Try.func274 rfl ?_
   show (.lit (.bool false) : PV) = _
   first | rfl | (simp only [go_sem]; rfl)
  rw [if_pos c6] at H
  have e8 : (a0_2 == 0) = true := by simpa using c6
  try rw [e8]
  refine Opl.one (v := .ptr i1 3) rfl rfl (by simp only [go_sem]; rfl) (Opl.ldb (v := .lit (.int .i64 a0_3)) h1 rfl T3 rfl rfl rfl rfl (Opl.one rfl rfl (by simp only [go_sem]; rfl) (Opl.one rfl rfl (by simp only [go_sem]; rfl) (Opl.one rfl rfl (by simp only [go_sem]; rfl) (Opl.nil ?_)))))
  obtain rfl := Option.some.inj H
  refine Evr.ret1 Try.func274 rfl ?_
  show (.lit (.bool (a0_3 == 0)) : PV) = _
  first | rfl | (simp only [go_sem]; rfl)
 rw [if_neg c4] at H
 have e10 : (a0_0 == 1) = false := by simpa using c4
 try rw [e10]
 refine Evr.condF rfl (Evr.skip (Evr.seq (Evr.seq ?_)))
 refine Evr.join (fun tm S => ∃ (kq1 : Nat) (x65_1 : Bool) (i2 : Abs.Id), spec_l20Step.j0 kq1 x65_1 a0_0 a0_1 a0_2 a0_3 = some r ∧ Has tm [(3, .ptr i2 0), (65, .lit (.bool x65_1))] ∧ Box (.ptr i2 0) [.lit (.int .i64 a0_0), .lit (.int .i64 a0_1), .lit (.int .i64 a0_2), .lit (.int .i64 a0_3)] S) ?_ fun hk1 => ?_
 ·
  rintro tm S ⟨kq1, x65_1, i2, H, hh, h2⟩
  rw [hh.eq]
  obtain _ | k1 := kq1
  · simp [spec_l20Step.j0] at H
  simp only [spec_l20Step.j0] at H
  by_cases c7 : x65_1 = true
  case pos =>
   rw [if_pos c7] at H
   obtain rfl : x65_1 = true := by simpa using c7
   refine Evr.condT rfl (Evr.seq (Evr.regionN rfl (Opl.one rfl rfl (by simp only [go_sem]; rfl) (Opl.nil ?_))))
   obtain rfl := Option.some.inj H
   refine Evr.ret1 Try.func274 rfl ?_
   show (.lit (.bool false) : PV) = _
   first | rfl | (simp only [go_sem]; rfl)
  rw [if_neg c7] at H
  obtain rfl : x65_1 = false := by simpa using c7
  refine Evr.condF rfl (Evr.skip (Evr.seq (Evr.regionN rfl (Opl.one (v := .ptr i2 0) rfl rfl (by simp only [go_sem]; rfl) (Opl.ldb (v := .lit (.int .i64 a0_0)) h2 rfl T3 rfl rfl rfl rfl ?_)))))
  obtain ⟨t753, h_t753, H⟩ := Option.bind_eq_some_iff.1 H
  refine Opl.callc (spec_l20One.ev h_t753) rfl rfl rfl rfl ⟨(.lit _), trivial⟩ (by decide) (Opl.one rfl rfl (by simp only [go_sem]; rfl) (Opl.one rfl rfl (by simp only [go_sem]; rfl) ?_))
  by_cases c8 : t753 = true
  case neg =>
   rw [if_neg c8] at H
   have e12 : (!t753) = true := by simpa using c8
   try rw [e12]
   refine Opl.skp rfl (Opl.skp rfl (Opl.skp rfl (Opl.skp rfl (Opl.skp rfl (Opl.one rfl rfl (by simp only [go_sem]; rfl) (Opl.one rfl rfl (by simp only [go_sem]; rfl) (Opl.nil ?_)))))))
   obtain rfl := Option.some.inj H
   refine Evr.ret1 Try.func274 rfl ?_
   show (.lit (.bool true) : PV) = _
   first | rfl | (simp only [go_sem]; rfl)
  rw [if_pos c8] at H
  have e11 : (!t753) = false := by simpa using c8
  try rw [e11]
  refine Opl.one (v := .ptr i2 3) rfl rfl (by simp only [go_sem]; rfl) (Opl.ldb (v := .lit (.int .i64 a0_3)) h2 rfl T3 rfl rfl rfl rfl (Opl.one (v := .ptr i2 2) rfl rfl (by simp only [go_sem]; rfl) (Opl.ldb (v := .lit (.int .i64 a0_2)) h2 rfl T3 rfl rfl rfl rfl (Opl.one rfl rfl (by simp only [go_sem]; rfl) (Opl.one rfl rfl (by simp only [go_sem]; rfl) (Opl.one rfl rfl (by simp only [go_sem]; rfl) (Opl.nil ?_)))))))
  obtain rfl := Option.some.inj H
  refine Evr.ret1 Try.func274 rfl ?_
  show (.lit (.bool (a0_3 == a0_2)) : PV) = _
  first | rfl | (simp only [go_sem]; rfl)
 ·
  refine Evr.regionN rfl (Opl.one (v := .ptr i1 0) rfl rfl (by simp only [go_sem]; rfl) (Opl.ldb (v := .lit (.int .i64 a0_0)) h1 rfl T3 rfl rfl rfl rfl ?_))
  obtain ⟨t750, h_t750, H⟩ := Option.bind_eq_some_iff.1 H
  refine Opl.callc (spec_l1In.ev h_t750) rfl rfl rfl rfl ⟨(.lit _), (.lit _), (.lit _), trivial⟩ (by decide) (Opl.one rfl rfl (by simp only [go_sem]; rfl) (Opl.one rfl rfl (by simp only [go_sem]; rfl) ?_))
  by_cases c9 : t750 = true
  case neg =>
   rw [if_neg c9] at H
   have e18 : (!t750) = true := by simpa using c9
   try rw [e18]
   refine Opl.skp rfl (Opl.skp rfl (Opl.skp rfl (Opl.one rfl rfl (by simp only [go_sem]; rfl) (Opl.one rfl rfl (by simp only [go_sem]; rfl) (Opl.skp rfl (Opl.skp rfl (Opl.skp rfl (Opl.skp rfl (Opl.skp rfl (Opl.skp rfl (Opl.one rfl rfl (by simp only [go_sem]; rfl) (Opl.one rfl rfl (by simp only [go_sem]; rfl) (Opl.skp rfl (Opl.skp rfl (Opl.skp rfl (Opl.skp rfl (Opl.skp rfl (Opl.skp rfl (Opl.one rfl rfl (by simp only [go_sem]; rfl) (Opl.nil ?_))))))))))))))))))))
   exact hk1 _ _ ⟨_, _, _, H, ⟨rfl, (by first | rfl | (show PV.lit (.bool _) = _; congr 2; simp_all)), trivial⟩, h1⟩
  rw [if_pos c9] at H
  have e13 : (!t750) = false := by simpa using c9
  try rw [e13]
  refine Opl.one (v := .ptr i1 1) rfl rfl (by simp only [go_sem]; rfl) (Opl.ldb (v := .lit (.int .i64 a0_1)) h1 rfl T3 rfl rfl rfl rfl (Opl.one rfl rfl (by simp only [go_sem]; rfl) (Opl.one rfl rfl (by simp only [go_sem]; rfl) (Opl.one rfl rfl (by simp only [go_sem]; rfl) ?_))))
  by_cases c10 : a0_1 = 0
  case neg =>
   rw [if_neg c10] at H
   have e17 : (a0_1 != 0) = true := by simpa using c10
   try rw [e17]
   refine Opl.skp rfl (Opl.skp rfl (Opl.skp rfl (Opl.skp rfl (Opl.skp rfl (Opl.skp rfl (Opl.one rfl rfl (by simp only [go_sem]; rfl) (Opl.one rfl rfl (by simp only [go_sem]; rfl) (Opl.skp rfl (Opl.skp rfl (Opl.skp rfl (Opl.skp rfl (Opl.skp rfl (Opl.skp rfl (Opl.one rfl rfl (by simp only [go_sem]; rfl) (Opl.nil ?_)))))))))))))))
   exact hk1 _ _ ⟨_, _, _, H, ⟨rfl, (by first | rfl | (show PV.lit (.bool _) = _; congr 2; simp_all)), trivial⟩, h1⟩
  rw [if_pos c10] at H
  have e14 : (a0_1 != 0) = false := by simpa using c10
  try rw [e14]
  refine Opl.one (v := .ptr i1 2) rfl rfl (by simp only [go_sem]; rfl) (Opl.ldb (v := .lit (.int .i64 a0_2)) h1 rfl T3 rfl rfl rfl rfl (Opl.one rfl rfl (by simp only [go_sem]; rfl) (Opl.one rfl rfl (by simp only [go_sem]; rfl) ?_)))
  obtain ⟨t751, h_t751, H⟩ := Option.bind_eq_some_iff.1 H
  refine Opl.callc (spec_l1In.ev h_t751) rfl rfl rfl rfl ⟨(.lit _), (.lit _), (.lit _), trivial⟩ (by decide) (Opl.one rfl rfl (by simp only [go_sem]; rfl) (Opl.one rfl rfl (by simp only [go_sem]; rfl) (Opl.one rfl rfl (by simp only [go_sem]; rfl) ?_)))
  by_cases c11 : t751 = true
  case neg =>
   rw [if_neg c11] at H
   have e16 : (!t751) = true := by simpa using c11
   try rw [e16]
   refine Opl.skp rfl (Opl.skp rfl (Opl.skp rfl (Opl.skp rfl (Opl.skp rfl (Opl.skp rfl (Opl.one rfl rfl (by simp only [go_sem]; rfl) (Opl.nil ?_)))))))
   exact hk1 _ _ ⟨_, _, _, H, ⟨rfl, (by first | rfl | (show PV.lit (.bool _) = _; congr 2; simp_all)), trivial⟩, h1⟩
  rw [if_pos c11] at H
  have e15 : (!t751) = false := by simpa using c11
  try rw [e15]
  refine Opl.one (v := .ptr i1 3) rfl rfl (by simp only [go_sem]; rfl) (Opl.ldb (v := .lit (.int .i64 a0_3)) h1 rfl T3 rfl rfl rfl rfl (Opl.one rfl rfl (by simp only [go_sem]; rfl) (Opl.one rfl rfl (by simp only [go_sem]; rfl) ?_)))
  obtain ⟨t752, h_t752, H⟩ := Option.bind_eq_some_iff.1 H
  refine Opl.callc (spec_l1In.ev h_t752) rfl rfl rfl rfl ⟨(.lit _), (.lit _), (.lit _), trivial⟩ (by decide) (Opl.one rfl rfl (by simp only [go_sem]; rfl) (Opl.one rfl rfl (by simp only [go_sem]; rfl) (Opl.nil ?_)))
  exact hk1 _ _ ⟨_, _, _, H, ⟨rfl, (by first | rfl | (show PV.lit (.bool _) = _; congr 2; simp_all)), trivial⟩, h1⟩
theorem spec_TimesValid.ev {k : Nat} {l0 : List ITime} {v0 : PV} (hv0 : Sl cITime l0 v0) {a1 : Int} {r : Bool} (H : spec_TimesValid.f k l0 a1 = some r) : Ret Try.prog 208 [v0, .lit (.int .i64 a1)] fun v S => v = .lit (.bool r) := by
 unfold spec_TimesValid.f at H
 refine Ret.intro Try.func208 rfl (Nat.le_of_ble_eq_true rfl) rfl ?_
 rw [tm2]
 refine Evr.seq (Evr.regionN rfl (Opl.one rfl rfl (by simp only [go_sem]; rfl) (Opl.nil (Evr.seq (Evr.seq ?_)))))
 refine Evr.join (fun tm S => ∃ (kq1 : Nat) (x14_1 : Bool), spec_TimesValid.j0 kq1 l0 a1 x14_1 = some r ∧ Has tm [(0, v0), (1, .lit (.int .i64 a1)), (14, .lit (.bool x14_1))]) ?_ fun hk1 => ?_
 ·
  rintro tm S ⟨kq1, x14_1, H, hh⟩
  rw [hh.eq]
  obtain _ | k1 := kq1
  · simp [spec_TimesValid.j0] at H
  simp only [spec_TimesValid.j0] at H
  by_cases c1 : x14_1 = true
  case pos =>
   rw [if_pos c1] at H
   obtain rfl : x14_1 = true := by simpa using c1
   refine Evr.condT rfl (Evr.seq (Evr.regionN rfl (Opl.one rfl rfl (by simp only [go_sem]; rfl) (Opl.nil ?_))))
   obtain rfl := Option.some.inj H
   refine Evr.ret1 Try.func208 rfl ?_
   show (.lit (.bool false) : PV) = _
   first | rfl | (simp only [go_sem]; rfl)
  rw [if_neg c1] at H
  obtain rfl : x14_1 = false := by simpa using c1
  refine Evr.condF rfl (Evr.skip (Evr.seq (Evr.seq (Evr.regionN rfl (Opl.one rfl rfl (by simp only [go_sem]; rfl) (Opl.nil (Evr.block ?_)))))))
  refine Evr.loop (Evr.rounds (n := k1) (Inv := fun n tm S => n ≤ k1 ∧ ∃ (x5_1 : Int), spec_TimesValid.l0 n l0 a1 x5_1 = some r ∧ Has tm [(0, v0), (1, .lit (.int .i64 a1)), (5, .lit (.int .i64 x5_1))]) ?_ ?_ ?_)
  · exact ⟨Nat.le_refl _, _, H, ⟨rfl, rfl, rfl, trivial⟩⟩
  ·
   rintro tm S ⟨_, _, H, -⟩
   simp [spec_TimesValid.l0] at H
  ·
   rintro n1 ih1 tm S ⟨hle, x5_1, H, hh⟩
   simp only [spec_TimesValid.l0] at H
   rw [hh.eq]
   refine Evr.seq (Evr.seq (Evr.regionN rfl (Opl.one rfl rfl (by simp only [go_sem]; rfl) (Opl.one rfl rfl (by simp only [go_sem]; rfl) (Opl.len (xs := l0) (by exact hv0) K58 rfl rfl rfl rfl (Opl.one rfl rfl (by simp only [go_sem]; rfl) (Opl.nil ?_)))))))
   by_cases c2 : x5_1 < (l0.length : Int)
   case neg =>
    rw [if_neg c2] at H
    have e4 : (decide (x5_1 < (l0.length : Int))) = false := by simpa using c2
    try rw [e4]
    refine Evr.condF rfl (Evr.exit rfl (Evr.seq (Evr.regionN rfl (Opl.one rfl rfl (by simp only [go_sem]; rfl) (Opl.nil ?_)))))
    obtain rfl := Option.some.inj H
    refine Evr.ret1 Try.func208 rfl ?_
    show (.lit (.bool true) : PV) = _
    first | rfl | (simp only [go_sem]; rfl)
   rw [if_pos c2] at H
   have e1 : (decide (x5_1 < (l0.length : Int))) = true := by simpa using c2
   try rw [e1]
   refine Evr.condT rfl (Evr.skip (Evr.seq (Evr.block (Evr.seq (Evr.regionN rfl (Opl.one rfl rfl (by simp only [go_sem]; rfl) (Opl.one rfl rfl (by simp only [go_sem]; rfl) ?_)))))))
   obtain ⟨c3, H⟩ := peel H
   refine Opl.idx (M := cITime) (xs := l0) (j := x5_1) zITime (by exact hv0) rfl (by first | omega | (simp only [List.length_set] at *; omega)) (by first | omega | (simp only [List.length_set] at *; omega)) K58 Z149 rfl rfl ?_
   rintro p1 q1 h1
   obtain rfl := cITime_R (x := (rd_ITime l0 x5_1)) h1
   refine Opl.lda (.agg [.lit (.int .i64 ((rd_ITime l0 x5_1).f0)), .lit (.int .i64 ((rd_ITime l0 x5_1).f1)), .lit (.int .i64 ((rd_ITime l0 x5_1).f2)), .lit (.int .i64 ((rd_ITime l0 x5_1).f3))]) rfl T149 rfl rfl rfl rfl (Opl.one rfl rfl (by simp only [go_sem]; rfl) (Opl.one rfl rfl (by simp only [go_sem]; rfl) ?_))
   obtain ⟨t757, h_t757, H⟩ := Option.bind_eq_some_iff.1 H
   refine Opl.callc (spec_l20Step.ev h_t757) rfl rfl rfl rfl ⟨(.aggL ⟨(.lit _), (.lit _), (.lit _), (.lit _), trivial⟩), (.lit _), (.lit _), trivial⟩ (by decide) (Opl.one rfl rfl (by simp only [go_sem]; rfl) (Opl.nil ?_))
   by_cases c4 : t757 = true
   case neg =>
    rw [if_neg c4] at H
    have e3 : (!t757) = true := by simpa using c4
    try rw [e3]
    refine Evr.condT rfl (Evr.seq (Evr.regionN rfl (Opl.one rfl rfl (by simp only [go_sem]; rfl) (Opl.nil ?_))))
    obtain rfl := Option.some.inj H
    refine Evr.ret1 Try.func208 rfl ?_
    show (.lit (.bool false) : PV) = _
    first | rfl | (simp only [go_sem]; rfl)
   rw [if_pos c4] at H
   have e2 : (!t757) = false := by simpa using c4
   try rw [e2]
   refine Evr.condF rfl (Evr.skip (Evr.inBlock (Evr.regionN rfl (Opl.one rfl rfl (by simp only [go_sem]; rfl) (Opl.one rfl rfl (by simp only [go_sem]; rfl) (Opl.one rfl rfl (by simp only [go_sem]; rfl) (Opl.nil ?_)))))))
   exact ih1 _ (by omega) _ _ ⟨by omega, _, H, ⟨rfl, rfl, rfl, trivial⟩⟩
 ·
  refine Evr.regionN rfl (Opl.one rfl rfl (by simp only [go_sem]; rfl) ?_)
  obtain ⟨t754, h_t754, H⟩ := Option.bind_eq_some_iff.1 H
  refine Opl.callc (spec_l1In.ev h_t754) rfl rfl rfl rfl ⟨(.lit _), (.lit _), (.lit _), trivial⟩ (by decide) (Opl.one rfl rfl (by simp only [go_sem]; rfl) (Opl.one rfl rfl (by simp only [go_sem]; rfl) ?_))
  by_cases c5 : t754 = true
  case neg =>
   rw [if_neg c5] at H
   have e6 : (!t754) = true := by simpa using c5
   try rw [e6]
   refine Opl.skp rfl (Opl.skp rfl (Opl.skp rfl (Opl.skp rfl (Opl.one rfl rfl (by simp only [go_sem]; rfl) (Opl.nil ?_)))))
   exact hk1 _ _ ⟨_, _, H, ⟨rfl, rfl, (by first | rfl | (show PV.lit (.bool _) = _; congr 2; simp_all)), trivial⟩⟩
  rw [if_pos c5] at H
  have e5 : (!t754) = false := by simpa using c5
  try rw [e5]
  refine Opl.one rfl rfl (by simp only [go_sem]; rfl) (Opl.len (xs := l0) (by exact hv0) K58 rfl rfl rfl rfl ?_)
  obtain ⟨t755, h_t755, H⟩ := Option.bind_eq_some_iff.1 H
  refine Opl.callc (spec_l1In.ev h_t755) rfl rfl rfl rfl ⟨(.lit _), (.lit _), (.lit _), trivial⟩ (by decide) (Opl.one rfl rfl (by simp only [go_sem]; rfl) (Opl.one rfl rfl (by simp only [go_sem]; rfl) (Opl.nil ?_)))
  exact hk1 _ _ ⟨_, _, H, ⟨rfl, rfl, (by first | rfl | (show PV.lit (.bool _) = _; congr 2; simp_all)), trivial⟩⟩
theorem spec_l21Steps.ev {k : Nat} {l0 : List ITime} {v0 : PV} (hv0 : Sl cITime l0 v0) {r : (List Int)} (H : spec_l21Steps.f k l0 = some r) : Ret Try.prog 211 [v0] fun v S => Vec (cInt .i64) r v S := by
 unfold spec_l21Steps.f at H
 refine Ret.intro Try.func211 rfl (Nat.le_of_ble_eq_true rfl) rfl ?_
 rw [tm1]
 refine Evr.seq (Evr.regionN rfl (Opl.one rfl rfl (by simp only [go_sem]; rfl) (Opl.nil (Evr.seq (Evr.regionN rfl (Opl.lits (M := (cInt .i64)) (ys := []) [] K22 T3 rfl rfl rfl trivial rfl (by decide) rfl rfl rfl ?_))))))
 rintro pv1 S h1 u1 w1
 refine Opl.one rfl rfl (by simp only [go_sem]; rfl) (Opl.nil (Evr.seq (Evr.seq (Evr.regionN rfl (Opl.one rfl rfl (by simp only [go_sem]; rfl) (Opl.nil (Evr.block ?_)))))))
 refine Evr.loop (Evr.rounds (n := k) (Inv := fun n tm S => n ≤ k ∧ ∃ (x3_1 : List Int) (x4_1 : Int) (pv2 : PV), spec_l21Steps.l0 n l0 x3_1 x4_1 = some r ∧ Has tm [(0, v0), (3, pv2), (4, .lit (.int .i64 x4_1))] ∧ Vec (cInt .i64) x3_1 pv2 S) ?_ ?_ ?_)
 · exact ⟨Nat.le_refl _, _, _, _, H, ⟨rfl, rfl, rfl, trivial⟩, h1⟩
 ·
  rintro tm S ⟨_, _, _, _, H, -⟩
  simp [spec_l21Steps.l0] at H
 ·
  rintro n1 ih1 tm S ⟨hle, x3_1, x4_1, pv2, H, hh, h2⟩
  simp only [spec_l21Steps.l0] at H
  rw [hh.eq]
  refine Evr.seq (Evr.seq (Evr.regionN rfl (Opl.one rfl rfl (by simp only [go_sem]; rfl) (Opl.one rfl rfl (by simp only [go_sem]; rfl) (Opl.len (xs := l0) (by exact hv0) K58 rfl rfl rfl rfl (Opl.one rfl rfl (by simp only [go_sem]; rfl) (Opl.nil ?_)))))))
  by_cases c1 : x4_1 < (l0.length : Int)
  case neg =>
   rw [if_neg c1] at H
   have e4 : (decide (x4_1 < (l0.length : Int))) = false := by simpa using c1
   try rw [e4]
   refine Evr.condF rfl (Evr.exit rfl (Evr.seq (Evr.regionN rfl (Opl.one rfl rfl (by simp only [go_sem]; rfl) (Opl.one rfl rfl (by simp only [go_sem]; rfl) (Opl.nil ?_))))))
   obtain rfl := Option.some.inj H
   refine Evr.ret1 Try.func211 rfl ?_
   show Vec _ _ pv2 _
   exact h2
  rw [if_pos c1] at H
  have e1 : (decide (x4_1 < (l0.length : Int))) = true := by simpa using c1
  try rw [e1]
  refine Evr.condT rfl (Evr.skip (Evr.seq (Evr.block (Evr.seq (Evr.regionN rfl (Opl.one rfl rfl (by simp only [go_sem]; rfl) (Opl.one rfl rfl (by simp only [go_sem]; rfl) ?_)))))))
  obtain ⟨c2, H⟩ := peel H
  refine Opl.idx (M := cITime) (xs := l0) (j := x4_1) zITime (by exact hv0) rfl (by first | omega | (simp only [List.length_set] at *; omega)) (by first | omega | (simp only [List.length_set] at *; omega)) K58 Z149 rfl rfl ?_
  rintro p1 q1 h3
  obtain rfl := cITime_R (x := (rd_ITime l0 x4_1)) h3
  refine Opl.one (v := .fel ((.lit (.int .i64 ((rd_ITime l0 x4_1).f0))) :: (.lit (.int .i64 ((rd_ITime l0 x4_1).f1))) :: (.lit (.int .i64 ((rd_ITime l0 x4_1).f2))) :: (.lit (.int .i64 ((rd_ITime l0 x4_1).f3))) :: q1)) rfl rfl (by simp only [go_sem]; rfl) (Opl.lda (.lit (.int .i64 ((rd_ITime l0 x4_1).f0))) rfl T3 rfl rfl rfl rfl (Opl.one rfl rfl (by simp only [go_sem]; rfl) (Opl.nil ?_)))
  refine Evr.join (fun tm S => ∃ (kq1 : Nat) (x3_2 : List Int) (pv3 : PV), spec_l21Steps.l0 kq1 l0 x3_2 (wrap64 (x4_1 + 1)) = some r ∧ kq1 ≤ n1 ∧ Has tm [(0, v0), (3, pv3), (4, .lit (.int .i64 x4_1))] ∧ Vec (cInt .i64) x3_2 pv3 S) ?_ fun hk1 => ?_
  ·
   rintro tm S ⟨kq1, x3_2, pv3, H, hle, hh, h4⟩
   rw [hh.eq]
   refine Evr.inBlock (Evr.regionN rfl (Opl.one rfl rfl (by simp only [go_sem]; rfl) (Opl.one rfl rfl (by simp only [go_sem]; rfl) (Opl.one rfl rfl (by simp only [go_sem]; rfl) (Opl.nil ?_)))))
   exact ih1 _ (by omega) _ _ ⟨by omega, _, _, _, H, ⟨rfl, rfl, rfl, trivial⟩, h4⟩
  ·
   by_cases c3 : ((rd_ITime l0 x4_1).f0) ≥ 5
   case neg =>
    rw [if_neg c3] at H
    have e3 : (decide (((rd_ITime l0 x4_1).f0) ≥ 5)) = false := by simpa using c3
    try rw [e3]
    refine Evr.condF rfl (Evr.skip ?_)
    exact hk1 _ _ ⟨_, _, _, H, by omega, ⟨rfl, rfl, rfl, trivial⟩, h2⟩
   rw [if_pos c3] at H
   have e2 : (decide (((rd_ITime l0 x4_1).f0) ≥ 5)) = true := by simpa using c3
   try rw [e2]
   refine Evr.condT rfl (Evr.regionN rfl (Opl.one rfl rfl (by simp only [go_sem]; rfl) (Opl.one rfl rfl (by simp only [go_sem]; rfl) (Opl.lits (M := (cInt .i64)) (ys := [x4_1]) [.tmp 19] K22 T3 rfl rfl rfl (by exact ⟨rfl, trivial⟩) rfl (by decide) rfl rfl rfl ?_))))
   rintro pv4 S h5 u2 w2
   have ap1 := w2.vec h2
   have h6 := u2.vec h2 ap1
   obtain ⟨c4, H⟩ := peel H
   refine Opl.app (M := (cInt .i64)) (xs := x3_1) (ys := [x4_1]) (v := pv2) h6 (.vec h5) (oInt .i64) rfl rfl K22 T3 rfl rfl (by (try simp only [List.length_cons, List.length_nil]); omega) (by show (_ + _) * 8 ≤ 140737488355328; (try simp only [List.length_cons, List.length_nil]); omega) rfl rfl rfl rfl rfl ?_
   rintro pv5 S h7 u3 w3
   have ap2 := w3.vec h5
   have h8 := u3.vec h5 ap1.symm
   refine Opl.one rfl rfl (by simp only [go_sem]; rfl) (Opl.nil ?_)
   exact hk1 _ _ ⟨_, _, _, H, by omega, ⟨rfl, rfl, rfl, trivial⟩, h7⟩
theorem spec_l21Asked.ev {k : Nat} {l0 : List ITime} {v0 : PV} (hv0 : Sl cITime l0 v0) {a1 : Int} {r : Bool} (H : spec_l21Asked.f k l0 a1 = some r) : Ret Try.prog 118 [v0, .lit (.int .i64 a1)] fun v S => v = .lit (.bool r) := by
 unfold spec_l21Asked.f at H
 refine Ret.intro Try.func118 rfl (Nat.le_of_ble_eq_true rfl) rfl ?_
 rw [tm2]
 refine Evr.seq (Evr.regionN rfl (Opl.one rfl rfl (by simp only [go_sem]; rfl) (Opl.nil (Evr.seq (Evr.regionN rfl (Opl.one rfl rfl (by simp only [go_sem]; rfl) (Opl.one rfl rfl (by simp only [go_sem]; rfl) ?_)))))))
 obtain ⟨t856, h_t856, H⟩ := Option.bind_eq_some_iff.1 H
 refine Opl.callc (spec_TimesValid.ev hv0 h_t856) rfl rfl rfl rfl ⟨hv0.plain, (.lit _), trivial⟩ (by decide) (Opl.one rfl rfl (by simp only [go_sem]; rfl) ?_)
 by_cases c1 : t856 = true
 case neg =>
  rw [if_neg c1] at H
  obtain rfl : t856 = false := by simpa using c1
  refine Opl.skp rfl (Opl.skp rfl (Opl.skp rfl (Opl.skp rfl (Opl.skp rfl (Opl.skp rfl (Opl.one rfl rfl (by simp only [go_sem]; rfl) (Opl.one rfl rfl (by simp only [go_sem]; rfl) (Opl.nil ?_))))))))
  obtain rfl := Option.some.inj H
  refine Evr.ret1 Try.func118 rfl ?_
  show (.lit (.bool false) : PV) = _
  first | rfl | (simp only [go_sem]; rfl)
 rw [if_pos c1] at H
 obtain rfl : t856 = true := by simpa using c1
 refine Opl.one rfl rfl (by simp only [go_sem]; rfl) (Opl.one rfl rfl (by simp only [go_sem]; rfl) ?_)
 obtain ⟨t857, h_t857, H⟩ := Option.bind_eq_some_iff.1 H
 refine Opl.call ((spec_l21Steps.ev hv0 h_t857).mono fun _ _ h => Out.vec h) rfl rfl rfl rfl ⟨hv0.plain, trivial⟩ (by decide) ?_
 rintro pv1 h1
 refine Opl.len (xs := t857) (by exact h1) K22 rfl rfl rfl rfl (Opl.one rfl rfl (by simp only [go_sem]; rfl) (Opl.leq (a := (wrap64 (a1 + (t857.length : Int)))) (b := 7) K3 rfl rfl rfl rfl (Opl.one rfl rfl (by simp only [go_sem]; rfl) (Opl.one rfl rfl (by simp only [go_sem]; rfl) (Opl.nil ?_)))))
 obtain rfl := Option.some.inj H
 refine Evr.ret1 Try.func118 rfl ?_
 show (.lit (.bool (decide ((wrap64 (a1 + (t857.length : Int))) ≤ 7))) : PV) = _
 first | rfl | (simp only [go_sem]; rfl)
theorem spec_GuessCount.ev {k : Nat} {l0 : List ITime} {v0 : PV} (hv0 : Sl cITime l0 v0) {a1 : Int} {r : Int} (H : spec_GuessCount.f k l0 a1 = some r) : Ret Try.prog 145 [v0, .lit (.int .i64 a1)] fun v S => v = .lit (.int .i64 r) := by
 unfold spec_GuessCount.f at H
 refine Ret.intro Try.func145 rfl (Nat.le_of_ble_eq_true rfl) rfl ?_
 rw [tm2]
 refine Evr.seq (Evr.regionN rfl (Opl.one rfl rfl (by simp only [go_sem]; rfl) (Opl.nil (Evr.seq (Evr.seq (Evr.regionN rfl (Opl.one rfl rfl (by simp only [go_sem]; rfl) (Opl.one rfl rfl (by simp only [go_sem]; rfl) ?_))))))))
 obtain ⟨t1322, h_t1322, H⟩ := Option.bind_eq_some_iff.1 H
 refine Opl.callc (spec_l21Asked.ev hv0 h_t1322) rfl rfl rfl rfl ⟨hv0.plain, (.lit _), trivial⟩ (by decide) (Opl.one rfl rfl (by simp only [go_sem]; rfl) (Opl.nil ?_))
 by_cases c1 : t1322 = true
 case neg =>
  rw [if_neg c1] at H
  have e2 : (!t1322) = true := by simpa using c1
  try rw [e2]
  refine Evr.condT rfl (Evr.seq (Evr.regionN rfl (Opl.one rfl rfl (by simp only [go_sem]; rfl) (Opl.nil ?_))))
  obtain rfl := Option.some.inj H
  refine Evr.ret1 Try.func145 rfl ?_
  show (.lit (.int .i64 0) : PV) = _
  first | rfl | (simp only [go_sem]; rfl)
 rw [if_pos c1] at H
 have e1 : (!t1322) = false := by simpa using c1
 try rw [e1]
 refine Evr.condF rfl (Evr.skip (Evr.seq (Evr.regionN rfl (Opl.one rfl rfl (by simp only [go_sem]; rfl) (Opl.one rfl rfl (by simp only [go_sem]; rfl) ?_)))))
 obtain ⟨t1323, h_t1323, H⟩ := Option.bind_eq_some_iff.1 H
 refine Opl.call ((spec_l21Steps.ev hv0 h_t1323).mono fun _ _ h => Out.vec h) rfl rfl rfl rfl ⟨hv0.plain, trivial⟩ (by decide) ?_
 rintro pv1 h1
 refine Opl.len (xs := t1323) (by exact h1) K22 rfl rfl rfl rfl (Opl.one rfl rfl (by simp only [go_sem]; rfl) ?_)
 obtain ⟨c2, H⟩ := peel H
 refine Opl.one (v := .lit (.int .i64 (shl .i64 1 (wrap64 (a1 + (t1323.length : Int)))))) rfl rfl (by simp only [go_sem]; rw [if_neg (by omega)]; simp only [shl, w64, IntKind.bits]; rfl) (Opl.one rfl rfl (by simp only [go_sem]; rfl) (Opl.nil ?_))
 obtain rfl := Option.some.inj H
 refine Evr.ret1 Try.func145 rfl ?_
 show (.lit (.int .i64 (shl .i64 1 (wrap64 (a1 + (t1323.length : Int))))) : PV) = _
 first | rfl | (simp only [go_sem]; rfl)
theorem spec_l1One.ev {a0 : Int} {r : Bool} (H : spec_l1One.f a0 = some r) : Ret Try.prog 333 [.lit (.int .i64 a0)] fun v S => v = .lit (.bool r) := by
 unfold spec_l1One.f at H
 refine Ret.intro Try.func333 rfl (Nat.le_of_ble_eq_true rfl) rfl ?_
 rw [tm1]
 refine Evr.seq (Evr.regionN rfl (Opl.one rfl rfl (by simp only [go_sem]; rfl) (Opl.nil (Evr.seq (Evr.regionN rfl (Opl.one rfl rfl (by simp only [go_sem]; rfl) (Opl.one rfl rfl (by simp only [go_sem]; rfl) (Opl.one rfl rfl (by simp only [go_sem]; rfl) (Opl.nil ?_)))))))))
 obtain rfl := Option.some.inj H
 refine Evr.ret1 Try.func333 rfl ?_
 show (.lit (.bool (a0 == 7)) : PV) = _
 first | rfl | (simp only [go_sem]; rfl)
theorem spec_l1Kind.ev {k : Nat} {a0_0 : Int} {a0_1 : Int} {a0_2 : Int} {a0_3 : Int} {l1 : List Int} {v1 : PV} (hv1 : Sl (cInt .i64) l1 v1) {a2 : Int} {r : Int} (H : spec_l1Kind.f k a0_0 a0_1 a0_2 a0_3 l1 a2 = some r) : Ret Try.prog 328 [.agg [.lit (.int .i64 a0_0), .lit (.int .i64 a0_1), .lit (.int .i64 a0_2), .lit (.int .i64 a0_3)], v1, .lit (.int .i64 a2)] fun v S => v = .lit (.int .i64 r) := by
 unfold spec_l1Kind.f at H
 refine Ret.intro Try.func328 rfl (Nat.le_of_ble_eq_true rfl) rfl ?_
 rw [tm3]
 refine Evr.seq (Evr.regionN rfl (Opl.box (cs := [.lit (.int .i64 a0_0), .lit (.int .i64 a0_1), .lit (.int .i64 a0_2), .lit (.int .i64 a0_3)]) rfl rfl rfl rfl ?_))
 rintro i1 S h1 u1 w1
 refine Opl.one rfl rfl (by simp only [go_sem]; rfl) (Opl.nil (Evr.seq (Evr.seq ?_)))
 refine Evr.join (fun tm S => ∃ (kq1 : Nat) (x25_1 : Bool) (i2 : Abs.Id), spec_l1Kind.j0 kq1 l1 a2 x25_1 a0_0 a0_1 a0_2 a0_3 = some r ∧ Has tm [(1, v1), (2, .lit (.int .i64 a2)), (3, .ptr i2 0), (25, .lit (.bool x25_1))] ∧ Box (.ptr i2 0) [.lit (.int .i64 a0_0), .lit (.int .i64 a0_1), .lit (.int .i64 a0_2), .lit (.int .i64 a0_3)] S) ?_ fun hk1 => ?_
 ·
  rintro tm S ⟨kq1, x25_1, i2, H, hh, h2⟩
  rw [hh.eq]
  obtain _ | k1 := kq1
  · simp [spec_l1Kind.j0] at H
  simp only [spec_l1Kind.j0] at H
  by_cases c1 : x25_1 = true
  case pos =>
   rw [if_pos c1] at H
   obtain rfl : x25_1 = true := by simpa using c1
   refine Evr.condT rfl (Evr.seq (Evr.regionN rfl (Opl.one rfl rfl (by simp only [go_sem]; rfl) (Opl.nil ?_))))
   obtain rfl := Option.some.inj H
   refine Evr.ret1 Try.func328 rfl ?_
   show (.lit (.int .i64 1) : PV) = _
   first | rfl | (simp only [go_sem]; rfl)
  rw [if_neg c1] at H
  obtain rfl : x25_1 = false := by simpa using c1
  refine Evr.condF rfl (Evr.skip (Evr.seq (Evr.seq ?_)))
  refine Evr.join (fun tm S => ∃ (kq2 : Nat) (x45_1 : Bool) (i3 : Abs.Id), spec_l1Kind.j1 kq2 l1 x45_1 a0_0 a0_1 a0_2 a0_3 = some r ∧ Has tm [(1, v1), (3, .ptr i3 0), (45, .lit (.bool x45_1))] ∧ Box (.ptr i3 0) [.lit (.int .i64 a0_0), .lit (.int .i64 a0_1), .lit (.int .i64 a0_2), .lit (.int .i64 a0_3)] S) ?_ fun hk2 => ?_
  ·
   rintro tm S ⟨kq2, x45_1, i3, H, hh, h3⟩
   rw [hh.eq]
   obtain _ | k2 := kq2
   · simp [spec_l1Kind.j1] at H
   simp only [spec_l1Kind.j1] at H
   by_cases c2 : x45_1 = true
   case pos =>
    rw [if_pos c2] at H
    obtain rfl : x45_1 = true := by simpa using c2
    refine Evr.condT rfl (Evr.seq (Evr.regionN rfl (Opl.one rfl rfl (by simp only [go_sem]; rfl) (Opl.nil ?_))))
    obtain rfl := Option.some.inj H
    refine Evr.ret1 Try.func328 rfl ?_
    show (.lit (.int .i64 1) : PV) = _
    first | rfl | (simp only [go_sem]; rfl)
   rw [if_neg c2] at H
   obtain rfl : x45_1 = false := by simpa using c2
   refine Evr.condF rfl (Evr.skip (Evr.seq (Evr.seq ?_)))
   refine Evr.join (fun tm S => ∃ (kq3 : Nat) (x72_1 : Bool) (i4 : Abs.Id), spec_l1Kind.j2 kq3 l1 x72_1 a0_0 a0_1 a0_2 a0_3 = some r ∧ Has tm [(1, v1), (3, .ptr i4 0), (72, .lit (.bool x72_1))] ∧ Box (.ptr i4 0) [.lit (.int .i64 a0_0), .lit (.int .i64 a0_1), .lit (.int .i64 a0_2), .lit (.int .i64 a0_3)] S) ?_ fun hk3 => ?_
   ·
    rintro tm S ⟨kq3, x72_1, i4, H, hh, h4⟩
    rw [hh.eq]
    obtain _ | k3 := kq3
    · simp [spec_l1Kind.j2] at H
    simp only [spec_l1Kind.j2] at H
    by_cases c3 : x72_1 = true
    case pos =>
     rw [if_pos c3] at H
     obtain rfl : x72_1 = true := by simpa using c3
     refine Evr.condT rfl (Evr.seq (Evr.regionN rfl (Opl.one rfl rfl (by simp only [go_sem]; rfl) (Opl.nil ?_))))
     obtain rfl := Option.some.inj H
     refine Evr.ret1 Try.func328 rfl ?_
     show (.lit (.int .i64 0) : PV) = _
     first | rfl | (simp only [go_sem]; rfl)
    rw [if_neg c3] at H
    obtain rfl : x72_1 = false := by simpa using c3
    refine Evr.condF rfl (Evr.skip (Evr.seq (Evr.regionN rfl (Opl.one rfl rfl (by simp only [go_sem]; rfl) (Opl.nil (Evr.seq (Evr.seq (Evr.regionN rfl (Opl.one (v := .ptr i4 0) rfl rfl (by simp only [go_sem]; rfl) (Opl.ldb (v := .lit (.int .i64 a0_0)) h4 rfl T3 rfl rfl rfl rfl (Opl.one rfl rfl (by simp only [go_sem]; rfl) (Opl.nil ?_))))))))))))
    refine Evr.join (fun tm S => ∃ (kq4 : Nat) (x7_1 : Int) (i5 : Abs.Id), spec_l1Kind.j3 kq4 l1 x7_1 a0_0 a0_1 a0_2 a0_3 = some r ∧ Has tm [(1, v1), (3, .ptr i5 0), (7, .lit (.int .i64 x7_1))] ∧ Box (.ptr i5 0) [.lit (.int .i64 a0_0), .lit (.int .i64 a0_1), .lit (.int .i64 a0_2), .lit (.int .i64 a0_3)] S) ?_ fun hk4 => ?_
    ·
     rintro tm S ⟨kq4, x7_1, i5, H, hh, h5⟩
     rw [hh.eq]
     refine Evr.seq (Evr.seq ?_)
     refine Evr.join (fun tm S => ∃ (kq5 : Nat) (x103_1 : Bool) (i6 : Abs.Id), spec_l1Kind.j4 kq5 x103_1 a0_0 a0_1 a0_2 a0_3 = some r ∧ Has tm [(3, .ptr i6 0), (103, .lit (.bool x103_1))] ∧ Box (.ptr i6 0) [.lit (.int .i64 a0_0), .lit (.int .i64 a0_1), .lit (.int .i64 a0_2), .lit (.int .i64 a0_3)] S) ?_ fun hk5 => ?_
     ·
      rintro tm S ⟨kq5, x103_1, i6, H, hh, h6⟩
      rw [hh.eq]
      obtain _ | k4 := kq5
      · simp [spec_l1Kind.j4] at H
      simp only [spec_l1Kind.j4] at H
      by_cases c4 : x103_1 = true
      case pos =>
       rw [if_pos c4] at H
       obtain rfl : x103_1 = true := by simpa using c4
       refine Evr.condT rfl (Evr.seq (Evr.regionN rfl (Opl.one rfl rfl (by simp only [go_sem]; rfl) (Opl.nil ?_))))
       obtain rfl := Option.some.inj H
       refine Evr.ret1 Try.func328 rfl ?_
       show (.lit (.int .i64 0) : PV) = _
       first | rfl | (simp only [go_sem]; rfl)
      rw [if_neg c4] at H
      obtain rfl : x103_1 = false := by simpa using c4
      refine Evr.condF rfl (Evr.skip (Evr.seq (Evr.seq (Evr.regionN rfl (Opl.one (v := .ptr i6 0) rfl rfl (by simp only [go_sem]; rfl) (Opl.ldb (v := .lit (.int .i64 a0_0)) h6 rfl T3 rfl rfl rfl rfl (Opl.one rfl rfl (by simp only [go_sem]; rfl) (Opl.nil ?_))))))))
      by_cases c5 : a0_0 ≥ 5
      case pos =>
       rw [if_pos c5] at H
       have e1 : (decide (a0_0 ≥ 5)) = true := by simpa using c5
       try rw [e1]
       refine Evr.condT rfl (Evr.seq (Evr.regionN rfl (Opl.one rfl rfl (by simp only [go_sem]; rfl) (Opl.nil ?_))))
       obtain rfl := Option.some.inj H
       refine Evr.ret1 Try.func328 rfl ?_
       show (.lit (.int .i64 2) : PV) = _
       first | rfl | (simp only [go_sem]; rfl)
      rw [if_neg c5] at H
      have e2 : (decide (a0_0 ≥ 5)) = false := by simpa using c5
      try rw [e2]
      refine Evr.condF rfl (Evr.skip (Evr.seq (Evr.regionN rfl (Opl.one rfl rfl (by simp only [go_sem]; rfl) (Opl.nil ?_)))))
      obtain rfl := Option.some.inj H
      refine Evr.ret1 Try.func328 rfl ?_
      show (.lit (.int .i64 1) : PV) = _
      first | rfl | (simp only [go_sem]; rfl)
     ·
      refine Evr.regionN rfl (Opl.one rfl rfl (by simp only [go_sem]; rfl) (Opl.one (v := .ptr i5 2) rfl rfl (by simp only [go_sem]; rfl) (Opl.ldb (v := .lit (.int .i64 a0_2)) h5 rfl T3 rfl rfl rfl rfl ?_)))
      obtain _ | k5 := kq4
      · simp [spec_l1Kind.j3] at H
      simp only [spec_l1Kind.j3] at H
      obtain ⟨c6, H⟩ := peel H
      obtain ⟨c7, H⟩ := peel H
      refine Opl.idx (M := (cInt .i64)) (xs := l1) (j := a0_2) (0 : Int) (by exact hv1) rfl (by first | omega | (simp only [List.length_set] at *; omega)) (by first | omega | (simp only [List.length_set] at *; omega)) K22 Z3 rfl rfl ?_
      rintro p1 q1 h7
      obtain rfl : p1 = [.lit (.int .i64 (rd l1 a0_2))] := h7
      refine Opl.lda (.lit (.int .i64 (rd l1 a0_2))) rfl T3 rfl rfl rfl rfl (Opl.one rfl rfl (by simp only [go_sem]; rfl) (Opl.one rfl rfl (by simp only [go_sem]; rfl) (Opl.one rfl rfl (by simp only [go_sem]; rfl) ?_)))
      by_cases c8 : (rd l1 a0_2) = x7_1
      case neg =>
       rw [if_neg c8] at H
       have e6 : ((rd l1 a0_2) != x7_1) = true := by simpa using c8
       try rw [e6]
       refine Opl.skp rfl (Opl.skp rfl (Opl.skp rfl (Opl.skp rfl (Opl.skp rfl (Opl.skp rfl (Opl.skp rfl (Opl.one rfl rfl (by simp only [go_sem]; rfl) (Opl.one rfl rfl (by simp only [go_sem]; rfl) (Opl.skp rfl (Opl.skp rfl (Opl.skp rfl (Opl.skp rfl (Opl.skp rfl (Opl.skp rfl (Opl.skp rfl (Opl.skp rfl (Opl.skp rfl (Opl.skp rfl (Opl.one rfl rfl (by simp only [go_sem]; rfl) (Opl.nil ?_))))))))))))))))))))
       exact hk5 _ _ ⟨_, _, _, H, ⟨rfl, (by first | rfl | (show PV.lit (.bool _) = _; congr 2; simp_all)), trivial⟩, h5⟩
      rw [if_pos c8] at H
      have e3 : ((rd l1 a0_2) != x7_1) = false := by simpa using c8
      try rw [e3]
      refine Opl.one rfl rfl (by simp only [go_sem]; rfl) (Opl.one (v := .ptr i5 3) rfl rfl (by simp only [go_sem]; rfl) (Opl.ldb (v := .lit (.int .i64 a0_3)) h5 rfl T3 rfl rfl rfl rfl ?_))
      obtain ⟨c9, H⟩ := peel H
      obtain ⟨c10, H⟩ := peel H
      refine Opl.idx (M := (cInt .i64)) (xs := l1) (j := a0_3) (0 : Int) (by exact hv1) rfl (by first | omega | (simp only [List.length_set] at *; omega)) (by first | omega | (simp only [List.length_set] at *; omega)) K22 Z3 rfl rfl ?_
      rintro p2 q2 h8
      obtain rfl : p2 = [.lit (.int .i64 (rd l1 a0_3))] := h8
      refine Opl.lda (.lit (.int .i64 (rd l1 a0_3))) rfl T3 rfl rfl rfl rfl (Opl.one rfl rfl (by simp only [go_sem]; rfl) (Opl.one rfl rfl (by simp only [go_sem]; rfl) (Opl.one rfl rfl (by simp only [go_sem]; rfl) (Opl.one rfl rfl (by simp only [go_sem]; rfl) ?_))))
      by_cases c11 : (rd l1 a0_3) = x7_1
      case neg =>
       rw [if_neg c11] at H
       have e5 : ((rd l1 a0_3) != x7_1) = true := by simpa using c11
       try rw [e5]
       refine Opl.skp rfl (Opl.skp rfl (Opl.skp rfl (Opl.skp rfl (Opl.skp rfl (Opl.skp rfl (Opl.skp rfl (Opl.skp rfl (Opl.skp rfl (Opl.skp rfl (Opl.one rfl rfl (by simp only [go_sem]; rfl) (Opl.nil ?_)))))))))))
       exact hk5 _ _ ⟨_, _, _, H, ⟨rfl, (by first | rfl | (show PV.lit (.bool _) = _; congr 2; simp_all)), trivial⟩, h5⟩
      rw [if_pos c11] at H
      have e4 : ((rd l1 a0_3) != x7_1) = false := by simpa using c11
      try rw [e4]
      refine Opl.one (v := .ptr i5 0) rfl rfl (by simp only [go_sem]; rfl) (Opl.ldb (v := .lit (.int .i64 a0_0)) h5 rfl T3 rfl rfl rfl rfl ?_)
      obtain ⟨t1277, h_t1277, H⟩ := Option.bind_eq_some_iff.1 H
      refine Opl.callc (spec_l1One.ev h_t1277) rfl rfl rfl rfl ⟨(.lit _), trivial⟩ (by decide) (Opl.one rfl rfl (by simp only [go_sem]; rfl) ?_)
      by_cases c12 : t1277 = true
      case neg =>
       rw [if_neg c12] at H
       obtain rfl : t1277 = false := by simpa using c12
       refine Opl.skp rfl (Opl.skp rfl (Opl.skp rfl (Opl.skp rfl (Opl.skp rfl (Opl.one rfl rfl (by simp only [go_sem]; rfl) (Opl.one rfl rfl (by simp only [go_sem]; rfl) (Opl.nil ?_)))))))
       exact hk5 _ _ ⟨_, _, _, H, ⟨rfl, (by first | rfl | (show PV.lit (.bool _) = _; congr 2; simp_all)), trivial⟩, h5⟩
      rw [if_pos c12] at H
      obtain rfl : t1277 = true := by simpa using c12
      refine Opl.one (v := .ptr i5 3) rfl rfl (by simp only [go_sem]; rfl) (Opl.ldb (v := .lit (.int .i64 a0_3)) h5 rfl T3 rfl rfl rfl rfl (Opl.one (v := .ptr i5 2) rfl rfl (by simp only [go_sem]; rfl) (Opl.ldb (v := .lit (.int .i64 a0_2)) h5 rfl T3 rfl rfl rfl rfl (Opl.one rfl rfl (by simp only [go_sem]; rfl) (Opl.one rfl rfl (by simp only [go_sem]; rfl) (Opl.one rfl rfl (by simp only [go_sem]; rfl) (Opl.nil ?_)))))))
      exact hk5 _ _ ⟨_, _, _, H, ⟨rfl, (by first | rfl | (show PV.lit (.bool _) = _; congr 2; simp_all)), trivial⟩, h5⟩
    ·
     by_cases c13 : a0_0 ≥ 7
     case neg =>
      rw [if_neg c13] at H
      have e8 : (decide (a0_0 ≥ 7)) = false := by simpa using c13
      try rw [e8]
      refine Evr.condF rfl (Evr.skip ?_)
      exact hk4 _ _ ⟨_, _, _, H, ⟨rfl, rfl, rfl, trivial⟩, h4⟩
     rw [if_pos c13] at H
     have e7 : (decide (a0_0 ≥ 7)) = true := by simpa using c13
     try rw [e7]
     refine Evr.condT rfl (Evr.regionN rfl (Opl.one rfl rfl (by simp only [go_sem]; rfl) (Opl.nil ?_)))
     exact hk4 _ _ ⟨_, _, _, H, ⟨rfl, rfl, rfl, trivial⟩, h4⟩
   ·
    refine Evr.regionN rfl (Opl.one (v := .ptr i3 0) rfl rfl (by simp only [go_sem]; rfl) (Opl.ldb (v := .lit (.int .i64 a0_0)) h3 rfl T3 rfl rfl rfl rfl ?_))
    obtain ⟨t1272, h_t1272, H⟩ := Option.bind_eq_some_iff.1 H
    refine Opl.callc (spec_l1In.ev h_t1272) rfl rfl rfl rfl ⟨(.lit _), (.lit _), (.lit _), trivial⟩ (by decide) (Opl.one rfl rfl (by simp only [go_sem]; rfl) (Opl.one rfl rfl (by simp only [go_sem]; rfl) ?_))
    by_cases c14 : t1272 = true
    case neg =>
     rw [if_neg c14] at H
     have e14 : (!t1272) = true := by simpa using c14
     try rw [e14]
     refine Opl.skp rfl (Opl.skp rfl (Opl.skp rfl (Opl.one rfl rfl (by simp only [go_sem]; rfl) (Opl.one rfl rfl (by simp only [go_sem]; rfl) (Opl.skp rfl (Opl.skp rfl (Opl.skp rfl (Opl.skp rfl (Opl.skp rfl (Opl.skp rfl (Opl.skp rfl (Opl.one rfl rfl (by simp only [go_sem]; rfl) (Opl.one rfl rfl (by simp only [go_sem]; rfl) (Opl.skp rfl (Opl.skp rfl (Opl.skp rfl (Opl.skp rfl (Opl.skp rfl (Opl.skp rfl (Opl.skp rfl (Opl.one rfl rfl (by simp only [go_sem]; rfl) (Opl.nil ?_))))))))))))))))))))))
     exact hk3 _ _ ⟨_, _, _, H, ⟨rfl, rfl, (by first | rfl | (show PV.lit (.bool _) = _; congr 2; simp_all)), trivial⟩, h3⟩
    rw [if_pos c14] at H
    have e9 : (!t1272) = false := by simpa using c14
    try rw [e9]
    refine Opl.one (v := .ptr i3 1) rfl rfl (by simp only [go_sem]; rfl) (Opl.ldb (v := .lit (.int .i64 a0_1)) h3 rfl T3 rfl rfl rfl rfl (Opl.one rfl rfl (by simp only [go_sem]; rfl) (Opl.one rfl rfl (by simp only [go_sem]; rfl) (Opl.one rfl rfl (by simp only [go_sem]; rfl) ?_))))
    by_cases c15 : a0_1 = 0
    case neg =>
     rw [if_neg c15] at H
     have e13 : (a0_1 != 0) = true := by simpa using c15
     try rw [e13]
     refine Opl.skp rfl (Opl.skp rfl (Opl.skp rfl (Opl.skp rfl (Opl.skp rfl (Opl.skp rfl (Opl.skp rfl (Opl.one rfl rfl (by simp only [go_sem]; rfl) (Opl.one rfl rfl (by simp only [go_sem]; rfl) (Opl.skp rfl (Opl.skp rfl (Opl.skp rfl (Opl.skp rfl (Opl.skp rfl (Opl.skp rfl (Opl.skp rfl (Opl.one rfl rfl (by simp only [go_sem]; rfl) (Opl.nil ?_)))))))))))))))))
     exact hk3 _ _ ⟨_, _, _, H, ⟨rfl, rfl, (by first | rfl | (show PV.lit (.bool _) = _; congr 2; simp_all)), trivial⟩, h3⟩
    rw [if_pos c15] at H
    have e10 : (a0_1 != 0) = false := by simpa using c15
    try rw [e10]
    refine Opl.one (v := .ptr i3 2) rfl rfl (by simp only [go_sem]; rfl) (Opl.ldb (v := .lit (.int .i64 a0_2)) h3 rfl T3 rfl rfl rfl rfl (Opl.one rfl rfl (by simp only [go_sem]; rfl) (Opl.len (xs := l1) (by exact hv1) K22 rfl rfl rfl rfl (Opl.one rfl rfl (by simp only [go_sem]; rfl) ?_))))
    obtain ⟨t1273, h_t1273, H⟩ := Option.bind_eq_some_iff.1 H
    refine Opl.callc (spec_l1In.ev h_t1273) rfl rfl rfl rfl ⟨(.lit _), (.lit _), (.lit _), trivial⟩ (by decide) (Opl.one rfl rfl (by simp only [go_sem]; rfl) (Opl.one rfl rfl (by simp only [go_sem]; rfl) (Opl.one rfl rfl (by simp only [go_sem]; rfl) ?_)))
    by_cases c16 : t1273 = true
    case neg =>
     rw [if_neg c16] at H
     have e12 : (!t1273) = true := by simpa using c16
     try rw [e12]
     refine Opl.skp rfl (Opl.skp rfl (Opl.skp rfl (Opl.skp rfl (Opl.skp rfl (Opl.skp rfl (Opl.skp rfl (Opl.one rfl rfl (by simp only [go_sem]; rfl) (Opl.nil ?_))))))))
     exact hk3 _ _ ⟨_, _, _, H, ⟨rfl, rfl, (by first | rfl | (show PV.lit (.bool _) = _; congr 2; simp_all)), trivial⟩, h3⟩
    rw [if_pos c16] at H
    have e11 : (!t1273) = false := by simpa using c16
    try rw [e11]
    refine Opl.one (v := .ptr i3 3) rfl rfl (by simp only [go_sem]; rfl) (Opl.ldb (v := .lit (.int .i64 a0_3)) h3 rfl T3 rfl rfl rfl rfl (Opl.one rfl rfl (by simp only [go_sem]; rfl) (Opl.len (xs := l1) (by exact hv1) K22 rfl rfl rfl rfl (Opl.one rfl rfl (by simp only [go_sem]; rfl) ?_))))
    obtain ⟨t1274, h_t1274, H⟩ := Option.bind_eq_some_iff.1 H
    refine Opl.callc (spec_l1In.ev h_t1274) rfl rfl rfl rfl ⟨(.lit _), (.lit _), (.lit _), trivial⟩ (by decide) (Opl.one rfl rfl (by simp only [go_sem]; rfl) (Opl.one rfl rfl (by simp only [go_sem]; rfl) (Opl.nil ?_)))
    exact hk3 _ _ ⟨_, _, _, H, ⟨rfl, rfl, (by first | rfl | (show PV.lit (.bool _) = _; congr 2; simp_all)), trivial⟩, h3⟩
  ·
   refine Evr.regionN rfl (Opl.one (v := .ptr i2 0) rfl rfl (by simp only [go_sem]; rfl) (Opl.ldb (v := .lit (.int .i64 a0_0)) h2 rfl T3 rfl rfl rfl rfl (Opl.one rfl rfl (by simp only [go_sem]; rfl) (Opl.one rfl rfl (by simp only [go_sem]; rfl) ?_))))
   by_cases c17 : a0_0 = 1
   case neg =>
    rw [if_neg c17] at H
    have e18 : (a0_0 == 1) = false := by simpa using c17
    try rw [e18]
    refine Opl.skp rfl (Opl.skp rfl (Opl.skp rfl (Opl.skp rfl (Opl.skp rfl (Opl.one rfl rfl (by simp only [go_sem]; rfl) (Opl.one rfl rfl (by simp only [go_sem]; rfl) (Opl.skp rfl (Opl.skp rfl (Opl.skp rfl (Opl.one rfl rfl (by simp only [go_sem]; rfl) (Opl.one rfl rfl (by simp only [go_sem]; rfl) (Opl.skp rfl (Opl.skp rfl (Opl.skp rfl (Opl.one rfl rfl (by simp only [go_sem]; rfl) (Opl.nil ?_))))))))))))))))
    exact hk2 _ _ ⟨_, _, _, H, ⟨rfl, rfl, (by first | rfl | (show PV.lit (.bool _) = _; congr 2; simp_all)), trivial⟩, h2⟩
   rw [if_pos c17] at H
   have e15 : (a0_0 == 1) = true := by simpa using c17
   try rw [e15]
   refine Opl.one (v := .ptr i2 1) rfl rfl (by simp only [go_sem]; rfl) (Opl.ldb (v := .lit (.int .i64 a0_1)) h2 rfl T3 rfl rfl rfl rfl (Opl.one rfl rfl (by simp only [go_sem]; rfl) (Opl.one rfl rfl (by simp only [go_sem]; rfl) ?_)))
   obtain ⟨t1271, h_t1271, H⟩ := Option.bind_eq_some_iff.1 H
   refine Opl.callc (spec_l1In.ev h_t1271) rfl rfl rfl rfl ⟨(.lit _), (.lit _), (.lit _), trivial⟩ (by decide) (Opl.one rfl rfl (by simp only [go_sem]; rfl) (Opl.one rfl rfl (by simp only [go_sem]; rfl) ?_))
   by_cases c18 : t1271 = true
   case neg =>
    rw [if_neg c18] at H
    obtain rfl : t1271 = false := by simpa using c18
    refine Opl.skp rfl (Opl.skp rfl (Opl.skp rfl (Opl.one rfl rfl (by simp only [go_sem]; rfl) (Opl.one rfl rfl (by simp only [go_sem]; rfl) (Opl.skp rfl (Opl.skp rfl (Opl.skp rfl (Opl.one rfl rfl (by simp only [go_sem]; rfl) (Opl.nil ?_)))))))))
    exact hk2 _ _ ⟨_, _, _, H, ⟨rfl, rfl, (by first | rfl | (show PV.lit (.bool _) = _; congr 2; simp_all)), trivial⟩, h2⟩
   rw [if_pos c18] at H
   obtain rfl : t1271 = true := by simpa using c18
   refine Opl.one (v := .ptr i2 2) rfl rfl (by simp only [go_sem]; rfl) (Opl.ldb (v := .lit (.int .i64 a0_2)) h2 rfl T3 rfl rfl rfl rfl (Opl.one rfl rfl (by simp only [go_sem]; rfl) (Opl.one rfl rfl (by simp only [go_sem]; rfl) (Opl.one rfl rfl (by simp only [go_sem]; rfl) ?_))))
   by_cases c19 : a0_2 = 0
   case neg =>
    rw [if_neg c19] at H
    have e17 : (a0_2 == 0) = false := by simpa using c19
    try rw [e17]
    refine Opl.skp rfl (Opl.skp rfl (Opl.skp rfl (Opl.one rfl rfl (by simp only [go_sem]; rfl) (Opl.nil ?_))))
    exact hk2 _ _ ⟨_, _, _, H, ⟨rfl, rfl, (by first | rfl | (show PV.lit (.bool _) = _; congr 2; simp_all)), trivial⟩, h2⟩
   rw [if_pos c19] at H
   have e16 : (a0_2 == 0) = true := by simpa using c19
   try rw [e16]
   refine Opl.one (v := .ptr i2 3) rfl rfl (by simp only [go_sem]; rfl) (Opl.ldb (v := .lit (.int .i64 a0_3)) h2 rfl T3 rfl rfl rfl rfl (Opl.one rfl rfl (by simp only [go_sem]; rfl) (Opl.one rfl rfl (by simp only [go_sem]; rfl) (Opl.nil ?_))))
   exact hk2 _ _ ⟨_, _, _, H, ⟨rfl, rfl, (by first | rfl | (show PV.lit (.bool _) = _; congr 2; simp_all)), trivial⟩, h2⟩
 ·
  refine Evr.regionN rfl (Opl.one (v := .ptr i1 0) rfl rfl (by simp only [go_sem]; rfl) (Opl.ldb (v := .lit (.int .i64 a0_0)) h1 rfl T3 rfl rfl rfl rfl (Opl.one rfl rfl (by simp only [go_sem]; rfl) (Opl.one rfl rfl (by simp only [go_sem]; rfl) ?_))))
  by_cases c20 : a0_0 = 0
  case neg =>
   rw [if_neg c20] at H
   have e22 : (a0_0 == 0) = false := by simpa using c20
   try rw [e22]
   refine Opl.skp rfl (Opl.skp rfl (Opl.skp rfl (Opl.one rfl rfl (by simp only [go_sem]; rfl) (Opl.one rfl rfl (by simp only [go_sem]; rfl) (Opl.skp rfl (Opl.skp rfl (Opl.skp rfl (Opl.one rfl rfl (by simp only [go_sem]; rfl) (Opl.one rfl rfl (by simp only [go_sem]; rfl) (Opl.skp rfl (Opl.skp rfl (Opl.skp rfl (Opl.one rfl rfl (by simp only [go_sem]; rfl) (Opl.nil ?_))))))))))))))
   exact hk1 _ _ ⟨_, _, _, H, ⟨rfl, rfl, rfl, (by first | rfl | (show PV.lit (.bool _) = _; congr 2; simp_all)), trivial⟩, h1⟩
  rw [if_pos c20] at H
  have e19 : (a0_0 == 0) = true := by simpa using c20
  try rw [e19]
  refine Opl.one (v := .ptr i1 1) rfl rfl (by simp only [go_sem]; rfl) (Opl.ldb (v := .lit (.int .i64 a0_1)) h1 rfl T3 rfl rfl rfl rfl ?_)
  obtain ⟨t1270, h_t1270, H⟩ := Option.bind_eq_some_iff.1 H
  refine Opl.callc (spec_l1In.ev h_t1270) rfl rfl rfl rfl ⟨(.lit _), (.lit _), (.lit _), trivial⟩ (by decide) (Opl.one rfl rfl (by simp only [go_sem]; rfl) (Opl.one rfl rfl (by simp only [go_sem]; rfl) ?_))
  by_cases c21 : t1270 = true
  case neg =>
   rw [if_neg c21] at H
   obtain rfl : t1270 = false := by simpa using c21
   refine Opl.skp rfl (Opl.skp rfl (Opl.skp rfl (Opl.one rfl rfl (by simp only [go_sem]; rfl) (Opl.one rfl rfl (by simp only [go_sem]; rfl) (Opl.skp rfl (Opl.skp rfl (Opl.skp rfl (Opl.one rfl rfl (by simp only [go_sem]; rfl) (Opl.nil ?_)))))))))
   exact hk1 _ _ ⟨_, _, _, H, ⟨rfl, rfl, rfl, (by first | rfl | (show PV.lit (.bool _) = _; congr 2; simp_all)), trivial⟩, h1⟩
  rw [if_pos c21] at H
  obtain rfl : t1270 = true := by simpa using c21
  refine Opl.one (v := .ptr i1 2) rfl rfl (by simp only [go_sem]; rfl) (Opl.ldb (v := .lit (.int .i64 a0_2)) h1 rfl T3 rfl rfl rfl rfl (Opl.one rfl rfl (by simp only [go_sem]; rfl) (Opl.one rfl rfl (by simp only [go_sem]; rfl) (Opl.one rfl rfl (by simp only [go_sem]; rfl) ?_))))
  by_cases c22 : a0_2 = 0
  case neg =>
   rw [if_neg c22] at H
   have e21 : (a0_2 == 0) = false := by simpa using c22
   try rw [e21]
   refine Opl.skp rfl (Opl.skp rfl (Opl.skp rfl (Opl.one rfl rfl (by simp only [go_sem]; rfl) (Opl.nil ?_))))
   exact hk1 _ _ ⟨_, _, _, H, ⟨rfl, rfl, rfl, (by first | rfl | (show PV.lit (.bool _) = _; congr 2; simp_all)), trivial⟩, h1⟩
  rw [if_pos c22] at H
  have e20 : (a0_2 == 0) = true := by simpa using c22
  try rw [e20]
  refine Opl.one (v := .ptr i1 3) rfl rfl (by simp only [go_sem]; rfl) (Opl.ldb (v := .lit (.int .i64 a0_3)) h1 rfl T3 rfl rfl rfl rfl (Opl.one rfl rfl (by simp only [go_sem]; rfl) (Opl.one rfl rfl (by simp only [go_sem]; rfl) (Opl.nil ?_))))
  exact hk1 _ _ ⟨_, _, _, H, ⟨rfl, rfl, rfl, (by first | rfl | (show PV.lit (.bool _) = _; congr 2; simp_all)), trivial⟩, h1⟩
theorem spec_KindsOf.ev {k : Nat} {l0 : List ITerm} {v0 : PV} (hv0 : Sl cITerm l0 v0) {a1 : Int} {r : (List Int)} (H : spec_KindsOf.f k l0 a1 = some r) : Ret Try.prog 313 [v0, .lit (.int .i64 a1)] fun v S => Vec (cInt .i64) r v S := by
 unfold spec_KindsOf.f at H
 refine Ret.intro Try.func313 rfl (Nat.le_of_ble_eq_true rfl) rfl ?_
 rw [tm2]
 refine Evr.seq (Evr.regionN rfl (Opl.one rfl rfl (by simp only [go_sem]; rfl) (Opl.nil (Evr.seq (Evr.seq ?_)))))
 refine Evr.join (fun tm S => ∃ (kq1 : Nat) (x16_1 : Bool), spec_KindsOf.j0 kq1 l0 a1 x16_1 = some r ∧ Has tm [(0, v0), (1, .lit (.int .i64 a1)), (16, .lit (.bool x16_1))]) ?_ fun hk1 => ?_
 ·
  rintro tm S ⟨kq1, x16_1, H, hh⟩
  rw [hh.eq]
  obtain _ | k1 := kq1
  · simp [spec_KindsOf.j0] at H
  simp only [spec_KindsOf.j0] at H
  by_cases c1 : x16_1 = true
  case pos =>
   rw [if_pos c1] at H
   obtain rfl : x16_1 = true := by simpa using c1
   refine Evr.condT rfl (Evr.seq (Evr.regionN rfl (Opl.one rfl rfl (by simp only [go_sem]; rfl) (Opl.nil ?_))))
   obtain rfl := Option.some.inj H
   refine Evr.ret1 Try.func313 rfl ?_
   show Vec _ _ (.lit (.slice none 0 0)) _
   exact .nil
  rw [if_neg c1] at H
  obtain rfl : x16_1 = false := by simpa using c1
  refine Evr.condF rfl (Evr.skip (Evr.seq (Evr.regionN rfl (Opl.lits (M := (cInt .i64)) (ys := []) [] K22 T3 rfl rfl rfl trivial rfl (by decide) rfl rfl rfl ?_))))
  rintro pv1 S h1 u1 w1
  refine Opl.one rfl rfl (by simp only [go_sem]; rfl) (Opl.nil (Evr.seq (Evr.seq (Evr.regionN rfl (Opl.one rfl rfl (by simp only [go_sem]; rfl) (Opl.nil (Evr.block ?_)))))))
  refine Evr.loop (Evr.rounds (n := k1) (Inv := fun n tm S => n ≤ k1 ∧ ∃ (x5_1 : List Int) (x6_1 : Int) (pv2 : PV), spec_KindsOf.l0 n l0 a1 x5_1 x6_1 = some r ∧ Has tm [(0, v0), (1, .lit (.int .i64 a1)), (5, pv2), (6, .lit (.int .i64 x6_1))] ∧ Vec (cInt .i64) x5_1 pv2 S) ?_ ?_ ?_)
  · exact ⟨Nat.le_refl _, _, _, _, H, ⟨rfl, rfl, rfl, rfl, trivial⟩, h1⟩
  ·
   rintro tm S ⟨_, _, _, _, H, -⟩
   simp [spec_KindsOf.l0] at H
  ·
   rintro n1 ih1 tm S ⟨hle, x5_1, x6_1, pv2, H, hh, h2⟩
   simp only [spec_KindsOf.l0] at H
   rw [hh.eq]
   refine Evr.seq (Evr.seq (Evr.regionN rfl (Opl.one rfl rfl (by simp only [go_sem]; rfl) (Opl.one rfl rfl (by simp only [go_sem]; rfl) (Opl.len (xs := l0) (by exact hv0) K176 rfl rfl rfl rfl (Opl.one rfl rfl (by simp only [go_sem]; rfl) (Opl.nil ?_)))))))
   by_cases c2 : x6_1 < (l0.length : Int)
   case neg =>
    rw [if_neg c2] at H
    have e4 : (decide (x6_1 < (l0.length : Int))) = false := by simpa using c2
    try rw [e4]
    refine Evr.condF rfl (Evr.exit rfl (Evr.seq (Evr.regionN rfl (Opl.one rfl rfl (by simp only [go_sem]; rfl) (Opl.one rfl rfl (by simp only [go_sem]; rfl) (Opl.nil ?_))))))
    obtain rfl := Option.some.inj H
    refine Evr.ret1 Try.func313 rfl ?_
    show Vec _ _ pv2 _
    exact h2
   rw [if_pos c2] at H
   have e1 : (decide (x6_1 < (l0.length : Int))) = true := by simpa using c2
   try rw [e1]
   refine Evr.condT rfl (Evr.skip (Evr.seq (Evr.block (Evr.seq (Evr.regionN rfl (Opl.one rfl rfl (by simp only [go_sem]; rfl) (Opl.one rfl rfl (by simp only [go_sem]; rfl) ?_)))))))
   obtain ⟨c3, H⟩ := peel H
   refine Opl.idx (M := cITerm) (xs := l0) (j := x6_1) zITerm (by exact hv0) rfl (by first | omega | (simp only [List.length_set] at *; omega)) (by first | omega | (simp only [List.length_set] at *; omega)) K176 Z249 rfl rfl ?_
   rintro p1 q1 h3
   obtain rfl := cITerm_R (x := (rd_ITerm l0 x6_1)) h3
   refine Opl.lda (.agg [.lit (.int .i64 ((rd_ITerm l0 x6_1).f0)), .lit (.int .i64 ((rd_ITerm l0 x6_1).f1)), .lit (.int .i64 ((rd_ITerm l0 x6_1).f2)), .lit (.int .i64 ((rd_ITerm l0 x6_1).f3))]) rfl T249 rfl rfl rfl rfl (Opl.one rfl rfl (by simp only [go_sem]; rfl) (Opl.one rfl rfl (by simp only [go_sem]; rfl) ?_))
   obtain ⟨t1284, h_t1284, H⟩ := Option.bind_eq_some_iff.1 H
   obtain ⟨pv3, h4, -, h5⟩ := Out.vec h2
   refine Opl.callw (spec_l1Kind.ev h5 h_t1284) rfl rfl rfl (.cons (.refl _) (.cons h4 (.cons (.refl _) .nil))) ⟨(.aggL ⟨(.lit _), (.lit _), (.lit _), (.lit _), trivial⟩), h5.plain, (.lit _), trivial⟩ (by decide) (Opl.one rfl rfl (by simp only [go_sem]; rfl) (Opl.nil (Evr.seq (Evr.seq (Evr.regionN rfl (Opl.one rfl rfl (by simp only [go_sem]; rfl) (Opl.one rfl rfl (by simp only [go_sem]; rfl) (Opl.nil ?_))))))))
   by_cases c4 : t1284 = 0
   case pos =>
    rw [if_pos c4] at H
    have e2 : (t1284 == 0) = true := by simpa using c4
    try rw [e2]
    refine Evr.condT rfl (Evr.seq (Evr.regionN rfl (Opl.one rfl rfl (by simp only [go_sem]; rfl) (Opl.nil ?_))))
    obtain rfl := Option.some.inj H
    refine Evr.ret1 Try.func313 rfl ?_
    show Vec _ _ (.lit (.slice none 0 0)) _
    exact .nil
   rw [if_neg c4] at H
   have e3 : (t1284 == 0) = false := by simpa using c4
   try rw [e3]
   refine Evr.condF rfl (Evr.skip (Evr.regionN rfl (Opl.one rfl rfl (by simp only [go_sem]; rfl) (Opl.one rfl rfl (by simp only [go_sem]; rfl) (Opl.lits (M := (cInt .i64)) (ys := [t1284]) [.tmp 34] K22 T3 rfl rfl rfl (by exact ⟨rfl, trivial⟩) rfl (by decide) rfl rfl rfl ?_)))))
   rintro pv4 S h6 u2 w2
   have ap1 := w2.vec h2
   have h7 := u2.vec h2 ap1
   obtain ⟨c5, H⟩ := peel H
   refine Opl.app (M := (cInt .i64)) (xs := x5_1) (ys := [t1284]) (v := pv2) h7 (.vec h6) (oInt .i64) rfl rfl K22 T3 rfl rfl (by (try simp only [List.length_cons, List.length_nil]); omega) (by show (_ + _) * 8 ≤ 140737488355328; (try simp only [List.length_cons, List.length_nil]); omega) rfl rfl rfl rfl rfl ?_
   rintro pv5 S h8 u3 w3
   have ap2 := w3.vec h6
   have h9 := u3.vec h6 ap1.symm
   refine Opl.one rfl rfl (by simp only [go_sem]; rfl) (Opl.nil (Evr.inBlock (Evr.regionN rfl (Opl.one rfl rfl (by simp only [go_sem]; rfl) (Opl.one rfl rfl (by simp only [go_sem]; rfl) (Opl.one rfl rfl (by simp only [go_sem]; rfl) (Opl.nil ?_)))))))
   exact ih1 _ (by omega) _ _ ⟨by omega, _, _, _, H, ⟨rfl, rfl, rfl, rfl, trivial⟩, h8⟩
 ·
  refine Evr.regionN rfl (Opl.one rfl rfl (by simp only [go_sem]; rfl) ?_)
  obtain ⟨t1278, h_t1278, H⟩ := Option.bind_eq_some_iff.1 H
  refine Opl.callc (spec_l1In.ev h_t1278) rfl rfl rfl rfl ⟨(.lit _), (.lit _), (.lit _), trivial⟩ (by decide) (Opl.one rfl rfl (by simp only [go_sem]; rfl) (Opl.one rfl rfl (by simp only [go_sem]; rfl) ?_))
  by_cases c6 : t1278 = true
  case neg =>
   rw [if_neg c6] at H
   have e6 : (!t1278) = true := by simpa using c6
   try rw [e6]
   refine Opl.skp rfl (Opl.skp rfl (Opl.skp rfl (Opl.skp rfl (Opl.one rfl rfl (by simp only [go_sem]; rfl) (Opl.nil ?_)))))
   exact hk1 _ _ ⟨_, _, H, ⟨rfl, rfl, (by first | rfl | (show PV.lit (.bool _) = _; congr 2; simp_all)), trivial⟩⟩
  rw [if_pos c6] at H
  have e5 : (!t1278) = false := by simpa using c6
  try rw [e5]
  refine Opl.one rfl rfl (by simp only [go_sem]; rfl) (Opl.len (xs := l0) (by exact hv0) K176 rfl rfl rfl rfl ?_)
  obtain ⟨t1279, h_t1279, H⟩ := Option.bind_eq_some_iff.1 H
  refine Opl.callc (spec_l1In.ev h_t1279) rfl rfl rfl rfl ⟨(.lit _), (.lit _), (.lit _), trivial⟩ (by decide) (Opl.one rfl rfl (by simp only [go_sem]; rfl) (Opl.one rfl rfl (by simp only [go_sem]; rfl) (Opl.nil ?_)))
  exact hk1 _ _ ⟨_, _, H, ⟨rfl, rfl, (by first | rfl | (show PV.lit (.bool _) = _; congr 2; simp_all)), trivial⟩⟩
theorem spec_l2Is.ev {k : Nat} {l0 : List ITerm} {v0 : PV} (hv0 : Sl cITerm l0 v0) {a1 : Int} {a2 : Int} {r : Bool} (H : spec_l2Is.f k l0 a1 a2 = some r) : Ret Try.prog 283 [v0, .lit (.int .i64 a1), .lit (.int .i64 a2)] fun v S => v = .lit (.bool r) := by
 unfold spec_l2Is.f at H
 refine Ret.intro Try.func283 rfl (Nat.le_of_ble_eq_true rfl) rfl ?_
 rw [tm3]
 refine Evr.seq (Evr.regionN rfl (Opl.one rfl rfl (by simp only [go_sem]; rfl) (Opl.nil (Evr.seq (Evr.regionN rfl (Opl.one rfl rfl (by simp only [go_sem]; rfl) (Opl.one rfl rfl (by simp only [go_sem]; rfl) ?_)))))))
 obtain ⟨t1288, h_t1288, H⟩ := Option.bind_eq_some_iff.1 H
 refine Opl.call ((spec_KindsOf.ev hv0 h_t1288).mono fun _ _ h => Out.vec h) rfl rfl rfl rfl ⟨hv0.plain, (.lit _), trivial⟩ (by decide) ?_
 rintro pv1 h1
 refine Opl.one rfl rfl (by simp only [go_sem]; rfl) (Opl.nil (Evr.seq (Evr.regionN rfl (Opl.one rfl rfl (by simp only [go_sem]; rfl) (Opl.len (xs := t1288) (by exact h1) K22 rfl rfl rfl rfl (Opl.one rfl rfl (by simp only [go_sem]; rfl) (Opl.one rfl rfl (by simp only [go_sem]; rfl) ?_)))))))
 by_cases c1 : (t1288.length : Int) > 0
 case neg =>
  rw [if_neg c1] at H
  have e2 : (decide ((t1288.length : Int) > 0)) = false := by simpa using c1
  try rw [e2]
  refine Opl.skp rfl (Opl.skp rfl (Opl.skp rfl (Opl.skp rfl (Opl.skp rfl (Opl.skp rfl (Opl.skp rfl (Opl.skp rfl (Opl.one rfl rfl (by simp only [go_sem]; rfl) (Opl.one rfl rfl (by simp only [go_sem]; rfl) (Opl.nil ?_))))))))))
  obtain rfl := Option.some.inj H
  refine Evr.ret1 Try.func283 rfl ?_
  show (.lit (.bool false) : PV) = _
  first | rfl | (simp only [go_sem]; rfl)
 rw [if_pos c1] at H
 have e1 : (decide ((t1288.length : Int) > 0)) = true := by simpa using c1
 try rw [e1]
 refine Opl.one rfl rfl (by simp only [go_sem]; rfl) (Opl.one rfl rfl (by simp only [go_sem]; rfl) (Opl.len (xs := t1288) (by exact h1) K22 rfl rfl rfl rfl (Opl.one rfl rfl (by simp only [go_sem]; rfl) ?_)))
 obtain ⟨c2, H⟩ := peel H
 obtain ⟨c3, H⟩ := peel H
 refine Opl.idx (M := (cInt .i64)) (xs := t1288) (j := (wrap64 ((t1288.length : Int) - 1))) (0 : Int) (by exact h1) rfl (by first | omega | (simp only [List.length_set] at *; omega)) (by first | omega | (simp only [List.length_set] at *; omega)) K22 Z3 rfl rfl ?_
 rintro p1 q1 h2
 obtain rfl : p1 = [.lit (.int .i64 (rd t1288 (wrap64 ((t1288.length : Int) - 1))))] := h2
 refine Opl.lda (.lit (.int .i64 (rd t1288 (wrap64 ((t1288.length : Int) - 1))))) rfl T3 rfl rfl rfl rfl (Opl.one rfl rfl (by simp only [go_sem]; rfl) (Opl.eql (a := (rd t1288 (wrap64 ((t1288.length : Int) - 1)))) (b := a2) K3 rfl rfl rfl rfl (Opl.one rfl rfl (by simp only [go_sem]; rfl) (Opl.one rfl rfl (by simp only [go_sem]; rfl) (Opl.nil ?_)))))
 obtain rfl := Option.some.inj H
 refine Evr.ret1 Try.func283 rfl ?_
 show (.lit (.bool ((rd t1288 (wrap64 ((t1288.length : Int) - 1))) == a2)) : PV) = _
 first | rfl | (simp only [go_sem]; rfl)
theorem spec_l2Rule.ev {k : Nat} {l0_0 : List ITerm} {v0_0 : PV} (hv0_0 : Sl cITerm l0_0 v0_0) {l0_1 : List Int} {v0_1 : PV} (hv0_1 : Sl (cInt .i64) l0_1 v0_1) {l0_2 : List (List ITerm)} {v0_2 : PV} (hv0_2 : Sl (cSl cITerm) l0_2 v0_2) {a1 : Int} {r : Bool} (H : spec_l2Rule.f k l0_0 l0_1 l0_2 a1 = some r) : Ret Try.prog 285 [.agg [v0_0, v0_1, v0_2], .lit (.int .i64 a1)] fun v S => v = .lit (.bool r) := by
 unfold spec_l2Rule.f at H
 refine Ret.intro Try.func285 rfl (Nat.le_of_ble_eq_true rfl) rfl ?_
 rw [tm2]
 refine Evr.seq (Evr.regionN rfl (Opl.box (cs := [v0_0, v0_1, v0_2]) rfl rfl rfl rfl ?_))
 rintro i1 S h1 u1 w1
 refine Opl.one rfl rfl (by simp only [go_sem]; rfl) (Opl.nil (Evr.seq (Evr.seq ?_)))
 refine Evr.join (fun tm S => ∃ (kq1 : Nat) (x26_1 : Bool) (i2 : Abs.Id), spec_l2Rule.j0 kq1 a1 x26_1 l0_0 l0_1 l0_2 = some r ∧ Has tm [(1, .lit (.int .i64 a1)), (2, .ptr i2 0), (26, .lit (.bool x26_1))] ∧ Box (.ptr i2 0) [v0_0, v0_1, v0_2] S) ?_ fun hk1 => ?_
 ·
  rintro tm S ⟨kq1, x26_1, i2, H, hh, h2⟩
  rw [hh.eq]
  obtain _ | k1 := kq1
  · simp [spec_l2Rule.j0] at H
  simp only [spec_l2Rule.j0] at H
  by_cases c1 : x26_1 = true
  case pos =>
   rw [if_pos c1] at H
   obtain rfl : x26_1 = true := by simpa using c1
   refine Evr.condT rfl (Evr.seq (Evr.regionN rfl (Opl.one rfl rfl (by simp only [go_sem]; rfl) (Opl.nil ?_))))
   obtain rfl := Option.some.inj H
   refine Evr.ret1 Try.func285 rfl ?_
   show (.lit (.bool false) : PV) = _
   first | rfl | (simp only [go_sem]; rfl)
  rw [if_neg c1] at H
  obtain rfl : x26_1 = false := by simpa using c1
  refine Evr.condF rfl (Evr.skip (Evr.seq (Evr.seq (Evr.regionN rfl (Opl.one rfl rfl (by simp only [go_sem]; rfl) (Opl.nil (Evr.block ?_)))))))
  refine Evr.loop (Evr.rounds (n := k1) (Inv := fun n tm S => n ≤ k1 ∧ ∃ (x5_1 : Int) (i3 : Abs.Id), spec_l2Rule.l0 n a1 x5_1 l0_0 l0_1 l0_2 = some r ∧ Has tm [(1, .lit (.int .i64 a1)), (2, .ptr i3 0), (5, .lit (.int .i64 x5_1))] ∧ Box (.ptr i3 0) [v0_0, v0_1, v0_2] S) ?_ ?_ ?_)
  · exact ⟨Nat.le_refl _, _, _, H, ⟨rfl, rfl, rfl, trivial⟩, h2⟩
  ·
   rintro tm S ⟨_, _, _, H, -⟩
   simp [spec_l2Rule.l0] at H
  ·
   rintro n1 ih1 tm S ⟨hle, x5_1, i3, H, hh, h3⟩
   simp only [spec_l2Rule.l0] at H
   rw [hh.eq]
   refine Evr.seq (Evr.seq (Evr.regionN rfl (Opl.one rfl rfl (by simp only [go_sem]; rfl) (Opl.one (v := .ptr i3 1) rfl rfl (by simp only [go_sem]; rfl) (Opl.ldb (v := v0_1) h3 rfl T22 rfl rfl rfl rfl (Opl.len (xs := l0_1) (by exact hv0_1) K22 rfl rfl rfl rfl (Opl.one rfl rfl (by simp only [go_sem]; rfl) (Opl.nil ?_))))))))
   by_cases c2 : x5_1 < (l0_1.length : Int)
   case neg =>
    rw [if_neg c2] at H
    have e8 : (decide (x5_1 < (l0_1.length : Int))) = false := by simpa using c2
    try rw [e8]
    refine Evr.condF rfl (Evr.exit rfl (Evr.seq (Evr.regionN rfl (Opl.one rfl rfl (by simp only [go_sem]; rfl) (Opl.nil ?_)))))
    obtain rfl := Option.some.inj H
    refine Evr.ret1 Try.func285 rfl ?_
    show (.lit (.bool true) : PV) = _
    first | rfl | (simp only [go_sem]; rfl)
   rw [if_pos c2] at H
   have e1 : (decide (x5_1 < (l0_1.length : Int))) = true := by simpa using c2
   try rw [e1]
   refine Evr.condT rfl (Evr.skip (Evr.seq (Evr.block (Evr.seq ?_))))
   refine Evr.join (fun tm S => ∃ (kq2 : Nat) (x70_1 : Bool) (i4 : Abs.Id), spec_l2Rule.j2 kq2 a1 x5_1 x70_1 l0_0 l0_1 l0_2 = some r ∧ kq2 ≤ n1 ∧ Has tm [(1, .lit (.int .i64 a1)), (2, .ptr i4 0), (5, .lit (.int .i64 x5_1)), (70, .lit (.bool x70_1))] ∧ Box (.ptr i4 0) [v0_0, v0_1, v0_2] S) ?_ fun hk2 => ?_
   ·
    rintro tm S ⟨kq2, x70_1, i4, H, hle, hh, h4⟩
    rw [hh.eq]
    obtain _ | k2 := kq2
    · simp [spec_l2Rule.j2] at H
    simp only [spec_l2Rule.j2] at H
    by_cases c3 : x70_1 = true
    case pos =>
     rw [if_pos c3] at H
     obtain rfl : x70_1 = true := by simpa using c3
     refine Evr.condT rfl (Evr.seq (Evr.regionN rfl (Opl.one rfl rfl (by simp only [go_sem]; rfl) (Opl.nil ?_))))
     obtain rfl := Option.some.inj H
     refine Evr.ret1 Try.func285 rfl ?_
     show (.lit (.bool false) : PV) = _
     first | rfl | (simp only [go_sem]; rfl)
    rw [if_neg c3] at H
    obtain rfl : x70_1 = false := by simpa using c3
    refine Evr.condF rfl (Evr.skip (Evr.inBlock (Evr.regionN rfl (Opl.one rfl rfl (by simp only [go_sem]; rfl) (Opl.one rfl rfl (by simp only [go_sem]; rfl) (Opl.one rfl rfl (by simp only [go_sem]; rfl) (Opl.nil ?_)))))))
    exact ih1 _ (by omega) _ _ ⟨by omega, _, _, H, ⟨rfl, rfl, rfl, trivial⟩, h4⟩
   ·
    refine Evr.regionD rfl (by kernel_rfl) (Opl.one (v := .ptr i3 1) rfl rfl (by simp only [go_sem]; rfl) (Opl.ldb (v := v0_1) h3 rfl T22 rfl rfl rfl rfl (Opl.one rfl rfl (by simp only [go_sem]; rfl) ?_)))
    obtain ⟨c4, H⟩ := peel H
    refine Opl.idx (M := (cInt .i64)) (xs := l0_1) (j := x5_1) (0 : Int) (by exact hv0_1) rfl (by first | omega | (simp only [List.length_set] at *; omega)) (by first | omega | (simp only [List.length_set] at *; omega)) K22 Z3 rfl rfl ?_
    rintro p1 q1 h5
    obtain rfl : p1 = [.lit (.int .i64 (rd l0_1 x5_1))] := h5
    refine Opl.lda (.lit (.int .i64 (rd l0_1 x5_1))) rfl T3 rfl rfl rfl rfl (Opl.one rfl rfl (by simp only [go_sem]; rfl) (Opl.one rfl rfl (by simp only [go_sem]; rfl) ?_))
    obtain ⟨t1295, h_t1295, H⟩ := Option.bind_eq_some_iff.1 H
    refine Opl.callc (spec_l1In.ev h_t1295) rfl rfl rfl rfl ⟨(.lit _), (.lit _), (.lit _), trivial⟩ (by decide) (Opl.one rfl rfl (by simp only [go_sem]; rfl) (Opl.one rfl rfl (by simp only [go_sem]; rfl) ?_))
    by_cases c5 : t1295 = true
    case neg =>
     rw [if_neg c5] at H
     have e7 : (!t1295) = true := by simpa using c5
     try rw [e7]
     refine Opl.skp rfl (Opl.skp rfl (Opl.skp rfl (Opl.skp rfl (Opl.skp rfl (Opl.skp rfl (Opl.skp rfl (Opl.skp rfl (Opl.skp rfl (Opl.skp rfl (Opl.skp rfl (Opl.skp rfl (Opl.skp rfl (Opl.skp rfl (Opl.skp rfl (Opl.skp rfl (Opl.one rfl rfl (by simp only [go_sem]; rfl) (Opl.one rfl rfl (by simp only [go_sem]; rfl) (Opl.skp rfl (Opl.skp rfl (Opl.skp rfl (Opl.skp rfl (Opl.skp rfl (Opl.skp rfl (Opl.skp rfl (Opl.skp rfl (Opl.one rfl rfl (by simp only [go_sem]; rfl) (Opl.nil ?_)))))))))))))))))))))))))))
     exact hk2 _ _ ⟨_, _, _, H, by omega, ⟨rfl, rfl, rfl, (by first | rfl | (show PV.lit (.bool _) = _; congr 2; simp_all)), trivial⟩, h3⟩
    rw [if_pos c5] at H
    have e2 : (!t1295) = false := by simpa using c5
    try rw [e2]
    refine Opl.one rfl rfl (by simp only [go_sem]; rfl) (Opl.one rfl rfl (by simp only [go_sem]; rfl) (Opl.one rfl rfl (by simp only [go_sem]; rfl) ?_))
    by_cases c6 : x5_1 > 0
    case neg =>
     rw [if_neg c6] at H
     have e6 : (decide (x5_1 > 0)) = false := by simpa using c6
     try rw [e6]
     refine Opl.skp rfl (Opl.skp rfl (Opl.skp rfl (Opl.skp rfl (Opl.skp rfl (Opl.skp rfl (Opl.skp rfl (Opl.skp rfl (Opl.skp rfl (Opl.skp rfl (Opl.skp rfl (Opl.skp rfl (Opl.one rfl rfl (by simp only [go_sem]; rfl) (Opl.one rfl rfl (by simp only [go_sem]; rfl) (Opl.one rfl rfl (by simp only [go_sem]; rfl) (Opl.one (v := .ptr i3 2) rfl rfl (by simp only [go_sem]; rfl) (Opl.ldb (v := v0_2) h3 rfl T93 rfl rfl rfl rfl (Opl.one rfl rfl (by simp only [go_sem]; rfl) ?_)))))))))))))))))
     obtain ⟨c11, H⟩ := peel H
     refine Opl.idx (M := (cSl cITerm)) (xs := l0_2) (j := x5_1) ([] : List ITerm) (by exact hv0_2) rfl (by first | omega | (simp only [List.length_set] at *; omega)) (by first | omega | (simp only [List.length_set] at *; omega)) K93 Z176 rfl rfl ?_
     rintro p5 q5 h10
     obtain ⟨pv2, rfl, h11⟩ := h10
     refine Opl.lda (pv2) rfl T176 rfl rfl rfl rfl (Opl.one rfl rfl (by simp only [go_sem]; rfl) ?_)
     obtain ⟨t1301, h_t1301, H⟩ := Option.bind_eq_some_iff.1 H
     refine Opl.callc (spec_l2Is.ev h11 h_t1301) rfl rfl rfl rfl ⟨h11.plain, (.lit _), (.lit _), trivial⟩ (by decide) (Opl.one rfl rfl (by simp only [go_sem]; rfl) (Opl.one rfl rfl (by simp only [go_sem]; rfl) (Opl.nil ?_)))
     exact hk2 _ _ ⟨_, _, _, H, by omega, ⟨rfl, rfl, rfl, (by first | rfl | (show PV.lit (.bool _) = _; congr 2; simp_all)), trivial⟩, h3⟩
    rw [if_pos c6] at H
    have e3 : (decide (x5_1 > 0)) = true := by simpa using c6
    try rw [e3]
    refine Opl.one (v := .ptr i3 1) rfl rfl (by simp only [go_sem]; rfl) (Opl.ldb (v := v0_1) h3 rfl T22 rfl rfl rfl rfl (Opl.one rfl rfl (by simp only [go_sem]; rfl) ?_))
    obtain ⟨c7, H⟩ := peel H
    obtain ⟨c8, H⟩ := peel H
    refine Opl.idx (M := (cInt .i64)) (xs := l0_1) (j := x5_1) (0 : Int) (by exact hv0_1) rfl (by first | omega | (simp only [List.length_set] at *; omega)) (by first | omega | (simp only [List.length_set] at *; omega)) K22 Z3 rfl rfl ?_
    rintro p2 q2 h6
    obtain rfl : p2 = [.lit (.int .i64 (rd l0_1 x5_1))] := h6
    refine Opl.lda (.lit (.int .i64 (rd l0_1 x5_1))) rfl T3 rfl rfl rfl rfl (Opl.one (v := .ptr i3 1) rfl rfl (by simp only [go_sem]; rfl) (Opl.ldb (v := v0_1) h3 rfl T22 rfl rfl rfl rfl (Opl.one rfl rfl (by simp only [go_sem]; rfl) (Opl.one rfl rfl (by simp only [go_sem]; rfl) (Opl.idx (M := (cInt .i64)) (xs := l0_1) (j := (wrap64 (x5_1 - 1))) (0 : Int) (by exact hv0_1) rfl (by first | omega | (simp only [List.length_set] at *; omega)) (by first | omega | (simp only [List.length_set] at *; omega)) K22 Z3 rfl rfl ?_)))))
    rintro p3 q3 h7
    obtain rfl : p3 = [.lit (.int .i64 (rd l0_1 (wrap64 (x5_1 - 1))))] := h7
    refine Opl.lda (.lit (.int .i64 (rd l0_1 (wrap64 (x5_1 - 1))))) rfl T3 rfl rfl rfl rfl (Opl.leq (a := (rd l0_1 x5_1)) (b := (rd l0_1 (wrap64 (x5_1 - 1)))) K3 rfl rfl rfl rfl (Opl.one rfl rfl (by simp only [go_sem]; rfl) (Opl.one rfl rfl (by simp only [go_sem]; rfl) (Opl.one rfl rfl (by simp only [go_sem]; rfl) ?_))))
    by_cases c9 : (rd l0_1 x5_1) ≤ (rd l0_1 (wrap64 (x5_1 - 1)))
    case pos =>
     rw [if_pos c9] at H
     have e4 : (decide ((rd l0_1 x5_1) ≤ (rd l0_1 (wrap64 (x5_1 - 1))))) = true := by simpa using c9
     try rw [e4]
     refine Opl.skp rfl (Opl.skp rfl (Opl.skp rfl (Opl.skp rfl (Opl.skp rfl (Opl.skp rfl (Opl.skp rfl (Opl.skp rfl (Opl.one rfl rfl (by simp only [go_sem]; rfl) (Opl.nil ?_)))))))))
     exact hk2 _ _ ⟨_, _, _, H, by omega, ⟨rfl, rfl, rfl, (by first | rfl | (show PV.lit (.bool _) = _; congr 2; simp_all)), trivial⟩, h3⟩
    rw [if_neg c9] at H
    have e5 : (decide ((rd l0_1 x5_1) ≤ (rd l0_1 (wrap64 (x5_1 - 1))))) = false := by simpa using c9
    try rw [e5]
    refine Opl.one (v := .ptr i3 2) rfl rfl (by simp only [go_sem]; rfl) (Opl.ldb (v := v0_2) h3 rfl T93 rfl rfl rfl rfl (Opl.one rfl rfl (by simp only [go_sem]; rfl) ?_))
    obtain ⟨c10, H⟩ := peel H
    refine Opl.idx (M := (cSl cITerm)) (xs := l0_2) (j := x5_1) ([] : List ITerm) (by exact hv0_2) rfl (by first | omega | (simp only [List.length_set] at *; omega)) (by first | omega | (simp only [List.length_set] at *; omega)) K93 Z176 rfl rfl ?_
    rintro p4 q4 h8
    obtain ⟨pv1, rfl, h9⟩ := h8
    refine Opl.lda (pv1) rfl T176 rfl rfl rfl rfl (Opl.one rfl rfl (by simp only [go_sem]; rfl) ?_)
    obtain ⟨t1299, h_t1299, H⟩ := Option.bind_eq_some_iff.1 H
    refine Opl.callc (spec_l2Is.ev h9 h_t1299) rfl rfl rfl rfl ⟨h9.plain, (.lit _), (.lit _), trivial⟩ (by decide) (Opl.one rfl rfl (by simp only [go_sem]; rfl) (Opl.one rfl rfl (by simp only [go_sem]; rfl) (Opl.nil ?_)))
    exact hk2 _ _ ⟨_, _, _, H, by omega, ⟨rfl, rfl, rfl, (by first | rfl | (show PV.lit (.bool _) = _; congr 2; simp_all)), trivial⟩, h3⟩
 ·
  refine Evr.regionN rfl (Opl.one (v := .ptr i1 0) rfl rfl (by simp only [go_sem]; rfl) (Opl.ldb (v := v0_0) h1 rfl T176 rfl rfl rfl rfl (Opl.one rfl rfl (by simp only [go_sem]; rfl) ?_)))
  obtain ⟨t1293, h_t1293, H⟩ := Option.bind_eq_some_iff.1 H
  refine Opl.callc (spec_l2Is.ev hv0_0 h_t1293) rfl rfl rfl rfl ⟨hv0_0.plain, (.lit _), (.lit _), trivial⟩ (by decide) (Opl.one rfl rfl (by simp only [go_sem]; rfl) (Opl.one rfl rfl (by simp only [go_sem]; rfl) ?_))
  by_cases c12 : t1293 = true
  case neg =>
   rw [if_neg c12] at H
   have e12 : (!t1293) = true := by simpa using c12
   try rw [e12]
   refine Opl.skp rfl (Opl.skp rfl (Opl.skp rfl (Opl.skp rfl (Opl.skp rfl (Opl.skp rfl (Opl.skp rfl (Opl.one rfl rfl (by simp only [go_sem]; rfl) (Opl.one rfl rfl (by simp only [go_sem]; rfl) (Opl.skp rfl (Opl.skp rfl (Opl.skp rfl (Opl.skp rfl (Opl.skp rfl (Opl.one rfl rfl (by simp only [go_sem]; rfl) (Opl.nil ?_)))))))))))))))
   exact hk1 _ _ ⟨_, _, _, H, ⟨rfl, rfl, (by first | rfl | (show PV.lit (.bool _) = _; congr 2; simp_all)), trivial⟩, h1⟩
  rw [if_pos c12] at H
  have e9 : (!t1293) = false := by simpa using c12
  try rw [e9]
  refine Opl.one (v := .ptr i1 1) rfl rfl (by simp only [go_sem]; rfl) (Opl.ldb (v := v0_1) h1 rfl T22 rfl rfl rfl rfl (Opl.len (xs := l0_1) (by exact hv0_1) K22 rfl rfl rfl rfl (Opl.one (v := .ptr i1 2) rfl rfl (by simp only [go_sem]; rfl) (Opl.ldb (v := v0_2) h1 rfl T93 rfl rfl rfl rfl (Opl.len (xs := l0_2) (by exact hv0_2) K93 rfl rfl rfl rfl (Opl.one rfl rfl (by simp only [go_sem]; rfl) (Opl.one rfl rfl (by simp only [go_sem]; rfl) (Opl.one rfl rfl (by simp only [go_sem]; rfl) ?_))))))))
  by_cases c13 : (l0_1.length : Int) = (l0_2.length : Int)
  case neg =>
   rw [if_neg c13] at H
   have e11 : ((l0_1.length : Int) != (l0_2.length : Int)) = true := by simpa using c13
   try rw [e11]
   refine Opl.skp rfl (Opl.skp rfl (Opl.skp rfl (Opl.skp rfl (Opl.skp rfl (Opl.one rfl rfl (by simp only [go_sem]; rfl) (Opl.nil ?_))))))
   exact hk1 _ _ ⟨_, _, _, H, ⟨rfl, rfl, (by first | rfl | (show PV.lit (.bool _) = _; congr 2; simp_all)), trivial⟩, h1⟩
  rw [if_pos c13] at H
  have e10 : ((l0_1.length : Int) != (l0_2.length : Int)) = false := by simpa using c13
  try rw [e10]
  refine Opl.one (v := .ptr i1 1) rfl rfl (by simp only [go_sem]; rfl) (Opl.ldb (v := v0_1) h1 rfl T22 rfl rfl rfl rfl (Opl.len (xs := l0_1) (by exact hv0_1) K22 rfl rfl rfl rfl (Opl.one rfl rfl (by simp only [go_sem]; rfl) (Opl.one rfl rfl (by simp only [go_sem]; rfl) (Opl.one rfl rfl (by simp only [go_sem]; rfl) (Opl.nil ?_))))))
  exact hk1 _ _ ⟨_, _, _, H, ⟨rfl, rfl, (by first | rfl | (show PV.lit (.bool _) = _; congr 2; simp_all)), trivial⟩, h1⟩
theorem spec_l2Var.ev {a0_0 : Int} {a0_1 : Int} {a0_2 : Int} {r : Bool} (H : spec_l2Var.f a0_0 a0_1 a0_2 = some r) : Ret Try.prog 284 [.agg [.lit (.int .i64 a0_0), .lit (.int .i64 a0_1), .lit (.int .i64 a0_2)]] fun v S => v = .lit (.bool r) := by
 unfold spec_l2Var.f at H
 refine Ret.intro Try.func284 rfl (Nat.le_of_ble_eq_true rfl) rfl ?_
 rw [tm1]
 refine Evr.seq (Evr.regionN rfl (Opl.box (cs := [.lit (.int .i64 a0_0), .lit (.int .i64 a0_1), .lit (.int .i64 a0_2)]) rfl rfl rfl rfl ?_))
 rintro i1 S h1 u1 w1
 refine Opl.one rfl rfl (by simp only [go_sem]; rfl) (Opl.nil (Evr.seq (Evr.regionN rfl (Opl.one (v := .ptr i1 0) rfl rfl (by simp only [go_sem]; rfl) (Opl.ldb (v := .lit (.int .i64 a0_0)) h1 rfl T3 rfl rfl rfl rfl ?_)))))
 obtain ⟨t1266, h_t1266, H⟩ := Option.bind_eq_some_iff.1 H
 refine Opl.callc (spec_l1In.ev h_t1266) rfl rfl rfl rfl ⟨(.lit _), (.lit _), (.lit _), trivial⟩ (by decide) (Opl.one rfl rfl (by simp only [go_sem]; rfl) ?_)
 by_cases c1 : t1266 = true
 case neg =>
  rw [if_neg c1] at H
  obtain rfl : t1266 = false := by simpa using c1
  refine Opl.skp rfl (Opl.skp rfl (Opl.skp rfl (Opl.skp rfl (Opl.skp rfl (Opl.one rfl rfl (by simp only [go_sem]; rfl) (Opl.one rfl rfl (by simp only [go_sem]; rfl) (Opl.skp rfl (Opl.skp rfl (Opl.skp rfl (Opl.skp rfl (Opl.skp rfl (Opl.skp rfl (Opl.one rfl rfl (by simp only [go_sem]; rfl) (Opl.one rfl rfl (by simp only [go_sem]; rfl) (Opl.skp rfl (Opl.skp rfl (Opl.skp rfl (Opl.skp rfl (Opl.skp rfl (Opl.skp rfl (Opl.skp rfl (Opl.one rfl rfl (by simp only [go_sem]; rfl) (Opl.one rfl rfl (by simp only [go_sem]; rfl) (Opl.nil ?_))))))))))))))))))))))))
  obtain rfl := Option.some.inj H
  refine Evr.ret1 Try.func284 rfl ?_
  show (.lit (.bool false) : PV) = _
  first | rfl | (simp only [go_sem]; rfl)
 rw [if_pos c1] at H
 obtain rfl : t1266 = true := by simpa using c1
 refine Opl.one (v := .ptr i1 1) rfl rfl (by simp only [go_sem]; rfl) (Opl.ldb (v := .lit (.int .i64 a0_1)) h1 rfl T3 rfl rfl rfl rfl (Opl.one (v := .ptr i1 0) rfl rfl (by simp only [go_sem]; rfl) (Opl.ldb (v := .lit (.int .i64 a0_0)) h1 rfl T3 rfl rfl rfl rfl ?_)))
 obtain ⟨t1267, h_t1267, H⟩ := Option.bind_eq_some_iff.1 H
 refine Opl.callc (spec_l1In.ev h_t1267) rfl rfl rfl rfl ⟨(.lit _), (.lit _), (.lit _), trivial⟩ (by decide) (Opl.one rfl rfl (by simp only [go_sem]; rfl) (Opl.one rfl rfl (by simp only [go_sem]; rfl) ?_))
 by_cases c2 : t1267 = true
 case neg =>
  rw [if_neg c2] at H
  obtain rfl : t1267 = false := by simpa using c2
  refine Opl.skp rfl (Opl.skp rfl (Opl.skp rfl (Opl.skp rfl (Opl.skp rfl (Opl.skp rfl (Opl.one rfl rfl (by simp only [go_sem]; rfl) (Opl.one rfl rfl (by simp only [go_sem]; rfl) (Opl.skp rfl (Opl.skp rfl (Opl.skp rfl (Opl.skp rfl (Opl.skp rfl (Opl.skp rfl (Opl.skp rfl (Opl.one rfl rfl (by simp only [go_sem]; rfl) (Opl.one rfl rfl (by simp only [go_sem]; rfl) (Opl.nil ?_)))))))))))))))))
  obtain rfl := Option.some.inj H
  refine Evr.ret1 Try.func284 rfl ?_
  show (.lit (.bool false) : PV) = _
  first | rfl | (simp only [go_sem]; rfl)
 rw [if_pos c2] at H
 obtain rfl : t1267 = true := by simpa using c2
 refine Opl.one (v := .ptr i1 1) rfl rfl (by simp only [go_sem]; rfl) (Opl.ldb (v := .lit (.int .i64 a0_1)) h1 rfl T3 rfl rfl rfl rfl (Opl.one (v := .ptr i1 0) rfl rfl (by simp only [go_sem]; rfl) (Opl.ldb (v := .lit (.int .i64 a0_0)) h1 rfl T3 rfl rfl rfl rfl (Opl.one rfl rfl (by simp only [go_sem]; rfl) (Opl.lss (a := (wrap64 (a0_1 - a0_0))) (b := 20) K3 rfl rfl rfl rfl (Opl.one rfl rfl (by simp only [go_sem]; rfl) (Opl.one rfl rfl (by simp only [go_sem]; rfl) ?_)))))))
 by_cases c3 : (wrap64 (a0_1 - a0_0)) < 20
 case neg =>
  rw [if_neg c3] at H
  have e2 : (decide ((wrap64 (a0_1 - a0_0)) < 20)) = false := by simpa using c3
  try rw [e2]
  refine Opl.skp rfl (Opl.skp rfl (Opl.skp rfl (Opl.skp rfl (Opl.skp rfl (Opl.skp rfl (Opl.skp rfl (Opl.one rfl rfl (by simp only [go_sem]; rfl) (Opl.one rfl rfl (by simp only [go_sem]; rfl) (Opl.nil ?_)))))))))
  obtain rfl := Option.some.inj H
  refine Evr.ret1 Try.func284 rfl ?_
  show (.lit (.bool false) : PV) = _
  first | rfl | (simp only [go_sem]; rfl)
 rw [if_pos c3] at H
 have e1 : (decide ((wrap64 (a0_1 - a0_0)) < 20)) = true := by simpa using c3
 try rw [e1]
 refine Opl.one (v := .ptr i1 2) rfl rfl (by simp only [go_sem]; rfl) (Opl.ldb (v := .lit (.int .i64 a0_2)) h1 rfl T3 rfl rfl rfl rfl (Opl.one (v := .ptr i1 0) rfl rfl (by simp only [go_sem]; rfl) (Opl.ldb (v := .lit (.int .i64 a0_0)) h1 rfl T3 rfl rfl rfl rfl (Opl.one (v := .ptr i1 1) rfl rfl (by simp only [go_sem]; rfl) (Opl.ldb (v := .lit (.int .i64 a0_1)) h1 rfl T3 rfl rfl rfl rfl ?_)))))
 obtain ⟨t1268, h_t1268, H⟩ := Option.bind_eq_some_iff.1 H
 refine Opl.callc (spec_l1In.ev h_t1268) rfl rfl rfl rfl ⟨(.lit _), (.lit _), (.lit _), trivial⟩ (by decide) (Opl.one rfl rfl (by simp only [go_sem]; rfl) (Opl.one rfl rfl (by simp only [go_sem]; rfl) (Opl.nil ?_)))
 obtain rfl := Option.some.inj H
 refine Evr.ret1 Try.func284 rfl ?_
 show (.lit (.bool t1268) : PV) = _
 first | rfl | (simp only [go_sem]; rfl)
theorem spec_SystemValid.ev {k : Nat} {l0_0 : List IVar} {v0_0 : PV} (hv0_0 : Sl cIVar l0_0 v0_0) {l0_1 : List IRule} {v0_1 : PV} (hv0_1 : Sl cIRule l0_1 v0_1) {r : Bool} (H : spec_SystemValid.f k l0_0 l0_1 = some r) : Ret Try.prog 243 [.agg [v0_0, v0_1]] fun v S => v = .lit (.bool r) := by
 unfold spec_SystemValid.f at H
 refine Ret.intro Try.func243 rfl (Nat.le_of_ble_eq_true rfl) rfl ?_
 rw [tm1]
 refine Evr.seq (Evr.regionN rfl (Opl.box (cs := [v0_0, v0_1]) rfl rfl rfl rfl ?_))
 rintro i1 S h1 u1 w1
 refine Opl.one rfl rfl (by simp only [go_sem]; rfl) (Opl.nil (Evr.seq (Evr.seq ?_)))
 refine Evr.join (fun tm S => ∃ (kq1 : Nat) (x16_1 : Bool) (i2 : Abs.Id), spec_SystemValid.j0 kq1 x16_1 l0_0 l0_1 = some r ∧ Has tm [(1, .ptr i2 0), (16, .lit (.bool x16_1))] ∧ Box (.ptr i2 0) [v0_0, v0_1] S) ?_ fun hk1 => ?_
 ·
  rintro tm S ⟨kq1, x16_1, i2, H, hh, h2⟩
  rw [hh.eq]
  obtain _ | k1 := kq1
  · simp [spec_SystemValid.j0] at H
  simp only [spec_SystemValid.j0] at H
  by_cases c1 : x16_1 = true
  case pos =>
   rw [if_pos c1] at H
   obtain rfl : x16_1 = true := by simpa using c1
   refine Evr.condT rfl (Evr.seq (Evr.regionN rfl (Opl.one rfl rfl (by simp only [go_sem]; rfl) (Opl.nil ?_))))
   obtain rfl := Option.some.inj H
   refine Evr.ret1 Try.func243 rfl ?_
   show (.lit (.bool false) : PV) = _
   first | rfl | (simp only [go_sem]; rfl)
  rw [if_neg c1] at H
  obtain rfl : x16_1 = false := by simpa using c1
  refine Evr.condF rfl (Evr.skip (Evr.seq (Evr.regionN rfl (Opl.one rfl rfl (by simp only [go_sem]; rfl) (Opl.nil (Evr.seq (Evr.seq (Evr.regionN rfl (Opl.one rfl rfl (by simp only [go_sem]; rfl) (Opl.nil (Evr.block ?_)))))))))))
  refine Evr.loop (Evr.rounds (n := k1) (Inv := fun n tm S => n ≤ k1 ∧ ∃ (x3_1 : Int) (x4_1 : Int) (i3 : Abs.Id), spec_SystemValid.l0 n x3_1 x4_1 l0_0 l0_1 = some r ∧ Has tm [(1, .ptr i3 0), (3, .lit (.int .i64 x3_1)), (4, .lit (.int .i64 x4_1))] ∧ Box (.ptr i3 0) [v0_0, v0_1] S) ?_ ?_ ?_)
  · exact ⟨Nat.le_refl _, _, _, _, H, ⟨rfl, rfl, rfl, trivial⟩, h2⟩
  ·
   rintro tm S ⟨_, _, _, _, H, -⟩
   simp [spec_SystemValid.l0] at H
  ·
   rintro n1 ih1 tm S ⟨hle, x3_1, x4_1, i3, H, hh, h3⟩
   simp only [spec_SystemValid.l0] at H
   rw [hh.eq]
   refine Evr.seq (Evr.seq (Evr.regionN rfl (Opl.one rfl rfl (by simp only [go_sem]; rfl) (Opl.one (v := .ptr i3 0) rfl rfl (by simp only [go_sem]; rfl) (Opl.ldb (v := v0_0) h3 rfl T88 rfl rfl rfl rfl (Opl.len (xs := l0_0) (by exact hv0_0) K88 rfl rfl rfl rfl (Opl.one rfl rfl (by simp only [go_sem]; rfl) (Opl.nil ?_))))))))
   by_cases c2 : x4_1 < (l0_0.length : Int)
   case pos =>
    rw [if_pos c2] at H
    have e1 : (decide (x4_1 < (l0_0.length : Int))) = true := by simpa using c2
    try rw [e1]
    refine Evr.condT rfl (Evr.skip (Evr.seq (Evr.block (Evr.seq (Evr.seq (Evr.regionN rfl (Opl.one (v := .ptr i3 0) rfl rfl (by simp only [go_sem]; rfl) (Opl.ldb (v := v0_0) h3 rfl T88 rfl rfl rfl rfl (Opl.one rfl rfl (by simp only [go_sem]; rfl) ?_)))))))))
    obtain ⟨c3, H⟩ := peel H
    refine Opl.idx (M := cIVar) (xs := l0_0) (j := x4_1) zIVar (by exact hv0_0) rfl (by first | omega | (simp only [List.length_set] at *; omega)) (by first | omega | (simp only [List.length_set] at *; omega)) K88 Z243 rfl rfl ?_
    rintro p1 q1 h4
    obtain rfl := cIVar_R (x := (rd_IVar l0_0 x4_1)) h4
    refine Opl.lda (.agg [.lit (.int .i64 ((rd_IVar l0_0 x4_1).f0)), .lit (.int .i64 ((rd_IVar l0_0 x4_1).f1)), .lit (.int .i64 ((rd_IVar l0_0 x4_1).f2))]) rfl T243 rfl rfl rfl rfl ?_
    obtain ⟨t1305, h_t1305, H⟩ := Option.bind_eq_some_iff.1 H
    refine Opl.callc (spec_l2Var.ev h_t1305) rfl rfl rfl rfl ⟨(.aggL ⟨(.lit _), (.lit _), (.lit _), trivial⟩), trivial⟩ (by decide) (Opl.one rfl rfl (by simp only [go_sem]; rfl) (Opl.nil ?_))
    by_cases c4 : t1305 = true
    case neg =>
     rw [if_neg c4] at H
     have e3 : (!t1305) = true := by simpa using c4
     try rw [e3]
     refine Evr.condT rfl (Evr.seq (Evr.regionN rfl (Opl.one rfl rfl (by simp only [go_sem]; rfl) (Opl.nil ?_))))
     obtain rfl := Option.some.inj H
     refine Evr.ret1 Try.func243 rfl ?_
     show (.lit (.bool false) : PV) = _
     first | rfl | (simp only [go_sem]; rfl)
    rw [if_pos c4] at H
    have e2 : (!t1305) = false := by simpa using c4
    try rw [e2]
    refine Evr.condF rfl (Evr.skip (Evr.regionD rfl (by kernel_rfl) (Opl.one rfl rfl (by simp only [go_sem]; rfl) (Opl.one (v := .ptr i3 0) rfl rfl (by simp only [go_sem]; rfl) (Opl.ldb (v := v0_0) h3 rfl T88 rfl rfl rfl rfl (Opl.one rfl rfl (by simp only [go_sem]; rfl) (Opl.idx (M := cIVar) (xs := l0_0) (j := x4_1) zIVar (by exact hv0_0) rfl (by first | omega | (simp only [List.length_set] at *; omega)) (by first | omega | (simp only [List.length_set] at *; omega)) K88 Z243 rfl rfl ?_)))))))
    rintro p2 q2 h5
    obtain rfl := cIVar_R (x := (rd_IVar l0_0 x4_1)) h5
    refine Opl.one (v := .fel ((.lit (.int .i64 ((rd_IVar l0_0 x4_1).f1))) :: (.lit (.int .i64 ((rd_IVar l0_0 x4_1).f2))) :: q2)) rfl rfl (by simp only [go_sem]; rfl) (Opl.lda (.lit (.int .i64 ((rd_IVar l0_0 x4_1).f1))) rfl T3 rfl rfl rfl rfl (Opl.one (v := .ptr i3 0) rfl rfl (by simp only [go_sem]; rfl) (Opl.ldb (v := v0_0) h3 rfl T88 rfl rfl rfl rfl (Opl.one rfl rfl (by simp only [go_sem]; rfl) (Opl.idx (M := cIVar) (xs := l0_0) (j := x4_1) zIVar (by exact hv0_0) rfl (by first | omega | (simp only [List.length_set] at *; omega)) (by first | omega | (simp only [List.length_set] at *; omega)) K88 Z243 rfl rfl ?_)))))
    rintro p3 q3 h6
    obtain rfl := cIVar_R (x := (rd_IVar l0_0 x4_1)) h6
    refine Opl.one (v := .fel ((.lit (.int .i64 ((rd_IVar l0_0 x4_1).f0))) :: (.lit (.int .i64 ((rd_IVar l0_0 x4_1).f1))) :: (.lit (.int .i64 ((rd_IVar l0_0 x4_1).f2))) :: q3)) rfl rfl (by simp only [go_sem]; rfl) (Opl.lda (.lit (.int .i64 ((rd_IVar l0_0 x4_1).f0))) rfl T3 rfl rfl rfl rfl (Opl.one rfl rfl (by simp only [go_sem]; rfl) (Opl.one rfl rfl (by simp only [go_sem]; rfl) (Opl.one rfl rfl (by simp only [go_sem]; rfl) (Opl.one rfl rfl (by simp only [go_sem]; rfl) (Opl.nil (Evr.inBlock (Evr.regionN rfl (Opl.one rfl rfl (by simp only [go_sem]; rfl) (Opl.one rfl rfl (by simp only [go_sem]; rfl) (Opl.one rfl rfl (by simp only [go_sem]; rfl) (Opl.nil ?_))))))))))))
    exact ih1 _ (by omega) _ _ ⟨by omega, _, _, _, H, ⟨rfl, rfl, rfl, trivial⟩, h3⟩
   rw [if_neg c2] at H
   have e4 : (decide (x4_1 < (l0_0.length : Int))) = false := by simpa using c2
   try rw [e4]
   refine Evr.condF rfl (Evr.exit rfl (Evr.seq (Evr.seq (Evr.regionN rfl (Opl.one rfl rfl (by simp only [go_sem]; rfl) (Opl.nil (Evr.block ?_)))))))
   refine Evr.loop (Evr.rounds (n := n1) (Inv := fun n tm S => n ≤ n1 ∧ ∃ (x5_1 : Int) (i4 : Abs.Id), spec_SystemValid.l1 n x3_1 x5_1 l0_0 l0_1 = some r ∧ Has tm [(1, .ptr i4 0), (3, .lit (.int .i64 x3_1)), (5, .lit (.int .i64 x5_1))] ∧ Box (.ptr i4 0) [v0_0, v0_1] S) ?_ ?_ ?_)
   · exact ⟨Nat.le_refl _, _, _, H, ⟨rfl, rfl, rfl, trivial⟩, h3⟩
   ·
    rintro tm S ⟨_, _, _, H, -⟩
    simp [spec_SystemValid.l1] at H
   ·
    rintro n2 ih2 tm S ⟨hle, x5_1, i4, H, hh, h7⟩
    simp only [spec_SystemValid.l1] at H
    rw [hh.eq]
    refine Evr.seq (Evr.seq (Evr.regionN rfl (Opl.one rfl rfl (by simp only [go_sem]; rfl) (Opl.one (v := .ptr i4 1) rfl rfl (by simp only [go_sem]; rfl) (Opl.ldb (v := v0_1) h7 rfl T89 rfl rfl rfl rfl (Opl.len (xs := l0_1) (by exact hv0_1) K89 rfl rfl rfl rfl (Opl.one rfl rfl (by simp only [go_sem]; rfl) (Opl.nil ?_))))))))
    by_cases c5 : x5_1 < (l0_1.length : Int)
    case neg =>
     rw [if_neg c5] at H
     have e8 : (decide (x5_1 < (l0_1.length : Int))) = false := by simpa using c5
     try rw [e8]
     refine Evr.condF rfl (Evr.exit rfl (Evr.seq (Evr.regionN rfl (Opl.one rfl rfl (by simp only [go_sem]; rfl) (Opl.one rfl rfl (by simp only [go_sem]; rfl) (Opl.one rfl rfl (by simp only [go_sem]; rfl) (Opl.nil ?_)))))))
     obtain rfl := Option.some.inj H
     refine Evr.ret1 Try.func243 rfl ?_
     show (.lit (.bool (decide (x3_1 ≤ 400))) : PV) = _
     first | rfl | (simp only [go_sem]; rfl)
    rw [if_pos c5] at H
    have e5 : (decide (x5_1 < (l0_1.length : Int))) = true := by simpa using c5
    try rw [e5]
    refine Evr.condT rfl (Evr.skip (Evr.seq (Evr.block (Evr.seq (Evr.regionD rfl (by kernel_rfl) (Opl.one (v := .ptr i4 1) rfl rfl (by simp only [go_sem]; rfl) (Opl.ldb (v := v0_1) h7 rfl T89 rfl rfl rfl rfl (Opl.one rfl rfl (by simp only [go_sem]; rfl) ?_))))))))
    obtain ⟨c6, H⟩ := peel H
    refine Opl.idx (M := cIRule) (xs := l0_1) (j := x5_1) zIRule (by exact hv0_1) rfl (by first | omega | (simp only [List.length_set] at *; omega)) (by first | omega | (simp only [List.length_set] at *; omega)) K89 Z247 rfl rfl ?_
    rintro p4 q4 h8
    obtain ⟨pv1, pv2, pv3, rfl, h9, h10, h11⟩ := cIRule_R (x := (rd_IRule l0_1 x5_1)) h8
    refine Opl.lda (.agg [pv1, pv2, pv3]) rfl T247 rfl rfl rfl rfl (Opl.one (v := .ptr i4 0) rfl rfl (by simp only [go_sem]; rfl) (Opl.ldb (v := v0_0) h7 rfl T88 rfl rfl rfl rfl (Opl.len (xs := l0_0) (by exact hv0_0) K88 rfl rfl rfl rfl ?_)))
    obtain ⟨t1309, h_t1309, H⟩ := Option.bind_eq_some_iff.1 H
    refine Opl.callc (spec_l2Rule.ev h9 h10 h11 h_t1309) rfl rfl rfl rfl ⟨(.aggL ⟨h9.plain, h10.plain, h11.plain, trivial⟩), (.lit _), trivial⟩ (by decide) (Opl.one rfl rfl (by simp only [go_sem]; rfl) (Opl.nil ?_))
    by_cases c7 : t1309 = true
    case neg =>
     rw [if_neg c7] at H
     have e7 : (!t1309) = true := by simpa using c7
     try rw [e7]
     refine Evr.condT rfl (Evr.seq (Evr.regionN rfl (Opl.one rfl rfl (by simp only [go_sem]; rfl) (Opl.nil ?_))))
     obtain rfl := Option.some.inj H
     refine Evr.ret1 Try.func243 rfl ?_
     show (.lit (.bool false) : PV) = _
     first | rfl | (simp only [go_sem]; rfl)
    rw [if_pos c7] at H
    have e6 : (!t1309) = false := by simpa using c7
    try rw [e6]
    refine Evr.condF rfl (Evr.skip (Evr.inBlock (Evr.regionN rfl (Opl.one rfl rfl (by simp only [go_sem]; rfl) (Opl.one rfl rfl (by simp only [go_sem]; rfl) (Opl.one rfl rfl (by simp only [go_sem]; rfl) (Opl.nil ?_)))))))
    exact ih2 _ (by omega) _ _ ⟨by omega, _, _, H, ⟨rfl, rfl, rfl, trivial⟩, h7⟩
 ·
  refine Evr.regionN rfl (Opl.one (v := .ptr i1 0) rfl rfl (by simp only [go_sem]; rfl) (Opl.ldb (v := v0_0) h1 rfl T88 rfl rfl rfl rfl (Opl.len (xs := l0_0) (by exact hv0_0) K88 rfl rfl rfl rfl ?_)))
  obtain ⟨t1303, h_t1303, H⟩ := Option.bind_eq_some_iff.1 H
  refine Opl.callc (spec_l1In.ev h_t1303) rfl rfl rfl rfl ⟨(.lit _), (.lit _), (.lit _), trivial⟩ (by decide) (Opl.one rfl rfl (by simp only [go_sem]; rfl) (Opl.one rfl rfl (by simp only [go_sem]; rfl) ?_))
  by_cases c8 : t1303 = true
  case neg =>
   rw [if_neg c8] at H
   have e10 : (!t1303) = true := by simpa using c8
   try rw [e10]
   refine Opl.skp rfl (Opl.skp rfl (Opl.skp rfl (Opl.skp rfl (Opl.one rfl rfl (by simp only [go_sem]; rfl) (Opl.nil ?_)))))
   exact hk1 _ _ ⟨_, _, _, H, ⟨rfl, (by first | rfl | (show PV.lit (.bool _) = _; congr 2; simp_all)), trivial⟩, h1⟩
  rw [if_pos c8] at H
  have e9 : (!t1303) = false := by simpa using c8
  try rw [e9]
  refine Opl.one (v := .ptr i1 1) rfl rfl (by simp only [go_sem]; rfl) (Opl.ldb (v := v0_1) h1 rfl T89 rfl rfl rfl rfl (Opl.len (xs := l0_1) (by exact hv0_1) K89 rfl rfl rfl rfl (Opl.one rfl rfl (by simp only [go_sem]; rfl) (Opl.one rfl rfl (by simp only [go_sem]; rfl) (Opl.nil ?_)))))
  exact hk1 _ _ ⟨_, _, _, H, ⟨rfl, (by first | rfl | (show PV.lit (.bool _) = _; congr 2; simp_all)), trivial⟩, h1⟩
theorem spec_SizeOf.ev {k : Nat} {l0_0 : List IVar} {v0_0 : PV} (hv0_0 : Sl cIVar l0_0 v0_0) {l0_1 : List IRule} {v0_1 : PV} (hv0_1 : Sl cIRule l0_1 v0_1) {r : Int} (H : spec_SizeOf.f k l0_0 l0_1 = some r) : Ret Try.prog 144 [.agg [v0_0, v0_1]] fun v S => v = .lit (.int .i64 r) := by
 unfold spec_SizeOf.f at H
 refine Ret.intro Try.func144 rfl (Nat.le_of_ble_eq_true rfl) rfl ?_
 rw [tm1]
 refine Evr.seq (Evr.regionN rfl (Opl.box (cs := [v0_0, v0_1]) rfl rfl rfl rfl ?_))
 rintro i1 S h1 u1 w1
 refine Opl.one rfl rfl (by simp only [go_sem]; rfl) (Opl.nil (Evr.seq (Evr.seq (Evr.regionN rfl (Opl.ldb (v := .agg [v0_0, v0_1]) h1 rfl T91 rfl rfl rfl rfl ?_)))))
 obtain ⟨t1311, h_t1311, H⟩ := Option.bind_eq_some_iff.1 H
 refine Opl.callc (spec_SystemValid.ev hv0_0 hv0_1 h_t1311) rfl rfl rfl rfl ⟨(.aggL ⟨hv0_0.plain, hv0_1.plain, trivial⟩), trivial⟩ (by decide) (Opl.one rfl rfl (by simp only [go_sem]; rfl) (Opl.nil ?_))
 by_cases c1 : t1311 = true
 case neg =>
  rw [if_neg c1] at H
  have e4 : (!t1311) = true := by simpa using c1
  try rw [e4]
  refine Evr.condT rfl (Evr.seq (Evr.regionN rfl (Opl.one rfl rfl (by simp only [go_sem]; rfl) (Opl.nil ?_))))
  obtain rfl := Option.some.inj H
  refine Evr.ret1 Try.func144 rfl ?_
  show (.lit (.int .i64 0) : PV) = _
  first | rfl | (simp only [go_sem]; rfl)
 rw [if_pos c1] at H
 have e1 : (!t1311) = false := by simpa using c1
 try rw [e1]
 refine Evr.condF rfl (Evr.skip (Evr.seq (Evr.regionN rfl (Opl.one rfl rfl (by simp only [go_sem]; rfl) (Opl.nil (Evr.seq (Evr.seq (Evr.regionN rfl (Opl.one rfl rfl (by simp only [go_sem]; rfl) (Opl.nil (Evr.block ?_)))))))))))
 refine Evr.loop (Evr.rounds (n := k) (Inv := fun n tm S => n ≤ k ∧ ∃ (x3_1 : Int) (x4_1 : Int) (i2 : Abs.Id), spec_SizeOf.l0 n x3_1 x4_1 l0_0 l0_1 = some r ∧ Has tm [(1, .ptr i2 0), (3, .lit (.int .i64 x3_1)), (4, .lit (.int .i64 x4_1))] ∧ Box (.ptr i2 0) [v0_0, v0_1] S) ?_ ?_ ?_)
 · exact ⟨Nat.le_refl _, _, _, _, H, ⟨rfl, rfl, rfl, trivial⟩, h1⟩
 ·
  rintro tm S ⟨_, _, _, _, H, -⟩
  simp [spec_SizeOf.l0] at H
 ·
  rintro n1 ih1 tm S ⟨hle, x3_1, x4_1, i2, H, hh, h2⟩
  simp only [spec_SizeOf.l0] at H
  rw [hh.eq]
  refine Evr.seq (Evr.seq (Evr.regionN rfl (Opl.one rfl rfl (by simp only [go_sem]; rfl) (Opl.one (v := .ptr i2 0) rfl rfl (by simp only [go_sem]; rfl) (Opl.ldb (v := v0_0) h2 rfl T88 rfl rfl rfl rfl (Opl.len (xs := l0_0) (by exact hv0_0) K88 rfl rfl rfl rfl (Opl.one rfl rfl (by simp only [go_sem]; rfl) (Opl.nil ?_))))))))
  by_cases c2 : x4_1 < (l0_0.length : Int)
  case neg =>
   rw [if_neg c2] at H
   have e3 : (decide (x4_1 < (l0_0.length : Int))) = false := by simpa using c2
   try rw [e3]
   refine Evr.condF rfl (Evr.exit rfl (Evr.seq (Evr.regionN rfl (Opl.one rfl rfl (by simp only [go_sem]; rfl) (Opl.one rfl rfl (by simp only [go_sem]; rfl) (Opl.nil ?_))))))
   obtain rfl := Option.some.inj H
   refine Evr.ret1 Try.func144 rfl ?_
   show (.lit (.int .i64 x3_1) : PV) = _
   first | rfl | (simp only [go_sem]; rfl)
  rw [if_pos c2] at H
  have e2 : (decide (x4_1 < (l0_0.length : Int))) = true := by simpa using c2
  try rw [e2]
  refine Evr.condT rfl (Evr.skip (Evr.seq (Evr.block (Evr.regionD rfl (by kernel_rfl) (Opl.one rfl rfl (by simp only [go_sem]; rfl) (Opl.one (v := .ptr i2 0) rfl rfl (by simp only [go_sem]; rfl) (Opl.ldb (v := v0_0) h2 rfl T88 rfl rfl rfl rfl (Opl.one rfl rfl (by simp only [go_sem]; rfl) ?_))))))))
  obtain ⟨c3, H⟩ := peel H
  refine Opl.idx (M := cIVar) (xs := l0_0) (j := x4_1) zIVar (by exact hv0_0) rfl (by first | omega | (simp only [List.length_set] at *; omega)) (by first | omega | (simp only [List.length_set] at *; omega)) K88 Z243 rfl rfl ?_
  rintro p1 q1 h3
  obtain rfl := cIVar_R (x := (rd_IVar l0_0 x4_1)) h3
  refine Opl.one (v := .fel ((.lit (.int .i64 ((rd_IVar l0_0 x4_1).f1))) :: (.lit (.int .i64 ((rd_IVar l0_0 x4_1).f2))) :: q1)) rfl rfl (by simp only [go_sem]; rfl) (Opl.lda (.lit (.int .i64 ((rd_IVar l0_0 x4_1).f1))) rfl T3 rfl rfl rfl rfl (Opl.one (v := .ptr i2 0) rfl rfl (by simp only [go_sem]; rfl) (Opl.ldb (v := v0_0) h2 rfl T88 rfl rfl rfl rfl (Opl.one rfl rfl (by simp only [go_sem]; rfl) (Opl.idx (M := cIVar) (xs := l0_0) (j := x4_1) zIVar (by exact hv0_0) rfl (by first | omega | (simp only [List.length_set] at *; omega)) (by first | omega | (simp only [List.length_set] at *; omega)) K88 Z243 rfl rfl ?_)))))
  rintro p2 q2 h4
  obtain rfl := cIVar_R (x := (rd_IVar l0_0 x4_1)) h4
  refine Opl.one (v := .fel ((.lit (.int .i64 ((rd_IVar l0_0 x4_1).f0))) :: (.lit (.int .i64 ((rd_IVar l0_0 x4_1).f1))) :: (.lit (.int .i64 ((rd_IVar l0_0 x4_1).f2))) :: q2)) rfl rfl (by simp only [go_sem]; rfl) (Opl.lda (.lit (.int .i64 ((rd_IVar l0_0 x4_1).f0))) rfl T3 rfl rfl rfl rfl (Opl.one rfl rfl (by simp only [go_sem]; rfl) (Opl.one rfl rfl (by simp only [go_sem]; rfl) (Opl.one rfl rfl (by simp only [go_sem]; rfl) (Opl.one rfl rfl (by simp only [go_sem]; rfl) (Opl.nil (Evr.inBlock (Evr.regionN rfl (Opl.one rfl rfl (by simp only [go_sem]; rfl) (Opl.one rfl rfl (by simp only [go_sem]; rfl) (Opl.one rfl rfl (by simp only [go_sem]; rfl) (Opl.nil ?_))))))))))))
  exact ih1 _ (by omega) _ _ ⟨by omega, _, _, _, H, ⟨rfl, rfl, rfl, trivial⟩, h2⟩
theorem spec_l20Facts.ev {k : Nat} {l0_0 : List IVar} {v0_0 : PV} (hv0_0 : Sl cIVar l0_0 v0_0) {l0_1 : List IRule} {v0_1 : PV} (hv0_1 : Sl cIRule l0_1 v0_1) {l1 : List (List ITerm)} {v1 : PV} (hv1 : Sl (cSl cITerm) l1 v1) {r : Bool} (H : spec_l20Facts.f k l0_0 l0_1 l1 = some r) : Ret Try.prog 242 [.agg [v0_0, v0_1], v1] fun v S => v = .lit (.bool r) := by
 unfold spec_l20Facts.f at H
 refine Ret.intro Try.func242 rfl (Nat.le_of_ble_eq_true rfl) rfl ?_
 rw [tm2]
 refine Evr.seq (Evr.regionN rfl (Opl.box (cs := [v0_0, v0_1]) rfl rfl rfl rfl ?_))
 rintro i1 S h1 u1 w1
 refine Opl.one rfl rfl (by simp only [go_sem]; rfl) (Opl.nil (Evr.seq (Evr.seq (Evr.regionN rfl (Opl.one rfl rfl (by simp only [go_sem]; rfl) (Opl.nil (Evr.block ?_)))))))
 refine Evr.loop (Evr.rounds (n := k) (Inv := fun n tm S => n ≤ k ∧ ∃ (x5_1 : Int) (i2 : Abs.Id), spec_l20Facts.l0 n l1 x5_1 l0_0 l0_1 = some r ∧ Has tm [(1, v1), (2, .ptr i2 0), (5, .lit (.int .i64 x5_1))] ∧ Box (.ptr i2 0) [v0_0, v0_1] S) ?_ ?_ ?_)
 · exact ⟨Nat.le_refl _, _, _, H, ⟨rfl, rfl, rfl, trivial⟩, h1⟩
 ·
  rintro tm S ⟨_, _, _, H, -⟩
  simp [spec_l20Facts.l0] at H
 ·
  rintro n1 ih1 tm S ⟨hle, x5_1, i2, H, hh, h2⟩
  simp only [spec_l20Facts.l0] at H
  rw [hh.eq]
  refine Evr.seq (Evr.seq (Evr.regionN rfl (Opl.one rfl rfl (by simp only [go_sem]; rfl) (Opl.one rfl rfl (by simp only [go_sem]; rfl) (Opl.len (xs := l1) (by exact hv1) K93 rfl rfl rfl rfl (Opl.one rfl rfl (by simp only [go_sem]; rfl) (Opl.nil ?_)))))))
  by_cases c1 : x5_1 < (l1.length : Int)
  case neg =>
   rw [if_neg c1] at H
   have e4 : (decide (x5_1 < (l1.length : Int))) = false := by simpa using c1
   try rw [e4]
   refine Evr.condF rfl (Evr.exit rfl (Evr.seq (Evr.regionN rfl (Opl.ldb (v := .agg [v0_0, v0_1]) h2 rfl T91 rfl rfl rfl rfl ?_))))
   obtain ⟨t1317, h_t1317, H⟩ := Option.bind_eq_some_iff.1 H
   refine Opl.callc (spec_SystemValid.ev hv0_0 hv0_1 h_t1317) rfl rfl rfl rfl ⟨(.aggL ⟨hv0_0.plain, hv0_1.plain, trivial⟩), trivial⟩ (by decide) (Opl.one rfl rfl (by simp only [go_sem]; rfl) ?_)
   by_cases c4 : t1317 = true
   case neg =>
    rw [if_neg c4] at H
    obtain rfl : t1317 = false := by simpa using c4
    refine Opl.skp rfl (Opl.skp rfl (Opl.skp rfl (Opl.one rfl rfl (by simp only [go_sem]; rfl) (Opl.one rfl rfl (by simp only [go_sem]; rfl) (Opl.nil ?_)))))
    obtain rfl := Option.some.inj H
    refine Evr.ret1 Try.func242 rfl ?_
    show (.lit (.bool false) : PV) = _
    first | rfl | (simp only [go_sem]; rfl)
   rw [if_pos c4] at H
   obtain rfl : t1317 = true := by simpa using c4
   refine Opl.one rfl rfl (by simp only [go_sem]; rfl) (Opl.len (xs := l1) (by exact hv1) K93 rfl rfl rfl rfl (Opl.one rfl rfl (by simp only [go_sem]; rfl) (Opl.one rfl rfl (by simp only [go_sem]; rfl) (Opl.one rfl rfl (by simp only [go_sem]; rfl) (Opl.nil ?_)))))
   obtain rfl := Option.some.inj H
   refine Evr.ret1 Try.func242 rfl ?_
   show (.lit (.bool (decide ((l1.length : Int) ≤ 4))) : PV) = _
   first | rfl | (simp only [go_sem]; rfl)
  rw [if_pos c1] at H
  have e1 : (decide (x5_1 < (l1.length : Int))) = true := by simpa using c1
  try rw [e1]
  refine Evr.condT rfl (Evr.skip (Evr.seq (Evr.block (Evr.seq (Evr.regionD rfl (by kernel_rfl) (Opl.one rfl rfl (by simp only [go_sem]; rfl) (Opl.one rfl rfl (by simp only [go_sem]; rfl) ?_)))))))
  obtain ⟨c2, H⟩ := peel H
  refine Opl.idx (M := (cSl cITerm)) (xs := l1) (j := x5_1) ([] : List ITerm) (by exact hv1) rfl (by first | omega | (simp only [List.length_set] at *; omega)) (by first | omega | (simp only [List.length_set] at *; omega)) K93 Z176 rfl rfl ?_
  rintro p1 q1 h3
  obtain ⟨pv1, rfl, h4⟩ := h3
  refine Opl.lda (pv1) rfl T176 rfl rfl rfl rfl (Opl.one (v := .ptr i2 0) rfl rfl (by simp only [go_sem]; rfl) (Opl.ldb (v := v0_0) h2 rfl T88 rfl rfl rfl rfl (Opl.len (xs := l0_0) (by exact hv0_0) K88 rfl rfl rfl rfl ?_)))
  obtain ⟨t1316, h_t1316, H⟩ := Option.bind_eq_some_iff.1 H
  refine Opl.callc (spec_l2Is.ev h4 h_t1316) rfl rfl rfl rfl ⟨h4.plain, (.lit _), (.lit _), trivial⟩ (by decide) (Opl.one rfl rfl (by simp only [go_sem]; rfl) (Opl.nil ?_))
  by_cases c3 : t1316 = true
  case neg =>
   rw [if_neg c3] at H
   have e3 : (!t1316) = true := by simpa using c3
   try rw [e3]
   refine Evr.condT rfl (Evr.seq (Evr.regionN rfl (Opl.one rfl rfl (by simp only [go_sem]; rfl) (Opl.nil ?_))))
   obtain rfl := Option.some.inj H
   refine Evr.ret1 Try.func242 rfl ?_
   show (.lit (.bool false) : PV) = _
   first | rfl | (simp only [go_sem]; rfl)
  rw [if_pos c3] at H
  have e2 : (!t1316) = false := by simpa using c3
  try rw [e2]
  refine Evr.condF rfl (Evr.skip (Evr.inBlock (Evr.regionN rfl (Opl.one rfl rfl (by simp only [go_sem]; rfl) (Opl.one rfl rfl (by simp only [go_sem]; rfl) (Opl.one rfl rfl (by simp only [go_sem]; rfl) (Opl.nil ?_)))))))
  exact ih1 _ (by omega) _ _ ⟨by omega, _, _, H, ⟨rfl, rfl, rfl, trivial⟩, h2⟩
theorem spec_l22Asked.ev {k : Nat} {l0_0 : List IVar} {v0_0 : PV} (hv0_0 : Sl cIVar l0_0 v0_0) {l0_1 : List IRule} {v0_1 : PV} (hv0_1 : Sl cIRule l0_1 v0_1) {l1 : List (List ITerm)} {v1 : PV} (hv1 : Sl (cSl cITerm) l1 v1) {l2 : List ITime} {v2 : PV} (hv2 : Sl cITime l2 v2) {r : Bool} (H : spec_l22Asked.f k l0_0 l0_1 l1 l2 = some r) : Ret Try.prog 143 [.agg [v0_0, v0_1], v1, v2] fun v S => v = .lit (.bool r) := by
 unfold spec_l22Asked.f at H
 refine Ret.intro Try.func143 rfl (Nat.le_of_ble_eq_true rfl) rfl ?_
 rw [tm3]
 refine Evr.seq (Evr.regionN rfl (Opl.box (cs := [v0_0, v0_1]) rfl rfl rfl rfl ?_))
 rintro i1 S h1 u1 w1
 refine Opl.one rfl rfl (by simp only [go_sem]; rfl) (Opl.nil (Evr.seq (Evr.regionN rfl (Opl.ldb (v := .agg [v0_0, v0_1]) h1 rfl T91 rfl rfl rfl rfl (Opl.one rfl rfl (by simp only [go_sem]; rfl) ?_)))))
 obtain ⟨t1319, h_t1319, H⟩ := Option.bind_eq_some_iff.1 H
 refine Opl.callc (spec_l20Facts.ev hv0_0 hv0_1 hv1 h_t1319) rfl rfl rfl rfl ⟨(.aggL ⟨hv0_0.plain, hv0_1.plain, trivial⟩), hv1.plain, trivial⟩ (by decide) (Opl.one rfl rfl (by simp only [go_sem]; rfl) ?_)
 by_cases c1 : t1319 = true
 case neg =>
  rw [if_neg c1] at H
  obtain rfl : t1319 = false := by simpa using c1
  refine Opl.skp rfl (Opl.skp rfl (Opl.skp rfl (Opl.one rfl rfl (by simp only [go_sem]; rfl) (Opl.one rfl rfl (by simp only [go_sem]; rfl) (Opl.skp rfl (Opl.skp rfl (Opl.skp rfl (Opl.skp rfl (Opl.one rfl rfl (by simp only [go_sem]; rfl) (Opl.one rfl rfl (by simp only [go_sem]; rfl) (Opl.nil ?_)))))))))))
  obtain rfl := Option.some.inj H
  refine Evr.ret1 Try.func143 rfl ?_
  show (.lit (.bool false) : PV) = _
  first | rfl | (simp only [go_sem]; rfl)
 rw [if_pos c1] at H
 obtain rfl : t1319 = true := by simpa using c1
 refine Opl.ldb (v := .agg [v0_0, v0_1]) h1 rfl T91 rfl rfl rfl rfl ?_
 obtain ⟨t1320, h_t1320, H⟩ := Option.bind_eq_some_iff.1 H
 refine Opl.callc (spec_SizeOf.ev hv0_0 hv0_1 h_t1320) rfl rfl rfl rfl ⟨(.aggL ⟨hv0_0.plain, hv0_1.plain, trivial⟩), trivial⟩ (by decide) (Opl.one rfl rfl (by simp only [go_sem]; rfl) (Opl.one rfl rfl (by simp only [go_sem]; rfl) (Opl.one rfl rfl (by simp only [go_sem]; rfl) ?_)))
 by_cases c2 : t1320 ≤ 50
 case neg =>
  rw [if_neg c2] at H
  have e2 : (decide (t1320 ≤ 50)) = false := by simpa using c2
  try rw [e2]
  refine Opl.skp rfl (Opl.skp rfl (Opl.skp rfl (Opl.skp rfl (Opl.one rfl rfl (by simp only [go_sem]; rfl) (Opl.one rfl rfl (by simp only [go_sem]; rfl) (Opl.nil ?_))))))
  obtain rfl := Option.some.inj H
  refine Evr.ret1 Try.func143 rfl ?_
  show (.lit (.bool false) : PV) = _
  first | rfl | (simp only [go_sem]; rfl)
 rw [if_pos c2] at H
 have e1 : (decide (t1320 ≤ 50)) = true := by simpa using c2
 try rw [e1]
 refine Opl.one rfl rfl (by simp only [go_sem]; rfl) (Opl.one rfl rfl (by simp only [go_sem]; rfl) (Opl.len (xs := l1) (by exact hv1) K93 rfl rfl rfl rfl ?_))
 obtain ⟨t1321, h_t1321, H⟩ := Option.bind_eq_some_iff.1 H
 refine Opl.callc (spec_l21Asked.ev hv2 h_t1321) rfl rfl rfl rfl ⟨hv2.plain, (.lit _), trivial⟩ (by decide) (Opl.one rfl rfl (by simp only [go_sem]; rfl) (Opl.one rfl rfl (by simp only [go_sem]; rfl) (Opl.nil ?_)))
 obtain rfl := Option.some.inj H
 refine Evr.ret1 Try.func143 rfl ?_
 show (.lit (.bool t1321) : PV) = _
 first | rfl | (simp only [go_sem]; rfl)
theorem spec_ProductSize.ev {k : Nat} {l0_0 : List IVar} {v0_0 : PV} (hv0_0 : Sl cIVar l0_0 v0_0) {l0_1 : List IRule} {v0_1 : PV} (hv0_1 : Sl cIRule l0_1 v0_1) {l1 : List (List ITerm)} {v1 : PV} (hv1 : Sl (cSl cITerm) l1 v1) {l2 : List ITime} {v2 : PV} (hv2 : Sl cITime l2 v2) {r : Int} (H : spec_ProductSize.f k l0_0 l0_1 l1 l2 = some r) : Ret Try.prog 56 [.agg [v0_0, v0_1], v1, v2] fun v S => v = .lit (.int .i64 r) := by
 unfold spec_ProductSize.f at H
 refine Ret.intro Try.func56 rfl (Nat.le_of_ble_eq_true rfl) rfl ?_
 rw [tm3]
 refine Evr.seq (Evr.regionN rfl (Opl.box (cs := [v0_0, v0_1]) rfl rfl rfl rfl ?_))
 rintro i1 S h1 u1 w1
 refine Opl.one rfl rfl (by simp only [go_sem]; rfl) (Opl.nil (Evr.seq (Evr.seq (Evr.regionN rfl (Opl.ldb (v := .agg [v0_0, v0_1]) h1 rfl T91 rfl rfl rfl rfl (Opl.one rfl rfl (by simp only [go_sem]; rfl) (Opl.one rfl rfl (by simp only [go_sem]; rfl) ?_)))))))
 obtain ⟨t1327, h_t1327, H⟩ := Option.bind_eq_some_iff.1 H
 refine Opl.callc (spec_l22Asked.ev hv0_0 hv0_1 hv1 hv2 h_t1327) rfl rfl rfl rfl ⟨(.aggL ⟨hv0_0.plain, hv0_1.plain, trivial⟩), hv1.plain, hv2.plain, trivial⟩ (by decide) (Opl.one rfl rfl (by simp only [go_sem]; rfl) (Opl.nil ?_))
 by_cases c1 : t1327 = true
 case neg =>
  rw [if_neg c1] at H
  have e2 : (!t1327) = true := by simpa using c1
  try rw [e2]
  refine Evr.condT rfl (Evr.seq (Evr.regionN rfl (Opl.one rfl rfl (by simp only [go_sem]; rfl) (Opl.nil ?_))))
  obtain rfl := Option.some.inj H
  refine Evr.ret1 Try.func56 rfl ?_
  show (.lit (.int .i64 0) : PV) = _
  first | rfl | (simp only [go_sem]; rfl)
 rw [if_pos c1] at H
 have e1 : (!t1327) = false := by simpa using c1
 try rw [e1]
 refine Evr.condF rfl (Evr.skip (Evr.seq (Evr.regionN rfl (Opl.ldb (v := .agg [v0_0, v0_1]) h1 rfl T91 rfl rfl rfl rfl ?_))))
 obtain ⟨t1328, h_t1328, H⟩ := Option.bind_eq_some_iff.1 H
 refine Opl.callc (spec_SizeOf.ev hv0_0 hv0_1 h_t1328) rfl rfl rfl rfl ⟨(.aggL ⟨hv0_0.plain, hv0_1.plain, trivial⟩), trivial⟩ (by decide) (Opl.one rfl rfl (by simp only [go_sem]; rfl) (Opl.one rfl rfl (by simp only [go_sem]; rfl) (Opl.len (xs := l1) (by exact hv1) K93 rfl rfl rfl rfl ?_)))
 obtain ⟨t1329, h_t1329, H⟩ := Option.bind_eq_some_iff.1 H
 refine Opl.callc (spec_GuessCount.ev hv2 h_t1329) rfl rfl rfl rfl ⟨hv2.plain, (.lit _), trivial⟩ (by decide) (Opl.one rfl rfl (by simp only [go_sem]; rfl) (Opl.one rfl rfl (by simp only [go_sem]; rfl) (Opl.nil ?_)))
 obtain rfl := Option.some.inj H
 refine Evr.ret1 Try.func56 rfl ?_
 show (.lit (.int .i64 (wrap64 (t1328 * t1329))) : PV) = _
 first | rfl | (simp only [go_sem]; rfl)
end Go.Proofs.Ytjgfpgoaabppbaa.PA
