/- Walks of Go functions: each is shown to answer as the Lean function beside it tells, under the conditions that its theorem names. -/
import Derived.Test.YtpjmiaooogephaaProg
import Derived.KernelRfl
import Derived.Below
import Derived.Deep.Draws
import Derived.Deep.AppendLies
import Derived.Maps.AppendAt
import Derived.OwnWalk
import Derived.Laws.BytesArg
import Derived.Laws.MakeOwn
import Derived.Laws.OwnMore
import Derived.Deep.OwnRows
import Derived.Tactics
import Derived.Lib.ConvBytes
import Derived.Laws.Slices
import Derived.WalkKit
import Derived.RowKit3
import Derived.Deep.LoopGhost
import Derived.Deep.QuietTactic
import Derived.BigQuiet
import Derived.WideLaws
import Derived.Deep.DeepCutAuto
import Derived.Deep.CutBlock
import Derived.Deep.RegionHeld3
import Derived.Laws.Rows
import Derived.Lib.AppendStr
import Derived.ArgAppend
import Derived.Laws.IdiomCopy
import Derived.OrdersHeld
import Derived.Laws.BitsLemmas
import Derived.RowKit
import Derived.Laws.StructEq
import Derived.Lib.SliceRun
import Derived.WalkSpells
import Derived.ChangeArms
import Derived.ChangeSlices
import Derived.Deep.Slices
import Derived.Attr
import Derived.Laws.Append
import Derived.Laws.AppendOwn
import Derived.Laws.Entries
import Derived.Calls
import Derived.Laws.Sem
import Derived.Test.YtpjmiaooogephaaKP0e4fd4ff19
namespace Go.Proofs.Ytpjmiaooogephaa.PA
open Go Go.Abs Go.RowKit Go.Proofs Go.Proofs.YtpjmiaooogephaaW.PrintWords Go.Proofs.YtpjmiaooogephaaW.PrintLast Go.Proofs.YtpjmiaooogephaaW.PrintMore
set_option maxRecDepth 100000
set_option maxHeartbeats 4000000
set_option linter.unusedVariables false
set_option linter.unusedSimpArgs false
theorem laws_FnEvalRange.ev {k : Nat} {l0 : List Int} {v0 : PV} (hv0 : Sl (cInt .u8) l0 v0) {r : Bool} (H : laws_FnEvalRange.f k l0 = some r) : Ret Try.prog 8 [v0] fun v S => v = .lit (.bool r) := by
 unfold laws_FnEvalRange.f at H
 refine Ret.intro Try.func8 rfl (Nat.le_of_ble_eq_true rfl) rfl ?_
 rw [tm1]
 refine Evr.sr rfl (Opl.p1 (n := Opl.nil (Evr.seq (Evr.sr rfl (Opl.p1 (n := Opl.len (xs := l0) (by exact hv0) K22 rfl rfl rfl rfl (Opl.p1 (n := Opl.nil ?_))))))))
 by_cases c1 : (l0.length : Int) > 1048576
 case pos =>
  rw [if_pos c1] at H
  have e1 : (decide ((l0.length : Int) > 1048576)) = true := by simpa using c1
  try rw [e1]
  refine Evr.condT rfl (Evr.sr rfl (Opl.p1 (n := Opl.nil ?_)))
  obtain rfl := Option.some.inj H
  refine Evr.ret1 Try.func8 rfl ?_
  show (.lit (.bool true) : PV) = _
  first | rfl | (simp only [go_sem]; rfl)
 rw [if_neg c1] at H
 have e2 : (decide ((l0.length : Int) > 1048576)) = false := by simpa using c1
 try rw [e2]
 refine Evr.condF rfl (Evr.skip (Evr.sr rfl (Opl.p1 (n := ?_))))
 obtain ⟨r1, h_r1, H⟩ := Option.bind_eq_some_iff.1 H
 refine Opl.call (spec_DrawRangeOf.ev hv0 h_r1) rfl rfl rfl rfl ⟨hv0.plain, trivial⟩ (by decide) ?_
 rintro _ ⟨pv2, pv3, pv4, rfl, h2, h3, h4⟩
 refine Opl.p1 (n := Opl.p1 (v := pv2) (n := Opl.p1 (v := pv3) (n := Opl.p1 (v := pv4) (n := Opl.p1 (n := Opl.p1 (n := Opl.p1 (n := Opl.nil (Evr.sr rfl (Opl.p1 (n := Opl.p1 (n := Opl.p1 (n := ?_))))))))))))
 obtain ⟨r2, h_r2, H⟩ := Option.bind_eq_some_iff.1 H
 refine Opl.call (impl_RangeOf.ev h2 h3 h4 h_r2) rfl rfl rfl rfl ⟨h2.plain, h3.plain, h4.plain, trivial⟩ (by decide) ?_
 rintro _ ⟨_, _, _, rfl, rfl, rfl, rfl⟩
 refine Opl.p1 (n := Opl.p1 (v := .lit (.int .i64 r2.1)) (n := Opl.p1 (v := .lit (.int .i64 r2.2.1)) (n := Opl.p1 (v := .lit (.bool r2.2.2)) (n := Opl.p1 (n := Opl.p1 (n := Opl.p1 (n := Opl.nil (Evr.sr rfl (Opl.p1 (n := Opl.p1 (n := Opl.p1 (n := ?_))))))))))))
 obtain ⟨r3, h_r3, H⟩ := Option.bind_eq_some_iff.1 H
 refine Opl.call (spec_RangeOf.ev h2 h3 h4 h_r3) rfl rfl rfl rfl ⟨h2.plain, h3.plain, h4.plain, trivial⟩ (by decide) ?_
 rintro _ ⟨_, _, _, rfl, rfl, rfl, rfl⟩
 refine Opl.p1 (n := Opl.p1 (v := .lit (.int .i64 r3.1)) (n := Opl.p1 (v := .lit (.int .i64 r3.2.1)) (n := Opl.p1 (v := .lit (.bool r3.2.2)) (n := Opl.p1 (n := Opl.p1 (n := Opl.p1 (n := Opl.nil (Evr.seq (Evr.sr rfl (Opl.p1 (n := Opl.p1 (n := Opl.p1 (n := Opl.p1 (n := ?_))))))))))))))
 by_cases c2 : r2.1 ≠ r3.1
 case pos =>
  rw [if_pos c2] at H
  have e3 : (r2.1 != r3.1) = true := by simpa using c2
  try rw [e3]
  refine Opl.skp rfl (Opl.skp rfl (Opl.skp rfl (Opl.p1 (n := Opl.p1 (n := Opl.skp rfl (Opl.skp rfl (Opl.skp rfl (Opl.p1 (n := Opl.p1 (n := Opl.skp rfl (Opl.skp rfl (Opl.p1 (n := Opl.nil (Evr.condT rfl (Evr.seq ?_)))))))))))))))
  refine Evr.join (fun tm S => ∃ (kq1 : Nat) (x2q6_1 : Bool), laws_FnEvalRange.j1 kq1 x2q6_1 = some r ∧ Has tm [(2, .lit (.bool x2q6_1))]) ?_ fun hk1 => ?_
  ·
   rintro tm S ⟨kq1, x2q6_1, H, hh⟩
   rw [hh.eq]
   obtain _ | k1 := kq1
   · simp [laws_FnEvalRange.j1] at H
   simp only [laws_FnEvalRange.j1] at H
   obtain rfl := Option.some.inj H
   refine Evr.ret1 Try.func8 rfl ?_
   show (.lit (.bool x2q6_1) : PV) = _
   first | rfl | (simp only [go_sem]; rfl)
  ·
   refine Evr.regionN rfl (Opl.p1 (n := Opl.p1 (n := Opl.p1 (n := Opl.p1 (n := ?_)))))
   by_cases c3 : r2.1 = r3.1
   case neg =>
    rw [if_neg c3] at H
    have e9 : (r2.1 == r3.1) = false := by simpa using c3
    try rw [e9]
    refine Opl.skp rfl (Opl.skp rfl (Opl.skp rfl (Opl.p1 (n := Opl.p1 (n := Opl.skp rfl (Opl.skp rfl (Opl.skp rfl (Opl.p1 (n := Opl.p1 (n := Opl.skp rfl (Opl.skp rfl (Opl.p1 (n := Opl.p1 (n := Opl.nil ?_))))))))))))))
    exact hk1 _ _ ⟨_, _, H, ⟨(by first | rfl | (show PV.lit (.bool _) = _; congr 2; simp_all)), trivial⟩⟩
   rw [if_pos c3] at H
   have e4 : (r2.1 == r3.1) = true := by simpa using c3
   try rw [e4]
   refine Opl.p1 (n := Opl.p1 (n := Opl.p1 (n := Opl.p1 (n := Opl.p1 (n := ?_)))))
   by_cases c4 : r2.2.1 = r3.2.1
   case neg =>
    rw [if_neg c4] at H
    have e8 : (r2.2.1 == r3.2.1) = false := by simpa using c4
    try rw [e8]
    refine Opl.skp rfl (Opl.skp rfl (Opl.skp rfl (Opl.p1 (n := Opl.p1 (n := Opl.skp rfl (Opl.skp rfl (Opl.p1 (n := Opl.p1 (n := Opl.nil ?_)))))))))
    exact hk1 _ _ ⟨_, _, H, ⟨(by first | rfl | (show PV.lit (.bool _) = _; congr 2; simp_all)), trivial⟩⟩
   rw [if_pos c4] at H
   have e5 : (r2.2.1 == r3.2.1) = true := by simpa using c4
   try rw [e5]
   refine Opl.p1 (n := Opl.p1 (n := Opl.p1 (n := Opl.p1 (n := Opl.p1 (n := ?_)))))
   by_cases c5 : r2.2.2 = r3.2.2
   case pos =>
    rw [if_pos c5] at H
    have e6 : (r2.2.2 == r3.2.2) = true := by simpa using c5
    try rw [e6]
    refine Opl.p1 (n := Opl.p1 (n := Opl.p1 (n := Opl.p1 (n := Opl.nil ?_))))
    exact hk1 _ _ ⟨_, _, H, ⟨(by first | rfl | (show PV.lit (.bool _) = _; congr 2; simp_all)), trivial⟩⟩
   rw [if_neg c5] at H
   have e7 : (r2.2.2 == r3.2.2) = false := by simpa using c5
   try rw [e7]
   refine Opl.skp rfl (Opl.skp rfl (Opl.p1 (n := Opl.p1 (n := Opl.nil ?_))))
   exact hk1 _ _ ⟨_, _, H, ⟨(by first | rfl | (show PV.lit (.bool _) = _; congr 2; simp_all)), trivial⟩⟩
 rw [if_neg c2] at H
 have e10 : (r2.1 != r3.1) = false := by simpa using c2
 try rw [e10]
 refine Opl.p1 (n := Opl.p1 (n := Opl.p1 (n := Opl.p1 (n := Opl.p1 (n := ?_)))))
 by_cases c6 : r2.2.1 ≠ r3.2.1
 case pos =>
  rw [if_pos c6] at H
  have e11 : (r2.2.1 != r3.2.1) = true := by simpa using c6
  try rw [e11]
  refine Opl.skp rfl (Opl.skp rfl (Opl.skp rfl (Opl.p1 (n := Opl.p1 (n := Opl.skp rfl (Opl.skp rfl (Opl.p1 (n := Opl.nil (Evr.condT rfl (Evr.seq ?_))))))))))
  refine Evr.join (fun tm S => ∃ (kq2 : Nat) (x2q7_1 : Bool), laws_FnEvalRange.j2 kq2 x2q7_1 = some r ∧ Has tm [(2, .lit (.bool x2q7_1))]) ?_ fun hk2 => ?_
  ·
   rintro tm S ⟨kq2, x2q7_1, H, hh⟩
   rw [hh.eq]
   obtain _ | k2 := kq2
   · simp [laws_FnEvalRange.j2] at H
   simp only [laws_FnEvalRange.j2] at H
   obtain rfl := Option.some.inj H
   refine Evr.ret1 Try.func8 rfl ?_
   show (.lit (.bool x2q7_1) : PV) = _
   first | rfl | (simp only [go_sem]; rfl)
  ·
   refine Evr.regionN rfl (Opl.p1 (n := Opl.p1 (n := Opl.p1 (n := Opl.p1 (n := ?_)))))
   by_cases c7 : r2.1 = r3.1
   case neg =>
    rw [if_neg c7] at H
    have e17 : (r2.1 == r3.1) = false := by simpa using c7
    try rw [e17]
    refine Opl.skp rfl (Opl.skp rfl (Opl.skp rfl (Opl.p1 (n := Opl.p1 (n := Opl.skp rfl (Opl.skp rfl (Opl.skp rfl (Opl.p1 (n := Opl.p1 (n := Opl.skp rfl (Opl.skp rfl (Opl.p1 (n := Opl.p1 (n := Opl.nil ?_))))))))))))))
    exact hk2 _ _ ⟨_, _, H, ⟨(by first | rfl | (show PV.lit (.bool _) = _; congr 2; simp_all)), trivial⟩⟩
   rw [if_pos c7] at H
   have e12 : (r2.1 == r3.1) = true := by simpa using c7
   try rw [e12]
   refine Opl.p1 (n := Opl.p1 (n := Opl.p1 (n := Opl.p1 (n := Opl.p1 (n := ?_)))))
   by_cases c8 : r2.2.1 = r3.2.1
   case neg =>
    rw [if_neg c8] at H
    have e16 : (r2.2.1 == r3.2.1) = false := by simpa using c8
    try rw [e16]
    refine Opl.skp rfl (Opl.skp rfl (Opl.skp rfl (Opl.p1 (n := Opl.p1 (n := Opl.skp rfl (Opl.skp rfl (Opl.p1 (n := Opl.p1 (n := Opl.nil ?_)))))))))
    exact hk2 _ _ ⟨_, _, H, ⟨(by first | rfl | (show PV.lit (.bool _) = _; congr 2; simp_all)), trivial⟩⟩
   rw [if_pos c8] at H
   have e13 : (r2.2.1 == r3.2.1) = true := by simpa using c8
   try rw [e13]
   refine Opl.p1 (n := Opl.p1 (n := Opl.p1 (n := Opl.p1 (n := Opl.p1 (n := ?_)))))
   by_cases c9 : r2.2.2 = r3.2.2
   case pos =>
    rw [if_pos c9] at H
    have e14 : (r2.2.2 == r3.2.2) = true := by simpa using c9
    try rw [e14]
    refine Opl.p1 (n := Opl.p1 (n := Opl.p1 (n := Opl.p1 (n := Opl.nil ?_))))
    exact hk2 _ _ ⟨_, _, H, ⟨(by first | rfl | (show PV.lit (.bool _) = _; congr 2; simp_all)), trivial⟩⟩
   rw [if_neg c9] at H
   have e15 : (r2.2.2 == r3.2.2) = false := by simpa using c9
   try rw [e15]
   refine Opl.skp rfl (Opl.skp rfl (Opl.p1 (n := Opl.p1 (n := Opl.nil ?_))))
   exact hk2 _ _ ⟨_, _, H, ⟨(by first | rfl | (show PV.lit (.bool _) = _; congr 2; simp_all)), trivial⟩⟩
 rw [if_neg c6] at H
 have e18 : (r2.2.1 != r3.2.1) = false := by simpa using c6
 try rw [e18]
 refine Opl.p1 (n := Opl.p1 (n := Opl.p1 (n := Opl.p1 (n := Opl.p1 (n := ?_)))))
 by_cases c10 : r2.2.2 ≠ r3.2.2
 case pos =>
  rw [if_pos c10] at H
  have e19 : (r2.2.2 != r3.2.2) = true := by simpa using c10
  try rw [e19]
  refine Opl.skp rfl (Opl.skp rfl (Opl.p1 (n := Opl.nil (Evr.condT rfl (Evr.seq ?_)))))
  refine Evr.join (fun tm S => ∃ (kq3 : Nat) (x2q8_1 : Bool), laws_FnEvalRange.j3 kq3 x2q8_1 = some r ∧ Has tm [(2, .lit (.bool x2q8_1))]) ?_ fun hk3 => ?_
  ·
   rintro tm S ⟨kq3, x2q8_1, H, hh⟩
   rw [hh.eq]
   obtain _ | k3 := kq3
   · simp [laws_FnEvalRange.j3] at H
   simp only [laws_FnEvalRange.j3] at H
   obtain rfl := Option.some.inj H
   refine Evr.ret1 Try.func8 rfl ?_
   show (.lit (.bool x2q8_1) : PV) = _
   first | rfl | (simp only [go_sem]; rfl)
  ·
   refine Evr.regionN rfl (Opl.p1 (n := Opl.p1 (n := Opl.p1 (n := Opl.p1 (n := ?_)))))
   by_cases c11 : r2.1 = r3.1
   case neg =>
    rw [if_neg c11] at H
    have e25 : (r2.1 == r3.1) = false := by simpa using c11
    try rw [e25]
    refine Opl.skp rfl (Opl.skp rfl (Opl.skp rfl (Opl.p1 (n := Opl.p1 (n := Opl.skp rfl (Opl.skp rfl (Opl.skp rfl (Opl.p1 (n := Opl.p1 (n := Opl.skp rfl (Opl.skp rfl (Opl.p1 (n := Opl.p1 (n := Opl.nil ?_))))))))))))))
    exact hk3 _ _ ⟨_, _, H, ⟨(by first | rfl | (show PV.lit (.bool _) = _; congr 2; simp_all)), trivial⟩⟩
   rw [if_pos c11] at H
   have e20 : (r2.1 == r3.1) = true := by simpa using c11
   try rw [e20]
   refine Opl.p1 (n := Opl.p1 (n := Opl.p1 (n := Opl.p1 (n := Opl.p1 (n := ?_)))))
   by_cases c12 : r2.2.1 = r3.2.1
   case neg =>
    rw [if_neg c12] at H
    have e24 : (r2.2.1 == r3.2.1) = false := by simpa using c12
    try rw [e24]
    refine Opl.skp rfl (Opl.skp rfl (Opl.skp rfl (Opl.p1 (n := Opl.p1 (n := Opl.skp rfl (Opl.skp rfl (Opl.p1 (n := Opl.p1 (n := Opl.nil ?_)))))))))
    exact hk3 _ _ ⟨_, _, H, ⟨(by first | rfl | (show PV.lit (.bool _) = _; congr 2; simp_all)), trivial⟩⟩
   rw [if_pos c12] at H
   have e21 : (r2.2.1 == r3.2.1) = true := by simpa using c12
   try rw [e21]
   refine Opl.p1 (n := Opl.p1 (n := Opl.p1 (n := Opl.p1 (n := Opl.p1 (n := ?_)))))
   by_cases c13 : r2.2.2 = r3.2.2
   case pos =>
    rw [if_pos c13] at H
    have e22 : (r2.2.2 == r3.2.2) = true := by simpa using c13
    try rw [e22]
    refine Opl.p1 (n := Opl.p1 (n := Opl.p1 (n := Opl.p1 (n := Opl.nil ?_))))
    exact hk3 _ _ ⟨_, _, H, ⟨(by first | rfl | (show PV.lit (.bool _) = _; congr 2; simp_all)), trivial⟩⟩
   rw [if_neg c13] at H
   have e23 : (r2.2.2 == r3.2.2) = false := by simpa using c13
   try rw [e23]
   refine Opl.skp rfl (Opl.skp rfl (Opl.p1 (n := Opl.p1 (n := Opl.nil ?_))))
   exact hk3 _ _ ⟨_, _, H, ⟨(by first | rfl | (show PV.lit (.bool _) = _; congr 2; simp_all)), trivial⟩⟩
 rw [if_neg c10] at H
 have e26 : (r2.2.2 != r3.2.2) = false := by simpa using c10
 try rw [e26]
 refine Opl.p1 (n := Opl.p1 (n := Opl.p1 (n := Opl.nil ?_)))
 by_cases c14 : r2.2.2 = true
 case neg =>
  rw [if_neg c14] at H
  have e38 : (!r2.2.2) = true := by simpa using c14
  try rw [e38]
  refine Evr.condT rfl (Evr.seq ?_)
  refine Evr.join (fun tm S => ∃ (kq4 : Nat) (x2q10_1 : Bool), laws_FnEvalRange.j6 kq4 x2q10_1 = some r ∧ Has tm [(2, .lit (.bool x2q10_1))]) ?_ fun hk4 => ?_
  ·
   rintro tm S ⟨kq4, x2q10_1, H, hh⟩
   rw [hh.eq]
   obtain _ | k4 := kq4
   · simp [laws_FnEvalRange.j6] at H
   simp only [laws_FnEvalRange.j6] at H
   obtain rfl := Option.some.inj H
   refine Evr.ret1 Try.func8 rfl ?_
   show (.lit (.bool x2q10_1) : PV) = _
   first | rfl | (simp only [go_sem]; rfl)
  ·
   refine Evr.regionN rfl (Opl.p1 (n := Opl.p1 (n := Opl.p1 (n := Opl.p1 (n := ?_)))))
   by_cases c28 : r2.1 = r3.1
   case neg =>
    rw [if_neg c28] at H
    have e44 : (r2.1 == r3.1) = false := by simpa using c28
    try rw [e44]
    refine Opl.skp rfl (Opl.skp rfl (Opl.skp rfl (Opl.p1 (n := Opl.p1 (n := Opl.skp rfl (Opl.skp rfl (Opl.skp rfl (Opl.p1 (n := Opl.p1 (n := Opl.skp rfl (Opl.skp rfl (Opl.p1 (n := Opl.p1 (n := Opl.nil ?_))))))))))))))
    exact hk4 _ _ ⟨_, _, H, ⟨(by first | rfl | (show PV.lit (.bool _) = _; congr 2; simp_all)), trivial⟩⟩
   rw [if_pos c28] at H
   have e39 : (r2.1 == r3.1) = true := by simpa using c28
   try rw [e39]
   refine Opl.p1 (n := Opl.p1 (n := Opl.p1 (n := Opl.p1 (n := Opl.p1 (n := ?_)))))
   by_cases c29 : r2.2.1 = r3.2.1
   case neg =>
    rw [if_neg c29] at H
    have e43 : (r2.2.1 == r3.2.1) = false := by simpa using c29
    try rw [e43]
    refine Opl.skp rfl (Opl.skp rfl (Opl.skp rfl (Opl.p1 (n := Opl.p1 (n := Opl.skp rfl (Opl.skp rfl (Opl.p1 (n := Opl.p1 (n := Opl.nil ?_)))))))))
    exact hk4 _ _ ⟨_, _, H, ⟨(by first | rfl | (show PV.lit (.bool _) = _; congr 2; simp_all)), trivial⟩⟩
   rw [if_pos c29] at H
   have e40 : (r2.2.1 == r3.2.1) = true := by simpa using c29
   try rw [e40]
   refine Opl.p1 (n := Opl.p1 (n := Opl.p1 (n := Opl.p1 (n := Opl.p1 (n := ?_)))))
   by_cases c30 : r2.2.2 = r3.2.2
   case pos =>
    rw [if_pos c30] at H
    have e41 : (r2.2.2 == r3.2.2) = true := by simpa using c30
    try rw [e41]
    refine Opl.p1 (n := Opl.p1 (n := Opl.p1 (n := Opl.p1 (n := Opl.nil ?_))))
    exact hk4 _ _ ⟨_, _, H, ⟨(by first | rfl | (show PV.lit (.bool _) = _; congr 2; simp_all)), trivial⟩⟩
   rw [if_neg c30] at H
   have e42 : (r2.2.2 == r3.2.2) = false := by simpa using c30
   try rw [e42]
   refine Opl.skp rfl (Opl.skp rfl (Opl.p1 (n := Opl.p1 (n := Opl.nil ?_))))
   exact hk4 _ _ ⟨_, _, H, ⟨(by first | rfl | (show PV.lit (.bool _) = _; congr 2; simp_all)), trivial⟩⟩
 rw [if_pos c14] at H
 have e27 : (!r2.2.2) = false := by simpa using c14
 try rw [e27]
 refine Evr.condF rfl (Evr.skip (Evr.seq (Evr.sr rfl (Opl.p1 (n := Opl.nil (Evr.block ?_))))))
 refine Evr.loop (Evr.rounds (n := k) (Inv := fun n tm S => n ≤ k ∧ ∃ (x76_1 : Int), laws_FnEvalRange.l4 n x76_1 r1 r2 = some r ∧ Has tm [(3, pv2), (4, pv3), (5, pv4), (6, .lit (.int .i64 r2.1)), (7, .lit (.int .i64 r2.2.1)), (76, .lit (.int .i64 x76_1))]) ?_ ?_ ?_)
 · exact ⟨Nat.le_refl _, _, H, ⟨rfl, rfl, rfl, rfl, rfl, rfl, trivial⟩⟩
 ·
  rintro tm S ⟨_, _, H, -⟩
  simp [laws_FnEvalRange.l4] at H
 ·
  rintro n1 ih1 tm S ⟨hle, x76_1, H, hh⟩
  simp only [laws_FnEvalRange.l4] at H
  rw [hh.eq]
  refine Evr.sr rfl (Opl.p1 (n := Opl.nil (Evr.seq ?_)))
  by_cases c15 : x76_1 < 4
  case neg =>
   rw [if_neg c15] at H
   have e37 : (decide (x76_1 < 4)) = false := by simpa using c15
   try rw [e37]
   refine Evr.condF rfl (Evr.exit rfl (Evr.sr rfl (Opl.p1 (n := Opl.nil ?_))))
   obtain rfl := Option.some.inj H
   refine Evr.ret1 Try.func8 rfl ?_
   show (.lit (.bool true) : PV) = _
   first | rfl | (simp only [go_sem]; rfl)
  rw [if_pos c15] at H
  have e28 : (decide (x76_1 < 4)) = true := by simpa using c15
  try rw [e28]
  refine Evr.condT rfl (Evr.skip (Evr.seq (Evr.block (Evr.sr rfl (Opl.p1 (n := Opl.p1 (n := Opl.nil (Evr.sr rfl (Opl.lits (M := (cInt .i64)) (ys := []) [] K27 T3 rfl rfl rfl trivial rfl (by decide) rfl rfl rfl ?_)))))))))
  rintro pv7 S h7 u1 w1
  refine Opl.p1 (n := Opl.nil (Evr.seq (Evr.sr rfl (Opl.p1 (n := Opl.len (xs := r1.2.1) (by exact h3) K27 rfl rfl rfl rfl (Opl.p1 (n := Opl.nil (Evr.block ?_))))))))
  refine Evr.loop (Evr.rounds (n := n1) (Inv := fun n tm S => n ≤ n1 ∧ ∃ (x13q2_1 : List Int) (x82q2_1 : Int) (pv8 : PV), laws_FnEvalRange.l5 n x13q2_1 x82q2_1 r1 r2 x76_1 = some r ∧ Has tm [(3, pv2), (4, pv3), (5, pv4), (6, .lit (.int .i64 r2.1)), (7, .lit (.int .i64 r2.2.1)), (12, .lit (.int .i64 x76_1)), (13, pv8), (76, .lit (.int .i64 x76_1)), (81, .lit (.int .i64 (r1.2.1.length : Int))), (82, .lit (.int .i64 x82q2_1))] ∧ Vec (cInt .i64) x13q2_1 pv8 S) ?_ ?_ ?_)
  · exact ⟨Nat.le_refl _, _, _, _, H, ⟨rfl, rfl, rfl, rfl, rfl, rfl, rfl, rfl, rfl, rfl, trivial⟩, h7⟩
  ·
   rintro tm S ⟨_, _, _, _, H, -⟩
   simp [laws_FnEvalRange.l5] at H
  ·
   rintro n2 ih2 tm S ⟨hle, x13q2_1, x82q2_1, pv8, H, hh, h8⟩
   simp only [laws_FnEvalRange.l5] at H
   rw [hh.eq]
   refine Evr.sr rfl (Opl.p1 (n := Opl.nil (Evr.seq ?_)))
   by_cases c16 : x82q2_1 < (r1.2.1.length : Int)
   case neg =>
    rw [if_neg c16] at H
    have e30 : (decide (x82q2_1 < (r1.2.1.length : Int))) = false := by simpa using c16
    try rw [e30]
    refine Evr.condF rfl (Evr.exit rfl (Evr.seq (Evr.frz 13 h8 rfl ?_)))
    rintro pv12 S h14 u3
    refine Evr.regionN rfl (Opl.p1 (n := Opl.p1 (n := ?_)))
    obtain ⟨r4, h_r4, H⟩ := Option.bind_eq_some_iff.1 H
    refine Opl.call (impl_Eval.ev h2 h14 h_r4) rfl rfl rfl rfl ⟨h2.plain, h14.plain, trivial⟩ (by decide) ?_
    rintro _ ⟨_, _, rfl, rfl, rfl⟩
    refine Opl.p1 (n := Opl.p1 (v := .lit (.int .i64 r4.1)) (n := Opl.p1 (v := .lit (.bool r4.2)) (n := Opl.p1 (n := Opl.p1 (n := Opl.nil (Evr.sr rfl (Opl.p1 (n := Opl.p1 (n := Opl.p1 (n := ?_))))))))))
    by_cases c25 : r4.2 = true
    case neg =>
     rw [if_neg c25] at H
     have e36 : (!r4.2) = true := by simpa using c25
     try rw [e36]
     refine Opl.skp rfl (Opl.skp rfl (Opl.skp rfl (Opl.p1 (n := Opl.p1 (n := Opl.skp rfl (Opl.skp rfl (Opl.skp rfl (Opl.p1 (n := Opl.nil (Evr.condT rfl (Evr.sr rfl (Opl.p1 (n := Opl.nil ?_)))))))))))))
     obtain rfl := Option.some.inj H
     refine Evr.ret1 Try.func8 rfl ?_
     show (.lit (.bool false) : PV) = _
     first | rfl | (simp only [go_sem]; rfl)
    rw [if_pos c25] at H
    have e31 : (!r4.2) = false := by simpa using c25
    try rw [e31]
    refine Opl.p1 (n := Opl.p1 (n := Opl.p1 (n := Opl.p1 (n := Opl.p1 (n := ?_)))))
    by_cases c26 : r4.1 < r2.1
    case pos =>
     rw [if_pos c26] at H
     have e32 : (decide (r4.1 < r2.1)) = true := by simpa using c26
     try rw [e32]
     refine Opl.skp rfl (Opl.skp rfl (Opl.skp rfl (Opl.p1 (n := Opl.nil (Evr.condT rfl (Evr.sr rfl (Opl.p1 (n := Opl.nil ?_))))))))
     obtain rfl := Option.some.inj H
     refine Evr.ret1 Try.func8 rfl ?_
     show (.lit (.bool false) : PV) = _
     first | rfl | (simp only [go_sem]; rfl)
    rw [if_neg c26] at H
    have e33 : (decide (r4.1 < r2.1)) = false := by simpa using c26
    try rw [e33]
    refine Opl.p1 (n := Opl.p1 (n := Opl.p1 (n := Opl.p1 (n := Opl.nil ?_))))
    by_cases c27 : r4.1 > r2.2.1
    case neg =>
     rw [if_neg c27] at H
     have e35 : (decide (r4.1 > r2.2.1)) = false := by simpa using c27
     try rw [e35]
     refine Evr.condF rfl (Evr.skip (Evr.inBlock (Evr.regionN rfl (Opl.p1 (n := Opl.p1 (n := Opl.nil ?_))))))
     exact ih1 _ (by omega) _ _ ⟨by omega, _, H, ⟨rfl, rfl, rfl, rfl, rfl, rfl, trivial⟩⟩
    rw [if_pos c27] at H
    have e34 : (decide (r4.1 > r2.2.1)) = true := by simpa using c27
    try rw [e34]
    refine Evr.condT rfl (Evr.sr rfl (Opl.p1 (n := Opl.nil ?_)))
    obtain rfl := Option.some.inj H
    refine Evr.ret1 Try.func8 rfl ?_
    show (.lit (.bool false) : PV) = _
    first | rfl | (simp only [go_sem]; rfl)
   rw [if_pos c16] at H
   have e29 : (decide (x82q2_1 < (r1.2.1.length : Int))) = true := by simpa using c16
   try rw [e29]
   refine Evr.condT rfl (Evr.skip (Evr.seq (Evr.block (Evr.sr rfl (Opl.p1 (n := Opl.p1 (n := Opl.nil (Evr.regionL [(4, .p), (8, .p), (12, .p), (21, .p)] rfl (by kernel_rfl) (Opl.p1 (n := Opl.p1 (n := Opl.p1 (n := ?_))))))))))))
   obtain ⟨c17, H⟩ := peel H
   obtain ⟨c18, H⟩ := peel H
   obtain ⟨c19, H⟩ := peel H
   obtain ⟨c20, H⟩ := peel H
   obtain ⟨c21, H⟩ := peel H
   obtain ⟨c22, H⟩ := peel H
   obtain ⟨c23, H⟩ := peel H
   obtain ⟨c24, H⟩ := peel H
   refine Opl.idx (M := (cInt .i64)) (xs := r1.2.1) (j := x82q2_1) (0 : Int) (by exact h3) rfl (by omega) (by omega) K27 Z3 rfl rfl ?_
   rintro p1 q1 h9
   obtain rfl : p1 = [.lit (.int .i64 (rd r1.2.1 x82q2_1))] := h9
   refine Opl.ldp (.lit (.int .i64 (rd r1.2.1 x82q2_1))) rfl T3 rfl rfl rfl (Opl.p1 (n := Opl.p1 (n := Opl.idx (M := (cInt .i64)) (xs := r1.2.2) (j := x82q2_1) (0 : Int) (by exact h4) rfl (by omega) (by omega) K27 Z3 rfl rfl ?_)))
   rintro p2 q2 h10
   obtain rfl : p2 = [.lit (.int .i64 (rd r1.2.2 x82q2_1))] := h10
   refine Opl.ldp (.lit (.int .i64 (rd r1.2.2 x82q2_1))) rfl T3 rfl rfl rfl (Opl.p1 (n := Opl.p1 (n := Opl.idx (M := (cInt .i64)) (xs := r1.2.1) (j := x82q2_1) (0 : Int) (by exact h3) rfl (by omega) (by omega) K27 Z3 rfl rfl ?_)))
   rintro p3 q3 h11
   obtain rfl : p3 = [.lit (.int .i64 (rd r1.2.1 x82q2_1))] := h11
   refine Opl.ldp (.lit (.int .i64 (rd r1.2.1 x82q2_1))) rfl T3 rfl rfl rfl (Opl.p1 (n := Opl.p1 (n := Opl.p1 (n := Opl.one (v := .lit (.int .i64 (Int.tmod x82q2_1 2))) rfl rfl (by simp only [go_sem]; rw [if_neg (by first | assumption | decide | omega)]; rfl) (Opl.one (v := .lit (.int .i64 (shr .i64 x76_1 (Int.tmod x82q2_1 2)))) rfl rfl (by simp only [go_sem]; rw [if_neg (by omega), fdiv_pow]; simp only [shr, w64, IntKind.bits]; rfl) (Opl.one (v := .lit (.int .i64 (Int.tmod (shr .i64 x76_1 (Int.tmod x82q2_1 2)) 2))) rfl rfl (by simp only [go_sem]; rw [if_neg (by first | assumption | decide | omega)]; rfl) (Opl.p1 (n := Opl.p1 (n := Opl.liti (M := (cInt .i64)) (ys := [(wrap64 ((rd r1.2.1 x82q2_1) + (wrap64 ((wrap64 ((rd r1.2.2 x82q2_1) - (rd r1.2.1 x82q2_1))) * (Int.tmod (shr .i64 x76_1 (Int.tmod x82q2_1 2)) 2)))))]) [.tmp 105] K27 T3 rfl rfl rfl (by exact ⟨rfl, trivial⟩) rfl (by decide) rfl rfl ?_)))))))))
   rintro pv10 h12
   refine Opl.app (M := (cInt .i64)) (xs := x13q2_1) (ys := [(wrap64 ((rd r1.2.1 x82q2_1) + (wrap64 ((wrap64 ((rd r1.2.2 x82q2_1) - (rd r1.2.1 x82q2_1))) * (Int.tmod (shr .i64 x76_1 (Int.tmod x82q2_1 2)) 2)))))]) (v := pv8) h8 (.sl h12) (oInt .i64) rfl rfl K27 T3 rfl rfl (by (try simp only [List.length_cons, List.length_nil]); omega) (by show (_ + _) * 8 ≤ 140737488355328; (try simp only [List.length_cons, List.length_nil]); omega) rfl rfl rfl rfl rfl ?_
   rintro pv11 S h13 u2 w2
   refine Opl.p1 (n := Opl.nil (Evr.inBlock (Evr.regionN rfl (Opl.p1 (n := Opl.p1 (n := Opl.nil ?_))))))
   exact ih2 _ (by omega) _ _ ⟨by omega, _, _, _, H, ⟨rfl, rfl, rfl, rfl, rfl, rfl, rfl, rfl, rfl, rfl, trivial⟩, h13⟩
end Go.Proofs.Ytpjmiaooogephaa.PA
