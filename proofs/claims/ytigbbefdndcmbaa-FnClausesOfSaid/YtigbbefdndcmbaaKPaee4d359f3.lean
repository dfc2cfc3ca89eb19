/- Walks of Go functions: each is shown to answer as the Lean function beside it tells, under the conditions that its theorem names. -/
import Derived.Test.YtigbbefdndcmbaaProg
import Derived.KernelRfl
import Derived.Below
import Derived.Deep.Draws
import Derived.Deep.AppendLies
import Derived.Maps.AppendAt
import Derived.OwnWalk
import Derived.Laws.BytesArg
import Derived.Laws.MakeOwn
import Derived.Laws.OwnMore
import Derived.Deep.OwnRows
import Derived.Tactics
import Derived.Lib.ConvBytes
import Derived.Laws.Slices
import Derived.WalkKit
import Derived.RowKit3
import Derived.Deep.LoopGhost
import Derived.Deep.QuietTactic
import Derived.BigQuiet
import Derived.WideLaws
import Derived.Deep.DeepCutAuto
import Derived.Deep.CutBlock
import Derived.Deep.RegionHeld3
import Derived.Laws.Rows
import Derived.Lib.AppendStr
import Derived.ArgAppend
import Derived.Laws.IdiomCopy
import Derived.OrdersHeld
import Derived.Laws.BitsLemmas
import Derived.RowKit
import Derived.Laws.StructEq
import Derived.Lib.SliceRun
import Derived.WalkSpells
import Derived.ChangeArms
import Derived.ChangeSlices
import Derived.Deep.Slices
import Derived.Shelf.SlSortCmp.NoneTotal
import Derived.Attr
import Derived.Laws.Append
import Derived.Laws.AppendOwn
import Derived.Laws.Entries
import Derived.Calls
import Derived.Laws.Sem
import Derived.Test.YtigbbefdndcmbaaKP6ad4025cb9
import Derived.Test.YtigbbefdndcmbaaKP48d6e46178
namespace Go.Proofs.Ytigbbefdndcmbaa.PA
open Go Go.Abs Go.RowKit Go.Proofs Go.Proofs.YtigbbefdndcmbaaW.PrintWords Go.Proofs.YtigbbefdndcmbaaW.PrintLast Go.Proofs.YtigbbefdndcmbaaW.PrintMore
set_option maxRecDepth 100000
set_option maxHeartbeats 4000000
set_option linter.unusedVariables false
set_option linter.unusedSimpArgs false
theorem laws_FnClausesOf.ev {k : Nat} {l0 : List Int} {v0 : PV} (hv0 : Sl (cInt .u8) l0 v0) {r : Bool} (H : laws_FnClausesOf.f k l0 = some r) : Ret Try.prog 6 [v0] fun v S => v = .lit (.bool r) := by
 unfold laws_FnClausesOf.f at H
 refine Ret.intro Try.func6 rfl (Nat.le_of_ble_eq_true rfl) rfl ?_
 rw [tm1]
 refine Evr.sr rfl (Opl.p1 (n := Opl.nil (Evr.seq (Evr.sr rfl (Opl.p1 (n := Opl.len (xs := l0) (by exact hv0) K49 rfl rfl rfl rfl (Opl.p1 (n := Opl.nil ?_))))))))
 by_cases c1 : (l0.length : Int) > 1048576
 case pos =>
  rw [if_pos c1] at H
  have e1 : (decide ((l0.length : Int) > 1048576)) = true := by simpa using c1
  try rw [e1]
  refine Evr.condT rfl (Evr.sr rfl (Opl.p1 (n := Opl.nil ?_)))
  obtain rfl := Option.some.inj H
  refine Evr.ret1 Try.func6 rfl ?_
  show (.lit (.bool true) : PV) = _
  first | rfl | (simp only [go_sem]; rfl)
 rw [if_neg c1] at H
 have e2 : (decide ((l0.length : Int) > 1048576)) = false := by simpa using c1
 try rw [e2]
 refine Evr.condF rfl (Evr.skip (Evr.sr rfl (Opl.p1 (n := ?_))))
 obtain ⟨r1, h_r1, H⟩ := Option.bind_eq_some_iff.1 H
 refine Opl.call (spec_DrawClausesOf.ev hv0 h_r1) rfl rfl rfl rfl ⟨hv0.plain, trivial⟩ (by decide) ?_
 rintro _ ⟨_, _, rfl, ⟨_, pv2, rfl, rfl, h2⟩, rfl⟩
 refine Opl.p1 (n := Opl.p1 (v := .agg [.lit (.int .i64 r1.1.1), pv2]) (n := Opl.p1 (v := .lit (.int .i64 r1.2)) (n := Opl.alloc T42 rfl rfl rfl ?_)))
 rintro i1 S h3 u1 w1
 refine Opl.stb (vs := [.lit (.int .i64 r1.1.1), pv2]) h3 rfl rfl Z42 rfl (Nat.le_of_ble_eq_true rfl) (by simp only [List.all_cons, List.all_nil, h2.one, Bool.and_true, Bool.true_and] <;> rfl) rfl rfl rfl ?_
 rintro S (h4 : Box (.ptr i1 0) [.lit (.int .i64 r1.1.1), pv2] _) u2
 refine Opl.p1 (n := Opl.nil (Evr.sr rfl (Opl.ldb (v := .agg [.lit (.int .i64 r1.1.1), pv2]) h4 rfl T42 rfl rfl rfl rfl (Opl.p1 (n := ?_)))))
 obtain ⟨r2, h_r2, H⟩ := Option.bind_eq_some_iff.1 H
 refine Opl.call (impl_ClausesOf.ev h2 h_r2) rfl rfl rfl rfl ⟨(.aggL ⟨(.lit _), h2.plain, trivial⟩), (.lit _), trivial⟩ (by decide) ?_
 rintro _ ⟨_, _, rfl, ⟨_, pv4, rfl, rfl, h6⟩, rfl⟩
 refine Opl.p1 (n := Opl.p1 (v := .agg [.lit (.int .i64 r2.1.1), pv4]) (n := Opl.p1 (v := .lit (.bool r2.2)) (n := Opl.alloc T37 rfl rfl rfl ?_)))
 rintro i2 S h7 u3 w3
 have ap1 := w3.box h4
 have h8 := u3.box h4 ap1
 refine Opl.stb (vs := [.lit (.int .i64 r2.1.1), pv4]) h7 rfl rfl Z37 rfl (Nat.le_of_ble_eq_true rfl) (by simp only [List.all_cons, List.all_nil, h6.one, Bool.and_true, Bool.true_and] <;> rfl) rfl rfl rfl ?_
 rintro S (h9 : Box (.ptr i2 0) [.lit (.int .i64 r2.1.1), pv4] _) u4
 have h10 := u4.box h8 ap1
 refine Opl.p1 (n := Opl.nil (Evr.sr rfl (Opl.ldb (v := .agg [.lit (.int .i64 r1.1.1), pv2]) h10 rfl T42 rfl rfl rfl rfl (Opl.p1 (n := ?_)))))
 obtain ⟨r3, h_r3, H⟩ := Option.bind_eq_some_iff.1 H
 refine Opl.call (spec_ClausesOf.ev h2 h_r3) rfl rfl rfl rfl ⟨(.aggL ⟨(.lit _), h2.plain, trivial⟩), (.lit _), trivial⟩ (by decide) ?_
 rintro _ ⟨_, _, rfl, ⟨_, pv6, rfl, rfl, h12⟩, rfl⟩
 refine Opl.p1 (n := Opl.p1 (v := .agg [.lit (.int .i64 r3.1.1), pv6]) (n := Opl.p1 (v := .lit (.bool r3.2)) (n := Opl.alloc T37 rfl rfl rfl ?_)))
 rintro i3 S h13 u5 w5
 have ap2 := w5.box h10
 have h14 := u5.box h10 ap2
 have ap3 := w5.box h9
 have h15 := u5.box h9 ap3
 refine Opl.stb (vs := [.lit (.int .i64 r3.1.1), pv6]) h13 rfl rfl Z37 rfl (Nat.le_of_ble_eq_true rfl) (by simp only [List.all_cons, List.all_nil, h12.one, Bool.and_true, Bool.true_and] <;> rfl) rfl rfl rfl ?_
 rintro S (h16 : Box (.ptr i3 0) [.lit (.int .i64 r3.1.1), pv6] _) u6
 have h17 := u6.box h14 ap2
 have h18 := u6.box h15 ap3
 refine Opl.p1 (n := Opl.nil (Evr.seq (Evr.sr rfl (Opl.p1 (n := Opl.p1 (n := Opl.p1 (n := Opl.p1 (n := ?_))))))))
 by_cases c2 : r2.2 ≠ r3.2
 case pos =>
  rw [if_pos c2] at H
  have e3 : (r2.2 != r3.2) = true := by simpa using c2
  try rw [e3]
  refine Opl.skp rfl (Opl.skp rfl (Opl.skp rfl (Opl.skp rfl (Opl.skp rfl (Opl.p1 (n := Opl.p1 (n := Opl.skp rfl (Opl.skp rfl (Opl.skp rfl (Opl.skp rfl (Opl.skp rfl (Opl.skp rfl (Opl.skp rfl (Opl.p1 (n := Opl.p1 (n := Opl.skp rfl (Opl.skp rfl (Opl.p1 (n := Opl.nil (Evr.condT rfl (Evr.seq ?_)))))))))))))))))))))
  refine Evr.join (fun tm S => ∃ (kq1 : Nat) (x2q6_1 : Bool), laws_FnClausesOf.j1 kq1 x2q6_1 = some r ∧ Has tm [(2, .lit (.bool x2q6_1))]) ?_ fun hk1 => ?_
  ·
   rintro tm S ⟨kq1, x2q6_1, H, hh⟩
   rw [hh.eq]
   obtain _ | k1 := kq1
   · simp [laws_FnClausesOf.j1] at H
   simp only [laws_FnClausesOf.j1] at H
   obtain rfl := Option.some.inj H
   refine Evr.ret1 Try.func6 rfl ?_
   show (.lit (.bool x2q6_1) : PV) = _
   first | rfl | (simp only [go_sem]; rfl)
  ·
   refine Evr.regionN rfl (Opl.p1 (n := Opl.p1 (n := Opl.p1 (n := Opl.p1 (n := ?_)))))
   by_cases c3 : r2.2 = r3.2
   case neg =>
    rw [if_neg c3] at H
    have e7 : (r2.2 == r3.2) = false := by simpa using c3
    try rw [e7]
    refine Opl.skp rfl (Opl.skp rfl (Opl.skp rfl (Opl.skp rfl (Opl.skp rfl (Opl.skp rfl (Opl.skp rfl (Opl.p1 (n := Opl.p1 (n := Opl.skp rfl (Opl.skp rfl (Opl.p1 (n := Opl.p1 (n := Opl.nil ?_)))))))))))))
    exact hk1 _ _ ⟨_, _, H, ⟨(by first | rfl | (show PV.lit (.bool _) = _; congr 2; simp_all)), trivial⟩⟩
   rw [if_pos c3] at H
   have e4 : (r2.2 == r3.2) = true := by simpa using c3
   try rw [e4]
   refine Opl.p1 (v := .ptr i2 1) (n := Opl.ldb (v := pv4) h18 rfl T35 rfl rfl rfl rfl (Opl.len (xs := r2.1.2) (by exact h6) K35 rfl rfl rfl rfl (Opl.p1 (v := .ptr i3 1) (n := Opl.ldb (v := pv6) h16 rfl T35 rfl rfl rfl rfl (Opl.len (xs := r3.1.2) (by exact h12) K35 rfl rfl rfl rfl (Opl.p1 (n := Opl.p1 (n := Opl.p1 (n := ?_)))))))))
   by_cases c4 : (r2.1.2.length : Int) = (r3.1.2.length : Int)
   case pos =>
    rw [if_pos c4] at H
    have e5 : ((r2.1.2.length : Int) == (r3.1.2.length : Int)) = true := by simpa using c4
    try rw [e5]
    refine Opl.p1 (n := Opl.p1 (n := Opl.p1 (n := Opl.p1 (n := Opl.nil ?_))))
    exact hk1 _ _ ⟨_, _, H, ⟨(by first | rfl | (show PV.lit (.bool _) = _; congr 2; simp_all)), trivial⟩⟩
   rw [if_neg c4] at H
   have e6 : ((r2.1.2.length : Int) == (r3.1.2.length : Int)) = false := by simpa using c4
   try rw [e6]
   refine Opl.skp rfl (Opl.skp rfl (Opl.p1 (n := Opl.p1 (n := Opl.nil ?_))))
   exact hk1 _ _ ⟨_, _, H, ⟨(by first | rfl | (show PV.lit (.bool _) = _; congr 2; simp_all)), trivial⟩⟩
 rw [if_neg c2] at H
 have e8 : (r2.2 != r3.2) = false := by simpa using c2
 try rw [e8]
 refine Opl.p1 (v := .ptr i2 0) (n := Opl.ldb (v := .lit (.int .i64 r2.1.1)) h18 rfl T3 rfl rfl rfl rfl (Opl.p1 (v := .ptr i3 0) (n := Opl.ldb (v := .lit (.int .i64 r3.1.1)) h16 rfl T3 rfl rfl rfl rfl (Opl.p1 (n := Opl.p1 (n := Opl.p1 (n := ?_)))))))
 by_cases c5 : r2.1.1 ≠ r3.1.1
 case pos =>
  rw [if_pos c5] at H
  have e9 : (r2.1.1 != r3.1.1) = true := by simpa using c5
  try rw [e9]
  refine Opl.skp rfl (Opl.skp rfl (Opl.skp rfl (Opl.skp rfl (Opl.skp rfl (Opl.skp rfl (Opl.skp rfl (Opl.p1 (n := Opl.p1 (n := Opl.skp rfl (Opl.skp rfl (Opl.p1 (n := Opl.nil (Evr.condT rfl (Evr.seq ?_))))))))))))))
  refine Evr.join (fun tm S => ∃ (kq2 : Nat) (x2q7_1 : Bool), laws_FnClausesOf.j2 kq2 x2q7_1 = some r ∧ Has tm [(2, .lit (.bool x2q7_1))]) ?_ fun hk2 => ?_
  ·
   rintro tm S ⟨kq2, x2q7_1, H, hh⟩
   rw [hh.eq]
   obtain _ | k2 := kq2
   · simp [laws_FnClausesOf.j2] at H
   simp only [laws_FnClausesOf.j2] at H
   obtain rfl := Option.some.inj H
   refine Evr.ret1 Try.func6 rfl ?_
   show (.lit (.bool x2q7_1) : PV) = _
   first | rfl | (simp only [go_sem]; rfl)
  ·
   refine Evr.regionN rfl (Opl.p1 (n := Opl.p1 (n := Opl.p1 (n := Opl.p1 (n := ?_)))))
   by_cases c6 : r2.2 = r3.2
   case neg =>
    rw [if_neg c6] at H
    have e13 : (r2.2 == r3.2) = false := by simpa using c6
    try rw [e13]
    refine Opl.skp rfl (Opl.skp rfl (Opl.skp rfl (Opl.skp rfl (Opl.skp rfl (Opl.skp rfl (Opl.skp rfl (Opl.p1 (n := Opl.p1 (n := Opl.skp rfl (Opl.skp rfl (Opl.p1 (n := Opl.p1 (n := Opl.nil ?_)))))))))))))
    exact hk2 _ _ ⟨_, _, H, ⟨(by first | rfl | (show PV.lit (.bool _) = _; congr 2; simp_all)), trivial⟩⟩
   rw [if_pos c6] at H
   have e10 : (r2.2 == r3.2) = true := by simpa using c6
   try rw [e10]
   refine Opl.p1 (v := .ptr i2 1) (n := Opl.ldb (v := pv4) h18 rfl T35 rfl rfl rfl rfl (Opl.len (xs := r2.1.2) (by exact h6) K35 rfl rfl rfl rfl (Opl.p1 (v := .ptr i3 1) (n := Opl.ldb (v := pv6) h16 rfl T35 rfl rfl rfl rfl (Opl.len (xs := r3.1.2) (by exact h12) K35 rfl rfl rfl rfl (Opl.p1 (n := Opl.p1 (n := Opl.p1 (n := ?_)))))))))
   by_cases c7 : (r2.1.2.length : Int) = (r3.1.2.length : Int)
   case pos =>
    rw [if_pos c7] at H
    have e11 : ((r2.1.2.length : Int) == (r3.1.2.length : Int)) = true := by simpa using c7
    try rw [e11]
    refine Opl.p1 (n := Opl.p1 (n := Opl.p1 (n := Opl.p1 (n := Opl.nil ?_))))
    exact hk2 _ _ ⟨_, _, H, ⟨(by first | rfl | (show PV.lit (.bool _) = _; congr 2; simp_all)), trivial⟩⟩
   rw [if_neg c7] at H
   have e12 : ((r2.1.2.length : Int) == (r3.1.2.length : Int)) = false := by simpa using c7
   try rw [e12]
   refine Opl.skp rfl (Opl.skp rfl (Opl.p1 (n := Opl.p1 (n := Opl.nil ?_))))
   exact hk2 _ _ ⟨_, _, H, ⟨(by first | rfl | (show PV.lit (.bool _) = _; congr 2; simp_all)), trivial⟩⟩
 rw [if_neg c5] at H
 have e14 : (r2.1.1 != r3.1.1) = false := by simpa using c5
 try rw [e14]
 refine Opl.p1 (v := .ptr i2 1) (n := Opl.ldb (v := pv4) h18 rfl T35 rfl rfl rfl rfl (Opl.len (xs := r2.1.2) (by exact h6) K35 rfl rfl rfl rfl (Opl.p1 (v := .ptr i3 1) (n := Opl.ldb (v := pv6) h16 rfl T35 rfl rfl rfl rfl (Opl.len (xs := r3.1.2) (by exact h12) K35 rfl rfl rfl rfl (Opl.p1 (n := Opl.p1 (n := Opl.p1 (n := ?_)))))))))
 by_cases c8 : (r2.1.2.length : Int) ≠ (r3.1.2.length : Int)
 case pos =>
  rw [if_pos c8] at H
  have e15 : ((r2.1.2.length : Int) != (r3.1.2.length : Int)) = true := by simpa using c8
  try rw [e15]
  refine Opl.skp rfl (Opl.skp rfl (Opl.p1 (n := Opl.nil (Evr.condT rfl (Evr.seq ?_)))))
  refine Evr.join (fun tm S => ∃ (kq3 : Nat) (x2q8_1 : Bool), laws_FnClausesOf.j3 kq3 x2q8_1 = some r ∧ Has tm [(2, .lit (.bool x2q8_1))]) ?_ fun hk3 => ?_
  ·
   rintro tm S ⟨kq3, x2q8_1, H, hh⟩
   rw [hh.eq]
   obtain _ | k3 := kq3
   · simp [laws_FnClausesOf.j3] at H
   simp only [laws_FnClausesOf.j3] at H
   obtain rfl := Option.some.inj H
   refine Evr.ret1 Try.func6 rfl ?_
   show (.lit (.bool x2q8_1) : PV) = _
   first | rfl | (simp only [go_sem]; rfl)
  ·
   refine Evr.regionN rfl (Opl.p1 (n := Opl.p1 (n := Opl.p1 (n := Opl.p1 (n := ?_)))))
   by_cases c9 : r2.2 = r3.2
   case neg =>
    rw [if_neg c9] at H
    have e19 : (r2.2 == r3.2) = false := by simpa using c9
    try rw [e19]
    refine Opl.skp rfl (Opl.skp rfl (Opl.skp rfl (Opl.skp rfl (Opl.skp rfl (Opl.skp rfl (Opl.skp rfl (Opl.p1 (n := Opl.p1 (n := Opl.skp rfl (Opl.skp rfl (Opl.p1 (n := Opl.p1 (n := Opl.nil ?_)))))))))))))
    exact hk3 _ _ ⟨_, _, H, ⟨(by first | rfl | (show PV.lit (.bool _) = _; congr 2; simp_all)), trivial⟩⟩
   rw [if_pos c9] at H
   have e16 : (r2.2 == r3.2) = true := by simpa using c9
   try rw [e16]
   refine Opl.p1 (v := .ptr i2 1) (n := Opl.ldb (v := pv4) h18 rfl T35 rfl rfl rfl rfl (Opl.len (xs := r2.1.2) (by exact h6) K35 rfl rfl rfl rfl (Opl.p1 (v := .ptr i3 1) (n := Opl.ldb (v := pv6) h16 rfl T35 rfl rfl rfl rfl (Opl.len (xs := r3.1.2) (by exact h12) K35 rfl rfl rfl rfl (Opl.p1 (n := Opl.p1 (n := Opl.p1 (n := ?_)))))))))
   by_cases c10 : (r2.1.2.length : Int) = (r3.1.2.length : Int)
   case pos =>
    rw [if_pos c10] at H
    have e17 : ((r2.1.2.length : Int) == (r3.1.2.length : Int)) = true := by simpa using c10
    try rw [e17]
    refine Opl.p1 (n := Opl.p1 (n := Opl.p1 (n := Opl.p1 (n := Opl.nil ?_))))
    exact hk3 _ _ ⟨_, _, H, ⟨(by first | rfl | (show PV.lit (.bool _) = _; congr 2; simp_all)), trivial⟩⟩
   rw [if_neg c10] at H
   have e18 : ((r2.1.2.length : Int) == (r3.1.2.length : Int)) = false := by simpa using c10
   try rw [e18]
   refine Opl.skp rfl (Opl.skp rfl (Opl.p1 (n := Opl.p1 (n := Opl.nil ?_))))
   exact hk3 _ _ ⟨_, _, H, ⟨(by first | rfl | (show PV.lit (.bool _) = _; congr 2; simp_all)), trivial⟩⟩
 rw [if_neg c8] at H
 have e20 : ((r2.1.2.length : Int) != (r3.1.2.length : Int)) = false := by simpa using c8
 try rw [e20]
 refine Opl.p1 (n := Opl.p1 (n := Opl.p1 (n := Opl.nil ?_)))
 by_cases c11 : r2.2 = true
 case neg =>
  rw [if_neg c11] at H
  have e32 : (!r2.2) = true := by simpa using c11
  try rw [e32]
  refine Evr.condT rfl (Evr.seq ?_)
  refine Evr.join (fun tm S => ∃ (kq6 : Nat) (x2q10_1 : Bool), laws_FnClausesOf.j6 kq6 x2q10_1 = some r ∧ Has tm [(2, .lit (.bool x2q10_1))]) ?_ fun hk6 => ?_
  ·
   rintro tm S ⟨kq6, x2q10_1, H, hh⟩
   rw [hh.eq]
   obtain _ | k4 := kq6
   · simp [laws_FnClausesOf.j6] at H
   simp only [laws_FnClausesOf.j6] at H
   obtain rfl := Option.some.inj H
   refine Evr.ret1 Try.func6 rfl ?_
   show (.lit (.bool x2q10_1) : PV) = _
   first | rfl | (simp only [go_sem]; rfl)
  ·
   refine Evr.regionN rfl (Opl.p1 (n := Opl.p1 (n := Opl.p1 (n := Opl.p1 (n := ?_)))))
   by_cases c32 : r2.2 = r3.2
   case neg =>
    rw [if_neg c32] at H
    have e36 : (r2.2 == r3.2) = false := by simpa using c32
    try rw [e36]
    refine Opl.skp rfl (Opl.skp rfl (Opl.skp rfl (Opl.skp rfl (Opl.skp rfl (Opl.skp rfl (Opl.skp rfl (Opl.p1 (n := Opl.p1 (n := Opl.skp rfl (Opl.skp rfl (Opl.p1 (n := Opl.p1 (n := Opl.nil ?_)))))))))))))
    exact hk6 _ _ ⟨_, _, H, ⟨(by first | rfl | (show PV.lit (.bool _) = _; congr 2; simp_all)), trivial⟩⟩
   rw [if_pos c32] at H
   have e33 : (r2.2 == r3.2) = true := by simpa using c32
   try rw [e33]
   refine Opl.p1 (v := .ptr i2 1) (n := Opl.ldb (v := pv4) h18 rfl T35 rfl rfl rfl rfl (Opl.len (xs := r2.1.2) (by exact h6) K35 rfl rfl rfl rfl (Opl.p1 (v := .ptr i3 1) (n := Opl.ldb (v := pv6) h16 rfl T35 rfl rfl rfl rfl (Opl.len (xs := r3.1.2) (by exact h12) K35 rfl rfl rfl rfl (Opl.p1 (n := Opl.p1 (n := Opl.p1 (n := ?_)))))))))
   by_cases c33 : (r2.1.2.length : Int) = (r3.1.2.length : Int)
   case pos =>
    rw [if_pos c33] at H
    have e34 : ((r2.1.2.length : Int) == (r3.1.2.length : Int)) = true := by simpa using c33
    try rw [e34]
    refine Opl.p1 (n := Opl.p1 (n := Opl.p1 (n := Opl.p1 (n := Opl.nil ?_))))
    exact hk6 _ _ ⟨_, _, H, ⟨(by first | rfl | (show PV.lit (.bool _) = _; congr 2; simp_all)), trivial⟩⟩
   rw [if_neg c33] at H
   have e35 : ((r2.1.2.length : Int) == (r3.1.2.length : Int)) = false := by simpa using c33
   try rw [e35]
   refine Opl.skp rfl (Opl.skp rfl (Opl.p1 (n := Opl.p1 (n := Opl.nil ?_))))
   exact hk6 _ _ ⟨_, _, H, ⟨(by first | rfl | (show PV.lit (.bool _) = _; congr 2; simp_all)), trivial⟩⟩
 rw [if_pos c11] at H
 have e21 : (!r2.2) = false := by simpa using c11
 try rw [e21]
 refine Evr.condF rfl (Evr.skip (Evr.seq (Evr.sr rfl (Opl.p1 (v := .ptr i1 0) (n := Opl.ldb (v := .lit (.int .i64 r1.1.1)) h17 rfl T3 rfl rfl rfl rfl ?_)))))
 obtain ⟨c12, H⟩ := peel H
 refine Opl.one (v := .lit (.int .i64 (shl .i64 1 r1.1.1))) rfl rfl (by simp only [go_sem]; rw [if_neg (by omega)]; simp only [shl, w64, IntKind.bits]; rfl) (Opl.p1 (n := Opl.nil (Evr.block ?_)))
 refine Evr.loop (Evr.rounds (n := k) (Inv := fun n tm S => n ≤ k ∧ ∃ (x77_1 : Int) (i4 : Abs.Id) (i5 : Abs.Id), laws_FnClausesOf.l4 n x77_1 r1 r2 = some r ∧ Has tm [(3, .ptr i4 0), (4, .lit (.int .i64 r1.2)), (5, .ptr i5 0), (76, .lit (.int .i64 (shl .i64 1 r1.1.1))), (77, .lit (.int .i64 x77_1))] ∧ Box (.ptr i4 0) [.lit (.int .i64 r1.1.1), pv2] S ∧ Box (.ptr i5 0) [.lit (.int .i64 r2.1.1), pv4] S ∧ Ap (.ptr i4 0) (.ptr i5 0)) ?_ ?_ ?_)
 · exact ⟨Nat.le_refl _, _, _, _, H, ⟨rfl, rfl, rfl, rfl, rfl, trivial⟩, h17, h18, ap1⟩
 ·
  rintro tm S ⟨_, _, _, _, H, -⟩
  simp [laws_FnClausesOf.l4] at H
 ·
  rintro n1 ih1 tm S ⟨hle, x77_1, i4, i5, H, hh, h19, h20, ap4⟩
  simp only [laws_FnClausesOf.l4] at H
  rw [hh.eq]
  refine Evr.sr rfl (Opl.p1 (n := Opl.nil (Evr.seq ?_)))
  by_cases c13 : x77_1 < (shl .i64 1 r1.1.1)
  case neg =>
   rw [if_neg c13] at H
   have e31 : (decide (x77_1 < (shl .i64 1 r1.1.1))) = false := by simpa using c13
   try rw [e31]
   refine Evr.condF rfl (Evr.exit rfl (Evr.sr rfl (Opl.ldb (v := .agg [.lit (.int .i64 r2.1.1), pv4]) h20 rfl T37 rfl rfl rfl rfl ?_)))
   obtain ⟨r10, h_r10, H⟩ := Option.bind_eq_some_iff.1 H
   refine Opl.callc (impl_ClausesValid.ev h6 h_r10) rfl rfl rfl rfl ⟨(.aggL ⟨(.lit _), h6.plain, trivial⟩), trivial⟩ (by decide) (Opl.p1 (n := Opl.nil ?_))
   obtain rfl := Option.some.inj H
   refine Evr.ret1 Try.func6 rfl ?_
   show (.lit (.bool r10) : PV) = _
   first | rfl | (simp only [go_sem]; rfl)
  rw [if_pos c13] at H
  have e22 : (decide (x77_1 < (shl .i64 1 r1.1.1))) = true := by simpa using c13
  try rw [e22]
  refine Evr.condT rfl (Evr.skip (Evr.seq (Evr.block (Evr.sr rfl (Opl.p1 (n := Opl.p1 (n := Opl.nil (Evr.sr rfl (Opl.lits (M := (cInt .i64)) (ys := []) [] K22 T3 rfl rfl rfl trivial rfl (by decide) rfl rfl rfl ?_)))))))))
  rintro pv7 S h21 u7 w7
  have ap5 := w7.box h19
  have h22 := u7.box h19 ap5
  have ap6 := w7.box h20
  have h23 := u7.box h20 ap6
  refine Opl.p1 (n := Opl.nil (Evr.seq (Evr.sr rfl (Opl.p1 (v := .ptr i4 0) (n := Opl.ldb (v := .lit (.int .i64 r1.1.1)) h22 rfl T3 rfl rfl rfl rfl (Opl.p1 (n := Opl.nil (Evr.block ?_))))))))
  refine Evr.loop (Evr.rounds (n := n1) (Inv := fun n tm S => n ≤ n1 ∧ ∃ (x10q2_1 : List Int) (x83q2_1 : Int) (i6 : Abs.Id) (i7 : Abs.Id) (pv8 : PV), laws_FnClausesOf.l5 n x10q2_1 x83q2_1 r1 r2 x77_1 = some r ∧ Has tm [(3, .ptr i6 0), (4, .lit (.int .i64 r1.2)), (5, .ptr i7 0), (9, .lit (.int .i64 x77_1)), (10, pv8), (76, .lit (.int .i64 (shl .i64 1 r1.1.1))), (77, .lit (.int .i64 x77_1)), (82, .lit (.int .i64 r1.1.1)), (83, .lit (.int .i64 x83q2_1))] ∧ Box (.ptr i6 0) [.lit (.int .i64 r1.1.1), pv2] S ∧ Box (.ptr i7 0) [.lit (.int .i64 r2.1.1), pv4] S ∧ Vec (cInt .i64) x10q2_1 pv8 S ∧ Ap (.ptr i6 0) (.ptr i7 0) ∧ Ap (.ptr i6 0) pv8 ∧ Ap (.ptr i7 0) pv8) ?_ ?_ ?_)
  · exact ⟨Nat.le_refl _, _, _, _, _, _, H, ⟨rfl, rfl, rfl, rfl, rfl, rfl, rfl, rfl, rfl, trivial⟩, h22, h23, h21, ap4, ap5, ap6⟩
  ·
   rintro tm S ⟨_, _, _, _, _, _, H, -⟩
   simp [laws_FnClausesOf.l5] at H
  ·
   rintro n2 ih2 tm S ⟨hle, x10q2_1, x83q2_1, i6, i7, pv8, H, hh, h24, h25, h26, ap7, ap8, ap9⟩
   simp only [laws_FnClausesOf.l5] at H
   rw [hh.eq]
   refine Evr.sr rfl (Opl.p1 (n := Opl.nil (Evr.seq ?_)))
   by_cases c14 : x83q2_1 < r1.1.1
   case pos =>
    rw [if_pos c14] at H
    have e23 : (decide (x83q2_1 < r1.1.1)) = true := by simpa using c14
    try rw [e23]
    refine Evr.condT rfl (Evr.skip (Evr.seq (Evr.block (Evr.sr rfl (Opl.p1 (n := Opl.p1 (n := Opl.nil (Evr.regionN rfl (Opl.p1 (n := Opl.p1 (n := Opl.p1 (n := ?_))))))))))))
    obtain ⟨c15, H⟩ := peel H
    obtain ⟨c16, H⟩ := peel H
    refine Opl.one (v := .lit (.int .i64 (shr .i64 x77_1 x83q2_1))) rfl rfl (by simp only [go_sem]; rw [if_neg (by omega), fdiv_pow]; simp only [shr, w64, IntKind.bits]; rfl) (Opl.one (v := .lit (.int .i64 (Int.tmod (shr .i64 x77_1 x83q2_1) 2))) rfl rfl (by simp only [go_sem]; rw [if_neg (by first | assumption | decide | omega)]; rfl) (Opl.liti (M := (cInt .i64)) (ys := [(Int.tmod (shr .i64 x77_1 x83q2_1) 2)]) [.tmp 90] K22 T3 rfl rfl rfl (by exact ⟨rfl, trivial⟩) rfl (by decide) rfl rfl ?_))
    rintro pv10 h27
    refine Opl.app (M := (cInt .i64)) (xs := x10q2_1) (ys := [(Int.tmod (shr .i64 x77_1 x83q2_1) 2)]) (v := pv8) h26 (.sl h27) (oInt .i64) rfl rfl K22 T3 rfl rfl (by (try simp only [List.length_cons, List.length_nil]); omega) (by show (_ + _) * 8 ≤ 140737488355328; (try simp only [List.length_cons, List.length_nil]); omega) rfl rfl rfl rfl rfl ?_
    rintro pv11 S h28 u8 w8
    have ap10 := w8.box h24
    have h29 := u8.box h24 ap8
    have ap11 := w8.box h25
    have h30 := u8.box h25 ap9
    refine Opl.p1 (n := Opl.nil (Evr.inBlock (Evr.regionN rfl (Opl.p1 (n := Opl.p1 (n := Opl.nil ?_))))))
    exact ih2 _ (by omega) _ _ ⟨by omega, _, _, _, _, _, H, ⟨rfl, rfl, rfl, rfl, rfl, rfl, rfl, rfl, rfl, trivial⟩, h29, h30, h28, ap7, ap10, ap11⟩
   rw [if_neg c14] at H
   have e24 : (decide (x83q2_1 < r1.1.1)) = false := by simpa using c14
   try rw [e24]
   refine Evr.condF rfl (Evr.exit rfl (Evr.sr rfl (Opl.ldb (v := .agg [.lit (.int .i64 r1.1.1), pv2]) h24 rfl T42 rfl rfl rfl rfl (Opl.p1 (n := ?_)))))
   obtain ⟨r4, h_r4, H⟩ := Option.bind_eq_some_iff.1 H
   obtain ⟨pv12, h31, -, h32⟩ := Out.vec h26
   refine Opl.callav (sInt .i64) (impl_NodeValues.ev h2 h32 h_r4) rfl rfl rfl (.cons (.refl _) (.cons h31 .nil)) ⟨(.aggL ⟨(.lit _), h2.plain, trivial⟩), h32.plain, trivial⟩ rfl ?_
   rintro pv13 S h33 u9 w9
   have ap12 := w9.box h24
   have h34 := u9.box h24 ap12
   have ap13 := w9.box h25
   have h35 := u9.box h25 ap13
   have ap14 := w9.vec h26
   have h36 := u9.vec h26 ap14
   refine Opl.p1 (n := Opl.nil (Evr.seq (Evr.regionD rfl (by kernel_rfl) (Opl.ldb (v := .agg [.lit (.int .i64 r2.1.1), pv4]) h35 rfl T37 rfl rfl rfl rfl (Opl.p1 (n := ?_))))))
   obtain ⟨c17, H⟩ := peel H
   obtain ⟨c18, H⟩ := peel H
   refine Opl.slcW (M := (cInt .i64)) (a := 1) h33 rfl rfl (by omega) (by omega) (by omega) K22 Z3 rfl rfl rfl ?_
   rintro w10 h37
   obtain ⟨r5, h_r5, H⟩ := Option.bind_eq_some_iff.1 H
   obtain ⟨pv14, h38, h39⟩ := Vec.win h33 h37
   refine Opl.callw (impl_TrueIn.ev h6 h39 h_r5) rfl rfl rfl (.cons (.refl _) (.cons h38 .nil)) ⟨(.aggL ⟨(.lit _), h6.plain, trivial⟩), h39.plain, trivial⟩ (by decide) (Opl.p1 (n := Opl.nil (Evr.seq (Evr.seq (Evr.regionD rfl (by kernel_rfl) (Opl.p1 (n := Opl.ldb (v := .agg [.lit (.int .i64 r1.1.1), pv2]) h34 rfl T42 rfl rfl rfl rfl (Opl.p1 (n := Opl.p1 (n := ?_))))))))))
   obtain ⟨r6, h_r6, H⟩ := Option.bind_eq_some_iff.1 H
   obtain ⟨pv15, h40, -, h41⟩ := Out.vec h36
   refine Opl.callw (impl_EdgeValue.ev h2 h41 h_r6) rfl rfl rfl (.cons (.refl _) (.cons h40 (.cons (.refl _) .nil))) ⟨(.aggL ⟨(.lit _), h2.plain, trivial⟩), h41.plain, (.lit _), trivial⟩ (by decide) (Opl.p1 (n := Opl.p1 (n := Opl.p1 (n := ?_))))
   by_cases c19 : r5 ≠ (r6 == 1)
   case pos =>
    rw [if_pos c19] at H
    have e25 : (r5 != (r6 == 1)) = true := by simpa using c19
    try rw [e25]
    refine Opl.skp rfl (Opl.skp rfl (Opl.skp rfl (Opl.skp rfl (Opl.skp rfl (Opl.skp rfl (Opl.skp rfl (Opl.p1 (n := Opl.nil (Evr.condT rfl (Evr.sr rfl (Opl.p1 (n := Opl.nil ?_))))))))))))
    obtain rfl := Option.some.inj H
    refine Evr.ret1 Try.func6 rfl ?_
    show (.lit (.bool false) : PV) = _
    first | rfl | (simp only [go_sem]; rfl)
   rw [if_neg c19] at H
   have e26 : (r5 != (r6 == 1)) = false := by simpa using c19
   try rw [e26]
   refine Opl.ldb (v := .agg [.lit (.int .i64 r1.1.1), pv2]) h34 rfl T42 rfl rfl rfl rfl (Opl.p1 (n := ?_))
   obtain ⟨c20, H⟩ := peel H
   obtain ⟨c21, H⟩ := peel H
   refine Opl.slcW (M := (cInt .i64)) (a := 1) h33 rfl rfl (by omega) (by omega) (by omega) K22 Z3 rfl rfl rfl ?_
   rintro w11 h42
   obtain ⟨r7, h_r7, H⟩ := Option.bind_eq_some_iff.1 H
   obtain ⟨pv16, h43, h44⟩ := Vec.win h33 h42
   refine Opl.callv (sInt .i64) (impl_InputsOf.ev h2 h44 h_r7) rfl rfl rfl (.cons (.refl _) (.cons h43 .nil)) ⟨(.aggL ⟨(.lit _), h2.plain, trivial⟩), h44.plain, trivial⟩ (by decide) ?_
   rintro pv17 h45
   refine Opl.p1 (n := ?_)
   obtain ⟨r8, h_r8, H⟩ := Option.bind_eq_some_iff.1 H
   obtain ⟨pv18, h46, -, h47⟩ := Out.vec h36
   refine Opl.callw (laws_wcInts.ev h45 h47 h_r8) rfl rfl rfl (.cons (.refl _) (.cons h46 .nil)) ⟨h45.plain, h47.plain, trivial⟩ (by decide) (Opl.p1 (n := Opl.p1 (n := Opl.nil ?_)))
   by_cases c22 : r8 = true
   case neg =>
    rw [if_neg c22] at H
    have e30 : (!r8) = true := by simpa using c22
    try rw [e30]
    refine Evr.condT rfl (Evr.sr rfl (Opl.p1 (n := Opl.nil ?_)))
    obtain rfl := Option.some.inj H
    refine Evr.ret1 Try.func6 rfl ?_
    show (.lit (.bool false) : PV) = _
    first | rfl | (simp only [go_sem]; rfl)
   rw [if_pos c22] at H
   have e27 : (!r8) = false := by simpa using c22
   try rw [e27]
   refine Evr.condF rfl (Evr.skip (Evr.sr rfl (Opl.p1 (n := Opl.lenv (xs := r4) (by exact h33) K22 rfl rfl rfl rfl (Opl.p1 (n := Opl.p1 (n := Opl.nil (Evr.seq ?_))))))))
   refine Evr.join2 (fun tm S => ∃ (kq4 : Nat) (i8 : Abs.Id) (i9 : Abs.Id), laws_FnClausesOf.l4 kq4 (wrap64 (x77_1 + 1)) r1 r2 = some r ∧ kq4 ≤ n2 ∧ Has tm [(3, .ptr i8 0), (4, .lit (.int .i64 r1.2)), (5, .ptr i9 0), (76, .lit (.int .i64 (shl .i64 1 r1.1.1))), (77, .lit (.int .i64 x77_1))] ∧ Box (.ptr i8 0) [.lit (.int .i64 r1.1.1), pv2] S ∧ Box (.ptr i9 0) [.lit (.int .i64 r2.1.1), pv4] S ∧ Ap (.ptr i8 0) (.ptr i9 0)) ?_ fun hk4 => ?_
   ·
    rintro tm S ⟨kq4, i8, i9, H, hle, hh, h48, h49, ap15⟩
    rw [hh.eq]
    refine Evr.inBlock (Evr.regionN rfl (Opl.p1 (n := Opl.p1 (n := Opl.nil ?_))))
    exact ih1 _ (by omega) _ _ ⟨by omega, _, _, _, H, ⟨rfl, rfl, rfl, rfl, rfl, trivial⟩, h48, h49, ap15⟩
   ·
    refine Evr.regionN rfl (Opl.p1 (n := Opl.p1 (n := ?_)))
    by_cases c23 : r5 = true
    case neg =>
     rw [if_neg c23] at H
     have hc4 := H
     obtain rfl : r5 = false := by simpa using c23
     have H := hc4
     refine Opl.skp rfl (Opl.skp rfl (Opl.skp rfl (Opl.skp rfl (Opl.p1 (n := Opl.nil (Evr.condF rfl (Evr.skip ?_)))))))
     exact hk4 _ _ ⟨_, _, _, H, by omega, ⟨rfl, rfl, rfl, rfl, rfl, trivial⟩, h34, h35, ap7⟩
    rw [if_pos c23] at H
    have hc1 := H
    obtain rfl : r5 = true := by simpa using c23
    have H := hc1
    refine Opl.p1 (v := .ptr i6 1) (n := Opl.ldb (v := pv2) h34 rfl T40 rfl rfl rfl rfl (Opl.len (xs := r1.1.2) (by exact h2) K40 rfl rfl rfl rfl (Opl.p1 (n := Opl.p1 (n := Opl.nil ?_)))))
    refine Evr.join (fun tm S => ∃ (kq5 : Nat) (i10 : Abs.Id) (i11 : Abs.Id), laws_FnClausesOf.l4 kq5 (wrap64 (x77_1 + 1)) r1 r2 = some r ∧ kq5 ≤ n2 ∧ Has tm [(3, .ptr i10 0), (4, .lit (.int .i64 r1.2)), (5, .ptr i11 0), (76, .lit (.int .i64 (shl .i64 1 r1.1.1))), (77, .lit (.int .i64 x77_1))] ∧ Box (.ptr i10 0) [.lit (.int .i64 r1.1.1), pv2] S ∧ Box (.ptr i11 0) [.lit (.int .i64 r2.1.1), pv4] S ∧ Ap (.ptr i10 0) (.ptr i11 0)) ?_ fun hk5 => ?_
    ·
     rintro tm S ⟨kq5, i10, i11, H, hle, hh, h50, h51, ap16⟩
     rw [hh.eq]
     exact hk4 _ _ ⟨_, _, _, H, by omega, ⟨rfl, rfl, rfl, rfl, rfl, trivial⟩, h50, h51, ap16⟩
    ·
     by_cases c24 : (r1.1.2.length : Int) > 0
     case neg =>
      rw [if_neg c24] at H
      have e29 : (decide ((r1.1.2.length : Int) > 0)) = false := by simpa using c24
      try rw [e29]
      refine Evr.condF rfl (Evr.skip ?_)
      exact hk5 _ _ ⟨_, _, _, H, by omega, ⟨rfl, rfl, rfl, rfl, rfl, trivial⟩, h34, h35, ap7⟩
     rw [if_pos c24] at H
     have e28 : (decide ((r1.1.2.length : Int) > 0)) = true := by simpa using c24
     try rw [e28]
     refine Evr.condT rfl (Evr.sr rfl (Opl.p1 (n := Opl.p1 (n := Opl.p1 (n := Opl.p1 (n := ?_))))))
     obtain ⟨c25, H⟩ := peel H
     obtain ⟨c26, H⟩ := peel H
     obtain ⟨c27, H⟩ := peel H
     obtain ⟨c28, H⟩ := peel H
     obtain ⟨c29, H⟩ := peel H
     obtain ⟨c30, H⟩ := peel H
     refine Opl.idv (M := (cInt .i64)) (xs := r4) (j := (wrap64 ((r4.length : Int) - 1))) (v := pv13) h33 rfl rfl (by omega) (by omega) K22 Z3 rfl rfl ?_
     rintro d1 z1 q1 h52 h53
     refine Opl.ldv (M := (cInt .i64)) (xs := r4) (j := (wrap64 ((r4.length : Int) - 1))) (0 : Int) h52 h53 (by omega) (by omega) rfl T3 rfl rfl rfl ?_
     rintro p1 q2 h54
     obtain rfl : p1 = [.lit (.int .i64 (rd r4 (wrap64 ((r4.length : Int) - 1))))] := h54
     refine ⟨.lit (.int .i64 (rd r4 (wrap64 ((r4.length : Int) - 1)))), rfl, ?_⟩
     refine Opl.p1 (n := Opl.idv (M := (cInt .i64)) (xs := r4) (j := (wrap64 ((r4.length : Int) - 1))) (v := pv13) h33 rfl rfl (by omega) (by omega) K22 Z3 rfl rfl ?_)
     rintro d2 z2 q3 h55 h56
     refine Opl.stv (M := (cInt .i64)) (xs := r4) (j := (wrap64 ((r4.length : Int) - 1))) (y := (wrap64 (1 - (rd r4 (wrap64 ((r4.length : Int) - 1)))))) (vs := [.lit (.int .i64 (wrap64 (1 - (rd r4 (wrap64 ((r4.length : Int) - 1))))))]) h55 h56 (by omega) (by omega) rfl rfl (by exact rfl) Z3 rfl rfl rfl rfl ?_
     rw [← q3]
     rintro S h57 u10
     have h58 := u10.box h34 ap12
     have h59 := u10.box h35 ap13
     have h60 := u10.vec h36 ap14
     refine Opl.nil (Evr.seq (Evr.regionD rfl (by kernel_rfl) (Opl.ldb (v := .agg [.lit (.int .i64 r2.1.1), pv4]) h59 rfl T37 rfl rfl rfl rfl (Opl.p1 (n := Opl.slcW (M := (cInt .i64)) (a := 1) h57 rfl rfl (by omega) (by omega) (by omega) K22 Z3 rfl rfl rfl ?_)))))
     rintro w12 h61
     obtain ⟨r9, h_r9, H⟩ := Option.bind_eq_some_iff.1 H
     obtain ⟨pv19, h62, h63⟩ := Vec.win h57 h61
     refine Opl.callw (impl_TrueIn.ev h6 h63 h_r9) rfl rfl rfl (.cons (.refl _) (.cons h62 .nil)) ⟨(.aggL ⟨(.lit _), h6.plain, trivial⟩), h63.plain, trivial⟩ (by decide) (Opl.nil ?_)
     by_cases c31 : r9 = true
     case neg =>
      rw [if_neg c31] at H
      have hc3 := H
      obtain rfl : r9 = false := by simpa using c31
      have H := hc3
      refine Evr.condF rfl (Evr.skip ?_)
      exact hk5 _ _ ⟨_, _, _, H, by omega, ⟨rfl, rfl, rfl, rfl, rfl, trivial⟩, h58, h59, ap7⟩
     rw [if_pos c31] at H
     have hc2 := H
     obtain rfl : r9 = true := by simpa using c31
     have H := hc2
     refine Evr.condT rfl (Evr.sr rfl (Opl.p1 (n := Opl.nil ?_)))
     obtain rfl := Option.some.inj H
     refine Evr.ret1 Try.func6 rfl ?_
     show (.lit (.bool false) : PV) = _
     first | rfl | (simp only [go_sem]; rfl)
end Go.Proofs.Ytigbbefdndcmbaa.PA
