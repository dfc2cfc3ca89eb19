/- Walks of Go functions: each is shown to answer as the Lean function beside it tells, under the conditions that its theorem names. -/
import Derived.Test.YtpjmiaooogephaaProg
import Derived.KernelRfl
import Derived.Below
import Derived.Deep.Draws
import Derived.Deep.AppendLies
import Derived.Maps.AppendAt
import Derived.OwnWalk
import Derived.Laws.BytesArg
import Derived.Laws.MakeOwn
import Derived.Laws.OwnMore
import Derived.Deep.OwnRows
import Derived.Tactics
import Derived.Lib.ConvBytes
import Derived.Laws.Slices
import Derived.WalkKit
import Derived.RowKit3
import Derived.Deep.LoopGhost
import Derived.Deep.QuietTactic
import Derived.BigQuiet
import Derived.WideLaws
import Derived.Deep.DeepCutAuto
import Derived.Deep.CutBlock
import Derived.Deep.RegionHeld3
import Derived.Laws.Rows
import Derived.Lib.AppendStr
import Derived.ArgAppend
import Derived.Laws.IdiomCopy
import Derived.OrdersHeld
import Derived.Laws.BitsLemmas
import Derived.RowKit
import Derived.Laws.StructEq
import Derived.Lib.SliceRun
import Derived.WalkSpells
import Derived.ChangeArms
import Derived.ChangeSlices
import Derived.Deep.Slices
import Derived.Attr
import Derived.Laws.Append
import Derived.Laws.AppendOwn
import Derived.Laws.Entries
import Derived.Calls
import Derived.Laws.Sem
import Derived.Test.YtpjmiaooogephaaKPc2a9c5ac6a
import Derived.Test.YtpjmiaooogephaaKP13ddb355af
namespace Go.Proofs.Ytpjmiaooogephaa.PA
open Go Go.Abs Go.RowKit Go.Proofs Go.Proofs.YtpjmiaooogephaaW.PrintWords Go.Proofs.YtpjmiaooogephaaW.PrintLast Go.Proofs.YtpjmiaooogephaaW.PrintMore
set_option maxRecDepth 100000
set_option maxHeartbeats 4000000
set_option linter.unusedVariables false
set_option linter.unusedSimpArgs false
theorem laws_FnWithoutRounds.ev {k : Nat} {l0 : List Int} {v0 : PV} (hv0 : Sl (cInt .u8) l0 v0) {r : Bool} (H : laws_FnWithoutRounds.f k l0 = some r) : Ret Try.prog 5 [v0] fun v S => v = .lit (.bool r) := by
 unfold laws_FnWithoutRounds.f at H
 refine Ret.intro Try.func5 rfl (Nat.le_of_ble_eq_true rfl) rfl ?_
 rw [tm1]
 refine Evr.sr rfl (Opl.p1 (n := Opl.nil (Evr.seq (Evr.sr rfl (Opl.p1 (n := Opl.len (xs := l0) (by exact hv0) K22 rfl rfl rfl rfl (Opl.p1 (n := Opl.nil ?_))))))))
 by_cases c1 : (l0.length : Int) > 1048576
 case pos =>
  rw [if_pos c1] at H
  have e1 : (decide ((l0.length : Int) > 1048576)) = true := by simpa using c1
  try rw [e1]
  refine Evr.condT rfl (Evr.sr rfl (Opl.p1 (n := Opl.nil ?_)))
  obtain rfl := sinj H
  refine Evr.ret1 Try.func5 rfl ?_
  show (.lit (.bool true) : PV) = _
  first | rfl | (simp only [go_sem]; rfl)
 rw [if_neg c1] at H
 have e2 : (decide ((l0.length : Int) > 1048576)) = false := by simpa using c1
 try rw [e2]
 refine Evr.condF rfl (Evr.skip (Evr.sr rfl (Opl.p1 (n := ?_))))
 obtain ⟨r1, h_r1, H⟩ := obs H
 refine Opl.call (spec_DrawWithoutRounds.ev hv0 h_r1) rfl rfl rfl rfl ⟨hv0.plain, trivial⟩ (by decide) ?_
 rintro _ ⟨_, _, rfl, ⟨pv2, pv3, rfl, h2, h3⟩, ⟨pv4, pv5, rfl, h4, h5⟩⟩
 refine Opl.p1 (n := Opl.p1 (v := .agg [pv2, pv3]) (n := Opl.p1 (v := .agg [pv4, pv5]) (n := Opl.alloc T26 rfl rfl rfl ?_)))
 rintro i1 S h6 u1 w1
 refine Opl.alloc T42 rfl rfl rfl ?_
 rintro i2 S h7 u2 w2
 have ap1 := w2.box h6
 have h8 := u2.box h6 ap1
 refine Opl.stb (vs := [pv2, pv3]) h8 rfl rfl Z26 rfl (Nat.le_of_ble_eq_true rfl) (by simp only [List.all_cons, List.all_nil, h2.one, h3.one, Bool.and_true, Bool.true_and] <;> rfl) rfl rfl rfl ?_
 rintro S (h9 : Box (.ptr i1 0) [pv2, pv3] _) u3
 have h10 := u3.box h7 ap1.symm
 refine Opl.stb (vs := [pv4, pv5]) h10 rfl rfl Z42 rfl (Nat.le_of_ble_eq_true rfl) (by simp only [List.all_cons, List.all_nil, h4.one, h5.one, Bool.and_true, Bool.true_and] <;> rfl) rfl rfl rfl ?_
 rintro S (h11 : Box (.ptr i2 0) [pv4, pv5] _) u4
 have h12 := u4.box h9 ap1
 refine Opl.nil (Evr.sr rfl (Opl.ldb (v := .agg [pv2, pv3]) h12 rfl T26 rfl rfl rfl rfl (Opl.ldb (v := .agg [pv4, pv5]) h11 rfl T42 rfl rfl rfl rfl ?_)))
 obtain ⟨r2, h_r2, H⟩ := obs H
 refine Opl.call (impl_WithoutRounds.ev h2 h3 h4 h5 h_r2) rfl rfl rfl rfl ⟨(.aggL ⟨h2.plain, h3.plain, trivial⟩), (.aggL ⟨h4.plain, h5.plain, trivial⟩), trivial⟩ (by decide) ?_
 rintro _ ⟨pv7, pv8, rfl, h14, h15⟩
 refine Opl.alloc T42 rfl rfl rfl ?_
 rintro i3 S h16 u5 w5
 have ap2 := w5.box h12
 have h17 := u5.box h12 ap2
 have ap3 := w5.box h11
 have h18 := u5.box h11 ap3
 refine Opl.stb (vs := [pv7, pv8]) h16 rfl rfl Z42 rfl (Nat.le_of_ble_eq_true rfl) (by simp only [List.all_cons, List.all_nil, h14.one, h15.one, Bool.and_true, Bool.true_and] <;> rfl) rfl rfl rfl ?_
 rintro S (h19 : Box (.ptr i3 0) [pv7, pv8] _) u6
 have h20 := u6.box h17 ap2
 have h21 := u6.box h18 ap3
 refine Opl.nil (Evr.sr rfl (Opl.ldb (v := .agg [pv2, pv3]) h20 rfl T26 rfl rfl rfl rfl (Opl.ldb (v := .agg [pv4, pv5]) h21 rfl T42 rfl rfl rfl rfl ?_)))
 obtain ⟨r3, h_r3, H⟩ := obs H
 refine Opl.call (spec_WithoutRounds.ev h2 h3 h4 h5 h_r3) rfl rfl rfl rfl ⟨(.aggL ⟨h2.plain, h3.plain, trivial⟩), (.aggL ⟨h4.plain, h5.plain, trivial⟩), trivial⟩ (by decide) ?_
 rintro _ ⟨pv10, pv11, rfl, h23, h24⟩
 refine Opl.alloc T42 rfl rfl rfl ?_
 rintro i4 S h25 u7 w7
 have ap4 := w7.box h20
 have h26 := u7.box h20 ap4
 have ap5 := w7.box h21
 have h27 := u7.box h21 ap5
 have ap6 := w7.box h19
 have h28 := u7.box h19 ap6
 refine Opl.stb (vs := [pv10, pv11]) h25 rfl rfl Z42 rfl (Nat.le_of_ble_eq_true rfl) (by simp only [List.all_cons, List.all_nil, h23.one, h24.one, Bool.and_true, Bool.true_and] <;> rfl) rfl rfl rfl ?_
 rintro S (h29 : Box (.ptr i4 0) [pv10, pv11] _) u8
 have h30 := u8.box h26 ap4
 have h31 := u8.box h27 ap5
 have h32 := u8.box h28 ap6
 refine Opl.nil (Evr.seq (Evr.sr rfl (Opl.p1 (v := .ptr i3 0) (n := Opl.ldb (v := pv7) h32 rfl T30 rfl rfl rfl rfl (Opl.len (xs := r2.1) (by exact h14) K30 rfl rfl rfl rfl (Opl.p1 (v := .ptr i4 0) (n := Opl.ldb (v := pv10) h29 rfl T30 rfl rfl rfl rfl (Opl.len (xs := r3.1) (by exact h23) K30 rfl rfl rfl rfl (Opl.p1 (n := Opl.p1 (n := ?_)))))))))))
 by_cases c2 : (r2.1.length : Int) ≠ (r3.1.length : Int)
 case pos =>
  rw [if_pos c2] at H
  have e3 : ((r2.1.length : Int) != (r3.1.length : Int)) = true := by simpa using c2
  try rw [e3]
  refine Opl.sk4 rfl rfl rfl rfl (Opl.p1 (n := Opl.nil (Evr.condT rfl (Evr.seq ?_))))
  refine Evr.join (fun tm S => ∃ (kq1 : Nat) (x2q4_1 : Bool), laws_FnWithoutRounds.j1 kq1 x2q4_1 = some r ∧ Has tm [(2, .lit (.bool x2q4_1))]) ?_ fun hk1 => ?_
  ·
   rintro tm S ⟨kq1, x2q4_1, H, hh⟩
   rw [hh.eq]
   obtain _ | k1 := kq1
   · simp [laws_FnWithoutRounds.j1] at H
   simp only [laws_FnWithoutRounds.j1] at H
   obtain rfl := sinj H
   refine Evr.ret1 Try.func5 rfl ?_
   show (.lit (.bool x2q4_1) : PV) = _
   first | rfl | (simp only [go_sem]; rfl)
  ·
   refine Evr.regionD rfl (by kernel_rfl) (Opl.p1 (v := .ptr i3 0) (n := Opl.ldb (v := pv7) h32 rfl T30 rfl rfl rfl rfl (Opl.len (xs := r2.1) (by exact h14) K30 rfl rfl rfl rfl (Opl.p1 (v := .ptr i4 0) (n := Opl.ldb (v := pv10) h29 rfl T30 rfl rfl rfl rfl (Opl.len (xs := r3.1) (by exact h23) K30 rfl rfl rfl rfl (Opl.p1 (n := Opl.p1 (n := ?_)))))))))
   by_cases c3 : (r2.1.length : Int) = (r3.1.length : Int)
   case neg =>
    rw [if_neg c3] at H
    have e9 : ((r2.1.length : Int) == (r3.1.length : Int)) = false := by simpa using c3
    try rw [e9]
    refine Opl.sk4 rfl rfl rfl rfl (Opl.p1 (n := Opl.p1 (n := Opl.sk4 rfl rfl rfl rfl (Opl.p1 (n := Opl.p1 (n := Opl.sk4 rfl rfl rfl rfl (Opl.skp rfl (Opl.p1 (n := Opl.p1 (n := Opl.nil ?_))))))))))
    exact hk1 _ _ ⟨_, _, H, ⟨(by first | rfl | (show PV.lit (.bool _) = _; congr 2; simp_all)), trivial⟩⟩
   rw [if_pos c3] at H
   have e4 : ((r2.1.length : Int) == (r3.1.length : Int)) = true := by simpa using c3
   try rw [e4]
   refine Opl.ldb (v := .agg [pv2, pv3]) h30 rfl T26 rfl rfl rfl rfl (Opl.ldb (v := .agg [pv4, pv5]) h31 rfl T42 rfl rfl rfl rfl ?_)
   obtain ⟨r4, h_r4, H⟩ := obs H
   refine Opl.callc (impl_TraceValid.ev h2 h3 h4 h5 h_r4) rfl rfl rfl rfl ⟨(.aggL ⟨h2.plain, h3.plain, trivial⟩), (.aggL ⟨h4.plain, h5.plain, trivial⟩), trivial⟩ (by decide) (Opl.p1 (n := Opl.p1 (n := Opl.p1 (n := ?_))))
   by_cases c4 : r4 = true
   case pos =>
    rw [if_pos c4] at H
    have e5 : (!r4) = false := by simpa using c4
    try rw [e5]
    refine Opl.sk4 rfl rfl rfl rfl (Opl.p1 (n := Opl.p1 (n := Opl.sk4 rfl rfl rfl rfl (Opl.skp rfl (Opl.p1 (n := Opl.p1 (n := Opl.nil ?_)))))))
    exact hk1 _ _ ⟨_, _, H, ⟨(by first | rfl | (show PV.lit (.bool _) = _; congr 2; simp_all)), trivial⟩⟩
   rw [if_neg c4] at H
   have e6 : (!r4) = true := by simpa using c4
   try rw [e6]
   refine Opl.p1 (v := .ptr i4 0) (n := Opl.ldb (v := pv10) h29 rfl T30 rfl rfl rfl rfl (Opl.len (xs := r3.1) (by exact h23) K30 rfl rfl rfl rfl (Opl.p1 (n := Opl.p1 (n := Opl.p1 (n := ?_))))))
   by_cases c5 : (r3.1.length : Int) = 0
   case neg =>
    rw [if_neg c5] at H
    have e8 : ((r3.1.length : Int) == 0) = false := by simpa using c5
    try rw [e8]
    refine Opl.sk4 rfl rfl rfl rfl (Opl.skp rfl (Opl.p1 (n := Opl.p1 (n := Opl.nil ?_))))
    exact hk1 _ _ ⟨_, _, H, ⟨(by first | rfl | (show PV.lit (.bool _) = _; congr 2; simp_all)), trivial⟩⟩
   rw [if_pos c5] at H
   have e7 : ((r3.1.length : Int) == 0) = true := by simpa using c5
   try rw [e7]
   refine Opl.ldb (v := .agg [pv2, pv3]) h30 rfl T26 rfl rfl rfl rfl ?_
   obtain ⟨r5, h_r5, H⟩ := obs H
   refine Opl.callc (impl_SystemValid.ev h2 h3 h_r5) rfl rfl rfl rfl ⟨(.aggL ⟨h2.plain, h3.plain, trivial⟩), trivial⟩ (by decide) (Opl.ldb (v := .agg [pv2, pv3]) h30 rfl T26 rfl rfl rfl rfl ?_)
   obtain ⟨r6, h_r6, H⟩ := obs H
   refine Opl.callc (spec_SystemValid.ev h2 h3 h_r6) rfl rfl rfl rfl ⟨(.aggL ⟨h2.plain, h3.plain, trivial⟩), trivial⟩ (by decide) (Opl.p1 (n := Opl.p1 (n := Opl.p1 (n := Opl.nil ?_))))
   exact hk1 _ _ ⟨_, _, H, ⟨(by first | rfl | (show PV.lit (.bool _) = _; congr 2; simp_all)), trivial⟩⟩
 rw [if_neg c2] at H
 have e10 : ((r2.1.length : Int) != (r3.1.length : Int)) = false := by simpa using c2
 try rw [e10]
 refine Opl.p1 (v := .ptr i3 0) (n := Opl.ldb (v := pv7) h32 rfl T30 rfl rfl rfl rfl (Opl.len (xs := r2.1) (by exact h14) K30 rfl rfl rfl rfl (Opl.p1 (n := Opl.p1 (n := Opl.nil ?_)))))
 by_cases c6 : (r2.1.length : Int) = 0
 case pos =>
  rw [if_pos c6] at H
  have e11 : ((r2.1.length : Int) == 0) = true := by simpa using c6
  try rw [e11]
  refine Evr.condT rfl (Evr.seq ?_)
  refine Evr.join (fun tm S => ∃ (kq2 : Nat) (x2q6_1 : Bool), laws_FnWithoutRounds.j2 kq2 x2q6_1 = some r ∧ Has tm [(2, .lit (.bool x2q6_1))]) ?_ fun hk2 => ?_
  ·
   rintro tm S ⟨kq2, x2q6_1, H, hh⟩
   rw [hh.eq]
   obtain _ | k2 := kq2
   · simp [laws_FnWithoutRounds.j2] at H
   simp only [laws_FnWithoutRounds.j2] at H
   obtain rfl := sinj H
   refine Evr.ret1 Try.func5 rfl ?_
   show (.lit (.bool x2q6_1) : PV) = _
   first | rfl | (simp only [go_sem]; rfl)
  ·
   refine Evr.regionD rfl (by kernel_rfl) (Opl.p1 (v := .ptr i3 0) (n := Opl.ldb (v := pv7) h32 rfl T30 rfl rfl rfl rfl (Opl.len (xs := r2.1) (by exact h14) K30 rfl rfl rfl rfl (Opl.p1 (v := .ptr i4 0) (n := Opl.ldb (v := pv10) h29 rfl T30 rfl rfl rfl rfl (Opl.len (xs := r3.1) (by exact h23) K30 rfl rfl rfl rfl (Opl.p1 (n := Opl.p1 (n := ?_)))))))))
   by_cases c7 : (r2.1.length : Int) = (r3.1.length : Int)
   case neg =>
    rw [if_neg c7] at H
    have e17 : ((r2.1.length : Int) == (r3.1.length : Int)) = false := by simpa using c7
    try rw [e17]
    refine Opl.sk4 rfl rfl rfl rfl (Opl.p1 (n := Opl.p1 (n := Opl.sk4 rfl rfl rfl rfl (Opl.p1 (n := Opl.p1 (n := Opl.sk4 rfl rfl rfl rfl (Opl.skp rfl (Opl.p1 (n := Opl.p1 (n := Opl.nil ?_))))))))))
    exact hk2 _ _ ⟨_, _, H, ⟨(by first | rfl | (show PV.lit (.bool _) = _; congr 2; simp_all)), trivial⟩⟩
   rw [if_pos c7] at H
   have e12 : ((r2.1.length : Int) == (r3.1.length : Int)) = true := by simpa using c7
   try rw [e12]
   refine Opl.ldb (v := .agg [pv2, pv3]) h30 rfl T26 rfl rfl rfl rfl (Opl.ldb (v := .agg [pv4, pv5]) h31 rfl T42 rfl rfl rfl rfl ?_)
   obtain ⟨r7, h_r7, H⟩ := obs H
   refine Opl.callc (impl_TraceValid.ev h2 h3 h4 h5 h_r7) rfl rfl rfl rfl ⟨(.aggL ⟨h2.plain, h3.plain, trivial⟩), (.aggL ⟨h4.plain, h5.plain, trivial⟩), trivial⟩ (by decide) (Opl.p1 (n := Opl.p1 (n := Opl.p1 (n := ?_))))
   by_cases c8 : r7 = true
   case pos =>
    rw [if_pos c8] at H
    have e13 : (!r7) = false := by simpa using c8
    try rw [e13]
    refine Opl.sk4 rfl rfl rfl rfl (Opl.p1 (n := Opl.p1 (n := Opl.sk4 rfl rfl rfl rfl (Opl.skp rfl (Opl.p1 (n := Opl.p1 (n := Opl.nil ?_)))))))
    exact hk2 _ _ ⟨_, _, H, ⟨(by first | rfl | (show PV.lit (.bool _) = _; congr 2; simp_all)), trivial⟩⟩
   rw [if_neg c8] at H
   have e14 : (!r7) = true := by simpa using c8
   try rw [e14]
   refine Opl.p1 (v := .ptr i4 0) (n := Opl.ldb (v := pv10) h29 rfl T30 rfl rfl rfl rfl (Opl.len (xs := r3.1) (by exact h23) K30 rfl rfl rfl rfl (Opl.p1 (n := Opl.p1 (n := Opl.p1 (n := ?_))))))
   by_cases c9 : (r3.1.length : Int) = 0
   case neg =>
    rw [if_neg c9] at H
    have e16 : ((r3.1.length : Int) == 0) = false := by simpa using c9
    try rw [e16]
    refine Opl.sk4 rfl rfl rfl rfl (Opl.skp rfl (Opl.p1 (n := Opl.p1 (n := Opl.nil ?_))))
    exact hk2 _ _ ⟨_, _, H, ⟨(by first | rfl | (show PV.lit (.bool _) = _; congr 2; simp_all)), trivial⟩⟩
   rw [if_pos c9] at H
   have e15 : ((r3.1.length : Int) == 0) = true := by simpa using c9
   try rw [e15]
   refine Opl.ldb (v := .agg [pv2, pv3]) h30 rfl T26 rfl rfl rfl rfl ?_
   obtain ⟨r8, h_r8, H⟩ := obs H
   refine Opl.callc (impl_SystemValid.ev h2 h3 h_r8) rfl rfl rfl rfl ⟨(.aggL ⟨h2.plain, h3.plain, trivial⟩), trivial⟩ (by decide) (Opl.ldb (v := .agg [pv2, pv3]) h30 rfl T26 rfl rfl rfl rfl ?_)
   obtain ⟨r9, h_r9, H⟩ := obs H
   refine Opl.callc (spec_SystemValid.ev h2 h3 h_r9) rfl rfl rfl rfl ⟨(.aggL ⟨h2.plain, h3.plain, trivial⟩), trivial⟩ (by decide) (Opl.p1 (n := Opl.p1 (n := Opl.p1 (n := Opl.nil ?_))))
   exact hk2 _ _ ⟨_, _, H, ⟨(by first | rfl | (show PV.lit (.bool _) = _; congr 2; simp_all)), trivial⟩⟩
 rw [if_neg c6] at H
 have e18 : ((r2.1.length : Int) == 0) = false := by simpa using c6
 try rw [e18]
 refine Evr.condF rfl (Evr.skip (Evr.seq (Evr.sr rfl (Opl.p1 (v := .ptr i3 0) (n := Opl.ldb (v := pv7) h32 rfl T30 rfl rfl rfl rfl (Opl.len (xs := r2.1) (by exact h14) K30 rfl rfl rfl rfl (Opl.p1 (n := Opl.nil (Evr.block ?_)))))))))
 refine Evr.loop (Evr.rounds (n := k) (Inv := fun n tm S => n ≤ k ∧ ∃ (x67_1 : Int) (i5 : Abs.Id) (i6 : Abs.Id) (i7 : Abs.Id), laws_FnWithoutRounds.l3 n x67_1 r1 r2 = some r ∧ Has tm [(3, .ptr i5 0), (4, .ptr i6 0), (5, .ptr i7 0), (65, pv7), (66, .lit (.int .i64 (r2.1.length : Int))), (67, .lit (.int .i64 x67_1))] ∧ Box (.ptr i5 0) [pv2, pv3] S ∧ Box (.ptr i6 0) [pv4, pv5] S ∧ Box (.ptr i7 0) [pv7, pv8] S ∧ Ap (.ptr i5 0) (.ptr i6 0) ∧ Ap (.ptr i5 0) (.ptr i7 0) ∧ Ap (.ptr i6 0) (.ptr i7 0)) ?_ ?_ ?_)
 · exact ⟨Nat.le_refl _, _, _, _, _, H, ⟨rfl, rfl, rfl, rfl, rfl, rfl, trivial⟩, h30, h31, h32, ap1, ap2, ap3⟩
 ·
  rintro tm S ⟨_, _, _, _, _, H, -⟩
  simp [laws_FnWithoutRounds.l3] at H
 ·
  rintro n1 ih1 tm S ⟨hle, x67_1, i5, i6, i7, H, hh, h33, h34, h35, ap7, ap8, ap9⟩
  simp only [laws_FnWithoutRounds.l3] at H
  rw [hh.eq]
  refine Evr.sr rfl (Opl.p1 (n := Opl.nil (Evr.seq ?_)))
  by_cases c10 : x67_1 < (r2.1.length : Int)
  case neg =>
   rw [if_neg c10] at H
   have e22 : (decide (x67_1 < (r2.1.length : Int))) = false := by simpa using c10
   try rw [e22]
   refine Evr.condF rfl (Evr.exit rfl (Evr.seq (Evr.regionD rfl (by kernel_rfl) (Opl.ldb (v := .agg [pv2, pv3]) h33 rfl T26 rfl rfl rfl rfl (Opl.ldb (v := .agg [pv7, pv8]) h35 rfl T42 rfl rfl rfl rfl ?_)))))
   obtain ⟨r11, h_r11, H⟩ := obs H
   refine Opl.callc (impl_TraceValid.ev h2 h3 h14 h15 h_r11) rfl rfl rfl rfl ⟨(.aggL ⟨h2.plain, h3.plain, trivial⟩), (.aggL ⟨h14.plain, h15.plain, trivial⟩), trivial⟩ (by decide) (Opl.p1 (n := ?_))
   by_cases c19 : r11 = true
   case neg =>
    rw [if_neg c19] at H
    obtain rfl : r11 = false := by simpa using c19
    refine Opl.sk8 rfl rfl rfl rfl rfl rfl rfl rfl (Opl.sk8 rfl rfl rfl rfl rfl rfl rfl rfl (Opl.skp rfl (Opl.p1 (n := Opl.p1 (n := Opl.nil ?_)))))
    obtain rfl := sinj H
    refine Evr.ret1 Try.func5 rfl ?_
    show (.lit (.bool false) : PV) = _
    first | rfl | (simp only [go_sem]; rfl)
   rw [if_pos c19] at H
   obtain rfl : r11 = true := by simpa using c19
   refine Opl.p1 (v := .ptr i7 0) (n := Opl.ldb (v := pv7) h35 rfl T30 rfl rfl rfl rfl (Opl.p1 (v := .ptr i7 0) (n := Opl.ldb (v := pv7) h35 rfl T30 rfl rfl rfl rfl (Opl.len (xs := r2.1) (by exact h14) K30 rfl rfl rfl rfl (Opl.p1 (n := ?_))))))
   obtain ⟨c20, H⟩ := peel H
   obtain ⟨c21, H⟩ := peel H
   obtain ⟨c22, H⟩ := peel H
   obtain ⟨c23, H⟩ := peel H
   refine Opl.idx (M := (cSl (cInt .i64))) (xs := r2.1) (j := (wrap64 ((r2.1.length : Int) - 1))) ([] : List Int) (by exact h14) rfl (by omega) (by omega) K30 Z27 rfl rfl ?_
   rintro p3 q3 h44
   obtain ⟨pv15, rfl, h45⟩ := h44
   refine Opl.lda (pv15) rfl T27 rfl rfl rfl rfl (Opl.p1 (v := .ptr i6 0) (n := Opl.ldb (v := pv4) h34 rfl T30 rfl rfl rfl rfl (Opl.p1 (v := .ptr i6 0) (n := Opl.ldb (v := pv4) h34 rfl T30 rfl rfl rfl rfl (Opl.len (xs := r1.2.1) (by exact h4) K30 rfl rfl rfl rfl (Opl.p1 (n := Opl.idx (M := (cSl (cInt .i64))) (xs := r1.2.1) (j := (wrap64 ((r1.2.1.length : Int) - 1))) ([] : List Int) (by exact h4) rfl (by omega) (by omega) K30 Z27 rfl rfl ?_)))))))
   rintro p4 q4 h46
   obtain ⟨pv16, rfl, h47⟩ := h46
   refine Opl.lda (pv16) rfl T27 rfl rfl rfl rfl ?_
   obtain ⟨r12, h_r12, H⟩ := obs H
   refine Opl.callc (laws_wcInts.ev h45 h47 h_r12) rfl rfl rfl rfl ⟨h45.plain, h47.plain, trivial⟩ (by decide) (Opl.p1 (n := Opl.p1 (n := Opl.nil ?_)))
   obtain rfl := sinj H
   refine Evr.ret1 Try.func5 rfl ?_
   show (.lit (.bool r12) : PV) = _
   first | rfl | (simp only [go_sem]; rfl)
  rw [if_pos c10] at H
  have e19 : (decide (x67_1 < (r2.1.length : Int))) = true := by simpa using c10
  try rw [e19]
  refine Evr.condT rfl (Evr.skip (Evr.seq (Evr.block (Evr.sr rfl (Opl.p1 (n := ?_))))))
  obtain ⟨c11, H⟩ := peel H
  obtain ⟨c12, H⟩ := peel H
  obtain ⟨c13, H⟩ := peel H
  obtain ⟨c14, H⟩ := peel H
  refine Opl.idx (M := (cSl (cInt .i64))) (xs := r2.1) (j := x67_1) ([] : List Int) (by exact h14) rfl (by omega) (by omega) K30 Z27 rfl rfl ?_
  rintro p1 q1 h36
  obtain ⟨pv12, rfl, h37⟩ := h36
  refine Opl.lda (pv12) rfl T27 rfl rfl rfl rfl (Opl.p1 (n := Opl.p1 (n := Opl.nil (Evr.sr rfl (Opl.p1 (v := .ptr i7 0) (n := Opl.ldb (v := pv7) h35 rfl T30 rfl rfl rfl rfl (Opl.p1 (n := Opl.slcT (M := (cSl (cInt .i64))) (b := x67_1) (by exact h14) rfl  (by omega) (by omega) K30 Z27 rfl rfl rfl ?_))))))))
  rintro pv13 h38
  refine Opl.len (xs := (r2.1.take (x67_1 : Int).toNat)) (by exact h38) K30 rfl rfl rfl rfl (Opl.p1 (n := Opl.nil (Evr.block ?_)))
  refine Evr.loop (Evr.rounds (n := n1) (Inv := fun n tm S => n ≤ n1 ∧ ∃ (x77q2_1 : Int) (i8 : Abs.Id) (i9 : Abs.Id) (i10 : Abs.Id), laws_FnWithoutRounds.l4 n x77q2_1 r1 r2 x67_1 = some r ∧ Has tm [(3, .ptr i8 0), (4, .ptr i9 0), (5, .ptr i10 0), (8, pv12), (65, pv7), (66, .lit (.int .i64 (r2.1.length : Int))), (67, .lit (.int .i64 x67_1)), (75, pv13), (76, .lit (.int .i64 ((r2.1.take (x67_1 : Int).toNat).length : Int))), (77, .lit (.int .i64 x77q2_1))] ∧ Box (.ptr i8 0) [pv2, pv3] S ∧ Box (.ptr i9 0) [pv4, pv5] S ∧ Box (.ptr i10 0) [pv7, pv8] S ∧ Ap (.ptr i8 0) (.ptr i9 0) ∧ Ap (.ptr i8 0) (.ptr i10 0) ∧ Ap (.ptr i9 0) (.ptr i10 0)) ?_ ?_ ?_)
  · exact ⟨Nat.le_refl _, _, _, _, _, H, ⟨rfl, rfl, rfl, rfl, rfl, rfl, rfl, rfl, rfl, rfl, trivial⟩, h33, h34, h35, ap7, ap8, ap9⟩
  ·
   rintro tm S ⟨_, _, _, _, _, H, -⟩
   simp [laws_FnWithoutRounds.l4] at H
  ·
   rintro n2 ih2 tm S ⟨hle, x77q2_1, i8, i9, i10, H, hh, h39, h40, h41, ap10, ap11, ap12⟩
   simp only [laws_FnWithoutRounds.l4] at H
   rw [hh.eq]
   refine Evr.sr rfl (Opl.p1 (n := Opl.nil (Evr.seq ?_)))
   by_cases c15 : x77q2_1 < ((r2.1.take (x67_1 : Int).toNat).length : Int)
   case neg =>
    rw [if_neg c15] at H
    have e21 : (decide (x77q2_1 < ((r2.1.take (x67_1 : Int).toNat).length : Int))) = false := by simpa using c15
    try rw [e21]
    refine Evr.condF rfl (Evr.exit rfl (Evr.inBlock (Evr.regionN rfl (Opl.p1 (n := Opl.p1 (n := Opl.nil ?_))))))
    exact ih1 _ (by omega) _ _ ⟨by omega, _, _, _, _, H, ⟨rfl, rfl, rfl, rfl, rfl, rfl, trivial⟩, h39, h40, h41, ap10, ap11, ap12⟩
   rw [if_pos c15] at H
   have e20 : (decide (x77q2_1 < ((r2.1.take (x67_1 : Int).toNat).length : Int))) = true := by simpa using c15
   try rw [e20]
   refine Evr.condT rfl (Evr.skip (Evr.seq (Evr.block (Evr.sr rfl ?_))))
   obtain ⟨c16, H⟩ := peel H
   obtain ⟨c17, H⟩ := peel H
   refine Opl.idx (M := (cSl (cInt .i64))) (xs := (r2.1.take (x67_1 : Int).toNat)) (j := x77q2_1) ([] : List Int) (by exact h38) rfl (by omega) (by omega) K30 Z27 rfl rfl ?_
   rintro p2 q2 h42
   obtain ⟨pv14, rfl, h43⟩ := h42
   refine Opl.lda (pv14) rfl T27 rfl rfl rfl rfl (Opl.p1 (n := Opl.nil (Evr.sr rfl (Opl.p1 (n := Opl.p1 (n := ?_))))))
   obtain ⟨r10, h_r10, H⟩ := obs H
   refine Opl.callc (laws_wcInts.ev h37 h43 h_r10) rfl rfl rfl rfl ⟨h37.plain, h43.plain, trivial⟩ (by decide) (Opl.nil ?_)
   by_cases c18 : r10 = true
   case pos =>
    rw [if_pos c18] at H
    obtain rfl : r10 = true := by simpa using c18
    refine Evr.condT rfl (Evr.sr rfl (Opl.p1 (n := Opl.nil ?_)))
    obtain rfl := sinj H
    refine Evr.ret1 Try.func5 rfl ?_
    show (.lit (.bool false) : PV) = _
    first | rfl | (simp only [go_sem]; rfl)
   rw [if_neg c18] at H
   obtain rfl : r10 = false := by simpa using c18
   refine Evr.condF rfl (Evr.skip (Evr.inBlock (Evr.regionN rfl (Opl.p1 (n := Opl.p1 (n := Opl.nil ?_))))))
   exact ih2 _ (by omega) _ _ ⟨by omega, _, _, _, _, H, ⟨rfl, rfl, rfl, rfl, rfl, rfl, rfl, rfl, rfl, rfl, trivial⟩, h39, h40, h41, ap10, ap11, ap12⟩
end Go.Proofs.Ytpjmiaooogephaa.PA
