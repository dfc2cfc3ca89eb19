/- Walks of Go functions: each is shown to answer as the Lean function beside it tells, under the conditions that its theorem names. -/
import Derived.Test.YtpjmiaooogephaaProg
import Derived.KernelRfl
import Derived.Below
import Derived.Deep.Draws
import Derived.Deep.AppendLies
import Derived.Maps.AppendAt
import Derived.OwnWalk
import Derived.Laws.BytesArg
import Derived.Laws.MakeOwn
import Derived.Laws.OwnMore
import Derived.Deep.OwnRows
import Derived.Tactics
import Derived.Lib.ConvBytes
import Derived.Laws.Slices
import Derived.WalkKit
import Derived.RowKit3
import Derived.Deep.LoopGhost
import Derived.Deep.QuietTactic
import Derived.BigQuiet
import Derived.WideLaws
import Derived.Deep.DeepCutAuto
import Derived.Deep.CutBlock
import Derived.Deep.RegionHeld3
import Derived.Laws.Rows
import Derived.Lib.AppendStr
import Derived.ArgAppend
import Derived.Laws.IdiomCopy
import Derived.OrdersHeld
import Derived.Laws.BitsLemmas
import Derived.RowKit
import Derived.Laws.StructEq
import Derived.Lib.SliceRun
import Derived.WalkSpells
import Derived.ChangeArms
import Derived.ChangeSlices
import Derived.Deep.Slices
import Derived.Attr
import Derived.Laws.Append
import Derived.Laws.AppendOwn
import Derived.Laws.Entries
import Derived.Calls
import Derived.Laws.Sem
import Derived.Test.YtpjmiaooogephaaKPfd42c9e6b0
import Derived.Test.YtpjmiaooogephaaKPc2023be03f
namespace Go.Proofs.Ytpjmiaooogephaa.PA
open Go Go.Abs Go.RowKit Go.Proofs Go.Proofs.YtpjmiaooogephaaW.PrintWords Go.Proofs.YtpjmiaooogephaaW.PrintLast Go.Proofs.YtpjmiaooogephaaW.PrintMore
set_option maxRecDepth 100000
set_option maxHeartbeats 4000000
set_option linter.unusedVariables false
set_option linter.unusedSimpArgs false
theorem laws_FnReplayTrace.ev {k : Nat} {l0 : List Int} {v0 : PV} (hv0 : Sl (cInt .u8) l0 v0) {r : Bool} (H : laws_FnReplayTrace.f k l0 = some r) : Ret Try.prog 6 [v0] fun v S => v = .lit (.bool r) := by
 unfold laws_FnReplayTrace.f at H
 refine Ret.intro Try.func6 rfl (Nat.le_of_ble_eq_true rfl) rfl ?_
 rw [tm1]
 refine Evr.sr rfl (Opl.p1 (n := Opl.nil (Evr.seq (Evr.sr rfl (Opl.p1 (n := Opl.len (xs := l0) (by exact hv0) K22 rfl rfl rfl rfl (Opl.p1 (n := Opl.nil ?_))))))))
 by_cases c1 : (l0.length : Int) > 1048576
 case pos =>
  rw [if_pos c1] at H
  have e1 : (decide ((l0.length : Int) > 1048576)) = true := by simpa using c1
  try rw [e1]
  refine Evr.condT rfl (Evr.sr rfl (Opl.p1 (n := Opl.nil ?_)))
  obtain rfl := Option.some.inj H
  refine Evr.ret1 Try.func6 rfl ?_
  show (.lit (.bool true) : PV) = _
  first | rfl | (simp only [go_sem]; rfl)
 rw [if_neg c1] at H
 have e2 : (decide ((l0.length : Int) > 1048576)) = false := by simpa using c1
 try rw [e2]
 refine Evr.condF rfl (Evr.skip (Evr.sr rfl (Opl.p1 (n := ?_))))
 obtain ⟨r1, h_r1, H⟩ := Option.bind_eq_some_iff.1 H
 refine Opl.call (spec_DrawTraceValid.ev hv0 h_r1) rfl rfl rfl rfl ⟨hv0.plain, trivial⟩ (by decide) ?_
 rintro _ ⟨_, _, rfl, ⟨pv2, pv3, rfl, h2, h3⟩, ⟨pv4, pv5, rfl, h4, h5⟩⟩
 refine Opl.p1 (n := Opl.p1 (v := .agg [pv2, pv3]) (n := Opl.p1 (v := .agg [pv4, pv5]) (n := Opl.alloc T26 rfl rfl rfl ?_)))
 rintro i1 S h6 u1 w1
 refine Opl.alloc T42 rfl rfl rfl ?_
 rintro i2 S h7 u2 w2
 have ap1 := w2.box h6
 have h8 := u2.box h6 ap1
 refine Opl.stb (vs := [pv2, pv3]) h8 rfl rfl Z26 rfl (Nat.le_of_ble_eq_true rfl) (by simp only [List.all_cons, List.all_nil, h2.one, h3.one, Bool.and_true, Bool.true_and] <;> rfl) rfl rfl rfl ?_
 rintro S (h9 : Box (.ptr i1 0) [pv2, pv3] _) u3
 have h10 := u3.box h7 ap1.symm
 refine Opl.stb (vs := [pv4, pv5]) h10 rfl rfl Z42 rfl (Nat.le_of_ble_eq_true rfl) (by simp only [List.all_cons, List.all_nil, h4.one, h5.one, Bool.and_true, Bool.true_and] <;> rfl) rfl rfl rfl ?_
 rintro S (h11 : Box (.ptr i2 0) [pv4, pv5] _) u4
 have h12 := u4.box h9 ap1
 refine Opl.nil (Evr.sr rfl (Opl.ldb (v := .agg [pv2, pv3]) h12 rfl T26 rfl rfl rfl rfl (Opl.ldb (v := .agg [pv4, pv5]) h11 rfl T42 rfl rfl rfl rfl ?_)))
 obtain ⟨r2, h_r2, H⟩ := Option.bind_eq_some_iff.1 H
 refine Opl.callc (spec_TraceValid.ev h2 h3 h4 h5 h_r2) rfl rfl rfl rfl ⟨(.aggL ⟨h2.plain, h3.plain, trivial⟩), (.aggL ⟨h4.plain, h5.plain, trivial⟩), trivial⟩ (by decide) (Opl.p1 (n := Opl.nil (Evr.seq (Evr.seq (Evr.regionD rfl (by kernel_rfl) (Opl.ldb (v := .agg [pv2, pv3]) h12 rfl T26 rfl rfl rfl rfl (Opl.ldb (v := .agg [pv4, pv5]) h11 rfl T42 rfl rfl rfl rfl ?_)))))))
 obtain ⟨r3, h_r3, H⟩ := Option.bind_eq_some_iff.1 H
 refine Opl.callc (impl_TraceValid.ev h2 h3 h4 h5 h_r3) rfl rfl rfl rfl ⟨(.aggL ⟨h2.plain, h3.plain, trivial⟩), (.aggL ⟨h4.plain, h5.plain, trivial⟩), trivial⟩ (by decide) (Opl.p1 (n := Opl.p1 (n := Opl.p1 (n := ?_))))
 by_cases c2 : r3 ≠ r2
 case pos =>
  rw [if_pos c2] at H
  have e3 : (r3 != r2) = true := by simpa using c2
  try rw [e3]
  refine Opl.skp rfl (Opl.skp rfl (Opl.skp rfl (Opl.skp rfl (Opl.skp rfl (Opl.p1 (n := Opl.nil (Evr.condT rfl (Evr.sr rfl (Opl.p1 (n := Opl.nil ?_))))))))))
  obtain rfl := Option.some.inj H
  refine Evr.ret1 Try.func6 rfl ?_
  show (.lit (.bool false) : PV) = _
  first | rfl | (simp only [go_sem]; rfl)
 rw [if_neg c2] at H
 have e4 : (r3 != r2) = false := by simpa using c2
 try rw [e4]
 refine Opl.ldb (v := .agg [pv2, pv3]) h12 rfl T26 rfl rfl rfl rfl ?_
 obtain ⟨r4, h_r4, H⟩ := Option.bind_eq_some_iff.1 H
 refine Opl.callc (impl_SystemValid.ev h2 h3 h_r4) rfl rfl rfl rfl ⟨(.aggL ⟨h2.plain, h3.plain, trivial⟩), trivial⟩ (by decide) (Opl.ldb (v := .agg [pv2, pv3]) h12 rfl T26 rfl rfl rfl rfl ?_)
 obtain ⟨r5, h_r5, H⟩ := Option.bind_eq_some_iff.1 H
 refine Opl.callc (spec_SystemValid.ev h2 h3 h_r5) rfl rfl rfl rfl ⟨(.aggL ⟨h2.plain, h3.plain, trivial⟩), trivial⟩ (by decide) (Opl.p1 (n := Opl.p1 (n := Opl.nil ?_)))
 by_cases c3 : r4 ≠ r5
 case pos =>
  rw [if_pos c3] at H
  have e5 : (r4 != r5) = true := by simpa using c3
  try rw [e5]
  refine Evr.condT rfl (Evr.sr rfl (Opl.p1 (n := Opl.nil ?_)))
  obtain rfl := Option.some.inj H
  refine Evr.ret1 Try.func6 rfl ?_
  show (.lit (.bool false) : PV) = _
  first | rfl | (simp only [go_sem]; rfl)
 rw [if_neg c3] at H
 have e6 : (r4 != r5) = false := by simpa using c3
 try rw [e6]
 refine Evr.condF rfl (Evr.skip (Evr.seq (Evr.sr rfl (Opl.p1 (n := Opl.p1 (n := Opl.nil ?_))))))
 by_cases c4 : r2 = true
 case neg =>
  rw [if_neg c4] at H
  have e26 : (!r2) = true := by simpa using c4
  try rw [e26]
  refine Evr.condT rfl (Evr.sr rfl (Opl.p1 (n := Opl.nil ?_)))
  obtain rfl := Option.some.inj H
  refine Evr.ret1 Try.func6 rfl ?_
  show (.lit (.bool true) : PV) = _
  first | rfl | (simp only [go_sem]; rfl)
 rw [if_pos c4] at H
 have e7 : (!r2) = false := by simpa using c4
 try rw [e7]
 refine Evr.condF rfl (Evr.skip (Evr.sr rfl (Opl.ldb (v := .agg [pv2, pv3]) h12 rfl T26 rfl rfl rfl rfl (Opl.p1 (v := .ptr i2 1) (n := Opl.ldb (v := pv5) h11 rfl T27 rfl rfl rfl rfl ?_)))))
 obtain ⟨r6, h_r6, H⟩ := Option.bind_eq_some_iff.1 H
 refine Opl.call (impl_Replay.ev h2 h3 h5 h_r6) rfl rfl rfl rfl ⟨(.aggL ⟨h2.plain, h3.plain, trivial⟩), h5.plain, trivial⟩ (by decide) ?_
 rintro _ ⟨_, _, rfl, ⟨pv7, pv8, rfl, h14, h15⟩, rfl⟩
 refine Opl.p1 (n := Opl.p1 (v := .agg [pv7, pv8]) (n := Opl.p1 (v := .lit (.int .i64 r6.2)) (n := Opl.alloc T42 rfl rfl rfl ?_)))
 rintro i3 S h16 u5 w5
 have ap2 := w5.box h12
 have h17 := u5.box h12 ap2
 have ap3 := w5.box h11
 have h18 := u5.box h11 ap3
 refine Opl.stb (vs := [pv7, pv8]) h16 rfl rfl Z42 rfl (Nat.le_of_ble_eq_true rfl) (by simp only [List.all_cons, List.all_nil, h14.one, h15.one, Bool.and_true, Bool.true_and] <;> rfl) rfl rfl rfl ?_
 rintro S (h19 : Box (.ptr i3 0) [pv7, pv8] _) u6
 have h20 := u6.box h17 ap2
 have h21 := u6.box h18 ap3
 refine Opl.p1 (n := Opl.nil (Evr.sr rfl (Opl.ldb (v := .agg [pv2, pv3]) h20 rfl T26 rfl rfl rfl rfl (Opl.p1 (v := .ptr i2 0) (n := Opl.ldb (v := pv4) h21 rfl T30 rfl rfl rfl rfl ?_)))))
 obtain ⟨r7, h_r7, H⟩ := Option.bind_eq_some_iff.1 H
 refine Opl.call (impl_TraceOf.ev h2 h3 h4 h_r7) rfl rfl rfl rfl ⟨(.aggL ⟨h2.plain, h3.plain, trivial⟩), h4.plain, trivial⟩ (by decide) ?_
 rintro _ ⟨_, _, rfl, ⟨pv10, pv11, rfl, h23, h24⟩, rfl⟩
 refine Opl.p1 (n := Opl.p1 (v := .agg [pv10, pv11]) (n := Opl.p1 (v := .lit (.bool r7.2)) (n := Opl.alloc T42 rfl rfl rfl ?_)))
 rintro i4 S h25 u7 w7
 have ap4 := w7.box h20
 have h26 := u7.box h20 ap4
 have ap5 := w7.box h21
 have h27 := u7.box h21 ap5
 have ap6 := w7.box h19
 have h28 := u7.box h19 ap6
 refine Opl.stb (vs := [pv10, pv11]) h25 rfl rfl Z42 rfl (Nat.le_of_ble_eq_true rfl) (by simp only [List.all_cons, List.all_nil, h23.one, h24.one, Bool.and_true, Bool.true_and] <;> rfl) rfl rfl rfl ?_
 rintro S (h29 : Box (.ptr i4 0) [pv10, pv11] _) u8
 have h30 := u8.box h26 ap4
 have h31 := u8.box h27 ap5
 have h32 := u8.box h28 ap6
 refine Opl.p1 (n := Opl.nil (Evr.seq (Evr.sr rfl (Opl.p1 (n := Opl.p1 (v := .ptr i2 1) (n := Opl.ldb (v := pv5) h31 rfl T27 rfl rfl rfl rfl (Opl.len (xs := r1.2.2) (by exact h5) K27 rfl rfl rfl rfl (Opl.p1 (n := Opl.p1 (n := ?_))))))))))
 by_cases c5 : r6.2 ≠ (r1.2.2.length : Int)
 case pos =>
  rw [if_pos c5] at H
  have e8 : (r6.2 != (r1.2.2.length : Int)) = true := by simpa using c5
  try rw [e8]
  refine Opl.skp rfl (Opl.skp rfl (Opl.p1 (n := Opl.p1 (n := Opl.skp rfl (Opl.skp rfl (Opl.skp rfl (Opl.skp rfl (Opl.skp rfl (Opl.skp rfl (Opl.skp rfl (Opl.p1 (n := Opl.p1 (n := Opl.skp rfl (Opl.skp rfl (Opl.skp rfl (Opl.skp rfl (Opl.skp rfl (Opl.skp rfl (Opl.skp rfl (Opl.p1 (n := Opl.nil (Evr.condT rfl (Evr.sr rfl (Opl.p1 (n := Opl.nil ?_)))))))))))))))))))))))))
  obtain rfl := Option.some.inj H
  refine Evr.ret1 Try.func6 rfl ?_
  show (.lit (.bool false) : PV) = _
  first | rfl | (simp only [go_sem]; rfl)
 rw [if_neg c5] at H
 have e9 : (r6.2 != (r1.2.2.length : Int)) = false := by simpa using c5
 try rw [e9]
 refine Opl.p1 (n := Opl.p1 (n := Opl.p1 (n := Opl.p1 (n := ?_))))
 by_cases c6 : r7.2 = true
 case neg =>
  rw [if_neg c6] at H
  have e25 : (!r7.2) = true := by simpa using c6
  try rw [e25]
  refine Opl.skp rfl (Opl.skp rfl (Opl.skp rfl (Opl.skp rfl (Opl.skp rfl (Opl.skp rfl (Opl.skp rfl (Opl.p1 (n := Opl.p1 (n := Opl.skp rfl (Opl.skp rfl (Opl.skp rfl (Opl.skp rfl (Opl.skp rfl (Opl.skp rfl (Opl.skp rfl (Opl.p1 (n := Opl.nil (Evr.condT rfl (Evr.sr rfl (Opl.p1 (n := Opl.nil ?_)))))))))))))))))))))
  obtain rfl := Option.some.inj H
  refine Evr.ret1 Try.func6 rfl ?_
  show (.lit (.bool false) : PV) = _
  first | rfl | (simp only [go_sem]; rfl)
 rw [if_pos c6] at H
 have e10 : (!r7.2) = false := by simpa using c6
 try rw [e10]
 refine Opl.p1 (v := .ptr i3 0) (n := Opl.ldb (v := pv7) h32 rfl T30 rfl rfl rfl rfl (Opl.len (xs := r6.1.1) (by exact h14) K30 rfl rfl rfl rfl (Opl.p1 (v := .ptr i2 0) (n := Opl.ldb (v := pv4) h31 rfl T30 rfl rfl rfl rfl (Opl.len (xs := r1.2.1) (by exact h4) K30 rfl rfl rfl rfl (Opl.p1 (n := Opl.p1 (n := Opl.p1 (n := ?_)))))))))
 by_cases c7 : (r6.1.1.length : Int) ≠ (r1.2.1.length : Int)
 case pos =>
  rw [if_pos c7] at H
  have e11 : ((r6.1.1.length : Int) != (r1.2.1.length : Int)) = true := by simpa using c7
  try rw [e11]
  refine Opl.skp rfl (Opl.skp rfl (Opl.skp rfl (Opl.skp rfl (Opl.skp rfl (Opl.skp rfl (Opl.skp rfl (Opl.p1 (n := Opl.nil (Evr.condT rfl (Evr.sr rfl (Opl.p1 (n := Opl.nil ?_))))))))))))
  obtain rfl := Option.some.inj H
  refine Evr.ret1 Try.func6 rfl ?_
  show (.lit (.bool false) : PV) = _
  first | rfl | (simp only [go_sem]; rfl)
 rw [if_neg c7] at H
 have e12 : ((r6.1.1.length : Int) != (r1.2.1.length : Int)) = false := by simpa using c7
 try rw [e12]
 refine Opl.p1 (v := .ptr i4 0) (n := Opl.ldb (v := pv10) h29 rfl T30 rfl rfl rfl rfl (Opl.len (xs := r7.1.1) (by exact h23) K30 rfl rfl rfl rfl (Opl.p1 (v := .ptr i2 0) (n := Opl.ldb (v := pv4) h31 rfl T30 rfl rfl rfl rfl (Opl.len (xs := r1.2.1) (by exact h4) K30 rfl rfl rfl rfl (Opl.p1 (n := Opl.p1 (n := Opl.nil ?_))))))))
 by_cases c8 : (r7.1.1.length : Int) ≠ (r1.2.1.length : Int)
 case pos =>
  rw [if_pos c8] at H
  have e13 : ((r7.1.1.length : Int) != (r1.2.1.length : Int)) = true := by simpa using c8
  try rw [e13]
  refine Evr.condT rfl (Evr.sr rfl (Opl.p1 (n := Opl.nil ?_)))
  obtain rfl := Option.some.inj H
  refine Evr.ret1 Try.func6 rfl ?_
  show (.lit (.bool false) : PV) = _
  first | rfl | (simp only [go_sem]; rfl)
 rw [if_neg c8] at H
 have e14 : ((r7.1.1.length : Int) != (r1.2.1.length : Int)) = false := by simpa using c8
 try rw [e14]
 refine Evr.condF rfl (Evr.skip (Evr.seq (Evr.sr rfl (Opl.p1 (v := .ptr i2 0) (n := Opl.ldb (v := pv4) h31 rfl T30 rfl rfl rfl rfl (Opl.len (xs := r1.2.1) (by exact h4) K30 rfl rfl rfl rfl (Opl.p1 (n := Opl.nil (Evr.block ?_)))))))))
 refine Evr.loop (Evr.rounds (n := k) (Inv := fun n tm S => n ≤ k ∧ ∃ (x80_1 : Int) (i5 : Abs.Id) (i6 : Abs.Id) (i7 : Abs.Id) (i8 : Abs.Id), laws_FnReplayTrace.l1 n x80_1 r1 r6 r7 = some r ∧ Has tm [(3, .ptr i5 0), (4, .ptr i6 0), (6, .ptr i7 0), (8, .ptr i8 0), (79, .lit (.int .i64 (r1.2.1.length : Int))), (80, .lit (.int .i64 x80_1))] ∧ Box (.ptr i5 0) [pv2, pv3] S ∧ Box (.ptr i6 0) [pv4, pv5] S ∧ Box (.ptr i7 0) [pv7, pv8] S ∧ Box (.ptr i8 0) [pv10, pv11] S ∧ Ap (.ptr i5 0) (.ptr i6 0) ∧ Ap (.ptr i5 0) (.ptr i7 0) ∧ Ap (.ptr i5 0) (.ptr i8 0) ∧ Ap (.ptr i6 0) (.ptr i7 0) ∧ Ap (.ptr i6 0) (.ptr i8 0) ∧ Ap (.ptr i7 0) (.ptr i8 0)) ?_ ?_ ?_)
 · exact ⟨Nat.le_refl _, _, _, _, _, _, H, ⟨rfl, rfl, rfl, rfl, rfl, rfl, trivial⟩, h30, h31, h32, h29, ap1, ap2, ap4, ap3, ap5, ap6⟩
 ·
  rintro tm S ⟨_, _, _, _, _, _, H, -⟩
  simp [laws_FnReplayTrace.l1] at H
 ·
  rintro n1 ih1 tm S ⟨hle, x80_1, i5, i6, i7, i8, H, hh, h33, h34, h35, h36, ap7, ap8, ap9, ap10, ap11, ap12⟩
  simp only [laws_FnReplayTrace.l1] at H
  rw [hh.eq]
  refine Evr.sr rfl (Opl.p1 (n := Opl.nil (Evr.seq ?_)))
  by_cases c9 : x80_1 < (r1.2.1.length : Int)
  case neg =>
   rw [if_neg c9] at H
   have e24 : (decide (x80_1 < (r1.2.1.length : Int))) = false := by simpa using c9
   try rw [e24]
   refine Evr.condF rfl (Evr.exit rfl (Evr.sr rfl (Opl.ldb (v := .agg [pv2, pv3]) h33 rfl T26 rfl rfl rfl rfl (Opl.ldb (v := .agg [pv10, pv11]) h36 rfl T42 rfl rfl rfl rfl ?_))))
   obtain ⟨r11, h_r11, H⟩ := Option.bind_eq_some_iff.1 H
   refine Opl.callc (impl_TraceValid.ev h2 h3 h23 h24 h_r11) rfl rfl rfl rfl ⟨(.aggL ⟨h2.plain, h3.plain, trivial⟩), (.aggL ⟨h23.plain, h24.plain, trivial⟩), trivial⟩ (by decide) (Opl.p1 (n := Opl.nil ?_))
   obtain rfl := Option.some.inj H
   refine Evr.ret1 Try.func6 rfl ?_
   show (.lit (.bool r11) : PV) = _
   first | rfl | (simp only [go_sem]; rfl)
  rw [if_pos c9] at H
  have e15 : (decide (x80_1 < (r1.2.1.length : Int))) = true := by simpa using c9
  try rw [e15]
  refine Evr.condT rfl (Evr.skip (Evr.seq (Evr.block (Evr.sr rfl (Opl.p1 (n := Opl.p1 (n := Opl.nil (Evr.seq ?_))))))))
  refine Evr.join2 (fun tm S => ∃ (kq1 : Nat) (i9 : Abs.Id) (i10 : Abs.Id) (i11 : Abs.Id) (i12 : Abs.Id), laws_FnReplayTrace.l1 kq1 (wrap64 (x80_1 + 1)) r1 r6 r7 = some r ∧ kq1 ≤ n1 ∧ Has tm [(3, .ptr i9 0), (4, .ptr i10 0), (6, .ptr i11 0), (8, .ptr i12 0), (79, .lit (.int .i64 (r1.2.1.length : Int))), (80, .lit (.int .i64 x80_1))] ∧ Box (.ptr i9 0) [pv2, pv3] S ∧ Box (.ptr i10 0) [pv4, pv5] S ∧ Box (.ptr i11 0) [pv7, pv8] S ∧ Box (.ptr i12 0) [pv10, pv11] S ∧ Ap (.ptr i9 0) (.ptr i10 0) ∧ Ap (.ptr i9 0) (.ptr i11 0) ∧ Ap (.ptr i9 0) (.ptr i12 0) ∧ Ap (.ptr i10 0) (.ptr i11 0) ∧ Ap (.ptr i10 0) (.ptr i12 0) ∧ Ap (.ptr i11 0) (.ptr i12 0)) ?_ fun hk1 => ?_
  ·
   rintro tm S ⟨kq1, i9, i10, i11, i12, H, hle, hh, h37, h38, h39, h40, ap13, ap14, ap15, ap16, ap17, ap18⟩
   rw [hh.eq]
   refine Evr.inBlock (Evr.regionN rfl (Opl.p1 (n := Opl.p1 (n := Opl.nil ?_))))
   exact ih1 _ (by omega) _ _ ⟨by omega, _, _, _, _, _, H, ⟨rfl, rfl, rfl, rfl, rfl, rfl, trivial⟩, h37, h38, h39, h40, ap13, ap14, ap15, ap16, ap17, ap18⟩
  ·
   refine Evr.regionD rfl (by kernel_rfl) (Opl.p1 (v := .ptr i7 0) (n := Opl.ldb (v := pv7) h35 rfl T30 rfl rfl rfl rfl (Opl.p1 (n := ?_))))
   obtain ⟨c10, H⟩ := peel H
   obtain ⟨c11, H⟩ := peel H
   obtain ⟨c12, H⟩ := peel H
   obtain ⟨c13, H⟩ := peel H
   refine Opl.idx (M := (cSl (cInt .i64))) (xs := r6.1.1) (j := x80_1) ([] : List Int) (by exact h14) rfl (by omega) (by omega) K30 Z27 rfl rfl ?_
   rintro p1 q1 h41
   obtain ⟨pv12, rfl, h42⟩ := h41
   refine Opl.lda (pv12) rfl T27 rfl rfl rfl rfl (Opl.p1 (v := .ptr i6 0) (n := Opl.ldb (v := pv4) h34 rfl T30 rfl rfl rfl rfl (Opl.p1 (n := Opl.idx (M := (cSl (cInt .i64))) (xs := r1.2.1) (j := x80_1) ([] : List Int) (by exact h4) rfl (by omega) (by omega) K30 Z27 rfl rfl ?_))))
   rintro p2 q2 h43
   obtain ⟨pv13, rfl, h44⟩ := h43
   refine Opl.lda (pv13) rfl T27 rfl rfl rfl rfl ?_
   obtain ⟨r8, h_r8, H⟩ := Option.bind_eq_some_iff.1 H
   refine Opl.callc (laws_wcInts.ev h42 h44 h_r8) rfl rfl rfl rfl ⟨h42.plain, h44.plain, trivial⟩ (by decide) (Opl.p1 (n := Opl.p1 (n := ?_)))
   by_cases c14 : r8 = true
   case neg =>
    rw [if_neg c14] at H
    have e23 : (!r8) = true := by simpa using c14
    try rw [e23]
    refine Opl.skp rfl (Opl.skp rfl (Opl.skp rfl (Opl.skp rfl (Opl.skp rfl (Opl.skp rfl (Opl.skp rfl (Opl.skp rfl (Opl.skp rfl (Opl.skp rfl (Opl.skp rfl (Opl.skp rfl (Opl.p1 (n := Opl.p1 (n := Opl.skp rfl (Opl.skp rfl (Opl.skp rfl (Opl.skp rfl (Opl.skp rfl (Opl.skp rfl (Opl.skp rfl (Opl.skp rfl (Opl.skp rfl (Opl.skp rfl (Opl.skp rfl (Opl.skp rfl (Opl.skp rfl (Opl.skp rfl (Opl.skp rfl (Opl.skp rfl (Opl.skp rfl (Opl.skp rfl (Opl.p1 (n := Opl.nil (Evr.condT rfl (Evr.sr rfl (Opl.p1 (n := Opl.nil ?_)))))))))))))))))))))))))))))))))))))
    obtain rfl := Option.some.inj H
    refine Evr.ret1 Try.func6 rfl ?_
    show (.lit (.bool false) : PV) = _
    first | rfl | (simp only [go_sem]; rfl)
   rw [if_pos c14] at H
   have e16 : (!r8) = false := by simpa using c14
   try rw [e16]
   refine Opl.p1 (v := .ptr i8 0) (n := Opl.ldb (v := pv10) h36 rfl T30 rfl rfl rfl rfl (Opl.p1 (n := ?_)))
   obtain ⟨c15, H⟩ := peel H
   obtain ⟨c16, H⟩ := peel H
   obtain ⟨c17, H⟩ := peel H
   obtain ⟨c18, H⟩ := peel H
   refine Opl.idx (M := (cSl (cInt .i64))) (xs := r7.1.1) (j := x80_1) ([] : List Int) (by exact h23) rfl (by omega) (by omega) K30 Z27 rfl rfl ?_
   rintro p3 q3 h45
   obtain ⟨pv14, rfl, h46⟩ := h45
   refine Opl.lda (pv14) rfl T27 rfl rfl rfl rfl (Opl.p1 (v := .ptr i6 0) (n := Opl.ldb (v := pv4) h34 rfl T30 rfl rfl rfl rfl (Opl.p1 (n := Opl.idx (M := (cSl (cInt .i64))) (xs := r1.2.1) (j := x80_1) ([] : List Int) (by exact h4) rfl (by omega) (by omega) K30 Z27 rfl rfl ?_))))
   rintro p4 q4 h47
   obtain ⟨pv15, rfl, h48⟩ := h47
   refine Opl.lda (pv15) rfl T27 rfl rfl rfl rfl ?_
   obtain ⟨r9, h_r9, H⟩ := Option.bind_eq_some_iff.1 H
   refine Opl.callc (laws_wcInts.ev h46 h48 h_r9) rfl rfl rfl rfl ⟨h46.plain, h48.plain, trivial⟩ (by decide) (Opl.p1 (n := Opl.p1 (n := Opl.p1 (n := ?_))))
   by_cases c19 : r9 = true
   case neg =>
    rw [if_neg c19] at H
    have e22 : (!r9) = true := by simpa using c19
    try rw [e22]
    refine Opl.skp rfl (Opl.skp rfl (Opl.skp rfl (Opl.skp rfl (Opl.skp rfl (Opl.skp rfl (Opl.skp rfl (Opl.skp rfl (Opl.skp rfl (Opl.skp rfl (Opl.skp rfl (Opl.skp rfl (Opl.skp rfl (Opl.skp rfl (Opl.skp rfl (Opl.skp rfl (Opl.skp rfl (Opl.skp rfl (Opl.p1 (n := Opl.nil (Evr.condT rfl (Evr.sr rfl (Opl.p1 (n := Opl.nil ?_)))))))))))))))))))))))
    obtain rfl := Option.some.inj H
    refine Evr.ret1 Try.func6 rfl ?_
    show (.lit (.bool false) : PV) = _
    first | rfl | (simp only [go_sem]; rfl)
   rw [if_pos c19] at H
   have e17 : (!r9) = false := by simpa using c19
   try rw [e17]
   refine Opl.p1 (n := Opl.p1 (n := Opl.p1 (n := ?_)))
   by_cases c20 : x80_1 > 0
   case neg =>
    rw [if_neg c20] at H
    have e21 : (decide (x80_1 > 0)) = false := by simpa using c20
    try rw [e21]
    refine Opl.skp rfl (Opl.skp rfl (Opl.skp rfl (Opl.skp rfl (Opl.skp rfl (Opl.skp rfl (Opl.skp rfl (Opl.skp rfl (Opl.skp rfl (Opl.skp rfl (Opl.skp rfl (Opl.skp rfl (Opl.skp rfl (Opl.skp rfl (Opl.p1 (n := Opl.p1 (n := Opl.nil (Evr.condF rfl (Evr.skip ?_))))))))))))))))))
    exact hk1 _ _ ⟨_, _, _, _, _, H, by omega, ⟨rfl, rfl, rfl, rfl, rfl, rfl, trivial⟩, h33, h34, h35, h36, ap7, ap8, ap9, ap10, ap11, ap12⟩
   rw [if_pos c20] at H
   have e18 : (decide (x80_1 > 0)) = true := by simpa using c20
   try rw [e18]
   refine Opl.ldb (v := .agg [pv2, pv3]) h33 rfl T26 rfl rfl rfl rfl (Opl.p1 (v := .ptr i6 0) (n := Opl.ldb (v := pv4) h34 rfl T30 rfl rfl rfl rfl (Opl.p1 (n := Opl.p1 (n := ?_)))))
   obtain ⟨c21, H⟩ := peel H
   obtain ⟨c22, H⟩ := peel H
   obtain ⟨c23, H⟩ := peel H
   obtain ⟨c24, H⟩ := peel H
   refine Opl.idx (M := (cSl (cInt .i64))) (xs := r1.2.1) (j := (wrap64 (x80_1 - 1))) ([] : List Int) (by exact h4) rfl (by omega) (by omega) K30 Z27 rfl rfl ?_
   rintro p5 q5 h49
   obtain ⟨pv16, rfl, h50⟩ := h49
   refine Opl.lda (pv16) rfl T27 rfl rfl rfl rfl (Opl.p1 (v := .ptr i6 0) (n := Opl.ldb (v := pv4) h34 rfl T30 rfl rfl rfl rfl (Opl.p1 (n := Opl.idx (M := (cSl (cInt .i64))) (xs := r1.2.1) (j := x80_1) ([] : List Int) (by exact h4) rfl (by omega) (by omega) K30 Z27 rfl rfl ?_))))
   rintro p6 q6 h51
   obtain ⟨pv17, rfl, h52⟩ := h51
   refine Opl.lda (pv17) rfl T27 rfl rfl rfl rfl ?_
   obtain ⟨r10, h_r10, H⟩ := Option.bind_eq_some_iff.1 H
   refine Opl.callc (impl_Follows.ev h2 h3 h50 h52 h_r10) rfl rfl rfl rfl ⟨(.aggL ⟨h2.plain, h3.plain, trivial⟩), h50.plain, h52.plain, trivial⟩ (by decide) (Opl.p1 (n := Opl.p1 (n := Opl.p1 (n := Opl.nil ?_))))
   by_cases c25 : r10 = true
   case pos =>
    rw [if_pos c25] at H
    have e19 : (!r10) = false := by simpa using c25
    try rw [e19]
    refine Evr.condF rfl (Evr.skip ?_)
    exact hk1 _ _ ⟨_, _, _, _, _, H, by omega, ⟨rfl, rfl, rfl, rfl, rfl, rfl, trivial⟩, h33, h34, h35, h36, ap7, ap8, ap9, ap10, ap11, ap12⟩
   rw [if_neg c25] at H
   have e20 : (!r10) = true := by simpa using c25
   try rw [e20]
   refine Evr.condT rfl (Evr.sr rfl (Opl.p1 (n := Opl.nil ?_)))
   obtain rfl := Option.some.inj H
   refine Evr.ret1 Try.func6 rfl ?_
   show (.lit (.bool false) : PV) = _
   first | rfl | (simp only [go_sem]; rfl)
end Go.Proofs.Ytpjmiaooogephaa.PA
