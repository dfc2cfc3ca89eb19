/- Walks of Go functions: each is shown to answer as the Lean function beside it tells, under the conditions that its theorem names. -/
import Derived.Test.YtaajnneigmgikaaProg
import Derived.KernelRfl
import Derived.Below
import Derived.Deep.Draws
import Derived.Deep.AppendLies
import Derived.Maps.AppendAt
import Derived.OwnWalk
import Derived.Laws.BytesArg
import Derived.Laws.MakeOwn
import Derived.Laws.OwnMore
import Derived.Deep.OwnRows
import Derived.Tactics
import Derived.Lib.ConvBytes
import Derived.Laws.Slices
import Derived.WalkKit
import Derived.RowKit3
import Derived.Deep.LoopGhost
import Derived.Deep.QuietTactic
import Derived.BigQuiet
import Derived.WideLaws
import Derived.Deep.DeepCutAuto
import Derived.Deep.CutBlock
import Derived.Deep.RegionHeld3
import Derived.Laws.Rows
import Derived.Lib.AppendStr
import Derived.ArgAppend
import Derived.Laws.IdiomCopy
import Derived.OrdersHeld
import Derived.Laws.BitsLemmas
import Derived.RowKit
import Derived.Laws.StructEq
import Derived.Lib.SliceRun
import Derived.WalkSpells
import Derived.ChangeArms
import Derived.ChangeSlices
import Derived.Deep.Slices
import Derived.Attr
import Derived.Laws.Append
import Derived.Laws.AppendOwn
import Derived.Laws.Entries
import Derived.Calls
import Derived.Laws.Sem
import Derived.Test.YtaajnneigmgikaaKPbf1914f49c
import Derived.Test.YtaajnneigmgikaaKPeae5120218
namespace Go.Proofs.Ytaajnneigmgikaa.PA
open Go Go.Abs Go.RowKit Go.Proofs Go.Proofs.YtaajnneigmgikaaW.PrintWords Go.Proofs.YtaajnneigmgikaaW.PrintLast Go.Proofs.YtaajnneigmgikaaW.PrintMore
set_option maxRecDepth 100000
set_option maxHeartbeats 4000000
set_option linter.unusedVariables false
set_option linter.unusedSimpArgs false
theorem laws_FnExactLiesBetween.ev {k : Nat} {a0_0 : Int} {l0_1 : List (List Int)} {v0_1 : PV} (hv0_1 : Sl (cSl (cInt .i64)) l0_1 v0_1) {a1 : Int} {a2_0 : Int} {l2_1 : List LAnd} {v2_1 : PV} (hv2_1 : Sl cLAnd l2_1 v2_1) {a3 : Int} {r : Bool} (H : laws_FnExactLiesBetween.f k a0_0 l0_1 a1 a2_0 l2_1 a3 = some r) : Ret Try.prog 3 [.agg [.lit (.int .i64 a0_0), v0_1], .lit (.int .i64 a1), .agg [.lit (.int .i64 a2_0), v2_1], .lit (.int .i64 a3)] fun v S => v = .lit (.bool r) := by
 unfold laws_FnExactLiesBetween.f at H
 refine Ret.intro Try.func3 rfl (Nat.le_of_ble_eq_true rfl) rfl ?_
 rw [tm4]
 refine Evr.sr rfl (Opl.box (cs := [.lit (.int .i64 a0_0), v0_1]) rfl rfl rfl rfl ?_)
 rintro i1 S h1 u1 w1
 refine Opl.box (cs := [.lit (.int .i64 a2_0), v2_1]) rfl rfl rfl rfl ?_
 rintro i2 S h2 u2 w2
 have ap1 := w2.box h1
 have h3 := u2.box h1 ap1
 refine Opl.p1 (n := Opl.nil (Evr.sr rfl (Opl.p1 (n := Opl.nil (Evr.sr rfl (Opl.ldb (v := .agg [.lit (.int .i64 a0_0), v0_1]) h3 rfl T24 rfl rfl rfl rfl (Opl.p1 (n := ?_))))))))
 obtain ⟨r1, h_r1, H⟩ := Option.bind_eq_some_iff.1 H
 refine Opl.callc (laws_szClauses.ev hv0_1 h_r1) rfl rfl rfl rfl ⟨(.aggL ⟨(.lit _), hv0_1.plain, trivial⟩), (.lit _), trivial⟩ (by decide) (Opl.p1 (n := Opl.nil (Evr.seq (Evr.sr rfl (Opl.p1 (n := Opl.p1 (n := Opl.nil ?_)))))))
 by_cases c1 : r1 < 0
 case pos =>
  rw [if_pos c1] at H
  have e1 : (decide (r1 < 0)) = true := by simpa using c1
  try rw [e1]
  refine Evr.condT rfl (Evr.sr rfl (Opl.p1 (n := Opl.nil ?_)))
  obtain rfl := Option.some.inj H
  refine Evr.ret1 Try.func3 rfl ?_
  show (.lit (.bool true) : PV) = _
  first | rfl | (simp only [go_sem]; rfl)
 rw [if_neg c1] at H
 have e2 : (decide (r1 < 0)) = false := by simpa using c1
 try rw [e2]
 refine Evr.condF rfl (Evr.skip (Evr.sr rfl (Opl.ldb (v := .agg [.lit (.int .i64 a2_0), v2_1]) h2 rfl T27 rfl rfl rfl rfl (Opl.p1 (n := ?_)))))
 obtain ⟨r2, h_r2, H⟩ := Option.bind_eq_some_iff.1 H
 refine Opl.callc (laws_szCircuit.ev hv2_1 h_r2) rfl rfl rfl rfl ⟨(.aggL ⟨(.lit _), hv2_1.plain, trivial⟩), (.lit _), trivial⟩ (by decide) (Opl.p1 (n := Opl.nil (Evr.seq (Evr.sr rfl (Opl.p1 (n := Opl.p1 (n := Opl.nil ?_)))))))
 by_cases c2 : r2 < 0
 case pos =>
  rw [if_pos c2] at H
  have e3 : (decide (r2 < 0)) = true := by simpa using c2
  try rw [e3]
  refine Evr.condT rfl (Evr.sr rfl (Opl.p1 (n := Opl.nil ?_)))
  obtain rfl := Option.some.inj H
  refine Evr.ret1 Try.func3 rfl ?_
  show (.lit (.bool true) : PV) = _
  first | rfl | (simp only [go_sem]; rfl)
 rw [if_neg c2] at H
 have e4 : (decide (r2 < 0)) = false := by simpa using c2
 try rw [e4]
 refine Evr.condF rfl (Evr.skip (Evr.seq (Evr.regionD rfl (by kernel_rfl) (Opl.ldb (v := .agg [.lit (.int .i64 a0_0), v0_1]) h3 rfl T24 rfl rfl rfl rfl ?_))))
 obtain ⟨r3, h_r3, H⟩ := Option.bind_eq_some_iff.1 H
 refine Opl.call (laws_toClauses.ev hv0_1 h_r3) rfl rfl rfl rfl ⟨(.aggL ⟨(.lit _), hv0_1.plain, trivial⟩), trivial⟩ (by decide) ?_
 rintro _ ⟨_, pv2, rfl, rfl, h5⟩
 refine Opl.p1 (n := Opl.ldb (v := .agg [.lit (.int .i64 a2_0), v2_1]) h2 rfl T27 rfl rfl rfl rfl ?_)
 obtain ⟨r4, h_r4, H⟩ := Option.bind_eq_some_iff.1 H
 refine Opl.call (laws_toCircuit.ev hv2_1 h_r4) rfl rfl rfl rfl ⟨(.aggL ⟨(.lit _), hv2_1.plain, trivial⟩), trivial⟩ (by decide) ?_
 rintro _ ⟨_, pv4, rfl, rfl, h7⟩
 refine Opl.p1 (n := ?_)
 obtain ⟨r5, h_r5, H⟩ := Option.bind_eq_some_iff.1 H
 refine Opl.callc (spec_LiesBetween.ev h5 h7 h_r5) rfl rfl rfl rfl ⟨(.aggL ⟨(.lit _), h5.plain, trivial⟩), (.lit _), (.aggL ⟨(.lit _), h7.plain, trivial⟩), (.lit _), trivial⟩ (by decide) (Opl.p1 (n := Opl.nil (Evr.sr rfl (Opl.ldb (v := .agg [.lit (.int .i64 a0_0), v0_1]) h3 rfl T24 rfl rfl rfl rfl ?_))))
 obtain ⟨r6, h_r6, H⟩ := Option.bind_eq_some_iff.1 H
 refine Opl.call (laws_toClauses.ev hv0_1 h_r6) rfl rfl rfl rfl ⟨(.aggL ⟨(.lit _), hv0_1.plain, trivial⟩), trivial⟩ (by decide) ?_
 rintro _ ⟨_, pv6, rfl, rfl, h9⟩
 refine Opl.alloc T31 rfl rfl rfl ?_
 rintro i3 S h10 u3 w3
 have ap2 := w3.box h3
 have h11 := u3.box h3 ap2
 have ap3 := w3.box h2
 have h12 := u3.box h2 ap3
 refine Opl.stb (vs := [.lit (.int .i64 r6.1), pv6]) h10 rfl rfl Z31 rfl (Nat.le_of_ble_eq_true rfl) (by simp only [List.all_cons, List.all_nil, h9.one, Bool.and_true, Bool.true_and] <;> rfl) rfl rfl rfl ?_
 rintro S (h13 : Box (.ptr i3 0) [.lit (.int .i64 r6.1), pv6] _) u4
 have h14 := u4.box h11 ap2
 have h15 := u4.box h12 ap3
 refine Opl.nil (Evr.sr rfl (Opl.ldb (v := .agg [.lit (.int .i64 a2_0), v2_1]) h15 rfl T27 rfl rfl rfl rfl ?_))
 obtain ⟨r7, h_r7, H⟩ := Option.bind_eq_some_iff.1 H
 refine Opl.call (laws_toCircuit.ev hv2_1 h_r7) rfl rfl rfl rfl ⟨(.aggL ⟨(.lit _), hv2_1.plain, trivial⟩), trivial⟩ (by decide) ?_
 rintro _ ⟨_, pv8, rfl, rfl, h17⟩
 refine Opl.alloc T35 rfl rfl rfl ?_
 rintro i4 S h18 u5 w5
 have ap4 := w5.box h14
 have h19 := u5.box h14 ap4
 have ap5 := w5.box h15
 have h20 := u5.box h15 ap5
 have ap6 := w5.box h13
 have h21 := u5.box h13 ap6
 refine Opl.stb (vs := [.lit (.int .i64 r7.1), pv8]) h18 rfl rfl Z35 rfl (Nat.le_of_ble_eq_true rfl) (by simp only [List.all_cons, List.all_nil, h17.one, Bool.and_true, Bool.true_and] <;> rfl) rfl rfl rfl ?_
 rintro S (h22 : Box (.ptr i4 0) [.lit (.int .i64 r7.1), pv8] _) u6
 have h23 := u6.box h19 ap4
 have h24 := u6.box h20 ap5
 have h25 := u6.box h21 ap6
 refine Opl.nil (Evr.sr rfl (Opl.ldb (v := .agg [.lit (.int .i64 r6.1), pv6]) h25 rfl T31 rfl rfl rfl rfl (Opl.p1 (n := Opl.ldb (v := .agg [.lit (.int .i64 r7.1), pv8]) h22 rfl T35 rfl rfl rfl rfl (Opl.p1 (n := ?_))))))
 obtain ⟨r8, h_r8, H⟩ := Option.bind_eq_some_iff.1 H
 refine Opl.callc (impl_LiesBetween.ev h9 h17 h_r8) rfl rfl rfl rfl ⟨(.aggL ⟨(.lit _), h9.plain, trivial⟩), (.lit _), (.aggL ⟨(.lit _), h17.plain, trivial⟩), (.lit _), trivial⟩ (by decide) (Opl.p1 (n := Opl.nil (Evr.seq (Evr.sr rfl (Opl.p1 (n := Opl.p1 (n := Opl.p1 (n := Opl.nil ?_))))))))
 by_cases c3 : r8 ≠ r5
 case pos =>
  rw [if_pos c3] at H
  have e5 : (r8 != r5) = true := by simpa using c3
  try rw [e5]
  refine Evr.condT rfl (Evr.sr rfl (Opl.p1 (n := Opl.nil ?_)))
  obtain rfl := Option.some.inj H
  refine Evr.ret1 Try.func3 rfl ?_
  show (.lit (.bool false) : PV) = _
  first | rfl | (simp only [go_sem]; rfl)
 rw [if_neg c3] at H
 have e6 : (r8 != r5) = false := by simpa using c3
 try rw [e6]
 refine Evr.condF rfl (Evr.skip (Evr.seq (Evr.seq (Evr.regionD rfl (by kernel_rfl) (Opl.ldb (v := .agg [.lit (.int .i64 r6.1), pv6]) h25 rfl T31 rfl rfl rfl rfl (Opl.ldb (v := .agg [.lit (.int .i64 a0_0), v0_1]) h23 rfl T24 rfl rfl rfl rfl ?_))))))
 obtain ⟨r9, h_r9, H⟩ := Option.bind_eq_some_iff.1 H
 refine Opl.call (laws_toClauses.ev hv0_1 h_r9) rfl rfl rfl rfl ⟨(.aggL ⟨(.lit _), hv0_1.plain, trivial⟩), trivial⟩ (by decide) ?_
 rintro _ ⟨_, pv10, rfl, rfl, h27⟩
 obtain ⟨r10, h_r10, H⟩ := Option.bind_eq_some_iff.1 H
 refine Opl.callc (laws_eqClauses.ev h9 h27 h_r10) rfl rfl rfl rfl ⟨(.aggL ⟨(.lit _), h9.plain, trivial⟩), (.aggL ⟨(.lit _), h27.plain, trivial⟩), trivial⟩ (by decide) (Opl.p1 (n := Opl.nil ?_))
 by_cases c4 : r10 = true
 case neg =>
  rw [if_neg c4] at H
  have e10 : (!r10) = true := by simpa using c4
  try rw [e10]
  refine Evr.condT rfl (Evr.sr rfl (Opl.p1 (n := Opl.nil ?_)))
  obtain rfl := Option.some.inj H
  refine Evr.ret1 Try.func3 rfl ?_
  show (.lit (.bool false) : PV) = _
  first | rfl | (simp only [go_sem]; rfl)
 rw [if_pos c4] at H
 have e7 : (!r10) = false := by simpa using c4
 try rw [e7]
 refine Evr.condF rfl (Evr.skip (Evr.seq (Evr.seq (Evr.regionD rfl (by kernel_rfl) (Opl.ldb (v := .agg [.lit (.int .i64 r7.1), pv8]) h22 rfl T35 rfl rfl rfl rfl (Opl.ldb (v := .agg [.lit (.int .i64 a2_0), v2_1]) h24 rfl T27 rfl rfl rfl rfl ?_))))))
 obtain ⟨r11, h_r11, H⟩ := Option.bind_eq_some_iff.1 H
 refine Opl.call (laws_toCircuit.ev hv2_1 h_r11) rfl rfl rfl rfl ⟨(.aggL ⟨(.lit _), hv2_1.plain, trivial⟩), trivial⟩ (by decide) ?_
 rintro _ ⟨_, pv12, rfl, rfl, h29⟩
 obtain ⟨r12, h_r12, H⟩ := Option.bind_eq_some_iff.1 H
 refine Opl.callc (laws_eqCircuit.ev h17 h29 h_r12) rfl rfl rfl rfl ⟨(.aggL ⟨(.lit _), h17.plain, trivial⟩), (.aggL ⟨(.lit _), h29.plain, trivial⟩), trivial⟩ (by decide) (Opl.p1 (n := Opl.nil ?_))
 by_cases c5 : r12 = true
 case neg =>
  rw [if_neg c5] at H
  have e9 : (!r12) = true := by simpa using c5
  try rw [e9]
  refine Evr.condT rfl (Evr.sr rfl (Opl.p1 (n := Opl.nil ?_)))
  obtain rfl := Option.some.inj H
  refine Evr.ret1 Try.func3 rfl ?_
  show (.lit (.bool false) : PV) = _
  first | rfl | (simp only [go_sem]; rfl)
 rw [if_pos c5] at H
 have e8 : (!r12) = false := by simpa using c5
 try rw [e8]
 refine Evr.condF rfl (Evr.skip (Evr.sr rfl (Opl.p1 (n := Opl.nil ?_))))
 obtain rfl := Option.some.inj H
 refine Evr.ret1 Try.func3 rfl ?_
 show (.lit (.bool true) : PV) = _
 first | rfl | (simp only [go_sem]; rfl)
end Go.Proofs.Ytaajnneigmgikaa.PA
