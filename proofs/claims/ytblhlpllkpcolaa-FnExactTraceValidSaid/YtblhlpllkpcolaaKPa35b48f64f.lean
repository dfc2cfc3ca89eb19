/- Walks of Go functions: each is shown to answer as the Lean function beside it tells, under the conditions that its theorem names. -/
import Derived.Test.YtblhlpllkpcolaaProg
import Derived.KernelRfl
import Derived.Below
import Derived.Deep.Draws
import Derived.Deep.AppendLies
import Derived.Maps.AppendAt
import Derived.OwnWalk
import Derived.Laws.BytesArg
import Derived.Laws.MakeOwn
import Derived.Laws.OwnMore
import Derived.Deep.OwnRows
import Derived.Tactics
import Derived.Lib.ConvBytes
import Derived.Laws.Slices
import Derived.WalkKit
import Derived.RowKit3
import Derived.Deep.LoopGhost
import Derived.Deep.QuietTactic
import Derived.BigQuiet
import Derived.WideLaws
import Derived.Deep.DeepCutAuto
import Derived.Deep.CutBlock
import Derived.Deep.RegionHeld3
import Derived.Laws.Rows
import Derived.Lib.AppendStr
import Derived.ArgAppend
import Derived.Laws.IdiomCopy
import Derived.OrdersHeld
import Derived.Laws.BitsLemmas
import Derived.RowKit
import Derived.Laws.StructEq
import Derived.Lib.SliceRun
import Derived.WalkSpells
import Derived.ChangeArms
import Derived.ChangeSlices
import Derived.Deep.Slices
import Derived.Attr
import Derived.Laws.Append
import Derived.Laws.AppendOwn
import Derived.Laws.Entries
import Derived.Calls
import Derived.Laws.Sem
import Derived.Test.YtblhlpllkpcolaaKP28b63c60b6
import Derived.Test.YtblhlpllkpcolaaKPaa37412034
namespace Go.Proofs.Ytblhlpllkpcolaa.PA
open Go Go.Abs Go.RowKit Go.Proofs Go.Proofs.YtblhlpllkpcolaaW.PrintWords Go.Proofs.YtblhlpllkpcolaaW.PrintLast Go.Proofs.YtblhlpllkpcolaaW.PrintMore
set_option maxRecDepth 100000
set_option maxHeartbeats 4000000
set_option linter.unusedVariables false
set_option linter.unusedSimpArgs false
theorem laws_FnExactTraceValid.ev {k : Nat} {l0_0 : List LVar} {v0_0 : PV} (hv0_0 : Sl cLVar l0_0 v0_0) {l0_1 : List LRule} {v0_1 : PV} (hv0_1 : Sl cLRule l0_1 v0_1) {l1_0 : List (List Int)} {v1_0 : PV} (hv1_0 : Sl (cSl (cInt .i64)) l1_0 v1_0) {l1_1 : List Int} {v1_1 : PV} (hv1_1 : Sl (cInt .i64) l1_1 v1_1) {r : Bool} (H : laws_FnExactTraceValid.f k l0_0 l0_1 l1_0 l1_1 = some r) : Ret Try.prog 4 [.agg [v0_0, v0_1], .agg [v1_0, v1_1]] fun v S => v = .lit (.bool r) := by
 unfold laws_FnExactTraceValid.f at H
 refine Ret.intro Try.func4 rfl (Nat.le_of_ble_eq_true rfl) rfl ?_
 rw [tm2]
 refine Evr.seq (Evr.regionN rfl (Opl.box (cs := [v0_0, v0_1]) rfl rfl rfl rfl ?_))
 rintro i1 S h1 u1 w1
 refine Opl.box (cs := [v1_0, v1_1]) rfl rfl rfl rfl ?_
 rintro i2 S h2 u2 w2
 have ap1 := w2.box h1
 have h3 := u2.box h1 ap1
 refine Opl.one rfl rfl (by simp only [go_sem]; rfl) (Opl.nil (Evr.seq (Evr.regionN rfl (Opl.one rfl rfl (by simp only [go_sem]; rfl) (Opl.nil (Evr.seq (Evr.regionN rfl (Opl.ldb (v := .agg [v0_0, v0_1]) h3 rfl T25 rfl rfl rfl rfl (Opl.one rfl rfl (by simp only [go_sem]; rfl) ?_)))))))))
 obtain ⟨t608, h_t608, H⟩ := Option.bind_eq_some_iff.1 H
 refine Opl.callc (laws_szSystem.ev hv0_0 hv0_1 h_t608) rfl rfl rfl rfl ⟨(.aggL ⟨hv0_0.plain, hv0_1.plain, trivial⟩), (.lit _), trivial⟩ (by decide) (Opl.one rfl rfl (by simp only [go_sem]; rfl) (Opl.nil (Evr.seq (Evr.seq (Evr.regionN rfl (Opl.one rfl rfl (by simp only [go_sem]; rfl) (Opl.one rfl rfl (by simp only [go_sem]; rfl) (Opl.nil ?_))))))))
 by_cases c1 : t608 < 0
 case pos =>
  rw [if_pos c1] at H
  have e1 : (decide (t608 < 0)) = true := by simpa using c1
  try rw [e1]
  refine Evr.condT rfl (Evr.seq (Evr.regionN rfl (Opl.one rfl rfl (by simp only [go_sem]; rfl) (Opl.nil ?_))))
  obtain rfl := Option.some.inj H
  refine Evr.ret1 Try.func4 rfl ?_
  show (.lit (.bool true) : PV) = _
  first | rfl | (simp only [go_sem]; rfl)
 rw [if_neg c1] at H
 have e2 : (decide (t608 < 0)) = false := by simpa using c1
 try rw [e2]
 refine Evr.condF rfl (Evr.skip (Evr.seq (Evr.regionN rfl (Opl.ldb (v := .agg [v1_0, v1_1]) h2 rfl T40 rfl rfl rfl rfl (Opl.one rfl rfl (by simp only [go_sem]; rfl) ?_)))))
 obtain ⟨t609, h_t609, H⟩ := Option.bind_eq_some_iff.1 H
 refine Opl.callc (laws_szTrace.ev hv1_0 hv1_1 h_t609) rfl rfl rfl rfl ⟨(.aggL ⟨hv1_0.plain, hv1_1.plain, trivial⟩), (.lit _), trivial⟩ (by decide) (Opl.one rfl rfl (by simp only [go_sem]; rfl) (Opl.nil (Evr.seq (Evr.seq (Evr.regionN rfl (Opl.one rfl rfl (by simp only [go_sem]; rfl) (Opl.one rfl rfl (by simp only [go_sem]; rfl) (Opl.nil ?_))))))))
 by_cases c2 : t609 < 0
 case pos =>
  rw [if_pos c2] at H
  have e3 : (decide (t609 < 0)) = true := by simpa using c2
  try rw [e3]
  refine Evr.condT rfl (Evr.seq (Evr.regionN rfl (Opl.one rfl rfl (by simp only [go_sem]; rfl) (Opl.nil ?_))))
  obtain rfl := Option.some.inj H
  refine Evr.ret1 Try.func4 rfl ?_
  show (.lit (.bool true) : PV) = _
  first | rfl | (simp only [go_sem]; rfl)
 rw [if_neg c2] at H
 have e4 : (decide (t609 < 0)) = false := by simpa using c2
 try rw [e4]
 refine Evr.condF rfl (Evr.skip (Evr.seq (Evr.regionD rfl (by kernel_rfl) (Opl.ldb (v := .agg [v0_0, v0_1]) h3 rfl T25 rfl rfl rfl rfl ?_))))
 obtain ⟨bt610, h_bt610, H⟩ := Option.bind_eq_some_iff.1 H
 refine Opl.call (laws_toSystem.ev hv0_0 hv0_1 h_bt610) rfl rfl rfl rfl ⟨(.aggL ⟨hv0_0.plain, hv0_1.plain, trivial⟩), trivial⟩ (by decide) ?_
 rintro _ ⟨pv2, pv3, rfl, h5, h6⟩
 refine Opl.ldb (v := .agg [v1_0, v1_1]) h2 rfl T40 rfl rfl rfl rfl ?_
 obtain ⟨bt616, h_bt616, H⟩ := Option.bind_eq_some_iff.1 H
 refine Opl.call (laws_toTrace.ev hv1_0 hv1_1 h_bt616) rfl rfl rfl rfl ⟨(.aggL ⟨hv1_0.plain, hv1_1.plain, trivial⟩), trivial⟩ (by decide) ?_
 rintro _ ⟨pv5, pv6, rfl, h8, h9⟩
 obtain ⟨t622, h_t622, H⟩ := Option.bind_eq_some_iff.1 H
 refine Opl.callc (spec_TraceValid.ev h5 h6 h8 h9 h_t622) rfl rfl rfl rfl ⟨(.aggL ⟨h5.plain, h6.plain, trivial⟩), (.aggL ⟨h8.plain, h9.plain, trivial⟩), trivial⟩ (by decide) (Opl.one rfl rfl (by simp only [go_sem]; rfl) (Opl.nil (Evr.seq (Evr.regionN rfl (Opl.ldb (v := .agg [v0_0, v0_1]) h3 rfl T25 rfl rfl rfl rfl ?_)))))
 obtain ⟨bt623, h_bt623, H⟩ := Option.bind_eq_some_iff.1 H
 refine Opl.call (laws_toSystem.ev hv0_0 hv0_1 h_bt623) rfl rfl rfl rfl ⟨(.aggL ⟨hv0_0.plain, hv0_1.plain, trivial⟩), trivial⟩ (by decide) ?_
 rintro _ ⟨pv8, pv9, rfl, h11, h12⟩
 refine Opl.alloc T32 rfl rfl rfl ?_
 rintro i3 S h13 u3 w3
 have ap2 := w3.box h3
 have h14 := u3.box h3 ap2
 have ap3 := w3.box h2
 have h15 := u3.box h2 ap3
 refine Opl.stb (vs := [pv8, pv9]) h13 rfl rfl Z32 rfl (Nat.le_of_ble_eq_true rfl) (by simp only [List.all_cons, List.all_nil, h11.one, h12.one, Bool.and_true, Bool.true_and] <;> rfl) rfl rfl rfl ?_
 rintro S (h16 : Box (.ptr i3 0) [pv8, pv9] _) u4
 have h17 := u4.box h14 ap2
 have h18 := u4.box h15 ap3
 refine Opl.nil (Evr.seq (Evr.regionN rfl (Opl.ldb (v := .agg [v1_0, v1_1]) h18 rfl T40 rfl rfl rfl rfl ?_)))
 obtain ⟨bt630, h_bt630, H⟩ := Option.bind_eq_some_iff.1 H
 refine Opl.call (laws_toTrace.ev hv1_0 hv1_1 h_bt630) rfl rfl rfl rfl ⟨(.aggL ⟨hv1_0.plain, hv1_1.plain, trivial⟩), trivial⟩ (by decide) ?_
 rintro _ ⟨pv11, pv12, rfl, h20, h21⟩
 refine Opl.alloc T43 rfl rfl rfl ?_
 rintro i4 S h22 u5 w5
 have ap4 := w5.box h17
 have h23 := u5.box h17 ap4
 have ap5 := w5.box h18
 have h24 := u5.box h18 ap5
 have ap6 := w5.box h16
 have h25 := u5.box h16 ap6
 refine Opl.stb (vs := [pv11, pv12]) h22 rfl rfl Z43 rfl (Nat.le_of_ble_eq_true rfl) (by simp only [List.all_cons, List.all_nil, h20.one, h21.one, Bool.and_true, Bool.true_and] <;> rfl) rfl rfl rfl ?_
 rintro S (h26 : Box (.ptr i4 0) [pv11, pv12] _) u6
 have h27 := u6.box h23 ap4
 have h28 := u6.box h24 ap5
 have h29 := u6.box h25 ap6
 refine Opl.nil (Evr.seq (Evr.regionN rfl (Opl.ldb (v := .agg [pv8, pv9]) h29 rfl T32 rfl rfl rfl rfl (Opl.ldb (v := .agg [pv11, pv12]) h26 rfl T43 rfl rfl rfl rfl ?_))))
 obtain ⟨t637, h_t637, H⟩ := Option.bind_eq_some_iff.1 H
 refine Opl.callc (impl_TraceValid.ev h11 h12 h20 h21 h_t637) rfl rfl rfl rfl ⟨(.aggL ⟨h11.plain, h12.plain, trivial⟩), (.aggL ⟨h20.plain, h21.plain, trivial⟩), trivial⟩ (by decide) (Opl.one rfl rfl (by simp only [go_sem]; rfl) (Opl.nil (Evr.seq (Evr.seq (Evr.regionN rfl (Opl.one rfl rfl (by simp only [go_sem]; rfl) (Opl.one rfl rfl (by simp only [go_sem]; rfl) (Opl.one rfl rfl (by simp only [go_sem]; rfl) (Opl.nil ?_)))))))))
 by_cases c3 : (t637 != t622) = true
 case pos =>
  rw [if_pos c3] at H
  have e5 : (t637 != t622) = true := by simpa using c3
  try rw [e5]
  refine Evr.condT rfl (Evr.seq (Evr.regionN rfl (Opl.one rfl rfl (by simp only [go_sem]; rfl) (Opl.nil ?_))))
  obtain rfl := Option.some.inj H
  refine Evr.ret1 Try.func4 rfl ?_
  show (.lit (.bool false) : PV) = _
  first | rfl | (simp only [go_sem]; rfl)
 rw [if_neg c3] at H
 have e6 : (t637 != t622) = false := by simpa using c3
 try rw [e6]
 refine Evr.condF rfl (Evr.skip (Evr.seq (Evr.seq (Evr.regionD rfl (by kernel_rfl) (Opl.ldb (v := .agg [pv8, pv9]) h29 rfl T32 rfl rfl rfl rfl (Opl.ldb (v := .agg [v0_0, v0_1]) h27 rfl T25 rfl rfl rfl rfl ?_))))))
 obtain ⟨bt638, h_bt638, H⟩ := Option.bind_eq_some_iff.1 H
 refine Opl.call (laws_toSystem.ev hv0_0 hv0_1 h_bt638) rfl rfl rfl rfl ⟨(.aggL ⟨hv0_0.plain, hv0_1.plain, trivial⟩), trivial⟩ (by decide) ?_
 rintro _ ⟨pv14, pv15, rfl, h31, h32⟩
 obtain ⟨t644, h_t644, H⟩ := Option.bind_eq_some_iff.1 H
 refine Opl.callc (laws_eqSystem.ev h11 h12 h31 h32 h_t644) rfl rfl rfl rfl ⟨(.aggL ⟨h11.plain, h12.plain, trivial⟩), (.aggL ⟨h31.plain, h32.plain, trivial⟩), trivial⟩ (by decide) (Opl.one rfl rfl (by simp only [go_sem]; rfl) (Opl.nil ?_))
 by_cases c4 : t644 = true
 case neg =>
  rw [if_neg c4] at H
  have e10 : (!t644) = true := by simpa using c4
  try rw [e10]
  refine Evr.condT rfl (Evr.seq (Evr.regionN rfl (Opl.one rfl rfl (by simp only [go_sem]; rfl) (Opl.nil ?_))))
  obtain rfl := Option.some.inj H
  refine Evr.ret1 Try.func4 rfl ?_
  show (.lit (.bool false) : PV) = _
  first | rfl | (simp only [go_sem]; rfl)
 rw [if_pos c4] at H
 have e7 : (!t644) = false := by simpa using c4
 try rw [e7]
 refine Evr.condF rfl (Evr.skip (Evr.seq (Evr.seq (Evr.regionD rfl (by kernel_rfl) (Opl.ldb (v := .agg [pv11, pv12]) h26 rfl T43 rfl rfl rfl rfl (Opl.ldb (v := .agg [v1_0, v1_1]) h28 rfl T40 rfl rfl rfl rfl ?_))))))
 obtain ⟨bt645, h_bt645, H⟩ := Option.bind_eq_some_iff.1 H
 refine Opl.call (laws_toTrace.ev hv1_0 hv1_1 h_bt645) rfl rfl rfl rfl ⟨(.aggL ⟨hv1_0.plain, hv1_1.plain, trivial⟩), trivial⟩ (by decide) ?_
 rintro _ ⟨pv17, pv18, rfl, h34, h35⟩
 obtain ⟨t651, h_t651, H⟩ := Option.bind_eq_some_iff.1 H
 refine Opl.callc (laws_eqTrace.ev h20 h21 h34 h35 h_t651) rfl rfl rfl rfl ⟨(.aggL ⟨h20.plain, h21.plain, trivial⟩), (.aggL ⟨h34.plain, h35.plain, trivial⟩), trivial⟩ (by decide) (Opl.one rfl rfl (by simp only [go_sem]; rfl) (Opl.nil ?_))
 by_cases c5 : t651 = true
 case neg =>
  rw [if_neg c5] at H
  have e9 : (!t651) = true := by simpa using c5
  try rw [e9]
  refine Evr.condT rfl (Evr.seq (Evr.regionN rfl (Opl.one rfl rfl (by simp only [go_sem]; rfl) (Opl.nil ?_))))
  obtain rfl := Option.some.inj H
  refine Evr.ret1 Try.func4 rfl ?_
  show (.lit (.bool false) : PV) = _
  first | rfl | (simp only [go_sem]; rfl)
 rw [if_pos c5] at H
 have e8 : (!t651) = false := by simpa using c5
 try rw [e8]
 refine Evr.condF rfl (Evr.skip (Evr.seq (Evr.regionN rfl (Opl.one rfl rfl (by simp only [go_sem]; rfl) (Opl.nil ?_)))))
 obtain rfl := Option.some.inj H
 refine Evr.ret1 Try.func4 rfl ?_
 show (.lit (.bool true) : PV) = _
 first | rfl | (simp only [go_sem]; rfl)
end Go.Proofs.Ytblhlpllkpcolaa.PA
