/- Walks of Go functions: each is shown to answer as the Lean function beside it tells, under the conditions that its theorem names. -/
import Derived.Test.YtpbpmfckmgcdfaaDoorProg
import Derived.KernelRfl
import Derived.Laws.BytesArg
import Derived.Below
import Derived.Deep.Draws
import Derived.Deep.AppendLies
import Derived.Maps.AppendAt
import Derived.OwnWalk
import Derived.Laws.MakeOwn
import Derived.Laws.OwnMore
import Derived.Deep.OwnRows
import Derived.Tactics
import Derived.Lib.ConvBytes
import Derived.Laws.Slices
import Derived.WalkKit
import Derived.RowKit3
import Derived.Deep.LoopGhost
import Derived.Deep.QuietTactic
import Derived.BigQuiet
import Derived.WideLaws
import Derived.Deep.DeepCutAuto
import Derived.Deep.CutBlock
import Derived.Deep.RegionHeld3
import Derived.Laws.Rows
import Derived.Lib.AppendStr
import Derived.ArgAppend
import Derived.Laws.IdiomCopy
import Derived.OrdersHeld
import Derived.Laws.BitsLemmas
import Derived.RowKit
import Derived.Laws.StructEq
import Derived.Lib.SliceRun
import Derived.WalkSpells
import Derived.ChangeArms
import Derived.ChangeSlices
import Derived.Deep.Slices
import Derived.Attr
import Derived.Laws.Append
import Derived.Laws.AppendOwn
import Derived.Laws.Entries
import Derived.Calls
import Derived.Laws.Sem
import Derived.Test.YtpbpmfckmgcdfaaDoorKPcd89c3bbf8
import Derived.Test.YtpbpmfckmgcdfaaDoorKPd6e27220e6
namespace Go.Proofs.YtpbpmfckmgcdfaaDoor.PA
open Go Go.Abs Go.RowKit Go.Proofs Go.Proofs.YtpbpmfckmgcdfaaDoorW.PrintWords Go.Proofs.YtpbpmfckmgcdfaaDoorW.PrintLast Go.Proofs.YtpbpmfckmgcdfaaDoorW.PrintMore
set_option maxRecDepth 100000
set_option maxHeartbeats 4000000
set_option linter.unusedVariables false
set_option linter.unusedSimpArgs false
theorem laws_FnExactBitName.ev {k : Nat} {l0_0 : List LVar} {v0_0 : PV} (hv0_0 : Sl cLVar l0_0 v0_0) {l0_1 : List LRule} {v0_1 : PV} (hv0_1 : Sl cLRule l0_1 v0_1) {a1 : Int} {r : Bool} (H : laws_FnExactBitName.f k l0_0 l0_1 a1 = some r) : Ret Tryd.prog 3 [.agg [v0_0, v0_1], .lit (.int .i64 a1)] fun v S => v = .lit (.bool r) := by
 unfold laws_FnExactBitName.f at H
 refine Ret.intro Tryd.func3 rfl (Nat.le_of_ble_eq_true rfl) rfl ?_
 rw [tm2]
 refine Evr.sr rfl (Opl.box (cs := [v0_0, v0_1]) rfl rfl rfl rfl ?_)
 rintro i1 S h1 u1 w1
 refine Opl.p1 (n := Opl.nil (Evr.sr rfl (Opl.p1 (n := Opl.nil (Evr.sr rfl (Opl.ldb (v := .agg [v0_0, v0_1]) h1 rfl T25 rfl rfl rfl rfl (Opl.p1 (n := ?_))))))))
 obtain ⟨r1, h_r1, H⟩ := Option.bind_eq_some_iff.1 H
 refine Opl.callc (laws_szSystem.ev hv0_0 hv0_1 h_r1) rfl rfl rfl rfl ⟨(.aggL ⟨hv0_0.plain, hv0_1.plain, trivial⟩), (.lit _), trivial⟩ (by decide) (Opl.p1 (n := Opl.nil (Evr.seq (Evr.sr rfl (Opl.p1 (n := Opl.p1 (n := Opl.nil ?_)))))))
 by_cases c1 : r1 < 0
 case pos =>
  rw [if_pos c1] at H
  have e1 : (decide (r1 < 0)) = true := by simpa using c1
  try rw [e1]
  refine Evr.condT rfl (Evr.sr rfl (Opl.p1 (n := Opl.nil ?_)))
  obtain rfl := Option.some.inj H
  refine Evr.ret1 Tryd.func3 rfl ?_
  show (.lit (.bool true) : PV) = _
  first | rfl | (simp only [go_sem]; rfl)
 rw [if_neg c1] at H
 have e2 : (decide (r1 < 0)) = false := by simpa using c1
 try rw [e2]
 refine Evr.condF rfl (Evr.skip (Evr.sr rfl (Opl.ldb (v := .agg [v0_0, v0_1]) h1 rfl T25 rfl rfl rfl rfl ?_)))
 obtain ⟨r2, h_r2, H⟩ := Option.bind_eq_some_iff.1 H
 refine Opl.call (laws_toSystem.ev hv0_0 hv0_1 h_r2) rfl rfl rfl rfl ⟨(.aggL ⟨hv0_0.plain, hv0_1.plain, trivial⟩), trivial⟩ (by decide) ?_
 rintro _ ⟨pv2, pv3, rfl, h3, h4⟩
 refine Opl.p1 (n := ?_)
 obtain ⟨r3, h_r3, H⟩ := Option.bind_eq_some_iff.1 H
 refine Opl.callc (spec_BitName.ev h3 h4 h_r3) rfl rfl rfl rfl ⟨(.aggL ⟨h3.plain, h4.plain, trivial⟩), (.lit _), trivial⟩ (by decide) (Opl.p1 (n := Opl.nil (Evr.sr rfl (Opl.ldb (v := .agg [v0_0, v0_1]) h1 rfl T25 rfl rfl rfl rfl ?_))))
 obtain ⟨r4, h_r4, H⟩ := Option.bind_eq_some_iff.1 H
 refine Opl.call (laws_toSystem.ev hv0_0 hv0_1 h_r4) rfl rfl rfl rfl ⟨(.aggL ⟨hv0_0.plain, hv0_1.plain, trivial⟩), trivial⟩ (by decide) ?_
 rintro _ ⟨pv5, pv6, rfl, h6, h7⟩
 refine Opl.alloc T31 rfl rfl rfl ?_
 rintro i2 S h8 u2 w2
 have ap1 := w2.box h1
 have h9 := u2.box h1 ap1
 refine Opl.stb (vs := [pv5, pv6]) h8 rfl rfl Z31 rfl (Nat.le_of_ble_eq_true rfl) (by simp only [List.all_cons, List.all_nil, h6.one, h7.one, Bool.and_true, Bool.true_and] <;> rfl) rfl rfl rfl ?_
 rintro S (h10 : Box (.ptr i2 0) [pv5, pv6] _) u3
 have h11 := u3.box h9 ap1
 refine Opl.nil (Evr.sr rfl (Opl.ldb (v := .agg [pv5, pv6]) h10 rfl T31 rfl rfl rfl rfl (Opl.p1 (n := ?_))))
 obtain ⟨r5, h_r5, H⟩ := Option.bind_eq_some_iff.1 H
 refine Opl.callc (impl_BitName.ev h6 h7 h_r5) rfl rfl rfl rfl ⟨(.aggL ⟨h6.plain, h7.plain, trivial⟩), (.lit _), trivial⟩ (by decide) (Opl.p1 (n := Opl.nil (Evr.seq (Evr.sr rfl (Opl.p1 (n := Opl.p1 (n := Opl.nestr (a := r5) (b := r3) K9 rfl rfl rfl rfl (Opl.nil ?_))))))))
 by_cases c2 : r5.toList = r3.toList
 case neg =>
  rw [if_neg c2] at H
  have e6 : (!(r5.toList == r3.toList)) = true := by simpa using c2
  try rw [e6]
  refine Evr.condT rfl (Evr.sr rfl (Opl.p1 (n := Opl.nil ?_)))
  obtain rfl := Option.some.inj H
  refine Evr.ret1 Tryd.func3 rfl ?_
  show (.lit (.bool false) : PV) = _
  first | rfl | (simp only [go_sem]; rfl)
 rw [if_pos c2] at H
 have e3 : (!(r5.toList == r3.toList)) = false := by simpa using c2
 try rw [e3]
 refine Evr.condF rfl (Evr.skip (Evr.seq (Evr.seq (Evr.regionD rfl (by kernel_rfl) (Opl.ldb (v := .agg [pv5, pv6]) h10 rfl T31 rfl rfl rfl rfl (Opl.ldb (v := .agg [v0_0, v0_1]) h11 rfl T25 rfl rfl rfl rfl ?_))))))
 obtain ⟨r6, h_r6, H⟩ := Option.bind_eq_some_iff.1 H
 refine Opl.call (laws_toSystem.ev hv0_0 hv0_1 h_r6) rfl rfl rfl rfl ⟨(.aggL ⟨hv0_0.plain, hv0_1.plain, trivial⟩), trivial⟩ (by decide) ?_
 rintro _ ⟨pv8, pv9, rfl, h13, h14⟩
 obtain ⟨r7, h_r7, H⟩ := Option.bind_eq_some_iff.1 H
 refine Opl.callc (laws_eqSystem.ev h6 h7 h13 h14 h_r7) rfl rfl rfl rfl ⟨(.aggL ⟨h6.plain, h7.plain, trivial⟩), (.aggL ⟨h13.plain, h14.plain, trivial⟩), trivial⟩ (by decide) (Opl.p1 (n := Opl.nil ?_))
 by_cases c3 : r7 = true
 case neg =>
  rw [if_neg c3] at H
  have e5 : (!r7) = true := by simpa using c3
  try rw [e5]
  refine Evr.condT rfl (Evr.sr rfl (Opl.p1 (n := Opl.nil ?_)))
  obtain rfl := Option.some.inj H
  refine Evr.ret1 Tryd.func3 rfl ?_
  show (.lit (.bool false) : PV) = _
  first | rfl | (simp only [go_sem]; rfl)
 rw [if_pos c3] at H
 have e4 : (!r7) = false := by simpa using c3
 try rw [e4]
 refine Evr.condF rfl (Evr.skip (Evr.sr rfl (Opl.p1 (n := Opl.nil ?_))))
 obtain rfl := Option.some.inj H
 refine Evr.ret1 Tryd.func3 rfl ?_
 show (.lit (.bool true) : PV) = _
 first | rfl | (simp only [go_sem]; rfl)
end Go.Proofs.YtpbpmfckmgcdfaaDoor.PA
