/- Walks of Go functions: each is shown to answer as the Lean function beside it tells, under the conditions that its theorem names. -/
import Derived.Test.YtblhlpllkpcolaaProg
import Derived.KernelRfl
import Derived.Below
import Derived.Deep.Draws
import Derived.Deep.AppendLies
import Derived.Maps.AppendAt
import Derived.OwnWalk
import Derived.Laws.BytesArg
import Derived.Laws.MakeOwn
import Derived.Laws.OwnMore
import Derived.Deep.OwnRows
import Derived.Tactics
import Derived.Lib.ConvBytes
import Derived.Laws.Slices
import Derived.WalkKit
import Derived.RowKit3
import Derived.Deep.LoopGhost
import Derived.Deep.QuietTactic
import Derived.BigQuiet
import Derived.WideLaws
import Derived.Deep.DeepCutAuto
import Derived.Deep.CutBlock
import Derived.Deep.RegionHeld3
import Derived.Laws.Rows
import Derived.Lib.AppendStr
import Derived.ArgAppend
import Derived.Laws.IdiomCopy
import Derived.OrdersHeld
import Derived.Laws.BitsLemmas
import Derived.RowKit
import Derived.Laws.StructEq
import Derived.Lib.SliceRun
import Derived.WalkSpells
import Derived.ChangeArms
import Derived.ChangeSlices
import Derived.Deep.Slices
import Derived.Attr
import Derived.Laws.Append
import Derived.Laws.AppendOwn
import Derived.Laws.Entries
import Derived.Calls
import Derived.Laws.Sem
import Derived.Test.YtblhlpllkpcolaaKP72c67db4b1
import Derived.Test.YtblhlpllkpcolaaKP4f02aa27d2
namespace Go.Proofs.Ytblhlpllkpcolaa.PA
open Go Go.Abs Go.RowKit Go.Proofs Go.Proofs.YtblhlpllkpcolaaW.PrintWords Go.Proofs.YtblhlpllkpcolaaW.PrintLast Go.Proofs.YtblhlpllkpcolaaW.PrintMore
set_option maxRecDepth 100000
set_option maxHeartbeats 4000000
set_option linter.unusedVariables false
set_option linter.unusedSimpArgs false
theorem laws_FnExactLassoValid.ev {k : Nat} {l0_0 : List LVar} {v0_0 : PV} (hv0_0 : Sl cLVar l0_0 v0_0) {l0_1 : List LRule} {v0_1 : PV} (hv0_1 : Sl cLRule l0_1 v0_1) {l1 : List (List Int)} {v1 : PV} (hv1 : Sl (cSl (cInt .i64)) l1 v1) {l2 : List (List Int)} {v2 : PV} (hv2 : Sl (cSl (cInt .i64)) l2 v2) {r : Bool} (H : laws_FnExactLassoValid.f k l0_0 l0_1 l1 l2 = some r) : Ret Try.prog 5 [.agg [v0_0, v0_1], v1, v2] fun v S => v = .lit (.bool r) := by
 unfold laws_FnExactLassoValid.f at H
 refine Ret.intro Try.func5 rfl (Nat.le_of_ble_eq_true rfl) rfl ?_
 rw [tm3]
 refine Evr.seq (Evr.regionN rfl (Opl.box (cs := [v0_0, v0_1]) rfl rfl rfl rfl ?_))
 rintro i1 S h1 u1 w1
 refine Opl.one rfl rfl (by simp only [go_sem] <;> rfl) (Opl.nil (Evr.seq (Evr.regionN rfl (Opl.one rfl rfl (by simp only [go_sem] <;> rfl) (Opl.nil (Evr.seq (Evr.regionN rfl (Opl.ldb (v := .agg [v0_0, v0_1]) h1 rfl T25 rfl rfl rfl rfl (Opl.one rfl rfl (by simp only [go_sem] <;> rfl) ?_)))))))))
 obtain ⟨r1, h_r1, H⟩ := Option.bind_eq_some_iff.1 H
 refine Opl.callc (laws_szSystem.ev hv0_0 hv0_1 h_r1) rfl rfl rfl rfl ⟨(.aggL ⟨hv0_0.plain, hv0_1.plain, trivial⟩), (.lit _), trivial⟩ (by decide) (Opl.one rfl rfl (by simp only [go_sem] <;> rfl) (Opl.nil (Evr.seq (Evr.seq (Evr.regionN rfl (Opl.one rfl rfl (by simp only [go_sem] <;> rfl) (Opl.one rfl rfl (by simp only [go_sem] <;> rfl) (Opl.nil ?_))))))))
 by_cases c1 : r1 < 0
 case pos =>
  rw [if_pos c1] at H
  have e1 : (decide (r1 < 0)) = true := by simpa using c1
  try rw [e1]
  refine Evr.condT rfl (Evr.seq (Evr.regionN rfl (Opl.one rfl rfl (by simp only [go_sem] <;> rfl) (Opl.nil ?_))))
  obtain rfl := Option.some.inj H
  refine Evr.ret1 Try.func5 rfl ?_
  show (.lit (.bool true) : PV) = _
  first | rfl | (simp only [go_sem]; rfl)
 rw [if_neg c1] at H
 have e2 : (decide (r1 < 0)) = false := by simpa using c1
 try rw [e2]
 refine Evr.condF rfl (Evr.skip (Evr.seq (Evr.regionN rfl (Opl.one rfl rfl (by simp only [go_sem] <;> rfl) (Opl.one rfl rfl (by simp only [go_sem] <;> rfl) ?_)))))
 obtain ⟨r2, h_r2, H⟩ := Option.bind_eq_some_iff.1 H
 refine Opl.callc (laws_szIntSS.ev hv1 h_r2) rfl rfl rfl rfl ⟨hv1.plain, (.lit _), trivial⟩ (by decide) (Opl.one rfl rfl (by simp only [go_sem] <;> rfl) (Opl.nil (Evr.seq (Evr.seq (Evr.regionN rfl (Opl.one rfl rfl (by simp only [go_sem] <;> rfl) (Opl.one rfl rfl (by simp only [go_sem] <;> rfl) (Opl.nil ?_))))))))
 by_cases c2 : r2 < 0
 case pos =>
  rw [if_pos c2] at H
  have e3 : (decide (r2 < 0)) = true := by simpa using c2
  try rw [e3]
  refine Evr.condT rfl (Evr.seq (Evr.regionN rfl (Opl.one rfl rfl (by simp only [go_sem] <;> rfl) (Opl.nil ?_))))
  obtain rfl := Option.some.inj H
  refine Evr.ret1 Try.func5 rfl ?_
  show (.lit (.bool true) : PV) = _
  first | rfl | (simp only [go_sem]; rfl)
 rw [if_neg c2] at H
 have e4 : (decide (r2 < 0)) = false := by simpa using c2
 try rw [e4]
 refine Evr.condF rfl (Evr.skip (Evr.seq (Evr.regionN rfl (Opl.one rfl rfl (by simp only [go_sem] <;> rfl) (Opl.one rfl rfl (by simp only [go_sem] <;> rfl) ?_)))))
 obtain ⟨r3, h_r3, H⟩ := Option.bind_eq_some_iff.1 H
 refine Opl.callc (laws_szIntSS.ev hv2 h_r3) rfl rfl rfl rfl ⟨hv2.plain, (.lit _), trivial⟩ (by decide) (Opl.one rfl rfl (by simp only [go_sem] <;> rfl) (Opl.nil (Evr.seq (Evr.seq (Evr.regionN rfl (Opl.one rfl rfl (by simp only [go_sem] <;> rfl) (Opl.one rfl rfl (by simp only [go_sem] <;> rfl) (Opl.nil ?_))))))))
 by_cases c3 : r3 < 0
 case pos =>
  rw [if_pos c3] at H
  have e5 : (decide (r3 < 0)) = true := by simpa using c3
  try rw [e5]
  refine Evr.condT rfl (Evr.seq (Evr.regionN rfl (Opl.one rfl rfl (by simp only [go_sem] <;> rfl) (Opl.nil ?_))))
  obtain rfl := Option.some.inj H
  refine Evr.ret1 Try.func5 rfl ?_
  show (.lit (.bool true) : PV) = _
  first | rfl | (simp only [go_sem]; rfl)
 rw [if_neg c3] at H
 have e6 : (decide (r3 < 0)) = false := by simpa using c3
 try rw [e6]
 refine Evr.condF rfl (Evr.skip (Evr.seq (Evr.regionN rfl (Opl.ldb (v := .agg [v0_0, v0_1]) h1 rfl T25 rfl rfl rfl rfl ?_))))
 obtain ⟨r4, h_r4, H⟩ := Option.bind_eq_some_iff.1 H
 refine Opl.call (laws_toSystem.ev hv0_0 hv0_1 h_r4) rfl rfl rfl rfl ⟨(.aggL ⟨hv0_0.plain, hv0_1.plain, trivial⟩), trivial⟩ (by decide) ?_
 rintro _ ⟨pv2, pv3, rfl, h3, h4⟩
 refine Opl.one rfl rfl (by simp only [go_sem] <;> rfl) ?_
 obtain ⟨r5, h_r5, H⟩ := Option.bind_eq_some_iff.1 H
 refine Opl.call ((laws_toIntSS.ev hv1 h_r5).mono fun _ _ h => Out.vec h) rfl rfl rfl rfl ⟨hv1.plain, trivial⟩ (by decide) ?_
 rintro pv4 h5
 refine Opl.one rfl rfl (by simp only [go_sem] <;> rfl) ?_
 obtain ⟨r6, h_r6, H⟩ := Option.bind_eq_some_iff.1 H
 refine Opl.call ((laws_toIntSS.ev hv2 h_r6).mono fun _ _ h => Out.vec h) rfl rfl rfl rfl ⟨hv2.plain, trivial⟩ (by decide) ?_
 rintro pv5 h6
 obtain ⟨r7, h_r7, H⟩ := Option.bind_eq_some_iff.1 H
 refine Opl.callc (spec_LassoValid.ev h3 h4 h5 h6 h_r7) rfl rfl rfl rfl ⟨(.aggL ⟨h3.plain, h4.plain, trivial⟩), h5.plain, h6.plain, trivial⟩ (by decide) (Opl.one rfl rfl (by simp only [go_sem] <;> rfl) (Opl.nil (Evr.seq (Evr.regionN rfl (Opl.ldb (v := .agg [v0_0, v0_1]) h1 rfl T25 rfl rfl rfl rfl ?_)))))
 obtain ⟨r8, h_r8, H⟩ := Option.bind_eq_some_iff.1 H
 refine Opl.call (laws_toSystem.ev hv0_0 hv0_1 h_r8) rfl rfl rfl rfl ⟨(.aggL ⟨hv0_0.plain, hv0_1.plain, trivial⟩), trivial⟩ (by decide) ?_
 rintro _ ⟨pv7, pv8, rfl, h8, h9⟩
 refine Opl.alloc T32 rfl rfl rfl ?_
 rintro i2 S h10 u2 w2
 have ap1 := w2.box h1
 have h11 := u2.box h1 ap1
 refine Opl.stb (vs := [pv7, pv8]) h10 rfl rfl Z32 rfl (Nat.le_of_ble_eq_true rfl) (by simp only [List.all_cons, List.all_nil, h8.one, h9.one, Bool.and_true, Bool.true_and] <;> rfl) rfl rfl rfl ?_
 rintro S (h12 : Box (.ptr i2 0) [pv7, pv8] _) u3
 have h13 := u3.box h11 ap1
 refine Opl.nil (Evr.seq (Evr.regionN rfl (Opl.one rfl rfl (by simp only [go_sem] <;> rfl) ?_)))
 obtain ⟨r9, h_r9, H⟩ := Option.bind_eq_some_iff.1 H
 refine Opl.call ((laws_toIntSS.ev hv1 h_r9).mono fun _ _ h => Out.vec h) rfl rfl rfl rfl ⟨hv1.plain, trivial⟩ (by decide) ?_
 rintro pv9 h14
 refine Opl.one rfl rfl (by simp only [go_sem] <;> rfl) (Opl.nil (Evr.seq (Evr.regionN rfl (Opl.one rfl rfl (by simp only [go_sem] <;> rfl) ?_))))
 obtain ⟨r10, h_r10, H⟩ := Option.bind_eq_some_iff.1 H
 refine Opl.call ((laws_toIntSS.ev hv2 h_r10).mono fun _ _ h => Out.vec h) rfl rfl rfl rfl ⟨hv2.plain, trivial⟩ (by decide) ?_
 rintro pv10 h15
 refine Opl.one rfl rfl (by simp only [go_sem] <;> rfl) (Opl.nil (Evr.seq (Evr.regionN rfl (Opl.ldb (v := .agg [pv7, pv8]) h12 rfl T32 rfl rfl rfl rfl (Opl.one rfl rfl (by simp only [go_sem] <;> rfl) (Opl.one rfl rfl (by simp only [go_sem] <;> rfl) ?_))))))
 obtain ⟨r11, h_r11, H⟩ := Option.bind_eq_some_iff.1 H
 refine Opl.callc (impl_LassoValid.ev h8 h9 h14 h15 h_r11) rfl rfl rfl rfl ⟨(.aggL ⟨h8.plain, h9.plain, trivial⟩), h14.plain, h15.plain, trivial⟩ (by decide) (Opl.one rfl rfl (by simp only [go_sem] <;> rfl) (Opl.nil (Evr.seq (Evr.seq (Evr.regionN rfl (Opl.one rfl rfl (by simp only [go_sem] <;> rfl) (Opl.one rfl rfl (by simp only [go_sem] <;> rfl) (Opl.one rfl rfl (by simp only [go_sem] <;> rfl) (Opl.nil ?_)))))))))
 by_cases c4 : r11 ≠ r7
 case pos =>
  rw [if_pos c4] at H
  have e7 : (r11 != r7) = true := by simpa using c4
  try rw [e7]
  refine Evr.condT rfl (Evr.seq (Evr.regionN rfl (Opl.one rfl rfl (by simp only [go_sem] <;> rfl) (Opl.nil ?_))))
  obtain rfl := Option.some.inj H
  refine Evr.ret1 Try.func5 rfl ?_
  show (.lit (.bool false) : PV) = _
  first | rfl | (simp only [go_sem]; rfl)
 rw [if_neg c4] at H
 have e8 : (r11 != r7) = false := by simpa using c4
 try rw [e8]
 refine Evr.condF rfl (Evr.skip (Evr.seq (Evr.seq (Evr.regionD rfl (by kernel_rfl) (Opl.ldb (v := .agg [pv7, pv8]) h12 rfl T32 rfl rfl rfl rfl (Opl.ldb (v := .agg [v0_0, v0_1]) h13 rfl T25 rfl rfl rfl rfl ?_))))))
 obtain ⟨r12, h_r12, H⟩ := Option.bind_eq_some_iff.1 H
 refine Opl.call (laws_toSystem.ev hv0_0 hv0_1 h_r12) rfl rfl rfl rfl ⟨(.aggL ⟨hv0_0.plain, hv0_1.plain, trivial⟩), trivial⟩ (by decide) ?_
 rintro _ ⟨pv12, pv13, rfl, h17, h18⟩
 obtain ⟨r13, h_r13, H⟩ := Option.bind_eq_some_iff.1 H
 refine Opl.callc (laws_eqSystem.ev h8 h9 h17 h18 h_r13) rfl rfl rfl rfl ⟨(.aggL ⟨h8.plain, h9.plain, trivial⟩), (.aggL ⟨h17.plain, h18.plain, trivial⟩), trivial⟩ (by decide) (Opl.one rfl rfl (by simp only [go_sem] <;> rfl) (Opl.nil ?_))
 by_cases c5 : r13 = true
 case neg =>
  rw [if_neg c5] at H
  have e14 : (!r13) = true := by simpa using c5
  try rw [e14]
  refine Evr.condT rfl (Evr.seq (Evr.regionN rfl (Opl.one rfl rfl (by simp only [go_sem] <;> rfl) (Opl.nil ?_))))
  obtain rfl := Option.some.inj H
  refine Evr.ret1 Try.func5 rfl ?_
  show (.lit (.bool false) : PV) = _
  first | rfl | (simp only [go_sem]; rfl)
 rw [if_pos c5] at H
 have e9 : (!r13) = false := by simpa using c5
 try rw [e9]
 refine Evr.condF rfl (Evr.skip (Evr.seq (Evr.seq (Evr.regionN rfl (Opl.one rfl rfl (by simp only [go_sem] <;> rfl) (Opl.one rfl rfl (by simp only [go_sem] <;> rfl) ?_))))))
 obtain ⟨r14, h_r14, H⟩ := Option.bind_eq_some_iff.1 H
 refine Opl.call ((laws_toIntSS.ev hv1 h_r14).mono fun _ _ h => Out.vec h) rfl rfl rfl rfl ⟨hv1.plain, trivial⟩ (by decide) ?_
 rintro pv14 h19
 obtain ⟨r15, h_r15, H⟩ := Option.bind_eq_some_iff.1 H
 refine Opl.callc (laws_eqIntSS.ev h14 h19 h_r15) rfl rfl rfl rfl ⟨h14.plain, h19.plain, trivial⟩ (by decide) (Opl.one rfl rfl (by simp only [go_sem] <;> rfl) (Opl.nil ?_))
 by_cases c6 : r15 = true
 case neg =>
  rw [if_neg c6] at H
  have e13 : (!r15) = true := by simpa using c6
  try rw [e13]
  refine Evr.condT rfl (Evr.seq (Evr.regionN rfl (Opl.one rfl rfl (by simp only [go_sem] <;> rfl) (Opl.nil ?_))))
  obtain rfl := Option.some.inj H
  refine Evr.ret1 Try.func5 rfl ?_
  show (.lit (.bool false) : PV) = _
  first | rfl | (simp only [go_sem]; rfl)
 rw [if_pos c6] at H
 have e10 : (!r15) = false := by simpa using c6
 try rw [e10]
 refine Evr.condF rfl (Evr.skip (Evr.seq (Evr.seq (Evr.regionN rfl (Opl.one rfl rfl (by simp only [go_sem] <;> rfl) (Opl.one rfl rfl (by simp only [go_sem] <;> rfl) ?_))))))
 obtain ⟨r16, h_r16, H⟩ := Option.bind_eq_some_iff.1 H
 refine Opl.call ((laws_toIntSS.ev hv2 h_r16).mono fun _ _ h => Out.vec h) rfl rfl rfl rfl ⟨hv2.plain, trivial⟩ (by decide) ?_
 rintro pv15 h20
 obtain ⟨r17, h_r17, H⟩ := Option.bind_eq_some_iff.1 H
 refine Opl.callc (laws_eqIntSS.ev h15 h20 h_r17) rfl rfl rfl rfl ⟨h15.plain, h20.plain, trivial⟩ (by decide) (Opl.one rfl rfl (by simp only [go_sem] <;> rfl) (Opl.nil ?_))
 by_cases c7 : r17 = true
 case neg =>
  rw [if_neg c7] at H
  have e12 : (!r17) = true := by simpa using c7
  try rw [e12]
  refine Evr.condT rfl (Evr.seq (Evr.regionN rfl (Opl.one rfl rfl (by simp only [go_sem] <;> rfl) (Opl.nil ?_))))
  obtain rfl := Option.some.inj H
  refine Evr.ret1 Try.func5 rfl ?_
  show (.lit (.bool false) : PV) = _
  first | rfl | (simp only [go_sem]; rfl)
 rw [if_pos c7] at H
 have e11 : (!r17) = false := by simpa using c7
 try rw [e11]
 refine Evr.condF rfl (Evr.skip (Evr.seq (Evr.regionN rfl (Opl.one rfl rfl (by simp only [go_sem] <;> rfl) (Opl.nil ?_)))))
 obtain rfl := Option.some.inj H
 refine Evr.ret1 Try.func5 rfl ?_
 show (.lit (.bool true) : PV) = _
 first | rfl | (simp only [go_sem]; rfl)
end Go.Proofs.Ytblhlpllkpcolaa.PA
