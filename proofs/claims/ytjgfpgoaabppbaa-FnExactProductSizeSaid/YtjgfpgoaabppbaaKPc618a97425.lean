/- Walks of Go functions: each is shown to answer as the Lean function beside it tells, under the conditions that its theorem names. -/
import Derived.Test.YtjgfpgoaabppbaaProg
import Derived.KernelRfl
import Derived.Below
import Derived.Deep.Draws
import Derived.Deep.AppendLies
import Derived.Maps.AppendAt
import Derived.OwnWalk
import Derived.Laws.BytesArg
import Derived.Laws.MakeOwn
import Derived.Laws.OwnMore
import Derived.Deep.OwnRows
import Derived.Tactics
import Derived.Lib.ConvBytes
import Derived.Laws.Slices
import Derived.WalkKit
import Derived.RowKit3
import Derived.Deep.LoopGhost
import Derived.Deep.QuietTactic
import Derived.BigQuiet
import Derived.WideLaws
import Derived.Deep.DeepCutAuto
import Derived.Deep.CutBlock
import Derived.Deep.RegionHeld3
import Derived.Laws.Rows
import Derived.Lib.AppendStr
import Derived.ArgAppend
import Derived.Laws.IdiomCopy
import Derived.OrdersHeld
import Derived.Laws.BitsLemmas
import Derived.RowKit
import Derived.Laws.StructEq
import Derived.Lib.SliceRun
import Derived.WalkSpells
import Derived.ChangeArms
import Derived.ChangeSlices
import Derived.Deep.Slices
import Derived.Attr
import Derived.Laws.Append
import Derived.Laws.AppendOwn
import Derived.Laws.Entries
import Derived.Calls
import Derived.Laws.Sem
import Derived.Test.YtjgfpgoaabppbaaKP1130066590
import Derived.Test.YtjgfpgoaabppbaaKP37f78dc1bc
namespace Go.Proofs.Ytjgfpgoaabppbaa.PA
open Go Go.Abs Go.RowKit Go.Proofs Go.Proofs.YtjgfpgoaabppbaaW.PrintWords Go.Proofs.YtjgfpgoaabppbaaW.PrintLast Go.Proofs.YtjgfpgoaabppbaaW.PrintMore
set_option maxRecDepth 100000
set_option maxHeartbeats 4000000
set_option linter.unusedVariables false
set_option linter.unusedSimpArgs false
theorem laws_FnExactProductSize.ev {k : Nat} {l0_0 : List LVar} {v0_0 : PV} (hv0_0 : Sl cLVar l0_0 v0_0) {l0_1 : List LRule} {v0_1 : PV} (hv0_1 : Sl cLRule l0_1 v0_1) {l1 : List (List LTerm)} {v1 : PV} (hv1 : Sl (cSl cLTerm) l1 v1) {l2 : List LTime} {v2 : PV} (hv2 : Sl cLTime l2 v2) {r : Bool} (H : laws_FnExactProductSize.f k l0_0 l0_1 l1 l2 = some r) : Ret Try.prog 9 [.agg [v0_0, v0_1], v1, v2] fun v S => v = .lit (.bool r) := by
 unfold laws_FnExactProductSize.f at H
 refine Ret.intro Try.func9 rfl (Nat.le_of_ble_eq_true rfl) rfl ?_
 rw [tm3]
 refine Evr.seq (Evr.regionN rfl (Opl.box (cs := [v0_0, v0_1]) rfl rfl rfl rfl ?_))
 rintro i1 S h1 u1 w1
 refine Opl.one rfl rfl (by simp only [go_sem]; rfl) (Opl.nil (Evr.seq (Evr.regionN rfl (Opl.one rfl rfl (by simp only [go_sem]; rfl) (Opl.nil (Evr.seq (Evr.regionN rfl (Opl.ldb (v := .agg [v0_0, v0_1]) h1 rfl T83 rfl rfl rfl rfl (Opl.one rfl rfl (by simp only [go_sem]; rfl) ?_)))))))))
 obtain ⟨t1497, h_t1497, H⟩ := Option.bind_eq_some_iff.1 H
 refine Opl.callc (laws_szSystem.ev hv0_0 hv0_1 h_t1497) rfl rfl rfl rfl ⟨(.aggL ⟨hv0_0.plain, hv0_1.plain, trivial⟩), (.lit _), trivial⟩ (by decide) (Opl.one rfl rfl (by simp only [go_sem]; rfl) (Opl.nil (Evr.seq (Evr.seq (Evr.regionN rfl (Opl.one rfl rfl (by simp only [go_sem]; rfl) (Opl.one rfl rfl (by simp only [go_sem]; rfl) (Opl.nil ?_))))))))
 by_cases c1 : t1497 < 0
 case pos =>
  rw [if_pos c1] at H
  have e1 : (decide (t1497 < 0)) = true := by simpa using c1
  try rw [e1]
  refine Evr.condT rfl (Evr.seq (Evr.regionN rfl (Opl.one rfl rfl (by simp only [go_sem]; rfl) (Opl.nil ?_))))
  obtain rfl := Option.some.inj H
  refine Evr.ret1 Try.func9 rfl ?_
  show (.lit (.bool true) : PV) = _
  first | rfl | (simp only [go_sem]; rfl)
 rw [if_neg c1] at H
 have e2 : (decide (t1497 < 0)) = false := by simpa using c1
 try rw [e2]
 refine Evr.condF rfl (Evr.skip (Evr.seq (Evr.regionN rfl (Opl.one rfl rfl (by simp only [go_sem]; rfl) (Opl.one rfl rfl (by simp only [go_sem]; rfl) ?_)))))
 obtain ⟨t1498, h_t1498, H⟩ := Option.bind_eq_some_iff.1 H
 refine Opl.callc (laws_szTermSS.ev hv1 h_t1498) rfl rfl rfl rfl ⟨hv1.plain, (.lit _), trivial⟩ (by decide) (Opl.one rfl rfl (by simp only [go_sem]; rfl) (Opl.nil (Evr.seq (Evr.seq (Evr.regionN rfl (Opl.one rfl rfl (by simp only [go_sem]; rfl) (Opl.one rfl rfl (by simp only [go_sem]; rfl) (Opl.nil ?_))))))))
 by_cases c2 : t1498 < 0
 case pos =>
  rw [if_pos c2] at H
  have e3 : (decide (t1498 < 0)) = true := by simpa using c2
  try rw [e3]
  refine Evr.condT rfl (Evr.seq (Evr.regionN rfl (Opl.one rfl rfl (by simp only [go_sem]; rfl) (Opl.nil ?_))))
  obtain rfl := Option.some.inj H
  refine Evr.ret1 Try.func9 rfl ?_
  show (.lit (.bool true) : PV) = _
  first | rfl | (simp only [go_sem]; rfl)
 rw [if_neg c2] at H
 have e4 : (decide (t1498 < 0)) = false := by simpa using c2
 try rw [e4]
 refine Evr.condF rfl (Evr.skip (Evr.seq (Evr.regionN rfl (Opl.one rfl rfl (by simp only [go_sem]; rfl) (Opl.one rfl rfl (by simp only [go_sem]; rfl) ?_)))))
 obtain ⟨t1499, h_t1499, H⟩ := Option.bind_eq_some_iff.1 H
 refine Opl.callc (laws_szTimeS.ev hv2 h_t1499) rfl rfl rfl rfl ⟨hv2.plain, (.lit _), trivial⟩ (by decide) (Opl.one rfl rfl (by simp only [go_sem]; rfl) (Opl.nil (Evr.seq (Evr.seq (Evr.regionN rfl (Opl.one rfl rfl (by simp only [go_sem]; rfl) (Opl.one rfl rfl (by simp only [go_sem]; rfl) (Opl.nil ?_))))))))
 by_cases c3 : t1499 < 0
 case pos =>
  rw [if_pos c3] at H
  have e5 : (decide (t1499 < 0)) = true := by simpa using c3
  try rw [e5]
  refine Evr.condT rfl (Evr.seq (Evr.regionN rfl (Opl.one rfl rfl (by simp only [go_sem]; rfl) (Opl.nil ?_))))
  obtain rfl := Option.some.inj H
  refine Evr.ret1 Try.func9 rfl ?_
  show (.lit (.bool true) : PV) = _
  first | rfl | (simp only [go_sem]; rfl)
 rw [if_neg c3] at H
 have e6 : (decide (t1499 < 0)) = false := by simpa using c3
 try rw [e6]
 refine Evr.condF rfl (Evr.skip (Evr.seq (Evr.regionN rfl (Opl.ldb (v := .agg [v0_0, v0_1]) h1 rfl T83 rfl rfl rfl rfl ?_))))
 obtain ⟨bt1500, h_bt1500, H⟩ := Option.bind_eq_some_iff.1 H
 refine Opl.call (laws_toSystem.ev hv0_0 hv0_1 h_bt1500) rfl rfl rfl rfl ⟨(.aggL ⟨hv0_0.plain, hv0_1.plain, trivial⟩), trivial⟩ (by decide) ?_
 rintro _ ⟨pv2, pv3, rfl, h3, h4⟩
 refine Opl.one rfl rfl (by simp only [go_sem]; rfl) ?_
 obtain ⟨t1506, h_t1506, H⟩ := Option.bind_eq_some_iff.1 H
 refine Opl.call ((laws_toTermSS.ev hv1 h_t1506).mono fun _ _ h => Out.vec h) rfl rfl rfl rfl ⟨hv1.plain, trivial⟩ (by decide) ?_
 rintro pv4 h5
 refine Opl.one rfl rfl (by simp only [go_sem]; rfl) ?_
 obtain ⟨t1509, h_t1509, H⟩ := Option.bind_eq_some_iff.1 H
 refine Opl.call ((laws_toTimeS.ev hv2 h_t1509).mono fun _ _ h => Out.vec h) rfl rfl rfl rfl ⟨hv2.plain, trivial⟩ (by decide) ?_
 rintro pv5 h6
 obtain ⟨t1512, h_t1512, H⟩ := Option.bind_eq_some_iff.1 H
 refine Opl.callc (spec_ProductSize.ev h3 h4 h5 h6 h_t1512) rfl rfl rfl rfl ⟨(.aggL ⟨h3.plain, h4.plain, trivial⟩), h5.plain, h6.plain, trivial⟩ (by decide) (Opl.one rfl rfl (by simp only [go_sem]; rfl) (Opl.nil (Evr.seq (Evr.regionN rfl (Opl.ldb (v := .agg [v0_0, v0_1]) h1 rfl T83 rfl rfl rfl rfl ?_)))))
 obtain ⟨bt1513, h_bt1513, H⟩ := Option.bind_eq_some_iff.1 H
 refine Opl.call (laws_toSystem.ev hv0_0 hv0_1 h_bt1513) rfl rfl rfl rfl ⟨(.aggL ⟨hv0_0.plain, hv0_1.plain, trivial⟩), trivial⟩ (by decide) ?_
 rintro _ ⟨pv7, pv8, rfl, h8, h9⟩
 refine Opl.alloc T91 rfl rfl rfl ?_
 rintro i2 S h10 u2 w2
 have ap1 := w2.box h1
 have h11 := u2.box h1 ap1
 refine Opl.stb (vs := [pv7, pv8]) h10 rfl rfl Z91 rfl (Nat.le_of_ble_eq_true rfl) (by simp only [List.all_cons, List.all_nil, h8.one, h9.one, Bool.and_true, Bool.true_and] <;> rfl) rfl rfl rfl ?_
 rintro S (h12 : Box (.ptr i2 0) [pv7, pv8] _) u3
 have h13 := u3.box h11 ap1
 refine Opl.nil (Evr.seq (Evr.regionN rfl (Opl.one rfl rfl (by simp only [go_sem]; rfl) ?_)))
 obtain ⟨t1520, h_t1520, H⟩ := Option.bind_eq_some_iff.1 H
 refine Opl.call ((laws_toTermSS.ev hv1 h_t1520).mono fun _ _ h => Out.vec h) rfl rfl rfl rfl ⟨hv1.plain, trivial⟩ (by decide) ?_
 rintro pv9 h14
 refine Opl.one rfl rfl (by simp only [go_sem]; rfl) (Opl.nil (Evr.seq (Evr.regionN rfl (Opl.one rfl rfl (by simp only [go_sem]; rfl) ?_))))
 obtain ⟨t1523, h_t1523, H⟩ := Option.bind_eq_some_iff.1 H
 refine Opl.call ((laws_toTimeS.ev hv2 h_t1523).mono fun _ _ h => Out.vec h) rfl rfl rfl rfl ⟨hv2.plain, trivial⟩ (by decide) ?_
 rintro pv10 h15
 refine Opl.one rfl rfl (by simp only [go_sem]; rfl) (Opl.nil (Evr.seq (Evr.regionN rfl (Opl.ldb (v := .agg [pv7, pv8]) h12 rfl T91 rfl rfl rfl rfl (Opl.one rfl rfl (by simp only [go_sem]; rfl) (Opl.one rfl rfl (by simp only [go_sem]; rfl) ?_))))))
 obtain ⟨t1526, h_t1526, H⟩ := Option.bind_eq_some_iff.1 H
 refine Opl.callc (impl_ProductSize.ev h8 h9 h14 h15 h_t1526) rfl rfl rfl rfl ⟨(.aggL ⟨h8.plain, h9.plain, trivial⟩), h14.plain, h15.plain, trivial⟩ (by decide) (Opl.one rfl rfl (by simp only [go_sem]; rfl) (Opl.nil (Evr.seq (Evr.seq (Evr.regionN rfl (Opl.one rfl rfl (by simp only [go_sem]; rfl) (Opl.one rfl rfl (by simp only [go_sem]; rfl) (Opl.one rfl rfl (by simp only [go_sem]; rfl) (Opl.nil ?_)))))))))
 by_cases c4 : t1526 = t1512
 case neg =>
  rw [if_neg c4] at H
  have e14 : (t1526 != t1512) = true := by simpa using c4
  try rw [e14]
  refine Evr.condT rfl (Evr.seq (Evr.regionN rfl (Opl.one rfl rfl (by simp only [go_sem]; rfl) (Opl.nil ?_))))
  obtain rfl := Option.some.inj H
  refine Evr.ret1 Try.func9 rfl ?_
  show (.lit (.bool false) : PV) = _
  first | rfl | (simp only [go_sem]; rfl)
 rw [if_pos c4] at H
 have e7 : (t1526 != t1512) = false := by simpa using c4
 try rw [e7]
 refine Evr.condF rfl (Evr.skip (Evr.seq (Evr.seq (Evr.regionD rfl (by kernel_rfl) (Opl.ldb (v := .agg [pv7, pv8]) h12 rfl T91 rfl rfl rfl rfl (Opl.ldb (v := .agg [v0_0, v0_1]) h13 rfl T83 rfl rfl rfl rfl ?_))))))
 obtain ⟨bt1527, h_bt1527, H⟩ := Option.bind_eq_some_iff.1 H
 refine Opl.call (laws_toSystem.ev hv0_0 hv0_1 h_bt1527) rfl rfl rfl rfl ⟨(.aggL ⟨hv0_0.plain, hv0_1.plain, trivial⟩), trivial⟩ (by decide) ?_
 rintro _ ⟨pv12, pv13, rfl, h17, h18⟩
 obtain ⟨t1533, h_t1533, H⟩ := Option.bind_eq_some_iff.1 H
 refine Opl.callc (laws_eqSystem.ev h8 h9 h17 h18 h_t1533) rfl rfl rfl rfl ⟨(.aggL ⟨h8.plain, h9.plain, trivial⟩), (.aggL ⟨h17.plain, h18.plain, trivial⟩), trivial⟩ (by decide) (Opl.one rfl rfl (by simp only [go_sem]; rfl) (Opl.nil ?_))
 by_cases c5 : t1533 = true
 case neg =>
  rw [if_neg c5] at H
  have e13 : (!t1533) = true := by simpa using c5
  try rw [e13]
  refine Evr.condT rfl (Evr.seq (Evr.regionN rfl (Opl.one rfl rfl (by simp only [go_sem]; rfl) (Opl.nil ?_))))
  obtain rfl := Option.some.inj H
  refine Evr.ret1 Try.func9 rfl ?_
  show (.lit (.bool false) : PV) = _
  first | rfl | (simp only [go_sem]; rfl)
 rw [if_pos c5] at H
 have e8 : (!t1533) = false := by simpa using c5
 try rw [e8]
 refine Evr.condF rfl (Evr.skip (Evr.seq (Evr.seq (Evr.regionN rfl (Opl.one rfl rfl (by simp only [go_sem]; rfl) (Opl.one rfl rfl (by simp only [go_sem]; rfl) ?_))))))
 obtain ⟨t1534, h_t1534, H⟩ := Option.bind_eq_some_iff.1 H
 refine Opl.call ((laws_toTermSS.ev hv1 h_t1534).mono fun _ _ h => Out.vec h) rfl rfl rfl rfl ⟨hv1.plain, trivial⟩ (by decide) ?_
 rintro pv14 h19
 obtain ⟨t1537, h_t1537, H⟩ := Option.bind_eq_some_iff.1 H
 refine Opl.callc (laws_eqTermSS.ev h14 h19 h_t1537) rfl rfl rfl rfl ⟨h14.plain, h19.plain, trivial⟩ (by decide) (Opl.one rfl rfl (by simp only [go_sem]; rfl) (Opl.nil ?_))
 by_cases c6 : t1537 = true
 case neg =>
  rw [if_neg c6] at H
  have e12 : (!t1537) = true := by simpa using c6
  try rw [e12]
  refine Evr.condT rfl (Evr.seq (Evr.regionN rfl (Opl.one rfl rfl (by simp only [go_sem]; rfl) (Opl.nil ?_))))
  obtain rfl := Option.some.inj H
  refine Evr.ret1 Try.func9 rfl ?_
  show (.lit (.bool false) : PV) = _
  first | rfl | (simp only [go_sem]; rfl)
 rw [if_pos c6] at H
 have e9 : (!t1537) = false := by simpa using c6
 try rw [e9]
 refine Evr.condF rfl (Evr.skip (Evr.seq (Evr.seq (Evr.regionN rfl (Opl.one rfl rfl (by simp only [go_sem]; rfl) (Opl.one rfl rfl (by simp only [go_sem]; rfl) ?_))))))
 obtain ⟨t1538, h_t1538, H⟩ := Option.bind_eq_some_iff.1 H
 refine Opl.call ((laws_toTimeS.ev hv2 h_t1538).mono fun _ _ h => Out.vec h) rfl rfl rfl rfl ⟨hv2.plain, trivial⟩ (by decide) ?_
 rintro pv15 h20
 obtain ⟨t1541, h_t1541, H⟩ := Option.bind_eq_some_iff.1 H
 refine Opl.callc (laws_eqTimeS.ev h15 h20 h_t1541) rfl rfl rfl rfl ⟨h15.plain, h20.plain, trivial⟩ (by decide) (Opl.one rfl rfl (by simp only [go_sem]; rfl) (Opl.nil ?_))
 by_cases c7 : t1541 = true
 case neg =>
  rw [if_neg c7] at H
  have e11 : (!t1541) = true := by simpa using c7
  try rw [e11]
  refine Evr.condT rfl (Evr.seq (Evr.regionN rfl (Opl.one rfl rfl (by simp only [go_sem]; rfl) (Opl.nil ?_))))
  obtain rfl := Option.some.inj H
  refine Evr.ret1 Try.func9 rfl ?_
  show (.lit (.bool false) : PV) = _
  first | rfl | (simp only [go_sem]; rfl)
 rw [if_pos c7] at H
 have e10 : (!t1541) = false := by simpa using c7
 try rw [e10]
 refine Evr.condF rfl (Evr.skip (Evr.seq (Evr.regionN rfl (Opl.one rfl rfl (by simp only [go_sem]; rfl) (Opl.nil ?_)))))
 obtain rfl := Option.some.inj H
 refine Evr.ret1 Try.func9 rfl ?_
 show (.lit (.bool true) : PV) = _
 first | rfl | (simp only [go_sem]; rfl)
end Go.Proofs.Ytjgfpgoaabppbaa.PA
