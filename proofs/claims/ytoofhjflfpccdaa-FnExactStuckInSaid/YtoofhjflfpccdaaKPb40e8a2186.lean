/- Walks of Go functions: each is shown to answer as the Lean function beside it tells, under the conditions that its theorem names. -/
import Derived.Test.YtoofhjflfpccdaaProg
import Derived.KernelRfl
import Derived.Below
import Derived.Deep.Draws
import Derived.Deep.AppendLies
import Derived.Maps.AppendAt
import Derived.OwnWalk
import Derived.Laws.BytesArg
import Derived.Laws.MakeOwn
import Derived.Laws.OwnMore
import Derived.Deep.OwnRows
import Derived.Tactics
import Derived.Lib.ConvBytes
import Derived.Laws.Slices
import Derived.WalkKit
import Derived.RowKit3
import Derived.Deep.LoopGhost
import Derived.Deep.QuietTactic
import Derived.BigQuiet
import Derived.WideLaws
import Derived.Deep.DeepCutAuto
import Derived.Deep.CutBlock
import Derived.Deep.RegionHeld3
import Derived.Laws.Rows
import Derived.Lib.AppendStr
import Derived.ArgAppend
import Derived.Laws.IdiomCopy
import Derived.OrdersHeld
import Derived.Laws.BitsLemmas
import Derived.RowKit
import Derived.Laws.StructEq
import Derived.Lib.SliceRun
import Derived.WalkSpells
import Derived.ChangeArms
import Derived.ChangeSlices
import Derived.Deep.Slices
import Derived.Attr
import Derived.Laws.Append
import Derived.Laws.AppendOwn
import Derived.Laws.Entries
import Derived.Calls
import Derived.Laws.Sem
import Derived.Test.YtoofhjflfpccdaaKP4d45b801e8
import Derived.Test.YtoofhjflfpccdaaKP0c66442539
namespace Go.Proofs.Ytoofhjflfpccdaa.PA
open Go Go.Abs Go.RowKit Go.Proofs Go.Proofs.YtoofhjflfpccdaaW.PrintWords Go.Proofs.YtoofhjflfpccdaaW.PrintLast Go.Proofs.YtoofhjflfpccdaaW.PrintMore
set_option maxRecDepth 100000
set_option maxHeartbeats 4000000
set_option linter.unusedVariables false
set_option linter.unusedSimpArgs false
theorem laws_FnExactStuckIn.ev {k : Nat} {l0_0 : List LVar} {v0_0 : PV} (hv0_0 : Sl cLVar l0_0 v0_0) {l0_1 : List LRule} {v0_1 : PV} (hv0_1 : Sl cLRule l0_1 v0_1) {l1 : List Int} {v1 : PV} (hv1 : Sl (cInt .i64) l1 v1) {r : Bool} (H : laws_FnExactStuckIn.f k l0_0 l0_1 l1 = some r) : Ret Try.prog 11 [.agg [v0_0, v0_1], v1] fun v S => v = .lit (.bool r) := by
 unfold laws_FnExactStuckIn.f at H
 refine Ret.intro Try.func11 rfl (Nat.le_of_ble_eq_true rfl) rfl ?_
 rw [tm2]
 refine Evr.seq (Evr.regionN rfl (Opl.box (cs := [v0_0, v0_1]) rfl rfl rfl rfl ?_))
 rintro i1 S h1 u1 w1
 refine Opl.one rfl rfl (by simp only [go_sem]; rfl) (Opl.nil (Evr.seq (Evr.seq (Evr.regionN rfl (Opl.one rfl rfl (by simp only [go_sem]; rfl) (Opl.len (by exact hv1) K35 rfl rfl rfl rfl (Opl.one rfl rfl (by simp only [go_sem]; rfl) (Opl.nil ?_))))))))
 by_cases c1 : (l1.length : Int) > 1048576
 case pos =>
  rw [if_pos c1] at H
  have e1 : (decide ((l1.length : Int) > 1048576)) = true := by simpa using c1
  try rw [e1]
  refine Evr.condT rfl (Evr.seq (Evr.regionN rfl (Opl.one rfl rfl (by simp only [go_sem]; rfl) (Opl.nil ?_))))
  obtain rfl := Option.some.inj H
  refine Evr.ret1 Try.func11 rfl ?_
  show (.lit (.bool true) : PV) = _
  first | rfl | (simp only [go_sem]; rfl)
 rw [if_neg c1] at H
 have e2 : (decide ((l1.length : Int) > 1048576)) = false := by simpa using c1
 try rw [e2]
 refine Evr.condF rfl (Evr.skip (Evr.seq (Evr.regionN rfl (Opl.one rfl rfl (by simp only [go_sem]; rfl) (Opl.nil (Evr.seq (Evr.regionN rfl (Opl.ldb (v := .agg [v0_0, v0_1]) h1 rfl T25 rfl rfl rfl rfl (Opl.one rfl rfl (by simp only [go_sem]; rfl) ?_)))))))))
 obtain ⟨t973, h_t973, H⟩ := Option.bind_eq_some_iff.1 H
 refine Opl.callc (laws_szSystem.ev hv0_0 hv0_1 h_t973) rfl rfl rfl rfl ⟨(.aggL ⟨hv0_0.plain, hv0_1.plain, trivial⟩), (.lit _), trivial⟩ (by decide) (Opl.one rfl rfl (by simp only [go_sem]; rfl) (Opl.nil (Evr.seq (Evr.seq (Evr.regionN rfl (Opl.one rfl rfl (by simp only [go_sem]; rfl) (Opl.one rfl rfl (by simp only [go_sem]; rfl) (Opl.nil ?_))))))))
 by_cases c2 : t973 < 0
 case pos =>
  rw [if_pos c2] at H
  have e3 : (decide (t973 < 0)) = true := by simpa using c2
  try rw [e3]
  refine Evr.condT rfl (Evr.seq (Evr.regionN rfl (Opl.one rfl rfl (by simp only [go_sem]; rfl) (Opl.nil ?_))))
  obtain rfl := Option.some.inj H
  refine Evr.ret1 Try.func11 rfl ?_
  show (.lit (.bool true) : PV) = _
  first | rfl | (simp only [go_sem]; rfl)
 rw [if_neg c2] at H
 have e4 : (decide (t973 < 0)) = false := by simpa using c2
 try rw [e4]
 refine Evr.condF rfl (Evr.skip (Evr.seq (Evr.regionN rfl (Opl.ldb (v := .agg [v0_0, v0_1]) h1 rfl T25 rfl rfl rfl rfl ?_))))
 obtain ⟨bt974, h_bt974, H⟩ := Option.bind_eq_some_iff.1 H
 refine Opl.call (laws_toSystem.ev hv0_0 hv0_1 h_bt974) rfl rfl rfl rfl ⟨(.aggL ⟨hv0_0.plain, hv0_1.plain, trivial⟩), trivial⟩ (by decide) ?_
 rintro _ ⟨pv2, pv3, rfl, h3, h4⟩
 refine Opl.one rfl rfl (by simp only [go_sem]; rfl) ?_
 obtain ⟨t980, h_t980, H⟩ := Option.bind_eq_some_iff.1 H
 refine Opl.call ((laws_toIntS.ev hv1 h_t980).mono fun _ _ h => Out.vec h) rfl rfl rfl rfl ⟨hv1.plain, trivial⟩ (by decide) ?_
 rintro pv4 h5
 obtain ⟨t983, h_t983, H⟩ := Option.bind_eq_some_iff.1 H
 refine Opl.callc (spec_StuckIn.ev h3 h4 h5 h_t983) rfl rfl rfl rfl ⟨(.aggL ⟨h3.plain, h4.plain, trivial⟩), h5.plain, trivial⟩ (by decide) (Opl.one rfl rfl (by simp only [go_sem]; rfl) (Opl.nil (Evr.seq (Evr.regionN rfl (Opl.ldb (v := .agg [v0_0, v0_1]) h1 rfl T25 rfl rfl rfl rfl ?_)))))
 obtain ⟨bt984, h_bt984, H⟩ := Option.bind_eq_some_iff.1 H
 refine Opl.call (laws_toSystem.ev hv0_0 hv0_1 h_bt984) rfl rfl rfl rfl ⟨(.aggL ⟨hv0_0.plain, hv0_1.plain, trivial⟩), trivial⟩ (by decide) ?_
 rintro _ ⟨pv6, pv7, rfl, h7, h8⟩
 refine Opl.alloc T31 rfl rfl rfl ?_
 rintro i2 S h9 u2 w2
 have ap1 := w2.box h1
 have h10 := u2.box h1 ap1
 refine Opl.stb (vs := [pv6, pv7]) h9 rfl rfl Z31 rfl (Nat.le_of_ble_eq_true rfl) (by simp only [List.all_cons, List.all_nil, h7.one, h8.one, Bool.and_true, Bool.true_and] <;> rfl) rfl rfl rfl ?_
 rintro S (h11 : Box (.ptr i2 0) [pv6, pv7] _) u3
 have h12 := u3.box h10 ap1
 refine Opl.nil (Evr.seq (Evr.regionN rfl (Opl.one rfl rfl (by simp only [go_sem]; rfl) ?_)))
 obtain ⟨t991, h_t991, H⟩ := Option.bind_eq_some_iff.1 H
 refine Opl.call ((laws_toIntS.ev hv1 h_t991).mono fun _ _ h => Out.vec h) rfl rfl rfl rfl ⟨hv1.plain, trivial⟩ (by decide) ?_
 rintro pv8 h13
 refine Opl.one rfl rfl (by simp only [go_sem]; rfl) (Opl.nil (Evr.seq (Evr.regionN rfl (Opl.ldb (v := .agg [pv6, pv7]) h11 rfl T31 rfl rfl rfl rfl (Opl.one rfl rfl (by simp only [go_sem]; rfl) ?_)))))
 obtain ⟨t994, h_t994, H⟩ := Option.bind_eq_some_iff.1 H
 refine Opl.callc (impl_StuckIn.ev h7 h8 h13 h_t994) rfl rfl rfl rfl ⟨(.aggL ⟨h7.plain, h8.plain, trivial⟩), h13.plain, trivial⟩ (by decide) (Opl.one rfl rfl (by simp only [go_sem]; rfl) (Opl.nil (Evr.seq (Evr.seq (Evr.regionN rfl (Opl.one rfl rfl (by simp only [go_sem]; rfl) (Opl.one rfl rfl (by simp only [go_sem]; rfl) (Opl.one rfl rfl (by simp only [go_sem]; rfl) (Opl.nil ?_)))))))))
 by_cases c3 : (t994 != t983) = true
 case pos =>
  rw [if_pos c3] at H
  have e5 : (t994 != t983) = true := by simpa using c3
  try rw [e5]
  refine Evr.condT rfl (Evr.seq (Evr.regionN rfl (Opl.one rfl rfl (by simp only [go_sem]; rfl) (Opl.nil ?_))))
  obtain rfl := Option.some.inj H
  refine Evr.ret1 Try.func11 rfl ?_
  show (.lit (.bool false) : PV) = _
  first | rfl | (simp only [go_sem]; rfl)
 rw [if_neg c3] at H
 have e6 : (t994 != t983) = false := by simpa using c3
 try rw [e6]
 refine Evr.condF rfl (Evr.skip (Evr.seq (Evr.seq (Evr.regionD rfl (by kernel_rfl) (Opl.ldb (v := .agg [pv6, pv7]) h11 rfl T31 rfl rfl rfl rfl (Opl.ldb (v := .agg [v0_0, v0_1]) h12 rfl T25 rfl rfl rfl rfl ?_))))))
 obtain ⟨bt995, h_bt995, H⟩ := Option.bind_eq_some_iff.1 H
 refine Opl.call (laws_toSystem.ev hv0_0 hv0_1 h_bt995) rfl rfl rfl rfl ⟨(.aggL ⟨hv0_0.plain, hv0_1.plain, trivial⟩), trivial⟩ (by decide) ?_
 rintro _ ⟨pv10, pv11, rfl, h15, h16⟩
 obtain ⟨t1001, h_t1001, H⟩ := Option.bind_eq_some_iff.1 H
 refine Opl.callc (laws_eqSystem.ev h7 h8 h15 h16 h_t1001) rfl rfl rfl rfl ⟨(.aggL ⟨h7.plain, h8.plain, trivial⟩), (.aggL ⟨h15.plain, h16.plain, trivial⟩), trivial⟩ (by decide) (Opl.one rfl rfl (by simp only [go_sem]; rfl) (Opl.nil ?_))
 by_cases c4 : t1001 = true
 case neg =>
  rw [if_neg c4] at H
  have e10 : (!t1001) = true := by simpa using c4
  try rw [e10]
  refine Evr.condT rfl (Evr.seq (Evr.regionN rfl (Opl.one rfl rfl (by simp only [go_sem]; rfl) (Opl.nil ?_))))
  obtain rfl := Option.some.inj H
  refine Evr.ret1 Try.func11 rfl ?_
  show (.lit (.bool false) : PV) = _
  first | rfl | (simp only [go_sem]; rfl)
 rw [if_pos c4] at H
 have e7 : (!t1001) = false := by simpa using c4
 try rw [e7]
 refine Evr.condF rfl (Evr.skip (Evr.seq (Evr.seq (Evr.regionN rfl (Opl.one rfl rfl (by simp only [go_sem]; rfl) (Opl.one rfl rfl (by simp only [go_sem]; rfl) ?_))))))
 obtain ⟨t1002, h_t1002, H⟩ := Option.bind_eq_some_iff.1 H
 refine Opl.call ((laws_toIntS.ev hv1 h_t1002).mono fun _ _ h => Out.vec h) rfl rfl rfl rfl ⟨hv1.plain, trivial⟩ (by decide) ?_
 rintro pv12 h17
 obtain ⟨t1005, h_t1005, H⟩ := Option.bind_eq_some_iff.1 H
 refine Opl.callc (laws_eqIntS.ev h13 h17 h_t1005) rfl rfl rfl rfl ⟨h13.plain, h17.plain, trivial⟩ (by decide) (Opl.one rfl rfl (by simp only [go_sem]; rfl) (Opl.nil ?_))
 by_cases c5 : t1005 = true
 case neg =>
  rw [if_neg c5] at H
  have e9 : (!t1005) = true := by simpa using c5
  try rw [e9]
  refine Evr.condT rfl (Evr.seq (Evr.regionN rfl (Opl.one rfl rfl (by simp only [go_sem]; rfl) (Opl.nil ?_))))
  obtain rfl := Option.some.inj H
  refine Evr.ret1 Try.func11 rfl ?_
  show (.lit (.bool false) : PV) = _
  first | rfl | (simp only [go_sem]; rfl)
 rw [if_pos c5] at H
 have e8 : (!t1005) = false := by simpa using c5
 try rw [e8]
 refine Evr.condF rfl (Evr.skip (Evr.seq (Evr.regionN rfl (Opl.one rfl rfl (by simp only [go_sem]; rfl) (Opl.nil ?_)))))
 obtain rfl := Option.some.inj H
 refine Evr.ret1 Try.func11 rfl ?_
 show (.lit (.bool true) : PV) = _
 first | rfl | (simp only [go_sem]; rfl)
end Go.Proofs.Ytoofhjflfpccdaa.PA
