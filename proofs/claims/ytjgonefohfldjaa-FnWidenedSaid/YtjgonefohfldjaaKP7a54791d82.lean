/- Walks of Go functions: each is shown to answer as the Lean function beside it tells, under the conditions that its theorem names. -/
import Derived.Test.YtjgonefohfldjaaProg
import Derived.KernelRfl
import Derived.Below
import Derived.Deep.Draws
import Derived.Deep.AppendLies
import Derived.Maps.AppendAt
import Derived.OwnWalk
import Derived.Laws.BytesArg
import Derived.Laws.MakeOwn
import Derived.Laws.OwnMore
import Derived.Deep.OwnRows
import Derived.Tactics
import Derived.Lib.ConvBytes
import Derived.Laws.Slices
import Derived.WalkKit
import Derived.RowKit3
import Derived.Deep.LoopGhost
import Derived.Deep.QuietTactic
import Derived.BigQuiet
import Derived.WideLaws
import Derived.Deep.DeepCutAuto
import Derived.Deep.CutBlock
import Derived.Deep.RegionHeld3
import Derived.Laws.Rows
import Derived.Lib.AppendStr
import Derived.ArgAppend
import Derived.Laws.IdiomCopy
import Derived.OrdersHeld
import Derived.Laws.BitsLemmas
import Derived.RowKit
import Derived.Laws.StructEq
import Derived.Lib.SliceRun
import Derived.WalkSpells
import Derived.ChangeArms
import Derived.ChangeSlices
import Derived.Deep.Slices
import Derived.Attr
import Derived.Laws.Append
import Derived.Laws.AppendOwn
import Derived.Laws.Entries
import Derived.Calls
import Derived.Laws.Sem
import Derived.Test.YtjgonefohfldjaaKPb0faafc519
import Derived.Test.YtjgonefohfldjaaKP13736cede1
namespace Go.Proofs.Ytjgonefohfldjaa.PA
open Go Go.Abs Go.RowKit Go.Proofs Go.Proofs.YtjgonefohfldjaaW.PrintWords Go.Proofs.YtjgonefohfldjaaW.PrintLast Go.Proofs.YtjgonefohfldjaaW.PrintMore
set_option maxRecDepth 100000
set_option maxHeartbeats 4000000
set_option linter.unusedVariables false
set_option linter.unusedSimpArgs false
theorem laws_FnWidened.ev {k : Nat} {l0 : List Int} {v0 : PV} (hv0 : Sl (cInt .u8) l0 v0) {r : Bool} (H : laws_FnWidened.f k l0 = some r) : Ret Try.prog 9 [v0] fun v S => v = .lit (.bool r) := by
 unfold laws_FnWidened.f at H
 refine Ret.intro Try.func9 rfl (Nat.le_of_ble_eq_true rfl) rfl ?_
 rw [tm1]
 refine Evr.sr rfl (Opl.p1 (n := Opl.nil (Evr.seq (Evr.sr rfl (Opl.p1 (n := Opl.len (xs := l0) (by exact hv0) K22 rfl rfl rfl rfl (Opl.p1 (n := Opl.nil ?_))))))))
 by_cases c1 : (l0.length : Int) > 1048576
 case pos =>
  rw [if_pos c1] at H
  have e1 : (decide ((l0.length : Int) > 1048576)) = true := by simpa using c1
  try rw [e1]
  refine Evr.condT rfl (Evr.sr rfl (Opl.p1 (n := Opl.nil ?_)))
  obtain rfl := Option.some.inj H
  refine Evr.ret1 Try.func9 rfl ?_
  show (.lit (.bool true) : PV) = _
  first | rfl | (simp only [go_sem]; rfl)
 rw [if_neg c1] at H
 have e2 : (decide ((l0.length : Int) > 1048576)) = false := by simpa using c1
 try rw [e2]
 refine Evr.condF rfl (Evr.skip (Evr.sr rfl (Opl.p1 (n := ?_))))
 obtain ⟨r1, h_r1, H⟩ := Option.bind_eq_some_iff.1 H
 refine Opl.call (spec_DrawWidened.ev hv0 h_r1) rfl rfl rfl rfl ⟨hv0.plain, trivial⟩ (by decide) ?_
 rintro _ ⟨_, pv4, pv5, rfl, ⟨pv2, pv3, rfl, h2, h3⟩, h4, h5⟩
 refine Opl.p1 (n := Opl.p1 (v := .agg [pv2, pv3]) (n := Opl.p1 (v := pv4) (n := Opl.p1 (v := pv5) (n := Opl.alloc T26 rfl rfl rfl ?_))))
 rintro i1 S h6 u1 w1
 refine Opl.stb (vs := [pv2, pv3]) h6 rfl rfl Z26 rfl (Nat.le_of_ble_eq_true rfl) (by simp only [List.all_cons, List.all_nil, h2.one, h3.one, Bool.and_true, Bool.true_and] <;> rfl) rfl rfl rfl ?_
 rintro S (h7 : Box (.ptr i1 0) [pv2, pv3] _) u2
 refine Opl.p1 (n := Opl.p1 (n := Opl.nil (Evr.sr rfl (Opl.ldb (v := .agg [pv2, pv3]) h7 rfl T26 rfl rfl rfl rfl (Opl.p1 (n := Opl.p1 (n := ?_)))))))
 obtain ⟨r2, h_r2, H⟩ := Option.bind_eq_some_iff.1 H
 refine Opl.call ((impl_Widened.ev h2 h3 h4 h5 h_r2).mono fun _ _ h => Out.vec h) rfl rfl rfl rfl ⟨(.aggL ⟨h2.plain, h3.plain, trivial⟩), h4.plain, h5.plain, trivial⟩ (by decide) ?_
 rintro pv6 h8
 refine Opl.p1 (n := Opl.nil (Evr.seq (Evr.seq (Evr.regionD rfl (by kernel_rfl) (Opl.p1 (n := Opl.ldb (v := .agg [pv2, pv3]) h7 rfl T26 rfl rfl rfl rfl (Opl.p1 (n := Opl.p1 (n := ?_)))))))))
 obtain ⟨r3, h_r3, H⟩ := Option.bind_eq_some_iff.1 H
 refine Opl.call ((spec_Widened.ev h2 h3 h4 h5 h_r3).mono fun _ _ h => Out.vec h) rfl rfl rfl rfl ⟨(.aggL ⟨h2.plain, h3.plain, trivial⟩), h4.plain, h5.plain, trivial⟩ (by decide) ?_
 rintro pv7 h9
 obtain ⟨r4, h_r4, H⟩ := Option.bind_eq_some_iff.1 H
 refine Opl.callc (laws_wcInts.ev h8 h9 h_r4) rfl rfl rfl rfl ⟨h8.plain, h9.plain, trivial⟩ (by decide) (Opl.p1 (n := Opl.p1 (n := ?_)))
 by_cases c2 : r4 = true
 case neg =>
  rw [if_neg c2] at H
  have e10 : (!r4) = true := by simpa using c2
  try rw [e10]
  refine Opl.skp rfl (Opl.skp rfl (Opl.skp rfl (Opl.skp rfl (Opl.skp rfl (Opl.skp rfl (Opl.skp rfl (Opl.p1 (n := Opl.nil (Evr.condT rfl (Evr.sr rfl (Opl.p1 (n := Opl.nil ?_))))))))))))
  obtain rfl := Option.some.inj H
  refine Evr.ret1 Try.func9 rfl ?_
  show (.lit (.bool false) : PV) = _
  first | rfl | (simp only [go_sem]; rfl)
 rw [if_pos c2] at H
 have e3 : (!r4) = false := by simpa using c2
 try rw [e3]
 refine Opl.ldb (v := .agg [pv2, pv3]) h7 rfl T26 rfl rfl rfl rfl (Opl.p1 (n := ?_))
 obtain ⟨r5, h_r5, H⟩ := Option.bind_eq_some_iff.1 H
 refine Opl.callc (impl_SetValid.ev h2 h3 h5 h_r5) rfl rfl rfl rfl ⟨(.aggL ⟨h2.plain, h3.plain, trivial⟩), h5.plain, trivial⟩ (by decide) (Opl.ldb (v := .agg [pv2, pv3]) h7 rfl T26 rfl rfl rfl rfl (Opl.p1 (n := ?_)))
 obtain ⟨r6, h_r6, H⟩ := Option.bind_eq_some_iff.1 H
 refine Opl.callc (spec_SetValid.ev h2 h3 h5 h_r6) rfl rfl rfl rfl ⟨(.aggL ⟨h2.plain, h3.plain, trivial⟩), h5.plain, trivial⟩ (by decide) (Opl.p1 (n := Opl.p1 (n := Opl.nil ?_)))
 by_cases c3 : r5 ≠ r6
 case pos =>
  rw [if_pos c3] at H
  have e4 : (r5 != r6) = true := by simpa using c3
  try rw [e4]
  refine Evr.condT rfl (Evr.sr rfl (Opl.p1 (n := Opl.nil ?_)))
  obtain rfl := Option.some.inj H
  refine Evr.ret1 Try.func9 rfl ?_
  show (.lit (.bool false) : PV) = _
  first | rfl | (simp only [go_sem]; rfl)
 rw [if_neg c3] at H
 have e5 : (r5 != r6) = false := by simpa using c3
 try rw [e5]
 refine Evr.condF rfl (Evr.skip (Evr.seq (Evr.sr rfl (Opl.p1 (n := Opl.len (xs := r2) (by exact h8) K29 rfl rfl rfl rfl (Opl.p1 (n := Opl.nil ?_)))))))
 by_cases c4 : (r2.length : Int) = 0
 case pos =>
  rw [if_pos c4] at H
  have e6 : ((r2.length : Int) == 0) = true := by simpa using c4
  try rw [e6]
  refine Evr.condT rfl (Evr.sr rfl (Opl.p1 (n := Opl.nil ?_)))
  obtain rfl := Option.some.inj H
  refine Evr.ret1 Try.func9 rfl ?_
  show (.lit (.bool true) : PV) = _
  first | rfl | (simp only [go_sem]; rfl)
 rw [if_neg c4] at H
 have e7 : ((r2.length : Int) == 0) = false := by simpa using c4
 try rw [e7]
 refine Evr.condF rfl (Evr.skip (Evr.sr rfl (Opl.ldb (v := .agg [pv2, pv3]) h7 rfl T26 rfl rfl rfl rfl (Opl.p1 (n := ?_)))))
 obtain ⟨r7, h_r7, H⟩ := Option.bind_eq_some_iff.1 H
 refine Opl.call ((impl_CubeStates.ev h2 h3 h4 h_r7).mono fun _ _ h => Out.vec h) rfl rfl rfl rfl ⟨(.aggL ⟨h2.plain, h3.plain, trivial⟩), h4.plain, trivial⟩ (by decide) ?_
 rintro pv8 h10
 refine Opl.p1 (n := ?_)
 obtain ⟨r8, h_r8, H⟩ := Option.bind_eq_some_iff.1 H
 refine Opl.call ((impl_SetBoth.ev h10 h5 h_r8).mono fun _ _ h => Out.vec h) rfl rfl rfl rfl ⟨h10.plain, h5.plain, trivial⟩ (by decide) ?_
 rintro pv9 h11
 refine Opl.len (xs := r8) (by exact h11) K29 rfl rfl rfl rfl (Opl.p1 (n := Opl.nil (Evr.sr rfl (Opl.p1 (n := Opl.p1 (n := ?_))))))
 obtain ⟨r9, h_r9, H⟩ := Option.bind_eq_some_iff.1 H
 refine Opl.callc (impl_CubeInside.ev h4 h8 h_r9) rfl rfl rfl rfl ⟨h4.plain, h8.plain, trivial⟩ (by decide) (Opl.p1 (n := ?_))
 by_cases c5 : r9 = true
 case neg =>
  rw [if_neg c5] at H
  obtain rfl : r9 = false := by simpa using c5
  refine Opl.skp rfl (Opl.skp rfl (Opl.skp rfl (Opl.skp rfl (Opl.skp rfl (Opl.skp rfl (Opl.skp rfl (Opl.skp rfl (Opl.skp rfl (Opl.skp rfl (Opl.skp rfl (Opl.p1 (n := Opl.p1 (n := Opl.nil ?_)))))))))))))
  obtain rfl := Option.some.inj H
  refine Evr.ret1 Try.func9 rfl ?_
  show (.lit (.bool false) : PV) = _
  first | rfl | (simp only [go_sem]; rfl)
 rw [if_pos c5] at H
 obtain rfl : r9 = true := by simpa using c5
 refine Opl.p1 (n := Opl.p1 (n := Opl.p1 (n := ?_)))
 by_cases c6 : (r8.length : Int) > 0
 case pos =>
  rw [if_pos c6] at H
  have e8 : (decide ((r8.length : Int) > 0)) = true := by simpa using c6
  try rw [e8]
  refine Opl.skp rfl (Opl.skp rfl (Opl.skp rfl (Opl.skp rfl (Opl.skp rfl (Opl.skp rfl (Opl.skp rfl (Opl.p1 (n := Opl.p1 (n := Opl.p1 (n := Opl.nil ?_))))))))))
  obtain rfl := Option.some.inj H
  refine Evr.ret1 Try.func9 rfl ?_
  show (.lit (.bool true) : PV) = _
  first | rfl | (simp only [go_sem]; rfl)
 rw [if_neg c6] at H
 have e9 : (decide ((r8.length : Int) > 0)) = false := by simpa using c6
 try rw [e9]
 refine Opl.ldb (v := .agg [pv2, pv3]) h7 rfl T26 rfl rfl rfl rfl (Opl.p1 (n := ?_))
 obtain ⟨r10, h_r10, H⟩ := Option.bind_eq_some_iff.1 H
 refine Opl.call ((impl_CubeStates.ev h2 h3 h8 h_r10).mono fun _ _ h => Out.vec h) rfl rfl rfl rfl ⟨(.aggL ⟨h2.plain, h3.plain, trivial⟩), h8.plain, trivial⟩ (by decide) ?_
 rintro pv10 h12
 refine Opl.p1 (n := ?_)
 obtain ⟨r11, h_r11, H⟩ := Option.bind_eq_some_iff.1 H
 refine Opl.call ((impl_SetBoth.ev h12 h5 h_r11).mono fun _ _ h => Out.vec h) rfl rfl rfl rfl ⟨h12.plain, h5.plain, trivial⟩ (by decide) ?_
 rintro pv11 h13
 refine Opl.len (xs := r11) (by exact h13) K29 rfl rfl rfl rfl (Opl.p1 (n := Opl.p1 (n := Opl.p1 (n := Opl.p1 (n := Opl.nil ?_)))))
 obtain rfl := Option.some.inj H
 refine Evr.ret1 Try.func9 rfl ?_
 show (.lit (.bool ((r11.length : Int) == 0)) : PV) = _
 first | rfl | (simp only [go_sem]; rfl)
end Go.Proofs.Ytjgonefohfldjaa.PA
