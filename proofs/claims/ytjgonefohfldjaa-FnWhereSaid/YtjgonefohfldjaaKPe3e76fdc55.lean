/- Walks of Go functions: each is shown to answer as the Lean function beside it tells, under the conditions that its theorem names. -/
import Derived.Test.YtjgonefohfldjaaProg
import Derived.KernelRfl
import Derived.Below
import Derived.Deep.Draws
import Derived.Deep.AppendLies
import Derived.Maps.AppendAt
import Derived.OwnWalk
import Derived.Laws.BytesArg
import Derived.Laws.MakeOwn
import Derived.Laws.OwnMore
import Derived.Deep.OwnRows
import Derived.Tactics
import Derived.Lib.ConvBytes
import Derived.Laws.Slices
import Derived.WalkKit
import Derived.RowKit3
import Derived.Deep.LoopGhost
import Derived.Deep.QuietTactic
import Derived.BigQuiet
import Derived.WideLaws
import Derived.Deep.DeepCutAuto
import Derived.Deep.CutBlock
import Derived.Deep.RegionHeld3
import Derived.Laws.Rows
import Derived.Lib.AppendStr
import Derived.ArgAppend
import Derived.Laws.IdiomCopy
import Derived.OrdersHeld
import Derived.Laws.BitsLemmas
import Derived.RowKit
import Derived.Laws.StructEq
import Derived.Lib.SliceRun
import Derived.WalkSpells
import Derived.ChangeArms
import Derived.ChangeSlices
import Derived.Deep.Slices
import Derived.Attr
import Derived.Laws.Append
import Derived.Laws.AppendOwn
import Derived.Laws.Entries
import Derived.Calls
import Derived.Laws.Sem
import Derived.Test.YtjgonefohfldjaaKP4b3723fff2
import Derived.Test.YtjgonefohfldjaaKP50a78afc74
namespace Go.Proofs.Ytjgonefohfldjaa.PA
open Go Go.Abs Go.RowKit Go.Proofs Go.Proofs.YtjgonefohfldjaaW.PrintWords Go.Proofs.YtjgonefohfldjaaW.PrintLast Go.Proofs.YtjgonefohfldjaaW.PrintMore
set_option maxRecDepth 100000
set_option maxHeartbeats 4000000
set_option linter.unusedVariables false
set_option linter.unusedSimpArgs false
theorem laws_FnWhere.ev {k : Nat} {l0 : List Int} {v0 : PV} (hv0 : Sl (cInt .u8) l0 v0) {r : Bool} (H : laws_FnWhere.f k l0 = some r) : Ret Try.prog 7 [v0] fun v S => v = .lit (.bool r) := by
 unfold laws_FnWhere.f at H
 refine Ret.intro Try.func7 rfl (Nat.le_of_ble_eq_true rfl) rfl ?_
 rw [tm1]
 refine Evr.seq (Evr.regionN rfl (Opl.one rfl rfl (by simp only [go_sem] <;> rfl) (Opl.nil (Evr.seq (Evr.seq (Evr.regionN rfl (Opl.one rfl rfl (by simp only [go_sem] <;> rfl) (Opl.len (xs := l0) (by exact hv0) K22 rfl rfl rfl rfl (Opl.one rfl rfl (by simp only [go_sem] <;> rfl) (Opl.nil ?_))))))))))
 by_cases c1 : (l0.length : Int) > 1048576
 case pos =>
  rw [if_pos c1] at H
  have e1 : (decide ((l0.length : Int) > 1048576)) = true := by simpa using c1
  try rw [e1]
  refine Evr.condT rfl (Evr.seq (Evr.regionN rfl (Opl.one rfl rfl (by simp only [go_sem] <;> rfl) (Opl.nil ?_))))
  obtain rfl := Option.some.inj H
  refine Evr.ret1 Try.func7 rfl ?_
  show (.lit (.bool true) : PV) = _
  first | rfl | (simp only [go_sem]; rfl)
 rw [if_neg c1] at H
 have e2 : (decide ((l0.length : Int) > 1048576)) = false := by simpa using c1
 try rw [e2]
 refine Evr.condF rfl (Evr.skip (Evr.seq (Evr.regionN rfl (Opl.one rfl rfl (by simp only [go_sem] <;> rfl) ?_))))
 obtain ⟨r1, h_r1, H⟩ := Option.bind_eq_some_iff.1 H
 refine Opl.call (spec_DrawStatesWhere.ev hv0 h_r1) rfl rfl rfl rfl ⟨hv0.plain, trivial⟩ (by decide) ?_
 rintro _ ⟨_, pv4, rfl, ⟨pv2, pv3, rfl, h2, h3⟩, h4⟩
 refine Opl.one rfl rfl (by simp only [go_sem] <;> rfl) (Opl.one (v := .agg [pv2, pv3]) rfl rfl (by simp only [go_sem]; rfl) (Opl.one (v := pv4) rfl rfl (by simp only [go_sem]; rfl) (Opl.alloc T26 rfl rfl rfl ?_)))
 rintro i1 S h5 u1 w1
 refine Opl.stb (vs := [pv2, pv3]) h5 rfl rfl Z26 rfl (Nat.le_of_ble_eq_true rfl) (by simp only [List.all_cons, List.all_nil, h2.one, h3.one, Bool.and_true, Bool.true_and] <;> rfl) rfl rfl rfl ?_
 rintro S (h6 : Box (.ptr i1 0) [pv2, pv3] _) u2
 refine Opl.one rfl rfl (by simp only [go_sem] <;> rfl) (Opl.nil (Evr.seq (Evr.regionN rfl (Opl.ldb (v := .agg [pv2, pv3]) h6 rfl T26 rfl rfl rfl rfl (Opl.one rfl rfl (by simp only [go_sem] <;> rfl) ?_)))))
 obtain ⟨r2, h_r2, H⟩ := Option.bind_eq_some_iff.1 H
 refine Opl.call ((impl_StatesWhere.ev h2 h3 h4 h_r2).mono fun _ _ h => Out.vec h) rfl rfl rfl rfl ⟨(.aggL ⟨h2.plain, h3.plain, trivial⟩), h4.plain, trivial⟩ (by decide) ?_
 rintro pv5 h7
 refine Opl.one rfl rfl (by simp only [go_sem] <;> rfl) (Opl.nil (Evr.seq (Evr.seq (Evr.regionD rfl (by kernel_rfl) (Opl.one rfl rfl (by simp only [go_sem] <;> rfl) (Opl.ldb (v := .agg [pv2, pv3]) h6 rfl T26 rfl rfl rfl rfl (Opl.one rfl rfl (by simp only [go_sem] <;> rfl) ?_)))))))
 obtain ⟨r3, h_r3, H⟩ := Option.bind_eq_some_iff.1 H
 refine Opl.call ((spec_StatesWhere.ev h2 h3 h4 h_r3).mono fun _ _ h => Out.vec h) rfl rfl rfl rfl ⟨(.aggL ⟨h2.plain, h3.plain, trivial⟩), h4.plain, trivial⟩ (by decide) ?_
 rintro pv6 h8
 obtain ⟨r4, h_r4, H⟩ := Option.bind_eq_some_iff.1 H
 refine Opl.callc (laws_wcInts.ev h7 h8 h_r4) rfl rfl rfl rfl ⟨h7.plain, h8.plain, trivial⟩ (by decide) (Opl.one rfl rfl (by simp only [go_sem] <;> rfl) (Opl.one rfl rfl (by simp only [go_sem] <;> rfl) ?_))
 by_cases c2 : r4 = true
 case neg =>
  rw [if_neg c2] at H
  have e14 : (!r4) = true := by simpa using c2
  try rw [e14]
  refine Opl.skp rfl (Opl.skp rfl (Opl.skp rfl (Opl.skp rfl (Opl.skp rfl (Opl.one rfl rfl (by simp only [go_sem] <;> rfl) (Opl.nil (Evr.condT rfl (Evr.seq (Evr.regionN rfl (Opl.one rfl rfl (by simp only [go_sem] <;> rfl) (Opl.nil ?_)))))))))))
  obtain rfl := Option.some.inj H
  refine Evr.ret1 Try.func7 rfl ?_
  show (.lit (.bool false) : PV) = _
  first | rfl | (simp only [go_sem]; rfl)
 rw [if_pos c2] at H
 have e3 : (!r4) = false := by simpa using c2
 try rw [e3]
 refine Opl.ldb (v := .agg [pv2, pv3]) h6 rfl T26 rfl rfl rfl rfl ?_
 obtain ⟨r5, h_r5, H⟩ := Option.bind_eq_some_iff.1 H
 refine Opl.callc (impl_SizeOf.ev h2 h3 h_r5) rfl rfl rfl rfl ⟨(.aggL ⟨h2.plain, h3.plain, trivial⟩), trivial⟩ (by decide) (Opl.ldb (v := .agg [pv2, pv3]) h6 rfl T26 rfl rfl rfl rfl ?_)
 obtain ⟨r6, h_r6, H⟩ := Option.bind_eq_some_iff.1 H
 refine Opl.callc (spec_SizeOf.ev h2 h3 h_r6) rfl rfl rfl rfl ⟨(.aggL ⟨h2.plain, h3.plain, trivial⟩), trivial⟩ (by decide) (Opl.one rfl rfl (by simp only [go_sem] <;> rfl) (Opl.one rfl rfl (by simp only [go_sem] <;> rfl) (Opl.nil ?_)))
 by_cases c3 : r5 ≠ r6
 case pos =>
  rw [if_pos c3] at H
  have e4 : (r5 != r6) = true := by simpa using c3
  try rw [e4]
  refine Evr.condT rfl (Evr.seq (Evr.regionN rfl (Opl.one rfl rfl (by simp only [go_sem] <;> rfl) (Opl.nil ?_))))
  obtain rfl := Option.some.inj H
  refine Evr.ret1 Try.func7 rfl ?_
  show (.lit (.bool false) : PV) = _
  first | rfl | (simp only [go_sem]; rfl)
 rw [if_neg c3] at H
 have e5 : (r5 != r6) = false := by simpa using c3
 try rw [e5]
 refine Evr.condF rfl (Evr.skip (Evr.seq (Evr.seq (Evr.regionN rfl (Opl.ldb (v := .agg [pv2, pv3]) h6 rfl T26 rfl rfl rfl rfl ?_)))))
 obtain ⟨r7, h_r7, H⟩ := Option.bind_eq_some_iff.1 H
 refine Opl.callc (impl_SizeOf.ev h2 h3 h_r7) rfl rfl rfl rfl ⟨(.aggL ⟨h2.plain, h3.plain, trivial⟩), trivial⟩ (by decide) (Opl.one rfl rfl (by simp only [go_sem] <;> rfl) (Opl.nil (Evr.block ?_)))
 refine Evr.loop (Evr.rounds (n := k) (Inv := fun n tm S => n ≤ k ∧ ∃ (x35_1 : Int) (i2 : Abs.Id), laws_FnWhere.l1 n x35_1 r1 r2 r7 = some r ∧ Has tm [(3, .ptr i2 0), (4, pv4), (5, pv5), (34, .lit (.int .i64 r7)), (35, .lit (.int .i64 x35_1))] ∧ Box (.ptr i2 0) [pv2, pv3] S) ?_ ?_ ?_)
 · exact ⟨Nat.le_refl _, _, _, H, ⟨rfl, rfl, rfl, rfl, rfl, trivial⟩, h6⟩
 ·
  rintro tm S ⟨_, _, _, H, -⟩
  simp [laws_FnWhere.l1] at H
 ·
  rintro n1 ih1 tm S ⟨hle, x35_1, i2, H, hh, h9⟩
  simp only [laws_FnWhere.l1] at H
  rw [hh.eq]
  refine Evr.seq (Evr.regionN rfl (Opl.one rfl rfl (by simp only [go_sem] <;> rfl) (Opl.nil (Evr.seq ?_))))
  by_cases c4 : x35_1 < r7
  case neg =>
   rw [if_neg c4] at H
   have e11 : (decide (x35_1 < r7)) = false := by simpa using c4
   try rw [e11]
   refine Evr.condF rfl (Evr.exit rfl (Evr.seq (Evr.regionN rfl (Opl.one rfl rfl (by simp only [go_sem] <;> rfl) (Opl.len (xs := r2) (by exact h7) K29 rfl rfl rfl rfl (Opl.one rfl rfl (by simp only [go_sem] <;> rfl) (Opl.one rfl rfl (by simp only [go_sem] <;> rfl) ?_)))))))
   by_cases c8 : (r2.length : Int) = 0
   case pos =>
    rw [if_pos c8] at H
    have e12 : ((r2.length : Int) == 0) = true := by simpa using c8
    try rw [e12]
    refine Opl.skp rfl (Opl.skp rfl (Opl.skp rfl (Opl.one rfl rfl (by simp only [go_sem] <;> rfl) (Opl.one rfl rfl (by simp only [go_sem] <;> rfl) (Opl.nil ?_)))))
    obtain rfl := Option.some.inj H
    refine Evr.ret1 Try.func7 rfl ?_
    show (.lit (.bool true) : PV) = _
    first | rfl | (simp only [go_sem]; rfl)
   rw [if_neg c8] at H
   have e13 : ((r2.length : Int) == 0) = false := by simpa using c8
   try rw [e13]
   refine Opl.ldb (v := .agg [pv2, pv3]) h9 rfl T26 rfl rfl rfl rfl (Opl.one rfl rfl (by simp only [go_sem] <;> rfl) ?_)
   obtain ⟨r11, h_r11, H⟩ := Option.bind_eq_some_iff.1 H
   refine Opl.callc (impl_SetValid.ev h2 h3 h7 h_r11) rfl rfl rfl rfl ⟨(.aggL ⟨h2.plain, h3.plain, trivial⟩), h7.plain, trivial⟩ (by decide) (Opl.one rfl rfl (by simp only [go_sem] <;> rfl) (Opl.one rfl rfl (by simp only [go_sem] <;> rfl) (Opl.nil ?_)))
   obtain rfl := Option.some.inj H
   refine Evr.ret1 Try.func7 rfl ?_
   show (.lit (.bool r11) : PV) = _
   first | rfl | (simp only [go_sem]; rfl)
  rw [if_pos c4] at H
  have e6 : (decide (x35_1 < r7)) = true := by simpa using c4
  try rw [e6]
  refine Evr.condT rfl (Evr.skip (Evr.seq (Evr.block (Evr.seq (Evr.regionN rfl (Opl.one rfl rfl (by simp only [go_sem] <;> rfl) (Opl.one rfl rfl (by simp only [go_sem] <;> rfl) (Opl.nil (Evr.seq (Evr.regionN rfl (Opl.one rfl rfl (by simp only [go_sem] <;> rfl) (Opl.ldb (v := .agg [pv2, pv3]) h9 rfl T26 rfl rfl rfl rfl (Opl.one rfl rfl (by simp only [go_sem] <;> rfl) ?_)))))))))))))
  obtain ⟨r8, h_r8, H⟩ := Option.bind_eq_some_iff.1 H
  refine Opl.call ((impl_StateAt.ev h2 h3 h_r8).mono fun _ _ h => Out.vec h) rfl rfl rfl rfl ⟨(.aggL ⟨h2.plain, h3.plain, trivial⟩), (.lit _), trivial⟩ (by decide) ?_
  rintro pv7 h10
  obtain ⟨r9, h_r9, H⟩ := Option.bind_eq_some_iff.1 H
  refine Opl.call (impl_Eval.ev h4 h10 h_r9) rfl rfl rfl rfl ⟨h4.plain, h10.plain, trivial⟩ (by decide) ?_
  rintro _ ⟨_, _, rfl, rfl, rfl⟩
  refine Opl.one rfl rfl (by simp only [go_sem] <;> rfl) (Opl.one (v := .lit (.int .i64 r9.1)) rfl rfl (by simp only [go_sem]; rfl) (Opl.one (v := .lit (.bool r9.2)) rfl rfl (by simp only [go_sem]; rfl) (Opl.one rfl rfl (by simp only [go_sem] <;> rfl) (Opl.one rfl rfl (by simp only [go_sem] <;> rfl) (Opl.nil (Evr.seq ?_))))))
  refine Evr.join2 (fun tm S => ∃ (kq1 : Nat) (i3 : Abs.Id), laws_FnWhere.l1 kq1 (wrap64 (x35_1 + 1)) r1 r2 r7 = some r ∧ kq1 ≤ n1 ∧ Has tm [(3, .ptr i3 0), (4, pv4), (5, pv5), (34, .lit (.int .i64 r7)), (35, .lit (.int .i64 x35_1))] ∧ Box (.ptr i3 0) [pv2, pv3] S) ?_ fun hk1 => ?_
  ·
   rintro tm S ⟨kq1, i3, H, hle, hh, h12⟩
   rw [hh.eq]
   refine Evr.inBlock (Evr.regionN rfl (Opl.one rfl rfl (by simp only [go_sem] <;> rfl) (Opl.one rfl rfl (by simp only [go_sem] <;> rfl) (Opl.nil ?_))))
   exact ih1 _ (by omega) _ _ ⟨by omega, _, _, H, ⟨rfl, rfl, rfl, rfl, rfl, trivial⟩, h12⟩
  ·
   refine Evr.regionN rfl (Opl.one rfl rfl (by simp only [go_sem] <;> rfl) (Opl.one rfl rfl (by simp only [go_sem] <;> rfl) ?_))
   obtain ⟨r10, h_r10, H⟩ := Option.bind_eq_some_iff.1 H
   refine Opl.callc (laws_wcHas.ev h7 h_r10) rfl rfl rfl rfl ⟨h7.plain, (.lit _), trivial⟩ (by decide) (Opl.one rfl rfl (by simp only [go_sem] <;> rfl) ?_)
   by_cases c5 : r10 = true
   case neg =>
    rw [if_neg c5] at H
    obtain rfl : r10 = false := by simpa using c5
    refine Opl.skp rfl (Opl.skp rfl (Opl.skp rfl (Opl.skp rfl (Opl.skp rfl (Opl.skp rfl (Opl.one rfl rfl (by simp only [go_sem] <;> rfl) (Opl.nil (Evr.condF rfl (Evr.skip ?_)))))))))
    exact hk1 _ _ ⟨_, _, H, by omega, ⟨rfl, rfl, rfl, rfl, rfl, trivial⟩, h9⟩
   rw [if_pos c5] at H
   obtain rfl : r10 = true := by simpa using c5
   refine Opl.one rfl rfl (by simp only [go_sem] <;> rfl) (Opl.one rfl rfl (by simp only [go_sem] <;> rfl) (Opl.one rfl rfl (by simp only [go_sem] <;> rfl) ?_))
   by_cases c6 : r9.2 = true
   case neg =>
    rw [if_neg c6] at H
    have e10 : (!r9.2) = true := by simpa using c6
    try rw [e10]
    refine Opl.skp rfl (Opl.skp rfl (Opl.one rfl rfl (by simp only [go_sem] <;> rfl) (Opl.one rfl rfl (by simp only [go_sem] <;> rfl) (Opl.nil (Evr.condT rfl (Evr.seq (Evr.regionN rfl (Opl.one rfl rfl (by simp only [go_sem] <;> rfl) (Opl.nil ?_)))))))))
    obtain rfl := Option.some.inj H
    refine Evr.ret1 Try.func7 rfl ?_
    show (.lit (.bool false) : PV) = _
    first | rfl | (simp only [go_sem]; rfl)
   rw [if_pos c6] at H
   have e7 : (!r9.2) = false := by simpa using c6
   try rw [e7]
   refine Opl.one rfl rfl (by simp only [go_sem] <;> rfl) (Opl.one rfl rfl (by simp only [go_sem] <;> rfl) (Opl.one rfl rfl (by simp only [go_sem] <;> rfl) (Opl.one rfl rfl (by simp only [go_sem] <;> rfl) (Opl.nil ?_))))
   by_cases c7 : r9.1 ≠ 1
   case neg =>
    rw [if_neg c7] at H
    have e9 : (r9.1 != 1) = false := by simpa using c7
    try rw [e9]
    refine Evr.condF rfl (Evr.skip ?_)
    exact hk1 _ _ ⟨_, _, H, by omega, ⟨rfl, rfl, rfl, rfl, rfl, trivial⟩, h9⟩
   rw [if_pos c7] at H
   have e8 : (r9.1 != 1) = true := by simpa using c7
   try rw [e8]
   refine Evr.condT rfl (Evr.seq (Evr.regionN rfl (Opl.one rfl rfl (by simp only [go_sem] <;> rfl) (Opl.nil ?_))))
   obtain rfl := Option.some.inj H
   refine Evr.ret1 Try.func7 rfl ?_
   show (.lit (.bool false) : PV) = _
   first | rfl | (simp only [go_sem]; rfl)
end Go.Proofs.Ytjgonefohfldjaa.PA
