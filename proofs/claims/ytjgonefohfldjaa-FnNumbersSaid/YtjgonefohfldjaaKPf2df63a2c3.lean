/- Walks of Go functions: each is shown to answer as the Lean function beside it tells, under the conditions that its theorem names. -/
import Derived.Test.YtjgonefohfldjaaProg
import Derived.KernelRfl
import Derived.Below
import Derived.Deep.Draws
import Derived.Deep.AppendLies
import Derived.Maps.AppendAt
import Derived.OwnWalk
import Derived.Laws.BytesArg
import Derived.Laws.MakeOwn
import Derived.Laws.OwnMore
import Derived.Deep.OwnRows
import Derived.Tactics
import Derived.Lib.ConvBytes
import Derived.Laws.Slices
import Derived.WalkKit
import Derived.RowKit3
import Derived.Deep.LoopGhost
import Derived.Deep.QuietTactic
import Derived.BigQuiet
import Derived.WideLaws
import Derived.Deep.DeepCutAuto
import Derived.Deep.CutBlock
import Derived.Deep.RegionHeld3
import Derived.Laws.Rows
import Derived.Lib.AppendStr
import Derived.ArgAppend
import Derived.Laws.IdiomCopy
import Derived.OrdersHeld
import Derived.Laws.BitsLemmas
import Derived.RowKit
import Derived.Laws.StructEq
import Derived.Lib.SliceRun
import Derived.WalkSpells
import Derived.ChangeArms
import Derived.ChangeSlices
import Derived.Deep.Slices
import Derived.Attr
import Derived.Laws.Append
import Derived.Laws.AppendOwn
import Derived.Laws.Entries
import Derived.Calls
import Derived.Laws.Sem
import Derived.Test.YtjgonefohfldjaaKPc55b9a03e2
import Derived.Test.YtjgonefohfldjaaKPdb57ae3a0e
namespace Go.Proofs.Ytjgonefohfldjaa.PA
open Go Go.Abs Go.RowKit Go.Proofs Go.Proofs.YtjgonefohfldjaaW.PrintWords Go.Proofs.YtjgonefohfldjaaW.PrintLast Go.Proofs.YtjgonefohfldjaaW.PrintMore
set_option maxRecDepth 100000
set_option maxHeartbeats 4000000
set_option linter.unusedVariables false
set_option linter.unusedSimpArgs false
theorem laws_FnNumbers.ev {k : Nat} {l0 : List Int} {v0 : PV} (hv0 : Sl (cInt .u8) l0 v0) {r : Bool} (H : laws_FnNumbers.f k l0 = some r) : Ret Try.prog 3 [v0] fun v S => v = .lit (.bool r) := by
 unfold laws_FnNumbers.f at H
 refine Ret.intro Try.func3 rfl (Nat.le_of_ble_eq_true rfl) rfl ?_
 rw [tm1]
 refine Evr.seq (Evr.regionN rfl (Opl.one rfl rfl (by simp only [go_sem] <;> rfl) (Opl.nil (Evr.seq (Evr.seq (Evr.regionN rfl (Opl.one rfl rfl (by simp only [go_sem] <;> rfl) (Opl.len (xs := l0) (by exact hv0) K22 rfl rfl rfl rfl (Opl.one rfl rfl (by simp only [go_sem] <;> rfl) (Opl.nil ?_))))))))))
 by_cases c1 : (l0.length : Int) > 1048576
 case pos =>
  rw [if_pos c1] at H
  have e1 : (decide ((l0.length : Int) > 1048576)) = true := by simpa using c1
  try rw [e1]
  refine Evr.condT rfl (Evr.seq (Evr.regionN rfl (Opl.one rfl rfl (by simp only [go_sem] <;> rfl) (Opl.nil ?_))))
  obtain rfl := Option.some.inj H
  refine Evr.ret1 Try.func3 rfl ?_
  show (.lit (.bool true) : PV) = _
  first | rfl | (simp only [go_sem]; rfl)
 rw [if_neg c1] at H
 have e2 : (decide ((l0.length : Int) > 1048576)) = false := by simpa using c1
 try rw [e2]
 refine Evr.condF rfl (Evr.skip (Evr.seq (Evr.regionN rfl (Opl.one rfl rfl (by simp only [go_sem] <;> rfl) ?_))))
 obtain ⟨r1, h_r1, H⟩ := Option.bind_eq_some_iff.1 H
 refine Opl.call (spec_DrawStateAt.ev hv0 h_r1) rfl rfl rfl rfl ⟨hv0.plain, trivial⟩ (by decide) ?_
 rintro _ ⟨_, _, rfl, ⟨pv2, pv3, rfl, h2, h3⟩, rfl⟩
 refine Opl.one rfl rfl (by simp only [go_sem] <;> rfl) (Opl.one (v := .agg [pv2, pv3]) rfl rfl (by simp only [go_sem]; rfl) (Opl.one (v := .lit (.int .i64 r1.2)) rfl rfl (by simp only [go_sem]; rfl) (Opl.alloc T26 rfl rfl rfl ?_)))
 rintro i1 S h4 u1 w1
 refine Opl.stb (vs := [pv2, pv3]) h4 rfl rfl Z26 rfl (Nat.le_of_ble_eq_true rfl) (by simp only [List.all_cons, List.all_nil, h2.one, h3.one, Bool.and_true, Bool.true_and] <;> rfl) rfl rfl rfl ?_
 rintro S (h5 : Box (.ptr i1 0) [pv2, pv3] _) u2
 refine Opl.one rfl rfl (by simp only [go_sem] <;> rfl) (Opl.nil (Evr.seq (Evr.regionN rfl (Opl.ldb (v := .agg [pv2, pv3]) h5 rfl T26 rfl rfl rfl rfl (Opl.one rfl rfl (by simp only [go_sem] <;> rfl) ?_)))))
 obtain ⟨r2, h_r2, H⟩ := Option.bind_eq_some_iff.1 H
 refine Opl.call ((impl_StateAt.ev h2 h3 h_r2).mono fun _ _ h => Out.vec h) rfl rfl rfl rfl ⟨(.aggL ⟨h2.plain, h3.plain, trivial⟩), (.lit _), trivial⟩ (by decide) ?_
 rintro pv4 h6
 refine Opl.one rfl rfl (by simp only [go_sem] <;> rfl) (Opl.nil (Evr.seq (Evr.seq (Evr.regionN rfl (Opl.one rfl rfl (by simp only [go_sem] <;> rfl) (Opl.ldb (v := .agg [pv2, pv3]) h5 rfl T26 rfl rfl rfl rfl (Opl.one rfl rfl (by simp only [go_sem] <;> rfl) ?_)))))))
 obtain ⟨r3, h_r3, H⟩ := Option.bind_eq_some_iff.1 H
 refine Opl.call ((spec_StateAt.ev h2 h3 h_r3).mono fun _ _ h => Out.vec h) rfl rfl rfl rfl ⟨(.aggL ⟨h2.plain, h3.plain, trivial⟩), (.lit _), trivial⟩ (by decide) ?_
 rintro pv5 h7
 obtain ⟨r4, h_r4, H⟩ := Option.bind_eq_some_iff.1 H
 refine Opl.callc (laws_wcInts.ev h6 h7 h_r4) rfl rfl rfl rfl ⟨h6.plain, h7.plain, trivial⟩ (by decide) (Opl.one rfl rfl (by simp only [go_sem] <;> rfl) (Opl.nil ?_))
 by_cases c2 : r4 = true
 case neg =>
  rw [if_neg c2] at H
  have e10 : (!r4) = true := by simpa using c2
  try rw [e10]
  refine Evr.condT rfl (Evr.seq (Evr.regionN rfl (Opl.one rfl rfl (by simp only [go_sem] <;> rfl) (Opl.nil ?_))))
  obtain rfl := Option.some.inj H
  refine Evr.ret1 Try.func3 rfl ?_
  show (.lit (.bool false) : PV) = _
  first | rfl | (simp only [go_sem]; rfl)
 rw [if_pos c2] at H
 have e3 : (!r4) = false := by simpa using c2
 try rw [e3]
 refine Evr.condF rfl (Evr.skip (Evr.seq (Evr.seq (Evr.regionN rfl (Opl.one rfl rfl (by simp only [go_sem] <;> rfl) (Opl.len (xs := r2) (by exact h6) K29 rfl rfl rfl rfl (Opl.one rfl rfl (by simp only [go_sem] <;> rfl) (Opl.nil ?_))))))))
 by_cases c3 : (r2.length : Int) = 0
 case pos =>
  rw [if_pos c3] at H
  have e4 : ((r2.length : Int) == 0) = true := by simpa using c3
  try rw [e4]
  refine Evr.condT rfl (Evr.seq ?_)
  refine Evr.join (fun tm S => ∃ (kq1 : Nat) (x2q2_1 : Bool), laws_FnNumbers.j1 kq1 x2q2_1 = some r ∧ Has tm [(2, .lit (.bool x2q2_1))]) ?_ fun hk1 => ?_
  ·
   rintro tm S ⟨kq1, x2q2_1, H, hh⟩
   rw [hh.eq]
   obtain _ | k1 := kq1
   · simp [laws_FnNumbers.j1] at H
   simp only [laws_FnNumbers.j1] at H
   obtain rfl := Option.some.inj H
   refine Evr.ret1 Try.func3 rfl ?_
   show (.lit (.bool x2q2_1) : PV) = _
   first | rfl | (simp only [go_sem]; rfl)
  ·
   refine Evr.regionD rfl (by kernel_rfl) (Opl.ldb (v := .agg [pv2, pv3]) h5 rfl T26 rfl rfl rfl rfl (Opl.one rfl rfl (by simp only [go_sem] <;> rfl) ?_))
   obtain ⟨r5, h_r5, H⟩ := Option.bind_eq_some_iff.1 H
   refine Opl.callc (impl_NumberOf.ev h2 h3 h6 h_r5) rfl rfl rfl rfl ⟨(.aggL ⟨h2.plain, h3.plain, trivial⟩), h6.plain, trivial⟩ (by decide) (Opl.one rfl rfl (by simp only [go_sem] <;> rfl) (Opl.one rfl rfl (by simp only [go_sem] <;> rfl) ?_))
   by_cases c4 : r5 = (-1)
   case neg =>
    rw [if_neg c4] at H
    have e6 : (r5 == (-1)) = false := by simpa using c4
    try rw [e6]
    refine Opl.skp rfl (Opl.skp rfl (Opl.skp rfl (Opl.skp rfl (Opl.skp rfl (Opl.one rfl rfl (by simp only [go_sem] <;> rfl) (Opl.one rfl rfl (by simp only [go_sem] <;> rfl) (Opl.nil ?_)))))))
    exact hk1 _ _ ⟨_, _, H, ⟨(by first | rfl | (show PV.lit (.bool _) = _; congr 2; simp_all)), trivial⟩⟩
   rw [if_pos c4] at H
   have e5 : (r5 == (-1)) = true := by simpa using c4
   try rw [e5]
   refine Opl.ldb (v := .agg [pv2, pv3]) h5 rfl T26 rfl rfl rfl rfl ?_
   obtain ⟨r6, h_r6, H⟩ := Option.bind_eq_some_iff.1 H
   refine Opl.callc (impl_SizeOf.ev h2 h3 h_r6) rfl rfl rfl rfl ⟨(.aggL ⟨h2.plain, h3.plain, trivial⟩), trivial⟩ (by decide) (Opl.ldb (v := .agg [pv2, pv3]) h5 rfl T26 rfl rfl rfl rfl ?_)
   obtain ⟨r7, h_r7, H⟩ := Option.bind_eq_some_iff.1 H
   refine Opl.callc (spec_SizeOf.ev h2 h3 h_r7) rfl rfl rfl rfl ⟨(.aggL ⟨h2.plain, h3.plain, trivial⟩), trivial⟩ (by decide) (Opl.one rfl rfl (by simp only [go_sem] <;> rfl) (Opl.one rfl rfl (by simp only [go_sem] <;> rfl) (Opl.one rfl rfl (by simp only [go_sem] <;> rfl) (Opl.nil ?_))))
   exact hk1 _ _ ⟨_, _, H, ⟨(by first | rfl | (show PV.lit (.bool _) = _; congr 2; simp_all)), trivial⟩⟩
 rw [if_neg c3] at H
 have e7 : ((r2.length : Int) == 0) = false := by simpa using c3
 try rw [e7]
 refine Evr.condF rfl (Evr.skip (Evr.seq (Evr.regionN rfl (Opl.ldb (v := .agg [pv2, pv3]) h5 rfl T26 rfl rfl rfl rfl (Opl.one rfl rfl (by simp only [go_sem] <;> rfl) (Opl.one rfl rfl (by simp only [go_sem] <;> rfl) ?_))))))
 obtain ⟨r8, h_r8, H⟩ := Option.bind_eq_some_iff.1 H
 refine Opl.call ((impl_StateAt.ev h2 h3 h_r8).mono fun _ _ h => Out.vec h) rfl rfl rfl rfl ⟨(.aggL ⟨h2.plain, h3.plain, trivial⟩), (.lit _), trivial⟩ (by decide) ?_
 rintro pv6 h8
 refine Opl.one rfl rfl (by simp only [go_sem] <;> rfl) (Opl.nil (Evr.seq (Evr.regionN rfl (Opl.ldb (v := .agg [pv2, pv3]) h5 rfl T26 rfl rfl rfl rfl (Opl.one rfl rfl (by simp only [go_sem] <;> rfl) ?_)))))
 obtain ⟨r9, h_r9, H⟩ := Option.bind_eq_some_iff.1 H
 refine Opl.callc (impl_NumberOf.ev h2 h3 h6 h_r9) rfl rfl rfl rfl ⟨(.aggL ⟨h2.plain, h3.plain, trivial⟩), h6.plain, trivial⟩ (by decide) (Opl.one rfl rfl (by simp only [go_sem] <;> rfl) (Opl.one rfl rfl (by simp only [go_sem] <;> rfl) (Opl.one rfl rfl (by simp only [go_sem] <;> rfl) ?_)))
 by_cases c5 : r9 = r1.2
 case neg =>
  rw [if_neg c5] at H
  have e9 : (r9 == r1.2) = false := by simpa using c5
  try rw [e9]
  refine Opl.skp rfl (Opl.skp rfl (Opl.skp rfl (Opl.one rfl rfl (by simp only [go_sem] <;> rfl) (Opl.one rfl rfl (by simp only [go_sem] <;> rfl) (Opl.skp rfl (Opl.skp rfl (Opl.skp rfl (Opl.skp rfl (Opl.skp rfl (Opl.skp rfl (Opl.one rfl rfl (by simp only [go_sem] <;> rfl) (Opl.one rfl rfl (by simp only [go_sem] <;> rfl) (Opl.nil ?_)))))))))))))
  obtain rfl := Option.some.inj H
  refine Evr.ret1 Try.func3 rfl ?_
  show (.lit (.bool false) : PV) = _
  first | rfl | (simp only [go_sem]; rfl)
 rw [if_pos c5] at H
 have e8 : (r9 == r1.2) = true := by simpa using c5
 try rw [e8]
 refine Opl.ldb (v := .agg [pv2, pv3]) h5 rfl T26 rfl rfl rfl rfl (Opl.one rfl rfl (by simp only [go_sem] <;> rfl) ?_)
 obtain ⟨r10, h_r10, H⟩ := Option.bind_eq_some_iff.1 H
 refine Opl.callc (impl_InRange.ev h2 h3 h6 h_r10) rfl rfl rfl rfl ⟨(.aggL ⟨h2.plain, h3.plain, trivial⟩), h6.plain, trivial⟩ (by decide) (Opl.one rfl rfl (by simp only [go_sem] <;> rfl) (Opl.one rfl rfl (by simp only [go_sem] <;> rfl) ?_))
 by_cases c6 : r10 = true
 case neg =>
  rw [if_neg c6] at H
  obtain rfl : r10 = false := by simpa using c6
  refine Opl.skp rfl (Opl.skp rfl (Opl.skp rfl (Opl.skp rfl (Opl.skp rfl (Opl.skp rfl (Opl.one rfl rfl (by simp only [go_sem] <;> rfl) (Opl.one rfl rfl (by simp only [go_sem] <;> rfl) (Opl.nil ?_))))))))
  obtain rfl := Option.some.inj H
  refine Evr.ret1 Try.func3 rfl ?_
  show (.lit (.bool false) : PV) = _
  first | rfl | (simp only [go_sem]; rfl)
 rw [if_pos c6] at H
 obtain rfl : r10 = true := by simpa using c6
 refine Opl.one rfl rfl (by simp only [go_sem] <;> rfl) (Opl.one rfl rfl (by simp only [go_sem] <;> rfl) (Opl.one rfl rfl (by simp only [go_sem] <;> rfl) (Opl.len (xs := r8) (by exact h8) K29 rfl rfl rfl rfl (Opl.one rfl rfl (by simp only [go_sem] <;> rfl) (Opl.one rfl rfl (by simp only [go_sem] <;> rfl) (Opl.one rfl rfl (by simp only [go_sem] <;> rfl) (Opl.one rfl rfl (by simp only [go_sem] <;> rfl) (Opl.nil ?_))))))))
 obtain rfl := Option.some.inj H
 refine Evr.ret1 Try.func3 rfl ?_
 show (.lit (.bool ((r1.2 == 0) == ((r8.length : Int) == 0))) : PV) = _
 first | rfl | (simp only [go_sem]; rfl)
end Go.Proofs.Ytjgonefohfldjaa.PA
