/- Walks of Go functions: each is shown to answer as the Lean function beside it tells, under the conditions that its theorem names. -/
import Derived.Test.YtpjmiaooogephaaProg
import Derived.KernelRfl
import Derived.Below
import Derived.Deep.Draws
import Derived.Deep.AppendLies
import Derived.Maps.AppendAt
import Derived.OwnWalk
import Derived.Laws.BytesArg
import Derived.Laws.MakeOwn
import Derived.Laws.OwnMore
import Derived.Deep.OwnRows
import Derived.Tactics
import Derived.Lib.ConvBytes
import Derived.Laws.Slices
import Derived.WalkKit
import Derived.RowKit3
import Derived.Deep.LoopGhost
import Derived.Deep.QuietTactic
import Derived.BigQuiet
import Derived.WideLaws
import Derived.Deep.DeepCutAuto
import Derived.Deep.CutBlock
import Derived.Deep.RegionHeld3
import Derived.Laws.Rows
import Derived.Lib.AppendStr
import Derived.ArgAppend
import Derived.Laws.IdiomCopy
import Derived.OrdersHeld
import Derived.Laws.BitsLemmas
import Derived.RowKit
import Derived.Laws.StructEq
import Derived.Lib.SliceRun
import Derived.WalkSpells
import Derived.ChangeArms
import Derived.ChangeSlices
import Derived.Deep.Slices
import Derived.Attr
import Derived.Laws.Append
import Derived.Laws.AppendOwn
import Derived.Laws.Entries
import Derived.Calls
import Derived.Laws.Sem
import Derived.Test.YtpjmiaooogephaaKP26d0931bbf
import Derived.Test.YtpjmiaooogephaaKP92b06fea62
namespace Go.Proofs.Ytpjmiaooogephaa.PA
open Go Go.Abs Go.RowKit Go.Proofs Go.Proofs.YtpjmiaooogephaaW.PrintWords Go.Proofs.YtpjmiaooogephaaW.PrintLast Go.Proofs.YtpjmiaooogephaaW.PrintMore
set_option maxRecDepth 100000
set_option maxHeartbeats 4000000
set_option linter.unusedVariables false
set_option linter.unusedSimpArgs false
theorem laws_FnAround.ev {k : Nat} {l0 : List Int} {v0 : PV} (hv0 : Sl (cInt .u8) l0 v0) {r : Bool} (H : laws_FnAround.f k l0 = some r) : Ret Try.prog 4 [v0] fun v S => v = .lit (.bool r) := by
 unfold laws_FnAround.f at H
 refine Ret.intro Try.func4 rfl (Nat.le_of_ble_eq_true rfl) rfl ?_
 rw [tm1]
 refine Evr.sr rfl (Opl.p1 (n := Opl.nil (Evr.seq (Evr.sr rfl (Opl.p1 (n := Opl.len (xs := l0) (by exact hv0) K22 rfl rfl rfl rfl (Opl.p1 (n := Opl.nil ?_))))))))
 by_cases c1 : (l0.length : Int) > 1048576
 case pos =>
  rw [if_pos c1] at H
  have e1 : (decide ((l0.length : Int) > 1048576)) = true := by simpa using c1
  try rw [e1]
  refine Evr.condT rfl (Evr.sr rfl (Opl.p1 (n := Opl.nil ?_)))
  obtain rfl := sinj H
  refine Evr.ret1 Try.func4 rfl ?_
  show (.lit (.bool true) : PV) = _
  first | rfl | (simp only [go_sem]; rfl)
 rw [if_neg c1] at H
 have e2 : (decide ((l0.length : Int) > 1048576)) = false := by simpa using c1
 try rw [e2]
 refine Evr.condF rfl (Evr.skip (Evr.sr rfl (Opl.p1 (n := ?_))))
 obtain ⟨r1, h_r1, H⟩ := obs H
 refine Opl.call (spec_DrawAround.ev hv0 h_r1) rfl rfl rfl rfl ⟨hv0.plain, trivial⟩ (by decide) ?_
 rintro _ ⟨_, pv4, pv5, rfl, ⟨pv2, pv3, rfl, h2, h3⟩, h4, h5⟩
 refine Opl.p1 (n := Opl.p1 (v := .agg [pv2, pv3]) (n := Opl.p1 (v := pv4) (n := Opl.p1 (v := pv5) (n := Opl.alloc T26 rfl rfl rfl ?_))))
 rintro i1 S h6 u1 w1
 refine Opl.stb (vs := [pv2, pv3]) h6 rfl rfl Z26 rfl (Nat.le_of_ble_eq_true rfl) (by simp only [List.all_cons, List.all_nil, h2.one, h3.one, Bool.and_true, Bool.true_and] <;> rfl) rfl rfl rfl ?_
 rintro S (h7 : Box (.ptr i1 0) [pv2, pv3] _) u2
 refine Opl.p1 (n := Opl.p1 (n := Opl.nil (Evr.sr rfl (Opl.ldb (v := .agg [pv2, pv3]) h7 rfl T26 rfl rfl rfl rfl (Opl.p1 (n := Opl.p1 (n := ?_)))))))
 obtain ⟨r2, h_r2, H⟩ := obs H
 refine Opl.call (impl_Around.ev h2 h3 h4 h5 h_r2) rfl rfl rfl rfl ⟨(.aggL ⟨h2.plain, h3.plain, trivial⟩), h4.plain, h5.plain, trivial⟩ (by decide) ?_
 rintro _ ⟨pv7, _, rfl, h9, rfl⟩
 refine Opl.p1 (n := Opl.p1 (v := pv7) (n := Opl.p1 (v := .lit (.bool r2.2)) (n := Opl.p1 (n := Opl.p1 (n := Opl.nil (Evr.sr rfl (Opl.ldb (v := .agg [pv2, pv3]) h7 rfl T26 rfl rfl rfl rfl (Opl.p1 (n := Opl.p1 (n := ?_))))))))))
 obtain ⟨r3, h_r3, H⟩ := obs H
 refine Opl.call (spec_Around.ev h2 h3 h4 h5 h_r3) rfl rfl rfl rfl ⟨(.aggL ⟨h2.plain, h3.plain, trivial⟩), h4.plain, h5.plain, trivial⟩ (by decide) ?_
 rintro _ ⟨pv9, _, rfl, h11, rfl⟩
 refine Opl.p1 (n := Opl.p1 (v := pv9) (n := Opl.p1 (v := .lit (.bool r3.2)) (n := Opl.p1 (n := Opl.p1 (n := Opl.nil (Evr.seq (Evr.seq (Evr.regionD rfl (by kernel_rfl) (Opl.p1 (n := Opl.p1 (n := Opl.p1 (n := Opl.p1 (n := ?_)))))))))))))
 by_cases c2 : r2.2 ≠ r3.2
 case pos =>
  rw [if_pos c2] at H
  have e3 : (r2.2 != r3.2) = true := by simpa using c2
  try rw [e3]
  refine Opl.sk4 rfl rfl rfl rfl (Opl.p1 (n := Opl.p1 (n := Opl.sk4 rfl rfl rfl rfl (Opl.sk2 rfl rfl (Opl.skp rfl (Opl.p1 (n := Opl.nil (Evr.condT rfl (Evr.sr rfl (Opl.p1 (n := Opl.nil ?_)))))))))))
  obtain rfl := sinj H
  refine Evr.ret1 Try.func4 rfl ?_
  show (.lit (.bool false) : PV) = _
  first | rfl | (simp only [go_sem]; rfl)
 rw [if_neg c2] at H
 have e4 : (r2.2 != r3.2) = false := by simpa using c2
 try rw [e4]
 refine Opl.p1 (n := Opl.p1 (n := ?_))
 obtain ⟨r4, h_r4, H⟩ := obs H
 refine Opl.callc (laws_wcInts.ev h9 h11 h_r4) rfl rfl rfl rfl ⟨h9.plain, h11.plain, trivial⟩ (by decide) (Opl.p1 (n := Opl.p1 (n := Opl.p1 (n := ?_))))
 by_cases c3 : r4 = true
 case neg =>
  rw [if_neg c3] at H
  have e20 : (!r4) = true := by simpa using c3
  try rw [e20]
  refine Opl.sk4 rfl rfl rfl rfl (Opl.sk2 rfl rfl (Opl.skp rfl (Opl.p1 (n := Opl.nil (Evr.condT rfl (Evr.sr rfl (Opl.p1 (n := Opl.nil ?_))))))))
  obtain rfl := sinj H
  refine Evr.ret1 Try.func4 rfl ?_
  show (.lit (.bool false) : PV) = _
  first | rfl | (simp only [go_sem]; rfl)
 rw [if_pos c3] at H
 have e5 : (!r4) = false := by simpa using c3
 try rw [e5]
 refine Opl.ldb (v := .agg [pv2, pv3]) h7 rfl T26 rfl rfl rfl rfl (Opl.p1 (n := ?_))
 obtain ⟨r5, h_r5, H⟩ := obs H
 refine Opl.callc (impl_SetValid.ev h2 h3 h4 h_r5) rfl rfl rfl rfl ⟨(.aggL ⟨h2.plain, h3.plain, trivial⟩), h4.plain, trivial⟩ (by decide) (Opl.ldb (v := .agg [pv2, pv3]) h7 rfl T26 rfl rfl rfl rfl (Opl.p1 (n := ?_)))
 obtain ⟨r6, h_r6, H⟩ := obs H
 refine Opl.callc (spec_SetValid.ev h2 h3 h4 h_r6) rfl rfl rfl rfl ⟨(.aggL ⟨h2.plain, h3.plain, trivial⟩), h4.plain, trivial⟩ (by decide) (Opl.p1 (n := Opl.p1 (n := Opl.nil ?_)))
 by_cases c4 : r5 ≠ r6
 case pos =>
  rw [if_pos c4] at H
  have e6 : (r5 != r6) = true := by simpa using c4
  try rw [e6]
  refine Evr.condT rfl (Evr.sr rfl (Opl.p1 (n := Opl.nil ?_)))
  obtain rfl := sinj H
  refine Evr.ret1 Try.func4 rfl ?_
  show (.lit (.bool false) : PV) = _
  first | rfl | (simp only [go_sem]; rfl)
 rw [if_neg c4] at H
 have e7 : (r5 != r6) = false := by simpa using c4
 try rw [e7]
 refine Evr.condF rfl (Evr.skip (Evr.sr rfl (Opl.p1 (n := Opl.p1 (n := Opl.p1 (n := ?_))))))
 by_cases c5 : r2.2 = true
 case pos =>
  rw [if_pos c5] at H
  have e8 : (!r2.2) = false := by simpa using c5
  try rw [e8]
  refine Opl.sk2 rfl rfl (Opl.skp rfl (Opl.p1 (n := Opl.p1 (n := Opl.p1 (n := Opl.p1 (n := ?_))))))
  by_cases c6 : r2.2 = true
  case neg =>
   rw [if_neg c6] at H
   have e12 : (r2.2) = false := by simpa using c6
   try rw [e12]
   refine Opl.sk4 rfl rfl rfl rfl (Opl.skp rfl (Opl.p1 (n := Opl.p1 (n := Opl.sk4 rfl rfl rfl rfl (Opl.skp rfl (Opl.p1 (n := Opl.p1 (n := Opl.p1 (n := Opl.nil ?_)))))))))
   obtain rfl := sinj H
   refine Evr.ret1 Try.func4 rfl ?_
   show (.lit (.bool false) : PV) = _
   first | rfl | (simp only [go_sem]; rfl)
  rw [if_pos c6] at H
  have e9 : (r2.2) = true := by simpa using c6
  try rw [e9]
  refine Opl.p1 (n := Opl.p1 (n := ?_))
  obtain ⟨r7, h_r7, H⟩ := obs H
  refine Opl.call ((impl_SetWithout.ev h4 h9 h_r7).mono fun _ _ h => Out.vec h) rfl rfl rfl rfl ⟨h4.plain, h9.plain, trivial⟩ (by decide) ?_
  rintro pv10 h12
  refine Opl.len (xs := r7) (by exact h12) K27 rfl rfl rfl rfl (Opl.p1 (n := Opl.p1 (n := Opl.p1 (n := ?_))))
  by_cases c7 : (r7.length : Int) = 0
  case neg =>
   rw [if_neg c7] at H
   have e11 : ((r7.length : Int) == 0) = false := by simpa using c7
   try rw [e11]
   refine Opl.sk4 rfl rfl rfl rfl (Opl.skp rfl (Opl.p1 (n := Opl.p1 (n := Opl.p1 (n := Opl.nil ?_)))))
   obtain rfl := sinj H
   refine Evr.ret1 Try.func4 rfl ?_
   show (.lit (.bool false) : PV) = _
   first | rfl | (simp only [go_sem]; rfl)
  rw [if_pos c7] at H
  have e10 : ((r7.length : Int) == 0) = true := by simpa using c7
  try rw [e10]
  refine Opl.p1 (n := Opl.p1 (n := ?_))
  obtain ⟨r8, h_r8, H⟩ := obs H
  refine Opl.call ((impl_SetBoth.ev h9 h5 h_r8).mono fun _ _ h => Out.vec h) rfl rfl rfl rfl ⟨h9.plain, h5.plain, trivial⟩ (by decide) ?_
  rintro pv11 h13
  refine Opl.len (xs := r8) (by exact h13) K27 rfl rfl rfl rfl (Opl.p1 (n := Opl.p1 (n := Opl.p1 (n := Opl.p1 (n := Opl.nil ?_)))))
  obtain rfl := sinj H
  refine Evr.ret1 Try.func4 rfl ?_
  show (.lit (.bool ((r8.length : Int) == 0)) : PV) = _
  first | rfl | (simp only [go_sem]; rfl)
 rw [if_neg c5] at H
 have e13 : (!r2.2) = true := by simpa using c5
 try rw [e13]
 refine Opl.p1 (n := Opl.len (xs := r2.1) (by exact h9) K27 rfl rfl rfl rfl (Opl.p1 (n := Opl.p1 (n := Opl.p1 (n := ?_)))))
 by_cases c8 : (r2.1.length : Int) = 0
 case pos =>
  rw [if_pos c8] at H
  have e14 : ((r2.1.length : Int) == 0) = true := by simpa using c8
  try rw [e14]
  refine Opl.sk8 rfl rfl rfl rfl rfl rfl rfl rfl (Opl.sk4 rfl rfl rfl rfl (Opl.sk2 rfl rfl (Opl.skp rfl (Opl.p1 (n := Opl.p1 (n := Opl.nil ?_))))))
  obtain rfl := sinj H
  refine Evr.ret1 Try.func4 rfl ?_
  show (.lit (.bool true) : PV) = _
  first | rfl | (simp only [go_sem]; rfl)
 rw [if_neg c8] at H
 have e15 : ((r2.1.length : Int) == 0) = false := by simpa using c8
 try rw [e15]
 refine Opl.p1 (n := Opl.p1 (n := ?_))
 by_cases c9 : r2.2 = true
 case neg =>
  rw [if_neg c9] at H
  have e19 : (r2.2) = false := by simpa using c9
  try rw [e19]
  refine Opl.sk4 rfl rfl rfl rfl (Opl.skp rfl (Opl.p1 (n := Opl.p1 (n := Opl.sk4 rfl rfl rfl rfl (Opl.skp rfl (Opl.p1 (n := Opl.p1 (n := Opl.p1 (n := Opl.nil ?_)))))))))
  obtain rfl := sinj H
  refine Evr.ret1 Try.func4 rfl ?_
  show (.lit (.bool false) : PV) = _
  first | rfl | (simp only [go_sem]; rfl)
 rw [if_pos c9] at H
 have e16 : (r2.2) = true := by simpa using c9
 try rw [e16]
 refine Opl.p1 (n := Opl.p1 (n := ?_))
 obtain ⟨r9, h_r9, H⟩ := obs H
 refine Opl.call ((impl_SetWithout.ev h4 h9 h_r9).mono fun _ _ h => Out.vec h) rfl rfl rfl rfl ⟨h4.plain, h9.plain, trivial⟩ (by decide) ?_
 rintro pv12 h14
 refine Opl.len (xs := r9) (by exact h14) K27 rfl rfl rfl rfl (Opl.p1 (n := Opl.p1 (n := Opl.p1 (n := ?_))))
 by_cases c10 : (r9.length : Int) = 0
 case neg =>
  rw [if_neg c10] at H
  have e18 : ((r9.length : Int) == 0) = false := by simpa using c10
  try rw [e18]
  refine Opl.sk4 rfl rfl rfl rfl (Opl.skp rfl (Opl.p1 (n := Opl.p1 (n := Opl.p1 (n := Opl.nil ?_)))))
  obtain rfl := sinj H
  refine Evr.ret1 Try.func4 rfl ?_
  show (.lit (.bool false) : PV) = _
  first | rfl | (simp only [go_sem]; rfl)
 rw [if_pos c10] at H
 have e17 : ((r9.length : Int) == 0) = true := by simpa using c10
 try rw [e17]
 refine Opl.p1 (n := Opl.p1 (n := ?_))
 obtain ⟨r10, h_r10, H⟩ := obs H
 refine Opl.call ((impl_SetBoth.ev h9 h5 h_r10).mono fun _ _ h => Out.vec h) rfl rfl rfl rfl ⟨h9.plain, h5.plain, trivial⟩ (by decide) ?_
 rintro pv13 h15
 refine Opl.len (xs := r10) (by exact h15) K27 rfl rfl rfl rfl (Opl.p1 (n := Opl.p1 (n := Opl.p1 (n := Opl.p1 (n := Opl.nil ?_)))))
 obtain rfl := sinj H
 refine Evr.ret1 Try.func4 rfl ?_
 show (.lit (.bool ((r10.length : Int) == 0)) : PV) = _
 first | rfl | (simp only [go_sem]; rfl)
end Go.Proofs.Ytpjmiaooogephaa.PA
