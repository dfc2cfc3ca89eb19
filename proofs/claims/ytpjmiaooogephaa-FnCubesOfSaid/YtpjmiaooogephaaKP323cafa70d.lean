/- Walks of Go functions: each is shown to answer as the Lean function beside it tells, under the conditions that its theorem names. -/
import Derived.Test.YtpjmiaooogephaaProg
import Derived.KernelRfl
import Derived.Below
import Derived.Deep.Draws
import Derived.Deep.AppendLies
import Derived.Maps.AppendAt
import Derived.OwnWalk
import Derived.Laws.BytesArg
import Derived.Laws.MakeOwn
import Derived.Laws.OwnMore
import Derived.Deep.OwnRows
import Derived.Tactics
import Derived.Lib.ConvBytes
import Derived.Laws.Slices
import Derived.WalkKit
import Derived.RowKit3
import Derived.Deep.LoopGhost
import Derived.Deep.QuietTactic
import Derived.BigQuiet
import Derived.WideLaws
import Derived.Deep.DeepCutAuto
import Derived.Deep.CutBlock
import Derived.Deep.RegionHeld3
import Derived.Laws.Rows
import Derived.Lib.AppendStr
import Derived.ArgAppend
import Derived.Laws.IdiomCopy
import Derived.OrdersHeld
import Derived.Laws.BitsLemmas
import Derived.RowKit
import Derived.Laws.StructEq
import Derived.Lib.SliceRun
import Derived.WalkSpells
import Derived.ChangeArms
import Derived.ChangeSlices
import Derived.Deep.Slices
import Derived.Attr
import Derived.Laws.Append
import Derived.Laws.AppendOwn
import Derived.Laws.Entries
import Derived.Calls
import Derived.Laws.Sem
import Derived.Test.YtpjmiaooogephaaKPa50f88f323
import Derived.Test.YtpjmiaooogephaaKP99ac68fc6b
namespace Go.Proofs.Ytpjmiaooogephaa.PA
open Go Go.Abs Go.RowKit Go.Proofs Go.Proofs.YtpjmiaooogephaaW.PrintWords Go.Proofs.YtpjmiaooogephaaW.PrintLast Go.Proofs.YtpjmiaooogephaaW.PrintMore
set_option maxRecDepth 100000
set_option maxHeartbeats 4000000
set_option linter.unusedVariables false
set_option linter.unusedSimpArgs false
theorem laws_FnCubesOf.ev {k : Nat} {l0 : List Int} {v0 : PV} (hv0 : Sl (cInt .u8) l0 v0) {r : Bool} (H : laws_FnCubesOf.f k l0 = some r) : Ret Try.prog 3 [v0] fun v S => v = .lit (.bool r) := by
 unfold laws_FnCubesOf.f at H
 refine Ret.intro Try.func3 rfl (Nat.le_of_ble_eq_true rfl) rfl ?_
 rw [tm1]
 refine Evr.sr rfl (Opl.p1 (n := Opl.nil (Evr.seq (Evr.sr rfl (Opl.p1 (n := Opl.len (xs := l0) (by exact hv0) K22 rfl rfl rfl rfl (Opl.p1 (n := Opl.nil ?_))))))))
 by_cases c1 : (l0.length : Int) > 1048576
 case pos =>
  rw [if_pos c1] at H
  have e1 : (decide ((l0.length : Int) > 1048576)) = true := by simpa using c1
  try rw [e1]
  refine Evr.condT rfl (Evr.sr rfl (Opl.p1 (n := Opl.nil ?_)))
  obtain rfl := sinj H
  refine Evr.ret1 Try.func3 rfl ?_
  show (.lit (.bool true) : PV) = _
  first | rfl | (simp only [go_sem]; rfl)
 rw [if_neg c1] at H
 have e2 : (decide ((l0.length : Int) > 1048576)) = false := by simpa using c1
 try rw [e2]
 refine Evr.condF rfl (Evr.skip (Evr.sr rfl (Opl.p1 (n := ?_))))
 obtain ⟨r1, h_r1, H⟩ := obs H
 refine Opl.call (spec_DrawCubesOf.ev hv0 h_r1) rfl rfl rfl rfl ⟨hv0.plain, trivial⟩ (by decide) ?_
 rintro _ ⟨_, pv4, rfl, ⟨pv2, pv3, rfl, h2, h3⟩, h4⟩
 refine Opl.p1 (n := Opl.p1 (v := .agg [pv2, pv3]) (n := Opl.p1 (v := pv4) (n := Opl.alloc T26 rfl rfl rfl ?_)))
 rintro i1 S h5 u1 w1
 refine Opl.stb (vs := [pv2, pv3]) h5 rfl rfl Z26 rfl (Nat.le_of_ble_eq_true rfl) (by simp only [List.all_cons, List.all_nil, h2.one, h3.one, Bool.and_true, Bool.true_and] <;> rfl) rfl rfl rfl ?_
 rintro S (h6 : Box (.ptr i1 0) [pv2, pv3] _) u2
 refine Opl.p1 (n := Opl.nil (Evr.sr rfl (Opl.ldb (v := .agg [pv2, pv3]) h6 rfl T26 rfl rfl rfl rfl (Opl.p1 (n := ?_)))))
 obtain ⟨r2, h_r2, H⟩ := obs H
 refine Opl.call ((impl_CubesOf.ev h2 h3 h4 h_r2).mono fun _ _ h => Out.vec h) rfl rfl rfl rfl ⟨(.aggL ⟨h2.plain, h3.plain, trivial⟩), h4.plain, trivial⟩ (by decide) ?_
 rintro pv5 h7
 refine Opl.p1 (n := Opl.nil (Evr.sr rfl (Opl.ldb (v := .agg [pv2, pv3]) h6 rfl T26 rfl rfl rfl rfl (Opl.p1 (n := ?_)))))
 obtain ⟨r3, h_r3, H⟩ := obs H
 refine Opl.call ((spec_CubesOf.ev h2 h3 h4 h_r3).mono fun _ _ h => Out.vec h) rfl rfl rfl rfl ⟨(.aggL ⟨h2.plain, h3.plain, trivial⟩), h4.plain, trivial⟩ (by decide) ?_
 rintro pv6 h8
 refine Opl.p1 (n := Opl.nil (Evr.seq (Evr.seq (Evr.regionD rfl (by kernel_rfl) (Opl.p1 (n := Opl.len (xs := r2) (by exact h7) K30 rfl rfl rfl rfl (Opl.p1 (n := Opl.len (xs := r3) (by exact h8) K30 rfl rfl rfl rfl (Opl.p1 (n := Opl.p1 (n := ?_)))))))))))
 by_cases c2 : (r2.length : Int) ≠ (r3.length : Int)
 case pos =>
  rw [if_pos c2] at H
  have e3 : ((r2.length : Int) != (r3.length : Int)) = true := by simpa using c2
  try rw [e3]
  refine Opl.sk4 rfl rfl rfl rfl (Opl.sk2 rfl rfl (Opl.skp rfl (Opl.p1 (n := Opl.nil (Evr.condT rfl (Evr.sr rfl (Opl.p1 (n := Opl.nil ?_))))))))
  obtain rfl := sinj H
  refine Evr.ret1 Try.func3 rfl ?_
  show (.lit (.bool false) : PV) = _
  first | rfl | (simp only [go_sem]; rfl)
 rw [if_neg c2] at H
 have e4 : ((r2.length : Int) != (r3.length : Int)) = false := by simpa using c2
 try rw [e4]
 refine Opl.ldb (v := .agg [pv2, pv3]) h6 rfl T26 rfl rfl rfl rfl (Opl.p1 (n := ?_))
 obtain ⟨r4, h_r4, H⟩ := obs H
 refine Opl.callc (impl_SetValid.ev h2 h3 h4 h_r4) rfl rfl rfl rfl ⟨(.aggL ⟨h2.plain, h3.plain, trivial⟩), h4.plain, trivial⟩ (by decide) (Opl.ldb (v := .agg [pv2, pv3]) h6 rfl T26 rfl rfl rfl rfl (Opl.p1 (n := ?_)))
 obtain ⟨r5, h_r5, H⟩ := obs H
 refine Opl.callc (spec_SetValid.ev h2 h3 h4 h_r5) rfl rfl rfl rfl ⟨(.aggL ⟨h2.plain, h3.plain, trivial⟩), h4.plain, trivial⟩ (by decide) (Opl.p1 (n := Opl.p1 (n := Opl.nil ?_)))
 by_cases c3 : r4 ≠ r5
 case pos =>
  rw [if_pos c3] at H
  have e5 : (r4 != r5) = true := by simpa using c3
  try rw [e5]
  refine Evr.condT rfl (Evr.sr rfl (Opl.p1 (n := Opl.nil ?_)))
  obtain rfl := sinj H
  refine Evr.ret1 Try.func3 rfl ?_
  show (.lit (.bool false) : PV) = _
  first | rfl | (simp only [go_sem]; rfl)
 rw [if_neg c3] at H
 have e6 : (r4 != r5) = false := by simpa using c3
 try rw [e6]
 refine Evr.condF rfl (Evr.skip (Evr.sr rfl (Opl.lits (M := (cInt .i64)) (ys := []) [] K27 T3 rfl rfl rfl trivial rfl (by decide) rfl rfl rfl ?_)))
 rintro pv7 S h9 u3 w3
 have ap1 := w3.box h6
 have h10 := u3.box h6 ap1
 refine Opl.p1 (n := Opl.nil (Evr.seq (Evr.sr rfl (Opl.p1 (n := Opl.len (xs := r2) (by exact h7) K30 rfl rfl rfl rfl (Opl.p1 (n := Opl.nil (Evr.block (Evr.frz 7 h9 rfl ?_)))))))))
 rintro pv8 S h11 u4
 have h12 := u4.box h10 ap1
 refine Evr.loop (Evr.rounds (n := k) (Inv := fun n tm S => n ≤ k ∧ ∃ (x7_1 : List Int) (x43_1 : Int) (i2 : Abs.Id) (pv9 : PV), laws_FnCubesOf.l1 n x7_1 x43_1 r1 r2 r3 = some r ∧ Has tm [(3, .ptr i2 0), (4, pv4), (5, pv5), (6, pv6), (7, pv9), (41, pv5), (42, .lit (.int .i64 (r2.length : Int))), (43, .lit (.int .i64 x43_1))] ∧ Box (.ptr i2 0) [pv2, pv3] S ∧ Sl (cInt .i64) x7_1 pv9) ?_ ?_ ?_)
 · exact ⟨Nat.le_refl _, _, _, _, _, H, ⟨rfl, rfl, rfl, rfl, rfl, rfl, rfl, rfl, trivial⟩, h12, h11⟩
 ·
  rintro tm S ⟨_, _, _, _, _, H, -⟩
  simp [laws_FnCubesOf.l1] at H
 ·
  rintro n1 ih1 tm S ⟨hle, x7_1, x43_1, i2, pv9, H, hh, h13, h14⟩
  simp only [laws_FnCubesOf.l1] at H
  rw [hh.eq]
  refine Evr.sr rfl (Opl.p1 (n := Opl.nil (Evr.seq ?_)))
  by_cases c4 : x43_1 < (r2.length : Int)
  case neg =>
   rw [if_neg c4] at H
   have e16 : (decide (x43_1 < (r2.length : Int))) = false := by simpa using c4
   try rw [e16]
   refine Evr.condF rfl (Evr.exit rfl (Evr.sr rfl (Opl.p1 (n := Opl.len (xs := r2) (by exact h7) K30 rfl rfl rfl rfl (Opl.p1 (n := Opl.p1 (n := ?_)))))))
   by_cases c18 : (r2.length : Int) = 0
   case pos =>
    rw [if_pos c18] at H
    have e17 : ((r2.length : Int) == 0) = true := by simpa using c18
    try rw [e17]
    refine Opl.sk2 rfl rfl (Opl.skp rfl (Opl.p1 (n := Opl.p1 (n := Opl.nil ?_))))
    obtain rfl := sinj H
    refine Evr.ret1 Try.func3 rfl ?_
    show (.lit (.bool true) : PV) = _
    first | rfl | (simp only [go_sem]; rfl)
   rw [if_neg c18] at H
   have e18 : ((r2.length : Int) == 0) = false := by simpa using c18
   try rw [e18]
   refine Opl.p1 (n := Opl.p1 (n := ?_))
   obtain ⟨r11, h_r11, H⟩ := obs H
   refine Opl.callc (laws_wcInts.ev h14 h4 h_r11) rfl rfl rfl rfl ⟨h14.plain, h4.plain, trivial⟩ (by decide) (Opl.p1 (n := Opl.p1 (n := Opl.nil ?_)))
   obtain rfl := sinj H
   refine Evr.ret1 Try.func3 rfl ?_
   show (.lit (.bool r11) : PV) = _
   first | rfl | (simp only [go_sem]; rfl)
  rw [if_pos c4] at H
  have e7 : (decide (x43_1 < (r2.length : Int))) = true := by simpa using c4
  try rw [e7]
  refine Evr.condT rfl (Evr.skip (Evr.seq (Evr.block (Evr.sr rfl (Opl.p1 (n := ?_))))))
  obtain ⟨c5, H⟩ := peel H
  obtain ⟨c6, H⟩ := peel H
  obtain ⟨c7, H⟩ := peel H
  obtain ⟨c8, H⟩ := peel H
  refine Opl.idx (M := (cSl (cInt .i64))) (xs := r2) (j := x43_1) ([] : List Int) (by exact h7) rfl (by omega) (by omega) K30 Z27 rfl rfl ?_
  rintro p1 q1 h15
  obtain ⟨pv10, rfl, h16⟩ := h15
  refine Opl.lda (pv10) rfl T27 rfl rfl rfl rfl (Opl.p1 (n := Opl.p1 (n := Opl.nil (Evr.seq (Evr.sr rfl (Opl.p1 (n := Opl.p1 (n := Opl.p1 (n := Opl.idx (M := (cSl (cInt .i64))) (xs := r3) (j := x43_1) ([] : List Int) (by exact h8) rfl (by omega) (by omega) K30 Z27 rfl rfl ?_)))))))))
  rintro p2 q2 h17
  obtain ⟨pv11, rfl, h18⟩ := h17
  refine Opl.lda (pv11) rfl T27 rfl rfl rfl rfl ?_
  obtain ⟨r6, h_r6, H⟩ := obs H
  refine Opl.callc (laws_wcInts.ev h16 h18 h_r6) rfl rfl rfl rfl ⟨h16.plain, h18.plain, trivial⟩ (by decide) (Opl.p1 (n := Opl.nil ?_))
  by_cases c9 : r6 = true
  case neg =>
   rw [if_neg c9] at H
   have e15 : (!r6) = true := by simpa using c9
   try rw [e15]
   refine Evr.condT rfl (Evr.sr rfl (Opl.p1 (n := Opl.nil ?_)))
   obtain rfl := sinj H
   refine Evr.ret1 Try.func3 rfl ?_
   show (.lit (.bool false) : PV) = _
   first | rfl | (simp only [go_sem]; rfl)
  rw [if_pos c9] at H
  have e8 : (!r6) = false := by simpa using c9
  try rw [e8]
  refine Evr.condF rfl (Evr.skip (Evr.sr rfl (Opl.p1 (n := Opl.ldb (v := .agg [pv2, pv3]) h13 rfl T26 rfl rfl rfl rfl (Opl.p1 (n := ?_))))))
  obtain ⟨r7, h_r7, H⟩ := obs H
  refine Opl.call ((impl_CubeStates.ev h2 h3 h16 h_r7).mono fun _ _ h => Out.vec h) rfl rfl rfl rfl ⟨(.aggL ⟨h2.plain, h3.plain, trivial⟩), h16.plain, trivial⟩ (by decide) ?_
  rintro pv12 h19
  obtain ⟨r8, h_r8, H⟩ := obs H
  refine Opl.call ((impl_SetEither.ev h14 h19 h_r8).mono fun _ _ h => Out.vec h) rfl rfl rfl rfl ⟨h14.plain, h19.plain, trivial⟩ (by decide) ?_
  rintro pv13 h20
  refine Opl.p1 (n := Opl.nil (Evr.sr rfl (Opl.p1 (n := Opl.len (xs := (rd_Lint r2 x43_1)) (by exact h16) K27 rfl rfl rfl rfl (Opl.p1 (n := Opl.nil (Evr.block ?_)))))))
  refine Evr.loop (Evr.rounds (n := n1) (Inv := fun n tm S => n ≤ n1 ∧ ∃ (x62q3_1 : Int) (i3 : Abs.Id), laws_FnCubesOf.l2 n x62q3_1 r1 r2 r3 x43_1 r8 = some r ∧ Has tm [(3, .ptr i3 0), (4, pv4), (5, pv5), (6, pv6), (7, pv13), (9, pv10), (41, pv5), (42, .lit (.int .i64 (r2.length : Int))), (43, .lit (.int .i64 x43_1)), (61, .lit (.int .i64 ((rd_Lint r2 x43_1).length : Int))), (62, .lit (.int .i64 x62q3_1))] ∧ Box (.ptr i3 0) [pv2, pv3] S) ?_ ?_ ?_)
  · exact ⟨Nat.le_refl _, _, _, H, ⟨rfl, rfl, rfl, rfl, rfl, rfl, rfl, rfl, rfl, rfl, rfl, trivial⟩, h13⟩
  ·
   rintro tm S ⟨_, _, _, H, -⟩
   simp [laws_FnCubesOf.l2] at H
  ·
   rintro n2 ih2 tm S ⟨hle, x62q3_1, i3, H, hh, h21⟩
   simp only [laws_FnCubesOf.l2] at H
   rw [hh.eq]
   refine Evr.sr rfl (Opl.p1 (n := Opl.nil (Evr.seq ?_)))
   by_cases c10 : x62q3_1 < ((rd_Lint r2 x43_1).length : Int)
   case neg =>
    rw [if_neg c10] at H
    have e14 : (decide (x62q3_1 < ((rd_Lint r2 x43_1).length : Int))) = false := by simpa using c10
    try rw [e14]
    refine Evr.condF rfl (Evr.exit rfl (Evr.inBlock (Evr.regionN rfl (Opl.p1 (n := Opl.p1 (n := Opl.nil ?_))))))
    exact ih1 _ (by omega) _ _ ⟨by omega, _, _, _, _, H, ⟨rfl, rfl, rfl, rfl, rfl, rfl, rfl, rfl, trivial⟩, h21, h20⟩
   rw [if_pos c10] at H
   have e9 : (decide (x62q3_1 < ((rd_Lint r2 x43_1).length : Int))) = true := by simpa using c10
   try rw [e9]
   refine Evr.condT rfl (Evr.skip (Evr.seq (Evr.block (Evr.sr rfl (Opl.p1 (n := Opl.p1 (n := Opl.nil (Evr.sr rfl (Opl.lits (M := (cInt .i64)) (ys := []) [] K27 T3 rfl rfl rfl trivial rfl (by decide) rfl rfl rfl ?_)))))))))
   rintro pv14 S h22 u5 w4
   have ap2 := w4.box h21
   have h23 := u5.box h21 ap2
   refine Opl.p1 (n := ?_)
   obtain ⟨c11, H⟩ := peel H
   obtain ⟨c12, H⟩ := peel H
   obtain ⟨c13, H⟩ := peel H
   obtain ⟨c14, H⟩ := peel H
   obtain ⟨c15, H⟩ := peel H
   refine Opl.app (M := (cInt .i64)) (xs := ([] : List Int)) (ys := (rd_Lint r2 x43_1)) (v := pv14) h22 (.sl h16) (oInt .i64) rfl rfl K27 T3 rfl rfl (by (try simp only [List.length_cons, List.length_nil]); omega) (by show (_ + _) * 8 ≤ 140737488355328; (try simp only [List.length_cons, List.length_nil]); omega) rfl rfl rfl rfl rfl ?_
   rintro pv15 S h24 u6 w5
   have ap3 := w5.box h23
   have h25 := u6.box h23 ap2
   refine Opl.p1 (n := Opl.nil (Evr.sr rfl (Opl.p1 (n := Opl.p1 (n := Opl.idv (M := (cInt .i64)) (xs := (([] : List Int) ++ (rd_Lint r2 x43_1))) (j := x62q3_1) (v := pv15) h24 rfl rfl (by omega) (by omega) K27 Z3 rfl rfl ?_)))))
   rintro d1 z1 q3 h26 h27
   refine Opl.stv (M := (cInt .i64)) (xs := (([] : List Int) ++ (rd_Lint r2 x43_1))) (j := x62q3_1) (y := 2) (vs := [.lit (.int .i64 2)]) h26 h27 (by omega) (by omega) rfl rfl (by exact rfl) Z3 rfl rfl rfl rfl ?_
   rw [← q3]
   rintro S h28 u7
   have h29 := u7.box h25 ap3
   refine Opl.nil (Evr.seq ?_)
   refine Evr.join2 (fun tm S => ∃ (kq1 : Nat) (i4 : Abs.Id), laws_FnCubesOf.l2 kq1 (wrap64 (x62q3_1 + 1)) r1 r2 r3 x43_1 r8 = some r ∧ kq1 ≤ n2 ∧ Has tm [(3, .ptr i4 0), (4, pv4), (5, pv5), (6, pv6), (7, pv13), (9, pv10), (41, pv5), (42, .lit (.int .i64 (r2.length : Int))), (43, .lit (.int .i64 x43_1)), (61, .lit (.int .i64 ((rd_Lint r2 x43_1).length : Int))), (62, .lit (.int .i64 x62q3_1))] ∧ Box (.ptr i4 0) [pv2, pv3] S) ?_ fun hk1 => ?_
   ·
    rintro tm S ⟨kq1, i4, H, hle, hh, h30⟩
    rw [hh.eq]
    refine Evr.inBlock (Evr.regionN rfl (Opl.p1 (n := Opl.p1 (n := Opl.nil ?_))))
    exact ih2 _ (by omega) _ _ ⟨by omega, _, _, H, ⟨rfl, rfl, rfl, rfl, rfl, rfl, rfl, rfl, rfl, rfl, rfl, trivial⟩, h30⟩
   ·
    refine Evr.regionN rfl (Opl.p1 (n := Opl.p1 (n := Opl.idx (M := (cInt .i64)) (xs := (rd_Lint r2 x43_1)) (j := x62q3_1) (0 : Int) (by exact h16) rfl (by omega) (by omega) K27 Z3 rfl rfl ?_)))
    rintro p3 q4 h31
    obtain rfl : p3 = [.lit (.int .i64 (rd (rd_Lint r2 x43_1) x62q3_1))] := h31
    refine Opl.lda (.lit (.int .i64 (rd (rd_Lint r2 x43_1) x62q3_1))) rfl T3 rfl rfl rfl rfl (Opl.p1 (n := Opl.p1 (n := ?_)))
    by_cases c16 : (rd (rd_Lint r2 x43_1) x62q3_1) ≠ 2
    case neg =>
     rw [if_neg c16] at H
     have e13 : ((rd (rd_Lint r2 x43_1) x62q3_1) != 2) = false := by simpa using c16
     try rw [e13]
     refine Opl.sk4 rfl rfl rfl rfl (Opl.sk2 rfl rfl (Opl.skp rfl (Opl.p1 (n := Opl.nil (Evr.condF rfl (Evr.skip ?_))))))
     exact hk1 _ _ ⟨_, _, H, by omega, ⟨rfl, rfl, rfl, rfl, rfl, rfl, rfl, rfl, rfl, rfl, rfl, trivial⟩, h29⟩
    rw [if_pos c16] at H
    have e10 : ((rd (rd_Lint r2 x43_1) x62q3_1) != 2) = true := by simpa using c16
    try rw [e10]
    refine Opl.ldb (v := .agg [pv2, pv3]) h29 rfl T26 rfl rfl rfl rfl (Opl.p1 (n := ?_))
    obtain ⟨r9, h_r9, H⟩ := obs H
    obtain ⟨pv16, h32, -, h33⟩ := Out.vec h28
    refine Opl.callv (sInt .i64) (impl_CubeStates.ev h2 h3 h33 h_r9) rfl rfl rfl (.cons (.refl _) (.cons h32 .nil)) ⟨(.aggL ⟨h2.plain, h3.plain, trivial⟩), h33.plain, trivial⟩ (by decide) ?_
    rintro pv17 h34
    refine Opl.p1 (n := ?_)
    obtain ⟨r10, h_r10, H⟩ := obs H
    refine Opl.call ((impl_SetWithout.ev h34 h4 h_r10).mono fun _ _ h => Out.vec h) rfl rfl rfl rfl ⟨h34.plain, h4.plain, trivial⟩ (by decide) ?_
    rintro pv18 h35
    refine Opl.len (xs := r10) (by exact h35) K27 rfl rfl rfl rfl (Opl.p1 (n := Opl.p1 (n := Opl.nil ?_)))
    by_cases c17 : (r10.length : Int) = 0
    case neg =>
     rw [if_neg c17] at H
     have e12 : ((r10.length : Int) == 0) = false := by simpa using c17
     try rw [e12]
     refine Evr.condF rfl (Evr.skip ?_)
     exact hk1 _ _ ⟨_, _, H, by omega, ⟨rfl, rfl, rfl, rfl, rfl, rfl, rfl, rfl, rfl, rfl, rfl, trivial⟩, h29⟩
    rw [if_pos c17] at H
    have e11 : ((r10.length : Int) == 0) = true := by simpa using c17
    try rw [e11]
    refine Evr.condT rfl (Evr.sr rfl (Opl.p1 (n := Opl.nil ?_)))
    obtain rfl := sinj H
    refine Evr.ret1 Try.func3 rfl ?_
    show (.lit (.bool false) : PV) = _
    first | rfl | (simp only [go_sem]; rfl)
end Go.Proofs.Ytpjmiaooogephaa.PA
