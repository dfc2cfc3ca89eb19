/- Walks of Go functions: each is shown to answer as the Lean function beside it tells, under the conditions that its theorem names. -/
import Derived.Test.YtjgonefohfldjaaProg
import Derived.KernelRfl
import Derived.Below
import Derived.Deep.Draws
import Derived.Deep.AppendLies
import Derived.Maps.AppendAt
import Derived.OwnWalk
import Derived.Laws.BytesArg
import Derived.Laws.MakeOwn
import Derived.Laws.OwnMore
import Derived.Deep.OwnRows
import Derived.Tactics
import Derived.Lib.ConvBytes
import Derived.Laws.Slices
import Derived.WalkKit
import Derived.RowKit3
import Derived.Deep.LoopGhost
import Derived.Deep.QuietTactic
import Derived.BigQuiet
import Derived.WideLaws
import Derived.Deep.DeepCutAuto
import Derived.Deep.CutBlock
import Derived.Deep.RegionHeld3
import Derived.Laws.Rows
import Derived.Lib.AppendStr
import Derived.ArgAppend
import Derived.Laws.IdiomCopy
import Derived.OrdersHeld
import Derived.Laws.BitsLemmas
import Derived.RowKit
import Derived.Laws.StructEq
import Derived.Lib.SliceRun
import Derived.WalkSpells
import Derived.ChangeArms
import Derived.ChangeSlices
import Derived.Deep.Slices
import Derived.Attr
import Derived.Laws.Append
import Derived.Laws.AppendOwn
import Derived.Laws.Entries
import Derived.Calls
import Derived.Laws.Sem
import Derived.Test.YtjgonefohfldjaaKP99c6e6fbe1
namespace Go.Proofs.Ytjgonefohfldjaa.PA
open Go Go.Abs Go.RowKit Go.Proofs Go.Proofs.YtjgonefohfldjaaW.PrintWords Go.Proofs.YtjgonefohfldjaaW.PrintLast Go.Proofs.YtjgonefohfldjaaW.PrintMore
set_option maxRecDepth 100000
set_option maxHeartbeats 4000000
set_option linter.unusedVariables false
set_option linter.unusedSimpArgs false
theorem spec_l16Draw.evb {k : Nat} {S0 : Sto} {l0 : List Int} {v0 : PV} (hv0 : Sl (cInt .u8) l0 v0) {r : (List Int × Int) × (List IVar × List IRule) × (List Int)} (H : spec_l16Draw.f k l0 = some r) : RetS Try.prog 90 [v0] S0 fun v S => ∃ q0_ q1_ q2_ jq0_ zq0_ q1__0 q1__1, v = .tup [q0_, q1_, q2_] ∧ q0_ = .ptr jq0_ 0 ∧ Sl (cInt .u8) r.1.1 zq0_ ∧ Box q0_ [zq0_, .lit (.int .i64 r.1.2)] S ∧ New S0 q0_ ∧ q1_ = .agg [q1__0, q1__1] ∧ Sl cIVar r.2.1.1 q1__0 ∧ Sl cIRule r.2.1.2 q1__1 ∧ Sl (cInt .i64) r.2.2 q2_ ∧ Same S0 S [] := by
 have hs0 : Same S0 S0 [] := .refl _ _
 unfold spec_l16Draw.f at H
 refine RetS.intro Try.func90 rfl (Nat.le_of_ble_eq_true rfl) rfl ?_
 rw [tm1]
 refine Evr.sr rfl (Opl.p1 (n := Opl.alloc T26 rfl rfl rfl ?_))
 rintro i1 S h1 u1 w1
 have ap1 := w1.sameP hs0
 have h2 := u1.sameP hs0 ap1
 refine Opl.p1 (n := Opl.nil (Evr.sr rfl (Opl.p1 (n := ?_))))
 obtain ⟨r1, h_r1, H⟩ := Option.bind_eq_some_iff.1 H
 refine Opl.calls (spec_l40Open.evb hv0 h_r1) rfl rfl rfl rfl rfl ?_
 rintro _ S ⟨i2, pv1, rfl, h3, h4, w2, u2⟩
 have h6 := u2.sameP h2 OutT.nil
 have h7 := u2.box h1 ApT.nil
 have ap2 := w2.sameP h2
 have ap3 := w2.box h1
 refine Opl.p1 (n := Opl.nil (Evr.sr rfl (Opl.p1 (n := ?_))))
 obtain ⟨r2, h_r2, H⟩ := Option.bind_eq_some_iff.1 H
 refine Opl.calls (spec_l2Any.evb h3 h4 h_r2) rfl rfl rfl rfl rfl ?_
 rintro _ S ⟨pv2, pv3, rfl, h8, h9, h10, u3⟩
 have h11 := u3.sameP h6 ap2
 have h12 := u3.box h7 (ap3).pt
 refine Opl.alloc T26 rfl rfl rfl ?_
 rintro i3 S h13 u4 w3
 have ap4 := w3.sameP h11
 have h14 := u4.sameP h11 ap4
 have ap5 := w3.box h12
 have h15 := u4.box h12 ap5
 have ap6 := w3.box h10
 have h16 := u4.box h10 ap6
 refine Opl.stb (vs := [pv2, pv3]) h13 rfl rfl Z26 rfl (Nat.le_of_ble_eq_true rfl) (by simp only [List.all_cons, List.all_nil, h8.one, h9.one, Bool.and_true, Bool.true_and] <;> rfl) rfl rfl rfl ?_
 rintro S (h17 : Box (.ptr i3 0) [pv2, pv3] _) u5
 have h18 := u5.sameP h14 ap4
 have h19 := u5.box h15 ap5
 have h20 := u5.box h16 ap6
 refine Opl.nil (Evr.sr rfl (Opl.p1 (n := Opl.ldb (v := .agg [pv2, pv3]) h17 rfl T26 rfl rfl rfl rfl ?_)))
 obtain ⟨r3, h_r3, H⟩ := Option.bind_eq_some_iff.1 H
 refine Opl.call ((spec_BitsOf.ev h8 h9 h_r3).mono fun _ _ h => Out.vec h) rfl rfl rfl rfl ⟨(.aggL ⟨h8.plain, h9.plain, trivial⟩), trivial⟩ (by decide) ?_
 rintro pv4 h21
 obtain ⟨r4, h_r4, H⟩ := Option.bind_eq_some_iff.1 H
 refine Opl.callc (spec_l6Sum.ev h21 h_r4) rfl rfl rfl rfl ⟨h21.plain, trivial⟩ (by decide) ?_
 obtain ⟨r5, h_r5, H⟩ := Option.bind_eq_some_iff.1 H
 refine Opl.calls (spec_l16Some.evb h3 h20 h_r5) rfl rfl rfl rfl rfl ?_
 rintro pv5 S ⟨h22, h23, u6⟩
 have h24 := u6.sameP h18 ap2
 have h25 := u6.box h19 (ap3).pt
 have h26 := u6.box h17 (ap6.symm).pt
 refine Opl.p1 (n := Opl.nil (Evr.seq (Evr.sr rfl (Opl.ldb (v := .agg [pv2, pv3]) h26 rfl T26 rfl rfl rfl rfl ?_))))
 obtain ⟨r6, h_r6, H⟩ := Option.bind_eq_some_iff.1 H
 refine Opl.callc (spec_SystemValid.ev h8 h9 h_r6) rfl rfl rfl rfl ⟨(.aggL ⟨h8.plain, h9.plain, trivial⟩), trivial⟩ (by decide) (Opl.p1 (n := ?_))
 by_cases c1 : r6 = true
 case neg =>
  rw [if_neg c1] at H
  obtain rfl : r6 = false := by simpa using c1
  refine Opl.skp rfl (Opl.skp rfl (Opl.skp rfl (Opl.p1 (n := Opl.nil (Evr.condF rfl (Evr.skip (Evr.seq (Evr.regionD rfl (by kernel_rfl) (Opl.p1 (n := Opl.ldb (v := .agg [pv2, pv3]) h26 rfl T26 rfl rfl rfl rfl (Opl.p1 (n := Opl.p1 (n := ?_)))))))))))))
  obtain _ | k3 := k
  · simp [spec_l16Draw.j1] at H
  simp only [spec_l16Draw.j1] at H
  refine Opl.stb (vs := [pv2, pv3]) h25 rfl rfl Z26 rfl (Nat.le_of_ble_eq_true rfl) (by simp only [List.all_cons, List.all_nil, h8.one, h9.one, Bool.and_true, Bool.true_and] <;> rfl) rfl rfl rfl ?_
  rintro S (h46 : Box (.ptr i1 0) [pv2, pv3] _) u10
  have h47 := u10.sameP h24 ap1
  have h48 := u10.box h23 ap3.symm
  have h49 := u10.box h26 ap5.symm
  refine Opl.p1 (n := Opl.nil ?_)
  obtain rfl := Option.some.inj H
  refine Evr.ret_tct (v1 := .agg [pv2, pv3]) Try.func90 rfl h46 rfl T26 rfl ?_
  exact ⟨_, _, _, _, _, _, _, rfl, rfl, h3, h48, (OutT.new0 ap2), rfl, h8, h9, h22, h47⟩
 rw [if_pos c1] at H
 obtain rfl : r6 = true := by simpa using c1
 refine Opl.p1 (n := ?_)
 obtain ⟨r7, h_r7, H⟩ := Option.bind_eq_some_iff.1 H
 refine Opl.calls (spec_l40Rd_pick.evb h3 h23 h_r7) rfl rfl rfl rfl rfl ?_
 rintro _ S ⟨rfl, h27, u7⟩
 have h28 := u7.sameP h24 ap2
 have h29 := u7.box h25 (ap3).pt
 have h30 := u7.box h26 (ap6.symm).pt
 refine Opl.p1 (n := Opl.p1 (n := Opl.nil ?_))
 refine Evr.join (fun tm S => ∃ (kq1 : Nat) (x5b1q3_1 : Int) (x7q3_1 : List Int) (i4 : Abs.Id) (i5 : Abs.Id) (i6 : Abs.Id) (pv6 : PV), spec_l16Draw.j2 kq1 x5b1q3_1 x7q3_1 r1 r2 = some r ∧ Has tm [(3, .ptr i4 0), (5, .ptr i5 0), (6, .ptr i6 0), (7, pv6)] ∧ Box (.ptr i4 0) [.lit (.slice none 0 0), .lit (.slice none 0 0)] S ∧ Box (.ptr i5 0) [pv1, .lit (.int .i64 x5b1q3_1)] S ∧ Box (.ptr i6 0) [pv2, pv3] S ∧ Sl (cInt .i64) x7q3_1 pv6 ∧ Same S0 S [] ∧ OutT S0 [] (PV.ptr i4 0).id?.toList ∧ OutT S0 [] (PV.ptr i5 0).id?.toList ∧ OutT S0 [] (PV.ptr i6 0).id?.toList ∧ Ap (.ptr i4 0) (.ptr i5 0) ∧ Ap (.ptr i4 0) (.ptr i6 0) ∧ Ap (.ptr i5 0) (.ptr i6 0)) ?_ fun hk1 => ?_
 ·
  rintro tm S ⟨kq1, x5b1q3_1, x7q3_1, i4, i5, i6, pv6, H, hh, h31, h32, h33, h34, h35, o1, o2, o3, ap7, ap8, ap9⟩
  rw [hh.eq]
  refine Evr.seq (Evr.regionD rfl (by kernel_rfl) (Opl.p1 (n := Opl.ldb (v := .agg [pv2, pv3]) h33 rfl T26 rfl rfl rfl rfl (Opl.p1 (n := Opl.p1 (n := ?_))))))
  obtain _ | k1 := kq1
  · simp [spec_l16Draw.j2] at H
  simp only [spec_l16Draw.j2] at H
  obtain _ | k2 := k1
  · simp [spec_l16Draw.j1] at H
  simp only [spec_l16Draw.j1] at H
  refine Opl.stb (vs := [pv2, pv3]) h31 rfl rfl Z26 rfl (Nat.le_of_ble_eq_true rfl) (by simp only [List.all_cons, List.all_nil, h8.one, h9.one, Bool.and_true, Bool.true_and] <;> rfl) rfl rfl rfl ?_
  rintro S (h36 : Box (.ptr i4 0) [pv2, pv3] _) u8
  have h37 := u8.box h32 ap7.symm
  have h38 := u8.box h33 ap8.symm
  have h39 := u8.sameP h35 o1
  refine Opl.p1 (n := Opl.nil ?_)
  obtain rfl := Option.some.inj H
  refine Evr.ret_tct (v1 := .agg [pv2, pv3]) Try.func90 rfl h36 rfl T26 rfl ?_
  exact ⟨_, _, _, _, _, _, _, rfl, rfl, h3, h37, (OutT.new0 o2), rfl, h8, h9, h34, h39⟩
 ·
  by_cases c2 : r7.2 = 0
  case neg =>
   rw [if_neg c2] at H
   have e2 : (r7.2 == 0) = false := by simpa using c2
   try rw [e2]
   refine Evr.condF rfl (Evr.skip ?_)
   exact hk1 _ _ ⟨_, _, _, _, _, _, _, H, ⟨rfl, rfl, rfl, rfl, trivial⟩, h29, h27, h30, h22, h28, ap1, ap2, ap4, ap3, ap5, ap6⟩
  rw [if_pos c2] at H
  have e1 : (r7.2 == 0) = true := by simpa using c2
  try rw [e1]
  refine Evr.condT rfl (Evr.regionL [(5, .m), (0, .q), (1, .q), (3, .q)] rfl (by kernel_rfl) (Opl.ldbk (v := .agg [pv2, pv3]) h30 (rd_sl h9) rfl T26 rfl rfl rfl rfl (Opl.ldbk (v := .agg [pv2, pv3]) h30 (rd_sl h9) rfl T26 rfl rfl rfl rfl (Opl.p1 (n := Opl.ldbk (v := .agg [pv2, pv3]) h30 (rd_sl h9) rfl T26 rfl rfl rfl rfl ?_)))))
  obtain ⟨r8, h_r8, H⟩ := Option.bind_eq_some_iff.1 H
  refine Opl.callc (spec_SizeOf.ev h8 h9 h_r8) rfl rfl rfl rfl ⟨(.aggL ⟨h8.plain, h9.plain, trivial⟩), trivial⟩ (by decide) ?_
  obtain ⟨r9, h_r9, H⟩ := Option.bind_eq_some_iff.1 H
  refine Opl.callbm h27 (spec_l40Rd_pick.evb h3 h27 h_r9) rfl rfl rfl rfl rfl ?_
  rintro _ S rfl h40 u9
  have h41 := u9.sameP h28 ap2
  have h42 := u9.box h29 (ap3).pt
  have h43 := u9.box h30 (ap6.symm).pt
  obtain ⟨r10, h_r10, H⟩ := Option.bind_eq_some_iff.1 H
  refine Opl.call ((spec_l4State.ev h8 h9 h_r10).mono fun _ _ h => Out.vec h) rfl rfl rfl rfl ⟨(.aggL ⟨h8.plain, h9.plain, trivial⟩), (.lit _), trivial⟩ (by decide) ?_
  rintro pv7 h44
  obtain ⟨r11, h_r11, H⟩ := Option.bind_eq_some_iff.1 H
  refine Opl.call ((spec_l6State.ev h8 h9 h44 h_r11).mono fun _ _ h => Out.vec h) rfl rfl rfl rfl ⟨(.aggL ⟨h8.plain, h9.plain, trivial⟩), h44.plain, trivial⟩ (by decide) ?_
  rintro pv8 h45
  refine Opl.p1 (n := Opl.nil ?_)
  exact hk1 _ _ ⟨_, _, _, _, _, _, _, H, ⟨rfl, rfl, rfl, rfl, trivial⟩, h42, h40, h43, h45, h41, ap1, ap2, ap4, ap3, ap5, ap6⟩
theorem spec_l4Some.evb {k : Nat} {S0 : Sto} {l0_0 : List Int} {a0_1 : Int} {i0 : Abs.Id} {q0 : PV} (hq0 : Sl (cInt .u8) l0_0 q0) (hb0 : Box (.ptr i0 0) [q0, .lit (.int .i64 a0_1)] S0) {l1_0 : List IVar} {v1_0 : PV} (hv1_0 : Sl cIVar l1_0 v1_0) {l1_1 : List IRule} {v1_1 : PV} (hv1_1 : Sl cIRule l1_1 v1_1) {r : Int × (List Int)} (H : spec_l4Some.f k l0_0 a0_1 l1_0 l1_1 = some r) : RetS Try.prog 98 [.ptr i0 0, .agg [v1_0, v1_1]] S0 fun v S => Sl (cInt .i64) r.2 v ∧ Box (.ptr i0 0) [q0, .lit (.int .i64 r.1)] S ∧ Same S0 S [i0] := by
 have hs0 : Same S0 S0 [i0] := .refl _ _
 unfold spec_l4Some.f at H
 refine RetS.intro Try.func98 rfl (Nat.le_of_ble_eq_true rfl) rfl ?_
 rw [tm2]
 refine Evr.sr rfl (Opl.box (cs := [v1_0, v1_1]) rfl rfl rfl rfl ?_)
 rintro i1 S h1 u1 w1
 have ap1 := w1.sameP hs0
 have h2 := u1.sameP hs0 ap1
 have ap2 := w1.box hb0
 have h3 := u1.box hb0 ap2
 refine Opl.p1 (n := Opl.nil (Evr.sr rfl (Opl.lits (M := (cInt .i64)) (ys := []) [] K29 T3 rfl rfl rfl trivial rfl (by decide) rfl rfl rfl ?_)))
 rintro pv1 S h4 u2 w2
 have ap3 := w2.sameP h2
 have h5 := u2.sameP h2 ap3
 have ap4 := w2.box h3
 have h6 := u2.box h3 ap4
 have ap5 := w2.box h1
 have h7 := u2.box h1 ap5
 refine Opl.p1 (n := Opl.nil (Evr.sr rfl (Opl.ldb (v := .agg [v1_0, v1_1]) h7 rfl T26 rfl rfl rfl rfl ?_)))
 obtain ⟨r1, h_r1, H⟩ := Option.bind_eq_some_iff.1 H
 refine Opl.callc (spec_SizeOf.ev hv1_0 hv1_1 h_r1) rfl rfl rfl rfl ⟨(.aggL ⟨hv1_0.plain, hv1_1.plain, trivial⟩), trivial⟩ (by decide) (Opl.p1 (n := Opl.nil (Evr.sr rfl (Opl.p1 (n := Opl.litf (M := (cInt .i64)) (ys := [2, 3, 1, 5, 9]) [.const (.int .i64 2), .const (.int .i64 3), .const (.int .i64 1), .const (.int .i64 5), .const (.int .i64 9)] K29 T3 rfl rfl rfl (by exact ⟨rfl, rfl, rfl, rfl, rfl, trivial⟩) rfl (by decide) rfl rfl rfl ?_)))))
 rintro pv3 pv4 S h8 u3 w3
 have ap6 := w3.sameP h5
 have h9 := u3.sameP h5 ap6
 have ap7 := w3.box h6
 have h10 := u3.box h6 ap7
 have ap8 := w3.box h7
 have h11 := u3.box h7 ap8
 have ap9 := w3.vec h4
 have h12 := u3.vec h4 ap9
 obtain ⟨r2, h_r2, H⟩ := Option.bind_eq_some_iff.1 H
 refine Opl.calls (spec_l40Rd_num.evb hq0 h10 h8 h_r2) rfl rfl rfl rfl rfl ?_
 rintro _ S ⟨rfl, h13, u4⟩
 have h14 := u4.sameP h9 OutT.box
 have h15 := u4.box h11 (ap2.symm).pt
 have h16 := u4.vec h12 (ap4.symm).pt
 refine Opl.p1 (n := Opl.nil (Evr.seq (Evr.sr rfl (Opl.p1 (n := Opl.nil (Evr.block ?_))))))
 refine Evr.loop (Evr.rounds (n := k) (Inv := fun n tm S => n ≤ k ∧ ∃ (x0b1_1 : Int) (x5_1 : List Int) (x8_1 : Int) (pv5 : PV), spec_l4Some.l1 n x0b1_1 x5_1 x8_1 l0_0 r1 r2 = some r ∧ Has tm [(0, .ptr i0 0), (5, pv5), (6, .lit (.int .i64 r1)), (7, .lit (.int .i64 r2.2)), (8, .lit (.int .i64 x8_1))] ∧ Box (.ptr i0 0) [q0, .lit (.int .i64 x0b1_1)] S ∧ Vec (cInt .i64) x5_1 pv5 S ∧ Same S0 S [i0] ∧ OutT S0 [i0] (PV.id? pv5).toList ∧ Ap (.ptr i0 0) pv5) ?_ ?_ ?_)
 · exact ⟨Nat.le_refl _, _, _, _, _, H, ⟨rfl, rfl, rfl, rfl, rfl, trivial⟩, h13, h16, h14, ap3, ap4⟩
 ·
  rintro tm S ⟨_, _, _, _, _, H, -⟩
  simp [spec_l4Some.l1] at H
 ·
  rintro n1 ih1 tm S ⟨hle, x0b1_1, x5_1, x8_1, pv5, H, hh, h17, h18, h19, o1, ap10⟩
  simp only [spec_l4Some.l1] at H
  rw [hh.eq]
  refine Evr.seq (Evr.sr rfl (Opl.p1 (n := Opl.p1 (n := Opl.p1 (n := Opl.nil ?_)))))
  by_cases c1 : x8_1 < r1
  case pos =>
   rw [if_pos c1] at H
   have e1 : (decide (x8_1 < r1)) = true := by simpa using c1
   try rw [e1]
   refine Evr.condT rfl (Evr.skip (Evr.seq (Evr.block (Evr.sr rfl (Opl.p1 (n := Opl.p1 (n := ?_)))))))
   obtain ⟨r3, h_r3, H⟩ := Option.bind_eq_some_iff.1 H
   refine Opl.calls (spec_l40Rd_pick.evb hq0 h17 h_r3) rfl rfl rfl rfl rfl ?_
   rintro _ S ⟨rfl, h20, u5⟩
   have h21 := u5.vec h18 (ap10.symm).pt
   have h22 := u5.sameP h19 OutT.box
   refine Opl.p1 (n := Opl.nil ?_)
   refine Evr.join (fun tm S => ∃ (kq1 : Nat) (x5_2 : List Int) (pv6 : PV), spec_l4Some.l1 kq1 r3.1 x5_2 (wrap64 (x8_1 + 1)) l0_0 r1 r2 = some r ∧ kq1 ≤ n1 ∧ Has tm [(0, .ptr i0 0), (5, pv6), (6, .lit (.int .i64 r1)), (7, .lit (.int .i64 r2.2)), (8, .lit (.int .i64 x8_1))] ∧ Box (.ptr i0 0) [q0, .lit (.int .i64 r3.1)] S ∧ Vec (cInt .i64) x5_2 pv6 S ∧ Same S0 S [i0] ∧ OutT S0 [i0] (PV.id? pv6).toList ∧ Ap (.ptr i0 0) pv6) ?_ fun hk1 => ?_
   ·
    rintro tm S ⟨kq1, x5_2, pv6, H, hle, hh, h23, h24, h25, o2, ap11⟩
    rw [hh.eq]
    refine Evr.inBlock (Evr.regionN rfl (Opl.p1 (n := Opl.add (k := .i64) (a := x8_1) (b := 1) K3 rfl rfl rfl rfl (Opl.one (v := .lit (.int .i64 (wrap64 (x8_1 + 1)))) rfl rfl rfl (Opl.nil ?_)))))
    exact ih1 _ (by omega) _ _ ⟨by omega, _, _, _, _, H, ⟨rfl, rfl, rfl, rfl, rfl, trivial⟩, h23, h24, h25, o2, ap11⟩
   ·
    by_cases c2 : r3.2 = 0
    case neg =>
     rw [if_neg c2] at H
     have e3 : (r3.2 == 0) = false := by simpa using c2
     try rw [e3]
     refine Evr.condF rfl (Evr.skip ?_)
     exact hk1 _ _ ⟨_, _, _, H, by omega, ⟨rfl, rfl, rfl, rfl, rfl, trivial⟩, h20, h21, h22, o1, ap10⟩
    rw [if_pos c2] at H
    have e2 : (r3.2 == 0) = true := by simpa using c2
    try rw [e2]
    refine Evr.condT rfl (Evr.regionN rfl (Opl.p1 (n := Opl.p1 (n := Opl.lits (M := (cInt .i64)) (ys := [x8_1]) [.tmp 25] K29 T3 rfl rfl rfl (by exact ⟨rfl, trivial⟩) rfl (by decide) rfl rfl rfl ?_))))
    rintro pv7 S h26 u6 w4
    have ap12 := w4.box h20
    have h27 := u6.box h20 ap12
    have ap13 := w4.vec h21
    have h28 := u6.vec h21 ap13
    have ap14 := w4.sameP h22
    have h29 := u6.sameP h22 ap14
    obtain ⟨c3, H⟩ := peel H
    refine Opl.app (M := (cInt .i64)) (xs := x5_1) (ys := [x8_1]) (v := pv5) h28 (.vec h26) (oInt .i64) rfl rfl K29 T3 rfl rfl (by (try simp only [List.length_cons, List.length_nil]); omega) (by show (_ + _) * 8 ≤ 140737488355328; (try simp only [List.length_cons, List.length_nil]); omega) rfl rfl rfl rfl rfl ?_
    rintro pv8 S h30 u7 w5
    have ap15 := w5.box h27
    have h31 := u7.box h27 ap10
    have ap16 := w5.sameP h29
    have h32 := u7.sameP h29 o1
    have ap17 := w5.vec h26
    have h33 := u7.vec h26 ap13.symm
    refine Opl.p1 (n := Opl.nil ?_)
    exact hk1 _ _ ⟨_, _, _, H, by omega, ⟨rfl, rfl, rfl, rfl, rfl, trivial⟩, h31, h30, h32, ap16, ap15⟩
  rw [if_neg c1] at H
  have e4 : (decide (x8_1 < r1)) = false := by simpa using c1
  try rw [e4]
  refine Evr.condF rfl (Evr.exit rfl (Evr.seq (Evr.sr rfl (Opl.p1 (n := ?_)))))
  obtain ⟨r4, h_r4, H⟩ := Option.bind_eq_some_iff.1 H
  refine Opl.calls (spec_l40Rd_pick.evb hq0 h17 h_r4) rfl rfl rfl rfl rfl ?_
  rintro _ S ⟨rfl, h34, u8⟩
  have h35 := u8.vec h18 (ap10.symm).pt
  have h36 := u8.sameP h19 OutT.box
  refine Opl.p1 (n := Opl.nil ?_)
  by_cases c4 : r4.2 = 0
  case neg =>
   rw [if_neg c4] at H
   have e6 : (r4.2 == 0) = false := by simpa using c4
   try rw [e6]
   refine Evr.condF rfl (Evr.skip (Evr.sr rfl (Opl.p1 (n := Opl.p1 (n := Opl.nil ?_)))))
   refine Evr.frz 4 h35 rfl ?_
   rintro pv15 S h56 u14
   have h57 := u14.box h34 ap10
   have h58 := u14.sameP h36 o1
   obtain rfl := Option.some.inj H
   refine Evr.ret1 Try.func98 rfl ?_
   exact ⟨h56, h57, h58⟩
  rw [if_pos c4] at H
  have e5 : (r4.2 == 0) = true := by simpa using c4
  try rw [e5]
  refine Evr.condT rfl (Evr.regionN rfl (Opl.p1 (n := Opl.p1 (n := Opl.p1 (n := Opl.litf (M := (cInt .i64)) (ys := [r1, 0, (-1)]) [.tmp 33, .const (.int .i64 0), .const (.int .i64 (-1))] K29 T3 rfl rfl rfl (by exact ⟨rfl, rfl, rfl, trivial⟩) rfl (by decide) rfl rfl rfl ?_)))))
  rintro pv10 pv11 S h37 u9 w6
  have ap18 := w6.box h34
  have h38 := u9.box h34 ap18
  have ap19 := w6.vec h35
  have h39 := u9.vec h35 ap19
  have ap20 := w6.sameP h36
  have h40 := u9.sameP h36 ap20
  obtain ⟨r5, h_r5, H⟩ := Option.bind_eq_some_iff.1 H
  refine Opl.calls (spec_l40Rd_num.evb hq0 h38 h37 h_r5) rfl rfl rfl rfl rfl ?_
  rintro _ S ⟨rfl, h41, u10⟩
  have h42 := u10.vec h39 (ap10.symm).pt
  have h43 := u10.sameP h40 OutT.box
  refine Opl.lits (M := (cInt .i64)) (ys := [r5.2]) [.tmp 35] K29 T3 rfl rfl rfl (by exact ⟨rfl, trivial⟩) rfl (by decide) rfl rfl rfl ?_
  rintro pv12 S h44 u11 w7
  have ap21 := w7.box h41
  have h45 := u11.box h41 ap21
  have ap22 := w7.vec h42
  have h46 := u11.vec h42 ap22
  have ap23 := w7.sameP h43
  have h47 := u11.sameP h43 ap23
  obtain ⟨c5, H⟩ := peel H
  refine Opl.app (M := (cInt .i64)) (xs := x5_1) (ys := [r5.2]) (v := pv5) h46 (.vec h44) (oInt .i64) rfl rfl K29 T3 rfl rfl (by (try simp only [List.length_cons, List.length_nil]); omega) (by show (_ + _) * 8 ≤ 140737488355328; (try simp only [List.length_cons, List.length_nil]); omega) rfl rfl rfl rfl rfl ?_
  rintro pv13 S h48 u12 w8
  have ap24 := w8.box h45
  have h49 := u12.box h45 ap10
  have ap25 := w8.sameP h47
  have h50 := u12.sameP h47 o1
  have ap26 := w8.vec h44
  have h51 := u12.vec h44 ap22.symm
  refine Opl.p1 (n := Opl.nil (Evr.sr rfl (Opl.p1 (n := Opl.p1 (n := Opl.nil ?_)))))
  refine Evr.frz 4 h48 rfl ?_
  rintro pv14 S h52 u13
  have h53 := u13.box h49 ap24
  have h54 := u13.sameP h50 ap25
  have h55 := u13.vec h51 ap26
  obtain rfl := Option.some.inj H
  refine Evr.ret1 Try.func98 rfl ?_
  exact ⟨h52, h53, h54⟩
theorem spec_DrawWidened.ev {k : Nat} {l0 : List Int} {v0 : PV} (hv0 : Sl (cInt .u8) l0 v0) {r : (List IVar × List IRule) × (List Int) × (List Int)} (H : spec_DrawWidened.f k l0 = some r) : Ret Try.prog 41 [v0] fun v S => Out (fun q => ∃ q1 q2 q3, q = .tup [q1, q2, q3] ∧ (∃ q11 q12, q1 = .agg [q11, q12] ∧ Sl cIVar r.1.1 q11 ∧ Sl cIRule r.1.2 q12) ∧ Sl (cInt .i64) r.2.1 q2 ∧ Sl (cInt .i64) r.2.2 q3) v S := by
 unfold spec_DrawWidened.f at H
 refine Ret.intro Try.func41 rfl (Nat.le_of_ble_eq_true rfl) rfl ?_
 rw [tm1]
 refine Evr.sr rfl (Opl.alloc T26 rfl rfl rfl ?_)
 rintro i1 S h1 u1 w1
 refine Opl.p1 (n := Opl.p1 (n := Opl.nil (Evr.sr rfl (Opl.p1 (n := ?_)))))
 obtain ⟨r1, h_r1, H⟩ := Option.bind_eq_some_iff.1 H
 refine Opl.calls (spec_l16Draw.evb hv0 h_r1) rfl rfl rfl rfl rfl ?_
 rintro _ S ⟨_, _, pv4, i2, pv1, pv2, pv3, rfl, rfl, h2, h3, w2, rfl, h4, h5, h6, u2⟩
 have h8 := u2.box h1 ApT.nil
 have ap1 := w2.box h1
 refine Opl.p1 (n := Opl.p1 (v := .ptr i2 0) (n := Opl.p1 (v := .agg [pv2, pv3]) (n := Opl.p1 (v := pv4) (n := Opl.alloc T26 rfl rfl rfl ?_))))
 rintro i3 S h9 u3 w3
 have ap2 := w3.box h8
 have h10 := u3.box h8 ap2
 have ap3 := w3.box h3
 have h11 := u3.box h3 ap3
 refine Opl.p1 (n := Opl.stb (vs := [pv2, pv3]) h9 rfl rfl Z26 rfl (Nat.le_of_ble_eq_true rfl) (by simp only [List.all_cons, List.all_nil, h4.one, h5.one, Bool.and_true, Bool.true_and] <;> rfl) rfl rfl rfl ?_)
 rintro S (h12 : Box (.ptr i3 0) [pv2, pv3] _) u4
 have h13 := u4.box h10 ap2
 have h14 := u4.box h11 ap3
 refine Opl.p1 (n := Opl.nil (Evr.sr rfl (Opl.p1 (n := Opl.ldb (v := .agg [pv2, pv3]) h12 rfl T26 rfl rfl rfl rfl ?_))))
 obtain ⟨r2, h_r2, H⟩ := Option.bind_eq_some_iff.1 H
 refine Opl.calls (spec_l4Some.evb h2 h14 h4 h5 h_r2) rfl rfl rfl rfl rfl ?_
 rintro pv5 S ⟨h15, h16, u5⟩
 have h17 := u5.box h13 (ap1).pt
 have h18 := u5.box h12 (ap3.symm).pt
 refine Opl.p1 (n := Opl.nil (Evr.seq (Evr.sr rfl (Opl.ldb (v := .agg [pv2, pv3]) h18 rfl T26 rfl rfl rfl rfl (Opl.p1 (n := ?_))))))
 obtain ⟨r3, h_r3, H⟩ := Option.bind_eq_some_iff.1 H
 refine Opl.callc (spec_SetValid.ev h4 h5 h15 h_r3) rfl rfl rfl rfl ⟨(.aggL ⟨h4.plain, h5.plain, trivial⟩), h15.plain, trivial⟩ (by decide) (Opl.p1 (n := ?_))
 by_cases c1 : r3 = true
 case neg =>
  rw [if_neg c1] at H
  obtain rfl : r3 = false := by simpa using c1
  refine Opl.skp rfl (Opl.skp rfl (Opl.skp rfl (Opl.p1 (n := Opl.nil (Evr.condF rfl (Evr.skip (Evr.sr rfl (Opl.ldb (v := .agg [pv2, pv3]) h18 rfl T26 rfl rfl rfl rfl (Opl.p1 (n := Opl.p1 (n := ?_)))))))))))
  obtain _ | k3 := k
  · simp [spec_DrawWidened.j1] at H
  simp only [spec_DrawWidened.j1] at H
  refine Opl.stb (vs := [pv2, pv3]) h17 rfl rfl Z26 rfl (Nat.le_of_ble_eq_true rfl) (by simp only [List.all_cons, List.all_nil, h4.one, h5.one, Bool.and_true, Bool.true_and] <;> rfl) rfl rfl rfl ?_
  rintro S (h29 : Box (.ptr i1 0) [pv2, pv3] _) u8
  have h30 := u8.box h16 ap1.symm
  have h31 := u8.box h18 ap2.symm
  refine Opl.p1 (n := Opl.p1 (n := Opl.nil ?_))
  obtain rfl := Option.some.inj H
  refine Evr.ret_ctt (v0 := .agg [pv2, pv3]) Try.func41 rfl h29 rfl T26 rfl ?_
  show Out _ (.tup [.agg [pv2, pv3], pv4, pv5]) _
  exact .tup3 (.agg2 (.sl h4) (.sl h5)) (.sl h6) (.sl h15)
 rw [if_pos c1] at H
 obtain rfl : r3 = true := by simpa using c1
 refine Opl.p1 (n := ?_)
 obtain ⟨r4, h_r4, H⟩ := Option.bind_eq_some_iff.1 H
 refine Opl.calls (spec_l40Rd_pick.evb h2 h16 h_r4) rfl rfl rfl rfl rfl ?_
 rintro _ S ⟨rfl, h19, u6⟩
 have h20 := u6.box h17 (ap1).pt
 have h21 := u6.box h18 (ap3.symm).pt
 refine Opl.p1 (n := Opl.p1 (n := Opl.nil ?_))
 refine Evr.join (fun tm S => ∃ (kq1 : Nat) (x8q3_1 : List Int) (i4 : Abs.Id) (i5 : Abs.Id) (pv6 : PV), spec_DrawWidened.j2 kq1 x8q3_1 r1 = some r ∧ Has tm [(2, .ptr i4 0), (6, .ptr i5 0), (7, pv4), (8, pv6)] ∧ Box (.ptr i4 0) [.lit (.slice none 0 0), .lit (.slice none 0 0)] S ∧ Box (.ptr i5 0) [pv2, pv3] S ∧ Sl (cInt .i64) x8q3_1 pv6 ∧ Ap (.ptr i4 0) (.ptr i5 0)) ?_ fun hk1 => ?_
 ·
  rintro tm S ⟨kq1, x8q3_1, i4, i5, pv6, H, hh, h22, h23, h24, ap4⟩
  rw [hh.eq]
  refine Evr.sr rfl (Opl.ldb (v := .agg [pv2, pv3]) h23 rfl T26 rfl rfl rfl rfl (Opl.p1 (n := Opl.p1 (n := ?_))))
  obtain _ | k1 := kq1
  · simp [spec_DrawWidened.j2] at H
  simp only [spec_DrawWidened.j2] at H
  obtain _ | k2 := k1
  · simp [spec_DrawWidened.j1] at H
  simp only [spec_DrawWidened.j1] at H
  refine Opl.stb (vs := [pv2, pv3]) h22 rfl rfl Z26 rfl (Nat.le_of_ble_eq_true rfl) (by simp only [List.all_cons, List.all_nil, h4.one, h5.one, Bool.and_true, Bool.true_and] <;> rfl) rfl rfl rfl ?_
  rintro S (h25 : Box (.ptr i4 0) [pv2, pv3] _) u7
  have h26 := u7.box h23 ap4.symm
  refine Opl.p1 (n := Opl.p1 (n := Opl.nil ?_))
  obtain rfl := Option.some.inj H
  refine Evr.ret_ctt (v0 := .agg [pv2, pv3]) Try.func41 rfl h25 rfl T26 rfl ?_
  show Out _ (.tup [.agg [pv2, pv3], pv4, pv6]) _
  exact .tup3 (.agg2 (.sl h4) (.sl h5)) (.sl h6) (.sl h24)
 ·
  by_cases c2 : r4.2 > 0
  case neg =>
   rw [if_neg c2] at H
   have e2 : (decide (r4.2 > 0)) = false := by simpa using c2
   try rw [e2]
   refine Evr.condF rfl (Evr.skip ?_)
   exact hk1 _ _ ⟨_, _, _, _, _, H, ⟨rfl, rfl, rfl, rfl, trivial⟩, h20, h21, h15, ap2⟩
  rw [if_pos c2] at H
  have e1 : (decide (r4.2 > 0)) = true := by simpa using c2
  try rw [e1]
  refine Evr.condT rfl (Evr.regionN rfl (Opl.p1 (n := Opl.ldb (v := .agg [pv2, pv3]) h21 rfl T26 rfl rfl rfl rfl (Opl.p1 (n := ?_)))))
  obtain ⟨r5, h_r5, H⟩ := Option.bind_eq_some_iff.1 H
  refine Opl.call ((spec_CubeStates.ev h4 h5 h6 h_r5).mono fun _ _ h => Out.vec h) rfl rfl rfl rfl ⟨(.aggL ⟨h4.plain, h5.plain, trivial⟩), h6.plain, trivial⟩ (by decide) ?_
  rintro pv7 h27
  obtain ⟨r6, h_r6, H⟩ := Option.bind_eq_some_iff.1 H
  refine Opl.call ((spec_SetWithout.ev h15 h27 h_r6).mono fun _ _ h => Out.vec h) rfl rfl rfl rfl ⟨h15.plain, h27.plain, trivial⟩ (by decide) ?_
  rintro pv8 h28
  refine Opl.p1 (n := Opl.nil ?_)
  exact hk1 _ _ ⟨_, _, _, _, _, H, ⟨rfl, rfl, rfl, rfl, trivial⟩, h20, h21, h28, ap2⟩
theorem spec_SetBoth.ev {k : Nat} {l0 : List Int} {v0 : PV} (hv0 : Sl (cInt .i64) l0 v0) {l1 : List Int} {v1 : PV} (hv1 : Sl (cInt .i64) l1 v1) {r : (List Int)} (H : spec_SetBoth.f k l0 l1 = some r) : Ret Try.prog 140 [v0, v1] fun v S => Vec (cInt .i64) r v S := by
 unfold spec_SetBoth.f at H
 refine Ret.intro Try.func140 rfl (Nat.le_of_ble_eq_true rfl) rfl ?_
 rw [tm2]
 refine Evr.sr rfl (Opl.p1 (n := Opl.nil (Evr.sr rfl (Opl.p1 (n := Opl.p1 (n := ?_))))))
 obtain ⟨r1, h_r1, H⟩ := Option.bind_eq_some_iff.1 H
 refine Opl.calla (spec_l4Mix.ev hv0 hv1 h_r1) rfl rfl rfl rfl ⟨hv0.plain, hv1.plain, (.lit _), trivial⟩ rfl ?_
 rintro pv1 S h1 u1 w1
 refine Opl.p1 (n := Opl.nil ?_)
 obtain rfl := Option.some.inj H
 refine Evr.ret1 Try.func140 rfl ?_
 show Vec _ _ pv1 _
 exact h1
theorem spec_l16Wide.ev {k : Nat} {l0_0 : List IVar} {v0_0 : PV} (hv0_0 : Sl cIVar l0_0 v0_0) {l0_1 : List IRule} {v0_1 : PV} (hv0_1 : Sl cIRule l0_1 v0_1) {l1 : List Int} {v1 : PV} (hv1 : Sl (cInt .i64) l1 v1) {l2 : List Int} {v2 : PV} (hv2 : Sl (cInt .i64) l2 v2) {r : (List Int)} (H : spec_l16Wide.f k l0_0 l0_1 l1 l2 = some r) : Ret Try.prog 103 [.agg [v0_0, v0_1], v1, v2] fun v S => Vec (cInt .i64) r v S := by
 unfold spec_l16Wide.f at H
 refine Ret.intro Try.func103 rfl (Nat.le_of_ble_eq_true rfl) rfl ?_
 rw [tm3]
 refine Evr.sr rfl (Opl.box (cs := [v0_0, v0_1]) rfl rfl rfl rfl ?_)
 rintro i1 S h1 u1 w1
 refine Opl.p1 (n := Opl.nil (Evr.sr rfl (Opl.p1 (n := ?_))))
 obtain ⟨r1, h_r1, H⟩ := Option.bind_eq_some_iff.1 H
 refine Opl.calla (spec_l3Copy.ev hv1 h_r1) rfl rfl rfl rfl ⟨hv1.plain, trivial⟩ rfl ?_
 rintro pv1 S h2 u2 w2
 have ap1 := w2.box h1
 have h3 := u2.box h1 ap1
 refine Opl.p1 (n := Opl.nil (Evr.seq (Evr.sr rfl (Opl.p1 (n := Opl.nil (Evr.block ?_))))))
 refine Evr.loop (Evr.rounds (n := k) (Inv := fun n tm S => n ≤ k ∧ ∃ (x7_1 : List Int) (x8_1 : Int) (i2 : Abs.Id) (pv2 : PV), spec_l16Wide.l1 n x7_1 x8_1 l0_0 l0_1 l2 = some r ∧ Has tm [(2, v2), (3, .ptr i2 0), (7, pv2), (8, .lit (.int .i64 x8_1))] ∧ Box (.ptr i2 0) [v0_0, v0_1] S ∧ Vec (cInt .i64) x7_1 pv2 S ∧ Ap (.ptr i2 0) pv2) ?_ ?_ ?_)
 · exact ⟨Nat.le_refl _, _, _, _, _, H, ⟨rfl, rfl, rfl, rfl, trivial⟩, h3, h2, ap1⟩
 ·
  rintro tm S ⟨_, _, _, _, _, H, -⟩
  simp [spec_l16Wide.l1] at H
 ·
  rintro n1 ih1 tm S ⟨hle, x7_1, x8_1, i2, pv2, H, hh, h4, h5, ap2⟩
  simp only [spec_l16Wide.l1] at H
  rw [hh.eq]
  refine Evr.seq (Evr.sr rfl (Opl.p1 (n := Opl.p1 (n := Opl.lenv (xs := x7_1) (by exact h5) K29 rfl rfl rfl rfl (Opl.p1 (n := Opl.nil ?_))))))
  by_cases c1 : x8_1 < (x7_1.length : Int)
  case neg =>
   rw [if_neg c1] at H
   have e4 : (decide (x8_1 < (x7_1.length : Int))) = false := by simpa using c1
   try rw [e4]
   refine Evr.condF rfl (Evr.exit rfl (Evr.sr rfl (Opl.p1 (n := Opl.p1 (n := Opl.nil ?_)))))
   obtain rfl := Option.some.inj H
   refine Evr.ret1 Try.func103 rfl ?_
   show Vec _ _ pv2 _
   exact h5
  rw [if_pos c1] at H
  have e1 : (decide (x8_1 < (x7_1.length : Int))) = true := by simpa using c1
  try rw [e1]
  refine Evr.condT rfl (Evr.skip (Evr.seq (Evr.block (Evr.sr rfl (Opl.p1 (n := ?_))))))
  obtain ⟨r2, h_r2, H⟩ := Option.bind_eq_some_iff.1 H
  obtain ⟨pv3, h6, -, h7⟩ := Out.vec h5
  refine Opl.callav (sInt .i64) (spec_l3Copy.ev h7 h_r2) rfl rfl rfl (.cons h6 .nil) ⟨h7.plain, trivial⟩ rfl ?_
  rintro pv4 S h8 u3 w3
  have ap3 := w3.box h4
  have h9 := u3.box h4 ap3
  have ap4 := w3.vec h5
  have h10 := u3.vec h5 ap4
  refine Opl.p1 (n := Opl.nil (Evr.sr rfl (Opl.p1 (n := Opl.p1 (n := ?_)))))
  obtain ⟨c2, H⟩ := peel H
  obtain ⟨c3, H⟩ := peel H
  refine Opl.idv (M := (cInt .i64)) (xs := r2) (j := x8_1) (v := pv4) h8 rfl rfl (by omega) (by omega) K29 Z3 rfl rfl ?_
  rintro d1 z1 q1 h11 h12
  refine Opl.stv (M := (cInt .i64)) (xs := r2) (j := x8_1) (y := 2) (vs := [.lit (.int .i64 2)]) h11 h12 (by omega) (by omega) rfl rfl (by exact rfl) Z3 rfl rfl rfl rfl ?_
  rw [← q1]
  rintro S h13 u4
  have h14 := u4.box h9 ap3
  have h15 := u4.vec h10 ap4
  refine Opl.nil (Evr.sr rfl (Opl.ldb (v := .agg [v0_0, v0_1]) h14 rfl T26 rfl rfl rfl rfl (Opl.p1 (n := ?_))))
  obtain ⟨r3, h_r3, H⟩ := Option.bind_eq_some_iff.1 H
  obtain ⟨pv5, h16, -, h17⟩ := Out.vec h13
  refine Opl.callv (sInt .i64) (spec_l16States.ev hv0_0 hv0_1 h17 h_r3) rfl rfl rfl (.cons (.refl _) (.cons h16 .nil)) ⟨(.aggL ⟨hv0_0.plain, hv0_1.plain, trivial⟩), h17.plain, trivial⟩ (by decide) ?_
  rintro pv6 h18
  refine Opl.p1 (n := ?_)
  obtain ⟨r4, h_r4, H⟩ := Option.bind_eq_some_iff.1 H
  refine Opl.call ((spec_SetBoth.ev h18 hv2 h_r4).mono fun _ _ h => Out.vec h) rfl rfl rfl rfl ⟨h18.plain, hv2.plain, trivial⟩ (by decide) ?_
  rintro pv7 h19
  refine Opl.len (xs := r4) (by exact h19) K29 rfl rfl rfl rfl (Opl.p1 (n := Opl.nil ?_))
  refine Evr.join (fun tm S => ∃ (kq1 : Nat) (x7_2 : List Int) (i3 : Abs.Id) (pv8 : PV), spec_l16Wide.l1 kq1 x7_2 (wrap64 (x8_1 + 1)) l0_0 l0_1 l2 = some r ∧ kq1 ≤ n1 ∧ Has tm [(2, v2), (3, .ptr i3 0), (7, pv8), (8, .lit (.int .i64 x8_1))] ∧ Box (.ptr i3 0) [v0_0, v0_1] S ∧ Vec (cInt .i64) x7_2 pv8 S ∧ Ap (.ptr i3 0) pv8) ?_ fun hk1 => ?_
  ·
   rintro tm S ⟨kq1, x7_2, i3, pv8, H, hle, hh, h20, h21, ap5⟩
   rw [hh.eq]
   refine Evr.inBlock (Evr.regionN rfl (Opl.p1 (n := Opl.add (k := .i64) (a := x8_1) (b := 1) K3 rfl rfl rfl rfl (Opl.one (v := .lit (.int .i64 (wrap64 (x8_1 + 1)))) rfl rfl rfl (Opl.nil ?_)))))
   exact ih1 _ (by omega) _ _ ⟨by omega, _, _, _, _, H, ⟨rfl, rfl, rfl, rfl, trivial⟩, h20, h21, ap5⟩
  ·
   by_cases c4 : (r4.length : Int) = 0
   case neg =>
    rw [if_neg c4] at H
    have e3 : ((r4.length : Int) == 0) = false := by simpa using c4
    try rw [e3]
    refine Evr.condF rfl (Evr.skip ?_)
    exact hk1 _ _ ⟨_, _, _, _, H, by omega, ⟨rfl, rfl, rfl, rfl, trivial⟩, h14, h15, ap2⟩
   rw [if_pos c4] at H
   have e2 : ((r4.length : Int) == 0) = true := by simpa using c4
   try rw [e2]
   refine Evr.condT rfl (Evr.regionN rfl (Opl.p1 (n := Opl.p1 (n := Opl.nil ?_))))
   exact hk1 _ _ ⟨_, _, _, _, H, by omega, ⟨rfl, rfl, rfl, rfl, trivial⟩, h14, h13, ap3⟩
theorem spec_Widened.ev {k : Nat} {l0_0 : List IVar} {v0_0 : PV} (hv0_0 : Sl cIVar l0_0 v0_0) {l0_1 : List IRule} {v0_1 : PV} (hv0_1 : Sl cIRule l0_1 v0_1) {l1 : List Int} {v1 : PV} (hv1 : Sl (cInt .i64) l1 v1) {l2 : List Int} {v2 : PV} (hv2 : Sl (cInt .i64) l2 v2) {r : (List Int)} (H : spec_Widened.f k l0_0 l0_1 l1 l2 = some r) : Ret Try.prog 43 [.agg [v0_0, v0_1], v1, v2] fun v S => Vec (cInt .i64) r v S := by
 unfold spec_Widened.f at H
 refine Ret.intro Try.func43 rfl (Nat.le_of_ble_eq_true rfl) rfl ?_
 rw [tm3]
 refine Evr.sr rfl (Opl.box (cs := [v0_0, v0_1]) rfl rfl rfl rfl ?_)
 rintro i1 S h1 u1 w1
 refine Opl.p1 (n := Opl.nil (Evr.seq (Evr.sr rfl (Opl.ldb (v := .agg [v0_0, v0_1]) h1 rfl T26 rfl rfl rfl rfl (Opl.p1 (n := ?_))))))
 obtain ⟨r1, h_r1, H⟩ := Option.bind_eq_some_iff.1 H
 refine Opl.callc (spec_l16Cube.ev hv0_0 hv0_1 hv1 h_r1) rfl rfl rfl rfl ⟨(.aggL ⟨hv0_0.plain, hv0_1.plain, trivial⟩), hv1.plain, trivial⟩ (by decide) (Opl.p1 (n := Opl.p1 (n := ?_)))
 by_cases c1 : r1 = true
 case neg =>
  rw [if_neg c1] at H
  have e4 : (!r1) = true := by simpa using c1
  try rw [e4]
  refine Opl.skp rfl (Opl.skp rfl (Opl.skp rfl (Opl.skp rfl (Opl.p1 (n := Opl.nil (Evr.condT rfl (Evr.sr rfl (Opl.p1 (n := Opl.nil ?_)))))))))
  obtain rfl := Option.some.inj H
  refine Evr.ret1 Try.func43 rfl ?_
  show Vec _ _ (.lit (.slice none 0 0)) _
  exact .nil
 rw [if_pos c1] at H
 have e1 : (!r1) = false := by simpa using c1
 try rw [e1]
 refine Opl.ldb (v := .agg [v0_0, v0_1]) h1 rfl T26 rfl rfl rfl rfl (Opl.p1 (n := ?_))
 obtain ⟨r2, h_r2, H⟩ := Option.bind_eq_some_iff.1 H
 refine Opl.callc (spec_SetValid.ev hv0_0 hv0_1 hv2 h_r2) rfl rfl rfl rfl ⟨(.aggL ⟨hv0_0.plain, hv0_1.plain, trivial⟩), hv2.plain, trivial⟩ (by decide) (Opl.p1 (n := Opl.p1 (n := Opl.nil ?_)))
 by_cases c2 : r2 = true
 case neg =>
  rw [if_neg c2] at H
  have e3 : (!r2) = true := by simpa using c2
  try rw [e3]
  refine Evr.condT rfl (Evr.sr rfl (Opl.p1 (n := Opl.nil ?_)))
  obtain rfl := Option.some.inj H
  refine Evr.ret1 Try.func43 rfl ?_
  show Vec _ _ (.lit (.slice none 0 0)) _
  exact .nil
 rw [if_pos c2] at H
 have e2 : (!r2) = false := by simpa using c2
 try rw [e2]
 refine Evr.condF rfl (Evr.skip (Evr.sr rfl (Opl.ldb (v := .agg [v0_0, v0_1]) h1 rfl T26 rfl rfl rfl rfl (Opl.p1 (n := Opl.p1 (n := ?_))))))
 obtain ⟨r3, h_r3, H⟩ := Option.bind_eq_some_iff.1 H
 refine Opl.calla (spec_l16Wide.ev hv0_0 hv0_1 hv1 hv2 h_r3) rfl rfl rfl rfl ⟨(.aggL ⟨hv0_0.plain, hv0_1.plain, trivial⟩), hv1.plain, hv2.plain, trivial⟩ rfl ?_
 rintro pv1 S h2 u2 w2
 have ap1 := w2.box h1
 have h3 := u2.box h1 ap1
 refine Opl.p1 (n := Opl.nil ?_)
 obtain rfl := Option.some.inj H
 refine Evr.ret1 Try.func43 rfl ?_
 show Vec _ _ pv1 _
 exact h2
end Go.Proofs.Ytjgonefohfldjaa.PA
