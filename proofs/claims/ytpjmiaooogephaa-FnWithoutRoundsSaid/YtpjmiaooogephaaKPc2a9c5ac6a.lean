/- Walks of Go functions: each is shown to answer as the Lean function beside it tells, under the conditions that its theorem names. -/
import Derived.Test.YtpjmiaooogephaaProg
import Derived.KernelRfl
import Derived.Below
import Derived.Deep.Draws
import Derived.Deep.AppendLies
import Derived.Maps.AppendAt
import Derived.OwnWalk
import Derived.Laws.BytesArg
import Derived.Laws.MakeOwn
import Derived.Laws.OwnMore
import Derived.Deep.OwnRows
import Derived.Tactics
import Derived.Lib.ConvBytes
import Derived.Laws.Slices
import Derived.WalkKit
import Derived.RowKit3
import Derived.Deep.LoopGhost
import Derived.Deep.QuietTactic
import Derived.BigQuiet
import Derived.WideLaws
import Derived.Deep.DeepCutAuto
import Derived.Deep.CutBlock
import Derived.Deep.RegionHeld3
import Derived.Laws.Rows
import Derived.Lib.AppendStr
import Derived.ArgAppend
import Derived.Laws.IdiomCopy
import Derived.OrdersHeld
import Derived.Laws.BitsLemmas
import Derived.RowKit
import Derived.Laws.StructEq
import Derived.Lib.SliceRun
import Derived.WalkSpells
import Derived.ChangeArms
import Derived.ChangeSlices
import Derived.Deep.Slices
import Derived.Attr
import Derived.Laws.Append
import Derived.Laws.AppendOwn
import Derived.Laws.Entries
import Derived.Calls
import Derived.Laws.Sem
import Derived.Test.YtpjmiaooogephaaKP600518db15
namespace Go.Proofs.Ytpjmiaooogephaa.PA
open Go Go.Abs Go.RowKit Go.Proofs Go.Proofs.YtpjmiaooogephaaW.PrintWords Go.Proofs.YtpjmiaooogephaaW.PrintLast Go.Proofs.YtpjmiaooogephaaW.PrintMore
set_option maxRecDepth 100000
set_option maxHeartbeats 4000000
set_option linter.unusedVariables false
set_option linter.unusedSimpArgs false
theorem spec_l2Any.evb {k : Nat} {S0 : Sto} {l0_0 : List Int} {a0_1 : Int} {i0 : Abs.Id} {q0 : PV} (hq0 : Sl (cInt .u8) l0_0 q0) (hb0 : Box (.ptr i0 0) [q0, .lit (.int .i64 a0_1)] S0) {a1 : Int} {r : Int × (List IVar × List IRule)} (H : spec_l2Any.f k l0_0 a0_1 a1 = some r) : RetS Try.prog 49 [.ptr i0 0, .lit (.int .i64 a1)] S0 fun v S => ∃ v_0 v_1, v = .agg [v_0, v_1] ∧ Sl cIVar r.2.1 v_0 ∧ Sl cIRule r.2.2 v_1 ∧ Box (.ptr i0 0) [q0, .lit (.int .i64 r.1)] S ∧ Same S0 S [i0] := by
 have hs0 : Same S0 S0 [i0] := .refl _ _
 unfold spec_l2Any.f at H
 refine RetS.intro Try.func49 rfl (Nat.le_of_ble_eq_true rfl) rfl ?_
 rw [tm2]
 refine Evr.sr rfl (Opl.alloc T26 rfl rfl rfl ?_)
 rintro i1 S h1 u1 w1
 have ap1 := w1.sameP hs0
 have h2 := u1.sameP hs0 ap1
 have ap2 := w1.box hb0
 have h3 := u1.box hb0 ap2
 refine Opl.nil (Evr.sr rfl (Opl.p1 (n := Opl.p1 (n := ?_))))
 obtain ⟨r1, h_r1, H⟩ := obs H
 refine Opl.calls (spec_l2System.evb hq0 h3 h_r1) rfl rfl rfl rfl rfl ?_
 rintro _ S ⟨pv1, pv2, ids1, rfl, h4, w2, h5, f1, ap3, h6, u2⟩
 have h7 := u2.sameP h2 OutT.box
 have h8 := u2.box h1 (ap2.symm).pt
 have ap4 := w2.sameP h2
 have ap5 := w2.box h3
 have ap6 := w2.box h1
 have ap7 := f1.sameP h2
 have ap8 := f1.box h3
 have ap9 := f1.box h1
 refine Opl.alloc T26 rfl rfl rfl ?_
 rintro i2 S h9 u3 w3
 have ap10 := w3.sameP h7
 have h10 := u3.sameP h7 ap10
 have ap11 := w3.box h6
 have h11 := u3.box h6 ap11
 have ap12 := w3.box h8
 have h12 := u3.box h8 ap12
 have ap13 := w3.vec h4
 have h13 := u3.vec h4 ap13
 have ap14 := w3.tree h5
 have h14 := u3.tree h5 ap14
 refine Opl.stb (vs := [pv1, pv2]) h9 rfl rfl Z26 rfl (Nat.le_of_ble_eq_true rfl) (by simp only [List.all_cons, List.all_nil, Vec.one h13, oRow_p1 h14, Bool.and_true, Bool.true_and] <;> rfl) rfl rfl rfl ?_
 rintro S (h15 : Box (.ptr i2 0) [pv1, pv2] _) u4
 have h16 := u4.sameP h10 ap10
 have h17 := u4.box h11 ap11
 have h18 := u4.box h12 ap12
 have h19 := u4.vec h13 ap13
 have h20 := u4.tree h14 ap14
 refine Opl.nil (Evr.seq (Evr.sr rfl (Opl.p1 (n := ?_))))
 obtain ⟨r2, h_r2, H⟩ := obs H
 refine Opl.calls (spec_l40Rd_pick.evb hq0 h17 h_r2) rfl rfl rfl rfl rfl ?_
 rintro _ S ⟨rfl, h21, u5⟩
 have h22 := u5.sameP h16 OutT.box
 have h23 := u5.box h18 (ap2.symm).pt
 have h24 := u5.vec h19 (ap5.symm).pt
 have h25 := u5.tree h20 (ap8).pt
 have h26 := u5.box h15 (ap11.symm).pt
 refine Opl.p1 (n := Opl.nil ?_)
 by_cases c1 : r2.2 = 0
 case neg =>
  rw [if_neg c1] at H
  have e34 : (r2.2 == 0) = false := by simpa using c1
  try rw [e34]
  refine Evr.condF rfl (Evr.skip (Evr.seq (Evr.frzc [] [pv2] h26 h24 ap13 ?_)))
  rintro pv89 S1_ S h560 u104 u105 h561
  have h562 := u105.sameP (u104.sameP h22 ap4) ap10
  have h563 := u105.box (u104.box h21 ap5) ap11
  have h564 := u105.box (u104.box h23 ap6) ap12
  have h565 := u105.tree (u104.tree h25 ap3) ap14
  have h566 : Sl cIVar r1.2.1 pv89 := h560
  have h567 : Box (.ptr i2 0) [pv89, pv2] S := h561
  refine Evr.frzcT [pv89] [] h567 h565 ap14 ?_
  rintro pv90 S1_ S h568 u106 u107 h569
  have h570 := u107.sameP (u106.sameP h562 ap7) ap10
  have h571 := u107.box (u106.box h563 ap8) ap11
  have h572 := u107.box (u106.box h564 ap9) ap12
  have h573 : Sl cIRule r1.2.2 pv90 := h568
  have h574 : Box (.ptr i2 0) [pv89, pv90] S := h569
  refine Evr.regionN rfl (Opl.ldb (v := .agg [pv89, pv90]) h574 rfl T26 rfl rfl rfl rfl (Opl.stb (vs := [pv89, pv90]) h572 rfl rfl Z26 rfl (Nat.le_of_ble_eq_true rfl) (by simp only [List.all_cons, List.all_nil, h566.one, h573.one, Bool.and_true, Bool.true_and] <;> rfl) rfl rfl rfl ?_))
  rintro S (h575 : Box (.ptr i1 0) [pv89, pv90] _) u108
  have h576 := u108.sameP h570 ap1
  have h577 := u108.box h571 ap2
  have h578 := u108.box h574 ap12.symm
  refine Opl.nil ?_
  obtain rfl := sinj H
  refine Evr.retb (v := .agg [pv89, pv90]) Try.func49 rfl h575 rfl T26 rfl ?_
  exact ⟨_, _, rfl, h566, h573, h577, h576⟩
 rw [if_pos c1] at H
 have e1 : (r2.2 == 0) = true := by simpa using c1
 try rw [e1]
 refine Evr.condT rfl (Evr.sr rfl (Opl.p1 (n := ?_)))
 obtain ⟨r3, h_r3, H⟩ := obs H
 refine Opl.calls (spec_l40Rd_pick.evb hq0 h21 h_r3) rfl rfl rfl rfl rfl ?_
 rintro _ S ⟨rfl, h27, u6⟩
 have h28 := u6.sameP h22 OutT.box
 have h29 := u6.box h23 (ap2.symm).pt
 have h30 := u6.vec h24 (ap5.symm).pt
 have h31 := u6.tree h25 (ap8).pt
 have h32 := u6.box h26 (ap11.symm).pt
 refine Opl.p1 (n := Opl.nil (Evr.sr rfl (Opl.p1 (n := Opl.p1 (n := Opl.nil ?_)))))
 by_cases c2 : r3.2 = 0
 case pos =>
  rw [if_pos c2] at H
  have e2 : (r3.2 == 0) = true := by simpa using c2
  try rw [e2]
  refine Evr.condT rfl (Evr.regionL [(1, .q), (3, .q), (6, .q)] rfl (by kernel_rfl) (Opl.p1 (v := .ptr i2 0) (n := Opl.ldbk (v := pv1) h32 (rd_tre h31) rfl T23 rfl rfl rfl rfl (Opl.p1 (v := .ptr i2 0) (n := Opl.ldbk (v := pv1) h32 (rd_tre h31) rfl T23 rfl rfl rfl rfl ?_)))))
  obtain ⟨c3, H⟩ := peel H
  obtain ⟨c4, H⟩ := peel H
  refine Opl.idv (M := cIVar) (xs := r1.2.1) (j := (0 : Int)) (v := pv1) h30 rfl rfl (by first | omega | (simp only [List.length_set] at *; omega)) (by first | omega | (simp only [List.length_set] at *; omega)) K23 Z101 rfl rfl ?_
  rintro d1 z1 q1 h33 h34
  refine Opl.p1 (v := .ptr d1 ((0 : Int).toNat * cIVar.n + 1)) (n := Opl.ldvk (M := cIVar) (xs := r1.2.1) (j := (0 : Int)) 1 zIVar h33 h34 (by first | omega | (simp only [List.length_set] at *; omega)) (by first | omega | (simp only [List.length_set] at *; omega)) (by decide) rfl T3 rfl rfl rfl ?_)
  rintro p1 q2 h35
  obtain rfl := cIVar_R (x := (rd_IVar r1.2.1 (0 : Int))) h35
  refine ⟨.lit (.int .i64 ((rd_IVar r1.2.1 (0 : Int)).f1)), rfl, ?_⟩
  refine Opl.add (k := .i64) (a := ((rd_IVar r1.2.1 (0 : Int)).f1)) (b := 1) K3 rfl rfl rfl rfl (Opl.idv (M := cIVar) (xs := r1.2.1) (j := (0 : Int)) (v := pv1) h30 rfl rfl (by first | omega | (simp only [List.length_set] at *; omega)) (by first | omega | (simp only [List.length_set] at *; omega)) K23 Z101 rfl rfl ?_)
  rintro d2 z2 q3 h36 h37
  refine Opl.p1 (v := .ptr d2 ((0 : Int).toNat * cIVar.n + 2)) (n := Opl.stvf (M := cIVar) (xs := r1.2.1) (j := (0 : Int)) (y := (⟨(rd_IVar r1.2.1 (0 : Int)).f0, (rd_IVar r1.2.1 (0 : Int)).f1, (wrap64 (((rd_IVar r1.2.1 (0 : Int)).f1) + 1))⟩ : IVar)) (vs := [.lit (.int .i64 (wrap64 (((rd_IVar r1.2.1 (0 : Int)).f1) + 1)))]) 2 zIVar h36 h37 (by first | omega | (simp only [List.length_set] at *; omega)) (by first | omega | (simp only [List.length_set] at *; omega)) rfl rfl (by intro c hc; obtain rfl := cIVar_R (x := (rd_IVar r1.2.1 (0 : Int))) hc; exact cIVar_mk) Z3 rfl (by decide) rfl rfl rfl rfl ?_)
  rw [← q3]
  rintro S h38 u7
  have h39 := u7.sameP h28 ap4
  have h40 := u7.box h27 ap5
  have h41 := u7.box h29 ap6
  have h42 := u7.tree h31 ap3
  have h43 := u7.box h32 ap13.symm
  refine Opl.nil (Evr.seq (Evr.frzc [] [pv2] h43 h38 ap13 ?_))
  rintro pv3 S1_ S h44 u8 u9 h45
  have h46 := u9.sameP (u8.sameP h39 ap4) ap10
  have h47 := u9.box (u8.box h40 ap5) ap11
  have h48 := u9.box (u8.box h41 ap6) ap12
  have h49 := u9.tree (u8.tree h42 ap3) ap14
  have h50 : Sl cIVar (r1.2.1.set (0 : Int).toNat (⟨(rd_IVar r1.2.1 (0 : Int)).f0, (rd_IVar r1.2.1 (0 : Int)).f1, (wrap64 (((rd_IVar r1.2.1 (0 : Int)).f1) + 1))⟩ : IVar)) pv3 := h44
  have h51 : Box (.ptr i2 0) [pv3, pv2] S := h45
  refine Evr.frzcT [pv3] [] h51 h49 ap14 ?_
  rintro pv4 S1_ S h52 u10 u11 h53
  have h54 := u11.sameP (u10.sameP h46 ap7) ap10
  have h55 := u11.box (u10.box h47 ap8) ap11
  have h56 := u11.box (u10.box h48 ap9) ap12
  have h57 : Sl cIRule r1.2.2 pv4 := h52
  have h58 : Box (.ptr i2 0) [pv3, pv4] S := h53
  refine Evr.regionN rfl (Opl.ldb (v := .agg [pv3, pv4]) h58 rfl T26 rfl rfl rfl rfl (Opl.stb (vs := [pv3, pv4]) h56 rfl rfl Z26 rfl (Nat.le_of_ble_eq_true rfl) (by simp only [List.all_cons, List.all_nil, h50.one, h57.one, Bool.and_true, Bool.true_and] <;> rfl) rfl rfl rfl ?_))
  rintro S (h59 : Box (.ptr i1 0) [pv3, pv4] _) u12
  have h60 := u12.sameP h54 ap1
  have h61 := u12.box h55 ap2
  have h62 := u12.box h58 ap12.symm
  refine Opl.nil ?_
  obtain rfl := sinj H
  refine Evr.retb (v := .agg [pv3, pv4]) Try.func49 rfl h59 rfl T26 rfl ?_
  exact ⟨_, _, rfl, h50, h57, h61, h60⟩
 rw [if_neg c2] at H
 have e3 : (r3.2 == 0) = false := by simpa using c2
 try rw [e3]
 refine Evr.condF rfl (Evr.sr rfl (Opl.p1 (n := Opl.p1 (n := Opl.nil ?_))))
 by_cases c5 : r3.2 = 1
 case pos =>
  rw [if_pos c5] at H
  have e4 : (r3.2 == 1) = true := by simpa using c5
  try rw [e4]
  refine Evr.condT rfl (Evr.regionL [(9, .m), (8, .p), (1, .q), (3, .q), (6, .q)] rfl (by kernel_rfl) (Opl.p1 (v := .ptr i2 0) (n := Opl.ldbk (v := pv1) h32 (rd_tre h31) rfl T23 rfl rfl rfl rfl (Opl.p1 (v := .ptr i2 0) (n := Opl.ldbk (v := pv1) h32 (rd_tre h31) rfl T23 rfl rfl rfl rfl ?_)))))
  obtain ⟨c6, H⟩ := peel H
  refine Opl.idv (M := cIVar) (xs := r1.2.1) (j := (0 : Int)) (v := pv1) h30 rfl rfl (by first | omega | (simp only [List.length_set] at *; omega)) (by first | omega | (simp only [List.length_set] at *; omega)) K23 Z101 rfl rfl ?_
  rintro d3 z3 q4 h63 h64
  refine Opl.p1 (v := .ptr d3 ((0 : Int).toNat * cIVar.n + 0)) (n := Opl.ldvk (M := cIVar) (xs := r1.2.1) (j := (0 : Int)) 0 zIVar h63 h64 (by first | omega | (simp only [List.length_set] at *; omega)) (by first | omega | (simp only [List.length_set] at *; omega)) (by decide) rfl T3 rfl rfl rfl ?_)
  rintro p2 q5 h65
  obtain rfl := cIVar_R (x := (rd_IVar r1.2.1 (0 : Int))) h65
  refine ⟨.lit (.int .i64 ((rd_IVar r1.2.1 (0 : Int)).f0)), rfl, ?_⟩
  refine Opl.p1 (n := Opl.liti (M := (cInt .i64)) (ys := [(-1), 20, 19]) [.const (.int .i64 (-1)), .const (.int .i64 20), .const (.int .i64 19)] K27 T3 rfl rfl rfl (by exact ⟨rfl, rfl, rfl, trivial⟩) rfl (by decide) rfl rfl ?_)
  rintro pv6 h66
  obtain ⟨r4, h_r4, H⟩ := obs H
  refine Opl.callbm h27 (spec_l40Rd_num.evb hq0 h27 h66 h_r4) rfl rfl rfl rfl rfl ?_
  rintro _ S rfl h67 u13
  have h68 := u13.sameP h28 OutT.box
  have h69 := u13.box h29 (ap2.symm).pt
  have h70 := u13.vec h30 (ap5.symm).pt
  have h71 := u13.tree h31 (ap8).pt
  have h72 := u13.box h32 (ap11.symm).pt
  refine Opl.add (k := .i64) (a := ((rd_IVar r1.2.1 (0 : Int)).f0)) (b := r4.2) K3 rfl rfl rfl rfl ?_
  obtain ⟨c7, H⟩ := peel H
  refine Opl.idv (M := cIVar) (xs := r1.2.1) (j := (0 : Int)) (v := pv1) h70 rfl rfl (by first | omega | (simp only [List.length_set] at *; omega)) (by first | omega | (simp only [List.length_set] at *; omega)) K23 Z101 rfl rfl ?_
  rintro d4 z4 q6 h73 h74
  refine Opl.p1 (v := .ptr d4 ((0 : Int).toNat * cIVar.n + 1)) (n := Opl.stvf (M := cIVar) (xs := r1.2.1) (j := (0 : Int)) (y := (⟨(rd_IVar r1.2.1 (0 : Int)).f0, (wrap64 (((rd_IVar r1.2.1 (0 : Int)).f0) + r4.2)), (rd_IVar r1.2.1 (0 : Int)).f2⟩ : IVar)) (vs := [.lit (.int .i64 (wrap64 (((rd_IVar r1.2.1 (0 : Int)).f0) + r4.2)))]) 1 zIVar h73 h74 (by first | omega | (simp only [List.length_set] at *; omega)) (by first | omega | (simp only [List.length_set] at *; omega)) rfl rfl (by intro c hc; obtain rfl := cIVar_R (x := (rd_IVar r1.2.1 (0 : Int))) hc; exact cIVar_mk) Z3 rfl (by decide) rfl rfl rfl rfl ?_)
  rw [← q6]
  rintro S h75 u14
  have h76 := u14.sameP h68 ap4
  have h77 := u14.box h67 ap5
  have h78 := u14.box h69 ap6
  have h79 := u14.tree h71 ap3
  have h80 := u14.box h72 ap13.symm
  refine Opl.nil (Evr.seq (Evr.frzc [] [pv2] h80 h75 ap13 ?_))
  rintro pv7 S1_ S h81 u15 u16 h82
  have h83 := u16.sameP (u15.sameP h76 ap4) ap10
  have h84 := u16.box (u15.box h77 ap5) ap11
  have h85 := u16.box (u15.box h78 ap6) ap12
  have h86 := u16.tree (u15.tree h79 ap3) ap14
  have h87 : Sl cIVar (r1.2.1.set (0 : Int).toNat (⟨(rd_IVar r1.2.1 (0 : Int)).f0, (wrap64 (((rd_IVar r1.2.1 (0 : Int)).f0) + r4.2)), (rd_IVar r1.2.1 (0 : Int)).f2⟩ : IVar)) pv7 := h81
  have h88 : Box (.ptr i2 0) [pv7, pv2] S := h82
  refine Evr.frzcT [pv7] [] h88 h86 ap14 ?_
  rintro pv8 S1_ S h89 u17 u18 h90
  have h91 := u18.sameP (u17.sameP h83 ap7) ap10
  have h92 := u18.box (u17.box h84 ap8) ap11
  have h93 := u18.box (u17.box h85 ap9) ap12
  have h94 : Sl cIRule r1.2.2 pv8 := h89
  have h95 : Box (.ptr i2 0) [pv7, pv8] S := h90
  refine Evr.regionN rfl (Opl.ldb (v := .agg [pv7, pv8]) h95 rfl T26 rfl rfl rfl rfl (Opl.stb (vs := [pv7, pv8]) h93 rfl rfl Z26 rfl (Nat.le_of_ble_eq_true rfl) (by simp only [List.all_cons, List.all_nil, h87.one, h94.one, Bool.and_true, Bool.true_and] <;> rfl) rfl rfl rfl ?_))
  rintro S (h96 : Box (.ptr i1 0) [pv7, pv8] _) u19
  have h97 := u19.sameP h91 ap1
  have h98 := u19.box h92 ap2
  have h99 := u19.box h95 ap12.symm
  refine Opl.nil ?_
  obtain rfl := sinj H
  refine Evr.retb (v := .agg [pv7, pv8]) Try.func49 rfl h96 rfl T26 rfl ?_
  exact ⟨_, _, rfl, h87, h94, h98, h97⟩
 rw [if_neg c5] at H
 have e5 : (r3.2 == 1) = false := by simpa using c5
 try rw [e5]
 refine Evr.condF rfl (Evr.sr rfl (Opl.p1 (n := Opl.p1 (n := Opl.p1 (n := ?_)))))
 by_cases c8 : r3.2 = 2
 case neg =>
  rw [if_neg c8] at H
  have e21 : (r3.2 == 2) = false := by simpa using c8
  try rw [e21]
  refine Opl.sk4 rfl rfl rfl rfl (Opl.p1 (n := Opl.nil (Evr.condF rfl (Evr.sr rfl (Opl.p1 (n := Opl.p1 (n := Opl.p1 (n := ?_))))))))
  by_cases c19 : r3.2 = 3
  case neg =>
   rw [if_neg c19] at H
   have e29 : (r3.2 == 3) = false := by simpa using c19
   try rw [e29]
   refine Opl.sk4 rfl rfl rfl rfl (Opl.p1 (n := Opl.nil (Evr.condF rfl (Evr.sr rfl (Opl.p1 (n := Opl.p1 (n := Opl.nil ?_)))))))
   by_cases c25 : r3.2 = 4
   case pos =>
    rw [if_pos c25] at H
    have e30 : (r3.2 == 4) = true := by simpa using c25
    try rw [e30]
    refine Evr.condT rfl (Evr.regionN rfl (Opl.p1 (v := .ptr i2 0) (n := Opl.stb (vs := [.lit (.slice none 0 0)]) h32 rfl rfl Z23 rfl (Nat.le_of_ble_eq_true rfl) rfl rfl rfl rfl ?_)))
    rintro S (h476 : Box (.ptr i2 0) [.lit (.slice none 0 0), pv2] _) u88
    have h477 := u88.sameP h28 ap10
    have h478 := u88.box h27 ap11
    have h479 := u88.box h29 ap12
    have h480 := u88.vec h30 ap13
    have h481 := u88.tree h31 ap14
    refine Opl.nil (Evr.seq (Evr.frzcT [.lit (.slice none 0 0)] [] h476 h481 ap14 ?_))
    rintro pv75 S1_ S h482 u89 u90 h483
    have h484 := u90.sameP (u89.sameP h477 ap7) ap10
    have h485 := u90.box (u89.box h478 ap8) ap11
    have h486 := u90.box (u89.box h479 ap9) ap12
    have h487 := u90.vec (u89.vec h480 ap3) ap13
    have h488 : Sl cIRule r1.2.2 pv75 := h482
    have h489 : Box (.ptr i2 0) [.lit (.slice none 0 0), pv75] S := h483
    refine Evr.regionN rfl (Opl.ldb (v := .agg [.lit (.slice none 0 0), pv75]) h489 rfl T26 rfl rfl rfl rfl (Opl.stb (vs := [.lit (.slice none 0 0), pv75]) h486 rfl rfl Z26 rfl (Nat.le_of_ble_eq_true rfl) (by simp only [List.all_cons, List.all_nil, h488.one, Bool.and_true, Bool.true_and] <;> rfl) rfl rfl rfl ?_))
    rintro S (h490 : Box (.ptr i1 0) [.lit (.slice none 0 0), pv75] _) u91
    have h491 := u91.sameP h484 ap1
    have h492 := u91.box h485 ap2
    have h493 := u91.vec h487 ap6.symm
    have h494 := u91.box h489 ap12.symm
    refine Opl.nil ?_
    obtain rfl := sinj H
    refine Evr.retb (v := .agg [.lit (.slice none 0 0), pv75]) Try.func49 rfl h490 rfl T26 rfl ?_
    exact ⟨_, _, rfl, .nil, h488, h492, h491⟩
   rw [if_neg c25] at H
   have e31 : (r3.2 == 4) = false := by simpa using c25
   try rw [e31]
   refine Evr.condF rfl (Evr.sr rfl (Opl.p1 (v := .ptr i2 1) (n := Opl.ldb (v := pv2) h32 rfl T24 rfl rfl rfl rfl (Opl.leno (by exact oRow_len h31) K24 rfl rfl rfl rfl (Opl.p1 (n := Opl.nil ?_))))))
   by_cases c26 : (r1.2.2.length : Int) > 0
   case neg =>
    rw [if_neg c26] at H
    have e33 : (decide ((r1.2.2.length : Int) > 0)) = false := by simpa using c26
    try rw [e33]
    refine Evr.condF rfl (Evr.skip (Evr.seq (Evr.frzc [] [pv2] h32 h30 ap13 ?_)))
    rintro pv87 S1_ S h541 u99 u100 h542
    have h543 := u100.sameP (u99.sameP h28 ap4) ap10
    have h544 := u100.box (u99.box h27 ap5) ap11
    have h545 := u100.box (u99.box h29 ap6) ap12
    have h546 := u100.tree (u99.tree h31 ap3) ap14
    have h547 : Sl cIVar r1.2.1 pv87 := h541
    have h548 : Box (.ptr i2 0) [pv87, pv2] S := h542
    refine Evr.frzcT [pv87] [] h548 h546 ap14 ?_
    rintro pv88 S1_ S h549 u101 u102 h550
    have h551 := u102.sameP (u101.sameP h543 ap7) ap10
    have h552 := u102.box (u101.box h544 ap8) ap11
    have h553 := u102.box (u101.box h545 ap9) ap12
    have h554 : Sl cIRule r1.2.2 pv88 := h549
    have h555 : Box (.ptr i2 0) [pv87, pv88] S := h550
    refine Evr.regionN rfl (Opl.ldb (v := .agg [pv87, pv88]) h555 rfl T26 rfl rfl rfl rfl (Opl.stb (vs := [pv87, pv88]) h553 rfl rfl Z26 rfl (Nat.le_of_ble_eq_true rfl) (by simp only [List.all_cons, List.all_nil, h547.one, h554.one, Bool.and_true, Bool.true_and] <;> rfl) rfl rfl rfl ?_))
    rintro S (h556 : Box (.ptr i1 0) [pv87, pv88] _) u103
    have h557 := u103.sameP h551 ap1
    have h558 := u103.box h552 ap2
    have h559 := u103.box h555 ap12.symm
    refine Opl.nil ?_
    obtain rfl := sinj H
    refine Evr.retb (v := .agg [pv87, pv88]) Try.func49 rfl h556 rfl T26 rfl ?_
    exact ⟨_, _, rfl, h547, h554, h558, h557⟩
   rw [if_pos c26] at H
   have e32 : (decide ((r1.2.2.length : Int) > 0)) = true := by simpa using c26
   try rw [e32]
   refine Evr.condT rfl ?_
   obtain ⟨d11, pv76, pv77, pv78, q13, j7, rfl, h495, h496, h497, h498, h499, ap91, ap92, ap93, ap94, ap95, ap96, z29, z30, z31, z32⟩ := od3_open0 h31 (zIRule : IRule) (by omega)
   refine Evr.regionL [(8, .p), (9, .p), (1, .q), (3, .q), (6, .q), (10, .m)] rfl (by kernel_rfl) (Opl.p1 (v := .ptr i2 1) (n := Opl.ldbk (v := .loc d11 0 r1.2.2.length) h32 rfl rfl T24 rfl rfl rfl rfl (Opl.p1 (v := .ptr i2 1) (n := Opl.ldbk (v := .loc d11 0 r1.2.2.length) h32 rfl rfl T24 rfl rfl rfl rfl (Opl.id0 rfl rfl (by omega) K24 Z106 rfl rfl (Opl.p1 (v := .ptr d11 2) (n := Opl.ldok (v := pv78) h495 (rd_row (by decide)) rfl T104 rfl rfl rfl rfl ?_)))))))
   obtain ⟨r9, h_r9, H⟩ := obs H
   refine Opl.call (spec_l2Const.ev h_r9) rfl rfl rfl rfl ⟨(.lit _), trivial⟩ (by decide) ?_
   rintro _ ⟨_, _, _, _, rfl, rfl, rfl, rfl, rfl⟩
   refine Opl.liti (M := cITerm) (ys := [(⟨r9.1, r9.2.1, r9.2.2.1, r9.2.2.2⟩ : ITerm)]) [.tmp 92] K66 T128 rfl rfl rfl (by exact ⟨cITerm_mk, trivial⟩) rfl (by decide) rfl rfl ?_
   rintro pv81 h501
   refine Opl.liti (M := (cSl cITerm)) (ys := [[(⟨r9.1, r9.2.1, r9.2.2.1, r9.2.2.2⟩ : ITerm)]]) [.tmp 93] K104 T66 rfl rfl rfl (by exact ⟨⟨_, by first | rfl | exact h501.cells, h501⟩, trivial⟩) rfl (by decide) rfl rfl ?_
   rintro pv83 h502
   obtain ⟨c27, H⟩ := peel H
   refine Opl.appm rfl (M := (cSl cITerm)) (xs := ((r1.2.2.getD 0 (zIRule : IRule)).f2)) (ys := [[(⟨r9.1, r9.2.1, r9.2.2.1, r9.2.2.2⟩ : ITerm)]]) (v := pv78) h498 (.sl h502) (oSl cITerm) rfl rfl K104 T66 rfl rfl (by (try simp only [List.length_cons, List.length_nil]); omega) (by show (_ + _) * 24 ≤ 140737488355328; (try simp only [List.length_cons, List.length_nil]); omega) rfl rfl rfl rfl rfl ?_
   rintro pv84 S h503 u92 w35
   have ap97 := w35.sameP h28
   have h504 := u92.sameP h28 (OutT.sub ap7 z30)
   have ap98 := w35.box h27
   have h505 := u92.box h27 (ApT.sub ap8 z30).ap
   have ap99 := w35.box h29
   have h506 := u92.box h29 (ApT.sub ap9 z30).ap
   have ap100 := w35.vec h30
   have h507 := u92.vec h30 (ApT.sub ap3 z30).ap
   have ap101 := w35.box h32
   have h508 := u92.box h32 (ApT.sub ap14 z30).ap
   have ap102 := w35.vec h497
   have h509 := u92.vec h497 ap91
   have ap103 := w35.rows h499
   have h510 := u92.rows h499 ap95
   have ap104 := w35.obj h495
   have h511 := u92.obj h495 ap93.symm
   refine Opl.id0 rfl rfl (by omega) K24 Z106 rfl rfl (Opl.p1 (v := .ptr d11 2) (n := Opl.stob (cs' := pv76 :: pv77 :: pv84 :: q13) (vs := [pv84]) h511 rfl (by exact Vec.cells h503) rfl Z104 rfl (by simp only [List.length_cons]; omega) (by simp only [List.all_cons, List.all_nil, Vec.one h503, Bool.and_true, Bool.true_and] <;> rfl) rfl rfl rfl ?_))
   rintro S h512 u93
   have h513 := u93.sameP h504 (OutT.sub ap7 z31)
   have h514 := u93.box h505 (ApT.sub ap8 z31).ap
   have h515 := u93.box h506 (ApT.sub ap9 z31).ap
   have h516 := u93.vec h507 (ApT.sub ap3 z31).ap
   have h517 := u93.box h508 (ApT.sub ap14 z31).ap
   have h518 := u93.vec h509 ap92
   have h519 := u93.rows h510 ap96
   have h520 := u93.vec h503 ap104.symm
   have h521 : (oRow odIRule).R S (d11 :: ((pv77.id?.toList ++ pv84.id?.toList) ++ j7)) ((⟨(r1.2.2.getD 0 (zIRule : IRule)).f0, (r1.2.2.getD 0 (zIRule : IRule)).f1, (((r1.2.2.getD 0 (zIRule : IRule)).f2) ++ [[(⟨r9.1, r9.2.1, r9.2.2.1, r9.2.2.2⟩ : ITerm)]])⟩ : IRule) :: r1.2.2.tail) [(PV.loc d11 0 r1.2.2.length)] := od3_close0 (l := r1.2.2) rfl (by rw [List.length_tail]; omega) h512 h496 h518 h520 h519 ap102 ap92 ap104.symm ap94 ap103 ap96
   refine Opl.nil (Evr.seq (Evr.frzc [] [(PV.loc d11 0 r1.2.2.length)] h517 h516 ap13 ?_))
   rintro pv85 S1_ S h522 u94 u95 h523
   have h524 := u95.sameP (u94.sameP h513 ap4) ap10
   have h525 := u95.box (u94.box h514 ap5) ap11
   have h526 := u95.box (u94.box h515 ap6) ap12
   have h527 := u95.tree (u94.tree h521 (ApT.cons (ApT.sub ap3 z31).ap ((ApT.app (Ap.apT (ApT.sub ap3 z29).ap) (Ap.apT ap100)).app (ApT.sub ap3 z32)))) (ApT.cons (ApT.sub ap14 z31).ap ((ApT.app (Ap.apT (ApT.sub ap14 z29).ap) (Ap.apT ap101)).app (ApT.sub ap14 z32)))
   have h528 : Sl cIVar r1.2.1 pv85 := h522
   have h529 : Box (.ptr i2 0) [pv85, (PV.loc d11 0 r1.2.2.length)] S := h523
   refine Evr.frzcT [pv85] [] h529 h527 (ApT.cons (ApT.sub ap14 z31).ap ((ApT.app (Ap.apT (ApT.sub ap14 z29).ap) (Ap.apT ap101)).app (ApT.sub ap14 z32))) ?_
   rintro pv86 S1_ S h530 u96 u97 h531
   have h532 := u97.sameP (u96.sameP h524 (OutT.cons (OutT.sub ap7 z31) ((OutT.app (OutT.sub ap7 z29) ap97).app (OutT.sub ap7 z32)))) ap10
   have h533 := u97.box (u96.box h525 (ApT.cons (ApT.sub ap8 z31).ap ((ApT.app (Ap.apT (ApT.sub ap8 z29).ap) (Ap.apT ap98)).app (ApT.sub ap8 z32)))) ap11
   have h534 := u97.box (u96.box h526 (ApT.cons (ApT.sub ap9 z31).ap ((ApT.app (Ap.apT (ApT.sub ap9 z29).ap) (Ap.apT ap99)).app (ApT.sub ap9 z32)))) ap12
   have h535 : Sl cIRule ((⟨(r1.2.2.getD 0 (zIRule : IRule)).f0, (r1.2.2.getD 0 (zIRule : IRule)).f1, (((r1.2.2.getD 0 (zIRule : IRule)).f2) ++ [[(⟨r9.1, r9.2.1, r9.2.2.1, r9.2.2.2⟩ : ITerm)]])⟩ : IRule) :: r1.2.2.tail) pv86 := h530
   have h536 : Box (.ptr i2 0) [pv85, pv86] S := h531
   refine Evr.regionN rfl (Opl.ldb (v := .agg [pv85, pv86]) h536 rfl T26 rfl rfl rfl rfl (Opl.stb (vs := [pv85, pv86]) h534 rfl rfl Z26 rfl (Nat.le_of_ble_eq_true rfl) (by simp only [List.all_cons, List.all_nil, h528.one, h535.one, Bool.and_true, Bool.true_and] <;> rfl) rfl rfl rfl ?_))
   rintro S (h537 : Box (.ptr i1 0) [pv85, pv86] _) u98
   have h538 := u98.sameP h532 ap1
   have h539 := u98.box h533 ap2
   have h540 := u98.box h536 ap12.symm
   refine Opl.nil ?_
   obtain rfl := sinj H
   refine Evr.retb (v := .agg [pv85, pv86]) Try.func49 rfl h537 rfl T26 rfl ?_
   exact ⟨_, _, rfl, h528, h535, h539, h538⟩
  rw [if_pos c19] at H
  have e22 : (r3.2 == 3) = true := by simpa using c19
  try rw [e22]
  refine Opl.p1 (v := .ptr i2 1) (n := Opl.ldb (v := pv2) h32 rfl T24 rfl rfl rfl rfl (Opl.leno (by exact oRow_len h31) K24 rfl rfl rfl rfl (Opl.p1 (n := Opl.p1 (n := Opl.nil ?_)))))
  by_cases c20 : (r1.2.2.length : Int) > 0
  case pos =>
   rw [if_pos c20] at H
   have e23 : (decide ((r1.2.2.length : Int) > 0)) = true := by simpa using c20
   try rw [e23]
   refine Evr.condT rfl ?_
   obtain ⟨d9, pv53, pv54, pv55, q11, j5, rfl, h348, h349, h350, h351, h352, ap63, ap64, ap65, ap66, ap67, ap68, z21, z22, z23, z24⟩ := od3_open0 h31 (zIRule : IRule) (by omega)
   refine Evr.regionL [(10, .p), (1, .q), (3, .q), (6, .q), (8, .q), (11, .m)] rfl (by kernel_rfl) (Opl.p1 (v := .ptr i2 1) (n := Opl.ldbk (v := .loc d9 0 r1.2.2.length) h32 rfl rfl T24 rfl rfl rfl rfl (Opl.p1 (v := .ptr i2 1) (n := Opl.ldbk (v := .loc d9 0 r1.2.2.length) h32 rfl rfl T24 rfl rfl rfl rfl ?_))))
   obtain ⟨c21, H⟩ := peel H
   refine Opl.id0 rfl rfl (by omega) K24 Z106 rfl rfl (Opl.p1 (v := .ptr d9 1) (n := Opl.ldok (v := pv54) h348 (rd_row (by decide)) rfl T27 rfl rfl rfl rfl (Opl.p1 (v := .ptr i2 0) (n := Opl.ldbk (v := pv1) h32 rfl rfl T23 rfl rfl rfl rfl (Opl.lenv (xs := r1.2.1) (by exact h30) K23 rfl rfl rfl rfl (Opl.liti (M := (cInt .i64)) (ys := [(r1.2.1.length : Int)]) [.tmp 73] K27 T3 rfl rfl rfl (by exact ⟨rfl, trivial⟩) rfl (by decide) rfl rfl ?_))))))
   rintro pv57 h353
   refine Opl.appm rfl (M := (cInt .i64)) (xs := ((r1.2.2.getD 0 (zIRule : IRule)).f1)) (ys := [(r1.2.1.length : Int)]) (v := pv54) h350 (.sl h353) (oInt .i64) rfl rfl K27 T3 rfl rfl (by (try simp only [List.length_cons, List.length_nil]); omega) (by show (_ + _) * 8 ≤ 140737488355328; (try simp only [List.length_cons, List.length_nil]); omega) rfl rfl rfl rfl rfl ?_
   rintro pv58 S h354 u65 w24
   have ap69 := w24.sameP h28
   have h355 := u65.sameP h28 (OutT.sub ap7 z21)
   have ap70 := w24.box h27
   have h356 := u65.box h27 (ApT.sub ap8 z21).ap
   have ap71 := w24.box h29
   have h357 := u65.box h29 (ApT.sub ap9 z21).ap
   have ap72 := w24.vec h30
   have h358 := u65.vec h30 (ApT.sub ap3 z21).ap
   have ap73 := w24.box h32
   have h359 := u65.box h32 (ApT.sub ap14 z21).ap
   have ap74 := w24.vec h351
   have h360 := u65.vec h351 ap63.symm
   have ap75 := w24.rows h352
   have h361 := u65.rows h352 ap66
   have ap76 := w24.obj h348
   have h362 := u65.obj h348 ap64.symm
   refine Opl.id0 rfl rfl (by omega) K24 Z106 rfl rfl (Opl.p1 (v := .ptr d9 1) (n := Opl.stob (cs' := pv53 :: pv58 :: pv55 :: q11) (vs := [pv58]) h362 rfl (by exact Vec.cells h354) rfl Z27 rfl (by simp only [List.length_cons]; omega) (by simp only [List.all_cons, List.all_nil, Vec.one h354, Bool.and_true, Bool.true_and] <;> rfl) rfl rfl rfl ?_))
   rintro S h363 u66
   have h364 := u66.sameP h355 (OutT.sub ap7 z23)
   have h365 := u66.box h356 (ApT.sub ap8 z23).ap
   have h366 := u66.box h357 (ApT.sub ap9 z23).ap
   have h367 := u66.vec h358 (ApT.sub ap3 z23).ap
   have h368 := u66.box h359 (ApT.sub ap14 z23).ap
   have h369 := u66.vec h360 ap65
   have h370 := u66.rows h361 ap68
   have h371 := u66.vec h354 ap76.symm
   have h372 : (oRow odIRule).R S (d9 :: ((pv58.id?.toList ++ pv55.id?.toList) ++ j5)) ((⟨(r1.2.2.getD 0 (zIRule : IRule)).f0, (((r1.2.2.getD 0 (zIRule : IRule)).f1) ++ [(r1.2.1.length : Int)]), (r1.2.2.getD 0 (zIRule : IRule)).f2⟩ : IRule) :: r1.2.2.tail) [(PV.loc d9 0 r1.2.2.length)] := od3_close0 (l := r1.2.2) rfl (by rw [List.length_tail]; omega) h363 h349 h371 h369 h370 ap74.symm ap76.symm ap65 ap75 ap67 ap68
   refine Opl.nil (Evr.seq (Evr.frzc [] [(PV.loc d9 0 r1.2.2.length)] h368 h367 ap13 ?_))
   rintro pv59 S1_ S h373 u67 u68 h374
   have h375 := u68.sameP (u67.sameP h364 ap4) ap10
   have h376 := u68.box (u67.box h365 ap5) ap11
   have h377 := u68.box (u67.box h366 ap6) ap12
   have h378 := u68.tree (u67.tree h372 (ApT.cons (ApT.sub ap3 z23).ap ((ApT.app (Ap.apT ap72) (Ap.apT (ApT.sub ap3 z22).ap)).app (ApT.sub ap3 z24)))) (ApT.cons (ApT.sub ap14 z23).ap ((ApT.app (Ap.apT ap73) (Ap.apT (ApT.sub ap14 z22).ap)).app (ApT.sub ap14 z24)))
   have h379 : Sl cIVar r1.2.1 pv59 := h373
   have h380 : Box (.ptr i2 0) [pv59, (PV.loc d9 0 r1.2.2.length)] S := h374
   refine Evr.frzcT [pv59] [] h380 h378 (ApT.cons (ApT.sub ap14 z23).ap ((ApT.app (Ap.apT ap73) (Ap.apT (ApT.sub ap14 z22).ap)).app (ApT.sub ap14 z24))) ?_
   rintro pv60 S1_ S h381 u69 u70 h382
   have h383 := u70.sameP (u69.sameP h375 (OutT.cons (OutT.sub ap7 z23) ((OutT.app ap69 (OutT.sub ap7 z22)).app (OutT.sub ap7 z24)))) ap10
   have h384 := u70.box (u69.box h376 (ApT.cons (ApT.sub ap8 z23).ap ((ApT.app (Ap.apT ap70) (Ap.apT (ApT.sub ap8 z22).ap)).app (ApT.sub ap8 z24)))) ap11
   have h385 := u70.box (u69.box h377 (ApT.cons (ApT.sub ap9 z23).ap ((ApT.app (Ap.apT ap71) (Ap.apT (ApT.sub ap9 z22).ap)).app (ApT.sub ap9 z24)))) ap12
   have h386 : Sl cIRule ((⟨(r1.2.2.getD 0 (zIRule : IRule)).f0, (((r1.2.2.getD 0 (zIRule : IRule)).f1) ++ [(r1.2.1.length : Int)]), (r1.2.2.getD 0 (zIRule : IRule)).f2⟩ : IRule) :: r1.2.2.tail) pv60 := h381
   have h387 : Box (.ptr i2 0) [pv59, pv60] S := h382
   refine Evr.regionN rfl (Opl.ldb (v := .agg [pv59, pv60]) h387 rfl T26 rfl rfl rfl rfl (Opl.stb (vs := [pv59, pv60]) h385 rfl rfl Z26 rfl (Nat.le_of_ble_eq_true rfl) (by simp only [List.all_cons, List.all_nil, h379.one, h386.one, Bool.and_true, Bool.true_and] <;> rfl) rfl rfl rfl ?_))
   rintro S (h388 : Box (.ptr i1 0) [pv59, pv60] _) u71
   have h389 := u71.sameP h383 ap1
   have h390 := u71.box h384 ap2
   have h391 := u71.box h387 ap12.symm
   refine Opl.nil ?_
   obtain rfl := sinj H
   refine Evr.retb (v := .agg [pv59, pv60]) Try.func49 rfl h388 rfl T26 rfl ?_
   exact ⟨_, _, rfl, h379, h386, h390, h389⟩
  rw [if_neg c20] at H
  have e24 : (decide ((r1.2.2.length : Int) > 0)) = false := by simpa using c20
  try rw [e24]
  refine Evr.condF rfl (Evr.sr rfl (Opl.p1 (n := Opl.p1 (n := Opl.nil ?_))))
  by_cases c22 : r3.2 = 4
  case pos =>
   rw [if_pos c22] at H
   have e25 : (r3.2 == 4) = true := by simpa using c22
   try rw [e25]
   refine Evr.condT rfl (Evr.regionN rfl (Opl.p1 (v := .ptr i2 0) (n := Opl.stb (vs := [.lit (.slice none 0 0)]) h32 rfl rfl Z23 rfl (Nat.le_of_ble_eq_true rfl) rfl rfl rfl rfl ?_)))
   rintro S (h392 : Box (.ptr i2 0) [.lit (.slice none 0 0), pv2] _) u72
   have h393 := u72.sameP h28 ap10
   have h394 := u72.box h27 ap11
   have h395 := u72.box h29 ap12
   have h396 := u72.vec h30 ap13
   have h397 := u72.tree h31 ap14
   refine Opl.nil (Evr.seq (Evr.frzcT [.lit (.slice none 0 0)] [] h392 h397 ap14 ?_))
   rintro pv61 S1_ S h398 u73 u74 h399
   have h400 := u74.sameP (u73.sameP h393 ap7) ap10
   have h401 := u74.box (u73.box h394 ap8) ap11
   have h402 := u74.box (u73.box h395 ap9) ap12
   have h403 := u74.vec (u73.vec h396 ap3) ap13
   have h404 : Sl cIRule r1.2.2 pv61 := h398
   have h405 : Box (.ptr i2 0) [.lit (.slice none 0 0), pv61] S := h399
   refine Evr.regionN rfl (Opl.ldb (v := .agg [.lit (.slice none 0 0), pv61]) h405 rfl T26 rfl rfl rfl rfl (Opl.stb (vs := [.lit (.slice none 0 0), pv61]) h402 rfl rfl Z26 rfl (Nat.le_of_ble_eq_true rfl) (by simp only [List.all_cons, List.all_nil, h404.one, Bool.and_true, Bool.true_and] <;> rfl) rfl rfl rfl ?_))
   rintro S (h406 : Box (.ptr i1 0) [.lit (.slice none 0 0), pv61] _) u75
   have h407 := u75.sameP h400 ap1
   have h408 := u75.box h401 ap2
   have h409 := u75.vec h403 ap6.symm
   have h410 := u75.box h405 ap12.symm
   refine Opl.nil ?_
   obtain rfl := sinj H
   refine Evr.retb (v := .agg [.lit (.slice none 0 0), pv61]) Try.func49 rfl h406 rfl T26 rfl ?_
   exact ⟨_, _, rfl, .nil, h404, h408, h407⟩
  rw [if_neg c22] at H
  have e26 : (r3.2 == 4) = false := by simpa using c22
  try rw [e26]
  refine Evr.condF rfl (Evr.sr rfl (Opl.p1 (v := .ptr i2 1) (n := Opl.ldb (v := pv2) h32 rfl T24 rfl rfl rfl rfl (Opl.leno (by exact oRow_len h31) K24 rfl rfl rfl rfl (Opl.p1 (n := Opl.nil ?_))))))
  by_cases c23 : (r1.2.2.length : Int) > 0
  case neg =>
   rw [if_neg c23] at H
   have e28 : (decide ((r1.2.2.length : Int) > 0)) = false := by simpa using c23
   try rw [e28]
   refine Evr.condF rfl (Evr.skip (Evr.seq (Evr.frzc [] [pv2] h32 h30 ap13 ?_)))
   rintro pv73 S1_ S h457 u83 u84 h458
   have h459 := u84.sameP (u83.sameP h28 ap4) ap10
   have h460 := u84.box (u83.box h27 ap5) ap11
   have h461 := u84.box (u83.box h29 ap6) ap12
   have h462 := u84.tree (u83.tree h31 ap3) ap14
   have h463 : Sl cIVar r1.2.1 pv73 := h457
   have h464 : Box (.ptr i2 0) [pv73, pv2] S := h458
   refine Evr.frzcT [pv73] [] h464 h462 ap14 ?_
   rintro pv74 S1_ S h465 u85 u86 h466
   have h467 := u86.sameP (u85.sameP h459 ap7) ap10
   have h468 := u86.box (u85.box h460 ap8) ap11
   have h469 := u86.box (u85.box h461 ap9) ap12
   have h470 : Sl cIRule r1.2.2 pv74 := h465
   have h471 : Box (.ptr i2 0) [pv73, pv74] S := h466
   refine Evr.regionN rfl (Opl.ldb (v := .agg [pv73, pv74]) h471 rfl T26 rfl rfl rfl rfl (Opl.stb (vs := [pv73, pv74]) h469 rfl rfl Z26 rfl (Nat.le_of_ble_eq_true rfl) (by simp only [List.all_cons, List.all_nil, h463.one, h470.one, Bool.and_true, Bool.true_and] <;> rfl) rfl rfl rfl ?_))
   rintro S (h472 : Box (.ptr i1 0) [pv73, pv74] _) u87
   have h473 := u87.sameP h467 ap1
   have h474 := u87.box h468 ap2
   have h475 := u87.box h471 ap12.symm
   refine Opl.nil ?_
   obtain rfl := sinj H
   refine Evr.retb (v := .agg [pv73, pv74]) Try.func49 rfl h472 rfl T26 rfl ?_
   exact ⟨_, _, rfl, h463, h470, h474, h473⟩
  rw [if_pos c23] at H
  have e27 : (decide ((r1.2.2.length : Int) > 0)) = true := by simpa using c23
  try rw [e27]
  refine Evr.condT rfl ?_
  obtain ⟨d10, pv62, pv63, pv64, q12, j6, rfl, h411, h412, h413, h414, h415, ap77, ap78, ap79, ap80, ap81, ap82, z25, z26, z27, z28⟩ := od3_open0 h31 (zIRule : IRule) (by omega)
  refine Evr.regionL [(8, .p), (9, .p), (1, .q), (3, .q), (6, .q), (10, .m)] rfl (by kernel_rfl) (Opl.p1 (v := .ptr i2 1) (n := Opl.ldbk (v := .loc d10 0 r1.2.2.length) h32 rfl rfl T24 rfl rfl rfl rfl (Opl.p1 (v := .ptr i2 1) (n := Opl.ldbk (v := .loc d10 0 r1.2.2.length) h32 rfl rfl T24 rfl rfl rfl rfl (Opl.id0 rfl rfl (by omega) K24 Z106 rfl rfl (Opl.p1 (v := .ptr d10 2) (n := Opl.ldok (v := pv64) h411 (rd_row (by decide)) rfl T104 rfl rfl rfl rfl ?_)))))))
  obtain ⟨r8, h_r8, H⟩ := obs H
  refine Opl.call (spec_l2Const.ev h_r8) rfl rfl rfl rfl ⟨(.lit _), trivial⟩ (by decide) ?_
  rintro _ ⟨_, _, _, _, rfl, rfl, rfl, rfl, rfl⟩
  refine Opl.liti (M := cITerm) (ys := [(⟨r8.1, r8.2.1, r8.2.2.1, r8.2.2.2⟩ : ITerm)]) [.tmp 92] K66 T128 rfl rfl rfl (by exact ⟨cITerm_mk, trivial⟩) rfl (by decide) rfl rfl ?_
  rintro pv67 h417
  refine Opl.liti (M := (cSl cITerm)) (ys := [[(⟨r8.1, r8.2.1, r8.2.2.1, r8.2.2.2⟩ : ITerm)]]) [.tmp 93] K104 T66 rfl rfl rfl (by exact ⟨⟨_, by first | rfl | exact h417.cells, h417⟩, trivial⟩) rfl (by decide) rfl rfl ?_
  rintro pv69 h418
  obtain ⟨c24, H⟩ := peel H
  refine Opl.appm rfl (M := (cSl cITerm)) (xs := ((r1.2.2.getD 0 (zIRule : IRule)).f2)) (ys := [[(⟨r8.1, r8.2.1, r8.2.2.1, r8.2.2.2⟩ : ITerm)]]) (v := pv64) h414 (.sl h418) (oSl cITerm) rfl rfl K104 T66 rfl rfl (by (try simp only [List.length_cons, List.length_nil]); omega) (by show (_ + _) * 24 ≤ 140737488355328; (try simp only [List.length_cons, List.length_nil]); omega) rfl rfl rfl rfl rfl ?_
  rintro pv70 S h419 u76 w29
  have ap83 := w29.sameP h28
  have h420 := u76.sameP h28 (OutT.sub ap7 z26)
  have ap84 := w29.box h27
  have h421 := u76.box h27 (ApT.sub ap8 z26).ap
  have ap85 := w29.box h29
  have h422 := u76.box h29 (ApT.sub ap9 z26).ap
  have ap86 := w29.vec h30
  have h423 := u76.vec h30 (ApT.sub ap3 z26).ap
  have ap87 := w29.box h32
  have h424 := u76.box h32 (ApT.sub ap14 z26).ap
  have ap88 := w29.vec h413
  have h425 := u76.vec h413 ap77
  have ap89 := w29.rows h415
  have h426 := u76.rows h415 ap81
  have ap90 := w29.obj h411
  have h427 := u76.obj h411 ap79.symm
  refine Opl.id0 rfl rfl (by omega) K24 Z106 rfl rfl (Opl.p1 (v := .ptr d10 2) (n := Opl.stob (cs' := pv62 :: pv63 :: pv70 :: q12) (vs := [pv70]) h427 rfl (by exact Vec.cells h419) rfl Z104 rfl (by simp only [List.length_cons]; omega) (by simp only [List.all_cons, List.all_nil, Vec.one h419, Bool.and_true, Bool.true_and] <;> rfl) rfl rfl rfl ?_))
  rintro S h428 u77
  have h429 := u77.sameP h420 (OutT.sub ap7 z27)
  have h430 := u77.box h421 (ApT.sub ap8 z27).ap
  have h431 := u77.box h422 (ApT.sub ap9 z27).ap
  have h432 := u77.vec h423 (ApT.sub ap3 z27).ap
  have h433 := u77.box h424 (ApT.sub ap14 z27).ap
  have h434 := u77.vec h425 ap78
  have h435 := u77.rows h426 ap82
  have h436 := u77.vec h419 ap90.symm
  have h437 : (oRow odIRule).R S (d10 :: ((pv63.id?.toList ++ pv70.id?.toList) ++ j6)) ((⟨(r1.2.2.getD 0 (zIRule : IRule)).f0, (r1.2.2.getD 0 (zIRule : IRule)).f1, (((r1.2.2.getD 0 (zIRule : IRule)).f2) ++ [[(⟨r8.1, r8.2.1, r8.2.2.1, r8.2.2.2⟩ : ITerm)]])⟩ : IRule) :: r1.2.2.tail) [(PV.loc d10 0 r1.2.2.length)] := od3_close0 (l := r1.2.2) rfl (by rw [List.length_tail]; omega) h428 h412 h434 h436 h435 ap88 ap78 ap90.symm ap80 ap89 ap82
  refine Opl.nil (Evr.seq (Evr.frzc [] [(PV.loc d10 0 r1.2.2.length)] h433 h432 ap13 ?_))
  rintro pv71 S1_ S h438 u78 u79 h439
  have h440 := u79.sameP (u78.sameP h429 ap4) ap10
  have h441 := u79.box (u78.box h430 ap5) ap11
  have h442 := u79.box (u78.box h431 ap6) ap12
  have h443 := u79.tree (u78.tree h437 (ApT.cons (ApT.sub ap3 z27).ap ((ApT.app (Ap.apT (ApT.sub ap3 z25).ap) (Ap.apT ap86)).app (ApT.sub ap3 z28)))) (ApT.cons (ApT.sub ap14 z27).ap ((ApT.app (Ap.apT (ApT.sub ap14 z25).ap) (Ap.apT ap87)).app (ApT.sub ap14 z28)))
  have h444 : Sl cIVar r1.2.1 pv71 := h438
  have h445 : Box (.ptr i2 0) [pv71, (PV.loc d10 0 r1.2.2.length)] S := h439
  refine Evr.frzcT [pv71] [] h445 h443 (ApT.cons (ApT.sub ap14 z27).ap ((ApT.app (Ap.apT (ApT.sub ap14 z25).ap) (Ap.apT ap87)).app (ApT.sub ap14 z28))) ?_
  rintro pv72 S1_ S h446 u80 u81 h447
  have h448 := u81.sameP (u80.sameP h440 (OutT.cons (OutT.sub ap7 z27) ((OutT.app (OutT.sub ap7 z25) ap83).app (OutT.sub ap7 z28)))) ap10
  have h449 := u81.box (u80.box h441 (ApT.cons (ApT.sub ap8 z27).ap ((ApT.app (Ap.apT (ApT.sub ap8 z25).ap) (Ap.apT ap84)).app (ApT.sub ap8 z28)))) ap11
  have h450 := u81.box (u80.box h442 (ApT.cons (ApT.sub ap9 z27).ap ((ApT.app (Ap.apT (ApT.sub ap9 z25).ap) (Ap.apT ap85)).app (ApT.sub ap9 z28)))) ap12
  have h451 : Sl cIRule ((⟨(r1.2.2.getD 0 (zIRule : IRule)).f0, (r1.2.2.getD 0 (zIRule : IRule)).f1, (((r1.2.2.getD 0 (zIRule : IRule)).f2) ++ [[(⟨r8.1, r8.2.1, r8.2.2.1, r8.2.2.2⟩ : ITerm)]])⟩ : IRule) :: r1.2.2.tail) pv72 := h446
  have h452 : Box (.ptr i2 0) [pv71, pv72] S := h447
  refine Evr.regionN rfl (Opl.ldb (v := .agg [pv71, pv72]) h452 rfl T26 rfl rfl rfl rfl (Opl.stb (vs := [pv71, pv72]) h450 rfl rfl Z26 rfl (Nat.le_of_ble_eq_true rfl) (by simp only [List.all_cons, List.all_nil, h444.one, h451.one, Bool.and_true, Bool.true_and] <;> rfl) rfl rfl rfl ?_))
  rintro S (h453 : Box (.ptr i1 0) [pv71, pv72] _) u82
  have h454 := u82.sameP h448 ap1
  have h455 := u82.box h449 ap2
  have h456 := u82.box h452 ap12.symm
  refine Opl.nil ?_
  obtain rfl := sinj H
  refine Evr.retb (v := .agg [pv71, pv72]) Try.func49 rfl h453 rfl T26 rfl ?_
  exact ⟨_, _, rfl, h444, h451, h455, h454⟩
 rw [if_pos c8] at H
 have e6 : (r3.2 == 2) = true := by simpa using c8
 try rw [e6]
 refine Opl.p1 (v := .ptr i2 1) (n := Opl.ldb (v := pv2) h32 rfl T24 rfl rfl rfl rfl (Opl.leno (by exact oRow_len h31) K24 rfl rfl rfl rfl (Opl.p1 (n := Opl.p1 (n := Opl.nil ?_)))))
 by_cases c9 : (r1.2.2.length : Int) > 0
 case pos =>
  rw [if_pos c9] at H
  have e7 : (decide ((r1.2.2.length : Int) > 0)) = true := by simpa using c9
  try rw [e7]
  refine Evr.condT rfl ?_
  obtain ⟨d5, pv9, pv10, pv11, q7, j1, rfl, h100, h101, h102, h103, h104, ap15, ap16, ap17, ap18, ap19, ap20, z5, z6, z7, z8⟩ := od3_open0 h31 (zIRule : IRule) (by omega)
  refine Evr.regionL [(3, .p), (1, .q)] rfl (by kernel_rfl) (Opl.p1 (v := .ptr i2 1) (n := Opl.ldbk (v := .loc d5 0 r1.2.2.length) h32 rfl rfl T24 rfl rfl rfl rfl ?_))
  obtain ⟨r5, h_r5, H⟩ := obs H
  refine Opl.call (spec_l2Const.ev h_r5) rfl rfl rfl rfl ⟨(.lit _), trivial⟩ (by decide) ?_
  rintro _ ⟨_, _, _, _, rfl, rfl, rfl, rfl, rfl⟩
  refine Opl.liti (M := cITerm) (ys := [(⟨r5.1, r5.2.1, r5.2.2.1, r5.2.2.2⟩ : ITerm)]) [.tmp 52] K66 T128 rfl rfl rfl (by exact ⟨cITerm_mk, trivial⟩) rfl (by decide) rfl rfl ?_
  rintro pv14 h106
  refine Opl.id0 rfl rfl (by omega) K24 Z106 rfl rfl (Opl.p1 (v := .ptr d5 0) (n := Opl.stob (cs' := pv14 :: pv10 :: pv11 :: q7) (vs := [pv14]) h100 rfl (by exact h106.cells) rfl Z66 rfl (by simp only [List.length_cons]; omega) (by simp only [List.all_cons, List.all_nil, h106.one, Bool.and_true, Bool.true_and] <;> rfl) rfl rfl rfl ?_))
  rintro S h107 u20
  have h108 := u20.sameP h28 (OutT.sub ap7 z7)
  have h109 := u20.box h27 (ApT.sub ap8 z7).ap
  have h110 := u20.box h29 (ApT.sub ap9 z7).ap
  have h111 := u20.vec h30 (ApT.sub ap3 z7).ap
  have h112 := u20.box h32 (ApT.sub ap14 z7).ap
  have h113 := u20.vec h102 ap16
  have h114 := u20.vec h103 ap17
  have h115 := u20.rows h104 ap20
  have h116 : (oRow odIRule).R S (d5 :: ((pv10.id?.toList ++ pv11.id?.toList) ++ j1)) ((⟨[(⟨r5.1, r5.2.1, r5.2.2.1, r5.2.2.2⟩ : ITerm)], (r1.2.2.getD 0 (zIRule : IRule)).f1, (r1.2.2.getD 0 (zIRule : IRule)).f2⟩ : IRule) :: r1.2.2.tail) [(PV.loc d5 0 r1.2.2.length)] := od3_close0 (l := r1.2.2) rfl (by rw [List.length_tail]; omega) h107 h106 h113 h114 h115 ap15 ap16 ap17 ap18 ap19 ap20
  refine Opl.nil (Evr.seq (Evr.frzc [] [(PV.loc d5 0 r1.2.2.length)] h112 h111 ap13 ?_))
  rintro pv15 S1_ S h117 u21 u22 h118
  have h119 := u22.sameP (u21.sameP h108 ap4) ap10
  have h120 := u22.box (u21.box h109 ap5) ap11
  have h121 := u22.box (u21.box h110 ap6) ap12
  have h122 := u22.tree (u21.tree h116 (ApT.cons (ApT.sub ap3 z7).ap ((ApT.app (Ap.apT (ApT.sub ap3 z5).ap) (Ap.apT (ApT.sub ap3 z6).ap)).app (ApT.sub ap3 z8)))) (ApT.cons (ApT.sub ap14 z7).ap ((ApT.app (Ap.apT (ApT.sub ap14 z5).ap) (Ap.apT (ApT.sub ap14 z6).ap)).app (ApT.sub ap14 z8)))
  have h123 : Sl cIVar r1.2.1 pv15 := h117
  have h124 : Box (.ptr i2 0) [pv15, (PV.loc d5 0 r1.2.2.length)] S := h118
  refine Evr.frzcT [pv15] [] h124 h122 (ApT.cons (ApT.sub ap14 z7).ap ((ApT.app (Ap.apT (ApT.sub ap14 z5).ap) (Ap.apT (ApT.sub ap14 z6).ap)).app (ApT.sub ap14 z8))) ?_
  rintro pv16 S1_ S h125 u23 u24 h126
  have h127 := u24.sameP (u23.sameP h119 (OutT.cons (OutT.sub ap7 z7) ((OutT.app (OutT.sub ap7 z5) (OutT.sub ap7 z6)).app (OutT.sub ap7 z8)))) ap10
  have h128 := u24.box (u23.box h120 (ApT.cons (ApT.sub ap8 z7).ap ((ApT.app (Ap.apT (ApT.sub ap8 z5).ap) (Ap.apT (ApT.sub ap8 z6).ap)).app (ApT.sub ap8 z8)))) ap11
  have h129 := u24.box (u23.box h121 (ApT.cons (ApT.sub ap9 z7).ap ((ApT.app (Ap.apT (ApT.sub ap9 z5).ap) (Ap.apT (ApT.sub ap9 z6).ap)).app (ApT.sub ap9 z8)))) ap12
  have h130 : Sl cIRule ((⟨[(⟨r5.1, r5.2.1, r5.2.2.1, r5.2.2.2⟩ : ITerm)], (r1.2.2.getD 0 (zIRule : IRule)).f1, (r1.2.2.getD 0 (zIRule : IRule)).f2⟩ : IRule) :: r1.2.2.tail) pv16 := h125
  have h131 : Box (.ptr i2 0) [pv15, pv16] S := h126
  refine Evr.regionN rfl (Opl.ldb (v := .agg [pv15, pv16]) h131 rfl T26 rfl rfl rfl rfl (Opl.stb (vs := [pv15, pv16]) h129 rfl rfl Z26 rfl (Nat.le_of_ble_eq_true rfl) (by simp only [List.all_cons, List.all_nil, h123.one, h130.one, Bool.and_true, Bool.true_and] <;> rfl) rfl rfl rfl ?_))
  rintro S (h132 : Box (.ptr i1 0) [pv15, pv16] _) u25
  have h133 := u25.sameP h127 ap1
  have h134 := u25.box h128 ap2
  have h135 := u25.box h131 ap12.symm
  refine Opl.nil ?_
  obtain rfl := sinj H
  refine Evr.retb (v := .agg [pv15, pv16]) Try.func49 rfl h132 rfl T26 rfl ?_
  exact ⟨_, _, rfl, h123, h130, h134, h133⟩
 rw [if_neg c9] at H
 have e8 : (decide ((r1.2.2.length : Int) > 0)) = false := by simpa using c9
 try rw [e8]
 refine Evr.condF rfl (Evr.sr rfl (Opl.p1 (n := Opl.p1 (n := Opl.p1 (n := ?_)))))
 by_cases c10 : r3.2 = 3
 case neg =>
  rw [if_neg c10] at H
  have e16 : (r3.2 == 3) = false := by simpa using c10
  try rw [e16]
  refine Opl.sk4 rfl rfl rfl rfl (Opl.p1 (n := Opl.nil (Evr.condF rfl (Evr.sr rfl (Opl.p1 (n := Opl.p1 (n := Opl.nil ?_)))))))
  by_cases c16 : r3.2 = 4
  case pos =>
   rw [if_pos c16] at H
   have e17 : (r3.2 == 4) = true := by simpa using c16
   try rw [e17]
   refine Evr.condT rfl (Evr.regionN rfl (Opl.p1 (v := .ptr i2 0) (n := Opl.stb (vs := [.lit (.slice none 0 0)]) h32 rfl rfl Z23 rfl (Nat.le_of_ble_eq_true rfl) rfl rfl rfl rfl ?_)))
   rintro S (h264 : Box (.ptr i2 0) [.lit (.slice none 0 0), pv2] _) u49
   have h265 := u49.sameP h28 ap10
   have h266 := u49.box h27 ap11
   have h267 := u49.box h29 ap12
   have h268 := u49.vec h30 ap13
   have h269 := u49.tree h31 ap14
   refine Opl.nil (Evr.seq (Evr.frzcT [.lit (.slice none 0 0)] [] h264 h269 ap14 ?_))
   rintro pv39 S1_ S h270 u50 u51 h271
   have h272 := u51.sameP (u50.sameP h265 ap7) ap10
   have h273 := u51.box (u50.box h266 ap8) ap11
   have h274 := u51.box (u50.box h267 ap9) ap12
   have h275 := u51.vec (u50.vec h268 ap3) ap13
   have h276 : Sl cIRule r1.2.2 pv39 := h270
   have h277 : Box (.ptr i2 0) [.lit (.slice none 0 0), pv39] S := h271
   refine Evr.regionN rfl (Opl.ldb (v := .agg [.lit (.slice none 0 0), pv39]) h277 rfl T26 rfl rfl rfl rfl (Opl.stb (vs := [.lit (.slice none 0 0), pv39]) h274 rfl rfl Z26 rfl (Nat.le_of_ble_eq_true rfl) (by simp only [List.all_cons, List.all_nil, h276.one, Bool.and_true, Bool.true_and] <;> rfl) rfl rfl rfl ?_))
   rintro S (h278 : Box (.ptr i1 0) [.lit (.slice none 0 0), pv39] _) u52
   have h279 := u52.sameP h272 ap1
   have h280 := u52.box h273 ap2
   have h281 := u52.vec h275 ap6.symm
   have h282 := u52.box h277 ap12.symm
   refine Opl.nil ?_
   obtain rfl := sinj H
   refine Evr.retb (v := .agg [.lit (.slice none 0 0), pv39]) Try.func49 rfl h278 rfl T26 rfl ?_
   exact ⟨_, _, rfl, .nil, h276, h280, h279⟩
  rw [if_neg c16] at H
  have e18 : (r3.2 == 4) = false := by simpa using c16
  try rw [e18]
  refine Evr.condF rfl (Evr.sr rfl (Opl.p1 (v := .ptr i2 1) (n := Opl.ldb (v := pv2) h32 rfl T24 rfl rfl rfl rfl (Opl.leno (by exact oRow_len h31) K24 rfl rfl rfl rfl (Opl.p1 (n := Opl.nil ?_))))))
  by_cases c17 : (r1.2.2.length : Int) > 0
  case neg =>
   rw [if_neg c17] at H
   have e20 : (decide ((r1.2.2.length : Int) > 0)) = false := by simpa using c17
   try rw [e20]
   refine Evr.condF rfl (Evr.skip (Evr.seq (Evr.frzc [] [pv2] h32 h30 ap13 ?_)))
   rintro pv51 S1_ S h329 u60 u61 h330
   have h331 := u61.sameP (u60.sameP h28 ap4) ap10
   have h332 := u61.box (u60.box h27 ap5) ap11
   have h333 := u61.box (u60.box h29 ap6) ap12
   have h334 := u61.tree (u60.tree h31 ap3) ap14
   have h335 : Sl cIVar r1.2.1 pv51 := h329
   have h336 : Box (.ptr i2 0) [pv51, pv2] S := h330
   refine Evr.frzcT [pv51] [] h336 h334 ap14 ?_
   rintro pv52 S1_ S h337 u62 u63 h338
   have h339 := u63.sameP (u62.sameP h331 ap7) ap10
   have h340 := u63.box (u62.box h332 ap8) ap11
   have h341 := u63.box (u62.box h333 ap9) ap12
   have h342 : Sl cIRule r1.2.2 pv52 := h337
   have h343 : Box (.ptr i2 0) [pv51, pv52] S := h338
   refine Evr.regionN rfl (Opl.ldb (v := .agg [pv51, pv52]) h343 rfl T26 rfl rfl rfl rfl (Opl.stb (vs := [pv51, pv52]) h341 rfl rfl Z26 rfl (Nat.le_of_ble_eq_true rfl) (by simp only [List.all_cons, List.all_nil, h335.one, h342.one, Bool.and_true, Bool.true_and] <;> rfl) rfl rfl rfl ?_))
   rintro S (h344 : Box (.ptr i1 0) [pv51, pv52] _) u64
   have h345 := u64.sameP h339 ap1
   have h346 := u64.box h340 ap2
   have h347 := u64.box h343 ap12.symm
   refine Opl.nil ?_
   obtain rfl := sinj H
   refine Evr.retb (v := .agg [pv51, pv52]) Try.func49 rfl h344 rfl T26 rfl ?_
   exact ⟨_, _, rfl, h335, h342, h346, h345⟩
  rw [if_pos c17] at H
  have e19 : (decide ((r1.2.2.length : Int) > 0)) = true := by simpa using c17
  try rw [e19]
  refine Evr.condT rfl ?_
  obtain ⟨d8, pv40, pv41, pv42, q10, j4, rfl, h283, h284, h285, h286, h287, ap49, ap50, ap51, ap52, ap53, ap54, z17, z18, z19, z20⟩ := od3_open0 h31 (zIRule : IRule) (by omega)
  refine Evr.regionL [(8, .p), (9, .p), (1, .q), (3, .q), (6, .q), (10, .m)] rfl (by kernel_rfl) (Opl.p1 (v := .ptr i2 1) (n := Opl.ldbk (v := .loc d8 0 r1.2.2.length) h32 rfl rfl T24 rfl rfl rfl rfl (Opl.p1 (v := .ptr i2 1) (n := Opl.ldbk (v := .loc d8 0 r1.2.2.length) h32 rfl rfl T24 rfl rfl rfl rfl (Opl.id0 rfl rfl (by omega) K24 Z106 rfl rfl (Opl.p1 (v := .ptr d8 2) (n := Opl.ldok (v := pv42) h283 (rd_row (by decide)) rfl T104 rfl rfl rfl rfl ?_)))))))
  obtain ⟨r7, h_r7, H⟩ := obs H
  refine Opl.call (spec_l2Const.ev h_r7) rfl rfl rfl rfl ⟨(.lit _), trivial⟩ (by decide) ?_
  rintro _ ⟨_, _, _, _, rfl, rfl, rfl, rfl, rfl⟩
  refine Opl.liti (M := cITerm) (ys := [(⟨r7.1, r7.2.1, r7.2.2.1, r7.2.2.2⟩ : ITerm)]) [.tmp 92] K66 T128 rfl rfl rfl (by exact ⟨cITerm_mk, trivial⟩) rfl (by decide) rfl rfl ?_
  rintro pv45 h289
  refine Opl.liti (M := (cSl cITerm)) (ys := [[(⟨r7.1, r7.2.1, r7.2.2.1, r7.2.2.2⟩ : ITerm)]]) [.tmp 93] K104 T66 rfl rfl rfl (by exact ⟨⟨_, by first | rfl | exact h289.cells, h289⟩, trivial⟩) rfl (by decide) rfl rfl ?_
  rintro pv47 h290
  obtain ⟨c18, H⟩ := peel H
  refine Opl.appm rfl (M := (cSl cITerm)) (xs := ((r1.2.2.getD 0 (zIRule : IRule)).f2)) (ys := [[(⟨r7.1, r7.2.1, r7.2.2.1, r7.2.2.2⟩ : ITerm)]]) (v := pv42) h286 (.sl h290) (oSl cITerm) rfl rfl K104 T66 rfl rfl (by (try simp only [List.length_cons, List.length_nil]); omega) (by show (_ + _) * 24 ≤ 140737488355328; (try simp only [List.length_cons, List.length_nil]); omega) rfl rfl rfl rfl rfl ?_
  rintro pv48 S h291 u53 w20
  have ap55 := w20.sameP h28
  have h292 := u53.sameP h28 (OutT.sub ap7 z18)
  have ap56 := w20.box h27
  have h293 := u53.box h27 (ApT.sub ap8 z18).ap
  have ap57 := w20.box h29
  have h294 := u53.box h29 (ApT.sub ap9 z18).ap
  have ap58 := w20.vec h30
  have h295 := u53.vec h30 (ApT.sub ap3 z18).ap
  have ap59 := w20.box h32
  have h296 := u53.box h32 (ApT.sub ap14 z18).ap
  have ap60 := w20.vec h285
  have h297 := u53.vec h285 ap49
  have ap61 := w20.rows h287
  have h298 := u53.rows h287 ap53
  have ap62 := w20.obj h283
  have h299 := u53.obj h283 ap51.symm
  refine Opl.id0 rfl rfl (by omega) K24 Z106 rfl rfl (Opl.p1 (v := .ptr d8 2) (n := Opl.stob (cs' := pv40 :: pv41 :: pv48 :: q10) (vs := [pv48]) h299 rfl (by exact Vec.cells h291) rfl Z104 rfl (by simp only [List.length_cons]; omega) (by simp only [List.all_cons, List.all_nil, Vec.one h291, Bool.and_true, Bool.true_and] <;> rfl) rfl rfl rfl ?_))
  rintro S h300 u54
  have h301 := u54.sameP h292 (OutT.sub ap7 z19)
  have h302 := u54.box h293 (ApT.sub ap8 z19).ap
  have h303 := u54.box h294 (ApT.sub ap9 z19).ap
  have h304 := u54.vec h295 (ApT.sub ap3 z19).ap
  have h305 := u54.box h296 (ApT.sub ap14 z19).ap
  have h306 := u54.vec h297 ap50
  have h307 := u54.rows h298 ap54
  have h308 := u54.vec h291 ap62.symm
  have h309 : (oRow odIRule).R S (d8 :: ((pv41.id?.toList ++ pv48.id?.toList) ++ j4)) ((⟨(r1.2.2.getD 0 (zIRule : IRule)).f0, (r1.2.2.getD 0 (zIRule : IRule)).f1, (((r1.2.2.getD 0 (zIRule : IRule)).f2) ++ [[(⟨r7.1, r7.2.1, r7.2.2.1, r7.2.2.2⟩ : ITerm)]])⟩ : IRule) :: r1.2.2.tail) [(PV.loc d8 0 r1.2.2.length)] := od3_close0 (l := r1.2.2) rfl (by rw [List.length_tail]; omega) h300 h284 h306 h308 h307 ap60 ap50 ap62.symm ap52 ap61 ap54
  refine Opl.nil (Evr.seq (Evr.frzc [] [(PV.loc d8 0 r1.2.2.length)] h305 h304 ap13 ?_))
  rintro pv49 S1_ S h310 u55 u56 h311
  have h312 := u56.sameP (u55.sameP h301 ap4) ap10
  have h313 := u56.box (u55.box h302 ap5) ap11
  have h314 := u56.box (u55.box h303 ap6) ap12
  have h315 := u56.tree (u55.tree h309 (ApT.cons (ApT.sub ap3 z19).ap ((ApT.app (Ap.apT (ApT.sub ap3 z17).ap) (Ap.apT ap58)).app (ApT.sub ap3 z20)))) (ApT.cons (ApT.sub ap14 z19).ap ((ApT.app (Ap.apT (ApT.sub ap14 z17).ap) (Ap.apT ap59)).app (ApT.sub ap14 z20)))
  have h316 : Sl cIVar r1.2.1 pv49 := h310
  have h317 : Box (.ptr i2 0) [pv49, (PV.loc d8 0 r1.2.2.length)] S := h311
  refine Evr.frzcT [pv49] [] h317 h315 (ApT.cons (ApT.sub ap14 z19).ap ((ApT.app (Ap.apT (ApT.sub ap14 z17).ap) (Ap.apT ap59)).app (ApT.sub ap14 z20))) ?_
  rintro pv50 S1_ S h318 u57 u58 h319
  have h320 := u58.sameP (u57.sameP h312 (OutT.cons (OutT.sub ap7 z19) ((OutT.app (OutT.sub ap7 z17) ap55).app (OutT.sub ap7 z20)))) ap10
  have h321 := u58.box (u57.box h313 (ApT.cons (ApT.sub ap8 z19).ap ((ApT.app (Ap.apT (ApT.sub ap8 z17).ap) (Ap.apT ap56)).app (ApT.sub ap8 z20)))) ap11
  have h322 := u58.box (u57.box h314 (ApT.cons (ApT.sub ap9 z19).ap ((ApT.app (Ap.apT (ApT.sub ap9 z17).ap) (Ap.apT ap57)).app (ApT.sub ap9 z20)))) ap12
  have h323 : Sl cIRule ((⟨(r1.2.2.getD 0 (zIRule : IRule)).f0, (r1.2.2.getD 0 (zIRule : IRule)).f1, (((r1.2.2.getD 0 (zIRule : IRule)).f2) ++ [[(⟨r7.1, r7.2.1, r7.2.2.1, r7.2.2.2⟩ : ITerm)]])⟩ : IRule) :: r1.2.2.tail) pv50 := h318
  have h324 : Box (.ptr i2 0) [pv49, pv50] S := h319
  refine Evr.regionN rfl (Opl.ldb (v := .agg [pv49, pv50]) h324 rfl T26 rfl rfl rfl rfl (Opl.stb (vs := [pv49, pv50]) h322 rfl rfl Z26 rfl (Nat.le_of_ble_eq_true rfl) (by simp only [List.all_cons, List.all_nil, h316.one, h323.one, Bool.and_true, Bool.true_and] <;> rfl) rfl rfl rfl ?_))
  rintro S (h325 : Box (.ptr i1 0) [pv49, pv50] _) u59
  have h326 := u59.sameP h320 ap1
  have h327 := u59.box h321 ap2
  have h328 := u59.box h324 ap12.symm
  refine Opl.nil ?_
  obtain rfl := sinj H
  refine Evr.retb (v := .agg [pv49, pv50]) Try.func49 rfl h325 rfl T26 rfl ?_
  exact ⟨_, _, rfl, h316, h323, h327, h326⟩
 rw [if_pos c10] at H
 have e9 : (r3.2 == 3) = true := by simpa using c10
 try rw [e9]
 refine Opl.p1 (v := .ptr i2 1) (n := Opl.ldb (v := pv2) h32 rfl T24 rfl rfl rfl rfl (Opl.leno (by exact oRow_len h31) K24 rfl rfl rfl rfl (Opl.p1 (n := Opl.p1 (n := Opl.nil ?_)))))
 by_cases c11 : (r1.2.2.length : Int) > 0
 case pos =>
  rw [if_pos c11] at H
  have e10 : (decide ((r1.2.2.length : Int) > 0)) = true := by simpa using c11
  try rw [e10]
  refine Evr.condT rfl ?_
  obtain ⟨d6, pv17, pv18, pv19, q8, j2, rfl, h136, h137, h138, h139, h140, ap21, ap22, ap23, ap24, ap25, ap26, z9, z10, z11, z12⟩ := od3_open0 h31 (zIRule : IRule) (by omega)
  refine Evr.regionL [(10, .p), (1, .q), (3, .q), (6, .q), (8, .q), (11, .m)] rfl (by kernel_rfl) (Opl.p1 (v := .ptr i2 1) (n := Opl.ldbk (v := .loc d6 0 r1.2.2.length) h32 rfl rfl T24 rfl rfl rfl rfl (Opl.p1 (v := .ptr i2 1) (n := Opl.ldbk (v := .loc d6 0 r1.2.2.length) h32 rfl rfl T24 rfl rfl rfl rfl ?_))))
  obtain ⟨c12, H⟩ := peel H
  refine Opl.id0 rfl rfl (by omega) K24 Z106 rfl rfl (Opl.p1 (v := .ptr d6 1) (n := Opl.ldok (v := pv18) h136 (rd_row (by decide)) rfl T27 rfl rfl rfl rfl (Opl.p1 (v := .ptr i2 0) (n := Opl.ldbk (v := pv1) h32 rfl rfl T23 rfl rfl rfl rfl (Opl.lenv (xs := r1.2.1) (by exact h30) K23 rfl rfl rfl rfl (Opl.liti (M := (cInt .i64)) (ys := [(r1.2.1.length : Int)]) [.tmp 73] K27 T3 rfl rfl rfl (by exact ⟨rfl, trivial⟩) rfl (by decide) rfl rfl ?_))))))
  rintro pv21 h141
  refine Opl.appm rfl (M := (cInt .i64)) (xs := ((r1.2.2.getD 0 (zIRule : IRule)).f1)) (ys := [(r1.2.1.length : Int)]) (v := pv18) h138 (.sl h141) (oInt .i64) rfl rfl K27 T3 rfl rfl (by (try simp only [List.length_cons, List.length_nil]); omega) (by show (_ + _) * 8 ≤ 140737488355328; (try simp only [List.length_cons, List.length_nil]); omega) rfl rfl rfl rfl rfl ?_
  rintro pv22 S h142 u26 w9
  have ap27 := w9.sameP h28
  have h143 := u26.sameP h28 (OutT.sub ap7 z9)
  have ap28 := w9.box h27
  have h144 := u26.box h27 (ApT.sub ap8 z9).ap
  have ap29 := w9.box h29
  have h145 := u26.box h29 (ApT.sub ap9 z9).ap
  have ap30 := w9.vec h30
  have h146 := u26.vec h30 (ApT.sub ap3 z9).ap
  have ap31 := w9.box h32
  have h147 := u26.box h32 (ApT.sub ap14 z9).ap
  have ap32 := w9.vec h139
  have h148 := u26.vec h139 ap21.symm
  have ap33 := w9.rows h140
  have h149 := u26.rows h140 ap24
  have ap34 := w9.obj h136
  have h150 := u26.obj h136 ap22.symm
  refine Opl.id0 rfl rfl (by omega) K24 Z106 rfl rfl (Opl.p1 (v := .ptr d6 1) (n := Opl.stob (cs' := pv17 :: pv22 :: pv19 :: q8) (vs := [pv22]) h150 rfl (by exact Vec.cells h142) rfl Z27 rfl (by simp only [List.length_cons]; omega) (by simp only [List.all_cons, List.all_nil, Vec.one h142, Bool.and_true, Bool.true_and] <;> rfl) rfl rfl rfl ?_))
  rintro S h151 u27
  have h152 := u27.sameP h143 (OutT.sub ap7 z11)
  have h153 := u27.box h144 (ApT.sub ap8 z11).ap
  have h154 := u27.box h145 (ApT.sub ap9 z11).ap
  have h155 := u27.vec h146 (ApT.sub ap3 z11).ap
  have h156 := u27.box h147 (ApT.sub ap14 z11).ap
  have h157 := u27.vec h148 ap23
  have h158 := u27.rows h149 ap26
  have h159 := u27.vec h142 ap34.symm
  have h160 : (oRow odIRule).R S (d6 :: ((pv22.id?.toList ++ pv19.id?.toList) ++ j2)) ((⟨(r1.2.2.getD 0 (zIRule : IRule)).f0, (((r1.2.2.getD 0 (zIRule : IRule)).f1) ++ [(r1.2.1.length : Int)]), (r1.2.2.getD 0 (zIRule : IRule)).f2⟩ : IRule) :: r1.2.2.tail) [(PV.loc d6 0 r1.2.2.length)] := od3_close0 (l := r1.2.2) rfl (by rw [List.length_tail]; omega) h151 h137 h159 h157 h158 ap32.symm ap34.symm ap23 ap33 ap25 ap26
  refine Opl.nil (Evr.seq (Evr.frzc [] [(PV.loc d6 0 r1.2.2.length)] h156 h155 ap13 ?_))
  rintro pv23 S1_ S h161 u28 u29 h162
  have h163 := u29.sameP (u28.sameP h152 ap4) ap10
  have h164 := u29.box (u28.box h153 ap5) ap11
  have h165 := u29.box (u28.box h154 ap6) ap12
  have h166 := u29.tree (u28.tree h160 (ApT.cons (ApT.sub ap3 z11).ap ((ApT.app (Ap.apT ap30) (Ap.apT (ApT.sub ap3 z10).ap)).app (ApT.sub ap3 z12)))) (ApT.cons (ApT.sub ap14 z11).ap ((ApT.app (Ap.apT ap31) (Ap.apT (ApT.sub ap14 z10).ap)).app (ApT.sub ap14 z12)))
  have h167 : Sl cIVar r1.2.1 pv23 := h161
  have h168 : Box (.ptr i2 0) [pv23, (PV.loc d6 0 r1.2.2.length)] S := h162
  refine Evr.frzcT [pv23] [] h168 h166 (ApT.cons (ApT.sub ap14 z11).ap ((ApT.app (Ap.apT ap31) (Ap.apT (ApT.sub ap14 z10).ap)).app (ApT.sub ap14 z12))) ?_
  rintro pv24 S1_ S h169 u30 u31 h170
  have h171 := u31.sameP (u30.sameP h163 (OutT.cons (OutT.sub ap7 z11) ((OutT.app ap27 (OutT.sub ap7 z10)).app (OutT.sub ap7 z12)))) ap10
  have h172 := u31.box (u30.box h164 (ApT.cons (ApT.sub ap8 z11).ap ((ApT.app (Ap.apT ap28) (Ap.apT (ApT.sub ap8 z10).ap)).app (ApT.sub ap8 z12)))) ap11
  have h173 := u31.box (u30.box h165 (ApT.cons (ApT.sub ap9 z11).ap ((ApT.app (Ap.apT ap29) (Ap.apT (ApT.sub ap9 z10).ap)).app (ApT.sub ap9 z12)))) ap12
  have h174 : Sl cIRule ((⟨(r1.2.2.getD 0 (zIRule : IRule)).f0, (((r1.2.2.getD 0 (zIRule : IRule)).f1) ++ [(r1.2.1.length : Int)]), (r1.2.2.getD 0 (zIRule : IRule)).f2⟩ : IRule) :: r1.2.2.tail) pv24 := h169
  have h175 : Box (.ptr i2 0) [pv23, pv24] S := h170
  refine Evr.regionN rfl (Opl.ldb (v := .agg [pv23, pv24]) h175 rfl T26 rfl rfl rfl rfl (Opl.stb (vs := [pv23, pv24]) h173 rfl rfl Z26 rfl (Nat.le_of_ble_eq_true rfl) (by simp only [List.all_cons, List.all_nil, h167.one, h174.one, Bool.and_true, Bool.true_and] <;> rfl) rfl rfl rfl ?_))
  rintro S (h176 : Box (.ptr i1 0) [pv23, pv24] _) u32
  have h177 := u32.sameP h171 ap1
  have h178 := u32.box h172 ap2
  have h179 := u32.box h175 ap12.symm
  refine Opl.nil ?_
  obtain rfl := sinj H
  refine Evr.retb (v := .agg [pv23, pv24]) Try.func49 rfl h176 rfl T26 rfl ?_
  exact ⟨_, _, rfl, h167, h174, h178, h177⟩
 rw [if_neg c11] at H
 have e11 : (decide ((r1.2.2.length : Int) > 0)) = false := by simpa using c11
 try rw [e11]
 refine Evr.condF rfl (Evr.sr rfl (Opl.p1 (n := Opl.p1 (n := Opl.nil ?_))))
 by_cases c13 : r3.2 = 4
 case pos =>
  rw [if_pos c13] at H
  have e12 : (r3.2 == 4) = true := by simpa using c13
  try rw [e12]
  refine Evr.condT rfl (Evr.regionN rfl (Opl.p1 (v := .ptr i2 0) (n := Opl.stb (vs := [.lit (.slice none 0 0)]) h32 rfl rfl Z23 rfl (Nat.le_of_ble_eq_true rfl) rfl rfl rfl rfl ?_)))
  rintro S (h180 : Box (.ptr i2 0) [.lit (.slice none 0 0), pv2] _) u33
  have h181 := u33.sameP h28 ap10
  have h182 := u33.box h27 ap11
  have h183 := u33.box h29 ap12
  have h184 := u33.vec h30 ap13
  have h185 := u33.tree h31 ap14
  refine Opl.nil (Evr.seq (Evr.frzcT [.lit (.slice none 0 0)] [] h180 h185 ap14 ?_))
  rintro pv25 S1_ S h186 u34 u35 h187
  have h188 := u35.sameP (u34.sameP h181 ap7) ap10
  have h189 := u35.box (u34.box h182 ap8) ap11
  have h190 := u35.box (u34.box h183 ap9) ap12
  have h191 := u35.vec (u34.vec h184 ap3) ap13
  have h192 : Sl cIRule r1.2.2 pv25 := h186
  have h193 : Box (.ptr i2 0) [.lit (.slice none 0 0), pv25] S := h187
  refine Evr.regionN rfl (Opl.ldb (v := .agg [.lit (.slice none 0 0), pv25]) h193 rfl T26 rfl rfl rfl rfl (Opl.stb (vs := [.lit (.slice none 0 0), pv25]) h190 rfl rfl Z26 rfl (Nat.le_of_ble_eq_true rfl) (by simp only [List.all_cons, List.all_nil, h192.one, Bool.and_true, Bool.true_and] <;> rfl) rfl rfl rfl ?_))
  rintro S (h194 : Box (.ptr i1 0) [.lit (.slice none 0 0), pv25] _) u36
  have h195 := u36.sameP h188 ap1
  have h196 := u36.box h189 ap2
  have h197 := u36.vec h191 ap6.symm
  have h198 := u36.box h193 ap12.symm
  refine Opl.nil ?_
  obtain rfl := sinj H
  refine Evr.retb (v := .agg [.lit (.slice none 0 0), pv25]) Try.func49 rfl h194 rfl T26 rfl ?_
  exact ⟨_, _, rfl, .nil, h192, h196, h195⟩
 rw [if_neg c13] at H
 have e13 : (r3.2 == 4) = false := by simpa using c13
 try rw [e13]
 refine Evr.condF rfl (Evr.sr rfl (Opl.p1 (v := .ptr i2 1) (n := Opl.ldb (v := pv2) h32 rfl T24 rfl rfl rfl rfl (Opl.leno (by exact oRow_len h31) K24 rfl rfl rfl rfl (Opl.p1 (n := Opl.nil ?_))))))
 by_cases c14 : (r1.2.2.length : Int) > 0
 case neg =>
  rw [if_neg c14] at H
  have e15 : (decide ((r1.2.2.length : Int) > 0)) = false := by simpa using c14
  try rw [e15]
  refine Evr.condF rfl (Evr.skip (Evr.seq (Evr.frzc [] [pv2] h32 h30 ap13 ?_)))
  rintro pv37 S1_ S h245 u44 u45 h246
  have h247 := u45.sameP (u44.sameP h28 ap4) ap10
  have h248 := u45.box (u44.box h27 ap5) ap11
  have h249 := u45.box (u44.box h29 ap6) ap12
  have h250 := u45.tree (u44.tree h31 ap3) ap14
  have h251 : Sl cIVar r1.2.1 pv37 := h245
  have h252 : Box (.ptr i2 0) [pv37, pv2] S := h246
  refine Evr.frzcT [pv37] [] h252 h250 ap14 ?_
  rintro pv38 S1_ S h253 u46 u47 h254
  have h255 := u47.sameP (u46.sameP h247 ap7) ap10
  have h256 := u47.box (u46.box h248 ap8) ap11
  have h257 := u47.box (u46.box h249 ap9) ap12
  have h258 : Sl cIRule r1.2.2 pv38 := h253
  have h259 : Box (.ptr i2 0) [pv37, pv38] S := h254
  refine Evr.regionN rfl (Opl.ldb (v := .agg [pv37, pv38]) h259 rfl T26 rfl rfl rfl rfl (Opl.stb (vs := [pv37, pv38]) h257 rfl rfl Z26 rfl (Nat.le_of_ble_eq_true rfl) (by simp only [List.all_cons, List.all_nil, h251.one, h258.one, Bool.and_true, Bool.true_and] <;> rfl) rfl rfl rfl ?_))
  rintro S (h260 : Box (.ptr i1 0) [pv37, pv38] _) u48
  have h261 := u48.sameP h255 ap1
  have h262 := u48.box h256 ap2
  have h263 := u48.box h259 ap12.symm
  refine Opl.nil ?_
  obtain rfl := sinj H
  refine Evr.retb (v := .agg [pv37, pv38]) Try.func49 rfl h260 rfl T26 rfl ?_
  exact ⟨_, _, rfl, h251, h258, h262, h261⟩
 rw [if_pos c14] at H
 have e14 : (decide ((r1.2.2.length : Int) > 0)) = true := by simpa using c14
 try rw [e14]
 refine Evr.condT rfl ?_
 obtain ⟨d7, pv26, pv27, pv28, q9, j3, rfl, h199, h200, h201, h202, h203, ap35, ap36, ap37, ap38, ap39, ap40, z13, z14, z15, z16⟩ := od3_open0 h31 (zIRule : IRule) (by omega)
 refine Evr.regionL [(8, .p), (9, .p), (1, .q), (3, .q), (6, .q), (10, .m)] rfl (by kernel_rfl) (Opl.p1 (v := .ptr i2 1) (n := Opl.ldbk (v := .loc d7 0 r1.2.2.length) h32 rfl rfl T24 rfl rfl rfl rfl (Opl.p1 (v := .ptr i2 1) (n := Opl.ldbk (v := .loc d7 0 r1.2.2.length) h32 rfl rfl T24 rfl rfl rfl rfl (Opl.id0 rfl rfl (by omega) K24 Z106 rfl rfl (Opl.p1 (v := .ptr d7 2) (n := Opl.ldok (v := pv28) h199 (rd_row (by decide)) rfl T104 rfl rfl rfl rfl ?_)))))))
 obtain ⟨r6, h_r6, H⟩ := obs H
 refine Opl.call (spec_l2Const.ev h_r6) rfl rfl rfl rfl ⟨(.lit _), trivial⟩ (by decide) ?_
 rintro _ ⟨_, _, _, _, rfl, rfl, rfl, rfl, rfl⟩
 refine Opl.liti (M := cITerm) (ys := [(⟨r6.1, r6.2.1, r6.2.2.1, r6.2.2.2⟩ : ITerm)]) [.tmp 92] K66 T128 rfl rfl rfl (by exact ⟨cITerm_mk, trivial⟩) rfl (by decide) rfl rfl ?_
 rintro pv31 h205
 refine Opl.liti (M := (cSl cITerm)) (ys := [[(⟨r6.1, r6.2.1, r6.2.2.1, r6.2.2.2⟩ : ITerm)]]) [.tmp 93] K104 T66 rfl rfl rfl (by exact ⟨⟨_, by first | rfl | exact h205.cells, h205⟩, trivial⟩) rfl (by decide) rfl rfl ?_
 rintro pv33 h206
 obtain ⟨c15, H⟩ := peel H
 refine Opl.appm rfl (M := (cSl cITerm)) (xs := ((r1.2.2.getD 0 (zIRule : IRule)).f2)) (ys := [[(⟨r6.1, r6.2.1, r6.2.2.1, r6.2.2.2⟩ : ITerm)]]) (v := pv28) h202 (.sl h206) (oSl cITerm) rfl rfl K104 T66 rfl rfl (by (try simp only [List.length_cons, List.length_nil]); omega) (by show (_ + _) * 24 ≤ 140737488355328; (try simp only [List.length_cons, List.length_nil]); omega) rfl rfl rfl rfl rfl ?_
 rintro pv34 S h207 u37 w14
 have ap41 := w14.sameP h28
 have h208 := u37.sameP h28 (OutT.sub ap7 z14)
 have ap42 := w14.box h27
 have h209 := u37.box h27 (ApT.sub ap8 z14).ap
 have ap43 := w14.box h29
 have h210 := u37.box h29 (ApT.sub ap9 z14).ap
 have ap44 := w14.vec h30
 have h211 := u37.vec h30 (ApT.sub ap3 z14).ap
 have ap45 := w14.box h32
 have h212 := u37.box h32 (ApT.sub ap14 z14).ap
 have ap46 := w14.vec h201
 have h213 := u37.vec h201 ap35
 have ap47 := w14.rows h203
 have h214 := u37.rows h203 ap39
 have ap48 := w14.obj h199
 have h215 := u37.obj h199 ap37.symm
 refine Opl.id0 rfl rfl (by omega) K24 Z106 rfl rfl (Opl.p1 (v := .ptr d7 2) (n := Opl.stob (cs' := pv26 :: pv27 :: pv34 :: q9) (vs := [pv34]) h215 rfl (by exact Vec.cells h207) rfl Z104 rfl (by simp only [List.length_cons]; omega) (by simp only [List.all_cons, List.all_nil, Vec.one h207, Bool.and_true, Bool.true_and] <;> rfl) rfl rfl rfl ?_))
 rintro S h216 u38
 have h217 := u38.sameP h208 (OutT.sub ap7 z15)
 have h218 := u38.box h209 (ApT.sub ap8 z15).ap
 have h219 := u38.box h210 (ApT.sub ap9 z15).ap
 have h220 := u38.vec h211 (ApT.sub ap3 z15).ap
 have h221 := u38.box h212 (ApT.sub ap14 z15).ap
 have h222 := u38.vec h213 ap36
 have h223 := u38.rows h214 ap40
 have h224 := u38.vec h207 ap48.symm
 have h225 : (oRow odIRule).R S (d7 :: ((pv27.id?.toList ++ pv34.id?.toList) ++ j3)) ((⟨(r1.2.2.getD 0 (zIRule : IRule)).f0, (r1.2.2.getD 0 (zIRule : IRule)).f1, (((r1.2.2.getD 0 (zIRule : IRule)).f2) ++ [[(⟨r6.1, r6.2.1, r6.2.2.1, r6.2.2.2⟩ : ITerm)]])⟩ : IRule) :: r1.2.2.tail) [(PV.loc d7 0 r1.2.2.length)] := od3_close0 (l := r1.2.2) rfl (by rw [List.length_tail]; omega) h216 h200 h222 h224 h223 ap46 ap36 ap48.symm ap38 ap47 ap40
 refine Opl.nil (Evr.seq (Evr.frzc [] [(PV.loc d7 0 r1.2.2.length)] h221 h220 ap13 ?_))
 rintro pv35 S1_ S h226 u39 u40 h227
 have h228 := u40.sameP (u39.sameP h217 ap4) ap10
 have h229 := u40.box (u39.box h218 ap5) ap11
 have h230 := u40.box (u39.box h219 ap6) ap12
 have h231 := u40.tree (u39.tree h225 (ApT.cons (ApT.sub ap3 z15).ap ((ApT.app (Ap.apT (ApT.sub ap3 z13).ap) (Ap.apT ap44)).app (ApT.sub ap3 z16)))) (ApT.cons (ApT.sub ap14 z15).ap ((ApT.app (Ap.apT (ApT.sub ap14 z13).ap) (Ap.apT ap45)).app (ApT.sub ap14 z16)))
 have h232 : Sl cIVar r1.2.1 pv35 := h226
 have h233 : Box (.ptr i2 0) [pv35, (PV.loc d7 0 r1.2.2.length)] S := h227
 refine Evr.frzcT [pv35] [] h233 h231 (ApT.cons (ApT.sub ap14 z15).ap ((ApT.app (Ap.apT (ApT.sub ap14 z13).ap) (Ap.apT ap45)).app (ApT.sub ap14 z16))) ?_
 rintro pv36 S1_ S h234 u41 u42 h235
 have h236 := u42.sameP (u41.sameP h228 (OutT.cons (OutT.sub ap7 z15) ((OutT.app (OutT.sub ap7 z13) ap41).app (OutT.sub ap7 z16)))) ap10
 have h237 := u42.box (u41.box h229 (ApT.cons (ApT.sub ap8 z15).ap ((ApT.app (Ap.apT (ApT.sub ap8 z13).ap) (Ap.apT ap42)).app (ApT.sub ap8 z16)))) ap11
 have h238 := u42.box (u41.box h230 (ApT.cons (ApT.sub ap9 z15).ap ((ApT.app (Ap.apT (ApT.sub ap9 z13).ap) (Ap.apT ap43)).app (ApT.sub ap9 z16)))) ap12
 have h239 : Sl cIRule ((⟨(r1.2.2.getD 0 (zIRule : IRule)).f0, (r1.2.2.getD 0 (zIRule : IRule)).f1, (((r1.2.2.getD 0 (zIRule : IRule)).f2) ++ [[(⟨r6.1, r6.2.1, r6.2.2.1, r6.2.2.2⟩ : ITerm)]])⟩ : IRule) :: r1.2.2.tail) pv36 := h234
 have h240 : Box (.ptr i2 0) [pv35, pv36] S := h235
 refine Evr.regionN rfl (Opl.ldb (v := .agg [pv35, pv36]) h240 rfl T26 rfl rfl rfl rfl (Opl.stb (vs := [pv35, pv36]) h238 rfl rfl Z26 rfl (Nat.le_of_ble_eq_true rfl) (by simp only [List.all_cons, List.all_nil, h232.one, h239.one, Bool.and_true, Bool.true_and] <;> rfl) rfl rfl rfl ?_))
 rintro S (h241 : Box (.ptr i1 0) [pv35, pv36] _) u43
 have h242 := u43.sameP h236 ap1
 have h243 := u43.box h237 ap2
 have h244 := u43.box h240 ap12.symm
 refine Opl.nil ?_
 obtain rfl := sinj H
 refine Evr.retb (v := .agg [pv35, pv36]) Try.func49 rfl h241 rfl T26 rfl ?_
 exact ⟨_, _, rfl, h232, h239, h243, h242⟩
theorem spec_l2Some.evb {k : Nat} {S0 : Sto} {l0_0 : List Int} {a0_1 : Int} {i0 : Abs.Id} {q0 : PV} (hq0 : Sl (cInt .u8) l0_0 q0) (hb0 : Box (.ptr i0 0) [q0, .lit (.int .i64 a0_1)] S0) {l1_0 : List IVar} {v1_0 : PV} (hv1_0 : Sl cIVar l1_0 v1_0) {l1_1 : List IRule} {v1_1 : PV} (hv1_1 : Sl cIRule l1_1 v1_1) {r : Int × (List Int)} (H : spec_l2Some.f k l0_0 a0_1 l1_0 l1_1 = some r) : RetS Try.prog 146 [.ptr i0 0, .agg [v1_0, v1_1]] S0 fun v S => Sl (cInt .i64) r.2 v ∧ Box (.ptr i0 0) [q0, .lit (.int .i64 r.1)] S ∧ Same S0 S [i0] := by
 have hs0 : Same S0 S0 [i0] := .refl _ _
 unfold spec_l2Some.f at H
 refine RetS.intro Try.func146 rfl (Nat.le_of_ble_eq_true rfl) rfl ?_
 rw [tm2]
 refine Evr.sr rfl (Opl.box (cs := [v1_0, v1_1]) rfl rfl rfl rfl ?_)
 rintro i1 S h1 u1 w1
 have ap1 := w1.sameP hs0
 have h2 := u1.sameP hs0 ap1
 have ap2 := w1.box hb0
 have h3 := u1.box hb0 ap2
 refine Opl.p1 (n := Opl.nil (Evr.sr rfl (Opl.lits (M := (cInt .i64)) (ys := []) [] K27 T3 rfl rfl rfl trivial rfl (by decide) rfl rfl rfl ?_)))
 rintro pv1 S h4 u2 w2
 have ap3 := w2.sameP h2
 have h5 := u2.sameP h2 ap3
 have ap4 := w2.box h3
 have h6 := u2.box h3 ap4
 have ap5 := w2.box h1
 have h7 := u2.box h1 ap5
 refine Opl.p1 (n := Opl.nil (Evr.seq (Evr.sr rfl (Opl.p1 (n := Opl.nil (Evr.block ?_))))))
 refine Evr.loop (Evr.rounds (n := k) (Inv := fun n tm S => n ≤ k ∧ ∃ (x0b1q4_1 : Int) (x5_1 : List Int) (x6_1 : Int) (i2 : Abs.Id) (pv2 : PV), spec_l2Some.l1 n x0b1q4_1 x5_1 x6_1 l0_0 l1_0 l1_1 = some r ∧ Has tm [(0, .ptr i0 0), (3, .ptr i2 0), (5, pv2), (6, .lit (.int .i64 x6_1))] ∧ Box (.ptr i0 0) [q0, .lit (.int .i64 x0b1q4_1)] S ∧ Box (.ptr i2 0) [v1_0, v1_1] S ∧ Vec (cInt .i64) x5_1 pv2 S ∧ Same S0 S [i0] ∧ OutT S0 [i0] (PV.ptr i2 0).id?.toList ∧ OutT S0 [i0] (PV.id? pv2).toList ∧ Ap (.ptr i0 0) (.ptr i2 0) ∧ Ap (.ptr i0 0) pv2 ∧ Ap (.ptr i2 0) pv2) ?_ ?_ ?_)
 · exact ⟨Nat.le_refl _, _, _, _, _, _, H, ⟨rfl, rfl, rfl, rfl, trivial⟩, h6, h7, h4, h5, ap1, ap3, ap2, ap4, ap5⟩
 ·
  rintro tm S ⟨_, _, _, _, _, _, H, -⟩
  simp [spec_l2Some.l1] at H
 ·
  rintro n1 ih1 tm S ⟨hle, x0b1q4_1, x5_1, x6_1, i2, pv2, H, hh, h8, h9, h10, h11, o1, o2, ap6, ap7, ap8⟩
  simp only [spec_l2Some.l1] at H
  rw [hh.eq]
  refine Evr.seq (Evr.sr rfl (Opl.p1 (n := Opl.p1 (v := .ptr i2 0) (n := Opl.ldb (v := v1_0) h9 rfl T23 rfl rfl rfl rfl (Opl.len (xs := l1_0) (by exact hv1_0) K23 rfl rfl rfl rfl (Opl.p1 (n := Opl.nil ?_)))))))
  by_cases c1 : x6_1 < (l1_0.length : Int)
  case neg =>
   rw [if_neg c1] at H
   have e6 : (decide (x6_1 < (l1_0.length : Int))) = false := by simpa using c1
   try rw [e6]
   refine Evr.condF rfl (Evr.exit rfl (Evr.seq (Evr.sr rfl (Opl.p1 (n := ?_)))))
   obtain ⟨r2, h_r2, H⟩ := obs H
   refine Opl.calls (spec_l40Rd_pick.evb hq0 h8 h_r2) rfl rfl rfl rfl rfl ?_
   rintro _ S ⟨rfl, h33, u6⟩
   have h34 := u6.box h9 (ap6.symm).pt
   have h35 := u6.vec h10 (ap7.symm).pt
   have h36 := u6.sameP h11 OutT.box
   refine Opl.p1 (n := Opl.nil ?_)
   by_cases c12 : r2.2 = 0
   case neg =>
    rw [if_neg c12] at H
    have e12 : (r2.2 == 0) = false := by simpa using c12
    try rw [e12]
    refine Evr.condF rfl (Evr.skip (Evr.sr rfl (Opl.p1 (n := Opl.p1 (n := Opl.nil ?_)))))
    refine Evr.frz 4 h35 rfl ?_
    rintro pv19 S h70 u14
    have h71 := u14.box h33 ap7
    have h72 := u14.box h34 ap8
    have h73 := u14.sameP h36 o2
    obtain rfl := sinj H
    refine Evr.ret1 Try.func146 rfl ?_
    exact ⟨h70, h71, h73⟩
   rw [if_pos c12] at H
   have e7 : (r2.2 == 0) = true := by simpa using c12
   try rw [e7]
   refine Evr.condT rfl (Evr.sr rfl (Opl.p1 (n := ?_)))
   obtain ⟨r3, h_r3, H⟩ := obs H
   refine Opl.calls (spec_l40Rd_pick.evb hq0 h33 h_r3) rfl rfl rfl rfl rfl ?_
   rintro _ S ⟨rfl, h37, u7⟩
   have h38 := u7.box h34 (ap6.symm).pt
   have h39 := u7.vec h35 (ap7.symm).pt
   have h40 := u7.sameP h36 OutT.box
   refine Opl.p1 (n := Opl.p1 (n := ?_))
   by_cases c13 : r3.2 = 0
   case pos =>
    rw [if_pos c13] at H
    have e8 : (r3.2 == 0) = true := by simpa using c13
    try rw [e8]
    refine Opl.sk2 rfl rfl (Opl.skp rfl (Opl.p1 (n := Opl.nil (Evr.condT rfl (Evr.regionN rfl (Opl.p1 (n := Opl.liti (M := (cInt .i64)) (ys := [0]) [.const (.int .i64 0)] K27 T3 rfl rfl rfl (by exact ⟨rfl, trivial⟩) rfl (by decide) rfl rfl ?_)))))))
    rintro pv11 h41
    obtain ⟨c14, H⟩ := peel H
    refine Opl.app (M := (cInt .i64)) (xs := x5_1) (ys := [0]) (v := pv2) h39 (.sl h41) (oInt .i64) rfl rfl K27 T3 rfl rfl (by (try simp only [List.length_cons, List.length_nil]); omega) (by show (_ + _) * 8 ≤ 140737488355328; (try simp only [List.length_cons, List.length_nil]); omega) rfl rfl rfl rfl rfl ?_
    rintro pv12 S h42 u8 w5
    have ap18 := w5.box h37
    have h43 := u8.box h37 ap7
    have ap19 := w5.box h38
    have h44 := u8.box h38 ap8
    have ap20 := w5.sameP h40
    have h45 := u8.sameP h40 o2
    refine Opl.p1 (n := Opl.nil (Evr.sr rfl (Opl.p1 (n := Opl.p1 (n := Opl.nil ?_)))))
    refine Evr.frz 4 h42 rfl ?_
    rintro pv13 S h46 u9
    have h47 := u9.box h43 ap18
    have h48 := u9.box h44 ap19
    have h49 := u9.sameP h45 ap20
    obtain rfl := sinj H
    refine Evr.ret1 Try.func146 rfl ?_
    exact ⟨h46, h47, h49⟩
   rw [if_neg c13] at H
   have e9 : (r3.2 == 0) = false := by simpa using c13
   try rw [e9]
   refine Opl.p1 (n := Opl.lenv (xs := x5_1) (by exact h39) K27 rfl rfl rfl rfl (Opl.p1 (n := Opl.p1 (n := Opl.nil ?_))))
   by_cases c15 : (x5_1.length : Int) = 0
   case pos =>
    rw [if_pos c15] at H
    have e10 : ((x5_1.length : Int) == 0) = true := by simpa using c15
    try rw [e10]
    refine Evr.condT rfl (Evr.regionN rfl (Opl.p1 (n := Opl.liti (M := (cInt .i64)) (ys := [0]) [.const (.int .i64 0)] K27 T3 rfl rfl rfl (by exact ⟨rfl, trivial⟩) rfl (by decide) rfl rfl ?_)))
    rintro pv15 h50
    obtain ⟨c16, H⟩ := peel H
    refine Opl.app (M := (cInt .i64)) (xs := x5_1) (ys := [0]) (v := pv2) h39 (.sl h50) (oInt .i64) rfl rfl K27 T3 rfl rfl (by (try simp only [List.length_cons, List.length_nil]); omega) (by show (_ + _) * 8 ≤ 140737488355328; (try simp only [List.length_cons, List.length_nil]); omega) rfl rfl rfl rfl rfl ?_
    rintro pv16 S h51 u10 w6
    have ap21 := w6.box h37
    have h52 := u10.box h37 ap7
    have ap22 := w6.box h38
    have h53 := u10.box h38 ap8
    have ap23 := w6.sameP h40
    have h54 := u10.sameP h40 o2
    refine Opl.p1 (n := Opl.nil (Evr.sr rfl (Opl.p1 (n := Opl.p1 (n := Opl.nil ?_)))))
    refine Evr.frz 4 h51 rfl ?_
    rintro pv17 S h55 u11
    have h56 := u11.box h52 ap21
    have h57 := u11.box h53 ap22
    have h58 := u11.sameP h54 ap23
    obtain rfl := sinj H
    refine Evr.ret1 Try.func146 rfl ?_
    exact ⟨h55, h56, h58⟩
   rw [if_neg c15] at H
   have e11 : ((x5_1.length : Int) == 0) = false := by simpa using c15
   try rw [e11]
   refine Evr.condF rfl (Evr.regionN rfl (Opl.p1 (n := Opl.p1 (v := .ptr i2 0) (n := Opl.ldb (v := v1_0) h38 rfl T23 rfl rfl rfl rfl ?_))))
   obtain ⟨c17, H⟩ := peel H
   obtain ⟨c18, H⟩ := peel H
   refine Opl.idx (M := cIVar) (xs := l1_0) (j := 0) zIVar (by exact hv1_0) rfl (by omega) (by omega) K23 Z101 rfl rfl ?_
   rintro p4 q4 h59
   obtain rfl := cIVar_R (x := (rd_IVar l1_0 0)) h59
   refine Opl.p1 (v := .fel ((.lit (.int .i64 ((rd_IVar l1_0 0).f1))) :: (.lit (.int .i64 ((rd_IVar l1_0 0).f2))) :: q4)) (n := Opl.lda (.lit (.int .i64 ((rd_IVar l1_0 0).f1))) rfl T3 rfl rfl rfl rfl (Opl.add (k := .i64) (a := ((rd_IVar l1_0 0).f1)) (b := 1) K3 rfl rfl rfl rfl (Opl.idv (M := (cInt .i64)) (xs := x5_1) (j := (0 : Int)) (v := pv2) h39 rfl rfl (by omega) (by omega) K27 Z3 rfl rfl ?_)))
   rintro d1 z1 q5 h60 h61
   refine Opl.stv (M := (cInt .i64)) (xs := x5_1) (j := (0 : Int)) (y := (wrap64 (((rd_IVar l1_0 0).f1) + 1))) (vs := [.lit (.int .i64 (wrap64 (((rd_IVar l1_0 0).f1) + 1)))]) h60 h61 (by omega) (by omega) rfl rfl (by exact rfl) Z3 rfl rfl rfl rfl ?_
   rw [← q5]
   rintro S h62 u12
   have h63 := u12.box h37 ap7
   have h64 := u12.box h38 ap8
   have h65 := u12.sameP h40 o2
   refine Opl.nil (Evr.sr rfl (Opl.one (v := pv2) rfl rfl rfl (Opl.one (v := pv2) rfl rfl rfl (Opl.nil ?_))))
   refine Evr.frz 4 h62 rfl ?_
   rintro pv18 S h66 u13
   have h67 := u13.box h63 ap7
   have h68 := u13.box h64 ap8
   have h69 := u13.sameP h65 o2
   obtain rfl := sinj H
   refine Evr.ret1 Try.func146 rfl ?_
   exact ⟨h66, h67, h69⟩
  rw [if_pos c1] at H
  have e1 : (decide (x6_1 < (l1_0.length : Int))) = true := by simpa using c1
  try rw [e1]
  refine Evr.condT rfl (Evr.skip (Evr.seq (Evr.block (Evr.seq (Evr.regionD rfl (by kernel_rfl) (Opl.p1 (v := .ptr i2 0) (n := Opl.ldb (v := v1_0) h9 rfl T23 rfl rfl rfl rfl (Opl.p1 (n := ?_)))))))))
  obtain ⟨c2, H⟩ := peel H
  obtain ⟨c3, H⟩ := peel H
  obtain ⟨c4, H⟩ := peel H
  obtain ⟨c5, H⟩ := peel H
  obtain ⟨c6, H⟩ := peel H
  obtain ⟨c7, H⟩ := peel H
  refine Opl.idx (M := cIVar) (xs := l1_0) (j := x6_1) zIVar (by exact hv1_0) rfl (by omega) (by omega) K23 Z101 rfl rfl ?_
  rintro p1 q1 h12
  obtain rfl := cIVar_R (x := (rd_IVar l1_0 x6_1)) h12
  refine Opl.p1 (v := .fel ((.lit (.int .i64 ((rd_IVar l1_0 x6_1).f1))) :: (.lit (.int .i64 ((rd_IVar l1_0 x6_1).f2))) :: q1)) (n := Opl.lda (.lit (.int .i64 ((rd_IVar l1_0 x6_1).f1))) rfl T3 rfl rfl rfl rfl (Opl.p1 (v := .ptr i2 0) (n := Opl.ldb (v := v1_0) h9 rfl T23 rfl rfl rfl rfl (Opl.p1 (n := Opl.idx (M := cIVar) (xs := l1_0) (j := x6_1) zIVar (by exact hv1_0) rfl (by omega) (by omega) K23 Z101 rfl rfl ?_)))))
  rintro p2 q2 h13
  obtain rfl := cIVar_R (x := (rd_IVar l1_0 x6_1)) h13
  refine Opl.p1 (v := .fel ((.lit (.int .i64 ((rd_IVar l1_0 x6_1).f0))) :: (.lit (.int .i64 ((rd_IVar l1_0 x6_1).f1))) :: (.lit (.int .i64 ((rd_IVar l1_0 x6_1).f2))) :: q2)) (n := Opl.lda (.lit (.int .i64 ((rd_IVar l1_0 x6_1).f0))) rfl T3 rfl rfl rfl rfl (Opl.subi (k := .i64) (a := ((rd_IVar l1_0 x6_1).f1)) (b := ((rd_IVar l1_0 x6_1).f0)) K3 rfl rfl rfl rfl (Opl.add (k := .i64) (a := (wrap64 (((rd_IVar l1_0 x6_1).f1) - ((rd_IVar l1_0 x6_1).f0)))) (b := 1) K3 rfl rfl rfl rfl (Opl.one (v := .lit (.int .i64 (wrap64 ((wrap64 (((rd_IVar l1_0 x6_1).f1) - ((rd_IVar l1_0 x6_1).f0))) + 1)))) rfl rfl rfl (Opl.nil (Evr.sr rfl (Opl.p1 (v := .ptr i2 0) (n := Opl.ldb (v := v1_0) h9 rfl T23 rfl rfl rfl rfl (Opl.one (v := .lit (.int .i64 x6_1)) rfl rfl rfl (Opl.idx (M := cIVar) (xs := l1_0) (j := x6_1) zIVar (by exact hv1_0) rfl (by omega) (by omega) K23 Z101 rfl rfl ?_))))))))))
  rintro p3 q3 h14
  obtain rfl := cIVar_R (x := (rd_IVar l1_0 x6_1)) h14
  refine Opl.p1 (v := .fel ((.lit (.int .i64 ((rd_IVar l1_0 x6_1).f0))) :: (.lit (.int .i64 ((rd_IVar l1_0 x6_1).f1))) :: (.lit (.int .i64 ((rd_IVar l1_0 x6_1).f2))) :: q3)) (n := Opl.lda (.lit (.int .i64 ((rd_IVar l1_0 x6_1).f0))) rfl T3 rfl rfl rfl rfl (Opl.one (v := .lit (.int .i64 ((rd_IVar l1_0 x6_1).f0))) rfl rfl rfl (Opl.nil (Evr.seq (Evr.sr rfl (Opl.one (v := .lit (.int .i64 (wrap64 ((wrap64 (((rd_IVar l1_0 x6_1).f1) - ((rd_IVar l1_0 x6_1).f0))) + 1)))) rfl rfl rfl (Opl.gtr (a := (wrap64 ((wrap64 (((rd_IVar l1_0 x6_1).f1) - ((rd_IVar l1_0 x6_1).f0))) + 1))) (b := 0) K3 rfl rfl rfl rfl (Opl.one (v := .lit (.bool (decide ((wrap64 ((wrap64 (((rd_IVar l1_0 x6_1).f1) - ((rd_IVar l1_0 x6_1).f0))) + 1)) > 0)))) rfl rfl rfl ?_))))))))
  by_cases c8 : (wrap64 ((wrap64 (((rd_IVar l1_0 x6_1).f1) - ((rd_IVar l1_0 x6_1).f0))) + 1)) > 0
  case neg =>
   rw [if_neg c8] at H
   have e5 : (decide ((wrap64 ((wrap64 (((rd_IVar l1_0 x6_1).f1) - ((rd_IVar l1_0 x6_1).f0))) + 1)) > 0)) = false := by simpa using c8
   try rw [e5]
   refine Opl.sk2 rfl rfl (Opl.p1 (n := Opl.nil (Evr.condF rfl (Evr.skip (Evr.regionN rfl (Opl.one (v := pv2) rfl rfl rfl (Opl.one (v := .lit (.int .i64 ((rd_IVar l1_0 x6_1).f0))) rfl rfl rfl (Opl.liti (M := (cInt .i64)) (ys := [((rd_IVar l1_0 x6_1).f0)]) [.tmp 49] K27 T3 rfl rfl rfl (by exact ⟨rfl, trivial⟩) rfl (by decide) rfl rfl ?_))))))))
   rintro pv8 h28
   obtain _ | k3 := n1
   · simp [spec_l2Some.j2] at H
   simp only [spec_l2Some.j2] at H
   obtain ⟨c11, H⟩ := peel H
   refine Opl.app (M := (cInt .i64)) (xs := x5_1) (ys := [((rd_IVar l1_0 x6_1).f0)]) (v := pv2) h10 (.sl h28) (oInt .i64) rfl rfl K27 T3 rfl rfl (by (try simp only [List.length_cons, List.length_nil]); omega) (by show (_ + _) * 8 ≤ 140737488355328; (try simp only [List.length_cons, List.length_nil]); omega) rfl rfl rfl rfl rfl ?_
   rintro pv9 S h29 u5 w4
   have ap15 := w4.box h8
   have h30 := u5.box h8 ap7
   have ap16 := w4.box h9
   have h31 := u5.box h9 ap8
   have ap17 := w4.sameP h11
   have h32 := u5.sameP h11 o2
   refine Opl.one (v := pv9) rfl rfl rfl (Opl.nil (Evr.inBlock (Evr.regionN rfl (Opl.one (v := .lit (.int .i64 x6_1)) rfl rfl rfl (Opl.add (k := .i64) (a := x6_1) (b := 1) K3 rfl rfl rfl rfl (Opl.one (v := .lit (.int .i64 (wrap64 (x6_1 + 1)))) rfl rfl rfl (Opl.nil ?_)))))))
   exact ih1 _ (by omega) _ _ ⟨by omega, _, _, _, _, _, H, ⟨rfl, rfl, rfl, rfl, trivial⟩, h30, h31, h29, h32, o1, ap17, ap6, ap15, ap16⟩
  rw [if_pos c8] at H
  have e2 : (decide ((wrap64 ((wrap64 (((rd_IVar l1_0 x6_1).f1) - ((rd_IVar l1_0 x6_1).f0))) + 1)) > 0)) = true := by simpa using c8
  try rw [e2]
  refine Opl.one (v := .lit (.int .i64 (wrap64 ((wrap64 (((rd_IVar l1_0 x6_1).f1) - ((rd_IVar l1_0 x6_1).f0))) + 1)))) rfl rfl rfl (Opl.lss (a := (wrap64 ((wrap64 (((rd_IVar l1_0 x6_1).f1) - ((rd_IVar l1_0 x6_1).f0))) + 1))) (b := 100) K3 rfl rfl rfl rfl (Opl.p1 (n := Opl.nil ?_)))
  refine Evr.join (fun tm S => ∃ (kq1 : Nat) (x0b1q7_1 : Int) (x8q6_1 : Int) (i3 : Abs.Id) (pv3 : PV), spec_l2Some.j3 kq1 x0b1q7_1 x8q6_1 l0_0 l1_0 l1_1 x5_1 x6_1 = some r ∧ kq1 ≤ n1 ∧ Has tm [(0, .ptr i0 0), (3, .ptr i3 0), (5, pv3), (6, .lit (.int .i64 x6_1)), (8, .lit (.int .i64 x8q6_1))] ∧ Box (.ptr i0 0) [q0, .lit (.int .i64 x0b1q7_1)] S ∧ Box (.ptr i3 0) [v1_0, v1_1] S ∧ Vec (cInt .i64) x5_1 pv3 S ∧ Same S0 S [i0] ∧ OutT S0 [i0] (PV.ptr i3 0).id?.toList ∧ OutT S0 [i0] (PV.id? pv3).toList ∧ Ap (.ptr i0 0) (.ptr i3 0) ∧ Ap (.ptr i0 0) pv3 ∧ Ap (.ptr i3 0) pv3) ?_ fun hk1 => ?_
  ·
   rintro tm S ⟨kq1, x0b1q7_1, x8q6_1, i3, pv3, H, hle, hh, h15, h16, h17, h18, o3, o4, ap9, ap10, ap11⟩
   rw [hh.eq]
   refine Evr.regionN rfl (Opl.p1 (n := Opl.p1 (n := Opl.liti (M := (cInt .i64)) (ys := [x8q6_1]) [.tmp 49] K27 T3 rfl rfl rfl (by exact ⟨rfl, trivial⟩) rfl (by decide) rfl rfl ?_)))
   rintro pv5 h19
   obtain _ | k1 := kq1
   · simp [spec_l2Some.j3] at H
   simp only [spec_l2Some.j3] at H
   obtain _ | k2 := k1
   · simp [spec_l2Some.j2] at H
   simp only [spec_l2Some.j2] at H
   obtain ⟨c9, H⟩ := peel H
   refine Opl.app (M := (cInt .i64)) (xs := x5_1) (ys := [x8q6_1]) (v := pv3) h17 (.sl h19) (oInt .i64) rfl rfl K27 T3 rfl rfl (by (try simp only [List.length_cons, List.length_nil]); omega) (by show (_ + _) * 8 ≤ 140737488355328; (try simp only [List.length_cons, List.length_nil]); omega) rfl rfl rfl rfl rfl ?_
   rintro pv6 S h20 u3 w3
   have ap12 := w3.box h15
   have h21 := u3.box h15 ap10
   have ap13 := w3.box h16
   have h22 := u3.box h16 ap11
   have ap14 := w3.sameP h18
   have h23 := u3.sameP h18 o4
   refine Opl.p1 (n := Opl.nil (Evr.inBlock (Evr.regionN rfl (Opl.p1 (n := Opl.add (k := .i64) (a := x6_1) (b := 1) K3 rfl rfl rfl rfl (Opl.one (v := .lit (.int .i64 (wrap64 (x6_1 + 1)))) rfl rfl rfl (Opl.nil ?_)))))))
   exact ih1 _ (by omega) _ _ ⟨by omega, _, _, _, _, _, H, ⟨rfl, rfl, rfl, rfl, trivial⟩, h21, h22, h20, h23, o3, ap14, ap9, ap12, ap13⟩
  ·
   by_cases c10 : (wrap64 ((wrap64 (((rd_IVar l1_0 x6_1).f1) - ((rd_IVar l1_0 x6_1).f0))) + 1)) < 100
   case neg =>
    rw [if_neg c10] at H
    have e4 : (decide ((wrap64 ((wrap64 (((rd_IVar l1_0 x6_1).f1) - ((rd_IVar l1_0 x6_1).f0))) + 1)) < 100)) = false := by simpa using c10
    try rw [e4]
    refine Evr.condF rfl (Evr.skip ?_)
    exact hk1 _ _ ⟨_, _, _, _, _, H, by omega, ⟨rfl, rfl, rfl, rfl, rfl, trivial⟩, h8, h9, h10, h11, o1, o2, ap6, ap7, ap8⟩
   rw [if_pos c10] at H
   have e3 : (decide ((wrap64 ((wrap64 (((rd_IVar l1_0 x6_1).f1) - ((rd_IVar l1_0 x6_1).f0))) + 1)) < 100)) = true := by simpa using c10
   try rw [e3]
   refine Evr.condT rfl (Evr.regionN rfl (Opl.one (v := .lit (.int .i64 ((rd_IVar l1_0 x6_1).f0))) rfl rfl rfl (Opl.one (v := .ptr i0 0) rfl rfl rfl (Opl.one (v := .lit (.int .i64 (wrap64 ((wrap64 (((rd_IVar l1_0 x6_1).f1) - ((rd_IVar l1_0 x6_1).f0))) + 1)))) rfl rfl rfl ?_))))
   obtain ⟨r1, h_r1, H⟩ := obs H
   refine Opl.calls (spec_l40Rd_pick.evb hq0 h8 h_r1) rfl rfl rfl rfl rfl ?_
   rintro _ S ⟨rfl, h24, u4⟩
   have h25 := u4.box h9 (ap6.symm).pt
   have h26 := u4.vec h10 (ap7.symm).pt
   have h27 := u4.sameP h11 OutT.box
   refine Opl.add (k := .i64) (a := ((rd_IVar l1_0 x6_1).f0)) (b := r1.2) K3 rfl rfl rfl rfl (Opl.one (v := .lit (.int .i64 (wrap64 (((rd_IVar l1_0 x6_1).f0) + r1.2)))) rfl rfl rfl (Opl.nil ?_))
   exact hk1 _ _ ⟨_, _, _, _, _, H, by omega, ⟨rfl, rfl, rfl, rfl, rfl, trivial⟩, h24, h25, h26, h27, o1, o2, ap6, ap7, ap8⟩
theorem spec_FirstState.ev {k : Nat} {l0_0 : List IVar} {v0_0 : PV} (hv0_0 : Sl cIVar l0_0 v0_0) {l0_1 : List IRule} {v0_1 : PV} (hv0_1 : Sl cIRule l0_1 v0_1) {r : (List Int)} (H : spec_FirstState.f k l0_0 l0_1 = some r) : Ret Try.prog 96 [.agg [v0_0, v0_1]] fun v S => Vec (cInt .i64) r v S := by
 unfold spec_FirstState.f at H
 refine Ret.intro Try.func96 rfl (Nat.le_of_ble_eq_true rfl) rfl ?_
 rw [tm1]
 refine Evr.sr rfl (Opl.box (cs := [v0_0, v0_1]) rfl rfl rfl rfl ?_)
 rintro i1 S h1 u1 w1
 refine Opl.p1 (n := Opl.nil (Evr.sr rfl (Opl.lits (M := (cInt .i64)) (ys := []) [] K27 T3 rfl rfl rfl trivial rfl (by decide) rfl rfl rfl ?_)))
 rintro pv1 S h2 u2 w2
 have ap1 := w2.box h1
 have h3 := u2.box h1 ap1
 refine Opl.p1 (n := Opl.nil (Evr.seq (Evr.sr rfl (Opl.p1 (n := Opl.nil (Evr.block ?_))))))
 refine Evr.loop (Evr.rounds (n := k) (Inv := fun n tm S => n ≤ k ∧ ∃ (x3_1 : List Int) (x4_1 : Int) (i2 : Abs.Id) (pv2 : PV), spec_FirstState.l0 n x3_1 x4_1 l0_0 l0_1 = some r ∧ Has tm [(1, .ptr i2 0), (3, pv2), (4, .lit (.int .i64 x4_1))] ∧ Box (.ptr i2 0) [v0_0, v0_1] S ∧ Vec (cInt .i64) x3_1 pv2 S ∧ Ap (.ptr i2 0) pv2) ?_ ?_ ?_)
 · exact ⟨Nat.le_refl _, _, _, _, _, H, ⟨rfl, rfl, rfl, trivial⟩, h3, h2, ap1⟩
 ·
  rintro tm S ⟨_, _, _, _, _, H, -⟩
  simp [spec_FirstState.l0] at H
 ·
  rintro n1 ih1 tm S ⟨hle, x3_1, x4_1, i2, pv2, H, hh, h4, h5, ap2⟩
  simp only [spec_FirstState.l0] at H
  rw [hh.eq]
  refine Evr.seq (Evr.sr rfl (Opl.p1 (n := Opl.p1 (v := .ptr i2 0) (n := Opl.ldb (v := v0_0) h4 rfl T23 rfl rfl rfl rfl (Opl.len (xs := l0_0) (by exact hv0_0) K23 rfl rfl rfl rfl (Opl.p1 (n := Opl.p1 (n := ?_))))))))
  by_cases c1 : x4_1 < (l0_0.length : Int)
  case neg =>
   rw [if_neg c1] at H
   have e2 : (decide (x4_1 < (l0_0.length : Int))) = false := by simpa using c1
   try rw [e2]
   refine Opl.sk2 rfl rfl (Opl.p1 (n := Opl.nil (Evr.condF rfl (Evr.exit rfl (Evr.sr rfl (Opl.p1 (n := Opl.p1 (n := Opl.nil ?_))))))))
   obtain rfl := sinj H
   refine Evr.ret1 Try.func96 rfl ?_
   show Vec _ _ pv2 _
   exact h5
  rw [if_pos c1] at H
  have e1 : (decide (x4_1 < (l0_0.length : Int))) = true := by simpa using c1
  try rw [e1]
  refine Opl.ldb (v := .agg [v0_0, v0_1]) h4 rfl T26 rfl rfl rfl rfl ?_
  obtain ⟨t717, h_t717, H⟩ := obs H
  refine Opl.callc (spec_SystemValid.ev hv0_0 hv0_1 h_t717) rfl rfl rfl rfl ⟨(.aggL ⟨hv0_0.plain, hv0_1.plain, trivial⟩), trivial⟩ (by decide) (Opl.p1 (n := Opl.nil ?_))
  by_cases c2 : t717 = true
  case neg =>
   rw [if_neg c2] at H
   obtain rfl : t717 = false := by simpa using c2
   refine Evr.condF rfl (Evr.exit rfl (Evr.sr rfl (Opl.p1 (n := Opl.p1 (n := Opl.nil ?_)))))
   obtain rfl := sinj H
   refine Evr.ret1 Try.func96 rfl ?_
   show Vec _ _ pv2 _
   exact h5
  rw [if_pos c2] at H
  obtain rfl : t717 = true := by simpa using c2
  refine Evr.condT rfl (Evr.skip (Evr.seq (Evr.block (Evr.regionN rfl (Opl.p1 (n := Opl.p1 (v := .ptr i2 0) (n := Opl.ldb (v := v0_0) h4 rfl T23 rfl rfl rfl rfl (Opl.p1 (n := ?_)))))))))
  obtain ⟨c3, H⟩ := peel H
  obtain ⟨c4, H⟩ := peel H
  refine Opl.idx (M := cIVar) (xs := l0_0) (j := x4_1) zIVar (by exact hv0_0) rfl (by omega) (by omega) K23 Z101 rfl rfl ?_
  rintro p1 q1 h6
  obtain rfl := cIVar_R (x := (rd_IVar l0_0 x4_1)) h6
  refine Opl.p1 (v := .fel ((.lit (.int .i64 ((rd_IVar l0_0 x4_1).f2))) :: q1)) (n := Opl.lda (.lit (.int .i64 ((rd_IVar l0_0 x4_1).f2))) rfl T3 rfl rfl rfl rfl (Opl.lits (M := (cInt .i64)) (ys := [((rd_IVar l0_0 x4_1).f2)]) [.tmp 23] K27 T3 rfl rfl rfl (by exact ⟨rfl, trivial⟩) rfl (by decide) rfl rfl rfl ?_))
  rintro pv3 S h7 u3 w3
  have ap3 := w3.box h4
  have h8 := u3.box h4 ap3
  have ap4 := w3.vec h5
  have h9 := u3.vec h5 ap4
  refine Opl.app (M := (cInt .i64)) (xs := x3_1) (ys := [((rd_IVar l0_0 x4_1).f2)]) (v := pv2) h9 (.vec h7) (oInt .i64) rfl rfl K27 T3 rfl rfl (by (try simp only [List.length_cons, List.length_nil]); omega) (by show (_ + _) * 8 ≤ 140737488355328; (try simp only [List.length_cons, List.length_nil]); omega) rfl rfl rfl rfl rfl ?_
  rintro pv4 S h10 u4 w4
  have ap5 := w4.box h8
  have h11 := u4.box h8 ap2
  have ap6 := w4.vec h7
  have h12 := u4.vec h7 ap4.symm
  refine Opl.p1 (n := Opl.nil (Evr.inBlock (Evr.regionN rfl (Opl.p1 (n := Opl.add (k := .i64) (a := x4_1) (b := 1) K3 rfl rfl rfl rfl (Opl.one (v := .lit (.int .i64 (wrap64 (x4_1 + 1)))) rfl rfl rfl (Opl.nil ?_)))))))
  exact ih1 _ (by omega) _ _ ⟨by omega, _, _, _, _, H, ⟨rfl, rfl, rfl, trivial⟩, h11, h10, ap5⟩
theorem spec_l2In.ev {k : Nat} {l0_0 : List IVar} {v0_0 : PV} (hv0_0 : Sl cIVar l0_0 v0_0) {l0_1 : List IRule} {v0_1 : PV} (hv0_1 : Sl cIRule l0_1 v0_1) {l1 : List Int} {v1 : PV} (hv1 : Sl (cInt .i64) l1 v1) {r : Bool} (H : spec_l2In.f k l0_0 l0_1 l1 = some r) : Ret Try.prog 153 [.agg [v0_0, v0_1], v1] fun v S => v = .lit (.bool r) := by
 unfold spec_l2In.f at H
 refine Ret.intro Try.func153 rfl (Nat.le_of_ble_eq_true rfl) rfl ?_
 rw [tm2]
 refine Evr.sr rfl (Opl.box (cs := [v0_0, v0_1]) rfl rfl rfl rfl ?_)
 rintro i1 S h1 u1 w1
 refine Opl.p1 (n := Opl.nil (Evr.seq (Evr.sr rfl (Opl.p1 (n := Opl.len (xs := l1) (by exact hv1) K27 rfl rfl rfl rfl (Opl.p1 (v := .ptr i1 0) (n := Opl.ldb (v := v0_0) h1 rfl T23 rfl rfl rfl rfl (Opl.len (xs := l0_0) (by exact hv0_0) K23 rfl rfl rfl rfl (Opl.p1 (n := Opl.nil ?_))))))))))
 by_cases c1 : (l1.length : Int) = (l0_0.length : Int)
 case neg =>
  rw [if_neg c1] at H
  have e6 : ((l1.length : Int) != (l0_0.length : Int)) = true := by simpa using c1
  try rw [e6]
  refine Evr.condT rfl (Evr.sr rfl (Opl.p1 (n := Opl.nil ?_)))
  obtain rfl := sinj H
  refine Evr.ret1 Try.func153 rfl ?_
  show (.lit (.bool false) : PV) = _
  first | rfl | (simp only [go_sem]; rfl)
 rw [if_pos c1] at H
 have e1 : ((l1.length : Int) != (l0_0.length : Int)) = false := by simpa using c1
 try rw [e1]
 refine Evr.condF rfl (Evr.skip (Evr.seq (Evr.sr rfl (Opl.p1 (n := Opl.nil (Evr.block ?_))))))
 refine Evr.loop (Evr.rounds (n := k) (Inv := fun n tm S => n ≤ k ∧ ∃ (x5_1 : Int) (i2 : Abs.Id), spec_l2In.l0 n l1 x5_1 l0_0 l0_1 = some r ∧ Has tm [(1, v1), (2, .ptr i2 0), (5, .lit (.int .i64 x5_1))] ∧ Box (.ptr i2 0) [v0_0, v0_1] S) ?_ ?_ ?_)
 · exact ⟨Nat.le_refl _, _, _, H, ⟨rfl, rfl, rfl, trivial⟩, h1⟩
 ·
  rintro tm S ⟨_, _, _, H, -⟩
  simp [spec_l2In.l0] at H
 ·
  rintro n1 ih1 tm S ⟨hle, x5_1, i2, H, hh, h2⟩
  simp only [spec_l2In.l0] at H
  rw [hh.eq]
  refine Evr.seq (Evr.sr rfl (Opl.p1 (n := Opl.p1 (n := Opl.len (xs := l1) (by exact hv1) K27 rfl rfl rfl rfl (Opl.p1 (n := Opl.nil ?_))))))
  by_cases c2 : x5_1 < (l1.length : Int)
  case neg =>
   rw [if_neg c2] at H
   have e5 : (decide (x5_1 < (l1.length : Int))) = false := by simpa using c2
   try rw [e5]
   refine Evr.condF rfl (Evr.exit rfl (Evr.sr rfl (Opl.p1 (n := Opl.nil ?_))))
   obtain rfl := sinj H
   refine Evr.ret1 Try.func153 rfl ?_
   show (.lit (.bool true) : PV) = _
   first | rfl | (simp only [go_sem]; rfl)
  rw [if_pos c2] at H
  have e2 : (decide (x5_1 < (l1.length : Int))) = true := by simpa using c2
  try rw [e2]
  refine Evr.condT rfl (Evr.skip (Evr.seq (Evr.block (Evr.seq (Evr.regionD rfl (by kernel_rfl) (Opl.p1 (n := Opl.p1 (n := ?_))))))))
  obtain ⟨c3, H⟩ := peel H
  obtain ⟨c4, H⟩ := peel H
  refine Opl.idx (M := (cInt .i64)) (xs := l1) (j := x5_1) (0 : Int) (by exact hv1) rfl (by omega) (by omega) K27 Z3 rfl rfl ?_
  rintro p1 q1 h3
  obtain rfl : p1 = [.lit (.int .i64 (rd l1 x5_1))] := h3
  refine Opl.lda (.lit (.int .i64 (rd l1 x5_1))) rfl T3 rfl rfl rfl rfl (Opl.p1 (v := .ptr i2 0) (n := Opl.ldb (v := v0_0) h2 rfl T23 rfl rfl rfl rfl (Opl.p1 (n := Opl.idx (M := cIVar) (xs := l0_0) (j := x5_1) zIVar (by exact hv0_0) rfl (by omega) (by omega) K23 Z101 rfl rfl ?_))))
  rintro p2 q2 h4
  obtain rfl := cIVar_R (x := (rd_IVar l0_0 x5_1)) h4
  refine Opl.p1 (v := .fel ((.lit (.int .i64 ((rd_IVar l0_0 x5_1).f0))) :: (.lit (.int .i64 ((rd_IVar l0_0 x5_1).f1))) :: (.lit (.int .i64 ((rd_IVar l0_0 x5_1).f2))) :: q2)) (n := Opl.lda (.lit (.int .i64 ((rd_IVar l0_0 x5_1).f0))) rfl T3 rfl rfl rfl rfl (Opl.p1 (v := .ptr i2 0) (n := Opl.ldb (v := v0_0) h2 rfl T23 rfl rfl rfl rfl (Opl.p1 (n := Opl.idx (M := cIVar) (xs := l0_0) (j := x5_1) zIVar (by exact hv0_0) rfl (by omega) (by omega) K23 Z101 rfl rfl ?_)))))
  rintro p3 q3 h5
  obtain rfl := cIVar_R (x := (rd_IVar l0_0 x5_1)) h5
  refine Opl.p1 (v := .fel ((.lit (.int .i64 ((rd_IVar l0_0 x5_1).f1))) :: (.lit (.int .i64 ((rd_IVar l0_0 x5_1).f2))) :: q3)) (n := Opl.lda (.lit (.int .i64 ((rd_IVar l0_0 x5_1).f1))) rfl T3 rfl rfl rfl rfl ?_)
  obtain ⟨t980, h_t980, H⟩ := obs H
  refine Opl.callc (spec_l1In.ev h_t980) rfl rfl rfl rfl ⟨(.lit _), (.lit _), (.lit _), trivial⟩ (by decide) (Opl.p1 (n := Opl.nil ?_))
  by_cases c5 : t980 = true
  case neg =>
   rw [if_neg c5] at H
   have e4 : (!t980) = true := by simpa using c5
   try rw [e4]
   refine Evr.condT rfl (Evr.sr rfl (Opl.p1 (n := Opl.nil ?_)))
   obtain rfl := sinj H
   refine Evr.ret1 Try.func153 rfl ?_
   show (.lit (.bool false) : PV) = _
   first | rfl | (simp only [go_sem]; rfl)
  rw [if_pos c5] at H
  have e3 : (!t980) = false := by simpa using c5
  try rw [e3]
  refine Evr.condF rfl (Evr.skip (Evr.inBlock (Evr.regionN rfl (Opl.p1 (n := Opl.add (k := .i64) (a := x5_1) (b := 1) K3 rfl rfl rfl rfl (Opl.one (v := .lit (.int .i64 (wrap64 (x5_1 + 1)))) rfl rfl rfl (Opl.nil ?_)))))))
  exact ih1 _ (by omega) _ _ ⟨by omega, _, _, H, ⟨rfl, rfl, rfl, trivial⟩, h2⟩
theorem spec_InRange.ev {k : Nat} {l0_0 : List IVar} {v0_0 : PV} (hv0_0 : Sl cIVar l0_0 v0_0) {l0_1 : List IRule} {v0_1 : PV} (hv0_1 : Sl cIRule l0_1 v0_1) {l1 : List Int} {v1 : PV} (hv1 : Sl (cInt .i64) l1 v1) {r : Bool} (H : spec_InRange.f k l0_0 l0_1 l1 = some r) : Ret Try.prog 186 [.agg [v0_0, v0_1], v1] fun v S => v = .lit (.bool r) := by
 unfold spec_InRange.f at H
 refine Ret.intro Try.func186 rfl (Nat.le_of_ble_eq_true rfl) rfl ?_
 rw [tm2]
 refine Evr.sr rfl (Opl.box (cs := [v0_0, v0_1]) rfl rfl rfl rfl ?_)
 rintro i1 S h1 u1 w1
 refine Opl.p1 (n := Opl.nil (Evr.sr rfl (Opl.ldb (v := .agg [v0_0, v0_1]) h1 rfl T26 rfl rfl rfl rfl ?_)))
 obtain ⟨t998, h_t998, H⟩ := obs H
 refine Opl.callc (spec_SystemValid.ev hv0_0 hv0_1 h_t998) rfl rfl rfl rfl ⟨(.aggL ⟨hv0_0.plain, hv0_1.plain, trivial⟩), trivial⟩ (by decide) (Opl.p1 (n := ?_))
 by_cases c1 : t998 = true
 case neg =>
  rw [if_neg c1] at H
  obtain rfl : t998 = false := by simpa using c1
  refine Opl.sk2 rfl rfl (Opl.skp rfl (Opl.p1 (n := Opl.p1 (n := Opl.nil ?_))))
  obtain rfl := sinj H
  refine Evr.ret1 Try.func186 rfl ?_
  show (.lit (.bool false) : PV) = _
  first | rfl | (simp only [go_sem]; rfl)
 rw [if_pos c1] at H
 obtain rfl : t998 = true := by simpa using c1
 refine Opl.ldb (v := .agg [v0_0, v0_1]) h1 rfl T26 rfl rfl rfl rfl (Opl.p1 (n := ?_))
 obtain ⟨t999, h_t999, H⟩ := obs H
 refine Opl.callc (spec_l2In.ev hv0_0 hv0_1 hv1 h_t999) rfl rfl rfl rfl ⟨(.aggL ⟨hv0_0.plain, hv0_1.plain, trivial⟩), hv1.plain, trivial⟩ (by decide) (Opl.p1 (n := Opl.p1 (n := Opl.nil ?_)))
 obtain rfl := sinj H
 refine Evr.ret1 Try.func186 rfl ?_
 show (.lit (.bool t999) : PV) = _
 first | rfl | (simp only [go_sem]; rfl)
theorem spec_l1Held.ev {a0 : Int} {r : Int} (H : spec_l1Held.f a0 = some r) : Ret Try.prog 173 [.lit (.int .i64 a0)] fun v S => v = .lit (.int .i64 r) := by
 unfold spec_l1Held.f at H
 refine Ret.intro Try.func173 rfl (Nat.le_of_ble_eq_true rfl) rfl ?_
 rw [tm1]
 refine Evr.sr rfl (Opl.p1 (n := Opl.nil (Evr.seq (Evr.sr rfl (Opl.p1 (n := Opl.p1 (n := Opl.nil ?_)))))))
 by_cases c1 : a0 > 9999
 case pos =>
  rw [if_pos c1] at H
  have e1 : (decide (a0 > 9999)) = true := by simpa using c1
  try rw [e1]
  refine Evr.condT rfl (Evr.sr rfl (Opl.p1 (n := Opl.nil ?_)))
  obtain rfl := sinj H
  refine Evr.ret1 Try.func173 rfl ?_
  show (.lit (.int .i64 9999) : PV) = _
  first | rfl | (simp only [go_sem]; rfl)
 rw [if_neg c1] at H
 have e2 : (decide (a0 > 9999)) = false := by simpa using c1
 try rw [e2]
 refine Evr.condF rfl (Evr.skip (Evr.seq (Evr.sr rfl (Opl.p1 (n := Opl.p1 (n := Opl.nil ?_))))))
 by_cases c2 : a0 < (-9999)
 case pos =>
  rw [if_pos c2] at H
  have e3 : (decide (a0 < (-9999))) = true := by simpa using c2
  try rw [e3]
  refine Evr.condT rfl (Evr.sr rfl (Opl.p1 (n := Opl.nil ?_)))
  obtain rfl := sinj H
  refine Evr.ret1 Try.func173 rfl ?_
  show (.lit (.int .i64 (-9999)) : PV) = _
  first | rfl | (simp only [go_sem]; rfl)
 rw [if_neg c2] at H
 have e4 : (decide (a0 < (-9999))) = false := by simpa using c2
 try rw [e4]
 refine Evr.condF rfl (Evr.skip (Evr.sr rfl (Opl.p1 (n := Opl.p1 (n := Opl.nil ?_)))))
 obtain rfl := sinj H
 refine Evr.ret1 Try.func173 rfl ?_
 show (.lit (.int .i64 a0) : PV) = _
 first | rfl | (simp only [go_sem]; rfl)
theorem spec_l1Truth.ev {a0 : Bool} {r : Int} (H : spec_l1Truth.f a0 = some r) : Ret Try.prog 175 [.lit (.bool a0)] fun v S => v = .lit (.int .i64 r) := by
 unfold spec_l1Truth.f at H
 refine Ret.intro Try.func175 rfl (Nat.le_of_ble_eq_true rfl) rfl ?_
 rw [tm1]
 refine Evr.sr rfl (Opl.p1 (n := Opl.nil (Evr.seq (Evr.sr rfl (Opl.p1 (n := Opl.nil ?_))))))
 by_cases c1 : a0 = true
 case pos =>
  rw [if_pos c1] at H
  obtain rfl : a0 = true := by simpa using c1
  refine Evr.condT rfl (Evr.sr rfl (Opl.p1 (n := Opl.nil ?_)))
  obtain rfl := sinj H
  refine Evr.ret1 Try.func175 rfl ?_
  show (.lit (.int .i64 1) : PV) = _
  first | rfl | (simp only [go_sem]; rfl)
 rw [if_neg c1] at H
 obtain rfl : a0 = false := by simpa using c1
 refine Evr.condF rfl (Evr.skip (Evr.sr rfl (Opl.p1 (n := Opl.nil ?_))))
 obtain rfl := sinj H
 refine Evr.ret1 Try.func175 rfl ?_
 show (.lit (.int .i64 0) : PV) = _
 first | rfl | (simp only [go_sem]; rfl)
theorem spec_l1Do.ev {a0 : Int} {a1 : Int} {a2 : Int} {r : Int} (H : spec_l1Do.f a0 a1 a2 = some r) : Ret Try.prog 176 [.lit (.int .i64 a0), .lit (.int .i64 a1), .lit (.int .i64 a2)] fun v S => v = .lit (.int .i64 r) := by
 unfold spec_l1Do.f at H
 refine Ret.intro Try.func176 rfl (Nat.le_of_ble_eq_true rfl) rfl ?_
 rw [tm3]
 refine Evr.sr rfl (Opl.p1 (n := Opl.nil (Evr.seq (Evr.sr rfl (Opl.p1 (n := Opl.p1 (n := Opl.nil ?_)))))))
 by_cases c1 : a0 = 2
 case pos =>
  rw [if_pos c1] at H
  have e1 : (a0 == 2) = true := by simpa using c1
  try rw [e1]
  refine Evr.condT rfl (Evr.sr rfl (Opl.p1 (n := Opl.p1 (n := Opl.add (k := .i64) (a := a1) (b := a2) K3 rfl rfl rfl rfl ?_))))
  obtain ⟨t948, h_t948, H⟩ := obs H
  refine Opl.callc (spec_l1Held.ev h_t948) rfl rfl rfl rfl ⟨(.lit _), trivial⟩ (by decide) (Opl.one (v := .lit (.int .i64 t948)) rfl rfl rfl (Opl.nil ?_))
  obtain rfl := sinj H
  refine Evr.ret1 Try.func176 rfl ?_
  show (.lit (.int .i64 t948) : PV) = _
  first | rfl | (simp only [go_sem]; rfl)
 rw [if_neg c1] at H
 have e2 : (a0 == 2) = false := by simpa using c1
 try rw [e2]
 refine Evr.condF rfl (Evr.skip (Evr.seq (Evr.sr rfl (Opl.p1 (n := Opl.p1 (n := Opl.nil ?_))))))
 by_cases c2 : a0 = 3
 case pos =>
  rw [if_pos c2] at H
  have e3 : (a0 == 3) = true := by simpa using c2
  try rw [e3]
  refine Evr.condT rfl (Evr.sr rfl (Opl.p1 (n := Opl.p1 (n := Opl.subi (k := .i64) (a := a1) (b := a2) K3 rfl rfl rfl rfl ?_))))
  obtain ⟨t949, h_t949, H⟩ := obs H
  refine Opl.callc (spec_l1Held.ev h_t949) rfl rfl rfl rfl ⟨(.lit _), trivial⟩ (by decide) (Opl.one (v := .lit (.int .i64 t949)) rfl rfl rfl (Opl.nil ?_))
  obtain rfl := sinj H
  refine Evr.ret1 Try.func176 rfl ?_
  show (.lit (.int .i64 t949) : PV) = _
  first | rfl | (simp only [go_sem]; rfl)
 rw [if_neg c2] at H
 have e4 : (a0 == 3) = false := by simpa using c2
 try rw [e4]
 refine Evr.condF rfl (Evr.skip (Evr.seq (Evr.sr rfl (Opl.p1 (n := Opl.p1 (n := Opl.nil ?_))))))
 by_cases c3 : a0 = 4
 case pos =>
  rw [if_pos c3] at H
  have e5 : (a0 == 4) = true := by simpa using c3
  try rw [e5]
  refine Evr.condT rfl (Evr.sr rfl (Opl.p1 (n := Opl.p1 (n := Opl.mul (k := .i64) (a := a1) (b := a2) K3 rfl rfl rfl rfl ?_))))
  obtain ⟨t950, h_t950, H⟩ := obs H
  refine Opl.callc (spec_l1Held.ev h_t950) rfl rfl rfl rfl ⟨(.lit _), trivial⟩ (by decide) (Opl.one (v := .lit (.int .i64 t950)) rfl rfl rfl (Opl.nil ?_))
  obtain rfl := sinj H
  refine Evr.ret1 Try.func176 rfl ?_
  show (.lit (.int .i64 t950) : PV) = _
  first | rfl | (simp only [go_sem]; rfl)
 rw [if_neg c3] at H
 have e6 : (a0 == 4) = false := by simpa using c3
 try rw [e6]
 refine Evr.condF rfl (Evr.skip (Evr.seq (Evr.sr rfl (Opl.p1 (n := Opl.p1 (n := Opl.nil ?_))))))
 by_cases c4 : a0 = 5
 case pos =>
  rw [if_pos c4] at H
  have e7 : (a0 == 5) = true := by simpa using c4
  try rw [e7]
  refine Evr.condT rfl (Evr.sr rfl (Opl.p1 (n := Opl.p1 (n := Opl.p1 (n := ?_)))))
  obtain ⟨t951, h_t951, H⟩ := obs H
  refine Opl.callc (spec_l1Truth.ev h_t951) rfl rfl rfl rfl ⟨(.lit _), trivial⟩ (by decide) (Opl.p1 (n := Opl.nil ?_))
  obtain rfl := sinj H
  refine Evr.ret1 Try.func176 rfl ?_
  show (.lit (.int .i64 t951) : PV) = _
  first | rfl | (simp only [go_sem]; rfl)
 rw [if_neg c4] at H
 have e8 : (a0 == 5) = false := by simpa using c4
 try rw [e8]
 refine Evr.condF rfl (Evr.skip (Evr.seq (Evr.sr rfl (Opl.p1 (n := Opl.p1 (n := Opl.nil ?_))))))
 by_cases c5 : a0 = 6
 case pos =>
  rw [if_pos c5] at H
  have e9 : (a0 == 6) = true := by simpa using c5
  try rw [e9]
  refine Evr.condT rfl (Evr.sr rfl (Opl.p1 (n := Opl.p1 (n := Opl.p1 (n := ?_)))))
  obtain ⟨t952, h_t952, H⟩ := obs H
  refine Opl.callc (spec_l1Truth.ev h_t952) rfl rfl rfl rfl ⟨(.lit _), trivial⟩ (by decide) (Opl.p1 (n := Opl.nil ?_))
  obtain rfl := sinj H
  refine Evr.ret1 Try.func176 rfl ?_
  show (.lit (.int .i64 t952) : PV) = _
  first | rfl | (simp only [go_sem]; rfl)
 rw [if_neg c5] at H
 have e10 : (a0 == 6) = false := by simpa using c5
 try rw [e10]
 refine Evr.condF rfl (Evr.skip (Evr.seq (Evr.sr rfl (Opl.p1 (n := Opl.p1 (n := Opl.nil ?_))))))
 by_cases c6 : a0 = 7
 case pos =>
  rw [if_pos c6] at H
  have e11 : (a0 == 7) = true := by simpa using c6
  try rw [e11]
  refine Evr.condT rfl (Evr.sr rfl (Opl.p1 (n := Opl.subi (k := .i64) (a := 1) (b := a1) K3 rfl rfl rfl rfl (Opl.one (v := .lit (.int .i64 (wrap64 (1 - a1)))) rfl rfl rfl (Opl.nil ?_)))))
  obtain rfl := sinj H
  refine Evr.ret1 Try.func176 rfl ?_
  show (.lit (.int .i64 (wrap64 (1 - a1))) : PV) = _
  first | rfl | (simp only [go_sem]; rfl)
 rw [if_neg c6] at H
 have e12 : (a0 == 7) = false := by simpa using c6
 try rw [e12]
 refine Evr.condF rfl (Evr.skip (Evr.seq (Evr.sr rfl (Opl.p1 (n := Opl.p1 (n := Opl.nil ?_))))))
 by_cases c7 : a0 = 8
 case pos =>
  rw [if_pos c7] at H
  have e13 : (a0 == 8) = true := by simpa using c7
  try rw [e13]
  refine Evr.condT rfl (Evr.sr rfl (Opl.p1 (n := Opl.p1 (n := Opl.mul (k := .i64) (a := a1) (b := a2) K3 rfl rfl rfl rfl (Opl.one (v := .lit (.int .i64 (wrap64 (a1 * a2)))) rfl rfl rfl (Opl.nil ?_))))))
  obtain rfl := sinj H
  refine Evr.ret1 Try.func176 rfl ?_
  show (.lit (.int .i64 (wrap64 (a1 * a2))) : PV) = _
  first | rfl | (simp only [go_sem]; rfl)
 rw [if_neg c7] at H
 have e14 : (a0 == 8) = false := by simpa using c7
 try rw [e14]
 refine Evr.condF rfl (Evr.skip (Evr.sr rfl (Opl.p1 (n := Opl.p1 (n := Opl.add (k := .i64) (a := a1) (b := a2) K3 rfl rfl rfl rfl (Opl.gtr (a := (wrap64 (a1 + a2))) (b := 0) K3 rfl rfl rfl rfl ?_))))))
 obtain ⟨t953, h_t953, H⟩ := obs H
 refine Opl.callc (spec_l1Truth.ev h_t953) rfl rfl rfl rfl ⟨(.lit _), trivial⟩ (by decide) (Opl.one (v := .lit (.int .i64 t953)) rfl rfl rfl (Opl.nil ?_))
 obtain rfl := sinj H
 refine Evr.ret1 Try.func176 rfl ?_
 show (.lit (.int .i64 t953) : PV) = _
 first | rfl | (simp only [go_sem]; rfl)
theorem spec_l1Values.ev {k : Nat} {l0 : List ITerm} {v0 : PV} (hv0 : Sl cITerm l0 v0) {l1 : List Int} {v1 : PV} (hv1 : Sl (cInt .i64) l1 v1) {r : (List Int)} (H : spec_l1Values.f k l0 l1 = some r) : Ret Try.prog 187 [v0, v1] fun v S => Vec (cInt .i64) r v S := by
 unfold spec_l1Values.f at H
 refine Ret.intro Try.func187 rfl (Nat.le_of_ble_eq_true rfl) rfl ?_
 rw [tm2]
 refine Evr.sr rfl (Opl.p1 (n := Opl.nil (Evr.sr rfl (Opl.lits (M := (cInt .i64)) (ys := []) [] K27 T3 rfl rfl rfl trivial rfl (by decide) rfl rfl rfl ?_))))
 rintro pv1 S h1 u1 w1
 refine Opl.p1 (n := Opl.nil (Evr.seq (Evr.sr rfl (Opl.p1 (n := Opl.nil (Evr.block ?_))))))
 refine Evr.loop (Evr.rounds (n := k) (Inv := fun n tm S => n ≤ k ∧ ∃ (x5_1 : List Int) (x6_1 : Int) (pv2 : PV), spec_l1Values.l0 n l0 l1 x5_1 x6_1 = some r ∧ Has tm [(0, v0), (1, v1), (5, pv2), (6, .lit (.int .i64 x6_1))] ∧ Vec (cInt .i64) x5_1 pv2 S) ?_ ?_ ?_)
 · exact ⟨Nat.le_refl _, _, _, _, H, ⟨rfl, rfl, rfl, rfl, trivial⟩, h1⟩
 ·
  rintro tm S ⟨_, _, _, _, H, -⟩
  simp [spec_l1Values.l0] at H
 ·
  rintro n1 ih1 tm S ⟨hle, x5_1, x6_1, pv2, H, hh, h2⟩
  simp only [spec_l1Values.l0] at H
  rw [hh.eq]
  refine Evr.seq (Evr.sr rfl (Opl.p1 (n := Opl.p1 (n := Opl.len (xs := l0) (by exact hv0) K66 rfl rfl rfl rfl (Opl.p1 (n := Opl.nil ?_))))))
  by_cases c1 : x6_1 < (l0.length : Int)
  case neg =>
   rw [if_neg c1] at H
   have e6 : (decide (x6_1 < (l0.length : Int))) = false := by simpa using c1
   try rw [e6]
   refine Evr.condF rfl (Evr.exit rfl (Evr.sr rfl (Opl.p1 (n := Opl.p1 (n := Opl.nil ?_)))))
   obtain rfl := sinj H
   refine Evr.ret1 Try.func187 rfl ?_
   show Vec _ _ pv2 _
   exact h2
  rw [if_pos c1] at H
  have e1 : (decide (x6_1 < (l0.length : Int))) = true := by simpa using c1
  try rw [e1]
  refine Evr.condT rfl (Evr.skip (Evr.seq (Evr.block (Evr.sr rfl (Opl.p1 (n := Opl.p1 (n := ?_)))))))
  obtain ⟨c2, H⟩ := peel H
  refine Opl.idx (M := cITerm) (xs := l0) (j := x6_1) zITerm (by exact hv0) rfl (by omega) (by omega) K66 Z128 rfl rfl ?_
  rintro p1 q1 h3
  obtain rfl := cITerm_R (x := (rd_ITerm l0 x6_1)) h3
  refine Opl.lda (.agg [.lit (.int .i64 ((rd_ITerm l0 x6_1).f0)), .lit (.int .i64 ((rd_ITerm l0 x6_1).f1)), .lit (.int .i64 ((rd_ITerm l0 x6_1).f2)), .lit (.int .i64 ((rd_ITerm l0 x6_1).f3))]) rfl T128 rfl rfl rfl rfl (Opl.alloc T128 rfl rfl rfl ?_)
  rintro i1 S h4 u2 w2
  have ap1 := w2.vec h2
  have h5 := u2.vec h2 ap1
  refine Opl.stb (vs := [.lit (.int .i64 ((rd_ITerm l0 x6_1).f0)), .lit (.int .i64 ((rd_ITerm l0 x6_1).f1)), .lit (.int .i64 ((rd_ITerm l0 x6_1).f2)), .lit (.int .i64 ((rd_ITerm l0 x6_1).f3))]) h4 rfl rfl Z128 rfl (Nat.le_of_ble_eq_true rfl) rfl rfl rfl rfl ?_
  rintro S (h6 : Box (.ptr i1 0) [.lit (.int .i64 ((rd_ITerm l0 x6_1).f0)), .lit (.int .i64 ((rd_ITerm l0 x6_1).f1)), .lit (.int .i64 ((rd_ITerm l0 x6_1).f2)), .lit (.int .i64 ((rd_ITerm l0 x6_1).f3))] _) u3
  have h7 := u3.vec h5 ap1
  refine Opl.nil (Evr.sr rfl (Opl.p1 (v := .ptr i1 0) (n := Opl.ldb (v := .lit (.int .i64 ((rd_ITerm l0 x6_1).f0))) h6 rfl T3 rfl rfl rfl rfl (Opl.p1 (n := Opl.nil ?_)))))
  refine Evr.join (fun tm S => ∃ (kq1 : Nat) (x5_2 : List Int) (pv3 : PV), spec_l1Values.l0 kq1 l0 l1 x5_2 (wrap64 (x6_1 + 1)) = some r ∧ kq1 ≤ n1 ∧ Has tm [(0, v0), (1, v1), (5, pv3), (6, .lit (.int .i64 x6_1))] ∧ Vec (cInt .i64) x5_2 pv3 S) ?_ fun hk1 => ?_
  ·
   rintro tm S ⟨kq1, x5_2, pv3, H, hle, hh, h8⟩
   rw [hh.eq]
   refine Evr.inBlock (Evr.regionN rfl (Opl.p1 (n := Opl.add (k := .i64) (a := x6_1) (b := 1) K3 rfl rfl rfl rfl (Opl.one (v := .lit (.int .i64 (wrap64 (x6_1 + 1)))) rfl rfl rfl (Opl.nil ?_)))))
   exact ih1 _ (by omega) _ _ ⟨by omega, _, _, _, H, ⟨rfl, rfl, rfl, rfl, trivial⟩, h8⟩
  ·
   by_cases c3 : ((rd_ITerm l0 x6_1).f0) = 0
   case pos =>
    rw [if_pos c3] at H
    have e2 : (((rd_ITerm l0 x6_1).f0) == 0) = true := by simpa using c3
    try rw [e2]
    refine Evr.condT rfl (Evr.regionN rfl (Opl.p1 (n := Opl.p1 (v := .ptr i1 1) (n := Opl.ldb (v := .lit (.int .i64 ((rd_ITerm l0 x6_1).f1))) h6 rfl T3 rfl rfl rfl rfl (Opl.lits (M := (cInt .i64)) (ys := [((rd_ITerm l0 x6_1).f1)]) [.tmp 24] K27 T3 rfl rfl rfl (by exact ⟨rfl, trivial⟩) rfl (by decide) rfl rfl rfl ?_)))))
    rintro pv4 S h9 u4 w4
    have ap2 := w4.vec h7
    have h10 := u4.vec h7 ap2
    have ap3 := w4.box h6
    have h11 := u4.box h6 ap3
    obtain ⟨c4, H⟩ := peel H
    refine Opl.app (M := (cInt .i64)) (xs := x5_1) (ys := [((rd_ITerm l0 x6_1).f1)]) (v := pv2) h10 (.vec h9) (oInt .i64) rfl rfl K27 T3 rfl rfl (by (try simp only [List.length_cons, List.length_nil]); omega) (by show (_ + _) * 8 ≤ 140737488355328; (try simp only [List.length_cons, List.length_nil]); omega) rfl rfl rfl rfl rfl ?_
    rintro pv5 S h12 u5 w5
    have ap4 := w5.box h11
    have h13 := u5.box h11 ap1.symm
    have ap5 := w5.vec h9
    have h14 := u5.vec h9 ap2.symm
    refine Opl.p1 (n := Opl.nil ?_)
    exact hk1 _ _ ⟨_, _, _, H, by omega, ⟨rfl, rfl, rfl, rfl, trivial⟩, h12⟩
   rw [if_neg c3] at H
   have e3 : (((rd_ITerm l0 x6_1).f0) == 0) = false := by simpa using c3
   try rw [e3]
   refine Evr.condF rfl (Evr.sr rfl (Opl.p1 (v := .ptr i1 0) (n := Opl.ldb (v := .lit (.int .i64 ((rd_ITerm l0 x6_1).f0))) h6 rfl T3 rfl rfl rfl rfl (Opl.p1 (n := Opl.nil ?_)))))
   refine Evr.join (fun tm S => ∃ (kq2 : Nat) (x5_3 : List Int) (pv6 : PV), spec_l1Values.l0 kq2 l0 l1 x5_3 (wrap64 (x6_1 + 1)) = some r ∧ kq2 ≤ n1 ∧ Has tm [(0, v0), (1, v1), (5, pv6), (6, .lit (.int .i64 x6_1))] ∧ Vec (cInt .i64) x5_3 pv6 S) ?_ fun hk2 => ?_
   ·
    rintro tm S ⟨kq2, x5_3, pv6, H, hle, hh, h15⟩
    rw [hh.eq]
    exact hk1 _ _ ⟨_, _, _, H, by omega, ⟨rfl, rfl, rfl, rfl, trivial⟩, h15⟩
   ·
    by_cases c5 : ((rd_ITerm l0 x6_1).f0) = 1
    case pos =>
     rw [if_pos c5] at H
     have e4 : (((rd_ITerm l0 x6_1).f0) == 1) = true := by simpa using c5
     try rw [e4]
     refine Evr.condT rfl (Evr.regionN rfl (Opl.p1 (n := Opl.p1 (n := Opl.p1 (v := .ptr i1 1) (n := Opl.ldb (v := .lit (.int .i64 ((rd_ITerm l0 x6_1).f1))) h6 rfl T3 rfl rfl rfl rfl ?_)))))
     obtain ⟨c6, H⟩ := peel H
     obtain ⟨c7, H⟩ := peel H
     obtain ⟨c8, H⟩ := peel H
     refine Opl.idx (M := (cInt .i64)) (xs := l1) (j := ((rd_ITerm l0 x6_1).f1)) (0 : Int) (by exact hv1) rfl (by omega) (by omega) K27 Z3 rfl rfl ?_
     rintro p2 q2 h16
     obtain rfl : p2 = [.lit (.int .i64 (rd l1 ((rd_ITerm l0 x6_1).f1)))] := h16
     refine Opl.lda (.lit (.int .i64 (rd l1 ((rd_ITerm l0 x6_1).f1)))) rfl T3 rfl rfl rfl rfl (Opl.lits (M := (cInt .i64)) (ys := [(rd l1 ((rd_ITerm l0 x6_1).f1))]) [.tmp 35] K27 T3 rfl rfl rfl (by exact ⟨rfl, trivial⟩) rfl (by decide) rfl rfl rfl ?_)
     rintro pv7 S h17 u6 w6
     have ap6 := w6.vec h7
     have h18 := u6.vec h7 ap6
     have ap7 := w6.box h6
     have h19 := u6.box h6 ap7
     refine Opl.app (M := (cInt .i64)) (xs := x5_1) (ys := [(rd l1 ((rd_ITerm l0 x6_1).f1))]) (v := pv2) h18 (.vec h17) (oInt .i64) rfl rfl K27 T3 rfl rfl (by (try simp only [List.length_cons, List.length_nil]); omega) (by show (_ + _) * 8 ≤ 140737488355328; (try simp only [List.length_cons, List.length_nil]); omega) rfl rfl rfl rfl rfl ?_
     rintro pv8 S h20 u7 w7
     have ap8 := w7.box h19
     have h21 := u7.box h19 ap1.symm
     have ap9 := w7.vec h17
     have h22 := u7.vec h17 ap6.symm
     refine Opl.p1 (n := Opl.nil ?_)
     exact hk2 _ _ ⟨_, _, _, H, by omega, ⟨rfl, rfl, rfl, rfl, trivial⟩, h20⟩
    rw [if_neg c5] at H
    have e5 : (((rd_ITerm l0 x6_1).f0) == 1) = false := by simpa using c5
    try rw [e5]
    refine Evr.condF rfl (Evr.regionD rfl (by kernel_rfl) (Opl.p1 (n := Opl.p1 (v := .ptr i1 0) (n := Opl.ldb (v := .lit (.int .i64 ((rd_ITerm l0 x6_1).f0))) h6 rfl T3 rfl rfl rfl rfl (Opl.p1 (n := Opl.p1 (v := .ptr i1 2) (n := Opl.ldb (v := .lit (.int .i64 ((rd_ITerm l0 x6_1).f2))) h6 rfl T3 rfl rfl rfl rfl ?_)))))))
    obtain ⟨c9, H⟩ := peel H
    obtain ⟨c10, H⟩ := peel H
    obtain ⟨c11, H⟩ := peel H
    obtain ⟨c12, H⟩ := peel H
    refine Opl.idv (M := (cInt .i64)) (xs := x5_1) (j := ((rd_ITerm l0 x6_1).f2)) (v := pv2) h7 rfl rfl (by omega) (by omega) K27 Z3 rfl rfl ?_
    rintro d1 z1 q3 h23 h24
    refine Opl.ldv (M := (cInt .i64)) (xs := x5_1) (j := ((rd_ITerm l0 x6_1).f2)) (0 : Int) h23 h24 (by omega) (by omega) rfl T3 rfl rfl rfl ?_
    rintro p3 q4 h25
    obtain rfl : p3 = [.lit (.int .i64 (rd x5_1 ((rd_ITerm l0 x6_1).f2)))] := h25
    refine ⟨.lit (.int .i64 (rd x5_1 ((rd_ITerm l0 x6_1).f2))), rfl, ?_⟩
    refine Opl.p1 (n := Opl.p1 (v := .ptr i1 3) (n := Opl.ldb (v := .lit (.int .i64 ((rd_ITerm l0 x6_1).f3))) h6 rfl T3 rfl rfl rfl rfl (Opl.idv (M := (cInt .i64)) (xs := x5_1) (j := ((rd_ITerm l0 x6_1).f3)) (v := pv2) h7 rfl rfl (by omega) (by omega) K27 Z3 rfl rfl ?_)))
    rintro d2 z2 q5 h26 h27
    refine Opl.ldv (M := (cInt .i64)) (xs := x5_1) (j := ((rd_ITerm l0 x6_1).f3)) (0 : Int) h26 h27 (by omega) (by omega) rfl T3 rfl rfl rfl ?_
    rintro p4 q6 h28
    obtain rfl : p4 = [.lit (.int .i64 (rd x5_1 ((rd_ITerm l0 x6_1).f3)))] := h28
    refine ⟨.lit (.int .i64 (rd x5_1 ((rd_ITerm l0 x6_1).f3))), rfl, ?_⟩
    obtain ⟨t968, h_t968, H⟩ := obs H
    refine Opl.callc (spec_l1Do.ev h_t968) rfl rfl rfl rfl ⟨(.lit _), (.lit _), (.lit _), trivial⟩ (by decide) (Opl.lits (M := (cInt .i64)) (ys := [t968]) [.tmp 51] K27 T3 rfl rfl rfl (by exact ⟨rfl, trivial⟩) rfl (by decide) rfl rfl rfl ?_)
    rintro pv9 S h29 u8 w8
    have ap10 := w8.vec h7
    have h30 := u8.vec h7 ap10
    have ap11 := w8.box h6
    have h31 := u8.box h6 ap11
    obtain ⟨c13, H⟩ := peel H
    refine Opl.app (M := (cInt .i64)) (xs := x5_1) (ys := [t968]) (v := pv2) h30 (.vec h29) (oInt .i64) rfl rfl K27 T3 rfl rfl (by (try simp only [List.length_cons, List.length_nil]); omega) (by show (_ + _) * 8 ≤ 140737488355328; (try simp only [List.length_cons, List.length_nil]); omega) rfl rfl rfl rfl rfl ?_
    rintro pv10 S h32 u9 w9
    have ap12 := w9.box h31
    have h33 := u9.box h31 ap1.symm
    have ap13 := w9.vec h29
    have h34 := u9.vec h29 ap10.symm
    refine Opl.p1 (n := Opl.nil ?_)
    exact hk2 _ _ ⟨_, _, _, H, by omega, ⟨rfl, rfl, rfl, rfl, trivial⟩, h32⟩
theorem spec_l2Last.ev {k : Nat} {l0 : List ITerm} {v0 : PV} (hv0 : Sl cITerm l0 v0) {l1 : List Int} {v1 : PV} (hv1 : Sl (cInt .i64) l1 v1) {r : Int} (H : spec_l2Last.f k l0 l1 = some r) : Ret Try.prog 152 [v0, v1] fun v S => v = .lit (.int .i64 r) := by
 unfold spec_l2Last.f at H
 refine Ret.intro Try.func152 rfl (Nat.le_of_ble_eq_true rfl) rfl ?_
 rw [tm2]
 refine Evr.sr rfl (Opl.p1 (n := Opl.nil (Evr.sr rfl (Opl.p1 (n := Opl.p1 (n := ?_))))))
 obtain ⟨t972, h_t972, H⟩ := obs H
 refine Opl.call ((spec_l1Values.ev hv0 hv1 h_t972).mono fun _ _ h => Out.vec h) rfl rfl rfl rfl ⟨hv0.plain, hv1.plain, trivial⟩ (by decide) ?_
 rintro pv1 h1
 refine Opl.p1 (n := Opl.len (xs := l0) (by exact hv0) K66 rfl rfl rfl rfl (Opl.subi (k := .i64) (a := (l0.length : Int)) (b := 1) K3 rfl rfl rfl rfl ?_))
 obtain ⟨c1, H⟩ := peel H
 obtain ⟨c2, H⟩ := peel H
 refine Opl.idx (M := (cInt .i64)) (xs := t972) (j := (wrap64 ((l0.length : Int) - 1))) (0 : Int) (by exact h1) rfl (by omega) (by omega) K27 Z3 rfl rfl ?_
 rintro p1 q1 h2
 obtain rfl : p1 = [.lit (.int .i64 (rd t972 (wrap64 ((l0.length : Int) - 1))))] := h2
 refine Opl.lda (.lit (.int .i64 (rd t972 (wrap64 ((l0.length : Int) - 1))))) rfl T3 rfl rfl rfl rfl (Opl.one (v := .lit (.int .i64 (rd t972 (wrap64 ((l0.length : Int) - 1))))) rfl rfl rfl (Opl.nil ?_))
 obtain rfl := sinj H
 refine Evr.ret1 Try.func152 rfl ?_
 show (.lit (.int .i64 (rd t972 (wrap64 ((l0.length : Int) - 1)))) : PV) = _
 first | rfl | (simp only [go_sem]; rfl)
theorem spec_l2Use.ev {k : Nat} {l0_0 : List IVar} {v0_0 : PV} (hv0_0 : Sl cIVar l0_0 v0_0) {l0_1 : List IRule} {v0_1 : PV} (hv0_1 : Sl cIRule l0_1 v0_1) {l1 : List Int} {v1 : PV} (hv1 : Sl (cInt .i64) l1 v1) {a2 : Int} {r : (List Int)} (H : spec_l2Use.f k l0_0 l0_1 l1 a2 = some r) : Ret Try.prog 97 [.agg [v0_0, v0_1], v1, .lit (.int .i64 a2)] fun v S => Vec (cInt .i64) r v S := by
 unfold spec_l2Use.f at H
 refine Ret.intro Try.func97 rfl (Nat.le_of_ble_eq_true rfl) rfl ?_
 rw [tm3]
 refine Evr.sr rfl (Opl.box (cs := [v0_0, v0_1]) rfl rfl rfl rfl ?_)
 rintro i1 S h1 u1 w1
 refine Opl.p1 (n := Opl.nil (Evr.sr rfl (Opl.p1 (v := .ptr i1 1) (n := Opl.ldb (v := v0_1) h1 rfl T24 rfl rfl rfl rfl (Opl.p1 (n := ?_))))))
 obtain ⟨c1, H⟩ := peel H
 obtain ⟨c2, H⟩ := peel H
 refine Opl.idx (M := cIRule) (xs := l0_1) (j := a2) zIRule (by exact hv0_1) rfl (by omega) (by omega) K24 Z106 rfl rfl ?_
 rintro p1 q1 h2
 obtain ⟨pv1, pv2, pv3, rfl, h3, h4, h5⟩ := cIRule_R (x := (rd_IRule l0_1 a2)) h2
 refine Opl.lda (.agg [pv1, pv2, pv3]) rfl T106 rfl rfl rfl rfl (Opl.alloc T106 rfl rfl rfl ?_)
 rintro i2 S h6 u2 w2
 have ap1 := w2.box h1
 have h7 := u2.box h1 ap1
 refine Opl.stb (vs := [pv1, pv2, pv3]) h6 rfl rfl Z106 rfl (Nat.le_of_ble_eq_true rfl) (by simp only [List.all_cons, List.all_nil, h3.one, h4.one, h5.one, Bool.and_true, Bool.true_and] <;> rfl) rfl rfl rfl ?_
 rintro S (h8 : Box (.ptr i2 0) [pv1, pv2, pv3] _) u3
 have h9 := u3.box h7 ap1
 refine Opl.nil (Evr.seq (Evr.sr rfl (Opl.p1 (v := .ptr i2 0) (n := Opl.ldb (v := pv1) h8 rfl T66 rfl rfl rfl rfl (Opl.p1 (n := ?_))))))
 obtain ⟨t984, h_t984, H⟩ := obs H
 refine Opl.callc (spec_l2Last.ev h3 hv1 h_t984) rfl rfl rfl rfl ⟨h3.plain, hv1.plain, trivial⟩ (by decide) (Opl.p1 (n := Opl.nil ?_))
 by_cases c3 : t984 = 0
 case pos =>
  rw [if_pos c3] at H
  have e1 : (t984 == 0) = true := by simpa using c3
  try rw [e1]
  refine Evr.condT rfl (Evr.sr rfl (Opl.p1 (n := Opl.nil ?_)))
  obtain rfl := sinj H
  refine Evr.ret1 Try.func97 rfl ?_
  show Vec _ _ (.lit (.slice none 0 0)) _
  exact .nil
 rw [if_neg c3] at H
 have e2 : (t984 == 0) = false := by simpa using c3
 try rw [e2]
 refine Evr.condF rfl (Evr.skip (Evr.sr rfl (Opl.lits (M := (cInt .i64)) (ys := []) [] K27 T3 rfl rfl rfl trivial rfl (by decide) rfl rfl rfl ?_)))
 rintro pv4 S h10 u4 w4
 have ap2 := w4.box h9
 have h11 := u4.box h9 ap2
 have ap3 := w4.box h8
 have h12 := u4.box h8 ap3
 refine Opl.p1 (n := Opl.nil (Evr.seq (Evr.sr rfl (Opl.p1 (n := Opl.nil (Evr.block ?_))))))
 refine Evr.loop (Evr.rounds (n := k) (Inv := fun n tm S => n ≤ k ∧ ∃ (x8_1 : List Int) (x9_1 : Int) (i3 : Abs.Id) (i4 : Abs.Id) (pv5 : PV), spec_l2Use.l0 n l1 x8_1 x9_1 l0_0 l0_1 ((rd_IRule l0_1 a2).f0) ((rd_IRule l0_1 a2).f1) ((rd_IRule l0_1 a2).f2) = some r ∧ Has tm [(1, v1), (3, .ptr i3 0), (7, .ptr i4 0), (8, pv5), (9, .lit (.int .i64 x9_1))] ∧ Box (.ptr i3 0) [v0_0, v0_1] S ∧ Box (.ptr i4 0) [pv1, pv2, pv3] S ∧ Vec (cInt .i64) x8_1 pv5 S ∧ Ap (.ptr i3 0) (.ptr i4 0) ∧ Ap (.ptr i3 0) pv5 ∧ Ap (.ptr i4 0) pv5) ?_ ?_ ?_)
 · exact ⟨Nat.le_refl _, _, _, _, _, _, H, ⟨rfl, rfl, rfl, rfl, rfl, trivial⟩, h11, h12, h10, ap1, ap2, ap3⟩
 ·
  rintro tm S ⟨_, _, _, _, _, _, H, -⟩
  simp [spec_l2Use.l0] at H
 ·
  rintro n1 ih1 tm S ⟨hle, x8_1, x9_1, i3, i4, pv5, H, hh, h13, h14, h15, ap4, ap5, ap6⟩
  simp only [spec_l2Use.l0] at H
  rw [hh.eq]
  refine Evr.seq (Evr.sr rfl (Opl.p1 (n := Opl.p1 (n := Opl.len (xs := l1) (by exact hv1) K27 rfl rfl rfl rfl (Opl.p1 (n := Opl.nil ?_))))))
  by_cases c4 : x9_1 < (l1.length : Int)
  case pos =>
   rw [if_pos c4] at H
   have e3 : (decide (x9_1 < (l1.length : Int))) = true := by simpa using c4
   try rw [e3]
   refine Evr.condT rfl (Evr.skip (Evr.seq (Evr.block (Evr.regionN rfl (Opl.p1 (n := Opl.p1 (n := Opl.p1 (n := ?_))))))))
   obtain ⟨c5, H⟩ := peel H
   obtain ⟨c6, H⟩ := peel H
   refine Opl.idx (M := (cInt .i64)) (xs := l1) (j := x9_1) (0 : Int) (by exact hv1) rfl (by omega) (by omega) K27 Z3 rfl rfl ?_
   rintro p2 q2 h16
   obtain rfl : p2 = [.lit (.int .i64 (rd l1 x9_1))] := h16
   refine Opl.lda (.lit (.int .i64 (rd l1 x9_1))) rfl T3 rfl rfl rfl rfl (Opl.lits (M := (cInt .i64)) (ys := [(rd l1 x9_1)]) [.tmp 32] K27 T3 rfl rfl rfl (by exact ⟨rfl, trivial⟩) rfl (by decide) rfl rfl rfl ?_)
   rintro pv6 S h17 u5 w5
   have ap7 := w5.box h13
   have h18 := u5.box h13 ap7
   have ap8 := w5.box h14
   have h19 := u5.box h14 ap8
   have ap9 := w5.vec h15
   have h20 := u5.vec h15 ap9
   refine Opl.app (M := (cInt .i64)) (xs := x8_1) (ys := [(rd l1 x9_1)]) (v := pv5) h20 (.vec h17) (oInt .i64) rfl rfl K27 T3 rfl rfl (by (try simp only [List.length_cons, List.length_nil]); omega) (by show (_ + _) * 8 ≤ 140737488355328; (try simp only [List.length_cons, List.length_nil]); omega) rfl rfl rfl rfl rfl ?_
   rintro pv7 S h21 u6 w6
   have ap10 := w6.box h18
   have h22 := u6.box h18 ap5
   have ap11 := w6.box h19
   have h23 := u6.box h19 ap6
   have ap12 := w6.vec h17
   have h24 := u6.vec h17 ap9.symm
   refine Opl.p1 (n := Opl.nil (Evr.inBlock (Evr.regionN rfl (Opl.p1 (n := Opl.add (k := .i64) (a := x9_1) (b := 1) K3 rfl rfl rfl rfl (Opl.one (v := .lit (.int .i64 (wrap64 (x9_1 + 1)))) rfl rfl rfl (Opl.nil ?_)))))))
   exact ih1 _ (by omega) _ _ ⟨by omega, _, _, _, _, _, H, ⟨rfl, rfl, rfl, rfl, rfl, trivial⟩, h22, h23, h21, ap4, ap10, ap11⟩
  rw [if_neg c4] at H
  have e4 : (decide (x9_1 < (l1.length : Int))) = false := by simpa using c4
  try rw [e4]
  refine Evr.condF rfl (Evr.exit rfl (Evr.seq (Evr.sr rfl (Opl.p1 (n := Opl.nil (Evr.block ?_))))))
  refine Evr.loop (Evr.rounds (n := n1) (Inv := fun n tm S => n ≤ n1 ∧ ∃ (x8_2 : List Int) (x10_1 : Int) (i5 : Abs.Id) (i6 : Abs.Id) (pv8 : PV), spec_l2Use.l1 n l1 x8_2 x10_1 l0_0 l0_1 ((rd_IRule l0_1 a2).f0) ((rd_IRule l0_1 a2).f1) ((rd_IRule l0_1 a2).f2) = some r ∧ Has tm [(1, v1), (3, .ptr i5 0), (7, .ptr i6 0), (8, pv8), (10, .lit (.int .i64 x10_1))] ∧ Box (.ptr i5 0) [v0_0, v0_1] S ∧ Box (.ptr i6 0) [pv1, pv2, pv3] S ∧ Vec (cInt .i64) x8_2 pv8 S ∧ Ap (.ptr i5 0) (.ptr i6 0) ∧ Ap (.ptr i5 0) pv8 ∧ Ap (.ptr i6 0) pv8) ?_ ?_ ?_)
  · exact ⟨Nat.le_refl _, _, _, _, _, _, H, ⟨rfl, rfl, rfl, rfl, rfl, trivial⟩, h13, h14, h15, ap4, ap5, ap6⟩
  ·
   rintro tm S ⟨_, _, _, _, _, _, H, -⟩
   simp [spec_l2Use.l1] at H
  ·
   rintro n2 ih2 tm S ⟨hle, x8_2, x10_1, i5, i6, pv8, H, hh, h25, h26, h27, ap13, ap14, ap15⟩
   simp only [spec_l2Use.l1] at H
   rw [hh.eq]
   refine Evr.seq (Evr.sr rfl (Opl.p1 (n := Opl.p1 (v := .ptr i6 1) (n := Opl.ldb (v := pv2) h26 rfl T27 rfl rfl rfl rfl (Opl.len (xs := ((rd_IRule l0_1 a2).f1)) (by exact h4) K27 rfl rfl rfl rfl (Opl.p1 (n := Opl.nil ?_)))))))
   by_cases c7 : x10_1 < (((rd_IRule l0_1 a2).f1).length : Int)
   case neg =>
    rw [if_neg c7] at H
    have e6 : (decide (x10_1 < (((rd_IRule l0_1 a2).f1).length : Int))) = false := by simpa using c7
    try rw [e6]
    refine Evr.condF rfl (Evr.exit rfl (Evr.seq (Evr.sr rfl (Opl.ldb (v := .agg [v0_0, v0_1]) h25 rfl T26 rfl rfl rfl rfl (Opl.p1 (n := ?_))))))
    obtain ⟨t996, h_t996, H⟩ := obs H
    obtain ⟨pv10, h36, -, h37⟩ := Out.vec h27
    refine Opl.callw (spec_l2In.ev hv0_0 hv0_1 h37 h_t996) rfl rfl rfl (.cons (.refl _) (.cons h36 .nil)) ⟨(.aggL ⟨hv0_0.plain, hv0_1.plain, trivial⟩), h37.plain, trivial⟩ (by decide) (Opl.p1 (n := Opl.nil ?_))
    by_cases c12 : t996 = true
    case neg =>
     rw [if_neg c12] at H
     have e8 : (!t996) = true := by simpa using c12
     try rw [e8]
     refine Evr.condT rfl (Evr.sr rfl (Opl.p1 (n := Opl.nil ?_)))
     obtain rfl := sinj H
     refine Evr.ret1 Try.func97 rfl ?_
     show Vec _ _ (.lit (.slice none 0 0)) _
     exact .nil
    rw [if_pos c12] at H
    have e7 : (!t996) = false := by simpa using c12
    try rw [e7]
    refine Evr.condF rfl (Evr.skip (Evr.sr rfl (Opl.p1 (n := Opl.p1 (n := Opl.nil ?_)))))
    obtain rfl := sinj H
    refine Evr.ret1 Try.func97 rfl ?_
    show Vec _ _ pv8 _
    exact h27
   rw [if_pos c7] at H
   have e5 : (decide (x10_1 < (((rd_IRule l0_1 a2).f1).length : Int))) = true := by simpa using c7
   try rw [e5]
   refine Evr.condT rfl (Evr.skip (Evr.seq (Evr.block (Evr.regionD rfl (by kernel_rfl) (Opl.p1 (n := Opl.p1 (v := .ptr i6 1) (n := Opl.ldb (v := pv2) h26 rfl T27 rfl rfl rfl rfl (Opl.p1 (n := ?_)))))))))
   obtain ⟨c8, H⟩ := peel H
   obtain ⟨c9, H⟩ := peel H
   refine Opl.idx (M := (cInt .i64)) (xs := ((rd_IRule l0_1 a2).f1)) (j := x10_1) (0 : Int) (by exact h4) rfl (by omega) (by omega) K27 Z3 rfl rfl ?_
   rintro p3 q3 h28
   obtain rfl : p3 = [.lit (.int .i64 (rd ((rd_IRule l0_1 a2).f1) x10_1))] := h28
   refine Opl.lda (.lit (.int .i64 (rd ((rd_IRule l0_1 a2).f1) x10_1))) rfl T3 rfl rfl rfl rfl (Opl.p1 (v := .ptr i6 2) (n := Opl.ldb (v := pv3) h26 rfl T104 rfl rfl rfl rfl (Opl.p1 (n := Opl.idx (M := (cSl cITerm)) (xs := ((rd_IRule l0_1 a2).f2)) (j := x10_1) ([] : List ITerm) (by exact h5) rfl (by omega) (by omega) K104 Z66 rfl rfl ?_))))
   rintro p4 q4 h29
   obtain ⟨pv9, rfl, h30⟩ := h29
   refine Opl.lda (pv9) rfl T66 rfl rfl rfl rfl (Opl.p1 (n := ?_))
   obtain ⟨t994, h_t994, H⟩ := obs H
   refine Opl.callc (spec_l2Last.ev h30 hv1 h_t994) rfl rfl rfl rfl ⟨h30.plain, hv1.plain, trivial⟩ (by decide) ?_
   obtain ⟨c10, H⟩ := peel H
   obtain ⟨c11, H⟩ := peel H
   refine Opl.idv (M := (cInt .i64)) (xs := x8_2) (j := (rd ((rd_IRule l0_1 a2).f1) x10_1)) (v := pv8) h27 rfl rfl (by omega) (by omega) K27 Z3 rfl rfl ?_
   rintro d1 z1 q5 h31 h32
   refine Opl.stv (M := (cInt .i64)) (xs := x8_2) (j := (rd ((rd_IRule l0_1 a2).f1) x10_1)) (y := t994) (vs := [.lit (.int .i64 t994)]) h31 h32 (by omega) (by omega) rfl rfl (by exact rfl) Z3 rfl rfl rfl rfl ?_
   rw [← q5]
   rintro S h33 u7
   have h34 := u7.box h25 ap14
   have h35 := u7.box h26 ap15
   refine Opl.nil (Evr.inBlock (Evr.regionN rfl (Opl.p1 (n := Opl.add (k := .i64) (a := x10_1) (b := 1) K3 rfl rfl rfl rfl (Opl.one (v := .lit (.int .i64 (wrap64 (x10_1 + 1)))) rfl rfl rfl (Opl.nil ?_))))))
   exact ih2 _ (by omega) _ _ ⟨by omega, _, _, _, _, _, H, ⟨rfl, rfl, rfl, rfl, rfl, trivial⟩, h34, h35, h33, ap13, ap14, ap15⟩
theorem spec_UsableIn.ev {k : Nat} {l0_0 : List IVar} {v0_0 : PV} (hv0_0 : Sl cIVar l0_0 v0_0) {l0_1 : List IRule} {v0_1 : PV} (hv0_1 : Sl cIRule l0_1 v0_1) {l1 : List Int} {v1 : PV} (hv1 : Sl (cInt .i64) l1 v1) {r : (List Int)} (H : spec_UsableIn.f k l0_0 l0_1 l1 = some r) : Ret Try.prog 147 [.agg [v0_0, v0_1], v1] fun v S => Vec (cInt .i64) r v S := by
 unfold spec_UsableIn.f at H
 refine Ret.intro Try.func147 rfl (Nat.le_of_ble_eq_true rfl) rfl ?_
 rw [tm2]
 refine Evr.sr rfl (Opl.box (cs := [v0_0, v0_1]) rfl rfl rfl rfl ?_)
 rintro i1 S h1 u1 w1
 refine Opl.p1 (n := Opl.nil (Evr.sr rfl (Opl.lits (M := (cInt .i64)) (ys := []) [] K27 T3 rfl rfl rfl trivial rfl (by decide) rfl rfl rfl ?_)))
 rintro pv1 S h2 u2 w2
 have ap1 := w2.box h1
 have h3 := u2.box h1 ap1
 refine Opl.p1 (n := Opl.nil (Evr.seq (Evr.sr rfl (Opl.ldb (v := .agg [v0_0, v0_1]) h3 rfl T26 rfl rfl rfl rfl (Opl.p1 (n := ?_))))))
 obtain ⟨y1001, hy_, H⟩ := obs H
 obtain rfl := Option.some.inj hy_
 obtain ⟨t1004, h_t1004, H⟩ := obs H
 refine Opl.callc (spec_InRange.ev hv0_0 hv0_1 hv1 h_t1004) rfl rfl rfl rfl ⟨(.aggL ⟨hv0_0.plain, hv0_1.plain, trivial⟩), hv1.plain, trivial⟩ (by decide) (Opl.p1 (n := Opl.nil ?_))
 by_cases c1 : t1004 = true
 case neg =>
  rw [if_neg c1] at H
  have e6 : (!t1004) = true := by simpa using c1
  try rw [e6]
  refine Evr.condT rfl (Evr.sr rfl (Opl.p1 (n := Opl.p1 (n := Opl.nil ?_))))
  obtain rfl := sinj H
  refine Evr.ret1 Try.func147 rfl ?_
  show Vec _ _ pv1 _
  exact h2
 rw [if_pos c1] at H
 have e1 : (!t1004) = false := by simpa using c1
 try rw [e1]
 refine Evr.condF rfl (Evr.skip (Evr.seq (Evr.sr rfl (Opl.p1 (n := Opl.nil (Evr.block ?_))))))
 refine Evr.loop (Evr.rounds (n := k) (Inv := fun n tm S => n ≤ k ∧ ∃ (x5_1 : List Int) (x6_1 : Int) (i2 : Abs.Id) (pv2 : PV), spec_UsableIn.l0 n l1 x5_1 x6_1 l0_0 l0_1 = some r ∧ Has tm [(1, v1), (2, .ptr i2 0), (5, pv2), (6, .lit (.int .i64 x6_1))] ∧ Box (.ptr i2 0) [v0_0, v0_1] S ∧ Vec (cInt .i64) x5_1 pv2 S ∧ Ap (.ptr i2 0) pv2) ?_ ?_ ?_)
 · exact ⟨Nat.le_refl _, _, _, _, _, H, ⟨rfl, rfl, rfl, rfl, trivial⟩, h3, h2, ap1⟩
 ·
  rintro tm S ⟨_, _, _, _, _, H, -⟩
  simp [spec_UsableIn.l0] at H
 ·
  rintro n1 ih1 tm S ⟨hle, x5_1, x6_1, i2, pv2, H, hh, h4, h5, ap2⟩
  simp only [spec_UsableIn.l0] at H
  rw [hh.eq]
  refine Evr.seq (Evr.sr rfl (Opl.p1 (n := Opl.p1 (v := .ptr i2 1) (n := Opl.ldb (v := v0_1) h4 rfl T24 rfl rfl rfl rfl (Opl.len (xs := l0_1) (by exact hv0_1) K24 rfl rfl rfl rfl (Opl.p1 (n := Opl.nil ?_)))))))
  by_cases c2 : x6_1 < (l0_1.length : Int)
  case neg =>
   rw [if_neg c2] at H
   have e5 : (decide (x6_1 < (l0_1.length : Int))) = false := by simpa using c2
   try rw [e5]
   refine Evr.condF rfl (Evr.exit rfl (Evr.sr rfl (Opl.p1 (n := Opl.p1 (n := Opl.nil ?_)))))
   obtain rfl := sinj H
   refine Evr.ret1 Try.func147 rfl ?_
   show Vec _ _ pv2 _
   exact h5
  rw [if_pos c2] at H
  have e2 : (decide (x6_1 < (l0_1.length : Int))) = true := by simpa using c2
  try rw [e2]
  refine Evr.condT rfl (Evr.skip (Evr.seq (Evr.block (Evr.sr rfl (Opl.ldb (v := .agg [v0_0, v0_1]) h4 rfl T26 rfl rfl rfl rfl (Opl.p1 (n := Opl.p1 (n := ?_))))))))
  obtain ⟨t1005, h_t1005, H⟩ := obs H
  refine Opl.call ((spec_l2Use.ev hv0_0 hv0_1 hv1 h_t1005).mono fun _ _ h => Out.vec h) rfl rfl rfl rfl ⟨(.aggL ⟨hv0_0.plain, hv0_1.plain, trivial⟩), hv1.plain, (.lit _), trivial⟩ (by decide) ?_
  rintro pv3 h6
  refine Opl.len (xs := t1005) (by exact h6) K27 rfl rfl rfl rfl (Opl.p1 (n := Opl.nil ?_))
  refine Evr.join (fun tm S => ∃ (kq1 : Nat) (x5_2 : List Int) (i3 : Abs.Id) (pv4 : PV), spec_UsableIn.l0 kq1 l1 x5_2 (wrap64 (x6_1 + 1)) l0_0 l0_1 = some r ∧ kq1 ≤ n1 ∧ Has tm [(1, v1), (2, .ptr i3 0), (5, pv4), (6, .lit (.int .i64 x6_1))] ∧ Box (.ptr i3 0) [v0_0, v0_1] S ∧ Vec (cInt .i64) x5_2 pv4 S ∧ Ap (.ptr i3 0) pv4) ?_ fun hk1 => ?_
  ·
   rintro tm S ⟨kq1, x5_2, i3, pv4, H, hle, hh, h7, h8, ap3⟩
   rw [hh.eq]
   refine Evr.inBlock (Evr.regionN rfl (Opl.p1 (n := Opl.add (k := .i64) (a := x6_1) (b := 1) K3 rfl rfl rfl rfl (Opl.one (v := .lit (.int .i64 (wrap64 (x6_1 + 1)))) rfl rfl rfl (Opl.nil ?_)))))
   exact ih1 _ (by omega) _ _ ⟨by omega, _, _, _, _, H, ⟨rfl, rfl, rfl, rfl, trivial⟩, h7, h8, ap3⟩
  ·
   by_cases c3 : (t1005.length : Int) > 0
   case neg =>
    rw [if_neg c3] at H
    have e4 : (decide ((t1005.length : Int) > 0)) = false := by simpa using c3
    try rw [e4]
    refine Evr.condF rfl (Evr.skip ?_)
    exact hk1 _ _ ⟨_, _, _, _, H, by omega, ⟨rfl, rfl, rfl, rfl, trivial⟩, h4, h5, ap2⟩
   rw [if_pos c3] at H
   have e3 : (decide ((t1005.length : Int) > 0)) = true := by simpa using c3
   try rw [e3]
   refine Evr.condT rfl (Evr.regionN rfl (Opl.p1 (n := Opl.p1 (n := Opl.lits (M := (cInt .i64)) (ys := [x6_1]) [.tmp 27] K27 T3 rfl rfl rfl (by exact ⟨rfl, trivial⟩) rfl (by decide) rfl rfl rfl ?_))))
   rintro pv5 S h9 u3 w3
   have ap4 := w3.box h4
   have h10 := u3.box h4 ap4
   have ap5 := w3.vec h5
   have h11 := u3.vec h5 ap5
   obtain ⟨c4, H⟩ := peel H
   refine Opl.app (M := (cInt .i64)) (xs := x5_1) (ys := [x6_1]) (v := pv2) h11 (.vec h9) (oInt .i64) rfl rfl K27 T3 rfl rfl (by (try simp only [List.length_cons, List.length_nil]); omega) (by show (_ + _) * 8 ≤ 140737488355328; (try simp only [List.length_cons, List.length_nil]); omega) rfl rfl rfl rfl rfl ?_
   rintro pv6 S h12 u4 w4
   have ap6 := w4.box h10
   have h13 := u4.box h10 ap2
   have ap7 := w4.vec h9
   have h14 := u4.vec h9 ap5.symm
   refine Opl.p1 (n := Opl.nil ?_)
   exact hk1 _ _ ⟨_, _, _, _, H, by omega, ⟨rfl, rfl, rfl, rfl, trivial⟩, h13, h12, ap6⟩
theorem spec_l3Walk.evb {k : Nat} {S0 : Sto} {l0_0 : List Int} {a0_1 : Int} {i0 : Abs.Id} {q0 : PV} (hq0 : Sl (cInt .u8) l0_0 q0) (hb0 : Box (.ptr i0 0) [q0, .lit (.int .i64 a0_1)] S0) {l1_0 : List IVar} {v1_0 : PV} (hv1_0 : Sl cIVar l1_0 v1_0) {l1_1 : List IRule} {v1_1 : PV} (hv1_1 : Sl cIRule l1_1 v1_1) {a2 : Int} {r : Int × (List (List Int) × List Int)} (H : spec_l3Walk.f k l0_0 a0_1 l1_0 l1_1 a2 = some r) : RetS Try.prog 80 [.ptr i0 0, .agg [v1_0, v1_1], .lit (.int .i64 a2)] S0 fun v S => ∃ v_0 v_1, v = .agg [v_0, v_1] ∧ Vec (cSl (cInt .i64)) r.2.1 v_0 S ∧ New S0 v_0 ∧ Vec (cInt .i64) r.2.2 v_1 S ∧ New S0 v_1 ∧ Ap v_0 v_1 ∧ Box (.ptr i0 0) [q0, .lit (.int .i64 r.1)] S ∧ Same S0 S [i0] := by
 have hs0 : Same S0 S0 [i0] := .refl _ _
 unfold spec_l3Walk.f at H
 refine RetS.intro Try.func80 rfl (Nat.le_of_ble_eq_true rfl) rfl ?_
 rw [tm3]
 refine Evr.sr rfl (Opl.box (cs := [v1_0, v1_1]) rfl rfl rfl rfl ?_)
 rintro i1 S h1 u1 w1
 have ap1 := w1.sameP hs0
 have h2 := u1.sameP hs0 ap1
 have ap2 := w1.box hb0
 have h3 := u1.box hb0 ap2
 refine Opl.alloc T42 rfl rfl rfl ?_
 rintro i2 S h4 u2 w2
 have ap3 := w2.sameP h2
 have h5 := u2.sameP h2 ap3
 have ap4 := w2.box h3
 have h6 := u2.box h3 ap4
 have ap5 := w2.box h1
 have h7 := u2.box h1 ap5
 refine Opl.nil (Evr.sr rfl (Opl.ldb (v := .agg [v1_0, v1_1]) h7 rfl T26 rfl rfl rfl rfl ?_))
 obtain ⟨r1, h_r1, H⟩ := obs H
 refine Opl.call ((spec_FirstState.ev hv1_0 hv1_1 h_r1).mono fun _ _ h => Out.vec h) rfl rfl rfl rfl ⟨(.aggL ⟨hv1_0.plain, hv1_1.plain, trivial⟩), trivial⟩ (by decide) ?_
 rintro pv1 h8
 refine Opl.lits (M := (cSl (cInt .i64))) (ys := [r1]) [.tmp 12] K30 T27 rfl rfl rfl (by exact ⟨⟨_, by first | rfl | exact h8.cells, h8⟩, trivial⟩) rfl (by decide) rfl rfl rfl ?_
 rintro pv2 S h9 u3 w3
 have ap6 := w3.sameP h5
 have h10 := u3.sameP h5 ap6
 have ap7 := w3.box h6
 have h11 := u3.box h6 ap7
 have ap8 := w3.box h7
 have h12 := u3.box h7 ap8
 have ap9 := w3.box h4
 have h13 := u3.box h4 ap9
 refine Opl.one (v := .agg [pv2, .lit (.slice none 0 0)]) rfl rfl (by simp only [go_sem]; simp only [fillL, Vec.cells h9]; rfl) (Opl.alloc T42 rfl rfl rfl ?_)
 rintro i3 S h14 u4 w4
 have ap10 := w4.sameP h10
 have h15 := u4.sameP h10 ap10
 have ap11 := w4.box h11
 have h16 := u4.box h11 ap11
 have ap12 := w4.box h12
 have h17 := u4.box h12 ap12
 have ap13 := w4.box h13
 have h18 := u4.box h13 ap13
 have ap14 := w4.vec h9
 have h19 := u4.vec h9 ap14
 refine Opl.stb (vs := [pv2, .lit (.slice none 0 0)]) h14 rfl rfl Z42 rfl (Nat.le_of_ble_eq_true rfl) (by simp only [List.all_cons, List.all_nil, Vec.one h19, Bool.and_true, Bool.true_and] <;> rfl) rfl rfl rfl ?_
 rintro S (h20 : Box (.ptr i3 0) [pv2, .lit (.slice none 0 0)] _) u5
 have h21 := u5.sameP h15 ap10
 have h22 := u5.box h16 ap11
 have h23 := u5.box h17 ap12
 have h24 := u5.box h18 ap13
 have h25 := u5.vec h19 ap14
 refine Opl.nil (Evr.seq (Evr.sr rfl (Opl.p1 (n := Opl.p1 (n := Opl.add (k := .i64) (a := a2) (b := 1) K3 rfl rfl rfl rfl ?_)))))
 obtain ⟨r2, h_r2, H⟩ := obs H
 refine Opl.calls (spec_l40Rd_pick.evb hq0 h22 h_r2) rfl rfl rfl rfl rfl ?_
 rintro _ S ⟨rfl, h26, u6⟩
 have h27 := u6.sameP h21 OutT.box
 have h28 := u6.box h23 (ap2.symm).pt
 have h29 := u6.box h24 (ap4.symm).pt
 have h30 := u6.vec h25 (ap7.symm).pt
 have h31 := u6.box h20 (ap11.symm).pt
 refine Opl.one (v := .lit (.int .i64 r2.2)) rfl rfl rfl (Opl.nil (Evr.block (Evr.frzb 4 h28 rfl ?_)))
 rintro S u7
 have h32 := u7.sameP h27 ap1
 have h33 := u7.box h26 ap2
 have h34 := u7.box h29 ap5.symm
 have h35 := u7.vec h30 ap8.symm
 have h36 := u7.box h31 ap12.symm
 refine Evr.loop (Evr.rounds (n := k) (Inv := fun n tm S => n ≤ k ∧ ∃ (x0b1q2_1 : Int) (x7b0_1 : List (List Int)) (x7b1_1 : List Int) (x8_1 : Int) (i4 : Abs.Id) (pv3 : PV) (pv4 : PV) (i5 : Abs.Id), spec_l3Walk.l1 n x0b1q2_1 x7b0_1 x7b1_1 x8_1 l0_0 l1_0 l1_1 = some r ∧ Has tm [(0, .ptr i0 0), (4, .fel (v1_0 :: v1_1 :: [])), (6, .ptr i4 0), (7, .ptr i5 0), (8, .lit (.int .i64 x8_1))] ∧ Box (.ptr i0 0) [q0, .lit (.int .i64 x0b1q2_1)] S ∧ Box (.ptr i4 0) [.lit (.slice none 0 0), .lit (.slice none 0 0)] S ∧ Vec (cSl (cInt .i64)) x7b0_1 pv3 S ∧ Vec (cInt .i64) x7b1_1 pv4 S ∧ Box (.ptr i5 0) [pv3, pv4] S ∧ Same S0 S [i0] ∧ OutT S0 [i0] (PV.ptr i4 0).id?.toList ∧ OutT S0 [i0] (PV.id? pv3).toList ∧ OutT S0 [i0] (PV.id? pv4).toList ∧ OutT S0 [i0] (PV.ptr i5 0).id?.toList ∧ Ap (.ptr i0 0) (.ptr i4 0) ∧ Ap (.ptr i0 0) pv3 ∧ Ap (.ptr i0 0) pv4 ∧ Ap (.ptr i0 0) (.ptr i5 0) ∧ Ap (.ptr i4 0) pv3 ∧ Ap (.ptr i4 0) pv4 ∧ Ap (.ptr i4 0) (.ptr i5 0) ∧ Ap pv3 pv4 ∧ Ap pv3 (.ptr i5 0) ∧ Ap pv4 (.ptr i5 0)) ?_ ?_ ?_)
 · exact ⟨Nat.le_refl _, _, _, _, _, _, _, _, _, H, ⟨rfl, rfl, rfl, rfl, rfl, trivial⟩, h33, h34, h35, .nil, h36, h32, ap3, ap6, OutT.lit, ap10, ap4, ap7, Ap.nil.symm, ap11, ap9, Ap.nil.symm, ap13, Ap.nil.symm, ap14, .nil⟩
 ·
  rintro tm S ⟨_, _, _, _, _, _, _, _, _, H, -⟩
  simp [spec_l3Walk.l1] at H
 ·
  rintro n1 ih1 tm S ⟨hle, x0b1q2_1, x7b0_1, x7b1_1, x8_1, i4, pv3, pv4, i5, H, hh, h37, h38, h40, h41, h39, h42, o1, o2, o3, o4, ap15, ap16, ap17, ap18, ap19, ap20, ap21, ap22, ap23, ap24⟩
  simp only [spec_l3Walk.l1] at H
  rw [hh.eq]
  refine Evr.seq (Evr.sr rfl (Opl.p1 (n := Opl.p1 (n := Opl.nil ?_))))
  by_cases c1 : x8_1 > 0
  case neg =>
   rw [if_neg c1] at H
   have e4 : (decide (x8_1 > 0)) = false := by simpa using c1
   try rw [e4]
   refine Evr.condF rfl (Evr.exit rfl (Evr.sr rfl (Opl.ldb (v := .agg [pv3, pv4]) h39 rfl T42 rfl rfl rfl rfl (Opl.stb (vs := [pv3, pv4]) h38 rfl rfl Z42 rfl (Nat.le_of_ble_eq_true rfl) (by simp only [List.all_cons, List.all_nil, Vec.one h40, Vec.one h41, Bool.and_true, Bool.true_and] <;> rfl) rfl rfl rfl ?_))))
   rintro S (h92 : Box (.ptr i4 0) [pv3, pv4] _) u13
   have h93 := u13.box h37 ap15
   have h94 := u13.vec h40 ap19.symm
   have h95 := u13.vec h41 ap20.symm
   have h96 := u13.box h39 ap21.symm
   have h97 := u13.sameP h42 o1
   refine Opl.nil ?_
   obtain rfl := sinj H
   refine Evr.retb (v := .agg [pv3, pv4]) Try.func80 rfl h92 rfl T42 rfl ?_
   exact ⟨_, _, rfl, h94, (OutT.new (i := i0) o2 ap16.symm), h95, (OutT.new (i := i0) o3 ap17.symm), ap22, h93, h97⟩
  rw [if_pos c1] at H
  have e1 : (decide (x8_1 > 0)) = true := by simpa using c1
  try rw [e1]
  refine Evr.condT rfl (Evr.skip (Evr.seq (Evr.block (Evr.seq (Evr.regionD rfl (by kernel_rfl) (Opl.lda (.agg [v1_0, v1_1]) rfl T26 rfl rfl rfl rfl (Opl.p1 (v := .ptr i5 0) (n := Opl.ldb (v := pv3) h39 rfl T30 rfl rfl rfl rfl (Opl.p1 (v := .ptr i5 0) (n := Opl.ldb (v := pv3) h39 rfl T30 rfl rfl rfl rfl (Opl.lenv (xs := x7b0_1) (by exact h40) K30 rfl rfl rfl rfl (Opl.subi (k := .i64) (a := (x7b0_1.length : Int)) (b := 1) K3 rfl rfl rfl rfl ?_))))))))))))
  obtain ⟨c2, H⟩ := peel H
  obtain ⟨c3, H⟩ := peel H
  refine Opl.idv (M := (cSl (cInt .i64))) (xs := x7b0_1) (j := (wrap64 ((x7b0_1.length : Int) - 1))) (v := pv3) h40 rfl rfl (by omega) (by omega) K30 Z27 rfl rfl ?_
  rintro d1 z1 q1 h43 h44
  refine Opl.ldv (M := (cSl (cInt .i64))) (xs := x7b0_1) (j := (wrap64 ((x7b0_1.length : Int) - 1))) ([] : List Int) h43 h44 (by omega) (by omega) rfl T27 rfl rfl rfl ?_
  rintro p1 q2 h45
  obtain ⟨pv5, rfl, h46⟩ := h45
  refine ⟨pv5, rfl, ?_⟩
  obtain ⟨r3, h_r3, H⟩ := obs H
  refine Opl.call ((spec_UsableIn.ev hv1_0 hv1_1 h46 h_r3).mono fun _ _ h => Out.vec h) rfl rfl rfl rfl ⟨(.aggL ⟨hv1_0.plain, hv1_1.plain, trivial⟩), h46.plain, trivial⟩ (by decide) ?_
  rintro pv6 h47
  refine Opl.one (v := pv6) rfl rfl rfl (Opl.nil (Evr.sr rfl (Opl.one (v := pv6) rfl rfl rfl (Opl.len (xs := r3) (by exact h47) K27 rfl rfl rfl rfl (Opl.p1 (n := Opl.nil ?_))))))
  refine Evr.join (fun tm S => ∃ (kq1 : Nat) (x0b1q2_2 : Int) (x7b0_2 : List (List Int)) (x7b1_2 : List Int) (i6 : Abs.Id) (pv7 : PV) (pv8 : PV) (i7 : Abs.Id), spec_l3Walk.l1 kq1 x0b1q2_2 x7b0_2 x7b1_2 (wrap64 (x8_1 - 1)) l0_0 l1_0 l1_1 = some r ∧ kq1 ≤ n1 ∧ Has tm [(0, .ptr i0 0), (4, .fel (v1_0 :: v1_1 :: [])), (6, .ptr i6 0), (7, .ptr i7 0), (8, .lit (.int .i64 x8_1))] ∧ Box (.ptr i0 0) [q0, .lit (.int .i64 x0b1q2_2)] S ∧ Box (.ptr i6 0) [.lit (.slice none 0 0), .lit (.slice none 0 0)] S ∧ Vec (cSl (cInt .i64)) x7b0_2 pv7 S ∧ Vec (cInt .i64) x7b1_2 pv8 S ∧ Box (.ptr i7 0) [pv7, pv8] S ∧ Same S0 S [i0] ∧ OutT S0 [i0] (PV.ptr i6 0).id?.toList ∧ OutT S0 [i0] (PV.id? pv7).toList ∧ OutT S0 [i0] (PV.id? pv8).toList ∧ OutT S0 [i0] (PV.ptr i7 0).id?.toList ∧ Ap (.ptr i0 0) (.ptr i6 0) ∧ Ap (.ptr i0 0) pv7 ∧ Ap (.ptr i0 0) pv8 ∧ Ap (.ptr i0 0) (.ptr i7 0) ∧ Ap (.ptr i6 0) pv7 ∧ Ap (.ptr i6 0) pv8 ∧ Ap (.ptr i6 0) (.ptr i7 0) ∧ Ap pv7 pv8 ∧ Ap pv7 (.ptr i7 0) ∧ Ap pv8 (.ptr i7 0)) ?_ fun hk1 => ?_
  ·
   rintro tm S ⟨kq1, x0b1q2_2, x7b0_2, x7b1_2, i6, pv7, pv8, i7, H, hle, hh, h48, h49, h51, h52, h50, h53, o5, o6, o7, o8, ap25, ap26, ap27, ap28, ap29, ap30, ap31, ap32, ap33, ap34⟩
   rw [hh.eq]
   refine Evr.inBlock (Evr.regionN rfl (Opl.p1 (n := Opl.subi (k := .i64) (a := x8_1) (b := 1) K3 rfl rfl rfl rfl (Opl.one (v := .lit (.int .i64 (wrap64 (x8_1 - 1)))) rfl rfl rfl (Opl.nil ?_)))))
   exact ih1 _ (by omega) _ _ ⟨by omega, _, _, _, _, _, _, _, _, H, ⟨rfl, rfl, rfl, rfl, rfl, trivial⟩, h48, h49, h51, h52, h50, h53, o5, o6, o7, o8, ap25, ap26, ap27, ap28, ap29, ap30, ap31, ap32, ap33, ap34⟩
  ·
   by_cases c4 : (r3.length : Int) > 0
   case neg =>
    rw [if_neg c4] at H
    have e3 : (decide ((r3.length : Int) > 0)) = false := by simpa using c4
    try rw [e3]
    refine Evr.condF rfl (Evr.skip ?_)
    exact hk1 _ _ ⟨_, _, _, _, _, _, _, _, H, by omega, ⟨rfl, rfl, rfl, rfl, rfl, trivial⟩, h37, h38, h40, h41, h39, h42, o1, o2, o3, o4, ap15, ap16, ap17, ap18, ap19, ap20, ap21, ap22, ap23, ap24⟩
   rw [if_pos c4] at H
   have e2 : (decide ((r3.length : Int) > 0)) = true := by simpa using c4
   try rw [e2]
   refine Evr.condT rfl (Evr.sr rfl (Opl.one (v := pv6) rfl rfl rfl (Opl.one (v := .ptr i0 0) rfl rfl rfl (Opl.one (v := pv6) rfl rfl rfl (Opl.len (xs := r3) (by exact h47) K27 rfl rfl rfl rfl ?_)))))
   obtain ⟨r4, h_r4, H⟩ := obs H
   refine Opl.calls (spec_l40Rd_pick.evb hq0 h37 h_r4) rfl rfl rfl rfl rfl ?_
   rintro _ S ⟨rfl, h54, u8⟩
   have h55 := u8.box h38 (ap15.symm).pt
   have h56 := u8.vec h40 (ap16.symm).pt
   have h57 := u8.vec h41 (ap17.symm).pt
   have h58 := u8.box h39 (ap18.symm).pt
   have h59 := u8.sameP h42 OutT.box
   obtain ⟨c5, H⟩ := peel H
   obtain ⟨c6, H⟩ := peel H
   obtain ⟨c7, H⟩ := peel H
   obtain ⟨c8, H⟩ := peel H
   refine Opl.idx (M := (cInt .i64)) (xs := r3) (j := r4.2) (0 : Int) (by exact h47) rfl (by omega) (by omega) K27 Z3 rfl rfl ?_
   rintro p2 q3 h60
   obtain rfl : p2 = [.lit (.int .i64 (rd r3 r4.2))] := h60
   refine Opl.lda (.lit (.int .i64 (rd r3 r4.2))) rfl T3 rfl rfl rfl rfl (Opl.one (v := .lit (.int .i64 (rd r3 r4.2))) rfl rfl rfl (Opl.nil (Evr.seq (Evr.regionL [(2, .p), (13, .p), (1, .q), (4, .q), (6, .q), (14, .m)] rfl (by kernel_rfl) (Opl.p1 (v := .ptr i5 0) (n := Opl.ldbk (v := pv3) h58 (rd_vec h57) rfl T30 rfl rfl rfl rfl (Opl.ldp (.agg [v1_0, v1_1]) rfl T26 rfl rfl rfl (Opl.p1 (v := .ptr i5 0) (n := Opl.ldbk (v := pv3) h58 (rd_vec h57) rfl T30 rfl rfl rfl rfl (Opl.p1 (v := .ptr i5 0) (n := Opl.ldbk (v := pv3) h58 (rd_vec h57) rfl T30 rfl rfl rfl rfl (Opl.lenv (xs := x7b0_1) (by exact h56) K30 rfl rfl rfl rfl (Opl.subi (k := .i64) (a := (x7b0_1.length : Int)) (b := 1) K3 rfl rfl rfl rfl (Opl.idv (M := (cSl (cInt .i64))) (xs := x7b0_1) (j := (wrap64 ((x7b0_1.length : Int) - 1))) (v := pv3) h56 rfl rfl (by omega) (by omega) K30 Z27 rfl rfl ?_))))))))))))))
   rintro d2 z2 q4 h61 h62
   refine Opl.ldv (M := (cSl (cInt .i64))) (xs := x7b0_1) (j := (wrap64 ((x7b0_1.length : Int) - 1))) ([] : List Int) h61 h62 (by omega) (by omega) rfl T27 rfl rfl rfl ?_
   rintro p3 q5 h63
   obtain ⟨pv9, rfl, h64⟩ := h63
   refine ⟨pv9, rfl, ?_⟩
   refine Opl.one (v := .lit (.int .i64 (rd r3 r4.2))) rfl rfl rfl ?_
   obtain ⟨r5, h_r5, H⟩ := obs H
   refine Opl.call ((spec_l2Use.ev hv1_0 hv1_1 h64 h_r5).mono fun _ _ h => Out.vec h) rfl rfl rfl rfl ⟨(.aggL ⟨hv1_0.plain, hv1_1.plain, trivial⟩), h64.plain, (.lit _), trivial⟩ (by decide) ?_
   rintro pv10 h65
   refine Opl.liti (M := (cSl (cInt .i64))) (ys := [r5]) [.tmp 55] K30 T27 rfl rfl rfl (by exact ⟨⟨_, by first | rfl | exact h65.cells, h65⟩, trivial⟩) rfl (by decide) rfl rfl ?_
   rintro pv12 h66
   obtain ⟨c9, H⟩ := peel H
   obtain ⟨c10, H⟩ := peel H
   refine Opl.appm rfl (M := (cSl (cInt .i64))) (xs := x7b0_1) (ys := [r5]) (v := pv3) h56 (.sl h66) (oSl (cInt .i64)) rfl rfl K30 T27 rfl rfl (by (try simp only [List.length_cons, List.length_nil]); omega) (by show (_ + _) * 24 ≤ 140737488355328; (try simp only [List.length_cons, List.length_nil]); omega) rfl rfl rfl rfl rfl ?_
   rintro pv13 S h67 u9 w6
   have ap35 := w6.box h54
   have h68 := u9.box h54 ap16
   have ap36 := w6.box h55
   have h69 := u9.box h55 ap19
   have ap37 := w6.vec h57
   have h70 := u9.vec h57 ap22.symm
   have ap38 := w6.box h58
   have h71 := u9.box h58 ap23.symm
   have ap39 := w6.sameP h59
   have h72 := u9.sameP h59 o2
   refine Opl.p1 (v := .ptr i5 0) (n := Opl.stb (vs := [pv13]) h71 rfl (by exact Vec.cells h67) Z30 rfl (Nat.le_of_ble_eq_true rfl) (by simp only [List.all_cons, List.all_nil, Vec.one h67, Bool.and_true, Bool.true_and] <;> rfl) rfl rfl rfl ?_)
   rintro S (h73 : Box (.ptr i5 0) [pv13, pv4] _) u10
   have h74 := u10.box h68 ap18
   have h75 := u10.box h69 ap21
   have h76 := u10.vec h70 ap24
   have h77 := u10.sameP h72 o4
   have h78 := u10.vec h67 ap38.symm
   refine Opl.nil (Evr.regionN rfl (Opl.p1 (v := .ptr i5 1) (n := Opl.ldb (v := pv4) h73 rfl T27 rfl rfl rfl rfl (Opl.one (v := .lit (.int .i64 (rd r3 r4.2))) rfl rfl rfl (Opl.liti (M := (cInt .i64)) (ys := [(rd r3 r4.2)]) [.tmp 61] K27 T3 rfl rfl rfl (by exact ⟨rfl, trivial⟩) rfl (by decide) rfl rfl ?_)))))
   rintro pv15 h79
   refine Opl.app (M := (cInt .i64)) (xs := x7b1_1) (ys := [(rd r3 r4.2)]) (v := pv4) h76 (.sl h79) (oInt .i64) rfl rfl K27 T3 rfl rfl (by (try simp only [List.length_cons, List.length_nil]); omega) (by show (_ + _) * 8 ≤ 140737488355328; (try simp only [List.length_cons, List.length_nil]); omega) rfl rfl rfl rfl rfl ?_
   rintro pv16 S h80 u11 w8
   have ap40 := w8.box h74
   have h81 := u11.box h74 ap17
   have ap41 := w8.box h75
   have h82 := u11.box h75 ap20
   have ap42 := w8.box h73
   have h83 := u11.box h73 ap24.symm
   have ap43 := w8.sameP h77
   have h84 := u11.sameP h77 o3
   have ap44 := w8.vec h78
   have h85 := u11.vec h78 ap37.symm
   refine Opl.p1 (v := .ptr i5 1) (n := Opl.stb (vs := [pv16]) h83 rfl (by exact Vec.cells h80) Z27 rfl (Nat.le_of_ble_eq_true rfl) (by simp only [List.all_cons, List.all_nil, Vec.one h80, Bool.and_true, Bool.true_and] <;> rfl) rfl rfl rfl ?_)
   rintro S (h86 : Box (.ptr i5 0) [pv13, pv16] _) u12
   have h87 := u12.box h81 ap18
   have h88 := u12.box h82 ap21
   have h89 := u12.sameP h84 o4
   have h90 := u12.vec h85 ap38.symm
   have h91 := u12.vec h80 ap42.symm
   refine Opl.nil ?_
   exact hk1 _ _ ⟨_, _, _, _, _, _, _, _, H, by omega, ⟨rfl, rfl, rfl, rfl, rfl, trivial⟩, h87, h88, h90, h91, h86, h89, o1, ap39, ap43, o4, ap15, ap35, ap40, ap18, ap36, ap41, ap21, ap44, ap38.symm, ap42.symm⟩
theorem spec_l3Walk.evf {k : Nat} {S0 : Sto} {l0_0 : List Int} {a0_1 : Int} {i0 : Abs.Id} {q0 : PV} (hq0 : Sl (cInt .u8) l0_0 q0) (hb0 : Box (.ptr i0 0) [q0, .lit (.int .i64 a0_1)] S0) {l1_0 : List IVar} {v1_0 : PV} (hv1_0 : Sl cIVar l1_0 v1_0) {l1_1 : List IRule} {v1_1 : PV} (hv1_1 : Sl cIRule l1_1 v1_1) {a2 : Int} {r : Int × (List (List Int) × List Int)} (H : spec_l3Walk.f k l0_0 a0_1 l1_0 l1_1 a2 = some r) : RetS Try.prog 80 [.ptr i0 0, .agg [v1_0, v1_1], .lit (.int .i64 a2)] S0 fun v S => ∃ v_0 v_1, v = .agg [v_0, v_1] ∧ Sl (cSl (cInt .i64)) r.2.1 v_0 ∧ Sl (cInt .i64) r.2.2 v_1 ∧ Box (.ptr i0 0) [q0, .lit (.int .i64 r.1)] S ∧ Same S0 S [i0] := by
 have hs0 : Same S0 S0 [i0] := .refl _ _
 unfold spec_l3Walk.f at H
 refine RetS.intro Try.func80 rfl (Nat.le_of_ble_eq_true rfl) rfl ?_
 rw [tm3]
 refine Evr.sr rfl (Opl.box (cs := [v1_0, v1_1]) rfl rfl rfl rfl ?_)
 rintro i1 S h1 u1 w1
 have ap1 := w1.sameP hs0
 have h2 := u1.sameP hs0 ap1
 have ap2 := w1.box hb0
 have h3 := u1.box hb0 ap2
 refine Opl.alloc T42 rfl rfl rfl ?_
 rintro i2 S h4 u2 w2
 have ap3 := w2.sameP h2
 have h5 := u2.sameP h2 ap3
 have ap4 := w2.box h3
 have h6 := u2.box h3 ap4
 have ap5 := w2.box h1
 have h7 := u2.box h1 ap5
 refine Opl.nil (Evr.sr rfl (Opl.ldb (v := .agg [v1_0, v1_1]) h7 rfl T26 rfl rfl rfl rfl ?_))
 obtain ⟨r1, h_r1, H⟩ := obs H
 refine Opl.call ((spec_FirstState.ev hv1_0 hv1_1 h_r1).mono fun _ _ h => Out.vec h) rfl rfl rfl rfl ⟨(.aggL ⟨hv1_0.plain, hv1_1.plain, trivial⟩), trivial⟩ (by decide) ?_
 rintro pv1 h8
 refine Opl.lits (M := (cSl (cInt .i64))) (ys := [r1]) [.tmp 12] K30 T27 rfl rfl rfl (by exact ⟨⟨_, by first | rfl | exact h8.cells, h8⟩, trivial⟩) rfl (by decide) rfl rfl rfl ?_
 rintro pv2 S h9 u3 w3
 have ap6 := w3.sameP h5
 have h10 := u3.sameP h5 ap6
 have ap7 := w3.box h6
 have h11 := u3.box h6 ap7
 have ap8 := w3.box h7
 have h12 := u3.box h7 ap8
 have ap9 := w3.box h4
 have h13 := u3.box h4 ap9
 refine Opl.one (v := .agg [pv2, .lit (.slice none 0 0)]) rfl rfl (by simp only [go_sem]; simp only [fillL, Vec.cells h9]; rfl) (Opl.alloc T42 rfl rfl rfl ?_)
 rintro i3 S h14 u4 w4
 have ap10 := w4.sameP h10
 have h15 := u4.sameP h10 ap10
 have ap11 := w4.box h11
 have h16 := u4.box h11 ap11
 have ap12 := w4.box h12
 have h17 := u4.box h12 ap12
 have ap13 := w4.box h13
 have h18 := u4.box h13 ap13
 have ap14 := w4.vec h9
 have h19 := u4.vec h9 ap14
 refine Opl.stb (vs := [pv2, .lit (.slice none 0 0)]) h14 rfl rfl Z42 rfl (Nat.le_of_ble_eq_true rfl) (by simp only [List.all_cons, List.all_nil, Vec.one h19, Bool.and_true, Bool.true_and] <;> rfl) rfl rfl rfl ?_
 rintro S (h20 : Box (.ptr i3 0) [pv2, .lit (.slice none 0 0)] _) u5
 have h21 := u5.sameP h15 ap10
 have h22 := u5.box h16 ap11
 have h23 := u5.box h17 ap12
 have h24 := u5.box h18 ap13
 have h25 := u5.vec h19 ap14
 refine Opl.nil (Evr.seq (Evr.sr rfl (Opl.p1 (n := Opl.p1 (n := Opl.add (k := .i64) (a := a2) (b := 1) K3 rfl rfl rfl rfl ?_)))))
 obtain ⟨r2, h_r2, H⟩ := obs H
 refine Opl.calls (spec_l40Rd_pick.evb hq0 h22 h_r2) rfl rfl rfl rfl rfl ?_
 rintro _ S ⟨rfl, h26, u6⟩
 have h27 := u6.sameP h21 OutT.box
 have h28 := u6.box h23 (ap2.symm).pt
 have h29 := u6.box h24 (ap4.symm).pt
 have h30 := u6.vec h25 (ap7.symm).pt
 have h31 := u6.box h20 (ap11.symm).pt
 refine Opl.one (v := .lit (.int .i64 r2.2)) rfl rfl rfl (Opl.nil (Evr.block (Evr.frzb 4 h28 rfl ?_)))
 rintro S u7
 have h32 := u7.sameP h27 ap1
 have h33 := u7.box h26 ap2
 have h34 := u7.box h29 ap5.symm
 have h35 := u7.vec h30 ap8.symm
 have h36 := u7.box h31 ap12.symm
 refine Evr.loop (Evr.rounds (n := k) (Inv := fun n tm S => n ≤ k ∧ ∃ (x0b1q2_1 : Int) (x7b0_1 : List (List Int)) (x7b1_1 : List Int) (x8_1 : Int) (i4 : Abs.Id) (pv3 : PV) (pv4 : PV) (i5 : Abs.Id), spec_l3Walk.l1 n x0b1q2_1 x7b0_1 x7b1_1 x8_1 l0_0 l1_0 l1_1 = some r ∧ Has tm [(0, .ptr i0 0), (4, .fel (v1_0 :: v1_1 :: [])), (6, .ptr i4 0), (7, .ptr i5 0), (8, .lit (.int .i64 x8_1))] ∧ Box (.ptr i0 0) [q0, .lit (.int .i64 x0b1q2_1)] S ∧ Box (.ptr i4 0) [.lit (.slice none 0 0), .lit (.slice none 0 0)] S ∧ Vec (cSl (cInt .i64)) x7b0_1 pv3 S ∧ Vec (cInt .i64) x7b1_1 pv4 S ∧ Box (.ptr i5 0) [pv3, pv4] S ∧ Same S0 S [i0] ∧ OutT S0 [i0] (PV.ptr i4 0).id?.toList ∧ OutT S0 [i0] (PV.id? pv3).toList ∧ OutT S0 [i0] (PV.id? pv4).toList ∧ OutT S0 [i0] (PV.ptr i5 0).id?.toList ∧ Ap (.ptr i0 0) (.ptr i4 0) ∧ Ap (.ptr i0 0) pv3 ∧ Ap (.ptr i0 0) pv4 ∧ Ap (.ptr i0 0) (.ptr i5 0) ∧ Ap (.ptr i4 0) pv3 ∧ Ap (.ptr i4 0) pv4 ∧ Ap (.ptr i4 0) (.ptr i5 0) ∧ Ap pv3 pv4 ∧ Ap pv3 (.ptr i5 0) ∧ Ap pv4 (.ptr i5 0)) ?_ ?_ ?_)
 · exact ⟨Nat.le_refl _, _, _, _, _, _, _, _, _, H, ⟨rfl, rfl, rfl, rfl, rfl, trivial⟩, h33, h34, h35, .nil, h36, h32, ap3, ap6, OutT.lit, ap10, ap4, ap7, Ap.nil.symm, ap11, ap9, Ap.nil.symm, ap13, Ap.nil.symm, ap14, .nil⟩
 ·
  rintro tm S ⟨_, _, _, _, _, _, _, _, _, H, -⟩
  simp [spec_l3Walk.l1] at H
 ·
  rintro n1 ih1 tm S ⟨hle, x0b1q2_1, x7b0_1, x7b1_1, x8_1, i4, pv3, pv4, i5, H, hh, h37, h38, h40, h41, h39, h42, o1, o2, o3, o4, ap15, ap16, ap17, ap18, ap19, ap20, ap21, ap22, ap23, ap24⟩
  simp only [spec_l3Walk.l1] at H
  rw [hh.eq]
  refine Evr.seq (Evr.sr rfl (Opl.p1 (n := Opl.p1 (n := Opl.nil ?_))))
  by_cases c1 : x8_1 > 0
  case neg =>
   rw [if_neg c1] at H
   have e4 : (decide (x8_1 > 0)) = false := by simpa using c1
   try rw [e4]
   refine Evr.condF rfl (Evr.exit rfl (Evr.seq (Evr.frzc [] [pv4] h39 h40 ap23 ?_)))
   rintro pv17 S1_ S h92 u13 u14 h93
   have h94 := u14.box (u13.box h37 ap16) ap18
   have h95 := u14.box (u13.box h38 ap19) ap21
   have h96 := u14.vec (u13.vec h41 ap22.symm) ap24
   have h97 := u14.sameP (u13.sameP h42 o2) o4
   have h98 : Sl (cSl (cInt .i64)) x7b0_1 pv17 := h92
   have h99 : Box (.ptr i5 0) [pv17, pv4] S := h93
   refine Evr.frzc [pv17] [] h99 h96 ap24 ?_
   rintro pv18 S1_ S h100 u15 u16 h101
   have h102 := u16.box (u15.box h94 ap17) ap18
   have h103 := u16.box (u15.box h95 ap20) ap21
   have h104 := u16.sameP (u15.sameP h97 o3) o4
   have h105 : Sl (cInt .i64) x7b1_1 pv18 := h100
   have h106 : Box (.ptr i5 0) [pv17, pv18] S := h101
   refine Evr.regionN rfl (Opl.ldb (v := .agg [pv17, pv18]) h106 rfl T42 rfl rfl rfl rfl (Opl.stb (vs := [pv17, pv18]) h103 rfl rfl Z42 rfl (Nat.le_of_ble_eq_true rfl) (by simp only [List.all_cons, List.all_nil, h98.one, h105.one, Bool.and_true, Bool.true_and] <;> rfl) rfl rfl rfl ?_))
   rintro S (h107 : Box (.ptr i4 0) [pv17, pv18] _) u17
   have h108 := u17.box h102 ap15
   have h109 := u17.box h106 ap21.symm
   have h110 := u17.sameP h104 o1
   refine Opl.nil ?_
   obtain rfl := sinj H
   refine Evr.retb (v := .agg [pv17, pv18]) Try.func80 rfl h107 rfl T42 rfl ?_
   exact ⟨_, _, rfl, h98, h105, h108, h110⟩
  rw [if_pos c1] at H
  have e1 : (decide (x8_1 > 0)) = true := by simpa using c1
  try rw [e1]
  refine Evr.condT rfl (Evr.skip (Evr.seq (Evr.block (Evr.seq (Evr.regionD rfl (by kernel_rfl) (Opl.lda (.agg [v1_0, v1_1]) rfl T26 rfl rfl rfl rfl (Opl.p1 (v := .ptr i5 0) (n := Opl.ldb (v := pv3) h39 rfl T30 rfl rfl rfl rfl (Opl.p1 (v := .ptr i5 0) (n := Opl.ldb (v := pv3) h39 rfl T30 rfl rfl rfl rfl (Opl.lenv (xs := x7b0_1) (by exact h40) K30 rfl rfl rfl rfl (Opl.subi (k := .i64) (a := (x7b0_1.length : Int)) (b := 1) K3 rfl rfl rfl rfl ?_))))))))))))
  obtain ⟨c2, H⟩ := peel H
  obtain ⟨c3, H⟩ := peel H
  refine Opl.idv (M := (cSl (cInt .i64))) (xs := x7b0_1) (j := (wrap64 ((x7b0_1.length : Int) - 1))) (v := pv3) h40 rfl rfl (by omega) (by omega) K30 Z27 rfl rfl ?_
  rintro d1 z1 q1 h43 h44
  refine Opl.ldv (M := (cSl (cInt .i64))) (xs := x7b0_1) (j := (wrap64 ((x7b0_1.length : Int) - 1))) ([] : List Int) h43 h44 (by omega) (by omega) rfl T27 rfl rfl rfl ?_
  rintro p1 q2 h45
  obtain ⟨pv5, rfl, h46⟩ := h45
  refine ⟨pv5, rfl, ?_⟩
  obtain ⟨r3, h_r3, H⟩ := obs H
  refine Opl.call ((spec_UsableIn.ev hv1_0 hv1_1 h46 h_r3).mono fun _ _ h => Out.vec h) rfl rfl rfl rfl ⟨(.aggL ⟨hv1_0.plain, hv1_1.plain, trivial⟩), h46.plain, trivial⟩ (by decide) ?_
  rintro pv6 h47
  refine Opl.one (v := pv6) rfl rfl rfl (Opl.nil (Evr.sr rfl (Opl.one (v := pv6) rfl rfl rfl (Opl.len (xs := r3) (by exact h47) K27 rfl rfl rfl rfl (Opl.p1 (n := Opl.nil ?_))))))
  refine Evr.join (fun tm S => ∃ (kq1 : Nat) (x0b1q2_2 : Int) (x7b0_2 : List (List Int)) (x7b1_2 : List Int) (i6 : Abs.Id) (pv7 : PV) (pv8 : PV) (i7 : Abs.Id), spec_l3Walk.l1 kq1 x0b1q2_2 x7b0_2 x7b1_2 (wrap64 (x8_1 - 1)) l0_0 l1_0 l1_1 = some r ∧ kq1 ≤ n1 ∧ Has tm [(0, .ptr i0 0), (4, .fel (v1_0 :: v1_1 :: [])), (6, .ptr i6 0), (7, .ptr i7 0), (8, .lit (.int .i64 x8_1))] ∧ Box (.ptr i0 0) [q0, .lit (.int .i64 x0b1q2_2)] S ∧ Box (.ptr i6 0) [.lit (.slice none 0 0), .lit (.slice none 0 0)] S ∧ Vec (cSl (cInt .i64)) x7b0_2 pv7 S ∧ Vec (cInt .i64) x7b1_2 pv8 S ∧ Box (.ptr i7 0) [pv7, pv8] S ∧ Same S0 S [i0] ∧ OutT S0 [i0] (PV.ptr i6 0).id?.toList ∧ OutT S0 [i0] (PV.id? pv7).toList ∧ OutT S0 [i0] (PV.id? pv8).toList ∧ OutT S0 [i0] (PV.ptr i7 0).id?.toList ∧ Ap (.ptr i0 0) (.ptr i6 0) ∧ Ap (.ptr i0 0) pv7 ∧ Ap (.ptr i0 0) pv8 ∧ Ap (.ptr i0 0) (.ptr i7 0) ∧ Ap (.ptr i6 0) pv7 ∧ Ap (.ptr i6 0) pv8 ∧ Ap (.ptr i6 0) (.ptr i7 0) ∧ Ap pv7 pv8 ∧ Ap pv7 (.ptr i7 0) ∧ Ap pv8 (.ptr i7 0)) ?_ fun hk1 => ?_
  ·
   rintro tm S ⟨kq1, x0b1q2_2, x7b0_2, x7b1_2, i6, pv7, pv8, i7, H, hle, hh, h48, h49, h51, h52, h50, h53, o5, o6, o7, o8, ap25, ap26, ap27, ap28, ap29, ap30, ap31, ap32, ap33, ap34⟩
   rw [hh.eq]
   refine Evr.inBlock (Evr.regionN rfl (Opl.p1 (n := Opl.subi (k := .i64) (a := x8_1) (b := 1) K3 rfl rfl rfl rfl (Opl.one (v := .lit (.int .i64 (wrap64 (x8_1 - 1)))) rfl rfl rfl (Opl.nil ?_)))))
   exact ih1 _ (by omega) _ _ ⟨by omega, _, _, _, _, _, _, _, _, H, ⟨rfl, rfl, rfl, rfl, rfl, trivial⟩, h48, h49, h51, h52, h50, h53, o5, o6, o7, o8, ap25, ap26, ap27, ap28, ap29, ap30, ap31, ap32, ap33, ap34⟩
  ·
   by_cases c4 : (r3.length : Int) > 0
   case neg =>
    rw [if_neg c4] at H
    have e3 : (decide ((r3.length : Int) > 0)) = false := by simpa using c4
    try rw [e3]
    refine Evr.condF rfl (Evr.skip ?_)
    exact hk1 _ _ ⟨_, _, _, _, _, _, _, _, H, by omega, ⟨rfl, rfl, rfl, rfl, rfl, trivial⟩, h37, h38, h40, h41, h39, h42, o1, o2, o3, o4, ap15, ap16, ap17, ap18, ap19, ap20, ap21, ap22, ap23, ap24⟩
   rw [if_pos c4] at H
   have e2 : (decide ((r3.length : Int) > 0)) = true := by simpa using c4
   try rw [e2]
   refine Evr.condT rfl (Evr.sr rfl (Opl.one (v := pv6) rfl rfl rfl (Opl.one (v := .ptr i0 0) rfl rfl rfl (Opl.one (v := pv6) rfl rfl rfl (Opl.len (xs := r3) (by exact h47) K27 rfl rfl rfl rfl ?_)))))
   obtain ⟨r4, h_r4, H⟩ := obs H
   refine Opl.calls (spec_l40Rd_pick.evb hq0 h37 h_r4) rfl rfl rfl rfl rfl ?_
   rintro _ S ⟨rfl, h54, u8⟩
   have h55 := u8.box h38 (ap15.symm).pt
   have h56 := u8.vec h40 (ap16.symm).pt
   have h57 := u8.vec h41 (ap17.symm).pt
   have h58 := u8.box h39 (ap18.symm).pt
   have h59 := u8.sameP h42 OutT.box
   obtain ⟨c5, H⟩ := peel H
   obtain ⟨c6, H⟩ := peel H
   obtain ⟨c7, H⟩ := peel H
   obtain ⟨c8, H⟩ := peel H
   refine Opl.idx (M := (cInt .i64)) (xs := r3) (j := r4.2) (0 : Int) (by exact h47) rfl (by omega) (by omega) K27 Z3 rfl rfl ?_
   rintro p2 q3 h60
   obtain rfl : p2 = [.lit (.int .i64 (rd r3 r4.2))] := h60
   refine Opl.lda (.lit (.int .i64 (rd r3 r4.2))) rfl T3 rfl rfl rfl rfl (Opl.one (v := .lit (.int .i64 (rd r3 r4.2))) rfl rfl rfl (Opl.nil (Evr.seq (Evr.regionL [(2, .p), (13, .p), (1, .q), (4, .q), (6, .q), (14, .m)] rfl (by kernel_rfl) (Opl.p1 (v := .ptr i5 0) (n := Opl.ldbk (v := pv3) h58 (rd_vec h57) rfl T30 rfl rfl rfl rfl (Opl.ldp (.agg [v1_0, v1_1]) rfl T26 rfl rfl rfl (Opl.p1 (v := .ptr i5 0) (n := Opl.ldbk (v := pv3) h58 (rd_vec h57) rfl T30 rfl rfl rfl rfl (Opl.p1 (v := .ptr i5 0) (n := Opl.ldbk (v := pv3) h58 (rd_vec h57) rfl T30 rfl rfl rfl rfl (Opl.lenv (xs := x7b0_1) (by exact h56) K30 rfl rfl rfl rfl (Opl.subi (k := .i64) (a := (x7b0_1.length : Int)) (b := 1) K3 rfl rfl rfl rfl (Opl.idv (M := (cSl (cInt .i64))) (xs := x7b0_1) (j := (wrap64 ((x7b0_1.length : Int) - 1))) (v := pv3) h56 rfl rfl (by omega) (by omega) K30 Z27 rfl rfl ?_))))))))))))))
   rintro d2 z2 q4 h61 h62
   refine Opl.ldv (M := (cSl (cInt .i64))) (xs := x7b0_1) (j := (wrap64 ((x7b0_1.length : Int) - 1))) ([] : List Int) h61 h62 (by omega) (by omega) rfl T27 rfl rfl rfl ?_
   rintro p3 q5 h63
   obtain ⟨pv9, rfl, h64⟩ := h63
   refine ⟨pv9, rfl, ?_⟩
   refine Opl.one (v := .lit (.int .i64 (rd r3 r4.2))) rfl rfl rfl ?_
   obtain ⟨r5, h_r5, H⟩ := obs H
   refine Opl.call ((spec_l2Use.ev hv1_0 hv1_1 h64 h_r5).mono fun _ _ h => Out.vec h) rfl rfl rfl rfl ⟨(.aggL ⟨hv1_0.plain, hv1_1.plain, trivial⟩), h64.plain, (.lit _), trivial⟩ (by decide) ?_
   rintro pv10 h65
   refine Opl.liti (M := (cSl (cInt .i64))) (ys := [r5]) [.tmp 55] K30 T27 rfl rfl rfl (by exact ⟨⟨_, by first | rfl | exact h65.cells, h65⟩, trivial⟩) rfl (by decide) rfl rfl ?_
   rintro pv12 h66
   obtain ⟨c9, H⟩ := peel H
   obtain ⟨c10, H⟩ := peel H
   refine Opl.appm rfl (M := (cSl (cInt .i64))) (xs := x7b0_1) (ys := [r5]) (v := pv3) h56 (.sl h66) (oSl (cInt .i64)) rfl rfl K30 T27 rfl rfl (by (try simp only [List.length_cons, List.length_nil]); omega) (by show (_ + _) * 24 ≤ 140737488355328; (try simp only [List.length_cons, List.length_nil]); omega) rfl rfl rfl rfl rfl ?_
   rintro pv13 S h67 u9 w6
   have ap35 := w6.box h54
   have h68 := u9.box h54 ap16
   have ap36 := w6.box h55
   have h69 := u9.box h55 ap19
   have ap37 := w6.vec h57
   have h70 := u9.vec h57 ap22.symm
   have ap38 := w6.box h58
   have h71 := u9.box h58 ap23.symm
   have ap39 := w6.sameP h59
   have h72 := u9.sameP h59 o2
   refine Opl.p1 (v := .ptr i5 0) (n := Opl.stb (vs := [pv13]) h71 rfl (by exact Vec.cells h67) Z30 rfl (Nat.le_of_ble_eq_true rfl) (by simp only [List.all_cons, List.all_nil, Vec.one h67, Bool.and_true, Bool.true_and] <;> rfl) rfl rfl rfl ?_)
   rintro S (h73 : Box (.ptr i5 0) [pv13, pv4] _) u10
   have h74 := u10.box h68 ap18
   have h75 := u10.box h69 ap21
   have h76 := u10.vec h70 ap24
   have h77 := u10.sameP h72 o4
   have h78 := u10.vec h67 ap38.symm
   refine Opl.nil (Evr.regionN rfl (Opl.p1 (v := .ptr i5 1) (n := Opl.ldb (v := pv4) h73 rfl T27 rfl rfl rfl rfl (Opl.one (v := .lit (.int .i64 (rd r3 r4.2))) rfl rfl rfl (Opl.liti (M := (cInt .i64)) (ys := [(rd r3 r4.2)]) [.tmp 61] K27 T3 rfl rfl rfl (by exact ⟨rfl, trivial⟩) rfl (by decide) rfl rfl ?_)))))
   rintro pv15 h79
   refine Opl.app (M := (cInt .i64)) (xs := x7b1_1) (ys := [(rd r3 r4.2)]) (v := pv4) h76 (.sl h79) (oInt .i64) rfl rfl K27 T3 rfl rfl (by (try simp only [List.length_cons, List.length_nil]); omega) (by show (_ + _) * 8 ≤ 140737488355328; (try simp only [List.length_cons, List.length_nil]); omega) rfl rfl rfl rfl rfl ?_
   rintro pv16 S h80 u11 w8
   have ap40 := w8.box h74
   have h81 := u11.box h74 ap17
   have ap41 := w8.box h75
   have h82 := u11.box h75 ap20
   have ap42 := w8.box h73
   have h83 := u11.box h73 ap24.symm
   have ap43 := w8.sameP h77
   have h84 := u11.sameP h77 o3
   have ap44 := w8.vec h78
   have h85 := u11.vec h78 ap37.symm
   refine Opl.p1 (v := .ptr i5 1) (n := Opl.stb (vs := [pv16]) h83 rfl (by exact Vec.cells h80) Z27 rfl (Nat.le_of_ble_eq_true rfl) (by simp only [List.all_cons, List.all_nil, Vec.one h80, Bool.and_true, Bool.true_and] <;> rfl) rfl rfl rfl ?_)
   rintro S (h86 : Box (.ptr i5 0) [pv13, pv16] _) u12
   have h87 := u12.box h81 ap18
   have h88 := u12.box h82 ap21
   have h89 := u12.sameP h84 o4
   have h90 := u12.vec h85 ap38.symm
   have h91 := u12.vec h80 ap42.symm
   refine Opl.nil ?_
   exact hk1 _ _ ⟨_, _, _, _, _, _, _, _, H, by omega, ⟨rfl, rfl, rfl, rfl, rfl, trivial⟩, h87, h88, h90, h91, h86, h89, o1, ap39, ap43, o4, ap15, ap35, ap40, ap18, ap36, ap41, ap21, ap44, ap38.symm, ap42.symm⟩
theorem spec_l40Open.evb {k : Nat} {S0 : Sto} {l0 : List Int} {v0 : PV} (hv0 : Sl (cInt .u8) l0 v0) {r : (List Int × Int)} (H : spec_l40Open.f k l0 = some r) : RetS Try.prog 48 [v0] S0 fun v S => ∃ jv zv, v = .ptr jv 0 ∧ Sl (cInt .u8) r.1 zv ∧ Box v [zv, .lit (.int .i64 r.2)] S ∧ New S0 v ∧ Same S0 S [] := by
 have hs0 : Same S0 S0 [] := .refl _ _
 unfold spec_l40Open.f at H
 refine RetS.intro Try.func48 rfl (Nat.le_of_ble_eq_true rfl) rfl ?_
 rw [tm1]
 refine Evr.sr rfl (Opl.p1 (n := Opl.nil (Evr.seq (Evr.sr rfl (Opl.p1 (n := Opl.len (xs := l0) (by exact hv0) K22 rfl rfl rfl rfl (Opl.p1 (n := Opl.nil ?_))))))))
 by_cases c1 : (l0.length : Int) > 2000
 case neg =>
  rw [if_neg c1] at H
  have e2 : (decide ((l0.length : Int) > 2000)) = false := by simpa using c1
  try rw [e2]
  refine Evr.condF rfl (Evr.skip (Evr.sr rfl (Opl.p1 (n := Opl.one (v := .agg [v0, .lit (.int .i64 0)]) rfl rfl (by simp only [go_sem]; simp only [fillL, Sl.cells hv0]; rfl) (Opl.box (cs := [v0, .lit (.int .i64 0)]) rfl rfl rfl rfl ?_)))))
  rintro i2 S h4 u2 w2
  have ap2 := w2.sameP hs0
  have h5 := u2.sameP hs0 ap2
  refine Opl.p1 (n := Opl.nil ?_)
  obtain rfl := sinj H
  refine Evr.ret1 Try.func48 rfl ?_
  exact ⟨_, _, rfl, hv0, h4, (OutT.new0 ap2), h5⟩
 rw [if_pos c1] at H
 have e1 : (decide ((l0.length : Int) > 2000)) = true := by simpa using c1
 try rw [e1]
 refine Evr.condT rfl (Evr.regionN rfl (Opl.p1 (n := ?_)))
 obtain ⟨c2, H⟩ := peel H
 refine Opl.slcT (M := (cInt .u8)) (b := 2000) (by exact hv0) rfl  (by omega) (by omega) K22 Z5 rfl rfl rfl ?_
 rintro pv1 h1
 refine Opl.p1 (n := Opl.nil (Evr.sr rfl (Opl.p1 (n := Opl.one (v := .agg [pv1, .lit (.int .i64 0)]) rfl rfl (by simp only [go_sem]; simp only [fillL, Sl.cells h1]; rfl) (Opl.box (cs := [pv1, .lit (.int .i64 0)]) rfl rfl rfl rfl ?_)))))
 rintro i1 S h2 u1 w1
 have ap1 := w1.sameP hs0
 have h3 := u1.sameP hs0 ap1
 refine Opl.p1 (n := Opl.nil ?_)
 obtain rfl := sinj H
 refine Evr.ret1 Try.func48 rfl ?_
 exact ⟨_, _, rfl, h1, h2, (OutT.new0 ap1), h3⟩
theorem spec_l3Trace.evb {k : Nat} {S0 : Sto} {l0 : List Int} {v0 : PV} (hv0 : Sl (cInt .u8) l0 v0) {r : (List Int × Int) × (List IVar × List IRule) × (List (List Int) × List Int)} (H : spec_l3Trace.f k l0 = some r) : RetS Try.prog 79 [v0] S0 fun v S => ∃ q0_ q1_ q2_ jq0_ zq0_ q1__0 q1__1 q2__0 q2__1, v = .tup [q0_, q1_, q2_] ∧ q0_ = .ptr jq0_ 0 ∧ Sl (cInt .u8) r.1.1 zq0_ ∧ Box q0_ [zq0_, .lit (.int .i64 r.1.2)] S ∧ New S0 q0_ ∧ q1_ = .agg [q1__0, q1__1] ∧ Sl cIVar r.2.1.1 q1__0 ∧ Sl cIRule r.2.1.2 q1__1 ∧ q2_ = .agg [q2__0, q2__1] ∧ Sl (cSl (cInt .i64)) r.2.2.1 q2__0 ∧ Sl (cInt .i64) r.2.2.2 q2__1 ∧ Same S0 S [] := by
 have hs0 : Same S0 S0 [] := .refl _ _
 unfold spec_l3Trace.f at H
 refine RetS.intro Try.func79 rfl (Nat.le_of_ble_eq_true rfl) rfl ?_
 rw [tm1]
 refine Evr.sr rfl (Opl.p1 (n := Opl.alloc T26 rfl rfl rfl ?_))
 rintro i1 S h1 u1 w1
 have ap1 := w1.sameP hs0
 have h2 := u1.sameP hs0 ap1
 refine Opl.alloc T42 rfl rfl rfl ?_
 rintro i2 S h3 u2 w2
 have ap2 := w2.sameP h2
 have h4 := u2.sameP h2 ap2
 have ap3 := w2.box h1
 have h5 := u2.box h1 ap3
 refine Opl.nil (Evr.sr rfl (Opl.p1 (n := ?_)))
 obtain ⟨r1, h_r1, H⟩ := obs H
 refine Opl.calls (spec_l40Open.evb hv0 h_r1) rfl rfl rfl rfl rfl ?_
 rintro _ S ⟨i3, pv1, rfl, h6, h7, w3, u3⟩
 have h9 := u3.sameP h4 OutT.nil
 have h10 := u3.box h5 ApT.nil
 have h11 := u3.box h3 ApT.nil
 have ap4 := w3.sameP h4
 have ap5 := w3.box h5
 have ap6 := w3.box h3
 refine Opl.p1 (n := Opl.nil (Evr.sr rfl (Opl.p1 (n := ?_))))
 obtain ⟨r2, h_r2, H⟩ := obs H
 refine Opl.calls (spec_l2Any.evb h6 h7 h_r2) rfl rfl rfl rfl rfl ?_
 rintro _ S ⟨pv2, pv3, rfl, h12, h13, h14, u4⟩
 have h15 := u4.sameP h9 ap4
 have h16 := u4.box h10 (ap5).pt
 have h17 := u4.box h11 (ap6).pt
 refine Opl.alloc T26 rfl rfl rfl ?_
 rintro i4 S h18 u5 w4
 have ap7 := w4.sameP h15
 have h19 := u5.sameP h15 ap7
 have ap8 := w4.box h16
 have h20 := u5.box h16 ap8
 have ap9 := w4.box h17
 have h21 := u5.box h17 ap9
 have ap10 := w4.box h14
 have h22 := u5.box h14 ap10
 refine Opl.stb (vs := [pv2, pv3]) h18 rfl rfl Z26 rfl (Nat.le_of_ble_eq_true rfl) (by simp only [List.all_cons, List.all_nil, h12.one, h13.one, Bool.and_true, Bool.true_and] <;> rfl) rfl rfl rfl ?_
 rintro S (h23 : Box (.ptr i4 0) [pv2, pv3] _) u6
 have h24 := u6.sameP h19 ap7
 have h25 := u6.box h20 ap8
 have h26 := u6.box h21 ap9
 have h27 := u6.box h22 ap10
 refine Opl.nil (Evr.seq (Evr.sr rfl (Opl.ldb (v := .agg [pv2, pv3]) h23 rfl T26 rfl rfl rfl rfl ?_)))
 obtain ⟨r3, h_r3, H⟩ := obs H
 refine Opl.callc (spec_SystemValid.ev h12 h13 h_r3) rfl rfl rfl rfl ⟨(.aggL ⟨h12.plain, h13.plain, trivial⟩), trivial⟩ (by decide) (Opl.p1 (n := Opl.nil ?_))
 by_cases c1 : r3 = true
 case neg =>
  rw [if_neg c1] at H
  have e12 : (!r3) = true := by simpa using c1
  try rw [e12]
  refine Evr.condT rfl (Evr.seq (Evr.frzb 6 h23 rfl ?_))
  rintro S u69
  have h365 := u69.sameP h24 ap7
  have h366 := u69.box h25 ap8
  have h367 := u69.box h26 ap9
  have h368 := u69.box h27 ap10
  refine Evr.regionL [(1, .p), (2, .p), (3, .p)] rfl (by kernel_rfl) (Opl.p1 (n := Opl.ldp (.agg [pv2, pv3]) rfl T26 rfl rfl rfl (Opl.liti (M := (cInt .i64)) (ys := [0]) [.const (.int .i64 0)] K27 T3 rfl rfl rfl (by exact ⟨rfl, trivial⟩) rfl (by decide) rfl rfl ?_)))
  rintro pv27 h369
  refine Opl.liti (M := (cSl (cInt .i64))) (ys := [[0]]) [.tmp 18] K30 T27 rfl rfl rfl (by exact ⟨⟨_, by first | rfl | exact h369.cells, h369⟩, trivial⟩) rfl (by decide) rfl rfl ?_
  rintro pv29 h370
  refine Opl.one (v := .agg [pv29, .lit (.slice none 0 0)]) rfl rfl (by simp only [go_sem]; simp only [fillL, Sl.cells h370]; rfl) (Opl.p1 (n := Opl.stb (vs := [pv2, pv3]) h366 rfl rfl Z26 rfl (Nat.le_of_ble_eq_true rfl) (by simp only [List.all_cons, List.all_nil, h12.one, h13.one, Bool.and_true, Bool.true_and] <;> rfl) rfl rfl rfl ?_))
  rintro S (h371 : Box (.ptr i1 0) [pv2, pv3] _) u70
  have h372 := u70.sameP h365 ap1
  have h373 := u70.box h367 ap3.symm
  have h374 := u70.box h368 ap5.symm
  refine Opl.stb (vs := [pv29, .lit (.slice none 0 0)]) h373 rfl rfl Z42 rfl (Nat.le_of_ble_eq_true rfl) (by simp only [List.all_cons, List.all_nil, h370.one, Bool.and_true, Bool.true_and] <;> rfl) rfl rfl rfl ?_
  rintro S (h375 : Box (.ptr i2 0) [pv29, .lit (.slice none 0 0)] _) u71
  have h376 := u71.sameP h372 ap2
  have h377 := u71.box h371 ap3
  have h378 := u71.box h374 ap6.symm
  refine Opl.nil ?_
  obtain rfl := sinj H
  refine Evr.ret_tcc (v1 := .agg [pv2, pv3]) (v2 := .agg [pv29, .lit (.slice none 0 0)]) Try.func79 rfl h377 rfl T26 rfl h375 rfl T42 rfl ?_
  exact ⟨_, _, _, _, _, _, _, _, _, rfl, rfl, h6, h378, (OutT.new0 ap4), rfl, h12, h13, rfl, h370, .nil, h376⟩
 rw [if_pos c1] at H
 have e1 : (!r3) = false := by simpa using c1
 try rw [e1]
 refine Evr.condF rfl (Evr.skip (Evr.sr rfl (Opl.p1 (n := Opl.ldb (v := .agg [pv2, pv3]) h23 rfl T26 rfl rfl rfl rfl ?_))))
 obtain ⟨r4, h_r4, H⟩ := obs H
 refine Opl.calls (spec_l3Walk.evb h6 h27 h12 h13 h_r4) rfl rfl rfl rfl rfl ?_
 rintro _ S ⟨pv4, pv5, rfl, h28, w6, h29, w7, ap11, h30, u7⟩
 have h31 := u7.sameP h24 ap4
 have h32 := u7.box h25 (ap5).pt
 have h33 := u7.box h26 (ap6).pt
 have h34 := u7.box h23 (ap10.symm).pt
 have ap12 := w6.sameP h24
 have ap13 := w6.box h25
 have ap14 := w6.box h26
 have ap15 := w6.box h27
 have ap16 := w6.box h23
 have ap17 := w7.sameP h24
 have ap18 := w7.box h25
 have ap19 := w7.box h26
 have ap20 := w7.box h27
 have ap21 := w7.box h23
 refine Opl.alloc T42 rfl rfl rfl ?_
 rintro i5 S h35 u8 w8
 have ap22 := w8.sameP h31
 have h36 := u8.sameP h31 ap22
 have ap23 := w8.box h32
 have h37 := u8.box h32 ap23
 have ap24 := w8.box h33
 have h38 := u8.box h33 ap24
 have ap25 := w8.box h30
 have h39 := u8.box h30 ap25
 have ap26 := w8.box h34
 have h40 := u8.box h34 ap26
 have ap27 := w8.vec h28
 have h41 := u8.vec h28 ap27
 have ap28 := w8.vec h29
 have h42 := u8.vec h29 ap28
 refine Opl.stb (vs := [pv4, pv5]) h35 rfl rfl Z42 rfl (Nat.le_of_ble_eq_true rfl) (by simp only [List.all_cons, List.all_nil, Vec.one h41, Vec.one h42, Bool.and_true, Bool.true_and] <;> rfl) rfl rfl rfl ?_
 rintro S (h43 : Box (.ptr i5 0) [pv4, pv5] _) u9
 have h44 := u9.sameP h36 ap22
 have h45 := u9.box h37 ap23
 have h46 := u9.box h38 ap24
 have h47 := u9.box h39 ap25
 have h48 := u9.box h40 ap26
 have h49 := u9.vec h41 ap27
 have h50 := u9.vec h42 ap28
 refine Opl.nil (Evr.seq (Evr.sr rfl (Opl.p1 (n := ?_))))
 obtain ⟨r5, h_r5, H⟩ := obs H
 refine Opl.calls (spec_l40Rd_pick.evb h6 h47 h_r5) rfl rfl rfl rfl rfl ?_
 rintro _ S ⟨rfl, h51, u10⟩
 have h52 := u10.sameP h44 ap4
 have h53 := u10.box h45 (ap5).pt
 have h54 := u10.box h46 (ap6).pt
 have h55 := u10.box h48 (ap10.symm).pt
 have h56 := u10.vec h49 (ap15.symm).pt
 have h57 := u10.vec h50 (ap20.symm).pt
 have h58 := u10.box h43 (ap25.symm).pt
 refine Opl.p1 (n := Opl.nil ?_)
 by_cases c2 : r5.2 = 0
 case neg =>
  rw [if_neg c2] at H
  have e11 : (r5.2 == 0) = false := by simpa using c2
  try rw [e11]
  refine Evr.condF rfl (Evr.skip (Evr.seq (Evr.frzc [] [pv5] h58 h56 ap27 ?_)))
  rintro pv24 S1_ S h329 u61 u62 h330
  have h331 := u62.sameP (u61.sameP h52 ap12) ap22
  have h332 := u62.box (u61.box h53 ap13) ap23
  have h333 := u62.box (u61.box h54 ap14) ap24
  have h334 := u62.box (u61.box h51 ap15) ap25
  have h335 := u62.box (u61.box h55 ap16) ap26
  have h336 := u62.vec (u61.vec h57 ap11.symm) ap28
  have h337 : Sl (cSl (cInt .i64)) r4.2.1 pv24 := h329
  have h338 : Box (.ptr i5 0) [pv24, pv5] S := h330
  refine Evr.frzc [pv24] [] h338 h336 ap28 ?_
  rintro pv25 S1_ S h339 u63 u64 h340
  have h341 := u64.sameP (u63.sameP h331 ap17) ap22
  have h342 := u64.box (u63.box h332 ap18) ap23
  have h343 := u64.box (u63.box h333 ap19) ap24
  have h344 := u64.box (u63.box h334 ap20) ap25
  have h345 := u64.box (u63.box h335 ap21) ap26
  have h346 : Sl (cInt .i64) r4.2.2 pv25 := h339
  have h347 : Box (.ptr i5 0) [pv24, pv25] S := h340
  refine Evr.frzb 6 h345 rfl ?_
  rintro S u65
  have h348 := u65.sameP h341 ap7
  have h349 := u65.box h342 ap8
  have h350 := u65.box h343 ap9
  have h351 := u65.box h344 ap10
  have h352 := u65.box h347 ap26.symm
  refine Evr.frzb 7 h352 rfl ?_
  rintro S u66
  have h353 := u66.sameP h348 ap22
  have h354 := u66.box h349 ap23
  have h355 := u66.box h350 ap24
  have h356 := u66.box h351 ap25
  refine Evr.regionL [(1, .p), (2, .p)] rfl (by kernel_rfl) (Opl.p1 (n := Opl.ldp (.agg [pv2, pv3]) rfl T26 rfl rfl rfl (Opl.ldp (.agg [pv24, pv25]) rfl T42 rfl rfl rfl (Opl.p1 (n := ?_)))))
  obtain _ | k20 := k
  · simp [spec_l3Trace.j1] at H
  simp only [spec_l3Trace.j1] at H
  refine Opl.stb (vs := [pv2, pv3]) h354 rfl rfl Z26 rfl (Nat.le_of_ble_eq_true rfl) (by simp only [List.all_cons, List.all_nil, h12.one, h13.one, Bool.and_true, Bool.true_and] <;> rfl) rfl rfl rfl ?_
  rintro S (h357 : Box (.ptr i1 0) [pv2, pv3] _) u67
  have h358 := u67.sameP h353 ap1
  have h359 := u67.box h355 ap3.symm
  have h360 := u67.box h356 ap5.symm
  refine Opl.stb (vs := [pv24, pv25]) h359 rfl rfl Z42 rfl (Nat.le_of_ble_eq_true rfl) (by simp only [List.all_cons, List.all_nil, h337.one, h346.one, Bool.and_true, Bool.true_and] <;> rfl) rfl rfl rfl ?_
  rintro S (h361 : Box (.ptr i2 0) [pv24, pv25] _) u68
  have h362 := u68.sameP h358 ap2
  have h363 := u68.box h357 ap3
  have h364 := u68.box h360 ap6.symm
  refine Opl.nil ?_
  obtain rfl := sinj H
  refine Evr.ret_tcc (v1 := .agg [pv2, pv3]) (v2 := .agg [pv24, pv25]) Try.func79 rfl h363 rfl T26 rfl h361 rfl T42 rfl ?_
  exact ⟨_, _, _, _, _, _, _, _, _, rfl, rfl, h6, h364, (OutT.new0 ap4), rfl, h12, h13, rfl, h337, h346, h362⟩
 rw [if_pos c2] at H
 have e2 : (r5.2 == 0) = true := by simpa using c2
 try rw [e2]
 refine Evr.condT rfl (Evr.sr rfl (Opl.p1 (n := ?_)))
 obtain ⟨r6, h_r6, H⟩ := obs H
 refine Opl.calls (spec_l40Rd_pick.evb h6 h51 h_r6) rfl rfl rfl rfl rfl ?_
 rintro _ S ⟨rfl, h59, u11⟩
 have h60 := u11.sameP h52 ap4
 have h61 := u11.box h53 (ap5).pt
 have h62 := u11.box h54 (ap6).pt
 have h63 := u11.box h55 (ap10.symm).pt
 have h64 := u11.vec h56 (ap15.symm).pt
 have h65 := u11.vec h57 (ap20.symm).pt
 have h66 := u11.box h58 (ap25.symm).pt
 refine Opl.p1 (n := Opl.nil (Evr.sr rfl (Opl.p1 (n := Opl.p1 (n := Opl.nil ?_)))))
 by_cases c3 : r6.2 = 0
 case pos =>
  rw [if_pos c3] at H
  have e3 : (r6.2 == 0) = true := by simpa using c3
  try rw [e3]
  refine Evr.condT rfl (Evr.regionN rfl (Opl.p1 (v := .ptr i5 1) (n := Opl.ldb (v := pv5) h66 rfl T27 rfl rfl rfl rfl (Opl.liti (M := (cInt .i64)) (ys := [0]) [.const (.int .i64 0)] K27 T3 rfl rfl rfl (by exact ⟨rfl, trivial⟩) rfl (by decide) rfl rfl ?_))))
  rintro pv7 h67
  obtain ⟨c4, H⟩ := peel H
  obtain _ | k1 := k
  · simp [spec_l3Trace.j2] at H
  simp only [spec_l3Trace.j2] at H
  obtain _ | k2 := k1
  · simp [spec_l3Trace.j1] at H
  simp only [spec_l3Trace.j1] at H
  refine Opl.app (M := (cInt .i64)) (xs := r4.2.2) (ys := [0]) (v := pv5) h65 (.sl h67) (oInt .i64) rfl rfl K27 T3 rfl rfl (by (try simp only [List.length_cons, List.length_nil]); omega) (by show (_ + _) * 8 ≤ 140737488355328; (try simp only [List.length_cons, List.length_nil]); omega) rfl rfl rfl rfl rfl ?_
  rintro pv8 S h68 u12 w10
  have ap29 := w10.sameP h60
  have h69 := u12.sameP h60 ap17
  have ap30 := w10.box h61
  have h70 := u12.box h61 ap18
  have ap31 := w10.box h62
  have h71 := u12.box h62 ap19
  have ap32 := w10.box h59
  have h72 := u12.box h59 ap20
  have ap33 := w10.box h63
  have h73 := u12.box h63 ap21
  have ap34 := w10.vec h64
  have h74 := u12.vec h64 ap11
  have ap35 := w10.box h66
  have h75 := u12.box h66 ap28.symm
  refine Opl.p1 (v := .ptr i5 1) (n := Opl.stb (vs := [pv8]) h75 rfl (by exact Vec.cells h68) Z27 rfl (Nat.le_of_ble_eq_true rfl) (by simp only [List.all_cons, List.all_nil, Vec.one h68, Bool.and_true, Bool.true_and] <;> rfl) rfl rfl rfl ?_)
  rintro S (h76 : Box (.ptr i5 0) [pv4, pv8] _) u13
  have h77 := u13.sameP h69 ap22
  have h78 := u13.box h70 ap23
  have h79 := u13.box h71 ap24
  have h80 := u13.box h72 ap25
  have h81 := u13.box h73 ap26
  have h82 := u13.vec h74 ap27
  have h83 := u13.vec h68 ap35.symm
  refine Opl.nil (Evr.seq (Evr.frzc [] [pv8] h76 h82 ap27 ?_))
  rintro pv9 S1_ S h84 u14 u15 h85
  have h86 := u15.sameP (u14.sameP h77 ap12) ap22
  have h87 := u15.box (u14.box h78 ap13) ap23
  have h88 := u15.box (u14.box h79 ap14) ap24
  have h89 := u15.box (u14.box h80 ap15) ap25
  have h90 := u15.box (u14.box h81 ap16) ap26
  have h91 := u15.vec (u14.vec h83 ap34.symm) ap35.symm
  have h92 : Sl (cSl (cInt .i64)) r4.2.1 pv9 := h84
  have h93 : Box (.ptr i5 0) [pv9, pv8] S := h85
  refine Evr.frzc [pv9] [] h93 h91 ap35.symm ?_
  rintro pv10 S1_ S h94 u16 u17 h95
  have h96 := u17.sameP (u16.sameP h86 ap29) ap22
  have h97 := u17.box (u16.box h87 ap30) ap23
  have h98 := u17.box (u16.box h88 ap31) ap24
  have h99 := u17.box (u16.box h89 ap32) ap25
  have h100 := u17.box (u16.box h90 ap33) ap26
  have h101 : Sl (cInt .i64) (r4.2.2 ++ [0]) pv10 := h94
  have h102 : Box (.ptr i5 0) [pv9, pv10] S := h95
  refine Evr.frzb 6 h100 rfl ?_
  rintro S u18
  have h103 := u18.sameP h96 ap7
  have h104 := u18.box h97 ap8
  have h105 := u18.box h98 ap9
  have h106 := u18.box h99 ap10
  have h107 := u18.box h102 ap26.symm
  refine Evr.frzb 7 h107 rfl ?_
  rintro S u19
  have h108 := u19.sameP h103 ap22
  have h109 := u19.box h104 ap23
  have h110 := u19.box h105 ap24
  have h111 := u19.box h106 ap25
  refine Evr.regionL [(1, .p), (2, .p)] rfl (by kernel_rfl) (Opl.p1 (n := Opl.ldp (.agg [pv2, pv3]) rfl T26 rfl rfl rfl (Opl.ldp (.agg [pv9, pv10]) rfl T42 rfl rfl rfl (Opl.p1 (n := Opl.stb (vs := [pv2, pv3]) h109 rfl rfl Z26 rfl (Nat.le_of_ble_eq_true rfl) (by simp only [List.all_cons, List.all_nil, h12.one, h13.one, Bool.and_true, Bool.true_and] <;> rfl) rfl rfl rfl ?_)))))
  rintro S (h112 : Box (.ptr i1 0) [pv2, pv3] _) u20
  have h113 := u20.sameP h108 ap1
  have h114 := u20.box h110 ap3.symm
  have h115 := u20.box h111 ap5.symm
  refine Opl.stb (vs := [pv9, pv10]) h114 rfl rfl Z42 rfl (Nat.le_of_ble_eq_true rfl) (by simp only [List.all_cons, List.all_nil, h92.one, h101.one, Bool.and_true, Bool.true_and] <;> rfl) rfl rfl rfl ?_
  rintro S (h116 : Box (.ptr i2 0) [pv9, pv10] _) u21
  have h117 := u21.sameP h113 ap2
  have h118 := u21.box h112 ap3
  have h119 := u21.box h115 ap6.symm
  refine Opl.nil ?_
  obtain rfl := sinj H
  refine Evr.ret_tcc (v1 := .agg [pv2, pv3]) (v2 := .agg [pv9, pv10]) Try.func79 rfl h118 rfl T26 rfl h116 rfl T42 rfl ?_
  exact ⟨_, _, _, _, _, _, _, _, _, rfl, rfl, h6, h119, (OutT.new0 ap4), rfl, h12, h13, rfl, h92, h101, h117⟩
 rw [if_neg c3] at H
 have e4 : (r6.2 == 0) = false := by simpa using c3
 try rw [e4]
 refine Evr.condF rfl (Evr.sr rfl (Opl.p1 (n := Opl.p1 (n := Opl.nil ?_))))
 by_cases c5 : r6.2 = 1
 case pos =>
  rw [if_pos c5] at H
  have e5 : (r6.2 == 1) = true := by simpa using c5
  try rw [e5]
  refine Evr.condT rfl (Evr.frzc [] [pv5] h66 h64 ap27 ?_)
  rintro pv11 S1_ S h120 u22 u23 h121
  have h122 := u23.sameP (u22.sameP h60 ap12) ap22
  have h123 := u23.box (u22.box h61 ap13) ap23
  have h124 := u23.box (u22.box h62 ap14) ap24
  have h125 := u23.box (u22.box h59 ap15) ap25
  have h126 := u23.box (u22.box h63 ap16) ap26
  have h127 := u23.vec (u22.vec h65 ap11.symm) ap28
  have h128 : Sl (cSl (cInt .i64)) r4.2.1 pv11 := h120
  have h129 : Box (.ptr i5 0) [pv11, pv5] S := h121
  refine Evr.regionN rfl (Opl.p1 (v := .ptr i5 0) (n := Opl.ldb (v := pv11) h129 rfl T30 rfl rfl rfl rfl ?_))
  obtain ⟨c6, H⟩ := peel H
  obtain _ | k3 := k
  · simp [spec_l3Trace.j3] at H
  simp only [spec_l3Trace.j3] at H
  obtain _ | k4 := k3
  · simp [spec_l3Trace.j2] at H
  simp only [spec_l3Trace.j2] at H
  obtain _ | k5 := k4
  · simp [spec_l3Trace.j1] at H
  simp only [spec_l3Trace.j1] at H
  refine Opl.slcD (M := (cSl (cInt .i64))) (a := 1) (by exact h128) rfl  (by omega) (by omega) K30 Z27 rfl rfl rfl ?_
  rintro pv12 h130
  refine Opl.p1 (v := .ptr i5 0) (n := Opl.stb (vs := [pv12]) h129 rfl (by exact h130.cells) Z30 rfl (Nat.le_of_ble_eq_true rfl) (by simp only [List.all_cons, List.all_nil, h130.one, Bool.and_true, Bool.true_and] <;> rfl) rfl rfl rfl ?_)
  rintro S (h131 : Box (.ptr i5 0) [pv12, pv5] _) u24
  have h132 := u24.sameP h122 ap22
  have h133 := u24.box h123 ap23
  have h134 := u24.box h124 ap24
  have h135 := u24.box h125 ap25
  have h136 := u24.box h126 ap26
  have h137 := u24.vec h127 ap28
  refine Opl.nil (Evr.seq (Evr.frzc [pv12] [] h131 h137 ap28 ?_))
  rintro pv13 S1_ S h138 u25 u26 h139
  have h140 := u26.sameP (u25.sameP h132 ap17) ap22
  have h141 := u26.box (u25.box h133 ap18) ap23
  have h142 := u26.box (u25.box h134 ap19) ap24
  have h143 := u26.box (u25.box h135 ap20) ap25
  have h144 := u26.box (u25.box h136 ap21) ap26
  have h145 : Sl (cInt .i64) r4.2.2 pv13 := h138
  have h146 : Box (.ptr i5 0) [pv12, pv13] S := h139
  refine Evr.frzb 6 h144 rfl ?_
  rintro S u27
  have h147 := u27.sameP h140 ap7
  have h148 := u27.box h141 ap8
  have h149 := u27.box h142 ap9
  have h150 := u27.box h143 ap10
  have h151 := u27.box h146 ap26.symm
  refine Evr.frzb 7 h151 rfl ?_
  rintro S u28
  have h152 := u28.sameP h147 ap22
  have h153 := u28.box h148 ap23
  have h154 := u28.box h149 ap24
  have h155 := u28.box h150 ap25
  refine Evr.regionL [(1, .p), (2, .p)] rfl (by kernel_rfl) (Opl.p1 (n := Opl.ldp (.agg [pv2, pv3]) rfl T26 rfl rfl rfl (Opl.ldp (.agg [pv12, pv13]) rfl T42 rfl rfl rfl (Opl.p1 (n := Opl.stb (vs := [pv2, pv3]) h153 rfl rfl Z26 rfl (Nat.le_of_ble_eq_true rfl) (by simp only [List.all_cons, List.all_nil, h12.one, h13.one, Bool.and_true, Bool.true_and] <;> rfl) rfl rfl rfl ?_)))))
  rintro S (h156 : Box (.ptr i1 0) [pv2, pv3] _) u29
  have h157 := u29.sameP h152 ap1
  have h158 := u29.box h154 ap3.symm
  have h159 := u29.box h155 ap5.symm
  refine Opl.stb (vs := [pv12, pv13]) h158 rfl rfl Z42 rfl (Nat.le_of_ble_eq_true rfl) (by simp only [List.all_cons, List.all_nil, h130.one, h145.one, Bool.and_true, Bool.true_and] <;> rfl) rfl rfl rfl ?_
  rintro S (h160 : Box (.ptr i2 0) [pv12, pv13] _) u30
  have h161 := u30.sameP h157 ap2
  have h162 := u30.box h156 ap3
  have h163 := u30.box h159 ap6.symm
  refine Opl.nil ?_
  obtain rfl := sinj H
  refine Evr.ret_tcc (v1 := .agg [pv2, pv3]) (v2 := .agg [pv12, pv13]) Try.func79 rfl h162 rfl T26 rfl h160 rfl T42 rfl ?_
  exact ⟨_, _, _, _, _, _, _, _, _, rfl, rfl, h6, h163, (OutT.new0 ap4), rfl, h12, h13, rfl, h130, h145, h161⟩
 rw [if_neg c5] at H
 have e6 : (r6.2 == 1) = false := by simpa using c5
 try rw [e6]
 refine Evr.condF rfl (Evr.sr rfl (Opl.p1 (n := Opl.p1 (n := Opl.p1 (n := ?_)))))
 by_cases c7 : r6.2 = 2
 case neg =>
  rw [if_neg c7] at H
  have e10 : (r6.2 == 2) = false := by simpa using c7
  try rw [e10]
  refine Opl.sk4 rfl rfl rfl rfl (Opl.p1 (n := Opl.nil (Evr.condF rfl (Evr.regionL [(8, .m), (1, .q), (3, .q), (7, .q)] rfl (by kernel_rfl) (Opl.p1 (v := .ptr i5 0) (n := Opl.ldbk (v := pv4) h66 (rd_vec h65) rfl T30 rfl rfl rfl rfl (Opl.p1 (v := .ptr i5 0) (n := Opl.ldbk (v := pv4) h66 (rd_vec h65) rfl T30 rfl rfl rfl rfl (Opl.lenv (xs := r4.2.1) (by exact h64) K30 rfl rfl rfl rfl (Opl.subi (k := .i64) (a := (r4.2.1.length : Int)) (b := 1) K3 rfl rfl rfl rfl (Opl.one (v := .ptr i3 0) rfl rfl rfl (Opl.ldbk (v := .agg [pv2, pv3]) h63 (rd_sl h13) rfl T26 rfl rfl rfl rfl ?_))))))))))))
  obtain ⟨r9, h_r9, H⟩ := obs H
  refine Opl.callbm h59 (spec_l2Some.evb h6 h59 h12 h13 h_r9) rfl rfl rfl rfl rfl ?_
  rintro pv21 S h274 h275 u51
  have h276 := u51.sameP h60 ap4
  have h277 := u51.box h61 (ap5).pt
  have h278 := u51.box h62 (ap6).pt
  have h279 := u51.box h63 (ap10.symm).pt
  have h280 := u51.vec h64 (ap15.symm).pt
  have h281 := u51.vec h65 (ap20.symm).pt
  have h282 := u51.box h66 (ap25.symm).pt
  obtain ⟨c12, H⟩ := peel H
  obtain ⟨c13, H⟩ := peel H
  obtain _ | k16 := k
  · simp [spec_l3Trace.j4] at H
  simp only [spec_l3Trace.j4] at H
  obtain _ | k17 := k16
  · simp [spec_l3Trace.j3] at H
  simp only [spec_l3Trace.j3] at H
  obtain _ | k18 := k17
  · simp [spec_l3Trace.j2] at H
  simp only [spec_l3Trace.j2] at H
  obtain _ | k19 := k18
  · simp [spec_l3Trace.j1] at H
  simp only [spec_l3Trace.j1] at H
  refine Opl.idv (M := (cSl (cInt .i64))) (xs := r4.2.1) (j := (wrap64 ((r4.2.1.length : Int) - 1))) (v := pv4) h280 rfl rfl (by first | omega | (simp only [List.length_set] at *; omega)) (by first | omega | (simp only [List.length_set] at *; omega)) K30 Z27 rfl rfl ?_
  rintro d3 z3 q3 h283 h284
  refine Opl.stv (M := (cSl (cInt .i64))) (xs := r4.2.1) (j := (wrap64 ((r4.2.1.length : Int) - 1))) (y := r9.2) (vs := [pv21]) h283 h284 (by first | omega | (simp only [List.length_set] at *; omega)) (by first | omega | (simp only [List.length_set] at *; omega)) rfl (by exact h274.cells) (by exact ⟨_, by first | rfl | exact h274.cells, h274⟩) Z27 (by simp only [List.all_cons, List.all_nil, h274.one, Bool.and_true, Bool.true_and] <;> rfl) rfl rfl rfl ?_
  rw [← q3]
  rintro S h285 u52
  have h286 := u52.sameP h276 ap12
  have h287 := u52.box h277 ap13
  have h288 := u52.box h278 ap14
  have h289 := u52.box h275 ap15
  have h290 := u52.box h279 ap16
  have h291 := u52.vec h281 ap11.symm
  have h292 := u52.box h282 ap27.symm
  refine Opl.nil (Evr.seq (Evr.frzc [] [pv5] h292 h285 ap27 ?_))
  rintro pv22 S1_ S h293 u53 u54 h294
  have h295 := u54.sameP (u53.sameP h286 ap12) ap22
  have h296 := u54.box (u53.box h287 ap13) ap23
  have h297 := u54.box (u53.box h288 ap14) ap24
  have h298 := u54.box (u53.box h289 ap15) ap25
  have h299 := u54.box (u53.box h290 ap16) ap26
  have h300 := u54.vec (u53.vec h291 ap11.symm) ap28
  have h301 : Sl (cSl (cInt .i64)) (r4.2.1.set (wrap64 ((r4.2.1.length : Int) - 1)).toNat r9.2) pv22 := h293
  have h302 : Box (.ptr i5 0) [pv22, pv5] S := h294
  refine Evr.frzc [pv22] [] h302 h300 ap28 ?_
  rintro pv23 S1_ S h303 u55 u56 h304
  have h305 := u56.sameP (u55.sameP h295 ap17) ap22
  have h306 := u56.box (u55.box h296 ap18) ap23
  have h307 := u56.box (u55.box h297 ap19) ap24
  have h308 := u56.box (u55.box h298 ap20) ap25
  have h309 := u56.box (u55.box h299 ap21) ap26
  have h310 : Sl (cInt .i64) r4.2.2 pv23 := h303
  have h311 : Box (.ptr i5 0) [pv22, pv23] S := h304
  refine Evr.frzb 6 h309 rfl ?_
  rintro S u57
  have h312 := u57.sameP h305 ap7
  have h313 := u57.box h306 ap8
  have h314 := u57.box h307 ap9
  have h315 := u57.box h308 ap10
  have h316 := u57.box h311 ap26.symm
  refine Evr.frzb 7 h316 rfl ?_
  rintro S u58
  have h317 := u58.sameP h312 ap22
  have h318 := u58.box h313 ap23
  have h319 := u58.box h314 ap24
  have h320 := u58.box h315 ap25
  refine Evr.regionL [(1, .p), (2, .p)] rfl (by kernel_rfl) (Opl.one (v := .ptr i3 0) rfl rfl rfl (Opl.ldp (.agg [pv2, pv3]) rfl T26 rfl rfl rfl (Opl.ldp (.agg [pv22, pv23]) rfl T42 rfl rfl rfl (Opl.one (v := .ptr i3 0) rfl rfl rfl (Opl.stb (vs := [pv2, pv3]) h318 rfl rfl Z26 rfl (Nat.le_of_ble_eq_true rfl) (by simp only [List.all_cons, List.all_nil, h12.one, h13.one, Bool.and_true, Bool.true_and] <;> rfl) rfl rfl rfl ?_)))))
  rintro S (h321 : Box (.ptr i1 0) [pv2, pv3] _) u59
  have h322 := u59.sameP h317 ap1
  have h323 := u59.box h319 ap3.symm
  have h324 := u59.box h320 ap5.symm
  refine Opl.stb (vs := [pv22, pv23]) h323 rfl rfl Z42 rfl (Nat.le_of_ble_eq_true rfl) (by simp only [List.all_cons, List.all_nil, h301.one, h310.one, Bool.and_true, Bool.true_and] <;> rfl) rfl rfl rfl ?_
  rintro S (h325 : Box (.ptr i2 0) [pv22, pv23] _) u60
  have h326 := u60.sameP h322 ap2
  have h327 := u60.box h321 ap3
  have h328 := u60.box h324 ap6.symm
  refine Opl.nil ?_
  obtain rfl := sinj H
  refine Evr.ret_tcc (v1 := .agg [pv2, pv3]) (v2 := .agg [pv22, pv23]) Try.func79 rfl h327 rfl T26 rfl h325 rfl T42 rfl ?_
  exact ⟨_, _, _, _, _, _, _, _, _, rfl, rfl, h6, h328, (OutT.new0 ap4), rfl, h12, h13, rfl, h301, h310, h326⟩
 rw [if_pos c7] at H
 have e7 : (r6.2 == 2) = true := by simpa using c7
 try rw [e7]
 refine Opl.p1 (v := .ptr i5 1) (n := Opl.ldb (v := pv5) h66 rfl T27 rfl rfl rfl rfl (Opl.lenv (xs := r4.2.2) (by exact h65) K27 rfl rfl rfl rfl (Opl.p1 (n := Opl.p1 (n := Opl.nil ?_)))))
 by_cases c8 : (r4.2.2.length : Int) > 0
 case pos =>
  rw [if_pos c8] at H
  have e8 : (decide ((r4.2.2.length : Int) > 0)) = true := by simpa using c8
  try rw [e8]
  refine Evr.condT rfl (Evr.regionL [(7, .m), (6, .p), (1, .q), (4, .q)] rfl (by kernel_rfl) (Opl.p1 (v := .ptr i5 1) (n := Opl.ldbk (v := pv5) h66 (rd_vec h65) rfl T27 rfl rfl rfl rfl (Opl.p1 (n := Opl.p1 (v := .ptr i4 1) (n := Opl.ldbk (v := pv3) h63 (rd_sl h13) rfl T24 rfl rfl rfl rfl (Opl.len (xs := r2.2.2) (by exact h13) K24 rfl rfl rfl rfl (Opl.liti (M := (cInt .i64)) (ys := [(-1), (r2.2.2.length : Int), 0]) [.const (.int .i64 (-1)), .tmp 55, .const (.int .i64 0)] K27 T3 rfl rfl rfl (by exact ⟨rfl, rfl, rfl, trivial⟩) rfl (by decide) rfl rfl ?_))))))))
  rintro pv15 h164
  obtain ⟨r7, h_r7, H⟩ := obs H
  refine Opl.callbm h59 (spec_l40Rd_num.evb h6 h59 h164 h_r7) rfl rfl rfl rfl rfl ?_
  rintro _ S rfl h165 u31
  have h166 := u31.sameP h60 ap4
  have h167 := u31.box h61 (ap5).pt
  have h168 := u31.box h62 (ap6).pt
  have h169 := u31.box h63 (ap10.symm).pt
  have h170 := u31.vec h64 (ap15.symm).pt
  have h171 := u31.vec h65 (ap20.symm).pt
  have h172 := u31.box h66 (ap25.symm).pt
  obtain ⟨c9, H⟩ := peel H
  obtain _ | k6 := k
  · simp [spec_l3Trace.j5] at H
  simp only [spec_l3Trace.j5] at H
  obtain _ | k7 := k6
  · simp [spec_l3Trace.j4] at H
  simp only [spec_l3Trace.j4] at H
  obtain _ | k8 := k7
  · simp [spec_l3Trace.j3] at H
  simp only [spec_l3Trace.j3] at H
  obtain _ | k9 := k8
  · simp [spec_l3Trace.j2] at H
  simp only [spec_l3Trace.j2] at H
  obtain _ | k10 := k9
  · simp [spec_l3Trace.j1] at H
  simp only [spec_l3Trace.j1] at H
  refine Opl.idv (M := (cInt .i64)) (xs := r4.2.2) (j := (0 : Int)) (v := pv5) h171 rfl rfl (by first | omega | (simp only [List.length_set] at *; omega)) (by first | omega | (simp only [List.length_set] at *; omega)) K27 Z3 rfl rfl ?_
  rintro d1 z1 q1 h173 h174
  refine Opl.stv (M := (cInt .i64)) (xs := r4.2.2) (j := (0 : Int)) (y := r7.2) (vs := [.lit (.int .i64 r7.2)]) h173 h174 (by first | omega | (simp only [List.length_set] at *; omega)) (by first | omega | (simp only [List.length_set] at *; omega)) rfl rfl (by exact rfl) Z3 rfl rfl rfl rfl ?_
  rw [← q1]
  rintro S h175 u32
  have h176 := u32.sameP h166 ap17
  have h177 := u32.box h167 ap18
  have h178 := u32.box h168 ap19
  have h179 := u32.box h165 ap20
  have h180 := u32.box h169 ap21
  have h181 := u32.vec h170 ap11
  have h182 := u32.box h172 ap28.symm
  refine Opl.nil (Evr.seq (Evr.frzc [] [pv5] h182 h181 ap27 ?_))
  rintro pv16 S1_ S h183 u33 u34 h184
  have h185 := u34.sameP (u33.sameP h176 ap12) ap22
  have h186 := u34.box (u33.box h177 ap13) ap23
  have h187 := u34.box (u33.box h178 ap14) ap24
  have h188 := u34.box (u33.box h179 ap15) ap25
  have h189 := u34.box (u33.box h180 ap16) ap26
  have h190 := u34.vec (u33.vec h175 ap11.symm) ap28
  have h191 : Sl (cSl (cInt .i64)) r4.2.1 pv16 := h183
  have h192 : Box (.ptr i5 0) [pv16, pv5] S := h184
  refine Evr.frzc [pv16] [] h192 h190 ap28 ?_
  rintro pv17 S1_ S h193 u35 u36 h194
  have h195 := u36.sameP (u35.sameP h185 ap17) ap22
  have h196 := u36.box (u35.box h186 ap18) ap23
  have h197 := u36.box (u35.box h187 ap19) ap24
  have h198 := u36.box (u35.box h188 ap20) ap25
  have h199 := u36.box (u35.box h189 ap21) ap26
  have h200 : Sl (cInt .i64) (r4.2.2.set (0 : Int).toNat r7.2) pv17 := h193
  have h201 : Box (.ptr i5 0) [pv16, pv17] S := h194
  refine Evr.frzb 6 h199 rfl ?_
  rintro S u37
  have h202 := u37.sameP h195 ap7
  have h203 := u37.box h196 ap8
  have h204 := u37.box h197 ap9
  have h205 := u37.box h198 ap10
  have h206 := u37.box h201 ap26.symm
  refine Evr.frzb 7 h206 rfl ?_
  rintro S u38
  have h207 := u38.sameP h202 ap22
  have h208 := u38.box h203 ap23
  have h209 := u38.box h204 ap24
  have h210 := u38.box h205 ap25
  refine Evr.regionL [(1, .p), (2, .p)] rfl (by kernel_rfl) (Opl.p1 (n := Opl.ldp (.agg [pv2, pv3]) rfl T26 rfl rfl rfl (Opl.ldp (.agg [pv16, pv17]) rfl T42 rfl rfl rfl (Opl.p1 (n := Opl.stb (vs := [pv2, pv3]) h208 rfl rfl Z26 rfl (Nat.le_of_ble_eq_true rfl) (by simp only [List.all_cons, List.all_nil, h12.one, h13.one, Bool.and_true, Bool.true_and] <;> rfl) rfl rfl rfl ?_)))))
  rintro S (h211 : Box (.ptr i1 0) [pv2, pv3] _) u39
  have h212 := u39.sameP h207 ap1
  have h213 := u39.box h209 ap3.symm
  have h214 := u39.box h210 ap5.symm
  refine Opl.stb (vs := [pv16, pv17]) h213 rfl rfl Z42 rfl (Nat.le_of_ble_eq_true rfl) (by simp only [List.all_cons, List.all_nil, h191.one, h200.one, Bool.and_true, Bool.true_and] <;> rfl) rfl rfl rfl ?_
  rintro S (h215 : Box (.ptr i2 0) [pv16, pv17] _) u40
  have h216 := u40.sameP h212 ap2
  have h217 := u40.box h211 ap3
  have h218 := u40.box h214 ap6.symm
  refine Opl.nil ?_
  obtain rfl := sinj H
  refine Evr.ret_tcc (v1 := .agg [pv2, pv3]) (v2 := .agg [pv16, pv17]) Try.func79 rfl h217 rfl T26 rfl h215 rfl T42 rfl ?_
  exact ⟨_, _, _, _, _, _, _, _, _, rfl, rfl, h6, h218, (OutT.new0 ap4), rfl, h12, h13, rfl, h191, h200, h216⟩
 rw [if_neg c8] at H
 have e9 : (decide ((r4.2.2.length : Int) > 0)) = false := by simpa using c8
 try rw [e9]
 refine Evr.condF rfl (Evr.regionL [(8, .m), (1, .q), (3, .q), (7, .q)] rfl (by kernel_rfl) (Opl.p1 (v := .ptr i5 0) (n := Opl.ldbk (v := pv4) h66 (rd_vec h65) rfl T30 rfl rfl rfl rfl (Opl.p1 (v := .ptr i5 0) (n := Opl.ldbk (v := pv4) h66 (rd_vec h65) rfl T30 rfl rfl rfl rfl (Opl.lenv (xs := r4.2.1) (by exact h64) K30 rfl rfl rfl rfl (Opl.subi (k := .i64) (a := (r4.2.1.length : Int)) (b := 1) K3 rfl rfl rfl rfl (Opl.one (v := .ptr i3 0) rfl rfl rfl (Opl.ldbk (v := .agg [pv2, pv3]) h63 (rd_sl h13) rfl T26 rfl rfl rfl rfl ?_)))))))))
 obtain ⟨r8, h_r8, H⟩ := obs H
 refine Opl.callbm h59 (spec_l2Some.evb h6 h59 h12 h13 h_r8) rfl rfl rfl rfl rfl ?_
 rintro pv18 S h219 h220 u41
 have h221 := u41.sameP h60 ap4
 have h222 := u41.box h61 (ap5).pt
 have h223 := u41.box h62 (ap6).pt
 have h224 := u41.box h63 (ap10.symm).pt
 have h225 := u41.vec h64 (ap15.symm).pt
 have h226 := u41.vec h65 (ap20.symm).pt
 have h227 := u41.box h66 (ap25.symm).pt
 obtain ⟨c10, H⟩ := peel H
 obtain ⟨c11, H⟩ := peel H
 obtain _ | k11 := k
 · simp [spec_l3Trace.j5] at H
 simp only [spec_l3Trace.j5] at H
 obtain _ | k12 := k11
 · simp [spec_l3Trace.j4] at H
 simp only [spec_l3Trace.j4] at H
 obtain _ | k13 := k12
 · simp [spec_l3Trace.j3] at H
 simp only [spec_l3Trace.j3] at H
 obtain _ | k14 := k13
 · simp [spec_l3Trace.j2] at H
 simp only [spec_l3Trace.j2] at H
 obtain _ | k15 := k14
 · simp [spec_l3Trace.j1] at H
 simp only [spec_l3Trace.j1] at H
 refine Opl.idv (M := (cSl (cInt .i64))) (xs := r4.2.1) (j := (wrap64 ((r4.2.1.length : Int) - 1))) (v := pv4) h225 rfl rfl (by first | omega | (simp only [List.length_set] at *; omega)) (by first | omega | (simp only [List.length_set] at *; omega)) K30 Z27 rfl rfl ?_
 rintro d2 z2 q2 h228 h229
 refine Opl.stv (M := (cSl (cInt .i64))) (xs := r4.2.1) (j := (wrap64 ((r4.2.1.length : Int) - 1))) (y := r8.2) (vs := [pv18]) h228 h229 (by first | omega | (simp only [List.length_set] at *; omega)) (by first | omega | (simp only [List.length_set] at *; omega)) rfl (by exact h219.cells) (by exact ⟨_, by first | rfl | exact h219.cells, h219⟩) Z27 (by simp only [List.all_cons, List.all_nil, h219.one, Bool.and_true, Bool.true_and] <;> rfl) rfl rfl rfl ?_
 rw [← q2]
 rintro S h230 u42
 have h231 := u42.sameP h221 ap12
 have h232 := u42.box h222 ap13
 have h233 := u42.box h223 ap14
 have h234 := u42.box h220 ap15
 have h235 := u42.box h224 ap16
 have h236 := u42.vec h226 ap11.symm
 have h237 := u42.box h227 ap27.symm
 refine Opl.nil (Evr.seq (Evr.frzc [] [pv5] h237 h230 ap27 ?_))
 rintro pv19 S1_ S h238 u43 u44 h239
 have h240 := u44.sameP (u43.sameP h231 ap12) ap22
 have h241 := u44.box (u43.box h232 ap13) ap23
 have h242 := u44.box (u43.box h233 ap14) ap24
 have h243 := u44.box (u43.box h234 ap15) ap25
 have h244 := u44.box (u43.box h235 ap16) ap26
 have h245 := u44.vec (u43.vec h236 ap11.symm) ap28
 have h246 : Sl (cSl (cInt .i64)) (r4.2.1.set (wrap64 ((r4.2.1.length : Int) - 1)).toNat r8.2) pv19 := h238
 have h247 : Box (.ptr i5 0) [pv19, pv5] S := h239
 refine Evr.frzc [pv19] [] h247 h245 ap28 ?_
 rintro pv20 S1_ S h248 u45 u46 h249
 have h250 := u46.sameP (u45.sameP h240 ap17) ap22
 have h251 := u46.box (u45.box h241 ap18) ap23
 have h252 := u46.box (u45.box h242 ap19) ap24
 have h253 := u46.box (u45.box h243 ap20) ap25
 have h254 := u46.box (u45.box h244 ap21) ap26
 have h255 : Sl (cInt .i64) r4.2.2 pv20 := h248
 have h256 : Box (.ptr i5 0) [pv19, pv20] S := h249
 refine Evr.frzb 6 h254 rfl ?_
 rintro S u47
 have h257 := u47.sameP h250 ap7
 have h258 := u47.box h251 ap8
 have h259 := u47.box h252 ap9
 have h260 := u47.box h253 ap10
 have h261 := u47.box h256 ap26.symm
 refine Evr.frzb 7 h261 rfl ?_
 rintro S u48
 have h262 := u48.sameP h257 ap22
 have h263 := u48.box h258 ap23
 have h264 := u48.box h259 ap24
 have h265 := u48.box h260 ap25
 refine Evr.regionL [(1, .p), (2, .p)] rfl (by kernel_rfl) (Opl.one (v := .ptr i3 0) rfl rfl rfl (Opl.ldp (.agg [pv2, pv3]) rfl T26 rfl rfl rfl (Opl.ldp (.agg [pv19, pv20]) rfl T42 rfl rfl rfl (Opl.one (v := .ptr i3 0) rfl rfl rfl (Opl.stb (vs := [pv2, pv3]) h263 rfl rfl Z26 rfl (Nat.le_of_ble_eq_true rfl) (by simp only [List.all_cons, List.all_nil, h12.one, h13.one, Bool.and_true, Bool.true_and] <;> rfl) rfl rfl rfl ?_)))))
 rintro S (h266 : Box (.ptr i1 0) [pv2, pv3] _) u49
 have h267 := u49.sameP h262 ap1
 have h268 := u49.box h264 ap3.symm
 have h269 := u49.box h265 ap5.symm
 refine Opl.stb (vs := [pv19, pv20]) h268 rfl rfl Z42 rfl (Nat.le_of_ble_eq_true rfl) (by simp only [List.all_cons, List.all_nil, h246.one, h255.one, Bool.and_true, Bool.true_and] <;> rfl) rfl rfl rfl ?_
 rintro S (h270 : Box (.ptr i2 0) [pv19, pv20] _) u50
 have h271 := u50.sameP h267 ap2
 have h272 := u50.box h266 ap3
 have h273 := u50.box h269 ap6.symm
 refine Opl.nil ?_
 obtain rfl := sinj H
 refine Evr.ret_tcc (v1 := .agg [pv2, pv3]) (v2 := .agg [pv19, pv20]) Try.func79 rfl h272 rfl T26 rfl h270 rfl T42 rfl ?_
 exact ⟨_, _, _, _, _, _, _, _, _, rfl, rfl, h6, h273, (OutT.new0 ap4), rfl, h12, h13, rfl, h246, h255, h271⟩
theorem spec_DrawWithoutRounds.ev {k : Nat} {l0 : List Int} {v0 : PV} (hv0 : Sl (cInt .u8) l0 v0) {r : (List IVar × List IRule) × (List (List Int) × List Int)} (H : spec_DrawWithoutRounds.f k l0 = some r) : Ret Try.prog 22 [v0] fun v S => Out (fun q => ∃ q1 q2, q = .tup [q1, q2] ∧ (∃ q11 q12, q1 = .agg [q11, q12] ∧ Sl cIVar r.1.1 q11 ∧ Sl cIRule r.1.2 q12) ∧ (∃ q21 q22, q2 = .agg [q21, q22] ∧ Sl (cSl (cInt .i64)) r.2.1 q21 ∧ Sl (cInt .i64) r.2.2 q22)) v S := by
 unfold spec_DrawWithoutRounds.f at H
 refine Ret.intro Try.func22 rfl (Nat.le_of_ble_eq_true rfl) rfl ?_
 rw [tm1]
 refine Evr.sr rfl (Opl.alloc T26 rfl rfl rfl ?_)
 rintro i1 S h1 u1 w1
 refine Opl.alloc T42 rfl rfl rfl ?_
 rintro i2 S h2 u2 w2
 have ap1 := w2.box h1
 have h3 := u2.box h1 ap1
 refine Opl.nil (Evr.sr rfl (Opl.p1 (n := ?_)))
 obtain ⟨r1, h_r1, H⟩ := obs H
 refine Opl.calls (spec_l3Trace.evb hv0 h_r1) rfl rfl rfl rfl rfl ?_
 rintro _ S ⟨_, _, _, i3, pv1, pv2, pv3, pv4, pv5, rfl, rfl, h4, h5, w3, rfl, h6, h7, rfl, h8, h9, u3⟩
 have h11 := u3.box h3 ApT.nil
 have h12 := u3.box h2 ApT.nil
 have ap2 := w3.box h3
 have ap3 := w3.box h2
 refine Opl.p1 (n := Opl.p1 (v := .ptr i3 0) (n := Opl.p1 (v := .agg [pv2, pv3]) (n := Opl.p1 (v := .agg [pv4, pv5]) (n := Opl.alloc T26 rfl rfl rfl ?_))))
 rintro i4 S h13 u4 w4
 have ap4 := w4.box h11
 have h14 := u4.box h11 ap4
 have ap5 := w4.box h12
 have h15 := u4.box h12 ap5
 have ap6 := w4.box h5
 have h16 := u4.box h5 ap6
 refine Opl.alloc T42 rfl rfl rfl ?_
 rintro i5 S h17 u5 w5
 have ap7 := w5.box h14
 have h18 := u5.box h14 ap7
 have ap8 := w5.box h15
 have h19 := u5.box h15 ap8
 have ap9 := w5.box h16
 have h20 := u5.box h16 ap9
 have ap10 := w5.box h13
 have h21 := u5.box h13 ap10
 refine Opl.p1 (n := Opl.stb (vs := [pv2, pv3]) h21 rfl rfl Z26 rfl (Nat.le_of_ble_eq_true rfl) (by simp only [List.all_cons, List.all_nil, h6.one, h7.one, Bool.and_true, Bool.true_and] <;> rfl) rfl rfl rfl ?_)
 rintro S (h22 : Box (.ptr i4 0) [pv2, pv3] _) u6
 have h23 := u6.box h18 ap4
 have h24 := u6.box h19 ap5
 have h25 := u6.box h20 ap6
 have h26 := u6.box h17 ap10.symm
 refine Opl.stb (vs := [pv4, pv5]) h26 rfl rfl Z42 rfl (Nat.le_of_ble_eq_true rfl) (by simp only [List.all_cons, List.all_nil, h8.one, h9.one, Bool.and_true, Bool.true_and] <;> rfl) rfl rfl rfl ?_
 rintro S (h27 : Box (.ptr i5 0) [pv4, pv5] _) u7
 have h28 := u7.box h23 ap7
 have h29 := u7.box h24 ap8
 have h30 := u7.box h25 ap9
 have h31 := u7.box h22 ap10
 refine Opl.nil (Evr.seq (Evr.sr rfl (Opl.ldb (v := .agg [pv2, pv3]) h31 rfl T26 rfl rfl rfl rfl ?_)))
 obtain ⟨r2, h_r2, H⟩ := obs H
 refine Opl.callc (spec_SystemValid.ev h6 h7 h_r2) rfl rfl rfl rfl ⟨(.aggL ⟨h6.plain, h7.plain, trivial⟩), trivial⟩ (by decide) (Opl.p1 (n := ?_))
 by_cases c1 : r2 = true
 case neg =>
  rw [if_neg c1] at H
  obtain rfl : r2 = false := by simpa using c1
  refine Opl.sk2 rfl rfl (Opl.skp rfl (Opl.p1 (n := Opl.nil (Evr.condF rfl (Evr.skip (Evr.seq (Evr.frzb 5 h31 rfl ?_)))))))
  rintro S u17
  have h68 := u17.box h28 ap4
  have h69 := u17.box h29 ap5
  have h70 := u17.box h30 ap6
  have h71 := u17.box h27 ap10.symm
  refine Evr.frzb 6 h71 rfl ?_
  rintro S u18
  have h72 := u18.box h68 ap7
  have h73 := u18.box h69 ap8
  have h74 := u18.box h70 ap9
  refine Evr.regionL [(0, .p), (1, .p)] rfl (by kernel_rfl) (Opl.ldp (.agg [pv2, pv3]) rfl T26 rfl rfl rfl (Opl.ldp (.agg [pv4, pv5]) rfl T42 rfl rfl rfl (Opl.stb (vs := [pv2, pv3]) h72 rfl rfl Z26 rfl (Nat.le_of_ble_eq_true rfl) (by simp only [List.all_cons, List.all_nil, h6.one, h7.one, Bool.and_true, Bool.true_and] <;> rfl) rfl rfl rfl ?_)))
  rintro S (h75 : Box (.ptr i1 0) [pv2, pv3] _) u19
  have h76 := u19.box h73 ap1.symm
  have h77 := u19.box h74 ap2.symm
  refine Opl.stb (vs := [pv4, pv5]) h76 rfl rfl Z42 rfl (Nat.le_of_ble_eq_true rfl) (by simp only [List.all_cons, List.all_nil, h8.one, h9.one, Bool.and_true, Bool.true_and] <;> rfl) rfl rfl rfl ?_
  rintro S (h78 : Box (.ptr i2 0) [pv4, pv5] _) u20
  have h79 := u20.box h75 ap1
  have h80 := u20.box h77 ap3.symm
  refine Opl.nil ?_
  obtain rfl := sinj H
  refine Evr.ret_cc (v0 := .agg [pv2, pv3]) (v1 := .agg [pv4, pv5]) Try.func22 rfl h79 rfl T26 rfl h78 rfl T42 rfl ?_
  show Out _ (.tup [.agg [pv2, pv3], .agg [pv4, pv5]]) _
  exact .tup2 (.agg2 (.sl h6) (.sl h7)) (.agg2 (.sl h8) (.sl h9))
 rw [if_pos c1] at H
 obtain rfl : r2 = true := by simpa using c1
 refine Opl.p1 (n := ?_)
 obtain ⟨r3, h_r3, H⟩ := obs H
 refine Opl.calls (spec_l40Rd_pick.evb h4 h30 h_r3) rfl rfl rfl rfl rfl ?_
 rintro _ S ⟨rfl, h32, u8⟩
 have h33 := u8.box h28 (ap2).pt
 have h34 := u8.box h29 (ap3).pt
 have h35 := u8.box h31 (ap6.symm).pt
 have h36 := u8.box h27 (ap9.symm).pt
 refine Opl.p1 (n := Opl.p1 (n := Opl.nil ?_))
 by_cases c2 : r3.2 > 0
 case neg =>
  rw [if_neg c2] at H
  have e2 : (decide (r3.2 > 0)) = false := by simpa using c2
  try rw [e2]
  refine Evr.condF rfl (Evr.skip (Evr.seq (Evr.frzb 5 h35 rfl ?_)))
  rintro S u13
  have h55 := u13.box h33 ap4
  have h56 := u13.box h34 ap5
  have h57 := u13.box h32 ap6
  have h58 := u13.box h36 ap10.symm
  refine Evr.frzb 6 h58 rfl ?_
  rintro S u14
  have h59 := u14.box h55 ap7
  have h60 := u14.box h56 ap8
  have h61 := u14.box h57 ap9
  refine Evr.regionL [(0, .p), (1, .p)] rfl (by kernel_rfl) (Opl.ldp (.agg [pv2, pv3]) rfl T26 rfl rfl rfl (Opl.ldp (.agg [pv4, pv5]) rfl T42 rfl rfl rfl (Opl.stb (vs := [pv2, pv3]) h59 rfl rfl Z26 rfl (Nat.le_of_ble_eq_true rfl) (by simp only [List.all_cons, List.all_nil, h6.one, h7.one, Bool.and_true, Bool.true_and] <;> rfl) rfl rfl rfl ?_)))
  rintro S (h62 : Box (.ptr i1 0) [pv2, pv3] _) u15
  have h63 := u15.box h60 ap1.symm
  have h64 := u15.box h61 ap2.symm
  refine Opl.stb (vs := [pv4, pv5]) h63 rfl rfl Z42 rfl (Nat.le_of_ble_eq_true rfl) (by simp only [List.all_cons, List.all_nil, h8.one, h9.one, Bool.and_true, Bool.true_and] <;> rfl) rfl rfl rfl ?_
  rintro S (h65 : Box (.ptr i2 0) [pv4, pv5] _) u16
  have h66 := u16.box h62 ap1
  have h67 := u16.box h64 ap3.symm
  refine Opl.nil ?_
  obtain rfl := sinj H
  refine Evr.ret_cc (v0 := .agg [pv2, pv3]) (v1 := .agg [pv4, pv5]) Try.func22 rfl h66 rfl T26 rfl h65 rfl T42 rfl ?_
  show Out _ (.tup [.agg [pv2, pv3], .agg [pv4, pv5]]) _
  exact .tup2 (.agg2 (.sl h6) (.sl h7)) (.agg2 (.sl h8) (.sl h9))
 rw [if_pos c2] at H
 have e1 : (decide (r3.2 > 0)) = true := by simpa using c2
 try rw [e1]
 refine Evr.condT rfl (Evr.seq (Evr.frzb 5 h35 rfl ?_))
 rintro S u9
 have h37 := u9.box h33 ap4
 have h38 := u9.box h34 ap5
 have h39 := u9.box h32 ap6
 have h40 := u9.box h36 ap10.symm
 refine Evr.regionL [(3, .n), (0, .p), (2, .p)] rfl (by kernel_rfl) (Opl.ldp (.agg [pv2, pv3]) rfl T26 rfl rfl rfl (Opl.p1 (n := Opl.ldp (.agg [pv2, pv3]) rfl T26 rfl rfl rfl ?_)))
 obtain ⟨r4, h_r4, H⟩ := obs H
 refine Opl.calls (spec_l3Walk.evf h4 h39 h6 h7 h_r4) rfl rfl rfl rfl rfl ?_
 rintro _ S ⟨pv6, pv7, rfl, h41, h42, h43, u10⟩
 have h44 := u10.box h37 (ap2).pt
 have h45 := u10.box h38 (ap3).pt
 have h46 := u10.box h40 (ap9.symm).pt
 refine Opl.stb (vs := [pv2, pv3]) h44 rfl rfl Z26 rfl (Nat.le_of_ble_eq_true rfl) (by simp only [List.all_cons, List.all_nil, h6.one, h7.one, Bool.and_true, Bool.true_and] <;> rfl) rfl rfl rfl ?_
 rintro S (h47 : Box (.ptr i1 0) [pv2, pv3] _) u11
 have h48 := u11.box h45 ap1.symm
 have h49 := u11.box h43 ap2.symm
 have h50 := u11.box h46 ap7.symm
 refine Opl.stb (vs := [pv6, pv7]) h48 rfl rfl Z42 rfl (Nat.le_of_ble_eq_true rfl) (by simp only [List.all_cons, List.all_nil, h41.one, h42.one, Bool.and_true, Bool.true_and] <;> rfl) rfl rfl rfl ?_
 rintro S (h51 : Box (.ptr i2 0) [pv6, pv7] _) u12
 have h52 := u12.box h47 ap1
 have h53 := u12.box h49 ap3.symm
 have h54 := u12.box h50 ap8.symm
 refine Opl.nil ?_
 obtain rfl := sinj H
 refine Evr.ret_cc (v0 := .agg [pv2, pv3]) (v1 := .agg [pv6, pv7]) Try.func22 rfl h52 rfl T26 rfl h51 rfl T42 rfl ?_
 show Out _ (.tup [.agg [pv2, pv3], .agg [pv6, pv7]]) _
 exact .tup2 (.agg2 (.sl h6) (.sl h7)) (.agg2 (.sl h41) (.sl h42))
theorem spec_l2Same.ev {k : Nat} {l0 : List Int} {v0 : PV} (hv0 : Sl (cInt .i64) l0 v0) {l1 : List Int} {v1 : PV} (hv1 : Sl (cInt .i64) l1 v1) {r : Bool} (H : spec_l2Same.f k l0 l1 = some r) : Ret Try.prog 84 [v0, v1] fun v S => v = .lit (.bool r) := by
 unfold spec_l2Same.f at H
 refine Ret.intro Try.func84 rfl (Nat.le_of_ble_eq_true rfl) rfl ?_
 rw [tm2]
 refine Evr.sr rfl (Opl.p1 (n := Opl.nil (Evr.seq (Evr.sr rfl (Opl.p1 (n := Opl.len (xs := l0) (by exact hv0) K27 rfl rfl rfl rfl (Opl.p1 (n := Opl.len (xs := l1) (by exact hv1) K27 rfl rfl rfl rfl (Opl.p1 (n := Opl.nil ?_))))))))))
 by_cases c1 : (l0.length : Int) = (l1.length : Int)
 case neg =>
  rw [if_neg c1] at H
  have e6 : ((l0.length : Int) != (l1.length : Int)) = true := by simpa using c1
  try rw [e6]
  refine Evr.condT rfl (Evr.sr rfl (Opl.p1 (n := Opl.nil ?_)))
  obtain rfl := sinj H
  refine Evr.ret1 Try.func84 rfl ?_
  show (.lit (.bool false) : PV) = _
  first | rfl | (simp only [go_sem]; rfl)
 rw [if_pos c1] at H
 have e1 : ((l0.length : Int) != (l1.length : Int)) = false := by simpa using c1
 try rw [e1]
 refine Evr.condF rfl (Evr.skip (Evr.seq (Evr.sr rfl (Opl.p1 (n := Opl.nil (Evr.block ?_))))))
 refine Evr.loop (Evr.rounds (n := k) (Inv := fun n tm S => n ≤ k ∧ ∃ (x5_1 : Int), spec_l2Same.l0 n l0 l1 x5_1 = some r ∧ Has tm [(0, v0), (1, v1), (5, .lit (.int .i64 x5_1))]) ?_ ?_ ?_)
 · exact ⟨Nat.le_refl _, _, H, ⟨rfl, rfl, rfl, trivial⟩⟩
 ·
  rintro tm S ⟨_, _, H, -⟩
  simp [spec_l2Same.l0] at H
 ·
  rintro n1 ih1 tm S ⟨hle, x5_1, H, hh⟩
  simp only [spec_l2Same.l0] at H
  rw [hh.eq]
  refine Evr.seq (Evr.sr rfl (Opl.p1 (n := Opl.p1 (n := Opl.len (xs := l0) (by exact hv0) K27 rfl rfl rfl rfl (Opl.p1 (n := Opl.nil ?_))))))
  by_cases c2 : x5_1 < (l0.length : Int)
  case neg =>
   rw [if_neg c2] at H
   have e5 : (decide (x5_1 < (l0.length : Int))) = false := by simpa using c2
   try rw [e5]
   refine Evr.condF rfl (Evr.exit rfl (Evr.sr rfl (Opl.p1 (n := Opl.nil ?_))))
   obtain rfl := sinj H
   refine Evr.ret1 Try.func84 rfl ?_
   show (.lit (.bool true) : PV) = _
   first | rfl | (simp only [go_sem]; rfl)
  rw [if_pos c2] at H
  have e2 : (decide (x5_1 < (l0.length : Int))) = true := by simpa using c2
  try rw [e2]
  refine Evr.condT rfl (Evr.skip (Evr.seq (Evr.block (Evr.seq (Evr.regionD rfl (by kernel_rfl) (Opl.p1 (n := Opl.p1 (n := ?_))))))))
  obtain ⟨c3, H⟩ := peel H
  obtain ⟨c4, H⟩ := peel H
  refine Opl.idx (M := (cInt .i64)) (xs := l0) (j := x5_1) (0 : Int) (by exact hv0) rfl (by omega) (by omega) K27 Z3 rfl rfl ?_
  rintro p1 q1 h1
  obtain rfl : p1 = [.lit (.int .i64 (rd l0 x5_1))] := h1
  refine Opl.lda (.lit (.int .i64 (rd l0 x5_1))) rfl T3 rfl rfl rfl rfl (Opl.p1 (n := Opl.p1 (n := Opl.idx (M := (cInt .i64)) (xs := l1) (j := x5_1) (0 : Int) (by exact hv1) rfl (by omega) (by omega) K27 Z3 rfl rfl ?_)))
  rintro p2 q2 h2
  obtain rfl : p2 = [.lit (.int .i64 (rd l1 x5_1))] := h2
  refine Opl.lda (.lit (.int .i64 (rd l1 x5_1))) rfl T3 rfl rfl rfl rfl (Opl.p1 (n := Opl.nil ?_))
  by_cases c5 : (rd l0 x5_1) = (rd l1 x5_1)
  case neg =>
   rw [if_neg c5] at H
   have e4 : ((rd l0 x5_1) != (rd l1 x5_1)) = true := by simpa using c5
   try rw [e4]
   refine Evr.condT rfl (Evr.sr rfl (Opl.p1 (n := Opl.nil ?_)))
   obtain rfl := sinj H
   refine Evr.ret1 Try.func84 rfl ?_
   show (.lit (.bool false) : PV) = _
   first | rfl | (simp only [go_sem]; rfl)
  rw [if_pos c5] at H
  have e3 : ((rd l0 x5_1) != (rd l1 x5_1)) = false := by simpa using c5
  try rw [e3]
  refine Evr.condF rfl (Evr.skip (Evr.inBlock (Evr.regionN rfl (Opl.p1 (n := Opl.add (k := .i64) (a := x5_1) (b := 1) K3 rfl rfl rfl rfl (Opl.one (v := .lit (.int .i64 (wrap64 (x5_1 + 1)))) rfl rfl rfl (Opl.nil ?_)))))))
  exact ih1 _ (by omega) _ _ ⟨by omega, _, H, ⟨rfl, rfl, rfl, trivial⟩⟩
theorem spec_TraceValid.ev {k : Nat} {l0_0 : List IVar} {v0_0 : PV} (hv0_0 : Sl cIVar l0_0 v0_0) {l0_1 : List IRule} {v0_1 : PV} (hv0_1 : Sl cIRule l0_1 v0_1) {l1_0 : List (List Int)} {v1_0 : PV} (hv1_0 : Sl (cSl (cInt .i64)) l1_0 v1_0) {l1_1 : List Int} {v1_1 : PV} (hv1_1 : Sl (cInt .i64) l1_1 v1_1) {r : Bool} (H : spec_TraceValid.f k l0_0 l0_1 l1_0 l1_1 = some r) : Ret Try.prog 29 [.agg [v0_0, v0_1], .agg [v1_0, v1_1]] fun v S => v = .lit (.bool r) := by
 unfold spec_TraceValid.f at H
 refine Ret.intro Try.func29 rfl (Nat.le_of_ble_eq_true rfl) rfl ?_
 rw [tm2]
 refine Evr.sr rfl (Opl.box (cs := [v0_0, v0_1]) rfl rfl rfl rfl ?_)
 rintro i1 S h1 u1 w1
 refine Opl.box (cs := [v1_0, v1_1]) rfl rfl rfl rfl ?_
 rintro i2 S h2 u2 w2
 have ap1 := w2.box h1
 have h3 := u2.box h1 ap1
 refine Opl.p1 (n := Opl.nil (Evr.seq (Evr.seq ?_)))
 refine Evr.join (fun tm S => ∃ (kq1 : Nat) (x36_1 : Bool) (i3 : Abs.Id) (i4 : Abs.Id), spec_TraceValid.j0 kq1 x36_1 l0_0 l0_1 l1_0 l1_1 = some r ∧ Has tm [(2, .ptr i3 0), (3, .ptr i4 0), (36, .lit (.bool x36_1))] ∧ Box (.ptr i3 0) [v0_0, v0_1] S ∧ Box (.ptr i4 0) [v1_0, v1_1] S ∧ Ap (.ptr i3 0) (.ptr i4 0)) ?_ fun hk1 => ?_
 ·
  rintro tm S ⟨kq1, x36_1, i3, i4, H, hh, h4, h5, ap2⟩
  rw [hh.eq]
  obtain _ | k1 := kq1
  · simp [spec_TraceValid.j0] at H
  simp only [spec_TraceValid.j0] at H
  by_cases c1 : x36_1 = true
  case pos =>
   rw [if_pos c1] at H
   obtain rfl : x36_1 = true := by simpa using c1
   refine Evr.condT rfl (Evr.sr rfl (Opl.p1 (n := Opl.nil ?_)))
   obtain rfl := sinj H
   refine Evr.ret1 Try.func29 rfl ?_
   show (.lit (.bool false) : PV) = _
   first | rfl | (simp only [go_sem]; rfl)
  rw [if_neg c1] at H
  obtain rfl : x36_1 = false := by simpa using c1
  refine Evr.condF rfl (Evr.skip (Evr.seq (Evr.sr rfl (Opl.p1 (n := Opl.nil (Evr.block ?_))))))
  refine Evr.loop (Evr.rounds (n := k1) (Inv := fun n tm S => n ≤ k1 ∧ ∃ (x5_1 : Int) (i5 : Abs.Id) (i6 : Abs.Id), spec_TraceValid.l0 n x5_1 l0_0 l0_1 l1_0 l1_1 = some r ∧ Has tm [(2, .ptr i5 0), (3, .ptr i6 0), (5, .lit (.int .i64 x5_1))] ∧ Box (.ptr i5 0) [v0_0, v0_1] S ∧ Box (.ptr i6 0) [v1_0, v1_1] S ∧ Ap (.ptr i5 0) (.ptr i6 0)) ?_ ?_ ?_)
  · exact ⟨Nat.le_refl _, _, _, _, H, ⟨rfl, rfl, rfl, trivial⟩, h4, h5, ap2⟩
  ·
   rintro tm S ⟨_, _, _, _, H, -⟩
   simp [spec_TraceValid.l0] at H
  ·
   rintro n1 ih1 tm S ⟨hle, x5_1, i5, i6, H, hh, h6, h7, ap3⟩
   simp only [spec_TraceValid.l0] at H
   rw [hh.eq]
   refine Evr.seq (Evr.sr rfl (Opl.p1 (n := Opl.p1 (v := .ptr i6 1) (n := Opl.ldb (v := v1_1) h7 rfl T27 rfl rfl rfl rfl (Opl.len (xs := l1_1) (by exact hv1_1) K27 rfl rfl rfl rfl (Opl.p1 (n := Opl.nil ?_)))))))
   by_cases c2 : x5_1 < (l1_1.length : Int)
   case neg =>
    rw [if_neg c2] at H
    have e8 : (decide (x5_1 < (l1_1.length : Int))) = false := by simpa using c2
    try rw [e8]
    refine Evr.condF rfl (Evr.exit rfl (Evr.sr rfl (Opl.p1 (n := Opl.nil ?_))))
    obtain rfl := sinj H
    refine Evr.ret1 Try.func29 rfl ?_
    show (.lit (.bool true) : PV) = _
    first | rfl | (simp only [go_sem]; rfl)
   rw [if_pos c2] at H
   have e1 : (decide (x5_1 < (l1_1.length : Int))) = true := by simpa using c2
   try rw [e1]
   refine Evr.condT rfl (Evr.skip (Evr.seq (Evr.block (Evr.seq (Evr.seq (Evr.regionD rfl (by kernel_rfl) (Opl.p1 (v := .ptr i6 1) (n := Opl.ldb (v := v1_1) h7 rfl T27 rfl rfl rfl rfl (Opl.p1 (n := ?_))))))))))
   obtain ⟨c3, H⟩ := peel H
   refine Opl.idx (M := (cInt .i64)) (xs := l1_1) (j := x5_1) (0 : Int) (by exact hv1_1) rfl (by omega) (by omega) K27 Z3 rfl rfl ?_
   rintro p1 q1 h8
   obtain rfl : p1 = [.lit (.int .i64 (rd l1_1 x5_1))] := h8
   refine Opl.lda (.lit (.int .i64 (rd l1_1 x5_1))) rfl T3 rfl rfl rfl rfl (Opl.p1 (v := .ptr i5 1) (n := Opl.ldb (v := v0_1) h6 rfl T24 rfl rfl rfl rfl (Opl.len (xs := l0_1) (by exact hv0_1) K24 rfl rfl rfl rfl (Opl.subi (k := .i64) (a := (l0_1.length : Int)) (b := 1) K3 rfl rfl rfl rfl ?_))))
   obtain ⟨t1179, h_t1179, H⟩ := obs H
   refine Opl.callc (spec_l1In.ev h_t1179) rfl rfl rfl rfl ⟨(.lit _), (.lit _), (.lit _), trivial⟩ (by decide) (Opl.p1 (n := Opl.nil ?_))
   by_cases c4 : t1179 = true
   case neg =>
    rw [if_neg c4] at H
    have e7 : (!t1179) = true := by simpa using c4
    try rw [e7]
    refine Evr.condT rfl (Evr.sr rfl (Opl.one (v := .lit (.bool false)) rfl rfl rfl (Opl.nil ?_)))
    obtain rfl := sinj H
    refine Evr.ret1 Try.func29 rfl ?_
    show (.lit (.bool false) : PV) = _
    first | rfl | (simp only [go_sem]; rfl)
   rw [if_pos c4] at H
   have e2 : (!t1179) = false := by simpa using c4
   try rw [e2]
   refine Evr.condF rfl (Evr.skip (Evr.seq (Evr.regionD rfl (by kernel_rfl) (Opl.ldb (v := .agg [v0_0, v0_1]) h6 rfl T26 rfl rfl rfl rfl (Opl.p1 (v := .ptr i6 0) (n := Opl.ldb (v := v1_0) h7 rfl T30 rfl rfl rfl rfl (Opl.one (v := .lit (.int .i64 x5_1)) rfl rfl rfl ?_)))))))
   obtain ⟨c5, H⟩ := peel H
   refine Opl.idx (M := (cSl (cInt .i64))) (xs := l1_0) (j := x5_1) ([] : List Int) (by exact hv1_0) rfl (by omega) (by omega) K30 Z27 rfl rfl ?_
   rintro p2 q2 h9
   obtain ⟨pv1, rfl, h10⟩ := h9
   refine Opl.lda (pv1) rfl T27 rfl rfl rfl rfl (Opl.p1 (v := .ptr i6 1) (n := Opl.ldb (v := v1_1) h7 rfl T27 rfl rfl rfl rfl (Opl.one (v := .lit (.int .i64 x5_1)) rfl rfl rfl (Opl.idx (M := (cInt .i64)) (xs := l1_1) (j := x5_1) (0 : Int) (by exact hv1_1) rfl (by omega) (by omega) K27 Z3 rfl rfl ?_))))
   rintro p3 q3 h11
   obtain rfl : p3 = [.lit (.int .i64 (rd l1_1 x5_1))] := h11
   refine Opl.lda (.lit (.int .i64 (rd l1_1 x5_1))) rfl T3 rfl rfl rfl rfl ?_
   obtain ⟨t1182, h_t1182, H⟩ := obs H
   refine Opl.call ((spec_l2Use.ev hv0_0 hv0_1 h10 h_t1182).mono fun _ _ h => Out.vec h) rfl rfl rfl rfl ⟨(.aggL ⟨hv0_0.plain, hv0_1.plain, trivial⟩), h10.plain, (.lit _), trivial⟩ (by decide) ?_
   rintro pv2 h12
   refine Opl.one (v := pv2) rfl rfl rfl (Opl.nil (Evr.sr rfl (Opl.one (v := pv2) rfl rfl rfl (Opl.len (xs := t1182) (by exact h12) K27 rfl rfl rfl rfl (Opl.p1 (n := Opl.one (v := .lit (.bool ((t1182.length : Int) == 0))) rfl rfl rfl ?_))))))
   by_cases c6 : (t1182.length : Int) = 0
   case pos =>
    rw [if_pos c6] at H
    have e3 : ((t1182.length : Int) == 0) = true := by simpa using c6
    try rw [e3]
    refine Opl.sk8 rfl rfl rfl rfl rfl rfl rfl rfl (Opl.skp rfl (Opl.p1 (n := Opl.nil (Evr.condT rfl (Evr.sr rfl (Opl.one (v := .lit (.bool false)) rfl rfl rfl (Opl.nil ?_)))))))
    obtain rfl := sinj H
    refine Evr.ret1 Try.func29 rfl ?_
    show (.lit (.bool false) : PV) = _
    first | rfl | (simp only [go_sem]; rfl)
   rw [if_neg c6] at H
   have e4 : ((t1182.length : Int) == 0) = false := by simpa using c6
   try rw [e4]
   refine Opl.one (v := pv2) rfl rfl rfl (Opl.p1 (v := .ptr i6 0) (n := Opl.ldb (v := v1_0) h7 rfl T30 rfl rfl rfl rfl (Opl.one (v := .lit (.int .i64 x5_1)) rfl rfl rfl (Opl.add (k := .i64) (a := x5_1) (b := 1) K3 rfl rfl rfl rfl ?_))))
   obtain ⟨c7, H⟩ := peel H
   obtain ⟨c8, H⟩ := peel H
   refine Opl.idx (M := (cSl (cInt .i64))) (xs := l1_0) (j := (wrap64 (x5_1 + 1))) ([] : List Int) (by exact hv1_0) rfl (by omega) (by omega) K30 Z27 rfl rfl ?_
   rintro p4 q4 h13
   obtain ⟨pv3, rfl, h14⟩ := h13
   refine Opl.lda (pv3) rfl T27 rfl rfl rfl rfl ?_
   obtain ⟨t1186, h_t1186, H⟩ := obs H
   refine Opl.callc (spec_l2Same.ev h12 h14 h_t1186) rfl rfl rfl rfl ⟨h12.plain, h14.plain, trivial⟩ (by decide) (Opl.p1 (n := Opl.p1 (n := Opl.nil ?_)))
   by_cases c9 : t1186 = true
   case neg =>
    rw [if_neg c9] at H
    have e6 : (!t1186) = true := by simpa using c9
    try rw [e6]
    refine Evr.condT rfl (Evr.sr rfl (Opl.one (v := .lit (.bool false)) rfl rfl rfl (Opl.nil ?_)))
    obtain rfl := sinj H
    refine Evr.ret1 Try.func29 rfl ?_
    show (.lit (.bool false) : PV) = _
    first | rfl | (simp only [go_sem]; rfl)
   rw [if_pos c9] at H
   have e5 : (!t1186) = false := by simpa using c9
   try rw [e5]
   refine Evr.condF rfl (Evr.skip (Evr.inBlock (Evr.regionN rfl (Opl.one (v := .lit (.int .i64 x5_1)) rfl rfl rfl (Opl.add (k := .i64) (a := x5_1) (b := 1) K3 rfl rfl rfl rfl (Opl.one (v := .lit (.int .i64 (wrap64 (x5_1 + 1)))) rfl rfl rfl (Opl.nil ?_)))))))
   exact ih1 _ (by omega) _ _ ⟨by omega, _, _, _, H, ⟨rfl, rfl, rfl, trivial⟩, h6, h7, ap3⟩
 ·
  refine Evr.regionD rfl (by kernel_rfl) (Opl.ldb (v := .agg [v0_0, v0_1]) h3 rfl T26 rfl rfl rfl rfl ?_)
  obtain ⟨t1171, h_t1171, H⟩ := obs H
  refine Opl.callc (spec_SystemValid.ev hv0_0 hv0_1 h_t1171) rfl rfl rfl rfl ⟨(.aggL ⟨hv0_0.plain, hv0_1.plain, trivial⟩), trivial⟩ (by decide) (Opl.p1 (n := Opl.p1 (n := ?_)))
  by_cases c10 : t1171 = true
  case neg =>
   rw [if_neg c10] at H
   have e14 : (!t1171) = true := by simpa using c10
   try rw [e14]
   refine Opl.sk4 rfl rfl rfl rfl (Opl.skp rfl (Opl.p1 (n := Opl.p1 (n := Opl.sk8 rfl rfl rfl rfl rfl rfl rfl rfl (Opl.p1 (n := Opl.p1 (n := Opl.sk8 rfl rfl rfl rfl rfl rfl rfl rfl (Opl.p1 (n := Opl.nil ?_)))))))))
   exact hk1 _ _ ⟨_, _, _, _, H, ⟨rfl, rfl, (by first | rfl | (show PV.lit (.bool _) = _; congr 2; simp_all)), trivial⟩, h3, h2, ap1⟩
  rw [if_pos c10] at H
  have e9 : (!t1171) = false := by simpa using c10
  try rw [e9]
  refine Opl.p1 (v := .ptr i2 0) (n := Opl.ldb (v := v1_0) h2 rfl T30 rfl rfl rfl rfl (Opl.len (xs := l1_0) (by exact hv1_0) K30 rfl rfl rfl rfl ?_))
  obtain ⟨t1172, h_t1172, H⟩ := obs H
  refine Opl.callc (spec_l1In.ev h_t1172) rfl rfl rfl rfl ⟨(.lit _), (.lit _), (.lit _), trivial⟩ (by decide) (Opl.p1 (n := Opl.p1 (n := Opl.p1 (n := ?_))))
  by_cases c11 : t1172 = true
  case neg =>
   rw [if_neg c11] at H
   have e13 : (!t1172) = true := by simpa using c11
   try rw [e13]
   refine Opl.sk8 rfl rfl rfl rfl rfl rfl rfl rfl (Opl.p1 (n := Opl.p1 (n := Opl.sk8 rfl rfl rfl rfl rfl rfl rfl rfl (Opl.p1 (n := Opl.nil ?_)))))
   exact hk1 _ _ ⟨_, _, _, _, H, ⟨rfl, rfl, (by first | rfl | (show PV.lit (.bool _) = _; congr 2; simp_all)), trivial⟩, h3, h2, ap1⟩
  rw [if_pos c11] at H
  have e10 : (!t1172) = false := by simpa using c11
  try rw [e10]
  refine Opl.p1 (v := .ptr i2 1) (n := Opl.ldb (v := v1_1) h2 rfl T27 rfl rfl rfl rfl (Opl.len (xs := l1_1) (by exact hv1_1) K27 rfl rfl rfl rfl (Opl.p1 (v := .ptr i2 0) (n := Opl.ldb (v := v1_0) h2 rfl T30 rfl rfl rfl rfl (Opl.len (xs := l1_0) (by exact hv1_0) K30 rfl rfl rfl rfl (Opl.subi (k := .i64) (a := (l1_0.length : Int)) (b := 1) K3 rfl rfl rfl rfl (Opl.neq (a := (l1_1.length : Int)) (b := (wrap64 ((l1_0.length : Int) - 1))) K3 rfl rfl rfl rfl (Opl.p1 (n := Opl.one (v := .lit (.bool ((l1_1.length : Int) != (wrap64 ((l1_0.length : Int) - 1))))) rfl rfl rfl ?_)))))))))
  by_cases c12 : (l1_1.length : Int) = (wrap64 ((l1_0.length : Int) - 1))
  case neg =>
   rw [if_neg c12] at H
   have e12 : ((l1_1.length : Int) != (wrap64 ((l1_0.length : Int) - 1))) = true := by simpa using c12
   try rw [e12]
   refine Opl.sk8 rfl rfl rfl rfl rfl rfl rfl rfl (Opl.p1 (n := Opl.nil ?_))
   exact hk1 _ _ ⟨_, _, _, _, H, ⟨rfl, rfl, (by first | rfl | (show PV.lit (.bool _) = _; congr 2; simp_all)), trivial⟩, h3, h2, ap1⟩
  rw [if_pos c12] at H
  have e11 : ((l1_1.length : Int) != (wrap64 ((l1_0.length : Int) - 1))) = false := by simpa using c12
  try rw [e11]
  refine Opl.p1 (v := .ptr i2 0) (n := Opl.ldb (v := v1_0) h2 rfl T30 rfl rfl rfl rfl ?_)
  obtain ⟨c13, H⟩ := peel H
  refine Opl.idx (M := (cSl (cInt .i64))) (xs := l1_0) (j := 0) ([] : List Int) (by exact hv1_0) rfl (by omega) (by omega) K30 Z27 rfl rfl ?_
  rintro p5 q5 h15
  obtain ⟨pv4, rfl, h16⟩ := h15
  refine Opl.lda (pv4) rfl T27 rfl rfl rfl rfl (Opl.ldb (v := .agg [v0_0, v0_1]) h3 rfl T26 rfl rfl rfl rfl ?_)
  obtain ⟨t1174, h_t1174, H⟩ := obs H
  refine Opl.call ((spec_FirstState.ev hv0_0 hv0_1 h_t1174).mono fun _ _ h => Out.vec h) rfl rfl rfl rfl ⟨(.aggL ⟨hv0_0.plain, hv0_1.plain, trivial⟩), trivial⟩ (by decide) ?_
  rintro pv5 h17
  obtain ⟨t1177, h_t1177, H⟩ := obs H
  refine Opl.callc (spec_l2Same.ev h16 h17 h_t1177) rfl rfl rfl rfl ⟨h16.plain, h17.plain, trivial⟩ (by decide) (Opl.p1 (n := Opl.p1 (n := Opl.nil ?_)))
  exact hk1 _ _ ⟨_, _, _, _, H, ⟨rfl, rfl, (by first | rfl | (show PV.lit (.bool _) = _; congr 2; simp_all)), trivial⟩, h3, h2, ap1⟩
theorem spec_l3Copy.ev {k : Nat} {l0 : List Int} {v0 : PV} (hv0 : Sl (cInt .i64) l0 v0) {r : (List Int)} (H : spec_l3Copy.f k l0 = some r) : Ret Try.prog 56 [v0] fun v S => Vec (cInt .i64) r v S := by
 unfold spec_l3Copy.f at H
 refine Ret.intro Try.func56 rfl (Nat.le_of_ble_eq_true rfl) rfl ?_
 rw [tm1]
 refine Evr.sr rfl (Opl.p1 (n := Opl.nil (Evr.sr rfl (Opl.lits (M := (cInt .i64)) (ys := []) [] K27 T3 rfl rfl rfl trivial rfl (by decide) rfl rfl rfl ?_))))
 rintro pv1 S h1 u1 w1
 refine Opl.p1 (n := Opl.nil (Evr.seq (Evr.sr rfl (Opl.p1 (n := Opl.nil (Evr.block ?_))))))
 refine Evr.loop (Evr.rounds (n := k) (Inv := fun n tm S => n ≤ k ∧ ∃ (x3_1 : List Int) (x4_1 : Int) (pv2 : PV), spec_l3Copy.l0 n l0 x3_1 x4_1 = some r ∧ Has tm [(0, v0), (3, pv2), (4, .lit (.int .i64 x4_1))] ∧ Vec (cInt .i64) x3_1 pv2 S) ?_ ?_ ?_)
 · exact ⟨Nat.le_refl _, _, _, _, H, ⟨rfl, rfl, rfl, trivial⟩, h1⟩
 ·
  rintro tm S ⟨_, _, _, _, H, -⟩
  simp [spec_l3Copy.l0] at H
 ·
  rintro n1 ih1 tm S ⟨hle, x3_1, x4_1, pv2, H, hh, h2⟩
  simp only [spec_l3Copy.l0] at H
  rw [hh.eq]
  refine Evr.seq (Evr.sr rfl (Opl.p1 (n := Opl.p1 (n := Opl.len (xs := l0) (by exact hv0) K27 rfl rfl rfl rfl (Opl.p1 (n := Opl.nil ?_))))))
  by_cases c1 : x4_1 < (l0.length : Int)
  case neg =>
   rw [if_neg c1] at H
   have e2 : (decide (x4_1 < (l0.length : Int))) = false := by simpa using c1
   try rw [e2]
   refine Evr.condF rfl (Evr.exit rfl (Evr.sr rfl (Opl.p1 (n := Opl.p1 (n := Opl.nil ?_)))))
   obtain rfl := sinj H
   refine Evr.ret1 Try.func56 rfl ?_
   show Vec _ _ pv2 _
   exact h2
  rw [if_pos c1] at H
  have e1 : (decide (x4_1 < (l0.length : Int))) = true := by simpa using c1
  try rw [e1]
  refine Evr.condT rfl (Evr.skip (Evr.seq (Evr.block (Evr.regionN rfl (Opl.p1 (n := Opl.p1 (n := Opl.p1 (n := ?_))))))))
  obtain ⟨c2, H⟩ := peel H
  obtain ⟨c3, H⟩ := peel H
  refine Opl.idx (M := (cInt .i64)) (xs := l0) (j := x4_1) (0 : Int) (by exact hv0) rfl (by omega) (by omega) K27 Z3 rfl rfl ?_
  rintro p1 q1 h3
  obtain rfl : p1 = [.lit (.int .i64 (rd l0 x4_1))] := h3
  refine Opl.lda (.lit (.int .i64 (rd l0 x4_1))) rfl T3 rfl rfl rfl rfl (Opl.lits (M := (cInt .i64)) (ys := [(rd l0 x4_1)]) [.tmp 16] K27 T3 rfl rfl rfl (by exact ⟨rfl, trivial⟩) rfl (by decide) rfl rfl rfl ?_)
  rintro pv3 S h4 u2 w2
  have ap1 := w2.vec h2
  have h5 := u2.vec h2 ap1
  refine Opl.app (M := (cInt .i64)) (xs := x3_1) (ys := [(rd l0 x4_1)]) (v := pv2) h5 (.vec h4) (oInt .i64) rfl rfl K27 T3 rfl rfl (by (try simp only [List.length_cons, List.length_nil]); omega) (by show (_ + _) * 8 ≤ 140737488355328; (try simp only [List.length_cons, List.length_nil]); omega) rfl rfl rfl rfl rfl ?_
  rintro pv4 S h6 u3 w3
  have ap2 := w3.vec h4
  have h7 := u3.vec h4 ap1.symm
  refine Opl.p1 (n := Opl.nil (Evr.inBlock (Evr.regionN rfl (Opl.p1 (n := Opl.add (k := .i64) (a := x4_1) (b := 1) K3 rfl rfl rfl rfl (Opl.one (v := .lit (.int .i64 (wrap64 (x4_1 + 1)))) rfl rfl rfl (Opl.nil ?_)))))))
  exact ih1 _ (by omega) _ _ ⟨by omega, _, _, _, H, ⟨rfl, rfl, rfl, trivial⟩, h6⟩
theorem spec_WithoutRounds.ev {k : Nat} {l0_0 : List IVar} {v0_0 : PV} (hv0_0 : Sl cIVar l0_0 v0_0) {l0_1 : List IRule} {v0_1 : PV} (hv0_1 : Sl cIRule l0_1 v0_1) {l1_0 : List (List Int)} {v1_0 : PV} (hv1_0 : Sl (cSl (cInt .i64)) l1_0 v1_0) {l1_1 : List Int} {v1_1 : PV} (hv1_1 : Sl (cInt .i64) l1_1 v1_1) {r : (List (List Int) × List Int)} (H : spec_WithoutRounds.f k l0_0 l0_1 l1_0 l1_1 = some r) : Ret Try.prog 24 [.agg [v0_0, v0_1], .agg [v1_0, v1_1]] fun v S => Out (fun q => ∃ q1 q2, q = .agg [q1, q2] ∧ Sl (cSl (cInt .i64)) r.1 q1 ∧ Sl (cInt .i64) r.2 q2) v S := by
 unfold spec_WithoutRounds.f at H
 refine Ret.intro Try.func24 rfl (Nat.le_of_ble_eq_true rfl) rfl ?_
 rw [tm2]
 refine Evr.sr rfl (Opl.box (cs := [v0_0, v0_1]) rfl rfl rfl rfl ?_)
 rintro i1 S h1 u1 w1
 refine Opl.box (cs := [v1_0, v1_1]) rfl rfl rfl rfl ?_
 rintro i2 S h2 u2 w2
 have ap1 := w2.box h1
 have h3 := u2.box h1 ap1
 refine Opl.alloc T42 rfl rfl rfl ?_
 rintro i3 S h4 u3 w3
 have ap2 := w3.box h3
 have h5 := u3.box h3 ap2
 have ap3 := w3.box h2
 have h6 := u3.box h2 ap3
 refine Opl.nil (Evr.sr rfl (Opl.p1 (v := .agg [.lit (.slice none 0 0), .lit (.slice none 0 0)]) (n := Opl.alloc T42 rfl rfl rfl ?_)))
 rintro i4 S h7 u4 w4
 have ap4 := w4.box h5
 have h8 := u4.box h5 ap4
 have ap5 := w4.box h6
 have h9 := u4.box h6 ap5
 have ap6 := w4.box h4
 have h10 := u4.box h4 ap6
 refine Opl.stb (vs := [.lit (.slice none 0 0), .lit (.slice none 0 0)]) h7 rfl rfl Z42 rfl (Nat.le_of_ble_eq_true rfl) rfl rfl rfl rfl ?_
 rintro S (h11 : Box (.ptr i4 0) [.lit (.slice none 0 0), .lit (.slice none 0 0)] _) u5
 have h12 := u5.box h8 ap4
 have h13 := u5.box h9 ap5
 have h14 := u5.box h10 ap6
 refine Opl.nil (Evr.seq (Evr.sr rfl (Opl.ldb (v := .agg [v0_0, v0_1]) h12 rfl T26 rfl rfl rfl rfl (Opl.ldb (v := .agg [v1_0, v1_1]) h13 rfl T42 rfl rfl rfl rfl ?_))))
 obtain ⟨r1, h_r1, H⟩ := obs H
 refine Opl.callc (spec_TraceValid.ev hv0_0 hv0_1 hv1_0 hv1_1 h_r1) rfl rfl rfl rfl ⟨(.aggL ⟨hv0_0.plain, hv0_1.plain, trivial⟩), (.aggL ⟨hv1_0.plain, hv1_1.plain, trivial⟩), trivial⟩ (by decide) (Opl.p1 (n := Opl.nil ?_))
 by_cases c1 : r1 = true
 case neg =>
  rw [if_neg c1] at H
  have e8 : (!r1) = true := by simpa using c1
  try rw [e8]
  refine Evr.condT rfl (Evr.sr rfl (Opl.ldb (v := .agg [.lit (.slice none 0 0), .lit (.slice none 0 0)]) h11 rfl T42 rfl rfl rfl rfl (Opl.stb (vs := [.lit (.slice none 0 0), .lit (.slice none 0 0)]) h14 rfl rfl Z42 rfl (Nat.le_of_ble_eq_true rfl) rfl rfl rfl rfl ?_)))
  rintro S (h73 : Box (.ptr i3 0) [.lit (.slice none 0 0), .lit (.slice none 0 0)] _) u16
  have h74 := u16.box h12 ap2
  have h75 := u16.box h13 ap3
  have h76 := u16.box h11 ap6.symm
  refine Opl.nil ?_
  obtain rfl := sinj H
  refine Evr.retb (v := .agg [.lit (.slice none 0 0), .lit (.slice none 0 0)]) Try.func24 rfl h73 rfl T42 rfl ?_
  show Out _ (.agg [.lit (.slice none 0 0), .lit (.slice none 0 0)]) _
  exact (.agg2 (.sl .nil) (.sl .nil))
 rw [if_pos c1] at H
 have e1 : (!r1) = false := by simpa using c1
 try rw [e1]
 refine Evr.condF rfl (Evr.skip (Evr.sr rfl (Opl.p1 (n := Opl.nil (Evr.seq (Evr.block (Evr.frzb 3 h13 rfl ?_)))))))
 rintro S u6
 have h15 := u6.box h12 ap1
 have h16 := u6.box h14 ap3.symm
 have h17 := u6.box h11 ap5.symm
 refine Evr.loop (Evr.rounds (n := k) (Inv := fun n tm S => n ≤ k ∧ ∃ (x5b0_1 : List (List Int)) (x5b1_1 : List Int) (x6_1 : Int) (i5 : Abs.Id) (pv1 : PV) (pv2 : PV) (i6 : Abs.Id), spec_WithoutRounds.l1 n x5b0_1 x5b1_1 x6_1 l1_0 l1_1 = some r ∧ Has tm [(3, .fel (v1_0 :: v1_1 :: [])), (4, .ptr i5 0), (5, .ptr i6 0), (6, .lit (.int .i64 x6_1))] ∧ Box (.ptr i5 0) [.lit (.slice none 0 0), .lit (.slice none 0 0)] S ∧ Vec (cSl (cInt .i64)) x5b0_1 pv1 S ∧ Vec (cInt .i64) x5b1_1 pv2 S ∧ Box (.ptr i6 0) [pv1, pv2] S ∧ Ap (.ptr i5 0) pv1 ∧ Ap (.ptr i5 0) pv2 ∧ Ap (.ptr i5 0) (.ptr i6 0) ∧ Ap pv1 pv2 ∧ Ap pv1 (.ptr i6 0) ∧ Ap pv2 (.ptr i6 0)) ?_ ?_ ?_)
 · exact ⟨Nat.le_refl _, _, _, _, _, _, _, _, H, ⟨rfl, rfl, rfl, rfl, trivial⟩, h16, .nil, .nil, h17, Ap.nil.symm, Ap.nil.symm, ap6, .nil, .nil, .nil⟩
 ·
  rintro tm S ⟨_, _, _, _, _, _, _, _, H, -⟩
  simp [spec_WithoutRounds.l1] at H
 ·
  rintro n1 ih1 tm S ⟨hle, x5b0_1, x5b1_1, x6_1, i5, pv1, pv2, i6, H, hh, h18, h20, h21, h19, ap7, ap8, ap9, ap10, ap11, ap12⟩
  simp only [spec_WithoutRounds.l1] at H
  rw [hh.eq]
  refine Evr.seq (Evr.sr rfl (Opl.p1 (n := Opl.p1 (v := .fel (v1_0 :: v1_1 :: [])) (n := Opl.lda (v1_0) rfl T30 rfl rfl rfl rfl (Opl.len (xs := l1_0) (by exact hv1_0) K30 rfl rfl rfl rfl (Opl.p1 (n := Opl.nil ?_)))))))
  by_cases c2 : x6_1 < (l1_0.length : Int)
  case neg =>
   rw [if_neg c2] at H
   have e7 : (decide (x6_1 < (l1_0.length : Int))) = false := by simpa using c2
   try rw [e7]
   refine Evr.condF rfl (Evr.exit rfl (Evr.seq (Evr.frzc [] [pv2] h19 h20 ap11 ?_)))
   rintro pv19 S1_ S h60 u11 u12 h61
   have h62 := u12.box (u11.box h18 ap7) ap9
   have h63 := u12.vec (u11.vec h21 ap10.symm) ap12
   have h64 : Sl (cSl (cInt .i64)) x5b0_1 pv19 := h60
   have h65 : Box (.ptr i6 0) [pv19, pv2] S := h61
   refine Evr.frzc [pv19] [] h65 h63 ap12 ?_
   rintro pv20 S1_ S h66 u13 u14 h67
   have h68 := u14.box (u13.box h62 ap8) ap9
   have h69 : Sl (cInt .i64) x5b1_1 pv20 := h66
   have h70 : Box (.ptr i6 0) [pv19, pv20] S := h67
   refine Evr.regionN rfl (Opl.ldb (v := .agg [pv19, pv20]) h70 rfl T42 rfl rfl rfl rfl (Opl.stb (vs := [pv19, pv20]) h68 rfl rfl Z42 rfl (Nat.le_of_ble_eq_true rfl) (by simp only [List.all_cons, List.all_nil, h64.one, h69.one, Bool.and_true, Bool.true_and] <;> rfl) rfl rfl rfl ?_))
   rintro S (h71 : Box (.ptr i5 0) [pv19, pv20] _) u15
   have h72 := u15.box h70 ap9.symm
   refine Opl.nil ?_
   obtain rfl := sinj H
   refine Evr.retb (v := .agg [pv19, pv20]) Try.func24 rfl h71 rfl T42 rfl ?_
   show Out _ (.agg [pv19, pv20]) _
   exact (.agg2 (.sl h64) (.sl h69))
  rw [if_pos c2] at H
  have e2 : (decide (x6_1 < (l1_0.length : Int))) = true := by simpa using c2
  try rw [e2]
  refine Evr.condT rfl (Evr.skip (Evr.block (Evr.sr rfl (Opl.p1 (n := Opl.p1 (n := Opl.nil (Evr.seq (Evr.sr rfl (Opl.p1 (n := Opl.p1 (n := Opl.nil (Evr.block ?_))))))))))))
  refine Evr.loop (Evr.rounds (n := n1) (Inv := fun n tm S => n ≤ n1 ∧ ∃ (x7q3_1 : Int) (x8q6_1 : Int) (i7 : Abs.Id) (pv3 : PV) (pv4 : PV) (i8 : Abs.Id), spec_WithoutRounds.l2 n x7q3_1 x8q6_1 l1_0 l1_1 x5b0_1 x5b1_1 x6_1 = some r ∧ Has tm [(3, .fel (v1_0 :: v1_1 :: [])), (4, .ptr i7 0), (5, .ptr i8 0), (6, .lit (.int .i64 x6_1)), (7, .lit (.int .i64 x7q3_1)), (8, .lit (.int .i64 x8q6_1))] ∧ Box (.ptr i7 0) [.lit (.slice none 0 0), .lit (.slice none 0 0)] S ∧ Vec (cSl (cInt .i64)) x5b0_1 pv3 S ∧ Vec (cInt .i64) x5b1_1 pv4 S ∧ Box (.ptr i8 0) [pv3, pv4] S ∧ Ap (.ptr i7 0) pv3 ∧ Ap (.ptr i7 0) pv4 ∧ Ap (.ptr i7 0) (.ptr i8 0) ∧ Ap pv3 pv4 ∧ Ap pv3 (.ptr i8 0) ∧ Ap pv4 (.ptr i8 0)) ?_ ?_ ?_)
  · exact ⟨Nat.le_refl _, _, _, _, _, _, _, H, ⟨rfl, rfl, rfl, rfl, rfl, rfl, trivial⟩, h18, h20, h21, h19, ap7, ap8, ap9, ap10, ap11, ap12⟩
  ·
   rintro tm S ⟨_, _, _, _, _, _, _, H, -⟩
   simp [spec_WithoutRounds.l2] at H
  ·
   rintro n2 ih2 tm S ⟨hle, x7q3_1, x8q6_1, i7, pv3, pv4, i8, H, hh, h22, h24, h25, h23, ap13, ap14, ap15, ap16, ap17, ap18⟩
   simp only [spec_WithoutRounds.l2] at H
   rw [hh.eq]
   refine Evr.seq (Evr.sr rfl (Opl.p1 (n := Opl.p1 (v := .fel (v1_0 :: v1_1 :: [])) (n := Opl.lda (v1_0) rfl T30 rfl rfl rfl rfl (Opl.len (xs := l1_0) (by exact hv1_0) K30 rfl rfl rfl rfl (Opl.p1 (n := Opl.nil ?_)))))))
   by_cases c3 : x8q6_1 < (l1_0.length : Int)
   case pos =>
    rw [if_pos c3] at H
    have e3 : (decide (x8q6_1 < (l1_0.length : Int))) = true := by simpa using c3
    try rw [e3]
    refine Evr.condT rfl (Evr.skip (Evr.seq (Evr.block (Evr.seq (Evr.regionD rfl (by kernel_rfl) (Opl.p1 (v := .fel (v1_0 :: v1_1 :: [])) (n := Opl.lda (v1_0) rfl T30 rfl rfl rfl rfl (Opl.p1 (n := ?_)))))))))
    obtain ⟨c4, H⟩ := peel H
    obtain ⟨c5, H⟩ := peel H
    obtain ⟨c6, H⟩ := peel H
    obtain ⟨c7, H⟩ := peel H
    refine Opl.idx (M := (cSl (cInt .i64))) (xs := l1_0) (j := x8q6_1) ([] : List Int) (by exact hv1_0) rfl (by omega) (by omega) K30 Z27 rfl rfl ?_
    rintro p1 q1 h26
    obtain ⟨pv5, rfl, h27⟩ := h26
    refine Opl.lda (pv5) rfl T27 rfl rfl rfl rfl (Opl.p1 (v := .fel (v1_0 :: v1_1 :: [])) (n := Opl.lda (v1_0) rfl T30 rfl rfl rfl rfl (Opl.p1 (n := Opl.idx (M := (cSl (cInt .i64))) (xs := l1_0) (j := x6_1) ([] : List Int) (by exact hv1_0) rfl (by omega) (by omega) K30 Z27 rfl rfl ?_))))
    rintro p2 q2 h28
    obtain ⟨pv6, rfl, h29⟩ := h28
    refine Opl.lda (pv6) rfl T27 rfl rfl rfl rfl ?_
    obtain ⟨r2, h_r2, H⟩ := obs H
    refine Opl.callc (spec_l2Same.ev h27 h29 h_r2) rfl rfl rfl rfl ⟨h27.plain, h29.plain, trivial⟩ (by decide) (Opl.nil ?_)
    refine Evr.join (fun tm S => ∃ (kq1 : Nat) (x7q3_2 : Int) (i9 : Abs.Id) (pv7 : PV) (pv8 : PV) (i10 : Abs.Id), spec_WithoutRounds.l2 kq1 x7q3_2 (wrap64 (x8q6_1 + 1)) l1_0 l1_1 x5b0_1 x5b1_1 x6_1 = some r ∧ kq1 ≤ n2 ∧ Has tm [(3, .fel (v1_0 :: v1_1 :: [])), (4, .ptr i9 0), (5, .ptr i10 0), (6, .lit (.int .i64 x6_1)), (7, .lit (.int .i64 x7q3_2)), (8, .lit (.int .i64 x8q6_1))] ∧ Box (.ptr i9 0) [.lit (.slice none 0 0), .lit (.slice none 0 0)] S ∧ Vec (cSl (cInt .i64)) x5b0_1 pv7 S ∧ Vec (cInt .i64) x5b1_1 pv8 S ∧ Box (.ptr i10 0) [pv7, pv8] S ∧ Ap (.ptr i9 0) pv7 ∧ Ap (.ptr i9 0) pv8 ∧ Ap (.ptr i9 0) (.ptr i10 0) ∧ Ap pv7 pv8 ∧ Ap pv7 (.ptr i10 0) ∧ Ap pv8 (.ptr i10 0)) ?_ fun hk1 => ?_
    ·
     rintro tm S ⟨kq1, x7q3_2, i9, pv7, pv8, i10, H, hle, hh, h30, h32, h33, h31, ap19, ap20, ap21, ap22, ap23, ap24⟩
     rw [hh.eq]
     refine Evr.inBlock (Evr.regionN rfl (Opl.p1 (n := Opl.add (k := .i64) (a := x8q6_1) (b := 1) K3 rfl rfl rfl rfl (Opl.one (v := .lit (.int .i64 (wrap64 (x8q6_1 + 1)))) rfl rfl rfl (Opl.nil ?_)))))
     exact ih2 _ (by omega) _ _ ⟨by omega, _, _, _, _, _, _, H, ⟨rfl, rfl, rfl, rfl, rfl, rfl, trivial⟩, h30, h32, h33, h31, ap19, ap20, ap21, ap22, ap23, ap24⟩
    ·
     by_cases c8 : r2 = true
     case neg =>
      rw [if_neg c8] at H
      obtain rfl : r2 = false := by simpa using c8
      refine Evr.condF rfl (Evr.skip ?_)
      exact hk1 _ _ ⟨_, _, _, _, _, _, H, by omega, ⟨rfl, rfl, rfl, rfl, rfl, rfl, trivial⟩, h22, h24, h25, h23, ap13, ap14, ap15, ap16, ap17, ap18⟩
     rw [if_pos c8] at H
     obtain rfl : r2 = true := by simpa using c8
     refine Evr.condT rfl (Evr.regionN rfl (Opl.p1 (n := Opl.p1 (n := Opl.nil ?_))))
     exact hk1 _ _ ⟨_, _, _, _, _, _, H, by omega, ⟨rfl, rfl, rfl, rfl, rfl, rfl, trivial⟩, h22, h24, h25, h23, ap13, ap14, ap15, ap16, ap17, ap18⟩
   rw [if_neg c3] at H
   have e4 : (decide (x8q6_1 < (l1_0.length : Int))) = false := by simpa using c3
   try rw [e4]
   refine Evr.condF rfl (Evr.exit rfl (Evr.seq (Evr.regionL [(3, .p), (6, .p), (8, .p), (1, .q), (9, .m)] rfl (by kernel_rfl) (Opl.p1 (v := .ptr i8 0) (n := Opl.ldbk (v := pv3) h23 (rd_vec h25) rfl T30 rfl rfl rfl rfl (Opl.p1 (v := .fel (v1_0 :: v1_1 :: [])) (n := Opl.ldp (v1_0) rfl T30 rfl rfl rfl (Opl.p1 (n := ?_)))))))))
   obtain ⟨c9, H⟩ := peel H
   obtain ⟨c10, H⟩ := peel H
   refine Opl.idx (M := (cSl (cInt .i64))) (xs := l1_0) (j := x6_1) ([] : List Int) (by exact hv1_0) rfl (by omega) (by omega) K30 Z27 rfl rfl ?_
   rintro p3 q3 h34
   obtain ⟨pv9, rfl, h35⟩ := h34
   refine Opl.ldp (pv9) rfl T27 rfl rfl rfl ?_
   obtain ⟨r3, h_r3, H⟩ := obs H
   refine Opl.call ((spec_l3Copy.ev h35 h_r3).mono fun _ _ h => Out.vec h) rfl rfl rfl rfl ⟨h35.plain, trivial⟩ (by decide) ?_
   rintro pv10 h36
   refine Opl.liti (M := (cSl (cInt .i64))) (ys := [r3]) [.tmp 48] K30 T27 rfl rfl rfl (by exact ⟨⟨_, by first | rfl | exact h36.cells, h36⟩, trivial⟩) rfl (by decide) rfl rfl ?_
   rintro pv12 h37
   obtain ⟨c11, H⟩ := peel H
   refine Opl.appm rfl (M := (cSl (cInt .i64))) (xs := x5b0_1) (ys := [r3]) (v := pv3) h24 (.sl h37) (oSl (cInt .i64)) rfl rfl K30 T27 rfl rfl (by (try simp only [List.length_cons, List.length_nil]); omega) (by show (_ + _) * 24 ≤ 140737488355328; (try simp only [List.length_cons, List.length_nil]); omega) rfl rfl rfl rfl rfl ?_
   rintro pv13 S h38 u7 w6
   have ap25 := w6.box h22
   have h39 := u7.box h22 ap13
   have ap26 := w6.vec h25
   have h40 := u7.vec h25 ap16.symm
   have ap27 := w6.box h23
   have h41 := u7.box h23 ap17.symm
   refine Opl.p1 (v := .ptr i8 0) (n := Opl.stb (vs := [pv13]) h41 rfl (by exact Vec.cells h38) Z30 rfl (Nat.le_of_ble_eq_true rfl) (by simp only [List.all_cons, List.all_nil, Vec.one h38, Bool.and_true, Bool.true_and] <;> rfl) rfl rfl rfl ?_)
   rintro S (h42 : Box (.ptr i8 0) [pv13, pv4] _) u8
   have h43 := u8.box h39 ap15
   have h44 := u8.vec h40 ap18
   have h45 := u8.vec h38 ap27.symm
   refine Opl.nil (Evr.seq (Evr.sr rfl (Opl.p1 (n := Opl.p1 (v := .fel (v1_1 :: [])) (n := Opl.lda (v1_1) rfl T27 rfl rfl rfl rfl (Opl.len (xs := l1_1) (by exact hv1_1) K27 rfl rfl rfl rfl (Opl.p1 (n := Opl.nil ?_))))))))
   refine Evr.join (fun tm S => ∃ (kq2 : Nat) (x5b1_2 : List Int) (i11 : Abs.Id) (pv14 : PV) (pv15 : PV) (i12 : Abs.Id), spec_WithoutRounds.l1 kq2 (x5b0_1 ++ [r3]) x5b1_2 (wrap64 (x7q3_1 + 1)) l1_0 l1_1 = some r ∧ kq2 ≤ n2 ∧ Has tm [(3, .fel (v1_0 :: v1_1 :: [])), (4, .ptr i11 0), (5, .ptr i12 0), (7, .lit (.int .i64 x7q3_1))] ∧ Box (.ptr i11 0) [.lit (.slice none 0 0), .lit (.slice none 0 0)] S ∧ Vec (cSl (cInt .i64)) (x5b0_1 ++ [r3]) pv14 S ∧ Vec (cInt .i64) x5b1_2 pv15 S ∧ Box (.ptr i12 0) [pv14, pv15] S ∧ Ap (.ptr i11 0) pv14 ∧ Ap (.ptr i11 0) pv15 ∧ Ap (.ptr i11 0) (.ptr i12 0) ∧ Ap pv14 pv15 ∧ Ap pv14 (.ptr i12 0) ∧ Ap pv15 (.ptr i12 0)) ?_ fun hk2 => ?_
   ·
    rintro tm S ⟨kq2, x5b1_2, i11, pv14, pv15, i12, H, hle, hh, h46, h48, h49, h47, ap28, ap29, ap30, ap31, ap32, ap33⟩
    rw [hh.eq]
    refine Evr.regionN rfl (Opl.p1 (n := Opl.add (k := .i64) (a := x7q3_1) (b := 1) K3 rfl rfl rfl rfl (Opl.one (v := .lit (.int .i64 (wrap64 (x7q3_1 + 1)))) rfl rfl rfl (Opl.nil (Evr.inBlock ?_)))))
    exact ih1 _ (by omega) _ _ ⟨by omega, _, _, _, _, _, _, _, H, ⟨rfl, rfl, rfl, rfl, trivial⟩, h46, h48, h49, h47, ap28, ap29, ap30, ap31, ap32, ap33⟩
   ·
    by_cases c12 : x7q3_1 < (l1_1.length : Int)
    case neg =>
     rw [if_neg c12] at H
     have e6 : (decide (x7q3_1 < (l1_1.length : Int))) = false := by simpa using c12
     try rw [e6]
     refine Evr.condF rfl (Evr.skip ?_)
     exact hk2 _ _ ⟨_, _, _, _, _, _, H, by omega, ⟨rfl, rfl, rfl, rfl, trivial⟩, h43, h45, h44, h42, ap25, ap14, ap15, ap26.symm, ap27.symm, ap18⟩
    rw [if_pos c12] at H
    have e5 : (decide (x7q3_1 < (l1_1.length : Int))) = true := by simpa using c12
    try rw [e5]
    refine Evr.condT rfl (Evr.regionL [(3, .p), (6, .p), (7, .p), (1, .q), (8, .m)] rfl (by kernel_rfl) (Opl.p1 (v := .ptr i8 1) (n := Opl.ldbk (v := pv4) h42 (rd_vec h44) rfl T27 rfl rfl rfl rfl (Opl.p1 (v := .fel (v1_1 :: [])) (n := Opl.ldp (v1_1) rfl T27 rfl rfl rfl (Opl.p1 (n := ?_)))))))
    obtain ⟨c13, H⟩ := peel H
    obtain ⟨c14, H⟩ := peel H
    obtain ⟨c15, H⟩ := peel H
    refine Opl.idx (M := (cInt .i64)) (xs := l1_1) (j := x7q3_1) (0 : Int) (by exact hv1_1) rfl (by omega) (by omega) K27 Z3 rfl rfl ?_
    rintro p4 q4 h50
    obtain rfl : p4 = [.lit (.int .i64 (rd l1_1 x7q3_1))] := h50
    refine Opl.ldp (.lit (.int .i64 (rd l1_1 x7q3_1))) rfl T3 rfl rfl rfl (Opl.liti (M := (cInt .i64)) (ys := [(rd l1_1 x7q3_1)]) [.tmp 63] K27 T3 rfl rfl rfl (by exact ⟨rfl, trivial⟩) rfl (by decide) rfl rfl ?_)
    rintro pv17 h51
    refine Opl.appm rfl (M := (cInt .i64)) (xs := x5b1_1) (ys := [(rd l1_1 x7q3_1)]) (v := pv4) h44 (.sl h51) (oInt .i64) rfl rfl K27 T3 rfl rfl (by (try simp only [List.length_cons, List.length_nil]); omega) (by show (_ + _) * 8 ≤ 140737488355328; (try simp only [List.length_cons, List.length_nil]); omega) rfl rfl rfl rfl rfl ?_
    rintro pv18 S h52 u9 w8
    have ap34 := w8.box h43
    have h53 := u9.box h43 ap14
    have ap35 := w8.box h42
    have h54 := u9.box h42 ap18.symm
    have ap36 := w8.vec h45
    have h55 := u9.vec h45 ap26.symm
    refine Opl.p1 (v := .ptr i8 1) (n := Opl.stb (vs := [pv18]) h54 rfl (by exact Vec.cells h52) Z27 rfl (Nat.le_of_ble_eq_true rfl) (by simp only [List.all_cons, List.all_nil, Vec.one h52, Bool.and_true, Bool.true_and] <;> rfl) rfl rfl rfl ?_)
    rintro S (h56 : Box (.ptr i8 0) [pv13, pv18] _) u10
    have h57 := u10.box h53 ap15
    have h58 := u10.vec h55 ap27.symm
    have h59 := u10.vec h52 ap35.symm
    refine Opl.nil ?_
    exact hk2 _ _ ⟨_, _, _, _, _, _, H, by omega, ⟨rfl, rfl, rfl, rfl, trivial⟩, h57, h58, h59, h56, ap25, ap34, ap15, ap36, ap27.symm, ap35.symm⟩
end Go.Proofs.Ytpjmiaooogephaa.PA
