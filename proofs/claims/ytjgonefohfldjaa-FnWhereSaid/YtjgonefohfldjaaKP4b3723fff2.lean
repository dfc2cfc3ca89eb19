/- Walks of Go functions: each is shown to answer as the Lean function beside it tells, under the conditions that its theorem names. -/
import Derived.Test.YtjgonefohfldjaaProg
import Derived.KernelRfl
import Derived.Below
import Derived.Deep.Draws
import Derived.Deep.AppendLies
import Derived.Maps.AppendAt
import Derived.OwnWalk
import Derived.Laws.BytesArg
import Derived.Laws.MakeOwn
import Derived.Laws.OwnMore
import Derived.Deep.OwnRows
import Derived.Tactics
import Derived.Lib.ConvBytes
import Derived.Laws.Slices
import Derived.WalkKit
import Derived.RowKit3
import Derived.Deep.LoopGhost
import Derived.Deep.QuietTactic
import Derived.BigQuiet
import Derived.WideLaws
import Derived.Deep.DeepCutAuto
import Derived.Deep.CutBlock
import Derived.Deep.RegionHeld3
import Derived.Laws.Rows
import Derived.Lib.AppendStr
import Derived.ArgAppend
import Derived.Laws.IdiomCopy
import Derived.OrdersHeld
import Derived.Laws.BitsLemmas
import Derived.RowKit
import Derived.Laws.StructEq
import Derived.Lib.SliceRun
import Derived.WalkSpells
import Derived.ChangeArms
import Derived.ChangeSlices
import Derived.Deep.Slices
import Derived.Attr
import Derived.Laws.Append
import Derived.Laws.AppendOwn
import Derived.Laws.Entries
import Derived.Calls
import Derived.Laws.Sem
import Derived.Test.YtjgonefohfldjaaKPf05bac17e7
namespace Go.Proofs.Ytjgonefohfldjaa.PA
open Go Go.Abs Go.RowKit Go.Proofs Go.Proofs.YtjgonefohfldjaaW.PrintWords Go.Proofs.YtjgonefohfldjaaW.PrintLast Go.Proofs.YtjgonefohfldjaaW.PrintMore
set_option maxRecDepth 100000
set_option maxHeartbeats 4000000
set_option linter.unusedVariables false
set_option linter.unusedSimpArgs false
theorem spec_l2Rules.evv {k : Nat} {S0 : Sto} {l0_0 : List Int} {a0_1 : Int} {i0 : Abs.Id} {q0 : PV} (hq0 : Sl (cInt .u8) l0_0 q0) (hb0 : Box (.ptr i0 0) [q0, .lit (.int .i64 a0_1)] S0) {l1 : List IVar} {v1 : PV} (hv1 : Vec cIVar l1 v1 S0) (pa1 : Ap v1 (.ptr i0 0)) {a2 : Int} {r : Int × (List IRule)} (H : spec_l2Rules.f k l0_0 a0_1 l1 a2 = some r) : RetS Try.prog 122 [.ptr i0 0, v1, .lit (.int .i64 a2)] S0 fun v S => ∃ idsv, (oRow odIRule).R S idsv r.2 [v] ∧ Fresh S0 idsv ∧ Box (.ptr i0 0) [q0, .lit (.int .i64 r.1)] S ∧ Same S0 S [i0] := by
 have hs0 : Same S0 S0 [i0] := .refl _ _
 unfold spec_l2Rules.f at H
 refine RetS.intro Try.func122 rfl (Nat.le_of_ble_eq_true rfl) rfl ?_
 rw [tm3]
 refine Evr.seq (Evr.regionN rfl (Opl.one rfl rfl (by simp only [go_sem] <;> rfl) (Opl.nil (Evr.seq (Evr.regionN rfl (Opl.litt (N := odIRule) (ys := ([] : List IRule)) (idy := []) [] K24 T72 rfl rfl rfl (fun x hx => by cases hx) ⟨rfl, rfl⟩ rfl rfl (Nat.le_of_ble_eq_true rfl) rfl rfl rfl ?_))))))
 rintro pv2 S ids1 h1 f1 u1 w1
 have ap1 := w1.sameP hs0
 have ap2 := f1.sameP OutT.nil hs0
 have h2 := u1.sameP hs0 ap1
 have ap3 := w1.box hb0
 have ap4 := f1.box ApT.nil hb0
 have h3 := u1.box hb0 ap3
 have ap5 := w1.vec hv1
 have ap6 := f1.vec ApT.nil hv1
 have h4 := u1.vec hv1 ap5
 refine Opl.one rfl rfl (by simp only [go_sem] <;> rfl) (Opl.nil (Evr.seq (Evr.seq (Evr.regionN rfl (Opl.one rfl rfl (by simp only [go_sem] <;> rfl) (Opl.nil (Evr.block ?_)))))))
 refine Evr.loop (Evr.rounds (n := k) (Inv := fun n tm S => n ≤ k ∧ ∃ (x0b1q2_1 : Int) (x7_1 : List IRule) (x8_1 : Int) (pv3 : PV) (pv4 : PV) (ids2 : List Abs.Id), spec_l2Rules.l1 n x0b1q2_1 x7_1 x8_1 l0_0 l1 a2 = some r ∧ Has tm [(0, .ptr i0 0), (1, pv3), (2, .lit (.int .i64 a2)), (7, pv4), (8, .lit (.int .i64 x8_1))] ∧ Box (.ptr i0 0) [q0, .lit (.int .i64 x0b1q2_1)] S ∧ Vec cIVar l1 pv3 S ∧ (oRow odIRule).R S ids2 x7_1 [pv4] ∧ Same S0 S [i0] ∧ OutT S0 [i0] ids2 ∧ Ap (.ptr i0 0) pv3 ∧ ApT (.ptr i0 0) ids2 ∧ ApT pv3 ids2) ?_ ?_ ?_)
 · exact ⟨Nat.le_refl _, _, _, _, _, _, _, H, ⟨rfl, rfl, rfl, rfl, rfl, trivial⟩, h3, h4, h1, h2, ap2, pa1.symm, ap4, ap6⟩
 ·
  rintro tm S ⟨_, _, _, _, _, _, _, H, -⟩
  simp [spec_l2Rules.l1] at H
 ·
  rintro n1 ih1 tm S ⟨hle, x0b1q2_1, x7_1, x8_1, pv3, pv4, ids2, H, hh, h5, h6, h7, h8, o1, ap7, ap8, ap9⟩
  simp only [spec_l2Rules.l1] at H
  rw [hh.eq]
  refine Evr.seq (Evr.seq (Evr.regionN rfl (Opl.one rfl rfl (by simp only [go_sem] <;> rfl) (Opl.one rfl rfl (by simp only [go_sem] <;> rfl) (Opl.one rfl rfl (by simp only [go_sem] <;> rfl) (Opl.nil ?_))))))
  by_cases c1 : x8_1 < a2
  case neg =>
   rw [if_neg c1] at H
   have e12 : (decide (x8_1 < a2)) = false := by simpa using c1
   try rw [e12]
   refine Evr.condF rfl (Evr.exit rfl (Evr.seq (Evr.regionN rfl (Opl.one rfl rfl (by simp only [go_sem] <;> rfl) (Opl.one rfl rfl (by simp only [go_sem] <;> rfl) (Opl.nil ?_))))))
   obtain rfl := Option.some.inj H
   refine Evr.ret1 Try.func122 rfl ?_
   exact ⟨_, h7, (OutT.fresh o1 ap8), h5, h8⟩
  rw [if_pos c1] at H
  have e1 : (decide (x8_1 < a2)) = true := by simpa using c1
  try rw [e1]
  refine Evr.condT rfl (Evr.skip (Evr.seq (Evr.block (Evr.seq (Evr.regionN rfl (Opl.one rfl rfl (by simp only [go_sem] <;> rfl) (Opl.one rfl rfl (by simp only [go_sem] <;> rfl) ?_)))))))
  obtain ⟨r1, h_r1, H⟩ := Option.bind_eq_some_iff.1 H
  refine Opl.calls (spec_l2When.evv hq0 h5 h6 ap7.symm h_r1) rfl rfl rfl rfl rfl ?_
  rintro pv5 S ⟨h9, h10, u2⟩
  have h11 := u2.vec h6 (ap7.symm).pt
  have h12 := u2.tree h7 (ap8).pt
  have h13 := u2.sameP h8 OutT.box
  refine Opl.one (v := .agg [pv5, .lit (.slice none 0 0), .lit (.slice none 0 0)]) rfl rfl (by simp only [go_sem]; simp only [fillL, Sl.cells h9]; rfl) (Opl.alloc T72 rfl rfl rfl ?_)
  rintro i1 S h14 u3 w2
  have ap10 := w2.box h10
  have h15 := u3.box h10 ap10
  have ap11 := w2.vec h11
  have h16 := u3.vec h11 ap11
  have ap12 := w2.tree h12
  have h17 := u3.tree h12 ap12
  have ap13 := w2.sameP h13
  have h18 := u3.sameP h13 ap13
  refine Opl.stb (vs := [pv5, .lit (.slice none 0 0), .lit (.slice none 0 0)]) h14 rfl rfl Z72 rfl (Nat.le_of_ble_eq_true rfl) (by simp only [List.all_cons, List.all_nil, h9.one, Bool.and_true, Bool.true_and] <;> rfl) rfl rfl rfl ?_
  rintro S (h19 : Box (.ptr i1 0) [pv5, .lit (.slice none 0 0), .lit (.slice none 0 0)] _) u4
  have h20 := u4.box h15 ap10
  have h21 := u4.vec h16 ap11
  have h22 := u4.tree h17 ap12
  have h23 := u4.sameP h18 ap13
  refine Opl.nil (Evr.seq (Evr.seq (Evr.regionN rfl (Opl.one rfl rfl (by simp only [go_sem] <;> rfl) (Opl.nil (Evr.block ?_))))))
  refine Evr.loop (Evr.rounds (n := n1) (Inv := fun n tm S => n ≤ n1 ∧ ∃ (x0b1q3_1 : Int) (x9b1q2_1 : List Int) (x9b2q2_1 : List (List ITerm)) (x10q2_1 : Int) (pv6 : PV) (pv7 : PV) (ids3 : List Abs.Id) (pv8 : PV) (pv9 : PV) (i2 : Abs.Id), spec_l2Rules.l2 n x0b1q3_1 x9b1q2_1 x9b2q2_1 x10q2_1 l0_0 l1 a2 x7_1 x8_1 r1 = some r ∧ Has tm [(0, .ptr i0 0), (1, pv6), (2, .lit (.int .i64 a2)), (7, pv7), (8, .lit (.int .i64 x8_1)), (9, .ptr i2 0), (10, .lit (.int .i64 x10q2_1))] ∧ Box (.ptr i0 0) [q0, .lit (.int .i64 x0b1q3_1)] S ∧ Vec cIVar l1 pv6 S ∧ (oRow odIRule).R S ids3 x7_1 [pv7] ∧ Vec (cInt .i64) x9b1q2_1 pv8 S ∧ Vec (cSl cITerm) x9b2q2_1 pv9 S ∧ Box (.ptr i2 0) [pv5, pv8, pv9] S ∧ Same S0 S [i0] ∧ OutT S0 [i0] ids3 ∧ OutT S0 [i0] (PV.id? pv8).toList ∧ OutT S0 [i0] (PV.id? pv9).toList ∧ OutT S0 [i0] (PV.ptr i2 0).id?.toList ∧ Ap (.ptr i0 0) pv6 ∧ ApT (.ptr i0 0) ids3 ∧ Ap (.ptr i0 0) pv8 ∧ Ap (.ptr i0 0) pv9 ∧ Ap (.ptr i0 0) (.ptr i2 0) ∧ ApT pv6 ids3 ∧ Ap pv6 pv8 ∧ Ap pv6 pv9 ∧ Ap pv6 (.ptr i2 0) ∧ ApT pv8 ids3 ∧ ApT pv9 ids3 ∧ ApT (.ptr i2 0) ids3 ∧ Ap pv8 pv9 ∧ Ap pv8 (.ptr i2 0) ∧ Ap pv9 (.ptr i2 0)) ?_ ?_ ?_)
  · exact ⟨Nat.le_refl _, _, _, _, _, _, _, _, _, _, _, H, ⟨rfl, rfl, rfl, rfl, rfl, rfl, rfl, trivial⟩, h20, h21, h22, .nil, .nil, h19, h23, o1, OutT.lit, OutT.lit, ap13, ap7, ap8, Ap.nil.symm, Ap.nil.symm, ap10, ap9, Ap.nil.symm, Ap.nil.symm, ap11, ApT.lit, ApT.lit, ap12, .nil, .nil, .nil⟩
  ·
   rintro tm S ⟨_, _, _, _, _, _, _, _, _, _, _, H, -⟩
   simp [spec_l2Rules.l2] at H
  ·
   rintro n2 ih2 tm S ⟨hle, x0b1q3_1, x9b1q2_1, x9b2q2_1, x10q2_1, pv6, pv7, ids3, pv8, pv9, i2, H, hh, h24, h25, h26, h28, h29, h27, h30, o2, o3, o4, o5, ap14, ap15, ap16, ap17, ap18, ap19, ap20, ap21, ap22, ap23, ap24, ap25, ap26, ap27, ap28⟩
   simp only [spec_l2Rules.l2] at H
   rw [hh.eq]
   refine Evr.seq (Evr.seq (Evr.regionN rfl (Opl.one rfl rfl (by simp only [go_sem] <;> rfl) (Opl.one rfl rfl (by simp only [go_sem] <;> rfl) (Opl.lenv (xs := l1) (by exact h25) K23 rfl rfl rfl rfl (Opl.one rfl rfl (by simp only [go_sem] <;> rfl) (Opl.nil ?_)))))))
   by_cases c2 : x10q2_1 < (l1.length : Int)
   case neg =>
    rw [if_neg c2] at H
    have e11 : (decide (x10q2_1 < (l1.length : Int))) = false := by simpa using c2
    try rw [e11]
    refine Evr.condF rfl (Evr.exit rfl (Evr.regionN rfl (Opl.one rfl rfl (by simp only [go_sem] <;> rfl) (Opl.ldb (v := .agg [pv5, pv8, pv9]) h27 rfl T72 rfl rfl rfl rfl (Opl.litt (N := odIRule) (ys := [(⟨r1.2, x9b1q2_1, x9b2q2_1⟩ : IRule)]) (idy := ((PV.id? (pv8)).toList ++ (PV.id? (pv9)).toList)) [.tmp 67] K24 T72 rfl rfl rfl (fun x hx => by obtain rfl := List.mem_singleton.1 hx; rfl) (by exact RowsO.one (odIRule_mk h9 h28 h29 ap26)) rfl rfl (Nat.le_of_ble_eq_true rfl) rfl rfl rfl ?_)))))
    rintro pv31 S ids6 h175 f2 u19 w14
    have ap101 := w14.box h24
    have ap102 := f2.box (ap16.apT.app ap17.apT) h24
    have h176 := u19.box h24 ap101
    have ap103 := w14.vec h25
    have ap104 := f2.vec (ap20.apT.app ap21.apT) h25
    have h177 := u19.vec h25 ap103
    have ap105 := w14.tree h26
    have ap106 := f2.tree (ap23.apt.app ap24.apt) h26
    have h178 := u19.tree h26 ap105
    have ap107 := w14.box h27
    have ap108 := f2.box (ap27.symm.apT.app ap28.symm.apT) h27
    have h179 := u19.box h27 ap107
    have ap109 := w14.sameP h30
    have ap110 := f2.sameP (o3.app o4) h30
    have h180 := u19.sameP h30 ap109
    obtain ⟨c11, H⟩ := peel H
    refine Opl.appt (N := odIRule) (xs := x7_1) (ys := [(⟨r1.2, x9b1q2_1, x9b2q2_1⟩ : IRule)]) h178 h175 ap106 rfl rfl K24 T72 rfl rfl (by (try simp only [List.length_cons, List.length_nil]); omega) (by show (_ + _) * 72 ≤ 140737488355328; (try simp only [List.length_cons, List.length_nil]); omega) rfl rfl rfl rfl rfl ?_
    rintro pv32 S ids7 h181 f3 u20 w15
    have ap111 := Ap.of_tree h178 ap15
    have ap112 := f3.box (ap15.app ap102) h176
    have h182 := u20.box h176 ap111
    have ap113 := Ap.of_tree h178 ap19
    have ap114 := f3.vec (ap19.app ap104) h177
    have h183 := u20.vec h177 ap113
    have ap115 := Ap.of_tree h178 ap25
    have ap116 := f3.box (ap25.app ap108) h179
    have h184 := u20.box h179 ap115
    have ap117 := OutT.of_tree h178 o2
    have ap118 := f3.sameP (o2.app ap110) h180
    have h185 := u20.sameP h180 ap117
    refine Opl.one rfl rfl (by simp only [go_sem] <;> rfl) (Opl.nil (Evr.inBlock (Evr.regionN rfl (Opl.one rfl rfl (by simp only [go_sem] <;> rfl) (Opl.add (k := .i64) (a := x8_1) (b := 1) K3 rfl rfl rfl rfl (Opl.one (v := .lit (.int .i64 (wrap64 (x8_1 + 1)))) rfl rfl rfl (Opl.nil ?_)))))))
    exact ih1 _ (by omega) _ _ ⟨by omega, _, _, _, _, _, _, H, ⟨rfl, rfl, rfl, rfl, rfl, trivial⟩, h182, h183, h181, h185, ap118, ap14, ap112, ap114⟩
   rw [if_pos c2] at H
   have e2 : (decide (x10q2_1 < (l1.length : Int))) = true := by simpa using c2
   try rw [e2]
   refine Evr.condT rfl (Evr.skip (Evr.seq (Evr.block (Evr.seq ?_))))
   refine Evr.join2 (fun tm S => ∃ (kq1 : Nat) (x0b1q3_2 : Int) (x9b1q2_2 : List Int) (x9b2q2_2 : List (List ITerm)) (pv10 : PV) (pv11 : PV) (ids4 : List Abs.Id) (pv12 : PV) (pv13 : PV) (i3 : Abs.Id), spec_l2Rules.l2 kq1 x0b1q3_2 x9b1q2_2 x9b2q2_2 (wrap64 (x10q2_1 + 1)) l0_0 l1 a2 x7_1 x8_1 r1 = some r ∧ kq1 ≤ n2 ∧ Has tm [(0, .ptr i0 0), (1, pv10), (2, .lit (.int .i64 a2)), (7, pv11), (8, .lit (.int .i64 x8_1)), (9, .ptr i3 0), (10, .lit (.int .i64 x10q2_1))] ∧ Box (.ptr i0 0) [q0, .lit (.int .i64 x0b1q3_2)] S ∧ Vec cIVar l1 pv10 S ∧ (oRow odIRule).R S ids4 x7_1 [pv11] ∧ Vec (cInt .i64) x9b1q2_2 pv12 S ∧ Vec (cSl cITerm) x9b2q2_2 pv13 S ∧ Box (.ptr i3 0) [pv5, pv12, pv13] S ∧ Same S0 S [i0] ∧ OutT S0 [i0] ids4 ∧ OutT S0 [i0] (PV.id? pv12).toList ∧ OutT S0 [i0] (PV.id? pv13).toList ∧ OutT S0 [i0] (PV.ptr i3 0).id?.toList ∧ Ap (.ptr i0 0) pv10 ∧ ApT (.ptr i0 0) ids4 ∧ Ap (.ptr i0 0) pv12 ∧ Ap (.ptr i0 0) pv13 ∧ Ap (.ptr i0 0) (.ptr i3 0) ∧ ApT pv10 ids4 ∧ Ap pv10 pv12 ∧ Ap pv10 pv13 ∧ Ap pv10 (.ptr i3 0) ∧ ApT pv12 ids4 ∧ ApT pv13 ids4 ∧ ApT (.ptr i3 0) ids4 ∧ Ap pv12 pv13 ∧ Ap pv12 (.ptr i3 0) ∧ Ap pv13 (.ptr i3 0)) ?_ fun hk1 => ?_
   ·
    rintro tm S ⟨kq1, x0b1q3_2, x9b1q2_2, x9b2q2_2, pv10, pv11, ids4, pv12, pv13, i3, H, hle, hh, h31, h32, h33, h35, h36, h34, h37, o6, o7, o8, o9, ap29, ap30, ap31, ap32, ap33, ap34, ap35, ap36, ap37, ap38, ap39, ap40, ap41, ap42, ap43⟩
    rw [hh.eq]
    refine Evr.inBlock (Evr.regionN rfl (Opl.one rfl rfl (by simp only [go_sem] <;> rfl) (Opl.add (k := .i64) (a := x10q2_1) (b := 1) K3 rfl rfl rfl rfl (Opl.one (v := .lit (.int .i64 (wrap64 (x10q2_1 + 1)))) rfl rfl rfl (Opl.nil ?_)))))
    exact ih2 _ (by omega) _ _ ⟨by omega, _, _, _, _, _, _, _, _, _, _, H, ⟨rfl, rfl, rfl, rfl, rfl, rfl, rfl, trivial⟩, h31, h32, h33, h35, h36, h34, h37, o6, o7, o8, o9, ap29, ap30, ap31, ap32, ap33, ap34, ap35, ap36, ap37, ap38, ap39, ap40, ap41, ap42, ap43⟩
   ·
    refine Evr.regionN rfl (Opl.one rfl rfl (by simp only [go_sem] <;> rfl) (Opl.one rfl rfl (by simp only [go_sem] <;> rfl) (Opl.lenv (xs := l1) (by exact h25) K23 rfl rfl rfl rfl (Opl.add (k := .i64) (a := (l1.length : Int)) (b := 1) K3 rfl rfl rfl rfl ?_))))
    obtain ⟨r2, h_r2, H⟩ := Option.bind_eq_some_iff.1 H
    refine Opl.calls (spec_l40Rd_pick.evb hq0 h24 h_r2) rfl rfl rfl rfl rfl ?_
    rintro _ S ⟨rfl, h38, u5⟩
    have h39 := u5.vec h25 (ap14.symm).pt
    have h40 := u5.tree h26 (ap15).pt
    have h41 := u5.vec h28 (ap16.symm).pt
    have h42 := u5.vec h29 (ap17.symm).pt
    have h43 := u5.box h27 (ap18.symm).pt
    have h44 := u5.sameP h30 OutT.box
    refine Opl.one rfl rfl (by simp only [go_sem] <;> rfl) (Opl.one (v := .lit (.bool (decide (r2.2 < 1)))) rfl rfl rfl ?_)
    by_cases c3 : r2.2 < 1
    case pos =>
     rw [if_pos c3] at H
     have e3 : (decide (r2.2 < 1)) = true := by simpa using c3
     try rw [e3]
     refine Opl.skp rfl (Opl.skp rfl (Opl.skp rfl (Opl.skp rfl (Opl.skp rfl (Opl.skp rfl (Opl.skp rfl (Opl.skp rfl (Opl.skp rfl (Opl.skp rfl (Opl.skp rfl (Opl.skp rfl (Opl.skp rfl (Opl.skp rfl (Opl.skp rfl (Opl.skp rfl (Opl.one rfl rfl (by simp only [go_sem] <;> rfl) (Opl.nil (Evr.condT rfl (Evr.seq (Evr.regionN rfl (Opl.one (v := .ptr i2 1) rfl rfl (by simp only [go_sem]; rfl) (Opl.ldb (v := pv8) h43 rfl T29 rfl rfl rfl rfl (Opl.one (v := .lit (.int .i64 x10q2_1)) rfl rfl rfl (Opl.lits (M := (cInt .i64)) (ys := [x10q2_1]) [.tmp 53] K29 T3 rfl rfl rfl (by exact ⟨rfl, trivial⟩) rfl (by decide) rfl rfl rfl ?_))))))))))))))))))))))))
     rintro pv14 S h45 u6 w4
     have ap44 := w4.box h38
     have h46 := u6.box h38 ap44
     have ap45 := w4.vec h39
     have h47 := u6.vec h39 ap45
     have ap46 := w4.tree h40
     have h48 := u6.tree h40 ap46
     have ap47 := w4.vec h41
     have h49 := u6.vec h41 ap47
     have ap48 := w4.vec h42
     have h50 := u6.vec h42 ap48
     have ap49 := w4.box h43
     have h51 := u6.box h43 ap49
     have ap50 := w4.sameP h44
     have h52 := u6.sameP h44 ap50
     obtain ⟨c4, H⟩ := peel H
     refine Opl.app (M := (cInt .i64)) (xs := x9b1q2_1) (ys := [x10q2_1]) (v := pv8) h49 (.vec h45) (oInt .i64) rfl rfl K29 T3 rfl rfl (by (try simp only [List.length_cons, List.length_nil]); omega) (by show (_ + _) * 8 ≤ 140737488355328; (try simp only [List.length_cons, List.length_nil]); omega) rfl rfl rfl rfl rfl ?_
     rintro pv15 S h53 u7 w5
     have ap51 := w5.box h46
     have h54 := u7.box h46 ap16
     have ap52 := w5.vec h47
     have h55 := u7.vec h47 ap20
     have ap53 := w5.tree h48
     have h56 := u7.tree h48 ap23
     have ap54 := w5.vec h50
     have h57 := u7.vec h50 ap26.symm
     have ap55 := w5.box h51
     have h58 := u7.box h51 ap27.symm
     have ap56 := w5.sameP h52
     have h59 := u7.sameP h52 o3
     have ap57 := w5.vec h45
     have h60 := u7.vec h45 ap47.symm
     refine Opl.one (v := .ptr i2 1) rfl rfl (by simp only [go_sem]; rfl) (Opl.stb (vs := [pv15]) h58 rfl (by exact Vec.cells h53) Z29 rfl (Nat.le_of_ble_eq_true rfl) (by simp only [List.all_cons, List.all_nil, Vec.one h53, Bool.and_true, Bool.true_and] <;> rfl) rfl rfl rfl ?_)
     rintro S (h61 : Box (.ptr i2 0) [pv5, pv15, pv9] _) u8
     have h62 := u8.box h54 ap18
     have h63 := u8.vec h55 ap22
     have h64 := u8.tree h56 ap25
     have h65 := u8.vec h57 ap28
     have h66 := u8.sameP h59 o5
     have h67 := u8.vec h60 ap49.symm
     have h68 := u8.vec h53 ap55.symm
     refine Opl.nil (Evr.regionL [(5, .m), (1, .q), (6, .m)] rfl (by kernel_rfl) (Opl.one (v := .ptr i2 2) rfl rfl (by simp only [go_sem]; rfl) (Opl.ldbk (v := pv9) h61 rd3 rfl T70 rfl rfl rfl rfl (Opl.one (v := .ptr i0 0) rfl rfl rfl (Opl.one (v := pv6) rfl rfl rfl (Opl.one (v := .lit (.int .i64 x10q2_1)) rfl rfl rfl ?_))))))
     obtain ⟨r3, h_r3, H⟩ := Option.bind_eq_some_iff.1 H
     refine Opl.callbm h62 (spec_l2Value.evv hq0 h62 h63 ap14.symm h_r3) rfl rfl rfl rfl rfl ?_
     rintro pv16 S h69 h70 u9
     have h71 := u9.vec h63 (ap14.symm).pt
     have h72 := u9.tree h64 (ap15).pt
     have h73 := u9.vec h65 (ap17.symm).pt
     have h74 := u9.box h61 (ap18.symm).pt
     have h75 := u9.sameP h66 OutT.box
     have h76 := u9.vec h67 (ap44.symm).pt
     have h77 := u9.vec h68 (ap51.symm).pt
     refine Opl.litm (M := (cSl cITerm)) (ys := [r3.2]) [.tmp 62] K70 T44 rfl rfl rfl (by exact ⟨⟨_, by first | rfl | exact h69.cells, h69⟩, trivial⟩) rfl (by decide) rfl rfl rfl ?_
     rintro pv18 S h78 g1
     have h79 := g1.box h70
     have h80 := g1.vec h71
     have h81 := g1.tree h72
     have h82 := g1.vec h73
     have h83 := g1.box h74
     have h84 := g1.sameP h75
     have h85 := g1.vec h76
     have h86 := g1.vec h77
     obtain ⟨c5, H⟩ := peel H
     refine Opl.app (M := (cSl cITerm)) (xs := x9b2q2_1) (ys := [r3.2]) (v := pv9) h82 (.sl h78) (oSl cITerm) rfl rfl K70 T44 rfl rfl (by (try simp only [List.length_cons, List.length_nil]); omega) (by show (_ + _) * 24 ≤ 140737488355328; (try simp only [List.length_cons, List.length_nil]); omega) rfl rfl rfl rfl rfl ?_
     rintro pv19 S h87 u10 w7
     have ap58 := w7.box h79
     have h88 := u10.box h79 ap17
     have ap59 := w7.vec h80
     have h89 := u10.vec h80 ap21
     have ap60 := w7.tree h81
     have h90 := u10.tree h81 ap24
     have ap61 := w7.box h83
     have h91 := u10.box h83 ap28.symm
     have ap62 := w7.sameP h84
     have h92 := u10.sameP h84 o4
     have ap63 := w7.vec h85
     have h93 := u10.vec h85 ap48.symm
     have ap64 := w7.vec h86
     have h94 := u10.vec h86 ap54.symm
     refine Opl.one (v := .ptr i2 2) rfl rfl (by simp only [go_sem]; rfl) (Opl.stb (vs := [pv19]) h91 rfl (by exact Vec.cells h87) Z70 rfl (Nat.le_of_ble_eq_true rfl) (by simp only [List.all_cons, List.all_nil, Vec.one h87, Bool.and_true, Bool.true_and] <;> rfl) rfl rfl rfl ?_)
     rintro S (h95 : Box (.ptr i2 0) [pv5, pv15, pv19] _) u11
     have h96 := u11.box h88 ap18
     have h97 := u11.vec h89 ap22
     have h98 := u11.tree h90 ap25
     have h99 := u11.sameP h92 o5
     have h100 := u11.vec h93 ap49.symm
     have h101 := u11.vec h94 ap55.symm
     have h102 := u11.vec h87 ap61.symm
     refine Opl.nil ?_
     exact hk1 _ _ ⟨_, _, _, _, _, _, _, _, _, _, H, by omega, ⟨rfl, rfl, rfl, rfl, rfl, rfl, rfl, trivial⟩, h96, h97, h98, h101, h102, h95, h99, o2, ap56, ap62, o5, ap14, ap15, ap51, ap58, ap18, ap19, ap52, ap59, ap22, ap53, ap60, ap25, ap64, ap55.symm, ap61.symm⟩
    rw [if_neg c3] at H
    have e4 : (decide (r2.2 < 1)) = false := by simpa using c3
    try rw [e4]
    refine Opl.one (v := .lit (.int .i64 x10q2_1)) rfl rfl rfl (Opl.one (v := pv6) rfl rfl rfl (Opl.lenv (xs := l1) (by exact h39) K23 rfl rfl rfl rfl (Opl.subi (k := .i64) (a := (l1.length : Int)) (b := 1) K3 rfl rfl rfl rfl (Opl.eql (a := x10q2_1) (b := (wrap64 ((l1.length : Int) - 1))) K3 rfl rfl rfl rfl (Opl.one (v := .lit (.bool (x10q2_1 == (wrap64 ((l1.length : Int) - 1))))) rfl rfl rfl ?_)))))
    by_cases c6 : x10q2_1 = (wrap64 ((l1.length : Int) - 1))
    case neg =>
     rw [if_neg c6] at H
     have e10 : (x10q2_1 == (wrap64 ((l1.length : Int) - 1))) = false := by simpa using c6
     try rw [e10]
     refine Opl.skp rfl (Opl.skp rfl (Opl.skp rfl (Opl.skp rfl (Opl.one rfl rfl (by simp only [go_sem] <;> rfl) (Opl.one (v := .lit (.bool false)) rfl rfl rfl (Opl.skp rfl (Opl.skp rfl (Opl.skp rfl (Opl.one rfl rfl (by simp only [go_sem] <;> rfl) (Opl.one rfl rfl (by simp only [go_sem] <;> rfl) (Opl.nil (Evr.condF rfl (Evr.skip ?_)))))))))))))
     exact hk1 _ _ ⟨_, _, _, _, _, _, _, _, _, _, H, by omega, ⟨rfl, rfl, rfl, rfl, rfl, rfl, rfl, trivial⟩, h38, h39, h40, h41, h42, h43, h44, o2, o3, o4, o5, ap14, ap15, ap16, ap17, ap18, ap19, ap20, ap21, ap22, ap23, ap24, ap25, ap26, ap27, ap28⟩
    rw [if_pos c6] at H
    have e5 : (x10q2_1 == (wrap64 ((l1.length : Int) - 1))) = true := by simpa using c6
    try rw [e5]
    refine Opl.one (v := .ptr i2 1) rfl rfl (by simp only [go_sem]; rfl) (Opl.ldb (v := pv8) h43 rfl T29 rfl rfl rfl rfl (Opl.lenv (xs := x9b1q2_1) (by exact h41) K29 rfl rfl rfl rfl (Opl.one rfl rfl (by simp only [go_sem] <;> rfl) (Opl.one rfl rfl (by simp only [go_sem] <;> rfl) (Opl.one (v := .lit (.bool ((x9b1q2_1.length : Int) == 0))) rfl rfl rfl ?_)))))
    by_cases c7 : (x9b1q2_1.length : Int) = 0
    case neg =>
     rw [if_neg c7] at H
     have e9 : ((x9b1q2_1.length : Int) == 0) = false := by simpa using c7
     try rw [e9]
     refine Opl.skp rfl (Opl.skp rfl (Opl.skp rfl (Opl.one rfl rfl (by simp only [go_sem] <;> rfl) (Opl.one rfl rfl (by simp only [go_sem] <;> rfl) (Opl.nil (Evr.condF rfl (Evr.skip ?_)))))))
     exact hk1 _ _ ⟨_, _, _, _, _, _, _, _, _, _, H, by omega, ⟨rfl, rfl, rfl, rfl, rfl, rfl, rfl, trivial⟩, h38, h39, h40, h41, h42, h43, h44, o2, o3, o4, o5, ap14, ap15, ap16, ap17, ap18, ap19, ap20, ap21, ap22, ap23, ap24, ap25, ap26, ap27, ap28⟩
    rw [if_pos c7] at H
    have e6 : ((x9b1q2_1.length : Int) == 0) = true := by simpa using c7
    try rw [e6]
    refine Opl.one (v := .ptr i0 0) rfl rfl rfl ?_
    obtain ⟨r4, h_r4, H⟩ := Option.bind_eq_some_iff.1 H
    refine Opl.calls (spec_l40Rd_pick.evb hq0 h38 h_r4) rfl rfl rfl rfl rfl ?_
    rintro _ S ⟨rfl, h103, u12⟩
    have h104 := u12.vec h39 (ap14.symm).pt
    have h105 := u12.tree h40 (ap15).pt
    have h106 := u12.vec h41 (ap16.symm).pt
    have h107 := u12.vec h42 (ap17.symm).pt
    have h108 := u12.box h43 (ap18.symm).pt
    have h109 := u12.sameP h44 OutT.box
    refine Opl.one rfl rfl (by simp only [go_sem] <;> rfl) (Opl.one rfl rfl (by simp only [go_sem] <;> rfl) (Opl.one rfl rfl (by simp only [go_sem] <;> rfl) (Opl.nil ?_)))
    refine Evr.join (fun tm S => ∃ (kq2 : Nat) (x0b1q3_3 : Int) (x9b1q2_3 : List Int) (x9b2q2_3 : List (List ITerm)) (pv20 : PV) (pv21 : PV) (ids5 : List Abs.Id) (pv22 : PV) (pv23 : PV) (i4 : Abs.Id), spec_l2Rules.l2 kq2 x0b1q3_3 x9b1q2_3 x9b2q2_3 (wrap64 (x10q2_1 + 1)) l0_0 l1 a2 x7_1 x8_1 r1 = some r ∧ kq2 ≤ n2 ∧ Has tm [(0, .ptr i0 0), (1, pv20), (2, .lit (.int .i64 a2)), (7, pv21), (8, .lit (.int .i64 x8_1)), (9, .ptr i4 0), (10, .lit (.int .i64 x10q2_1))] ∧ Box (.ptr i0 0) [q0, .lit (.int .i64 x0b1q3_3)] S ∧ Vec cIVar l1 pv20 S ∧ (oRow odIRule).R S ids5 x7_1 [pv21] ∧ Vec (cInt .i64) x9b1q2_3 pv22 S ∧ Vec (cSl cITerm) x9b2q2_3 pv23 S ∧ Box (.ptr i4 0) [pv5, pv22, pv23] S ∧ Same S0 S [i0] ∧ OutT S0 [i0] ids5 ∧ OutT S0 [i0] (PV.id? pv22).toList ∧ OutT S0 [i0] (PV.id? pv23).toList ∧ OutT S0 [i0] (PV.ptr i4 0).id?.toList ∧ Ap (.ptr i0 0) pv20 ∧ ApT (.ptr i0 0) ids5 ∧ Ap (.ptr i0 0) pv22 ∧ Ap (.ptr i0 0) pv23 ∧ Ap (.ptr i0 0) (.ptr i4 0) ∧ ApT pv20 ids5 ∧ Ap pv20 pv22 ∧ Ap pv20 pv23 ∧ Ap pv20 (.ptr i4 0) ∧ ApT pv22 ids5 ∧ ApT pv23 ids5 ∧ ApT (.ptr i4 0) ids5 ∧ Ap pv22 pv23 ∧ Ap pv22 (.ptr i4 0) ∧ Ap pv23 (.ptr i4 0)) ?_ fun hk2 => ?_
    ·
     rintro tm S ⟨kq2, x0b1q3_3, x9b1q2_3, x9b2q2_3, pv20, pv21, ids5, pv22, pv23, i4, H, hle, hh, h110, h111, h112, h114, h115, h113, h116, o10, o11, o12, o13, ap65, ap66, ap67, ap68, ap69, ap70, ap71, ap72, ap73, ap74, ap75, ap76, ap77, ap78, ap79⟩
     rw [hh.eq]
     exact hk1 _ _ ⟨_, _, _, _, _, _, _, _, _, _, H, by omega, ⟨rfl, rfl, rfl, rfl, rfl, rfl, rfl, trivial⟩, h110, h111, h112, h114, h115, h113, h116, o10, o11, o12, o13, ap65, ap66, ap67, ap68, ap69, ap70, ap71, ap72, ap73, ap74, ap75, ap76, ap77, ap78, ap79⟩
    ·
     by_cases c8 : r4.2 > 0
     case neg =>
      rw [if_neg c8] at H
      have e8 : (decide (r4.2 > 0)) = false := by simpa using c8
      try rw [e8]
      refine Evr.condF rfl (Evr.skip ?_)
      exact hk2 _ _ ⟨_, _, _, _, _, _, _, _, _, _, H, by omega, ⟨rfl, rfl, rfl, rfl, rfl, rfl, rfl, trivial⟩, h103, h104, h105, h106, h107, h108, h109, o2, o3, o4, o5, ap14, ap15, ap16, ap17, ap18, ap19, ap20, ap21, ap22, ap23, ap24, ap25, ap26, ap27, ap28⟩
     rw [if_pos c8] at H
     have e7 : (decide (r4.2 > 0)) = true := by simpa using c8
     try rw [e7]
     refine Evr.condT rfl (Evr.seq (Evr.regionN rfl (Opl.one (v := .ptr i2 1) rfl rfl (by simp only [go_sem]; rfl) (Opl.ldb (v := pv8) h108 rfl T29 rfl rfl rfl rfl (Opl.one (v := .lit (.int .i64 x10q2_1)) rfl rfl rfl (Opl.lits (M := (cInt .i64)) (ys := [x10q2_1]) [.tmp 53] K29 T3 rfl rfl rfl (by exact ⟨rfl, trivial⟩) rfl (by decide) rfl rfl rfl ?_))))))
     rintro pv24 S h117 u13 w9
     have ap80 := w9.box h103
     have h118 := u13.box h103 ap80
     have ap81 := w9.vec h104
     have h119 := u13.vec h104 ap81
     have ap82 := w9.tree h105
     have h120 := u13.tree h105 ap82
     have ap83 := w9.vec h106
     have h121 := u13.vec h106 ap83
     have ap84 := w9.vec h107
     have h122 := u13.vec h107 ap84
     have ap85 := w9.box h108
     have h123 := u13.box h108 ap85
     have ap86 := w9.sameP h109
     have h124 := u13.sameP h109 ap86
     obtain ⟨c9, H⟩ := peel H
     refine Opl.app (M := (cInt .i64)) (xs := x9b1q2_1) (ys := [x10q2_1]) (v := pv8) h121 (.vec h117) (oInt .i64) rfl rfl K29 T3 rfl rfl (by (try simp only [List.length_cons, List.length_nil]); omega) (by show (_ + _) * 8 ≤ 140737488355328; (try simp only [List.length_cons, List.length_nil]); omega) rfl rfl rfl rfl rfl ?_
     rintro pv25 S h125 u14 w10
     have ap87 := w10.box h118
     have h126 := u14.box h118 ap16
     have ap88 := w10.vec h119
     have h127 := u14.vec h119 ap20
     have ap89 := w10.tree h120
     have h128 := u14.tree h120 ap23
     have ap90 := w10.vec h122
     have h129 := u14.vec h122 ap26.symm
     have ap91 := w10.box h123
     have h130 := u14.box h123 ap27.symm
     have ap92 := w10.sameP h124
     have h131 := u14.sameP h124 o3
     have ap93 := w10.vec h117
     have h132 := u14.vec h117 ap83.symm
     refine Opl.one (v := .ptr i2 1) rfl rfl (by simp only [go_sem]; rfl) (Opl.stb (vs := [pv25]) h130 rfl (by exact Vec.cells h125) Z29 rfl (Nat.le_of_ble_eq_true rfl) (by simp only [List.all_cons, List.all_nil, Vec.one h125, Bool.and_true, Bool.true_and] <;> rfl) rfl rfl rfl ?_)
     rintro S (h133 : Box (.ptr i2 0) [pv5, pv25, pv9] _) u15
     have h134 := u15.box h126 ap18
     have h135 := u15.vec h127 ap22
     have h136 := u15.tree h128 ap25
     have h137 := u15.vec h129 ap28
     have h138 := u15.sameP h131 o5
     have h139 := u15.vec h132 ap85.symm
     have h140 := u15.vec h125 ap91.symm
     refine Opl.nil (Evr.regionL [(5, .m), (1, .q), (6, .m)] rfl (by kernel_rfl) (Opl.one (v := .ptr i2 2) rfl rfl (by simp only [go_sem]; rfl) (Opl.ldbk (v := pv9) h133 rd3 rfl T70 rfl rfl rfl rfl (Opl.one (v := .ptr i0 0) rfl rfl rfl (Opl.one (v := pv6) rfl rfl rfl (Opl.one (v := .lit (.int .i64 x10q2_1)) rfl rfl rfl ?_))))))
     obtain ⟨r5, h_r5, H⟩ := Option.bind_eq_some_iff.1 H
     refine Opl.callbm h134 (spec_l2Value.evv hq0 h134 h135 ap14.symm h_r5) rfl rfl rfl rfl rfl ?_
     rintro pv26 S h141 h142 u16
     have h143 := u16.vec h135 (ap14.symm).pt
     have h144 := u16.tree h136 (ap15).pt
     have h145 := u16.vec h137 (ap17.symm).pt
     have h146 := u16.box h133 (ap18.symm).pt
     have h147 := u16.sameP h138 OutT.box
     have h148 := u16.vec h139 (ap80.symm).pt
     have h149 := u16.vec h140 (ap87.symm).pt
     refine Opl.litm (M := (cSl cITerm)) (ys := [r5.2]) [.tmp 62] K70 T44 rfl rfl rfl (by exact ⟨⟨_, by first | rfl | exact h141.cells, h141⟩, trivial⟩) rfl (by decide) rfl rfl rfl ?_
     rintro pv28 S h150 g2
     have h151 := g2.box h142
     have h152 := g2.vec h143
     have h153 := g2.tree h144
     have h154 := g2.vec h145
     have h155 := g2.box h146
     have h156 := g2.sameP h147
     have h157 := g2.vec h148
     have h158 := g2.vec h149
     obtain ⟨c10, H⟩ := peel H
     refine Opl.app (M := (cSl cITerm)) (xs := x9b2q2_1) (ys := [r5.2]) (v := pv9) h154 (.sl h150) (oSl cITerm) rfl rfl K70 T44 rfl rfl (by (try simp only [List.length_cons, List.length_nil]); omega) (by show (_ + _) * 24 ≤ 140737488355328; (try simp only [List.length_cons, List.length_nil]); omega) rfl rfl rfl rfl rfl ?_
     rintro pv29 S h159 u17 w12
     have ap94 := w12.box h151
     have h160 := u17.box h151 ap17
     have ap95 := w12.vec h152
     have h161 := u17.vec h152 ap21
     have ap96 := w12.tree h153
     have h162 := u17.tree h153 ap24
     have ap97 := w12.box h155
     have h163 := u17.box h155 ap28.symm
     have ap98 := w12.sameP h156
     have h164 := u17.sameP h156 o4
     have ap99 := w12.vec h157
     have h165 := u17.vec h157 ap84.symm
     have ap100 := w12.vec h158
     have h166 := u17.vec h158 ap90.symm
     refine Opl.one (v := .ptr i2 2) rfl rfl (by simp only [go_sem]; rfl) (Opl.stb (vs := [pv29]) h163 rfl (by exact Vec.cells h159) Z70 rfl (Nat.le_of_ble_eq_true rfl) (by simp only [List.all_cons, List.all_nil, Vec.one h159, Bool.and_true, Bool.true_and] <;> rfl) rfl rfl rfl ?_)
     rintro S (h167 : Box (.ptr i2 0) [pv5, pv25, pv29] _) u18
     have h168 := u18.box h160 ap18
     have h169 := u18.vec h161 ap22
     have h170 := u18.tree h162 ap25
     have h171 := u18.sameP h164 o5
     have h172 := u18.vec h165 ap85.symm
     have h173 := u18.vec h166 ap91.symm
     have h174 := u18.vec h159 ap97.symm
     refine Opl.nil ?_
     exact hk2 _ _ ⟨_, _, _, _, _, _, _, _, _, _, H, by omega, ⟨rfl, rfl, rfl, rfl, rfl, rfl, rfl, trivial⟩, h168, h169, h170, h173, h174, h167, h171, o2, ap92, ap98, o5, ap14, ap15, ap87, ap94, ap18, ap19, ap88, ap95, ap22, ap89, ap96, ap25, ap100, ap91.symm, ap97.symm⟩
theorem spec_l2System.evb {k : Nat} {S0 : Sto} {l0_0 : List Int} {a0_1 : Int} {i0 : Abs.Id} {q0 : PV} (hq0 : Sl (cInt .u8) l0_0 q0) (hb0 : Box (.ptr i0 0) [q0, .lit (.int .i64 a0_1)] S0) {a1 : Int} {r : Int × (List IVar × List IRule)} (H : spec_l2System.f k l0_0 a0_1 a1 = some r) : RetS Try.prog 80 [.ptr i0 0, .lit (.int .i64 a1)] S0 fun v S => ∃ v_0 v_1 idsv_1, v = .agg [v_0, v_1] ∧ Vec cIVar r.2.1 v_0 S ∧ New S0 v_0 ∧ (oRow odIRule).R S idsv_1 r.2.2 [v_1] ∧ Fresh S0 idsv_1 ∧ ApT v_0 idsv_1 ∧ Box (.ptr i0 0) [q0, .lit (.int .i64 r.1)] S ∧ Same S0 S [i0] := by
 have hs0 : Same S0 S0 [i0] := .refl _ _
 unfold spec_l2System.f at H
 refine RetS.intro Try.func80 rfl (Nat.le_of_ble_eq_true rfl) rfl ?_
 rw [tm2]
 refine Evr.seq (Evr.regionN rfl (Opl.alloc T26 rfl rfl rfl ?_))
 rintro i1 S h1 u1 w1
 have ap1 := w1.sameP hs0
 have h2 := u1.sameP hs0 ap1
 have ap2 := w1.box hb0
 have h3 := u1.box hb0 ap2
 refine Opl.nil (Evr.seq (Evr.regionN rfl (Opl.one (v := .agg [.lit (.slice none 0 0), .lit (.slice none 0 0)]) rfl rfl (by simp only [go_sem]; rfl) (Opl.alloc T26 rfl rfl rfl ?_))))
 rintro i2 S h4 u2 w2
 have ap3 := w2.sameP h2
 have h5 := u2.sameP h2 ap3
 have ap4 := w2.box h3
 have h6 := u2.box h3 ap4
 have ap5 := w2.box h1
 have h7 := u2.box h1 ap5
 refine Opl.stb (vs := [.lit (.slice none 0 0), .lit (.slice none 0 0)]) h4 rfl rfl Z26 rfl (Nat.le_of_ble_eq_true rfl) rfl rfl rfl rfl ?_
 rintro S (h8 : Box (.ptr i2 0) [.lit (.slice none 0 0), .lit (.slice none 0 0)] _) u3
 have h9 := u3.sameP h5 ap3
 have h10 := u3.box h6 ap4
 have h11 := u3.box h7 ap5
 refine Opl.nil (Evr.seq (Evr.regionN rfl (Opl.one rfl rfl (by simp only [go_sem] <;> rfl) (Opl.nil (Evr.seq (Evr.seq (Evr.regionN rfl (Opl.one rfl rfl (by simp only [go_sem] <;> rfl) ?_))))))))
 obtain ⟨r1, h_r1, H⟩ := Option.bind_eq_some_iff.1 H
 refine Opl.calls (spec_l40Rd_pick.evb hq0 h10 h_r1) rfl rfl rfl rfl rfl ?_
 rintro _ S ⟨rfl, h12, u4⟩
 have h13 := u4.sameP h9 OutT.box
 have h14 := u4.box h11 (ap2.symm).pt
 have h15 := u4.box h8 (ap4.symm).pt
 refine Opl.add (k := .i64) (a := 1) (b := r1.2) K3 rfl rfl rfl rfl (Opl.one (v := .lit (.int .i64 (wrap64 (1 + r1.2)))) rfl rfl rfl (Opl.nil (Evr.block ?_)))
 refine Evr.loop (Evr.rounds (n := k) (Inv := fun n tm S => n ≤ k ∧ ∃ (x0b1_1 : Int) (x5b0q3_1 : List IVar) (x6_1 : Int) (x7_1 : Int) (i3 : Abs.Id) (pv1 : PV) (i4 : Abs.Id), spec_l2System.l1 n x0b1_1 x5b0q3_1 x6_1 x7_1 l0_0 a1 = some r ∧ Has tm [(0, .ptr i0 0), (1, .lit (.int .i64 a1)), (4, .ptr i3 0), (5, .ptr i4 0), (6, .lit (.int .i64 x6_1)), (7, .lit (.int .i64 x7_1))] ∧ Box (.ptr i0 0) [q0, .lit (.int .i64 x0b1_1)] S ∧ Box (.ptr i3 0) [.lit (.slice none 0 0), .lit (.slice none 0 0)] S ∧ Vec cIVar x5b0q3_1 pv1 S ∧ Box (.ptr i4 0) [pv1, .lit (.slice none 0 0)] S ∧ Same S0 S [i0] ∧ OutT S0 [i0] (PV.ptr i3 0).id?.toList ∧ OutT S0 [i0] (PV.id? pv1).toList ∧ OutT S0 [i0] (PV.ptr i4 0).id?.toList ∧ Ap (.ptr i0 0) (.ptr i3 0) ∧ Ap (.ptr i0 0) pv1 ∧ Ap (.ptr i0 0) (.ptr i4 0) ∧ Ap (.ptr i3 0) pv1 ∧ Ap (.ptr i3 0) (.ptr i4 0) ∧ Ap pv1 (.ptr i4 0)) ?_ ?_ ?_)
 · exact ⟨Nat.le_refl _, _, _, _, _, _, _, _, H, ⟨rfl, rfl, rfl, rfl, rfl, rfl, trivial⟩, h12, h14, .nil, h15, h13, ap1, OutT.lit, ap3, ap2, Ap.nil.symm, ap4, Ap.nil.symm, ap5, .nil⟩
 ·
  rintro tm S ⟨_, _, _, _, _, _, _, _, H, -⟩
  simp [spec_l2System.l1] at H
 ·
  rintro n1 ih1 tm S ⟨hle, x0b1_1, x5b0q3_1, x6_1, x7_1, i3, pv1, i4, H, hh, h16, h17, h19, h18, h20, o1, o2, o3, ap6, ap7, ap8, ap9, ap10, ap11⟩
  simp only [spec_l2System.l1] at H
  rw [hh.eq]
  refine Evr.seq (Evr.seq (Evr.regionN rfl (Opl.one rfl rfl (by simp only [go_sem] <;> rfl) (Opl.one rfl rfl (by simp only [go_sem] <;> rfl) (Opl.nil ?_)))))
  by_cases c1 : x7_1 > 0
  case pos =>
   rw [if_pos c1] at H
   have e1 : (decide (x7_1 > 0)) = true := by simpa using c1
   try rw [e1]
   refine Evr.condT rfl (Evr.skip (Evr.seq (Evr.block (Evr.seq (Evr.regionN rfl (Opl.one rfl rfl (by simp only [go_sem] <;> rfl) (Opl.litf (M := (cInt .i64)) (ys := [2, 3, 2, 4, 5]) [.const (.int .i64 2), .const (.int .i64 3), .const (.int .i64 2), .const (.int .i64 4), .const (.int .i64 5)] K29 T3 rfl rfl rfl (by exact ⟨rfl, rfl, rfl, rfl, rfl, trivial⟩) rfl (by decide) rfl rfl rfl ?_)))))))
   rintro pv3 pv4 S h21 u5 w4
   have ap12 := w4.box h16
   have h22 := u5.box h16 ap12
   have ap13 := w4.box h17
   have h23 := u5.box h17 ap13
   have ap14 := w4.vec h19
   have h24 := u5.vec h19 ap14
   have ap15 := w4.box h18
   have h25 := u5.box h18 ap15
   have ap16 := w4.sameP h20
   have h26 := u5.sameP h20 ap16
   obtain ⟨r2, h_r2, H⟩ := Option.bind_eq_some_iff.1 H
   refine Opl.calls (spec_l40Rd_num.evb hq0 h22 h21 h_r2) rfl rfl rfl rfl rfl ?_
   rintro _ S ⟨rfl, h27, u6⟩
   have h28 := u6.box h23 (ap6.symm).pt
   have h29 := u6.vec h24 (ap7.symm).pt
   have h30 := u6.box h25 (ap8.symm).pt
   have h31 := u6.sameP h26 OutT.box
   refine Opl.one rfl rfl (by simp only [go_sem] <;> rfl) (Opl.nil (Evr.seq (Evr.regionN rfl (Opl.one rfl rfl (by simp only [go_sem] <;> rfl) (Opl.one rfl rfl (by simp only [go_sem] <;> rfl) (Opl.mul (k := .i64) (a := x6_1) (b := r2.2) K3 rfl rfl rfl rfl (Opl.one (v := .lit (.int .i64 a1)) rfl rfl rfl (Opl.leq (a := (wrap64 (x6_1 * r2.2))) (b := a1) K3 rfl rfl rfl rfl (Opl.nil ?_)))))))))
   refine Evr.join (fun tm S => ∃ (kq1 : Nat) (x0b1_2 : Int) (x5b0q3_2 : List IVar) (x6_2 : Int) (i5 : Abs.Id) (pv5 : PV) (i6 : Abs.Id), spec_l2System.l1 kq1 x0b1_2 x5b0q3_2 x6_2 (wrap64 (x7_1 - 1)) l0_0 a1 = some r ∧ kq1 ≤ n1 ∧ Has tm [(0, .ptr i0 0), (1, .lit (.int .i64 a1)), (4, .ptr i5 0), (5, .ptr i6 0), (6, .lit (.int .i64 x6_2)), (7, .lit (.int .i64 x7_1))] ∧ Box (.ptr i0 0) [q0, .lit (.int .i64 x0b1_2)] S ∧ Box (.ptr i5 0) [.lit (.slice none 0 0), .lit (.slice none 0 0)] S ∧ Vec cIVar x5b0q3_2 pv5 S ∧ Box (.ptr i6 0) [pv5, .lit (.slice none 0 0)] S ∧ Same S0 S [i0] ∧ OutT S0 [i0] (PV.ptr i5 0).id?.toList ∧ OutT S0 [i0] (PV.id? pv5).toList ∧ OutT S0 [i0] (PV.ptr i6 0).id?.toList ∧ Ap (.ptr i0 0) (.ptr i5 0) ∧ Ap (.ptr i0 0) pv5 ∧ Ap (.ptr i0 0) (.ptr i6 0) ∧ Ap (.ptr i5 0) pv5 ∧ Ap (.ptr i5 0) (.ptr i6 0) ∧ Ap pv5 (.ptr i6 0)) ?_ fun hk1 => ?_
   ·
    rintro tm S ⟨kq1, x0b1_2, x5b0q3_2, x6_2, i5, pv5, i6, H, hle, hh, h32, h33, h35, h34, h36, o4, o5, o6, ap17, ap18, ap19, ap20, ap21, ap22⟩
    rw [hh.eq]
    refine Evr.inBlock (Evr.regionN rfl (Opl.one rfl rfl (by simp only [go_sem] <;> rfl) (Opl.subi (k := .i64) (a := x7_1) (b := 1) K3 rfl rfl rfl rfl (Opl.one (v := .lit (.int .i64 (wrap64 (x7_1 - 1)))) rfl rfl rfl (Opl.nil ?_)))))
    exact ih1 _ (by omega) _ _ ⟨by omega, _, _, _, _, _, _, _, H, ⟨rfl, rfl, rfl, rfl, rfl, rfl, trivial⟩, h32, h33, h35, h34, h36, o4, o5, o6, ap17, ap18, ap19, ap20, ap21, ap22⟩
   ·
    by_cases c2 : (wrap64 (x6_1 * r2.2)) ≤ a1
    case neg =>
     rw [if_neg c2] at H
     have e3 : (decide ((wrap64 (x6_1 * r2.2)) ≤ a1)) = false := by simpa using c2
     try rw [e3]
     refine Evr.condF rfl (Evr.skip ?_)
     exact hk1 _ _ ⟨_, _, _, _, _, _, _, H, by omega, ⟨rfl, rfl, rfl, rfl, rfl, rfl, trivial⟩, h27, h28, h29, h30, h31, o1, o2, o3, ap6, ap7, ap8, ap9, ap10, ap11⟩
    rw [if_pos c2] at H
    have e2 : (decide ((wrap64 (x6_1 * r2.2)) ≤ a1)) = true := by simpa using c2
    try rw [e2]
    refine Evr.condT rfl (Evr.seq (Evr.regionN rfl (Opl.one (v := .ptr i0 0) rfl rfl rfl (Opl.litf (M := (cInt .i64)) (ys := [0, 0, 0, (-1), 2]) [.const (.int .i64 0), .const (.int .i64 0), .const (.int .i64 0), .const (.int .i64 (-1)), .const (.int .i64 2)] K29 T3 rfl rfl rfl (by exact ⟨rfl, rfl, rfl, rfl, rfl, trivial⟩) rfl (by decide) rfl rfl rfl ?_))))
    rintro pv7 pv8 S h37 u7 w5
    have ap23 := w5.box h27
    have h38 := u7.box h27 ap23
    have ap24 := w5.box h28
    have h39 := u7.box h28 ap24
    have ap25 := w5.vec h29
    have h40 := u7.vec h29 ap25
    have ap26 := w5.box h30
    have h41 := u7.box h30 ap26
    have ap27 := w5.sameP h31
    have h42 := u7.sameP h31 ap27
    obtain ⟨r3, h_r3, H⟩ := Option.bind_eq_some_iff.1 H
    refine Opl.calls (spec_l40Rd_num.evb hq0 h38 h37 h_r3) rfl rfl rfl rfl rfl ?_
    rintro _ S ⟨rfl, h43, u8⟩
    have h44 := u8.box h39 (ap6.symm).pt
    have h45 := u8.vec h40 (ap7.symm).pt
    have h46 := u8.box h41 (ap8.symm).pt
    have h47 := u8.sameP h42 OutT.box
    refine Opl.one (v := .lit (.int .i64 r3.2)) rfl rfl rfl (Opl.nil (Evr.seq (Evr.regionL [(10, .m), (1, .q), (13, .m)] rfl (by kernel_rfl) (Opl.one (v := .ptr i4 0) rfl rfl (by simp only [go_sem]; rfl) (Opl.ldbk (v := pv1) h46 rfl rfl T23 rfl rfl rfl rfl (Opl.one (v := .lit (.int .i64 r3.2)) rfl rfl rfl (Opl.one (v := .lit (.int .i64 r3.2)) rfl rfl rfl (Opl.one (v := .lit (.int .i64 r2.2)) rfl rfl rfl (Opl.add (k := .i64) (a := r3.2) (b := r2.2) K3 rfl rfl rfl rfl (Opl.subi (k := .i64) (a := (wrap64 (r3.2 + r2.2))) (b := 1) K3 rfl rfl rfl rfl (Opl.one (v := .lit (.int .i64 r3.2)) rfl rfl rfl (Opl.one (v := .ptr i0 0) rfl rfl rfl (Opl.one (v := .lit (.int .i64 r2.2)) rfl rfl rfl ?_)))))))))))))
    obtain ⟨r4, h_r4, H⟩ := Option.bind_eq_some_iff.1 H
    refine Opl.callbm h43 (spec_l40Rd_pick.evb hq0 h43 h_r4) rfl rfl rfl rfl rfl ?_
    rintro _ S rfl h48 u9
    have h49 := u9.box h44 (ap6.symm).pt
    have h50 := u9.vec h45 (ap7.symm).pt
    have h51 := u9.box h46 (ap8.symm).pt
    have h52 := u9.sameP h47 OutT.box
    refine Opl.add (k := .i64) (a := r3.2) (b := r4.2) K3 rfl rfl rfl rfl (Opl.one (v := .agg [.lit (.int .i64 r3.2), .lit (.int .i64 (wrap64 ((wrap64 (r3.2 + r2.2)) - 1))), .lit (.int .i64 (wrap64 (r3.2 + r4.2)))]) rfl rfl (by simp only [go_sem]; rfl) (Opl.litm (M := cIVar) (ys := [(⟨r3.2, (wrap64 ((wrap64 (r3.2 + r2.2)) - 1)), (wrap64 (r3.2 + r4.2))⟩ : IVar)]) [.tmp 41] K23 T61 rfl rfl rfl (by exact ⟨cIVar_mk, trivial⟩) rfl (by decide) rfl rfl rfl ?_))
    rintro pv10 S h53 g1
    have h54 := g1.box h48
    have h55 := g1.box h49
    have h56 := g1.vec h50
    have h57 := g1.box h51
    have h58 := g1.sameP h52
    obtain ⟨c3, H⟩ := peel H
    refine Opl.app (M := cIVar) (xs := x5b0q3_1) (ys := [(⟨r3.2, (wrap64 ((wrap64 (r3.2 + r2.2)) - 1)), (wrap64 (r3.2 + r4.2))⟩ : IVar)]) (v := pv1) h56 (.sl h53) oIVar rfl rfl K23 T61 rfl rfl (by (try simp only [List.length_cons, List.length_nil]); omega) (by show (_ + _) * 24 ≤ 140737488355328; (try simp only [List.length_cons, List.length_nil]); omega) rfl rfl rfl rfl rfl ?_
    rintro pv11 S h59 u10 w6
    have ap28 := w6.box h54
    have h60 := u10.box h54 ap7
    have ap29 := w6.box h55
    have h61 := u10.box h55 ap9
    have ap30 := w6.box h57
    have h62 := u10.box h57 ap11.symm
    have ap31 := w6.sameP h58
    have h63 := u10.sameP h58 o2
    refine Opl.one (v := .ptr i4 0) rfl rfl (by simp only [go_sem]; rfl) (Opl.stb (vs := [pv11]) h62 rfl (by exact Vec.cells h59) Z23 rfl (Nat.le_of_ble_eq_true rfl) (by simp only [List.all_cons, List.all_nil, Vec.one h59, Bool.and_true, Bool.true_and] <;> rfl) rfl rfl rfl ?_)
    rintro S (h64 : Box (.ptr i4 0) [pv11, .lit (.slice none 0 0)] _) u11
    have h65 := u11.box h60 ap8
    have h66 := u11.box h61 ap10
    have h67 := u11.sameP h63 o3
    have h68 := u11.vec h59 ap30.symm
    refine Opl.nil (Evr.regionN rfl (Opl.one (v := .lit (.int .i64 x6_1)) rfl rfl rfl (Opl.one (v := .lit (.int .i64 r2.2)) rfl rfl rfl (Opl.mul (k := .i64) (a := x6_1) (b := r2.2) K3 rfl rfl rfl rfl (Opl.one (v := .lit (.int .i64 (wrap64 (x6_1 * r2.2)))) rfl rfl rfl (Opl.nil ?_))))))
    exact hk1 _ _ ⟨_, _, _, _, _, _, _, H, by omega, ⟨rfl, rfl, rfl, rfl, rfl, rfl, trivial⟩, h65, h66, h68, h64, h67, o1, ap31, o3, ap6, ap28, ap8, ap29, ap10, ap30.symm⟩
  rw [if_neg c1] at H
  have e4 : (decide (x7_1 > 0)) = false := by simpa using c1
  try rw [e4]
  refine Evr.condF rfl (Evr.exit rfl (Evr.seq (Evr.seq (Evr.regionN rfl (Opl.one (v := .ptr i4 0) rfl rfl (by simp only [go_sem]; rfl) (Opl.ldb (v := pv1) h18 rfl T23 rfl rfl rfl rfl (Opl.lenv (xs := x5b0q3_1) (by exact h19) K23 rfl rfl rfl rfl (Opl.one rfl rfl (by simp only [go_sem] <;> rfl) (Opl.nil ?_)))))))))
  by_cases c4 : (x5b0q3_1.length : Int) = 0
  case neg =>
   rw [if_neg c4] at H
   have e6 : ((x5b0q3_1.length : Int) == 0) = false := by simpa using c4
   try rw [e6]
   refine Evr.condF rfl (Evr.skip (Evr.seq (Evr.regionL [(5, .m), (6, .n), (2, .q), (4, .m)] rfl (by kernel_rfl) (Opl.one rfl rfl (by simp only [go_sem] <;> rfl) (Opl.one (v := .ptr i4 0) rfl rfl (by simp only [go_sem]; rfl) (Opl.ldbk (v := pv1) h18 rfl rfl T23 rfl rfl rfl rfl (Opl.one rfl rfl (by simp only [go_sem] <;> rfl) (Opl.litm (M := (cInt .i64)) (ys := [1, 2, 3, 4, 2, 3, 0]) [.const (.int .i64 1), .const (.int .i64 2), .const (.int .i64 3), .const (.int .i64 4), .const (.int .i64 2), .const (.int .i64 3), .const (.int .i64 0)] K29 T3 rfl rfl rfl (by exact ⟨rfl, rfl, rfl, rfl, rfl, rfl, rfl, trivial⟩) rfl (by decide) rfl rfl rfl ?_))))))))
   rintro pv18 S h121 g3
   have h122 := g3.box h16
   have h123 := g3.box h17
   have h124 := g3.vec h19
   have h125 := g3.box h18
   have h126 := g3.sameP h20
   obtain _ | k2 := n1
   · simp [spec_l2System.j2] at H
   simp only [spec_l2System.j2] at H
   obtain ⟨r5, h_r5, H⟩ := Option.bind_eq_some_iff.1 H
   refine Opl.callbm h122 (spec_l40Rd_num.evb hq0 h122 h121 h_r5) rfl rfl rfl rfl rfl ?_
   rintro _ S rfl h127 u19
   have h128 := u19.box h123 (ap6.symm).pt
   have h129 := u19.vec h124 (ap7.symm).pt
   have h130 := u19.box h125 (ap8.symm).pt
   have h131 := u19.sameP h126 OutT.box
   obtain ⟨r6, h_r6, H⟩ := Option.bind_eq_some_iff.1 H
   refine Opl.calls (spec_l2Rules.evv hq0 h127 h129 ap7.symm h_r6) rfl rfl rfl rfl rfl ?_
   rintro pv19 S ⟨ids2, h132, f2, h133, u20⟩
   have h134 := u20.box h128 (ap6.symm).pt
   have h135 := u20.vec h129 (ap7.symm).pt
   have h136 := u20.box h130 (ap8.symm).pt
   have h137 := u20.sameP h131 OutT.box
   have ap48 := f2.box h127
   have ap49 := f2.box h128
   have ap50 := f2.vec h129
   have ap51 := f2.box h130
   have ap52 := f2.sameP h131
   refine Opl.one (v := .ptr i4 1) rfl rfl (by simp only [go_sem]; rfl) (Opl.stb (vs := [pv19]) h136 rfl (by exact oRow_cells h132) Z24 rfl (Nat.le_of_ble_eq_true rfl) (by simp only [List.all_cons, List.all_nil, oRow_p1 h132, Bool.and_true, Bool.true_and] <;> rfl) rfl rfl rfl ?_)
   rintro S (h138 : Box (.ptr i4 0) [pv1, pv19] _) u21
   have h139 := u21.box h133 ap8
   have h140 := u21.box h134 ap10
   have h141 := u21.vec h135 ap11
   have h142 := u21.sameP h137 o3
   have h143 := u21.tree h132 ap51
   refine Opl.nil (Evr.seq (Evr.regionN rfl (Opl.ldb (v := .agg [pv1, pv19]) h138 rfl T26 rfl rfl rfl rfl (Opl.stb (vs := [pv1, pv19]) h140 rfl rfl Z26 rfl (Nat.le_of_ble_eq_true rfl) (by simp only [List.all_cons, List.all_nil, Vec.one h141, oRow_p1 h143, Bool.and_true, Bool.true_and] <;> rfl) rfl rfl rfl ?_))))
   rintro S (h144 : Box (.ptr i3 0) [pv1, pv19] _) u22
   have h145 := u22.box h139 ap6
   have h146 := u22.vec h141 ap9.symm
   have h147 := u22.box h138 ap10.symm
   have h148 := u22.sameP h142 o1
   have h149 := u22.tree h143 ap49
   refine Opl.nil ?_
   obtain rfl := Option.some.inj H
   refine Evr.retb (v := .agg [pv1, pv19]) Try.func80 rfl h144 rfl T26 rfl ?_
   exact ⟨_, _, _, rfl, h146, (OutT.new (i := i0) o2 ap7.symm), h149, (OutT.fresh ap52 ap48), ap50, h145, h148⟩
  rw [if_pos c4] at H
  have e5 : ((x5b0q3_1.length : Int) == 0) = true := by simpa using c4
  try rw [e5]
  refine Evr.condT rfl (Evr.regionN rfl (Opl.one (v := .ptr i4 0) rfl rfl (by simp only [go_sem]; rfl) (Opl.ldb (v := pv1) h18 rfl T23 rfl rfl rfl rfl (Opl.one (v := .agg [.lit (.int .i64 0), .lit (.int .i64 1), .lit (.int .i64 0)]) rfl rfl (by simp only [go_sem]; rfl) (Opl.lits (M := cIVar) (ys := [(⟨0, 1, 0⟩ : IVar)]) [.tmp 54] K23 T61 rfl rfl rfl (by exact ⟨cIVar_mk, trivial⟩) rfl (by decide) rfl rfl rfl ?_)))))
  rintro pv12 S h69 u12 w8
  have ap32 := w8.box h16
  have h70 := u12.box h16 ap32
  have ap33 := w8.box h17
  have h71 := u12.box h17 ap33
  have ap34 := w8.vec h19
  have h72 := u12.vec h19 ap34
  have ap35 := w8.box h18
  have h73 := u12.box h18 ap35
  have ap36 := w8.sameP h20
  have h74 := u12.sameP h20 ap36
  obtain ⟨c5, H⟩ := peel H
  obtain _ | k1 := n1
  · simp [spec_l2System.j2] at H
  simp only [spec_l2System.j2] at H
  refine Opl.app (M := cIVar) (xs := x5b0q3_1) (ys := [(⟨0, 1, 0⟩ : IVar)]) (v := pv1) h72 (.vec h69) oIVar rfl rfl K23 T61 rfl rfl (by (try simp only [List.length_cons, List.length_nil]); omega) (by show (_ + _) * 24 ≤ 140737488355328; (try simp only [List.length_cons, List.length_nil]); omega) rfl rfl rfl rfl rfl ?_
  rintro pv13 S h75 u13 w9
  have ap37 := w9.box h70
  have h76 := u13.box h70 ap7
  have ap38 := w9.box h71
  have h77 := u13.box h71 ap9
  have ap39 := w9.box h73
  have h78 := u13.box h73 ap11.symm
  have ap40 := w9.sameP h74
  have h79 := u13.sameP h74 o2
  have ap41 := w9.vec h69
  have h80 := u13.vec h69 ap34.symm
  refine Opl.one (v := .ptr i4 0) rfl rfl (by simp only [go_sem]; rfl) (Opl.stb (vs := [pv13]) h78 rfl (by exact Vec.cells h75) Z23 rfl (Nat.le_of_ble_eq_true rfl) (by simp only [List.all_cons, List.all_nil, Vec.one h75, Bool.and_true, Bool.true_and] <;> rfl) rfl rfl rfl ?_)
  rintro S (h81 : Box (.ptr i4 0) [pv13, .lit (.slice none 0 0)] _) u14
  have h82 := u14.box h76 ap8
  have h83 := u14.box h77 ap10
  have h84 := u14.sameP h79 o3
  have h85 := u14.vec h80 ap35.symm
  have h86 := u14.vec h75 ap39.symm
  refine Opl.nil (Evr.seq (Evr.regionL [(5, .m), (6, .n), (2, .q), (4, .m)] rfl (by kernel_rfl) (Opl.one rfl rfl (by simp only [go_sem] <;> rfl) (Opl.one (v := .ptr i4 0) rfl rfl (by simp only [go_sem]; rfl) (Opl.ldbk (v := pv13) h81 rfl rfl T23 rfl rfl rfl rfl (Opl.one rfl rfl (by simp only [go_sem] <;> rfl) (Opl.litm (M := (cInt .i64)) (ys := [1, 2, 3, 4, 2, 3, 0]) [.const (.int .i64 1), .const (.int .i64 2), .const (.int .i64 3), .const (.int .i64 4), .const (.int .i64 2), .const (.int .i64 3), .const (.int .i64 0)] K29 T3 rfl rfl rfl (by exact ⟨rfl, rfl, rfl, rfl, rfl, rfl, rfl, trivial⟩) rfl (by decide) rfl rfl rfl ?_)))))))
  rintro pv15 S h87 g2
  have h88 := g2.box h82
  have h89 := g2.box h83
  have h90 := g2.box h81
  have h91 := g2.sameP h84
  have h92 := g2.vec h85
  have h93 := g2.vec h86
  obtain ⟨r5, h_r5, H⟩ := Option.bind_eq_some_iff.1 H
  refine Opl.callbm h88 (spec_l40Rd_num.evb hq0 h88 h87 h_r5) rfl rfl rfl rfl rfl ?_
  rintro _ S rfl h94 u15
  have h95 := u15.box h89 (ap6.symm).pt
  have h96 := u15.box h90 (ap8.symm).pt
  have h97 := u15.sameP h91 OutT.box
  have h98 := u15.vec h92 (ap32.symm).pt
  have h99 := u15.vec h93 (ap37.symm).pt
  obtain ⟨r6, h_r6, H⟩ := Option.bind_eq_some_iff.1 H
  refine Opl.calls (spec_l2Rules.evv hq0 h94 h99 ap37.symm h_r6) rfl rfl rfl rfl rfl ?_
  rintro pv16 S ⟨ids1, h100, f1, h101, u16⟩
  have h102 := u16.box h95 (ap6.symm).pt
  have h103 := u16.box h96 (ap8.symm).pt
  have h104 := u16.sameP h97 OutT.box
  have h105 := u16.vec h98 (ap32.symm).pt
  have h106 := u16.vec h99 (ap37.symm).pt
  have ap42 := f1.box h94
  have ap43 := f1.box h95
  have ap44 := f1.box h96
  have ap45 := f1.sameP h97
  have ap46 := f1.vec h98
  have ap47 := f1.vec h99
  refine Opl.one (v := .ptr i4 1) rfl rfl (by simp only [go_sem]; rfl) (Opl.stb (vs := [pv16]) h103 rfl (by exact oRow_cells h100) Z24 rfl (Nat.le_of_ble_eq_true rfl) (by simp only [List.all_cons, List.all_nil, oRow_p1 h100, Bool.and_true, Bool.true_and] <;> rfl) rfl rfl rfl ?_)
  rintro S (h107 : Box (.ptr i4 0) [pv13, pv16] _) u17
  have h108 := u17.box h101 ap8
  have h109 := u17.box h102 ap10
  have h110 := u17.sameP h104 o3
  have h111 := u17.vec h105 ap35.symm
  have h112 := u17.vec h106 ap39.symm
  have h113 := u17.tree h100 ap44
  refine Opl.nil (Evr.seq (Evr.regionN rfl (Opl.ldb (v := .agg [pv13, pv16]) h107 rfl T26 rfl rfl rfl rfl (Opl.stb (vs := [pv13, pv16]) h109 rfl rfl Z26 rfl (Nat.le_of_ble_eq_true rfl) (by simp only [List.all_cons, List.all_nil, Vec.one h112, oRow_p1 h113, Bool.and_true, Bool.true_and] <;> rfl) rfl rfl rfl ?_))))
  rintro S (h114 : Box (.ptr i3 0) [pv13, pv16] _) u18
  have h115 := u18.box h108 ap6
  have h116 := u18.box h107 ap10.symm
  have h117 := u18.sameP h110 o1
  have h118 := u18.vec h111 ap33.symm
  have h119 := u18.vec h112 ap38.symm
  have h120 := u18.tree h113 ap43
  refine Opl.nil ?_
  obtain rfl := Option.some.inj H
  refine Evr.retb (v := .agg [pv13, pv16]) Try.func80 rfl h114 rfl T26 rfl ?_
  exact ⟨_, _, _, rfl, h119, (OutT.new (i := i0) ap40 ap37.symm), h120, (OutT.fresh ap45 ap42), ap47, h115, h117⟩
theorem spec_l2System.evf {k : Nat} {S0 : Sto} {l0_0 : List Int} {a0_1 : Int} {i0 : Abs.Id} {q0 : PV} (hq0 : Sl (cInt .u8) l0_0 q0) (hb0 : Box (.ptr i0 0) [q0, .lit (.int .i64 a0_1)] S0) {a1 : Int} {r : Int × (List IVar × List IRule)} (H : spec_l2System.f k l0_0 a0_1 a1 = some r) : RetS Try.prog 80 [.ptr i0 0, .lit (.int .i64 a1)] S0 fun v S => ∃ v_0 v_1, v = .agg [v_0, v_1] ∧ Sl cIVar r.2.1 v_0 ∧ Sl cIRule r.2.2 v_1 ∧ Box (.ptr i0 0) [q0, .lit (.int .i64 r.1)] S ∧ Same S0 S [i0] := by
 have hs0 : Same S0 S0 [i0] := .refl _ _
 unfold spec_l2System.f at H
 refine RetS.intro Try.func80 rfl (Nat.le_of_ble_eq_true rfl) rfl ?_
 rw [tm2]
 refine Evr.seq (Evr.regionN rfl (Opl.alloc T26 rfl rfl rfl ?_))
 rintro i1 S h1 u1 w1
 have ap1 := w1.sameP hs0
 have h2 := u1.sameP hs0 ap1
 have ap2 := w1.box hb0
 have h3 := u1.box hb0 ap2
 refine Opl.nil (Evr.seq (Evr.regionN rfl (Opl.one (v := .agg [.lit (.slice none 0 0), .lit (.slice none 0 0)]) rfl rfl (by simp only [go_sem]; rfl) (Opl.alloc T26 rfl rfl rfl ?_))))
 rintro i2 S h4 u2 w2
 have ap3 := w2.sameP h2
 have h5 := u2.sameP h2 ap3
 have ap4 := w2.box h3
 have h6 := u2.box h3 ap4
 have ap5 := w2.box h1
 have h7 := u2.box h1 ap5
 refine Opl.stb (vs := [.lit (.slice none 0 0), .lit (.slice none 0 0)]) h4 rfl rfl Z26 rfl (Nat.le_of_ble_eq_true rfl) rfl rfl rfl rfl ?_
 rintro S (h8 : Box (.ptr i2 0) [.lit (.slice none 0 0), .lit (.slice none 0 0)] _) u3
 have h9 := u3.sameP h5 ap3
 have h10 := u3.box h6 ap4
 have h11 := u3.box h7 ap5
 refine Opl.nil (Evr.seq (Evr.regionN rfl (Opl.one rfl rfl (by simp only [go_sem] <;> rfl) (Opl.nil (Evr.seq (Evr.seq (Evr.regionN rfl (Opl.one rfl rfl (by simp only [go_sem] <;> rfl) ?_))))))))
 obtain ⟨r1, h_r1, H⟩ := Option.bind_eq_some_iff.1 H
 refine Opl.calls (spec_l40Rd_pick.evb hq0 h10 h_r1) rfl rfl rfl rfl rfl ?_
 rintro _ S ⟨rfl, h12, u4⟩
 have h13 := u4.sameP h9 OutT.box
 have h14 := u4.box h11 (ap2.symm).pt
 have h15 := u4.box h8 (ap4.symm).pt
 refine Opl.add (k := .i64) (a := 1) (b := r1.2) K3 rfl rfl rfl rfl (Opl.one (v := .lit (.int .i64 (wrap64 (1 + r1.2)))) rfl rfl rfl (Opl.nil (Evr.block ?_)))
 refine Evr.loop (Evr.rounds (n := k) (Inv := fun n tm S => n ≤ k ∧ ∃ (x0b1_1 : Int) (x5b0q3_1 : List IVar) (x6_1 : Int) (x7_1 : Int) (i3 : Abs.Id) (pv1 : PV) (i4 : Abs.Id), spec_l2System.l1 n x0b1_1 x5b0q3_1 x6_1 x7_1 l0_0 a1 = some r ∧ Has tm [(0, .ptr i0 0), (1, .lit (.int .i64 a1)), (4, .ptr i3 0), (5, .ptr i4 0), (6, .lit (.int .i64 x6_1)), (7, .lit (.int .i64 x7_1))] ∧ Box (.ptr i0 0) [q0, .lit (.int .i64 x0b1_1)] S ∧ Box (.ptr i3 0) [.lit (.slice none 0 0), .lit (.slice none 0 0)] S ∧ Vec cIVar x5b0q3_1 pv1 S ∧ Box (.ptr i4 0) [pv1, .lit (.slice none 0 0)] S ∧ Same S0 S [i0] ∧ OutT S0 [i0] (PV.ptr i3 0).id?.toList ∧ OutT S0 [i0] (PV.id? pv1).toList ∧ OutT S0 [i0] (PV.ptr i4 0).id?.toList ∧ Ap (.ptr i0 0) (.ptr i3 0) ∧ Ap (.ptr i0 0) pv1 ∧ Ap (.ptr i0 0) (.ptr i4 0) ∧ Ap (.ptr i3 0) pv1 ∧ Ap (.ptr i3 0) (.ptr i4 0) ∧ Ap pv1 (.ptr i4 0)) ?_ ?_ ?_)
 · exact ⟨Nat.le_refl _, _, _, _, _, _, _, _, H, ⟨rfl, rfl, rfl, rfl, rfl, rfl, trivial⟩, h12, h14, .nil, h15, h13, ap1, OutT.lit, ap3, ap2, Ap.nil.symm, ap4, Ap.nil.symm, ap5, .nil⟩
 ·
  rintro tm S ⟨_, _, _, _, _, _, _, _, H, -⟩
  simp [spec_l2System.l1] at H
 ·
  rintro n1 ih1 tm S ⟨hle, x0b1_1, x5b0q3_1, x6_1, x7_1, i3, pv1, i4, H, hh, h16, h17, h19, h18, h20, o1, o2, o3, ap6, ap7, ap8, ap9, ap10, ap11⟩
  simp only [spec_l2System.l1] at H
  rw [hh.eq]
  refine Evr.seq (Evr.seq (Evr.regionN rfl (Opl.one rfl rfl (by simp only [go_sem] <;> rfl) (Opl.one rfl rfl (by simp only [go_sem] <;> rfl) (Opl.nil ?_)))))
  by_cases c1 : x7_1 > 0
  case pos =>
   rw [if_pos c1] at H
   have e1 : (decide (x7_1 > 0)) = true := by simpa using c1
   try rw [e1]
   refine Evr.condT rfl (Evr.skip (Evr.seq (Evr.block (Evr.seq (Evr.regionN rfl (Opl.one rfl rfl (by simp only [go_sem] <;> rfl) (Opl.litf (M := (cInt .i64)) (ys := [2, 3, 2, 4, 5]) [.const (.int .i64 2), .const (.int .i64 3), .const (.int .i64 2), .const (.int .i64 4), .const (.int .i64 5)] K29 T3 rfl rfl rfl (by exact ⟨rfl, rfl, rfl, rfl, rfl, trivial⟩) rfl (by decide) rfl rfl rfl ?_)))))))
   rintro pv3 pv4 S h21 u5 w4
   have ap12 := w4.box h16
   have h22 := u5.box h16 ap12
   have ap13 := w4.box h17
   have h23 := u5.box h17 ap13
   have ap14 := w4.vec h19
   have h24 := u5.vec h19 ap14
   have ap15 := w4.box h18
   have h25 := u5.box h18 ap15
   have ap16 := w4.sameP h20
   have h26 := u5.sameP h20 ap16
   obtain ⟨r2, h_r2, H⟩ := Option.bind_eq_some_iff.1 H
   refine Opl.calls (spec_l40Rd_num.evb hq0 h22 h21 h_r2) rfl rfl rfl rfl rfl ?_
   rintro _ S ⟨rfl, h27, u6⟩
   have h28 := u6.box h23 (ap6.symm).pt
   have h29 := u6.vec h24 (ap7.symm).pt
   have h30 := u6.box h25 (ap8.symm).pt
   have h31 := u6.sameP h26 OutT.box
   refine Opl.one rfl rfl (by simp only [go_sem] <;> rfl) (Opl.nil (Evr.seq (Evr.regionN rfl (Opl.one rfl rfl (by simp only [go_sem] <;> rfl) (Opl.one rfl rfl (by simp only [go_sem] <;> rfl) (Opl.mul (k := .i64) (a := x6_1) (b := r2.2) K3 rfl rfl rfl rfl (Opl.one (v := .lit (.int .i64 a1)) rfl rfl rfl (Opl.leq (a := (wrap64 (x6_1 * r2.2))) (b := a1) K3 rfl rfl rfl rfl (Opl.nil ?_)))))))))
   refine Evr.join (fun tm S => ∃ (kq1 : Nat) (x0b1_2 : Int) (x5b0q3_2 : List IVar) (x6_2 : Int) (i5 : Abs.Id) (pv5 : PV) (i6 : Abs.Id), spec_l2System.l1 kq1 x0b1_2 x5b0q3_2 x6_2 (wrap64 (x7_1 - 1)) l0_0 a1 = some r ∧ kq1 ≤ n1 ∧ Has tm [(0, .ptr i0 0), (1, .lit (.int .i64 a1)), (4, .ptr i5 0), (5, .ptr i6 0), (6, .lit (.int .i64 x6_2)), (7, .lit (.int .i64 x7_1))] ∧ Box (.ptr i0 0) [q0, .lit (.int .i64 x0b1_2)] S ∧ Box (.ptr i5 0) [.lit (.slice none 0 0), .lit (.slice none 0 0)] S ∧ Vec cIVar x5b0q3_2 pv5 S ∧ Box (.ptr i6 0) [pv5, .lit (.slice none 0 0)] S ∧ Same S0 S [i0] ∧ OutT S0 [i0] (PV.ptr i5 0).id?.toList ∧ OutT S0 [i0] (PV.id? pv5).toList ∧ OutT S0 [i0] (PV.ptr i6 0).id?.toList ∧ Ap (.ptr i0 0) (.ptr i5 0) ∧ Ap (.ptr i0 0) pv5 ∧ Ap (.ptr i0 0) (.ptr i6 0) ∧ Ap (.ptr i5 0) pv5 ∧ Ap (.ptr i5 0) (.ptr i6 0) ∧ Ap pv5 (.ptr i6 0)) ?_ fun hk1 => ?_
   ·
    rintro tm S ⟨kq1, x0b1_2, x5b0q3_2, x6_2, i5, pv5, i6, H, hle, hh, h32, h33, h35, h34, h36, o4, o5, o6, ap17, ap18, ap19, ap20, ap21, ap22⟩
    rw [hh.eq]
    refine Evr.inBlock (Evr.regionN rfl (Opl.one rfl rfl (by simp only [go_sem] <;> rfl) (Opl.subi (k := .i64) (a := x7_1) (b := 1) K3 rfl rfl rfl rfl (Opl.one (v := .lit (.int .i64 (wrap64 (x7_1 - 1)))) rfl rfl rfl (Opl.nil ?_)))))
    exact ih1 _ (by omega) _ _ ⟨by omega, _, _, _, _, _, _, _, H, ⟨rfl, rfl, rfl, rfl, rfl, rfl, trivial⟩, h32, h33, h35, h34, h36, o4, o5, o6, ap17, ap18, ap19, ap20, ap21, ap22⟩
   ·
    by_cases c2 : (wrap64 (x6_1 * r2.2)) ≤ a1
    case neg =>
     rw [if_neg c2] at H
     have e3 : (decide ((wrap64 (x6_1 * r2.2)) ≤ a1)) = false := by simpa using c2
     try rw [e3]
     refine Evr.condF rfl (Evr.skip ?_)
     exact hk1 _ _ ⟨_, _, _, _, _, _, _, H, by omega, ⟨rfl, rfl, rfl, rfl, rfl, rfl, trivial⟩, h27, h28, h29, h30, h31, o1, o2, o3, ap6, ap7, ap8, ap9, ap10, ap11⟩
    rw [if_pos c2] at H
    have e2 : (decide ((wrap64 (x6_1 * r2.2)) ≤ a1)) = true := by simpa using c2
    try rw [e2]
    refine Evr.condT rfl (Evr.seq (Evr.regionN rfl (Opl.one (v := .ptr i0 0) rfl rfl rfl (Opl.litf (M := (cInt .i64)) (ys := [0, 0, 0, (-1), 2]) [.const (.int .i64 0), .const (.int .i64 0), .const (.int .i64 0), .const (.int .i64 (-1)), .const (.int .i64 2)] K29 T3 rfl rfl rfl (by exact ⟨rfl, rfl, rfl, rfl, rfl, trivial⟩) rfl (by decide) rfl rfl rfl ?_))))
    rintro pv7 pv8 S h37 u7 w5
    have ap23 := w5.box h27
    have h38 := u7.box h27 ap23
    have ap24 := w5.box h28
    have h39 := u7.box h28 ap24
    have ap25 := w5.vec h29
    have h40 := u7.vec h29 ap25
    have ap26 := w5.box h30
    have h41 := u7.box h30 ap26
    have ap27 := w5.sameP h31
    have h42 := u7.sameP h31 ap27
    obtain ⟨r3, h_r3, H⟩ := Option.bind_eq_some_iff.1 H
    refine Opl.calls (spec_l40Rd_num.evb hq0 h38 h37 h_r3) rfl rfl rfl rfl rfl ?_
    rintro _ S ⟨rfl, h43, u8⟩
    have h44 := u8.box h39 (ap6.symm).pt
    have h45 := u8.vec h40 (ap7.symm).pt
    have h46 := u8.box h41 (ap8.symm).pt
    have h47 := u8.sameP h42 OutT.box
    refine Opl.one (v := .lit (.int .i64 r3.2)) rfl rfl rfl (Opl.nil (Evr.seq (Evr.regionL [(10, .m), (1, .q), (13, .m)] rfl (by kernel_rfl) (Opl.one (v := .ptr i4 0) rfl rfl (by simp only [go_sem]; rfl) (Opl.ldbk (v := pv1) h46 rfl rfl T23 rfl rfl rfl rfl (Opl.one (v := .lit (.int .i64 r3.2)) rfl rfl rfl (Opl.one (v := .lit (.int .i64 r3.2)) rfl rfl rfl (Opl.one (v := .lit (.int .i64 r2.2)) rfl rfl rfl (Opl.add (k := .i64) (a := r3.2) (b := r2.2) K3 rfl rfl rfl rfl (Opl.subi (k := .i64) (a := (wrap64 (r3.2 + r2.2))) (b := 1) K3 rfl rfl rfl rfl (Opl.one (v := .lit (.int .i64 r3.2)) rfl rfl rfl (Opl.one (v := .ptr i0 0) rfl rfl rfl (Opl.one (v := .lit (.int .i64 r2.2)) rfl rfl rfl ?_)))))))))))))
    obtain ⟨r4, h_r4, H⟩ := Option.bind_eq_some_iff.1 H
    refine Opl.callbm h43 (spec_l40Rd_pick.evb hq0 h43 h_r4) rfl rfl rfl rfl rfl ?_
    rintro _ S rfl h48 u9
    have h49 := u9.box h44 (ap6.symm).pt
    have h50 := u9.vec h45 (ap7.symm).pt
    have h51 := u9.box h46 (ap8.symm).pt
    have h52 := u9.sameP h47 OutT.box
    refine Opl.add (k := .i64) (a := r3.2) (b := r4.2) K3 rfl rfl rfl rfl (Opl.one (v := .agg [.lit (.int .i64 r3.2), .lit (.int .i64 (wrap64 ((wrap64 (r3.2 + r2.2)) - 1))), .lit (.int .i64 (wrap64 (r3.2 + r4.2)))]) rfl rfl (by simp only [go_sem]; rfl) (Opl.litm (M := cIVar) (ys := [(⟨r3.2, (wrap64 ((wrap64 (r3.2 + r2.2)) - 1)), (wrap64 (r3.2 + r4.2))⟩ : IVar)]) [.tmp 41] K23 T61 rfl rfl rfl (by exact ⟨cIVar_mk, trivial⟩) rfl (by decide) rfl rfl rfl ?_))
    rintro pv10 S h53 g1
    have h54 := g1.box h48
    have h55 := g1.box h49
    have h56 := g1.vec h50
    have h57 := g1.box h51
    have h58 := g1.sameP h52
    obtain ⟨c3, H⟩ := peel H
    refine Opl.app (M := cIVar) (xs := x5b0q3_1) (ys := [(⟨r3.2, (wrap64 ((wrap64 (r3.2 + r2.2)) - 1)), (wrap64 (r3.2 + r4.2))⟩ : IVar)]) (v := pv1) h56 (.sl h53) oIVar rfl rfl K23 T61 rfl rfl (by (try simp only [List.length_cons, List.length_nil]); omega) (by show (_ + _) * 24 ≤ 140737488355328; (try simp only [List.length_cons, List.length_nil]); omega) rfl rfl rfl rfl rfl ?_
    rintro pv11 S h59 u10 w6
    have ap28 := w6.box h54
    have h60 := u10.box h54 ap7
    have ap29 := w6.box h55
    have h61 := u10.box h55 ap9
    have ap30 := w6.box h57
    have h62 := u10.box h57 ap11.symm
    have ap31 := w6.sameP h58
    have h63 := u10.sameP h58 o2
    refine Opl.one (v := .ptr i4 0) rfl rfl (by simp only [go_sem]; rfl) (Opl.stb (vs := [pv11]) h62 rfl (by exact Vec.cells h59) Z23 rfl (Nat.le_of_ble_eq_true rfl) (by simp only [List.all_cons, List.all_nil, Vec.one h59, Bool.and_true, Bool.true_and] <;> rfl) rfl rfl rfl ?_)
    rintro S (h64 : Box (.ptr i4 0) [pv11, .lit (.slice none 0 0)] _) u11
    have h65 := u11.box h60 ap8
    have h66 := u11.box h61 ap10
    have h67 := u11.sameP h63 o3
    have h68 := u11.vec h59 ap30.symm
    refine Opl.nil (Evr.regionN rfl (Opl.one (v := .lit (.int .i64 x6_1)) rfl rfl rfl (Opl.one (v := .lit (.int .i64 r2.2)) rfl rfl rfl (Opl.mul (k := .i64) (a := x6_1) (b := r2.2) K3 rfl rfl rfl rfl (Opl.one (v := .lit (.int .i64 (wrap64 (x6_1 * r2.2)))) rfl rfl rfl (Opl.nil ?_))))))
    exact hk1 _ _ ⟨_, _, _, _, _, _, _, H, by omega, ⟨rfl, rfl, rfl, rfl, rfl, rfl, trivial⟩, h65, h66, h68, h64, h67, o1, ap31, o3, ap6, ap28, ap8, ap29, ap10, ap30.symm⟩
  rw [if_neg c1] at H
  have e4 : (decide (x7_1 > 0)) = false := by simpa using c1
  try rw [e4]
  refine Evr.condF rfl (Evr.exit rfl (Evr.seq (Evr.seq (Evr.regionN rfl (Opl.one (v := .ptr i4 0) rfl rfl (by simp only [go_sem]; rfl) (Opl.ldb (v := pv1) h18 rfl T23 rfl rfl rfl rfl (Opl.lenv (xs := x5b0q3_1) (by exact h19) K23 rfl rfl rfl rfl (Opl.one rfl rfl (by simp only [go_sem] <;> rfl) (Opl.nil ?_)))))))))
  by_cases c4 : (x5b0q3_1.length : Int) = 0
  case neg =>
   rw [if_neg c4] at H
   have e6 : ((x5b0q3_1.length : Int) == 0) = false := by simpa using c4
   try rw [e6]
   refine Evr.condF rfl (Evr.skip (Evr.seq (Evr.regionL [(5, .m), (6, .n), (2, .q), (4, .m)] rfl (by kernel_rfl) (Opl.one rfl rfl (by simp only [go_sem] <;> rfl) (Opl.one (v := .ptr i4 0) rfl rfl (by simp only [go_sem]; rfl) (Opl.ldbk (v := pv1) h18 rfl rfl T23 rfl rfl rfl rfl (Opl.one rfl rfl (by simp only [go_sem] <;> rfl) (Opl.litm (M := (cInt .i64)) (ys := [1, 2, 3, 4, 2, 3, 0]) [.const (.int .i64 1), .const (.int .i64 2), .const (.int .i64 3), .const (.int .i64 4), .const (.int .i64 2), .const (.int .i64 3), .const (.int .i64 0)] K29 T3 rfl rfl rfl (by exact ⟨rfl, rfl, rfl, rfl, rfl, rfl, rfl, trivial⟩) rfl (by decide) rfl rfl rfl ?_))))))))
   rintro pv20 S h136 g3
   have h137 := g3.box h16
   have h138 := g3.box h17
   have h139 := g3.vec h19
   have h140 := g3.box h18
   have h141 := g3.sameP h20
   obtain _ | k2 := n1
   · simp [spec_l2System.j2] at H
   simp only [spec_l2System.j2] at H
   obtain ⟨r5, h_r5, H⟩ := Option.bind_eq_some_iff.1 H
   refine Opl.callbm h137 (spec_l40Rd_num.evb hq0 h137 h136 h_r5) rfl rfl rfl rfl rfl ?_
   rintro _ S rfl h142 u23
   have h143 := u23.box h138 (ap6.symm).pt
   have h144 := u23.vec h139 (ap7.symm).pt
   have h145 := u23.box h140 (ap8.symm).pt
   have h146 := u23.sameP h141 OutT.box
   obtain ⟨r6, h_r6, H⟩ := Option.bind_eq_some_iff.1 H
   refine Opl.calls (spec_l2Rules.evv hq0 h142 h144 ap7.symm h_r6) rfl rfl rfl rfl rfl ?_
   rintro pv21 S ⟨ids2, h147, f2, h148, u24⟩
   have h149 := u24.box h143 (ap6.symm).pt
   have h150 := u24.vec h144 (ap7.symm).pt
   have h151 := u24.box h145 (ap8.symm).pt
   have h152 := u24.sameP h146 OutT.box
   have ap48 := f2.box h142
   have ap49 := f2.box h143
   have ap50 := f2.vec h144
   have ap51 := f2.box h145
   have ap52 := f2.sameP h146
   refine Opl.one (v := .ptr i4 1) rfl rfl (by simp only [go_sem]; rfl) (Opl.stb (vs := [pv21]) h151 rfl (by exact oRow_cells h147) Z24 rfl (Nat.le_of_ble_eq_true rfl) (by simp only [List.all_cons, List.all_nil, oRow_p1 h147, Bool.and_true, Bool.true_and] <;> rfl) rfl rfl rfl ?_)
   rintro S (h153 : Box (.ptr i4 0) [pv1, pv21] _) u25
   have h154 := u25.box h148 ap8
   have h155 := u25.box h149 ap10
   have h156 := u25.vec h150 ap11
   have h157 := u25.sameP h152 o3
   have h158 := u25.tree h147 ap51
   refine Opl.nil (Evr.seq (Evr.frzc [] [pv21] h153 h156 ap11 ?_))
   rintro pv22 S1_ S h159 u26 u27 h160
   have h161 := u27.box (u26.box h154 ap7) ap8
   have h162 := u27.box (u26.box h155 ap9) ap10
   have h163 := u27.sameP (u26.sameP h157 o2) o3
   have h164 := u27.tree (u26.tree h158 ap50) ap51
   have h165 : Sl cIVar x5b0q3_1 pv22 := h159
   have h166 : Box (.ptr i4 0) [pv22, pv21] S := h160
   refine Evr.frzcT [pv22] [] h166 h164 ap51 ?_
   rintro pv23 S1_ S h167 u28 u29 h168
   have h169 := u29.box (u28.box h161 ap48) ap8
   have h170 := u29.box (u28.box h162 ap49) ap10
   have h171 := u29.sameP (u28.sameP h163 ap52) o3
   have h172 : Sl cIRule r6.2 pv23 := h167
   have h173 : Box (.ptr i4 0) [pv22, pv23] S := h168
   refine Evr.regionN rfl (Opl.ldb (v := .agg [pv22, pv23]) h173 rfl T26 rfl rfl rfl rfl (Opl.stb (vs := [pv22, pv23]) h170 rfl rfl Z26 rfl (Nat.le_of_ble_eq_true rfl) (by simp only [List.all_cons, List.all_nil, h165.one, h172.one, Bool.and_true, Bool.true_and] <;> rfl) rfl rfl rfl ?_))
   rintro S (h174 : Box (.ptr i3 0) [pv22, pv23] _) u30
   have h175 := u30.box h169 ap6
   have h176 := u30.box h173 ap10.symm
   have h177 := u30.sameP h171 o1
   refine Opl.nil ?_
   obtain rfl := Option.some.inj H
   refine Evr.retb (v := .agg [pv22, pv23]) Try.func80 rfl h174 rfl T26 rfl ?_
   exact ⟨_, _, rfl, h165, h172, h175, h177⟩
  rw [if_pos c4] at H
  have e5 : ((x5b0q3_1.length : Int) == 0) = true := by simpa using c4
  try rw [e5]
  refine Evr.condT rfl (Evr.regionN rfl (Opl.one (v := .ptr i4 0) rfl rfl (by simp only [go_sem]; rfl) (Opl.ldb (v := pv1) h18 rfl T23 rfl rfl rfl rfl (Opl.one (v := .agg [.lit (.int .i64 0), .lit (.int .i64 1), .lit (.int .i64 0)]) rfl rfl (by simp only [go_sem]; rfl) (Opl.lits (M := cIVar) (ys := [(⟨0, 1, 0⟩ : IVar)]) [.tmp 54] K23 T61 rfl rfl rfl (by exact ⟨cIVar_mk, trivial⟩) rfl (by decide) rfl rfl rfl ?_)))))
  rintro pv12 S h69 u12 w8
  have ap32 := w8.box h16
  have h70 := u12.box h16 ap32
  have ap33 := w8.box h17
  have h71 := u12.box h17 ap33
  have ap34 := w8.vec h19
  have h72 := u12.vec h19 ap34
  have ap35 := w8.box h18
  have h73 := u12.box h18 ap35
  have ap36 := w8.sameP h20
  have h74 := u12.sameP h20 ap36
  obtain ⟨c5, H⟩ := peel H
  obtain _ | k1 := n1
  · simp [spec_l2System.j2] at H
  simp only [spec_l2System.j2] at H
  refine Opl.app (M := cIVar) (xs := x5b0q3_1) (ys := [(⟨0, 1, 0⟩ : IVar)]) (v := pv1) h72 (.vec h69) oIVar rfl rfl K23 T61 rfl rfl (by (try simp only [List.length_cons, List.length_nil]); omega) (by show (_ + _) * 24 ≤ 140737488355328; (try simp only [List.length_cons, List.length_nil]); omega) rfl rfl rfl rfl rfl ?_
  rintro pv13 S h75 u13 w9
  have ap37 := w9.box h70
  have h76 := u13.box h70 ap7
  have ap38 := w9.box h71
  have h77 := u13.box h71 ap9
  have ap39 := w9.box h73
  have h78 := u13.box h73 ap11.symm
  have ap40 := w9.sameP h74
  have h79 := u13.sameP h74 o2
  have ap41 := w9.vec h69
  have h80 := u13.vec h69 ap34.symm
  refine Opl.one (v := .ptr i4 0) rfl rfl (by simp only [go_sem]; rfl) (Opl.stb (vs := [pv13]) h78 rfl (by exact Vec.cells h75) Z23 rfl (Nat.le_of_ble_eq_true rfl) (by simp only [List.all_cons, List.all_nil, Vec.one h75, Bool.and_true, Bool.true_and] <;> rfl) rfl rfl rfl ?_)
  rintro S (h81 : Box (.ptr i4 0) [pv13, .lit (.slice none 0 0)] _) u14
  have h82 := u14.box h76 ap8
  have h83 := u14.box h77 ap10
  have h84 := u14.sameP h79 o3
  have h85 := u14.vec h80 ap35.symm
  have h86 := u14.vec h75 ap39.symm
  refine Opl.nil (Evr.seq (Evr.regionL [(5, .m), (6, .n), (2, .q), (4, .m)] rfl (by kernel_rfl) (Opl.one rfl rfl (by simp only [go_sem] <;> rfl) (Opl.one (v := .ptr i4 0) rfl rfl (by simp only [go_sem]; rfl) (Opl.ldbk (v := pv13) h81 rfl rfl T23 rfl rfl rfl rfl (Opl.one rfl rfl (by simp only [go_sem] <;> rfl) (Opl.litm (M := (cInt .i64)) (ys := [1, 2, 3, 4, 2, 3, 0]) [.const (.int .i64 1), .const (.int .i64 2), .const (.int .i64 3), .const (.int .i64 4), .const (.int .i64 2), .const (.int .i64 3), .const (.int .i64 0)] K29 T3 rfl rfl rfl (by exact ⟨rfl, rfl, rfl, rfl, rfl, rfl, rfl, trivial⟩) rfl (by decide) rfl rfl rfl ?_)))))))
  rintro pv15 S h87 g2
  have h88 := g2.box h82
  have h89 := g2.box h83
  have h90 := g2.box h81
  have h91 := g2.sameP h84
  have h92 := g2.vec h85
  have h93 := g2.vec h86
  obtain ⟨r5, h_r5, H⟩ := Option.bind_eq_some_iff.1 H
  refine Opl.callbm h88 (spec_l40Rd_num.evb hq0 h88 h87 h_r5) rfl rfl rfl rfl rfl ?_
  rintro _ S rfl h94 u15
  have h95 := u15.box h89 (ap6.symm).pt
  have h96 := u15.box h90 (ap8.symm).pt
  have h97 := u15.sameP h91 OutT.box
  have h98 := u15.vec h92 (ap32.symm).pt
  have h99 := u15.vec h93 (ap37.symm).pt
  obtain ⟨r6, h_r6, H⟩ := Option.bind_eq_some_iff.1 H
  refine Opl.calls (spec_l2Rules.evv hq0 h94 h99 ap37.symm h_r6) rfl rfl rfl rfl rfl ?_
  rintro pv16 S ⟨ids1, h100, f1, h101, u16⟩
  have h102 := u16.box h95 (ap6.symm).pt
  have h103 := u16.box h96 (ap8.symm).pt
  have h104 := u16.sameP h97 OutT.box
  have h105 := u16.vec h98 (ap32.symm).pt
  have h106 := u16.vec h99 (ap37.symm).pt
  have ap42 := f1.box h94
  have ap43 := f1.box h95
  have ap44 := f1.box h96
  have ap45 := f1.sameP h97
  have ap46 := f1.vec h98
  have ap47 := f1.vec h99
  refine Opl.one (v := .ptr i4 1) rfl rfl (by simp only [go_sem]; rfl) (Opl.stb (vs := [pv16]) h103 rfl (by exact oRow_cells h100) Z24 rfl (Nat.le_of_ble_eq_true rfl) (by simp only [List.all_cons, List.all_nil, oRow_p1 h100, Bool.and_true, Bool.true_and] <;> rfl) rfl rfl rfl ?_)
  rintro S (h107 : Box (.ptr i4 0) [pv13, pv16] _) u17
  have h108 := u17.box h101 ap8
  have h109 := u17.box h102 ap10
  have h110 := u17.sameP h104 o3
  have h111 := u17.vec h105 ap35.symm
  have h112 := u17.vec h106 ap39.symm
  have h113 := u17.tree h100 ap44
  refine Opl.nil (Evr.seq (Evr.frzc [] [pv16] h107 h112 ap39.symm ?_))
  rintro pv17 S1_ S h114 u18 u19 h115
  have h116 := u19.box (u18.box h108 ap37) ap8
  have h117 := u19.box (u18.box h109 ap38) ap10
  have h118 := u19.sameP (u18.sameP h110 ap40) o3
  have h119 := u19.vec (u18.vec h111 ap41) ap35.symm
  have h120 := u19.tree (u18.tree h113 ap47) ap44
  have h121 : Sl cIVar (x5b0q3_1 ++ [(⟨0, 1, 0⟩ : IVar)]) pv17 := h114
  have h122 : Box (.ptr i4 0) [pv17, pv16] S := h115
  refine Evr.frzcT [pv17] [] h122 h120 ap44 ?_
  rintro pv18 S1_ S h123 u20 u21 h124
  have h125 := u21.box (u20.box h116 ap42) ap8
  have h126 := u21.box (u20.box h117 ap43) ap10
  have h127 := u21.sameP (u20.sameP h118 ap45) o3
  have h128 := u21.vec (u20.vec h119 ap46) ap35.symm
  have h129 : Sl cIRule r6.2 pv18 := h123
  have h130 : Box (.ptr i4 0) [pv17, pv18] S := h124
  refine Evr.regionN rfl (Opl.ldb (v := .agg [pv17, pv18]) h130 rfl T26 rfl rfl rfl rfl (Opl.stb (vs := [pv17, pv18]) h126 rfl rfl Z26 rfl (Nat.le_of_ble_eq_true rfl) (by simp only [List.all_cons, List.all_nil, h121.one, h129.one, Bool.and_true, Bool.true_and] <;> rfl) rfl rfl rfl ?_))
  rintro S (h131 : Box (.ptr i3 0) [pv17, pv18] _) u22
  have h132 := u22.box h125 ap6
  have h133 := u22.box h130 ap10.symm
  have h134 := u22.sameP h127 o1
  have h135 := u22.vec h128 ap33.symm
  refine Opl.nil ?_
  obtain rfl := Option.some.inj H
  refine Evr.retb (v := .agg [pv17, pv18]) Try.func80 rfl h131 rfl T26 rfl ?_
  exact ⟨_, _, rfl, h121, h129, h132, h134⟩
theorem spec_l2Any.evb {k : Nat} {S0 : Sto} {l0_0 : List Int} {a0_1 : Int} {i0 : Abs.Id} {q0 : PV} (hq0 : Sl (cInt .u8) l0_0 q0) (hb0 : Box (.ptr i0 0) [q0, .lit (.int .i64 a0_1)] S0) {a1 : Int} {r : Int × (List IVar × List IRule)} (H : spec_l2Any.f k l0_0 a0_1 a1 = some r) : RetS Try.prog 48 [.ptr i0 0, .lit (.int .i64 a1)] S0 fun v S => ∃ v_0 v_1, v = .agg [v_0, v_1] ∧ Sl cIVar r.2.1 v_0 ∧ Sl cIRule r.2.2 v_1 ∧ Box (.ptr i0 0) [q0, .lit (.int .i64 r.1)] S ∧ Same S0 S [i0] := by
 have hs0 : Same S0 S0 [i0] := .refl _ _
 unfold spec_l2Any.f at H
 refine RetS.intro Try.func48 rfl (Nat.le_of_ble_eq_true rfl) rfl ?_
 rw [tm2]
 refine Evr.seq (Evr.regionN rfl (Opl.alloc T26 rfl rfl rfl ?_))
 rintro i1 S h1 u1 w1
 have ap1 := w1.sameP hs0
 have h2 := u1.sameP hs0 ap1
 have ap2 := w1.box hb0
 have h3 := u1.box hb0 ap2
 refine Opl.nil (Evr.seq (Evr.regionN rfl (Opl.one rfl rfl (by simp only [go_sem] <;> rfl) (Opl.one rfl rfl (by simp only [go_sem] <;> rfl) ?_))))
 obtain ⟨r1, h_r1, H⟩ := Option.bind_eq_some_iff.1 H
 refine Opl.calls (spec_l2System.evb hq0 h3 h_r1) rfl rfl rfl rfl rfl ?_
 rintro _ S ⟨pv1, pv2, ids1, rfl, h4, w2, h5, f1, ap3, h6, u2⟩
 have h7 := u2.sameP h2 OutT.box
 have h8 := u2.box h1 (ap2.symm).pt
 have ap4 := w2.sameP h2
 have ap5 := w2.box h3
 have ap6 := w2.box h1
 have ap7 := f1.sameP h2
 have ap8 := f1.box h3
 have ap9 := f1.box h1
 refine Opl.alloc T26 rfl rfl rfl ?_
 rintro i2 S h9 u3 w3
 have ap10 := w3.sameP h7
 have h10 := u3.sameP h7 ap10
 have ap11 := w3.box h6
 have h11 := u3.box h6 ap11
 have ap12 := w3.box h8
 have h12 := u3.box h8 ap12
 have ap13 := w3.vec h4
 have h13 := u3.vec h4 ap13
 have ap14 := w3.tree h5
 have h14 := u3.tree h5 ap14
 refine Opl.stb (vs := [pv1, pv2]) h9 rfl rfl Z26 rfl (Nat.le_of_ble_eq_true rfl) (by simp only [List.all_cons, List.all_nil, Vec.one h13, oRow_p1 h14, Bool.and_true, Bool.true_and] <;> rfl) rfl rfl rfl ?_
 rintro S (h15 : Box (.ptr i2 0) [pv1, pv2] _) u4
 have h16 := u4.sameP h10 ap10
 have h17 := u4.box h11 ap11
 have h18 := u4.box h12 ap12
 have h19 := u4.vec h13 ap13
 have h20 := u4.tree h14 ap14
 refine Opl.nil (Evr.seq (Evr.seq (Evr.regionN rfl (Opl.one rfl rfl (by simp only [go_sem] <;> rfl) ?_))))
 obtain ⟨r2, h_r2, H⟩ := Option.bind_eq_some_iff.1 H
 refine Opl.calls (spec_l40Rd_pick.evb hq0 h17 h_r2) rfl rfl rfl rfl rfl ?_
 rintro _ S ⟨rfl, h21, u5⟩
 have h22 := u5.sameP h16 OutT.box
 have h23 := u5.box h18 (ap2.symm).pt
 have h24 := u5.vec h19 (ap5.symm).pt
 have h25 := u5.tree h20 (ap8).pt
 have h26 := u5.box h15 (ap11.symm).pt
 refine Opl.one rfl rfl (by simp only [go_sem] <;> rfl) (Opl.nil ?_)
 by_cases c1 : r2.2 = 0
 case neg =>
  rw [if_neg c1] at H
  have e34 : (r2.2 == 0) = false := by simpa using c1
  try rw [e34]
  refine Evr.condF rfl (Evr.skip (Evr.seq (Evr.frzc [] [pv2] h26 h24 ap13 ?_)))
  rintro pv89 S1_ S h665 u104 u105 h666
  have h667 := u105.sameP (u104.sameP h22 ap4) ap10
  have h668 := u105.box (u104.box h21 ap5) ap11
  have h669 := u105.box (u104.box h23 ap6) ap12
  have h670 := u105.tree (u104.tree h25 ap3) ap14
  have h671 : Sl cIVar r1.2.1 pv89 := h665
  have h672 : Box (.ptr i2 0) [pv89, pv2] S := h666
  refine Evr.frzcT [pv89] [] h672 h670 ap14 ?_
  rintro pv90 S1_ S h673 u106 u107 h674
  have h675 := u107.sameP (u106.sameP h667 ap7) ap10
  have h676 := u107.box (u106.box h668 ap8) ap11
  have h677 := u107.box (u106.box h669 ap9) ap12
  have h678 : Sl cIRule r1.2.2 pv90 := h673
  have h679 : Box (.ptr i2 0) [pv89, pv90] S := h674
  refine Evr.regionN rfl (Opl.ldb (v := .agg [pv89, pv90]) h679 rfl T26 rfl rfl rfl rfl (Opl.stb (vs := [pv89, pv90]) h677 rfl rfl Z26 rfl (Nat.le_of_ble_eq_true rfl) (by simp only [List.all_cons, List.all_nil, h671.one, h678.one, Bool.and_true, Bool.true_and] <;> rfl) rfl rfl rfl ?_))
  rintro S (h680 : Box (.ptr i1 0) [pv89, pv90] _) u108
  have h681 := u108.sameP h675 ap1
  have h682 := u108.box h676 ap2
  have h683 := u108.box h679 ap12.symm
  refine Opl.nil ?_
  obtain rfl := Option.some.inj H
  refine Evr.retb (v := .agg [pv89, pv90]) Try.func48 rfl h680 rfl T26 rfl ?_
  exact ⟨_, _, rfl, h671, h678, h682, h681⟩
 rw [if_pos c1] at H
 have e1 : (r2.2 == 0) = true := by simpa using c1
 try rw [e1]
 refine Evr.condT rfl (Evr.seq (Evr.regionN rfl (Opl.one rfl rfl (by simp only [go_sem] <;> rfl) ?_)))
 obtain ⟨r3, h_r3, H⟩ := Option.bind_eq_some_iff.1 H
 refine Opl.calls (spec_l40Rd_pick.evb hq0 h21 h_r3) rfl rfl rfl rfl rfl ?_
 rintro _ S ⟨rfl, h27, u6⟩
 have h28 := u6.sameP h22 OutT.box
 have h29 := u6.box h23 (ap2.symm).pt
 have h30 := u6.vec h24 (ap5.symm).pt
 have h31 := u6.tree h25 (ap8).pt
 have h32 := u6.box h26 (ap11.symm).pt
 refine Opl.one rfl rfl (by simp only [go_sem] <;> rfl) (Opl.nil (Evr.seq (Evr.regionN rfl (Opl.one rfl rfl (by simp only [go_sem] <;> rfl) (Opl.one rfl rfl (by simp only [go_sem] <;> rfl) (Opl.nil ?_))))))
 by_cases c2 : r3.2 = 0
 case pos =>
  rw [if_pos c2] at H
  have e2 : (r3.2 == 0) = true := by simpa using c2
  try rw [e2]
  refine Evr.condT rfl (Evr.regionD rfl (by kernel_rfl) (Opl.one (v := .ptr i2 0) rfl rfl (by simp only [go_sem]; rfl) (Opl.ldb (v := pv1) h32 rfl T23 rfl rfl rfl rfl (Opl.one (v := .ptr i2 0) rfl rfl (by simp only [go_sem]; rfl) (Opl.ldb (v := pv1) h32 rfl T23 rfl rfl rfl rfl ?_)))))
  obtain ⟨c3, H⟩ := peel H
  obtain ⟨c4, H⟩ := peel H
  refine Opl.idv (M := cIVar) (xs := r1.2.1) (j := (0 : Int)) (v := pv1) h30 rfl rfl (by first | omega | (simp only [List.length_set] at *; omega)) (by first | omega | (simp only [List.length_set] at *; omega)) K23 Z61 rfl rfl ?_
  rintro d1 z1 q1 h33 h34
  refine Opl.one (v := .ptr d1 ((0 : Int).toNat * cIVar.n + 1)) rfl rfl (by simp only [go_sem]; rfl) (Opl.ldvf (M := cIVar) (xs := r1.2.1) (j := (0 : Int)) 1 zIVar h33 h34 (by first | omega | (simp only [List.length_set] at *; omega)) (by first | omega | (simp only [List.length_set] at *; omega)) rfl T3 rfl rfl rfl ?_)
  rintro p1 q2 h35
  obtain rfl := cIVar_R (x := (rd_IVar r1.2.1 (0 : Int))) h35
  refine ⟨.lit (.int .i64 ((rd_IVar r1.2.1 (0 : Int)).f1)), rfl, ?_⟩
  refine Opl.add (k := .i64) (a := ((rd_IVar r1.2.1 (0 : Int)).f1)) (b := 1) K3 rfl rfl rfl rfl (Opl.idv (M := cIVar) (xs := r1.2.1) (j := (0 : Int)) (v := pv1) h30 rfl rfl (by first | omega | (simp only [List.length_set] at *; omega)) (by first | omega | (simp only [List.length_set] at *; omega)) K23 Z61 rfl rfl ?_)
  rintro d2 z2 q3 h36 h37
  refine Opl.one (v := .ptr d2 ((0 : Int).toNat * cIVar.n + 2)) rfl rfl (by simp only [go_sem]; rfl) (Opl.stvf (M := cIVar) (xs := r1.2.1) (j := (0 : Int)) (y := (⟨(rd_IVar r1.2.1 (0 : Int)).f0, (rd_IVar r1.2.1 (0 : Int)).f1, (wrap64 (((rd_IVar r1.2.1 (0 : Int)).f1) + 1))⟩ : IVar)) (vs := [.lit (.int .i64 (wrap64 (((rd_IVar r1.2.1 (0 : Int)).f1) + 1)))]) 2 zIVar h36 h37 (by first | omega | (simp only [List.length_set] at *; omega)) (by first | omega | (simp only [List.length_set] at *; omega)) rfl rfl (by intro c hc; obtain rfl := cIVar_R (x := (rd_IVar r1.2.1 (0 : Int))) hc; exact cIVar_mk) Z3 rfl (by decide) rfl rfl rfl rfl ?_)
  rw [← q3]
  rintro S h38 u7
  have h39 := u7.sameP h28 ap4
  have h40 := u7.box h27 ap5
  have h41 := u7.box h29 ap6
  have h42 := u7.tree h31 ap3
  have h43 := u7.box h32 ap13.symm
  refine Opl.nil (Evr.seq (Evr.frzc [] [pv2] h43 h38 ap13 ?_))
  rintro pv3 S1_ S h44 u8 u9 h45
  have h46 := u9.sameP (u8.sameP h39 ap4) ap10
  have h47 := u9.box (u8.box h40 ap5) ap11
  have h48 := u9.box (u8.box h41 ap6) ap12
  have h49 := u9.tree (u8.tree h42 ap3) ap14
  have h50 : Sl cIVar (r1.2.1.set (0 : Int).toNat (⟨(rd_IVar r1.2.1 (0 : Int)).f0, (rd_IVar r1.2.1 (0 : Int)).f1, (wrap64 (((rd_IVar r1.2.1 (0 : Int)).f1) + 1))⟩ : IVar)) pv3 := h44
  have h51 : Box (.ptr i2 0) [pv3, pv2] S := h45
  refine Evr.frzcT [pv3] [] h51 h49 ap14 ?_
  rintro pv4 S1_ S h52 u10 u11 h53
  have h54 := u11.sameP (u10.sameP h46 ap7) ap10
  have h55 := u11.box (u10.box h47 ap8) ap11
  have h56 := u11.box (u10.box h48 ap9) ap12
  have h57 : Sl cIRule r1.2.2 pv4 := h52
  have h58 : Box (.ptr i2 0) [pv3, pv4] S := h53
  refine Evr.regionN rfl (Opl.ldb (v := .agg [pv3, pv4]) h58 rfl T26 rfl rfl rfl rfl (Opl.stb (vs := [pv3, pv4]) h56 rfl rfl Z26 rfl (Nat.le_of_ble_eq_true rfl) (by simp only [List.all_cons, List.all_nil, h50.one, h57.one, Bool.and_true, Bool.true_and] <;> rfl) rfl rfl rfl ?_))
  rintro S (h59 : Box (.ptr i1 0) [pv3, pv4] _) u12
  have h60 := u12.sameP h54 ap1
  have h61 := u12.box h55 ap2
  have h62 := u12.box h58 ap12.symm
  refine Opl.nil ?_
  obtain rfl := Option.some.inj H
  refine Evr.retb (v := .agg [pv3, pv4]) Try.func48 rfl h59 rfl T26 rfl ?_
  exact ⟨_, _, rfl, h50, h57, h61, h60⟩
 rw [if_neg c2] at H
 have e3 : (r3.2 == 0) = false := by simpa using c2
 try rw [e3]
 refine Evr.condF rfl (Evr.seq (Evr.regionN rfl (Opl.one rfl rfl (by simp only [go_sem] <;> rfl) (Opl.one rfl rfl (by simp only [go_sem] <;> rfl) (Opl.nil ?_)))))
 by_cases c5 : r3.2 = 1
 case pos =>
  rw [if_pos c5] at H
  have e4 : (r3.2 == 1) = true := by simpa using c5
  try rw [e4]
  refine Evr.condT rfl (Evr.regionL [(9, .m), (1, .q), (3, .q), (6, .q), (8, .m)] rfl (by kernel_rfl) (Opl.one (v := .ptr i2 0) rfl rfl (by simp only [go_sem]; rfl) (Opl.ldbk (v := pv1) h32 (rd_tre h31) rfl T23 rfl rfl rfl rfl (Opl.one (v := .ptr i2 0) rfl rfl (by simp only [go_sem]; rfl) (Opl.ldbk (v := pv1) h32 (rd_tre h31) rfl T23 rfl rfl rfl rfl ?_)))))
  obtain ⟨c6, H⟩ := peel H
  refine Opl.idv (M := cIVar) (xs := r1.2.1) (j := (0 : Int)) (v := pv1) h30 rfl rfl (by first | omega | (simp only [List.length_set] at *; omega)) (by first | omega | (simp only [List.length_set] at *; omega)) K23 Z61 rfl rfl ?_
  rintro d3 z3 q4 h63 h64
  refine Opl.one (v := .ptr d3 ((0 : Int).toNat * cIVar.n + 0)) rfl rfl (by simp only [go_sem]; rfl) (Opl.ldvk (M := cIVar) (xs := r1.2.1) (j := (0 : Int)) 0 zIVar h63 h64 (by first | omega | (simp only [List.length_set] at *; omega)) (by first | omega | (simp only [List.length_set] at *; omega)) (by decide) rfl T3 rfl rfl rfl ?_)
  rintro p2 q5 h65
  obtain rfl := cIVar_R (x := (rd_IVar r1.2.1 (0 : Int))) h65
  refine ⟨.lit (.int .i64 ((rd_IVar r1.2.1 (0 : Int)).f0)), rfl, ?_⟩
  refine Opl.one rfl rfl (by simp only [go_sem] <;> rfl) (Opl.litm (M := (cInt .i64)) (ys := [(-1), 20, 19]) [.const (.int .i64 (-1)), .const (.int .i64 20), .const (.int .i64 19)] K29 T3 rfl rfl rfl (by exact ⟨rfl, rfl, rfl, trivial⟩) rfl (by decide) rfl rfl rfl ?_)
  rintro pv6 S h66 g1
  have h67 := g1.sameP h28
  have h68 := g1.box h27
  have h69 := g1.box h29
  have h70 := g1.vec h30
  have h71 := g1.tree h31
  have h72 := g1.box h32
  obtain ⟨r4, h_r4, H⟩ := Option.bind_eq_some_iff.1 H
  refine Opl.callbm h68 (spec_l40Rd_num.evb hq0 h68 h66 h_r4) rfl rfl rfl rfl rfl ?_
  rintro _ S rfl h73 u13
  have h74 := u13.sameP h67 OutT.box
  have h75 := u13.box h69 (ap2.symm).pt
  have h76 := u13.vec h70 (ap5.symm).pt
  have h77 := u13.tree h71 (ap8).pt
  have h78 := u13.box h72 (ap11.symm).pt
  refine Opl.add (k := .i64) (a := ((rd_IVar r1.2.1 (0 : Int)).f0)) (b := r4.2) K3 rfl rfl rfl rfl ?_
  obtain ⟨c7, H⟩ := peel H
  refine Opl.idv (M := cIVar) (xs := r1.2.1) (j := (0 : Int)) (v := pv1) h76 rfl rfl (by first | omega | (simp only [List.length_set] at *; omega)) (by first | omega | (simp only [List.length_set] at *; omega)) K23 Z61 rfl rfl ?_
  rintro d4 z4 q6 h79 h80
  refine Opl.one (v := .ptr d4 ((0 : Int).toNat * cIVar.n + 1)) rfl rfl (by simp only [go_sem]; rfl) (Opl.stvf (M := cIVar) (xs := r1.2.1) (j := (0 : Int)) (y := (⟨(rd_IVar r1.2.1 (0 : Int)).f0, (wrap64 (((rd_IVar r1.2.1 (0 : Int)).f0) + r4.2)), (rd_IVar r1.2.1 (0 : Int)).f2⟩ : IVar)) (vs := [.lit (.int .i64 (wrap64 (((rd_IVar r1.2.1 (0 : Int)).f0) + r4.2)))]) 1 zIVar h79 h80 (by first | omega | (simp only [List.length_set] at *; omega)) (by first | omega | (simp only [List.length_set] at *; omega)) rfl rfl (by intro c hc; obtain rfl := cIVar_R (x := (rd_IVar r1.2.1 (0 : Int))) hc; exact cIVar_mk) Z3 rfl (by decide) rfl rfl rfl rfl ?_)
  rw [← q6]
  rintro S h81 u14
  have h82 := u14.sameP h74 ap4
  have h83 := u14.box h73 ap5
  have h84 := u14.box h75 ap6
  have h85 := u14.tree h77 ap3
  have h86 := u14.box h78 ap13.symm
  refine Opl.nil (Evr.seq (Evr.frzc [] [pv2] h86 h81 ap13 ?_))
  rintro pv7 S1_ S h87 u15 u16 h88
  have h89 := u16.sameP (u15.sameP h82 ap4) ap10
  have h90 := u16.box (u15.box h83 ap5) ap11
  have h91 := u16.box (u15.box h84 ap6) ap12
  have h92 := u16.tree (u15.tree h85 ap3) ap14
  have h93 : Sl cIVar (r1.2.1.set (0 : Int).toNat (⟨(rd_IVar r1.2.1 (0 : Int)).f0, (wrap64 (((rd_IVar r1.2.1 (0 : Int)).f0) + r4.2)), (rd_IVar r1.2.1 (0 : Int)).f2⟩ : IVar)) pv7 := h87
  have h94 : Box (.ptr i2 0) [pv7, pv2] S := h88
  refine Evr.frzcT [pv7] [] h94 h92 ap14 ?_
  rintro pv8 S1_ S h95 u17 u18 h96
  have h97 := u18.sameP (u17.sameP h89 ap7) ap10
  have h98 := u18.box (u17.box h90 ap8) ap11
  have h99 := u18.box (u17.box h91 ap9) ap12
  have h100 : Sl cIRule r1.2.2 pv8 := h95
  have h101 : Box (.ptr i2 0) [pv7, pv8] S := h96
  refine Evr.regionN rfl (Opl.ldb (v := .agg [pv7, pv8]) h101 rfl T26 rfl rfl rfl rfl (Opl.stb (vs := [pv7, pv8]) h99 rfl rfl Z26 rfl (Nat.le_of_ble_eq_true rfl) (by simp only [List.all_cons, List.all_nil, h93.one, h100.one, Bool.and_true, Bool.true_and] <;> rfl) rfl rfl rfl ?_))
  rintro S (h102 : Box (.ptr i1 0) [pv7, pv8] _) u19
  have h103 := u19.sameP h97 ap1
  have h104 := u19.box h98 ap2
  have h105 := u19.box h101 ap12.symm
  refine Opl.nil ?_
  obtain rfl := Option.some.inj H
  refine Evr.retb (v := .agg [pv7, pv8]) Try.func48 rfl h102 rfl T26 rfl ?_
  exact ⟨_, _, rfl, h93, h100, h104, h103⟩
 rw [if_neg c5] at H
 have e5 : (r3.2 == 1) = false := by simpa using c5
 try rw [e5]
 refine Evr.condF rfl (Evr.seq (Evr.regionN rfl (Opl.one rfl rfl (by simp only [go_sem] <;> rfl) (Opl.one rfl rfl (by simp only [go_sem] <;> rfl) (Opl.one rfl rfl (by simp only [go_sem] <;> rfl) ?_)))))
 by_cases c8 : r3.2 = 2
 case neg =>
  rw [if_neg c8] at H
  have e21 : (r3.2 == 2) = false := by simpa using c8
  try rw [e21]
  refine Opl.skp rfl (Opl.skp rfl (Opl.skp rfl (Opl.skp rfl (Opl.one rfl rfl (by simp only [go_sem] <;> rfl) (Opl.nil (Evr.condF rfl (Evr.seq (Evr.regionN rfl (Opl.one rfl rfl (by simp only [go_sem] <;> rfl) (Opl.one rfl rfl (by simp only [go_sem] <;> rfl) (Opl.one rfl rfl (by simp only [go_sem] <;> rfl) ?_)))))))))))
  by_cases c19 : r3.2 = 3
  case neg =>
   rw [if_neg c19] at H
   have e29 : (r3.2 == 3) = false := by simpa using c19
   try rw [e29]
   refine Opl.skp rfl (Opl.skp rfl (Opl.skp rfl (Opl.skp rfl (Opl.one rfl rfl (by simp only [go_sem] <;> rfl) (Opl.nil (Evr.condF rfl (Evr.seq (Evr.regionN rfl (Opl.one rfl rfl (by simp only [go_sem] <;> rfl) (Opl.one rfl rfl (by simp only [go_sem] <;> rfl) (Opl.nil ?_)))))))))))
   by_cases c25 : r3.2 = 4
   case pos =>
    rw [if_pos c25] at H
    have e30 : (r3.2 == 4) = true := by simpa using c25
    try rw [e30]
    refine Evr.condT rfl (Evr.regionN rfl (Opl.one (v := .ptr i2 0) rfl rfl (by simp only [go_sem]; rfl) (Opl.stb (vs := [.lit (.slice none 0 0)]) h32 rfl rfl Z23 rfl (Nat.le_of_ble_eq_true rfl) rfl rfl rfl rfl ?_)))
    rintro S (h563 : Box (.ptr i2 0) [.lit (.slice none 0 0), pv2] _) u88
    have h564 := u88.sameP h28 ap10
    have h565 := u88.box h27 ap11
    have h566 := u88.box h29 ap12
    have h567 := u88.vec h30 ap13
    have h568 := u88.tree h31 ap14
    refine Opl.nil (Evr.seq (Evr.frzcT [.lit (.slice none 0 0)] [] h563 h568 ap14 ?_))
    rintro pv75 S1_ S h569 u89 u90 h570
    have h571 := u90.sameP (u89.sameP h564 ap7) ap10
    have h572 := u90.box (u89.box h565 ap8) ap11
    have h573 := u90.box (u89.box h566 ap9) ap12
    have h574 := u90.vec (u89.vec h567 ap3) ap13
    have h575 : Sl cIRule r1.2.2 pv75 := h569
    have h576 : Box (.ptr i2 0) [.lit (.slice none 0 0), pv75] S := h570
    refine Evr.regionN rfl (Opl.ldb (v := .agg [.lit (.slice none 0 0), pv75]) h576 rfl T26 rfl rfl rfl rfl (Opl.stb (vs := [.lit (.slice none 0 0), pv75]) h573 rfl rfl Z26 rfl (Nat.le_of_ble_eq_true rfl) (by simp only [List.all_cons, List.all_nil, h575.one, Bool.and_true, Bool.true_and] <;> rfl) rfl rfl rfl ?_))
    rintro S (h577 : Box (.ptr i1 0) [.lit (.slice none 0 0), pv75] _) u91
    have h578 := u91.sameP h571 ap1
    have h579 := u91.box h572 ap2
    have h580 := u91.vec h574 ap6.symm
    have h581 := u91.box h576 ap12.symm
    refine Opl.nil ?_
    obtain rfl := Option.some.inj H
    refine Evr.retb (v := .agg [.lit (.slice none 0 0), pv75]) Try.func48 rfl h577 rfl T26 rfl ?_
    exact ⟨_, _, rfl, .nil, h575, h579, h578⟩
   rw [if_neg c25] at H
   have e31 : (r3.2 == 4) = false := by simpa using c25
   try rw [e31]
   refine Evr.condF rfl (Evr.seq (Evr.regionN rfl (Opl.one (v := .ptr i2 1) rfl rfl (by simp only [go_sem]; rfl) (Opl.ldb (v := pv2) h32 rfl T24 rfl rfl rfl rfl (Opl.leno (by exact oRow_len h31) K24 rfl rfl rfl rfl (Opl.one rfl rfl (by simp only [go_sem] <;> rfl) (Opl.nil ?_)))))))
   by_cases c26 : (r1.2.2.length : Int) > 0
   case neg =>
    rw [if_neg c26] at H
    have e33 : (decide ((r1.2.2.length : Int) > 0)) = false := by simpa using c26
    try rw [e33]
    refine Evr.condF rfl (Evr.skip (Evr.seq (Evr.frzc [] [pv2] h32 h30 ap13 ?_)))
    rintro pv87 S1_ S h646 u99 u100 h647
    have h648 := u100.sameP (u99.sameP h28 ap4) ap10
    have h649 := u100.box (u99.box h27 ap5) ap11
    have h650 := u100.box (u99.box h29 ap6) ap12
    have h651 := u100.tree (u99.tree h31 ap3) ap14
    have h652 : Sl cIVar r1.2.1 pv87 := h646
    have h653 : Box (.ptr i2 0) [pv87, pv2] S := h647
    refine Evr.frzcT [pv87] [] h653 h651 ap14 ?_
    rintro pv88 S1_ S h654 u101 u102 h655
    have h656 := u102.sameP (u101.sameP h648 ap7) ap10
    have h657 := u102.box (u101.box h649 ap8) ap11
    have h658 := u102.box (u101.box h650 ap9) ap12
    have h659 : Sl cIRule r1.2.2 pv88 := h654
    have h660 : Box (.ptr i2 0) [pv87, pv88] S := h655
    refine Evr.regionN rfl (Opl.ldb (v := .agg [pv87, pv88]) h660 rfl T26 rfl rfl rfl rfl (Opl.stb (vs := [pv87, pv88]) h658 rfl rfl Z26 rfl (Nat.le_of_ble_eq_true rfl) (by simp only [List.all_cons, List.all_nil, h652.one, h659.one, Bool.and_true, Bool.true_and] <;> rfl) rfl rfl rfl ?_))
    rintro S (h661 : Box (.ptr i1 0) [pv87, pv88] _) u103
    have h662 := u103.sameP h656 ap1
    have h663 := u103.box h657 ap2
    have h664 := u103.box h660 ap12.symm
    refine Opl.nil ?_
    obtain rfl := Option.some.inj H
    refine Evr.retb (v := .agg [pv87, pv88]) Try.func48 rfl h661 rfl T26 rfl ?_
    exact ⟨_, _, rfl, h652, h659, h663, h662⟩
   rw [if_pos c26] at H
   have e32 : (decide ((r1.2.2.length : Int) > 0)) = true := by simpa using c26
   try rw [e32]
   refine Evr.condT rfl ?_
   obtain ⟨d11, pv76, pv77, pv78, q13, j7, rfl, h582, h583, h584, h585, h586, ap91, ap92, ap93, ap94, ap95, ap96, z29, z30, z31, z32⟩ := od3_open0 h31 (zIRule : IRule) (by omega)
   refine Evr.regionL [(1, .q), (3, .q), (6, .q), (8, .m), (9, .m), (10, .m)] rfl (by kernel_rfl) (Opl.one (v := .ptr i2 1) rfl rfl (by simp only [go_sem]; rfl) (Opl.ldbk (v := .loc d11 0 r1.2.2.length) h32 rfl rfl T24 rfl rfl rfl rfl (Opl.one (v := .ptr i2 1) rfl rfl (by simp only [go_sem]; rfl) (Opl.ldbk (v := .loc d11 0 r1.2.2.length) h32 rfl rfl T24 rfl rfl rfl rfl (Opl.id0 rfl rfl (by omega) K24 Z72 rfl rfl (Opl.one (v := .ptr d11 2) rfl rfl (by simp only [go_sem]; rfl) (Opl.ldok (v := pv78) h582 (rd_row (by decide)) rfl T70 rfl rfl rfl rfl ?_)))))))
   obtain ⟨r9, h_r9, H⟩ := Option.bind_eq_some_iff.1 H
   refine Opl.call (spec_l2Const.ev h_r9) rfl rfl rfl rfl ⟨(.lit _), trivial⟩ (by decide) ?_
   rintro _ ⟨_, _, _, _, rfl, rfl, rfl, rfl, rfl⟩
   refine Opl.litm (M := cITerm) (ys := [(⟨r9.1, r9.2.1, r9.2.2.1, r9.2.2.2⟩ : ITerm)]) [.tmp 92] K44 T95 rfl rfl rfl (by exact ⟨cITerm_mk, trivial⟩) rfl (by decide) rfl rfl rfl ?_
   rintro pv81 S h588 g11
   have h589 := g11.sameP h28
   have h590 := g11.box h27
   have h591 := g11.box h29
   have h592 := g11.vec h30
   have h593 := g11.box h32
   have h594 := g11.vec h584
   have h595 := g11.vec h585
   have h596 := g11.rows h586
   have h597 := g11.obj h582
   refine Opl.litm (M := (cSl cITerm)) (ys := [[(⟨r9.1, r9.2.1, r9.2.2.1, r9.2.2.2⟩ : ITerm)]]) [.tmp 93] K70 T44 rfl rfl rfl (by exact ⟨⟨_, by first | rfl | exact h588.cells, h588⟩, trivial⟩) rfl (by decide) rfl rfl rfl ?_
   rintro pv83 S h598 g12
   have h599 := g12.sameP h589
   have h600 := g12.box h590
   have h601 := g12.box h591
   have h602 := g12.vec h592
   have h603 := g12.box h593
   have h604 := g12.vec h594
   have h605 := g12.vec h595
   have h606 := g12.rows h596
   have h607 := g12.obj h597
   obtain ⟨c27, H⟩ := peel H
   refine Opl.appm rfl (M := (cSl cITerm)) (xs := ((r1.2.2.getD 0 (zIRule : IRule)).f2)) (ys := [[(⟨r9.1, r9.2.1, r9.2.2.1, r9.2.2.2⟩ : ITerm)]]) (v := pv78) h605 (.sl h598) (oSl cITerm) rfl rfl K70 T44 rfl rfl (by (try simp only [List.length_cons, List.length_nil]); omega) (by show (_ + _) * 24 ≤ 140737488355328; (try simp only [List.length_cons, List.length_nil]); omega) rfl rfl rfl rfl rfl ?_
   rintro pv84 S h608 u92 w35
   have ap97 := w35.sameP h599
   have h609 := u92.sameP h599 (OutT.sub ap7 z30)
   have ap98 := w35.box h600
   have h610 := u92.box h600 (ApT.sub ap8 z30).ap
   have ap99 := w35.box h601
   have h611 := u92.box h601 (ApT.sub ap9 z30).ap
   have ap100 := w35.vec h602
   have h612 := u92.vec h602 (ApT.sub ap3 z30).ap
   have ap101 := w35.box h603
   have h613 := u92.box h603 (ApT.sub ap14 z30).ap
   have ap102 := w35.vec h604
   have h614 := u92.vec h604 ap91
   have ap103 := w35.rows h606
   have h615 := u92.rows h606 ap95
   have ap104 := w35.obj h607
   have h616 := u92.obj h607 ap93.symm
   refine Opl.id0 rfl rfl (by omega) K24 Z72 rfl rfl (Opl.one (v := .ptr d11 2) rfl rfl (by simp only [go_sem]; rfl) (Opl.stob (cs' := pv76 :: pv77 :: pv84 :: q13) (vs := [pv84]) h616 rfl (by exact Vec.cells h608) rfl Z70 rfl (by simp only [List.length_cons]; omega) (by simp only [List.all_cons, List.all_nil, Vec.one h608, Bool.and_true, Bool.true_and] <;> rfl) rfl rfl rfl ?_))
   rintro S h617 u93
   have h618 := u93.sameP h609 (OutT.sub ap7 z31)
   have h619 := u93.box h610 (ApT.sub ap8 z31).ap
   have h620 := u93.box h611 (ApT.sub ap9 z31).ap
   have h621 := u93.vec h612 (ApT.sub ap3 z31).ap
   have h622 := u93.box h613 (ApT.sub ap14 z31).ap
   have h623 := u93.vec h614 ap92
   have h624 := u93.rows h615 ap96
   have h625 := u93.vec h608 ap104.symm
   have h626 : (oRow odIRule).R S (d11 :: ((pv77.id?.toList ++ pv84.id?.toList) ++ j7)) ((⟨(r1.2.2.getD 0 (zIRule : IRule)).f0, (r1.2.2.getD 0 (zIRule : IRule)).f1, (((r1.2.2.getD 0 (zIRule : IRule)).f2) ++ [[(⟨r9.1, r9.2.1, r9.2.2.1, r9.2.2.2⟩ : ITerm)]])⟩ : IRule) :: r1.2.2.tail) [(PV.loc d11 0 r1.2.2.length)] := od3_close0 (l := r1.2.2) rfl (by rw [List.length_tail]; omega) h617 h583 h623 h625 h624 ap102 ap92 ap104.symm ap94 ap103 ap96
   refine Opl.nil (Evr.seq (Evr.frzc [] [(PV.loc d11 0 r1.2.2.length)] h622 h621 ap13 ?_))
   rintro pv85 S1_ S h627 u94 u95 h628
   have h629 := u95.sameP (u94.sameP h618 ap4) ap10
   have h630 := u95.box (u94.box h619 ap5) ap11
   have h631 := u95.box (u94.box h620 ap6) ap12
   have h632 := u95.tree (u94.tree h626 (ApT.cons (ApT.sub ap3 z31).ap ((ApT.app (Ap.apT (ApT.sub ap3 z29).ap) (Ap.apT ap100)).app (ApT.sub ap3 z32)))) (ApT.cons (ApT.sub ap14 z31).ap ((ApT.app (Ap.apT (ApT.sub ap14 z29).ap) (Ap.apT ap101)).app (ApT.sub ap14 z32)))
   have h633 : Sl cIVar r1.2.1 pv85 := h627
   have h634 : Box (.ptr i2 0) [pv85, (PV.loc d11 0 r1.2.2.length)] S := h628
   refine Evr.frzcT [pv85] [] h634 h632 (ApT.cons (ApT.sub ap14 z31).ap ((ApT.app (Ap.apT (ApT.sub ap14 z29).ap) (Ap.apT ap101)).app (ApT.sub ap14 z32))) ?_
   rintro pv86 S1_ S h635 u96 u97 h636
   have h637 := u97.sameP (u96.sameP h629 (OutT.cons (OutT.sub ap7 z31) ((OutT.app (OutT.sub ap7 z29) ap97).app (OutT.sub ap7 z32)))) ap10
   have h638 := u97.box (u96.box h630 (ApT.cons (ApT.sub ap8 z31).ap ((ApT.app (Ap.apT (ApT.sub ap8 z29).ap) (Ap.apT ap98)).app (ApT.sub ap8 z32)))) ap11
   have h639 := u97.box (u96.box h631 (ApT.cons (ApT.sub ap9 z31).ap ((ApT.app (Ap.apT (ApT.sub ap9 z29).ap) (Ap.apT ap99)).app (ApT.sub ap9 z32)))) ap12
   have h640 : Sl cIRule ((⟨(r1.2.2.getD 0 (zIRule : IRule)).f0, (r1.2.2.getD 0 (zIRule : IRule)).f1, (((r1.2.2.getD 0 (zIRule : IRule)).f2) ++ [[(⟨r9.1, r9.2.1, r9.2.2.1, r9.2.2.2⟩ : ITerm)]])⟩ : IRule) :: r1.2.2.tail) pv86 := h635
   have h641 : Box (.ptr i2 0) [pv85, pv86] S := h636
   refine Evr.regionN rfl (Opl.ldb (v := .agg [pv85, pv86]) h641 rfl T26 rfl rfl rfl rfl (Opl.stb (vs := [pv85, pv86]) h639 rfl rfl Z26 rfl (Nat.le_of_ble_eq_true rfl) (by simp only [List.all_cons, List.all_nil, h633.one, h640.one, Bool.and_true, Bool.true_and] <;> rfl) rfl rfl rfl ?_))
   rintro S (h642 : Box (.ptr i1 0) [pv85, pv86] _) u98
   have h643 := u98.sameP h637 ap1
   have h644 := u98.box h638 ap2
   have h645 := u98.box h641 ap12.symm
   refine Opl.nil ?_
   obtain rfl := Option.some.inj H
   refine Evr.retb (v := .agg [pv85, pv86]) Try.func48 rfl h642 rfl T26 rfl ?_
   exact ⟨_, _, rfl, h633, h640, h644, h643⟩
  rw [if_pos c19] at H
  have e22 : (r3.2 == 3) = true := by simpa using c19
  try rw [e22]
  refine Opl.one (v := .ptr i2 1) rfl rfl (by simp only [go_sem]; rfl) (Opl.ldb (v := pv2) h32 rfl T24 rfl rfl rfl rfl (Opl.leno (by exact oRow_len h31) K24 rfl rfl rfl rfl (Opl.one rfl rfl (by simp only [go_sem] <;> rfl) (Opl.one rfl rfl (by simp only [go_sem] <;> rfl) (Opl.nil ?_)))))
  by_cases c20 : (r1.2.2.length : Int) > 0
  case pos =>
   rw [if_pos c20] at H
   have e23 : (decide ((r1.2.2.length : Int) > 0)) = true := by simpa using c20
   try rw [e23]
   refine Evr.condT rfl ?_
   obtain ⟨d9, pv53, pv54, pv55, q11, j5, rfl, h408, h409, h410, h411, h412, ap63, ap64, ap65, ap66, ap67, ap68, z21, z22, z23, z24⟩ := od3_open0 h31 (zIRule : IRule) (by omega)
   refine Evr.regionL [(1, .q), (3, .q), (6, .q), (8, .q), (10, .m), (11, .m)] rfl (by kernel_rfl) (Opl.one (v := .ptr i2 1) rfl rfl (by simp only [go_sem]; rfl) (Opl.ldbk (v := .loc d9 0 r1.2.2.length) h32 rfl rfl T24 rfl rfl rfl rfl (Opl.one (v := .ptr i2 1) rfl rfl (by simp only [go_sem]; rfl) (Opl.ldbk (v := .loc d9 0 r1.2.2.length) h32 rfl rfl T24 rfl rfl rfl rfl ?_))))
   obtain ⟨c21, H⟩ := peel H
   refine Opl.id0 rfl rfl (by omega) K24 Z72 rfl rfl (Opl.one (v := .ptr d9 1) rfl rfl (by simp only [go_sem]; rfl) (Opl.ldok (v := pv54) h408 (rd_row (by decide)) rfl T29 rfl rfl rfl rfl (Opl.one (v := .ptr i2 0) rfl rfl (by simp only [go_sem]; rfl) (Opl.ldbk (v := pv1) h32 rfl rfl T23 rfl rfl rfl rfl (Opl.lenv (xs := r1.2.1) (by exact h30) K23 rfl rfl rfl rfl (Opl.litm (M := (cInt .i64)) (ys := [(r1.2.1.length : Int)]) [.tmp 73] K29 T3 rfl rfl rfl (by exact ⟨rfl, trivial⟩) rfl (by decide) rfl rfl rfl ?_))))))
   rintro pv57 S h413 g8
   have h414 := g8.sameP h28
   have h415 := g8.box h27
   have h416 := g8.box h29
   have h417 := g8.vec h30
   have h418 := g8.box h32
   have h419 := g8.vec h410
   have h420 := g8.vec h411
   have h421 := g8.rows h412
   have h422 := g8.obj h408
   refine Opl.appm rfl (M := (cInt .i64)) (xs := ((r1.2.2.getD 0 (zIRule : IRule)).f1)) (ys := [(r1.2.1.length : Int)]) (v := pv54) h419 (.sl h413) (oInt .i64) rfl rfl K29 T3 rfl rfl (by (try simp only [List.length_cons, List.length_nil]); omega) (by show (_ + _) * 8 ≤ 140737488355328; (try simp only [List.length_cons, List.length_nil]); omega) rfl rfl rfl rfl rfl ?_
   rintro pv58 S h423 u65 w24
   have ap69 := w24.sameP h414
   have h424 := u65.sameP h414 (OutT.sub ap7 z21)
   have ap70 := w24.box h415
   have h425 := u65.box h415 (ApT.sub ap8 z21).ap
   have ap71 := w24.box h416
   have h426 := u65.box h416 (ApT.sub ap9 z21).ap
   have ap72 := w24.vec h417
   have h427 := u65.vec h417 (ApT.sub ap3 z21).ap
   have ap73 := w24.box h418
   have h428 := u65.box h418 (ApT.sub ap14 z21).ap
   have ap74 := w24.vec h420
   have h429 := u65.vec h420 ap63.symm
   have ap75 := w24.rows h421
   have h430 := u65.rows h421 ap66
   have ap76 := w24.obj h422
   have h431 := u65.obj h422 ap64.symm
   refine Opl.id0 rfl rfl (by omega) K24 Z72 rfl rfl (Opl.one (v := .ptr d9 1) rfl rfl (by simp only [go_sem]; rfl) (Opl.stob (cs' := pv53 :: pv58 :: pv55 :: q11) (vs := [pv58]) h431 rfl (by exact Vec.cells h423) rfl Z29 rfl (by simp only [List.length_cons]; omega) (by simp only [List.all_cons, List.all_nil, Vec.one h423, Bool.and_true, Bool.true_and] <;> rfl) rfl rfl rfl ?_))
   rintro S h432 u66
   have h433 := u66.sameP h424 (OutT.sub ap7 z23)
   have h434 := u66.box h425 (ApT.sub ap8 z23).ap
   have h435 := u66.box h426 (ApT.sub ap9 z23).ap
   have h436 := u66.vec h427 (ApT.sub ap3 z23).ap
   have h437 := u66.box h428 (ApT.sub ap14 z23).ap
   have h438 := u66.vec h429 ap65
   have h439 := u66.rows h430 ap68
   have h440 := u66.vec h423 ap76.symm
   have h441 : (oRow odIRule).R S (d9 :: ((pv58.id?.toList ++ pv55.id?.toList) ++ j5)) ((⟨(r1.2.2.getD 0 (zIRule : IRule)).f0, (((r1.2.2.getD 0 (zIRule : IRule)).f1) ++ [(r1.2.1.length : Int)]), (r1.2.2.getD 0 (zIRule : IRule)).f2⟩ : IRule) :: r1.2.2.tail) [(PV.loc d9 0 r1.2.2.length)] := od3_close0 (l := r1.2.2) rfl (by rw [List.length_tail]; omega) h432 h409 h440 h438 h439 ap74.symm ap76.symm ap65 ap75 ap67 ap68
   refine Opl.nil (Evr.seq (Evr.frzc [] [(PV.loc d9 0 r1.2.2.length)] h437 h436 ap13 ?_))
   rintro pv59 S1_ S h442 u67 u68 h443
   have h444 := u68.sameP (u67.sameP h433 ap4) ap10
   have h445 := u68.box (u67.box h434 ap5) ap11
   have h446 := u68.box (u67.box h435 ap6) ap12
   have h447 := u68.tree (u67.tree h441 (ApT.cons (ApT.sub ap3 z23).ap ((ApT.app (Ap.apT ap72) (Ap.apT (ApT.sub ap3 z22).ap)).app (ApT.sub ap3 z24)))) (ApT.cons (ApT.sub ap14 z23).ap ((ApT.app (Ap.apT ap73) (Ap.apT (ApT.sub ap14 z22).ap)).app (ApT.sub ap14 z24)))
   have h448 : Sl cIVar r1.2.1 pv59 := h442
   have h449 : Box (.ptr i2 0) [pv59, (PV.loc d9 0 r1.2.2.length)] S := h443
   refine Evr.frzcT [pv59] [] h449 h447 (ApT.cons (ApT.sub ap14 z23).ap ((ApT.app (Ap.apT ap73) (Ap.apT (ApT.sub ap14 z22).ap)).app (ApT.sub ap14 z24))) ?_
   rintro pv60 S1_ S h450 u69 u70 h451
   have h452 := u70.sameP (u69.sameP h444 (OutT.cons (OutT.sub ap7 z23) ((OutT.app ap69 (OutT.sub ap7 z22)).app (OutT.sub ap7 z24)))) ap10
   have h453 := u70.box (u69.box h445 (ApT.cons (ApT.sub ap8 z23).ap ((ApT.app (Ap.apT ap70) (Ap.apT (ApT.sub ap8 z22).ap)).app (ApT.sub ap8 z24)))) ap11
   have h454 := u70.box (u69.box h446 (ApT.cons (ApT.sub ap9 z23).ap ((ApT.app (Ap.apT ap71) (Ap.apT (ApT.sub ap9 z22).ap)).app (ApT.sub ap9 z24)))) ap12
   have h455 : Sl cIRule ((⟨(r1.2.2.getD 0 (zIRule : IRule)).f0, (((r1.2.2.getD 0 (zIRule : IRule)).f1) ++ [(r1.2.1.length : Int)]), (r1.2.2.getD 0 (zIRule : IRule)).f2⟩ : IRule) :: r1.2.2.tail) pv60 := h450
   have h456 : Box (.ptr i2 0) [pv59, pv60] S := h451
   refine Evr.regionN rfl (Opl.ldb (v := .agg [pv59, pv60]) h456 rfl T26 rfl rfl rfl rfl (Opl.stb (vs := [pv59, pv60]) h454 rfl rfl Z26 rfl (Nat.le_of_ble_eq_true rfl) (by simp only [List.all_cons, List.all_nil, h448.one, h455.one, Bool.and_true, Bool.true_and] <;> rfl) rfl rfl rfl ?_))
   rintro S (h457 : Box (.ptr i1 0) [pv59, pv60] _) u71
   have h458 := u71.sameP h452 ap1
   have h459 := u71.box h453 ap2
   have h460 := u71.box h456 ap12.symm
   refine Opl.nil ?_
   obtain rfl := Option.some.inj H
   refine Evr.retb (v := .agg [pv59, pv60]) Try.func48 rfl h457 rfl T26 rfl ?_
   exact ⟨_, _, rfl, h448, h455, h459, h458⟩
  rw [if_neg c20] at H
  have e24 : (decide ((r1.2.2.length : Int) > 0)) = false := by simpa using c20
  try rw [e24]
  refine Evr.condF rfl (Evr.seq (Evr.regionN rfl (Opl.one rfl rfl (by simp only [go_sem] <;> rfl) (Opl.one rfl rfl (by simp only [go_sem] <;> rfl) (Opl.nil ?_)))))
  by_cases c22 : r3.2 = 4
  case pos =>
   rw [if_pos c22] at H
   have e25 : (r3.2 == 4) = true := by simpa using c22
   try rw [e25]
   refine Evr.condT rfl (Evr.regionN rfl (Opl.one (v := .ptr i2 0) rfl rfl (by simp only [go_sem]; rfl) (Opl.stb (vs := [.lit (.slice none 0 0)]) h32 rfl rfl Z23 rfl (Nat.le_of_ble_eq_true rfl) rfl rfl rfl rfl ?_)))
   rintro S (h461 : Box (.ptr i2 0) [.lit (.slice none 0 0), pv2] _) u72
   have h462 := u72.sameP h28 ap10
   have h463 := u72.box h27 ap11
   have h464 := u72.box h29 ap12
   have h465 := u72.vec h30 ap13
   have h466 := u72.tree h31 ap14
   refine Opl.nil (Evr.seq (Evr.frzcT [.lit (.slice none 0 0)] [] h461 h466 ap14 ?_))
   rintro pv61 S1_ S h467 u73 u74 h468
   have h469 := u74.sameP (u73.sameP h462 ap7) ap10
   have h470 := u74.box (u73.box h463 ap8) ap11
   have h471 := u74.box (u73.box h464 ap9) ap12
   have h472 := u74.vec (u73.vec h465 ap3) ap13
   have h473 : Sl cIRule r1.2.2 pv61 := h467
   have h474 : Box (.ptr i2 0) [.lit (.slice none 0 0), pv61] S := h468
   refine Evr.regionN rfl (Opl.ldb (v := .agg [.lit (.slice none 0 0), pv61]) h474 rfl T26 rfl rfl rfl rfl (Opl.stb (vs := [.lit (.slice none 0 0), pv61]) h471 rfl rfl Z26 rfl (Nat.le_of_ble_eq_true rfl) (by simp only [List.all_cons, List.all_nil, h473.one, Bool.and_true, Bool.true_and] <;> rfl) rfl rfl rfl ?_))
   rintro S (h475 : Box (.ptr i1 0) [.lit (.slice none 0 0), pv61] _) u75
   have h476 := u75.sameP h469 ap1
   have h477 := u75.box h470 ap2
   have h478 := u75.vec h472 ap6.symm
   have h479 := u75.box h474 ap12.symm
   refine Opl.nil ?_
   obtain rfl := Option.some.inj H
   refine Evr.retb (v := .agg [.lit (.slice none 0 0), pv61]) Try.func48 rfl h475 rfl T26 rfl ?_
   exact ⟨_, _, rfl, .nil, h473, h477, h476⟩
  rw [if_neg c22] at H
  have e26 : (r3.2 == 4) = false := by simpa using c22
  try rw [e26]
  refine Evr.condF rfl (Evr.seq (Evr.regionN rfl (Opl.one (v := .ptr i2 1) rfl rfl (by simp only [go_sem]; rfl) (Opl.ldb (v := pv2) h32 rfl T24 rfl rfl rfl rfl (Opl.leno (by exact oRow_len h31) K24 rfl rfl rfl rfl (Opl.one rfl rfl (by simp only [go_sem] <;> rfl) (Opl.nil ?_)))))))
  by_cases c23 : (r1.2.2.length : Int) > 0
  case neg =>
   rw [if_neg c23] at H
   have e28 : (decide ((r1.2.2.length : Int) > 0)) = false := by simpa using c23
   try rw [e28]
   refine Evr.condF rfl (Evr.skip (Evr.seq (Evr.frzc [] [pv2] h32 h30 ap13 ?_)))
   rintro pv73 S1_ S h544 u83 u84 h545
   have h546 := u84.sameP (u83.sameP h28 ap4) ap10
   have h547 := u84.box (u83.box h27 ap5) ap11
   have h548 := u84.box (u83.box h29 ap6) ap12
   have h549 := u84.tree (u83.tree h31 ap3) ap14
   have h550 : Sl cIVar r1.2.1 pv73 := h544
   have h551 : Box (.ptr i2 0) [pv73, pv2] S := h545
   refine Evr.frzcT [pv73] [] h551 h549 ap14 ?_
   rintro pv74 S1_ S h552 u85 u86 h553
   have h554 := u86.sameP (u85.sameP h546 ap7) ap10
   have h555 := u86.box (u85.box h547 ap8) ap11
   have h556 := u86.box (u85.box h548 ap9) ap12
   have h557 : Sl cIRule r1.2.2 pv74 := h552
   have h558 : Box (.ptr i2 0) [pv73, pv74] S := h553
   refine Evr.regionN rfl (Opl.ldb (v := .agg [pv73, pv74]) h558 rfl T26 rfl rfl rfl rfl (Opl.stb (vs := [pv73, pv74]) h556 rfl rfl Z26 rfl (Nat.le_of_ble_eq_true rfl) (by simp only [List.all_cons, List.all_nil, h550.one, h557.one, Bool.and_true, Bool.true_and] <;> rfl) rfl rfl rfl ?_))
   rintro S (h559 : Box (.ptr i1 0) [pv73, pv74] _) u87
   have h560 := u87.sameP h554 ap1
   have h561 := u87.box h555 ap2
   have h562 := u87.box h558 ap12.symm
   refine Opl.nil ?_
   obtain rfl := Option.some.inj H
   refine Evr.retb (v := .agg [pv73, pv74]) Try.func48 rfl h559 rfl T26 rfl ?_
   exact ⟨_, _, rfl, h550, h557, h561, h560⟩
  rw [if_pos c23] at H
  have e27 : (decide ((r1.2.2.length : Int) > 0)) = true := by simpa using c23
  try rw [e27]
  refine Evr.condT rfl ?_
  obtain ⟨d10, pv62, pv63, pv64, q12, j6, rfl, h480, h481, h482, h483, h484, ap77, ap78, ap79, ap80, ap81, ap82, z25, z26, z27, z28⟩ := od3_open0 h31 (zIRule : IRule) (by omega)
  refine Evr.regionL [(1, .q), (3, .q), (6, .q), (8, .m), (9, .m), (10, .m)] rfl (by kernel_rfl) (Opl.one (v := .ptr i2 1) rfl rfl (by simp only [go_sem]; rfl) (Opl.ldbk (v := .loc d10 0 r1.2.2.length) h32 rfl rfl T24 rfl rfl rfl rfl (Opl.one (v := .ptr i2 1) rfl rfl (by simp only [go_sem]; rfl) (Opl.ldbk (v := .loc d10 0 r1.2.2.length) h32 rfl rfl T24 rfl rfl rfl rfl (Opl.id0 rfl rfl (by omega) K24 Z72 rfl rfl (Opl.one (v := .ptr d10 2) rfl rfl (by simp only [go_sem]; rfl) (Opl.ldok (v := pv64) h480 (rd_row (by decide)) rfl T70 rfl rfl rfl rfl ?_)))))))
  obtain ⟨r8, h_r8, H⟩ := Option.bind_eq_some_iff.1 H
  refine Opl.call (spec_l2Const.ev h_r8) rfl rfl rfl rfl ⟨(.lit _), trivial⟩ (by decide) ?_
  rintro _ ⟨_, _, _, _, rfl, rfl, rfl, rfl, rfl⟩
  refine Opl.litm (M := cITerm) (ys := [(⟨r8.1, r8.2.1, r8.2.2.1, r8.2.2.2⟩ : ITerm)]) [.tmp 92] K44 T95 rfl rfl rfl (by exact ⟨cITerm_mk, trivial⟩) rfl (by decide) rfl rfl rfl ?_
  rintro pv67 S h486 g9
  have h487 := g9.sameP h28
  have h488 := g9.box h27
  have h489 := g9.box h29
  have h490 := g9.vec h30
  have h491 := g9.box h32
  have h492 := g9.vec h482
  have h493 := g9.vec h483
  have h494 := g9.rows h484
  have h495 := g9.obj h480
  refine Opl.litm (M := (cSl cITerm)) (ys := [[(⟨r8.1, r8.2.1, r8.2.2.1, r8.2.2.2⟩ : ITerm)]]) [.tmp 93] K70 T44 rfl rfl rfl (by exact ⟨⟨_, by first | rfl | exact h486.cells, h486⟩, trivial⟩) rfl (by decide) rfl rfl rfl ?_
  rintro pv69 S h496 g10
  have h497 := g10.sameP h487
  have h498 := g10.box h488
  have h499 := g10.box h489
  have h500 := g10.vec h490
  have h501 := g10.box h491
  have h502 := g10.vec h492
  have h503 := g10.vec h493
  have h504 := g10.rows h494
  have h505 := g10.obj h495
  obtain ⟨c24, H⟩ := peel H
  refine Opl.appm rfl (M := (cSl cITerm)) (xs := ((r1.2.2.getD 0 (zIRule : IRule)).f2)) (ys := [[(⟨r8.1, r8.2.1, r8.2.2.1, r8.2.2.2⟩ : ITerm)]]) (v := pv64) h503 (.sl h496) (oSl cITerm) rfl rfl K70 T44 rfl rfl (by (try simp only [List.length_cons, List.length_nil]); omega) (by show (_ + _) * 24 ≤ 140737488355328; (try simp only [List.length_cons, List.length_nil]); omega) rfl rfl rfl rfl rfl ?_
  rintro pv70 S h506 u76 w29
  have ap83 := w29.sameP h497
  have h507 := u76.sameP h497 (OutT.sub ap7 z26)
  have ap84 := w29.box h498
  have h508 := u76.box h498 (ApT.sub ap8 z26).ap
  have ap85 := w29.box h499
  have h509 := u76.box h499 (ApT.sub ap9 z26).ap
  have ap86 := w29.vec h500
  have h510 := u76.vec h500 (ApT.sub ap3 z26).ap
  have ap87 := w29.box h501
  have h511 := u76.box h501 (ApT.sub ap14 z26).ap
  have ap88 := w29.vec h502
  have h512 := u76.vec h502 ap77
  have ap89 := w29.rows h504
  have h513 := u76.rows h504 ap81
  have ap90 := w29.obj h505
  have h514 := u76.obj h505 ap79.symm
  refine Opl.id0 rfl rfl (by omega) K24 Z72 rfl rfl (Opl.one (v := .ptr d10 2) rfl rfl (by simp only [go_sem]; rfl) (Opl.stob (cs' := pv62 :: pv63 :: pv70 :: q12) (vs := [pv70]) h514 rfl (by exact Vec.cells h506) rfl Z70 rfl (by simp only [List.length_cons]; omega) (by simp only [List.all_cons, List.all_nil, Vec.one h506, Bool.and_true, Bool.true_and] <;> rfl) rfl rfl rfl ?_))
  rintro S h515 u77
  have h516 := u77.sameP h507 (OutT.sub ap7 z27)
  have h517 := u77.box h508 (ApT.sub ap8 z27).ap
  have h518 := u77.box h509 (ApT.sub ap9 z27).ap
  have h519 := u77.vec h510 (ApT.sub ap3 z27).ap
  have h520 := u77.box h511 (ApT.sub ap14 z27).ap
  have h521 := u77.vec h512 ap78
  have h522 := u77.rows h513 ap82
  have h523 := u77.vec h506 ap90.symm
  have h524 : (oRow odIRule).R S (d10 :: ((pv63.id?.toList ++ pv70.id?.toList) ++ j6)) ((⟨(r1.2.2.getD 0 (zIRule : IRule)).f0, (r1.2.2.getD 0 (zIRule : IRule)).f1, (((r1.2.2.getD 0 (zIRule : IRule)).f2) ++ [[(⟨r8.1, r8.2.1, r8.2.2.1, r8.2.2.2⟩ : ITerm)]])⟩ : IRule) :: r1.2.2.tail) [(PV.loc d10 0 r1.2.2.length)] := od3_close0 (l := r1.2.2) rfl (by rw [List.length_tail]; omega) h515 h481 h521 h523 h522 ap88 ap78 ap90.symm ap80 ap89 ap82
  refine Opl.nil (Evr.seq (Evr.frzc [] [(PV.loc d10 0 r1.2.2.length)] h520 h519 ap13 ?_))
  rintro pv71 S1_ S h525 u78 u79 h526
  have h527 := u79.sameP (u78.sameP h516 ap4) ap10
  have h528 := u79.box (u78.box h517 ap5) ap11
  have h529 := u79.box (u78.box h518 ap6) ap12
  have h530 := u79.tree (u78.tree h524 (ApT.cons (ApT.sub ap3 z27).ap ((ApT.app (Ap.apT (ApT.sub ap3 z25).ap) (Ap.apT ap86)).app (ApT.sub ap3 z28)))) (ApT.cons (ApT.sub ap14 z27).ap ((ApT.app (Ap.apT (ApT.sub ap14 z25).ap) (Ap.apT ap87)).app (ApT.sub ap14 z28)))
  have h531 : Sl cIVar r1.2.1 pv71 := h525
  have h532 : Box (.ptr i2 0) [pv71, (PV.loc d10 0 r1.2.2.length)] S := h526
  refine Evr.frzcT [pv71] [] h532 h530 (ApT.cons (ApT.sub ap14 z27).ap ((ApT.app (Ap.apT (ApT.sub ap14 z25).ap) (Ap.apT ap87)).app (ApT.sub ap14 z28))) ?_
  rintro pv72 S1_ S h533 u80 u81 h534
  have h535 := u81.sameP (u80.sameP h527 (OutT.cons (OutT.sub ap7 z27) ((OutT.app (OutT.sub ap7 z25) ap83).app (OutT.sub ap7 z28)))) ap10
  have h536 := u81.box (u80.box h528 (ApT.cons (ApT.sub ap8 z27).ap ((ApT.app (Ap.apT (ApT.sub ap8 z25).ap) (Ap.apT ap84)).app (ApT.sub ap8 z28)))) ap11
  have h537 := u81.box (u80.box h529 (ApT.cons (ApT.sub ap9 z27).ap ((ApT.app (Ap.apT (ApT.sub ap9 z25).ap) (Ap.apT ap85)).app (ApT.sub ap9 z28)))) ap12
  have h538 : Sl cIRule ((⟨(r1.2.2.getD 0 (zIRule : IRule)).f0, (r1.2.2.getD 0 (zIRule : IRule)).f1, (((r1.2.2.getD 0 (zIRule : IRule)).f2) ++ [[(⟨r8.1, r8.2.1, r8.2.2.1, r8.2.2.2⟩ : ITerm)]])⟩ : IRule) :: r1.2.2.tail) pv72 := h533
  have h539 : Box (.ptr i2 0) [pv71, pv72] S := h534
  refine Evr.regionN rfl (Opl.ldb (v := .agg [pv71, pv72]) h539 rfl T26 rfl rfl rfl rfl (Opl.stb (vs := [pv71, pv72]) h537 rfl rfl Z26 rfl (Nat.le_of_ble_eq_true rfl) (by simp only [List.all_cons, List.all_nil, h531.one, h538.one, Bool.and_true, Bool.true_and] <;> rfl) rfl rfl rfl ?_))
  rintro S (h540 : Box (.ptr i1 0) [pv71, pv72] _) u82
  have h541 := u82.sameP h535 ap1
  have h542 := u82.box h536 ap2
  have h543 := u82.box h539 ap12.symm
  refine Opl.nil ?_
  obtain rfl := Option.some.inj H
  refine Evr.retb (v := .agg [pv71, pv72]) Try.func48 rfl h540 rfl T26 rfl ?_
  exact ⟨_, _, rfl, h531, h538, h542, h541⟩
 rw [if_pos c8] at H
 have e6 : (r3.2 == 2) = true := by simpa using c8
 try rw [e6]
 refine Opl.one (v := .ptr i2 1) rfl rfl (by simp only [go_sem]; rfl) (Opl.ldb (v := pv2) h32 rfl T24 rfl rfl rfl rfl (Opl.leno (by exact oRow_len h31) K24 rfl rfl rfl rfl (Opl.one rfl rfl (by simp only [go_sem] <;> rfl) (Opl.one rfl rfl (by simp only [go_sem] <;> rfl) (Opl.nil ?_)))))
 by_cases c9 : (r1.2.2.length : Int) > 0
 case pos =>
  rw [if_pos c9] at H
  have e7 : (decide ((r1.2.2.length : Int) > 0)) = true := by simpa using c9
  try rw [e7]
  refine Evr.condT rfl ?_
  obtain ⟨d5, pv9, pv10, pv11, q7, j1, rfl, h106, h107, h108, h109, h110, ap15, ap16, ap17, ap18, ap19, ap20, z5, z6, z7, z8⟩ := od3_open0 h31 (zIRule : IRule) (by omega)
  refine Evr.regionL [(1, .q), (3, .m)] rfl (by kernel_rfl) (Opl.one (v := .ptr i2 1) rfl rfl (by simp only [go_sem]; rfl) (Opl.ldbk (v := .loc d5 0 r1.2.2.length) h32 rfl rfl T24 rfl rfl rfl rfl ?_))
  obtain ⟨r5, h_r5, H⟩ := Option.bind_eq_some_iff.1 H
  refine Opl.call (spec_l2Const.ev h_r5) rfl rfl rfl rfl ⟨(.lit _), trivial⟩ (by decide) ?_
  rintro _ ⟨_, _, _, _, rfl, rfl, rfl, rfl, rfl⟩
  refine Opl.litm (M := cITerm) (ys := [(⟨r5.1, r5.2.1, r5.2.2.1, r5.2.2.2⟩ : ITerm)]) [.tmp 52] K44 T95 rfl rfl rfl (by exact ⟨cITerm_mk, trivial⟩) rfl (by decide) rfl rfl rfl ?_
  rintro pv14 S h112 g2
  have h113 := g2.sameP h28
  have h114 := g2.box h27
  have h115 := g2.box h29
  have h116 := g2.vec h30
  have h117 := g2.box h32
  have h118 := g2.vec h108
  have h119 := g2.vec h109
  have h120 := g2.rows h110
  have h121 := g2.obj h106
  refine Opl.id0 rfl rfl (by omega) K24 Z72 rfl rfl (Opl.one (v := .ptr d5 0) rfl rfl (by simp only [go_sem]; rfl) (Opl.stob (cs' := pv14 :: pv10 :: pv11 :: q7) (vs := [pv14]) h121 rfl (by exact h112.cells) rfl Z44 rfl (by simp only [List.length_cons]; omega) (by simp only [List.all_cons, List.all_nil, h112.one, Bool.and_true, Bool.true_and] <;> rfl) rfl rfl rfl ?_))
  rintro S h122 u20
  have h123 := u20.sameP h113 (OutT.sub ap7 z7)
  have h124 := u20.box h114 (ApT.sub ap8 z7).ap
  have h125 := u20.box h115 (ApT.sub ap9 z7).ap
  have h126 := u20.vec h116 (ApT.sub ap3 z7).ap
  have h127 := u20.box h117 (ApT.sub ap14 z7).ap
  have h128 := u20.vec h118 ap16
  have h129 := u20.vec h119 ap17
  have h130 := u20.rows h120 ap20
  have h131 : (oRow odIRule).R S (d5 :: ((pv10.id?.toList ++ pv11.id?.toList) ++ j1)) ((⟨[(⟨r5.1, r5.2.1, r5.2.2.1, r5.2.2.2⟩ : ITerm)], (r1.2.2.getD 0 (zIRule : IRule)).f1, (r1.2.2.getD 0 (zIRule : IRule)).f2⟩ : IRule) :: r1.2.2.tail) [(PV.loc d5 0 r1.2.2.length)] := od3_close0 (l := r1.2.2) rfl (by rw [List.length_tail]; omega) h122 h112 h128 h129 h130 ap15 ap16 ap17 ap18 ap19 ap20
  refine Opl.nil (Evr.seq (Evr.frzc [] [(PV.loc d5 0 r1.2.2.length)] h127 h126 ap13 ?_))
  rintro pv15 S1_ S h132 u21 u22 h133
  have h134 := u22.sameP (u21.sameP h123 ap4) ap10
  have h135 := u22.box (u21.box h124 ap5) ap11
  have h136 := u22.box (u21.box h125 ap6) ap12
  have h137 := u22.tree (u21.tree h131 (ApT.cons (ApT.sub ap3 z7).ap ((ApT.app (Ap.apT (ApT.sub ap3 z5).ap) (Ap.apT (ApT.sub ap3 z6).ap)).app (ApT.sub ap3 z8)))) (ApT.cons (ApT.sub ap14 z7).ap ((ApT.app (Ap.apT (ApT.sub ap14 z5).ap) (Ap.apT (ApT.sub ap14 z6).ap)).app (ApT.sub ap14 z8)))
  have h138 : Sl cIVar r1.2.1 pv15 := h132
  have h139 : Box (.ptr i2 0) [pv15, (PV.loc d5 0 r1.2.2.length)] S := h133
  refine Evr.frzcT [pv15] [] h139 h137 (ApT.cons (ApT.sub ap14 z7).ap ((ApT.app (Ap.apT (ApT.sub ap14 z5).ap) (Ap.apT (ApT.sub ap14 z6).ap)).app (ApT.sub ap14 z8))) ?_
  rintro pv16 S1_ S h140 u23 u24 h141
  have h142 := u24.sameP (u23.sameP h134 (OutT.cons (OutT.sub ap7 z7) ((OutT.app (OutT.sub ap7 z5) (OutT.sub ap7 z6)).app (OutT.sub ap7 z8)))) ap10
  have h143 := u24.box (u23.box h135 (ApT.cons (ApT.sub ap8 z7).ap ((ApT.app (Ap.apT (ApT.sub ap8 z5).ap) (Ap.apT (ApT.sub ap8 z6).ap)).app (ApT.sub ap8 z8)))) ap11
  have h144 := u24.box (u23.box h136 (ApT.cons (ApT.sub ap9 z7).ap ((ApT.app (Ap.apT (ApT.sub ap9 z5).ap) (Ap.apT (ApT.sub ap9 z6).ap)).app (ApT.sub ap9 z8)))) ap12
  have h145 : Sl cIRule ((⟨[(⟨r5.1, r5.2.1, r5.2.2.1, r5.2.2.2⟩ : ITerm)], (r1.2.2.getD 0 (zIRule : IRule)).f1, (r1.2.2.getD 0 (zIRule : IRule)).f2⟩ : IRule) :: r1.2.2.tail) pv16 := h140
  have h146 : Box (.ptr i2 0) [pv15, pv16] S := h141
  refine Evr.regionN rfl (Opl.ldb (v := .agg [pv15, pv16]) h146 rfl T26 rfl rfl rfl rfl (Opl.stb (vs := [pv15, pv16]) h144 rfl rfl Z26 rfl (Nat.le_of_ble_eq_true rfl) (by simp only [List.all_cons, List.all_nil, h138.one, h145.one, Bool.and_true, Bool.true_and] <;> rfl) rfl rfl rfl ?_))
  rintro S (h147 : Box (.ptr i1 0) [pv15, pv16] _) u25
  have h148 := u25.sameP h142 ap1
  have h149 := u25.box h143 ap2
  have h150 := u25.box h146 ap12.symm
  refine Opl.nil ?_
  obtain rfl := Option.some.inj H
  refine Evr.retb (v := .agg [pv15, pv16]) Try.func48 rfl h147 rfl T26 rfl ?_
  exact ⟨_, _, rfl, h138, h145, h149, h148⟩
 rw [if_neg c9] at H
 have e8 : (decide ((r1.2.2.length : Int) > 0)) = false := by simpa using c9
 try rw [e8]
 refine Evr.condF rfl (Evr.seq (Evr.regionN rfl (Opl.one rfl rfl (by simp only [go_sem] <;> rfl) (Opl.one rfl rfl (by simp only [go_sem] <;> rfl) (Opl.one rfl rfl (by simp only [go_sem] <;> rfl) ?_)))))
 by_cases c10 : r3.2 = 3
 case neg =>
  rw [if_neg c10] at H
  have e16 : (r3.2 == 3) = false := by simpa using c10
  try rw [e16]
  refine Opl.skp rfl (Opl.skp rfl (Opl.skp rfl (Opl.skp rfl (Opl.one rfl rfl (by simp only [go_sem] <;> rfl) (Opl.nil (Evr.condF rfl (Evr.seq (Evr.regionN rfl (Opl.one rfl rfl (by simp only [go_sem] <;> rfl) (Opl.one rfl rfl (by simp only [go_sem] <;> rfl) (Opl.nil ?_)))))))))))
  by_cases c16 : r3.2 = 4
  case pos =>
   rw [if_pos c16] at H
   have e17 : (r3.2 == 4) = true := by simpa using c16
   try rw [e17]
   refine Evr.condT rfl (Evr.regionN rfl (Opl.one (v := .ptr i2 0) rfl rfl (by simp only [go_sem]; rfl) (Opl.stb (vs := [.lit (.slice none 0 0)]) h32 rfl rfl Z23 rfl (Nat.le_of_ble_eq_true rfl) rfl rfl rfl rfl ?_)))
   rintro S (h306 : Box (.ptr i2 0) [.lit (.slice none 0 0), pv2] _) u49
   have h307 := u49.sameP h28 ap10
   have h308 := u49.box h27 ap11
   have h309 := u49.box h29 ap12
   have h310 := u49.vec h30 ap13
   have h311 := u49.tree h31 ap14
   refine Opl.nil (Evr.seq (Evr.frzcT [.lit (.slice none 0 0)] [] h306 h311 ap14 ?_))
   rintro pv39 S1_ S h312 u50 u51 h313
   have h314 := u51.sameP (u50.sameP h307 ap7) ap10
   have h315 := u51.box (u50.box h308 ap8) ap11
   have h316 := u51.box (u50.box h309 ap9) ap12
   have h317 := u51.vec (u50.vec h310 ap3) ap13
   have h318 : Sl cIRule r1.2.2 pv39 := h312
   have h319 : Box (.ptr i2 0) [.lit (.slice none 0 0), pv39] S := h313
   refine Evr.regionN rfl (Opl.ldb (v := .agg [.lit (.slice none 0 0), pv39]) h319 rfl T26 rfl rfl rfl rfl (Opl.stb (vs := [.lit (.slice none 0 0), pv39]) h316 rfl rfl Z26 rfl (Nat.le_of_ble_eq_true rfl) (by simp only [List.all_cons, List.all_nil, h318.one, Bool.and_true, Bool.true_and] <;> rfl) rfl rfl rfl ?_))
   rintro S (h320 : Box (.ptr i1 0) [.lit (.slice none 0 0), pv39] _) u52
   have h321 := u52.sameP h314 ap1
   have h322 := u52.box h315 ap2
   have h323 := u52.vec h317 ap6.symm
   have h324 := u52.box h319 ap12.symm
   refine Opl.nil ?_
   obtain rfl := Option.some.inj H
   refine Evr.retb (v := .agg [.lit (.slice none 0 0), pv39]) Try.func48 rfl h320 rfl T26 rfl ?_
   exact ⟨_, _, rfl, .nil, h318, h322, h321⟩
  rw [if_neg c16] at H
  have e18 : (r3.2 == 4) = false := by simpa using c16
  try rw [e18]
  refine Evr.condF rfl (Evr.seq (Evr.regionN rfl (Opl.one (v := .ptr i2 1) rfl rfl (by simp only [go_sem]; rfl) (Opl.ldb (v := pv2) h32 rfl T24 rfl rfl rfl rfl (Opl.leno (by exact oRow_len h31) K24 rfl rfl rfl rfl (Opl.one rfl rfl (by simp only [go_sem] <;> rfl) (Opl.nil ?_)))))))
  by_cases c17 : (r1.2.2.length : Int) > 0
  case neg =>
   rw [if_neg c17] at H
   have e20 : (decide ((r1.2.2.length : Int) > 0)) = false := by simpa using c17
   try rw [e20]
   refine Evr.condF rfl (Evr.skip (Evr.seq (Evr.frzc [] [pv2] h32 h30 ap13 ?_)))
   rintro pv51 S1_ S h389 u60 u61 h390
   have h391 := u61.sameP (u60.sameP h28 ap4) ap10
   have h392 := u61.box (u60.box h27 ap5) ap11
   have h393 := u61.box (u60.box h29 ap6) ap12
   have h394 := u61.tree (u60.tree h31 ap3) ap14
   have h395 : Sl cIVar r1.2.1 pv51 := h389
   have h396 : Box (.ptr i2 0) [pv51, pv2] S := h390
   refine Evr.frzcT [pv51] [] h396 h394 ap14 ?_
   rintro pv52 S1_ S h397 u62 u63 h398
   have h399 := u63.sameP (u62.sameP h391 ap7) ap10
   have h400 := u63.box (u62.box h392 ap8) ap11
   have h401 := u63.box (u62.box h393 ap9) ap12
   have h402 : Sl cIRule r1.2.2 pv52 := h397
   have h403 : Box (.ptr i2 0) [pv51, pv52] S := h398
   refine Evr.regionN rfl (Opl.ldb (v := .agg [pv51, pv52]) h403 rfl T26 rfl rfl rfl rfl (Opl.stb (vs := [pv51, pv52]) h401 rfl rfl Z26 rfl (Nat.le_of_ble_eq_true rfl) (by simp only [List.all_cons, List.all_nil, h395.one, h402.one, Bool.and_true, Bool.true_and] <;> rfl) rfl rfl rfl ?_))
   rintro S (h404 : Box (.ptr i1 0) [pv51, pv52] _) u64
   have h405 := u64.sameP h399 ap1
   have h406 := u64.box h400 ap2
   have h407 := u64.box h403 ap12.symm
   refine Opl.nil ?_
   obtain rfl := Option.some.inj H
   refine Evr.retb (v := .agg [pv51, pv52]) Try.func48 rfl h404 rfl T26 rfl ?_
   exact ⟨_, _, rfl, h395, h402, h406, h405⟩
  rw [if_pos c17] at H
  have e19 : (decide ((r1.2.2.length : Int) > 0)) = true := by simpa using c17
  try rw [e19]
  refine Evr.condT rfl ?_
  obtain ⟨d8, pv40, pv41, pv42, q10, j4, rfl, h325, h326, h327, h328, h329, ap49, ap50, ap51, ap52, ap53, ap54, z17, z18, z19, z20⟩ := od3_open0 h31 (zIRule : IRule) (by omega)
  refine Evr.regionL [(1, .q), (3, .q), (6, .q), (8, .m), (9, .m), (10, .m)] rfl (by kernel_rfl) (Opl.one (v := .ptr i2 1) rfl rfl (by simp only [go_sem]; rfl) (Opl.ldbk (v := .loc d8 0 r1.2.2.length) h32 rfl rfl T24 rfl rfl rfl rfl (Opl.one (v := .ptr i2 1) rfl rfl (by simp only [go_sem]; rfl) (Opl.ldbk (v := .loc d8 0 r1.2.2.length) h32 rfl rfl T24 rfl rfl rfl rfl (Opl.id0 rfl rfl (by omega) K24 Z72 rfl rfl (Opl.one (v := .ptr d8 2) rfl rfl (by simp only [go_sem]; rfl) (Opl.ldok (v := pv42) h325 (rd_row (by decide)) rfl T70 rfl rfl rfl rfl ?_)))))))
  obtain ⟨r7, h_r7, H⟩ := Option.bind_eq_some_iff.1 H
  refine Opl.call (spec_l2Const.ev h_r7) rfl rfl rfl rfl ⟨(.lit _), trivial⟩ (by decide) ?_
  rintro _ ⟨_, _, _, _, rfl, rfl, rfl, rfl, rfl⟩
  refine Opl.litm (M := cITerm) (ys := [(⟨r7.1, r7.2.1, r7.2.2.1, r7.2.2.2⟩ : ITerm)]) [.tmp 92] K44 T95 rfl rfl rfl (by exact ⟨cITerm_mk, trivial⟩) rfl (by decide) rfl rfl rfl ?_
  rintro pv45 S h331 g6
  have h332 := g6.sameP h28
  have h333 := g6.box h27
  have h334 := g6.box h29
  have h335 := g6.vec h30
  have h336 := g6.box h32
  have h337 := g6.vec h327
  have h338 := g6.vec h328
  have h339 := g6.rows h329
  have h340 := g6.obj h325
  refine Opl.litm (M := (cSl cITerm)) (ys := [[(⟨r7.1, r7.2.1, r7.2.2.1, r7.2.2.2⟩ : ITerm)]]) [.tmp 93] K70 T44 rfl rfl rfl (by exact ⟨⟨_, by first | rfl | exact h331.cells, h331⟩, trivial⟩) rfl (by decide) rfl rfl rfl ?_
  rintro pv47 S h341 g7
  have h342 := g7.sameP h332
  have h343 := g7.box h333
  have h344 := g7.box h334
  have h345 := g7.vec h335
  have h346 := g7.box h336
  have h347 := g7.vec h337
  have h348 := g7.vec h338
  have h349 := g7.rows h339
  have h350 := g7.obj h340
  obtain ⟨c18, H⟩ := peel H
  refine Opl.appm rfl (M := (cSl cITerm)) (xs := ((r1.2.2.getD 0 (zIRule : IRule)).f2)) (ys := [[(⟨r7.1, r7.2.1, r7.2.2.1, r7.2.2.2⟩ : ITerm)]]) (v := pv42) h348 (.sl h341) (oSl cITerm) rfl rfl K70 T44 rfl rfl (by (try simp only [List.length_cons, List.length_nil]); omega) (by show (_ + _) * 24 ≤ 140737488355328; (try simp only [List.length_cons, List.length_nil]); omega) rfl rfl rfl rfl rfl ?_
  rintro pv48 S h351 u53 w20
  have ap55 := w20.sameP h342
  have h352 := u53.sameP h342 (OutT.sub ap7 z18)
  have ap56 := w20.box h343
  have h353 := u53.box h343 (ApT.sub ap8 z18).ap
  have ap57 := w20.box h344
  have h354 := u53.box h344 (ApT.sub ap9 z18).ap
  have ap58 := w20.vec h345
  have h355 := u53.vec h345 (ApT.sub ap3 z18).ap
  have ap59 := w20.box h346
  have h356 := u53.box h346 (ApT.sub ap14 z18).ap
  have ap60 := w20.vec h347
  have h357 := u53.vec h347 ap49
  have ap61 := w20.rows h349
  have h358 := u53.rows h349 ap53
  have ap62 := w20.obj h350
  have h359 := u53.obj h350 ap51.symm
  refine Opl.id0 rfl rfl (by omega) K24 Z72 rfl rfl (Opl.one (v := .ptr d8 2) rfl rfl (by simp only [go_sem]; rfl) (Opl.stob (cs' := pv40 :: pv41 :: pv48 :: q10) (vs := [pv48]) h359 rfl (by exact Vec.cells h351) rfl Z70 rfl (by simp only [List.length_cons]; omega) (by simp only [List.all_cons, List.all_nil, Vec.one h351, Bool.and_true, Bool.true_and] <;> rfl) rfl rfl rfl ?_))
  rintro S h360 u54
  have h361 := u54.sameP h352 (OutT.sub ap7 z19)
  have h362 := u54.box h353 (ApT.sub ap8 z19).ap
  have h363 := u54.box h354 (ApT.sub ap9 z19).ap
  have h364 := u54.vec h355 (ApT.sub ap3 z19).ap
  have h365 := u54.box h356 (ApT.sub ap14 z19).ap
  have h366 := u54.vec h357 ap50
  have h367 := u54.rows h358 ap54
  have h368 := u54.vec h351 ap62.symm
  have h369 : (oRow odIRule).R S (d8 :: ((pv41.id?.toList ++ pv48.id?.toList) ++ j4)) ((⟨(r1.2.2.getD 0 (zIRule : IRule)).f0, (r1.2.2.getD 0 (zIRule : IRule)).f1, (((r1.2.2.getD 0 (zIRule : IRule)).f2) ++ [[(⟨r7.1, r7.2.1, r7.2.2.1, r7.2.2.2⟩ : ITerm)]])⟩ : IRule) :: r1.2.2.tail) [(PV.loc d8 0 r1.2.2.length)] := od3_close0 (l := r1.2.2) rfl (by rw [List.length_tail]; omega) h360 h326 h366 h368 h367 ap60 ap50 ap62.symm ap52 ap61 ap54
  refine Opl.nil (Evr.seq (Evr.frzc [] [(PV.loc d8 0 r1.2.2.length)] h365 h364 ap13 ?_))
  rintro pv49 S1_ S h370 u55 u56 h371
  have h372 := u56.sameP (u55.sameP h361 ap4) ap10
  have h373 := u56.box (u55.box h362 ap5) ap11
  have h374 := u56.box (u55.box h363 ap6) ap12
  have h375 := u56.tree (u55.tree h369 (ApT.cons (ApT.sub ap3 z19).ap ((ApT.app (Ap.apT (ApT.sub ap3 z17).ap) (Ap.apT ap58)).app (ApT.sub ap3 z20)))) (ApT.cons (ApT.sub ap14 z19).ap ((ApT.app (Ap.apT (ApT.sub ap14 z17).ap) (Ap.apT ap59)).app (ApT.sub ap14 z20)))
  have h376 : Sl cIVar r1.2.1 pv49 := h370
  have h377 : Box (.ptr i2 0) [pv49, (PV.loc d8 0 r1.2.2.length)] S := h371
  refine Evr.frzcT [pv49] [] h377 h375 (ApT.cons (ApT.sub ap14 z19).ap ((ApT.app (Ap.apT (ApT.sub ap14 z17).ap) (Ap.apT ap59)).app (ApT.sub ap14 z20))) ?_
  rintro pv50 S1_ S h378 u57 u58 h379
  have h380 := u58.sameP (u57.sameP h372 (OutT.cons (OutT.sub ap7 z19) ((OutT.app (OutT.sub ap7 z17) ap55).app (OutT.sub ap7 z20)))) ap10
  have h381 := u58.box (u57.box h373 (ApT.cons (ApT.sub ap8 z19).ap ((ApT.app (Ap.apT (ApT.sub ap8 z17).ap) (Ap.apT ap56)).app (ApT.sub ap8 z20)))) ap11
  have h382 := u58.box (u57.box h374 (ApT.cons (ApT.sub ap9 z19).ap ((ApT.app (Ap.apT (ApT.sub ap9 z17).ap) (Ap.apT ap57)).app (ApT.sub ap9 z20)))) ap12
  have h383 : Sl cIRule ((⟨(r1.2.2.getD 0 (zIRule : IRule)).f0, (r1.2.2.getD 0 (zIRule : IRule)).f1, (((r1.2.2.getD 0 (zIRule : IRule)).f2) ++ [[(⟨r7.1, r7.2.1, r7.2.2.1, r7.2.2.2⟩ : ITerm)]])⟩ : IRule) :: r1.2.2.tail) pv50 := h378
  have h384 : Box (.ptr i2 0) [pv49, pv50] S := h379
  refine Evr.regionN rfl (Opl.ldb (v := .agg [pv49, pv50]) h384 rfl T26 rfl rfl rfl rfl (Opl.stb (vs := [pv49, pv50]) h382 rfl rfl Z26 rfl (Nat.le_of_ble_eq_true rfl) (by simp only [List.all_cons, List.all_nil, h376.one, h383.one, Bool.and_true, Bool.true_and] <;> rfl) rfl rfl rfl ?_))
  rintro S (h385 : Box (.ptr i1 0) [pv49, pv50] _) u59
  have h386 := u59.sameP h380 ap1
  have h387 := u59.box h381 ap2
  have h388 := u59.box h384 ap12.symm
  refine Opl.nil ?_
  obtain rfl := Option.some.inj H
  refine Evr.retb (v := .agg [pv49, pv50]) Try.func48 rfl h385 rfl T26 rfl ?_
  exact ⟨_, _, rfl, h376, h383, h387, h386⟩
 rw [if_pos c10] at H
 have e9 : (r3.2 == 3) = true := by simpa using c10
 try rw [e9]
 refine Opl.one (v := .ptr i2 1) rfl rfl (by simp only [go_sem]; rfl) (Opl.ldb (v := pv2) h32 rfl T24 rfl rfl rfl rfl (Opl.leno (by exact oRow_len h31) K24 rfl rfl rfl rfl (Opl.one rfl rfl (by simp only [go_sem] <;> rfl) (Opl.one rfl rfl (by simp only [go_sem] <;> rfl) (Opl.nil ?_)))))
 by_cases c11 : (r1.2.2.length : Int) > 0
 case pos =>
  rw [if_pos c11] at H
  have e10 : (decide ((r1.2.2.length : Int) > 0)) = true := by simpa using c11
  try rw [e10]
  refine Evr.condT rfl ?_
  obtain ⟨d6, pv17, pv18, pv19, q8, j2, rfl, h151, h152, h153, h154, h155, ap21, ap22, ap23, ap24, ap25, ap26, z9, z10, z11, z12⟩ := od3_open0 h31 (zIRule : IRule) (by omega)
  refine Evr.regionL [(1, .q), (3, .q), (6, .q), (8, .q), (10, .m), (11, .m)] rfl (by kernel_rfl) (Opl.one (v := .ptr i2 1) rfl rfl (by simp only [go_sem]; rfl) (Opl.ldbk (v := .loc d6 0 r1.2.2.length) h32 rfl rfl T24 rfl rfl rfl rfl (Opl.one (v := .ptr i2 1) rfl rfl (by simp only [go_sem]; rfl) (Opl.ldbk (v := .loc d6 0 r1.2.2.length) h32 rfl rfl T24 rfl rfl rfl rfl ?_))))
  obtain ⟨c12, H⟩ := peel H
  refine Opl.id0 rfl rfl (by omega) K24 Z72 rfl rfl (Opl.one (v := .ptr d6 1) rfl rfl (by simp only [go_sem]; rfl) (Opl.ldok (v := pv18) h151 (rd_row (by decide)) rfl T29 rfl rfl rfl rfl (Opl.one (v := .ptr i2 0) rfl rfl (by simp only [go_sem]; rfl) (Opl.ldbk (v := pv1) h32 rfl rfl T23 rfl rfl rfl rfl (Opl.lenv (xs := r1.2.1) (by exact h30) K23 rfl rfl rfl rfl (Opl.litm (M := (cInt .i64)) (ys := [(r1.2.1.length : Int)]) [.tmp 73] K29 T3 rfl rfl rfl (by exact ⟨rfl, trivial⟩) rfl (by decide) rfl rfl rfl ?_))))))
  rintro pv21 S h156 g3
  have h157 := g3.sameP h28
  have h158 := g3.box h27
  have h159 := g3.box h29
  have h160 := g3.vec h30
  have h161 := g3.box h32
  have h162 := g3.vec h153
  have h163 := g3.vec h154
  have h164 := g3.rows h155
  have h165 := g3.obj h151
  refine Opl.appm rfl (M := (cInt .i64)) (xs := ((r1.2.2.getD 0 (zIRule : IRule)).f1)) (ys := [(r1.2.1.length : Int)]) (v := pv18) h162 (.sl h156) (oInt .i64) rfl rfl K29 T3 rfl rfl (by (try simp only [List.length_cons, List.length_nil]); omega) (by show (_ + _) * 8 ≤ 140737488355328; (try simp only [List.length_cons, List.length_nil]); omega) rfl rfl rfl rfl rfl ?_
  rintro pv22 S h166 u26 w9
  have ap27 := w9.sameP h157
  have h167 := u26.sameP h157 (OutT.sub ap7 z9)
  have ap28 := w9.box h158
  have h168 := u26.box h158 (ApT.sub ap8 z9).ap
  have ap29 := w9.box h159
  have h169 := u26.box h159 (ApT.sub ap9 z9).ap
  have ap30 := w9.vec h160
  have h170 := u26.vec h160 (ApT.sub ap3 z9).ap
  have ap31 := w9.box h161
  have h171 := u26.box h161 (ApT.sub ap14 z9).ap
  have ap32 := w9.vec h163
  have h172 := u26.vec h163 ap21.symm
  have ap33 := w9.rows h164
  have h173 := u26.rows h164 ap24
  have ap34 := w9.obj h165
  have h174 := u26.obj h165 ap22.symm
  refine Opl.id0 rfl rfl (by omega) K24 Z72 rfl rfl (Opl.one (v := .ptr d6 1) rfl rfl (by simp only [go_sem]; rfl) (Opl.stob (cs' := pv17 :: pv22 :: pv19 :: q8) (vs := [pv22]) h174 rfl (by exact Vec.cells h166) rfl Z29 rfl (by simp only [List.length_cons]; omega) (by simp only [List.all_cons, List.all_nil, Vec.one h166, Bool.and_true, Bool.true_and] <;> rfl) rfl rfl rfl ?_))
  rintro S h175 u27
  have h176 := u27.sameP h167 (OutT.sub ap7 z11)
  have h177 := u27.box h168 (ApT.sub ap8 z11).ap
  have h178 := u27.box h169 (ApT.sub ap9 z11).ap
  have h179 := u27.vec h170 (ApT.sub ap3 z11).ap
  have h180 := u27.box h171 (ApT.sub ap14 z11).ap
  have h181 := u27.vec h172 ap23
  have h182 := u27.rows h173 ap26
  have h183 := u27.vec h166 ap34.symm
  have h184 : (oRow odIRule).R S (d6 :: ((pv22.id?.toList ++ pv19.id?.toList) ++ j2)) ((⟨(r1.2.2.getD 0 (zIRule : IRule)).f0, (((r1.2.2.getD 0 (zIRule : IRule)).f1) ++ [(r1.2.1.length : Int)]), (r1.2.2.getD 0 (zIRule : IRule)).f2⟩ : IRule) :: r1.2.2.tail) [(PV.loc d6 0 r1.2.2.length)] := od3_close0 (l := r1.2.2) rfl (by rw [List.length_tail]; omega) h175 h152 h183 h181 h182 ap32.symm ap34.symm ap23 ap33 ap25 ap26
  refine Opl.nil (Evr.seq (Evr.frzc [] [(PV.loc d6 0 r1.2.2.length)] h180 h179 ap13 ?_))
  rintro pv23 S1_ S h185 u28 u29 h186
  have h187 := u29.sameP (u28.sameP h176 ap4) ap10
  have h188 := u29.box (u28.box h177 ap5) ap11
  have h189 := u29.box (u28.box h178 ap6) ap12
  have h190 := u29.tree (u28.tree h184 (ApT.cons (ApT.sub ap3 z11).ap ((ApT.app (Ap.apT ap30) (Ap.apT (ApT.sub ap3 z10).ap)).app (ApT.sub ap3 z12)))) (ApT.cons (ApT.sub ap14 z11).ap ((ApT.app (Ap.apT ap31) (Ap.apT (ApT.sub ap14 z10).ap)).app (ApT.sub ap14 z12)))
  have h191 : Sl cIVar r1.2.1 pv23 := h185
  have h192 : Box (.ptr i2 0) [pv23, (PV.loc d6 0 r1.2.2.length)] S := h186
  refine Evr.frzcT [pv23] [] h192 h190 (ApT.cons (ApT.sub ap14 z11).ap ((ApT.app (Ap.apT ap31) (Ap.apT (ApT.sub ap14 z10).ap)).app (ApT.sub ap14 z12))) ?_
  rintro pv24 S1_ S h193 u30 u31 h194
  have h195 := u31.sameP (u30.sameP h187 (OutT.cons (OutT.sub ap7 z11) ((OutT.app ap27 (OutT.sub ap7 z10)).app (OutT.sub ap7 z12)))) ap10
  have h196 := u31.box (u30.box h188 (ApT.cons (ApT.sub ap8 z11).ap ((ApT.app (Ap.apT ap28) (Ap.apT (ApT.sub ap8 z10).ap)).app (ApT.sub ap8 z12)))) ap11
  have h197 := u31.box (u30.box h189 (ApT.cons (ApT.sub ap9 z11).ap ((ApT.app (Ap.apT ap29) (Ap.apT (ApT.sub ap9 z10).ap)).app (ApT.sub ap9 z12)))) ap12
  have h198 : Sl cIRule ((⟨(r1.2.2.getD 0 (zIRule : IRule)).f0, (((r1.2.2.getD 0 (zIRule : IRule)).f1) ++ [(r1.2.1.length : Int)]), (r1.2.2.getD 0 (zIRule : IRule)).f2⟩ : IRule) :: r1.2.2.tail) pv24 := h193
  have h199 : Box (.ptr i2 0) [pv23, pv24] S := h194
  refine Evr.regionN rfl (Opl.ldb (v := .agg [pv23, pv24]) h199 rfl T26 rfl rfl rfl rfl (Opl.stb (vs := [pv23, pv24]) h197 rfl rfl Z26 rfl (Nat.le_of_ble_eq_true rfl) (by simp only [List.all_cons, List.all_nil, h191.one, h198.one, Bool.and_true, Bool.true_and] <;> rfl) rfl rfl rfl ?_))
  rintro S (h200 : Box (.ptr i1 0) [pv23, pv24] _) u32
  have h201 := u32.sameP h195 ap1
  have h202 := u32.box h196 ap2
  have h203 := u32.box h199 ap12.symm
  refine Opl.nil ?_
  obtain rfl := Option.some.inj H
  refine Evr.retb (v := .agg [pv23, pv24]) Try.func48 rfl h200 rfl T26 rfl ?_
  exact ⟨_, _, rfl, h191, h198, h202, h201⟩
 rw [if_neg c11] at H
 have e11 : (decide ((r1.2.2.length : Int) > 0)) = false := by simpa using c11
 try rw [e11]
 refine Evr.condF rfl (Evr.seq (Evr.regionN rfl (Opl.one rfl rfl (by simp only [go_sem] <;> rfl) (Opl.one rfl rfl (by simp only [go_sem] <;> rfl) (Opl.nil ?_)))))
 by_cases c13 : r3.2 = 4
 case pos =>
  rw [if_pos c13] at H
  have e12 : (r3.2 == 4) = true := by simpa using c13
  try rw [e12]
  refine Evr.condT rfl (Evr.regionN rfl (Opl.one (v := .ptr i2 0) rfl rfl (by simp only [go_sem]; rfl) (Opl.stb (vs := [.lit (.slice none 0 0)]) h32 rfl rfl Z23 rfl (Nat.le_of_ble_eq_true rfl) rfl rfl rfl rfl ?_)))
  rintro S (h204 : Box (.ptr i2 0) [.lit (.slice none 0 0), pv2] _) u33
  have h205 := u33.sameP h28 ap10
  have h206 := u33.box h27 ap11
  have h207 := u33.box h29 ap12
  have h208 := u33.vec h30 ap13
  have h209 := u33.tree h31 ap14
  refine Opl.nil (Evr.seq (Evr.frzcT [.lit (.slice none 0 0)] [] h204 h209 ap14 ?_))
  rintro pv25 S1_ S h210 u34 u35 h211
  have h212 := u35.sameP (u34.sameP h205 ap7) ap10
  have h213 := u35.box (u34.box h206 ap8) ap11
  have h214 := u35.box (u34.box h207 ap9) ap12
  have h215 := u35.vec (u34.vec h208 ap3) ap13
  have h216 : Sl cIRule r1.2.2 pv25 := h210
  have h217 : Box (.ptr i2 0) [.lit (.slice none 0 0), pv25] S := h211
  refine Evr.regionN rfl (Opl.ldb (v := .agg [.lit (.slice none 0 0), pv25]) h217 rfl T26 rfl rfl rfl rfl (Opl.stb (vs := [.lit (.slice none 0 0), pv25]) h214 rfl rfl Z26 rfl (Nat.le_of_ble_eq_true rfl) (by simp only [List.all_cons, List.all_nil, h216.one, Bool.and_true, Bool.true_and] <;> rfl) rfl rfl rfl ?_))
  rintro S (h218 : Box (.ptr i1 0) [.lit (.slice none 0 0), pv25] _) u36
  have h219 := u36.sameP h212 ap1
  have h220 := u36.box h213 ap2
  have h221 := u36.vec h215 ap6.symm
  have h222 := u36.box h217 ap12.symm
  refine Opl.nil ?_
  obtain rfl := Option.some.inj H
  refine Evr.retb (v := .agg [.lit (.slice none 0 0), pv25]) Try.func48 rfl h218 rfl T26 rfl ?_
  exact ⟨_, _, rfl, .nil, h216, h220, h219⟩
 rw [if_neg c13] at H
 have e13 : (r3.2 == 4) = false := by simpa using c13
 try rw [e13]
 refine Evr.condF rfl (Evr.seq (Evr.regionN rfl (Opl.one (v := .ptr i2 1) rfl rfl (by simp only [go_sem]; rfl) (Opl.ldb (v := pv2) h32 rfl T24 rfl rfl rfl rfl (Opl.leno (by exact oRow_len h31) K24 rfl rfl rfl rfl (Opl.one rfl rfl (by simp only [go_sem] <;> rfl) (Opl.nil ?_)))))))
 by_cases c14 : (r1.2.2.length : Int) > 0
 case neg =>
  rw [if_neg c14] at H
  have e15 : (decide ((r1.2.2.length : Int) > 0)) = false := by simpa using c14
  try rw [e15]
  refine Evr.condF rfl (Evr.skip (Evr.seq (Evr.frzc [] [pv2] h32 h30 ap13 ?_)))
  rintro pv37 S1_ S h287 u44 u45 h288
  have h289 := u45.sameP (u44.sameP h28 ap4) ap10
  have h290 := u45.box (u44.box h27 ap5) ap11
  have h291 := u45.box (u44.box h29 ap6) ap12
  have h292 := u45.tree (u44.tree h31 ap3) ap14
  have h293 : Sl cIVar r1.2.1 pv37 := h287
  have h294 : Box (.ptr i2 0) [pv37, pv2] S := h288
  refine Evr.frzcT [pv37] [] h294 h292 ap14 ?_
  rintro pv38 S1_ S h295 u46 u47 h296
  have h297 := u47.sameP (u46.sameP h289 ap7) ap10
  have h298 := u47.box (u46.box h290 ap8) ap11
  have h299 := u47.box (u46.box h291 ap9) ap12
  have h300 : Sl cIRule r1.2.2 pv38 := h295
  have h301 : Box (.ptr i2 0) [pv37, pv38] S := h296
  refine Evr.regionN rfl (Opl.ldb (v := .agg [pv37, pv38]) h301 rfl T26 rfl rfl rfl rfl (Opl.stb (vs := [pv37, pv38]) h299 rfl rfl Z26 rfl (Nat.le_of_ble_eq_true rfl) (by simp only [List.all_cons, List.all_nil, h293.one, h300.one, Bool.and_true, Bool.true_and] <;> rfl) rfl rfl rfl ?_))
  rintro S (h302 : Box (.ptr i1 0) [pv37, pv38] _) u48
  have h303 := u48.sameP h297 ap1
  have h304 := u48.box h298 ap2
  have h305 := u48.box h301 ap12.symm
  refine Opl.nil ?_
  obtain rfl := Option.some.inj H
  refine Evr.retb (v := .agg [pv37, pv38]) Try.func48 rfl h302 rfl T26 rfl ?_
  exact ⟨_, _, rfl, h293, h300, h304, h303⟩
 rw [if_pos c14] at H
 have e14 : (decide ((r1.2.2.length : Int) > 0)) = true := by simpa using c14
 try rw [e14]
 refine Evr.condT rfl ?_
 obtain ⟨d7, pv26, pv27, pv28, q9, j3, rfl, h223, h224, h225, h226, h227, ap35, ap36, ap37, ap38, ap39, ap40, z13, z14, z15, z16⟩ := od3_open0 h31 (zIRule : IRule) (by omega)
 refine Evr.regionL [(1, .q), (3, .q), (6, .q), (8, .m), (9, .m), (10, .m)] rfl (by kernel_rfl) (Opl.one (v := .ptr i2 1) rfl rfl (by simp only [go_sem]; rfl) (Opl.ldbk (v := .loc d7 0 r1.2.2.length) h32 rfl rfl T24 rfl rfl rfl rfl (Opl.one (v := .ptr i2 1) rfl rfl (by simp only [go_sem]; rfl) (Opl.ldbk (v := .loc d7 0 r1.2.2.length) h32 rfl rfl T24 rfl rfl rfl rfl (Opl.id0 rfl rfl (by omega) K24 Z72 rfl rfl (Opl.one (v := .ptr d7 2) rfl rfl (by simp only [go_sem]; rfl) (Opl.ldok (v := pv28) h223 (rd_row (by decide)) rfl T70 rfl rfl rfl rfl ?_)))))))
 obtain ⟨r6, h_r6, H⟩ := Option.bind_eq_some_iff.1 H
 refine Opl.call (spec_l2Const.ev h_r6) rfl rfl rfl rfl ⟨(.lit _), trivial⟩ (by decide) ?_
 rintro _ ⟨_, _, _, _, rfl, rfl, rfl, rfl, rfl⟩
 refine Opl.litm (M := cITerm) (ys := [(⟨r6.1, r6.2.1, r6.2.2.1, r6.2.2.2⟩ : ITerm)]) [.tmp 92] K44 T95 rfl rfl rfl (by exact ⟨cITerm_mk, trivial⟩) rfl (by decide) rfl rfl rfl ?_
 rintro pv31 S h229 g4
 have h230 := g4.sameP h28
 have h231 := g4.box h27
 have h232 := g4.box h29
 have h233 := g4.vec h30
 have h234 := g4.box h32
 have h235 := g4.vec h225
 have h236 := g4.vec h226
 have h237 := g4.rows h227
 have h238 := g4.obj h223
 refine Opl.litm (M := (cSl cITerm)) (ys := [[(⟨r6.1, r6.2.1, r6.2.2.1, r6.2.2.2⟩ : ITerm)]]) [.tmp 93] K70 T44 rfl rfl rfl (by exact ⟨⟨_, by first | rfl | exact h229.cells, h229⟩, trivial⟩) rfl (by decide) rfl rfl rfl ?_
 rintro pv33 S h239 g5
 have h240 := g5.sameP h230
 have h241 := g5.box h231
 have h242 := g5.box h232
 have h243 := g5.vec h233
 have h244 := g5.box h234
 have h245 := g5.vec h235
 have h246 := g5.vec h236
 have h247 := g5.rows h237
 have h248 := g5.obj h238
 obtain ⟨c15, H⟩ := peel H
 refine Opl.appm rfl (M := (cSl cITerm)) (xs := ((r1.2.2.getD 0 (zIRule : IRule)).f2)) (ys := [[(⟨r6.1, r6.2.1, r6.2.2.1, r6.2.2.2⟩ : ITerm)]]) (v := pv28) h246 (.sl h239) (oSl cITerm) rfl rfl K70 T44 rfl rfl (by (try simp only [List.length_cons, List.length_nil]); omega) (by show (_ + _) * 24 ≤ 140737488355328; (try simp only [List.length_cons, List.length_nil]); omega) rfl rfl rfl rfl rfl ?_
 rintro pv34 S h249 u37 w14
 have ap41 := w14.sameP h240
 have h250 := u37.sameP h240 (OutT.sub ap7 z14)
 have ap42 := w14.box h241
 have h251 := u37.box h241 (ApT.sub ap8 z14).ap
 have ap43 := w14.box h242
 have h252 := u37.box h242 (ApT.sub ap9 z14).ap
 have ap44 := w14.vec h243
 have h253 := u37.vec h243 (ApT.sub ap3 z14).ap
 have ap45 := w14.box h244
 have h254 := u37.box h244 (ApT.sub ap14 z14).ap
 have ap46 := w14.vec h245
 have h255 := u37.vec h245 ap35
 have ap47 := w14.rows h247
 have h256 := u37.rows h247 ap39
 have ap48 := w14.obj h248
 have h257 := u37.obj h248 ap37.symm
 refine Opl.id0 rfl rfl (by omega) K24 Z72 rfl rfl (Opl.one (v := .ptr d7 2) rfl rfl (by simp only [go_sem]; rfl) (Opl.stob (cs' := pv26 :: pv27 :: pv34 :: q9) (vs := [pv34]) h257 rfl (by exact Vec.cells h249) rfl Z70 rfl (by simp only [List.length_cons]; omega) (by simp only [List.all_cons, List.all_nil, Vec.one h249, Bool.and_true, Bool.true_and] <;> rfl) rfl rfl rfl ?_))
 rintro S h258 u38
 have h259 := u38.sameP h250 (OutT.sub ap7 z15)
 have h260 := u38.box h251 (ApT.sub ap8 z15).ap
 have h261 := u38.box h252 (ApT.sub ap9 z15).ap
 have h262 := u38.vec h253 (ApT.sub ap3 z15).ap
 have h263 := u38.box h254 (ApT.sub ap14 z15).ap
 have h264 := u38.vec h255 ap36
 have h265 := u38.rows h256 ap40
 have h266 := u38.vec h249 ap48.symm
 have h267 : (oRow odIRule).R S (d7 :: ((pv27.id?.toList ++ pv34.id?.toList) ++ j3)) ((⟨(r1.2.2.getD 0 (zIRule : IRule)).f0, (r1.2.2.getD 0 (zIRule : IRule)).f1, (((r1.2.2.getD 0 (zIRule : IRule)).f2) ++ [[(⟨r6.1, r6.2.1, r6.2.2.1, r6.2.2.2⟩ : ITerm)]])⟩ : IRule) :: r1.2.2.tail) [(PV.loc d7 0 r1.2.2.length)] := od3_close0 (l := r1.2.2) rfl (by rw [List.length_tail]; omega) h258 h224 h264 h266 h265 ap46 ap36 ap48.symm ap38 ap47 ap40
 refine Opl.nil (Evr.seq (Evr.frzc [] [(PV.loc d7 0 r1.2.2.length)] h263 h262 ap13 ?_))
 rintro pv35 S1_ S h268 u39 u40 h269
 have h270 := u40.sameP (u39.sameP h259 ap4) ap10
 have h271 := u40.box (u39.box h260 ap5) ap11
 have h272 := u40.box (u39.box h261 ap6) ap12
 have h273 := u40.tree (u39.tree h267 (ApT.cons (ApT.sub ap3 z15).ap ((ApT.app (Ap.apT (ApT.sub ap3 z13).ap) (Ap.apT ap44)).app (ApT.sub ap3 z16)))) (ApT.cons (ApT.sub ap14 z15).ap ((ApT.app (Ap.apT (ApT.sub ap14 z13).ap) (Ap.apT ap45)).app (ApT.sub ap14 z16)))
 have h274 : Sl cIVar r1.2.1 pv35 := h268
 have h275 : Box (.ptr i2 0) [pv35, (PV.loc d7 0 r1.2.2.length)] S := h269
 refine Evr.frzcT [pv35] [] h275 h273 (ApT.cons (ApT.sub ap14 z15).ap ((ApT.app (Ap.apT (ApT.sub ap14 z13).ap) (Ap.apT ap45)).app (ApT.sub ap14 z16))) ?_
 rintro pv36 S1_ S h276 u41 u42 h277
 have h278 := u42.sameP (u41.sameP h270 (OutT.cons (OutT.sub ap7 z15) ((OutT.app (OutT.sub ap7 z13) ap41).app (OutT.sub ap7 z16)))) ap10
 have h279 := u42.box (u41.box h271 (ApT.cons (ApT.sub ap8 z15).ap ((ApT.app (Ap.apT (ApT.sub ap8 z13).ap) (Ap.apT ap42)).app (ApT.sub ap8 z16)))) ap11
 have h280 := u42.box (u41.box h272 (ApT.cons (ApT.sub ap9 z15).ap ((ApT.app (Ap.apT (ApT.sub ap9 z13).ap) (Ap.apT ap43)).app (ApT.sub ap9 z16)))) ap12
 have h281 : Sl cIRule ((⟨(r1.2.2.getD 0 (zIRule : IRule)).f0, (r1.2.2.getD 0 (zIRule : IRule)).f1, (((r1.2.2.getD 0 (zIRule : IRule)).f2) ++ [[(⟨r6.1, r6.2.1, r6.2.2.1, r6.2.2.2⟩ : ITerm)]])⟩ : IRule) :: r1.2.2.tail) pv36 := h276
 have h282 : Box (.ptr i2 0) [pv35, pv36] S := h277
 refine Evr.regionN rfl (Opl.ldb (v := .agg [pv35, pv36]) h282 rfl T26 rfl rfl rfl rfl (Opl.stb (vs := [pv35, pv36]) h280 rfl rfl Z26 rfl (Nat.le_of_ble_eq_true rfl) (by simp only [List.all_cons, List.all_nil, h274.one, h281.one, Bool.and_true, Bool.true_and] <;> rfl) rfl rfl rfl ?_))
 rintro S (h283 : Box (.ptr i1 0) [pv35, pv36] _) u43
 have h284 := u43.sameP h278 ap1
 have h285 := u43.box h279 ap2
 have h286 := u43.box h282 ap12.symm
 refine Opl.nil ?_
 obtain rfl := Option.some.inj H
 refine Evr.retb (v := .agg [pv35, pv36]) Try.func48 rfl h283 rfl T26 rfl ?_
 exact ⟨_, _, rfl, h274, h281, h285, h284⟩
theorem spec_l40Open.evb {k : Nat} {S0 : Sto} {l0 : List Int} {v0 : PV} (hv0 : Sl (cInt .u8) l0 v0) {r : (List Int × Int)} (H : spec_l40Open.f k l0 = some r) : RetS Try.prog 47 [v0] S0 fun v S => ∃ jv zv, v = .ptr jv 0 ∧ Sl (cInt .u8) r.1 zv ∧ Box v [zv, .lit (.int .i64 r.2)] S ∧ New S0 v ∧ Same S0 S [] := by
 have hs0 : Same S0 S0 [] := .refl _ _
 unfold spec_l40Open.f at H
 refine RetS.intro Try.func47 rfl (Nat.le_of_ble_eq_true rfl) rfl ?_
 rw [tm1]
 refine Evr.seq (Evr.regionN rfl (Opl.one rfl rfl (by simp only [go_sem] <;> rfl) (Opl.nil (Evr.seq (Evr.seq (Evr.regionN rfl (Opl.one rfl rfl (by simp only [go_sem] <;> rfl) (Opl.len (xs := l0) (by exact hv0) K22 rfl rfl rfl rfl (Opl.one rfl rfl (by simp only [go_sem] <;> rfl) (Opl.nil ?_))))))))))
 by_cases c1 : (l0.length : Int) > 2000
 case neg =>
  rw [if_neg c1] at H
  have e2 : (decide ((l0.length : Int) > 2000)) = false := by simpa using c1
  try rw [e2]
  refine Evr.condF rfl (Evr.skip (Evr.seq (Evr.regionN rfl (Opl.one rfl rfl (by simp only [go_sem] <;> rfl) (Opl.one (v := .agg [v0, .lit (.int .i64 0)]) rfl rfl (by simp only [go_sem]; simp only [fillL, Sl.cells hv0]; rfl) (Opl.box (cs := [v0, .lit (.int .i64 0)]) rfl rfl rfl rfl ?_))))))
  rintro i2 S h4 u2 w2
  have ap2 := w2.sameP hs0
  have h5 := u2.sameP hs0 ap2
  refine Opl.one rfl rfl (by simp only [go_sem] <;> rfl) (Opl.nil ?_)
  obtain rfl := Option.some.inj H
  refine Evr.ret1 Try.func47 rfl ?_
  exact ⟨_, _, rfl, hv0, h4, (OutT.new0 ap2), h5⟩
 rw [if_pos c1] at H
 have e1 : (decide ((l0.length : Int) > 2000)) = true := by simpa using c1
 try rw [e1]
 refine Evr.condT rfl (Evr.regionN rfl (Opl.one rfl rfl (by simp only [go_sem] <;> rfl) ?_))
 obtain ⟨c2, H⟩ := peel H
 refine Opl.slcT (M := (cInt .u8)) (b := 2000) (by exact hv0) rfl  (by omega) (by omega) K22 Z5 rfl rfl rfl ?_
 rintro pv1 h1
 refine Opl.one rfl rfl (by simp only [go_sem] <;> rfl) (Opl.nil (Evr.seq (Evr.regionN rfl (Opl.one rfl rfl (by simp only [go_sem] <;> rfl) (Opl.one (v := .agg [pv1, .lit (.int .i64 0)]) rfl rfl (by simp only [go_sem]; simp only [fillL, Sl.cells h1]; rfl) (Opl.box (cs := [pv1, .lit (.int .i64 0)]) rfl rfl rfl rfl ?_))))))
 rintro i1 S h2 u1 w1
 have ap1 := w1.sameP hs0
 have h3 := u1.sameP hs0 ap1
 refine Opl.one rfl rfl (by simp only [go_sem] <;> rfl) (Opl.nil ?_)
 obtain rfl := Option.some.inj H
 refine Evr.ret1 Try.func47 rfl ?_
 exact ⟨_, _, rfl, h1, h2, (OutT.new0 ap1), h3⟩
theorem spec_DrawStatesWhere.ev {k : Nat} {l0 : List Int} {v0 : PV} (hv0 : Sl (cInt .u8) l0 v0) {r : (List IVar × List IRule) × (List ITerm)} (H : spec_DrawStatesWhere.f k l0 = some r) : Ret Try.prog 31 [v0] fun v S => Out (fun q => ∃ q1 q2, q = .tup [q1, q2] ∧ (∃ q11 q12, q1 = .agg [q11, q12] ∧ Sl cIVar r.1.1 q11 ∧ Sl cIRule r.1.2 q12) ∧ Sl cITerm r.2 q2) v S := by
 unfold spec_DrawStatesWhere.f at H
 refine Ret.intro Try.func31 rfl (Nat.le_of_ble_eq_true rfl) rfl ?_
 rw [tm1]
 refine Evr.seq (Evr.regionN rfl (Opl.alloc T26 rfl rfl rfl ?_))
 rintro i1 S h1 u1 w1
 refine Opl.one rfl rfl (by simp only [go_sem] <;> rfl) (Opl.nil (Evr.seq (Evr.regionN rfl (Opl.one rfl rfl (by simp only [go_sem] <;> rfl) ?_))))
 obtain ⟨r1, h_r1, H⟩ := Option.bind_eq_some_iff.1 H
 refine Opl.calls (spec_l40Open.evb hv0 h_r1) rfl rfl rfl rfl rfl ?_
 rintro _ S ⟨i2, pv1, rfl, h2, h3, w2, u2⟩
 have h5 := u2.box h1 ApT.nil
 have ap1 := w2.box h1
 refine Opl.one rfl rfl (by simp only [go_sem] <;> rfl) (Opl.nil (Evr.seq (Evr.regionN rfl (Opl.one rfl rfl (by simp only [go_sem] <;> rfl) ?_))))
 obtain ⟨r2, h_r2, H⟩ := Option.bind_eq_some_iff.1 H
 refine Opl.calls (spec_l2Any.evb h2 h3 h_r2) rfl rfl rfl rfl rfl ?_
 rintro _ S ⟨pv2, pv3, rfl, h6, h7, h8, u3⟩
 have h9 := u3.box h5 (ap1).pt
 refine Opl.alloc T26 rfl rfl rfl ?_
 rintro i3 S h10 u4 w3
 have ap2 := w3.box h9
 have h11 := u4.box h9 ap2
 have ap3 := w3.box h8
 have h12 := u4.box h8 ap3
 refine Opl.stb (vs := [pv2, pv3]) h10 rfl rfl Z26 rfl (Nat.le_of_ble_eq_true rfl) (by simp only [List.all_cons, List.all_nil, h6.one, h7.one, Bool.and_true, Bool.true_and] <;> rfl) rfl rfl rfl ?_
 rintro S (h13 : Box (.ptr i3 0) [pv2, pv3] _) u5
 have h14 := u5.box h11 ap2
 have h15 := u5.box h12 ap3
 refine Opl.nil (Evr.seq (Evr.seq (Evr.regionN rfl (Opl.one (v := .ptr i3 0) rfl rfl (by simp only [go_sem]; rfl) (Opl.ldb (v := pv2) h13 rfl T23 rfl rfl rfl rfl (Opl.len (xs := r2.2.1) (by exact h6) K23 rfl rfl rfl rfl (Opl.one rfl rfl (by simp only [go_sem] <;> rfl) (Opl.one rfl rfl (by simp only [go_sem] <;> rfl) ?_))))))))
 by_cases c1 : (r2.2.1.length : Int) = 0
 case pos =>
  rw [if_pos c1] at H
  have e1 : ((r2.2.1.length : Int) == 0) = true := by simpa using c1
  try rw [e1]
  refine Opl.skp rfl (Opl.skp rfl (Opl.skp rfl (Opl.one rfl rfl (by simp only [go_sem] <;> rfl) (Opl.nil (Evr.condT rfl (Evr.seq (Evr.regionL [(5, .m), (0, .q), (3, .q)] rfl (by kernel_rfl) (Opl.ldbk (v := .agg [pv2, pv3]) h13 (rd_sl h7) rfl T26 rfl rfl rfl rfl (Opl.one rfl rfl (by simp only [go_sem] <;> rfl) (Opl.one (v := .ptr i3 0) rfl rfl (by simp only [go_sem]; rfl) (Opl.ldbk (v := pv2) h13 (rd_sl h7) rfl T23 rfl rfl rfl rfl (Opl.len (xs := r2.2.1) (by exact h6) K23 rfl rfl rfl rfl ?_))))))))))))
  obtain ⟨r3, h_r3, H⟩ := Option.bind_eq_some_iff.1 H
  refine Opl.callbm h15 (spec_l1Any.evb h2 h15 h_r3) rfl rfl rfl rfl rfl ?_
  rintro pv4 S h16 h17 u6
  have h18 := u6.box h14 (ap1).pt
  have h19 := u6.box h13 (ap3.symm).pt
  refine Opl.stb (vs := [pv2, pv3]) h18 rfl rfl Z26 rfl (Nat.le_of_ble_eq_true rfl) (by simp only [List.all_cons, List.all_nil, h6.one, h7.one, Bool.and_true, Bool.true_and] <;> rfl) rfl rfl rfl ?_
  rintro S (h20 : Box (.ptr i1 0) [pv2, pv3] _) u7
  have h21 := u7.box h17 ap1.symm
  have h22 := u7.box h19 ap2.symm
  refine Opl.one rfl rfl (by simp only [go_sem] <;> rfl) (Opl.nil ?_)
  obtain rfl := Option.some.inj H
  refine Evr.ret_ct (v0 := .agg [pv2, pv3]) Try.func31 rfl h20 rfl T26 rfl ?_
  show Out _ (.tup [.agg [pv2, pv3], pv4]) _
  exact .tup2 (.agg2 (.sl h6) (.sl h7)) (.sl h16)
 rw [if_neg c1] at H
 have e2 : ((r2.2.1.length : Int) == 0) = false := by simpa using c1
 try rw [e2]
 refine Opl.one rfl rfl (by simp only [go_sem] <;> rfl) ?_
 obtain ⟨r4, h_r4, H⟩ := Option.bind_eq_some_iff.1 H
 refine Opl.calls (spec_l40Rd_pick.evb h2 h15 h_r4) rfl rfl rfl rfl rfl ?_
 rintro _ S ⟨rfl, h23, u8⟩
 have h24 := u8.box h14 (ap1).pt
 have h25 := u8.box h13 (ap3.symm).pt
 refine Opl.one rfl rfl (by simp only [go_sem] <;> rfl) (Opl.one rfl rfl (by simp only [go_sem] <;> rfl) (Opl.nil ?_))
 by_cases c2 : r4.2 = 0
 case pos =>
  rw [if_pos c2] at H
  have e3 : (r4.2 == 0) = true := by simpa using c2
  try rw [e3]
  refine Evr.condT rfl (Evr.seq (Evr.regionL [(5, .m), (0, .q), (3, .q)] rfl (by kernel_rfl) (Opl.ldbk (v := .agg [pv2, pv3]) h25 (rd_sl h7) rfl T26 rfl rfl rfl rfl (Opl.one rfl rfl (by simp only [go_sem] <;> rfl) (Opl.one (v := .ptr i3 0) rfl rfl (by simp only [go_sem]; rfl) (Opl.ldbk (v := pv2) h25 (rd_sl h7) rfl T23 rfl rfl rfl rfl (Opl.len (xs := r2.2.1) (by exact h6) K23 rfl rfl rfl rfl ?_)))))))
  obtain ⟨r5, h_r5, H⟩ := Option.bind_eq_some_iff.1 H
  refine Opl.callbm h23 (spec_l1Any.evb h2 h23 h_r5) rfl rfl rfl rfl rfl ?_
  rintro pv5 S h26 h27 u9
  have h28 := u9.box h24 (ap1).pt
  have h29 := u9.box h25 (ap3.symm).pt
  refine Opl.stb (vs := [pv2, pv3]) h28 rfl rfl Z26 rfl (Nat.le_of_ble_eq_true rfl) (by simp only [List.all_cons, List.all_nil, h6.one, h7.one, Bool.and_true, Bool.true_and] <;> rfl) rfl rfl rfl ?_
  rintro S (h30 : Box (.ptr i1 0) [pv2, pv3] _) u10
  have h31 := u10.box h27 ap1.symm
  have h32 := u10.box h29 ap2.symm
  refine Opl.one rfl rfl (by simp only [go_sem] <;> rfl) (Opl.nil ?_)
  obtain rfl := Option.some.inj H
  refine Evr.ret_ct (v0 := .agg [pv2, pv3]) Try.func31 rfl h30 rfl T26 rfl ?_
  show Out _ (.tup [.agg [pv2, pv3], pv5]) _
  exact .tup2 (.agg2 (.sl h6) (.sl h7)) (.sl h26)
 rw [if_neg c2] at H
 have e4 : (r4.2 == 0) = false := by simpa using c2
 try rw [e4]
 refine Evr.condF rfl (Evr.skip (Evr.seq (Evr.regionL [(3, .m), (6, .m), (5, .p), (0, .q)] rfl (by kernel_rfl) (Opl.ldbk (v := .agg [pv2, pv3]) h25 (rd_sl h7) rfl T26 rfl rfl rfl rfl (Opl.one rfl rfl (by simp only [go_sem] <;> rfl) (Opl.one rfl rfl (by simp only [go_sem] <;> rfl) ?_))))))
 obtain ⟨r6, h_r6, H⟩ := Option.bind_eq_some_iff.1 H
 refine Opl.callbm (A := fun v => ∃ v_0 v_1, v = .agg [v_0, v_1] ∧ Sl cIVar r6.2.1 v_0 ∧ Sl cIRule r6.2.2 v_1) h23 (RetS.mono (spec_l2System.evf h2 h23 h_r6) fun _ _ ⟨y0, y1, y2, y3, y4, h1_, h2_⟩ => ⟨⟨y0, y1, y2, y3, y4⟩, h1_, h2_⟩) rfl rfl rfl rfl rfl ?_
 rintro _ S ⟨pv6, pv7, rfl, h33, h34⟩ h35 u11
 have h36 := u11.box h24 (ap1).pt
 have h37 := u11.box h25 (ap3.symm).pt
 refine Opl.one (v := pv6) rfl rfl (by simp only [go_sem]; rfl) ?_
 obtain ⟨c3, H⟩ := peel H
 refine Opl.plcT (M := cIVar) (b := 1) (by exact h33) rfl  (by omega) (by omega) K23 Z61 rfl rfl ?_
 rintro pv8 h38
 obtain ⟨r7, h_r7, H⟩ := Option.bind_eq_some_iff.1 H
 refine Opl.callbm h35 (spec_l2When.evb h2 h35 h38 h_r7) rfl rfl rfl rfl rfl ?_
 rintro pv9 S h39 h40 u12
 have h41 := u12.box h36 (ap1).pt
 have h42 := u12.box h37 (ap3.symm).pt
 refine Opl.stb (vs := [pv2, pv3]) h41 rfl rfl Z26 rfl (Nat.le_of_ble_eq_true rfl) (by simp only [List.all_cons, List.all_nil, h6.one, h7.one, Bool.and_true, Bool.true_and] <;> rfl) rfl rfl rfl ?_
 rintro S (h43 : Box (.ptr i1 0) [pv2, pv3] _) u13
 have h44 := u13.box h40 ap1.symm
 have h45 := u13.box h42 ap2.symm
 refine Opl.one rfl rfl (by simp only [go_sem] <;> rfl) (Opl.nil ?_)
 obtain rfl := Option.some.inj H
 refine Evr.ret_ct (v0 := .agg [pv2, pv3]) Try.func31 rfl h43 rfl T26 rfl ?_
 show Out _ (.tup [.agg [pv2, pv3], pv9]) _
 exact .tup2 (.agg2 (.sl h6) (.sl h7)) (.sl h39)
theorem spec_l2Is.ev {k : Nat} {l0 : List ITerm} {v0 : PV} (hv0 : Sl cITerm l0 v0) {a1 : Int} {a2 : Int} {r : Bool} (H : spec_l2Is.f k l0 a1 a2 = some r) : Ret Try.prog 84 [v0, .lit (.int .i64 a1), .lit (.int .i64 a2)] fun v S => v = .lit (.bool r) := by
 unfold spec_l2Is.f at H
 refine Ret.intro Try.func84 rfl (Nat.le_of_ble_eq_true rfl) rfl ?_
 rw [tm3]
 refine Evr.seq (Evr.regionN rfl (Opl.one rfl rfl (by simp only [go_sem]; rfl) (Opl.nil (Evr.seq (Evr.regionN rfl (Opl.one rfl rfl (by simp only [go_sem]; rfl) (Opl.one rfl rfl (by simp only [go_sem]; rfl) ?_)))))))
 obtain ⟨t124, h_t124, H⟩ := Option.bind_eq_some_iff.1 H
 refine Opl.call ((spec_KindsOf.ev hv0 h_t124).mono fun _ _ h => Out.vec h) rfl rfl rfl rfl ⟨hv0.plain, (.lit _), trivial⟩ (by decide) ?_
 rintro pv1 h1
 refine Opl.one rfl rfl (by simp only [go_sem]; rfl) (Opl.nil (Evr.seq (Evr.regionN rfl (Opl.one rfl rfl (by simp only [go_sem]; rfl) (Opl.len (xs := t124) (by exact h1) K29 rfl rfl rfl rfl (Opl.one rfl rfl (by simp only [go_sem]; rfl) (Opl.one rfl rfl (by simp only [go_sem]; rfl) ?_)))))))
 by_cases c1 : (t124.length : Int) > 0
 case neg =>
  rw [if_neg c1] at H
  have e2 : (decide ((t124.length : Int) > 0)) = false := by simpa using c1
  try rw [e2]
  refine Opl.skp rfl (Opl.skp rfl (Opl.skp rfl (Opl.skp rfl (Opl.skp rfl (Opl.skp rfl (Opl.skp rfl (Opl.skp rfl (Opl.one rfl rfl (by simp only [go_sem]; rfl) (Opl.one rfl rfl (by simp only [go_sem]; rfl) (Opl.nil ?_))))))))))
  obtain rfl := Option.some.inj H
  refine Evr.ret1 Try.func84 rfl ?_
  show (.lit (.bool false) : PV) = _
  first | rfl | (simp only [go_sem]; rfl)
 rw [if_pos c1] at H
 have e1 : (decide ((t124.length : Int) > 0)) = true := by simpa using c1
 try rw [e1]
 refine Opl.one rfl rfl (by simp only [go_sem]; rfl) (Opl.one rfl rfl (by simp only [go_sem]; rfl) (Opl.len (xs := t124) (by exact h1) K29 rfl rfl rfl rfl (Opl.subi (k := .i64) (a := (t124.length : Int)) (b := 1) K3 rfl rfl rfl rfl ?_)))
 obtain ⟨c2, H⟩ := peel H
 obtain ⟨c3, H⟩ := peel H
 refine Opl.idx (M := (cInt .i64)) (xs := t124) (j := (wrap64 ((t124.length : Int) - 1))) (0 : Int) (by exact h1) rfl (by first | omega | (simp only [List.length_set] at *; omega)) (by first | omega | (simp only [List.length_set] at *; omega)) K29 Z3 rfl rfl ?_
 rintro p1 q1 h2
 obtain rfl : p1 = [.lit (.int .i64 (rd t124 (wrap64 ((t124.length : Int) - 1))))] := h2
 refine Opl.lda (.lit (.int .i64 (rd t124 (wrap64 ((t124.length : Int) - 1))))) rfl T3 rfl rfl rfl rfl (Opl.one (v := .lit (.int .i64 a2)) rfl rfl rfl (Opl.eql (a := (rd t124 (wrap64 ((t124.length : Int) - 1)))) (b := a2) K3 rfl rfl rfl rfl (Opl.one rfl rfl (by simp only [go_sem]; rfl) (Opl.one (v := .lit (.bool ((rd t124 (wrap64 ((t124.length : Int) - 1))) == a2))) rfl rfl rfl (Opl.nil ?_)))))
 obtain rfl := Option.some.inj H
 refine Evr.ret1 Try.func84 rfl ?_
 show (.lit (.bool ((rd t124 (wrap64 ((t124.length : Int) - 1))) == a2)) : PV) = _
 first | rfl | (simp only [go_sem]; rfl)
theorem spec_l2Rule.ev {k : Nat} {l0_0 : List ITerm} {v0_0 : PV} (hv0_0 : Sl cITerm l0_0 v0_0) {l0_1 : List Int} {v0_1 : PV} (hv0_1 : Sl (cInt .i64) l0_1 v0_1) {l0_2 : List (List ITerm)} {v0_2 : PV} (hv0_2 : Sl (cSl cITerm) l0_2 v0_2) {a1 : Int} {r : Bool} (H : spec_l2Rule.f k l0_0 l0_1 l0_2 a1 = some r) : Ret Try.prog 77 [.agg [v0_0, v0_1, v0_2], .lit (.int .i64 a1)] fun v S => v = .lit (.bool r) := by
 unfold spec_l2Rule.f at H
 refine Ret.intro Try.func77 rfl (Nat.le_of_ble_eq_true rfl) rfl ?_
 rw [tm2]
 refine Evr.seq (Evr.regionN rfl (Opl.box (cs := [v0_0, v0_1, v0_2]) rfl rfl rfl rfl ?_))
 rintro i1 S h1 u1 w1
 refine Opl.one rfl rfl (by simp only [go_sem]; rfl) (Opl.nil (Evr.seq (Evr.seq ?_)))
 refine Evr.join (fun tm S => ∃ (kq1 : Nat) (x26_1 : Bool) (i2 : Abs.Id), spec_l2Rule.j0 kq1 a1 x26_1 l0_0 l0_1 l0_2 = some r ∧ Has tm [(1, .lit (.int .i64 a1)), (2, .ptr i2 0), (26, .lit (.bool x26_1))] ∧ Box (.ptr i2 0) [v0_0, v0_1, v0_2] S) ?_ fun hk1 => ?_
 ·
  rintro tm S ⟨kq1, x26_1, i2, H, hh, h2⟩
  rw [hh.eq]
  obtain _ | k1 := kq1
  · simp [spec_l2Rule.j0] at H
  simp only [spec_l2Rule.j0] at H
  by_cases c1 : x26_1 = true
  case pos =>
   rw [if_pos c1] at H
   obtain rfl : x26_1 = true := by simpa using c1
   refine Evr.condT rfl (Evr.seq (Evr.regionN rfl (Opl.one rfl rfl (by simp only [go_sem]; rfl) (Opl.nil ?_))))
   obtain rfl := Option.some.inj H
   refine Evr.ret1 Try.func77 rfl ?_
   show (.lit (.bool false) : PV) = _
   first | rfl | (simp only [go_sem]; rfl)
  rw [if_neg c1] at H
  obtain rfl : x26_1 = false := by simpa using c1
  refine Evr.condF rfl (Evr.skip (Evr.seq (Evr.seq (Evr.regionN rfl (Opl.one rfl rfl (by simp only [go_sem]; rfl) (Opl.nil (Evr.block ?_)))))))
  refine Evr.loop (Evr.rounds (n := k1) (Inv := fun n tm S => n ≤ k1 ∧ ∃ (x5_1 : Int) (i3 : Abs.Id), spec_l2Rule.l0 n a1 x5_1 l0_0 l0_1 l0_2 = some r ∧ Has tm [(1, .lit (.int .i64 a1)), (2, .ptr i3 0), (5, .lit (.int .i64 x5_1))] ∧ Box (.ptr i3 0) [v0_0, v0_1, v0_2] S) ?_ ?_ ?_)
  · exact ⟨Nat.le_refl _, _, _, H, ⟨rfl, rfl, rfl, trivial⟩, h2⟩
  ·
   rintro tm S ⟨_, _, _, H, -⟩
   simp [spec_l2Rule.l0] at H
  ·
   rintro n1 ih1 tm S ⟨hle, x5_1, i3, H, hh, h3⟩
   simp only [spec_l2Rule.l0] at H
   rw [hh.eq]
   refine Evr.seq (Evr.seq (Evr.regionN rfl (Opl.one rfl rfl (by simp only [go_sem]; rfl) (Opl.one (v := .ptr i3 1) rfl rfl (by simp only [go_sem]; rfl) (Opl.ldb (v := v0_1) h3 rfl T29 rfl rfl rfl rfl (Opl.len (xs := l0_1) (by exact hv0_1) K29 rfl rfl rfl rfl (Opl.one rfl rfl (by simp only [go_sem]; rfl) (Opl.nil ?_))))))))
   by_cases c2 : x5_1 < (l0_1.length : Int)
   case neg =>
    rw [if_neg c2] at H
    have e8 : (decide (x5_1 < (l0_1.length : Int))) = false := by simpa using c2
    try rw [e8]
    refine Evr.condF rfl (Evr.exit rfl (Evr.seq (Evr.regionN rfl (Opl.one rfl rfl (by simp only [go_sem]; rfl) (Opl.nil ?_)))))
    obtain rfl := Option.some.inj H
    refine Evr.ret1 Try.func77 rfl ?_
    show (.lit (.bool true) : PV) = _
    first | rfl | (simp only [go_sem]; rfl)
   rw [if_pos c2] at H
   have e1 : (decide (x5_1 < (l0_1.length : Int))) = true := by simpa using c2
   try rw [e1]
   refine Evr.condT rfl (Evr.skip (Evr.seq (Evr.block (Evr.seq ?_))))
   refine Evr.join (fun tm S => ∃ (kq2 : Nat) (x70_1 : Bool) (i4 : Abs.Id), spec_l2Rule.j2 kq2 a1 x5_1 x70_1 l0_0 l0_1 l0_2 = some r ∧ kq2 ≤ n1 ∧ Has tm [(1, .lit (.int .i64 a1)), (2, .ptr i4 0), (5, .lit (.int .i64 x5_1)), (70, .lit (.bool x70_1))] ∧ Box (.ptr i4 0) [v0_0, v0_1, v0_2] S) ?_ fun hk2 => ?_
   ·
    rintro tm S ⟨kq2, x70_1, i4, H, hle, hh, h4⟩
    rw [hh.eq]
    obtain _ | k2 := kq2
    · simp [spec_l2Rule.j2] at H
    simp only [spec_l2Rule.j2] at H
    by_cases c3 : x70_1 = true
    case pos =>
     rw [if_pos c3] at H
     obtain rfl : x70_1 = true := by simpa using c3
     refine Evr.condT rfl (Evr.seq (Evr.regionN rfl (Opl.one rfl rfl (by simp only [go_sem]; rfl) (Opl.nil ?_))))
     obtain rfl := Option.some.inj H
     refine Evr.ret1 Try.func77 rfl ?_
     show (.lit (.bool false) : PV) = _
     first | rfl | (simp only [go_sem]; rfl)
    rw [if_neg c3] at H
    obtain rfl : x70_1 = false := by simpa using c3
    refine Evr.condF rfl (Evr.skip (Evr.inBlock (Evr.regionN rfl (Opl.one rfl rfl (by simp only [go_sem]; rfl) (Opl.add (k := .i64) (a := x5_1) (b := 1) K3 rfl rfl rfl rfl (Opl.one (v := .lit (.int .i64 (wrap64 (x5_1 + 1)))) rfl rfl rfl (Opl.nil ?_)))))))
    exact ih1 _ (by omega) _ _ ⟨by omega, _, _, H, ⟨rfl, rfl, rfl, trivial⟩, h4⟩
   ·
    refine Evr.regionD rfl (by kernel_rfl) (Opl.one (v := .ptr i3 1) rfl rfl (by simp only [go_sem]; rfl) (Opl.ldb (v := v0_1) h3 rfl T29 rfl rfl rfl rfl (Opl.one rfl rfl (by simp only [go_sem]; rfl) ?_)))
    obtain ⟨c4, H⟩ := peel H
    refine Opl.idx (M := (cInt .i64)) (xs := l0_1) (j := x5_1) (0 : Int) (by exact hv0_1) rfl (by first | omega | (simp only [List.length_set] at *; omega)) (by first | omega | (simp only [List.length_set] at *; omega)) K29 Z3 rfl rfl ?_
    rintro p1 q1 h5
    obtain rfl : p1 = [.lit (.int .i64 (rd l0_1 x5_1))] := h5
    refine Opl.lda (.lit (.int .i64 (rd l0_1 x5_1))) rfl T3 rfl rfl rfl rfl (Opl.one rfl rfl (by simp only [go_sem]; rfl) (Opl.subi (k := .i64) (a := a1) (b := 1) K3 rfl rfl rfl rfl ?_))
    obtain ⟨t131, h_t131, H⟩ := Option.bind_eq_some_iff.1 H
    refine Opl.callc (spec_l1In.ev h_t131) rfl rfl rfl rfl ⟨(.lit _), (.lit _), (.lit _), trivial⟩ (by decide) (Opl.one rfl rfl (by simp only [go_sem]; rfl) (Opl.one (v := .lit (.bool (!t131))) rfl rfl rfl ?_))
    by_cases c5 : t131 = true
    case neg =>
     rw [if_neg c5] at H
     have e7 : (!t131) = true := by simpa using c5
     try rw [e7]
     refine Opl.skp rfl (Opl.skp rfl (Opl.skp rfl (Opl.skp rfl (Opl.skp rfl (Opl.skp rfl (Opl.skp rfl (Opl.skp rfl (Opl.skp rfl (Opl.skp rfl (Opl.skp rfl (Opl.skp rfl (Opl.skp rfl (Opl.skp rfl (Opl.skp rfl (Opl.skp rfl (Opl.one rfl rfl (by simp only [go_sem]; rfl) (Opl.one (v := .lit (.bool true)) rfl rfl rfl (Opl.skp rfl (Opl.skp rfl (Opl.skp rfl (Opl.skp rfl (Opl.skp rfl (Opl.skp rfl (Opl.skp rfl (Opl.skp rfl (Opl.one rfl rfl (by simp only [go_sem]; rfl) (Opl.nil ?_)))))))))))))))))))))))))))
     exact hk2 _ _ ⟨_, _, _, H, by omega, ⟨rfl, rfl, rfl, (by first | rfl | (show PV.lit (.bool _) = _; congr 2; simp_all)), trivial⟩, h3⟩
    rw [if_pos c5] at H
    have e2 : (!t131) = false := by simpa using c5
    try rw [e2]
    refine Opl.one (v := .lit (.int .i64 x5_1)) rfl rfl rfl (Opl.one rfl rfl (by simp only [go_sem]; rfl) (Opl.one (v := .lit (.bool (decide (x5_1 > 0)))) rfl rfl rfl ?_))
    by_cases c6 : x5_1 > 0
    case neg =>
     rw [if_neg c6] at H
     have e6 : (decide (x5_1 > 0)) = false := by simpa using c6
     try rw [e6]
     refine Opl.skp rfl (Opl.skp rfl (Opl.skp rfl (Opl.skp rfl (Opl.skp rfl (Opl.skp rfl (Opl.skp rfl (Opl.skp rfl (Opl.skp rfl (Opl.skp rfl (Opl.skp rfl (Opl.skp rfl (Opl.one rfl rfl (by simp only [go_sem]; rfl) (Opl.one rfl rfl (by simp only [go_sem]; rfl) (Opl.one (v := .lit (.bool false)) rfl rfl rfl (Opl.one (v := .ptr i3 2) rfl rfl (by simp only [go_sem]; rfl) (Opl.ldb (v := v0_2) h3 rfl T70 rfl rfl rfl rfl (Opl.one (v := .lit (.int .i64 x5_1)) rfl rfl rfl ?_)))))))))))))))))
     obtain ⟨c11, H⟩ := peel H
     refine Opl.idx (M := (cSl cITerm)) (xs := l0_2) (j := x5_1) ([] : List ITerm) (by exact hv0_2) rfl (by first | omega | (simp only [List.length_set] at *; omega)) (by first | omega | (simp only [List.length_set] at *; omega)) K70 Z44 rfl rfl ?_
     rintro p5 q5 h10
     obtain ⟨pv2, rfl, h11⟩ := h10
     refine Opl.lda (pv2) rfl T44 rfl rfl rfl rfl (Opl.one (v := .lit (.int .i64 a1)) rfl rfl rfl ?_)
     obtain ⟨t137, h_t137, H⟩ := Option.bind_eq_some_iff.1 H
     refine Opl.callc (spec_l2Is.ev h11 h_t137) rfl rfl rfl rfl ⟨h11.plain, (.lit _), (.lit _), trivial⟩ (by decide) (Opl.one rfl rfl (by simp only [go_sem]; rfl) (Opl.one rfl rfl (by simp only [go_sem]; rfl) (Opl.nil ?_)))
     exact hk2 _ _ ⟨_, _, _, H, by omega, ⟨rfl, rfl, rfl, (by first | rfl | (show PV.lit (.bool _) = _; congr 2; simp_all)), trivial⟩, h3⟩
    rw [if_pos c6] at H
    have e3 : (decide (x5_1 > 0)) = true := by simpa using c6
    try rw [e3]
    refine Opl.one (v := .ptr i3 1) rfl rfl (by simp only [go_sem]; rfl) (Opl.ldb (v := v0_1) h3 rfl T29 rfl rfl rfl rfl (Opl.one (v := .lit (.int .i64 x5_1)) rfl rfl rfl ?_))
    obtain ⟨c7, H⟩ := peel H
    obtain ⟨c8, H⟩ := peel H
    refine Opl.idx (M := (cInt .i64)) (xs := l0_1) (j := x5_1) (0 : Int) (by exact hv0_1) rfl (by first | omega | (simp only [List.length_set] at *; omega)) (by first | omega | (simp only [List.length_set] at *; omega)) K29 Z3 rfl rfl ?_
    rintro p2 q2 h6
    obtain rfl : p2 = [.lit (.int .i64 (rd l0_1 x5_1))] := h6
    refine Opl.lda (.lit (.int .i64 (rd l0_1 x5_1))) rfl T3 rfl rfl rfl rfl (Opl.one (v := .ptr i3 1) rfl rfl (by simp only [go_sem]; rfl) (Opl.ldb (v := v0_1) h3 rfl T29 rfl rfl rfl rfl (Opl.one (v := .lit (.int .i64 x5_1)) rfl rfl rfl (Opl.subi (k := .i64) (a := x5_1) (b := 1) K3 rfl rfl rfl rfl (Opl.idx (M := (cInt .i64)) (xs := l0_1) (j := (wrap64 (x5_1 - 1))) (0 : Int) (by exact hv0_1) rfl (by first | omega | (simp only [List.length_set] at *; omega)) (by first | omega | (simp only [List.length_set] at *; omega)) K29 Z3 rfl rfl ?_)))))
    rintro p3 q3 h7
    obtain rfl : p3 = [.lit (.int .i64 (rd l0_1 (wrap64 (x5_1 - 1))))] := h7
    refine Opl.lda (.lit (.int .i64 (rd l0_1 (wrap64 (x5_1 - 1))))) rfl T3 rfl rfl rfl rfl (Opl.leq (a := (rd l0_1 x5_1)) (b := (rd l0_1 (wrap64 (x5_1 - 1)))) K3 rfl rfl rfl rfl (Opl.one rfl rfl (by simp only [go_sem]; rfl) (Opl.one rfl rfl (by simp only [go_sem]; rfl) (Opl.one (v := .lit (.bool (decide ((rd l0_1 x5_1) ≤ (rd l0_1 (wrap64 (x5_1 - 1))))))) rfl rfl rfl ?_))))
    by_cases c9 : (rd l0_1 x5_1) ≤ (rd l0_1 (wrap64 (x5_1 - 1)))
    case pos =>
     rw [if_pos c9] at H
     have e4 : (decide ((rd l0_1 x5_1) ≤ (rd l0_1 (wrap64 (x5_1 - 1))))) = true := by simpa using c9
     try rw [e4]
     refine Opl.skp rfl (Opl.skp rfl (Opl.skp rfl (Opl.skp rfl (Opl.skp rfl (Opl.skp rfl (Opl.skp rfl (Opl.skp rfl (Opl.one rfl rfl (by simp only [go_sem]; rfl) (Opl.nil ?_)))))))))
     exact hk2 _ _ ⟨_, _, _, H, by omega, ⟨rfl, rfl, rfl, (by first | rfl | (show PV.lit (.bool _) = _; congr 2; simp_all)), trivial⟩, h3⟩
    rw [if_neg c9] at H
    have e5 : (decide ((rd l0_1 x5_1) ≤ (rd l0_1 (wrap64 (x5_1 - 1))))) = false := by simpa using c9
    try rw [e5]
    refine Opl.one (v := .ptr i3 2) rfl rfl (by simp only [go_sem]; rfl) (Opl.ldb (v := v0_2) h3 rfl T70 rfl rfl rfl rfl (Opl.one (v := .lit (.int .i64 x5_1)) rfl rfl rfl ?_))
    obtain ⟨c10, H⟩ := peel H
    refine Opl.idx (M := (cSl cITerm)) (xs := l0_2) (j := x5_1) ([] : List ITerm) (by exact hv0_2) rfl (by first | omega | (simp only [List.length_set] at *; omega)) (by first | omega | (simp only [List.length_set] at *; omega)) K70 Z44 rfl rfl ?_
    rintro p4 q4 h8
    obtain ⟨pv1, rfl, h9⟩ := h8
    refine Opl.lda (pv1) rfl T44 rfl rfl rfl rfl (Opl.one (v := .lit (.int .i64 a1)) rfl rfl rfl ?_)
    obtain ⟨t135, h_t135, H⟩ := Option.bind_eq_some_iff.1 H
    refine Opl.callc (spec_l2Is.ev h9 h_t135) rfl rfl rfl rfl ⟨h9.plain, (.lit _), (.lit _), trivial⟩ (by decide) (Opl.one rfl rfl (by simp only [go_sem]; rfl) (Opl.one rfl rfl (by simp only [go_sem]; rfl) (Opl.nil ?_)))
    exact hk2 _ _ ⟨_, _, _, H, by omega, ⟨rfl, rfl, rfl, (by first | rfl | (show PV.lit (.bool _) = _; congr 2; simp_all)), trivial⟩, h3⟩
 ·
  refine Evr.regionN rfl (Opl.one (v := .ptr i1 0) rfl rfl (by simp only [go_sem]; rfl) (Opl.ldb (v := v0_0) h1 rfl T44 rfl rfl rfl rfl (Opl.one rfl rfl (by simp only [go_sem]; rfl) ?_)))
  obtain ⟨t129, h_t129, H⟩ := Option.bind_eq_some_iff.1 H
  refine Opl.callc (spec_l2Is.ev hv0_0 h_t129) rfl rfl rfl rfl ⟨hv0_0.plain, (.lit _), (.lit _), trivial⟩ (by decide) (Opl.one rfl rfl (by simp only [go_sem]; rfl) (Opl.one rfl rfl (by simp only [go_sem]; rfl) ?_))
  by_cases c12 : t129 = true
  case neg =>
   rw [if_neg c12] at H
   have e12 : (!t129) = true := by simpa using c12
   try rw [e12]
   refine Opl.skp rfl (Opl.skp rfl (Opl.skp rfl (Opl.skp rfl (Opl.skp rfl (Opl.skp rfl (Opl.skp rfl (Opl.one rfl rfl (by simp only [go_sem]; rfl) (Opl.one rfl rfl (by simp only [go_sem]; rfl) (Opl.skp rfl (Opl.skp rfl (Opl.skp rfl (Opl.skp rfl (Opl.skp rfl (Opl.one rfl rfl (by simp only [go_sem]; rfl) (Opl.nil ?_)))))))))))))))
   exact hk1 _ _ ⟨_, _, _, H, ⟨rfl, rfl, (by first | rfl | (show PV.lit (.bool _) = _; congr 2; simp_all)), trivial⟩, h1⟩
  rw [if_pos c12] at H
  have e9 : (!t129) = false := by simpa using c12
  try rw [e9]
  refine Opl.one (v := .ptr i1 1) rfl rfl (by simp only [go_sem]; rfl) (Opl.ldb (v := v0_1) h1 rfl T29 rfl rfl rfl rfl (Opl.len (xs := l0_1) (by exact hv0_1) K29 rfl rfl rfl rfl (Opl.one (v := .ptr i1 2) rfl rfl (by simp only [go_sem]; rfl) (Opl.ldb (v := v0_2) h1 rfl T70 rfl rfl rfl rfl (Opl.len (xs := l0_2) (by exact hv0_2) K70 rfl rfl rfl rfl (Opl.one rfl rfl (by simp only [go_sem]; rfl) (Opl.one rfl rfl (by simp only [go_sem]; rfl) (Opl.one rfl rfl (by simp only [go_sem]; rfl) ?_))))))))
  by_cases c13 : (l0_1.length : Int) = (l0_2.length : Int)
  case neg =>
   rw [if_neg c13] at H
   have e11 : ((l0_1.length : Int) != (l0_2.length : Int)) = true := by simpa using c13
   try rw [e11]
   refine Opl.skp rfl (Opl.skp rfl (Opl.skp rfl (Opl.skp rfl (Opl.skp rfl (Opl.one rfl rfl (by simp only [go_sem]; rfl) (Opl.nil ?_))))))
   exact hk1 _ _ ⟨_, _, _, H, ⟨rfl, rfl, (by first | rfl | (show PV.lit (.bool _) = _; congr 2; simp_all)), trivial⟩, h1⟩
  rw [if_pos c13] at H
  have e10 : ((l0_1.length : Int) != (l0_2.length : Int)) = false := by simpa using c13
  try rw [e10]
  refine Opl.one (v := .ptr i1 1) rfl rfl (by simp only [go_sem]; rfl) (Opl.ldb (v := v0_1) h1 rfl T29 rfl rfl rfl rfl (Opl.len (xs := l0_1) (by exact hv0_1) K29 rfl rfl rfl rfl (Opl.one rfl rfl (by simp only [go_sem]; rfl) (Opl.one rfl rfl (by simp only [go_sem]; rfl) (Opl.one rfl rfl (by simp only [go_sem]; rfl) (Opl.nil ?_))))))
  exact hk1 _ _ ⟨_, _, _, H, ⟨rfl, rfl, (by first | rfl | (show PV.lit (.bool _) = _; congr 2; simp_all)), trivial⟩, h1⟩
theorem spec_l2Var.ev {a0_0 : Int} {a0_1 : Int} {a0_2 : Int} {r : Bool} (H : spec_l2Var.f a0_0 a0_1 a0_2 = some r) : Ret Try.prog 76 [.agg [.lit (.int .i64 a0_0), .lit (.int .i64 a0_1), .lit (.int .i64 a0_2)]] fun v S => v = .lit (.bool r) := by
 unfold spec_l2Var.f at H
 refine Ret.intro Try.func76 rfl (Nat.le_of_ble_eq_true rfl) rfl ?_
 rw [tm1]
 refine Evr.seq (Evr.regionN rfl (Opl.box (cs := [.lit (.int .i64 a0_0), .lit (.int .i64 a0_1), .lit (.int .i64 a0_2)]) rfl rfl rfl rfl ?_))
 rintro i1 S h1 u1 w1
 refine Opl.one rfl rfl (by simp only [go_sem]; rfl) (Opl.nil (Evr.seq (Evr.regionN rfl (Opl.one (v := .ptr i1 0) rfl rfl (by simp only [go_sem]; rfl) (Opl.ldb (v := .lit (.int .i64 a0_0)) h1 rfl T3 rfl rfl rfl rfl ?_)))))
 obtain ⟨t102, h_t102, H⟩ := Option.bind_eq_some_iff.1 H
 refine Opl.callc (spec_l1In.ev h_t102) rfl rfl rfl rfl ⟨(.lit _), (.lit _), (.lit _), trivial⟩ (by decide) (Opl.one rfl rfl (by simp only [go_sem]; rfl) ?_)
 by_cases c1 : t102 = true
 case neg =>
  rw [if_neg c1] at H
  obtain rfl : t102 = false := by simpa using c1
  refine Opl.skp rfl (Opl.skp rfl (Opl.skp rfl (Opl.skp rfl (Opl.skp rfl (Opl.one rfl rfl (by simp only [go_sem]; rfl) (Opl.one rfl rfl (by simp only [go_sem]; rfl) (Opl.skp rfl (Opl.skp rfl (Opl.skp rfl (Opl.skp rfl (Opl.skp rfl (Opl.skp rfl (Opl.one rfl rfl (by simp only [go_sem]; rfl) (Opl.one rfl rfl (by simp only [go_sem]; rfl) (Opl.skp rfl (Opl.skp rfl (Opl.skp rfl (Opl.skp rfl (Opl.skp rfl (Opl.skp rfl (Opl.skp rfl (Opl.one rfl rfl (by simp only [go_sem]; rfl) (Opl.one rfl rfl (by simp only [go_sem]; rfl) (Opl.nil ?_))))))))))))))))))))))))
  obtain rfl := Option.some.inj H
  refine Evr.ret1 Try.func76 rfl ?_
  show (.lit (.bool false) : PV) = _
  first | rfl | (simp only [go_sem]; rfl)
 rw [if_pos c1] at H
 obtain rfl : t102 = true := by simpa using c1
 refine Opl.one (v := .ptr i1 1) rfl rfl (by simp only [go_sem]; rfl) (Opl.ldb (v := .lit (.int .i64 a0_1)) h1 rfl T3 rfl rfl rfl rfl (Opl.one (v := .ptr i1 0) rfl rfl (by simp only [go_sem]; rfl) (Opl.ldb (v := .lit (.int .i64 a0_0)) h1 rfl T3 rfl rfl rfl rfl ?_)))
 obtain ⟨t103, h_t103, H⟩ := Option.bind_eq_some_iff.1 H
 refine Opl.callc (spec_l1In.ev h_t103) rfl rfl rfl rfl ⟨(.lit _), (.lit _), (.lit _), trivial⟩ (by decide) (Opl.one rfl rfl (by simp only [go_sem]; rfl) (Opl.one rfl rfl (by simp only [go_sem]; rfl) ?_))
 by_cases c2 : t103 = true
 case neg =>
  rw [if_neg c2] at H
  obtain rfl : t103 = false := by simpa using c2
  refine Opl.skp rfl (Opl.skp rfl (Opl.skp rfl (Opl.skp rfl (Opl.skp rfl (Opl.skp rfl (Opl.one rfl rfl (by simp only [go_sem]; rfl) (Opl.one rfl rfl (by simp only [go_sem]; rfl) (Opl.skp rfl (Opl.skp rfl (Opl.skp rfl (Opl.skp rfl (Opl.skp rfl (Opl.skp rfl (Opl.skp rfl (Opl.one rfl rfl (by simp only [go_sem]; rfl) (Opl.one rfl rfl (by simp only [go_sem]; rfl) (Opl.nil ?_)))))))))))))))))
  obtain rfl := Option.some.inj H
  refine Evr.ret1 Try.func76 rfl ?_
  show (.lit (.bool false) : PV) = _
  first | rfl | (simp only [go_sem]; rfl)
 rw [if_pos c2] at H
 obtain rfl : t103 = true := by simpa using c2
 refine Opl.one (v := .ptr i1 1) rfl rfl (by simp only [go_sem]; rfl) (Opl.ldb (v := .lit (.int .i64 a0_1)) h1 rfl T3 rfl rfl rfl rfl (Opl.one (v := .ptr i1 0) rfl rfl (by simp only [go_sem]; rfl) (Opl.ldb (v := .lit (.int .i64 a0_0)) h1 rfl T3 rfl rfl rfl rfl (Opl.subi (k := .i64) (a := a0_1) (b := a0_0) K3 rfl rfl rfl rfl (Opl.lss (a := (wrap64 (a0_1 - a0_0))) (b := 20) K3 rfl rfl rfl rfl (Opl.one rfl rfl (by simp only [go_sem]; rfl) (Opl.one (v := .lit (.bool (decide ((wrap64 (a0_1 - a0_0)) < 20)))) rfl rfl rfl ?_)))))))
 by_cases c3 : (wrap64 (a0_1 - a0_0)) < 20
 case neg =>
  rw [if_neg c3] at H
  have e2 : (decide ((wrap64 (a0_1 - a0_0)) < 20)) = false := by simpa using c3
  try rw [e2]
  refine Opl.skp rfl (Opl.skp rfl (Opl.skp rfl (Opl.skp rfl (Opl.skp rfl (Opl.skp rfl (Opl.skp rfl (Opl.one rfl rfl (by simp only [go_sem]; rfl) (Opl.one (v := .lit (.bool false)) rfl rfl rfl (Opl.nil ?_)))))))))
  obtain rfl := Option.some.inj H
  refine Evr.ret1 Try.func76 rfl ?_
  show (.lit (.bool false) : PV) = _
  first | rfl | (simp only [go_sem]; rfl)
 rw [if_pos c3] at H
 have e1 : (decide ((wrap64 (a0_1 - a0_0)) < 20)) = true := by simpa using c3
 try rw [e1]
 refine Opl.one (v := .ptr i1 2) rfl rfl (by simp only [go_sem]; rfl) (Opl.ldb (v := .lit (.int .i64 a0_2)) h1 rfl T3 rfl rfl rfl rfl (Opl.one (v := .ptr i1 0) rfl rfl (by simp only [go_sem]; rfl) (Opl.ldb (v := .lit (.int .i64 a0_0)) h1 rfl T3 rfl rfl rfl rfl (Opl.one (v := .ptr i1 1) rfl rfl (by simp only [go_sem]; rfl) (Opl.ldb (v := .lit (.int .i64 a0_1)) h1 rfl T3 rfl rfl rfl rfl ?_)))))
 obtain ⟨t104, h_t104, H⟩ := Option.bind_eq_some_iff.1 H
 refine Opl.callc (spec_l1In.ev h_t104) rfl rfl rfl rfl ⟨(.lit _), (.lit _), (.lit _), trivial⟩ (by decide) (Opl.one rfl rfl (by simp only [go_sem]; rfl) (Opl.one (v := .lit (.bool t104)) rfl rfl rfl (Opl.nil ?_)))
 obtain rfl := Option.some.inj H
 refine Evr.ret1 Try.func76 rfl ?_
 show (.lit (.bool t104) : PV) = _
 first | rfl | (simp only [go_sem]; rfl)
theorem spec_SystemValid.ev {k : Nat} {l0_0 : List IVar} {v0_0 : PV} (hv0_0 : Sl cIVar l0_0 v0_0) {l0_1 : List IRule} {v0_1 : PV} (hv0_1 : Sl cIRule l0_1 v0_1) {r : Bool} (H : spec_SystemValid.f k l0_0 l0_1 = some r) : Ret Try.prog 30 [.agg [v0_0, v0_1]] fun v S => v = .lit (.bool r) := by
 unfold spec_SystemValid.f at H
 refine Ret.intro Try.func30 rfl (Nat.le_of_ble_eq_true rfl) rfl ?_
 rw [tm1]
 refine Evr.seq (Evr.regionN rfl (Opl.box (cs := [v0_0, v0_1]) rfl rfl rfl rfl ?_))
 rintro i1 S h1 u1 w1
 refine Opl.one rfl rfl (by simp only [go_sem]; rfl) (Opl.nil (Evr.seq (Evr.seq ?_)))
 refine Evr.join (fun tm S => ∃ (kq1 : Nat) (x16_1 : Bool) (i2 : Abs.Id), spec_SystemValid.j0 kq1 x16_1 l0_0 l0_1 = some r ∧ Has tm [(1, .ptr i2 0), (16, .lit (.bool x16_1))] ∧ Box (.ptr i2 0) [v0_0, v0_1] S) ?_ fun hk1 => ?_
 ·
  rintro tm S ⟨kq1, x16_1, i2, H, hh, h2⟩
  rw [hh.eq]
  obtain _ | k1 := kq1
  · simp [spec_SystemValid.j0] at H
  simp only [spec_SystemValid.j0] at H
  by_cases c1 : x16_1 = true
  case pos =>
   rw [if_pos c1] at H
   obtain rfl : x16_1 = true := by simpa using c1
   refine Evr.condT rfl (Evr.seq (Evr.regionN rfl (Opl.one rfl rfl (by simp only [go_sem]; rfl) (Opl.nil ?_))))
   obtain rfl := Option.some.inj H
   refine Evr.ret1 Try.func30 rfl ?_
   show (.lit (.bool false) : PV) = _
   first | rfl | (simp only [go_sem]; rfl)
  rw [if_neg c1] at H
  obtain rfl : x16_1 = false := by simpa using c1
  refine Evr.condF rfl (Evr.skip (Evr.seq (Evr.regionN rfl (Opl.one rfl rfl (by simp only [go_sem]; rfl) (Opl.nil (Evr.seq (Evr.seq (Evr.regionN rfl (Opl.one rfl rfl (by simp only [go_sem]; rfl) (Opl.nil (Evr.block ?_)))))))))))
  refine Evr.loop (Evr.rounds (n := k1) (Inv := fun n tm S => n ≤ k1 ∧ ∃ (x3_1 : Int) (x4_1 : Int) (i3 : Abs.Id), spec_SystemValid.l0 n x3_1 x4_1 l0_0 l0_1 = some r ∧ Has tm [(1, .ptr i3 0), (3, .lit (.int .i64 x3_1)), (4, .lit (.int .i64 x4_1))] ∧ Box (.ptr i3 0) [v0_0, v0_1] S) ?_ ?_ ?_)
  · exact ⟨Nat.le_refl _, _, _, _, H, ⟨rfl, rfl, rfl, trivial⟩, h2⟩
  ·
   rintro tm S ⟨_, _, _, _, H, -⟩
   simp [spec_SystemValid.l0] at H
  ·
   rintro n1 ih1 tm S ⟨hle, x3_1, x4_1, i3, H, hh, h3⟩
   simp only [spec_SystemValid.l0] at H
   rw [hh.eq]
   refine Evr.seq (Evr.seq (Evr.regionN rfl (Opl.one rfl rfl (by simp only [go_sem]; rfl) (Opl.one (v := .ptr i3 0) rfl rfl (by simp only [go_sem]; rfl) (Opl.ldb (v := v0_0) h3 rfl T23 rfl rfl rfl rfl (Opl.len (xs := l0_0) (by exact hv0_0) K23 rfl rfl rfl rfl (Opl.one rfl rfl (by simp only [go_sem]; rfl) (Opl.nil ?_))))))))
   by_cases c2 : x4_1 < (l0_0.length : Int)
   case neg =>
    rw [if_neg c2] at H
    have e4 : (decide (x4_1 < (l0_0.length : Int))) = false := by simpa using c2
    try rw [e4]
    refine Evr.condF rfl (Evr.exit rfl (Evr.seq (Evr.seq (Evr.regionN rfl (Opl.one rfl rfl (by simp only [go_sem]; rfl) (Opl.nil (Evr.block ?_)))))))
    refine Evr.loop (Evr.rounds (n := n1) (Inv := fun n tm S => n ≤ n1 ∧ ∃ (x5_1 : Int) (i4 : Abs.Id), spec_SystemValid.l1 n x3_1 x5_1 l0_0 l0_1 = some r ∧ Has tm [(1, .ptr i4 0), (3, .lit (.int .i64 x3_1)), (5, .lit (.int .i64 x5_1))] ∧ Box (.ptr i4 0) [v0_0, v0_1] S) ?_ ?_ ?_)
    · exact ⟨Nat.le_refl _, _, _, H, ⟨rfl, rfl, rfl, trivial⟩, h3⟩
    ·
     rintro tm S ⟨_, _, _, H, -⟩
     simp [spec_SystemValid.l1] at H
    ·
     rintro n2 ih2 tm S ⟨hle, x5_1, i4, H, hh, h7⟩
     simp only [spec_SystemValid.l1] at H
     rw [hh.eq]
     refine Evr.seq (Evr.seq (Evr.regionN rfl (Opl.one rfl rfl (by simp only [go_sem]; rfl) (Opl.one (v := .ptr i4 1) rfl rfl (by simp only [go_sem]; rfl) (Opl.ldb (v := v0_1) h7 rfl T24 rfl rfl rfl rfl (Opl.len (xs := l0_1) (by exact hv0_1) K24 rfl rfl rfl rfl (Opl.one rfl rfl (by simp only [go_sem]; rfl) (Opl.nil ?_))))))))
     by_cases c5 : x5_1 < (l0_1.length : Int)
     case neg =>
      rw [if_neg c5] at H
      have e8 : (decide (x5_1 < (l0_1.length : Int))) = false := by simpa using c5
      try rw [e8]
      refine Evr.condF rfl (Evr.exit rfl (Evr.seq (Evr.regionN rfl (Opl.one rfl rfl (by simp only [go_sem]; rfl) (Opl.one rfl rfl (by simp only [go_sem]; rfl) (Opl.one rfl rfl (by simp only [go_sem]; rfl) (Opl.nil ?_)))))))
      obtain rfl := Option.some.inj H
      refine Evr.ret1 Try.func30 rfl ?_
      show (.lit (.bool (decide (x3_1 ≤ 400))) : PV) = _
      first | rfl | (simp only [go_sem]; rfl)
     rw [if_pos c5] at H
     have e5 : (decide (x5_1 < (l0_1.length : Int))) = true := by simpa using c5
     try rw [e5]
     refine Evr.condT rfl (Evr.skip (Evr.seq (Evr.block (Evr.seq (Evr.regionD rfl (by kernel_rfl) (Opl.one (v := .ptr i4 1) rfl rfl (by simp only [go_sem]; rfl) (Opl.ldb (v := v0_1) h7 rfl T24 rfl rfl rfl rfl (Opl.one rfl rfl (by simp only [go_sem]; rfl) ?_))))))))
     obtain ⟨c6, H⟩ := peel H
     refine Opl.idx (M := cIRule) (xs := l0_1) (j := x5_1) zIRule (by exact hv0_1) rfl (by first | omega | (simp only [List.length_set] at *; omega)) (by first | omega | (simp only [List.length_set] at *; omega)) K24 Z72 rfl rfl ?_
     rintro p4 q4 h8
     obtain ⟨pv1, pv2, pv3, rfl, h9, h10, h11⟩ := cIRule_R (x := (rd_IRule l0_1 x5_1)) h8
     refine Opl.lda (.agg [pv1, pv2, pv3]) rfl T72 rfl rfl rfl rfl (Opl.one (v := .ptr i4 0) rfl rfl (by simp only [go_sem]; rfl) (Opl.ldb (v := v0_0) h7 rfl T23 rfl rfl rfl rfl (Opl.len (xs := l0_0) (by exact hv0_0) K23 rfl rfl rfl rfl ?_)))
     obtain ⟨t145, h_t145, H⟩ := Option.bind_eq_some_iff.1 H
     refine Opl.callc (spec_l2Rule.ev h9 h10 h11 h_t145) rfl rfl rfl rfl ⟨(.aggL ⟨h9.plain, h10.plain, h11.plain, trivial⟩), (.lit _), trivial⟩ (by decide) (Opl.one rfl rfl (by simp only [go_sem]; rfl) (Opl.nil ?_))
     by_cases c7 : t145 = true
     case neg =>
      rw [if_neg c7] at H
      have e7 : (!t145) = true := by simpa using c7
      try rw [e7]
      refine Evr.condT rfl (Evr.seq (Evr.regionN rfl (Opl.one rfl rfl (by simp only [go_sem]; rfl) (Opl.nil ?_))))
      obtain rfl := Option.some.inj H
      refine Evr.ret1 Try.func30 rfl ?_
      show (.lit (.bool false) : PV) = _
      first | rfl | (simp only [go_sem]; rfl)
     rw [if_pos c7] at H
     have e6 : (!t145) = false := by simpa using c7
     try rw [e6]
     refine Evr.condF rfl (Evr.skip (Evr.inBlock (Evr.regionN rfl (Opl.one rfl rfl (by simp only [go_sem]; rfl) (Opl.add (k := .i64) (a := x5_1) (b := 1) K3 rfl rfl rfl rfl (Opl.one (v := .lit (.int .i64 (wrap64 (x5_1 + 1)))) rfl rfl rfl (Opl.nil ?_)))))))
     exact ih2 _ (by omega) _ _ ⟨by omega, _, _, H, ⟨rfl, rfl, rfl, trivial⟩, h7⟩
   rw [if_pos c2] at H
   have e1 : (decide (x4_1 < (l0_0.length : Int))) = true := by simpa using c2
   try rw [e1]
   refine Evr.condT rfl (Evr.skip (Evr.seq (Evr.block (Evr.seq (Evr.seq (Evr.regionN rfl (Opl.one (v := .ptr i3 0) rfl rfl (by simp only [go_sem]; rfl) (Opl.ldb (v := v0_0) h3 rfl T23 rfl rfl rfl rfl (Opl.one rfl rfl (by simp only [go_sem]; rfl) ?_)))))))))
   obtain ⟨c3, H⟩ := peel H
   refine Opl.idx (M := cIVar) (xs := l0_0) (j := x4_1) zIVar (by exact hv0_0) rfl (by first | omega | (simp only [List.length_set] at *; omega)) (by first | omega | (simp only [List.length_set] at *; omega)) K23 Z61 rfl rfl ?_
   rintro p1 q1 h4
   obtain rfl := cIVar_R (x := (rd_IVar l0_0 x4_1)) h4
   refine Opl.lda (.agg [.lit (.int .i64 ((rd_IVar l0_0 x4_1).f0)), .lit (.int .i64 ((rd_IVar l0_0 x4_1).f1)), .lit (.int .i64 ((rd_IVar l0_0 x4_1).f2))]) rfl T61 rfl rfl rfl rfl ?_
   obtain ⟨t141, h_t141, H⟩ := Option.bind_eq_some_iff.1 H
   refine Opl.callc (spec_l2Var.ev h_t141) rfl rfl rfl rfl ⟨(.aggL ⟨(.lit _), (.lit _), (.lit _), trivial⟩), trivial⟩ (by decide) (Opl.one rfl rfl (by simp only [go_sem]; rfl) (Opl.nil ?_))
   by_cases c4 : t141 = true
   case neg =>
    rw [if_neg c4] at H
    have e3 : (!t141) = true := by simpa using c4
    try rw [e3]
    refine Evr.condT rfl (Evr.seq (Evr.regionN rfl (Opl.one rfl rfl (by simp only [go_sem]; rfl) (Opl.nil ?_))))
    obtain rfl := Option.some.inj H
    refine Evr.ret1 Try.func30 rfl ?_
    show (.lit (.bool false) : PV) = _
    first | rfl | (simp only [go_sem]; rfl)
   rw [if_pos c4] at H
   have e2 : (!t141) = false := by simpa using c4
   try rw [e2]
   refine Evr.condF rfl (Evr.skip (Evr.regionD rfl (by kernel_rfl) (Opl.one rfl rfl (by simp only [go_sem]; rfl) (Opl.one (v := .ptr i3 0) rfl rfl (by simp only [go_sem]; rfl) (Opl.ldb (v := v0_0) h3 rfl T23 rfl rfl rfl rfl (Opl.one rfl rfl (by simp only [go_sem]; rfl) (Opl.idx (M := cIVar) (xs := l0_0) (j := x4_1) zIVar (by exact hv0_0) rfl (by first | omega | (simp only [List.length_set] at *; omega)) (by first | omega | (simp only [List.length_set] at *; omega)) K23 Z61 rfl rfl ?_)))))))
   rintro p2 q2 h5
   obtain rfl := cIVar_R (x := (rd_IVar l0_0 x4_1)) h5
   refine Opl.one (v := .fel ((.lit (.int .i64 ((rd_IVar l0_0 x4_1).f1))) :: (.lit (.int .i64 ((rd_IVar l0_0 x4_1).f2))) :: q2)) rfl rfl (by simp only [go_sem]; rfl) (Opl.lda (.lit (.int .i64 ((rd_IVar l0_0 x4_1).f1))) rfl T3 rfl rfl rfl rfl (Opl.one (v := .ptr i3 0) rfl rfl (by simp only [go_sem]; rfl) (Opl.ldb (v := v0_0) h3 rfl T23 rfl rfl rfl rfl (Opl.one rfl rfl (by simp only [go_sem]; rfl) (Opl.idx (M := cIVar) (xs := l0_0) (j := x4_1) zIVar (by exact hv0_0) rfl (by first | omega | (simp only [List.length_set] at *; omega)) (by first | omega | (simp only [List.length_set] at *; omega)) K23 Z61 rfl rfl ?_)))))
   rintro p3 q3 h6
   obtain rfl := cIVar_R (x := (rd_IVar l0_0 x4_1)) h6
   refine Opl.one (v := .fel ((.lit (.int .i64 ((rd_IVar l0_0 x4_1).f0))) :: (.lit (.int .i64 ((rd_IVar l0_0 x4_1).f1))) :: (.lit (.int .i64 ((rd_IVar l0_0 x4_1).f2))) :: q3)) rfl rfl (by simp only [go_sem]; rfl) (Opl.lda (.lit (.int .i64 ((rd_IVar l0_0 x4_1).f0))) rfl T3 rfl rfl rfl rfl (Opl.subi (k := .i64) (a := ((rd_IVar l0_0 x4_1).f1)) (b := ((rd_IVar l0_0 x4_1).f0)) K3 rfl rfl rfl rfl (Opl.add (k := .i64) (a := (wrap64 (((rd_IVar l0_0 x4_1).f1) - ((rd_IVar l0_0 x4_1).f0)))) (b := 1) K3 rfl rfl rfl rfl (Opl.mul (k := .i64) (a := x3_1) (b := (wrap64 ((wrap64 (((rd_IVar l0_0 x4_1).f1) - ((rd_IVar l0_0 x4_1).f0))) + 1))) K3 rfl rfl rfl rfl (Opl.one (v := .lit (.int .i64 (wrap64 (x3_1 * (wrap64 ((wrap64 (((rd_IVar l0_0 x4_1).f1) - ((rd_IVar l0_0 x4_1).f0))) + 1)))))) rfl rfl rfl (Opl.nil (Evr.inBlock (Evr.regionN rfl (Opl.one (v := .lit (.int .i64 x4_1)) rfl rfl rfl (Opl.add (k := .i64) (a := x4_1) (b := 1) K3 rfl rfl rfl rfl (Opl.one (v := .lit (.int .i64 (wrap64 (x4_1 + 1)))) rfl rfl rfl (Opl.nil ?_))))))))))))
   exact ih1 _ (by omega) _ _ ⟨by omega, _, _, _, H, ⟨rfl, rfl, rfl, trivial⟩, h3⟩
 ·
  refine Evr.regionN rfl (Opl.one (v := .ptr i1 0) rfl rfl (by simp only [go_sem]; rfl) (Opl.ldb (v := v0_0) h1 rfl T23 rfl rfl rfl rfl (Opl.len (xs := l0_0) (by exact hv0_0) K23 rfl rfl rfl rfl ?_)))
  obtain ⟨t139, h_t139, H⟩ := Option.bind_eq_some_iff.1 H
  refine Opl.callc (spec_l1In.ev h_t139) rfl rfl rfl rfl ⟨(.lit _), (.lit _), (.lit _), trivial⟩ (by decide) (Opl.one rfl rfl (by simp only [go_sem]; rfl) (Opl.one rfl rfl (by simp only [go_sem]; rfl) ?_))
  by_cases c8 : t139 = true
  case neg =>
   rw [if_neg c8] at H
   have e10 : (!t139) = true := by simpa using c8
   try rw [e10]
   refine Opl.skp rfl (Opl.skp rfl (Opl.skp rfl (Opl.skp rfl (Opl.one rfl rfl (by simp only [go_sem]; rfl) (Opl.nil ?_)))))
   exact hk1 _ _ ⟨_, _, _, H, ⟨rfl, (by first | rfl | (show PV.lit (.bool _) = _; congr 2; simp_all)), trivial⟩, h1⟩
  rw [if_pos c8] at H
  have e9 : (!t139) = false := by simpa using c8
  try rw [e9]
  refine Opl.one (v := .ptr i1 1) rfl rfl (by simp only [go_sem]; rfl) (Opl.ldb (v := v0_1) h1 rfl T24 rfl rfl rfl rfl (Opl.len (xs := l0_1) (by exact hv0_1) K24 rfl rfl rfl rfl (Opl.one rfl rfl (by simp only [go_sem]; rfl) (Opl.one rfl rfl (by simp only [go_sem]; rfl) (Opl.nil ?_)))))
  exact hk1 _ _ ⟨_, _, _, H, ⟨rfl, (by first | rfl | (show PV.lit (.bool _) = _; congr 2; simp_all)), trivial⟩, h1⟩
theorem spec_SizeOf.ev {k : Nat} {l0_0 : List IVar} {v0_0 : PV} (hv0_0 : Sl cIVar l0_0 v0_0) {l0_1 : List IRule} {v0_1 : PV} (hv0_1 : Sl cIRule l0_1 v0_1) {r : Int} (H : spec_SizeOf.f k l0_0 l0_1 = some r) : Ret Try.prog 16 [.agg [v0_0, v0_1]] fun v S => v = .lit (.int .i64 r) := by
 unfold spec_SizeOf.f at H
 refine Ret.intro Try.func16 rfl (Nat.le_of_ble_eq_true rfl) rfl ?_
 rw [tm1]
 refine Evr.seq (Evr.regionN rfl (Opl.box (cs := [v0_0, v0_1]) rfl rfl rfl rfl ?_))
 rintro i1 S h1 u1 w1
 refine Opl.one rfl rfl (by simp only [go_sem]; rfl) (Opl.nil (Evr.seq (Evr.seq (Evr.regionN rfl (Opl.ldb (v := .agg [v0_0, v0_1]) h1 rfl T26 rfl rfl rfl rfl ?_)))))
 obtain ⟨t147, h_t147, H⟩ := Option.bind_eq_some_iff.1 H
 refine Opl.callc (spec_SystemValid.ev hv0_0 hv0_1 h_t147) rfl rfl rfl rfl ⟨(.aggL ⟨hv0_0.plain, hv0_1.plain, trivial⟩), trivial⟩ (by decide) (Opl.one rfl rfl (by simp only [go_sem]; rfl) (Opl.nil ?_))
 by_cases c1 : t147 = true
 case neg =>
  rw [if_neg c1] at H
  have e4 : (!t147) = true := by simpa using c1
  try rw [e4]
  refine Evr.condT rfl (Evr.seq (Evr.regionN rfl (Opl.one rfl rfl (by simp only [go_sem]; rfl) (Opl.nil ?_))))
  obtain rfl := Option.some.inj H
  refine Evr.ret1 Try.func16 rfl ?_
  show (.lit (.int .i64 0) : PV) = _
  first | rfl | (simp only [go_sem]; rfl)
 rw [if_pos c1] at H
 have e1 : (!t147) = false := by simpa using c1
 try rw [e1]
 refine Evr.condF rfl (Evr.skip (Evr.seq (Evr.regionN rfl (Opl.one rfl rfl (by simp only [go_sem]; rfl) (Opl.nil (Evr.seq (Evr.seq (Evr.regionN rfl (Opl.one rfl rfl (by simp only [go_sem]; rfl) (Opl.nil (Evr.block ?_)))))))))))
 refine Evr.loop (Evr.rounds (n := k) (Inv := fun n tm S => n ≤ k ∧ ∃ (x3_1 : Int) (x4_1 : Int) (i2 : Abs.Id), spec_SizeOf.l0 n x3_1 x4_1 l0_0 l0_1 = some r ∧ Has tm [(1, .ptr i2 0), (3, .lit (.int .i64 x3_1)), (4, .lit (.int .i64 x4_1))] ∧ Box (.ptr i2 0) [v0_0, v0_1] S) ?_ ?_ ?_)
 · exact ⟨Nat.le_refl _, _, _, _, H, ⟨rfl, rfl, rfl, trivial⟩, h1⟩
 ·
  rintro tm S ⟨_, _, _, _, H, -⟩
  simp [spec_SizeOf.l0] at H
 ·
  rintro n1 ih1 tm S ⟨hle, x3_1, x4_1, i2, H, hh, h2⟩
  simp only [spec_SizeOf.l0] at H
  rw [hh.eq]
  refine Evr.seq (Evr.seq (Evr.regionN rfl (Opl.one rfl rfl (by simp only [go_sem]; rfl) (Opl.one (v := .ptr i2 0) rfl rfl (by simp only [go_sem]; rfl) (Opl.ldb (v := v0_0) h2 rfl T23 rfl rfl rfl rfl (Opl.len (xs := l0_0) (by exact hv0_0) K23 rfl rfl rfl rfl (Opl.one rfl rfl (by simp only [go_sem]; rfl) (Opl.nil ?_))))))))
  by_cases c2 : x4_1 < (l0_0.length : Int)
  case neg =>
   rw [if_neg c2] at H
   have e3 : (decide (x4_1 < (l0_0.length : Int))) = false := by simpa using c2
   try rw [e3]
   refine Evr.condF rfl (Evr.exit rfl (Evr.seq (Evr.regionN rfl (Opl.one rfl rfl (by simp only [go_sem]; rfl) (Opl.one rfl rfl (by simp only [go_sem]; rfl) (Opl.nil ?_))))))
   obtain rfl := Option.some.inj H
   refine Evr.ret1 Try.func16 rfl ?_
   show (.lit (.int .i64 x3_1) : PV) = _
   first | rfl | (simp only [go_sem]; rfl)
  rw [if_pos c2] at H
  have e2 : (decide (x4_1 < (l0_0.length : Int))) = true := by simpa using c2
  try rw [e2]
  refine Evr.condT rfl (Evr.skip (Evr.seq (Evr.block (Evr.regionD rfl (by kernel_rfl) (Opl.one rfl rfl (by simp only [go_sem]; rfl) (Opl.one (v := .ptr i2 0) rfl rfl (by simp only [go_sem]; rfl) (Opl.ldb (v := v0_0) h2 rfl T23 rfl rfl rfl rfl (Opl.one rfl rfl (by simp only [go_sem]; rfl) ?_))))))))
  obtain ⟨c3, H⟩ := peel H
  refine Opl.idx (M := cIVar) (xs := l0_0) (j := x4_1) zIVar (by exact hv0_0) rfl (by first | omega | (simp only [List.length_set] at *; omega)) (by first | omega | (simp only [List.length_set] at *; omega)) K23 Z61 rfl rfl ?_
  rintro p1 q1 h3
  obtain rfl := cIVar_R (x := (rd_IVar l0_0 x4_1)) h3
  refine Opl.one (v := .fel ((.lit (.int .i64 ((rd_IVar l0_0 x4_1).f1))) :: (.lit (.int .i64 ((rd_IVar l0_0 x4_1).f2))) :: q1)) rfl rfl (by simp only [go_sem]; rfl) (Opl.lda (.lit (.int .i64 ((rd_IVar l0_0 x4_1).f1))) rfl T3 rfl rfl rfl rfl (Opl.one (v := .ptr i2 0) rfl rfl (by simp only [go_sem]; rfl) (Opl.ldb (v := v0_0) h2 rfl T23 rfl rfl rfl rfl (Opl.one rfl rfl (by simp only [go_sem]; rfl) (Opl.idx (M := cIVar) (xs := l0_0) (j := x4_1) zIVar (by exact hv0_0) rfl (by first | omega | (simp only [List.length_set] at *; omega)) (by first | omega | (simp only [List.length_set] at *; omega)) K23 Z61 rfl rfl ?_)))))
  rintro p2 q2 h4
  obtain rfl := cIVar_R (x := (rd_IVar l0_0 x4_1)) h4
  refine Opl.one (v := .fel ((.lit (.int .i64 ((rd_IVar l0_0 x4_1).f0))) :: (.lit (.int .i64 ((rd_IVar l0_0 x4_1).f1))) :: (.lit (.int .i64 ((rd_IVar l0_0 x4_1).f2))) :: q2)) rfl rfl (by simp only [go_sem]; rfl) (Opl.lda (.lit (.int .i64 ((rd_IVar l0_0 x4_1).f0))) rfl T3 rfl rfl rfl rfl (Opl.subi (k := .i64) (a := ((rd_IVar l0_0 x4_1).f1)) (b := ((rd_IVar l0_0 x4_1).f0)) K3 rfl rfl rfl rfl (Opl.add (k := .i64) (a := (wrap64 (((rd_IVar l0_0 x4_1).f1) - ((rd_IVar l0_0 x4_1).f0)))) (b := 1) K3 rfl rfl rfl rfl (Opl.mul (k := .i64) (a := x3_1) (b := (wrap64 ((wrap64 (((rd_IVar l0_0 x4_1).f1) - ((rd_IVar l0_0 x4_1).f0))) + 1))) K3 rfl rfl rfl rfl (Opl.one (v := .lit (.int .i64 (wrap64 (x3_1 * (wrap64 ((wrap64 (((rd_IVar l0_0 x4_1).f1) - ((rd_IVar l0_0 x4_1).f0))) + 1)))))) rfl rfl rfl (Opl.nil (Evr.inBlock (Evr.regionN rfl (Opl.one (v := .lit (.int .i64 x4_1)) rfl rfl rfl (Opl.add (k := .i64) (a := x4_1) (b := 1) K3 rfl rfl rfl rfl (Opl.one (v := .lit (.int .i64 (wrap64 (x4_1 + 1)))) rfl rfl rfl (Opl.nil ?_))))))))))))
  exact ih1 _ (by omega) _ _ ⟨by omega, _, _, _, H, ⟨rfl, rfl, rfl, trivial⟩, h2⟩
theorem spec_l1Held.ev {a0 : Int} {r : Int} (H : spec_l1Held.f a0 = some r) : Ret Try.prog 157 [.lit (.int .i64 a0)] fun v S => v = .lit (.int .i64 r) := by
 unfold spec_l1Held.f at H
 refine Ret.intro Try.func157 rfl (Nat.le_of_ble_eq_true rfl) rfl ?_
 rw [tm1]
 refine Evr.seq (Evr.regionN rfl (Opl.one rfl rfl (by simp only [go_sem]; rfl) (Opl.nil (Evr.seq (Evr.seq (Evr.regionN rfl (Opl.one rfl rfl (by simp only [go_sem]; rfl) (Opl.one rfl rfl (by simp only [go_sem]; rfl) (Opl.nil ?_)))))))))
 by_cases c1 : a0 > 9999
 case pos =>
  rw [if_pos c1] at H
  have e1 : (decide (a0 > 9999)) = true := by simpa using c1
  try rw [e1]
  refine Evr.condT rfl (Evr.seq (Evr.regionN rfl (Opl.one rfl rfl (by simp only [go_sem]; rfl) (Opl.nil ?_))))
  obtain rfl := Option.some.inj H
  refine Evr.ret1 Try.func157 rfl ?_
  show (.lit (.int .i64 9999) : PV) = _
  first | rfl | (simp only [go_sem]; rfl)
 rw [if_neg c1] at H
 have e2 : (decide (a0 > 9999)) = false := by simpa using c1
 try rw [e2]
 refine Evr.condF rfl (Evr.skip (Evr.seq (Evr.seq (Evr.regionN rfl (Opl.one rfl rfl (by simp only [go_sem]; rfl) (Opl.one rfl rfl (by simp only [go_sem]; rfl) (Opl.nil ?_)))))))
 by_cases c2 : a0 < (-9999)
 case pos =>
  rw [if_pos c2] at H
  have e3 : (decide (a0 < (-9999))) = true := by simpa using c2
  try rw [e3]
  refine Evr.condT rfl (Evr.seq (Evr.regionN rfl (Opl.one rfl rfl (by simp only [go_sem]; rfl) (Opl.nil ?_))))
  obtain rfl := Option.some.inj H
  refine Evr.ret1 Try.func157 rfl ?_
  show (.lit (.int .i64 (-9999)) : PV) = _
  first | rfl | (simp only [go_sem]; rfl)
 rw [if_neg c2] at H
 have e4 : (decide (a0 < (-9999))) = false := by simpa using c2
 try rw [e4]
 refine Evr.condF rfl (Evr.skip (Evr.seq (Evr.regionN rfl (Opl.one rfl rfl (by simp only [go_sem]; rfl) (Opl.one rfl rfl (by simp only [go_sem]; rfl) (Opl.nil ?_))))))
 obtain rfl := Option.some.inj H
 refine Evr.ret1 Try.func157 rfl ?_
 show (.lit (.int .i64 a0) : PV) = _
 first | rfl | (simp only [go_sem]; rfl)
theorem spec_l1Truth.ev {a0 : Bool} {r : Int} (H : spec_l1Truth.f a0 = some r) : Ret Try.prog 158 [.lit (.bool a0)] fun v S => v = .lit (.int .i64 r) := by
 unfold spec_l1Truth.f at H
 refine Ret.intro Try.func158 rfl (Nat.le_of_ble_eq_true rfl) rfl ?_
 rw [tm1]
 refine Evr.seq (Evr.regionN rfl (Opl.one rfl rfl (by simp only [go_sem]; rfl) (Opl.nil (Evr.seq (Evr.seq (Evr.regionN rfl (Opl.one rfl rfl (by simp only [go_sem]; rfl) (Opl.nil ?_))))))))
 by_cases c1 : a0 = true
 case pos =>
  rw [if_pos c1] at H
  obtain rfl : a0 = true := by simpa using c1
  refine Evr.condT rfl (Evr.seq (Evr.regionN rfl (Opl.one rfl rfl (by simp only [go_sem]; rfl) (Opl.nil ?_))))
  obtain rfl := Option.some.inj H
  refine Evr.ret1 Try.func158 rfl ?_
  show (.lit (.int .i64 1) : PV) = _
  first | rfl | (simp only [go_sem]; rfl)
 rw [if_neg c1] at H
 obtain rfl : a0 = false := by simpa using c1
 refine Evr.condF rfl (Evr.skip (Evr.seq (Evr.regionN rfl (Opl.one rfl rfl (by simp only [go_sem]; rfl) (Opl.nil ?_)))))
 obtain rfl := Option.some.inj H
 refine Evr.ret1 Try.func158 rfl ?_
 show (.lit (.int .i64 0) : PV) = _
 first | rfl | (simp only [go_sem]; rfl)
theorem spec_l1Do.ev {a0 : Int} {a1 : Int} {a2 : Int} {r : Int} (H : spec_l1Do.f a0 a1 a2 = some r) : Ret Try.prog 150 [.lit (.int .i64 a0), .lit (.int .i64 a1), .lit (.int .i64 a2)] fun v S => v = .lit (.int .i64 r) := by
 unfold spec_l1Do.f at H
 refine Ret.intro Try.func150 rfl (Nat.le_of_ble_eq_true rfl) rfl ?_
 rw [tm3]
 refine Evr.seq (Evr.regionN rfl (Opl.one rfl rfl (by simp only [go_sem]; rfl) (Opl.nil (Evr.seq (Evr.seq (Evr.regionN rfl (Opl.one rfl rfl (by simp only [go_sem]; rfl) (Opl.one rfl rfl (by simp only [go_sem]; rfl) (Opl.nil ?_)))))))))
 by_cases c1 : a0 = 2
 case pos =>
  rw [if_pos c1] at H
  have e1 : (a0 == 2) = true := by simpa using c1
  try rw [e1]
  refine Evr.condT rfl (Evr.seq (Evr.regionN rfl (Opl.one rfl rfl (by simp only [go_sem]; rfl) (Opl.one rfl rfl (by simp only [go_sem]; rfl) (Opl.add (k := .i64) (a := a1) (b := a2) K3 rfl rfl rfl rfl ?_)))))
  obtain ⟨t877, h_t877, H⟩ := Option.bind_eq_some_iff.1 H
  refine Opl.callc (spec_l1Held.ev h_t877) rfl rfl rfl rfl ⟨(.lit _), trivial⟩ (by decide) (Opl.one (v := .lit (.int .i64 t877)) rfl rfl rfl (Opl.nil ?_))
  obtain rfl := Option.some.inj H
  refine Evr.ret1 Try.func150 rfl ?_
  show (.lit (.int .i64 t877) : PV) = _
  first | rfl | (simp only [go_sem]; rfl)
 rw [if_neg c1] at H
 have e2 : (a0 == 2) = false := by simpa using c1
 try rw [e2]
 refine Evr.condF rfl (Evr.skip (Evr.seq (Evr.seq (Evr.regionN rfl (Opl.one rfl rfl (by simp only [go_sem]; rfl) (Opl.one rfl rfl (by simp only [go_sem]; rfl) (Opl.nil ?_)))))))
 by_cases c2 : a0 = 3
 case pos =>
  rw [if_pos c2] at H
  have e3 : (a0 == 3) = true := by simpa using c2
  try rw [e3]
  refine Evr.condT rfl (Evr.seq (Evr.regionN rfl (Opl.one rfl rfl (by simp only [go_sem]; rfl) (Opl.one rfl rfl (by simp only [go_sem]; rfl) (Opl.subi (k := .i64) (a := a1) (b := a2) K3 rfl rfl rfl rfl ?_)))))
  obtain ⟨t878, h_t878, H⟩ := Option.bind_eq_some_iff.1 H
  refine Opl.callc (spec_l1Held.ev h_t878) rfl rfl rfl rfl ⟨(.lit _), trivial⟩ (by decide) (Opl.one (v := .lit (.int .i64 t878)) rfl rfl rfl (Opl.nil ?_))
  obtain rfl := Option.some.inj H
  refine Evr.ret1 Try.func150 rfl ?_
  show (.lit (.int .i64 t878) : PV) = _
  first | rfl | (simp only [go_sem]; rfl)
 rw [if_neg c2] at H
 have e4 : (a0 == 3) = false := by simpa using c2
 try rw [e4]
 refine Evr.condF rfl (Evr.skip (Evr.seq (Evr.seq (Evr.regionN rfl (Opl.one rfl rfl (by simp only [go_sem]; rfl) (Opl.one rfl rfl (by simp only [go_sem]; rfl) (Opl.nil ?_)))))))
 by_cases c3 : a0 = 4
 case pos =>
  rw [if_pos c3] at H
  have e5 : (a0 == 4) = true := by simpa using c3
  try rw [e5]
  refine Evr.condT rfl (Evr.seq (Evr.regionN rfl (Opl.one rfl rfl (by simp only [go_sem]; rfl) (Opl.one rfl rfl (by simp only [go_sem]; rfl) (Opl.mul (k := .i64) (a := a1) (b := a2) K3 rfl rfl rfl rfl ?_)))))
  obtain ⟨t879, h_t879, H⟩ := Option.bind_eq_some_iff.1 H
  refine Opl.callc (spec_l1Held.ev h_t879) rfl rfl rfl rfl ⟨(.lit _), trivial⟩ (by decide) (Opl.one (v := .lit (.int .i64 t879)) rfl rfl rfl (Opl.nil ?_))
  obtain rfl := Option.some.inj H
  refine Evr.ret1 Try.func150 rfl ?_
  show (.lit (.int .i64 t879) : PV) = _
  first | rfl | (simp only [go_sem]; rfl)
 rw [if_neg c3] at H
 have e6 : (a0 == 4) = false := by simpa using c3
 try rw [e6]
 refine Evr.condF rfl (Evr.skip (Evr.seq (Evr.seq (Evr.regionN rfl (Opl.one rfl rfl (by simp only [go_sem]; rfl) (Opl.one rfl rfl (by simp only [go_sem]; rfl) (Opl.nil ?_)))))))
 by_cases c4 : a0 = 5
 case pos =>
  rw [if_pos c4] at H
  have e7 : (a0 == 5) = true := by simpa using c4
  try rw [e7]
  refine Evr.condT rfl (Evr.seq (Evr.regionN rfl (Opl.one rfl rfl (by simp only [go_sem]; rfl) (Opl.one rfl rfl (by simp only [go_sem]; rfl) (Opl.one rfl rfl (by simp only [go_sem]; rfl) ?_)))))
  obtain ⟨t880, h_t880, H⟩ := Option.bind_eq_some_iff.1 H
  refine Opl.callc (spec_l1Truth.ev h_t880) rfl rfl rfl rfl ⟨(.lit _), trivial⟩ (by decide) (Opl.one rfl rfl (by simp only [go_sem]; rfl) (Opl.nil ?_))
  obtain rfl := Option.some.inj H
  refine Evr.ret1 Try.func150 rfl ?_
  show (.lit (.int .i64 t880) : PV) = _
  first | rfl | (simp only [go_sem]; rfl)
 rw [if_neg c4] at H
 have e8 : (a0 == 5) = false := by simpa using c4
 try rw [e8]
 refine Evr.condF rfl (Evr.skip (Evr.seq (Evr.seq (Evr.regionN rfl (Opl.one rfl rfl (by simp only [go_sem]; rfl) (Opl.one rfl rfl (by simp only [go_sem]; rfl) (Opl.nil ?_)))))))
 by_cases c5 : a0 = 6
 case pos =>
  rw [if_pos c5] at H
  have e9 : (a0 == 6) = true := by simpa using c5
  try rw [e9]
  refine Evr.condT rfl (Evr.seq (Evr.regionN rfl (Opl.one rfl rfl (by simp only [go_sem]; rfl) (Opl.one rfl rfl (by simp only [go_sem]; rfl) (Opl.one rfl rfl (by simp only [go_sem]; rfl) ?_)))))
  obtain ⟨t881, h_t881, H⟩ := Option.bind_eq_some_iff.1 H
  refine Opl.callc (spec_l1Truth.ev h_t881) rfl rfl rfl rfl ⟨(.lit _), trivial⟩ (by decide) (Opl.one rfl rfl (by simp only [go_sem]; rfl) (Opl.nil ?_))
  obtain rfl := Option.some.inj H
  refine Evr.ret1 Try.func150 rfl ?_
  show (.lit (.int .i64 t881) : PV) = _
  first | rfl | (simp only [go_sem]; rfl)
 rw [if_neg c5] at H
 have e10 : (a0 == 6) = false := by simpa using c5
 try rw [e10]
 refine Evr.condF rfl (Evr.skip (Evr.seq (Evr.seq (Evr.regionN rfl (Opl.one rfl rfl (by simp only [go_sem]; rfl) (Opl.one rfl rfl (by simp only [go_sem]; rfl) (Opl.nil ?_)))))))
 by_cases c6 : a0 = 7
 case pos =>
  rw [if_pos c6] at H
  have e11 : (a0 == 7) = true := by simpa using c6
  try rw [e11]
  refine Evr.condT rfl (Evr.seq (Evr.regionN rfl (Opl.one rfl rfl (by simp only [go_sem]; rfl) (Opl.subi (k := .i64) (a := 1) (b := a1) K3 rfl rfl rfl rfl (Opl.one (v := .lit (.int .i64 (wrap64 (1 - a1)))) rfl rfl rfl (Opl.nil ?_))))))
  obtain rfl := Option.some.inj H
  refine Evr.ret1 Try.func150 rfl ?_
  show (.lit (.int .i64 (wrap64 (1 - a1))) : PV) = _
  first | rfl | (simp only [go_sem]; rfl)
 rw [if_neg c6] at H
 have e12 : (a0 == 7) = false := by simpa using c6
 try rw [e12]
 refine Evr.condF rfl (Evr.skip (Evr.seq (Evr.seq (Evr.regionN rfl (Opl.one rfl rfl (by simp only [go_sem]; rfl) (Opl.one rfl rfl (by simp only [go_sem]; rfl) (Opl.nil ?_)))))))
 by_cases c7 : a0 = 8
 case pos =>
  rw [if_pos c7] at H
  have e13 : (a0 == 8) = true := by simpa using c7
  try rw [e13]
  refine Evr.condT rfl (Evr.seq (Evr.regionN rfl (Opl.one rfl rfl (by simp only [go_sem]; rfl) (Opl.one rfl rfl (by simp only [go_sem]; rfl) (Opl.mul (k := .i64) (a := a1) (b := a2) K3 rfl rfl rfl rfl (Opl.one (v := .lit (.int .i64 (wrap64 (a1 * a2)))) rfl rfl rfl (Opl.nil ?_)))))))
  obtain rfl := Option.some.inj H
  refine Evr.ret1 Try.func150 rfl ?_
  show (.lit (.int .i64 (wrap64 (a1 * a2))) : PV) = _
  first | rfl | (simp only [go_sem]; rfl)
 rw [if_neg c7] at H
 have e14 : (a0 == 8) = false := by simpa using c7
 try rw [e14]
 refine Evr.condF rfl (Evr.skip (Evr.seq (Evr.regionN rfl (Opl.one rfl rfl (by simp only [go_sem]; rfl) (Opl.one rfl rfl (by simp only [go_sem]; rfl) (Opl.add (k := .i64) (a := a1) (b := a2) K3 rfl rfl rfl rfl (Opl.gtr (a := (wrap64 (a1 + a2))) (b := 0) K3 rfl rfl rfl rfl ?_)))))))
 obtain ⟨t882, h_t882, H⟩ := Option.bind_eq_some_iff.1 H
 refine Opl.callc (spec_l1Truth.ev h_t882) rfl rfl rfl rfl ⟨(.lit _), trivial⟩ (by decide) (Opl.one (v := .lit (.int .i64 t882)) rfl rfl rfl (Opl.nil ?_))
 obtain rfl := Option.some.inj H
 refine Evr.ret1 Try.func150 rfl ?_
 show (.lit (.int .i64 t882) : PV) = _
 first | rfl | (simp only [go_sem]; rfl)
theorem spec_l1Values.ev {k : Nat} {l0 : List ITerm} {v0 : PV} (hv0 : Sl cITerm l0 v0) {l1 : List Int} {v1 : PV} (hv1 : Sl (cInt .i64) l1 v1) {r : (List Int)} (H : spec_l1Values.f k l0 l1 = some r) : Ret Try.prog 124 [v0, v1] fun v S => Vec (cInt .i64) r v S := by
 unfold spec_l1Values.f at H
 refine Ret.intro Try.func124 rfl (Nat.le_of_ble_eq_true rfl) rfl ?_
 rw [tm2]
 refine Evr.seq (Evr.regionN rfl (Opl.one rfl rfl (by simp only [go_sem]; rfl) (Opl.nil (Evr.seq (Evr.regionN rfl (Opl.lits (M := (cInt .i64)) (ys := []) [] K29 T3 rfl rfl rfl trivial rfl (by decide) rfl rfl rfl ?_))))))
 rintro pv1 S h1 u1 w1
 refine Opl.one rfl rfl (by simp only [go_sem]; rfl) (Opl.nil (Evr.seq (Evr.seq (Evr.regionN rfl (Opl.one rfl rfl (by simp only [go_sem]; rfl) (Opl.nil (Evr.block ?_)))))))
 refine Evr.loop (Evr.rounds (n := k) (Inv := fun n tm S => n ≤ k ∧ ∃ (x5_1 : List Int) (x6_1 : Int) (pv2 : PV), spec_l1Values.l0 n l0 l1 x5_1 x6_1 = some r ∧ Has tm [(0, v0), (1, v1), (5, pv2), (6, .lit (.int .i64 x6_1))] ∧ Vec (cInt .i64) x5_1 pv2 S) ?_ ?_ ?_)
 · exact ⟨Nat.le_refl _, _, _, _, H, ⟨rfl, rfl, rfl, rfl, trivial⟩, h1⟩
 ·
  rintro tm S ⟨_, _, _, _, H, -⟩
  simp [spec_l1Values.l0] at H
 ·
  rintro n1 ih1 tm S ⟨hle, x5_1, x6_1, pv2, H, hh, h2⟩
  simp only [spec_l1Values.l0] at H
  rw [hh.eq]
  refine Evr.seq (Evr.seq (Evr.regionN rfl (Opl.one rfl rfl (by simp only [go_sem]; rfl) (Opl.one rfl rfl (by simp only [go_sem]; rfl) (Opl.len (xs := l0) (by exact hv0) K44 rfl rfl rfl rfl (Opl.one rfl rfl (by simp only [go_sem]; rfl) (Opl.nil ?_)))))))
  by_cases c1 : x6_1 < (l0.length : Int)
  case neg =>
   rw [if_neg c1] at H
   have e6 : (decide (x6_1 < (l0.length : Int))) = false := by simpa using c1
   try rw [e6]
   refine Evr.condF rfl (Evr.exit rfl (Evr.seq (Evr.regionN rfl (Opl.one rfl rfl (by simp only [go_sem]; rfl) (Opl.one rfl rfl (by simp only [go_sem]; rfl) (Opl.nil ?_))))))
   obtain rfl := Option.some.inj H
   refine Evr.ret1 Try.func124 rfl ?_
   show Vec _ _ pv2 _
   exact h2
  rw [if_pos c1] at H
  have e1 : (decide (x6_1 < (l0.length : Int))) = true := by simpa using c1
  try rw [e1]
  refine Evr.condT rfl (Evr.skip (Evr.seq (Evr.block (Evr.seq (Evr.regionN rfl (Opl.one rfl rfl (by simp only [go_sem]; rfl) (Opl.one rfl rfl (by simp only [go_sem]; rfl) ?_)))))))
  obtain ⟨c2, H⟩ := peel H
  refine Opl.idx (M := cITerm) (xs := l0) (j := x6_1) zITerm (by exact hv0) rfl (by first | omega | (simp only [List.length_set] at *; omega)) (by first | omega | (simp only [List.length_set] at *; omega)) K44 Z95 rfl rfl ?_
  rintro p1 q1 h3
  obtain rfl := cITerm_R (x := (rd_ITerm l0 x6_1)) h3
  refine Opl.lda (.agg [.lit (.int .i64 ((rd_ITerm l0 x6_1).f0)), .lit (.int .i64 ((rd_ITerm l0 x6_1).f1)), .lit (.int .i64 ((rd_ITerm l0 x6_1).f2)), .lit (.int .i64 ((rd_ITerm l0 x6_1).f3))]) rfl T95 rfl rfl rfl rfl (Opl.alloc T95 rfl rfl rfl ?_)
  rintro i1 S h4 u2 w2
  have ap1 := w2.vec h2
  have h5 := u2.vec h2 ap1
  refine Opl.stb (vs := [.lit (.int .i64 ((rd_ITerm l0 x6_1).f0)), .lit (.int .i64 ((rd_ITerm l0 x6_1).f1)), .lit (.int .i64 ((rd_ITerm l0 x6_1).f2)), .lit (.int .i64 ((rd_ITerm l0 x6_1).f3))]) h4 rfl rfl Z95 rfl (Nat.le_of_ble_eq_true rfl) rfl rfl rfl rfl ?_
  rintro S (h6 : Box (.ptr i1 0) [.lit (.int .i64 ((rd_ITerm l0 x6_1).f0)), .lit (.int .i64 ((rd_ITerm l0 x6_1).f1)), .lit (.int .i64 ((rd_ITerm l0 x6_1).f2)), .lit (.int .i64 ((rd_ITerm l0 x6_1).f3))] _) u3
  have h7 := u3.vec h5 ap1
  refine Opl.nil (Evr.seq (Evr.regionN rfl (Opl.one (v := .ptr i1 0) rfl rfl (by simp only [go_sem]; rfl) (Opl.ldb (v := .lit (.int .i64 ((rd_ITerm l0 x6_1).f0))) h6 rfl T3 rfl rfl rfl rfl (Opl.one rfl rfl (by simp only [go_sem]; rfl) (Opl.nil ?_))))))
  refine Evr.join (fun tm S => ∃ (kq1 : Nat) (x5_2 : List Int) (pv3 : PV), spec_l1Values.l0 kq1 l0 l1 x5_2 (wrap64 (x6_1 + 1)) = some r ∧ kq1 ≤ n1 ∧ Has tm [(0, v0), (1, v1), (5, pv3), (6, .lit (.int .i64 x6_1))] ∧ Vec (cInt .i64) x5_2 pv3 S) ?_ fun hk1 => ?_
  ·
   rintro tm S ⟨kq1, x5_2, pv3, H, hle, hh, h8⟩
   rw [hh.eq]
   refine Evr.inBlock (Evr.regionN rfl (Opl.one rfl rfl (by simp only [go_sem]; rfl) (Opl.add (k := .i64) (a := x6_1) (b := 1) K3 rfl rfl rfl rfl (Opl.one (v := .lit (.int .i64 (wrap64 (x6_1 + 1)))) rfl rfl rfl (Opl.nil ?_)))))
   exact ih1 _ (by omega) _ _ ⟨by omega, _, _, _, H, ⟨rfl, rfl, rfl, rfl, trivial⟩, h8⟩
  ·
   by_cases c3 : ((rd_ITerm l0 x6_1).f0) = 0
   case pos =>
    rw [if_pos c3] at H
    have e2 : (((rd_ITerm l0 x6_1).f0) == 0) = true := by simpa using c3
    try rw [e2]
    refine Evr.condT rfl (Evr.regionN rfl (Opl.one rfl rfl (by simp only [go_sem]; rfl) (Opl.one (v := .ptr i1 1) rfl rfl (by simp only [go_sem]; rfl) (Opl.ldb (v := .lit (.int .i64 ((rd_ITerm l0 x6_1).f1))) h6 rfl T3 rfl rfl rfl rfl (Opl.lits (M := (cInt .i64)) (ys := [((rd_ITerm l0 x6_1).f1)]) [.tmp 24] K29 T3 rfl rfl rfl (by exact ⟨rfl, trivial⟩) rfl (by decide) rfl rfl rfl ?_)))))
    rintro pv4 S h9 u4 w4
    have ap2 := w4.vec h7
    have h10 := u4.vec h7 ap2
    have ap3 := w4.box h6
    have h11 := u4.box h6 ap3
    obtain ⟨c4, H⟩ := peel H
    refine Opl.app (M := (cInt .i64)) (xs := x5_1) (ys := [((rd_ITerm l0 x6_1).f1)]) (v := pv2) h10 (.vec h9) (oInt .i64) rfl rfl K29 T3 rfl rfl (by (try simp only [List.length_cons, List.length_nil]); omega) (by show (_ + _) * 8 ≤ 140737488355328; (try simp only [List.length_cons, List.length_nil]); omega) rfl rfl rfl rfl rfl ?_
    rintro pv5 S h12 u5 w5
    have ap4 := w5.box h11
    have h13 := u5.box h11 ap1.symm
    have ap5 := w5.vec h9
    have h14 := u5.vec h9 ap2.symm
    refine Opl.one rfl rfl (by simp only [go_sem]; rfl) (Opl.nil ?_)
    exact hk1 _ _ ⟨_, _, _, H, by omega, ⟨rfl, rfl, rfl, rfl, trivial⟩, h12⟩
   rw [if_neg c3] at H
   have e3 : (((rd_ITerm l0 x6_1).f0) == 0) = false := by simpa using c3
   try rw [e3]
   refine Evr.condF rfl (Evr.seq (Evr.regionN rfl (Opl.one (v := .ptr i1 0) rfl rfl (by simp only [go_sem]; rfl) (Opl.ldb (v := .lit (.int .i64 ((rd_ITerm l0 x6_1).f0))) h6 rfl T3 rfl rfl rfl rfl (Opl.one rfl rfl (by simp only [go_sem]; rfl) (Opl.nil ?_))))))
   refine Evr.join (fun tm S => ∃ (kq2 : Nat) (x5_3 : List Int) (pv6 : PV), spec_l1Values.l0 kq2 l0 l1 x5_3 (wrap64 (x6_1 + 1)) = some r ∧ kq2 ≤ n1 ∧ Has tm [(0, v0), (1, v1), (5, pv6), (6, .lit (.int .i64 x6_1))] ∧ Vec (cInt .i64) x5_3 pv6 S) ?_ fun hk2 => ?_
   ·
    rintro tm S ⟨kq2, x5_3, pv6, H, hle, hh, h15⟩
    rw [hh.eq]
    exact hk1 _ _ ⟨_, _, _, H, by omega, ⟨rfl, rfl, rfl, rfl, trivial⟩, h15⟩
   ·
    by_cases c5 : ((rd_ITerm l0 x6_1).f0) = 1
    case pos =>
     rw [if_pos c5] at H
     have e4 : (((rd_ITerm l0 x6_1).f0) == 1) = true := by simpa using c5
     try rw [e4]
     refine Evr.condT rfl (Evr.regionN rfl (Opl.one rfl rfl (by simp only [go_sem]; rfl) (Opl.one rfl rfl (by simp only [go_sem]; rfl) (Opl.one (v := .ptr i1 1) rfl rfl (by simp only [go_sem]; rfl) (Opl.ldb (v := .lit (.int .i64 ((rd_ITerm l0 x6_1).f1))) h6 rfl T3 rfl rfl rfl rfl ?_)))))
     obtain ⟨c6, H⟩ := peel H
     obtain ⟨c7, H⟩ := peel H
     obtain ⟨c8, H⟩ := peel H
     refine Opl.idx (M := (cInt .i64)) (xs := l1) (j := ((rd_ITerm l0 x6_1).f1)) (0 : Int) (by exact hv1) rfl (by first | omega | (simp only [List.length_set] at *; omega)) (by first | omega | (simp only [List.length_set] at *; omega)) K29 Z3 rfl rfl ?_
     rintro p2 q2 h16
     obtain rfl : p2 = [.lit (.int .i64 (rd l1 ((rd_ITerm l0 x6_1).f1)))] := h16
     refine Opl.lda (.lit (.int .i64 (rd l1 ((rd_ITerm l0 x6_1).f1)))) rfl T3 rfl rfl rfl rfl (Opl.lits (M := (cInt .i64)) (ys := [(rd l1 ((rd_ITerm l0 x6_1).f1))]) [.tmp 35] K29 T3 rfl rfl rfl (by exact ⟨rfl, trivial⟩) rfl (by decide) rfl rfl rfl ?_)
     rintro pv7 S h17 u6 w6
     have ap6 := w6.vec h7
     have h18 := u6.vec h7 ap6
     have ap7 := w6.box h6
     have h19 := u6.box h6 ap7
     refine Opl.app (M := (cInt .i64)) (xs := x5_1) (ys := [(rd l1 ((rd_ITerm l0 x6_1).f1))]) (v := pv2) h18 (.vec h17) (oInt .i64) rfl rfl K29 T3 rfl rfl (by (try simp only [List.length_cons, List.length_nil]); omega) (by show (_ + _) * 8 ≤ 140737488355328; (try simp only [List.length_cons, List.length_nil]); omega) rfl rfl rfl rfl rfl ?_
     rintro pv8 S h20 u7 w7
     have ap8 := w7.box h19
     have h21 := u7.box h19 ap1.symm
     have ap9 := w7.vec h17
     have h22 := u7.vec h17 ap6.symm
     refine Opl.one rfl rfl (by simp only [go_sem]; rfl) (Opl.nil ?_)
     exact hk2 _ _ ⟨_, _, _, H, by omega, ⟨rfl, rfl, rfl, rfl, trivial⟩, h20⟩
    rw [if_neg c5] at H
    have e5 : (((rd_ITerm l0 x6_1).f0) == 1) = false := by simpa using c5
    try rw [e5]
    refine Evr.condF rfl (Evr.regionD rfl (by kernel_rfl) (Opl.one rfl rfl (by simp only [go_sem]; rfl) (Opl.one (v := .ptr i1 0) rfl rfl (by simp only [go_sem]; rfl) (Opl.ldb (v := .lit (.int .i64 ((rd_ITerm l0 x6_1).f0))) h6 rfl T3 rfl rfl rfl rfl (Opl.one rfl rfl (by simp only [go_sem]; rfl) (Opl.one (v := .ptr i1 2) rfl rfl (by simp only [go_sem]; rfl) (Opl.ldb (v := .lit (.int .i64 ((rd_ITerm l0 x6_1).f2))) h6 rfl T3 rfl rfl rfl rfl ?_)))))))
    obtain ⟨c9, H⟩ := peel H
    obtain ⟨c10, H⟩ := peel H
    obtain ⟨c11, H⟩ := peel H
    obtain ⟨c12, H⟩ := peel H
    refine Opl.idv (M := (cInt .i64)) (xs := x5_1) (j := ((rd_ITerm l0 x6_1).f2)) (v := pv2) h7 rfl rfl (by first | omega | (simp only [List.length_set] at *; omega)) (by first | omega | (simp only [List.length_set] at *; omega)) K29 Z3 rfl rfl ?_
    rintro d1 z1 q3 h23 h24
    refine Opl.ldv (M := (cInt .i64)) (xs := x5_1) (j := ((rd_ITerm l0 x6_1).f2)) (0 : Int) h23 h24 (by first | omega | (simp only [List.length_set] at *; omega)) (by first | omega | (simp only [List.length_set] at *; omega)) rfl T3 rfl rfl rfl ?_
    rintro p3 q4 h25
    obtain rfl : p3 = [.lit (.int .i64 (rd x5_1 ((rd_ITerm l0 x6_1).f2)))] := h25
    refine ⟨.lit (.int .i64 (rd x5_1 ((rd_ITerm l0 x6_1).f2))), rfl, ?_⟩
    refine Opl.one rfl rfl (by simp only [go_sem]; rfl) (Opl.one (v := .ptr i1 3) rfl rfl (by simp only [go_sem]; rfl) (Opl.ldb (v := .lit (.int .i64 ((rd_ITerm l0 x6_1).f3))) h6 rfl T3 rfl rfl rfl rfl (Opl.idv (M := (cInt .i64)) (xs := x5_1) (j := ((rd_ITerm l0 x6_1).f3)) (v := pv2) h7 rfl rfl (by first | omega | (simp only [List.length_set] at *; omega)) (by first | omega | (simp only [List.length_set] at *; omega)) K29 Z3 rfl rfl ?_)))
    rintro d2 z2 q5 h26 h27
    refine Opl.ldv (M := (cInt .i64)) (xs := x5_1) (j := ((rd_ITerm l0 x6_1).f3)) (0 : Int) h26 h27 (by first | omega | (simp only [List.length_set] at *; omega)) (by first | omega | (simp only [List.length_set] at *; omega)) rfl T3 rfl rfl rfl ?_
    rintro p4 q6 h28
    obtain rfl : p4 = [.lit (.int .i64 (rd x5_1 ((rd_ITerm l0 x6_1).f3)))] := h28
    refine ⟨.lit (.int .i64 (rd x5_1 ((rd_ITerm l0 x6_1).f3))), rfl, ?_⟩
    obtain ⟨t897, h_t897, H⟩ := Option.bind_eq_some_iff.1 H
    refine Opl.callc (spec_l1Do.ev h_t897) rfl rfl rfl rfl ⟨(.lit _), (.lit _), (.lit _), trivial⟩ (by decide) (Opl.lits (M := (cInt .i64)) (ys := [t897]) [.tmp 51] K29 T3 rfl rfl rfl (by exact ⟨rfl, trivial⟩) rfl (by decide) rfl rfl rfl ?_)
    rintro pv9 S h29 u8 w8
    have ap10 := w8.vec h7
    have h30 := u8.vec h7 ap10
    have ap11 := w8.box h6
    have h31 := u8.box h6 ap11
    obtain ⟨c13, H⟩ := peel H
    refine Opl.app (M := (cInt .i64)) (xs := x5_1) (ys := [t897]) (v := pv2) h30 (.vec h29) (oInt .i64) rfl rfl K29 T3 rfl rfl (by (try simp only [List.length_cons, List.length_nil]); omega) (by show (_ + _) * 8 ≤ 140737488355328; (try simp only [List.length_cons, List.length_nil]); omega) rfl rfl rfl rfl rfl ?_
    rintro pv10 S h32 u9 w9
    have ap12 := w9.box h31
    have h33 := u9.box h31 ap1.symm
    have ap13 := w9.vec h29
    have h34 := u9.vec h29 ap10.symm
    refine Opl.one rfl rfl (by simp only [go_sem]; rfl) (Opl.nil ?_)
    exact hk2 _ _ ⟨_, _, _, H, by omega, ⟨rfl, rfl, rfl, rfl, trivial⟩, h32⟩
theorem spec_l2Last.ev {k : Nat} {l0 : List ITerm} {v0 : PV} (hv0 : Sl cITerm l0 v0) {l1 : List Int} {v1 : PV} (hv1 : Sl (cInt .i64) l1 v1) {r : Int} (H : spec_l2Last.f k l0 l1 = some r) : Ret Try.prog 85 [v0, v1] fun v S => v = .lit (.int .i64 r) := by
 unfold spec_l2Last.f at H
 refine Ret.intro Try.func85 rfl (Nat.le_of_ble_eq_true rfl) rfl ?_
 rw [tm2]
 refine Evr.seq (Evr.regionN rfl (Opl.one rfl rfl (by simp only [go_sem]; rfl) (Opl.nil (Evr.seq (Evr.regionN rfl (Opl.one rfl rfl (by simp only [go_sem]; rfl) (Opl.one rfl rfl (by simp only [go_sem]; rfl) ?_)))))))
 obtain ⟨t901, h_t901, H⟩ := Option.bind_eq_some_iff.1 H
 refine Opl.call ((spec_l1Values.ev hv0 hv1 h_t901).mono fun _ _ h => Out.vec h) rfl rfl rfl rfl ⟨hv0.plain, hv1.plain, trivial⟩ (by decide) ?_
 rintro pv1 h1
 refine Opl.one rfl rfl (by simp only [go_sem]; rfl) (Opl.len (xs := l0) (by exact hv0) K44 rfl rfl rfl rfl (Opl.subi (k := .i64) (a := (l0.length : Int)) (b := 1) K3 rfl rfl rfl rfl ?_))
 obtain ⟨c1, H⟩ := peel H
 obtain ⟨c2, H⟩ := peel H
 refine Opl.idx (M := (cInt .i64)) (xs := t901) (j := (wrap64 ((l0.length : Int) - 1))) (0 : Int) (by exact h1) rfl (by first | omega | (simp only [List.length_set] at *; omega)) (by first | omega | (simp only [List.length_set] at *; omega)) K29 Z3 rfl rfl ?_
 rintro p1 q1 h2
 obtain rfl : p1 = [.lit (.int .i64 (rd t901 (wrap64 ((l0.length : Int) - 1))))] := h2
 refine Opl.lda (.lit (.int .i64 (rd t901 (wrap64 ((l0.length : Int) - 1))))) rfl T3 rfl rfl rfl rfl (Opl.one (v := .lit (.int .i64 (rd t901 (wrap64 ((l0.length : Int) - 1))))) rfl rfl rfl (Opl.nil ?_))
 obtain rfl := Option.some.inj H
 refine Evr.ret1 Try.func85 rfl ?_
 show (.lit (.int .i64 (rd t901 (wrap64 ((l0.length : Int) - 1)))) : PV) = _
 first | rfl | (simp only [go_sem]; rfl)
theorem spec_FirstState.ev {k : Nat} {l0_0 : List IVar} {v0_0 : PV} (hv0_0 : Sl cIVar l0_0 v0_0) {l0_1 : List IRule} {v0_1 : PV} (hv0_1 : Sl cIRule l0_1 v0_1) {r : (List Int)} (H : spec_FirstState.f k l0_0 l0_1 = some r) : Ret Try.prog 109 [.agg [v0_0, v0_1]] fun v S => Vec (cInt .i64) r v S := by
 unfold spec_FirstState.f at H
 refine Ret.intro Try.func109 rfl (Nat.le_of_ble_eq_true rfl) rfl ?_
 rw [tm1]
 refine Evr.seq (Evr.regionN rfl (Opl.box (cs := [v0_0, v0_1]) rfl rfl rfl rfl ?_))
 rintro i1 S h1 u1 w1
 refine Opl.one rfl rfl (by simp only [go_sem]; rfl) (Opl.nil (Evr.seq (Evr.regionN rfl (Opl.lits (M := (cInt .i64)) (ys := []) [] K29 T3 rfl rfl rfl trivial rfl (by decide) rfl rfl rfl ?_))))
 rintro pv1 S h2 u2 w2
 have ap1 := w2.box h1
 have h3 := u2.box h1 ap1
 refine Opl.one rfl rfl (by simp only [go_sem]; rfl) (Opl.nil (Evr.seq (Evr.seq (Evr.regionN rfl (Opl.one rfl rfl (by simp only [go_sem]; rfl) (Opl.nil (Evr.block ?_)))))))
 refine Evr.loop (Evr.rounds (n := k) (Inv := fun n tm S => n ≤ k ∧ ∃ (x3_1 : List Int) (x4_1 : Int) (i2 : Abs.Id) (pv2 : PV), spec_FirstState.l0 n x3_1 x4_1 l0_0 l0_1 = some r ∧ Has tm [(1, .ptr i2 0), (3, pv2), (4, .lit (.int .i64 x4_1))] ∧ Box (.ptr i2 0) [v0_0, v0_1] S ∧ Vec (cInt .i64) x3_1 pv2 S ∧ Ap (.ptr i2 0) pv2) ?_ ?_ ?_)
 · exact ⟨Nat.le_refl _, _, _, _, _, H, ⟨rfl, rfl, rfl, trivial⟩, h3, h2, ap1⟩
 ·
  rintro tm S ⟨_, _, _, _, _, H, -⟩
  simp [spec_FirstState.l0] at H
 ·
  rintro n1 ih1 tm S ⟨hle, x3_1, x4_1, i2, pv2, H, hh, h4, h5, ap2⟩
  simp only [spec_FirstState.l0] at H
  rw [hh.eq]
  refine Evr.seq (Evr.seq (Evr.regionN rfl (Opl.one rfl rfl (by simp only [go_sem]; rfl) (Opl.one (v := .ptr i2 0) rfl rfl (by simp only [go_sem]; rfl) (Opl.ldb (v := v0_0) h4 rfl T23 rfl rfl rfl rfl (Opl.len (xs := l0_0) (by exact hv0_0) K23 rfl rfl rfl rfl (Opl.one rfl rfl (by simp only [go_sem]; rfl) (Opl.one rfl rfl (by simp only [go_sem]; rfl) ?_))))))))
  by_cases c1 : x4_1 < (l0_0.length : Int)
  case neg =>
   rw [if_neg c1] at H
   have e2 : (decide (x4_1 < (l0_0.length : Int))) = false := by simpa using c1
   try rw [e2]
   refine Opl.skp rfl (Opl.skp rfl (Opl.one rfl rfl (by simp only [go_sem]; rfl) (Opl.nil (Evr.condF rfl (Evr.exit rfl (Evr.seq (Evr.regionN rfl (Opl.one rfl rfl (by simp only [go_sem]; rfl) (Opl.one rfl rfl (by simp only [go_sem]; rfl) (Opl.nil ?_))))))))))
   obtain rfl := Option.some.inj H
   refine Evr.ret1 Try.func109 rfl ?_
   show Vec _ _ pv2 _
   exact h5
  rw [if_pos c1] at H
  have e1 : (decide (x4_1 < (l0_0.length : Int))) = true := by simpa using c1
  try rw [e1]
  refine Opl.ldb (v := .agg [v0_0, v0_1]) h4 rfl T26 rfl rfl rfl rfl ?_
  obtain ⟨t534, h_t534, H⟩ := Option.bind_eq_some_iff.1 H
  refine Opl.callc (spec_SystemValid.ev hv0_0 hv0_1 h_t534) rfl rfl rfl rfl ⟨(.aggL ⟨hv0_0.plain, hv0_1.plain, trivial⟩), trivial⟩ (by decide) (Opl.one rfl rfl (by simp only [go_sem]; rfl) (Opl.nil ?_))
  by_cases c2 : t534 = true
  case neg =>
   rw [if_neg c2] at H
   obtain rfl : t534 = false := by simpa using c2
   refine Evr.condF rfl (Evr.exit rfl (Evr.seq (Evr.regionN rfl (Opl.one rfl rfl (by simp only [go_sem]; rfl) (Opl.one rfl rfl (by simp only [go_sem]; rfl) (Opl.nil ?_))))))
   obtain rfl := Option.some.inj H
   refine Evr.ret1 Try.func109 rfl ?_
   show Vec _ _ pv2 _
   exact h5
  rw [if_pos c2] at H
  obtain rfl : t534 = true := by simpa using c2
  refine Evr.condT rfl (Evr.skip (Evr.seq (Evr.block (Evr.regionN rfl (Opl.one rfl rfl (by simp only [go_sem]; rfl) (Opl.one (v := .ptr i2 0) rfl rfl (by simp only [go_sem]; rfl) (Opl.ldb (v := v0_0) h4 rfl T23 rfl rfl rfl rfl (Opl.one rfl rfl (by simp only [go_sem]; rfl) ?_))))))))
  obtain ⟨c3, H⟩ := peel H
  obtain ⟨c4, H⟩ := peel H
  refine Opl.idx (M := cIVar) (xs := l0_0) (j := x4_1) zIVar (by exact hv0_0) rfl (by first | omega | (simp only [List.length_set] at *; omega)) (by first | omega | (simp only [List.length_set] at *; omega)) K23 Z61 rfl rfl ?_
  rintro p1 q1 h6
  obtain rfl := cIVar_R (x := (rd_IVar l0_0 x4_1)) h6
  refine Opl.one (v := .fel ((.lit (.int .i64 ((rd_IVar l0_0 x4_1).f2))) :: q1)) rfl rfl (by simp only [go_sem]; rfl) (Opl.lda (.lit (.int .i64 ((rd_IVar l0_0 x4_1).f2))) rfl T3 rfl rfl rfl rfl (Opl.lits (M := (cInt .i64)) (ys := [((rd_IVar l0_0 x4_1).f2)]) [.tmp 23] K29 T3 rfl rfl rfl (by exact ⟨rfl, trivial⟩) rfl (by decide) rfl rfl rfl ?_))
  rintro pv3 S h7 u3 w3
  have ap3 := w3.box h4
  have h8 := u3.box h4 ap3
  have ap4 := w3.vec h5
  have h9 := u3.vec h5 ap4
  refine Opl.app (M := (cInt .i64)) (xs := x3_1) (ys := [((rd_IVar l0_0 x4_1).f2)]) (v := pv2) h9 (.vec h7) (oInt .i64) rfl rfl K29 T3 rfl rfl (by (try simp only [List.length_cons, List.length_nil]); omega) (by show (_ + _) * 8 ≤ 140737488355328; (try simp only [List.length_cons, List.length_nil]); omega) rfl rfl rfl rfl rfl ?_
  rintro pv4 S h10 u4 w4
  have ap5 := w4.box h8
  have h11 := u4.box h8 ap2
  have ap6 := w4.vec h7
  have h12 := u4.vec h7 ap4.symm
  refine Opl.one rfl rfl (by simp only [go_sem]; rfl) (Opl.nil (Evr.inBlock (Evr.regionN rfl (Opl.one rfl rfl (by simp only [go_sem]; rfl) (Opl.add (k := .i64) (a := x4_1) (b := 1) K3 rfl rfl rfl rfl (Opl.one (v := .lit (.int .i64 (wrap64 (x4_1 + 1)))) rfl rfl rfl (Opl.nil ?_)))))))
  exact ih1 _ (by omega) _ _ ⟨by omega, _, _, _, _, H, ⟨rfl, rfl, rfl, trivial⟩, h11, h10, ap5⟩
theorem spec_l3Copy.ev {k : Nat} {l0 : List Int} {v0 : PV} (hv0 : Sl (cInt .i64) l0 v0) {r : (List Int)} (H : spec_l3Copy.f k l0 = some r) : Ret Try.prog 108 [v0] fun v S => Vec (cInt .i64) r v S := by
 unfold spec_l3Copy.f at H
 refine Ret.intro Try.func108 rfl (Nat.le_of_ble_eq_true rfl) rfl ?_
 rw [tm1]
 refine Evr.seq (Evr.regionN rfl (Opl.one rfl rfl (by simp only [go_sem]; rfl) (Opl.nil (Evr.seq (Evr.regionN rfl (Opl.lits (M := (cInt .i64)) (ys := []) [] K29 T3 rfl rfl rfl trivial rfl (by decide) rfl rfl rfl ?_))))))
 rintro pv1 S h1 u1 w1
 refine Opl.one rfl rfl (by simp only [go_sem]; rfl) (Opl.nil (Evr.seq (Evr.seq (Evr.regionN rfl (Opl.one rfl rfl (by simp only [go_sem]; rfl) (Opl.nil (Evr.block ?_)))))))
 refine Evr.loop (Evr.rounds (n := k) (Inv := fun n tm S => n ≤ k ∧ ∃ (x3_1 : List Int) (x4_1 : Int) (pv2 : PV), spec_l3Copy.l0 n l0 x3_1 x4_1 = some r ∧ Has tm [(0, v0), (3, pv2), (4, .lit (.int .i64 x4_1))] ∧ Vec (cInt .i64) x3_1 pv2 S) ?_ ?_ ?_)
 · exact ⟨Nat.le_refl _, _, _, _, H, ⟨rfl, rfl, rfl, trivial⟩, h1⟩
 ·
  rintro tm S ⟨_, _, _, _, H, -⟩
  simp [spec_l3Copy.l0] at H
 ·
  rintro n1 ih1 tm S ⟨hle, x3_1, x4_1, pv2, H, hh, h2⟩
  simp only [spec_l3Copy.l0] at H
  rw [hh.eq]
  refine Evr.seq (Evr.seq (Evr.regionN rfl (Opl.one rfl rfl (by simp only [go_sem]; rfl) (Opl.one rfl rfl (by simp only [go_sem]; rfl) (Opl.len (xs := l0) (by exact hv0) K29 rfl rfl rfl rfl (Opl.one rfl rfl (by simp only [go_sem]; rfl) (Opl.nil ?_)))))))
  by_cases c1 : x4_1 < (l0.length : Int)
  case neg =>
   rw [if_neg c1] at H
   have e2 : (decide (x4_1 < (l0.length : Int))) = false := by simpa using c1
   try rw [e2]
   refine Evr.condF rfl (Evr.exit rfl (Evr.seq (Evr.regionN rfl (Opl.one rfl rfl (by simp only [go_sem]; rfl) (Opl.one rfl rfl (by simp only [go_sem]; rfl) (Opl.nil ?_))))))
   obtain rfl := Option.some.inj H
   refine Evr.ret1 Try.func108 rfl ?_
   show Vec _ _ pv2 _
   exact h2
  rw [if_pos c1] at H
  have e1 : (decide (x4_1 < (l0.length : Int))) = true := by simpa using c1
  try rw [e1]
  refine Evr.condT rfl (Evr.skip (Evr.seq (Evr.block (Evr.regionN rfl (Opl.one rfl rfl (by simp only [go_sem]; rfl) (Opl.one rfl rfl (by simp only [go_sem]; rfl) (Opl.one rfl rfl (by simp only [go_sem]; rfl) ?_)))))))
  obtain ⟨c2, H⟩ := peel H
  obtain ⟨c3, H⟩ := peel H
  refine Opl.idx (M := (cInt .i64)) (xs := l0) (j := x4_1) (0 : Int) (by exact hv0) rfl (by first | omega | (simp only [List.length_set] at *; omega)) (by first | omega | (simp only [List.length_set] at *; omega)) K29 Z3 rfl rfl ?_
  rintro p1 q1 h3
  obtain rfl : p1 = [.lit (.int .i64 (rd l0 x4_1))] := h3
  refine Opl.lda (.lit (.int .i64 (rd l0 x4_1))) rfl T3 rfl rfl rfl rfl (Opl.lits (M := (cInt .i64)) (ys := [(rd l0 x4_1)]) [.tmp 16] K29 T3 rfl rfl rfl (by exact ⟨rfl, trivial⟩) rfl (by decide) rfl rfl rfl ?_)
  rintro pv3 S h4 u2 w2
  have ap1 := w2.vec h2
  have h5 := u2.vec h2 ap1
  refine Opl.app (M := (cInt .i64)) (xs := x3_1) (ys := [(rd l0 x4_1)]) (v := pv2) h5 (.vec h4) (oInt .i64) rfl rfl K29 T3 rfl rfl (by (try simp only [List.length_cons, List.length_nil]); omega) (by show (_ + _) * 8 ≤ 140737488355328; (try simp only [List.length_cons, List.length_nil]); omega) rfl rfl rfl rfl rfl ?_
  rintro pv4 S h6 u3 w3
  have ap2 := w3.vec h4
  have h7 := u3.vec h4 ap1.symm
  refine Opl.one rfl rfl (by simp only [go_sem]; rfl) (Opl.nil (Evr.inBlock (Evr.regionN rfl (Opl.one rfl rfl (by simp only [go_sem]; rfl) (Opl.add (k := .i64) (a := x4_1) (b := 1) K3 rfl rfl rfl rfl (Opl.one (v := .lit (.int .i64 (wrap64 (x4_1 + 1)))) rfl rfl rfl (Opl.nil ?_)))))))
  exact ih1 _ (by omega) _ _ ⟨by omega, _, _, _, H, ⟨rfl, rfl, rfl, trivial⟩, h6⟩
theorem spec_l4State.ev {k : Nat} {l0_0 : List IVar} {v0_0 : PV} (hv0_0 : Sl cIVar l0_0 v0_0) {l0_1 : List IRule} {v0_1 : PV} (hv0_1 : Sl cIRule l0_1 v0_1) {a1 : Int} {r : (List Int)} (H : spec_l4State.f k l0_0 l0_1 a1 = some r) : Ret Try.prog 54 [.agg [v0_0, v0_1], .lit (.int .i64 a1)] fun v S => Vec (cInt .i64) r v S := by
 unfold spec_l4State.f at H
 refine Ret.intro Try.func54 rfl (Nat.le_of_ble_eq_true rfl) rfl ?_
 rw [tm2]
 refine Evr.seq (Evr.regionN rfl (Opl.box (cs := [v0_0, v0_1]) rfl rfl rfl rfl ?_))
 rintro i1 S h1 u1 w1
 refine Opl.one rfl rfl (by simp only [go_sem]; rfl) (Opl.nil (Evr.seq (Evr.regionN rfl (Opl.ldb (v := .agg [v0_0, v0_1]) h1 rfl T26 rfl rfl rfl rfl ?_))))
 obtain ⟨t540, h_t540, H⟩ := Option.bind_eq_some_iff.1 H
 refine Opl.call ((spec_FirstState.ev hv0_0 hv0_1 h_t540).mono fun _ _ h => Out.vec h) rfl rfl rfl rfl ⟨(.aggL ⟨hv0_0.plain, hv0_1.plain, trivial⟩), trivial⟩ (by decide) ?_
 rintro pv1 h2
 obtain ⟨t543, h_t543, H⟩ := Option.bind_eq_some_iff.1 H
 refine Opl.calla (spec_l3Copy.ev h2 h_t543) rfl rfl rfl rfl ⟨h2.plain, trivial⟩ rfl ?_
 rintro pv2 S h3 u2 w2
 have ap1 := w2.box h1
 have h4 := u2.box h1 ap1
 refine Opl.one rfl rfl (by simp only [go_sem]; rfl) (Opl.nil (Evr.seq (Evr.seq (Evr.regionN rfl (Opl.one (v := .ptr i1 0) rfl rfl (by simp only [go_sem]; rfl) (Opl.ldb (v := v0_0) h4 rfl T23 rfl rfl rfl rfl (Opl.len (xs := l0_0) (by exact hv0_0) K23 rfl rfl rfl rfl (Opl.subi (k := .i64) (a := (l0_0.length : Int)) (b := 1) K3 rfl rfl rfl rfl (Opl.one (v := .lit (.int .i64 (wrap64 ((l0_0.length : Int) - 1)))) rfl rfl rfl (Opl.nil (Evr.block ?_)))))))))))
 refine Evr.loop (Evr.rounds (n := k) (Inv := fun n tm S => n ≤ k ∧ ∃ (x1_1 : Int) (x5_1 : List Int) (x6_1 : Int) (i2 : Abs.Id) (pv3 : PV), spec_l4State.l0 n x1_1 x5_1 x6_1 l0_0 l0_1 = some r ∧ Has tm [(1, .lit (.int .i64 x1_1)), (2, .ptr i2 0), (5, pv3), (6, .lit (.int .i64 x6_1))] ∧ Box (.ptr i2 0) [v0_0, v0_1] S ∧ Vec (cInt .i64) x5_1 pv3 S ∧ Ap (.ptr i2 0) pv3) ?_ ?_ ?_)
 · exact ⟨Nat.le_refl _, _, _, _, _, _, H, ⟨rfl, rfl, rfl, rfl, trivial⟩, h4, h3, ap1⟩
 ·
  rintro tm S ⟨_, _, _, _, _, _, H, -⟩
  simp [spec_l4State.l0] at H
 ·
  rintro n1 ih1 tm S ⟨hle, x1_1, x5_1, x6_1, i2, pv3, H, hh, h5, h6, ap2⟩
  simp only [spec_l4State.l0] at H
  rw [hh.eq]
  refine Evr.seq (Evr.seq (Evr.regionN rfl (Opl.one rfl rfl (by simp only [go_sem]; rfl) (Opl.one rfl rfl (by simp only [go_sem]; rfl) (Opl.nil ?_)))))
  by_cases c1 : x6_1 ≥ 0
  case neg =>
   rw [if_neg c1] at H
   have e2 : (decide (x6_1 ≥ 0)) = false := by simpa using c1
   try rw [e2]
   refine Evr.condF rfl (Evr.exit rfl (Evr.seq (Evr.regionN rfl (Opl.one rfl rfl (by simp only [go_sem]; rfl) (Opl.one rfl rfl (by simp only [go_sem]; rfl) (Opl.nil ?_))))))
   obtain rfl := Option.some.inj H
   refine Evr.ret1 Try.func54 rfl ?_
   show Vec _ _ pv3 _
   exact h6
  rw [if_pos c1] at H
  have e1 : (decide (x6_1 ≥ 0)) = true := by simpa using c1
  try rw [e1]
  refine Evr.condT rfl (Evr.skip (Evr.seq (Evr.block (Evr.seq (Evr.regionD rfl (by kernel_rfl) (Opl.one (v := .ptr i2 0) rfl rfl (by simp only [go_sem]; rfl) (Opl.ldb (v := v0_0) h5 rfl T23 rfl rfl rfl rfl (Opl.one rfl rfl (by simp only [go_sem]; rfl) ?_))))))))
  obtain ⟨c2, H⟩ := peel H
  obtain ⟨c3, H⟩ := peel H
  obtain ⟨c4, H⟩ := peelN H
  obtain ⟨c5, H⟩ := peel H
  refine Opl.idx (M := cIVar) (xs := l0_0) (j := x6_1) zIVar (by exact hv0_0) rfl (by first | omega | (simp only [List.length_set] at *; omega)) (by first | omega | (simp only [List.length_set] at *; omega)) K23 Z61 rfl rfl ?_
  rintro p1 q1 h7
  obtain rfl := cIVar_R (x := (rd_IVar l0_0 x6_1)) h7
  refine Opl.one (v := .fel ((.lit (.int .i64 ((rd_IVar l0_0 x6_1).f1))) :: (.lit (.int .i64 ((rd_IVar l0_0 x6_1).f2))) :: q1)) rfl rfl (by simp only [go_sem]; rfl) (Opl.lda (.lit (.int .i64 ((rd_IVar l0_0 x6_1).f1))) rfl T3 rfl rfl rfl rfl (Opl.one (v := .ptr i2 0) rfl rfl (by simp only [go_sem]; rfl) (Opl.ldb (v := v0_0) h5 rfl T23 rfl rfl rfl rfl (Opl.one rfl rfl (by simp only [go_sem]; rfl) (Opl.idx (M := cIVar) (xs := l0_0) (j := x6_1) zIVar (by exact hv0_0) rfl (by first | omega | (simp only [List.length_set] at *; omega)) (by first | omega | (simp only [List.length_set] at *; omega)) K23 Z61 rfl rfl ?_)))))
  rintro p2 q2 h8
  obtain rfl := cIVar_R (x := (rd_IVar l0_0 x6_1)) h8
  refine Opl.one (v := .fel ((.lit (.int .i64 ((rd_IVar l0_0 x6_1).f0))) :: (.lit (.int .i64 ((rd_IVar l0_0 x6_1).f1))) :: (.lit (.int .i64 ((rd_IVar l0_0 x6_1).f2))) :: q2)) rfl rfl (by simp only [go_sem]; rfl) (Opl.lda (.lit (.int .i64 ((rd_IVar l0_0 x6_1).f0))) rfl T3 rfl rfl rfl rfl (Opl.subi (k := .i64) (a := ((rd_IVar l0_0 x6_1).f1)) (b := ((rd_IVar l0_0 x6_1).f0)) K3 rfl rfl rfl rfl (Opl.add (k := .i64) (a := (wrap64 (((rd_IVar l0_0 x6_1).f1) - ((rd_IVar l0_0 x6_1).f0)))) (b := 1) K3 rfl rfl rfl rfl (Opl.one (v := .lit (.int .i64 (wrap64 ((wrap64 (((rd_IVar l0_0 x6_1).f1) - ((rd_IVar l0_0 x6_1).f0))) + 1)))) rfl rfl rfl (Opl.nil (Evr.seq (Evr.regionD rfl (by kernel_rfl) (Opl.one (v := pv3) rfl rfl rfl (Opl.one (v := .lit (.int .i64 x6_1)) rfl rfl rfl (Opl.one (v := .ptr i2 0) rfl rfl (by simp only [go_sem]; rfl) (Opl.ldb (v := v0_0) h5 rfl T23 rfl rfl rfl rfl (Opl.one (v := .lit (.int .i64 x6_1)) rfl rfl rfl (Opl.idx (M := cIVar) (xs := l0_0) (j := x6_1) zIVar (by exact hv0_0) rfl (by first | omega | (simp only [List.length_set] at *; omega)) (by first | omega | (simp only [List.length_set] at *; omega)) K23 Z61 rfl rfl ?_)))))))))))))
  rintro p3 q3 h9
  obtain rfl := cIVar_R (x := (rd_IVar l0_0 x6_1)) h9
  refine Opl.one (v := .fel ((.lit (.int .i64 ((rd_IVar l0_0 x6_1).f0))) :: (.lit (.int .i64 ((rd_IVar l0_0 x6_1).f1))) :: (.lit (.int .i64 ((rd_IVar l0_0 x6_1).f2))) :: q3)) rfl rfl (by simp only [go_sem]; rfl) (Opl.lda (.lit (.int .i64 ((rd_IVar l0_0 x6_1).f0))) rfl T3 rfl rfl rfl rfl (Opl.one (v := .lit (.int .i64 x1_1)) rfl rfl rfl (Opl.one (v := .lit (.int .i64 (wrap64 ((wrap64 (((rd_IVar l0_0 x6_1).f1) - ((rd_IVar l0_0 x6_1).f0))) + 1)))) rfl rfl rfl (Opl.one (v := .lit (.int .i64 (Int.tmod x1_1 (wrap64 ((wrap64 (((rd_IVar l0_0 x6_1).f1) - ((rd_IVar l0_0 x6_1).f0))) + 1))))) rfl rfl (by simp only [go_sem]; rw [if_neg (by first | assumption | decide | omega)]; rfl) (Opl.add (k := .i64) (a := ((rd_IVar l0_0 x6_1).f0)) (b := (Int.tmod x1_1 (wrap64 ((wrap64 (((rd_IVar l0_0 x6_1).f1) - ((rd_IVar l0_0 x6_1).f0))) + 1)))) K3 rfl rfl rfl rfl (Opl.idv (M := (cInt .i64)) (xs := x5_1) (j := x6_1) (v := pv3) h6 rfl rfl (by first | omega | (simp only [List.length_set] at *; omega)) (by first | omega | (simp only [List.length_set] at *; omega)) K29 Z3 rfl rfl ?_))))))
  rintro d1 z1 q4 h10 h11
  refine Opl.stv (M := (cInt .i64)) (xs := x5_1) (j := x6_1) (y := (wrap64 (((rd_IVar l0_0 x6_1).f0) + (Int.tmod x1_1 (wrap64 ((wrap64 (((rd_IVar l0_0 x6_1).f1) - ((rd_IVar l0_0 x6_1).f0))) + 1)))))) (vs := [.lit (.int .i64 (wrap64 (((rd_IVar l0_0 x6_1).f0) + (Int.tmod x1_1 (wrap64 ((wrap64 (((rd_IVar l0_0 x6_1).f1) - ((rd_IVar l0_0 x6_1).f0))) + 1))))))]) h10 h11 (by first | omega | (simp only [List.length_set] at *; omega)) (by first | omega | (simp only [List.length_set] at *; omega)) rfl rfl (by exact rfl) Z3 rfl rfl rfl rfl ?_
  rw [← q4]
  rintro S h12 u3
  have h13 := u3.box h5 ap2
  refine Opl.nil (Evr.regionN rfl (Opl.one (v := .lit (.int .i64 x1_1)) rfl rfl rfl (Opl.one (v := .lit (.int .i64 (wrap64 ((wrap64 (((rd_IVar l0_0 x6_1).f1) - ((rd_IVar l0_0 x6_1).f0))) + 1)))) rfl rfl rfl (Opl.one (v := .lit (.int .i64 (wrap64 (Int.tdiv x1_1 (wrap64 ((wrap64 (((rd_IVar l0_0 x6_1).f1) - ((rd_IVar l0_0 x6_1).f0))) + 1)))))) rfl rfl (by simp only [go_sem]; rw [if_neg (by first | assumption | decide | omega)]; rfl) (Opl.one (v := .lit (.int .i64 (wrap64 (Int.tdiv x1_1 (wrap64 ((wrap64 (((rd_IVar l0_0 x6_1).f1) - ((rd_IVar l0_0 x6_1).f0))) + 1)))))) rfl rfl rfl (Opl.nil (Evr.inBlock (Evr.regionN rfl (Opl.one (v := .lit (.int .i64 x6_1)) rfl rfl rfl (Opl.subi (k := .i64) (a := x6_1) (b := 1) K3 rfl rfl rfl rfl (Opl.one (v := .lit (.int .i64 (wrap64 (x6_1 - 1)))) rfl rfl rfl (Opl.nil ?_))))))))))))
  exact ih1 _ (by omega) _ _ ⟨by omega, _, _, _, _, _, H, ⟨rfl, rfl, rfl, rfl, trivial⟩, h13, h12, ap2⟩
theorem spec_StatesWhere.ev {k : Nat} {l0_0 : List IVar} {v0_0 : PV} (hv0_0 : Sl cIVar l0_0 v0_0) {l0_1 : List IRule} {v0_1 : PV} (hv0_1 : Sl cIRule l0_1 v0_1) {l1 : List ITerm} {v1 : PV} (hv1 : Sl cITerm l1 v1) {r : (List Int)} (H : spec_StatesWhere.f k l0_0 l0_1 l1 = some r) : Ret Try.prog 33 [.agg [v0_0, v0_1], v1] fun v S => Vec (cInt .i64) r v S := by
 unfold spec_StatesWhere.f at H
 refine Ret.intro Try.func33 rfl (Nat.le_of_ble_eq_true rfl) rfl ?_
 rw [tm2]
 refine Evr.seq (Evr.regionN rfl (Opl.box (cs := [v0_0, v0_1]) rfl rfl rfl rfl ?_))
 rintro i1 S h1 u1 w1
 refine Opl.one rfl rfl (by simp only [go_sem]; rfl) (Opl.nil (Evr.seq (Evr.regionN rfl (Opl.lits (M := (cInt .i64)) (ys := []) [] K29 T3 rfl rfl rfl trivial rfl (by decide) rfl rfl rfl ?_))))
 rintro pv1 S h2 u2 w2
 have ap1 := w2.box h1
 have h3 := u2.box h1 ap1
 refine Opl.one rfl rfl (by simp only [go_sem]; rfl) (Opl.nil (Evr.seq (Evr.seq ?_)))
 refine Evr.join (fun tm S => ∃ (kq1 : Nat) (x18_1 : Bool) (i2 : Abs.Id) (pv2 : PV), spec_StatesWhere.j0 kq1 l1 (([] : List Int) : List Int) x18_1 l0_0 l0_1 = some r ∧ Has tm [(1, v1), (2, .ptr i2 0), (5, pv2), (18, .lit (.bool x18_1))] ∧ Box (.ptr i2 0) [v0_0, v0_1] S ∧ Vec (cInt .i64) ([] : List Int) pv2 S ∧ Ap (.ptr i2 0) pv2) ?_ fun hk1 => ?_
 ·
  rintro tm S ⟨kq1, x18_1, i2, pv2, H, hh, h4, h5, ap2⟩
  rw [hh.eq]
  obtain _ | k1 := kq1
  · simp [spec_StatesWhere.j0] at H
  simp only [spec_StatesWhere.j0] at H
  by_cases c1 : x18_1 = true
  case pos =>
   rw [if_pos c1] at H
   obtain rfl : x18_1 = true := by simpa using c1
   refine Evr.condT rfl (Evr.seq (Evr.regionN rfl (Opl.one rfl rfl (by simp only [go_sem]; rfl) (Opl.one rfl rfl (by simp only [go_sem]; rfl) (Opl.nil ?_)))))
   obtain rfl := Option.some.inj H
   refine Evr.ret1 Try.func33 rfl ?_
   show Vec _ _ pv2 _
   exact h5
  rw [if_neg c1] at H
  obtain rfl : x18_1 = false := by simpa using c1
  refine Evr.condF rfl (Evr.skip (Evr.seq (Evr.seq (Evr.regionN rfl (Opl.one rfl rfl (by simp only [go_sem]; rfl) (Opl.nil (Evr.block ?_)))))))
  refine Evr.loop (Evr.rounds (n := k1) (Inv := fun n tm S => n ≤ k1 ∧ ∃ (x5_1 : List Int) (x6_1 : Int) (i3 : Abs.Id) (pv3 : PV), spec_StatesWhere.l0 n l1 x5_1 x6_1 l0_0 l0_1 = some r ∧ Has tm [(1, v1), (2, .ptr i3 0), (5, pv3), (6, .lit (.int .i64 x6_1))] ∧ Box (.ptr i3 0) [v0_0, v0_1] S ∧ Vec (cInt .i64) x5_1 pv3 S ∧ Ap (.ptr i3 0) pv3) ?_ ?_ ?_)
  · exact ⟨Nat.le_refl _, _, _, _, _, H, ⟨rfl, rfl, rfl, rfl, trivial⟩, h4, h5, ap2⟩
  ·
   rintro tm S ⟨_, _, _, _, _, H, -⟩
   simp [spec_StatesWhere.l0] at H
  ·
   rintro n1 ih1 tm S ⟨hle, x5_1, x6_1, i3, pv3, H, hh, h6, h7, ap3⟩
   simp only [spec_StatesWhere.l0] at H
   rw [hh.eq]
   refine Evr.seq (Evr.seq (Evr.regionN rfl (Opl.one rfl rfl (by simp only [go_sem]; rfl) (Opl.ldb (v := .agg [v0_0, v0_1]) h6 rfl T26 rfl rfl rfl rfl ?_))))
   obtain ⟨t911, h_t911, H⟩ := Option.bind_eq_some_iff.1 H
   refine Opl.callc (spec_SizeOf.ev hv0_0 hv0_1 h_t911) rfl rfl rfl rfl ⟨(.aggL ⟨hv0_0.plain, hv0_1.plain, trivial⟩), trivial⟩ (by decide) (Opl.one rfl rfl (by simp only [go_sem]; rfl) (Opl.nil ?_))
   by_cases c2 : x6_1 < t911
   case neg =>
    rw [if_neg c2] at H
    have e4 : (decide (x6_1 < t911)) = false := by simpa using c2
    try rw [e4]
    refine Evr.condF rfl (Evr.exit rfl (Evr.seq (Evr.regionN rfl (Opl.one rfl rfl (by simp only [go_sem]; rfl) (Opl.one rfl rfl (by simp only [go_sem]; rfl) (Opl.nil ?_))))))
    obtain rfl := Option.some.inj H
    refine Evr.ret1 Try.func33 rfl ?_
    show Vec _ _ pv3 _
    exact h7
   rw [if_pos c2] at H
   have e1 : (decide (x6_1 < t911)) = true := by simpa using c2
   try rw [e1]
   refine Evr.condT rfl (Evr.skip (Evr.seq (Evr.block (Evr.seq (Evr.regionN rfl (Opl.one rfl rfl (by simp only [go_sem]; rfl) (Opl.ldb (v := .agg [v0_0, v0_1]) h6 rfl T26 rfl rfl rfl rfl (Opl.one rfl rfl (by simp only [go_sem]; rfl) ?_))))))))
   obtain ⟨t912, h_t912, H⟩ := Option.bind_eq_some_iff.1 H
   refine Opl.call ((spec_l4State.ev hv0_0 hv0_1 h_t912).mono fun _ _ h => Out.vec h) rfl rfl rfl rfl ⟨(.aggL ⟨hv0_0.plain, hv0_1.plain, trivial⟩), (.lit _), trivial⟩ (by decide) ?_
   rintro pv4 h8
   obtain ⟨t915, h_t915, H⟩ := Option.bind_eq_some_iff.1 H
   refine Opl.callc (spec_l2Last.ev hv1 h8 h_t915) rfl rfl rfl rfl ⟨hv1.plain, h8.plain, trivial⟩ (by decide) (Opl.one rfl rfl (by simp only [go_sem]; rfl) (Opl.nil ?_))
   refine Evr.join (fun tm S => ∃ (kq2 : Nat) (x5_2 : List Int) (i4 : Abs.Id) (pv5 : PV), spec_StatesWhere.l0 kq2 l1 x5_2 (wrap64 (x6_1 + 1)) l0_0 l0_1 = some r ∧ kq2 ≤ n1 ∧ Has tm [(1, v1), (2, .ptr i4 0), (5, pv5), (6, .lit (.int .i64 x6_1))] ∧ Box (.ptr i4 0) [v0_0, v0_1] S ∧ Vec (cInt .i64) x5_2 pv5 S ∧ Ap (.ptr i4 0) pv5) ?_ fun hk2 => ?_
   ·
    rintro tm S ⟨kq2, x5_2, i4, pv5, H, hle, hh, h9, h10, ap4⟩
    rw [hh.eq]
    refine Evr.inBlock (Evr.regionN rfl (Opl.one rfl rfl (by simp only [go_sem]; rfl) (Opl.add (k := .i64) (a := x6_1) (b := 1) K3 rfl rfl rfl rfl (Opl.one (v := .lit (.int .i64 (wrap64 (x6_1 + 1)))) rfl rfl rfl (Opl.nil ?_)))))
    exact ih1 _ (by omega) _ _ ⟨by omega, _, _, _, _, H, ⟨rfl, rfl, rfl, rfl, trivial⟩, h9, h10, ap4⟩
   ·
    by_cases c3 : t915 = 1
    case neg =>
     rw [if_neg c3] at H
     have e3 : (t915 == 1) = false := by simpa using c3
     try rw [e3]
     refine Evr.condF rfl (Evr.skip ?_)
     exact hk2 _ _ ⟨_, _, _, _, H, by omega, ⟨rfl, rfl, rfl, rfl, trivial⟩, h6, h7, ap3⟩
    rw [if_pos c3] at H
    have e2 : (t915 == 1) = true := by simpa using c3
    try rw [e2]
    refine Evr.condT rfl (Evr.regionN rfl (Opl.one rfl rfl (by simp only [go_sem]; rfl) (Opl.one rfl rfl (by simp only [go_sem]; rfl) (Opl.lits (M := (cInt .i64)) (ys := [x6_1]) [.tmp 33] K29 T3 rfl rfl rfl (by exact ⟨rfl, trivial⟩) rfl (by decide) rfl rfl rfl ?_))))
    rintro pv6 S h11 u3 w3
    have ap5 := w3.box h6
    have h12 := u3.box h6 ap5
    have ap6 := w3.vec h7
    have h13 := u3.vec h7 ap6
    obtain ⟨c4, H⟩ := peel H
    refine Opl.app (M := (cInt .i64)) (xs := x5_1) (ys := [x6_1]) (v := pv3) h13 (.vec h11) (oInt .i64) rfl rfl K29 T3 rfl rfl (by (try simp only [List.length_cons, List.length_nil]); omega) (by show (_ + _) * 8 ≤ 140737488355328; (try simp only [List.length_cons, List.length_nil]); omega) rfl rfl rfl rfl rfl ?_
    rintro pv7 S h14 u4 w4
    have ap7 := w4.box h12
    have h15 := u4.box h12 ap3
    have ap8 := w4.vec h11
    have h16 := u4.vec h11 ap6.symm
    refine Opl.one rfl rfl (by simp only [go_sem]; rfl) (Opl.nil ?_)
    exact hk2 _ _ ⟨_, _, _, _, H, by omega, ⟨rfl, rfl, rfl, rfl, trivial⟩, h15, h14, ap7⟩
 ·
  refine Evr.regionN rfl (Opl.ldb (v := .agg [v0_0, v0_1]) h3 rfl T26 rfl rfl rfl rfl ?_)
  obtain ⟨y906, hy_, H⟩ := Option.bind_eq_some_iff.1 H
  obtain rfl := Option.some.inj hy_
  obtain ⟨t909, h_t909, H⟩ := Option.bind_eq_some_iff.1 H
  refine Opl.callc (spec_SystemValid.ev hv0_0 hv0_1 h_t909) rfl rfl rfl rfl ⟨(.aggL ⟨hv0_0.plain, hv0_1.plain, trivial⟩), trivial⟩ (by decide) (Opl.one rfl rfl (by simp only [go_sem]; rfl) (Opl.one rfl rfl (by simp only [go_sem]; rfl) ?_))
  by_cases c5 : t909 = true
  case neg =>
   rw [if_neg c5] at H
   have e6 : (!t909) = true := by simpa using c5
   try rw [e6]
   refine Opl.skp rfl (Opl.skp rfl (Opl.skp rfl (Opl.skp rfl (Opl.skp rfl (Opl.skp rfl (Opl.one rfl rfl (by simp only [go_sem]; rfl) (Opl.nil ?_)))))))
   exact hk1 _ _ ⟨_, _, _, _, H, ⟨rfl, rfl, rfl, (by first | rfl | (show PV.lit (.bool _) = _; congr 2; simp_all)), trivial⟩, h3, h2, ap1⟩
  rw [if_pos c5] at H
  have e5 : (!t909) = false := by simpa using c5
  try rw [e5]
  refine Opl.one rfl rfl (by simp only [go_sem]; rfl) (Opl.one (v := .ptr i1 0) rfl rfl (by simp only [go_sem]; rfl) (Opl.ldb (v := v0_0) h3 rfl T23 rfl rfl rfl rfl (Opl.len (xs := l0_0) (by exact hv0_0) K23 rfl rfl rfl rfl ?_)))
  obtain ⟨t910, h_t910, H⟩ := Option.bind_eq_some_iff.1 H
  refine Opl.callc (spec_l2Is.ev hv1 h_t910) rfl rfl rfl rfl ⟨hv1.plain, (.lit _), (.lit _), trivial⟩ (by decide) (Opl.one rfl rfl (by simp only [go_sem]; rfl) (Opl.one rfl rfl (by simp only [go_sem]; rfl) (Opl.nil ?_)))
  exact hk1 _ _ ⟨_, _, _, _, H, ⟨rfl, rfl, rfl, (by first | rfl | (show PV.lit (.bool _) = _; congr 2; simp_all)), trivial⟩, h3, h2, ap1⟩
end Go.Proofs.Ytjgonefohfldjaa.PA
